/- . -/
import Derived.Test.YtgnomadgnciifaaGreatDoorZ8
set_option linter.unusedVariables false
set_option linter.unusedSimpArgs false
set_option linter.unusedSectionVars false
set_option maxRecDepth 100000
set_option maxHeartbeats 16000000
namespace Go.Proofs.YtgnomadgnciifaaGreatDoor
theorem d5b {p:Prop} (h:p:=by
 go_enter Tryz.func177,Tryz.ntmps177
 go_wp2_with ((first|(refine c2s ?_;clear hF;intro wN hF)|((refine w_box (cs:=e.cells) rfl hF rfl ?_);clear hF;intro gN wN hF;(try refine zs ?_))|((refine w_ldp (v:=e.inst.val) (n:=5) rfl hF rfl ?_ (hn:=Nat.le_of_ble_eq_true rfl));(try refine zs ?_))|((first|refine zrd ?_|(refine zst ?_;clear hF;(first|intro gN wN hF|intro wN hF|intro hF))|(refine zap ?_;clear hF;intro vN wN hF));refine zs ?_)))
 obtain ⟨A2,c2,hA,hF⟩:=hF.freeze 0 at0
 injection hA with e1 _ e2
 go_ret
 exact ⟨A2,c2,by rw [← e1,← e2];rfl,hF.outA⟩):p:=h
theorem d5c {p:Prop} (h:p:=by
 go_wp2_with ((first|(go_at_call 80;refine (HF.out _ (a2t (hF.dat _ zdm) (hF.dat _ zdm))).mono ?_;rintro e wN ⟨rfl,hb⟩;replace hF:=hF.grow hb;clear hb)|(go_at_call 63;refine (HL.out _).mono ?_;rintro e wN ⟨rfl,d,rfl⟩;replace hF:=hF.grow (Bel.drewN _ d))|((first|refine zrd ?_|(refine zst ?_;clear hF;(first|intro gN wN hF|intro wN hF|intro hF))|(refine zap ?_;clear hF;intro vN wN hF));refine zs ?_)))
 ((try simp only [Exit.inBlock,Exit.then]);refine bodyPost_ret (b1y rfl hF) rfl ?_)
 exact ⟨rfl,hF.bel⟩):p:=h
theorem d5d {p:Prop} (h:p:=by
 clear o3
 go_enter Tryz.func212,Tryz.ntmps212
 (go_wp2_with ((first|((refine w_box (cs:=i.cells) rfl hF rfl ?_);clear hF;intro gN wN hF;(try refine zs ?_))|(go_at_call 219;refine (HT.out _).mono ?_;rintro x wN ⟨rfl,rfl⟩)|((first|refine zrd ?_|(refine zst ?_;clear hF;(first|intro gN wN hF|intro wN hF|intro hF))|(refine zap ?_;clear hF;intro vN wN hF));refine zs ?_))))
 go_ret
 exact ⟨a2m (by rw [hV.out];exact b7i _ _),hF.bel⟩):p:=h
theorem d5e {p:Prop} (h:p:=by
 go_enter Tryz.func133,Tryz.ntmps133
 go_wp2_with ((first|(refine c2t ?_;clear hF;intro wN hF)|((refine w_lde (us:=e.cells) (v:=e.val) (hu:=Rows.sub (f:=ens) hu) rfl hF rfl ?_);refine zs ?_)|((first|refine zrd ?_|(refine zst ?_;clear hF;(first|intro gN wN hF|intro wN hF|intro hF))|(refine zap ?_;clear hF;intro vN wN hF));refine zs ?_)))
 go_ret
 exact ⟨rfl,hF.bel⟩):p:=h
theorem d5f {p:Prop} (h:p:=by
 go_wp2_with (((first|refine zrd ?_|(refine zst ?_;clear hF;(first|intro gN wN hF|intro wN hF|intro hF))|(refine zap ?_;clear hF;intro vN wN hF));refine zs ?_))
 ((try simp only [Exit.inBlock,Exit.then]);refine bodyPost_ret (b1y rfl hF) rfl ?_)
 exact ⟨rfl,hF.bel⟩):p:=h
theorem d5g {p:Prop} (h:p:=by
 obtain ⟨hl,e⟩:=List.getElem?_eq_some_iff.1 hv
 rw [List.take_succ_eq_append_getElem hl]
 intro u hu
 rcases List.mem_append.1 hu with hu|hu
 ·exact h u hu
 ·obtain rfl:=List.mem_singleton.1 hu
  rw [e];exact hd):p:=h
section

def c4q (n k:Nat) (v:Wy):Prop:=v.line % 16=0∧v.line / 16 % n=k∧(v.data.size=0∨v.data.size=16)
theorem d5h {n:Nat} {ways:Int} {k:Nat} {ws:List Wy}:a7i n ways k ws↔(ws.length:Int)≤ways∧(∀ v∈ws,c4q n k v)∧(ws.map Wy.line).Nodup:=by
 constructor
 ·rintro ⟨h1,h2⟩
  refine ⟨h1,fun v hv=>?_,?_⟩
  ·obtain ⟨i,hi⟩:=List.mem_iff_getElem?.1 hv
   obtain ⟨a,b,c,_⟩:=h2 i v hi
   exact ⟨a,b,c⟩
  ·rw [List.nodup_iff_pairwise_ne,List.pairwise_map,List.pairwise_iff_getElem]
   intro i j hi hj hij
   exact (h2 j _ (List.getElem?_eq_getElem hj)).2.2.2 i hij _ (List.getElem?_eq_getElem hi)
 ·rintro ⟨h1,h2,h3⟩
  refine ⟨h1,fun i v hv=>?_⟩
  obtain ⟨a,b,c⟩:=h2 v (List.mem_of_getElem? hv)
  refine ⟨a,b,c,fun j hj u hu=>?_⟩
  rw [List.nodup_iff_pairwise_ne,List.pairwise_map,List.pairwise_iff_getElem] at h3
  obtain ⟨hi,e1⟩:=List.getElem?_eq_some_iff.1 hv
  obtain ⟨hj',e2⟩:=List.getElem?_eq_some_iff.1 hu
  have:=h3 j i hj' hi hj
  rwa [e1,e2] at this
theorem g7d {ws:List Wy} {i:Nat} {v:Wy} (h:ws[i]?=some v):ws=ws.take i++v::ws.drop (i+1):=by
 obtain ⟨hl,e⟩:=List.getElem?_eq_some_iff.1 h
 conv=>lhs;rw [← List.take_append_drop i ws,List.drop_eq_getElem_cons hl,e]
theorem c4r {n:Nat} {ways:Int} {k:Nat} {ws:List Wy} (h:a7i n ways k ws) {i:Nat} {v u:Wy} (hv:ws[i]?=some v) (hl:u.line=v.line) (hd:u.data.size=0∨u.data.size=16):a7i n ways k (a3t ws i u):=by
 rw [d5h] at h ⊢
 obtain ⟨h1,h2,h3⟩:=h
 have e:=g7d hv
 have hp:(ws.map Wy.line).Perm ((a3t ws i u).map Wy.line):=by
  conv=>lhs;rw [e]
  simp only [a3t,List.map_cons,List.map_append,hl]
  exact List.perm_middle
 refine ⟨?_,fun x hx=>?_,hp.nodup_iff.1 h3⟩
 ·have:=hp.length_eq
  rw [List.length_map,List.length_map] at this
  omega
 ·rcases List.mem_cons.1 hx with rfl|hx
  ·obtain ⟨a,b,_⟩:=h2 v (List.mem_of_getElem? hv)
   exact ⟨by rw [hl];exact a,by rw [hl];exact b,hd⟩
  ·refine h2 x ?_
   rcases List.mem_append.1 hx with h|h
   ·exact List.mem_of_mem_take h
   ·exact List.mem_of_mem_drop h
theorem d5i {n:Nat} {ways:Int} {k:Nat} {ws:List Wy} (h:a7i n ways k ws) (hlen:(ws.length:Int)+1≤ways) {u:Wy} (hu:c4q n k u) (hn:a9y ws u.line):a7i n ways k (u::ws):=by
 rw [d5h] at h ⊢
 obtain ⟨h1,h2,h3⟩:=h
 refine ⟨by rw [List.length_cons];omega,fun x hx=>?_,?_⟩
 ·rcases List.mem_cons.1 hx with rfl|hx
  ·exact hu
  ·exact h2 x hx
 ·rw [List.map_cons,List.nodup_cons]
  refine ⟨fun hm=>?_,h3⟩
  obtain ⟨v,hv,e⟩:=List.mem_map.1 hm
  exact hn v hv e
theorem g7e {n:Nat} {ways:Int} {k:Nat} {ws:List Wy} (h:a7i n ways k ws) (l:Nat):a7i n ways k (ws.take l):=by
 refine ⟨by have:=h.1;rw [List.length_take];omega,fun i v hv=>?_⟩
 have hi:i<l:=by
  have:=(List.getElem?_eq_some_iff.1 hv).1
  rw [List.length_take] at this;omega
 rw [List.getElem?_take_of_lt hi] at hv
 obtain ⟨a,b,c,d⟩:=h.2 i v hv
 exact ⟨a,b,c,fun j hj u hu=>d j hj u (by rwa [List.getElem?_take_of_lt (by omega)] at hu)⟩
theorem RightP.set_ {ways:Int} {C:List (List Wy)} (h:RightP ways C) {k:Nat} {ws:List Wy} (hw:a7i C.length ways k ws):RightP ways (C.set k ws):=by
 refine ⟨by rw [List.length_set];exact h.hn,h.hw,fun j s hs=>?_⟩
 rw [List.length_set]
 by_cases hj:k=j
 ·subst hj
  have hl:k<C.length:=by have:=(List.getElem?_eq_some_iff.1 hs).1;rwa [List.length_set] at this
  rw [List.getElem?_set_self hl] at hs
  injection hs with hs
  rw [← hs];exact hw
 ·rw [List.getElem?_set_ne hj] at hs
  exact h.hs j s hs
theorem c4s (d:ByteArray):(a8f d).size=0∨(a8f d).size=16:=by
 unfold a8f
 split
 ·exact .inr (by assumption)
 ·exact .inl rfl
theorem d5j {ways:Int} {C:List (List Wy)} {x k i:Nat} {b:Bool} (h:FindR ways C x k i b) (hR:RightP ways C) (d:Bool) (D:ByteArray) (hD:D.size=0∨D.size=16):c4q C.length k ⟨x - x % 16,d,D⟩ :=
 ⟨by show (x - x % 16) % 16=0;omega,by rw [← (h.set_ hR).1];show (x - x % 16) / 16 % _=_;congr 1;omega,hD⟩
theorem FindR.notIn {ways:Int} {C:List (List Wy)} {x k i:Nat} (h:FindR ways C x k i false) (hR:RightP ways C) {ws:List Wy} (hw:C[k]?=some ws):a9y ws (x - x % 16):=by
 obtain ⟨_,ws',hw',_,hs⟩:=h.set_ hR
 rw [hw] at hw';injection hw' with hw';subst hw'
 rcases hs with ⟨hb,_⟩|⟨_,_,h⟩
 ·cases hb
 ·exact h
theorem FindR.size {ways:Int} {C:List (List Wy)} {x k i:Nat} (h:FindR ways C x k i true) {ws:List Wy} {v:Wy} (hw:C[k]?=some ws) (hv:ws[i]?=some v):v.data.size=0∨v.data.size=16:=((h.at_.1.hs k ws hw).2 i v hv).2.2.1
theorem TouchR.right {ways:Int} {C C':List (List Wy)} {x:Nat} (h:TouchR ways C x C') (hR:RightP ways C):RightP ways C':=by
 cases h with
 | no k i h he=>subst he;exact hR
 | yes k i h ws v hw hv he=>
  subst he
  exact hR.set_ (c4r (hR.hs k ws hw) hv rfl (h.size hw hv))
theorem PutR.right {ways:Int} {C C':List (List Wy)} {x:Nat} {data:ByteArray} {dirty:Bool} {gone:Wy} {went:Bool} (h:PutR ways C x data dirty C' gone went) (hR:RightP ways C):RightP ways C':=by
 cases h with
 | no h he hg hb=>subst he;exact hR
 | hit k i h ws v hw hv he hg hb=>
  subst he
  refine hR.set_ (c4r (hR.hs k ws hw) hv rfl ?_)
  dsimp only
  split
  ·exact .inr (by assumption)
  ·exact h.size hw hv
 | room k i _ h ws hw hl he hg hb=>
  subst he
  exact hR.set_ (d5i (hR.hs k ws hw) (by omega) (d5j h hR dirty _ (c4s data)) (h.notIn hR hw))
 | full k i _ h ws hw hl l hl1 hgv he hb=>
  subst he
  exact hR.set_ (d5i (g7e (hR.hs k ws hw) l) (by rw [List.length_take];omega) (d5j h hR dirty _ (c4s data)) (g7c (h.notIn hR hw)))
theorem TouchR.cok {ways:Int} {C C':List (List Wy)} {x:Nat} (h:TouchR ways C x C') (ho:COk C):COk C':=by
 cases h with
 | no k i h he=>subst he;exact ho
 | yes k i h ws v hw hv he=>
  subst he
  have:=ho.at_ hw
  refine ho.set k fun u hu=>?_
  rcases List.mem_cons.1 hu with rfl|hu
  ·exact this _ (List.mem_of_getElem? hv)
  ·rcases List.mem_append.1 hu with h|h
   ·exact this u (List.mem_of_mem_take h)
   ·exact this u (List.mem_of_mem_drop h)
theorem PutR.cok {ways:Int} {C C':List (List Wy)} {x:Nat} {data:ByteArray} {dirty:Bool} {gone:Wy} {went:Bool} (h:PutR ways C x data dirty C' gone went) (ho:COk C) (hx:x<4294967296) (hd:data.size≤maxLen):COk C':=by
 have ht:(a8f data).size≤maxLen:=by
  rcases c4s data with h|h <;> rw [h] <;> decide
 cases h with
 | no h he hg hb=>subst he;exact ho
 | hit k i h ws v hw hv he hg hb=>
  subst he
  have:=ho.at_ hw
  refine ho.set k fun u hu=>?_
  rcases List.mem_cons.1 hu with rfl|hu
  ·have hv':=this _ (List.mem_of_getElem? hv)
   refine ⟨hv'.1,?_⟩
   dsimp only
   split
   ·exact hd
   ·exact hv'.2
  ·rcases List.mem_append.1 hu with h|h
   ·exact this u (List.mem_of_mem_take h)
   ·exact this u (List.mem_of_mem_drop h)
 | room k i _ h ws hw hl he hg hb=>
  subst he
  refine ho.set k fun u hu=>?_
  rcases List.mem_cons.1 hu with rfl|hu
  ·exact ⟨by show x - x % 16<_;omega,ht⟩
  ·exact ho.at_ hw u hu
 | full k i _ h ws hw hl l hl1 hgv he hb=>
  subst he
  refine ho.set k fun u hu=>?_
  rcases List.mem_cons.1 hu with rfl|hu
  ·exact ⟨by show x - x % 16<_;omega,ht⟩
  ·exact ho.at_ hw u (List.mem_of_mem_take hu)
end
section
open Go.RowKit Go.Sort
section
variable {P:Program} {ops:Array Oper} {rest:List Oper} {o:Oper} {a:Act} {Q:Exit→Act→World→Prop} {w0 w:World} {D0 D:List Da} {M:List Mu}
theorem g7f {w:World} {t e:TypeId} {k0 k:IntKind} {bytes:Nat} (ht:SlT P t e (.int k0 0) 1 bytes) (p q:Int) :
  (Instr.buildSlice t 2 #[(0,.int k p),(1,.int k q)]).run P w = .ok (.slice (some ⟨w.heap.size,0,none⟩) 2 2) (w.alloc (.cells #[.int k p,.int k q] e)):=by
 obtain ⟨hu,hi,hz,hp⟩:=ht
 obtain ⟨i,hi1,hz1,hs1,_⟩:=info_parts hi
 refine run_buildSlice w t e 2 _ #[.int k p,.int k q] i (.int k0 0) hu hi1 hz1 (by rw [hs1];omega) (by rw [hs1];omega) ?_
 rw [hs1,show Array.range (2 * 1)=#[0,1] from rfl]
 simp [Instr.fill,Value.cells]
theorem g7g {t e:TypeId} {x y:Operand} {k0 k:IntKind} {bytes:Nat} {p q:Int} (ho:o.op = .buildSlice t 2 #[(0,x),(1,y)]) (hF:St w0 D0 w M D) (hx:a1b a x=some (.int k p)) (hy:a1b a y=some (.int k q))
  (h:∀ g w',St w0 D0 w' (.own (.slice (some ⟨g,0,none⟩) 2 2) e 1 2 [.int k p,.int k q]::M) D→wpList P ops Q rest (a.put o.dst (.slice (some ⟨g,0,none⟩) 2 2)) w') (hgd:o.guard=none:=by rfl) (ht:SlT P t e (.int k0 0) 1 bytes:=by exact a3o _ _ _ _ _ rfl):wpList P ops Q (o::rest) a w:=by
 refine wpList_plain hgd fun K hK=>?_
 have hF':St w0 D0 (w.alloc (.cells #[.int k p,.int k q] e)) (.own (.slice (some ⟨w.heap.size,0,none⟩) 2 2) e 1 2 [.int k p,.int k q]::M) D :=
  hF.push _ (a6l (Bel.alloc w _) none) ⟨rfl,.inr ⟨w.heap.size,2,#[.int k p,.int k q],rfl,hF.bel.size,heap_alloc_new w _,Nat.le_refl _,by simp [maxLen],rfl,rfl⟩⟩ fun g hg=>by simp only [Mu.bl,Value.ownBlock,Option.some.injEq] at hg;omega
 have hk:=hK _ _ (h _ _ hF')
 replace hx:=look_eval hx
 replace hy:=look_eval hy
 unfold Oper.wp execOp
 simp only [ho,List.map_toArray,List.map_cons,List.map_nil,hx,hy,g7f ht,Sem.run_bind,Sem.run_pure,Result.andThen_ok]
 exact hk
end
theorem g7h (e:En) (w:World) (hi:okI e.inst.op) :
  Calls Tryz.prog 174 #[e.val] w fun x w'=>x = .returned (.bool (b3g e))∧Bel w w':=by
 have hF:=St.start w [] (fun d hd=>by cases hd)
 have hcl:e.val.cells=e.cells.toArray:=rfl
 obtain ⟨b,hb⟩:∃ b,b3g e=b:=⟨_,rfl⟩
 rw [hb]
 have HK:=Lib.hid (fun W=>a2o e.inst W hi)
 unfold b3g at hb
 rcases b6y e.inst.op with hk|hk|hk|hk|hk|hk|hk
 all_goals
  rw [hk] at HK hb
  clear hk
  simp at hb
  subst hb
  go_enter Tryz.func174,Tryz.ntmps174
  go_wp2_with ((first|(refine b5r ?_;clear hF;intro wN hF)|((refine w_box (cs:=e.cells) rfl hF rfl ?_);clear hF;intro gN wN hF;(try refine zs ?_))|((refine w_ldp (v:=e.inst.val) (n:=5) rfl hF rfl ?_ (hn:=Nat.le_of_ble_eq_true rfl));(try refine zs ?_))|((first|refine zrd ?_|(refine zst ?_;clear hF;(first|intro gN wN hF|intro wN hF|intro hF))|(refine zap ?_;clear hF;intro vN wN hF));refine zs ?_)))
  go_ret
  exact ⟨rfl,hF.bel⟩
theorem g7i (e:En) (w:World) (hi:okI e.inst.op) :
  Calls Tryz.prog 177 #[e.val] w fun x w'=>∃ A2 c2,x = .returned (.slice A2 (a7m e).length c2)∧Out w [] w' [a1a 1 A2 (a7m e).length c2 (a1i (a7m e))]:=by
 have hF:=St.start w [] (fun d hd=>by cases hd)
 have hcl:e.val.cells=e.cells.toArray:=rfl
 have HK:=Lib.hid (fun W=>a2o e.inst W hi)
 have HRd:=Lib.hid (fun W=>b7c e.inst W)
 have HN:=Lib.hid (show a7m e=if a1e e.inst.op=3∨a1e e.inst.op=4 then [e.inst.rs1] else [e.inst.rs1,e.inst.rs2] from rfl)
 obtain ⟨L,hL⟩:∃ L,a7m e=L:=⟨_,rfl⟩
 rw [hL] at HN ⊢
 clear hL
 by_cases h3:a1e e.inst.op=3
 ·obtain rfl:L=[e.inst.rs1]:=by rw [HN.out,if_pos (.inl h3)]
  rw [h3] at HK
  clear HN h3
  exact d5b
 ·by_cases h4:a1e e.inst.op=4
  ·obtain rfl:L=[e.inst.rs1]:=by rw [HN.out,if_pos (.inr h4)]
   rw [h4] at HK
   clear HN h4 h3
   exact d5b
  ·obtain rfl:L=[e.inst.rs1,e.inst.rs2]:=by rw [HN.out,if_neg (by omega)]
   generalize a1e e.inst.op=kd at *
   clear HN
   go_enter Tryz.func177,Tryz.ntmps177
   go_wp2_with ((first|(refine c2s ?_;clear hF;intro wN hF)|(refine g7g rfl hF rfl rfl ?_;clear hF;intro gN wN hF;(try refine zs ?_))|((refine w_box (cs:=e.cells) rfl hF rfl ?_);clear hF;intro gN wN hF;(try refine zs ?_))|((refine w_ldp (v:=e.inst.val) (n:=5) rfl hF rfl ?_ (hn:=Nat.le_of_ble_eq_true rfl));(try refine zs ?_))|((refine w_eqF rfl rfl rfl ?_);refine zs ?_)|((first|refine zrd ?_|(refine zst ?_;clear hF;(first|intro gN wN hF|intro wN hF|intro hF))|(refine zap ?_;clear hF;intro vN wN hF));refine zs ?_)))
   obtain ⟨A2,c2,hA,hF⟩:=hF.freeze 0 at0
   injection hA with e1 _ e2
   go_ret
   exact ⟨A2,c2,by rw [← e1,← e2];rfl,hF.outA⟩
theorem d5k {g4 g5:Nat} {A:Option Addr} {n c:Nat} {q:List En} {i reg:Int} {w:World} (hb4:Bk w g4 31 [.slice A n c]) (hb5:Bk w g5 3 [.int .i64 i]) (hr:Rd w w.heap.size 17 A n c (ens q)) (hq:ensOk q) (hn:n≤1000) (hi:okI i) (hg:okI reg) :
  Calls Tryz.prog 175 #[.int .i64 reg,.pointer (some ⟨g4,0,none⟩),.pointer (some ⟨g5,0,none⟩)] w fun x w'=>x = .returned (.bool (!a9k q i reg))∧Bel w w':=by
 have c4:=hb4.cell 0
 have c5:=hb5.cell 0
 dsimp only [List.getElem?_cons_zero] at c4 c5
 have HT:=Lib.hid (g6e A n c i reg q w hr hq hn hi hg)
 clear hr hb4 hb5
 go_enter Tryz.func175,Tryz.ntmps175
 go_wp2_with (go_at_call 176;refine HT.out.mono ?_;rintro x wN ⟨rfl,hb⟩)
 go_ret
 exact ⟨rfl,hb⟩
theorem g7j (mode:Int) (A:Option Addr) (n c:Nat) (q:List En) (i:Nat) (e:En) (w:World) (hr:Rd w w.heap.size 17 A n c (ens q)) (hq:ensOk q) (hn:n≤1000) (hu:q[i]?=some e) :
  Calls Tryz.prog 133 #[.int .i64 mode,.slice A n c,.int .i64 (i:Int)] w fun x w'=>x = .returned (.bool (a9l mode q i e))∧Bel w w':=by
 have hF:=St.start w [a1a 17 A n c (ens q)] (fun d hd=>by obtain rfl:=List.mem_singleton.1 hd;exact hr)
 have hql:=hr.enslen
 have hin:i<n:=by have:=(List.getElem?_eq_some_iff.1 hu).1;omega
 have hok:=hq e (List.mem_of_getElem? hu)
 have hi:okI (i:Int):=⟨by omega,by omega⟩
 have HTe:=Lib.hid (fun W=>g7h e W hok.op)
 have HNe:=Lib.hid (fun W=>g7i e W hok.op)
 have HV:=Lib.hid (fun W (h:Rd W W.heap.size 17 A n c (ens q))=>d4w A n c q i W h hq (by omega))
 have HM:=Lib.hid (show a9l mode q i e=if b3g e=false then true else if mode=0 then true else if mode=1 then (a7m e).all (fun r=>!a9k q i r) else if mode=2 then decide (i≤a3p q) else false from rfl)
 have hneed:∀ r∈a7m e,okI r:=fun r hr=>by
  unfold a7m at hr
  split at hr
  ·rw [List.mem_singleton.1 hr];exact hok.rs1
  ·rcases List.mem_cons.1 hr with h|h
   ·rw [h];exact hok.rs1
   ·rw [List.mem_singleton.1 h];exact hok.rs2
 have hnl:(a7m e).length≤2:=by unfold a7m;split <;> simp
 obtain ⟨R,hR⟩:∃ R,a9l mode q i e=R:=⟨_,rfl⟩
 rw [hR] at HM ⊢
 cases ht:b3g e
 ·obtain rfl:R=true:=by rw [HM.out,if_pos ht]
  rw [ht] at HTe
  clear HM hR ht
  exact d5e
 ·rw [ht] at HTe HM
  clear hR ht
  by_cases h0:mode=0
  ·subst h0
   obtain rfl:R=true:=by rw [HM.out];rfl
   clear HM
   exact d5e
  ·by_cases h1:mode=1
   ·subst h1
    obtain rfl:R=(a7m e).all (fun r=>!a9k q i r):=by rw [HM.out];rfl
    clear HM
    generalize a7m e=L at *
    go_enter Tryz.func133,Tryz.ntmps133
    go_wp2_with ((first|(refine c2t ?_;clear hF;intro wN hF)|(go_at_call 177;refine (HNe.out _).mono ?_;rintro x wN ⟨A2,c2,rfl,hO⟩;replace hF:=hF.call1A hO;clear hO)|((refine w_lde (us:=e.cells) (v:=e.val) (hu:=Rows.sub (f:=ens) hu) rfl hF rfl ?_);refine zs ?_)|((first|refine zrd ?_|(refine zst ?_;clear hF;(first|intro gN wN hF|intro wN hF|intro hF))|(refine zap ?_;clear hF;intro vN wN hF));refine zs ?_)))
    obtain ⟨g5,g4,rfl,rfl⟩:=hF.names2
    go_loopw [36] (fun ix wr=>∃ j:Nat,j≤L.length∧ix = .int .i64 (j:Int)∧(∀ r∈L.take j,a9k q i r=false)∧St w [a1a 17 A n c (ens q)] wr [.blk g5 3 [.int .i64 (i:Int)],.blk g4 31 [.slice A n c]] [a1a 1 A2 L.length c2 (a1i L),a1a 17 A n c (ens q)]) (fun ix _=>L.length - (intOf ix).toNat)
    case atStart=>exact ⟨0,by omega,rfl,by simp,hF⟩
    case round=>
     obtain ⟨j,hj,rfl,hall,hF⟩:=hrel
     by_cases hjl:j<L.length
     ·obtain ⟨r,hjr⟩:∃ r,L[j]?=some r:=⟨_,List.getElem?_eq_getElem hjl⟩
      have hv:(a1i L)[j * 1]?=some (.int .i64 r):=by rw [Nat.mul_one];exact b1i hjr
      have hrok:=hneed r (List.mem_of_getElem? hjr)
      have HJ:=Lib.hid hjr
      replace hall:=Lib.hid hall
      cases htr:a9k q i r
      ·have htr2:=Lib.hid htr
       go_wp2_with ((first|(go_at_call 175;refine (d5k (hF.bk zdm) (hF.bk zdm) hF.rdA hq hn (by assumption) (by assumption)).mono ?_;rintro x wN ⟨rfl,hb⟩;replace hF:=hF.grow hb;clear hb)|((first|refine zrd ?_|(refine zst ?_;clear hF;(first|intro gN wN hF|intro wN hF|intro hF))|(refine zap ?_;clear hF;intro vN wN hF));refine zs ?_)))
       go_roundw
       case rel=>
        refine ⟨j+1,by omega,by go_num,fun x hx=>?_,hF⟩
        rw [List.take_add_one,HJ.out] at hx
        rcases List.mem_append.1 hx with h|h
        ·exact hall.out x h
        ·have h':x=r:=by simpa using h
         rw [h'];exact htr2.out
       case measure=>first|(simp [intOf];done)|(simp [intOf];omega)
      ·have hR2:=Lib.hid (show L.all (fun r=>!a9k q i r)=false by
        rw [List.all_eq_false]
        exact ⟨r,List.mem_of_getElem? hjr,by simp [htr]⟩)
       go_wp2_with ((first|(go_at_call 175;refine (d5k (hF.bk zdm) (hF.bk zdm) hF.rdA hq hn (by assumption) (by assumption)).mono ?_;rintro x wN ⟨rfl,hb⟩;replace hF:=hF.grow hb;clear hb)|((first|refine zrd ?_|(refine zst ?_;clear hF;(first|intro gN wN hF|intro wN hF|intro hF))|(refine zap ?_;clear hF;intro vN wN hF));refine zs ?_)))
       go_ret
       exact ⟨by rw [hR2.out];rfl,hF.bel⟩
     ·obtain rfl:j=L.length:=by omega
      rw [List.take_length] at hall
      have hR2:=Lib.hid (show L.all (fun r=>!a9k q i r)=true by
       rw [List.all_eq_true]
       exact fun r hr=>by simp [hall r hr])
      clear hall
      go_wp2_with (((first|refine zrd ?_|(refine zst ?_;clear hF;(first|intro gN wN hF|intro wN hF|intro hF))|(refine zap ?_;clear hF;intro vN wN hF));refine zs ?_))
      go_ret
      exact ⟨by rw [hR2.out];rfl,hF.bel⟩
   ·by_cases h2:mode=2
    ·subst h2
     obtain rfl:R=decide (i≤a3p q):=by rw [HM.out];rfl
     clear HM
     generalize a3p q=f at *
     go_enter Tryz.func133,Tryz.ntmps133
     go_wp2_with ((first|(refine f3t ?_;clear hF;intro wN hF)|((refine w_lde (us:=e.cells) (v:=e.val) (hu:=Rows.sub (f:=ens) hu) rfl hF rfl ?_);refine zs ?_)|((first|refine zrd ?_|(refine zst ?_;clear hF;(first|intro gN wN hF|intro wN hF|intro hF))|(refine zap ?_;clear hF;intro vN wN hF));refine zs ?_)))
     go_ret
     exact ⟨by simp,hF.bel⟩
    ·obtain rfl:R=false:=by rw [HM.out,if_neg (by simp),if_neg h0,if_neg h1,if_neg h2]
     clear HM
     go_enter Tryz.func133,Tryz.ntmps133
     go_wp2_with ((first|(refine c2t ?_;clear hF;intro wN hF)|((refine w_lde (us:=e.cells) (v:=e.val) (hu:=Rows.sub (f:=ens) hu) rfl hF rfl ?_);refine zs ?_)|((refine w_eqF rfl rfl rfl ?_);refine zs ?_)|((first|refine zrd ?_|(refine zst ?_;clear hF;(first|intro gN wN hF|intro wN hF|intro hF))|(refine zap ?_;clear hF;intro vN wN hF));refine zs ?_)))
     go_ret
     exact ⟨rfl,hF.bel⟩
end
section
open Go.RowKit Go.Sort
def a4z (ws:List Wy):Prop:=∀ v∈ws,v.dirty=false
inductive DirtyR (ways:Int) (C:List (List Wy)) (v:Wy) (b:Bool):Prop
 | no (h:¬ RightP ways C) (hv:v=⟨0,false,⟨#[]⟩⟩) (hb:b=false)
 | none (h:RightP ways C) (hc:∀ ws∈C,a4z ws) (hv:v=⟨0,false,⟨#[]⟩⟩) (hb:b=false)
 | one (h:RightP ways C) (k j:Nat) (ws:List Wy) (hk:∀ us∈C.take k,a4z us) (hw:C[k]?=some ws) (hj:a4z (ws.take j)) (hv:ws[j]?=some v) (hd:v.dirty=true) (hb:b=true)
theorem g7k (ws:List Wy):a4z ws ∨ ∃ j v,a4z (ws.take j)∧ws[j]?=some v∧v.dirty=true:=by
 induction ws with
 | nil=>exact .inl fun v hv=>by cases hv
 | cons x r ih=>
  cases hx:x.dirty
  ·rcases ih with h|⟨j,v,h1,h2,h3⟩
   ·refine .inl fun v hv=>?_
    rcases List.mem_cons.1 hv with rfl|hv
    ·exact hx
    ·exact h v hv
   ·refine .inr ⟨j+1,v,fun u hu=>?_,by simpa using h2,h3⟩
    rw [List.take_succ_cons] at hu
    rcases List.mem_cons.1 hu with rfl|hu
    ·exact hx
    ·exact h1 u hu
  ·exact .inr ⟨0,x,fun v hv=>by simp at hv,rfl,hx⟩
theorem g7l (C:List (List Wy)):(∀ ws∈C,a4z ws) ∨ ∃ k j ws v,(∀ us∈C.take k,a4z us)∧C[k]?=some ws∧a4z (ws.take j)∧ws[j]?=some v∧v.dirty=true:=by
 induction C with
 | nil=>exact .inl fun v hv=>by cases hv
 | cons x r ih=>
  rcases g7k x with hx|⟨j,v,h1,h2,h3⟩
  ·rcases ih with h|⟨k,j,ws,v,h1,h2,h3⟩
   ·refine .inl fun v hv=>?_
    rcases List.mem_cons.1 hv with rfl|hv
    ·exact hx
    ·exact h v hv
   ·refine .inr ⟨k+1,j,ws,v,fun u hu=>?_,by simpa using h2,h3⟩
    rw [List.take_succ_cons] at hu
    rcases List.mem_cons.1 hu with rfl|hu
    ·exact hx
    ·exact h1 u hu
  ·exact .inr ⟨0,j,x,v,fun v hv=>by simp at hv,rfl,h1,h2,h3⟩
theorem g7m {ws:List Wy} {j:Nat} {v:Wy} (h:a4z (ws.take j)) (hv:ws[j]?=some v) (hd:v.dirty=false):a4z (ws.take (j+1)):=by
 exact d5g
theorem g7n {C:List (List Wy)} {j:Nat} {v:List Wy} (h:∀ us∈C.take j,a4z us) (hv:C[j]?=some v) (hd:a4z v):∀ us∈C.take (j+1),a4z us:=by
 exact d5g
theorem DirtyR.at_ {ways:Int} {C:List (List Wy)} {v u:Wy} {b:Bool} (h:DirtyR ways C v b) (hR:RightP ways C) {k j:Nat} {ws:List Wy} (hk:∀ us∈C.take k,a4z us) (hw:C[k]?=some ws) (hj:a4z (ws.take j)) (hu:ws[j]?=some u) (hd:u.dirty=true):v=u∧b=true:=by
 have hmem {i k:Nat} {α:Type} {l:List α} {x:α} (hx:l[i]?=some x) (hik:i<k):x∈l.take k:=by
  obtain ⟨hl,e⟩:=List.getElem?_eq_some_iff.1 hx
  rw [← e]
  exact List.mem_take_iff_getElem.2 ⟨i,by omega,rfl⟩
 cases h with
 | no h hv hb=>exact absurd hR h
 | none h hc hv hb=>have:=hc ws (List.mem_of_getElem? hw) u (List.mem_of_getElem? hu);rw [hd] at this;cases this
 | one h k' j' ws' hk' hw' hj' hv' hd' hb=>
  refine ⟨?_,hb⟩
  rcases Nat.lt_trichotomy k k' with hl|rfl|hl
  ·have:=hk' ws (hmem hw hl) u (List.mem_of_getElem? hu);rw [hd] at this;cases this
  ·rw [hw] at hw';injection hw' with hw';subst hw'
   rcases Nat.lt_trichotomy j j' with hl|rfl|hl
   ·have:=hj' u (hmem hu hl);rw [hd] at this;cases this
   ·rw [hu] at hv';injection hv' with hv';exact hv'.symm
   ·have:=hj v (hmem hv' hl);rw [hd'] at this;cases this
  ·have:=hk ws' (hmem hw' hl) v (List.mem_of_getElem? hv');rw [hd'] at this;cases this
theorem DirtyR.end_ {ways:Int} {C:List (List Wy)} {v:Wy} {b:Bool} (h:DirtyR ways C v b) (hk:∀ us∈C,a4z us):v=⟨0,false,⟨#[]⟩⟩∧b=false:=by
 cases h with
 | no h hv hb=>exact ⟨hv,hb⟩
 | none h hc hv hb=>exact ⟨hv,hb⟩
 | one h k' j' ws' hk' hw' hj' hv' hd' hb=>have:=hk ws' (List.mem_of_getElem? hw') v (List.mem_of_getElem? hv');rw [hd'] at this;cases this
theorem g7o {ways:Int} {A:Option Addr} {n c:Nat} {S:List Cs} (ho:SOk S) {v:Wy} {b:Bool} (h:DirtyR ways (a1j S) v b) (w:World) (hr:RdS w w.heap.size A n c S) :
  Calls Tryz.prog 87 #[.agg #[.int .i64 ways,.slice A n c]] w fun e w'=>e = .returned (.tuple #[v.val,.bool b])∧Bel w w':=by
 have hF:=St.start w _ (a6j hr)
 unfold a3k at hF
 by_cases hR:RightP ways (a1j S)
 ·have HR:=Lib.hid (a8g (A:=A) (n:=n) (c:=c) ho (b2e hR))
  have hsl:=hr.slen
  have hc1:=hr.rd.le
  have hc2:=hr.rd.mx
  unfold maxLen at hc2
  replace h:=Lib.hid h
  replace hR:=Lib.hid hR
  go_enter Tryz.func87,Tryz.ntmps87
  go_wp2_with ((first|(go_at_call 120;refine (HR.out _ (a2t (hF.dat _ zdm) (hF.dat _ zdm))).mono ?_;rintro e wN ⟨rfl,hb⟩;replace hF:=hF.grow hb;clear hb)|((first|refine zrd ?_|(refine zst ?_;clear hF;(first|intro gN wN hF|intro wN hF|intro hF))|(refine zap ?_;clear hF;intro vN wN hF));refine zs ?_)))
  obtain ⟨gR,gC,rfl,rfl⟩:=hF.names2
  go_loopw [15] (fun i wr=>∃ k:Nat,k≤n∧i = .int .i64 (k:Int)∧Hid (∀ us∈(a1j S).take k,a4z us)∧St w [a1a 1 A n c (csv S),a1l S] wr [.blk gR 101 [.int .u32 0,.bool false,.string ⟨#[]⟩],.blk gC 35 [.int .i64 ways,.slice A n c]] [a1a 1 A n c (csv S),a1l S]) (fun i _=>n - (intOf i).toNat)
  case atStart=>exact ⟨0,by omega,rfl,Lib.hid (fun us hu=>by simp at hu),hF⟩
  case round=>
   obtain ⟨k,hk,rfl,hck,hF⟩:=hrel
   by_cases hkn:k<n
   ·obtain ⟨s,hs⟩:∃ s,S[k]?=some s:=⟨_,List.getElem?_eq_getElem (by omega)⟩
    obtain ⟨sA,m,sc,ws⟩:=s
    have hF:=hF.elem zdm hs
    simp only at hF
    have hse:=hF.rd (sz:=3) (A:=sA) (n:=m) (c:=sc) (xs:=wys ws) zdm
    have hm1:=hse.le
    have hm2:=hse.mx
    have hwl:=Lib.hid hse.wyslen
    have hset:=Lib.hid (b9z hs)
    unfold maxLen at hm2
    clear hse
    go_wp2_with (((first|refine zrd ?_|(refine zst ?_;clear hF;(first|intro gN wN hF|intro wN hF|intro hF))|(refine zap ?_;clear hF;intro vN wN hF));refine zs ?_))
    go_loopw [21] (fun i wr=>∃ j:Nat,j≤m∧i = .int .i64 (j:Int)∧Hid (a4z (ws.take j))∧St w [a1a 1 A n c (csv S),a1l S] wr [.blk gR 101 [.int .u32 0,.bool false,.string ⟨#[]⟩],.blk gC 35 [.int .i64 ways,.slice A n c]] [a1a 3 sA m sc (wys ws),a1a 1 A n c (csv S),a1l S]) (fun i _=>m - (intOf i).toNat)
    case atStart=>exact ⟨0,by omega,rfl,Lib.hid (fun us hu=>by simp at hu),hF⟩
    case round=>
     obtain ⟨j,hj,rfl,hcj,hF⟩:=hrel
     by_cases hjm:j<m
     ·obtain ⟨u,hu⟩:∃ u,ws[j]?=some u:=⟨_,List.getElem?_eq_getElem (by have:=hwl.out;omega)⟩
      obtain ⟨ul,ud,ub⟩:=u
      cases ud
      ·go_wp2_with (((first|refine zrd ?_|(refine zst ?_;clear hF;(first|intro gN wN hF|intro wN hF|intro hF))|(refine zap ?_;clear hF;intro vN wN hF));refine zs ?_))
       go_roundw
       case rel=>exact ⟨j+1,by omega,by go_num,Lib.hid (g7m hcj.out hu rfl),hF.drop 0⟩
       case measure=>first|(simp [intOf];done)|(simp [intOf];omega)
      ·obtain ⟨rfl,rfl⟩:=h.out.at_ hR.out hck.out hset.out hcj.out hu rfl
       exact d5f
     ·obtain rfl:j=m:=by omega
      go_wp2_with (((first|refine zrd ?_|(refine zst ?_;clear hF;(first|intro gN wN hF|intro wN hF|intro hF))|(refine zap ?_;clear hF;intro vN wN hF));refine zs ?_))
      go_roundw
      case rel=>exact ⟨k+1,by omega,by go_num,Lib.hid (g7n hck.out hset.out (by have:=hcj.out;rwa [List.take_of_length_le (by have:=hwl.out;omega)] at this)),hF.lessD (by ((repeat (first|exact a1f|refine a1m zdm ?_)) <;> exact a1f))⟩
      case measure=>first|(simp [intOf];done)|(simp [intOf];omega)
   ·obtain rfl:k=n:=by omega
    obtain ⟨rfl,rfl⟩:=h.out.end_ (by have:=hck.out;rwa [List.take_of_length_le (by rw [a3n];omega)] at this)
    exact d5f
 ·have HR:=Lib.hid (a8g (A:=A) (n:=n) (c:=c) ho (noR hR))
  obtain ⟨rfl,rfl⟩:v=⟨0,false,⟨#[]⟩⟩∧b=false:=by
   cases h with
   | no h hv hb=>exact ⟨hv,hb⟩
   | none h hc hv hb=>exact absurd h hR
   | one h k' j' ws' hk' hw' hj' hv' hd' hb=>exact absurd h hR
  go_enter Tryz.func87,Tryz.ntmps87
  go_wp2_with ((first|(go_at_call 120;refine (HR.out _ (a2t (hF.dat _ zdm) (hF.dat _ zdm))).mono ?_;rintro e wN ⟨rfl,hb⟩;replace hF:=hF.grow hb;clear hb)|((first|refine zrd ?_|(refine zst ?_;clear hF;(first|intro gN wN hF|intro wN hF|intro hF))|(refine zap ?_;clear hF;intro vN wN hF));refine zs ?_)))
  ((try simp only [Exit.inBlock,Exit.then]);refine bodyPost_ret (b1y rfl hF) rfl ?_)
  exact ⟨rfl,hF.bel⟩
end
section
open Go.RowKit Wd
theorem g7p (n:Nat) (h:n<4294967296):bits .andNot .u32 (n:Int) 1=((n - n % 2:Nat):Int):=by
 have:=u32_andNot_nat n 1 h (by omega)
 rw [show ((1:Nat):Int)=1 from rfl] at this
 rw [this,nat_midmask 32 1 n (by decide)]
 omega
theorem c1j (i:Ins) (pc a b:Nat):a7y i pc a b<4294967296:=by
 unfold a7y
 have h1:=a4r pc i.imm
 have h2:=a4r pc 4
 have h3:=a4r a i.imm
 split
 ·exact h1
 split
 ·dsimp only;omega
 ·exact h2
theorem g7q (i:Ins) (pc a b:Nat) (w:World) (ha:a<4294967296) (hb:b<4294967296) :
  Calls Tryz.prog 212 #[i.val,.int .u32 (pc:Int),.int .u32 (a:Int),.int .u32 (b:Int)] w fun x w'=>x = .returned (.int .u32 (a7y i pc a b:Int))∧Bel w w':=by
 have hF:=St.start w [] (fun d hd=>by cases hd)
 have HT:=Lib.hid (fun W=>g5j i.op a b W ha hb)
 have hcl:i.val.cells=i.cells.toArray:=rfl
 have hV:=(show a7y i pc a b=if i.op=3∨a4b i.op a b=true then a1k pc i.imm else if i.op=4 then (let n:=a1k a i.imm;n - n % 2) else a1k pc 4 from rfl)
 generalize a4b i.op a b=tk at *
 by_cases o3:i.op=3
 ·have c3:(i.op == 3)=true:=by simpa using o3
  replace hV:=Lib.hid (hV.trans (if_pos (.inl o3)))
  exact d5d
 have c3:(i.op == 3)=false:=by simpa using o3
 cases tk
 ·rw [if_neg (fun h=>h.elim o3 (fun h=>by cases h))] at hV
  clear o3
  by_cases o4:i.op=4
  ·have c4:(i.op == 4)=true:=by simpa using o4
   replace hV:=Lib.hid (hV.trans (if_pos o4))
   clear o4
   go_enter Tryz.func212,Tryz.ntmps212
   (go_wp2_with ((first|((refine w_box (cs:=i.cells) rfl hF rfl ?_);clear hF;intro gN wN hF;(try refine zs ?_))|(go_at_call 219;refine (HT.out _).mono ?_;rintro x wN ⟨rfl,rfl⟩)|((first|refine zrd ?_|(refine zst ?_;clear hF;(first|intro gN wN hF|intro wN hF|intro hF))|(refine zap ?_;clear hF;intro vN wN hF));refine zs ?_))))
   go_ret
   exact ⟨a2m (by rw [hV.out,b7i];exact g7p _ (a4r _ _)),hF.bel⟩
  ·have c4:(i.op == 4)=false:=by simpa using o4
   replace hV:=Lib.hid (hV.trans (if_neg o4))
   clear o4
   go_enter Tryz.func212,Tryz.ntmps212
   (go_wp2_with ((first|((refine w_box (cs:=i.cells) rfl hF rfl ?_);clear hF;intro gN wN hF;(try refine zs ?_))|(go_at_call 219;refine (HT.out _).mono ?_;rintro x wN ⟨rfl,rfl⟩)|((first|refine zrd ?_|(refine zst ?_;clear hF;(first|intro gN wN hF|intro wN hF|intro hF))|(refine zap ?_;clear hF;intro vN wN hF));refine zs ?_))))
   go_ret
   exact ⟨a2m (by rw [hV.out];exact add4_c _),hF.bel⟩
 ·replace hV:=Lib.hid (hV.trans (if_pos (.inr rfl)))
  exact d5d
theorem g7r (i:Ins) (pc a b:Nat) (w:World) (ha:a<4294967296) (hb:b<4294967296) :
  Calls Tryz.prog 182 #[i.val,.int .u32 (pc:Int),.int .u32 (a:Int),.int .u32 (b:Int)] w fun x w'=>x = .returned (.tuple #[.int .u32 (a7y i pc a b:Int),.bool (decide (a7y i pc a b % 4=0))])∧Bel w w':=by
 have hF:=St.start w [] (fun d hd=>by cases hd)
 have HN:=Lib.hid (fun W=>g7q i pc a b W ha hb)
 have hcl:i.val.cells=i.cells.toArray:=rfl
 have hl:=c1j i pc a b
 generalize a7y i pc a b=n at *
 have hb4:((n:Int) % 4 == 0)=decide (n % 4=0):=by rw [Bool.eq_iff_iff];simp;omega
 go_enter Tryz.func182,Tryz.ntmps182
 go_wp2_with ((first|((refine w_box (cs:=i.cells) rfl hF rfl ?_);clear hF;intro gN wN hF;(try refine zs ?_))|(refine f3b ?_;clear hF;intro wN hF)|((first|refine zrd ?_|(refine zst ?_;clear hF;(first|intro gN wN hF|intro wN hF|intro hF))|(refine zap ?_;clear hF;intro vN wN hF));refine zs ?_)))
 go_returns
 exact ⟨rfl,hF.bel⟩
end
section
open Go.RowKit Go.Sort
def b2g (d:ByteArray) (f:Nat) (b:ByteArray):ByteArray:=d.extract 0 f++b++d.extract (f+b.size) d.size
theorem g7s (d:ByteArray) (f:Nat) (b:ByteArray):(b2g d f b).data.toList=d.data.toList.take f++b.data.toList++d.data.toList.drop (f+b.size):=by
 simp only [b2g,ByteArray.data_append,Array.toList_append,b8h,List.drop_zero]
 congr 1
 rw [List.take_of_length_le (by simp)]
theorem d5l {d:ByteArray} {f:Nat} {b:ByteArray} (h:f+b.size≤d.size):(b2g d f b).size=d.size:=by
 have:=congrArg List.length (g7s d f b)
 simp only [List.length_append,List.length_take,List.length_drop,b1q] at this
 omega
inductive WriteR (ways:Int) (C:List (List Wy)) (x:Nat) (bytes:ByteArray) (C':List (List Wy)) (ok:Bool):Prop
 | no (k i:Nat) (h:FindR ways C x k i false) (he:C'=C) (hb:ok=false)
 | bad (k i:Nat) (h:FindR ways C x k i true) (ws:List Wy) (v:Wy) (hw:C[k]?=some ws) (hv:ws[i]?=some v) (hd:v.data.size=0∨v.data.size=16∧16<x % 16+bytes.size) (he:C'=C) (hb:ok=false)
 | yes (k i:Nat) (h:FindR ways C x k i true) (ws:List Wy) (v:Wy) (hw:C[k]?=some ws) (hv:ws[i]?=some v) (hd:v.data.size=16) (hf:x % 16+bytes.size≤16)
   (he:C'=C.set k (a3t ws i ⟨v.line,true,b2g v.data (x % 16) bytes⟩)) (hb:ok=true)
theorem g7t (ways:Int) (A:Option Addr) (n c x:Nat) (bytes:ByteArray) (S:List Cs) (k i:Nat) (w:World) (hr:RdS w w.heap.size A n c S) (HF:Hid (a8v 80 ways A n c x S k i false)) :
  Calls Tryz.prog 145 #[.agg #[.int .i64 ways,.slice A n c],.int .u32 (x:Int),.string bytes] w fun e w'=>e = .returned (.tuple #[.agg #[.int .i64 ways,.slice A n c],.bool false])∧Bel w w':=by
 have hF:=St.start w _ (a6j hr)
 unfold a3k at hF
 go_enter Tryz.func145,Tryz.ntmps145
 go_wp2_with ((first|(go_at_call 80;refine (HF.out _ (a2t (hF.dat _ zdm) (hF.dat _ zdm))).mono ?_;rintro e wN ⟨rfl,hb⟩;replace hF:=hF.grow hb;clear hb)|((first|refine zrd ?_|(refine zst ?_;clear hF;(first|intro gN wN hF|intro wN hF|intro hF))|(refine zap ?_;clear hF;intro vN wN hF));refine zs ?_)))
 ((try simp only [Exit.inBlock,Exit.then]);refine bodyPost_ret (b1y rfl hF) rfl ?_)
 exact ⟨rfl,hF.bel⟩
theorem d5m {x:Nat} (w:World) (hx:x<4294967296):∃ lo f,x - x % 16=lo∧x % 16=f∧f<16∧(x:Int) - (lo:Int)=(f:Int)∧Hid (∀ W,Calls Tryz.prog 63 #[.int .u32 (x:Int)] W fun e w'=>e = .returned (.int .u32 (lo:Int)) ∧ ∃ d,w'=W.drewN d) :=
 ⟨_,_,rfl,rfl,by omega,by omega,Lib.hid fun W=>a6u x W hx⟩
theorem g7u (ways:Int) (A:Option Addr) (n c x:Nat) (bytes:ByteArray) (S:List Cs) (k i:Nat) (ws:List Wy) (v:Wy) (w:World) (hr:RdS w w.heap.size A n c S) (hx:x<4294967296) (hbs:bytes.size≤maxLen) (hk:k<n) (hset:(a1j S)[k]?=some ws) (hv:ws[i]?=some v)
  (hd:v.data.size=0∨v.data.size=16∧16<x % 16+bytes.size) (HF:Hid (a8v 80 ways A n c x S k i true)) :
  Calls Tryz.prog 145 #[.agg #[.int .i64 ways,.slice A n c],.int .u32 (x:Int),.string bytes] w fun e w'=>e = .returned (.tuple #[.agg #[.int .i64 ways,.slice A n c],.bool false])∧Bel w w':=by
 have hF:=St.start w _ (a6j hr)
 unfold a3k at hF
 obtain ⟨sA,m,sc,hS⟩:=b3m hset
 have hF:=hF.elem (List.Mem.tail _ (List.Mem.head _)) hS
 simp only at hF
 have hse:=(hF.rd (List.Mem.head _)).wyslen
 have hat:=(List.getElem?_eq_some_iff.1 hv).1
 have hc1:=hr.rd.le
 have hc2:=hr.rd.mx
 have hm1:=(hF.rd (List.Mem.head _)).le
 have hm2:=(hF.rd (List.Mem.head _)).mx
 unfold maxLen at hbs hc2 hm2
 clear hset
 obtain ⟨lo,f,hlo,hf,hf16,hxi,HL⟩:=d5m w hx
 rw [hf] at hd
 have him:i<m:=by omega
 clear hlo hf
 go_enter Tryz.func145,Tryz.ntmps145
 rcases hd with h0|⟨h16,hlong⟩
 ·have hemp:=c4j h0
  clear h0
  exact d5c
 ·have hemp:=b7e (d:=v.data) (by omega)
  have hlg:(16:Int) - (f:Int)<(bytes.size:Int):=by omega
  clear h16
  exact d5c
theorem g7v (ways:Int) (A:Option Addr) (n c x:Nat) (bytes:ByteArray) (S:List Cs) (k i:Nat) (ws:List Wy) (v:Wy) (w:World) (hr:RdS w w.heap.size A n c S) (hx:x<4294967296) (hbs:bytes.size≤maxLen) (hn:n≤1000) (hk:k<n) (hset:(a1j S)[k]?=some ws) (hws:ws.length≤1000) (hv:ws[i]?=some v)
  (hd:v.data.size=16) (hfit:x % 16+bytes.size≤16) (HF:Hid (a8v 80 ways A n c x S k i true)) :
  Calls Tryz.prog 145 #[.agg #[.int .i64 ways,.slice A n c],.int .u32 (x:Int),.string bytes] w fun e w'=>∃ y,e = .returned (.tuple #[y,.bool true])∧CRes w (a3k A n c S) ways y w' ((a1j S).set k (a3t ws i ⟨v.line,true,b2g v.data (x % 16) bytes⟩)):=by
 have hF:=St.start w _ (a6j hr)
 unfold a3k at hF
 obtain ⟨sA,m,sc,hS⟩:=b3m hset
 have hF:=hF.elem (List.Mem.tail _ (List.Mem.head _)) hS
 simp only at hF
 have hse:=(hF.rd (List.Mem.head _)).wyslen
 have hat:=(List.getElem?_eq_some_iff.1 hv).1
 have hc1:=hr.rd.le
 have hc2:=hr.rd.mx
 have hm1:=(hF.rd (List.Mem.head _)).le
 have hm2:=(hF.rd (List.Mem.head _)).mx
 unfold maxLen at hbs hc2 hm2
 clear hset
 obtain ⟨lo,f,hlo,hf,hf16,hxi,HL⟩:=d5m w hx
 rw [hf] at hfit ⊢
 have him:i<m:=by omega
 clear hlo hf
 obtain ⟨d2,hd2⟩:∃ d2,b2g v.data f bytes=d2:=⟨_,rfl⟩
 rw [hd2]
 have hemp:=b7e (d:=v.data) (by omega)
 have hlg:¬ ((16:Int) - (f:Int)<(bytes.size:Int)):=by omega
 have hf1:f≤v.data.size:=by omega
 obtain ⟨e,he⟩:∃ e,e=f+bytes.size:=⟨_,rfl⟩
 have hf2:e≤v.data.size:=by omega
 have hcast:(f:Int)+(bytes.size:Int)=(e:Int):=by omega
 have hd2:v.data.extract 0 f++bytes++v.data.extract e v.data.size=d2:=by rw [← hd2,he];rfl
 replace he:=Lib.hid he
 have hd16:v.data.size≤16:=by omega
 have hb16:bytes.size≤16:=by omega
 replace hd:=Lib.hid hd
 replace hd2:=Lib.hid hd2
 go_enter Tryz.func145,Tryz.ntmps145
 go_wp2_with ((first|(go_at_call 80;refine (HF.out _ (a2t (hF.dat _ zdm) (hF.dat _ zdm))).mono ?_;rintro e wN ⟨rfl,hb⟩;replace hF:=hF.grow hb;clear hb)|(go_at_call 63;refine (HL.out _).mono ?_;rintro e wN ⟨rfl,d,rfl⟩;replace hF:=hF.grow (Bel.drewN _ d))|(go_at_call 124;refine (a8u _ _ _ ws i v _ (hF.rd zdm) (by omega) hv).mono ?_;rintro e wN ⟨xF,rfl,hb,ho⟩;replace hF:=hF.pushOwn hb ho;clear hb ho;obtain ⟨gS,cS,rfl,hcS,hmS⟩:=hF.ownSome at0 (by omega);rw [show wys (a3t ws i v)=Value.int .u32 (v.line:Int) :: .bool v.dirty :: .string v.data::wys (ws.take i++ws.drop (i+1)) from rfl] at hF)|((first|refine zrd ?_|(refine zst ?_;clear hF;(first|intro gN wN hF|intro wN hF|intro hF))|(refine zap ?_;clear hF;intro vN wN hF));refine zs ?_)))
 refine a1n (by kernel_rfl) hF [] [] (by ((repeat (first|exact a1f|refine a1m zdm ?_)) <;> exact a1f)) (by ((repeat (first|exact a1f|refine a1m zdm ?_)) <;> exact a1f)) ?_
 clear hF;intro hF hH
 refine a1c 0 hH ?_
 refine a1c 1 hH ?_
 refine a1c 2 hH ?_
 refine zk4 3 hH ?_
 refine a1c 4 hH ?_
 first|(refine a1p (i:=5) rfl (b4o rfl rfl rfl) hH ?_;refine zs ?_)|(refine a1p (i:=5) rfl (b4p rfl rfl rfl) hH ?_;refine zs ?_)|refine zp 5 hH ?_
 refine a1c 6 hH ?_
 refine a1c 7 hH ?_
 refine a1c 8 hH ?_
 refine zk3 9 hH ?_
 first|(refine a1p (i:=10) rfl (b4o rfl rfl rfl) hH ?_;refine zs ?_)|(refine a1p (i:=10) rfl (b4p rfl rfl rfl) hH ?_;refine zs ?_)|refine zp 10 hH ?_
 refine zk4 11 hH ?_
 first|(refine a1p (i:=12) rfl (b4o rfl rfl rfl) hH ?_;refine zs ?_)|(refine a1p (i:=12) rfl (b4p rfl rfl rfl) hH ?_;refine zs ?_)|refine zp 12 hH ?_
 refine zk2 13 hH ?_
 refine zk1 14 hH ?_
 refine zry 15 (fun K hK=>?_)
 go_wp2_with (refine zwr ?_;clear hF;intro wN hF;(try refine zs ?_))
 have hH:=hH.nextA hF;refine hK.out _ _ hH ?_;clear hK;refine zs ?_
 refine zrz ?_
 go_wp2_with ((first|(go_at_call 125;obtain ⟨A2,c2,hfz,hF⟩:=hF.freeze 0 at0;injection hfz with hfz1 _ hfz2;subst hfz1 hfz2;(try simp only [List.eraseIdx_cons_zero] at hF);refine (a8e ways A n c S k _ m _ (⟨v.line,true,v.data.extract 0 f++bytes++v.data.extract e v.data.size⟩::(ws.take i++ws.drop (i+1))) _ (a2t (hF.dat _ zdm) (hF.dat _ zdm)) hn hk (hF.dat _ zdm)).mono ?_;rintro e wN ⟨_,rfl,A',n',c',S',rfl,hO,hC⟩;replace hF:=hF.callA hO;clear hO)|refine zg4 ?_|((first|refine zrd ?_|(refine zst ?_;clear hF;(first|intro gN wN hF|intro wN hF|intro hF))|(refine zap ?_;clear hF;intro vN wN hF));refine zs ?_)))
 ((try simp only [Exit.inBlock,Exit.then]);refine bodyPost_ret (b1y rfl hF) rfl ?_)
 exact ⟨_,rfl,A',n',c',S',rfl,hF.outA,by rw [hC,← hd2.out];rfl⟩
end
section
open Go.RowKit Go.Sort
inductive CleanR (ways:Int) (C:List (List Wy)) (x:Nat) (C':List (List Wy)):Prop
 | no (k i:Nat) (h:FindR ways C x k i false) (he:C'=C)
 | yes (k i:Nat) (h:FindR ways C x k i true) (ws:List Wy) (v:Wy) (hw:C[k]?=some ws) (hv:ws[i]?=some v) (he:C'=C.set k (ws.set i ⟨v.line,false,v.data⟩))
theorem g7w (ways:Int) (A:Option Addr) (n c x:Nat) (S:List Cs) (k i:Nat) (w:World) (hr:RdS w w.heap.size A n c S) (HF:Hid (a8v 80 ways A n c x S k i false)) :
  Calls Tryz.prog 88 #[.agg #[.int .i64 ways,.slice A n c],.int .u32 (x:Int)] w fun e w'=>e = .returned (.agg #[.int .i64 ways,.slice A n c])∧Bel w w':=by
 have hF:=St.start w _ (a6j hr)
 unfold a3k at hF
 go_enter Tryz.func88,Tryz.ntmps88
 go_wp2_with ((first|(refine zg7 ?_;clear hF;intro wN hF)|((first|refine zrd ?_|(refine zst ?_;clear hF;(first|intro gN wN hF|intro wN hF|intro hF))|(refine zap ?_;clear hF;intro vN wN hF));refine zs ?_)))
 ((try simp only [Exit.inBlock,Exit.then]);refine bodyPost_ret (a2x rfl hF) rfl ?_)
 exact ⟨rfl,hF.bel⟩
theorem g7x (ways:Int) (A:Option Addr) (n c x:Nat) (S:List Cs) (k i:Nat) (ws:List Wy) (v:Wy) (w:World) (hr:RdS w w.heap.size A n c S) (hn:n≤1000) (hk:k<n) (hset:(a1j S)[k]?=some ws) (hws:ws.length≤1000) (hv:ws[i]?=some v) (HF:Hid (a8v 80 ways A n c x S k i true)) :
  Calls Tryz.prog 88 #[.agg #[.int .i64 ways,.slice A n c],.int .u32 (x:Int)] w fun e w'=>∃ y,e = .returned y∧CRes w (a3k A n c S) ways y w' ((a1j S).set k (ws.set i ⟨v.line,false,v.data⟩)):=by
 have hF:=St.start w _ (a6j hr)
 unfold a3k at hF
 obtain ⟨sA,m,sc,hS⟩:=b3m hset
 have hF:=hF.elem (List.Mem.tail _ (List.Mem.head _)) hS
 simp only at hF
 have hse:=(hF.rd (List.Mem.head _)).wyslen
 have hat:=(List.getElem?_eq_some_iff.1 hv).1
 have him:i<m:=by omega
 have hoff:i * 3+1<(wys ws).length:=by rw [b8u];omega
 have hst:=Lib.hid (Rows.set1 (f:=wys) (r:=⟨v.line,false,v.data⟩) hv (i:=1) (u:=.bool false) (by decide) rfl)
 clear hset
 go_enter Tryz.func88,Tryz.ntmps88
 go_upto_region 7 with ((first|(refine zg8 ?_;clear hF;(first|intro gN wN hF|intro wN hF|intro hF))|refine zg4 ?_|((first|refine zrd ?_|(refine zst ?_;clear hF;(first|intro gN wN hF|intro wN hF|intro hF))|(refine zap ?_;clear hF;intro vN wN hF));refine zs ?_)))
 rw [hst.out] at hF
 have hF:=hF.freezeB 0 at0 3 m m (by rw [b8u,List.length_set];omega) (Nat.le_refl _) (by unfold maxLen;omega)
 (try simp only [zF] at hF)
 go_wp2_with ((first|(go_at_call 125;refine (a8e ways A n c S k _ m _ (ws.set i ⟨v.line,false,v.data⟩) _ hF.rds hn hk hF.rdA).mono ?_;rintro e wN ⟨_,rfl,A',n',c',S',rfl,hO,hC⟩;replace hF:=hF.callA hO;clear hO)|((first|refine zrd ?_|(refine zst ?_;clear hF;(first|intro gN wN hF|intro wN hF|intro hF))|(refine zap ?_;clear hF;intro vN wN hF));refine zs ?_)))
 ((try simp only [Exit.inBlock,Exit.then]);refine bodyPost_ret (a2x rfl hF) rfl ?_)
 exact ⟨_,rfl,A',n',c',S',rfl,hF.outA,hC⟩
section
variable {ways:Int} {A:Option Addr} {n c x:Nat} {S:List Cs}
theorem g7y {C':List (List Wy)} (hx:x<4294967296) (ho:SOk S) (h:CleanR ways (a1j S) x C') (w:World) (hr:RdS w w.heap.size A n c S) :
  Calls Tryz.prog 88 #[.agg #[.int .i64 ways,.slice A n c],.int .u32 (x:Int)] w fun e w'=>∃ y,e = .returned y∧CRes w (a3k A n c S) ways y w' C':=by
 cases h with
 | no k i h he=>
  subst he
  refine (g7w ways A n c x S k i w hr (Lib.hid (a7d hx ho h))).mono ?_
  rintro e w' ⟨rfl,hb⟩
  exact ⟨_,rfl,CRes.sameC hr hb⟩
 | yes k i h ws v hw hv he=>
  subst he
  obtain ⟨hR,_,ws',v',hw',_,_,hl⟩:=h.at_
  rw [hw] at hw';injection hw' with hw';subst hw'
  exact g7x ways A n c x S k i ws v w hr (b3o hr hR) (b3p hr hw) hw (by have:=b2f hR hl;omega) hv (Lib.hid (a7d hx ho h))
end
end
section
open Go.RowKit
section
variable {ways:Int} {C C':List (List Wy)} {L:List Nat} {l x k i:Nat} {ws:List Wy}
end
end
end Go.Proofs.YtgnomadgnciifaaGreatDoor
