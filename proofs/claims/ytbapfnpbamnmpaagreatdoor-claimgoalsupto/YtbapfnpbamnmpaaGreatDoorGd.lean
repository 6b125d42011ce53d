/- A part of the proof that ClaimGoals answers true for every input of bulk at most 1048576: conditions: the row's own. -/
import Derived.Test.YtbapfnpbamnmpaaGreatDoorGc
import Derived.Test.YtbapfnpbamnmpaaGreatDoorXe
namespace Go.Proofs.YtbapfnpbamnmpaaGreatDoor
open Go Go.RowKit Go.Dig Go.Deep
open Go.Eng (Kept KW KeptB wp_region_kw kw_call)
set_option maxHeartbeats 16000000 in
set_option maxRecDepth 100000 in
theorem own_calls{f:Nat}{w:World}{v:Value}{c:ClaimD}(h:Clm w f v c)(hok:c.ok=true):
 Calls Tryz.prog 66 #[v] w fun e w'=>∃v',e= .returned v'∧Clm (onlyW w' (ab w.heap.size)) f v' c∧Kept w w':=by
 obtain⟨p1,p2,p3,p4⟩:=ok_parts hok
 obtain⟨o,g,z,x1,x2,x3,x4,x5,x6,nm,a0,n0,cap0,a1,n1,cap1,a2,n2,cap2,rfl,hg,hb,hc⟩:=h
 have hl6:c.box.length≤6:=by unfold boxOk at p1;simp only[Bool.and_eq_true,decide_eq_true_eq] at p1;exact p1.1
 have hbn:c.box.length<4611686018427387904:=by omega
 have hcn:c.conds.length<4611686018427387904:=by omega
 obtain rfl:n1=c.box.length:=hb.1
 obtain rfl:n2=c.conds.length:=hc.1
 have HG1:=Lib.hid (fun(w':World)(k:Kept w w')=>ownExpr_calls f (hg.kept k) (well_of_ok p2))
 have HBX:=Lib.hid (fun(w':World)(k:Kept w w')=>ownBox_calls (hb.kept k) hl6)
 have HCI:=Lib.hid hc.2.2.2
 have HOE:=Lib.hid (fun(i:Nat)(hi:i<c.conds.length)(w':World)(u:Value)(q:Ex w' f u c.conds[i].t)=>ownExpr_calls f q (well_of_ok (p4 i hi)))
 clear hg hb hc hok p1 p2 p4
 generalize hst:c.strict=st at*
 have HST:=Lib.hid hst;clear hst
 have hA:=Blk.new w #[.int .i64 o,.int .i64 g,.bool z,.slice x1 x2 x3,.slice x4 x5 x6,.string nm,.slice a0 n0 cap0,.bool st,.slice a1 c.box.length cap1,.slice a2 c.conds.length cap2] 31
 have hB:=Blk.new (w.alloc (.cells #[.int .i64 o,.int .i64 g,.bool z,.slice x1 x2 x3,.slice x4 x5 x6,.string nm,.slice a0 n0 cap0,.bool st,.slice a1 c.box.length cap1,.slice a2 c.conds.length cap2] 31)) #[.int .i64 0,.int .i64 0,.bool false,.slice none 0 0,.slice none 0 0,.string ⟨#[]⟩,.slice none 0 0,.bool false,.slice none 0 0,.slice none 0 0] 31
 have hsz:(w.alloc (.cells #[.int .i64 o,.int .i64 g,.bool z,.slice x1 x2 x3,.slice x4 x5 x6,.string nm,.slice a0 n0 cap0,.bool st,.slice a1 c.box.length cap1,.slice a2 c.conds.length cap2] 31)).heap.size=w.heap.size+1:=Array.size_push _
 have hsz2:((w.alloc (.cells #[.int .i64 o,.int .i64 g,.bool z,.slice x1 x2 x3,.slice x4 x5 x6,.string nm,.slice a0 n0 cap0,.bool st,.slice a1 c.box.length cap1,.slice a2 c.conds.length cap2] 31)).alloc (.cells #[.int .i64 0,.int .i64 0,.bool false,.slice none 0 0,.slice none 0 0,.string ⟨#[]⟩,.slice none 0 0,.bool false,.slice none 0 0,.slice none 0 0] 31)).heap.size=w.heap.size+2:=by simp[go_sem]
 rw[hsz] at hB
 have hk1:Kept w (w.alloc (.cells #[.int .i64 o,.int .i64 g,.bool z,.slice x1 x2 x3,.slice x4 x5 x6,.string nm,.slice a0 n0 cap0,.bool st,.slice a1 c.box.length cap1,.slice a2 c.conds.length cap2] 31)):=(Kept.refl w).alloc _
 have hk2:Kept (w.alloc (.cells #[.int .i64 o,.int .i64 g,.bool z,.slice x1 x2 x3,.slice x4 x5 x6,.string nm,.slice a0 n0 cap0,.bool st,.slice a1 c.box.length cap1,.slice a2 c.conds.length cap2] 31)) ((w.alloc (.cells #[.int .i64 o,.int .i64 g,.bool z,.slice x1 x2 x3,.slice x4 x5 x6,.string nm,.slice a0 n0 cap0,.bool st,.slice a1 c.box.length cap1,.slice a2 c.conds.length cap2] 31)).alloc (.cells #[.int .i64 0,.int .i64 0,.bool false,.slice none 0 0,.slice none 0 0,.string ⟨#[]⟩,.slice none 0 0,.bool false,.slice none 0 0,.slice none 0 0] 31)):=(Kept.refl _).alloc _
 replace hA:=hA.kept hk2
 have hk:=hk1.trans hk2
 clear hk1 hk2 hsz
 go_enter Tryz.func66,Tryz.ntmps66
 go_wp2_with fail
 rename_i Q' K hK
 generalize ((w.alloc (.cells #[.int .i64 o,.int .i64 g,.bool z,.slice x1 x2 x3,.slice x4 x5 x6,.string nm,.slice a0 n0 cap0,.bool st,.slice a1 c.box.length cap1,.slice a2 c.conds.length cap2] 31)).alloc (.cells #[.int .i64 0,.int .i64 0,.bool false,.slice none 0 0,.slice none 0 0,.string ⟨#[]⟩,.slice none 0 0,.bool false,.slice none 0 0,.slice none 0 0] 31))=w1 at*
 generalize hbE:w.heap.size=b0 at hA hB hsz2⊢
 have HBE:=Lib.hid hbE;clear hbE
 obtain⟨g0,g1,g2,g3,g4,g5,g6,g7,g8,g9,-⟩:=hA.facts10
 have HALL:Hid (∀w',Kept w1 w'→w'.cell? ⟨b0,0,none⟩=some (.int .i64 o)∧w'.cell? ⟨b0,1,none⟩=some (.int .i64 g)∧w'.cell? ⟨b0,2,none⟩=some (.bool z)∧w'.cell? ⟨b0,3,none⟩=some (.slice x1 x2 x3)∧w'.cell? ⟨b0,4,none⟩=some (.slice x4 x5 x6)∧w'.cell? ⟨b0,5,none⟩=some (.string nm)∧w'.cell? ⟨b0,6,none⟩=some (.slice a0 n0 cap0)∧w'.cell? ⟨b0,7,none⟩=some (.bool st)∧w'.cell? ⟨b0,8,none⟩=some (.slice a1 c.box.length cap1)∧w'.cell? ⟨b0,9,none⟩=some (.slice a2 c.conds.length cap2)):=
  Lib.hid fun w' k=>⟨k.cell g0,k.cell g1,k.cell g2,k.cell g3,k.cell g4,k.cell g5,k.cell g6,k.cell g7,k.cell g8,k.cell g9⟩
 clear g0 g1 g2 g3 g4 g5 g6 g7 g8 g9
 have hrest:∀(b3:Nat)(W0:World)(o4 g4:Int)(z4:Bool)(v1:Option Addr)(v2 v3:Nat)(v4:Option Addr)(v5 v6:Nat)(nm4:ByteArray)(a4:Option Addr)(n4 cap4:Nat)(a5:Option Addr)(cap5:Nat),Kept w1 W0→w1.heap.size≤b3→Blk W0 b3 #[.int .i64 o4,.int .i64 g4,.bool z4,.slice v1 v2 v3,.slice v4 v5 v6,.string nm4,.slice a4 n4 cap4,.bool st,.slice a5 c.box.length cap5,.slice none 0 0] 31→Ex (onlyW W0 (fun b=>decide (b0+2≤b)&&(b != b3))) f (.agg #[.int .i64 o4,.int .i64 g4,.bool z4,.slice v1 v2 v3,.slice v4 v5 v6,.string nm4,.slice a4 n4 cap4]) c.goal→Bxm (onlyW W0 (fun b=>decide (b0+2≤b)&&(b != b3))) a5 c.box.length cap5 c.box→
  Exit.then K Q' .normal {tmps:=#[Value.agg #[.int .i64 o,.int .i64 g,.bool z,.slice x1 x2 x3,.slice x4 x5 x6,.string nm,.slice a0 n0 cap0,.bool st,.slice a1 c.box.length cap1,.slice a2 c.conds.length cap2],Value.pointer (some ⟨b0,0,none⟩),Value.pointer (some ⟨b0+1,0,none⟩),Value.pointer (some ⟨b3,0,none⟩),undef,undef,Value.pointer (some ⟨b0,0,none⟩),Value.agg #[.int .i64 o,.int .i64 g,.bool z,.slice x1 x2 x3,.slice x4 x5 x6,.string nm,.slice a0 n0 cap0],Value.agg #[.int .i64 o4,.int .i64 g4,.bool z4,.slice v1 v2 v3,.slice v4 v5 v6,.string nm4,.slice a4 n4 cap4],Value.pointer (some ⟨b0,7,none⟩),Value.bool st,Value.pointer (some ⟨b0,8,none⟩),Value.slice a1 c.box.length cap1,Value.slice a5 c.box.length cap5,Value.agg #[.int .i64 o4,.int .i64 g4,.bool z4,.slice v1 v2 v3,.slice v4 v5 v6,.string nm4,.slice a4 n4 cap4,.bool st,.slice a5 c.box.length cap5,.slice none 0 0],undef,undef,undef,undef,undef,undef,undef,undef,undef,undef,undef,undef,undef,undef,undef,undef,undef,undef,undef,undef],defers:=[]} W0:=by
  intro b3 W0 o4 g4 z4 v1 v2 v3 v4 v5 v6 nm4 a4 n4 cap4 a5 cap5 hkW hb3 h3 hy hz
  have hlt3:=h3.lt
  have HB0:=Lib.hid (hB.kept hkW)
  have hkw0:=hk.trans hkW
  obtain⟨e0,e1,e2,e3,e4,e5,e6,e7,e8,e9,-⟩:=(hA.kept hkW).facts10
  clear HALL hA hB HG1 HBX
  go_wp2
  clear e0 e1 e2 e3 e4 e5 e6 e7 e8 e9
  have hz0:b0+2≤b3:=by omega
  have HZ0:=Lib.hid hz0;clear hz0
  have HL3:=Lib.hid hlt3;clear hlt3
  clear hb3 hsz2
  have HY:=Lib.hid hy;clear hy
  have HZB:=Lib.hid hz;clear hz
  go_loopw [18] (fun i wr=>∃(k:Nat)(a3:Option Addr)(cap3:Nat)(cs:List Value),k≤c.conds.length∧i= .int .i64 (k:Int)∧Hid (Blk wr b3 #[.int .i64 o4,.int .i64 g4,.bool z4,.slice v1 v2 v3,.slice v4 v5 v6,.string nm4,.slice a4 n4 cap4,.bool st,.slice a5 c.box.length cap5,.slice a3 k cap3] 31)∧Hid (Grow W0 wr b3 93 8 (.slice a3 k cap3) k cs (condR f) c.conds)) (fun i _=>c.conds.length-(intOf i).toNat)
  case atStart=>exact⟨0,none,0,[],Nat.zero_le _,rfl,Lib.hid h3,Lib.hid (Grow.start ..)⟩
  case round=>
   obtain⟨k,a3,cap3,cs,hkk,rfl,HB,HG⟩:=hrel
   have HKW:Hid (Kept w wr):=Lib.hid (hkw0.but HG.out.kb (by have:=HBE.out;have:=HZ0.out;omega))
   clear h3
   by_cases hlt:k<c.conds.length
   ·obtain⟨b,off,q0,q1,q2,u1,u2,u3,u4,u5,u6,um,ua,un,ucap,rfl,c0,c1,c2,c3,c4,c5,c6,c7,hex⟩:=HCI.out k hlt
    replace c0:=HKW.out.cell c0
    replace c1:=HKW.out.cell c1
    replace c2:=HKW.out.cell c2
    replace c3:=HKW.out.cell c3
    replace c4:=HKW.out.cell c4
    replace c5:=HKW.out.cell c5
    replace c6:=HKW.out.cell c6
    replace c7:=HKW.out.cell c7
    generalize htt:c.conds[k].strict=tt at*
    have HTT:=Lib.hid htt;clear htt
    go_wp2_with fail
    have HP:=Lib.hid (Blk.new wr #[.int .i64 q0,.int .i64 q1,.bool q2,.slice u1 u2 u3,.slice u4 u5 u6,.string um,.slice ua un ucap,.bool tt] 93)
    have hka:Kept wr (wr.alloc (.cells #[.int .i64 q0,.int .i64 q1,.bool q2,.slice u1 u2 u3,.slice u4 u5 u6,.string um,.slice ua un ucap,.bool tt] 93)):=(Kept.refl wr).alloc _
    have HOB:=Lib.hid (fun g(hg:(Value.slice a3 k cap3).ownBlock=some g)=>World.ownsRow.lt HG.out.own g hg)
    have HSW:=Lib.hid (show W0.heap.size≤wr.heap.size from HG.out.kb.size)
    have HS5:Hid (∀w',Blk w' wr.heap.size #[.int .i64 q0,.int .i64 q1,.bool q2,.slice u1 u2 u3,.slice u4 u5 u6,.string um,.slice ua un ucap,.bool tt] 93→w'.cell? ⟨wr.heap.size,0,none⟩=some (.int .i64 q0)∧w'.cell? ⟨wr.heap.size,1,none⟩=some (.int .i64 q1)∧w'.cell? ⟨wr.heap.size,2,none⟩=some (.bool q2)∧w'.cell? ⟨wr.heap.size,3,none⟩=some (.slice u1 u2 u3)∧w'.cell? ⟨wr.heap.size,4,none⟩=some (.slice u4 u5 u6)∧w'.cell? ⟨wr.heap.size,5,none⟩=some (.string um)∧w'.cell? ⟨wr.heap.size,6,none⟩=some (.slice ua un ucap)∧w'.cell? ⟨wr.heap.size,7,none⟩=some (.bool tt)):=Lib.hid fun w' h=>⟨h.cell 0 rfl,h.cell 1 rfl,h.cell 2 rfl,h.cell 3 rfl,h.cell 4 rfl,h.cell 5 rfl,h.cell 6 rfl,h.cell 7 rfl⟩
    have HSZ:Hid ((wr.alloc (.cells #[.int .i64 q0,.int .i64 q1,.bool q2,.slice u1 u2 u3,.slice u4 u5 u6,.string um,.slice ua un ucap,.bool tt] 93)).heap.size=wr.heap.size+1):=Lib.hid (Array.size_push _)
    have HEX:=Lib.hid (hex.kept (HKW.out.trans hka))
    have HB1:=Lib.hid (HB.out.kept hka)
    have HG1:=Lib.hid (HG.out.kept (condR_sub f) hka)
    clear c0 c1 c2 c3 c4 c5 c6 c7 hex HB HG hka
    generalize wr.alloc (.cells #[.int .i64 q0,.int .i64 q1,.bool q2,.slice u1 u2 u3,.slice u4 u5 u6,.string um,.slice ua un ucap,.bool tt] 93)=wa at*
    refine wp_region_held_drew (S:=fun w'=>w'.cell? ⟨wr.heap.size,0,none⟩=some (.int .i64 q0)∧w'.cell? ⟨wr.heap.size,1,none⟩=some (.int .i64 q1)∧w'.cell? ⟨wr.heap.size,2,none⟩=some (.bool q2)∧w'.cell? ⟨wr.heap.size,3,none⟩=some (.slice u1 u2 u3)∧w'.cell? ⟨wr.heap.size,4,none⟩=some (.slice u4 u5 u6)∧w'.cell? ⟨wr.heap.size,5,none⟩=some (.string um)∧w'.cell? ⟨wr.heap.size,6,none⟩=some (.slice ua un ucap)∧w'.cell? ⟨wr.heap.size,7,none⟩=some (.bool tt)) (by kernel_rfl) (HS5.out _ (HP.out.kept (Kept.refl wa).drew)) (fun hHeld=> ?_)
    refine wpAnyH_take (i:=0) (oi:=_) (v:= ?_) rfl (by kernel_rfl) (by kernel_rfl) (by kernel_rfl) (fun _ _ _ h=>h) (Or.inl ⟨by rfl,?_⟩) (by assumption) ?_
    rotate_left
    ·intro w hSw;(try dsimp only at hSw);go_simp;first|done|with_reducible rfl
    try simp only[Act.put,List.setIfInBounds_toArray]
    refine wpAnyH_take (i:=2) (oi:=_) (v:= ?_) rfl (by kernel_rfl) (by kernel_rfl) (by kernel_rfl) (fun _ _ _ h=>h) (Or.inl ⟨by rfl,?_⟩) (by assumption) ?_
    rotate_left
    ·intro w hSw;(try dsimp only at hSw);go_simp;first|done|with_reducible rfl
    try simp only[Act.put]
    refine wpAnyH_take (i:=3) (oi:=_) (v:= ?_) rfl (by kernel_rfl) (by kernel_rfl) (by kernel_rfl) (fun _ _ _ h=>h) (Or.inl ⟨by rfl,?_⟩) (by assumption) ?_
    rotate_left
    ·intro w hSw;(try dsimp only at hSw);go_simp;first|done|with_reducible rfl
    try simp only[Act.put]
    refine wpAnyH_take (i:=5) (oi:=_) (v:= ?_) rfl (by kernel_rfl) (by kernel_rfl) (by kernel_rfl) (fun _ _ _ h=>h) (Or.inl ⟨by rfl,?_⟩) (by assumption) ?_
    rotate_left
    ·intro w hSw;(try dsimp only at hSw);go_simp;first|done|with_reducible rfl
    try simp only[Act.put]
    refine wpAnyH_take (i:=6) (oi:=_) (v:= ?_) rfl (by kernel_rfl) (by kernel_rfl) (by kernel_rfl) (fun _ _ _ h=>h) (Or.inl ⟨by rfl,?_⟩) (by assumption) ?_
    rotate_left
    ·intro w hSw;(try dsimp only at hSw);go_simp;first|done|with_reducible rfl
    try simp only[Act.put]
    refine wpAnyH_ready (rs:=[1,4]) (by kernel_rfl) (by simp) (AllReadyH.cons (o:=_) rfl (fun K hK=> ?_) (AllReadyH.cons (o:=_) rfl (fun K hK=> ?_) AllReadyH.nil))
    ·skip
     obtain⟨d0,d1,d2,d3,d4,d5,d6,d7,d8,d9,-⟩:=(HB1.out.kept (Kept.refl wa).drew).facts10
     go_simp
     refine hK.out _ _ (HS5.out _ (HP.out.kept (Kept.refl wa).drew)) (fun hHeld=> ?_)
     clear hK K d0 d1 d2 d3 d4 d5 d6 d7 d8 d9
     try simp only[List.setIfInBounds_toArray,List.set_cons_zero,List.set_cons_succ]
     refine wpAnyH_ready (rs:=[4]) (by kernel_rfl) (by simp) (AllReadyH.cons (o:=_) rfl (fun K hK=> ?_) AllReadyH.nil)
     go_simp
     go_at_call 67
     refine(HOE.out k hlt _ _ (HEX.out.kept (Kept.refl wa).drew)).mono ?_
     rintro e w3 ⟨v3',rfl,hv3,hkn⟩
     obtain⟨o6,g6,z6,t1,t2,t3,t4,t5,t6,nm6,a6,n6,cap6,rfl⟩:=hv3.agg7
     have hk3:Kept wa w3:=Kept.trans (Kept.refl wa).drew hkn
     have HV3:Hid (Ex (onlyW w3 (ab wa.heap.size)) f (.agg #[.int .i64 o6,.int .i64 g6,.bool z6,.slice t1 t2 t3,.slice t4 t5 t6,.string nm6,.slice a6 n6 cap6]) c.conds[k].t):=Lib.hid hv3
     clear hkn hv3
     refine hK.out _ _ (HS5.out _ (HP.out.kept hk3)) (fun hHeld=> ?_)
     clear hK K
     try simp only[List.setIfInBounds_toArray,List.set_cons_zero,List.set_cons_succ]
     refine wpAnyH_take (i:=7) (oi:=_) (v:= ?_) rfl (by kernel_rfl) (by kernel_rfl) (by kernel_rfl) (fun _ _ _ h=>h) (Or.inl ⟨by rfl,?_⟩) (by assumption) ?_
     rotate_left
     ·intro w hSw;(try dsimp only at hSw);go_simp;first|done|with_reducible rfl
     try simp only[Act.put]
     refine wpAnyH_ready (rs:=[8]) (by kernel_rfl) (by simp) (AllReadyH.cons (o:=_) rfl (fun K hK=> ?_) AllReadyH.nil)
     go_simp
     refine hK.out _ _ (HS5.out _ (HP.out.kept (hk3.alloc _))) (fun hHeld=> ?_)
     clear hK K
     try simp only[List.setIfInBounds_toArray,List.set_cons_zero,List.set_cons_succ]
     refine wpAnyH_ready (rs:=[9]) (by kernel_rfl) (by simp) (AllReadyH.cons (o:=_) rfl (fun K hK=> ?_) AllReadyH.nil)
     have hk4:Kept wa (w3.alloc (.cells #[.int .i64 o6,.int .i64 g6,.bool z6,.slice t1 t2 t3,.slice t4 t5 t6,.string nm6,.slice a6 n6 cap6,.bool tt] 93)):=hk3.alloc _
     have HG4:=Lib.hid (HG1.out.kept (condR_sub f) hk4)
     have HN:=Lib.hid (Blk.new w3 #[.int .i64 o6,.int .i64 g6,.bool z6,.slice t1 t2 t3,.slice t4 t5 t6,.string nm6,.slice a6 n6 cap6,.bool tt] 93)
     have hle4:W0.heap.size≤(w3.alloc (.cells #[.int .i64 o6,.int .i64 g6,.bool z6,.slice t1 t2 t3,.slice t4 t5 t6,.string nm6,.slice a6 n6 cap6,.bool tt] 93)).heap.size:=Nat.le_trans (Nat.le_trans HSW.out (Nat.le_of_lt (by have:=HSZ.out;omega))) hk4.size
     refine step_append_grow (w:=(w3.alloc (.cells #[.int .i64 o6,.int .i64 g6,.bool z6,.slice t1 t2 t3,.slice t4 t5 t6,.string nm6,.slice a6 n6 cap6,.bool tt] 93))) rfl (.tmp 23) (.tmp 30) 29 rfl info93 Tryz.underlying29 rfl (by decide) (by decide) W0.heap.size hle4 _ k cs rfl HG4.out.own ⟨w3.heap.size,0,none⟩ 1 1 [.int .i64 o6,.int .i64 g6,.bool z6,.slice t1 t2 t3,.slice t4 t5 t6,.string nm6,.slice a6 n6 cap6,.bool tt] rfl rfl (blk_news HN.out) (by intro u hu;simp only[List.mem_cons,List.mem_nil_iff,or_false] at hu;rcases hu with rfl|rfl|rfl|rfl|rfl|rfl|rfl|rfl<;>rfl) (by decide) (by omega) ?_
     intro v5' w5 ho hgb hor
     obtain⟨a7,cap7,rfl,-,-,-⟩:=own_open ho
     have hlt4:wr.heap.size<(w3.alloc (.cells #[.int .i64 o6,.int .i64 g6,.bool z6,.slice t1 t2 t3,.slice t4 t5 t6,.string nm6,.slice a6 n6 cap6,.bool tt] 93)).heap.size:=Nat.lt_of_lt_of_le (by have:=HSZ.out;omega) hk4.size
     have HG5:Hid (Grow W0 w5 b3 93 8 (.slice a7 (k+1) cap7) (k+1) (cs++[.int .i64 o6,.int .i64 g6,.bool z6,.slice t1 t2 t3,.slice t4 t5 t6,.string nm6,.slice a6 n6 cap6,.bool tt]) (condR f) c.conds):=Lib.hid (HG4.out.append (condR_sub f) hle4 ho hgb hor rfl hlt (S:=ab wa.heap.size) ⟨o6,g6,z6,t1,t2,t3,t4,t5,t6,nm6,a6,n6,cap6,by rw[HTT.out],HV3.out.sub (fresh_kept ((Kept.refl w3).alloc _) (Nat.le_refl _))⟩ (fun b hb=>by
      have h1:wa.heap.size≤b:=by simpa [ab] using hb
      have h2:=HSZ.out
      have h3:=HSW.out
      refine⟨by omega,fun he=> ?_⟩
      have:=(HOB.out b he.symm).2
      omega))
     have HP5:Hid (Blk w5 wr.heap.size #[.int .i64 q0,.int .i64 q1,.bool q2,.slice u1 u2 u3,.slice u4 u5 u6,.string um,.slice ua un ucap,.bool tt] 93):=Lib.hid ((hgb.block _ hlt4 (fun he=>by have:=(HOB.out _ he.symm).2;omega)).trans (HP.out.kept hk4))
     have HB5:Hid (Blk w5 b3 #[.int .i64 o4,.int .i64 g4,.bool z4,.slice v1 v2 v3,.slice v4 v5 v6,.string nm4,.slice a4 n4 cap4,.bool st,.slice a5 c.box.length cap5,.slice a3 k cap3] 31):=Lib.hid ((hgb.block _ (HB1.out.kept hk4).lt (fun he=>by have:=(HOB.out _ he.symm).1;have:=HL3.out;omega)).trans (HB1.out.kept hk4))
     clear ho hgb hor hle4 hlt4
     refine hK.out _ _ (HS5.out _ HP5.out) (fun hHeld=> ?_)
     clear hK K
     try simp only[List.setIfInBounds_toArray,List.set_cons_zero,List.set_cons_succ]
     refine wpAnyH_take (i:=10) (oi:=_) (v:= ?_) rfl (by kernel_rfl) (by kernel_rfl) (by kernel_rfl) (fun _ _ _ h=>h) (Or.inl ⟨by rfl,?_⟩) (by assumption) ?_
     rotate_left
     ·intro w hSw;(try dsimp only at hSw);go_simp;first|done|with_reducible rfl
     try simp only[Act.put]
     refine wpAnyH_ready (rs:=[11]) (by kernel_rfl) (by simp) (AllReadyH.cons (o:=_) rfl (fun K hK=> ?_) AllReadyH.nil)
     obtain⟨d0,d1,d2,d3,d4,d5,d6,d7,d8,d9,f0,f1,f2,f3,f4,f5,f6,f7,f8,f9⟩:=HB5.out.facts10
     go_simp
     have HB6:Hid (Blk (w5.setCell ⟨b3,9,none⟩ (.slice a7 (k+1) cap7)) b3 #[.int .i64 o4,.int .i64 g4,.bool z4,.slice v1 v2 v3,.slice v4 v5 v6,.string nm4,.slice a4 n4 cap4,.bool st,.slice a5 c.box.length cap5,.slice a7 (k+1) cap7] 31):=Lib.hid (by have h:=HB5.out.set 9 (.slice a7 (k+1) cap7);simpa using h)
     have HG6:Hid (Grow W0 (w5.setCell ⟨b3,9,none⟩ (.slice a7 (k+1) cap7)) b3 93 8 (.slice a7 (k+1) cap7) (k+1) (cs++[.int .i64 o6,.int .i64 g6,.bool z6,.slice t1 t2 t3,.slice t4 t5 t6,.string nm6,.slice a6 n6 cap6,.bool tt]) (condR f) c.conds):=Lib.hid (HG5.out.store (condR_sub f) (st1 ..) HL3.out)
     refine hK.out _ _ (HS5.out _ (HP5.out.keptB (st1 ..) (by have:=HL3.out;have:=HSW.out;omega))) (fun hHeld=> ?_)
     clear hK K d0 d1 d2 d3 d4 d5 d6 d7 d8 d9 f0 f1 f2 f3 f4 f5 f6 f7 f8 f9
     refine wpAnyH_done (by kernel_rfl) ?_ _
     go_wp2
     go_roundw
     case rel=>exact⟨k+1,a7,cap7,_,by omega,by go_num,HB6,HG6⟩
     case measure=>simp[intOf];omega
    ·skip
     go_simp
     go_at_call 67
     refine(HOE.out k hlt _ _ (HEX.out.kept (Kept.refl wa).drew)).mono ?_
     rintro e w3 ⟨v3',rfl,hv3,hkn⟩
     obtain⟨o6,g6,z6,t1,t2,t3,t4,t5,t6,nm6,a6,n6,cap6,rfl⟩:=hv3.agg7
     have hk3:Kept wa w3:=Kept.trans (Kept.refl wa).drew hkn
     have HV3:Hid (Ex (onlyW w3 (ab wa.heap.size)) f (.agg #[.int .i64 o6,.int .i64 g6,.bool z6,.slice t1 t2 t3,.slice t4 t5 t6,.string nm6,.slice a6 n6 cap6]) c.conds[k].t):=Lib.hid hv3
     clear hkn hv3
     refine hK.out _ _ (HS5.out _ (HP.out.kept hk3)) (fun hHeld=> ?_)
     clear hK K
     try simp only[List.setIfInBounds_toArray,List.set_cons_zero,List.set_cons_succ]
     refine wpAnyH_take (i:=7) (oi:=_) (v:= ?_) rfl (by kernel_rfl) (by kernel_rfl) (by kernel_rfl) (fun _ _ _ h=>h) (Or.inl ⟨by rfl,?_⟩) (by assumption) ?_
     rotate_left
     ·intro w hSw;(try dsimp only at hSw);go_simp;first|done|with_reducible rfl
     try simp only[Act.put]
     refine wpAnyH_ready (rs:=[1,8]) (by kernel_rfl) (by simp) (AllReadyH.cons (o:=_) rfl (fun K hK=> ?_) (AllReadyH.cons (o:=_) rfl (fun K hK=> ?_) AllReadyH.nil))
     ·skip
      obtain⟨d0,d1,d2,d3,d4,d5,d6,d7,d8,d9,-⟩:=(HB1.out.kept hk3).facts10
      go_simp
      refine hK.out _ _ (HS5.out _ (HP.out.kept hk3)) (fun hHeld=> ?_)
      clear hK K d0 d1 d2 d3 d4 d5 d6 d7 d8 d9
      try simp only[List.setIfInBounds_toArray,List.set_cons_zero,List.set_cons_succ]
      refine wpAnyH_ready (rs:=[8]) (by kernel_rfl) (by simp) (AllReadyH.cons (o:=_) rfl (fun K hK=> ?_) AllReadyH.nil)
      go_simp
      refine hK.out _ _ (HS5.out _ (HP.out.kept (hk3.alloc _))) (fun hHeld=> ?_)
      clear hK K
      try simp only[List.setIfInBounds_toArray,List.set_cons_zero,List.set_cons_succ]
      refine wpAnyH_ready (rs:=[9]) (by kernel_rfl) (by simp) (AllReadyH.cons (o:=_) rfl (fun K hK=> ?_) AllReadyH.nil)
      have hk4:Kept wa (w3.alloc (.cells #[.int .i64 o6,.int .i64 g6,.bool z6,.slice t1 t2 t3,.slice t4 t5 t6,.string nm6,.slice a6 n6 cap6,.bool tt] 93)):=hk3.alloc _
      have HG4:=Lib.hid (HG1.out.kept (condR_sub f) hk4)
      have HN:=Lib.hid (Blk.new w3 #[.int .i64 o6,.int .i64 g6,.bool z6,.slice t1 t2 t3,.slice t4 t5 t6,.string nm6,.slice a6 n6 cap6,.bool tt] 93)
      have hle4:W0.heap.size≤(w3.alloc (.cells #[.int .i64 o6,.int .i64 g6,.bool z6,.slice t1 t2 t3,.slice t4 t5 t6,.string nm6,.slice a6 n6 cap6,.bool tt] 93)).heap.size:=Nat.le_trans (Nat.le_trans HSW.out (Nat.le_of_lt (by have:=HSZ.out;omega))) hk4.size
      refine step_append_grow (w:=(w3.alloc (.cells #[.int .i64 o6,.int .i64 g6,.bool z6,.slice t1 t2 t3,.slice t4 t5 t6,.string nm6,.slice a6 n6 cap6,.bool tt] 93))) rfl (.tmp 23) (.tmp 30) 29 rfl info93 Tryz.underlying29 rfl (by decide) (by decide) W0.heap.size hle4 _ k cs rfl HG4.out.own ⟨w3.heap.size,0,none⟩ 1 1 [.int .i64 o6,.int .i64 g6,.bool z6,.slice t1 t2 t3,.slice t4 t5 t6,.string nm6,.slice a6 n6 cap6,.bool tt] rfl rfl (blk_news HN.out) (by intro u hu;simp only[List.mem_cons,List.mem_nil_iff,or_false] at hu;rcases hu with rfl|rfl|rfl|rfl|rfl|rfl|rfl|rfl<;>rfl) (by decide) (by omega) ?_
      intro v5' w5 ho hgb hor
      obtain⟨a7,cap7,rfl,-,-,-⟩:=own_open ho
      have hlt4:wr.heap.size<(w3.alloc (.cells #[.int .i64 o6,.int .i64 g6,.bool z6,.slice t1 t2 t3,.slice t4 t5 t6,.string nm6,.slice a6 n6 cap6,.bool tt] 93)).heap.size:=Nat.lt_of_lt_of_le (by have:=HSZ.out;omega) hk4.size
      have HG5:Hid (Grow W0 w5 b3 93 8 (.slice a7 (k+1) cap7) (k+1) (cs++[.int .i64 o6,.int .i64 g6,.bool z6,.slice t1 t2 t3,.slice t4 t5 t6,.string nm6,.slice a6 n6 cap6,.bool tt]) (condR f) c.conds):=Lib.hid (HG4.out.append (condR_sub f) hle4 ho hgb hor rfl hlt (S:=ab wa.heap.size) ⟨o6,g6,z6,t1,t2,t3,t4,t5,t6,nm6,a6,n6,cap6,by rw[HTT.out],HV3.out.sub (fresh_kept ((Kept.refl w3).alloc _) (Nat.le_refl _))⟩ (fun b hb=>by
       have h1:wa.heap.size≤b:=by simpa [ab] using hb
       have h2:=HSZ.out
       have h3:=HSW.out
       refine⟨by omega,fun he=> ?_⟩
       have:=(HOB.out b he.symm).2
       omega))
      have HP5:Hid (Blk w5 wr.heap.size #[.int .i64 q0,.int .i64 q1,.bool q2,.slice u1 u2 u3,.slice u4 u5 u6,.string um,.slice ua un ucap,.bool tt] 93):=Lib.hid ((hgb.block _ hlt4 (fun he=>by have:=(HOB.out _ he.symm).2;omega)).trans (HP.out.kept hk4))
      have HB5:Hid (Blk w5 b3 #[.int .i64 o4,.int .i64 g4,.bool z4,.slice v1 v2 v3,.slice v4 v5 v6,.string nm4,.slice a4 n4 cap4,.bool st,.slice a5 c.box.length cap5,.slice a3 k cap3] 31):=Lib.hid ((hgb.block _ (HB1.out.kept hk4).lt (fun he=>by have:=(HOB.out _ he.symm).1;have:=HL3.out;omega)).trans (HB1.out.kept hk4))
      clear ho hgb hor hle4 hlt4
      refine hK.out _ _ (HS5.out _ HP5.out) (fun hHeld=> ?_)
      clear hK K
      try simp only[List.setIfInBounds_toArray,List.set_cons_zero,List.set_cons_succ]
      refine wpAnyH_take (i:=10) (oi:=_) (v:= ?_) rfl (by kernel_rfl) (by kernel_rfl) (by kernel_rfl) (fun _ _ _ h=>h) (Or.inl ⟨by rfl,?_⟩) (by assumption) ?_
      rotate_left
      ·intro w hSw;(try dsimp only at hSw);go_simp;first|done|with_reducible rfl
      try simp only[Act.put]
      refine wpAnyH_ready (rs:=[11]) (by kernel_rfl) (by simp) (AllReadyH.cons (o:=_) rfl (fun K hK=> ?_) AllReadyH.nil)
      obtain⟨d0,d1,d2,d3,d4,d5,d6,d7,d8,d9,f0,f1,f2,f3,f4,f5,f6,f7,f8,f9⟩:=HB5.out.facts10
      go_simp
      have HB6:Hid (Blk (w5.setCell ⟨b3,9,none⟩ (.slice a7 (k+1) cap7)) b3 #[.int .i64 o4,.int .i64 g4,.bool z4,.slice v1 v2 v3,.slice v4 v5 v6,.string nm4,.slice a4 n4 cap4,.bool st,.slice a5 c.box.length cap5,.slice a7 (k+1) cap7] 31):=Lib.hid (by have h:=HB5.out.set 9 (.slice a7 (k+1) cap7);simpa using h)
      have HG6:Hid (Grow W0 (w5.setCell ⟨b3,9,none⟩ (.slice a7 (k+1) cap7)) b3 93 8 (.slice a7 (k+1) cap7) (k+1) (cs++[.int .i64 o6,.int .i64 g6,.bool z6,.slice t1 t2 t3,.slice t4 t5 t6,.string nm6,.slice a6 n6 cap6,.bool tt]) (condR f) c.conds):=Lib.hid (HG5.out.store (condR_sub f) (st1 ..) HL3.out)
      refine hK.out _ _ (HS5.out _ (HP5.out.keptB (st1 ..) (by have:=HL3.out;have:=HSW.out;omega))) (fun hHeld=> ?_)
      clear hK K d0 d1 d2 d3 d4 d5 d6 d7 d8 d9 f0 f1 f2 f3 f4 f5 f6 f7 f8 f9
      refine wpAnyH_done (by kernel_rfl) ?_ _
      go_wp2
      go_roundw
      case rel=>exact⟨k+1,a7,cap7,_,by omega,by go_num,HB6,HG6⟩
      case measure=>simp[intOf];omega
     ·skip
      go_simp
      refine hK.out _ _ (HS5.out _ (HP.out.kept (hk3.alloc _))) (fun hHeld=> ?_)
      clear hK K
      try simp only[List.setIfInBounds_toArray,List.set_cons_zero,List.set_cons_succ]
      refine wpAnyH_ready (rs:=[1]) (by kernel_rfl) (by simp) (AllReadyH.cons (o:=_) rfl (fun K hK=> ?_) AllReadyH.nil)
      obtain⟨d0,d1,d2,d3,d4,d5,d6,d7,d8,d9,-⟩:=(HB1.out.kept (hk3.alloc (.cells #[.int .i64 o6,.int .i64 g6,.bool z6,.slice t1 t2 t3,.slice t4 t5 t6,.string nm6,.slice a6 n6 cap6,.bool tt] 93))).facts10
      go_simp
      refine hK.out _ _ (HS5.out _ (HP.out.kept (hk3.alloc (.cells #[.int .i64 o6,.int .i64 g6,.bool z6,.slice t1 t2 t3,.slice t4 t5 t6,.string nm6,.slice a6 n6 cap6,.bool tt] 93)))) (fun hHeld=> ?_)
      clear hK K d0 d1 d2 d3 d4 d5 d6 d7 d8 d9
      try simp only[List.setIfInBounds_toArray,List.set_cons_zero,List.set_cons_succ]
      refine wpAnyH_ready (rs:=[9]) (by kernel_rfl) (by simp) (AllReadyH.cons (o:=_) rfl (fun K hK=> ?_) AllReadyH.nil)
      have hk4:Kept wa (w3.alloc (.cells #[.int .i64 o6,.int .i64 g6,.bool z6,.slice t1 t2 t3,.slice t4 t5 t6,.string nm6,.slice a6 n6 cap6,.bool tt] 93)):=hk3.alloc _
      have HG4:=Lib.hid (HG1.out.kept (condR_sub f) hk4)
      have HN:=Lib.hid (Blk.new w3 #[.int .i64 o6,.int .i64 g6,.bool z6,.slice t1 t2 t3,.slice t4 t5 t6,.string nm6,.slice a6 n6 cap6,.bool tt] 93)
      have hle4:W0.heap.size≤(w3.alloc (.cells #[.int .i64 o6,.int .i64 g6,.bool z6,.slice t1 t2 t3,.slice t4 t5 t6,.string nm6,.slice a6 n6 cap6,.bool tt] 93)).heap.size:=Nat.le_trans (Nat.le_trans HSW.out (Nat.le_of_lt (by have:=HSZ.out;omega))) hk4.size
      refine step_append_grow (w:=(w3.alloc (.cells #[.int .i64 o6,.int .i64 g6,.bool z6,.slice t1 t2 t3,.slice t4 t5 t6,.string nm6,.slice a6 n6 cap6,.bool tt] 93))) rfl (.tmp 23) (.tmp 30) 29 rfl info93 Tryz.underlying29 rfl (by decide) (by decide) W0.heap.size hle4 _ k cs rfl HG4.out.own ⟨w3.heap.size,0,none⟩ 1 1 [.int .i64 o6,.int .i64 g6,.bool z6,.slice t1 t2 t3,.slice t4 t5 t6,.string nm6,.slice a6 n6 cap6,.bool tt] rfl rfl (blk_news HN.out) (by intro u hu;simp only[List.mem_cons,List.mem_nil_iff,or_false] at hu;rcases hu with rfl|rfl|rfl|rfl|rfl|rfl|rfl|rfl<;>rfl) (by decide) (by omega) ?_
      intro v5' w5 ho hgb hor
      obtain⟨a7,cap7,rfl,-,-,-⟩:=own_open ho
      have hlt4:wr.heap.size<(w3.alloc (.cells #[.int .i64 o6,.int .i64 g6,.bool z6,.slice t1 t2 t3,.slice t4 t5 t6,.string nm6,.slice a6 n6 cap6,.bool tt] 93)).heap.size:=Nat.lt_of_lt_of_le (by have:=HSZ.out;omega) hk4.size
      have HG5:Hid (Grow W0 w5 b3 93 8 (.slice a7 (k+1) cap7) (k+1) (cs++[.int .i64 o6,.int .i64 g6,.bool z6,.slice t1 t2 t3,.slice t4 t5 t6,.string nm6,.slice a6 n6 cap6,.bool tt]) (condR f) c.conds):=Lib.hid (HG4.out.append (condR_sub f) hle4 ho hgb hor rfl hlt (S:=ab wa.heap.size) ⟨o6,g6,z6,t1,t2,t3,t4,t5,t6,nm6,a6,n6,cap6,by rw[HTT.out],HV3.out.sub (fresh_kept ((Kept.refl w3).alloc _) (Nat.le_refl _))⟩ (fun b hb=>by
       have h1:wa.heap.size≤b:=by simpa [ab] using hb
       have h2:=HSZ.out
       have h3:=HSW.out
       refine⟨by omega,fun he=> ?_⟩
       have:=(HOB.out b he.symm).2
       omega))
      have HP5:Hid (Blk w5 wr.heap.size #[.int .i64 q0,.int .i64 q1,.bool q2,.slice u1 u2 u3,.slice u4 u5 u6,.string um,.slice ua un ucap,.bool tt] 93):=Lib.hid ((hgb.block _ hlt4 (fun he=>by have:=(HOB.out _ he.symm).2;omega)).trans (HP.out.kept hk4))
      have HB5:Hid (Blk w5 b3 #[.int .i64 o4,.int .i64 g4,.bool z4,.slice v1 v2 v3,.slice v4 v5 v6,.string nm4,.slice a4 n4 cap4,.bool st,.slice a5 c.box.length cap5,.slice a3 k cap3] 31):=Lib.hid ((hgb.block _ (HB1.out.kept hk4).lt (fun he=>by have:=(HOB.out _ he.symm).1;have:=HL3.out;omega)).trans (HB1.out.kept hk4))
      clear ho hgb hor hle4 hlt4
      refine hK.out _ _ (HS5.out _ HP5.out) (fun hHeld=> ?_)
      clear hK K
      try simp only[List.setIfInBounds_toArray,List.set_cons_zero,List.set_cons_succ]
      refine wpAnyH_take (i:=10) (oi:=_) (v:= ?_) rfl (by kernel_rfl) (by kernel_rfl) (by kernel_rfl) (fun _ _ _ h=>h) (Or.inl ⟨by rfl,?_⟩) (by assumption) ?_
      rotate_left
      ·intro w hSw;(try dsimp only at hSw);go_simp;first|done|with_reducible rfl
      try simp only[Act.put]
      refine wpAnyH_ready (rs:=[11]) (by kernel_rfl) (by simp) (AllReadyH.cons (o:=_) rfl (fun K hK=> ?_) AllReadyH.nil)
      obtain⟨d0,d1,d2,d3,d4,d5,d6,d7,d8,d9,f0,f1,f2,f3,f4,f5,f6,f7,f8,f9⟩:=HB5.out.facts10
      go_simp
      have HB6:Hid (Blk (w5.setCell ⟨b3,9,none⟩ (.slice a7 (k+1) cap7)) b3 #[.int .i64 o4,.int .i64 g4,.bool z4,.slice v1 v2 v3,.slice v4 v5 v6,.string nm4,.slice a4 n4 cap4,.bool st,.slice a5 c.box.length cap5,.slice a7 (k+1) cap7] 31):=Lib.hid (by have h:=HB5.out.set 9 (.slice a7 (k+1) cap7);simpa using h)
      have HG6:Hid (Grow W0 (w5.setCell ⟨b3,9,none⟩ (.slice a7 (k+1) cap7)) b3 93 8 (.slice a7 (k+1) cap7) (k+1) (cs++[.int .i64 o6,.int .i64 g6,.bool z6,.slice t1 t2 t3,.slice t4 t5 t6,.string nm6,.slice a6 n6 cap6,.bool tt]) (condR f) c.conds):=Lib.hid (HG5.out.store (condR_sub f) (st1 ..) HL3.out)
      refine hK.out _ _ (HS5.out _ (HP5.out.keptB (st1 ..) (by have:=HL3.out;have:=HSW.out;omega))) (fun hHeld=> ?_)
      clear hK K d0 d1 d2 d3 d4 d5 d6 d7 d8 d9 f0 f1 f2 f3 f4 f5 f6 f7 f8 f9
      refine wpAnyH_done (by kernel_rfl) ?_ _
      go_wp2
      go_roundw
      case rel=>exact⟨k+1,a7,cap7,_,by omega,by go_num,HB6,HG6⟩
      case measure=>simp[intOf];omega
   ·obtain rfl:c.conds.length=k:=by omega
    have hne:b0+1≠b3:=by have:=HZ0.out;omega
    have hne2:=fun h=>hne (Eq.symm h)
    have HB2:Hid (Blk wr (b0+1) #[.int .i64 0,.int .i64 0,.bool false,.slice none 0 0,.slice none 0 0,.string ⟨#[]⟩,.slice none 0 0,.bool false,.slice none 0 0,.slice none 0 0] 31):=Lib.hid (HB0.out.keptB HG.out.kb hne)
    obtain⟨d0,d1,d2,d3,d4,d5,d6,d7,d8,d9,-⟩:=HB.out.facts10
    obtain⟨k0,k1,k2,k3,k4,k5,k6,k7,k8,k9,j0,j1,j2,j3,j4,j5,j6,j7,j8,j9⟩:=HB2.out.facts10
    go_wp2
    have hend:KeptB wr ((((((((((wr.setCell ⟨b0+1,0,none⟩ (.int .i64 o4)).setCell ⟨b0+1,1,none⟩ (.int .i64 g4)).setCell ⟨b0+1,2,none⟩ (.bool z4)).setCell ⟨b0+1,3,none⟩ (.slice v1 v2 v3)).setCell ⟨b0+1,4,none⟩ (.slice v4 v5 v6)).setCell ⟨b0+1,5,none⟩ (.string nm4)).setCell ⟨b0+1,6,none⟩ (.slice a4 n4 cap4)).setCell ⟨b0+1,7,none⟩ (.bool st)).setCell ⟨b0+1,8,none⟩ (.slice a5 c.box.length cap5)).setCell ⟨b0+1,9,none⟩ (.slice a3 c.conds.length cap3)) (b0+1):=KeptB.st10 ..
    have HM:Hid (Sub (onlyW W0 (fun b=>decide (b0+2≤b)&&(b != b3))) (onlyW ((((((((((wr.setCell ⟨b0+1,0,none⟩ (.int .i64 o4)).setCell ⟨b0+1,1,none⟩ (.int .i64 g4)).setCell ⟨b0+1,2,none⟩ (.bool z4)).setCell ⟨b0+1,3,none⟩ (.slice v1 v2 v3)).setCell ⟨b0+1,4,none⟩ (.slice v4 v5 v6)).setCell ⟨b0+1,5,none⟩ (.string nm4)).setCell ⟨b0+1,6,none⟩ (.slice a4 n4 cap4)).setCell ⟨b0+1,7,none⟩ (.bool st)).setCell ⟨b0+1,8,none⟩ (.slice a5 c.box.length cap5)).setCell ⟨b0+1,9,none⟩ (.slice a3 c.conds.length cap3)) (ab b0))):=Lib.hid (only_move fun b hlt hs=>by
     simp only[Bool.and_eq_true,decide_eq_true_eq,bne_iff_ne] at hs
     refine⟨by simp only[ab,decide_eq_true_eq];omega,(hend.old b (Nat.lt_of_lt_of_le hlt HG.out.kb.size) (by omega)).trans (HG.out.kb.old b hlt hs.2)⟩)
    have HC:Hid (Cnm (onlyW ((((((((((wr.setCell ⟨b0+1,0,none⟩ (.int .i64 o4)).setCell ⟨b0+1,1,none⟩ (.int .i64 g4)).setCell ⟨b0+1,2,none⟩ (.bool z4)).setCell ⟨b0+1,3,none⟩ (.slice v1 v2 v3)).setCell ⟨b0+1,4,none⟩ (.slice v4 v5 v6)).setCell ⟨b0+1,5,none⟩ (.string nm4)).setCell ⟨b0+1,6,none⟩ (.slice a4 n4 cap4)).setCell ⟨b0+1,7,none⟩ (.bool st)).setCell ⟨b0+1,8,none⟩ (.slice a5 c.box.length cap5)).setCell ⟨b0+1,9,none⟩ (.slice a3 c.conds.length cap3)) (ab b0)) f a3 c.conds.length cap3 c.conds):=by
     obtain⟨a',cap',e1,hcap,-,hcell⟩:=own_open HG.out.own
     cases e1
     refine Lib.hid (Cnm.mk hcap hcn (fun i hi=> ?_) ((show RowsIs (condR f _) 8 cs c.conds by have h:=HG.out.rows;rw[List.take_length] at h;exact h).mono (condR_sub f _ _ (only_move fun b hlt hs=> ?_))))
     ·obtain⟨b,hb,ha,hc⟩:=hcell i hi
      refine⟨b,ha,?_⟩
      have h2:=HL3.out
      have h3:=HZ0.out
      rw[List.getElem?_eq_getElem hi] at hc⊢
      rw[cell_only,if_pos (by simp only[ab,decide_eq_true_eq];omega)]
      exact hend.cell hc (by show b≠b0+1;omega)
     ·simp only[S1,Bool.and_eq_true,decide_eq_true_eq] at hs
      have h2:=HL3.out
      have h3:=HZ0.out
      exact⟨by simp only[ab,decide_eq_true_eq];omega,hend.old b hlt (by omega)⟩
    refine bodyPost_ret (v:=.agg #[.int .i64 o4,.int .i64 g4,.bool z4,.slice v1 v2 v3,.slice v4 v5 v6,.string nm4,.slice a4 n4 cap4,.bool st,.slice a5 c.box.length cap5,.slice a3 c.conds.length cap3]) (by simp[results,Tryz.results66,go_sem,k0,k1,k2,k3,k4,k5,k6,k7,k8,k9]) rfl ⟨_,rfl,?_,HKW.out.but hend (by have:=HBE.out;omega)⟩
    rw[HBE.out]
    exact⟨o4,g4,z4,v1,v2,v3,v4,v5,v6,nm4,a4,n4,cap4,a5,_,cap5,a3,_,cap3,by rw[HST.out],HY.out.sub HM.out,HZB.out.sub HM.out,HC.out⟩
 have HREST:=Lib.hid hrest
 clear hrest hK
 have HSZ2:=Lib.hid hsz2
 clear hsz2 hA hB
 refine wp_region_held_drew (S:=fun w'=>w'.cell? ⟨b0,0,none⟩=some (.int .i64 o)∧w'.cell? ⟨b0,1,none⟩=some (.int .i64 g)∧w'.cell? ⟨b0,2,none⟩=some (.bool z)∧w'.cell? ⟨b0,3,none⟩=some (.slice x1 x2 x3)∧w'.cell? ⟨b0,4,none⟩=some (.slice x4 x5 x6)∧w'.cell? ⟨b0,5,none⟩=some (.string nm)∧w'.cell? ⟨b0,6,none⟩=some (.slice a0 n0 cap0)∧w'.cell? ⟨b0,7,none⟩=some (.bool st)∧w'.cell? ⟨b0,8,none⟩=some (.slice a1 c.box.length cap1)∧w'.cell? ⟨b0,9,none⟩=some (.slice a2 c.conds.length cap2)) (by kernel_rfl) (HALL.out _ (Kept.refl w1).drew) (fun hHeld=> ?_)
 refine wpAnyH_take (i:=0) (oi:=_) (v:= ?_) rfl (by kernel_rfl) (by kernel_rfl) (by kernel_rfl) (fun _ _ _ h=>h) (Or.inl ⟨by rfl,?_⟩) (by assumption) ?_
 rotate_left
 ·intro w hSw;(try dsimp only at hSw);go_simp;first|done|with_reducible rfl
 try simp only[Act.put,List.setIfInBounds_toArray]
 refine wpAnyH_take (i:=1) (oi:=_) (v:= ?_) rfl (by kernel_rfl) (by kernel_rfl) (by kernel_rfl) (fun _ _ _ h=>h) (Or.inl ⟨by rfl,?_⟩) (by assumption) ?_
 rotate_left
 ·intro w hSw;(try dsimp only at hSw);go_simp;first|done|with_reducible rfl
 try simp only[Act.put]
 refine wpAnyH_take (i:=3) (oi:=_) (v:= ?_) rfl (by kernel_rfl) (by kernel_rfl) (by kernel_rfl) (fun _ _ _ h=>h) (Or.inl ⟨by rfl,?_⟩) (by assumption) ?_
 rotate_left
 ·intro w hSw;(try dsimp only at hSw);go_simp;first|done|with_reducible rfl
 try simp only[Act.put]
 refine wpAnyH_take (i:=4) (oi:=_) (v:= ?_) rfl (by kernel_rfl) (by kernel_rfl) (by kernel_rfl) (fun _ _ _ h=>h) (Or.inl ⟨by rfl,?_⟩) (by assumption) ?_
 rotate_left
 ·intro w hSw;(try dsimp only at hSw);go_simp;first|done|with_reducible rfl
 try simp only[Act.put]
 refine wpAnyH_take (i:=5) (oi:=_) (v:= ?_) rfl (by kernel_rfl) (by kernel_rfl) (by kernel_rfl) (fun _ _ _ h=>h) (Or.inl ⟨by rfl,?_⟩) (by assumption) ?_
 rotate_left
 ·intro w hSw;(try dsimp only at hSw);go_simp;first|done|with_reducible rfl
 try simp only[Act.put]
 refine wpAnyH_take (i:=6) (oi:=_) (v:= ?_) rfl (by kernel_rfl) (by kernel_rfl) (by kernel_rfl) (fun _ _ _ h=>h) (Or.inl ⟨by rfl,?_⟩) (by assumption) ?_
 rotate_left
 ·intro w hSw;(try dsimp only at hSw);go_simp;first|done|with_reducible rfl
 try simp only[Act.put]
 refine wpAnyH_ready (rs:=[2,9]) (by kernel_rfl) (by simp) (AllReadyH.cons (o:=_) rfl (fun K hK=> ?_) (AllReadyH.cons (o:=_) rfl (fun K hK=> ?_) AllReadyH.nil))
 ·skip
  go_simp
  go_at_call 67
  refine(HG1.out _ (hk.trans (Kept.refl w1).drew)).mono ?_
  rintro e wc ⟨v3,rfl,hy,hkn⟩
  obtain⟨o4,g4,z4,v1,v2,v3,v4,v5,v6,nm4,a4,n4,cap4,rfl⟩:=hy.agg7
  have hkwc:Kept w1 wc:=Kept.trans (Kept.refl w1).drew hkn
  have Hy:Hid (Ex (onlyW wc (ab (b0+2))) f (.agg #[.int .i64 o4,.int .i64 g4,.bool z4,.slice v1 v2 v3,.slice v4 v5 v6,.string nm4,.slice a4 n4 cap4]) c.goal):=Lib.hid (hy.sub (only_move fun b _ hs=>⟨by
   have h1:=(show Kept w1 _ from(Kept.refl w1).drew).size
   have h2:=HSZ2.out
   have h0:_≤b:=of_decide_eq_true hs
   clear hs
   simp[ab]
   omega,rfl⟩))
  clear hkn hy
  refine hK.out _ _ (HALL.out _ hkwc) (fun hHeld=> ?_)
  clear hK K
  try simp only[List.setIfInBounds_toArray,List.set_cons_zero,List.set_cons_succ]
  refine wpAnyH_ready (rs:=[7,9]) (by kernel_rfl) (by simp) (AllReadyH.cons (o:=_) rfl (fun K hK=> ?_) (AllReadyH.cons (o:=_) rfl (fun K hK=> ?_) AllReadyH.nil))
  ·skip
   go_simp
   go_at_call 139
   refine(HBX.out _ (hk.trans hkwc)).mono ?_
   rintro e wd ⟨a5,cap5,rfl,hy,hkn⟩
   have hkwd:Kept w1 wd:=Kept.trans hkwc hkn
   have Hz:Hid (Bxm (onlyW wd (ab (b0+2))) a5 c.box.length cap5 c.box):=Lib.hid (hy.sub (only_move fun b _ hs=>⟨by
    have h1:=(show Kept w1 _ from hkwc).size
    have h2:=HSZ2.out
    have h0:_≤b:=of_decide_eq_true hs
    clear hs
    simp[ab]
    omega,rfl⟩))
   replace Hy:=Lib.hid (Hy.out.sub (only_keep hkn))
   clear hkn hy
   refine hK.out _ _ (HALL.out _ hkwd) (fun hHeld=> ?_)
   clear hK K
   try simp only[List.setIfInBounds_toArray,List.set_cons_zero,List.set_cons_succ]
   refine wpAnyH_take (i:=8) (oi:=_) (v:= ?_) rfl (by kernel_rfl) (by kernel_rfl) (by kernel_rfl) (fun _ _ _ h=>h) (Or.inl ⟨by rfl,?_⟩) (by assumption) ?_
   rotate_left
   ·intro w hSw;(try dsimp only at hSw);go_simp;first|done|with_reducible rfl
   try simp only[Act.put]
   refine wpAnyH_ready (rs:=[9]) (by kernel_rfl) (by simp) (AllReadyH.cons (o:=_) rfl (fun K hK=> ?_) AllReadyH.nil)
   go_simp
   refine hK.out _ _ (HALL.out _ (Kept.alloc hkwd _)) (fun hHeld=> ?_)
   clear hK K
   try simp only[List.setIfInBounds_toArray,List.set_cons_zero,List.set_cons_succ]
   have HB6:Hid (Blk (wd.alloc (.cells #[.int .i64 0,.int .i64 0,.bool false,.slice none 0 0,.slice none 0 0,.string ⟨#[]⟩,.slice none 0 0,.bool false,.slice none 0 0,.slice none 0 0] 31)) (wd.heap.size) #[.int .i64 0,.int .i64 0,.bool false,.slice none 0 0,.slice none 0 0,.string ⟨#[]⟩,.slice none 0 0,.bool false,.slice none 0 0,.slice none 0 0] 31):=Lib.hid (Blk.new ..)
   have HZ6:Hid (w1.heap.size≤wd.heap.size):=Lib.hid (show Kept w1 wd from hkwd).size
   have hkwe:Kept w1 (wd.alloc (.cells #[.int .i64 0,.int .i64 0,.bool false,.slice none 0 0,.slice none 0 0,.string ⟨#[]⟩,.slice none 0 0,.bool false,.slice none 0 0,.slice none 0 0] 31)):=(Kept.alloc hkwd _)
   replace Hy:=Lib.hid (Hy.out.sub (only_move (w':=wd.alloc (.cells #[.int .i64 0,.int .i64 0,.bool false,.slice none 0 0,.slice none 0 0,.string ⟨#[]⟩,.slice none 0 0,.bool false,.slice none 0 0,.slice none 0 0] 31)) (S':=(fun b=>decide (b0+2≤b)&&(b != wd.heap.size))) fun b hlt hs=>⟨by simp[ab] at hs⊢;omega,((Kept.refl _).alloc _).old b hlt⟩))
   replace Hz:=Lib.hid (Hz.out.sub (only_move (w':=wd.alloc (.cells #[.int .i64 0,.int .i64 0,.bool false,.slice none 0 0,.slice none 0 0,.string ⟨#[]⟩,.slice none 0 0,.bool false,.slice none 0 0,.slice none 0 0] 31)) (S':=(fun b=>decide (b0+2≤b)&&(b != wd.heap.size))) fun b hlt hs=>⟨by simp[ab] at hs⊢;omega,((Kept.refl _).alloc _).old b hlt⟩))
   generalize wd.alloc (.cells #[.int .i64 0,.int .i64 0,.bool false,.slice none 0 0,.slice none 0 0,.string ⟨#[]⟩,.slice none 0 0,.bool false,.slice none 0 0,.slice none 0 0] 31)=we at*
   generalize wd.heap.size=b6 at*
   refine wpAnyH_ready (rs:=[10]) (by kernel_rfl) (by simp) (AllReadyH.cons (o:=_) rfl (fun K hK=> ?_) AllReadyH.nil)
   have hkz:Kept w1 we:=hkwe
   obtain⟨d0,d1,d2,d3,d4,d5,d6,d7,d8,d9,e0,e1,e2,e3,e4,e5,e6,e7,e8,e9⟩:=HB6.out.facts10
   go_simp
   have hkb:KeptB we ((((((((((we.setCell ⟨b6,0,none⟩ (.int .i64 o4)).setCell ⟨b6,1,none⟩ (.int .i64 g4)).setCell ⟨b6,2,none⟩ (.bool z4)).setCell ⟨b6,3,none⟩ (.slice v1 v2 v3)).setCell ⟨b6,4,none⟩ (.slice v4 v5 v6)).setCell ⟨b6,5,none⟩ (.string nm4)).setCell ⟨b6,6,none⟩ (.slice a4 n4 cap4)).setCell ⟨b6,7,none⟩ (.bool st)).setCell ⟨b6,8,none⟩ (.slice a5 c.box.length cap5)).setCell ⟨b6,9,none⟩ (.slice none 0 0)) b6:=KeptB.st10 ..
   have HB7:Hid (Blk ((((((((((we.setCell ⟨b6,0,none⟩ (.int .i64 o4)).setCell ⟨b6,1,none⟩ (.int .i64 g4)).setCell ⟨b6,2,none⟩ (.bool z4)).setCell ⟨b6,3,none⟩ (.slice v1 v2 v3)).setCell ⟨b6,4,none⟩ (.slice v4 v5 v6)).setCell ⟨b6,5,none⟩ (.string nm4)).setCell ⟨b6,6,none⟩ (.slice a4 n4 cap4)).setCell ⟨b6,7,none⟩ (.bool st)).setCell ⟨b6,8,none⟩ (.slice a5 c.box.length cap5)).setCell ⟨b6,9,none⟩ (.slice none 0 0)) b6 #[.int .i64 o4,.int .i64 g4,.bool z4,.slice v1 v2 v3,.slice v4 v5 v6,.string nm4,.slice a4 n4 cap4,.bool st,.slice a5 c.box.length cap5,.slice none 0 0] 31):=Lib.hid (HB6.out.all10 ..)
   have hkg:Kept w1 ((((((((((we.setCell ⟨b6,0,none⟩ (.int .i64 o4)).setCell ⟨b6,1,none⟩ (.int .i64 g4)).setCell ⟨b6,2,none⟩ (.bool z4)).setCell ⟨b6,3,none⟩ (.slice v1 v2 v3)).setCell ⟨b6,4,none⟩ (.slice v4 v5 v6)).setCell ⟨b6,5,none⟩ (.string nm4)).setCell ⟨b6,6,none⟩ (.slice a4 n4 cap4)).setCell ⟨b6,7,none⟩ (.bool st)).setCell ⟨b6,8,none⟩ (.slice a5 c.box.length cap5)).setCell ⟨b6,9,none⟩ (.slice none 0 0)):=hkz.but hkb HZ6.out
   have HM:Hid (Sub (onlyW we (fun b=>decide (b0+2≤b)&&(b != b6))) (onlyW ((((((((((we.setCell ⟨b6,0,none⟩ (.int .i64 o4)).setCell ⟨b6,1,none⟩ (.int .i64 g4)).setCell ⟨b6,2,none⟩ (.bool z4)).setCell ⟨b6,3,none⟩ (.slice v1 v2 v3)).setCell ⟨b6,4,none⟩ (.slice v4 v5 v6)).setCell ⟨b6,5,none⟩ (.string nm4)).setCell ⟨b6,6,none⟩ (.slice a4 n4 cap4)).setCell ⟨b6,7,none⟩ (.bool st)).setCell ⟨b6,8,none⟩ (.slice a5 c.box.length cap5)).setCell ⟨b6,9,none⟩ (.slice none 0 0)) (fun b=>decide (b0+2≤b)&&(b != b6)))):=Lib.hid (only_move fun b hlt hs=>⟨hs,hkb.old b hlt (by simp at hs;exact hs.2)⟩)
   refine hK.out _ _ (HALL.out _ hkg) (fun hHeld=> ?_)
   clear hK K
   refine wpAnyH_done (by kernel_rfl) ?_ _
   try simp only[List.setIfInBounds_toArray,List.set_cons_zero,List.set_cons_succ]
   exact HREST.out b6 _ o4 g4 z4 v1 v2 v3 v4 v5 v6 nm4 a4 n4 cap4 a5 cap5 hkg HZ6.out HB7.out (Hy.out.sub HM.out) (Hz.out.sub HM.out)
  ·skip
   go_simp
   refine hK.out _ _ (HALL.out _ (Kept.alloc hkwc _)) (fun hHeld=> ?_)
   clear hK K
   try simp only[List.setIfInBounds_toArray,List.set_cons_zero,List.set_cons_succ]
   have HB6:Hid (Blk (wc.alloc (.cells #[.int .i64 0,.int .i64 0,.bool false,.slice none 0 0,.slice none 0 0,.string ⟨#[]⟩,.slice none 0 0,.bool false,.slice none 0 0,.slice none 0 0] 31)) (wc.heap.size) #[.int .i64 0,.int .i64 0,.bool false,.slice none 0 0,.slice none 0 0,.string ⟨#[]⟩,.slice none 0 0,.bool false,.slice none 0 0,.slice none 0 0] 31):=Lib.hid (Blk.new ..)
   have HZ6:Hid (w1.heap.size≤wc.heap.size):=Lib.hid (show Kept w1 wc from hkwc).size
   have hkwe:Kept w1 (wc.alloc (.cells #[.int .i64 0,.int .i64 0,.bool false,.slice none 0 0,.slice none 0 0,.string ⟨#[]⟩,.slice none 0 0,.bool false,.slice none 0 0,.slice none 0 0] 31)):=(Kept.alloc hkwc _)
   replace Hy:=Lib.hid (Hy.out.sub (only_move (w':=wc.alloc (.cells #[.int .i64 0,.int .i64 0,.bool false,.slice none 0 0,.slice none 0 0,.string ⟨#[]⟩,.slice none 0 0,.bool false,.slice none 0 0,.slice none 0 0] 31)) (S':=(fun b=>decide (b0+2≤b)&&(b != wc.heap.size))) fun b hlt hs=>⟨by simp[ab] at hs⊢;omega,((Kept.refl _).alloc _).old b hlt⟩))
   generalize wc.alloc (.cells #[.int .i64 0,.int .i64 0,.bool false,.slice none 0 0,.slice none 0 0,.string ⟨#[]⟩,.slice none 0 0,.bool false,.slice none 0 0,.slice none 0 0] 31)=we at*
   generalize wc.heap.size=b6 at*
   refine wpAnyH_ready (rs:=[7]) (by kernel_rfl) (by simp) (AllReadyH.cons (o:=_) rfl (fun K hK=> ?_) AllReadyH.nil)
   go_simp
   go_at_call 139
   refine(HBX.out _ (hk.trans hkwe)).mono ?_
   rintro e wd ⟨a5,cap5,rfl,hy,hkn⟩
   have hkwd:Kept w1 wd:=Kept.trans hkwe hkn
   have Hz:Hid (Bxm (onlyW wd (fun b=>decide (b0+2≤b)&&(b != b6))) a5 c.box.length cap5 c.box):=Lib.hid (hy.sub (only_move fun b _ hs=>⟨by
    have h1:=(show Kept w1 _ from hkwe).size
    have h2:=HSZ2.out
    have h3:=HB6.out.lt
    have h0:_≤b:=of_decide_eq_true hs
    clear hs
    simp
    omega,rfl⟩))
   replace HB6:=Lib.hid (HB6.out.kept hkn)
   replace Hy:=Lib.hid (Hy.out.sub (only_keep hkn))
   clear hkn hy
   refine hK.out _ _ (HALL.out _ hkwd) (fun hHeld=> ?_)
   clear hK K
   try simp only[List.setIfInBounds_toArray,List.set_cons_zero,List.set_cons_succ]
   refine wpAnyH_take (i:=8) (oi:=_) (v:= ?_) rfl (by kernel_rfl) (by kernel_rfl) (by kernel_rfl) (fun _ _ _ h=>h) (Or.inl ⟨by rfl,?_⟩) (by assumption) ?_
   rotate_left
   ·intro w hSw;(try dsimp only at hSw);go_simp;first|done|with_reducible rfl
   try simp only[Act.put]
   refine wpAnyH_ready (rs:=[10]) (by kernel_rfl) (by simp) (AllReadyH.cons (o:=_) rfl (fun K hK=> ?_) AllReadyH.nil)
   have hkz:Kept w1 wd:=hkwd
   obtain⟨d0,d1,d2,d3,d4,d5,d6,d7,d8,d9,e0,e1,e2,e3,e4,e5,e6,e7,e8,e9⟩:=HB6.out.facts10
   go_simp
   have hkb:KeptB wd ((((((((((wd.setCell ⟨b6,0,none⟩ (.int .i64 o4)).setCell ⟨b6,1,none⟩ (.int .i64 g4)).setCell ⟨b6,2,none⟩ (.bool z4)).setCell ⟨b6,3,none⟩ (.slice v1 v2 v3)).setCell ⟨b6,4,none⟩ (.slice v4 v5 v6)).setCell ⟨b6,5,none⟩ (.string nm4)).setCell ⟨b6,6,none⟩ (.slice a4 n4 cap4)).setCell ⟨b6,7,none⟩ (.bool st)).setCell ⟨b6,8,none⟩ (.slice a5 c.box.length cap5)).setCell ⟨b6,9,none⟩ (.slice none 0 0)) b6:=KeptB.st10 ..
   have HB7:Hid (Blk ((((((((((wd.setCell ⟨b6,0,none⟩ (.int .i64 o4)).setCell ⟨b6,1,none⟩ (.int .i64 g4)).setCell ⟨b6,2,none⟩ (.bool z4)).setCell ⟨b6,3,none⟩ (.slice v1 v2 v3)).setCell ⟨b6,4,none⟩ (.slice v4 v5 v6)).setCell ⟨b6,5,none⟩ (.string nm4)).setCell ⟨b6,6,none⟩ (.slice a4 n4 cap4)).setCell ⟨b6,7,none⟩ (.bool st)).setCell ⟨b6,8,none⟩ (.slice a5 c.box.length cap5)).setCell ⟨b6,9,none⟩ (.slice none 0 0)) b6 #[.int .i64 o4,.int .i64 g4,.bool z4,.slice v1 v2 v3,.slice v4 v5 v6,.string nm4,.slice a4 n4 cap4,.bool st,.slice a5 c.box.length cap5,.slice none 0 0] 31):=Lib.hid (HB6.out.all10 ..)
   have hkg:Kept w1 ((((((((((wd.setCell ⟨b6,0,none⟩ (.int .i64 o4)).setCell ⟨b6,1,none⟩ (.int .i64 g4)).setCell ⟨b6,2,none⟩ (.bool z4)).setCell ⟨b6,3,none⟩ (.slice v1 v2 v3)).setCell ⟨b6,4,none⟩ (.slice v4 v5 v6)).setCell ⟨b6,5,none⟩ (.string nm4)).setCell ⟨b6,6,none⟩ (.slice a4 n4 cap4)).setCell ⟨b6,7,none⟩ (.bool st)).setCell ⟨b6,8,none⟩ (.slice a5 c.box.length cap5)).setCell ⟨b6,9,none⟩ (.slice none 0 0)):=hkz.but hkb HZ6.out
   have HM:Hid (Sub (onlyW wd (fun b=>decide (b0+2≤b)&&(b != b6))) (onlyW ((((((((((wd.setCell ⟨b6,0,none⟩ (.int .i64 o4)).setCell ⟨b6,1,none⟩ (.int .i64 g4)).setCell ⟨b6,2,none⟩ (.bool z4)).setCell ⟨b6,3,none⟩ (.slice v1 v2 v3)).setCell ⟨b6,4,none⟩ (.slice v4 v5 v6)).setCell ⟨b6,5,none⟩ (.string nm4)).setCell ⟨b6,6,none⟩ (.slice a4 n4 cap4)).setCell ⟨b6,7,none⟩ (.bool st)).setCell ⟨b6,8,none⟩ (.slice a5 c.box.length cap5)).setCell ⟨b6,9,none⟩ (.slice none 0 0)) (fun b=>decide (b0+2≤b)&&(b != b6)))):=Lib.hid (only_move fun b hlt hs=>⟨hs,hkb.old b hlt (by simp at hs;exact hs.2)⟩)
   refine hK.out _ _ (HALL.out _ hkg) (fun hHeld=> ?_)
   clear hK K
   refine wpAnyH_done (by kernel_rfl) ?_ _
   try simp only[List.setIfInBounds_toArray,List.set_cons_zero,List.set_cons_succ]
   exact HREST.out b6 _ o4 g4 z4 v1 v2 v3 v4 v5 v6 nm4 a4 n4 cap4 a5 cap5 hkg HZ6.out HB7.out (Hy.out.sub HM.out) (Hz.out.sub HM.out)
 ·skip
  go_simp
  refine hK.out _ _ (HALL.out _ ((Kept.refl w1).alloc _).drew) (fun hHeld=> ?_)
  clear hK K
  try simp only[List.setIfInBounds_toArray,List.set_cons_zero,List.set_cons_succ]
  have HB6:Hid (Blk ((w1.alloc (.cells #[.int .i64 0,.int .i64 0,.bool false,.slice none 0 0,.slice none 0 0,.string ⟨#[]⟩,.slice none 0 0,.bool false,.slice none 0 0,.slice none 0 0] 31)).drew) (w1.heap.size) #[.int .i64 0,.int .i64 0,.bool false,.slice none 0 0,.slice none 0 0,.string ⟨#[]⟩,.slice none 0 0,.bool false,.slice none 0 0,.slice none 0 0] 31):=Lib.hid (Blk.newD ..)
  have HZ6:Hid (w1.heap.size≤w1.heap.size):=Lib.hid (Nat.le_refl _)
  have hkwe:Kept w1 ((w1.alloc (.cells #[.int .i64 0,.int .i64 0,.bool false,.slice none 0 0,.slice none 0 0,.string ⟨#[]⟩,.slice none 0 0,.bool false,.slice none 0 0,.slice none 0 0] 31)).drew):=((Kept.refl w1).alloc _).drew
  generalize (w1.alloc (.cells #[.int .i64 0,.int .i64 0,.bool false,.slice none 0 0,.slice none 0 0,.string ⟨#[]⟩,.slice none 0 0,.bool false,.slice none 0 0,.slice none 0 0] 31)).drew=we at*
  obtain⟨b6,hb6⟩:∃b6,b6=w1.heap.size:=⟨_,rfl⟩
  rw[←hb6] at HB6⊢
  replace HZ6:Hid (w1.heap.size≤b6):=Lib.hid (Nat.le_of_eq hb6.symm)
  clear hb6
  refine wpAnyH_ready (rs:=[2]) (by kernel_rfl) (by simp) (AllReadyH.cons (o:=_) rfl (fun K hK=> ?_) AllReadyH.nil)
  go_simp
  go_at_call 67
  refine(HG1.out _ (hk.trans hkwe)).mono ?_
  rintro e wc ⟨v3,rfl,hy,hkn⟩
  obtain⟨o4,g4,z4,v1,v2,v3,v4,v5,v6,nm4,a4,n4,cap4,rfl⟩:=hy.agg7
  have hkwc:Kept w1 wc:=Kept.trans hkwe hkn
  have Hy:Hid (Ex (onlyW wc (fun b=>decide (b0+2≤b)&&(b != b6))) f (.agg #[.int .i64 o4,.int .i64 g4,.bool z4,.slice v1 v2 v3,.slice v4 v5 v6,.string nm4,.slice a4 n4 cap4]) c.goal):=Lib.hid (hy.sub (only_move fun b _ hs=>⟨by
   have h1:=(show Kept w1 _ from hkwe).size
   have h2:=HSZ2.out
   have h3:=HB6.out.lt
   have h0:_≤b:=of_decide_eq_true hs
   clear hs
   simp
   omega,rfl⟩))
  replace HB6:=Lib.hid (HB6.out.kept hkn)
  clear hkn hy
  refine hK.out _ _ (HALL.out _ hkwc) (fun hHeld=> ?_)
  clear hK K
  try simp only[List.setIfInBounds_toArray,List.set_cons_zero,List.set_cons_succ]
  refine wpAnyH_ready (rs:=[7]) (by kernel_rfl) (by simp) (AllReadyH.cons (o:=_) rfl (fun K hK=> ?_) AllReadyH.nil)
  go_simp
  go_at_call 139
  refine(HBX.out _ (hk.trans hkwc)).mono ?_
  rintro e wd ⟨a5,cap5,rfl,hy,hkn⟩
  have hkwd:Kept w1 wd:=Kept.trans hkwc hkn
  have Hz:Hid (Bxm (onlyW wd (fun b=>decide (b0+2≤b)&&(b != b6))) a5 c.box.length cap5 c.box):=Lib.hid (hy.sub (only_move fun b _ hs=>⟨by
   have h1:=(show Kept w1 _ from hkwc).size
   have h2:=HSZ2.out
   have h3:=HB6.out.lt
   have h0:_≤b:=of_decide_eq_true hs
   clear hs
   simp
   omega,rfl⟩))
  replace HB6:=Lib.hid (HB6.out.kept hkn)
  replace Hy:=Lib.hid (Hy.out.sub (only_keep hkn))
  clear hkn hy
  refine hK.out _ _ (HALL.out _ hkwd) (fun hHeld=> ?_)
  clear hK K
  try simp only[List.setIfInBounds_toArray,List.set_cons_zero,List.set_cons_succ]
  refine wpAnyH_take (i:=8) (oi:=_) (v:= ?_) rfl (by kernel_rfl) (by kernel_rfl) (by kernel_rfl) (fun _ _ _ h=>h) (Or.inl ⟨by rfl,?_⟩) (by assumption) ?_
  rotate_left
  ·intro w hSw;(try dsimp only at hSw);go_simp;first|done|with_reducible rfl
  try simp only[Act.put]
  refine wpAnyH_ready (rs:=[10]) (by kernel_rfl) (by simp) (AllReadyH.cons (o:=_) rfl (fun K hK=> ?_) AllReadyH.nil)
  have hkz:Kept w1 wd:=hkwd
  obtain⟨d0,d1,d2,d3,d4,d5,d6,d7,d8,d9,e0,e1,e2,e3,e4,e5,e6,e7,e8,e9⟩:=HB6.out.facts10
  go_simp
  have hkb:KeptB wd ((((((((((wd.setCell ⟨b6,0,none⟩ (.int .i64 o4)).setCell ⟨b6,1,none⟩ (.int .i64 g4)).setCell ⟨b6,2,none⟩ (.bool z4)).setCell ⟨b6,3,none⟩ (.slice v1 v2 v3)).setCell ⟨b6,4,none⟩ (.slice v4 v5 v6)).setCell ⟨b6,5,none⟩ (.string nm4)).setCell ⟨b6,6,none⟩ (.slice a4 n4 cap4)).setCell ⟨b6,7,none⟩ (.bool st)).setCell ⟨b6,8,none⟩ (.slice a5 c.box.length cap5)).setCell ⟨b6,9,none⟩ (.slice none 0 0)) b6:=KeptB.st10 ..
  have HB7:Hid (Blk ((((((((((wd.setCell ⟨b6,0,none⟩ (.int .i64 o4)).setCell ⟨b6,1,none⟩ (.int .i64 g4)).setCell ⟨b6,2,none⟩ (.bool z4)).setCell ⟨b6,3,none⟩ (.slice v1 v2 v3)).setCell ⟨b6,4,none⟩ (.slice v4 v5 v6)).setCell ⟨b6,5,none⟩ (.string nm4)).setCell ⟨b6,6,none⟩ (.slice a4 n4 cap4)).setCell ⟨b6,7,none⟩ (.bool st)).setCell ⟨b6,8,none⟩ (.slice a5 c.box.length cap5)).setCell ⟨b6,9,none⟩ (.slice none 0 0)) b6 #[.int .i64 o4,.int .i64 g4,.bool z4,.slice v1 v2 v3,.slice v4 v5 v6,.string nm4,.slice a4 n4 cap4,.bool st,.slice a5 c.box.length cap5,.slice none 0 0] 31):=Lib.hid (HB6.out.all10 ..)
  have hkg:Kept w1 ((((((((((wd.setCell ⟨b6,0,none⟩ (.int .i64 o4)).setCell ⟨b6,1,none⟩ (.int .i64 g4)).setCell ⟨b6,2,none⟩ (.bool z4)).setCell ⟨b6,3,none⟩ (.slice v1 v2 v3)).setCell ⟨b6,4,none⟩ (.slice v4 v5 v6)).setCell ⟨b6,5,none⟩ (.string nm4)).setCell ⟨b6,6,none⟩ (.slice a4 n4 cap4)).setCell ⟨b6,7,none⟩ (.bool st)).setCell ⟨b6,8,none⟩ (.slice a5 c.box.length cap5)).setCell ⟨b6,9,none⟩ (.slice none 0 0)):=hkz.but hkb HZ6.out
  have HM:Hid (Sub (onlyW wd (fun b=>decide (b0+2≤b)&&(b != b6))) (onlyW ((((((((((wd.setCell ⟨b6,0,none⟩ (.int .i64 o4)).setCell ⟨b6,1,none⟩ (.int .i64 g4)).setCell ⟨b6,2,none⟩ (.bool z4)).setCell ⟨b6,3,none⟩ (.slice v1 v2 v3)).setCell ⟨b6,4,none⟩ (.slice v4 v5 v6)).setCell ⟨b6,5,none⟩ (.string nm4)).setCell ⟨b6,6,none⟩ (.slice a4 n4 cap4)).setCell ⟨b6,7,none⟩ (.bool st)).setCell ⟨b6,8,none⟩ (.slice a5 c.box.length cap5)).setCell ⟨b6,9,none⟩ (.slice none 0 0)) (fun b=>decide (b0+2≤b)&&(b != b6)))):=Lib.hid (only_move fun b hlt hs=>⟨hs,hkb.old b hlt (by simp at hs;exact hs.2)⟩)
  refine hK.out _ _ (HALL.out _ hkg) (fun hHeld=> ?_)
  clear hK K
  refine wpAnyH_done (by kernel_rfl) ?_ _
  try simp only[List.setIfInBounds_toArray,List.set_cons_zero,List.set_cons_succ]
  exact HREST.out b6 _ o4 g4 z4 v1 v2 v3 v4 v5 v6 nm4 a4 n4 cap4 a5 cap5 hkg HZ6.out HB7.out (Hy.out.sub HM.out) (Hz.out.sub HM.out)
end Go.Proofs.YtbapfnpbamnmpaaGreatDoor
