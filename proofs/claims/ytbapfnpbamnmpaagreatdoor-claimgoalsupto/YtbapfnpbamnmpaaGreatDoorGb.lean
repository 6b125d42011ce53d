/- A part of the proof that ClaimGoals answers true for every input of bulk at most 1048576: conditions: the row's own. -/
import Derived.Test.YtbapfnpbamnmpaaGreatDoorGa
import Derived.Test.YtbapfnpbamnmpaaGreatDoorXa
namespace Go.Proofs.YtbapfnpbamnmpaaGreatDoor
open Go Go.RowKit Go.Dig Go.Deep
open Go.Eng (Kept KW KeptB wp_region_kw kw_call)
theorem info27:InfoIs 27 (.agg #[.int .i64 0,.int .i64 0,.bool false,.slice none 0 0,.slice none 0 0,.string ⟨#[]⟩,.slice none 0 0]) 7 112:=infoIs (by kernel_rfl)
theorem KeptB.st7(w:World)(b:Nat)(x0 x1 x2 x3 x4 x5 x6:Value):KeptB w (((((((w.setCell ⟨b,0,none⟩ x0).setCell ⟨b,1,none⟩ x1).setCell ⟨b,2,none⟩ x2).setCell ⟨b,3,none⟩ x3).setCell ⟨b,4,none⟩ x4).setCell ⟨b,5,none⟩ x5).setCell ⟨b,6,none⟩ x6) b:=
 (((((((KeptB.refl w b).setCell rfl _).setCell rfl _).setCell rfl _).setCell rfl _).setCell rfl _).setCell rfl _).setCell rfl _
theorem Blk.all7{w:World}{b:Nat}{t:TypeId}{y0 y1 y2 y3 y4 y5 y6:Value}(h:Blk w b #[y0,y1,y2,y3,y4,y5,y6] t)(x0 x1 x2 x3 x4 x5 x6:Value):
 Blk (((((((w.setCell ⟨b,0,none⟩ x0).setCell ⟨b,1,none⟩ x1).setCell ⟨b,2,none⟩ x2).setCell ⟨b,3,none⟩ x3).setCell ⟨b,4,none⟩ x4).setCell ⟨b,5,none⟩ x5).setCell ⟨b,6,none⟩ x6) b #[x0,x1,x2,x3,x4,x5,x6] t:=by
 have h9:=((((((h.set 0 x0).set 1 x1).set 2 x2).set 3 x3).set 4 x4).set 5 x5).set 6 x6
 simpa using h9
theorem blk_news{w:World}{b:Nat}{cs:Array Value}{t:TypeId}(h:Blk w b cs t):∀(j:Nat)(u:Value),cs.toList[j]? =some u→w.cell? (Addr.add ⟨b,0,none⟩ j)=some u:=by
 intro j u hu
 rw[show(Addr.add ⟨b,0,none⟩ j)=⟨b,0+j,none⟩ by unfold Addr.add;split<;>simp_all]
 rw[Nat.zero_add]
 exact h.cell j (by simpa using hu)
theorem node_kids{op arg:Int}{s:Bool}{N D:Nat}{name:ByteArray}{n:Nat}(h:nodeOk op arg s N D name n=true):n≤3:=by
 unfold nodeOk at h
 simp only[Bool.and_eq_true,decide_eq_true_eq] at h
 have h1:=h.1.1
 unfold kidsI at h1
 repeat' split at h1
 all_goals omega
def kidR(f:Nat):World→List Value→Tree→Prop:=fun W l t=>Ex W f (.agg l.toArray) t
theorem kidR_sub(f:Nat):∀w w',Sub w w'→∀l t,kidR f w l t→kidR f w' l t:=fun _ _ k _ _ h=>h.sub k
def OwnE(f:Nat):Prop:=∀{w:World}{v:Value}{t:Tree},Ex w f v t→wellT t→
    Calls Tryz.prog 67 #[v] w fun e w'=>∃v',e= .returned v'∧Ex (onlyW w' (ab w.heap.size)) f v' t∧Kept w w'
set_option maxHeartbeats 8000000 in
set_option maxRecDepth 100000 in
theorem ownExpr_step{f:Nat}(ih:OwnE f):OwnE (f+1):=by
 intro w v t h hN
 obtain⟨op,arg,s,N,D,name,kids⟩:=t
 obtain⟨x1,x2,x3,x4,x5,x6,a,cap,rfl,hc,hn,hr⟩:=h.shape
 have hn3:kids.length≤3:=node_kids hN.1
 have HKID:=Lib.hid (fun(i:Nat)(hi:i<kids.length)=>h.kid hi)
 have HIH:=Lib.hid (fun(i:Nat)(hi:i<kids.length)(w':World)(u:Value)(q:Ex w' f u kids[i])=>ih q (wellTs_get hN.2 i hi))
 clear h hN
 have hA:=Blk.new w #[.int .i64 op,.int .i64 arg,.bool s,.slice x1 x2 x3,.slice x4 x5 x6,.string name,.slice a kids.length cap] 27
 have hB:=Blk.new (w.alloc (.cells #[.int .i64 op,.int .i64 arg,.bool s,.slice x1 x2 x3,.slice x4 x5 x6,.string name,.slice a kids.length cap] 27)) #[.int .i64 0,.int .i64 0,.bool false,.slice none 0 0,.slice none 0 0,.string ⟨#[]⟩,.slice none 0 0] 27
 have hsz:(w.alloc (.cells #[.int .i64 op,.int .i64 arg,.bool s,.slice x1 x2 x3,.slice x4 x5 x6,.string name,.slice a kids.length cap] 27)).heap.size=w.heap.size+1:=Array.size_push _
 have hsz2:((w.alloc (.cells #[.int .i64 op,.int .i64 arg,.bool s,.slice x1 x2 x3,.slice x4 x5 x6,.string name,.slice a kids.length cap] 27)).alloc (.cells #[.int .i64 0,.int .i64 0,.bool false,.slice none 0 0,.slice none 0 0,.string ⟨#[]⟩,.slice none 0 0] 27)).heap.size=w.heap.size+2:=by simp[go_sem]
 rw[hsz] at hB
 have hk1:Kept w (w.alloc (.cells #[.int .i64 op,.int .i64 arg,.bool s,.slice x1 x2 x3,.slice x4 x5 x6,.string name,.slice a kids.length cap] 27)):=(Kept.refl w).alloc _
 have hk2:Kept (w.alloc (.cells #[.int .i64 op,.int .i64 arg,.bool s,.slice x1 x2 x3,.slice x4 x5 x6,.string name,.slice a kids.length cap] 27)) ((w.alloc (.cells #[.int .i64 op,.int .i64 arg,.bool s,.slice x1 x2 x3,.slice x4 x5 x6,.string name,.slice a kids.length cap] 27)).alloc (.cells #[.int .i64 0,.int .i64 0,.bool false,.slice none 0 0,.slice none 0 0,.string ⟨#[]⟩,.slice none 0 0] 27)):=(Kept.refl _).alloc _
 replace hA:=hA.kept hk2
 have hk:=hk1.trans hk2
 clear hk1 hk2 hsz
 have hcl:=fun(w':World)(k:Kept w w')=>ownRat_fresh (hr.kept k)
 clear hr
 go_enter Tryz.func67,Tryz.ntmps67
 go_wp2_with fail
 rename_i Q' K hK
 generalize ((w.alloc (.cells #[.int .i64 op,.int .i64 arg,.bool s,.slice x1 x2 x3,.slice x4 x5 x6,.string name,.slice a kids.length cap] 27)).alloc (.cells #[.int .i64 0,.int .i64 0,.bool false,.slice none 0 0,.slice none 0 0,.string ⟨#[]⟩,.slice none 0 0] 27))=w1 at*
 generalize hbE:w.heap.size=b0 at hA hB hsz2⊢
 have HBE:=Lib.hid hbE;clear hbE
 obtain⟨g0,g1,g2,g3,g4,g5,g6,-⟩:=hA.facts7
 have HALL:Hid (∀w',Kept w1 w'→w'.cell? ⟨b0,0,none⟩=some (.int .i64 op)∧w'.cell? ⟨b0,1,none⟩=some (.int .i64 arg)∧w'.cell? ⟨b0,2,none⟩=some (.bool s)∧w'.cell? ⟨b0,3,none⟩=some (.slice x1 x2 x3)∧w'.cell? ⟨b0,4,none⟩=some (.slice x4 x5 x6)∧w'.cell? ⟨b0,5,none⟩=some (.string name)∧w'.cell? ⟨b0,6,none⟩=some (.slice a kids.length cap)):=
  Lib.hid fun w' k=>⟨k.cell g0,k.cell g1,k.cell g2,k.cell g3,k.cell g4,k.cell g5,k.cell g6⟩
 clear g0 g1 g2 g3 g4 g5 g6
 have hrest:∀(b3:Nat)(W0:World)(y1:Option Addr)(y2 y3:Nat)(y4:Option Addr)(y5 y6:Nat),Kept w1 W0→w1.heap.size≤b3→Blk W0 b3 #[.int .i64 op,.int .i64 arg,.bool s,.slice y1 y2 y3,.slice y4 y5 y6,.string name,.slice none 0 0] 27→Rt (onlyW W0 (fun b=>decide (b0+2≤b)&&(b != b3))) (.agg #[.bool s,.slice y1 y2 y3,.slice y4 y5 y6]) s N D→
  Exit.then K Q' .normal {tmps:=#[Value.agg #[.int .i64 op,.int .i64 arg,.bool s,.slice x1 x2 x3,.slice x4 x5 x6,.string name,.slice a kids.length cap],Value.pointer (some ⟨b0,0,none⟩),Value.pointer (some ⟨b0+1,0,none⟩),Value.pointer (some ⟨b3,0,none⟩),undef,undef,Value.pointer (some ⟨b0,0,none⟩),Value.int .i64 op,Value.pointer (some ⟨b0,1,none⟩),Value.int .i64 arg,Value.pointer (some ⟨b0,2,none⟩),Value.agg #[.bool s,.slice x1 x2 x3,.slice x4 x5 x6],Value.agg #[.bool s,.slice y1 y2 y3,.slice y4 y5 y6],Value.pointer (some ⟨b0,5,none⟩),Value.string name,Value.agg #[.int .i64 op,.int .i64 arg,.bool s,.slice y1 y2 y3,.slice y4 y5 y6,.string name,.slice none 0 0],undef,undef,undef,undef,undef,undef,undef,undef,undef,undef,undef,undef,undef,undef,undef,undef],defers:=[]} W0:=by
  intro b3 W0 y1 y2 y3 y4 y5 y6 hkW hb3 h3 hy
  have hlt3:=h3.lt
  have HB0:=Lib.hid (hB.kept hkW)
  have hkw0:=hk.trans hkW
  obtain⟨e0,e1,e2,e3,e4,e5,e6,-⟩:=(hA.kept hkW).facts7
  clear HALL hcl hA hB
  go_wp2
  clear e0 e1 e2 e3 e4 e5 e6
  have hz0:b0+2≤b3:=by omega
  have HZ0:=Lib.hid hz0;clear hz0
  have HL3:=Lib.hid hlt3;clear hlt3
  clear hb3 hsz2
  go_loopw [19] (fun i wr=>∃(k:Nat)(a3:Option Addr)(cap3:Nat)(cs:List Value),k≤kids.length∧i= .int .i64 (k:Int)∧Hid (Blk wr b3 #[.int .i64 op,.int .i64 arg,.bool s,.slice y1 y2 y3,.slice y4 y5 y6,.string name,.slice a3 k cap3] 27)∧Hid (Grow W0 wr b3 27 7 (.slice a3 k cap3) k cs (kidR f) kids)) (fun i _=>kids.length-(intOf i).toNat)
  case atStart=>exact⟨0,none,0,[],Nat.zero_le _,rfl,Lib.hid h3,Lib.hid (Grow.start ..)⟩
  case round=>
   obtain⟨k,a3,cap3,cs,hkk,rfl,HB,HG⟩:=hrel
   have HKW:Hid (Kept w wr):=Lib.hid (hkw0.but HG.out.kb (by have:=HBE.out;have:=HZ0.out;omega))
   clear h3
   by_cases hlt:k<kids.length
   ·obtain⟨b,off,o,g0,z,u1,u2,u3,u4,u5,u6,nm,a2,n2,cap2,rfl,c0,c1,c2,c3,c4,c5,c6,hex⟩:=HKID.out k hlt
    replace c0:=HKW.out.cell c0
    replace c1:=HKW.out.cell c1
    replace c2:=HKW.out.cell c2
    replace c3:=HKW.out.cell c3
    replace c4:=HKW.out.cell c4
    replace c5:=HKW.out.cell c5
    replace c6:=HKW.out.cell c6
    go_wp2_with fail
    have HP:=Lib.hid (Blk.new wr #[.int .i64 o,.int .i64 g0,.bool z,.slice u1 u2 u3,.slice u4 u5 u6,.string nm,.slice a2 n2 cap2] 27)
    have hka:Kept wr (wr.alloc (.cells #[.int .i64 o,.int .i64 g0,.bool z,.slice u1 u2 u3,.slice u4 u5 u6,.string nm,.slice a2 n2 cap2] 27)):=(Kept.refl wr).alloc _
    have HOB:=Lib.hid (fun g(hg:(Value.slice a3 k cap3).ownBlock=some g)=>World.ownsRow.lt HG.out.own g hg)
    have HSW:=Lib.hid (show W0.heap.size≤wr.heap.size from HG.out.kb.size)
    have HS5:Hid (∀w',Blk w' wr.heap.size #[.int .i64 o,.int .i64 g0,.bool z,.slice u1 u2 u3,.slice u4 u5 u6,.string nm,.slice a2 n2 cap2] 27→w'.cell? ⟨wr.heap.size,0,none⟩=some (.int .i64 o)∧w'.cell? ⟨wr.heap.size,1,none⟩=some (.int .i64 g0)∧w'.cell? ⟨wr.heap.size,2,none⟩=some (.bool z)∧w'.cell? ⟨wr.heap.size,3,none⟩=some (.slice u1 u2 u3)∧w'.cell? ⟨wr.heap.size,4,none⟩=some (.slice u4 u5 u6)∧w'.cell? ⟨wr.heap.size,5,none⟩=some (.string nm)∧w'.cell? ⟨wr.heap.size,6,none⟩=some (.slice a2 n2 cap2)):=Lib.hid fun w' h=>⟨h.cell 0 rfl,h.cell 1 rfl,h.cell 2 rfl,h.cell 3 rfl,h.cell 4 rfl,h.cell 5 rfl,h.cell 6 rfl⟩
    have HSZ:Hid ((wr.alloc (.cells #[.int .i64 o,.int .i64 g0,.bool z,.slice u1 u2 u3,.slice u4 u5 u6,.string nm,.slice a2 n2 cap2] 27)).heap.size=wr.heap.size+1):=Lib.hid (Array.size_push _)
    have HEX:=Lib.hid (hex.kept (HKW.out.trans hka))
    have HB1:=Lib.hid (HB.out.kept hka)
    have HG1:=Lib.hid (HG.out.kept (kidR_sub f) hka)
    clear c0 c1 c2 c3 c4 c5 c6 hex HB HG hka
    generalize wr.alloc (.cells #[.int .i64 o,.int .i64 g0,.bool z,.slice u1 u2 u3,.slice u4 u5 u6,.string nm,.slice a2 n2 cap2] 27)=wa at*
    refine wp_region_held_drew (S:=fun w'=>w'.cell? ⟨wr.heap.size,0,none⟩=some (.int .i64 o)∧w'.cell? ⟨wr.heap.size,1,none⟩=some (.int .i64 g0)∧w'.cell? ⟨wr.heap.size,2,none⟩=some (.bool z)∧w'.cell? ⟨wr.heap.size,3,none⟩=some (.slice u1 u2 u3)∧w'.cell? ⟨wr.heap.size,4,none⟩=some (.slice u4 u5 u6)∧w'.cell? ⟨wr.heap.size,5,none⟩=some (.string nm)∧w'.cell? ⟨wr.heap.size,6,none⟩=some (.slice a2 n2 cap2)) (by kernel_rfl) (HS5.out _ (HP.out.kept (Kept.refl wa).drew)) (fun hHeld=> ?_)
    refine wpAnyH_take (i:=0) (oi:=_) (v:= ?_) rfl (by kernel_rfl) (by kernel_rfl) (by kernel_rfl) (fun _ _ _ h=>h) (Or.inl ⟨by rfl,?_⟩) (by assumption) ?_
    rotate_left
    ·intro w hSw;(try dsimp only at hSw);go_simp;first|done|with_reducible rfl
    try simp only[Act.put,List.setIfInBounds_toArray]
    refine wpAnyH_take (i:=2) (oi:=_) (v:= ?_) rfl (by kernel_rfl) (by kernel_rfl) (by kernel_rfl) (fun _ _ _ h=>h) (Or.inl ⟨by rfl,?_⟩) (by assumption) ?_
    rotate_left
    ·intro w hSw;(try dsimp only at hSw);go_simp;first|done|with_reducible rfl
    try simp only[Act.put]
    refine wpAnyH_ready (rs:=[1,3]) (by kernel_rfl) (by simp) (AllReadyH.cons (o:=_) rfl (fun K hK=> ?_) (AllReadyH.cons (o:=_) rfl (fun K hK=> ?_) AllReadyH.nil))
    ·skip
     obtain⟨d0,d1,d2,d3,d4,d5,d6,-⟩:=(HB1.out.kept (Kept.refl wa).drew).facts7
     go_simp
     refine hK.out _ _ (HS5.out _ (HP.out.kept (Kept.refl wa).drew)) (fun hHeld=> ?_)
     clear hK K d0 d1 d2 d3 d4 d5 d6
     try simp only[List.setIfInBounds_toArray,List.set_cons_zero,List.set_cons_succ]
     refine wpAnyH_ready (rs:=[3]) (by kernel_rfl) (by simp) (AllReadyH.cons (o:=_) rfl (fun K hK=> ?_) AllReadyH.nil)
     go_simp
     go_at_call 67
     refine(HIH.out k hlt _ _ (HEX.out.kept (Kept.refl wa).drew)).mono ?_
     rintro e w3 ⟨v3,rfl,hv3,hkn⟩
     obtain⟨o4,g4,z4,v1,v2,v3',v4,v5,v6,nm4,a4,n4,cap4,rfl⟩:=hv3.agg7
     have hk3:Kept wa w3:=Kept.trans (Kept.refl wa).drew hkn
     have HV3:Hid (Ex (onlyW w3 (ab wa.heap.size)) f (.agg #[.int .i64 o4,.int .i64 g4,.bool z4,.slice v1 v2 v3',.slice v4 v5 v6,.string nm4,.slice a4 n4 cap4]) kids[k]):=Lib.hid hv3
     clear hkn hv3
     refine hK.out _ _ (HS5.out _ (HP.out.kept hk3)) (fun hHeld=> ?_)
     clear hK K
     try simp only[List.setIfInBounds_toArray,List.set_cons_zero,List.set_cons_succ]
     refine wpAnyH_ready (rs:=[4]) (by kernel_rfl) (by simp) (AllReadyH.cons (o:=_) rfl (fun K hK=> ?_) AllReadyH.nil)
     go_simp
     refine hK.out _ _ (HS5.out _ (HP.out.kept (hk3.alloc _))) (fun hHeld=> ?_)
     clear hK K
     try simp only[List.setIfInBounds_toArray,List.set_cons_zero,List.set_cons_succ]
     refine wpAnyH_ready (rs:=[5]) (by kernel_rfl) (by simp) (AllReadyH.cons (o:=_) rfl (fun K hK=> ?_) AllReadyH.nil)
     have hk4:Kept wa (w3.alloc (.cells #[.int .i64 o4,.int .i64 g4,.bool z4,.slice v1 v2 v3',.slice v4 v5 v6,.string nm4,.slice a4 n4 cap4] 27)):=hk3.alloc _
     have HG4:=Lib.hid (HG1.out.kept (kidR_sub f) hk4)
     have HN:=Lib.hid (Blk.new w3 #[.int .i64 o4,.int .i64 g4,.bool z4,.slice v1 v2 v3',.slice v4 v5 v6,.string nm4,.slice a4 n4 cap4] 27)
     have hle4:W0.heap.size≤(w3.alloc (.cells #[.int .i64 o4,.int .i64 g4,.bool z4,.slice v1 v2 v3',.slice v4 v5 v6,.string nm4,.slice a4 n4 cap4] 27)).heap.size:=Nat.le_trans (Nat.le_trans HSW.out (Nat.le_of_lt (by have:=HSZ.out;omega))) hk4.size
     refine step_append_grow (w:=(w3.alloc (.cells #[.int .i64 o4,.int .i64 g4,.bool z4,.slice v1 v2 v3',.slice v4 v5 v6,.string nm4,.slice a4 n4 cap4] 27))) rfl (.tmp 24) (.tmp 27) 25 rfl info27 Tryz.underlying25 rfl (by decide) (by decide) W0.heap.size hle4 _ k cs rfl HG4.out.own ⟨w3.heap.size,0,none⟩ 1 1 [.int .i64 o4,.int .i64 g4,.bool z4,.slice v1 v2 v3',.slice v4 v5 v6,.string nm4,.slice a4 n4 cap4] rfl rfl (blk_news HN.out) (by intro u hu;simp only[List.mem_cons,List.mem_nil_iff,or_false] at hu;rcases hu with rfl|rfl|rfl|rfl|rfl|rfl|rfl<;>rfl) (by decide) (by omega) ?_
     intro v5' w5 ho hgb hor
     obtain⟨a5,cap5,rfl,-,-,-⟩:=own_open ho
     have hlt4:wr.heap.size<(w3.alloc (.cells #[.int .i64 o4,.int .i64 g4,.bool z4,.slice v1 v2 v3',.slice v4 v5 v6,.string nm4,.slice a4 n4 cap4] 27)).heap.size:=Nat.lt_of_lt_of_le (by have:=HSZ.out;omega) hk4.size
     have HG5:Hid (Grow W0 w5 b3 27 7 (.slice a5 (k+1) cap5) (k+1) (cs++[.int .i64 o4,.int .i64 g4,.bool z4,.slice v1 v2 v3',.slice v4 v5 v6,.string nm4,.slice a4 n4 cap4]) (kidR f) kids):=Lib.hid (HG4.out.append (kidR_sub f) hle4 ho hgb hor rfl hlt (S:=ab wa.heap.size) (HV3.out.sub (fresh_kept ((Kept.refl w3).alloc _) (Nat.le_refl _))) (fun b hb=>by
      have h1:wa.heap.size≤b:=by simpa [ab] using hb
      have h2:=HSZ.out
      have h3:=HSW.out
      refine⟨by omega,fun he=> ?_⟩
      have:=(HOB.out b he.symm).2
      omega))
     have HP5:Hid (Blk w5 wr.heap.size #[.int .i64 o,.int .i64 g0,.bool z,.slice u1 u2 u3,.slice u4 u5 u6,.string nm,.slice a2 n2 cap2] 27):=Lib.hid ((hgb.block _ hlt4 (fun he=>by have:=(HOB.out _ he.symm).2;omega)).trans (HP.out.kept hk4))
     have HB5:Hid (Blk w5 b3 #[.int .i64 op,.int .i64 arg,.bool s,.slice y1 y2 y3,.slice y4 y5 y6,.string name,.slice a3 k cap3] 27):=Lib.hid ((hgb.block _ (HB1.out.kept hk4).lt (fun he=>by have:=(HOB.out _ he.symm).1;have:=HL3.out;omega)).trans (HB1.out.kept hk4))
     clear ho hgb hor hle4 hlt4
     refine hK.out _ _ (HS5.out _ HP5.out) (fun hHeld=> ?_)
     clear hK K
     try simp only[List.setIfInBounds_toArray,List.set_cons_zero,List.set_cons_succ]
     refine wpAnyH_take (i:=6) (oi:=_) (v:= ?_) rfl (by kernel_rfl) (by kernel_rfl) (by kernel_rfl) (fun _ _ _ h=>h) (Or.inl ⟨by rfl,?_⟩) (by assumption) ?_
     rotate_left
     ·intro w hSw;(try dsimp only at hSw);go_simp;first|done|with_reducible rfl
     try simp only[Act.put]
     refine wpAnyH_ready (rs:=[7]) (by kernel_rfl) (by simp) (AllReadyH.cons (o:=_) rfl (fun K hK=> ?_) AllReadyH.nil)
     obtain⟨d0,d1,d2,d3,d4,d5,d6,f0,f1,f2,f3,f4,f5,f6⟩:=HB5.out.facts7
     go_simp
     have HB6:Hid (Blk (w5.setCell ⟨b3,6,none⟩ (.slice a5 (k+1) cap5)) b3 #[.int .i64 op,.int .i64 arg,.bool s,.slice y1 y2 y3,.slice y4 y5 y6,.string name,.slice a5 (k+1) cap5] 27):=Lib.hid (by have h:=HB5.out.set 6 (.slice a5 (k+1) cap5);simpa using h)
     have HG6:Hid (Grow W0 (w5.setCell ⟨b3,6,none⟩ (.slice a5 (k+1) cap5)) b3 27 7 (.slice a5 (k+1) cap5) (k+1) (cs++[.int .i64 o4,.int .i64 g4,.bool z4,.slice v1 v2 v3',.slice v4 v5 v6,.string nm4,.slice a4 n4 cap4]) (kidR f) kids):=Lib.hid (HG5.out.store (kidR_sub f) (st1 ..) HL3.out)
     refine hK.out _ _ (HS5.out _ (HP5.out.keptB (st1 ..) (by have:=HL3.out;have:=HSW.out;omega))) (fun hHeld=> ?_)
     clear hK K d0 d1 d2 d3 d4 d5 d6 f0 f1 f2 f3 f4 f5 f6
     refine wpAnyH_done (by kernel_rfl) ?_ _
     go_wp2
     go_roundw
     case rel=>exact⟨k+1,a5,cap5,_,by omega,by go_num,HB6,HG6⟩
     case measure=>simp[intOf];omega
    ·skip
     go_simp
     go_at_call 67
     refine(HIH.out k hlt _ _ (HEX.out.kept (Kept.refl wa).drew)).mono ?_
     rintro e w3 ⟨v3,rfl,hv3,hkn⟩
     obtain⟨o4,g4,z4,v1,v2,v3',v4,v5,v6,nm4,a4,n4,cap4,rfl⟩:=hv3.agg7
     have hk3:Kept wa w3:=Kept.trans (Kept.refl wa).drew hkn
     have HV3:Hid (Ex (onlyW w3 (ab wa.heap.size)) f (.agg #[.int .i64 o4,.int .i64 g4,.bool z4,.slice v1 v2 v3',.slice v4 v5 v6,.string nm4,.slice a4 n4 cap4]) kids[k]):=Lib.hid hv3
     clear hkn hv3
     refine hK.out _ _ (HS5.out _ (HP.out.kept hk3)) (fun hHeld=> ?_)
     clear hK K
     try simp only[List.setIfInBounds_toArray,List.set_cons_zero,List.set_cons_succ]
     refine wpAnyH_ready (rs:=[1,4]) (by kernel_rfl) (by simp) (AllReadyH.cons (o:=_) rfl (fun K hK=> ?_) (AllReadyH.cons (o:=_) rfl (fun K hK=> ?_) AllReadyH.nil))
     ·skip
      obtain⟨d0,d1,d2,d3,d4,d5,d6,-⟩:=(HB1.out.kept hk3).facts7
      go_simp
      refine hK.out _ _ (HS5.out _ (HP.out.kept hk3)) (fun hHeld=> ?_)
      clear hK K d0 d1 d2 d3 d4 d5 d6
      try simp only[List.setIfInBounds_toArray,List.set_cons_zero,List.set_cons_succ]
      refine wpAnyH_ready (rs:=[4]) (by kernel_rfl) (by simp) (AllReadyH.cons (o:=_) rfl (fun K hK=> ?_) AllReadyH.nil)
      go_simp
      refine hK.out _ _ (HS5.out _ (HP.out.kept (hk3.alloc _))) (fun hHeld=> ?_)
      clear hK K
      try simp only[List.setIfInBounds_toArray,List.set_cons_zero,List.set_cons_succ]
      refine wpAnyH_ready (rs:=[5]) (by kernel_rfl) (by simp) (AllReadyH.cons (o:=_) rfl (fun K hK=> ?_) AllReadyH.nil)
      have hk4:Kept wa (w3.alloc (.cells #[.int .i64 o4,.int .i64 g4,.bool z4,.slice v1 v2 v3',.slice v4 v5 v6,.string nm4,.slice a4 n4 cap4] 27)):=hk3.alloc _
      have HG4:=Lib.hid (HG1.out.kept (kidR_sub f) hk4)
      have HN:=Lib.hid (Blk.new w3 #[.int .i64 o4,.int .i64 g4,.bool z4,.slice v1 v2 v3',.slice v4 v5 v6,.string nm4,.slice a4 n4 cap4] 27)
      have hle4:W0.heap.size≤(w3.alloc (.cells #[.int .i64 o4,.int .i64 g4,.bool z4,.slice v1 v2 v3',.slice v4 v5 v6,.string nm4,.slice a4 n4 cap4] 27)).heap.size:=Nat.le_trans (Nat.le_trans HSW.out (Nat.le_of_lt (by have:=HSZ.out;omega))) hk4.size
      refine step_append_grow (w:=(w3.alloc (.cells #[.int .i64 o4,.int .i64 g4,.bool z4,.slice v1 v2 v3',.slice v4 v5 v6,.string nm4,.slice a4 n4 cap4] 27))) rfl (.tmp 24) (.tmp 27) 25 rfl info27 Tryz.underlying25 rfl (by decide) (by decide) W0.heap.size hle4 _ k cs rfl HG4.out.own ⟨w3.heap.size,0,none⟩ 1 1 [.int .i64 o4,.int .i64 g4,.bool z4,.slice v1 v2 v3',.slice v4 v5 v6,.string nm4,.slice a4 n4 cap4] rfl rfl (blk_news HN.out) (by intro u hu;simp only[List.mem_cons,List.mem_nil_iff,or_false] at hu;rcases hu with rfl|rfl|rfl|rfl|rfl|rfl|rfl<;>rfl) (by decide) (by omega) ?_
      intro v5' w5 ho hgb hor
      obtain⟨a5,cap5,rfl,-,-,-⟩:=own_open ho
      have hlt4:wr.heap.size<(w3.alloc (.cells #[.int .i64 o4,.int .i64 g4,.bool z4,.slice v1 v2 v3',.slice v4 v5 v6,.string nm4,.slice a4 n4 cap4] 27)).heap.size:=Nat.lt_of_lt_of_le (by have:=HSZ.out;omega) hk4.size
      have HG5:Hid (Grow W0 w5 b3 27 7 (.slice a5 (k+1) cap5) (k+1) (cs++[.int .i64 o4,.int .i64 g4,.bool z4,.slice v1 v2 v3',.slice v4 v5 v6,.string nm4,.slice a4 n4 cap4]) (kidR f) kids):=Lib.hid (HG4.out.append (kidR_sub f) hle4 ho hgb hor rfl hlt (S:=ab wa.heap.size) (HV3.out.sub (fresh_kept ((Kept.refl w3).alloc _) (Nat.le_refl _))) (fun b hb=>by
       have h1:wa.heap.size≤b:=by simpa [ab] using hb
       have h2:=HSZ.out
       have h3:=HSW.out
       refine⟨by omega,fun he=> ?_⟩
       have:=(HOB.out b he.symm).2
       omega))
      have HP5:Hid (Blk w5 wr.heap.size #[.int .i64 o,.int .i64 g0,.bool z,.slice u1 u2 u3,.slice u4 u5 u6,.string nm,.slice a2 n2 cap2] 27):=Lib.hid ((hgb.block _ hlt4 (fun he=>by have:=(HOB.out _ he.symm).2;omega)).trans (HP.out.kept hk4))
      have HB5:Hid (Blk w5 b3 #[.int .i64 op,.int .i64 arg,.bool s,.slice y1 y2 y3,.slice y4 y5 y6,.string name,.slice a3 k cap3] 27):=Lib.hid ((hgb.block _ (HB1.out.kept hk4).lt (fun he=>by have:=(HOB.out _ he.symm).1;have:=HL3.out;omega)).trans (HB1.out.kept hk4))
      clear ho hgb hor hle4 hlt4
      refine hK.out _ _ (HS5.out _ HP5.out) (fun hHeld=> ?_)
      clear hK K
      try simp only[List.setIfInBounds_toArray,List.set_cons_zero,List.set_cons_succ]
      refine wpAnyH_take (i:=6) (oi:=_) (v:= ?_) rfl (by kernel_rfl) (by kernel_rfl) (by kernel_rfl) (fun _ _ _ h=>h) (Or.inl ⟨by rfl,?_⟩) (by assumption) ?_
      rotate_left
      ·intro w hSw;(try dsimp only at hSw);go_simp;first|done|with_reducible rfl
      try simp only[Act.put]
      refine wpAnyH_ready (rs:=[7]) (by kernel_rfl) (by simp) (AllReadyH.cons (o:=_) rfl (fun K hK=> ?_) AllReadyH.nil)
      obtain⟨d0,d1,d2,d3,d4,d5,d6,f0,f1,f2,f3,f4,f5,f6⟩:=HB5.out.facts7
      go_simp
      have HB6:Hid (Blk (w5.setCell ⟨b3,6,none⟩ (.slice a5 (k+1) cap5)) b3 #[.int .i64 op,.int .i64 arg,.bool s,.slice y1 y2 y3,.slice y4 y5 y6,.string name,.slice a5 (k+1) cap5] 27):=Lib.hid (by have h:=HB5.out.set 6 (.slice a5 (k+1) cap5);simpa using h)
      have HG6:Hid (Grow W0 (w5.setCell ⟨b3,6,none⟩ (.slice a5 (k+1) cap5)) b3 27 7 (.slice a5 (k+1) cap5) (k+1) (cs++[.int .i64 o4,.int .i64 g4,.bool z4,.slice v1 v2 v3',.slice v4 v5 v6,.string nm4,.slice a4 n4 cap4]) (kidR f) kids):=Lib.hid (HG5.out.store (kidR_sub f) (st1 ..) HL3.out)
      refine hK.out _ _ (HS5.out _ (HP5.out.keptB (st1 ..) (by have:=HL3.out;have:=HSW.out;omega))) (fun hHeld=> ?_)
      clear hK K d0 d1 d2 d3 d4 d5 d6 f0 f1 f2 f3 f4 f5 f6
      refine wpAnyH_done (by kernel_rfl) ?_ _
      go_wp2
      go_roundw
      case rel=>exact⟨k+1,a5,cap5,_,by omega,by go_num,HB6,HG6⟩
      case measure=>simp[intOf];omega
     ·skip
      go_simp
      refine hK.out _ _ (HS5.out _ (HP.out.kept (hk3.alloc _))) (fun hHeld=> ?_)
      clear hK K
      try simp only[List.setIfInBounds_toArray,List.set_cons_zero,List.set_cons_succ]
      refine wpAnyH_ready (rs:=[1]) (by kernel_rfl) (by simp) (AllReadyH.cons (o:=_) rfl (fun K hK=> ?_) AllReadyH.nil)
      obtain⟨d0,d1,d2,d3,d4,d5,d6,-⟩:=(HB1.out.kept (hk3.alloc (.cells #[.int .i64 o4,.int .i64 g4,.bool z4,.slice v1 v2 v3',.slice v4 v5 v6,.string nm4,.slice a4 n4 cap4] 27))).facts7
      go_simp
      refine hK.out _ _ (HS5.out _ (HP.out.kept (hk3.alloc (.cells #[.int .i64 o4,.int .i64 g4,.bool z4,.slice v1 v2 v3',.slice v4 v5 v6,.string nm4,.slice a4 n4 cap4] 27)))) (fun hHeld=> ?_)
      clear hK K d0 d1 d2 d3 d4 d5 d6
      try simp only[List.setIfInBounds_toArray,List.set_cons_zero,List.set_cons_succ]
      refine wpAnyH_ready (rs:=[5]) (by kernel_rfl) (by simp) (AllReadyH.cons (o:=_) rfl (fun K hK=> ?_) AllReadyH.nil)
      have hk4:Kept wa (w3.alloc (.cells #[.int .i64 o4,.int .i64 g4,.bool z4,.slice v1 v2 v3',.slice v4 v5 v6,.string nm4,.slice a4 n4 cap4] 27)):=hk3.alloc _
      have HG4:=Lib.hid (HG1.out.kept (kidR_sub f) hk4)
      have HN:=Lib.hid (Blk.new w3 #[.int .i64 o4,.int .i64 g4,.bool z4,.slice v1 v2 v3',.slice v4 v5 v6,.string nm4,.slice a4 n4 cap4] 27)
      have hle4:W0.heap.size≤(w3.alloc (.cells #[.int .i64 o4,.int .i64 g4,.bool z4,.slice v1 v2 v3',.slice v4 v5 v6,.string nm4,.slice a4 n4 cap4] 27)).heap.size:=Nat.le_trans (Nat.le_trans HSW.out (Nat.le_of_lt (by have:=HSZ.out;omega))) hk4.size
      refine step_append_grow (w:=(w3.alloc (.cells #[.int .i64 o4,.int .i64 g4,.bool z4,.slice v1 v2 v3',.slice v4 v5 v6,.string nm4,.slice a4 n4 cap4] 27))) rfl (.tmp 24) (.tmp 27) 25 rfl info27 Tryz.underlying25 rfl (by decide) (by decide) W0.heap.size hle4 _ k cs rfl HG4.out.own ⟨w3.heap.size,0,none⟩ 1 1 [.int .i64 o4,.int .i64 g4,.bool z4,.slice v1 v2 v3',.slice v4 v5 v6,.string nm4,.slice a4 n4 cap4] rfl rfl (blk_news HN.out) (by intro u hu;simp only[List.mem_cons,List.mem_nil_iff,or_false] at hu;rcases hu with rfl|rfl|rfl|rfl|rfl|rfl|rfl<;>rfl) (by decide) (by omega) ?_
      intro v5' w5 ho hgb hor
      obtain⟨a5,cap5,rfl,-,-,-⟩:=own_open ho
      have hlt4:wr.heap.size<(w3.alloc (.cells #[.int .i64 o4,.int .i64 g4,.bool z4,.slice v1 v2 v3',.slice v4 v5 v6,.string nm4,.slice a4 n4 cap4] 27)).heap.size:=Nat.lt_of_lt_of_le (by have:=HSZ.out;omega) hk4.size
      have HG5:Hid (Grow W0 w5 b3 27 7 (.slice a5 (k+1) cap5) (k+1) (cs++[.int .i64 o4,.int .i64 g4,.bool z4,.slice v1 v2 v3',.slice v4 v5 v6,.string nm4,.slice a4 n4 cap4]) (kidR f) kids):=Lib.hid (HG4.out.append (kidR_sub f) hle4 ho hgb hor rfl hlt (S:=ab wa.heap.size) (HV3.out.sub (fresh_kept ((Kept.refl w3).alloc _) (Nat.le_refl _))) (fun b hb=>by
       have h1:wa.heap.size≤b:=by simpa [ab] using hb
       have h2:=HSZ.out
       have h3:=HSW.out
       refine⟨by omega,fun he=> ?_⟩
       have:=(HOB.out b he.symm).2
       omega))
      have HP5:Hid (Blk w5 wr.heap.size #[.int .i64 o,.int .i64 g0,.bool z,.slice u1 u2 u3,.slice u4 u5 u6,.string nm,.slice a2 n2 cap2] 27):=Lib.hid ((hgb.block _ hlt4 (fun he=>by have:=(HOB.out _ he.symm).2;omega)).trans (HP.out.kept hk4))
      have HB5:Hid (Blk w5 b3 #[.int .i64 op,.int .i64 arg,.bool s,.slice y1 y2 y3,.slice y4 y5 y6,.string name,.slice a3 k cap3] 27):=Lib.hid ((hgb.block _ (HB1.out.kept hk4).lt (fun he=>by have:=(HOB.out _ he.symm).1;have:=HL3.out;omega)).trans (HB1.out.kept hk4))
      clear ho hgb hor hle4 hlt4
      refine hK.out _ _ (HS5.out _ HP5.out) (fun hHeld=> ?_)
      clear hK K
      try simp only[List.setIfInBounds_toArray,List.set_cons_zero,List.set_cons_succ]
      refine wpAnyH_take (i:=6) (oi:=_) (v:= ?_) rfl (by kernel_rfl) (by kernel_rfl) (by kernel_rfl) (fun _ _ _ h=>h) (Or.inl ⟨by rfl,?_⟩) (by assumption) ?_
      rotate_left
      ·intro w hSw;(try dsimp only at hSw);go_simp;first|done|with_reducible rfl
      try simp only[Act.put]
      refine wpAnyH_ready (rs:=[7]) (by kernel_rfl) (by simp) (AllReadyH.cons (o:=_) rfl (fun K hK=> ?_) AllReadyH.nil)
      obtain⟨d0,d1,d2,d3,d4,d5,d6,f0,f1,f2,f3,f4,f5,f6⟩:=HB5.out.facts7
      go_simp
      have HB6:Hid (Blk (w5.setCell ⟨b3,6,none⟩ (.slice a5 (k+1) cap5)) b3 #[.int .i64 op,.int .i64 arg,.bool s,.slice y1 y2 y3,.slice y4 y5 y6,.string name,.slice a5 (k+1) cap5] 27):=Lib.hid (by have h:=HB5.out.set 6 (.slice a5 (k+1) cap5);simpa using h)
      have HG6:Hid (Grow W0 (w5.setCell ⟨b3,6,none⟩ (.slice a5 (k+1) cap5)) b3 27 7 (.slice a5 (k+1) cap5) (k+1) (cs++[.int .i64 o4,.int .i64 g4,.bool z4,.slice v1 v2 v3',.slice v4 v5 v6,.string nm4,.slice a4 n4 cap4]) (kidR f) kids):=Lib.hid (HG5.out.store (kidR_sub f) (st1 ..) HL3.out)
      refine hK.out _ _ (HS5.out _ (HP5.out.keptB (st1 ..) (by have:=HL3.out;have:=HSW.out;omega))) (fun hHeld=> ?_)
      clear hK K d0 d1 d2 d3 d4 d5 d6 f0 f1 f2 f3 f4 f5 f6
      refine wpAnyH_done (by kernel_rfl) ?_ _
      go_wp2
      go_roundw
      case rel=>exact⟨k+1,a5,cap5,_,by omega,by go_num,HB6,HG6⟩
      case measure=>simp[intOf];omega
   ·obtain rfl:kids.length=k:=by omega
    have hne:b0+1≠b3:=by have:=HZ0.out;omega
    have hne2:=fun h=>hne (Eq.symm h)
    have HB2:Hid (Blk wr (b0+1) #[.int .i64 0,.int .i64 0,.bool false,.slice none 0 0,.slice none 0 0,.string ⟨#[]⟩,.slice none 0 0] 27):=Lib.hid (HB0.out.keptB HG.out.kb hne)
    obtain⟨d0,d1,d2,d3,d4,d5,d6,-⟩:=HB.out.facts7
    obtain⟨k0,k1,k2,k3,k4,k5,k6,j0,j1,j2,j3,j4,j5,j6⟩:=HB2.out.facts7
    go_wp2
    have hend:KeptB wr (((((((wr.setCell ⟨b0+1,0,none⟩ (.int .i64 op)).setCell ⟨b0+1,1,none⟩ (.int .i64 arg)).setCell ⟨b0+1,2,none⟩ (.bool s)).setCell ⟨b0+1,3,none⟩ (.slice y1 y2 y3)).setCell ⟨b0+1,4,none⟩ (.slice y4 y5 y6)).setCell ⟨b0+1,5,none⟩ (.string name)).setCell ⟨b0+1,6,none⟩ (.slice a3 kids.length cap3)) (b0+1):=KeptB.st7 ..
    have HEX:Hid (Ex (onlyW (((((((wr.setCell ⟨b0+1,0,none⟩ (.int .i64 op)).setCell ⟨b0+1,1,none⟩ (.int .i64 arg)).setCell ⟨b0+1,2,none⟩ (.bool s)).setCell ⟨b0+1,3,none⟩ (.slice y1 y2 y3)).setCell ⟨b0+1,4,none⟩ (.slice y4 y5 y6)).setCell ⟨b0+1,5,none⟩ (.string name)).setCell ⟨b0+1,6,none⟩ (.slice a3 kids.length cap3)) (ab b0)) (f+1) (.agg #[.int .i64 op,.int .i64 arg,.bool s,.slice y1 y2 y3,.slice y4 y5 y6,.string name,.slice a3 kids.length cap3]) (.node op arg s N D name kids)):=by
     obtain⟨a',cap',e1,hcap,-,hcell⟩:=own_open HG.out.own
     cases e1
     refine Lib.hid (Ex.mk hcap (hy.sub (only_move fun b hlt hs=> ?_)) hn (fun i hi=> ?_) ((show RowsIs (kidR f _) 7 cs kids by have h:=HG.out.rows;rw[List.take_length] at h;exact h).mono fun l t h=>h.sub (only_move fun b hlt hs=> ?_)))
     ·simp only[Bool.and_eq_true,decide_eq_true_eq,bne_iff_ne] at hs
      refine⟨by simp only[ab,decide_eq_true_eq];omega,(hend.old b (Nat.lt_of_lt_of_le hlt HG.out.kb.size) (by omega)).trans (HG.out.kb.old b hlt hs.2)⟩
     ·obtain⟨b,hb,ha,hc⟩:=hcell i hi
      refine⟨b,ha,?_⟩
      have h2:=HL3.out
      have h3:=HZ0.out
      rw[List.getElem?_eq_getElem hi] at hc⊢
      rw[cell_only,if_pos (by simp only[ab,decide_eq_true_eq];omega)]
      exact hend.cell hc (by show b≠b0+1;omega)
     ·simp only[S1,Bool.and_eq_true,decide_eq_true_eq] at hs
      have h2:=HL3.out
      have h3:=HZ0.out
      exact⟨by simp only[ab,decide_eq_true_eq];omega,hend.old b hlt (by omega)⟩
    refine bodyPost_ret (v:=.agg #[.int .i64 op,.int .i64 arg,.bool s,.slice y1 y2 y3,.slice y4 y5 y6,.string name,.slice a3 kids.length cap3]) (by simp[results,Tryz.results67,go_sem,k0,k1,k2,k3,k4,k5,k6]) rfl ⟨_,rfl,by rw[HBE.out];exact HEX.out,HKW.out.but hend (by have:=HBE.out;omega)⟩
 have HREST:=Lib.hid hrest
 clear hrest hK
 refine wp_region_held_drew (S:=fun w'=>w'.cell? ⟨b0,0,none⟩=some (.int .i64 op)∧w'.cell? ⟨b0,1,none⟩=some (.int .i64 arg)∧w'.cell? ⟨b0,2,none⟩=some (.bool s)∧w'.cell? ⟨b0,3,none⟩=some (.slice x1 x2 x3)∧w'.cell? ⟨b0,4,none⟩=some (.slice x4 x5 x6)∧w'.cell? ⟨b0,5,none⟩=some (.string name)∧w'.cell? ⟨b0,6,none⟩=some (.slice a kids.length cap)) (by kernel_rfl) (HALL.out _ (Kept.refl w1).drew) (fun hHeld=> ?_)
 refine wpAnyH_take (i:=0) (oi:=_) (v:= ?_) rfl (by kernel_rfl) (by kernel_rfl) (by kernel_rfl) (fun _ _ _ h=>h) (Or.inl ⟨by rfl,?_⟩) (by assumption) ?_
 rotate_left
 ·intro w hSw;(try dsimp only at hSw);go_simp;first|done|with_reducible rfl
 try simp only[Act.put,List.setIfInBounds_toArray]
 refine wpAnyH_take (i:=1) (oi:=_) (v:= ?_) rfl (by kernel_rfl) (by kernel_rfl) (by kernel_rfl) (fun _ _ _ h=>h) (Or.inl ⟨by rfl,?_⟩) (by assumption) ?_
 rotate_left
 ·intro w hSw;(try dsimp only at hSw);go_simp;first|done|with_reducible rfl
 try simp only[Act.put]
 refine wpAnyH_take (i:=2) (oi:=_) (v:= ?_) rfl (by kernel_rfl) (by kernel_rfl) (by kernel_rfl) (fun _ _ _ h=>h) (Or.inl ⟨by rfl,?_⟩) (by assumption) ?_
 rotate_left
 ·intro w hSw;(try dsimp only at hSw);go_simp;first|done|with_reducible rfl
 try simp only[Act.put]
 refine wpAnyH_take (i:=3) (oi:=_) (v:= ?_) rfl (by kernel_rfl) (by kernel_rfl) (by kernel_rfl) (fun _ _ _ h=>h) (Or.inl ⟨by rfl,?_⟩) (by assumption) ?_
 rotate_left
 ·intro w hSw;(try dsimp only at hSw);go_simp;first|done|with_reducible rfl
 try simp only[Act.put]
 refine wpAnyH_take (i:=4) (oi:=_) (v:= ?_) rfl (by kernel_rfl) (by kernel_rfl) (by kernel_rfl) (fun _ _ _ h=>h) (Or.inl ⟨by rfl,?_⟩) (by assumption) ?_
 rotate_left
 ·intro w hSw;(try dsimp only at hSw);go_simp;first|done|with_reducible rfl
 try simp only[Act.put]
 refine wpAnyH_take (i:=5) (oi:=_) (v:= ?_) rfl (by kernel_rfl) (by kernel_rfl) (by kernel_rfl) (fun _ _ _ h=>h) (Or.inl ⟨by rfl,?_⟩) (by assumption) ?_
 rotate_left
 ·intro w hSw;(try dsimp only at hSw);go_simp;first|done|with_reducible rfl
 try simp only[Act.put]
 refine wpAnyH_take (i:=7) (oi:=_) (v:= ?_) rfl (by kernel_rfl) (by kernel_rfl) (by kernel_rfl) (fun _ _ _ h=>h) (Or.inl ⟨by rfl,?_⟩) (by assumption) ?_
 rotate_left
 ·intro w hSw;(try dsimp only at hSw);go_simp;first|done|with_reducible rfl
 try simp only[Act.put]
 refine wpAnyH_take (i:=8) (oi:=_) (v:= ?_) rfl (by kernel_rfl) (by kernel_rfl) (by kernel_rfl) (fun _ _ _ h=>h) (Or.inl ⟨by rfl,?_⟩) (by assumption) ?_
 rotate_left
 ·intro w hSw;(try dsimp only at hSw);go_simp;first|done|with_reducible rfl
 try simp only[Act.put]
 generalize hF:wpAnyH _ _ _ _ _=F
 have stB:∀(W:World)(b3:Nat)(y1:Option Addr)(y2 y3:Nat)(y4:Option Addr)(y5 y6:Nat),Kept w1 W→w1.heap.size≤b3→Blk W b3 #[.int .i64 0,.int .i64 0,.bool false,.slice none 0 0,.slice none 0 0,.string ⟨#[]⟩,.slice none 0 0] 27→Rt (onlyW W (fun b=>decide (b0+2≤b)&&(b != b3))) (.agg #[.bool s,.slice y1 y2 y3,.slice y4 y5 y6]) s N D→F 1 #[true,true,true,true,true,true,true,true,true,true,true,false] {tmps:=#[Value.agg #[.int .i64 op,.int .i64 arg,.bool s,.slice x1 x2 x3,.slice x4 x5 x6,.string name,.slice a kids.length cap],Value.pointer (some ⟨b0,0,none⟩),Value.pointer (some ⟨b0+1,0,none⟩),Value.pointer (some ⟨b3,0,none⟩),undef,undef,Value.pointer (some ⟨b0,0,none⟩),Value.int .i64 op,Value.pointer (some ⟨b0,1,none⟩),Value.int .i64 arg,Value.pointer (some ⟨b0,2,none⟩),Value.agg #[.bool s,.slice x1 x2 x3,.slice x4 x5 x6],Value.agg #[.bool s,.slice y1 y2 y3,.slice y4 y5 y6],Value.pointer (some ⟨b0,5,none⟩),Value.string name,Value.agg #[.int .i64 op,.int .i64 arg,.bool s,.slice y1 y2 y3,.slice y4 y5 y6,.string name,.slice none 0 0],undef,undef,undef,undef,undef,undef,undef,undef,undef,undef,undef,undef,undef,undef,undef,undef],defers:=[]} W:=by
  intro W b3 y1 y2 y3 y4 y5 y6 hkW hb3 h3 hy
  rw[←hF]
  obtain⟨k0,k1,k2,k3,k4,k5,k6,j0,j1,j2,j3,j4,j5,j6⟩:=h3.facts7
  refine wpAnyH_ready (rs:=[11]) (by kernel_rfl) (by simp) (AllReadyH.cons (o:=_) rfl (fun K hK=> ?_) AllReadyH.nil)
  go_simp
  have hkb:=KeptB.st7 W b3 (.int .i64 op) (.int .i64 arg) (.bool s) (.slice y1 y2 y3) (.slice y4 y5 y6) (.string name) (.slice none 0 0)
  have hkC:=hkW.but hkb hb3
  refine hK.out _ _ (HALL.out _ hkC) (fun hHeld=> ?_)
  try simp only[List.setIfInBounds_toArray,List.set_cons_zero,List.set_cons_succ]
  refine wpAnyH_done (by kernel_rfl) ?_ _
  exact HREST.out b3 _ y1 y2 y3 y4 y5 y6 hkC hb3 (h3.all7 (.int .i64 op) (.int .i64 arg) (.bool s) (.slice y1 y2 y3) (.slice y4 y5 y6) (.string name) (.slice none 0 0)) (hy.sub (only_move fun b hlt hs=>⟨hs,hkb.old b hlt (by simp at hs;exact hs.2)⟩))
 have st11:∀(W:World)(b3:Nat)(y1:Option Addr)(y2 y3:Nat)(y4:Option Addr)(y5 y6:Nat),Kept w1 W→w1.heap.size≤b3→Blk W b3 #[.int .i64 0,.int .i64 0,.bool false,.slice none 0 0,.slice none 0 0,.string ⟨#[]⟩,.slice none 0 0] 27→Rt (onlyW W (fun b=>decide (b0+2≤b)&&(b != b3))) (.agg #[.bool s,.slice y1 y2 y3,.slice y4 y5 y6]) s N D→F 2 #[true,true,true,true,true,true,true,true,true,false,true,false] {tmps:=#[Value.agg #[.int .i64 op,.int .i64 arg,.bool s,.slice x1 x2 x3,.slice x4 x5 x6,.string name,.slice a kids.length cap],Value.pointer (some ⟨b0,0,none⟩),Value.pointer (some ⟨b0+1,0,none⟩),Value.pointer (some ⟨b3,0,none⟩),undef,undef,Value.pointer (some ⟨b0,0,none⟩),Value.int .i64 op,Value.pointer (some ⟨b0,1,none⟩),Value.int .i64 arg,Value.pointer (some ⟨b0,2,none⟩),Value.agg #[.bool s,.slice x1 x2 x3,.slice x4 x5 x6],Value.agg #[.bool s,.slice y1 y2 y3,.slice y4 y5 y6],Value.pointer (some ⟨b0,5,none⟩),Value.string name,undef,undef,undef,undef,undef,undef,undef,undef,undef,undef,undef,undef,undef,undef,undef,undef,undef],defers:=[]} W:=by
  intro W b3 y1 y2 y3 y4 y5 y6 hkW hb3 h3 hy
  rw[←hF]
  have hHeld:=HALL.out _ hkW
  refine wpAnyH_take (i:=9) (oi:=_) (v:= ?_) rfl (by kernel_rfl) (by kernel_rfl) (by kernel_rfl) (fun _ _ _ h=>h) (Or.inl ⟨by rfl,?_⟩) (by assumption) ?_
  rotate_left
  ·intro w hSw;(try dsimp only at hSw);go_simp;first|done|with_reducible rfl
  try simp only[Act.put,List.setIfInBounds_toArray,List.set_cons_zero,List.set_cons_succ]
  rw[hF]
  exact stB _ b3 y1 y2 y3 y4 y5 y6 hkW hb3 h3 hy
 have st10:∀(W:World)(y1:Option Addr)(y2 y3:Nat)(y4:Option Addr)(y5 y6:Nat),Kept w1 W→Rt (onlyW W (ab (b0+2))) (.agg #[.bool s,.slice y1 y2 y3,.slice y4 y5 y6]) s N D→F 3 #[true,true,true,true,true,true,true,true,true,false,false,false] {tmps:=#[Value.agg #[.int .i64 op,.int .i64 arg,.bool s,.slice x1 x2 x3,.slice x4 x5 x6,.string name,.slice a kids.length cap],Value.pointer (some ⟨b0,0,none⟩),Value.pointer (some ⟨b0+1,0,none⟩),undef,undef,undef,Value.pointer (some ⟨b0,0,none⟩),Value.int .i64 op,Value.pointer (some ⟨b0,1,none⟩),Value.int .i64 arg,Value.pointer (some ⟨b0,2,none⟩),Value.agg #[.bool s,.slice x1 x2 x3,.slice x4 x5 x6],Value.agg #[.bool s,.slice y1 y2 y3,.slice y4 y5 y6],Value.pointer (some ⟨b0,5,none⟩),Value.string name,undef,undef,undef,undef,undef,undef,undef,undef,undef,undef,undef,undef,undef,undef,undef,undef,undef],defers:=[]} W:=by
  intro W y1 y2 y3 y4 y5 y6 hkW hy
  rw[←hF]
  have hHeld:=HALL.out _ hkW
  refine wpAnyH_take (i:=9) (oi:=_) (v:= ?_) rfl (by kernel_rfl) (by kernel_rfl) (by kernel_rfl) (fun _ _ _ h=>h) (Or.inl ⟨by rfl,?_⟩) (by assumption) ?_
  rotate_left
  ·intro w hSw;(try dsimp only at hSw);go_simp;first|done|with_reducible rfl
  try simp only[Act.put,List.setIfInBounds_toArray,List.set_cons_zero,List.set_cons_succ]
  refine wpAnyH_ready (rs:=[10]) (by kernel_rfl) (by simp) (AllReadyH.cons (o:=_) rfl (fun K hK=> ?_) AllReadyH.nil)
  ·go_simp
   refine hK.out _ _ (HALL.out _ (hkW.alloc _)) (fun _=> ?_)
   try simp only[List.setIfInBounds_toArray,List.set_cons_zero,List.set_cons_succ]
   rw[hF]
   exact stB _ W.heap.size y1 y2 y3 y4 y5 y6 (hkW.alloc _) hkW.size (Blk.new W _ 27) (hy.sub (only_move fun b hlt hs=>⟨by simp[ab] at hs⊢;omega,((Kept.refl W).alloc _).old b hlt⟩))
 have st01:∀(W:World)(b3:Nat),Kept w1 W→w1.heap.size≤b3→Blk W b3 #[.int .i64 0,.int .i64 0,.bool false,.slice none 0 0,.slice none 0 0,.string ⟨#[]⟩,.slice none 0 0] 27→F 3 #[true,true,true,true,true,true,false,true,true,false,true,false] {tmps:=#[Value.agg #[.int .i64 op,.int .i64 arg,.bool s,.slice x1 x2 x3,.slice x4 x5 x6,.string name,.slice a kids.length cap],Value.pointer (some ⟨b0,0,none⟩),Value.pointer (some ⟨b0+1,0,none⟩),Value.pointer (some ⟨b3,0,none⟩),undef,undef,Value.pointer (some ⟨b0,0,none⟩),Value.int .i64 op,Value.pointer (some ⟨b0,1,none⟩),Value.int .i64 arg,Value.pointer (some ⟨b0,2,none⟩),Value.agg #[.bool s,.slice x1 x2 x3,.slice x4 x5 x6],undef,Value.pointer (some ⟨b0,5,none⟩),Value.string name,undef,undef,undef,undef,undef,undef,undef,undef,undef,undef,undef,undef,undef,undef,undef,undef,undef],defers:=[]} W:=by
  intro W b3 hkW hb3 h3
  rw[←hF]
  have hHeld:=HALL.out _ hkW
  refine wpAnyH_ready (rs:=[6]) (by kernel_rfl) (by simp) (AllReadyH.cons (o:=_) rfl (fun K hK=> ?_) AllReadyH.nil)
  ·go_simp
   go_at_call 140
   refine(hcl _ (hk.trans hkW)).mono ?_
   rintro e w3 ⟨y1,y2,y3,y4,y5,y6,rfl,hy,hkn⟩
   refine hK.out _ _ (HALL.out _ (hkW.trans hkn)) (fun _=> ?_)
   try simp only[List.setIfInBounds_toArray,List.set_cons_zero,List.set_cons_succ]
   rw[hF]
   exact st11 _ b3 y1 y2 y3 y4 y5 y6 (hkW.trans hkn) hb3 (h3.kept hkn) (hy.sub (only_move fun b hlt hs=>⟨by have h1:=h3.lt;simp[ab] at hs⊢;omega,rfl⟩))
 have st00:∀(W:World),Kept w1 W→F 4 #[true,true,true,true,true,true,false,true,true,false,false,false] {tmps:=#[Value.agg #[.int .i64 op,.int .i64 arg,.bool s,.slice x1 x2 x3,.slice x4 x5 x6,.string name,.slice a kids.length cap],Value.pointer (some ⟨b0,0,none⟩),Value.pointer (some ⟨b0+1,0,none⟩),undef,undef,undef,Value.pointer (some ⟨b0,0,none⟩),Value.int .i64 op,Value.pointer (some ⟨b0,1,none⟩),Value.int .i64 arg,Value.pointer (some ⟨b0,2,none⟩),Value.agg #[.bool s,.slice x1 x2 x3,.slice x4 x5 x6],undef,Value.pointer (some ⟨b0,5,none⟩),Value.string name,undef,undef,undef,undef,undef,undef,undef,undef,undef,undef,undef,undef,undef,undef,undef,undef,undef],defers:=[]} W:=by
  intro W hkW
  rw[←hF]
  have hHeld:=HALL.out _ hkW
  refine wpAnyH_ready (rs:=[6,10]) (by kernel_rfl) (by simp) (AllReadyH.cons (o:=_) rfl (fun K hK=> ?_) (AllReadyH.cons (o:=_) rfl (fun K hK=> ?_) AllReadyH.nil))
  ·go_simp
   go_at_call 140
   refine(hcl _ (hk.trans hkW)).mono ?_
   rintro e w3 ⟨y1,y2,y3,y4,y5,y6,rfl,hy,hkn⟩
   refine hK.out _ _ (HALL.out _ (hkW.trans hkn)) (fun _=> ?_)
   try simp only[List.setIfInBounds_toArray,List.set_cons_zero,List.set_cons_succ]
   rw[hF]
   exact st10 _ y1 y2 y3 y4 y5 y6 (hkW.trans hkn) (hy.sub (only_move fun b hlt hs=>⟨by have h1:=hkW.size;simp[ab] at hs⊢;omega,rfl⟩))
  ·go_simp
   refine hK.out _ _ (HALL.out _ (hkW.alloc _)) (fun _=> ?_)
   try simp only[List.setIfInBounds_toArray,List.set_cons_zero,List.set_cons_succ]
   rw[hF]
   exact st01 _ W.heap.size (hkW.alloc _) hkW.size (Blk.new W _ 27)
 exact st00 _ (Kept.refl w1).drew
theorem ownExpr_calls:∀(f:Nat),OwnE f
 |0=>fun h=>h.elim
 |f+1=>ownExpr_step (ownExpr_calls f)
end Go.Proofs.YtbapfnpbamnmpaaGreatDoor
