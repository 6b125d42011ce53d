/- A part of the proof that ClaimGoals answers true for every input of bulk at most 1048576: conditions: the row's own. -/
import Derived.Test.YtbapfnpbamnmpaaGreatDoorGd
import Derived.Test.YtbapfnpbamnmpaaGreatDoorGe
import Derived.Test.YtbapfnpbamnmpaaGreatDoorXa
import Derived.Test.YtbapfnpbamnmpaaGreatDoorXe
section
namespace Go.Proofs.YtbapfnpbamnmpaaGreatDoor
open Go Go.RowKit Go.Dig Go.Deep
open Go.Eng (Kept KW KeptB wp_region_kw kw_call)
theorem Ex.more{w:World}:∀(f:Nat){v:Value}{t:Tree},Ex w f v t→Ex w (f+1) v t
 |0,_,_,h=>h.elim
 |f+1,v,.node op arg s N D name kids,⟨x1,x2,x3,x4,x5,x6,a,cap,hv,hc,hr,hn,hk⟩=>by
  refine⟨x1,x2,x3,x4,x5,x6,a,cap,hv,hc,hr,hn,fun i h=> ?_⟩
  obtain⟨b,off,cs,ha,hs,hcell,he⟩:=hk i h
  exact⟨b,off,cs,ha,hs,hcell,Ex.more f he⟩
theorem Ex.up{w:World}{f:Nat}{v:Value}{t:Tree}(h:Ex w f v t):∀(k:Nat),Ex w (f+k) v t
 |0=>h
 |k+1=>Ex.more _ (h.up k)
theorem Ex.upTo{w:World}{f g:Nat}{v:Value}{t:Tree}(h:Ex w f v t)(hle:f≤g):Ex w g v t:=by
 have:=h.up (g-f)
 rwa [Nat.add_sub_cancel' hle] at this
theorem Clm.upTo{w:World}{f g:Nat}{v:Value}{c:ClaimD}(h:Clm w f v c)(hle:f≤g):Clm w g v c:=by
 obtain⟨o,gg,z,x1,x2,x3,x4,x5,x6,nm,a0,n0,cap0,a1,n1,cap1,a2,n2,cap2,rfl,h1,h2,hn,hc,hb,hi⟩:=h
 refine⟨o,gg,z,x1,x2,x3,x4,x5,x6,nm,a0,n0,cap0,a1,n1,cap1,a2,n2,cap2,rfl,h1.upTo hle,h2,hn,hc,hb,fun i hl=> ?_⟩
 obtain⟨b,off,o,g,z,x1,x2,x3,x4,x5,x6,nm,a',n',cap',ha,c0,c1,c2,c3,c4,c5,c6,c7,he⟩:=hi i hl
 exact⟨b,off,o,g,z,x1,x2,x3,x4,x5,x6,nm,a',n',cap',ha,c0,c1,c2,c3,c4,c5,c6,c7,he.upTo hle⟩
def RetC(x:Int)(d:ClaimD)(f:Nat)(S:Nat→Bool)(w:World)(e:Ending)(w':World):Prop:=
 ∃r,e= .returned (.tuple #[r,.int .i64 x])∧(x=0→Clm (onlyW w' (fun b=>S b||decide (w.heap.size≤b))) f r d)∧(x≠0→r= .agg #[.int .i64 0,.int .i64 0,.bool false,.slice none 0 0,.slice none 0 0,.string ⟨#[]⟩,.slice none 0 0,.bool false,.slice none 0 0,.slice none 0 0])∧Kept w w'
set_option maxHeartbeats 4000000 in
set_option maxRecDepth 100000 in
theorem rgoal_calls{f:Nat}{w:World}{v u:Value}{c:ClaimD}{t:Tree}{S:Nat→Bool}(h:Clm (onlyW w S) f v c)(he:Ex (onlyW w S) f u t)(hT:Laid w)(st:Bool):
 Calls Tryz.prog 22 #[v,u,.bool st] w (RetC (fitC c t) ⟨t,st,c.box,c.conds⟩ f S w):=by
 have HM:Hid (∀W',Kept w W'→Sub (onlyW w S) (onlyW W' (fun b=>S b||decide (w.heap.size≤b)))):=Lib.hid fun W' k=>only_move fun b hlt hs=>⟨by simp[hs],k.old b hlt⟩
 have hf:=fun(w':World)(k:Kept w w')=>rfits_calls ((h.sub (only_sub _ _)).kept k) (Ex.kept k _ (he.sub (only_sub _ _))) (hT.kept k)
 clear hT
 obtain⟨o,g,z,x1,x2,x3,x4,x5,x6,nm,a0,n0,cap0,a1,n1,cap1,a2,n2,cap2,rfl,hg,hb,hc⟩:=h
 obtain⟨o',g',z',y1,y2,y3,y4,y5,y6,nm',a',n',cap',rfl⟩:=he.agg7
 generalize hcst:c.strict=cst at*
 have HCST:=Lib.hid hcst;clear hcst
 have HG:=Lib.hid hg;clear hg
 have HB:=Lib.hid hb;clear hb
 have HC:=Lib.hid hc;clear hc
 have HE:=Lib.hid he;clear he
 have hA:=Blk.new w #[.int .i64 o,.int .i64 g,.bool z,.slice x1 x2 x3,.slice x4 x5 x6,.string nm,.slice a0 n0 cap0,.bool cst,.slice a1 n1 cap1,.slice a2 n2 cap2] 31
 have hB:=Blk.new (w.alloc (.cells #[.int .i64 o,.int .i64 g,.bool z,.slice x1 x2 x3,.slice x4 x5 x6,.string nm,.slice a0 n0 cap0,.bool cst,.slice a1 n1 cap1,.slice a2 n2 cap2] 31)) #[.int .i64 o',.int .i64 g',.bool z',.slice y1 y2 y3,.slice y4 y5 y6,.string nm',.slice a' n' cap'] 27
 have hD:=Blk.new ((w.alloc (.cells #[.int .i64 o,.int .i64 g,.bool z,.slice x1 x2 x3,.slice x4 x5 x6,.string nm,.slice a0 n0 cap0,.bool cst,.slice a1 n1 cap1,.slice a2 n2 cap2] 31)).alloc (.cells #[.int .i64 o',.int .i64 g',.bool z',.slice y1 y2 y3,.slice y4 y5 y6,.string nm',.slice a' n' cap'] 27)) #[.int .i64 0,.int .i64 0,.bool false,.slice none 0 0,.slice none 0 0,.string ⟨#[]⟩,.slice none 0 0,.bool false,.slice none 0 0,.slice none 0 0] 31
 rw[show(w.alloc (.cells #[.int .i64 o,.int .i64 g,.bool z,.slice x1 x2 x3,.slice x4 x5 x6,.string nm,.slice a0 n0 cap0,.bool cst,.slice a1 n1 cap1,.slice a2 n2 cap2] 31)).heap.size=w.heap.size+1 from Array.size_push _] at hB
 rw[show((w.alloc (.cells #[.int .i64 o,.int .i64 g,.bool z,.slice x1 x2 x3,.slice x4 x5 x6,.string nm,.slice a0 n0 cap0,.bool cst,.slice a1 n1 cap1,.slice a2 n2 cap2] 31)).alloc (.cells #[.int .i64 o',.int .i64 g',.bool z',.slice y1 y2 y3,.slice y4 y5 y6,.string nm',.slice a' n' cap'] 27)).heap.size=w.heap.size+2 by simp[go_sem]] at hD
 have hk1:Kept w (w.alloc (.cells #[.int .i64 o,.int .i64 g,.bool z,.slice x1 x2 x3,.slice x4 x5 x6,.string nm,.slice a0 n0 cap0,.bool cst,.slice a1 n1 cap1,.slice a2 n2 cap2] 31)):=(Kept.refl w).alloc _
 have hk2:Kept (w.alloc (.cells #[.int .i64 o,.int .i64 g,.bool z,.slice x1 x2 x3,.slice x4 x5 x6,.string nm,.slice a0 n0 cap0,.bool cst,.slice a1 n1 cap1,.slice a2 n2 cap2] 31)) ((w.alloc (.cells #[.int .i64 o,.int .i64 g,.bool z,.slice x1 x2 x3,.slice x4 x5 x6,.string nm,.slice a0 n0 cap0,.bool cst,.slice a1 n1 cap1,.slice a2 n2 cap2] 31)).alloc (.cells #[.int .i64 o',.int .i64 g',.bool z',.slice y1 y2 y3,.slice y4 y5 y6,.string nm',.slice a' n' cap'] 27)):=(Kept.refl _).alloc _
 have hk3:Kept ((w.alloc (.cells #[.int .i64 o,.int .i64 g,.bool z,.slice x1 x2 x3,.slice x4 x5 x6,.string nm,.slice a0 n0 cap0,.bool cst,.slice a1 n1 cap1,.slice a2 n2 cap2] 31)).alloc (.cells #[.int .i64 o',.int .i64 g',.bool z',.slice y1 y2 y3,.slice y4 y5 y6,.string nm',.slice a' n' cap'] 27)) (((w.alloc (.cells #[.int .i64 o,.int .i64 g,.bool z,.slice x1 x2 x3,.slice x4 x5 x6,.string nm,.slice a0 n0 cap0,.bool cst,.slice a1 n1 cap1,.slice a2 n2 cap2] 31)).alloc (.cells #[.int .i64 o',.int .i64 g',.bool z',.slice y1 y2 y3,.slice y4 y5 y6,.string nm',.slice a' n' cap'] 27)).alloc (.cells #[.int .i64 0,.int .i64 0,.bool false,.slice none 0 0,.slice none 0 0,.string ⟨#[]⟩,.slice none 0 0,.bool false,.slice none 0 0,.slice none 0 0] 31)):=(Kept.refl _).alloc _
 replace hA:=(hA.kept hk2).kept hk3
 replace hB:=hB.kept hk3
 have hk:=(hk1.trans hk2).trans hk3
 clear hk1 hk2 hk3
 generalize hw1:(((w.alloc (.cells #[.int .i64 o,.int .i64 g,.bool z,.slice x1 x2 x3,.slice x4 x5 x6,.string nm,.slice a0 n0 cap0,.bool cst,.slice a1 n1 cap1,.slice a2 n2 cap2] 31)).alloc (.cells #[.int .i64 o',.int .i64 g',.bool z',.slice y1 y2 y3,.slice y4 y5 y6,.string nm',.slice a' n' cap'] 27)).alloc (.cells #[.int .i64 0,.int .i64 0,.bool false,.slice none 0 0,.slice none 0 0,.string ⟨#[]⟩,.slice none 0 0,.bool false,.slice none 0 0,.slice none 0 0] 31))=w1 at*
 subst hw1
 obtain⟨e0,e1,e2,e3,e4,e5,e6,e7,e8,e9,-⟩:=hA.facts10
 obtain⟨d0,d1,d2,d3,d4,d5,d6,-⟩:=hB.facts7
 unfold RetC
 rcases Bool.eq_false_or_eq_true (fitC c t != 0) with b1|b1
 ·have hx:fitC c t≠0:=by simpa using b1
  have HX:=Lib.hid hx;clear hx
  generalize fitC c t=x at*
  go_enter Tryz.func22,Tryz.ntmps22
  go_wp2_with(first|(go_at_call 68;refine(hf _ hk).mono ?_;rintro e w1 ⟨rfl,hk1⟩;replace hD:=hD.kept hk1;obtain⟨k0,k1,k2,k3,k4,k5,k6,k7,k8,k9,j0,j1,j2,j3,j4,j5,j6,j7,j8,j9⟩:=hD.facts10))
  have hend:=KeptB.st10 w1 (w.heap.size+2) (.int .i64 0) (.int .i64 0) (.bool false) (.slice none 0 0) (.slice none 0 0) (.string ⟨#[]⟩) (.slice none 0 0) (.bool false) (.slice none 0 0) (.slice none 0 0)
  refine bodyPost_ret (v:=.tuple #[.agg #[.int .i64 0,.int .i64 0,.bool false,.slice none 0 0,.slice none 0 0,.string ⟨#[]⟩,.slice none 0 0,.bool false,.slice none 0 0,.slice none 0 0],.int .i64 x]) (by simp[results,Tryz.results22,go_sem,k0,k1,k2,k3,k4,k5,k6,k7,k8,k9]) rfl ⟨_,rfl,fun h0=>absurd h0 HX.out,fun _=>rfl,(hk.trans hk1).but hend (by omega)⟩
 ·have hx:fitC c t=0:=by simpa using b1
  have HX:=Lib.hid hx;clear hx
  generalize fitC c t=x at*
  go_enter Tryz.func22,Tryz.ntmps22
  go_wp2_with(first|(go_at_call 68;refine(hf _ hk).mono ?_;rintro e w1 ⟨rfl,hk1⟩;replace hA:=hA.kept hk1;replace hB:=hB.kept hk1;replace hD:=hD.kept hk1;clear e0 e1 e2 e3 e4 e5 e6 e7 e8 e9 d0 d1 d2 d3 d4 d5 d6;obtain⟨e0,e1,e2,e3,e4,e5,e6,e7,e8,e9,-⟩:=hA.facts10;obtain⟨d0,d1,d2,d3,d4,d5,d6,-⟩:=hB.facts7;obtain⟨k0,k1,k2,k3,k4,k5,k6,k7,k8,k9,j0,j1,j2,j3,j4,j5,j6,j7,j8,j9⟩:=hD.facts10))
  have hend:=KeptB.st10 w1 (w.heap.size+2) (.int .i64 o') (.int .i64 g') (.bool z') (.slice y1 y2 y3) (.slice y4 y5 y6) (.string nm') (.slice a' n' cap') (.bool st) (.slice a1 n1 cap1) (.slice a2 n2 cap2)
  have hkz:=(hk.trans hk1).but hend (by omega)
  refine bodyPost_ret (v:=.tuple #[.agg #[.int .i64 o',.int .i64 g',.bool z',.slice y1 y2 y3,.slice y4 y5 y6,.string nm',.slice a' n' cap',.bool st,.slice a1 n1 cap1,.slice a2 n2 cap2],.int .i64 0]) (by simp[results,Tryz.results22,go_sem,k0,k1,k2,k3,k4,k5,k6,k7,k8,k9]) rfl ⟨_,by rw[HX.out],fun _=>⟨o',g',z',y1,y2,y3,y4,y5,y6,nm',a',n',cap',a1,n1,cap1,a2,n2,cap2,rfl,HE.out.sub (HM.out _ hkz),HB.out.sub (HM.out _ hkz),HC.out.sub (HM.out _ hkz)⟩,fun h=>absurd HX.out h,hkz⟩
theorem fitC_zero{c:ClaimD}{t:Tree}(h:fitC c t=0):c.ok=true∧t.ok=true∧covB c.box (varsT t)=true:=by
 unfold fitC at h
 cases h1:c.ok
 ·rw[if_pos h1] at h;cases h
 ·cases h2:t.ok
  ·rw[if_neg (by rw[h1];decide),if_pos h2] at h;cases h
  ·cases h3:covB c.box (varsT t)
   ·rw[if_neg (by rw[h1];decide),if_neg (by rw[h2];decide),if_pos h3] at h;cases h
   ·exact⟨rfl,rfl,rfl⟩
set_option maxHeartbeats 8000000 in
set_option maxRecDepth 100000 in
theorem cgoal_calls{f:Nat}{w:World}{v u:Value}{c:ClaimD}{t:Tree}{S:Nat→Bool}(h:Clm (onlyW w S) f v c)(he:Ex (onlyW w S) f u t)(hT:Laid w)(st:Bool):
 Calls Tryz.prog 21 #[v,u,.bool st] w (RetC (fitC c t) ⟨t,st,c.box,c.conds⟩ f S w):=by
 have HM:Hid (∀W',Kept w W'→Sub (onlyW w S) (onlyW W' (fun b=>S b||decide (w.heap.size≤b)))):=Lib.hid fun W' k=>only_move fun b hlt hs=>⟨by simp[hs],k.old b hlt⟩
 have hf:=fun(w':World)(k:Kept w w')=>cfits_calls ((h.sub (only_sub _ _)).kept k) (Ex.kept k _ (he.sub (only_sub _ _))) (hT.kept k)
 have ho:=fun(hc:c.ok=true)(w':World)(k:Kept w w')=>own_calls ((h.sub (only_sub _ _)).kept k) hc
 have hoe:=fun(ht:t.ok=true)(w':World)(k:Kept w w')=>ownExpr_calls f (Ex.kept k _ (he.sub (only_sub _ _))) (well_of_ok ht)
 clear hT
 obtain⟨o,g,z,x1,x2,x3,x4,x5,x6,nm,a0,n0,cap0,a1,n1,cap1,a2,n2,cap2,rfl,hg,hb,hc⟩:=h
 obtain⟨o',g',z',y1,y2,y3,y4,y5,y6,nm',a',n',cap',rfl⟩:=he.agg7
 generalize hcst:c.strict=cst at*
 have HCST:=Lib.hid hcst;clear hcst
 have HG:=Lib.hid hg;clear hg
 have HB:=Lib.hid hb;clear hb
 have HC:=Lib.hid hc;clear hc
 have HE:=Lib.hid he;clear he
 have hA:=Blk.new w #[.int .i64 o,.int .i64 g,.bool z,.slice x1 x2 x3,.slice x4 x5 x6,.string nm,.slice a0 n0 cap0,.bool cst,.slice a1 n1 cap1,.slice a2 n2 cap2] 31
 have hB:=Blk.new (w.alloc (.cells #[.int .i64 o,.int .i64 g,.bool z,.slice x1 x2 x3,.slice x4 x5 x6,.string nm,.slice a0 n0 cap0,.bool cst,.slice a1 n1 cap1,.slice a2 n2 cap2] 31)) #[.int .i64 o',.int .i64 g',.bool z',.slice y1 y2 y3,.slice y4 y5 y6,.string nm',.slice a' n' cap'] 27
 have hD:=Blk.new ((w.alloc (.cells #[.int .i64 o,.int .i64 g,.bool z,.slice x1 x2 x3,.slice x4 x5 x6,.string nm,.slice a0 n0 cap0,.bool cst,.slice a1 n1 cap1,.slice a2 n2 cap2] 31)).alloc (.cells #[.int .i64 o',.int .i64 g',.bool z',.slice y1 y2 y3,.slice y4 y5 y6,.string nm',.slice a' n' cap'] 27)) #[.int .i64 0,.int .i64 0,.bool false,.slice none 0 0,.slice none 0 0,.string ⟨#[]⟩,.slice none 0 0,.bool false,.slice none 0 0,.slice none 0 0] 31
 rw[show(w.alloc (.cells #[.int .i64 o,.int .i64 g,.bool z,.slice x1 x2 x3,.slice x4 x5 x6,.string nm,.slice a0 n0 cap0,.bool cst,.slice a1 n1 cap1,.slice a2 n2 cap2] 31)).heap.size=w.heap.size+1 from Array.size_push _] at hB
 rw[show((w.alloc (.cells #[.int .i64 o,.int .i64 g,.bool z,.slice x1 x2 x3,.slice x4 x5 x6,.string nm,.slice a0 n0 cap0,.bool cst,.slice a1 n1 cap1,.slice a2 n2 cap2] 31)).alloc (.cells #[.int .i64 o',.int .i64 g',.bool z',.slice y1 y2 y3,.slice y4 y5 y6,.string nm',.slice a' n' cap'] 27)).heap.size=w.heap.size+2 by simp[go_sem]] at hD
 have hk1:Kept w (w.alloc (.cells #[.int .i64 o,.int .i64 g,.bool z,.slice x1 x2 x3,.slice x4 x5 x6,.string nm,.slice a0 n0 cap0,.bool cst,.slice a1 n1 cap1,.slice a2 n2 cap2] 31)):=(Kept.refl w).alloc _
 have hk2:Kept (w.alloc (.cells #[.int .i64 o,.int .i64 g,.bool z,.slice x1 x2 x3,.slice x4 x5 x6,.string nm,.slice a0 n0 cap0,.bool cst,.slice a1 n1 cap1,.slice a2 n2 cap2] 31)) ((w.alloc (.cells #[.int .i64 o,.int .i64 g,.bool z,.slice x1 x2 x3,.slice x4 x5 x6,.string nm,.slice a0 n0 cap0,.bool cst,.slice a1 n1 cap1,.slice a2 n2 cap2] 31)).alloc (.cells #[.int .i64 o',.int .i64 g',.bool z',.slice y1 y2 y3,.slice y4 y5 y6,.string nm',.slice a' n' cap'] 27)):=(Kept.refl _).alloc _
 have hk3:Kept ((w.alloc (.cells #[.int .i64 o,.int .i64 g,.bool z,.slice x1 x2 x3,.slice x4 x5 x6,.string nm,.slice a0 n0 cap0,.bool cst,.slice a1 n1 cap1,.slice a2 n2 cap2] 31)).alloc (.cells #[.int .i64 o',.int .i64 g',.bool z',.slice y1 y2 y3,.slice y4 y5 y6,.string nm',.slice a' n' cap'] 27)) (((w.alloc (.cells #[.int .i64 o,.int .i64 g,.bool z,.slice x1 x2 x3,.slice x4 x5 x6,.string nm,.slice a0 n0 cap0,.bool cst,.slice a1 n1 cap1,.slice a2 n2 cap2] 31)).alloc (.cells #[.int .i64 o',.int .i64 g',.bool z',.slice y1 y2 y3,.slice y4 y5 y6,.string nm',.slice a' n' cap'] 27)).alloc (.cells #[.int .i64 0,.int .i64 0,.bool false,.slice none 0 0,.slice none 0 0,.string ⟨#[]⟩,.slice none 0 0,.bool false,.slice none 0 0,.slice none 0 0] 31)):=(Kept.refl _).alloc _
 replace hA:=(hA.kept hk2).kept hk3
 replace hB:=hB.kept hk3
 have hk:=(hk1.trans hk2).trans hk3
 clear hk1 hk2 hk3
 generalize hw1:(((w.alloc (.cells #[.int .i64 o,.int .i64 g,.bool z,.slice x1 x2 x3,.slice x4 x5 x6,.string nm,.slice a0 n0 cap0,.bool cst,.slice a1 n1 cap1,.slice a2 n2 cap2] 31)).alloc (.cells #[.int .i64 o',.int .i64 g',.bool z',.slice y1 y2 y3,.slice y4 y5 y6,.string nm',.slice a' n' cap'] 27)).alloc (.cells #[.int .i64 0,.int .i64 0,.bool false,.slice none 0 0,.slice none 0 0,.string ⟨#[]⟩,.slice none 0 0,.bool false,.slice none 0 0,.slice none 0 0] 31))=w1 at*
 subst hw1
 obtain⟨e0,e1,e2,e3,e4,e5,e6,e7,e8,e9,-⟩:=hA.facts10
 obtain⟨d0,d1,d2,d3,d4,d5,d6,-⟩:=hB.facts7
 unfold RetC
 rcases Bool.eq_false_or_eq_true (fitC c t != 0) with b1|b1
 ·have hx:fitC c t≠0:=by simpa using b1
  have HX:=Lib.hid hx;clear hx ho hoe
  generalize fitC c t=x at*
  go_enter Tryz.func21,Tryz.ntmps21
  go_wp2_with(first|(go_at_call 65;refine(hf _ hk).mono ?_;rintro e w1 ⟨rfl,hk1⟩;replace hD:=hD.kept hk1;obtain⟨k0,k1,k2,k3,k4,k5,k6,k7,k8,k9,j0,j1,j2,j3,j4,j5,j6,j7,j8,j9⟩:=hD.facts10))
  have hend:=KeptB.st10 w1 (w.heap.size+2) (.int .i64 0) (.int .i64 0) (.bool false) (.slice none 0 0) (.slice none 0 0) (.string ⟨#[]⟩) (.slice none 0 0) (.bool false) (.slice none 0 0) (.slice none 0 0)
  refine bodyPost_ret (v:=.tuple #[.agg #[.int .i64 0,.int .i64 0,.bool false,.slice none 0 0,.slice none 0 0,.string ⟨#[]⟩,.slice none 0 0,.bool false,.slice none 0 0,.slice none 0 0],.int .i64 x]) (by simp[results,Tryz.results21,go_sem,k0,k1,k2,k3,k4,k5,k6,k7,k8,k9]) rfl ⟨_,rfl,fun h0=>absurd h0 HX.out,fun _=>rfl,(hk.trans hk1).but hend (by omega)⟩
 ·have hx:fitC c t=0:=by simpa using b1
  obtain⟨hok,htk,-⟩:=fitC_zero hx
  have HX:=Lib.hid hx;clear hx
  replace ho:=ho hok
  replace hoe:=hoe htk
  clear hok htk
  generalize fitC c t=x at*
  go_enter Tryz.func21,Tryz.ntmps21
  go_wp2_with(first
   |(go_at_call 65;refine(hf _ hk).mono ?_;rintro e w1 ⟨rfl,hk1⟩;replace hA:=hA.kept hk1;replace hB:=hB.kept hk1;replace hD:=hD.kept hk1;clear e0 e1 e2 e3 e4 e5 e6 e7 e8 e9 d0 d1 d2 d3 d4 d5 d6;obtain⟨e0,e1,e2,e3,e4,e5,e6,e7,e8,e9,-⟩:=hA.facts10;obtain⟨d0,d1,d2,d3,d4,d5,d6,-⟩:=hB.facts7)
   |(go_at_call 66;refine(ho _ (hk.trans hk1)).mono ?_;rintro e w2 ⟨v2,rfl,hc2,hk2⟩;obtain⟨q0,q1,q2,u1,u2,u3,u4,u5,u6,um,ua,un,ucap,b1',mm1,dap1,b2,mm2,dap2,rfl,hc2g,hc2b,hc2c⟩:=hc2
     have hP:=Blk.new w2 #[.int .i64 q0,.int .i64 q1,.bool q2,.slice u1 u2 u3,.slice u4 u5 u6,.string um,.slice ua un ucap,.bool c.strict,.slice b1' mm1 dap1,.slice b2 mm2 dap2] 31
     have hkP:Kept w2 (w2.alloc (.cells #[.int .i64 q0,.int .i64 q1,.bool q2,.slice u1 u2 u3,.slice u4 u5 u6,.string um,.slice ua un ucap,.bool c.strict,.slice b1' mm1 dap1,.slice b2 mm2 dap2] 31)):=(Kept.refl w2).alloc _
     have hlt1:=hD.lt
     have hlt2:=(hD.kept hk2).lt
     replace hB:=(hB.kept hk2).kept hkP
     replace hD:=(hD.kept hk2).kept hkP
     clear e0 e1 e2 e3 e4 e5 e6 e7 e8 e9 d0 d1 d2 d3 d4 d5 d6
     obtain⟨d0,d1,d2,d3,d4,d5,d6,-⟩:=hB.facts7)
   |(go_at_call 67;refine(hoe _ (((hk.trans hk1).trans hk2).trans hkP)).mono ?_;rintro e w4 ⟨v4,rfl,he4,hk4⟩;obtain⟨r0,r1,r2,t1,t2,t3,t4,t5,t6,tm,ta,tn,tcap,rfl⟩:=he4.agg7
     have hne:w2.heap.size≠w.heap.size+2:=Nat.ne_of_gt hlt2
     have hne2:=fun h=>hne (Eq.symm h)
     replace hP:=hP.kept hk4
     replace hD:=hD.kept hk4
     obtain⟨k0,k1,k2,k3,k4,k5,k6,k7,k8,k9,j0,j1,j2,j3,j4,j5,j6,j7,j8,j9⟩:=hD.facts10
     obtain⟨l0,l1,l2,l3,l4,l5,l6,l7,l8,l9,m0,m1,m2,m3,m4,m5,m6,m7,m8,m9⟩:=hP.facts10))
  have h8:KeptB w4 ((((((((w4.setCell ⟨w2.heap.size,0,none⟩ (.int .i64 r0)).setCell ⟨w2.heap.size,1,none⟩ (.int .i64 r1)).setCell ⟨w2.heap.size,2,none⟩ (.bool r2)).setCell ⟨w2.heap.size,3,none⟩ (.slice t1 t2 t3)).setCell ⟨w2.heap.size,4,none⟩ (.slice t4 t5 t6)).setCell ⟨w2.heap.size,5,none⟩ (.string tm)).setCell ⟨w2.heap.size,6,none⟩ (.slice ta tn tcap)).setCell ⟨w2.heap.size,7,none⟩ (.bool st)) w2.heap.size:=KeptB.st8 ..
  have hE:KeptB ((((((((w4.setCell ⟨w2.heap.size,0,none⟩ (.int .i64 r0)).setCell ⟨w2.heap.size,1,none⟩ (.int .i64 r1)).setCell ⟨w2.heap.size,2,none⟩ (.bool r2)).setCell ⟨w2.heap.size,3,none⟩ (.slice t1 t2 t3)).setCell ⟨w2.heap.size,4,none⟩ (.slice t4 t5 t6)).setCell ⟨w2.heap.size,5,none⟩ (.string tm)).setCell ⟨w2.heap.size,6,none⟩ (.slice ta tn tcap)).setCell ⟨w2.heap.size,7,none⟩ (.bool st)) ((((((((((((((((((w4.setCell ⟨w2.heap.size,0,none⟩ (.int .i64 r0)).setCell ⟨w2.heap.size,1,none⟩ (.int .i64 r1)).setCell ⟨w2.heap.size,2,none⟩ (.bool r2)).setCell ⟨w2.heap.size,3,none⟩ (.slice t1 t2 t3)).setCell ⟨w2.heap.size,4,none⟩ (.slice t4 t5 t6)).setCell ⟨w2.heap.size,5,none⟩ (.string tm)).setCell ⟨w2.heap.size,6,none⟩ (.slice ta tn tcap)).setCell ⟨w2.heap.size,7,none⟩ (.bool st)).setCell ⟨w.heap.size+2,0,none⟩ (.int .i64 r0)).setCell ⟨w.heap.size+2,1,none⟩ (.int .i64 r1)).setCell ⟨w.heap.size+2,2,none⟩ (.bool r2)).setCell ⟨w.heap.size+2,3,none⟩ (.slice t1 t2 t3)).setCell ⟨w.heap.size+2,4,none⟩ (.slice t4 t5 t6)).setCell ⟨w.heap.size+2,5,none⟩ (.string tm)).setCell ⟨w.heap.size+2,6,none⟩ (.slice ta tn tcap)).setCell ⟨w.heap.size+2,7,none⟩ (.bool st)).setCell ⟨w.heap.size+2,8,none⟩ (.slice b1' mm1 dap1)).setCell ⟨w.heap.size+2,9,none⟩ (.slice b2 mm2 dap2)) (w.heap.size+2):=KeptB.st10 ..
  have hk4':=(((hk.trans hk1).trans hk2).trans hkP).trans hk4
  have hkz:=(hk4'.but h8 (by have:=((hk.trans hk1).trans hk2).size;omega)).but hE (by omega)
  have hsz3:(w2.alloc (.cells #[.int .i64 q0,.int .i64 q1,.bool q2,.slice u1 u2 u3,.slice u4 u5 u6,.string um,.slice ua un ucap,.bool c.strict,.slice b1' mm1 dap1,.slice b2 mm2 dap2] 31)).heap.size=w2.heap.size+1:=Array.size_push _
  have hlt1:w.heap.size+2<w1.heap.size:=hlt1
  have hsz21:=hk2.size
  have hM1:Sub (onlyW w2 (ab w1.heap.size)) (onlyW ((((((((((((((((((w4.setCell ⟨w2.heap.size,0,none⟩ (.int .i64 r0)).setCell ⟨w2.heap.size,1,none⟩ (.int .i64 r1)).setCell ⟨w2.heap.size,2,none⟩ (.bool r2)).setCell ⟨w2.heap.size,3,none⟩ (.slice t1 t2 t3)).setCell ⟨w2.heap.size,4,none⟩ (.slice t4 t5 t6)).setCell ⟨w2.heap.size,5,none⟩ (.string tm)).setCell ⟨w2.heap.size,6,none⟩ (.slice ta tn tcap)).setCell ⟨w2.heap.size,7,none⟩ (.bool st)).setCell ⟨w.heap.size+2,0,none⟩ (.int .i64 r0)).setCell ⟨w.heap.size+2,1,none⟩ (.int .i64 r1)).setCell ⟨w.heap.size+2,2,none⟩ (.bool r2)).setCell ⟨w.heap.size+2,3,none⟩ (.slice t1 t2 t3)).setCell ⟨w.heap.size+2,4,none⟩ (.slice t4 t5 t6)).setCell ⟨w.heap.size+2,5,none⟩ (.string tm)).setCell ⟨w.heap.size+2,6,none⟩ (.slice ta tn tcap)).setCell ⟨w.heap.size+2,7,none⟩ (.bool st)).setCell ⟨w.heap.size+2,8,none⟩ (.slice b1' mm1 dap1)).setCell ⟨w.heap.size+2,9,none⟩ (.slice b2 mm2 dap2)) (fun b=>S b||decide (w.heap.size≤b))):=only_move fun b hlt hs=>⟨by
   have h1:w1.heap.size≤b:=by simpa [ab] using hs
   simp only[Bool.or_eq_true,decide_eq_true_eq];exact .inr (by omega),by
   have h1:w1.heap.size≤b:=by simpa [ab] using hs
   have h2:=(hkP.trans hk4).size
   exact((hE.old b (Nat.lt_of_lt_of_le hlt (Nat.le_trans h2 h8.size)) (by omega)).trans (h8.old b (Nat.lt_of_lt_of_le hlt h2) (by omega))).trans ((hkP.trans hk4).old b hlt)⟩
  have hM2:Sub (onlyW w4 (ab (w2.alloc (.cells #[.int .i64 q0,.int .i64 q1,.bool q2,.slice u1 u2 u3,.slice u4 u5 u6,.string um,.slice ua un ucap,.bool c.strict,.slice b1' mm1 dap1,.slice b2 mm2 dap2] 31)).heap.size)) (onlyW ((((((((((((((((((w4.setCell ⟨w2.heap.size,0,none⟩ (.int .i64 r0)).setCell ⟨w2.heap.size,1,none⟩ (.int .i64 r1)).setCell ⟨w2.heap.size,2,none⟩ (.bool r2)).setCell ⟨w2.heap.size,3,none⟩ (.slice t1 t2 t3)).setCell ⟨w2.heap.size,4,none⟩ (.slice t4 t5 t6)).setCell ⟨w2.heap.size,5,none⟩ (.string tm)).setCell ⟨w2.heap.size,6,none⟩ (.slice ta tn tcap)).setCell ⟨w2.heap.size,7,none⟩ (.bool st)).setCell ⟨w.heap.size+2,0,none⟩ (.int .i64 r0)).setCell ⟨w.heap.size+2,1,none⟩ (.int .i64 r1)).setCell ⟨w.heap.size+2,2,none⟩ (.bool r2)).setCell ⟨w.heap.size+2,3,none⟩ (.slice t1 t2 t3)).setCell ⟨w.heap.size+2,4,none⟩ (.slice t4 t5 t6)).setCell ⟨w.heap.size+2,5,none⟩ (.string tm)).setCell ⟨w.heap.size+2,6,none⟩ (.slice ta tn tcap)).setCell ⟨w.heap.size+2,7,none⟩ (.bool st)).setCell ⟨w.heap.size+2,8,none⟩ (.slice b1' mm1 dap1)).setCell ⟨w.heap.size+2,9,none⟩ (.slice b2 mm2 dap2)) (fun b=>S b||decide (w.heap.size≤b))):=only_move fun b hlt hs=>⟨by
   have h1:(w2.alloc (.cells #[.int .i64 q0,.int .i64 q1,.bool q2,.slice u1 u2 u3,.slice u4 u5 u6,.string um,.slice ua un ucap,.bool c.strict,.slice b1' mm1 dap1,.slice b2 mm2 dap2] 31)).heap.size≤b:=by simpa [ab] using hs
   rw[hsz3] at h1
   simp only[Bool.or_eq_true,decide_eq_true_eq];exact .inr (by omega),by
   have h1:(w2.alloc (.cells #[.int .i64 q0,.int .i64 q1,.bool q2,.slice u1 u2 u3,.slice u4 u5 u6,.string um,.slice ua un ucap,.bool c.strict,.slice b1' mm1 dap1,.slice b2 mm2 dap2] 31)).heap.size≤b:=by simpa [ab] using hs
   rw[hsz3] at h1
   exact(hE.old b (Nat.lt_of_lt_of_le hlt h8.size) (by omega)).trans (h8.old b hlt (by omega))⟩
  refine bodyPost_ret (v:=.tuple #[.agg #[.int .i64 r0,.int .i64 r1,.bool r2,.slice t1 t2 t3,.slice t4 t5 t6,.string tm,.slice ta tn tcap,.bool st,.slice b1' mm1 dap1,.slice b2 mm2 dap2],.int .i64 0]) (by simp[results,Tryz.results21,go_sem,k0,k1,k2,k3,k4,k5,k6,k7,k8,k9]) rfl ⟨_,by rw[HX.out],fun _=>⟨r0,r1,r2,t1,t2,t3,t4,t5,t6,tm,ta,tn,tcap,b1',mm1,dap1,b2,mm2,dap2,rfl,he4.sub hM2,hc2b.sub hM1,hc2c.sub hM1⟩,fun h=>absurd HX.out h,hkz⟩
end Go.Proofs.YtbapfnpbamnmpaaGreatDoor
end
section
namespace Go.Proofs.YtbapfnpbamnmpaaGreatDoor
open Go Go.RowKit Go.Dig Go.Deep
open Go.Eng (Kept KW KeptB wp_region_kw kw_call)
def zeroC:Value:=.agg #[.int .i64 0,.int .i64 0,.bool false,.slice none 0 0,.slice none 0 0,.string ⟨#[]⟩,.slice none 0 0,.bool false,.slice none 0 0,.slice none 0 0]
set_option maxHeartbeats 4000000 in
set_option maxRecDepth 100000 in
theorem nothing_calls(w:World):Calls Tryz.prog 45 #[.agg #[.int .i64 0,.int .i64 0,.bool false,.slice none 0 0,.slice none 0 0,.string ⟨#[]⟩,.slice none 0 0,.bool false,.slice none 0 0,.slice none 0 0]] w fun e w'=>e= .returned (.bool true)∧Kept w w':=by
 go_enter Tryz.func45,Tryz.ntmps45
 go_wp2
 go_ret
 exact⟨rfl,((Kept.refl w).alloc _).alloc _⟩
set_option maxHeartbeats 4000000 in
set_option maxRecDepth 100000 in
theorem agrees_calls{f:Nat}{w:World}{r r':Value}{x:Int}{d:ClaimD}(h:x=0→Clm w f r d∧Clm w f r' d∧d.ok=true)(hz:x≠0→r=zeroC∧r'=zeroC):
 Calls Tryz.prog 13 #[r,.int .i64 x,r',.int .i64 x] w fun e w'=>e= .returned (.bool true)∧Kept w w':=by
 by_cases hx:x=0
 ·obtain⟨h1,h2,ho⟩:=h hx
  have hs:=fun(w':World)(k:Kept w w')=>csame_calls (h1.kept k) (h2.kept k) ho ho
  rw[sameC_refl] at hs
  obtain⟨o,g,z,x1,x2,x3,x4,x5,x6,nm,a0,n0,cap0,a1,n1,cap1,a2,n2,cap2,rfl,-⟩:=h1
  obtain⟨o',g',z',y1,y2,y3,y4,y5,y6,nm',b0,m0,dap0,b1,m1,dap1,b2,m2,dap2,rfl,-⟩:=h2
  have hA:=Blk.new w #[.int .i64 o,.int .i64 g,.bool z,.slice x1 x2 x3,.slice x4 x5 x6,.string nm,.slice a0 n0 cap0,.bool d.strict,.slice a1 n1 cap1,.slice a2 n2 cap2] 31
  have hB:=Blk.new (w.alloc (.cells #[.int .i64 o,.int .i64 g,.bool z,.slice x1 x2 x3,.slice x4 x5 x6,.string nm,.slice a0 n0 cap0,.bool d.strict,.slice a1 n1 cap1,.slice a2 n2 cap2] 31)) #[.int .i64 o',.int .i64 g',.bool z',.slice y1 y2 y3,.slice y4 y5 y6,.string nm',.slice b0 m0 dap0,.bool d.strict,.slice b1 m1 dap1,.slice b2 m2 dap2] 31
  rw[show(w.alloc (.cells #[.int .i64 o,.int .i64 g,.bool z,.slice x1 x2 x3,.slice x4 x5 x6,.string nm,.slice a0 n0 cap0,.bool d.strict,.slice a1 n1 cap1,.slice a2 n2 cap2] 31)).heap.size=w.heap.size+1 from Array.size_push _] at hB
  have hk1:Kept w (w.alloc (.cells #[.int .i64 o,.int .i64 g,.bool z,.slice x1 x2 x3,.slice x4 x5 x6,.string nm,.slice a0 n0 cap0,.bool d.strict,.slice a1 n1 cap1,.slice a2 n2 cap2] 31)):=(Kept.refl w).alloc _
  have hk2:Kept (w.alloc (.cells #[.int .i64 o,.int .i64 g,.bool z,.slice x1 x2 x3,.slice x4 x5 x6,.string nm,.slice a0 n0 cap0,.bool d.strict,.slice a1 n1 cap1,.slice a2 n2 cap2] 31)) ((w.alloc (.cells #[.int .i64 o,.int .i64 g,.bool z,.slice x1 x2 x3,.slice x4 x5 x6,.string nm,.slice a0 n0 cap0,.bool d.strict,.slice a1 n1 cap1,.slice a2 n2 cap2] 31)).alloc (.cells #[.int .i64 o',.int .i64 g',.bool z',.slice y1 y2 y3,.slice y4 y5 y6,.string nm',.slice b0 m0 dap0,.bool d.strict,.slice b1 m1 dap1,.slice b2 m2 dap2] 31)):=(Kept.refl _).alloc _
  replace hA:=hA.kept hk2
  have hk:=hk1.trans hk2
  obtain⟨e0,e1,e2,e3,e4,e5,e6,e7,e8,e9,-⟩:=hA.facts10
  obtain⟨d0,d1,d2,d3,d4,d5,d6,d7,d8,d9,-⟩:=hB.facts10
  subst hx
  clear h hz hk1 hk2
  go_enter Tryz.func13,Tryz.ntmps13
  go_wp2_with(first|(go_at_call 18;refine(hs _ hk).mono ?_;rintro e w2 ⟨rfl,hk3⟩))
  go_ret
  exact⟨rfl,hk.trans hk3⟩
 ·obtain⟨rfl,rfl⟩:=hz hx
  have hn:=fun(w':World)=>nothing_calls w'
  have t1:(x != 0)=true:=by simpa using hx
  have hk:Kept w ((w.alloc (.cells #[.int .i64 0,.int .i64 0,.bool false,.slice none 0 0,.slice none 0 0,.string ⟨#[]⟩,.slice none 0 0,.bool false,.slice none 0 0,.slice none 0 0] 31)).alloc (.cells #[.int .i64 0,.int .i64 0,.bool false,.slice none 0 0,.slice none 0 0,.string ⟨#[]⟩,.slice none 0 0,.bool false,.slice none 0 0,.slice none 0 0] 31)):=((Kept.refl w).alloc _).alloc _
  have hA:=(Blk.new w #[.int .i64 0,.int .i64 0,.bool false,.slice none 0 0,.slice none 0 0,.string ⟨#[]⟩,.slice none 0 0,.bool false,.slice none 0 0,.slice none 0 0] 31).kept ((Kept.refl _).alloc (.cells #[.int .i64 0,.int .i64 0,.bool false,.slice none 0 0,.slice none 0 0,.string ⟨#[]⟩,.slice none 0 0,.bool false,.slice none 0 0,.slice none 0 0] 31))
  obtain⟨e0,e1,e2,e3,e4,e5,e6,e7,e8,e9,-⟩:=hA.facts10
  clear h hz hA
  unfold zeroC
  go_enter Tryz.func13,Tryz.ntmps13
  go_wp2_with(first|(go_at_call 45;refine(hn _).mono ?_;rintro e w2 ⟨rfl,hk3⟩))
  go_ret
  exact⟨rfl,hk.trans hk3⟩
end Go.Proofs.YtbapfnpbamnmpaaGreatDoor
end
