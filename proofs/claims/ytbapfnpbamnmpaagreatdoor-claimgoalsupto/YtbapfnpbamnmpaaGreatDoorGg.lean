/- A part of the proof that ClaimGoals answers true for every input of bulk at most 1048576: conditions: the row's own. -/
import Derived.Test.YtbapfnpbamnmpaaGreatDoorGf
section
namespace Go.Proofs.YtbapfnpbamnmpaaGreatDoor
open Go Go.RowKit Go.Dig Go.Deep
open Go.Eng (Kept KW KeptB wp_region_kw kw_call)
def asX(c:ClaimD)(t:Tree):Int:=if fitC c t≠0 then fitC c t else if 12≤c.conds.length then 4 else 0
set_option maxHeartbeats 8000000 in
set_option maxRecDepth 100000 in
theorem rassume_calls{f:Nat}{w:World}{v u:Value}{c:ClaimD}{t:Tree}{S:Nat→Bool}(h:Clm (onlyW w S) f v c)(he:Ex (onlyW w S) f u t)(hT:Laid w)(st:Bool):
 Calls Tryz.prog 24 #[v,u,.bool st] w (RetC (asX c t) ⟨c.goal,c.strict,c.box,c.conds++[⟨t,st⟩]⟩ f S w):=by
 have HM:Hid (∀W',Kept w W'→Sub (onlyW w S) (onlyW W' (fun b=>S b||decide (w.heap.size≤b)))):=Lib.hid fun W' k=>only_move fun b hlt hs=>⟨by simp[hs],k.old b hlt⟩
 have hf:=fun(w':World)(k:Kept w w')=>rfits_calls ((h.sub (only_sub _ _)).kept k) (Ex.kept k _ (he.sub (only_sub _ _))) (hT.kept k)
 clear hT
 obtain⟨o,g,z,x1,x2,x3,x4,x5,x6,nm,a0,n0,cap0,a1,n1,cap1,a2,n2,cap2,rfl,hg,hb,hc⟩:=h
 obtain⟨o',g',z',y1,y2,y3,y4,y5,y6,nm',a',n',cap',rfl⟩:=he.agg7
 generalize hcst:c.strict=cst at*
 have HCST:=Lib.hid hcst;clear hcst
 have HG:=Lib.hid hg;clear hg
 have HB:=Lib.hid hb;clear hb
 have HC:=Lib.hid hc;clear hc
 have HE:=Lib.hid he;clear he
 have hA:=Blk.new w #[.int .i64 o,.int .i64 g,.bool z,.slice x1 x2 x3,.slice x4 x5 x6,.string nm,.slice a0 n0 cap0,.bool cst,.slice a1 n1 cap1,.slice a2 n2 cap2] 31
 have hB:=Blk.new (w.alloc (.cells #[.int .i64 o,.int .i64 g,.bool z,.slice x1 x2 x3,.slice x4 x5 x6,.string nm,.slice a0 n0 cap0,.bool cst,.slice a1 n1 cap1,.slice a2 n2 cap2] 31)) #[.int .i64 o',.int .i64 g',.bool z',.slice y1 y2 y3,.slice y4 y5 y6,.string nm',.slice a' n' cap'] 27
 have hD:=Blk.new ((w.alloc (.cells #[.int .i64 o,.int .i64 g,.bool z,.slice x1 x2 x3,.slice x4 x5 x6,.string nm,.slice a0 n0 cap0,.bool cst,.slice a1 n1 cap1,.slice a2 n2 cap2] 31)).alloc (.cells #[.int .i64 o',.int .i64 g',.bool z',.slice y1 y2 y3,.slice y4 y5 y6,.string nm',.slice a' n' cap'] 27)) #[.int .i64 0,.int .i64 0,.bool false,.slice none 0 0,.slice none 0 0,.string ⟨#[]⟩,.slice none 0 0,.bool false,.slice none 0 0,.slice none 0 0] 31
 rw[show(w.alloc (.cells #[.int .i64 o,.int .i64 g,.bool z,.slice x1 x2 x3,.slice x4 x5 x6,.string nm,.slice a0 n0 cap0,.bool cst,.slice a1 n1 cap1,.slice a2 n2 cap2] 31)).heap.size=w.heap.size+1 from Array.size_push _] at hB
 rw[show((w.alloc (.cells #[.int .i64 o,.int .i64 g,.bool z,.slice x1 x2 x3,.slice x4 x5 x6,.string nm,.slice a0 n0 cap0,.bool cst,.slice a1 n1 cap1,.slice a2 n2 cap2] 31)).alloc (.cells #[.int .i64 o',.int .i64 g',.bool z',.slice y1 y2 y3,.slice y4 y5 y6,.string nm',.slice a' n' cap'] 27)).heap.size=w.heap.size+2 by simp[go_sem]] at hD
 have hk1:Kept w (w.alloc (.cells #[.int .i64 o,.int .i64 g,.bool z,.slice x1 x2 x3,.slice x4 x5 x6,.string nm,.slice a0 n0 cap0,.bool cst,.slice a1 n1 cap1,.slice a2 n2 cap2] 31)):=(Kept.refl w).alloc _
 have hk2:Kept (w.alloc (.cells #[.int .i64 o,.int .i64 g,.bool z,.slice x1 x2 x3,.slice x4 x5 x6,.string nm,.slice a0 n0 cap0,.bool cst,.slice a1 n1 cap1,.slice a2 n2 cap2] 31)) ((w.alloc (.cells #[.int .i64 o,.int .i64 g,.bool z,.slice x1 x2 x3,.slice x4 x5 x6,.string nm,.slice a0 n0 cap0,.bool cst,.slice a1 n1 cap1,.slice a2 n2 cap2] 31)).alloc (.cells #[.int .i64 o',.int .i64 g',.bool z',.slice y1 y2 y3,.slice y4 y5 y6,.string nm',.slice a' n' cap'] 27)):=(Kept.refl _).alloc _
 have hk3:Kept ((w.alloc (.cells #[.int .i64 o,.int .i64 g,.bool z,.slice x1 x2 x3,.slice x4 x5 x6,.string nm,.slice a0 n0 cap0,.bool cst,.slice a1 n1 cap1,.slice a2 n2 cap2] 31)).alloc (.cells #[.int .i64 o',.int .i64 g',.bool z',.slice y1 y2 y3,.slice y4 y5 y6,.string nm',.slice a' n' cap'] 27)) (((w.alloc (.cells #[.int .i64 o,.int .i64 g,.bool z,.slice x1 x2 x3,.slice x4 x5 x6,.string nm,.slice a0 n0 cap0,.bool cst,.slice a1 n1 cap1,.slice a2 n2 cap2] 31)).alloc (.cells #[.int .i64 o',.int .i64 g',.bool z',.slice y1 y2 y3,.slice y4 y5 y6,.string nm',.slice a' n' cap'] 27)).alloc (.cells #[.int .i64 0,.int .i64 0,.bool false,.slice none 0 0,.slice none 0 0,.string ⟨#[]⟩,.slice none 0 0,.bool false,.slice none 0 0,.slice none 0 0] 31)):=(Kept.refl _).alloc _
 replace hA:=(hA.kept hk2).kept hk3
 replace hB:=hB.kept hk3
 have hk:=(hk1.trans hk2).trans hk3
 clear hk1 hk2 hk3
 generalize hw1:(((w.alloc (.cells #[.int .i64 o,.int .i64 g,.bool z,.slice x1 x2 x3,.slice x4 x5 x6,.string nm,.slice a0 n0 cap0,.bool cst,.slice a1 n1 cap1,.slice a2 n2 cap2] 31)).alloc (.cells #[.int .i64 o',.int .i64 g',.bool z',.slice y1 y2 y3,.slice y4 y5 y6,.string nm',.slice a' n' cap'] 27)).alloc (.cells #[.int .i64 0,.int .i64 0,.bool false,.slice none 0 0,.slice none 0 0,.string ⟨#[]⟩,.slice none 0 0,.bool false,.slice none 0 0,.slice none 0 0] 31))=w1 at*
 subst hw1
 obtain⟨e0,e1,e2,e3,e4,e5,e6,e7,e8,e9,-⟩:=hA.facts10
 obtain⟨d0,d1,d2,d3,d4,d5,d6,-⟩:=hB.facts7
 obtain rfl:n2=c.conds.length:=HC.out.1
 have hn2:c.conds.length<4611686018427387904:=HC.out.2.2.1
 have HAS:Hid (asX c t=if fitC c t≠0 then fitC c t else if 12≤c.conds.length then 4 else 0):=Lib.hid rfl
 unfold RetC
 generalize asX c t=ax at*
 rcases Bool.eq_false_or_eq_true (fitC c t != 0) with b1|b1
 ·have hx:fitC c t≠0:=by simpa using b1
  have HAX:=Lib.hid (show ax=fitC c t by rw[HAS.out,if_pos hx])
  have HX:=Lib.hid hx;clear hx HAS
  generalize fitC c t=x at*
  go_enter Tryz.func24,Tryz.ntmps24
  go_wp2_with(first|(go_at_call 68;refine(hf _ hk).mono ?_;rintro e w1 ⟨rfl,hk1⟩;replace hD:=hD.kept hk1;obtain⟨k0,k1,k2,k3,k4,k5,k6,k7,k8,k9,j0,j1,j2,j3,j4,j5,j6,j7,j8,j9⟩:=hD.facts10))
  have hend:=KeptB.st10 w1 (w.heap.size+2) (.int .i64 0) (.int .i64 0) (.bool false) (.slice none 0 0) (.slice none 0 0) (.string ⟨#[]⟩) (.slice none 0 0) (.bool false) (.slice none 0 0) (.slice none 0 0)
  refine bodyPost_ret (v:=.tuple #[.agg #[.int .i64 0,.int .i64 0,.bool false,.slice none 0 0,.slice none 0 0,.string ⟨#[]⟩,.slice none 0 0,.bool false,.slice none 0 0,.slice none 0 0],.int .i64 x]) (by simp[results,Tryz.results24,go_sem,k0,k1,k2,k3,k4,k5,k6,k7,k8,k9]) rfl ⟨_,by rw[HAX.out],fun h0=>absurd (HAX.out.symm.trans h0) HX.out,fun _=>rfl,(hk.trans hk1).but hend (by omega)⟩
 have hx:fitC c t=0:=by simpa using b1
 have HX:=Lib.hid hx;clear hx
 by_cases h12:12≤c.conds.length
 ·have HAX:=Lib.hid (show ax=4 by rw[HAS.out,if_neg (by rw[HX.out];simp),if_pos h12])
  have t1:decide (12≤(c.conds.length:Int))=true:=by simp;omega
  clear HAS
  generalize fitC c t=x at*
  go_enter Tryz.func24,Tryz.ntmps24
  go_wp2_with(first|(go_at_call 68;refine(hf _ hk).mono ?_;rintro e w1 ⟨rfl,hk1⟩;replace hA:=hA.kept hk1;replace hD:=hD.kept hk1;clear e0 e1 e2 e3 e4 e5 e6 e7 e8 e9 d0 d1 d2 d3 d4 d5 d6;obtain⟨e0,e1,e2,e3,e4,e5,e6,e7,e8,e9,-⟩:=hA.facts10;obtain⟨k0,k1,k2,k3,k4,k5,k6,k7,k8,k9,j0,j1,j2,j3,j4,j5,j6,j7,j8,j9⟩:=hD.facts10))
  have hend:=KeptB.st10 w1 (w.heap.size+2) (.int .i64 0) (.int .i64 0) (.bool false) (.slice none 0 0) (.slice none 0 0) (.string ⟨#[]⟩) (.slice none 0 0) (.bool false) (.slice none 0 0) (.slice none 0 0)
  refine bodyPost_ret (v:=.tuple #[.agg #[.int .i64 0,.int .i64 0,.bool false,.slice none 0 0,.slice none 0 0,.string ⟨#[]⟩,.slice none 0 0,.bool false,.slice none 0 0,.slice none 0 0],.int .i64 4]) (by simp[results,Tryz.results24,go_sem,k0,k1,k2,k3,k4,k5,k6,k7,k8,k9]) rfl ⟨_,by rw[HAX.out],fun h0=>absurd (HAX.out.symm.trans h0) (by decide),fun _=>rfl,(hk.trans hk1).but hend (by omega)⟩
 have HAX:=Lib.hid (show ax=0 by rw[HAS.out,if_neg (by rw[HX.out];simp),if_neg h12])
 have t1:decide (12≤(c.conds.length:Int))=false:=by simp;omega
 have H12:Hid (c.conds.length≤12):=Lib.hid (by omega)
 clear HAS h12
 generalize fitC c t=x at*
 have hmo:=fun(w':World)(k:Kept w w')=>more_calls (V:=onlyW w S) ((only_sub w S).trans (Kept.sub k)) HC.out HE.out st H12.out
 generalize hn2E:c.conds.length=n2 at*
 have HN2:=Lib.hid hn2E;clear hn2E
 go_enter Tryz.func24,Tryz.ntmps24
 go_wp2_with(first|(go_at_call 68;refine(hf _ hk).mono ?_;rintro e w1 ⟨rfl,hk1⟩;replace hA:=hA.kept hk1;replace hB:=hB.kept hk1;replace hD:=hD.kept hk1;clear e0 e1 e2 e3 e4 e5 e6 e7 e8 e9 d0 d1 d2 d3 d4 d5 d6;obtain⟨e0,e1,e2,e3,e4,e5,e6,e7,e8,e9,-⟩:=hA.facts10;obtain⟨d0,d1,d2,d3,d4,d5,d6,-⟩:=hB.facts7))
 have HALL:Hid (∀w',KeptB w1 w' (w.heap.size+2)→w'.cell? ⟨w.heap.size,0,none⟩=some (.int .i64 o)∧w'.cell? ⟨w.heap.size,1,none⟩=some (.int .i64 g)∧w'.cell? ⟨w.heap.size,2,none⟩=some (.bool z)∧w'.cell? ⟨w.heap.size,3,none⟩=some (.slice x1 x2 x3)∧w'.cell? ⟨w.heap.size,4,none⟩=some (.slice x4 x5 x6)∧w'.cell? ⟨w.heap.size,5,none⟩=some (.string nm)∧w'.cell? ⟨w.heap.size,6,none⟩=some (.slice a0 n0 cap0)∧w'.cell? ⟨w.heap.size,7,none⟩=some (.bool cst)∧w'.cell? ⟨w.heap.size,8,none⟩=some (.slice a1 n1 cap1)∧w'.cell? ⟨w.heap.size,9,none⟩=some (.slice a2 n2 cap2)∧w'.cell? ⟨w.heap.size+1,0,none⟩=some (.int .i64 o')∧w'.cell? ⟨w.heap.size+1,1,none⟩=some (.int .i64 g')∧w'.cell? ⟨w.heap.size+1,2,none⟩=some (.bool z')∧w'.cell? ⟨w.heap.size+1,3,none⟩=some (.slice y1 y2 y3)∧w'.cell? ⟨w.heap.size+1,4,none⟩=some (.slice y4 y5 y6)∧w'.cell? ⟨w.heap.size+1,5,none⟩=some (.string nm')∧w'.cell? ⟨w.heap.size+1,6,none⟩=some (.slice a' n' cap')):=Lib.hid fun w' k=>⟨k.cell e0 (by show w.heap.size≠w.heap.size+2;omega),k.cell e1 (by show w.heap.size≠w.heap.size+2;omega),k.cell e2 (by show w.heap.size≠w.heap.size+2;omega),k.cell e3 (by show w.heap.size≠w.heap.size+2;omega),k.cell e4 (by show w.heap.size≠w.heap.size+2;omega),k.cell e5 (by show w.heap.size≠w.heap.size+2;omega),k.cell e6 (by show w.heap.size≠w.heap.size+2;omega),k.cell e7 (by show w.heap.size≠w.heap.size+2;omega),k.cell e8 (by show w.heap.size≠w.heap.size+2;omega),k.cell e9 (by show w.heap.size≠w.heap.size+2;omega),k.cell d0 (by show w.heap.size+1≠w.heap.size+2;omega),k.cell d1 (by show w.heap.size+1≠w.heap.size+2;omega),k.cell d2 (by show w.heap.size+1≠w.heap.size+2;omega),k.cell d3 (by show w.heap.size+1≠w.heap.size+2;omega),k.cell d4 (by show w.heap.size+1≠w.heap.size+2;omega),k.cell d5 (by show w.heap.size+1≠w.heap.size+2;omega),k.cell d6 (by show w.heap.size+1≠w.heap.size+2;omega)⟩
 have HD:=Lib.hid hD;clear hD
 have HH:=Lib.hid (And.intro hk hk1)
 clear e0 e1 e2 e3 e4 e5 e6 e7 e8 e9 d0 d1 d2 d3 d4 d5 d6 hA hB hf
 refine wp_region_held_drew (S:=fun w'=>w'.cell? ⟨w.heap.size,0,none⟩=some (.int .i64 o)∧w'.cell? ⟨w.heap.size,1,none⟩=some (.int .i64 g)∧w'.cell? ⟨w.heap.size,2,none⟩=some (.bool z)∧w'.cell? ⟨w.heap.size,3,none⟩=some (.slice x1 x2 x3)∧w'.cell? ⟨w.heap.size,4,none⟩=some (.slice x4 x5 x6)∧w'.cell? ⟨w.heap.size,5,none⟩=some (.string nm)∧w'.cell? ⟨w.heap.size,6,none⟩=some (.slice a0 n0 cap0)∧w'.cell? ⟨w.heap.size,7,none⟩=some (.bool cst)∧w'.cell? ⟨w.heap.size,8,none⟩=some (.slice a1 n1 cap1)∧w'.cell? ⟨w.heap.size,9,none⟩=some (.slice a2 n2 cap2)∧w'.cell? ⟨w.heap.size+1,0,none⟩=some (.int .i64 o')∧w'.cell? ⟨w.heap.size+1,1,none⟩=some (.int .i64 g')∧w'.cell? ⟨w.heap.size+1,2,none⟩=some (.bool z')∧w'.cell? ⟨w.heap.size+1,3,none⟩=some (.slice y1 y2 y3)∧w'.cell? ⟨w.heap.size+1,4,none⟩=some (.slice y4 y5 y6)∧w'.cell? ⟨w.heap.size+1,5,none⟩=some (.string nm')∧w'.cell? ⟨w.heap.size+1,6,none⟩=some (.slice a' n' cap')) (by kernel_rfl) (HALL.out _ (Kept.toB (Kept.refl w1).drew _)) (fun hHeld=> ?_)
 refine wpAnyH_take (i:=0) (oi:=_) (v:= ?_) rfl (by kernel_rfl) (by kernel_rfl) (by kernel_rfl) (fun _ _ _ h=>h) (Or.inl ⟨by rfl,?_⟩) (by assumption) ?_
 rotate_left
 ·intro w hSw;(try dsimp only at hSw);go_simp;first|done|with_reducible rfl
 try simp only[Act.put,List.setIfInBounds_toArray]
 refine wpAnyH_take (i:=1) (oi:=_) (v:= ?_) rfl (by kernel_rfl) (by kernel_rfl) (by kernel_rfl) (fun _ _ _ h=>h) (Or.inl ⟨by rfl,?_⟩) (by assumption) ?_
 rotate_left
 ·intro w hSw;(try dsimp only at hSw);go_simp;first|done|with_reducible rfl
 try simp only[Act.put]
 refine wpAnyH_take (i:=2) (oi:=_) (v:= ?_) rfl (by kernel_rfl) (by kernel_rfl) (by kernel_rfl) (fun _ _ _ h=>h) (Or.inl ⟨by rfl,?_⟩) (by assumption) ?_
 rotate_left
 ·intro w hSw;(try dsimp only at hSw);go_simp;first|done|with_reducible rfl
 try simp only[Act.put]
 refine wpAnyH_take (i:=3) (oi:=_) (v:= ?_) rfl (by kernel_rfl) (by kernel_rfl) (by kernel_rfl) (fun _ _ _ h=>h) (Or.inl ⟨by rfl,?_⟩) (by assumption) ?_
 rotate_left
 ·intro w hSw;(try dsimp only at hSw);go_simp;first|done|with_reducible rfl
 try simp only[Act.put]
 refine wpAnyH_take (i:=4) (oi:=_) (v:= ?_) rfl (by kernel_rfl) (by kernel_rfl) (by kernel_rfl) (fun _ _ _ h=>h) (Or.inl ⟨by rfl,?_⟩) (by assumption) ?_
 rotate_left
 ·intro w hSw;(try dsimp only at hSw);go_simp;first|done|with_reducible rfl
 try simp only[Act.put]
 refine wpAnyH_take (i:=5) (oi:=_) (v:= ?_) rfl (by kernel_rfl) (by kernel_rfl) (by kernel_rfl) (fun _ _ _ h=>h) (Or.inl ⟨by rfl,?_⟩) (by assumption) ?_
 rotate_left
 ·intro w hSw;(try dsimp only at hSw);go_simp;first|done|with_reducible rfl
 try simp only[Act.put]
 refine wpAnyH_take (i:=6) (oi:=_) (v:= ?_) rfl (by kernel_rfl) (by kernel_rfl) (by kernel_rfl) (fun _ _ _ h=>h) (Or.inl ⟨by rfl,?_⟩) (by assumption) ?_
 rotate_left
 ·intro w hSw;(try dsimp only at hSw);go_simp;first|done|with_reducible rfl
 try simp only[Act.put]
 refine wpAnyH_take (i:=7) (oi:=_) (v:= ?_) rfl (by kernel_rfl) (by kernel_rfl) (by kernel_rfl) (fun _ _ _ h=>h) (Or.inl ⟨by rfl,?_⟩) (by assumption) ?_
 rotate_left
 ·intro w hSw;(try dsimp only at hSw);go_simp;first|done|with_reducible rfl
 try simp only[Act.put]
 refine wpAnyH_take (i:=8) (oi:=_) (v:= ?_) rfl (by kernel_rfl) (by kernel_rfl) (by kernel_rfl) (fun _ _ _ h=>h) (Or.inl ⟨by rfl,?_⟩) (by assumption) ?_
 rotate_left
 ·intro w hSw;(try dsimp only at hSw);go_simp;first|done|with_reducible rfl
 try simp only[Act.put]
 refine wpAnyH_take (i:=9) (oi:=_) (v:= ?_) rfl (by kernel_rfl) (by kernel_rfl) (by kernel_rfl) (fun _ _ _ h=>h) (Or.inl ⟨by rfl,?_⟩) (by assumption) ?_
 rotate_left
 ·intro w hSw;(try dsimp only at hSw);go_simp;first|done|with_reducible rfl
 try simp only[Act.put]
 refine wpAnyH_ready (rs:=[10]) (by kernel_rfl) (by simp) (AllReadyH.cons (o:=_) rfl (fun K hK=> ?_) AllReadyH.nil)
 go_simp
 go_at_call 70
 refine(hmo _ ((HH.out.1.trans HH.out.2).trans (Kept.refl w1).drew)).mono ?_
 rintro e w2 ⟨a6,cap6,cs6,rfl,⟨base6,hb6,ho6⟩,hr6,hk2⟩
 have HO6:=Lib.hid (And.intro hb6 ho6)
 have HR6:=Lib.hid hr6
 clear hb6 ho6 hr6
 have hS2:Kept w1 w2:=(Kept.refl w1).drew.trans hk2
 refine hK.out _ _ (HALL.out _ (Kept.toB hS2 _)) (fun hHeld=> ?_)
 clear hK K
 try simp only[List.setIfInBounds_toArray,List.set_cons_zero,List.set_cons_succ]
 refine wpAnyH_take (i:=11) (oi:=_) (v:= ?_) rfl (by kernel_rfl) (by kernel_rfl) (by kernel_rfl) (fun _ _ _ h=>h) (Or.inl ⟨by rfl,?_⟩) (by assumption) ?_
 rotate_left
 ·intro w hSw;(try dsimp only at hSw);go_simp;first|done|with_reducible rfl
 try simp only[Act.put]
 refine wpAnyH_ready (rs:=[12]) (by kernel_rfl) (by simp) (AllReadyH.cons (o:=_) rfl (fun K hK=> ?_) AllReadyH.nil)
 obtain⟨k0,k1,k2,k3,k4,k5,k6,k7,k8,k9,j0,j1,j2,j3,j4,j5,j6,j7,j8,j9⟩:=(HD.out.kept hS2).facts10
 go_simp
 have hend:KeptB w2 ((((((((((w2.setCell ⟨w.heap.size+2,0,none⟩ (.int .i64 o)).setCell ⟨w.heap.size+2,1,none⟩ (.int .i64 g)).setCell ⟨w.heap.size+2,2,none⟩ (.bool z)).setCell ⟨w.heap.size+2,3,none⟩ (.slice x1 x2 x3)).setCell ⟨w.heap.size+2,4,none⟩ (.slice x4 x5 x6)).setCell ⟨w.heap.size+2,5,none⟩ (.string nm)).setCell ⟨w.heap.size+2,6,none⟩ (.slice a0 n0 cap0)).setCell ⟨w.heap.size+2,7,none⟩ (.bool cst)).setCell ⟨w.heap.size+2,8,none⟩ (.slice a1 n1 cap1)).setCell ⟨w.heap.size+2,9,none⟩ (.slice a6 (n2+1) cap6)) (w.heap.size+2):=KeptB.st10 ..
 refine hK.out _ _ (HALL.out _ (KeptB.thenB (Kept.toB hS2 _) hend)) (fun hHeld=> ?_)
 clear hK K
 try simp only[List.setIfInBounds_toArray,List.set_cons_zero,List.set_cons_succ]
 refine wpAnyH_ready (rs:=[13]) (by kernel_rfl) (by simp) (AllReadyH.cons (o:=_) rfl (fun K hK=> ?_) AllReadyH.nil)
 go_simp
 refine hK.out _ _ (HALL.out _ (KeptB.thenB (Kept.toB hS2 _) hend)) (fun hHeld=> ?_)
 clear hK K
 try simp only[List.setIfInBounds_toArray,List.set_cons_zero,List.set_cons_succ]
 refine wpAnyH_done (by kernel_rfl) ?_ _
 go_wp2
 have hkz:=((HH.out.1.trans HH.out.2).trans hS2).but hend (by omega)
 refine bodyPost_ret (v:=.tuple #[.agg #[.int .i64 o,.int .i64 g,.bool z,.slice x1 x2 x3,.slice x4 x5 x6,.string nm,.slice a0 n0 cap0,.bool cst,.slice a1 n1 cap1,.slice a6 (n2+1) cap6],.int .i64 0]) (by simp[results,Tryz.results24,go_sem,k0,k1,k2,k3,k4,k5,k6,k7,k8,k9]) rfl ⟨_,by rw[HAX.out],fun _=> ?_,fun h=>absurd HAX.out h,hkz⟩
 refine⟨o,g,z,x1,x2,x3,x4,x5,x6,nm,a0,n0,cap0,a1,n1,cap1,a6,n2+1,cap6,by cases HCST.out;rfl,HG.out.sub (HM.out _ hkz),HB.out.sub (HM.out _ hkz),?_⟩
 have hlt3:=HD.out.lt
 have hb6:w1.heap.size≤base6:=HO6.out.1
 obtain⟨a',cap',e1,hcap,-,hcell⟩:=own_open HO6.out.2
 cases e1
 have hlen:(c.conds++[(⟨t,st⟩:CondD)]).length=n2+1:=by rw[List.length_append,HN2.out];rfl
 have hm:=Cnm.mk (w:=onlyW ((((((((((w2.setCell ⟨w.heap.size+2,0,none⟩ (.int .i64 o)).setCell ⟨w.heap.size+2,1,none⟩ (.int .i64 g)).setCell ⟨w.heap.size+2,2,none⟩ (.bool z)).setCell ⟨w.heap.size+2,3,none⟩ (.slice x1 x2 x3)).setCell ⟨w.heap.size+2,4,none⟩ (.slice x4 x5 x6)).setCell ⟨w.heap.size+2,5,none⟩ (.string nm)).setCell ⟨w.heap.size+2,6,none⟩ (.slice a0 n0 cap0)).setCell ⟨w.heap.size+2,7,none⟩ (.bool cst)).setCell ⟨w.heap.size+2,8,none⟩ (.slice a1 n1 cap1)).setCell ⟨w.heap.size+2,9,none⟩ (.slice a6 (n2+1) cap6)) (fun b=>S b||decide (w.heap.size≤b))) (f:=f) (a:=a6) (cap:=cap6) (l:=c.conds++[⟨t,st⟩]) (by rw[hlen];exact hcap) (by rw[hlen];have:=H12.out;omega) (fun i hi=>by
  obtain⟨b,hb,ha,hc⟩:=hcell i hi
  refine⟨b,ha,?_⟩
  rw[List.getElem?_eq_getElem hi] at hc⊢
  rw[cell_only,if_pos (by simp only[Bool.or_eq_true,decide_eq_true_eq];exact .inr (by omega))]
  exact hend.cell hc (by show b≠w.heap.size+2;omega)) (HR6.out.mono (condR_sub f _ _ (HM.out _ hkz)))
 rwa [hlen] at hm
end Go.Proofs.YtbapfnpbamnmpaaGreatDoor
end
section
namespace Go.Proofs.YtbapfnpbamnmpaaGreatDoor
open Go Go.RowKit Go.Dig Go.Deep
open Go.Eng (Kept KW KeptB wp_region_kw kw_call)
set_option maxHeartbeats 16000000 in
set_option maxRecDepth 100000 in
theorem cassume_calls{f:Nat}{w:World}{v u:Value}{c:ClaimD}{t:Tree}{S:Nat→Bool}(h:Clm (onlyW w S) f v c)(he:Ex (onlyW w S) f u t)(hT:Laid w)(st:Bool):
 Calls Tryz.prog 23 #[v,u,.bool st] w (RetC (asX c t) ⟨c.goal,c.strict,c.box,c.conds++[⟨t,st⟩]⟩ f S w):=by
 have hf:=fun(w':World)(k:Kept w w')=>cfits_calls ((h.sub (only_sub _ _)).kept k) (Ex.kept k _ (he.sub (only_sub _ _))) (hT.kept k)
 have ho:=fun(hc:c.ok=true)(w':World)(k:Kept w w')=>own_calls ((h.sub (only_sub _ _)).kept k) hc
 have hoe:=fun(ht:t.ok=true)(w':World)(k:Kept w w')=>ownExpr_calls f (Ex.kept k _ (he.sub (only_sub _ _))) (well_of_ok ht)
 clear hT
 obtain⟨o,g,z,x1,x2,x3,x4,x5,x6,nm,a0,n0,cap0,a1,n1,cap1,a2,n2,cap2,rfl,hg,hb,hc⟩:=h
 obtain⟨o',g',z',y1,y2,y3,y4,y5,y6,nm',a',n',cap',rfl⟩:=he.agg7
 generalize hcst:c.strict=cst at*
 have HCST:=Lib.hid hcst;clear hcst
 have HG:=Lib.hid hg;clear hg
 have HB:=Lib.hid hb;clear hb
 have HC:=Lib.hid hc;clear hc
 have HE:=Lib.hid he;clear he
 have hA:=Blk.new w #[.int .i64 o,.int .i64 g,.bool z,.slice x1 x2 x3,.slice x4 x5 x6,.string nm,.slice a0 n0 cap0,.bool cst,.slice a1 n1 cap1,.slice a2 n2 cap2] 31
 have hB:=Blk.new (w.alloc (.cells #[.int .i64 o,.int .i64 g,.bool z,.slice x1 x2 x3,.slice x4 x5 x6,.string nm,.slice a0 n0 cap0,.bool cst,.slice a1 n1 cap1,.slice a2 n2 cap2] 31)) #[.int .i64 o',.int .i64 g',.bool z',.slice y1 y2 y3,.slice y4 y5 y6,.string nm',.slice a' n' cap'] 27
 have hD:=Blk.new ((w.alloc (.cells #[.int .i64 o,.int .i64 g,.bool z,.slice x1 x2 x3,.slice x4 x5 x6,.string nm,.slice a0 n0 cap0,.bool cst,.slice a1 n1 cap1,.slice a2 n2 cap2] 31)).alloc (.cells #[.int .i64 o',.int .i64 g',.bool z',.slice y1 y2 y3,.slice y4 y5 y6,.string nm',.slice a' n' cap'] 27)) #[.int .i64 0,.int .i64 0,.bool false,.slice none 0 0,.slice none 0 0,.string ⟨#[]⟩,.slice none 0 0,.bool false,.slice none 0 0,.slice none 0 0] 31
 rw[show(w.alloc (.cells #[.int .i64 o,.int .i64 g,.bool z,.slice x1 x2 x3,.slice x4 x5 x6,.string nm,.slice a0 n0 cap0,.bool cst,.slice a1 n1 cap1,.slice a2 n2 cap2] 31)).heap.size=w.heap.size+1 from Array.size_push _] at hB
 rw[show((w.alloc (.cells #[.int .i64 o,.int .i64 g,.bool z,.slice x1 x2 x3,.slice x4 x5 x6,.string nm,.slice a0 n0 cap0,.bool cst,.slice a1 n1 cap1,.slice a2 n2 cap2] 31)).alloc (.cells #[.int .i64 o',.int .i64 g',.bool z',.slice y1 y2 y3,.slice y4 y5 y6,.string nm',.slice a' n' cap'] 27)).heap.size=w.heap.size+2 by simp[go_sem]] at hD
 have hk1:Kept w (w.alloc (.cells #[.int .i64 o,.int .i64 g,.bool z,.slice x1 x2 x3,.slice x4 x5 x6,.string nm,.slice a0 n0 cap0,.bool cst,.slice a1 n1 cap1,.slice a2 n2 cap2] 31)):=(Kept.refl w).alloc _
 have hk2:Kept (w.alloc (.cells #[.int .i64 o,.int .i64 g,.bool z,.slice x1 x2 x3,.slice x4 x5 x6,.string nm,.slice a0 n0 cap0,.bool cst,.slice a1 n1 cap1,.slice a2 n2 cap2] 31)) ((w.alloc (.cells #[.int .i64 o,.int .i64 g,.bool z,.slice x1 x2 x3,.slice x4 x5 x6,.string nm,.slice a0 n0 cap0,.bool cst,.slice a1 n1 cap1,.slice a2 n2 cap2] 31)).alloc (.cells #[.int .i64 o',.int .i64 g',.bool z',.slice y1 y2 y3,.slice y4 y5 y6,.string nm',.slice a' n' cap'] 27)):=(Kept.refl _).alloc _
 have hk3:Kept ((w.alloc (.cells #[.int .i64 o,.int .i64 g,.bool z,.slice x1 x2 x3,.slice x4 x5 x6,.string nm,.slice a0 n0 cap0,.bool cst,.slice a1 n1 cap1,.slice a2 n2 cap2] 31)).alloc (.cells #[.int .i64 o',.int .i64 g',.bool z',.slice y1 y2 y3,.slice y4 y5 y6,.string nm',.slice a' n' cap'] 27)) (((w.alloc (.cells #[.int .i64 o,.int .i64 g,.bool z,.slice x1 x2 x3,.slice x4 x5 x6,.string nm,.slice a0 n0 cap0,.bool cst,.slice a1 n1 cap1,.slice a2 n2 cap2] 31)).alloc (.cells #[.int .i64 o',.int .i64 g',.bool z',.slice y1 y2 y3,.slice y4 y5 y6,.string nm',.slice a' n' cap'] 27)).alloc (.cells #[.int .i64 0,.int .i64 0,.bool false,.slice none 0 0,.slice none 0 0,.string ⟨#[]⟩,.slice none 0 0,.bool false,.slice none 0 0,.slice none 0 0] 31)):=(Kept.refl _).alloc _
 replace hA:=(hA.kept hk2).kept hk3
 replace hB:=hB.kept hk3
 have hk:=(hk1.trans hk2).trans hk3
 clear hk1 hk2 hk3
 generalize hw1:(((w.alloc (.cells #[.int .i64 o,.int .i64 g,.bool z,.slice x1 x2 x3,.slice x4 x5 x6,.string nm,.slice a0 n0 cap0,.bool cst,.slice a1 n1 cap1,.slice a2 n2 cap2] 31)).alloc (.cells #[.int .i64 o',.int .i64 g',.bool z',.slice y1 y2 y3,.slice y4 y5 y6,.string nm',.slice a' n' cap'] 27)).alloc (.cells #[.int .i64 0,.int .i64 0,.bool false,.slice none 0 0,.slice none 0 0,.string ⟨#[]⟩,.slice none 0 0,.bool false,.slice none 0 0,.slice none 0 0] 31))=w1 at*
 subst hw1
 obtain⟨e0,e1,e2,e3,e4,e5,e6,e7,e8,e9,-⟩:=hA.facts10
 obtain⟨d0,d1,d2,d3,d4,d5,d6,-⟩:=hB.facts7
 obtain rfl:n2=c.conds.length:=HC.out.1
 have hn2:c.conds.length<4611686018427387904:=HC.out.2.2.1
 have HAS:Hid (asX c t=if fitC c t≠0 then fitC c t else if 12≤c.conds.length then 4 else 0):=Lib.hid rfl
 unfold RetC
 generalize asX c t=ax at*
 rcases Bool.eq_false_or_eq_true (fitC c t != 0) with b1|b1
 ·have hx:fitC c t≠0:=by simpa using b1
  have HAX:=Lib.hid (show ax=fitC c t by rw[HAS.out,if_pos hx])
  have HX:=Lib.hid hx;clear hx HAS ho hoe
  generalize fitC c t=x at*
  go_enter Tryz.func23,Tryz.ntmps23
  go_wp2_with(first|(go_at_call 65;refine(hf _ hk).mono ?_;rintro e w1 ⟨rfl,hk1⟩;replace hD:=hD.kept hk1;obtain⟨k0,k1,k2,k3,k4,k5,k6,k7,k8,k9,j0,j1,j2,j3,j4,j5,j6,j7,j8,j9⟩:=hD.facts10))
  have hend:=KeptB.st10 w1 (w.heap.size+2) (.int .i64 0) (.int .i64 0) (.bool false) (.slice none 0 0) (.slice none 0 0) (.string ⟨#[]⟩) (.slice none 0 0) (.bool false) (.slice none 0 0) (.slice none 0 0)
  refine bodyPost_ret (v:=.tuple #[.agg #[.int .i64 0,.int .i64 0,.bool false,.slice none 0 0,.slice none 0 0,.string ⟨#[]⟩,.slice none 0 0,.bool false,.slice none 0 0,.slice none 0 0],.int .i64 x]) (by simp[results,Tryz.results23,go_sem,k0,k1,k2,k3,k4,k5,k6,k7,k8,k9]) rfl ⟨_,by rw[HAX.out],fun h0=>absurd (HAX.out.symm.trans h0) HX.out,fun _=>rfl,(hk.trans hk1).but hend (by omega)⟩
 have hx:fitC c t=0:=by simpa using b1
 obtain⟨hok,htk,-⟩:=fitC_zero hx
 have HX:=Lib.hid hx;clear hx
 replace ho:=ho hok
 replace hoe:=hoe htk
 clear hok htk
 by_cases h12:12≤c.conds.length
 ·have HAX:=Lib.hid (show ax=4 by rw[HAS.out,if_neg (by rw[HX.out];simp),if_pos h12])
  have t1:decide (12≤(c.conds.length:Int))=true:=by simp;omega
  clear HAS
  generalize fitC c t=x at*
  go_enter Tryz.func23,Tryz.ntmps23
  go_wp2_with(first|(go_at_call 65;refine(hf _ hk).mono ?_;rintro e w1 ⟨rfl,hk1⟩;replace hA:=hA.kept hk1;replace hD:=hD.kept hk1;clear e0 e1 e2 e3 e4 e5 e6 e7 e8 e9 d0 d1 d2 d3 d4 d5 d6;obtain⟨e0,e1,e2,e3,e4,e5,e6,e7,e8,e9,-⟩:=hA.facts10;obtain⟨k0,k1,k2,k3,k4,k5,k6,k7,k8,k9,j0,j1,j2,j3,j4,j5,j6,j7,j8,j9⟩:=hD.facts10))
  have hend:=KeptB.st10 w1 (w.heap.size+2) (.int .i64 0) (.int .i64 0) (.bool false) (.slice none 0 0) (.slice none 0 0) (.string ⟨#[]⟩) (.slice none 0 0) (.bool false) (.slice none 0 0) (.slice none 0 0)
  refine bodyPost_ret (v:=.tuple #[.agg #[.int .i64 0,.int .i64 0,.bool false,.slice none 0 0,.slice none 0 0,.string ⟨#[]⟩,.slice none 0 0,.bool false,.slice none 0 0,.slice none 0 0],.int .i64 4]) (by simp[results,Tryz.results23,go_sem,k0,k1,k2,k3,k4,k5,k6,k7,k8,k9]) rfl ⟨_,by rw[HAX.out],fun h0=>absurd (HAX.out.symm.trans h0) (by decide),fun _=>rfl,(hk.trans hk1).but hend (by omega)⟩
 have HAX:=Lib.hid (show ax=0 by rw[HAS.out,if_neg (by rw[HX.out];simp),if_neg h12])
 have t1:decide (12≤(c.conds.length:Int))=false:=by simp;omega
 have H12:Hid (c.conds.length≤12):=Lib.hid (by omega)
 clear HAS h12
 generalize fitC c t=x at*
 generalize hn2E:c.conds.length=n2 at*
 have HN2:=Lib.hid hn2E;clear hn2E
 go_enter Tryz.func23,Tryz.ntmps23
 go_wp2_with(first
  |(go_at_call 65;refine(hf _ hk).mono ?_;rintro e w1 ⟨rfl,hk1⟩;replace hA:=hA.kept hk1;replace hB:=hB.kept hk1;replace hD:=hD.kept hk1;clear e0 e1 e2 e3 e4 e5 e6 e7 e8 e9 d0 d1 d2 d3 d4 d5 d6;obtain⟨e0,e1,e2,e3,e4,e5,e6,e7,e8,e9,-⟩:=hA.facts10;obtain⟨d0,d1,d2,d3,d4,d5,d6,-⟩:=hB.facts7)
  |(go_at_call 66;refine(ho _ (hk.trans hk1)).mono ?_;rintro e w2 ⟨v2,rfl,hc2,hk2⟩;obtain⟨q0,q1,q2,u1,u2,u3,u4,u5,u6,um,ua,un,ucap,b1',mm1,dap1,b2,mm2,dap2,rfl,hc2g,hc2b,hc2c⟩:=hc2
    obtain rfl:n2=mm2:=(hc2c.1.trans HN2.out).symm))
 have HLT1:=Lib.hid hD.lt
 have HHK:=Lib.hid ((hk.trans hk1).trans hk2)
 have HK2:=Lib.hid hk2
 have hkP:Kept w2 (w2.alloc (.cells #[.int .i64 q0,.int .i64 q1,.bool q2,.slice u1 u2 u3,.slice u4 u5 u6,.string um,.slice ua un ucap,.bool c.strict,.slice b1' mm1 dap1,.slice b2 n2 dap2] 31)):=(Kept.refl w2).alloc _
 have HP:=Lib.hid (Blk.new w2 #[.int .i64 q0,.int .i64 q1,.bool q2,.slice u1 u2 u3,.slice u4 u5 u6,.string um,.slice ua un ucap,.bool c.strict,.slice b1' mm1 dap1,.slice b2 n2 dap2] 31)
 have HBB:=Lib.hid ((hB.kept hk2).kept hkP)
 have HD:=Lib.hid ((hD.kept hk2).kept hkP)
 have HLT2:=Lib.hid (hD.kept hk2).lt
 have HSZ3:Hid ((w2.alloc (.cells #[.int .i64 q0,.int .i64 q1,.bool q2,.slice u1 u2 u3,.slice u4 u5 u6,.string um,.slice ua un ucap,.bool c.strict,.slice b1' mm1 dap1,.slice b2 n2 dap2] 31)).heap.size=w2.heap.size+1):=Lib.hid (Array.size_push _)
 have HKP:=Lib.hid hkP
 have HS:Hid (∀w',Blk w' (w.heap.size+1) #[.int .i64 o',.int .i64 g',.bool z',.slice y1 y2 y3,.slice y4 y5 y6,.string nm',.slice a' n' cap'] 27→w'.cell? ⟨w.heap.size+1,0,none⟩=some (.int .i64 o')∧w'.cell? ⟨w.heap.size+1,1,none⟩=some (.int .i64 g')∧w'.cell? ⟨w.heap.size+1,2,none⟩=some (.bool z')∧w'.cell? ⟨w.heap.size+1,3,none⟩=some (.slice y1 y2 y3)∧w'.cell? ⟨w.heap.size+1,4,none⟩=some (.slice y4 y5 y6)∧w'.cell? ⟨w.heap.size+1,5,none⟩=some (.string nm')∧w'.cell? ⟨w.heap.size+1,6,none⟩=some (.slice a' n' cap')):=Lib.hid fun w' h=>⟨h.cell 0 rfl,h.cell 1 rfl,h.cell 2 rfl,h.cell 3 rfl,h.cell 4 rfl,h.cell 5 rfl,h.cell 6 rfl⟩
 clear e0 e1 e2 e3 e4 e5 e6 e7 e8 e9 d0 d1 d2 d3 d4 d5 d6 hA hB hD hkP ho hf hk hk1 hk2
 generalize w2.alloc (.cells #[.int .i64 q0,.int .i64 q1,.bool q2,.slice u1 u2 u3,.slice u4 u5 u6,.string um,.slice ua un ucap,.bool c.strict,.slice b1' mm1 dap1,.slice b2 n2 dap2] 31)=w3 at*
 refine wp_region_held_drew (S:=fun w'=>w'.cell? ⟨w.heap.size+1,0,none⟩=some (.int .i64 o')∧w'.cell? ⟨w.heap.size+1,1,none⟩=some (.int .i64 g')∧w'.cell? ⟨w.heap.size+1,2,none⟩=some (.bool z')∧w'.cell? ⟨w.heap.size+1,3,none⟩=some (.slice y1 y2 y3)∧w'.cell? ⟨w.heap.size+1,4,none⟩=some (.slice y4 y5 y6)∧w'.cell? ⟨w.heap.size+1,5,none⟩=some (.string nm')∧w'.cell? ⟨w.heap.size+1,6,none⟩=some (.slice a' n' cap')) (by kernel_rfl) (HS.out _ (HBB.out.kept (Kept.refl w3).drew)) (fun hHeld=> ?_)
 refine wpAnyH_take (i:=0) (oi:=_) (v:= ?_) rfl (by kernel_rfl) (by kernel_rfl) (by kernel_rfl) (fun _ _ _ h=>h) (Or.inl ⟨by rfl,?_⟩) (by assumption) ?_
 rotate_left
 ·intro w hSw;(try dsimp only at hSw);go_simp;first|done|with_reducible rfl
 try simp only[Act.put,List.setIfInBounds_toArray]
 refine wpAnyH_take (i:=2) (oi:=_) (v:= ?_) rfl (by kernel_rfl) (by kernel_rfl) (by kernel_rfl) (fun _ _ _ h=>h) (Or.inl ⟨by rfl,?_⟩) (by assumption) ?_
 rotate_left
 ·intro w hSw;(try dsimp only at hSw);go_simp;first|done|with_reducible rfl
 try simp only[Act.put]
 refine wpAnyH_take (i:=4) (oi:=_) (v:= ?_) rfl (by kernel_rfl) (by kernel_rfl) (by kernel_rfl) (fun _ _ _ h=>h) (Or.inl ⟨by rfl,?_⟩) (by assumption) ?_
 rotate_left
 ·intro w hSw;(try dsimp only at hSw);go_simp;first|done|with_reducible rfl
 try simp only[Act.put]
 refine wpAnyH_ready (rs:=[1,3]) (by kernel_rfl) (by simp) (AllReadyH.cons (o:=_) rfl (fun K hK=> ?_) (AllReadyH.cons (o:=_) rfl (fun K hK=> ?_) AllReadyH.nil))
 ·skip
  obtain⟨d0,d1,d2,d3,d4,d5,d6,d7,d8,d9,-⟩:=(HP.out.kept (Kept.refl w3).drew).facts10
  go_simp
  refine hK.out _ _ (HS.out _ (HBB.out.kept (Kept.refl w3).drew)) (fun hHeld=> ?_)
  clear hK K d0 d1 d2 d3 d4 d5 d6 d7 d8 d9
  try simp only[List.setIfInBounds_toArray,List.set_cons_zero,List.set_cons_succ]
  refine wpAnyH_ready (rs:=[3]) (by kernel_rfl) (by simp) (AllReadyH.cons (o:=_) rfl (fun K hK=> ?_) AllReadyH.nil)
  go_simp
  go_at_call 67
  refine(hoe _ ((HHK.out.trans HKP.out).trans (Kept.refl w3).drew)).mono ?_
  rintro e w4 ⟨v4,rfl,he4,hkn⟩
  obtain⟨r0,r1,r2,t1,t2,t3,t4,t5,t6,tm,ta,tn,tcap,rfl⟩:=he4.agg7
  have hk4:Kept w3 w4:=Kept.trans (Kept.refl w3).drew hkn
  have HE4:Hid (Ex (onlyW w4 (ab w3.heap.size)) f (.agg #[.int .i64 r0,.int .i64 r1,.bool r2,.slice t1 t2 t3,.slice t4 t5 t6,.string tm,.slice ta tn tcap]) t):=Lib.hid he4
  clear hkn he4
  refine hK.out _ _ (HS.out _ (HBB.out.kept hk4)) (fun hHeld=> ?_)
  clear hK K
  try simp only[List.setIfInBounds_toArray,List.set_cons_zero,List.set_cons_succ]
  refine wpAnyH_take (i:=5) (oi:=_) (v:= ?_) rfl (by kernel_rfl) (by kernel_rfl) (by kernel_rfl) (fun _ _ _ h=>h) (Or.inl ⟨by rfl,?_⟩) (by assumption) ?_
  rotate_left
  ·intro w hSw;(try dsimp only at hSw);go_simp;first|done|with_reducible rfl
  try simp only[Act.put]
  refine wpAnyH_ready (rs:=[6]) (by kernel_rfl) (by simp) (AllReadyH.cons (o:=_) rfl (fun K hK=> ?_) AllReadyH.nil)
  go_simp
  refine hK.out _ _ (HS.out _ (HBB.out.kept (hk4.alloc _))) (fun hHeld=> ?_)
  clear hK K
  try simp only[List.setIfInBounds_toArray,List.set_cons_zero,List.set_cons_succ]
  refine wpAnyH_ready (rs:=[7]) (by kernel_rfl) (by simp) (AllReadyH.cons (o:=_) rfl (fun K hK=> ?_) AllReadyH.nil)
  go_simp
  have hkc0:Kept w4 ((w4.alloc (.cells #[.int .i64 r0,.int .i64 r1,.bool r2,.slice t1 t2 t3,.slice t4 t5 t6,.string tm,.slice ta tn tcap,.bool st] 93)).alloc (.cells #[.slice b2 n2 dap2,.slice (some ⟨w4.heap.size,0,none⟩) 1 1] 29)):=((Kept.refl w4).alloc _).alloc _
  have hkc:Kept w3 ((w4.alloc (.cells #[.int .i64 r0,.int .i64 r1,.bool r2,.slice t1 t2 t3,.slice t4 t5 t6,.string tm,.slice ta tn tcap,.bool st] 93)).alloc (.cells #[.slice b2 n2 dap2,.slice (some ⟨w4.heap.size,0,none⟩) 1 1] 29)):=hk4.trans hkc0
  have HN:=Lib.hid ((Blk.new w4 #[.int .i64 r0,.int .i64 r1,.bool r2,.slice t1 t2 t3,.slice t4 t5 t6,.string tm,.slice ta tn tcap,.bool st] 93).kept ((Kept.refl (w4.alloc (.cells #[.int .i64 r0,.int .i64 r1,.bool r2,.slice t1 t2 t3,.slice t4 t5 t6,.string tm,.slice ta tn tcap,.bool st] 93))).alloc (.cells #[.slice b2 n2 dap2,.slice (some ⟨w4.heap.size,0,none⟩) 1 1] 29)))
  have HL2:Hid (Blk ((w4.alloc (.cells #[.int .i64 r0,.int .i64 r1,.bool r2,.slice t1 t2 t3,.slice t4 t5 t6,.string tm,.slice ta tn tcap,.bool st] 93)).alloc (.cells #[.slice b2 n2 dap2,.slice (some ⟨w4.heap.size,0,none⟩) 1 1] 29)) (w4.heap.size+1) #[.slice b2 n2 dap2,.slice (some ⟨w4.heap.size,0,none⟩) 1 1] 29):=Lib.hid (by have h:=Blk.new (w4.alloc (.cells #[.int .i64 r0,.int .i64 r1,.bool r2,.slice t1 t2 t3,.slice t4 t5 t6,.string tm,.slice ta tn tcap,.bool st] 93)) #[.slice b2 n2 dap2,.slice (some ⟨w4.heap.size,0,none⟩) 1 1] 29;rwa [show(w4.alloc (.cells #[.int .i64 r0,.int .i64 r1,.bool r2,.slice t1 t2 t3,.slice t4 t5 t6,.string tm,.slice ta tn tcap,.bool st] 93)).heap.size=w4.heap.size+1 from Array.size_push _] at h)
  refine hK.out _ _ (HS.out _ (HBB.out.kept hkc)) (fun hHeld=> ?_)
  clear hK K
  try simp only[List.setIfInBounds_toArray,List.set_cons_zero,List.set_cons_succ]
  generalize ((w4.alloc (.cells #[.int .i64 r0,.int .i64 r1,.bool r2,.slice t1 t2 t3,.slice t4 t5 t6,.string tm,.slice ta tn tcap,.bool st] 93)).alloc (.cells #[.slice b2 n2 dap2,.slice (some ⟨w4.heap.size,0,none⟩) 1 1] 29))=wc at*
  refine wpAnyH_ready (rs:=[8]) (by kernel_rfl) (by simp) (AllReadyH.cons (o:=_) rfl (fun K hK=> ?_) AllReadyH.nil)
  have HVL:Hid (Cnm (onlyW wc (fun b=>decide (w1.heap.size≤b)&&(b != w2.heap.size))) f b2 c.conds.length dap2 c.conds):=Lib.hid (by
   have h:=hc2c.sub (only_move (w':=wc) (S':=(fun b=>decide (w1.heap.size≤b)&&(b != w2.heap.size))) fun b hlt hs=>⟨by simp[ab] at hs⊢;omega,(HKP.out.trans hkc).old b hlt⟩)
   rwa [←HN2.out] at h)
  have HVD:Hid (Cnm (onlyW wc (fun b=>decide (w1.heap.size≤b)&&(b != w2.heap.size))) f (some ⟨w4.heap.size,0,none⟩) 1 1 [⟨t,st⟩]):=Lib.hid (by
   have h1:=HSZ3.out
   have h2:=hk4.size
   have h3:=HK2.out.size
   refine Cnm.mk (l:=[⟨t,st⟩]) (cs:=[.int .i64 r0,.int .i64 r1,.bool r2,.slice t1 t2 t3,.slice t4 t5 t6,.string tm,.slice ta tn tcap,.bool st]) (Nat.le_refl 1) (by simp) (fun i hi=>⟨w4.heap.size,rfl,?_⟩) ⟨rfl,fun i hi=> ?_⟩
   ·rw[cell_only,if_pos (by simp;omega),List.getElem?_eq_getElem hi]
    exact HN.out.cell i (by rw[←List.getElem?_eq_getElem hi];simp)
   ·obtain rfl:i=0:=by simpa using hi
    exact⟨r0,r1,r2,t1,t2,t3,t4,t5,t6,tm,ta,tn,tcap,rfl,HE4.out.sub (only_move fun b hlt hs=>⟨by simp[ab] at hs⊢;omega,hkc0.old b hlt⟩)⟩)
  have hcc:=concat_calls (w:=wc) (bl:=w4.heap.size+1) (only_sub wc (fun b=>decide (w1.heap.size≤b)&&(b != w2.heap.size))) HVL.out HVD.out (by rw[HN2.out];exact H12.out) (by rw[HN2.out];exact HL2.out.cell 0 rfl) (HL2.out.cell 1 rfl)
  rw[HN2.out] at hcc
  go_simp
  go_at_call 69
  refine hcc.mono ?_
  rintro e w6 ⟨a7,cap7,cs7,rfl,ho7,hr7,hk7⟩
  have HO7:=Lib.hid ho7
  have HR7:=Lib.hid hr7
  have HKC:=Lib.hid hkc
  clear ho7 hr7 hcc
  have hk6:=hkc.trans hk7
  refine hK.out _ _ (HS.out _ (HBB.out.kept hk6)) (fun hHeld=> ?_)
  clear hK K
  try simp only[List.setIfInBounds_toArray,List.set_cons_zero,List.set_cons_succ]
  refine wpAnyH_take (i:=9) (oi:=_) (v:= ?_) rfl (by kernel_rfl) (by kernel_rfl) (by kernel_rfl) (fun _ _ _ h=>h) (Or.inl ⟨by rfl,?_⟩) (by assumption) ?_
  rotate_left
  ·intro w hSw;(try dsimp only at hSw);go_simp;first|done|with_reducible rfl
  try simp only[Act.put]
  refine wpAnyH_ready (rs:=[10]) (by kernel_rfl) (by simp) (AllReadyH.cons (o:=_) rfl (fun K hK=> ?_) AllReadyH.nil)
  obtain⟨d0,d1,d2,d3,d4,d5,d6,d7,d8,d9,f0,f1,f2,f3,f4,f5,f6,f7,f8,f9⟩:=(HP.out.kept hk6).facts10
  go_simp
  have h8:KeptB w6 (w6.setCell ⟨w2.heap.size,9,none⟩ (.slice a7 (n2+1) cap7)) w2.heap.size:=st1 ..
  have HB8:=Lib.hid (show Blk (w6.setCell ⟨w2.heap.size,9,none⟩ (.slice a7 (n2+1) cap7)) w2.heap.size #[.int .i64 q0,.int .i64 q1,.bool q2,.slice u1 u2 u3,.slice u4 u5 u6,.string um,.slice ua un ucap,.bool c.strict,.slice b1' mm1 dap1,.slice a7 (n2+1) cap7] 31 by have h:=(HP.out.kept hk6).set 9 (.slice a7 (n2+1) cap7);simpa using h)
  have HD8:=Lib.hid ((HD.out.kept hk6).keptB h8 (by have:=HLT2.out;omega))
  refine hK.out _ _ (HS.out _ ((HBB.out.kept hk6).keptB h8 (by have:=HLT2.out;omega))) (fun hHeld=> ?_)
  clear hK K d0 d1 d2 d3 d4 d5 d6 d7 d8 d9 f0 f1 f2 f3 f4 f5 f6 f7 f8 f9
  refine wpAnyH_done (by kernel_rfl) ?_ _
  obtain⟨d0,d1,d2,d3,d4,d5,d6,d7,d8,d9,-⟩:=HB8.out.facts10
  obtain⟨k0,k1,k2,k3,k4,k5,k6,k7,k8,k9,j0,j1,j2,j3,j4,j5,j6,j7,j8,j9⟩:=HD8.out.facts10
  have hne:w2.heap.size≠w.heap.size+2:=Nat.ne_of_gt HLT2.out
  have hne2:=fun h=>hne (Eq.symm h)
  go_wp2
  have hE:KeptB (w6.setCell ⟨w2.heap.size,9,none⟩ (.slice a7 (n2+1) cap7)) (((((((((((w6.setCell ⟨w2.heap.size,9,none⟩ (.slice a7 (n2+1) cap7)).setCell ⟨w.heap.size+2,0,none⟩ (.int .i64 q0)).setCell ⟨w.heap.size+2,1,none⟩ (.int .i64 q1)).setCell ⟨w.heap.size+2,2,none⟩ (.bool q2)).setCell ⟨w.heap.size+2,3,none⟩ (.slice u1 u2 u3)).setCell ⟨w.heap.size+2,4,none⟩ (.slice u4 u5 u6)).setCell ⟨w.heap.size+2,5,none⟩ (.string um)).setCell ⟨w.heap.size+2,6,none⟩ (.slice ua un ucap)).setCell ⟨w.heap.size+2,7,none⟩ (.bool c.strict)).setCell ⟨w.heap.size+2,8,none⟩ (.slice b1' mm1 dap1)).setCell ⟨w.heap.size+2,9,none⟩ (.slice a7 (n2+1) cap7)) (w.heap.size+2):=KeptB.st10 ..
  have hlt1:w.heap.size+2<w1.heap.size:=HLT1.out
  have hsz21:=HK2.out.size
  have hsz3:=HSZ3.out
  have hsz6:=hk6.size
  have hkz:=(((HHK.out.trans HKP.out).trans hk6).but h8 (by have:=HHK.out.size;omega)).but hE (by omega)
  have hM1:Sub (onlyW w2 (ab w1.heap.size)) (onlyW (((((((((((w6.setCell ⟨w2.heap.size,9,none⟩ (.slice a7 (n2+1) cap7)).setCell ⟨w.heap.size+2,0,none⟩ (.int .i64 q0)).setCell ⟨w.heap.size+2,1,none⟩ (.int .i64 q1)).setCell ⟨w.heap.size+2,2,none⟩ (.bool q2)).setCell ⟨w.heap.size+2,3,none⟩ (.slice u1 u2 u3)).setCell ⟨w.heap.size+2,4,none⟩ (.slice u4 u5 u6)).setCell ⟨w.heap.size+2,5,none⟩ (.string um)).setCell ⟨w.heap.size+2,6,none⟩ (.slice ua un ucap)).setCell ⟨w.heap.size+2,7,none⟩ (.bool c.strict)).setCell ⟨w.heap.size+2,8,none⟩ (.slice b1' mm1 dap1)).setCell ⟨w.heap.size+2,9,none⟩ (.slice a7 (n2+1) cap7)) (fun b=>S b||decide (w.heap.size≤b))):=only_move fun b hlt hs=>⟨by
   have h1:w1.heap.size≤b:=by simpa [ab] using hs
   simp only[Bool.or_eq_true,decide_eq_true_eq];exact .inr (by omega),by
   have h1:w1.heap.size≤b:=by simpa [ab] using hs
   have h2:=(HKP.out.trans hk6).size
   exact((hE.old b (Nat.lt_of_lt_of_le hlt (Nat.le_trans h2 h8.size)) (by omega)).trans (h8.old b (Nat.lt_of_lt_of_le hlt h2) (by omega))).trans ((HKP.out.trans hk6).old b hlt)⟩
  have hM3:Sub (onlyW wc (fun b=>decide (w1.heap.size≤b)&&(b != w2.heap.size))) (onlyW (((((((((((w6.setCell ⟨w2.heap.size,9,none⟩ (.slice a7 (n2+1) cap7)).setCell ⟨w.heap.size+2,0,none⟩ (.int .i64 q0)).setCell ⟨w.heap.size+2,1,none⟩ (.int .i64 q1)).setCell ⟨w.heap.size+2,2,none⟩ (.bool q2)).setCell ⟨w.heap.size+2,3,none⟩ (.slice u1 u2 u3)).setCell ⟨w.heap.size+2,4,none⟩ (.slice u4 u5 u6)).setCell ⟨w.heap.size+2,5,none⟩ (.string um)).setCell ⟨w.heap.size+2,6,none⟩ (.slice ua un ucap)).setCell ⟨w.heap.size+2,7,none⟩ (.bool c.strict)).setCell ⟨w.heap.size+2,8,none⟩ (.slice b1' mm1 dap1)).setCell ⟨w.heap.size+2,9,none⟩ (.slice a7 (n2+1) cap7)) (fun b=>S b||decide (w.heap.size≤b))):=only_move fun b hlt hs=>⟨by
   simp only[Bool.and_eq_true,decide_eq_true_eq,bne_iff_ne] at hs
   simp only[Bool.or_eq_true,decide_eq_true_eq];exact .inr (by omega),by
   simp only[Bool.and_eq_true,decide_eq_true_eq,bne_iff_ne] at hs
   exact((hE.old b (Nat.lt_of_lt_of_le hlt (Nat.le_trans hk7.size h8.size)) (by omega)).trans (h8.old b (Nat.lt_of_lt_of_le hlt hk7.size) hs.2)).trans (hk7.old b hlt)⟩
  refine bodyPost_ret (v:=.tuple #[.agg #[.int .i64 q0,.int .i64 q1,.bool q2,.slice u1 u2 u3,.slice u4 u5 u6,.string um,.slice ua un ucap,.bool c.strict,.slice b1' mm1 dap1,.slice a7 (n2+1) cap7],.int .i64 0]) (by simp[results,Tryz.results23,go_sem,k0,k1,k2,k3,k4,k5,k6,k7,k8,k9]) rfl ⟨_,by rw[HAX.out],fun _=> ?_,fun h=>absurd HAX.out h,hkz⟩
  refine⟨q0,q1,q2,u1,u2,u3,u4,u5,u6,um,ua,un,ucap,b1',mm1,dap1,a7,n2+1,cap7,by cases HCST.out;rfl,hc2g.sub hM1,hc2b.sub hM1,?_⟩
  obtain⟨a',cap',e1,hcap,-,hcell⟩:=own_open HO7.out
  cases e1
  have hszc:=HKC.out.size
  have hlen:(c.conds++[(⟨t,st⟩:CondD)]).length=n2+1:=by rw[List.length_append,HN2.out];rfl
  have hm:=Cnm.mk (w:=onlyW (((((((((((w6.setCell ⟨w2.heap.size,9,none⟩ (.slice a7 (n2+1) cap7)).setCell ⟨w.heap.size+2,0,none⟩ (.int .i64 q0)).setCell ⟨w.heap.size+2,1,none⟩ (.int .i64 q1)).setCell ⟨w.heap.size+2,2,none⟩ (.bool q2)).setCell ⟨w.heap.size+2,3,none⟩ (.slice u1 u2 u3)).setCell ⟨w.heap.size+2,4,none⟩ (.slice u4 u5 u6)).setCell ⟨w.heap.size+2,5,none⟩ (.string um)).setCell ⟨w.heap.size+2,6,none⟩ (.slice ua un ucap)).setCell ⟨w.heap.size+2,7,none⟩ (.bool c.strict)).setCell ⟨w.heap.size+2,8,none⟩ (.slice b1' mm1 dap1)).setCell ⟨w.heap.size+2,9,none⟩ (.slice a7 (n2+1) cap7)) (fun b=>S b||decide (w.heap.size≤b))) (f:=f) (a:=a7) (cap:=cap7) (l:=c.conds++[⟨t,st⟩]) (by rw[hlen];exact hcap) (by rw[hlen];have:=H12.out;omega) (fun i hi=>by
   obtain⟨b,hb,ha,hc⟩:=hcell i hi
   refine⟨b,ha,?_⟩
   rw[List.getElem?_eq_getElem hi] at hc⊢
   rw[cell_only,if_pos (by simp only[Bool.or_eq_true,decide_eq_true_eq];exact .inr (by omega))]
   exact hE.cell (h8.cell hc (by show b≠w2.heap.size;omega)) (by show b≠w.heap.size+2;omega)) (HR7.out.mono (condR_sub f _ _ hM3))
  rwa [hlen] at hm
 ·skip
  go_simp
  go_at_call 67
  refine(hoe _ ((HHK.out.trans HKP.out).trans (Kept.refl w3).drew)).mono ?_
  rintro e w4 ⟨v4,rfl,he4,hkn⟩
  obtain⟨r0,r1,r2,t1,t2,t3,t4,t5,t6,tm,ta,tn,tcap,rfl⟩:=he4.agg7
  have hk4:Kept w3 w4:=Kept.trans (Kept.refl w3).drew hkn
  have HE4:Hid (Ex (onlyW w4 (ab w3.heap.size)) f (.agg #[.int .i64 r0,.int .i64 r1,.bool r2,.slice t1 t2 t3,.slice t4 t5 t6,.string tm,.slice ta tn tcap]) t):=Lib.hid he4
  clear hkn he4
  refine hK.out _ _ (HS.out _ (HBB.out.kept hk4)) (fun hHeld=> ?_)
  clear hK K
  try simp only[List.setIfInBounds_toArray,List.set_cons_zero,List.set_cons_succ]
  refine wpAnyH_take (i:=5) (oi:=_) (v:= ?_) rfl (by kernel_rfl) (by kernel_rfl) (by kernel_rfl) (fun _ _ _ h=>h) (Or.inl ⟨by rfl,?_⟩) (by assumption) ?_
  rotate_left
  ·intro w hSw;(try dsimp only at hSw);go_simp;first|done|with_reducible rfl
  try simp only[Act.put]
  refine wpAnyH_ready (rs:=[1,6]) (by kernel_rfl) (by simp) (AllReadyH.cons (o:=_) rfl (fun K hK=> ?_) (AllReadyH.cons (o:=_) rfl (fun K hK=> ?_) AllReadyH.nil))
  ·skip
   obtain⟨d0,d1,d2,d3,d4,d5,d6,d7,d8,d9,-⟩:=(HP.out.kept hk4).facts10
   go_simp
   refine hK.out _ _ (HS.out _ (HBB.out.kept hk4)) (fun hHeld=> ?_)
   clear hK K d0 d1 d2 d3 d4 d5 d6 d7 d8 d9
   try simp only[List.setIfInBounds_toArray,List.set_cons_zero,List.set_cons_succ]
   refine wpAnyH_ready (rs:=[6]) (by kernel_rfl) (by simp) (AllReadyH.cons (o:=_) rfl (fun K hK=> ?_) AllReadyH.nil)
   go_simp
   refine hK.out _ _ (HS.out _ (HBB.out.kept (hk4.alloc _))) (fun hHeld=> ?_)
   clear hK K
   try simp only[List.setIfInBounds_toArray,List.set_cons_zero,List.set_cons_succ]
   refine wpAnyH_ready (rs:=[7]) (by kernel_rfl) (by simp) (AllReadyH.cons (o:=_) rfl (fun K hK=> ?_) AllReadyH.nil)
   go_simp
   have hkc0:Kept w4 ((w4.alloc (.cells #[.int .i64 r0,.int .i64 r1,.bool r2,.slice t1 t2 t3,.slice t4 t5 t6,.string tm,.slice ta tn tcap,.bool st] 93)).alloc (.cells #[.slice b2 n2 dap2,.slice (some ⟨w4.heap.size,0,none⟩) 1 1] 29)):=((Kept.refl w4).alloc _).alloc _
   have hkc:Kept w3 ((w4.alloc (.cells #[.int .i64 r0,.int .i64 r1,.bool r2,.slice t1 t2 t3,.slice t4 t5 t6,.string tm,.slice ta tn tcap,.bool st] 93)).alloc (.cells #[.slice b2 n2 dap2,.slice (some ⟨w4.heap.size,0,none⟩) 1 1] 29)):=hk4.trans hkc0
   have HN:=Lib.hid ((Blk.new w4 #[.int .i64 r0,.int .i64 r1,.bool r2,.slice t1 t2 t3,.slice t4 t5 t6,.string tm,.slice ta tn tcap,.bool st] 93).kept ((Kept.refl (w4.alloc (.cells #[.int .i64 r0,.int .i64 r1,.bool r2,.slice t1 t2 t3,.slice t4 t5 t6,.string tm,.slice ta tn tcap,.bool st] 93))).alloc (.cells #[.slice b2 n2 dap2,.slice (some ⟨w4.heap.size,0,none⟩) 1 1] 29)))
   have HL2:Hid (Blk ((w4.alloc (.cells #[.int .i64 r0,.int .i64 r1,.bool r2,.slice t1 t2 t3,.slice t4 t5 t6,.string tm,.slice ta tn tcap,.bool st] 93)).alloc (.cells #[.slice b2 n2 dap2,.slice (some ⟨w4.heap.size,0,none⟩) 1 1] 29)) (w4.heap.size+1) #[.slice b2 n2 dap2,.slice (some ⟨w4.heap.size,0,none⟩) 1 1] 29):=Lib.hid (by have h:=Blk.new (w4.alloc (.cells #[.int .i64 r0,.int .i64 r1,.bool r2,.slice t1 t2 t3,.slice t4 t5 t6,.string tm,.slice ta tn tcap,.bool st] 93)) #[.slice b2 n2 dap2,.slice (some ⟨w4.heap.size,0,none⟩) 1 1] 29;rwa [show(w4.alloc (.cells #[.int .i64 r0,.int .i64 r1,.bool r2,.slice t1 t2 t3,.slice t4 t5 t6,.string tm,.slice ta tn tcap,.bool st] 93)).heap.size=w4.heap.size+1 from Array.size_push _] at h)
   refine hK.out _ _ (HS.out _ (HBB.out.kept hkc)) (fun hHeld=> ?_)
   clear hK K
   try simp only[List.setIfInBounds_toArray,List.set_cons_zero,List.set_cons_succ]
   generalize ((w4.alloc (.cells #[.int .i64 r0,.int .i64 r1,.bool r2,.slice t1 t2 t3,.slice t4 t5 t6,.string tm,.slice ta tn tcap,.bool st] 93)).alloc (.cells #[.slice b2 n2 dap2,.slice (some ⟨w4.heap.size,0,none⟩) 1 1] 29))=wc at*
   refine wpAnyH_ready (rs:=[8]) (by kernel_rfl) (by simp) (AllReadyH.cons (o:=_) rfl (fun K hK=> ?_) AllReadyH.nil)
   have HVL:Hid (Cnm (onlyW wc (fun b=>decide (w1.heap.size≤b)&&(b != w2.heap.size))) f b2 c.conds.length dap2 c.conds):=Lib.hid (by
    have h:=hc2c.sub (only_move (w':=wc) (S':=(fun b=>decide (w1.heap.size≤b)&&(b != w2.heap.size))) fun b hlt hs=>⟨by simp[ab] at hs⊢;omega,(HKP.out.trans hkc).old b hlt⟩)
    rwa [←HN2.out] at h)
   have HVD:Hid (Cnm (onlyW wc (fun b=>decide (w1.heap.size≤b)&&(b != w2.heap.size))) f (some ⟨w4.heap.size,0,none⟩) 1 1 [⟨t,st⟩]):=Lib.hid (by
    have h1:=HSZ3.out
    have h2:=hk4.size
    have h3:=HK2.out.size
    refine Cnm.mk (l:=[⟨t,st⟩]) (cs:=[.int .i64 r0,.int .i64 r1,.bool r2,.slice t1 t2 t3,.slice t4 t5 t6,.string tm,.slice ta tn tcap,.bool st]) (Nat.le_refl 1) (by simp) (fun i hi=>⟨w4.heap.size,rfl,?_⟩) ⟨rfl,fun i hi=> ?_⟩
    ·rw[cell_only,if_pos (by simp;omega),List.getElem?_eq_getElem hi]
     exact HN.out.cell i (by rw[←List.getElem?_eq_getElem hi];simp)
    ·obtain rfl:i=0:=by simpa using hi
     exact⟨r0,r1,r2,t1,t2,t3,t4,t5,t6,tm,ta,tn,tcap,rfl,HE4.out.sub (only_move fun b hlt hs=>⟨by simp[ab] at hs⊢;omega,hkc0.old b hlt⟩)⟩)
   have hcc:=concat_calls (w:=wc) (bl:=w4.heap.size+1) (only_sub wc (fun b=>decide (w1.heap.size≤b)&&(b != w2.heap.size))) HVL.out HVD.out (by rw[HN2.out];exact H12.out) (by rw[HN2.out];exact HL2.out.cell 0 rfl) (HL2.out.cell 1 rfl)
   rw[HN2.out] at hcc
   go_simp
   go_at_call 69
   refine hcc.mono ?_
   rintro e w6 ⟨a7,cap7,cs7,rfl,ho7,hr7,hk7⟩
   have HO7:=Lib.hid ho7
   have HR7:=Lib.hid hr7
   have HKC:=Lib.hid hkc
   clear ho7 hr7 hcc
   have hk6:=hkc.trans hk7
   refine hK.out _ _ (HS.out _ (HBB.out.kept hk6)) (fun hHeld=> ?_)
   clear hK K
   try simp only[List.setIfInBounds_toArray,List.set_cons_zero,List.set_cons_succ]
   refine wpAnyH_take (i:=9) (oi:=_) (v:= ?_) rfl (by kernel_rfl) (by kernel_rfl) (by kernel_rfl) (fun _ _ _ h=>h) (Or.inl ⟨by rfl,?_⟩) (by assumption) ?_
   rotate_left
   ·intro w hSw;(try dsimp only at hSw);go_simp;first|done|with_reducible rfl
   try simp only[Act.put]
   refine wpAnyH_ready (rs:=[10]) (by kernel_rfl) (by simp) (AllReadyH.cons (o:=_) rfl (fun K hK=> ?_) AllReadyH.nil)
   obtain⟨d0,d1,d2,d3,d4,d5,d6,d7,d8,d9,f0,f1,f2,f3,f4,f5,f6,f7,f8,f9⟩:=(HP.out.kept hk6).facts10
   go_simp
   have h8:KeptB w6 (w6.setCell ⟨w2.heap.size,9,none⟩ (.slice a7 (n2+1) cap7)) w2.heap.size:=st1 ..
   have HB8:=Lib.hid (show Blk (w6.setCell ⟨w2.heap.size,9,none⟩ (.slice a7 (n2+1) cap7)) w2.heap.size #[.int .i64 q0,.int .i64 q1,.bool q2,.slice u1 u2 u3,.slice u4 u5 u6,.string um,.slice ua un ucap,.bool c.strict,.slice b1' mm1 dap1,.slice a7 (n2+1) cap7] 31 by have h:=(HP.out.kept hk6).set 9 (.slice a7 (n2+1) cap7);simpa using h)
   have HD8:=Lib.hid ((HD.out.kept hk6).keptB h8 (by have:=HLT2.out;omega))
   refine hK.out _ _ (HS.out _ ((HBB.out.kept hk6).keptB h8 (by have:=HLT2.out;omega))) (fun hHeld=> ?_)
   clear hK K d0 d1 d2 d3 d4 d5 d6 d7 d8 d9 f0 f1 f2 f3 f4 f5 f6 f7 f8 f9
   refine wpAnyH_done (by kernel_rfl) ?_ _
   obtain⟨d0,d1,d2,d3,d4,d5,d6,d7,d8,d9,-⟩:=HB8.out.facts10
   obtain⟨k0,k1,k2,k3,k4,k5,k6,k7,k8,k9,j0,j1,j2,j3,j4,j5,j6,j7,j8,j9⟩:=HD8.out.facts10
   have hne:w2.heap.size≠w.heap.size+2:=Nat.ne_of_gt HLT2.out
   have hne2:=fun h=>hne (Eq.symm h)
   go_wp2
   have hE:KeptB (w6.setCell ⟨w2.heap.size,9,none⟩ (.slice a7 (n2+1) cap7)) (((((((((((w6.setCell ⟨w2.heap.size,9,none⟩ (.slice a7 (n2+1) cap7)).setCell ⟨w.heap.size+2,0,none⟩ (.int .i64 q0)).setCell ⟨w.heap.size+2,1,none⟩ (.int .i64 q1)).setCell ⟨w.heap.size+2,2,none⟩ (.bool q2)).setCell ⟨w.heap.size+2,3,none⟩ (.slice u1 u2 u3)).setCell ⟨w.heap.size+2,4,none⟩ (.slice u4 u5 u6)).setCell ⟨w.heap.size+2,5,none⟩ (.string um)).setCell ⟨w.heap.size+2,6,none⟩ (.slice ua un ucap)).setCell ⟨w.heap.size+2,7,none⟩ (.bool c.strict)).setCell ⟨w.heap.size+2,8,none⟩ (.slice b1' mm1 dap1)).setCell ⟨w.heap.size+2,9,none⟩ (.slice a7 (n2+1) cap7)) (w.heap.size+2):=KeptB.st10 ..
   have hlt1:w.heap.size+2<w1.heap.size:=HLT1.out
   have hsz21:=HK2.out.size
   have hsz3:=HSZ3.out
   have hsz6:=hk6.size
   have hkz:=(((HHK.out.trans HKP.out).trans hk6).but h8 (by have:=HHK.out.size;omega)).but hE (by omega)
   have hM1:Sub (onlyW w2 (ab w1.heap.size)) (onlyW (((((((((((w6.setCell ⟨w2.heap.size,9,none⟩ (.slice a7 (n2+1) cap7)).setCell ⟨w.heap.size+2,0,none⟩ (.int .i64 q0)).setCell ⟨w.heap.size+2,1,none⟩ (.int .i64 q1)).setCell ⟨w.heap.size+2,2,none⟩ (.bool q2)).setCell ⟨w.heap.size+2,3,none⟩ (.slice u1 u2 u3)).setCell ⟨w.heap.size+2,4,none⟩ (.slice u4 u5 u6)).setCell ⟨w.heap.size+2,5,none⟩ (.string um)).setCell ⟨w.heap.size+2,6,none⟩ (.slice ua un ucap)).setCell ⟨w.heap.size+2,7,none⟩ (.bool c.strict)).setCell ⟨w.heap.size+2,8,none⟩ (.slice b1' mm1 dap1)).setCell ⟨w.heap.size+2,9,none⟩ (.slice a7 (n2+1) cap7)) (fun b=>S b||decide (w.heap.size≤b))):=only_move fun b hlt hs=>⟨by
    have h1:w1.heap.size≤b:=by simpa [ab] using hs
    simp only[Bool.or_eq_true,decide_eq_true_eq];exact .inr (by omega),by
    have h1:w1.heap.size≤b:=by simpa [ab] using hs
    have h2:=(HKP.out.trans hk6).size
    exact((hE.old b (Nat.lt_of_lt_of_le hlt (Nat.le_trans h2 h8.size)) (by omega)).trans (h8.old b (Nat.lt_of_lt_of_le hlt h2) (by omega))).trans ((HKP.out.trans hk6).old b hlt)⟩
   have hM3:Sub (onlyW wc (fun b=>decide (w1.heap.size≤b)&&(b != w2.heap.size))) (onlyW (((((((((((w6.setCell ⟨w2.heap.size,9,none⟩ (.slice a7 (n2+1) cap7)).setCell ⟨w.heap.size+2,0,none⟩ (.int .i64 q0)).setCell ⟨w.heap.size+2,1,none⟩ (.int .i64 q1)).setCell ⟨w.heap.size+2,2,none⟩ (.bool q2)).setCell ⟨w.heap.size+2,3,none⟩ (.slice u1 u2 u3)).setCell ⟨w.heap.size+2,4,none⟩ (.slice u4 u5 u6)).setCell ⟨w.heap.size+2,5,none⟩ (.string um)).setCell ⟨w.heap.size+2,6,none⟩ (.slice ua un ucap)).setCell ⟨w.heap.size+2,7,none⟩ (.bool c.strict)).setCell ⟨w.heap.size+2,8,none⟩ (.slice b1' mm1 dap1)).setCell ⟨w.heap.size+2,9,none⟩ (.slice a7 (n2+1) cap7)) (fun b=>S b||decide (w.heap.size≤b))):=only_move fun b hlt hs=>⟨by
    simp only[Bool.and_eq_true,decide_eq_true_eq,bne_iff_ne] at hs
    simp only[Bool.or_eq_true,decide_eq_true_eq];exact .inr (by omega),by
    simp only[Bool.and_eq_true,decide_eq_true_eq,bne_iff_ne] at hs
    exact((hE.old b (Nat.lt_of_lt_of_le hlt (Nat.le_trans hk7.size h8.size)) (by omega)).trans (h8.old b (Nat.lt_of_lt_of_le hlt hk7.size) hs.2)).trans (hk7.old b hlt)⟩
   refine bodyPost_ret (v:=.tuple #[.agg #[.int .i64 q0,.int .i64 q1,.bool q2,.slice u1 u2 u3,.slice u4 u5 u6,.string um,.slice ua un ucap,.bool c.strict,.slice b1' mm1 dap1,.slice a7 (n2+1) cap7],.int .i64 0]) (by simp[results,Tryz.results23,go_sem,k0,k1,k2,k3,k4,k5,k6,k7,k8,k9]) rfl ⟨_,by rw[HAX.out],fun _=> ?_,fun h=>absurd HAX.out h,hkz⟩
   refine⟨q0,q1,q2,u1,u2,u3,u4,u5,u6,um,ua,un,ucap,b1',mm1,dap1,a7,n2+1,cap7,by cases HCST.out;rfl,hc2g.sub hM1,hc2b.sub hM1,?_⟩
   obtain⟨a',cap',e1,hcap,-,hcell⟩:=own_open HO7.out
   cases e1
   have hszc:=HKC.out.size
   have hlen:(c.conds++[(⟨t,st⟩:CondD)]).length=n2+1:=by rw[List.length_append,HN2.out];rfl
   have hm:=Cnm.mk (w:=onlyW (((((((((((w6.setCell ⟨w2.heap.size,9,none⟩ (.slice a7 (n2+1) cap7)).setCell ⟨w.heap.size+2,0,none⟩ (.int .i64 q0)).setCell ⟨w.heap.size+2,1,none⟩ (.int .i64 q1)).setCell ⟨w.heap.size+2,2,none⟩ (.bool q2)).setCell ⟨w.heap.size+2,3,none⟩ (.slice u1 u2 u3)).setCell ⟨w.heap.size+2,4,none⟩ (.slice u4 u5 u6)).setCell ⟨w.heap.size+2,5,none⟩ (.string um)).setCell ⟨w.heap.size+2,6,none⟩ (.slice ua un ucap)).setCell ⟨w.heap.size+2,7,none⟩ (.bool c.strict)).setCell ⟨w.heap.size+2,8,none⟩ (.slice b1' mm1 dap1)).setCell ⟨w.heap.size+2,9,none⟩ (.slice a7 (n2+1) cap7)) (fun b=>S b||decide (w.heap.size≤b))) (f:=f) (a:=a7) (cap:=cap7) (l:=c.conds++[⟨t,st⟩]) (by rw[hlen];exact hcap) (by rw[hlen];have:=H12.out;omega) (fun i hi=>by
    obtain⟨b,hb,ha,hc⟩:=hcell i hi
    refine⟨b,ha,?_⟩
    rw[List.getElem?_eq_getElem hi] at hc⊢
    rw[cell_only,if_pos (by simp only[Bool.or_eq_true,decide_eq_true_eq];exact .inr (by omega))]
    exact hE.cell (h8.cell hc (by show b≠w2.heap.size;omega)) (by show b≠w.heap.size+2;omega)) (HR7.out.mono (condR_sub f _ _ hM3))
   rwa [hlen] at hm
  ·skip
   go_simp
   refine hK.out _ _ (HS.out _ (HBB.out.kept (hk4.alloc _))) (fun hHeld=> ?_)
   clear hK K
   try simp only[List.setIfInBounds_toArray,List.set_cons_zero,List.set_cons_succ]
   refine wpAnyH_ready (rs:=[1]) (by kernel_rfl) (by simp) (AllReadyH.cons (o:=_) rfl (fun K hK=> ?_) AllReadyH.nil)
   obtain⟨d0,d1,d2,d3,d4,d5,d6,d7,d8,d9,-⟩:=(HP.out.kept (hk4.alloc (.cells #[.int .i64 r0,.int .i64 r1,.bool r2,.slice t1 t2 t3,.slice t4 t5 t6,.string tm,.slice ta tn tcap,.bool st] 93))).facts10
   go_simp
   refine hK.out _ _ (HS.out _ (HBB.out.kept (hk4.alloc (.cells #[.int .i64 r0,.int .i64 r1,.bool r2,.slice t1 t2 t3,.slice t4 t5 t6,.string tm,.slice ta tn tcap,.bool st] 93)))) (fun hHeld=> ?_)
   clear hK K d0 d1 d2 d3 d4 d5 d6 d7 d8 d9
   try simp only[List.setIfInBounds_toArray,List.set_cons_zero,List.set_cons_succ]
   refine wpAnyH_ready (rs:=[7]) (by kernel_rfl) (by simp) (AllReadyH.cons (o:=_) rfl (fun K hK=> ?_) AllReadyH.nil)
   go_simp
   have hkc0:Kept w4 ((w4.alloc (.cells #[.int .i64 r0,.int .i64 r1,.bool r2,.slice t1 t2 t3,.slice t4 t5 t6,.string tm,.slice ta tn tcap,.bool st] 93)).alloc (.cells #[.slice b2 n2 dap2,.slice (some ⟨w4.heap.size,0,none⟩) 1 1] 29)):=((Kept.refl w4).alloc _).alloc _
   have hkc:Kept w3 ((w4.alloc (.cells #[.int .i64 r0,.int .i64 r1,.bool r2,.slice t1 t2 t3,.slice t4 t5 t6,.string tm,.slice ta tn tcap,.bool st] 93)).alloc (.cells #[.slice b2 n2 dap2,.slice (some ⟨w4.heap.size,0,none⟩) 1 1] 29)):=hk4.trans hkc0
   have HN:=Lib.hid ((Blk.new w4 #[.int .i64 r0,.int .i64 r1,.bool r2,.slice t1 t2 t3,.slice t4 t5 t6,.string tm,.slice ta tn tcap,.bool st] 93).kept ((Kept.refl (w4.alloc (.cells #[.int .i64 r0,.int .i64 r1,.bool r2,.slice t1 t2 t3,.slice t4 t5 t6,.string tm,.slice ta tn tcap,.bool st] 93))).alloc (.cells #[.slice b2 n2 dap2,.slice (some ⟨w4.heap.size,0,none⟩) 1 1] 29)))
   have HL2:Hid (Blk ((w4.alloc (.cells #[.int .i64 r0,.int .i64 r1,.bool r2,.slice t1 t2 t3,.slice t4 t5 t6,.string tm,.slice ta tn tcap,.bool st] 93)).alloc (.cells #[.slice b2 n2 dap2,.slice (some ⟨w4.heap.size,0,none⟩) 1 1] 29)) (w4.heap.size+1) #[.slice b2 n2 dap2,.slice (some ⟨w4.heap.size,0,none⟩) 1 1] 29):=Lib.hid (by have h:=Blk.new (w4.alloc (.cells #[.int .i64 r0,.int .i64 r1,.bool r2,.slice t1 t2 t3,.slice t4 t5 t6,.string tm,.slice ta tn tcap,.bool st] 93)) #[.slice b2 n2 dap2,.slice (some ⟨w4.heap.size,0,none⟩) 1 1] 29;rwa [show(w4.alloc (.cells #[.int .i64 r0,.int .i64 r1,.bool r2,.slice t1 t2 t3,.slice t4 t5 t6,.string tm,.slice ta tn tcap,.bool st] 93)).heap.size=w4.heap.size+1 from Array.size_push _] at h)
   refine hK.out _ _ (HS.out _ (HBB.out.kept hkc)) (fun hHeld=> ?_)
   clear hK K
   try simp only[List.setIfInBounds_toArray,List.set_cons_zero,List.set_cons_succ]
   generalize ((w4.alloc (.cells #[.int .i64 r0,.int .i64 r1,.bool r2,.slice t1 t2 t3,.slice t4 t5 t6,.string tm,.slice ta tn tcap,.bool st] 93)).alloc (.cells #[.slice b2 n2 dap2,.slice (some ⟨w4.heap.size,0,none⟩) 1 1] 29))=wc at*
   refine wpAnyH_ready (rs:=[8]) (by kernel_rfl) (by simp) (AllReadyH.cons (o:=_) rfl (fun K hK=> ?_) AllReadyH.nil)
   have HVL:Hid (Cnm (onlyW wc (fun b=>decide (w1.heap.size≤b)&&(b != w2.heap.size))) f b2 c.conds.length dap2 c.conds):=Lib.hid (by
    have h:=hc2c.sub (only_move (w':=wc) (S':=(fun b=>decide (w1.heap.size≤b)&&(b != w2.heap.size))) fun b hlt hs=>⟨by simp[ab] at hs⊢;omega,(HKP.out.trans hkc).old b hlt⟩)
    rwa [←HN2.out] at h)
   have HVD:Hid (Cnm (onlyW wc (fun b=>decide (w1.heap.size≤b)&&(b != w2.heap.size))) f (some ⟨w4.heap.size,0,none⟩) 1 1 [⟨t,st⟩]):=Lib.hid (by
    have h1:=HSZ3.out
    have h2:=hk4.size
    have h3:=HK2.out.size
    refine Cnm.mk (l:=[⟨t,st⟩]) (cs:=[.int .i64 r0,.int .i64 r1,.bool r2,.slice t1 t2 t3,.slice t4 t5 t6,.string tm,.slice ta tn tcap,.bool st]) (Nat.le_refl 1) (by simp) (fun i hi=>⟨w4.heap.size,rfl,?_⟩) ⟨rfl,fun i hi=> ?_⟩
    ·rw[cell_only,if_pos (by simp;omega),List.getElem?_eq_getElem hi]
     exact HN.out.cell i (by rw[←List.getElem?_eq_getElem hi];simp)
    ·obtain rfl:i=0:=by simpa using hi
     exact⟨r0,r1,r2,t1,t2,t3,t4,t5,t6,tm,ta,tn,tcap,rfl,HE4.out.sub (only_move fun b hlt hs=>⟨by simp[ab] at hs⊢;omega,hkc0.old b hlt⟩)⟩)
   have hcc:=concat_calls (w:=wc) (bl:=w4.heap.size+1) (only_sub wc (fun b=>decide (w1.heap.size≤b)&&(b != w2.heap.size))) HVL.out HVD.out (by rw[HN2.out];exact H12.out) (by rw[HN2.out];exact HL2.out.cell 0 rfl) (HL2.out.cell 1 rfl)
   rw[HN2.out] at hcc
   go_simp
   go_at_call 69
   refine hcc.mono ?_
   rintro e w6 ⟨a7,cap7,cs7,rfl,ho7,hr7,hk7⟩
   have HO7:=Lib.hid ho7
   have HR7:=Lib.hid hr7
   have HKC:=Lib.hid hkc
   clear ho7 hr7 hcc
   have hk6:=hkc.trans hk7
   refine hK.out _ _ (HS.out _ (HBB.out.kept hk6)) (fun hHeld=> ?_)
   clear hK K
   try simp only[List.setIfInBounds_toArray,List.set_cons_zero,List.set_cons_succ]
   refine wpAnyH_take (i:=9) (oi:=_) (v:= ?_) rfl (by kernel_rfl) (by kernel_rfl) (by kernel_rfl) (fun _ _ _ h=>h) (Or.inl ⟨by rfl,?_⟩) (by assumption) ?_
   rotate_left
   ·intro w hSw;(try dsimp only at hSw);go_simp;first|done|with_reducible rfl
   try simp only[Act.put]
   refine wpAnyH_ready (rs:=[10]) (by kernel_rfl) (by simp) (AllReadyH.cons (o:=_) rfl (fun K hK=> ?_) AllReadyH.nil)
   obtain⟨d0,d1,d2,d3,d4,d5,d6,d7,d8,d9,f0,f1,f2,f3,f4,f5,f6,f7,f8,f9⟩:=(HP.out.kept hk6).facts10
   go_simp
   have h8:KeptB w6 (w6.setCell ⟨w2.heap.size,9,none⟩ (.slice a7 (n2+1) cap7)) w2.heap.size:=st1 ..
   have HB8:=Lib.hid (show Blk (w6.setCell ⟨w2.heap.size,9,none⟩ (.slice a7 (n2+1) cap7)) w2.heap.size #[.int .i64 q0,.int .i64 q1,.bool q2,.slice u1 u2 u3,.slice u4 u5 u6,.string um,.slice ua un ucap,.bool c.strict,.slice b1' mm1 dap1,.slice a7 (n2+1) cap7] 31 by have h:=(HP.out.kept hk6).set 9 (.slice a7 (n2+1) cap7);simpa using h)
   have HD8:=Lib.hid ((HD.out.kept hk6).keptB h8 (by have:=HLT2.out;omega))
   refine hK.out _ _ (HS.out _ ((HBB.out.kept hk6).keptB h8 (by have:=HLT2.out;omega))) (fun hHeld=> ?_)
   clear hK K d0 d1 d2 d3 d4 d5 d6 d7 d8 d9 f0 f1 f2 f3 f4 f5 f6 f7 f8 f9
   refine wpAnyH_done (by kernel_rfl) ?_ _
   obtain⟨d0,d1,d2,d3,d4,d5,d6,d7,d8,d9,-⟩:=HB8.out.facts10
   obtain⟨k0,k1,k2,k3,k4,k5,k6,k7,k8,k9,j0,j1,j2,j3,j4,j5,j6,j7,j8,j9⟩:=HD8.out.facts10
   have hne:w2.heap.size≠w.heap.size+2:=Nat.ne_of_gt HLT2.out
   have hne2:=fun h=>hne (Eq.symm h)
   go_wp2
   have hE:KeptB (w6.setCell ⟨w2.heap.size,9,none⟩ (.slice a7 (n2+1) cap7)) (((((((((((w6.setCell ⟨w2.heap.size,9,none⟩ (.slice a7 (n2+1) cap7)).setCell ⟨w.heap.size+2,0,none⟩ (.int .i64 q0)).setCell ⟨w.heap.size+2,1,none⟩ (.int .i64 q1)).setCell ⟨w.heap.size+2,2,none⟩ (.bool q2)).setCell ⟨w.heap.size+2,3,none⟩ (.slice u1 u2 u3)).setCell ⟨w.heap.size+2,4,none⟩ (.slice u4 u5 u6)).setCell ⟨w.heap.size+2,5,none⟩ (.string um)).setCell ⟨w.heap.size+2,6,none⟩ (.slice ua un ucap)).setCell ⟨w.heap.size+2,7,none⟩ (.bool c.strict)).setCell ⟨w.heap.size+2,8,none⟩ (.slice b1' mm1 dap1)).setCell ⟨w.heap.size+2,9,none⟩ (.slice a7 (n2+1) cap7)) (w.heap.size+2):=KeptB.st10 ..
   have hlt1:w.heap.size+2<w1.heap.size:=HLT1.out
   have hsz21:=HK2.out.size
   have hsz3:=HSZ3.out
   have hsz6:=hk6.size
   have hkz:=(((HHK.out.trans HKP.out).trans hk6).but h8 (by have:=HHK.out.size;omega)).but hE (by omega)
   have hM1:Sub (onlyW w2 (ab w1.heap.size)) (onlyW (((((((((((w6.setCell ⟨w2.heap.size,9,none⟩ (.slice a7 (n2+1) cap7)).setCell ⟨w.heap.size+2,0,none⟩ (.int .i64 q0)).setCell ⟨w.heap.size+2,1,none⟩ (.int .i64 q1)).setCell ⟨w.heap.size+2,2,none⟩ (.bool q2)).setCell ⟨w.heap.size+2,3,none⟩ (.slice u1 u2 u3)).setCell ⟨w.heap.size+2,4,none⟩ (.slice u4 u5 u6)).setCell ⟨w.heap.size+2,5,none⟩ (.string um)).setCell ⟨w.heap.size+2,6,none⟩ (.slice ua un ucap)).setCell ⟨w.heap.size+2,7,none⟩ (.bool c.strict)).setCell ⟨w.heap.size+2,8,none⟩ (.slice b1' mm1 dap1)).setCell ⟨w.heap.size+2,9,none⟩ (.slice a7 (n2+1) cap7)) (fun b=>S b||decide (w.heap.size≤b))):=only_move fun b hlt hs=>⟨by
    have h1:w1.heap.size≤b:=by simpa [ab] using hs
    simp only[Bool.or_eq_true,decide_eq_true_eq];exact .inr (by omega),by
    have h1:w1.heap.size≤b:=by simpa [ab] using hs
    have h2:=(HKP.out.trans hk6).size
    exact((hE.old b (Nat.lt_of_lt_of_le hlt (Nat.le_trans h2 h8.size)) (by omega)).trans (h8.old b (Nat.lt_of_lt_of_le hlt h2) (by omega))).trans ((HKP.out.trans hk6).old b hlt)⟩
   have hM3:Sub (onlyW wc (fun b=>decide (w1.heap.size≤b)&&(b != w2.heap.size))) (onlyW (((((((((((w6.setCell ⟨w2.heap.size,9,none⟩ (.slice a7 (n2+1) cap7)).setCell ⟨w.heap.size+2,0,none⟩ (.int .i64 q0)).setCell ⟨w.heap.size+2,1,none⟩ (.int .i64 q1)).setCell ⟨w.heap.size+2,2,none⟩ (.bool q2)).setCell ⟨w.heap.size+2,3,none⟩ (.slice u1 u2 u3)).setCell ⟨w.heap.size+2,4,none⟩ (.slice u4 u5 u6)).setCell ⟨w.heap.size+2,5,none⟩ (.string um)).setCell ⟨w.heap.size+2,6,none⟩ (.slice ua un ucap)).setCell ⟨w.heap.size+2,7,none⟩ (.bool c.strict)).setCell ⟨w.heap.size+2,8,none⟩ (.slice b1' mm1 dap1)).setCell ⟨w.heap.size+2,9,none⟩ (.slice a7 (n2+1) cap7)) (fun b=>S b||decide (w.heap.size≤b))):=only_move fun b hlt hs=>⟨by
    simp only[Bool.and_eq_true,decide_eq_true_eq,bne_iff_ne] at hs
    simp only[Bool.or_eq_true,decide_eq_true_eq];exact .inr (by omega),by
    simp only[Bool.and_eq_true,decide_eq_true_eq,bne_iff_ne] at hs
    exact((hE.old b (Nat.lt_of_lt_of_le hlt (Nat.le_trans hk7.size h8.size)) (by omega)).trans (h8.old b (Nat.lt_of_lt_of_le hlt hk7.size) hs.2)).trans (hk7.old b hlt)⟩
   refine bodyPost_ret (v:=.tuple #[.agg #[.int .i64 q0,.int .i64 q1,.bool q2,.slice u1 u2 u3,.slice u4 u5 u6,.string um,.slice ua un ucap,.bool c.strict,.slice b1' mm1 dap1,.slice a7 (n2+1) cap7],.int .i64 0]) (by simp[results,Tryz.results23,go_sem,k0,k1,k2,k3,k4,k5,k6,k7,k8,k9]) rfl ⟨_,by rw[HAX.out],fun _=> ?_,fun h=>absurd HAX.out h,hkz⟩
   refine⟨q0,q1,q2,u1,u2,u3,u4,u5,u6,um,ua,un,ucap,b1',mm1,dap1,a7,n2+1,cap7,by cases HCST.out;rfl,hc2g.sub hM1,hc2b.sub hM1,?_⟩
   obtain⟨a',cap',e1,hcap,-,hcell⟩:=own_open HO7.out
   cases e1
   have hszc:=HKC.out.size
   have hlen:(c.conds++[(⟨t,st⟩:CondD)]).length=n2+1:=by rw[List.length_append,HN2.out];rfl
   have hm:=Cnm.mk (w:=onlyW (((((((((((w6.setCell ⟨w2.heap.size,9,none⟩ (.slice a7 (n2+1) cap7)).setCell ⟨w.heap.size+2,0,none⟩ (.int .i64 q0)).setCell ⟨w.heap.size+2,1,none⟩ (.int .i64 q1)).setCell ⟨w.heap.size+2,2,none⟩ (.bool q2)).setCell ⟨w.heap.size+2,3,none⟩ (.slice u1 u2 u3)).setCell ⟨w.heap.size+2,4,none⟩ (.slice u4 u5 u6)).setCell ⟨w.heap.size+2,5,none⟩ (.string um)).setCell ⟨w.heap.size+2,6,none⟩ (.slice ua un ucap)).setCell ⟨w.heap.size+2,7,none⟩ (.bool c.strict)).setCell ⟨w.heap.size+2,8,none⟩ (.slice b1' mm1 dap1)).setCell ⟨w.heap.size+2,9,none⟩ (.slice a7 (n2+1) cap7)) (fun b=>S b||decide (w.heap.size≤b))) (f:=f) (a:=a7) (cap:=cap7) (l:=c.conds++[⟨t,st⟩]) (by rw[hlen];exact hcap) (by rw[hlen];have:=H12.out;omega) (fun i hi=>by
    obtain⟨b,hb,ha,hc⟩:=hcell i hi
    refine⟨b,ha,?_⟩
    rw[List.getElem?_eq_getElem hi] at hc⊢
    rw[cell_only,if_pos (by simp only[Bool.or_eq_true,decide_eq_true_eq];exact .inr (by omega))]
    exact hE.cell (h8.cell hc (by show b≠w2.heap.size;omega)) (by show b≠w.heap.size+2;omega)) (HR7.out.mono (condR_sub f _ _ hM3))
   rwa [hlen] at hm
end Go.Proofs.YtbapfnpbamnmpaaGreatDoor
end
