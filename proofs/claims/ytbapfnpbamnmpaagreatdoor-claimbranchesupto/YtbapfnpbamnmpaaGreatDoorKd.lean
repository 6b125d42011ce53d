/- A part of the proof that ClaimBranches answers true for every input of bulk at most 1048576: conditions: the row's own. -/
import Derived.Test.YtbapfnpbamnmpaaGreatDoorKb
import Derived.Test.YtbapfnpbamnmpaaGreatDoorKc
import Derived.Test.YtbapfnpbamnmpaaGreatDoorKa
import Derived.Test.YtbapfnpbamnmpaaGreatDoorGf
import Derived.Test.YtbapfnpbamnmpaaGreatDoorGi
import Derived.Test.YtbapfnpbamnmpaaGreatDoorSc
namespace Go.Proofs.YtbapfnpbamnmpaaGreatDoor
section
open Go Go.RowKit Go.Dig Go.Deep
open Go.Eng (Kept KW KeptB wp_region_kw kw_call)
set_option maxHeartbeats 16000000
set_option maxRecDepth 100000
def RetC2(s:Tree)(f:Nat)(w:World)(e:Ending)(w':World):Prop:=
 ∃R E,e= .returned (.tuple #[.agg R,.int .i64 E])∧Own 27 R∧((E=0∧s.ok=true∧Ex (onlyW w' (ab w.heap.size)) f (.agg R) (canT s))∨(E=4∧s.ok=false))∧Kept w w'
theorem checked2{w:World}{f:Nat}{v:Value}{t:Tree}(h:Ex w f v t)(hT:Laid w):Calls Tryz.prog 157 #[v] w (RetC2 t f w):=
 (checked_calls h hT).mono fun e w' ⟨h1,hk⟩=>by
   rcases Bool.eq_false_or_eq_true t.ok with b|b
   ·rw[if_pos b] at h1
    obtain⟨r,rfl,hr⟩:=h1
    obtain⟨R,rfl,hR⟩:=hr.own
    exact⟨R,0,rfl,hR,.inl ⟨rfl,b,hr⟩,hk⟩
   ·rw[if_neg (by rw[b];decide)] at h1
    exact⟨_,4,h1,own7,.inr ⟨rfl,b⟩,hk⟩
theorem pbranch_good{w:World}{S:Nat→Bool}{f:Nat}{v:Value}{t c y n:Tree}(hres:Res7 f)(h:Ex (onlyW w S) f v t)(hT:Laid w)(ho:t.ok=true)(hrt:resT t=some (c,y,n)):Calls Tryz.prog 87 #[v] w (RetBr canT t f S w):=by
 have hv:=fun(w':World)(k:Kept w w')=>pvalid_calls ((h.sub (only_sub w S)).kept k) (hT.kept k)
 have hsm:=fun(w':World)(k:Kept w w')=>smooth_calls ((h.sub (only_sub w S)).kept k) ho
 have hr:=fun(w':World)(k:Kept w w')=>hres (h.sub (loc_in (k:=4) k)) (well_of_ok ho)
 rw[ho] at hv
 rw[res_smooth,hrt] at hsm
 rw[hrt] at hr
 obtain⟨V,rfl,hV⟩:=h.own
 clear h
 refine ent1 64 Tryz.func87 rfl Tryz.ntmps87 ?_
 iterate 2 go_step
 refine zb fun w1 g1 e1 k1 b1 s1=> ?_
 refine za Z7 27 fun w2 g2 e2 k2 b2 s2=> ?_
 refine za Z7 27 fun w3 g3 e3 k3 b3 s3=> ?_
 refine za Z7 27 fun w4 g4 e4 k4 b4 s4=> ?_
 refine zz ?_
 replace b1:=((b1.kept k2).kept k3).kept k4
 replace b2:=(b2.kept k3).kept k4
 replace b3:=b3.kept k4
 have K:=((k1.trans k2).trans k3).trans k4
 clear k1 k2 k3 k4
 iterate 7 go_step
 refine zl b1.range hV ?_
 refine zc 77 _ (hv _ K) ?_
 rintro e w5 ⟨rfl,k⟩
 replace b1:=b1.kept k
 replace K:=K.trans k
 have k5:=k
 refine⟨_,rfl,?_⟩
 refine zz ?_
 refine zz ?_
 iterate 3 go_step
 refine zt_false ?_
 iterate 2 go_step
 refine zl b1.range hV ?_
 refine zc 166 _ (hsm _ K) ?_
 rintro e w6 ⟨rfl,k⟩
 replace b1:=b1.kept k
 replace K:=K.trans k
 replace k5:=k5.trans k
 refine⟨_,rfl,?_⟩
 refine zz ?_
 iterate 3 go_step
 refine zt_false ?_
 iterate 6 go_step
 refine zz ?_
 refine z2 (.bool false) ?_
 iterate 3 go_step
 refine zt_false ?_
 iterate 5 go_step
 refine zl b1.range hV ?_
 refine zc 167 _ (hr _ K) ?_
 rintro e wa ⟨⟨vc,vy,vn,rfl,xc,xy,xn⟩,k⟩
 obtain⟨C,rfl,oC⟩:=xc.own
 obtain⟨Y,rfl,oY⟩:=xy.own
 obtain⟨N,rfl,oN⟩:=xn.own
 replace xc:=xc.sub (only_sub _ _)
 replace xy:=xy.sub (only_sub _ _)
 replace xn:=xn.sub (only_sub _ _)
 replace K:=K.trans k
 have sz:=(k5.trans k).size
 replace b2:=(b2.kept k5).kept k
 replace b3:=(b3.kept k5).kept k
 replace b4:=(b4.kept k5).kept k
 clear k5 b1 k
 refine⟨_,rfl,?_⟩
 refine zz ?_
 refine zz ?_
 refine zz ?_
 refine zz ?_
 refine zz ?_
 refine za Z7 27 fun w1 g6 e6 k1 b6 s1=> ?_
 refine za Z7 27 fun w2 g7 e7 k2 b7 s2=> ?_
 refine za Z7 27 fun w3 g8 e8 k3 b8 s3=> ?_
 refine zt ((b6.kept k2).kept k3) ownZ oC fun w4 k4 b6=> ?_
 refine zt ((b7.kept k3).keptB k4 (by omega)) ownZ oY fun w5 k5 b7=> ?_
 refine zt ((b8.keptB k4 (by omega)).keptB k5 (by omega)) ownZ oN fun w6 k6 b8=> ?_
 refine zz ?_
 replace b6:=(b6.keptB k5 (by omega)).keptB k6 (by omega)
 replace b7:=b7.keptB k6 (by omega)
 have A:=((((k1.trans k2).trans k3).but k4 (by omega)).but k5 (by omega)).but k6 (by omega)
 have sA:=k4.size
 have sB:=k5.size
 have sC:=k6.size
 clear k1 k2 k3 k4 k5 k6
 iterate 5 go_step
 refine za #[.int .i64 0,.int .i64 0,.int .i64 0] 234 fun w7 g9 e9 k bE s7=> ?_
 replace A:=A.trans k
 replace b6:=b6.kept k
 replace b7:=b7.kept k
 replace b8:=b8.kept k
 clear k
 iterate 5 go_step
 refine zl b6.range oC ?_
 refine zc 157 _ (checked2 (xc.kept A) ((hT.kept K).kept A)) ?_
 rintro e u1 ⟨C',EC,rfl,oC',hC,k⟩
 refine⟨_,rfl,?_⟩
 refine zz ?_
 refine zz ?_
 refine zz ?_
 have p1:=k.size
 refine zt (b6.kept k) oC oC' fun u2 q b6=> ?_
 refine zr (.pointer (some ⟨g9,0,none⟩)) ?_
 refine zt1 (i:=0) (x:=.int .i64 EC) ((bE.kept k).keptB q (by omega)) (by simp) rfl fun u3 q' bE=> ?_
 replace b6:=b6.keptB q' (by omega)
 replace b7:=((b7.kept k).keptB q (by omega)).keptB q' (by omega)
 replace b8:=((b8.kept k).keptB q (by omega)).keptB q' (by omega)
 replace A:=((A.trans k).but q (by omega)).but q' (by omega)
 have L1:Lk g6 (g9+1) u1 u3:=(but_lk q (by omega) (by omega)).but q' (by omega)
 have p2:=q.size
 have p3:=q'.size
 clear k q q'
 iterate 5 go_step
 refine zl b7.range oY ?_
 refine zc 157 _ (checked2 (xy.kept A) ((hT.kept K).kept A)) ?_
 rintro e v1 ⟨Y',EY,rfl,oY',hY,k⟩
 refine⟨_,rfl,?_⟩
 refine zz ?_
 refine zz ?_
 refine zz ?_
 have p4:=k.size
 refine zt (b7.kept k) oY oY' fun v2 q b7=> ?_
 refine zr (.pointer (some ⟨g9,1,none⟩)) ?_
 refine zt1 (i:=1) (x:=.int .i64 EY) ((bE.kept k).keptB q (by omega)) (by simp) rfl fun v3 q' bE=> ?_
 replace b7:=b7.keptB q' (by omega)
 replace b6:=((b6.kept k).keptB q (by omega)).keptB q' (by omega)
 replace b8:=((b8.kept k).keptB q (by omega)).keptB q' (by omega)
 replace A:=((A.trans k).but q (by omega)).but q' (by omega)
 replace L1:=((L1.kept k).but q (by omega)).but q' (by omega)
 have L2:Lk g6 (g9+1) v1 v3:=(but_lk q (by omega) (by omega)).but q' (by omega)
 have p5:=q.size
 have p6:=q'.size
 clear k q q'
 iterate 5 go_step
 refine zl b8.range oN ?_
 refine zc 157 _ (checked2 (xn.kept A) ((hT.kept K).kept A)) ?_
 rintro e x1 ⟨N',EN,rfl,oN',hN,k⟩
 refine⟨_,rfl,?_⟩
 refine zz ?_
 refine zz ?_
 refine zz ?_
 have p7:=k.size
 refine zt (b8.kept k) oN oN' fun x2 q b8=> ?_
 refine zr (.pointer (some ⟨g9,2,none⟩)) ?_
 refine zt1 (i:=2) (x:=.int .i64 EN) ((bE.kept k).keptB q (by omega)) (by simp) rfl fun x3 q' bE=> ?_
 replace b8:=b8.keptB q' (by omega)
 replace b6:=((b6.kept k).keptB q (by omega)).keptB q' (by omega)
 replace b7:=((b7.kept k).keptB q (by omega)).keptB q' (by omega)
 replace A:=((A.trans k).but q (by omega)).but q' (by omega)
 replace L1:=((L1.kept k).but q (by omega)).but q' (by omega)
 replace L2:=((L2.kept k).but q (by omega)).but q' (by omega)
 have L3:Lk g6 (g9+1) x1 x3:=(but_lk q (by omega) (by omega)).but q' (by omega)
 have p8:=q.size
 have p9:=q'.size
 clear k q q'
 replace K:=K.trans A
 replace b2:=b2.kept A
 replace b3:=b3.kept A
 replace b4:=b4.kept A
 clear A
 iterate 6 go_step
 refine zl (V:=#[.int .i64 EC,.int .i64 EY,.int .i64 EN]) bE.range ⟨by kernel_rfl,by simp[Value.oneCell']⟩ ?_
 refine zz ?_
 iterate 4 go_step
 refine loop_n (0+1+1+1+1) ?_
 rcases hC with⟨rfl,okC,xC⟩|⟨rfl,okC⟩
 case' inl=>
  apply unr_s
  iterate 2 go_step
  refine z2 (.bool true) ?_
  iterate 4 go_step
  refine zt_true ?_
  iterate 7 go_step
  refine zr (.int .i64 0) ?_
  refine zz ?_
  iterate 5 go_step
  refine zz ?_
  refine z2 (.bool false) ?_
  iterate 3 go_step
  refine zt_false ?_
  iterate 4 go_step
  refine z2 (.int .i64 1) ?_
  refine zz ?_
  iterate 2 go_step
  rcases hY with⟨rfl,okY,xY⟩|⟨rfl,okY⟩
 case' inl.inl=>
  apply unr_s
  iterate 2 go_step
  refine z2 (.bool true) ?_
  iterate 4 go_step
  refine zt_true ?_
  iterate 7 go_step
  refine zr (.int .i64 0) ?_
  refine zz ?_
  iterate 5 go_step
  refine zz ?_
  refine z2 (.bool false) ?_
  iterate 3 go_step
  refine zt_false ?_
  iterate 4 go_step
  refine z2 (.int .i64 2) ?_
  refine zz ?_
  iterate 2 go_step
  rcases hN with⟨rfl,okN,xN⟩|⟨rfl,okN⟩
 case' inl.inl.inl=>
  apply unr_s
  iterate 2 go_step
  refine z2 (.bool true) ?_
  iterate 4 go_step
  refine zt_true ?_
  iterate 7 go_step
  refine zr (.int .i64 0) ?_
  refine zz ?_
  iterate 5 go_step
  refine zz ?_
  refine z2 (.bool false) ?_
  iterate 3 go_step
  refine zt_false ?_
  iterate 4 go_step
  refine z2 (.int .i64 3) ?_
  refine zz ?_
  iterate 2 go_step
  apply unr_s
  iterate 2 go_step
  refine z2 (.bool false) ?_
  iterate 4 go_step
  refine zt_false ?_
  iterate 4 go_step
  have HE:brE t=0:=by unfold brE;simp[*]
  have kd:Kept x3 x3.drew:=(Kept.refl _).drew
  refine drawn g2 (g4+1) fun hS=> ?_
  refine yl 0 b6.range (by omega) oC' hS ?_
  refine yl 1 b7.range (by omega) oY' hS ?_
  refine yl 2 b8.range (by omega) oN' hS ?_
  refine ytail3 3 hS (b2.kept kd) (b3.kept kd) (b4.kept kd) ownZ ownZ ownZ oC' oY' oN' (by omega) (by omega) (by omega) (by omega) fun wf lf _ n2 n3 n4=> ?_
  iterate 3 go_step
  show bodyPost _ _ _ _ _ _
  refine zret3 (v:=.int .i64 0) n2 n3 n4 oC' oY' oN' ⟨⟨_,_,_,by rw[HE],fun _ c' y' n' h=> ?_,fun h=>absurd HE h⟩,kept_then K lf (by omega)⟩
  cases hrt.symm.trans h
  exact⟨((xC.lk L1 (by omega)).lk lf (by omega)).nxt (by omega),((xY.lk L2 (by omega)).lk lf (by omega)).nxt (by omega),((xN.lk L3 (by omega)).lk lf (by omega)).nxt (by omega)⟩
 all_goals
  have HE:brE t=4:=by unfold brE;simp[*]
  apply unr_s
  iterate 2 go_step
  refine z2 (.bool true) ?_
  iterate 4 go_step
  refine zt_true ?_
  iterate 7 go_step
  refine zr (.int .i64 4) ?_
  refine zz ?_
  iterate 5 go_step
  refine zz ?_
  refine z2 (.bool true) ?_
  iterate 3 go_step
  refine zt_true ?_
  go_step
  refine drawnZ fun wd kd=> ?_
  replace b2:=b2.kept kd
  replace b3:=b3.kept kd
  replace b4:=b4.kept kd
  refine yS 0 (fun _ e=>e▸b2.range) ownZ rfl ?_
  refine yS 1 (fun _ e=>e▸b3.range) ownZ rfl ?_
  refine yS 2 (fun _ e=>e▸b4.range) ownZ rfl ?_
  refine yz 3 rfl ?_
  refine ytailZ 4 b2 b3 b4 ownZ ownZ ownZ ?_
  iterate 4 go_step
  show bodyPost _ _ _ _ _ _
  exact zret3 (v:=.int .i64 4) b2 b3 b4 ownZ ownZ ownZ ⟨⟨zeroE,zeroE,zeroE,by rw[HE];rfl,fun h=>absurd (HE.symm.trans h) (by decide),fun _=>⟨rfl,rfl,rfl⟩⟩,K.trans kd⟩
end
section
open Go Go.RowKit Go.Dig Go.Deep
open Go.Eng (Kept KW KeptB wp_region_kw kw_call)
set_option maxHeartbeats 16000000
set_option maxRecDepth 100000
theorem pbranch_bad{w:World}{S:Nat→Bool}{f:Nat}{v:Value}{t:Tree}(h:Ex (onlyW w S) f v t)(hT:Laid w)(hz:t.ok=true→resT t=none):Calls Tryz.prog 87 #[v] w (RetBr canT t f S w):=by
 have hv:=fun(w':World)(k:Kept w w')=>pvalid_calls ((h.sub (only_sub w S)).kept k) (hT.kept k)
 have hsm:=fun(ho:t.ok=true)(w':World)(k:Kept w w')=>smooth_calls ((h.sub (only_sub w S)).kept k) ho
 obtain⟨V,rfl,hV⟩:=h.own
 clear h
 generalize hok:t.ok=ok at*
 refine ent1 64 Tryz.func87 rfl Tryz.ntmps87 ?_
 iterate 2 go_step
 refine zb fun w1 g1 e1 k1 b1 s1=> ?_
 refine za Z7 27 fun w2 g2 e2 k2 b2 s2=> ?_
 refine za Z7 27 fun w3 g3 e3 k3 b3 s3=> ?_
 refine za Z7 27 fun w4 g4 e4 k4 b4 s4=> ?_
 refine zz ?_
 replace b1:=((b1.kept k2).kept k3).kept k4
 replace b2:=(b2.kept k3).kept k4
 replace b3:=b3.kept k4
 have K:=((k1.trans k2).trans k3).trans k4
 clear k1 k2 k3 k4
 iterate 7 go_step
 refine zl b1.range hV ?_
 refine zc 77 _ (hv _ K) ?_
 rintro e w5 ⟨rfl,k⟩
 replace b1:=b1.kept k
 replace b2:=b2.kept k
 replace b3:=b3.kept k
 replace b4:=b4.kept k
 replace K:=K.trans k
 clear k hv
 refine⟨_,rfl,?_⟩
 refine zz ?_
 refine zz ?_
 iterate 3 go_step
 cases ok
 case' true=>
  have hr:=hz rfl
  have HE:brE t=42:=by unfold brE;rw[if_neg (by rw[hok];simp),hr]
  replace hsm:=hsm rfl
  rw[res_smooth,hr] at hsm
  refine zt_false ?_
  iterate 2 go_step
  refine zl b1.range hV ?_
  refine zc 166 _ (hsm _ K) ?_
  rintro e w6 ⟨rfl,k⟩
  replace b2:=b2.kept k
  replace b3:=b3.kept k
  replace b4:=b4.kept k
  replace K:=K.trans k
  refine⟨_,rfl,?_⟩
  refine zz ?_
  iterate 3 go_step
  refine zt_true ?_
 case' false=>
  have HE:brE t=40:=by unfold brE;rw[if_pos hok]
  refine zt_true ?_
 all_goals
  go_step
  refine zz ?_
  iterate 6 go_step
  refine zz ?_
  refine z2 (.bool true) ?_
  iterate 3 go_step
  refine zt_true ?_
  go_step
  refine drawnZ fun wd kd=> ?_
  replace b2:=b2.kept kd
  replace b3:=b3.kept kd
  replace b4:=b4.kept kd
  refine yS 0 (fun _ e=>e▸b2.range) ownZ rfl ?_
  refine yS 1 (fun _ e=>e▸b3.range) ownZ rfl ?_
  refine yS 2 (fun _ e=>e▸b4.range) ownZ rfl ?_
  refine yz 3 rfl ?_
  refine ytailZ 4 b2 b3 b4 ownZ ownZ ownZ ?_
  iterate 4 go_step
  exact zret3 b2 b3 b4 ownZ ownZ ownZ ⟨⟨zeroE,zeroE,zeroE,by rw[HE];rfl,fun h=>absurd (HE.symm.trans h) (by decide),fun _=>⟨rfl,rfl,rfl⟩⟩,K.trans kd⟩
theorem pbranch_calls{w:World}{S:Nat→Bool}{f:Nat}{v:Value}{t:Tree}(hres:Res7 f)(h:Ex (onlyW w S) f v t)(hT:Laid w):Calls Tryz.prog 87 #[v] w (RetBr canT t f S w):=by
 cases ho:t.ok with
 |false=>exact pbranch_bad h hT fun h=>absurd (ho.symm.trans h) (by decide)
 |true=>
  cases hr:resT t with
  |none=>exact pbranch_bad h hT fun _=>hr
  |some p=>exact pbranch_good hres h hT ho hr
end
section
open Go Go.RowKit Go.Dig Go.Deep
open Go.Eng (Kept KW KeptB wp_region_kw kw_call)
set_option maxHeartbeats 4000000 in
set_option maxRecDepth 100000 in
theorem agrees2_calls{f:Nat}{w:World}{r r':Value}{x:Int}{d d':ClaimD}(h:x=0→Clm w f r d∧Clm w f r' d'∧d.ok=true∧d'.ok=true∧sameC d d'=true)(hz:x≠0→r=zeroC∧r'=zeroC):
 Calls Tryz.prog 13 #[r,.int .i64 x,r',.int .i64 x] w fun e w'=>e= .returned (.bool true)∧Kept w w':=by
 by_cases hx:x=0
 ·obtain⟨h1,h2,ho,ho',hsm⟩:=h hx
  have hs:=fun(w':World)(k:Kept w w')=>csame_calls (h1.kept k) (h2.kept k) ho ho'
  rw[hsm] at hs
  obtain⟨o,g,z,x1,x2,x3,x4,x5,x6,nm,a0,n0,cap0,a1,n1,cap1,a2,n2,cap2,rfl,-⟩:=h1
  obtain⟨o',g',z',y1,y2,y3,y4,y5,y6,nm',b0,m0,dap0,b1,m1,dap1,b2,m2,dap2,rfl,-⟩:=h2
  have hA:=Blk.new w #[.int .i64 o,.int .i64 g,.bool z,.slice x1 x2 x3,.slice x4 x5 x6,.string nm,.slice a0 n0 cap0,.bool d.strict,.slice a1 n1 cap1,.slice a2 n2 cap2] 31
  have hB:=Blk.new (w.alloc (.cells #[.int .i64 o,.int .i64 g,.bool z,.slice x1 x2 x3,.slice x4 x5 x6,.string nm,.slice a0 n0 cap0,.bool d.strict,.slice a1 n1 cap1,.slice a2 n2 cap2] 31)) #[.int .i64 o',.int .i64 g',.bool z',.slice y1 y2 y3,.slice y4 y5 y6,.string nm',.slice b0 m0 dap0,.bool d'.strict,.slice b1 m1 dap1,.slice b2 m2 dap2] 31
  rw[show(w.alloc (.cells #[.int .i64 o,.int .i64 g,.bool z,.slice x1 x2 x3,.slice x4 x5 x6,.string nm,.slice a0 n0 cap0,.bool d.strict,.slice a1 n1 cap1,.slice a2 n2 cap2] 31)).heap.size=w.heap.size+1 from Array.size_push _] at hB
  have hk1:Kept w (w.alloc (.cells #[.int .i64 o,.int .i64 g,.bool z,.slice x1 x2 x3,.slice x4 x5 x6,.string nm,.slice a0 n0 cap0,.bool d.strict,.slice a1 n1 cap1,.slice a2 n2 cap2] 31)):=(Kept.refl w).alloc _
  have hk2:Kept (w.alloc (.cells #[.int .i64 o,.int .i64 g,.bool z,.slice x1 x2 x3,.slice x4 x5 x6,.string nm,.slice a0 n0 cap0,.bool d.strict,.slice a1 n1 cap1,.slice a2 n2 cap2] 31)) ((w.alloc (.cells #[.int .i64 o,.int .i64 g,.bool z,.slice x1 x2 x3,.slice x4 x5 x6,.string nm,.slice a0 n0 cap0,.bool d.strict,.slice a1 n1 cap1,.slice a2 n2 cap2] 31)).alloc (.cells #[.int .i64 o',.int .i64 g',.bool z',.slice y1 y2 y3,.slice y4 y5 y6,.string nm',.slice b0 m0 dap0,.bool d'.strict,.slice b1 m1 dap1,.slice b2 m2 dap2] 31)):=(Kept.refl _).alloc _
  replace hA:=hA.kept hk2
  have hk:=hk1.trans hk2
  obtain⟨e0,e1,e2,e3,e4,e5,e6,e7,e8,e9,-⟩:=hA.facts10
  obtain⟨d0,d1,d2,d3,d4,d5,d6,d7,d8,d9,-⟩:=hB.facts10
  subst hx
  clear h hz hk1 hk2
  go_enter Tryz.func13,Tryz.ntmps13
  go_wp2_with(first|(go_at_call 18;refine(hs _ hk).mono ?_;rintro e w2 ⟨rfl,hk3⟩))
  go_ret
  exact⟨rfl,hk.trans hk3⟩
 ·obtain⟨rfl,rfl⟩:=hz hx
  have hn:=fun(w':World)=>nothing_calls w'
  have t1:(x != 0)=true:=by simpa using hx
  have hk:Kept w ((w.alloc (.cells #[.int .i64 0,.int .i64 0,.bool false,.slice none 0 0,.slice none 0 0,.string ⟨#[]⟩,.slice none 0 0,.bool false,.slice none 0 0,.slice none 0 0] 31)).alloc (.cells #[.int .i64 0,.int .i64 0,.bool false,.slice none 0 0,.slice none 0 0,.string ⟨#[]⟩,.slice none 0 0,.bool false,.slice none 0 0,.slice none 0 0] 31)):=((Kept.refl w).alloc _).alloc _
  have hA:=(Blk.new w #[.int .i64 0,.int .i64 0,.bool false,.slice none 0 0,.slice none 0 0,.string ⟨#[]⟩,.slice none 0 0,.bool false,.slice none 0 0,.slice none 0 0] 31).kept ((Kept.refl _).alloc (.cells #[.int .i64 0,.int .i64 0,.bool false,.slice none 0 0,.slice none 0 0,.string ⟨#[]⟩,.slice none 0 0,.bool false,.slice none 0 0,.slice none 0 0] 31))
  obtain⟨e0,e1,e2,e3,e4,e5,e6,e7,e8,e9,-⟩:=hA.facts10
  clear h hz hA
  unfold zeroC
  go_enter Tryz.func13,Tryz.ntmps13
  go_wp2_with(first|(go_at_call 45;refine(hn _).mono ?_;rintro e w2 ⟨rfl,hk3⟩))
  go_ret
  exact⟨rfl,hk.trans hk3⟩
end
section
open Go Go.RowKit Go.Dig
theorem covB_sub{l:List SideD}{vs ts:List ByteArray}(h:∀x,x∈ts→x∈vs)(hc:covB l vs=true):covB l ts=true:=by
 unfold covB at hc⊢
 rw[List.all_eq_true] at hc⊢
 exact fun x hx=>hc x (h x hx)
theorem sameCs_snoc:∀(l:List CondD){a b:CondD},sameT a.t b.t=true→a.strict=b.strict→sameCs (l++[a]) (l++[b])=true
 |[],a,b,h,hs=>by
  rw[List.nil_append,List.nil_append,sameCs,h,hs]
  simp[sameCs]
 |s::l,a,b,h,hs=>by
  rw[List.cons_append,List.cons_append,sameCs,sameT_refl,sameCs_snoc l h hs]
  simp
theorem same_case{g g':Tree}{st:Bool}{bx:List SideD}{cs:List CondD}{a b:CondD}(hg:sameT g g'=true)(h:sameT a.t b.t=true)(hs:a.strict=b.strict):
 sameC ⟨g,st,bx,cs++[a]⟩ ⟨g',st,bx,cs++[b]⟩=true:=by
 unfold sameC sameB
 rw[hg,sameBs_refl,sameCs_snoc cs h hs]
 simp
theorem fitC_of{c:ClaimD}{t:Tree}(hc:c.ok=true)(ht:t.ok=true)(hv:covB c.box (varsT t)=true):fitC c t=0:=by
 unfold fitC
 rw[if_neg (by rw[hc];simp),if_neg (by rw[ht];simp),if_neg (by rw[hv];simp)]
theorem asX_of{c:ClaimD}{t:Tree}(h:fitC c t=0)(hl:c.conds.length<12):asX c t=0:=by
 unfold asX
 rw[if_neg (by rw[h];simp),if_neg (by omega)]
theorem case_cov{c:ClaimD}{cd y n:Tree}(hc:c.ok=true)(hr:resT c.goal=some (cd,y,n)):
 covB c.box (varsT cd)=true∧covB c.box (varsT y)=true∧covB c.box (varsT n)=true:=by
 obtain⟨-,hg,-,-⟩:=ok_parts hc
 have hcov:covB c.box (varsT c.goal)=true:=by
  unfold ClaimD.ok at hc
  simp only[Bool.and_eq_true] at hc
  exact hc.1.2
 have hv:=res_vars c.goal (Tree.ok_good hg) hr
 exact⟨covB_sub (fun x hx=>hv x (.inl hx)) hcov,covB_sub (fun x hx=>hv x (.inr (.inl hx))) hcov,covB_sub (fun x hx=>hv x (.inr (.inr hx))) hcov⟩
theorem case_fit{c:ClaimD}{g k:Tree}{st:Bool}(hc:c.ok=true)(hg:g.ok=true)(hk:k.ok=true)(vg:covB c.box (varsT g)=true)(vk:covB c.box (varsT k)=true)(hl:c.conds.length<12):
 fitC c g=0∧asX ⟨g,st,c.box,c.conds⟩ k=0:=by
 have h1:=fitC_of hc hg vg
 exact⟨h1,asX_of (fitC_of (goal_ok h1) hk vk) hl⟩
end
section
open Go Go.RowKit Go.Dig
def brX(c:ClaimD):Int:=if c.ok=false then 60 else if brE c.goal≠0 then brE c.goal else match resT c.goal with
 |some (cd,_,_)=>if 12≤c.conds.length∨(negT cd).ok=false then 4 else 0
 |none=>0
def caseY(g:Tree→Tree)(c:ClaimD)(cd y:Tree):ClaimD:=⟨g y,c.strict,c.box,c.conds++[⟨g cd,false⟩]⟩
def caseN(g:Tree→Tree)(c:ClaimD)(cd n:Tree):ClaimD:=⟨g n,c.strict,c.box,c.conds++[⟨negT (g cd),true⟩]⟩
theorem brE_zero{t:Tree}(h:brE t=0):t.ok=true∧∃c y n,resT t=some (c,y,n)∧c.ok=true∧y.ok=true∧n.ok=true:=by
 unfold brE at h
 cases ho:t.ok
 ·rw[if_pos ho] at h;cases h
 ·rw[if_neg (by rw[ho];simp)] at h
  cases hr:resT t with
  |none=>rw[hr] at h;cases h
  |some p=>
   obtain⟨c,y,n⟩:=p
   rw[hr] at h
   simp only at h
   by_cases ha:(c.ok&&y.ok&&n.ok)=true
   ·simp only[Bool.and_eq_true] at ha
    exact⟨rfl,c,y,n,rfl,ha.1.1,ha.1.2,ha.2⟩
   ·rw[if_neg ha] at h;cases h
theorem brX_zero{c:ClaimD}(h:brX c=0):c.ok=true∧c.conds.length<12∧∃cd y n,resT c.goal=some (cd,y,n)∧cd.ok=true∧y.ok=true∧n.ok=true∧(negT cd).ok=true:=by
 unfold brX at h
 cases ho:c.ok
 ·rw[if_pos ho] at h;cases h
 ·rw[if_neg (by rw[ho];simp)] at h
  by_cases hb:brE c.goal≠0
  ·rw[if_pos hb] at h;exact absurd h hb
  ·rw[if_neg hb] at h
   obtain⟨-,cd,y,n,hr,h1,h2,h3⟩:=brE_zero (Decidable.not_not.1 hb)
   rw[hr] at h
   simp only at h
   by_cases hl:12≤c.conds.length∨(negT cd).ok=false
   ·rw[if_pos hl] at h;cases h
   ·have h4:(negT cd).ok=true:=by
     cases hn:(negT cd).ok
     ·exact absurd (.inr hn) hl
     ·rfl
    exact⟨rfl,by omega,cd,y,n,hr,h1,h2,h3,h4⟩
theorem caseY_same{c:ClaimD}{cd y:Tree}(h1:cd.ok=true)(h2:y.ok=true):sameC (caseY canT c cd y) (caseY id c cd y)=true:=
 same_case (sameT_can y (well_of_ok h2)) (sameT_can cd (well_of_ok h1)) rfl
theorem caseN_same{c:ClaimD}{cd n:Tree}(h1:cd.ok=true)(h2:n.ok=true):sameC (caseN canT c cd n) (caseN id c cd n)=true:=by
 refine same_case (sameT_can n (well_of_ok h2)) ?_ rfl
 show sameT (negT (canT cd)) (negT cd)=true
 unfold negT
 rw[sameT,sameTs,sameTs,sameT_can cd (well_of_ok h1),sameR_refl]
 simp
theorem neg_cov{l:List SideD}{t:Tree}(h:covB l (varsT t)=true):covB l (varsT (negT t))=true:=covB_sub (fun _ hx=>vars_neg.1 hx) h
theorem caseY_ok{c:ClaimD}{cd y n:Tree}(hc:c.ok=true)(hr:resT c.goal=some (cd,y,n))(hl:c.conds.length<12){y' cd':Tree}(h1:y'.ok=true)(h2:cd'.ok=true)(v1:varsT y'=varsT y)(v2:varsT cd'=varsT cd){sk:Bool}:
 fitC c y'=0∧asX ⟨y',c.strict,c.box,c.conds⟩ cd'=0∧(⟨y',c.strict,c.box,c.conds++[⟨cd',sk⟩]⟩:ClaimD).ok=true:=by
 obtain⟨g1,g2,-⟩:=case_cov hc hr
 obtain⟨f1,f2⟩:=case_fit (st:=c.strict) hc h1 h2 (by rw[v1];exact g2) (by rw[v2];exact g1) hl
 exact⟨f1,f2,assume_ok f2⟩
theorem caseN_ok{c:ClaimD}{cd y n:Tree}(hc:c.ok=true)(hr:resT c.goal=some (cd,y,n))(hl:c.conds.length<12){n' cd':Tree}(h1:n'.ok=true)(h2:(negT cd').ok=true)(v1:varsT n'=varsT n)(v2:varsT cd'=varsT cd){sk:Bool}:
 fitC c n'=0∧asX ⟨n',c.strict,c.box,c.conds⟩ (negT cd')=0∧(⟨n',c.strict,c.box,c.conds++[⟨negT cd',sk⟩]⟩:ClaimD).ok=true:=by
 obtain⟨g1,-,g3⟩:=case_cov hc hr
 obtain⟨f1,f2⟩:=case_fit (st:=c.strict) hc h1 h2 (by rw[v1];exact g3) (neg_cov (by rw[v2];exact g1)) hl
 exact⟨f1,f2,assume_ok f2⟩
end
section
open Go Go.RowKit Go.Dig Go.Deep
open Go.Eng (Kept KW KeptB wp_region_kw kw_call)
theorem Cnm.up{w:World}{f:Nat}{a:Option Addr}{n cap:Nat}{l:List CondD}(h:Cnm w f a n cap l):Cnm w (f+1) a n cap l:=by
 obtain⟨hn,hc,hb,hi⟩:=h
 refine⟨hn,hc,hb,fun i h=> ?_⟩
 obtain⟨b,off,o,g,z,x1,x2,x3,x4,x5,x6,nm,a',n',cap',ha,h0,h1,h2,h3,h4,h5,h6,h7,he⟩:=hi i h
 exact⟨b,off,o,g,z,x1,x2,x3,x4,x5,x6,nm,a',n',cap',ha,h0,h1,h2,h3,h4,h5,h6,h7,he.up 1⟩
theorem Clm.up{w:World}{f:Nat}{v:Value}{c:ClaimD}(h:Clm w f v c):Clm w (f+1) v c:=by
 obtain⟨o,g,z,x1,x2,x3,x4,x5,x6,nm,a0,n0,cap0,a1,n1,cap1,a2,n2,cap2,rfl,h1,h2,h3⟩:=h
 exact⟨o,g,z,x1,x2,x3,x4,x5,x6,nm,a0,n0,cap0,a1,n1,cap1,a2,n2,cap2,rfl,h1.up 1,h2,h3.up⟩
def MoreR(N:Nat)(V:World)(f:Nat)(l:List CondD)(v:Value)(W:World):Prop:=
 ∃g cap cur,v= .slice (some ⟨g,0,none⟩) l.length cap∧N≤g∧Blk W g cur 93∧∀W',Blk W' g cur 93→Sub V W'→Cnm W' f (some ⟨g,0,none⟩) l.length cap l
theorem MoreR.kept{N:Nat}{V:World}{f:Nat}{l:List CondD}{v:Value}{W W1:World}(h:MoreR N V f l v W)(k:Kept W W1):MoreR N V f l v W1:=by
 obtain⟨g,cap,cur,e,hN,hb,h⟩:=h
 exact⟨g,cap,cur,e,hN,hb.kept k,h⟩
theorem more2{N f:Nat}{w V:World}{a:Option Addr}{n cap:Nat}{l:List CondD}{v:Value}{t:Tree}(hV:Sub V w)(hl:Cnm V f a n cap l)(he:Ex V f v t)(st:Bool)(h12:l.length<12)(hN:N≤w.heap.size):
 Calls Tryz.prog 70 #[.slice a n cap,v,.bool st] w fun e w'=>∃v',e= .returned v'∧MoreR N V f (l++[⟨t,st⟩]) v' w'∧Kept w w':=by
 have hn:n=l.length:=hl.1
 subst hn
 refine(more_calls hV hl he st (by omega)).mono ?_
 rintro e w' ⟨a',cap',cs,rfl,⟨base,hb,ho⟩,hr,hk⟩
 obtain⟨g,cur,rfl,hg,hblk,hcap,hcur,hlc,hcs⟩:=own_blk ho (Nat.succ_pos _)
 have hlen:(l++[(⟨t,st⟩:CondD)]).length=l.length+1:=List.length_append
 refine⟨_,rfl,⟨g,cap',cur,by rw[hlen],by omega,hblk,fun W' hW hs=> ?_⟩,hk⟩
 refine Cnm.mk (by rw[hlen];exact hcap) (by rw[hlen];omega) (fun i hi'=>⟨g,rfl,?_⟩) (hr.mono (condR_sub f _ _ hs))
 rw[←hcs i hi',Array.getElem?_eq_getElem (by omega)]
 exact hW.cell i (Array.getElem?_eq_getElem (by omega))
section
variable{n:Nat}{l:Fm}{oi:Oper}{w:World}
theorem run31{x0 x1 x2 x3:Operand}{Y:Array Value}{s:Bool}{a1:Option Addr}{n1 c1:Nat}{a2:Option Addr}{n2 c2:Nat}(hY:Own 27 Y)(hop:oi.op= .build 31 #[(0,x0),(1,x1),(2,x2),(3,x3)])
 (h0:opv n l x0=some (.agg Y))(h1:opv n l x1=some (.bool s))(h2:opv n l x2=some (.slice a1 n1 c1))(h3:opv n l x3=some (.slice a2 n2 c2)):
 (execOp (ev n l) oi).run Tryz.prog w= .ok (.value (.agg (Y++#[.bool s,.slice a1 n1 c1,.slice a2 n2 c2]))) w:=by
 obtain⟨y0,y1,y2,y3,y4,y5,y6,rfl⟩:=arr7 hY.size7
 unfold execOp
 rw[hop]
 simp only[List.map_toArray,List.map_cons,List.map_nil,ev_of h0,ev_of h1,ev_of h2,ev_of h3]
 kernel_rfl
end
theorem Blk.goal{w:World}{b:Nat}{t:TypeId}{Y:Array Value}{x y z:Value}(h:Blk w b (Y++#[x,y,z]) t):w.rangeAt b 0 Y.toList:=fun j v hv=>h.range j v (by
 rw[Array.toList_append,List.getElem?_append_left]
 ·exact hv
 ·rcases Nat.lt_or_ge j Y.toList.length with hl|hl
  ·exact hl
  ·rw[List.getElem?_eq_none hl] at hv;cases hv)
theorem Blk.rest{w:World}{b:Nat}{t:TypeId}{Y:Array Value}{x y z:Value}(h:Blk w b (Y++#[x,y,z]) t)(hY:Own 27 Y):w.cell? ⟨b,7,none⟩=some x∧w.cell? ⟨b,8,none⟩=some y∧w.cell? ⟨b,9,none⟩=some z:=by
 obtain⟨y0,y1,y2,y3,y4,y5,y6,rfl⟩:=arr7 hY.size7
 exact⟨h.cell 7 (by simp),h.cell 8 (by simp),h.cell 9 (by simp)⟩
theorem zero_own{be:Int}{W:World}{f:Nat}{vc vy vn:Value}{t:Tree}{g:Tree→Tree}(h1:be=0→∀c y n,resT t=some (c,y,n)→Ex W f vc (g c)∧Ex W f vy (g y)∧Ex W f vn (g n))(h2:be≠0→vc=zeroE∧vy=zeroE∧vn=zeroE)(hb:be=brE t):
 ∃C Y N,vc= .agg C∧vy= .agg Y∧vn= .agg N∧Own 27 C∧Own 27 Y∧Own 27 N:=by
 by_cases h:be=0
 ·obtain⟨-,c,y,n,hr,-⟩:=brE_zero (hb▸h)
  obtain⟨k1,k2,k3⟩:=h1 h c y n hr
  obtain⟨C,rfl,oC⟩:=k1.own
  obtain⟨Y,rfl,oY⟩:=k2.own
  obtain⟨N,rfl,oN⟩:=k3.own
  exact⟨C,Y,N,rfl,rfl,rfl,oC,oY,oN⟩
 ·obtain⟨rfl,rfl,rfl⟩:=h2 h
  exact⟨Z7,Z7,Z7,rfl,rfl,rfl,ownZ,ownZ,ownZ⟩
theorem brX_60{c:ClaimD}(h:c.ok=false):brX c=60:=by unfold brX;rw[if_pos h]
theorem brX_e{c:ClaimD}(h:c.ok=true)(hb:brE c.goal≠0):brX c=brE c.goal:=by unfold brX;rw[if_neg (by rw[h];simp),if_pos hb]
theorem brX_4{c:ClaimD}{cd y n:Tree}(h:c.ok=true)(hb:brE c.goal=0)(hr:resT c.goal=some (cd,y,n))(hl:12≤c.conds.length∨(negT cd).ok=false):brX c=4:=by
 unfold brX
 rw[if_neg (by rw[h];simp),if_neg (by simpa using hb),hr]
 simp only
 rw[if_pos hl]
theorem brX_0{c:ClaimD}{cd y n:Tree}(h:c.ok=true)(hb:brE c.goal=0)(hr:resT c.goal=some (cd,y,n))(hl:¬(12≤c.conds.length∨(negT cd).ok=false)):brX c=0:=by
 unfold brX
 rw[if_neg (by rw[h];simp),if_neg (by simpa using hb),hr]
 simp only
 rw[if_neg hl]
end
section
open Go Go.RowKit Go.Dig Go.Deep
open Go.Eng (Kept KW KeptB wp_region_kw kw_call)
def RetX(g:Tree→Tree)(c:ClaimD)(f:Nat)(w:World)(e:Ending)(w':World):Prop:=
 (∃r s,e= .returned (.tuple #[r,s,.int .i64 (brX c)])∧(brX c=0→∀cd y n,resT c.goal=some (cd,y,n)→Clm w' f r (caseY g c cd y)∧Clm w' f s (caseN g c cd n))∧(brX c≠0→r=zeroC∧s=zeroC))∧Kept w w'
set_option maxHeartbeats 8000000
set_option maxRecDepth 100000
theorem claimBranches_of(hsane:∀w,Laid6 w→Calls Tryz.prog 14 #[] w fun e w'=>e= .returned (.bool true)∧Kept w w'){f:Nat}{w:World}{v:Value}{c:ClaimD}(h:Clm w f v c)(hL:Laid6 w)
 (h31:∀w',Kept w w'→Calls Tryz.prog 31 #[v] w' (RetX canT c f w'))(h32:∀w',Kept w w'→Calls Tryz.prog 32 #[v] w' (RetX id c f w')):
 Calls Tryz.prog 10 #[v] w fun e w'=>e= .returned (.bool true)∧Kept w w':=by
 have H5:=Lib.hid (fun(w':World)(k:Kept w w')=>hsane w' (hL.kept k))
 unfold RetX at h31 h32
 have HZ:Hid (brX c=0→c.ok=true∧c.conds.length<12∧∃cd y n,resT c.goal=some (cd,y,n)∧cd.ok=true∧y.ok=true∧n.ok=true∧(negT cd).ok=true):=Lib.hid brX_zero
 generalize brX c=x at*
 obtain⟨o,g,z,x1,x2,x3,x4,x5,x6,nm,a0,n0,cap0,a1,n1,cap1,a2,n2,cap2,rfl,-⟩:=h
 clear hsane hL
 generalize c.strict=cst at*
 have hA:=Blk.new w #[.int .i64 o,.int .i64 g,.bool z,.slice x1 x2 x3,.slice x4 x5 x6,.string nm,.slice a0 n0 cap0,.bool cst,.slice a1 n1 cap1,.slice a2 n2 cap2] 31
 have hk0:Kept w (w.alloc (.cells #[.int .i64 o,.int .i64 g,.bool z,.slice x1 x2 x3,.slice x4 x5 x6,.string nm,.slice a0 n0 cap0,.bool cst,.slice a1 n1 cap1,.slice a2 n2 cap2] 31)):=(Kept.refl w).alloc _
 have key:∀(g:Tree→Tree)(r s:Value)(W:World),(x=0→∀cd y n,resT c.goal=some (cd,y,n)→Clm W f r (caseY g c cd y)∧Clm W f s (caseN g c cd n))→(x≠0→r=zeroC∧s=zeroC)→
  (∃p0 p1 p2 p3 p4 p5 p6 p7 p8 p9 pa pb pc pd pe pf pg ph pi pj,r= .agg #[.int .i64 p0,.int .i64 p1,.bool p2,.slice p3 p4 p5,.slice p6 p7 p8,.string p9,.slice pa pb pc,.bool pd,.slice pe pf pg,.slice ph pi pj])∧∃q0 q1 q2 q3 q4 q5 q6 q7 q8 q9 qa qb qc qd qe qf qg qh qi qj,s= .agg #[.int .i64 q0,.int .i64 q1,.bool q2,.slice q3 q4 q5,.slice q6 q7 q8,.string q9,.slice qa qb qc,.bool qd,.slice qe qf qg,.slice qh qi qj]:=by
  intro g r s W ha hb
  by_cases hx:x=0
  ·obtain⟨-,-,cd,y,n,hr,-⟩:=HZ.out hx
   obtain⟨h1,h2⟩:=ha hx cd y n hr
   exact⟨ret_shape (x:=0) (fun _=>h1) (fun h=>absurd rfl h),ret_shape (x:=0) (fun _=>h2) (fun h=>absurd rfl h)⟩
  ·obtain⟨rfl,rfl⟩:=hb hx
   exact⟨ret_shape (x:=1) (d:=c) (f:=f) (V:=W) (fun h=>absurd h (by decide)) (fun _=>rfl),ret_shape (x:=1) (d:=c) (f:=f) (V:=W) (fun h=>absurd h (by decide)) (fun _=>rfl)⟩
 have KEY:=Lib.hid key
 clear key
 go_enter Tryz.func10,Tryz.ntmps10
 go_wp2_with fail
 refine(h31 _ hk0).mono ?_
 rintro e w1 ⟨⟨r,s,rfl,hra,hrz⟩,hk1⟩
 obtain⟨⟨p0,p1,p2,p3,p4,p5,p6,p7,p8,p9,pa,pb,pc,pd,pe,pf,pg,ph,pi,pj,rfl⟩,q0,q1,q2,q3,q4,q5,q6,q7,q8,q9,qa,qb,qc,qd,qe,qf,qg,qh,qi,qj,rfl⟩:=KEY.out canT r s w1 hra hrz
 have hkP:Kept w1 ((w1.alloc (.cells #[.int .i64 p0,.int .i64 p1,.bool p2,.slice p3 p4 p5,.slice p6 p7 p8,.string p9,.slice pa pb pc,.bool pd,.slice pe pf pg,.slice ph pi pj] 31)).alloc (.cells #[.int .i64 q0,.int .i64 q1,.bool q2,.slice q3 q4 q5,.slice q6 q7 q8,.string q9,.slice qa qb qc,.bool qd,.slice qe qf qg,.slice qh qi qj] 31)):=((Kept.refl w1).alloc _).alloc _
 have hkw1:=(hk0.trans hk1).trans hkP
 obtain⟨e0,e1,e2,e3,e4,e5,e6,e7,e8,e9,-⟩:=((hA.kept hk1).kept hkP).facts10
 go_wp2_with fail
 refine(h32 _ hkw1).mono ?_
 rintro e w2 ⟨⟨r',s',rfl,hrb,hry⟩,hk2⟩
 obtain⟨⟨t0,t1,t2,t3,t4,t5,t6,t7,t8,t9,ta,tb,tc,td,te,tf,tg,th,ti,tj,rfl⟩,u0,u1,u2,u3,u4,u5,u6,u7,u8,u9,ua,ub,uc,ud,ue,uf,ug,uh,ui,uj,rfl⟩:=KEY.out id r' s' w2 hrb hry
 have hk12:=hkP.trans hk2
 have hkQ:Kept w2 ((w2.alloc (.cells #[.int .i64 t0,.int .i64 t1,.bool t2,.slice t3 t4 t5,.slice t6 t7 t8,.string t9,.slice ta tb tc,.bool td,.slice te tf tg,.slice th ti tj] 31)).alloc (.cells #[.int .i64 u0,.int .i64 u1,.bool u2,.slice u3 u4 u5,.slice u6 u7 u8,.string u9,.slice ua ub uc,.bool ud,.slice ue uf ug,.slice uh ui uj] 31)):=((Kept.refl w2).alloc _).alloc _
 obtain⟨hP,hQ,-⟩:=al2k (hk2.trans hkQ)
 obtain⟨hT,hU,-⟩:=al2k (Kept.refl ((w2.alloc (.cells #[.int .i64 t0,.int .i64 t1,.bool t2,.slice t3 t4 t5,.slice t6 t7 t8,.string t9,.slice ta tb tc,.bool td,.slice te tf tg,.slice th ti tj] 31)).alloc (.cells #[.int .i64 u0,.int .i64 u1,.bool u2,.slice u3 u4 u5,.slice u6 u7 u8,.string u9,.slice ua ub uc,.bool ud,.slice ue uf ug,.slice uh ui uj] 31)))
 have hkz:=hk12.trans hkQ
 have hag1:∀W,Kept ((w2.alloc (.cells #[.int .i64 t0,.int .i64 t1,.bool t2,.slice t3 t4 t5,.slice t6 t7 t8,.string t9,.slice ta tb tc,.bool td,.slice te tf tg,.slice th ti tj] 31)).alloc (.cells #[.int .i64 u0,.int .i64 u1,.bool u2,.slice u3 u4 u5,.slice u6 u7 u8,.string u9,.slice ua ub uc,.bool ud,.slice ue uf ug,.slice uh ui uj] 31)) W→Calls Tryz.prog 13 #[.agg #[.int .i64 p0,.int .i64 p1,.bool p2,.slice p3 p4 p5,.slice p6 p7 p8,.string p9,.slice pa pb pc,.bool pd,.slice pe pf pg,.slice ph pi pj],.int .i64 x,.agg #[.int .i64 t0,.int .i64 t1,.bool t2,.slice t3 t4 t5,.slice t6 t7 t8,.string t9,.slice ta tb tc,.bool td,.slice te tf tg,.slice th ti tj],.int .i64 x] W fun e w'=>e= .returned (.bool true)∧Kept W w':=by
  intro W hW
  by_cases hx:x=0
  ·obtain⟨hc,hl,cd,y,n,hr,o1,o2,o3,o4⟩:=HZ.out hx
   obtain⟨-,-,ok1⟩:=caseY_ok hc hr hl (can_ok o2) (can_ok o1) (vars_can y) (vars_can cd) (sk:=false)
   obtain⟨-,-,ok2⟩:=caseY_ok hc hr hl o2 o1 rfl rfl (sk:=false)
   exact agrees2_calls (d:=caseY canT c cd y) (d':=caseY id c cd y) (fun _=>⟨(hra hx cd y n hr).1.kept (hkz.trans hW),(hrb hx cd y n hr).1.kept (hkQ.trans hW),ok1,ok2,caseY_same o1 o2⟩) (fun h=>absurd hx h)
  ·exact agrees2_calls (f:=f) (d:=c) (d':=c) (fun h=>absurd h hx) (fun h=>⟨(hrz h).1,(hry h).1⟩)
 have hag2:∀W,Kept ((w2.alloc (.cells #[.int .i64 t0,.int .i64 t1,.bool t2,.slice t3 t4 t5,.slice t6 t7 t8,.string t9,.slice ta tb tc,.bool td,.slice te tf tg,.slice th ti tj] 31)).alloc (.cells #[.int .i64 u0,.int .i64 u1,.bool u2,.slice u3 u4 u5,.slice u6 u7 u8,.string u9,.slice ua ub uc,.bool ud,.slice ue uf ug,.slice uh ui uj] 31)) W→Calls Tryz.prog 13 #[.agg #[.int .i64 q0,.int .i64 q1,.bool q2,.slice q3 q4 q5,.slice q6 q7 q8,.string q9,.slice qa qb qc,.bool qd,.slice qe qf qg,.slice qh qi qj],.int .i64 x,.agg #[.int .i64 u0,.int .i64 u1,.bool u2,.slice u3 u4 u5,.slice u6 u7 u8,.string u9,.slice ua ub uc,.bool ud,.slice ue uf ug,.slice uh ui uj],.int .i64 x] W fun e w'=>e= .returned (.bool true)∧Kept W w':=by
  intro W hW
  by_cases hx:x=0
  ·obtain⟨hc,hl,cd,y,n,hr,o1,o2,o3,o4⟩:=HZ.out hx
   obtain⟨-,-,ok1⟩:=caseN_ok hc hr hl (can_ok o3) (by rw[neg_ok cd (well_of_ok o1)];exact o4) (vars_can n) (vars_can cd) (sk:=true)
   obtain⟨-,-,ok2⟩:=caseN_ok hc hr hl o3 o4 rfl rfl (sk:=true)
   exact agrees2_calls (d:=caseN canT c cd n) (d':=caseN id c cd n) (fun _=>⟨(hra hx cd y n hr).2.kept (hkz.trans hW),(hrb hx cd y n hr).2.kept (hkQ.trans hW),ok1,ok2,caseN_same o1 o3⟩) (fun h=>absurd hx h)
  ·exact agrees2_calls (f:=f) (d:=c) (d':=c) (fun h=>absurd h hx) (fun h=>⟨(hrz h).2,(hry h).2⟩)
 clear e0 e1 e2 e3 e4 e5 e6 e7 e8 e9 hra hrz hrb hry
 obtain⟨e0,e1,e2,e3,e4,e5,e6,e7,e8,e9,-⟩:=hP.facts10
 obtain⟨d0,d1,d2,d3,d4,d5,d6,d7,d8,d9,-⟩:=hT.facts10
 go_wp2_with fail
 refine(hag1 _ (Kept.refl _)).mono ?_
 rintro e w3 ⟨rfl,hk3⟩
 clear e0 e1 e2 e3 e4 e5 e6 e7 e8 e9 d0 d1 d2 d3 d4 d5 d6 d7 d8 d9 hag1
 obtain⟨e0,e1,e2,e3,e4,e5,e6,e7,e8,e9,-⟩:=(hQ.kept hk3).facts10
 obtain⟨d0,d1,d2,d3,d4,d5,d6,d7,d8,d9,-⟩:=(hU.kept hk3).facts10
 go_wp2_with fail
 refine(hag2 _ hk3).mono ?_
 rintro e w4 ⟨rfl,hk4⟩
 have hall:=((((hk0.trans hk1).trans hkz).trans hk3).trans hk4)
 clear e0 e1 e2 e3 e4 e5 e6 e7 e8 e9 d0 d1 d2 d3 d4 d5 d6 d7 d8 d9 hag2
 go_wp2_with fail
 refine(H5.out _ hall).mono ?_
 rintro e w5 ⟨rfl,hk5⟩
 go_wp2
 go_ret
 exact⟨rfl,hall.trans hk5⟩
end
section
open Go Go.RowKit Go.Dig Go.Deep
open Go.Eng (Kept KW KeptB wp_region_kw kw_call)
set_option maxHeartbeats 16000000
set_option maxRecDepth 100000
theorem r6branch_calls{f:Nat}{w:World}{v:Value}{c:ClaimD}(h:Clm w f v c)(hT:Laid w)
 (hB:∀{W:World}{S:Nat→Bool}{v:Value}{t:Tree},Ex (onlyW W S) f v t→Laid W→Calls Tryz.prog 89 #[v] W (RetBr id t f S W)):Calls Tryz.prog 32 #[v] w (RetX id c (f+1) w):=by
 have hv:=fun(w':World)(k:Kept w w')=>r6valid_calls (h.kept k) (hT.kept k)
 obtain⟨V,Y,a1,n1,c1,a2,n2,c2,rfl,eV,oV,oY,hgoal,hbox,hcnd⟩:=h.own
 clear h
 generalize hok:c.ok=ok at hv
 refine ent1 65 Tryz.func32 rfl Tryz.ntmps32 ?_
 iterate 2 go_step
 refine zb fun w1 g1 e1 k1 b1 s1=> ?_
 refine za Z10 31 fun w2 g2 e2 k2 b2 s2=> ?_
 refine za Z10 31 fun w3 g3 e3 k3 b3 s3=> ?_
 refine zz ?_
 replace b1:=(b1.kept k2).kept k3
 replace b2:=b2.kept k3
 have K:=(k1.trans k2).trans k3
 clear k1 k2 k3
 iterate 6 go_step
 refine zl b1.range oV ?_
 refine zc 27 _ (hv _ K) ?_
 rintro e wq ⟨rfl,k⟩
 replace b1:=b1.kept k
 replace b2:=b2.kept k
 replace b3:=b3.kept k
 replace K:=K.trans k
 have sq:=k.size
 clear k hv
 refine⟨_,rfl,?_⟩
 refine zz ?_
 iterate 3 go_step
 cases ok
 case' false=>
  refine zt_true ?_
  iterate 2 go_step
  refine zr (.agg Z10) ?_
  refine zr (.agg Z10) ?_
  refine fin2 b2 b3 (by omega) ownZ10 ownZ10 ownZ10 ownZ10 fun wf lf m2 m3=> ?_
  iterate 5 go_step
  exact zret2 m2 m3 ownZ10 ownZ10 ⟨⟨zeroC,zeroC,by rw[brX_60 hok];rfl,fun h=>absurd ((brX_60 hok).symm.trans h) (by decide),fun _=>⟨rfl,rfl⟩⟩,kept_then K lf (by omega)⟩
 refine zt_false ?_
 iterate 5 go_step
 subst eV
 refine zr (.pointer (some ⟨g1,0,none⟩)) ?_
 refine zl b1.goal oY ?_
 refine zc 89 _ (hB (hgoal.sub (sub_old K)) (hT.kept K)) ?_
 rintro e wa ⟨⟨vc,vy,vn,rfl,hgood,hbad⟩,k⟩
 replace b1:=b1.kept k
 replace b2:=b2.kept k
 replace b3:=b3.kept k
 replace K:=K.trans k
 have sa:=k.size
 clear k
 generalize hbe:brE c.goal=be at*
 obtain⟨C,Y',N',rfl,rfl,rfl,oC,oY',oN'⟩:=zero_own hgood hbad hbe.symm
 refine⟨_,rfl,?_⟩
 refine zz ?_
 refine zz ?_
 refine zz ?_
 refine zz ?_
 refine zz ?_
 refine za Z7 27 fun u1 g5 e5 k1 b5 s5=> ?_
 refine za Z7 27 fun u2 g6 e6 k2 b6 s6=> ?_
 refine za Z7 27 fun u3 g7 e7 k3 b7 s7=> ?_
 refine zt ((b5.kept k2).kept k3) ownZ oC fun u4 k4 b5=> ?_
 refine zt ((b6.kept k3).keptB k4 (by omega)) ownZ oY' fun u5 k5 b6=> ?_
 refine zt ((b7.keptB k4 (by omega)).keptB k5 (by omega)) ownZ oN' fun u6 k6 b7=> ?_
 refine zz ?_
 replace b5:=(b5.keptB k5 (by omega)).keptB k6 (by omega)
 replace b6:=b6.keptB k6 (by omega)
 have A:=((((k1.trans k2).trans k3).but k4 (by omega)).but k5 (by omega)).but k6 (by omega)
 have sb:=A.size
 have sc:=k6.size
 have sd:=k5.size
 have se:=k4.size
 clear k1 k2 k3 k4 k5 k6
 iterate 6 go_step
 refine zz ?_
 refine z2 (.bool (be != 0)) ?_
 iterate 3 go_step
 cases hq:be != 0
 case' true=>
  have hb0:be≠0:=by simpa using hq
  refine zt_true ?_
  iterate 2 go_step
  refine zr (.agg Z10) ?_
  refine zr (.agg Z10) ?_
  refine zz ?_
  refine fin2 (b2.kept A) (b3.kept A) (by omega) ownZ10 ownZ10 ownZ10 ownZ10 fun wf lf m2 m3=> ?_
  iterate 5 go_step
  have hX:brX c=be:=by rw[brX_e hok (by rw[hbe];exact hb0),hbe]
  exact zret2 m2 m3 ownZ10 ownZ10 ⟨⟨zeroC,zeroC,by rw[hX];rfl,fun h=>absurd (hX.symm.trans h) hb0,fun _=>⟨rfl,rfl⟩⟩,kept_then (K.trans A) lf (by omega)⟩
 have hb0:be=0:=by simpa using hq
 subst hb0
 obtain⟨-,cd,y,n,hrt,-⟩:=brE_zero hbe
 obtain⟨xc,xy,xn⟩:=hgood rfl cd y n hrt
 replace xc:Ex _ f (.agg C) cd:=xc
 replace xy:Ex _ f (.agg Y') y:=xy
 replace xn:Ex _ f (.agg N') n:=xn
 clear hgood hbad hq
 refine zt_false ?_
 iterate 5 go_step
 refine zl b5.range oC ?_
 refine z25 oC fun u1 g8 e8 k1 b8 s8=> ?_
 refine zr (.agg (M7 g8)) ?_
 refine za Z7 27 fun u2 g9 e9 k2 b9 s9=> ?_
 refine zt b9 ownZ (ownM g8) fun wc q b9=> ?_
 have sf:=q.size
 have B:=(k1.trans k2).but q (by omega)
 replace b8:=(b8.kept k2).keptB q (by omega)
 replace b5:=b5.kept B
 replace b6:=b6.kept B
 replace b7:=b7.kept B
 replace A:=A.trans B
 replace b1:=b1.kept A
 replace b2:=b2.kept A
 replace b3:=b3.kept A
 replace K:=K.trans A
 have hin:=nxt_out (lo:=g2) (hi:=g3+1) (m:=w.heap.size) (n:=wq.heap.size) A (by omega) (by omega)
 have hio:=old_out (lo:=g2) (hi:=g3+1) K (by omega)
 replace xc:=xc.sub hin
 replace xy:=xy.sub hin
 replace xn:=xn.sub hin
 have xm:=xc.neg oC (out_true (by omega)) b8
 replace hbox:=hbox.sub hio
 replace hcnd:=hcnd.sub hio
 clear hin hio k1 k2 q B A hgoal b8
 obtain⟨i7,i8,i9⟩:=b1.rest oY
 iterate 6 go_step
 refine zr (.pointer (some ⟨g1,9,none⟩)) ?_
 refine zl1 i9 ?_
 refine zr (.int .i64 n2) ?_
 refine z2 (.bool (decide (12≤(n2:Int)))) ?_
 refine zz ?_
 have hn2:n2=c.conds.length:=hcnd.1
 cases hl:decide (12≤(n2:Int))
 case' true=>
  have hX:brX c=4:=brX_4 hok hbe hrt (.inl (by have:=of_decide_eq_true hl;omega))
  refine zskip ?_
  refine zskip ?_
  refine zskip ?_
  refine zr (.bool true) ?_
  iterate 3 go_step
  refine zt_true ?_
  iterate 2 go_step
  refine zr (.agg Z10) ?_
  refine zr (.agg Z10) ?_
  refine fin2 b2 b3 (by omega) ownZ10 ownZ10 ownZ10 ownZ10 fun wf lf m2 m3=> ?_
  iterate 5 go_step
  exact zret2 m2 m3 ownZ10 ownZ10 ⟨⟨zeroC,zeroC,by rw[hX];rfl,fun h=>absurd (hX.symm.trans h) (by decide),fun _=>⟨rfl,rfl⟩⟩,kept_then K lf (by omega)⟩
 have hlt:c.conds.length<12:=by have:=of_decide_eq_false hl;omega
 have hm:=fun(w':World)(k:Kept wc w')=>rvalid_calls (((xm.sub (only_sub _ _)).kept k)) ((hT.kept K).kept k)
 generalize hok2:(negT cd).ok=ok2 at hm
 refine zwant ?_
 refine zl b9.range (ownM g8) ?_
 refine zwant ?_
 refine zc 73 _ (hm _ (Kept.refl _)) ?_
 rintro e wd ⟨rfl,k⟩
 have D:Lk g2 (g3+1) wc wd:=kept_lk k _ _
 replace b2:=b2.kept k
 replace b3:=b3.kept k
 have Kd:=K.trans k
 have sg:=k.size
 clear k hm
 refine⟨_,rfl,?_⟩
 refine zwant ?_
 refine zz ?_
 cases ok2
 case' false=>
  have hX:brX c=4:=brX_4 hok hbe hrt (.inr hok2)
  refine zr (.bool true) ?_
  iterate 3 go_step
  refine zt_true ?_
  iterate 2 go_step
  refine zr (.agg Z10) ?_
  refine zr (.agg Z10) ?_
  refine fin2 b2 b3 (by omega) ownZ10 ownZ10 ownZ10 ownZ10 fun wf lf m2 m3=> ?_
  iterate 5 go_step
  exact zret2 m2 m3 ownZ10 ownZ10 ⟨⟨zeroC,zeroC,by rw[hX];rfl,fun h=>absurd (hX.symm.trans h) (by decide),fun _=>⟨rfl,rfl⟩⟩,kept_then Kd lf (by omega)⟩
 have hX:brX c=0:=brX_0 hok hbe hrt (by rintro(h|h)<;>first|omega|exact absurd (hok2.symm.trans h) (by decide))
 refine zr (.bool false) ?_
 iterate 3 go_step
 refine zt_false ?_
 iterate 4 go_step
 replace xc:=xc.up 1
 replace xy:=xy.up 1
 replace xn:=xn.up 1
 replace hcnd:=hcnd.up
 have hlv:=b7.lt
 refine drawn g2 (g3+1) fun hS=> ?_
 refine yl 0 (D.blk b6 (by omega)).range (by omega) oY' hS ?_
 refine yr 1 (.pointer (some ⟨g1,7,none⟩)) hS ?_
 refine yl1 2 (D.cell i7 (.inl (by show g1<g2;omega))) (by omega) hS ?_
 refine yr 3 (.pointer (some ⟨g1,8,none⟩)) hS ?_
 refine yl1 4 (D.cell i8 (.inl (by show g1<g2;omega))) (by omega) hS ?_
 refine yr 5 (.pointer (some ⟨g1,9,none⟩)) hS ?_
 refine yl1 6 (D.cell i9 (.inl (by show g1<g2;omega))) (by omega) hS ?_
 refine yl 7 (D.blk b5 (by omega)).range (by omega) oC hS ?_
 refine yca 8 10 9 (fun v=>.agg (Y'++#[.bool c.strict,.slice a1 n1 c1,v])) 70 #[.slice a2 n2 c2,.agg C,.bool false] Z10 31 hS (fun W k=>more2 (N:=wd.heap.size) (((D.trans hS).kept k).out) hcnd xc false hlt k.size) (fun _ _ _ p k=>p.kept k) (hb:=by rintro v W ⟨_,_,_,rfl,_⟩ _;exact run31 oY' rfl rfl rfl rfl rfl) (hb2:=by rintro v W ⟨_,_,_,rfl,_⟩ _ _;exact run31 oY' rfl rfl rfl rfl rfl) fun W9 g10 u hg hg' k9 b10 hu hS9=> ?_
 obtain⟨ge,ce,cur,rfl,hge,be,hM⟩:=hu
 have hne:=blk_ne be b10 (by decide)
 replace k9:=(Kept.refl wd).drew.trans k9
 have sx:wd.drew.heap.size=wd.heap.size:=rfl
 refine yt 11 b10 ownZ10 (own31 oY') (.inr hg) hS9 fun W10 q b10 hS10=> ?_
 refine yend ?_
 replace be:=be.keptB q hne
 replace D:=D.trans hS10
 replace b2:Blk W10 g2 Z10 31:=((b2.kept k9).keptB q (by omega))
 replace b3:Blk W10 g3 Z10 31:=((b3.kept k9).keptB q (by omega))
 have sh:=q.size
 have si:=k9.size
 clear hS hS9 hS10 q k9
 iterate 3 go_step
 refine drawn g2 (g3+1) fun hS=> ?_
 refine yl 0 (D.blk b7 (by omega)).range (by omega) oN' hS ?_
 refine yr 1 (.pointer (some ⟨g1,7,none⟩)) hS ?_
 refine yl1 2 (D.cell i7 (.inl (by show g1<g2;omega))) (by omega) hS ?_
 refine yr 3 (.pointer (some ⟨g1,8,none⟩)) hS ?_
 refine yl1 4 (D.cell i8 (.inl (by show g1<g2;omega))) (by omega) hS ?_
 refine yr 5 (.pointer (some ⟨g1,9,none⟩)) hS ?_
 refine yl1 6 (D.cell i9 (.inl (by show g1<g2;omega))) (by omega) hS ?_
 refine yl 7 (D.blk b9 (by omega)).range (by omega) (ownM g8) hS ?_
 refine yca 8 10 9 (fun v=>.agg (N'++#[.bool c.strict,.slice a1 n1 c1,v])) 70 #[.slice a2 n2 c2,.agg (M7 g8),.bool true] Z10 31 hS (fun W k=>more2 (N:=W10.heap.size) (((D.trans hS).kept k).out) hcnd xm true hlt k.size) (fun _ _ _ p k=>p.kept k) (hb:=by rintro v W ⟨_,_,_,rfl,_⟩ _;exact run31 oN' rfl rfl rfl rfl rfl) (hb2:=by rintro v W ⟨_,_,_,rfl,_⟩ _ _;exact run31 oN' rfl rfl rfl rfl rfl) fun W11 g11 u hg2 hg2' k11 b11 hu hS11=> ?_
 obtain⟨gf,cf,cuf,rfl,hgf,bf,hM'⟩:=hu
 have hne':=blk_ne bf b11 (by decide)
 replace k11:=(Kept.refl W10).drew.trans k11
 have sy:W10.drew.heap.size=W10.heap.size:=rfl
 refine yt 11 b11 ownZ10 (own31 oN') (.inr hg2) hS11 fun W12 q b11 hS12=> ?_
 refine yend ?_
 replace bf:=bf.keptB q hne'
 replace D:=D.trans hS12
 replace b2:Blk W12 g2 Z10 31:=((b2.kept k11).keptB q (by omega))
 replace b3:Blk W12 g3 Z10 31:=((b3.kept k11).keptB q (by omega))
 replace be:=be.kept k11 |>.keptB q (by have:=be.lt;omega)
 replace b10:=b10.kept k11 |>.keptB q (by omega)
 have sj:=q.size
 have sk:=k11.size
 clear hS hS11 hS12 q k11
 iterate 3 go_step
 refine drawn g2 (g3+1) fun hS=> ?_
 refine yl 0 b10.range (by omega) (own31 oY') hS ?_
 refine yl 1 b11.range (by omega) (own31 oN') hS ?_
 refine yfin2 2 (b2.kept (Kept.refl _).drew) (b3.kept (Kept.refl _).drew) (by omega) ownZ10 ownZ10 (own31 oY') (own31 oN') (hS.but setRow_keptB (by omega)) ((hS.but setRow_keptB (by omega)).but setRow_keptB (by omega)) fun lf m2 m3=> ?_
 have hE:=hS.trans lf
 replace D:=D.trans hE
 have hs:=D.out
 iterate 3 go_step
 refine zret2 m2 m3 (own31 oY') (own31 oN') ⟨⟨_,_,by rw[hX],fun _ cd' y' n' hr=> ?_,fun h=>absurd hX h⟩,kept_then K D (by omega)⟩
 cases hrt.symm.trans hr
 exact⟨Clm.of (c:=caseY id c cd y) (xy.sub hs) (hbox.sub hs) (hM _ (hE.blk be (by omega)) hs),Clm.of (c:=caseN id c cd n) (xn.sub hs) (hbox.sub hs) (hM' _ (hE.blk bf (by omega)) hs)⟩
end
section
open Go Go.RowKit Go.Dig Go.Deep
open Go.Eng (Kept KW KeptB wp_region_kw kw_call)
theorem al4k'{w w5:World}{A B C D:Array Value}{t u v x:TypeId}(k:Kept ((((w.alloc (.cells A t)).alloc (.cells B u)).alloc (.cells C v)).alloc (.cells D x)) w5):
 Blk w5 w.heap.size A t∧Blk w5 (w.heap.size+1) B u∧Blk w5 (w.heap.size+1+1) C v∧Blk w5 (w.heap.size+1+1+1) D x∧Kept w w5∧w.heap.size+4≤w5.heap.size:=by
 obtain⟨h1,h2,h3,h4,h5,h6⟩:=al4 (w:=w) (A:=A) (t:=t) (B:=B) (u:=u) (C:=C) (v:=v) (D:=D) (x:=x) rfl
 exact⟨h1.kept k,h2.kept k,h3.kept k,h4.kept k,h5.trans k,by have:=k.size;omega⟩
set_option maxHeartbeats 16000000
set_option maxRecDepth 100000
theorem case_calls{f:Nat}{w:World}{S:Nat→Bool}{v u x:Value}{c:ClaimD}{g k:Tree}(h:Clm (onlyW w S) f v c)(hu:Ex (onlyW w S) f u g)(hx:Ex (onlyW w S) f x k)(hT:Laid w)(st:Bool)
 (h1:fitC c g=0)(h2:asX ⟨g,c.strict,c.box,c.conds⟩ k=0):
 Calls Tryz.prog 88 #[v,u,x,.bool st] w fun e w'=>∃r,e= .returned (.tuple #[r,.int .i64 0])∧Clm (onlyW w' (nxt S w.heap.size)) f r ⟨g,c.strict,c.box,c.conds++[⟨k,st⟩]⟩∧Kept w w':=by
 have hgo:=fun(w':World)(q:Kept w w')=>cgoal_calls (h.sub (loc_in (k:=4) q)) (hu.sub (loc_in (k:=4) q)) (hT.kept q) c.strict
 have has:=fun(w':World)(q:Kept w w')(r:Value)(hr:Clm (onlyW w' (loc S w.heap.size 4)) f r ⟨g,c.strict,c.box,c.conds⟩)=>cassume_calls hr (hx.sub (loc_in (k:=4) q)) (hT.kept q) st
 rw[h1] at hgo
 rw[h2] at has
 unfold RetC at hgo has
 obtain⟨o,gg,z,x1,x2,x3,x4,x5,x6,nm,a0,n0,cap0,a1,n1,cap1,a2,n2,cap2,rfl,-⟩:=h
 obtain⟨o',g',z',y1,y2,y3,y4,y5,y6,nm',a',n',cap',rfl⟩:=hu.agg7
 obtain⟨o9,g9,z9,v1,v2,v3,v4,v5,v6,nm9,a9,n9,cap9,rfl⟩:=hx.agg7
 generalize (⟨g,c.strict,c.box,c.conds++[⟨k,st⟩]⟩:ClaimD)=dA at*
 generalize (⟨g,c.strict,c.box,c.conds⟩:ClaimD)=dG at*
 generalize c.strict=cst at*
 clear hu hx hT h1 h2
 have hA0:=(((Blk.new w #[.int .i64 o,.int .i64 gg,.bool z,.slice x1 x2 x3,.slice x4 x5 x6,.string nm,.slice a0 n0 cap0,.bool cst,.slice a1 n1 cap1,.slice a2 n2 cap2] 31).kept ((Kept.refl _).alloc (.cells #[.int .i64 o',.int .i64 g',.bool z',.slice y1 y2 y3,.slice y4 y5 y6,.string nm',.slice a' n' cap'] 27))))
 clear hA0
 go_enter Tryz.func88,Tryz.ntmps88
 go_wp2_with fail
 refine(hgo _ ((((Kept.refl w).alloc _).alloc _).alloc _ |>.alloc _)).mono ?_
 rintro e w1 ⟨r,rfl,hr1,-,hk1⟩
 obtain⟨hA,hB,hC,hD,hkw,hsw⟩:=al4k' hk1
 obtain⟨p0,p1,p2,p3,p4,p5,p6,p7,p8,p9,pa,pb,pc,pd,pe,pf,pg,ph,pi,pj,rfl⟩:=ret_shape (x:=0) (d:=dG) (f:=f) (V:=_) (fun _=>(by first|exact hr1 rfl|exact hr1 trivial)) (fun h=>absurd rfl h)
 have HR1:=Lib.hid ((show _ from(by first|exact hr1 rfl|exact hr1 trivial):Clm (onlyW w1 _) f _ dG).sub (loc_nxt (S:=S) (n:=w.heap.size) (k:=4) (Nat.le_of_eq (al4 rfl).2.2.2.2.2.symm)))
 clear hr1
 obtain⟨c0,c1,c2,c3,c4,c5,c6,-⟩:=(hC.kept ((Kept.refl w1).alloc (.cells #[.int .i64 p0,.int .i64 p1,.bool p2,.slice p3 p4 p5,.slice p6 p7 p8,.string p9,.slice pa pb pc,.bool pd,.slice pe pf pg,.slice ph pi pj] 31))).facts7
 go_wp2_with fail
 refine(has _ (hkw.alloc _) _ (HR1.out.sub (only_keep ((Kept.refl w1).alloc _)))).mono ?_
 rintro e w2 ⟨r',rfl,hr2,-,hk2⟩
 have hk12:Kept w1 w2:=((Kept.refl w1).alloc _).trans hk2
 obtain⟨q0,q1,q2,q3,q4,q5,q6,q7,q8,q9,qa,qb,qc,qd,qe,qf,qg,qh,qi,qj,rfl⟩:=ret_shape (x:=0) (d:=dA) (f:=f) (V:=_) (fun _=>(by first|exact hr2 rfl|exact hr2 trivial)) (fun h=>absurd rfl h)
 have HR2:=Lib.hid ((show _ from(by first|exact hr2 rfl|exact hr2 trivial):Clm (onlyW w2 _) f _ dA).sub (loc_nxt (S:=S) (n:=w.heap.size) (k:=4) (Nat.le_trans hsw ((Kept.refl w1).alloc (.cells #[.int .i64 p0,.int .i64 p1,.bool p2,.slice p3 p4 p5,.slice p6 p7 p8,.string p9,.slice pa pb pc,.bool pd,.slice pe pf pg,.slice ph pi pj] 31)).size)))
 clear hr2 c0 c1 c2 c3 c4 c5 c6
 obtain⟨k0,k1,k2,k3,k4,k5,k6,k7,k8,k9,l0,l1,l2,l3,l4,l5,l6,l7,l8,l9⟩:=(hD.kept hk12).facts10
 go_wp2
 have hend:=KeptB.st10 w2 (w.heap.size+1+1+1) (.int .i64 q0) (.int .i64 q1) (.bool q2) (.slice q3 q4 q5) (.slice q6 q7 q8) (.string q9) (.slice qa qb qc) (.bool qd) (.slice qe qf qg) (.slice qh qi qj)
 have key:∀W3,KeptB w2 W3 (w.heap.size+1+1+1)→Clm (onlyW W3 (nxt S w.heap.size)) f (.agg #[.int .i64 q0,.int .i64 q1,.bool q2,.slice q3 q4 q5,.slice q6 q7 q8,.string q9,.slice qa qb qc,.bool qd,.slice qe qf qg,.slice qh qi qj]) dA∧Kept w W3:=fun W3 hk=>
  ⟨HR2.out.sub (((but_lk hk (lo:=w.heap.size) (hi:=w.heap.size+4) (by omega) (by omega)).only loc_own).trans loc_out),(hkw.trans hk12).but hk (by omega)⟩
 exact bodyPost_ret (v:=.tuple #[.agg #[.int .i64 q0,.int .i64 q1,.bool q2,.slice q3 q4 q5,.slice q6 q7 q8,.string q9,.slice qa qb qc,.bool qd,.slice qe qf qg,.slice qh qi qj],.int .i64 0]) (by simp[results,Tryz.results88,go_sem,k0,k1,k2,k3,k4,k5,k6,k7,k8,k9]) rfl ⟨_,rfl,(key _ hend).1,(key _ hend).2⟩
end
section
open Go Go.RowKit Go.Dig Go.Deep
open Go.Eng (Kept KW KeptB wp_region_kw kw_call)
set_option maxHeartbeats 16000000
set_option maxRecDepth 100000
theorem branch31_calls{f:Nat}{w:World}{v:Value}{c:ClaimD}(h:Clm w f v c)(hT:Laid w)
 (hB:∀{W:World}{S:Nat→Bool}{v:Value}{t:Tree},Ex (onlyW W S) f v t→Laid W→Calls Tryz.prog 87 #[v] W (RetBr canT t f S W)):Calls Tryz.prog 31 #[v] w (RetX canT c (f+1) w):=by
 have hv:=fun(w':World)(k:Kept w w')=>cvalid_calls (h.kept k) (hT.kept k)
 obtain⟨V,Y,a1,n1,c1,a2,n2,c2,rfl,eV,oV,oY,hgoal,hbox,hcnd⟩:=h.own
 have hup:=h.up
 clear h
 generalize hok:c.ok=ok at hv
 refine ent1 66 Tryz.func31 rfl Tryz.ntmps31 ?_
 iterate 2 go_step
 refine zb fun w1 g1 e1 k1 b1 s1=> ?_
 refine za Z10 31 fun w2 g2 e2 k2 b2 s2=> ?_
 refine za Z10 31 fun w3 g3 e3 k3 b3 s3=> ?_
 refine zz ?_
 replace b1:=(b1.kept k2).kept k3
 replace b2:=b2.kept k3
 have K:=(k1.trans k2).trans k3
 clear k1 k2 k3
 iterate 6 go_step
 refine zl b1.range oV ?_
 refine zc 28 _ (hv _ K) ?_
 rintro e wq ⟨rfl,k⟩
 replace b1:=b1.kept k
 replace b2:=b2.kept k
 replace b3:=b3.kept k
 replace K:=K.trans k
 have sq:=k.size
 clear k hv
 refine⟨_,rfl,?_⟩
 refine zz ?_
 iterate 3 go_step
 cases ok
 case' false=>
  refine zt_true ?_
  iterate 2 go_step
  refine zr (.agg Z10) ?_
  refine zr (.agg Z10) ?_
  refine fin2 b2 b3 (by omega) ownZ10 ownZ10 ownZ10 ownZ10 fun wf lf m2 m3=> ?_
  iterate 5 go_step
  exact zret2 m2 m3 ownZ10 ownZ10 ⟨⟨zeroC,zeroC,by rw[brX_60 hok];rfl,fun h=>absurd ((brX_60 hok).symm.trans h) (by decide),fun _=>⟨rfl,rfl⟩⟩,kept_then K lf (by omega)⟩
 refine zt_false ?_
 iterate 5 go_step
 subst eV
 refine zr (.pointer (some ⟨g1,0,none⟩)) ?_
 refine zl b1.goal oY ?_
 refine zc 87 _ (hB (hgoal.sub (sub_old K)) (hT.kept K)) ?_
 rintro e wa ⟨⟨vc,vy,vn,rfl,hgood,hbad⟩,k⟩
 replace b1:=b1.kept k
 replace b2:=b2.kept k
 replace b3:=b3.kept k
 replace K:=K.trans k
 have sa:=k.size
 clear k
 generalize hbe:brE c.goal=be at*
 obtain⟨C,Y',N',rfl,rfl,rfl,oC,oY',oN'⟩:=zero_own hgood hbad hbe.symm
 refine⟨_,rfl,?_⟩
 refine zz ?_
 refine zz ?_
 refine zz ?_
 refine zz ?_
 refine zz ?_
 refine za Z7 27 fun u1 g5 e5 k1 b5 s5=> ?_
 refine za Z7 27 fun u2 g6 e6 k2 b6 s6=> ?_
 refine za Z7 27 fun u3 g7 e7 k3 b7 s7=> ?_
 refine zt ((b5.kept k2).kept k3) ownZ oC fun u4 k4 b5=> ?_
 refine zt ((b6.kept k3).keptB k4 (by omega)) ownZ oY' fun u5 k5 b6=> ?_
 refine zt ((b7.keptB k4 (by omega)).keptB k5 (by omega)) ownZ oN' fun u6 k6 b7=> ?_
 refine zz ?_
 replace b5:=(b5.keptB k5 (by omega)).keptB k6 (by omega)
 replace b6:=b6.keptB k6 (by omega)
 have A:=((((k1.trans k2).trans k3).but k4 (by omega)).but k5 (by omega)).but k6 (by omega)
 have sb:=A.size
 have sc:=k6.size
 have sd:=k5.size
 have se:=k4.size
 clear k1 k2 k3 k4 k5 k6
 iterate 6 go_step
 refine zz ?_
 refine z2 (.bool (be != 0)) ?_
 iterate 3 go_step
 cases hq:be != 0
 case' true=>
  have hb0:be≠0:=by simpa using hq
  refine zt_true ?_
  iterate 2 go_step
  refine zr (.agg Z10) ?_
  refine zr (.agg Z10) ?_
  refine zz ?_
  refine fin2 (b2.kept A) (b3.kept A) (by omega) ownZ10 ownZ10 ownZ10 ownZ10 fun wf lf m2 m3=> ?_
  iterate 5 go_step
  have hX:brX c=be:=by rw[brX_e hok (by rw[hbe];exact hb0),hbe]
  exact zret2 m2 m3 ownZ10 ownZ10 ⟨⟨zeroC,zeroC,by rw[hX];rfl,fun h=>absurd (hX.symm.trans h) hb0,fun _=>⟨rfl,rfl⟩⟩,kept_then (K.trans A) lf (by omega)⟩
 have hb0:be=0:=by simpa using hq
 subst hb0
 obtain⟨-,cd,y,n,hrt,o1,o2,o3⟩:=brE_zero hbe
 obtain⟨xc,xy,xn⟩:=hgood rfl cd y n hrt
 clear hgood hbad hq
 refine zt_false ?_
 iterate 5 go_step
 refine zl b5.range oC ?_
 refine z25 oC fun u1 g8 e8 k1 b8 s8=> ?_
 refine zr (.agg (M7 g8)) ?_
 refine za Z7 27 fun u2 g9 e9 k2 b9 s9=> ?_
 refine zt b9 ownZ (ownM g8) fun wc q b9=> ?_
 have sf:=q.size
 have B:=(k1.trans k2).but q (by omega)
 replace b8:=(b8.kept k2).keptB q (by omega)
 replace b5:=b5.kept B
 replace b6:=b6.kept B
 replace b7:=b7.kept B
 replace A:=A.trans B
 replace b1:=b1.kept A
 replace b2:=b2.kept A
 replace b3:=b3.kept A
 replace K:=K.trans A
 have hin:=nxt_out (lo:=g2) (hi:=g3+1) (m:=w.heap.size) (n:=wq.heap.size) A (by omega) (by omega)
 have hio:=old_out (lo:=g2) (hi:=g3+1) K (by omega)
 replace xc:=xc.sub hin
 replace xy:=xy.sub hin
 replace xn:=xn.sub hin
 have xm:=xc.neg oC (out_true (by omega)) b8
 replace hup:=hup.sub hio
 have hn2:n2=c.conds.length:=hcnd.1
 clear hin hio k1 k2 q B A hgoal b8 hbox hcnd
 obtain⟨i7,i8,i9⟩:=b1.rest oY
 iterate 6 go_step
 refine zr (.pointer (some ⟨g1,9,none⟩)) ?_
 refine zl1 i9 ?_
 refine zr (.int .i64 n2) ?_
 refine z2 (.bool (decide (12≤(n2:Int)))) ?_
 refine zz ?_
 cases hl:decide (12≤(n2:Int))
 case' true=>
  have hX:brX c=4:=brX_4 hok hbe hrt (.inl (by have:=of_decide_eq_true hl;omega))
  refine zskip ?_
  refine zskip ?_
  refine zskip ?_
  refine zr (.bool true) ?_
  iterate 3 go_step
  refine zt_true ?_
  iterate 2 go_step
  refine zr (.agg Z10) ?_
  refine zr (.agg Z10) ?_
  refine fin2 b2 b3 (by omega) ownZ10 ownZ10 ownZ10 ownZ10 fun wf lf m2 m3=> ?_
  iterate 5 go_step
  exact zret2 m2 m3 ownZ10 ownZ10 ⟨⟨zeroC,zeroC,by rw[hX];rfl,fun h=>absurd (hX.symm.trans h) (by decide),fun _=>⟨rfl,rfl⟩⟩,kept_then K lf (by omega)⟩
 have hlt:c.conds.length<12:=by have:=of_decide_eq_false hl;omega
 have hm:=fun(w':World)(k:Kept wc w')=>pvalid_calls (((xm.sub (only_sub _ _)).kept k)) ((hT.kept K).kept k)
 rw[neg_ok cd (well_of_ok o1)] at hm
 generalize hok2:(negT cd).ok=ok2 at hm
 refine zwant ?_
 refine zl b9.range (ownM g8) ?_
 refine zwant ?_
 refine zc 77 _ (hm _ (Kept.refl _)) ?_
 rintro e wd ⟨rfl,k⟩
 have D:Lk g2 (g3+1) wc wd:=kept_lk k _ _
 replace b2:=b2.kept k
 replace b3:=b3.kept k
 have Kd:=K.trans k
 have sg:=k.size
 clear k hm
 refine⟨_,rfl,?_⟩
 refine zwant ?_
 refine zz ?_
 cases ok2
 case' false=>
  have hX:brX c=4:=brX_4 hok hbe hrt (.inr hok2)
  refine zr (.bool true) ?_
  iterate 3 go_step
  refine zt_true ?_
  iterate 2 go_step
  refine zr (.agg Z10) ?_
  refine zr (.agg Z10) ?_
  refine fin2 b2 b3 (by omega) ownZ10 ownZ10 ownZ10 ownZ10 fun wf lf m2 m3=> ?_
  iterate 5 go_step
  exact zret2 m2 m3 ownZ10 ownZ10 ⟨⟨zeroC,zeroC,by rw[hX];rfl,fun h=>absurd (hX.symm.trans h) (by decide),fun _=>⟨rfl,rfl⟩⟩,kept_then Kd lf (by omega)⟩
 have hX:brX c=0:=brX_0 hok hbe hrt (by rintro(h|h)<;>first|omega|exact absurd (hok2.symm.trans h) (by decide))
 refine zr (.bool false) ?_
 iterate 3 go_step
 refine zt_false ?_
 iterate 5 go_step
 replace xc:=xc.up 1
 replace xy:=xy.up 1
 replace xn:=xn.up 1
 have mono:∀{W:World}{n:Nat},g3+1≤n→Sub (onlyW W (nxt (out g2 (g3+1)) n)) (onlyW W (out g2 (g3+1))):=fun hn=>only_mono fun b hb=>by
  unfold nxt at hb
  simp only[Bool.or_eq_true,decide_eq_true_eq] at hb
  rcases hb with hb|hb
  ·exact hb
  ·exact out_true (by omega)
 obtain⟨f1,f2,-⟩:=caseY_ok hok hrt hlt (can_ok o2) (can_ok o1) (vars_can y) (vars_can cd) (sk:=false)
 obtain⟨f3,f4,-⟩:=caseN_ok hok hrt hlt (can_ok o3) (by rw[neg_ok cd (well_of_ok o1)];exact hok2) (vars_can n) (vars_can cd) (sk:=true)
 have hs:=D.only fun _ h1 h2=>out_false (lo:=g2) (hi:=g3+1) h1 h2
 refine zl (D.blk b1 (by omega)).range oV ?_
 refine zl (D.blk b6 (by omega)).range oY' ?_
 refine zl (D.blk b5 (by omega)).range oC ?_
 refine zc 88 _ (case_calls (hup.sub hs) (xy.sub hs) (xc.sub hs) (hT.kept Kd) false f1 f2) ?_
 rintro e we ⟨r,rfl,hr,k⟩
 obtain⟨R,-,-,-,-,-,-,-,rfl,-,oR,-⟩:=hr.own
 replace hr:=hr.sub (mono (by omega))
 replace b2:=b2.kept k
 replace b3:=b3.kept k
 have sh:=k.size
 refine⟨_,rfl,?_⟩
 refine zz ?_
 refine zz ?_
 refine zz ?_
 refine zt b2 ownZ10 oR fun wf q b2=> ?_
 refine zz ?_
 replace b3:=b3.keptB q (by omega)
 have E:Lk g2 (g3+1) we wf:=but_lk q (Nat.le_refl _) (by omega)
 replace hr:=hr.sub (E.only fun _ h1 h2=>out_false (lo:=g2) (hi:=g3+1) h1 h2)
 replace D:=(D.kept k).trans E
 replace Kd:=(Kd.trans k).but q (by omega)
 have si:=q.size
 clear k q E hs
 iterate 6 go_step
 refine zz ?_
 refine z2 (.bool false) ?_
 iterate 3 go_step
 refine zt_false ?_
 iterate 5 go_step
 have hs:=D.only fun _ h1 h2=>out_false (lo:=g2) (hi:=g3+1) h1 h2
 refine zl (D.blk b1 (by omega)).range oV ?_
 refine zl (D.blk b7 (by omega)).range oN' ?_
 refine zl (D.blk b9 (by omega)).range (ownM g8) ?_
 refine zc 88 _ (case_calls (hup.sub hs) (xn.sub hs) (xm.sub hs) (hT.kept Kd) true f3 f4) ?_
 rintro e wg ⟨s,rfl,hr',k⟩
 obtain⟨R',-,-,-,-,-,-,-,rfl,-,oR',-⟩:=hr'.own
 replace hr':=hr'.sub (mono (by omega))
 replace b2:=b2.kept k
 replace b3:=b3.kept k
 have sj:=k.size
 refine⟨_,rfl,?_⟩
 refine zz ?_
 refine zz ?_
 refine zz ?_
 refine zt b3 ownZ10 oR' fun wh q b3=> ?_
 refine zz ?_
 replace b2:=b2.keptB q (by omega)
 have E:Lk g2 (g3+1) wg wh:=but_lk q (by omega) (by omega)
 have E2:=(kept_lk k g2 (g3+1)).trans E
 replace hr':=hr'.sub (E.only fun _ h1 h2=>out_false (lo:=g2) (hi:=g3+1) h1 h2)
 replace hr:=hr.sub (E2.only fun _ h1 h2=>out_false (lo:=g2) (hi:=g3+1) h1 h2)
 replace D:=D.trans E2
 clear k q E E2 hs
 iterate 6 go_step
 refine zz ?_
 refine z2 (.bool false) ?_
 iterate 3 go_step
 refine zt_false ?_
 iterate 4 go_step
 refine drawnZ fun wz kz=> ?_
 replace D:=D.kept kz
 replace b2:=b2.kept kz
 replace b3:=b3.kept kz
 replace hr:=hr.sub ((kept_lk kz g2 (g3+1)).only fun _ h1 h2=>out_false (lo:=g2) (hi:=g3+1) h1 h2)
 replace hr':=hr'.sub ((kept_lk kz g2 (g3+1)).only fun _ h1 h2=>out_false (lo:=g2) (hi:=g3+1) h1 h2)
 refine yS 0 (fun _ e=>e▸b2.range) oR rfl ?_
 refine yS 1 (fun _ e=>e▸b3.range) oR' rfl ?_
 refine yfin2 2 b2 b3 (by omega) oR oR' oR oR' (setRow_same b2) (by rw[setRow_same b2,setRow_same b3]) fun lf m2 m3=> ?_
 replace D:=D.trans lf
 iterate 3 go_step
 refine zret2 m2 m3 oR oR' ⟨⟨_,_,by rw[hX],fun _ cd' y' n' hrr=> ?_,fun h=>absurd hX h⟩,kept_then K D (by omega)⟩
 cases hrt.symm.trans hrr
 exact⟨hr.sub lf.out,hr'.sub lf.out⟩
end
end Go.Proofs.YtbapfnpbamnmpaaGreatDoor
