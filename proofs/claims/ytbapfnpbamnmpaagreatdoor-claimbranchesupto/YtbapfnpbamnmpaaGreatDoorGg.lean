/- A part of the proof that ClaimBranches answers true for every input of bulk at most 1048576: conditions: the row's own. -/
import Derived.Test.YtbapfnpbamnmpaaGreatDoorGf
namespace Go.Proofs.YtbapfnpbamnmpaaGreatDoor
open Go Go.RowKit Go.Dig Go.Deep
open Go.Eng (Kept KW KeptB wp_region_kw kw_call)
def asX(c:ClaimD)(t:Tree):Int:=if fitC c t≠0 then fitC c t else if 12≤c.conds.length then 4 else 0
section
set_option maxHeartbeats 16000000
set_option maxRecDepth 100000
theorem yt1{n:Nat}{l:Fm}{ops:Array Oper}{Q:Exit→Act→World→Prop}{oi:Oper}{fuel:Nat}{listed:Array Bool}{w w0:World}{lo up:Nat}(i:Nat){p q:Tmp}{ty g o:Nat}{t:TypeId}{Y:Array Value}{x:Value}(hb:Blk w g Y t)(ho:o<Y.size)(hx1:x.oneCell'=true)(hk:(lo≤g∧g<up)∨w0.heap.size≤g)(hS:Lk lo up w0 w)
 (h:∀w',KeptB w w' g→Blk w' g (Y.setIfInBounds o x) t→Lk lo up w0 w'→wpAnyH Tryz.prog .any ops Q (Lk lo up w0) fuel (listed.setIfInBounds i true) (frm n l) w')
 (hi:ops[i]? =some oi:=by rfl)(hop:oi.op= .store ty (.tmp p) (.tmp q):=by rfl)(hd:oi.dst=none:=by rfl)(hg:oi.guard=none:=by rfl)
 (hx:opv n l (.tmp p)=some (.pointer (some ⟨g,o,none⟩)):=by rfl)(hq:opv n l (.tmp q)=some x:=by rfl)(hu:(Tryz.prog.info? ty).map (·.size)=some 1:=by kernel_rfl)(hr:Region.ready .any ops listed=[i]:=by kernel_rfl):
 wpAnyH Tryz.prog .any ops Q (Lk lo up w0) (fuel+1) listed (frm n l) w:=by
 refine rd1 i (fun K hK=> ?_) hi hr
 rw[if_pos (by simp[Region.wanted,hg])]
 have hst1:(storeVar ty ⟨g,o,none⟩ x).run Tryz.prog w= .ok () (w.setCell ⟨g,o,none⟩ x):=by
  have hcl:=hb.cell o (v:=Y[o]) (by simp[ho])
  have hrs:=run_store Tryz.prog w ⟨g,o,none⟩ x .plain hx1
  rw[hcl] at hrs
  simp only[hb.frozen o] at hrs
  cases hq2:Tryz.prog.info? ty with
  |none=>simp[hq2] at hu
  |some q=>
   have hs1:q.size=1:=by simpa [hq2] using hu
   cases x<;>first
    |(simp[Value.oneCell'] at hx1;done)
    |(simp[storeVar,sizeOf,typeInfo,hq2,hs1,Value.cells,storeCells,Addr.add_mid,hrs];done)
 have kb:KeptB w (w.setCell ⟨g,o,none⟩ x) g:=(KeptB.refl w g).setCell rfl _
 unfold Oper.wp execOp
 simp only[hop,opv_eval hx,opv_eval hq,Instr.storeAt,Instr.sureAddr,Sem.run_bind,Sem.run_pure,Result.andThen_ok,hst1]
 show K ((frm n l).put oi.dst undef) _
 rw[hd]
 have l6:=hS.but kb hk
 exact hK.out _ _ l6 fun _=>h _ kb (hb.set o _) l6
theorem cassume_calls{f:Nat}{w:World}{v u:Value}{c:ClaimD}{t:Tree}{S:Nat→Bool}(h:Clm (onlyW w S) f v c)(he:Ex (onlyW w S) f u t)(hT:Laid w)(st:Bool):
 Calls Tryz.prog 23 #[v,u,.bool st] w (RetC (asX c t) ⟨c.goal,c.strict,c.box,c.conds++[⟨t,st⟩]⟩ f S w):=by
 have hf:=fun(w':World)(k:Kept w w')=>cfits_calls ((h.sub (only_sub _ _)).kept k) (Ex.kept k _ (he.sub (only_sub _ _))) (hT.kept k)
 have ho:=fun(hc:c.ok=true)(w':World)(k:Kept w w')=>own_calls ((h.sub (only_sub _ _)).kept k) hc
 have hoe:=fun(ht:t.ok=true)(w':World)(k:Kept w w')=>ownExpr_calls f (Ex.kept k _ (he.sub (only_sub _ _))) (well_of_ok ht)
 obtain⟨V,Y,ab1,nb1,cb1,ao,no,co,rfl,eV,oV,oY,-,-,hco⟩:=h.own
 obtain rfl:no=c.conds.length:=hco.1
 obtain⟨v0,v1,v2,v3,v4,v5,v6,rfl⟩:=arr7 oY.size7
 clear hco
 obtain⟨U,rfl,oU⟩:=he.own
 clear h he hT
 refine entL [.agg V,.agg U,.bool st] 35 Tryz.func23 rfl Tryz.ntmps23 (by simp) ?_
 iterate 2 go_step
 refine zb fun w1 g1 e1 k1 b1 s1=> ?_
 refine zb fun w2 g2 e2 k2 b2 s2=> ?_
 refine za Z10 31 fun w3 g3 e3 k3 b3 s3=> ?_
 refine zz ?_
 replace b1:=(b1.kept k2).kept k3
 replace b2:=b2.kept k3
 have K:=(k1.trans k2).trans k3
 iterate 6 go_step
 refine zl b1.range oV ?_
 refine zl b2.range oU ?_
 refine zc 65 _ (hf _ K) ?_
 rintro e w4 ⟨rfl,k4⟩
 replace b1:=b1.kept k4
 replace b2:=b2.kept k4
 replace b3:=b3.kept k4
 replace K:=K.trans k4
 have q4:=k4.size
 refine⟨_,rfl,?_⟩
 refine zz ?_
 iterate 5 go_step
 refine zz ?_
 refine z2 (.bool (fitC c t != 0)) ?_
 iterate 3 go_step
 cases hx:(fitC c t != 0)
 case' true=>
  refine zt_true ?_
  iterate 2 go_step
  refine zr (.agg Z10) ?_
  refine zz ?_
  refine zt b3 ownZ10 ownZ10 fun w5 k5 b3=> ?_
  refine zz ?_
  iterate 5 go_step
  have hx':fitC c t≠0:=by simpa using hx
  have h0:asX c t=fitC c t:=if_pos hx'
  exact zret1b (v:=.int .i64 (fitC c t)) b3 ownZ10 ⟨_,by rw[h0];first|done|rfl,fun h=>absurd (h0.symm.trans h) hx',fun _=>rfl,K.but k5 (by omega)⟩
 have hx:fitC c t=0:=by simpa using hx
 obtain⟨oc,ot,-⟩:=fitC_zero hx
 obtain⟨-,-,p3,-⟩:=ok_parts oc
 refine zt_false ?_
 iterate 6 go_step
 subst eV
 refine zz ?_
 refine zl1 (x:=.slice ao c.conds.length co) (b1.cell 9 rfl) ?_
 refine zr (.int .i64 c.conds.length) ?_
 refine z2 (.bool (decide (12≤(c.conds.length:Int)))) ?_
 iterate 3 go_step
 cases h12:decide (12≤(c.conds.length:Int))
 case' true=>
  have h12:12≤c.conds.length:=by have:=of_decide_eq_true h12;omega
  have h0:asX c t=4:=by rw[asX,if_neg (by simp[hx]),if_pos h12]
  refine zt_true ?_
  iterate 2 go_step
  refine zr (.agg Z10) ?_
  refine zt b3 ownZ10 ownZ10 fun w5 k5 b3=> ?_
  refine zz ?_
  iterate 5 go_step
  exact zret1b (v:=.int .i64 4) b3 ownZ10 ⟨_,by rw[h0];first|done|rfl,fun h=>absurd (h0.symm.trans h) (by decide),fun _=>rfl,K.but k5 (by omega)⟩
 have h12:¬12≤c.conds.length:=by have:=of_decide_eq_false h12;omega
 have h0:asX c t=0:=by rw[asX,if_neg (by simp[hx]),if_neg h12]
 refine zt_false ?_
 iterate 5 go_step
 refine zl b1.range oV ?_
 refine zc 66 _ (ho oc _ K) ?_
 rintro e w5 ⟨v',rfl,h',k5⟩
 obtain⟨V',Y',a1,n1,c1,a2,n2,c2,rfl,rfl,oV',oY',hg',hb',hc'⟩:=h'.own
 obtain rfl:n2=c.conds.length:=hc'.1
 obtain⟨y0,y1,y2,y3,y4,y5,y6,rfl⟩:=arr7 oY'.size7
 have q5:=k5.size
 refine⟨_,rfl,?_⟩
 refine za Z10 31 fun w6 g6 e6 k6 b6 s6=> ?_
 refine zt b6 ownZ10 oV' fun w7 k7 b6=> ?_
 have q7:=k7.size
 have k57:=k6.but k7 (by omega)
 have hg6:=b6.lt
 iterate 4 go_step
 refine drawn g6 (g6+1) fun hS=> ?_
 have kd:=(Kept.refl w7).drew
 have hdz:w7.drew.heap.size=w7.heap.size:=rfl
 refine yzg 0 hS ?_
 refine yl 2 ((b2.kept k5).kept k57).range (.inl (by omega)) oU hS ?_
 refine yzg 4 hS ?_
 refine ylcb (x:=.slice a2 c.conds.length c2) 1 3 6 1 (P:=fun v W=>Ex (onlyW W (ab w7.drew.heap.size)) f v t) (fun L=>L.setIfInBounds 5 true) (fun v l=>upd l 29 (.agg (v.cells++#[.bool st]))) (fun v=>v.cells++#[.bool st]) 93 67 _ ((b6.kept kd).cell 9 rfl) hS (hoe ot _ (((K.trans k5).trans k57).trans kd))
  (fun L l' v W fu hl hP lW h=> ?_) (fun l' v W hP hl=> ?_) (fun v W w' g xv kW eg kg bg sg lW=> ?_) (fun _ _=>upd_comm (d:=25) (e:=29) (by decide)) (fun _=>Array.setIfInBounds_comm (i:=1) (j:=5) _ _ (by decide)) (fun _=>rfl)
 ·obtain⟨o,g,z,u1,u2,u3,u4,u5,u6,nm,a4,n4,cap4,rfl⟩:=hP.agg7
  rcases hl with⟨rfl,rfl⟩|⟨rfl,rfl⟩<;>exact yr 5 _ lW h
 ·obtain⟨o,g,z,u1,u2,u3,u4,u5,u6,nm,a4,n4,cap4,rfl⟩:=hP.agg7
  rcases hl with rfl|rfl<;>kernel_rfl
 obtain⟨o,g',z,u1,u2,u3,u4,u5,u6,nm,a4,n4,cap4,rfl⟩:=xv.agg7
 refine ybs 7 2 #[.slice a2 c.conds.length c2,.slice (some ⟨g,0,none⟩) 1 1] 29 lW (by kernel_rfl) fun W2 gl el kl bl sl ll=> ?_
 have qW:=kW.size
 have qg:=kg.size
 have ql:=kl.size
 have k72:=((kd.trans kW).trans kg).trans kl
 have hl2:=hc'.sub (abx_late (k57.trans k72) (g:=g6) (by omega) (Nat.le_refl w4.heap.size))
 have hd2:Cnm (onlyW W2 (abx w4.heap.size g6)) f (some ⟨g,0,none⟩) 1 1 [⟨t,st⟩]:=by
  refine Cnm.mk (l:=[⟨t,st⟩]) (cs:=[.int .i64 o,.int .i64 g',.bool z,.slice u1 u2 u3,.slice u4 u5 u6,.string nm,.slice a4 n4 cap4,.bool st]) (Nat.le_refl 1) (by simp) (fun i hi=>⟨g,rfl,?_⟩) ⟨rfl,fun i hi=> ?_⟩
  ·rw[cell_only,if_pos (by unfold abx;simp only[Bool.and_eq_true,decide_eq_true_eq,bne_iff_ne];omega)]
   rw[List.getElem?_eq_getElem hi]
   exact(bg.kept kl).cell i (Array.getElem?_eq_getElem hi)
  ·obtain rfl:i=0:=by simpa using hi
   exact⟨_,_,_,_,_,_,_,_,_,_,_,_,_,rfl,xv.sub ((only_keep (kg.trans kl)).trans (abx_soon (by omega) (by omega)))⟩
 refine yc 8 69 _ ll (concat_calls (only_sub _ _) hl2 hd2 (by omega) (bl.cell 0 rfl) (bl.cell 1 rfl)) fun e W3 ⟨a3,cap3,cs,he,ho3,hr3,k3⟩=>⟨k3,_,he,fun lW=> ?_⟩
 have q3:=k3.size
 refine yzg 9 lW ?_
 refine yt1 (o:=9) 10 (b6.kept (k72.trans k3)) (by simp) rfl (.inl ⟨Nat.le_refl _,Nat.lt_succ_self _⟩) lW fun w9 k9 b6 _=>yend ?_
 have q9:=k9.size
 have o10:Own 31 #[y0,y1,y2,y3,y4,y5,y6,.bool c.strict,.slice a1 n1 c1,.slice a3 (c.conds.length+1) cap3]:=own31 oY'
 iterate 4 go_step
 refine zl (V:=#[y0,y1,y2,y3,y4,y5,y6,.bool c.strict,.slice a1 n1 c1,.slice a3 (c.conds.length+1) cap3]) b6.range o10 ?_
 refine zt ((((b3.kept k5).kept k57).kept (k72.trans k3)).keptB k9 (by omega)) ownZ10 o10 fun wz kz b3=> ?_
 refine zz ?_
 iterate 4 go_step
 have D5:Lk g3 (g3+1) w5 wz:=((kept_lk (k57.trans (k72.trans k3)) g3 (g3+1)).but k9 (.inr (by omega))).but kz (.inl (by omega))
 have h5:=D5.fresh (S:=S) (M:=w.heap.size) (N:=w4.heap.size) (by omega) (by omega)
 have KZ:=((((K.trans k5).trans k57).trans (k72.trans k3)).but k9 (by omega)).but kz (by omega)
 obtain⟨_,_,hv,hcap,-,hcell⟩:=own_open ho3
 cases hv
 have hlen:(c.conds++[(⟨t,st⟩:CondD)]).length=c.conds.length+1:=List.length_append
 refine zret1b (v:=.int .i64 0) b3 o10 ⟨_,by rw[h0];first|done|rfl,fun _=>Clm.of (Y:=#[y0,y1,y2,y3,y4,y5,y6]) (n2:=c.conds.length+1) (c:=⟨c.goal,c.strict,c.box,c.conds++[⟨t,st⟩]⟩) (hg'.sub h5) (hb'.sub h5) ?_,fun h=>absurd h0 h,KZ⟩
 have hm:=Cnm.mk (w:=onlyW wz (fun b=>S b||decide (w.heap.size≤b))) (f:=f) (l:=c.conds++[⟨t,st⟩]) (cap:=cap3) (a:=a3) (cs:=cs) (by rw[hlen];exact hcap) (by rw[hlen];omega) (fun i hi=> ?_) (hr3.mono (condR_sub f _ _ (only_move fun b hb hs=> ?_)))
 ·rw[hlen] at hm
  exact hm
 ·obtain⟨b,hb,ha,h⟩:=hcell i hi
  refine⟨b,ha,?_⟩
  rw[List.getElem?_eq_getElem hi] at h⊢
  rw[cell_only,if_pos (by simp only[Bool.or_eq_true,decide_eq_true_eq];omega)]
  exact kz.cell (k9.cell h (by show b≠g6;omega)) (by show b≠g3;omega)
 ·unfold abx at hs
  simp only[Bool.and_eq_true,bne_iff_ne,decide_eq_true_eq] at hs
  exact⟨by simp only[Bool.or_eq_true,decide_eq_true_eq];omega,((kz.old b (by omega) (by omega)).trans (k9.old b (by omega) hs.2)).trans (k3.old b hb)⟩
end
end Go.Proofs.YtbapfnpbamnmpaaGreatDoor
