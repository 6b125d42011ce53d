/- A part of the proof that ClaimBranches answers true for every input of bulk at most 1048576: conditions: the row's own. -/
import Derived.Test.YtbapfnpbamnmpaaGreatDoorTd
import Derived.Test.YtbapfnpbamnmpaaGreatDoorGa
import Derived.Test.YtbapfnpbamnmpaaGreatDoorGd
import Derived.Test.YtbapfnpbamnmpaaGreatDoorGe
import Derived.Test.YtbapfnpbamnmpaaGreatDoorXa
import Derived.Test.YtbapfnpbamnmpaaGreatDoorXe
namespace Go.Proofs.YtbapfnpbamnmpaaGreatDoor
open Go Go.RowKit Go.Dig Go.Deep
open Go.Eng (Kept KW KeptB wp_region_kw kw_call)
theorem Ex.more{w:World}:∀(f:Nat){v:Value}{t:Tree},Ex w f v t→Ex w (f+1) v t
 |0,_,_,h=>h.elim
 |f+1,v,.node op arg s N D name kids,⟨x1,x2,x3,x4,x5,x6,a,cap,hv,hc,hr,hn,hk⟩=>by
  refine⟨x1,x2,x3,x4,x5,x6,a,cap,hv,hc,hr,hn,fun i h=> ?_⟩
  obtain⟨b,off,cs,ha,hs,hcell,he⟩:=hk i h
  exact⟨b,off,cs,ha,hs,hcell,Ex.more f he⟩
theorem Ex.up{w:World}{f:Nat}{v:Value}{t:Tree}(h:Ex w f v t):∀(k:Nat),Ex w (f+k) v t
 |0=>h
 |k+1=>Ex.more _ (h.up k)
theorem Ex.upTo{w:World}{f g:Nat}{v:Value}{t:Tree}(h:Ex w f v t)(hle:f≤g):Ex w g v t:=by
 have:=h.up (g-f)
 rwa [Nat.add_sub_cancel' hle] at this
section
def RetC(x:Int)(d:ClaimD)(f:Nat)(S:Nat→Bool)(w:World)(e:Ending)(w':World):Prop:=
 ∃r,e= .returned (.tuple #[r,.int .i64 x])∧(x=0→Clm (onlyW w' (fun b=>S b||decide (w.heap.size≤b))) f r d)∧(x≠0→r= .agg #[.int .i64 0,.int .i64 0,.bool false,.slice none 0 0,.slice none 0 0,.string ⟨#[]⟩,.slice none 0 0,.bool false,.slice none 0 0,.slice none 0 0])∧Kept w w'
theorem fitC_zero{c:ClaimD}{t:Tree}(h:fitC c t=0):c.ok=true∧t.ok=true∧covB c.box (varsT t)=true:=by
 unfold fitC at h
 cases h1:c.ok
 ·rw[if_pos h1] at h;cases h
 ·cases h2:t.ok
  ·rw[if_neg (by rw[h1];decide),if_pos h2] at h;cases h
  ·cases h3:covB c.box (varsT t)
   ·rw[if_neg (by rw[h1];decide),if_neg (by rw[h2];decide),if_pos h3] at h;cases h
   ·exact⟨rfl,rfl,rfl⟩
theorem Lk.fresh{lo hi N M:Nat}{S:Nat→Bool}{W W':World}(D:Lk lo hi W W')(hN:hi≤N)(hM:M≤N):Sub (onlyW W (ab N)) (onlyW W' (fun b=>S b||decide (M≤b))):=only_move fun b hb hs=>by
 unfold ab at hs
 simp only[decide_eq_true_eq] at hs
 exact⟨by simp only[Bool.or_eq_true,decide_eq_true_eq];omega,D.old b hb (.inr (by omega))⟩
theorem zret1b{n d:Nat}{l:Fm}{w:World}{fn:Func}{ty t1:TypeId}{p1:Tmp}{g1:Nat}{V1:Array Value}{v:Value}{R:Ending→World→Prop}(b1:Blk w g1 V1 t1)(v1:Own ty V1)(hR:R (.returned (.tuple #[.agg V1,v])) w)
 (h:fn.results=#[.cell p1 ty,.tmp d]:=by rfl)(hx1:opv n l (.tmp p1)=some (.pointer (some ⟨g1,0,none⟩)):=by rfl)(hv:opv n l (.tmp d)=some v:=by rfl)(hu:(Tryz.prog.underlying ty).map TypeDesc.isRow=some true:=by kernel_rfl):bodyPost Tryz.prog fn R .ret (frm n l) w:=by
 refine bodyPost_ret ?_ rfl hR
 have e0:=tmp_get hv
 have e1:=tmp_get hx1
 simp only[Array.getD_eq_getD_getElem?] at e0 e1
 simp[results,h,e0,e1,asAddr,b1.loadVar v1 hu]
set_option maxHeartbeats 8000000
set_option maxRecDepth 100000
theorem cgoal_calls{f:Nat}{w:World}{v u:Value}{c:ClaimD}{t:Tree}{S:Nat→Bool}(h:Clm (onlyW w S) f v c)(he:Ex (onlyW w S) f u t)(hT:Laid w)(st:Bool):
 Calls Tryz.prog 21 #[v,u,.bool st] w (RetC (fitC c t) ⟨t,st,c.box,c.conds⟩ f S w):=by
 have hf:=fun(w':World)(k:Kept w w')=>cfits_calls ((h.sub (only_sub _ _)).kept k) (Ex.kept k _ (he.sub (only_sub _ _))) (hT.kept k)
 have ho:=fun(hc:c.ok=true)(w':World)(k:Kept w w')=>own_calls ((h.sub (only_sub _ _)).kept k) hc
 have hoe:=fun(ht:t.ok=true)(w':World)(k:Kept w w')=>ownExpr_calls f (Ex.kept k _ (he.sub (only_sub _ _))) (well_of_ok ht)
 obtain⟨V,-,-,-,-,-,-,-,rfl,-,oV,-⟩:=h.own
 obtain⟨U,rfl,oU⟩:=he.own
 clear h he hT
 refine entL [.agg V,.agg U,.bool st] 25 Tryz.func21 rfl Tryz.ntmps21 (by simp) ?_
 iterate 2 go_step
 refine zb fun w1 g1 e1 k1 b1 s1=> ?_
 refine zb fun w2 g2 e2 k2 b2 s2=> ?_
 refine za Z10 31 fun w3 g3 e3 k3 b3 s3=> ?_
 refine zz ?_
 replace b1:=(b1.kept k2).kept k3
 replace b2:=b2.kept k3
 have K:=(k1.trans k2).trans k3
 iterate 6 go_step
 refine zl b1.range oV ?_
 refine zl b2.range oU ?_
 refine zc 65 _ (hf _ K) ?_
 rintro e w4 ⟨rfl,k4⟩
 replace b1:=b1.kept k4
 replace b2:=b2.kept k4
 replace b3:=b3.kept k4
 replace K:=K.trans k4
 have q4:=k4.size
 refine⟨_,rfl,?_⟩
 refine zz ?_
 iterate 5 go_step
 refine zz ?_
 refine z2 (.bool (fitC c t != 0)) ?_
 iterate 3 go_step
 cases hx:(fitC c t != 0)
 case' true=>
  refine zt_true ?_
  iterate 2 go_step
  refine zr (.agg Z10) ?_
  refine zz ?_
  refine zt b3 ownZ10 ownZ10 fun w5 k5 b3=> ?_
  refine zz ?_
  iterate 5 go_step
  exact zret1b b3 ownZ10 ⟨_,rfl,fun h=>absurd h (by simpa using hx),fun _=>rfl,K.but k5 (by omega)⟩
 have hx:fitC c t=0:=by simpa using hx
 obtain⟨oc,ot,-⟩:=fitC_zero hx
 refine zt_false ?_
 iterate 5 go_step
 refine zl b1.range oV ?_
 refine zc 66 _ (ho oc _ K) ?_
 rintro e w5 ⟨v',rfl,h',k5⟩
 obtain⟨V',Y',a1,n1,c1,a2,n2,c2,rfl,rfl,oV',oY',-,hb',hc'⟩:=h'.own
 obtain⟨y0,y1,y2,y3,y4,y5,y6,rfl⟩:=arr7 oY'.size7
 have q5:=k5.size
 refine⟨_,rfl,?_⟩
 refine za Z10 31 fun w6 g6 e6 k6 b6 s6=> ?_
 refine zt b6 ownZ10 oV' fun w7 k7 b6=> ?_
 have q7:=k7.size
 have k57:=k5.trans (k6.but k7 (by omega))
 iterate 5 go_step
 refine zl (b2.kept k57).range oU ?_
 refine zc 67 _ (hoe ot _ (K.trans k57)) ?_
 rintro e w8 ⟨u',rfl,hu,k8⟩
 obtain⟨U',rfl,oU'⟩:=hu.own
 obtain⟨x0,x1,x2,x3,x4,x5,x6,rfl⟩:=arr7 oU'.size7
 have q8:=k8.size
 refine⟨_,rfl,?_⟩
 refine zz ?_
 refine zz ?_
 refine ztp (o:=0) (b6.kept k8) oU' (fun w9 k9 b6=> ?_) (by simp)
 refine zz ?_
 refine zt1 (i:=7) b6 (by simp) rfl fun wa ka b6=> ?_
 have o10:Own 31 #[x0,x1,x2,x3,x4,x5,x6,.bool st,.slice a1 n1 c1,.slice a2 n2 c2]:=own31 oU'
 have q9:=k9.size
 have qa:=ka.size
 iterate 5 go_step
 refine zl (V:=#[x0,x1,x2,x3,x4,x5,x6,.bool st,.slice a1 n1 c1,.slice a2 n2 c2]) b6.range o10 ?_
 refine zt ((((b3.kept k57).kept k8).keptB k9 (by omega)).keptB ka (by omega)) ownZ10 o10 fun wz kz b3=> ?_
 refine zz ?_
 iterate 4 go_step
 have D8:Lk g3 (g6+1) w8 wz:=((but_lk k9 (by omega) (Nat.lt_succ_self _)).but ka (.inl (by omega))).but kz (.inl (by omega))
 have D5:Lk g3 (g3+1) w5 wz:=(((((kept_lk k6 g3 (g3+1)).but k7 (.inr (by omega))).kept k8).but k9 (.inr (by omega))).but ka (.inr (by omega))).but kz (.inl (by omega))
 have KZ:=((((K.trans k57).trans k8).but k9 (by omega)).but ka (by omega)).but kz (by omega)
 have h5:=D5.fresh (S:=S) (M:=w.heap.size) (N:=w4.heap.size) (by omega) (by omega)
 exact zret1b (v:=.int .i64 0) b3 o10 ⟨_,by rw[hx];first|done|rfl,fun _=>Clm.of (c:=⟨t,st,c.box,c.conds⟩) (hu.sub (D8.fresh (by omega) (by omega))) (hb'.sub h5) (hc'.sub h5),fun h=>absurd hx h,KZ⟩
end
def zeroC:Value:=.agg #[.int .i64 0,.int .i64 0,.bool false,.slice none 0 0,.slice none 0 0,.string ⟨#[]⟩,.slice none 0 0,.bool false,.slice none 0 0,.slice none 0 0]
set_option maxHeartbeats 4000000 in
set_option maxRecDepth 100000 in
theorem nothing_calls(w:World):Calls Tryz.prog 45 #[.agg #[.int .i64 0,.int .i64 0,.bool false,.slice none 0 0,.slice none 0 0,.string ⟨#[]⟩,.slice none 0 0,.bool false,.slice none 0 0,.slice none 0 0]] w fun e w'=>e= .returned (.bool true)∧Kept w w':=by
 go_enter Tryz.func45,Tryz.ntmps45
 go_wp2
 go_ret
 exact⟨rfl,((Kept.refl w).alloc _).alloc _⟩
end Go.Proofs.YtbapfnpbamnmpaaGreatDoor
