/- A part of the proof that SearchCandidates answers true for every input of bulk at most 1048576: conditions: the row's own. -/
import Derived.Test.YtancebninmoipaaGreatDoorP14
import Derived.Test.YtancebninmoipaaGreatDoorP06
import Derived.Test.YtancebninmoipaaGreatDoorP07
namespace Go.Proofs.YtancebninmoipaaGreatDoor
open Go Go.RowKit Go.Dig
open Go.Eng (Kept KW KeptB)
theorem own129{s1:Bool}{a1:Option Addr}{n1 c1:Nat}{a2:Option Addr}{n2 c2:Nat}:Own 129 #[.bool s1,.slice a1 n1 c1,.slice a2 n2 c2]:=⟨by kernel_rfl,by simp[Value.oneCell']⟩
theorem fr_put{w w':World}{g:Nat}{t:TypeId}{neg:Bool}{v v':Value}{n d:Nat}(hn:Nt 4294967296 w v n)(hd:Nt 4294967296 w v' d)(k:KeptB w w' g)(hb:Blk w g ZR t):Fr w' (.agg #[.bool neg,v,v']) neg n d:=
 have hw:=(show Blk3 w g (.bool false) (.slice none 0 0) (.slice none 0 0) t from hb).noWords
 ⟨_,_,rfl,hn.keptB k hw,hd.keptB k hw⟩
set_option maxHeartbeats 4000000 in
set_option maxRecDepth 100000 in
theorem fadd_calls{w:World}{v u:Value}{s s':Bool}{n d n' d':Nat}(h:Fr w v s n d)(h':Fr w u s' n' d')(b1:n<Sm)(b2:d<Sm)(b3:n'<Sm)(b4:d'<Sm)(hp:0<d)(hp':0<d')(hT:Laid w):
 Calls Tryz.prog 121 #[v,u] w (RetFr (sumS s n d s' n' d'&&decide (0<sumN s n d s' n' d')) (sumN s n d s' n' d'/Nat.gcd (sumN s n d s' n' d') (sumD d d')) (sumD d d'/Nat.gcd (sumN s n d s' n' d') (sumD d d')) w):=by
 have ed:dn d=d:=by unfold dn;split<;>omega
 have ed':dn d'=d':=by unfold dn;split<;>omega
 have HX:=Lib.hid (sm_mul b1 b4)
 have HY:=Lib.hid (sm_mul b3 b2)
 have HZ:=Lib.hid (sm_mul b2 b4)
 have HZp:=Lib.hid (Nat.mul_pos hp hp')
 have B1:=Lib.hid (sm_big b1)
 have B2:=Lib.hid (sm_big b2)
 have B3:=Lib.hid (sm_big b3)
 have B4:=Lib.hid (sm_big b4)
 clear b1 b2 b3 b4
 have HD:Hid (sumD d d'=d*d'):=Lib.hid (by unfold sumD;rw[ed,ed'])
 obtain⟨vn,vd,rfl,hn,hd⟩:=h
 obtain⟨a,nn,cn,rfl⟩:=nt_slice hn
 obtain⟨ad,nd,cd,rfl⟩:=nt_slice hd
 obtain⟨vn',vd',rfl,hn',hd'⟩:=h'
 obtain⟨a',nn',cn',rfl⟩:=nt_slice hn'
 obtain⟨ad',nd',cd',rfl⟩:=nt_slice hd'
 have HS:Hid (sumS s n d s' n' d'=if s=s' then s else if n'*d≤n*d' then s else s'):=Lib.hid (by unfold sumS;rw[ed,ed'])
 have HN:Hid (sumN s n d s' n' d'=if s=s' then n*d'+n'*d else if n'*d≤n*d' then n*d'-n'*d else n'*d-n*d'):=Lib.hid (by unfold sumN;rw[ed,ed'])
 rw[HD.out]
 clear ed ed' hp hp' HD
 generalize sumS s n d s' n' d'=S at*
 generalize sumN s n d s' n' d'=N at*
 refine entL [_,_] 53 Tryz.func121 rfl Tryz.ntmps121 (by simp) ?_
 iterate 2 go_step
 refine zb fun w1 g1 e1 k1 p1 s1=> ?_
 refine zb fun w2 g2 e2 k2 p2 s2=> ?_
 refine za ZR 129 fun w3 g3 e3 k3 p3 s3=> ?_
 replace p1:=(p1.kept k2).kept k3
 replace p2:=p2.kept k3
 have K:=(k1.trans k2).trans k3
 clear k1 k2 k3
 iterate 4 go_step
 refine drawn 0 0 fun hS=> ?_
 have K1:=K.trans (Kept.refl w3).drew
 refine yr 0 (.pointer (some ⟨g1,1,none⟩)) hS ?_
 refine yl1 1 (p1.cell 1 rfl) noLt hS ?_
 refine yr 2 (.pointer (some ⟨g2,2,none⟩)) hS ?_
 refine yl1 3 (p2.cell 2 rfl) noLt hS ?_
 refine yr 5 (.pointer (some ⟨g2,1,none⟩)) hS ?_
 refine yl1 6 (p2.cell 1 rfl) noLt hS ?_
 refine yr 7 (.pointer (some ⟨g1,2,none⟩)) hS ?_
 refine yl1 8 (p1.cell 2 rfl) noLt hS ?_
 refine yc 4 135 _ hS (mul_calls (hn.kept K1) (hd'.kept K1) B1.out B4.out) fun e w4 ⟨v4,he,x4,k4⟩=>⟨k4,_,he,fun hS=> ?_⟩
 refine yc 9 135 _ hS (mul_calls (hn'.kept (K1.trans k4)) (hd.kept (K1.trans k4)) B3.out B2.out) fun e w5 ⟨v5,he,x5,k5⟩=>⟨k5,_,he,fun hS=> ?_⟩
 refine yr 10 v4 hS ?_
 refine yr 11 v5 hS ?_
 refine yend ?_
 iterate 4 go_step
 have k35:=((Kept.refl w3).drew.trans k4).trans k5
 have K5:=K.trans k35
 replace p1:=p1.kept k35
 replace p2:=p2.kept k35
 replace p3:=p3.kept k35
 replace x4:=x4.kept k5
 clear k4 k5 k35 K1 hS
 refine zr (.pointer (some ⟨g1,2,none⟩)) ?_
 refine zl1 (p1.cell 2 rfl) ?_
 refine zr (.pointer (some ⟨g2,2,none⟩)) ?_
 refine zl1 (p2.cell 2 rfl) ?_
 refine zc 135 _ (mul_calls (hd.kept K5) (hd'.kept K5) B2.out B4.out) ?_
 rintro e w6 ⟨v6,rfl,x6,k6⟩
 refine⟨_,rfl,?_⟩
 refine zz ?_
 iterate 6 go_step
 replace p1:=p1.kept k6
 replace p2:=p2.kept k6
 replace p3:=p3.kept k6
 replace x4:=x4.kept k6
 replace x5:=x5.kept k6
 have K6:=K5.trans k6
 clear k6 K5
 refine zr (.pointer (some ⟨g1,0,none⟩)) ?_
 refine zl1 (p1.cell 0 rfl) ?_
 refine zr (.pointer (some ⟨g2,0,none⟩)) ?_
 refine zl1 (p2.cell 0 rfl) ?_
 refine zr (.bool (s==s')) ?_
 iterate 3 go_step
 have hw1:=K6.size
 generalize ht:(s==s')=tb
 cases tb
 case' true=>
  have hss:s=s':=by simpa using ht
  rw[if_pos hss] at HS HN
  have es:=HS.out.symm
  have en:=HN.out.symm
  subst es en
  clear ht HS HN
  have HB:=mid_big (p14_add HX.out HY.out)
  refine zt_true ?_
  go_step
  refine drawn g3 (g3+1) fun hS=> ?_
  have kd:=(Kept.refl w6).drew
  refine yr 0 (.pointer (some ⟨g1,0,none⟩)) hS ?_
  refine yl1 1 (p1.cell 0 rfl) (.inl (by omega)) hS ?_
  refine yr 2 v4 hS ?_
  refine yr 3 v5 hS ?_
  refine yr 5 v6 hS ?_
  refine yc 4 192 _ hS (wadd_calls (x4.kept kd) (x5.kept kd) (mid_big (p14_mid HX.out)) (mid_big (p14_mid HY.out))) fun e w7 ⟨v7,he,x7,k7⟩=>⟨k7,_,he,fun hS=> ?_⟩
  refine yc 6 122 _ hS (reduce_calls s x7 (x6.kept (kd.trans k7)) HB (mid_big (p14_mid HZ.out)) HZp.out (hT.kept ((K6.trans kd).trans k7))) fun e w8 ⟨v8,he,hf,k8⟩=>⟨k8,_,he,fun hS=> ?_⟩
  obtain⟨vq,vr,rfl,hq,hr⟩:=hf
  obtain⟨aq,nq,cq,rfl⟩:=nt_slice hq
  obtain⟨ar,nr,cr,rfl⟩:=nt_slice hr
  replace p3:=p3.kept ((kd.trans k7).trans k8)
  refine yt 7 p3 own129 own129 (.inl ⟨Nat.le_refl _,Nat.lt_succ_self _⟩) hS fun w9 k9 p9 hS=>yend ?_
  iterate 4 go_step
  exact zret1 p9 own129 ⟨_,rfl,fr_put hq hr k9 p3,(((K6.trans kd).trans k7).trans k8).but k9 (by have:=K.size;omega)⟩
 have hss:¬s=s':=by simpa using ht
 rw[if_neg hss] at HS HN
 clear ht
 refine zt_false ?_
 iterate 6 go_step
 refine zr v4 ?_
 refine zr v5 ?_
 refine zc 136 _ (cmp_calls (.inr rfl) x4 x5 (mid_big (p14_mid HX.out))) ?_
 rintro e w6b ⟨rfl,k6b⟩
 refine⟨_,rfl,?_⟩
 refine zr (.bool (decide (0≤cmpInt (n*d') (n'*d)))) ?_
 iterate 3 go_step
 replace p1:=p1.kept k6b
 replace p2:=p2.kept k6b
 replace p3:=p3.kept k6b
 replace x4:=x4.kept k6b
 replace x5:=x5.kept k6b
 replace x6:=x6.kept k6b
 replace K6:=K6.trans k6b
 have hw1:=K6.size
 clear k6b
 generalize ht:decide (0≤cmpInt (n*d') (n'*d))=tb
 by_cases hle:n'*d≤n*d'
 ·rw[if_pos hle] at HS HN
  obtain rfl:tb=true:=by rw[←ht];unfold cmpInt;simp;split<;>(try split)<;>omega
  have es:=HS.out.symm
  have en:=HN.out.symm
  subst es en
  clear ht HS HN
  have HB:=mid_big (p14_mid (Nat.lt_of_le_of_lt (Nat.sub_le (n*d') (n'*d)) HX.out))
  refine zt_true ?_
  go_step
  refine drawn g3 (g3+1) fun hS=> ?_
  have kd:=(Kept.refl w6b).drew
  refine yr 0 (.pointer (some ⟨g1,0,none⟩)) hS ?_
  refine yl1 1 (p1.cell 0 rfl) (.inl (by omega)) hS ?_
  refine yr 2 v4 hS ?_
  refine yr 3 v5 hS ?_
  refine yr 5 v6 hS ?_
  refine yc 4 193 _ hS (wsub_calls (x4.kept kd) (x5.kept kd) (mid_big (p14_mid HX.out)) hle) fun e w7 ⟨v7,he,x7,k7⟩=>⟨k7,_,he,fun hS=> ?_⟩
  refine yc 6 122 _ hS (reduce_calls s x7 (x6.kept (kd.trans k7)) HB (mid_big (p14_mid HZ.out)) HZp.out (hT.kept ((K6.trans kd).trans k7))) fun e w8 ⟨v8,he,hf,k8⟩=>⟨k8,_,he,fun hS=> ?_⟩
  obtain⟨vq,vr,rfl,hq,hr⟩:=hf
  obtain⟨aq,nq,cq,rfl⟩:=nt_slice hq
  obtain⟨ar,nr,cr,rfl⟩:=nt_slice hr
  replace p3:=p3.kept ((kd.trans k7).trans k8)
  refine yt 7 p3 own129 own129 (.inl ⟨Nat.le_refl _,Nat.lt_succ_self _⟩) hS fun w9 k9 p9 hS=>yend ?_
  iterate 4 go_step
  exact zret1 p9 own129 ⟨_,rfl,fr_put hq hr k9 p3,(((K6.trans kd).trans k7).trans k8).but k9 (by have:=K.size;omega)⟩
 ·rw[if_neg hle] at HS HN
  obtain rfl:tb=false:=by rw[←ht];unfold cmpInt;simp;split<;>(try split)<;>omega
  have es:=HS.out.symm
  have en:=HN.out.symm
  subst es en
  clear ht HS HN
  have HB:=mid_big (p14_mid (Nat.lt_of_le_of_lt (Nat.sub_le (n'*d) (n*d')) HY.out))
  refine zt_false ?_
  iterate 4 go_step
  refine drawn g3 (g3+1) fun hS=> ?_
  have kd:=(Kept.refl w6b).drew
  refine yr 0 (.pointer (some ⟨g2,0,none⟩)) hS ?_
  refine yl1 1 (p2.cell 0 rfl) (.inl (by omega)) hS ?_
  refine yr 2 v5 hS ?_
  refine yr 3 v4 hS ?_
  refine yr 5 v6 hS ?_
  refine yc 4 193 _ hS (wsub_calls (x5.kept kd) (x4.kept kd) (mid_big (p14_mid HY.out)) (by omega)) fun e w7 ⟨v7,he,x7,k7⟩=>⟨k7,_,he,fun hS=> ?_⟩
  refine yc 6 122 _ hS (reduce_calls s' x7 (x6.kept (kd.trans k7)) HB (mid_big (p14_mid HZ.out)) HZp.out (hT.kept ((K6.trans kd).trans k7))) fun e w8 ⟨v8,he,hf,k8⟩=>⟨k8,_,he,fun hS=> ?_⟩
  obtain⟨vq,vr,rfl,hq,hr⟩:=hf
  obtain⟨aq,nq,cq,rfl⟩:=nt_slice hq
  obtain⟨ar,nr,cr,rfl⟩:=nt_slice hr
  replace p3:=p3.kept ((kd.trans k7).trans k8)
  refine yt 7 p3 own129 own129 (.inl ⟨Nat.le_refl _,Nat.lt_succ_self _⟩) hS fun w9 k9 p9 hS=>yend ?_
  iterate 3 go_step
  exact zret1 p9 own129 ⟨_,rfl,fr_put hq hr k9 p3,(((K6.trans kd).trans k7).trans k8).but k9 (by have:=K.size;omega)⟩
theorem lit_ret{w w0 w3 w4 w5:World}{neg:Bool}{m g:Nat}{v1 v2:Value}{t:TypeId}(K:Kept w w3)(x1:Nt 4294967296 w3 v1 m)(k4:Kept w3 w4)(x2:Nt 4294967296 w4 v2 1)(k5:KeptB w4 w5 g)(hb:Blk w4 g ZR t)(hg:w.heap.size≤g)(h0:w0=w):
 Fr w5 (.agg #[.bool neg,v1,v2]) neg m 1∧Kept w0 w5:=by
 subst h0
 exact⟨fr_put (x1.kept k4) x2 k5 hb,(K.trans k4).but k5 hg⟩
set_option maxHeartbeats 4000000 in
set_option maxRecDepth 100000 in
theorem fint_calls(w:World)(i:Int)(hi:i=0∨i=1∨i= -1):
 Calls Tryz.prog 120 #[.int .i64 i] w (RetFr (decide (i<0)) i.natAbs 1 w):=by
 refine entL [_] 16 Tryz.func120 rfl Tryz.ntmps120 (by simp) ?_
 rcases hi with rfl|rfl|rfl
 ·iterate 2 go_step
  refine za ZR 129 fun w1 g1 e1 k1 p1 s1=> ?_
  iterate 5 go_step
  refine zr (.int .i64 0) ?_
  refine zr (.int .u64 0) ?_
  refine zr (.int .u64 0) ?_
  iterate 6 go_step
  refine zr (.int .i64 0) ?_
  refine zr (.bool false) ?_
  iterate 3 go_step
  refine zt_false ?_
  iterate 5 go_step
  refine zr (.int .i64 0) ?_
  refine zr (.bool false) ?_
  refine zr (.int .u64 0) ?_
  refine zc 132 _ (small_calls w1 0 (by decide)) ?_
  rintro e w2 ⟨v2,rfl,x2,k2⟩
  refine⟨_,rfl,?_⟩
  refine zc 132 _ (small_calls w2 1 (by decide)) ?_
  rintro e w3 ⟨v3,rfl,x3,k3⟩
  refine⟨_,rfl,?_⟩
  obtain⟨a2,n2,c2,rfl⟩:=nt_slice x2
  obtain⟨a3,n3,c3,rfl⟩:=nt_slice x3
  refine zr (.agg #[.bool false,.slice a2 n2 c2,.slice a3 n3 c3]) ?_
  refine zt ((p1.kept k2).kept k3) own129 own129 fun w4 k4 p4=> ?_
  iterate 4 go_step
  have hg:w.heap.size≤g1:=by omega
  exact zret1 p4 own129 ⟨_,rfl,lit_ret (k1.trans k2) x2 k3 x3 k4 ((p1.kept k2).kept k3) hg rfl⟩
 ·iterate 2 go_step
  refine za ZR 129 fun w1 g1 e1 k1 p1 s1=> ?_
  iterate 5 go_step
  refine zr (.int .i64 1) ?_
  refine zr (.int .u64 1) ?_
  refine zr (.int .u64 1) ?_
  iterate 6 go_step
  refine zr (.int .i64 1) ?_
  refine zr (.bool false) ?_
  iterate 3 go_step
  refine zt_false ?_
  iterate 5 go_step
  refine zr (.int .i64 1) ?_
  refine zr (.bool false) ?_
  refine zr (.int .u64 1) ?_
  refine zc 132 _ (small_calls w1 1 (by decide)) ?_
  rintro e w2 ⟨v2,rfl,x2,k2⟩
  refine⟨_,rfl,?_⟩
  refine zc 132 _ (small_calls w2 1 (by decide)) ?_
  rintro e w3 ⟨v3,rfl,x3,k3⟩
  refine⟨_,rfl,?_⟩
  obtain⟨a2,n2,c2,rfl⟩:=nt_slice x2
  obtain⟨a3,n3,c3,rfl⟩:=nt_slice x3
  refine zr (.agg #[.bool false,.slice a2 n2 c2,.slice a3 n3 c3]) ?_
  refine zt ((p1.kept k2).kept k3) own129 own129 fun w4 k4 p4=> ?_
  iterate 4 go_step
  have hg:w.heap.size≤g1:=by omega
  exact zret1 p4 own129 ⟨_,rfl,lit_ret (k1.trans k2) x2 k3 x3 k4 ((p1.kept k2).kept k3) hg rfl⟩
 ·iterate 2 go_step
  refine za ZR 129 fun w1 g1 e1 k1 p1 s1=> ?_
  iterate 5 go_step
  refine zr (.int .i64 (-1)) ?_
  refine zr (.int .u64 18446744073709551615) ?_
  refine zr (.int .u64 18446744073709551615) ?_
  iterate 6 go_step
  refine zr (.int .i64 (-1)) ?_
  refine zr (.bool true) ?_
  iterate 3 go_step
  refine zt_true ?_
  go_step
  refine zr (.int .u64 18446744073709551615) ?_
  refine zr (.int .u64 1) ?_
  refine zr (.int .u64 1) ?_
  iterate 5 go_step
  refine zr (.int .i64 (-1)) ?_
  refine zr (.bool true) ?_
  refine zr (.int .u64 1) ?_
  refine zc 132 _ (small_calls w1 1 (by decide)) ?_
  rintro e w2 ⟨v2,rfl,x2,k2⟩
  refine⟨_,rfl,?_⟩
  refine zc 132 _ (small_calls w2 1 (by decide)) ?_
  rintro e w3 ⟨v3,rfl,x3,k3⟩
  refine⟨_,rfl,?_⟩
  obtain⟨a2,n2,c2,rfl⟩:=nt_slice x2
  obtain⟨a3,n3,c3,rfl⟩:=nt_slice x3
  refine zr (.agg #[.bool true,.slice a2 n2 c2,.slice a3 n3 c3]) ?_
  refine zt ((p1.kept k2).kept k3) own129 own129 fun w4 k4 p4=> ?_
  iterate 4 go_step
  have hg:w.heap.size≤g1:=by omega
  exact zret1 p4 own129 ⟨_,rfl,lit_ret (k1.trans k2) x2 k3 x3 k4 ((p1.kept k2).kept k3) hg rfl⟩
section
theorem own24{s1:Bool}{a1:Option Addr}{n1 c1:Nat}{a2:Option Addr}{n2 c2:Nat}:Own 24 #[.bool s1,.slice a1 n1 c1,.slice a2 n2 c2]:=⟨by kernel_rfl,by simp[Value.oneCell']⟩
set_option maxHeartbeats 4000000
set_option maxRecDepth 100000
theorem give_bad{w:World}{v:Value}{neg:Bool}{n d:Nat}(h:Fr w v neg n d)(hf:(fits32 n&&fits32 d)=false):
 Calls Tryz.prog 125 #[v] w fun e w'=>e= .returned (.tuple #[.agg ZR,.int .i64 1])∧Kept w w':=by
 have hft:=fun(w':World)(k:Kept w w')=>fits_calls (h.kept k)
 rw[hf] at hft
 obtain⟨vn,vd,rfl,hvn,hvd⟩:=h
 obtain⟨p1,p2,p3,rfl⟩:=nt_slice hvn
 obtain⟨q1,q2,q3,rfl⟩:=nt_slice hvd
 clear hvn hvd hf
 refine ent1 23 Tryz.func125 rfl Tryz.ntmps125 ?_
 iterate 3 go_step
 refine zb fun w1 g1 e1 k1 p1 s1=> ?_
 refine za ZR 24 fun w2 g2 e2 k2 p2 s2=> ?_
 refine zr (.int .i64 0) ?_
 iterate 6 go_step
 refine zl (p1.kept k2).range own129 ?_
 refine zc 133 _ (hft _ (k1.trans k2)) ?_
 rintro e w3 ⟨rfl,k3⟩
 refine⟨_,rfl,?_⟩
 refine zr (.bool true) ?_
 iterate 3 go_step
 refine zt_true ?_
 iterate 2 go_step
 refine zr (.agg ZR) ?_
 refine zt (p2.kept k3) own24 own24 fun w4 k4 p4=> ?_
 refine zr (.int .i64 1) ?_
 iterate 6 go_step
 exact zret1b p4 own24 ⟨rfl,((k1.trans k2).trans k3).but k4 (by omega)⟩
theorem must0_calls(w:World):Calls Tryz.prog 119 #[.int .i64 0] w fun e w'=>(∃v,e= .returned v)∧w=w':=by
 go_enter Tryz.func119,Tryz.ntmps119
 go_wp2
 go_end0
 exact⟨⟨_,rfl⟩,rfl⟩
theorem have_ok{w:World}{s:Bool}{a1:Option Addr}{n1 c1:Nat}{a2:Option Addr}{n2 c2:Nat}{N D:Nat}{S:Nat→Bool}(h:Rt (onlyW w S) (.agg #[.bool s,.slice a1 n1 c1,.slice a2 n2 c2]) s N D):
 Calls Tryz.prog 124 #[.agg #[.bool s,.slice a1 n1 c1,.slice a2 n2 c2],.int .i64 0] w fun e w'=>e= .returned (.agg #[.bool s,.slice a1 n1 c1,.slice a2 n2 c2])∧Rt (onlyW w' S) (.agg #[.bool s,.slice a1 n1 c1,.slice a2 n2 c2]) s N D∧Kept w w':=by
 refine entL [_,_] 8 Tryz.func124 rfl Tryz.ntmps124 (by simp) ?_
 iterate 3 go_step
 refine zb fun w1 g1 e1 k1 p1 s1=> ?_
 refine za ZR 24 fun w2 g2 e2 k2 p2 s2=> ?_
 iterate 5 go_step
 refine zr (.int .i64 0) ?_
 refine zc 119 _ (must0_calls _) ?_
 rintro e w3 ⟨⟨v,rfl⟩,rfl⟩
 refine⟨_,rfl,?_⟩
 iterate 5 go_step
 refine zl (p1.kept k2).range own24 ?_
 refine zt p2 own24 own24 fun w4 k4 p4=> ?_
 iterate 5 go_step
 have hk:=(k1.trans k2).but k4 (by omega)
 refine zret1 p4 own24 ⟨rfl,h.sub (only_move fun b hb hs=>⟨hs,hk.old b hb⟩),hk⟩
theorem have_bad(w:World)(s:Bool)(a1:Option Addr)(n1 c1:Nat)(a2:Option Addr)(n2 c2:Nat):
 Calls Tryz.prog 124 #[.agg #[.bool s,.slice a1 n1 c1,.slice a2 n2 c2],.int .i64 1] w fun e w'=>e= .panicked failed∧Kept w w':=by
 go_enter Tryz.func124,Tryz.ntmps124
 go_wp2_with(go_at_call 119;refine(must_calls _).mono ?_;rintro e w3 ⟨rfl,rfl⟩)
 exact⟨rfl,rfl,((Kept.refl w).alloc _).alloc _⟩
end
section
section
variable{P:Program}{ops:Array Oper}{Q:Exit→Act→World→Prop}{md:Region.Mode}{S:World→Prop}
def wpE(P:Program)(md:Region.Mode)(ops:Array Oper)(Q:Exit→Act→World→Prop)(S:World→Prop)(L:Nat):Nat→Array Bool→Act→World→Prop
 |0,listed,a,w=>Region.ready md ops listed=[]∧Q .normal a w
 |fuel+1,listed,a,w=>
  (Region.ready md ops listed=[]→Q .normal a w)∧
  ∀i∈Region.ready md ops listed,wpOp P ops Q i (fun a' w'=>(i≠L→S w')∧wpE P md ops Q S L fuel (listed.setIfInBounds i true) a' w') a w
theorem wpAny_of_E{L:Nat}:∀(fuel:Nat)(listed:Array Bool)(a:Act)(w:World),wpE P md ops Q S L fuel listed a w→wpAny P md ops Q fuel listed a w
 |0,_,_,_,h=>h
 |_+1,_,_,_,h=>⟨h.1,fun i hi=>wpOp_mono (fun a' w' h'=>wpAny_of_E _ _ a' w' h'.2) (h.2 i hi)⟩
def waitsOn(md:Region.Mode)(ops:Array Oper)(L i:Nat):Bool:=match ops[L]? with
 |some o=>o.after.any fun e=>Region.binds md e&&e.on==i
 |none=>false
theorem wpE_first{L i:Nat}{oi:Oper}{v:Value}(hi:ops[i]? =some oi)(hsel:∀(j:Nat)(o:Oper) cs b,ops[j]? =some o→o.op≠.select cs b)
 (hQ:∀c a w,Q (.panic c) (a.put oi.dst v) w→Q (.panic c) a w)(hL:waitsOn md ops L i=true):
 ∀(fuel:Nat)(listed:Array Bool)(a:Act)(w:World),
  (∀j oj,ops[j]? =some oj→j≠i→listed.getD j true=false→(∀e∈oj.after,Region.binds md e=true→e.on≠i)→oi.apart ops oj=true)→
  i∈Region.ready md ops listed→YieldsIf P ops S oi v a→S w→
  wpE P md ops Q S L fuel (listed.setIfInBounds i true) (a.put oi.dst v) w→wpE P md ops Q S L (fuel+1) listed a w:=by
 have key:∀(listed:Array Bool)(j:Nat),i∈Region.ready md ops listed→j∈Region.ready md ops listed→(∀oj,ops[j]? =some oj→∀e∈oj.after,Region.binds md e=true→e.on≠i):=by
  intro listed j h1 h2 oj hoj e he hb heq
  obtain⟨_,oj',hoj',hall⟩:=mem_ready.1 h2
  rw[hoj] at hoj'
  cases hoj'
  have a1:=hall e he hb
  have a0:=(mem_ready.1 h1).1
  rw[heq] at a1
  by_cases h':i<listed.size
  ·simp[h'] at a0 a1
   rw[a0] at a1
   cases a1
  ·simp[h'] at a1
 have notL:∀(listed:Array Bool)(j:Nat),i∈Region.ready md ops listed→j∈Region.ready md ops listed→j≠L:=by
  intro listed j h1 h2 hj
  subst hj
  obtain⟨_,oj,hoj,_⟩:=mem_ready.1 h2
  unfold waitsOn at hL
  rw[hoj] at hL
  obtain⟨e,he,hb⟩:=Array.any_eq_true'.1 hL
  simp only[Bool.and_eq_true,beq_iff_eq] at hb
  exact key listed j h1 h2 oj hoj e he hb.1 hb.2
 intro fuel
 induction fuel with
 |zero=>
  intro listed a w _ hr hy hS H
  refine⟨fun h=>(by rw[h] at hr;cases hr),fun j hj=> ?_⟩
  by_cases hji:j=i
  ·subst hji;exact hy.wpOp hi hS ⟨fun _=>hS,H⟩
  ·have:=ready_mono hj hji
   rw[H.1] at this
   cases this
 |succ fuel ih=>
  intro listed a w hfree hr hy hS H
  refine⟨fun h=>(by rw[h] at hr;cases hr),fun j hj=> ?_⟩
  by_cases hji:j=i
  ·subst hji;exact hy.wpOp hi hS ⟨fun _=>hS,H⟩
  have hjL:=notL listed j hr hj
  obtain⟨hjun,oj,hoj,_⟩:=mem_ready.1 hj
  have h2:=wpOp_putIf hoj (hfree j oj hoj hji hjun (key listed j hr hj oj hoj)) (fun cs b=>hsel i oi cs b hi) (fun cs b=>hsel j oj cs b hoj) hQ hy (H.2 j (ready_mono hj hji))
  have hfree':∀k ok,ops[k]? =some ok→k≠i→(listed.setIfInBounds j true).getD k true=false→
   (∀e∈ok.after,Region.binds md e=true→e.on≠i)→oi.apart ops ok=true:=fun k ok hk hki hun hno=>by
   by_cases hjk:j=k
   ·subst hjk;exact hfree j ok hk hki hjun hno
   ·exact hfree k ok hk hki (by rw[getD_set_ne true hjk] at hun;exact hun) hno
  refine wpOp_mono (fun a' w' h3=>⟨h3.2.1,ih (listed.setIfInBounds j true) a' w' hfree' (ready_mono hr (Ne.symm hji)) h3.1 (h3.2.1 hjL) ?_⟩) h2
  rw[Array.setIfInBounds_comm _ _ hji]
  exact h3.2.2
theorem wpE_take{L i:Nat}{oi:Oper}{v:Value}{fuel:Nat}{listed:Array Bool}{a:Act}{w:World}(hi:ops[i]? =some oi)
 (hs:Region.noSelect ops=true)(hf:Region.free md ops listed i=true)(hr:(Region.ready md ops listed).contains i=true)
 (hQ:∀c a w,Q (.panic c) (a.put oi.dst v) w→Q (.panic c) a w)(hL:waitsOn md ops L i=true)(hy:YieldsIf P ops S oi v a)(hS:S w)
 (h:wpE P md ops Q S L fuel (listed.setIfInBounds i true) (a.put oi.dst v) w):wpE P md ops Q S L (fuel+1) listed a w:=
 wpE_first hi (Region.noSelect_spec hs) hQ hL fuel listed a w (Region.free_spec hi hf) (by simpa using hr) hy hS h
theorem wpE_last{L fuel:Nat}{listed:Array Bool}{a:Act}{w:World}{S':World→Prop}(hr:Region.ready md ops listed=[L])(hr2:Region.ready md ops (listed.setIfInBounds L true)=[])
 (h:wpAnyH P md ops Q S' (fuel+1) listed a w):wpE P md ops Q S L (fuel+1) listed a w:=by
 refine⟨h.1,fun i hi=> ?_⟩
 have hi':=hi
 rw[hr,List.mem_singleton] at hi'
 subst hi'
 refine wpOp_mono (fun a' w' h'=>⟨fun h0=>absurd rfl h0,?_⟩) (h.2 i hi)
 have h2:=h'.2
 cases fuel with
 |zero=>exact h2
 |succ f=>exact⟨h2.1,fun j hj=>by rw[hr2] at hj;cases hj⟩
theorem wpE_one{L i fuel:Nat}{listed:Array Bool}{a:Act}{w:World}(hr:Region.ready md ops listed=[i])
 (h:wpOp P ops Q i (fun a' w'=>(i≠L→S w')∧wpE P md ops Q S L fuel (listed.setIfInBounds i true) a' w') a w):wpE P md ops Q S L (fuel+1) listed a w:=
 ⟨fun h0=>(by rw[hr] at h0;cases h0),fun j hj=>by rw[hr,List.mem_singleton] at hj;subst hj;exact h⟩
end
section
variable{n:Nat}{l:Fm}{ops:Array Oper}{Q:Exit→Act→World→Prop}{oi:Oper}{fuel:Nat}{listed:Array Bool}{w w0:World}{d L:Nat}{S:World→Prop}
theorem er(i:Nat)(v:Value)(hS:S w)(h:wpE Tryz.prog .any ops Q S L fuel (listed.setIfInBounds i true) (frm n (upd l d v)) w)
 (hi:ops[i]? =some oi:=by rfl)(hg:oi.guard=none:=by rfl)(hd:oi.dst=some d:=by rfl)(hrun:∀w',S w'→(execOp (ev n l) oi).run Tryz.prog w'= .ok (.value v) w':=by intro w' _;kernel_rfl)
 (hL:waitsOn .any ops L i=true:=by kernel_rfl)
 (hs:Region.noSelect ops=true:=by kernel_rfl)(hf:Region.free .any ops listed i=true:=by kernel_rfl)(hr:(Region.ready .any ops listed).contains i=true:=by kernel_rfl)
 (hQ:∀c a w,Q (.panic c) (a.put oi.dst v) w→Q (.panic c) a w:=by exact fun _ _ _ h=>h):wpE Tryz.prog .any ops Q S L (fuel+1) listed (frm n l) w:=
 wpE_take hi hs hf hr hQ hL (.inl ⟨by simp[Region.wanted,hg],fun w' hw'=>by rw[frm_eval];exact hrun w' hw'⟩) hS (by rw[hd,frm_put];exact h)
theorem el1(i:Nat){p:Tmp}{ty b o:Nat}{x:Value}(hr0:∀w',S w'→w'.cell? ⟨b,o,none⟩=some x)(hS:S w)(h:wpE Tryz.prog .any ops Q S L fuel (listed.setIfInBounds i true) (frm n (upd l d x)) w)
 (hi:ops[i]? =some oi:=by rfl)(hop:oi.op= .load ty (.tmp p):=by rfl)(hg:oi.guard=none:=by rfl)(hd:oi.dst=some d:=by rfl)(hx:opv n l (.tmp p)=some (.pointer (some ⟨b,o,none⟩)):=by rfl)(hu:(Tryz.prog.underlying ty).map TypeDesc.isRow=some false:=by kernel_rfl)
 (hL:waitsOn .any ops L i=true:=by kernel_rfl)
 (hs:Region.noSelect ops=true:=by kernel_rfl)(hf:Region.free .any ops listed i=true:=by kernel_rfl)(hr:(Region.ready .any ops listed).contains i=true:=by kernel_rfl)
 (hQ:∀c a w,Q (.panic c) (a.put oi.dst x) w→Q (.panic c) a w:=by exact fun _ _ _ h=>h):wpE Tryz.prog .any ops Q S L (fuel+1) listed (frm n l) w:=
 er i x hS h hi hg hd (fun w' hw'=>run_one (hr0 w' hw') hop hx hu) hL hs hf hr hQ
theorem ec(i:Nat){R:Ending→World→Prop}(f:FuncId)(args:Array Value)(hc:Calls Tryz.prog f args w R)
 (h:∀e w',R e w'→S w'∧∃v,e= .returned v∧wpE Tryz.prog .any ops Q S L fuel (listed.setIfInBounds i true) (frm n (upd l d v)) w')
 (hi:ops[i]? =some oi:=by rfl)(hrun:(execOp (ev n l) oi).run Tryz.prog w= .ok (.enter f args) w:=by kernel_rfl)(hg:oi.guard=none:=by rfl)(hd:oi.dst=some d:=by rfl)(hr:Region.ready .any ops listed=[i]:=by kernel_rfl):
 wpE Tryz.prog .any ops Q S L (fuel+1) listed (frm n l) w:=by
 refine wpE_one hr ?_
 unfold wpOp
 rw[hi]
 simp only
 rw[if_pos (by simp[Region.wanted,hg])]
 refine .inl ?_
 unfold Oper.wp
 rw[show(execOp (frm n l).eval oi).run Tryz.prog w= .ok (.enter f args) w by rw[frm_eval];exact hrun]
 refine Calls.mono hc fun e w' hR=> ?_
 obtain⟨hS,v,rfl,h'⟩:=h e w' hR
 refine⟨fun _=>hS,?_⟩
 rw[hd,frm_put]
 exact h'
theorem drawnE{id:Nat}{a:Act}(L:Nat)(S:World→Prop)(h:wpE Tryz.prog .any ops Q S L ops.size (Array.replicate ops.size false) a w.drew):(Code.region id ops true).wp Tryz.prog Q a w:=
 wp_region_any (by kernel_rfl) (wpAny_of_E _ _ _ _ h)
theorem et(L:Nat){p q:Tmp}{ty g:Nat}{t:TypeId}{Y V:Array Value}(hb:Blk w g Y t)(hY:Own ty Y)(hV:Own ty V)
 (h:∀w',KeptB w w' g→Blk w' g V t→Q .normal (frm n l) w')
 (hi:ops[L]? =some oi:=by rfl)(hop:oi.op= .store ty (.tmp p) (.tmp q):=by rfl)(hd:oi.dst=none:=by rfl)(hg:oi.guard=none:=by rfl)
 (hx:opv n l (.tmp p)=some (.pointer (some ⟨g,0,none⟩)):=by rfl)(hq:opv n l (.tmp q)=some (.agg V):=by rfl)(hr:Region.ready .any ops listed=[L]:=by kernel_rfl)(hr2:Region.ready .any ops (listed.setIfInBounds L true)=[]:=by kernel_rfl):
 wpE Tryz.prog .any ops Q S L (fuel+1) listed (frm n l) w:=
 wpE_last hr hr2 (S':=Lk g (g+1) w) (yt L hb hY hV (.inl ⟨Nat.le_refl _,Nat.lt_succ_self _⟩) (kept_lk (Kept.refl w) _ _) (fun w' k b _=>yend (h w' k b) hr2) hi hop hd hg hx hq hr)
end
end
section
theorem zcp{n d:Nat}{l:Fm}{ops:Array Oper}{rest:List Oper}{Q:Exit→Act→World→Prop}{oi:Oper}{w:World}{R:Ending→World→Prop}(f:FuncId)(args:Array Value)(hc:Calls Tryz.prog f args w R)
 (h:∀e w',R e w'→(∃v,e= .returned v∧wpList Tryz.prog ops Q rest (frm n (upd l d v)) w')∨∃c,e= .panicked c∧Q (.panic c) (frm n l) w')
 (hrun:(execOp (ev n l) oi).run Tryz.prog w= .ok (.enter f args) w:=by kernel_rfl)(hg:oi.guard=none:=by rfl)(hd:oi.dst=some d:=by rfl):wpList Tryz.prog ops Q (oi::rest) (frm n l) w:=
 wpList_plain hg fun K hK=>by
  unfold Oper.wp
  rw[show(execOp (frm n l).eval oi).run Tryz.prog w= .ok (.enter f args) w by rw[frm_eval];exact hrun]
  refine Calls.mono hc fun e w' hR=> ?_
  rcases h e w' hR with⟨v,rfl,h'⟩|⟨c,rfl,h'⟩
  ·simp only[Act.put,hd]
   refine hK _ _ ?_
   rw[show(⟨(frm n l).tmps.setIfInBounds d v,(frm n l).defers⟩:Act)=frm n (upd l d v) from frm_set ..]
   exact h'
  ·exact h'
theorem fr_keptB{w w':World}{g:Nat}{v:Value}{neg:Bool}{n d:Nat}(h:Fr w v neg n d)(k:KeptB w w' g)(hb:NoWords w g):Fr w' v neg n d:=by
 obtain⟨vn,vd,h1,h2,h3⟩:=h
 exact⟨vn,vd,h1,h2.keptB k hb,h3.keptB k hb⟩
theorem sm_one:1<Sm:=Nat.lt_of_lt_of_le (show 1<pwr 2 1 by rw[pwr_eq];decide) (pwr_le 1 7000 (by decide))
def faddF(s:Bool)(n d:Nat)(s':Bool)(n' d':Nat):Bool×Nat×Nat:=
 (sumS s n d s' n' d'&&decide (0<sumN s n d s' n' d'),sumN s n d s' n' d'/Nat.gcd (sumN s n d s' n' d') (sumD d d'),sumD d d'/Nat.gcd (sumN s n d s' n' d') (sumD d d'))
theorem fadd_bounds{n d n' d':Nat}(s s':Bool)(b1:n<Sm)(b2:d<Sm)(b3:n'<Sm)(b4:d'<Sm):(faddF s n d s' n' d').2.1<Mid∧(faddF s n d s' n' d').2.2<pwr 2 14000∧0<(faddF s n d s' n' d').2.2:=by
 have hx:=sm_mul b1 (dn_sm b4)
 have hy:=sm_mul b3 (dn_sm b2)
 have hz:=sm_mul (dn_sm b2) (dn_sm b4)
 refine⟨Nat.lt_of_le_of_lt (Nat.div_le_self _ _) ?_,Nat.lt_of_le_of_lt (Nat.div_le_self _ _) hz,Nat.div_pos (Nat.le_of_dvd (Nat.mul_pos (dn_pos d) (dn_pos d')) (Nat.gcd_dvd_right _ _)) (Nat.gcd_pos_of_pos_right _ (Nat.mul_pos (dn_pos d) (dn_pos d')))⟩
 unfold sumN
 split
 ·exact p14_add hx hy
 ·split
  ·exact p14_mid (Nat.lt_of_le_of_lt (Nat.sub_le _ _) hx)
  ·exact p14_mid (Nat.lt_of_le_of_lt (Nat.sub_le _ _) hy)
def halfF(x:Bool×Nat×Nat):Bool×Nat×Nat:=(x.1&&decide (0<x.2.1),x.2.1/Nat.gcd x.2.1 (x.2.2*2^1),x.2.2*2^1/Nat.gcd x.2.1 (x.2.2*2^1))
def midF(i:IvD):Bool×Nat×Nat:=
 if i.li=true then(if i.hi=true then(false,0,1) else faddF (i.s2&&decide (0<i.N2)) (rN i.N2 i.D2) (rD i.N2 i.D2) true 1 1)
 else if i.hi=true then faddF (i.s1&&decide (0<i.N1)) (rN i.N1 i.D1) (rD i.N1 i.D1) false 1 1
 else halfF (faddF (i.s1&&decide (0<i.N1)) (rN i.N1 i.D1) (rD i.N1 i.D1) (i.s2&&decide (0<i.N2)) (rN i.N2 i.D2) (rD i.N2 i.D2))
def midOk(i:IvD):Bool:=fits32 (midF i).2.1&&fits32 (midF i).2.2
def ZS:Array Value:=#[.bool false,.slice none 0 0,.slice none 0 0,.bool false,.slice none 0 0,.slice none 0 0,.bool false,.bool false,.bool false]
theorem own180{s1:Bool}{a1:Option Addr}{n1 c1:Nat}{a2:Option Addr}{n2 c2:Nat}{s2:Bool}{a3:Option Addr}{n3 c3:Nat}{a4:Option Addr}{n4 c4:Nat}{p q r:Bool}:Own 180 #[.bool s1,.slice a1 n1 c1,.slice a2 n2 c2,.bool s2,.slice a3 n3 c3,.slice a4 n4 c4,.bool p,.bool q,.bool r]:=⟨by kernel_rfl,by simp[Value.oneCell']⟩
def RetMid(i:IvD)(w:World)(e:Ending)(w':World):Prop:=Kept w w'∧((midOk i=true∧∃a1 n1 c1 a2 n2 c2,e= .returned (.agg #[.bool (midF i).1,.slice a1 n1 c1,.slice a2 n2 c2])∧
 Rt (onlyW w' (ab w.heap.size)) (.agg #[.bool (midF i).1,.slice a1 n1 c1,.slice a2 n2 c2]) (midF i).1 (midF i).2.1 (if (midF i).2.2=1 then 0 else(midF i).2.2))∨(midOk i=false∧e= .panicked failed))
set_option maxHeartbeats 4000000
set_option maxRecDepth 100000
theorem middle_fn{w:World}{b:Nat}{i:IvD}(hv:IvB w b i)(hT:Laid w)(hf:i.fine=true)(hvd:i.void=false):Calls Tryz.prog 118 #[.pointer (some ⟨b,0,none⟩)] w (RetMid i w):=by
 obtain⟨a,n,c,a',n',c',d,m,e,d',m',e',hb,h⟩:=hv
 have hr1:=fun(w':World)(k:Kept w w')=>iread_nv (h.kept k) (hT.kept k) hf hvd
 have s1:small i.N1 i.D1=true:=by have hf:(small i.N1 i.D1&&small i.N2 i.D2)=true:=hf;simp only[Bool.and_eq_true] at hf;exact hf.1
 have s2:small i.N2 i.D2=true:=by have hf:(small i.N1 i.D1&&small i.N2 i.D2)=true:=hf;simp only[Bool.and_eq_true] at hf;exact hf.2
 obtain⟨-,-,B1,B2,-,-⟩:=small_bounds s1
 obtain⟨-,-,B3,B4,-,-⟩:=small_bounds s2
 have P1:=rD_pos i.N1 i.D1
 have P2:=rD_pos i.N2 i.D2
 have HM:Hid (midF i=if i.li=true then(if i.hi=true then(false,0,1) else faddF (i.s2&&decide (0<i.N2)) (rN i.N2 i.D2) (rD i.N2 i.D2) true 1 1)
  else if i.hi=true then faddF (i.s1&&decide (0<i.N1)) (rN i.N1 i.D1) (rD i.N1 i.D1) false 1 1
  else halfF (faddF (i.s1&&decide (0<i.N1)) (rN i.N1 i.D1) (rD i.N1 i.D1) (i.s2&&decide (0<i.N2)) (rN i.N2 i.D2) (rD i.N2 i.D2))):=Lib.hid rfl
 have HO:Hid (midOk i=(fits32 (midF i).2.1&&fits32 (midF i).2.2)):=Lib.hid rfl
 unfold RetMid
 clear h hf hvd s1 s2
 generalize midF i=M at*
 generalize midOk i=O at*
 generalize (i.s1&&decide (0<i.N1))=S1 at*
 generalize (i.s2&&decide (0<i.N2))=S2 at*
 generalize rN i.N1 i.D1=N1 at*
 generalize rD i.N1 i.D1=D1 at*
 generalize rN i.N2 i.D2=N2 at*
 generalize rD i.N2 i.D2=D2 at*
 generalize i.li=li at*
 generalize i.hi=hi at*
 refine ent1 49 Tryz.func118 rfl Tryz.ntmps118 ?_
 iterate 3 go_step
 refine za ZR 24 fun w1 g1 e1 k1 b1 q1=> ?_
 iterate 5 go_step
 refine zl (hb.kept k1).range own39 ?_
 refine zc 108 _ (hr1 _ k1) ?_
 rintro e w2 ⟨x1,x2,x3,x4,x5,x6,x7,x8,x9,xa,xb,xc,rfl,hx1,hx2,k2⟩
 refine⟨_,rfl,?_⟩
 refine za ZS 180 fun w3 g2 e3 k3 b2 q3=> ?_
 have b2z:=b2
 refine zt b2 own180 own180 fun w4 k4 b2=> ?_
 iterate 5 go_step
 refine za ZR 129 fun w5 g3 e5 k5 b3 q5=> ?_
 iterate 7 go_step
 have hg1:g1=w.heap.size:=by omega
 have hs1:=k2.size
 have hs3:=k4.size
 have hg2:g1<g2∧g2<g3:=by have:=k3.size;omega
 have hnw:NoWords w3 g2:=Blk.noWords b2z (by decide)
 replace hx1:=(fr_keptB (hx1.kept k3) k4 hnw).kept k5
 replace hx2:=(fr_keptB (hx2.kept k3) k4 hnw).kept k5
 replace b1:=(((b1.kept k2).kept k3).keptB k4 (by omega)).kept k5
 replace b2:=b2.kept k5
 have K:=((k1.trans k2).trans k3).but k4 (by omega) |>.trans k5
 have HT:=hT.kept K
 clear hnw b2z k1 k2 k3 k4 k5 hT hr1 hb e1 q1 q3 hs1 hs3
 rename_i K2 hK2 K3 hK3
 have rest:∀(fl:Fm)(W:World)(s:Bool)(N D:Nat)(p1:Option Addr)(p2 p3:Nat)(p4:Option Addr)(p5 p6:Nat),sees fl [(1,.pointer (some ⟨g1,0,none⟩)),(3,.pointer (some ⟨g3,0,none⟩))]→
  Kept w W→Blk W g1 ZR 24→Blk W g3 #[.bool s,.slice p1 p2 p3,.slice p4 p5 p6] 129→Fr W (.agg #[.bool s,.slice p1 p2 p3,.slice p4 p5 p6]) s N D→M=(s,N,D)→K2 (frm 50 fl) W:=by
  clear hx1 hx2 b1 b2 b3 K HT HM B1 B2 B3 B4 P1 P2
  intro fl W s N D p1 p2 p3 p4 p5 p6 hse K b1 b3 hF hM
  refine hK2 _ _ ?_
  rw[←look_eq hse]
  have hlt:=b1.lt
  subst hM
  iterate 2 go_step
  refine zl b3.range own129 ?_
  by_cases ho:(fits32 N&&fits32 D)=true
  ·have ho':=ho
   simp only[Bool.and_eq_true] at ho'
   refine zc 125 _ (give_calls hF ho'.1 ho'.2) ?_
   rintro e w6 ⟨a1,n1,c1,a2,n2,c2,rfl,hR,k6⟩
   refine⟨_,rfl,?_⟩
   refine zr (.agg #[.bool s,.slice a1 n1 c1,.slice a2 n2 c2]) ?_
   refine zr (.int .i64 0) ?_
   refine zc 124 _ (have_ok hR) ?_
   rintro e w7 ⟨rfl,hR,k7⟩
   refine⟨_,rfl,?_⟩
   refine zt ((b1.kept k6).kept k7) own24 own24 fun w8 k8 b1=> ?_
   iterate 5 go_step
   refine zret1 b1 own24 ⟨((K.trans k6).trans k7).but k8 (by omega),.inl ⟨HO.out.trans ho,_,_,_,_,_,_,rfl,hR.sub (only_move fun b hb hs=> ?_)⟩⟩
   unfold ab at hs⊢
   simp only[decide_eq_true_eq] at hs⊢
   exact⟨by omega,k8.old b hb (by omega)⟩
  ·have ho:(fits32 N&&fits32 D)=false:=by simpa using ho
   refine zc 125 _ (give_bad hF ho) ?_
   rintro e w6 ⟨rfl,k6⟩
   refine⟨_,rfl,?_⟩
   refine zr (.agg ZR) ?_
   refine zr (.int .i64 1) ?_
   refine zcp 124 _ (have_bad w6 false none 0 0 none 0 0) ?_
   rintro e w7 ⟨rfl,k7⟩
   refine .inr ⟨_,rfl,?_⟩
   exact⟨rfl,(K.trans k6).trans k7,.inr ⟨HO.out.trans ho,rfl⟩⟩
 clear hK2 HO
 have hq:=K.size
 refine zr (.pointer (some ⟨g2,8,none⟩)) ?_
 refine zl1 (b2.cell 8 rfl) ?_
 refine zr (.bool false) ?_
 iterate 3 go_step
 refine zt_false ?_
 iterate 2 go_step
 refine zr (.pointer (some ⟨g2,6,none⟩)) ?_
 refine zl1 (b2.cell 6 rfl) ?_
 refine zr (.bool li) ?_
 cases li
 case' true=>
  refine zwant ?_
  refine zr (.pointer (some ⟨g2,7,none⟩)) ?_
  refine zwant ?_
  refine zl1 (b2.cell 7 rfl) ?_
  refine zr (.bool hi) ?_
  refine zr (.bool hi) ?_
  iterate 3 go_step
  cases hi
  case' true=>
   refine zt_true ?_
   go_step
   refine zc 120 _ (fint_calls w5 0 (.inl rfl)) ?_
   rintro e w6 ⟨v6,rfl,hF,k6⟩
   refine⟨_,rfl,?_⟩
   obtain⟨vn,vd,rfl,hn,hd⟩:=hF
   obtain⟨y1,y2,y3,rfl⟩:=nt_slice hn
   obtain⟨y4,y5,y6,rfl⟩:=nt_slice hd
   refine zt (b3.kept k6) own129 own129 fun w7 k7 b3'=> ?_
   iterate 2 go_step
   exact rest _ _ _ _ _ _ _ _ _ _ _ ⟨rfl,rfl,trivial⟩ ((K.trans k6).but k7 (by omega)) ((b1.kept k6).keptB k7 (by omega)) b3' (fr_put hn hd k7 (b3.kept k6)) HM.out
  refine zt_false ?_
  iterate 2 go_step
  refine zr (.pointer (some ⟨g2,7,none⟩)) ?_
  refine zl1 (b2.cell 7 rfl) ?_
  refine zr (.bool false) ?_
  iterate 3 go_step
  refine zt_false ?_
  iterate 2 go_step
  refine zr (.pointer (some ⟨g2,6,none⟩)) ?_
  refine zl1 (b2.cell 6 rfl) ?_
  refine zr (.bool true) ?_
  iterate 3 go_step
  refine zt_true ?_
  refine drawn g3 (g3+1) fun hS=> ?_
  have kd:=(Kept.refl w5).drew
  refine yr 0 (.pointer (some ⟨g2,3,none⟩)) hS ?_
  refine yl 1 (V:=#[.bool S2,.slice x7 x8 x9,.slice xa xb xc]) (b2.part 3) (.inl hg2.2) own129 hS ?_
  refine yc 2 120 _ hS (fint_calls _ (-1) (.inr (.inr rfl))) fun e w6 ⟨v6,he,hF,k6⟩=>⟨k6,_,he,fun hS=> ?_⟩
  refine yc 3 121 _ hS (fadd_calls (hx2.kept (kd.trans k6)) hF B3 B4 sm_one sm_one P2 (by decide) (HT.kept (kd.trans k6))) fun e w7 ⟨v7,he,hF,k7⟩=>⟨k7,_,he,fun hS=> ?_⟩
  obtain⟨vn,vd,rfl,hn,hd⟩:=hF
  obtain⟨y1,y2,y3,rfl⟩:=nt_slice hn
  obtain⟨y4,y5,y6,rfl⟩:=nt_slice hd
  have b3k:=b3.kept ((kd.trans k6).trans k7)
  refine yt 4 b3k own129 own129 (.inl ⟨Nat.le_refl _,Nat.lt_succ_self _⟩) hS fun w8 k8 b3' hS=>yend ?_
  go_step
  exact rest _ _ _ _ _ _ _ _ _ _ _ ⟨rfl,rfl,trivial⟩ ((((K.trans kd).trans k6).trans k7).but k8 (by omega)) ((b1.kept ((kd.trans k6).trans k7)).keptB k8 (by omega)) b3' (fr_put hn hd k8 b3k) HM.out
 refine zskw ?_
 refine zskw ?_
 refine zr (.bool false) ?_
 refine zr (.bool false) ?_
 iterate 3 go_step
 refine zt_false ?_
 iterate 2 go_step
 refine zr (.pointer (some ⟨g2,7,none⟩)) ?_
 refine zl1 (b2.cell 7 rfl) ?_
 refine zr (.bool hi) ?_
 iterate 3 go_step
 cases hi
 case' true=>
  refine zt_true ?_
  refine drawn g3 (g3+1) fun hS=> ?_
  have kd:=(Kept.refl w5).drew
  refine yr 0 (.pointer (some ⟨g2,0,none⟩)) hS ?_
  refine yl 1 (V:=#[.bool S1,.slice x1 x2 x3,.slice x4 x5 x6]) (b2.part 0) (.inl hg2.2) own129 hS ?_
  refine yc 2 120 _ hS (fint_calls _ 1 (.inr (.inl rfl))) fun e w6 ⟨v6,he,hF,k6⟩=>⟨k6,_,he,fun hS=> ?_⟩
  refine yc 3 121 _ hS (fadd_calls (hx1.kept (kd.trans k6)) hF B1 B2 sm_one sm_one P1 (by decide) (HT.kept (kd.trans k6))) fun e w7 ⟨v7,he,hF,k7⟩=>⟨k7,_,he,fun hS=> ?_⟩
  obtain⟨vn,vd,rfl,hn,hd⟩:=hF
  obtain⟨y1,y2,y3,rfl⟩:=nt_slice hn
  obtain⟨y4,y5,y6,rfl⟩:=nt_slice hd
  have b3k:=b3.kept ((kd.trans k6).trans k7)
  refine yt 4 b3k own129 own129 (.inl ⟨Nat.le_refl _,Nat.lt_succ_self _⟩) hS fun w8 k8 b3' hS=>yend ?_
  go_step
  exact rest _ _ _ _ _ _ _ _ _ _ _ ⟨rfl,rfl,trivial⟩ ((((K.trans kd).trans k6).trans k7).but k8 (by omega)) ((b1.kept ((kd.trans k6).trans k7)).keptB k8 (by omega)) b3' (fr_put hn hd k8 b3k) HM.out
 refine zt_false ?_
 iterate 2 go_step
 refine zr (.pointer (some ⟨g2,6,none⟩)) ?_
 refine zl1 (b2.cell 6 rfl) ?_
 refine zr (.bool false) ?_
 iterate 3 go_step
 refine zt_false ?_
 iterate 2 go_step
 refine zr (.pointer (some ⟨g2,0,none⟩)) ?_
 refine zl (V:=#[.bool S1,.slice x1 x2 x3,.slice x4 x5 x6]) (b2.part 0) own129 ?_
 refine zr (.pointer (some ⟨g2,3,none⟩)) ?_
 refine zl (V:=#[.bool S2,.slice x7 x8 x9,.slice xa xb xc]) (b2.part 3) own129 ?_
 refine zc 121 _ (fadd_calls hx1 hx2 B1 B2 B3 B4 P1 P2 HT) ?_
 rintro e w6 ⟨v6,rfl,hF,k6⟩
 refine⟨_,rfl,?_⟩
 have HB:=fadd_bounds S1 S2 B1 B2 B3 B4
 obtain⟨X,hX⟩:∃X,X=faddF S1 N1 D1 S2 N2 D2:=⟨_,rfl⟩
 rw[←hX] at HB HM
 have hF:Fr w6 v6 X.1 X.2.1 X.2.2:=by rw[hX];exact hF
 clear hX
 obtain⟨s,N,D⟩:=X
 obtain⟨vn,vd,rfl,hn,hd⟩:=hF
 obtain⟨y1,y2,y3,rfl⟩:=nt_slice hn
 obtain⟨y4,y5,y6,rfl⟩:=nt_slice hd
 refine zt (b3.kept k6) own129 own129 fun w7 k7 b3'=> ?_
 iterate 3 go_step
 have K7:=(K.trans k6).but k7 (by omega)
 have b17:=(b1.kept k6).keptB k7 (by omega)
 have hnw:NoWords w6 g3:=Blk.noWords (b3.kept k6) (by decide)
 replace hn:=hn.keptB k7 hnw
 replace hd:=hd.keptB k7 hnw
 have HT7:Laid w7:=fun j hj=>k7.cell ((HT.kept k6) j hj) (by show(0:Nat)≠g3;omega)
 refine drawnE 8 (fun w'=>Kept w7 w') ?_
 have kd:=(Kept.refl w7).drew
 refine er 0 (.pointer (some ⟨g3,0,none⟩)) kd ?_
 refine el1 1 (fun w' k=>(b3'.kept k).cell 0 rfl) kd ?_
 refine er 2 (.pointer (some ⟨g3,1,none⟩)) kd ?_
 refine el1 3 (fun w' k=>(b3'.kept k).cell 1 rfl) kd ?_
 refine er 4 (.pointer (some ⟨g3,2,none⟩)) kd ?_
 refine el1 5 (fun w' k=>(b3'.kept k).cell 2 rfl) kd ?_
 refine ec 6 123 _ (shl_calls (s:=1) (hd.kept kd) (mid_big (p14_mid HB.2.1)) (by decide)) fun e w8 ⟨v8,he,x8',k8⟩=>⟨kd.trans k8,_,he,?_⟩
 refine ec 7 122 _ (reduce_calls s (hn.kept (kd.trans k8)) x8' (mid_big HB.1) (by rw[Nat.pow_one,Nat.mul_two];exact mid_big (p14_add HB.2.1 HB.2.1)) (Nat.mul_pos HB.2.2 (by decide)) (HT7.kept (kd.trans k8))) fun e w9 ⟨v9,he,hF,k9⟩=>⟨(kd.trans k8).trans k9,_,he,?_⟩
 obtain⟨vn,vd,rfl,hn',hd'⟩:=hF
 obtain⟨z1,z2,z3,rfl⟩:=nt_slice hn'
 obtain⟨z4,z5,z6,rfl⟩:=nt_slice hd'
 have b39:=b3'.kept ((kd.trans k8).trans k9)
 refine et 8 b39 own129 own129 fun wa ka b3a=> ?_
 go_step
 have hnw9:NoWords w9 g3:=Blk.noWords b39 rfl
 exact rest _ _ _ _ _ _ _ _ _ _ _ ⟨rfl,rfl,trivial⟩ ((K7.trans ((kd.trans k8).trans k9)).but ka (by omega)) ((b17.kept ((kd.trans k8).trans k9)).keptB ka (by omega)) b3a (fr_keptB ⟨_,_,rfl,hn',hd'⟩ ka hnw9) HM.out
end
def Caught(p q:Nat)(w w':World):Prop:=∃w1 w2,Kept w w1∧KeptB w1 w2 p∧KeptB w2 w' q∧Blk w' p ZR 24∧Blk w' q #[.int .i64 1] 33
set_option maxHeartbeats 4000000 in
set_option maxRecDepth 100000 in
theorem catchR_failed(p q:Nat)(w:World)(h1:Blk w p ZR 24)(h2:Blk w q #[.int .i64 0] 33)(hpq:p≠q):
 CallsD Tryz.prog 191 #[.pointer (some ⟨p,0,none⟩),.pointer (some ⟨q,0,none⟩)] (.panicking failed) w fun e u' w'=>
  e= .returned (.tuple #[])∧u'= .panicking mended∧Caught p q w w':=by
 have hta:∀w:World,(Instr.typeAssert (.iface 248 (.agg #[.int .i64 1])) 20 248 true).run Tryz.prog w= .ok (.tuple #[.agg #[.int .i64 1],.bool true]) w:=fun w=>by kernel_rfl
 have hk:Kept w ((w.alloc (.cells #[.int .i64 1] 248)).alloc (.cells ZR 24)):=((Kept.refl w).alloc _).alloc _
 have hn:=(Blk.new w #[.int .i64 1] 248).kept ((Kept.refl _).alloc (.cells ZR 24))
 have hm:=Blk.new (w.alloc (.cells #[.int .i64 1] 248)) ZR 24
 rw[show(w.alloc (.cells #[.int .i64 1] 248)).heap.size=w.heap.size+1 from Array.size_push _] at hm
 have h1':=h1.kept hk
 have h2':=h2.kept hk
 obtain⟨c2,f2⟩:=h2'.facts1
 obtain⟨c3,f3⟩:=hn.facts1
 unfold ZR at*
 obtain⟨a0,a1,a2,b0,b1,b2⟩:=h1'.facts3
 obtain⟨d0,d1,d2,e0,e1,e2⟩:=hm.facts3
 refine callsD_of_wpS Tryz.func191 rfl fun c₀ cs hu=> ?_
 apply wpS_seq
 apply wpS_region
 simp[wpOpsS,go_sem,recoverD,hu,Tryz.ntmps191,Exit.thenS,failed]
 refine wpS_of_wp ?_
 rw[show(#[Value.pointer (some ⟨p,0,none⟩),Value.pointer (some ⟨q,0,none⟩)]++(Array.replicate 13 undef).setIfInBounds 4 (Value.iface 248 (Value.agg #[Value.int IntKind.i64 1])):Array Value)=#[Value.pointer (some ⟨p,0,none⟩),Value.pointer (some ⟨q,0,none⟩),undef,undef,undef,undef,Value.iface 248 (Value.agg #[Value.int IntKind.i64 1]),undef,undef,undef,undef,undef,undef,undef,undef] from rfl]
 go_wp2_with fail
 have hne:w.heap.size≠p:=Nat.ne_of_gt h1.lt
 have hne2:w.heap.size≠q:=Nat.ne_of_gt h2.lt
 have hne3:w.heap.size+1≠p:=by have:=h1.lt;omega
 have hne4:w.heap.size+1≠q:=by have:=h2.lt;omega
 generalize ((w.alloc (.cells #[.int .i64 1] 248)).alloc (.cells #[.bool false,.slice none 0 0,.slice none 0 0] 24))=w1 at*
 generalize w.heap.size=r at*
 clear h1 h2
 go_region
 all_goals exact⟨rfl,.panicking mended,by cases c₀;rfl,.tuple #[],by simp[results,Tryz.results191,go_sem],rfl,rfl,w1.drew,_,hk.drew,KeptB.store3 _ p _ _ _,st1 _ q 0 _,
  ((((h1'.kept (Kept.refl w1).drew).set 0 _).set 1 _).set 2 _).keptB (st1 _ q 0 _) hpq,((h2'.kept (Kept.refl w1).drew).keptB (KeptB.store3 _ p _ _ _) (Ne.symm hpq)).set 0 _⟩
theorem catchR_idle(p q:Nat)(w:World):
 CallsD Tryz.prog 191 #[.pointer (some ⟨p,0,none⟩),.pointer (some ⟨q,0,none⟩)] .returning w fun e u' w'=>e= .returned (.tuple #[])∧u'= .returning∧w=w':=by
 refine callsD_of_wpS Tryz.func191 rfl fun c₀ cs hu=> ?_
 apply wpS_seq
 apply wpS_region
 simp[wpOpsS,go_sem,recoverD,hu,Tryz.ntmps191,Exit.thenS]
 refine wpS_of_wp ?_
 rw[show(#[Value.pointer (some ⟨p,0,none⟩),Value.pointer (some ⟨q,0,none⟩)]++(Array.replicate 13 undef).setIfInBounds 4 Value.nilIface:Array Value)=#[Value.pointer (some ⟨p,0,none⟩),Value.pointer (some ⟨q,0,none⟩),undef,undef,undef,undef,Value.nilIface,undef,undef,undef,undef,undef,undef,undef,undef] from rfl]
 go_wp2_with fail
 cases c₀
 simp_all [bodyPostS,results,Tryz.results191]
def RetMM(i:IvD)(w:World)(e:Ending)(w':World):Prop:=Kept w w'∧((midOk i=true∧∃a1 n1 c1 a2 n2 c2,e= .returned (.tuple #[.agg #[.bool (midF i).1,.slice a1 n1 c1,.slice a2 n2 c2],.int .i64 0])∧
 Rt (onlyW w' (ab w.heap.size)) (.agg #[.bool (midF i).1,.slice a1 n1 c1,.slice a2 n2 c2]) (midF i).1 (midF i).2.1 (if (midF i).2.2=1 then 0 else(midF i).2.2))∨(midOk i=false∧e= .returned (.tuple #[.agg ZR,.int .i64 1])))
set_option maxHeartbeats 4000000 in
set_option maxRecDepth 100000 in
theorem try_mid{w:World}{b:Nat}{i:IvD}(hv:IvB w b i)(hT:Laid w)(hf:i.fine=true)(hvd:i.void=false):
 Calls Tryz.prog 117 #[.func (.func 118) #[] #[.pointer (some ⟨b,0,none⟩)]] w (RetMM i w):=by
 have hmf:∀(fn:Fn)(first cap:Array Value)(w:World),(Instr.makeFunc fn first cap).run Tryz.prog w= .ok (.func fn first cap) w:=fun _ _ _ _=>rfl
 have hk:Kept w ((w.alloc (.cells ZR 24)).alloc (.cells #[.int .i64 0] 33)):=((Kept.refl w).alloc _).alloc _
 have e1:(w.alloc (.cells ZR 24)).heap.size=w.heap.size+1:=by simp[go_sem]
 have hb1:=(Blk.new w ZR 24).kept ((Kept.refl _).alloc (.cells #[.int .i64 0] 33))
 have hb2:=Blk.new (w.alloc (.cells ZR 24)) #[.int .i64 0] 33
 have hsz:((w.alloc (.cells ZR 24)).alloc (.cells #[.int .i64 0] 33)).heap.size=w.heap.size+2:=by simp[go_sem]
 rw[e1] at hb2
 clear e1
 have hcall:=middle_fn (hv.kept hk) (hT.kept hk) hf hvd
 clear hv hT hf hvd
 unfold RetMid at hcall
 unfold RetMM
 generalize midF i=M at*
 generalize midOk i=O at*
 generalize (if M.2.2=1 then 0 else M.2.2)=DD at*
 unfold ZR at*
 go_enter_defers Tryz.func117,Tryz.ntmps117
 go_wp2_with fail
 generalize (w.alloc (.cells #[.bool false,.slice none 0 0,.slice none 0 0] 24)).alloc (.cells #[.int .i64 0] 33)=w1 at*
 generalize hbE:w.heap.size=b0 at hb1 hb2 hsz⊢
 have HBE:=Lib.hid hbE;clear hbE
 refine hcall.mono ?_
 rintro _ w2 ⟨hk2,⟨ho,a1,n1,c1,a2,n2,c2,rfl,hR⟩|⟨ho,rfl⟩⟩
 ·have hb1:=hb1.kept hk2
  have hb2:=hb2.kept hk2
  obtain⟨x0,x1,x2,f0,f1,f2⟩:=hb1.facts3
  obtain⟨y0,g0⟩:=hb2.facts1
  go_wp2
  refine leaves_cons (f:=191) (args:=#[.pointer (some ⟨b0,0,none⟩),.pointer (some ⟨b0+1,0,none⟩)]) (by simp) (by simp[go_sem]) ?_
  refine(catchR_idle b0 (b0+1) _).mono ?_
  rintro e u' w'' ⟨rfl,rfl,rfl⟩
  simp[Leaves,settle,results,Tryz.results117,go_sem,x0,x1,x2,y0]
  have hK:=((hk.trans hk2).but (KeptB.store3 w2 b0 (.bool M.1) (.slice a1 n1 c1) (.slice a2 n2 c2)) (by have:=HBE.out;omega)).but (st1 _ (b0+1) 0 (.int .i64 0)) (by have:=HBE.out;omega)
  refine⟨hK,ho,_,_,_,_,_,_,⟨⟨rfl,rfl,rfl⟩,rfl,rfl,rfl⟩,hR.sub (only_move fun b hb hs=> ?_)⟩
  have hHB:=HBE.out
  unfold ab at hs⊢
  simp only[decide_eq_true_eq] at hs⊢
  exact⟨by omega,((st1 _ (b0+1) 0 (.int .i64 0)).old b (by have:=(KeptB.store3 w2 b0 (.bool M.1) (.slice a1 n1 c1) (.slice a2 n2 c2)).size;omega) (by omega)).trans ((KeptB.store3 w2 b0 (.bool M.1) (.slice a1 n1 c1) (.slice a2 n2 c2)).old b hb (by omega))⟩
 ·have hb1:=hb1.kept hk2
  have hb2:=hb2.kept hk2
  refine leaves_cons (f:=191) (args:=#[.pointer (some ⟨b0,0,none⟩),.pointer (some ⟨b0+1,0,none⟩)]) (by simp) (by simp[go_sem]) ?_
  refine(catchR_failed b0 (b0+1) _ hb1 hb2 (by omega)).mono ?_
  rintro e u' w'' ⟨rfl,rfl,w3,w4,hk3,hk4,hk5,hb1,hb2⟩
  unfold ZR at*
  obtain⟨x0,x1,x2,f0,f1,f2⟩:=hb1.facts3
  obtain⟨y0,g0⟩:=hb2.facts1
  simp[Leaves,settle,results,Tryz.results117,go_sem,x0,x1,x2,y0,mended]
  exact⟨((((hk.trans hk2).trans hk3).but hk4 (by have:=HBE.out;omega)).but hk5 (by have:=HBE.out;omega)),ho⟩
set_option maxHeartbeats 4000000 in
set_option maxRecDepth 100000 in
theorem middle_calls{w:World}{v:Value}{i:IvD}(h:Ivl w v i)(hT:Laid w)(hf:i.fine=true)(hvd:i.void=false):Calls Tryz.prog 57 #[v] w (RetMM i w):=by
 have hh:=h
 obtain⟨a,n,c,a2,n2,c2,a3,n3,c3,a4,n4,c4,rfl,-⟩:=h
 have hcall:=fun(W:World)(b:Nat)(k:Kept w W)(hb:Blk W b #[.bool i.s1,.slice a n c,.slice a2 n2 c2,.bool i.s2,.slice a3 n3 c3,.slice a4 n4 c4,.bool i.li,.bool i.hi] 43)=>
  try_mid (b:=b) ⟨_,_,_,_,_,_,_,_,_,_,_,_,hb,hh.kept k⟩ (hT.kept k) hf hvd
 clear hh hT hf hvd
 unfold RetMM at*
 generalize (if (midF i).2.2=1 then 0 else(midF i).2.2)=DD at*
 generalize midF i=M at*
 generalize midOk i=O at*
 refine ent1 7 Tryz.func57 rfl Tryz.ntmps57 ?_
 iterate 3 go_step
 refine zb fun w1 g1 e1 k1 b1 q1=> ?_
 refine za ZR 24 fun w2 g2 e2 k2 b2 q2=> ?_
 refine zr (.int .i64 0) ?_
 iterate 5 go_step
 refine zr (.func (.func 118) #[] #[.pointer (some ⟨g1,0,none⟩)]) ?_
 refine zc 117 _ (hcall w2 g1 (k1.trans k2) (b1.kept k2)) ?_
 rintro e w3 ⟨k3,⟨ho,a1,n1,c1,a2,n2,c2,rfl,hR⟩|⟨ho,rfl⟩⟩
 ·refine⟨_,rfl,?_⟩
  refine zr (.agg #[.bool M.1,.slice a1 n1 c1,.slice a2 n2 c2]) ?_
  refine zr (.int .i64 0) ?_
  refine zt (b2.kept k3) own24 own24 fun w4 k4 b4=> ?_
  refine zr (.int .i64 0) ?_
  iterate 5 go_step
  refine zret1b b4 own24 ⟨((k1.trans k2).trans k3).but k4 (by omega),.inl ⟨ho,_,_,_,_,_,_,rfl,hR.sub (only_move fun b hb hs=> ?_)⟩⟩
  unfold ab at hs⊢
  simp only[decide_eq_true_eq] at hs⊢
  exact⟨by omega,k4.old b hb (by omega)⟩
 ·refine⟨_,rfl,?_⟩
  refine zr (.agg ZR) ?_
  refine zr (.int .i64 1) ?_
  refine zt (b2.kept k3) own24 own24 fun w4 k4 b4=> ?_
  refine zr (.int .i64 1) ?_
  iterate 5 go_step
  exact zret1b b4 own24 ⟨((k1.trans k2).trans k3).but k4 (by omega),.inr ⟨ho,rfl⟩⟩
section
set_option maxHeartbeats 4000000
set_option maxRecDepth 100000
theorem nt_slice16{w:World}{v:Value}{m:Nat}(h:Nt 65536 w v m):∃a n c,v= .slice a n c:=by obtain⟨a,n,cap,_,e,_⟩:=h;exact⟨a,n,cap,e⟩
theorem qv_slices{w:World}{v:Value}{p:Bool}{n d:Nat}(h:Qv w v p n d):∃a1 n1 c1 a2 n2 c2,v= .agg #[.bool p,.slice a1 n1 c1,.slice a2 n2 c2]∧Nt 65536 w (.slice a1 n1 c1) n∧Nt 65536 w (.slice a2 n2 c2) d:=by
 obtain⟨x,y,rfl,h1,h2⟩:=h
 obtain⟨a1,n1,c1,rfl⟩:=nt_slice16 h1
 obtain⟨a2,n2,c2,rfl⟩:=nt_slice16 h2
 exact⟨_,_,_,_,_,_,rfl,h1,h2⟩
theorem one_mid:1<Mid:=Nat.lt_of_lt_of_le sm_one (pwr_le 7000 16000 (by decide))
theorem two_mid:2<Mid:=Nat.lt_of_lt_of_le (show 2<pwr 2 2 by rw[pwr_eq];decide) (pwr_le 2 16000 (by decide))
theorem rint0_calls(w:World):Calls Tryz.prog 143 #[.int .i64 0] w (RetQ false 0 1 w):=by
 refine ent1 17 Tryz.func143 rfl Tryz.ntmps143 ?_
 iterate 2 go_step
 refine za ZR 55 fun w1 g1 e1 k1 b1 q1=> ?_
 iterate 6 go_step
 refine zr (.int .i64 0) ?_
 refine zr (.bool false) ?_
 iterate 3 go_step
 refine zt_false ?_
 iterate 5 go_step
 refine zr (.int .i64 0) ?_
 refine zr (.int .u64 0) ?_
 refine zc 72 _ (natof_calls w1 0 (by decide)) ?_
 rintro e w2 ⟨v2,rfl,x2,k2⟩
 refine⟨_,rfl,?_⟩
 refine zc 72 _ (natof_calls w2 1 (by decide)) ?_
 rintro e w3 ⟨v3,rfl,x3,k3⟩
 refine⟨_,rfl,?_⟩
 refine zc 73 _ (make_calls false (x2.kept k3) x3 (by decide) (.inl rfl)) ?_
 rintro e w4 ⟨v4,rfl,hq,k4⟩
 refine⟨_,rfl,?_⟩
 obtain⟨p1,p2,p3,p4,p5,p6,rfl,h1,h2⟩:=qv_slices hq
 have b4:=((b1.kept k2).kept k3).kept k4
 have hnw:NoWords w4 g1:=Blk.noWords b4 rfl
 refine zt b4 own97 own97 fun w5 k5 b5=> ?_
 iterate 4 go_step
 exact zret1 b5 own97 ⟨_,rfl,⟨_,_,rfl,h1.keptB k5 hnw,h2.keptB k5 hnw⟩,(((k1.trans k2).trans k3).trans k4).but k5 (by omega)⟩
theorem rint1_calls(w:World):Calls Tryz.prog 143 #[.int .i64 1] w (RetQ false 1 1 w):=by
 refine ent1 17 Tryz.func143 rfl Tryz.ntmps143 ?_
 iterate 2 go_step
 refine za ZR 55 fun w1 g1 e1 k1 b1 q1=> ?_
 iterate 6 go_step
 refine zr (.int .i64 1) ?_
 refine zr (.bool false) ?_
 iterate 3 go_step
 refine zt_false ?_
 iterate 5 go_step
 refine zr (.int .i64 1) ?_
 refine zr (.int .u64 1) ?_
 refine zc 72 _ (natof_calls w1 1 (by decide)) ?_
 rintro e w2 ⟨v2,rfl,x2,k2⟩
 refine⟨_,rfl,?_⟩
 refine zc 72 _ (natof_calls w2 1 (by decide)) ?_
 rintro e w3 ⟨v3,rfl,x3,k3⟩
 refine⟨_,rfl,?_⟩
 refine zc 73 _ (make_calls false (x2.kept k3) x3 (by decide) (.inr ⟨one_mid,one_mid⟩)) ?_
 rintro e w4 ⟨v4,rfl,hq,k4⟩
 refine⟨_,rfl,?_⟩
 obtain⟨p1,p2,p3,p4,p5,p6,rfl,h1,h2⟩:=qv_slices hq
 have b4:=((b1.kept k2).kept k3).kept k4
 have hnw:NoWords w4 g1:=Blk.noWords b4 rfl
 refine zt b4 own97 own97 fun w5 k5 b5=> ?_
 iterate 4 go_step
 exact zret1 b5 own97 ⟨_,rfl,⟨_,_,rfl,h1.keptB k5 hnw,h2.keptB k5 hnw⟩,(((k1.trans k2).trans k3).trans k4).but k5 (by omega)⟩
theorem rint2_calls(w:World):Calls Tryz.prog 143 #[.int .i64 2] w (RetQ false 2 1 w):=by
 refine ent1 17 Tryz.func143 rfl Tryz.ntmps143 ?_
 iterate 2 go_step
 refine za ZR 55 fun w1 g1 e1 k1 b1 q1=> ?_
 iterate 6 go_step
 refine zr (.int .i64 2) ?_
 refine zr (.bool false) ?_
 iterate 3 go_step
 refine zt_false ?_
 iterate 5 go_step
 refine zr (.int .i64 2) ?_
 refine zr (.int .u64 2) ?_
 refine zc 72 _ (natof_calls w1 2 (by decide)) ?_
 rintro e w2 ⟨v2,rfl,x2,k2⟩
 refine⟨_,rfl,?_⟩
 refine zc 72 _ (natof_calls w2 1 (by decide)) ?_
 rintro e w3 ⟨v3,rfl,x3,k3⟩
 refine⟨_,rfl,?_⟩
 refine zc 73 _ (make_calls false (x2.kept k3) x3 (by decide) (.inr ⟨two_mid,one_mid⟩)) ?_
 rintro e w4 ⟨v4,rfl,hq,k4⟩
 refine⟨_,rfl,?_⟩
 obtain⟨p1,p2,p3,p4,p5,p6,rfl,h1,h2⟩:=qv_slices hq
 have b4:=((b1.kept k2).kept k3).kept k4
 have hnw:NoWords w4 g1:=Blk.noWords b4 rfl
 refine zt b4 own97 own97 fun w5 k5 b5=> ?_
 iterate 4 go_step
 exact zret1 b5 own97 ⟨_,rfl,⟨_,_,rfl,h1.keptB k5 hnw,h2.keptB k5 hnw⟩,(((k1.trans k2).trans k3).trans k4).but k5 (by omega)⟩
theorem rdiv_calls{w:World}{v u:Value}{s s':Bool}{n d n' d':Nat}(h:Qv w v s n d)(h':Qv w u s' n' d')(b1:n<Mid)(b2:d<pwr 2 14000)(b3:n'=2)(b4:d'=1):
 Calls Tryz.prog 209 #[v,u] w (RetQ ((s != s')&&decide (0<n)) (n/Nat.gcd n (dn d*2)) (dn d*2/Nat.gcd n (dn d*2)) w):=by
 subst b3 b4
 have hden:=fun(w':World)(k:Kept w w')=>den_calls (h.kept k)
 have hden':=fun(w':World)(k:Kept w w')=>den_calls (h'.kept k)
 have bd:dn d<pwr 2 14000:=by
  unfold dn;split
  ·exact Nat.lt_of_lt_of_le (show 1<pwr 2 1 by rw[pwr_eq];decide) (pwr_le 1 14000 (by decide))
  ·exact b2
 obtain⟨x1,x2,x3,x4,x5,x6,rfl,hn,hd⟩:=qv_slices h
 obtain⟨y1,y2,y3,y4,y5,y6,rfl,hn',hd'⟩:=qv_slices h'
 refine entL [_,_] 21 Tryz.func209 rfl Tryz.ntmps209 (by simp) ?_
 iterate 2 go_step
 refine zb fun w1 g1 e1 k1 p1 s1=> ?_
 refine zb fun w2 g2 e2 k2 p2 s2=> ?_
 refine za ZR 55 fun w3 g3 e3 k3 p3 s3=> ?_
 replace p1:=(p1.kept k2).kept k3
 replace p2:=p2.kept k3
 have K:=(k1.trans k2).trans k3
 clear k1 k2 k3
 iterate 4 go_step
 refine drawn g3 (g3+1) fun hS=> ?_
 have kd:=(Kept.refl w3).drew
 have hl1:g1<g3:=by omega
 have hl2:g2<g3:=by omega
 refine yr 0 (.pointer (some ⟨g1,0,none⟩)) hS ?_
 refine yl1 1 (p1.cell 0 rfl) (.inl hl1) hS ?_
 refine yr 2 (.pointer (some ⟨g2,0,none⟩)) hS ?_
 refine yl1 3 (p2.cell 0 rfl) (.inl hl2) hS ?_
 refine yr 4 (.bool (s != s')) hS ?_
 refine yr 5 (.pointer (some ⟨g1,1,none⟩)) hS ?_
 refine yl1 6 (p1.cell 1 rfl) (.inl hl1) hS ?_
 refine yl 7 (V:=#[.bool s',.slice y1 y2 y3,.slice y4 y5 y6]) p2.range (.inl hl2) own97 hS ?_
 refine yl 10 (V:=#[.bool s,.slice x1 x2 x3,.slice x4 x5 x6]) p1.range (.inl hl1) own97 hS ?_
 refine yr 12 (.pointer (some ⟨g2,1,none⟩)) hS ?_
 refine yl1 13 (p2.cell 1 rfl) (.inl hl2) hS ?_
 refine yc 8 205 _ hS (hden' _ (K.trans kd)) fun e w4 ⟨v4,he,z4,k4⟩=>⟨k4,_,he,fun hS=> ?_⟩
 refine yc 9 204 _ hS (nmul_calls (hn.kept ((K.trans kd).trans k4)) z4 (mid_big b1) (mid_big one_mid)) fun e w5 ⟨v5,he,z5,k5⟩=>⟨k5,_,he,fun hS=> ?_⟩
 refine yc 11 205 _ hS (hden _ (((K.trans kd).trans k4).trans k5)) fun e w6 ⟨v6,he,z6,k6⟩=>⟨k6,_,he,fun hS=> ?_⟩
 refine yc 14 204 _ hS (nmul_calls z6 (hn'.kept ((((K.trans kd).trans k4).trans k5).trans k6)) (mid_big (p14_mid bd)) (mid_big two_mid)) fun e w7 ⟨v7,he,z7,k7⟩=>⟨k7,_,he,fun hS=> ?_⟩
 have e1:n*dn 1=n:=by show n*1=n;omega
 rw[e1] at z5
 refine yc 15 73 _ hS (make_calls (s != s') ((z5.kept k6).kept k7) z7 (Nat.mul_pos (dn_pos d) (by decide)) (.inr ⟨b1,by rw[Nat.mul_two];exact p14_add bd bd⟩)) fun e w8 ⟨v8,he,hq,k8⟩=>⟨k8,_,he,fun hS=> ?_⟩
 obtain⟨q1,q2,q3,q4,q5,q6,rfl,h1,h2⟩:=qv_slices hq
 have k38:=((((kd.trans k4).trans k5).trans k6).trans k7).trans k8
 replace p3:=p3.kept k38
 have hnw:NoWords w8 g3:=Blk.noWords p3 rfl
 refine yt 16 p3 own97 own97 (.inl ⟨Nat.le_refl _,Nat.lt_succ_self _⟩) hS fun w9 k9 p9 hS=>yend ?_
 iterate 3 go_step
 exact zret1 p9 own97 ⟨_,rfl,⟨_,_,rfl,h1.keptB k9 hnw,h2.keptB k9 hnw⟩,(K.trans k38).but k9 (by have:=K.size;omega)⟩
end
section
set_option maxHeartbeats 4000000
set_option maxRecDepth 100000
theorem halfF_eq{s:Bool}{n d:Nat}(hd:0<d):halfF (s,n,d)=((s != false)&&decide (0<n),n/Nat.gcd n (dn d*2),dn d*2/Nat.gcd n (dn d*2)):=by
 have e:dn d=d:=by unfold dn;split<;>omega
 rw[e]
 cases s<;>rfl
theorem rhalf_calls{w:World}{v u:Value}{s s':Bool}{n d n' d':Nat}(h:Qv w v s n d)(h':Qv w u s' n' d')(b1:n<Sm)(b2:d<Sm)(b3:n'<Sm)(b4:d'<Sm):
 Calls Tryz.prog 145 #[v,u] w (RetQ (halfF (faddF s n d s' n' d')).1 (halfF (faddF s n d s' n' d')).2.1 (halfF (faddF s n d s' n' d')).2.2 w):=by
 have HB:=fadd_bounds s s' b1 b2 b3 b4
 have hsum:=fun(W:World)(k:Kept w W)=>sum_calls (h.kept k) (h'.kept k) b1 b2 b3 b4
 change ∀(W:World)(k:Kept w W),Calls Tryz.prog 144 #[v,u] W (RetQ (faddF s n d s' n' d').1 (faddF s n d s' n' d').2.1 (faddF s n d s' n' d').2.2 W) at hsum
 obtain⟨x1,x2,x3,x4,x5,x6,rfl,-,-⟩:=qv_slices h
 obtain⟨y1,y2,y3,y4,y5,y6,rfl,-,-⟩:=qv_slices h'
 clear h h' b1 b2 b3 b4
 obtain⟨X,hX⟩:∃X,X=faddF s n d s' n' d':=⟨_,rfl⟩
 rw[←hX] at HB hsum⊢
 clear hX
 obtain⟨S,N,D⟩:=X
 rw[halfF_eq HB.2.2]
 refine entL [_,_] 10 Tryz.func145 rfl Tryz.ntmps145 (by simp) ?_
 iterate 2 go_step
 refine zb fun w1 g1 e1 k1 p1 s1=> ?_
 refine zb fun w2 g2 e2 k2 p2 s2=> ?_
 refine za ZR 55 fun w3 g3 e3 k3 p3 s3=> ?_
 replace p1:=(p1.kept k2).kept k3
 replace p2:=p2.kept k3
 have K:=(k1.trans k2).trans k3
 clear k1 k2 k3
 iterate 5 go_step
 refine zl p1.range own97 ?_
 refine zl p2.range own97 ?_
 refine zc 144 _ (hsum _ K) ?_
 rintro e w4 ⟨v4,rfl,x4,k4⟩
 refine⟨_,rfl,?_⟩
 refine zc 143 _ (rint2_calls w4) ?_
 rintro e w5 ⟨v5,rfl,x5,k5⟩
 refine⟨_,rfl,?_⟩
 refine zc 209 _ (rdiv_calls (x4.kept k5) x5 HB.1 HB.2.1 rfl rfl) ?_
 rintro e w6 ⟨v6,rfl,hq,k6⟩
 refine⟨_,rfl,?_⟩
 obtain⟨q1,q2,q3,q4,q5,q6,rfl,h1,h2⟩:=qv_slices hq
 replace p3:=((p3.kept k4).kept k5).kept k6
 have hnw:NoWords w6 g3:=Blk.noWords p3 rfl
 refine zt p3 own97 own97 fun w7 k7 p7=> ?_
 iterate 4 go_step
 exact zret1 p7 own97 ⟨_,rfl,⟨_,_,rfl,h1.keptB k7 hnw,h2.keptB k7 hnw⟩,(((K.trans k4).trans k5).trans k6).but k7 (by have:=K.size;omega)⟩
theorem mid_tt{i:IvD}(hl:i.li=true)(hh:i.hi=true):midF i=(false,0,1):=by unfold midF;rw[if_pos hl,if_pos hh]
theorem mid_ft{i:IvD}(hl:i.li=false)(hh:i.hi=true):midF i=faddF (loS i) (loN i) (loD i) false 1 1:=by unfold midF loS loN loD;simp only[hl,hh];rfl
theorem mid_tf{i:IvD}(hl:i.li=true)(hh:i.hi=false):midF i=(difS (hiS i) (hiN i) (hiD i) false 1 1,difN (hiS i) (hiN i) (hiD i) false 1 1,difD (hiS i) (hiN i) (hiD i) false 1 1):=by unfold midF hiS hiN hiD;simp only[hl,hh];rfl
theorem mid_ff{i:IvD}(hl:i.li=false)(hh:i.hi=false):midF i=halfF (faddF (loS i) (loN i) (loD i) (hiS i) (hiN i) (hiD i)):=by unfold midF loS loN loD hiS hiN hiD;simp only[hl,hh];rfl
end
end Go.Proofs.YtancebninmoipaaGreatDoor
