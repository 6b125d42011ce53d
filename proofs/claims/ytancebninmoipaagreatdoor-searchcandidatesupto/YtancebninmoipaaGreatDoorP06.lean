/- A part of the proof that SearchCandidates answers true for every input of bulk at most 1048576: conditions: the row's own. -/
import Derived.Test.YtancebninmoipaaGreatDoorP05
import Derived.Laws.Tables
import Derived.Recover
namespace Go.Proofs.YtancebninmoipaaGreatDoor
open Go Go.RowKit Go.Dig
open Go.Eng (Kept KW KeptB)
def Iq(w:World)(v:Value)(p1:Bool)(n1 d1:Nat)(p2:Bool)(n2 d2:Nat)(li hi em:Bool):Prop:=
 ∃a n c a' n' c' b m e b' m' e',v= .agg #[.bool p1,.slice a n c,.slice a' n' c',.bool p2,.slice b m e,.slice b' m' e',.bool li,.bool hi,.bool em]∧
  Qv w (.agg #[.bool p1,.slice a n c,.slice a' n' c']) p1 n1 d1∧Qv w (.agg #[.bool p2,.slice b m e,.slice b' m' e']) p2 n2 d2
theorem qv_zero(w:World):Qv w (.agg #[.bool false,.slice none 0 0,.slice none 0 0]) false 0 0:=⟨_,_,rfl,nt_zero _ _ _ _,nt_zero _ _ _ _⟩
theorem Qv.keptB{w w':World}{v:Value}{p:Bool}{n d b:Nat}(h:Qv w v p n d)(k:KeptB w w' b)(hb:NoWords w b):Qv w' v p n d:=by
 obtain⟨x,y,h1,h2,h3⟩:=h
 exact⟨x,y,h1,h2.keptB k hb,h3.keptB k hb⟩
theorem Qv.shape{w:World}{v:Value}{p:Bool}{n d:Nat}(h:Qv w v p n d):∃a n c a' n' c',v= .agg #[.bool p,.slice a n c,.slice a' n' c']:=by
 obtain⟨x,y,h1,h2,h3⟩:=h
 obtain⟨a,n,c,rfl⟩:=h2.shape
 obtain⟨a',n',c',rfl⟩:=h3.shape
 exact⟨_,_,_,_,_,_,h1⟩
theorem none_calls(w:World):Calls Tryz.prog 39 #[] w fun e w'=>e= .returned (.agg #[.bool false,.slice none 0 0,.slice none 0 0,.bool false,.slice none 0 0,.slice none 0 0,.bool false,.bool false,.bool true])∧Kept w w':=by
 go_enter Tryz.func39,Tryz.ntmps39
 go_wp2
 exact bodyPost_ret (v:=.agg #[.bool false,.slice none 0 0,.slice none 0 0,.bool false,.slice none 0 0,.slice none 0 0,.bool false,.bool false,.bool true]) (by simp[results,Tryz.results39,go_sem]) rfl ⟨rfl,(Kept.refl _).alloc _⟩
theorem small_bounds{N D:Nat}(h:small N D=true):N<Mid∧D<Mid∧rN N D<Sm∧rD N D<Sm∧N<pwr 2 8192∧D<pwr 2 8192:=by
 unfold small at h
 simp only[Bool.and_eq_true,decide_eq_true_eq] at h
 obtain⟨⟨⟨h1,h2⟩,h3⟩,h4⟩:=h
 have e:pwr 2 2048≤Sm:=pwr_le 2048 7000 (by decide)
 unfold fits32 at h3 h4
 exact⟨mid8 h1,mid8 h2,Nat.lt_of_lt_of_le (of_decide_eq_true h3) e,Nat.lt_of_lt_of_le (of_decide_eq_true h4) e,h1,h2⟩
theorem st1(w:World)(b i:Nat)(x:Value):KeptB w (w.setCell ⟨b,i,none⟩ x) b:=(Go.Eng.KeptB.refl w b).setCell rfl _
theorem stI(w:World)(b i j k:Nat)(x y z:Value):KeptB w (((w.setCell ⟨b,i,none⟩ x).setCell ⟨b,j,none⟩ y).setCell ⟨b,k,none⟩ z) b:=(((Go.Eng.KeptB.refl w b).setCell rfl _).setCell rfl _).setCell rfl _
theorem st9(w:World)(b:Nat)(x0 x1 x2 x3 x4 x5 x6 x7 x8:Value):KeptB w (((((((((w.setCell ⟨b,0,none⟩ x0).setCell ⟨b,1,none⟩ x1).setCell ⟨b,2,none⟩ x2).setCell ⟨b,3,none⟩ x3).setCell ⟨b,4,none⟩ x4).setCell ⟨b,5,none⟩ x5).setCell ⟨b,6,none⟩ x6).setCell ⟨b,7,none⟩ x7).setCell ⟨b,8,none⟩ x8) b:=
 (((((((((Go.Eng.KeptB.refl w b).setCell rfl _).setCell rfl _).setCell rfl _).setCell rfl _).setCell rfl _).setCell rfl _).setCell rfl _).setCell rfl _).setCell rfl _
def RetI(i:IvD)(w:World)(e:Ending)(w':World):Prop:=
 ∃v,e= .returned v∧Kept w w'∧(if i.void then Iq w' v false 0 0 false 0 0 false false true else
  Iq w' v (if i.li then false else i.s1&&decide (0<i.N1)) (if i.li then 0 else rN i.N1 i.D1) (if i.li then 0 else rD i.N1 i.D1)
   (if i.hi then false else i.s2&&decide (0<i.N2)) (if i.hi then 0 else rN i.N2 i.D2) (if i.hi then 0 else rD i.N2 i.D2) i.li i.hi false)
set_option maxHeartbeats 4000000 in
set_option maxRecDepth 100000 in
theorem iof_ff{w:World}{v:Value}{s1 s2:Bool}{N1 D1 N2 D2:Nat}(h:Ivl w v ⟨s1,N1,D1,s2,N2,D2,false,false⟩)(hf:small N1 D1=true∧small N2 D2=true):
 Calls Tryz.prog 17 #[v] w (RetI ⟨s1,N1,D1,s2,N2,D2,false,false⟩ w):=by
 obtain⟨a,n,c,a',n',c',b,m,e,b',m',e',rfl,h1,h2⟩:=h
 obtain⟨g1,g2,g3,g4,_,_⟩:=small_bounds hf.1
 obtain⟨g5,g6,g7,g8,_,_⟩:=small_bounds hf.2
 have hr1:=fun(w':World)(k:Kept w w')=>of_qcalls (h1.kept k) (.inr ⟨g1,g2⟩)
 have hr2:=fun(w':World)(k:Kept w w')=>of_qcalls (h2.kept k) (.inr ⟨g5,g6⟩)
 have HG:=Lib.hid (And.intro g3 (And.intro g4 (And.intro g7 g8)))
 clear h1 h2 g1 g2 g3 g4 g5 g6 g7 g8 hf
 have hb1:=Blk.new w #[.bool s1,.slice a n c,.slice a' n' c',.bool s2,.slice b m e,.slice b' m' e',.bool false,.bool false] 43
 have hk1:Kept w (w.alloc (.cells #[.bool s1,.slice a n c,.slice a' n' c',.bool s2,.slice b m e,.slice b' m' e',.bool false,.bool false] 43)):=(Kept.refl _).alloc _
 have e1:(w.alloc (.cells #[.bool s1,.slice a n c,.slice a' n' c',.bool s2,.slice b m e,.slice b' m' e',.bool false,.bool false] 43)).heap.size=w.heap.size+1:=by simp[go_sem]
 have hb2:=Blk.new (w.alloc (.cells #[.bool s1,.slice a n c,.slice a' n' c',.bool s2,.slice b m e,.slice b' m' e',.bool false,.bool false] 43)) #[.bool false,.slice none 0 0,.slice none 0 0,.bool false,.slice none 0 0,.slice none 0 0,.bool false,.bool false,.bool false] 57
 have hk2:Kept (w.alloc (.cells #[.bool s1,.slice a n c,.slice a' n' c',.bool s2,.slice b m e,.slice b' m' e',.bool false,.bool false] 43)) ((w.alloc (.cells #[.bool s1,.slice a n c,.slice a' n' c',.bool s2,.slice b m e,.slice b' m' e',.bool false,.bool false] 43)).alloc (.cells #[.bool false,.slice none 0 0,.slice none 0 0,.bool false,.slice none 0 0,.slice none 0 0,.bool false,.bool false,.bool false] 57)):=(Kept.refl _).alloc _
 have e2:((w.alloc (.cells #[.bool s1,.slice a n c,.slice a' n' c',.bool s2,.slice b m e,.slice b' m' e',.bool false,.bool false] 43)).alloc (.cells #[.bool false,.slice none 0 0,.slice none 0 0,.bool false,.slice none 0 0,.slice none 0 0,.bool false,.bool false,.bool false] 57)).heap.size=w.heap.size+2:=by simp[go_sem]
 rw[e1] at hb2
 have hb1:=hb1.kept hk2
 have hk:=hk1.trans hk2
 clear hk1 hk2 e1
 have hb3:=Blk.new ((w.alloc (.cells #[.bool s1,.slice a n c,.slice a' n' c',.bool s2,.slice b m e,.slice b' m' e',.bool false,.bool false] 43)).alloc (.cells #[.bool false,.slice none 0 0,.slice none 0 0,.bool false,.slice none 0 0,.slice none 0 0,.bool false,.bool false,.bool false] 57)) #[.bool false,.slice none 0 0,.slice none 0 0,.bool false,.slice none 0 0,.slice none 0 0,.bool false,.bool false,.bool false] 57
 have hk3:Kept ((w.alloc (.cells #[.bool s1,.slice a n c,.slice a' n' c',.bool s2,.slice b m e,.slice b' m' e',.bool false,.bool false] 43)).alloc (.cells #[.bool false,.slice none 0 0,.slice none 0 0,.bool false,.slice none 0 0,.slice none 0 0,.bool false,.bool false,.bool false] 57)) (((w.alloc (.cells #[.bool s1,.slice a n c,.slice a' n' c',.bool s2,.slice b m e,.slice b' m' e',.bool false,.bool false] 43)).alloc (.cells #[.bool false,.slice none 0 0,.slice none 0 0,.bool false,.slice none 0 0,.slice none 0 0,.bool false,.bool false,.bool false] 57)).alloc (.cells #[.bool false,.slice none 0 0,.slice none 0 0,.bool false,.slice none 0 0,.slice none 0 0,.bool false,.bool false,.bool false] 57)):=(Kept.refl _).alloc _
 rw[e2] at hb3
 have hb1:=hb1.kept hk3
 have hb2:=hb2.kept hk3
 have hk:=hk.trans hk3
 clear hk3 e2
 go_enter Tryz.func17,Tryz.ntmps17
 go_wp2_with fail
 generalize (((w.alloc (.cells #[.bool s1,.slice a n c,.slice a' n' c',.bool s2,.slice b m e,.slice b' m' e',.bool false,.bool false] 43)).alloc (.cells #[.bool false,.slice none 0 0,.slice none 0 0,.bool false,.slice none 0 0,.slice none 0 0,.bool false,.bool false,.bool false] 57)).alloc (.cells #[.bool false,.slice none 0 0,.slice none 0 0,.bool false,.slice none 0 0,.slice none 0 0,.bool false,.bool false,.bool false] 57))=w1 at*
 generalize hbE:w.heap.size=b0 at hb1 hb2 hb3⊢
 have HBE:=Lib.hid hbE;clear hbE
 refine(hr1 _ hk).mono ?_
 rintro _ w2 ⟨v2,rfl,hq2,hk2⟩
 obtain⟨x1,x2,x3,x4,x5,x6,rfl⟩:=hq2.shape
 generalize hpE:(s1&&decide (0<N1))=p1 at*
 have HPE:=Lib.hid hpE;clear hpE
 have hb1:=hb1.kept hk2
 have hb2:=hb2.kept hk2
 have hb3:=hb3.kept hk2
 have hkw2:=hk.trans hk2
 obtain⟨c0,c1,c2,c3,c4,c5,c6,c7,_⟩:=hb1.facts8
 obtain⟨d0,d1,d2,d3,d4,d5,d6,d7,d8,f0,f1,f2,f3,f4,f5,f6,f7,f8⟩:=hb3.facts9
 have hkb2:=KeptB.store3 w2 (b0+2) (.bool p1) (.slice x1 x2 x3) (.slice x4 x5 x6)
 have hkw3:Kept w (((w2.setCell ⟨b0+2,0,none⟩ (.bool p1)).setCell ⟨b0+2,1,none⟩ (.slice x1 x2 x3)).setCell ⟨b0+2,2,none⟩ (.slice x4 x5 x6)):=hkw2.but hkb2 (by have:=HBE.out;omega)
 have hq3:=hq2.keptB hkb2 (hb3.noWords rfl)
 have hb13:=hb1.keptB hkb2 (by omega)
 have hb23:=hb2.keptB hkb2 (by omega)
 have hb33:Blk (((w2.setCell ⟨b0+2,0,none⟩ (.bool p1)).setCell ⟨b0+2,1,none⟩ (.slice x1 x2 x3)).setCell ⟨b0+2,2,none⟩ (.slice x4 x5 x6)) (b0+2) #[.bool p1,.slice x1 x2 x3,.slice x4 x5 x6,.bool false,.slice none 0 0,.slice none 0 0,.bool false,.bool false,.bool false] 57:=by
  have:=((hb3.set 0 (.bool p1)).set 1 (.slice x1 x2 x3)).set 2 (.slice x4 x5 x6)
  simpa using this
 clear hkb2
 go_wp2_with fail
 generalize ((w2.setCell ⟨b0+2,0,none⟩ (.bool p1)).setCell ⟨b0+2,1,none⟩ (.slice x1 x2 x3)).setCell ⟨b0+2,2,none⟩ (.slice x4 x5 x6)=w3 at*
 clear c0 c1 c2 c3 c4 c5 c6 c7 d0 d1 d2 d3 d4 d5 d6 d7 d8 f0 f1 f2 f3 f4 f5 f6 f7 f8 hb1 hb2 hb3 hq2
 refine(hr2 _ hkw3).mono ?_
 rintro _ w4 ⟨v4,rfl,hq4,hk4⟩
 obtain⟨y1,y2,y3,y4,y5,y6,rfl⟩:=hq4.shape
 generalize hpE2:(s2&&decide (0<N2))=p2 at*
 have HPE2:=Lib.hid hpE2;clear hpE2
 have hb1:=hb13.kept hk4
 have hb2:=hb23.kept hk4
 have hb3:=hb33.kept hk4
 have hkw4:=hkw3.trans hk4
 have hq3:=hq3.kept hk4
 obtain⟨c0,c1,c2,c3,c4,c5,c6,c7,_⟩:=hb1.facts8
 obtain⟨d0,d1,d2,d3,d4,d5,d6,d7,d8,f0,f1,f2,f3,f4,f5,f6,f7,f8⟩:=hb3.facts9
 have hkb4:KeptB w4 (((w4.setCell ⟨b0+2,3,none⟩ (.bool p2)).setCell ⟨b0+2,4,none⟩ (.slice y1 y2 y3)).setCell ⟨b0+2,5,none⟩ (.slice y4 y5 y6)) (b0+2):=stI ..
 have hkw5:Kept w (((w4.setCell ⟨b0+2,3,none⟩ (.bool p2)).setCell ⟨b0+2,4,none⟩ (.slice y1 y2 y3)).setCell ⟨b0+2,5,none⟩ (.slice y4 y5 y6)):=hkw4.but hkb4 (by have:=HBE.out;omega)
 have hq35:=hq3.keptB hkb4 (hb3.noWords rfl)
 have hq45:=hq4.keptB hkb4 (hb3.noWords rfl)
 have hb15:=hb1.keptB hkb4 (by omega)
 have hb25:=hb2.keptB hkb4 (by omega)
 have hb35:Blk (((w4.setCell ⟨b0+2,3,none⟩ (.bool p2)).setCell ⟨b0+2,4,none⟩ (.slice y1 y2 y3)).setCell ⟨b0+2,5,none⟩ (.slice y4 y5 y6)) (b0+2) #[.bool p1,.slice x1 x2 x3,.slice x4 x5 x6,.bool p2,.slice y1 y2 y3,.slice y4 y5 y6,.bool false,.bool false,.bool false] 57:=by
  have:=((hb3.set 3 (.bool p2)).set 4 (.slice y1 y2 y3)).set 5 (.slice y4 y5 y6)
  simpa using this
 clear hkb4
 go_wp2_with fail
 generalize ((w4.setCell ⟨b0+2,3,none⟩ (.bool p2)).setCell ⟨b0+2,4,none⟩ (.slice y1 y2 y3)).setCell ⟨b0+2,5,none⟩ (.slice y4 y5 y6)=w5 at*
 clear c0 c1 c2 c3 c4 c5 c6 c7 d0 d1 d2 d3 d4 d5 d6 d7 d8 f0 f1 f2 f3 f4 f5 f6 f7 f8 hb1 hb2 hb3 hq3 hq4 hb13 hb23 hb33
 refine(qcmp_calls hq35 hq45 HG.out.1 HG.out.2.1 HG.out.2.2.1 HG.out.2.2.2).mono ?_
 rintro _ w6 ⟨rfl,hk6⟩
 have hb2:=hb25.kept hk6
 have hb3:=hb35.kept hk6
 have hkw6:=hkw5.trans hk6
 have hq3:=hq35.kept hk6
 have hq4:=hq45.kept hk6
 have hvd:(IvD.void ⟨s1,N1,D1,s2,N2,D2,false,false⟩)=decide (0<qcmp p1 (rN N1 D1) (rD N1 D1) p2 (rN N2 D2) (rD N2 D2)):=by
  unfold IvD.void
  simp only[HPE.out,HPE2.out]
  rfl
 generalize qcmp p1 (rN N1 D1) (rD N1 D1) p2 (rN N2 D2) (rD N2 D2)=cc at*
 have HVD:=Lib.hid hvd;clear hvd
 clear hb15 hb25 hb35 hq35 hq45
 by_cases hcc:0<cc
 ·have t:decide (0<cc)=true:=by simpa using hcc
  go_wp2_with fail
  refine(none_calls _).mono ?_
  rintro _ w7 ⟨rfl,hk7⟩
  have hb2:=hb2.kept hk7
  obtain⟨d0,d1,d2,d3,d4,d5,d6,d7,d8,f0,f1,f2,f3,f4,f5,f6,f7,f8⟩:=hb2.facts9
  go_wp2
  refine bodyPost_ret (v:=.agg #[.bool false,.slice none 0 0,.slice none 0 0,.bool false,.slice none 0 0,.slice none 0 0,.bool false,.bool false,.bool true]) (by simp[results,Tryz.results17,go_sem,d0,d1,d2,d3,d4,d5,d6,d7,d8]) rfl ⟨_,rfl,?_,?_⟩
  ·exact Kept.but (hkw6.trans hk7) (st9 ..) (by have:=HBE.out;omega)
  ·rw[HVD.out,t,if_pos rfl]
   exact⟨_,_,_,_,_,_,_,_,_,_,_,_,rfl,qv_zero _,qv_zero _⟩
 ·have t:decide (0<cc)=false:=by simpa using hcc
  obtain⟨d0,d1,d2,d3,d4,d5,d6,d7,d8,f0,f1,f2,f3,f4,f5,f6,f7,f8⟩:=hb3.facts9
  obtain⟨k0,k1,k2,k3,k4,k5,k6,k7,k8,j0,j1,j2,j3,j4,j5,j6,j7,j8⟩:=hb2.facts9
  go_wp2
  have hkb:∀w',w'=(((((((((w6.setCell ⟨b0+1,0,none⟩ (.bool p1)).setCell ⟨b0+1,1,none⟩ (.slice x1 x2 x3)).setCell ⟨b0+1,2,none⟩ (.slice x4 x5 x6)).setCell ⟨b0+1,3,none⟩ (.bool p2)).setCell ⟨b0+1,4,none⟩ (.slice y1 y2 y3)).setCell ⟨b0+1,5,none⟩ (.slice y4 y5 y6)).setCell ⟨b0+1,6,none⟩ (.bool false)).setCell ⟨b0+1,7,none⟩ (.bool false)).setCell ⟨b0+1,8,none⟩ (.bool false))→KeptB w6 w' (b0+1):=by
   rintro _ rfl
   exact st9 ..
  refine bodyPost_ret (v:=.agg #[.bool p1,.slice x1 x2 x3,.slice x4 x5 x6,.bool p2,.slice y1 y2 y3,.slice y4 y5 y6,.bool false,.bool false,.bool false]) (by simp[results,Tryz.results17,go_sem,k0,k1,k2,k3,k4,k5,k6,k7,k8]) rfl ⟨_,rfl,hkw6.but (hkb _ rfl) (by have:=HBE.out;omega),?_⟩
  rw[HVD.out,t,if_neg (by decide)]
  simp only[HPE.out,HPE2.out,Bool.false_eq_true,if_false]
  exact⟨_,_,_,_,_,_,_,_,_,_,_,_,rfl,hq3.keptB (hkb _ rfl) (hb2.noWords rfl),hq4.keptB (hkb _ rfl) (hb2.noWords rfl)⟩
set_option maxHeartbeats 4000000 in
set_option maxRecDepth 100000 in
theorem iof_ft{w:World}{v:Value}{s1 s2:Bool}{N1 D1 N2 D2:Nat}(h:Ivl w v ⟨s1,N1,D1,s2,N2,D2,false,true⟩)(hf:small N1 D1=true∧small N2 D2=true):
 Calls Tryz.prog 17 #[v] w (RetI ⟨s1,N1,D1,s2,N2,D2,false,true⟩ w):=by
 obtain⟨a,n,c,a',n',c',b,m,e,b',m',e',rfl,h1,h2⟩:=h
 obtain⟨g1,g2,g3,g4,_,_⟩:=small_bounds hf.1
 obtain⟨g5,g6,g7,g8,_,_⟩:=small_bounds hf.2
 have hr1:=fun(w':World)(k:Kept w w')=>of_qcalls (h1.kept k) (.inr ⟨g1,g2⟩)
 have hr2:=fun(w':World)(k:Kept w w')=>of_qcalls (h2.kept k) (.inr ⟨g5,g6⟩)
 have HG:=Lib.hid (And.intro g3 (And.intro g4 (And.intro g7 g8)))
 clear h1 h2 g1 g2 g3 g4 g5 g6 g7 g8 hf
 have hb1:=Blk.new w #[.bool s1,.slice a n c,.slice a' n' c',.bool s2,.slice b m e,.slice b' m' e',.bool false,.bool true] 43
 have hk1:Kept w (w.alloc (.cells #[.bool s1,.slice a n c,.slice a' n' c',.bool s2,.slice b m e,.slice b' m' e',.bool false,.bool true] 43)):=(Kept.refl _).alloc _
 have e1:(w.alloc (.cells #[.bool s1,.slice a n c,.slice a' n' c',.bool s2,.slice b m e,.slice b' m' e',.bool false,.bool true] 43)).heap.size=w.heap.size+1:=by simp[go_sem]
 have hb2:=Blk.new (w.alloc (.cells #[.bool s1,.slice a n c,.slice a' n' c',.bool s2,.slice b m e,.slice b' m' e',.bool false,.bool true] 43)) #[.bool false,.slice none 0 0,.slice none 0 0,.bool false,.slice none 0 0,.slice none 0 0,.bool false,.bool false,.bool false] 57
 have hk2:Kept (w.alloc (.cells #[.bool s1,.slice a n c,.slice a' n' c',.bool s2,.slice b m e,.slice b' m' e',.bool false,.bool true] 43)) ((w.alloc (.cells #[.bool s1,.slice a n c,.slice a' n' c',.bool s2,.slice b m e,.slice b' m' e',.bool false,.bool true] 43)).alloc (.cells #[.bool false,.slice none 0 0,.slice none 0 0,.bool false,.slice none 0 0,.slice none 0 0,.bool false,.bool false,.bool false] 57)):=(Kept.refl _).alloc _
 have e2:((w.alloc (.cells #[.bool s1,.slice a n c,.slice a' n' c',.bool s2,.slice b m e,.slice b' m' e',.bool false,.bool true] 43)).alloc (.cells #[.bool false,.slice none 0 0,.slice none 0 0,.bool false,.slice none 0 0,.slice none 0 0,.bool false,.bool false,.bool false] 57)).heap.size=w.heap.size+2:=by simp[go_sem]
 rw[e1] at hb2
 have hb1:=hb1.kept hk2
 have hk:=hk1.trans hk2
 clear hk1 hk2 e1
 have hb3:=Blk.new ((w.alloc (.cells #[.bool s1,.slice a n c,.slice a' n' c',.bool s2,.slice b m e,.slice b' m' e',.bool false,.bool true] 43)).alloc (.cells #[.bool false,.slice none 0 0,.slice none 0 0,.bool false,.slice none 0 0,.slice none 0 0,.bool false,.bool false,.bool false] 57)) #[.bool false,.slice none 0 0,.slice none 0 0,.bool false,.slice none 0 0,.slice none 0 0,.bool false,.bool false,.bool false] 57
 have hk3:Kept ((w.alloc (.cells #[.bool s1,.slice a n c,.slice a' n' c',.bool s2,.slice b m e,.slice b' m' e',.bool false,.bool true] 43)).alloc (.cells #[.bool false,.slice none 0 0,.slice none 0 0,.bool false,.slice none 0 0,.slice none 0 0,.bool false,.bool false,.bool false] 57)) (((w.alloc (.cells #[.bool s1,.slice a n c,.slice a' n' c',.bool s2,.slice b m e,.slice b' m' e',.bool false,.bool true] 43)).alloc (.cells #[.bool false,.slice none 0 0,.slice none 0 0,.bool false,.slice none 0 0,.slice none 0 0,.bool false,.bool false,.bool false] 57)).alloc (.cells #[.bool false,.slice none 0 0,.slice none 0 0,.bool false,.slice none 0 0,.slice none 0 0,.bool false,.bool false,.bool false] 57)):=(Kept.refl _).alloc _
 rw[e2] at hb3
 have hb1:=hb1.kept hk3
 have hb2:=hb2.kept hk3
 have hk:=hk.trans hk3
 clear hk3 e2
 go_enter Tryz.func17,Tryz.ntmps17
 go_wp2_with fail
 generalize (((w.alloc (.cells #[.bool s1,.slice a n c,.slice a' n' c',.bool s2,.slice b m e,.slice b' m' e',.bool false,.bool true] 43)).alloc (.cells #[.bool false,.slice none 0 0,.slice none 0 0,.bool false,.slice none 0 0,.slice none 0 0,.bool false,.bool false,.bool false] 57)).alloc (.cells #[.bool false,.slice none 0 0,.slice none 0 0,.bool false,.slice none 0 0,.slice none 0 0,.bool false,.bool false,.bool false] 57))=w1 at*
 generalize hbE:w.heap.size=b0 at hb1 hb2 hb3⊢
 have HBE:=Lib.hid hbE;clear hbE
 refine(hr1 _ hk).mono ?_
 rintro _ w2 ⟨v2,rfl,hq2,hk2⟩
 obtain⟨x1,x2,x3,x4,x5,x6,rfl⟩:=hq2.shape
 generalize hpE:(s1&&decide (0<N1))=p1 at*
 have HPE:=Lib.hid hpE;clear hpE
 have hb1:=hb1.kept hk2
 have hb2:=hb2.kept hk2
 have hb3:=hb3.kept hk2
 have hkw2:=hk.trans hk2
 obtain⟨c0,c1,c2,c3,c4,c5,c6,c7,_⟩:=hb1.facts8
 obtain⟨d0,d1,d2,d3,d4,d5,d6,d7,d8,f0,f1,f2,f3,f4,f5,f6,f7,f8⟩:=hb3.facts9
 have hkb2:=KeptB.store3 w2 (b0+2) (.bool p1) (.slice x1 x2 x3) (.slice x4 x5 x6)
 have hkw3:Kept w (((w2.setCell ⟨b0+2,0,none⟩ (.bool p1)).setCell ⟨b0+2,1,none⟩ (.slice x1 x2 x3)).setCell ⟨b0+2,2,none⟩ (.slice x4 x5 x6)):=hkw2.but hkb2 (by have:=HBE.out;omega)
 have hq3:=hq2.keptB hkb2 (hb3.noWords rfl)
 have hb13:=hb1.keptB hkb2 (by omega)
 have hb23:=hb2.keptB hkb2 (by omega)
 have hb33:Blk (((w2.setCell ⟨b0+2,0,none⟩ (.bool p1)).setCell ⟨b0+2,1,none⟩ (.slice x1 x2 x3)).setCell ⟨b0+2,2,none⟩ (.slice x4 x5 x6)) (b0+2) #[.bool p1,.slice x1 x2 x3,.slice x4 x5 x6,.bool false,.slice none 0 0,.slice none 0 0,.bool false,.bool false,.bool false] 57:=by
  have:=((hb3.set 0 (.bool p1)).set 1 (.slice x1 x2 x3)).set 2 (.slice x4 x5 x6)
  simpa using this
 clear hkb2
 obtain⟨k0,k1,k2,k3,k4,k5,k6,k7,k8,j0,j1,j2,j3,j4,j5,j6,j7,j8⟩:=hb2.facts9
 go_wp2
 generalize hw3:((w2.setCell ⟨b0+2,0,none⟩ (.bool p1)).setCell ⟨b0+2,1,none⟩ (.slice x1 x2 x3)).setCell ⟨b0+2,2,none⟩ (.slice x4 x5 x6)=w3 at*
 have hkb3:KeptB w3 (w3.setCell ⟨b0+2,7,none⟩ (.bool true)) (b0+2):=st1 ..
 have hq4:=hq3.keptB hkb3 (hb33.noWords rfl)
 have hb24:=hb23.keptB hkb3 (by omega)
 have hkw4:=hkw3.but hkb3 (by have:=HBE.out;omega)
 obtain⟨l0,l1,l2,l3,l4,l5,l6,l7,l8,_⟩:=hb24.facts9
 subst hw3
 refine bodyPost_ret (v:=.agg #[.bool p1,.slice x1 x2 x3,.slice x4 x5 x6,.bool false,.slice none 0 0,.slice none 0 0,.bool false,.bool true,.bool false]) (by simp[results,Tryz.results17,go_sem,k0,k1,k2,k3,k4,k5,k6,k7,k8]) rfl ⟨_,rfl,hkw4.but (st9 _ (b0+1) (.bool p1) (.slice x1 x2 x3) (.slice x4 x5 x6) (.bool false) (.slice none 0 0) (.slice none 0 0) (.bool false) (.bool true) (.bool false)) (by have:=HBE.out;omega),?_⟩
 rw[show IvD.void ⟨s1,N1,D1,s2,N2,D2,false,true⟩=false by simp[IvD.void],if_neg (by decide)]
 simp only[HPE.out,Bool.false_eq_true,if_false,if_true]
 exact⟨_,_,_,_,_,_,_,_,_,_,_,_,rfl,hq4.keptB (st9 ..) (hb24.noWords rfl),qv_zero _⟩
set_option maxHeartbeats 4000000 in
set_option maxRecDepth 100000 in
theorem iof_tf{w:World}{v:Value}{s1 s2:Bool}{N1 D1 N2 D2:Nat}(h:Ivl w v ⟨s1,N1,D1,s2,N2,D2,true,false⟩)(hf:small N1 D1=true∧small N2 D2=true):
 Calls Tryz.prog 17 #[v] w (RetI ⟨s1,N1,D1,s2,N2,D2,true,false⟩ w):=by
 obtain⟨a,n,c,a',n',c',b,m,e,b',m',e',rfl,h1,h2⟩:=h
 obtain⟨g1,g2,g3,g4,_,_⟩:=small_bounds hf.1
 obtain⟨g5,g6,g7,g8,_,_⟩:=small_bounds hf.2
 have hr1:=fun(w':World)(k:Kept w w')=>of_qcalls (h1.kept k) (.inr ⟨g1,g2⟩)
 have hr2:=fun(w':World)(k:Kept w w')=>of_qcalls (h2.kept k) (.inr ⟨g5,g6⟩)
 have HG:=Lib.hid (And.intro g3 (And.intro g4 (And.intro g7 g8)))
 clear h1 h2 g1 g2 g3 g4 g5 g6 g7 g8 hf
 have hb1:=Blk.new w #[.bool s1,.slice a n c,.slice a' n' c',.bool s2,.slice b m e,.slice b' m' e',.bool true,.bool false] 43
 have hk1:Kept w (w.alloc (.cells #[.bool s1,.slice a n c,.slice a' n' c',.bool s2,.slice b m e,.slice b' m' e',.bool true,.bool false] 43)):=(Kept.refl _).alloc _
 have e1:(w.alloc (.cells #[.bool s1,.slice a n c,.slice a' n' c',.bool s2,.slice b m e,.slice b' m' e',.bool true,.bool false] 43)).heap.size=w.heap.size+1:=by simp[go_sem]
 have hb2:=Blk.new (w.alloc (.cells #[.bool s1,.slice a n c,.slice a' n' c',.bool s2,.slice b m e,.slice b' m' e',.bool true,.bool false] 43)) #[.bool false,.slice none 0 0,.slice none 0 0,.bool false,.slice none 0 0,.slice none 0 0,.bool false,.bool false,.bool false] 57
 have hk2:Kept (w.alloc (.cells #[.bool s1,.slice a n c,.slice a' n' c',.bool s2,.slice b m e,.slice b' m' e',.bool true,.bool false] 43)) ((w.alloc (.cells #[.bool s1,.slice a n c,.slice a' n' c',.bool s2,.slice b m e,.slice b' m' e',.bool true,.bool false] 43)).alloc (.cells #[.bool false,.slice none 0 0,.slice none 0 0,.bool false,.slice none 0 0,.slice none 0 0,.bool false,.bool false,.bool false] 57)):=(Kept.refl _).alloc _
 have e2:((w.alloc (.cells #[.bool s1,.slice a n c,.slice a' n' c',.bool s2,.slice b m e,.slice b' m' e',.bool true,.bool false] 43)).alloc (.cells #[.bool false,.slice none 0 0,.slice none 0 0,.bool false,.slice none 0 0,.slice none 0 0,.bool false,.bool false,.bool false] 57)).heap.size=w.heap.size+2:=by simp[go_sem]
 rw[e1] at hb2
 have hb1:=hb1.kept hk2
 have hk:=hk1.trans hk2
 clear hk1 hk2 e1
 have hb3:=Blk.new ((w.alloc (.cells #[.bool s1,.slice a n c,.slice a' n' c',.bool s2,.slice b m e,.slice b' m' e',.bool true,.bool false] 43)).alloc (.cells #[.bool false,.slice none 0 0,.slice none 0 0,.bool false,.slice none 0 0,.slice none 0 0,.bool false,.bool false,.bool false] 57)) #[.bool false,.slice none 0 0,.slice none 0 0,.bool false,.slice none 0 0,.slice none 0 0,.bool true,.bool false,.bool false] 57
 have hk3:Kept ((w.alloc (.cells #[.bool s1,.slice a n c,.slice a' n' c',.bool s2,.slice b m e,.slice b' m' e',.bool true,.bool false] 43)).alloc (.cells #[.bool false,.slice none 0 0,.slice none 0 0,.bool false,.slice none 0 0,.slice none 0 0,.bool false,.bool false,.bool false] 57)) (((w.alloc (.cells #[.bool s1,.slice a n c,.slice a' n' c',.bool s2,.slice b m e,.slice b' m' e',.bool true,.bool false] 43)).alloc (.cells #[.bool false,.slice none 0 0,.slice none 0 0,.bool false,.slice none 0 0,.slice none 0 0,.bool false,.bool false,.bool false] 57)).alloc (.cells #[.bool false,.slice none 0 0,.slice none 0 0,.bool false,.slice none 0 0,.slice none 0 0,.bool true,.bool false,.bool false] 57)):=(Kept.refl _).alloc _
 rw[e2] at hb3
 have hb1:=hb1.kept hk3
 have hb2:=hb2.kept hk3
 have hk:=hk.trans hk3
 clear hk3 e2
 go_enter Tryz.func17,Tryz.ntmps17
 go_wp2_with fail
 generalize (((w.alloc (.cells #[.bool s1,.slice a n c,.slice a' n' c',.bool s2,.slice b m e,.slice b' m' e',.bool true,.bool false] 43)).alloc (.cells #[.bool false,.slice none 0 0,.slice none 0 0,.bool false,.slice none 0 0,.slice none 0 0,.bool false,.bool false,.bool false] 57)).alloc (.cells #[.bool false,.slice none 0 0,.slice none 0 0,.bool false,.slice none 0 0,.slice none 0 0,.bool true,.bool false,.bool false] 57))=w3 at*
 generalize hbE:w.heap.size=b0 at hb1 hb2 hb3⊢
 have HBE:=Lib.hid hbE;clear hbE
 refine(hr2 _ hk).mono ?_
 rintro _ w4 ⟨v4,rfl,hq4,hk4⟩
 obtain⟨y1,y2,y3,y4,y5,y6,rfl⟩:=hq4.shape
 generalize hpE2:(s2&&decide (0<N2))=p2 at*
 have HPE2:=Lib.hid hpE2;clear hpE2
 have hb1:=hb1.kept hk4
 have hb2:=hb2.kept hk4
 have hb3:=hb3.kept hk4
 have hkw4:=hk.trans hk4
 obtain⟨c0,c1,c2,c3,c4,c5,c6,c7,_⟩:=hb1.facts8
 obtain⟨d0,d1,d2,d3,d4,d5,d6,d7,d8,f0,f1,f2,f3,f4,f5,f6,f7,f8⟩:=hb3.facts9
 obtain⟨k0,k1,k2,k3,k4,k5,k6,k7,k8,j0,j1,j2,j3,j4,j5,j6,j7,j8⟩:=hb2.facts9
 have hkb4:KeptB w4 (((w4.setCell ⟨b0+2,3,none⟩ (.bool p2)).setCell ⟨b0+2,4,none⟩ (.slice y1 y2 y3)).setCell ⟨b0+2,5,none⟩ (.slice y4 y5 y6)) (b0+2):=stI ..
 have hkw5:Kept w (((w4.setCell ⟨b0+2,3,none⟩ (.bool p2)).setCell ⟨b0+2,4,none⟩ (.slice y1 y2 y3)).setCell ⟨b0+2,5,none⟩ (.slice y4 y5 y6)):=hkw4.but hkb4 (by have:=HBE.out;omega)
 have hq45:=hq4.keptB hkb4 (hb3.noWords rfl)
 have hb25:=hb2.keptB hkb4 (by omega)
 clear hkb4
 go_wp2
 refine bodyPost_ret (v:=.agg #[.bool false,.slice none 0 0,.slice none 0 0,.bool p2,.slice y1 y2 y3,.slice y4 y5 y6,.bool true,.bool false,.bool false]) (by simp[results,Tryz.results17,go_sem,k0,k1,k2,k3,k4,k5,k6,k7,k8]) rfl ⟨_,rfl,hkw5.but (st9 _ (b0+1) (.bool false) (.slice none 0 0) (.slice none 0 0) (.bool p2) (.slice y1 y2 y3) (.slice y4 y5 y6) (.bool true) (.bool false) (.bool false)) (by have:=HBE.out;omega),?_⟩
 rw[show IvD.void ⟨s1,N1,D1,s2,N2,D2,true,false⟩=false by simp[IvD.void],if_neg (by decide)]
 simp only[HPE2.out,Bool.false_eq_true,if_false,if_true]
 exact⟨_,_,_,_,_,_,_,_,_,_,_,_,rfl,qv_zero _,hq45.keptB (st9 ..) (hb25.noWords rfl)⟩
set_option maxHeartbeats 4000000 in
set_option maxRecDepth 100000 in
theorem iof_tt{w:World}{v:Value}{s1 s2:Bool}{N1 D1 N2 D2:Nat}(h:Ivl w v ⟨s1,N1,D1,s2,N2,D2,true,true⟩)(hf:small N1 D1=true∧small N2 D2=true):
 Calls Tryz.prog 17 #[v] w (RetI ⟨s1,N1,D1,s2,N2,D2,true,true⟩ w):=by
 obtain⟨a,n,c,a',n',c',b,m,e,b',m',e',rfl,h1,h2⟩:=h
 obtain⟨g1,g2,g3,g4,_,_⟩:=small_bounds hf.1
 obtain⟨g5,g6,g7,g8,_,_⟩:=small_bounds hf.2
 have hk9:=((Kept.refl w).alloc (.cells #[.bool s1,.slice a n c,.slice a' n' c',.bool s2,.slice b m e,.slice b' m' e',.bool true,.bool true] 43)).alloc (.cells #[.bool false,.slice none 0 0,.slice none 0 0,.bool false,.slice none 0 0,.slice none 0 0,.bool true,.bool true,.bool false] 57)
 have hr1:=fun(w':World)(k:Kept w w')=>of_qcalls (h1.kept k) (.inr ⟨g1,g2⟩)
 have hr2:=fun(w':World)(k:Kept w w')=>of_qcalls (h2.kept k) (.inr ⟨g5,g6⟩)
 have HG:=Lib.hid (And.intro g3 (And.intro g4 (And.intro g7 g8)))
 clear h1 h2 g1 g2 g3 g4 g5 g6 g7 g8 hf
 have hb1:=Blk.new w #[.bool s1,.slice a n c,.slice a' n' c',.bool s2,.slice b m e,.slice b' m' e',.bool true,.bool true] 43
 have hk1:Kept w (w.alloc (.cells #[.bool s1,.slice a n c,.slice a' n' c',.bool s2,.slice b m e,.slice b' m' e',.bool true,.bool true] 43)):=(Kept.refl _).alloc _
 have e1:(w.alloc (.cells #[.bool s1,.slice a n c,.slice a' n' c',.bool s2,.slice b m e,.slice b' m' e',.bool true,.bool true] 43)).heap.size=w.heap.size+1:=by simp[go_sem]
 have hb2:=Blk.new (w.alloc (.cells #[.bool s1,.slice a n c,.slice a' n' c',.bool s2,.slice b m e,.slice b' m' e',.bool true,.bool true] 43)) #[.bool false,.slice none 0 0,.slice none 0 0,.bool false,.slice none 0 0,.slice none 0 0,.bool false,.bool false,.bool false] 57
 have hk2:Kept (w.alloc (.cells #[.bool s1,.slice a n c,.slice a' n' c',.bool s2,.slice b m e,.slice b' m' e',.bool true,.bool true] 43)) ((w.alloc (.cells #[.bool s1,.slice a n c,.slice a' n' c',.bool s2,.slice b m e,.slice b' m' e',.bool true,.bool true] 43)).alloc (.cells #[.bool false,.slice none 0 0,.slice none 0 0,.bool false,.slice none 0 0,.slice none 0 0,.bool false,.bool false,.bool false] 57)):=(Kept.refl _).alloc _
 have e2:((w.alloc (.cells #[.bool s1,.slice a n c,.slice a' n' c',.bool s2,.slice b m e,.slice b' m' e',.bool true,.bool true] 43)).alloc (.cells #[.bool false,.slice none 0 0,.slice none 0 0,.bool false,.slice none 0 0,.slice none 0 0,.bool false,.bool false,.bool false] 57)).heap.size=w.heap.size+2:=by simp[go_sem]
 rw[e1] at hb2
 have hb1:=hb1.kept hk2
 have hk:=hk1.trans hk2
 clear hk1 hk2 e1
 clear hb1 hb2 hk e2 hr1 hr2 HG
 go_enter Tryz.func17,Tryz.ntmps17
 go_wp2
 refine bodyPost_ret (v:=.agg #[.bool false,.slice none 0 0,.slice none 0 0,.bool false,.slice none 0 0,.slice none 0 0,.bool true,.bool true,.bool false]) (by simp[results,Tryz.results17,go_sem]) rfl ⟨_,rfl,hk9.alloc _,?_⟩
 rw[show IvD.void ⟨s1,N1,D1,s2,N2,D2,true,true⟩=false by simp[IvD.void],if_neg (by decide)]
 simp only[if_true]
 exact⟨_,_,_,_,_,_,_,_,_,_,_,_,rfl,qv_zero _,qv_zero _⟩
theorem iof_calls{w:World}{v:Value}{i:IvD}(h:Ivl w v i)(hf:i.fine=true):Calls Tryz.prog 17 #[v] w (RetI i w):=by
 obtain⟨s1,N1,D1,s2,N2,D2,li,hi⟩:=i
 have hf2:small N1 D1=true∧small N2 D2=true:=by
  have hf:(small N1 D1&&small N2 D2)=true:=hf
  simpa using hf
 cases li<;>cases hi
 ·exact iof_ff h hf2
 ·exact iof_ft h hf2
 ·exact iof_tf h hf2
 ·exact iof_tt h hf2
def Sv(w:World)(v:Value)(i:IvD):Prop:=
 ∃a n c a' n' c' b m e b' m' e',v= .agg #[.bool (i.s1&&decide (0<i.N1)),.slice a n c,.slice a' n' c',.bool (i.s2&&decide (0<i.N2)),.slice b m e,.slice b' m' e',.bool i.li,.bool i.hi,.bool i.void]∧
  Fr w (.agg #[.bool (i.s1&&decide (0<i.N1)),.slice a n c,.slice a' n' c']) (i.s1&&decide (0<i.N1)) (rN i.N1 i.D1) (rD i.N1 i.D1)∧
  Fr w (.agg #[.bool (i.s2&&decide (0<i.N2)),.slice b m e,.slice b' m' e']) (i.s2&&decide (0<i.N2)) (rN i.N2 i.D2) (rD i.N2 i.D2)
theorem rD_pos(N D:Nat):0<rD N D:=Nat.div_pos (Nat.le_of_dvd (dn_pos D) (Nat.gcd_dvd_right N (dn D))) (Nat.gcd_pos_of_pos_right _ (dn_pos D))
theorem Blk.newD(w:World)(cs:Array Value)(t:TypeId):Blk (w.alloc (.cells cs t)).drew w.heap.size cs t:=Blk.new w cs t
theorem Fr.shape{w:World}{v:Value}{p:Bool}{n d:Nat}(h:Fr w v p n d):∃a n c a' n' c',v= .agg #[.bool p,.slice a n c,.slice a' n' c']:=by
 obtain⟨x,y,h1,h2,h3⟩:=h
 obtain⟨a,n,c,rfl⟩:=h2.shape
 obtain⟨a',n',c',rfl⟩:=h3.shape
 exact⟨_,_,_,_,_,_,h1⟩
theorem Fr.keptB{w w':World}{v:Value}{p:Bool}{n d b:Nat}(h:Fr w v p n d)(k:KeptB w w' b)(hb:NoWords w b):Fr w' v p n d:=by
 obtain⟨x,y,h1,h2,h3⟩:=h
 exact⟨x,y,h1,h2.keptB k hb,h3.keptB k hb⟩
set_option maxHeartbeats 4000000 in
set_option maxRecDepth 100000 in
theorem iread_ok{w:World}{v:Value}{s1 s2 li hi:Bool}{N1 D1 N2 D2:Nat}(h:Ivl w v ⟨s1,N1,D1,s2,N2,D2,li,hi⟩)(hT:Laid w)(hf:small N1 D1=true∧small N2 D2=true):
 Calls Tryz.prog 108 #[v] w fun e w'=>∃v',e= .returned v'∧Sv w' v' ⟨s1,N1,D1,s2,N2,D2,li,hi⟩∧Kept w w':=by
 obtain⟨a,n,c,a',n',c',b,m,e,b',m',e',rfl,h1,h2⟩:=h
 have hr1:=fun(w':World)(k:Kept w w')=>number_ok (h1.kept k) (hT.kept k) hf.1
 have hr2:=fun(w':World)(k:Kept w w')=>number_ok (h2.kept k) (hT.kept k) hf.2
 generalize hpE:(s1&&decide (0<N1))=q1 at hr1
 generalize hpE2:(s2&&decide (0<N2))=q2 at hr2
 have HPE:=Lib.hid hpE;clear hpE
 have HPE2:=Lib.hid hpE2;clear hpE2
 have hb1:=Blk.new w #[.bool s1,.slice a n c,.slice a' n' c',.bool s2,.slice b m e,.slice b' m' e',.bool li,.bool hi] 43
 have hk1:Kept w (w.alloc (.cells #[.bool s1,.slice a n c,.slice a' n' c',.bool s2,.slice b m e,.slice b' m' e',.bool li,.bool hi] 43)):=(Kept.refl _).alloc _
 have e1:(w.alloc (.cells #[.bool s1,.slice a n c,.slice a' n' c',.bool s2,.slice b m e,.slice b' m' e',.bool li,.bool hi] 43)).heap.size=w.heap.size+1:=by simp[go_sem]
 have hb2:=Blk.new (w.alloc (.cells #[.bool s1,.slice a n c,.slice a' n' c',.bool s2,.slice b m e,.slice b' m' e',.bool li,.bool hi] 43)) #[.bool false,.slice none 0 0,.slice none 0 0,.bool false,.slice none 0 0,.slice none 0 0,.bool false,.bool false,.bool false] 180
 have hk2:Kept (w.alloc (.cells #[.bool s1,.slice a n c,.slice a' n' c',.bool s2,.slice b m e,.slice b' m' e',.bool li,.bool hi] 43)) ((w.alloc (.cells #[.bool s1,.slice a n c,.slice a' n' c',.bool s2,.slice b m e,.slice b' m' e',.bool li,.bool hi] 43)).alloc (.cells #[.bool false,.slice none 0 0,.slice none 0 0,.bool false,.slice none 0 0,.slice none 0 0,.bool false,.bool false,.bool false] 180)):=(Kept.refl _).alloc _
 rw[e1] at hb2
 have hb1:=hb1.kept hk2
 have hk:=hk1.trans hk2
 clear hk1 hk2 e1 h1 h2
 go_enter Tryz.func108,Tryz.ntmps108
 go_wp2_with fail
 rename_i Q' K hK
 generalize ((w.alloc (.cells #[.bool s1,.slice a n c,.slice a' n' c',.bool s2,.slice b m e,.slice b' m' e',.bool li,.bool hi] 43)).alloc (.cells #[.bool false,.slice none 0 0,.slice none 0 0,.bool false,.slice none 0 0,.slice none 0 0,.bool false,.bool false,.bool false] 180))=w1 at*
 generalize hbE:w.heap.size=b0 at hb1 hb2⊢
 have HBE:=Lib.hid hbE;clear hbE
 obtain⟨p0,p1,p2,p3,p4,p5,p6,p7,_⟩:=hb1.facts8
 have hall:∀w',Kept w1 w'→Kept w1 w'∧w'.cell? ⟨b0,0,none⟩=some (.bool s1)∧w'.cell? ⟨b0,1,none⟩=some (.slice a n c)∧w'.cell? ⟨b0,2,none⟩=some (.slice a' n' c')∧w'.cell? ⟨b0,3,none⟩=some (.bool s2)∧w'.cell? ⟨b0,4,none⟩=some (.slice b m e)∧w'.cell? ⟨b0,5,none⟩=some (.slice b' m' e')∧w'.cell? ⟨b0,6,none⟩=some (.bool li)∧w'.cell? ⟨b0,7,none⟩=some (.bool hi):=
  fun w' k=>⟨k,k.cell p0,k.cell p1,k.cell p2,k.cell p3,k.cell p4,k.cell p5,k.cell p6,k.cell p7⟩
 have HALL:=Lib.hid hall;clear hall
 have hrest:∀(bt:Nat)(W:World)(x1:Option Addr)(x2 x3:Nat)(x4:Option Addr)(x5 x6:Nat)(y1:Option Addr)(y2 y3:Nat)(y4:Option Addr)(y5 y6:Nat),Kept w1 W→Blk W bt #[.bool q1,.slice x1 x2 x3,.slice x4 x5 x6,.bool q2,.slice y1 y2 y3,.slice y4 y5 y6,.bool li,.bool hi,.bool false] 180→Fr W (.agg #[.bool q1,.slice x1 x2 x3,.slice x4 x5 x6]) q1 (rN N1 D1) (rD N1 D1)→Fr W (.agg #[.bool q2,.slice y1 y2 y3,.slice y4 y5 y6]) q2 (rN N2 D2) (rD N2 D2)→w1.heap.size≤bt→Exit.then K Q' Exit.normal {tmps:=#[Value.agg #[.bool s1,.slice a n c,.slice a' n' c',.bool s2,.slice b m e,.slice b' m' e',.bool li,.bool hi],Value.pointer (some ⟨b0,0,none⟩),Value.pointer (some ⟨b0+1,0,none⟩),Value.pointer (some ⟨bt,0,none⟩),Value.pointer (some ⟨b0,0,none⟩),Value.agg #[.bool s1,.slice a n c,.slice a' n' c'],Value.agg #[.bool q1,.slice x1 x2 x3,.slice x4 x5 x6],Value.pointer (some ⟨b0,3,none⟩),Value.agg #[.bool s2,.slice b m e,.slice b' m' e'],Value.agg #[.bool q2,.slice y1 y2 y3,.slice y4 y5 y6],Value.pointer (some ⟨b0,6,none⟩),Value.bool li,Value.pointer (some ⟨b0,7,none⟩),Value.bool hi,Value.agg #[.bool q1,.slice x1 x2 x3,.slice x4 x5 x6,.bool q2,.slice y1 y2 y3,.slice y4 y5 y6,.bool li,.bool hi,.bool false],undef,undef,undef,undef,undef,undef,undef,undef,undef,undef,undef,undef,undef,undef,undef,undef,undef,undef],defers:=[]} W:=by
  intro bt W x1 x2 x3 x4 x5 x6 y1 y2 y3 y4 y5 y6 hKW hB hF2 hF3 hbt
  have HNE:Hid (bt≠b0+1):=Lib.hid (by have:=hb2.lt;omega)
  have hne:=HNE.out
  have hne2:b0+1≠bt:=fun h=>hne h.symm
  have HBW:Hid (w.heap.size≤bt):=Lib.hid (Nat.le_trans hk.size hbt)
  have hb2:=hb2.kept hKW
  have hkW:=hk.trans hKW
  clear hr1 hr2 HALL p0 p1 p2 p3 p4 p5 p6 p7 hbt hKW hk hb1
  obtain⟨d0,d1,d2,d3,d4,d5,d6,d7,d8,f0,f1,f2,f3,f4,f5,f6,f7,f8⟩:=hB.facts9
  obtain⟨k0,k1,k2,k3,k4,k5,k6,k7,k8,j0,j1,j2,j3,j4,j5,j6,j7,j8⟩:=hb2.facts9
  cases li
  ·cases hi
   ·obtain⟨g1,g2,g3,g4,g5,g6⟩:=small_bounds hf.1
    obtain⟨g7,g8,g9,g10,g11,g12⟩:=small_bounds hf.2
    have hvd:(IvD.void ⟨s1,N1,D1,s2,N2,D2,false,false⟩)=decide (0<fcmp q1 (rN N1 D1) (rD N1 D1) q2 (rN N2 D2) (rD N2 D2)):=by
     unfold IvD.void
     simp only[HPE.out,HPE2.out]
     rw[fcmp_qcmp _ _ _ _ _ _ (rD_pos N1 D1) (rD_pos N2 D2)]
     rfl
    have hfc:=fcmp_calls hF2 hF3 (sm_big g3) (sm_big g4) (sm_big g9) (sm_big g10) (mid_big (p14_mid (sm_mul g3 g10)))
    generalize fcmp q1 (rN N1 D1) (rD N1 D1) q2 (rN N2 D2) (rD N2 D2)=cc at*
    have HVD0:=Lib.hid hvd
    clear hvd g1 g2 g3 g4 g5 g6 g7 g8 g9 g10 g11 g12 d0 d1 d2 d3 d4 d5 d6 d7 d8 f0 f1 f2 f3 f4 f5 f6 f7 f8 k0 k1 k2 k3 k4 k5 k6 k7 k8 j0 j1 j2 j3 j4 j5 j6 j7 j8
    obtain⟨d0,d1,d2,d3,d4,d5,d6,d7,d8,_⟩:=hB.facts9
    go_wp2_with fail
    refine hfc.mono ?_
    rintro _ W2 ⟨rfl,hk2⟩
    clear d0 d1 d2 d3 d4 d5 d6 d7 d8
    have hB:=hB.kept hk2
    have hb2:=hb2.kept hk2
    have hF2:=hF2.kept hk2
    have hF3:=hF3.kept hk2
    have hkW:=hkW.trans hk2
    obtain⟨d0,d1,d2,d3,d4,d5,d6,d7,d8,f0,f1,f2,f3,f4,f5,f6,f7,f8⟩:=hB.facts9
    obtain⟨k0,k1,k2,k3,k4,k5,k6,k7,k8,j0,j1,j2,j3,j4,j5,j6,j7,j8⟩:=hb2.facts9
    generalize hVE:decide (0<cc)=vd at*
    have HVD:Hid ((IvD.void ⟨s1,N1,D1,s2,N2,D2,false,false⟩)=vd):=HVD0
    go_wp2
    have hkb:=st1 W2 bt 8 (.bool vd)
    have hF2b:=hF2.keptB hkb (hB.noWords rfl)
    have hF3b:=hF3.keptB hkb (hB.noWords rfl)
    have hb2b:=hb2.keptB hkb (fun h=>HNE.out h.symm)
    have hkWb:=hkW.but hkb HBW.out
    refine bodyPost_ret (v:=.agg #[.bool q1,.slice x1 x2 x3,.slice x4 x5 x6,.bool q2,.slice y1 y2 y3,.slice y4 y5 y6,.bool false,.bool false,.bool vd]) (by simp[results,Tryz.results108,go_sem,k0,k1,k2,k3,k4,k5,k6,k7,k8]) rfl ⟨_,rfl,?_,hkWb.but (st9 _ (b0+1) ..) (by have:=HBE.out;omega)⟩
    refine⟨x1,x2,x3,x4,x5,x6,y1,y2,y3,y4,y5,y6,?_,?_,?_⟩
    ·show Value.agg #[.bool q1,.slice x1 x2 x3,.slice x4 x5 x6,.bool q2,.slice y1 y2 y3,.slice y4 y5 y6,.bool false,.bool false,.bool vd]=Value.agg #[.bool (s1&&decide (0<N1)),.slice x1 x2 x3,.slice x4 x5 x6,.bool (s2&&decide (0<N2)),.slice y1 y2 y3,.slice y4 y5 y6,.bool false,.bool false,.bool (IvD.void ⟨s1,N1,D1,s2,N2,D2,false,false⟩)]
     rw[HPE.out,HPE2.out,HVD.out]
    ·show Fr _ (.agg #[.bool (s1&&decide (0<N1)),.slice x1 x2 x3,.slice x4 x5 x6]) (s1&&decide (0<N1)) (rN N1 D1) (rD N1 D1)
     rw[HPE.out];exact hF2b.keptB (st9 ..) (hb2b.noWords rfl)
    ·show Fr _ (.agg #[.bool (s2&&decide (0<N2)),.slice y1 y2 y3,.slice y4 y5 y6]) (s2&&decide (0<N2)) (rN N2 D2) (rD N2 D2)
     rw[HPE2.out];exact hF3b.keptB (st9 ..) (hb2b.noWords rfl)
   ·have HVD:Hid ((IvD.void ⟨s1,N1,D1,s2,N2,D2,false,true⟩)=false):=Lib.hid (by simp[IvD.void])
    go_wp2
    have hkb:=st1 W bt 8 (.bool false)
    have hF2b:=hF2.keptB hkb (hB.noWords rfl)
    have hF3b:=hF3.keptB hkb (hB.noWords rfl)
    have hb2b:=hb2.keptB hkb (fun h=>HNE.out h.symm)
    have hkWb:=hkW.but hkb HBW.out
    refine bodyPost_ret (v:=.agg #[.bool q1,.slice x1 x2 x3,.slice x4 x5 x6,.bool q2,.slice y1 y2 y3,.slice y4 y5 y6,.bool false,.bool true,.bool false]) (by simp[results,Tryz.results108,go_sem,k0,k1,k2,k3,k4,k5,k6,k7,k8]) rfl ⟨_,rfl,?_,hkWb.but (st9 _ (b0+1) ..) (by have:=HBE.out;omega)⟩
    refine⟨x1,x2,x3,x4,x5,x6,y1,y2,y3,y4,y5,y6,?_,?_,?_⟩
    ·show Value.agg #[.bool q1,.slice x1 x2 x3,.slice x4 x5 x6,.bool q2,.slice y1 y2 y3,.slice y4 y5 y6,.bool false,.bool true,.bool false]=Value.agg #[.bool (s1&&decide (0<N1)),.slice x1 x2 x3,.slice x4 x5 x6,.bool (s2&&decide (0<N2)),.slice y1 y2 y3,.slice y4 y5 y6,.bool false,.bool true,.bool (IvD.void ⟨s1,N1,D1,s2,N2,D2,false,true⟩)]
     rw[HPE.out,HPE2.out,HVD.out]
    ·show Fr _ (.agg #[.bool (s1&&decide (0<N1)),.slice x1 x2 x3,.slice x4 x5 x6]) (s1&&decide (0<N1)) (rN N1 D1) (rD N1 D1)
     rw[HPE.out];exact hF2b.keptB (st9 ..) (hb2b.noWords rfl)
    ·show Fr _ (.agg #[.bool (s2&&decide (0<N2)),.slice y1 y2 y3,.slice y4 y5 y6]) (s2&&decide (0<N2)) (rN N2 D2) (rD N2 D2)
     rw[HPE2.out];exact hF3b.keptB (st9 ..) (hb2b.noWords rfl)
  ·cases hi
   ·have HVD:Hid ((IvD.void ⟨s1,N1,D1,s2,N2,D2,true,false⟩)=false):=Lib.hid (by simp[IvD.void])
    go_wp2
    have hkb:=st1 W bt 8 (.bool false)
    have hF2b:=hF2.keptB hkb (hB.noWords rfl)
    have hF3b:=hF3.keptB hkb (hB.noWords rfl)
    have hb2b:=hb2.keptB hkb (fun h=>HNE.out h.symm)
    have hkWb:=hkW.but hkb HBW.out
    refine bodyPost_ret (v:=.agg #[.bool q1,.slice x1 x2 x3,.slice x4 x5 x6,.bool q2,.slice y1 y2 y3,.slice y4 y5 y6,.bool true,.bool false,.bool false]) (by simp[results,Tryz.results108,go_sem,k0,k1,k2,k3,k4,k5,k6,k7,k8]) rfl ⟨_,rfl,?_,hkWb.but (st9 _ (b0+1) ..) (by have:=HBE.out;omega)⟩
    refine⟨x1,x2,x3,x4,x5,x6,y1,y2,y3,y4,y5,y6,?_,?_,?_⟩
    ·show Value.agg #[.bool q1,.slice x1 x2 x3,.slice x4 x5 x6,.bool q2,.slice y1 y2 y3,.slice y4 y5 y6,.bool true,.bool false,.bool false]=Value.agg #[.bool (s1&&decide (0<N1)),.slice x1 x2 x3,.slice x4 x5 x6,.bool (s2&&decide (0<N2)),.slice y1 y2 y3,.slice y4 y5 y6,.bool true,.bool false,.bool (IvD.void ⟨s1,N1,D1,s2,N2,D2,true,false⟩)]
     rw[HPE.out,HPE2.out,HVD.out]
    ·show Fr _ (.agg #[.bool (s1&&decide (0<N1)),.slice x1 x2 x3,.slice x4 x5 x6]) (s1&&decide (0<N1)) (rN N1 D1) (rD N1 D1)
     rw[HPE.out];exact hF2b.keptB (st9 ..) (hb2b.noWords rfl)
    ·show Fr _ (.agg #[.bool (s2&&decide (0<N2)),.slice y1 y2 y3,.slice y4 y5 y6]) (s2&&decide (0<N2)) (rN N2 D2) (rD N2 D2)
     rw[HPE2.out];exact hF3b.keptB (st9 ..) (hb2b.noWords rfl)
   ·have HVD:Hid ((IvD.void ⟨s1,N1,D1,s2,N2,D2,true,true⟩)=false):=Lib.hid (by simp[IvD.void])
    go_wp2
    have hkb:=st1 W bt 8 (.bool false)
    have hF2b:=hF2.keptB hkb (hB.noWords rfl)
    have hF3b:=hF3.keptB hkb (hB.noWords rfl)
    have hb2b:=hb2.keptB hkb (fun h=>HNE.out h.symm)
    have hkWb:=hkW.but hkb HBW.out
    refine bodyPost_ret (v:=.agg #[.bool q1,.slice x1 x2 x3,.slice x4 x5 x6,.bool q2,.slice y1 y2 y3,.slice y4 y5 y6,.bool true,.bool true,.bool false]) (by simp[results,Tryz.results108,go_sem,k0,k1,k2,k3,k4,k5,k6,k7,k8]) rfl ⟨_,rfl,?_,hkWb.but (st9 _ (b0+1) ..) (by have:=HBE.out;omega)⟩
    refine⟨x1,x2,x3,x4,x5,x6,y1,y2,y3,y4,y5,y6,?_,?_,?_⟩
    ·show Value.agg #[.bool q1,.slice x1 x2 x3,.slice x4 x5 x6,.bool q2,.slice y1 y2 y3,.slice y4 y5 y6,.bool true,.bool true,.bool false]=Value.agg #[.bool (s1&&decide (0<N1)),.slice x1 x2 x3,.slice x4 x5 x6,.bool (s2&&decide (0<N2)),.slice y1 y2 y3,.slice y4 y5 y6,.bool true,.bool true,.bool (IvD.void ⟨s1,N1,D1,s2,N2,D2,true,true⟩)]
     rw[HPE.out,HPE2.out,HVD.out]
    ·show Fr _ (.agg #[.bool (s1&&decide (0<N1)),.slice x1 x2 x3,.slice x4 x5 x6]) (s1&&decide (0<N1)) (rN N1 D1) (rD N1 D1)
     rw[HPE.out];exact hF2b.keptB (st9 ..) (hb2b.noWords rfl)
    ·show Fr _ (.agg #[.bool (s2&&decide (0<N2)),.slice y1 y2 y3,.slice y4 y5 y6]) (s2&&decide (0<N2)) (rN N2 D2) (rD N2 D2)
     rw[HPE2.out];exact hF3b.keptB (st9 ..) (hb2b.noWords rfl)
 have HREST:=Lib.hid hrest
 clear hrest hK
 go_region_held3 (fun w'=>Kept w1 w'∧w'.cell? ⟨b0,0,none⟩=some (.bool s1)∧w'.cell? ⟨b0,1,none⟩=some (.slice a n c)∧w'.cell? ⟨b0,2,none⟩=some (.slice a' n' c')∧w'.cell? ⟨b0,3,none⟩=some (.bool s2)∧w'.cell? ⟨b0,4,none⟩=some (.slice b m e)∧w'.cell? ⟨b0,5,none⟩=some (.slice b' m' e')∧w'.cell? ⟨b0,6,none⟩=some (.bool li)∧w'.cell? ⟨b0,7,none⟩=some (.bool hi))
  (first|(have hg:=hS3;refine HALL.out _ ?_;first|with_reducible exact hS3|with_reducible exact Kept.alloc hS3 _|with_reducible exact Kept.but hS3 (st9 _ _ _ _ _ _ _ _ _ _ _) (Nat.le_refl _)|with_reducible exact Kept.but hS3 (st9 _ _ _ _ _ _ _ _ _ _ _) hS2.size)|(have hg:=hS2;refine HALL.out _ ?_;first|with_reducible exact hS2|with_reducible exact Kept.alloc hS2 _)|(refine HALL.out _ ?_;first|with_reducible exact(Kept.refl w1).drew|with_reducible exact((Kept.refl w1).alloc _).drew))
  (first|(have hg:=hS2;go_at_call 184;refine(hr2 _ (hk.trans (by first|with_reducible exact hS2|with_reducible exact hS2.alloc _))).mono ?_;rintro e w3 ⟨v3,rfl,hv3,hk3⟩;obtain⟨y1,y2,y3,y4,y5,y6,rfl⟩:=hv3.shape;have hS3:Kept w1 w3:=(by first|with_reducible exact hS2.trans hk3|with_reducible exact(hS2.alloc _).trans hk3);first|(have hbB:Blk w3 w1.heap.size #[.bool false,.slice none 0 0,.slice none 0 0,.bool false,.slice none 0 0,.slice none 0 0,.bool false,.bool false,.bool false] 180:=(by with_reducible exact Blk.kept hbA hk3);obtain⟨k0,k1,k2,k3,k4,k5,k6,k7,k8,j0,j1,j2,j3,j4,j5,j6,j7,j8⟩:=hbB.facts9)|(have hbB:Blk w3 w2.heap.size #[.bool false,.slice none 0 0,.slice none 0 0,.bool false,.slice none 0 0,.slice none 0 0,.bool false,.bool false,.bool false] 180:=(by with_reducible exact(Blk.new w2 #[.bool false,.slice none 0 0,.slice none 0 0,.bool false,.slice none 0 0,.slice none 0 0,.bool false,.bool false,.bool false] 180).kept hk3);obtain⟨k0,k1,k2,k3,k4,k5,k6,k7,k8,j0,j1,j2,j3,j4,j5,j6,j7,j8⟩:=hbB.facts9)|skip)|(go_at_call 184;refine(hr1 _ (hk.trans (by first|with_reducible exact(Kept.refl w1).drew|with_reducible exact((Kept.refl w1).alloc _).drew))).mono ?_;rintro e w2 ⟨v2,rfl,hv2,hk2⟩;obtain⟨x1,x2,x3,x4,x5,x6,rfl⟩:=hv2.shape;have hS2:Kept w1 w2:=(by first|with_reducible exact(Kept.refl w1).drew.trans hk2|with_reducible exact(((Kept.refl w1).alloc _).drew).trans hk2);try (have hbA:Blk w2 w1.heap.size #[.bool false,.slice none 0 0,.slice none 0 0,.bool false,.slice none 0 0,.slice none 0 0,.bool false,.bool false,.bool false] 180:=(by with_reducible exact(Blk.newD w1 #[.bool false,.slice none 0 0,.slice none 0 0,.bool false,.slice none 0 0,.slice none 0 0,.bool false,.bool false,.bool false] 180).kept hk2))))
 all_goals first
  |(have hbC:Blk w3 w1.heap.size #[.bool false,.slice none 0 0,.slice none 0 0,.bool false,.slice none 0 0,.slice none 0 0,.bool false,.bool false,.bool false] 180:=by with_reducible exact hbB
    have hkb:KeptB w3 (((((((((w3.setCell ⟨w1.heap.size,0,none⟩ (.bool q1)).setCell ⟨w1.heap.size,1,none⟩ (.slice x1 x2 x3)).setCell ⟨w1.heap.size,2,none⟩ (.slice x4 x5 x6)).setCell ⟨w1.heap.size,3,none⟩ (.bool q2)).setCell ⟨w1.heap.size,4,none⟩ (.slice y1 y2 y3)).setCell ⟨w1.heap.size,5,none⟩ (.slice y4 y5 y6)).setCell ⟨w1.heap.size,6,none⟩ (.bool li)).setCell ⟨w1.heap.size,7,none⟩ (.bool hi)).setCell ⟨w1.heap.size,8,none⟩ (.bool false)) w1.heap.size:=st9 ..
    have hB:Blk (((((((((w3.setCell ⟨w1.heap.size,0,none⟩ (.bool q1)).setCell ⟨w1.heap.size,1,none⟩ (.slice x1 x2 x3)).setCell ⟨w1.heap.size,2,none⟩ (.slice x4 x5 x6)).setCell ⟨w1.heap.size,3,none⟩ (.bool q2)).setCell ⟨w1.heap.size,4,none⟩ (.slice y1 y2 y3)).setCell ⟨w1.heap.size,5,none⟩ (.slice y4 y5 y6)).setCell ⟨w1.heap.size,6,none⟩ (.bool li)).setCell ⟨w1.heap.size,7,none⟩ (.bool hi)).setCell ⟨w1.heap.size,8,none⟩ (.bool false)) w1.heap.size #[.bool q1,.slice x1 x2 x3,.slice x4 x5 x6,.bool q2,.slice y1 y2 y3,.slice y4 y5 y6,.bool li,.bool hi,.bool false] 180:=by have h9:=(((((((((hbB.set 0 (.bool q1)).set 1 (.slice x1 x2 x3)).set 2 (.slice x4 x5 x6)).set 3 (.bool q2)).set 4 (.slice y1 y2 y3)).set 5 (.slice y4 y5 y6)).set 6 (.bool li)).set 7 (.bool hi)).set 8 (.bool false));simpa using h9
    exact HREST.out w1.heap.size _ x1 x2 x3 x4 x5 x6 y1 y2 y3 y4 y5 y6 (Kept.but hS3 hkb (Nat.le_refl _)) hB ((hv2.kept hk3).keptB hkb (hbC.noWords rfl)) (hv3.keptB hkb (hbC.noWords rfl)) (Nat.le_refl _))
  |(have hbC:Blk w3 w2.heap.size #[.bool false,.slice none 0 0,.slice none 0 0,.bool false,.slice none 0 0,.slice none 0 0,.bool false,.bool false,.bool false] 180:=by with_reducible exact hbB
    have hkb:KeptB w3 (((((((((w3.setCell ⟨w2.heap.size,0,none⟩ (.bool q1)).setCell ⟨w2.heap.size,1,none⟩ (.slice x1 x2 x3)).setCell ⟨w2.heap.size,2,none⟩ (.slice x4 x5 x6)).setCell ⟨w2.heap.size,3,none⟩ (.bool q2)).setCell ⟨w2.heap.size,4,none⟩ (.slice y1 y2 y3)).setCell ⟨w2.heap.size,5,none⟩ (.slice y4 y5 y6)).setCell ⟨w2.heap.size,6,none⟩ (.bool li)).setCell ⟨w2.heap.size,7,none⟩ (.bool hi)).setCell ⟨w2.heap.size,8,none⟩ (.bool false)) w2.heap.size:=st9 ..
    have hB:Blk (((((((((w3.setCell ⟨w2.heap.size,0,none⟩ (.bool q1)).setCell ⟨w2.heap.size,1,none⟩ (.slice x1 x2 x3)).setCell ⟨w2.heap.size,2,none⟩ (.slice x4 x5 x6)).setCell ⟨w2.heap.size,3,none⟩ (.bool q2)).setCell ⟨w2.heap.size,4,none⟩ (.slice y1 y2 y3)).setCell ⟨w2.heap.size,5,none⟩ (.slice y4 y5 y6)).setCell ⟨w2.heap.size,6,none⟩ (.bool li)).setCell ⟨w2.heap.size,7,none⟩ (.bool hi)).setCell ⟨w2.heap.size,8,none⟩ (.bool false)) w2.heap.size #[.bool q1,.slice x1 x2 x3,.slice x4 x5 x6,.bool q2,.slice y1 y2 y3,.slice y4 y5 y6,.bool li,.bool hi,.bool false] 180:=by have h9:=(((((((((hbB.set 0 (.bool q1)).set 1 (.slice x1 x2 x3)).set 2 (.slice x4 x5 x6)).set 3 (.bool q2)).set 4 (.slice y1 y2 y3)).set 5 (.slice y4 y5 y6)).set 6 (.bool li)).set 7 (.bool hi)).set 8 (.bool false));simpa using h9
    exact HREST.out w2.heap.size _ x1 x2 x3 x4 x5 x6 y1 y2 y3 y4 y5 y6 (Kept.but hS3 hkb hS2.size) hB ((hv2.kept (((Kept.refl w2).alloc _).trans hk3)).keptB hkb (hbC.noWords rfl)) (hv3.keptB hkb (hbC.noWords rfl)) hS2.size)
  |(exact HREST.out w3.heap.size _ x1 x2 x3 x4 x5 x6 y1 y2 y3 y4 y5 y6 (hS3.alloc _) (Blk.new ..) ((hv2.kept hk3).kept ((Kept.refl w3).alloc _)) (hv3.kept ((Kept.refl w3).alloc _)) hS3.size)
def mended:List PanicEntry:=[{v:=.iface 248 (.agg #[.int .i64 1]),recovered:=true}]
set_option maxHeartbeats 1000000 in
set_option maxRecDepth 100000 in
theorem catch_failed(p q:Nat)(w:World)(h1:Blk w p #[.bool false] 4)(h2:Blk w q #[.int .i64 0] 33)(hpq:p≠q):
 CallsD Tryz.prog 183 #[.pointer (some ⟨p,0,none⟩),.pointer (some ⟨q,0,none⟩)] (.panicking failed) w fun e u' w'=>
  e= .returned (.tuple #[])∧u'= .panicking mended∧∃w1,Kept w w1∧w'=(w1.setCell ⟨p,0,none⟩ (.bool false)).setCell ⟨q,0,none⟩ (.int .i64 1):=by
 have hta:∀w:World,(Instr.typeAssert (.iface 248 (.agg #[.int .i64 1])) 20 248 true).run Tryz.prog w= .ok (.tuple #[.agg #[.int .i64 1],.bool true]) w:=fun w=>by kernel_rfl
 have hk:Kept w (w.alloc (.cells #[.int .i64 1] 248)):=(Kept.refl w).alloc _
 have hn:=Blk.new w #[.int .i64 1] 248
 have h1':=h1.kept hk
 have h2':=h2.kept hk
 obtain⟨c1,f1⟩:=h1'.facts1
 obtain⟨c2,f2⟩:=h2'.facts1
 obtain⟨c3,f3⟩:=hn.facts1
 refine callsD_of_wpS Tryz.func183 rfl fun c₀ cs hu=> ?_
 apply wpS_seq
 apply wpS_region
 simp[wpOpsS,go_sem,recoverD,hu,Tryz.ntmps183,Exit.thenS,failed]
 refine wpS_of_wp ?_
 rw[show(#[Value.pointer (some ⟨p,0,none⟩),Value.pointer (some ⟨q,0,none⟩)]++(Array.replicate 13 undef).setIfInBounds 4 (Value.iface 248 (Value.agg #[Value.int IntKind.i64 1])):Array Value)=#[Value.pointer (some ⟨p,0,none⟩),Value.pointer (some ⟨q,0,none⟩),undef,undef,undef,undef,Value.iface 248 (Value.agg #[Value.int IntKind.i64 1]),undef,undef,undef,undef,undef,undef,undef,undef] from rfl]
 go_wp2_with fail
 have hne:w.heap.size≠p:=Nat.ne_of_gt h1.lt
 have hne2:w.heap.size≠q:=Nat.ne_of_gt h2.lt
 generalize w.alloc (.cells #[.int .i64 1] 248)=w1 at*
 generalize w.heap.size=r at*
 clear h1 h2
 go_region
 all_goals exact⟨rfl,.panicking mended,by cases c₀;rfl,.tuple #[],by simp[results,Tryz.results183,go_sem],rfl,rfl,w1.drew,hk.drew,rfl⟩
theorem catch_idle(p q:Nat)(w:World):
 CallsD Tryz.prog 183 #[.pointer (some ⟨p,0,none⟩),.pointer (some ⟨q,0,none⟩)] .returning w fun e u' w'=>e= .returned (.tuple #[])∧u'= .returning∧w=w':=by
 refine callsD_of_wpS Tryz.func183 rfl fun c₀ cs hu=> ?_
 apply wpS_seq
 apply wpS_region
 simp[wpOpsS,go_sem,recoverD,hu,Tryz.ntmps183,Exit.thenS]
 refine wpS_of_wp ?_
 rw[show(#[Value.pointer (some ⟨p,0,none⟩),Value.pointer (some ⟨q,0,none⟩)]++(Array.replicate 13 undef).setIfInBounds 4 Value.nilIface:Array Value)=#[Value.pointer (some ⟨p,0,none⟩),Value.pointer (some ⟨q,0,none⟩),undef,undef,undef,undef,Value.nilIface,undef,undef,undef,undef,undef,undef,undef,undef] from rfl]
 go_wp2_with fail
 cases c₀
 simp_all [bodyPostS,results,Tryz.results183]
end Go.Proofs.YtancebninmoipaaGreatDoor
