/- A part of the proof that ClaimFaces answers true for every input of bulk at most 1048576: conditions: the row's own. -/
import Derived.Test.YtbapfnpbamnmpaaGreatDoorRh
import Derived.Laws.Tables
import Derived.Recover
import Derived.Defers
namespace Go.Proofs.YtbapfnpbamnmpaaGreatDoor
open Go Go.RowKit Go.Dig
open Go.Eng (Kept KW KeptB)
def Sv(w:World)(v:Value)(i:IvD):Prop:=
 ∃a n c a' n' c' b m e b' m' e',v= .agg #[.bool (i.s1&&decide (0<i.N1)),.slice a n c,.slice a' n' c',.bool (i.s2&&decide (0<i.N2)),.slice b m e,.slice b' m' e',.bool i.li,.bool i.hi,.bool i.void]∧
  Fr w (.agg #[.bool (i.s1&&decide (0<i.N1)),.slice a n c,.slice a' n' c']) (i.s1&&decide (0<i.N1)) (rN i.N1 i.D1) (rD i.N1 i.D1)∧
  Fr w (.agg #[.bool (i.s2&&decide (0<i.N2)),.slice b m e,.slice b' m' e']) (i.s2&&decide (0<i.N2)) (rN i.N2 i.D2) (rD i.N2 i.D2)
theorem rD_pos(N D:Nat):0<rD N D:=Nat.div_pos (Nat.le_of_dvd (dn_pos D) (Nat.gcd_dvd_right N (dn D))) (Nat.gcd_pos_of_pos_right _ (dn_pos D))
theorem Blk.newD(w:World)(cs:Array Value)(t:TypeId):Blk (w.alloc (.cells cs t)).drew w.heap.size cs t:=Blk.new w cs t
theorem Fr.shape{w:World}{v:Value}{p:Bool}{n d:Nat}(h:Fr w v p n d):∃a n c a' n' c',v= .agg #[.bool p,.slice a n c,.slice a' n' c']:=by
 obtain⟨x,y,h1,h2,h3⟩:=h
 obtain⟨a,n,c,rfl⟩:=h2.shape
 obtain⟨a',n',c',rfl⟩:=h3.shape
 exact⟨_,_,_,_,_,_,h1⟩
theorem Fr.keptB{w w':World}{v:Value}{p:Bool}{n d b:Nat}(h:Fr w v p n d)(k:KeptB w w' b)(hb:NoWords w b):Fr w' v p n d:=by
 obtain⟨x,y,h1,h2,h3⟩:=h
 exact⟨x,y,h1,h2.keptB k hb,h3.keptB k hb⟩
set_option maxHeartbeats 4000000 in
set_option maxRecDepth 100000 in
theorem iread_ok{w:World}{v:Value}{s1 s2 li hi:Bool}{N1 D1 N2 D2:Nat}(h:Ivl w v ⟨s1,N1,D1,s2,N2,D2,li,hi⟩)(hT:Laid w)(hf:small N1 D1=true∧small N2 D2=true):
 Calls Tryz.prog 237 #[v] w fun e w'=>∃v',e= .returned v'∧Sv w' v' ⟨s1,N1,D1,s2,N2,D2,li,hi⟩∧Kept w w':=by
 obtain⟨a,n,c,a',n',c',b,m,e,b',m',e',rfl,h1,h2⟩:=h
 have hr1:=fun(w':World)(k:Kept w w')=>number_ok (h1.kept k) (hT.kept k) hf.1
 have hr2:=fun(w':World)(k:Kept w w')=>number_ok (h2.kept k) (hT.kept k) hf.2
 generalize hpE:(s1&&decide (0<N1))=q1 at hr1
 generalize hpE2:(s2&&decide (0<N2))=q2 at hr2
 have HPE:=Lib.hid hpE;clear hpE
 have HPE2:=Lib.hid hpE2;clear hpE2
 have hb1:=Blk.new w #[.bool s1,.slice a n c,.slice a' n' c',.bool s2,.slice b m e,.slice b' m' e',.bool li,.bool hi] 39
 have hk1:Kept w (w.alloc (.cells #[.bool s1,.slice a n c,.slice a' n' c',.bool s2,.slice b m e,.slice b' m' e',.bool li,.bool hi] 39)):=(Kept.refl _).alloc _
 have e1:(w.alloc (.cells #[.bool s1,.slice a n c,.slice a' n' c',.bool s2,.slice b m e,.slice b' m' e',.bool li,.bool hi] 39)).heap.size=w.heap.size+1:=by simp[go_sem]
 have hb2:=Blk.new (w.alloc (.cells #[.bool s1,.slice a n c,.slice a' n' c',.bool s2,.slice b m e,.slice b' m' e',.bool li,.bool hi] 39)) #[.bool false,.slice none 0 0,.slice none 0 0,.bool false,.slice none 0 0,.slice none 0 0,.bool false,.bool false,.bool false] 302
 have hk2:Kept (w.alloc (.cells #[.bool s1,.slice a n c,.slice a' n' c',.bool s2,.slice b m e,.slice b' m' e',.bool li,.bool hi] 39)) ((w.alloc (.cells #[.bool s1,.slice a n c,.slice a' n' c',.bool s2,.slice b m e,.slice b' m' e',.bool li,.bool hi] 39)).alloc (.cells #[.bool false,.slice none 0 0,.slice none 0 0,.bool false,.slice none 0 0,.slice none 0 0,.bool false,.bool false,.bool false] 302)):=(Kept.refl _).alloc _
 rw[e1] at hb2
 have hb1:=hb1.kept hk2
 have hk:=hk1.trans hk2
 clear hk1 hk2 e1 h1 h2
 go_enter Tryz.func237,Tryz.ntmps237
 go_wp2_with fail
 rename_i Q' K hK
 generalize ((w.alloc (.cells #[.bool s1,.slice a n c,.slice a' n' c',.bool s2,.slice b m e,.slice b' m' e',.bool li,.bool hi] 39)).alloc (.cells #[.bool false,.slice none 0 0,.slice none 0 0,.bool false,.slice none 0 0,.slice none 0 0,.bool false,.bool false,.bool false] 302))=w1 at*
 generalize hbE:w.heap.size=b0 at hb1 hb2⊢
 have HBE:=Lib.hid hbE;clear hbE
 obtain⟨p0,p1,p2,p3,p4,p5,p6,p7,_⟩:=hb1.facts8
 have hall:∀w',Kept w1 w'→Kept w1 w'∧w'.cell? ⟨b0,0,none⟩=some (.bool s1)∧w'.cell? ⟨b0,1,none⟩=some (.slice a n c)∧w'.cell? ⟨b0,2,none⟩=some (.slice a' n' c')∧w'.cell? ⟨b0,3,none⟩=some (.bool s2)∧w'.cell? ⟨b0,4,none⟩=some (.slice b m e)∧w'.cell? ⟨b0,5,none⟩=some (.slice b' m' e')∧w'.cell? ⟨b0,6,none⟩=some (.bool li)∧w'.cell? ⟨b0,7,none⟩=some (.bool hi):=
  fun w' k=>⟨k,k.cell p0,k.cell p1,k.cell p2,k.cell p3,k.cell p4,k.cell p5,k.cell p6,k.cell p7⟩
 have HALL:=Lib.hid hall;clear hall
 have hrest:∀(bt:Nat)(W:World)(x1:Option Addr)(x2 x3:Nat)(x4:Option Addr)(x5 x6:Nat)(y1:Option Addr)(y2 y3:Nat)(y4:Option Addr)(y5 y6:Nat),Kept w1 W→Blk W bt #[.bool q1,.slice x1 x2 x3,.slice x4 x5 x6,.bool q2,.slice y1 y2 y3,.slice y4 y5 y6,.bool li,.bool hi,.bool false] 302→Fr W (.agg #[.bool q1,.slice x1 x2 x3,.slice x4 x5 x6]) q1 (rN N1 D1) (rD N1 D1)→Fr W (.agg #[.bool q2,.slice y1 y2 y3,.slice y4 y5 y6]) q2 (rN N2 D2) (rD N2 D2)→w1.heap.size≤bt→Exit.then K Q' Exit.normal {tmps:=#[Value.agg #[.bool s1,.slice a n c,.slice a' n' c',.bool s2,.slice b m e,.slice b' m' e',.bool li,.bool hi],Value.pointer (some ⟨b0,0,none⟩),Value.pointer (some ⟨b0+1,0,none⟩),Value.pointer (some ⟨bt,0,none⟩),Value.pointer (some ⟨b0,0,none⟩),Value.agg #[.bool s1,.slice a n c,.slice a' n' c'],Value.agg #[.bool q1,.slice x1 x2 x3,.slice x4 x5 x6],Value.pointer (some ⟨b0,3,none⟩),Value.agg #[.bool s2,.slice b m e,.slice b' m' e'],Value.agg #[.bool q2,.slice y1 y2 y3,.slice y4 y5 y6],Value.pointer (some ⟨b0,6,none⟩),Value.bool li,Value.pointer (some ⟨b0,7,none⟩),Value.bool hi,Value.agg #[.bool q1,.slice x1 x2 x3,.slice x4 x5 x6,.bool q2,.slice y1 y2 y3,.slice y4 y5 y6,.bool li,.bool hi,.bool false],undef,undef,undef,undef,undef,undef,undef,undef,undef,undef,undef,undef,undef,undef,undef,undef,undef,undef],defers:=[]} W:=by
  intro bt W x1 x2 x3 x4 x5 x6 y1 y2 y3 y4 y5 y6 hKW hB hF2 hF3 hbt
  have HNE:Hid (bt≠b0+1):=Lib.hid (by have:=hb2.lt;omega)
  have hne:=HNE.out
  have hne2:b0+1≠bt:=fun h=>hne h.symm
  have HBW:Hid (w.heap.size≤bt):=Lib.hid (Nat.le_trans hk.size hbt)
  have hb2:=hb2.kept hKW
  have hkW:=hk.trans hKW
  clear hr1 hr2 HALL p0 p1 p2 p3 p4 p5 p6 p7 hbt hKW hk hb1
  obtain⟨d0,d1,d2,d3,d4,d5,d6,d7,d8,f0,f1,f2,f3,f4,f5,f6,f7,f8⟩:=hB.facts9
  obtain⟨k0,k1,k2,k3,k4,k5,k6,k7,k8,j0,j1,j2,j3,j4,j5,j6,j7,j8⟩:=hb2.facts9
  cases li
  ·cases hi
   ·obtain⟨g1,g2,g3,g4,g5,g6⟩:=small_bounds hf.1
    obtain⟨g7,g8,g9,g10,g11,g12⟩:=small_bounds hf.2
    have hvd:(IvD.void ⟨s1,N1,D1,s2,N2,D2,false,false⟩)=decide (0<fcmp q1 (rN N1 D1) (rD N1 D1) q2 (rN N2 D2) (rD N2 D2)):=by
     unfold IvD.void
     simp only[HPE.out,HPE2.out]
     rw[fcmp_qcmp _ _ _ _ _ _ (rD_pos N1 D1) (rD_pos N2 D2)]
     rfl
    have hfc:=fcmp_calls hF2 hF3 (sm_big g3) (sm_big g4) (sm_big g9) (sm_big g10) (mid_big (p14_mid (sm_mul g3 g10)))
    generalize fcmp q1 (rN N1 D1) (rD N1 D1) q2 (rN N2 D2) (rD N2 D2)=cc at*
    have HVD0:=Lib.hid hvd
    clear hvd g1 g2 g3 g4 g5 g6 g7 g8 g9 g10 g11 g12 d0 d1 d2 d3 d4 d5 d6 d7 d8 f0 f1 f2 f3 f4 f5 f6 f7 f8 k0 k1 k2 k3 k4 k5 k6 k7 k8 j0 j1 j2 j3 j4 j5 j6 j7 j8
    obtain⟨d0,d1,d2,d3,d4,d5,d6,d7,d8,_⟩:=hB.facts9
    go_wp2_with fail
    refine hfc.mono ?_
    rintro _ W2 ⟨rfl,hk2⟩
    clear d0 d1 d2 d3 d4 d5 d6 d7 d8
    have hB:=hB.kept hk2
    have hb2:=hb2.kept hk2
    have hF2:=hF2.kept hk2
    have hF3:=hF3.kept hk2
    have hkW:=hkW.trans hk2
    obtain⟨d0,d1,d2,d3,d4,d5,d6,d7,d8,f0,f1,f2,f3,f4,f5,f6,f7,f8⟩:=hB.facts9
    obtain⟨k0,k1,k2,k3,k4,k5,k6,k7,k8,j0,j1,j2,j3,j4,j5,j6,j7,j8⟩:=hb2.facts9
    generalize hVE:decide (0<cc)=vd at*
    have HVD:Hid ((IvD.void ⟨s1,N1,D1,s2,N2,D2,false,false⟩)=vd):=HVD0
    go_wp2
    have hkb:=st1 W2 bt 8 (.bool vd)
    have hF2b:=hF2.keptB hkb (hB.noWords rfl)
    have hF3b:=hF3.keptB hkb (hB.noWords rfl)
    have hb2b:=hb2.keptB hkb (fun h=>HNE.out h.symm)
    have hkWb:=hkW.but hkb HBW.out
    refine bodyPost_ret (v:=.agg #[.bool q1,.slice x1 x2 x3,.slice x4 x5 x6,.bool q2,.slice y1 y2 y3,.slice y4 y5 y6,.bool false,.bool false,.bool vd]) (by simp[results,Tryz.results237,go_sem,k0,k1,k2,k3,k4,k5,k6,k7,k8]) rfl ⟨_,rfl,?_,hkWb.but (st9 _ (b0+1) ..) (by have:=HBE.out;omega)⟩
    refine⟨x1,x2,x3,x4,x5,x6,y1,y2,y3,y4,y5,y6,?_,?_,?_⟩
    ·show Value.agg #[.bool q1,.slice x1 x2 x3,.slice x4 x5 x6,.bool q2,.slice y1 y2 y3,.slice y4 y5 y6,.bool false,.bool false,.bool vd]=Value.agg #[.bool (s1&&decide (0<N1)),.slice x1 x2 x3,.slice x4 x5 x6,.bool (s2&&decide (0<N2)),.slice y1 y2 y3,.slice y4 y5 y6,.bool false,.bool false,.bool (IvD.void ⟨s1,N1,D1,s2,N2,D2,false,false⟩)]
     rw[HPE.out,HPE2.out,HVD.out]
    ·show Fr _ (.agg #[.bool (s1&&decide (0<N1)),.slice x1 x2 x3,.slice x4 x5 x6]) (s1&&decide (0<N1)) (rN N1 D1) (rD N1 D1)
     rw[HPE.out];exact hF2b.keptB (st9 ..) (hb2b.noWords rfl)
    ·show Fr _ (.agg #[.bool (s2&&decide (0<N2)),.slice y1 y2 y3,.slice y4 y5 y6]) (s2&&decide (0<N2)) (rN N2 D2) (rD N2 D2)
     rw[HPE2.out];exact hF3b.keptB (st9 ..) (hb2b.noWords rfl)
   ·have HVD:Hid ((IvD.void ⟨s1,N1,D1,s2,N2,D2,false,true⟩)=false):=Lib.hid (by simp[IvD.void])
    go_wp2
    have hkb:=st1 W bt 8 (.bool false)
    have hF2b:=hF2.keptB hkb (hB.noWords rfl)
    have hF3b:=hF3.keptB hkb (hB.noWords rfl)
    have hb2b:=hb2.keptB hkb (fun h=>HNE.out h.symm)
    have hkWb:=hkW.but hkb HBW.out
    refine bodyPost_ret (v:=.agg #[.bool q1,.slice x1 x2 x3,.slice x4 x5 x6,.bool q2,.slice y1 y2 y3,.slice y4 y5 y6,.bool false,.bool true,.bool false]) (by simp[results,Tryz.results237,go_sem,k0,k1,k2,k3,k4,k5,k6,k7,k8]) rfl ⟨_,rfl,?_,hkWb.but (st9 _ (b0+1) ..) (by have:=HBE.out;omega)⟩
    refine⟨x1,x2,x3,x4,x5,x6,y1,y2,y3,y4,y5,y6,?_,?_,?_⟩
    ·show Value.agg #[.bool q1,.slice x1 x2 x3,.slice x4 x5 x6,.bool q2,.slice y1 y2 y3,.slice y4 y5 y6,.bool false,.bool true,.bool false]=Value.agg #[.bool (s1&&decide (0<N1)),.slice x1 x2 x3,.slice x4 x5 x6,.bool (s2&&decide (0<N2)),.slice y1 y2 y3,.slice y4 y5 y6,.bool false,.bool true,.bool (IvD.void ⟨s1,N1,D1,s2,N2,D2,false,true⟩)]
     rw[HPE.out,HPE2.out,HVD.out]
    ·show Fr _ (.agg #[.bool (s1&&decide (0<N1)),.slice x1 x2 x3,.slice x4 x5 x6]) (s1&&decide (0<N1)) (rN N1 D1) (rD N1 D1)
     rw[HPE.out];exact hF2b.keptB (st9 ..) (hb2b.noWords rfl)
    ·show Fr _ (.agg #[.bool (s2&&decide (0<N2)),.slice y1 y2 y3,.slice y4 y5 y6]) (s2&&decide (0<N2)) (rN N2 D2) (rD N2 D2)
     rw[HPE2.out];exact hF3b.keptB (st9 ..) (hb2b.noWords rfl)
  ·cases hi
   ·have HVD:Hid ((IvD.void ⟨s1,N1,D1,s2,N2,D2,true,false⟩)=false):=Lib.hid (by simp[IvD.void])
    go_wp2
    have hkb:=st1 W bt 8 (.bool false)
    have hF2b:=hF2.keptB hkb (hB.noWords rfl)
    have hF3b:=hF3.keptB hkb (hB.noWords rfl)
    have hb2b:=hb2.keptB hkb (fun h=>HNE.out h.symm)
    have hkWb:=hkW.but hkb HBW.out
    refine bodyPost_ret (v:=.agg #[.bool q1,.slice x1 x2 x3,.slice x4 x5 x6,.bool q2,.slice y1 y2 y3,.slice y4 y5 y6,.bool true,.bool false,.bool false]) (by simp[results,Tryz.results237,go_sem,k0,k1,k2,k3,k4,k5,k6,k7,k8]) rfl ⟨_,rfl,?_,hkWb.but (st9 _ (b0+1) ..) (by have:=HBE.out;omega)⟩
    refine⟨x1,x2,x3,x4,x5,x6,y1,y2,y3,y4,y5,y6,?_,?_,?_⟩
    ·show Value.agg #[.bool q1,.slice x1 x2 x3,.slice x4 x5 x6,.bool q2,.slice y1 y2 y3,.slice y4 y5 y6,.bool true,.bool false,.bool false]=Value.agg #[.bool (s1&&decide (0<N1)),.slice x1 x2 x3,.slice x4 x5 x6,.bool (s2&&decide (0<N2)),.slice y1 y2 y3,.slice y4 y5 y6,.bool true,.bool false,.bool (IvD.void ⟨s1,N1,D1,s2,N2,D2,true,false⟩)]
     rw[HPE.out,HPE2.out,HVD.out]
    ·show Fr _ (.agg #[.bool (s1&&decide (0<N1)),.slice x1 x2 x3,.slice x4 x5 x6]) (s1&&decide (0<N1)) (rN N1 D1) (rD N1 D1)
     rw[HPE.out];exact hF2b.keptB (st9 ..) (hb2b.noWords rfl)
    ·show Fr _ (.agg #[.bool (s2&&decide (0<N2)),.slice y1 y2 y3,.slice y4 y5 y6]) (s2&&decide (0<N2)) (rN N2 D2) (rD N2 D2)
     rw[HPE2.out];exact hF3b.keptB (st9 ..) (hb2b.noWords rfl)
   ·have HVD:Hid ((IvD.void ⟨s1,N1,D1,s2,N2,D2,true,true⟩)=false):=Lib.hid (by simp[IvD.void])
    go_wp2
    have hkb:=st1 W bt 8 (.bool false)
    have hF2b:=hF2.keptB hkb (hB.noWords rfl)
    have hF3b:=hF3.keptB hkb (hB.noWords rfl)
    have hb2b:=hb2.keptB hkb (fun h=>HNE.out h.symm)
    have hkWb:=hkW.but hkb HBW.out
    refine bodyPost_ret (v:=.agg #[.bool q1,.slice x1 x2 x3,.slice x4 x5 x6,.bool q2,.slice y1 y2 y3,.slice y4 y5 y6,.bool true,.bool true,.bool false]) (by simp[results,Tryz.results237,go_sem,k0,k1,k2,k3,k4,k5,k6,k7,k8]) rfl ⟨_,rfl,?_,hkWb.but (st9 _ (b0+1) ..) (by have:=HBE.out;omega)⟩
    refine⟨x1,x2,x3,x4,x5,x6,y1,y2,y3,y4,y5,y6,?_,?_,?_⟩
    ·show Value.agg #[.bool q1,.slice x1 x2 x3,.slice x4 x5 x6,.bool q2,.slice y1 y2 y3,.slice y4 y5 y6,.bool true,.bool true,.bool false]=Value.agg #[.bool (s1&&decide (0<N1)),.slice x1 x2 x3,.slice x4 x5 x6,.bool (s2&&decide (0<N2)),.slice y1 y2 y3,.slice y4 y5 y6,.bool true,.bool true,.bool (IvD.void ⟨s1,N1,D1,s2,N2,D2,true,true⟩)]
     rw[HPE.out,HPE2.out,HVD.out]
    ·show Fr _ (.agg #[.bool (s1&&decide (0<N1)),.slice x1 x2 x3,.slice x4 x5 x6]) (s1&&decide (0<N1)) (rN N1 D1) (rD N1 D1)
     rw[HPE.out];exact hF2b.keptB (st9 ..) (hb2b.noWords rfl)
    ·show Fr _ (.agg #[.bool (s2&&decide (0<N2)),.slice y1 y2 y3,.slice y4 y5 y6]) (s2&&decide (0<N2)) (rN N2 D2) (rD N2 D2)
     rw[HPE2.out];exact hF3b.keptB (st9 ..) (hb2b.noWords rfl)
 have HREST:=Lib.hid hrest
 clear hrest hK
 go_region_held3 (fun w'=>Kept w1 w'∧w'.cell? ⟨b0,0,none⟩=some (.bool s1)∧w'.cell? ⟨b0,1,none⟩=some (.slice a n c)∧w'.cell? ⟨b0,2,none⟩=some (.slice a' n' c')∧w'.cell? ⟨b0,3,none⟩=some (.bool s2)∧w'.cell? ⟨b0,4,none⟩=some (.slice b m e)∧w'.cell? ⟨b0,5,none⟩=some (.slice b' m' e')∧w'.cell? ⟨b0,6,none⟩=some (.bool li)∧w'.cell? ⟨b0,7,none⟩=some (.bool hi))
  (first|(have hg:=hS3;refine HALL.out _ ?_;first|with_reducible exact hS3|with_reducible exact Kept.alloc hS3 _|with_reducible exact Kept.but hS3 (st9 _ _ _ _ _ _ _ _ _ _ _) (Nat.le_refl _)|with_reducible exact Kept.but hS3 (st9 _ _ _ _ _ _ _ _ _ _ _) hS2.size)|(have hg:=hS2;refine HALL.out _ ?_;first|with_reducible exact hS2|with_reducible exact Kept.alloc hS2 _)|(refine HALL.out _ ?_;first|with_reducible exact(Kept.refl w1).drew|with_reducible exact((Kept.refl w1).alloc _).drew))
  (first|(have hg:=hS2;go_at_call 319;refine(hr2 _ (hk.trans (by first|with_reducible exact hS2|with_reducible exact hS2.alloc _))).mono ?_;rintro e w3 ⟨v3,rfl,hv3,hk3⟩;obtain⟨y1,y2,y3,y4,y5,y6,rfl⟩:=hv3.shape;have hS3:Kept w1 w3:=(by first|with_reducible exact hS2.trans hk3|with_reducible exact(hS2.alloc _).trans hk3);first|(have hbB:Blk w3 w1.heap.size #[.bool false,.slice none 0 0,.slice none 0 0,.bool false,.slice none 0 0,.slice none 0 0,.bool false,.bool false,.bool false] 302:=(by with_reducible exact Blk.kept hbA hk3);obtain⟨k0,k1,k2,k3,k4,k5,k6,k7,k8,j0,j1,j2,j3,j4,j5,j6,j7,j8⟩:=hbB.facts9)|(have hbB:Blk w3 w2.heap.size #[.bool false,.slice none 0 0,.slice none 0 0,.bool false,.slice none 0 0,.slice none 0 0,.bool false,.bool false,.bool false] 302:=(by with_reducible exact(Blk.new w2 #[.bool false,.slice none 0 0,.slice none 0 0,.bool false,.slice none 0 0,.slice none 0 0,.bool false,.bool false,.bool false] 302).kept hk3);obtain⟨k0,k1,k2,k3,k4,k5,k6,k7,k8,j0,j1,j2,j3,j4,j5,j6,j7,j8⟩:=hbB.facts9)|skip)|(go_at_call 319;refine(hr1 _ (hk.trans (by first|with_reducible exact(Kept.refl w1).drew|with_reducible exact((Kept.refl w1).alloc _).drew))).mono ?_;rintro e w2 ⟨v2,rfl,hv2,hk2⟩;obtain⟨x1,x2,x3,x4,x5,x6,rfl⟩:=hv2.shape;have hS2:Kept w1 w2:=(by first|with_reducible exact(Kept.refl w1).drew.trans hk2|with_reducible exact(((Kept.refl w1).alloc _).drew).trans hk2);try (have hbA:Blk w2 w1.heap.size #[.bool false,.slice none 0 0,.slice none 0 0,.bool false,.slice none 0 0,.slice none 0 0,.bool false,.bool false,.bool false] 302:=(by with_reducible exact(Blk.newD w1 #[.bool false,.slice none 0 0,.slice none 0 0,.bool false,.slice none 0 0,.slice none 0 0,.bool false,.bool false,.bool false] 302).kept hk2))))
 all_goals first
  |(have hbC:Blk w3 w1.heap.size #[.bool false,.slice none 0 0,.slice none 0 0,.bool false,.slice none 0 0,.slice none 0 0,.bool false,.bool false,.bool false] 302:=by with_reducible exact hbB
    have hkb:KeptB w3 (((((((((w3.setCell ⟨w1.heap.size,0,none⟩ (.bool q1)).setCell ⟨w1.heap.size,1,none⟩ (.slice x1 x2 x3)).setCell ⟨w1.heap.size,2,none⟩ (.slice x4 x5 x6)).setCell ⟨w1.heap.size,3,none⟩ (.bool q2)).setCell ⟨w1.heap.size,4,none⟩ (.slice y1 y2 y3)).setCell ⟨w1.heap.size,5,none⟩ (.slice y4 y5 y6)).setCell ⟨w1.heap.size,6,none⟩ (.bool li)).setCell ⟨w1.heap.size,7,none⟩ (.bool hi)).setCell ⟨w1.heap.size,8,none⟩ (.bool false)) w1.heap.size:=st9 ..
    have hB:Blk (((((((((w3.setCell ⟨w1.heap.size,0,none⟩ (.bool q1)).setCell ⟨w1.heap.size,1,none⟩ (.slice x1 x2 x3)).setCell ⟨w1.heap.size,2,none⟩ (.slice x4 x5 x6)).setCell ⟨w1.heap.size,3,none⟩ (.bool q2)).setCell ⟨w1.heap.size,4,none⟩ (.slice y1 y2 y3)).setCell ⟨w1.heap.size,5,none⟩ (.slice y4 y5 y6)).setCell ⟨w1.heap.size,6,none⟩ (.bool li)).setCell ⟨w1.heap.size,7,none⟩ (.bool hi)).setCell ⟨w1.heap.size,8,none⟩ (.bool false)) w1.heap.size #[.bool q1,.slice x1 x2 x3,.slice x4 x5 x6,.bool q2,.slice y1 y2 y3,.slice y4 y5 y6,.bool li,.bool hi,.bool false] 302:=by have h9:=(((((((((hbB.set 0 (.bool q1)).set 1 (.slice x1 x2 x3)).set 2 (.slice x4 x5 x6)).set 3 (.bool q2)).set 4 (.slice y1 y2 y3)).set 5 (.slice y4 y5 y6)).set 6 (.bool li)).set 7 (.bool hi)).set 8 (.bool false));simpa using h9
    exact HREST.out w1.heap.size _ x1 x2 x3 x4 x5 x6 y1 y2 y3 y4 y5 y6 (Kept.but hS3 hkb (Nat.le_refl _)) hB ((hv2.kept hk3).keptB hkb (hbC.noWords rfl)) (hv3.keptB hkb (hbC.noWords rfl)) (Nat.le_refl _))
  |(have hbC:Blk w3 w2.heap.size #[.bool false,.slice none 0 0,.slice none 0 0,.bool false,.slice none 0 0,.slice none 0 0,.bool false,.bool false,.bool false] 302:=by with_reducible exact hbB
    have hkb:KeptB w3 (((((((((w3.setCell ⟨w2.heap.size,0,none⟩ (.bool q1)).setCell ⟨w2.heap.size,1,none⟩ (.slice x1 x2 x3)).setCell ⟨w2.heap.size,2,none⟩ (.slice x4 x5 x6)).setCell ⟨w2.heap.size,3,none⟩ (.bool q2)).setCell ⟨w2.heap.size,4,none⟩ (.slice y1 y2 y3)).setCell ⟨w2.heap.size,5,none⟩ (.slice y4 y5 y6)).setCell ⟨w2.heap.size,6,none⟩ (.bool li)).setCell ⟨w2.heap.size,7,none⟩ (.bool hi)).setCell ⟨w2.heap.size,8,none⟩ (.bool false)) w2.heap.size:=st9 ..
    have hB:Blk (((((((((w3.setCell ⟨w2.heap.size,0,none⟩ (.bool q1)).setCell ⟨w2.heap.size,1,none⟩ (.slice x1 x2 x3)).setCell ⟨w2.heap.size,2,none⟩ (.slice x4 x5 x6)).setCell ⟨w2.heap.size,3,none⟩ (.bool q2)).setCell ⟨w2.heap.size,4,none⟩ (.slice y1 y2 y3)).setCell ⟨w2.heap.size,5,none⟩ (.slice y4 y5 y6)).setCell ⟨w2.heap.size,6,none⟩ (.bool li)).setCell ⟨w2.heap.size,7,none⟩ (.bool hi)).setCell ⟨w2.heap.size,8,none⟩ (.bool false)) w2.heap.size #[.bool q1,.slice x1 x2 x3,.slice x4 x5 x6,.bool q2,.slice y1 y2 y3,.slice y4 y5 y6,.bool li,.bool hi,.bool false] 302:=by have h9:=(((((((((hbB.set 0 (.bool q1)).set 1 (.slice x1 x2 x3)).set 2 (.slice x4 x5 x6)).set 3 (.bool q2)).set 4 (.slice y1 y2 y3)).set 5 (.slice y4 y5 y6)).set 6 (.bool li)).set 7 (.bool hi)).set 8 (.bool false));simpa using h9
    exact HREST.out w2.heap.size _ x1 x2 x3 x4 x5 x6 y1 y2 y3 y4 y5 y6 (Kept.but hS3 hkb hS2.size) hB ((hv2.kept (((Kept.refl w2).alloc _).trans hk3)).keptB hkb (hbC.noWords rfl)) (hv3.keptB hkb (hbC.noWords rfl)) hS2.size)
  |(exact HREST.out w3.heap.size _ x1 x2 x3 x4 x5 x6 y1 y2 y3 y4 y5 y6 (hS3.alloc _) (Blk.new ..) ((hv2.kept hk3).kept ((Kept.refl w3).alloc _)) (hv3.kept ((Kept.refl w3).alloc _)) hS3.size)
def mended:List PanicEntry:=[{v:=.iface 355 (.agg #[.int .i64 1]),recovered:=true}]
set_option maxHeartbeats 1000000 in
set_option maxRecDepth 100000 in
theorem catch_failed(p q:Nat)(w:World)(h1:Blk w p #[.bool false] 4)(h2:Blk w q #[.int .i64 0] 32)(hpq:p≠q):
 CallsD Tryz.prog 318 #[.pointer (some ⟨p,0,none⟩),.pointer (some ⟨q,0,none⟩)] (.panicking failed) w fun e u' w'=>
  e= .returned (.tuple #[])∧u'= .panicking mended∧∃w1,Kept w w1∧w'=(w1.setCell ⟨p,0,none⟩ (.bool false)).setCell ⟨q,0,none⟩ (.int .i64 1):=by
 have hta:∀w:World,(Instr.typeAssert (.iface 355 (.agg #[.int .i64 1])) 20 355 true).run Tryz.prog w= .ok (.tuple #[.agg #[.int .i64 1],.bool true]) w:=fun w=>by kernel_rfl
 have hk:Kept w (w.alloc (.cells #[.int .i64 1] 355)):=(Kept.refl w).alloc _
 have hn:=Blk.new w #[.int .i64 1] 355
 have h1':=h1.kept hk
 have h2':=h2.kept hk
 obtain⟨c1,f1⟩:=h1'.facts1
 obtain⟨c2,f2⟩:=h2'.facts1
 obtain⟨c3,f3⟩:=hn.facts1
 refine callsD_of_wpS Tryz.func318 rfl fun c₀ cs hu=> ?_
 apply wpS_seq
 apply wpS_region
 simp[wpOpsS,go_sem,recoverD,hu,Tryz.ntmps318,Exit.thenS,failed]
 refine wpS_of_wp ?_
 rw[show(#[Value.pointer (some ⟨p,0,none⟩),Value.pointer (some ⟨q,0,none⟩)]++(Array.replicate 13 undef).setIfInBounds 4 (Value.iface 355 (Value.agg #[Value.int IntKind.i64 1])):Array Value)=#[Value.pointer (some ⟨p,0,none⟩),Value.pointer (some ⟨q,0,none⟩),undef,undef,undef,undef,Value.iface 355 (Value.agg #[Value.int IntKind.i64 1]),undef,undef,undef,undef,undef,undef,undef,undef] from rfl]
 go_wp2_with fail
 have hne:w.heap.size≠p:=Nat.ne_of_gt h1.lt
 have hne2:w.heap.size≠q:=Nat.ne_of_gt h2.lt
 generalize w.alloc (.cells #[.int .i64 1] 355)=w1 at*
 generalize w.heap.size=r at*
 clear h1 h2
 go_region
 all_goals exact⟨rfl,.panicking mended,by cases c₀;rfl,.tuple #[],by simp[results,Tryz.results318,go_sem],rfl,rfl,w1.drew,hk.drew,rfl⟩
theorem catch_idle(p q:Nat)(w:World):
 CallsD Tryz.prog 318 #[.pointer (some ⟨p,0,none⟩),.pointer (some ⟨q,0,none⟩)] .returning w fun e u' w'=>e= .returned (.tuple #[])∧u'= .returning∧w=w':=by
 refine callsD_of_wpS Tryz.func318 rfl fun c₀ cs hu=> ?_
 apply wpS_seq
 apply wpS_region
 simp[wpOpsS,go_sem,recoverD,hu,Tryz.ntmps318,Exit.thenS]
 refine wpS_of_wp ?_
 rw[show(#[Value.pointer (some ⟨p,0,none⟩),Value.pointer (some ⟨q,0,none⟩)]++(Array.replicate 13 undef).setIfInBounds 4 Value.nilIface:Array Value)=#[Value.pointer (some ⟨p,0,none⟩),Value.pointer (some ⟨q,0,none⟩),undef,undef,undef,undef,Value.nilIface,undef,undef,undef,undef,undef,undef,undef,undef] from rfl]
 go_wp2_with fail
 cases c₀
 simp_all [bodyPostS,results,Tryz.results318]
theorem number_weak{w:World}{v:Value}{neg:Bool}{N D:Nat}(h:Rt w v neg N D)(hT:Laid w)(hs:small N D=false):
 Calls Tryz.prog 319 #[v] w fun e w'=>(e= .panicked failed∧Kept w w')∨(e= .returned (.agg #[.bool false,.slice none 0 0,.slice none 0 0])∧Kept w w'∧Hid False):=
 (number_big h hT hs).mono fun _ _ h=>.inl h
set_option maxHeartbeats 4000000 in
set_option maxRecDepth 100000 in
theorem iread_big1{w:World}{v:Value}{s1 s2 li hi:Bool}{N1 D1 N2 D2:Nat}(h:Ivl w v ⟨s1,N1,D1,s2,N2,D2,li,hi⟩)(hT:Laid w)(hf:small N1 D1=false):
 Calls Tryz.prog 237 #[v] w fun e w'=>e= .panicked failed∧Kept w w':=by
 obtain⟨a,n,c,a',n',c',b,m,e,b',m',e',rfl,h1,h2⟩:=h
 have hr1:=fun(w':World)(k:Kept w w')=>number_weak (h1.kept k) (hT.kept k) hf
 have hb1:=Blk.new w #[.bool s1,.slice a n c,.slice a' n' c',.bool s2,.slice b m e,.slice b' m' e',.bool li,.bool hi] 39
 have hk1:Kept w (w.alloc (.cells #[.bool s1,.slice a n c,.slice a' n' c',.bool s2,.slice b m e,.slice b' m' e',.bool li,.bool hi] 39)):=(Kept.refl _).alloc _
 have e1:(w.alloc (.cells #[.bool s1,.slice a n c,.slice a' n' c',.bool s2,.slice b m e,.slice b' m' e',.bool li,.bool hi] 39)).heap.size=w.heap.size+1:=by simp[go_sem]
 have hb2:=Blk.new (w.alloc (.cells #[.bool s1,.slice a n c,.slice a' n' c',.bool s2,.slice b m e,.slice b' m' e',.bool li,.bool hi] 39)) #[.bool false,.slice none 0 0,.slice none 0 0,.bool false,.slice none 0 0,.slice none 0 0,.bool false,.bool false,.bool false] 302
 have hk2:Kept (w.alloc (.cells #[.bool s1,.slice a n c,.slice a' n' c',.bool s2,.slice b m e,.slice b' m' e',.bool li,.bool hi] 39)) ((w.alloc (.cells #[.bool s1,.slice a n c,.slice a' n' c',.bool s2,.slice b m e,.slice b' m' e',.bool li,.bool hi] 39)).alloc (.cells #[.bool false,.slice none 0 0,.slice none 0 0,.bool false,.slice none 0 0,.slice none 0 0,.bool false,.bool false,.bool false] 302)):=(Kept.refl _).alloc _
 rw[e1] at hb2
 have hb1:=hb1.kept hk2
 have hk:=hk1.trans hk2
 clear hk1 hk2 e1 h1 h2
 go_enter Tryz.func237,Tryz.ntmps237
 go_wp2_with fail
 generalize ((w.alloc (.cells #[.bool s1,.slice a n c,.slice a' n' c',.bool s2,.slice b m e,.slice b' m' e',.bool li,.bool hi] 39)).alloc (.cells #[.bool false,.slice none 0 0,.slice none 0 0,.bool false,.slice none 0 0,.slice none 0 0,.bool false,.bool false,.bool false] 302))=w1 at*
 generalize hbE:w.heap.size=b0 at hb1 hb2⊢
 have HBE:=Lib.hid hbE;clear hbE
 obtain⟨p0,p1,p2,p3,p4,p5,p6,p7,_⟩:=hb1.facts8
 have hall:∀w',Kept w1 w'→Kept w1 w'∧w'.cell? ⟨b0,0,none⟩=some (.bool s1)∧w'.cell? ⟨b0,1,none⟩=some (.slice a n c)∧w'.cell? ⟨b0,2,none⟩=some (.slice a' n' c')∧w'.cell? ⟨b0,3,none⟩=some (.bool s2)∧w'.cell? ⟨b0,4,none⟩=some (.slice b m e)∧w'.cell? ⟨b0,5,none⟩=some (.slice b' m' e')∧w'.cell? ⟨b0,6,none⟩=some (.bool li)∧w'.cell? ⟨b0,7,none⟩=some (.bool hi):=
  fun w' k=>⟨k,k.cell p0,k.cell p1,k.cell p2,k.cell p3,k.cell p4,k.cell p5,k.cell p6,k.cell p7⟩
 have HALL:=Lib.hid hall;clear hall
 go_region_held (fun w'=>Kept w1 w'∧w'.cell? ⟨b0,0,none⟩=some (.bool s1)∧w'.cell? ⟨b0,1,none⟩=some (.slice a n c)∧w'.cell? ⟨b0,2,none⟩=some (.slice a' n' c')∧w'.cell? ⟨b0,3,none⟩=some (.bool s2)∧w'.cell? ⟨b0,4,none⟩=some (.slice b m e)∧w'.cell? ⟨b0,5,none⟩=some (.slice b' m' e')∧w'.cell? ⟨b0,6,none⟩=some (.bool li)∧w'.cell? ⟨b0,7,none⟩=some (.bool hi))
  (first|(have hg:=hF;exact hF.out.elim)|(have hg:=hS3;refine HALL.out _ ?_;first|with_reducible exact hS3|with_reducible exact Kept.alloc hS3 _|with_reducible exact Kept.but hS3 (st9 _ _ _ _ _ _ _ _ _ _ _) (Nat.le_refl _)|with_reducible exact Kept.but hS3 (st9 _ _ _ _ _ _ _ _ _ _ _) hS2.size)|(have hg:=hS2;refine HALL.out _ ?_;first|with_reducible exact hS2|with_reducible exact Kept.alloc hS2 _)|(refine HALL.out _ ?_;first|with_reducible exact(Kept.refl w1).drew|with_reducible exact((Kept.refl w1).alloc _).drew))
  (first|(have hg:=hF;go_at_call 319;refine Calls.mono (R:=fun e w''=>e= .returned (.agg #[.bool false,.slice none 0 0,.slice none 0 0])) hF.out.elim ?_;rintro e w3 rfl;have hbF1:Blk w3 w1.heap.size #[.bool false,.slice none 0 0,.slice none 0 0,.bool false,.slice none 0 0,.slice none 0 0,.bool false,.bool false,.bool false] 302:=hF.out.elim;have hbF2:Blk w3 w2.heap.size #[.bool false,.slice none 0 0,.slice none 0 0,.bool false,.slice none 0 0,.slice none 0 0,.bool false,.bool false,.bool false] 302:=hF.out.elim;obtain⟨k0,k1,k2,k3,k4,k5,k6,k7,k8,j0,j1,j2,j3,j4,j5,j6,j7,j8⟩:=hbF1.facts9;obtain⟨m0,m1,m2,m3,m4,m5,m6,m7,m8,n0,n1,n2,n3,n4,n5,n6,n7,n8⟩:=hbF2.facts9)|(go_at_call 319;refine(hr1 _ (hk.trans (by first|with_reducible exact(Kept.refl w1).drew|with_reducible exact((Kept.refl w1).alloc _).drew))).mono ?_;rintro e w2 (⟨rfl,hk2⟩|⟨rfl,hk2,hF⟩);(have hS2:Kept w1 w2:=(by first|with_reducible exact(Kept.refl w1).drew.trans hk2|with_reducible exact((Kept.refl w1).alloc _).drew.trans hk2);exact⟨rfl,rfl,hk.trans hS2⟩)))
 all_goals exact hF.out.elim
set_option maxHeartbeats 4000000 in
set_option maxRecDepth 100000 in
theorem iread_big2{w:World}{v:Value}{s1 s2 li hi:Bool}{N1 D1 N2 D2:Nat}(h:Ivl w v ⟨s1,N1,D1,s2,N2,D2,li,hi⟩)(hT:Laid w)(hf:small N1 D1=true∧small N2 D2=false):
 Calls Tryz.prog 237 #[v] w fun e w'=>e= .panicked failed∧Kept w w':=by
 obtain⟨a,n,c,a',n',c',b,m,e,b',m',e',rfl,h1,h2⟩:=h
 have hr1:=fun(w':World)(k:Kept w w')=>number_ok (h1.kept k) (hT.kept k) hf.1
 have hr2:=fun(w':World)(k:Kept w w')=>number_weak (h2.kept k) (hT.kept k) hf.2
 generalize hpE:(s1&&decide (0<N1))=q1 at hr1
 have HPE:=Lib.hid hpE;clear hpE
 have hb1:=Blk.new w #[.bool s1,.slice a n c,.slice a' n' c',.bool s2,.slice b m e,.slice b' m' e',.bool li,.bool hi] 39
 have hk1:Kept w (w.alloc (.cells #[.bool s1,.slice a n c,.slice a' n' c',.bool s2,.slice b m e,.slice b' m' e',.bool li,.bool hi] 39)):=(Kept.refl _).alloc _
 have e1:(w.alloc (.cells #[.bool s1,.slice a n c,.slice a' n' c',.bool s2,.slice b m e,.slice b' m' e',.bool li,.bool hi] 39)).heap.size=w.heap.size+1:=by simp[go_sem]
 have hb2:=Blk.new (w.alloc (.cells #[.bool s1,.slice a n c,.slice a' n' c',.bool s2,.slice b m e,.slice b' m' e',.bool li,.bool hi] 39)) #[.bool false,.slice none 0 0,.slice none 0 0,.bool false,.slice none 0 0,.slice none 0 0,.bool false,.bool false,.bool false] 302
 have hk2:Kept (w.alloc (.cells #[.bool s1,.slice a n c,.slice a' n' c',.bool s2,.slice b m e,.slice b' m' e',.bool li,.bool hi] 39)) ((w.alloc (.cells #[.bool s1,.slice a n c,.slice a' n' c',.bool s2,.slice b m e,.slice b' m' e',.bool li,.bool hi] 39)).alloc (.cells #[.bool false,.slice none 0 0,.slice none 0 0,.bool false,.slice none 0 0,.slice none 0 0,.bool false,.bool false,.bool false] 302)):=(Kept.refl _).alloc _
 rw[e1] at hb2
 have hb1:=hb1.kept hk2
 have hk:=hk1.trans hk2
 clear hk1 hk2 e1 h1 h2
 go_enter Tryz.func237,Tryz.ntmps237
 go_wp2_with fail
 generalize ((w.alloc (.cells #[.bool s1,.slice a n c,.slice a' n' c',.bool s2,.slice b m e,.slice b' m' e',.bool li,.bool hi] 39)).alloc (.cells #[.bool false,.slice none 0 0,.slice none 0 0,.bool false,.slice none 0 0,.slice none 0 0,.bool false,.bool false,.bool false] 302))=w1 at*
 generalize hbE:w.heap.size=b0 at hb1 hb2⊢
 have HBE:=Lib.hid hbE;clear hbE
 obtain⟨p0,p1,p2,p3,p4,p5,p6,p7,_⟩:=hb1.facts8
 have hall:∀w',Kept w1 w'→Kept w1 w'∧w'.cell? ⟨b0,0,none⟩=some (.bool s1)∧w'.cell? ⟨b0,1,none⟩=some (.slice a n c)∧w'.cell? ⟨b0,2,none⟩=some (.slice a' n' c')∧w'.cell? ⟨b0,3,none⟩=some (.bool s2)∧w'.cell? ⟨b0,4,none⟩=some (.slice b m e)∧w'.cell? ⟨b0,5,none⟩=some (.slice b' m' e')∧w'.cell? ⟨b0,6,none⟩=some (.bool li)∧w'.cell? ⟨b0,7,none⟩=some (.bool hi):=
  fun w' k=>⟨k,k.cell p0,k.cell p1,k.cell p2,k.cell p3,k.cell p4,k.cell p5,k.cell p6,k.cell p7⟩
 have HALL:=Lib.hid hall;clear hall
 go_region_held (fun w'=>Kept w1 w'∧w'.cell? ⟨b0,0,none⟩=some (.bool s1)∧w'.cell? ⟨b0,1,none⟩=some (.slice a n c)∧w'.cell? ⟨b0,2,none⟩=some (.slice a' n' c')∧w'.cell? ⟨b0,3,none⟩=some (.bool s2)∧w'.cell? ⟨b0,4,none⟩=some (.slice b m e)∧w'.cell? ⟨b0,5,none⟩=some (.slice b' m' e')∧w'.cell? ⟨b0,6,none⟩=some (.bool li)∧w'.cell? ⟨b0,7,none⟩=some (.bool hi))
  (first|(have hg:=hF;exact hF.out.elim)|(have hg:=hS3;refine HALL.out _ ?_;first|with_reducible exact hS3|with_reducible exact Kept.alloc hS3 _|with_reducible exact Kept.but hS3 (st9 _ _ _ _ _ _ _ _ _ _ _) (Nat.le_refl _)|with_reducible exact Kept.but hS3 (st9 _ _ _ _ _ _ _ _ _ _ _) hS2.size)|(have hg:=hS2;refine HALL.out _ ?_;first|with_reducible exact hS2|with_reducible exact Kept.alloc hS2 _)|(refine HALL.out _ ?_;first|with_reducible exact(Kept.refl w1).drew|with_reducible exact((Kept.refl w1).alloc _).drew))
  (first|(have hg:=hS2;go_at_call 319;refine(hr2 _ (hk.trans (by first|with_reducible exact hS2|with_reducible exact hS2.alloc _))).mono ?_;rintro e w3 (⟨rfl,hk3⟩|⟨rfl,hk3,hF⟩);(have hS3:Kept w1 w3:=(by first|with_reducible exact hS2.trans hk3|with_reducible exact(hS2.alloc _).trans hk3);exact⟨rfl,rfl,hk.trans hS3⟩);have hbF1:Blk w3 w1.heap.size #[.bool false,.slice none 0 0,.slice none 0 0,.bool false,.slice none 0 0,.slice none 0 0,.bool false,.bool false,.bool false] 302:=hF.out.elim;have hbF2:Blk w3 w2.heap.size #[.bool false,.slice none 0 0,.slice none 0 0,.bool false,.slice none 0 0,.slice none 0 0,.bool false,.bool false,.bool false] 302:=hF.out.elim;obtain⟨k0,k1,k2,k3,k4,k5,k6,k7,k8,j0,j1,j2,j3,j4,j5,j6,j7,j8⟩:=hbF1.facts9;obtain⟨m0,m1,m2,m3,m4,m5,m6,m7,m8,n0,n1,n2,n3,n4,n5,n6,n7,n8⟩:=hbF2.facts9)|(go_at_call 319;refine(hr1 _ (hk.trans (by first|with_reducible exact(Kept.refl w1).drew|with_reducible exact((Kept.refl w1).alloc _).drew))).mono ?_;rintro e w2 ⟨v2,rfl,hv2,hk2⟩;obtain⟨x1,x2,x3,x4,x5,x6,rfl⟩:=hv2.shape;have hS2:Kept w1 w2:=(by first|with_reducible exact(Kept.refl w1).drew.trans hk2|with_reducible exact((Kept.refl w1).alloc _).drew.trans hk2)))
 all_goals exact hF.out.elim
theorem iread_bad{w:World}{v:Value}{i:IvD}(h:Ivl w v i)(hT:Laid w)(hf:i.fine=false):
 Calls Tryz.prog 237 #[v] w fun e w'=>e= .panicked failed∧Kept w w':=by
 obtain⟨s1,N1,D1,s2,N2,D2,li,hi⟩:=i
 have hf:(small N1 D1&&small N2 D2)=false:=hf
 cases h1:small N1 D1 with
 |false=>exact iread_big1 h hT h1
 |true=>exact iread_big2 h hT ⟨h1,by simpa [h1] using hf⟩
theorem iread_good{w:World}{v:Value}{i:IvD}(h:Ivl w v i)(hT:Laid w)(hf:i.fine=true):
 Calls Tryz.prog 237 #[v] w fun e w'=>∃v',e= .returned v'∧Sv w' v' i∧Kept w w':=by
 obtain⟨s1,N1,D1,s2,N2,D2,li,hi⟩:=i
 have hf:(small N1 D1&&small N2 D2)=true:=hf
 exact iread_ok h hT (by simpa using hf)
def IvB(w:World)(b:Nat)(i:IvD):Prop:=
 ∃a n c a' n' c' d m e d' m' e',Blk w b #[.bool i.s1,.slice a n c,.slice a' n' c',.bool i.s2,.slice d m e,.slice d' m' e',.bool i.li,.bool i.hi] 39∧
  Ivl w (.agg #[.bool i.s1,.slice a n c,.slice a' n' c',.bool i.s2,.slice d m e,.slice d' m' e',.bool i.li,.bool i.hi]) i
theorem IvB.kept{w w':World}{b:Nat}{i:IvD}(h:IvB w b i)(k:Kept w w'):IvB w' b i:=by
 obtain⟨a,n,c,a',n',c',d,m,e,d',m',e',h1,h2⟩:=h
 exact⟨a,n,c,a',n',c',d,m,e,d',m',e',h1.kept k,h2.kept k⟩
theorem field302(q1 q2 li hi vd:Bool)(x1:Option Addr)(x2 x3:Nat)(x4:Option Addr)(x5 x6:Nat)(y1:Option Addr)(y2 y3:Nat)(y4:Option Addr)(y5 y6:Nat)(w:World):
 (Instr.field 302 (.agg #[.bool q1,.slice x1 x2 x3,.slice x4 x5 x6,.bool q2,.slice y1 y2 y3,.slice y4 y5 y6,.bool li,.bool hi,.bool vd]) 4).run Tryz.prog w= .ok (.bool vd) w:=by kernel_rfl
set_option maxHeartbeats 1000000 in
set_option maxRecDepth 100000 in
theorem isempty_fn{w:World}{b:Nat}{i:IvD}(hv:IvB w b i)(hT:Laid w)(hf:i.fine=true):
 Calls Tryz.prog 243 #[.pointer (some ⟨b,0,none⟩)] w fun e w'=>e= .returned (.bool i.void)∧Kept w w':=by
 obtain⟨a,n,c,a',n',c',d,m,e,d',m',e',hb,h⟩:=hv
 obtain⟨c0,c1,c2,c3,c4,c5,c6,c7,_⟩:=hb.facts8
 have hr:=iread_good h hT hf
 clear h hb
 obtain⟨vd,hvd⟩:∃vd,i.void=vd:=⟨_,rfl⟩
 have HVD:=Lib.hid hvd
 rw[hvd]
 clear hvd
 go_enter Tryz.func243,Tryz.ntmps243
 go_wp2_with fail
 refine hr.mono ?_
 rintro _ w1 ⟨v1,rfl,hs,hk⟩
 obtain⟨x1,x2,x3,x4,x5,x6,y1,y2,y3,y4,y5,y6,rfl,_⟩:=hs
 generalize (i.s1&&decide (0<i.N1))=q1
 generalize (i.s2&&decide (0<i.N2))=q2
 rw[HVD.out]
 have hfd:=field302 q1 q2 i.li i.hi vd x1 x2 x3 x4 x5 x6 y1 y2 y3 y4 y5 y6
 go_wp2
 go_ret
 exact⟨rfl,hk⟩
set_option maxHeartbeats 1000000 in
set_option maxRecDepth 100000 in
theorem isempty_fnp{w:World}{b:Nat}{i:IvD}(hv:IvB w b i)(hT:Laid w)(hf:i.fine=false):
 Calls Tryz.prog 243 #[.pointer (some ⟨b,0,none⟩)] w fun e w'=>e= .panicked failed∧Kept w w':=by
 obtain⟨a,n,c,a',n',c',d,m,e,d',m',e',hb,h⟩:=hv
 obtain⟨c0,c1,c2,c3,c4,c5,c6,c7,_⟩:=hb.facts8
 have hr:=iread_bad h hT hf
 clear h hb
 go_enter Tryz.func243,Tryz.ntmps243
 go_wp2_with fail
 refine hr.mono ?_
 rintro _ w1 ⟨rfl,hk⟩
 exact⟨rfl,rfl,hk⟩
set_option maxHeartbeats 2000000 in
set_option maxRecDepth 100000 in
theorem try_good{w:World}{b:Nat}{i:IvD}(hv:IvB w b i)(hT:Laid w)(hf:i.fine=true):
 Calls Tryz.prog 235 #[.func (.func 243) #[] #[.pointer (some ⟨b,0,none⟩)]] w fun e w'=>e= .returned (.tuple #[.bool i.void,.int .i64 0])∧Kept w w':=by
 have hmf:∀(fn:Fn)(first cap:Array Value)(w:World),(Instr.makeFunc fn first cap).run Tryz.prog w= .ok (.func fn first cap) w:=fun _ _ _ _=>rfl
 have hk:Kept w ((w.alloc (.cells #[.bool false] 4)).alloc (.cells #[.int .i64 0] 32)):=((Kept.refl w).alloc _).alloc _
 have e1:(w.alloc (.cells #[.bool false] 4)).heap.size=w.heap.size+1:=by simp[go_sem]
 have hb1:=(Blk.new w #[.bool false] 4).kept ((Kept.refl _).alloc (.cells #[.int .i64 0] 32))
 have hb2:=Blk.new (w.alloc (.cells #[.bool false] 4)) #[.int .i64 0] 32
 rw[e1] at hb2
 clear e1
 have hcall:=isempty_fn (hv.kept hk) (hT.kept hk) hf
 clear hv hT
 generalize i.void=vd at*
 go_enter_defers Tryz.func235,Tryz.ntmps235
 go_wp2_with fail
 generalize (w.alloc (.cells #[.bool false] 4)).alloc (.cells #[.int .i64 0] 32)=w1 at*
 generalize hbE:w.heap.size=b0 at hb1 hb2⊢
 have HBE:=Lib.hid hbE;clear hbE
 refine hcall.mono ?_
 rintro _ w2 ⟨rfl,hk2⟩
 have hb1:=hb1.kept hk2
 have hb2:=hb2.kept hk2
 obtain⟨c1,f1⟩:=hb1.facts1
 obtain⟨c2,f2⟩:=hb2.facts1
 go_wp2
 refine leaves_cons (f:=318) (args:=#[.pointer (some ⟨b0,0,none⟩),.pointer (some ⟨b0+1,0,none⟩)]) (by simp) (by simp[go_sem]) ?_
 refine(catch_idle b0 (b0+1) _).mono ?_
 rintro e u' w'' ⟨rfl,rfl,rfl⟩
 simp[Leaves,settle,results,Tryz.results235,go_sem,c1,c2]
 exact((hk.trans hk2).but (st1 ..) (by have:=HBE.out;omega)).but (st1 ..) (by have:=HBE.out;omega)
set_option maxHeartbeats 2000000 in
set_option maxRecDepth 100000 in
theorem try_bad{w:World}{b:Nat}{i:IvD}(hv:IvB w b i)(hT:Laid w)(hf:i.fine=false):
 Calls Tryz.prog 235 #[.func (.func 243) #[] #[.pointer (some ⟨b,0,none⟩)]] w fun e w'=>e= .returned (.tuple #[.bool false,.int .i64 1])∧Kept w w':=by
 have hmf:∀(fn:Fn)(first cap:Array Value)(w:World),(Instr.makeFunc fn first cap).run Tryz.prog w= .ok (.func fn first cap) w:=fun _ _ _ _=>rfl
 have hk:Kept w ((w.alloc (.cells #[.bool false] 4)).alloc (.cells #[.int .i64 0] 32)):=((Kept.refl w).alloc _).alloc _
 have e1:(w.alloc (.cells #[.bool false] 4)).heap.size=w.heap.size+1:=by simp[go_sem]
 have hb1:=(Blk.new w #[.bool false] 4).kept ((Kept.refl _).alloc (.cells #[.int .i64 0] 32))
 have hb2:=Blk.new (w.alloc (.cells #[.bool false] 4)) #[.int .i64 0] 32
 rw[e1] at hb2
 clear e1
 have hcall:=isempty_fnp (hv.kept hk) (hT.kept hk) hf
 clear hv hT
 go_enter_defers Tryz.func235,Tryz.ntmps235
 go_wp2_with fail
 generalize (w.alloc (.cells #[.bool false] 4)).alloc (.cells #[.int .i64 0] 32)=w1 at*
 generalize hbE:w.heap.size=b0 at hb1 hb2⊢
 have HBE:=Lib.hid hbE;clear hbE
 refine hcall.mono ?_
 rintro _ w2 ⟨rfl,hk2⟩
 have hb1:=hb1.kept hk2
 have hb2:=hb2.kept hk2
 refine leaves_cons (f:=318) (args:=#[.pointer (some ⟨b0,0,none⟩),.pointer (some ⟨b0+1,0,none⟩)]) (by simp) (by simp[go_sem]) ?_
 refine(catch_failed b0 (b0+1) _ hb1 hb2 (by omega)).mono ?_
 rintro e u' w'' ⟨rfl,rfl,w3,hk3,rfl⟩
 obtain⟨c1,f1⟩:=(hb1.kept hk3).facts1
 obtain⟨c2,f2⟩:=(hb2.kept hk3).facts1
 simp[Leaves,settle,results,Tryz.results235,go_sem,c1,c2,mended]
 exact((((hk.trans hk2).trans hk3).but (st1 ..) (by have:=HBE.out;omega)).but (st1 ..) (by have:=HBE.out;omega))
set_option maxHeartbeats 2000000 in
set_option maxRecDepth 100000 in
theorem isempty_calls{w:World}{v:Value}{i:IvD}(h:Ivl w v i)(hT:Laid w):
 Calls Tryz.prog 149 #[v] w fun e w'=>e= .returned (.tuple #[.bool (i.fine&&i.void),.int .i64 (if i.fine then 0 else 1)])∧Kept w w':=by
 have hmf:∀(fn:Fn)(first cap:Array Value)(w:World),(Instr.makeFunc fn first cap).run Tryz.prog w= .ok (.func fn first cap) w:=fun _ _ _ _=>rfl
 have hh:=h
 obtain⟨a,n,c,a',n',c',d,m,e,d',m',e',rfl,_⟩:=h
 have hk:Kept w (w.alloc (.cells #[.bool i.s1,.slice a n c,.slice a' n' c',.bool i.s2,.slice d m e,.slice d' m' e',.bool i.li,.bool i.hi] 39)):=(Kept.refl w).alloc _
 have hb:IvB (w.alloc (.cells #[.bool i.s1,.slice a n c,.slice a' n' c',.bool i.s2,.slice d m e,.slice d' m' e',.bool i.li,.bool i.hi] 39)) w.heap.size i:=⟨a,n,c,a',n',c',d,m,e,d',m',e',Blk.new ..,hh.kept hk⟩
 cases hf:i.fine with
 |true=>
  have ht:=try_good hb (hT.kept hk) hf
  clear hb hh hT
  go_enter Tryz.func149,Tryz.ntmps149
  go_wp2_with(go_at_call 235;refine ht.mono ?_;rintro e w1 ⟨rfl,hk1⟩)
  go_ret2
  exact⟨rfl,hk.trans hk1⟩
 |false=>
  have ht:=try_bad hb (hT.kept hk) hf
  clear hb hh hT
  go_enter Tryz.func149,Tryz.ntmps149
  go_wp2_with(go_at_call 235;refine ht.mono ?_;rintro e w1 ⟨rfl,hk1⟩)
  go_ret2
  exact⟨rfl,hk.trans hk1⟩
end Go.Proofs.YtbapfnpbamnmpaaGreatDoor
