/- A part of the proof that ClaimGoals answers true for every input of bulk at most 1048576: conditions: the row's own. -/
import Derived.Test.YtbapfnpbamnmpaaGreatDoorXb
namespace Go.Proofs.YtbapfnpbamnmpaaGreatDoor
open Go Go.RowKit Go.Dig
open Go.Eng (Kept KW KeptB wp_region_kw kw_call)
def loS(i:IvD):Bool:=if i.li then false else i.s1&&decide (0<i.N1)
def loN(i:IvD):Nat:=if i.li then 0 else rN i.N1 i.D1
def loD(i:IvD):Nat:=if i.li then 0 else rD i.N1 i.D1
def hiS(i:IvD):Bool:=if i.hi then false else i.s2&&decide (0<i.N2)
def hiN(i:IvD):Nat:=if i.hi then 0 else rN i.N2 i.D2
def hiD(i:IvD):Nat:=if i.hi then 0 else rD i.N2 i.D2
def sameI(i j:IvD):Bool:=(i.li==j.li)&&(i.hi==j.hi)&&(qcmp (loS i) (loN i) (loD i) (loS j) (loN j) (loD j)==0)&&(qcmp (hiS i) (hiN i) (hiD i) (hiS j) (hiN j) (hiD j)==0)
theorem ends_sm{i:IvD}(hf:i.fine=true):loN i<Sm∧loD i<Sm∧hiN i<Sm∧hiD i<Sm:=by
 have hf2:small i.N1 i.D1=true∧small i.N2 i.D2=true:=by
  have hf:(small i.N1 i.D1&&small i.N2 i.D2)=true:=hf
  simpa using hf
 obtain⟨-,-,g1,g2,-,-⟩:=small_bounds hf2.1
 obtain⟨-,-,g3,g4,-,-⟩:=small_bounds hf2.2
 have h0:0<Sm:=pwr_pos 7000
 unfold loN loD hiN hiD
 refine⟨?_,?_,?_,?_⟩<;>split<;>assumption
theorem iof_nv{w:World}{v:Value}{i:IvD}(h:Ivl w v i)(hf:i.fine=true)(hv:i.void=false):
 Calls Tryz.prog 47 #[v] w fun e w'=>∃v',e= .returned v'∧Iq w' v' (loS i) (loN i) (loD i) (hiS i) (hiN i) (hiD i) i.li i.hi false∧Kept w w':=by
 refine(iof_calls h hf).mono ?_
 rintro e w' ⟨v',he,hk,hi⟩
 rw[hv] at hi
 exact⟨v',he,hi,hk⟩
theorem Blk.all9{w:World}{b:Nat}{t:TypeId}{y0 y1 y2 y3 y4 y5 y6 y7 y8:Value}(h:Blk w b #[y0,y1,y2,y3,y4,y5,y6,y7,y8] t)(x0 x1 x2 x3 x4 x5 x6 x7 x8:Value):
 Blk (((((((((w.setCell ⟨b,0,none⟩ x0).setCell ⟨b,1,none⟩ x1).setCell ⟨b,2,none⟩ x2).setCell ⟨b,3,none⟩ x3).setCell ⟨b,4,none⟩ x4).setCell ⟨b,5,none⟩ x5).setCell ⟨b,6,none⟩ x6).setCell ⟨b,7,none⟩ x7).setCell ⟨b,8,none⟩ x8) b #[x0,x1,x2,x3,x4,x5,x6,x7,x8] t:=by
 have h9:=(((((((((h.set 0 x0).set 1 x1).set 2 x2).set 3 x3).set 4 x4).set 5 x5).set 6 x6).set 7 x7).set 8 x8)
 simpa using h9
set_option maxHeartbeats 4000000 in
set_option maxRecDepth 100000 in
theorem isame_calls{w:World}{v u:Value}{i j:IvD}(h:Ivl w v i)(h':Ivl w u j)(hf:i.fine=true)(hf':j.fine=true)(hv:i.void=false)(hv':j.void=false):
 Calls Tryz.prog 133 #[v,u] w fun e w'=>e= .returned (.bool (sameI i j))∧Kept w w':=by
 have hr1:=fun(w':World)(k:Kept w w')=>iof_nv (h.kept k) hf hv
 have hr2:=fun(w':World)(k:Kept w w')=>iof_nv (h'.kept k) hf' hv'
 have HB1:=Lib.hid (ends_sm hf)
 have HB2:=Lib.hid (ends_sm hf')
 obtain⟨a1,n1,c1,a2,n2,c2,a3,n3,c3,a4,n4,c4,rfl,-⟩:=h
 obtain⟨b1,m1,d1,b2,m2,d2,b3,m3,d3,b4,m4,d4,rfl,-⟩:=h'
 have HR:Hid (sameI i j=((i.li==j.li)&&(i.hi==j.hi)&&(qcmp (loS i) (loN i) (loD i) (loS j) (loN j) (loD j)==0)&&(qcmp (hiS i) (hiN i) (hiD i) (hiS j) (hiN j) (hiD j)==0))):=Lib.hid rfl
 clear hf hf' hv hv'
 generalize sameI i j=res at*
 generalize loS i=p1 at*
 generalize loN i=P1 at*
 generalize loD i=P2 at*
 generalize hiS i=p2 at*
 generalize hiN i=P3 at*
 generalize hiD i=P4 at*
 generalize loS j=q1 at*
 generalize loN j=Q1 at*
 generalize loD j=Q2 at*
 generalize hiS j=q2 at*
 generalize hiN j=Q3 at*
 generalize hiD j=Q4 at*
 generalize i.s1=s1 at*
 generalize i.s2=s2 at*
 generalize i.li=li at*
 generalize i.hi=hi at*
 generalize j.s1=t1 at*
 generalize j.s2=t2 at*
 generalize j.li=lj at*
 generalize j.hi=hj at*
 have hA:=Blk.new w #[.bool s1,.slice a1 n1 c1,.slice a2 n2 c2,.bool s2,.slice a3 n3 c3,.slice a4 n4 c4,.bool li,.bool hi] 39
 have hB:=Blk.new (w.alloc (.cells #[.bool s1,.slice a1 n1 c1,.slice a2 n2 c2,.bool s2,.slice a3 n3 c3,.slice a4 n4 c4,.bool li,.bool hi] 39)) #[.bool t1,.slice b1 m1 d1,.slice b2 m2 d2,.bool t2,.slice b3 m3 d3,.slice b4 m4 d4,.bool lj,.bool hj] 39
 rw[show(w.alloc (.cells #[.bool s1,.slice a1 n1 c1,.slice a2 n2 c2,.bool s2,.slice a3 n3 c3,.slice a4 n4 c4,.bool li,.bool hi] 39)).heap.size=w.heap.size+1 from Array.size_push _] at hB
 have hk1:Kept w (w.alloc (.cells #[.bool s1,.slice a1 n1 c1,.slice a2 n2 c2,.bool s2,.slice a3 n3 c3,.slice a4 n4 c4,.bool li,.bool hi] 39)):=(Kept.refl w).alloc _
 have hk2:Kept (w.alloc (.cells #[.bool s1,.slice a1 n1 c1,.slice a2 n2 c2,.bool s2,.slice a3 n3 c3,.slice a4 n4 c4,.bool li,.bool hi] 39)) ((w.alloc (.cells #[.bool s1,.slice a1 n1 c1,.slice a2 n2 c2,.bool s2,.slice a3 n3 c3,.slice a4 n4 c4,.bool li,.bool hi] 39)).alloc (.cells #[.bool t1,.slice b1 m1 d1,.slice b2 m2 d2,.bool t2,.slice b3 m3 d3,.slice b4 m4 d4,.bool lj,.bool hj] 39)):=(Kept.refl _).alloc _
 replace hA:=hA.kept hk2
 have hk:=hk1.trans hk2
 clear hk1 hk2
 go_enter Tryz.func133,Tryz.ntmps133
 go_wp2_with fail
 rename_i Q' K hK
 generalize ((w.alloc (.cells #[.bool s1,.slice a1 n1 c1,.slice a2 n2 c2,.bool s2,.slice a3 n3 c3,.slice a4 n4 c4,.bool li,.bool hi] 39)).alloc (.cells #[.bool t1,.slice b1 m1 d1,.slice b2 m2 d2,.bool t2,.slice b3 m3 d3,.slice b4 m4 d4,.bool lj,.bool hj] 39))=w1 at*
 generalize w.heap.size=b0 at hA hB⊢
 obtain⟨g0,g1,g2,g3,g4,g5,g6,g7,-⟩:=hA.facts8
 obtain⟨k0,k1,k2,k3,k4,k5,k6,k7,-⟩:=hB.facts8
 have hall:∀w',Kept w1 w'→Kept w1 w'∧w'.cell? ⟨b0,0,none⟩=some (.bool s1)∧w'.cell? ⟨b0,1,none⟩=some (.slice a1 n1 c1)∧w'.cell? ⟨b0,2,none⟩=some (.slice a2 n2 c2)∧w'.cell? ⟨b0,3,none⟩=some (.bool s2)∧w'.cell? ⟨b0,4,none⟩=some (.slice a3 n3 c3)∧w'.cell? ⟨b0,5,none⟩=some (.slice a4 n4 c4)∧w'.cell? ⟨b0,6,none⟩=some (.bool li)∧w'.cell? ⟨b0,7,none⟩=some (.bool hi)∧w'.cell? ⟨b0+1,0,none⟩=some (.bool t1)∧w'.cell? ⟨b0+1,1,none⟩=some (.slice b1 m1 d1)∧w'.cell? ⟨b0+1,2,none⟩=some (.slice b2 m2 d2)∧w'.cell? ⟨b0+1,3,none⟩=some (.bool t2)∧w'.cell? ⟨b0+1,4,none⟩=some (.slice b3 m3 d3)∧w'.cell? ⟨b0+1,5,none⟩=some (.slice b4 m4 d4)∧w'.cell? ⟨b0+1,6,none⟩=some (.bool lj)∧w'.cell? ⟨b0+1,7,none⟩=some (.bool hj):=
  fun w' k=>⟨k,k.cell g0,k.cell g1,k.cell g2,k.cell g3,k.cell g4,k.cell g5,k.cell g6,k.cell g7,k.cell k0,k.cell k1,k.cell k2,k.cell k3,k.cell k4,k.cell k5,k.cell k6,k.cell k7⟩
 have HALL:=Lib.hid hall;clear hall
 have hrest:∀(b5 b6:Nat)(W:World)(x1:Option Addr)(x2 x3:Nat)(x4:Option Addr)(x5 x6:Nat)(x7:Option Addr)(x8 x9:Nat)(xa:Option Addr)(xb xc:Nat)(y1:Option Addr)(y2 y3:Nat)(y4:Option Addr)(y5 y6:Nat)(y7:Option Addr)(y8 y9:Nat)(ya:Option Addr)(yb yc:Nat),Kept w1 W→Blk W b5 #[.bool p1,.slice x1 x2 x3,.slice x4 x5 x6,.bool p2,.slice x7 x8 x9,.slice xa xb xc,.bool li,.bool hi,.bool false] 99→Blk W b6 #[.bool q1,.slice y1 y2 y3,.slice y4 y5 y6,.bool q2,.slice y7 y8 y9,.slice ya yb yc,.bool lj,.bool hj,.bool false] 99→Qv W (.agg #[.bool p1,.slice x1 x2 x3,.slice x4 x5 x6]) p1 P1 P2→Qv W (.agg #[.bool p2,.slice x7 x8 x9,.slice xa xb xc]) p2 P3 P4→Qv W (.agg #[.bool q1,.slice y1 y2 y3,.slice y4 y5 y6]) q1 Q1 Q2→Qv W (.agg #[.bool q2,.slice y7 y8 y9,.slice ya yb yc]) q2 Q3 Q4→
  Exit.then K Q' Exit.normal {tmps:=#[Value.agg #[.bool s1,.slice a1 n1 c1,.slice a2 n2 c2,.bool s2,.slice a3 n3 c3,.slice a4 n4 c4,.bool li,.bool hi],Value.agg #[.bool t1,.slice b1 m1 d1,.slice b2 m2 d2,.bool t2,.slice b3 m3 d3,.slice b4 m4 d4,.bool lj,.bool hj],Value.pointer (some ⟨b0,0,none⟩),Value.pointer (some ⟨b0+1,0,none⟩),Value.bool false,Value.pointer (some ⟨b5,0,none⟩),Value.pointer (some ⟨b6,0,none⟩),Value.agg #[.bool s1,.slice a1 n1 c1,.slice a2 n2 c2,.bool s2,.slice a3 n3 c3,.slice a4 n4 c4,.bool li,.bool hi],Value.agg #[.bool p1,.slice x1 x2 x3,.slice x4 x5 x6,.bool p2,.slice x7 x8 x9,.slice xa xb xc,.bool li,.bool hi,.bool false],Value.agg #[.bool t1,.slice b1 m1 d1,.slice b2 m2 d2,.bool t2,.slice b3 m3 d3,.slice b4 m4 d4,.bool lj,.bool hj],Value.agg #[.bool q1,.slice y1 y2 y3,.slice y4 y5 y6,.bool q2,.slice y7 y8 y9,.slice ya yb yc,.bool lj,.bool hj,.bool false],undef,undef,undef,undef,undef,undef,undef,undef,undef,undef,undef,undef,undef,undef,undef,undef,undef,undef,undef,undef,undef,undef,undef,undef,undef,undef,undef,undef,undef,undef,undef,undef,undef,undef,undef,undef,undef,undef,undef,undef],defers:=[]} W:=by
  intro b5 b6 W x1 x2 x3 x4 x5 x6 x7 x8 x9 xa xb xc y1 y2 y3 y4 y5 y6 y7 y8 y9 ya yb yc hkW h5 h6 hv1 hv2 hu1 hu2
  have hkw:=hk.trans hkW
  clear hr1 hr2 HALL hA hB g0 g1 g2 g3 g4 g5 g6 g7 k0 k1 k2 k3 k4 k5 k6 k7
  have hcl:=qcmp_calls hv1 hu1 HB1.out.1 HB1.out.2.1 HB2.out.1 HB2.out.2.1
  have hch:=fun(w':World)(k:Kept W w')=>qcmp_calls (hv2.kept k) (hu2.kept k) HB1.out.2.2.1 HB1.out.2.2.2 HB2.out.2.2.1 HB2.out.2.2.2
  clear hv1 hv2 hu1 hu2
  obtain⟨g0,g1,g2,g3,g4,g5,g6,g7,g8,-⟩:=h5.facts9
  obtain⟨k0,k1,k2,k3,k4,k5,k6,k7,k8,-⟩:=h6.facts9
  generalize qcmp p1 P1 P2 q1 Q1 Q2=r1 at*
  generalize qcmp p2 P3 P4 q2 Q3 Q4=r2 at*
  rcases Bool.eq_false_or_eq_true (li==lj) with el|el
  rotate_left
  ·have HRR:Hid (res=false):=Lib.hid (by rw[HR.out,el];rfl)
   cases li<;>cases lj<;>first|exact absurd el (by decide)|(clear el hcl hch;go_wp2;go_ret;exact⟨by rw[HRR.out];rfl,hkw⟩)
  rcases Bool.eq_false_or_eq_true (hi==hj) with eh|eh
  rotate_left
  ·have HRR:Hid (res=false):=Lib.hid (by rw[HR.out,el,eh];rfl)
   obtain rfl:li=lj:=by simpa using el
   cases hi<;>cases hj<;>first|exact absurd eh (by decide)|(clear el eh hcl hch;cases li<;>(go_wp2;go_ret;exact⟨by rw[HRR.out];rfl,hkw⟩))
  rcases Bool.eq_false_or_eq_true (r1==0) with ec|ec
  rotate_left
  ·have HRR:Hid (res=false):=Lib.hid (by rw[HR.out,el,eh,ec];rfl)
   obtain rfl:li=lj:=by simpa using el
   obtain rfl:hi=hj:=by simpa using eh
   clear el eh hch
   cases li<;>cases hi<;>(go_wp2_with(first|(go_at_call 126;refine hcl.mono ?_;rintro e w2 ⟨rfl,hk2⟩));go_ret;exact⟨by rw[HRR.out];rfl,hkw.trans hk2⟩)
  have HRR:Hid (res=(r2==0)):=Lib.hid (by rw[HR.out,el,eh,ec];rfl)
  obtain rfl:li=lj:=by simpa using el
  obtain rfl:hi=hj:=by simpa using eh
  clear el eh
  cases li<;>cases hi<;>(go_wp2_with(first|(go_at_call_of 126 (Value.agg #[.bool p1,.slice x1 x2 x3,.slice x4 x5 x6]);refine hcl.mono ?_;rintro e w2 ⟨rfl,hk2⟩;replace h5:=h5.kept hk2;replace h6:=h6.kept hk2;clear g0 g1 g2 g3 g4 g5 g6 g7 g8 k0 k1 k2 k3 k4 k5 k6 k7 k8;obtain⟨g0,g1,g2,g3,g4,g5,g6,g7,g8,-⟩:=h5.facts9;obtain⟨k0,k1,k2,k3,k4,k5,k6,k7,k8,-⟩:=h6.facts9)|(go_at_call 126;refine(hch _ hk2).mono ?_;rintro e w3 ⟨rfl,hk3⟩));go_ret;exact⟨by rw[HRR.out];rfl,(hkw.trans hk2).trans hk3⟩)
 have HREST:=Lib.hid hrest
 clear hrest hK HR HB1 HB2 hA hB g0 g1 g2 g3 g4 g5 g6 g7 k0 k1 k2 k3 k4 k5 k6 k7
 refine wp_region_held_drew (S:=fun w'=>Kept w1 w'∧w'.cell? ⟨b0,0,none⟩=some (.bool s1)∧w'.cell? ⟨b0,1,none⟩=some (.slice a1 n1 c1)∧w'.cell? ⟨b0,2,none⟩=some (.slice a2 n2 c2)∧w'.cell? ⟨b0,3,none⟩=some (.bool s2)∧w'.cell? ⟨b0,4,none⟩=some (.slice a3 n3 c3)∧w'.cell? ⟨b0,5,none⟩=some (.slice a4 n4 c4)∧w'.cell? ⟨b0,6,none⟩=some (.bool li)∧w'.cell? ⟨b0,7,none⟩=some (.bool hi)∧w'.cell? ⟨b0+1,0,none⟩=some (.bool t1)∧w'.cell? ⟨b0+1,1,none⟩=some (.slice b1 m1 d1)∧w'.cell? ⟨b0+1,2,none⟩=some (.slice b2 m2 d2)∧w'.cell? ⟨b0+1,3,none⟩=some (.bool t2)∧w'.cell? ⟨b0+1,4,none⟩=some (.slice b3 m3 d3)∧w'.cell? ⟨b0+1,5,none⟩=some (.slice b4 m4 d4)∧w'.cell? ⟨b0+1,6,none⟩=some (.bool lj)∧w'.cell? ⟨b0+1,7,none⟩=some (.bool hj)) (by kernel_rfl) (HALL.out _ (Kept.refl w1).drew) (fun hHeld=> ?_)
 refine wpAnyH_take (i:=0) (oi:=_) (v:= ?_) rfl (by kernel_rfl) (by kernel_rfl) (by kernel_rfl) (fun _ _ _ h=>h) (Or.inl ⟨by rfl,?_⟩) (by assumption) ?_
 rotate_left
 ·intro w hSw;(try dsimp only at hSw);go_simp;first|done|with_reducible rfl
 try simp only[Act.put,List.setIfInBounds_toArray]
 refine wpAnyH_take (i:=2) (oi:=_) (v:= ?_) rfl (by kernel_rfl) (by kernel_rfl) (by kernel_rfl) (fun _ _ _ h=>h) (Or.inl ⟨by rfl,?_⟩) (by assumption) ?_
 rotate_left
 ·intro w hSw;(try dsimp only at hSw);go_simp;first|done|with_reducible rfl
 try simp only[Act.put]
 generalize hF:wpAnyH _ _ _ _ _=F
 have hsz:∀W:World,(W.alloc (.cells #[.bool false,.slice none 0 0,.slice none 0 0,.bool false,.slice none 0 0,.slice none 0 0,.bool false,.bool false,.bool false] 99)).heap.size=W.heap.size+1:=fun W=>Array.size_push _
 have st211:∀(W:World)(b5:Nat)(b6:Nat)(x1:Option Addr)(x2 x3:Nat)(x4:Option Addr)(x5 x6:Nat)(x7:Option Addr)(x8 x9:Nat)(xa:Option Addr)(xb xc:Nat)(y1:Option Addr)(y2 y3:Nat)(y4:Option Addr)(y5 y6:Nat)(y7:Option Addr)(y8 y9:Nat)(ya:Option Addr)(yb yc:Nat),Kept w1 W→Blk W b5 #[.bool false,.slice none 0 0,.slice none 0 0,.bool false,.slice none 0 0,.slice none 0 0,.bool false,.bool false,.bool false] 99→w1.heap.size≤b5→Blk W b6 #[.bool false,.slice none 0 0,.slice none 0 0,.bool false,.slice none 0 0,.slice none 0 0,.bool false,.bool false,.bool false] 99→w1.heap.size≤b6→b5≠b6→Qv W (.agg #[.bool p1,.slice x1 x2 x3,.slice x4 x5 x6]) p1 P1 P2→Qv W (.agg #[.bool p2,.slice x7 x8 x9,.slice xa xb xc]) p2 P3 P4→Qv W (.agg #[.bool q1,.slice y1 y2 y3,.slice y4 y5 y6]) q1 Q1 Q2→Qv W (.agg #[.bool q2,.slice y7 y8 y9,.slice ya yb yc]) q2 Q3 Q4→F 2 #[true,true,true,true,true,true,false,false] {tmps:=#[Value.agg #[.bool s1,.slice a1 n1 c1,.slice a2 n2 c2,.bool s2,.slice a3 n3 c3,.slice a4 n4 c4,.bool li,.bool hi],Value.agg #[.bool t1,.slice b1 m1 d1,.slice b2 m2 d2,.bool t2,.slice b3 m3 d3,.slice b4 m4 d4,.bool lj,.bool hj],Value.pointer (some ⟨b0,0,none⟩),Value.pointer (some ⟨b0+1,0,none⟩),Value.bool false,Value.pointer (some ⟨b5,0,none⟩),Value.pointer (some ⟨b6,0,none⟩),Value.agg #[.bool s1,.slice a1 n1 c1,.slice a2 n2 c2,.bool s2,.slice a3 n3 c3,.slice a4 n4 c4,.bool li,.bool hi],Value.agg #[.bool p1,.slice x1 x2 x3,.slice x4 x5 x6,.bool p2,.slice x7 x8 x9,.slice xa xb xc,.bool li,.bool hi,.bool false],Value.agg #[.bool t1,.slice b1 m1 d1,.slice b2 m2 d2,.bool t2,.slice b3 m3 d3,.slice b4 m4 d4,.bool lj,.bool hj],Value.agg #[.bool q1,.slice y1 y2 y3,.slice y4 y5 y6,.bool q2,.slice y7 y8 y9,.slice ya yb yc,.bool lj,.bool hj,.bool false],undef,undef,undef,undef,undef,undef,undef,undef,undef,undef,undef,undef,undef,undef,undef,undef,undef,undef,undef,undef,undef,undef,undef,undef,undef,undef,undef,undef,undef,undef,undef,undef,undef,undef,undef,undef,undef,undef,undef,undef],defers:=[]} W:=by
  intro W b5 b6 x1 x2 x3 x4 x5 x6 x7 x8 x9 xa xb xc y1 y2 y3 y4 y5 y6 y7 y8 y9 ya yb yc hkW h5 ge5 h6 ge6 hne hx1 hx2 hy1 hy2
  rw[←hF]
  have hHeld:=HALL.out _ hkW
  obtain⟨k0,k1,k2,k3,k4,k5,k6,k7,k8,j0,j1,j2,j3,j4,j5,j6,j7,j8⟩:=h5.facts9
  have hne2:b6≠b5:=fun h=>hne h.symm
  refine wpAnyH_ready (rs:=[6]) (by kernel_rfl) (by simp) (AllReadyH.cons (o:=_) rfl (fun K hK=> ?_) AllReadyH.nil)
  go_simp
  have hkb:=st9 W b5 (.bool p1) (.slice x1 x2 x3) (.slice x4 x5 x6) (.bool p2) (.slice x7 x8 x9) (.slice xa xb xc) (.bool li) (.bool hi) (.bool false)
  have hN5:=h5.noWords rfl
  have hkB:=hkW.but hkb ge5
  have hB5:=h5.all9 (.bool p1) (.slice x1 x2 x3) (.slice x4 x5 x6) (.bool p2) (.slice x7 x8 x9) (.slice xa xb xc) (.bool li) (.bool hi) (.bool false)
  have hB6:=h6.keptB hkb (fun h=>hne2 h)
  replace hx1:=hx1.keptB hkb hN5
  replace hx2:=hx2.keptB hkb hN5
  replace hy1:=hy1.keptB hkb hN5
  replace hy2:=hy2.keptB hkb hN5
  refine hK.out _ _ (HALL.out _ hkB) (fun hHeld=> ?_)
  clear hK K h5 h6 hkb hN5 hkW k0 j0 k1 j1 k2 j2 k3 j3 k4 j4 k5 j5 k6 j6 k7 j7 k8 j8
  try simp only[List.setIfInBounds_toArray,List.set_cons_zero,List.set_cons_succ]
  skip
  obtain⟨k0,k1,k2,k3,k4,k5,k6,k7,k8,j0,j1,j2,j3,j4,j5,j6,j7,j8⟩:=hB6.facts9
  refine wpAnyH_ready (rs:=[7]) (by kernel_rfl) (by simp) (AllReadyH.cons (o:=_) rfl (fun K hK=> ?_) AllReadyH.nil)
  go_simp
  have hkb:=st9 (((((((((W.setCell ⟨b5,0,none⟩ (.bool p1)).setCell ⟨b5,1,none⟩ (.slice x1 x2 x3)).setCell ⟨b5,2,none⟩ (.slice x4 x5 x6)).setCell ⟨b5,3,none⟩ (.bool p2)).setCell ⟨b5,4,none⟩ (.slice x7 x8 x9)).setCell ⟨b5,5,none⟩ (.slice xa xb xc)).setCell ⟨b5,6,none⟩ (.bool li)).setCell ⟨b5,7,none⟩ (.bool hi)).setCell ⟨b5,8,none⟩ (.bool false)) b6 (.bool q1) (.slice y1 y2 y3) (.slice y4 y5 y6) (.bool q2) (.slice y7 y8 y9) (.slice ya yb yc) (.bool lj) (.bool hj) (.bool false)
  have hkC:=hkB.but hkb ge6
  refine hK.out _ _ (HALL.out _ hkC) (fun hHeld=> ?_)
  try simp only[List.setIfInBounds_toArray,List.set_cons_zero,List.set_cons_succ]
  have hN6:=hB6.noWords rfl
  refine wpAnyH_done (by kernel_rfl) ?_ _
  exact HREST.out b5 b6 _ x1 x2 x3 x4 x5 x6 x7 x8 x9 xa xb xc y1 y2 y3 y4 y5 y6 y7 y8 y9 ya yb yc hkC (hB5.keptB hkb hne) (hB6.all9 (.bool q1) (.slice y1 y2 y3) (.slice y4 y5 y6) (.bool q2) (.slice y7 y8 y9) (.slice ya yb yc) (.bool lj) (.bool hj) (.bool false)) (hx1.keptB hkb hN6) (hx2.keptB hkb hN6) (hy1.keptB hkb hN6) (hy2.keptB hkb hN6)
 have st210:∀(W:World)(b5:Nat)(x1:Option Addr)(x2 x3:Nat)(x4:Option Addr)(x5 x6:Nat)(x7:Option Addr)(x8 x9:Nat)(xa:Option Addr)(xb xc:Nat)(y1:Option Addr)(y2 y3:Nat)(y4:Option Addr)(y5 y6:Nat)(y7:Option Addr)(y8 y9:Nat)(ya:Option Addr)(yb yc:Nat),Kept w1 W→Blk W b5 #[.bool false,.slice none 0 0,.slice none 0 0,.bool false,.slice none 0 0,.slice none 0 0,.bool false,.bool false,.bool false] 99→w1.heap.size≤b5→Qv W (.agg #[.bool p1,.slice x1 x2 x3,.slice x4 x5 x6]) p1 P1 P2→Qv W (.agg #[.bool p2,.slice x7 x8 x9,.slice xa xb xc]) p2 P3 P4→Qv W (.agg #[.bool q1,.slice y1 y2 y3,.slice y4 y5 y6]) q1 Q1 Q2→Qv W (.agg #[.bool q2,.slice y7 y8 y9,.slice ya yb yc]) q2 Q3 Q4→F 3 #[true,true,true,true,true,false,false,false] {tmps:=#[Value.agg #[.bool s1,.slice a1 n1 c1,.slice a2 n2 c2,.bool s2,.slice a3 n3 c3,.slice a4 n4 c4,.bool li,.bool hi],Value.agg #[.bool t1,.slice b1 m1 d1,.slice b2 m2 d2,.bool t2,.slice b3 m3 d3,.slice b4 m4 d4,.bool lj,.bool hj],Value.pointer (some ⟨b0,0,none⟩),Value.pointer (some ⟨b0+1,0,none⟩),Value.bool false,Value.pointer (some ⟨b5,0,none⟩),undef,Value.agg #[.bool s1,.slice a1 n1 c1,.slice a2 n2 c2,.bool s2,.slice a3 n3 c3,.slice a4 n4 c4,.bool li,.bool hi],Value.agg #[.bool p1,.slice x1 x2 x3,.slice x4 x5 x6,.bool p2,.slice x7 x8 x9,.slice xa xb xc,.bool li,.bool hi,.bool false],Value.agg #[.bool t1,.slice b1 m1 d1,.slice b2 m2 d2,.bool t2,.slice b3 m3 d3,.slice b4 m4 d4,.bool lj,.bool hj],Value.agg #[.bool q1,.slice y1 y2 y3,.slice y4 y5 y6,.bool q2,.slice y7 y8 y9,.slice ya yb yc,.bool lj,.bool hj,.bool false],undef,undef,undef,undef,undef,undef,undef,undef,undef,undef,undef,undef,undef,undef,undef,undef,undef,undef,undef,undef,undef,undef,undef,undef,undef,undef,undef,undef,undef,undef,undef,undef,undef,undef,undef,undef,undef,undef,undef,undef],defers:=[]} W:=by
  intro W b5 x1 x2 x3 x4 x5 x6 x7 x8 x9 xa xb xc y1 y2 y3 y4 y5 y6 y7 y8 y9 ya yb yc hkW h5 ge5 hx1 hx2 hy1 hy2
  rw[←hF]
  have hHeld:=HALL.out _ hkW
  refine wpAnyH_ready (rs:=[5]) (by kernel_rfl) (by simp) (AllReadyH.cons (o:=_) rfl (fun K hK=> ?_) AllReadyH.nil)
  ·go_simp
   refine hK.out _ _ (HALL.out _ (hkW.alloc _)) (fun _=> ?_)
   try simp only[List.setIfInBounds_toArray,List.set_cons_zero,List.set_cons_succ]
   rw[hF]
   exact st211 _ b5 W.heap.size x1 x2 x3 x4 x5 x6 x7 x8 x9 xa xb xc y1 y2 y3 y4 y5 y6 y7 y8 y9 ya yb yc (hkW.alloc _) (h5.kept ((Kept.refl W).alloc _)) ge5 (Blk.new W _ 99) hkW.size (Nat.ne_of_lt h5.lt) (hx1.kept ((Kept.refl W).alloc _)) (hx2.kept ((Kept.refl W).alloc _)) (hy1.kept ((Kept.refl W).alloc _)) (hy2.kept ((Kept.refl W).alloc _))
 have st201:∀(W:World)(b6:Nat)(x1:Option Addr)(x2 x3:Nat)(x4:Option Addr)(x5 x6:Nat)(x7:Option Addr)(x8 x9:Nat)(xa:Option Addr)(xb xc:Nat)(y1:Option Addr)(y2 y3:Nat)(y4:Option Addr)(y5 y6:Nat)(y7:Option Addr)(y8 y9:Nat)(ya:Option Addr)(yb yc:Nat),Kept w1 W→Blk W b6 #[.bool false,.slice none 0 0,.slice none 0 0,.bool false,.slice none 0 0,.slice none 0 0,.bool false,.bool false,.bool false] 99→w1.heap.size≤b6→Qv W (.agg #[.bool p1,.slice x1 x2 x3,.slice x4 x5 x6]) p1 P1 P2→Qv W (.agg #[.bool p2,.slice x7 x8 x9,.slice xa xb xc]) p2 P3 P4→Qv W (.agg #[.bool q1,.slice y1 y2 y3,.slice y4 y5 y6]) q1 Q1 Q2→Qv W (.agg #[.bool q2,.slice y7 y8 y9,.slice ya yb yc]) q2 Q3 Q4→F 3 #[true,true,true,true,false,true,false,false] {tmps:=#[Value.agg #[.bool s1,.slice a1 n1 c1,.slice a2 n2 c2,.bool s2,.slice a3 n3 c3,.slice a4 n4 c4,.bool li,.bool hi],Value.agg #[.bool t1,.slice b1 m1 d1,.slice b2 m2 d2,.bool t2,.slice b3 m3 d3,.slice b4 m4 d4,.bool lj,.bool hj],Value.pointer (some ⟨b0,0,none⟩),Value.pointer (some ⟨b0+1,0,none⟩),Value.bool false,undef,Value.pointer (some ⟨b6,0,none⟩),Value.agg #[.bool s1,.slice a1 n1 c1,.slice a2 n2 c2,.bool s2,.slice a3 n3 c3,.slice a4 n4 c4,.bool li,.bool hi],Value.agg #[.bool p1,.slice x1 x2 x3,.slice x4 x5 x6,.bool p2,.slice x7 x8 x9,.slice xa xb xc,.bool li,.bool hi,.bool false],Value.agg #[.bool t1,.slice b1 m1 d1,.slice b2 m2 d2,.bool t2,.slice b3 m3 d3,.slice b4 m4 d4,.bool lj,.bool hj],Value.agg #[.bool q1,.slice y1 y2 y3,.slice y4 y5 y6,.bool q2,.slice y7 y8 y9,.slice ya yb yc,.bool lj,.bool hj,.bool false],undef,undef,undef,undef,undef,undef,undef,undef,undef,undef,undef,undef,undef,undef,undef,undef,undef,undef,undef,undef,undef,undef,undef,undef,undef,undef,undef,undef,undef,undef,undef,undef,undef,undef,undef,undef,undef,undef,undef,undef],defers:=[]} W:=by
  intro W b6 x1 x2 x3 x4 x5 x6 x7 x8 x9 xa xb xc y1 y2 y3 y4 y5 y6 y7 y8 y9 ya yb yc hkW h6 ge6 hx1 hx2 hy1 hy2
  rw[←hF]
  have hHeld:=HALL.out _ hkW
  refine wpAnyH_ready (rs:=[4]) (by kernel_rfl) (by simp) (AllReadyH.cons (o:=_) rfl (fun K hK=> ?_) AllReadyH.nil)
  ·go_simp
   refine hK.out _ _ (HALL.out _ (hkW.alloc _)) (fun _=> ?_)
   try simp only[List.setIfInBounds_toArray,List.set_cons_zero,List.set_cons_succ]
   rw[hF]
   exact st211 _ W.heap.size b6 x1 x2 x3 x4 x5 x6 x7 x8 x9 xa xb xc y1 y2 y3 y4 y5 y6 y7 y8 y9 ya yb yc (hkW.alloc _) (Blk.new W _ 99) hkW.size (h6.kept ((Kept.refl W).alloc _)) ge6 (Nat.ne_of_gt h6.lt) (hx1.kept ((Kept.refl W).alloc _)) (hx2.kept ((Kept.refl W).alloc _)) (hy1.kept ((Kept.refl W).alloc _)) (hy2.kept ((Kept.refl W).alloc _))
 have st200:∀(W:World)(x1:Option Addr)(x2 x3:Nat)(x4:Option Addr)(x5 x6:Nat)(x7:Option Addr)(x8 x9:Nat)(xa:Option Addr)(xb xc:Nat)(y1:Option Addr)(y2 y3:Nat)(y4:Option Addr)(y5 y6:Nat)(y7:Option Addr)(y8 y9:Nat)(ya:Option Addr)(yb yc:Nat),Kept w1 W→Qv W (.agg #[.bool p1,.slice x1 x2 x3,.slice x4 x5 x6]) p1 P1 P2→Qv W (.agg #[.bool p2,.slice x7 x8 x9,.slice xa xb xc]) p2 P3 P4→Qv W (.agg #[.bool q1,.slice y1 y2 y3,.slice y4 y5 y6]) q1 Q1 Q2→Qv W (.agg #[.bool q2,.slice y7 y8 y9,.slice ya yb yc]) q2 Q3 Q4→F 4 #[true,true,true,true,false,false,false,false] {tmps:=#[Value.agg #[.bool s1,.slice a1 n1 c1,.slice a2 n2 c2,.bool s2,.slice a3 n3 c3,.slice a4 n4 c4,.bool li,.bool hi],Value.agg #[.bool t1,.slice b1 m1 d1,.slice b2 m2 d2,.bool t2,.slice b3 m3 d3,.slice b4 m4 d4,.bool lj,.bool hj],Value.pointer (some ⟨b0,0,none⟩),Value.pointer (some ⟨b0+1,0,none⟩),Value.bool false,undef,undef,Value.agg #[.bool s1,.slice a1 n1 c1,.slice a2 n2 c2,.bool s2,.slice a3 n3 c3,.slice a4 n4 c4,.bool li,.bool hi],Value.agg #[.bool p1,.slice x1 x2 x3,.slice x4 x5 x6,.bool p2,.slice x7 x8 x9,.slice xa xb xc,.bool li,.bool hi,.bool false],Value.agg #[.bool t1,.slice b1 m1 d1,.slice b2 m2 d2,.bool t2,.slice b3 m3 d3,.slice b4 m4 d4,.bool lj,.bool hj],Value.agg #[.bool q1,.slice y1 y2 y3,.slice y4 y5 y6,.bool q2,.slice y7 y8 y9,.slice ya yb yc,.bool lj,.bool hj,.bool false],undef,undef,undef,undef,undef,undef,undef,undef,undef,undef,undef,undef,undef,undef,undef,undef,undef,undef,undef,undef,undef,undef,undef,undef,undef,undef,undef,undef,undef,undef,undef,undef,undef,undef,undef,undef,undef,undef,undef,undef],defers:=[]} W:=by
  intro W x1 x2 x3 x4 x5 x6 x7 x8 x9 xa xb xc y1 y2 y3 y4 y5 y6 y7 y8 y9 ya yb yc hkW hx1 hx2 hy1 hy2
  rw[←hF]
  have hHeld:=HALL.out _ hkW
  refine wpAnyH_ready (rs:=[4,5]) (by kernel_rfl) (by simp) (AllReadyH.cons (o:=_) rfl (fun K hK=> ?_) (AllReadyH.cons (o:=_) rfl (fun K hK=> ?_) AllReadyH.nil))
  ·go_simp
   refine hK.out _ _ (HALL.out _ (hkW.alloc _)) (fun _=> ?_)
   try simp only[List.setIfInBounds_toArray,List.set_cons_zero,List.set_cons_succ]
   rw[hF]
   exact st210 _ W.heap.size x1 x2 x3 x4 x5 x6 x7 x8 x9 xa xb xc y1 y2 y3 y4 y5 y6 y7 y8 y9 ya yb yc (hkW.alloc _) (Blk.new W _ 99) hkW.size (hx1.kept ((Kept.refl W).alloc _)) (hx2.kept ((Kept.refl W).alloc _)) (hy1.kept ((Kept.refl W).alloc _)) (hy2.kept ((Kept.refl W).alloc _))
  ·go_simp
   refine hK.out _ _ (HALL.out _ (hkW.alloc _)) (fun _=> ?_)
   try simp only[List.setIfInBounds_toArray,List.set_cons_zero,List.set_cons_succ]
   rw[hF]
   exact st201 _ W.heap.size x1 x2 x3 x4 x5 x6 x7 x8 x9 xa xb xc y1 y2 y3 y4 y5 y6 y7 y8 y9 ya yb yc (hkW.alloc _) (Blk.new W _ 99) hkW.size (hx1.kept ((Kept.refl W).alloc _)) (hx2.kept ((Kept.refl W).alloc _)) (hy1.kept ((Kept.refl W).alloc _)) (hy2.kept ((Kept.refl W).alloc _))
 have st111:∀(W:World)(b5:Nat)(b6:Nat)(x1:Option Addr)(x2 x3:Nat)(x4:Option Addr)(x5 x6:Nat)(x7:Option Addr)(x8 x9:Nat)(xa:Option Addr)(xb xc:Nat),Kept w1 W→Blk W b5 #[.bool false,.slice none 0 0,.slice none 0 0,.bool false,.slice none 0 0,.slice none 0 0,.bool false,.bool false,.bool false] 99→w1.heap.size≤b5→Blk W b6 #[.bool false,.slice none 0 0,.slice none 0 0,.bool false,.slice none 0 0,.slice none 0 0,.bool false,.bool false,.bool false] 99→w1.heap.size≤b6→b5≠b6→Qv W (.agg #[.bool p1,.slice x1 x2 x3,.slice x4 x5 x6]) p1 P1 P2→Qv W (.agg #[.bool p2,.slice x7 x8 x9,.slice xa xb xc]) p2 P3 P4→F 3 #[true,true,true,false,true,true,false,false] {tmps:=#[Value.agg #[.bool s1,.slice a1 n1 c1,.slice a2 n2 c2,.bool s2,.slice a3 n3 c3,.slice a4 n4 c4,.bool li,.bool hi],Value.agg #[.bool t1,.slice b1 m1 d1,.slice b2 m2 d2,.bool t2,.slice b3 m3 d3,.slice b4 m4 d4,.bool lj,.bool hj],Value.pointer (some ⟨b0,0,none⟩),Value.pointer (some ⟨b0+1,0,none⟩),Value.bool false,Value.pointer (some ⟨b5,0,none⟩),Value.pointer (some ⟨b6,0,none⟩),Value.agg #[.bool s1,.slice a1 n1 c1,.slice a2 n2 c2,.bool s2,.slice a3 n3 c3,.slice a4 n4 c4,.bool li,.bool hi],Value.agg #[.bool p1,.slice x1 x2 x3,.slice x4 x5 x6,.bool p2,.slice x7 x8 x9,.slice xa xb xc,.bool li,.bool hi,.bool false],Value.agg #[.bool t1,.slice b1 m1 d1,.slice b2 m2 d2,.bool t2,.slice b3 m3 d3,.slice b4 m4 d4,.bool lj,.bool hj],undef,undef,undef,undef,undef,undef,undef,undef,undef,undef,undef,undef,undef,undef,undef,undef,undef,undef,undef,undef,undef,undef,undef,undef,undef,undef,undef,undef,undef,undef,undef,undef,undef,undef,undef,undef,undef,undef,undef,undef,undef],defers:=[]} W:=by
  intro W b5 b6 x1 x2 x3 x4 x5 x6 x7 x8 x9 xa xb xc hkW h5 ge5 h6 ge6 hne hx1 hx2
  rw[←hF]
  have hHeld:=HALL.out _ hkW
  refine wpAnyH_ready (rs:=[3]) (by kernel_rfl) (by simp) (AllReadyH.cons (o:=_) rfl (fun K hK=> ?_) AllReadyH.nil)
  ·go_simp
   go_at_call 47
   refine(hr2 _ (hk.trans hkW)).mono ?_
   rintro e w3 ⟨v3,rfl,⟨y1,y2,y3,y4,y5,y6,y7,y8,y9,ya,yb,yc,rfl,hy1,hy2⟩,hkn⟩
   refine hK.out _ _ (HALL.out _ (hkW.trans hkn)) (fun _=> ?_)
   try simp only[List.setIfInBounds_toArray,List.set_cons_zero,List.set_cons_succ]
   rw[hF]
   exact st211 _ b5 b6 x1 x2 x3 x4 x5 x6 x7 x8 x9 xa xb xc y1 y2 y3 y4 y5 y6 y7 y8 y9 ya yb yc (hkW.trans hkn) (h5.kept hkn) ge5 (h6.kept hkn) ge6 hne (hx1.kept hkn) (hx2.kept hkn) hy1 hy2
 have st110:∀(W:World)(b5:Nat)(x1:Option Addr)(x2 x3:Nat)(x4:Option Addr)(x5 x6:Nat)(x7:Option Addr)(x8 x9:Nat)(xa:Option Addr)(xb xc:Nat),Kept w1 W→Blk W b5 #[.bool false,.slice none 0 0,.slice none 0 0,.bool false,.slice none 0 0,.slice none 0 0,.bool false,.bool false,.bool false] 99→w1.heap.size≤b5→Qv W (.agg #[.bool p1,.slice x1 x2 x3,.slice x4 x5 x6]) p1 P1 P2→Qv W (.agg #[.bool p2,.slice x7 x8 x9,.slice xa xb xc]) p2 P3 P4→F 4 #[true,true,true,false,true,false,false,false] {tmps:=#[Value.agg #[.bool s1,.slice a1 n1 c1,.slice a2 n2 c2,.bool s2,.slice a3 n3 c3,.slice a4 n4 c4,.bool li,.bool hi],Value.agg #[.bool t1,.slice b1 m1 d1,.slice b2 m2 d2,.bool t2,.slice b3 m3 d3,.slice b4 m4 d4,.bool lj,.bool hj],Value.pointer (some ⟨b0,0,none⟩),Value.pointer (some ⟨b0+1,0,none⟩),Value.bool false,Value.pointer (some ⟨b5,0,none⟩),undef,Value.agg #[.bool s1,.slice a1 n1 c1,.slice a2 n2 c2,.bool s2,.slice a3 n3 c3,.slice a4 n4 c4,.bool li,.bool hi],Value.agg #[.bool p1,.slice x1 x2 x3,.slice x4 x5 x6,.bool p2,.slice x7 x8 x9,.slice xa xb xc,.bool li,.bool hi,.bool false],Value.agg #[.bool t1,.slice b1 m1 d1,.slice b2 m2 d2,.bool t2,.slice b3 m3 d3,.slice b4 m4 d4,.bool lj,.bool hj],undef,undef,undef,undef,undef,undef,undef,undef,undef,undef,undef,undef,undef,undef,undef,undef,undef,undef,undef,undef,undef,undef,undef,undef,undef,undef,undef,undef,undef,undef,undef,undef,undef,undef,undef,undef,undef,undef,undef,undef,undef],defers:=[]} W:=by
  intro W b5 x1 x2 x3 x4 x5 x6 x7 x8 x9 xa xb xc hkW h5 ge5 hx1 hx2
  rw[←hF]
  have hHeld:=HALL.out _ hkW
  refine wpAnyH_ready (rs:=[3,5]) (by kernel_rfl) (by simp) (AllReadyH.cons (o:=_) rfl (fun K hK=> ?_) (AllReadyH.cons (o:=_) rfl (fun K hK=> ?_) AllReadyH.nil))
  ·go_simp
   go_at_call 47
   refine(hr2 _ (hk.trans hkW)).mono ?_
   rintro e w3 ⟨v3,rfl,⟨y1,y2,y3,y4,y5,y6,y7,y8,y9,ya,yb,yc,rfl,hy1,hy2⟩,hkn⟩
   refine hK.out _ _ (HALL.out _ (hkW.trans hkn)) (fun _=> ?_)
   try simp only[List.setIfInBounds_toArray,List.set_cons_zero,List.set_cons_succ]
   rw[hF]
   exact st210 _ b5 x1 x2 x3 x4 x5 x6 x7 x8 x9 xa xb xc y1 y2 y3 y4 y5 y6 y7 y8 y9 ya yb yc (hkW.trans hkn) (h5.kept hkn) ge5 (hx1.kept hkn) (hx2.kept hkn) hy1 hy2
  ·go_simp
   refine hK.out _ _ (HALL.out _ (hkW.alloc _)) (fun _=> ?_)
   try simp only[List.setIfInBounds_toArray,List.set_cons_zero,List.set_cons_succ]
   rw[hF]
   exact st111 _ b5 W.heap.size x1 x2 x3 x4 x5 x6 x7 x8 x9 xa xb xc (hkW.alloc _) (h5.kept ((Kept.refl W).alloc _)) ge5 (Blk.new W _ 99) hkW.size (Nat.ne_of_lt h5.lt) (hx1.kept ((Kept.refl W).alloc _)) (hx2.kept ((Kept.refl W).alloc _))
 have st101:∀(W:World)(b6:Nat)(x1:Option Addr)(x2 x3:Nat)(x4:Option Addr)(x5 x6:Nat)(x7:Option Addr)(x8 x9:Nat)(xa:Option Addr)(xb xc:Nat),Kept w1 W→Blk W b6 #[.bool false,.slice none 0 0,.slice none 0 0,.bool false,.slice none 0 0,.slice none 0 0,.bool false,.bool false,.bool false] 99→w1.heap.size≤b6→Qv W (.agg #[.bool p1,.slice x1 x2 x3,.slice x4 x5 x6]) p1 P1 P2→Qv W (.agg #[.bool p2,.slice x7 x8 x9,.slice xa xb xc]) p2 P3 P4→F 4 #[true,true,true,false,false,true,false,false] {tmps:=#[Value.agg #[.bool s1,.slice a1 n1 c1,.slice a2 n2 c2,.bool s2,.slice a3 n3 c3,.slice a4 n4 c4,.bool li,.bool hi],Value.agg #[.bool t1,.slice b1 m1 d1,.slice b2 m2 d2,.bool t2,.slice b3 m3 d3,.slice b4 m4 d4,.bool lj,.bool hj],Value.pointer (some ⟨b0,0,none⟩),Value.pointer (some ⟨b0+1,0,none⟩),Value.bool false,undef,Value.pointer (some ⟨b6,0,none⟩),Value.agg #[.bool s1,.slice a1 n1 c1,.slice a2 n2 c2,.bool s2,.slice a3 n3 c3,.slice a4 n4 c4,.bool li,.bool hi],Value.agg #[.bool p1,.slice x1 x2 x3,.slice x4 x5 x6,.bool p2,.slice x7 x8 x9,.slice xa xb xc,.bool li,.bool hi,.bool false],Value.agg #[.bool t1,.slice b1 m1 d1,.slice b2 m2 d2,.bool t2,.slice b3 m3 d3,.slice b4 m4 d4,.bool lj,.bool hj],undef,undef,undef,undef,undef,undef,undef,undef,undef,undef,undef,undef,undef,undef,undef,undef,undef,undef,undef,undef,undef,undef,undef,undef,undef,undef,undef,undef,undef,undef,undef,undef,undef,undef,undef,undef,undef,undef,undef,undef,undef],defers:=[]} W:=by
  intro W b6 x1 x2 x3 x4 x5 x6 x7 x8 x9 xa xb xc hkW h6 ge6 hx1 hx2
  rw[←hF]
  have hHeld:=HALL.out _ hkW
  refine wpAnyH_ready (rs:=[3,4]) (by kernel_rfl) (by simp) (AllReadyH.cons (o:=_) rfl (fun K hK=> ?_) (AllReadyH.cons (o:=_) rfl (fun K hK=> ?_) AllReadyH.nil))
  ·go_simp
   go_at_call 47
   refine(hr2 _ (hk.trans hkW)).mono ?_
   rintro e w3 ⟨v3,rfl,⟨y1,y2,y3,y4,y5,y6,y7,y8,y9,ya,yb,yc,rfl,hy1,hy2⟩,hkn⟩
   refine hK.out _ _ (HALL.out _ (hkW.trans hkn)) (fun _=> ?_)
   try simp only[List.setIfInBounds_toArray,List.set_cons_zero,List.set_cons_succ]
   rw[hF]
   exact st201 _ b6 x1 x2 x3 x4 x5 x6 x7 x8 x9 xa xb xc y1 y2 y3 y4 y5 y6 y7 y8 y9 ya yb yc (hkW.trans hkn) (h6.kept hkn) ge6 (hx1.kept hkn) (hx2.kept hkn) hy1 hy2
  ·go_simp
   refine hK.out _ _ (HALL.out _ (hkW.alloc _)) (fun _=> ?_)
   try simp only[List.setIfInBounds_toArray,List.set_cons_zero,List.set_cons_succ]
   rw[hF]
   exact st111 _ W.heap.size b6 x1 x2 x3 x4 x5 x6 x7 x8 x9 xa xb xc (hkW.alloc _) (Blk.new W _ 99) hkW.size (h6.kept ((Kept.refl W).alloc _)) ge6 (Nat.ne_of_gt h6.lt) (hx1.kept ((Kept.refl W).alloc _)) (hx2.kept ((Kept.refl W).alloc _))
 have st100:∀(W:World)(x1:Option Addr)(x2 x3:Nat)(x4:Option Addr)(x5 x6:Nat)(x7:Option Addr)(x8 x9:Nat)(xa:Option Addr)(xb xc:Nat),Kept w1 W→Qv W (.agg #[.bool p1,.slice x1 x2 x3,.slice x4 x5 x6]) p1 P1 P2→Qv W (.agg #[.bool p2,.slice x7 x8 x9,.slice xa xb xc]) p2 P3 P4→F 5 #[true,true,true,false,false,false,false,false] {tmps:=#[Value.agg #[.bool s1,.slice a1 n1 c1,.slice a2 n2 c2,.bool s2,.slice a3 n3 c3,.slice a4 n4 c4,.bool li,.bool hi],Value.agg #[.bool t1,.slice b1 m1 d1,.slice b2 m2 d2,.bool t2,.slice b3 m3 d3,.slice b4 m4 d4,.bool lj,.bool hj],Value.pointer (some ⟨b0,0,none⟩),Value.pointer (some ⟨b0+1,0,none⟩),Value.bool false,undef,undef,Value.agg #[.bool s1,.slice a1 n1 c1,.slice a2 n2 c2,.bool s2,.slice a3 n3 c3,.slice a4 n4 c4,.bool li,.bool hi],Value.agg #[.bool p1,.slice x1 x2 x3,.slice x4 x5 x6,.bool p2,.slice x7 x8 x9,.slice xa xb xc,.bool li,.bool hi,.bool false],Value.agg #[.bool t1,.slice b1 m1 d1,.slice b2 m2 d2,.bool t2,.slice b3 m3 d3,.slice b4 m4 d4,.bool lj,.bool hj],undef,undef,undef,undef,undef,undef,undef,undef,undef,undef,undef,undef,undef,undef,undef,undef,undef,undef,undef,undef,undef,undef,undef,undef,undef,undef,undef,undef,undef,undef,undef,undef,undef,undef,undef,undef,undef,undef,undef,undef,undef],defers:=[]} W:=by
  intro W x1 x2 x3 x4 x5 x6 x7 x8 x9 xa xb xc hkW hx1 hx2
  rw[←hF]
  have hHeld:=HALL.out _ hkW
  refine wpAnyH_ready (rs:=[3,4,5]) (by kernel_rfl) (by simp) (AllReadyH.cons (o:=_) rfl (fun K hK=> ?_) (AllReadyH.cons (o:=_) rfl (fun K hK=> ?_) (AllReadyH.cons (o:=_) rfl (fun K hK=> ?_) AllReadyH.nil)))
  ·go_simp
   go_at_call 47
   refine(hr2 _ (hk.trans hkW)).mono ?_
   rintro e w3 ⟨v3,rfl,⟨y1,y2,y3,y4,y5,y6,y7,y8,y9,ya,yb,yc,rfl,hy1,hy2⟩,hkn⟩
   refine hK.out _ _ (HALL.out _ (hkW.trans hkn)) (fun _=> ?_)
   try simp only[List.setIfInBounds_toArray,List.set_cons_zero,List.set_cons_succ]
   rw[hF]
   exact st200 _ x1 x2 x3 x4 x5 x6 x7 x8 x9 xa xb xc y1 y2 y3 y4 y5 y6 y7 y8 y9 ya yb yc (hkW.trans hkn) (hx1.kept hkn) (hx2.kept hkn) hy1 hy2
  ·go_simp
   refine hK.out _ _ (HALL.out _ (hkW.alloc _)) (fun _=> ?_)
   try simp only[List.setIfInBounds_toArray,List.set_cons_zero,List.set_cons_succ]
   rw[hF]
   exact st110 _ W.heap.size x1 x2 x3 x4 x5 x6 x7 x8 x9 xa xb xc (hkW.alloc _) (Blk.new W _ 99) hkW.size (hx1.kept ((Kept.refl W).alloc _)) (hx2.kept ((Kept.refl W).alloc _))
  ·go_simp
   refine hK.out _ _ (HALL.out _ (hkW.alloc _)) (fun _=> ?_)
   try simp only[List.setIfInBounds_toArray,List.set_cons_zero,List.set_cons_succ]
   rw[hF]
   exact st101 _ W.heap.size x1 x2 x3 x4 x5 x6 x7 x8 x9 xa xb xc (hkW.alloc _) (Blk.new W _ 99) hkW.size (hx1.kept ((Kept.refl W).alloc _)) (hx2.kept ((Kept.refl W).alloc _))
 have st011:∀(W:World)(b5:Nat)(b6:Nat),Kept w1 W→Blk W b5 #[.bool false,.slice none 0 0,.slice none 0 0,.bool false,.slice none 0 0,.slice none 0 0,.bool false,.bool false,.bool false] 99→w1.heap.size≤b5→Blk W b6 #[.bool false,.slice none 0 0,.slice none 0 0,.bool false,.slice none 0 0,.slice none 0 0,.bool false,.bool false,.bool false] 99→w1.heap.size≤b6→b5≠b6→F 4 #[true,false,true,false,true,true,false,false] {tmps:=#[Value.agg #[.bool s1,.slice a1 n1 c1,.slice a2 n2 c2,.bool s2,.slice a3 n3 c3,.slice a4 n4 c4,.bool li,.bool hi],Value.agg #[.bool t1,.slice b1 m1 d1,.slice b2 m2 d2,.bool t2,.slice b3 m3 d3,.slice b4 m4 d4,.bool lj,.bool hj],Value.pointer (some ⟨b0,0,none⟩),Value.pointer (some ⟨b0+1,0,none⟩),Value.bool false,Value.pointer (some ⟨b5,0,none⟩),Value.pointer (some ⟨b6,0,none⟩),Value.agg #[.bool s1,.slice a1 n1 c1,.slice a2 n2 c2,.bool s2,.slice a3 n3 c3,.slice a4 n4 c4,.bool li,.bool hi],undef,Value.agg #[.bool t1,.slice b1 m1 d1,.slice b2 m2 d2,.bool t2,.slice b3 m3 d3,.slice b4 m4 d4,.bool lj,.bool hj],undef,undef,undef,undef,undef,undef,undef,undef,undef,undef,undef,undef,undef,undef,undef,undef,undef,undef,undef,undef,undef,undef,undef,undef,undef,undef,undef,undef,undef,undef,undef,undef,undef,undef,undef,undef,undef,undef,undef,undef,undef],defers:=[]} W:=by
  intro W b5 b6 hkW h5 ge5 h6 ge6 hne
  rw[←hF]
  have hHeld:=HALL.out _ hkW
  refine wpAnyH_ready (rs:=[1]) (by kernel_rfl) (by simp) (AllReadyH.cons (o:=_) rfl (fun K hK=> ?_) AllReadyH.nil)
  ·go_simp
   go_at_call 47
   refine(hr1 _ (hk.trans hkW)).mono ?_
   rintro e w3 ⟨v3,rfl,⟨x1,x2,x3,x4,x5,x6,x7,x8,x9,xa,xb,xc,rfl,hx1,hx2⟩,hkn⟩
   refine hK.out _ _ (HALL.out _ (hkW.trans hkn)) (fun _=> ?_)
   try simp only[List.setIfInBounds_toArray,List.set_cons_zero,List.set_cons_succ]
   rw[hF]
   exact st111 _ b5 b6 x1 x2 x3 x4 x5 x6 x7 x8 x9 xa xb xc (hkW.trans hkn) (h5.kept hkn) ge5 (h6.kept hkn) ge6 hne hx1 hx2
 have st010:∀(W:World)(b5:Nat),Kept w1 W→Blk W b5 #[.bool false,.slice none 0 0,.slice none 0 0,.bool false,.slice none 0 0,.slice none 0 0,.bool false,.bool false,.bool false] 99→w1.heap.size≤b5→F 5 #[true,false,true,false,true,false,false,false] {tmps:=#[Value.agg #[.bool s1,.slice a1 n1 c1,.slice a2 n2 c2,.bool s2,.slice a3 n3 c3,.slice a4 n4 c4,.bool li,.bool hi],Value.agg #[.bool t1,.slice b1 m1 d1,.slice b2 m2 d2,.bool t2,.slice b3 m3 d3,.slice b4 m4 d4,.bool lj,.bool hj],Value.pointer (some ⟨b0,0,none⟩),Value.pointer (some ⟨b0+1,0,none⟩),Value.bool false,Value.pointer (some ⟨b5,0,none⟩),undef,Value.agg #[.bool s1,.slice a1 n1 c1,.slice a2 n2 c2,.bool s2,.slice a3 n3 c3,.slice a4 n4 c4,.bool li,.bool hi],undef,Value.agg #[.bool t1,.slice b1 m1 d1,.slice b2 m2 d2,.bool t2,.slice b3 m3 d3,.slice b4 m4 d4,.bool lj,.bool hj],undef,undef,undef,undef,undef,undef,undef,undef,undef,undef,undef,undef,undef,undef,undef,undef,undef,undef,undef,undef,undef,undef,undef,undef,undef,undef,undef,undef,undef,undef,undef,undef,undef,undef,undef,undef,undef,undef,undef,undef,undef],defers:=[]} W:=by
  intro W b5 hkW h5 ge5
  rw[←hF]
  have hHeld:=HALL.out _ hkW
  refine wpAnyH_ready (rs:=[1,5]) (by kernel_rfl) (by simp) (AllReadyH.cons (o:=_) rfl (fun K hK=> ?_) (AllReadyH.cons (o:=_) rfl (fun K hK=> ?_) AllReadyH.nil))
  ·go_simp
   go_at_call 47
   refine(hr1 _ (hk.trans hkW)).mono ?_
   rintro e w3 ⟨v3,rfl,⟨x1,x2,x3,x4,x5,x6,x7,x8,x9,xa,xb,xc,rfl,hx1,hx2⟩,hkn⟩
   refine hK.out _ _ (HALL.out _ (hkW.trans hkn)) (fun _=> ?_)
   try simp only[List.setIfInBounds_toArray,List.set_cons_zero,List.set_cons_succ]
   rw[hF]
   exact st110 _ b5 x1 x2 x3 x4 x5 x6 x7 x8 x9 xa xb xc (hkW.trans hkn) (h5.kept hkn) ge5 hx1 hx2
  ·go_simp
   refine hK.out _ _ (HALL.out _ (hkW.alloc _)) (fun _=> ?_)
   try simp only[List.setIfInBounds_toArray,List.set_cons_zero,List.set_cons_succ]
   rw[hF]
   exact st011 _ b5 W.heap.size (hkW.alloc _) (h5.kept ((Kept.refl W).alloc _)) ge5 (Blk.new W _ 99) hkW.size (Nat.ne_of_lt h5.lt)
 have st001:∀(W:World)(b6:Nat),Kept w1 W→Blk W b6 #[.bool false,.slice none 0 0,.slice none 0 0,.bool false,.slice none 0 0,.slice none 0 0,.bool false,.bool false,.bool false] 99→w1.heap.size≤b6→F 5 #[true,false,true,false,false,true,false,false] {tmps:=#[Value.agg #[.bool s1,.slice a1 n1 c1,.slice a2 n2 c2,.bool s2,.slice a3 n3 c3,.slice a4 n4 c4,.bool li,.bool hi],Value.agg #[.bool t1,.slice b1 m1 d1,.slice b2 m2 d2,.bool t2,.slice b3 m3 d3,.slice b4 m4 d4,.bool lj,.bool hj],Value.pointer (some ⟨b0,0,none⟩),Value.pointer (some ⟨b0+1,0,none⟩),Value.bool false,undef,Value.pointer (some ⟨b6,0,none⟩),Value.agg #[.bool s1,.slice a1 n1 c1,.slice a2 n2 c2,.bool s2,.slice a3 n3 c3,.slice a4 n4 c4,.bool li,.bool hi],undef,Value.agg #[.bool t1,.slice b1 m1 d1,.slice b2 m2 d2,.bool t2,.slice b3 m3 d3,.slice b4 m4 d4,.bool lj,.bool hj],undef,undef,undef,undef,undef,undef,undef,undef,undef,undef,undef,undef,undef,undef,undef,undef,undef,undef,undef,undef,undef,undef,undef,undef,undef,undef,undef,undef,undef,undef,undef,undef,undef,undef,undef,undef,undef,undef,undef,undef,undef],defers:=[]} W:=by
  intro W b6 hkW h6 ge6
  rw[←hF]
  have hHeld:=HALL.out _ hkW
  refine wpAnyH_ready (rs:=[1,4]) (by kernel_rfl) (by simp) (AllReadyH.cons (o:=_) rfl (fun K hK=> ?_) (AllReadyH.cons (o:=_) rfl (fun K hK=> ?_) AllReadyH.nil))
  ·go_simp
   go_at_call 47
   refine(hr1 _ (hk.trans hkW)).mono ?_
   rintro e w3 ⟨v3,rfl,⟨x1,x2,x3,x4,x5,x6,x7,x8,x9,xa,xb,xc,rfl,hx1,hx2⟩,hkn⟩
   refine hK.out _ _ (HALL.out _ (hkW.trans hkn)) (fun _=> ?_)
   try simp only[List.setIfInBounds_toArray,List.set_cons_zero,List.set_cons_succ]
   rw[hF]
   exact st101 _ b6 x1 x2 x3 x4 x5 x6 x7 x8 x9 xa xb xc (hkW.trans hkn) (h6.kept hkn) ge6 hx1 hx2
  ·go_simp
   refine hK.out _ _ (HALL.out _ (hkW.alloc _)) (fun _=> ?_)
   try simp only[List.setIfInBounds_toArray,List.set_cons_zero,List.set_cons_succ]
   rw[hF]
   exact st011 _ W.heap.size b6 (hkW.alloc _) (Blk.new W _ 99) hkW.size (h6.kept ((Kept.refl W).alloc _)) ge6 (Nat.ne_of_gt h6.lt)
 have st000:∀(W:World),Kept w1 W→F 6 #[true,false,true,false,false,false,false,false] {tmps:=#[Value.agg #[.bool s1,.slice a1 n1 c1,.slice a2 n2 c2,.bool s2,.slice a3 n3 c3,.slice a4 n4 c4,.bool li,.bool hi],Value.agg #[.bool t1,.slice b1 m1 d1,.slice b2 m2 d2,.bool t2,.slice b3 m3 d3,.slice b4 m4 d4,.bool lj,.bool hj],Value.pointer (some ⟨b0,0,none⟩),Value.pointer (some ⟨b0+1,0,none⟩),Value.bool false,undef,undef,Value.agg #[.bool s1,.slice a1 n1 c1,.slice a2 n2 c2,.bool s2,.slice a3 n3 c3,.slice a4 n4 c4,.bool li,.bool hi],undef,Value.agg #[.bool t1,.slice b1 m1 d1,.slice b2 m2 d2,.bool t2,.slice b3 m3 d3,.slice b4 m4 d4,.bool lj,.bool hj],undef,undef,undef,undef,undef,undef,undef,undef,undef,undef,undef,undef,undef,undef,undef,undef,undef,undef,undef,undef,undef,undef,undef,undef,undef,undef,undef,undef,undef,undef,undef,undef,undef,undef,undef,undef,undef,undef,undef,undef,undef],defers:=[]} W:=by
  intro W hkW
  rw[←hF]
  have hHeld:=HALL.out _ hkW
  refine wpAnyH_ready (rs:=[1,4,5]) (by kernel_rfl) (by simp) (AllReadyH.cons (o:=_) rfl (fun K hK=> ?_) (AllReadyH.cons (o:=_) rfl (fun K hK=> ?_) (AllReadyH.cons (o:=_) rfl (fun K hK=> ?_) AllReadyH.nil)))
  ·go_simp
   go_at_call 47
   refine(hr1 _ (hk.trans hkW)).mono ?_
   rintro e w3 ⟨v3,rfl,⟨x1,x2,x3,x4,x5,x6,x7,x8,x9,xa,xb,xc,rfl,hx1,hx2⟩,hkn⟩
   refine hK.out _ _ (HALL.out _ (hkW.trans hkn)) (fun _=> ?_)
   try simp only[List.setIfInBounds_toArray,List.set_cons_zero,List.set_cons_succ]
   rw[hF]
   exact st100 _ x1 x2 x3 x4 x5 x6 x7 x8 x9 xa xb xc (hkW.trans hkn) hx1 hx2
  ·go_simp
   refine hK.out _ _ (HALL.out _ (hkW.alloc _)) (fun _=> ?_)
   try simp only[List.setIfInBounds_toArray,List.set_cons_zero,List.set_cons_succ]
   rw[hF]
   exact st010 _ W.heap.size (hkW.alloc _) (Blk.new W _ 99) hkW.size
  ·go_simp
   refine hK.out _ _ (HALL.out _ (hkW.alloc _)) (fun _=> ?_)
   try simp only[List.setIfInBounds_toArray,List.set_cons_zero,List.set_cons_succ]
   rw[hF]
   exact st001 _ W.heap.size (hkW.alloc _) (Blk.new W _ 99) hkW.size
 exact st000 _ (Kept.refl w1).drew
end Go.Proofs.YtbapfnpbamnmpaaGreatDoor
