/- A part of the proof that SearchCandidates answers true for every input of bulk at most 1048576: conditions: the row's own. -/
import Derived.Test.YtancebninmoipaaGreatDoorP06
import Derived.Defers
import Derived.Test.YtancebninmoipaaGreatDoorP03
import Derived.Deep.Upon
namespace Go.Proofs.YtancebninmoipaaGreatDoor
open Go.Eng (Kept KW KeptB)
section
open Go Go.RowKit Go.Dig
theorem number_weak{w:World}{v:Value}{neg:Bool}{N D:Nat}(h:Rt w v neg N D)(hT:Laid w)(hs:small N D=false):
 Calls Tryz.prog 184 #[v] w fun e w'=>(e= .panicked failed∧Kept w w')∨(e= .returned (.agg #[.bool false,.slice none 0 0,.slice none 0 0])∧Kept w w'∧Hid False):=
 (number_big h hT hs).mono fun _ _ h=>.inl h
set_option maxHeartbeats 4000000 in
set_option maxRecDepth 100000 in
theorem iread_big1{w:World}{v:Value}{s1 s2 li hi:Bool}{N1 D1 N2 D2:Nat}(h:Ivl w v ⟨s1,N1,D1,s2,N2,D2,li,hi⟩)(hT:Laid w)(hf:small N1 D1=false):
 Calls Tryz.prog 108 #[v] w fun e w'=>e= .panicked failed∧Kept w w':=by
 obtain⟨a,n,c,a',n',c',b,m,e,b',m',e',rfl,h1,h2⟩:=h
 have hr1:=fun(w':World)(k:Kept w w')=>number_weak (h1.kept k) (hT.kept k) hf
 have hb1:=Blk.new w #[.bool s1,.slice a n c,.slice a' n' c',.bool s2,.slice b m e,.slice b' m' e',.bool li,.bool hi] 43
 have hk1:Kept w (w.alloc (.cells #[.bool s1,.slice a n c,.slice a' n' c',.bool s2,.slice b m e,.slice b' m' e',.bool li,.bool hi] 43)):=(Kept.refl _).alloc _
 have e1:(w.alloc (.cells #[.bool s1,.slice a n c,.slice a' n' c',.bool s2,.slice b m e,.slice b' m' e',.bool li,.bool hi] 43)).heap.size=w.heap.size+1:=by simp[go_sem]
 have hb2:=Blk.new (w.alloc (.cells #[.bool s1,.slice a n c,.slice a' n' c',.bool s2,.slice b m e,.slice b' m' e',.bool li,.bool hi] 43)) #[.bool false,.slice none 0 0,.slice none 0 0,.bool false,.slice none 0 0,.slice none 0 0,.bool false,.bool false,.bool false] 180
 have hk2:Kept (w.alloc (.cells #[.bool s1,.slice a n c,.slice a' n' c',.bool s2,.slice b m e,.slice b' m' e',.bool li,.bool hi] 43)) ((w.alloc (.cells #[.bool s1,.slice a n c,.slice a' n' c',.bool s2,.slice b m e,.slice b' m' e',.bool li,.bool hi] 43)).alloc (.cells #[.bool false,.slice none 0 0,.slice none 0 0,.bool false,.slice none 0 0,.slice none 0 0,.bool false,.bool false,.bool false] 180)):=(Kept.refl _).alloc _
 rw[e1] at hb2
 have hb1:=hb1.kept hk2
 have hk:=hk1.trans hk2
 clear hk1 hk2 e1 h1 h2
 go_enter Tryz.func108,Tryz.ntmps108
 go_wp2_with fail
 generalize ((w.alloc (.cells #[.bool s1,.slice a n c,.slice a' n' c',.bool s2,.slice b m e,.slice b' m' e',.bool li,.bool hi] 43)).alloc (.cells #[.bool false,.slice none 0 0,.slice none 0 0,.bool false,.slice none 0 0,.slice none 0 0,.bool false,.bool false,.bool false] 180))=w1 at*
 generalize hbE:w.heap.size=b0 at hb1 hb2⊢
 have HBE:=Lib.hid hbE;clear hbE
 obtain⟨p0,p1,p2,p3,p4,p5,p6,p7,_⟩:=hb1.facts8
 have hall:∀w',Kept w1 w'→Kept w1 w'∧w'.cell? ⟨b0,0,none⟩=some (.bool s1)∧w'.cell? ⟨b0,1,none⟩=some (.slice a n c)∧w'.cell? ⟨b0,2,none⟩=some (.slice a' n' c')∧w'.cell? ⟨b0,3,none⟩=some (.bool s2)∧w'.cell? ⟨b0,4,none⟩=some (.slice b m e)∧w'.cell? ⟨b0,5,none⟩=some (.slice b' m' e')∧w'.cell? ⟨b0,6,none⟩=some (.bool li)∧w'.cell? ⟨b0,7,none⟩=some (.bool hi):=
  fun w' k=>⟨k,k.cell p0,k.cell p1,k.cell p2,k.cell p3,k.cell p4,k.cell p5,k.cell p6,k.cell p7⟩
 have HALL:=Lib.hid hall;clear hall
 go_region_held (fun w'=>Kept w1 w'∧w'.cell? ⟨b0,0,none⟩=some (.bool s1)∧w'.cell? ⟨b0,1,none⟩=some (.slice a n c)∧w'.cell? ⟨b0,2,none⟩=some (.slice a' n' c')∧w'.cell? ⟨b0,3,none⟩=some (.bool s2)∧w'.cell? ⟨b0,4,none⟩=some (.slice b m e)∧w'.cell? ⟨b0,5,none⟩=some (.slice b' m' e')∧w'.cell? ⟨b0,6,none⟩=some (.bool li)∧w'.cell? ⟨b0,7,none⟩=some (.bool hi))
  (first|(have hg:=hF;exact hF.out.elim)|(have hg:=hS3;refine HALL.out _ ?_;first|with_reducible exact hS3|with_reducible exact Kept.alloc hS3 _|with_reducible exact Kept.but hS3 (st9 _ _ _ _ _ _ _ _ _ _ _) (Nat.le_refl _)|with_reducible exact Kept.but hS3 (st9 _ _ _ _ _ _ _ _ _ _ _) hS2.size)|(have hg:=hS2;refine HALL.out _ ?_;first|with_reducible exact hS2|with_reducible exact Kept.alloc hS2 _)|(refine HALL.out _ ?_;first|with_reducible exact(Kept.refl w1).drew|with_reducible exact((Kept.refl w1).alloc _).drew))
  (first|(have hg:=hF;go_at_call 184;refine Calls.mono (R:=fun e w''=>e= .returned (.agg #[.bool false,.slice none 0 0,.slice none 0 0])) hF.out.elim ?_;rintro e w3 rfl;have hbF1:Blk w3 w1.heap.size #[.bool false,.slice none 0 0,.slice none 0 0,.bool false,.slice none 0 0,.slice none 0 0,.bool false,.bool false,.bool false] 180:=hF.out.elim;have hbF2:Blk w3 w2.heap.size #[.bool false,.slice none 0 0,.slice none 0 0,.bool false,.slice none 0 0,.slice none 0 0,.bool false,.bool false,.bool false] 180:=hF.out.elim;obtain⟨k0,k1,k2,k3,k4,k5,k6,k7,k8,j0,j1,j2,j3,j4,j5,j6,j7,j8⟩:=hbF1.facts9;obtain⟨m0,m1,m2,m3,m4,m5,m6,m7,m8,n0,n1,n2,n3,n4,n5,n6,n7,n8⟩:=hbF2.facts9)|(go_at_call 184;refine(hr1 _ (hk.trans (by first|with_reducible exact(Kept.refl w1).drew|with_reducible exact((Kept.refl w1).alloc _).drew))).mono ?_;rintro e w2 (⟨rfl,hk2⟩|⟨rfl,hk2,hF⟩);(have hS2:Kept w1 w2:=(by first|with_reducible exact(Kept.refl w1).drew.trans hk2|with_reducible exact((Kept.refl w1).alloc _).drew.trans hk2);exact⟨rfl,rfl,hk.trans hS2⟩)))
 all_goals exact hF.out.elim
set_option maxHeartbeats 4000000 in
set_option maxRecDepth 100000 in
theorem iread_big2{w:World}{v:Value}{s1 s2 li hi:Bool}{N1 D1 N2 D2:Nat}(h:Ivl w v ⟨s1,N1,D1,s2,N2,D2,li,hi⟩)(hT:Laid w)(hf:small N1 D1=true∧small N2 D2=false):
 Calls Tryz.prog 108 #[v] w fun e w'=>e= .panicked failed∧Kept w w':=by
 obtain⟨a,n,c,a',n',c',b,m,e,b',m',e',rfl,h1,h2⟩:=h
 have hr1:=fun(w':World)(k:Kept w w')=>number_ok (h1.kept k) (hT.kept k) hf.1
 have hr2:=fun(w':World)(k:Kept w w')=>number_weak (h2.kept k) (hT.kept k) hf.2
 generalize hpE:(s1&&decide (0<N1))=q1 at hr1
 have HPE:=Lib.hid hpE;clear hpE
 have hb1:=Blk.new w #[.bool s1,.slice a n c,.slice a' n' c',.bool s2,.slice b m e,.slice b' m' e',.bool li,.bool hi] 43
 have hk1:Kept w (w.alloc (.cells #[.bool s1,.slice a n c,.slice a' n' c',.bool s2,.slice b m e,.slice b' m' e',.bool li,.bool hi] 43)):=(Kept.refl _).alloc _
 have e1:(w.alloc (.cells #[.bool s1,.slice a n c,.slice a' n' c',.bool s2,.slice b m e,.slice b' m' e',.bool li,.bool hi] 43)).heap.size=w.heap.size+1:=by simp[go_sem]
 have hb2:=Blk.new (w.alloc (.cells #[.bool s1,.slice a n c,.slice a' n' c',.bool s2,.slice b m e,.slice b' m' e',.bool li,.bool hi] 43)) #[.bool false,.slice none 0 0,.slice none 0 0,.bool false,.slice none 0 0,.slice none 0 0,.bool false,.bool false,.bool false] 180
 have hk2:Kept (w.alloc (.cells #[.bool s1,.slice a n c,.slice a' n' c',.bool s2,.slice b m e,.slice b' m' e',.bool li,.bool hi] 43)) ((w.alloc (.cells #[.bool s1,.slice a n c,.slice a' n' c',.bool s2,.slice b m e,.slice b' m' e',.bool li,.bool hi] 43)).alloc (.cells #[.bool false,.slice none 0 0,.slice none 0 0,.bool false,.slice none 0 0,.slice none 0 0,.bool false,.bool false,.bool false] 180)):=(Kept.refl _).alloc _
 rw[e1] at hb2
 have hb1:=hb1.kept hk2
 have hk:=hk1.trans hk2
 clear hk1 hk2 e1 h1 h2
 go_enter Tryz.func108,Tryz.ntmps108
 go_wp2_with fail
 generalize ((w.alloc (.cells #[.bool s1,.slice a n c,.slice a' n' c',.bool s2,.slice b m e,.slice b' m' e',.bool li,.bool hi] 43)).alloc (.cells #[.bool false,.slice none 0 0,.slice none 0 0,.bool false,.slice none 0 0,.slice none 0 0,.bool false,.bool false,.bool false] 180))=w1 at*
 generalize hbE:w.heap.size=b0 at hb1 hb2⊢
 have HBE:=Lib.hid hbE;clear hbE
 obtain⟨p0,p1,p2,p3,p4,p5,p6,p7,_⟩:=hb1.facts8
 have hall:∀w',Kept w1 w'→Kept w1 w'∧w'.cell? ⟨b0,0,none⟩=some (.bool s1)∧w'.cell? ⟨b0,1,none⟩=some (.slice a n c)∧w'.cell? ⟨b0,2,none⟩=some (.slice a' n' c')∧w'.cell? ⟨b0,3,none⟩=some (.bool s2)∧w'.cell? ⟨b0,4,none⟩=some (.slice b m e)∧w'.cell? ⟨b0,5,none⟩=some (.slice b' m' e')∧w'.cell? ⟨b0,6,none⟩=some (.bool li)∧w'.cell? ⟨b0,7,none⟩=some (.bool hi):=
  fun w' k=>⟨k,k.cell p0,k.cell p1,k.cell p2,k.cell p3,k.cell p4,k.cell p5,k.cell p6,k.cell p7⟩
 have HALL:=Lib.hid hall;clear hall
 go_region_held (fun w'=>Kept w1 w'∧w'.cell? ⟨b0,0,none⟩=some (.bool s1)∧w'.cell? ⟨b0,1,none⟩=some (.slice a n c)∧w'.cell? ⟨b0,2,none⟩=some (.slice a' n' c')∧w'.cell? ⟨b0,3,none⟩=some (.bool s2)∧w'.cell? ⟨b0,4,none⟩=some (.slice b m e)∧w'.cell? ⟨b0,5,none⟩=some (.slice b' m' e')∧w'.cell? ⟨b0,6,none⟩=some (.bool li)∧w'.cell? ⟨b0,7,none⟩=some (.bool hi))
  (first|(have hg:=hF;exact hF.out.elim)|(have hg:=hS3;refine HALL.out _ ?_;first|with_reducible exact hS3|with_reducible exact Kept.alloc hS3 _|with_reducible exact Kept.but hS3 (st9 _ _ _ _ _ _ _ _ _ _ _) (Nat.le_refl _)|with_reducible exact Kept.but hS3 (st9 _ _ _ _ _ _ _ _ _ _ _) hS2.size)|(have hg:=hS2;refine HALL.out _ ?_;first|with_reducible exact hS2|with_reducible exact Kept.alloc hS2 _)|(refine HALL.out _ ?_;first|with_reducible exact(Kept.refl w1).drew|with_reducible exact((Kept.refl w1).alloc _).drew))
  (first|(have hg:=hS2;go_at_call 184;refine(hr2 _ (hk.trans (by first|with_reducible exact hS2|with_reducible exact hS2.alloc _))).mono ?_;rintro e w3 (⟨rfl,hk3⟩|⟨rfl,hk3,hF⟩);(have hS3:Kept w1 w3:=(by first|with_reducible exact hS2.trans hk3|with_reducible exact(hS2.alloc _).trans hk3);exact⟨rfl,rfl,hk.trans hS3⟩);have hbF1:Blk w3 w1.heap.size #[.bool false,.slice none 0 0,.slice none 0 0,.bool false,.slice none 0 0,.slice none 0 0,.bool false,.bool false,.bool false] 180:=hF.out.elim;have hbF2:Blk w3 w2.heap.size #[.bool false,.slice none 0 0,.slice none 0 0,.bool false,.slice none 0 0,.slice none 0 0,.bool false,.bool false,.bool false] 180:=hF.out.elim;obtain⟨k0,k1,k2,k3,k4,k5,k6,k7,k8,j0,j1,j2,j3,j4,j5,j6,j7,j8⟩:=hbF1.facts9;obtain⟨m0,m1,m2,m3,m4,m5,m6,m7,m8,n0,n1,n2,n3,n4,n5,n6,n7,n8⟩:=hbF2.facts9)|(go_at_call 184;refine(hr1 _ (hk.trans (by first|with_reducible exact(Kept.refl w1).drew|with_reducible exact((Kept.refl w1).alloc _).drew))).mono ?_;rintro e w2 ⟨v2,rfl,hv2,hk2⟩;obtain⟨x1,x2,x3,x4,x5,x6,rfl⟩:=hv2.shape;have hS2:Kept w1 w2:=(by first|with_reducible exact(Kept.refl w1).drew.trans hk2|with_reducible exact((Kept.refl w1).alloc _).drew.trans hk2)))
 all_goals exact hF.out.elim
end
section
open Go Go.RowKit Go.Dig
theorem iread_bad{w:World}{v:Value}{i:IvD}(h:Ivl w v i)(hT:Laid w)(hf:i.fine=false):
 Calls Tryz.prog 108 #[v] w fun e w'=>e= .panicked failed∧Kept w w':=by
 obtain⟨s1,N1,D1,s2,N2,D2,li,hi⟩:=i
 have hf:(small N1 D1&&small N2 D2)=false:=hf
 cases h1:small N1 D1 with
 |false=>exact iread_big1 h hT h1
 |true=>exact iread_big2 h hT ⟨h1,by simpa [h1] using hf⟩
theorem iread_good{w:World}{v:Value}{i:IvD}(h:Ivl w v i)(hT:Laid w)(hf:i.fine=true):
 Calls Tryz.prog 108 #[v] w fun e w'=>∃v',e= .returned v'∧Sv w' v' i∧Kept w w':=by
 obtain⟨s1,N1,D1,s2,N2,D2,li,hi⟩:=i
 have hf:(small N1 D1&&small N2 D2)=true:=hf
 exact iread_ok h hT (by simpa using hf)
def IvB(w:World)(b:Nat)(i:IvD):Prop:=
 ∃a n c a' n' c' d m e d' m' e',Blk w b #[.bool i.s1,.slice a n c,.slice a' n' c',.bool i.s2,.slice d m e,.slice d' m' e',.bool i.li,.bool i.hi] 43∧
  Ivl w (.agg #[.bool i.s1,.slice a n c,.slice a' n' c',.bool i.s2,.slice d m e,.slice d' m' e',.bool i.li,.bool i.hi]) i
theorem IvB.kept{w w':World}{b:Nat}{i:IvD}(h:IvB w b i)(k:Kept w w'):IvB w' b i:=by
 obtain⟨a,n,c,a',n',c',d,m,e,d',m',e',h1,h2⟩:=h
 exact⟨a,n,c,a',n',c',d,m,e,d',m',e',h1.kept k,h2.kept k⟩
theorem field302(q1 q2 li hi vd:Bool)(x1:Option Addr)(x2 x3:Nat)(x4:Option Addr)(x5 x6:Nat)(y1:Option Addr)(y2 y3:Nat)(y4:Option Addr)(y5 y6:Nat)(w:World):
 (Instr.field 180 (.agg #[.bool q1,.slice x1 x2 x3,.slice x4 x5 x6,.bool q2,.slice y1 y2 y3,.slice y4 y5 y6,.bool li,.bool hi,.bool vd]) 4).run Tryz.prog w= .ok (.bool vd) w:=by kernel_rfl
set_option maxHeartbeats 1000000 in
set_option maxRecDepth 100000 in
theorem isempty_fn{w:World}{b:Nat}{i:IvD}(hv:IvB w b i)(hT:Laid w)(hf:i.fine=true):
 Calls Tryz.prog 107 #[.pointer (some ⟨b,0,none⟩)] w fun e w'=>e= .returned (.bool i.void)∧Kept w w':=by
 obtain⟨a,n,c,a',n',c',d,m,e,d',m',e',hb,h⟩:=hv
 obtain⟨c0,c1,c2,c3,c4,c5,c6,c7,_⟩:=hb.facts8
 have hr:=iread_good h hT hf
 clear h hb
 obtain⟨vd,hvd⟩:∃vd,i.void=vd:=⟨_,rfl⟩
 have HVD:=Lib.hid hvd
 rw[hvd]
 clear hvd
 go_enter Tryz.func107,Tryz.ntmps107
 go_wp2_with fail
 refine hr.mono ?_
 rintro _ w1 ⟨v1,rfl,hs,hk⟩
 obtain⟨x1,x2,x3,x4,x5,x6,y1,y2,y3,y4,y5,y6,rfl,_⟩:=hs
 generalize (i.s1&&decide (0<i.N1))=q1
 generalize (i.s2&&decide (0<i.N2))=q2
 rw[HVD.out]
 have hfd:=field302 q1 q2 i.li i.hi vd x1 x2 x3 x4 x5 x6 y1 y2 y3 y4 y5 y6
 go_wp2
 go_ret
 exact⟨rfl,hk⟩
set_option maxHeartbeats 1000000 in
set_option maxRecDepth 100000 in
theorem isempty_fnp{w:World}{b:Nat}{i:IvD}(hv:IvB w b i)(hT:Laid w)(hf:i.fine=false):
 Calls Tryz.prog 107 #[.pointer (some ⟨b,0,none⟩)] w fun e w'=>e= .panicked failed∧Kept w w':=by
 obtain⟨a,n,c,a',n',c',d,m,e,d',m',e',hb,h⟩:=hv
 obtain⟨c0,c1,c2,c3,c4,c5,c6,c7,_⟩:=hb.facts8
 have hr:=iread_bad h hT hf
 clear h hb
 go_enter Tryz.func107,Tryz.ntmps107
 go_wp2_with fail
 refine hr.mono ?_
 rintro _ w1 ⟨rfl,hk⟩
 exact⟨rfl,rfl,hk⟩
set_option maxHeartbeats 2000000 in
set_option maxRecDepth 100000 in
theorem try_good{w:World}{b:Nat}{i:IvD}(hv:IvB w b i)(hT:Laid w)(hf:i.fine=true):
 Calls Tryz.prog 106 #[.func (.func 107) #[] #[.pointer (some ⟨b,0,none⟩)]] w fun e w'=>e= .returned (.tuple #[.bool i.void,.int .i64 0])∧Kept w w':=by
 have hmf:∀(fn:Fn)(first cap:Array Value)(w:World),(Instr.makeFunc fn first cap).run Tryz.prog w= .ok (.func fn first cap) w:=fun _ _ _ _=>rfl
 have hk:Kept w ((w.alloc (.cells #[.bool false] 4)).alloc (.cells #[.int .i64 0] 33)):=((Kept.refl w).alloc _).alloc _
 have e1:(w.alloc (.cells #[.bool false] 4)).heap.size=w.heap.size+1:=by simp[go_sem]
 have hb1:=(Blk.new w #[.bool false] 4).kept ((Kept.refl _).alloc (.cells #[.int .i64 0] 33))
 have hb2:=Blk.new (w.alloc (.cells #[.bool false] 4)) #[.int .i64 0] 33
 rw[e1] at hb2
 clear e1
 have hcall:=isempty_fn (hv.kept hk) (hT.kept hk) hf
 clear hv hT
 generalize i.void=vd at*
 go_enter_defers Tryz.func106,Tryz.ntmps106
 go_wp2_with fail
 generalize (w.alloc (.cells #[.bool false] 4)).alloc (.cells #[.int .i64 0] 33)=w1 at*
 generalize hbE:w.heap.size=b0 at hb1 hb2⊢
 have HBE:=Lib.hid hbE;clear hbE
 refine hcall.mono ?_
 rintro _ w2 ⟨rfl,hk2⟩
 have hb1:=hb1.kept hk2
 have hb2:=hb2.kept hk2
 obtain⟨c1,f1⟩:=hb1.facts1
 obtain⟨c2,f2⟩:=hb2.facts1
 go_wp2
 refine leaves_cons (f:=183) (args:=#[.pointer (some ⟨b0,0,none⟩),.pointer (some ⟨b0+1,0,none⟩)]) (by simp) (by simp[go_sem]) ?_
 refine(catch_idle b0 (b0+1) _).mono ?_
 rintro e u' w'' ⟨rfl,rfl,rfl⟩
 simp[Leaves,settle,results,Tryz.results106,go_sem,c1,c2]
 exact((hk.trans hk2).but (st1 ..) (by have:=HBE.out;omega)).but (st1 ..) (by have:=HBE.out;omega)
set_option maxHeartbeats 2000000 in
set_option maxRecDepth 100000 in
theorem try_bad{w:World}{b:Nat}{i:IvD}(hv:IvB w b i)(hT:Laid w)(hf:i.fine=false):
 Calls Tryz.prog 106 #[.func (.func 107) #[] #[.pointer (some ⟨b,0,none⟩)]] w fun e w'=>e= .returned (.tuple #[.bool false,.int .i64 1])∧Kept w w':=by
 have hmf:∀(fn:Fn)(first cap:Array Value)(w:World),(Instr.makeFunc fn first cap).run Tryz.prog w= .ok (.func fn first cap) w:=fun _ _ _ _=>rfl
 have hk:Kept w ((w.alloc (.cells #[.bool false] 4)).alloc (.cells #[.int .i64 0] 33)):=((Kept.refl w).alloc _).alloc _
 have e1:(w.alloc (.cells #[.bool false] 4)).heap.size=w.heap.size+1:=by simp[go_sem]
 have hb1:=(Blk.new w #[.bool false] 4).kept ((Kept.refl _).alloc (.cells #[.int .i64 0] 33))
 have hb2:=Blk.new (w.alloc (.cells #[.bool false] 4)) #[.int .i64 0] 33
 rw[e1] at hb2
 clear e1
 have hcall:=isempty_fnp (hv.kept hk) (hT.kept hk) hf
 clear hv hT
 go_enter_defers Tryz.func106,Tryz.ntmps106
 go_wp2_with fail
 generalize (w.alloc (.cells #[.bool false] 4)).alloc (.cells #[.int .i64 0] 33)=w1 at*
 generalize hbE:w.heap.size=b0 at hb1 hb2⊢
 have HBE:=Lib.hid hbE;clear hbE
 refine hcall.mono ?_
 rintro _ w2 ⟨rfl,hk2⟩
 have hb1:=hb1.kept hk2
 have hb2:=hb2.kept hk2
 refine leaves_cons (f:=183) (args:=#[.pointer (some ⟨b0,0,none⟩),.pointer (some ⟨b0+1,0,none⟩)]) (by simp) (by simp[go_sem]) ?_
 refine(catch_failed b0 (b0+1) _ hb1 hb2 (by omega)).mono ?_
 rintro e u' w'' ⟨rfl,rfl,w3,hk3,rfl⟩
 obtain⟨c1,f1⟩:=(hb1.kept hk3).facts1
 obtain⟨c2,f2⟩:=(hb2.kept hk3).facts1
 simp[Leaves,settle,results,Tryz.results106,go_sem,c1,c2,mended]
 exact((((hk.trans hk2).trans hk3).but (st1 ..) (by have:=HBE.out;omega)).but (st1 ..) (by have:=HBE.out;omega))
set_option maxHeartbeats 2000000 in
set_option maxRecDepth 100000 in
theorem isempty_calls{w:World}{v:Value}{i:IvD}(h:Ivl w v i)(hT:Laid w):
 Calls Tryz.prog 50 #[v] w fun e w'=>e= .returned (.tuple #[.bool (i.fine&&i.void),.int .i64 (if i.fine then 0 else 1)])∧Kept w w':=by
 have hmf:∀(fn:Fn)(first cap:Array Value)(w:World),(Instr.makeFunc fn first cap).run Tryz.prog w= .ok (.func fn first cap) w:=fun _ _ _ _=>rfl
 have hh:=h
 obtain⟨a,n,c,a',n',c',d,m,e,d',m',e',rfl,_⟩:=h
 have hk:Kept w (w.alloc (.cells #[.bool i.s1,.slice a n c,.slice a' n' c',.bool i.s2,.slice d m e,.slice d' m' e',.bool i.li,.bool i.hi] 43)):=(Kept.refl w).alloc _
 have hb:IvB (w.alloc (.cells #[.bool i.s1,.slice a n c,.slice a' n' c',.bool i.s2,.slice d m e,.slice d' m' e',.bool i.li,.bool i.hi] 43)) w.heap.size i:=⟨a,n,c,a',n',c',d,m,e,d',m',e',Blk.new ..,hh.kept hk⟩
 cases hf:i.fine with
 |true=>
  have ht:=try_good hb (hT.kept hk) hf
  clear hb hh hT
  go_enter Tryz.func50,Tryz.ntmps50
  go_wp2_with(go_at_call 106;refine ht.mono ?_;rintro e w1 ⟨rfl,hk1⟩)
  go_ret2
  exact⟨rfl,hk.trans hk1⟩
 |false=>
  have ht:=try_bad hb (hT.kept hk) hf
  clear hb hh hT
  go_enter Tryz.func50,Tryz.ntmps50
  go_wp2_with(go_at_call 106;refine ht.mono ?_;rintro e w1 ⟨rfl,hk1⟩)
  go_ret2
  exact⟨rfl,hk.trans hk1⟩
end
section
open Go Go.RowKit Go.Dig
structure SideD where
 name:ByteArray
 iv:IvD
def Bxm(w:World)(a:Option Addr)(n cap:Nat)(l:List SideD):Prop:=
 n=l.length∧n≤cap∧n<4611686018427387904∧∀(i:Nat)(h:i<l.length),∃(b off:Nat)(s1:Bool)(a1:Option Addr)(n1 c1:Nat)(a2:Option Addr)(n2 c2:Nat)(s2:Bool)(a3:Option Addr)(n3 c3:Nat)(a4:Option Addr)(n4 c4:Nat)(p q:Bool),
  a=some ⟨b,off,none⟩∧w.cell? ⟨b,off+i*9,none⟩=some (.string l[i].name)∧
  w.cell? ⟨b,off+i*9+1,none⟩=some (.bool s1)∧w.cell? ⟨b,off+i*9+2,none⟩=some (.slice a1 n1 c1)∧w.cell? ⟨b,off+i*9+3,none⟩=some (.slice a2 n2 c2)∧
  w.cell? ⟨b,off+i*9+4,none⟩=some (.bool s2)∧w.cell? ⟨b,off+i*9+5,none⟩=some (.slice a3 n3 c3)∧w.cell? ⟨b,off+i*9+6,none⟩=some (.slice a4 n4 c4)∧
  w.cell? ⟨b,off+i*9+7,none⟩=some (.bool p)∧w.cell? ⟨b,off+i*9+8,none⟩=some (.bool q)∧
  Ivl w (.agg #[.bool s1,.slice a1 n1 c1,.slice a2 n2 c2,.bool s2,.slice a3 n3 c3,.slice a4 n4 c4,.bool p,.bool q]) l[i].iv
theorem Bxm.kept{w w':World}{a:Option Addr}{n cap:Nat}{l:List SideD}(h:Bxm w a n cap l)(k:Kept w w'):Bxm w' a n cap l:=by
 obtain⟨hn,hc,hb,hi⟩:=h
 refine⟨hn,hc,hb,fun i h=> ?_⟩
 obtain⟨b,off,s1,a1,n1,c1,a2,n2,c2,s2,a3,n3,c3,a4,n4,c4,p,q,ha,h0,h1,h2,h3,h4,h5,h6,h7,h8,hv⟩:=hi i h
 exact⟨b,off,s1,a1,n1,c1,a2,n2,c2,s2,a3,n3,c3,a4,n4,c4,p,q,ha,k.cell h0,k.cell h1,k.cell h2,k.cell h3,k.cell h4,k.cell h5,k.cell h6,k.cell h7,k.cell h8,hv.kept k⟩
def sideAt:List SideD→Nat→ByteArray→Int
 |[],_,_=> -1
 |s::r,k,nm=>if (s.name.toList==nm.toList)=true then(k:Int) else sideAt r (k+1) nm
theorem sideAt_drop{l:List SideD}{k:Nat}(h:k<l.length)(nm:ByteArray):sideAt (l.drop k) k nm=if (l[k].name.toList==nm.toList)=true then(k:Int) else sideAt (l.drop (k+1)) (k+1) nm:=by
 rw[List.drop_eq_getElem_cons h,sideAt]
theorem sideAt_end{l:List SideD}(nm:ByteArray):sideAt (l.drop l.length) l.length nm= -1:=by simp[sideAt]
set_option maxHeartbeats 1000000 in
set_option maxRecDepth 100000 in
theorem rside_calls{w:World}{a:Option Addr}{n cap:Nat}{l:List SideD}(h:Bxm w a n cap l)(nm:ByteArray):
 Calls Tryz.prog 67 #[.slice a n cap,.string nm] w fun e w'=>e= .returned (.int .i64 (sideAt l 0 nm))∧w=w':=by
 obtain⟨rfl,hc,hb,hi⟩:=h
 go_enter Tryz.func67,Tryz.ntmps67
 go_wp2
 go_loop [5] (fun s=>∃k:Nat,k≤l.length∧s= .int .i64 (k:Int)∧sideAt (l.drop k) k nm=sideAt l 0 nm) (fun s=>l.length-(intOf s).toNat)
 case atStart=>exact⟨0,Nat.zero_le _,rfl,rfl⟩
 case round=>
  obtain⟨k,hk,rfl,ht⟩:=hrel
  by_cases hlt:k<l.length
  ·obtain⟨b,off,s1,a1,n1,c1,a2,n2,c2,s2,a3,n3,c3,a4,n4,c4,p,q,rfl,h0,-⟩:=hi k hlt
   clear hi
   have hs:=Lib.hid (sideAt_drop hlt nm)
   have HT:=Lib.hid ht;clear ht
   generalize hnk:l[k].name=nk at*
   have HNK:=Lib.hid hnk;clear hnk
   cases hq:(nk.toList==nm.toList)
   ·go_wp2
    go_round
    case rel=>exact⟨k+1,by omega,by go_num,by rw[←HT.out,hs.out,hq];rfl⟩
    case measure=>simp[intOf];omega
   ·go_wp2
    go_ret
    exact⟨by rw[←HT.out,hs.out,hq];rfl,rfl⟩
  ·obtain rfl:l.length=k:=by omega
   have HT:=Lib.hid ht;clear ht
   clear hi
   go_wp2
   go_ret
   exact⟨by rw[←HT.out,sideAt_end];rfl,rfl⟩
set_option maxHeartbeats 1000000 in
set_option maxRecDepth 100000 in
theorem side1_calls{w:World}{bx:Nat}{nm nk:ByteArray}(hb:w.cell? ⟨bx,0,none⟩=some (.string nm))(s1:Bool)(a1:Option Addr)(n1 c1:Nat)(a2:Option Addr)(n2 c2:Nat)(s2:Bool)(a3:Option Addr)(n3 c3:Nat)(a4:Option Addr)(n4 c4:Nat)(p q:Bool):
 Calls Tryz.prog 115 #[.agg #[.string nk,.bool s1,.slice a1 n1 c1,.slice a2 n2 c2,.bool s2,.slice a3 n3 c3,.slice a4 n4 c4,.bool p,.bool q],.pointer (some ⟨bx,0,none⟩)] w fun e w'=>e= .returned (.bool (nk.toList==nm.toList))∧Kept w w':=by
 have hk:Kept w (w.alloc (.cells #[.string nk,.bool s1,.slice a1 n1 c1,.slice a2 n2 c2,.bool s2,.slice a3 n3 c3,.slice a4 n4 c4,.bool p,.bool q] 45)):=(Kept.refl w).alloc _
 have h0:=hk.cell hb
 go_enter Tryz.func115,Tryz.ntmps115
 go_wp2
 go_ret
 exact⟨rfl,hk⟩
set_option maxHeartbeats 1000000 in
set_option maxRecDepth 100000 in
theorem indexside_calls{w:World}{a:Option Addr}{n cap:Nat}{l:List SideD}(h:Bxm w a n cap l){bx:Nat}{nm:ByteArray}(hb:w.cell? ⟨bx,0,none⟩=some (.string nm)):
 Calls Tryz.prog 114 #[.slice a n cap,.func (.func 115) #[] #[.pointer (some ⟨bx,0,none⟩)]] w fun e w'=>e= .returned (.int .i64 (sideAt l 0 nm))∧Kept w w':=by
 obtain⟨rfl,hc,hbd,hi⟩:=h
 go_enter Tryz.func114,Tryz.ntmps114
 go_wp2
 go_loopw [8] (fun s wr=>∃k:Nat,k≤l.length∧s= .int .i64 (k:Int)∧sideAt (l.drop k) k nm=sideAt l 0 nm∧Kept w wr) (fun s _=>l.length-(intOf s).toNat)
 case atStart=>exact⟨0,Nat.zero_le _,rfl,rfl,Kept.refl w⟩
 case round=>
  obtain⟨k,hk,rfl,ht,hkw⟩:=hrel
  have HT:=Lib.hid ht;clear ht
  by_cases hlt:k<l.length
  ·obtain⟨b,off,s1,a1,n1,c1,a2,n2,c2,s2,a3,n3,c3,a4,n4,c4,p,q,rfl,h0,h1,h2,h3,h4,h5,h6,h7,h8,-⟩:=hi k hlt
   clear hi
   have hs:=Lib.hid (sideAt_drop hlt nm)
   generalize hnk:l[k].name=nk at*
   have HNK:=Lib.hid hnk;clear hnk
   replace h0:=hkw.cell h0
   replace h1:=hkw.cell h1
   replace h2:=hkw.cell h2
   replace h3:=hkw.cell h3
   replace h4:=hkw.cell h4
   replace h5:=hkw.cell h5
   replace h6:=hkw.cell h6
   replace h7:=hkw.cell h7
   replace h8:=hkw.cell h8
   have hcl:=side1_calls (nk:=nk) (hkw.cell hb) s1 a1 n1 c1 a2 n2 c2 s2 a3 n3 c3 a4 n4 c4 p q
   cases hq:(nk.toList==nm.toList)
   ·rw[hq] at hcl
    go_wp2_with(go_at_call 115;refine hcl.mono ?_;rintro e w1 ⟨rfl,hk1⟩)
    go_roundw
    case rel=>exact⟨k+1,by omega,by go_num,by rw[←HT.out,hs.out,hq];rfl,hkw.trans hk1⟩
    case measure=>simp[intOf];omega
   ·rw[hq] at hcl
    go_wp2_with(go_at_call 115;refine hcl.mono ?_;rintro e w1 ⟨rfl,hk1⟩)
    go_ret
    exact⟨by rw[←HT.out,hs.out,hq];rfl,hkw.trans hk1⟩
  ·obtain rfl:l.length=k:=by omega
   clear hi
   go_wp2
   go_ret
   exact⟨by rw[←HT.out,sideAt_end];rfl,hkw⟩
set_option maxHeartbeats 1000000 in
set_option maxRecDepth 100000 in
theorem side_calls{w:World}{a:Option Addr}{n cap:Nat}{l:List SideD}(h:Bxm w a n cap l)(nm:ByteArray):
 Calls Tryz.prog 55 #[.slice a n cap,.string nm] w fun e w'=>e= .returned (.int .i64 (sideAt l 0 nm))∧Kept w w':=by
 have hk:Kept w (w.alloc (.cells #[.string nm] 9)):=(Kept.refl w).alloc _
 have hcl:=indexside_calls (h.kept hk) (bx:=w.heap.size) (nm:=nm) (Blk.new w #[.string nm] 9).facts1.1
 have hmf:∀(fn:Fn)(first cap:Array Value)(w:World),(Instr.makeFunc fn first cap).run Tryz.prog w= .ok (.func fn first cap) w:=fun _ _ _ _=>rfl
 go_enter Tryz.func55,Tryz.ntmps55
 go_wp2_with(go_at_call 114;refine hcl.mono ?_;rintro e w1 ⟨rfl,hk1⟩)
 go_ret
 exact⟨rfl,hk.trans hk1⟩
end
section
open Go Go.RowKit Go.Dig Go.Deep
def InfoIs(e:TypeId)(z:Value)(sz by_:Nat):Prop:=∃i,Tryz.prog.info? e=some i∧i.zero=some z∧i.size=sz∧i.bytes=by_
theorem infoIs{e:TypeId}{z:Value}{sz by_:Nat}(h:(Tryz.prog.info? e).map (fun i=>(i.zero,i.size,i.bytes))=some (some z,sz,by_)):InfoIs e z sz by_:=by
 obtain⟨i,hi,hzz⟩:=Option.map_eq_some_iff.1 h
 simp only[Prod.mk.injEq] at hzz
 exact⟨i,hi,hzz.1,hzz.2.1,hzz.2.2⟩
section
variable{w:World}{base e sz:Nat}{v:Value}{n:Nat}{cs:List Value}
theorem own_kept{w':World}(h:w.ownsRow base e sz v n cs)(k:Kept w w'):w'.ownsRow base e sz v n cs:=by
 refine World.ownsRow.kept (row:=none) h ⟨k.os,k.tape,k.output,k.size,fun b hb _=>k.old b hb⟩ ?_
 cases hv:v.ownBlock with
 |none=>exact .inl rfl
 |some _=>exact .inr (by simp)
theorem own_open(h:w.ownsRow base e sz v n cs):∃a cap,v= .slice a n cap∧n≤cap∧cs.length=n*sz∧∀i,i<cs.length→∃b,base≤b∧a=some ⟨b,0,none⟩∧w.cell? ⟨b,i,none⟩=cs[i]? :=by
 obtain⟨hl,⟨rfl,rfl⟩|⟨g,cap,cur,rfl,hb,hg,hn,_,hcs,ht⟩⟩:=h
 ·exact⟨none,0,rfl,Nat.le_refl _,hl,fun i hi=>by rw[hl,Nat.zero_mul] at hi;exact absurd hi (Nat.not_lt_zero i)⟩
 ·refine⟨_,cap,rfl,hn,hl,fun i hi=>⟨g,hb,rfl,?_⟩⟩
  rw[←ht,List.getElem?_take,if_pos (by omega),Array.getElem?_toList]
  simp[World.cell?,hg]
end
theorem wpList_append_kept{w:World}{ops:Array Oper}{rest:List Oper}{o:Oper}{act:Act}{Q:Exit→Act→World→Prop}(hgd:o.guard=none)(s x:Operand)(t:TypeId)
 (ho:o.op= .call {callee:=.builtin .append,args:=#[s,x],argTypes:=#[t,t]}){e:TypeId}{z:Value}{sz by_:Nat}(hi:InfoIs e z sz by_)(ht:Tryz.prog.underlying t=some (.slice e))(hz:z.cells.size=sz)(hsz:0<sz)(hby:by_≤1024)
 (w0:World)(hk:Kept w0 w)(v:Value)(n:Nat)(cs:List Value)(hs:act.eval s=v)(hown:w.ownsRow w0.heap.size e sz v n cs)
 (ad:Addr)(m c:Nat)(news:List Value)(hx:act.eval x= .slice (some ad) m c)(hl:news.length=m*sz)(hnews:∀j u,news[j]? =some u→w.cell? (ad.add j)=some u)(h1:∀u∈news,u.oneCell'=true)(hb:n+m≤1099511627)
 (h:∀v' w',w'.ownsRow w0.heap.size e sz v' (n+m) (cs++news)→Kept w0 w'→wpList Tryz.prog ops Q rest (act.put o.dst v') w'):wpList Tryz.prog ops Q (o::rest) act w:=by
 obtain⟨i0,hi,hz0,hz1,hz2⟩:=hi
 refine wpList_append_own w hgd s x t ho w0.heap.size e i0 z sz by_ ht hi hz0 hz1 hz2 hz hsz v n _ hs hown ad m c news hx hl hnews h1 (by unfold maxLen;omega) (Nat.le_trans (Nat.mul_le_mul hb hby) (by decide)) hk.size ?_
 intro v' w' h1 h2 _
 refine h v' w' h1 ?_
 refine⟨Nat.le_trans hk.size h2.size,fun b hbk=> ?_,h2.tape.trans hk.tape,h2.os.trans hk.os,h2.output.trans hk.output⟩
 rw[h2.block b (Nat.lt_of_lt_of_le hbk hk.size) (fun e=> ?_)]
 ·exact hk.old b hbk
 ·have:=(World.ownsRow.lt hown b e.symm).1
  omega
theorem wpList_append_nothing{w:World}{ops:Array Oper}{rest:List Oper}{o:Oper}{act:Act}{Q:Exit→Act→World→Prop}(hgd:o.guard=none)(s x:Operand)(t:TypeId)
 (ho:o.op= .call {callee:=.builtin .append,args:=#[s,x],argTypes:=#[t,t]}){e:TypeId}{z:Value}{sz by_:Nat}(hi:InfoIs e z sz by_)(ht:Tryz.prog.underlying t=some (.slice e))
 (base:Option Addr)(n cap c:Nat)(a:Option Addr)(hs:act.eval s= .slice base n cap)(hn:n≤cap)(hx:act.eval x= .slice a 0 c)
 (h:wpList Tryz.prog ops Q rest (act.put o.dst (.slice base n cap)) w):wpList Tryz.prog ops Q (o::rest) act w:=by
 obtain⟨i0,hi,hz0,hz1,hz2⟩:=hi
 have hsrc:Src Tryz.prog i0.size t (.slice a 0 c) 0 [] w:=by
  cases a with
  |none=>exact Src.ofNil w ht c
  |some a=>exact Src.ofSlice w ht a 0 c [] (by simp) (fun j u h=>by simp at h) (fun _ h=>by cases h)
 have hrun:=run_append_nothing (P:=Tryz.prog) w t t o.type e i0 ht hi base n cap hn (.slice a 0 c) hsrc
 refine wpList_plain hgd fun K hK=> ?_
 unfold Oper.wp
 simp[execOp,ho,resolve,invoke,builtin,hs,hx,hrun,Result.andThen]
 exact hK _ _ h
def SL(w:World)(a:Option Addr)(n:Nat)(ss:List ByteArray):Prop:=n=ss.length∧((a=none∧n=0)∨∃b off,a=some ⟨b,off,none⟩∧∀(i:Nat)(h:i<ss.length),w.cell? ⟨b,off+i,none⟩=some (.string ss[i]))
theorem SL.kept{w w':World}{a:Option Addr}{n:Nat}{ss:List ByteArray}(h:SL w a n ss)(k:Kept w w'):SL w' a n ss:=
 ⟨h.1,h.2.imp id fun ⟨b,off,e,hc⟩=>⟨b,off,e,fun i hi=>k.cell (hc i hi)⟩⟩
def Sp(w:World)(base:Nat)(v:Value)(n:Nat)(ss:List ByteArray):Prop:=w.ownsRow base 9 1 v n (ss.map Value.string)
theorem info9:InfoIs 9 (.string .empty) 1 16:=infoIs (by kernel_rfl)
theorem Sp.open{w:World}{base n:Nat}{v:Value}{ss:List ByteArray}(h:Sp w base v n ss):∃a cap,v= .slice a n cap∧n≤cap∧SL w a n ss:=by
 obtain⟨hl,⟨rfl,rfl⟩|⟨g,cap,cur,rfl,hb,hg,hn,_,hcs,ht⟩⟩:=h
 ·exact⟨none,0,rfl,Nat.le_refl _,by simpa using hl.symm,.inl ⟨rfl,rfl⟩⟩
 ·have hl:n=ss.length:=by simp at hl;exact hl.symm
  refine⟨_,cap,rfl,hn,hl,.inr ⟨g,0,rfl,fun i hi=> ?_⟩⟩
  have hh:(cur.toList.take (n*1))[i]? =some (.string ss[i]):=by rw[ht];simp[hi]
  rw[Nat.mul_one,List.getElem?_take,if_pos (by omega),Array.getElem?_toList] at hh
  rw[Nat.zero_add]
  simp[World.cell?,hg,hh]
theorem Sp.nil(w:World)(base:Nat):Sp w base (.slice none 0 0) 0 []:=World.ownsRow_nil w base 9 1
theorem Sp.kept{w w':World}{base n:Nat}{v:Value}{ss:List ByteArray}(h:Sp w base v n ss)(k:Kept w w'):Sp w' base v n ss:=own_kept h k
theorem Sp.lt{w:World}{base n:Nat}{v:Value}{ss:List ByteArray}(h:Sp w base v n ss):n=ss.length:=by
 have:=h.1;simp at this;exact this.symm
theorem wpList_append_strs{w:World}{ops:Array Oper}{rest:List Oper}{o:Oper}{act:Act}{Q:Exit→Act→World→Prop}(hgd:o.guard=none)(s x:Operand)
 (ho:o.op= .call {callee:=.builtin .append,args:=#[s,x],argTypes:=#[117,117]})
 (w0:World)(hk:Kept w0 w)(v:Value)(n:Nat)(ss:List ByteArray)(hs:act.eval s=v)(hown:Sp w w0.heap.size v n ss)
 (a:Option Addr)(m c:Nat)(ts:List ByteArray)(hx:act.eval x= .slice a m c)(hsl:SL w a m ts)(hb:n+m≤1099511627)
 (h:∀v' w',Sp w' w0.heap.size v' (n+m) (ss++ts)→Kept w0 w'→wpList Tryz.prog ops Q rest (act.put o.dst v') w'):wpList Tryz.prog ops Q (o::rest) act w:=by
 obtain⟨hm,⟨rfl,rfl⟩|⟨b,off,rfl,hc⟩⟩:=hsl
 ·have ht:ts=[]:=List.eq_nil_of_length_eq_zero hm.symm
  subst ht
  obtain⟨a',cap',rfl,hcap,_⟩:=hown.open
  refine wpList_append_nothing hgd s x 117 ho info9 Tryz.underlying117 a' n cap' c none hs hcap hx (h _ w ?_ hk)
  simpa using hown
 ·refine wpList_append_kept hgd s x 117 ho info9 Tryz.underlying117 rfl (by decide) (by decide) w0 hk v n _ hs hown ⟨b,off,none⟩ m c (ts.map Value.string) hx (by simp[hm]) ?_ ?_ hb ?_
  ·intro j u hu
   rw[List.getElem?_map] at hu
   obtain⟨s,hs',rfl⟩:=Option.map_eq_some_iff.1 hu
   obtain⟨hj,rfl⟩:=List.getElem?_eq_some_iff.1 hs'
   rw[show(Addr.add ⟨b,off,none⟩ j)=⟨b,off+j,none⟩ by unfold Addr.add;split<;>simp_all]
   exact hc j hj
  ·intro u hu
   obtain⟨_,_,rfl⟩:=List.mem_map.1 hu
   rfl
  ·intro v' w' h1 h2
   rw[←List.map_append] at h1
   exact h v' w' h1 h2
end
section
open Go Go.RowKit Go.Dig Go.Deep
theorem SL.one(w:World)(s:ByteArray)(t:TypeId):SL (w.alloc (.cells #[.string s] t)) (some ⟨w.heap.size,0,none⟩) 1 [s]:=
 ⟨rfl,.inr ⟨_,_,rfl,fun i hi=>by
   obtain rfl:i=0:=by simp at hi;exact hi
   exact(Blk.new w #[.string s] t).facts1.1⟩⟩
def RetPut(ss:List ByteArray)(s:ByteArray)(n:Nat)(w:World)(e:Ending)(w':World):Prop:=
 ∃(a:Option Addr)(n' cap:Nat)(ts:List ByteArray),e= .returned (.slice a n' cap)∧SL w' a n' ts∧n'≤cap∧n'≤n+1∧(∀x,x∈ts↔x∈ss∨x=s)∧Kept w w'
theorem bytes_eq{s t:ByteArray}(h:(s.toList==t.toList)=true):s=t:=by
 have h:=eq_of_beq h
 rw[ByteArray.toList_eq,ByteArray.toList_eq] at h
 exact ByteArray.ext (Array.toList_inj.1 h)
theorem put_mem{ss:List ByteArray}{s:ByteArray}(k:Nat)(x:ByteArray):x∈ss.take k++[s]++ss.drop k↔x∈ss∨x=s:=by
 have h:x∈ss↔x∈ss.take k∨x∈ss.drop k:=by rw[←List.mem_append,List.take_append_drop]
 rw[h];simp only[List.mem_append,List.mem_singleton]
 constructor<;>(intro h;rcases h with(h|h)|h<;>simp[h])
theorem put_end{ss:List ByteArray}{s:ByteArray}{n:Nat}(hn:n=ss.length)(x:ByteArray):x∈ss.take n++[s]++[]↔x∈ss∨x=s:=by
 rw[List.take_of_length_le (by omega)];simp
theorem SL.zero(w:World)(b off:Nat):SL w (some ⟨b,off,none⟩) 0 []:=⟨rfl,.inr ⟨b,off,rfl,fun i h=>absurd h (Nat.not_lt_zero i)⟩⟩
set_option maxHeartbeats 1000000 in
theorem put_nil(w:World)(s:ByteArray)(cap:Nat):Calls Tryz.prog 141 #[.slice none 0 cap,.string s] w (RetPut [] s 0 w):=by
 go_enter Tryz.func141,Tryz.ntmps141
 go_wp2
 go_loop [5] (fun i=>i= .int .i64 0) (fun _=>0)
 case atStart=>rfl
 case round=>
  subst hrel
  go_wp2_with(first
   |(at_builtin;refine wpList_append_strs rfl (.tmp 34) (.tmp 37) rfl w (Kept.refl w) _ 0 [] rfl (Sp.nil w _) none 0 _ [] rfl ⟨rfl,.inl ⟨rfl,rfl⟩⟩ (by decide) ?_;intro v1 w1 hp1 hk1;obtain⟨p1,q1,rfl,hq1,hsl1⟩:=hp1.open)
   |(at_builtin;refine wpList_append_strs rfl (.tmp 39) (.tmp 41) rfl w (hk1.alloc _) _ _ _ rfl (hp1.kept ((Kept.refl w1).alloc _)) (some ⟨w1.heap.size,0,none⟩) 1 1 [s] rfl (SL.one _ _ _) (by decide) ?_;intro v2 w2 hp2 hk2;obtain⟨p2,q2,rfl,hq2,hsl2⟩:=hp2.open)
   |(at_builtin;refine wpList_append_strs rfl (.tmp 43) (.tmp 46) rfl w hk2 _ _ _ rfl hp2 none 0 _ [] rfl ⟨rfl,.inl ⟨rfl,rfl⟩⟩ (by decide) ?_;intro v3 w3 hp3 hk3;obtain⟨p3,q3,rfl,hq3,hsl3⟩:=hp3.open))
  go_ret
  exact⟨p3,_,q3,_,rfl,hsl3,hq3,by omega,fun x=>by simp,hk3⟩
theorem slice_take{w:World}{b off n:Nat}{ss:List ByteArray}(hn:n=ss.length)(hc:∀(i:Nat)(h:i<ss.length),w.cell? ⟨b,off+i,none⟩=some (.string ss[i])){k:Nat}(hk:k≤n):SL w (some ⟨b,off,none⟩) k (ss.take k):=
 ⟨by simp;omega,.inr ⟨b,off,rfl,fun i hi=>by
   have hi':i<ss.length:=by simp at hi;omega
   rw[hc i hi'];simp⟩⟩
theorem slice_drop{w:World}{b off n:Nat}{ss:List ByteArray}(hn:n=ss.length)(hc:∀(i:Nat)(h:i<ss.length),w.cell? ⟨b,off+i,none⟩=some (.string ss[i])){k:Nat}(hk:k≤n):SL w (some ⟨b,off+k,none⟩) (n-k) (ss.drop k):=
 ⟨by simp;omega,.inr ⟨b,off+k,rfl,fun i hi=>by
   have hi':k+i<ss.length:=by simp at hi;omega
   rw[Nat.add_assoc,hc (k+i) hi'];simp⟩⟩
set_option maxHeartbeats 4000000 in
theorem put_some{w:World}{b off n cap:Nat}{ss:List ByteArray}(hn:n=ss.length)(hc:∀(i:Nat)(h:i<ss.length),w.cell? ⟨b,off+i,none⟩=some (.string ss[i]))(hcap:n≤cap)(hb:n≤100000)(s:ByteArray):
 Calls Tryz.prog 141 #[.slice (some ⟨b,off,none⟩) n cap,.string s] w (RetPut ss s n w):=by
 have HC:=Lib.hid hc
 have HN:=Lib.hid hn
 have hlen:∀k,k<n→k<ss.length:=fun k h=>by omega
 clear hn
 have HLEN:=Lib.hid hlen;clear hlen
 go_enter Tryz.func141,Tryz.ntmps141
 go_wp2
 go_loop [5] (fun i=>∃k:Nat,k≤n∧i= .int .i64 (k:Int)) (fun i=>n-(intOf i).toNat)
 case atStart=>exact⟨0,Nat.zero_le _,rfl⟩
 case round=>
  obtain⟨k,hk,rfl⟩:=hrel
  by_cases hlt:k<n
  ·have h0:=hc k (HLEN.out k hlt)
   have HX:Hid (ss[k]'(HLEN.out k hlt)∈ss):=Lib.hid (List.getElem_mem _)
   generalize ss[k]'(HLEN.out k hlt)=nk at*
   clear hc
   cases hlo:Op.bytesLess nk.toList s.toList
   ·cases heq:(nk.toList==s.toList)
    ·have HSL1:=Lib.hid (slice_take HN.out HC.out hk)
     have HSL3:=Lib.hid (slice_drop HN.out HC.out hk)
     go_wp2_with(first
      |(at_builtin;refine wpList_append_strs rfl (.tmp 34) (.tmp 37) rfl w (Kept.refl w) _ 0 [] rfl (Sp.nil w _) _ k _ (ss.take k) rfl HSL1.out (by omega) ?_;intro v1 w1 hp1 hk1;rw[Nat.zero_add,List.nil_append] at hp1;obtain⟨p1,q1,rfl,hq1,hsl1⟩:=hp1.open)
      |(at_builtin;refine wpList_append_strs rfl (.tmp 39) (.tmp 41) rfl w (hk1.alloc _) _ _ _ rfl (hp1.kept ((Kept.refl w1).alloc _)) (some ⟨w1.heap.size,0,none⟩) 1 1 [s] rfl (SL.one _ _ _) (by omega) ?_;intro v2 w2 hp2 hk2;obtain⟨p2,q2,rfl,hq2,hsl2⟩:=hp2.open)
      |(at_builtin;refine wpList_append_strs rfl (.tmp 43) (.tmp 46) rfl w hk2 _ _ _ rfl hp2 _ (n-k) _ (ss.drop k) rfl (HSL3.out.kept hk2) (by omega) ?_;intro v3 w3 hp3 hk3;obtain⟨p3,q3,rfl,hq3,hsl3⟩:=hp3.open))
     go_ret
     exact⟨p3,_,q3,_,rfl,hsl3,hq3,by omega,put_mem k,hk3⟩
    ·go_wp2
     go_ret
     refine⟨some ⟨b,off,none⟩,n,cap,ss,rfl,⟨HN.out,.inr ⟨b,off,rfl,HC.out⟩⟩,hcap,by omega,fun x=>⟨.inl,fun h=>h.elim id fun h=> ?_⟩,Kept.refl w⟩
     rw[h,←bytes_eq heq];exact HX.out
   ·go_wp2
    go_round
    case rel=>exact⟨k+1,by omega,by go_num⟩
    case measure=>simp[intOf];omega
  ·obtain rfl:n=k:=by omega
   have HSL1:=Lib.hid (slice_take HN.out HC.out hk)
   clear hc
   by_cases hnc:n=cap
   ·subst hnc
    go_wp2_with(first
     |(at_builtin;refine wpList_append_strs rfl (.tmp 34) (.tmp 37) rfl w (Kept.refl w) _ 0 [] rfl (Sp.nil w _) _ n _ (ss.take n) rfl HSL1.out (by omega) ?_;intro v1 w1 hp1 hk1;rw[Nat.zero_add,List.nil_append] at hp1;obtain⟨p1,q1,rfl,hq1,hsl1⟩:=hp1.open)
     |(at_builtin;refine wpList_append_strs rfl (.tmp 39) (.tmp 41) rfl w (hk1.alloc _) _ _ _ rfl (hp1.kept ((Kept.refl w1).alloc _)) (some ⟨w1.heap.size,0,none⟩) 1 1 [s] rfl (SL.one _ _ _) (by omega) ?_;intro v2 w2 hp2 hk2;obtain⟨p2,q2,rfl,hq2,hsl2⟩:=hp2.open)
     |(at_builtin;refine wpList_append_strs rfl (.tmp 43) (.tmp 46) rfl w hk2 _ _ _ rfl hp2 _ 0 _ [] rfl (SL.zero _ _ _) (by omega) ?_;intro v3 w3 hp3 hk3;obtain⟨p3,q3,rfl,hq3,hsl3⟩:=hp3.open))
    go_ret
    exact⟨p3,_,q3,_,rfl,hsl3,hq3,by omega,put_end HN.out,hk3⟩
   ·have hnc':n<cap:=by omega
    go_wp2_with(first
     |(at_builtin;refine wpList_append_strs rfl (.tmp 34) (.tmp 37) rfl w (Kept.refl w) _ 0 [] rfl (Sp.nil w _) _ n _ (ss.take n) rfl HSL1.out (by omega) ?_;intro v1 w1 hp1 hk1;rw[Nat.zero_add,List.nil_append] at hp1;obtain⟨p1,q1,rfl,hq1,hsl1⟩:=hp1.open)
     |(at_builtin;refine wpList_append_strs rfl (.tmp 39) (.tmp 41) rfl w (hk1.alloc _) _ _ _ rfl (hp1.kept ((Kept.refl w1).alloc _)) (some ⟨w1.heap.size,0,none⟩) 1 1 [s] rfl (SL.one _ _ _) (by omega) ?_;intro v2 w2 hp2 hk2;obtain⟨p2,q2,rfl,hq2,hsl2⟩:=hp2.open)
     |(at_builtin;refine wpList_append_strs rfl (.tmp 43) (.tmp 46) rfl w hk2 _ _ _ rfl hp2 _ 0 _ [] rfl (SL.zero _ _ _) (by omega) ?_;intro v3 w3 hp3 hk3;obtain⟨p3,q3,rfl,hq3,hsl3⟩:=hp3.open))
    go_ret
    exact⟨p3,_,q3,_,rfl,hsl3,hq3,by omega,put_end HN.out,hk3⟩
theorem put_calls{w:World}{a:Option Addr}{n cap:Nat}{ss:List ByteArray}(h:SL w a n ss)(hcap:n≤cap)(hb:n≤100000)(s:ByteArray):
 Calls Tryz.prog 141 #[.slice a n cap,.string s] w (RetPut ss s n w):=by
 obtain⟨hn,⟨rfl,rfl⟩|⟨b,off,rfl,hc⟩⟩:=h
 ·obtain rfl:ss=[]:=List.eq_nil_of_length_eq_zero hn.symm
  exact put_nil w s cap
 ·exact put_some hn hc hcap hb s
end
section
open Go Go.RowKit Go.Dig
def letterB(c:Nat):Bool:=decide (97≤c)&&decide (c≤122)
def digitB(c:Nat):Bool:=decide (48≤c)&&decide (c≤57)
theorem letter_calls(w:World)(c:Nat):Calls Tryz.prog 232 #[.int .u8 (c:Int)] w fun e w'=>e= .returned (.bool (letterB c))∧w=w':=by
 by_cases h1:97≤c
 ·have t1:decide (97≤(c:Int))=true:=by simp;omega
  have t2:decide ((c:Int)≤122)=decide (c≤122):=by rw[Bool.eq_iff_iff];simp;omega
  go_enter Tryz.func232,Tryz.ntmps232
  go_wp2
  go_ret
  exact⟨by simp[letterB,h1],rfl⟩
 ·have t1:decide (97≤(c:Int))=false:=by simp;omega
  go_enter Tryz.func232,Tryz.ntmps232
  go_wp2
  go_ret
  exact⟨by simp[letterB,h1],rfl⟩
theorem digit_calls'(w:World)(c:Nat):Calls Tryz.prog 233 #[.int .u8 (c:Int)] w fun e w'=>e= .returned (.bool (digitB c))∧w=w':=by
 by_cases h1:48≤c
 ·have t1:decide (48≤(c:Int))=true:=by simp;omega
  have t2:decide ((c:Int)≤57)=decide (c≤57):=by rw[Bool.eq_iff_iff];simp;omega
  go_enter Tryz.func233,Tryz.ntmps233
  go_wp2
  go_ret
  exact⟨by simp[digitB,h1],rfl⟩
 ·have t1:decide (48≤(c:Int))=false:=by simp;omega
  go_enter Tryz.func233,Tryz.ntmps233
  go_wp2
  go_ret
  exact⟨by simp[digitB,h1],rfl⟩
def fnNames:Array ByteArray:=#[⟨#[101,120,112]⟩,⟨#[108,111,103]⟩,⟨#[115,105,110]⟩,⟨#[99,111,115]⟩,⟨#[116,97,110]⟩,⟨#[97,115,105,110]⟩,⟨#[97,99,111,115]⟩,⟨#[97,116,97,110]⟩]
def resNames:Array ByteArray:=#[⟨#[101,120,112]⟩,⟨#[108,111,103]⟩,⟨#[115,105,110]⟩,⟨#[99,111,115]⟩,⟨#[116,97,110]⟩,⟨#[97,115,105,110]⟩,⟨#[97,99,111,115]⟩,⟨#[97,116,97,110]⟩,⟨#[112,105]⟩,⟨#[97,98,115]⟩,⟨#[109,105,110]⟩,⟨#[109,97,120]⟩,⟨#[114,111,111,116]⟩,⟨#[115,113,114,116]⟩,⟨#[105,102]⟩,⟨#[105,110,102]⟩,⟨#[102,111,114]⟩,⟨#[105,110]⟩,⟨#[119,104,101,114,101]⟩]
def inNames(a:Array ByteArray)(s:ByteArray):Bool:=a.toList.any fun x=>x.toList==s.toList
def Strs(w:World)(b:Nat)(a:Array ByteArray):Prop:=∀i,i<a.size→w.cell? ⟨b,i,none⟩=some (.string (a[i]?.getD ⟨#[]⟩))
theorem Strs.kept{w w':World}{b:Nat}{a:Array ByteArray}(h:Strs w b a)(k:Kept w w'):Strs w' b a:=fun i hi=>k.cell (h i hi)
theorem inNames_false{a:Array ByteArray}{s:ByteArray}(h:∀j,j<a.size→((a[j]?.getD ⟨#[]⟩).toList==s.toList)=false):inNames a s=false:=by
 unfold inNames
 rw[List.any_eq_false]
 intro x hx
 obtain⟨j,hj,e⟩:=List.mem_iff_getElem.1 hx
 have hj':j<a.size:=by simpa using hj
 have:=h j hj'
 have e2:a[j]? =some x:=by rw[Array.getElem?_eq_getElem hj'];simp at e;rw[e]
 rw[e2] at this
 simpa using this
theorem inNames_true{a:Array ByteArray}{s:ByteArray}{j:Nat}(hj:j<a.size)(h:((a[j]?.getD ⟨#[]⟩).toList==s.toList)=true):inNames a s=true:=by
 unfold inNames
 rw[List.any_eq_true]
 refine⟨a[j],by simp,?_⟩
 have e2:a[j]? =some a[j]:=Array.getElem?_eq_getElem hj
 rw[e2] at h
 exact h
theorem names_calls(w:World):Calls Tryz.prog 269 #[] w fun e w'=>∃b,e= .returned (.slice (some ⟨b,0,none⟩) 8 8)∧Strs w' b fnNames∧Kept w w':=by
 have hb:=Blk.new w #[.string ⟨#[101,120,112]⟩,.string ⟨#[108,111,103]⟩,.string ⟨#[115,105,110]⟩,.string ⟨#[99,111,115]⟩,.string ⟨#[116,97,110]⟩,.string ⟨#[97,115,105,110]⟩,.string ⟨#[97,99,111,115]⟩,.string ⟨#[97,116,97,110]⟩] 9
 go_enter Tryz.func269,Tryz.ntmps269
 go_wp2
 go_ret
 refine⟨_,rfl,fun i hi=> ?_,(Kept.refl w).alloc _⟩
 have hi:i<8:=hi
 match i,hi with
 |0,_=>exact hb.cell 0 rfl
 |1,_=>exact hb.cell 1 rfl
 |2,_=>exact hb.cell 2 rfl
 |3,_=>exact hb.cell 3 rfl
 |4,_=>exact hb.cell 4 rfl
 |5,_=>exact hb.cell 5 rfl
 |6,_=>exact hb.cell 6 rfl
 |7,_=>exact hb.cell 7 rfl
 |n+8,h=>exact absurd h (by omega)
theorem resnames_calls(w:World):Calls Tryz.prog 139 #[] w fun e w'=>∃b,e= .returned (.slice (some ⟨b,0,none⟩) 19 19)∧Strs w' b resNames∧Kept w w':=by
 have hb:=Blk.new w #[.string ⟨#[101,120,112]⟩,.string ⟨#[108,111,103]⟩,.string ⟨#[115,105,110]⟩,.string ⟨#[99,111,115]⟩,.string ⟨#[116,97,110]⟩,.string ⟨#[97,115,105,110]⟩,.string ⟨#[97,99,111,115]⟩,.string ⟨#[97,116,97,110]⟩,.string ⟨#[112,105]⟩,.string ⟨#[97,98,115]⟩,.string ⟨#[109,105,110]⟩,.string ⟨#[109,97,120]⟩,.string ⟨#[114,111,111,116]⟩,.string ⟨#[115,113,114,116]⟩,.string ⟨#[105,102]⟩,.string ⟨#[105,110,102]⟩,.string ⟨#[102,111,114]⟩,.string ⟨#[105,110]⟩,.string ⟨#[119,104,101,114,101]⟩] 9
 go_enter Tryz.func139,Tryz.ntmps139
 go_wp2
 go_ret
 refine⟨_,rfl,fun i hi=> ?_,(Kept.refl w).alloc _⟩
 have hi:i<19:=hi
 match i,hi with
 |0,_=>exact hb.cell 0 rfl
 |1,_=>exact hb.cell 1 rfl
 |2,_=>exact hb.cell 2 rfl
 |3,_=>exact hb.cell 3 rfl
 |4,_=>exact hb.cell 4 rfl
 |5,_=>exact hb.cell 5 rfl
 |6,_=>exact hb.cell 6 rfl
 |7,_=>exact hb.cell 7 rfl
 |8,_=>exact hb.cell 8 rfl
 |9,_=>exact hb.cell 9 rfl
 |10,_=>exact hb.cell 10 rfl
 |11,_=>exact hb.cell 11 rfl
 |12,_=>exact hb.cell 12 rfl
 |13,_=>exact hb.cell 13 rfl
 |14,_=>exact hb.cell 14 rfl
 |15,_=>exact hb.cell 15 rfl
 |16,_=>exact hb.cell 16 rfl
 |17,_=>exact hb.cell 17 rfl
 |18,_=>exact hb.cell 18 rfl
 |n+19,h=>exact absurd h (by omega)
set_option maxHeartbeats 1000000 in
set_option maxRecDepth 100000 in
theorem find_calls(w:World)(s:ByteArray):Calls Tryz.prog 234 #[.string s] w fun e w'=>∃k:Int,e= .returned (.tuple #[.int .i64 k,.bool (inNames fnNames s)])∧Kept w w':=by
 go_enter Tryz.func234,Tryz.ntmps234
 go_wp2_with fail
 refine(names_calls w).mono ?_
 rintro _ w1 ⟨b,rfl,hs,hk⟩
 have HS:=Lib.hid hs;clear hs
 go_wp2_with fail
 go_loop [8] (fun iv=>∃k:Nat,k≤8∧iv= .int .i64 (k:Int)∧∀j,j<k→((fnNames[j]?.getD ⟨#[]⟩).toList==s.toList)=false) (fun iv=>8-(intOf iv).toNat)
 case atStart=>exact⟨0,by omega,rfl,fun j h=>by omega⟩
 case round=>
  obtain⟨k,hk8,rfl,hall⟩:=hrel
  have HALL:=Lib.hid hall;clear hall
  by_cases hlt:k<8
  ·have hc:=HS.out k hlt
   generalize hx:(fnNames[k]?.getD ⟨#[]⟩)=x at*
   have HX:=Lib.hid hx;clear hx
   cases ht:(x.toList==s.toList) with
   |true=>
    have HT:=Lib.hid ht
    go_wp2
    go_ret2
    exact⟨⟨_,by rw[inNames_true (a:=fnNames) (j:=k) hlt (by rw[HX.out];exact HT.out)];rfl⟩,hk⟩
   |false=>
    have HT:=Lib.hid ht
    go_wp2
    go_round
    case rel=>
     refine⟨k+1,by omega,by go_num,fun j hj=> ?_⟩
     by_cases e:j=k
     ·subst e;rw[HX.out];exact HT.out
     ·exact HALL.out j (by omega)
    case measure=>simp[intOf];omega
  ·obtain rfl:8=k:=by omega
   go_wp2
   go_ret2
   exact⟨⟨_,by rw[inNames_false (a:=fnNames) HALL.out];rfl⟩,hk⟩
theorem reserved_split(s:ByteArray):inNames resNames s=(inNames fnNames s||((s.toList==[112,105])||(s.toList==[97,98,115])||(s.toList==[109,105,110])||(s.toList==[109,97,120])||(s.toList==[114,111,111,116])||(s.toList==[115,113,114,116])||(s.toList==[105,102])||(s.toList==[105,110,102])||(s.toList==[102,111,114])||(s.toList==[105,110])||(s.toList==[119,104,101,114,101]))):=by
 have sw:∀l:List UInt8,(l==s.data.toList)=(s.data.toList==l):=fun l=>by rw[Bool.eq_iff_iff,beq_iff_eq,beq_iff_eq];exact eq_comm
 simp[inNames,resNames,fnNames,ByteArray.toList_eq,sw,Bool.or_assoc]
 have sl:∀l:List UInt8,(s.data==l.toArray)=(s.data.toList==l):=fun l=>by
  rw[Bool.eq_iff_iff,beq_iff_eq,beq_iff_eq]
  exact⟨fun h=>by rw[h],fun h=>by rw[←h]⟩
 simp only[sl]
set_option maxHeartbeats 4000000 in
set_option maxRecDepth 100000 in
theorem reserved_calls(w:World)(s:ByteArray):Calls Tryz.prog 182 #[.string s] w fun e w'=>e= .returned (.bool (inNames resNames s))∧Kept w w':=by
 rw[reserved_split]
 cases h0:(s.toList==[112,105]) with
 |true=>
  go_enter Tryz.func182,Tryz.ntmps182
  go_wp2
  go_ret
  exact⟨by simp,Kept.refl _⟩
 |false=>
  cases h1:(s.toList==[97,98,115]) with
  |true=>
   go_enter Tryz.func182,Tryz.ntmps182
   go_wp2
   go_ret
   exact⟨by simp,Kept.refl _⟩
  |false=>
   cases h2:(s.toList==[109,105,110]) with
   |true=>
    go_enter Tryz.func182,Tryz.ntmps182
    go_wp2
    go_ret
    exact⟨by simp,Kept.refl _⟩
   |false=>
    cases h3:(s.toList==[109,97,120]) with
    |true=>
     go_enter Tryz.func182,Tryz.ntmps182
     go_wp2
     go_ret
     exact⟨by simp,Kept.refl _⟩
    |false=>
     cases h4:(s.toList==[114,111,111,116]) with
     |true=>
      go_enter Tryz.func182,Tryz.ntmps182
      go_wp2
      go_ret
      exact⟨by simp,Kept.refl _⟩
     |false=>
      cases h5:(s.toList==[115,113,114,116]) with
      |true=>
       go_enter Tryz.func182,Tryz.ntmps182
       go_wp2
       go_ret
       exact⟨by simp,Kept.refl _⟩
      |false=>
       cases h6:(s.toList==[105,102]) with
       |true=>
        go_enter Tryz.func182,Tryz.ntmps182
        go_wp2
        go_ret
        exact⟨by simp,Kept.refl _⟩
       |false=>
        cases h7:(s.toList==[105,110,102]) with
        |true=>
         go_enter Tryz.func182,Tryz.ntmps182
         go_wp2
         go_ret
         exact⟨by simp,Kept.refl _⟩
        |false=>
         cases h8:(s.toList==[102,111,114]) with
         |true=>
          go_enter Tryz.func182,Tryz.ntmps182
          go_wp2
          go_ret
          exact⟨by simp,Kept.refl _⟩
         |false=>
          cases h9:(s.toList==[105,110]) with
          |true=>
           go_enter Tryz.func182,Tryz.ntmps182
           go_wp2
           go_ret
           exact⟨by simp,Kept.refl _⟩
          |false=>
           cases h10:(s.toList==[119,104,101,114,101]) with
           |true=>
            go_enter Tryz.func182,Tryz.ntmps182
            go_wp2
            go_ret
            exact⟨by simp,Kept.refl _⟩
           |false=>
            go_enter Tryz.func182,Tryz.ntmps182
            go_wp2_with(go_at_call 234;refine(find_calls w s).mono ?_;rintro e w1 ⟨k,rfl,hk⟩)
            go_ret
            exact⟨by simp,hk⟩
end
section
open Go Go.RowKit Go.Dig
def bt(s:ByteArray)(k:Nat):Nat:=if h:k<s.size then s[k].toNat else 0
def okAt(s:ByteArray)(k:Nat):Bool:=letterB (bt s k)||(decide (k≠0)&&digitB (bt s k))
def wokB(s:ByteArray):Bool:=decide (0<s.size)&&(List.range s.size).all (okAt s)
theorem bt_eq{s:ByteArray}{k:Nat}(h:k<s.size):bt s k=s[k].toNat:=by unfold bt;rw[dif_pos h]
theorem wok_true{s:ByteArray}(h0:0<s.size)(h:∀j,j<s.size→okAt s j=true):wokB s=true:=by
 unfold wokB
 simp only[Bool.and_eq_true,decide_eq_true_eq,List.all_eq_true,List.mem_range]
 exact⟨h0,h⟩
theorem wok_false{s:ByteArray}{k:Nat}(hk:k<s.size)(h:okAt s k=false):wokB s=false:=by
 unfold wokB
 rw[Bool.and_eq_false_iff]
 right
 rw[List.all_eq_false]
 exact⟨k,List.mem_range.2 hk,by simp[h]⟩
set_option maxHeartbeats 2000000 in
set_option maxRecDepth 100000 in
theorem rword_calls(w:World)(s:ByteArray)(hs:s.size<100):Calls Tryz.prog 138 #[.string s] w fun e w'=>e= .returned (.bool (wokB s))∧w=w':=by
 go_enter Tryz.func138,Tryz.ntmps138
 go_wp2
 go_loop [3] (fun iv=>∃k:Nat,k≤s.size∧iv= .int .i64 (k:Int)∧∀j,j<k→okAt s j=true) (fun iv=>s.size-(intOf iv).toNat)
 case atStart=>exact⟨0,by omega,rfl,fun j h=>by omega⟩
 case round=>
  obtain⟨k,hk,rfl,hall⟩:=hrel
  have HALL:=Lib.hid hall;clear hall
  by_cases hlt:k<s.size
  ·have hbt:=bt_eq hlt
   have good:okAt s k=true→∀j,j<k+1→okAt s j=true:=fun h j hj=>by
    by_cases e:j=k
    ·subst e;exact h
    ·exact HALL.out j (by omega)
   have GOOD:=Lib.hid good;clear good
   have e0:((k:Int)==0)=decide (k=0):=by rw[Bool.eq_iff_iff];simp
   obtain⟨c,hc⟩:∃c,s[k].toNat=c:=⟨_,rfl⟩
   have ebt:bt s k=c:=by rw[hbt,hc]
   have hok:okAt s k=(letterB c||(decide (k≠0)&&digitB c)):=by unfold okAt;rw[ebt]
   have HOK:=Lib.hid hok;clear hok hbt ebt
   by_cases h97:97≤c
   ·have t1:decide (97≤(s[k].toNat:Int))=true:=by rw[hc];simp;omega
    by_cases h122:c≤122
    ·have t2:decide ((s[k].toNat:Int)≤122)=true:=by rw[hc];simp;omega
     have hg:okAt s k=true:=by rw[HOK.out];simp[letterB,h97,h122]
     have HG:=Lib.hid hg
     clear hc hg h97 h122
     go_wp2
     go_round
     case rel=>exact⟨k+1,by omega,by go_num,GOOD.out HG.out⟩
     case measure=>simp[intOf];try omega
    ·have t2:decide ((s[k].toNat:Int)≤122)=false:=by rw[hc];simp;omega
     have t3:decide ((s[k].toNat:Int)<48)=false:=by rw[hc];simp;omega
     have t4:decide (57<(s[k].toNat:Int))=true:=by rw[hc];simp;omega
     have hg:okAt s k=false:=by rw[HOK.out];simp[letterB,digitB,h97,h122];omega
     have HG:=Lib.hid hg
     clear hc hg h97 h122
     by_cases h0:k=0
     ·subst h0
      go_wp2
      go_ret
      exact⟨by rw[wok_false hlt HG.out];rfl,rfl⟩
     ·have e1:((k:Int)==0)=false:=by simp;omega
      clear e0
      go_wp2
      go_ret
      exact⟨by rw[wok_false hlt HG.out];rfl,rfl⟩
   ·have t1:decide (97≤(s[k].toNat:Int))=false:=by rw[hc];simp;omega
    by_cases h0:k=0
    ·subst h0
     have hg:okAt s 0=false:=by rw[HOK.out];simp[letterB,h97]
     have HG:=Lib.hid hg
     clear hc hg h97
     go_wp2
     go_ret
     exact⟨by rw[wok_false hlt HG.out];rfl,rfl⟩
    ·have e1:((k:Int)==0)=false:=by simp;omega
     clear e0
     by_cases h48:c<48
     ·have t3:decide ((s[k].toNat:Int)<48)=true:=by rw[hc];simp;omega
      have hg:okAt s k=false:=by rw[HOK.out];simp[letterB,digitB,h97];omega
      have HG:=Lib.hid hg
      clear hc hg h97 h48
      go_wp2
      go_ret
      exact⟨by rw[wok_false hlt HG.out];rfl,rfl⟩
     ·have t3:decide ((s[k].toNat:Int)<48)=false:=by rw[hc];simp;omega
      by_cases h57:57<c
      ·have t4:decide (57<(s[k].toNat:Int))=true:=by rw[hc];simp;omega
       have hg:okAt s k=false:=by rw[HOK.out];simp[letterB,digitB,h97];omega
       have HG:=Lib.hid hg
       clear hc hg h97 h48 h57
       go_wp2
       go_ret
       exact⟨by rw[wok_false hlt HG.out];rfl,rfl⟩
      ·have t4:decide (57<(s[k].toNat:Int))=false:=by rw[hc];simp;omega
       have hg:okAt s k=true:=by rw[HOK.out];simp[digitB,h0,show 48≤c by omega,show c≤57 by omega]
       have HG:=Lib.hid hg
       clear hc hg h97 h48 h57
       go_wp2
       go_round
       case rel=>exact⟨k+1,by omega,by go_num,GOOD.out HG.out⟩
       case measure=>simp[intOf];try omega
  ·obtain rfl:s.size=k:=by omega
   by_cases h0:0<s.size
   ·have t1:decide (0<(s.size:Int))=true:=by simp;omega
    go_wp2
    go_ret
    exact⟨by rw[wok_true h0 HALL.out];rfl,rfl⟩
   ·have t1:decide (0<(s.size:Int))=false:=decide_eq_false (by omega)
    have hw:wokB s=false:=by unfold wokB;simp[h0]
    have HW:=Lib.hid hw;clear hw
    go_wp2
    go_ret
    exact⟨by rw[HW.out];rfl,rfl⟩
set_option maxHeartbeats 2000000 in
set_option maxRecDepth 100000 in
theorem sword_calls(w:World)(s:ByteArray)(hs:s.size<100)(h0:0<s.size):Calls Tryz.prog 181 #[.string s] w fun e w'=>∃k:Nat,e= .returned (.int .i64 (k:Int))∧k≤s.size∧(k=s.size↔wokB s=true)∧w=w':=by
 have hbt:=bt_eq h0
 have t0:(s.toList==[])=false:=by
  rw[ByteArray.toList_eq]
  have hz:s.data.size=s.size:=rfl
  cases hd:s.data.toList with
  |nil=>exfalso;have:s.data.size=0:=by rw[←Array.length_toList,hd];rfl
        omega
  |cons a l=>rfl
 have hl:=letter_calls w s[0].toNat
 cases hlb:letterB s[0].toNat with
 |false=>
  rw[hlb] at hl
  have hok:okAt s 0=false:=by unfold okAt;rw[hbt,hlb];simp
  have hw:¬wokB s=true:=by rw[wok_false h0 hok];decide
  have HW:=Lib.hid hw;clear hw
  clear hbt
  go_enter Tryz.func181,Tryz.ntmps181
  go_wp2_with(go_at_call 232;refine hl.mono ?_;rintro e w1 ⟨rfl,rfl⟩)
  go_ret
  exact⟨0,rfl,by omega,⟨fun h=>by omega,fun h=>absurd h HW.out⟩,rfl⟩
 |true=>
  rw[hlb] at hl
  have hok:okAt s 0=true:=by unfold okAt;rw[hbt,hlb];rfl
  have HOK0:=Lib.hid hok
  clear hbt hok hlb
  go_enter Tryz.func181,Tryz.ntmps181
  go_wp2_with(go_at_call 232;refine hl.mono ?_;rintro e w1 ⟨rfl,rfl⟩)
  clear hl
  go_loop [3] (fun iv=>∃k:Nat,1≤k∧k≤s.size∧iv= .int .i64 (k:Int)∧∀j,j<k→okAt s j=true) (fun iv=>s.size-(intOf iv).toNat)
  case atStart=>exact⟨1,by omega,by omega,rfl,fun j h=>by obtain rfl:j=0:=by omega
                                                          exact HOK0.out⟩
  case round=>
   obtain⟨k,hk1,hk,rfl,hall⟩:=hrel
   have HALL:=Lib.hid hall;clear hall
   by_cases hlt:k<s.size
   ·have hbt:=bt_eq hlt
    have good:okAt s k=true→∀j,j<k+1→okAt s j=true:=fun h j hj=>by
     by_cases e:j=k
     ·subst e;exact h
     ·exact HALL.out j (by omega)
    have GOOD:=Lib.hid good;clear good
    have hl:=letter_calls w s[k].toNat
    have hd:=digit_calls' w s[k].toNat
    have hok:okAt s k=(letterB s[k].toNat||(decide (k≠0)&&digitB s[k].toNat)):=by unfold okAt;rw[hbt]
    cases hlb:letterB s[k].toNat with
    |true=>
     rw[hlb] at hl hok
     have HG:=Lib.hid (show okAt s k=true by rw[hok];rfl)
     clear hd hok hbt hlb
     go_wp2_with(go_at_call 232;refine hl.mono ?_;rintro e w1 ⟨rfl,rfl⟩)
     go_round
     case rel=>exact⟨k+1,by omega,by omega,by go_num,GOOD.out HG.out⟩
     case measure=>simp[intOf];try omega
    |false=>
     cases hdb:digitB s[k].toNat with
     |true=>
      rw[hlb] at hl hok
      rw[hdb] at hd hok
      have HG:=Lib.hid (show okAt s k=true by rw[hok];simp;omega)
      clear hok hbt hlb hdb
      go_wp2_with(first|(go_at_call 232;refine hl.mono ?_;rintro e w1 ⟨rfl,rfl⟩)|(go_at_call 233;refine hd.mono ?_;rintro e w1 ⟨rfl,rfl⟩))
      go_round
      case rel=>exact⟨k+1,by omega,by omega,by go_num,GOOD.out HG.out⟩
      case measure=>simp[intOf];try omega
     |false=>
      rw[hlb] at hl hok
      rw[hdb] at hd hok
      have HG:=Lib.hid (show okAt s k=false by rw[hok];simp)
      clear hok hbt hlb hdb
      go_wp2_with(first|(go_at_call 232;refine hl.mono ?_;rintro e w1 ⟨rfl,rfl⟩)|(go_at_call 233;refine hd.mono ?_;rintro e w1 ⟨rfl,rfl⟩))
      go_ret
      exact⟨k,rfl,by omega,⟨fun h=>by omega,fun h=>by rw[wok_false hlt HG.out] at h;cases h⟩,rfl⟩
   ·obtain rfl:s.size=k:=by omega
    go_wp2
    go_ret
    exact⟨s.size,rfl,by omega,⟨fun _=>wok_true h0 HALL.out,fun _=>rfl⟩,rfl⟩
end
end Go.Proofs.YtancebninmoipaaGreatDoor
