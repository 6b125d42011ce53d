/- A part of the proof that ClaimFaces answers true for every input of bulk at most 1048576: conditions: the row's own. -/
import Derived.Test.YtbapfnpbamnmpaaGreatDoorRf
import Derived.Recover
namespace Go.Proofs.YtbapfnpbamnmpaaGreatDoor
open Go Go.RowKit Go.Dig
open Go.Eng (Kept KW KeptB)
section
def Blk(w:World)(b:Nat)(cs:Array Value)(t:TypeId):Prop:=w.heap[b]? =some (.cells cs t)
section
variable{w w':World}{b:Nat}{cs:Array Value}{t:TypeId}
theorem Blk.new(w:World)(cs:Array Value)(t:TypeId):Blk (w.alloc (.cells cs t)) w.heap.size cs t:=Go.Deep.blk_alloc_new _ _
theorem Blk.lt(h:Blk w b cs t):b<w.heap.size:=(Array.getElem?_eq_some_iff.1 h).1
theorem Blk.kept(h:Blk w b cs t)(k:Kept w w'):Blk w' b cs t:=(k.old b h.lt).trans h
theorem Blk.keptB{g:Nat}(h:Blk w b cs t)(k:KeptB w w' g)(hb:b≠g):Blk w' b cs t:=(k.old b h.lt hb).trans h
theorem Blk.cell(h:Blk w b cs t)(i:Nat){v:Value}(hv:cs[i]? =some v):w.cell? ⟨b,i,none⟩=some v:=by
 unfold Blk at h
 simp[World.cell?,h,hv]
theorem Blk.frozen(h:Blk w b cs t)(i:Nat):w.frozen? ⟨b,i,none⟩=false:=by
 unfold Blk at h
 simp[World.frozen?,h]
theorem Blk.set(h:Blk w b cs t)(i:Nat)(v:Value):Blk (w.setCell ⟨b,i,none⟩ v) b (cs.setIfInBounds i v) t:=by
 unfold Blk at*
 simp[World.setCell,Array.getElem?_modify,h]
theorem Blk.noWords(h:Blk w b cs t)(hc:cs.toList.all (fun v=>match v with| .int .u32 _=>false|_=>true)=true):NoWords w b:=by
 intro off n hcell
 unfold Blk at h
 simp only[World.cell?,h] at hcell
 have hm:Value.int .u32 n∈cs.toList:=by
  have:=Array.mem_of_getElem? (xs:=cs) (i:=off) (a:=Value.int .u32 n) (by simpa using hcell)
  simpa using this
 have:=List.all_eq_true.1 hc _ hm
 simp at this
end
theorem Blk.facts1{w:World}{b:Nat}{t:TypeId}{x0:Value}(h:Blk w b #[x0] t):w.cell? ⟨b,0,none⟩=some x0∧w.frozen? ⟨b,0,none⟩=false:=
 ⟨h.cell 0 rfl,h.frozen 0⟩
theorem Blk.facts7{w:World}{b:Nat}{t:TypeId}{x0 x1 x2 x3 x4 x5 x6:Value}(h:Blk w b #[x0,x1,x2,x3,x4,x5,x6] t):w.cell? ⟨b,0,none⟩=some x0∧w.cell? ⟨b,1,none⟩=some x1∧w.cell? ⟨b,2,none⟩=some x2∧w.cell? ⟨b,3,none⟩=some x3∧w.cell? ⟨b,4,none⟩=some x4∧w.cell? ⟨b,5,none⟩=some x5∧w.cell? ⟨b,6,none⟩=some x6∧w.frozen? ⟨b,0,none⟩=false∧w.frozen? ⟨b,1,none⟩=false∧w.frozen? ⟨b,2,none⟩=false∧w.frozen? ⟨b,3,none⟩=false∧w.frozen? ⟨b,4,none⟩=false∧w.frozen? ⟨b,5,none⟩=false∧w.frozen? ⟨b,6,none⟩=false:=
 ⟨h.cell 0 rfl,h.cell 1 rfl,h.cell 2 rfl,h.cell 3 rfl,h.cell 4 rfl,h.cell 5 rfl,h.cell 6 rfl,h.frozen 0,h.frozen 1,h.frozen 2,h.frozen 3,h.frozen 4,h.frozen 5,h.frozen 6⟩
theorem Blk.facts8{w:World}{b:Nat}{t:TypeId}{x0 x1 x2 x3 x4 x5 x6 x7:Value}(h:Blk w b #[x0,x1,x2,x3,x4,x5,x6,x7] t):w.cell? ⟨b,0,none⟩=some x0∧w.cell? ⟨b,1,none⟩=some x1∧w.cell? ⟨b,2,none⟩=some x2∧w.cell? ⟨b,3,none⟩=some x3∧w.cell? ⟨b,4,none⟩=some x4∧w.cell? ⟨b,5,none⟩=some x5∧w.cell? ⟨b,6,none⟩=some x6∧w.cell? ⟨b,7,none⟩=some x7∧w.frozen? ⟨b,0,none⟩=false∧w.frozen? ⟨b,1,none⟩=false∧w.frozen? ⟨b,2,none⟩=false∧w.frozen? ⟨b,3,none⟩=false∧w.frozen? ⟨b,4,none⟩=false∧w.frozen? ⟨b,5,none⟩=false∧w.frozen? ⟨b,6,none⟩=false∧w.frozen? ⟨b,7,none⟩=false:=
 ⟨h.cell 0 rfl,h.cell 1 rfl,h.cell 2 rfl,h.cell 3 rfl,h.cell 4 rfl,h.cell 5 rfl,h.cell 6 rfl,h.cell 7 rfl,h.frozen 0,h.frozen 1,h.frozen 2,h.frozen 3,h.frozen 4,h.frozen 5,h.frozen 6,h.frozen 7⟩
theorem Blk.facts9{w:World}{b:Nat}{t:TypeId}{x0 x1 x2 x3 x4 x5 x6 x7 x8:Value}(h:Blk w b #[x0,x1,x2,x3,x4,x5,x6,x7,x8] t):w.cell? ⟨b,0,none⟩=some x0∧w.cell? ⟨b,1,none⟩=some x1∧w.cell? ⟨b,2,none⟩=some x2∧w.cell? ⟨b,3,none⟩=some x3∧w.cell? ⟨b,4,none⟩=some x4∧w.cell? ⟨b,5,none⟩=some x5∧w.cell? ⟨b,6,none⟩=some x6∧w.cell? ⟨b,7,none⟩=some x7∧w.cell? ⟨b,8,none⟩=some x8∧w.frozen? ⟨b,0,none⟩=false∧w.frozen? ⟨b,1,none⟩=false∧w.frozen? ⟨b,2,none⟩=false∧w.frozen? ⟨b,3,none⟩=false∧w.frozen? ⟨b,4,none⟩=false∧w.frozen? ⟨b,5,none⟩=false∧w.frozen? ⟨b,6,none⟩=false∧w.frozen? ⟨b,7,none⟩=false∧w.frozen? ⟨b,8,none⟩=false:=
 ⟨h.cell 0 rfl,h.cell 1 rfl,h.cell 2 rfl,h.cell 3 rfl,h.cell 4 rfl,h.cell 5 rfl,h.cell 6 rfl,h.cell 7 rfl,h.cell 8 rfl,h.frozen 0,h.frozen 1,h.frozen 2,h.frozen 3,h.frozen 4,h.frozen 5,h.frozen 6,h.frozen 7,h.frozen 8⟩
theorem Blk.facts10{w:World}{b:Nat}{t:TypeId}{x0 x1 x2 x3 x4 x5 x6 x7 x8 x9:Value}(h:Blk w b #[x0,x1,x2,x3,x4,x5,x6,x7,x8,x9] t):w.cell? ⟨b,0,none⟩=some x0∧w.cell? ⟨b,1,none⟩=some x1∧w.cell? ⟨b,2,none⟩=some x2∧w.cell? ⟨b,3,none⟩=some x3∧w.cell? ⟨b,4,none⟩=some x4∧w.cell? ⟨b,5,none⟩=some x5∧w.cell? ⟨b,6,none⟩=some x6∧w.cell? ⟨b,7,none⟩=some x7∧w.cell? ⟨b,8,none⟩=some x8∧w.cell? ⟨b,9,none⟩=some x9∧w.frozen? ⟨b,0,none⟩=false∧w.frozen? ⟨b,1,none⟩=false∧w.frozen? ⟨b,2,none⟩=false∧w.frozen? ⟨b,3,none⟩=false∧w.frozen? ⟨b,4,none⟩=false∧w.frozen? ⟨b,5,none⟩=false∧w.frozen? ⟨b,6,none⟩=false∧w.frozen? ⟨b,7,none⟩=false∧w.frozen? ⟨b,8,none⟩=false∧w.frozen? ⟨b,9,none⟩=false:=
 ⟨h.cell 0 rfl,h.cell 1 rfl,h.cell 2 rfl,h.cell 3 rfl,h.cell 4 rfl,h.cell 5 rfl,h.cell 6 rfl,h.cell 7 rfl,h.cell 8 rfl,h.cell 9 rfl,h.frozen 0,h.frozen 1,h.frozen 2,h.frozen 3,h.frozen 4,h.frozen 5,h.frozen 6,h.frozen 7,h.frozen 8,h.frozen 9⟩
theorem Blk.b3{w:World}{b:Nat}{t:TypeId}{x y z:Value}(h:Blk w b #[x,y,z] t):Blk3 w b x y z t:=h
def failed:List PanicEntry:=[{v:=.iface 355 (.agg #[.int .i64 1]),recovered:=false}]
theorem fr_flag{w:World}{p q:Bool}{a a':Option Addr}{n n' c c' x y:Nat}(h:Fr w (.agg #[.bool p,.slice a n c,.slice a' n' c']) q x y):p=q:=by
 obtain⟨vn,vd,e,_,_⟩:=h
 cases e
 rfl
set_option maxHeartbeats 1000000 in
set_option maxRecDepth 100000 in
theorem number_ok{w:World}{v:Value}{neg:Bool}{N D:Nat}(h:Rt w v neg N D)(hT:Laid w)(hs:small N D=true):
 Calls Tryz.prog 319 #[v] w (RetFr (neg&&decide (0<N)) (rN N D) (rD N D) w):=by
 have hrd:=fun(w':World)(k:Kept w w')=>read_calls (h.kept k) (hT.kept k)
 obtain⟨vn,vd,rfl,hn,hd⟩:=h
 obtain⟨a,n,cap,xs,rfl,_⟩:=hn.shape'
 obtain⟨ad,nd,capd,ys,rfl,_⟩:=hd.shape'
 have hb2:=Blk.new (w.alloc (.cells #[.bool neg,.slice a n cap,.slice ad nd capd] 24)) #[.bool false,.slice none 0 0,.slice none 0 0] 217
 have hk1:Kept w ((w.alloc (.cells #[.bool neg,.slice a n cap,.slice ad nd capd] 24)).alloc (.cells #[.bool false,.slice none 0 0,.slice none 0 0] 217)):=((Kept.refl _).alloc _).alloc _
 have esz:(w.alloc (.cells #[.bool neg,.slice a n cap,.slice ad nd capd] 24)).heap.size=w.heap.size+1:=by simp[go_sem]
 rw[esz] at hb2
 clear esz hn hd
 have hr1:=hrd _ hk1
 clear hrd
 go_enter Tryz.func319,Tryz.ntmps319
 go_wp2_with fail
 generalize (w.alloc (.cells #[.bool neg,.slice a n cap,.slice ad nd capd] 24)).alloc (.cells #[.bool false,.slice none 0 0,.slice none 0 0] 217)=w1 at*
 generalize hbE:w.heap.size=b0 at hb2⊢
 have HBE:=Lib.hid hbE;clear hbE
 refine hr1.mono ?_
 rintro e w2 ⟨p,a2,n2,c2,a3,n3,c3,rfl,hk2,hfr⟩
 have hfr:=hfr hs
 obtain rfl:=fr_flag hfr
 generalize hp:(neg&&decide (0<N))=p at*
 have hb2':=hb2.kept hk2
 obtain⟨c0,c1,c2',f0,f1,f2⟩:=(hb2'.kept ((Kept.refl w2).alloc (.cells #[.bool p,.slice a2 n2 c2,.slice a3 n3 c3] 217))).b3.facts
 rw[hs]
 go_wp2
 have hk3:Kept w (w2.alloc (.cells #[.bool p,.slice a2 n2 c2,.slice a3 n3 c3] 217)):=(hk1.trans hk2).alloc _
 have hkb:=KeptB.store3 (w2.alloc (.cells #[.bool p,.slice a2 n2 c2,.slice a3 n3 c3] 217)) (b0+1) (.bool p) (.slice a2 n2 c2) (.slice a3 n3 c3)
 have hnw:=(hb2'.kept ((Kept.refl w2).alloc (.cells #[.bool p,.slice a2 n2 c2,.slice a3 n3 c3] 217))).noWords rfl
 have hfr3:=hfr.kept ((Kept.refl w2).alloc (.cells #[.bool p,.slice a2 n2 c2,.slice a3 n3 c3] 217))
 refine bodyPost_ret (v:=.agg #[.bool p,.slice a2 n2 c2,.slice a3 n3 c3]) (by simp[results,Tryz.results319,go_sem,c0,c1,c2']) rfl ⟨_,rfl,?_,hk3.but hkb (by have:=HBE.out;omega)⟩
 obtain⟨vn,vd,e,h1,h2⟩:=hfr3
 cases e
 exact⟨_,_,rfl,h1.keptB hkb hnw,h2.keptB hkb hnw⟩
theorem must_calls(w:World):Calls Tryz.prog 376 #[.int .i64 1] w fun e w'=>e= .panicked failed∧w=w':=by
 go_enter Tryz.func376,Tryz.ntmps376
 go_wp2
 exact⟨rfl,rfl,rfl⟩
set_option maxHeartbeats 1000000 in
set_option maxRecDepth 100000 in
theorem number_big{w:World}{v:Value}{neg:Bool}{N D:Nat}(h:Rt w v neg N D)(hT:Laid w)(hs:small N D=false):
 Calls Tryz.prog 319 #[v] w fun e w'=>e= .panicked failed∧Kept w w':=by
 have hrd:=fun(w':World)(k:Kept w w')=>read_calls (h.kept k) (hT.kept k)
 obtain⟨vn,vd,rfl,hn,hd⟩:=h
 obtain⟨a,n,cap,xs,rfl,_⟩:=hn.shape'
 obtain⟨ad,nd,capd,ys,rfl,_⟩:=hd.shape'
 have hk1:Kept w ((w.alloc (.cells #[.bool neg,.slice a n cap,.slice ad nd capd] 24)).alloc (.cells #[.bool false,.slice none 0 0,.slice none 0 0] 217)):=((Kept.refl _).alloc _).alloc _
 clear hn hd
 have hr1:=hrd _ hk1
 clear hrd
 go_enter Tryz.func319,Tryz.ntmps319
 go_wp2_with fail
 generalize (w.alloc (.cells #[.bool neg,.slice a n cap,.slice ad nd capd] 24)).alloc (.cells #[.bool false,.slice none 0 0,.slice none 0 0] 217)=w1 at*
 refine hr1.mono ?_
 rintro e w2 ⟨p,a2,n2,c2,a3,n3,c3,rfl,hk2,_⟩
 rw[hs]
 go_wp2_with(go_at_call 376;refine(must_calls _).mono ?_;rintro e w3 ⟨rfl,rfl⟩)
 exact⟨rfl,rfl,(hk1.trans hk2).alloc _⟩
end
structure IvD where
 s1:Bool
 N1:Nat
 D1:Nat
 s2:Bool
 N2:Nat
 D2:Nat
 li:Bool
 hi:Bool
def Ivl(w:World)(v:Value)(i:IvD):Prop:=
 ∃a n c a' n' c' b m e b' m' e',v= .agg #[.bool i.s1,.slice a n c,.slice a' n' c',.bool i.s2,.slice b m e,.slice b' m' e',.bool i.li,.bool i.hi]∧
  Rt w (.agg #[.bool i.s1,.slice a n c,.slice a' n' c']) i.s1 i.N1 i.D1∧Rt w (.agg #[.bool i.s2,.slice b m e,.slice b' m' e']) i.s2 i.N2 i.D2
theorem Ivl.kept{w w':World}{v:Value}{i:IvD}(h:Ivl w v i)(k:Kept w w'):Ivl w' v i:=by
 obtain⟨a,n,c,a',n',c',b,m,e,b',m',e',h1,h2,h3⟩:=h
 exact⟨a,n,c,a',n',c',b,m,e,b',m',e',h1,h2.kept k,h3.kept k⟩
def IvD.fine(i:IvD):Bool:=small i.N1 i.D1&&small i.N2 i.D2
def IvD.void(i:IvD):Bool:= !i.li&& !i.hi&&decide (0<qcmp (i.s1&&decide (0<i.N1)) (rN i.N1 i.D1) (rD i.N1 i.D1) (i.s2&&decide (0<i.N2)) (rN i.N2 i.D2) (rD i.N2 i.D2))
theorem Rt.shape{w:World}{v:Value}{neg:Bool}{N D:Nat}(h:Rt w v neg N D):∃a n c a' n' c',v= .agg #[.bool neg,.slice a n c,.slice a' n' c']:=by
 obtain⟨vn,vd,rfl,hn,hd⟩:=h
 obtain⟨a,n,cap,xs,rfl,_⟩:=hn.shape'
 obtain⟨ad,nd,capd,ys,rfl,_⟩:=hd.shape'
 exact⟨_,_,_,_,_,_,rfl⟩
set_option maxHeartbeats 1000000 in
set_option maxRecDepth 100000 in
theorem ilarge_calls{w:World}{v:Value}{i:IvD}(h:Ivl w v i):
 Calls Tryz.prog 146 #[v] w fun e w'=>e= .returned (.bool (!i.fine))∧Kept w w':=by
 obtain⟨s1,N1,D1,s2,N2,D2,li,hi⟩:=i
 obtain⟨a,n,c,a',n',c',b,m,e,b',m',e',rfl,h1,h2⟩:=h
 have hb:=Blk.new w #[.bool s1,.slice a n c,.slice a' n' c',.bool s2,.slice b m e,.slice b' m' e',.bool li,.bool hi] 39
 have hk:Kept w (w.alloc (.cells #[.bool s1,.slice a n c,.slice a' n' c',.bool s2,.slice b m e,.slice b' m' e',.bool li,.bool hi] 39)):=(Kept.refl _).alloc _
 have hl1:=large_calls (h1.kept hk)
 have hl2:=fun(w':World)(k:Kept w w')=>large_calls (h2.kept k)
 show Calls Tryz.prog 146 _ w fun e w'=>e= .returned (.bool (!(small N1 D1&&small N2 D2)))∧Kept w w'
 clear h1 h2
 generalize small N1 D1=p at*
 generalize small N2 D2=q at*
 cases p
 ·rw[show(!false)=true from rfl] at hl1
  go_enter Tryz.func146,Tryz.ntmps146
  go_wp2_with(go_at_call 120;refine hl1.mono ?_;rintro e w1 ⟨rfl,hk1⟩)
  go_ret
  exact⟨rfl,hk.trans hk1⟩
 ·rw[show(!true)=false from rfl] at hl1
  go_enter Tryz.func146,Tryz.ntmps146
  go_wp2_with fail
  refine hl1.mono ?_
  rintro e w1 ⟨rfl,hk1⟩
  obtain⟨c0,c1,c2,c3,c4,c5,c6,c7,_⟩:=(hb.kept hk1).facts8
  go_wp2_with(go_at_call 120;refine(hl2 _ (hk.trans hk1)).mono ?_;rintro e w2 ⟨rfl,hk2⟩)
  go_ret
  exact⟨by simp,(hk.trans hk1).trans hk2⟩
def Iq(w:World)(v:Value)(p1:Bool)(n1 d1:Nat)(p2:Bool)(n2 d2:Nat)(li hi em:Bool):Prop:=
 ∃a n c a' n' c' b m e b' m' e',v= .agg #[.bool p1,.slice a n c,.slice a' n' c',.bool p2,.slice b m e,.slice b' m' e',.bool li,.bool hi,.bool em]∧
  Qv w (.agg #[.bool p1,.slice a n c,.slice a' n' c']) p1 n1 d1∧Qv w (.agg #[.bool p2,.slice b m e,.slice b' m' e']) p2 n2 d2
theorem qv_zero(w:World):Qv w (.agg #[.bool false,.slice none 0 0,.slice none 0 0]) false 0 0:=⟨_,_,rfl,nt_zero _ _ _ _,nt_zero _ _ _ _⟩
theorem Qv.keptB{w w':World}{v:Value}{p:Bool}{n d b:Nat}(h:Qv w v p n d)(k:KeptB w w' b)(hb:NoWords w b):Qv w' v p n d:=by
 obtain⟨x,y,h1,h2,h3⟩:=h
 exact⟨x,y,h1,h2.keptB k hb,h3.keptB k hb⟩
theorem Qv.shape{w:World}{v:Value}{p:Bool}{n d:Nat}(h:Qv w v p n d):∃a n c a' n' c',v= .agg #[.bool p,.slice a n c,.slice a' n' c']:=by
 obtain⟨x,y,h1,h2,h3⟩:=h
 obtain⟨a,n,c,rfl⟩:=h2.shape
 obtain⟨a',n',c',rfl⟩:=h3.shape
 exact⟨_,_,_,_,_,_,h1⟩
theorem none_calls(w:World):Calls Tryz.prog 127 #[] w fun e w'=>e= .returned (.agg #[.bool false,.slice none 0 0,.slice none 0 0,.bool false,.slice none 0 0,.slice none 0 0,.bool false,.bool false,.bool true])∧Kept w w':=by
 go_enter Tryz.func127,Tryz.ntmps127
 go_wp2
 exact bodyPost_ret (v:=.agg #[.bool false,.slice none 0 0,.slice none 0 0,.bool false,.slice none 0 0,.slice none 0 0,.bool false,.bool false,.bool true]) (by simp[results,Tryz.results127,go_sem]) rfl ⟨rfl,(Kept.refl _).alloc _⟩
theorem small_bounds{N D:Nat}(h:small N D=true):N<Mid∧D<Mid∧rN N D<Sm∧rD N D<Sm∧N<pwr 2 8192∧D<pwr 2 8192:=by
 unfold small at h
 simp only[Bool.and_eq_true,decide_eq_true_eq] at h
 obtain⟨⟨⟨h1,h2⟩,h3⟩,h4⟩:=h
 have e:pwr 2 2048≤Sm:=pwr_le 2048 7000 (by decide)
 unfold fits32 at h3 h4
 exact⟨mid8 h1,mid8 h2,Nat.lt_of_lt_of_le (of_decide_eq_true h3) e,Nat.lt_of_lt_of_le (of_decide_eq_true h4) e,h1,h2⟩
theorem st1(w:World)(b i:Nat)(x:Value):KeptB w (w.setCell ⟨b,i,none⟩ x) b:=(Go.Eng.KeptB.refl w b).setCell rfl _
theorem stI(w:World)(b i j k:Nat)(x y z:Value):KeptB w (((w.setCell ⟨b,i,none⟩ x).setCell ⟨b,j,none⟩ y).setCell ⟨b,k,none⟩ z) b:=(((Go.Eng.KeptB.refl w b).setCell rfl _).setCell rfl _).setCell rfl _
theorem st9(w:World)(b:Nat)(x0 x1 x2 x3 x4 x5 x6 x7 x8:Value):KeptB w (((((((((w.setCell ⟨b,0,none⟩ x0).setCell ⟨b,1,none⟩ x1).setCell ⟨b,2,none⟩ x2).setCell ⟨b,3,none⟩ x3).setCell ⟨b,4,none⟩ x4).setCell ⟨b,5,none⟩ x5).setCell ⟨b,6,none⟩ x6).setCell ⟨b,7,none⟩ x7).setCell ⟨b,8,none⟩ x8) b:=
 (((((((((Go.Eng.KeptB.refl w b).setCell rfl _).setCell rfl _).setCell rfl _).setCell rfl _).setCell rfl _).setCell rfl _).setCell rfl _).setCell rfl _).setCell rfl _
def RetI(i:IvD)(w:World)(e:Ending)(w':World):Prop:=
 ∃v,e= .returned v∧Kept w w'∧(if i.void then Iq w' v false 0 0 false 0 0 false false true else
  Iq w' v (if i.li then false else i.s1&&decide (0<i.N1)) (if i.li then 0 else rN i.N1 i.D1) (if i.li then 0 else rD i.N1 i.D1)
   (if i.hi then false else i.s2&&decide (0<i.N2)) (if i.hi then 0 else rN i.N2 i.D2) (if i.hi then 0 else rD i.N2 i.D2) i.li i.hi false)
set_option maxHeartbeats 4000000 in
set_option maxRecDepth 100000 in
theorem iof_ff{w:World}{v:Value}{s1 s2:Bool}{N1 D1 N2 D2:Nat}(h:Ivl w v ⟨s1,N1,D1,s2,N2,D2,false,false⟩)(hf:small N1 D1=true∧small N2 D2=true):
 Calls Tryz.prog 47 #[v] w (RetI ⟨s1,N1,D1,s2,N2,D2,false,false⟩ w):=by
 obtain⟨a,n,c,a',n',c',b,m,e,b',m',e',rfl,h1,h2⟩:=h
 obtain⟨g1,g2,g3,g4,_,_⟩:=small_bounds hf.1
 obtain⟨g5,g6,g7,g8,_,_⟩:=small_bounds hf.2
 have hr1:=fun(w':World)(k:Kept w w')=>of_qcalls (h1.kept k) (.inr ⟨g1,g2⟩)
 have hr2:=fun(w':World)(k:Kept w w')=>of_qcalls (h2.kept k) (.inr ⟨g5,g6⟩)
 have HG:=Lib.hid (And.intro g3 (And.intro g4 (And.intro g7 g8)))
 clear h1 h2 g1 g2 g3 g4 g5 g6 g7 g8 hf
 have hb1:=Blk.new w #[.bool s1,.slice a n c,.slice a' n' c',.bool s2,.slice b m e,.slice b' m' e',.bool false,.bool false] 39
 have hk1:Kept w (w.alloc (.cells #[.bool s1,.slice a n c,.slice a' n' c',.bool s2,.slice b m e,.slice b' m' e',.bool false,.bool false] 39)):=(Kept.refl _).alloc _
 have e1:(w.alloc (.cells #[.bool s1,.slice a n c,.slice a' n' c',.bool s2,.slice b m e,.slice b' m' e',.bool false,.bool false] 39)).heap.size=w.heap.size+1:=by simp[go_sem]
 have hb2:=Blk.new (w.alloc (.cells #[.bool s1,.slice a n c,.slice a' n' c',.bool s2,.slice b m e,.slice b' m' e',.bool false,.bool false] 39)) #[.bool false,.slice none 0 0,.slice none 0 0,.bool false,.slice none 0 0,.slice none 0 0,.bool false,.bool false,.bool false] 99
 have hk2:Kept (w.alloc (.cells #[.bool s1,.slice a n c,.slice a' n' c',.bool s2,.slice b m e,.slice b' m' e',.bool false,.bool false] 39)) ((w.alloc (.cells #[.bool s1,.slice a n c,.slice a' n' c',.bool s2,.slice b m e,.slice b' m' e',.bool false,.bool false] 39)).alloc (.cells #[.bool false,.slice none 0 0,.slice none 0 0,.bool false,.slice none 0 0,.slice none 0 0,.bool false,.bool false,.bool false] 99)):=(Kept.refl _).alloc _
 have e2:((w.alloc (.cells #[.bool s1,.slice a n c,.slice a' n' c',.bool s2,.slice b m e,.slice b' m' e',.bool false,.bool false] 39)).alloc (.cells #[.bool false,.slice none 0 0,.slice none 0 0,.bool false,.slice none 0 0,.slice none 0 0,.bool false,.bool false,.bool false] 99)).heap.size=w.heap.size+2:=by simp[go_sem]
 rw[e1] at hb2
 have hb1:=hb1.kept hk2
 have hk:=hk1.trans hk2
 clear hk1 hk2 e1
 have hb3:=Blk.new ((w.alloc (.cells #[.bool s1,.slice a n c,.slice a' n' c',.bool s2,.slice b m e,.slice b' m' e',.bool false,.bool false] 39)).alloc (.cells #[.bool false,.slice none 0 0,.slice none 0 0,.bool false,.slice none 0 0,.slice none 0 0,.bool false,.bool false,.bool false] 99)) #[.bool false,.slice none 0 0,.slice none 0 0,.bool false,.slice none 0 0,.slice none 0 0,.bool false,.bool false,.bool false] 99
 have hk3:Kept ((w.alloc (.cells #[.bool s1,.slice a n c,.slice a' n' c',.bool s2,.slice b m e,.slice b' m' e',.bool false,.bool false] 39)).alloc (.cells #[.bool false,.slice none 0 0,.slice none 0 0,.bool false,.slice none 0 0,.slice none 0 0,.bool false,.bool false,.bool false] 99)) (((w.alloc (.cells #[.bool s1,.slice a n c,.slice a' n' c',.bool s2,.slice b m e,.slice b' m' e',.bool false,.bool false] 39)).alloc (.cells #[.bool false,.slice none 0 0,.slice none 0 0,.bool false,.slice none 0 0,.slice none 0 0,.bool false,.bool false,.bool false] 99)).alloc (.cells #[.bool false,.slice none 0 0,.slice none 0 0,.bool false,.slice none 0 0,.slice none 0 0,.bool false,.bool false,.bool false] 99)):=(Kept.refl _).alloc _
 rw[e2] at hb3
 have hb1:=hb1.kept hk3
 have hb2:=hb2.kept hk3
 have hk:=hk.trans hk3
 clear hk3 e2
 go_enter Tryz.func47,Tryz.ntmps47
 go_wp2_with fail
 generalize (((w.alloc (.cells #[.bool s1,.slice a n c,.slice a' n' c',.bool s2,.slice b m e,.slice b' m' e',.bool false,.bool false] 39)).alloc (.cells #[.bool false,.slice none 0 0,.slice none 0 0,.bool false,.slice none 0 0,.slice none 0 0,.bool false,.bool false,.bool false] 99)).alloc (.cells #[.bool false,.slice none 0 0,.slice none 0 0,.bool false,.slice none 0 0,.slice none 0 0,.bool false,.bool false,.bool false] 99))=w1 at*
 generalize hbE:w.heap.size=b0 at hb1 hb2 hb3⊢
 have HBE:=Lib.hid hbE;clear hbE
 refine(hr1 _ hk).mono ?_
 rintro _ w2 ⟨v2,rfl,hq2,hk2⟩
 obtain⟨x1,x2,x3,x4,x5,x6,rfl⟩:=hq2.shape
 generalize hpE:(s1&&decide (0<N1))=p1 at*
 have HPE:=Lib.hid hpE;clear hpE
 have hb1:=hb1.kept hk2
 have hb2:=hb2.kept hk2
 have hb3:=hb3.kept hk2
 have hkw2:=hk.trans hk2
 obtain⟨c0,c1,c2,c3,c4,c5,c6,c7,_⟩:=hb1.facts8
 obtain⟨d0,d1,d2,d3,d4,d5,d6,d7,d8,f0,f1,f2,f3,f4,f5,f6,f7,f8⟩:=hb3.facts9
 have hkb2:=KeptB.store3 w2 (b0+2) (.bool p1) (.slice x1 x2 x3) (.slice x4 x5 x6)
 have hkw3:Kept w (((w2.setCell ⟨b0+2,0,none⟩ (.bool p1)).setCell ⟨b0+2,1,none⟩ (.slice x1 x2 x3)).setCell ⟨b0+2,2,none⟩ (.slice x4 x5 x6)):=hkw2.but hkb2 (by have:=HBE.out;omega)
 have hq3:=hq2.keptB hkb2 (hb3.noWords rfl)
 have hb13:=hb1.keptB hkb2 (by omega)
 have hb23:=hb2.keptB hkb2 (by omega)
 have hb33:Blk (((w2.setCell ⟨b0+2,0,none⟩ (.bool p1)).setCell ⟨b0+2,1,none⟩ (.slice x1 x2 x3)).setCell ⟨b0+2,2,none⟩ (.slice x4 x5 x6)) (b0+2) #[.bool p1,.slice x1 x2 x3,.slice x4 x5 x6,.bool false,.slice none 0 0,.slice none 0 0,.bool false,.bool false,.bool false] 99:=by
  have:=((hb3.set 0 (.bool p1)).set 1 (.slice x1 x2 x3)).set 2 (.slice x4 x5 x6)
  simpa using this
 clear hkb2
 go_wp2_with fail
 generalize ((w2.setCell ⟨b0+2,0,none⟩ (.bool p1)).setCell ⟨b0+2,1,none⟩ (.slice x1 x2 x3)).setCell ⟨b0+2,2,none⟩ (.slice x4 x5 x6)=w3 at*
 clear c0 c1 c2 c3 c4 c5 c6 c7 d0 d1 d2 d3 d4 d5 d6 d7 d8 f0 f1 f2 f3 f4 f5 f6 f7 f8 hb1 hb2 hb3 hq2
 refine(hr2 _ hkw3).mono ?_
 rintro _ w4 ⟨v4,rfl,hq4,hk4⟩
 obtain⟨y1,y2,y3,y4,y5,y6,rfl⟩:=hq4.shape
 generalize hpE2:(s2&&decide (0<N2))=p2 at*
 have HPE2:=Lib.hid hpE2;clear hpE2
 have hb1:=hb13.kept hk4
 have hb2:=hb23.kept hk4
 have hb3:=hb33.kept hk4
 have hkw4:=hkw3.trans hk4
 have hq3:=hq3.kept hk4
 obtain⟨c0,c1,c2,c3,c4,c5,c6,c7,_⟩:=hb1.facts8
 obtain⟨d0,d1,d2,d3,d4,d5,d6,d7,d8,f0,f1,f2,f3,f4,f5,f6,f7,f8⟩:=hb3.facts9
 have hkb4:KeptB w4 (((w4.setCell ⟨b0+2,3,none⟩ (.bool p2)).setCell ⟨b0+2,4,none⟩ (.slice y1 y2 y3)).setCell ⟨b0+2,5,none⟩ (.slice y4 y5 y6)) (b0+2):=stI ..
 have hkw5:Kept w (((w4.setCell ⟨b0+2,3,none⟩ (.bool p2)).setCell ⟨b0+2,4,none⟩ (.slice y1 y2 y3)).setCell ⟨b0+2,5,none⟩ (.slice y4 y5 y6)):=hkw4.but hkb4 (by have:=HBE.out;omega)
 have hq35:=hq3.keptB hkb4 (hb3.noWords rfl)
 have hq45:=hq4.keptB hkb4 (hb3.noWords rfl)
 have hb15:=hb1.keptB hkb4 (by omega)
 have hb25:=hb2.keptB hkb4 (by omega)
 have hb35:Blk (((w4.setCell ⟨b0+2,3,none⟩ (.bool p2)).setCell ⟨b0+2,4,none⟩ (.slice y1 y2 y3)).setCell ⟨b0+2,5,none⟩ (.slice y4 y5 y6)) (b0+2) #[.bool p1,.slice x1 x2 x3,.slice x4 x5 x6,.bool p2,.slice y1 y2 y3,.slice y4 y5 y6,.bool false,.bool false,.bool false] 99:=by
  have:=((hb3.set 3 (.bool p2)).set 4 (.slice y1 y2 y3)).set 5 (.slice y4 y5 y6)
  simpa using this
 clear hkb4
 go_wp2_with fail
 generalize ((w4.setCell ⟨b0+2,3,none⟩ (.bool p2)).setCell ⟨b0+2,4,none⟩ (.slice y1 y2 y3)).setCell ⟨b0+2,5,none⟩ (.slice y4 y5 y6)=w5 at*
 clear c0 c1 c2 c3 c4 c5 c6 c7 d0 d1 d2 d3 d4 d5 d6 d7 d8 f0 f1 f2 f3 f4 f5 f6 f7 f8 hb1 hb2 hb3 hq3 hq4 hb13 hb23 hb33
 refine(qcmp_calls hq35 hq45 HG.out.1 HG.out.2.1 HG.out.2.2.1 HG.out.2.2.2).mono ?_
 rintro _ w6 ⟨rfl,hk6⟩
 have hb2:=hb25.kept hk6
 have hb3:=hb35.kept hk6
 have hkw6:=hkw5.trans hk6
 have hq3:=hq35.kept hk6
 have hq4:=hq45.kept hk6
 have hvd:(IvD.void ⟨s1,N1,D1,s2,N2,D2,false,false⟩)=decide (0<qcmp p1 (rN N1 D1) (rD N1 D1) p2 (rN N2 D2) (rD N2 D2)):=by
  unfold IvD.void
  simp only[HPE.out,HPE2.out]
  rfl
 generalize qcmp p1 (rN N1 D1) (rD N1 D1) p2 (rN N2 D2) (rD N2 D2)=cc at*
 have HVD:=Lib.hid hvd;clear hvd
 clear hb15 hb25 hb35 hq35 hq45
 by_cases hcc:0<cc
 ·have t:decide (0<cc)=true:=by simpa using hcc
  go_wp2_with fail
  refine(none_calls _).mono ?_
  rintro _ w7 ⟨rfl,hk7⟩
  have hb2:=hb2.kept hk7
  obtain⟨d0,d1,d2,d3,d4,d5,d6,d7,d8,f0,f1,f2,f3,f4,f5,f6,f7,f8⟩:=hb2.facts9
  go_wp2
  refine bodyPost_ret (v:=.agg #[.bool false,.slice none 0 0,.slice none 0 0,.bool false,.slice none 0 0,.slice none 0 0,.bool false,.bool false,.bool true]) (by simp[results,Tryz.results47,go_sem,d0,d1,d2,d3,d4,d5,d6,d7,d8]) rfl ⟨_,rfl,?_,?_⟩
  ·exact Kept.but (hkw6.trans hk7) (st9 ..) (by have:=HBE.out;omega)
  ·rw[HVD.out,t,if_pos rfl]
   exact⟨_,_,_,_,_,_,_,_,_,_,_,_,rfl,qv_zero _,qv_zero _⟩
 ·have t:decide (0<cc)=false:=by simpa using hcc
  obtain⟨d0,d1,d2,d3,d4,d5,d6,d7,d8,f0,f1,f2,f3,f4,f5,f6,f7,f8⟩:=hb3.facts9
  obtain⟨k0,k1,k2,k3,k4,k5,k6,k7,k8,j0,j1,j2,j3,j4,j5,j6,j7,j8⟩:=hb2.facts9
  go_wp2
  have hkb:∀w',w'=(((((((((w6.setCell ⟨b0+1,0,none⟩ (.bool p1)).setCell ⟨b0+1,1,none⟩ (.slice x1 x2 x3)).setCell ⟨b0+1,2,none⟩ (.slice x4 x5 x6)).setCell ⟨b0+1,3,none⟩ (.bool p2)).setCell ⟨b0+1,4,none⟩ (.slice y1 y2 y3)).setCell ⟨b0+1,5,none⟩ (.slice y4 y5 y6)).setCell ⟨b0+1,6,none⟩ (.bool false)).setCell ⟨b0+1,7,none⟩ (.bool false)).setCell ⟨b0+1,8,none⟩ (.bool false))→KeptB w6 w' (b0+1):=by
   rintro _ rfl
   exact st9 ..
  refine bodyPost_ret (v:=.agg #[.bool p1,.slice x1 x2 x3,.slice x4 x5 x6,.bool p2,.slice y1 y2 y3,.slice y4 y5 y6,.bool false,.bool false,.bool false]) (by simp[results,Tryz.results47,go_sem,k0,k1,k2,k3,k4,k5,k6,k7,k8]) rfl ⟨_,rfl,hkw6.but (hkb _ rfl) (by have:=HBE.out;omega),?_⟩
  rw[HVD.out,t,if_neg (by decide)]
  simp only[HPE.out,HPE2.out,Bool.false_eq_true,if_false]
  exact⟨_,_,_,_,_,_,_,_,_,_,_,_,rfl,hq3.keptB (hkb _ rfl) (hb2.noWords rfl),hq4.keptB (hkb _ rfl) (hb2.noWords rfl)⟩
set_option maxHeartbeats 4000000 in
set_option maxRecDepth 100000 in
theorem iof_ft{w:World}{v:Value}{s1 s2:Bool}{N1 D1 N2 D2:Nat}(h:Ivl w v ⟨s1,N1,D1,s2,N2,D2,false,true⟩)(hf:small N1 D1=true∧small N2 D2=true):
 Calls Tryz.prog 47 #[v] w (RetI ⟨s1,N1,D1,s2,N2,D2,false,true⟩ w):=by
 obtain⟨a,n,c,a',n',c',b,m,e,b',m',e',rfl,h1,h2⟩:=h
 obtain⟨g1,g2,g3,g4,_,_⟩:=small_bounds hf.1
 obtain⟨g5,g6,g7,g8,_,_⟩:=small_bounds hf.2
 have hr1:=fun(w':World)(k:Kept w w')=>of_qcalls (h1.kept k) (.inr ⟨g1,g2⟩)
 have hr2:=fun(w':World)(k:Kept w w')=>of_qcalls (h2.kept k) (.inr ⟨g5,g6⟩)
 have HG:=Lib.hid (And.intro g3 (And.intro g4 (And.intro g7 g8)))
 clear h1 h2 g1 g2 g3 g4 g5 g6 g7 g8 hf
 have hb1:=Blk.new w #[.bool s1,.slice a n c,.slice a' n' c',.bool s2,.slice b m e,.slice b' m' e',.bool false,.bool true] 39
 have hk1:Kept w (w.alloc (.cells #[.bool s1,.slice a n c,.slice a' n' c',.bool s2,.slice b m e,.slice b' m' e',.bool false,.bool true] 39)):=(Kept.refl _).alloc _
 have e1:(w.alloc (.cells #[.bool s1,.slice a n c,.slice a' n' c',.bool s2,.slice b m e,.slice b' m' e',.bool false,.bool true] 39)).heap.size=w.heap.size+1:=by simp[go_sem]
 have hb2:=Blk.new (w.alloc (.cells #[.bool s1,.slice a n c,.slice a' n' c',.bool s2,.slice b m e,.slice b' m' e',.bool false,.bool true] 39)) #[.bool false,.slice none 0 0,.slice none 0 0,.bool false,.slice none 0 0,.slice none 0 0,.bool false,.bool false,.bool false] 99
 have hk2:Kept (w.alloc (.cells #[.bool s1,.slice a n c,.slice a' n' c',.bool s2,.slice b m e,.slice b' m' e',.bool false,.bool true] 39)) ((w.alloc (.cells #[.bool s1,.slice a n c,.slice a' n' c',.bool s2,.slice b m e,.slice b' m' e',.bool false,.bool true] 39)).alloc (.cells #[.bool false,.slice none 0 0,.slice none 0 0,.bool false,.slice none 0 0,.slice none 0 0,.bool false,.bool false,.bool false] 99)):=(Kept.refl _).alloc _
 have e2:((w.alloc (.cells #[.bool s1,.slice a n c,.slice a' n' c',.bool s2,.slice b m e,.slice b' m' e',.bool false,.bool true] 39)).alloc (.cells #[.bool false,.slice none 0 0,.slice none 0 0,.bool false,.slice none 0 0,.slice none 0 0,.bool false,.bool false,.bool false] 99)).heap.size=w.heap.size+2:=by simp[go_sem]
 rw[e1] at hb2
 have hb1:=hb1.kept hk2
 have hk:=hk1.trans hk2
 clear hk1 hk2 e1
 have hb3:=Blk.new ((w.alloc (.cells #[.bool s1,.slice a n c,.slice a' n' c',.bool s2,.slice b m e,.slice b' m' e',.bool false,.bool true] 39)).alloc (.cells #[.bool false,.slice none 0 0,.slice none 0 0,.bool false,.slice none 0 0,.slice none 0 0,.bool false,.bool false,.bool false] 99)) #[.bool false,.slice none 0 0,.slice none 0 0,.bool false,.slice none 0 0,.slice none 0 0,.bool false,.bool false,.bool false] 99
 have hk3:Kept ((w.alloc (.cells #[.bool s1,.slice a n c,.slice a' n' c',.bool s2,.slice b m e,.slice b' m' e',.bool false,.bool true] 39)).alloc (.cells #[.bool false,.slice none 0 0,.slice none 0 0,.bool false,.slice none 0 0,.slice none 0 0,.bool false,.bool false,.bool false] 99)) (((w.alloc (.cells #[.bool s1,.slice a n c,.slice a' n' c',.bool s2,.slice b m e,.slice b' m' e',.bool false,.bool true] 39)).alloc (.cells #[.bool false,.slice none 0 0,.slice none 0 0,.bool false,.slice none 0 0,.slice none 0 0,.bool false,.bool false,.bool false] 99)).alloc (.cells #[.bool false,.slice none 0 0,.slice none 0 0,.bool false,.slice none 0 0,.slice none 0 0,.bool false,.bool false,.bool false] 99)):=(Kept.refl _).alloc _
 rw[e2] at hb3
 have hb1:=hb1.kept hk3
 have hb2:=hb2.kept hk3
 have hk:=hk.trans hk3
 clear hk3 e2
 go_enter Tryz.func47,Tryz.ntmps47
 go_wp2_with fail
 generalize (((w.alloc (.cells #[.bool s1,.slice a n c,.slice a' n' c',.bool s2,.slice b m e,.slice b' m' e',.bool false,.bool true] 39)).alloc (.cells #[.bool false,.slice none 0 0,.slice none 0 0,.bool false,.slice none 0 0,.slice none 0 0,.bool false,.bool false,.bool false] 99)).alloc (.cells #[.bool false,.slice none 0 0,.slice none 0 0,.bool false,.slice none 0 0,.slice none 0 0,.bool false,.bool false,.bool false] 99))=w1 at*
 generalize hbE:w.heap.size=b0 at hb1 hb2 hb3⊢
 have HBE:=Lib.hid hbE;clear hbE
 refine(hr1 _ hk).mono ?_
 rintro _ w2 ⟨v2,rfl,hq2,hk2⟩
 obtain⟨x1,x2,x3,x4,x5,x6,rfl⟩:=hq2.shape
 generalize hpE:(s1&&decide (0<N1))=p1 at*
 have HPE:=Lib.hid hpE;clear hpE
 have hb1:=hb1.kept hk2
 have hb2:=hb2.kept hk2
 have hb3:=hb3.kept hk2
 have hkw2:=hk.trans hk2
 obtain⟨c0,c1,c2,c3,c4,c5,c6,c7,_⟩:=hb1.facts8
 obtain⟨d0,d1,d2,d3,d4,d5,d6,d7,d8,f0,f1,f2,f3,f4,f5,f6,f7,f8⟩:=hb3.facts9
 have hkb2:=KeptB.store3 w2 (b0+2) (.bool p1) (.slice x1 x2 x3) (.slice x4 x5 x6)
 have hkw3:Kept w (((w2.setCell ⟨b0+2,0,none⟩ (.bool p1)).setCell ⟨b0+2,1,none⟩ (.slice x1 x2 x3)).setCell ⟨b0+2,2,none⟩ (.slice x4 x5 x6)):=hkw2.but hkb2 (by have:=HBE.out;omega)
 have hq3:=hq2.keptB hkb2 (hb3.noWords rfl)
 have hb13:=hb1.keptB hkb2 (by omega)
 have hb23:=hb2.keptB hkb2 (by omega)
 have hb33:Blk (((w2.setCell ⟨b0+2,0,none⟩ (.bool p1)).setCell ⟨b0+2,1,none⟩ (.slice x1 x2 x3)).setCell ⟨b0+2,2,none⟩ (.slice x4 x5 x6)) (b0+2) #[.bool p1,.slice x1 x2 x3,.slice x4 x5 x6,.bool false,.slice none 0 0,.slice none 0 0,.bool false,.bool false,.bool false] 99:=by
  have:=((hb3.set 0 (.bool p1)).set 1 (.slice x1 x2 x3)).set 2 (.slice x4 x5 x6)
  simpa using this
 clear hkb2
 obtain⟨k0,k1,k2,k3,k4,k5,k6,k7,k8,j0,j1,j2,j3,j4,j5,j6,j7,j8⟩:=hb2.facts9
 go_wp2
 generalize hw3:((w2.setCell ⟨b0+2,0,none⟩ (.bool p1)).setCell ⟨b0+2,1,none⟩ (.slice x1 x2 x3)).setCell ⟨b0+2,2,none⟩ (.slice x4 x5 x6)=w3 at*
 have hkb3:KeptB w3 (w3.setCell ⟨b0+2,7,none⟩ (.bool true)) (b0+2):=st1 ..
 have hq4:=hq3.keptB hkb3 (hb33.noWords rfl)
 have hb24:=hb23.keptB hkb3 (by omega)
 have hkw4:=hkw3.but hkb3 (by have:=HBE.out;omega)
 obtain⟨l0,l1,l2,l3,l4,l5,l6,l7,l8,_⟩:=hb24.facts9
 subst hw3
 refine bodyPost_ret (v:=.agg #[.bool p1,.slice x1 x2 x3,.slice x4 x5 x6,.bool false,.slice none 0 0,.slice none 0 0,.bool false,.bool true,.bool false]) (by simp[results,Tryz.results47,go_sem,k0,k1,k2,k3,k4,k5,k6,k7,k8]) rfl ⟨_,rfl,hkw4.but (st9 _ (b0+1) (.bool p1) (.slice x1 x2 x3) (.slice x4 x5 x6) (.bool false) (.slice none 0 0) (.slice none 0 0) (.bool false) (.bool true) (.bool false)) (by have:=HBE.out;omega),?_⟩
 rw[show IvD.void ⟨s1,N1,D1,s2,N2,D2,false,true⟩=false by simp[IvD.void],if_neg (by decide)]
 simp only[HPE.out,Bool.false_eq_true,if_false,if_true]
 exact⟨_,_,_,_,_,_,_,_,_,_,_,_,rfl,hq4.keptB (st9 ..) (hb24.noWords rfl),qv_zero _⟩
set_option maxHeartbeats 4000000 in
set_option maxRecDepth 100000 in
theorem iof_tf{w:World}{v:Value}{s1 s2:Bool}{N1 D1 N2 D2:Nat}(h:Ivl w v ⟨s1,N1,D1,s2,N2,D2,true,false⟩)(hf:small N1 D1=true∧small N2 D2=true):
 Calls Tryz.prog 47 #[v] w (RetI ⟨s1,N1,D1,s2,N2,D2,true,false⟩ w):=by
 obtain⟨a,n,c,a',n',c',b,m,e,b',m',e',rfl,h1,h2⟩:=h
 obtain⟨g1,g2,g3,g4,_,_⟩:=small_bounds hf.1
 obtain⟨g5,g6,g7,g8,_,_⟩:=small_bounds hf.2
 have hr1:=fun(w':World)(k:Kept w w')=>of_qcalls (h1.kept k) (.inr ⟨g1,g2⟩)
 have hr2:=fun(w':World)(k:Kept w w')=>of_qcalls (h2.kept k) (.inr ⟨g5,g6⟩)
 have HG:=Lib.hid (And.intro g3 (And.intro g4 (And.intro g7 g8)))
 clear h1 h2 g1 g2 g3 g4 g5 g6 g7 g8 hf
 have hb1:=Blk.new w #[.bool s1,.slice a n c,.slice a' n' c',.bool s2,.slice b m e,.slice b' m' e',.bool true,.bool false] 39
 have hk1:Kept w (w.alloc (.cells #[.bool s1,.slice a n c,.slice a' n' c',.bool s2,.slice b m e,.slice b' m' e',.bool true,.bool false] 39)):=(Kept.refl _).alloc _
 have e1:(w.alloc (.cells #[.bool s1,.slice a n c,.slice a' n' c',.bool s2,.slice b m e,.slice b' m' e',.bool true,.bool false] 39)).heap.size=w.heap.size+1:=by simp[go_sem]
 have hb2:=Blk.new (w.alloc (.cells #[.bool s1,.slice a n c,.slice a' n' c',.bool s2,.slice b m e,.slice b' m' e',.bool true,.bool false] 39)) #[.bool false,.slice none 0 0,.slice none 0 0,.bool false,.slice none 0 0,.slice none 0 0,.bool false,.bool false,.bool false] 99
 have hk2:Kept (w.alloc (.cells #[.bool s1,.slice a n c,.slice a' n' c',.bool s2,.slice b m e,.slice b' m' e',.bool true,.bool false] 39)) ((w.alloc (.cells #[.bool s1,.slice a n c,.slice a' n' c',.bool s2,.slice b m e,.slice b' m' e',.bool true,.bool false] 39)).alloc (.cells #[.bool false,.slice none 0 0,.slice none 0 0,.bool false,.slice none 0 0,.slice none 0 0,.bool false,.bool false,.bool false] 99)):=(Kept.refl _).alloc _
 have e2:((w.alloc (.cells #[.bool s1,.slice a n c,.slice a' n' c',.bool s2,.slice b m e,.slice b' m' e',.bool true,.bool false] 39)).alloc (.cells #[.bool false,.slice none 0 0,.slice none 0 0,.bool false,.slice none 0 0,.slice none 0 0,.bool false,.bool false,.bool false] 99)).heap.size=w.heap.size+2:=by simp[go_sem]
 rw[e1] at hb2
 have hb1:=hb1.kept hk2
 have hk:=hk1.trans hk2
 clear hk1 hk2 e1
 have hb3:=Blk.new ((w.alloc (.cells #[.bool s1,.slice a n c,.slice a' n' c',.bool s2,.slice b m e,.slice b' m' e',.bool true,.bool false] 39)).alloc (.cells #[.bool false,.slice none 0 0,.slice none 0 0,.bool false,.slice none 0 0,.slice none 0 0,.bool false,.bool false,.bool false] 99)) #[.bool false,.slice none 0 0,.slice none 0 0,.bool false,.slice none 0 0,.slice none 0 0,.bool true,.bool false,.bool false] 99
 have hk3:Kept ((w.alloc (.cells #[.bool s1,.slice a n c,.slice a' n' c',.bool s2,.slice b m e,.slice b' m' e',.bool true,.bool false] 39)).alloc (.cells #[.bool false,.slice none 0 0,.slice none 0 0,.bool false,.slice none 0 0,.slice none 0 0,.bool false,.bool false,.bool false] 99)) (((w.alloc (.cells #[.bool s1,.slice a n c,.slice a' n' c',.bool s2,.slice b m e,.slice b' m' e',.bool true,.bool false] 39)).alloc (.cells #[.bool false,.slice none 0 0,.slice none 0 0,.bool false,.slice none 0 0,.slice none 0 0,.bool false,.bool false,.bool false] 99)).alloc (.cells #[.bool false,.slice none 0 0,.slice none 0 0,.bool false,.slice none 0 0,.slice none 0 0,.bool true,.bool false,.bool false] 99)):=(Kept.refl _).alloc _
 rw[e2] at hb3
 have hb1:=hb1.kept hk3
 have hb2:=hb2.kept hk3
 have hk:=hk.trans hk3
 clear hk3 e2
 go_enter Tryz.func47,Tryz.ntmps47
 go_wp2_with fail
 generalize (((w.alloc (.cells #[.bool s1,.slice a n c,.slice a' n' c',.bool s2,.slice b m e,.slice b' m' e',.bool true,.bool false] 39)).alloc (.cells #[.bool false,.slice none 0 0,.slice none 0 0,.bool false,.slice none 0 0,.slice none 0 0,.bool false,.bool false,.bool false] 99)).alloc (.cells #[.bool false,.slice none 0 0,.slice none 0 0,.bool false,.slice none 0 0,.slice none 0 0,.bool true,.bool false,.bool false] 99))=w3 at*
 generalize hbE:w.heap.size=b0 at hb1 hb2 hb3⊢
 have HBE:=Lib.hid hbE;clear hbE
 refine(hr2 _ hk).mono ?_
 rintro _ w4 ⟨v4,rfl,hq4,hk4⟩
 obtain⟨y1,y2,y3,y4,y5,y6,rfl⟩:=hq4.shape
 generalize hpE2:(s2&&decide (0<N2))=p2 at*
 have HPE2:=Lib.hid hpE2;clear hpE2
 have hb1:=hb1.kept hk4
 have hb2:=hb2.kept hk4
 have hb3:=hb3.kept hk4
 have hkw4:=hk.trans hk4
 obtain⟨c0,c1,c2,c3,c4,c5,c6,c7,_⟩:=hb1.facts8
 obtain⟨d0,d1,d2,d3,d4,d5,d6,d7,d8,f0,f1,f2,f3,f4,f5,f6,f7,f8⟩:=hb3.facts9
 obtain⟨k0,k1,k2,k3,k4,k5,k6,k7,k8,j0,j1,j2,j3,j4,j5,j6,j7,j8⟩:=hb2.facts9
 have hkb4:KeptB w4 (((w4.setCell ⟨b0+2,3,none⟩ (.bool p2)).setCell ⟨b0+2,4,none⟩ (.slice y1 y2 y3)).setCell ⟨b0+2,5,none⟩ (.slice y4 y5 y6)) (b0+2):=stI ..
 have hkw5:Kept w (((w4.setCell ⟨b0+2,3,none⟩ (.bool p2)).setCell ⟨b0+2,4,none⟩ (.slice y1 y2 y3)).setCell ⟨b0+2,5,none⟩ (.slice y4 y5 y6)):=hkw4.but hkb4 (by have:=HBE.out;omega)
 have hq45:=hq4.keptB hkb4 (hb3.noWords rfl)
 have hb25:=hb2.keptB hkb4 (by omega)
 clear hkb4
 go_wp2
 refine bodyPost_ret (v:=.agg #[.bool false,.slice none 0 0,.slice none 0 0,.bool p2,.slice y1 y2 y3,.slice y4 y5 y6,.bool true,.bool false,.bool false]) (by simp[results,Tryz.results47,go_sem,k0,k1,k2,k3,k4,k5,k6,k7,k8]) rfl ⟨_,rfl,hkw5.but (st9 _ (b0+1) (.bool false) (.slice none 0 0) (.slice none 0 0) (.bool p2) (.slice y1 y2 y3) (.slice y4 y5 y6) (.bool true) (.bool false) (.bool false)) (by have:=HBE.out;omega),?_⟩
 rw[show IvD.void ⟨s1,N1,D1,s2,N2,D2,true,false⟩=false by simp[IvD.void],if_neg (by decide)]
 simp only[HPE2.out,Bool.false_eq_true,if_false,if_true]
 exact⟨_,_,_,_,_,_,_,_,_,_,_,_,rfl,qv_zero _,hq45.keptB (st9 ..) (hb25.noWords rfl)⟩
set_option maxHeartbeats 4000000 in
set_option maxRecDepth 100000 in
theorem iof_tt{w:World}{v:Value}{s1 s2:Bool}{N1 D1 N2 D2:Nat}(h:Ivl w v ⟨s1,N1,D1,s2,N2,D2,true,true⟩)(hf:small N1 D1=true∧small N2 D2=true):
 Calls Tryz.prog 47 #[v] w (RetI ⟨s1,N1,D1,s2,N2,D2,true,true⟩ w):=by
 obtain⟨a,n,c,a',n',c',b,m,e,b',m',e',rfl,h1,h2⟩:=h
 obtain⟨g1,g2,g3,g4,_,_⟩:=small_bounds hf.1
 obtain⟨g5,g6,g7,g8,_,_⟩:=small_bounds hf.2
 have hk9:=((Kept.refl w).alloc (.cells #[.bool s1,.slice a n c,.slice a' n' c',.bool s2,.slice b m e,.slice b' m' e',.bool true,.bool true] 39)).alloc (.cells #[.bool false,.slice none 0 0,.slice none 0 0,.bool false,.slice none 0 0,.slice none 0 0,.bool true,.bool true,.bool false] 99)
 have hr1:=fun(w':World)(k:Kept w w')=>of_qcalls (h1.kept k) (.inr ⟨g1,g2⟩)
 have hr2:=fun(w':World)(k:Kept w w')=>of_qcalls (h2.kept k) (.inr ⟨g5,g6⟩)
 have HG:=Lib.hid (And.intro g3 (And.intro g4 (And.intro g7 g8)))
 clear h1 h2 g1 g2 g3 g4 g5 g6 g7 g8 hf
 have hb1:=Blk.new w #[.bool s1,.slice a n c,.slice a' n' c',.bool s2,.slice b m e,.slice b' m' e',.bool true,.bool true] 39
 have hk1:Kept w (w.alloc (.cells #[.bool s1,.slice a n c,.slice a' n' c',.bool s2,.slice b m e,.slice b' m' e',.bool true,.bool true] 39)):=(Kept.refl _).alloc _
 have e1:(w.alloc (.cells #[.bool s1,.slice a n c,.slice a' n' c',.bool s2,.slice b m e,.slice b' m' e',.bool true,.bool true] 39)).heap.size=w.heap.size+1:=by simp[go_sem]
 have hb2:=Blk.new (w.alloc (.cells #[.bool s1,.slice a n c,.slice a' n' c',.bool s2,.slice b m e,.slice b' m' e',.bool true,.bool true] 39)) #[.bool false,.slice none 0 0,.slice none 0 0,.bool false,.slice none 0 0,.slice none 0 0,.bool false,.bool false,.bool false] 99
 have hk2:Kept (w.alloc (.cells #[.bool s1,.slice a n c,.slice a' n' c',.bool s2,.slice b m e,.slice b' m' e',.bool true,.bool true] 39)) ((w.alloc (.cells #[.bool s1,.slice a n c,.slice a' n' c',.bool s2,.slice b m e,.slice b' m' e',.bool true,.bool true] 39)).alloc (.cells #[.bool false,.slice none 0 0,.slice none 0 0,.bool false,.slice none 0 0,.slice none 0 0,.bool false,.bool false,.bool false] 99)):=(Kept.refl _).alloc _
 have e2:((w.alloc (.cells #[.bool s1,.slice a n c,.slice a' n' c',.bool s2,.slice b m e,.slice b' m' e',.bool true,.bool true] 39)).alloc (.cells #[.bool false,.slice none 0 0,.slice none 0 0,.bool false,.slice none 0 0,.slice none 0 0,.bool false,.bool false,.bool false] 99)).heap.size=w.heap.size+2:=by simp[go_sem]
 rw[e1] at hb2
 have hb1:=hb1.kept hk2
 have hk:=hk1.trans hk2
 clear hk1 hk2 e1
 clear hb1 hb2 hk e2 hr1 hr2 HG
 go_enter Tryz.func47,Tryz.ntmps47
 go_wp2
 refine bodyPost_ret (v:=.agg #[.bool false,.slice none 0 0,.slice none 0 0,.bool false,.slice none 0 0,.slice none 0 0,.bool true,.bool true,.bool false]) (by simp[results,Tryz.results47,go_sem]) rfl ⟨_,rfl,hk9.alloc _,?_⟩
 rw[show IvD.void ⟨s1,N1,D1,s2,N2,D2,true,true⟩=false by simp[IvD.void],if_neg (by decide)]
 simp only[if_true]
 exact⟨_,_,_,_,_,_,_,_,_,_,_,_,rfl,qv_zero _,qv_zero _⟩
theorem iof_calls{w:World}{v:Value}{i:IvD}(h:Ivl w v i)(hf:i.fine=true):Calls Tryz.prog 47 #[v] w (RetI i w):=by
 obtain⟨s1,N1,D1,s2,N2,D2,li,hi⟩:=i
 have hf2:small N1 D1=true∧small N2 D2=true:=by
  have hf:(small N1 D1&&small N2 D2)=true:=hf
  simpa using hf
 cases li<;>cases hi
 ·exact iof_ff h hf2
 ·exact iof_ft h hf2
 ·exact iof_tf h hf2
 ·exact iof_tt h hf2
end Go.Proofs.YtbapfnpbamnmpaaGreatDoor
