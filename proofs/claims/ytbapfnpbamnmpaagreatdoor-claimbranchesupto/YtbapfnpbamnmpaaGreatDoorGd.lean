/- A part of the proof that ClaimBranches answers true for every input of bulk at most 1048576: conditions: the row's own. -/
import Derived.Test.YtbapfnpbamnmpaaGreatDoorGz
import Derived.Test.YtbapfnpbamnmpaaGreatDoorXa
import Derived.Test.YtbapfnpbamnmpaaGreatDoorXe
namespace Go.Proofs.YtbapfnpbamnmpaaGreatDoor
open Go Go.RowKit Go.Dig Go.Deep
open Go.Eng (Kept KW KeptB wp_region_kw kw_call)
section
theorem info27:InfoIs 27 (.agg #[.int .i64 0,.int .i64 0,.bool false,.slice none 0 0,.slice none 0 0,.string ⟨#[]⟩,.slice none 0 0]) 7 112:=infoIs (by kernel_rfl)
theorem node_kids{op arg:Int}{s:Bool}{N D:Nat}{name:ByteArray}{n:Nat}(h:nodeOk op arg s N D name n=true):n≤3:=by
 unfold nodeOk at h
 simp only[Bool.and_eq_true,decide_eq_true_eq] at h
 have h1:=h.1.1
 unfold kidsI at h1
 repeat' split at h1
 all_goals omega
def kidR(f:Nat):World→List Value→Tree→Prop:=fun W l t=>Ex W f (.agg l.toArray) t
theorem kidR_sub(f:Nat):∀w w',Sub w w'→∀l t,kidR f w l t→kidR f w' l t:=fun _ _ k _ _ h=>h.sub k
def OwnE(f:Nat):Prop:=∀{w:World}{v:Value}{t:Tree},Ex w f v t→wellT t→
    Calls Tryz.prog 67 #[v] w fun e w'=>∃v',e= .returned v'∧Ex (onlyW w' (ab w.heap.size)) f v' t∧Kept w w'
set_option maxHeartbeats 8000000
set_option maxRecDepth 100000
theorem ownExpr_step{f:Nat}(ih:OwnE f):OwnE (f+1):=by
 intro w v t h hN
 obtain⟨op,arg,s,N,D,name,kids⟩:=t
 obtain⟨x1,x2,x3,x4,x5,x6,a,cap,rfl,hc,hn,hr⟩:=h.shape
 have hn3:kids.length≤3:=node_kids hN.1
 have HKR:=fun(i:Nat)(hi:i<kids.length)=>h.kidR hi
 have HIH:=fun(i:Nat)(hi:i<kids.length)(w':World)(u:Value)(q:Ex w' f u kids[i])=>ih q (wellTs_get hN.2 i hi)
 clear h ih hN
 refine ent1 31 Tryz.func67 rfl Tryz.ntmps67 ?_
 iterate 3 go_step
 refine zb fun w1 g1 e1 k1 b1 s1=> ?_
 refine za Z7 27 fun w2 g2 e2 k2 b2 s2=> ?_
 replace b1:=b1.kept k2
 have K0:=k1.trans k2
 clear k1 k2
 iterate 4 go_step
 refine drawn 0 0 fun hS=> ?_
 have hdz:w2.drew.heap.size=w2.heap.size:=rfl
 refine yr 0 (.pointer (some ⟨g1,0,none⟩)) hS ?_
 refine yl1 1 (b1.cell 0 rfl) (.inr (Nat.zero_le _)) hS ?_
 refine yr 2 (.pointer (some ⟨g1,1,none⟩)) hS ?_
 refine yl1 3 (b1.cell 1 rfl) (.inr (Nat.zero_le _)) hS ?_
 refine yr 4 (.pointer (some ⟨g1,2,none⟩)) hS ?_
 refine yl 5 (b1.part 2) (.inr (Nat.zero_le _)) own3 hS ?_
 refine yr 7 (.pointer (some ⟨g1,5,none⟩)) hS ?_
 refine yl1 8 (b1.cell 5 rfl) (.inr (Nat.zero_le _)) hS ?_
 refine yca1 6 10 9 (P:=fun S v W=>∃b1 m1 d1 b2 m2 d2,v= .agg #[.bool s,.slice b1 m1 d1,.slice b2 m2 d2]∧Rt (onlyW W S) v s N D) (fun v=>.agg (#[.int .i64 op,.int .i64 arg]++v.cells++#[.string name,.slice none 0 0])) 140 _ Z7 27 hS
  (fun W k=>(ownRat_fresh (hr.kept ((K0.trans (Kept.refl w2).drew).trans k))).mono ?_) (fun S S' v W W' h k=> ?_) (fun W g3 v hg hg' kW b3 hP lW=> ?_) ?_
 ·rintro e w' ⟨c1,m1,d1,c2,m2,d2,rfl,hR,hk⟩
  exact⟨_,rfl,⟨_,_,_,_,_,_,rfl,hR⟩,hk⟩
 ·obtain⟨c1,m1,d1,c2,m2,d2,rfl,hR⟩:=h
  exact⟨_,_,_,_,_,_,rfl,hR.sub k⟩
 ·obtain⟨y1,y2,y3,y4,y5,y6,rfl,hR⟩:=hP
  refine yt 11 (V:=#[.int .i64 op,.int .i64 arg,.bool s,.slice y1 y2 y3,.slice y4 y5 y6,.string name,.slice none 0 0]) b3 ownZ own7 (.inr hg) lW fun W0 kb b3 lW=>yend ?_
  replace K0:=(K0.trans ((Kept.refl w2).drew.trans kW)).but kb (by have:=K0.size;omega)
  replace hR:=hR.sub (abx_but (M:=w2.heap.size) kb)
  replace b1:=(b1.kept ((Kept.refl w2).drew.trans kW)).keptB kb (by omega)
  replace b2:=(b2.kept ((Kept.refl w2).drew.trans kW)).keptB kb (by omega)
  have sW:=kb.size
  have hg30:=b3.lt
  clear kW kb lW hS
  iterate 5 go_step
  refine zr (.pointer (some ⟨g1,6,none⟩)) ?_
  refine zl1 (b1.cell 6 rfl) ?_
  refine zr (.int .i64 kids.length) ?_
  refine zz ?_
  iterate 4 go_step
  refine zloop kids.length (fun k=>[(2,.pointer (some ⟨g2,0,none⟩)),(3,.pointer (some ⟨g3,0,none⟩)),(17,.slice a kids.length cap),(18,.int .i64 kids.length),(19,.int .i64 k)])
   (fun k W=>∃a3 cap3 cs,Grow W0 W g3 27 7 (.slice a3 k cap3) k cs (kidR f) kids∧Blk W g3 #[.int .i64 op,.int .i64 arg,.bool s,.slice y1 y2 y3,.slice y4 y5 y6,.string name,.slice a3 k cap3] 27) ⟨rfl,rfl,rfl,rfl,rfl,trivial⟩ ⟨none,0,[],Grow.start ..,b3⟩ fun l wr k hk ⟨a3,cap3,cs,G,b3⟩=> ?_
  have hsz:=G.kb.size
  have own:=fun g hg=>World.ownsRow.lt G.own g hg
  iterate 3 go_step
  refine z2 (.bool (decide ((k:Int)<(kids.length:Int)))) ?_
  iterate 4 go_step
  cases hlt:decide ((k:Int)<(kids.length:Int))
  case' true=>
   have hlt:k<kids.length:=by have:=of_decide_eq_true hlt;omega
   obtain⟨b,off,V,rfl,rV,oV,xV⟩:=HKR k hlt
   have kr:Kept w wr:=K0.but G.kb (by omega)
   refine zt_true ?_
   iterate 7 go_step
   refine zi (s:=7) k hlt ?_
   refine zl ((Kept.sub kr).range rV) oV ?_
   refine za Z7 27 fun wa g5 e5 ka b5 sa=> ?_
   refine zt b5 ownZ oV fun wb kb b5=> ?_
   replace ka:=ka.but kb (by omega)
   replace G:=G.kept (kidR_sub f) ka
   replace b3:=b3.kept ka
   have sb:=ka.size
   clear kb sa
   iterate 3 go_step
   refine drawn g3 g5 fun hS=> ?_
   have hdy:wb.drew.heap.size=wb.heap.size:=rfl
   have kd:=(Kept.refl wb).drew
   refine yr 0 (.pointer (some ⟨g3,6,none⟩)) hS ?_
   refine yl 2 b5.range (.inr (Nat.le_refl _)) oV hS ?_
   have hg3:=b3.lt
   refine ylcb (x:=.slice a3 k cap3) 1 3 4 0 (P:=fun v W=>Ex (onlyW W (ab wb.drew.heap.size)) f v kids[k]) id (fun _ l=>l) Value.cells 27 67 _ ((b3.kept kd).cell 6 rfl) hS (HIH k hlt _ _ (xV.kept ((kr.trans ka).trans kd))) (fun _ _ _ _ _ _ _ _ h=>h) (fun l' v W hP hl=> ?_) (fun v W w' g xv kW eg kg bg sg lW=> ?_) (fun _ _=>rfl) (fun _=>rfl) (fun _=>rfl)
   ·obtain⟨X,rfl,oX⟩:=hP.own
    rcases hl with rfl|rfl<;>exact run25 oX rfl rfl
   obtain⟨X,rfl,oX⟩:=xv.own
   have kn:=kd.trans (kW.trans kg)
   have sn:=kW.size
   refine ygrow (c:=6) 5 6 7 info27 rfl (by decide) (by decide) Tryz.underlying25 (G.kept (kidR_sub f) kn) (kidR_sub f) (b3.kept kn) hg30 (by simp) oX.2 oX.size7 hlt (by omega) bg (T:=ab wb.drew.heap.size) (xv.sub (only_keep kg)) (fun b hb=> ?_) lW (Nat.le_refl _) (by omega) (fun g hg=>by have:=(own g hg).2;omega) lW.size fun wc a' cap' G b3 lc=> ?_
   ·unfold ab at hb
    simp only[decide_eq_true_eq] at hb
    have hd:=kd.size
    refine⟨by omega,fun he=> ?_⟩
    have:=(own b he.symm).2
    omega
   iterate 3 go_step
   refine z2 (.int .i64 ((k+1:Nat):Int)) (hrun:=run_inc (by omega)) ?_
   refine zz ?_
   iterate 3 go_step
   exact⟨_,rfl,hlt,⟨rfl,rfl,rfl,rfl,rfl,trivial⟩,a',cap',_,G,b3⟩
  case' false=>
   obtain rfl:k=kids.length:=by have:=of_decide_eq_false hlt;omega
   refine zt_false ?_
   iterate 7 go_step
   refine zl b3.range own7 ?_
   refine zt (b2.keptB G.kb (by omega)) ownZ own7 fun wz kz bz=> ?_
   iterate 5 go_step
   obtain⟨hcap,hcell,hrows⟩:=G.done (kidR_sub f) (N:=w.heap.size) K0.size (fun b hb h=>kz.old b hb (by have:=b2.lt;omega))
   refine zret1 bz own7 ⟨_,rfl,Ex.mk hcap (hR.sub (only_move fun b hb hs=> ?_)) hn hcell hrows,(K0.but G.kb (by omega)).but kz (by omega)⟩
   unfold abx at hs
   simp only[Bool.and_eq_true,bne_iff_ne,decide_eq_true_eq] at hs
   have hb2:b<wr.heap.size:=by omega
   exact⟨by unfold ab;exact decide_eq_true (by omega),(kz.old b hb2 (by omega)).trans (G.kb.old b hb hs.2)⟩
 ·rintro S v W ⟨c1,m1,d1,c2,m2,d2,rfl,-⟩ l' (rfl|⟨p,rfl⟩) W'<;>kernel_rfl
theorem ownExpr_calls:∀(f:Nat),OwnE f
 |0=>fun h=>h.elim
 |f+1=>ownExpr_step (ownExpr_calls f)
end
section
set_option maxHeartbeats 16000000
set_option maxRecDepth 100000
theorem ownBox_calls{w:World}{a:Option Addr}{n cap:Nat}{l:List SideD}(h:Bxm w a n cap l)(h6:l.length≤6):
 Calls Tryz.prog 139 #[.slice a n cap] w fun e w'=>∃a' cap',e= .returned (.slice a' l.length cap')∧Bxm (onlyW w' (ab w.heap.size)) a' l.length cap' l∧Kept w w':=by
 obtain rfl:n=l.length:=h.1
 have HR:=fun(i:Nat)(hi:i<l.length)=>h.row hi
 clear h
 refine ent1 36 Tryz.func139 rfl Tryz.ntmps139 ?_
 iterate 3 go_step
 refine zz ?_
 iterate 5 go_step
 refine zz ?_
 iterate 6 go_step
 refine zz ?_
 refine zr (.int .i64 l.length) ?_
 refine zz ?_
 iterate 4 go_step
 refine zloopG (σ:=Option Addr×Nat×List Value) l.length (fun k s=>[(3,.slice s.1 k s.2.1),(7,.slice a l.length cap),(8,.int .i64 l.length),(9,.int .i64 k)])
  (fun k s W=>Grow w W w.heap.size 41 9 (.slice s.1 k s.2.1) k s.2.2 sideR l) (none,0,[]) ⟨rfl,rfl,rfl,rfl,trivial⟩ (Grow.start ..) fun fl wr k ⟨a3,cap3,cs⟩ hk G=> ?_
 have kr:Kept w wr:=⟨G.kb.size,fun b hb=>G.kb.old b hb (Nat.ne_of_lt hb),G.kb.tape,G.kb.os,G.kb.output⟩
 have own_lt:=fun g hg=>World.ownsRow.lt G.own g hg
 have hsz:=kr.size
 iterate 3 go_step
 refine z2 (.bool (decide ((k:Int)<(l.length:Int)))) ?_
 iterate 4 go_step
 cases hlt:decide ((k:Int)<(l.length:Int))
 case' true=>
  have hlt:k<l.length:=by have:=of_decide_eq_true hlt;omega
  obtain⟨b,off,a1,n1,c1,a2,n2,c2,a4,n4,c4,a5,n5,c5,rfl,rV,r1,r2⟩:=HR k hlt
  refine zt_true ?_
  iterate 7 go_step
  refine zi (s:=9) k hlt ?_
  refine zl (V:=#[_,_,_,_,_,_,_,_,_]) ((Kept.sub kr).range rV) own41 ?_
  refine za Z9 41 fun wa g5 e5 ka b5 sa=> ?_
  refine zt b5 own41 own41 fun wb kb b5=> ?_
  replace ka:=ka.but kb (by omega)
  clear kb sa
  iterate 4 go_step
  refine drawn 0 0 fun hS=> ?_
  have hdz:wb.drew.heap.size=wb.heap.size:=rfl
  have kd:=ka.trans (Kept.refl wb).drew
  have hz:∀{b:Nat},b<0∨0≤b:=.inr (Nat.zero_le _)
  refine yr 0 (.pointer (some ⟨g5,1,none⟩)) hS ?_
  refine yr 1 (.pointer (some ⟨g5,1,none⟩)) hS ?_
  refine yl 2 (V:=#[_,_,_]) (b5.part 1) hz own3 hS ?_
  refine yr 4 (.pointer (some ⟨g5,1,none⟩)) hS ?_
  refine yr 5 (.pointer (some ⟨g5,4,none⟩)) hS ?_
  refine yl 6 (V:=#[_,_,_]) (b5.part 4) hz own3 hS ?_
  refine yr 8 (.pointer (some ⟨g5,1,none⟩)) hS ?_
  refine yr 9 (.pointer (some ⟨g5,7,none⟩)) hS ?_
  refine yl1 10 (b5.cell 7 rfl) hz hS ?_
  refine yr 11 (.pointer (some ⟨g5,1,none⟩)) hS ?_
  refine yr 12 (.pointer (some ⟨g5,8,none⟩)) hS ?_
  refine yl1 13 (b5.cell 8 rfl) hz hS ?_
  have own {s:Bool} {N D:Nat} {p1:Option Addr} {p2 p3:Nat} {p4:Option Addr} {p5 p6:Nat} (r:Rt w (.agg #[.bool s,.slice p1 p2 p3,.slice p4 p5 p6]) s N D) (W:World) (k:Kept wb.drew W):Calls Tryz.prog 140 #[.agg #[.bool s,.slice p1 p2 p3,.slice p4 p5 p6]] W fun e w'=>∃v,e= .returned v∧
   (∃b1 m1 d1 b2 m2 d2,v= .agg #[.bool s,.slice b1 m1 d1,.slice b2 m2 d2]∧Rt (onlyW w' (ab W.heap.size)) v s N D)∧Kept W w':=by
   refine(ownRat_fresh (r.kept ((kr.trans kd).trans k))).mono ?_
   rintro e w' ⟨c1,m1,d1,c2,m2,d2,rfl,hR,hk⟩
   exact⟨_,rfl,⟨_,_,_,_,_,_,rfl,hR⟩,hk⟩
  refine yca2 3 7 15 14 (P₁:=fun S v W=>∃b1 m1 d1 b2 m2 d2,v= .agg #[.bool l[k].iv.s1,.slice b1 m1 d1,.slice b2 m2 d2]∧Rt (onlyW W S) v l[k].iv.s1 l[k].iv.N1 l[k].iv.D1) (P₂:=fun S v W=>∃b1 m1 d1 b2 m2 d2,v= .agg #[.bool l[k].iv.s2,.slice b1 m1 d1,.slice b2 m2 d2]∧Rt (onlyW W S) v l[k].iv.s2 l[k].iv.N2 l[k].iv.D2)
   (fun u v=>.agg (u.cells++v.cells++#[.bool l[k].iv.li,.bool l[k].iv.hi])) 140 140 _ _ ZI 39 hS (own r1) (fun S S' v W W' h k=> ?_) (own r2) (fun S S' v W W' h k=> ?_) (fun W g6 u v hg hg' kW b6 hu hv lW=> ?_) ?_
  ·obtain⟨_,_,_,_,_,_,rfl,h⟩:=h
   exact⟨_,_,_,_,_,_,rfl,h.sub k⟩
  ·obtain⟨_,_,_,_,_,_,rfl,h⟩:=h
   exact⟨_,_,_,_,_,_,rfl,h.sub k⟩
  ·obtain⟨u1,u2,u3,u4,u5,u6,rfl,hu⟩:=hu
   obtain⟨v1,v2,v3,v4,v5,v6,rfl,hv⟩:=hv
   refine yt 16 (V:=#[.bool l[k].iv.s1,.slice u1 u2 u3,.slice u4 u5 u6,.bool l[k].iv.s2,.slice v1 v2 v3,.slice v4 v5 v6,.bool l[k].iv.li,.bool l[k].iv.hi]) b6 own39 own39 (.inr hg) lW fun W1 kb b6 _=>yend ?_
   replace kW:=(((Kept.refl wb).drew.trans kW)).but kb hg
   replace hu:=hu.sub (abx_but (M:=wb.drew.heap.size) kb)
   replace hv:=hv.sub (abx_but (M:=wb.drew.heap.size) kb)
   have hd:=(Kept.refl wb).drew.size
   have hab:=ka.size
   clear kb lW hS
   iterate 3 go_step
   refine zz ?_
   refine zr (.pointer (some ⟨g5,0,none⟩)) ?_
   refine zl1 ((b5.kept kW).cell 0 rfl) ?_
   refine zl b6.range own39 ?_
   refine zr (.agg #[.string l[k].name,.bool l[k].iv.s1,.slice u1 u2 u3,.slice u4 u5 u6,.bool l[k].iv.s2,.slice v1 v2 v3,.slice v4 v5 v6,.bool l[k].iv.li,.bool l[k].iv.hi]) ?_
   refine zgrow (V:=#[.string l[k].name,.bool l[k].iv.s1,.slice u1 u2 u3,.slice u4 u5 u6,.bool l[k].iv.s2,.slice v1 v2 v3,.slice v4 v5 v6,.bool l[k].iv.li,.bool l[k].iv.hi]) info41 rfl (by decide) (by decide) Tryz.underlying28 (G.kept sideR_sub (ka.trans kW)) sideR_sub own41.2 rfl hlt (by omega)
    (T:=abx wb.drew.heap.size g6) ⟨_,_,_,_,_,_,_,_,_,_,_,_,_,_,_,_,rfl,_,_,_,_,_,_,_,_,_,_,_,_,rfl,hu,hv⟩ (fun b hb=> ?_) (by kernel_rfl) fun wc a' cap' G=> ?_
   ·unfold abx at hb
    simp only[Bool.and_eq_true,decide_eq_true_eq] at hb
    refine⟨by omega,fun he=> ?_⟩
    have:=(own_lt b he.symm).2
    omega
   refine zz ?_
   iterate 4 go_step
   refine z2 (.int .i64 ((k+1:Nat):Int)) (hrun:=run_inc (by omega)) ?_
   refine zz ?_
   iterate 3 go_step
   exact⟨_,(a',cap',_),rfl,hlt,⟨rfl,rfl,rfl,rfl,trivial⟩,G⟩
  ·rintro S u W ⟨_,_,_,_,_,_,rfl,-⟩ S' v W' ⟨_,_,_,_,_,_,rfl,-⟩ fl' (rfl|⟨p,rfl⟩) W''<;>kernel_rfl
 case' false=>
  obtain rfl:k=l.length:=by have:=of_decide_eq_false hlt;omega
  refine zt_false ?_
  iterate 7 go_step
  refine zz ?_
  refine zz ?_
  iterate 5 go_step
  obtain⟨hcap,hcell,hrows⟩:=G.done sideR_sub (N:=w.heap.size) (Nat.le_refl _) (fun b _ _=>rfl)
  exact zretT ⟨_,_,rfl,Bxm.mk hcap (by omega) hcell hrows,kr⟩
end
section
set_option maxHeartbeats 16000000
set_option maxRecDepth 100000
theorem own_calls{f:Nat}{w:World}{v:Value}{c:ClaimD}(h:Clm w f v c)(hok:c.ok=true):
 Calls Tryz.prog 66 #[v] w fun e w'=>∃v',e= .returned v'∧Clm (onlyW w' (ab w.heap.size)) f v' c∧Kept w w':=by
 obtain⟨p1,p2,p3,p4⟩:=ok_parts hok
 have hl6:c.box.length≤6:=by unfold boxOk at p1;simp only[Bool.and_eq_true,decide_eq_true_eq] at p1;exact p1.1
 obtain⟨V,Y,a1,n1,c1,a2,n2,c2,rfl,rfl,oV,oY,hg,hb,hc⟩:=h.own
 obtain rfl:n1=c.box.length:=hb.1
 obtain rfl:n2=c.conds.length:=hc.1
 obtain⟨y0,y1,y2,y3,y4,y5,y6,rfl⟩:=arr7 oY.size7
 have HR:=fun(i:Nat)(hi:i<c.conds.length)=>hc.row hi
 refine ent1 34 Tryz.func66 rfl Tryz.ntmps66 ?_
 iterate 3 go_step
 refine zb (V:=#[y0,y1,y2,y3,y4,y5,y6,.bool c.strict,.slice a1 c.box.length c1,.slice a2 c.conds.length c2]) fun w1 g1 e1 k1 b1 s1=> ?_
 refine za Z10 31 fun w2 g2 e2 k2 b2 s2=> ?_
 replace b1:=b1.kept k2
 have K0:=k1.trans k2
 clear k1 k2
 iterate 4 go_step
 refine drawn 0 0 fun hS=> ?_
 have hdz:w2.drew.heap.size=w2.heap.size:=rfl
 have kd:=K0.trans (Kept.refl w2).drew
 have hz:∀{b:Nat},b<0∨0≤b:=.inr (Nat.zero_le _)
 refine yr 0 (.pointer (some ⟨g1,0,none⟩)) hS ?_
 refine yl 1 (V:=#[y0,y1,y2,y3,y4,y5,y6]) (b1.part 0) hz oY hS ?_
 refine yr 3 (.pointer (some ⟨g1,7,none⟩)) hS ?_
 refine yl1 4 (b1.cell 7 rfl) hz hS ?_
 refine yr 5 (.pointer (some ⟨g1,8,none⟩)) hS ?_
 refine yl1 6 (b1.cell 8 rfl) hz hS ?_
 refine yca2 2 7 9 8 (P₁:=fun S v W=>Ex (onlyW W S) f v c.goal) (P₂:=fun S v W=>∃a' cap',v= .slice a' c.box.length cap'∧Bxm (onlyW W S) a' c.box.length cap' c.box) (fun u v=>.agg (u.cells++#[.bool c.strict,v,.slice none 0 0])) 67 139 _ _ Z10 31 hS
  (fun W k=>ownExpr_calls f (hg.kept (kd.trans k)) (well_of_ok p2)) (fun S S' v W W' h k=>h.sub k) (fun W k=>(ownBox_calls (hb.kept (kd.trans k)) hl6).mono ?_) (fun S S' v W W' h k=> ?_) (fun W g3 u v hg hg' kW b3 hu hv lW=> ?_) ?_
 ·rintro e w' ⟨a',cap',rfl,h,hk⟩
  exact⟨_,rfl,⟨_,_,rfl,h⟩,hk⟩
 ·obtain⟨_,_,rfl,h⟩:=h
  exact⟨_,_,rfl,h.sub k⟩
 ·obtain⟨X,rfl,oX⟩:=hu.own
  obtain⟨x0,x1,x2,x3,x4,x5,x6,rfl⟩:=arr7 oX.size7
  obtain⟨a',cap',rfl,hv⟩:=hv
  have o10:∀{s a n cp},Own 31 #[x0,x1,x2,x3,x4,x5,x6,.bool s,.slice a' c.box.length cap',.slice a n cp]:=own31 oX
  refine yt 10 (V:=#[x0,x1,x2,x3,x4,x5,x6,.bool c.strict,.slice a' c.box.length cap',.slice none 0 0]) b3 ownZ10 o10 (.inr hg) lW fun W0 kb b3 _=>yend ?_
  replace K0:=(kd.trans kW).but kb (by have:=kd.size;omega)
  replace hu:=hu.sub (abx_but (M:=w2.drew.heap.size) kb)
  replace hv:=hv.sub (abx_but (M:=w2.drew.heap.size) kb)
  replace b1:=(b1.kept ((Kept.refl w2).drew.trans kW)).keptB kb (by have:=b1.lt;have:=(Kept.refl w2).drew.size;omega)
  replace b2:=(b2.kept ((Kept.refl w2).drew.trans kW)).keptB kb (by have:=b2.lt;have:=(Kept.refl w2).drew.size;omega)
  have hg30:=b3.lt
  have hd:=kd.size
  have hd2:=(Kept.refl w2).drew.size
  have hz2:=K0.size
  clear kb lW hS kW
  iterate 5 go_step
  refine zr (.pointer (some ⟨g1,9,none⟩)) ?_
  refine zl1 (b1.cell 9 rfl) ?_
  refine zr (.int .i64 c.conds.length) ?_
  refine zz ?_
  iterate 4 go_step
  refine zloop c.conds.length (fun k=>[(2,.pointer (some ⟨g2,0,none⟩)),(3,.pointer (some ⟨g3,0,none⟩)),(16,.slice a2 c.conds.length c2),(17,.int .i64 c.conds.length),(18,.int .i64 k)])
   (fun k W=>∃a3 cap3 cs,Grow W0 W g3 93 8 (.slice a3 k cap3) k cs (condR f) c.conds∧Blk W g3 #[x0,x1,x2,x3,x4,x5,x6,.bool c.strict,.slice a' c.box.length cap',.slice a3 k cap3] 31) ⟨rfl,rfl,rfl,rfl,rfl,trivial⟩ ⟨none,0,[],Grow.start ..,b3⟩ fun l wr k hk ⟨a3,cap3,cs,G,b3⟩=> ?_
  have hsz:=G.kb.size
  have own:=fun g hg=>World.ownsRow.lt G.own g hg
  iterate 3 go_step
  refine z2 (.bool (decide ((k:Int)<(c.conds.length:Int)))) ?_
  iterate 4 go_step
  cases hlt:decide ((k:Int)<(c.conds.length:Int))
  case' true=>
   have hlt:k<c.conds.length:=by have:=of_decide_eq_true hlt;omega
   obtain⟨b,off,q0,q1,q2,q3,q4,q5,q6,rfl,rV,oC,xC⟩:=HR k hlt
   have kr:Kept w wr:=K0.but G.kb (by omega)
   refine zt_true ?_
   iterate 7 go_step
   refine zi (s:=8) k hlt ?_
   refine zl (V:=#[q0,q1,q2,q3,q4,q5,q6,_]) ((Kept.sub kr).range rV) (own93 oC) ?_
   refine za Z8 93 fun wa g5 e5 ka b5 sa=> ?_
   refine zt b5 ownZ8 (own93 oC) fun wb kb b5=> ?_
   replace ka:=ka.but kb (by omega)
   replace G:=G.kept (condR_sub f) ka
   replace b3:=b3.kept ka
   have sb:=ka.size
   clear kb sa
   iterate 3 go_step
   refine drawn g3 g5 fun hS=> ?_
   have hdy:wb.drew.heap.size=wb.heap.size:=rfl
   have kd:=(Kept.refl wb).drew
   refine yr 0 (.pointer (some ⟨g3,9,none⟩)) hS ?_
   refine yr 2 (.pointer (some ⟨g5,0,none⟩)) hS ?_
   refine yl 3 (V:=#[q0,q1,q2,q3,q4,q5,q6]) (b5.part 0) (.inr (Nat.le_refl _)) oC hS ?_
   refine yr 5 (.pointer (some ⟨g5,7,none⟩)) hS ?_
   refine yl1 6 (b5.cell 7 rfl) (.inr (Nat.le_refl _)) hS ?_
   have hg3:=b3.lt
   refine ylcb (x:=.slice a3 k cap3) 1 4 8 1 (P:=fun v W=>Ex (onlyW W (ab wb.drew.heap.size)) f v c.conds[k].t) (fun L=>L.setIfInBounds 7 true) (fun v l=>upd l 29 (.agg (v.cells++#[.bool c.conds[k].strict]))) (fun v=>v.cells++#[.bool c.conds[k].strict]) 93 67 _ ((b3.kept kd).cell 9 rfl) hS (ownExpr_calls f (xC.kept ((kr.trans ka).trans kd)) (well_of_ok (p4 k hlt)))
    (fun L l' v W fu hl hP lW h=> ?_) (fun l' v W hP hl=> ?_) (fun v W w' g xv kW eg kg bg sg lW=> ?_) (fun _ _=>upd_comm (d:=23) (e:=29) (by decide)) (fun _=>Array.setIfInBounds_comm (i:=1) (j:=7) _ _ (by decide)) (fun _=>rfl)
   ·obtain⟨o,g,z,u1,u2,u3,u4,u5,u6,nm,a4,n4,cap4,rfl⟩:=hP.agg7
    rcases hl with⟨rfl,rfl⟩|⟨rfl,rfl⟩<;>exact yr 7 _ lW h
   ·obtain⟨o,g,z,u1,u2,u3,u4,u5,u6,nm,a4,n4,cap4,rfl⟩:=hP.agg7
    rcases hl with rfl|rfl<;>kernel_rfl
   obtain⟨o,g',z,u1,u2,u3,u4,u5,u6,nm,a4,n4,cap4,rfl⟩:=xv.agg7
   have kn:=kd.trans (kW.trans kg)
   have sn:=kW.size
   refine ygrow (c:=9) 9 10 11 (V:=#[.int .i64 o,.int .i64 g',.bool z,.slice u1 u2 u3,.slice u4 u5 u6,.string nm,.slice a4 n4 cap4,.bool c.conds[k].strict]) info93 rfl (by decide) (by decide) Tryz.underlying29 (G.kept (condR_sub f) kn) (condR_sub f) (b3.kept kn) hg30 (by simp) (own93 (Y:=#[_,_,_,_,_,_,_]) own7).2 rfl hlt (by omega) bg (T:=ab wb.drew.heap.size) ⟨_,_,_,_,_,_,_,_,_,_,_,_,_,rfl,xv.sub (only_keep kg)⟩ (fun b hb=> ?_) lW (Nat.le_refl _) (by omega) (fun g hg=>by have:=(own g hg).2;omega) lW.size fun wc a' cap' G b3 lc=> ?_
   ·unfold ab at hb
    simp only[decide_eq_true_eq] at hb
    have hd:=kd.size
    refine⟨by omega,fun he=> ?_⟩
    have:=(own b he.symm).2
    omega
   iterate 3 go_step
   refine z2 (.int .i64 ((k+1:Nat):Int)) (hrun:=run_inc (by omega)) ?_
   refine zz ?_
   iterate 3 go_step
   exact⟨_,rfl,hlt,⟨rfl,rfl,rfl,rfl,rfl,trivial⟩,a',cap',_,G,b3⟩
  case' false=>
   obtain rfl:k=c.conds.length:=by have:=of_decide_eq_false hlt;omega
   refine zt_false ?_
   iterate 7 go_step
   refine zl b3.range o10 ?_
   refine zt (b2.keptB G.kb (by omega)) ownZ10 o10 fun wz kz bz=> ?_
   iterate 5 go_step
   obtain⟨hcap,hcell,hrows⟩:=G.done (condR_sub f) (N:=w.heap.size) K0.size (fun b hb h=>kz.old b hb (by have:=b2.lt;omega))
   have hs:Sub (onlyW W0 (abx w2.drew.heap.size g3)) (onlyW wz (ab w.heap.size)):=only_move fun b hb hs=>by
    unfold abx at hs
    simp only[Bool.and_eq_true,bne_iff_ne,decide_eq_true_eq] at hs
    have hb2:b<wr.heap.size:=by omega
    exact⟨by unfold ab;exact decide_eq_true (by omega),(kz.old b hb2 (by omega)).trans (G.kb.old b hb hs.2)⟩
   exact zret1 bz o10 ⟨_,rfl,Clm.of (hu.sub hs) (hv.sub hs) (Cnm.mk hcap (by omega) hcell hrows),(K0.but G.kb (by omega)).but kz (by omega)⟩
 ·rintro S u W hu S' v W' ⟨_,_,rfl,-⟩ fl' hl W''
  obtain⟨_,_,_,_,_,_,_,_,_,_,_,_,_,rfl⟩:=hu.agg7
  rcases hl with rfl|⟨p,rfl⟩<;>kernel_rfl
end
end Go.Proofs.YtbapfnpbamnmpaaGreatDoor
