/- A part of the proof that ClaimBranches answers true for every input of bulk at most 1048576: conditions: the row's own. -/
import Derived.Test.YtbapfnpbamnmpaaGreatDoorKa
namespace Go.Proofs.YtbapfnpbamnmpaaGreatDoor
open Go Go.RowKit Go.Dig Go.Deep
open Go.Eng (Kept KW KeptB wp_region_kw kw_call)
section
def RetRes7(r:Option (Tree×Tree×Tree))(f:Nat)(S:Nat→Bool)(w:World)(e:Ending)(w':World):Prop:=
 (match r with
 |some (c,y,n)=>∃vc vy vn,e= .returned (.tuple #[vc,vy,vn,.bool true])∧Ex (onlyW w' (nxt S w.heap.size)) f vc c∧Ex (onlyW w' (nxt S w.heap.size)) f vy y∧Ex (onlyW w' (nxt S w.heap.size)) f vn n
 |none=>e= .returned (.tuple #[zeroE,zeroE,zeroE,.bool false]))∧Kept w w'
def Res7(f:Nat):Prop:=∀{w:World}{S:Nat→Bool}{v:Value}{t:Tree},Ex (onlyW w S) f v t→wellT t→Calls Tryz.prog 167 #[v] w (RetRes7 (resT t) f S w)
theorem range_lt{w:World}{S:Nat→Bool}{b o:Nat}{V:Array Value}(r:(onlyW w S).rangeAt b o V.toList)(hV:Own 27 V):b<w.heap.size:=
 World.block_lt_of_cell? w _ (only_sub w S _ _ (r 0 (V[0]'(by have:=hV.size7;omega)) (by simp)))
theorem loc_hi{S:Nat→Bool}{n k b:Nat}(h:n+k≤b):loc S n k b=true:=by unfold loc;simp[h]
set_option maxHeartbeats 64000000
set_option maxRecDepth 100000
end
section
set_option maxHeartbeats 16000000
set_option maxRecDepth 100000
theorem getD_kid{kids:List Tree}{i:Nat}(h:i<kids.length):kids.getD i noT=kids[i]:=by rw[List.getD_eq_getElem?_getD,List.getElem?_eq_getElem h];rfl
theorem resolved7_step{f:Nat}(ih:Res7 f):Res7 (f+1):=by
 intro w S v t h hw
 obtain⟨op,arg,s,N,D,name,kids⟩:=t
 have hn3:kids.length≤3:=node_kids hw.1
 have HX:=fun(w':World)(k:Kept w w')=>h.sub (loc_in (k:=4) k)
 have HOK:=hw.1
 obtain⟨x1,x2,x3,x4,x5,x6,a,cap,rfl,hcp,-,-⟩:=h.shape
 have HKR:=fun(i:Nat)(hi:i<kids.length)=>h.kidR hi
 have HIH:=fun(i:Nat)(hi:i<kids.length)(w':World)(u:Value)(q:Ex (onlyW w' (loc S w.heap.size 4)) f u kids[i])=>ih q (wellTs_get hw.2 i hi)
 clear h hw ih
 obtain⟨m,hm⟩:∃m,m=if op=15 then 1 else kids.length:=⟨_,rfl⟩
 have h15:op=15→3≤kids.length:=by
  rintro rfl
  have h:=HOK
  unfold nodeOk kidsI at h
  simp at h
  omega
 have hmk:m≤kids.length:=by
  rw[hm]
  split
  ·have:=h15 ‹_›;omega
  ·omega
 refine ent1 111 Tryz.func167 rfl Tryz.ntmps167 ?_
 iterate 2 go_step
 refine zb fun w1 g1 e1 k1 b1 s1=> ?_
 refine za Z7 27 fun w2 g2 e2 k2 b2 s2=> ?_
 refine za Z7 27 fun w3 g3 e3 k3 b3 s3=> ?_
 refine za Z7 27 fun w0 g4 e4 k4 b4 s4=> ?_
 refine zz ?_
 replace b1:=((b1.kept k2).kept k3).kept k4
 replace b2:=(b2.kept k3).kept k4
 replace b3:=b3.kept k4
 have K0:=((k1.trans k2).trans k3).trans k4
 clear k1 k2 k3 k4
 iterate 5 go_step
 refine zr (.pointer (some ⟨g1,6,none⟩)) ?_
 refine zl1 (b1.cell 6 rfl) ?_
 refine zz ?_
 iterate 6 go_step
 refine zr (.pointer (some ⟨g1,0,none⟩)) ?_
 refine zl1 (b1.cell 0 rfl) ?_
 refine z2 (.bool (op==15)) ?_
 iterate 3 go_step
 refine zif [(1,.pointer (some ⟨g1,0,none⟩)),(2,.pointer (some ⟨g2,0,none⟩)),(3,.pointer (some ⟨g3,0,none⟩)),(4,.pointer (some ⟨g4,0,none⟩)),(6,.slice a m cap)] (fun Q' hQ=> ?_) (fun l=> ?_)
 ·cases h:op==15
  ·have h:op≠15:=by simpa using h
   refine zt_false ?_
   iterate 2 go_step
   exact⟨rfl,rfl,rfl,rfl,by rw[hm,if_neg h];rfl,trivial⟩
  ·have h:op=15:=by simpa using h
   obtain⟨b,off,-,rfl,-⟩:=HKR 0 (by have:=h15 h;omega)
   refine zt_true ?_
   go_step
   refine zz ?_
   refine zr (.slice (some ⟨b,off,none⟩) 1 cap) (hrun:=run_cut rfl rfl rfl (by have:=h15 h;omega)) ?_
   refine zz ?_
   iterate 2 go_step
   exact⟨rfl,rfl,rfl,rfl,by rw[hm,if_pos h];rfl,trivial⟩
 iterate 5 go_step
 refine zz ?_
 refine zr (.int .i64 m) ?_
 refine zz ?_
 iterate 4 go_step
 refine zloop m (fun k=>[(1,.pointer (some ⟨g1,0,none⟩)),(2,.pointer (some ⟨g2,0,none⟩)),(3,.pointer (some ⟨g3,0,none⟩)),(4,.pointer (some ⟨g4,0,none⟩)),(25,.slice a m cap),(26,.int .i64 m),(27,.int .i64 k)])
  (fun k W=>(∀j(h:j<kids.length),j<k→resT kids[j]=none)∧Kept w0 W) ⟨rfl,rfl,rfl,rfl,rfl,rfl,rfl,trivial⟩ ⟨fun _ _ h=>absurd h (Nat.not_lt_zero _),Kept.refl _⟩ fun l wr k hk ⟨HN,HK⟩=> ?_
 have K:=K0.trans HK
 have sr:=HK.size
 replace b1:=b1.kept HK
 replace b2:=b2.kept HK
 replace b3:=b3.kept HK
 replace b4:=b4.kept HK
 iterate 3 go_step
 refine z2 (.bool (decide ((k:Int)<(m:Int)))) ?_
 iterate 4 go_step
 cases hlt:decide ((k:Int)<(m:Int))
 case' true=>
  have hlt:k<m:=by have:=of_decide_eq_true hlt;omega
  have hkl:k<kids.length:=by omega
  obtain⟨b,off,V,rfl,rV,oV,xV⟩:=HKR k hkl
  refine zt_true ?_
  iterate 7 go_step
  refine zz ?_
  refine zi (s:=7) k hlt ?_
  refine zl (((only_sub w S).trans (Kept.sub K)).range rV) oV ?_
  refine za Z7 27 fun u1 g8 e8 k1 b8 s8=> ?_
  refine zz ?_
  refine zt b8 ownZ oV fun u2 q b8=> ?_
  have Ku:=k1.but q (by omega)
  have su:=Ku.size
  iterate 5 go_step
  refine zl b8.range oV ?_
  refine zc 167 _ (HIH k hkl _ _ (xV.sub (loc_in (k:=4) (K.trans Ku)))) ?_
  rintro e wa ⟨hR,ka⟩
  have Ka:=Ku.trans ka
  have sa:=ka.size
  clear k1 q b8
  cases hrk:resT kids[k] with
  |none=>
   rw[hrk] at hR
   subst hR
   refine⟨_,rfl,?_⟩
   refine zz ?_
   refine zz ?_
   refine zz ?_
   refine zz ?_
   refine zz ?_
   refine za Z7 27 fun v1 g9 e9 k1 b9 s9=> ?_
   refine za Z7 27 fun v2 ga ea k2 ba sa=> ?_
   refine za Z7 27 fun v3 gb eb k3 bb sb=> ?_
   refine zt ((b9.kept k2).kept k3) ownZ ownZ fun v4 k4 b9=> ?_
   refine zt ((ba.kept k3).keptB k4 (by omega)) ownZ ownZ fun v5 k5 ba=> ?_
   refine zt ((bb.keptB k4 (by omega)).keptB k5 (by omega)) ownZ ownZ fun v6 k6 bb=> ?_
   refine zz ?_
   have Kv:=Ka.trans (((((k1.trans k2).trans k3).but k4 (by omega)).but k5 (by omega)).but k6 (by omega))
   iterate 5 go_step
   refine zz ?_
   iterate 3 go_step
   refine zt_false ?_
   iterate 4 go_step
   refine z2 (.int .i64 ((k+1:Nat):Int)) (hrun:=run_inc (by omega)) ?_
   refine zz ?_
   iterate 3 go_step
   refine⟨_,rfl,hlt,⟨rfl,rfl,rfl,rfl,rfl,rfl,rfl,trivial⟩,fun j h hj=> ?_,HK.trans Kv⟩
   rcases Nat.lt_or_ge j k with hjk|hjk
   ·exact HN j h hjk
   ·cases(by omega:j=k)
    exact hrk
  |some r=>
   obtain⟨c,y,n⟩:=r
   rw[hrk] at hR
   obtain⟨vc,vy,vn,rfl,xc,xy,xn⟩:=hR
   have HR:resT (.node op arg s N D name kids)=some (c,.node op arg s N D name (kids.set k y),.node op arg s N D name (kids.set k n)):=by
    rw[resT,resL_some (m:=if op=15 then 1 else kids.length) (k:=k) (r:=(c,y,n)) hkl (by rw[←hm];exact hlt) (fun j h hj=>HN j h hj) hrk]
   obtain⟨C,rfl,oC⟩:=xc.own
   obtain⟨Y,rfl,oY⟩:=xy.own
   obtain⟨M,rfl,oM⟩:=xn.own
   refine⟨_,rfl,?_⟩
   refine zz ?_
   refine zz ?_
   refine zz ?_
   refine zz ?_
   refine zz ?_
   refine za Z7 27 fun v1 g9 e9 k1 b9 s9=> ?_
   refine za Z7 27 fun v2 ga ea k2 ba s10=> ?_
   refine za Z7 27 fun v3 gb eb k3 bb s11=> ?_
   refine zt ((b9.kept k2).kept k3) ownZ oC fun v4 k4 b9=> ?_
   refine zt ((ba.kept k3).keptB k4 (by omega)) ownZ oY fun v5 k5 ba=> ?_
   refine zt ((bb.keptB k4 (by omega)).keptB k5 (by omega)) ownZ oM fun v6 k6 bb=> ?_
   refine zz ?_
   have Kb:=((((k1.trans k2).trans k3).but k4 (by omega)).but k5 (by omega)).but k6 (by omega)
   have sb:=k4.size
   have sc:=k5.size
   have sd:=k6.size
   have hl:w.heap.size+4≤u2.heap.size:=by omega
   replace xc:=(xc.sub (loc_nxt hl)).sub (only_keep Kb)
   replace xy:=(xy.sub (loc_nxt hl)).sub (only_keep Kb)
   replace xn:=(xn.sub (loc_nxt hl)).sub (only_keep Kb)
   replace b9:=(b9.keptB k5 (by omega)).keptB k6 (by omega)
   replace ba:=ba.keptB k6 (by omega)
   have Kv:=Ka.trans Kb
   replace b1:=b1.kept Kv
   replace b2:=b2.kept Kv
   replace b3:=b3.kept Kv
   replace b4:=b4.kept Kv
   have KW:=K.trans Kv
   have sv:=Kv.size
   clear k1 k2 k3 k4 k5 k6 Kb Kv Ka ka Ku
   iterate 5 go_step
   refine zz ?_
   iterate 3 go_step
   refine zt_true ?_
   go_step
   refine drawn g2 (g4+1) fun hS=> ?_
   refine yl 0 b9.range (by omega) oC hS ?_
   refine yl 1 b1.range (by omega) own7 hS ?_
   refine yz 2 hS ?_
   refine yl 3 ba.range (by omega) oY hS ?_
   refine yl 5 b1.range (by omega) own7 hS ?_
   refine yz 6 hS ?_
   refine yl 7 bb.range (by omega) oM hS ?_
   have kd:=(Kept.refl v6).drew
   refine yc 4 257 _ hS (ewith_calls (S:=loc S w.heap.size 4) (HX _ (KW.trans kd)) (xy.sub (only_keep kd)) hkl hn3) ?_
   rintro e wb ⟨vb,rfl,hB,kb⟩
   obtain⟨B,rfl,oB⟩:=hB.own
   replace hB:=hB.sub (loc_nxt (by have:=kd.size;omega))
   refine⟨kb,_,rfl,fun hS=> ?_⟩
   refine yc 8 257 _ hS (ewith_calls (S:=loc S w.heap.size 4) (HX _ ((KW.trans kd).trans kb)) (xn.sub (only_keep (kd.trans kb))) hkl hn3) ?_
   rintro e wd ⟨vd,rfl,hD,kc⟩
   obtain⟨B',rfl,oB'⟩:=hD.own
   have sb':=kb.size
   have sd':=kd.size
   replace hD:=hD.sub (loc_nxt (by omega))
   refine⟨kc,_,rfl,fun hS=> ?_⟩
   have kx:=(kd.trans kb).trans kc
   refine ytail3 9 hS (b2.kept kx) (b3.kept kx) (b4.kept kx) ownZ ownZ ownZ oC oB oB' (by omega) (by omega) (by omega) (by omega) fun wf lf lx n2 n3 n4=> ?_
   have hto:Sub (onlyW wd (loc S w.heap.size 4)) (onlyW wf (nxt S w.heap.size)):=(lx.only fun _ h1 h2=>loc_own _ (by omega) (by omega)).trans loc_out
   iterate 6 go_step
   refine zret3 n2 n3 n4 oC oB oB' ⟨?_,kept_then KW lf (by omega)⟩
   rw[HR]
   exact⟨_,_,_,rfl,((xc.sub (only_keep kx)).sub hto).more,(hB.sub (only_keep kc)).sub hto,hD.sub hto⟩
 have hkm:k=m:=by have:=of_decide_eq_false hlt;omega
 subst hkm
 have hnone:resL kids k=none:=resL_none fun j h hj=>HN j h hj
 refine zt_false ?_
 iterate 8 go_step
 refine zr (.pointer (some ⟨g1,0,none⟩)) ?_
 refine zl1 (b1.cell 0 rfl) ?_
 iterate 6 go_step
 have qw:=(only_sub w S).trans (Kept.sub K)
 have hfin:∀{wx wf:World},Lk g2 (g4+1) wx wf→Sub (onlyW wx (loc S w.heap.size 4)) (onlyW wf (nxt S w.heap.size)):=fun k=>(k.only fun _ h1 h2=>loc_own _ (by omega) (by omega)).trans loc_out
 have hloc:∀{i:Nat}{V:Array Value}{wx:World}(hi:i<kids.length),Kept wr wx→Ex (onlyW w S) f (.agg V) kids[i]→Ex (onlyW wx (loc S w.heap.size 4)) f (.agg V) kids[i]:=fun _ k x=>x.sub (loc_in (k:=4) (K.trans k))
 refine z2 (.bool (op==12)) ?_
 refine zz ?_
 iterate 3 go_step
 cases h12:op==12
 case' true=>
  have h12:op=12:=by simpa using h12
  subst h12
  have hl0:0<kids.length:=by
   have h:=HOK
   unfold nodeOk kidsI at h
   simp at h
   omega
  obtain⟨b,off,V,rfl,rV,oV,xV⟩:=HKR 0 hl0
  have HR:resT (.node 12 arg s N D name kids)=some (kids[0],kids[0],negT kids[0]):=by
   rw[resT,←hm,hnone,←getD_kid hl0]
   rfl
  refine zt_true ?_
  iterate 2 go_step
  refine zr (.pointer (some ⟨g1,6,none⟩)) ?_
  refine zl1 (b1.cell 6 rfl) ?_
  refine zi (s:=7) 0 hl0 ?_
  refine zl (qw.range rV) oV ?_
  refine za Z7 27 fun u1 g8 e8 k1 b8 s8=> ?_
  refine zt b8 ownZ oV fun u2 q b8=> ?_
  have Ku:=k1.but q (by omega)
  have su:=Ku.size
  iterate 4 go_step
  refine drawn g2 (g4+1) fun hS=> ?_
  refine yl 0 b8.range (by omega) oV hS ?_
  refine yl 1 b8.range (by omega) oV hS ?_
  refine yl 2 b8.range (by omega) oV hS ?_
  refine ybs 3 1 V 27 hS (run25 oV rfl rfl) fun u3 gs es ks bs ss hS=> ?_
  refine yc 4 250 _ hS (node_calls' _ 4 0 (some ⟨gs,0,none⟩) 1 1) ?_
  rintro e wb ⟨rfl,kb⟩
  refine⟨kb,_,rfl,fun hS=> ?_⟩
  have kd:=((Kept.refl u2).drew.trans ks).trans kb
  have Kx:=Ku.trans kd
  have sx:=(Kept.refl u2).drew.size
  have xm:=(hloc hl0 Kx xV).neg oV (loc_hi (by omega)) (bs.kept kb)
  refine ytail3 5 hS (b2.kept Kx) (b3.kept Kx) (b4.kept Kx) ownZ ownZ ownZ oV oV (ownM gs) (by omega) (by omega) (by omega) (by omega) fun wf lf lx n2 n3 n4=> ?_
  iterate 4 go_step
  refine zret3 n2 n3 n4 oV oV (ownM gs) ⟨?_,kept_then (K.trans Ku) lf (by omega)⟩
  rw[HR]
  exact⟨_,_,_,rfl,((hloc hl0 Kx xV).sub (hfin lx)).more,((hloc hl0 Kx xV).sub (hfin lx)).more,xm.sub (hfin lx)⟩
 refine zt_false ?_
 iterate 2 go_step
 refine z2 (.bool (op==13)) ?_
 refine zz ?_
 iterate 3 go_step
 cases h13:op==13
 case' false=>
  refine zt_false ?_
  iterate 2 go_step
  refine z2 (.bool (op==14)) ?_
  refine zz ?_
  iterate 3 go_step
  cases h14:op==14
 case' false.false=>
  refine zt_false ?_
  iterate 2 go_step
  refine z2 (.bool (op==15)) ?_
  refine zz ?_
  iterate 3 go_step
  cases hq:op==15
 case' false.false.false=>
  have HR:resT (.node op arg s N D name kids)=none:=by
   simp only[beq_eq_false_iff_ne] at h12 h13 h14 hq
   rw[resT,←hm,hnone,if_neg h12,if_neg h13,if_neg h14,if_neg hq]
  refine zt_false ?_
  iterate 4 go_step
  refine drawnZ fun wd kd=> ?_
  replace b2:=b2.kept kd
  replace b3:=b3.kept kd
  replace b4:=b4.kept kd
  refine yS 0 (fun _ e=>e▸b2.range) ownZ rfl ?_
  refine yS 1 (fun _ e=>e▸b3.range) ownZ rfl ?_
  refine yS 2 (fun _ e=>e▸b4.range) ownZ rfl ?_
  refine ytailZ 3 b2 b3 b4 ownZ ownZ ownZ ?_
  iterate 3 go_step
  exact zret3 b2 b3 b4 ownZ ownZ ownZ ⟨by rw[HR];rfl,K.trans kd⟩
 case' false.false.true=>
  have hq:op=15:=by simpa using hq
  have hl2:=h15 hq
  subst hq
  obtain⟨b,off,V,rfl,rV,oV,xV⟩:=HKR 0 (by omega)
  obtain⟨_,_,U,hab,rU,oU,xU⟩:=HKR 1 (by omega)
  cases hab
  obtain⟨_,_,X,hab,rX,oX,xX⟩:=HKR 2 (by omega)
  cases hab
  have hbw:=range_lt rV oV
  have HR:resT (.node 15 arg s N D name kids)=some (kids[0],kids[1],kids[2]):=by
   rw[resT,←hm,hnone,←getD_kid (by omega:0<kids.length),←getD_kid (by omega:1<kids.length),←getD_kid (by omega:2<kids.length)]
   rfl
  refine zt_true ?_
  go_step
  refine drawn g2 (g4+1) fun hS=> ?_
  refine yr 0 (.pointer (some ⟨g1,6,none⟩)) hS ?_
  refine yl1 1 (b1.cell 6 rfl) (by omega) hS ?_
  refine yi 2 7 0 (by omega:0<kids.length) hS ?_
  refine yl 3 (qw.range rV) (by omega) oV hS ?_
  refine yr 4 (.pointer (some ⟨g1,6,none⟩)) hS ?_
  refine yl1 5 (b1.cell 6 rfl) (by omega) hS ?_
  refine yi 6 7 1 (by omega:1<kids.length) hS ?_
  refine yl 7 (qw.range rU) (by omega) oU hS ?_
  refine yr 8 (.pointer (some ⟨g1,6,none⟩)) hS ?_
  refine yl1 9 (b1.cell 6 rfl) (by omega) hS ?_
  refine yi 10 7 2 (by omega:2<kids.length) hS ?_
  refine yl 11 (qw.range rX) (by omega) oX hS ?_
  have kd:=(Kept.refl wr).drew
  refine ytail3 12 hS (b2.kept kd) (b3.kept kd) (b4.kept kd) ownZ ownZ ownZ oV oU oX (by omega) (by omega) (by omega) (by omega) fun wf lf lx n2 n3 n4=> ?_
  iterate 4 go_step
  refine zret3 n2 n3 n4 oV oU oX ⟨?_,kept_then K lf (by omega)⟩
  rw[HR]
  exact⟨_,_,_,rfl,((hloc _ kd xV).sub (hfin lx)).more,((hloc _ kd xU).sub (hfin lx)).more,((hloc _ kd xX).sub (hfin lx)).more⟩
 all_goals
  have hl1:1<kids.length:=by
   have h:op=13∨op=14:=by first
    |exact .inl (by simpa using h13)
    |exact .inr (by simpa using h14)
   unfold nodeOk kidsI at HOK
   rcases h with rfl|rfl<;>simp at HOK<;>omega
  have hl0:0<kids.length:=by omega
  obtain⟨b,off,V,rfl,rV,oV,xV⟩:=HKR 0 hl0
  obtain⟨_,_,U,hab,rU,oU,xU⟩:=HKR 1 hl1
  cases hab
  have hbw:=range_lt rV oV
  refine zt_true ?_
  go_step
  refine drawn g2 (g4+1) fun hS=> ?_
  refine yr 0 (.pointer (some ⟨g1,6,none⟩)) hS ?_
  refine yl1 1 (b1.cell 6 rfl) (by omega) hS ?_
  refine yi 2 7 0 hl0 hS ?_
  refine yl 3 (qw.range rV) (by omega) oV hS ?_
  refine yr 4 (.pointer (some ⟨g1,6,none⟩)) hS ?_
  refine yl1 5 (b1.cell 6 rfl) (by omega) hS ?_
  refine yi 6 7 1 hl1 hS ?_
  refine yl 7 (qw.range rU) (by omega) oU hS ?_
  refine ya2 8 9 Z7 27 hS fun u1 gp gq hne hp hq k1 bp bq hS=> ?_
  refine yt 10 bp ownZ oV (.inr hp) hS fun u2 q bp hS=> ?_
  refine yt 11 (bq.keptB q (Ne.symm hne)) ownZ oU (.inr hq) hS fun u3 q' bq hS=> ?_
  refine yend ?_
  replace bp:=bp.keptB q' hne
  have sd:=(Kept.refl wr).drew.size
  have Ku:=(((Kept.refl wr).drew.trans k1).but q (by omega)).but q' (by omega)
  have su:=Ku.size
  have hlp:=bp.lt
  have hlq:=bq.lt
  clear hS k1 q q'
  iterate 3 go_step
  refine drawn g2 (g4+1) fun hS=> ?_
  have ks:=(Kept.refl u3).drew
  first
   |(refine yl 0 bp.range (by omega) oV hS ?_
     refine yl 1 bq.range (by omega) oU hS ?_
     refine yl 4 bp.range (by omega) oV hS ?_
     refine yl 5 bq.range (by omega) oU hS ?_
     refine ybs 2 2 (V++U) 27 hS (run25b oV oU rfl rfl rfl) fun u4 gs es k bs ss hS=> ?_
     have xm:=fun(wx:World)(kx:Kept u4 wx)=>(hloc hl0 ((Ku.trans ks).trans (k.trans kx)) xV).two oV oU (hloc hl1 ((Ku.trans ks).trans (k.trans kx)) xU) (loc_hi (by have:=ks.size;omega)) (bs.kept kx)
     have HR:resT (.node op arg s N D name kids)=some (subT kids[0] kids[1],kids[0],kids[1]):=by
      have h:op=14:=by simpa using h14
      subst h
      rw[resT,←hm,hnone,←getD_kid hl0,←getD_kid hl1]
      rfl
     replace ks:=ks.trans k)
   |(refine yl 0 bq.range (by omega) oU hS ?_
     refine yl 1 bp.range (by omega) oV hS ?_
     refine yl 4 bp.range (by omega) oV hS ?_
     refine yl 5 bq.range (by omega) oU hS ?_
     refine ybs 2 2 (U++V) 27 hS (run25b oU oV rfl rfl rfl) fun u4 gs es k bs ss hS=> ?_
     have xm:=fun(wx:World)(kx:Kept u4 wx)=>(hloc hl1 ((Ku.trans ks).trans (k.trans kx)) xU).two oU oV (hloc hl0 ((Ku.trans ks).trans (k.trans kx)) xV) (loc_hi (by have:=ks.size;omega)) (bs.kept kx)
     have HR:resT (.node op arg s N D name kids)=some (subT kids[1] kids[0],kids[0],kids[1]):=by
      have h:op=13:=by simpa using h13
      subst h
      rw[resT,←hm,hnone,←getD_kid hl0,←getD_kid hl1]
      rfl
     replace ks:=ks.trans k)
  refine yc 3 250 _ hS (node_calls' _ 6 0 (some ⟨gs,0,none⟩) 2 2) ?_
  rintro e wb ⟨rfl,kb⟩
  refine⟨kb,_,rfl,fun hS=> ?_⟩
  replace xm:=xm _ kb
  have Kx:=Ku.trans (ks.trans kb)
  refine ytail3 6 hS (b2.kept Kx) (b3.kept Kx) (b4.kept Kx) ownZ ownZ ownZ (ownS gs) oV oU (by omega) (by omega) (by omega) (by omega) fun wf lf lx n2 n3 n4=> ?_
  iterate 4 go_step
  refine zret3 n2 n3 n4 (ownS gs) oV oU ⟨?_,kept_then (K.trans Ku) lf (by omega)⟩
  rw[HR]
  exact⟨_,_,_,rfl,xm.sub (hfin lx),((hloc hl0 Kx xV).sub (hfin lx)).more,((hloc hl1 Kx xU).sub (hfin lx)).more⟩
theorem resolved7_calls:∀(f:Nat),Res7 f
 |0=>fun h _=>h.elim
 |f+1=>resolved7_step (resolved7_calls f)
end
section
set_option maxHeartbeats 16000000
set_option maxRecDepth 100000
def RetRes8(r:Option (Tree×Tree×Tree))(f:Nat)(S:Nat→Bool)(w:World)(e:Ending)(w':World):Prop:=
 (match r with
 |some (c,y,n)=>∃vc vy vn,e= .returned (.tuple #[.bool true,vc,vy,vn])∧Ex (onlyW w' (nxt S w.heap.size)) f vc c∧Ex (onlyW w' (nxt S w.heap.size)) f vy y∧Ex (onlyW w' (nxt S w.heap.size)) f vn n
 |none=>e= .returned (.tuple #[.bool false,zeroE,zeroE,zeroE]))∧Kept w w'
def Res8(f:Nat):Prop:=∀{w:World}{S:Nat→Bool}{v:Value}{t:Tree},Ex (onlyW w S) f v t→wellT t→Calls Tryz.prog 168 #[v] w (RetRes8 (resT t) f S w)
theorem resolved8_step{f:Nat}(ih:Res8 f):Res8 (f+1):=by
 intro w S v t h hw
 obtain⟨op,arg,s,N,D,name,kids⟩:=t
 have hn3:kids.length≤3:=node_kids hw.1
 have HX:=fun(w':World)(k:Kept w w')=>h.sub (loc_in (k:=4) k)
 have HOK:=hw.1
 obtain⟨x1,x2,x3,x4,x5,x6,a,cap,rfl,hcp,-,-⟩:=h.shape
 have HKR:=fun(i:Nat)(hi:i<kids.length)=>h.kidR hi
 have HIH:=fun(i:Nat)(hi:i<kids.length)(w':World)(u:Value)(q:Ex (onlyW w' (loc S w.heap.size 4)) f u kids[i])=>ih q (wellTs_get hw.2 i hi)
 clear h hw ih
 obtain⟨m,hm⟩:∃m,m=if op=15 then 1 else kids.length:=⟨_,rfl⟩
 have h15:op=15→3≤kids.length:=by
  rintro rfl
  have h:=HOK
  unfold nodeOk kidsI at h
  simp at h
  omega
 have hmk:m≤kids.length:=by
  rw[hm]
  split
  ·have:=h15 ‹_›;omega
  ·omega
 refine ent1 107 Tryz.func168 rfl Tryz.ntmps168 ?_
 iterate 2 go_step
 refine zb fun w1 g1 e1 k1 b1 s1=> ?_
 refine zz ?_
 refine za Z7 27 fun w2 g2 e2 k2 b2 s2=> ?_
 refine za Z7 27 fun w3 g3 e3 k3 b3 s3=> ?_
 refine za Z7 27 fun w0 g4 e4 k4 b4 s4=> ?_
 replace b1:=((b1.kept k2).kept k3).kept k4
 replace b2:=(b2.kept k3).kept k4
 replace b3:=b3.kept k4
 have K0:=((k1.trans k2).trans k3).trans k4
 clear k1 k2 k3 k4
 iterate 5 go_step
 refine zr (.pointer (some ⟨g1,6,none⟩)) ?_
 refine zl1 (b1.cell 6 rfl) ?_
 refine zr (.int .i64 kids.length) ?_
 refine zz ?_
 iterate 6 go_step
 refine zr (.pointer (some ⟨g1,0,none⟩)) ?_
 refine zl1 (b1.cell 0 rfl) ?_
 refine z2 (.bool (op==15)) ?_
 iterate 3 go_step
 refine zif [(1,.pointer (some ⟨g1,0,none⟩)),(3,.pointer (some ⟨g2,0,none⟩)),(4,.pointer (some ⟨g3,0,none⟩)),(5,.pointer (some ⟨g4,0,none⟩)),(6,.int .i64 m)] (fun Q' hQ=> ?_) (fun l=> ?_)
 ·cases h:op==15
  ·have h:op≠15:=by simpa using h
   refine zt_false ?_
   iterate 2 go_step
   exact⟨rfl,rfl,rfl,rfl,by rw[hm,if_neg h];rfl,trivial⟩
  ·have h:op=15:=by simpa using h
   refine zt_true ?_
   go_step
   refine zz ?_
   iterate 2 go_step
   exact⟨rfl,rfl,rfl,rfl,by rw[hm,if_pos h];rfl,trivial⟩
 iterate 5 go_step
 refine zz ?_
 iterate 4 go_step
 refine zloop m (fun k=>[(1,.pointer (some ⟨g1,0,none⟩)),(3,.pointer (some ⟨g2,0,none⟩)),(4,.pointer (some ⟨g3,0,none⟩)),(5,.pointer (some ⟨g4,0,none⟩)),(6,.int .i64 m),(7,.int .i64 k)])
  (fun k W=>(∀j(h:j<kids.length),j<k→resT kids[j]=none)∧Kept w0 W) ⟨rfl,rfl,rfl,rfl,rfl,rfl,trivial⟩ ⟨fun _ _ h=>absurd h (Nat.not_lt_zero _),Kept.refl _⟩ fun l wr k hk ⟨HN,HK⟩=> ?_
 have K:=K0.trans HK
 have sr:=HK.size
 replace b1:=b1.kept HK
 replace b2:=b2.kept HK
 replace b3:=b3.kept HK
 replace b4:=b4.kept HK
 iterate 4 go_step
 iterate 2 refine zz ?_
 refine z2 (.bool (decide ((k:Int)<(m:Int)))) ?_
 iterate 3 go_step
 cases hlt:decide ((k:Int)<(m:Int))
 case' true=>
  have hlt:k<m:=by have:=of_decide_eq_true hlt;omega
  have hkl:k<kids.length:=by omega
  obtain⟨b,off,V,rfl,rV,oV,xV⟩:=HKR k hkl
  refine zt_true ?_
  iterate 7 go_step
  refine zr (.pointer (some ⟨g1,6,none⟩)) ?_
  refine zl1 (b1.cell 6 rfl) ?_
  refine zz ?_
  refine zi (s:=7) k hkl ?_
  refine zl (((only_sub w S).trans (Kept.sub K)).range rV) oV ?_
  refine zc 168 _ (HIH k hkl _ _ (xV.sub (loc_in (k:=4) K))) ?_
  rintro e wa ⟨hR,Ka⟩
  have sa:=Ka.size
  cases hrk:resT kids[k] with
  |none=>
   rw[hrk] at hR
   subst hR
   refine⟨_,rfl,?_⟩
   refine zz ?_
   refine zz ?_
   refine zz ?_
   refine zz ?_
   refine zz ?_
   refine za Z7 27 fun v1 g9 e9 k1 b9 s9=> ?_
   refine za Z7 27 fun v2 ga ea k2 ba sa=> ?_
   refine za Z7 27 fun v3 gb eb k3 bb sb=> ?_
   refine zz ?_
   refine zt ((b9.kept k2).kept k3) ownZ ownZ fun v4 k4 b9=> ?_
   refine zt ((ba.kept k3).keptB k4 (by omega)) ownZ ownZ fun v5 k5 ba=> ?_
   refine zt ((bb.keptB k4 (by omega)).keptB k5 (by omega)) ownZ ownZ fun v6 k6 bb=> ?_
   have Kv:=Ka.trans (((((k1.trans k2).trans k3).but k4 (by omega)).but k5 (by omega)).but k6 (by omega))
   iterate 5 go_step
   refine zz ?_
   iterate 3 go_step
   refine zt_false ?_
   iterate 4 go_step
   refine zz ?_
   refine z2 (.int .i64 ((k+1:Nat):Int)) (hrun:=run_inc (by omega)) ?_
   refine zz ?_
   iterate 3 go_step
   refine⟨_,rfl,hlt,⟨rfl,rfl,rfl,rfl,rfl,rfl,trivial⟩,fun j h hj=> ?_,HK.trans Kv⟩
   rcases Nat.lt_or_ge j k with hjk|hjk
   ·exact HN j h hjk
   ·cases(by omega:j=k)
    exact hrk
  |some r=>
   obtain⟨c,y,n⟩:=r
   rw[hrk] at hR
   obtain⟨vc,vy,vn,rfl,xc,xy,xn⟩:=hR
   have HR:resT (.node op arg s N D name kids)=some (c,.node op arg s N D name (kids.set k y),.node op arg s N D name (kids.set k n)):=by
    rw[resT,resL_some (m:=if op=15 then 1 else kids.length) (k:=k) (r:=(c,y,n)) hkl (by rw[←hm];exact hlt) (fun j h hj=>HN j h hj) hrk]
   obtain⟨C,rfl,oC⟩:=xc.own
   obtain⟨Y,rfl,oY⟩:=xy.own
   obtain⟨M,rfl,oM⟩:=xn.own
   refine⟨_,rfl,?_⟩
   refine zz ?_
   refine zz ?_
   refine zz ?_
   refine zz ?_
   refine zz ?_
   refine za Z7 27 fun v1 g9 e9 k1 b9 s9=> ?_
   refine za Z7 27 fun v2 ga ea k2 ba s10=> ?_
   refine za Z7 27 fun v3 gb eb k3 bb s11=> ?_
   refine zz ?_
   refine zt ((b9.kept k2).kept k3) ownZ oC fun v4 k4 b9=> ?_
   refine zt ((ba.kept k3).keptB k4 (by omega)) ownZ oY fun v5 k5 ba=> ?_
   refine zt ((bb.keptB k4 (by omega)).keptB k5 (by omega)) ownZ oM fun v6 k6 bb=> ?_
   have Kb:=((((k1.trans k2).trans k3).but k4 (by omega)).but k5 (by omega)).but k6 (by omega)
   have sb:=k4.size
   have sc:=k5.size
   have sd:=k6.size
   have hl:w.heap.size+4≤wr.heap.size:=by omega
   replace xc:=(xc.sub (loc_nxt hl)).sub (only_keep Kb)
   replace xy:=(xy.sub (loc_nxt hl)).sub (only_keep Kb)
   replace xn:=(xn.sub (loc_nxt hl)).sub (only_keep Kb)
   replace b9:=(b9.keptB k5 (by omega)).keptB k6 (by omega)
   replace ba:=ba.keptB k6 (by omega)
   have Kv:=Ka.trans Kb
   replace b1:=b1.kept Kv
   replace b2:=b2.kept Kv
   replace b3:=b3.kept Kv
   replace b4:=b4.kept Kv
   have KW:=K.trans Kv
   have sv:=Kv.size
   clear k1 k2 k3 k4 k5 k6 Kb Kv Ka
   iterate 5 go_step
   refine zz ?_
   iterate 3 go_step
   refine zt_true ?_
   go_step
   refine drawn g2 (g4+1) fun hS=> ?_
   refine yl 0 b9.range (by omega) oC hS ?_
   refine yl 1 b1.range (by omega) own7 hS ?_
   refine yz 2 hS ?_
   refine yl 3 ba.range (by omega) oY hS ?_
   refine yl 5 b1.range (by omega) own7 hS ?_
   refine yz 6 hS ?_
   refine yl 7 bb.range (by omega) oM hS ?_
   have kd:=(Kept.refl v6).drew
   refine yc 4 258 _ hS (replaced_calls (S:=loc S w.heap.size 4) (HX _ (KW.trans kd)) (xy.sub (only_keep kd)) hkl hn3) ?_
   rintro e wb ⟨vb,rfl,hB,kb⟩
   obtain⟨B,rfl,oB⟩:=hB.own
   replace hB:=hB.sub (loc_nxt (by have:=kd.size;omega))
   refine⟨kb,_,rfl,fun hS=> ?_⟩
   refine yc 8 258 _ hS (replaced_calls (S:=loc S w.heap.size 4) (HX _ ((KW.trans kd).trans kb)) (xn.sub (only_keep (kd.trans kb))) hkl hn3) ?_
   rintro e wd ⟨vd,rfl,hD,kc⟩
   obtain⟨B',rfl,oB'⟩:=hD.own
   have sb':=kb.size
   have sd':=kd.size
   replace hD:=hD.sub (loc_nxt (by omega))
   refine⟨kc,_,rfl,fun hS=> ?_⟩
   have kx:=(kd.trans kb).trans kc
   refine ytail3b 9 hS (b2.kept kx) (b3.kept kx) (b4.kept kx) ownZ ownZ ownZ oC oB oB' (by omega) (by omega) (by omega) (by omega) fun wf lf lx n2 n3 n4=> ?_
   have hto:Sub (onlyW wd (loc S w.heap.size 4)) (onlyW wf (nxt S w.heap.size)):=(lx.only fun _ h1 h2=>loc_own _ (by omega) (by omega)).trans loc_out
   iterate 6 go_step
   refine zret3b n2 n3 n4 oC oB oB' ⟨?_,kept_then KW lf (by omega)⟩
   rw[HR]
   exact⟨_,_,_,rfl,((xc.sub (only_keep kx)).sub hto).more,(hB.sub (only_keep kc)).sub hto,hD.sub hto⟩
 have hkm:k=m:=by have:=of_decide_eq_false hlt;omega
 subst hkm
 have hnone:resL kids k=none:=resL_none fun j h hj=>HN j h hj
 refine zt_false ?_
 iterate 8 go_step
 refine zr (.pointer (some ⟨g1,0,none⟩)) ?_
 refine zl1 (b1.cell 0 rfl) ?_
 iterate 6 go_step
 have qw:=(only_sub w S).trans (Kept.sub K)
 have hfin:∀{wx wf:World},Lk g2 (g4+1) wx wf→Sub (onlyW wx (loc S w.heap.size 4)) (onlyW wf (nxt S w.heap.size)):=fun k=>(k.only fun _ h1 h2=>loc_own _ (by omega) (by omega)).trans loc_out
 have hloc:∀{i:Nat}{V:Array Value}{wx:World}(hi:i<kids.length),Kept wr wx→Ex (onlyW w S) f (.agg V) kids[i]→Ex (onlyW wx (loc S w.heap.size 4)) f (.agg V) kids[i]:=fun _ k x=>x.sub (loc_in (k:=4) (K.trans k))
 refine z2 (.bool (op==12)) ?_
 refine zz ?_
 iterate 3 go_step
 cases h12:op==12
 case' true=>
  have h12:op=12:=by simpa using h12
  subst h12
  have hl0:0<kids.length:=by
   have h:=HOK
   unfold nodeOk kidsI at h
   simp at h
   omega
  obtain⟨b,off,V,rfl,rV,oV,xV⟩:=HKR 0 hl0
  have HR:resT (.node 12 arg s N D name kids)=some (kids[0],kids[0],negT kids[0]):=by
   rw[resT,←hm,hnone,←getD_kid hl0]
   rfl
  refine zt_true ?_
  iterate 2 go_step
  refine zr (.pointer (some ⟨g1,6,none⟩)) ?_
  refine zl1 (b1.cell 6 rfl) ?_
  refine zi (s:=7) 0 hl0 ?_
  refine zl (qw.range rV) oV ?_
  refine za Z7 27 fun u1 g8 e8 k1 b8 s8=> ?_
  refine zt b8 ownZ oV fun u2 q b8=> ?_
  have Ku:=k1.but q (by omega)
  have su:=Ku.size
  iterate 4 go_step
  refine drawn g2 (g4+1) fun hS=> ?_
  refine yl 0 b8.range (by omega) oV hS ?_
  refine yl 1 b8.range (by omega) oV hS ?_
  refine yl 2 b8.range (by omega) oV hS ?_
  have kd:=(Kept.refl u2).drew
  have sd:u2.drew.heap.size=u2.heap.size:=rfl
  refine yc 3 253 _ hS (rone_calls (hloc hl0 (Ku.trans kd) xV) 4 0) ?_
  rintro e wb ⟨vm,rfl,xm,kb⟩
  obtain⟨B,rfl,oB⟩:=xm.own
  replace xm:=xm.sub (loc_nxt (by omega))
  refine⟨kb,_,rfl,fun hS=> ?_⟩
  have Kx:=Ku.trans (kd.trans kb)
  refine ytail3b 4 hS (b2.kept Kx) (b3.kept Kx) (b4.kept Kx) ownZ ownZ ownZ oV oV oB (by omega) (by omega) (by omega) (by omega) fun wf lf lx n2 n3 n4=> ?_
  iterate 4 go_step
  refine zret3b n2 n3 n4 oV oV oB ⟨?_,kept_then (K.trans Ku) lf (by omega)⟩
  rw[HR]
  exact⟨_,_,_,rfl,((hloc hl0 Kx xV).sub (hfin lx)).more,((hloc hl0 Kx xV).sub (hfin lx)).more,xm.sub (hfin lx)⟩
 refine zt_false ?_
 iterate 2 go_step
 refine z2 (.bool (op==13)) ?_
 refine zz ?_
 iterate 3 go_step
 cases h13:op==13
 case' false=>
  refine zt_false ?_
  iterate 2 go_step
  refine z2 (.bool (op==14)) ?_
  refine zz ?_
  iterate 3 go_step
  cases h14:op==14
 case' false.false=>
  refine zt_false ?_
  iterate 2 go_step
  refine z2 (.bool (op==15)) ?_
  refine zz ?_
  iterate 3 go_step
  cases hq:op==15
 case' false.false.false=>
  have HR:resT (.node op arg s N D name kids)=none:=by
   simp only[beq_eq_false_iff_ne] at h12 h13 h14 hq
   rw[resT,←hm,hnone,if_neg h12,if_neg h13,if_neg h14,if_neg hq]
  refine zt_false ?_
  iterate 5 go_step
  iterate 3 refine zr (.agg Z7) ?_
  refine zz ?_
  refine zt b2 ownZ ownZ fun v1 k1 b2=> ?_
  refine zt (b3.keptB k1 (by omega)) ownZ ownZ fun v2 k2 b3=> ?_
  refine zt ((b4.keptB k1 (by omega)).keptB k2 (by omega)) ownZ ownZ fun v3 k3 b4=> ?_
  iterate 4 go_step
  exact zret3b ((b2.keptB k2 (by omega)).keptB k3 (by omega)) (b3.keptB k3 (by omega)) b4 ownZ ownZ ownZ ⟨by rw[HR];rfl,((K.but k1 (by omega)).but k2 (by omega)).but k3 (by omega)⟩
 case' false.false.true=>
  have hq:op=15:=by simpa using hq
  have hl2:=h15 hq
  subst hq
  obtain⟨b,off,V,rfl,rV,oV,xV⟩:=HKR 0 (by omega)
  obtain⟨_,_,U,hab,rU,oU,xU⟩:=HKR 1 (by omega)
  cases hab
  obtain⟨_,_,X,hab,rX,oX,xX⟩:=HKR 2 (by omega)
  cases hab
  have hbw:=range_lt rV oV
  have HR:resT (.node 15 arg s N D name kids)=some (kids[0],kids[1],kids[2]):=by
   rw[resT,←hm,hnone,←getD_kid (by omega:0<kids.length),←getD_kid (by omega:1<kids.length),←getD_kid (by omega:2<kids.length)]
   rfl
  refine zt_true ?_
  go_step
  refine drawn g2 (g4+1) fun hS=> ?_
  refine yr 0 (.pointer (some ⟨g1,6,none⟩)) hS ?_
  refine yl1 1 (b1.cell 6 rfl) (by omega) hS ?_
  refine yi 2 7 0 (by omega:0<kids.length) hS ?_
  refine yl 3 (qw.range rV) (by omega) oV hS ?_
  refine yr 4 (.pointer (some ⟨g1,6,none⟩)) hS ?_
  refine yl1 5 (b1.cell 6 rfl) (by omega) hS ?_
  refine yi 6 7 1 (by omega:1<kids.length) hS ?_
  refine yl 7 (qw.range rU) (by omega) oU hS ?_
  refine yr 8 (.pointer (some ⟨g1,6,none⟩)) hS ?_
  refine yl1 9 (b1.cell 6 rfl) (by omega) hS ?_
  refine yi 10 7 2 (by omega:2<kids.length) hS ?_
  refine yl 11 (qw.range rX) (by omega) oX hS ?_
  have kd:=(Kept.refl wr).drew
  refine ytail3b 12 hS (b2.kept kd) (b3.kept kd) (b4.kept kd) ownZ ownZ ownZ oV oU oX (by omega) (by omega) (by omega) (by omega) fun wf lf lx n2 n3 n4=> ?_
  iterate 4 go_step
  refine zret3b n2 n3 n4 oV oU oX ⟨?_,kept_then K lf (by omega)⟩
  rw[HR]
  exact⟨_,_,_,rfl,((hloc _ kd xV).sub (hfin lx)).more,((hloc _ kd xU).sub (hfin lx)).more,((hloc _ kd xX).sub (hfin lx)).more⟩
 all_goals
  have hl1:1<kids.length:=by
   have h:op=13∨op=14:=by first
    |exact .inl (by simpa using h13)
    |exact .inr (by simpa using h14)
   unfold nodeOk kidsI at HOK
   rcases h with rfl|rfl<;>simp at HOK<;>omega
  have hl0:0<kids.length:=by omega
  obtain⟨b,off,V,rfl,rV,oV,xV⟩:=HKR 0 hl0
  obtain⟨_,_,U,hab,rU,oU,xU⟩:=HKR 1 hl1
  cases hab
  have hbw:=range_lt rV oV
  refine zt_true ?_
  go_step
  refine drawn g2 (g4+1) fun hS=> ?_
  refine yr 0 (.pointer (some ⟨g1,6,none⟩)) hS ?_
  refine yl1 1 (b1.cell 6 rfl) (by omega) hS ?_
  refine yi 2 7 0 hl0 hS ?_
  refine yl 3 (qw.range rV) (by omega) oV hS ?_
  refine yr 4 (.pointer (some ⟨g1,6,none⟩)) hS ?_
  refine yl1 5 (b1.cell 6 rfl) (by omega) hS ?_
  refine yi 6 7 1 hl1 hS ?_
  refine yl 7 (qw.range rU) (by omega) oU hS ?_
  refine ya2 8 9 Z7 27 hS fun u1 gp gq hne hp hq k1 bp bq hS=> ?_
  refine yt 10 bp ownZ oV (.inr hp) hS fun u2 q bp hS=> ?_
  refine yt 11 (bq.keptB q (Ne.symm hne)) ownZ oU (.inr hq) hS fun u3 q' bq hS=> ?_
  refine yend ?_
  replace bp:=bp.keptB q' hne
  have sd:=(Kept.refl wr).drew.size
  have Ku:=(((Kept.refl wr).drew.trans k1).but q (by omega)).but q' (by omega)
  have su:=Ku.size
  have hlp:=bp.lt
  have hlq:=bq.lt
  clear hS k1 q q'
  iterate 3 go_step
  refine drawn g2 (g4+1) fun hS=> ?_
  have ks:=(Kept.refl u3).drew
  have sd':u3.drew.heap.size=u3.heap.size:=rfl
  first
   |(refine yl 0 bp.range (by omega) oV hS ?_
     refine yl 1 bq.range (by omega) oU hS ?_
     refine yl 3 bp.range (by omega) oV hS ?_
     refine yl 4 bq.range (by omega) oU hS ?_
     refine yc 2 259 _ hS (rtwo_calls (hloc hl0 (Ku.trans ks) xV) (hloc hl1 (Ku.trans ks) xU) 6) ?_
     have HR:resT (.node op arg s N D name kids)=some (subT kids[0] kids[1],kids[0],kids[1]):=by
      have h:op=14:=by simpa using h14
      subst h
      rw[resT,←hm,hnone,←getD_kid hl0,←getD_kid hl1]
      rfl)
   |(refine yl 0 bq.range (by omega) oU hS ?_
     refine yl 1 bp.range (by omega) oV hS ?_
     refine yl 3 bp.range (by omega) oV hS ?_
     refine yl 4 bq.range (by omega) oU hS ?_
     refine yc 2 259 _ hS (rtwo_calls (hloc hl1 (Ku.trans ks) xU) (hloc hl0 (Ku.trans ks) xV) 6) ?_
     have HR:resT (.node op arg s N D name kids)=some (subT kids[1] kids[0],kids[0],kids[1]):=by
      have h:op=13:=by simpa using h13
      subst h
      rw[resT,←hm,hnone,←getD_kid hl0,←getD_kid hl1]
      rfl)
  rintro e wb ⟨vm,rfl,xm,kb⟩
  obtain⟨B,rfl,oB⟩:=xm.own
  replace xm:=xm.sub (loc_nxt (by omega))
  refine⟨kb,_,rfl,fun hS=> ?_⟩
  have Kx:=Ku.trans (ks.trans kb)
  refine ytail3b 5 hS (b2.kept Kx) (b3.kept Kx) (b4.kept Kx) ownZ ownZ ownZ oB oV oU (by omega) (by omega) (by omega) (by omega) fun wf lf lx n2 n3 n4=> ?_
  iterate 4 go_step
  refine zret3b n2 n3 n4 oB oV oU ⟨?_,kept_then (K.trans Ku) lf (by omega)⟩
  rw[HR]
  exact⟨_,_,_,rfl,xm.sub (hfin lx),((hloc hl0 Kx xV).sub (hfin lx)).more,((hloc hl1 Kx xU).sub (hfin lx)).more⟩
theorem resolved8_calls:∀(f:Nat),Res8 f
 |0=>fun h _=>h.elim
 |f+1=>resolved8_step (resolved8_calls f)
end
end Go.Proofs.YtbapfnpbamnmpaaGreatDoor
