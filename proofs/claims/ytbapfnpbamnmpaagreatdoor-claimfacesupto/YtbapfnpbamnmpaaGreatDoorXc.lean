/- A part of the proof that ClaimFaces answers true for every input of bulk at most 1048576: conditions: the row's own. -/
import Derived.Test.YtbapfnpbamnmpaaGreatDoorXb
import Derived.Test.YtbapfnpbamnmpaaGreatDoorZa
namespace Go.Proofs.YtbapfnpbamnmpaaGreatDoor
open Go Go.RowKit Go.Dig Go.Deep
open Go.Eng (Kept KW KeptB wp_region_kw kw_call)
def loS(i:IvD):Bool:=if i.li then false else i.s1&&decide (0<i.N1)
def loN(i:IvD):Nat:=if i.li then 0 else rN i.N1 i.D1
def loD(i:IvD):Nat:=if i.li then 0 else rD i.N1 i.D1
def hiS(i:IvD):Bool:=if i.hi then false else i.s2&&decide (0<i.N2)
def hiN(i:IvD):Nat:=if i.hi then 0 else rN i.N2 i.D2
def hiD(i:IvD):Nat:=if i.hi then 0 else rD i.N2 i.D2
def sameI(i j:IvD):Bool:=(i.li==j.li)&&(i.hi==j.hi)&&(qcmp (loS i) (loN i) (loD i) (loS j) (loN j) (loD j)==0)&&(qcmp (hiS i) (hiN i) (hiD i) (hiS j) (hiN j) (hiD j)==0)
theorem ends_sm{i:IvD}(hf:i.fine=true):loN i<Sm∧loD i<Sm∧hiN i<Sm∧hiD i<Sm:=by
 have hf2:small i.N1 i.D1=true∧small i.N2 i.D2=true:=by
  have hf:(small i.N1 i.D1&&small i.N2 i.D2)=true:=hf
  simpa using hf
 obtain⟨-,-,g1,g2,-,-⟩:=small_bounds hf2.1
 obtain⟨-,-,g3,g4,-,-⟩:=small_bounds hf2.2
 have h0:0<Sm:=pwr_pos 7000
 unfold loN loD hiN hiD
 refine⟨?_,?_,?_,?_⟩<;>split<;>assumption
theorem iof_nv{w:World}{v:Value}{i:IvD}(h:Ivl w v i)(hf:i.fine=true)(hv:i.void=false):
 Calls Tryz.prog 47 #[v] w fun e w'=>∃v',e= .returned v'∧Iq w' v' (loS i) (loN i) (loD i) (hiS i) (hiN i) (hiD i) i.li i.hi false∧Kept w w':=by
 refine(iof_calls h hf).mono ?_
 rintro e w' ⟨v',he,hk,hi⟩
 rw[hv] at hi
 exact⟨v',he,hi,hk⟩
theorem Iq.kept{w w':World}{v:Value}{p1:Bool}{n1 d1:Nat}{p2:Bool}{n2 d2:Nat}{li hi em:Bool}(h:Iq w v p1 n1 d1 p2 n2 d2 li hi em)(k:Kept w w'):Iq w' v p1 n1 d1 p2 n2 d2 li hi em:=by
 obtain⟨a,n,c,a',n',c',b,m,e,b',m',e',rfl,h1,h2⟩:=h
 exact⟨a,n,c,a',n',c',b,m,e,b',m',e',rfl,h1.kept k,h2.kept k⟩
theorem Iq.keptB{w w':World}{b0:Nat}{v:Value}{p1:Bool}{n1 d1:Nat}{p2:Bool}{n2 d2:Nat}{li hi em:Bool}(h:Iq w v p1 n1 d1 p2 n2 d2 li hi em)(k:KeptB w w' b0)(hb:NoWords w b0):Iq w' v p1 n1 d1 p2 n2 d2 li hi em:=by
 obtain⟨a,n,c,a',n',c',b,m,e,b',m',e',rfl,h1,h2⟩:=h
 exact⟨a,n,c,a',n',c',b,m,e,b',m',e',rfl,h1.keptB k hb,h2.keptB k hb⟩
theorem Iq.own{w:World}{v:Value}{p1:Bool}{n1 d1:Nat}{p2:Bool}{n2 d2:Nat}{li hi em:Bool}(h:Iq w v p1 n1 d1 p2 n2 d2 li hi em):∃V,v= .agg V∧Own 99 V:=by
 obtain⟨a,n,c,a',n',c',b,m,e,b',m',e',rfl,-⟩:=h
 exact⟨_,rfl,⟨by kernel_rfl,by simp[Value.oneCell']⟩⟩
theorem Lk.zero{w w':World}(k:Lk 0 0 w w'):Kept w w':=⟨k.size,fun b hb=>k.old b hb (.inr (Nat.zero_le _)),k.tape,k.os,k.output⟩
def ZQ:Array Value:=#[.bool false,.slice none 0 0,.slice none 0 0,.bool false,.slice none 0 0,.slice none 0 0,.bool false,.bool false,.bool false]
theorem own99{s1:Bool}{a1:Option Addr}{n1 c1:Nat}{a2:Option Addr}{n2 c2:Nat}{s2:Bool}{a3:Option Addr}{n3 c3:Nat}{a4:Option Addr}{n4 c4:Nat}{p q r:Bool}:Own 99 #[.bool s1,.slice a1 n1 c1,.slice a2 n2 c2,.bool s2,.slice a3 n3 c3,.slice a4 n4 c4,.bool p,.bool q,.bool r]:=
 ⟨by kernel_rfl,by simp[Value.oneCell']⟩
theorem ownZQ:Own 99 ZQ:=own99
theorem own97{s1:Bool}{a1:Option Addr}{n1 c1:Nat}{a2:Option Addr}{n2 c2:Nat}:Own 97 #[.bool s1,.slice a1 n1 c1,.slice a2 n2 c2]:=⟨by kernel_rfl,by simp[Value.oneCell']⟩
section
variable{n:Nat}{l:Fm}{ops:Array Oper}{rest:List Oper}{Q:Exit→Act→World→Prop}{oi oj om:Oper}{fuel:Nat}{listed:Array Bool}{w w0:World}{d e e' lo up:Nat}
theorem zregJ{σ:Type}{id:Nat}(L:σ→List (Nat×Value))(I:σ→World→Prop)
 (h:∀Q':Exit→Act→World→Prop,(∀c(a:Act)(t:Array Value) w,Q' (.panic c) ⟨t,a.defers⟩ w→Q' (.panic c) a w)→(∀s l' W,sees l' (L s)→I s W→Q' .normal (frm n l') W)→(Code.region id ops true).wp Tryz.prog Q' (frm n l) w)
 (hQ:∀s l' W,I s W→Q .normal (frm n (look l' (L s))) W)(hp:∀c(a:Act)(t:Array Value) w,Q (.panic c) ⟨t,a.defers⟩ w→Q (.panic c) a w:=by exact fun _ _ _ _ h=>h):(Code.region id ops true).wp Tryz.prog Q (frm n l) w:=
 h Q hp fun s l' W hs hI=>by
   have:=hQ s l' W hI
   rwa [look_eq hs] at this
theorem opC{E:Prop}{K:Act→World→Prop}{P:Value→World→Prop}(f:FuncId)(args:Array Value)(hc:Calls Tryz.prog f args w fun e w'=>∃v,e= .returned v∧P v w'∧Kept w w')(hrun:(execOp (ev n l) oi).run Tryz.prog w= .ok (.enter f args) w)(hg:oi.guard=none∧oi.dst=some d)
 (h:∀v w',P v w'→Kept w w'→K (frm n (upd l d v)) w'):if Region.wanted oi (yielded ops (frm n l).tmps)=true then Oper.wp Tryz.prog oi (frm n l) w K Q else E:=by
 rw[if_pos (by simp[Region.wanted,hg.1])]
 unfold Oper.wp
 rw[frm_eval,hrun]
 refine Calls.mono hc fun x w' hR=> ?_
 obtain⟨v,rfl,hP,hk⟩:=hR
 rw[hg.2]
 simp only[frm_put]
 exact h v w' hP hk
theorem opA{E:Prop}{K:Act→World→Prop}(A:Array Value)(t:TypeId)(hrun:(execOp (frm n l).eval oi).run Tryz.prog w= .ok (.value (.pointer (some ⟨w.heap.size,0,none⟩))) (w.alloc (.cells A t)))(hg:oi.guard=none∧oi.dst=some d)
 (h:∀W g,g=w.heap.size→Kept w W→Blk W g A t→K (frm n (upd l d (.pointer (some ⟨g,0,none⟩)))) W):if Region.wanted oi (yielded ops (frm n l).tmps)=true then Oper.wp Tryz.prog oi (frm n l) w K Q else E:=by
 rw[if_pos (by simp[Region.wanted,hg.1])]
 unfold Oper.wp
 rw[hrun]
 simp only[Oper.upon,hg.2,frm_put]
 exact h _ _ rfl ((Kept.refl w).alloc _) (Blk.new w A t)
theorem y2ca{P:Value→World→Prop}(i j:Nat)(f:FuncId)(args:Array Value)(A:Array Value)(t:TypeId)(hS:Lk lo up w0 w)(hc:Calls Tryz.prog f args w fun e w'=>∃v,e= .returned v∧P v w'∧Kept w w')
 (h1:∀v W,P v W→Kept w W→Lk lo up w0 W→wpAnyH Tryz.prog .any ops Q (Lk lo up w0) fuel (listed.setIfInBounds i true) (frm n (upd l d v)) W)
 (h2:∀W g,g=w.heap.size→Kept w W→Blk W g A t→Lk lo up w0 W→wpAnyH Tryz.prog .any ops Q (Lk lo up w0) fuel (listed.setIfInBounds j true) (frm n (upd l e (.pointer (some ⟨g,0,none⟩)))) W)
 (hi:ops[i]? =some oi:=by rfl)(hj:ops[j]? =some oj:=by rfl)(hrun:(execOp (ev n l) oi).run Tryz.prog w= .ok (.enter f args) w:=by kernel_rfl)(hal:(execOp (frm n l).eval oj).run Tryz.prog w= .ok (.value (.pointer (some ⟨w.heap.size,0,none⟩))) (w.alloc (.cells A t)):=by kernel_rfl)
 (hg:oi.guard=none∧oi.dst=some d:=by exact⟨rfl,rfl⟩)(hg2:oj.guard=none∧oj.dst=some e:=by exact⟨rfl,rfl⟩)(hr:Region.ready .any ops listed=[i,j]:=by kernel_rfl):wpAnyH Tryz.prog .any ops Q (Lk lo up w0) (fuel+1) listed (frm n l) w:=
 rd2 i j (fun _ hK=>opC f args hc hrun hg fun v W hv k=>hK.out _ _ (hS.kept k) fun hl=>h1 v W hv k hl) (fun _ hK=>opA A t hal hg2 fun W g eg k b=>hK.out _ _ (hS.kept k) fun hl=>h2 W g eg k b hl) hi hj hr
theorem y3caa{P:Value→World→Prop}(i j m:Nat)(f:FuncId)(args:Array Value)(A:Array Value)(t:TypeId)(hS:Lk lo up w0 w)(hc:Calls Tryz.prog f args w fun e w'=>∃v,e= .returned v∧P v w'∧Kept w w')
 (h1:∀v W,P v W→Kept w W→Lk lo up w0 W→wpAnyH Tryz.prog .any ops Q (Lk lo up w0) fuel (listed.setIfInBounds i true) (frm n (upd l d v)) W)
 (h2:∀W g,g=w.heap.size→Kept w W→Blk W g A t→Lk lo up w0 W→wpAnyH Tryz.prog .any ops Q (Lk lo up w0) fuel (listed.setIfInBounds j true) (frm n (upd l e (.pointer (some ⟨g,0,none⟩)))) W)
 (h3:∀W g,g=w.heap.size→Kept w W→Blk W g A t→Lk lo up w0 W→wpAnyH Tryz.prog .any ops Q (Lk lo up w0) fuel (listed.setIfInBounds m true) (frm n (upd l e' (.pointer (some ⟨g,0,none⟩)))) W)
 (hi:ops[i]? =some oi:=by rfl)(hj:ops[j]? =some oj:=by rfl)(hm:ops[m]? =some om:=by rfl)(hrun:(execOp (ev n l) oi).run Tryz.prog w= .ok (.enter f args) w:=by kernel_rfl)(hal:(execOp (frm n l).eval oj).run Tryz.prog w= .ok (.value (.pointer (some ⟨w.heap.size,0,none⟩))) (w.alloc (.cells A t)):=by kernel_rfl)(ham:(execOp (frm n l).eval om).run Tryz.prog w= .ok (.value (.pointer (some ⟨w.heap.size,0,none⟩))) (w.alloc (.cells A t)):=by kernel_rfl)
 (hg:oi.guard=none∧oi.dst=some d:=by exact⟨rfl,rfl⟩)(hg2:oj.guard=none∧oj.dst=some e:=by exact⟨rfl,rfl⟩)(hg3:om.guard=none∧om.dst=some e':=by exact⟨rfl,rfl⟩)(hr:Region.ready .any ops listed=[i,j,m]:=by kernel_rfl):wpAnyH Tryz.prog .any ops Q (Lk lo up w0) (fuel+1) listed (frm n l) w:=
 wpAnyH_ready hr (by simp) (AllReadyH.cons hi (fun _ hK=>opC f args hc hrun hg fun v W hv k=>hK.out _ _ (hS.kept k) fun hl=>h1 v W hv k hl) (AllReadyH.cons hj (fun _ hK=>opA A t hal hg2 fun W g eg k b=>hK.out _ _ (hS.kept k) fun hl=>h2 W g eg k b hl)
  (AllReadyH.cons hm (fun _ hK=>opA A t ham hg3 fun W g eg k b=>hK.out _ _ (hS.kept k) fun hl=>h3 W g eg k b hl) AllReadyH.nil)))
end
set_option maxHeartbeats 8000000
set_option maxRecDepth 100000
theorem isame_calls{w:World}{v u:Value}{i j:IvD}(h:Ivl w v i)(h':Ivl w u j)(hf:i.fine=true)(hf':j.fine=true)(hv:i.void=false)(hv':j.void=false):
 Calls Tryz.prog 133 #[v,u] w fun e w'=>e= .returned (.bool (sameI i j))∧Kept w w':=by
 have hr1:=fun(w':World)(k:Kept w w')=>iof_nv (h.kept k) hf hv
 have hr2:=fun(w':World)(k:Kept w w')=>iof_nv (h'.kept k) hf' hv'
 obtain⟨B1,B2,B3,B4⟩:=ends_sm hf
 obtain⟨C1,C2,C3,C4⟩:=ends_sm hf'
 obtain⟨a1,n1,c1,a2,n2,c2,a3,n3,c3,a4,n4,c4,rfl,-⟩:=h
 obtain⟨b1,m1,d1,b2,m2,d2,b3,m3,d3,b4,m4,d4,rfl,-⟩:=h'
 refine entL [_,_] 51 Tryz.func133 rfl Tryz.ntmps133 (by simp) ?_
 iterate 3 go_step
 refine zb fun w1 g1 e1 k1 p1 s1=> ?_
 refine zb fun w2 g2 e2 k2 p2 s2=> ?_
 refine zz ?_
 replace p1:=p1.kept k2
 have K:=k1.trans k2
 clear k1 k2 hf hf' hv hv'
 iterate 4 go_step
 refine zregJ (σ:=Nat×Nat×Value×Value) (fun s=>[(5,.pointer (some ⟨s.1,0,none⟩)),(6,.pointer (some ⟨s.2.1,0,none⟩))])
  (fun s W=>Kept w W∧(∃U V,s.2.2.1= .agg U∧s.2.2.2= .agg V∧Blk W s.1 U 99∧Blk W s.2.1 V 99)∧Iq W s.2.2.1 (loS i) (loN i) (loD i) (hiS i) (hiN i) (hiD i) i.li i.hi false∧Iq W s.2.2.2 (loS j) (loN j) (loD j) (hiS j) (hiN j) (hiD j) j.li j.hi false) (fun Q hp hj=> ?_) (fun ⟨g,g',U,V⟩ l W ⟨K,⟨U',V',hU,hV,bu,bv⟩,hu,hv⟩=> ?_)
 ·refine drawn 0 0 fun hS=> ?_
  have hz:∀{b:Nat},b<0∨0≤b:=.inr (Nat.zero_le _)
  refine yl 0 p1.range hz own39 hS ?_ (hQ:=fun c a w=>hp c a _ w)
  refine yl 2 p2.range hz own39 hS ?_ (hQ:=fun c a w=>hp c a _ w)
  clear p1 p2
  have hz:=hS.size
  refine y3caa 1 4 5 47 _ ZQ 99 hS (hr1 _ (K.trans hS.zero)) (fun u W hu k hS=> ?_) (fun W g eg k bg hS=> ?_) (fun W g' eg k bg' hS=> ?_)
  have hz:=hS.size
  refine y3caa 3 4 5 47 _ ZQ 99 hS (hr2 _ (K.trans hS.zero)) (fun v W hv k hS=> ?_) (fun W g eg k bg hS=> ?_) (fun W g' eg k bg' hS=> ?_)
  replace hu:=hu.kept k
  have hz:=hS.size
  refine ya2 4 5 ZQ 99 hS fun W g g' hne q q' k bg bg' hS=> ?_
  have hg:w2.heap.size≤g:=by omega
  have hg':w2.heap.size≤g':=by omega
  replace hu:=hu.kept k
  replace hv:=hv.kept k
  rotate_left 1
  have hg:w2.heap.size≤g:=by omega
  replace hu:=hu.kept k
  have hz:=hS.size
  refine y2ca 3 5 47 _ ZQ 99 hS (hr2 _ (K.trans hS.zero)) (fun v W hv k hS=> ?_) (fun W g' eg k bg' hS=> ?_)
  replace hu:=hu.kept k
  replace bg:=bg.kept k
  have hz:=hS.size
  refine ya 5 ZQ 99 hS fun W g' eg k bg' _ hS=> ?_
  have hg':w2.heap.size≤g':=by omega
  have hne:g≠g':=by have:=bg.lt;omega
  replace hu:=hu.kept k
  replace bg:=bg.kept k
  replace hv:=hv.kept k
  rotate_left 1
  have hg':w2.heap.size≤g':=by omega
  have hne:g≠g':=by have:=bg.lt;omega
  replace hu:=hu.kept k
  replace bg:=bg.kept k
  have hz:=hS.size
  refine yc 3 47 _ hS (hr2 _ (K.trans hS.zero)) fun e W ⟨v,he,hv,k⟩=>⟨k,v,he,fun hS=> ?_⟩
  replace hu:=hu.kept k
  replace bg:=bg.kept k
  replace bg':=bg'.kept k
  rotate_left 1
  have hg':w2.heap.size≤g':=by omega
  replace hu:=hu.kept k
  have hz:=hS.size
  refine y2ca 3 4 47 _ ZQ 99 hS (hr2 _ (K.trans hS.zero)) (fun v W hv k hS=> ?_) (fun W g eg k bg hS=> ?_)
  replace hu:=hu.kept k
  replace bg':=bg'.kept k
  have hz:=hS.size
  refine ya 4 ZQ 99 hS fun W g eg k bg _ hS=> ?_
  have hg:w2.heap.size≤g:=by omega
  have hne:g≠g':=by have:=bg'.lt;omega
  replace hu:=hu.kept k
  replace bg':=bg'.kept k
  replace hv:=hv.kept k
  rotate_left 1
  have hg:w2.heap.size≤g:=by omega
  have hne:g≠g':=by have:=bg'.lt;omega
  replace hu:=hu.kept k
  replace bg':=bg'.kept k
  have hz:=hS.size
  refine yc 3 47 _ hS (hr2 _ (K.trans hS.zero)) fun e W ⟨v,he,hv,k⟩=>⟨k,v,he,fun hS=> ?_⟩
  replace hu:=hu.kept k
  replace bg':=bg'.kept k
  replace bg:=bg.kept k
  rotate_left 1
  have hg:w2.heap.size≤g:=by omega
  have hz:=hS.size
  refine y2ca 1 5 47 _ ZQ 99 hS (hr1 _ (K.trans hS.zero)) (fun u W hu k hS=> ?_) (fun W g' eg k bg' hS=> ?_)
  replace bg:=bg.kept k
  have hz:=hS.size
  refine y2ca 3 5 47 _ ZQ 99 hS (hr2 _ (K.trans hS.zero)) (fun v W hv k hS=> ?_) (fun W g' eg k bg' hS=> ?_)
  replace bg:=bg.kept k
  replace hu:=hu.kept k
  have hz:=hS.size
  refine ya 5 ZQ 99 hS fun W g' eg k bg' _ hS=> ?_
  have hg':w2.heap.size≤g':=by omega
  have hne:g≠g':=by have:=bg.lt;omega
  replace bg:=bg.kept k
  replace hu:=hu.kept k
  replace hv:=hv.kept k
  rotate_left 1
  have hg':w2.heap.size≤g':=by omega
  have hne:g≠g':=by have:=bg.lt;omega
  replace bg:=bg.kept k
  replace hu:=hu.kept k
  have hz:=hS.size
  refine yc 3 47 _ hS (hr2 _ (K.trans hS.zero)) fun e W ⟨v,he,hv,k⟩=>⟨k,v,he,fun hS=> ?_⟩
  replace bg:=bg.kept k
  replace hu:=hu.kept k
  replace bg':=bg'.kept k
  rotate_left 1
  have hg':w2.heap.size≤g':=by omega
  have hne:g≠g':=by have:=bg.lt;omega
  replace bg:=bg.kept k
  have hz:=hS.size
  refine yc 1 47 _ hS (hr1 _ (K.trans hS.zero)) fun e W ⟨u,he,hu,k⟩=>⟨k,u,he,fun hS=> ?_⟩
  replace bg:=bg.kept k
  replace bg':=bg'.kept k
  have hz:=hS.size
  refine yc 3 47 _ hS (hr2 _ (K.trans hS.zero)) fun e W ⟨v,he,hv,k⟩=>⟨k,v,he,fun hS=> ?_⟩
  replace bg:=bg.kept k
  replace bg':=bg'.kept k
  replace hu:=hu.kept k
  rotate_left 1
  have hg':w2.heap.size≤g':=by omega
  have hz:=hS.size
  refine y2ca 1 4 47 _ ZQ 99 hS (hr1 _ (K.trans hS.zero)) (fun u W hu k hS=> ?_) (fun W g eg k bg hS=> ?_)
  replace bg':=bg'.kept k
  have hz:=hS.size
  refine y2ca 3 4 47 _ ZQ 99 hS (hr2 _ (K.trans hS.zero)) (fun v W hv k hS=> ?_) (fun W g eg k bg hS=> ?_)
  replace bg':=bg'.kept k
  replace hu:=hu.kept k
  have hz:=hS.size
  refine ya 4 ZQ 99 hS fun W g eg k bg _ hS=> ?_
  have hg:w2.heap.size≤g:=by omega
  have hne:g≠g':=by have:=bg'.lt;omega
  replace bg':=bg'.kept k
  replace hu:=hu.kept k
  replace hv:=hv.kept k
  rotate_left 1
  have hg:w2.heap.size≤g:=by omega
  have hne:g≠g':=by have:=bg'.lt;omega
  replace bg':=bg'.kept k
  replace hu:=hu.kept k
  have hz:=hS.size
  refine yc 3 47 _ hS (hr2 _ (K.trans hS.zero)) fun e W ⟨v,he,hv,k⟩=>⟨k,v,he,fun hS=> ?_⟩
  replace bg':=bg'.kept k
  replace hu:=hu.kept k
  replace bg:=bg.kept k
  rotate_left 1
  have hg:w2.heap.size≤g:=by omega
  have hne:g≠g':=by have:=bg'.lt;omega
  replace bg':=bg'.kept k
  have hz:=hS.size
  refine yc 1 47 _ hS (hr1 _ (K.trans hS.zero)) fun e W ⟨u,he,hu,k⟩=>⟨k,u,he,fun hS=> ?_⟩
  replace bg':=bg'.kept k
  replace bg:=bg.kept k
  have hz:=hS.size
  refine yc 3 47 _ hS (hr2 _ (K.trans hS.zero)) fun e W ⟨v,he,hv,k⟩=>⟨k,v,he,fun hS=> ?_⟩
  replace bg':=bg'.kept k
  replace bg:=bg.kept k
  replace hu:=hu.kept k
  rotate_left 1
  all_goals
   obtain⟨U,rfl,oU⟩:=hu.own
   obtain⟨V,rfl,oV⟩:=hv.own
   have n6:=bg.noWords rfl
   refine yt 6 bg ownZQ oU (.inr hg) hS fun W k6 b6 hS=> ?_
   replace bg':=bg'.keptB k6 (Ne.symm hne)
   have n7:=bg'.noWords rfl
   refine yt 7 bg' ownZQ oV (.inr hg') hS fun W k7 b7 hS=>yend ?_
   exact hj (g,g',.agg U,.agg V) _ _ ⟨rfl,rfl,trivial⟩ ⟨K.trans hS.zero,⟨U,V,rfl,rfl,b6.keptB k7 hne,b7⟩,(hu.keptB k6 n6).keptB k7 n7,(hv.keptB k6 n6).keptB k7 n7⟩
 simp only at hU hV hu hv bu bv
 subst hU
 subst hV
 obtain⟨x1,x2,x3,x4,x5,x6,x7,x8,x9,xa,xb,xc,e1,q1,q2⟩:=hu
 obtain⟨y1,y2,y3,y4,y5,y6,y7,y8,y9,ya,yb,yc,e2,q3,q4⟩:=hv
 cases e1
 cases e2
 iterate 5 go_step
 refine zz ?_
 refine zl1 (bu.cell 8 rfl) ?_
 refine zz ?_
 refine zwant ?_
 refine zz ?_
 refine zwant ?_
 refine zl1 (bv.cell 8 rfl) ?_
 refine zz ?_
 iterate 3 go_step
 refine zt_false ?_
 iterate 5 go_step
 refine zz ?_
 refine zl1 (bu.cell 6 rfl) ?_
 refine zz ?_
 refine zl1 (bv.cell 6 rfl) ?_
 refine z2 (.bool (i.li==j.li)) ?_
 refine zz ?_
 cases h1:(i.li==j.li)
 case' false=>
  iterate 5 refine zskip ?_
  iterate 2 refine zz ?_
  iterate 6 refine zskip ?_
  iterate 2 refine zz ?_
  iterate 6 refine zskip ?_
  iterate 2 refine zz ?_
  iterate 5 go_step
  exact zretT ⟨by rw[sameI,h1],K⟩
 refine zwant ?_
 refine zz ?_
 refine zwant ?_
 refine zl1 (bu.cell 7 rfl) ?_
 refine zwant ?_
 refine zz ?_
 refine zwant ?_
 refine zl1 (bv.cell 7 rfl) ?_
 refine zwant ?_
 refine z2 (.bool (i.hi==j.hi)) ?_
 iterate 2 refine zz ?_
 cases h2:(i.hi==j.hi)
 case' false=>
  iterate 6 refine zskip ?_
  iterate 2 refine zz ?_
  iterate 6 refine zskip ?_
  iterate 2 refine zz ?_
  iterate 5 go_step
  exact zretT ⟨by rw[sameI,h1,h2],K⟩
 refine zwant ?_
 refine zz ?_
 refine zwant ?_
 refine zl (V:=#[_,_,_]) (bu.part 0) own97 ?_
 refine zwant ?_
 refine zz ?_
 refine zwant ?_
 refine zl (V:=#[_,_,_]) (bv.part 0) own97 ?_
 refine zwant ?_
 refine zc 126 _ (qcmp_calls q1 q3 B1 B2 C1 C2) ?_
 rintro e W2 ⟨rfl,k⟩
 refine⟨_,rfl,?_⟩
 refine zwant ?_
 refine z2 (.bool (qcmp (loS i) (loN i) (loD i) (loS j) (loN j) (loD j)==0)) ?_
 iterate 2 refine zz ?_
 cases h3:(qcmp (loS i) (loN i) (loD i) (loS j) (loN j) (loD j)==0)
 case' false=>
  iterate 6 refine zskip ?_
  iterate 2 refine zz ?_
  iterate 5 go_step
  exact zretT ⟨by rw[sameI,h1,h2,h3],K.trans k⟩
 replace K:=K.trans k
 replace bu:=bu.kept k
 replace bv:=bv.kept k
 refine zwant ?_
 refine zz ?_
 refine zwant ?_
 refine zl (V:=#[_,_,_]) (bu.part 3) own97 ?_
 refine zwant ?_
 refine zz ?_
 refine zwant ?_
 refine zl (V:=#[_,_,_]) (bv.part 3) own97 ?_
 refine zwant ?_
 refine zc 126 _ (qcmp_calls (q2.kept k) (q4.kept k) B3 B4 C3 C4) ?_
 rintro e W2 ⟨rfl,k⟩
 refine⟨_,rfl,?_⟩
 refine zwant ?_
 refine z2 (.bool (qcmp (hiS i) (hiN i) (hiD i) (hiS j) (hiN j) (hiD j)==0)) ?_
 iterate 2 refine zz ?_
 iterate 5 go_step
 exact zretT ⟨by rw[sameI,h1,h2,h3],K.trans k⟩
end Go.Proofs.YtbapfnpbamnmpaaGreatDoor
