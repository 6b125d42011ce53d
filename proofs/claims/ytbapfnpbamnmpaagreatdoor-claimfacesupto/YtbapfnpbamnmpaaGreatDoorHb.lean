/- A part of the proof that ClaimFaces answers true for every input of bulk at most 1048576: conditions: the row's own. -/
import Derived.Test.YtbapfnpbamnmpaaGreatDoorHa
import Derived.Test.YtbapfnpbamnmpaaGreatDoorGz
namespace Go.Proofs.YtbapfnpbamnmpaaGreatDoor
section
open Go Go.RowKit Go.Dig
mutual
def substT(nm:ByteArray)(L:Tree):Tree→Tree
 | .node op arg s N D name kids=>if op=2∧name=nm then L else .node op arg s N D name (substTs nm L kids)
def substTs(nm:ByteArray)(L:Tree):List Tree→List Tree
 |[]=>[]
 |t::ts=>substT nm L t::substTs nm L ts
end
theorem substTs_map(nm:ByteArray)(L:Tree):∀(ts:List Tree),substTs nm L ts=ts.map (substT nm L)
 |[]=>by rw[substTs];rfl
 |t::ts=>by rw[substTs,substTs_map nm L ts];rfl
theorem substTs_length(nm:ByteArray)(L:Tree)(ts:List Tree):(substTs nm L ts).length=ts.length:=by rw[substTs_map,List.length_map]
mutual
theorem vars_subst{nm:ByteArray}{L:Tree}{x:ByteArray}:∀(t:Tree),x∈varsT (substT nm L t)→x∈varsT L∨(x∈varsT t∧x≠nm)
 | .node op arg s N D name kids=>by
   intro h
   rw[substT] at h
   split at h
   ·exact .inl h
   ·rename_i h0
    rw[varsT] at h⊢
    by_cases h2:op=2
    ·rw[if_pos h2] at h⊢
     refine .inr ⟨h,fun e=>h0 ⟨h2,?_⟩⟩
     rw[←e]
     exact(List.mem_singleton.1 h).symm
    ·rw[if_neg h2] at h⊢
     exact varsL_subst kids h
theorem varsL_subst{nm:ByteArray}{L:Tree}{x:ByteArray}:∀(ts:List Tree),x∈varsL (substTs nm L ts)→x∈varsT L∨(x∈varsL ts∧x≠nm)
 |[]=>by intro h;rw[substTs,varsL] at h;cases h
 |t::ts=>by
  intro h
  rw[substTs,varsL] at h
  rw[varsL]
  rcases List.mem_append.1 h with h|h
  ·rcases vars_subst t h with h|⟨h,e⟩
   ·exact .inl h
   ·exact .inr ⟨List.mem_append_left _ h,e⟩
  ·rcases varsL_subst ts h with h|⟨h,e⟩
   ·exact .inl h
   ·exact .inr ⟨List.mem_append_right _ h,e⟩
end
theorem well_num{N D:Nat}(h:small N D=true):wellT (numT (rN N D) (rD N D)):=by
 unfold numT
 rw[cd1_can]
 refine⟨?_,trivial⟩
 have e1:kidsI 1=((0:Nat):Int):=by decide
 have e2:argOk 1 0=true:=by decide
 unfold nodeOk
 rw[List.length_nil,e1,e2,if_pos rfl,small_can h]
 rfl
theorem well_lit{s:Bool}{N D:Nat}(h:small N D=true):wellT (litT s (rN N D) (rD N D)):=by
 unfold litT
 cases s
 ·exact well_num h
 ·refine⟨?_,well_num h,trivial⟩
  show nodeOk 4 0 false 0 0 ⟨#[]⟩ 1=true
  decide
theorem vars_lit{s:Bool}{n d:Nat}:varsT (litT s n d)=[]:=by
 unfold litT negT numT
 cases s<;>simp[varsT,varsL]
end
section
open Go Go.RowKit Go.Dig Go.Deep
open Go.Eng (Kept KW KeptB wp_region_kw kw_call)
def uni(V W:World):World:={W with heap:=V.heap++W.heap.extract V.heap.size W.heap.size}
theorem cell_uni(V W:World)(a:Addr):(uni V W).cell? a=if a.block<V.heap.size then V.cell? a else W.cell? a:=by
 have e:(uni V W).heap[a.block]? =if a.block<V.heap.size then V.heap[a.block]? else W.heap[a.block]? :=by
  show(V.heap++W.heap.extract V.heap.size W.heap.size)[a.block]? =_
  by_cases h:a.block<V.heap.size
  ·rw[if_pos h,Array.getElem?_append_left h]
  ·rw[if_neg h,Array.getElem?_append_right (by omega),Array.getElem?_extract]
   by_cases h2:a.block<W.heap.size
   ·rw[if_pos (by omega)]
    congr 1
    omega
   ·rw[if_neg (by omega),Array.getElem?_eq_none (by omega)]
 by_cases h:a.block<V.heap.size
 ·rw[if_pos h] at e⊢
  unfold World.cell?
  rw[e]
 ·rw[if_neg h] at e⊢
  unfold World.cell?
  rw[e]
theorem uni_sub{V W W':World}(k:Sub W W'):Sub (uni V W) (uni V W'):=fun a v h=>by
 rw[cell_uni] at h⊢
 split
 ·rename_i h1;rw[if_pos h1] at h;exact h
 ·rename_i h1;rw[if_neg h1] at h;exact k a v h
theorem uni_out{w w':World}{S:Nat→Bool}{N:Nat}(k:∀b,b<w.heap.size→S b=true→w'.heap[b]? =w.heap[b]?)(_:w.heap.size≤N):Sub (uni (onlyW w S) (onlyW w' (ab N))) (onlyW w' (nxt S w.heap.size)):=fun a v h=>by
 rw[cell_uni] at h
 have hs:(onlyW w S).heap.size=w.heap.size:=by simp[onlyW]
 rw[hs] at h
 split at h
 ·rename_i h1
  rw[cell_only] at h⊢
  split at h
  ·rename_i h2
   rw[if_pos (nxt_old h2)]
   unfold World.cell? at h⊢
   rw[k _ h1 h2]
   exact h
  ·cases h
 ·rename_i h1
  rw[cell_only] at h⊢
  split at h
  ·rename_i h2
   unfold ab at h2
   have:=of_decide_eq_true h2
   rw[if_pos (nxt_new (by omega))]
   exact h
  ·cases h
theorem uni_in{w w':World}{S:Nat→Bool}{M:Nat}(k:∀b,b<w.heap.size→S b=true→w'.heap[b]? =w.heap[b]?)(hM:w.heap.size≤M):Sub (onlyW w' (nxt (fun b=>S b&&decide (b<w.heap.size)) M)) (uni (onlyW w S) (onlyW w' (ab M))):=fun a v h=>by
 have hs:(onlyW w S).heap.size=w.heap.size:=by simp[onlyW]
 rw[cell_uni,hs]
 rw[cell_only] at h
 split at h
 ·rename_i h2
  unfold nxt at h2
  simp only[Bool.or_eq_true,Bool.and_eq_true,decide_eq_true_eq] at h2
  rcases h2 with⟨h2,h3⟩|h2
  ·rw[if_pos h3,cell_only,if_pos h2]
   unfold World.cell? at h⊢
   rw[←k _ h3 h2]
   exact h
  ·rw[if_neg (by omega),cell_only,if_pos (by unfold ab;exact decide_eq_true h2)]
   exact h
 ·cases h
theorem old_in{w w':World}{S:Nat→Bool}(k:∀b,b<w.heap.size→S b=true→w'.heap[b]? =w.heap[b]?):Sub (onlyW w S) (onlyW w' (fun b=>S b&&decide (b<w.heap.size))):=only_move fun b hb hs=>⟨by simp[hb,hs],k b hb hs⟩
def kidU(V:World)(f:Nat):World→List Value→Tree→Prop:=fun W l t=>Ex (uni V W) f (.agg l.toArray) t
theorem kidU_sub(V:World)(f:Nat):∀w w',Sub w w'→∀l t,kidU V f w l t→kidU V f w' l t:=fun _ _ k _ _ h=>h.sub (uni_sub k)
theorem zgrowB{n:Nat}{l:Fm}{ops:Array Oper}{rest:List Oper}{Q:Exit→Act→World→Prop}{w:World}{α:Type}{W0:World}{g3 t sz by_ k cap3:Nat}{z:Value}{st tv:TypeId}{R:World→List Value→α→Prop}{ts:List α}{a3:Option Addr}{cs:List Value}{V Y:Array Value}{T:Nat→Bool}{ob oa:Oper}{db da s:Tmp}
 (hi0:InfoIs t z sz by_)(hz:z.cells.size=sz)(hsz:0<sz)(hby:by_≤1024)(hst:Tryz.prog.underlying st=some (.slice t))
 (G:Grow W0 w g3 t sz (.slice a3 k cap3) k cs R ts)(hR:∀w w',Sub w w'→∀l t,R w l t→R w' l t)(b3:Blk w g3 Y tv)(hg3:g3<W0.heap.size)(oV:V.all (·.oneCell')=true)(hV:V.size=sz)(hk:k<ts.length)(hkb:k+1≤1099511627)
 (hr:R (onlyW w T) V.toList ts[k])(hT:∀b,T b=true→W0.heap.size≤b∧some b≠(Value.slice a3 k cap3).ownBlock)
 (hbs:(execOp (ev n l) ob).run Tryz.prog w= .ok (.value (.slice (some ⟨w.heap.size,0,none⟩) 1 1)) (w.alloc (.cells V t)))
 (h:∀w' a' cap',Grow W0 w' g3 t sz (.slice a' (k+1) cap') (k+1) (cs++V.toList) R ts→Blk w' g3 Y tv→wpList Tryz.prog ops Q rest (frm n (upd (upd l db (.slice (some ⟨w.heap.size,0,none⟩) 1 1)) da (.slice a' (k+1) cap'))) w')
 (hg1:ob.guard=none:=by rfl)(hd1:ob.dst=some db:=by rfl)
 (hop2:oa.op= .call {callee:=.builtin .append,args:=#[.tmp s,.tmp db],argTypes:=#[st,st]}∧oa.guard=none∧oa.dst=some da:=by exact⟨rfl,rfl,rfl⟩)
 (hs:opv n l (.tmp s)=some (.slice a3 k cap3):=by rfl)(hne:s≠db∧db<n:=by decide):
 wpList Tryz.prog ops Q (ob::oa::rest) (frm n l) w:=by
 obtain⟨n1,n4⟩:=hne
 refine zv _ (by rw[frm_eval];exact hbs) hg1 hd1 ?_
 have kW:Kept w (w.alloc (.cells V t)):=(Kept.refl w).alloc _
 have bW:=Blk.new w V t
 have G2:=G.kept hR kW
 have hsz0:W0.heap.size≤(w.alloc (.cells V t)).heap.size:=G2.kb.size
 have es:opv n (upd l db (.slice (some ⟨w.heap.size,0,none⟩) 1 1)) (.tmp s)=some (.slice a3 k cap3):=by
  rw[←hs];simp only[opv,upd,beq_no n1];rfl
 have eb:opv n (upd l db (.slice (some ⟨w.heap.size,0,none⟩) 1 1)) (.tmp db)=some (.slice (some ⟨w.heap.size,0,none⟩) 1 1):=by
  simp only[opv,upd,Nat.beq_refl,cond_true,show Nat.blt db n=true from Nat.ble_eq_true_of_le n4]
 refine wpList_append_grow hop2.2.1 (.tmp s) (.tmp db) st hop2.1 hi0 hst hz hsz hby W0.heap.size hsz0 _ k cs (opv_eval es) G2.own ⟨w.heap.size,0,none⟩ 1 1 V.toList (opv_eval eb) (by simp[hV]) (blk_news bW) (fun u hu=> ?_) (by decide) hkb (fun v' w' ho hgb hor=> ?_)
 ·rw[Array.all_eq_true] at oV
  obtain⟨x,hx,rfl⟩:=List.getElem_of_mem hu
  exact oV x (by simpa using hx)
 obtain⟨a',cap',rfl,-,-,-⟩:=own_open ho
 rw[hop2.2.2,frm_put]
 have own3:∀g,(Value.slice a3 k cap3).ownBlock=some g→W0.heap.size≤g:=fun g hg=>(World.ownsRow.lt G.own g hg).1
 have b4:=b3.kept kW
 exact h w' a' cap' (G2.append hR hsz0 ho hgb hor (by simpa using hV) hk (hR _ _ (only_keep kW) _ _ hr) hT) ((hgb.block g3 b4.lt (fun he=>by have:=own3 g3 he.symm;omega)).trans b4)
end
section
open Go Go.RowKit Go.Dig Go.Deep
open Go.Eng (Kept KW KeptB wp_region_kw kw_call)
structure Bd(W:World)(gb:Nat)(nm:ByteArray)(VL:Array Value)(L:Tree):Prop where
 name:W.cell? ⟨gb,0,none⟩=some (.string nm)
 rng:W.rangeAt gb 1 VL.toList
 own:Own 27 VL
 ex:Ex W 2 (.agg VL) L
theorem Bd.sub{W W':World}{gb:Nat}{nm:ByteArray}{VL:Array Value}{L:Tree}(h:Bd W gb nm VL L)(k:Sub W W'):Bd W' gb nm VL L:=⟨k _ _ h.name,k.range h.rng,h.own,h.ex.sub k⟩
theorem name_eq{a b:ByteArray}(h:(a.toList==b.toList)=true):b=a:=(bytes_eq h).symm
theorem substTs_get(nm:ByteArray)(L:Tree){ts:List Tree}{k:Nat}(h:k<ts.length):(substTs nm L ts)[k]'(by rw[substTs_length];exact h)=substT nm L ts[k]:=by
 simp only[substTs_map,List.getElem_map]
def SubR(f:Nat):Prop:=∀{w:World}{S:Nat→Bool}{v:Value}{t:Tree}{gb:Nat}{nm:ByteArray}{VL:Array Value}{L:Tree},Ex (onlyW w S) f v t→wellT t→Bd (onlyW w S) gb nm VL L→
    Calls Tryz.prog 164 #[v,.slice (some ⟨gb,0,none⟩) 1 1] w fun e w'=>∃v',e= .returned v'∧Ex (onlyW w' (nxt S w.heap.size)) (f+1) v' (substT nm L t)∧Kept w w'
set_option maxHeartbeats 8000000
set_option maxRecDepth 100000
theorem rsubst_step{f:Nat}(ih:SubR f):SubR (f+1):=by
 intro w S v t gb nm VL L h hN hB
 have hh:=h
 obtain⟨op,arg,s,N,D,name,kids⟩:=t
 obtain⟨x1,x2,x3,x4,x5,x6,a,cap,rfl,hc,hn,hr⟩:=h.shape
 have hn3:kids.length≤3:=node_kids hN.1
 have hk2:op=2→kids=[]:=fun e=>by
  have h1:=hN.1
  unfold nodeOk at h1
  simp only[Bool.and_eq_true,decide_eq_true_eq] at h1
  have h2:=h1.1.1
  rw[e,show kidsI 2=0 by decide] at h2
  exact List.eq_nil_of_length_eq_zero (by omega)
 have HKR:=fun(i:Nat)(hi:i<kids.length)=>h.kidR hi
 have HIH:=fun(i:Nat)(hi:i<kids.length)(w':World)(S':Nat→Bool)(u:Value)(q:Ex (onlyW w' S') f u kids[i])(b:Bd (onlyW w' S') gb nm VL L)=>ih q (wellTs_get hN.2 i hi) b
 clear h ih hN
 refine entL [_,_] 62 Tryz.func164 rfl Tryz.ntmps164 (by simp) ?_
 iterate 3 go_step
 refine zb fun w1 g1 e1 k1 b1 s1=> ?_
 refine za Z7 27 fun w2 g2 e2 k2 b2 s2=> ?_
 replace b1:=b1.kept k2
 have K0:=k1.trans k2
 clear k1 k2
 iterate 6 go_step
 refine zr (.pointer (some ⟨g1,0,none⟩)) ?_
 refine zl1 (b1.cell 0 rfl) ?_
 refine z2 (.bool (decide (op=2))) ?_
 iterate 3 go_step
 by_cases ho:op=2
 ·subst ho
  obtain rfl:=hk2 rfl
  rw[show decide ((2:Int)=2)=true from rfl]
  refine zt_true ?_
  iterate 3 go_step
  refine zz ?_
  iterate 4 go_step
  refine zloop 1 (fun k=>[(1,.slice (some ⟨gb,0,none⟩) 1 1),(2,.pointer (some ⟨g1,0,none⟩)),(4,.pointer (some ⟨g2,0,none⟩)),(5,.int .i64 k)])
   (fun k W=>Kept w2 W∧(k=1→(nm.toList==name.toList)=false)) ⟨rfl,rfl,rfl,rfl,trivial⟩ ⟨Kept.refl w2,fun h=>by omega⟩ fun l wr k hk ⟨hw,hne⟩=> ?_
  replace b1:=b1.kept hw
  replace b2:=b2.kept hw
  replace K0:=K0.trans hw
  iterate 4 go_step
  refine zz ?_
  refine zz ?_
  refine zr (.int .i64 1) ?_
  refine z2 (.bool (decide ((k:Int)<(1:Int)))) ?_
  iterate 3 go_step
  cases hlt:decide ((k:Int)<(1:Int))
  case' false=>
   obtain rfl:k=1:=by have:=of_decide_eq_false hlt;omega
   refine zt_false ?_
   iterate 7 go_step
   refine zl b1.range own7 ?_
   refine zt b2 ownZ own7 fun w3 k3 b3=> ?_
   iterate 6 go_step
   have K:=K0.but k3 (by have:=K0.size;omega)
   refine zret1 b3 own7 ⟨_,rfl,?_,K⟩
   rw[substT,if_neg (fun e=>by have h9:=hne rfl;rw[e.2] at h9;simp at h9),substTs]
   exact(hh.sub (only_nxt K)).up 1
  case' true=>
   obtain rfl:k=0:=by have:=of_decide_eq_true hlt;omega
   refine zt_true ?_
   iterate 6 go_step
   have B:=hB.sub ((only_sub w S).trans (Kept.sub K0))
   refine drawn 0 0 fun hS=> ?_
   refine ym 0 hS ?_
   refine ym 1 hS ?_
   refine yr 2 (.pointer (some ⟨gb,0,none⟩)) hS ?_
   refine yr 3 (.pointer (some ⟨gb,0,none⟩)) hS ?_
   refine yl1 4 ((Kept.refl wr).drew.cell B.name) (.inr (Nat.zero_le _)) hS ?_
   refine yr 5 (.pointer (some ⟨g1,5,none⟩)) hS ?_
   refine yl1 6 (b1.cell 5 rfl) (.inr (Nat.zero_le _)) hS ?_
   refine yr 7 (.bool (nm.toList==name.toList)) hS ?_
   refine yend ?_
   have kd:=(Kept.refl wr).drew
   replace B:=B.sub (Kept.sub kd)
   replace b2:=b2.kept kd
   iterate 2 go_step
   cases hq:(nm.toList==name.toList)
   case' true=>
    refine zt_true ?_
    iterate 2 go_step
    refine zz ?_
    refine zz ?_
    refine zi (s:=8) (m:=1) 0 (by decide) ?_
    refine zr (.pointer (some ⟨gb,1,none⟩)) ?_
    refine zl B.rng B.own ?_
    refine zt b2 ownZ B.own fun w3 k3 b3=> ?_
    iterate 8 go_step
    have K:=(K0.trans kd).but k3 (by have:=K0.size;omega)
    refine zret1 b3 B.own ⟨_,rfl,?_,K⟩
    rw[substT,if_pos ⟨rfl,name_eq hq⟩]
    exact(hB.ex.sub (only_nxt K)).upTo (by omega)
   refine zt_false ?_
   iterate 4 go_step
   refine zz ?_
   refine z2 (.int .i64 ((0+1:Nat):Int)) (hrun:=run_inc (by omega)) ?_
   refine zz ?_
   iterate 3 go_step
   exact⟨_,rfl,Nat.le_refl _,⟨rfl,rfl,rfl,rfl,trivial⟩,hw.trans kd,fun _=>hq⟩
 ·rw[show decide (op=2)=false from decide_eq_false ho]
  refine zt_false ?_
  iterate 5 go_step
  refine zr (.pointer (some ⟨g1,0,none⟩)) ?_
  refine zl1 (b1.cell 0 rfl) ?_
  refine zr (.pointer (some ⟨g1,1,none⟩)) ?_
  refine zl1 (b1.cell 1 rfl) ?_
  refine zr (.pointer (some ⟨g1,2,none⟩)) ?_
  refine zl (b1.part 2) own3 ?_
  refine zr (.pointer (some ⟨g1,5,none⟩)) ?_
  refine zl1 (b1.cell 5 rfl) ?_
  refine zr (.agg #[.int .i64 op,.int .i64 arg,.bool s,.slice x1 x2 x3,.slice x4 x5 x6,.string name,.slice none 0 0]) ?_
  refine za Z7 27 fun w3 g3 e3 k3 b3 s3=> ?_
  refine zt b3 ownZ own7 fun W0 k4 b3=> ?_
  have K3:=k3.but k4 (by omega)
  replace K0:=K0.trans K3
  replace b1:=b1.kept K3
  replace b2:=b2.kept K3
  have q0:=K3.size
  have hg30:=b3.lt
  have hg20:=b2.lt
  have hws:=(show w.heap.size≤w2.heap.size by omega)
  clear K3 k3 k4 s3
  iterate 6 go_step
  refine zz ?_
  iterate 4 go_step
  refine zloop kids.length (fun k=>[(1,.slice (some ⟨gb,0,none⟩) 1 1),(2,.pointer (some ⟨g1,0,none⟩)),(4,.pointer (some ⟨g2,0,none⟩)),(6,.pointer (some ⟨g3,0,none⟩)),(7,.int .i64 k)])
   (fun k W=>∃a3 cap3 cs,Grow W0 W g3 27 7 (.slice a3 k cap3) k cs (kidU (onlyW w S) (f+1)) (substTs nm L kids)∧Blk W g3 #[.int .i64 op,.int .i64 arg,.bool s,.slice x1 x2 x3,.slice x4 x5 x6,.string name,.slice a3 k cap3] 27) ⟨rfl,rfl,rfl,rfl,rfl,trivial⟩ ⟨none,0,[],Grow.start ..,b3⟩ fun l wr k hk ⟨a3,cap3,cs,G,b3⟩=> ?_
  have hsz:=G.kb.size
  have own:=fun g hg=>World.ownsRow.lt G.own g hg
  have kr:Kept w wr:=K0.but G.kb (by omega)
  replace b1:=b1.keptB G.kb (by omega)
  iterate 4 go_step
  refine zz ?_
  refine zr (.pointer (some ⟨g1,6,none⟩)) ?_
  refine zl1 (b1.cell 6 rfl) ?_
  refine zr (.int .i64 kids.length) ?_
  refine z2 (.bool (decide ((k:Int)<(kids.length:Int)))) ?_
  iterate 3 go_step
  cases hlt:decide ((k:Int)<(kids.length:Int))
  case' true=>
   have hlt:k<kids.length:=by have:=of_decide_eq_true hlt;omega
   obtain⟨b,off,V,rfl,rV,oV,xV⟩:=HKR k hlt
   refine zt_true ?_
   iterate 7 go_step
   refine zr (.pointer (some ⟨g1,6,none⟩)) ?_
   refine zl1 (b1.cell 6 rfl) ?_
   refine zz ?_
   refine zi (s:=7) k hlt ?_
   refine zl (((only_sub w S).trans (Kept.sub kr)).range rV) oV ?_
   refine zz ?_
   have hol:=old_in (S:=S) fun b hb _=>kr.old b hb
   refine zc 164 _ (HIH k hlt wr _ _ (xV.sub hol) (hB.sub hol)) ?_
   rintro e wa ⟨v1,rfl,xv,ka⟩
   obtain⟨X,rfl,oX⟩:=xv.own
   refine⟨_,rfl,?_⟩
   refine za Z7 27 fun wb g5 e5 kb b5 sb=> ?_
   refine zt b5 ownZ oX fun wc kc b5=> ?_
   have qa:=ka.size
   have qc:=kc.size
   have kbc:=kb.but kc (by omega)
   have kac:=ka.trans kbc
   replace G:=G.kept (kidU_sub _ _) kac
   replace b3:=b3.kept kac
   have hx:kidU (onlyW w S) (f+1) (onlyW wc (ab wr.heap.size)) X.toList ((substTs nm L kids)[k]'(by rw[substTs_length];exact hlt)):=by
    rw[substTs_get nm L hlt]
    unfold kidU
    exact(xv.sub (only_keep kbc)).sub (uni_in (fun b hb _=>(kr.trans kac).old b hb) kr.size)
   iterate 4 go_step
   refine zr (.pointer (some ⟨g3,6,none⟩)) ?_
   refine zl1 (b3.cell 6 rfl) ?_
   refine zl b5.range oX ?_
   refine zgrowB (R:=kidU (onlyW w S) (f+1)) info27 rfl (by decide) (by decide) Tryz.underlying25 G (kidU_sub _ _) b3 hg30 oX.2 oX.size7 (by rw[substTs_length];exact hlt) (by omega) hx (fun b hb=> ?_) (run25 oX rfl rfl) fun wd a' cap' G b3=> ?_
   ·unfold ab at hb
    simp only[decide_eq_true_eq] at hb
    refine⟨by omega,fun he=> ?_⟩
    have:=(own b he.symm).2
    omega
   refine zr (.pointer (some ⟨g3,6,none⟩)) ?_
   refine zt1x (i:=6) b3 (by simp) rfl fun we ke b3=> ?_
   replace G:=G.store (kidU_sub _ _) ke hg30
   iterate 4 go_step
   refine zz ?_
   refine z2 (.int .i64 ((k+1:Nat):Int)) (hrun:=run_inc (by omega)) ?_
   refine zz ?_
   iterate 3 go_step
   exact⟨_,rfl,hlt,⟨rfl,rfl,rfl,rfl,rfl,trivial⟩,a',cap',_,G,b3⟩
  case' false=>
   obtain rfl:k=kids.length:=by have:=of_decide_eq_false hlt;omega
   refine zt_false ?_
   iterate 7 go_step
   refine zl b3.range own7 ?_
   refine zt (b2.keptB G.kb (by omega)) ownZ own7 fun wz kz bz=> ?_
   iterate 5 go_step
   have K:=(K0.but G.kb (by omega)).but kz (by omega)
   have G':Grow W0 wr g3 27 7 (.slice a3 (substTs nm L kids).length cap3) (substTs nm L kids).length cs (kidU (onlyW w S) (f+1)) (substTs nm L kids):=by rw[substTs_length];exact G
   obtain⟨hcap,hcell,hrows⟩:=G'.done (kidU_sub _ _) (N:=w.heap.size) K0.size (fun b hb h=>kz.old b hb (by omega))
   have hu:Sub (uni (onlyW w S) (onlyW wz (ab w.heap.size))) (onlyW wz (nxt S w.heap.size)):=uni_out (fun b hb _=>K.old b hb) (Nat.le_refl _)
   have hm:Sub (onlyW wz (ab w.heap.size)) (onlyW wz (nxt S w.heap.size)):=only_mono fun b h=>nxt_new (by unfold ab at h;exact of_decide_eq_true h)
   have hE:=Ex.mk (op:=op) (arg:=arg) (name:=name) hcap (hr.sub (only_nxt K)) (by rw[substTs_length];exact hn) (fun i hi=>by
    obtain⟨b,e,h⟩:=hcell i hi
    refine⟨b,e,?_⟩
    rw[List.getElem?_eq_getElem hi] at h⊢
    exact hm _ _ h) (hrows.mono fun l t h=>h.sub hu)
   rw[substTs_length] at hE
   refine zret1 bz own7 ⟨_,rfl,?_,K⟩
   rw[substT,if_neg (fun e=>ho e.1)]
   exact hE
theorem rsubst_calls:∀(f:Nat),SubR f
 |0=>fun h=>h.elim
 |f+1=>rsubst_step (rsubst_calls f)
end
section
open Go Go.RowKit Go.Dig Go.Deep
open Go.Eng (Kept KW KeptB wp_region_kw kw_call)
set_option maxHeartbeats 8000000
set_option maxRecDepth 100000
theorem rSubst_calls{w:World}{S:Nat→Bool}{f:Nat}{v:Value}{t:Tree}{gb:Nat}{nm:ByteArray}{VL:Array Value}{L:Tree}(h:Ex (onlyW w S) f v t)(hok:t.ok=true)(hB:Bd (onlyW w S) gb nm VL L)(hL:L.ok=true)(hnm:isName nm=true)(hT:Laid w):
 Calls Tryz.prog 86 #[v,.slice (some ⟨gb,0,none⟩) 1 1] w fun e w'=>(if (substT nm L t).ok=true then ∃r,e= .returned (.tuple #[r,.int .i64 0])∧Ex (onlyW w' (nxt S w.heap.size)) (f+1) r (substT nm L t) else e= .returned (.tuple #[zeroE,.int .i64 4]))∧Kept w w':=by
 have hv:=fun(w':World)(k:Kept w w')=>rvalid_calls ((h.sub (only_sub w S)).kept k) (hT.kept k)
 rw[hok] at hv
 have hvL:=fun(w':World)(k:Kept w w')=>rvalid_calls ((hB.ex.sub (only_sub w S)).kept k) (hT.kept k)
 rw[hL] at hvL
 have hni:=fun(w':World)=>risname_calls w' nm
 rw[hnm] at hni
 have hw:=well_of_ok hok
 obtain⟨V,rfl,oV⟩:=h.own
 refine entL [_,_] 67 Tryz.func86 rfl Tryz.ntmps86 (by simp) ?_
 iterate 3 go_step
 refine zb fun w1 g1 e1 k1 b1 s1=> ?_
 refine za Z7 27 fun w2 g2 e2 k2 b2 s2=> ?_
 refine zz ?_
 replace b1:=b1.kept k2
 have K0:=k1.trans k2
 clear k1 k2
 iterate 6 go_step
 refine zl b1.range oV ?_
 refine zc 73 _ (hv _ K0) ?_
 rintro e w3 ⟨rfl,k3⟩
 refine⟨_,rfl,?_⟩
 refine zz ?_
 iterate 3 go_step
 refine zt_false ?_
 iterate 6 go_step
 refine zz ?_
 replace K0:=K0.trans k3
 replace b1:=b1.kept k3
 replace b2:=b2.kept k3
 have q2:=k3.size
 clear k3
 iterate 4 go_step
 refine zloop 1 (fun k=>[(1,.slice (some ⟨gb,0,none⟩) 1 1),(2,.pointer (some ⟨g1,0,none⟩)),(4,.pointer (some ⟨g2,0,none⟩)),(5,.int .i64 0),(6,.int .i64 k)])
  (fun k W=>Kept w3 W) ⟨rfl,rfl,rfl,rfl,rfl,trivial⟩ (Kept.refl w3) fun l wr k hk kr=> ?_
 replace b1:=b1.kept kr
 replace b2:=b2.kept kr
 have K1:=K0.trans kr
 iterate 4 go_step
 refine zz ?_
 refine zz ?_
 refine zr (.int .i64 1) ?_
 refine z2 (.bool (decide ((k:Int)<(1:Int)))) ?_
 iterate 3 go_step
 cases hlt:decide ((k:Int)<(1:Int))
 case' true=>
  obtain rfl:k=0:=by have:=of_decide_eq_true hlt;omega
  refine zt_true ?_
  iterate 7 go_step
  have B:=hB.sub ((only_sub w S).trans (Kept.sub K1))
  refine zz ?_
  refine zz ?_
  refine zi (s:=8) (m:=1) 0 (by decide) ?_
  refine zr (.pointer (some ⟨gb,1,none⟩)) ?_
  refine zl B.rng B.own ?_
  refine zc 73 _ (hvL _ K1) ?_
  rintro e w4 ⟨rfl,k4⟩
  refine⟨_,rfl,?_⟩
  refine zz ?_
  iterate 3 go_step
  refine zt_false ?_
  iterate 4 go_step
  refine zz ?_
  refine z2 (.int .i64 ((0+1:Nat):Int)) (hrun:=run_inc (by omega)) ?_
  refine zz ?_
  iterate 3 go_step
  exact⟨_,rfl,Nat.le_refl _,⟨rfl,rfl,rfl,rfl,rfl,trivial⟩,kr.trans k4⟩
 refine zt_false ?_
 iterate 8 go_step
 refine zz ?_
 have qr:=kr.size
 clear hlt
 iterate 4 go_step
 refine zloop 1 (fun k=>[(1,.slice (some ⟨gb,0,none⟩) 1 1),(2,.pointer (some ⟨g1,0,none⟩)),(4,.pointer (some ⟨g2,0,none⟩)),(5,.int .i64 0),(7,.int .i64 k)])
  (fun k W=>Kept wr W) ⟨rfl,rfl,rfl,rfl,rfl,trivial⟩ (Kept.refl wr) fun l ws k hk ks=> ?_
 replace b1:=b1.kept ks
 replace b2:=b2.kept ks
 have K2:=K1.trans ks
 have qs:=ks.size
 iterate 4 go_step
 refine zz ?_
 refine zz ?_
 refine zr (.int .i64 1) ?_
 refine z2 (.bool (decide ((k:Int)<(1:Int)))) ?_
 iterate 3 go_step
 cases hlt:decide ((k:Int)<(1:Int))
 case' true=>
  obtain rfl:k=0:=by have:=of_decide_eq_true hlt;omega
  refine zt_true ?_
  iterate 8 go_step
  have B:=hB.sub ((only_sub w S).trans (Kept.sub K2))
  refine zz ?_
  refine zz ?_
  refine zi (s:=8) (m:=1) 0 (by decide) ?_
  refine zr (.pointer (some ⟨gb,0,none⟩)) ?_
  refine zl1 B.name ?_
  refine zc 145 _ (hni _) ?_
  rintro e w4 ⟨rfl,k4⟩
  refine⟨_,rfl,?_⟩
  refine zz ?_
  iterate 3 go_step
  refine zt_false ?_
  iterate 5 go_step
  refine zz ?_
  iterate 4 go_step
  refine zloop 0 (fun k=>[(1,.slice (some ⟨gb,0,none⟩) 1 1),(2,.pointer (some ⟨g1,0,none⟩)),(4,.pointer (some ⟨g2,0,none⟩)),(5,.int .i64 0),(7,.int .i64 0),(8,.int .i64 0)])
   (fun k W=>W=w4) ⟨rfl,rfl,rfl,rfl,rfl,rfl,trivial⟩ rfl fun l wt j hj kt=> ?_
  subst kt
  obtain rfl:j=0:=by omega
  iterate 4 go_step
  refine zz ?_
  refine zz ?_
  refine z2 (.bool false) ?_
  iterate 3 go_step
  refine zt_false ?_
  iterate 6 go_step
  refine zz ?_
  refine z2 (.int .i64 ((0+1:Nat):Int)) (hrun:=run_inc (by omega)) ?_
  refine zz ?_
  iterate 3 go_step
  exact⟨_,rfl,Nat.le_refl _,⟨rfl,rfl,rfl,rfl,rfl,trivial⟩,ks.trans k4⟩
 refine zt_false ?_
 iterate 7 go_step
 have hol:=old_in (S:=S) fun b hb _=>K2.old b hb
 refine zl b1.range oV ?_
 refine zz ?_
 refine zc 164 _ (rsubst_calls f (h.sub hol) hw (hB.sub hol)) ?_
 rintro e w5 ⟨v5,rfl,h5,k5⟩
 obtain⟨X,rfl,oX⟩:=h5.own
 refine⟨_,rfl,?_⟩
 refine za Z7 27 fun w6 g6 e6 k6 b6 s6=> ?_
 refine zt b6 ownZ oX fun w7 k7 b6=> ?_
 have q5:=k5.size
 have q7:=k7.size
 have k57:=k5.trans (k6.but k7 (by omega))
 have K7:=K2.trans k57
 have h7:=h5.sub (only_keep (k6.but k7 (by omega)))
 replace b2:=b2.kept k57
 clear k6 k7
 iterate 6 go_step
 refine zl b6.range oX ?_
 refine zc 165 _ (rfit_calls (h7.sub (only_sub _ _)) (hT.kept K7)) ?_
 rintro e w8 ⟨rfl,k8⟩
 refine⟨_,rfl,?_⟩
 replace K7:=K7.trans k8
 replace h7:=h7.sub (only_keep k8)
 replace b6:=b6.kept k8
 replace b2:=b2.kept k8
 have hz:(substT nm L t).ok=true∨(substT nm L t).ok=false:=by cases(substT nm L t).ok<;>simp
 rcases hz with hz|hz<;>rw[hz]
 ·refine zz ?_
  iterate 3 go_step
  refine zt_false ?_
  iterate 5 go_step
  refine zl b6.range oX ?_
  refine zt b2 ownZ oX fun w9 k9 b2=> ?_
  refine zz ?_
  iterate 5 go_step
  have K9:=K7.but k9 (by omega)
  refine zret1b (v:=.int .i64 0) b2 oX ⟨?_,K9⟩
  rw[if_pos hz]
  refine⟨_,rfl,h7.sub (only_move fun b hb hs=> ?_)⟩
  unfold nxt at hs⊢
  simp only[Bool.or_eq_true,Bool.and_eq_true,decide_eq_true_eq] at hs⊢
  rcases hs with⟨hs,hlt⟩|hs
  ·exact⟨.inl hs,(k9.old b hb (by omega))⟩
  ·exact⟨.inr (by omega),(k9.old b hb (by omega))⟩
 ·refine zz ?_
  iterate 3 go_step
  refine zt_true ?_
  iterate 2 go_step
  refine zr (.agg Z7) ?_
  refine zt b2 ownZ ownZ fun w9 k9 b2=> ?_
  refine zz ?_
  iterate 6 go_step
  have K9:=K7.but k9 (by omega)
  refine zret1b (v:=.int .i64 4) b2 ownZ ⟨?_,K9⟩
  rw[if_neg (by simp[hz])]
  rfl
end
section
open Go Go.RowKit Go.Dig Go.Deep
open Go.Eng (Kept KW KeptB wp_region_kw kw_call)
def M1(w:World)(bm:Nat)(nm:ByteArray)(VL:Array Value):Prop:=w.heap[bm]? =some (.map #[⟨.string nm,.agg VL,0⟩] 1)
theorem key_str{w:World}(e:Bool)(s:ByteArray):(Instr.checkKey e 10000 9 (.string s)).run Tryz.prog w= .ok () w:=by
 have h9:Tryz.prog.underlying 9=some .string:=by kernel_rfl
 have key:∀n,(Instr.checkKey e (n+1) 9 (.string s)).run Tryz.prog w= .ok () w:=by
  intro n
  unfold Instr.checkKey
  simp[go_sem,h9,underlying]
 exact key 9999
theorem lookup_one{w:World}{bm:Nat}{nm x:ByteArray}{VL:Array Value}(h:M1 w bm nm VL):
 (Instr.lookup 222 (.map (some bm)) (.string x) true).run Tryz.prog w= .ok (if x==nm then .tuple #[.agg VL,.bool true] else .tuple #[.agg Z7,.bool false]) w:=by
 unfold M1 at h
 have hu:Tryz.prog.underlying 222=some (.map 9 27):=by kernel_rfl
 have h9:Tryz.prog.underlying 9=some .string:=by kernel_rfl
 have hg:(getObj bm).run Tryz.prog w= .ok (.map #[⟨.string nm,.agg VL,0⟩] 1) w:=by
  simp[getObj,Sem.run,h]
 have hk:=fun e=>key_str (w:=w) e x
 unfold Instr.lookup
 by_cases hx:x==nm<;>simp[go_sem,hu,h9,hx,Instr.findKey,Instr.findNow,Instr.sameNow,hg,hk,underlying]<;>rfl
theorem update_one{w:World}{bm:Nat}{nm:ByteArray}{VL:Array Value}(h:w.heap[bm]? =some (.map #[] 0)):
 (Instr.mapUpdate 222 (.map (some bm)) (.string nm) (.agg VL)).run Tryz.prog w= .ok () {w with heap:=w.heap.setIfInBounds bm (.map #[⟨.string nm,.agg VL,0⟩] 1)}:=by
 have hu:Tryz.prog.underlying 222=some (.map 9 27):=by kernel_rfl
 have h9:Tryz.prog.underlying 9=some .string:=by kernel_rfl
 have hg:(getObj bm).run Tryz.prog w= .ok (.map #[] 0) w:=by
  simp[getObj,Sem.run,h]
 have hs:∀o,(setObj bm o).run Tryz.prog w= .ok () {w with heap:=w.heap.setIfInBounds bm o}:=by
  intro o
  simp[setObj,Sem.run,h]
 have hk:=fun e=>key_str (w:=w) e nm
 unfold Instr.mapUpdate
 simp[go_sem,hu,h9,Instr.findKey,Instr.findNow,hg,hk,hs,underlying]
theorem lookup_none{w:World}{bm:Nat}{x:ByteArray}(h:w.heap[bm]? =some (.map #[] 0)):
 (Instr.lookup 222 (.map (some bm)) (.string x) true).run Tryz.prog w= .ok (.tuple #[.agg Z7,.bool false]) w:=by
 have hu:Tryz.prog.underlying 222=some (.map 9 27):=by kernel_rfl
 have h9:Tryz.prog.underlying 9=some .string:=by kernel_rfl
 have hg:(getObj bm).run Tryz.prog w= .ok (.map #[] 0) w:=by
  simp[getObj,Sem.run,h]
 have hk:=fun e=>key_str (w:=w) e x
 unfold Instr.lookup
 simp[go_sem,hu,h9,Instr.findKey,Instr.findNow,hg,hk,underlying]<;>rfl
end
section
open Go Go.RowKit Go.Dig Go.Deep
open Go.Eng (Kept KW KeptB wp_region_kw kw_call)
set_option maxHeartbeats 8000000
set_option maxRecDepth 100000
theorem M1.kept{w w':World}{bm:Nat}{nm:ByteArray}{VL:Array Value}(h:M1 w bm nm VL)(k:Kept w w'):M1 w' bm nm VL:=by
 unfold M1 at h⊢
 rw[k.old bm (by by_cases hb:bm<w.heap.size;exact hb;rw[Array.getElem?_eq_none (by omega)] at h;cases h)]
 exact h
theorem zlk{n d:Nat}{l:Fm}{ops:Array Oper}{rest:List Oper}{Q:Exit→Act→World→Prop}{oi:Oper}{w:World}{t:TypeId}{x y:Operand}{xv yv v:Value}(hrun:(Instr.lookup t xv yv true).run Tryz.prog w= .ok v w)(h:wpList Tryz.prog ops Q rest (frm n (upd l d v)) w)
 (hop:oi.op= .lookup t x y true:=by rfl)(hx:opv n l x=some xv:=by rfl)(hy:opv n l y=some yv:=by rfl)(hg:oi.guard=none:=by rfl)(hd:oi.dst=some d:=by rfl):wpList Tryz.prog ops Q (oi::rest) (frm n l) w:=
 zv v (by unfold execOp;rw[hop];simp only[opv_eval hx,opv_eval hy];rw[Sem.run_bind,hrun];rfl) hg hd h
theorem yrw{n d fuel:Nat}{l:Fm}{ops:Array Oper}{listed:Array Bool}{Q:Exit→Act→World→Prop}{oi:Oper}{w:World}{S:World→Prop}(i:Nat)(v:Value){j p:Nat}{b:Bool}(hS:S w)(h:wpAnyH Tryz.prog .any ops Q S fuel (listed.setIfInBounds i true) (frm n (upd l d v)) w)
 (hi:ops[i]? =some oi:=by rfl)(hg:oi.guard=some (j,b):=by rfl)(hj:(ops[j]?).bind (·.dst)=some p:=by rfl)(hp:opv n l (.tmp p)=some (.bool b):=by rfl)(hd:oi.dst=some d:=by rfl)(hrun:∀w',S w'→(execOp (ev n l) oi).run Tryz.prog w'= .ok (.value v) w':=by intro w' _;kernel_rfl)
 (hs:Region.noSelect ops=true:=by kernel_rfl)(hf:Region.free .any ops listed i=true:=by kernel_rfl)(hr:(Region.ready .any ops listed).contains i=true:=by kernel_rfl)
 (hQ:∀c a w,Q (.panic c) (a.put oi.dst v) w→Q (.panic c) a w:=by exact fun _ _ _ h=>h):wpAnyH Tryz.prog .any ops Q S (fuel+1) listed (frm n l) w:=
 wpAnyH_take hi hs hf hr hQ (.inl ⟨by unfold Region.wanted;rw[hg];simp[frm_yield hj hp],fun w' hw=>by rw[frm_eval];exact hrun w' hw⟩) hS (by rw[hd,frm_put];exact h)
theorem yrs{n d fuel:Nat}{l:Fm}{ops:Array Oper}{listed:Array Bool}{Q:Exit→Act→World→Prop}{oi:Oper}{w:World}{S:World→Prop}(i:Nat){j p:Nat}{b c:Bool}(hS:S w)(h:wpAnyH Tryz.prog .any ops Q S fuel (listed.setIfInBounds i true) (frm n (upd l d undef)) w)
 (hi:ops[i]? =some oi:=by rfl)(hg:oi.guard=some (j,b):=by rfl)(hj:(ops[j]?).bind (·.dst)=some p:=by rfl)(hp:opv n l (.tmp p)=some (.bool c):=by rfl)(hne:(some c==some b)=false:=by rfl)(hd:oi.dst=some d:=by rfl)
 (hs:Region.noSelect ops=true:=by kernel_rfl)(hf:Region.free .any ops listed i=true:=by kernel_rfl)(hr:(Region.ready .any ops listed).contains i=true:=by kernel_rfl)
 (hQ:∀c a w,Q (.panic c) (a.put oi.dst undef) w→Q (.panic c) a w:=by exact fun _ _ _ h=>h):wpAnyH Tryz.prog .any ops Q S (fuel+1) listed (frm n l) w:=
 wpAnyH_take hi hs hf hr hQ (.inr ⟨by unfold Region.wanted;rw[hg];simp only[frm_yield hj hp];exact hne,rfl⟩) hS (by rw[hd,frm_put];exact h)
theorem yl1w{n d fuel lo up:Nat}{l:Fm}{ops:Array Oper}{listed:Array Bool}{Q:Exit→Act→World→Prop}{oi:Oper}{w w0:World}(i:Nat){p:Tmp}{ty b o:Nat}{x:Value}{j pg:Nat}{bg:Bool}(hr0:w0.cell? ⟨b,o,none⟩=some x)(hb:b<lo∨up≤b)(hS:Lk lo up w0 w)(h:wpAnyH Tryz.prog .any ops Q (Lk lo up w0) fuel (listed.setIfInBounds i true) (frm n (upd l d x)) w)
 (hi:ops[i]? =some oi:=by rfl)(hop:oi.op= .load ty (.tmp p):=by rfl)(hg:oi.guard=some (j,bg):=by rfl)(hj:(ops[j]?).bind (·.dst)=some pg:=by rfl)(hp:opv n l (.tmp pg)=some (.bool bg):=by rfl)(hd:oi.dst=some d:=by rfl)(hx:opv n l (.tmp p)=some (.pointer (some ⟨b,o,none⟩)):=by rfl)(hu:(Tryz.prog.underlying ty).map TypeDesc.isRow=some false:=by kernel_rfl)
 (hs:Region.noSelect ops=true:=by kernel_rfl)(hf:Region.free .any ops listed i=true:=by kernel_rfl)(hr:(Region.ready .any ops listed).contains i=true:=by kernel_rfl)
 (hQ:∀c b w,Q (.panic c) (b.put oi.dst x) w→Q (.panic c) b w:=by exact fun _ _ _ h=>h):wpAnyH Tryz.prog .any ops Q (Lk lo up w0) (fuel+1) listed (frm n l) w:=by
 refine wpAnyH_take hi hs hf hr hQ (.inl ⟨by unfold Region.wanted;rw[hg];simp[frm_yield hj hp],fun w' k=> ?_⟩) hS (by rw[hd,frm_put];exact h)
 unfold execOp
 simp only[hop,opv_eval hx,Sem.run_bind,run_cell (k.cell hr0 hb) hu]
 rfl
theorem subst1_calls{w:World}{gc bm:Nat}{nm x:ByteArray}{VL:Array Value}(hc:w.cell? ⟨gc,0,none⟩=some (.map (some bm)))(hm:M1 w bm nm VL)(oL:Own 27 VL)
 {op arg:Int}{s:Bool}{x1:Option Addr}{x2 x3:Nat}{x4:Option Addr}{x5 x6:Nat}{a:Option Addr}{n cap:Nat}:
 Calls Tryz.prog 159 #[.agg #[.int .i64 op,.int .i64 arg,.bool s,.slice x1 x2 x3,.slice x4 x5 x6,.string x,.slice a n cap],.pointer (some ⟨gc,0,none⟩)] w fun e w'=>
  e= .returned (if x==nm then .tuple #[.agg VL,.bool (decide (op=2))] else .tuple #[.agg Z7,.bool false])∧Kept w w':=by
 refine entL [_,_] 21 Tryz.func159 rfl Tryz.ntmps159 (by simp) ?_
 iterate 3 go_step
 refine zb fun w1 g1 e1 k1 b1 s1=> ?_
 refine za Z7 27 fun w2 g2 e2 k2 b2 s2=> ?_
 refine zz ?_
 replace b1:=b1.kept k2
 have K0:=k1.trans k2
 iterate 5 go_step
 refine zl1 (K0.cell hc) ?_
 refine zr (.pointer (some ⟨g1,5,none⟩)) ?_
 refine zl1 (b1.cell 5 rfl) ?_
 have hlk:=lookup_one (x:=x) (hm.kept K0)
 cases hq:(x==nm)
 ·simp only[hq,if_false,Bool.false_eq_true] at hlk
  refine zlk hlk ?_
  refine zz ?_
  refine zz ?_
  refine zz ?_
  refine za Z7 27 fun w3 g3 e3 k3 b3 s3=> ?_
  refine zt b3 ownZ ownZ fun w4 k4 b3=> ?_
  refine zz ?_
  replace b2:=b2.kept (k3.but k4 (by omega))
  have K:=K0.trans (k3.but k4 (by omega))
  iterate 4 go_step
  refine drawn g2 (g2+1) fun hS=> ?_
  refine yl 0 b3.range (.inr (by omega)) ownZ hS ?_
  refine ym 1 hS ?_
  refine ym 2 hS ?_
  refine yrs 3 hS ?_
  refine yrs 4 hS ?_
  refine yrs 5 hS ?_
  refine yr 6 (.bool false) hS ?_
  refine yt 7 (b2.kept (Kept.refl w4).drew) ownZ ownZ (.inl ⟨Nat.le_refl _,by omega⟩) hS fun w5 k5 b2 hS=> ?_
  refine yr 8 (.bool false) hS ?_
  refine yend ?_
  iterate 4 go_step
  exact zret1b (v:=.bool false) b2 ownZ ⟨by rw[hq];rfl,(K.trans (Kept.refl w4).drew).but k5 (by have:=K0.size;omega)⟩
 ·simp only[hq,if_true] at hlk
  refine zlk hlk ?_
  refine zz ?_
  refine zz ?_
  refine zz ?_
  refine za Z7 27 fun w3 g3 e3 k3 b3 s3=> ?_
  refine zt b3 ownZ oL fun w4 k4 b3=> ?_
  refine zz ?_
  replace b2:=b2.kept (k3.but k4 (by omega))
  have K:=K0.trans (k3.but k4 (by omega))
  iterate 4 go_step
  replace b1:=b1.kept (k3.but k4 (by omega))
  refine drawn g2 (g2+1) fun hS=> ?_
  refine yl 0 b3.range (.inr (by omega)) oL hS ?_
  refine ym 1 hS ?_
  refine ym 2 hS ?_
  refine yrw 3 (.pointer (some ⟨g1,0,none⟩)) hS ?_
  refine yl1w 4 (((b1.kept (Kept.refl w4).drew)).cell 0 rfl) (.inl (show g1<g2 by omega)) hS ?_
  refine yrw 5 (.bool (decide (op=2))) hS ?_
  refine yr 6 (.bool (decide (op=2))) hS ?_
  refine yt 7 (b2.kept (Kept.refl w4).drew) ownZ oL (.inl ⟨Nat.le_refl _,by omega⟩) hS fun w5 k5 b2 hS=> ?_
  refine yr 8 (.bool (decide (op=2))) hS ?_
  refine yend ?_
  iterate 4 go_step
  exact zret1b (v:=.bool (decide (op=2))) b2 oL ⟨by rw[hq];rfl,(K.trans (Kept.refl w4).drew).but k5 (by have:=K0.size;omega)⟩
end
section
open Go Go.RowKit Go.Dig Go.Deep
open Go.Eng (Kept KW KeptB wp_region_kw kw_call)
theorem ba_beq(a b:ByteArray):(a==b)=decide (a=b):=by
 obtain⟨a⟩:=a
 obtain⟨b⟩:=b
 show(a==b)=_
 by_cases h:a=b<;>simp[h]
structure Md(w W:World)(gc bm:Nat)(nm:ByteArray)(VL:Array Value)(L:Tree):Prop where
 cap:w.cell? ⟨gc,0,none⟩=some (.map (some bm))
 map:M1 w bm nm VL
 own:Own 27 VL
 ex:Ex W 2 (.agg VL) L
def RepR(f:Nat):Prop:=∀{w:World}{S:Nat→Bool}{v:Value}{t:Tree}{gc bm:Nat}{nm:ByteArray}{VL:Array Value}{L:Tree},Ex (onlyW w S) f v t→wellT t→Md w (onlyW w S) gc bm nm VL L→
    Calls Tryz.prog 158 #[v,.func (.func 159) #[] #[.pointer (some ⟨gc,0,none⟩)]] w fun e w'=>∃v',e= .returned v'∧Ex (onlyW w' (nxt S w.heap.size)) (f+1) v' (substT nm L t)∧Kept w w'
set_option maxHeartbeats 8000000
set_option maxRecDepth 100000
theorem replaced_step{f:Nat}(ih:RepR f):RepR (f+1):=by
 intro w S v t gc bm nm VL L h hN hM
 have hh:=h
 obtain⟨op,arg,s,N,D,name,kids⟩:=t
 obtain⟨x1,x2,x3,x4,x5,x6,a,cap,rfl,hc,hn,hr⟩:=h.shape
 have hn3:kids.length≤3:=node_kids hN.1
 have HKR:=fun(i:Nat)(hi:i<kids.length)=>h.kidR hi
 have HIH:=fun(i:Nat)(hi:i<kids.length)(w':World)(S':Nat→Bool)(u:Value)(q:Ex (onlyW w' S') f u kids[i])(b:Md w' (onlyW w' S') gc bm nm VL L)=>ih q (wellTs_get hN.2 i hi) b
 clear h ih hN
 refine entL [_,_] 35 Tryz.func158 rfl Tryz.ntmps158 (by simp) ?_
 iterate 3 go_step
 refine zb fun w1 g1 e1 k1 b1 s1=> ?_
 refine za Z7 27 fun w2 g2 e2 k2 b2 s2=> ?_
 replace b1:=b1.kept k2
 have K0:=k1.trans k2
 iterate 6 go_step
 refine zz ?_
 refine zl b1.range own7 ?_
 refine zc 159 _ (subst1_calls (x:=name) (op:=op) (arg:=arg) (s:=s) (x1:=x1) (x2:=x2) (x3:=x3) (x4:=x4) (x5:=x5) (x6:=x6) (a:=a) (n:=kids.length) (cap:=cap) (K0.cell hM.cap) (hM.map.kept K0) hM.own) ?_
 rintro e w3 ⟨he,k3⟩
 obtain⟨X,p,rfl,oX,hp1,hp0⟩:∃X p,e= .returned (.tuple #[.agg X,.bool p])∧Own 27 X∧(p=true→X=VL∧op=2∧name=nm)∧(p=false→¬(op=2∧name=nm)):=by
  by_cases hq:name=nm
  ·subst hq
   exact⟨VL,decide (op=2),by rw[he,ba_beq];simp,hM.own,fun h=>⟨rfl,of_decide_eq_true h,rfl⟩,fun h h2=>of_decide_eq_false h h2.1⟩
  ·exact⟨Z7,false,by rw[he,ba_beq,if_neg (by simpa using hq)],ownZ,(fun h=>by cases h),fun _ h2=>hq h2.2⟩
 refine⟨_,rfl,?_⟩
 refine zz ?_
 refine zz ?_
 refine zz ?_
 refine za Z7 27 fun w4 g4 e4 k4 b4 s4=> ?_
 refine zt b4 ownZ oX fun w5 k5 b4=> ?_
 refine zz ?_
 have q3:=k3.size
 have k35:=k3.trans (k4.but k5 (by omega))
 replace K0:=K0.trans k35
 replace b1:=b1.kept k35
 replace b2:=b2.kept k35
 have q5:=k35.size
 iterate 5 go_step
 refine zz ?_
 iterate 3 go_step
 cases p
 case' true=>
  obtain⟨rfl,rfl,rfl⟩:=hp1 rfl
  refine zt_true ?_
  iterate 2 go_step
  refine zl b4.range oX ?_
  refine zt b2 ownZ oX fun w6 k6 b2=> ?_
  iterate 6 go_step
  have K:=K0.but k6 (by omega)
  refine zret1 b2 oX ⟨_,rfl,?_,K⟩
  rw[substT,if_pos ⟨rfl,rfl⟩]
  exact(hM.ex.sub (only_nxt K)).upTo (by omega)
 refine zt_false ?_
 iterate 5 go_step
 refine zz ?_
 iterate 6 go_step
 refine zr (.pointer (some ⟨g1,6,none⟩)) ?_
 refine zl1 (b1.cell 6 rfl) ?_
 refine zr (.int .i64 kids.length) ?_
 refine zz ?_
 iterate 4 go_step
 have hg40:=b4.lt
 refine zloopG (σ:=Option Addr×Nat) kids.length (fun k s=>[(1,.func (.func 159) #[] #[.pointer (some ⟨gc,0,none⟩)]),(2,.pointer (some ⟨g1,0,none⟩)),(4,.pointer (some ⟨g2,0,none⟩)),(7,.slice s.1 k s.2),(19,.slice a kids.length cap),(20,.int .i64 kids.length),(21,.int .i64 k)])
  (fun k s W=>∃cs,Grow w5 W g4 27 7 (.slice s.1 k s.2) k cs (kidU (onlyW w S) (f+1)) (substTs nm L kids)) (none,0) ⟨rfl,rfl,rfl,rfl,rfl,rfl,rfl,trivial⟩ ⟨[],Grow.start ..⟩ fun l wr k sg hk ⟨cs,G⟩=> ?_
 obtain⟨a3,cap3⟩:=sg
 have hsz:=G.kb.size
 have own:=fun g hg=>World.ownsRow.lt G.own g hg
 have kr:Kept w wr:=K0.but G.kb (by omega)
 replace b1:=b1.keptB G.kb (by omega)
 replace b2:=b2.keptB G.kb (by omega)
 iterate 3 go_step
 refine z2 (.bool (decide ((k:Int)<(kids.length:Int)))) ?_
 iterate 4 go_step
 cases hlt:decide ((k:Int)<(kids.length:Int))
 case' true=>
  have hlt:k<kids.length:=by have:=of_decide_eq_true hlt;omega
  obtain⟨b,off,V,rfl,rV,oV,xV⟩:=HKR k hlt
  refine zt_true ?_
  iterate 7 go_step
  refine zi (s:=7) k hlt ?_
  refine zl (((only_sub w S).trans (Kept.sub kr)).range rV) oV ?_
  refine za Z7 27 fun wa g9 e9 ka b9 sa=> ?_
  refine zt b9 ownZ oV fun wb kb b9=> ?_
  have kab:=ka.but kb (by omega)
  have krb:=kr.trans kab
  replace G:=G.kept (kidU_sub _ _) kab
  have qab:=kab.size
  iterate 4 go_step
  refine zz ?_
  refine zl b9.range oV ?_
  refine zz ?_
  have hol:=old_in (S:=S) fun b hb _=>krb.old b hb
  refine zc 158 _ (HIH k hlt wb _ _ (xV.sub hol) ⟨krb.cell hM.cap,hM.map.kept krb,hM.own,hM.ex.sub hol⟩) ?_
  rintro e wc ⟨v1,rfl,xv,kc⟩
  obtain⟨X1,rfl,oX1⟩:=xv.own
  refine⟨_,rfl,?_⟩
  replace G:=G.kept (kidU_sub _ _) kc
  have hx:kidU (onlyW w S) (f+1) (onlyW wc (ab wb.heap.size)) X1.toList ((substTs nm L kids)[k]'(by rw[substTs_length];exact hlt)):=by
   rw[substTs_get nm L hlt]
   unfold kidU
   exact xv.sub (uni_in (fun b hb _=>(krb.trans kc).old b hb) krb.size)
  refine zgrow (R:=kidU (onlyW w S) (f+1)) info27 rfl (by decide) (by decide) Tryz.underlying25 G (kidU_sub _ _) oX1.2 oX1.size7 (by rw[substTs_length];exact hlt) (by omega) hx (fun b hb=> ?_) (run25 oX1 rfl rfl) fun wd a' cap' G=> ?_
  ·unfold ab at hb
   simp only[decide_eq_true_eq] at hb
   refine⟨by omega,fun he=> ?_⟩
   have:=(own b he.symm).2
   omega
  refine zz ?_
  iterate 4 go_step
  refine z2 (.int .i64 ((k+1:Nat):Int)) (hrun:=run_inc (by omega)) ?_
  refine zz ?_
  iterate 3 go_step
  exact⟨_,(a',cap'),rfl,hlt,⟨rfl,rfl,rfl,rfl,rfl,rfl,rfl,trivial⟩,_,G⟩
 case' false=>
  obtain rfl:k=kids.length:=by have:=of_decide_eq_false hlt;omega
  refine zt_false ?_
  iterate 7 go_step
  refine zz ?_
  refine zr (.pointer (some ⟨g1,6,none⟩)) ?_
  refine zt1x (i:=6) b1 (by simp) rfl fun wy ky b1=> ?_
  iterate 5 go_step
  refine zl b1.range own7 ?_
  refine zt (b2.keptB ky (by omega)) ownZ own7 fun wz kz bz=> ?_
  iterate 5 go_step
  have K:=(kr.but ky (by omega)).but kz (by omega)
  have G':Grow w5 wr g4 27 7 (.slice a3 (substTs nm L kids).length cap3) (substTs nm L kids).length cs (kidU (onlyW w S) (f+1)) (substTs nm L kids):=by rw[substTs_length];exact G
  obtain⟨hcap,hcell,hrows⟩:=G'.done (kidU_sub _ _) (N:=w.heap.size) K0.size (fun b hb h=>(kz.old b (by have:=ky.size;omega) (by omega)).trans (ky.old b hb (by omega)))
  have hu:Sub (uni (onlyW w S) (onlyW wz (ab w.heap.size))) (onlyW wz (nxt S w.heap.size)):=uni_out (fun b hb _=>K.old b hb) (Nat.le_refl _)
  have hm:Sub (onlyW wz (ab w.heap.size)) (onlyW wz (nxt S w.heap.size)):=only_mono fun b h=>nxt_new (by unfold ab at h;exact of_decide_eq_true h)
  have hE:=Ex.mk (op:=op) (arg:=arg) (name:=name) hcap (hr.sub (only_nxt K)) (by rw[substTs_length];exact hn) (fun i hi=>by
   obtain⟨b,e,h⟩:=hcell i hi
   refine⟨b,e,?_⟩
   rw[List.getElem?_eq_getElem hi] at h⊢
   exact hm _ _ h) (hrows.mono fun l t h=>h.sub hu)
  rw[substTs_length] at hE
  refine zret1 bz own7 ⟨_,rfl,?_,K⟩
  rw[substT,if_neg (hp0 rfl)]
  exact hE
theorem replaced158_calls:∀(f:Nat),RepR f
 |0=>fun h=>h.elim
 |f+1=>replaced_step (replaced158_calls f)
end
section
open Go Go.RowKit Go.Dig Go.Deep
open Go.Eng (Kept KW KeptB wp_region_kw kw_call)
set_option maxHeartbeats 8000000
set_option maxRecDepth 100000
section
variable{n d:Nat}{l:Fm}{ops:Array Oper}{rest:List Oper}{Q:Exit→Act→World→Prop}{oi:Oper}{w:World}
theorem zmk{t:TypeId}(h:∀w' bm,bm=w.heap.size→Kept w w'→w'.heap[bm]? =some (.map #[] 0)→w'.heap.size=bm+1→wpList Tryz.prog ops Q rest (frm n (upd l d (.map (some bm)))) w')
 (hop:oi.op= .makeMap t none:=by rfl)(hg:oi.guard=none:=by rfl)(hd:oi.dst=some d:=by rfl):wpList Tryz.prog ops Q (oi::rest) (frm n l) w:=
 zv (.map (some w.heap.size)) (by unfold execOp;rw[hop];rfl) hg hd (h (w.alloc (.map #[] 0)) _ rfl ((Kept.refl w).alloc _) (Array.getElem?_push_size ..) (Array.size_push ..))
theorem zmu{bm:Nat}{nm:ByteArray}{VL:Array Value}{x y z:Operand}(hm:w.heap[bm]? =some (.map #[] 0))(h:∀w',KeptB w w' bm→M1 w' bm nm VL→wpList Tryz.prog ops Q rest (frm n l) w')
 (hop:oi.op= .mapUpdate 222 x y z:=by rfl)(hx:opv n l x=some (.map (some bm)):=by rfl)(hy:opv n l y=some (.string nm):=by rfl)(hz:opv n l z=some (.agg VL):=by rfl)(hg:oi.guard=none:=by rfl)(hd:oi.dst=none:=by rfl):wpList Tryz.prog ops Q (oi::rest) (frm n l) w:=
 wpList_plain hg fun K hK=>by
  have hb:bm<w.heap.size:=by
   by_cases hb:bm<w.heap.size
   ·exact hb
   ·rw[Array.getElem?_eq_none (by omega)] at hm;cases hm
  unfold Oper.wp execOp
  simp only[hop,opv_eval hx,opv_eval hy,opv_eval hz,Sem.run_bind,Sem.run_pure,Result.andThen_ok,update_one hm]
  show K ((frm n l).put oi.dst undef) _
  rw[hd]
  refine hK _ _ (h _ ⟨by simp,fun c hc hne=> ?_,rfl,rfl,rfl⟩ ?_)
  ·exact Array.getElem?_setIfInBounds_ne (Ne.symm hne)
  ·unfold M1
   exact Array.getElem?_setIfInBounds_self_of_lt hb
end
end
section
open Go Go.RowKit Go.Dig Go.Deep
open Go.Eng (Kept KW KeptB wp_region_kw kw_call)
set_option maxHeartbeats 8000000
set_option maxRecDepth 100000
theorem own142{nm:ByteArray}{o g:Int}{z:Bool}{x1:Option Addr}{x2 x3:Nat}{x4:Option Addr}{x5 x6:Nat}{nm':ByteArray}{x7:Option Addr}{x8 x9:Nat}:Own 142 #[.string nm,.int .i64 o,.int .i64 g,.bool z,.slice x1 x2 x3,.slice x4 x5 x6,.string nm',.slice x7 x8 x9]:=
 ⟨by kernel_rfl,by simp[Value.oneCell']⟩
theorem eSubst_calls{w:World}{S:Nat→Bool}{f:Nat}{v:Value}{t:Tree}{gb:Nat}{nm:ByteArray}{VL:Array Value}{L:Tree}(h:Ex (onlyW w S) f v t)(hok:t.ok=true)(hB:Bd (onlyW w S) gb nm VL L)(hL:L.ok=true)(hnm:isName nm=true)(hT:Laid w):
 Calls Tryz.prog 81 #[v,.slice (some ⟨gb,0,none⟩) 1 1] w fun e w'=>(if (substT nm L t).ok=true then ∃r,e= .returned (.tuple #[r,.int .i64 0])∧Ex (onlyW w' (ab w.heap.size)) (f+1) r (canT (substT nm L t)) else e= .returned (.tuple #[zeroE,.int .i64 4]))∧Kept w w':=by
 have hv:=fun(w':World)(k:Kept w w')=>pvalid_calls ((h.sub (only_sub w S)).kept k) (hT.kept k)
 rw[hok] at hv
 have hvL:=fun(w':World)(k:Kept w w')=>pvalid_calls ((hB.ex.sub (only_sub w S)).kept k) (hT.kept k)
 rw[hL] at hvL
 have hw:=well_of_ok hok
 obtain⟨V,rfl,oV⟩:=h.own
 have hni:=fun(w':World)=>eisname_calls w' nm
 rw[hnm] at hni
 obtain⟨o',g',z',y1,y2,y3,y4,y5,y6,nm',a0,n0,cap0,eV⟩:=hB.ex.agg7
 cases eV
 refine entL [_,_] 65 Tryz.func81 rfl Tryz.ntmps81 (by simp) ?_
 iterate 3 go_step
 refine zb fun w1 g1 e1 k1 b1 s1=> ?_
 refine za Z7 27 fun w2 g2 e2 k2 b2 s2=> ?_
 refine zz ?_
 replace b1:=b1.kept k2
 have K0:=k1.trans k2
 iterate 5 go_step
 refine zl b1.range oV ?_
 refine zc 77 _ (hv _ K0) ?_
 rintro e w3 ⟨rfl,k3⟩
 refine⟨_,rfl,?_⟩
 refine zz ?_
 iterate 5 go_step
 refine zmk fun w4 bm e4 k4 m4 s4=> ?_
 refine za #[.map none] 222 fun w5 g5 e5 k5 b5 s5=> ?_
 refine zt1x (i:=0) b5 (by simp) rfl fun w6 k6 b5=> ?_
 have k36:=(k4.trans k5).but k6 (by omega)
 have m6:=(k6.old bm (by have:=k5.size;omega) (by omega)).trans ((k5.old bm (by omega)).trans m4)
 have q6:=k6.size
 replace K0:=(K0.trans k3).trans k36
 replace b1:=(b1.kept k3).kept k36
 replace b2:=(b2.kept k3).kept k36
 clear k4 k5 k6 m4
 iterate 5 go_step
 refine zz ?_
 iterate 6 go_step
 refine zz ?_
 refine zr (.int .i64 1) ?_
 refine zz ?_
 iterate 4 go_step
 have hbm:bm<w6.heap.size:=by omega
 have hbw:w.heap.size≤bm∧g1<bm∧g2<bm∧bm<g5:=by have:=k3.size;omega
 refine zloop 1 (fun k=>[(2,.pointer (some ⟨g1,0,none⟩)),(4,.pointer (some ⟨g2,0,none⟩)),(5,.int .i64 0),(6,.bool true),(7,.pointer (some ⟨g5,0,none⟩)),(8,.bool true),(16,.slice (some ⟨gb,0,none⟩) 1 1),(17,.int .i64 1),(18,.int .i64 k)])
  (fun k W=>KeptB w6 W bm∧(k=0→W.heap[bm]? =some (.map #[] 0))∧(k=1→M1 W bm nm #[.int .i64 o',.int .i64 g',.bool z',.slice y1 y2 y3,.slice y4 y5 y6,.string nm',.slice a0 n0 cap0])) ⟨rfl,rfl,rfl,rfl,rfl,rfl,rfl,rfl,rfl,trivial⟩ ⟨KeptB.refl w6 bm,fun _=>m6,fun h=>by omega⟩ fun l wr k hk ⟨kr,hm0,hm1⟩=> ?_
 replace b1:=b1.keptB kr (by omega)
 replace b2:=b2.keptB kr (by omega)
 replace b5:=b5.keptB kr (by omega)
 have K1:=K0.but kr (by omega)
 iterate 3 go_step
 refine z2 (.bool (decide ((k:Int)<(1:Int)))) ?_
 iterate 4 go_step
 cases hlt:decide ((k:Int)<(1:Int))
 case' true=>
  obtain rfl:k=0:=by have:=of_decide_eq_true hlt;omega
  have m0:=hm0 rfl
  refine zt_true ?_
  iterate 7 go_step
  have B:=hB.sub ((only_sub w S).trans (Kept.sub K1))
  refine zi (s:=8) (m:=1) 0 (by decide) ?_
  refine zl (V:=#[.string nm,.int .i64 o',.int .i64 g',.bool z',.slice y1 y2 y3,.slice y4 y5 y6,.string nm',.slice a0 n0 cap0]) (fun j v hv=> ?_) own142 ?_
  ·cases j with
   |zero=>cases hv;exact B.name
   |succ j=>
    have:=B.rng j v hv
    rw[show 0+0*8+(j+1)=1+j by omega]
    exact this
  refine za #[.string ⟨#[]⟩,.int .i64 0,.int .i64 0,.bool false,.slice none 0 0,.slice none 0 0,.string ⟨#[]⟩,.slice none 0 0] 142 fun wa g10 ea ka b10 sa=> ?_
  refine zt b10 own142 own142 fun wb kb b10=> ?_
  have qr:=kr.size
  have kab:=ka.but kb (by omega)
  have qab:=kab.size
  have q10:=b10.lt
  iterate 5 go_step
  refine zz ?_
  refine zz ?_
  refine zwant ?_
  refine zr (.pointer (some ⟨g10,1,none⟩)) ?_
  refine zwant ?_
  refine zl (b10.part 1) hB.own ?_
  refine zwant ?_
  refine zc 77 _ (hvL _ (K1.trans kab)) ?_
  rintro e wc ⟨rfl,kc⟩
  refine⟨_,rfl,?_⟩
  refine zz ?_
  refine zz ?_
  have kac:=kab.trans kc
  have qc:=kc.size
  replace b10:=b10.kept kc
  iterate 5 go_step
  have b5c:=b5.kept kac
  have mc:=(kac.old bm (by omega)).trans m0
  refine zl1 (b5c.cell 0 rfl) ?_
  refine zr (.pointer (some ⟨g10,0,none⟩)) ?_
  refine zl1 (b10.cell 0 rfl) ?_
  refine zlk (lookup_none mc) ?_
  refine zz ?_
  refine zz ?_
  refine zz ?_
  refine za Z7 27 fun wd g11 ed kd b11 sd=> ?_
  refine zt b11 ownZ ownZ fun we ke b11=> ?_
  refine zz ?_
  have kde:=kd.but ke (by omega)
  have qde:=kde.size
  have kae:=kac.trans kde
  replace b10:=b10.kept kde
  iterate 5 go_step
  refine zz ?_
  refine zz ?_
  refine zwant ?_
  refine zr (.pointer (some ⟨g10,0,none⟩)) ?_
  refine zwant ?_
  refine zl1 (b10.cell 0 rfl) ?_
  refine zwant ?_
  refine zc 148 _ (hni _) ?_
  rintro e wf ⟨rfl,kf⟩
  refine⟨_,rfl,?_⟩
  refine zz ?_
  refine zz ?_
  refine zwant ?_
  refine zz ?_
  refine zwant ?_
  refine zz ?_
  refine zz ?_
  refine zz ?_
  have kaf:=kae.trans kf
  have qf:=kf.size
  replace b10:=b10.kept kf
  have b5f:=b5.kept kaf
  have mf:=(kaf.old bm (by omega)).trans m0
  iterate 4 go_step
  refine zl1 (b5f.cell 0 rfl) ?_
  refine zr (.pointer (some ⟨g10,0,none⟩)) ?_
  refine zl1 (b10.cell 0 rfl) ?_
  refine zr (.pointer (some ⟨g10,1,none⟩)) ?_
  refine zl (b10.part 1) hB.own ?_
  refine zmu mf fun wg kg mg=> ?_
  iterate 4 go_step
  refine z2 (.int .i64 ((0+1:Nat):Int)) (hrun:=run_inc (by omega)) ?_
  refine zz ?_
  iterate 3 go_step
  exact⟨_,rfl,Nat.le_refl _,⟨rfl,rfl,rfl,rfl,rfl,rfl,rfl,rfl,rfl,trivial⟩,KeptB.thenB (KeptB.thenKept kr kaf) kg,(fun h=>by cases h),fun _=>mg⟩
 case' false=>
  obtain rfl:k=1:=by have:=of_decide_eq_false hlt;omega
  have m1:=hm1 rfl
  refine zt_false ?_
  iterate 9 go_step
  refine zz ?_
  refine zz ?_
  refine zz ?_
  iterate 3 go_step
  refine zt_false ?_
  iterate 2 go_step
  refine zz ?_
  refine zz ?_
  refine zz ?_
  iterate 3 go_step
  refine zt_false ?_
  iterate 5 go_step
  have hol:=old_in (S:=S) fun b hb _=>K1.old b hb
  refine zl b1.range oV ?_
  refine zr (.func (.func 159) #[] #[.pointer (some ⟨g5,0,none⟩)]) ?_
  refine zc 158 _ (replaced158_calls f (h.sub hol) hw ⟨b5.cell 0 rfl,m1,hB.own,hB.ex.sub hol⟩) ?_
  rintro e wa ⟨v5,rfl,h5,ka⟩
  refine⟨_,rfl,?_⟩
  have qr:=kr.size
  have qa:=ka.size
  have Ka:=K1.trans ka
  have q0:=K1.size
  refine zc 157 _ (checked_calls (h5.sub (only_sub _ _)) (hT.kept Ka)) ?_
  rintro e wb ⟨hb,kb⟩
  have qb:=kb.size
  have Kb:=Ka.trans kb
  replace b2:=(b2.kept ka).kept kb
  have hz:(substT nm L t).ok=true∨(substT nm L t).ok=false:=by cases(substT nm L t).ok<;>simp
  rcases hz with hz|hz
  ·rw[if_pos hz] at hb
   obtain⟨r,rfl,hr⟩:=hb
   obtain⟨X,rfl,oX⟩:=hr.own
   refine⟨_,rfl,?_⟩
   refine zz ?_
   refine zz ?_
   refine zt b2 ownZ oX fun wc kc b2=> ?_
   refine zz ?_
   iterate 5 go_step
   refine zret1b (v:=.int .i64 0) b2 oX ⟨?_,Kb.but kc (by omega)⟩
   rw[if_pos hz]
   exact⟨_,rfl,hr.sub (fresh_but kc (by omega) (by omega))⟩
  ·rw[if_neg (by simp[hz])] at hb
   subst hb
   refine⟨_,rfl,?_⟩
   refine zz ?_
   refine zz ?_
   refine zt b2 ownZ ownZ fun wc kc b2=> ?_
   refine zz ?_
   iterate 5 go_step
   refine zret1b (v:=.int .i64 4) b2 ownZ ⟨?_,Kb.but kc (by omega)⟩
   rw[if_neg (by simp[hz])]
   rfl
end
end Go.Proofs.YtbapfnpbamnmpaaGreatDoor
