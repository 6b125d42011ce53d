/- A part of the proof that SearchCandidates answers true for every input of bulk at most 1048576: conditions: the row's own. -/
import Derived.Test.YtancebninmoipaaGreatDoorP11
import Derived.Test.YtancebninmoipaaGreatDoorP12
import Derived.Test.YtancebninmoipaaGreatDoorP05
import Derived.Test.YtancebninmoipaaGreatDoorP08
import Derived.Lib.AppendZeros
import Derived.Test.YtancebninmoipaaGreatDoorP09
namespace Go.Proofs.YtancebninmoipaaGreatDoor
section
open Go Go.RowKit Go.Dig Go.Deep
open Go.Eng (Kept KW KeptB wp_region_kw kw_call)
theorem Grow.done{α:Type}{W0 W W':World}{g3 e sz N:Nat}{a:Option Addr}{cap:Nat}{cs:List Value}{R:World→List Value→α→Prop}{ts:List α}(G:Grow W0 W g3 e sz (.slice a ts.length cap) ts.length cs R ts)
 (hR:∀w w',Sub w w'→∀l t,R w l t→R w' l t)(hN:N≤W0.heap.size)(k:∀b,b<W.heap.size→W0.heap.size≤b→W'.heap[b]? =W.heap[b]?):
 ts.length≤cap∧(∀i,i<cs.length→∃b,a=some ⟨b,0,none⟩∧(onlyW W' (ab N)).cell? ⟨b,i,none⟩=cs[i]?)∧RowsIs (R (onlyW W' (ab N))) sz cs ts:=by
 obtain⟨a',cap',he,hc,hl,hcell⟩:=own_open G.own
 injection he with h1 h2 h3
 subst h1
 subst h3
 refine⟨hc,fun i hi=> ?_,?_⟩
 ·obtain⟨b,hb,ha,h⟩:=hcell i hi
  refine⟨b,ha,?_⟩
  have hv:W.cell? ⟨b,i,none⟩=some cs[i]:=by rw[h,List.getElem?_eq_getElem hi]
  have hlt:=World.block_lt_of_cell? W _ hv
  rw[cell_only,if_pos (by unfold ab;exact decide_eq_true (Nat.le_trans hN hb)),←h]
  unfold World.cell?
  rw[k b hlt hb]
 ·have:=G.rows
  rw[List.take_length] at this
  exact this.mono (hR _ _ (only_move fun b hb hs=>by
   unfold S1 at hs
   simp only[Bool.and_eq_true,decide_eq_true_eq] at hs
   exact⟨by unfold ab;exact decide_eq_true (Nat.le_trans hN hs.1),k b hb hs.1⟩))
def abx(N g:Nat):Nat→Bool:=fun b=>decide (N≤b)&&b != g
theorem abx_late{w W:World}{N M g:Nat}(k:Kept w W)(hg:w.heap.size≤g)(hN:M≤N):Sub (onlyW w (ab N)) (onlyW W (abx M g)):=only_move fun b hb hs=>⟨by
 unfold ab at hs
 unfold abx
 simp only[decide_eq_true_eq] at hs
 simp only[Bool.and_eq_true,decide_eq_true_eq,bne_iff_ne]
 omega,k.old b hb⟩
theorem abx_but{w W:World}{M g:Nat}(k:KeptB w W g):Sub (onlyW w (abx M g)) (onlyW W (abx M g)):=only_move fun b hb hs=>⟨hs,k.old b hb (by
 unfold abx at hs
 simp only[Bool.and_eq_true,bne_iff_ne] at hs
 exact hs.2)⟩
theorem abx_soon{w:World}{N M g:Nat}(hg:g<N)(hN:M≤N):Sub (onlyW w (ab N)) (onlyW w (abx M g)):=only_mono fun b hs=>by
 unfold ab at hs
 unfold abx
 simp only[decide_eq_true_eq] at hs
 simp only[Bool.and_eq_true,decide_eq_true_eq,bne_iff_ne]
 omega
theorem own31{Y:Array Value}(h:Own 27 Y){b:Bool}{a1:Option Addr}{n1 c1:Nat}{a2:Option Addr}{n2 c2:Nat}:Own 31 (Y++#[.bool b,.slice a1 n1 c1,.slice a2 n2 c2]):=by
 have h2:=h.2
 refine⟨?_,?_⟩
 ·obtain⟨x0,x1,x2,x3,x4,x5,x6,rfl⟩:=arr7 h.size7
  kernel_rfl
 ·rw[Array.all_append,h2]
  simp[Value.oneCell']
theorem Clm.own{w:World}{f:Nat}{v:Value}{c:ClaimD}(h:Clm w f v c):∃V Y a1 n1 c1 a2 n2 c2,v= .agg V∧V=Y++#[.bool c.strict,.slice a1 n1 c1,.slice a2 n2 c2]∧Own 31 V∧Own 27 Y∧Ex w f (.agg Y) c.goal∧Bxm w a1 n1 c1 c.box∧Cnm w f a2 n2 c2 c.conds:=by
 obtain⟨o,g,z,x1,x2,x3,x4,x5,x6,nm,a0,n0,cap0,a1,n1,cap1,a2,n2,cap2,rfl,h1,h2,h3⟩:=h
 exact⟨_,_,a1,n1,cap1,a2,n2,cap2,rfl,rfl,own31 own7,own7,h1,h2,h3⟩
theorem Clm.of{w:World}{f:Nat}{Y:Array Value}{c:ClaimD}{a1:Option Addr}{n1 c1:Nat}{a2:Option Addr}{n2 c2:Nat}(h1:Ex w f (.agg Y) c.goal)(h2:Bxm w a1 n1 c1 c.box)(h3:Cnm w f a2 n2 c2 c.conds):
 Clm w f (.agg (Y++#[.bool c.strict,.slice a1 n1 c1,.slice a2 n2 c2])) c:=by
 obtain⟨o,g,z,x1,x2,x3,x4,x5,x6,nm,a,n,cap,e⟩:=h1.agg7
 cases e
 exact⟨o,g,z,x1,x2,x3,x4,x5,x6,nm,a,n,cap,a1,n1,c1,a2,n2,c2,rfl,h1,h2,h3⟩
theorem Cnm.row{w:World}{f:Nat}{a:Option Addr}{n cap:Nat}{l:List CondD}(h:Cnm w f a n cap l){i:Nat}(hi:i<l.length):∃b off y0 y1 y2 y3 y4 y5 y6,a=some ⟨b,off,none⟩∧w.rangeAt b (off+i*8) [y0,y1,y2,y3,y4,y5,y6,.bool l[i].strict]∧
 Own 27 #[y0,y1,y2,y3,y4,y5,y6]∧Ex w f (.agg #[y0,y1,y2,y3,y4,y5,y6]) l[i].t:=by
 obtain⟨b,off,o,g,z,x1,x2,x3,x4,x5,x6,nm,a',n',cap',ha,h0,h1,h2,h3,h4,h5,h6,h7,he⟩:=h.2.2.2 i hi
 refine⟨b,off,_,_,_,_,_,_,_,ha,fun j v hv=> ?_,own7,he⟩
 rcases(show j=0∨j=1∨j=2∨j=3∨j=4∨j=5∨j=6∨j=7∨8≤j by omega) with rfl|rfl|rfl|rfl|rfl|rfl|rfl|rfl|hj<;>first
  |(injection hv with hv;subst hv;assumption)
  |(rw[List.getElem?_eq_none (by simpa using hj)] at hv;cases hv)
section
variable{n:Nat}{l:Fm}{ops:Array Oper}{rest:List Oper}{Q:Exit→Act→World→Prop}{oi oj:Oper}{fuel:Nat}{listed:Array Bool}{w w0:World}{d e lo up:Nat}
theorem zgrow{α:Type}{W0:World}{g3 t sz by_ k cap3:Nat}{z:Value}{st:TypeId}{R:World→List Value→α→Prop}{ts:List α}{a3:Option Addr}{cs:List Value}{V:Array Value}{T:Nat→Bool}{ob oa:Oper}{db da s:Tmp}
 (hi0:InfoIs t z sz by_)(hz:z.cells.size=sz)(hsz:0<sz)(hby:by_≤1024)(hst:Tryz.prog.underlying st=some (.slice t))
 (G:Grow W0 w g3 t sz (.slice a3 k cap3) k cs R ts)(hR:∀w w',Sub w w'→∀l t,R w l t→R w' l t)(oV:V.all (·.oneCell')=true)(hV:V.size=sz)(hk:k<ts.length)(hkb:k+1≤1099511627)
 (hr:R (onlyW w T) V.toList ts[k])(hT:∀b,T b=true→W0.heap.size≤b∧some b≠(Value.slice a3 k cap3).ownBlock)
 (hbs:(execOp (ev n l) ob).run Tryz.prog w= .ok (.value (.slice (some ⟨w.heap.size,0,none⟩) 1 1)) (w.alloc (.cells V t)))
 (h:∀w' a' cap',Grow W0 w' g3 t sz (.slice a' (k+1) cap') (k+1) (cs++V.toList) R ts→wpList Tryz.prog ops Q rest (frm n (upd (upd l db (.slice (some ⟨w.heap.size,0,none⟩) 1 1)) da (.slice a' (k+1) cap'))) w')
 (hg1:ob.guard=none:=by rfl)(hd1:ob.dst=some db:=by rfl)
 (hop2:oa.op= .call {callee:=.builtin .append,args:=#[.tmp s,.tmp db],argTypes:=#[st,st]}∧oa.guard=none∧oa.dst=some da:=by exact⟨rfl,rfl,rfl⟩)
 (hs:opv n l (.tmp s)=some (.slice a3 k cap3):=by rfl)(hne:s≠db∧db<n:=by decide):
 wpList Tryz.prog ops Q (ob::oa::rest) (frm n l) w:=by
 obtain⟨n1,n4⟩:=hne
 refine zv _ (by rw[frm_eval];exact hbs) hg1 hd1 ?_
 have kW:Kept w (w.alloc (.cells V t)):=(Kept.refl w).alloc _
 have bW:=Blk.new w V t
 have G2:=G.kept hR kW
 have hsz0:W0.heap.size≤(w.alloc (.cells V t)).heap.size:=G2.kb.size
 have es:opv n (upd l db (.slice (some ⟨w.heap.size,0,none⟩) 1 1)) (.tmp s)=some (.slice a3 k cap3):=by
  rw[←hs];simp only[opv,upd,beq_no n1];rfl
 have eb:opv n (upd l db (.slice (some ⟨w.heap.size,0,none⟩) 1 1)) (.tmp db)=some (.slice (some ⟨w.heap.size,0,none⟩) 1 1):=by
  simp only[opv,upd,Nat.beq_refl,cond_true,show Nat.blt db n=true from Nat.ble_eq_true_of_le n4]
 refine wpList_append_grow hop2.2.1 (.tmp s) (.tmp db) st hop2.1 hi0 hst hz hsz hby W0.heap.size hsz0 _ k cs (opv_eval es) G2.own ⟨w.heap.size,0,none⟩ 1 1 V.toList (opv_eval eb) (by simp[hV]) (blk_news bW) (fun u hu=> ?_) (by decide) hkb (fun v' w' ho hgb hor=> ?_)
 ·rw[Array.all_eq_true] at oV
  obtain⟨x,hx,rfl⟩:=List.getElem_of_mem hu
  exact oV x (by simpa using hx)
 obtain⟨a',cap',rfl,-,-,-⟩:=own_open ho
 rw[hop2.2.2,frm_put]
 exact h w' a' cap' (G2.append hR hsz0 ho hgb hor (by simpa using hV) hk (hR _ _ (only_keep kW) _ _ hr) hT)
theorem yca1(i j k:Nat){ok:Oper}{c:Nat}{P:(Nat→Bool)→Value→World→Prop}(B:Value→Value)(f:FuncId)(args:Array Value)(A:Array Value)(t:TypeId)(hS:Lk lo up w0 w)
 (hc:∀W,Kept w W→Calls Tryz.prog f args W fun e w'=>∃v,e= .returned v∧P (ab W.heap.size) v w'∧Kept W w')(hPs:∀S S' v W W',P S v W→Sub (onlyW W S) (onlyW W' S')→P S' v W')
 (h:∀W g v,w.heap.size≤g→g<W.heap.size→Kept w W→Blk W g A t→P (abx w.heap.size g) v W→Lk lo up w0 W→wpAnyH Tryz.prog .any ops Q (Lk lo up w0) fuel (((listed.setIfInBounds i true).setIfInBounds k true).setIfInBounds j true) (frm n (upd (upd (upd l d v) c (B v)) e (.pointer (some ⟨g,0,none⟩)))) W)
 (hb:∀S v W,P S v W→∀l',(l'=l∨∃p,l'=upd l e (.pointer p))→∀W',(execOp (ev n (upd l' d v)) ok).run Tryz.prog W'= .ok (.value (B v)) W')
 (hi:ops[i]? =some oi:=by rfl)(hj:ops[j]? =some oj:=by rfl)(hk:ops[k]? =some ok:=by rfl)
 (hrun:∀l',(l'=l∨∃p,l'=upd l e (.pointer p))→∀W,(execOp (ev n l') oi).run Tryz.prog W= .ok (.enter f args) W:=by rintro l' (rfl|⟨p,rfl⟩) W<;>kernel_rfl)
 (hal:∀W l',(execOp (frm n l').eval oj).run Tryz.prog W= .ok (.value (.pointer (some ⟨W.heap.size,0,none⟩))) (W.alloc (.cells A t)):=by intro W l';kernel_rfl)
 (hg:oi.guard=none:=by rfl)(hd:oi.dst=some d:=by rfl)(hg2:oj.guard=none:=by rfl)(he:oj.dst=some e:=by rfl)(hg3:ok.guard=none:=by rfl)(hd3:ok.dst=some c:=by rfl)(hne:d≠e∧c≠e∧i≠j∧k≠j:=by decide)
 (hr:Region.ready .any ops listed=[i,j]:=by kernel_rfl)(hr1:Region.ready .any ops ((listed.setIfInBounds i true).setIfInBounds k true)=[j]:=by kernel_rfl)(hr2:Region.ready .any ops (listed.setIfInBounds j true)=[i]:=by kernel_rfl)
 (hs:Region.noSelect ops=true:=by kernel_rfl)(hf1:Region.free .any ops (listed.setIfInBounds i true) k=true:=by kernel_rfl)(hc1:(Region.ready .any ops (listed.setIfInBounds i true)).contains k=true:=by kernel_rfl)
 (hf2:Region.free .any ops ((listed.setIfInBounds j true).setIfInBounds i true) k=true:=by kernel_rfl)(hc2:(Region.ready .any ops ((listed.setIfInBounds j true).setIfInBounds i true)).contains k=true:=by kernel_rfl)
 (hQ:∀c v b w,Q (.panic c) (b.put ok.dst v) w→Q (.panic c) b w:=by exact fun _ _ _ _ h=>h):
 wpAnyH Tryz.prog .any ops Q (Lk lo up w0) (fuel+1+1+1) listed (frm n l) w:=by
 obtain⟨hde,hce,hij,hkj⟩:=hne
 refine rd2 i j (fun K hK=> ?_) (fun K hK=> ?_) hi hj hr
 ·rw[if_pos (by simp[Region.wanted,hg])]
  unfold Oper.wp
  rw[frm_eval,hrun l (.inl rfl)]
  refine Calls.mono (hc w (Kept.refl w)) fun x w' hR=> ?_
  obtain⟨v,rfl,hPv,hk'⟩:=hR
  rw[hd]
  simp only[frm_put]
  refine hK.out _ _ (hS.kept hk') fun hl=> ?_
  refine yr k (B v) hl ?_ hk hg3 hd3 (hb _ v w' hPv l (.inl rfl)) hs hf1 hc1 (fun c'=>hQ c' _)
  refine ya j A t hl (fun W g h1 h2 h3 h4 h5=> ?_) hj (hal _ _) hg2 he hr1
  exact h W g v (by have:=hk'.size;omega) (by omega) (hk'.trans h2) h3 (hPs _ _ _ _ _ hPv (abx_late h2 (by omega) (Nat.le_refl _))) h5
 ·rw[if_pos (by simp[Region.wanted,hg2])]
  unfold Oper.wp
  rw[hal]
  simp only[Oper.upon,he,frm_put]
  have hka:Kept w (w.alloc (.cells A t)):=(Kept.refl w).alloc _
  refine hK.out _ _ (hS.kept hka) fun hl=> ?_
  refine yc i f args hl (hc _ hka) (fun x w' hR=> ?_) hi (hrun _ (.inr ⟨_,rfl⟩) _) hg hd hr2
  obtain⟨v,rfl,hPv,hk'⟩:=hR
  refine⟨hk',v,rfl,fun hl'=> ?_⟩
  refine yr k (B v) hl' ?_ hk hg3 hd3 (hb _ v w' hPv _ (.inr ⟨_,rfl⟩)) hs hf2 hc2 (fun c'=>hQ c' _)
  have hsz:(w.alloc (.cells A t)).heap.size=w.heap.size+1:=Array.size_push ..
  have:=h w' w.heap.size v (Nat.le_refl _) (by have:=hk'.size;omega) (hka.trans hk') ((Blk.new w A t).kept hk') (hPs _ _ _ _ _ hPv (abx_soon (by omega) (by omega))) hl'
  rw[upd_comm hce,upd_comm hde,Array.setIfInBounds_comm _ _ hkj,Array.setIfInBounds_comm _ _ hij] at this
  exact this
end
end
section
open Go Go.RowKit Go.Dig
open Go.Eng (Kept KW KeptB wp_region_kw kw_call)
def numOk(N D:Nat):Prop:=N=0∨small N D=true
theorem rN_zero(D:Nat):rN 0 D=0:=by unfold rN;exact Nat.zero_div _
theorem rD_zero(D:Nat):rD 0 D=1:=by
 unfold rD
 rw[Nat.gcd_zero_left]
 exact Nat.div_self (dn_pos D)
theorem numOk.mid{N D:Nat}(h:numOk N D):N=0∨N<Mid∧D<Mid:=by
 rcases h with h|h
 ·exact .inl h
 ·exact .inr ⟨(small_bounds h).1,(small_bounds h).2.1⟩
theorem numOk.sm{N D:Nat}(h:numOk N D):rN N D<Sm∧rD N D<Sm:=by
 rcases h with rfl|h
 ·rw[rN_zero,rD_zero]
  exact⟨pwr_pos 7000,pwr_one 7000 (by decide)⟩
 ·exact⟨(small_bounds h).2.2.1,(small_bounds h).2.2.2.1⟩
def sameR(s:Bool)(N D:Nat)(s':Bool)(N' D':Nat):Bool:=qcmp (s&&decide (0<N)) (rN N D) (rD N D) (s'&&decide (0<N')) (rN N' D') (rD N' D')==0
set_option maxHeartbeats 2000000 in
set_option maxRecDepth 100000 in
theorem rsame_calls{w:World}{v u:Value}{s s':Bool}{N D N' D':Nat}(h:Rt w v s N D)(h':Rt w u s' N' D')(hb:numOk N D)(hb':numOk N' D'):
 Calls Tryz.prog 41 #[v,u] w fun e w'=>e= .returned (.bool (sameR s N D s' N' D'))∧Kept w w':=by
 have hh:=h
 have hh':=h'
 obtain⟨vn,vd,rfl,hn,hd⟩:=h
 obtain⟨vn',vd',rfl,hn',hd'⟩:=h'
 obtain⟨a,n,cap,xs,rfl,_⟩:=hn.shape'
 obtain⟨ad,nd,capd,ys,rfl,_⟩:=hd.shape'
 obtain⟨a',n',cap',xs',rfl,_⟩:=hn'.shape'
 obtain⟨ad',nd',capd',ys',rfl,_⟩:=hd'.shape'
 have hA:=Blk.new w #[.bool s,.slice a n cap,.slice ad nd capd] 24
 have hB:=Blk.new (w.alloc (.cells #[.bool s,.slice a n cap,.slice ad nd capd] 24)) #[.bool s',.slice a' n' cap',.slice ad' nd' capd'] 24
 rw[show(w.alloc (.cells #[.bool s,.slice a n cap,.slice ad nd capd] 24)).heap.size=w.heap.size+1 from Array.size_push _] at hB
 have hk1:Kept w (w.alloc (.cells #[.bool s,.slice a n cap,.slice ad nd capd] 24)):=(Kept.refl w).alloc _
 have hk2:Kept (w.alloc (.cells #[.bool s,.slice a n cap,.slice ad nd capd] 24)) ((w.alloc (.cells #[.bool s,.slice a n cap,.slice ad nd capd] 24)).alloc (.cells #[.bool s',.slice a' n' cap',.slice ad' nd' capd'] 24)):=(Kept.refl _).alloc _
 replace hA:=hA.kept hk2
 have hk:=hk1.trans hk2
 have H1:=Lib.hid (fun(w':World)(k:Kept w w')=>of_qcalls (hh.kept k) hb.mid)
 have H2:=Lib.hid (fun(w':World)(k:Kept w w')=>of_qcalls (hh'.kept k) hb'.mid)
 have H3:=Lib.hid (fun(w':World)(x y:Value)(q:Qv w' x (s&&decide (0<N)) (rN N D) (rD N D))(q':Qv w' y (s'&&decide (0<N')) (rN N' D') (rD N' D'))=>qcmp_calls q q' hb.sm.1 hb.sm.2 hb'.sm.1 hb'.sm.2)
 have HR:Hid (sameR s N D s' N' D'=(qcmp (s&&decide (0<N)) (rN N D) (rD N D) (s'&&decide (0<N')) (rN N' D') (rD N' D')==0)):=Lib.hid rfl
 clear hn hd hn' hd' hh hh' hb hb' hk1 hk2
 generalize sameR s N D s' N' D'=res at*
 generalize rN N D=p1 at*
 generalize rD N D=p2 at*
 generalize rN N' D'=p3 at*
 generalize rD N' D'=p4 at*
 generalize (s&&decide (0<N))=z1 at*
 generalize (s'&&decide (0<N'))=z2 at*
 generalize hW:(w.alloc (.cells #[.bool s,.slice a n cap,.slice ad nd capd] 24)).alloc (.cells #[.bool s',.slice a' n' cap',.slice ad' nd' capd'] 24)=w2 at*
 obtain⟨p0,p1',p2',-⟩:=hA.facts3
 obtain⟨q0,q1,q2,-⟩:=hB.facts3
 have hall:∀w',Kept w2 w'→Kept w2 w'∧w'.cell? ⟨w.heap.size,0,none⟩=some (.bool s)∧w'.cell? ⟨w.heap.size,1,none⟩=some (.slice a n cap)∧w'.cell? ⟨w.heap.size,2,none⟩=some (.slice ad nd capd)∧w'.cell? ⟨w.heap.size+1,0,none⟩=some (.bool s')∧w'.cell? ⟨w.heap.size+1,1,none⟩=some (.slice a' n' cap')∧w'.cell? ⟨w.heap.size+1,2,none⟩=some (.slice ad' nd' capd'):=
  fun w' k=>⟨k,k.cell p0,k.cell p1',k.cell p2',k.cell q0,k.cell q1,k.cell q2⟩
 have HALL:=Lib.hid hall;clear hall
 subst hW
 go_enter Tryz.func41,Tryz.ntmps41
 go_wp2
 go_region_held3 (fun w'=>Kept ((w.alloc (.cells #[.bool s,.slice a n cap,.slice ad nd capd] 24)).alloc (.cells #[.bool s',.slice a' n' cap',.slice ad' nd' capd'] 24)) w'∧w'.cell? ⟨w.heap.size,0,none⟩=some (.bool s)∧w'.cell? ⟨w.heap.size,1,none⟩=some (.slice a n cap)∧w'.cell? ⟨w.heap.size,2,none⟩=some (.slice ad nd capd)∧w'.cell? ⟨w.heap.size+1,0,none⟩=some (.bool s')∧w'.cell? ⟨w.heap.size+1,1,none⟩=some (.slice a' n' cap')∧w'.cell? ⟨w.heap.size+1,2,none⟩=some (.slice ad' nd' capd'))
  (first|exact HALL.out _ (Kept.refl _).drew|exact HALL.out _ hS3|exact HALL.out _ hS4|exact HALL.out _ hS5)
  (first|(go_at_call 38;refine(H3.out _ _ _ (hv3.kept hk4) hv4).mono ?_;rintro e w5 ⟨rfl,hk5⟩;have hS5:=hS4.trans hk5)|(go_at_call_of 37 (Value.agg #[.bool s,.slice a n cap,.slice ad nd capd]);refine(H1.out _ hk.drew).mono ?_;rintro e w3 ⟨v3,rfl,hv3,hk3⟩;have hS3:=(Kept.refl ((w.alloc (.cells #[.bool s,.slice a n cap,.slice ad nd capd] 24)).alloc (.cells #[.bool s',.slice a' n' cap',.slice ad' nd' capd'] 24))).drew.trans hk3)|(go_at_call_of 37 (Value.agg #[.bool s',.slice a' n' cap',.slice ad' nd' capd']);refine(H2.out _ (hk.trans hS3)).mono ?_;rintro e w4 ⟨v4,rfl,hv4,hk4⟩;have hS4:=hS3.trans hk4))
 go_wp2
 go_ret
 exact⟨by rw[HR.out];rfl,hk.trans hS5⟩
end
section
open Go Go.RowKit Go.Dig
open Go.Eng (Kept KW KeptB wp_region_kw kw_call)
end
section
open Go Go.RowKit Go.Dig
open Go.Eng (Kept KW KeptB wp_region_kw kw_call)
theorem read_small{w:World}{v:Value}{neg:Bool}{N D:Nat}(h:Rt w v neg N D)(hT:Laid w)(hs:small N D=true):
 Calls Tryz.prog 61 #[v] w fun e w'=>∃a n c a' n' c',e= .returned (.tuple #[.agg #[.bool (neg&&decide (0<N)),.slice a n c,.slice a' n' c'],.bool true])∧
  Fr w' (.agg #[.bool (neg&&decide (0<N)),.slice a n c,.slice a' n' c']) (neg&&decide (0<N)) (rN N D) (rD N D)∧Kept w w':=by
 refine(read_calls h hT).mono ?_
 rintro e w' ⟨p,a,n,c,a',n',c',rfl,hk,hf⟩
 have hf:=hf hs
 obtain rfl:=fr_flag hf
 rw[hs]
 exact⟨a,n,c,a',n',c',rfl,hf,hk⟩
set_option maxHeartbeats 4000000 in
set_option maxRecDepth 100000 in
theorem compare_calls{w:World}{v u:Value}{s s':Bool}{N D N' D':Nat}(h:Rt w v s N D)(h':Rt w u s' N' D')(hT:Laid w)(hs:small N D=true)(hs':small N' D'=true):
 Calls Tryz.prog 32 #[v,u] w fun e w'=>e= .returned (.tuple #[.int .i64 (qcmp (s&&decide (0<N)) (rN N D) (rD N D) (s'&&decide (0<N')) (rN N' D') (rD N' D')),.int .i64 0])∧Kept w w':=by
 have hr1:=fun(w':World)(k:Kept w w')=>read_small (h.kept k) (hT.kept k) hs
 have hr2:=fun(w':World)(k:Kept w w')=>read_small (h'.kept k) (hT.kept k) hs'
 obtain⟨a,n,c,a2,n2,c2,rfl⟩:=h.shape
 obtain⟨b,m,d,b2,m2,d2,rfl⟩:=h'.shape
 rw[←fcmp_qcmp _ _ _ _ _ _ (rD_pos N D) (rD_pos N' D')]
 have HF:Hid (∀(w':World)(x y:Value),Fr w' x (s&&decide (0<N)) (rN N D) (rD N D)→Fr w' y (s'&&decide (0<N')) (rN N' D') (rD N' D')→Calls Tryz.prog 62 #[x,y] w' fun e w''=>e= .returned (.int .i64 (fcmp (s&&decide (0<N)) (rN N D) (rD N D) (s'&&decide (0<N')) (rN N' D') (rD N' D')))∧Kept w' w''):=by
  obtain⟨g1,g2,g3,g4,g5,g6⟩:=small_bounds hs
  obtain⟨g7,g8,g9,g10,g11,g12⟩:=small_bounds hs'
  exact Lib.hid fun w' x y q q'=>fcmp_calls q q' (sm_big g3) (sm_big g4) (sm_big g9) (sm_big g10) (mid_big (p14_mid (sm_mul g3 g10)))
 clear h h' hT hs hs'
 generalize fcmp (s&&decide (0<N)) (rN N D) (rD N D) (s'&&decide (0<N')) (rN N' D') (rD N' D')=cc at*
 generalize (s&&decide (0<N))=p at*
 generalize (s'&&decide (0<N'))=q at*
 generalize rN N D=P1 at*
 generalize rD N D=P2 at*
 generalize rN N' D'=Q1 at*
 generalize rD N' D'=Q2 at*
 have hA:=Blk.new w #[.bool s,.slice a n c,.slice a2 n2 c2] 24
 have hB:=Blk.new (w.alloc (.cells #[.bool s,.slice a n c,.slice a2 n2 c2] 24)) #[.bool s',.slice b m d,.slice b2 m2 d2] 24
 rw[show(w.alloc (.cells #[.bool s,.slice a n c,.slice a2 n2 c2] 24)).heap.size=w.heap.size+1 from Array.size_push _] at hB
 have hk1:Kept w (w.alloc (.cells #[.bool s,.slice a n c,.slice a2 n2 c2] 24)):=(Kept.refl w).alloc _
 have hk2:Kept (w.alloc (.cells #[.bool s,.slice a n c,.slice a2 n2 c2] 24)) ((w.alloc (.cells #[.bool s,.slice a n c,.slice a2 n2 c2] 24)).alloc (.cells #[.bool s',.slice b m d,.slice b2 m2 d2] 24)):=(Kept.refl _).alloc _
 replace hA:=hA.kept hk2
 have hk:=hk1.trans hk2
 clear hk1 hk2
 obtain⟨e0,e1,e2,-⟩:=hA.facts3
 obtain⟨d0,d1,d3,-⟩:=hB.facts3
 go_enter Tryz.func32,Tryz.ntmps32
 go_wp2_with(first
  |(go_at_call_of 61 (Value.agg #[.bool s,.slice a n c,.slice a2 n2 c2]);refine(hr1 _ hk).mono ?_;rintro e w2 ⟨x1,x2,x3,x4,x5,x6,rfl,hfa,hk2⟩;replace hA:=hA.kept hk2;replace hB:=hB.kept hk2;clear e0 e1 e2 d0 d1 d3
    have hP:=Blk.new w2 #[.bool p,.slice x1 x2 x3,.slice x4 x5 x6] 129
    have hkP:Kept w2 (w2.alloc (.cells #[.bool p,.slice x1 x2 x3,.slice x4 x5 x6] 129)):=(Kept.refl w2).alloc _
    obtain⟨d0,d1,d3,-⟩:=(hB.kept hkP).facts3)
  |(go_at_call_of 61 (Value.agg #[.bool s',.slice b m d,.slice b2 m2 d2]);refine(hr2 _ ((hk.trans hk2).trans hkP)).mono ?_;rintro e w3 ⟨y1,y2,y3,y4,y5,y6,rfl,hfb,hk3⟩;replace hP:=hP.kept hk3;clear d0 d1 d3
    have hQ:=Blk.new w3 #[.bool q,.slice y1 y2 y3,.slice y4 y5 y6] 129
    have hkQ:Kept w3 (w3.alloc (.cells #[.bool q,.slice y1 y2 y3,.slice y4 y5 y6] 129)):=(Kept.refl w3).alloc _
    obtain⟨d0,d1,d3,-⟩:=hQ.facts3
    obtain⟨e0,e1,e2,-⟩:=(hP.kept hkQ).facts3)
  |(go_at_call 62;refine(HF.out _ _ _ (hfa.kept ((hkP.trans hk3).trans hkQ)) (hfb.kept hkQ)).mono ?_;rintro e w4 ⟨rfl,hk4⟩))
 go_ret2
 exact⟨rfl,((((hk.trans hk2).trans hkP).trans hk3).trans hkQ).trans hk4⟩
end
section
open Go Go.RowKit Go.Dig Go.Deep
open Go.Eng (Kept KW KeptB wp_region_kw kw_call)
def kidR(f:Nat):World→List Value→Tree→Prop:=fun W l t=>Ex W f (.agg l.toArray) t
set_option maxHeartbeats 8000000
set_option maxRecDepth 100000
end
section
open Go Go.RowKit Go.Dig Go.Deep
open Go.Eng (Kept KW KeptB wp_region_kw kw_call)
set_option maxHeartbeats 16000000
set_option maxRecDepth 100000
end
section
open Go Go.RowKit Go.Dig Go.Deep
open Go.Eng (Kept KW KeptB wp_region_kw kw_call)
def condR(f:Nat):World→List Value→CondD→Prop:=fun W l d=>∃(o g:Int)(z:Bool)(x1:Option Addr)(x2 x3:Nat)(x4:Option Addr)(x5 x6:Nat)(nm:ByteArray)(a:Option Addr)(n cap:Nat),
 l=[.int .i64 o,.int .i64 g,.bool z,.slice x1 x2 x3,.slice x4 x5 x6,.string nm,.slice a n cap,.bool d.strict]∧Ex W f (.agg #[.int .i64 o,.int .i64 g,.bool z,.slice x1 x2 x3,.slice x4 x5 x6,.string nm,.slice a n cap]) d.t
theorem Cnm.mk{w:World}{f:Nat}{a:Option Addr}{cap:Nat}{l:List CondD}{cs:List Value}(hc:l.length≤cap)(hn:l.length<4611686018427387904)
 (hcell:∀i,i<cs.length→∃b,a=some ⟨b,0,none⟩∧w.cell? ⟨b,i,none⟩=cs[i]?)(hk:RowsIs (condR f w) 8 cs l):Cnm w f a l.length cap l:=by
 refine⟨rfl,hc,hn,fun i h=> ?_⟩
 have hlen:i*8+8≤cs.length:=by rw[hk.1];omega
 obtain⟨b,ha,-⟩:=hcell (i*8) (by omega)
 obtain⟨o,g,z,x1,x2,x3,x4,x5,x6,nm,a',n,cap',e,hv⟩:=hk.2 i h
 have hat:∀j(u:Value),j<8→[Value.int .i64 o,.int .i64 g,.bool z,.slice x1 x2 x3,.slice x4 x5 x6,.string nm,.slice a' n cap',.bool l[i].strict][j]? =some u→w.cell? ⟨b,0+i*8+j,none⟩=some u:=by
  intro j u hj hu
  obtain⟨b',ha',hc'⟩:=hcell (i*8+j) (by omega)
  rw[ha] at ha'
  cases ha'
  rw[Nat.zero_add,hc',←hu,←e]
  simp[hj]
 exact⟨b,0,o,g,z,x1,x2,x3,x4,x5,x6,nm,a',n,cap',ha,hat 0 _ (by decide) rfl,hat 1 _ (by decide) rfl,hat 2 _ (by decide) rfl,hat 3 _ (by decide) rfl,hat 4 _ (by decide) rfl,hat 5 _ (by decide) rfl,hat 6 _ (by decide) rfl,hat 7 _ (by decide) rfl,hv⟩
end
section
open Go Go.RowKit Go.Dig Go.Deep
open Go.Eng (Kept KW KeptB wp_region_kw kw_call)
def loS(i:IvD):Bool:=if i.li then false else i.s1&&decide (0<i.N1)
def loN(i:IvD):Nat:=if i.li then 0 else rN i.N1 i.D1
def loD(i:IvD):Nat:=if i.li then 0 else rD i.N1 i.D1
def hiS(i:IvD):Bool:=if i.hi then false else i.s2&&decide (0<i.N2)
def hiN(i:IvD):Nat:=if i.hi then 0 else rN i.N2 i.D2
def hiD(i:IvD):Nat:=if i.hi then 0 else rD i.N2 i.D2
theorem ends_sm{i:IvD}(hf:i.fine=true):loN i<Sm∧loD i<Sm∧hiN i<Sm∧hiD i<Sm:=by
 have hf2:small i.N1 i.D1=true∧small i.N2 i.D2=true:=by
  have hf:(small i.N1 i.D1&&small i.N2 i.D2)=true:=hf
  simpa using hf
 obtain⟨-,-,g1,g2,-,-⟩:=small_bounds hf2.1
 obtain⟨-,-,g3,g4,-,-⟩:=small_bounds hf2.2
 have h0:0<Sm:=pwr_pos 7000
 unfold loN loD hiN hiD
 refine⟨?_,?_,?_,?_⟩<;>split<;>assumption
theorem iof_nv{w:World}{v:Value}{i:IvD}(h:Ivl w v i)(hf:i.fine=true)(hv:i.void=false):
 Calls Tryz.prog 17 #[v] w fun e w'=>∃v',e= .returned v'∧Iq w' v' (loS i) (loN i) (loD i) (hiS i) (hiN i) (hiD i) i.li i.hi false∧Kept w w':=by
 refine(iof_calls h hf).mono ?_
 rintro e w' ⟨v',he,hk,hi⟩
 rw[hv] at hi
 exact⟨v',he,hi,hk⟩
theorem Iq.kept{w w':World}{v:Value}{p1:Bool}{n1 d1:Nat}{p2:Bool}{n2 d2:Nat}{li hi em:Bool}(h:Iq w v p1 n1 d1 p2 n2 d2 li hi em)(k:Kept w w'):Iq w' v p1 n1 d1 p2 n2 d2 li hi em:=by
 obtain⟨a,n,c,a',n',c',b,m,e,b',m',e',rfl,h1,h2⟩:=h
 exact⟨a,n,c,a',n',c',b,m,e,b',m',e',rfl,h1.kept k,h2.kept k⟩
theorem Iq.keptB{w w':World}{b0:Nat}{v:Value}{p1:Bool}{n1 d1:Nat}{p2:Bool}{n2 d2:Nat}{li hi em:Bool}(h:Iq w v p1 n1 d1 p2 n2 d2 li hi em)(k:KeptB w w' b0)(hb:NoWords w b0):Iq w' v p1 n1 d1 p2 n2 d2 li hi em:=by
 obtain⟨a,n,c,a',n',c',b,m,e,b',m',e',rfl,h1,h2⟩:=h
 exact⟨a,n,c,a',n',c',b,m,e,b',m',e',rfl,h1.keptB k hb,h2.keptB k hb⟩
theorem Iq.own{w:World}{v:Value}{p1:Bool}{n1 d1:Nat}{p2:Bool}{n2 d2:Nat}{li hi em:Bool}(h:Iq w v p1 n1 d1 p2 n2 d2 li hi em):∃V,v= .agg V∧Own 57 V:=by
 obtain⟨a,n,c,a',n',c',b,m,e,b',m',e',rfl,-⟩:=h
 exact⟨_,rfl,⟨by kernel_rfl,by simp[Value.oneCell']⟩⟩
theorem Lk.zero{w w':World}(k:Lk 0 0 w w'):Kept w w':=⟨k.size,fun b hb=>k.old b hb (.inr (Nat.zero_le _)),k.tape,k.os,k.output⟩
def ZQ:Array Value:=#[.bool false,.slice none 0 0,.slice none 0 0,.bool false,.slice none 0 0,.slice none 0 0,.bool false,.bool false,.bool false]
theorem own99{s1:Bool}{a1:Option Addr}{n1 c1:Nat}{a2:Option Addr}{n2 c2:Nat}{s2:Bool}{a3:Option Addr}{n3 c3:Nat}{a4:Option Addr}{n4 c4:Nat}{p q r:Bool}:Own 57 #[.bool s1,.slice a1 n1 c1,.slice a2 n2 c2,.bool s2,.slice a3 n3 c3,.slice a4 n4 c4,.bool p,.bool q,.bool r]:=
 ⟨by kernel_rfl,by simp[Value.oneCell']⟩
theorem ownZQ:Own 57 ZQ:=own99
theorem own97{s1:Bool}{a1:Option Addr}{n1 c1:Nat}{a2:Option Addr}{n2 c2:Nat}:Own 55 #[.bool s1,.slice a1 n1 c1,.slice a2 n2 c2]:=⟨by kernel_rfl,by simp[Value.oneCell']⟩
section
variable{n:Nat}{l:Fm}{ops:Array Oper}{rest:List Oper}{Q:Exit→Act→World→Prop}{oi oj om:Oper}{fuel:Nat}{listed:Array Bool}{w w0:World}{d e e' lo up:Nat}
theorem zregJ{σ:Type}{id:Nat}(L:σ→List (Nat×Value))(I:σ→World→Prop)
 (h:∀Q':Exit→Act→World→Prop,(∀c(a:Act)(t:Array Value) w,Q' (.panic c) ⟨t,a.defers⟩ w→Q' (.panic c) a w)→(∀s l' W,sees l' (L s)→I s W→Q' .normal (frm n l') W)→(Code.region id ops true).wp Tryz.prog Q' (frm n l) w)
 (hQ:∀s l' W,I s W→Q .normal (frm n (look l' (L s))) W)(hp:∀c(a:Act)(t:Array Value) w,Q (.panic c) ⟨t,a.defers⟩ w→Q (.panic c) a w:=by exact fun _ _ _ _ h=>h):(Code.region id ops true).wp Tryz.prog Q (frm n l) w:=
 h Q hp fun s l' W hs hI=>by
   have:=hQ s l' W hI
   rwa [look_eq hs] at this
end
set_option maxHeartbeats 8000000
set_option maxRecDepth 100000
end
section
open Go Go.RowKit Go.Dig
open Go.Eng (Kept KW KeptB wp_region_kw kw_call)
end
section
open Go Go.RowKit Go.Dig
open Go.Eng (Kept KW KeptB wp_region_kw kw_call)
end
section
open Go Go.RowKit Go.Dig Go.Deep
open Go.Eng (Kept KW KeptB wp_region_kw kw_call)
set_option maxHeartbeats 16000000
set_option maxRecDepth 100000
end
section
open Go Go.RowKit Go.Dig Go.Deep
open Go.Eng (Kept KW KeptB wp_region_kw kw_call)
theorem Ex.more{w:World}:∀(f:Nat){v:Value}{t:Tree},Ex w f v t→Ex w (f+1) v t
 |0,_,_,h=>h.elim
 |f+1,v,.node op arg s N D name kids,⟨x1,x2,x3,x4,x5,x6,a,cap,hv,hc,hr,hn,hk⟩=>by
  refine⟨x1,x2,x3,x4,x5,x6,a,cap,hv,hc,hr,hn,fun i h=> ?_⟩
  obtain⟨b,off,cs,ha,hs,hcell,he⟩:=hk i h
  exact⟨b,off,cs,ha,hs,hcell,Ex.more f he⟩
theorem Ex.up{w:World}{f:Nat}{v:Value}{t:Tree}(h:Ex w f v t):∀(k:Nat),Ex w (f+k) v t
 |0=>h
 |k+1=>Ex.more _ (h.up k)
theorem Ex.upTo{w:World}{f g:Nat}{v:Value}{t:Tree}(h:Ex w f v t)(hle:f≤g):Ex w g v t:=by
 have:=h.up (g-f)
 rwa [Nat.add_sub_cancel' hle] at this
end
section
open Go Go.RowKit Go.Dig Go.Deep
open Go.Eng (Kept KW KeptB wp_region_kw kw_call)
theorem RowsIs.append{α:Type}{R:List Value→α→Prop}{sz:Nat}{cs cs':List Value}{ts ts':List α}(h:RowsIs R sz cs ts)(h':RowsIs R sz cs' ts'):RowsIs R sz (cs++cs') (ts++ts'):=by
 refine⟨by rw[List.length_append,List.length_append,h.1,h'.1,Nat.add_mul],fun i hi=> ?_⟩
 by_cases hlt:i<ts.length
 ·rw[List.getElem_append_left hlt]
  have hle:i*sz+sz≤cs.length:=by
   rw[h.1,←Nat.succ_mul]
   exact Nat.mul_le_mul_right sz hlt
  rw[List.drop_append_of_le_length (by omega),List.take_append_of_le_length (by rw[List.length_drop];omega)]
  exact h.2 i hlt
 ·obtain⟨j,rfl⟩:∃j,i=ts.length+j:=⟨i-ts.length,by omega⟩
  have hj:j<ts'.length:=by simp at hi;omega
  rw[List.getElem_append_right (by omega)]
  simp only[Nat.add_sub_cancel_left]
  rw[show(ts.length+j)*sz=cs.length+j*sz by rw[h.1,Nat.add_mul],List.drop_append]
  rw[List.drop_of_length_le (by omega),List.nil_append,show cs.length+j*sz-cs.length=j*sz by omega]
  exact h'.2 j hj
theorem Cnm.cells{w:World}{f:Nat}{a:Option Addr}{n cap:Nat}{l:List CondD}(h:Cnm w f a n cap l)(hp:0<l.length):
 ∃(b off:Nat)(cs:List Value),a=some ⟨b,off,none⟩∧RowsIs (condR f w) 8 cs l∧(∀(j:Nat)(u:Value),cs[j]? =some u→w.cell? ⟨b,off+j,none⟩=some u)∧∀u∈cs,u.oneCell'=true:=by
 obtain⟨-,-,-,hi⟩:=h
 obtain⟨b,off,-,-,-,-,-,-,-,-,-,-,-,-,-,ha,-⟩:=hi 0 hp
 subst ha
 have key:∀k,k≤l.length→∃cs:List Value,RowsIs (condR f w) 8 cs (l.take k)∧(∀(j:Nat)(u:Value),cs[j]? =some u→w.cell? ⟨b,off+j,none⟩=some u)∧∀u∈cs,u.oneCell'=true:=by
  intro k
  induction k with
  |zero=>exact fun _=>⟨[],RowsIs.nil _ _,fun j u h=>by simp at h,fun u h=>by cases h⟩
  |succ k ih=>
   intro hk
   obtain⟨cs,h1,h2,h3⟩:=ih (by omega)
   obtain⟨b',off',o,g,z,x1,x2,x3,x4,x5,x6,nm,a',n',cap',ha,c0,c1,c2,c3,c4,c5,c6,c7,he⟩:=hi k (by omega)
   cases ha
   have hlen:cs.length=k*8:=by rw[h1.1,List.length_take];omega
   refine⟨cs++[.int .i64 o,.int .i64 g,.bool z,.slice x1 x2 x3,.slice x4 x5 x6,.string nm,.slice a' n' cap',.bool l[k].strict],h1.take_succ (by omega) rfl ⟨o,g,z,x1,x2,x3,x4,x5,x6,nm,a',n',cap',rfl,he⟩,?_,?_⟩
   ·intro j u hu
    by_cases hj:j<cs.length
    ·rw[List.getElem?_append_left hj] at hu
     exact h2 j u hu
    ·rw[List.getElem?_append_right (by omega)] at hu
     obtain⟨i,rfl⟩:∃i,j=k*8+i:=⟨j-k*8,by omega⟩
     rw[show k*8+i-cs.length=i by omega] at hu
     have hi8:i<8:=by
      have:=(List.getElem?_eq_some_iff.1 hu).1
      simpa using this
     rw[←Nat.add_assoc]
     match i,hi8 with
     |0,_=>cases hu;exact c0
     |1,_=>cases hu;exact c1
     |2,_=>cases hu;exact c2
     |3,_=>cases hu;exact c3
     |4,_=>cases hu;exact c4
     |5,_=>cases hu;exact c5
     |6,_=>cases hu;exact c6
     |7,_=>cases hu;exact c7
   ·intro u hu
    rcases List.mem_append.1 hu with hu|hu
    ·exact h3 u hu
    ·simp only[List.mem_cons,List.mem_nil_iff,or_false] at hu
     rcases hu with rfl|rfl|rfl|rfl|rfl|rfl|rfl|rfl<;>rfl
 obtain⟨cs,h1,h2,h3⟩:=key l.length (Nat.le_refl _)
 rw[List.take_length] at h1
 exact⟨b,off,cs,rfl,h1,h2,h3⟩
end
section
open Go Go.RowKit Go.Dig Go.Deep
open Go.Eng (Kept KW KeptB wp_region_kw kw_call)
end
section
open Go Go.RowKit Go.Dig Go.Deep
open Go.Eng (Kept KW KeptB wp_region_kw kw_call)
theorem Clm.upTo{w:World}{f g:Nat}{v:Value}{c:ClaimD}(h:Clm w f v c)(hle:f≤g):Clm w g v c:=by
 obtain⟨o,gg,z,x1,x2,x3,x4,x5,x6,nm,a0,n0,cap0,a1,n1,cap1,a2,n2,cap2,rfl,h1,h2,hn,hc,hb,hi⟩:=h
 refine⟨o,gg,z,x1,x2,x3,x4,x5,x6,nm,a0,n0,cap0,a1,n1,cap1,a2,n2,cap2,rfl,h1.upTo hle,h2,hn,hc,hb,fun i hl=> ?_⟩
 obtain⟨b,off,o,g,z,x1,x2,x3,x4,x5,x6,nm,a',n',cap',ha,c0,c1,c2,c3,c4,c5,c6,c7,he⟩:=hi i hl
 exact⟨b,off,o,g,z,x1,x2,x3,x4,x5,x6,nm,a',n',cap',ha,c0,c1,c2,c3,c4,c5,c6,c7,he.upTo hle⟩
theorem Lk.fresh{lo hi N M:Nat}{S:Nat→Bool}{W W':World}(D:Lk lo hi W W')(hN:hi≤N)(hM:M≤N):Sub (onlyW W (ab N)) (onlyW W' (fun b=>S b||decide (M≤b))):=only_move fun b hb hs=>by
 unfold ab at hs
 simp only[decide_eq_true_eq] at hs
 exact⟨by simp only[Bool.or_eq_true,decide_eq_true_eq];omega,D.old b hb (.inr (by omega))⟩
theorem zret1b{n d:Nat}{l:Fm}{w:World}{fn:Func}{ty t1:TypeId}{p1:Tmp}{g1:Nat}{V1:Array Value}{v:Value}{R:Ending→World→Prop}(b1:Blk w g1 V1 t1)(v1:Own ty V1)(hR:R (.returned (.tuple #[.agg V1,v])) w)
 (h:fn.results=#[.cell p1 ty,.tmp d]:=by rfl)(hx1:opv n l (.tmp p1)=some (.pointer (some ⟨g1,0,none⟩)):=by rfl)(hv:opv n l (.tmp d)=some v:=by rfl)(hu:(Tryz.prog.underlying ty).map TypeDesc.isRow=some true:=by kernel_rfl):bodyPost Tryz.prog fn R .ret (frm n l) w:=by
 refine bodyPost_ret ?_ rfl hR
 have e0:=tmp_get hv
 have e1:=tmp_get hx1
 simp only[Array.getD_eq_getD_getElem?] at e0 e1
 simp[results,h,e0,e1,asAddr,b1.loadVar v1 hu]
set_option maxHeartbeats 8000000
set_option maxRecDepth 100000
end
section
open Go Go.RowKit Go.Dig Go.Deep
open Go.Eng (Kept KW KeptB wp_region_kw kw_call)
set_option maxHeartbeats 8000000
set_option maxRecDepth 100000
def ZR:Array Value:=#[.bool false,.slice none 0 0,.slice none 0 0]
theorem noLt{b:Nat}:b<0∨0≤b:=.inr (Nat.zero_le _)
theorem eownRat_fresh{w:World}{s:Bool}{a1:Option Addr}{n1 c1:Nat}{a2:Option Addr}{n2 c2 N D:Nat}(h:Rt w (.agg #[.bool s,.slice a1 n1 c1,.slice a2 n2 c2]) s N D):
 Calls Tryz.prog 127 #[.agg #[.bool s,.slice a1 n1 c1,.slice a2 n2 c2]] w fun e w'=>∃v,e= .returned v∧(∃b1 m1 d1 b2 m2 d2,v= .agg #[.bool s,.slice b1 m1 d1,.slice b2 m2 d2]∧Rt (onlyW w' (ab w.heap.size)) v s N D)∧Kept w w':=by
 obtain⟨vn,vd,hv,hn,hd⟩:=h
 have hv':=Value.agg.inj hv
 simp only[Array.mk.injEq,List.cons.injEq,and_true,true_and] at hv'
 obtain⟨rfl,rfl⟩:=hv'
 refine ent1 11 Tryz.func127 rfl Tryz.ntmps127 ?_
 iterate 3 go_step
 refine zb fun w1 g1 e1 k1 p1 s1=> ?_
 refine za ZR 24 fun w2 g2 e2 k2 p2 s2=> ?_
 replace p1:=p1.kept k2
 iterate 4 go_step
 refine drawn g2 (g2+1) fun hS=> ?_
 have K:=(k1.trans k2).trans (Kept.refl w2).drew
 have hdz:w2.drew.heap.size=w2.heap.size:=rfl
 have hlt:g1<g2:=by omega
 refine yzg 0 hS ?_
 refine yl1g 1 (p1.cell 0 rfl) (.inl hlt) hS ?_
 refine yzg 2 hS ?_
 refine yl1g 3 (p1.cell 1 rfl) (.inl hlt) hS ?_
 refine yzg 5 hS ?_
 refine yl1g 6 (p1.cell 2 rfl) (.inl hlt) hS ?_
 refine yc 4 200 _ hS (clone_fresh (hn.kept K)) fun e w3 ⟨b1,m1,d1,he,r1,k3⟩=>⟨k3,_,he,fun hS=> ?_⟩
 refine yc 7 200 _ hS (clone_fresh (hd.kept (K.trans k3))) fun e w4 ⟨b2,m2,d2,he,r2,k4⟩=>⟨k4,_,he,fun hS=> ?_⟩
 refine yr 8 (.agg #[.bool s,.slice b1 m1 d1,.slice b2 m2 d2]) hS ?_
 refine yt 9 ((p2.kept (Kept.refl w2).drew).kept (k3.trans k4)) own3 own3 (.inl ⟨Nat.le_refl _,Nat.lt_succ_self _⟩) hS fun w5 k5 p2 hS=>yend ?_
 iterate 4 go_step
 have q3:=k3.size
 have h1:Sub (onlyW w3 (ab w2.drew.heap.size)) (onlyW w5 (ab w.heap.size)):=only_move fun b hb hs=>by
  unfold ab at hs⊢
  simp only[decide_eq_true_eq] at hs⊢
  exact⟨by omega,(k5.old b (by have:=k4.size;omega) (by omega)).trans (k4.old b hb)⟩
 have h2:Sub (onlyW w4 (ab w3.heap.size)) (onlyW w5 (ab w.heap.size)):=only_move fun b hb hs=>by
  unfold ab at hs⊢
  simp only[decide_eq_true_eq] at hs⊢
  exact⟨by omega,k5.old b hb (by omega)⟩
 exact zret1 p2 own3 ⟨_,rfl,⟨_,_,_,_,_,_,rfl,_,_,rfl,r1.sub h1,r2.sub h2⟩,(((K.trans k3).trans k4)).but k5 (by omega)⟩
theorem eown_calls{w:World}{v:Value}{i:IvD}(h:Ivl w v i):Calls Tryz.prog 59 #[v] w fun e w'=>∃v',e= .returned v'∧Ivl (onlyW w' (ab w.heap.size)) v' i∧Kept w w':=by
 obtain⟨a1,n1,c1,a2,n2,c2,a3,n3,c3,a4,n4,c4,rfl,r1,r2⟩:=h
 refine ent1 13 Tryz.func59 rfl Tryz.ntmps59 ?_
 iterate 3 go_step
 refine zb fun w1 g1 e1 k1 p1 s1=> ?_
 refine za ZI 43 fun w2 g2 e2 k2 p2 s2=> ?_
 replace p1:=p1.kept k2
 iterate 4 go_step
 refine drawn g2 (g2+1) fun hS=> ?_
 have K:=(k1.trans k2).trans (Kept.refl w2).drew
 have hdz:w2.drew.heap.size=w2.heap.size:=rfl
 have hlt:g1<g2:=by omega
 refine yzg 0 hS ?_
 refine ylg 1 (V:=#[_,_,_]) (p1.part 0) (.inl hlt) own3 hS ?_
 refine yzg 3 hS ?_
 refine ylg 4 (V:=#[_,_,_]) (p1.part 3) (.inl hlt) own3 hS ?_
 refine yzg 6 hS ?_
 refine yl1g 7 (p1.cell 6 rfl) (.inl hlt) hS ?_
 refine yzg 8 hS ?_
 refine yl1g 9 (p1.cell 7 rfl) (.inl hlt) hS ?_
 refine yc 2 127 _ hS (eownRat_fresh (r1.kept K)) fun e w3 ⟨v3,he,⟨b1,m1,d1,b2,m2,d2,hv3,x1⟩,k3⟩=>⟨k3,_,he,fun hS=> ?_⟩
 subst hv3
 refine yc 5 127 _ hS (eownRat_fresh (r2.kept (K.trans k3))) fun e w4 ⟨v4,he,⟨b3,m3,d3,b4,m4,d4,hv4,x2⟩,k4⟩=>⟨k4,_,he,fun hS=> ?_⟩
 subst hv4
 refine yr 10 (.agg #[.bool i.s1,.slice b1 m1 d1,.slice b2 m2 d2,.bool i.s2,.slice b3 m3 d3,.slice b4 m4 d4,.bool i.li,.bool i.hi]) hS ?_
 refine yt 11 ((p2.kept (Kept.refl w2).drew).kept (k3.trans k4)) own39 own39 (.inl ⟨Nat.le_refl _,Nat.lt_succ_self _⟩) hS fun w5 k5 p2 hS=>yend ?_
 iterate 4 go_step
 have q3:=k3.size
 have h1:Sub (onlyW w3 (ab w2.drew.heap.size)) (onlyW w5 (ab w.heap.size)):=only_move fun b hb hs=>by
  unfold ab at hs⊢
  simp only[decide_eq_true_eq] at hs⊢
  exact⟨by omega,(k5.old b (by have:=k4.size;omega) (by omega)).trans (k4.old b hb)⟩
 have h2:Sub (onlyW w4 (ab w3.heap.size)) (onlyW w5 (ab w.heap.size)):=only_move fun b hb hs=>by
  unfold ab at hs⊢
  simp only[decide_eq_true_eq] at hs⊢
  exact⟨by omega,k5.old b hb (by omega)⟩
 exact zret1 p2 own39 ⟨_,rfl,⟨_,_,_,_,_,_,_,_,_,_,_,_,rfl,x1.sub h1,x2.sub h2⟩,(((K.trans k3).trans k4)).but k5 (by omega)⟩
theorem eindex1_calls{w:World}{bx:Nat}{nm nk:ByteArray}(hb:w.cell? ⟨bx,0,none⟩=some (.string nm))(s1:Bool)(a1:Option Addr)(n1 c1:Nat)(a2:Option Addr)(n2 c2:Nat)(s2:Bool)(a3:Option Addr)(n3 c3:Nat)(a4:Option Addr)(n4 c4:Nat)(p q:Bool):
 Calls Tryz.prog 126 #[.agg #[.string nk,.bool s1,.slice a1 n1 c1,.slice a2 n2 c2,.bool s2,.slice a3 n3 c3,.slice a4 n4 c4,.bool p,.bool q],.pointer (some ⟨bx,0,none⟩)] w fun e w'=>e= .returned (.bool (nk.toList==nm.toList))∧Kept w w':=by
 have hk:Kept w (w.alloc (.cells #[.string nk,.bool s1,.slice a1 n1 c1,.slice a2 n2 c2,.bool s2,.slice a3 n3 c3,.slice a4 n4 c4,.bool p,.bool q] 45)):=(Kept.refl w).alloc _
 have h0:=hk.cell hb
 go_enter Tryz.func126,Tryz.ntmps126
 go_wp2
 go_ret
 exact⟨rfl,hk⟩
theorem eindexside_calls{w:World}{a:Option Addr}{n cap:Nat}{l:List SideD}(h:Bxm w a n cap l){bx:Nat}{nm:ByteArray}(hb:w.cell? ⟨bx,0,none⟩=some (.string nm)):
 Calls Tryz.prog 114 #[.slice a n cap,.func (.func 126) #[] #[.pointer (some ⟨bx,0,none⟩)]] w fun e w'=>e= .returned (.int .i64 (sideAt l 0 nm))∧Kept w w':=by
 obtain rfl:n=l.length:=h.1
 have hbd:l.length<4611686018427387904:=h.2.2.1
 refine entL [_,_] 19 Tryz.func114 rfl Tryz.ntmps114 (by simp) ?_
 iterate 3 go_step
 refine zz ?_
 iterate 6 go_step
 refine zz ?_
 refine zr (.int .i64 l.length) ?_
 refine zz ?_
 iterate 4 go_step
 refine zloop l.length (fun k=>[(0,.slice a l.length cap),(1,.func (.func 126) #[] #[.pointer (some ⟨bx,0,none⟩)]),(7,.int .i64 l.length),(8,.int .i64 k)]) (fun k W=>sideAt (l.drop k) k nm=sideAt l 0 nm∧Kept w W) ⟨rfl,rfl,rfl,rfl,trivial⟩ ⟨rfl,Kept.refl w⟩ fun fl wr k hk ⟨ht,K⟩=> ?_
 iterate 3 go_step
 refine z2 (.bool (decide ((k:Int)<(l.length:Int)))) ?_
 iterate 4 go_step
 cases hlt:decide ((k:Int)<(l.length:Int))
 case' false=>
  obtain rfl:k=l.length:=by have:=of_decide_eq_false hlt;omega
  refine zt_false ?_
  iterate 7 go_step
  refine zz ?_
  iterate 5 go_step
  exact zretT ⟨by rw[←ht,sideAt_end],K⟩
 have hlt:k<l.length:=by have:=of_decide_eq_true hlt;omega
 obtain⟨b,off,a1,n1,c1,a2,n2,c2,a3,n3,c3,a4,n4,c4,rfl,rV,-,-⟩:=h.row hlt
 refine zt_true ?_
 iterate 7 go_step
 refine zz ?_
 refine zz ?_
 iterate 5 go_step
 refine zz ?_
 refine zz ?_
 refine zz ?_
 refine zi (s:=9) k hlt ?_
 refine zl (V:=#[_,_,_,_,_,_,_,_,_]) ((Kept.sub K).range rV) own41 ?_
 refine zc 126 _ (eindex1_calls (nk:=l[k].name) (K.cell hb) l[k].iv.s1 a1 n1 c1 a2 n2 c2 l[k].iv.s2 a3 n3 c3 a4 n4 c4 l[k].iv.li l[k].iv.hi) ?_
 rintro e w1 ⟨rfl,k1⟩
 refine⟨_,rfl,?_⟩
 iterate 3 go_step
 have hs:=sideAt_drop hlt nm
 cases hq:(l[k].name.toList==nm.toList)
 case' true=>
  refine zt_true ?_
  iterate 2 go_step
  refine zz ?_
  refine zz ?_
  iterate 8 go_step
  exact zretT ⟨by rw[←ht,hs,hq,if_pos rfl],K.trans k1⟩
 refine zt_false ?_
 iterate 4 go_step
 refine z2 (.int .i64 ((k+1:Nat):Int)) (hrun:=run_inc (by omega)) ?_
 refine zz ?_
 iterate 3 go_step
 exact⟨_,rfl,hlt,⟨rfl,rfl,rfl,rfl,trivial⟩,by rw[←ht,hs,hq];rfl,K.trans k1⟩
theorem eindex_calls{w:World}{a:Option Addr}{n cap:Nat}{l:List SideD}(h:Bxm w a n cap l)(nm:ByteArray):Calls Tryz.prog 58 #[.slice a n cap,.string nm] w fun e w'=>e= .returned (.int .i64 (sideAt l 0 nm))∧Kept w w':=by
 have hk:Kept w (w.alloc (.cells #[.string nm] 9)):=(Kept.refl w).alloc _
 have hcl:=eindexside_calls (h.kept hk) (bx:=w.heap.size) (nm:=nm) (Blk.new w #[.string nm] 9).facts1.1
 have hmf:∀(fn:Fn)(first cap:Array Value)(w:World),(Instr.makeFunc fn first cap).run Tryz.prog w= .ok (.func fn first cap) w:=fun _ _ _ _=>rfl
 go_enter Tryz.func58,Tryz.ntmps58
 go_wp2_with(go_at_call 114;refine hcl.mono ?_;rintro e w1 ⟨rfl,hk1⟩)
 go_ret
 exact⟨rfl,hk.trans hk1⟩
theorem efind_calls{w:World}{a:Option Addr}{n cap:Nat}{l:List SideD}(h:Bxm w a n cap l)(nm:ByteArray){k:Nat}(hk:k<l.length)(hs:sideAt l 0 nm=(k:Int)):
 Calls Tryz.prog 27 #[.slice a n cap,.string nm] w fun e w'=>∃v',e= .returned (.tuple #[v',.bool true])∧Ivl (onlyW w' (ab w.heap.size)) v' l[k].iv∧Kept w w':=by
 obtain rfl:n=l.length:=h.1
 obtain⟨b,off,a1,n1,c1,a2,n2,c2,a3,n3,c3,a4,n4,c4,rfl,rV,r1,r2⟩:=h.row hk
 have hv:Ivl w (.agg #[.bool l[k].iv.s1,.slice a1 n1 c1,.slice a2 n2 c2,.bool l[k].iv.s2,.slice a3 n3 c3,.slice a4 n4 c4,.bool l[k].iv.li,.bool l[k].iv.hi]) l[k].iv:=⟨_,_,_,_,_,_,_,_,_,_,_,_,rfl,r1,r2⟩
 refine entL [_,_] 19 Tryz.func27 rfl Tryz.ntmps27 (by simp) ?_
 iterate 3 go_step
 refine za ZI 43 fun w1 g1 e1 k1 p1 s1=> ?_
 refine zz ?_
 iterate 5 go_step
 refine zz ?_
 refine zz ?_
 refine zc 58 _ (eindex_calls (h.kept k1) nm) ?_
 rintro e w2 ⟨rfl,k2⟩
 rw[hs]
 refine⟨_,rfl,?_⟩
 refine zz ?_
 iterate 6 go_step
 refine zz ?_
 refine z2 (.bool (decide ((k:Int)<0))) ?_
 iterate 3 go_step
 rw[show decide ((k:Int)<0)=false from decide_eq_false (by omega)]
 refine zt_false ?_
 iterate 5 go_step
 refine zz ?_
 refine zz ?_
 refine zi (s:=9) k hk ?_
 refine zz ?_
 have hr:(w2.rangeAt b (off+k*9+1) [.bool l[k].iv.s1,.slice a1 n1 c1,.slice a2 n2 c2,.bool l[k].iv.s2,.slice a3 n3 c3,.slice a4 n4 c4,.bool l[k].iv.li,.bool l[k].iv.hi]):=fun j v hv=>by
  have:=(k1.trans k2).cell (rV (j+1) v hv)
  rwa [show off+k*9+(j+1)=off+k*9+1+j by omega] at this
 refine zl (V:=#[_,_,_,_,_,_,_,_]) hr own39 ?_
 refine zc 59 _ (eown_calls (hv.kept (k1.trans k2))) ?_
 rintro e w3 ⟨v',rfl,hv',k3⟩
 refine⟨_,rfl,?_⟩
 obtain⟨b1,m1,d1,b2,m2,d2,b3,m3,d3,b4,m4,d4,rfl,x1,x2⟩:=hv'
 refine zt ((p1.kept k2).kept k3) own39 own39 fun w4 k4 p1=> ?_
 refine zz ?_
 iterate 5 go_step
 have q:=(k1.trans k2).size
 have q2:=k2.size
 have hm:Sub (onlyW w3 (ab w2.heap.size)) (onlyW w4 (ab w.heap.size)):=only_move fun b hb hs=>by
  unfold ab at hs⊢
  simp only[decide_eq_true_eq] at hs⊢
  exact⟨by omega,k4.old b hb (by omega)⟩
 exact zret1b (v:=.bool true) p1 own39 ⟨_,rfl,⟨_,_,_,_,_,_,_,_,_,_,_,_,rfl,x1.sub hm,x2.sub hm⟩,((k1.trans k2).trans k3).but k4 (by omega)⟩
end
section
open Go Go.RowKit Go.Dig Go.Deep
open Go.Eng (Kept KW KeptB wp_region_kw kw_call)
theorem calls_round{l m:Nat}{f:FuncId}{args:Array Value}{w:World}{R:Ending→World→Prop}(h:Calls Tryz.prog f args w R):CallsIn (Fence.wide.inRound l) m Tryz.prog f args w R:=
 ⟨trivial,fun cs _=>let ⟨e,w',fr,r,s,x⟩:=h cs;⟨e,w',fr,r,comesIn_wide.2 s,x⟩⟩
theorem rows_round{l m:Nat}{row:String}{args:Array Value}{w:World}{R:Value→World→Prop}(h:Rows Tryz.prog row args w R):RowsIn (Fence.wide.inRound l) m Tryz.prog row args w R:=
 fun c cs _=>let ⟨v,w',r,s⟩:=h c cs;⟨v,w',r,stepsIn_wide.2 s⟩
def noDefer(o:Oper):Bool:=match o.op with
 | .defer _=>false
 |_=>true
theorem sem_round{l:Nat}{o:Oper}(h:noDefer o=true)(ρ:Operand→Value):o.semAt (some l) ρ=execOp ρ o:=by
 refine Oper.semAt_eq _ ρ o fun c hc=> ?_
 unfold noDefer at h
 rw[hc] at h
 cases h
theorem list_round{l m:Nat}{ops:Array Oper}{Q:Exit→Act→World→Prop}(hQ:¬LetsOut Q):∀(rest:List Oper)(a:Act)(w:World),rest.all noDefer=true→wpList Tryz.prog ops Q rest a w→wpListIn (Fence.wide.inRound l) m Tryz.prog ops Q rest a w
 |[],_,_,_,h=>h
 |o::rest,a,w,hd,h=>by
  simp only[List.all_cons,Bool.and_eq_true] at hd
  unfold wpList at h
  unfold wpListIn
  split at h
  ·rename_i hw
   rw[if_pos hw]
   rcases h with h|⟨-,h⟩
   ·unfold Oper.wp at h
    refine⟨fun _ _=>trivial,?_⟩
    rw[show(Fence.wide.inRound l).round=some l from rfl,sem_round hd.1]
    generalize (execOp a.eval o).run Tryz.prog w=r at h⊢
    cases r with
    |ok x w'=>
     cases x with
     |value v=>exact list_round hQ rest _ _ hd.2 h
     |skip=>exact list_round hQ rest _ _ hd.2 h
     |defer d=>exact list_round hQ rest _ _ hd.2 h
     |enter f args=>
      refine⟨(fun h=>by cases h),calls_round (Calls.mono h fun e w'' he=> ?_)⟩
      cases e with
      |returned v=>exact list_round hQ rest _ _ hd.2 he
      |panicked c=>exact he
      |outgrown=>exact he
     |row row args=>exact⟨(fun h=>by cases h),rows_round (Rows.mono h fun v w'' he=>list_round hQ rest _ _ hd.2 he)⟩
     |_=>exact h.elim
    |halt x w'=>
     cases x with
     |panic v=>exact h
     |_=>exact h.elim
   ·exact absurd h hQ
  ·rename_i hw
   rw[if_neg hw]
   exact⟨fun _ _=>trivial,list_round hQ rest _ _ hd.2 h⟩
theorem region_round{l m id:Nat}{ops:Array Oper}{Q:Exit→Act→World→Prop}{a:Act}{w:World}(h:wpList Tryz.prog ops Q ops.toList a w)(hQ:¬LetsOut Q)(hd:ops.toList.all noDefer=true:=by kernel_rfl):(Code.region id ops false).wpIn (Fence.wide.inRound l) m Tryz.prog Q a w:=
 wpIn_region_list (list_round hQ _ _ _ hd h)
section
variable{n m:Nat}{l:Fm}{ops:Array Oper}{Q:Exit→Act→World→Prop}{oi:Oper}{fuel:Nat}{listed:Array Bool}{w:World}{d:Nat}
theorem about_step{v:Value}{W:World}{o:Op}{ρ:Operand→Value}{oi:Oper}(ho:oi.op=o)(hs:stepv n l o=some v):oi.about Tryz.prog W ρ=none:=by
 unfold Oper.about
 rw[ho]
 cases o<;>first
  |rfl
  |cases hs
theorem iz(i:Nat){v:Value}(h:wpAnyIn Fence.wide m Tryz.prog .any ops Q fuel (listed.setIfInBounds i true) (frm n (upd l d v)) w)
 (hi:ops[i]? =some oi:=by rfl)(hst:stepv n l oi.op=some v:=by rfl)(hg:oi.guard=none:=by rfl)(hd:oi.dst=some d:=by rfl)
 (hs:Region.noSelect ops=true:=by kernel_rfl)(hf:Region.free .any ops listed i=true:=by kernel_rfl)(hr:(Region.ready .any ops listed).contains i=true:=by kernel_rfl)
 (hQ:∀c a w,Q (.panic c) (a.put oi.dst v) w→Q (.panic c) a w:=by exact fun _ _ _ h=>h):wpAnyIn Fence.wide m Tryz.prog .any ops Q (fuel+1) listed (frm n l) w:=
 wpAnyIn_take rfl hi hs hf hr hQ ⟨.inl ⟨by simp[Region.wanted,hg],fun _=>step_run hst⟩,fun W=>about_step rfl hst⟩ (by rw[hd,frm_put];exact h)
theorem iv{K:Act→World→Prop}{i:Nat}(v:Value)(h:K (frm n (upd l d v)) w)(hi:ops[i]? =some oi:=by rfl)(hrun:(execOp (ev n l) oi).run Tryz.prog w= .ok (.value v) w:=by kernel_rfl)(hg:oi.guard=none:=by rfl)(hd:oi.dst=some d:=by rfl):wpOpIn Fence.wide m Tryz.prog ops Q i K (frm n l) w:=by
 refine wpOpIn_step hi fun K' hK=> ?_
 rw[if_pos (by simp[Region.wanted,hg])]
 refine⟨fun _ _=>trivial,?_⟩
 rw[show(Fence.wide).round=none from rfl,Oper.semAt_none,frm_eval,hrun,Oper.uponIn_value,hd,frm_put]
 exact hK _ _ h
theorem ic{K:Act→World→Prop}{i:Nat}{R:Ending→World→Prop}(f:FuncId)(args:Array Value)(hc:Calls Tryz.prog f args w R)(h:∀e w',R e w'→∃v,e= .returned v∧K (frm n (upd l d v)) w')
 (hi:ops[i]? =some oi:=by rfl)(hrun:(execOp (ev n l) oi).run Tryz.prog w= .ok (.enter f args) w:=by kernel_rfl)(hg:oi.guard=none:=by rfl)(hd:oi.dst=some d:=by rfl):wpOpIn Fence.wide m Tryz.prog ops Q i K (frm n l) w:=by
 refine wpOpIn_step hi fun K' hK=> ?_
 rw[if_pos (by simp[Region.wanted,hg])]
 refine⟨fun _ _=>trivial,?_⟩
 rw[show(Fence.wide).round=none from rfl,Oper.semAt_none,frm_eval,hrun,Oper.uponIn_enter]
 refine⟨(fun h=>by cases h),callsIn_wide.2 (Calls.mono hc fun e w' hR=> ?_)⟩
 obtain⟨v,rfl,h'⟩:=h e w' hR
 rw[hd]
 show K' ((frm n l).put (some d) v) w'
 rw[frm_put]
 exact hK _ _ h'
theorem iy{K:Act→World→Prop}{i L:Nat}{R:Ending→World→Prop}{args:Array Value}(hy:YieldAt Fence.wide (m-1) Tryz.prog L args w R)(h:∀e w',R e w'→∃v,e= .returned v∧K (frm n (upd l d v)) w')
 (hi:ops[i]? =some oi:=by rfl)(hrun:(execOp (ev n l) oi).run Tryz.prog w=(Instr.yield L args).run Tryz.prog w:=by kernel_rfl)(hg:oi.guard=none:=by rfl)(hd:oi.dst=some d:=by rfl):wpOpIn Fence.wide m Tryz.prog ops Q i K (frm n l) w:=by
 obtain⟨fn,tmps,assign,body,hy,hR⟩:=hy
 refine wpOpIn_step hi fun K' hK=> ?_
 rw[if_pos (by simp[Region.wanted,hg])]
 refine⟨fun _ _=>trivial,?_⟩
 rw[show(Fence.wide).round=none from rfl,Oper.semAt_none,frm_eval,hrun,hy,Oper.uponIn_round]
 refine⟨(fun h=>by cases h),hR.mono fun e w' hR=> ?_⟩
 obtain⟨v,rfl,h'⟩:=h e w' hR
 rw[hd]
 show K' ((frm n l).put (some d) v) w'
 rw[frm_put]
 exact hK _ _ h'
end
end
section
open Go Go.RowKit Go.Dig Go.Deep
open Go.Eng (Kept KW KeptB wp_region_kw kw_call)
set_option maxHeartbeats 8000000
set_option maxRecDepth 100000
theorem zret0{n:Nat}{l:Fm}{w:World}{fn:Func}{R:Ending→World→Prop}(hR:∀v,R (.returned v) w)(h:fn.results=#[]:=by rfl):bodyPost Tryz.prog fn R .normal (frm n l) w:=
 ⟨rfl,.tuple #[],by simp[results,h],hR _⟩
theorem run_row{n:Nat}{l:Fm}{oi:Oper}{ty p b o:Nat}{V:Array Value}{w:World}(hr0:w.rangeAt b o V.toList)(hV:Own ty V)(hg:oi.guard=none:=by rfl)(hop:oi.op= .load ty (.tmp p):=by rfl)(hx:opv n l (.tmp p)=some (.pointer (some ⟨b,o,none⟩)):=by rfl)
 (hu:(Tryz.prog.underlying ty).map TypeDesc.isRow=some true:=by kernel_rfl):(execOp (ev n l) oi).run Tryz.prog w= .ok (.value (.agg V)) w:=by
 obtain⟨e,he,hdr⟩:=Option.map_eq_some_iff.1 hu
 have hy:=yieldsIf_load_mid (P:=Tryz.prog) (ops:=#[]) (S:=fun w'=>w'=w) (op:=oi) (a:=frm n l) (by simp[Region.wanted,hg]) ty (.tmp p) hop b o (opv_eval hx) V.toList e (fun _ k=>k▸hr0) he hdr (by simpa using hV.1)
 rw[Array.toArray_toList] at hy
 rcases hy with⟨-,h⟩|⟨h,-⟩
 ·rw[←frm_eval];exact h w rfl
 ·simp[Region.wanted,hg] at h
theorem run_one{n:Nat}{l:Fm}{oi:Oper}{ty p b o:Nat}{x:Value}{w:World}(hc:w.cell? ⟨b,o,none⟩=some x)(hop:oi.op= .load ty (.tmp p):=by rfl)(hx:opv n l (.tmp p)=some (.pointer (some ⟨b,o,none⟩)):=by rfl)
 (hu:(Tryz.prog.underlying ty).map TypeDesc.isRow=some false:=by kernel_rfl):(execOp (ev n l) oi).run Tryz.prog w= .ok (.value x) w:=by
 unfold execOp
 simp only[hop,ev_of hx,Sem.run_bind,run_cell hc hu]
 rfl
theorem il1{n m:Nat}{l:Fm}{ops:Array Oper}{Q:Exit→Act→World→Prop}{oi:Oper}{w:World}{d ty p b o i:Nat}{x:Value}{K:Act→World→Prop}(hc:w.cell? ⟨b,o,none⟩=some x)(h:K (frm n (upd l d x)) w)(hi:ops[i]? =some oi:=by rfl)(hop:oi.op= .load ty (.tmp p):=by rfl)(hx:opv n l (.tmp p)=some (.pointer (some ⟨b,o,none⟩)):=by rfl)
 (hu:(Tryz.prog.underlying ty).map TypeDesc.isRow=some false:=by kernel_rfl)(hg:oi.guard=none:=by rfl)(hd:oi.dst=some d:=by rfl):wpOpIn Fence.wide m Tryz.prog ops Q i K (frm n l) w:=iv x h hi (run_one hc hop hx hu) hg hd
theorem il{n m:Nat}{l:Fm}{ops:Array Oper}{Q:Exit→Act→World→Prop}{oi:Oper}{w:World}{d ty p b o i:Nat}{V:Array Value}{K:Act→World→Prop}(hc:w.rangeAt b o V.toList)(hV:Own ty V)(h:K (frm n (upd l d (.agg V))) w)(hi:ops[i]? =some oi:=by rfl)(hop:oi.op= .load ty (.tmp p):=by rfl)(hx:opv n l (.tmp p)=some (.pointer (some ⟨b,o,none⟩)):=by rfl)
 (hu:(Tryz.prog.underlying ty).map TypeDesc.isRow=some true:=by kernel_rfl)(hg:oi.guard=none:=by rfl)(hd:oi.dst=some d:=by rfl):wpOpIn Fence.wide m Tryz.prog ops Q i K (frm n l) w:=iv _ h hi (run_row hc hV hg hop hx hu) hg hd
theorem ia{n m:Nat}{l:Fm}{ops:Array Oper}{Q:Exit→Act→World→Prop}{fuel:Nat}{listed:Array Bool}{w:World}(i:Nat)(h:wpOpIn Fence.wide m Tryz.prog ops Q i (wpAnyIn Fence.wide m Tryz.prog .any ops Q fuel (listed.setIfInBounds i true)) (frm n l) w)(hr:Region.ready .any ops listed=[i]:=by kernel_rfl):
 wpAnyIn Fence.wide m Tryz.prog .any ops Q (fuel+1) listed (frm n l) w:=wpAnyIn_all hr (by simp) fun j hj=>by rw[List.mem_singleton.1 hj];exact h
theorem ia2{n m:Nat}{l:Fm}{ops:Array Oper}{Q:Exit→Act→World→Prop}{fuel:Nat}{listed:Array Bool}{w:World}(i j:Nat)(h:wpOpIn Fence.wide m Tryz.prog ops Q i (wpAnyIn Fence.wide m Tryz.prog .any ops Q fuel (listed.setIfInBounds i true)) (frm n l) w)
 (k:wpOpIn Fence.wide m Tryz.prog ops Q j (wpAnyIn Fence.wide m Tryz.prog .any ops Q fuel (listed.setIfInBounds j true)) (frm n l) w)(hr:Region.ready .any ops listed=[i,j]:=by kernel_rfl):
 wpAnyIn Fence.wide m Tryz.prog .any ops Q (fuel+1) listed (frm n l) w:=wpAnyIn_all hr (by simp) fun x hx=>by
 rcases List.mem_cons.1 hx with rfl|hx
 ·exact h
 ·rw[List.mem_singleton.1 hx];exact k
end
section
open Go Go.RowKit Go.Dig Go.Deep
open Go.Eng (Kept KW KeptB wp_region_kw kw_call)
theorem put_put(w:World)(L:Nat)(o o':Obj):(w.putObj L o).putObj L o'=w.putObj L o':=by
 unfold World.putObj
 simp
theorem put_self{w:World}{L:Nat}{o:Obj}(h:w.heap[L]? =some o):w.putObj L o=w:=by
 obtain⟨hlt,he⟩:=Array.getElem?_eq_some_iff.1 h
 unfold World.putObj
 cases w with
 |mk heap tape drawn os output=>
  congr 1
  simp only at he hlt⊢
  rw[←he]
  apply Array.ext
  ·simp
  ·intro j h1 h2
   rw[Array.getElem_setIfInBounds]
   split
   ·rename_i hj;subst hj;rfl
   ·rfl
theorem put_keptB(w:World)(L:Nat)(o:Obj):KeptB w (w.putObj L o) L:=⟨by simp,fun c _ hne=>World.putObj_heap_other hne,rfl,rfl,rfl⟩
theorem Grow.put{α:Type}{W0 W:World}{b3 e sz:Nat}{v:Value}{k:Nat}{cs:List Value}{R:World→List Value→α→Prop}{ts:List α}{L:Nat}(o:Obj)(h:Grow W0 W b3 e sz v k cs R ts)(hR:∀w w',Sub w w'→∀l t,R w l t→R w' l t)(hL:L<W0.heap.size):
 Grow (W0.putObj L o) (W.putObj L o) b3 e sz v k cs R ts:=by
 have kp:=put_keptB W L o
 have hs:(W0.putObj L o).heap.size=W0.heap.size:=by simp
 have hsz:=h.kb.size
 refine⟨⟨by simpa using hsz,fun c hc hne=> ?_,h.kb.tape,h.kb.os,h.kb.output⟩,?_,?_⟩
 ·by_cases hcl:c=L
  ·subst hcl
   rw[World.putObj_heap_same hL,World.putObj_heap_same (by omega)]
  ·rw[World.putObj_heap_other hcl,World.putObj_heap_other hcl]
   exact h.kb.old c (by omega) hne
 ·rw[hs];exact own_keptB h.own kp hL
 ·rw[hs]
  exact h.rows.mono (hR _ _ (only_move fun b hb hx=>⟨hx,kp.old b hb (by
   simp only[S1,Bool.and_eq_true,decide_eq_true_eq] at hx
   omega)⟩))
section
variable{n:Nat}{l:Fm}{ops:Array Oper}{rest:List Oper}{Q:Exit→Act→World→Prop}{oi:Oper}{w:World}{d:Nat}{ds:List Deferred}
theorem tmps_set{n:Nat}{l:Fm}{d:Nat}{v:Value}:(frm n l).tmps.setIfInBounds d v=(frm n (upd l d v)).tmps:=congrArg Act.tmps frm_set
theorem eval_ds(a:Act)(ds:List Deferred):(⟨a.tmps,ds⟩:Act).eval=a.eval:=by
 funext x
 cases x<;>rfl
theorem zdl1{ty p b o:Nat}{x:Value}(hc:w.cell? ⟨b,o,none⟩=some x)(h:wpList Tryz.prog ops Q rest ⟨(frm n (upd l d x)).tmps,ds⟩ w)
 (hg:oi.guard=none:=by rfl)(hd:oi.dst=some d:=by rfl)(hop:oi.op= .load ty (.tmp p):=by rfl)(hx:opv n l (.tmp p)=some (.pointer (some ⟨b,o,none⟩)):=by rfl)(hu:(Tryz.prog.underlying ty).map TypeDesc.isRow=some false:=by kernel_rfl):
 wpList Tryz.prog ops Q (oi::rest) ⟨(frm n l).tmps,ds⟩ w:=ll1 (a:=⟨(frm n l).tmps,ds⟩) hc (by rw[tmps_set];exact h) hg hd hop (tmp_get hx) hu
end
theorem res2{fn:Func}{n:Nat}{l:Fm}{t u:Tmp}{v x:Value}{w:World}(h:fn.results=#[.tmp t,.tmp u])(h1:opv n l (.tmp t)=some v)(h2:opv n l (.tmp u)=some x):(results fn (frm n l).tmps).run Tryz.prog w= .ok (.tuple #[v,x]) w:=by
 have e1:=tmp_get h1
 have e2:=tmp_get h2
 simp only[Array.getD_eq_getD_getElem?] at e1 e2
 simp[results,h,e1,e2]
theorem entM{f:FuncId}{fn:Func}{c:Code}{w:World}{R:Ending→World→Prop}(vs:List Value)(N:Nat)(hf:Tryz.prog.funcs[f]? =some fn)(hb:fn.body=some c)(hn:fn.ntmps=N)(hle:vs.length≤N)
 (h:c.wp Tryz.prog (bodyPostM Fence.wide 0 Tryz.prog fn R) (frm N fun i=>vs[i]?) w):Calls Tryz.prog f vs.toArray w R:=by
 have e:(⟨vs.toArray++Array.replicate (N-vs.length) undef,[]⟩:Act)=frm N (fun i=>vs[i]?):=by
  refine congrArg (fun t=>(⟨t,[]⟩:Act)) (?_:vs.toArray++Array.replicate (N-vs.length) undef=((List.range N).map fun i=>(vs[i]?).getD undef).toArray)
  apply Array.ext
  ·simp;omega
  ·intro i h1 h2
   simp only[Array.getElem_append,List.size_toArray,List.getElem_toArray,List.getElem_map,List.getElem_range,Array.getElem_replicate]
   split
   ·rename_i hi
    rw[List.getElem?_eq_getElem hi]
    rfl
   ·rename_i hi
    rw[List.getElem?_eq_none (by omega)]
    rfl
 refine(callsIn_wide (n:=0)).1 (callsIn_of_wp_marks hf hb trivial (wpIn_wide.2 ?_))
 rw[hn,show vs.toArray.size=vs.length from rfl,e]
 exact h
end
section
open Go Go.RowKit Go.Dig
open Go.Eng (Kept KW KeptB wp_region_kw kw_call)
theorem sameR_refl(s:Bool)(N D:Nat):sameR s N D s N D=true:=by
 unfold sameR
 rw[qcmp_sg,Int.sub_self]
 rfl
end
section
open Go Go.RowKit Go.Dig
def negT(t:Tree):Tree:=.node 4 0 false 0 0 ⟨#[]⟩ [t]
def subT(t u:Tree):Tree:=.node 6 0 false 0 0 ⟨#[]⟩ [t,u]
end
section
open Go Go.RowKit Go.Dig
def cD(N D:Nat):Nat:=if rD N D=1 then 0 else rD N D
theorem dn_cD(N D:Nat):dn (cD N D)=rD N D:=by
 unfold cD dn
 have h:=rD_pos N D
 split<;>split<;>omega
theorem r_cop(N D:Nat):Nat.gcd (rN N D) (rD N D)=1:=by
 unfold rN rD
 exact Nat.gcd_div_gcd_div_gcd_of_pos_right (dn_pos D)
theorem rN_can(N D:Nat):rN (rN N D) (cD N D)=rN N D:=by
 rw[rN,dn_cD,r_cop,Nat.div_one]
theorem rD_can(N D:Nat):rD (rN N D) (cD N D)=rD N D:=by
 rw[rD,dn_cD,r_cop,Nat.div_one]
theorem small_can{N D:Nat}(h:small N D=true):small (rN N D) (cD N D)=true:=by
 unfold small at h⊢
 rw[rN_can,rD_can]
 simp only[Bool.and_eq_true,decide_eq_true_eq] at h⊢
 obtain⟨⟨-,h3⟩,h4⟩:=h
 have h5:=h3
 have h6:=h4
 unfold fits32 at h5 h6
 have h7:=of_decide_eq_true h5
 have h8:=of_decide_eq_true h6
 have h9:pwr 2 2048≤pwr 2 8192:=pwr_le _ _ (by decide)
 refine⟨⟨⟨Nat.lt_of_lt_of_le h7 h9,?_⟩,h3⟩,h4⟩
 unfold cD
 split
 ·exact pwr_pos _
 ·exact Nat.lt_of_lt_of_le h8 h9
end
end Go.Proofs.YtancebninmoipaaGreatDoor
