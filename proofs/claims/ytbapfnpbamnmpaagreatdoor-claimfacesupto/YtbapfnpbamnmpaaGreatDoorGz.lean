/- A part of the proof that ClaimFaces answers true for every input of bulk at most 1048576: conditions: the row's own. -/
import Derived.Test.YtbapfnpbamnmpaaGreatDoorGa
import Derived.Test.YtbapfnpbamnmpaaGreatDoorZa
namespace Go.Proofs.YtbapfnpbamnmpaaGreatDoor
open Go Go.RowKit Go.Dig Go.Deep
open Go.Eng (Kept KW KeptB wp_region_kw kw_call)
theorem info41:InfoIs 41 (.agg #[.string ⟨#[]⟩,.bool false,.slice none 0 0,.slice none 0 0,.bool false,.slice none 0 0,.slice none 0 0,.bool false,.bool false]) 9 136:=infoIs (by kernel_rfl)
theorem wpList_append_grow{w:World}{ops:Array Oper}{rest:List Oper}{o:Oper}{a:Act}{Q:Exit→Act→World→Prop}(hgd:o.guard=none)(s x:Operand)(t:TypeId)
 (ho:o.op= .call {callee:=.builtin .append,args:=#[s,x],argTypes:=#[t,t]}){e:TypeId}{z:Value}{sz by_:Nat}(hi:InfoIs e z sz by_)(ht:Tryz.prog.underlying t=some (.slice e))(hz:z.cells.size=sz)(hsz:0<sz)(hby:by_≤1024)
 (base:Nat)(hbase:base≤w.heap.size)(v:Value)(n:Nat)(cs:List Value)(hs:a.eval s=v)(hown:w.ownsRow base e sz v n cs)
 (ad:Addr)(m c:Nat)(news:List Value)(hx:a.eval x= .slice (some ad) m c)(hl:news.length=m*sz)(hnews:∀j u,news[j]? =some u→w.cell? (ad.add j)=some u)(h1:∀u∈news,u.oneCell'=true)(hm:0<m)(hb:n+m≤1099511627)
 (h:∀v' w',w'.ownsRow base e sz v' (n+m) (cs++news)→w.grownBy w' v.ownBlock→(v'.ownBlock=v.ownBlock∨∀g,v'.ownBlock=some g→w.heap.size≤g)→wpList Tryz.prog ops Q rest (a.put o.dst v') w'):
 wpList Tryz.prog ops Q (o::rest) a w:=by
 obtain⟨i0,hi,hz0,hz1,hz2⟩:=hi
 refine wpList_append_lies w hgd s x t ho base e i0 z sz by_ ht hi hz0 hz1 hz2 hz hsz v n cs hs hown ad m c news hx hl hnews h1 hm (by unfold maxLen;omega) (Nat.le_trans (Nat.mul_le_mul hb hby) (by decide)) hbase w.heap.size rfl ?_
 intro g cap w' h1 h2 h3 _
 refine h _ w' h1 h2 ?_
 rcases h3 with h3|h3
 ·exact .inl h3.symm
 ·refine .inr fun g' hg'=> ?_
  cases hg'
  exact Nat.le_of_eq h3.symm
def sideR:World→List Value→SideD→Prop:=fun W l d=>∃(s1:Bool)(a1:Option Addr)(n1 c1:Nat)(a2:Option Addr)(n2 c2:Nat)(s2:Bool)(a3:Option Addr)(n3 c3:Nat)(a4:Option Addr)(n4 c4:Nat)(p q:Bool),
 l=[.string d.name,.bool s1,.slice a1 n1 c1,.slice a2 n2 c2,.bool s2,.slice a3 n3 c3,.slice a4 n4 c4,.bool p,.bool q]∧
 Ivl W (.agg #[.bool s1,.slice a1 n1 c1,.slice a2 n2 c2,.bool s2,.slice a3 n3 c3,.slice a4 n4 c4,.bool p,.bool q]) d.iv
theorem sideR_sub:∀w w',Sub w w'→∀l t,sideR w l t→sideR w' l t:=by
 rintro w w' k l t ⟨s1,a1,n1,c1,a2,n2,c2,s2,a3,n3,c3,a4,n4,c4,p,q,e,h⟩
 exact⟨s1,a1,n1,c1,a2,n2,c2,s2,a3,n3,c3,a4,n4,c4,p,q,e,h.sub k⟩
theorem Bxm.mk{w:World}{a:Option Addr}{cap:Nat}{l:List SideD}{cs:List Value}(hc:l.length≤cap)(hn:l.length<4611686018427387904)
 (hcell:∀i,i<cs.length→∃b,a=some ⟨b,0,none⟩∧w.cell? ⟨b,i,none⟩=cs[i]?)(hk:RowsIs (sideR w) 9 cs l):Bxm w a l.length cap l:=by
 refine⟨rfl,hc,hn,fun i h=> ?_⟩
 have hlen:i*9+9≤cs.length:=by rw[hk.1];omega
 obtain⟨b,ha,-⟩:=hcell (i*9) (by omega)
 obtain⟨s1,a1,n1,c1,a2,n2,c2,s2,a3,n3,c3,a4,n4,c4,p,q,e,hv⟩:=hk.2 i h
 have hat:∀j(u:Value),j<9→[Value.string l[i].name,.bool s1,.slice a1 n1 c1,.slice a2 n2 c2,.bool s2,.slice a3 n3 c3,.slice a4 n4 c4,.bool p,.bool q][j]? =some u→w.cell? ⟨b,0+i*9+j,none⟩=some u:=by
  intro j u hj hu
  obtain⟨b',ha',hc'⟩:=hcell (i*9+j) (by omega)
  rw[ha] at ha'
  cases ha'
  rw[Nat.zero_add,hc',←hu,←e]
  simp[hj]
 exact⟨b,0,s1,a1,n1,c1,a2,n2,c2,s2,a3,n3,c3,a4,n4,c4,p,q,ha,hat 0 _ (by decide) rfl,hat 1 _ (by decide) rfl,hat 2 _ (by decide) rfl,hat 3 _ (by decide) rfl,hat 4 _ (by decide) rfl,hat 5 _ (by decide) rfl,hat 6 _ (by decide) rfl,hat 7 _ (by decide) rfl,hat 8 _ (by decide) rfl,hv⟩
theorem only_keep{w w':World}{S:Nat→Bool}(k:Kept w w'):Sub (onlyW w S) (onlyW w' S):=only_move fun b hb hs=>⟨hs,k.old b hb⟩
theorem Ws.store{w w':World}{S:Nat→Bool}{a:Option Addr}{n b:Nat}{zs:Nat→Nat}(h:Ws (onlyW w S) a n zs)(k:KeptB w w' b)(hb:NoWords w b):Ws (onlyW w' S) a n zs:=fun i hi=>by
 obtain⟨b',off,e,hc⟩:=h i hi
 refine⟨b',off,e,?_⟩
 rw[cell_only] at hc⊢
 split at hc
 ·rename_i hs
  rw[if_pos hs]
  exact k.cell hc (fun he=>hb _ _ (by rw[←he];exact hc))
 ·cases hc
theorem Rt.store{w w':World}{S:Nat→Bool}{v:Value}{neg:Bool}{N D b:Nat}(h:Rt (onlyW w S) v neg N D)(k:KeptB w w' b)(hb:NoWords w b):Rt (onlyW w' S) v neg N D:=by
 obtain⟨vn,vd,e,⟨a,n,cap,zs,g1,g2,g3,g4,g5,g6⟩,⟨a',n',cap',zs',f1,f2,f3,f4,f5,f6⟩⟩:=h
 exact⟨vn,vd,e,⟨a,n,cap,zs,g1,g2,g3,g4,g5,g6.store k hb⟩,⟨a',n',cap',zs',f1,f2,f3,f4,f5,f6.store k hb⟩⟩
theorem info93:InfoIs 93 (.agg #[.int .i64 0,.int .i64 0,.bool false,.slice none 0 0,.slice none 0 0,.string ⟨#[]⟩,.slice none 0 0,.bool false]) 8 120:=infoIs (by kernel_rfl)
def condR(f:Nat):World→List Value→CondD→Prop:=fun W l d=>∃(o g:Int)(z:Bool)(x1:Option Addr)(x2 x3:Nat)(x4:Option Addr)(x5 x6:Nat)(nm:ByteArray)(a:Option Addr)(n cap:Nat),
 l=[.int .i64 o,.int .i64 g,.bool z,.slice x1 x2 x3,.slice x4 x5 x6,.string nm,.slice a n cap,.bool d.strict]∧Ex W f (.agg #[.int .i64 o,.int .i64 g,.bool z,.slice x1 x2 x3,.slice x4 x5 x6,.string nm,.slice a n cap]) d.t
theorem condR_sub(f:Nat):∀w w',Sub w w'→∀l t,condR f w l t→condR f w' l t:=by
 rintro w w' k l t ⟨o,g,z,x1,x2,x3,x4,x5,x6,nm,a,n,cap,e,h⟩
 exact⟨o,g,z,x1,x2,x3,x4,x5,x6,nm,a,n,cap,e,h.sub k⟩
theorem Cnm.mk{w:World}{f:Nat}{a:Option Addr}{cap:Nat}{l:List CondD}{cs:List Value}(hc:l.length≤cap)(hn:l.length<4611686018427387904)
 (hcell:∀i,i<cs.length→∃b,a=some ⟨b,0,none⟩∧w.cell? ⟨b,i,none⟩=cs[i]?)(hk:RowsIs (condR f w) 8 cs l):Cnm w f a l.length cap l:=by
 refine⟨rfl,hc,hn,fun i h=> ?_⟩
 have hlen:i*8+8≤cs.length:=by rw[hk.1];omega
 obtain⟨b,ha,-⟩:=hcell (i*8) (by omega)
 obtain⟨o,g,z,x1,x2,x3,x4,x5,x6,nm,a',n,cap',e,hv⟩:=hk.2 i h
 have hat:∀j(u:Value),j<8→[Value.int .i64 o,.int .i64 g,.bool z,.slice x1 x2 x3,.slice x4 x5 x6,.string nm,.slice a' n cap',.bool l[i].strict][j]? =some u→w.cell? ⟨b,0+i*8+j,none⟩=some u:=by
  intro j u hj hu
  obtain⟨b',ha',hc'⟩:=hcell (i*8+j) (by omega)
  rw[ha] at ha'
  cases ha'
  rw[Nat.zero_add,hc',←hu,←e]
  simp[hj]
 exact⟨b,0,o,g,z,x1,x2,x3,x4,x5,x6,nm,a',n,cap',ha,hat 0 _ (by decide) rfl,hat 1 _ (by decide) rfl,hat 2 _ (by decide) rfl,hat 3 _ (by decide) rfl,hat 4 _ (by decide) rfl,hat 5 _ (by decide) rfl,hat 6 _ (by decide) rfl,hat 7 _ (by decide) rfl,hv⟩
section
theorem setCells_blk{g:Nat}{t:TypeId}:∀(vs:List Value)(o:Nat)(w:World)(Y:List Value),Blk w g Y.toArray t→o+vs.length≤Y.length→KeptB w (w.setCells g o vs) g∧Blk (w.setCells g o vs) g (Y.take o++vs++Y.drop (o+vs.length)).toArray t
 |[],o,w,Y,h,_=>⟨KeptB.refl w g,by simpa [World.setCells] using h⟩
 |v::r,o,w,Y,h,ho=>by
  have h1:=h.set o v
  rw[List.setIfInBounds_toArray] at h1
  simp only[List.length_cons] at ho
  obtain⟨k,b⟩:=setCells_blk r (o+1) _ (Y.set o v) h1 (by simp;omega)
  refine⟨KeptB.thenB ((KeptB.refl w g).setCell (a:=⟨g,o,none⟩) rfl v) k,?_⟩
  have e:(Y.set o v).take (o+1)++r++(Y.set o v).drop (o+1+r.length)=Y.take o++v::r++Y.drop (o+(v::r).length):=by
   rw[List.take_set,List.take_succ_eq_append_getElem (by omega),List.set_append_right _ _ (by simp;omega),List.drop_set_of_lt (by omega)]
   simp[Nat.min_eq_left (show o≤Y.length by omega),show o+1+r.length=o+(r.length+1) by omega]
  rw[e] at b
  exact b
theorem Grow.done{α:Type}{W0 W W':World}{g3 e sz N:Nat}{a:Option Addr}{cap:Nat}{cs:List Value}{R:World→List Value→α→Prop}{ts:List α}(G:Grow W0 W g3 e sz (.slice a ts.length cap) ts.length cs R ts)
 (hR:∀w w',Sub w w'→∀l t,R w l t→R w' l t)(hN:N≤W0.heap.size)(k:∀b,b<W.heap.size→W0.heap.size≤b→W'.heap[b]? =W.heap[b]?):
 ts.length≤cap∧(∀i,i<cs.length→∃b,a=some ⟨b,0,none⟩∧(onlyW W' (ab N)).cell? ⟨b,i,none⟩=cs[i]?)∧RowsIs (R (onlyW W' (ab N))) sz cs ts:=by
 obtain⟨a',cap',he,hc,hl,hcell⟩:=own_open G.own
 injection he with h1 h2 h3
 subst h1
 subst h3
 refine⟨hc,fun i hi=> ?_,?_⟩
 ·obtain⟨b,hb,ha,h⟩:=hcell i hi
  refine⟨b,ha,?_⟩
  have hv:W.cell? ⟨b,i,none⟩=some cs[i]:=by rw[h,List.getElem?_eq_getElem hi]
  have hlt:=World.block_lt_of_cell? W _ hv
  rw[cell_only,if_pos (by unfold ab;exact decide_eq_true (Nat.le_trans hN hb)),←h]
  unfold World.cell?
  rw[k b hlt hb]
 ·have:=G.rows
  rw[List.take_length] at this
  exact this.mono (hR _ _ (only_move fun b hb hs=>by
   unfold S1 at hs
   simp only[Bool.and_eq_true,decide_eq_true_eq] at hs
   exact⟨by unfold ab;exact decide_eq_true (Nat.le_trans hN hs.1),k b hb hs.1⟩))
def abx(N g:Nat):Nat→Bool:=fun b=>decide (N≤b)&&b != g
theorem abx_late{w W:World}{N M g:Nat}(k:Kept w W)(hg:w.heap.size≤g)(hN:M≤N):Sub (onlyW w (ab N)) (onlyW W (abx M g)):=only_move fun b hb hs=>⟨by
 unfold ab at hs
 unfold abx
 simp only[decide_eq_true_eq] at hs
 simp only[Bool.and_eq_true,decide_eq_true_eq,bne_iff_ne]
 omega,k.old b hb⟩
theorem abx_but{w W:World}{M g:Nat}(k:KeptB w W g):Sub (onlyW w (abx M g)) (onlyW W (abx M g)):=only_move fun b hb hs=>⟨hs,k.old b hb (by
 unfold abx at hs
 simp only[Bool.and_eq_true,bne_iff_ne] at hs
 exact hs.2)⟩
theorem abx_soon{w:World}{N M g:Nat}(hg:g<N)(hN:M≤N):Sub (onlyW w (ab N)) (onlyW w (abx M g)):=only_mono fun b hs=>by
 unfold ab at hs
 unfold abx
 simp only[decide_eq_true_eq] at hs
 simp only[Bool.and_eq_true,decide_eq_true_eq,bne_iff_ne]
 omega
def Z10:Array Value:=#[.int .i64 0,.int .i64 0,.bool false,.slice none 0 0,.slice none 0 0,.string ⟨#[]⟩,.slice none 0 0,.bool false,.slice none 0 0,.slice none 0 0]
theorem own31{Y:Array Value}(h:Own 27 Y){b:Bool}{a1:Option Addr}{n1 c1:Nat}{a2:Option Addr}{n2 c2:Nat}:Own 31 (Y++#[.bool b,.slice a1 n1 c1,.slice a2 n2 c2]):=by
 have h2:=h.2
 refine⟨?_,?_⟩
 ·obtain⟨x0,x1,x2,x3,x4,x5,x6,rfl⟩:=arr7 h.size7
  kernel_rfl
 ·rw[Array.all_append,h2]
  simp[Value.oneCell']
theorem ownZ10:Own 31 Z10:=own31 (Y:=Z7) ownZ
theorem Clm.own{w:World}{f:Nat}{v:Value}{c:ClaimD}(h:Clm w f v c):∃V Y a1 n1 c1 a2 n2 c2,v= .agg V∧V=Y++#[.bool c.strict,.slice a1 n1 c1,.slice a2 n2 c2]∧Own 31 V∧Own 27 Y∧Ex w f (.agg Y) c.goal∧Bxm w a1 n1 c1 c.box∧Cnm w f a2 n2 c2 c.conds:=by
 obtain⟨o,g,z,x1,x2,x3,x4,x5,x6,nm,a0,n0,cap0,a1,n1,cap1,a2,n2,cap2,rfl,h1,h2,h3⟩:=h
 exact⟨_,_,a1,n1,cap1,a2,n2,cap2,rfl,rfl,own31 own7,own7,h1,h2,h3⟩
theorem Clm.of{w:World}{f:Nat}{Y:Array Value}{c:ClaimD}{a1:Option Addr}{n1 c1:Nat}{a2:Option Addr}{n2 c2:Nat}(h1:Ex w f (.agg Y) c.goal)(h2:Bxm w a1 n1 c1 c.box)(h3:Cnm w f a2 n2 c2 c.conds):
 Clm w f (.agg (Y++#[.bool c.strict,.slice a1 n1 c1,.slice a2 n2 c2])) c:=by
 obtain⟨o,g,z,x1,x2,x3,x4,x5,x6,nm,a,n,cap,e⟩:=h1.agg7
 cases e
 exact⟨o,g,z,x1,x2,x3,x4,x5,x6,nm,a,n,cap,a1,n1,c1,a2,n2,c2,rfl,h1,h2,h3⟩
def Z8:Array Value:=#[.int .i64 0,.int .i64 0,.bool false,.slice none 0 0,.slice none 0 0,.string ⟨#[]⟩,.slice none 0 0,.bool false]
theorem own93{Y:Array Value}(h:Own 27 Y){b:Bool}:Own 93 (Y++#[.bool b]):=by
 have h2:=h.2
 refine⟨?_,?_⟩
 ·obtain⟨x0,x1,x2,x3,x4,x5,x6,rfl⟩:=arr7 h.size7
  kernel_rfl
 ·rw[Array.all_append,h2]
  simp[Value.oneCell']
theorem ownZ8:Own 93 Z8:=own93 (Y:=Z7) ownZ
theorem Cnm.row{w:World}{f:Nat}{a:Option Addr}{n cap:Nat}{l:List CondD}(h:Cnm w f a n cap l){i:Nat}(hi:i<l.length):∃b off y0 y1 y2 y3 y4 y5 y6,a=some ⟨b,off,none⟩∧w.rangeAt b (off+i*8) [y0,y1,y2,y3,y4,y5,y6,.bool l[i].strict]∧
 Own 27 #[y0,y1,y2,y3,y4,y5,y6]∧Ex w f (.agg #[y0,y1,y2,y3,y4,y5,y6]) l[i].t:=by
 obtain⟨b,off,o,g,z,x1,x2,x3,x4,x5,x6,nm,a',n',cap',ha,h0,h1,h2,h3,h4,h5,h6,h7,he⟩:=h.2.2.2 i hi
 refine⟨b,off,_,_,_,_,_,_,_,ha,fun j v hv=> ?_,own7,he⟩
 rcases(show j=0∨j=1∨j=2∨j=3∨j=4∨j=5∨j=6∨j=7∨8≤j by omega) with rfl|rfl|rfl|rfl|rfl|rfl|rfl|rfl|hj<;>first
  |(injection hv with hv;subst hv;assumption)
  |(rw[List.getElem?_eq_none (by simpa using hj)] at hv;cases hv)
section
variable{n:Nat}{l:Fm}{ops:Array Oper}{rest:List Oper}{Q:Exit→Act→World→Prop}{oi oj:Oper}{fuel:Nat}{listed:Array Bool}{w w0:World}{d e lo up:Nat}
theorem ztp{ty p q g o:Nat}{t:TypeId}{Y V:Array Value}(hb:Blk w g Y t)(hV:Own ty V)(h:∀w',KeptB w w' g→Blk w' g (Y.toList.take o++V.toList++Y.toList.drop (o+V.size)).toArray t→wpList Tryz.prog ops Q rest (frm n l) w')(ho:o+V.size≤Y.size)
 (hg:oi.guard=none:=by rfl)(hd:oi.dst=none:=by rfl)(hop:oi.op= .store ty (.tmp p) (.tmp q):=by rfl)(hx:opv n l (.tmp p)=some (.pointer (some ⟨g,o,none⟩)):=by rfl)(hq:opv n l (.tmp q)=some (.agg V):=by rfl):
 wpList Tryz.prog ops Q (oi::rest) (frm n l) w:=by
 obtain⟨h1,h2⟩:=setCells_blk (t:=t) V.toList o w Y.toList (by simpa using hb) (by simpa using ho)
 refine wpList_store_mid hg ty (.tmp p) (.tmp q) hop g o V (opv_eval hx) (opv_eval hq) (fun j hj=>⟨?_,hb.frozen _⟩) hV.1 hV.2 ?_
 ·rw[hb.cell (o+j) (Array.getElem?_eq_getElem (by omega))]
  rfl
 ·rw[hd]
  exact h _ h1 (by simpa using h2)
theorem ygrow{α:Type}{W0:World}{g3 c t sz by_ k cap3:Nat}{z:Value}{st tv:TypeId}{R:World→List Value→α→Prop}{ts:List α}{a3:Option Addr}{cs:List Value}{V Y:Array Value}{T:Nat→Bool}{oa og os:Oper}{gn:Nat}{db da df s:Tmp}(j q m:Nat)
 (hi0:InfoIs t z sz by_)(hz:z.cells.size=sz)(hsz:0<sz)(hby:by_≤1024)(hst:Tryz.prog.underlying st=some (.slice t))
 (G:Grow W0 w g3 t sz (.slice a3 k cap3) k cs R ts)(hR:∀w w',Sub w w'→∀l t,R w l t→R w' l t)(b3:Blk w g3 Y tv)(hg3:g3<W0.heap.size)(hc:c<Y.size)(oV:V.all (·.oneCell')=true)(hV:V.size=sz)(hk:k<ts.length)(hkb:k+1≤1099511627)
 (bW:Blk w gn V t)(hr:R (onlyW w T) V.toList ts[k])(hT:∀b,T b=true→W0.heap.size≤b∧some b≠(Value.slice a3 k cap3).ownBlock)(hS:Lk lo up w0 w)(hlo:lo≤g3)(hup:g3<up)(hob:∀g,(Value.slice a3 k cap3).ownBlock=some g→g<up)(_:w0.heap.size≤w.heap.size)
 (h:∀w' a' cap',Grow W0 w' g3 t sz (.slice a' (k+1) cap') (k+1) (cs++V.toList) R ts→Blk w' g3 (Y.setIfInBounds c (.slice a' (k+1) cap')) tv→Lk lo up w0 w'→Q .normal (frm n (upd (upd l da (.slice a' (k+1) cap')) df (.pointer (some ⟨g3,c,none⟩)))) w')
 (h2:ops[j]? =some oa:=by rfl)(hq:ops[q]? =some og:=by rfl)(h3:ops[m]? =some os:=by rfl)
 (hop2:oa.op= .call {callee:=.builtin .append,args:=#[.tmp s,.tmp db],argTypes:=#[st,st]}∧oa.guard=none∧oa.dst=some da:=by exact⟨rfl,rfl,rfl⟩)(hgf:og.guard=none∧og.dst=some df:=by exact⟨rfl,rfl⟩)(hfa:∀v W,(execOp (ev n (upd l da v)) og).run Tryz.prog W= .ok (.value (.pointer (some ⟨g3,c,none⟩))) W:=by intro v W;kernel_rfl)(hop3:os.op= .store st (.tmp df) (.tmp da)∧os.guard=none∧os.dst=none:=by exact⟨rfl,rfl,rfl⟩)
 (hs:opv n l (.tmp s)=some (.slice a3 k cap3):=by rfl)(hb:opv n l (.tmp db)=some (.slice (some ⟨gn,0,none⟩) 1 1):=by rfl)(hne:da≠df∧df<n∧da<n:=by decide)
 (hu:(Tryz.prog.info? st).map (·.size)=some 1:=by kernel_rfl)(hr2:Region.ready .any ops listed=[j]:=by kernel_rfl)(hr3:Region.ready .any ops (listed.setIfInBounds j true)=[q]:=by kernel_rfl)(hr5:Region.ready .any ops ((listed.setIfInBounds j true).setIfInBounds q true)=[m]:=by kernel_rfl)
 (hr4:Region.ready .any ops (((listed.setIfInBounds j true).setIfInBounds q true).setIfInBounds m true)=[]:=by kernel_rfl)(hfu:fuel=3:=by rfl):
 wpAnyH Tryz.prog .any ops Q (Lk lo up w0) fuel listed (frm n l) w:=by
 subst hfu
 obtain⟨n2,n3,n5⟩:=hne
 have hsz0:W0.heap.size≤w.heap.size:=G.kb.size
 refine rd1 j (fun K hK=> ?_) h2 hr2
 refine step_append_grow hop2.2.1 (.tmp s) (.tmp db) st hop2.1 hi0 hst hz hsz hby W0.heap.size hsz0 _ k cs (opv_eval hs) G.own ⟨gn,0,none⟩ 1 1 V.toList (opv_eval hb) (by simp[hV]) (blk_news bW) (fun u hu=> ?_) (by decide) hkb (fun v' w' ho hgb hor=> ?_)
 ·rw[Array.all_eq_true] at oV
  obtain⟨x,hx,rfl⟩:=List.getElem_of_mem hu
  exact oV x (by simpa using hx)
 obtain⟨a',cap',rfl,-,-,-⟩:=own_open ho
 have G3:=G.append hR hsz0 ho hgb hor (by simpa using hV) hk hr hT
 have own3:∀g,(Value.slice a3 k cap3).ownBlock=some g→W0.heap.size≤g:=fun g hg=>(World.ownsRow.lt G.own g hg).1
 have b5:Blk w' g3 Y tv:=(hgb.block g3 b3.lt (fun he=>by have:=own3 g3 he.symm;omega)).trans b3
 have l5:Lk lo up w0 w':=by
  refine hS.trans ⟨hgb.size,fun b hlt hx=>hgb.block b hlt (fun he=> ?_),hgb.tape,hgb.os,hgb.output⟩
  have:=own3 b he.symm
  have:=hob b he.symm
  omega
 rw[hop2.2.2,frm_put]
 refine hK.out _ _ l5 fun _=> ?_
 refine rd1 q (fun K hK=> ?_) hq hr3
 rw[if_pos (by simp[Region.wanted,hgf.1])]
 unfold Oper.wp
 rw[frm_eval,hfa]
 simp only[Oper.upon,hgf.2,frm_put]
 refine hK.out _ _ l5 fun _=>rd1 m (fun K hK=> ?_) h3 hr5
 rw[if_pos (by simp[Region.wanted,hop3.2.1])]
 have e1:(frm n (upd (upd l da (.slice a' (k+1) cap')) df (.pointer (some ⟨g3,c,none⟩)))).eval (.tmp df)= .pointer (some ⟨g3,c,none⟩):=opv_eval (by
  simp only[opv,upd,Nat.beq_refl,cond_true,show Nat.blt df n=true from Nat.ble_eq_true_of_le n3])
 have e2:(frm n (upd (upd l da (.slice a' (k+1) cap')) df (.pointer (some ⟨g3,c,none⟩)))).eval (.tmp da)= .slice a' (k+1) cap':=opv_eval (by
  simp only[opv,upd,Nat.beq_refl,cond_true,cond_false,beq_no n2,show Nat.blt da n=true from Nat.ble_eq_true_of_le n5])
 have hst1:(storeVar st ⟨g3,c,none⟩ (.slice a' (k+1) cap')).run Tryz.prog w'= .ok () (w'.setCell ⟨g3,c,none⟩ (.slice a' (k+1) cap')):=by
  have hcl:=b5.cell c (v:=Y[c]) (by simp[hc])
  have hfz:=b5.frozen c
  have hrs:=run_store Tryz.prog w' ⟨g3,c,none⟩ (.slice a' (k+1) cap') .plain rfl
  rw[hcl] at hrs
  simp only[hfz] at hrs
  cases hq2:Tryz.prog.info? st with
  |none=>simp[hq2] at hu
  |some q=>
   have hs1:q.size=1:=by simpa [hq2] using hu
   simp[storeVar,sizeOf,typeInfo,hq2,hs1,Value.cells,storeCells,Addr.add_mid,hrs]
 have kb:KeptB w' (w'.setCell ⟨g3,c,none⟩ (.slice a' (k+1) cap')) g3:=(KeptB.refl w' g3).setCell rfl _
 unfold Oper.wp execOp
 simp only[hop3.1,e1,e2,Instr.storeAt,Instr.sureAddr,Sem.run_bind,Sem.run_pure,Result.andThen_ok,hst1]
 show K ((frm n _).put os.dst undef) _
 rw[hop3.2.2]
 have l6:Lk lo up w0 (w'.setCell ⟨g3,c,none⟩ (.slice a' (k+1) cap')):=l5.but kb (.inl ⟨hlo,hup⟩)
 refine hK.out _ _ l6 fun _=>yend ?_ hr4
 exact h _ a' cap' (G3.store hR kb hg3) (b5.set c _) l6
theorem zgrow{α:Type}{W0:World}{g3 t sz by_ k cap3:Nat}{z:Value}{st:TypeId}{R:World→List Value→α→Prop}{ts:List α}{a3:Option Addr}{cs:List Value}{V:Array Value}{T:Nat→Bool}{ob oa:Oper}{db da s:Tmp}
 (hi0:InfoIs t z sz by_)(hz:z.cells.size=sz)(hsz:0<sz)(hby:by_≤1024)(hst:Tryz.prog.underlying st=some (.slice t))
 (G:Grow W0 w g3 t sz (.slice a3 k cap3) k cs R ts)(hR:∀w w',Sub w w'→∀l t,R w l t→R w' l t)(oV:V.all (·.oneCell')=true)(hV:V.size=sz)(hk:k<ts.length)(hkb:k+1≤1099511627)
 (hr:R (onlyW w T) V.toList ts[k])(hT:∀b,T b=true→W0.heap.size≤b∧some b≠(Value.slice a3 k cap3).ownBlock)
 (hbs:(execOp (ev n l) ob).run Tryz.prog w= .ok (.value (.slice (some ⟨w.heap.size,0,none⟩) 1 1)) (w.alloc (.cells V t)))
 (h:∀w' a' cap',Grow W0 w' g3 t sz (.slice a' (k+1) cap') (k+1) (cs++V.toList) R ts→wpList Tryz.prog ops Q rest (frm n (upd (upd l db (.slice (some ⟨w.heap.size,0,none⟩) 1 1)) da (.slice a' (k+1) cap'))) w')
 (hg1:ob.guard=none:=by rfl)(hd1:ob.dst=some db:=by rfl)
 (hop2:oa.op= .call {callee:=.builtin .append,args:=#[.tmp s,.tmp db],argTypes:=#[st,st]}∧oa.guard=none∧oa.dst=some da:=by exact⟨rfl,rfl,rfl⟩)
 (hs:opv n l (.tmp s)=some (.slice a3 k cap3):=by rfl)(hne:s≠db∧db<n:=by decide):
 wpList Tryz.prog ops Q (ob::oa::rest) (frm n l) w:=by
 obtain⟨n1,n4⟩:=hne
 refine zv _ (by rw[frm_eval];exact hbs) hg1 hd1 ?_
 have kW:Kept w (w.alloc (.cells V t)):=(Kept.refl w).alloc _
 have bW:=Blk.new w V t
 have G2:=G.kept hR kW
 have hsz0:W0.heap.size≤(w.alloc (.cells V t)).heap.size:=G2.kb.size
 have es:opv n (upd l db (.slice (some ⟨w.heap.size,0,none⟩) 1 1)) (.tmp s)=some (.slice a3 k cap3):=by
  rw[←hs];simp only[opv,upd,beq_no n1];rfl
 have eb:opv n (upd l db (.slice (some ⟨w.heap.size,0,none⟩) 1 1)) (.tmp db)=some (.slice (some ⟨w.heap.size,0,none⟩) 1 1):=by
  simp only[opv,upd,Nat.beq_refl,cond_true,show Nat.blt db n=true from Nat.ble_eq_true_of_le n4]
 refine wpList_append_grow hop2.2.1 (.tmp s) (.tmp db) st hop2.1 hi0 hst hz hsz hby W0.heap.size hsz0 _ k cs (opv_eval es) G2.own ⟨w.heap.size,0,none⟩ 1 1 V.toList (opv_eval eb) (by simp[hV]) (blk_news bW) (fun u hu=> ?_) (by decide) hkb (fun v' w' ho hgb hor=> ?_)
 ·rw[Array.all_eq_true] at oV
  obtain⟨x,hx,rfl⟩:=List.getElem_of_mem hu
  exact oV x (by simpa using hx)
 obtain⟨a',cap',rfl,-,-,-⟩:=own_open ho
 rw[hop2.2.2,frm_put]
 exact h w' a' cap' (G2.append hR hsz0 ho hgb hor (by simpa using hV) hk (hR _ _ (only_keep kW) _ _ hr) hT)
theorem yca1(i j k:Nat){ok:Oper}{c:Nat}{P:(Nat→Bool)→Value→World→Prop}(B:Value→Value)(f:FuncId)(args:Array Value)(A:Array Value)(t:TypeId)(hS:Lk lo up w0 w)
 (hc:∀W,Kept w W→Calls Tryz.prog f args W fun e w'=>∃v,e= .returned v∧P (ab W.heap.size) v w'∧Kept W w')(hPs:∀S S' v W W',P S v W→Sub (onlyW W S) (onlyW W' S')→P S' v W')
 (h:∀W g v,w.heap.size≤g→g<W.heap.size→Kept w W→Blk W g A t→P (abx w.heap.size g) v W→Lk lo up w0 W→wpAnyH Tryz.prog .any ops Q (Lk lo up w0) fuel (((listed.setIfInBounds i true).setIfInBounds k true).setIfInBounds j true) (frm n (upd (upd (upd l d v) c (B v)) e (.pointer (some ⟨g,0,none⟩)))) W)
 (hb:∀S v W,P S v W→∀l',(l'=l∨∃p,l'=upd l e (.pointer p))→∀W',(execOp (ev n (upd l' d v)) ok).run Tryz.prog W'= .ok (.value (B v)) W')
 (hi:ops[i]? =some oi:=by rfl)(hj:ops[j]? =some oj:=by rfl)(hk:ops[k]? =some ok:=by rfl)
 (hrun:∀l',(l'=l∨∃p,l'=upd l e (.pointer p))→∀W,(execOp (ev n l') oi).run Tryz.prog W= .ok (.enter f args) W:=by rintro l' (rfl|⟨p,rfl⟩) W<;>kernel_rfl)
 (hal:∀W l',(execOp (frm n l').eval oj).run Tryz.prog W= .ok (.value (.pointer (some ⟨W.heap.size,0,none⟩))) (W.alloc (.cells A t)):=by intro W l';kernel_rfl)
 (hg:oi.guard=none:=by rfl)(hd:oi.dst=some d:=by rfl)(hg2:oj.guard=none:=by rfl)(he:oj.dst=some e:=by rfl)(hg3:ok.guard=none:=by rfl)(hd3:ok.dst=some c:=by rfl)(hne:d≠e∧c≠e∧i≠j∧k≠j:=by decide)
 (hr:Region.ready .any ops listed=[i,j]:=by kernel_rfl)(hr1:Region.ready .any ops ((listed.setIfInBounds i true).setIfInBounds k true)=[j]:=by kernel_rfl)(hr2:Region.ready .any ops (listed.setIfInBounds j true)=[i]:=by kernel_rfl)
 (hs:Region.noSelect ops=true:=by kernel_rfl)(hf1:Region.free .any ops (listed.setIfInBounds i true) k=true:=by kernel_rfl)(hc1:(Region.ready .any ops (listed.setIfInBounds i true)).contains k=true:=by kernel_rfl)
 (hf2:Region.free .any ops ((listed.setIfInBounds j true).setIfInBounds i true) k=true:=by kernel_rfl)(hc2:(Region.ready .any ops ((listed.setIfInBounds j true).setIfInBounds i true)).contains k=true:=by kernel_rfl)
 (hQ:∀c v b w,Q (.panic c) (b.put ok.dst v) w→Q (.panic c) b w:=by exact fun _ _ _ _ h=>h):
 wpAnyH Tryz.prog .any ops Q (Lk lo up w0) (fuel+1+1+1) listed (frm n l) w:=by
 obtain⟨hde,hce,hij,hkj⟩:=hne
 refine rd2 i j (fun K hK=> ?_) (fun K hK=> ?_) hi hj hr
 ·rw[if_pos (by simp[Region.wanted,hg])]
  unfold Oper.wp
  rw[frm_eval,hrun l (.inl rfl)]
  refine Calls.mono (hc w (Kept.refl w)) fun x w' hR=> ?_
  obtain⟨v,rfl,hPv,hk'⟩:=hR
  rw[hd]
  simp only[frm_put]
  refine hK.out _ _ (hS.kept hk') fun hl=> ?_
  refine yr k (B v) hl ?_ hk hg3 hd3 (hb _ v w' hPv l (.inl rfl)) hs hf1 hc1 (fun c'=>hQ c' _)
  refine ya j A t hl (fun W g h1 h2 h3 h4 h5=> ?_) hj (hal _ _) hg2 he hr1
  exact h W g v (by have:=hk'.size;omega) (by omega) (hk'.trans h2) h3 (hPs _ _ _ _ _ hPv (abx_late h2 (by omega) (Nat.le_refl _))) h5
 ·rw[if_pos (by simp[Region.wanted,hg2])]
  unfold Oper.wp
  rw[hal]
  simp only[Oper.upon,he,frm_put]
  have hka:Kept w (w.alloc (.cells A t)):=(Kept.refl w).alloc _
  refine hK.out _ _ (hS.kept hka) fun hl=> ?_
  refine yc i f args hl (hc _ hka) (fun x w' hR=> ?_) hi (hrun _ (.inr ⟨_,rfl⟩) _) hg hd hr2
  obtain⟨v,rfl,hPv,hk'⟩:=hR
  refine⟨hk',v,rfl,fun hl'=> ?_⟩
  refine yr k (B v) hl' ?_ hk hg3 hd3 (hb _ v w' hPv _ (.inr ⟨_,rfl⟩)) hs hf2 hc2 (fun c'=>hQ c' _)
  have hsz:(w.alloc (.cells A t)).heap.size=w.heap.size+1:=Array.size_push ..
  have:=h w' w.heap.size v (Nat.le_refl _) (by have:=hk'.size;omega) (hka.trans hk') ((Blk.new w A t).kept hk') (hPs _ _ _ _ _ hPv (abx_soon (by omega) (by omega))) hl'
  rw[upd_comm hce,upd_comm hde,Array.setIfInBounds_comm _ _ hkj,Array.setIfInBounds_comm _ _ hij] at this
  exact this
end
end
end Go.Proofs.YtbapfnpbamnmpaaGreatDoor
