/- A part of the proof that ClaimFaces answers true for every input of bulk at most 1048576: conditions: the row's own. -/
import Derived.Test.YtbapfnpbamnmpaaGreatDoorVb
import Derived.Test.YtbapfnpbamnmpaaGreatDoorZa
import Derived.Test.YtbapfnpbamnmpaaGreatDoorXa
import Derived.Test.YtbapfnpbamnmpaaGreatDoorTb
import Derived.Deep.AppendLies
namespace Go.Proofs.YtbapfnpbamnmpaaGreatDoor
section
open Go Go.RowKit Go.Dig
open Go.Eng (Kept KW KeptB)
theorem Cnm.sub{w w':World}{f:Nat}{a:Option Addr}{n cap:Nat}{l:List CondD}(h:Cnm w f a n cap l)(k:Sub w w'):Cnm w' f a n cap l:=by
 obtain⟨hn,hc,hb,hi⟩:=h
 refine⟨hn,hc,hb,fun i h=> ?_⟩
 obtain⟨b,off,o,g,z,x1,x2,x3,x4,x5,x6,nm,a',n',cap',ha,h0,h1,h2,h3,h4,h5,h6,h7,he⟩:=hi i h
 exact⟨b,off,o,g,z,x1,x2,x3,x4,x5,x6,nm,a',n',cap',ha,k _ _ h0,k _ _ h1,k _ _ h2,k _ _ h3,k _ _ h4,k _ _ h5,k _ _ h6,k _ _ h7,he.sub k⟩
theorem Clm.sub{w w':World}{f:Nat}{v:Value}{c:ClaimD}(h:Clm w f v c)(k:Sub w w'):Clm w' f v c:=by
 obtain⟨o,g,z,x1,x2,x3,x4,x5,x6,nm,a0,n0,cap0,a1,n1,cap1,a2,n2,cap2,rfl,h1,h2,h3⟩:=h
 exact⟨o,g,z,x1,x2,x3,x4,x5,x6,nm,a0,n0,cap0,a1,n1,cap1,a2,n2,cap2,rfl,h1.sub k,h2.sub k,h3.sub k⟩
def RowsIs{α:Type}(R:List Value→α→Prop)(sz:Nat)(cs:List Value)(ts:List α):Prop:=
 cs.length=ts.length*sz∧∀(i:Nat)(h:i<ts.length),R ((cs.drop (i*sz)).take sz) ts[i]
theorem RowsIs.nil{α:Type}(R:List Value→α→Prop)(sz:Nat):RowsIs R sz [] []:=⟨by simp,fun i h=>absurd h (Nat.not_lt_zero i)⟩
theorem RowsIs.mono{α:Type}{R R':List Value→α→Prop}{sz:Nat}{cs:List Value}{ts:List α}(h:RowsIs R sz cs ts)(k:∀l t,R l t→R' l t):RowsIs R' sz cs ts:=
 ⟨h.1,fun i hi=>k _ _ (h.2 i hi)⟩
theorem RowsIs.snoc{α:Type}{R:List Value→α→Prop}{sz:Nat}{cs:List Value}{ts:List α}(h:RowsIs R sz cs ts){l:List Value}{t:α}(hl:l.length=sz)(hr:R l t):RowsIs R sz (cs++l) (ts++[t]):=by
 refine⟨by rw[List.length_append,List.length_append,h.1,hl,List.length_singleton,Nat.succ_mul],fun i hi=> ?_⟩
 by_cases hlt:i<ts.length
 ·rw[List.getElem_append_left hlt]
  have hle:i*sz+sz≤cs.length:=by
   rw[h.1,←Nat.succ_mul]
   exact Nat.mul_le_mul_right sz hlt
  rw[List.drop_append_of_le_length (by omega),List.take_append_of_le_length (by rw[List.length_drop];omega)]
  exact h.2 i hlt
 ·have hi':i=ts.length:=by simp at hi;omega
  subst hi'
  rw[List.getElem_append_right (Nat.le_refl _)]
  simp only[Nat.sub_self,List.getElem_cons_zero]
  rw[←h.1,List.drop_left,List.take_of_length_le (by omega)]
  exact hr
theorem RowsIs.take_succ{α:Type}{R:List Value→α→Prop}{sz:Nat}{cs:List Value}{ts:List α}{k:Nat}(hk:k<ts.length)(h:RowsIs R sz cs (ts.take k)){l:List Value}(hl:l.length=sz)(hr:R l ts[k]):RowsIs R sz (cs++l) (ts.take (k+1)):=by
 rw[List.take_succ_eq_append_getElem hk]
 exact h.snoc hl hr
end
section
open Go Go.RowKit Go.Dig
open Go.Eng (Kept KW KeptB wp_region_kw kw_call)
theorem Ap.wsAb{w:World}{base:Nat}{v:Value}{n:Nat}{zs:Nat→Nat}(h:Ap w base v n zs):∃a cap,v= .slice a n cap∧n≤cap∧Ws (onlyW w (ab base)) a n zs:=by
 obtain⟨hl,⟨rfl,rfl⟩|⟨g,cap,cur,rfl,hb,hg,hn,_,hcs,ht⟩⟩:=h
 ·exact⟨none,0,rfl,Nat.le_refl _,fun i hi=>by omega⟩
 ·refine⟨_,cap,rfl,hn,fun i hi=>⟨g,0,rfl,?_⟩⟩
  rw[Nat.zero_add,cell_only,if_pos (by simpa [ab] using hb)]
  have hh:(cur.toList.take (n*1))[i]? =some (.int .u32 (zs i:Nat)):=by rw[ht];simp[hi]
  rw[Nat.mul_one,List.getElem?_take,if_pos hi,Array.getElem?_toList] at hh
  simp[World.cell?,hg,hh]
set_option maxHeartbeats 1000000 in
set_option maxRecDepth 100000 in
theorem clone_fresh{w:World}{a:Option Addr}{n cap m:Nat}(h:Raw w (.slice a n cap) m):
 Calls Tryz.prog 233 #[.slice a n cap] w fun e w'=>∃a' n' cap',e= .returned (.slice a' n' cap')∧Raw (onlyW w' (ab w.heap.size)) (.slice a' n' cap') m∧Kept w w':=by
 have hnil:=fun(w:World)(a:Option Addr)(n c:Nat)=>Lib.run_eql_slice_nil (P:=Tryz.prog) w 22 191 a n c 0 0 Tryz.underlying22
 cases a with
 |none=>
  go_enter Tryz.func233,Tryz.ntmps233
  go_wp2
  go_ret
  obtain⟨a',n',cap',zs,e,h2,h3,h4,h5,h6⟩:=h
  obtain⟨rfl,rfl,rfl⟩:=Value.slice.inj e
  have hn0:n=0:=by
   rcases Nat.eq_zero_or_pos n with h0|h0
   ·exact h0
   ·obtain⟨b,off,ha,-⟩:=h6 0 h0
    cases ha
  subst hn0
  exact⟨none,0,0,rfl,⟨none,0,0,zs,rfl,Nat.le_refl _,by omega,h4,h5,fun i hi=>absurd hi (Nat.not_lt_zero i)⟩,Kept.refl w⟩
 |some ad=>
  obtain⟨a',n',cap',zs,e,h2,h3,h4,h5,hx⟩:=h
  obtain⟨rfl,rfl,rfl⟩:=Value.slice.inj e
  have hap0:Ap (w.alloc (.cells #[] 191)) w.heap.size (.slice (some ⟨w.heap.size,0,none⟩) 0 0) 0 (fun _=>0):=World.ownsRow_made w _ 0 (Nat.le_refl _) (by unfold maxLen;omega) (by simp)
  have hk0:Kept w (w.alloc (.cells #[] 191)):=(Kept.refl _).alloc _
  have hx0:=hx.kept hk0
  go_enter Tryz.func233,Tryz.ntmps233
  go_wp2_with(at_builtin;refine wpList_append_list rfl (.tmp 5) (.tmp 6) 22 rfl Tryz.underlying22 w hk0 _ 0 0 (fun _=>0) rfl hap0 (some ad) n cap zs rfl hx0 (by omega) ?_;intro v' w1 hap2 hkw2)
  go_ret
  rw[Nat.zero_add] at hap2
  obtain⟨a2,cap2,rfl,hc2,hw2⟩:=(hap2.congr (ys:=zs) fun i hi=>by simp[cat]).wsAb
  exact⟨_,_,_,rfl,⟨a2,n,cap2,zs,rfl,hc2,h3,h4,h5,hw2⟩,hkw2⟩
end
section
open Go Go.RowKit Go.Dig Go.Deep
open Go.Eng (Kept KW KeptB wp_region_kw kw_call)
def S1(n:Nat)(v:Value):Nat→Bool:=fun b=>decide (n≤b)&&(some b != v.ownBlock)
structure Grow{α:Type}(W0 W:World)(b3:Nat)(e sz:Nat)(v:Value)(k:Nat)(cs:List Value)(R:World→List Value→α→Prop)(ts:List α):Prop where
 kb:KeptB W0 W b3
 own:W.ownsRow W0.heap.size e sz v k cs
 rows:RowsIs (R (onlyW W (S1 W0.heap.size v))) sz cs (ts.take k)
section
variable{α:Type}{W0 W W':World}{b3 e sz:Nat}{v:Value}{k:Nat}{cs:List Value}{R:World→List Value→α→Prop}{ts:List α}
theorem KeptB.thenKept{w w1 w2:World}{b:Nat}(h:KeptB w w1 b)(k:Kept w1 w2):KeptB w w2 b:=
 ⟨Nat.le_trans h.size k.size,fun c hc hne=>(k.old c (Nat.lt_of_lt_of_le hc h.size)).trans (h.old c hc hne),k.tape.trans h.tape,k.os.trans h.os,k.output.trans h.output⟩
theorem KeptB.thenB{w w1 w2:World}{b:Nat}(h:KeptB w w1 b)(k:KeptB w1 w2 b):KeptB w w2 b:=
 ⟨Nat.le_trans h.size k.size,fun c hc hne=>(k.old c (Nat.lt_of_lt_of_le hc h.size) hne).trans (h.old c hc hne),k.tape.trans h.tape,k.os.trans h.os,k.output.trans h.output⟩
theorem Grow.start(W0:World)(b3 e sz:Nat)(R:World→List Value→α→Prop)(ts:List α):Grow W0 W0 b3 e sz (.slice none 0 0) 0 [] R ts:=
 ⟨KeptB.refl W0 b3,World.ownsRow_nil W0 _ e sz,RowsIs.nil _ sz⟩
theorem Grow.kept(h:Grow W0 W b3 e sz v k cs R ts)(hR:∀w w',Sub w w'→∀l t,R w l t→R w' l t)(q:Kept W W'):Grow W0 W' b3 e sz v k cs R ts:=
 ⟨KeptB.thenKept h.kb q,own_kept h.own q,h.rows.mono (hR _ _ (only_move fun b hb hs=>⟨hs,q.old b hb⟩))⟩
theorem own_keptB{base n b:Nat}(h:W.ownsRow base e sz v n cs)(q:KeptB W W' b)(hb:b<base):W'.ownsRow base e sz v n cs:=by
 refine World.ownsRow.kept (row:=some b) h ⟨q.os,q.tape,q.output,q.size,fun c hc hne=>q.old c hc (fun e=>hne (by rw[e]))⟩ ?_
 cases hv:v.ownBlock with
 |none=>exact .inl rfl
 |some g=>
  refine .inr fun he=> ?_
  cases he
  have:=(World.ownsRow.lt h b hv).1
  omega
theorem Grow.store(h:Grow W0 W b3 e sz v k cs R ts)(hR:∀w w',Sub w w'→∀l t,R w l t→R w' l t)(q:KeptB W W' b3)(hb:b3<W0.heap.size):Grow W0 W' b3 e sz v k cs R ts:=
 ⟨KeptB.thenB h.kb q,own_keptB h.own q hb,h.rows.mono (hR _ _ (only_move fun b hc hs=>⟨hs,q.old b hc (by
   simp only[S1,Bool.and_eq_true,decide_eq_true_eq] at hs;omega)⟩))⟩
theorem Grow.shape(h:Grow W0 W b3 e sz v k cs R ts):∃a cap,v= .slice a k cap∧k≤cap∧(∀g,v.ownBlock=some g→W0.heap.size≤g∧g<W.heap.size):=by
 obtain⟨a,cap,rfl,hc,-,-⟩:=own_open h.own
 exact⟨a,cap,rfl,hc,fun g hg=>World.ownsRow.lt h.own g hg⟩
theorem Grow.append{v':Value}{l:List Value}(h:Grow W0 W b3 e sz v k cs R ts)(hR:∀w w',Sub w w'→∀l t,R w l t→R w' l t)(hsz:W0.heap.size≤W.heap.size)
 (ho:W'.ownsRow W0.heap.size e sz v' (k+1) (cs++l))(hg:W.grownBy W' v.ownBlock)(hb:v'.ownBlock=v.ownBlock∨∀g,v'.ownBlock=some g→W.heap.size≤g)(hl:l.length=sz)
 (hk:k<ts.length){S:Nat→Bool}(hr:R (onlyW W S) l ts[k])(hS:∀b,S b=true→W0.heap.size≤b∧some b≠v.ownBlock):Grow W0 W' b3 e sz v' (k+1) (cs++l) R ts:=by
 have hmv:∀T:Nat→Bool,(∀b,T b=true→W0.heap.size≤b∧some b≠v.ownBlock)→Sub (onlyW W T) (onlyW W' (S1 W0.heap.size v')):=by
  intro T hT
  refine only_move fun b hlt hs=>⟨?_,hg.block b hlt (fun he=>(hT b hs).2 he)⟩
  simp only[S1,Bool.and_eq_true,decide_eq_true_eq,bne_iff_ne]
  refine⟨(hT b hs).1,fun he=> ?_⟩
  rcases hb with hb|hb
  ·exact(hT b hs).2 (by rw[he,hb])
  ·have:=hb b he.symm;omega
 refine⟨⟨Nat.le_trans h.kb.size hg.size,fun c hc hne=> ?_,hg.tape.trans h.kb.tape,hg.os.trans h.kb.os,hg.output.trans h.kb.output⟩,ho,?_⟩
 ·refine(hg.block c (Nat.lt_of_lt_of_le hc hsz) (fun he=> ?_)).trans (h.kb.old c hc hne)
  have:=(World.ownsRow.lt h.own c he.symm).1
  omega
 ·refine RowsIs.take_succ hk (h.rows.mono (hR _ _ (hmv _ fun b hs=> ?_))) hl (hR _ _ (hmv S hS) _ _ hr)
  simpa [S1] using hs
end
theorem step_append_grow{w:World}{ops:Array Oper}{o:Oper}{a:Act}{K:Act→World→Prop}{Q:Exit→Act→World→Prop}{E:Prop}(hgd:o.guard=none)(s x:Operand)(t:TypeId)
 (ho:o.op= .call {callee:=.builtin .append,args:=#[s,x],argTypes:=#[t,t]}){e:TypeId}{z:Value}{sz by_:Nat}(hi:InfoIs e z sz by_)(ht:Tryz.prog.underlying t=some (.slice e))(hz:z.cells.size=sz)(hsz:0<sz)(hby:by_≤1024)
 (base:Nat)(hbase:base≤w.heap.size)(v:Value)(n:Nat)(cs:List Value)(hs:a.eval s=v)(hown:w.ownsRow base e sz v n cs)
 (ad:Addr)(m c:Nat)(news:List Value)(hx:a.eval x= .slice (some ad) m c)(hl:news.length=m*sz)(hnews:∀j u,news[j]? =some u→w.cell? (ad.add j)=some u)(h1:∀u∈news,u.oneCell'=true)(hm:0<m)(hb:n+m≤1099511627)
 (h:∀v' w',w'.ownsRow base e sz v' (n+m) (cs++news)→w.grownBy w' v.ownBlock→(v'.ownBlock=v.ownBlock∨∀g,v'.ownBlock=some g→w.heap.size≤g)→K (a.put o.dst v') w'):
 if Region.wanted o (yielded ops a.tmps)=true then Oper.wp Tryz.prog o a w K Q else E:=by
 obtain⟨i0,hi,hz0,hz1,hz2⟩:=hi
 refine step_append_lies w hgd s x t ho base e i0 z sz by_ ht hi hz0 hz1 hz2 hz hsz v n cs hs hown ad m c news hx hl hnews h1 hm (by unfold maxLen;omega) (Nat.le_trans (Nat.mul_le_mul hb hby) (by decide)) hbase w.heap.size rfl ?_
 intro g cap w' h1 h2 h3 _
 refine h _ w' h1 h2 ?_
 rcases h3 with h3|h3
 ·exact .inl h3.symm
 ·refine .inr fun g' hg'=> ?_
  cases hg'
  exact Nat.le_of_eq h3.symm
theorem Ex.mk{w:World}{f:Nat}{op arg:Int}{s:Bool}{N D:Nat}{name:ByteArray}{kids:List Tree}{x1:Option Addr}{x2 x3:Nat}{x4:Option Addr}{x5 x6:Nat}{a:Option Addr}{cap:Nat}{cs:List Value}
 (hc:kids.length≤cap)(hr:Rt w (.agg #[.bool s,.slice x1 x2 x3,.slice x4 x5 x6]) s N D)(hn:kids.length<4611686018427387904)
 (hcell:∀i,i<cs.length→∃b,a=some ⟨b,0,none⟩∧w.cell? ⟨b,i,none⟩=cs[i]?)(hk:RowsIs (fun l t=>Ex w f (.agg l.toArray) t) 7 cs kids):
 Ex w (f+1) (.agg #[.int .i64 op,.int .i64 arg,.bool s,.slice x1 x2 x3,.slice x4 x5 x6,.string name,.slice a kids.length cap]) (.node op arg s N D name kids):=by
 refine⟨x1,x2,x3,x4,x5,x6,a,cap,rfl,hc,hr,hn,fun i h=> ?_⟩
 have hlen:i*7+7≤cs.length:=by rw[hk.1];omega
 obtain⟨b,ha,-⟩:=hcell (i*7) (by omega)
 refine⟨b,0,((cs.drop (i*7)).take 7).toArray,ha,by simp;omega,fun j hj=> ?_,hk.2 i h⟩
 obtain⟨b',ha',hc'⟩:=hcell (i*7+j) (by omega)
 rw[ha] at ha'
 cases ha'
 rw[show 0+7*i+j=i*7+j by omega,hc']
 simp[hj]
end
end Go.Proofs.YtbapfnpbamnmpaaGreatDoor
