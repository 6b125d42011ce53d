/- A part of the proof that the text which Print makes of a parsed text is a normal form -/
import Derived.Test.YtbapfnpbamnmpaaGreatDoorP00
import Derived.Test.YtbapfnpbamnmpaaGreatDoorP25
import Derived.Test.YtbapfnpbamnmpaaGreatDoorP24
import Derived.Tactics
import Derived.Test.YtbapfnpbamnmpaaGreatDoorP22
import Derived.Test.YtbapfnpbamnmpaaGreatDoorP21
import Derived.Test.YtbapfnpbamnmpaaGreatDoorP07
set_option maxHeartbeats 8000000
set_option maxRecDepth 100000
namespace Go.Proofs.YtbapfnpbamnmpaaGreatDoor
open Go Go.RowKit Go.Dig Go.Deep Go.Eng Go.Proofs.Tryz
variable{b i k n sz t:Nat}{l:Fm}{W0 w:World}{cs:List Value}{V:Array Value}{ob:Oper}{db:Tmp}{fn:Func}{v:Value}{R:Ending->World->Prop}{E:Nat->Bool}
def ar(ts:List aS)(i:Nat):aS:=(ts[i]?).getD ⟨4,⟨#[]⟩,0⟩
def bF(t:aS)(b:List UInt8):Bool:=(t.kind==3)&&(t.text.toList==b)
def dZ(t:aS):Bool:=(t.kind==0)&&(aw t.text 0==t.text.size)
def jC(t:ByteArray):Nat:=t.toList.foldl (λ n c=>if n<1000 then n*10+(c.toNat-48) else n) 0
inductive PR(α:Type) where
 |ok (x:α) (i:Nat) (u:List (Nat×Bool)):PR α
 |bad (i:Nat):PR α
def PR.map{α β:Type}(f:α->β):PR α->PR β
 | .ok x i u=>.ok (f x) i u
 | .bad i=>.bad i
def cf{α β:Type}(a:Option (PR α))(f:α->Nat->Option (PR β)):Option (PR β):=
 match a with
 |some (.ok x i u)=>match f x i with
  |some (.ok y j v)=>some (.ok y j (u++v))
  |some (.bad j)=>some (.bad j)
  |none=>none
 |some (.bad i)=>some (.bad i)
 |none=>none
def cG(ts:List aS)(b:List UInt8)(i:Nat):Option (PR Unit):=if bF (ar ts i) b=true then some (.ok () (i+1) []) else some (.bad i)
def rP(ts:List aS)(root:Bool)(i:Nat):Option (PR Nat):=if dZ (ar ts i)=true then some (.ok (min (jC (ar ts i).text) 1000) (i+1) [(i,root)]) else some (.bad i)
def bY(op:Int)(arg:Int)(kids:List aj):aj:=.node op arg false 0 0 ⟨#[]⟩ kids
structure gV where
 n:Nat
 d:Nat
def bM(num:ByteArray->gV)(t:aS):Option aj:=
 if t.kind=0 then some (.node 1 0 false (num t.text).n (num t.text).d ⟨#[]⟩ [])
 else if t.kind=1 then some (.node 2 0 false 0 0 t.text [])
 else if bF t [112,105]=true then some (bY 3 0 []) else none
def cm(t:aS):Option (Nat×Int×Int):=
 if t.kind=2 then some (1,11,((aW.toList.findIdx λ x=>x.toList==t.text.toList)+1:Nat))
 else if bF t [97,98,115]=true then some (1,12,0)
 else if bF t [115,113,114,116]=true then some (1,10,2)
 else if bF t [109,105,110]=true then some (2,13,0)
 else if bF t [109,97,120]=true then some (2,14,0)
 else if bF t [105,102]=true then some (3,15,0) else none
mutual
def eD(num:ByteArray->gV)(ts:List aS):Nat->Nat->Option (PR aj)
 |0,_=>none
 |n+1,i=>cf (ee num ts n i) λ t j=>kh num ts n t j
def kh(num:ByteArray->gV)(ts:List aS):Nat->aj->Nat->Option (PR aj)
 |0,_,_=>none
 |n+1,t,i=>
  if bF (ar ts i) [43]=true then cf (ee num ts n (i+1)) λ u j=>kh num ts n (bY 5 0 [t,u]) j
  else if bF (ar ts i) [45]=true then cf (ee num ts n (i+1)) λ u j=>kh num ts n (bY 6 0 [t,u]) j
  else some (.ok t i [])
def ee(num:ByteArray->gV)(ts:List aS):Nat->Nat->Option (PR aj)
 |0,_=>none
 |n+1,i=>cf (gm num ts n i) λ t j=>eY num ts n t j
def eY(num:ByteArray->gV)(ts:List aS):Nat->aj->Nat->Option (PR aj)
 |0,_,_=>none
 |n+1,t,i=>
  if bF (ar ts i) [42]=true then cf (gm num ts n (i+1)) λ u j=>eY num ts n (bY 7 0 [t,u]) j
  else if bF (ar ts i) [47]=true then cf (gm num ts n (i+1)) λ u j=>eY num ts n (bY 8 0 [t,u]) j
  else some (.ok t i [])
def gm(num:ByteArray->gV)(ts:List aS):Nat->Nat->Option (PR aj)
 |0,_=>none
 |n+1,i=>
  if bF (ar ts i) [45]=true then(gm num ts n (i+1)).map (PR.map λ t=>bY 4 0 [t])
  else cf (dy num ts n i) λ t j=>
   if bF (ar ts j) [94]=true then
    if bF (ar ts (j+1)) [45]=true then(rP ts false (j+2)).map (PR.map λ (m:Nat)=>bY 9 (-(m:Int)) [t])
    else(rP ts false (j+1)).map (PR.map λ (m:Nat)=>bY 9 (m:Int) [t])
   else some (.ok t j [])
def dy(num:ByteArray->gV)(ts:List aS):Nat->Nat->Option (PR aj)
 |0,_=>none
 |n+1,i=>
  match bM num (ar ts i) with
  |some t=>some (.ok t (i+1) [])
  |none=>
   if bF (ar ts i) [40]=true then cf (eD num ts n (i+1)) λ t j=>(cG ts [41] j).map (PR.map λ _=>t)
   else match cm (ar ts i) with
    |some (k,op,arg)=>(gK num ts n k (i+1)).map (PR.map λ l=>bY op arg l)
    |none=>
     if bF (ar ts i) [114,111,111,116]=true then
      cf (cG ts [40] (i+1)) λ _ j=>cf (rP ts true j) λ m j=>cf (cG ts [44] j) λ _ j=>cf (eD num ts n j) λ t j=>(cG ts [41] j).map (PR.map λ _=>bY 10 (m:Int) [t])
     else some (.bad i)
def gK(num:ByteArray->gV)(ts:List aS):Nat->Nat->Nat->Option (PR (List aj))
 |0,_,_=>none
 |n+1,k,i=>cf (cG ts [40] i) λ _ j=>cf (eD num ts n j) λ t j=>cf (dM num ts n (k-1) j) λ l j=>(cG ts [41] j).map (PR.map λ _=>t::l)
def dM(num:ByteArray->gV)(ts:List aS):Nat->Nat->Nat->Option (PR (List aj))
 |0,_,_=>none
 |_+1,0,i=>some (.ok [] i [])
 |n+1,k+1,i=>cf (cG ts [44] i) λ _ j=>cf (eD num ts n j) λ t j=>(dM num ts n k j).map (PR.map λ l=>t::l)
end
theorem aaQ{ops:Array Oper}{rest:List Oper}{Q:Exit->Act->World->Prop}{α:Type}{g3 D5 a:Nat}{z:Value}{st tv:TypeId}{R:World->List Value->α->Prop}{ts:List α}{a3:Option Addr}{Y:Array Value}{T:Nat->Bool}{oa:Oper}{da s:Tmp}
 (f:gY t z sz D5)(r:z.cells.size=sz)(y:0<sz)(J:D5<=1024)(A:prog.underlying st=some (.slice t))
 (G:fW W0 w g3 t sz (.slice a3 k a) k cs R ts)(hR:∀w w',nT w w'->∀l t,R w l t->R w' l t)(b3:aD w g3 Y tv)(O:g3<W0.heap.size)(j:V.all (·.oneCell')=true)(p:V.size=sz)(E:k<ts.length)(D:k+1<=1099511627)
 (hr:R (aB w T) V.toList ts[k])(L:∀b,T b=true->W0.heap.size<=b/\some b≠(Value.slice a3 k a).ownBlock)
 (K:(execOp (ev n l) ob).run prog w= .ok (.value (.slice (some ⟨w.heap.size,0,none⟩) 1 1)) (w.alloc (.cells V t)))
 (h:∀w' a' c,fW W0 w' g3 t sz (.slice a' (k+1) c) (k+1) (cs++V.toList) R ts->aD w' g3 Y tv->wpList prog ops Q rest (aH n (aC (aC l db (.slice (some ⟨w.heap.size,0,none⟩) 1 1)) da (.slice a' (k+1) c))) w')
 (F:ob.guard=none:=by rfl)(I:ob.dst=some db:=by rfl)
 (e:oa.op= .call {callee:=.builtin .append,args:=#[.tmp s,.tmp db],argTypes:=#[st,st]}/\oa.guard=none/\oa.dst=some da:=by exact⟨rfl,rfl,rfl⟩)
 (hs:bA n l (.tmp s)=some (.slice a3 k a):=by rfl)(C:s≠db/\db<n:=by decide):
 wpList prog ops Q (ob::oa::rest) (aH n l) w:=by
 obtain⟨n1,n4⟩:=C;refine zv _ (by rw[aO];exact K) F I ?_;have d:aa w (w.alloc (.cells V t)):=(aa.refl w).alloc _;have N:=aD.new w V t;have i:=G.kept hR d;have m:W0.heap.size<=(w.alloc (.cells V t)).heap.size:=i.kb.size;have es:bA n (aC l db (.slice (some ⟨w.heap.size,0,none⟩) 1 1)) (.tmp s)=some (.slice a3 k a):=by
  rw[<-hs];simp only[bA,aC,oM n1];rfl
 have M:bA n (aC l db (.slice (some ⟨w.heap.size,0,none⟩) 1 1)) (.tmp db)=some (.slice (some ⟨w.heap.size,0,none⟩) 1 1):=by
  simp only[bA,aC,Nat.beq_refl,cond_true,show Nat.blt db n=true from Nat.ble_eq_true_of_le n4]
 refine dh e.2.1 (.tmp s) (.tmp db) st e.1 f A r y J W0.heap.size m _ k cs (aE es) i.own ⟨w.heap.size,0,none⟩ 1 1 V.toList (aE M) (by simp[p]) (pR N) (λ u v=> ?_) (by decide) D (λ v' w' ho o B=> ?_)
 ·rw[Array.all_eq_true] at j;obtain⟨x,hx,rfl⟩:=List.getElem_of_mem v;exact j x (by simpa using hx)
 obtain⟨a',c,rfl,-,-,-⟩:=bI ho;rw[e.2.2,bX]
 have cQ:∀g,(Value.slice a3 k a).ownBlock=some g->W0.heap.size<=g:=λ g H=>(World.ownsRow.lt G.own g H).1;have q:=b3.kept d;exact h w' a' c (i.append hR m ho o B (by simpa using p) E (hR _ _ (jS d) _ _ hr) L) ((o.block g3 q.lt (λ he=>by have:=cQ g3 he.symm;omega)).trans q)
theorem yt1{ops:Array Oper}{Q:Exit->Act->World->Prop}{oi:Oper}{fuel:Nat}{listed:Array Bool}{w0:World}{lo up:Nat}(i:Nat){p q:Tmp}{ty g o:Nat}{t:TypeId}{Y:Array Value}{x:Value}(hb:aD w g Y t)(ho:o<Y.size)(d:x.oneCell'=true)(r:(lo<=g/\g<up)∨w0.heap.size<=g)(hS:Lk lo up w0 w)
 (h:∀w',af w w' g->aD w' g (Y.setIfInBounds o x) t->Lk lo up w0 w'->wpAnyH prog .any ops Q (Lk lo up w0) fuel (listed.setIfInBounds i true) (aH n l) w')
 (hi:ops[i]? =some oi:=by rfl)(m:oi.op= .store ty (.tmp p) (.tmp q):=by rfl)(hd:oi.dst=none:=by rfl)(s:oi.guard=none:=by rfl)
 (hx:bA n l (.tmp p)=some (.pointer (some ⟨g,o,none⟩)):=by rfl)(k:bA n l (.tmp q)=some x:=by rfl)(e:(prog.info? ty).map (·.size)=some 1:=by kernel_rfl)(hr:Region.ready .any ops listed=[i]:=by kernel_rfl):
 wpAnyH prog .any ops Q (Lk lo up w0) (fuel+1) listed (aH n l) w:=by
 refine Ll i (λ K hK=> ?_) hi hr;rw[if_pos (by simp[Region.wanted,s])]
 have f:(storeVar ty ⟨g,o,none⟩ x).run prog w= .ok () (w.setCell ⟨g,o,none⟩ x):=by
  have u:=hb.cell o (v:=Y[o]) (by simp[ho])
  have a:=run_store prog w ⟨g,o,none⟩ x .plain d;rw[u] at a;simp only[hb.frozen o] at a;cases b:prog.info? ty with
  |none=>simp[b] at e
  |some q=>
   have j:q.size=1:=by simpa [b] using e
   cases x<;>first
    |(simp[Value.oneCell'] at d;done)
    |(simp[storeVar,sizeOf,typeInfo,b,j,Value.cells,storeCells,Addr.add_mid,a];done)
 have kb:af w (w.setCell ⟨g,o,none⟩ x) g:=(af.refl w g).setCell rfl _;unfold Oper.wp execOp;simp only[m,aE hx,aE k,Instr.storeAt,Instr.sureAddr,Sem.run_bind,Sem.run_pure,Result.andThen_ok,f]
 show K ((aH n l).put oi.dst undef) _;rw[hd]
 have c:=hS.but kb r;exact hK.out _ _ c λ _=>h _ kb (hb.set o _) c
section
variable{n d:Nat}{l:Fm}{ops:Array Oper}{rest:List Oper}{Q:Exit->Act->World->Prop}{oi:Oper}{w:World}
theorem zmk{t:TypeId}(h:∀w' a,a=w.heap.size->aa w w'->w'.heap[a]? =some (.map #[] 0)->w'.heap.size=a+1->wpList prog ops Q rest (aH n (aC l d (.map (some a)))) w')
 (b:oi.op= .makeMap t none:=by rfl)(c:oi.guard=none:=by rfl)(hd:oi.dst=some d:=by rfl):wpList prog ops Q (oi::rest) (aH n l) w:=
 zv (.map (some w.heap.size)) (by unfold execOp;rw[b];rfl) c hd (h (w.alloc (.map #[] 0)) _ rfl ((aa.refl w).alloc _) (Array.getElem?_push_size ..) (Array.size_push ..))
end
theorem Lp{a b c:List UInt8}(h:Op.bytesLess a b=true)(k:Op.bytesLess b c=true):Op.bytesLess a c=true:=by
 rw[Go.Proofs.bytesLess_eq] at*;exact cU (List.lt_trans (kC h) (kC k))
def D6(a b:aL):Prop:=Op.bytesLess a.name.toList b.name.toList=true
theorem tW{l:List aL}:iV l=true↔l.length<=6/\(∀s∈l,bV s.name=true/\s.iv.fine=true/\s.iv.void=false)/\l.Pairwise D6:=by
 constructor
 ·intro h;unfold iV at h;simp only[fv,oh,List.all_eq_true,List.mem_range] at h;obtain⟨b,hs⟩:=h;have a:∀k(a:k<l.length),bV l[k].name=true/\l[k].iv.fine=true/\l[k].iv.void=false/\(k≠0->Op.bytesLess (l.getD (k-1) default).name.toList l[k].name.toList=true):=by
   intro k a;have:=hs k a;unfold fF at this;rw[jB a] at this;simp only[fv,Bool.or_eq_true,beq_iff_eq,Bool.not_eq_true'] at this;exact⟨this.1.1.1,this.1.2,this.2,λ c=>this.1.1.2.resolve_left c⟩
  refine⟨b,λ s hs=> ?_,?_⟩
  ·obtain⟨k,d,rfl⟩:=List.getElem_of_mem hs;have:=a k d;exact⟨this.1,this.2.1,this.2.2.1⟩
  ·rw[List.pairwise_iff_getElem]
   intro i j hi e f;induction j with
   |zero=>omega
   |succ j ih=>
    have h1:=(a (j+1) e).2.2.2 (by omega)
    rw[Nat.add_sub_cancel,jB (by omega)] at h1;rcases Nat.lt_or_ge i j with h2|h2
    ·exact Lp (ih (by omega) h2) h1
    ·obtain rfl:i=j:=by omega
     exact h1
 ·rintro⟨b,hs,hp⟩
  refine BA b λ k a=> ?_;obtain⟨g1,g2,g3⟩:=hs _ (List.getElem_mem a)
  unfold fF;rw[jB a,g1,g2,g3]
  by_cases c:k=0
  ·subst c;rfl
  ·rw[jB (show k-1<l.length by omega)]
   have:=(List.pairwise_iff_getElem.1 hp) (k-1) k (by omega) a (by omega)
   unfold D6 at this;rw[this]
   simp
section
attribute [local irreducible] wpList
theorem kP(w:World)(c:Nat):Calls prog 169 #[.int .u8 (c:Int)] w λ e w'=>e= .returned (.bool (aQ c))/\aa w w':=by
 have e1:aQ c=(decide ((48:Int)<=(c:Int))&&decide ((c:Int)<=57)):=by
  unfold aQ;congr 1<;>exact decide_eq_decide.2 (by omega)
 rw[e1]
 refine ct 8 func169 rfl ntmps169 ?_;refine gx ?_;cases h:decide ((48:Int)<=(c:Int))
 ·refine cr false ?_ ?_
  ·exact h
  refine gx ?_;exact aF (v:=.bool false) ⟨rfl,aa.refl w⟩
 ·refine cr true ?_ ?_
  ·exact h
  refine gx ?_;refine cr (decide ((c:Int)<=(57:Int))) ?_ ?_
  ·rfl
  refine gx ?_;exact aF (v:=.bool (decide ((c:Int)<=(57:Int)))) ⟨rfl,aa.refl w⟩
theorem uV(w:World)(c:Nat):Calls prog 171 #[.int .u8 (c:Int)] w λ e w'=>e= .returned (.bool (cE c))/\aa w w':=by
 have e1:cE c=(decide ((97:Int)<=(c:Int))&&decide ((c:Int)<=122)):=by
  unfold cE;congr 1<;>exact decide_eq_decide.2 (by omega)
 rw[e1]
 refine ct 8 func171 rfl ntmps171 ?_;refine gx ?_;cases h:decide ((97:Int)<=(c:Int))
 ·refine cr false ?_ ?_
  ·exact h
  refine gx ?_;exact aF (v:=.bool false) ⟨rfl,aa.refl w⟩
 ·refine cr true ?_ ?_
  ·exact h
  refine gx ?_;refine cr (decide ((c:Int)<=(122:Int))) ?_ ?_
  ·rfl
  refine gx ?_;exact aF (v:=.bool (decide ((c:Int)<=(122:Int)))) ⟨rfl,aa.refl w⟩
theorem pd(w:World)(s:ByteArray)(hi:i<=s.size)(hs:s.size<=1000000):Calls prog 260 #[.string s,.int .i64 (i:Int)] w λ e w'=>e= .returned (.int .i64 ((aw s i:Nat):Int))/\aa w w':=by
 refine dK [_,_] 18 func260 rfl ntmps260 (by simp) ?_;refine gx ?_;refine dQ (σ:=Unit) (s.size-i) (λ k _=>[(0,.string s),(1,.int .i64 ((i+k:Nat):Int))])
  (λ k _ W=>aa w W/\aw s i=aw s (i+k)) () ⟨rfl,rfl,trivial⟩ ⟨aa.refl w,rfl⟩ λ g wr k _ f ⟨a,he⟩=> ?_
 refine gx ?_;by_cases b:i+k<s.size
 ·refine gx ?_;refine wL b ?_;refine gx ?_;refine zc 169 _ (kP _ (bt s (i+k))) ?_;rintro e d ⟨rfl,c⟩
  refine gx ?_;cases hd:aQ (bt s (i+k))
  ·refine gx ?_;exact aF ⟨by rw[he,show aw s (i+k)=i+k from ir λ _=>hd],a.trans c⟩
  ·refine gx ?_;refine z2 (.int .i64 ((i+k+1:Nat):Int)) (hrun:=cu (by omega)) ?_;refine gx ?_;exact⟨_,(),rfl,by omega,⟨rfl,rfl,trivial⟩,a.trans c,by rw[he];exact dN b hd⟩
 ·refine gx ?_;exact aF ⟨by rw[he,show aw s (i+k)=i+k from ir λ h=>absurd h b],a⟩
theorem Co(w:World)(s:ByteArray)(hi:i<=s.size)(hs:s.size<=1000000):Calls prog 170 #[.string s,.int .i64 (i:Int)] w λ e w'=>e= .returned (.int .i64 ((dV s i:Nat):Int))/\aa w w':=by
 have n:aw s i<=s.size:=jw hi;obtain⟨r,hr⟩:∃r,r=dV s i:=⟨_,rfl⟩
 rw[<-hr]
 unfold dV at hr;generalize l:aw s i=j at n hr;have hc:=pd w s hi hs;rw[l] at hc;refine dK [_,_] 37 func170 rfl ntmps170 (by simp) ?_;refine gx ?_;refine zc 260 _ hc ?_;rintro e o ⟨rfl,a⟩
 refine gx ?_;refine z2 (.int .i64 ((j+1:Nat):Int)) (hrun:=cu (by omega)) ?_;refine gx ?_;by_cases c:j+1<s.size;case neg=>
  refine gx ?_;rw[if_neg (λ h=>c h.1)] at hr;exact aF ⟨by rw[hr],a⟩
 refine gx ?_;refine wL (s:=s) (k:=j) (by omega) ?_;refine gx ?_;by_cases f:bt s j=46
 ·refine cr true ?_ ?_
  ·rw[f];rfl
  refine gx ?_;refine z2 (.int .i64 ((j+1:Nat):Int)) (hrun:=cu (by omega)) ?_;refine gx ?_;refine wL c ?_;refine gx ?_;refine zc 169 _ (kP _ (bt s (j+1))) ?_;rintro e m ⟨rfl,b⟩
  refine gx ?_;cases hd:aQ (bt s (j+1))
  ·refine gx ?_;rw[if_neg (λ h=>by rw[hd] at h;exact absurd h.2.2 (by decide))] at hr;exact aF ⟨by rw[hr],a.trans b⟩
  ·refine gx ?_;refine z2 (.int .i64 ((j+1:Nat):Int)) (hrun:=cu (by omega)) ?_;refine zc 260 _ (pd _ s (show j+1<=s.size by omega) hs) ?_;rintro e w3 ⟨rfl,g⟩
   refine gx ?_;rw[if_pos ⟨c,.inl f,hd⟩] at hr;exact aF ⟨by rw[hr],(a.trans b).trans g⟩
 ·refine gx ?_;refine wL (s:=s) (k:=j) (by omega) ?_;refine gx ?_;by_cases d:bt s j=47
  ·refine cr true ?_ ?_
   ·rw[d];rfl
   refine gx ?_;refine z2 (.int .i64 ((j+1:Nat):Int)) (hrun:=cu (by omega)) ?_;refine gx ?_;refine wL c ?_;refine gx ?_;refine zc 169 _ (kP _ (bt s (j+1))) ?_;rintro e m ⟨rfl,b⟩
   refine gx ?_;cases hd:aQ (bt s (j+1))
   ·refine gx ?_;rw[if_neg (λ h=>by rw[hd] at h;exact absurd h.2.2 (by decide))] at hr;exact aF ⟨by rw[hr],a.trans b⟩
   ·refine gx ?_;refine z2 (.int .i64 ((j+1:Nat):Int)) (hrun:=cu (by omega)) ?_;refine zc 260 _ (pd _ s (show j+1<=s.size by omega) hs) ?_;rintro e w3 ⟨rfl,g⟩
    refine gx ?_;rw[if_pos ⟨c,.inr d,hd⟩] at hr;exact aF ⟨by rw[hr],(a.trans b).trans g⟩
  ·refine gx ?_;rw[if_neg (λ h=>by rcases h.2.1 with h|h<;>contradiction)] at hr;exact aF ⟨by rw[hr],a⟩
theorem AL(w:World)(t:ByteArray):Calls prog 262 #[.string t] w λ e w'=>e= .returned (.bool (DL t))/\aa w w':=by
 obtain⟨r,hr⟩:∃r,r=DL t:=⟨_,rfl⟩
 rw[<-hr]
 unfold DL at hr;refine ct 15 func262 rfl ntmps262 ?_;refine gx ?_;cases a:(t.toList==[112,105])
 case' true=>
  refine pJ true ?_ ?_
  ·exact a
  refine gx ?_;exact aF (v:=.bool true) ⟨by rw[hr];simp[a],aa.refl w⟩
 refine pJ false ?_ ?_
 ·exact a
 refine gx ?_;cases h1:(t.toList==[97,98,115])
 case' true=>
  refine pJ true ?_ ?_
  ·exact h1
  refine gx ?_;exact aF (v:=.bool true) ⟨by rw[hr];simp[a,h1],aa.refl w⟩
 refine pJ false ?_ ?_
 ·exact h1
 refine gx ?_;cases h2:(t.toList==[109,105,110])
 case' true=>
  refine pJ true ?_ ?_
  ·exact h2
  refine gx ?_;exact aF (v:=.bool true) ⟨by rw[hr];simp[a,h1,h2],aa.refl w⟩
 refine pJ false ?_ ?_
 ·exact h2
 refine gx ?_;cases h3:(t.toList==[109,97,120])
 case' true=>
  refine pJ true ?_ ?_
  ·exact h3
  refine gx ?_;exact aF (v:=.bool true) ⟨by rw[hr];simp[a,h1,h2,h3],aa.refl w⟩
 refine pJ false ?_ ?_
 ·exact h3
 refine gx ?_;cases b:(t.toList==[114,111,111,116])
 case' true=>
  refine pJ true ?_ ?_
  ·exact b
  refine gx ?_;exact aF (v:=.bool true) ⟨by rw[hr];simp[a,h1,h2,h3,b],aa.refl w⟩
 refine pJ false ?_ ?_
 ·exact b
 refine gx ?_;cases c:(t.toList==[115,113,114,116])
 case' true=>
  refine pJ true ?_ ?_
  ·exact c
  refine gx ?_;exact aF (v:=.bool true) ⟨by rw[hr];simp[a,h1,h2,h3,b,c],aa.refl w⟩
 refine pJ false ?_ ?_
 ·exact c
 refine gx ?_;cases d:(t.toList==[105,102])
 case' true=>
  refine pJ true ?_ ?_
  ·exact d
  refine gx ?_;exact aF (v:=.bool true) ⟨by rw[hr];simp[a,h1,h2,h3,b,c,d],aa.refl w⟩
 refine pJ false ?_ ?_
 ·exact d
 refine gx ?_;cases f:(t.toList==[105,110,102])
 case' true=>
  refine pJ true ?_ ?_
  ·exact f
  refine gx ?_;exact aF (v:=.bool true) ⟨by rw[hr];simp[a,h1,h2,h3,b,c,d,f],aa.refl w⟩
 refine pJ false ?_ ?_
 ·exact f
 refine gx ?_;cases g:(t.toList==[102,111,114])
 case' true=>
  refine pJ true ?_ ?_
  ·exact g
  refine gx ?_;exact aF (v:=.bool true) ⟨by rw[hr];simp[a,h1,h2,h3,b,c,d,f,g],aa.refl w⟩
 refine pJ false ?_ ?_
 ·exact g
 refine gx ?_;cases h:(t.toList==[105,110])
 case' true=>
  refine pJ true ?_ ?_
  ·exact h
  refine gx ?_;exact aF (v:=.bool true) ⟨by rw[hr];simp[a,h1,h2,h3,b,c,d,f,g,h],aa.refl w⟩
 refine pJ false ?_ ?_
 ·exact h
 refine gx ?_;cases i:(t.toList==[119,104,101,114,101])
 case' true=>
  refine pJ true ?_ ?_
  ·exact i
  refine gx ?_;exact aF (v:=.bool true) ⟨by rw[hr];simp[a,h1,h2,h3,b,c,d,f,g,h,i],aa.refl w⟩
 refine pJ false ?_ ?_
 ·exact i
 refine gx ?_;exact aF (v:=.bool false) ⟨by rw[hr];simp[a,h1,h2,h3,b,c,d,f,g,h,i],aa.refl w⟩
@[reducible] def iH (k:Nat) (t:ByteArray) (a:Nat):Array Value:=#[.int .i64 (k:Int),.string t,.int .i64 (a:Int)]
def ZT:Array Value:=#[.int .i64 0,.string ⟨#[]⟩,.int .i64 0]
theorem cA{k a:Int}{t:ByteArray}:dY 153 #[.int .i64 k,.string t,.int .i64 a]:=⟨by kernel_rfl,by simp[Value.oneCell']⟩
theorem lC:dY 153 ZT:=cA
section
variable{n d:Nat}{l:Fm}{w:World}
theorem qZ{ty t1:TypeId}{p1:Tmp}{g1:Nat}{V1:Array Value}(e:aD w g1 V1 t1)(v1:dY ty V1)(hR:R (.returned (.tuple #[.agg V1,v])) w)
 (h:fn.results=#[.cell p1 ty,.tmp d]:=by rfl)(b:bA n l (.tmp p1)=some (.pointer (some ⟨g1,0,none⟩)):=by rfl)(hv:bA n l (.tmp d)=some v:=by rfl)(c:(prog.underlying ty).map TypeDesc.isRow=some true:=by kernel_rfl):bodyPost prog fn R .ret (aH n l) w:=by
 refine bodyPost_ret ?_ rfl hR;have e1:=bK b;have a:=bK hv;simp only[Array.getD_eq_getD_getElem?] at e1 a;simp[results,h,e1,a,asAddr,e.loadVar v1 c]
end
theorem Jg(w:World)(s:ByteArray)(hi:i<=s.size)(hs:s.size<=1000000):Calls prog 172 #[.string s,.int .i64 (i:Int)] w λ e w'=>
 ∃k:Nat,e= .returned (.tuple #[.agg (iH k (s.extract i (dO s i)) i),.bool (fX (s.extract i (dO s i))).isSome])/\(∀k',fX (s.extract i (dO s i))=some k'->k=k')/\aa w w':=by
 have J:i<=dO s i:=dU _ _ _;have o:dO s i<=s.size:=jw hi;obtain⟨E,n⟩:∃E,E=dO s i:=⟨_,rfl⟩
 rw[<-n] at J o⊢;obtain⟨t,H⟩:∃t,t=s.extract i E:=⟨_,rfl⟩
 rw[<-H]
 refine dK [_,_] 53 func172 rfl ntmps172 (by simp) ?_;refine gx ?_;refine za ZT 153 λ u g1 e1 F K q1=> ?_;refine zz ?_;(iterate 5 go_step);(iterate 2 refine zz ?_);(iterate 5 go_step)
 rename_i Y T;have rest:∀(r:Fm)(W:World),oN r [(0,.string s),(1,.int .i64 (i:Int)),(4,.pointer (some ⟨g1,0,none⟩)),(6,.int .i64 (E:Int))]->aa u W->Y (aH 53 r) W:=by
  intro r W R x;refine T _ _ ?_;rw[<-jA R]
  refine gx ?_;refine zss (s:=s) (i:=i) (k:=E) J o ?_;rw[<-H]
  refine gx ?_;refine zr (.agg (iH 3 t i)) ?_;refine za ZT 153 λ P g2 e2 j X q2=> ?_;refine zt X lC cA λ w3 l b3=> ?_;have O:=j.size;have N:=l.size;have Z:=x.size;have eF:=K.lt;have L:aa W w3:=j.but l (by omega)
  have KW:=F.trans x;have I:g1≠g2:=by omega
  have b:=(K.kept x).kept L;refine gx ?_;refine zc 261 _ (Cu _ t) ?_;rintro e w4 ⟨kk,rfl,q⟩
  refine⟨_,rfl,?_⟩
  replace b3:=b3.kept q;replace b:=b.kept q;have c:=(KW.trans L).trans q;have M:=q.size;have z:w.heap.size<=g1:=by omega
  have G:w.heap.size<=g2:=by have:=F.size;omega
  cases hf:cg aW t
  case' true=>
   refine gx ?_;refine fV (i:=0) b3 (by simp) rfl λ C g B=> ?_;replace B:aD C g2 (iH 2 t i) 153:=B;refine gx ?_;refine zl B.range cA ?_;refine zt (b.ai g I) lC cA λ d f b6=> ?_;refine gx ?_;have a:fX t=some 2:=by unfold fX;rw[if_pos hf]
   exact qZ (v:=.bool true) b6 cA ⟨2,by rw[a];rfl,λ k' h=>by rw[a] at h;exact iG h,(c.but g G).but f z⟩
  refine gx ?_;refine zc 262 _ (AL _ t) ?_;rintro e C ⟨rfl,g⟩
  refine⟨_,rfl,?_⟩
  replace b3:=b3.kept g;replace b:=b.kept g;replace c:=c.trans g;cases hr:DL t
  case' true=>
   refine gx ?_;refine zl b3.range cA ?_;refine zt b lC cA λ d f b6=> ?_;refine gx ?_;have a:fX t=some 3:=by unfold fX;rw[if_neg (by rw[hf];decide),if_pos hr]
   exact qZ (v:=.bool true) b6 cA ⟨3,by rw[a];rfl,λ k' h=>by rw[a] at h;exact iG h,c.but f z⟩
  refine gx ?_;refine fV (i:=0) b3 (by simp) rfl λ d f b6=> ?_;replace b6:aD d g2 (iH 1 t i) 153:=b6;replace b:=b.ai f I;replace c:=c.but f G;refine gx ?_;have S:g1<g2:=by omega
  refine eJ g1 (g1+1) λ hS=> ?_;refine yl 0 (V:=iH 1 t i) b6.range (.inr (by omega)) cA hS ?_;refine yr 1 (.pointer (some ⟨g2,1,none⟩)) hS ?_;refine Eh 2 (b6.cell 1 rfl) (.inr (by omega)) hS ?_;have D:aa d d.drew:=(aa.refl d).drew;refine yc 3 148 _ hS (ph _ t) λ e w7 ⟨he,y⟩=>⟨y,_,he,λ hS=> ?_⟩
  refine yt 4 (b.kept (D.trans y)) lC cA (.inl ⟨aU _,Nat.lt_succ_self _⟩) hS λ w8 Q U hS=> ?_;refine yr 5 (.bool (bV t)) hS ?_;refine gB ?_;refine gx ?_;have a:fX t=if bV t=true then some 1 else none:=by unfold fX;rw[if_neg (by rw[hf];decide),if_neg (by rw[hr];decide)]
  refine qZ (v:=.bool (bV t)) U cA ⟨1,?_,λ k' h=> ?_,(c.trans (D.trans y)).but Q z⟩
  ·rw[a]
   cases bV t<;>rfl
  ·rw[a] at h;split at h
   ·exact iG h
   ·cases h
 refine dQ (σ:=Unit) (s.size-i) (λ k _=>[(0,.string s),(1,.int .i64 (i:Int)),(4,.pointer (some ⟨g1,0,none⟩)),(6,.int .i64 ((i+k:Nat):Int))])
  (λ k _ W=>aa u W/\E=dO s (i+k)) () ⟨rfl,rfl,rfl,rfl,trivial⟩ ⟨aa.refl u,n⟩ λ r wr k _ a ⟨p,he⟩=> ?_
 refine gx ?_;by_cases m:i+k<s.size;case' neg=>
  obtain rfl:E=i+k:=by rw[he];exact ir λ h=>absurd h m
  refine gx ?_;exact rest _ _ ⟨rfl,rfl,rfl,rfl,trivial⟩ p
 case' pos=>
  refine gx ?_;refine wL (s:=s) (k:=i+k) m ?_;refine gx ?_;refine zc 171 _ (uV _ (bt s (i+k))) ?_;rintro e P ⟨rfl,j⟩
  refine⟨_,rfl,?_⟩
  cases A:cE (bt s (i+k))
  case' true=>
   refine gx ?_;refine z2 (.int .i64 ((i+k+1:Nat):Int)) (hrun:=cu (by omega)) ?_;refine gx ?_;exact⟨_,(),rfl,by omega,⟨rfl,rfl,rfl,rfl,trivial⟩,p.trans j,by rw[he];exact dN m (by unfold Iy;rw[A];rfl)⟩
  case' false=>
   refine gx ?_;refine wL (s:=s) (k:=i+k) m ?_;refine gx ?_;refine zc 169 _ (kP _ (bt s (i+k))) ?_;rintro e w3 ⟨rfl,l⟩
   refine⟨_,rfl,?_⟩
   cases hd:aQ (bt s (i+k))
   case' true=>
    refine gx ?_;refine z2 (.int .i64 ((i+k+1:Nat):Int)) (hrun:=cu (by omega)) ?_;refine gx ?_;exact⟨_,(),rfl,by omega,⟨rfl,rfl,rfl,rfl,trivial⟩,p.trans (j.trans l),by rw[he];exact dN m (by unfold Iy;rw[A,hd];rfl)⟩
   case' false=>
    obtain rfl:E=i+k:=by rw[he];exact ir λ h=>by unfold Iy;rw[A,hd];rfl
    refine gx ?_;exact rest _ _ ⟨rfl,rfl,rfl,rfl,trivial⟩ (p.trans (j.trans l))
theorem ZK(s:ByteArray)(k:Nat):bt s k<256:=by
 unfold bt;split
 ·exact UInt8.toNat_lt _
 ·decide
def FY:List UInt8:=[43,45,42,47,94,40,41,44,60,62,91,93]
theorem abI:∀c<256,decide (0<=Lib.indexByte FY (UInt8.ofNat c))=wG true c:=by decide
theorem FZ(w:World)(c:Nat)(hc:c<256):Calls prog 173 #[.string ⟨#[43,45,42,47,94,40,41,44,60,62,91,93]⟩,.int .u8 (c:Int)] w λ e w'=>∃k:Int,e= .returned (.int .i64 k)/\decide (0<=k)=wG true c/\aa w w':=by
 refine dK [_,_] 8 func173 rfl ntmps173 (by simp) ?_;refine gx ?_;refine zc 263 _ (Tryz.stringslite_IndexByte ⟨#[43,45,42,47,94,40,41,44,60,62,91,93]⟩ (c:Int) w) ?_;rintro e d ⟨rfl,rfl⟩
 refine⟨_,rfl,?_⟩
 have a:=abI c hc;have e1:(⟨#[43,45,42,47,94,40,41,44,60,62,91,93]⟩:ByteArray).data.toList=FY:=rfl;have b:((c:Int).toNat).toUInt8=UInt8.ofNat c:=rfl;rw[e1,b]
 generalize Lib.indexByte FY (UInt8.ofNat c)=k at a;refine gx ?_;exact aF (v:=.int .i64 k) ⟨k,rfl,a,aa.refl _⟩
theorem BZ(w:World)(k a:Int)(t:ByteArray)(h:0<=a/\a<=1000000)(f:t.size<=1000000):Calls prog 91 #[.agg #[.int .i64 k,.string t,.int .i64 a]] w λ e w'=>e= .returned (.int .i64 (a+t.size))/\aa w w':=by
 obtain⟨b,rfl⟩:∃b:Nat,a=b:=⟨a.toNat,by omega⟩
 refine ct 8 func91 rfl ntmps91 ?_;refine gx ?_;refine zb λ d g1 e1 c g q1=> ?_;refine gx ?_;refine z2 (.int .i64 ((b+t.size:Nat):Int)) (hrun:=by
  go_simp;rw[IntKind.wrap_i64]
  omega) ?_
 refine gx ?_;exact aF (v:=.int .i64 ((b+t.size:Nat):Int)) ⟨rfl,c⟩
theorem Jh(w:World)(s:ByteArray)(hi:i<s.size)(hs:s.size<=1000000):Calls prog 90 #[.string s,.int .i64 (i:Int)] w λ e w'=>
 (match gX true s i with
   |some (k,j)=>e= .returned (.tuple #[.agg (iH k (s.extract i j) i),.bool true])
   |none=>∃k t a,e= .returned (.tuple #[.agg (iH k t a),.bool false]))/\aa w w':=by
 have L:=ZK s i;obtain⟨r,hr⟩:∃r,r=gX true s i:=⟨_,rfl⟩
 rw[<-hr]
 unfold gX at hr;refine dK [_,_] 70 func90 rfl ntmps90 (by simp) ?_;refine gx ?_;refine za ZT 153 λ Q g1 e1 c d q1=> ?_;have q:w.heap.size<=g1:=by omega
 refine gx ?_;refine wL (s:=s) (k:=i) hi ?_;refine gx ?_;refine zc 169 _ (kP _ (bt s i)) ?_;rintro e P ⟨rfl,G⟩
 refine⟨_,rfl,?_⟩
 replace d:=d.kept G;replace c:=c.trans G;cases hd:aQ (bt s i)
 case' true=>
  rw[if_pos hd] at hr;subst hr;refine gx ?_;refine zc 170 _ (Co _ s (Nat.le_of_lt hi) hs) ?_;rintro e w3 ⟨rfl,p⟩
  refine⟨_,rfl,?_⟩
  refine zss (s:=s) (i:=i) (k:=dV s i) (XA _ _) (wH (Nat.le_of_lt hi)) ?_;refine gx ?_;refine zr (.agg (iH 0 (s.extract i (dV s i)) i)) ?_;refine zt (d.kept p) lC cA λ D f N=> ?_;refine gx ?_;exact qZ (v:=.bool true) N cA ⟨rfl,(c.trans p).but f q⟩
 rw[if_neg (by rw[hd];decide)] at hr;refine gx ?_;refine zc 171 _ (uV _ (bt s i)) ?_;rintro e w3 ⟨rfl,p⟩
 refine⟨_,rfl,?_⟩
 replace d:=d.kept p;replace c:=c.trans p;cases I:cE (bt s i)
 case' true=>
  rw[if_pos I] at hr;refine gx ?_;refine zc 172 _ (Jg _ s (Nat.le_of_lt hi) hs) ?_;generalize dO s i=E at hr;obtain⟨t,H⟩:∃t,t=s.extract i E:=⟨_,rfl⟩
  rw[<-H] at hr⊢;rintro e D ⟨k,rfl,o,f⟩
  refine gx ?_;refine zt (d.kept f) lC cA λ y l n=> ?_;refine gx ?_;refine qZ (v:=.bool (fX t).isSome) n cA ⟨?_,(c.trans f).but l q⟩
  cases A:fX t with
  |none=>
   rw[A] at hr;subst hr;exact⟨k,t,i,rfl⟩
  |some k'=>
   rw[A] at hr;subst hr;obtain rfl:=o k' A;simp only[Option.map_some]
   rw[<-H]
   rfl
 rw[if_neg (by rw[I];decide)] at hr;refine zz ?_;(iterate 3 go_step);refine fx ?_;go_step;go_step;refine zz ?_;rename_i O M;have rest:∀(C:Fm)(W:World)(u:Bool),oN C [(0,.string s),(1,.int .i64 (i:Int)),(4,.pointer (some ⟨g1,0,none⟩)),(6,.int .u8 ((bt s i:Nat):Int)),(29,.bool u)]->aa w3 W->(u=true↔(bt s i=60∨bt s i=62)/\i+1<s.size/\bt s (i+1)=61)->O (aH 70 C) W:=by
  intro C W u J F z;refine M _ _ ?_;rw[<-jA J]
  replace d:=d.kept F;replace c:=c.trans F;cases u
  ·rw[if_neg (λ h=>by have:=z.2 h.2;cases this)] at hr;refine gx ?_;refine zc 173 _ (FZ _ (bt s i) L) ?_;rintro e D ⟨k,rfl,o,f⟩
   refine⟨_,rfl,?_⟩
   cases g:wG true (bt s i)
   ·rw[g] at o;rw[if_neg (by rw[g];decide)] at hr;subst hr;refine cr false ?_ ?_
    ·exact o
    refine gx ?_;refine zr (.agg (iH 0 ⟨#[]⟩ i)) ?_;refine zt (d.kept f) lC cA λ y l n=> ?_;refine gx ?_;exact qZ (v:=.bool false) n cA ⟨⟨0,⟨#[]⟩,i,rfl⟩,(c.trans f).but l q⟩
   ·rw[g] at o;rw[if_pos g] at hr;subst hr;refine cr true ?_ ?_
    ·exact o
    refine gx ?_;refine z2 (.int .i64 ((i+1:Nat):Int)) (hrun:=cu (by omega)) ?_;refine zss (s:=s) (i:=i) (k:=i+1) (by omega) (by omega) ?_;refine gx ?_;refine zr (.agg (iH 3 (s.extract i (i+1)) i)) ?_;refine zt (d.kept f) lC cA λ y l n=> ?_;refine gx ?_;exact qZ (v:=.bool true) n cA ⟨rfl,(c.trans f).but l q⟩
  ·rw[if_pos ⟨rfl,z.1 rfl⟩] at hr;subst hr;have K:i+2<=s.size:=by have:=(z.1 rfl).2.1;omega
   refine gx ?_;refine z2 (.int .i64 ((i+2:Nat):Int)) (hrun:=by
    go_simp;rw[IntKind.wrap_i64]
    omega) ?_
   refine zss (s:=s) (i:=i) (k:=i+2) (by omega) K ?_;refine gx ?_;refine zr (.agg (iH 3 (s.extract i (i+2)) i)) ?_;refine zt d lC cA λ y l n=> ?_;refine gx ?_;exact qZ (v:=.bool true) n cA ⟨rfl,c.but l q⟩
 have b:∀(x:Nat)(k:Nat),(((x:Nat):Int)==(k:Int))=decide (x=k):=λ x k=>by
  rw[Bool.eq_iff_iff,beq_iff_eq,decide_eq_true_iff]
  omega
 by_cases hc:bt s i=60∨bt s i=62;case neg=>
  refine cr false ?_ ?_
  ·exact(b _ 60).trans (gy λ h=>hc (.inl h))
  refine gz ?_;refine cr false ?_ ?_
  ·exact(b _ 62).trans (gy λ h=>hc (.inr h))
  refine gx ?_;exact rest _ _ false ⟨rfl,rfl,rfl,rfl,rfl,trivial⟩ (aa.refl _) ⟨(λ h=>by cases h),λ h=>absurd h.1 hc⟩
 by_cases B:bt s i=60
 ·refine cr true ?_ ?_
  ·exact(b _ 60).trans (cU B)
  refine gx ?_;refine z2 (.int .i64 ((i+1:Nat):Int)) (hrun:=cu (by omega)) ?_;refine gx ?_;by_cases m:i+1<s.size;case neg=>
   refine gx ?_;exact rest _ _ false ⟨rfl,rfl,rfl,rfl,rfl,trivial⟩ (aa.refl _) ⟨(λ h=>by cases h),λ h=>absurd h.2.1 m⟩
  refine gx ?_;refine z2 (.int .i64 ((i+1:Nat):Int)) (hrun:=cu (by omega)) ?_;refine gx ?_;refine wL (s:=s) (k:=i+1) m ?_;refine gx ?_;refine cr (decide (bt s (i+1)=61)) ?_ ?_
  ·exact b _ 61
  refine gx ?_;exact rest _ _ (decide (bt s (i+1)=61)) ⟨rfl,rfl,rfl,rfl,rfl,trivial⟩ (aa.refl _) ⟨λ h=>⟨hc,m,kC h⟩,λ h=>cU h.2.2⟩
 ·refine cr false ?_ ?_
  ·exact(b _ 60).trans (gy B)
  refine gz ?_;refine cr true ?_ ?_
  ·exact(b _ 62).trans (cU (hc.resolve_left B))
  refine gx ?_;refine z2 (.int .i64 ((i+1:Nat):Int)) (hrun:=cu (by omega)) ?_;refine gx ?_;by_cases m:i+1<s.size;case neg=>
   refine gx ?_;exact rest _ _ false ⟨rfl,rfl,rfl,rfl,rfl,trivial⟩ (aa.refl _) ⟨(λ h=>by cases h),λ h=>absurd h.2.1 m⟩
  refine gx ?_;refine z2 (.int .i64 ((i+1:Nat):Int)) (hrun:=cu (by omega)) ?_;refine gx ?_;refine wL (s:=s) (k:=i+1) m ?_;refine gx ?_;refine cr (decide (bt s (i+1)=61)) ?_ ?_
  ·exact b _ 61
  refine gx ?_;exact rest _ _ (decide (bt s (i+1)=61)) ⟨rfl,rfl,rfl,rfl,rfl,trivial⟩ (aa.refl _) ⟨λ h=>⟨hc,m,kC h⟩,λ h=>cU h.2.2⟩
section
variable{n:Nat}{l:Fm}{ops:Array Oper}{rest:List Oper}{Q:Exit->Act->World->Prop}{oi:Oper}{w w0:World}{d:Nat}
theorem Ta{α:Type}{g3 D5 c:Nat}{z:Value}{st:TypeId}{R:World->List Value->α->Prop}{ts:List α}{a3:Option Addr}{T:Nat->Bool}{oa:Oper}{da s:Tmp}
 (g:gY t z sz D5)(q:z.cells.size=sz)(v:0<sz)(F:D5<=1024)(y:prog.underlying st=some (.slice t))
 (G:fW W0 w g3 t sz (.slice a3 k c) k cs R ts)(hR:∀w w',nT w w'->∀l t,R w l t->R w' l t)(m:V.all (·.oneCell')=true)(p:V.size=sz)(C:k<ts.length)(B:k+1<=1099511627)
 (hr:R (aB w T) V.toList ts[k])(I:∀b,T b=true->W0.heap.size<=b/\some b≠(Value.slice a3 k c).ownBlock)
 (H:(execOp (ev n l) ob).run prog w= .ok (.value (.slice (some ⟨w.heap.size,0,none⟩) 1 1)) (w.alloc (.cells V t)))
 (h:∀w' a' d,fW W0 w' g3 t sz (.slice a' (k+1) d) (k+1) (cs++V.toList) R ts->(∀b,b<w.heap.size->some b≠(Value.slice a3 k c).ownBlock->w'.heap[b]? =w.heap[b]?)->w.heap.size<=w'.heap.size->wpList prog ops Q rest (aH n (aC (aC l db (.slice (some ⟨w.heap.size,0,none⟩) 1 1)) da (.slice a' (k+1) d))) w')
 (D:ob.guard=none:=by rfl)(E:ob.dst=some db:=by rfl)
 (e:oa.op= .call {callee:=.builtin .append,args:=#[.tmp s,.tmp db],argTypes:=#[st,st]}/\oa.guard=none/\oa.dst=some da:=by exact⟨rfl,rfl,rfl⟩)
 (hs:bA n l (.tmp s)=some (.slice a3 k c):=by rfl)(f:s≠db/\db<n:=by decide):
 wpList prog ops Q (ob::oa::rest) (aH n l) w:=by
 obtain⟨n1,n4⟩:=f;refine zv _ (by rw[aO];exact H) D E ?_;have a:aa w (w.alloc (.cells V t)):=(aa.refl w).alloc _;have K:=aD.new w V t;have j:=G.kept hR a;have o:W0.heap.size<=(w.alloc (.cells V t)).heap.size:=j.kb.size;have es:bA n (aC l db (.slice (some ⟨w.heap.size,0,none⟩) 1 1)) (.tmp s)=some (.slice a3 k c):=by
  rw[<-hs];simp only[bA,aC,oM n1];rfl
 have J:bA n (aC l db (.slice (some ⟨w.heap.size,0,none⟩) 1 1)) (.tmp db)=some (.slice (some ⟨w.heap.size,0,none⟩) 1 1):=by
  simp only[bA,aC,Nat.beq_refl,cond_true,show Nat.blt db n=true from Nat.ble_eq_true_of_le n4]
 refine dh e.2.1 (.tmp s) (.tmp db) st e.1 g y q v F W0.heap.size o _ k cs (aE es) j.own ⟨w.heap.size,0,none⟩ 1 1 V.toList (aE J) (by simp[p]) (pR K) (λ u r=> ?_) (by decide) B (λ v' w' ho i A=> ?_)
 ·rw[Array.all_eq_true] at m;obtain⟨x,hx,rfl⟩:=List.getElem_of_mem r;exact m x (by simpa using hx)
 obtain⟨a',d,rfl,-,-,-⟩:=bI ho;rw[e.2.2,bX]
 exact h w' a' d (j.append hR o ho i A (by simpa using p) C (hR _ _ (jS a) _ _ hr) I) (λ b hb f=>(i.block b (jf hb a.size) (λ he=>f he)).trans (a.old b hb)) (jP a.size i.size)
end
def DU:List Value->aS->Prop:=λ l t=>l=(iH t.kind t.text t.at').toList
def BC(W:World)(a:Option Addr)(n cap:Nat)(ts:List aS):Prop:=
 n=ts.length/\n<=cap/\∃cs:List Value,(∀i,i<cs.length->∃b,a=some ⟨b,0,none⟩/\W.cell? ⟨b,i,none⟩=cs[i]?)/\cl DU 3 cs ts
theorem BC.sub{w':World}{a:Option Addr}{cap:Nat}{ts:List aS}(h:BC w a n cap ts)(k:nT w w'):BC w' a n cap ts:=by
 obtain⟨h1,h2,cs,h3,e⟩:=h;refine⟨h1,h2,cs,λ i hi=> ?_,e⟩
 obtain⟨b,d,c⟩:=h3 i hi;refine⟨b,d,?_⟩
 rw[nW hi] at c⊢;exact k _ _ c
theorem BC.row{a:Option Addr}{cap:Nat}{ts:List aS}(h:BC w a n cap ts)(hi:i<ts.length):∃b,a=some ⟨b,0,none⟩/\w.rangeAt b (0+i*3) (iH ts[i].kind ts[i].text ts[i].at').toList:=by
 obtain⟨h1,h2,cs,h3,f,hr⟩:=h;have c:=hr i hi;obtain⟨b,hb,-⟩:=h3 (i*3) (by omega)
 refine⟨b,hb,λ j v hv=> ?_⟩
 unfold DU at c;rw[<-c] at hv;have e:j<3:=by
  have:=(List.getElem?_eq_some_iff.1 hv).1;rw[List.length_take] at this;omega
 rw[List.getElem?_take,if_pos e,List.getElem?_drop] at hv;obtain⟨b',d,hc⟩:=h3 (i*3+j) (by omega)
 obtain rfl:b=b':=by rw[hb] at d;simpa using d
 rw[show 0+i*3+j=i*3+j by omega,hc,hv]
theorem OY:gY 153 (.agg ZT) 3 32:=mD (by kernel_rfl)
theorem fa{d1 d2:Nat}{x:Value}(hR:R (.returned (.tuple #[v,x])) w)(h:fn.results=#[.tmp d1,.tmp d2]:=by rfl)(h1:bA n l (.tmp d1)=some v:=by rfl)(h2:bA n l (.tmp d2)=some x:=by rfl):bodyPost prog fn R .ret (aH n l) w:=
 bodyPost_ret (aiS h h1 h2) rfl hR
theorem lX{d1 d2 d3:Nat}{v1 v2 v3:Value}(hR:R (.returned (.tuple #[v1,v2,v3])) w)
 (h:fn.results=#[.tmp d1,.tmp d2,.tmp d3]:=by rfl)(h1:bA n l (.tmp d1)=some v1:=by rfl)(h2:bA n l (.tmp d2)=some v2:=by rfl)(h3:bA n l (.tmp d3)=some v3:=by rfl):bodyPost prog fn R .ret (aH n l) w:=by
 refine bodyPost_ret ?_ rfl hR;have e1:=bK h1;have b:=bK h2;have a:=bK h3;simp only[Array.getD_eq_getD_getElem?] at e1 b a;simp[results,h,e1,b,a]
def ij(s:ByteArray):aS:=⟨4,⟨#[]⟩,s.size⟩
theorem I2(w:World)(s:ByteArray)(hs:s.size<=4000):Calls prog 33 #[.string s] w λ e w'=>
 (match (aP true s 0).2 with
   |none=>∃a cap,e= .returned (.tuple #[.slice a ((aP true s 0).1.length+1) cap,.int .i64 0,.int .i64 0])/\BC (aB w' (ab w.heap.size)) a ((aP true s 0).1.length+1) cap ((aP true s 0).1++[ij s])
   |some j=>e= .returned (.tuple #[.slice none 0 0,.int .i64 (j:Int),.int .i64 3]))/\aa w w':=by
 obtain⟨ts,D⟩:∃ts,ts=(aP true s 0).1:=⟨_,rfl⟩
 obtain⟨er,o⟩:∃er,er=(aP true s 0).2:=⟨_,rfl⟩
 rw[<-D,<-o]
 have M:aP true s 0=(ts,er):=by rw[D,o]
 clear D o;refine ct 39 func33 rfl ntmps33 ?_;refine gx ?_;refine dQ (σ:=Nat×List aS×Option Addr×Nat×List Value) s.size (λ _ σ=>[(0,.string s),(5,.slice σ.2.2.1 σ.2.1.length σ.2.2.2.1),(6,.int .i64 ((σ.1:Nat):Int))])
  (λ k σ W=>k<=σ.1/\σ.1<=s.size/\σ.2.1.length<=σ.1/\ts=σ.2.1++(aP true s σ.1).1/\er=(aP true s σ.1).2/\fW w W w.heap.size 153 3 (.slice σ.2.2.1 σ.2.1.length σ.2.2.2.1) σ.2.1.length σ.2.2.2.2 (λ _=>DU) (ts++[ij s]))
  (0,[],none,0,[]) ⟨rfl,rfl,rfl,trivial⟩ ⟨aU _,eo _,aU _,by rw[M];rfl,by rw[M],fW.start ..⟩ λ fl wr k ⟨i,pre,a3,I,cs⟩ hk ⟨L,u,q,c,d,G⟩=> ?_
 replace L:k<=i:=L;replace u:i<=s.size:=u;replace q:pre.length<=i:=q;replace c:ts=pre++(aP true s i).1:=c;replace d:er=(aP true s i).2:=d;replace G:fW w wr w.heap.size 153 3 (.slice a3 pre.length I) pre.length cs (λ _=>DU) (ts++[ij s]):=G;have C:aa w wr:=⟨G.kb.size,λ b hb=>G.kb.old b hb (Nat.ne_of_lt hb),G.kb.tape,G.kb.os,G.kb.output⟩
 have jF:=λ g hg=>World.ownsRow.lt G.own g hg;have hR:∀w w':World,nT w w'->∀(l:List Value)(t:aS),DU l t->DU l t:=λ _ _ _ _ _ h=>h;refine gx ?_;by_cases n:i<s.size;case neg=>
  obtain rfl:i=s.size:=by omega
  refine gx ?_;rw[jQ (aU _)] at c d;replace c:ts=pre:=by rw[c,List.append_nil]
  subst c;refine gx ?_;refine zr (.agg (iH 4 ⟨#[]⟩ s.size)) ?_;have r:ts.length<(ts++[ij s]).length:=by rw[gJ,List.length_singleton];omega
  refine ZI (R:=λ _=>DU) (V:=iH 4 ⟨#[]⟩ s.size) OY rfl (by decide) (by decide) underlying58 G hR cA.2 rfl r (by omega) (T:=λ _=>false) (by rw[List.getElem_append_right (aU _)];simp[DU,ij]) (λ b hb=>by cases hb) (by kernel_rfl) λ v a' p f=> ?_;refine gx ?_;have F:(ts++[ij s]).length=ts.length+1:=by rw[gJ,List.length_singleton]
  have G2:fW w v w.heap.size 153 3 (.slice a' (ts++[ij s]).length p) (ts++[ij s]).length (cs++(iH 4 ⟨#[]⟩ s.size).toList) (λ _=>DU) (ts++[ij s]):=by rw[F];exact f
  obtain⟨O,a8,jT⟩:=G2.done hR (N:=w.heap.size) (aU _) (λ b _ _=>rfl)
  have m:aa w v:=⟨f.kb.size,λ b hb=>f.kb.old b hb (Nat.ne_of_lt hb),f.kb.tape,f.kb.os,f.kb.output⟩
  rw[F] at O;refine lX (v1:=.slice a' (ts.length+1) p) (v2:=.int .i64 0) (v3:=.int .i64 0) ⟨?_,m⟩
  rw[d]
  exact⟨a',p,rfl,F.symm,O,_,a8,jT⟩
 refine gx ?_;refine wL (s:=s) (k:=i) n ?_;by_cases hb:bt s i=32
 ·refine cr true ?_ ?_
  ·rw[hb];rfl
  refine gx ?_;refine z2 (.int .i64 ((i+1:Nat):Int)) (hrun:=cu (by omega)) ?_;refine gx ?_;rw[fw n hb] at c d;exact⟨_,(i+1,pre,a3,I,cs),rfl,by omega,⟨rfl,rfl,rfl,trivial⟩,by show k+1<=i+1;omega,n,by show pre.length<=i+1;omega,c,d,G⟩
 refine gx ?_;refine zc 90 _ (Jh _ s n (by omega)) ?_;cases hx:gX true s i with
 |none=>
  rintro e v ⟨⟨k',t,a,rfl⟩,m⟩
  refine gx ?_;refine za ZT 153 λ w3 g3 e3 y b3 U=> ?_;refine zt b3 lC cA λ K x z=> ?_;refine gx ?_;rw[jD n hb hx] at d;have B:=m.size;have A:=C.size;refine lX (v1:=.slice none 0 0) (v2:=.int .i64 (i:Int)) (v3:=.int .i64 3) ⟨?_,((C.trans m).trans y).but x (by omega)⟩
  rw[d]
 |some X=>
  obtain⟨k',e'⟩:=X;obtain⟨Qt,H⟩:=jg n hx;rintro e v ⟨rfl,m⟩
  refine gx ?_;refine za ZT 153 λ w3 g3 e3 y b3 U=> ?_;refine zt b3 lC cA λ K x z=> ?_;refine gx ?_;have B:=m.size;have A:=C.size;have K4:aa wr K:=(m.trans y).but x (by omega)
  rw[gp n hb hx] at c d;simp only at c d;have E:pre.length<(ts++[ij s]).length:=by rw[c];simp
  have S9:(ts++[ij s])[pre.length]=⟨k',s.extract i e',i⟩:=by simp[c]
  refine zl z.range cA ?_;refine Ta (R:=λ _=>DU) (V:=iH k' (s.extract i e') i) OY rfl (by decide) (by decide) underlying58 (G.kept hR K4) hR cA.2 rfl E (by omega) (T:=λ _=>false) (by rw[S9];rfl) (λ b hb=>by cases hb) (by kernel_rfl) λ J a' p f hold fK=> ?_;have Q:=y.size;have P:=x.size;have dL:some g3≠(Value.slice a3 pre.length I).ownBlock:=λ he=>by
   have:=(jF g3 he.symm).2;omega
  have b5:aD J g3 (iH k' (s.extract i e') i) 153:=(hold g3 z.lt dL).trans z;have Z:(s.extract i e').size=e'-i:=by simp;omega
  refine gx ?_;refine zl b5.range cA ?_;refine zc 91 _ (BZ J k' i (s.extract i e') (by omega) (by omega)) ?_;rintro e S ⟨rfl,Y⟩
  refine⟨_,rfl,?_⟩
  rw[Z,show(i:Int)+((e'-i:Nat):Int)=((e':Nat):Int) by omega]
  refine gx ?_;exact⟨_,(e',pre++[⟨k',s.extract i e',i⟩],a',p,cs++(iH k' (s.extract i e') i).toList),rfl,by omega,⟨rfl,by simp;rfl,rfl,trivial⟩,by show k+1<=e';omega,H,by show(pre++[_]).length<=e';rw[gJ,List.length_singleton];omega,
   by show ts=(pre++[_])++_;rw[c];simp,d,by
    show fW w S w.heap.size 153 3 (.slice a' (pre++[_]).length p) (pre++[_]).length _ _ _;rw[gJ,List.length_singleton]
    exact f.kept hR Y⟩
section
variable{n:Nat}{l:Fm}{ops:Array Oper}{rest:List Oper}{Q:Exit->Act->World->Prop}{w:World}
theorem ai5{m:Nat}(c:(execOp (ev n l) ob).run prog w= .ok (.value (.slice (some ⟨w.heap.size,0,none⟩) m m)) (w.alloc (.cells V t)))
 (h:∀W g,g=w.heap.size->aa w W->aD W g V t->W.heap.size=g+1->wpList prog ops Q rest (aH n (aC l db (.slice (some ⟨g,0,none⟩) m m))) W)
 (a:ob.guard=none:=by rfl)(b:ob.dst=some db:=by rfl):wpList prog ops Q (ob::rest) (aH n l) w:=by
 refine zv _ (by rw[aO];exact c) a b ?_;have:=h _ _ rfl ((aa.refl w).alloc (.cells V t)) (aD.new w V t) (by simp)
 exact this
end
theorem Aw(x k:Nat):(((x:Nat):Int)==(k:Int))=decide (x=k):=by
 rw[Bool.eq_iff_iff,beq_iff_eq,decide_eq_true_iff]
 omega
def Ea(t:ByteArray):Nat:=aW.toList.findIdx λ x=>x.toList==t.toList
theorem S7{t:ByteArray}(e:k<8)(h:((aW[k]?.getD ⟨#[]⟩).toList==t.toList)=true)(hn:∀j,j<k->((aW[j]?.getD ⟨#[]⟩).toList==t.toList)=false):Ea t=k:=by
 have c:aW.toList.length=8:=rfl;unfold Ea;rw[List.findIdx_eq (by omega)]
 have d:∀j(a:j<aW.toList.length),aW.toList[j]=aW[j]?.getD ⟨#[]⟩:=λ j a=>by
  have b:j<aW.size:=a;simp[b]
 refine⟨by rw[d];exact h,λ j a=> ?_⟩
 rw[d]
 exact hn j a
structure KE(E:Nat->Bool)(w w':World)(g:Nat):Prop where
 size:w.heap.size<=w'.heap.size
 old:∀c,c<w.heap.size->c≠g->E c=false->w'.heap[c]? =w.heap[c]?
 tape:w'.tape=w.tape
 os:w'.os=w.os
 output:w'.output=w.output
theorem KE.aR{w1 w2:World}(h:KE E w w1 b)(k:aa w1 w2):KE E w w2 b:=
 ⟨jP h.size k.size,λ c hc a d=>(k.old c (jf hc h.size)).trans (h.old c hc a d),k.tape.trans h.tape,k.os.trans h.os,k.output.trans h.output⟩
theorem KE.cX{w1 w2:World}(h:KE E w w1 b)(k:af w1 w2 b):KE E w w2 b:=
 ⟨jP h.size k.size,λ c hc a d=>(k.old c (jf hc h.size) a).trans (h.old c hc a d),k.tape.trans h.tape,k.os.trans h.os,k.output.trans h.output⟩
theorem bE{W W':World}{base e:Nat}(h:W.ownsRow base e sz v n cs)(q:af W W' b)(hb:v.ownBlock≠some b):W'.ownsRow base e sz v n cs:=by
 refine World.ownsRow.kept (row:=some b) h ⟨q.os,q.tape,q.output,q.size,λ c hc a=>q.old c hc (λ e=>a (by rw[e]))⟩ ?_;cases hv:v.ownBlock with
 |none=>exact .inl rfl
 |some g=>exact .inr λ he=>hb (hv.trans he)
structure Q4(E:Nat->Bool)(W0:World)(g:Nat)(ta:Option Addr)(tc:Nat)(ts:List aS):Prop where
 lt:g<W0.heap.size
 aby:BC (aB W0 λ b=>b != g&& !E b) ta ts.length tc ts
 len:ts.length<=5000
 last:∀i,i<ts.length->(ar ts i).kind≠4->i+1<ts.length
def nA(l:List Nat):List Value:=l.map λ k=>.int .i64 ((k:Nat):Int)
structure du(E:Nat->Bool)(W0 W:World)(g:Nat)(ta:Option Addr)(tc:Nat)(ts:List aS)(i:Nat)(ve vi:Value)(ex ix:List Nat):Prop where
 kb:KE E W0 W g
 bw:aD W g #[.slice ta ts.length tc,.int .i64 (i:Int),ve,vi] 161
 oe:W.ownsRow 0 3 1 ve ex.length (nA ex)
 oi:W.ownsRow 0 3 1 vi ix.length (nA ix)
 fe:∀o,ve.ownBlock=some o->o≠g/\(E o=true∨W0.heap.size<=o)
 fi:∀o,vi.ownBlock=some o->o≠g/\(E o=true∨W0.heap.size<=o)
 ne:∀o,ve.ownBlock=some o->vi.ownBlock≠some o
 lt:i<ts.length
 TO:ex.length+ix.length<=i
theorem TP{W:World}{g:Nat}(k:KE E W0 W g):nT (aB W0 λ b=>b != g&& !E b) W:=(au (S:=λ b=>b != g&& !E b) (S':=λ b=>b != g&& !E b) λ b hb hs=>⟨hs,k.old b hb (by simp at hs;exact hs.1) (by simp at hs;exact hs.2)⟩).trans (dP _ _)
section
variable{E:Nat->Bool}{W0 W W':World}{g:Nat}{ta:Option Addr}{tc:Nat}{ts:List aS}{i:Nat}{ve vi:Value}{ex ix:List Nat}
theorem du.kept(h:du E W0 W g ta tc ts i ve vi ex ix)(k:aa W W'):du E W0 W' g ta tc ts i ve vi ex ix:=
 ⟨KE.aR h.kb k,h.bw.kept k,dD h.oe k,dD h.oi k,h.fe,h.fi,h.ne,h.lt,h.TO⟩
theorem du.tok(c:Q4 E W0 g ta tc ts)(h:du E W0 W g ta tc ts i ve vi ex ix):∃b,ta=some ⟨b,0,none⟩/\W.rangeAt b (0+i*3) (iH (ar ts i).kind (ar ts i).text (ar ts i).at').toList:=by
 have a:=h.lt;obtain⟨b,hb,hr⟩:=c.aby.row a;refine⟨b,hb,λ j v hv=> ?_⟩
 have e:ar ts i=ts[i]:=by unfold ar;rw[nW a];rfl
 rw[e] at hv;exact TP h.kb _ _ (hr j v hv)
theorem du.set(_:Q4 E W0 g ta tc ts)(h:du E W0 W g ta tc ts i ve vi ex ix){j:Nat}(a:j<ts.length)(c:i<=j)(k:af W W' g)(b:aD W' g #[.slice ta ts.length tc,.int .i64 (j:Int),ve,vi] 161):du E W0 W' g ta tc ts j ve vi ex ix:=
 ⟨KE.cX h.kb k,b,bE h.oe k (λ h1=>(h.fe _ h1).1 rfl),bE h.oi k (λ h1=>(h.fi _ h1).1 rfl),h.fe,h.fi,h.ne,a,jP h.TO c⟩
end
def oZ(a:Nat):List PanicEntry:=[{v:=.iface 157 (.agg #[.int .i64 (a:Int)]),recovered:=false}]
section
variable{n:Nat}{l:Fm}{ops:Array Oper}{Q:Exit->Act->World->Prop}{oi:Oper}{fuel:Nat}{listed:Array Bool}{w:World}{S:World->Prop}
theorem abz(i:Nat){x:Operand}(h:Q (.panic [{v,recovered:=false}]) (aH n l) w)(hi:ops[i]? =some oi:=by rfl)(_:oi.op= .panic x:=by rfl)(_:bA n l x=some v:=by rfl)
 (hrun:(execOp (ev n l) oi).run prog w= .halt (.panic v) w:=by kernel_rfl)(a:oi.guard=none:=by rfl)(hr:Region.ready .any ops listed=[i]:=by kernel_rfl):wpAnyH prog .any ops Q S (fuel+1) listed (aH n l) w:=by
 refine Ll i (λ K hK=> ?_) hi hr;rw[if_pos (by simp[Region.wanted,a])]
 unfold Oper.wp;rw[aO,hrun]
 exact h
end
theorem abA{a:Int}:dY 157 #[.int .i64 a]:=⟨by kernel_rfl,by simp[Value.oneCell']⟩
section
variable{E:Nat->Bool}{W0 W:World}{g:Nat}{ta:Option Addr}{tc:Nat}{ts:List aS}{i:Nat}{ve vi:Value}{ex ix:List Nat}
theorem jW(c:Q4 E W0 g ta tc ts)(h:du E W0 W g ta tc ts i ve vi ex ix):Calls prog 176 #[.pointer (some ⟨g,0,none⟩)] W λ e W'=>e= .panicked (oZ (ar ts i).at')/\aa W W':=by
 obtain⟨b,rfl,hr⟩:=h.tok c;have hb:=h.bw;refine ct 14 func176 rfl ntmps176 ?_;refine eJ 0 0 λ hS=> ?_;refine yr 0 (.pointer (some ⟨g,0,none⟩)) hS ?_;refine yr 1 (.pointer (some ⟨g,0,none⟩)) hS ?_;refine yr 2 (.pointer (some ⟨g,0,none⟩)) hS ?_;refine Eh 3 (hb.cell 0 rfl) (.inr (eo _)) hS ?_;refine yr 4 (.pointer (some ⟨g,0,none⟩)) hS ?_;refine yr 5 (.pointer (some ⟨g,0,none⟩)) hS ?_;refine yr 6 (.pointer (some ⟨g,1,none⟩)) hS ?_;refine Eh 7 (hb.cell 1 rfl) (.inr (eo _)) hS ?_;refine yi 8 3 i h.lt hS ?_;refine yr 9 (.pointer (some ⟨b,0+i*3+2,none⟩)) hS ?_;refine Eh 10 (hr 2 _ rfl) (.inr (eo _)) hS ?_;refine yr 11 (.agg #[.int .i64 ((ar ts i).at':Int)]) hS ?_;refine yr 12 (.iface 157 (.agg #[.int .i64 ((ar ts i).at':Int)])) hS ?_;refine abz 13 ?_;exact⟨rfl,rfl,(aa.refl W).drew⟩
theorem eR(c:Q4 E W0 g ta tc ts)(h:du E W0 W g ta tc ts i ve vi ex ix)(x:ByteArray):Calls prog 175 #[.pointer (some ⟨g,0,none⟩),.string x] W λ e W'=>e= .returned (.bool (bF (ar ts i) x.data.toList))/\aa W W':=by
 obtain⟨b,rfl,hr⟩:=h.tok c;have hb:=h.bw;generalize ar ts i=t at hr;refine dK [_,_] 25 func175 rfl ntmps175 (by simp) ?_;refine gx ?_;refine eJ 0 0 λ hS=> ?_;refine yr 0 (.pointer (some ⟨g,0,none⟩)) hS ?_;refine yr 1 (.pointer (some ⟨g,0,none⟩)) hS ?_;refine yr 2 (.pointer (some ⟨g,0,none⟩)) hS ?_;refine Eh 3 (hb.cell 0 rfl) (.inr (eo _)) hS ?_;refine yr 4 (.pointer (some ⟨g,0,none⟩)) hS ?_;refine yr 5 (.pointer (some ⟨g,0,none⟩)) hS ?_;refine yr 6 (.pointer (some ⟨g,1,none⟩)) hS ?_;refine Eh 7 (hb.cell 1 rfl) (.inr (eo _)) hS ?_;refine yi 8 3 i h.lt hS ?_;refine yl 9 (V:=iH t.kind t.text t.at') hr (.inr (eo _)) cA hS ?_;have k:aa W W.drew:=(aa.refl W).drew;refine ya 10 ZT 153 hS λ o g1 e1 m n q1 hS=> ?_;have d:W.heap.size<=g1:=by rw[e1];exact aU _
 refine yt 11 n lC cA (.inr d) hS λ j l p hS=>gB ?_;have f:aa W j:=(k.trans m).but l d;refine gx ?_;by_cases a:t.kind=3
 ·refine cr true ?_ ?_
  ·exact(Aw _ 3).trans (cU a)
  refine gx ?_;refine pJ (t.text.toList==x.data.toList) ?_ ?_
  ·rfl
  refine gx ?_;exact aF (v:=.bool (t.text.toList==x.data.toList)) ⟨by unfold bF;rw[a];rfl,f⟩
 ·refine cr false ?_ ?_
  ·exact(Aw _ 3).trans (gy a)
  refine gx ?_;exact aF (v:=.bool false) ⟨by unfold bF;rw[show(t.kind==3)=false from vy a];rfl,f⟩
theorem cI(c:Q4 E W0 g ta tc ts)(h:du E W0 W g ta tc ts i ve vi ex ix)(x:ByteArray):Calls prog 94 #[.pointer (some ⟨g,0,none⟩),.string x] W λ e W'=>∃u,u=bF (ar ts i) x.data.toList/\e= .returned (.bool u)/\du E W0 W' g ta tc ts (if u=true then i+1 else i) ve vi ex ix/\af W W' g:=by
 refine dK [_,_] 16 func94 rfl ntmps94 (by simp) ?_;refine gx ?_;refine zc 175 _ (eR c h x) ?_;rintro e l ⟨rfl,a⟩
 refine⟨_,rfl,?_⟩
 have h1:=h.kept a;cases b:bF (ar ts i) x.data.toList
 ·refine gx ?_;exact aF (v:=.bool false) ⟨false,rfl,rfl,h1,af.aR (af.refl W g) a⟩
 ·refine gz ?_;refine kB (h1.bw.cell 1 rfl) ?_;refine z2 (.int .i64 ((i+1:Nat):Int)) (hrun:=cu (by have:=c.len;have:=h.lt;omega)) ?_;refine gx ?_;refine fV (i:=1) h1.bw (by simp) rfl λ k d j=> ?_;refine gx ?_;have f:(ar ts i).kind≠4:=by
   unfold bF at b;simp only[fv,beq_iff_eq] at b;rw[b.1];decide
  exact aF (v:=.bool true) ⟨true,rfl,rfl,h1.set c (c.last i h.lt f) (Nat.le_succ i) d j,af.cX (af.aR (af.refl W g) a) d⟩
end
end
end Go.Proofs.YtbapfnpbamnmpaaGreatDoor
