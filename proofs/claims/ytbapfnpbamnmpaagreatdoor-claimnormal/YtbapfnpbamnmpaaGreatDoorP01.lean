/- A part of the proof that the text which Print makes of a parsed text is a normal form -/
import Derived.Test.YtbapfnpbamnmpaaGreatDoorP00
import Derived.Deep.MidRow
import Derived.Laws.Tables
set_option maxHeartbeats 8000000
set_option maxRecDepth 100000
namespace Go.Proofs.YtbapfnpbamnmpaaGreatDoor
open Go Go.RowKit Go.Dig Go.Deep Go.Eng Go.Proofs.Tryz
variable{w w' w0 w1 w2:World}{b cap g hi j lo m n o off p s ty up:Nat}{v xv:Value}{S:World->Prop}{V Y:Array Value}{t xt:TypeId}{Q:Exit->Act->World->Prop}{d:Tmp}{R:Ending->World->Prop}{c:Code}{x y:Operand}{k:IntKind}
theorem af.st7(w:World)(b:Nat)(a x1 x2 x3 x4 x5 x6:Value):af w (((((((w.setCell ⟨b,0,none⟩ a).setCell ⟨b,1,none⟩ x1).setCell ⟨b,2,none⟩ x2).setCell ⟨b,3,none⟩ x3).setCell ⟨b,4,none⟩ x4).setCell ⟨b,5,none⟩ x5).setCell ⟨b,6,none⟩ x6) b:=
 (((((((af.refl w b).setCell rfl _).setCell rfl _).setCell rfl _).setCell rfl _).setCell rfl _).setCell rfl _).setCell rfl _
structure Lk(lo hi:Nat)(w w':World):Prop where
 size:w.heap.size<=w'.heap.size
 old:∀b,b<w.heap.size->(b<lo∨hi<=b)->w'.heap[b]? =w.heap[b]?
 tape:w'.tape=w.tape
 os:w'.os=w.os
 output:w'.output=w.output
theorem Zd(k:aa w w')(lo hi:Nat):Lk lo hi w w':=⟨k.size,λ b hb _=>k.old b hb,k.tape,k.os,k.output⟩
theorem Lk.trans(h:Lk lo hi w w1)(k:Lk lo hi w1 w2):Lk lo hi w w2:=
 ⟨jP h.size k.size,λ b hb hx=>(k.old b (jf hb h.size) hx).trans (h.old b hb hx),k.tape.trans h.tape,k.os.trans h.os,k.output.trans h.output⟩
theorem Lk.cell(k:Lk lo hi w w'){a:Addr}(h:w.cell? a=some v)(hb:a.block<lo∨hi<=a.block):w'.cell? a=some v:=by
 have b:=World.block_lt_of_cell? w a h;unfold World.cell? at h⊢;rw[k.old _ b hb]
 exact h
theorem iJ{S S':Nat->Bool}(h:∀b,S b=true->S' b=true):nT (aB w S) (aB w S'):=au λ b _ hs=>⟨h b hs,rfl⟩
def dY(t:TypeId)(V:Array Value):Prop:=(prog.info? t).map (·.size)=some V.size/\V.all (·.oneCell')=true
theorem aD.range(h:aD w b V t):w.rangeAt b 0 V.toList:=λ j v hv=>by
 rw[lp,cell_of_row w b j V t (0,0) h]
 simpa using hv
theorem Lk.range(k:Lk lo hi w w'){cs:List Value}(h:w.rangeAt b o cs)(hb:b<lo∨hi<=b):w'.rangeAt b o cs:=λ j v hv=>k.cell (h j v hv) hb
theorem Lk.but(k:Lk lo hi w w1)(q:af w1 w2 g)(a:(lo<=g/\g<hi)∨w.heap.size<=g):Lk lo hi w w2:=
 ⟨jP k.size q.size,λ b hb hx=>(q.old b (jf hb k.size) (by omega)).trans (k.old b hb hx),q.tape.trans k.tape,q.os.trans k.os,q.output.trans k.output⟩
theorem Lk.kept(k:Lk lo hi w w1)(q:aa w1 w2):Lk lo hi w w2:=k.trans (Zd q lo hi)
theorem mS:af w (w.setRow g V) g:=
 ⟨by simp[World.setRow],λ c _ hc=>by simp[World.setRow,Array.getElem?_modify,Ne.symm hc],rfl,rfl,rfl⟩
theorem vQ(h:aD w g Y t):aD (w.setRow g V) g V t:=setRow_heap w g Y V t (0,0) h
theorem aD.loadVar{ty:TypeId}(h:aD w b V t)(o:dY ty V)(a:(prog.underlying ty).map TypeDesc.isRow=some true):(loadVar ty ⟨b,0,none⟩).run prog w= .ok (.agg V) w:=by
 obtain⟨d,hd,hdr⟩:=Option.map_eq_some_iff.1 a;exact run_loadVar_row w b t ty V (0,0) d h hd (by cases d<;>first|rfl|cases hdr) o.1
theorem nX{o g:Int}{z:Bool}{x1:Option Addr}{x2 x3:Nat}{x4:Option Addr}{x5 x6:Nat}{nm:ByteArray}{x7:Option Addr}{x8 x9:Nat}:dY 27 #[.int .i64 o,.int .i64 g,.bool z,.slice x1 x2 x3,.slice x4 x5 x6,.string nm,.slice x7 x8 x9]:=
 ⟨by kernel_rfl,by simp[Value.oneCell']⟩
theorem eJ{ops:Array Oper}{id:Nat}{a:Act}(lo up:Nat)(h:Lk lo up w w.drew->wpAnyH prog .any ops Q (Lk lo up w) ops.size (Array.replicate ops.size false) a w.drew):(Code.region id ops true).wp prog Q a w:=
 wp_region_held_drew (by kernel_rfl) (S:=Lk lo up w) ⟨aU _,λ _ _ _=>rfl,rfl,rfl,rfl⟩ h
section
variable{ops:Array Oper}{Q:Exit->Act->World->Prop}{oi oj:Oper}{v:Value}{fuel:Nat}{listed:Array Bool}{a:Act}{w w0:World}{lo up:Nat}
theorem tkS(i:Nat){p:Tmp}(j:∀w',S w'->w'.rangeAt b o V.toList)(m:dY ty V)(hS:S w)(h:wpAnyH prog .any ops Q S fuel (listed.setIfInBounds i true) ⟨a.tmps.setIfInBounds d (.agg V),a.defers⟩ w)
 (hi:ops[i]? =some oi:=by rfl)(k:oi.op= .load ty (.tmp p):=by rfl)(l:oi.guard=none:=by rfl)(hd:oi.dst=some d:=by rfl)(hx:a.tmps.getD p undef= .pointer (some ⟨b,o,none⟩):=by kernel_rfl)(g:(prog.underlying ty).map TypeDesc.isRow=some true:=by kernel_rfl)
 (hs:Region.noSelect ops=true:=by kernel_rfl)(hf:Region.free .any ops listed i=true:=by kernel_rfl)(hr:(Region.ready .any ops listed).contains i=true:=by kernel_rfl)
 (hQ:∀c a w,Q (.panic c) (a.put oi.dst (.agg V)) w->Q (.panic c) a w:=by exact λ _ _ _ h=>h):wpAnyH prog .any ops Q S (fuel+1) listed a w:=by
 obtain⟨e,he,hdr⟩:=Option.map_eq_some_iff.1 g;have f:=yieldsIf_load_mid (P:=prog) (ops:=ops) (S:=S) (op:=oi) (a:=a) (by simp[Region.wanted,l]) ty (.tmp p) k b o hx V.toList e j he hdr (by simpa using m.1)
 rw[Array.toArray_toList] at f;refine wpAnyH_take hi hs hf hr hQ f hS ?_;rw[hd]
 exact h
theorem rdS(i:Nat){p q:Tmp}(hb:aD w g Y t)(j:Y.size=V.size)(b:dY ty V)(e:(lo<=g/\g<up)∨w0.heap.size<=g)(hS:Lk lo up w0 w)
 (h:∀w',af w w' g->aD w' g V t->Lk lo up w0 w'->wpAnyH prog .any ops Q (Lk lo up w0) fuel (listed.setIfInBounds i true) a w')
 (hi:ops[i]? =some oi:=by rfl)(d:oi.op= .store ty (.tmp p) (.tmp q):=by rfl)(hd:oi.dst=none:=by rfl)(f:oi.guard=none:=by rfl)
 (hx:a.tmps.getD p undef= .pointer (some ⟨g,0,none⟩):=by kernel_rfl)(c:a.tmps.getD q undef= .agg V:=by kernel_rfl)(hr:Region.ready .any ops listed=[i]:=by kernel_rfl):
 wpAnyH prog .any ops Q (Lk lo up w0) (fuel+1) listed a w:=by
 refine Ll i (λ K hK=> ?_) hi hr;rw[if_pos (by simp[Region.wanted,f])]
 refine wp_store_row ty (.tmp p) (.tmp q) d g V hx c t Y hb b.1 j b.2 ?_;rw[hd]
 exact hK.out _ _ (hS.but mS e) (h _ mS (vQ hb))
end
section
variable{ops:Array Oper}{rest:List Oper}{Q:Exit->Act->World->Prop}{oi:Oper}{v:Value}{fuel:Nat}{listed:Array Bool}{a:Act}{w:World}{d:Tmp}
theorem lv(v:Value)(hrun:(execOp a.eval oi).run prog w= .ok (.value v) w')(b:oi.guard=none)(hd:oi.dst=some d)
 (h:wpList prog ops Q rest ⟨a.tmps.setIfInBounds d v,a.defers⟩ w'):wpList prog ops Q (oi::rest) a w:=
 wpList_plain b λ K hK=>by
  unfold Oper.wp;rw[hrun]
  simp only[Oper.upon,Act.put,hd]
  exact hK _ _ h
theorem ll(f:w.rangeAt b o V.toList)(j:dY ty V)(h:wpList prog ops Q rest ⟨a.tmps.setIfInBounds d (.agg V),a.defers⟩ w)
 (i:oi.guard=none:=by rfl)(hd:oi.dst=some d:=by rfl)(g:oi.op= .load ty (.tmp p):=by rfl)(hx:a.tmps.getD p undef= .pointer (some ⟨b,o,none⟩):=by kernel_rfl)(c:(prog.underlying ty).map TypeDesc.isRow=some true:=by kernel_rfl):
 wpList prog ops Q (oi::rest) a w:=by
 obtain⟨e,he,hdr⟩:=Option.map_eq_some_iff.1 c;refine wpList_load_mid i ty (.tmp p) g b o hx V.toList e f he hdr (by simpa using j.1) ?_;rw[hd,Array.toArray_toList]
 exact h
theorem ls{q:Nat}(hb:aD w g Y t)(f:Y.size=V.size)(b:dY ty V)(h:∀w',af w w' g->aD w' g V t->wpList prog ops Q rest a w')
 (e:oi.guard=none:=by rfl)(hd:oi.dst=none:=by rfl)(d:oi.op= .store ty (.tmp p) (.tmp q):=by rfl)(hx:a.tmps.getD p undef= .pointer (some ⟨g,0,none⟩):=by kernel_rfl)(c:a.tmps.getD q undef= .agg V:=by kernel_rfl):
 wpList prog ops Q (oi::rest) a w:=
 wpList_plain e λ K hK=>wp_store_row ty (.tmp p) (.tmp q) d g V hx c t Y hb b.1 f b.2 (by
  rw[hd]
  exact hK _ _ (h _ mS (vQ hb)))
theorem lc(f:FuncId)(args:Array Value)(hc:Calls prog f args w R)(h:∀e w',R e w'->∃v,e= .returned v/\wpList prog ops Q rest ⟨a.tmps.setIfInBounds d v,a.defers⟩ w')
 (b:oi.guard=none:=by rfl)(hd:oi.dst=some d:=by rfl)(hrun:(execOp a.eval oi).run prog w= .ok (.enter f args) w:=by kernel_rfl):wpList prog ops Q (oi::rest) a w:=
 wpList_plain b λ K hK=>by
  unfold Oper.wp;rw[hrun]
  refine Calls.mono hc λ e w' hR=> ?_;obtain⟨v,rfl,c⟩:=h e w' hR;simp only[Act.put,hd]
  exact hK _ _ c
theorem rdC(i:Nat)(f:FuncId)(args:Array Value)(hS:Lk lo up w0 w)(hc:Calls prog f args w R)
 (h:∀e w',R e w'->aa w w'/\∃v,e= .returned v/\(Lk lo up w0 w'->wpAnyH prog .any ops Q (Lk lo up w0) fuel (listed.setIfInBounds i true) ⟨a.tmps.setIfInBounds d v,a.defers⟩ w'))
 (hi:ops[i]? =some oi:=by rfl)(c:oi.guard=none:=by rfl)(hd:oi.dst=some d:=by rfl)(hrun:(execOp a.eval oi).run prog w= .ok (.enter f args) w:=by kernel_rfl)(hr:Region.ready .any ops listed=[i]:=by kernel_rfl):
 wpAnyH prog .any ops Q (Lk lo up w0) (fuel+1) listed a w:=by
 refine Ll i (λ K hK=> ?_) hi hr;rw[if_pos (by simp[Region.wanted,c])]
 unfold Oper.wp;rw[hrun]
 refine Calls.mono hc λ e w' hR=> ?_;obtain⟨b,v,rfl,g⟩:=h e w' hR;simp only[Act.put,hd]
 exact hK.out _ _ (hS.kept b) g
theorem rdA(i:Nat)(A:Array Value)(t:TypeId)(hS:Lk lo up w0 w)
 (h:∀W g,g=w.heap.size->aa w W->aD W g A t->W.heap.size=g+1->Lk lo up w0 W->wpAnyH prog .any ops Q (Lk lo up w0) fuel (listed.setIfInBounds i true) ⟨a.tmps.setIfInBounds d (.pointer (some ⟨g,0,none⟩)),a.defers⟩ W)
 (hi:ops[i]? =some oi:=by rfl)(c:oi.guard=none:=by rfl)(hd:oi.dst=some d:=by rfl)(hrun:(execOp a.eval oi).run prog w= .ok (.value (.pointer (some ⟨w.heap.size,0,none⟩))) (w.alloc (.cells A t)):=by kernel_rfl)(hr:Region.ready .any ops listed=[i]:=by kernel_rfl):
 wpAnyH prog .any ops Q (Lk lo up w0) (fuel+1) listed a w:=by
 refine Ll i (λ K hK=> ?_) hi hr;rw[if_pos (by simp[Region.wanted,c])]
 unfold Oper.wp;rw[hrun]
 simp only[Oper.upon,Act.put,hd]
 have b:aa w (w.alloc (.cells A t)):=(aa.refl w).alloc _;exact hK.out _ _ (hS.kept b) (h _ _ rfl b (aD.new w A t) (Array.size_push ..))
end
def Z7:Array Value:=#[.int .i64 0,.int .i64 0,.bool false,.slice none 0 0,.slice none 0 0,.string ⟨#[]⟩,.slice none 0 0]
def IH:Value:=.agg #[.int .i64 0,.int .i64 0,.bool false,.slice none 0 0,.slice none 0 0,.string ⟨#[]⟩,.slice none 0 0]
theorem iK:dY 27 Z7:=nX
theorem dY.sL(h:dY 27 V):V.size=7:=iG (h.1.symm.trans (by kernel_rfl))
theorem dY.same(h:dY t V)(k:dY t Y):V.size=Y.size:=iG (h.1.symm.trans k.1)
def Wn(P:Program)(c:Code)(Q:Exit->Act->World->Prop):Nat->Act->World->Prop
 |0=>λ _ _=>False
 |n+1=>λ a w=>c.wp P (Exit.then (Wn P c Q n) Q) a w
theorem least{p:Nat->Prop}(n:Nat):p n->∃m,p m/\∀k,p k->m<=k:=by
 induction n using Nat.strongRecOn with
 |_ n ih=>
  intro h;by_cases a:∃k,k<n/\p k
  ·obtain⟨k,c,hp⟩:=a;exact ih k c hp
  ·exact⟨n,h,λ k hp=>Nat.le_of_not_lt λ b=>a ⟨k,b,hp⟩⟩
open Classical in
theorem UJ{P:Program}(n:Nat){a:Act}(h:Wn P c Q n a w):(Code.loop c).wp P Q a w:=by
 refine wp_loop (λ a w=>∃m,Wn P c Q m a w/\∀k,Wn P c Q k a w->m<=k) (λ a w=>if h:∃m,Wn P c Q m a w/\∀k,Wn P c Q k a w->m<=k then h.choose else 0) (least (p:=λ k=>Wn P c Q k a w) n h) ?_;intro a w hx;have hf:=hx.choose_spec.1;cases d:hx.choose with
 |zero=>rw[d] at hf;exact hf.elim
 |succ k=>
  rw[d] at hf;refine Code.wp_mono ?_ hf;intro e a' w' q;cases e<;>first
   |exact q
   |(have b:=least (p:=λ k=>Wn P c Q k a' w') k q
     refine⟨b,?_⟩
     rw[dif_pos hx,dif_pos b,d]
     exact Nat.lt_succ_of_le (b.choose_spec.2 k q))
section
variable{ops:Array Oper}{rest:List Oper}{Q:Exit->Act->World->Prop}{oi:Oper}{a:Act}{w:World}
theorem xj{w:World}{x:Value}(hc:w.cell? ⟨b,o,none⟩=some x)(c:(prog.underlying ty).map TypeDesc.isRow=some false):(Instr.loadAt ty (.pointer (some ⟨b,o,none⟩))).run prog w= .ok x w:=by
 obtain⟨d,hd,hdr⟩:=Option.map_eq_some_iff.1 c;have a:(isAgg ty).run prog w= .ok false w:=by
  unfold isAgg;rw[Sem.run_bind,run_underlying hd w]
  cases d<;>first|rfl|cases hdr
 simp[Instr.loadAt,Instr.sureAddr,loadVar,Sem.run_bind,a,hc]
theorem ll1{x:Value}(hc:w.cell? ⟨b,o,none⟩=some x)(h:wpList prog ops Q rest ⟨a.tmps.setIfInBounds d x,a.defers⟩ w)
 (f:oi.guard=none:=by rfl)(hd:oi.dst=some d:=by rfl)(e:oi.op= .load ty (.tmp p):=by rfl)(hx:a.tmps.getD p undef= .pointer (some ⟨b,o,none⟩):=by kernel_rfl)(c:(prog.underlying ty).map TypeDesc.isRow=some false:=by kernel_rfl):
 wpList prog ops Q (oi::rest) a w:=by
 refine lv x ?_ f hd h;have e1:a.eval (.tmp p)= .pointer (some ⟨b,o,none⟩):=hx;unfold execOp;simp only[e,e1,Sem.run_bind,xj hc c]
 rfl
theorem tk1{fuel:Nat}{listed:Array Bool}(i:Nat){p:Tmp}{x:Value}(f:w0.cell? ⟨b,o,none⟩=some x)(hb:b<lo∨up<=b)(hS:Lk lo up w0 w)(h:wpAnyH prog .any ops Q (Lk lo up w0) fuel (listed.setIfInBounds i true) ⟨a.tmps.setIfInBounds d x,a.defers⟩ w)
 (hi:ops[i]? =some oi:=by rfl)(g:oi.op= .load ty (.tmp p):=by rfl)(j:oi.guard=none:=by rfl)(hd:oi.dst=some d:=by rfl)(hx:a.tmps.getD p undef= .pointer (some ⟨b,o,none⟩):=by kernel_rfl)(e:(prog.underlying ty).map TypeDesc.isRow=some false:=by kernel_rfl)
 (hs:Region.noSelect ops=true:=by kernel_rfl)(hf:Region.free .any ops listed i=true:=by kernel_rfl)(hr:(Region.ready .any ops listed).contains i=true:=by kernel_rfl)
 (hQ:∀c b w,Q (.panic c) (b.put oi.dst x) w->Q (.panic c) b w:=by exact λ _ _ _ h=>h):wpAnyH prog .any ops Q (Lk lo up w0) (fuel+1) listed a w:=by
 refine wpAnyH_take hi hs hf hr hQ (.inl ⟨by simp[Region.wanted,j],λ w' k=> ?_⟩) hS ?_
 ·have e1:a.eval (.tmp p)= .pointer (some ⟨b,o,none⟩):=hx;unfold execOp;simp only[g,e1,Sem.run_bind,xj (k.cell f hb) e]
  rfl
 ·rw[hd]
  exact h
theorem ze{w:World}(e:j<n)(c:prog.underlying ty=some (.slice (prog.elem ty)))(hs:(prog.info? (prog.elem ty)).map (·.size)=some s):
 (Instr.indexAt ty (.slice (some ⟨b,off,none⟩) n cap) (.int k (j:Int))).run prog w= .ok (.pointer (some ⟨b,off+j*s,none⟩)) w:=by
 rw[run_indexAt_slice w ty _ n cap k _ c,if_pos ⟨by omega,by omega⟩]
 cases a:prog.info? (prog.elem ty) with
 |none=>simp[a] at hs
 |some d=>
  have hd:d.size=s:=by simpa [a] using hs
  simp[sizeOf,typeInfo,a,hd,Addr.add_mid]
theorem li(j:Nat)(f:j<n)(h:wpList prog ops Q rest ⟨a.tmps.setIfInBounds d (.pointer (some ⟨b,off+j*s,none⟩)),a.defers⟩ w)
 (hx:a.tmps.getD p undef= .slice (some ⟨b,off,none⟩) n cap)(hi:a.eval x= .int k (j:Int):=by kernel_rfl)(g:oi.guard=none:=by rfl)(hd:oi.dst=some d:=by rfl)(e:oi.op= .indexAddr ty (.tmp p) x:=by rfl)
 (c:prog.underlying ty=some (.slice (prog.elem ty)):=by kernel_rfl)(hs:(prog.info? (prog.elem ty)).map (·.size)=some s:=by kernel_rfl):wpList prog ops Q (oi::rest) a w:=by
 refine lv _ ?_ g hd h;have e1:a.eval (.tmp p)= .slice (some ⟨b,off,none⟩) n cap:=hx;unfold execOp;simp only[e,e1,hi,Sem.run_bind,ze f c hs]
 rfl
theorem tki{fuel:Nat}{listed:Array Bool}(i:Nat)(s j:Nat)(l:j<n)(hx:a.tmps.getD p undef= .slice (some ⟨b,off,none⟩) n cap)(hS:S w)(h:wpAnyH prog .any ops Q S fuel (listed.setIfInBounds i true) ⟨a.tmps.setIfInBounds d (.pointer (some ⟨b,off+j*s,none⟩)),a.defers⟩ w)
 (hi:ops[i]? =some oi:=by rfl)(g:oi.op= .indexAddr ty (.tmp p) x:=by rfl)(m:a.eval x= .int k (j:Int):=by kernel_rfl)(o:oi.guard=none:=by rfl)(hd:oi.dst=some d:=by rfl)
 (e:prog.underlying ty=some (.slice (prog.elem ty)):=by kernel_rfl)(f:(prog.info? (prog.elem ty)).map (·.size)=some s:=by kernel_rfl)
 (hs:Region.noSelect ops=true:=by kernel_rfl)(hf:Region.free .any ops listed i=true:=by kernel_rfl)(hr:(Region.ready .any ops listed).contains i=true:=by kernel_rfl)
 (hQ:∀c b w x,Q (.panic c) (b.put oi.dst x) w->Q (.panic c) b w:=by exact λ _ _ _ _ h=>h):wpAnyH prog .any ops Q S (fuel+1) listed a w:=by
 refine wpAnyH_take (v:=.pointer (some ⟨b,off+j*s,none⟩)) hi hs hf hr (λ c b w=>hQ c b w _) (.inl ⟨by simp[Region.wanted,o],λ w' _=> ?_⟩) hS ?_
 ·have e1:a.eval (.tmp p)= .slice (some ⟨b,off,none⟩) n cap:=hx;unfold execOp;simp only[g,e1,m,Sem.run_bind,ze l e f]
  rfl
 ·rw[hd]
  exact h
end
abbrev Fm:=Nat->Option Value
def Ef:Fm:=λ _=>none
def aC(l:Fm)(d:Nat)(v:Value):Fm:=λ i=>bif Nat.beq i d then some v else l i
def aH(n:Nat)(l:Fm):Act:=⟨((List.range n).map λ i=>(l i).getD undef).toArray,[]⟩
def bA(n:Nat)(l:Fm):Operand->Option Value
 | .tmp p=>bif Nat.blt p n then l p else none
 | .const v=>some v
 | .func f=>some (.func (.func f) #[] #[])
 | .global g=>some (.pointer (some ⟨g,0,none⟩))
theorem oM{i d:Nat}(h:¬i=d):Nat.beq i d=false:=by
 cases hb:Nat.beq i d with
 |false=>rfl
 |true=>exact absurd (Nat.eq_of_beq_eq_true hb) h
theorem jz{l:Fm}{d:Nat}:(⟨(aH n l).tmps.setIfInBounds d v,(aH n l).defers⟩:Act)=aH n (aC l d v):=by
 have e:((List.range n).map λ i=>(l i).getD undef).set d v=(List.range n).map λ i=>(aC l d v i).getD undef:=by
  apply List.ext_getElem?;intro i;rw[List.getElem?_set,List.getElem?_map,List.getElem?_map]
  by_cases h:d=i
  ·subst h;by_cases hn:d<n
   ·simp[hn,aC]
   ·simp[hn]
  ·rw[if_neg h]
   have hb:aC l d v i=l i:=by unfold aC;rw[oM (Ne.symm h)];rfl
   rcases Nat.lt_or_ge i n with hn|hn
   ·simp[hn,hb]
   ·simp[hn]
 unfold aH;simp only[List.setIfInBounds_toArray,e]
theorem bX{l:Fm}{d:Nat}:(aH n l).put (some d) v=aH n (aC l d v):=jz
theorem aE{l:Fm}(h:bA n l x=some v):(aH n l).eval x=v:=by
 cases x with
 |tmp p=>
  simp only[bA] at h;cases hb:Nat.blt p n with
  |false=>rw[hb] at h;cases h
  |true=>
   rw[hb] at h;have hp:p<n:=Nat.le_of_ble_eq_true hb;simp only[Act.eval,aH]
   simp only[cond_true] at h;simp[Array.getD,hp,h]
 |const v=>injection h
 |func f=>injection h
 |global g=>injection h
theorem bK{l:Fm}(h:bA n l (.tmp p)=some v):(aH n l).tmps.getD p undef=v:=aE h
theorem V4{l:Fm}{d:Nat}(h:l d=some v):aC l d v=l:=by
 funext i;unfold aC;by_cases hi:i=d
 ·subst hi;simp[h]
 ·simp[oM hi]
theorem ct{f:FuncId}{fn:Func}(n:Nat)(hf:prog.funcs[f]? =some fn)(hb:fn.body=some c)(hn:fn.ntmps=n+1)
 (h:c.wp prog (bodyPost prog fn R) (aH (n+1) (aC Ef 0 v)) w):Calls prog f #[v] w R:=by
 have e:(⟨#[v]++Array.replicate n undef,[]⟩:Act)=aH (n+1) (aC Ef 0 v):=by
  refine congrArg (λ t=>(⟨t,[]⟩:Act)) (?_:#[v]++Array.replicate n undef=((List.range (n+1)).map λ i=>(aC Ef 0 v i).getD undef).toArray)
  apply Array.ext
  ·simp;omega
  ·intro i h1 h2;cases i with
   |zero=>simp[aC]
   |succ i=>
    simp[aC,Ef]
    rfl
 refine calls_of_wp hf hb ?_;rw[hn,show(n+1- #[v].size)=n from rfl,e]
 exact h
section
variable{n:Nat}{l:Fm}{ops:Array Oper}{rest:List Oper}{Q:Exit->Act->World->Prop}{oi:Oper}{fuel:Nat}{listed:Array Bool}{w w0:World}{d lo up:Nat}
theorem zv(v:Value)(hrun:(execOp (aH n l).eval oi).run prog w= .ok (.value v) w')(a:oi.guard=none)(hd:oi.dst=some d)
 (h:wpList prog ops Q rest (aH n (aC l d v)) w'):wpList prog ops Q (oi::rest) (aH n l) w:=
 lv v hrun a hd (by rw[jz];exact h)
theorem z1(F:Value->Sem Value)(v:Value)(h:wpList prog ops Q rest (aH n (aC l d v)) w)
 (a:∀ρ,execOp ρ oi=(do pure (.value (<-F (ρ x)))):=by intro ρ;rfl)(hx:bA n l x=some xv:=by rfl)(hrun:(F xv).run prog w= .ok v w:=by kernel_rfl)(b:oi.guard=none:=by rfl)(hd:oi.dst=some d:=by rfl):wpList prog ops Q (oi::rest) (aH n l) w:=
 zv v (by rw[a,aE hx,Sem.run_bind,hrun];rfl) b hd h
theorem z2{op:BinOp}{yt:TypeId}{yv:Value}(v:Value)(h:wpList prog ops Q rest (aH n (aC l d v)) w)
 (b:oi.op= .binOp op xt x y yt:=by rfl)(hx:bA n l x=some xv:=by rfl)(a:bA n l y=some yv:=by rfl)(hrun:(do eqGuard op xt x y xv yv;binOp op xt xv yv:Sem Value).run prog w= .ok v w:=by kernel_rfl)(c:oi.guard=none:=by rfl)(hd:oi.dst=some d:=by rfl):wpList prog ops Q (oi::rest) (aH n l) w:=
 zv v (by unfold execOp;rw[b];simp only[aE hx,aE a];rw[Sem.run_bind,hrun];rfl) c hd h
theorem za(A:Array Value)(t:TypeId)(h:∀W g,g=w.heap.size->aa w W->aD W g A t->W.heap.size=g+1->wpList prog ops Q rest (aH n (aC l d (.pointer (some ⟨g,0,none⟩)))) W)
 (hrun:(execOp (aH n l).eval oi).run prog w= .ok (.value (.pointer (some ⟨w.heap.size,0,none⟩))) (w.alloc (.cells A t)):=by kernel_rfl)(a:oi.guard=none:=by rfl)(hd:oi.dst=some d:=by rfl):wpList prog ops Q (oi::rest) (aH n l) w:=
 zv _ hrun a hd (h _ _ rfl ((aa.refl w).alloc _) (aD.new w A t) (Array.size_push ..))
theorem zb(h:∀W g,g=w.heap.size->aa w W->aD W g V t->W.heap.size=g+1->wpList prog ops Q rest (aH n (aC l d (.pointer (some ⟨g,0,none⟩)))) W)
 (a:oi.op= .box t x:=by rfl)(hx:bA n l x=some (.agg V):=by rfl)(hrun:(Instr.box t (.agg V)).run prog w= .ok (.pointer (some ⟨w.heap.size,0,none⟩)) (w.alloc (.cells V t)):=by kernel_rfl)(b:oi.guard=none:=by rfl)(hd:oi.dst=some d:=by rfl):wpList prog ops Q (oi::rest) (aH n l) w:=
 zv _ (by unfold execOp;rw[a];simp only[aE hx];rw[Sem.run_bind,hrun];rfl) b hd (h _ _ rfl ((aa.refl w).alloc _) (aD.new w V t) (Array.size_push ..))
theorem zl(c:w.rangeAt b o V.toList)(g:dY ty V)(h:wpList prog ops Q rest (aH n (aC l d (.agg V))) w)
 (f:oi.guard=none:=by rfl)(hd:oi.dst=some d:=by rfl)(e:oi.op= .load ty (.tmp p):=by rfl)(hx:bA n l (.tmp p)=some (.pointer (some ⟨b,o,none⟩)):=by rfl)(a:(prog.underlying ty).map TypeDesc.isRow=some true:=by kernel_rfl):
 wpList prog ops Q (oi::rest) (aH n l) w:=ll c g (by rw[jz];exact h) f hd e (bK hx) a
theorem kB{x:Value}(hc:w.cell? ⟨b,o,none⟩=some x)(h:wpList prog ops Q rest (aH n (aC l d x)) w)
 (e:oi.guard=none:=by rfl)(hd:oi.dst=some d:=by rfl)(c:oi.op= .load ty (.tmp p):=by rfl)(hx:bA n l (.tmp p)=some (.pointer (some ⟨b,o,none⟩)):=by rfl)(a:(prog.underlying ty).map TypeDesc.isRow=some false:=by kernel_rfl):
 wpList prog ops Q (oi::rest) (aH n l) w:=ll1 hc (by rw[jz];exact h) e hd c (bK hx) a
theorem zt{q:Nat}(hb:aD w g Y t)(e:dY ty Y)(a:dY ty V)(h:∀w',af w w' g->aD w' g V t->wpList prog ops Q rest (aH n l) w')
 (d:oi.guard=none:=by rfl)(hd:oi.dst=none:=by rfl)(c:oi.op= .store ty (.tmp p) (.tmp q):=by rfl)(hx:bA n l (.tmp p)=some (.pointer (some ⟨g,0,none⟩)):=by rfl)(b:bA n l (.tmp q)=some (.agg V):=by rfl):
 wpList prog ops Q (oi::rest) (aH n l) w:=ls hb (e.same a) a h d hd c (bK hx) (bK b)
end
def ev(n:Nat)(l:Fm)(x:Operand):Value:=(bA n l x).getD undef
theorem aO(n:Nat)(l:Fm):(aH n l).eval=ev n l:=by
 funext x;cases h:bA n l x with
 |some v=>unfold ev;rw[aE h,h];rfl
 |none=>
  unfold ev;rw[h]
  cases x with
  |tmp p=>
   simp only[bA] at h;show(aH n l).tmps.getD p undef=undef;cases hb:Nat.blt p n with
   |true=>
    rw[hb] at h;simp only[cond_true] at h;have hp:p<n:=Nat.le_of_ble_eq_true hb;simp[aH,Array.getD,hp,h]
   |false=>
    have hp:¬p<n:=λ hp=>by
     have:=Nat.ble_eq_true_of_le hp;exact absurd (hb.symm.trans this) (by decide)
    simp[aH,Array.getD,hp]
  |const v=>cases h
  |func f=>cases h
  |global g=>cases h
section
variable{n:Nat}{l:Fm}{ops:Array Oper}{rest:List Oper}{Q:Exit->Act->World->Prop}{oi oj:Oper}{fuel:Nat}{listed:Array Bool}{w w0:World}{d e lo up:Nat}
theorem zc(f:FuncId)(args:Array Value)(hc:Calls prog f args w R)(h:∀e w',R e w'->∃v,e= .returned v/\wpList prog ops Q rest (aH n (aC l d v)) w')
 (hrun:(execOp (ev n l) oi).run prog w= .ok (.enter f args) w:=by kernel_rfl)(a:oi.guard=none:=by rfl)(hd:oi.dst=some d:=by rfl):wpList prog ops Q (oi::rest) (aH n l) w:=
 lc f args hc (λ e w' hR=>by obtain⟨v,h1,h2⟩:=h e w' hR;exact⟨v,h1,by rw[jz];exact h2⟩) a hd (by rw[aO];exact hrun)
theorem zi(j:Nat)(e:j<m)(h:wpList prog ops Q rest (aH n (aC l d (.pointer (some ⟨b,off+j*s,none⟩)))) w)
 (c:oi.op= .indexAddr ty (.tmp p) x:=by rfl)(hx:bA n l (.tmp p)=some (.slice (some ⟨b,off,none⟩) m cap):=by rfl)(hi:bA n l x=some (.int k (j:Int)):=by rfl)(f:oi.guard=none:=by rfl)(hd:oi.dst=some d:=by rfl)
 (a:prog.underlying ty=some (.slice (prog.elem ty)):=by kernel_rfl)(hs:(prog.info? (prog.elem ty)).map (·.size)=some s:=by kernel_rfl):wpList prog ops Q (oi::rest) (aH n l) w:=
 li j e (by rw[jz];exact h) (bK hx) (aE hi) f hd c a hs
theorem zr(v:Value)(h:wpList prog ops Q rest (aH n (aC l d v)) w)(hrun:(execOp (ev n l) oi).run prog w= .ok (.value v) w:=by kernel_rfl)(a:oi.guard=none:=by rfl)(hd:oi.dst=some d:=by rfl):wpList prog ops Q (oi::rest) (aH n l) w:=
 zv v (by rw[aO];exact hrun) a hd h
theorem ju{c:Operand}{t e:Code}(h:t.wp prog Q (aH n l) w)(hc:bA n l c=some (.bool true):=by rfl):(Code.cond c t e).wp prog Q (aH n l) w:=wp_cond_true (aE hc) h
theorem fx{c:Operand}{t e:Code}(h:e.wp prog Q (aH n l) w)(hc:bA n l c=some (.bool false):=by rfl):(Code.cond c t e).wp prog Q (aH n l) w:=wp_cond_false (aE hc) h
theorem yr(i:Nat)(v:Value)(hS:S w)(h:wpAnyH prog .any ops Q S fuel (listed.setIfInBounds i true) (aH n (aC l d v)) w)
 (hi:ops[i]? =some oi:=by rfl)(b:oi.guard=none:=by rfl)(hd:oi.dst=some d:=by rfl)(hrun:∀w',(execOp (ev n l) oi).run prog w'= .ok (.value v) w':=by intro w';kernel_rfl)
 (hs:Region.noSelect ops=true:=by kernel_rfl)(hf:Region.free .any ops listed i=true:=by kernel_rfl)(hr:(Region.ready .any ops listed).contains i=true:=by kernel_rfl)
 (hQ:∀c a w,Q (.panic c) (a.put oi.dst v) w->Q (.panic c) a w:=by exact λ _ _ _ h=>h):wpAnyH prog .any ops Q S (fuel+1) listed (aH n l) w:=
 wpAnyH_take hi hs hf hr hQ (.inl ⟨by simp[Region.wanted,b],λ w' _=>by rw[aO];exact hrun w'⟩) hS (by rw[hd,bX];exact h)
theorem yS(i:Nat){p:Tmp}(f:∀w',S w'->w'.rangeAt b o V.toList)(k:dY ty V)(hS:S w)(h:wpAnyH prog .any ops Q S fuel (listed.setIfInBounds i true) (aH n (aC l d (.agg V))) w)
 (hi:ops[i]? =some oi:=by rfl)(g:oi.op= .load ty (.tmp p):=by rfl)(j:oi.guard=none:=by rfl)(hd:oi.dst=some d:=by rfl)(hx:bA n l (.tmp p)=some (.pointer (some ⟨b,o,none⟩)):=by rfl)(e:(prog.underlying ty).map TypeDesc.isRow=some true:=by kernel_rfl)
 (hs:Region.noSelect ops=true:=by kernel_rfl)(hf:Region.free .any ops listed i=true:=by kernel_rfl)(hr:(Region.ready .any ops listed).contains i=true:=by kernel_rfl)
 (hQ:∀c a w,Q (.panic c) (a.put oi.dst (.agg V)) w->Q (.panic c) a w:=by exact λ _ _ _ h=>h):wpAnyH prog .any ops Q S (fuel+1) listed (aH n l) w:=
 tkS i f k hS (by rw[jz];exact h) hi g j hd (bK hx) e hs hf hr hQ
theorem yl(i:Nat){p:Tmp}(f:w0.rangeAt b o V.toList)(hb:b<lo∨up<=b)(m:dY ty V)(hS:Lk lo up w0 w)(h:wpAnyH prog .any ops Q (Lk lo up w0) fuel (listed.setIfInBounds i true) (aH n (aC l d (.agg V))) w)
 (hi:ops[i]? =some oi:=by rfl)(g:oi.op= .load ty (.tmp p):=by rfl)(j:oi.guard=none:=by rfl)(hd:oi.dst=some d:=by rfl)(hx:bA n l (.tmp p)=some (.pointer (some ⟨b,o,none⟩)):=by rfl)(e:(prog.underlying ty).map TypeDesc.isRow=some true:=by kernel_rfl)
 (hs:Region.noSelect ops=true:=by kernel_rfl)(hf:Region.free .any ops listed i=true:=by kernel_rfl)(hr:(Region.ready .any ops listed).contains i=true:=by kernel_rfl)
 (hQ:∀c a w,Q (.panic c) (a.put oi.dst (.agg V)) w->Q (.panic c) a w:=by exact λ _ _ _ h=>h):wpAnyH prog .any ops Q (Lk lo up w0) (fuel+1) listed (aH n l) w:=
 yS i (λ _ k=>k.range f hb) m hS h hi g j hd hx e hs hf hr hQ
theorem Eh(i:Nat){p:Tmp}{x:Value}(e:w0.cell? ⟨b,o,none⟩=some x)(hb:b<lo∨up<=b)(hS:Lk lo up w0 w)(h:wpAnyH prog .any ops Q (Lk lo up w0) fuel (listed.setIfInBounds i true) (aH n (aC l d x)) w)
 (hi:ops[i]? =some oi:=by rfl)(f:oi.op= .load ty (.tmp p):=by rfl)(g:oi.guard=none:=by rfl)(hd:oi.dst=some d:=by rfl)(hx:bA n l (.tmp p)=some (.pointer (some ⟨b,o,none⟩)):=by rfl)(a:(prog.underlying ty).map TypeDesc.isRow=some false:=by kernel_rfl)
 (hs:Region.noSelect ops=true:=by kernel_rfl)(hf:Region.free .any ops listed i=true:=by kernel_rfl)(hr:(Region.ready .any ops listed).contains i=true:=by kernel_rfl)
 (hQ:∀c b w,Q (.panic c) (b.put oi.dst x) w->Q (.panic c) b w:=by exact λ _ _ _ h=>h):wpAnyH prog .any ops Q (Lk lo up w0) (fuel+1) listed (aH n l) w:=
 tk1 i e hb hS (by rw[jz];exact h) hi f g hd (bK hx) a hs hf hr hQ
theorem yt(i:Nat){p q:Tmp}(hb:aD w g Y t)(f:dY ty Y)(a:dY ty V)(d:(lo<=g/\g<up)∨w0.heap.size<=g)(hS:Lk lo up w0 w)
 (h:∀w',af w w' g->aD w' g V t->Lk lo up w0 w'->wpAnyH prog .any ops Q (Lk lo up w0) fuel (listed.setIfInBounds i true) (aH n l) w')
 (hi:ops[i]? =some oi:=by rfl)(c:oi.op= .store ty (.tmp p) (.tmp q):=by rfl)(hd:oi.dst=none:=by rfl)(e:oi.guard=none:=by rfl)
 (hx:bA n l (.tmp p)=some (.pointer (some ⟨g,0,none⟩)):=by rfl)(b:bA n l (.tmp q)=some (.agg V):=by rfl)(hr:Region.ready .any ops listed=[i]:=by kernel_rfl):
 wpAnyH prog .any ops Q (Lk lo up w0) (fuel+1) listed (aH n l) w:=rdS i hb (f.same a) a d hS h hi c hd e (bK hx) (bK b) hr
theorem yc(i:Nat)(f:FuncId)(args:Array Value)(hS:Lk lo up w0 w)(hc:Calls prog f args w R)
 (h:∀e w',R e w'->aa w w'/\∃v,e= .returned v/\(Lk lo up w0 w'->wpAnyH prog .any ops Q (Lk lo up w0) fuel (listed.setIfInBounds i true) (aH n (aC l d v)) w'))
 (hi:ops[i]? =some oi:=by rfl)(hrun:(execOp (ev n l) oi).run prog w= .ok (.enter f args) w:=by kernel_rfl)(c:oi.guard=none:=by rfl)(hd:oi.dst=some d:=by rfl)(hr:Region.ready .any ops listed=[i]:=by kernel_rfl):
 wpAnyH prog .any ops Q (Lk lo up w0) (fuel+1) listed (aH n l) w:=
 rdC i f args hS hc (λ e w' hR=>by obtain⟨b,v,h1,h2⟩:=h e w' hR;exact⟨b,v,h1,λ a=>by rw[jz];exact h2 a⟩) hi c hd (by rw[aO];exact hrun) hr
theorem ya(i:Nat)(A:Array Value)(t:TypeId)(hS:Lk lo up w0 w)
 (h:∀W g,g=w.heap.size->aa w W->aD W g A t->W.heap.size=g+1->Lk lo up w0 W->wpAnyH prog .any ops Q (Lk lo up w0) fuel (listed.setIfInBounds i true) (aH n (aC l d (.pointer (some ⟨g,0,none⟩)))) W)
 (hi:ops[i]? =some oi:=by rfl)(hrun:(execOp (aH n l).eval oi).run prog w= .ok (.value (.pointer (some ⟨w.heap.size,0,none⟩))) (w.alloc (.cells A t)):=by kernel_rfl)(a:oi.guard=none:=by rfl)(hd:oi.dst=some d:=by rfl)(hr:Region.ready .any ops listed=[i]:=by kernel_rfl):
 wpAnyH prog .any ops Q (Lk lo up w0) (fuel+1) listed (aH n l) w:=
 rdA i A t hS (λ W g h1 h2 h3 c b=>by rw[jz];exact h W g h1 h2 h3 c b) hi a hd hrun hr
end
theorem E9{l:Fm}{b:Bool}{ops:Array Oper}(a:(ops[j]?).bind (·.dst)=some p)(h:bA n l (.tmp p)=some (.bool b)):yielded ops (aH n l).tmps j=some b:=by
 have e:=bK h;have hp:p<(aH n l).tmps.size:=by
  simp only[bA] at h;cases hb:Nat.blt p n with
  |false=>rw[hb] at h;cases h
  |true=>
   have:p<n:=Nat.le_of_ble_eq_true hb;simpa [aH] using this
 unfold yielded;rw[a]
 simp only[Option.bind]
 simp only[Array.getD,hp,dif_pos] at e;rw[Array.getElem?_eq_getElem hp]
 rw[show(aH n l).tmps[p]= .bool b from e]
def Ze:List (Nat×Nat×Nat):=[(24,0,0),(24,1,1),(24,2,2),(27,0,0),(27,1,1),(27,2,2),(27,3,5),(27,4,6),(31,0,0),(31,1,7),(31,2,8),(31,3,9),(39,0,0),(39,1,3),(39,2,6),(39,3,7),(41,0,0),(41,1,1),(93,0,0),(93,1,7),(97,0,0),(97,1,1),(97,2,2),(99,0,0),(99,1,3),(99,2,6),(99,3,7),(99,4,8)]
def adk(s f:Nat):Option Nat:=(Ze.find? λ e=>Nat.beq e.1 s&&Nat.beq e.2.1 f).map (·.2.2)
theorem Qo:∀e∈Ze,∀(b o:Nat)(w:World),(Instr.fieldAt e.1 (.pointer (some ⟨b,o,none⟩)) e.2.1).run prog w= .ok (.pointer (some ⟨b,o+e.2.2,none⟩)) w:=by
 intro e he b o w;unfold Ze at he;simp only[List.mem_cons,nU,or_false] at he;rcases he with rfl|rfl|rfl|rfl|rfl|rfl|rfl|rfl|rfl|rfl|rfl|rfl|rfl|rfl|rfl|rfl|rfl|rfl|rfl|rfl|rfl|rfl|rfl|rfl|rfl|rfl|rfl|rfl<;>kernel_rfl
theorem V5{f k:Nat}(h:adk s f=some k)(b o:Nat)(w:World):(Instr.fieldAt s (.pointer (some ⟨b,o,none⟩)) f).run prog w= .ok (.pointer (some ⟨b,o+k,none⟩)) w:=by
 unfold adk at h;obtain⟨e,he,rfl⟩:=Option.map_eq_some_iff.1 h;have h1:=List.find?_some he;simp only[fv] at h1;obtain⟨h1,h2⟩:=h1;obtain rfl:=Nat.eq_of_beq_eq_true h1;obtain rfl:=Nat.eq_of_beq_eq_true h2;exact Qo e (List.mem_of_find?_eq_some he) b o w
def rJ(n:Nat)(l:Fm):Op->Option Value
 | .move x=>bA n l x
 | .assign x=>bA n l x
 | .extract x i=>match bA n l x with
   |some (.tuple vs)=>vs.toList[i]?
   |_=>none
 | .unOp .not _ x=>match bA n l x with
   |some (.bool b)=>some (.bool !b)
   |_=>none
 | .pick c a b=>match bA n l c with
   |some (.bool t)=>bif t then bA n l a else bA n l b
   |_=>none
 | .fieldAddr s x f=>match bA n l x with
   |some (.pointer (some ⟨b,o,none⟩))=>match adk s f with
    |some k=>some (.pointer (some ⟨b,o+k,none⟩))
    |none=>none
   |_=>none
 |_=>none
theorem th{l:Fm}{oi:Oper}(h:rJ n l oi.op=some v):(execOp (aH n l).eval oi).run prog w= .ok (.value v) w:=by
 unfold execOp;revert h;generalize oi.op=o;intro h;cases o
 case move x=>simp only[rJ] at h;simp only[aE h];rfl
 case assign x=>simp only[rJ] at h;simp only[aE h];rfl
 case extract x i=>
  simp only[rJ] at h;cases hx:bA n l x with
  |none=>rw[hx] at h;cases h
  |some y=>
   rw[hx] at h;cases y<;>first
    |(cases h;done)
    |(rename_i vs
      have e:vs[i]? =some v:=by simpa using h
      simp only[aE hx]
      simp[Instr.extract,e])
 case unOp op t x=>
  cases op<;>first
   |(cases h;done)
   |(simp only[rJ] at h
     cases hx:bA n l x with
     |none=>rw[hx] at h;cases h
     |some y=>
      rw[hx] at h;cases y<;>first
       |(cases h;done)
       |(injection h with h;subst h;simp only[aE hx];rfl))
 case pick c a b=>
  simp only[rJ] at h;cases hc:bA n l c with
  |none=>rw[hc] at h;cases h
  |some y=>
   rw[hc] at h;cases y<;>first
    |(cases h;done)
    |(rename_i t
      cases t<;>(simp only[cond_true,cond_false] at h;simp only[aE hc,aE h];rfl))
 case fieldAddr s x f=>
  simp only[rJ] at h;cases hx:bA n l x with
  |none=>rw[hx] at h;cases h
  |some y=>
   rw[hx] at h;split at h
   ·rename_i b o e;replace e:=iG e;subst e;split at h
    ·rename_i k d;replace h:=iG h;subst h;show(do pure (Next.value (<-Instr.fieldAt s ((aH n l).eval x) f)):Sem Next).run prog w=_;rw[aE hx,Sem.run_bind,V5 d]
     rfl
    ·cases h
   ·cases h
 all_goals cases h
section
variable{n:Nat}{l:Fm}{ops:Array Oper}{rest:List Oper}{Q:Exit->Act->World->Prop}{oi oj:Oper}{fuel:Nat}{listed:Array Bool}{w w0:World}{d e lo up:Nat}
theorem zz(h:wpList prog ops Q rest (aH n (aC l d v)) w)(hs:rJ n l oi.op=some v:=by rfl)(a:oi.guard=none:=by rfl)(hd:oi.dst=some d:=by rfl):wpList prog ops Q (oi::rest) (aH n l) w:=
 zv v (th hs) a hd h
def ag9:Value->Option Bool
 | .bool c=>some c
 |_=>none
def jh(n:Nat)(l:Fm)(ops:Array Oper)(oi:Oper):Option Bool:=match oi.guard with
 |none=>some true
 |some (j,b)=>match (ops[j]?).bind (·.dst) with
  |some p=>match bA n l (.tmp p) with
   |some v=>some (ag9 v==some b)
   |none=>none
  |none=>none
theorem rq{b:Bool}(h:jh n l ops oi=some b):Region.wanted oi (yielded ops (aH n l).tmps)=b:=by
 unfold jh at h;unfold Region.wanted;cases d:oi.guard with
 |none=>rw[d] at h;injection h
 |some q=>
  obtain⟨j,c⟩:=q;rw[d] at h;simp only at h⊢;cases a:(ops[j]?).bind (·.dst) with
  |none=>rw[a] at h;cases h
  |some p=>
   rw[a] at h;simp only at h;split at h
   ·rename_i x hx;injection h with h
    rw[<-h]
    unfold yielded;rw[a]
    have e1:=bK hx;have hp:p<(aH n l).tmps.size:=by
     simp only[bA] at hx;cases hb:Nat.blt p n with
     |false=>rw[hb] at hx;cases hx
     |true=>
      have:p<n:=Nat.le_of_ble_eq_true hb;simpa [aH] using this
    simp only[Option.bind]
    simp only[Array.getD,hp,dif_pos] at e1;rw[Array.getElem?_eq_getElem hp]
    rw[show(aH n l).tmps[p]=x from e1]
    cases x<;>rfl
   ·cases h
theorem eL(i:Nat)(hS:S w)(h:wpAnyH prog .any ops Q S fuel (listed.setIfInBounds i true) (aH n (aC l d v)) w)
 (hi:ops[i]? =some oi:=by rfl)(b:rJ n l oi.op=some v:=by rfl)(hw:jh n l ops oi=some true:=by rfl)(hd:oi.dst=some d:=by rfl)
 (hs:Region.noSelect ops=true:=by kernel_rfl)(hf:Region.free .any ops listed i=true:=by kernel_rfl)(hr:(Region.ready .any ops listed).contains i=true:=by kernel_rfl)
 (hQ:∀c a w,Q (.panic c) (a.put oi.dst v) w->Q (.panic c) a w:=by exact λ _ _ _ h=>h):wpAnyH prog .any ops Q S (fuel+1) listed (aH n l) w:=
 wpAnyH_take hi hs hf hr hQ (.inl ⟨rq hw,λ _ _=>th b⟩) hS (by rw[hd,bX];exact h)
theorem Wa(i:Nat)(v:Value)(hS:S w)(h:wpAnyH prog .any ops Q S fuel (listed.setIfInBounds i true) (aH n (aC l d v)) w)
 (hi:ops[i]? =some oi:=by rfl)(hw:jh n l ops oi=some true:=by rfl)(hd:oi.dst=some d:=by rfl)(hrun:∀w',S w'->(execOp (ev n l) oi).run prog w'= .ok (.value v) w':=by intro w' _;kernel_rfl)
 (hs:Region.noSelect ops=true:=by kernel_rfl)(hf:Region.free .any ops listed i=true:=by kernel_rfl)(hr:(Region.ready .any ops listed).contains i=true:=by kernel_rfl)
 (hQ:∀c a w,Q (.panic c) (a.put oi.dst v) w->Q (.panic c) a w:=by exact λ _ _ _ h=>h):wpAnyH prog .any ops Q S (fuel+1) listed (aH n l) w:=
 wpAnyH_take hi hs hf hr hQ (.inl ⟨rq hw,λ w' hw'=>by rw[aO];exact hrun w' hw'⟩) hS (by rw[hd,bX];exact h)
def Dq(n:Nat)(ops:Array Oper):Fm->List Nat->Option Fm
 |l,[]=>some l
 |l,i::is=>match ops[i]? with
  |none=>none
  |some oi=>match oi.dst with
   |none=>none
   |some d=>match jh n l ops oi with
    |some true=>match rJ n l oi.op with
     |some v=>Dq n ops (aC l d v) is
     |none=>none
    |some false=>Dq n ops (aC l d undef) is
    |none=>none
def Hl(ops:Array Oper):Array Bool->List Nat->Bool
 |_,[]=>true
 |listed,i::is=>Region.free .any ops listed i&&(Region.ready .any ops listed).contains i&&Hl ops (listed.setIfInBounds i true) is
theorem Hm(hS:S w)(hs:Region.noSelect ops=true)(hQ:∀c(a:Act)(t:Array Value) w,Q (.panic c) ⟨t,a.defers⟩ w->Q (.panic c) a w):∀(is:List Nat)(l e:Fm)(listed:Array Bool)(fuel:Nat),Dq n ops l is=some e->Hl ops listed is=true->
 wpAnyH prog .any ops Q S fuel (is.foldl (λ a i=>a.setIfInBounds i true) listed) (aH n e) w->wpAnyH prog .any ops Q S (fuel+is.length) listed (aH n l) w
 |[],l,e,listed,fuel,b,_,h=>by cases b;exact h
 |i::is,l,e,listed,fuel,b,hf,h=>by
  unfold Dq at b;unfold Hl at hf;simp only[fv] at hf;obtain⟨⟨j,g⟩,f⟩:=hf;cases hi:ops[i]? with
  |none=>rw[hi] at b;cases b
  |some oi=>
   rw[hi] at b;cases hd:oi.dst with
   |none=>simp only[hd] at b;cases b
   |some d=>
    simp only[hd] at b;split at b
    ·rename_i hw;split at b
     ·rename_i v hv;exact wpAnyH_take hi hs j g (λ c a w=>by rw[hd];exact hQ c a _ w) (.inl ⟨rq hw,λ _ _=>th hv⟩) hS (by rw[hd,bX];exact Hm hS hs hQ is _ e _ fuel b f h)
     ·cases b
    ·rename_i hw;exact wpAnyH_take hi hs j g (λ c a w=>by rw[hd];exact hQ c a _ w) (.inr ⟨rq hw,rfl⟩) hS (by rw[hd,bX];exact Hm hS hs hQ is _ e _ fuel b f h)
    ·cases b
theorem yzs{l':Fm}{fu:Nat}(is:List Nat)(hS:S w)(h:wpAnyH prog .any ops Q S fuel (is.foldl (λ a i=>a.setIfInBounds i true) listed) (aH n l') w)(d:Dq n ops l is=some l':=by rfl)(hf:Hl ops listed is=true:=by kernel_rfl)(b:fu=fuel+is.length:=by rfl)
 (hs:Region.noSelect ops=true:=by kernel_rfl)(hQ:∀c(a:Act)(t:Array Value) w,Q (.panic c) ⟨t,a.defers⟩ w->Q (.panic c) a w:=by exact λ _ _ _ _ h=>h):wpAnyH prog .any ops Q S fu listed (aH n l) w:=
 b▸Hm hS hs hQ is l l' listed fuel d hf h
theorem eA(i:Nat){p:Tmp}{x:Value}(e:w0.cell? ⟨b,o,none⟩=some x)(hb:b<lo∨up<=b)(hS:Lk lo up w0 w)(h:wpAnyH prog .any ops Q (Lk lo up w0) fuel (listed.setIfInBounds i true) (aH n (aC l d x)) w)
 (hi:ops[i]? =some oi:=by rfl)(f:oi.op= .load ty (.tmp p):=by rfl)(hw:jh n l ops oi=some true:=by rfl)(hd:oi.dst=some d:=by rfl)(hx:bA n l (.tmp p)=some (.pointer (some ⟨b,o,none⟩)):=by rfl)(a:(prog.underlying ty).map TypeDesc.isRow=some false:=by kernel_rfl)
 (hs:Region.noSelect ops=true:=by kernel_rfl)(hf:Region.free .any ops listed i=true:=by kernel_rfl)(hr:(Region.ready .any ops listed).contains i=true:=by kernel_rfl)
 (hQ:∀c b w,Q (.panic c) (b.put oi.dst x) w->Q (.panic c) b w:=by exact λ _ _ _ h=>h):wpAnyH prog .any ops Q (Lk lo up w0) (fuel+1) listed (aH n l) w:=
 Wa i x hS h hi hw hd (λ w' k=>by
  rw[<-aO]
  have e1:(aH n l).eval (.tmp p)= .pointer (some ⟨b,o,none⟩):=aE hx;unfold execOp;simp only[f,e1,Sem.run_bind,xj (k.cell e hb) a]
  rfl) hs hf hr hQ
theorem ylg(i:Nat){p:Tmp}(j:w0.rangeAt b o V.toList)(hb:b<lo∨up<=b)(q:dY ty V)(hS:Lk lo up w0 w)(h:wpAnyH prog .any ops Q (Lk lo up w0) fuel (listed.setIfInBounds i true) (aH n (aC l d (.agg V))) w)
 (hi:ops[i]? =some oi:=by rfl)(m:oi.op= .load ty (.tmp p):=by rfl)(hw:jh n l ops oi=some true:=by rfl)(hd:oi.dst=some d:=by rfl)(hx:bA n l (.tmp p)=some (.pointer (some ⟨b,o,none⟩)):=by rfl)(g:(prog.underlying ty).map TypeDesc.isRow=some true:=by kernel_rfl)
 (hs:Region.noSelect ops=true:=by kernel_rfl)(hf:Region.free .any ops listed i=true:=by kernel_rfl)(hr:(Region.ready .any ops listed).contains i=true:=by kernel_rfl)
 (hQ:∀c a w,Q (.panic c) (a.put oi.dst (.agg V)) w->Q (.panic c) a w:=by exact λ _ _ _ h=>h):wpAnyH prog .any ops Q (Lk lo up w0) (fuel+1) listed (aH n l) w:=by
 obtain⟨e,he,hdr⟩:=Option.map_eq_some_iff.1 g;have f:=yieldsIf_load_mid (P:=prog) (ops:=ops) (S:=Lk lo up w0) (op:=oi) (a:=aH n l) (rq hw) ty (.tmp p) m b o (aE hx) V.toList e (λ _ k=>k.range j hb) he hdr (by simpa using q.1)
 rw[Array.toArray_toList] at f;exact wpAnyH_take hi hs hf hr hQ f hS (by rw[hd,bX];exact h)
theorem y2g{op:BinOp}{yt:TypeId}{yv:Value}(i:Nat)(v:Value)(hS:S w)(h:wpAnyH prog .any ops Q S fuel (listed.setIfInBounds i true) (aH n (aC l d v)) w)
 (hi:ops[i]? =some oi:=by rfl)(e:oi.op= .binOp op xt x y yt:=by rfl)(hx:bA n l x=some xv:=by rfl)(b:bA n l y=some yv:=by rfl)(hrun:∀w,(do eqGuard op xt x y xv yv;binOp op xt xv yv:Sem Value).run prog w= .ok v w:=by intro w;kernel_rfl)(hw:jh n l ops oi=some true:=by rfl)(hd:oi.dst=some d:=by rfl)
 (hs:Region.noSelect ops=true:=by kernel_rfl)(hf:Region.free .any ops listed i=true:=by kernel_rfl)(hr:(Region.ready .any ops listed).contains i=true:=by kernel_rfl)
 (hQ:∀c a w,Q (.panic c) (a.put oi.dst v) w->Q (.panic c) a w:=by exact λ _ _ _ h=>h):wpAnyH prog .any ops Q S (fuel+1) listed (aH n l) w:=
 Wa i v hS h hi hw hd (λ w' _=>by rw[<-aO];unfold execOp;rw[e];simp only[aE hx,aE b];rw[Sem.run_bind,hrun];rfl) hs hf hr hQ
theorem Tb(i j:Nat)(g:j<m)(hS:S w)(h:wpAnyH prog .any ops Q S fuel (listed.setIfInBounds i true) (aH n (aC l d (.pointer (some ⟨b,off+j*s,none⟩)))) w)
 (hi:ops[i]? =some oi:=by rfl)(f:oi.op= .indexAddr ty (.tmp p) x:=by rfl)(hx:bA n l (.tmp p)=some (.slice (some ⟨b,off,none⟩) m cap):=by rfl)(o:bA n l x=some (.int k (j:Int)):=by rfl)(hw:jh n l ops oi=some true:=by rfl)(hd:oi.dst=some d:=by rfl)
 (a:prog.underlying ty=some (.slice (prog.elem ty)):=by kernel_rfl)(e:(prog.info? (prog.elem ty)).map (·.size)=some s:=by kernel_rfl)
 (hs:Region.noSelect ops=true:=by kernel_rfl)(hf:Region.free .any ops listed i=true:=by kernel_rfl)(hr:(Region.ready .any ops listed).contains i=true:=by kernel_rfl)
 (hQ:∀c b w x,Q (.panic c) (b.put oi.dst x) w->Q (.panic c) b w:=by exact λ _ _ _ _ h=>h):wpAnyH prog .any ops Q S (fuel+1) listed (aH n l) w:=
 Wa i _ hS h hi hw hd (λ w' _=>by
  rw[<-aO]
  unfold execOp;simp only[f,aE hx,aE o,Sem.run_bind,ze g a e]
  rfl) hs hf hr (λ c b w=>hQ c b w _)
theorem ycg(i:Nat)(f:FuncId)(args:Array Value)(hS:Lk lo up w0 w)(hc:Calls prog f args w R)
 (h:∀e w',R e w'->aa w w'/\∃v,e= .returned v/\(Lk lo up w0 w'->wpAnyH prog .any ops Q (Lk lo up w0) fuel (listed.setIfInBounds i true) (aH n (aC l d v)) w'))
 (hi:ops[i]? =some oi:=by rfl)(hrun:(execOp (ev n l) oi).run prog w= .ok (.enter f args) w:=by kernel_rfl)(hw:jh n l ops oi=some true:=by rfl)(hd:oi.dst=some d:=by rfl)(hr:Region.ready .any ops listed=[i]:=by kernel_rfl):
 wpAnyH prog .any ops Q (Lk lo up w0) (fuel+1) listed (aH n l) w:=by
 refine Ll i (λ K hK=> ?_) hi hr;rw[if_pos (rq hw)]
 unfold Oper.wp;rw[aO,hrun]
 refine Calls.mono hc λ e w' hR=> ?_;obtain⟨a,v,rfl,b⟩:=h e w' hR;rw[hd]
 simp only[bX]
 exact hK.out _ _ (hS.kept a) b
end
theorem Sg(h:V.size=7):∃a x1 x2 x3 x4 x5 x6,V=#[a,x1,x2,x3,x4,x5,x6]:=by
 obtain⟨l⟩:=V;match l,h with
 |[a,x1,x2,x3,x4,x5,x6],_=>exact⟨a,x1,x2,x3,x4,x5,x6,rfl⟩
theorem eG{l:Fm}(h:bA n l x=some v):ev n l x=v:=by
 unfold ev;rw[h]
 rfl
theorem IA{l:Fm}{d e:Nat}{u:Value}(h:d≠e):aC (aC l d u) e v=aC (aC l e v) d u:=by
 funext i;unfold aC;by_cases h1:i=e
 ·subst h1;simp[oM (Ne.symm h)]
 ·rw[oM h1]
  rfl
section
variable{n:Nat}{l:Fm}{ops:Array Oper}{rest:List Oper}{Q:Exit->Act->World->Prop}{oi oj:Oper}{fuel:Nat}{listed:Array Bool}{w w0:World}{d e lo up:Nat}
theorem eO{b:Bool}(h:wpList prog ops Q ({oi with guard:=none}::rest) (aH n l) w)(c:oi.guard=some (j,b):=by rfl)(a:(ops[j]?).bind (·.dst)=some p:=by rfl)(hp:bA n l (.tmp p)=some (.bool b):=by rfl):
 wpList prog ops Q (oi::rest) (aH n l) w:=by
 unfold wpList at h⊢;rw[if_pos (by unfold Region.wanted;rw[c];simp[E9 a hp])]
 rw[if_pos (by rfl)] at h;exact h
theorem EX{b c:Bool}(h:wpList prog ops Q rest (aH n (aC l d undef)) w)(f:oi.guard=some (j,b):=by rfl)(e:(ops[j]?).bind (·.dst)=some p:=by rfl)(hp:bA n l (.tmp p)=some (.bool c):=by rfl)(hd:oi.dst=some d:=by rfl)(a:(some c==some b)=false:=by rfl):
 wpList prog ops Q (oi::rest) (aH n l) w:=by
 refine wpList_skip ?_ (by rw[hd,bX];exact h)
 unfold Region.wanted;rw[f]
 simp only[E9 e hp]
 exact a
theorem z25(c:dY 27 Y)(h:∀W g,g=w.heap.size->aa w W->aD W g Y 27->W.heap.size=g+1->wpList prog ops Q rest (aH n (aC l d (.slice (some ⟨g,0,none⟩) 1 1))) W)
 (a:oi.op= .buildSlice 25 1 #[(0,x)]:=by rfl)(hx:bA n l x=some (.agg Y):=by rfl)(b:oi.guard=none:=by rfl)(hd:oi.dst=some d:=by rfl):wpList prog ops Q (oi::rest) (aH n l) w:=by
 obtain⟨o,m,k,j,i,f,e,rfl⟩:=Sg c.sL;refine zv _ ?_ b hd (h _ _ rfl ((aa.refl w).alloc _) (aD.new w _ 27) (Array.size_push ..))
 rw[aO]
 unfold execOp;rw[a]
 simp only[List.map_toArray,List.map_cons,List.map_nil,eG hx]
 kernel_rfl
theorem gB(h:Q .normal (aH n l) w)(hr:Region.ready .any ops listed=[]:=by kernel_rfl):wpAnyH prog .any ops Q S fuel listed (aH n l) w:=by
 cases fuel<;>exact wpAnyH_done hr h _
end
def oN(l:Fm):List (Nat×Value)->Prop
 |[]=>True
 |(d,v)::L=>l d=some v/\oN l L
def look(l:Fm):List (Nat×Value)->Fm
 |[]=>l
 |(d,v)::L=>aC (look l L) d v
theorem jA{l:Fm}:∀{L:List (Nat×Value)},oN l L->look l L=l
 |[],_=>rfl
 |(d,v)::L,h=>by rw[look,jA h.2,V4 h.1]
theorem V6(m:Nat)(L:Nat->List (Nat×Value))(I:Nat->World->Prop)
 (h:∀(l:Fm)(w:World)(k:Nat),k<=m->I k w->c.wp prog (Exit.then (λ a w=>∃b,a=aH n b/\k+1<=m/\oN b (L (k+1))/\I (k+1) w) Q) (aH n (look l (L k))) w):
 ∀(r k:Nat)(l:Fm)(w:World),k<=m->m-k=r->oN l (L k)->I k w->Wn prog c Q (r+1) (aH n l) w
 |r,k,l,w,j,hr,hs,o=>by
  have f:=h l w k j o;rw[jA hs] at f;refine Code.wp_mono ?_ f;intro e a' w' q;cases e<;>first
   |exact q
   |(obtain⟨b,rfl,i,g,d⟩:=q
     cases r with
     |zero=>omega
     |succ r=>exact V6 m L I h r (k+1) b w' i (by omega) g d)
theorem mi{l:Fm}(m:Nat)(L:Nat->List (Nat×Value))(I:Nat->World->Prop)(d:oN l (L 0))(e:I 0 w)
 (h:∀(l:Fm)(w:World)(k:Nat),k<=m->I k w->c.wp prog (Exit.then (λ a w=>∃b,a=aH n b/\k+1<=m/\oN b (L (k+1))/\I (k+1) w) Q) (aH n (look l (L k))) w):
 (Code.loop c).wp prog Q (aH n l) w:=UJ _ (V6 m L I h m 0 l w (eo _) rfl d e)
theorem cu{k:Nat}(h:k<4611686018427387904):(do eqGuard .add xt x y (.int .i64 (k:Int)) (.int .i64 1);binOp .add xt (.int .i64 (k:Int)) (.int .i64 1):Sem Value).run prog w= .ok (.int .i64 ((k+1:Nat):Int)) w:=by
 go_simp;rw[IntKind.wrap_i64]
 omega
section
variable{n:Nat}{l:Fm}{ops:Array Oper}{rest:List Oper}{Q:Exit->Act->World->Prop}{oi oj:Oper}{fuel:Nat}{listed:Array Bool}{w w0:World}{d e lo up:Nat}
theorem yi(i s j:Nat)(g:j<m)(hS:S w)(h:wpAnyH prog .any ops Q S fuel (listed.setIfInBounds i true) (aH n (aC l d (.pointer (some ⟨b,off+j*s,none⟩)))) w)
 (hi:ops[i]? =some oi:=by rfl)(f:oi.op= .indexAddr ty (.tmp p) x:=by rfl)(hx:bA n l (.tmp p)=some (.slice (some ⟨b,off,none⟩) m cap):=by rfl)(o:bA n l x=some (.int k (j:Int)):=by rfl)(q:oi.guard=none:=by rfl)(hd:oi.dst=some d:=by rfl)
 (a:prog.underlying ty=some (.slice (prog.elem ty)):=by kernel_rfl)(e:(prog.info? (prog.elem ty)).map (·.size)=some s:=by kernel_rfl)
 (hs:Region.noSelect ops=true:=by kernel_rfl)(hf:Region.free .any ops listed i=true:=by kernel_rfl)(hr:(Region.ready .any ops listed).contains i=true:=by kernel_rfl)
 (hQ:∀c b w x,Q (.panic c) (b.put oi.dst x) w->Q (.panic c) b w:=by exact λ _ _ _ _ h=>h):wpAnyH prog .any ops Q S (fuel+1) listed (aH n l) w:=
 tki i s j g (bK hx) hS (by rw[jz];exact h) hi f (aE o) q hd a e hs hf hr hQ
theorem aeK(b:dY 27 Y)(a:oi.op= .buildSlice 25 1 #[(0,x)])(hx:bA n l x=some (.agg Y)):
 (execOp (ev n l) oi).run prog w= .ok (.value (.slice (some ⟨w.heap.size,0,none⟩) 1 1)) (w.alloc (.cells Y 27)):=by
 obtain⟨i,h,g,f,e,d,c,rfl⟩:=Sg b.sL;unfold execOp;rw[a]
 simp only[List.map_toArray,List.map_cons,List.map_nil,eG hx]
 kernel_rfl
theorem BR{Z:Array Value}(d:dY 27 Y)(c:dY 27 Z)(b:oi.op= .buildSlice 25 2 #[(0,x),(1,y)])(hx:bA n l x=some (.agg Y))(a:bA n l y=some (.agg Z)):
 (execOp (ev n l) oi).run prog w= .ok (.value (.slice (some ⟨w.heap.size,0,none⟩) 2 2)) (w.alloc (.cells (Y++Z) 27)):=by
 obtain⟨r,q,p,o,m,k,j,rfl⟩:=Sg d.sL;obtain⟨i,z1,z2,h,g,f,e,rfl⟩:=Sg c.sL;unfold execOp;rw[b]
 simp only[List.map_toArray,List.map_cons,List.map_nil,eG hx,eG a]
 kernel_rfl
theorem ybs(i:Nat)(m:Nat)(A:Array Value)(t:TypeId)(hS:Lk lo up w0 w)(hrun:(execOp (ev n l) oi).run prog w= .ok (.value (.slice (some ⟨w.heap.size,0,none⟩) m m)) (w.alloc (.cells A t)))
 (h:∀W g,g=w.heap.size->aa w W->aD W g A t->W.heap.size=g+1->Lk lo up w0 W->wpAnyH prog .any ops Q (Lk lo up w0) fuel (listed.setIfInBounds i true) (aH n (aC l d (.slice (some ⟨g,0,none⟩) m m))) W)
 (hi:ops[i]? =some oi:=by rfl)(b:oi.guard=none:=by rfl)(hd:oi.dst=some d:=by rfl)(hr:Region.ready .any ops listed=[i]:=by kernel_rfl):
 wpAnyH prog .any ops Q (Lk lo up w0) (fuel+1) listed (aH n l) w:=by
 refine Ll i (λ K hK=> ?_) hi hr;rw[if_pos (by simp[Region.wanted,b])]
 unfold Oper.wp;rw[aO,hrun]
 simp only[Oper.upon,hd,bX]
 have a:aa w (w.alloc (.cells A t)):=(aa.refl w).alloc _;exact hK.out _ _ (hS.kept a) (h _ _ rfl a (aD.new w A t) (Array.size_push ..))
theorem ya2(i j:Nat)(A:Array Value)(t:TypeId)(hS:Lk lo up w0 w)
 (h:∀W g g',g≠g'->w.heap.size<=g->w.heap.size<=g'->aa w W->aD W g A t->aD W g' A t->Lk lo up w0 W->wpAnyH prog .any ops Q (Lk lo up w0) fuel ((listed.setIfInBounds i true).setIfInBounds j true) (aH n (aC (aC l d (.pointer (some ⟨g,0,none⟩))) e (.pointer (some ⟨g',0,none⟩)))) W)
 (hi:ops[i]? =some oi:=by rfl)(m:ops[j]? =some oj:=by rfl)
 (ha:∀W a,(execOp (aH n a).eval oi).run prog W= .ok (.value (.pointer (some ⟨W.heap.size,0,none⟩))) (W.alloc (.cells A t)):=by intro W a;kernel_rfl)(hb:∀W a,(execOp (aH n a).eval oj).run prog W= .ok (.value (.pointer (some ⟨W.heap.size,0,none⟩))) (W.alloc (.cells A t)):=by intro W a;kernel_rfl)
 (p:oi.guard=none:=by rfl)(hd:oi.dst=some d:=by rfl)(o:oj.guard=none:=by rfl)(he:oj.dst=some e:=by rfl)(f:d≠e:=by decide)(s:i≠j:=by decide)
 (hr:Region.ready .any ops listed=[i,j]:=by kernel_rfl)(r:Region.ready .any ops (listed.setIfInBounds i true)=[j]:=by kernel_rfl)(q:Region.ready .any ops (listed.setIfInBounds j true)=[i]:=by kernel_rfl):
 wpAnyH prog .any ops Q (Lk lo up w0) (fuel+1+1) listed (aH n l) w:=by
 have b:aa w (w.alloc (.cells A t)):=(aa.refl w).alloc _;have v:(w.alloc (.cells A t)).heap.size=w.heap.size+1:=Array.size_push ..;refine rd2 i j (λ K hK=> ?_) (λ K hK=> ?_) hi m hr
 ·rw[if_pos (by simp[Region.wanted,p])]
  unfold Oper.wp;rw[ha]
  simp only[Oper.upon,hd,bX]
  refine hK.out _ _ (hS.kept b) λ c=>ya j A t c (λ W g h1 h2 h3 u k=> ?_) m (hb _ _) o he r;exact h W w.heap.size g (by omega) (aU _) (by omega) (b.trans h2) ((aD.new w A t).kept h2) h3 k
 ·rw[if_pos (by simp[Region.wanted,o])]
  unfold Oper.wp;rw[hb]
  simp only[Oper.upon,he,bX]
  refine hK.out _ _ (hS.kept b) λ c=>ya i A t c (λ W g h1 h2 h3 u k=> ?_) hi (ha _ _) p hd q;have:=h W g w.heap.size (by omega) (by omega) (aU _) (b.trans h2) h3 ((aD.new w A t).kept h2) k;rw[IA f,Array.setIfInBounds_comm _ _ s] at this;exact this
end
def Ws(w:World)(a:Option Addr)(n:Nat)(zs:Nat->Nat):Prop:=
 ∀i,i<n->∃b off,a=some ⟨b,off,none⟩/\w.cell? ⟨b,off+i,none⟩=some (.int .u32 (zs i:Nat))
theorem Ws.kept{a:Option Addr}{zs:Nat->Nat}(h:Ws w a n zs)(k:aa w w'):Ws w' a n zs:=λ i hi=>by
 obtain⟨b,off,e,hc⟩:=h i hi;exact⟨b,off,e,k.cell hc⟩
theorem Ws.open{a:Option Addr}{zs:Nat->Nat}(h:Ws w a n zs):n=0∨0<n/\∃b off,a=some ⟨b,off,none⟩/\∀i,i<n->w.cell? ⟨b,off+i,none⟩=some (.int .u32 (zs i:Nat)):=by
 by_cases c:n=0
 ·exact .inl c
 ·obtain⟨b,off,rfl,_⟩:=h 0 (by omega)
  refine .inr ⟨by omega,b,off,rfl,λ i hi=> ?_⟩
  obtain⟨b',d,e,hc⟩:=h i hi;cases e
  exact hc
def Nt(B:Nat)(w:World)(v:Value)(m:Nat):Prop:=
 ∃(a:Option Addr)(n cap:Nat)(zs:Nat->Nat),v= .slice a n cap/\n<=cap/\(∀i,i<n->zs i<B)/\tQ zs n/\ak B zs n=m/\Ws w a n zs
theorem Nt.kept{B:Nat}(h:Nt B w v m)(k:aa w w'):Nt B w' v m:=by
 obtain⟨a,n,cap,zs,h1,h2,h3,d,c,b⟩:=h;exact⟨a,n,cap,zs,h1,h2,h3,d,c,b.kept k⟩
theorem oJ{a b:Int}(h:a=b):Ending.returned (.int k a)= .returned (.int k b):=by rw[h]
theorem xH{a b:Bool}(h:a=b):Ending.returned (.bool a)= .returned (.bool b):=by rw[h]
theorem cmp_eq(w:World)(b off cap b' h l n:Nat)(xs ys:Nat->Nat)(hn:n<=4611686018427387904)
 (hx:∀i,i<n->w.cell? ⟨b,off+i,none⟩=some (.int .u32 (xs i:Nat)))
 (f:∀i,i<n->w.cell? ⟨b',h+i,none⟩=some (.int .u32 (ys i:Nat))):
 Calls prog 320 #[.slice (some ⟨b,off,none⟩) n cap,.slice (some ⟨b',h,none⟩) n l] w λ e w'=>e= .returned (.int .i64 (fP xs ys n))/\aa w w':=by
 go_enter func320,ntmps320;go_wp2;go_loopw [5] (λ i wr=>∃k:Nat,k<=n/\i= .int .i64 ((k:Int)-1)/\fP xs ys k=fP xs ys n/\aa w wr) (λ i _=>(intOf i+1).toNat)
 case atStart=>exact⟨n,aU _,rfl,rfl,aa.refl _⟩
 case round=>
  obtain⟨k,m,rfl,j,a⟩:=hrel;have d:=Lib.hid j;clear j;cases k with
  |zero=>
   go_wp2;go_ret;exact⟨by rw[<-d.out];rfl,a⟩
  |succ k=>
   have h1:=a.cell (hx k (by omega))
   have h2:=a.cell (f k (by omega))
   have p:=Lib.hid hx;clear hx;have o:=Lib.hid f;clear f;by_cases g:xs k<ys k
   ·go_wp2;go_quiet (fail)
    go_wp2;go_ret;exact⟨by rw[<-d.out];simp[fP,g],a.drewN _⟩
   ·by_cases c:ys k<xs k
    ·go_wp2;go_quiet (fail)
     go_wp2;go_quiet (fail)
     go_wp2;go_ret;exact⟨by rw[<-d.out];simp[fP,g,c],by first|exact(a.drewN _).drewN _|exact a.drewN _⟩
    ·go_wp2;go_quiet (fail)
     go_wp2;go_quiet (fail)
     go_wp2;go_roundw
     case rel=>exact⟨k,by omega,by go_num,by rw[<-d.out];simp[fP,g,c],by first|exact(a.drewN _).drewN _|exact a.drewN _⟩
     case measure=>simp[intOf]
theorem Vk(w:World)(a a':Option Addr)(cap b:Nat):
 Calls prog 320 #[.slice a 0 cap,.slice a' 0 b] w λ e w'=>e= .returned (.int .i64 0)/\w=w':=by
 go_enter func320,ntmps320;go_wp2;go_loop [5] (λ i=>i= .int .i64 (-1)) (λ _=>0)
 case atStart=>rfl
 case round=>
  subst hrel;go_wp2;go_ret;exact⟨rfl,rfl⟩
theorem Vl(w:World)(a a':Option Addr)(n b cap c:Nat)(h:n<b∨b<n):
 Calls prog 320 #[.slice a n cap,.slice a' b c] w λ e w'=>e= .returned (.int .i64 (if n<b then -1 else 1))/\w=w':=by
 by_cases h1:n<b
 ·have h2:n≠b:=by omega
  go_enter func320,ntmps320;go_wp2;go_ret;simp
 ·have h2:n≠b:=by omega
  go_enter func320,ntmps320;go_wp2;go_ret;simp
theorem uE{B:Nat}(g:Bs B){u:Value}{k:Nat}(hv:Nt B w v m)(l:Nt B w u k)(hm:m<eV):
 Calls prog 320 #[v,u] w λ e w'=>e= .returned (.int .i64 (bN m k))/\aa w w':=by
 obtain⟨a,n,cap,xs,rfl,hc,hd,hn,rfl,hw⟩:=hv;obtain⟨a',c,f,ys,rfl,q,h,o,rfl,hw'⟩:=l;have p:=cV g hn hm;by_cases h1:n<c
 ·refine(Vl w a a' n c cap f (.inl h1)).mono λ e w' ⟨he,d⟩=> ?_;have:=lH g.pos hd o h1;subst d;exact⟨by rw[he,if_pos h1,bN,if_pos this],aa.refl _⟩
 ·by_cases h2:c<n
  ·refine(Vl w a a' n c cap f (.inr h2)).mono λ e w' ⟨he,d⟩=> ?_;have:=lH g.pos h hn h2;subst d;exact⟨by rw[he,if_neg h1,bN,if_neg (by omega),if_pos this],aa.refl _⟩
  ·obtain rfl:n=c:=by omega
   rw[<-sr hd h]
   rcases hw.open with rfl|⟨r,b,off,rfl,hx⟩
   ·refine(Vk w a a' cap f).mono λ e w' ⟨he,d⟩=> ?_;subst d;exact⟨he,aa.refl _⟩
   ·rcases hw'.open with rfl|⟨_,b',i,rfl,j⟩
    ·omega
    ·exact cmp_eq w b off cap b' i f n xs ys (by omega) hx j
end Go.Proofs.YtbapfnpbamnmpaaGreatDoor
