/- A part of the proof that SearchCandidates answers true for every input of bulk at most 1048576: conditions: the row's own. -/
import Derived.Test.YtancebninmoipaaGreatDoorP16
namespace Go.Proofs.YtancebninmoipaaGreatDoor
section
open Go Go.RowKit Go.Dig
open Go.Eng (Kept KW KeptB)
set_option maxHeartbeats 4000000
set_option maxRecDepth 100000
def rowsRef:List (List PtD)→List (List PtD)→Bool
 |[],[]=>true
 |p::l,q::m=>ptsRef p q&&rowsRef l m
 |_,_=>false
theorem rowsRef_len:∀{l m:List (List PtD)},l.length≠m.length→rowsRef l m=false
 |[],[],h=>absurd rfl h
 |[],_::_,_=>rfl
 |_::_,[],_=>rfl
 |p::l,q::m,h=>by
  rw[rowsRef,rowsRef_len (by simpa using h),Bool.and_false]
theorem rowsRef_drop{l m:List (List PtD)}{k:Nat}(h:k<l.length)(h':k<m.length):rowsRef (l.drop k) (m.drop k)=(ptsRef l[k] m[k]&&rowsRef (l.drop (k+1)) (m.drop (k+1))):=by
 rw[List.drop_eq_getElem_cons h,List.drop_eq_getElem_cons h',rowsRef]
theorem samePoints_calls{w:World}{a:Option Addr}{n cap:Nat}{l:List (List PtD)}{a':Option Addr}{n' cap':Nat}{m:List (List PtD)}(h:Ptl w a n cap l)(h':Ptl w a' n' cap' m)(ho:∀i(hi:i<l.length),ptsNum l[i]∧l[i].length≤1000000)(ho':∀i(hi:i<m.length),ptsNum m[i])(hl:l.length≤1000000):
 Calls Tryz.prog 6 #[.slice a n cap,.slice a' n' cap'] w fun e w'=>e= .returned (.bool (rowsRef l m))∧Kept w w':=by
 obtain rfl:n=l.length:=h.1
 obtain rfl:n'=m.length:=h'.1
 have HR:=h.2.2
 have HR':=h'.2.2
 clear h h'
 refine entL [_,_] 27 Tryz.func6 rfl Tryz.ntmps6 (by simp) ?_
 iterate 3 go_step
 refine zr (.bool false) ?_
 iterate 6 go_step
 refine zr (.slice a l.length cap) ?_
 refine zr (.int .i64 l.length) ?_
 refine zr (.slice a' m.length cap') ?_
 refine zr (.int .i64 m.length) ?_
 refine zr (.bool ((l.length:Int) !=(m.length:Int))) ?_
 iterate 3 go_step
 cases hne:((l.length:Int) !=(m.length:Int))
 case' true=>
  refine zt_true ?_
  iterate 2 go_step
  refine zr (.bool false) ?_
  iterate 6 go_step
  exact zretT ⟨by rw[rowsRef_len (fun e=>by rw[e] at hne;simp at hne)],Kept.refl w⟩
 have hlen:l.length=m.length:=by simp at hne;omega
 refine zt_false ?_
 iterate 6 go_step
 refine zr (.int .i64 0) ?_
 iterate 4 go_step
 refine zloopG (σ:=Unit) l.length (fun k _=>[(0,.slice a l.length cap),(1,.slice a' m.length cap'),(5,.int .i64 k)])
  (fun k _ W=>Kept w W∧rowsRef l m=rowsRef (l.drop k) (m.drop k)) () ⟨rfl,rfl,rfl,trivial⟩ ⟨Kept.refl w,rfl⟩ fun fl wr k _ hk ⟨kr,hsame⟩=> ?_
 iterate 4 go_step
 refine zr (.int .i64 k) ?_
 refine zr (.slice a l.length cap) ?_
 refine zr (.int .i64 l.length) ?_
 refine z2 (.bool (decide ((k:Int)<(l.length:Int)))) ?_
 iterate 3 go_step
 cases hlt:decide ((k:Int)<(l.length:Int))
 case' true=>
  have hlt:k<l.length:=by have:=of_decide_eq_true hlt;omega
  have hlt':k<m.length:=by omega
  obtain⟨b,a1,n1,c1,rfl,hc,hp⟩:=HR k hlt
  obtain⟨b',a2,n2,c2,rfl,hc',hp'⟩:=HR' k hlt'
  rw[rowsRef_drop hlt hlt'] at hsame
  refine zt_true ?_
  iterate 6 go_step
  refine drawn 0 0 fun hS=> ?_
  refine yr 0 (.slice (some ⟨b,0,none⟩) l.length cap) hS ?_
  refine yr 1 (.int .i64 k) hS ?_
  refine yi 2 1 k hlt hS ?_
  refine yl1 3 (kr.cell hc) noLt hS ?_
  refine yr 4 (.slice (some ⟨b',0,none⟩) m.length cap') hS ?_
  refine yr 5 (.int .i64 k) hS ?_
  refine yi 6 1 k hlt' hS ?_
  refine yl1 7 (kr.cell hc') noLt hS ?_
  refine yc 8 20 _ hS (samePoint_calls (hp.kept kr.drew) (hp'.kept kr.drew) (ho k hlt).1 (ho' k hlt') (ho k hlt).2) fun e w2 ⟨he,k2⟩=>⟨k2,_,he,fun hS=> ?_⟩
  refine yr 9 (.bool !(ptsRef l[k] m[k])) hS ?_
  refine yend ?_
  iterate 2 go_step
  have K2:=kr.drew.trans k2
  cases hp:ptsRef l[k] m[k]
  ·refine zt_true ?_
   iterate 2 go_step
   refine zr (.bool false) ?_
   iterate 8 go_step
   exact zretT ⟨by rw[hsame,hp,Bool.false_and],K2⟩
  ·refine zt_false ?_
   iterate 4 go_step
   refine zr (.int .i64 k) ?_
   refine z2 (.int .i64 ((k+1:Nat):Int)) (hrun:=run_inc (by omega)) ?_
   refine zr (.int .i64 ((k+1:Nat):Int)) ?_
   iterate 3 go_step
   exact⟨_,(),rfl,hlt,⟨rfl,rfl,rfl,trivial⟩,K2,by rw[hsame,hp,Bool.true_and]⟩
 case' false=>
  obtain rfl:k=l.length:=by have:=of_decide_eq_false hlt;omega
  refine zt_false ?_
  iterate 7 go_step
  refine zr (.bool true) ?_
  iterate 5 go_step
  exact zretT ⟨by rw[hsame,List.drop_length,hlen,List.drop_length,rowsRef],kr⟩
end
section
open Go Go.RowKit Go.Dig
open Go.Eng (Kept KW KeptB)
set_option maxHeartbeats 4000000
set_option maxRecDepth 100000
def sameAny(ls:List (List PtD))(m:List PtD):Bool:=ls.any fun l=>ptsSame l m
theorem sameAny_drop{ls:List (List PtD)}{m:List PtD}{k:Nat}(h:k<ls.length):sameAny (ls.drop k) m=(ptsSame ls[k] m||sameAny (ls.drop (k+1)) m):=by
 rw[List.drop_eq_getElem_cons h];rfl
theorem cand1_calls{w:World}{a:Option Addr}{n cap:Nat}{l:List PtD}{g:Nat}{a':Option Addr}{n' cap':Nat}{m:List PtD}(h:Ptm w a n cap l)(hg:w.cell? ⟨g,0,none⟩=some (.slice a' n' cap'))(h':Ptm w a' n' cap' m)(hT:Laid w)(ho:ptsOk l)(ho':ptsOk m)(hl:l.length≤1000000):
 Calls Tryz.prog 12 #[.slice a n cap,.pointer (some ⟨g,0,none⟩)] w fun e w'=>e= .returned (.bool (ptsSame l m))∧Kept w w':=by
 have hc:=same_calls h h' hT ho ho' hl
 refine entL [_,_] 7 Tryz.func12 rfl Tryz.ntmps12 (by simp) ?_
 iterate 3 go_step
 refine zr (.bool false) ?_
 iterate 5 go_step
 refine zr (.slice a n cap) ?_
 refine zl1 hg ?_
 refine zc 13 _ hc ?_
 rintro e w1 ⟨rfl,k1⟩
 refine⟨_,rfl,?_⟩
 refine zr (.bool (ptsSame l m)) ?_
 iterate 5 go_step
 exact zretT ⟨rfl,k1⟩
theorem candix_calls{w:World}{a:Option Addr}{n cap:Nat}{ls:List (List PtD)}{g:Nat}{a':Option Addr}{n' cap':Nat}{m:List PtD}(h:Ptl w a n cap ls)(hg:w.cell? ⟨g,0,none⟩=some (.slice a' n' cap'))(h':Ptm w a' n' cap' m)(hT:Laid w)(ho:∀i(hi:i<ls.length),ptsOk ls[i]∧ls[i].length≤1000000)(ho':ptsOk m)(hl:ls.length≤1000000):
 Calls Tryz.prog 29 #[.slice a n cap,.func (.func 12) #[] #[.pointer (some ⟨g,0,none⟩)]] w fun e w'=>∃i:Int,e= .returned (.int .i64 i)∧decide (0≤i)=sameAny ls m∧Kept w w':=by
 obtain rfl:n=ls.length:=h.1
 have HR:=h.2.2
 clear h
 refine entL [_,_] 19 Tryz.func29 rfl Tryz.ntmps29 (by simp) ?_
 iterate 3 go_step
 refine zr (.int .i64 0) ?_
 iterate 6 go_step
 refine zr (.slice a ls.length cap) ?_
 refine zr (.int .i64 ls.length) ?_
 refine zr (.int .i64 0) ?_
 iterate 4 go_step
 refine zloopG (σ:=Unit) ls.length (fun k _=>[(0,.slice a ls.length cap),(1,.func (.func 12) #[] #[.pointer (some ⟨g,0,none⟩)]),(7,.int .i64 ls.length),(8,.int .i64 k)])
  (fun k _ W=>Kept w W∧sameAny ls m=sameAny (ls.drop k) m) () ⟨rfl,rfl,rfl,rfl,trivial⟩ ⟨Kept.refl w,rfl⟩ fun fl wr k _ hk ⟨kr,hsame⟩=> ?_
 iterate 3 go_step
 refine z2 (.bool (decide ((k:Int)<(ls.length:Int)))) ?_
 iterate 4 go_step
 cases hlt:decide ((k:Int)<(ls.length:Int))
 case' true=>
  have hlt:k<ls.length:=by have:=of_decide_eq_true hlt;omega
  obtain⟨b,a1,n1,c1,rfl,hc,hp⟩:=HR k hlt
  rw[sameAny_drop hlt] at hsame
  refine zt_true ?_
  iterate 7 go_step
  refine zr (.int .i64 k) ?_
  refine zr (.int .i64 k) ?_
  iterate 5 go_step
  refine zr (.func (.func 12) #[] #[.pointer (some ⟨g,0,none⟩)]) ?_
  refine zr (.slice (some ⟨b,0,none⟩) ls.length cap) ?_
  refine zr (.int .i64 k) ?_
  refine zi (s:=1) k hlt ?_
  refine zl1 (kr.cell hc) ?_
  refine zc 12 _ (cand1_calls (hp.kept kr) (kr.cell hg) (h'.kept kr) (hT.kept kr) (ho k hlt).1 ho' (ho k hlt).2) ?_
  rintro e w5 ⟨rfl,k5⟩
  refine⟨_,rfl,?_⟩
  iterate 3 go_step
  cases hq:ptsSame ls[k] m
  ·refine zt_false ?_
   iterate 4 go_step
   refine z2 (.int .i64 ((k+1:Nat):Int)) (hrun:=run_inc (by omega)) ?_
   refine zr (.int .i64 ((k+1:Nat):Int)) ?_
   iterate 3 go_step
   exact⟨_,(),rfl,hlt,⟨rfl,rfl,rfl,rfl,trivial⟩,kr.trans k5,by rw[hsame,hq,Bool.false_or]⟩
  ·refine zt_true ?_
   iterate 2 go_step
   refine zr (.int .i64 k) ?_
   refine zr (.int .i64 k) ?_
   iterate 8 go_step
   exact zretT ⟨(k:Int),rfl,by rw[hsame,hq,Bool.true_or];exact decide_eq_true (by omega),kr.trans k5⟩
 case' false=>
  obtain rfl:k=ls.length:=by have:=of_decide_eq_false hlt;omega
  refine zt_false ?_
  iterate 7 go_step
  refine zr (.int .i64 (-1)) ?_
  iterate 5 go_step
  exact zretT ⟨-1,rfl,by rw[hsame,List.drop_length];rfl,kr⟩
theorem candin_calls{w:World}{a:Option Addr}{n cap:Nat}{ls:List (List PtD)}{g:Nat}{a':Option Addr}{n' cap':Nat}{m:List PtD}(h:Ptl w a n cap ls)(hg:w.cell? ⟨g,0,none⟩=some (.slice a' n' cap'))(h':Ptm w a' n' cap' m)(hT:Laid w)(ho:∀i(hi:i<ls.length),ptsOk ls[i]∧ls[i].length≤1000000)(ho':ptsOk m)(hl:ls.length≤1000000):
 Calls Tryz.prog 11 #[.slice a n cap,.func (.func 12) #[] #[.pointer (some ⟨g,0,none⟩)]] w fun e w'=>e= .returned (.bool (sameAny ls m))∧Kept w w':=by
 have hc:=candix_calls h hg h' hT ho ho' hl
 refine entL [_,_] 9 Tryz.func11 rfl Tryz.ntmps11 (by simp) ?_
 iterate 3 go_step
 refine zr (.bool false) ?_
 iterate 5 go_step
 refine zr (.slice a n cap) ?_
 refine zr (.func (.func 12) #[] #[.pointer (some ⟨g,0,none⟩)]) ?_
 refine zc 29 _ hc ?_
 rintro e w1 ⟨i,rfl,hi,k1⟩
 refine⟨_,rfl,?_⟩
 refine z2 (.bool (decide (0≤i))) ?_
 refine zr (.bool (decide (0≤i))) ?_
 iterate 5 go_step
 exact zretT (v:=.bool (decide (0≤i))) ⟨by rw[hi],k1⟩
end
section
open Go Go.RowKit Go.Dig Go.Deep
open Go.Eng (Kept KW KeptB wp_region_kw kw_call)
def rpost(L:Nat)(r:LoopState→Option Code→Loop)(R Rx:World→Prop):Exit→Act→World→Prop
 | .normal,_,W3=>W3.heap[L]? =some (.loop (r .busy none))∧R (W3.putObj L (.loop (r .ready none)))
 | .ret,_,W3=>W3.heap[L]? =some (.loop (r .busy none))∧Rx (W3.putObj L (.loop (r .done (some .ret))))
 |_,_,_=>False
theorem zrfx{n:Nat}{l:Fm}{g:Operand}{ps:Array Tmp}{assign body:Code}{Q:Exit→Act→World→Prop}{w:World}{gf:Nat}{lb:Array Value}(hg:opv n l g=some (.func (.func gf) #[] lb))(eg:∀args w,(callFunc gf args).run Tryz.prog w= .ok (.enter gf args) w)
 (h:∀(fn:FuncId)(W:World)(D L:Nat)(r:LoopState→Option Code→Loop),D=w.heap.size→L=D+1→Kept w W→W.heap.size=D+2→W.heap[L]? =some (.loop (r .ready none))→W.heap[D]? =some (.deferred (some []))→
   (r=fun st pe=>{state:=st,pending:=pe,fn,tmps:=(frm n l).tmps,params:=ps,assign,body,defers:=D})→
   Calls Tryz.prog gf (#[.func (.yield L) #[] #[]]++lb) W fun e W'=>(∃v,e= .returned v)∧((W'.heap[L]? =some (.loop (r .ready none))∧
    Q .normal ⟨(frm n l).tmps,[{target:=.collected D,args:=#[]}]⟩ (W'.putObj L (.loop (r .exhausted none))))∨
    (W'.heap[L]? =some (.loop (r .done (some .ret)))∧Q .ret ⟨(frm n l).tmps,[{target:=.collected D,args:=#[]}]⟩ (W'.putObj L (.loop (r .exhausted (some .ret))))))):
 (Code.rangeFunc g ps assign body).wp Tryz.prog Q (frm n l) w:=by
 refine(wpIn_wide (n:=0)).1 (wpIn_rangeFunc ?_)
 intro fn _
 obtain⟨r,hr⟩:∃r:LoopState→Option Code→Loop,r=fun st pe=>{state:=st,pending:=pe,fn,tmps:=(frm n l).tmps,params:=ps,assign,body,defers:=w.heap.size}:=⟨_,rfl⟩
 obtain⟨W,hW⟩:∃W,(w.alloc (.deferred (some []))).alloc (.loop (r .ready none))=W:=⟨_,rfl⟩
 have hL:W.heap[w.heap.size+1]? =some (.loop (r .ready none)):=by
  rw[←hW];have:=World.alloc_heap_new (w.alloc (.deferred (some []))) (.loop (r .ready none));rwa [World.size_alloc] at this
 have hD:W.heap[w.heap.size]? =some (.deferred (some [])):=by
  rw[←hW];exact(Below.heap_alloc _ _ _ (by simp)).trans (World.alloc_heap_new w _)
 have hK:Kept w W:=by rw[←hW];exact((Kept.refl w).alloc _).alloc _
 have hS:W.heap.size=w.heap.size+2:=by rw[←hW];simp
 have hge:(frm n l).eval g= .func (.func gf) #[] lb:=opv_eval hg
 refine⟨w.heap.size+1,[{target:=.collected w.heap.size,args:=#[]}],W,{target:=.fn (.func gf) lb,args:=#[.func (.yield (w.heap.size+1)) #[] #[]]},W,gf,
  #[.func (.yield (w.heap.size+1)) #[] #[]]++lb,W,?_,?_,fun _ _=>trivial,?_,(fun h=>by cases h),?_⟩
 ·rw[←hW,hr];exact run_enterLoop_outer _ _ _ _ _
 ·simp only[resolve,hge]
  simp[go_sem]
 ·simp[invoke,go_sem,eg]
 ·refine callsIn_wide.2 ((h fn W w.heap.size _ r rfl rfl hK hS hL hD hr).mono ?_)
  rintro e W' ⟨⟨v,rfl⟩,⟨hl,hq⟩|⟨hl,hq⟩⟩
  ·exact⟨none,_,by have:=run_endLoop (P:=Tryz.prog) hl (by rw[hr];simp);rw[hr] at this;rw[hr];exact this,hq⟩
  ·exact⟨some .ret,_,by have:=run_endLoop (P:=Tryz.prog) hl (by rw[hr];simp);rw[hr] at this;rw[hr];exact this,wpIn_ret hq⟩
theorem zroundx{L n m:Nat}{fn:FuncId}{r:LoopState→Option Code→Loop}{l:Fm}{ps:Array Tmp}{assign body:Code}{D:Nat}{W:World}{R Rx:World→Prop}{args:Array Value}{l':Fm}(hl:W.heap[L]? =some (.loop (r .ready none)))
 (hr:r=fun st pe=>{state:=st,pending:=pe,fn,tmps:=(frm n l).tmps,params:=ps,assign,body,defers:=D})(hs:args.size=ps.size)
 (ht:(ps.zip args).foldl (fun tmps(t,a)=>tmps.setIfInBounds t a) (frm n l).tmps=(frm n l').tmps)
 (h:assign.wpIn (Fence.wide.inRound L) m Tryz.prog (Exit.then (fun a W1=>W1.heap[L]? =some (.loop (r .ready none))∧body.wpIn (Fence.wide.inRound L) m Tryz.prog (rpost L r R Rx) a (W1.putObj L (.loop (r .busy none)))) fun _ _ _=>False) (frm n l') W):
 YieldAt Fence.wide m Tryz.prog L args W fun e W'=>(e= .returned (.bool true)∧R W')∨(e= .returned (.bool false)∧Rx W'):=by
 have hy:=run_yield (P:=Tryz.prog) (args:=args) hl (by rw[hr];exact hs)
 rw[hr] at hy
 dsimp only at hy
 rw[ht] at hy
 refine⟨fn,_,assign,body,hy,roundIn_of_wpIn trivial ?_⟩
 refine wpIn_mono h fun e a W1 q=> ?_
 cases e with
 |normal=>
  obtain⟨hl1,hb⟩:=q
  refine⟨_,by have:=run_beginRound (P:=Tryz.prog) hl1 (by rw[hr]);exact this,?_⟩
  have e1:({r .ready none with state:=.busy}:Loop)=r .busy none:=by rw[hr]
  rw[e1]
  refine wpIn_mono hb fun e a W3 q=> ?_
  cases e with
  |normal=>
   obtain⟨hl3,hR⟩:=q
   refine⟨.bool true,W3.putObj L (.loop (r .ready none)),?_,.inl ⟨rfl,hR⟩⟩
   have:=run_endRound (P:=Tryz.prog) none hl3
   rw[this,hr]
   rfl
  |ret=>
   obtain⟨hl3,hR⟩:=q
   refine⟨.bool false,W3.putObj L (.loop (r .done (some .ret))),?_,.inr ⟨rfl,hR⟩⟩
   have:=run_endRound (P:=Tryz.prog) (some .ret) hl3
   rw[this,hr]
   rfl
  |_=>exact q.elim
 |_=>exact q
theorem zroundx2{L n m:Nat}{fn:FuncId}{r:LoopState→Option Code→Loop}{l:Fm}{p1 p2:Tmp}{v1 v2:Value}{assign body:Code}{D:Nat}{W:World}{R Rx:World→Prop}(hl:W.heap[L]? =some (.loop (r .ready none)))
 (hr:r=fun st pe=>{state:=st,pending:=pe,fn,tmps:=(frm n l).tmps,params:=#[p1,p2],assign,body,defers:=D})
 (h:assign.wpIn (Fence.wide.inRound L) m Tryz.prog (Exit.then (fun a W1=>W1.heap[L]? =some (.loop (r .ready none))∧body.wpIn (Fence.wide.inRound L) m Tryz.prog (rpost L r R Rx) a (W1.putObj L (.loop (r .busy none)))) fun _ _ _=>False) (frm n (upd (upd l p1 v1) p2 v2)) W):
 YieldAt Fence.wide m Tryz.prog L #[v1,v2] W fun e W'=>(e= .returned (.bool true)∧R W')∨(e= .returned (.bool false)∧Rx W'):=zroundx hl hr rfl (by rw[←tmps_set,←tmps_set];simp) h
theorem cell_loadVar{w:World}{ty b o:Nat}{x:Value}(hc:w.cell? ⟨b,o,none⟩=some x)(hu:(Tryz.prog.underlying ty).map TypeDesc.isRow=some false):(loadVar ty ⟨b,o,none⟩).run Tryz.prog w= .ok x w:=by
 obtain⟨d,hd,hdr⟩:=Option.map_eq_some_iff.1 hu
 have hagg:(isAgg ty).run Tryz.prog w= .ok false w:=by
  unfold isAgg
  rw[Sem.run_bind,run_underlying hd w]
  cases d<;>first|rfl|cases hdr
 simp[loadVar,Sem.run_bind,hagg,hc]
theorem resc2{fn:Func}{n:Nat}{l:Fm}{t u:Tmp}{ty tz g1 g2:Nat}{v x:Value}{w:World}(h:fn.results=#[.cell t ty,.cell u tz])(h1:opv n l (.tmp t)=some (.pointer (some ⟨g1,0,none⟩)))(h2:opv n l (.tmp u)=some (.pointer (some ⟨g2,0,none⟩)))
 (c1:w.cell? ⟨g1,0,none⟩=some v)(c2:w.cell? ⟨g2,0,none⟩=some x)(u1:(Tryz.prog.underlying ty).map TypeDesc.isRow=some false:=by kernel_rfl)(u2:(Tryz.prog.underlying tz).map TypeDesc.isRow=some false:=by kernel_rfl):(results fn (frm n l).tmps).run Tryz.prog w= .ok (.tuple #[v,x]) w:=by
 have e1:=tmp_get h1
 have e2:=tmp_get h2
 simp only[Array.getD_eq_getD_getElem?] at e1 e2
 simp[results,h,e1,e2,asAddr,cell_loadVar c1 u1,cell_loadVar c2 u2]
theorem zdt1{n:Nat}{l:Fm}{ops:Array Oper}{rest:List Oper}{Q:Exit→Act→World→Prop}{oi:Oper}{w:World}{ds:List Deferred}{p:Tmp}{y:Operand}{ty g i:Nat}{t:TypeId}{Y:Array Value}{x:Value}(hb:Blk w g Y t)(hi:i<Y.size)(hx1:x.oneCell'=true)(h:∀w',KeptB w w' g→Blk w' g (Y.setIfInBounds i x) t→wpList Tryz.prog ops Q rest ⟨(frm n l).tmps,ds⟩ w')
 (hg:oi.guard=none:=by rfl)(hd:oi.dst=none:=by rfl)(hop:oi.op= .store ty (.tmp p) y:=by rfl)(hx:opv n l (.tmp p)=some (.pointer (some ⟨g,i,none⟩)):=by rfl)(hq:opv n l y=some x:=by rfl)
 (hu:(Tryz.prog.info? ty).map (·.size)=some 1:=by kernel_rfl):wpList Tryz.prog ops Q (oi::rest) ⟨(frm n l).tmps,ds⟩ w:=
 wpList_plain hg fun K hK=>by
  have hst1:(storeVar ty ⟨g,i,none⟩ x).run Tryz.prog w= .ok () (w.setCell ⟨g,i,none⟩ x):=by
   have hcl:=hb.cell i (v:=Y[i]) (by simp[hi])
   have hrs:=run_store Tryz.prog w ⟨g,i,none⟩ x .plain hx1
   rw[hcl] at hrs
   simp only[hb.frozen i] at hrs
   cases hq2:Tryz.prog.info? ty with
   |none=>simp[hq2] at hu
   |some q=>
    have hs1:q.size=1:=by simpa [hq2] using hu
    cases x<;>first
     |(simp[Value.oneCell'] at hx1;done)
     |(simp[storeVar,sizeOf,typeInfo,hq2,hs1,Value.cells,storeCells,Addr.add_mid,hrs];done)
  unfold Oper.wp execOp
  rw[eval_ds]
  simp only[hop,opv_eval hx,opv_eval hq,Instr.storeAt,Instr.sureAddr,Sem.run_bind,Sem.run_pure,Result.andThen_ok,hst1]
  show K ((⟨(frm n l).tmps,ds⟩:Act).put oi.dst undef) _
  rw[hd]
  exact hK _ _ (h _ ((KeptB.refl w g).setCell rfl x) (hb.set i x))
theorem zt1x{n:Nat}{l:Fm}{ops:Array Oper}{rest:List Oper}{Q:Exit→Act→World→Prop}{oi:Oper}{w:World}{p:Tmp}{y:Operand}{ty g i:Nat}{t:TypeId}{Y:Array Value}{x:Value}(hb:Blk w g Y t)(hi:i<Y.size)(hx1:x.oneCell'=true)(h:∀w',KeptB w w' g→Blk w' g (Y.setIfInBounds i x) t→wpList Tryz.prog ops Q rest (frm n l) w')
 (hg:oi.guard=none:=by rfl)(hd:oi.dst=none:=by rfl)(hop:oi.op= .store ty (.tmp p) y:=by rfl)(hx:opv n l (.tmp p)=some (.pointer (some ⟨g,i,none⟩)):=by rfl)(hq:opv n l y=some x:=by rfl)
 (hu:(Tryz.prog.info? ty).map (·.size)=some 1:=by kernel_rfl):wpList Tryz.prog ops Q (oi::rest) (frm n l) w:=
 wpList_plain hg fun K hK=>by
  have hst1:(storeVar ty ⟨g,i,none⟩ x).run Tryz.prog w= .ok () (w.setCell ⟨g,i,none⟩ x):=by
   have hcl:=hb.cell i (v:=Y[i]) (by simp[hi])
   have hrs:=run_store Tryz.prog w ⟨g,i,none⟩ x .plain hx1
   rw[hcl] at hrs
   simp only[hb.frozen i] at hrs
   cases hq2:Tryz.prog.info? ty with
   |none=>simp[hq2] at hu
   |some q=>
    have hs1:q.size=1:=by simpa [hq2] using hu
    cases x<;>first
     |(simp[Value.oneCell'] at hx1;done)
     |(simp[storeVar,sizeOf,typeInfo,hq2,hs1,Value.cells,storeCells,Addr.add_mid,hrs];done)
  unfold Oper.wp execOp
  simp only[hop,opv_eval hx,opv_eval hq,Instr.storeAt,Instr.sureAddr,Sem.run_bind,Sem.run_pure,Result.andThen_ok,hst1]
  show K ((frm n l).put oi.dst undef) _
  rw[hd]
  exact hK _ _ (h _ ((KeptB.refl w g).setCell rfl x) (hb.set i x))
theorem zgrowB{n:Nat}{l:Fm}{ops:Array Oper}{rest:List Oper}{Q:Exit→Act→World→Prop}{w:World}{α:Type}{W0:World}{g3 t sz by_ k cap3:Nat}{z:Value}{st tv:TypeId}{R:World→List Value→α→Prop}{ts:List α}{a3:Option Addr}{cs:List Value}{V Y:Array Value}{T:Nat→Bool}{ob oa:Oper}{db da s:Tmp}
 (hi0:InfoIs t z sz by_)(hz:z.cells.size=sz)(hsz:0<sz)(hby:by_≤1024)(hst:Tryz.prog.underlying st=some (.slice t))
 (G:Grow W0 w g3 t sz (.slice a3 k cap3) k cs R ts)(hR:∀w w',Sub w w'→∀l t,R w l t→R w' l t)(b3:Blk w g3 Y tv)(hg3:g3<W0.heap.size)(oV:V.all (·.oneCell')=true)(hV:V.size=sz)(hk:k<ts.length)(hkb:k+1≤1099511627)
 (hr:R (onlyW w T) V.toList ts[k])(hT:∀b,T b=true→W0.heap.size≤b∧some b≠(Value.slice a3 k cap3).ownBlock)
 (hbs:(execOp (ev n l) ob).run Tryz.prog w= .ok (.value (.slice (some ⟨w.heap.size,0,none⟩) 1 1)) (w.alloc (.cells V t)))
 (h:∀w' a' cap',Grow W0 w' g3 t sz (.slice a' (k+1) cap') (k+1) (cs++V.toList) R ts→Blk w' g3 Y tv→wpList Tryz.prog ops Q rest (frm n (upd (upd l db (.slice (some ⟨w.heap.size,0,none⟩) 1 1)) da (.slice a' (k+1) cap'))) w')
 (hg1:ob.guard=none:=by rfl)(hd1:ob.dst=some db:=by rfl)
 (hop2:oa.op= .call {callee:=.builtin .append,args:=#[.tmp s,.tmp db],argTypes:=#[st,st]}∧oa.guard=none∧oa.dst=some da:=by exact⟨rfl,rfl,rfl⟩)
 (hs:opv n l (.tmp s)=some (.slice a3 k cap3):=by rfl)(hne:s≠db∧db<n:=by decide):
 wpList Tryz.prog ops Q (ob::oa::rest) (frm n l) w:=by
 obtain⟨n1,n4⟩:=hne
 refine zv _ (by rw[frm_eval];exact hbs) hg1 hd1 ?_
 have kW:Kept w (w.alloc (.cells V t)):=(Kept.refl w).alloc _
 have bW:=Blk.new w V t
 have G2:=G.kept hR kW
 have hsz0:W0.heap.size≤(w.alloc (.cells V t)).heap.size:=G2.kb.size
 have es:opv n (upd l db (.slice (some ⟨w.heap.size,0,none⟩) 1 1)) (.tmp s)=some (.slice a3 k cap3):=by
  rw[←hs];simp only[opv,upd,beq_no n1];rfl
 have eb:opv n (upd l db (.slice (some ⟨w.heap.size,0,none⟩) 1 1)) (.tmp db)=some (.slice (some ⟨w.heap.size,0,none⟩) 1 1):=by
  simp only[opv,upd,Nat.beq_refl,cond_true,show Nat.blt db n=true from Nat.ble_eq_true_of_le n4]
 refine wpList_append_grow hop2.2.1 (.tmp s) (.tmp db) st hop2.1 hi0 hst hz hsz hby W0.heap.size hsz0 _ k cs (opv_eval es) G2.own ⟨w.heap.size,0,none⟩ 1 1 V.toList (opv_eval eb) (by simp[hV]) (blk_news bW) (fun u hu=> ?_) (by decide) hkb (fun v' w' ho hgb hor=> ?_)
 ·rw[Array.all_eq_true] at oV
  obtain⟨x,hx,rfl⟩:=List.getElem_of_mem hu
  exact oV x (by simpa using hx)
 obtain⟨a',cap',rfl,-,-,-⟩:=own_open ho
 rw[hop2.2.2,frm_put]
 have own3:∀g,(Value.slice a3 k cap3).ownBlock=some g→W0.heap.size≤g:=fun g hg=>(World.ownsRow.lt G.own g hg).1
 have b4:=b3.kept kW
 exact h w' a' cap' (G2.append hR hsz0 ho hgb hor (by simpa using hV) hk (hR _ _ (only_keep kW) _ _ hr) hT) ((hgb.block g3 b4.lt (fun he=>by have:=own3 g3 he.symm;omega)).trans b4)
end
section
open Go Go.RowKit Go.Dig Go.Deep
open Go.Eng (Kept KW KeptB)
set_option maxHeartbeats 8000000
set_option maxRecDepth 100000
theorem sides56_calls(w:World)(a:Option Addr)(n cap:Nat):Calls Tryz.prog 56 #[.slice a n cap] w fun e w'=>e= .returned (.func (.func 116) #[] #[.pointer (some ⟨w.heap.size,0,none⟩)])∧Kept w w'∧w'.cell? ⟨w.heap.size,0,none⟩=some (.slice a n cap):=by
 refine ent1 3 Tryz.func56 rfl Tryz.ntmps56 ?_
 iterate 3 go_step
 refine za #[.slice a n cap] 28 fun w1 g1 e1 k1 b1 s1=> ?_
 refine zz ?_
 iterate 5 go_step
 refine zr (.func (.func 116) #[] #[.pointer (some ⟨g1,0,none⟩)]) ?_
 refine zz ?_
 iterate 5 go_step
 subst e1
 exact zretT ⟨rfl,k1,b1.cell 0 rfl⟩
theorem center26_calls{w:World}{a:Option Addr}{n cap:Nat}{l:List SideD}(h:Bxm w a n cap l)(hall:∀k(hk:k<l.length),l[k].iv.fine=true∧l[k].iv.void=false)(h6:l.length≤6)(hT:Laid w):
 Calls Tryz.prog 26 #[.slice a n cap] w (RetPts l w):=by
 obtain rfl:n=l.length:=h.1
 refine entM [_] 30 Tryz.func26 rfl Tryz.ntmps26 (by simp) ?_
 iterate 2 go_step
 refine za #[.slice none 0 0] 39 fun w1 g2 e1 k1 b2 s1=> ?_
 refine za #[.int .i64 0] 33 fun w2 g3 e2 k2 b3 s2=> ?_
 replace b2:=b2.kept k2
 iterate 5 go_step
 refine za #[.slice none 0 0] 39 fun w3 g4 e3 k3 b4 s3=> ?_
 replace b2:=b2.kept k3
 replace b3:=b3.kept k3
 have K3:=(k1.trans k2).trans k3
 iterate 6 go_step
 refine zz ?_
 refine zc 56 _ (sides56_calls _ a l.length cap) ?_
 rintro e w6 ⟨rfl,k6,c6⟩
 refine⟨_,rfl,?_⟩
 replace b2:=b2.kept k6
 replace b3:=b3.kept k6
 replace b4:=b4.kept k6
 have K6:=K3.trans k6
 have q1:=k1.size
 have q2:=k2.size
 have q3:=k3.size
 have q6:=k6.size
 iterate 4 go_step
 refine zrfx (gf:=116) (lb:=#[.pointer (some ⟨w3.heap.size,0,none⟩)]) rfl (enters_of Tryz.func116 (by kernel_rfl) rfl) fun fn W0 D L r eD eL kW sW hL hD hr=> ?_
 replace b2:=b2.kept kW
 replace b3:=b3.kept kW
 replace b4:=b4.kept kW
 replace c6:=kW.cell c6
 have K0:=K6.trans kW
 have qW:=kW.size
 have hm:(l.map ptOf).length=l.length:=List.length_map _
 refine(sides1s_calls (l:=l) (n:=l.length) (a:=a) (cap:=cap) (J:=fun k W=>W.heap[L]? =some (.loop (r .ready none))∧W.heap[D]? =some (.deferred (some []))∧(∀j(hj:j<l.length),j<k→midOk l[j].iv=true)∧∃a3 cap3 cs,Blk W g4 #[.slice a3 k cap3] 39∧Grow W0 W g4 47 4 (.slice a3 k cap3) k cs ptR (l.map ptOf))
  (Jx:=fun W=>midsOk l=false∧W.heap[L]? =some (.loop (r .done (some .ret)))∧W.heap[D]? =some (.deferred (some []))∧Blk W g2 #[.slice none 0 0] 39∧Blk W g3 #[.int .i64 1] 33∧Kept w W) ?_ ?_ ?_).mono ?_
 ·rintro k W ⟨-,-,-,a3,cap3,cs,-,G⟩
  exact⟨G.kb.cell c6 (by show w3.heap.size≠g4;omega),h.kept (K0.but G.kb (by omega))⟩
 ·rintro k hk Wj W V ⟨hLj,hDj,hgood,a3,cap3,cs,b4j,G⟩ kj oV ⟨s1,a1,n1,c1,a2,n2,c2,s2,a4,n4,c4,a5,n5,c5,p,q,eV,hI⟩
  obtain rfl:V=#[.string l[k].name,.bool s1,.slice a1 n1 c1,.slice a2 n2 c2,.bool s2,.slice a4 n4 c4,.slice a5 n5 c5,.bool p,.bool q]:=by
   rw[←Array.toArray_toList (xs:=V),eV]
  have hlL:L<Wj.heap.size:=by have:=G.kb.size;omega
  refine zroundx2 ((kj.old _ hlL).trans hLj) hr ?_
  refine region_round ?_ (fun ⟨_,_,h⟩=>h)
  refine za Z9 45 fun wa g8 ea ka b8 sa=> ?_
  refine zt b8 own41 own41 fun wb kb b8=> ?_
  refine wpList_nil ?_
  have kab:=kj.trans (ka.but kb (by omega))
  have qab:=kab.size
  have hlb:=(kab.old _ hlL).trans hLj
  refine⟨hlb,?_⟩
  have own_lt:=fun g hg=>World.ownsRow.lt G.own g hg
  have qj:=G.kb.size
  have qw:=kj.size
  have kp:=put_keptB wb L (.loop (r .busy none))
  have Gc:=(G.kept ptR_sub kab).put (.loop (r .busy none)) ptR_sub (show L<W0.heap.size by omega)
  replace b8:=b8.keptB kp (by omega)
  have b4c:=(b4j.kept kab).keptB kp (by omega)
  have b2c:=(((b2.keptB G.kb (by omega)).kept kab)).keptB kp (by omega)
  have b3c:=(((b3.keptB G.kb (by omega)).kept kab)).keptB kp (by omega)
  have hIc:Ivl (onlyW (wb.putObj L (.loop (r .busy none))) (ab Wj.heap.size)) _ _:=hI.sub (only_move fun b hb hs=>⟨hs,(kp.old b (by have:=ka.size;have:=kb.size;omega) (by unfold ab at hs;simp only[decide_eq_true_eq] at hs;omega)).trans ((ka.but kb (by omega)).old b hb)⟩)
  have Kc:=((K0.but G.kb (by omega)).trans kab).but kp (by omega)
  have hz0:(W0.putObj L (.loop (r .busy none))).heap.size=W0.heap.size:=by simp
  have hDc:(W0.putObj L (.loop (r .busy none))).heap[D]? =some (.deferred (some [])):=(World.putObj_heap_other (by omega)).trans hD
  have hLc:(W0.putObj L (.loop (r .busy none))).heap[L]? =some (.loop (r .busy none)):=World.putObj_heap_same (by omega)
  have back:((W0.putObj L (.loop (r .busy none))).putObj L (.loop (r .ready none)))=W0:=by rw[put_put,put_self hL]
  have qc:=kp.size
  generalize wb.putObj L (.loop (r .busy none))=wc at kp Gc b8 b4c b2c b3c hIc Kc qc⊢
  generalize W0.putObj L (.loop (r .busy none))=Wc at Gc hz0 hDc hLc back
  have close:∀(we:World)(k':Nat) a3 cap3 cs,k'=k+1→midOk l[k].iv=true→Blk we g4 #[.slice a3 k' cap3] 39→Grow Wc we g4 47 4 (.slice a3 k' cap3) k' cs ptR (l.map ptOf)→we.heap[L]? =some (.loop (r .busy none))∧(we.putObj L (.loop (r .ready none))).heap[L]? =some (.loop (r .ready none))∧(we.putObj L (.loop (r .ready none))).heap[D]? =some (.deferred (some []))∧
   (∀j(hj:j<l.length),j<k+1→midOk l[j].iv=true)∧
   ∃a3 cap3 cs,Blk (we.putObj L (.loop (r .ready none))) g4 #[.slice a3 (k+1) cap3] 39∧Grow W0 (we.putObj L (.loop (r .ready none))) g4 47 4 (.slice a3 (k+1) cap3) (k+1) cs ptR (l.map ptOf):=by
   rintro we k' a3 cap3 cs rfl ho hb hG
   have hle:=(hG.kb.old L (by omega) (by omega)).trans hLc
   have hlt:=(Array.getElem?_eq_some_iff.1 hle).1
   refine⟨hle,World.putObj_heap_same hlt,(World.putObj_heap_other (by omega)).trans ((hG.kb.old D (by omega) (by omega)).trans hDc),fun j hj h0=> ?_,a3,cap3,cs,hb.keptB (put_keptB we L _) (by omega),?_⟩
   ·by_cases he:j=k
    ·subst he;exact ho
    ·exact hgood j hj (by omega)
   ·have:=hG.put (.loop (r .ready none)) ptR_sub (show L<Wc.heap.size by omega)
    rwa [back] at this
  have hLwc:wc.heap[L]? =some (.loop (r .busy none)):=(Gc.kb.old L (by omega) (by omega)).trans hLc
  have hDwc:wc.heap[D]? =some (.deferred (some [])):=(Gc.kb.old D (by omega) (by omega)).trans hDc
  refine wpIn_block ?_
  refine wpIn_seq ?_
  refine region_round ?_ (fun ⟨_,_,h⟩=>h)
  refine zr (.pointer (some ⟨g8,1,none⟩)) ?_
  refine zl (V:=#[_,_,_,_,_,_,_,_]) (b8.part 1) own39 ?_
  refine zc 57 _ (middle_calls (hIc.sub (only_sub _ _)) (hT.kept Kc) (hall k hk).1 (hall k hk).2) ?_
  rintro e w5 ⟨k5,⟨ho,u1,u2,u3,u4,u5,u6,rfl,hR⟩|⟨ho,rfl⟩⟩
  ·refine⟨_,rfl,?_⟩
   refine zr (.tuple #[.agg #[.bool (midF l[k].iv).1,.slice u1 u2 u3,.slice u4 u5 u6],.int .i64 0]) ?_
   refine zr (.agg #[.bool (midF l[k].iv).1,.slice u1 u2 u3,.slice u4 u5 u6]) ?_
   refine zr (.int .i64 0) ?_
   refine za ZR 24 fun w6 g6 e6 k6 b6 q6=> ?_
   refine zt b6 own24 own24 fun w7 k7 b7=> ?_
   refine zr (.int .i64 0) ?_
   refine wpList_nil ?_
   refine wpIn_seq ?_
   refine wpIn_seq ?_
   refine region_round ?_ (fun ⟨_,_,h⟩=>h)
   refine zr (.int .i64 0) ?_
   refine zr (.bool false) ?_
   refine wpList_nil ?_
   refine wpIn_cond_false (opv_eval rfl) ?_
   refine wpIn_skip ?_
   refine region_round ?_ (fun ⟨_,_,h⟩=>h)
   have q5:=k5.size
   have K57:=(k5.trans k6).but k7 (by omega)
   have hR7:Rt (onlyW w7 (ab wc.heap.size)) (.agg #[.bool (midF l[k].iv).1,.slice u1 u2 u3,.slice u4 u5 u6]) (midF l[k].iv).1 (midF l[k].iv).2.1 (if (midF l[k].iv).2.2=1 then 0 else(midF l[k].iv).2.2):=
    hR.sub (only_move fun b hb hs=>⟨hs,(k7.old b (by have:=k6.size;omega) (by omega)).trans (k6.old b hb)⟩)
   have hk':k<(l.map ptOf).length:=by rw[hm];exact hk
   have hpt:(l.map ptOf)[k]=ptOf l[k]:=List.getElem_map _
   refine zl1 ((b4c.kept K57).cell 0 rfl) ?_
   refine zr (.pointer (some ⟨g8,0,none⟩)) ?_
   refine zl1 ((b8.kept K57).cell 0 rfl) ?_
   refine zl b7.range own24 ?_
   refine zr (.agg #[.string l[k].name,.bool (midF l[k].iv).1,.slice u1 u2 u3,.slice u4 u5 u6]) ?_
   have Gd:=Gc.kept ptR_sub K57
   have own_d:=fun g hg=>World.ownsRow.lt Gd.own g hg
   refine zgrowB (R:=ptR) (V:=#[.string l[k].name,.bool (midF l[k].iv).1,.slice u1 u2 u3,.slice u4 u5 u6]) info47 rfl (by decide) (by decide) Tryz.underlying39 Gd ptR_sub (b4c.kept K57) (by omega) own47.2 rfl hk' (by omega)
    (T:=ab wc.heap.size) (by rw[hpt];exact⟨_,_,_,_,_,_,rfl,hR7⟩) (fun b hb=> ?_) (by kernel_rfl) fun wd a' cap' G b6d=> ?_
   ·unfold ab at hb
    simp only[decide_eq_true_eq] at hb
    have:=Gc.kb.size
    refine⟨by omega,fun he=> ?_⟩
    have:=(own_lt b he.symm).2
    omega
   refine zt1x (i:=0) b6d (by simp) rfl fun we ke b6e=> ?_
   refine wpList_nil ?_
   exact close _ _ _ _ _ rfl ho b6e (G.store ptR_sub ke (by omega))
  ·refine⟨_,rfl,?_⟩
   refine zr (.tuple #[.agg ZR,.int .i64 1]) ?_
   refine zr (.agg ZR) ?_
   refine zr (.int .i64 1) ?_
   refine za ZR 24 fun w6 g6 e6 k6 b6 q6=> ?_
   refine zt b6 own24 own24 fun w7 k7 b7=> ?_
   refine zr (.int .i64 1) ?_
   refine wpList_nil ?_
   refine wpIn_seq ?_
   refine wpIn_seq ?_
   refine region_round ?_ (fun ⟨_,_,h⟩=>h)
   refine zr (.int .i64 1) ?_
   refine zr (.bool true) ?_
   refine wpList_nil ?_
   refine wpIn_cond_true (opv_eval rfl) ?_
   refine wpIn_seq ?_
   refine region_round ?_ (fun ⟨_,_,h⟩=>h)
   have q5:=k5.size
   have K57:=(k5.trans k6).but k7 (by omega)
   have q57:=K57.size
   refine zr (.int .i64 1) ?_
   refine zt1x (i:=0) (b2c.kept K57) (by simp) rfl fun w8 k8 b2d=> ?_
   refine zt1x (i:=0) ((b3c.kept K57).keptB k8 (by omega)) (by simp) rfl fun w9 k9 b3d=> ?_
   refine wpList_nil ?_
   refine wpIn_ret ?_
   have q8:=k8.size
   have q9:=k9.size
   have hx:∀b,b<wc.heap.size→b≠g2→b≠g3→w9.heap[b]? =wc.heap[b]? :=fun b hb h2 h3=>((k9.old b (by omega) h3).trans (k8.old b (by omega) h2)).trans (K57.old b hb)
   have hL9:=(hx L (Array.getElem?_eq_some_iff.1 hLwc).1 (by omega) (by omega)).trans hLwc
   have hD9:=(hx D (Array.getElem?_eq_some_iff.1 hDwc).1 (by omega) (by omega)).trans hDwc
   have kL:=put_keptB w9 L (.loop (r .done (some .ret)))
   exact⟨hL9,midsOk_false hk ho,World.putObj_heap_same (Array.getElem?_eq_some_iff.1 hL9).1,(World.putObj_heap_other (by omega)).trans hD9,(b2d.keptB k9 (by omega)).keptB kL (by omega),b3d.keptB kL (by omega),
    (((Kc.trans K57).but k8 (by omega)).but k9 (by omega)).but kL (by omega)⟩
 ·exact⟨hL,hD,fun j hj h0=>absurd h0 (Nat.not_lt_zero _),none,0,[],b4,Grow.start ..⟩
 ·rintro e W ⟨⟨v,rfl⟩,⟨hLj,hDj,hgood,a3,cap3,cs,b4j,G⟩|⟨hbad,hLj,hDj,b2j,b3j,Kj⟩⟩
  ·refine⟨⟨v,rfl⟩,.inl ⟨hLj,?_⟩⟩
   have kp:=put_keptB W L (.loop (r .exhausted none))
   have qj:=G.kb.size
   have qp:=kp.size
   replace b4j:=b4j.keptB kp (by omega)
   have b2j:=(b2.keptB G.kb (by omega)).keptB kp (by omega)
   have b3j:=(b3.keptB G.kb (by omega)).keptB kp (by omega)
   have hDp:(W.putObj L (.loop (r .exhausted none))).heap[D]? =some (.deferred (some [])):=(World.putObj_heap_other (by omega)).trans hDj
   have Kp:=(K0.but G.kb (by omega)).but kp (by omega)
   generalize W.putObj L (.loop (r .exhausted none))=wp at kp b4j b2j b3j hDp Kp qp⊢
   iterate 4 go_step
   refine zdl1 (b4j.cell 0 rfl) ?_
   refine zdt1 (i:=0) b2j (by simp) rfl fun w8 k8 b2d=> ?_
   refine zdt1 (i:=0) (b3j.keptB k8 (by omega)) (by simp) rfl fun w9 k9 b3d=> ?_
   iterate 4 go_step
   have q8:=k8.size
   have q9:=k9.size
   have hD9:=(k9.old D (by omega) (by omega)).trans ((k8.old D (by omega) (by omega)).trans hDp)
   have kd:=put_keptB w9 D (.deferred none)
   have G':Grow W0 W g4 47 4 (.slice a3 (l.map ptOf).length cap3) (l.map ptOf).length cs ptR (l.map ptOf):=by rw[hm];exact G
   obtain⟨hcap,hcell,hrows⟩:=G'.done ptR_sub (N:=w.heap.size) (W':=w9.putObj D (.deferred none)) (by omega) (fun b hb h=>(kd.old b (by omega) (by omega)).trans ((k9.old b (by omega) (by omega)).trans ((k8.old b (by omega) (by omega)).trans (kp.old b hb (by omega)))))
   have hall2:midsOk l=true:=by
    unfold midsOk
    rw[List.all_eq_true]
    intro d hd
    obtain⟨j,hj,rfl⟩:=List.getElem_of_mem hd
    exact hgood j hj hj
   refine⟨by simp,.inl ⟨_,_,rfl,run_takeDeferred hD9,?_⟩⟩
   refine⟨.tuple #[.slice a3 l.length cap3,.int .i64 0],?_,((Kp.but k8 (by omega)).but k9 (by omega)).but kd (by omega),.inl ⟨hall2,a3,cap3,rfl,hm.symm,by rw[hm] at hcap;exact hcap,cs,hcell,hrows⟩⟩
   exact resc2 rfl rfl rfl (((b2d.keptB k9 (by omega)).keptB kd (by omega)).cell 0 rfl) ((b3d.keptB kd (by omega)).cell 0 rfl)
  ·refine⟨⟨v,rfl⟩,.inr ⟨hLj,?_⟩⟩
   have kp:=put_keptB W L (.loop (r .exhausted (some .ret)))
   have qp:=kp.size
   replace b2j:=b2j.keptB kp (by omega)
   replace b3j:=b3j.keptB kp (by omega)
   have hDp:(W.putObj L (.loop (r .exhausted (some .ret)))).heap[D]? =some (.deferred (some [])):=(World.putObj_heap_other (by omega)).trans hDj
   have Kp:=Kj.but kp (by omega)
   have kd:=put_keptB (W.putObj L (.loop (r .exhausted (some .ret)))) D (.deferred none)
   refine⟨by simp,.inl ⟨_,_,rfl,run_takeDeferred hDp,?_⟩⟩
   refine⟨.tuple #[.slice none 0 0,.int .i64 1],?_,Kp.but kd (by omega),.inr ⟨hbad,rfl⟩⟩
   exact resc2 rfl rfl rfl ((b2j.keptB kd (by omega)).cell 0 rfl) ((b3j.keptB kd (by omega)).cell 0 rfl)
end
section
open Go Go.RowKit Go.Dig Go.Deep
open Go.Eng (Kept KW KeptB)
theorem less_trans{a b c:List UInt8}(h:Op.bytesLess a b=true)(k:Op.bytesLess b c=true):Op.bytesLess a c=true:=by
 rw[Go.Proofs.bytesLess_eq] at*
 exact decide_eq_true (List.lt_trans (of_decide_eq_true h) (of_decide_eq_true k))
theorem less_irr(a:List UInt8):Op.bytesLess a a=false:=by
 rw[Go.Proofs.bytesLess_eq]
 exact decide_eq_false (List.lt_irrefl a)
def lessS(a b:SideD):Prop:=Op.bytesLess a.name.toList b.name.toList=true
theorem boxOk_iff{l:List SideD}:boxOk l=true↔l.length≤6∧(∀s∈l,isName s.name=true∧s.iv.fine=true∧s.iv.void=false)∧l.Pairwise lessS:=by
 constructor
 ·intro h
  unfold boxOk at h
  simp only[Bool.and_eq_true,decide_eq_true_eq,List.all_eq_true,List.mem_range] at h
  obtain⟨h6,hs⟩:=h
  have hk:∀k(hk:k<l.length),isName l[k].name=true∧l[k].iv.fine=true∧l[k].iv.void=false∧(k≠0→Op.bytesLess (l.getD (k-1) default).name.toList l[k].name.toList=true):=by
   intro k hk
   have:=hs k hk
   unfold sideOk at this
   rw[getD_at hk] at this
   simp only[Bool.and_eq_true,Bool.or_eq_true,beq_iff_eq,Bool.not_eq_true'] at this
   exact⟨this.1.1.1,this.1.2,this.2,fun h0=>this.1.1.2.resolve_left h0⟩
  refine⟨h6,fun s hs=> ?_,?_⟩
  ·obtain⟨k,hk',rfl⟩:=List.getElem_of_mem hs
   have:=hk k hk'
   exact⟨this.1,this.2.1,this.2.2.1⟩
  ·rw[List.pairwise_iff_getElem]
   intro i j hi hj hij
   induction j with
   |zero=>omega
   |succ j ih=>
    have h1:=(hk (j+1) hj).2.2.2 (by omega)
    rw[Nat.add_sub_cancel,getD_at (by omega)] at h1
    rcases Nat.lt_or_ge i j with h2|h2
    ·exact less_trans (ih (by omega) h2) h1
    ·obtain rfl:i=j:=by omega
     exact h1
 ·rintro⟨h6,hs,hp⟩
  refine boxOk_good h6 fun k hk=> ?_
  obtain⟨g1,g2,g3⟩:=hs _ (List.getElem_mem hk)
  unfold sideOk
  rw[getD_at hk,g1,g2,g3]
  by_cases h0:k=0
  ·subst h0;rfl
  ·rw[getD_at (show k-1<l.length by omega)]
   have:=(List.pairwise_iff_getElem.1 hp) (k-1) k (by omega) hk (by omega)
   unfold lessS at this
   rw[this]
   simp
theorem sideAt_self(x:ByteArray):∀(l:List SideD)(i k:Nat)(hk:k<l.length),(l[k].name.toList==x.toList)=true→(∀j(hj:j<k),(l[j].name.toList==x.toList)=false)→sideAt l i x=((i+k:Nat):Int)
 |[],_,_,hk,_,_=>absurd hk (Nat.not_lt_zero _)
 |s::r,i,0,_,h,_=>by
  unfold sideAt
  exact if_pos h
 |s::r,i,k+1,hk,h,hne=>by
  have h0:=hne 0 (Nat.succ_pos _)
  unfold sideAt
  have h1:(s.name.toList==x.toList)=false:=h0
  rw[if_neg (by rw[h1];decide),sideAt_self x r (i+1) k (by simpa using hk) h (fun j hj=>hne (j+1) (by omega))]
  congr 1
  omega
theorem side_self{l:List SideD}(h:boxOk l=true){k:Nat}(hk:k<l.length):sideAt l 0 l[k].name=(k:Int):=by
 obtain⟨-,-,hp⟩:=boxOk_iff.1 h
 rw[sideAt_self l[k].name l 0 k hk (by simp) fun j hj=> ?_,Nat.zero_add]
 have:=List.pairwise_iff_getElem.1 hp j k (by omega) hk hj
 unfold lessS at this
 rw[beq_eq_false_iff_ne]
 intro he
 rw[he,less_irr] at this
 cases this
theorem sides_fine{l:List SideD}(h:boxOk l=true):l.length≤6∧∀k(hk:k<l.length),l[k].iv.fine=true∧l[k].iv.void=false:=by
 obtain⟨h6,hs,-⟩:=boxOk_iff.1 h
 exact⟨h6,fun k hk=>(hs _ (List.getElem_mem hk)).2⟩
def cornerL:List SideD→Nat→List PtD
 |[],_=>[]
 |d::ds,n=>cornP d (n%2==1)::cornerL ds (n/2)
theorem cornerL_len:∀(l:List SideD)(n:Nat),(cornerL l n).length=l.length
 |[],_=>rfl
 |_::ds,n=>by simp[cornerL,cornerL_len ds]
theorem cornerL_get:∀(l:List SideD)(n k:Nat)(hk:k<l.length)(hk':k<(cornerL l n).length),(cornerL l n)[k]=cornP l[k] (n/2^k%2==1)
 |[],_,_,hk,_=>absurd hk (Nat.not_lt_zero _)
 |d::ds,n,0,_,_=>by simp[cornerL]
 |d::ds,n,k+1,hk,hk'=>by
  simp only[cornerL,List.getElem_cons_succ]
  rw[cornerL_get ds (n/2) k (by simpa using hk),Nat.div_div_eq_div_mul,Nat.pow_succ,Nat.mul_comm 2]
theorem run_shr6{k m:Nat}{xt:TypeId}{x y:Operand}{w:World}(_:k<64)(_:m<6):(do eqGuard .shr xt x y (.int .i64 (k:Int)) (.int .i64 (m:Int));binOp .shr xt (.int .i64 (k:Int)) (.int .i64 (m:Int)):Sem Value).run Tryz.prog w= .ok (.int .i64 ((k/2^m:Nat):Int)) w:=by
 go_simp
theorem run_and1{k:Nat}{xt:TypeId}{x y:Operand}{w:World}(h:k<64):(do eqGuard .and xt x y (.int .i64 (k:Int)) (.int .i64 1);binOp .and xt (.int .i64 (k:Int)) (.int .i64 1):Sem Value).run Tryz.prog w= .ok (.int .i64 ((k%2:Nat):Int)) w:=by
 go_simp
 exact(by decide:∀k<64,bits BinOp.and IntKind.i64 ((k:Nat):Int) 1=((k:Nat):Int)%2) k h
theorem run_shl1{k:Nat}{xt:TypeId}{x y:Operand}{w:World}(h:k<7):(do eqGuard .shl xt x y (.int .i64 1) (.int .i64 (k:Int));binOp .shl xt (.int .i64 1) (.int .i64 (k:Int)):Sem Value).run Tryz.prog w= .ok (.int .i64 ((2^k:Nat):Int)) w:=by
 go_simp
 exact(by decide:∀k<7,IntKind.i64.wrap (2^k)=2^k) k h
theorem run_rem2{k:Nat}{xt:TypeId}{x y:Operand}{w:World}:(do eqGuard .rem xt x y (.int .i64 (k:Int)) (.int .i64 2);binOp .rem xt (.int .i64 (k:Int)) (.int .i64 2):Sem Value).run Tryz.prog w= .ok (.int .i64 ((k%2:Nat):Int)) w:=by
 go_simp
 rw[Int.tmod_eq_emod_of_nonneg (by omega)]
theorem run_quo2{k:Nat}{xt:TypeId}{x y:Operand}{w:World}(h:k<64):(do eqGuard .quo xt x y (.int .i64 (k:Int)) (.int .i64 2);binOp .quo xt (.int .i64 (k:Int)) (.int .i64 2):Sem Value).run Tryz.prog w= .ok (.int .i64 ((k/2:Nat):Int)) w:=by
 go_simp
 rw[IntKind.wrap_i64]
 omega
theorem run_mul2{k:Nat}{xt:TypeId}{x y:Operand}{w:World}(h:k<64):(do eqGuard .mul xt x y (.int .i64 2) (.int .i64 (k:Int));binOp .mul xt (.int .i64 2) (.int .i64 (k:Int)):Sem Value).run Tryz.prog w= .ok (.int .i64 ((2*k:Nat):Int)) w:=by
 go_simp
 rw[IntKind.wrap_i64]
 omega
theorem run_eqb{x y:Int}{u:Bool}{xt:TypeId}{a b:Operand}{w:World}(h:(x==y)=u):(do eqGuard .eql xt a b (.int .i64 x) (.int .i64 y);binOp .eql xt (.int .i64 x) (.int .i64 y):Sem Value).run Tryz.prog w= .ok (.bool u) w:=by
 subst h
 go_simp
theorem own_rng(v:Value):∃lo up,(∀g,v.ownBlock=some g→lo≤g∧g<up)∧∀b,lo≤b→b<up→v.ownBlock=some b:=by
 cases h:v.ownBlock with
 |none=>exact⟨0,0,fun g hg=>(by cases hg),fun b _ hb=>absurd hb (Nat.not_lt_zero _)⟩
 |some o=>exact⟨o,o+1,fun g hg=>(by cases hg;omega),fun b h1 h2=>by rw[show b=o by omega]⟩
section
variable{n:Nat}{l:Fm}{ops:Array Oper}{Q:Exit→Act→World→Prop}{fuel:Nat}{listed:Array Bool}{w w0:World}{lo up:Nat}
theorem yab{α:Type}{W0:World}{g3 t sz by_ k cap3:Nat}{z:Value}{st:TypeId}{R:World→List Value→α→Prop}{ts:List α}{a3:Option Addr}{cs:List Value}{V:Array Value}{T:Nat→Bool}{ob oa:Oper}{db da s:Tmp}(i j:Nat)
 (hi0:InfoIs t z sz by_)(hz:z.cells.size=sz)(hsz:0<sz)(hby:by_≤1024)(hst:Tryz.prog.underlying st=some (.slice t))
 (G:Grow W0 w g3 t sz (.slice a3 k cap3) k cs R ts)(hR:∀w w',Sub w w'→∀l t,R w l t→R w' l t)(oV:V.all (·.oneCell')=true)(hV:V.size=sz)(hk:k<ts.length)(hkb:k+1≤1099511627)
 (hr:R (onlyW w T) V.toList ts[k])(hT:∀b,T b=true→W0.heap.size≤b∧some b≠(Value.slice a3 k cap3).ownBlock)(hS:Lk lo up w0 w)(hob:∀g,(Value.slice a3 k cap3).ownBlock=some g→lo≤g∧g<up)
 (hbs:(execOp (ev n l) ob).run Tryz.prog w= .ok (.value (.slice (some ⟨w.heap.size,0,none⟩) 1 1)) (w.alloc (.cells V t)))
 (h:∀w' a' cap',Grow W0 w' g3 t sz (.slice a' (k+1) cap') (k+1) (cs++V.toList) R ts→Lk lo up w0 w'→wpAnyH Tryz.prog .any ops Q (Lk lo up w0) fuel ((listed.setIfInBounds i true).setIfInBounds j true) (frm n (upd (upd l db (.slice (some ⟨w.heap.size,0,none⟩) 1 1)) da (.slice a' (k+1) cap'))) w')
 (h1:ops[i]? =some ob:=by rfl)(h2:ops[j]? =some oa:=by rfl)
 (hg1:ob.guard=none:=by rfl)(hd1:ob.dst=some db:=by rfl)
 (hop2:oa.op= .call {callee:=.builtin .append,args:=#[.tmp s,.tmp db],argTypes:=#[st,st]}∧oa.guard=none∧oa.dst=some da:=by exact⟨rfl,rfl,rfl⟩)
 (hs:opv n l (.tmp s)=some (.slice a3 k cap3):=by rfl)(hne:s≠db∧db<n:=by decide)
 (hr1:Region.ready .any ops listed=[i]:=by kernel_rfl)(hr2:Region.ready .any ops (listed.setIfInBounds i true)=[j]:=by kernel_rfl):
 wpAnyH Tryz.prog .any ops Q (Lk lo up w0) (fuel+1+1) listed (frm n l) w:=by
 obtain⟨n1,n4⟩:=hne
 refine rd1 i (fun K hK=> ?_) h1 hr1
 rw[if_pos (by simp[Region.wanted,hg1])]
 unfold Oper.wp
 rw[frm_eval,hbs]
 simp only[Oper.upon,hd1,frm_put]
 have kW:Kept w (w.alloc (.cells V t)):=(Kept.refl w).alloc _
 have bW:=Blk.new w V t
 have G2:=G.kept hR kW
 have hsz0:W0.heap.size≤(w.alloc (.cells V t)).heap.size:=G2.kb.size
 refine hK.out _ _ (hS.kept kW) fun _=> ?_
 refine rd1 j (fun K hK=> ?_) h2 hr2
 have es:opv n (upd l db (.slice (some ⟨w.heap.size,0,none⟩) 1 1)) (.tmp s)=some (.slice a3 k cap3):=by
  rw[←hs];simp only[opv,upd,beq_no n1];rfl
 have eb:opv n (upd l db (.slice (some ⟨w.heap.size,0,none⟩) 1 1)) (.tmp db)=some (.slice (some ⟨w.heap.size,0,none⟩) 1 1):=by
  simp only[opv,upd,Nat.beq_refl,cond_true,show Nat.blt db n=true from Nat.ble_eq_true_of_le n4]
 refine step_append_grow hop2.2.1 (.tmp s) (.tmp db) st hop2.1 hi0 hst hz hsz hby W0.heap.size hsz0 _ k cs (opv_eval es) G2.own ⟨w.heap.size,0,none⟩ 1 1 V.toList (opv_eval eb) (by simp[hV]) (blk_news bW) (fun u hu=> ?_) (by decide) hkb (fun v' w' ho hgb hor=> ?_)
 ·rw[Array.all_eq_true] at oV
  obtain⟨x,hx,rfl⟩:=List.getElem_of_mem hu
  exact oV x (by simpa using hx)
 obtain⟨a',cap',rfl,-,-,-⟩:=own_open ho
 have l5:Lk lo up w0 w':=by
  refine(hS.kept kW).trans ⟨hgb.size,fun b hlt hx=>hgb.block b hlt (fun he=> ?_),hgb.tape,hgb.os,hgb.output⟩
  have:=hob b he.symm
  omega
 rw[hop2.2.2,frm_put]
 refine hK.out _ _ l5 fun _=> ?_
 exact h w' a' cap' (G2.append hR hsz0 ho hgb hor (by simpa using hV) hk (hR _ _ (only_keep kW) _ _ hr) hT) l5
end
section
variable{n:Nat}{l:Fm}{ops:Array Oper}{Q:Exit→Act→World→Prop}{fuel:Nat}{listed:Array Bool}{w w0:World}{lo up L:Nat}
theorem eab{α:Type}{W0:World}{g3 t sz by_ k cap3:Nat}{z:Value}{st tv:TypeId}{R:World→List Value→α→Prop}{ts:List α}{a3:Option Addr}{cs:List Value}{V Y:Array Value}{T:Nat→Bool}{ob oa os:Oper}{db da s p:Tmp}(i j:Nat)
 (hi0:InfoIs t z sz by_)(hz:z.cells.size=sz)(hsz:0<sz)(hby:by_≤1024)(hst:Tryz.prog.underlying st=some (.slice t))
 (G:Grow W0 w g3 t sz (.slice a3 k cap3) k cs R ts)(hR:∀w w',Sub w w'→∀l t,R w l t→R w' l t)(b3:Blk w g3 Y tv)(hY:Y.size=1)(hg3:g3<W0.heap.size)(oV:V.all (·.oneCell')=true)(hV:V.size=sz)(hk:k<ts.length)(hkb:k+1≤1099511627)
 (hr:R (onlyW w T) V.toList ts[k])(hT:∀b,T b=true→W0.heap.size≤b∧some b≠(Value.slice a3 k cap3).ownBlock)(hS:Lk lo up w0 w)(hob:∀g,(Value.slice a3 k cap3).ownBlock=some g→lo≤g∧g<up)
 (hbs:(execOp (ev n l) ob).run Tryz.prog w= .ok (.value (.slice (some ⟨w.heap.size,0,none⟩) 1 1)) (w.alloc (.cells V t)))
 (h:∀w' a' cap',Grow W0 w' g3 t sz (.slice a' (k+1) cap') (k+1) (cs++V.toList) R ts→Blk w' g3 #[.slice a' (k+1) cap'] tv→Q .normal (frm n (upd (upd l db (.slice (some ⟨w.heap.size,0,none⟩) 1 1)) da (.slice a' (k+1) cap'))) w')
 (h1:ops[i]? =some ob:=by rfl)(h2:ops[j]? =some oa:=by rfl)(h3:ops[L]? =some os:=by rfl)
 (hg1:ob.guard=none:=by rfl)(hd1:ob.dst=some db:=by rfl)
 (hop2:oa.op= .call {callee:=.builtin .append,args:=#[.tmp s,.tmp db],argTypes:=#[st,st]}∧oa.guard=none∧oa.dst=some da:=by exact⟨rfl,rfl,rfl⟩)
 (hop3:os.op= .store st (.tmp p) (.tmp da)∧os.guard=none∧os.dst=none:=by exact⟨rfl,rfl,rfl⟩)
 (hs:opv n l (.tmp s)=some (.slice a3 k cap3):=by rfl)(hp:opv n l (.tmp p)=some (.pointer (some ⟨g3,0,none⟩)):=by rfl)(hne:s≠db∧db<n∧da<n∧p≠db∧p≠da:=by decide)(hu:(Tryz.prog.info? st).map (·.size)=some 1:=by kernel_rfl)
 (hr1:Region.ready .any ops listed=[i]:=by kernel_rfl)(hr2:Region.ready .any ops (listed.setIfInBounds i true)=[j]:=by kernel_rfl)
 (hr3:Region.ready .any ops ((listed.setIfInBounds i true).setIfInBounds j true)=[L]:=by kernel_rfl)(hr4:Region.ready .any ops (((listed.setIfInBounds i true).setIfInBounds j true).setIfInBounds L true)=[]:=by kernel_rfl)(hfu:fuel=3:=by rfl):
 wpE Tryz.prog .any ops Q (Lk lo up w0) L fuel listed (frm n l) w:=by
 subst hfu
 obtain⟨n1,n4,n5,n6,n7⟩:=hne
 refine wpE_one hr1 ?_
 unfold wpOp
 rw[h1]
 simp only
 rw[if_pos (by simp[Region.wanted,hg1])]
 refine .inl ?_
 unfold Oper.wp
 rw[frm_eval,hbs]
 simp only[Oper.upon,hd1,frm_put]
 have kW:Kept w (w.alloc (.cells V t)):=(Kept.refl w).alloc _
 have bW:=Blk.new w V t
 have G2:=G.kept hR kW
 have hsz0:W0.heap.size≤(w.alloc (.cells V t)).heap.size:=G2.kb.size
 refine⟨fun _=>hS.kept kW,?_⟩
 refine wpE_one hr2 ?_
 have es:opv n (upd l db (.slice (some ⟨w.heap.size,0,none⟩) 1 1)) (.tmp s)=some (.slice a3 k cap3):=by
  rw[←hs];simp only[opv,upd,beq_no n1];rfl
 have eb:opv n (upd l db (.slice (some ⟨w.heap.size,0,none⟩) 1 1)) (.tmp db)=some (.slice (some ⟨w.heap.size,0,none⟩) 1 1):=by
  simp only[opv,upd,Nat.beq_refl,cond_true,show Nat.blt db n=true from Nat.ble_eq_true_of_le n4]
 unfold wpOp
 rw[h2]
 simp only
 have hw2:Region.wanted oa (yielded ops (frm n (upd l db (.slice (some ⟨w.heap.size,0,none⟩) 1 1))).tmps)=true:=by simp[Region.wanted,hop2.2.1]
 rw[if_pos hw2]
 refine .inl ?_
 refine Eq.mp (if_pos hw2) (step_append_grow (ops:=ops) (E:=False) hop2.2.1 (.tmp s) (.tmp db) st hop2.1 hi0 hst hz hsz hby W0.heap.size hsz0 _ k cs (opv_eval es) G2.own ⟨w.heap.size,0,none⟩ 1 1 V.toList (opv_eval eb) (by simp[hV]) (blk_news bW) (fun u hu=> ?_) (by decide) hkb (fun v' w' ho hgb hor=> ?_))
 ·rw[Array.all_eq_true] at oV
  obtain⟨x,hx,rfl⟩:=List.getElem_of_mem hu
  exact oV x (by simpa using hx)
 obtain⟨a',cap',rfl,-,-,-⟩:=own_open ho
 have l5:Lk lo up w0 w':=by
  refine(hS.kept kW).trans ⟨hgb.size,fun b hlt hx=>hgb.block b hlt (fun he=> ?_),hgb.tape,hgb.os,hgb.output⟩
  have:=hob b he.symm
  omega
 have own3:∀g,(Value.slice a3 k cap3).ownBlock=some g→W0.heap.size≤g:=fun g hg=>(World.ownsRow.lt G.own g hg).1
 have b4:=b3.kept kW
 have b5:Blk w' g3 Y tv:=(hgb.block g3 b4.lt (fun he=>by have:=own3 g3 he.symm;omega)).trans b4
 have G3:=G2.append hR hsz0 ho hgb hor (by simpa using hV) hk (hR _ _ (only_keep kW) _ _ hr) hT
 rw[hop2.2.2,frm_put]
 refine⟨fun _=>l5,?_⟩
 refine wpE_one hr3 ?_
 unfold wpOp
 rw[h3]
 simp only
 rw[if_pos (by simp[Region.wanted,hop3.2.1])]
 refine .inl ?_
 have e1:(frm n (upd (upd l db (.slice (some ⟨w.heap.size,0,none⟩) 1 1)) da (.slice a' (k+1) cap'))).eval (.tmp p)= .pointer (some ⟨g3,0,none⟩):=opv_eval (by
  rw[←hp];simp only[opv,upd,beq_no n6,beq_no n7];rfl)
 have e2:(frm n (upd (upd l db (.slice (some ⟨w.heap.size,0,none⟩) 1 1)) da (.slice a' (k+1) cap'))).eval (.tmp da)= .slice a' (k+1) cap':=opv_eval (by
  simp only[opv,upd,Nat.beq_refl,cond_true,show Nat.blt da n=true from Nat.ble_eq_true_of_le n5])
 have hst1:(storeVar st ⟨g3,0,none⟩ (.slice a' (k+1) cap')).run Tryz.prog w'= .ok () (w'.setCell ⟨g3,0,none⟩ (.slice a' (k+1) cap')):=by
  have hcl:=b5.cell 0 (v:=Y[0]) (by simp[hY])
  have hfz:=b5.frozen 0
  have hrs:=run_store Tryz.prog w' ⟨g3,0,none⟩ (.slice a' (k+1) cap') .plain rfl
  rw[hcl] at hrs
  simp only[hfz] at hrs
  cases hq2:Tryz.prog.info? st with
  |none=>simp[hq2] at hu
  |some q=>
   have hs1:q.size=1:=by simpa [hq2] using hu
   simp[storeVar,sizeOf,typeInfo,hq2,hs1,Value.cells,storeCells,Addr.add_mid,hrs]
 have kb:KeptB w' (w'.setCell ⟨g3,0,none⟩ (.slice a' (k+1) cap')) g3:=(KeptB.refl w' g3).setCell rfl _
 have bY:Blk (w'.setCell ⟨g3,0,none⟩ (.slice a' (k+1) cap')) g3 #[.slice a' (k+1) cap'] tv:=by
  have:=b5.set 0 (.slice a' (k+1) cap')
  obtain⟨y,rfl⟩:∃y,Y=#[y]:=Array.size_eq_one_iff.1 hY
  exact this
 unfold Oper.wp execOp
 simp only[hop3.1,e1,e2,Instr.storeAt,Instr.sureAddr,Sem.run_bind,Sem.run_pure,Result.andThen_ok,hst1]
 show(fun a' w''=>(L≠L→_)∧_) ((frm n _).put os.dst undef) _
 rw[hop3.2.2]
 exact⟨fun h=>absurd rfl h,hr4,h _ a' cap' (G3.store hR kb hg3) bY⟩
theorem el{S:World→Prop}{oi:Oper}{d:Tmp}(i:Nat){p:Tmp}{ty b o:Nat}{V:Array Value}(hr0:∀w',S w'→w'.rangeAt b o V.toList)(hV:Own ty V)(hS:S w)(h:wpE Tryz.prog .any ops Q S L fuel (listed.setIfInBounds i true) (frm n (upd l d (.agg V))) w)
 (hi:ops[i]? =some oi:=by rfl)(hop:oi.op= .load ty (.tmp p):=by rfl)(hg:oi.guard=none:=by rfl)(hd:oi.dst=some d:=by rfl)(hx:opv n l (.tmp p)=some (.pointer (some ⟨b,o,none⟩)):=by rfl)(hu:(Tryz.prog.underlying ty).map TypeDesc.isRow=some true:=by kernel_rfl)
 (hL:waitsOn .any ops L i=true:=by kernel_rfl)
 (hs:Region.noSelect ops=true:=by kernel_rfl)(hf:Region.free .any ops listed i=true:=by kernel_rfl)(hr:(Region.ready .any ops listed).contains i=true:=by kernel_rfl)
 (hQ:∀c a w,Q (.panic c) (a.put oi.dst (.agg V)) w→Q (.panic c) a w:=by exact fun _ _ _ h=>h):wpE Tryz.prog .any ops Q S L (fuel+1) listed (frm n l) w:=
 er i (.agg V) hS h hi hg hd (fun w' hw'=>run_row (hr0 w' hw') hV hg hop hx hu) hL hs hf hr hQ
end
theorem Ptm.sub{w w':World}{a:Option Addr}{n cap:Nat}{l:List PtD}(h:Ptm w a n cap l)(k:Sub w w'):Ptm w' a n cap l:=by
 obtain⟨h1,h2,cs,h3,h4⟩:=h
 refine⟨h1,h2,cs,fun i hi=> ?_,h4.mono (ptR_sub _ _ k)⟩
 obtain⟨b,h5,h6⟩:=h3 i hi
 refine⟨b,h5,?_⟩
 rw[List.getElem?_eq_getElem hi] at h6⊢
 exact k _ _ h6
def RetPm(L:List PtD)(w:World)(e:Ending)(w':World):Prop:=Kept w w'∧∃a' cap',e= .returned (.slice a' L.length cap')∧Ptm (onlyW w' (ab w.heap.size)) a' L.length cap' L
end
section
open Go Go.RowKit Go.Dig Go.Deep
open Go.Eng (Kept KW KeptB)
set_option maxHeartbeats 8000000
set_option maxRecDepth 100000
theorem center9_calls{w:World}{a:Option Addr}{n cap:Nat}{l:List SideD}(h:Bxm w a n cap l)(hok:boxOk l=true)(hT:Laid w):Calls Tryz.prog 9 #[.slice a n cap] w (RetPts l w):=by
 obtain⟨h6,hall⟩:=sides_fine hok
 have hv:=evalid_calls h hT
 rw[hok] at hv
 have hc:=fun(W:World)(k:Kept w W)=>center26_calls (h.kept k) hall h6 (hT.kept k)
 clear h
 refine ent1 10 Tryz.func9 rfl Tryz.ntmps9 ?_
 iterate 2 go_step
 refine zr (.slice none 0 0) ?_
 refine zr (.int .i64 0) ?_
 iterate 6 go_step
 refine zr (.slice a n cap) ?_
 refine zc 23 _ hv ?_
 rintro e w1 ⟨rfl,k1⟩
 refine⟨_,rfl,?_⟩
 refine zr (.bool false) ?_
 iterate 3 go_step
 refine zt_false ?_
 iterate 5 go_step
 refine zr (.slice a n cap) ?_
 refine zc 26 _ (hc _ k1) ?_
 have q1:=k1.size
 rintro e w2 ⟨k2,⟨ho,a',cap',rfl,hp⟩|⟨ho,rfl⟩⟩
 ·refine⟨_,rfl,?_⟩
  refine zr (.slice a' l.length cap') ?_
  refine zr (.int .i64 0) ?_
  refine zr (.slice a' l.length cap') ?_
  refine zr (.int .i64 0) ?_
  iterate 4 go_step
  exact zretTT ⟨k1.trans k2,.inl ⟨ho,a',cap',rfl,hp.sub (only_mono fun b hb=>by unfold ab at hb⊢;simp only[decide_eq_true_eq] at hb⊢;omega)⟩⟩
 ·refine⟨_,rfl,?_⟩
  refine zr (.slice none 0 0) ?_
  refine zr (.int .i64 1) ?_
  refine zr (.slice none 0 0) ?_
  refine zr (.int .i64 1) ?_
  iterate 4 go_step
  exact zretTT ⟨k1.trans k2,.inr ⟨ho,rfl⟩⟩
end
end Go.Proofs.YtancebninmoipaaGreatDoor
