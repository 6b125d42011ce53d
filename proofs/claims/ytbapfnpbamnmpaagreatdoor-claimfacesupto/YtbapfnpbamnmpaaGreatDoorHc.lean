/- A part of the proof that ClaimFaces answers true for every input of bulk at most 1048576: conditions: the row's own. -/
import Derived.Test.YtbapfnpbamnmpaaGreatDoorZa
import Derived.Test.YtbapfnpbamnmpaaGreatDoorVa
import Derived.Test.YtbapfnpbamnmpaaGreatDoorHa
import Derived.Test.YtbapfnpbamnmpaaGreatDoorGz
import Derived.Test.YtbapfnpbamnmpaaGreatDoorHb
import Derived.Test.YtbapfnpbamnmpaaGreatDoorKd
import Derived.Test.YtbapfnpbamnmpaaGreatDoorXe
import Derived.Test.YtbapfnpbamnmpaaGreatDoorSc
namespace Go.Proofs.YtbapfnpbamnmpaaGreatDoor
section
open Go Go.RowKit Go.Dig Go.Deep
open Go.Eng (Kept KW KeptB wp_region_kw kw_call)
theorem calls_round{l m:Nat}{f:FuncId}{args:Array Value}{w:World}{R:Ending→World→Prop}(h:Calls Tryz.prog f args w R):CallsIn (Fence.wide.inRound l) m Tryz.prog f args w R:=
 ⟨trivial,fun cs _=>let ⟨e,w',fr,r,s,x⟩:=h cs;⟨e,w',fr,r,comesIn_wide.2 s,x⟩⟩
theorem rows_round{l m:Nat}{row:String}{args:Array Value}{w:World}{R:Value→World→Prop}(h:Rows Tryz.prog row args w R):RowsIn (Fence.wide.inRound l) m Tryz.prog row args w R:=
 fun c cs _=>let ⟨v,w',r,s⟩:=h c cs;⟨v,w',r,stepsIn_wide.2 s⟩
def noDefer(o:Oper):Bool:=match o.op with
 | .defer _=>false
 |_=>true
theorem sem_round{l:Nat}{o:Oper}(h:noDefer o=true)(ρ:Operand→Value):o.semAt (some l) ρ=execOp ρ o:=by
 refine Oper.semAt_eq _ ρ o fun c hc=> ?_
 unfold noDefer at h
 rw[hc] at h
 cases h
theorem list_round{l m:Nat}{ops:Array Oper}{Q:Exit→Act→World→Prop}(hQ:¬LetsOut Q):∀(rest:List Oper)(a:Act)(w:World),rest.all noDefer=true→wpList Tryz.prog ops Q rest a w→wpListIn (Fence.wide.inRound l) m Tryz.prog ops Q rest a w
 |[],_,_,_,h=>h
 |o::rest,a,w,hd,h=>by
  simp only[List.all_cons,Bool.and_eq_true] at hd
  unfold wpList at h
  unfold wpListIn
  split at h
  ·rename_i hw
   rw[if_pos hw]
   rcases h with h|⟨-,h⟩
   ·unfold Oper.wp at h
    refine⟨fun _ _=>trivial,?_⟩
    rw[show(Fence.wide.inRound l).round=some l from rfl,sem_round hd.1]
    generalize (execOp a.eval o).run Tryz.prog w=r at h⊢
    cases r with
    |ok x w'=>
     cases x with
     |value v=>exact list_round hQ rest _ _ hd.2 h
     |skip=>exact list_round hQ rest _ _ hd.2 h
     |defer d=>exact list_round hQ rest _ _ hd.2 h
     |enter f args=>
      refine⟨(fun h=>by cases h),calls_round (Calls.mono h fun e w'' he=> ?_)⟩
      cases e with
      |returned v=>exact list_round hQ rest _ _ hd.2 he
      |panicked c=>exact he
      |outgrown=>exact he
     |row row args=>exact⟨(fun h=>by cases h),rows_round (Rows.mono h fun v w'' he=>list_round hQ rest _ _ hd.2 he)⟩
     |_=>exact h.elim
    |halt x w'=>
     cases x with
     |panic v=>exact h
     |_=>exact h.elim
   ·exact absurd h hQ
  ·rename_i hw
   rw[if_neg hw]
   exact⟨fun _ _=>trivial,list_round hQ rest _ _ hd.2 h⟩
theorem region_round{l m id:Nat}{ops:Array Oper}{Q:Exit→Act→World→Prop}{a:Act}{w:World}(h:wpList Tryz.prog ops Q ops.toList a w)(hQ:¬LetsOut Q)(hd:ops.toList.all noDefer=true:=by kernel_rfl):(Code.region id ops false).wpIn (Fence.wide.inRound l) m Tryz.prog Q a w:=
 wpIn_region_list (list_round hQ _ _ _ hd h)
theorem zrf{n:Nat}{l:Fm}{g:Operand}{ps:Array Tmp}{assign body:Code}{Q:Exit→Act→World→Prop}{w:World}{gf:Nat}{lb:Array Value}(hg:opv n l g=some (.func (.func gf) #[] lb))(eg:∀args w,(callFunc gf args).run Tryz.prog w= .ok (.enter gf args) w)
 (h:∀(fn:FuncId)(W:World)(D L:Nat)(r:LoopState→Option Code→Loop),D=w.heap.size→L=D+1→Kept w W→W.heap.size=D+2→W.heap[L]? =some (.loop (r .ready none))→W.heap[D]? =some (.deferred (some []))→
   (r=fun st pe=>{state:=st,pending:=pe,fn,tmps:=(frm n l).tmps,params:=ps,assign,body,defers:=D})→
   Calls Tryz.prog gf (#[.func (.yield L) #[] #[]]++lb) W fun e W'=>(∃v,e= .returned v)∧W'.heap[L]? =some (.loop (r .ready none))∧
    Q .normal ⟨(frm n l).tmps,[{target:=.collected D,args:=#[]}]⟩ (W'.putObj L (.loop (r .exhausted none)))):
 (Code.rangeFunc g ps assign body).wp Tryz.prog Q (frm n l) w:=by
 refine(wpIn_wide (n:=0)).1 (wpIn_rangeFunc ?_)
 intro fn _
 obtain⟨r,hr⟩:∃r:LoopState→Option Code→Loop,r=fun st pe=>{state:=st,pending:=pe,fn,tmps:=(frm n l).tmps,params:=ps,assign,body,defers:=w.heap.size}:=⟨_,rfl⟩
 obtain⟨W,hW⟩:∃W,(w.alloc (.deferred (some []))).alloc (.loop (r .ready none))=W:=⟨_,rfl⟩
 have hL:W.heap[w.heap.size+1]? =some (.loop (r .ready none)):=by
  rw[←hW];have:=World.alloc_heap_new (w.alloc (.deferred (some []))) (.loop (r .ready none));rwa [World.size_alloc] at this
 have hD:W.heap[w.heap.size]? =some (.deferred (some [])):=by
  rw[←hW];exact(Below.heap_alloc _ _ _ (by simp)).trans (World.alloc_heap_new w _)
 have hK:Kept w W:=by rw[←hW];exact((Kept.refl w).alloc _).alloc _
 have hS:W.heap.size=w.heap.size+2:=by rw[←hW];simp
 have hge:(frm n l).eval g= .func (.func gf) #[] lb:=opv_eval hg
 refine⟨w.heap.size+1,[{target:=.collected w.heap.size,args:=#[]}],W,{target:=.fn (.func gf) lb,args:=#[.func (.yield (w.heap.size+1)) #[] #[]]},W,gf,
  #[.func (.yield (w.heap.size+1)) #[] #[]]++lb,W,?_,?_,fun _ _=>trivial,?_,(fun h=>by cases h),?_⟩
 ·rw[←hW,hr];exact run_enterLoop_outer _ _ _ _ _
 ·simp only[resolve,hge]
  simp[go_sem]
 ·simp[invoke,go_sem,eg]
 ·refine callsIn_wide.2 ((h fn W w.heap.size _ r rfl rfl hK hS hL hD hr).mono ?_)
  rintro e W' ⟨⟨v,rfl⟩,hl,hq⟩
  exact⟨none,_,by have:=run_endLoop (P:=Tryz.prog) hl (by rw[hr];simp);rw[hr] at this;rw[hr];exact this,hq⟩
theorem zround{L n m:Nat}{fn:FuncId}{r:LoopState→Option Code→Loop}{l:Fm}{ps:Array Tmp}{assign body:Code}{D:Nat}{W:World}{R:World→Prop}{args:Array Value}{l':Fm}(hl:W.heap[L]? =some (.loop (r .ready none)))
 (hr:r=fun st pe=>{state:=st,pending:=pe,fn,tmps:=(frm n l).tmps,params:=ps,assign,body,defers:=D})(hs:args.size=ps.size)
 (ht:(ps.zip args).foldl (fun tmps(t,a)=>tmps.setIfInBounds t a) (frm n l).tmps=(frm n l').tmps)
 (h:assign.wpIn (Fence.wide.inRound L) m Tryz.prog (Exit.then (fun a W1=>W1.heap[L]? =some (.loop (r .ready none))∧body.wpIn (Fence.wide.inRound L) m Tryz.prog (Exit.then (fun _ W3=>W3.heap[L]? =some (.loop (r .busy none))∧R (W3.putObj L (.loop (r .ready none)))) fun _ _ _=>False) a (W1.putObj L (.loop (r .busy none)))) fun _ _ _=>False) (frm n l') W):
 YieldAt Fence.wide m Tryz.prog L args W fun e W'=>e= .returned (.bool true)∧R W':=by
 have hy:=run_yield (P:=Tryz.prog) (args:=args) hl (by rw[hr];exact hs)
 rw[hr] at hy
 dsimp only at hy
 rw[ht] at hy
 refine⟨fn,_,assign,body,hy,roundIn_of_wpIn trivial ?_⟩
 refine wpIn_mono h fun e a W1 q=> ?_
 cases e with
 |normal=>
  obtain⟨hl1,hb⟩:=q
  refine⟨_,by have:=run_beginRound (P:=Tryz.prog) hl1 (by rw[hr]);exact this,?_⟩
  have e1:({r .ready none with state:=.busy}:Loop)=r .busy none:=by rw[hr]
  rw[e1]
  refine wpIn_mono hb fun e a W3 q=> ?_
  cases e with
  |normal=>
   obtain⟨hl3,hR⟩:=q
   refine⟨.bool true,W3.putObj L (.loop (r .ready none)),?_,rfl,hR⟩
   have:=run_endRound (P:=Tryz.prog) none hl3
   rw[this,hr]
   rfl
  |_=>exact q.elim
 |_=>exact q
section
variable{n m:Nat}{l:Fm}{ops:Array Oper}{Q:Exit→Act→World→Prop}{oi:Oper}{fuel:Nat}{listed:Array Bool}{w:World}{d:Nat}
theorem about_step{v:Value}{W:World}{o:Op}{ρ:Operand→Value}{oi:Oper}(ho:oi.op=o)(hs:stepv n l o=some v):oi.about Tryz.prog W ρ=none:=by
 unfold Oper.about
 rw[ho]
 cases o<;>first
  |rfl
  |cases hs
theorem iz(i:Nat){v:Value}(h:wpAnyIn Fence.wide m Tryz.prog .any ops Q fuel (listed.setIfInBounds i true) (frm n (upd l d v)) w)
 (hi:ops[i]? =some oi:=by rfl)(hst:stepv n l oi.op=some v:=by rfl)(hg:oi.guard=none:=by rfl)(hd:oi.dst=some d:=by rfl)
 (hs:Region.noSelect ops=true:=by kernel_rfl)(hf:Region.free .any ops listed i=true:=by kernel_rfl)(hr:(Region.ready .any ops listed).contains i=true:=by kernel_rfl)
 (hQ:∀c a w,Q (.panic c) (a.put oi.dst v) w→Q (.panic c) a w:=by exact fun _ _ _ h=>h):wpAnyIn Fence.wide m Tryz.prog .any ops Q (fuel+1) listed (frm n l) w:=
 wpAnyIn_take rfl hi hs hf hr hQ ⟨.inl ⟨by simp[Region.wanted,hg],fun _=>step_run hst⟩,fun W=>about_step rfl hst⟩ (by rw[hd,frm_put];exact h)
theorem iv{K:Act→World→Prop}{i:Nat}(v:Value)(h:K (frm n (upd l d v)) w)(hi:ops[i]? =some oi:=by rfl)(hrun:(execOp (ev n l) oi).run Tryz.prog w= .ok (.value v) w:=by kernel_rfl)(hg:oi.guard=none:=by rfl)(hd:oi.dst=some d:=by rfl):wpOpIn Fence.wide m Tryz.prog ops Q i K (frm n l) w:=by
 refine wpOpIn_step hi fun K' hK=> ?_
 rw[if_pos (by simp[Region.wanted,hg])]
 refine⟨fun _ _=>trivial,?_⟩
 rw[show(Fence.wide).round=none from rfl,Oper.semAt_none,frm_eval,hrun,Oper.uponIn_value,hd,frm_put]
 exact hK _ _ h
theorem ic{K:Act→World→Prop}{i:Nat}{R:Ending→World→Prop}(f:FuncId)(args:Array Value)(hc:Calls Tryz.prog f args w R)(h:∀e w',R e w'→∃v,e= .returned v∧K (frm n (upd l d v)) w')
 (hi:ops[i]? =some oi:=by rfl)(hrun:(execOp (ev n l) oi).run Tryz.prog w= .ok (.enter f args) w:=by kernel_rfl)(hg:oi.guard=none:=by rfl)(hd:oi.dst=some d:=by rfl):wpOpIn Fence.wide m Tryz.prog ops Q i K (frm n l) w:=by
 refine wpOpIn_step hi fun K' hK=> ?_
 rw[if_pos (by simp[Region.wanted,hg])]
 refine⟨fun _ _=>trivial,?_⟩
 rw[show(Fence.wide).round=none from rfl,Oper.semAt_none,frm_eval,hrun,Oper.uponIn_enter]
 refine⟨(fun h=>by cases h),callsIn_wide.2 (Calls.mono hc fun e w' hR=> ?_)⟩
 obtain⟨v,rfl,h'⟩:=h e w' hR
 rw[hd]
 show K' ((frm n l).put (some d) v) w'
 rw[frm_put]
 exact hK _ _ h'
theorem iy{K:Act→World→Prop}{i L:Nat}{R:Ending→World→Prop}{args:Array Value}(hy:YieldAt Fence.wide (m-1) Tryz.prog L args w R)(h:∀e w',R e w'→∃v,e= .returned v∧K (frm n (upd l d v)) w')
 (hi:ops[i]? =some oi:=by rfl)(hrun:(execOp (ev n l) oi).run Tryz.prog w=(Instr.yield L args).run Tryz.prog w:=by kernel_rfl)(hg:oi.guard=none:=by rfl)(hd:oi.dst=some d:=by rfl):wpOpIn Fence.wide m Tryz.prog ops Q i K (frm n l) w:=by
 obtain⟨fn,tmps,assign,body,hy,hR⟩:=hy
 refine wpOpIn_step hi fun K' hK=> ?_
 rw[if_pos (by simp[Region.wanted,hg])]
 refine⟨fun _ _=>trivial,?_⟩
 rw[show(Fence.wide).round=none from rfl,Oper.semAt_none,frm_eval,hrun,hy,Oper.uponIn_round]
 refine⟨(fun h=>by cases h),hR.mono fun e w' hR=> ?_⟩
 obtain⟨v,rfl,h'⟩:=h e w' hR
 rw[hd]
 show K' ((frm n l).put (some d) v) w'
 rw[frm_put]
 exact hK _ _ h'
end
end
section
open Go Go.RowKit Go.Dig Go.Deep
open Go.Eng (Kept KW KeptB wp_region_kw kw_call)
set_option maxHeartbeats 8000000
set_option maxRecDepth 100000
theorem zret0{n:Nat}{l:Fm}{w:World}{fn:Func}{R:Ending→World→Prop}(hR:∀v,R (.returned v) w)(h:fn.results=#[]:=by rfl):bodyPost Tryz.prog fn R .normal (frm n l) w:=
 ⟨rfl,.tuple #[],by simp[results,h],hR _⟩
theorem run_row{n:Nat}{l:Fm}{oi:Oper}{ty p b o:Nat}{V:Array Value}{w:World}(hr0:w.rangeAt b o V.toList)(hV:Own ty V)(hg:oi.guard=none:=by rfl)(hop:oi.op= .load ty (.tmp p):=by rfl)(hx:opv n l (.tmp p)=some (.pointer (some ⟨b,o,none⟩)):=by rfl)
 (hu:(Tryz.prog.underlying ty).map TypeDesc.isRow=some true:=by kernel_rfl):(execOp (ev n l) oi).run Tryz.prog w= .ok (.value (.agg V)) w:=by
 obtain⟨e,he,hdr⟩:=Option.map_eq_some_iff.1 hu
 have hy:=yieldsIf_load_mid (P:=Tryz.prog) (ops:=#[]) (S:=fun w'=>w'=w) (op:=oi) (a:=frm n l) (by simp[Region.wanted,hg]) ty (.tmp p) hop b o (opv_eval hx) V.toList e (fun _ k=>k▸hr0) he hdr (by simpa using hV.1)
 rw[Array.toArray_toList] at hy
 rcases hy with⟨-,h⟩|⟨h,-⟩
 ·rw[←frm_eval];exact h w rfl
 ·simp[Region.wanted,hg] at h
theorem run_one{n:Nat}{l:Fm}{oi:Oper}{ty p b o:Nat}{x:Value}{w:World}(hc:w.cell? ⟨b,o,none⟩=some x)(hop:oi.op= .load ty (.tmp p):=by rfl)(hx:opv n l (.tmp p)=some (.pointer (some ⟨b,o,none⟩)):=by rfl)
 (hu:(Tryz.prog.underlying ty).map TypeDesc.isRow=some false:=by kernel_rfl):(execOp (ev n l) oi).run Tryz.prog w= .ok (.value x) w:=by
 unfold execOp
 simp only[hop,ev_of hx,Sem.run_bind,run_cell hc hu]
 rfl
theorem il1{n m:Nat}{l:Fm}{ops:Array Oper}{Q:Exit→Act→World→Prop}{oi:Oper}{w:World}{d ty p b o i:Nat}{x:Value}{K:Act→World→Prop}(hc:w.cell? ⟨b,o,none⟩=some x)(h:K (frm n (upd l d x)) w)(hi:ops[i]? =some oi:=by rfl)(hop:oi.op= .load ty (.tmp p):=by rfl)(hx:opv n l (.tmp p)=some (.pointer (some ⟨b,o,none⟩)):=by rfl)
 (hu:(Tryz.prog.underlying ty).map TypeDesc.isRow=some false:=by kernel_rfl)(hg:oi.guard=none:=by rfl)(hd:oi.dst=some d:=by rfl):wpOpIn Fence.wide m Tryz.prog ops Q i K (frm n l) w:=iv x h hi (run_one hc hop hx hu) hg hd
theorem il{n m:Nat}{l:Fm}{ops:Array Oper}{Q:Exit→Act→World→Prop}{oi:Oper}{w:World}{d ty p b o i:Nat}{V:Array Value}{K:Act→World→Prop}(hc:w.rangeAt b o V.toList)(hV:Own ty V)(h:K (frm n (upd l d (.agg V))) w)(hi:ops[i]? =some oi:=by rfl)(hop:oi.op= .load ty (.tmp p):=by rfl)(hx:opv n l (.tmp p)=some (.pointer (some ⟨b,o,none⟩)):=by rfl)
 (hu:(Tryz.prog.underlying ty).map TypeDesc.isRow=some true:=by kernel_rfl)(hg:oi.guard=none:=by rfl)(hd:oi.dst=some d:=by rfl):wpOpIn Fence.wide m Tryz.prog ops Q i K (frm n l) w:=iv _ h hi (run_row hc hV hg hop hx hu) hg hd
theorem ia{n m:Nat}{l:Fm}{ops:Array Oper}{Q:Exit→Act→World→Prop}{fuel:Nat}{listed:Array Bool}{w:World}(i:Nat)(h:wpOpIn Fence.wide m Tryz.prog ops Q i (wpAnyIn Fence.wide m Tryz.prog .any ops Q fuel (listed.setIfInBounds i true)) (frm n l) w)(hr:Region.ready .any ops listed=[i]:=by kernel_rfl):
 wpAnyIn Fence.wide m Tryz.prog .any ops Q (fuel+1) listed (frm n l) w:=wpAnyIn_all hr (by simp) fun j hj=>by rw[List.mem_singleton.1 hj];exact h
theorem ia2{n m:Nat}{l:Fm}{ops:Array Oper}{Q:Exit→Act→World→Prop}{fuel:Nat}{listed:Array Bool}{w:World}(i j:Nat)(h:wpOpIn Fence.wide m Tryz.prog ops Q i (wpAnyIn Fence.wide m Tryz.prog .any ops Q fuel (listed.setIfInBounds i true)) (frm n l) w)
 (k:wpOpIn Fence.wide m Tryz.prog ops Q j (wpAnyIn Fence.wide m Tryz.prog .any ops Q fuel (listed.setIfInBounds j true)) (frm n l) w)(hr:Region.ready .any ops listed=[i,j]:=by kernel_rfl):
 wpAnyIn Fence.wide m Tryz.prog .any ops Q (fuel+1) listed (frm n l) w:=wpAnyIn_all hr (by simp) fun x hx=>by
 rcases List.mem_cons.1 hx with rfl|hx
 ·exact h
 ·rw[List.mem_singleton.1 hx];exact k
theorem sides1_calls{w:World}{gb L:Nat}{a:Option Addr}{n cap:Nat}{l:List SideD}{J:Nat→World→Prop}
 (hc:∀k W,J k W→W.cell? ⟨gb,0,none⟩=some (.slice a n cap)∧Bxm W a n cap l)
 (hY:∀k(hk:k<l.length) W0 W V,J k W0→Kept W0 W→Own 41 V→sideR (onlyW W (ab W0.heap.size)) V.toList l[k]→YieldAt Fence.wide 0 Tryz.prog L #[.int .i64 k,.agg V] W fun e W'=>e= .returned (.bool true)∧J (k+1) W')
 (h0:J 0 w):Calls Tryz.prog 252 #[.func (.yield L) #[] #[],.pointer (some ⟨gb,0,none⟩)] w fun e w'=>(∃v,e= .returned v)∧J l.length w':=by
 obtain⟨hc0,hB0⟩:=hc 0 w h0
 obtain rfl:n=l.length:=hB0.1
 refine entL [_,_] 23 Tryz.func252 rfl Tryz.ntmps252 (by simp) ?_
 iterate 3 go_step
 refine zl1 hc0 ?_
 refine zr (.int .i64 l.length) ?_
 refine zz ?_
 iterate 4 go_step
 refine zloop l.length (fun k=>[(0,.func (.yield L) #[] #[]),(1,.pointer (some ⟨gb,0,none⟩)),(5,.slice a l.length cap),(6,.int .i64 l.length),(7,.int .i64 k)])
  (fun k W=>J k W) ⟨rfl,rfl,rfl,rfl,rfl,trivial⟩ h0 fun fl wr k hk hj=> ?_
 obtain⟨-,hB⟩:=hc k wr hj
 have hbd:l.length<4611686018427387904:=hB.2.2.1
 iterate 3 go_step
 refine z2 (.bool (decide ((k:Int)<(l.length:Int)))) ?_
 iterate 4 go_step
 cases hlt:decide ((k:Int)<(l.length:Int))
 case' false=>
  obtain rfl:k=l.length:=by have:=of_decide_eq_false hlt;omega
  refine zt_false ?_
  iterate 5 go_step
  exact zret0 fun v=>⟨⟨v,rfl⟩,hj⟩
 have hlt:k<l.length:=by have:=of_decide_eq_true hlt;omega
 obtain⟨b,off,a1,n1,c1,a2,n2,c2,a3,n3,c3,a4,n4,c4,rfl,rV,r1,r2⟩:=hB.row hlt
 refine zt_true ?_
 iterate 7 go_step
 refine zz ?_
 refine zi (s:=9) k hlt ?_
 refine zl (V:=#[_,_,_,_,_,_,_,_,_]) rV own41 ?_
 refine za Z9 41 fun wa g4 ea ka b4 sa=> ?_
 refine zz ?_
 refine zt b4 own41 own41 fun wb kb b4=> ?_
 have kab:=ka.but kb (by omega)
 iterate 4 go_step
 refine(wpIn_wide (n:=1)).1 (wpIn_region_any (by kernel_rfl) ?_)
 have kd:Kept wr {wb with drawn:=wb.drawn+1}:=kab.trans ⟨Nat.le_refl _,fun _ _=>rfl,rfl,rfl,rfl⟩
 replace b4:Blk {wb with drawn:=wb.drawn+1} g4 _ 41:=b4
 generalize ({wb with drawn:=wb.drawn+1}:World)=w0 at kd b4⊢
 have q0:=kd.size
 have hv:∀W,Kept w0 W→Ivl W (.agg #[.bool l[k].iv.s1,.slice a1 n1 c1,.slice a2 n2 c2,.bool l[k].iv.s2,.slice a3 n3 c3,.slice a4 n4 c4,.bool l[k].iv.li,.bool l[k].iv.hi]) l[k].iv:=fun W K=>⟨_,_,_,_,_,_,_,_,_,_,_,_,rfl,r1.kept (kd.trans K),r2.kept (kd.trans K)⟩
 refine iz 0 ?_
 refine iz 1 ?_
 refine iz 2 ?_
 refine iz 4 ?_
 have hN:wr.heap.size≤w0.heap.size:=kd.size
 have hsub:∀W W':World,Kept W W'→w0.heap.size≤W.heap.size→∀v,Ivl (onlyW W' (ab W.heap.size)) v l[k].iv→Ivl (onlyW W' (ab wr.heap.size)) v l[k].iv:=fun W W' _ hW v hv=>hv.sub (only_mono fun b hb=>by
  unfold ab at hb⊢
  simp only[decide_eq_true_eq] at hb⊢
  omega)
 refine ia2 3 5 ?pa ?qa
 case' qa=>
  refine il (V:=#[.bool l[k].iv.s1,.slice a1 n1 c1,.slice a2 n2 c2,.bool l[k].iv.s2,.slice a3 n3 c3,.slice a4 n4 c4,.bool l[k].iv.li,.bool l[k].iv.hi]) (b4.part 1) own39 ?_
  refine ia2 3 6 ?ra ?sa
 case' pa=>
  refine il1 (b4.cell 0 rfl) ?_
  refine ia 5 ?_
  refine il (V:=#[.bool l[k].iv.s1,.slice a1 n1 c1,.slice a2 n2 c2,.bool l[k].iv.s2,.slice a3 n3 c3,.slice a4 n4 c4,.bool l[k].iv.li,.bool l[k].iv.hi]) (b4.part 1) own39 ?_
  refine ia 6 ?_
  refine ic 154 _ (eown_calls (hv _ (Kept.refl w0))) ?_
  rintro e w2 ⟨v',rfl,hv',k2⟩
  refine⟨_,rfl,?_⟩
 case' ra=>
  refine il1 (b4.cell 0 rfl) ?_
  refine ia 6 ?_
  refine ic 154 _ (eown_calls (hv _ (Kept.refl w0))) ?_
  rintro e w2 ⟨v',rfl,hv',k2⟩
  refine⟨_,rfl,?_⟩
 case' sa=>
  refine ic 154 _ (eown_calls (hv _ (Kept.refl w0))) ?_
  rintro e w2 ⟨v',rfl,hv',k2⟩
  refine⟨_,rfl,?_⟩
  refine ia 3 ?_
  refine il1 ((b4.kept k2).cell 0 rfl) ?_
 all_goals
  replace hv':=hsub _ _ k2 (Nat.le_refl _) _ hv'
  obtain⟨b1,m1,d1,b2,m2,d2,b3,m3,d3,b5,m5,d5,rfl,x1,x2⟩:=hv'
  refine ia 7 ?_
  refine iv (.agg #[.string l[k].name,.bool l[k].iv.s1,.slice b1 m1 d1,.slice b2 m2 d2,.bool l[k].iv.s2,.slice b3 m3 d3,.slice b5 m5 d5,.bool l[k].iv.li,.bool l[k].iv.hi]) ?_
  refine ia 8 ?_
  refine iy (hY k hlt wr w2 _ hj (kd.trans k2) own41 ⟨_,_,_,_,_,_,_,_,_,_,_,_,_,_,_,_,rfl,_,_,_,_,_,_,_,_,_,_,_,_,rfl,x1,x2⟩) ?_
  rintro e w3 ⟨rfl,hj3⟩
  refine⟨_,rfl,?_⟩
  refine ia 9 ?_
  refine iv (.bool false) ?_
  refine wpAnyIn_done (by kernel_rfl) ?_ _
  iterate 2 go_step
  refine zt_false ?_
  iterate 4 go_step
  refine z2 (.int .i64 ((k+1:Nat):Int)) (hrun:=run_inc (by omega)) ?_
  refine zz ?_
  iterate 3 go_step
  exact⟨_,rfl,hlt,⟨rfl,rfl,rfl,rfl,rfl,trivial⟩,hj3⟩
end
section
open Go Go.RowKit Go.Dig Go.Deep
open Go.Eng (Kept KW KeptB wp_region_kw kw_call)
def dropL(nm:ByteArray)(l:List SideD):List SideD:=l.filter fun s=> !(s.name.toList==nm.toList)
def dropN(nm:ByteArray)(l:List SideD)(k:Nat):Nat:=(dropL nm (l.take k)).length
theorem dropN_all(nm:ByteArray)(l:List SideD):dropN nm l l.length=(dropL nm l).length:=by unfold dropN;rw[List.take_length]
theorem dropN_out{nm:ByteArray}{l:List SideD}{k:Nat}(hk:k<l.length)(h:(l[k].name.toList==nm.toList)=true):dropN nm l (k+1)=dropN nm l k:=by
 unfold dropN dropL
 rw[List.take_succ_eq_append_getElem hk,List.filter_append]
 simp[h]
theorem dropN_in{nm:ByteArray}{l:List SideD}{k:Nat}(hk:k<l.length)(h:(l[k].name.toList==nm.toList)=false):
 dropN nm l (k+1)=dropN nm l k+1∧∃h':dropN nm l k<(dropL nm l).length,(dropL nm l)[dropN nm l k]=l[k]:=by
 have e:dropL nm l=dropL nm (l.take k)++l[k]::dropL nm (l.drop (k+1)):=by
  unfold dropL
  conv=>lhs;rw[←List.take_append_drop k l,List.filter_append,List.drop_eq_getElem_cons hk]
  rw[List.filter_cons_of_pos (by simp only[h];rfl)]
 refine⟨?_,?_,?_⟩
 ·unfold dropN dropL
  rw[List.take_succ_eq_append_getElem hk,List.filter_append]
  simp[h]
 ·rw[e];unfold dropN;simp
 ·simp only[e];unfold dropN;simp
theorem dropL_le(nm:ByteArray)(l:List SideD):(dropL nm l).length≤l.length:=List.length_filter_le ..
theorem put_put(w:World)(L:Nat)(o o':Obj):(w.putObj L o).putObj L o'=w.putObj L o':=by
 unfold World.putObj
 simp
theorem put_self{w:World}{L:Nat}{o:Obj}(h:w.heap[L]? =some o):w.putObj L o=w:=by
 obtain⟨hlt,he⟩:=Array.getElem?_eq_some_iff.1 h
 unfold World.putObj
 cases w with
 |mk heap tape drawn os output=>
  congr 1
  simp only at he hlt⊢
  rw[←he]
  apply Array.ext
  ·simp
  ·intro j h1 h2
   rw[Array.getElem_setIfInBounds]
   split
   ·rename_i hj;subst hj;rfl
   ·rfl
theorem put_keptB(w:World)(L:Nat)(o:Obj):KeptB w (w.putObj L o) L:=⟨by simp,fun c _ hne=>World.putObj_heap_other hne,rfl,rfl,rfl⟩
theorem Grow.put{α:Type}{W0 W:World}{b3 e sz:Nat}{v:Value}{k:Nat}{cs:List Value}{R:World→List Value→α→Prop}{ts:List α}{L:Nat}(o:Obj)(h:Grow W0 W b3 e sz v k cs R ts)(hR:∀w w',Sub w w'→∀l t,R w l t→R w' l t)(hL:L<W0.heap.size):
 Grow (W0.putObj L o) (W.putObj L o) b3 e sz v k cs R ts:=by
 have kp:=put_keptB W L o
 have hs:(W0.putObj L o).heap.size=W0.heap.size:=by simp
 have hsz:=h.kb.size
 refine⟨⟨by simpa using hsz,fun c hc hne=> ?_,h.kb.tape,h.kb.os,h.kb.output⟩,?_,?_⟩
 ·by_cases hcl:c=L
  ·subst hcl
   rw[World.putObj_heap_same hL,World.putObj_heap_same (by omega)]
  ·rw[World.putObj_heap_other hcl,World.putObj_heap_other hcl]
   exact h.kb.old c (by omega) hne
 ·rw[hs];exact own_keptB h.own kp hL
 ·rw[hs]
  exact h.rows.mono (hR _ _ (only_move fun b hb hx=>⟨hx,kp.old b hb (by
   simp only[S1,Bool.and_eq_true,decide_eq_true_eq] at hx
   omega)⟩))
section
variable{n:Nat}{l:Fm}{ops:Array Oper}{rest:List Oper}{Q:Exit→Act→World→Prop}{oi:Oper}{w:World}{d:Nat}{ds:List Deferred}
theorem tmps_set{n:Nat}{l:Fm}{d:Nat}{v:Value}:(frm n l).tmps.setIfInBounds d v=(frm n (upd l d v)).tmps:=congrArg Act.tmps frm_set
theorem eval_ds(a:Act)(ds:List Deferred):(⟨a.tmps,ds⟩:Act).eval=a.eval:=by
 funext x
 cases x<;>rfl
theorem zdl1{ty p b o:Nat}{x:Value}(hc:w.cell? ⟨b,o,none⟩=some x)(h:wpList Tryz.prog ops Q rest ⟨(frm n (upd l d x)).tmps,ds⟩ w)
 (hg:oi.guard=none:=by rfl)(hd:oi.dst=some d:=by rfl)(hop:oi.op= .load ty (.tmp p):=by rfl)(hx:opv n l (.tmp p)=some (.pointer (some ⟨b,o,none⟩)):=by rfl)(hu:(Tryz.prog.underlying ty).map TypeDesc.isRow=some false:=by kernel_rfl):
 wpList Tryz.prog ops Q (oi::rest) ⟨(frm n l).tmps,ds⟩ w:=ll1 (a:=⟨(frm n l).tmps,ds⟩) hc (by rw[tmps_set];exact h) hg hd hop (tmp_get hx) hu
theorem zdz{v:Value}(h:wpList Tryz.prog ops Q rest ⟨(frm n (upd l d v)).tmps,ds⟩ w)(hs:stepv n l oi.op=some v:=by rfl)(hg:oi.guard=none:=by rfl)(hd:oi.dst=some d:=by rfl):wpList Tryz.prog ops Q (oi::rest) ⟨(frm n l).tmps,ds⟩ w:=
 lv (a:=⟨(frm n l).tmps,ds⟩) v (by rw[eval_ds];exact step_run hs) hg hd (by rw[tmps_set];exact h)
end
theorem zround2{L n m:Nat}{fn:FuncId}{r:LoopState→Option Code→Loop}{l:Fm}{p1 p2:Tmp}{v1 v2:Value}{assign body:Code}{D:Nat}{W:World}{R:World→Prop}(hl:W.heap[L]? =some (.loop (r .ready none)))
 (hr:r=fun st pe=>{state:=st,pending:=pe,fn,tmps:=(frm n l).tmps,params:=#[p1,p2],assign,body,defers:=D})
 (h:assign.wpIn (Fence.wide.inRound L) m Tryz.prog (Exit.then (fun a W1=>W1.heap[L]? =some (.loop (r .ready none))∧body.wpIn (Fence.wide.inRound L) m Tryz.prog (Exit.then (fun _ W3=>W3.heap[L]? =some (.loop (r .busy none))∧R (W3.putObj L (.loop (r .ready none)))) fun _ _ _=>False) a (W1.putObj L (.loop (r .busy none)))) fun _ _ _=>False) (frm n (upd (upd l p1 v1) p2 v2)) W):
 YieldAt Fence.wide m Tryz.prog L #[v1,v2] W fun e W'=>e= .returned (.bool true)∧R W':=zround hl hr rfl (by rw[←tmps_set,←tmps_set];simp) h
theorem res2{fn:Func}{n:Nat}{l:Fm}{t u:Tmp}{v x:Value}{w:World}(h:fn.results=#[.tmp t,.tmp u])(h1:opv n l (.tmp t)=some v)(h2:opv n l (.tmp u)=some x):(results fn (frm n l).tmps).run Tryz.prog w= .ok (.tuple #[v,x]) w:=by
 have e1:=tmp_get h1
 have e2:=tmp_get h2
 simp only[Array.getD_eq_getD_getElem?] at e1 e2
 simp[results,h,e1,e2]
theorem entM{f:FuncId}{fn:Func}{c:Code}{w:World}{R:Ending→World→Prop}(vs:List Value)(N:Nat)(hf:Tryz.prog.funcs[f]? =some fn)(hb:fn.body=some c)(hn:fn.ntmps=N)(hle:vs.length≤N)
 (h:c.wp Tryz.prog (bodyPostM Fence.wide 0 Tryz.prog fn R) (frm N fun i=>vs[i]?) w):Calls Tryz.prog f vs.toArray w R:=by
 have e:(⟨vs.toArray++Array.replicate (N-vs.length) undef,[]⟩:Act)=frm N (fun i=>vs[i]?):=by
  refine congrArg (fun t=>(⟨t,[]⟩:Act)) (?_:vs.toArray++Array.replicate (N-vs.length) undef=((List.range N).map fun i=>(vs[i]?).getD undef).toArray)
  apply Array.ext
  ·simp;omega
  ·intro i h1 h2
   simp only[Array.getElem_append,List.size_toArray,List.getElem_toArray,List.getElem_map,List.getElem_range,Array.getElem_replicate]
   split
   ·rename_i hi
    rw[List.getElem?_eq_getElem hi]
    rfl
   ·rename_i hi
    rw[List.getElem?_eq_none (by omega)]
    rfl
 refine(callsIn_wide (n:=0)).1 (callsIn_of_wp_marks hf hb trivial (wpIn_wide.2 ?_))
 rw[hn,show vs.toArray.size=vs.length from rfl,e]
 exact h
end
section
open Go Go.RowKit Go.Dig Go.Deep
open Go.Eng (Kept KW KeptB wp_region_kw kw_call)
set_option maxHeartbeats 8000000
set_option maxRecDepth 100000
theorem sides_calls(w:World)(a:Option Addr)(n cap:Nat):Calls Tryz.prog 160 #[.slice a n cap] w fun e w'=>e= .returned (.func (.func 252) #[] #[.pointer (some ⟨w.heap.size,0,none⟩)])∧Kept w w'∧w'.cell? ⟨w.heap.size,0,none⟩=some (.slice a n cap):=by
 refine ent1 3 Tryz.func160 rfl Tryz.ntmps160 ?_
 iterate 3 go_step
 refine za #[.slice a n cap] 28 fun w1 g1 e1 k1 b1 s1=> ?_
 refine zz ?_
 iterate 5 go_step
 refine zr (.func (.func 252) #[] #[.pointer (some ⟨g1,0,none⟩)]) ?_
 refine zz ?_
 iterate 5 go_step
 subst e1
 exact zretT ⟨rfl,k1,b1.cell 0 rfl⟩
theorem drop_calls{w:World}{a:Option Addr}{n cap:Nat}{l:List SideD}{nm:ByteArray}(h:Bxm w a n cap l)(hok:boxOk l=true)(hnm:isName nm=true){i:Nat}(hs:sideAt l 0 nm=(i:Int))(hT:Laid w):
 Calls Tryz.prog 82 #[.slice a n cap,.string nm] w fun e w'=>∃a' cap',e= .returned (.tuple #[.slice a' (dropL nm l).length cap',.int .i64 0])∧Bxm (onlyW w' (ab w.heap.size)) a' (dropL nm l).length cap' (dropL nm l)∧Kept w w':=by
 have hni:=fun(w':World)=>eisname_calls w' nm
 rw[hnm] at hni
 have hv:=fun(w':World)(k:Kept w w')=>evalid_calls (h.kept k) (hT.kept k)
 rw[hok] at hv
 have hx:=fun(w':World)(k:Kept w w')=>eindex_calls (h.kept k) nm
 rw[hs] at hx
 obtain rfl:n=l.length:=h.1
 have h6:l.length≤6:=by
  unfold boxOk at hok
  simp only[Bool.and_eq_true,decide_eq_true_eq] at hok
  exact hok.1
 have hd6:=dropL_le nm l
 refine entM [_,_] 35 Tryz.func82 rfl Tryz.ntmps82 (by simp) ?_
 iterate 3 go_step
 refine za #[.string nm] 9 fun w1 g1 e1 k1 b1 s1=> ?_
 refine zz ?_
 refine zz ?_
 iterate 7 go_step
 refine zl1 (b1.cell 0 rfl) ?_
 refine zc 148 _ (hni _) ?_
 rintro e w2 ⟨rfl,k2⟩
 refine⟨_,rfl,?_⟩
 refine zz ?_
 refine zz ?_
 replace b1:=b1.kept k2
 iterate 3 go_step
 refine zt_false ?_
 iterate 2 go_step
 refine zz ?_
 refine zc 76 _ (hv _ (k1.trans k2)) ?_
 rintro e w3 ⟨rfl,k3⟩
 refine⟨_,rfl,?_⟩
 refine zz ?_
 refine zz ?_
 replace b1:=b1.kept k3
 iterate 3 go_step
 refine zt_false ?_
 iterate 2 go_step
 refine zz ?_
 refine zl1 (b1.cell 0 rfl) ?_
 refine zc 153 _ (hx _ ((k1.trans k2).trans k3)) ?_
 rintro e w4 ⟨rfl,k4⟩
 refine⟨_,rfl,?_⟩
 refine z2 (.bool (decide ((i:Int)<0))) ?_
 rw[show decide ((i:Int)<0)=false from decide_eq_false (by omega)]
 refine zz ?_
 replace b1:=b1.kept k4
 iterate 3 go_step
 refine zt_false ?_
 iterate 5 go_step
 refine za #[.slice none 0 0] 28 fun w5 g6 e6 k5 b6 s5=> ?_
 replace b1:=b1.kept k5
 have K5:=(((k1.trans k2).trans k3).trans k4).trans k5
 iterate 6 go_step
 refine zz ?_
 refine zc 160 _ (sides_calls _ a l.length cap) ?_
 rintro e w6 ⟨rfl,k6,c6⟩
 refine⟨_,rfl,?_⟩
 replace b1:=b1.kept k6
 replace b6:=b6.kept k6
 have K6:=K5.trans k6
 iterate 4 go_step
 have q5:=k5.size
 have q6:=k6.size
 have q4:=(((k1.trans k2).trans k3).trans k4).size
 have q14:=((k2.trans k3).trans k4).size
 refine zrf (gf:=252) (lb:=#[.pointer (some ⟨w5.heap.size,0,none⟩)]) rfl (enters_of Tryz.func252 (by kernel_rfl) rfl) fun fn W0 D L r eD eL kW sW hL hD hr=> ?_
 replace b1:=b1.kept kW
 replace b6:=b6.kept kW
 replace c6:=kW.cell c6
 have K0:=K6.trans kW
 have qW:=kW.size
 have d0:dropN nm l 0=0:=by simp[dropN,dropL]
 refine(sides1_calls (l:=l) (n:=l.length) (a:=a) (cap:=cap) (J:=fun k W=>W.heap[L]? =some (.loop (r .ready none))∧W.heap[D]? =some (.deferred (some []))∧∃a3 cap3 cs,Blk W g6 #[.slice a3 (dropN nm l k) cap3] 28∧Grow W0 W g6 41 9 (.slice a3 (dropN nm l k) cap3) (dropN nm l k) cs sideR (dropL nm l)) ?_ ?_ ?_).mono ?_
 ·rintro k W ⟨-,-,a3,cap3,cs,-,G⟩
  exact⟨G.kb.cell c6 (by show w5.heap.size≠g6;omega),h.kept (K0.but G.kb (by omega))⟩
 ·rintro k hk Wj W V ⟨hLj,hDj,a3,cap3,cs,b6j,G⟩ kj oV ⟨s1,a1,n1,c1,a2,n2,c2,s2,a4,n4,c4,a5,n5,c5,p,q,eV,hI⟩
  obtain rfl:V=#[.string l[k].name,.bool s1,.slice a1 n1 c1,.slice a2 n2 c2,.bool s2,.slice a4 n4 c4,.slice a5 n5 c5,.bool p,.bool q]:=by
   rw[←Array.toArray_toList (xs:=V),eV]
  have hlL:L<Wj.heap.size:=by have:=G.kb.size;omega
  refine zround2 ((kj.old _ hlL).trans hLj) hr ?_
  refine region_round ?_ (fun ⟨_,_,h⟩=>h)
  refine za Z9 41 fun wa g8 ea ka b8 sa=> ?_
  refine zt b8 own41 own41 fun wb kb b8=> ?_
  refine wpList_nil ?_
  have kab:=kj.trans (ka.but kb (by omega))
  have qab:=kab.size
  have hlb:=(kab.old _ hlL).trans hLj
  refine⟨hlb,?_⟩
  have own_lt:=fun g hg=>World.ownsRow.lt G.own g hg
  have qj:=G.kb.size
  have qw:=kj.size
  have kp:=put_keptB wb L (.loop (r .busy none))
  have Gc:=(G.kept sideR_sub kab).put (.loop (r .busy none)) sideR_sub (show L<W0.heap.size by omega)
  replace b8:=b8.keptB kp (by omega)
  have b1c:=(((b1.keptB G.kb (by omega)).kept kab)).keptB kp (by omega)
  have b6c:=(b6j.kept kab).keptB kp (by omega)
  have hIc:Ivl (onlyW (wb.putObj L (.loop (r .busy none))) (ab Wj.heap.size)) _ _:=hI.sub (only_move fun b hb hs=>⟨hs,(kp.old b (by have:=ka.size;have:=kb.size;omega) (by unfold ab at hs;simp only[decide_eq_true_eq] at hs;omega)).trans ((ka.but kb (by omega)).old b hb)⟩)
  have hz0:(W0.putObj L (.loop (r .busy none))).heap.size=W0.heap.size:=by simp
  have hDc:(W0.putObj L (.loop (r .busy none))).heap[D]? =some (.deferred (some [])):=(World.putObj_heap_other (by omega)).trans hD
  have hLc:(W0.putObj L (.loop (r .busy none))).heap[L]? =some (.loop (r .busy none)):=World.putObj_heap_same (by omega)
  have back:((W0.putObj L (.loop (r .busy none))).putObj L (.loop (r .ready none)))=W0:=by rw[put_put,put_self hL]
  generalize wb.putObj L (.loop (r .busy none))=wc at kp Gc b8 b1c b6c hIc⊢
  have qc:=kp.size
  generalize W0.putObj L (.loop (r .busy none))=Wc at Gc hz0 hDc hLc back
  have close:∀(we:World)(k':Nat) a3 cap3 cs,k'=dropN nm l (k+1)→Blk we g6 #[.slice a3 k' cap3] 28→Grow Wc we g6 41 9 (.slice a3 k' cap3) k' cs sideR (dropL nm l)→we.heap[L]? =some (.loop (r .busy none))∧(we.putObj L (.loop (r .ready none))).heap[L]? =some (.loop (r .ready none))∧(we.putObj L (.loop (r .ready none))).heap[D]? =some (.deferred (some []))∧
   ∃a3 cap3 cs,Blk (we.putObj L (.loop (r .ready none))) g6 #[.slice a3 (dropN nm l (k+1)) cap3] 28∧Grow W0 (we.putObj L (.loop (r .ready none))) g6 41 9 (.slice a3 (dropN nm l (k+1)) cap3) (dropN nm l (k+1)) cs sideR (dropL nm l):=by
   rintro we k' a3 cap3 cs rfl hb hG
   have hle:=(hG.kb.old L (by omega) (by omega)).trans hLc
   have hlt:=(Array.getElem?_eq_some_iff.1 hle).1
   refine⟨hle,World.putObj_heap_same hlt,(World.putObj_heap_other (by omega)).trans ((hG.kb.old D (by omega) (by omega)).trans hDc),a3,cap3,cs,hb.keptB (put_keptB we L _) (by omega),?_⟩
   have:=hG.put (.loop (r .ready none)) sideR_sub (show L<Wc.heap.size by omega)
   rwa [back] at this
  refine wpIn_block ?_
  refine wpIn_seq ?_
  refine region_round ?_ (fun ⟨_,_,h⟩=>h)
  refine zz ?_
  refine zl1 (b8.cell 0 rfl) ?_
  refine zl1 (b1c.cell 0 rfl) ?_
  refine z2 (.bool (!(l[k].name.toList==nm.toList))) ?_
  refine wpList_nil ?_
  cases hq:(l[k].name.toList==nm.toList)
  case' true=>
   refine wpIn_cond_false (opv_eval rfl) ?_
   refine wpIn_skip ?_
   exact close _ _ _ _ _ (dropN_out hk hq).symm b6c Gc
  case' false=>
   obtain⟨e1,h',e2⟩:=dropN_in hk hq
   refine wpIn_cond_true (opv_eval rfl) ?_
   refine region_round ?_ (fun ⟨_,_,h⟩=>h)
   refine zl1 (b6c.cell 0 rfl) ?_
   refine zl (V:=#[.string l[k].name,.bool s1,.slice a1 n1 c1,.slice a2 n2 c2,.bool s2,.slice a4 n4 c4,.slice a5 n5 c5,.bool p,.bool q]) b8.range own41 ?_
   refine zgrowB (R:=sideR) (V:=#[.string l[k].name,.bool s1,.slice a1 n1 c1,.slice a2 n2 c2,.bool s2,.slice a4 n4 c4,.slice a5 n5 c5,.bool p,.bool q]) info41 rfl (by decide) (by decide) Tryz.underlying28 Gc sideR_sub b6c (by omega) own41.2 rfl h' (by omega) (T:=ab Wj.heap.size) (by rw[e2];exact⟨_,_,_,_,_,_,_,_,_,_,_,_,_,_,_,_,rfl,hIc⟩) (fun b hb=> ?_) (by kernel_rfl) fun wd a' cap' G b6d=> ?_
   ·unfold ab at hb
    simp only[decide_eq_true_eq] at hb
    refine⟨by omega,fun he=> ?_⟩
    have:=(own_lt b he.symm).2
    omega
   refine zt1x (i:=0) b6d (by simp) rfl fun we ke b6e=> ?_
   refine wpList_nil ?_
   exact close _ _ _ _ _ e1.symm b6e (G.store sideR_sub ke (by omega))
 ·exact⟨hL,hD,none,0,[],by rw[d0];exact b6,by rw[d0];exact Grow.start ..⟩
 ·rintro e W ⟨⟨v,rfl⟩,hLj,hDj,a3,cap3,cs,b6j,G⟩
  refine⟨⟨v,rfl⟩,hLj,?_⟩
  have kp:=put_keptB W L (.loop (r .exhausted none))
  have qj:=G.kb.size
  rw[dropN_all] at b6j G
  replace b6j:=b6j.keptB kp (by omega)
  have hDp:(W.putObj L (.loop (r .exhausted none))).heap[D]? =some (.deferred (some [])):=(World.putObj_heap_other (by omega)).trans hDj
  have Kp:=(K0.but G.kb (by omega)).but kp (by omega)
  generalize W.putObj L (.loop (r .exhausted none))=wp at kp b6j hDp Kp⊢
  iterate 4 go_step
  refine zdl1 (b6j.cell 0 rfl) ?_
  refine zdz ?_
  refine zdz ?_
  iterate 5 go_step
  have kd:=put_keptB wp D (.deferred none)
  obtain⟨hcap,hcell,hrows⟩:=G.done sideR_sub (N:=w.heap.size) (W':=wp.putObj D (.deferred none)) (by omega) (fun b hb h=>(kd.old b (by have:=kp.size;omega) (by omega)).trans (kp.old b hb (by omega)))
  refine⟨by simp,.inl ⟨_,_,rfl,run_takeDeferred hDp,?_⟩⟩
  refine⟨.tuple #[.slice a3 (dropL nm l).length cap3,.int .i64 0],?_,a3,cap3,rfl,Bxm.mk hcap (by omega) hcell hrows,Kp.but kd (by omega)⟩
  exact res2 rfl rfl rfl
end
section
open Go Go.RowKit Go.Dig
theorem less_trans{a b c:List UInt8}(h:Op.bytesLess a b=true)(k:Op.bytesLess b c=true):Op.bytesLess a c=true:=by
 rw[Go.Proofs.bytesLess_eq] at*
 exact decide_eq_true (List.lt_trans (of_decide_eq_true h) (of_decide_eq_true k))
theorem less_irr(a:List UInt8):Op.bytesLess a a=false:=by
 rw[Go.Proofs.bytesLess_eq]
 exact decide_eq_false (List.lt_irrefl a)
def lessS(a b:SideD):Prop:=Op.bytesLess a.name.toList b.name.toList=true
theorem boxOk_iff{l:List SideD}:boxOk l=true↔l.length≤6∧(∀s∈l,isName s.name=true∧s.iv.fine=true∧s.iv.void=false)∧l.Pairwise lessS:=by
 constructor
 ·intro h
  unfold boxOk at h
  simp only[Bool.and_eq_true,decide_eq_true_eq,List.all_eq_true,List.mem_range] at h
  obtain⟨h6,hs⟩:=h
  have hk:∀k(hk:k<l.length),isName l[k].name=true∧l[k].iv.fine=true∧l[k].iv.void=false∧(k≠0→Op.bytesLess (l.getD (k-1) default).name.toList l[k].name.toList=true):=by
   intro k hk
   have:=hs k hk
   unfold sideOk at this
   rw[getD_at hk] at this
   simp only[Bool.and_eq_true,Bool.or_eq_true,beq_iff_eq,Bool.not_eq_true'] at this
   exact⟨this.1.1.1,this.1.2,this.2,fun h0=>this.1.1.2.resolve_left h0⟩
  refine⟨h6,fun s hs=> ?_,?_⟩
  ·obtain⟨k,hk',rfl⟩:=List.getElem_of_mem hs
   have:=hk k hk'
   exact⟨this.1,this.2.1,this.2.2.1⟩
  ·rw[List.pairwise_iff_getElem]
   intro i j hi hj hij
   induction j with
   |zero=>omega
   |succ j ih=>
    have h1:=(hk (j+1) hj).2.2.2 (by omega)
    rw[Nat.add_sub_cancel,getD_at (by omega)] at h1
    rcases Nat.lt_or_ge i j with h2|h2
    ·exact less_trans (ih (by omega) h2) h1
    ·obtain rfl:i=j:=by omega
     exact h1
 ·rintro⟨h6,hs,hp⟩
  refine boxOk_good h6 fun k hk=> ?_
  obtain⟨g1,g2,g3⟩:=hs _ (List.getElem_mem hk)
  unfold sideOk
  rw[getD_at hk,g1,g2,g3]
  by_cases h0:k=0
  ·subst h0;rfl
  ·rw[getD_at (show k-1<l.length by omega)]
   have:=(List.pairwise_iff_getElem.1 hp) (k-1) k (by omega) hk (by omega)
   unfold lessS at this
   rw[this]
   simp
theorem drop_ok{l:List SideD}(nm:ByteArray)(h:boxOk l=true):boxOk (dropL nm l)=true:=by
 rw[boxOk_iff] at h⊢
 exact⟨Nat.le_trans (dropL_le nm l) h.1,fun s hs=>h.2.1 s (List.mem_filter.1 hs).1,h.2.2.filter _⟩
theorem sideAt_mem(x:ByteArray):∀(l:List SideD)(k:Nat),0≤sideAt l k x↔∃s∈l,(s.name.toList==x.toList)=true
 |[],k=>by simp[sideAt]
 |s::l,k=>by
  rw[sideAt]
  split
  ·rename_i h;exact⟨fun _=>⟨s,List.mem_cons_self,h⟩,fun _=>by omega⟩
  ·rename_i h
   rw[sideAt_mem x l (k+1)]
   constructor
   ·rintro⟨t,ht,e⟩;exact⟨t,List.mem_cons_of_mem _ ht,e⟩
   ·rintro⟨t,ht,e⟩
    rcases List.mem_cons.1 ht with rfl|ht
    ·exact absurd e h
    ·exact⟨t,ht,e⟩
theorem drop_cov{l:List SideD}{nm:ByteArray}{vs ts:List ByteArray}(h:covB l vs=true)(hv:∀x,x∈ts→x∈vs∧x≠nm):covB (dropL nm l) ts=true:=by
 unfold covB at h⊢
 rw[List.all_eq_true] at h⊢
 intro x hx
 obtain⟨h1,h2⟩:=hv x hx
 have:=of_decide_eq_true (h x h1)
 rw[sideAt_mem] at this
 obtain⟨s,hs,e⟩:=this
 refine decide_eq_true ((sideAt_mem x _ 0).2 ⟨s,List.mem_filter.2 ⟨hs,?_⟩,e⟩)
 cases hq:(s.name.toList==nm.toList)
 ·rfl
 ·exact absurd ((name_eq e).trans (name_eq hq).symm) h2
theorem sideAt_at(x:ByteArray):∀(l:List SideD)(k i:Nat),sideAt l k x=(i:Int)→k≤i∧∃h:i-k<l.length,(l[i-k].name.toList==x.toList)=true
 |[],k,i,h=>by simp[sideAt] at h
 |s::l,k,i,h=>by
  rw[sideAt] at h
  split at h
  ·rename_i hq
   have:k=i:=by omega
   subst this
   exact⟨Nat.le_refl _,by simp,by simpa using hq⟩
  ·obtain⟨h1,h2,h3⟩:=sideAt_at x l (k+1) i h
   refine⟨by omega,by simp only[List.length_cons];omega,?_⟩
   have e:i-k=(i-(k+1))+1:=by omega
   simp only[e,List.getElem_cons_succ]
   exact h3
theorem drop_eq{l:List SideD}{nm:ByteArray}{i:Nat}(h:boxOk l=true)(hi:i<l.length)(hn:(l[i].name.toList==nm.toList)=true):dropL nm l=l.take i++l.drop (i+1):=by
 have hp:=(boxOk_iff.1 h).2.2
 have ne:∀j(hj:j<l.length),j≠i→(l[j].name.toList==nm.toList)=false:=by
  intro j hj hji
  cases hq:(l[j].name.toList==nm.toList)
  ·rfl
  ·have e:l[j].name.toList=l[i].name.toList:=by
    rw[beq_iff_eq] at hq hn
    rw[hq,hn]
   exfalso
   rcases Nat.lt_or_gt_of_ne hji with hlt|hlt
   ·have:=(List.pairwise_iff_getElem.1 hp) j i hj hi hlt
    unfold lessS at this
    rw[e,less_irr] at this
    cases this
   ·have:=(List.pairwise_iff_getElem.1 hp) i j hi hj hlt
    unfold lessS at this
    rw[e,less_irr] at this
    cases this
 unfold dropL
 conv=>lhs;rw[←List.take_append_drop i l,List.filter_append,List.drop_eq_getElem_cons hi]
 rw[List.filter_cons_of_neg (by simp[hn]),List.filter_eq_self.2,List.filter_eq_self.2]
 ·intro s hs
  obtain⟨j,hj,rfl⟩:=List.getElem_of_mem hs
  simp only[List.length_drop] at hj
  rw[List.getElem_drop,ne _ (by omega) (by omega)]
  rfl
 ·intro s hs
  obtain⟨j,hj,rfl⟩:=List.getElem_of_mem hs
  simp only[List.length_take] at hj
  rw[List.getElem_take,ne _ (by omega) (by omega)]
  rfl
def faceI(c:ClaimD)(nm:ByteArray):IvD:=(c.box.getD (sideAt c.box 0 nm).toNat default).iv
def faceInf(c:ClaimD)(nm:ByteArray)(up:Bool):Bool:=if up then(faceI c nm).hi else(faceI c nm).li
def faceT(c:ClaimD)(nm:ByteArray)(up:Bool):Tree:=if up then litT ((faceI c nm).s2&&decide (0<(faceI c nm).N2)) (rN (faceI c nm).N2 (faceI c nm).D2) (rD (faceI c nm).N2 (faceI c nm).D2)
 else litT ((faceI c nm).s1&&decide (0<(faceI c nm).N1)) (rN (faceI c nm).N1 (faceI c nm).D1) (rD (faceI c nm).N1 (faceI c nm).D1)
def faceX(c:ClaimD)(nm:ByteArray)(up:Bool):Int:=if namedE c nm≠0 then namedE c nm else if faceInf c nm up=true then 62 else if (substT nm (faceT c nm up) c.goal).ok=false∨∃d∈c.conds,(substT nm (faceT c nm up) d.t).ok=false then 4 else 0
def faceD(g:Tree→Tree)(c:ClaimD)(nm:ByteArray)(up:Bool)(d:CondD):CondD:=⟨g (substT nm (faceT c nm up) d.t),d.strict⟩
def faceC(g:Tree→Tree)(c:ClaimD)(nm:ByteArray)(up:Bool):ClaimD:=⟨g (substT nm (faceT c nm up) c.goal),c.strict,dropL nm c.box,c.conds.map (faceD g c nm up)⟩
theorem lit_ok{s:Bool}{N D:Nat}(h:small N D=true):(litT s (rN N D) (rD N D)).ok=true:=by
 have hw:=well_lit (s:=s) h
 unfold Tree.ok
 unfold litT negT numT at hw⊢
 cases s
 ·obtain⟨h1,-⟩:=hw
  simp only[if_false,Bool.false_eq_true] at h1⊢
  rw[cnt,cnts,h1]
  decide
 ·obtain⟨h1,h2,-⟩:=hw
  obtain⟨h2,-⟩:=h2
  simp only[if_true] at h1 h2⊢
  rw[cnt,cnts,cnt,h1,h2]
  simp[cnts]
end
section
open Go Go.RowKit Go.Dig
open Go.Eng (Kept KW KeptB)
theorem named_zero{c:ClaimD}{nm:ByteArray}(h:namedE c nm=0):c.ok=true∧∃(i:Nat)(hi:i<c.box.length),sideAt c.box 0 nm=(i:Int)∧(c.box[i].name.toList==nm.toList)=true∧faceI c nm=c.box[i].iv∧isName nm=true∧c.box[i].iv.fine=true∧c.box[i].iv.void=false:=by
 unfold namedE at h
 by_cases ho:c.ok=true
 ·rw[if_pos ho] at h
  by_cases hs:sideAt c.box 0 nm<0
  ·rw[if_pos hs] at h;cases h
  ·obtain⟨i,hi⟩:∃i:Nat,sideAt c.box 0 nm=(i:Int):=⟨(sideAt c.box 0 nm).toNat,by omega⟩
   obtain⟨-,h1,h2⟩:=sideAt_at nm c.box 0 i hi
   have hb:=(boxOk_iff.1 (ok_parts ho).1).2.1 _ (List.getElem_mem h1)
   refine⟨ho,i,h1,hi,h2,?_,?_,hb.2.1,hb.2.2⟩
   ·unfold faceI
    rw[hi,show((i:Int)).toNat=i from rfl,getD_at (show i<c.box.length from h1)]
   ·rw[name_eq h2];exact hb.1
 ·rw[if_neg ho] at h;cases h
theorem fine_small{i:IvD}(h:i.fine=true):small i.N1 i.D1=true∧small i.N2 i.D2=true:=by
 unfold IvD.fine at h
 simpa using h
theorem faceT_ok{c:ClaimD}{nm:ByteArray}(h:namedE c nm=0)(up:Bool):(faceT c nm up).ok=true∧varsT (faceT c nm up)=[]:=by
 obtain⟨-,i,hi,-,-,e,-,hf,-⟩:=named_zero h
 obtain⟨h1,h2⟩:=fine_small hf
 unfold faceT
 rw[e]
 cases up
 ·exact⟨lit_ok h1,vars_lit⟩
 ·exact⟨lit_ok h2,vars_lit⟩
theorem faceX_zero{c:ClaimD}{nm:ByteArray}{up:Bool}(h:faceX c nm up=0):namedE c nm=0∧faceInf c nm up=false∧(substT nm (faceT c nm up) c.goal).ok=true∧∀d∈c.conds,(substT nm (faceT c nm up) d.t).ok=true:=by
 unfold faceX at h
 by_cases h1:namedE c nm≠0
 ·rw[if_pos h1] at h;exact absurd h h1
 ·rw[if_neg h1] at h
  by_cases h2:faceInf c nm up=true
  ·rw[if_pos h2] at h;cases h
  ·rw[if_neg h2] at h
   by_cases h3:(substT nm (faceT c nm up) c.goal).ok=false∨∃d∈c.conds,(substT nm (faceT c nm up) d.t).ok=false
   ·rw[if_pos h3] at h;cases h
   ·refine⟨Decidable.not_not.1 h1,by simpa using h2,?_,fun d hd=> ?_⟩
    ·cases hq:(substT nm (faceT c nm up) c.goal).ok
     ·exact absurd (.inl hq) h3
     ·rfl
    ·cases hq:(substT nm (faceT c nm up) d.t).ok
     ·exact absurd (.inr ⟨d,hd,hq⟩) h3
     ·rfl
theorem face_ok{g:Tree→Tree}(hg:∀t,t.ok=true→(g t).ok=true∧varsT (g t)=varsT t){c:ClaimD}{nm:ByteArray}{up:Bool}(h:faceX c nm up=0):(faceC g c nm up).ok=true:=by
 obtain⟨h1,-,h3,h4⟩:=faceX_zero h
 obtain⟨ho,-⟩:=named_zero h1
 have hv:=(faceT_ok h1 up).2
 have ho':=ho
 unfold ClaimD.ok at ho'
 simp only[Bool.and_eq_true,decide_eq_true_eq,List.all_eq_true] at ho'
 obtain⟨⟨⟨⟨hb,h12⟩,-⟩,hcg⟩,hcs⟩:=ho'
 have cov:∀t,covB c.box (varsT t)=true→(substT nm (faceT c nm up) t).ok=true→covB (dropL nm c.box) (varsT (g (substT nm (faceT c nm up) t)))=true:=fun t ht hk=>by
  rw[(hg _ hk).2]
  refine drop_cov ht fun x hx=> ?_
  rcases vars_subst t hx with hx|hx
  ·rw[hv] at hx;cases hx
  ·exact hx
 refine ok_good (drop_ok nm hb) (by simpa [faceC] using h12) (hg _ h3).1 (cov _ hcg h3) fun k hk=> ?_
 simp only[faceC,List.length_map] at hk
 have hd:=List.getElem_mem hk
 have hcd:=hcs _ hd
 unfold condOk at hcd
 simp only[Bool.and_eq_true] at hcd
 simp only[faceC,List.getElem_map,faceD,condOk,Bool.and_eq_true]
 exact⟨(hg _ (h4 _ hd)).1,cov _ hcd.2 (h4 _ hd)⟩
theorem face_same{c:ClaimD}{nm:ByteArray}{up:Bool}(h:faceX c nm up=0):sameC (faceC canT c nm up) (faceC id c nm up)=true:=by
 obtain⟨h1,-,h3,h4⟩:=faceX_zero h
 have hcs:∀l:List CondD,(∀d∈l,(substT nm (faceT c nm up) d.t).ok=true)→sameCs (l.map (faceD canT c nm up)) (l.map (faceD id c nm up))=true:=by
  intro l
  induction l with
  |nil=>intro _;rw[List.map_nil,List.map_nil,sameCs]
  |cons d l ih=>
   intro hd
   rw[List.map_cons,List.map_cons,sameCs,ih fun x hx=>hd x (List.mem_cons_of_mem _ hx)]
   unfold faceD
   simp only[id]
   rw[sameT_can _ (well_of_ok (hd d List.mem_cons_self))]
   simp
 unfold sameC faceC
 simp only[id]
 rw[sameT_can _ (well_of_ok h3),hcs _ h4]
 have:=sameC_refl ⟨c.goal,c.strict,dropL nm c.box,[]⟩
 unfold sameC at this
 simp only[Bool.and_eq_true] at this
 simp[this.1.1.2]
def RetF(g:Tree→Tree)(c:ClaimD)(nm:ByteArray)(up:Bool)(f:Nat)(w:World)(e:Ending)(w':World):Prop:=
 (∃r,e= .returned (.tuple #[r,.int .i64 (faceX c nm up)])∧(faceX c nm up=0→Clm w' f r (faceC g c nm up))∧(faceX c nm up≠0→r=zeroC))∧Kept w w'
end
section
open Go Go.RowKit Go.Dig Go.Deep
open Go.Eng (Kept KW KeptB wp_region_kw kw_call)
set_option maxHeartbeats 8000000
set_option maxRecDepth 100000
theorem zbs{n:Nat}{l:Fm}{ops:Array Oper}{rest:List Oper}{Q:Exit→Act→World→Prop}{oi:Oper}{w:World}{d:Nat}(m:Nat)(A:Array Value)(t:TypeId)(h:∀W g,g=w.heap.size→Kept w W→Blk W g A t→W.heap.size=g+1→wpList Tryz.prog ops Q rest (frm n (upd l d (.slice (some ⟨g,0,none⟩) m m))) W)
 (hrun:(execOp (ev n l) oi).run Tryz.prog w= .ok (.value (.slice (some ⟨w.heap.size,0,none⟩) m m)) (w.alloc (.cells A t)):=by kernel_rfl)(hg:oi.guard=none:=by rfl)(hd:oi.dst=some d:=by rfl):wpList Tryz.prog ops Q (oi::rest) (frm n l) w:=
 zv _ (by rw[frm_eval];exact hrun) hg hd (h _ _ rfl ((Kept.refl w).alloc _) (Blk.new w A t) (Array.size_push ..))
def allB:Nat→Bool:=fun _=>true
theorem sub_all(w:World):Sub w (onlyW w allB):=fun a v h=>by rw[cell_only,if_pos (show allB a.block=true from rfl)];exact h
theorem face29_calls{f:Nat}{w:World}{v:Value}{c:ClaimD}(h:Clm w f v c)(hT:Laid w)(nm:ByteArray)(up:Bool):Calls Tryz.prog 29 #[v,.string nm,.bool up] w (RetF canT c nm up (f+1) w):=by
 have hn:=fun(w':World)(k:Kept w w'){b off cap:Nat}(hc:w'.cell? ⟨b,off,none⟩=some (.string nm))=>named_calls (cap:=cap) (h.kept k) (hT.kept k) hc
 obtain⟨V,Y,a1,n1,c1,a2,n2,c2,rfl,eV,oV,oY,hgoal,hbox,hcnd⟩:=h.own
 clear h
 generalize hne:namedE c nm=ne at hn
 refine entL [_,.string nm,.bool up] 116 Tryz.func29 rfl Tryz.ntmps29 (by simp) ?_
 iterate 2 go_step
 refine zb fun w1 g1 e1 k1 b1 s1=> ?_
 refine za Z10 31 fun w2 g2 e2 k2 b2 s2=> ?_
 refine zz ?_
 replace b1:=b1.kept k2
 have K:=k1.trans k2
 clear k1 k2
 iterate 6 go_step
 refine zl b1.range oV ?_
 refine zz ?_
 refine zbs 1 #[.string nm] 9 fun w3 g3 e3 k3 b3 s3=> ?_
 refine zc 59 _ (hn _ (K.trans k3) (cap:=1) (b3.cell 0 rfl)) ?_
 rintro e w4 ⟨rfl,k4⟩
 refine⟨_,rfl,?_⟩
 refine zz ?_
 replace K:=(K.trans k3).trans k4
 replace b1:=(b1.kept k3).kept k4
 replace b2:=(b2.kept k3).kept k4
 have q4:g2<w4.heap.size:=b2.lt
 clear k3 k4 hn b3 e3 s3 w3
 iterate 5 go_step
 refine zz ?_
 refine z2 (.bool (ne != 0)) ?_
 iterate 3 go_step
 cases hq:ne != 0
 case' true=>
  have h0:ne≠0:=by simpa using hq
  refine zt_true ?_
  iterate 2 go_step
  refine zr (.agg Z10) ?_
  refine zz ?_
  refine zt b2 ownZ10 ownZ10 fun wf kf b2=> ?_
  refine zz ?_
  iterate 5 go_step
  have hX:faceX c nm up=ne:=by unfold faceX;rw[hne,if_pos h0]
  exact zret1b (v:=.int .i64 ne) b2 ownZ10 ⟨⟨zeroC,by rw[hX];rfl,fun h=>absurd (hX.symm.trans h) h0,fun _=>rfl⟩,K.but kf (by omega)⟩
 have h0:ne=0:=by simpa using hq
 subst h0
 obtain⟨hok,i,hi,hs,hnm,hfi,hisn,hfine,hvoid⟩:=named_zero hne
 refine zt_false ?_
 iterate 5 go_step
 subst eV
 obtain⟨i7,i8,i9⟩:=b1.rest oY
 refine zr (.pointer (some ⟨g1,8,none⟩)) ?_
 refine zl1 i8 ?_
 refine zz ?_
 refine zc 79 _ (efind_calls (hbox.kept K) nm hi hs) ?_
 rintro e w5 ⟨vi,rfl,hI,k5⟩
 refine⟨_,rfl,?_⟩
 obtain⟨u1,u2,u3,u4,u5,u6,v1,v2,v3,v4,v5,v6,rfl,r1,r2⟩:=hI
 refine zz ?_
 refine zz ?_
 refine zz ?_
 refine za ZI 39 fun w6 g9 e9 k6 b9 s6=> ?_
 refine zt b9 own39 own39 fun w7 k7 b9=> ?_
 refine zz ?_
 iterate 4 go_step
 have hz:∀{b:Nat},b<0∨0≤b:=.inr (Nat.zero_le _)
 have q5:=k5.size
 have k67:=k6.but k7 (by omega)
 replace r1:=r1.sub (only_keep k67)
 replace r2:=r2.sub (only_keep k67)
 replace b1:=(b1.kept k5).kept k67
 replace b2:=(b2.kept k5).kept k67
 replace K:=(K.trans k5).trans k67
 have q7:=k67.size
 have q67:=k7.size
 clear k5 k67 k6 k7
 refine drawn 0 0 fun hS=> ?_
 refine yz 0 hS ?_
 refine yl 1 (V:=#[_,_,_]) (b9.part 0) hz own3 hS ?_
 refine yz 2 hS ?_
 refine yl1 3 (b9.cell 6 rfl) hz hS ?_
 refine ya 4 ZR 24 hS fun W8 g11 e11 k8 b11 s8 lW=> ?_
 refine yt 5 (V:=#[.bool c.box[i].iv.s1,.slice u1 u2 u3,.slice u4 u5 u6]) b11 own3 own3 (.inr (show w7.heap.size≤g11 by rw[e11];exact Nat.le_refl _)) lW fun w9 k9 b11 lW=> ?_
 refine yas 6 lW ?_
 refine yend ?_
 have k79:Kept w7 w9:=((Kept.refl w7).drew.trans k8).but k9 (by rw[e11];exact Nat.le_refl _)
 have q11:w7.heap.size≤g11:=by rw[e11];exact Nat.le_refl _
 have l11:=b11.lt
 replace r1:=r1.sub (only_keep k79)
 have r2w:∀wa,KeptB w9 wa g11→Rt wa _ _ _ _:=fun wa ka=>r2.sub ((only_move (S':=ab w4.heap.size) fun b hb hx=>⟨hx,(ka.old b (Nat.lt_of_lt_of_le hb k79.size) (by omega)).trans (k79.old b hb)⟩).trans (only_sub _ _))
 replace b1:=b1.kept k79
 replace b2:=b2.kept k79
 replace b9:=b9.kept k79
 replace K:=K.trans k79
 clear k79 r2
 iterate 5 go_step
 refine zz ?_
 iterate 3 go_step
 rename_i K2 hK2
 have hi32:∀{N D:Nat},small N D=true→fits32 (rN N D)=true∧fits32 (rD N D)=true:=fun h=>by
  unfold small at h
  simp only[Bool.and_eq_true] at h
  exact⟨h.1.2,h.2⟩
 have rest:∀(fl:Fm)(W:World)(s:Bool)(N D:Nat)(p1:Option Addr)(p2 p3:Nat)(p4:Option Addr)(p5 p6:Nat)(inf:Bool),sees fl [(1,.string nm),(3,.pointer (some ⟨g1,0,none⟩)),(6,.pointer (some ⟨g2,0,none⟩)),(11,.pointer (some ⟨g11,0,none⟩)),(12,.bool inf)]→
  Kept w W→Blk W g1 (Y++#[.bool c.strict,.slice a1 n1 c1,.slice a2 n2 c2]) 31→Blk W g2 Z10 31→Blk W g11 #[.bool s,.slice p1 p2 p3,.slice p4 p5 p6] 24→Rt W (.agg #[.bool s,.slice p1 p2 p3,.slice p4 p5 p6]) s N D→small N D=true→inf=faceInf c nm up→faceT c nm up=litT (s&&decide (0<N)) (rN N D) (rD N D)→K2 (frm 116 fl) W:=by
  clear r1 r2w b1 b2 b9 b11 K
  intro fl W s N D p1 p2 p3 p4 p5 p6 inf hse K b1 b2 b11 hR hsm hinf hft
  refine hK2 _ _ ?_
  rw[←look_eq hse]
  have q2:g2<W.heap.size:=b2.lt
  have q1:g1<g2:=by omega
  iterate 3 go_step
  refine zz ?_
  iterate 3 go_step
  cases inf
  case' true=>
   refine zt_true ?_
   iterate 2 go_step
   refine zr (.agg Z10) ?_
   refine zt b2 ownZ10 ownZ10 fun wf kf b2=> ?_
   refine zz ?_
   iterate 5 go_step
   have hX:faceX c nm up=62:=by unfold faceX;rw[hne,if_neg (by decide),if_pos hinf.symm]
   exact zret1b (v:=.int .i64 62) b2 ownZ10 ⟨⟨zeroC,by rw[hX];rfl,fun h=>absurd (hX.symm.trans h) (by decide),fun _=>rfl⟩,K.but kf (by omega)⟩
  refine zt_false ?_
  iterate 5 go_step
  refine zl b11.range own3 ?_
  refine zc 80 _ (literal_calls hR (hT.kept K) hsm (hi32 hsm).1 (hi32 hsm).2) ?_
  rintro e wa ⟨VL,rfl,hL,ka⟩
  rw[←hft] at hL
  refine⟨_,rfl,?_⟩
  obtain⟨o',g',z',y1,y2,y3,y4,y5,y6,nm',a0,n0,cap0,rfl⟩:=hL.agg7
  refine zz ?_
  refine zz ?_
  refine zz ?_
  refine za Z7 27 fun wb g13 eb kb b13 sb=> ?_
  refine zt b13 ownZ own7 fun wc kc b13=> ?_
  refine zz ?_
  have kac:=ka.trans (kb.but kc (by omega))
  replace hL:=hL.sub (only_keep (kb.but kc (by omega)))
  replace b1:=b1.kept kac
  replace b2:=b2.kept kac
  replace K:=K.trans kac
  have qa:=ka.size
  have qc:=kac.size
  clear kac ka kb kc
  iterate 6 go_step
  refine zz ?_
  refine z2 (.bool false) ?_
  iterate 3 go_step
  refine zt_false ?_
  iterate 5 go_step
  refine zz ?_
  refine zl b13.range own7 ?_
  refine zr (.agg #[.string nm,.int .i64 o',.int .i64 g',.bool z',.slice y1 y2 y3,.slice y4 y5 y6,.string nm',.slice a0 n0 cap0]) ?_
  refine zbs 1 #[.string nm,.int .i64 o',.int .i64 g',.bool z',.slice y1 y2 y3,.slice y4 y5 y6,.string nm',.slice a0 n0 cap0] 142 fun wd gb ed kd bb sd=> ?_
  refine zz ?_
  replace hL:=hL.sub (only_keep kd)
  replace b1:=b1.kept kd
  replace b2:=b2.kept kd
  replace K:=K.trans kd
  have qd:=kd.size
  have hlok:=faceT_ok hne up
  have hpr:=ok_parts hok
  have hB:Bd wd gb nm #[.int .i64 o',.int .i64 g',.bool z',.slice y1 y2 y3,.slice y4 y5 y6,.string nm',.slice a0 n0 cap0] (faceT c nm up):=⟨bb.cell 0 rfl,bb.part 1,own7,hL.sub (only_sub _ _)⟩
  have hsub:=fun(W:World)(k:Kept wd W)(f:Nat)(v:Value)(t:Tree)(hx:Ex w f v t)(ho:t.ok=true)=>
   eSubst_calls (w:=W) (S:=allB) ((hx.kept (K.trans k)).sub (sub_all W)) ho ((hB.sub (Kept.sub k)).sub (sub_all W)) hlok.1 hisn (hT.kept (K.trans k))
  clear hB
  iterate 5 go_step
  obtain⟨i7,-,-⟩:=b1.rest oY
  refine zz ?_
  refine zl1 i7 ?_
  refine zr (.agg #[.int .i64 0,.int .i64 0,.bool false,.slice none 0 0,.slice none 0 0,.string ⟨#[]⟩,.slice none 0 0,.bool c.strict,.slice none 0 0,.slice none 0 0]) ?_
  refine za Z10 31 fun we g16 ee ke b16 se=> ?_
  refine zt (V:=#[.int .i64 0,.int .i64 0,.bool false,.slice none 0 0,.slice none 0 0,.string ⟨#[]⟩,.slice none 0 0,.bool c.strict,.slice none 0 0,.slice none 0 0]) b16 ownZ10 (own31 (Y:=Z7) ownZ) fun wf kf b16=> ?_
  have kef:=ke.but kf (by omega)
  replace b1:=b1.kept kef
  replace b2:=b2.kept kef
  have D:=kef
  have qe:=kef.size
  have q16:g16<wf.heap.size:=b16.lt
  clear i7 hL bb b13 kd kef ke kf
  iterate 5 go_step
  refine zz ?_
  refine zl b1.goal oY ?_
  refine zz ?_
  refine zc 81 _ (hsub _ D _ _ _ hgoal hpr.2.1) ?_
  rintro e wg ⟨hg,kg⟩
  replace b1:=b1.kept kg
  replace b2:=b2.kept kg
  replace b16:=b16.kept kg
  replace D:=D.trans kg
  have qg:=kg.size
  by_cases hz:(substT nm (faceT c nm up) c.goal).ok=true
  case' neg=>
   rw[if_neg hz] at hg
   subst hg
   refine⟨_,rfl,?_⟩
   refine zz ?_
   refine zz ?_
   refine zz ?_
   refine zz ?_
   refine ztp (o:=0) b16 ownZ (fun wh kh b16=> ?_) (Nat.le_of_ble_eq_true rfl)
   refine zz ?_
   iterate 6 go_step
   refine zz ?_
   refine z2 (.bool true) ?_
   iterate 3 go_step
   refine zt_true ?_
   iterate 2 go_step
   refine zr (.agg Z10) ?_
   refine zz ?_
   refine zt (b2.keptB kh (by omega)) ownZ10 ownZ10 fun wi ki b2=> ?_
   refine zz ?_
   iterate 5 go_step
   have hX:faceX c nm up=4:=by unfold faceX;rw[hne,if_neg (by decide),←hinf,if_neg (by decide),if_pos (.inl (by simpa using hz))]
   exact zret1b (v:=.int .i64 4) b2 ownZ10 ⟨⟨zeroC,by rw[hX];rfl,fun h=>absurd (hX.symm.trans h) (by decide),fun _=>rfl⟩,(K.trans (D.but kh (by omega))).but ki (by omega)⟩
  rw[if_pos hz] at hg
  obtain⟨r,rfl,hE⟩:=hg
  obtain⟨d0,d1,d2,d3,d4,d5,d6,d7,d8,d9,da,db,dc,rfl⟩:=hE.agg7
  refine⟨_,rfl,?_⟩
  refine zz ?_
  refine zz ?_
  refine zz ?_
  refine zz ?_
  refine ztp (o:=0) (V:=#[.int .i64 d0,.int .i64 d1,.bool d2,.slice d3 d4 d5,.slice d6 d7 d8,.string d9,.slice da db dc]) b16 own7 (fun wh kh b16=> ?_) (Nat.le_of_ble_eq_true rfl)
  refine zz ?_
  replace hE:=hE.sub (fresh_but (m:=wf.heap.size) kh (by omega) (Nat.le_refl _))
  replace b1:=b1.keptB kh (by omega)
  replace b2:=b2.keptB kh (by omega)
  replace D:=D.but kh (by omega)
  have qh:=kh.size
  obtain rfl:n2=c.conds.length:=hcnd.1
  have HR:=fun(j:Nat)(hj:j<c.conds.length)=>hcnd.row hj
  replace b16:Blk wh g16 #[.int .i64 d0,.int .i64 d1,.bool d2,.slice d3 d4 d5,.slice d6 d7 d8,.string d9,.slice da db dc,.bool c.strict,.slice none 0 0,.slice none 0 0] 31:=b16
  clear kh kg hcnd
  iterate 6 go_step
  refine zz ?_
  refine z2 (.bool false) ?_
  iterate 3 go_step
  refine zt_false ?_
  iterate 6 go_step
  refine zz ?_
  refine zl1 (b1.rest oY).2.2 ?_
  refine zr (.int .i64 c.conds.length) ?_
  refine zz ?_
  iterate 4 go_step
  refine zloop c.conds.length (fun k=>[(1,.string nm),(3,.pointer (some ⟨g1,0,none⟩)),(6,.pointer (some ⟨g2,0,none⟩)),(15,.slice (some ⟨gb,0,none⟩) 1 1),(16,.pointer (some ⟨g16,0,none⟩)),(76,.slice a2 c.conds.length c2),(77,.int .i64 c.conds.length),(78,.int .i64 k)])
   (fun k W=>∃a3 cap3 cs,Grow wh W g16 93 8 (.slice a3 k cap3) k cs (condR (f+1)) (c.conds.map (faceD canT c nm up))∧Blk W g16 #[.int .i64 d0,.int .i64 d1,.bool d2,.slice d3 d4 d5,.slice d6 d7 d8,.string d9,.slice da db dc,.bool c.strict,.slice none 0 0,.slice a3 k cap3] 31∧∀j(hj:j<k)(hjl:j<c.conds.length),(substT nm (faceT c nm up) c.conds[j].t).ok=true)
   ⟨rfl,rfl,rfl,rfl,rfl,rfl,rfl,rfl,trivial⟩ ⟨none,0,[],Grow.start ..,b16,fun j hj=>absurd hj (Nat.not_lt_zero j)⟩ fun fl2 wr k hk ⟨a3,cap3,cs,G,b16,hall⟩=> ?_
  have hsz:=G.kb.size
  have own:=fun g hg=>World.ownsRow.lt G.own g hg
  have Dr:=D.but G.kb (by omega)
  replace b1:=b1.keptB G.kb (by omega)
  replace b2:=b2.keptB G.kb (by omega)
  iterate 3 go_step
  refine z2 (.bool (decide ((k:Int)<(c.conds.length:Int)))) ?_
  iterate 4 go_step
  cases hlt:decide ((k:Int)<(c.conds.length:Int))
  case' true=>
   have hlt:k<c.conds.length:=by have:=of_decide_eq_true hlt;omega
   obtain⟨b,off,q0,q1,q2,q3,q4,q5,q6,rfl,rV,oC,xC⟩:=HR k hlt
   refine zt_true ?_
   iterate 7 go_step
   refine zi (s:=8) k hlt ?_
   refine zl (V:=#[q0,q1,q2,q3,q4,q5,q6,_]) ((Kept.sub (K.trans Dr)).range rV) (own93 oC) ?_
   refine za Z8 93 fun wi g18 ei ki b18 si=> ?_
   refine zt b18 ownZ8 (own93 oC) fun wj kj b18=> ?_
   have kij:=ki.but kj (by omega)
   replace G:=G.kept (condR_sub (f+1)) kij
   replace b16:=b16.kept kij
   replace b1:=b1.kept kij
   replace b2:=b2.kept kij
   replace Dr:=Dr.trans kij
   have qj:=kij.size
   clear ki kj kij
   iterate 5 go_step
   refine zz ?_
   refine zl (V:=#[q0,q1,q2,q3,q4,q5,q6]) (b18.part 0) oC ?_
   refine zz ?_
   refine zc 81 _ (hsub _ Dr _ _ _ xC (hpr.2.2.2 k hlt)) ?_
   rintro e wk ⟨hg,kk⟩
   replace G:=G.kept (condR_sub (f+1)) kk
   replace b16:=b16.kept kk
   replace b18:=b18.kept kk
   replace b1:=b1.kept kk
   replace b2:=b2.kept kk
   replace Dr:=Dr.trans kk
   have qk:=kk.size
   by_cases hz2:(substT nm (faceT c nm up) c.conds[k].t).ok=true
   case' neg=>
    rw[if_neg hz2] at hg
    subst hg
    refine⟨_,rfl,?_⟩
    refine zz ?_
    refine zz ?_
    refine zz ?_
    refine za Z7 27 fun wl g19 el kl b19 sl=> ?_
    refine zt b19 ownZ ownZ fun wm km b19=> ?_
    refine zz ?_
    have klm:=kl.but km (by omega)
    iterate 6 go_step
    refine zz ?_
    refine z2 (.bool true) ?_
    iterate 3 go_step
    refine zt_true ?_
    iterate 2 go_step
    refine zr (.agg Z10) ?_
    refine zz ?_
    refine zt (b2.kept klm) ownZ10 ownZ10 fun wn kn b2=> ?_
    refine zz ?_
    iterate 7 go_step
    have hX:faceX c nm up=4:=by unfold faceX;rw[hne,if_neg (by decide),←hinf,if_neg (by decide),if_pos (.inr ⟨_,List.getElem_mem hlt,by simpa using hz2⟩)]
    exact zret1b (v:=.int .i64 4) b2 ownZ10 ⟨⟨zeroC,by rw[hX];rfl,fun h=>absurd (hX.symm.trans h) (by decide),fun _=>rfl⟩,(K.trans (Dr.trans klm)).but kn (by omega)⟩
   rw[if_pos hz2] at hg
   obtain⟨r,rfl,hE2⟩:=hg
   obtain⟨m0,m1,m2,m3,m4,m5,m6,m7,m8,m9,ma,mb,mc,rfl⟩:=hE2.agg7
   refine⟨_,rfl,?_⟩
   refine zz ?_
   refine zz ?_
   refine zz ?_
   refine za Z7 27 fun wl g19 el kl b19 sl=> ?_
   refine zt b19 ownZ own7 fun wm km b19=> ?_
   refine zz ?_
   have klm:=kl.but km (by omega)
   replace G:=G.kept (condR_sub (f+1)) klm
   replace b16:=b16.kept klm
   replace b18:=b18.kept klm
   replace hE2:=hE2.sub (only_keep klm)
   have qm:=klm.size
   iterate 6 go_step
   refine zz ?_
   refine z2 (.bool false) ?_
   iterate 3 go_step
   refine zt_false ?_
   iterate 4 go_step
   refine zz ?_
   refine zl1 (b16.cell 9 rfl) ?_
   refine zl b19.range own7 ?_
   refine zr (.pointer (some ⟨g18,7,none⟩)) ?_
   refine zl1 (b18.cell 7 rfl) ?_
   refine zr (.agg #[.int .i64 m0,.int .i64 m1,.bool m2,.slice m3 m4 m5,.slice m6 m7 m8,.string m9,.slice ma mb mc,.bool c.conds[k].strict]) ?_
   refine zgrowB (R:=condR (f+1)) (V:=#[.int .i64 m0,.int .i64 m1,.bool m2,.slice m3 m4 m5,.slice m6 m7 m8,.string m9,.slice ma mb mc,.bool c.conds[k].strict]) info93 rfl (by decide) (by decide) Tryz.underlying29 G (condR_sub (f+1)) b16 (by omega) (own93 (Y:=#[_,_,_,_,_,_,_]) own7).2 rfl (by rw[List.length_map];exact hlt) (by omega) (T:=ab wj.heap.size) (by rw[List.getElem_map];exact⟨_,_,_,_,_,_,_,_,_,_,_,_,_,rfl,hE2⟩) (fun b hb=> ?_) (by kernel_rfl) fun wo a' cap' G b16=> ?_
   ·unfold ab at hb
    simp only[decide_eq_true_eq] at hb
    refine⟨by omega,fun he=> ?_⟩
    have:=(own b he.symm).2
    omega
   refine zz ?_
   refine zt1x (i:=9) b16 (Nat.le_of_ble_eq_true rfl) rfl fun wp kp b16=> ?_
   replace G:=G.store (condR_sub (f+1)) kp (by omega)
   iterate 4 go_step
   refine z2 (.int .i64 ((k+1:Nat):Int)) (hrun:=run_inc (by omega)) ?_
   refine zz ?_
   iterate 3 go_step
   refine⟨_,rfl,hlt,⟨rfl,rfl,rfl,rfl,rfl,rfl,rfl,rfl,trivial⟩,a',cap',_,G,b16,fun j hj hjl=> ?_⟩
   rcases Nat.lt_or_ge j k with h1|h1
   ·exact hall j h1 hjl
   ·obtain rfl:j=k:=by omega
    exact hz2
  case' false=>
   obtain rfl:k=c.conds.length:=by have:=of_decide_eq_false hlt;omega
   refine zt_false ?_
   iterate 7 go_step
   refine zz ?_
   refine zl1 (b1.rest oY).2.1 ?_
   refine zz ?_
   refine zc 82 _ (drop_calls (hbox.kept (K.trans Dr)) hpr.1 hisn hs (hT.kept (K.trans Dr))) ?_
   rintro e wi ⟨a',cap',rfl,hbx,ki⟩
   replace b2:=b2.kept ki
   replace b16:=b16.kept ki
   have qi:=ki.size
   refine⟨_,rfl,?_⟩
   refine zz ?_
   refine zz ?_
   refine zz ?_
   refine zz ?_
   refine zt1x (i:=8) b16 (Nat.le_of_ble_eq_true rfl) rfl fun wj kj b16=> ?_
   replace b16:Blk wj g16 #[.int .i64 d0,.int .i64 d1,.bool d2,.slice d3 d4 d5,.slice d6 d7 d8,.string d9,.slice da db dc,.bool c.strict,.slice a' (dropL nm c.box).length cap',.slice a3 c.conds.length cap3] 31:=b16
   replace b2:=b2.keptB kj (by omega)
   have qj:=kj.size
   refine zz ?_
   iterate 6 go_step
   refine zz ?_
   refine z2 (.bool false) ?_
   iterate 3 go_step
   refine zt_false ?_
   iterate 5 go_step
   have o31:Own 31 #[.int .i64 d0,.int .i64 d1,.bool d2,.slice d3 d4 d5,.slice d6 d7 d8,.string d9,.slice da db dc,.bool c.strict,.slice a' (dropL nm c.box).length cap',.slice a3 c.conds.length cap3]:=own31 (Y:=#[_,_,_,_,_,_,_]) own7
   refine zl b16.range o31 ?_
   refine zt b2 ownZ10 o31 fun wz kz b2=> ?_
   refine zz ?_
   iterate 4 go_step
   have hX:faceX c nm up=0:=by
    unfold faceX
    rw[hne,if_neg (by decide),←hinf,if_neg (by decide),if_neg]
    rintro(h|⟨d,hd,h⟩)
    ·rw[hz] at h;cases h
    ·obtain⟨j,hj,rfl⟩:=List.getElem_of_mem hd
     rw[hall j hj hj] at h;cases h
   have qwr:=Dr.size
   have G':Grow wh wr g16 93 8 (.slice a3 (c.conds.map (faceD canT c nm up)).length cap3) (c.conds.map (faceD canT c nm up)).length cs (condR (f+1)) (c.conds.map (faceD canT c nm up)):=by rw[List.length_map];exact G
   have mv:∀b,b<wr.heap.size→g16<b→wz.heap[b]? =wr.heap[b]? :=fun b hb h1=>(kz.old b (by omega) (by omega)).trans ((kj.old b (by omega) (by omega)).trans (ki.old b hb))
   obtain⟨hcap,hcell,hrows⟩:=G'.done (condR_sub (f+1)) (N:=0) (Nat.zero_le _) (fun b hb h1=>mv b hb (by omega))
   have hcn:=(Cnm.mk hcap (by rw[List.length_map];omega) hcell hrows).sub (only_sub _ _)
   rw[List.length_map] at hcn
   have hE3:=hE.sub ((only_move (S':=allB) fun b hb hx=>⟨rfl,(by
    unfold ab at hx
    simp only[decide_eq_true_eq] at hx
    exact(mv b (by omega) (by omega)).trans (G.kb.old b hb (by omega)))⟩).trans (only_sub wz allB))
   have hbx3:=hbx.sub ((only_move (S':=allB) fun b hb hx=>⟨rfl,(by
    unfold ab at hx
    simp only[decide_eq_true_eq] at hx
    exact(kz.old b (by omega) (by omega)).trans (kj.old b hb (by omega)))⟩).trans (only_sub wz allB))
   refine zret1b (v:=.int .i64 0) b2 o31 ⟨⟨_,by rw[hX];rfl,fun _=>⟨_,_,_,_,_,_,_,_,_,_,_,_,_,_,_,_,_,_,_,rfl,hE3,hbx3,hcn⟩,fun h=>absurd hX h⟩,((K.trans (Dr.trans ki)).but kj (by omega)).but kz (by omega)⟩
 cases up
 case' false=>
  refine zt_false ?_
  iterate 2 go_step
  exact rest _ _ _ _ _ _ _ _ _ _ _ _ ⟨rfl,rfl,rfl,rfl,rfl,trivial⟩ K b1 b2 b11 (r1.sub (only_sub _ _)) (fine_small hfine).1 (by unfold faceInf;rw[hfi];rfl) (by unfold faceT;rw[hfi];rfl)
 refine zt_true ?_
 have q9:g9<g11:=by have:=e9;have:=s6;omega
 refine drawn g11 (g11+1) fun hS=> ?_
 refine yz 0 hS ?_
 refine yl 1 (V:=#[_,_,_]) (b9.part 3) (.inl q9) own3 hS ?_
 refine yz 2 hS ?_
 refine yl1 3 (b9.cell 7 rfl) (.inl q9) hS ?_
 refine yt 4 (V:=#[.bool c.box[i].iv.s2,.slice v1 v2 v3,.slice v4 v5 v6]) (b11.kept (Kept.refl w9).drew) own3 own3 (.inl ⟨Nat.le_refl _,by omega⟩) hS fun wa ka b11 lW=> ?_
 refine yas 5 lW ?_
 refine yend ?_
 have k9a:Kept w9 w9.drew:=(Kept.refl w9).drew
 go_step
 exact rest _ _ _ _ _ _ _ _ _ _ _ _ ⟨rfl,rfl,rfl,rfl,rfl,trivial⟩ ((K.trans k9a).but ka (by have:=e2;omega)) ((b1.kept k9a).keptB ka (by omega)) ((b2.kept k9a).keptB ka (by omega)) b11 (r2w _ ⟨ka.size,ka.old,ka.tape,ka.os,ka.output⟩) (fine_small hfine).2 (by unfold faceInf;rw[hfi];rfl) (by unfold faceT;rw[hfi];rfl)
end
section
open Go Go.RowKit Go.Dig Go.Deep
open Go.Eng (Kept KW KeptB wp_region_kw kw_call)
set_option maxHeartbeats 4000000
theorem RowsIs.takeK{α:Type}{R:List Value→α→Prop}{sz:Nat}{cs:List Value}{ts:List α}(h:RowsIs R sz cs ts)(k:Nat):RowsIs R sz (cs.take (k*sz)) (ts.take k):=by
 have hl:=h.1
 refine⟨?_,fun i hi=> ?_⟩
 ·rw[List.length_take,List.length_take,hl,←Nat.mul_min_mul_right]
 ·simp only[List.length_take] at hi
  rw[List.getElem_take,List.drop_take,List.take_take]
  have h1:i*sz+sz≤k*sz:=by rw[←Nat.succ_mul];exact Nat.mul_le_mul_right sz (by omega)
  rw[Nat.min_eq_left (by omega)]
  exact h.2 i (by omega)
theorem RowsIs.dropK{α:Type}{R:List Value→α→Prop}{sz:Nat}{cs:List Value}{ts:List α}(h:RowsIs R sz cs ts)(k:Nat):RowsIs R sz (cs.drop (k*sz)) (ts.drop k):=by
 have hl:=h.1
 refine⟨?_,fun i hi=> ?_⟩
 ·rw[List.length_drop,List.length_drop,hl,Nat.sub_mul]
 ·simp only[List.length_drop] at hi
  rw[List.getElem_drop,List.drop_drop,←Nat.add_mul]
  exact h.2 (k+i) (by omega)
theorem Bxm.cells{w:World}{a:Option Addr}{n cap:Nat}{l:List SideD}(h:Bxm w a n cap l)(hp:0<l.length):
 ∃(b off:Nat)(cs:List Value),a=some ⟨b,off,none⟩∧RowsIs (sideR w) 9 cs l∧(∀(j:Nat)(u:Value),cs[j]? =some u→w.cell? ⟨b,off+j,none⟩=some u)∧∀u∈cs,u.oneCell'=true:=by
 obtain⟨b,off,a1,n1,c1,a2,n2,c2,a3,n3,c3,a4,n4,c4,ha,-⟩:=h.row hp
 subst ha
 have key:∀k,k≤l.length→∃cs:List Value,RowsIs (sideR w) 9 cs (l.take k)∧(∀(j:Nat)(u:Value),cs[j]? =some u→w.cell? ⟨b,off+j,none⟩=some u)∧∀u∈cs,u.oneCell'=true:=by
  intro k
  induction k with
  |zero=>exact fun _=>⟨[],RowsIs.nil _ _,fun j u h=>by simp at h,fun u h=>by cases h⟩
  |succ k ih=>
   intro hk
   obtain⟨cs,h1,h2,h3⟩:=ih (by omega)
   obtain⟨b',off',a1,n1,c1,a2,n2,c2,a3,n3,c3,a4,n4,c4,ha,hr,r1,r2⟩:=h.row (show k<l.length by omega)
   cases ha
   have hlen:cs.length=k*9:=by rw[h1.1,List.length_take];omega
   refine⟨cs++[.string l[k].name,.bool l[k].iv.s1,.slice a1 n1 c1,.slice a2 n2 c2,.bool l[k].iv.s2,.slice a3 n3 c3,.slice a4 n4 c4,.bool l[k].iv.li,.bool l[k].iv.hi],h1.take_succ (by omega) rfl ⟨_,_,_,_,_,_,_,_,_,_,_,_,_,_,_,_,rfl,_,_,_,_,_,_,_,_,_,_,_,_,rfl,r1,r2⟩,?_,?_⟩
   ·intro j u hu
    by_cases hj:j<cs.length
    ·rw[List.getElem?_append_left hj] at hu
     exact h2 j u hu
    ·rw[List.getElem?_append_right (by omega)] at hu
     have:=hr _ _ hu
     rwa [show off+k*9+(j-cs.length)=off+j by omega] at this
   ·intro u hu
    rcases List.mem_append.1 hu with hu|hu
    ·exact h3 u hu
    ·simp only[List.mem_cons,List.mem_nil_iff,or_false] at hu
     rcases hu with rfl|rfl|rfl|rfl|rfl|rfl|rfl|rfl|rfl<;>rfl
 obtain⟨cs,h1,h2,h3⟩:=key l.length (Nat.le_refl _)
 rw[List.take_length] at h1
 exact⟨b,off,cs,rfl,h1,h2,h3⟩
section
variable{n:Nat}{l:Fm}{ops:Array Oper}{rest:List Oper}{Q:Exit→Act→World→Prop}{oi oj:Oper}{fuel:Nat}{listed:Array Bool}{w w0:World}{d e lo up:Nat}
theorem yl1n(i:Nat){p:Tmp}{ty b o:Nat}{x:Value}(hc:w.cell? ⟨b,o,none⟩=some x)(hS:Lk lo up w0 w)(h:wpAnyH Tryz.prog .any ops Q (Lk lo up w0) fuel (listed.setIfInBounds i true) (frm n (upd l d x)) w)
 (hi:ops[i]? =some oi:=by rfl)(hop:oi.op= .load ty (.tmp p):=by rfl)(hg:oi.guard=none:=by rfl)(hd:oi.dst=some d:=by rfl)(hx:opv n l (.tmp p)=some (.pointer (some ⟨b,o,none⟩)):=by rfl)(hu:(Tryz.prog.underlying ty).map TypeDesc.isRow=some false:=by kernel_rfl)
 (hr:Region.ready .any ops listed=[i]:=by kernel_rfl):wpAnyH Tryz.prog .any ops Q (Lk lo up w0) (fuel+1) listed (frm n l) w:=by
 refine rd1 i (fun K hK=> ?_) hi hr
 rw[if_pos (by simp[Region.wanted,hg])]
 unfold Oper.wp
 rw[frm_eval,run_one hc hop hx hu]
 simp only[Oper.upon,hd,frm_put]
 exact hK.out _ _ hS fun _=>h
theorem run_head{t:TypeId}{x y:Operand}{b off m cap i:Nat}(hop:oi.op= .slice t x none (some y) none)(ht:Tryz.prog.underlying t=some (.slice (Tryz.prog.elem t)))(hs:(Tryz.prog.info? (Tryz.prog.elem t)).isSome=true)(hx:opv n l x=some (.slice (some ⟨b,off,none⟩) m cap))(hy:opv n l y=some (.int .i64 (i:Int)))(hc:i≤cap):
 (execOp (ev n l) oi).run Tryz.prog w= .ok (.value (.slice (some ⟨b,off,none⟩) i cap)) w:=by
 have hi:(i:Int)≤(cap:Int):=by omega
 obtain⟨q,hq⟩:=Option.isSome_iff_exists.1 hs
 unfold execOp
 rw[hop]
 simp only[Option.map_some,Option.map_none,ev_of hx,ev_of hy]
 simp[Sem.run_bind,run_sliceAt_slice _ _ _ _ _ _ ht,run_slice_h w t _ m cap ht .i64 (i:Int) (by omega) hi,sizeOf,typeInfo,hq,sliced,Addr.add_mid]
theorem run_tail{t:TypeId}{x y:Operand}{b off m cap i s:Nat}(hop:oi.op= .slice t x (some y) none none)(ht:Tryz.prog.underlying t=some (.slice (Tryz.prog.elem t)))(hs:(Tryz.prog.info? (Tryz.prog.elem t)).map (·.size)=some s)(hx:opv n l x=some (.slice (some ⟨b,off,none⟩) m cap))(hy:opv n l y=some (.int .i64 (i:Int)))(hc:i≤m):
 (execOp (ev n l) oi).run Tryz.prog w= .ok (.value (.slice (some (if cap=i then⟨b,off,none⟩ else⟨b,off+i*s,none⟩)) (m-i) (cap-i))) w:=by
 have hi:(i:Int)≤(m:Int):=by omega
 obtain⟨q,hq,hqs⟩:=Option.map_eq_some_iff.1 hs
 unfold execOp
 rw[hop]
 simp only[Option.map_some,Option.map_none,ev_of hx,ev_of hy]
 simp[Sem.run_bind,run_sliceAt_slice _ _ _ _ _ _ ht,run_slice_l w t _ m cap ht .i64 (i:Int) (by omega) hi,sizeOf,typeInfo,hq,hqs,sliced,Addr.add_mid]
 split<;>rfl
theorem yapp{W0:World}{g3 c t sz by_ k m cap3 cx:Nat}{z:Value}{st tv:TypeId}{a3 ax:Option Addr}{cs news:List Value}{Y:Array Value}{oa og os:Oper}{db da df s:Tmp}(j q p:Nat)
 (hi0:InfoIs t z sz by_)(hz:z.cells.size=sz)(hsz:0<sz)(hby:by_≤1024)(hst:Tryz.prog.underlying st=some (.slice t))
 (hkb:KeptB W0 w g3)(own:w.ownsRow W0.heap.size t sz (.slice a3 k cap3) k cs)(b3:Blk w g3 Y tv)(hg3:g3<W0.heap.size)(hc:c<Y.size)
 (hl:news.length=m*sz)(hnews:∀j u,news[j]? =some u→∃ad,ax=some ad∧w.cell? (ad.add j)=some u)(h1:∀u∈news,u.oneCell'=true)(hm:k+m≤1099511627)
 (hS:Lk lo up w0 w)(hlo:lo≤g3)(hup:g3<up)(hob:∀g,(Value.slice a3 k cap3).ownBlock=some g→g<up)
 (h:∀w' a' cap',KeptB W0 w' g3→w'.ownsRow W0.heap.size t sz (.slice a' (k+m) cap') (k+m) (cs++news)→Blk w' g3 (Y.setIfInBounds c (.slice a' (k+m) cap')) tv→Q .normal (frm n (upd (upd l da (.slice a' (k+m) cap')) df (.pointer (some ⟨g3,c,none⟩)))) w')
 (h2:ops[j]? =some oa:=by rfl)(hq:ops[q]? =some og:=by rfl)(h3:ops[p]? =some os:=by rfl)
 (hop2:oa.op= .call {callee:=.builtin .append,args:=#[.tmp s,.tmp db],argTypes:=#[st,st]}∧oa.guard=none∧oa.dst=some da:=by exact⟨rfl,rfl,rfl⟩)(hgf:og.guard=none∧og.dst=some df:=by exact⟨rfl,rfl⟩)(hfa:∀v W,(execOp (ev n (upd l da v)) og).run Tryz.prog W= .ok (.value (.pointer (some ⟨g3,c,none⟩))) W:=by intro v W;kernel_rfl)(hop3:os.op= .store st (.tmp df) (.tmp da)∧os.guard=none∧os.dst=none:=by exact⟨rfl,rfl,rfl⟩)
 (hs:opv n l (.tmp s)=some (.slice a3 k cap3):=by rfl)(hb:opv n l (.tmp db)=some (.slice ax m cx):=by rfl)(hne:da≠df∧df<n∧da<n:=by decide)
 (hu:(Tryz.prog.info? st).map (·.size)=some 1:=by kernel_rfl)(hr2:Region.ready .any ops listed=[j]:=by kernel_rfl)(hr3:Region.ready .any ops (listed.setIfInBounds j true)=[q]:=by kernel_rfl)(hr5:Region.ready .any ops ((listed.setIfInBounds j true).setIfInBounds q true)=[p]:=by kernel_rfl)
 (hr4:Region.ready .any ops (((listed.setIfInBounds j true).setIfInBounds q true).setIfInBounds p true)=[]:=by kernel_rfl)(hfu:fuel=3:=by rfl):
 wpAnyH Tryz.prog .any ops Q (Lk lo up w0) fuel listed (frm n l) w:=by
 subst hfu
 obtain⟨n2,n3,n5⟩:=hne
 have hsz0:W0.heap.size≤w.heap.size:=hkb.size
 have fin:∀w' a' cap',KeptB W0 w' g3→w'.ownsRow W0.heap.size t sz (.slice a' (k+m) cap') (k+m) (cs++news)→Blk w' g3 Y tv→Lk lo up w0 w'→wpAnyH Tryz.prog .any ops Q (Lk lo up w0) 2 (listed.setIfInBounds j true) (frm n (upd l da (.slice a' (k+m) cap'))) w':=by
  intro w' a' cap' kb' ho b5 l5
  refine rd1 q (fun K hK=> ?_) hq hr3
  rw[if_pos (by simp[Region.wanted,hgf.1])]
  unfold Oper.wp
  rw[frm_eval,hfa]
  simp only[Oper.upon,hgf.2,frm_put]
  refine hK.out _ _ l5 fun _=>rd1 p (fun K hK=> ?_) h3 hr5
  rw[if_pos (by simp[Region.wanted,hop3.2.1])]
  have e1:(frm n (upd (upd l da (.slice a' (k+m) cap')) df (.pointer (some ⟨g3,c,none⟩)))).eval (.tmp df)= .pointer (some ⟨g3,c,none⟩):=opv_eval (by
   simp only[opv,upd,Nat.beq_refl,cond_true,show Nat.blt df n=true from Nat.ble_eq_true_of_le n3])
  have e2:(frm n (upd (upd l da (.slice a' (k+m) cap')) df (.pointer (some ⟨g3,c,none⟩)))).eval (.tmp da)= .slice a' (k+m) cap':=opv_eval (by
   simp only[opv,upd,Nat.beq_refl,cond_true,cond_false,beq_no n2,show Nat.blt da n=true from Nat.ble_eq_true_of_le n5])
  have hst1:(storeVar st ⟨g3,c,none⟩ (.slice a' (k+m) cap')).run Tryz.prog w'= .ok () (w'.setCell ⟨g3,c,none⟩ (.slice a' (k+m) cap')):=by
   have hcl:=b5.cell c (v:=Y[c]) (by simp[hc])
   have hfz:=b5.frozen c
   have hrs:=run_store Tryz.prog w' ⟨g3,c,none⟩ (.slice a' (k+m) cap') .plain rfl
   rw[hcl] at hrs
   simp only[hfz] at hrs
   cases hq2:Tryz.prog.info? st with
   |none=>simp[hq2] at hu
   |some q=>
    have hs1:q.size=1:=by simpa [hq2] using hu
    simp[storeVar,sizeOf,typeInfo,hq2,hs1,Value.cells,storeCells,Addr.add_mid,hrs]
  have kb:KeptB w' (w'.setCell ⟨g3,c,none⟩ (.slice a' (k+m) cap')) g3:=(KeptB.refl w' g3).setCell rfl _
  unfold Oper.wp execOp
  simp only[hop3.1,e1,e2,Instr.storeAt,Instr.sureAddr,Sem.run_bind,Sem.run_pure,Result.andThen_ok,hst1]
  show K ((frm n _).put os.dst undef) _
  rw[hop3.2.2]
  have l6:Lk lo up w0 (w'.setCell ⟨g3,c,none⟩ (.slice a' (k+m) cap')):=l5.but kb (.inl ⟨hlo,hup⟩)
  refine hK.out _ _ l6 fun _=>yend ?_ hr4
  exact h _ a' cap' (KeptB.thenB kb' kb) (own_keptB ho kb hg3) (b5.set c _)
 refine rd1 j (fun K hK=> ?_) h2 hr2
 rcases Nat.eq_zero_or_pos m with rfl|hm0
 ·have hn0:news=[]:=List.eq_nil_of_length_eq_zero (by omega)
  subst hn0
  obtain⟨a',cap',e,hcap,-,-⟩:=own_open own
  injection e with e1 e2 e3
  subst e1
  subst e3
  obtain⟨i0,hi,hz0,hz1,hz2⟩:=hi0
  have hsrc:Src Tryz.prog i0.size st (.slice ax 0 cx) 0 [] w:=by
   cases ax with
   |none=>exact Src.ofNil w hst cx
   |some a=>exact Src.ofSlice w hst a 0 cx [] (by simp) (fun j u h=>by simp at h) (fun _ h=>by cases h)
  have hrun:=run_append_nothing (P:=Tryz.prog) w st st oa.type t i0 hst hi a3 k cap3 hcap (.slice ax 0 cx) hsrc
  have es:(frm n l).eval (.tmp s)= .slice a3 k cap3:=opv_eval hs
  have eb:(frm n l).eval (.tmp db)= .slice ax 0 cx:=opv_eval hb
  rw[if_pos (by simp[Region.wanted,hop2.2.1])]
  unfold Oper.wp
  simp[execOp,hop2.1,resolve,invoke,builtin,es,eb,hrun,Result.andThen]
  simp only[Oper.upon,hop2.2.2,frm_put]
  exact hK.out _ _ hS fun _=>fin w a3 cap3 hkb (by simpa using own) b3 hS
 ·obtain⟨ad,rfl,-⟩:=hnews 0 (news[0]'(by rw[hl];exact Nat.mul_pos hm0 hsz)) (List.getElem?_eq_getElem _)
  refine step_append_grow hop2.2.1 (.tmp s) (.tmp db) st hop2.1 hi0 hst hz hsz hby W0.heap.size hsz0 _ k cs (opv_eval hs) own ad m cx news (opv_eval hb) hl (fun j u hu=> ?_) h1 hm0 hm (fun v' w' ho hgb hor=> ?_)
  ·obtain⟨ad',e,hc'⟩:=hnews j u hu
   cases e
   exact hc'
  obtain⟨a',cap',rfl,-,-,-⟩:=own_open ho
  have own3:∀g,(Value.slice a3 k cap3).ownBlock=some g→W0.heap.size≤g:=fun g hg=>(World.ownsRow.lt own g hg).1
  have b5:Blk w' g3 Y tv:=(hgb.block g3 b3.lt (fun he=>by have:=own3 g3 he.symm;omega)).trans b3
  have l5:Lk lo up w0 w':=by
   refine hS.trans ⟨hgb.size,fun b hlt hx=>hgb.block b hlt (fun he=> ?_),hgb.tape,hgb.os,hgb.output⟩
   have:=own3 b he.symm
   have:=hob b he.symm
   omega
  have kb':KeptB W0 w' g3:=⟨Nat.le_trans hsz0 hgb.size,fun b hb hne=>(hgb.block b (Nat.lt_of_lt_of_le hb hsz0) (fun he=>by have:=own3 b he.symm;omega)).trans (hkb.old b hb hne),hgb.tape.trans hkb.tape,hgb.os.trans hkb.os,hgb.output.trans hkb.output⟩
  rw[hop2.2.2,frm_put]
  exact hK.out _ _ l5 fun _=>fin w' a' cap' kb' ho b5 l5
end
end
section
open Go Go.RowKit Go.Dig Go.Deep
open Go.Eng (Kept KW KeptB wp_region_kw kw_call)
set_option maxHeartbeats 8000000
set_option maxRecDepth 100000
theorem rN_pos{N:Nat}(D:Nat)(h:0<N):0<rN N D:=by
 unfold rN
 exact Nat.div_pos (Nat.le_of_dvd h (Nat.gcd_dvd_left ..)) (Nat.gcd_pos_of_pos_left _ h)
theorem sgn_rN(s:Bool)(N D:Nat):((s&&decide (0<N))&&decide (0<rN N D))=(s&&decide (0<N)):=by
 by_cases h:0<N
 ·simp[h,rN_pos D h]
 ·simp[h]
def leanR(V:World)(f:Nat):World→List Value→CondD→Prop:=fun W l d=>condR f (uni V W) l d
theorem leanR_sub(V:World)(f:Nat):∀w w',Sub w w'→∀l t,leanR V f w l t→leanR V f w' l t:=fun _ _ k l t h=>condR_sub f _ _ (uni_sub k) l t h
theorem ylb{n:Nat}{l:Fm}{ops:Array Oper}{Q:Exit→Act→World→Prop}{oi ok:Oper}{fuel:Nat}{listed:Array Bool}{w w0:World}{d c lo up:Nat}(i k:Nat){p:Tmp}{ty b o:Nat}{x:Value}{A:Array Value}{t:TypeId}(hc:w.cell? ⟨b,o,none⟩=some x)(hS:Lk lo up w0 w)
 (h:∀W g,g=w.heap.size→Kept w W→Blk W g A t→W.heap.size=g+1→Lk lo up w0 W→wpAnyH Tryz.prog .any ops Q (Lk lo up w0) fuel ((listed.setIfInBounds i true).setIfInBounds k true) (frm n (upd (upd l d x) c (.slice (some ⟨g,0,none⟩) 1 1))) W)
 (hi:ops[i]? =some oi:=by rfl)(hk:ops[k]? =some ok:=by rfl)(hop:oi.op= .load ty (.tmp p):=by rfl)(hx:opv n l (.tmp p)=some (.pointer (some ⟨b,o,none⟩)):=by rfl)(hu:(Tryz.prog.underlying ty).map TypeDesc.isRow=some false:=by kernel_rfl)
 (hbs:∀W,(execOp (ev n l) ok).run Tryz.prog W= .ok (.value (.slice (some ⟨W.heap.size,0,none⟩) 1 1)) (W.alloc (.cells A t)):=by intro W;kernel_rfl)(hbs2:∀W,(execOp (ev n (upd l d x)) ok).run Tryz.prog W= .ok (.value (.slice (some ⟨W.heap.size,0,none⟩) 1 1)) (W.alloc (.cells A t)):=by intro W;kernel_rfl)
 (hg:oi.guard=none∧oi.dst=some d:=by exact⟨rfl,rfl⟩)(hg2:ok.guard=none∧ok.dst=some c:=by exact⟨rfl,rfl⟩)(hne:d≠c∧i≠k∧p≠c:=by decide)
 (hr:Region.ready .any ops listed=[i,k]:=by kernel_rfl)(hr1:Region.ready .any ops (listed.setIfInBounds i true)=[k]:=by kernel_rfl)(hr2:Region.ready .any ops (listed.setIfInBounds k true)=[i]:=by kernel_rfl):
 wpAnyH Tryz.prog .any ops Q (Lk lo up w0) (fuel+1+1) listed (frm n l) w:=by
 obtain⟨n1,n2,n3⟩:=hne
 refine rd2 i k (fun K hK=> ?_) (fun K hK=> ?_) hi hk hr
 ·rw[if_pos (by simp[Region.wanted,hg.1])]
  unfold Oper.wp
  rw[frm_eval,run_one hc hop hx hu]
  simp only[Oper.upon,hg.2,frm_put]
  exact hK.out _ _ hS fun _=>ybs k 1 A t hS (hbs2 w) h hk hg2.1 hg2.2 hr1
 ·rw[if_pos (by simp[Region.wanted,hg2.1])]
  unfold Oper.wp
  rw[frm_eval,hbs w]
  simp only[Oper.upon,hg2.2,frm_put]
  have hka:Kept w (w.alloc (.cells A t)):=(Kept.refl w).alloc _
  have hl:=hS.kept hka
  refine hK.out _ _ hl fun _=>yl1n i (hka.cell hc) hl ?_ hi hop hg.1 hg.2 (by rw[←hx];simp only[opv,upd,beq_no n3];rfl) hu hr2
  have:=h _ w.heap.size rfl hka (Blk.new w A t) (Array.size_push ..) hl
  rw[upd_comm n1,Array.setIfInBounds_comm _ _ n2] at this
  exact this
theorem face30_calls{f:Nat}{w:World}{v:Value}{c:ClaimD}(h:Clm w f v c)(hT:Laid w)(nm:ByteArray)(up:Bool):Calls Tryz.prog 30 #[v,.string nm,.bool up] w (RetF id c nm up (f+1) w):=by
 have hn:=fun(w':World)(k:Kept w w')=>rnamed_calls (h.kept k) (hT.kept k) nm
 obtain⟨V,Y,a1,n1,c1,a2,n2,c2,rfl,eV,oV,oY,hgoal,hbox,hcnd⟩:=h.own
 clear h
 generalize hne:namedE c nm=ne at hn
 refine entL [_,.string nm,.bool up] 130 Tryz.func30 rfl Tryz.ntmps30 (by simp) ?_
 iterate 2 go_step
 refine zb fun w1 g1 e1 k1 b1 s1=> ?_
 refine za Z10 31 fun w2 g2 e2 k2 b2 s2=> ?_
 refine zz ?_
 replace b1:=b1.kept k2
 have K:=k1.trans k2
 clear k1 k2
 iterate 5 go_step
 refine zl b1.range oV ?_
 refine zz ?_
 refine zc 63 _ (hn _ K) ?_
 rintro e w4 ⟨rfl,k4⟩
 refine⟨_,rfl,?_⟩
 refine zz ?_
 replace K:=K.trans k4
 replace b1:=b1.kept k4
 replace b2:=b2.kept k4
 have q4:g2<w4.heap.size:=b2.lt
 clear k4 hn
 iterate 6 go_step
 refine zz ?_
 refine z2 (.bool (ne != 0)) ?_
 iterate 3 go_step
 cases hq:ne != 0
 case' true=>
  have h0:ne≠0:=by simpa using hq
  refine zt_true ?_
  iterate 2 go_step
  refine zr (.agg Z10) ?_
  refine zz ?_
  refine zt b2 ownZ10 ownZ10 fun wf kf b2=> ?_
  refine zz ?_
  iterate 5 go_step
  have hX:faceX c nm up=ne:=by unfold faceX;rw[hne,if_pos h0]
  exact zret1b (v:=.int .i64 ne) b2 ownZ10 ⟨⟨zeroC,by rw[hX];rfl,fun h=>absurd (hX.symm.trans h) h0,fun _=>rfl⟩,K.but kf (by omega)⟩
 have h0:ne=0:=by simpa using hq
 subst h0
 obtain⟨hok,i,hi,hs,hnm,hfi,hisn,hfine,hvoid⟩:=named_zero hne
 refine zt_false ?_
 iterate 5 go_step
 subst eV
 refine zz ?_
 refine zl1 (b1.rest oY).2.1 ?_
 refine zz ?_
 refine zc 83 _ (rside_calls (hbox.kept K) nm) ?_
 rintro e w5 ⟨rfl,hw5⟩
 obtain rfl:w4=w5:=hw5
 rw[hs]
 refine⟨_,rfl,?_⟩
 refine zz ?_
 iterate 5 go_step
 obtain rfl:n1=c.box.length:=hbox.1
 obtain⟨b,off,r1,r2,r3,r4,r5,r6,r7,r8,r9,ra,rb,rc,rfl,rV,rt1,rt2⟩:=hbox.row hi
 have hiv:Ivl w (.agg #[.bool c.box[i].iv.s1,.slice r1 r2 r3,.slice r4 r5 r6,.bool c.box[i].iv.s2,.slice r7 r8 r9,.slice ra rb rc,.bool c.box[i].iv.li,.bool c.box[i].iv.hi]) c.box[i].iv:=⟨_,_,_,_,_,_,_,_,_,_,_,_,rfl,rt1,rt2⟩
 refine zz ?_
 refine zl1 (b1.rest oY).2.1 ?_
 refine zz ?_
 refine zi (s:=9) i hi ?_
 refine zz ?_
 have hrg:(w4.rangeAt b (off+i*9+1) [.bool c.box[i].iv.s1,.slice r1 r2 r3,.slice r4 r5 r6,.bool c.box[i].iv.s2,.slice r7 r8 r9,.slice ra rb rc,.bool c.box[i].iv.li,.bool c.box[i].iv.hi]):=fun j v hv=>by
  have:=K.cell (rV (j+1) v hv)
  rwa [show off+i*9+(j+1)=off+i*9+1+j by omega] at this
 refine zl (V:=#[_,_,_,_,_,_,_,_]) hrg own39 ?_
 refine zc 47 _ (iof_calls (hiv.kept K) hfine) ?_
 rintro e w6 ⟨vi,rfl,k6,hI⟩
 rw[if_neg (by simp[hvoid])] at hI
 obtain⟨u1,u2,u3,u4,u5,u6,v1,v2,v3,v4,v5,v6,rfl,qv1,qv2⟩:=hI
 refine⟨_,rfl,?_⟩
 refine za ZQ 99 fun w7 g10 e7 k7 b10 s7=> ?_
 refine zt b10 ownZQ own99 fun w8 k8 b10=> ?_
 iterate 4 go_step
 have hz:∀{b:Nat},b<0∨0≤b:=.inr (Nat.zero_le _)
 have q6:=k6.size
 have k68:=k7.but k8 (by omega)
 have q68:=k68.size
 have q78:=k8.size
 replace b1:=(b1.kept k6).kept k68
 replace b2:=(b2.kept k6).kept k68
 replace K:=(K.trans k6).trans k68
 clear k6 k7 k8 hrg
 refine drawn 0 0 fun hS=> ?_
 refine yz 0 hS ?_
 refine yl 1 (V:=#[_,_,_]) (b10.part 0) hz own97 hS ?_
 refine yz 2 hS ?_
 refine yl1 3 (b10.cell 6 rfl) hz hS ?_
 refine ya 4 ZR 97 hS fun W8 g11 e11 ka b11 s8 lW=> ?_
 refine yt 5 (b11) own97 own97 (.inr (show w8.heap.size≤g11 by rw[e11];exact Nat.le_refl _)) lW fun w9 k9 b11 lW=> ?_
 refine yas 6 lW ?_
 refine yend ?_
 have k89:Kept w8 w9:=((Kept.refl w8).drew.trans ka).but k9 (by rw[e11];exact Nat.le_refl _)
 have q11:w8.heap.size≤g11:=by rw[e11];exact Nat.le_refl _
 have l11:=b11.lt
 have k69:=k68.trans k89
 replace b1:=b1.kept k89
 replace b2:=b2.kept k89
 replace b10:=b10.kept k89
 replace K:=K.trans k89
 clear k89 k68
 iterate 5 go_step
 refine zz ?_
 iterate 3 go_step
 rename_i K2 hK2
 have rest:∀(fl:Fm)(W:World)(s:Bool)(N D:Nat)(ps:Bool)(p1:Option Addr)(p2 p3:Nat)(p4:Option Addr)(p5 p6:Nat)(inf:Bool),sees fl [(1,.string nm),(3,.pointer (some ⟨g1,0,none⟩)),(6,.pointer (some ⟨g2,0,none⟩)),(9,.int .i64 i),(11,.pointer (some ⟨g11,0,none⟩)),(12,.bool inf)]→
  Kept w W→Blk W g1 (Y++#[.bool c.strict,.slice (some ⟨b,off,none⟩) c.box.length c1,.slice a2 n2 c2]) 31→Blk W g2 Z10 31→Blk W g11 #[.bool ps,.slice p1 p2 p3,.slice p4 p5 p6] 97→(inf=false→Qv W (.agg #[.bool ps,.slice p1 p2 p3,.slice p4 p5 p6]) (s&&decide (0<N)) (rN N D) (rD N D))→small N D=true→inf=faceInf c nm up→faceT c nm up=litT (s&&decide (0<N)) (rN N D) (rD N D)→K2 (frm 130 fl) W:=by
  clear b1 b2 b10 b11 K
  intro fl W s N D ps p1 p2 p3 p4 p5 p6 inf hse K b1 b2 b11 hR hsm hinf hft
  refine hK2 _ _ ?_
  rw[←look_eq hse]
  have q2:g2<W.heap.size:=b2.lt
  have q1:g1<g2:=by omega
  iterate 3 go_step
  refine zz ?_
  iterate 3 go_step
  cases inf
  case' true=>
   refine zt_true ?_
   iterate 2 go_step
   refine zr (.agg Z10) ?_
   refine zt b2 ownZ10 ownZ10 fun wf kf b2=> ?_
   refine zz ?_
   iterate 5 go_step
   have hX:faceX c nm up=62:=by unfold faceX;rw[hne,if_neg (by decide),if_pos hinf.symm]
   exact zret1b (v:=.int .i64 62) b2 ownZ10 ⟨⟨zeroC,by rw[hX];rfl,fun h=>absurd (hX.symm.trans h) (by decide),fun _=>rfl⟩,K.but kf (by omega)⟩
  refine zt_false ?_
  iterate 5 go_step
  refine zl b11.range own97 ?_
  obtain⟨-,-,m1,m2,-,-⟩:=small_bounds hsm
  refine zc 85 _ (rat_calls (hR rfl) m1 m2) ?_
  rintro e wa ⟨t1,t2,t3,t4,t5,t6,rfl,hRt,ka⟩
  replace hRt:=hRt.sub (only_sub _ _)
  rw[show(if rD N D≤1 then 0 else rD N D)=cD N D from cd1_can N D] at hRt
  refine⟨_,rfl,?_⟩
  refine zc 84 _ (rliteral_calls hRt (fun h=>by rw[Bool.and_eq_true] at h;exact of_decide_eq_true h.2) hsm) ?_
  rintro e wb ⟨VL,rfl,hL,kb⟩
  rw[sgn_rN,←hft] at hL
  refine⟨_,rfl,?_⟩
  obtain⟨o',g',z',y1,y2,y3,y4,y5,y6,nm',a0,n0,cap0,rfl⟩:=hL.agg7
  refine zz ?_
  refine zz ?_
  refine zz ?_
  refine za Z7 27 fun wc g13 ec kc b13 sc=> ?_
  refine zt b13 ownZ own7 fun wc' kc' b13=> ?_
  refine zz ?_
  have kac:=(ka.trans kb).trans (kc.but kc' (by omega))
  replace hL:=hL.sub (only_keep (kc.but kc' (by omega)))
  replace b1:=b1.kept kac
  replace b2:=b2.kept kac
  replace K:=K.trans kac
  have qc:=kac.size
  have qa:=ka.size
  clear kac ka kb kc kc' hRt
  iterate 5 go_step
  refine zz ?_
  refine zl b13.range own7 ?_
  refine zr (.agg #[.string nm,.int .i64 o',.int .i64 g',.bool z',.slice y1 y2 y3,.slice y4 y5 y6,.string nm',.slice a0 n0 cap0]) ?_
  refine zbs 1 #[.string nm,.int .i64 o',.int .i64 g',.bool z',.slice y1 y2 y3,.slice y4 y5 y6,.string nm',.slice a0 n0 cap0] 142 fun wd gb ed kd bb sd=> ?_
  refine zz ?_
  replace hL:=hL.sub (only_keep kd)
  replace b1:=b1.kept kd
  replace b2:=b2.kept kd
  replace K:=K.trans kd
  have qd:=kd.size
  have hlok:=faceT_ok hne up
  have hpr:=ok_parts hok
  have hcell:∀(o:Nat)(v:Value),wd.cell? ⟨gb,o,none⟩=some v→(onlyW wd (fun b=>b != g2)).cell? ⟨gb,o,none⟩=some v:=fun o v h=>by
   rw[cell_only,if_pos (show(gb != g2)=true by simp only[bne_iff_ne];omega)]
   exact h
  have hp:wd.rangeAt gb 1 [.int .i64 o',.int .i64 g',.bool z',.slice y1 y2 y3,.slice y4 y5 y6,.string nm',.slice a0 n0 cap0]:=bb.part 1
  have hB:Bd (onlyW wd (fun b=>b != g2)) gb nm #[.int .i64 o',.int .i64 g',.bool z',.slice y1 y2 y3,.slice y4 y5 y6,.string nm',.slice a0 n0 cap0] (faceT c nm up):=⟨hcell _ _ (bb.cell 0 rfl),fun j v hv=>hcell _ _ (hp j v hv),own7,hL.sub (only_mono fun b hb=>by
   unfold ab at hb
   simp only[decide_eq_true_eq] at hb
   simp only[bne_iff_ne]
   omega)⟩
  have hsw2:Sub w (onlyW wd (fun b=>b != g2)):=fun a v hc=>by
   have:=World.block_lt_of_cell? w a hc
   rw[cell_only,if_pos (by simp only[bne_iff_ne];omega)]
   exact K.cell hc
  clear hcell
  have hsub:∀(W:World)(k:Kept wd W)(f:Nat)(v:Value)(t:Tree)(hx:Ex w f v t)(ho:t.ok=true),Calls Tryz.prog 86 #[v,.slice (some ⟨gb,0,none⟩) 1 1] W fun e w'=>
   (if (substT nm (faceT c nm up) t).ok=true then ∃r,e= .returned (.tuple #[r,.int .i64 0])∧Ex (uni (onlyW wd (fun b=>b != g2)) (onlyW w' (ab W.heap.size))) (f+1) r (substT nm (faceT c nm up) t) else e= .returned (.tuple #[zeroE,.int .i64 4]))∧Kept W w':=by
   intro W k f v t hx ho
   have hol:=old_in (w:=wd) (w':=W) (S:=fun b=>b != g2) fun b hb _=>k.old b hb
   refine(rSubst_calls ((hx.sub hsw2).sub hol) ho (hB.sub hol) hlok.1 hisn (hT.kept (K.trans k))).mono ?_
   rintro e w' ⟨he,k'⟩
   refine⟨?_,k'⟩
   by_cases hz:(substT nm (faceT c nm up) t).ok=true
   ·rw[if_pos hz] at he⊢
    obtain⟨r,rfl,hr⟩:=he
    exact⟨r,rfl,hr.sub (uni_in (fun b hb _=>(k.trans k').old b hb) k.size)⟩
   ·rw[if_neg hz] at he⊢
    exact he
  clear hB
  iterate 5 go_step
  refine zz ?_
  refine zl1 (b1.rest oY).1 ?_
  refine zr (.agg #[.int .i64 0,.int .i64 0,.bool false,.slice none 0 0,.slice none 0 0,.string ⟨#[]⟩,.slice none 0 0,.bool c.strict,.slice none 0 0,.slice none 0 0]) ?_
  refine za Z10 31 fun we g16 ee ke b16 se=> ?_
  refine zt (V:=#[.int .i64 0,.int .i64 0,.bool false,.slice none 0 0,.slice none 0 0,.string ⟨#[]⟩,.slice none 0 0,.bool c.strict,.slice none 0 0,.slice none 0 0]) b16 ownZ10 (own31 (Y:=Z7) ownZ) fun wf kf b16=> ?_
  have kef:=ke.but kf (by omega)
  replace b1:=b1.kept kef
  replace b2:=b2.kept kef
  have D:=kef
  have qe:=kef.size
  have q16:g16<wf.heap.size:=b16.lt
  clear hL bb b13 kd kef ke kf
  obtain⟨b',off',csB,e',rows,cells,ones⟩:=hbox.cells (by omega)
  cases e'
  have hcl:csB.length=c.box.length*9:=rows.1
  have hcap1:c.box.length≤c1:=hbox.2.1
  have h6:c.box.length≤6:=(boxOk_iff.1 hpr.1).1
  have hbl:b<w.heap.size:=World.block_lt_of_cell? w _ (cells 0 _ (List.getElem?_eq_getElem (by omega)))
  iterate 4 go_step
  refine drawn g16 wf.heap.size fun hS=> ?_
  refine yz 0 hS ?_
  refine yz 2 hS ?_
  refine yl1 3 (b1.rest oY).2.1 (.inl (show g1<g16 by omega)) hS ?_
  refine yz 4 hS ?_
  refine yr 5 (.slice (some ⟨b,off,none⟩) i c1) hS ?_ (hrun:=fun w'=>run_head rfl (by kernel_rfl) (by kernel_rfl) rfl rfl (by omega))
  have kwd:Kept wf wf.drew:=(Kept.refl wf).drew
  refine yl1n 1 ((b16.kept kwd).cell 8 rfl) hS ?_
  refine yapp (W0:=wf.drew) (news:=csB.take (i*9)) (cs:=[]) (c:=8) (k:=0) (m:=i) (a3:=none) (cap3:=0) (ax:=some ⟨b,off,none⟩) (cx:=c1) 6 7 8 info41 rfl (by decide) (by decide) Tryz.underlying28 (KeptB.refl _ g16) (World.ownsRow_nil _ _ _ _) (b16.kept kwd) q16 (Nat.le_of_ble_eq_true rfl) (by rw[List.length_take];omega) (fun j u hu=>⟨_,rfl,?_⟩) (fun u hu=>ones u (List.mem_of_mem_take hu)) (by omega) hS (Nat.le_refl _) q16 (fun g hg=>by cases hg) fun wg ag capg kbg owng b16=> ?_
  ·rw[add0]
   rw[List.getElem?_take] at hu
   split at hu
   ·exact((K.trans D).trans kwd).cell (cells j u hu)
   ·cases hu
  replace b16:Blk wg g16 #[.int .i64 0,.int .i64 0,.bool false,.slice none 0 0,.slice none 0 0,.string ⟨#[]⟩,.slice none 0 0,.bool c.strict,.slice ag (0+i) capg,.slice none 0 0] 31:=b16
  have qg:=kbg.size
  have hdz:wf.drew.heap.size=wf.heap.size:=rfl
  have b1g:=(b1.kept kwd).keptB kbg (by omega)
  have Dg:=(D.trans kwd).but kbg (by omega)
  iterate 3 go_step
  refine drawn g16 wg.heap.size fun hS=> ?_
  refine yz 0 hS ?_
  refine yz 2 hS ?_
  refine yl1 3 (b1g.rest oY).2.1 (.inl (show g1<g16 by omega)) hS ?_
  refine yz 4 hS ?_
  refine y2g 5 (.int .i64 ((i+1:Nat):Int)) hS ?_ (hrun:=fun w'=>run_inc (by omega))
  refine yr 6 (.slice (some (if c1=i+1 then⟨b,off,none⟩ else⟨b,off+(i+1)*9,none⟩)) (c.box.length-(i+1)) (c1-(i+1))) hS ?_ (hrun:=fun w'=>run_tail rfl (by kernel_rfl) (by kernel_rfl) rfl rfl (by omega))
  have kwg:Kept wg wg.drew:=(Kept.refl wg).drew
  refine yl1n 1 ((b16.kept kwg).cell 8 rfl) hS ?_
  refine yapp (W0:=wf.drew) (news:=csB.drop ((i+1)*9)) (c:=8) (k:=0+i) (m:=c.box.length-(i+1)) (a3:=ag) (cap3:=capg) (ax:=some (if c1=i+1 then⟨b,off,none⟩ else⟨b,off+(i+1)*9,none⟩)) (cx:=c1-(i+1)) 7 8 9 info41 rfl (by decide) (by decide) Tryz.underlying28 (KeptB.thenKept kbg kwg) (own_kept owng kwg) (b16.kept kwg) q16 (Nat.le_of_ble_eq_true rfl) (by rw[List.length_drop,hcl,←Nat.sub_mul]) (fun j u hu=>⟨_,rfl,?_⟩) (fun u hu=>ones u (List.mem_of_mem_drop hu)) (by omega) hS (Nat.le_refl _) (by omega) (fun g hg=>(World.ownsRow.lt owng g hg).2) fun wh ah caph kbh ownh b16=> ?_
  ·have hlt:j<csB.length-(i+1)*9:=by
    have:=(List.getElem?_eq_some_iff.1 hu).1
    simpa using this
   rw[if_neg (by omega),add0]
   rw[List.getElem?_drop] at hu
   have:=((K.trans Dg).trans kwg).cell (cells _ u hu)
   rwa [←Nat.add_assoc] at this
  clear b1g kwg kwd Dg
  replace b16:Blk wh g16 #[.int .i64 0,.int .i64 0,.bool false,.slice none 0 0,.slice none 0 0,.string ⟨#[]⟩,.slice none 0 0,.bool c.strict,.slice ah (0+i+(c.box.length-(i+1))) caph,.slice none 0 0] 31:=b16
  have qh:=kbh.size
  replace D:=(D.trans (Kept.refl wf).drew).but kbh (by omega)
  replace b1:=(b1.kept (Kept.refl wf).drew).keptB kbh (by omega)
  replace b2:=(b2.kept (Kept.refl wf).drew).keptB kbh (by omega)
  have hde:=drop_eq hpr.1 hi hnm
  have hlen:(dropL nm c.box).length=0+i+(c.box.length-(i+1)):=by
   rw[hde,List.length_append,List.length_take,List.length_drop]
   omega
  have hBx:Bxm (onlyW wh (fun b=>b != g16&&b != g2)) ah (dropL nm c.box).length caph (dropL nm c.box):=by
   obtain⟨a',cap',e,hc',-,hcell⟩:=own_open ownh
   injection e with e1 e2 e3
   subst e1
   subst e3
   have hsw:Sub w (onlyW wh (fun b=>b != g16&&b != g2)):=fun a v hc=>by
    have:=World.block_lt_of_cell? w a hc
    rw[cell_only,if_pos (by simp only[Bool.and_eq_true,bne_iff_ne];omega)]
    exact(K.trans D).cell hc
   refine Bxm.mk (cs:=[]++csB.take (i*9)++csB.drop ((i+1)*9)) (by rw[hlen];exact hc') (by omega) (fun j hj=> ?_) ?_
   ·obtain⟨b2,hb2,ha,hv⟩:=hcell j hj
    refine⟨b2,ha,?_⟩
    rw[cell_only,if_pos (by simp only[Bool.and_eq_true,bne_iff_ne];omega)]
    exact hv
   ·rw[hde,List.nil_append]
    exact((rows.takeK i).append (rows.dropK (i+1))).mono (sideR_sub _ _ hsw)
  rw[hlen] at hBx
  clear owng ownh rows cells ones kbh kbg hS
  iterate 4 go_step
  refine zz ?_
  refine zl b1.goal oY ?_
  refine zz ?_
  refine zc 86 _ (hsub _ D _ _ _ hgoal hpr.2.1) ?_
  rintro e wi ⟨hg,ki⟩
  replace b1:=b1.kept ki
  replace b2:=b2.kept ki
  replace b16:=b16.kept ki
  replace D:=D.trans ki
  replace hBx:=hBx.sub (only_keep ki)
  have qi:=ki.size
  by_cases hz1:(substT nm (faceT c nm up) c.goal).ok=true
  case' neg=>
   rw[if_neg hz1] at hg
   subst hg
   refine⟨_,rfl,?_⟩
   refine zz ?_
   refine zz ?_
   refine zz ?_
   refine za Z7 27 fun wl g19 el kl b19 sl=> ?_
   refine zt b19 ownZ ownZ fun wm km b19=> ?_
   refine zz ?_
   have klm:=kl.but km (by omega)
   iterate 6 go_step
   refine zz ?_
   refine z2 (.bool true) ?_
   iterate 3 go_step
   refine zt_true ?_
   iterate 2 go_step
   refine zr (.agg Z10) ?_
   refine zz ?_
   refine zt (b2.kept klm) ownZ10 ownZ10 fun wn kn b2=> ?_
   refine zz ?_
   iterate 5 go_step
   have hX:faceX c nm up=4:=by unfold faceX;rw[hne,if_neg (by decide),←hinf,if_neg (by decide),if_pos (.inl (by simpa using hz1))]
   exact zret1b (v:=.int .i64 4) b2 ownZ10 ⟨⟨zeroC,by rw[hX];rfl,fun h=>absurd (hX.symm.trans h) (by decide),fun _=>rfl⟩,(K.trans (D.trans klm)).but kn (by omega)⟩
  rw[if_pos hz1] at hg
  obtain⟨r,rfl,hE⟩:=hg
  obtain⟨d0,d1,d2,d3,d4,d5,d6,d7,d8,d9,da,db,dc,rfl⟩:=hE.agg7
  refine⟨_,rfl,?_⟩
  refine zz ?_
  refine zz ?_
  refine zz ?_
  refine za Z7 27 fun wj g17 ej kj b17 sj=> ?_
  refine zt b17 ownZ own7 fun wk kk b17=> ?_
  refine zz ?_
  have kjk:=kj.but kk (by omega)
  replace b1:=b1.kept kjk
  replace b2:=b2.kept kjk
  replace b16:=b16.kept kjk
  replace D:=D.trans kjk
  replace hBx:=hBx.sub (only_keep kjk)
  replace hE:=hE.sub (uni_sub (only_keep kjk))
  have qk:=kjk.size
  clear kj kk kjk
  iterate 6 go_step
  refine zz ?_
  refine z2 (.bool false) ?_
  iterate 3 go_step
  refine zt_false ?_
  iterate 5 go_step
  refine zl b17.range own7 ?_
  refine zz ?_
  refine ztp (o:=0) (V:=#[.int .i64 d0,.int .i64 d1,.bool d2,.slice d3 d4 d5,.slice d6 d7 d8,.string d9,.slice da db dc]) b16 own7 (fun wl kl b16=> ?_) (Nat.le_of_ble_eq_true rfl)
  replace b16:Blk wl g16 #[.int .i64 d0,.int .i64 d1,.bool d2,.slice d3 d4 d5,.slice d6 d7 d8,.string d9,.slice da db dc,.bool c.strict,.slice ah (0+i+(c.box.length-(i+1))) caph,.slice none 0 0] 31:=b16
  replace hE:=hE.sub (uni_sub (fresh_but (m:=wh.heap.size) kl (by omega) (Nat.le_refl _)))
  replace b1:=b1.keptB kl (by omega)
  replace b2:=b2.keptB kl (by omega)
  replace D:=D.but kl (by omega)
  replace hBx:=hBx.sub (w':=onlyW wl (fun b=>b != g16&&b != g2)) (only_move fun b hb hx=>⟨hx,kl.old b hb (by simp only[Bool.and_eq_true,bne_iff_ne] at hx;exact hx.1)⟩)
  have ql:=kl.size
  clear kl b17
  obtain rfl:n2=c.conds.length:=hcnd.1
  have HR:=fun(j:Nat)(hj:j<c.conds.length)=>hcnd.row hj
  clear hcnd
  iterate 6 go_step
  refine zz ?_
  iterate 4 go_step
  refine zloop c.conds.length (fun k=>[(1,.string nm),(3,.pointer (some ⟨g1,0,none⟩)),(6,.pointer (some ⟨g2,0,none⟩)),(15,.slice (some ⟨gb,0,none⟩) 1 1),(16,.pointer (some ⟨g16,0,none⟩)),(19,.int .i64 k)])
   (fun k W=>∃a3 cap3 cs,Grow wl W g16 93 8 (.slice a3 k cap3) k cs (leanR (onlyW wd (fun b=>b != g2)) (f+1)) (c.conds.map (faceD id c nm up))∧Blk W g16 #[.int .i64 d0,.int .i64 d1,.bool d2,.slice d3 d4 d5,.slice d6 d7 d8,.string d9,.slice da db dc,.bool c.strict,.slice ah (0+i+(c.box.length-(i+1))) caph,.slice a3 k cap3] 31∧∀j(hj:j<k)(hjl:j<c.conds.length),(substT nm (faceT c nm up) c.conds[j].t).ok=true)
   ⟨rfl,rfl,rfl,rfl,rfl,rfl,trivial⟩ ⟨none,0,[],Grow.start ..,b16,fun j hj=>absurd hj (Nat.not_lt_zero j)⟩ fun fl2 wr k hk ⟨a3,cap3,cs,G,b16,hall⟩=> ?_
  have hsz:=G.kb.size
  have own:=fun g hg=>World.ownsRow.lt G.own g hg
  have Dr:=D.but G.kb (by omega)
  replace b1:=b1.keptB G.kb (by omega)
  replace b2:=b2.keptB G.kb (by omega)
  iterate 4 go_step
  refine zz ?_
  refine zz ?_
  refine zl1 (b1.rest oY).2.2 ?_
  refine zr (.int .i64 c.conds.length) ?_
  refine z2 (.bool (decide ((k:Int)<(c.conds.length:Int)))) ?_
  iterate 3 go_step
  cases hlt:decide ((k:Int)<(c.conds.length:Int))
  case' true=>
   have hlt:k<c.conds.length:=by have:=of_decide_eq_true hlt;omega
   obtain⟨bq,offq,q0,q1',q2',q3,q4',q5,q6',rfl,rV2,oC,xC⟩:=HR k hlt
   refine zt_true ?_
   iterate 7 go_step
   refine zz ?_
   refine zl1 (b1.rest oY).2.2 ?_
   refine zz ?_
   refine zi (s:=8) k hlt ?_
   refine zz ?_
   have rV7:w.rangeAt bq (offq+k*8) [q0,q1',q2',q3,q4',q5,q6']:=fun j v hv=>rV2 j v (by
    rw[show [q0,q1',q2',q3,q4',q5,q6',Value.bool c.conds[k].strict]=[q0,q1',q2',q3,q4',q5,q6']++[Value.bool c.conds[k].strict] from rfl,List.getElem?_append_left (List.getElem?_eq_some_iff.1 hv).1]
    exact hv)
   refine zl (V:=#[q0,q1',q2',q3,q4',q5,q6']) ((Kept.sub (K.trans Dr)).range rV7) oC ?_
   refine zz ?_
   refine zc 86 _ (hsub _ Dr _ _ _ xC (hpr.2.2.2 k hlt)) ?_
   rintro e wo ⟨hg,ko⟩
   replace G:=G.kept (leanR_sub _ _) ko
   replace b16:=b16.kept ko
   replace b1:=b1.kept ko
   replace b2:=b2.kept ko
   have Do:=Dr.trans ko
   have qo:=ko.size
   by_cases hz2:(substT nm (faceT c nm up) c.conds[k].t).ok=true
   case' neg=>
    rw[if_neg hz2] at hg
    subst hg
    refine⟨_,rfl,?_⟩
    refine zz ?_
    refine zz ?_
    refine zz ?_
    refine za Z7 27 fun wp g19 el kl b19 sl=> ?_
    refine zt b19 ownZ ownZ fun wq km b19=> ?_
    refine zz ?_
    have klm:=kl.but km (by omega)
    iterate 6 go_step
    refine zz ?_
    refine z2 (.bool true) ?_
    iterate 3 go_step
    refine zt_true ?_
    iterate 2 go_step
    refine zr (.agg Z10) ?_
    refine zz ?_
    refine zt (b2.kept klm) ownZ10 ownZ10 fun wn kn b2=> ?_
    refine zz ?_
    iterate 7 go_step
    have hX:faceX c nm up=4:=by unfold faceX;rw[hne,if_neg (by decide),←hinf,if_neg (by decide),if_pos (.inr ⟨_,List.getElem_mem hlt,by simpa using hz2⟩)]
    exact zret1b (v:=.int .i64 4) b2 ownZ10 ⟨⟨zeroC,by rw[hX];rfl,fun h=>absurd (hX.symm.trans h) (by decide),fun _=>rfl⟩,(K.trans (Do.trans klm)).but kn (by omega)⟩
   rw[if_pos hz2] at hg
   obtain⟨r,rfl,hE2⟩:=hg
   obtain⟨m0,m1',m2',m3,m4,m5,m6,m7,m8,m9,ma,mb,mc,rfl⟩:=hE2.agg7
   refine⟨_,rfl,?_⟩
   refine zz ?_
   refine zz ?_
   refine zz ?_
   refine za Z7 27 fun wp g20 ep kp b20 sp=> ?_
   refine zt b20 ownZ own7 fun wq kq b20=> ?_
   refine zz ?_
   have kpq:=kp.but kq (by omega)
   replace G:=G.kept (leanR_sub _ _) kpq
   replace b16:=b16.kept kpq
   replace b1:=b1.kept kpq
   have Dq:=Do.trans kpq
   replace hE2:=hE2.sub (uni_sub (only_keep kpq))
   have qq:=kpq.size
   iterate 6 go_step
   refine zz ?_
   refine z2 (.bool false) ?_
   iterate 3 go_step
   refine zt_false ?_
   iterate 3 go_step
   have hbq:bq<w.heap.size:=World.block_lt_of_cell? w _ (rV2 0 _ rfl)
   refine drawn g16 g20 fun hS=> ?_
   refine yz 0 hS ?_
   refine yl 2 b20.range (.inr (Nat.le_refl _)) own7 hS ?_
   refine yz 3 hS ?_
   refine yl1 4 (b1.rest oY).2.2 (.inl (show g1<g16 by omega)) hS ?_
   refine yz 5 hS ?_
   refine yi 6 8 k hlt hS ?_
   refine yr 7 (.pointer (some ⟨bq,offq+k*8+7,none⟩)) hS ?_
   refine yl1 8 ((K.trans Dq).cell (rV2 7 _ rfl)) (.inl (show bq<g16 by omega)) hS ?_
   refine yr 9 (.agg #[.int .i64 m0,.int .i64 m1',.bool m2',.slice m3 m4 m5,.slice m6 m7 m8,.string m9,.slice ma mb mc,.bool c.conds[k].strict]) hS ?_
   have kwq:Kept wq wq.drew:=(Kept.refl wq).drew
   refine ylb (x:=.slice a3 k cap3) (A:=#[.int .i64 m0,.int .i64 m1',.bool m2',.slice m3 m4 m5,.slice m6 m7 m8,.string m9,.slice ma mb mc,.bool c.conds[k].strict]) (t:=93) 1 10 ((b16.kept kwq).cell 9 rfl) hS fun ws g es ks bs ss lW=> ?_
   have kqs:=kwq.trans ks
   have hdz2:wq.drew.heap.size=wq.heap.size:=rfl
   refine ygrow (c:=9) 11 12 13 (V:=#[.int .i64 m0,.int .i64 m1',.bool m2',.slice m3 m4 m5,.slice m6 m7 m8,.string m9,.slice ma mb mc,.bool c.conds[k].strict]) info93 rfl (by decide) (by decide) Tryz.underlying29 (G.kept (leanR_sub _ _) kqs) (leanR_sub _ _) (b16.kept kqs) (by omega) (Nat.le_of_ble_eq_true rfl) (own93 (Y:=#[_,_,_,_,_,_,_]) own7).2 rfl (by rw[List.length_map];exact hlt) (by omega) bs (T:=ab wr.heap.size) (by rw[List.getElem_map];exact⟨_,_,_,_,_,_,_,_,_,_,_,_,_,rfl,hE2.sub (uni_sub (only_keep kqs))⟩) (fun b hb=> ?_) lW (Nat.le_refl _) (by omega) (fun g hg=>by have:=(own g hg).2;omega) lW.size fun wt a' cap' G b16 lc=> ?_
   ·unfold ab at hb
    simp only[decide_eq_true_eq] at hb
    refine⟨by omega,fun he=> ?_⟩
    have:=(own b he.symm).2
    omega
   iterate 3 go_step
   refine zz ?_
   refine z2 (.int .i64 ((k+1:Nat):Int)) (hrun:=run_inc (by omega)) ?_
   refine zz ?_
   iterate 3 go_step
   refine⟨_,rfl,hlt,⟨rfl,rfl,rfl,rfl,rfl,rfl,trivial⟩,a',cap',_,G,b16,fun j hj hjl=> ?_⟩
   rcases Nat.lt_or_ge j k with h1|h1
   ·exact hall j h1 hjl
   ·obtain rfl:j=k:=by omega
    exact hz2
  case' false=>
   obtain rfl:k=c.conds.length:=by have:=of_decide_eq_false hlt;omega
   refine zt_false ?_
   iterate 7 go_step
   have o31:Own 31 #[.int .i64 d0,.int .i64 d1,.bool d2,.slice d3 d4 d5,.slice d6 d7 d8,.string d9,.slice da db dc,.bool c.strict,.slice ah (0+i+(c.box.length-(i+1))) caph,.slice a3 c.conds.length cap3]:=own31 (Y:=#[_,_,_,_,_,_,_]) own7
   refine zl b16.range o31 ?_
   refine zt b2 ownZ10 o31 fun wz kz b2=> ?_
   refine zz ?_
   iterate 4 go_step
   have hX:faceX c nm up=0:=by
    unfold faceX
    rw[hne,if_neg (by decide),←hinf,if_neg (by decide),if_neg]
    rintro(h|⟨d,hd,h⟩)
    ·rw[hz1] at h;cases h
    ·obtain⟨j,hj,rfl⟩:=List.getElem_of_mem hd
     rw[hall j hj hj] at h;cases h
   have G':Grow wl wr g16 93 8 (.slice a3 (c.conds.map (faceD id c nm up)).length cap3) (c.conds.map (faceD id c nm up)).length cs (leanR (onlyW wd (fun b=>b != g2)) (f+1)) (c.conds.map (faceD id c nm up)):=by rw[List.length_map];exact G
   obtain⟨hcap,hcell,hrows⟩:=G'.done (leanR_sub _ _) (N:=wd.heap.size) (by omega) (fun b hb h1=>kz.old b hb (by omega))
   have hout:Sub (uni (onlyW wd (fun b=>b != g2)) (onlyW wz (ab wd.heap.size))) wz:=(uni_out (w:=wd) (w':=wz) (S:=fun b=>b != g2) (fun b hb hx=>(kz.old b (by have:=Dr.size;omega) (by simpa using hx)).trans (Dr.old b hb)) (Nat.le_refl _)).trans (only_sub _ _)
   have hcn:=Cnm.mk (w:=wz) hcap (by rw[List.length_map];omega) (fun j hj=>by
    obtain⟨b,ha,hv⟩:=hcell j hj
    refine⟨b,ha,?_⟩
    rw[List.getElem?_eq_getElem hj] at hv⊢
    exact only_sub _ _ _ _ hv) (hrows.mono fun l t h=>condR_sub (f+1) _ _ hout _ _ h)
   rw[List.length_map] at hcn
   have hE3:=hE.sub ((uni_sub (only_move (S':=ab wd.heap.size) fun b hb hx=>by
    unfold ab at hx⊢
    simp only[decide_eq_true_eq] at hx⊢
    exact⟨by omega,(kz.old b (by omega) (by omega)).trans (G.kb.old b hb (by omega))⟩)).trans hout)
   have hbx3:=hBx.sub ((only_move (S':=allB) fun b hb hx=>by
    simp only[Bool.and_eq_true,bne_iff_ne] at hx
    exact⟨rfl,(kz.old b (by omega) (by omega)).trans (G.kb.old b hb (by omega))⟩).trans (only_sub wz allB))
   rw[←hlen] at hbx3 b2⊢
   refine zret1b (v:=.int .i64 0) b2 (by rw[hlen];exact o31) ⟨⟨_,by rw[hX];rfl,fun _=>⟨_,_,_,_,_,_,_,_,_,_,_,_,_,_,_,_,_,_,_,rfl,hE3,hbx3,hcn⟩,fun h=>absurd hX h⟩,(K.trans Dr).but kz (by omega)⟩
 cases up
 case' false=>
  refine zt_false ?_
  iterate 2 go_step
  refine rest _ _ c.box[i].iv.s1 c.box[i].iv.N1 c.box[i].iv.D1 _ _ _ _ _ _ _ _ ⟨rfl,rfl,rfl,rfl,rfl,rfl,trivial⟩ K b1 b2 b11 (fun hf=> ?_) (fine_small hfine).1 (by unfold faceInf;rw[hfi];rfl) (by unfold faceT;rw[hfi];rfl)
  have hf':c.box[i].iv.li=false:=hf
  simp only[hf'] at qv1⊢
  exact qv1.kept k69
 refine zt_true ?_
 have q9:g10<g11:=by have:=e7;have:=s7;omega
 refine drawn g11 (g11+1) fun hS=> ?_
 refine yz 0 hS ?_
 refine yl 1 (V:=#[_,_,_]) (b10.part 3) (.inl q9) own97 hS ?_
 refine yz 2 hS ?_
 refine yl1 3 (b10.cell 7 rfl) (.inl q9) hS ?_
 refine yt 4 (b11.kept (Kept.refl w9).drew) own97 own97 (.inl ⟨Nat.le_refl _,by omega⟩) hS fun wa ka b11 lW=> ?_
 refine yas 5 lW ?_
 refine yend ?_
 have k9a:Kept w9 w9.drew:=(Kept.refl w9).drew
 go_step
 refine rest _ _ c.box[i].iv.s2 c.box[i].iv.N2 c.box[i].iv.D2 _ _ _ _ _ _ _ _ ⟨rfl,rfl,rfl,rfl,rfl,rfl,trivial⟩ ((K.trans k9a).but ka (by have:=e2;omega)) ((b1.kept k9a).keptB ka (by omega)) ((b2.kept k9a).keptB ka (by omega)) b11 (fun hf=> ?_) (fine_small hfine).2 (by unfold faceInf;rw[hfi];rfl) (by unfold faceT;rw[hfi];rfl)
 have hf':c.box[i].iv.hi=false:=hf
 simp only[hf'] at qv2⊢
 exact qv2.kept ((k69.trans k9a).but ka (by omega))
end
section
open Go Go.RowKit Go.Dig Go.Deep
open Go.Eng (Kept KW KeptB wp_region_kw kw_call)
set_option maxHeartbeats 8000000
set_option maxRecDepth 100000
theorem face_shape{x:Int}{r:Value}{W:World}{f:Nat}{d:ClaimD}(h:x=0→Clm W f r d)(hz:x≠0→r=zeroC):∃V,r= .agg V∧Own 31 V:=by
 by_cases hx:x=0
 ·obtain⟨V,-,-,-,-,-,-,-,rfl,-,oV,-⟩:=(h hx).own
  exact⟨V,rfl,oV⟩
 ·exact⟨Z10,by rw[hz hx];rfl,ownZ10⟩
theorem claimFaces_of(hsane:∀w,Laid6 w→Calls Tryz.prog 14 #[] w fun e w'=>e= .returned (.bool true)∧Kept w w'){f:Nat}{w:World}{v:Value}{c:ClaimD}(h:Clm w f v c)(hL:Laid6 w)(nm:ByteArray)(up:Bool):
 Calls Tryz.prog 9 #[v,.string nm,.bool up] w fun e w'=>e= .returned (.bool true)∧Kept w w':=by
 have hT:Laid w:=hL.laid
 have h29:=fun(w':World)(k:Kept w w')=>face29_calls (h.kept k) (hT.kept k) nm up
 have h30:=fun(w':World)(k:Kept w w')=>face30_calls (h.kept k) (hT.kept k) nm up
 obtain⟨V,-,-,-,-,-,-,-,rfl,-,oV,-⟩:=h.own
 clear h
 refine entL [_,.string nm,.bool up] 33 Tryz.func9 rfl Tryz.ntmps9 (by simp) ?_
 iterate 3 go_step
 refine zb fun w1 g1 e1 k1 b1 s1=> ?_
 refine zz ?_
 iterate 5 go_step
 refine zl b1.range oV ?_
 refine zz ?_
 refine zz ?_
 refine zc 29 _ (h29 _ k1) ?_
 rintro e w2 ⟨⟨r,rfl,ha,haz⟩,k2⟩
 obtain⟨R,rfl,oR⟩:=face_shape ha haz
 refine⟨_,rfl,?_⟩
 refine zz ?_
 refine zz ?_
 refine zz ?_
 refine za Z10 31 fun w3 g7 e3 k3 b7 s3=> ?_
 refine zt b7 ownZ10 oR fun w4 k4 b7=> ?_
 refine zz ?_
 have k34:=k3.but k4 (by omega)
 have K:=(k1.trans k2).trans k34
 replace b1:=(b1.kept k2).kept k34
 replace ha:=fun hx=>(ha hx).kept k34
 clear k1 k2 k3 k4 k34
 iterate 5 go_step
 refine zl b1.range oV ?_
 refine zz ?_
 refine zz ?_
 refine zc 30 _ (h30 _ K) ?_
 rintro e w5 ⟨⟨r,rfl,hb,hbz⟩,k5⟩
 obtain⟨R',rfl,oR'⟩:=face_shape hb hbz
 refine⟨_,rfl,?_⟩
 refine zz ?_
 refine zz ?_
 refine zz ?_
 refine za Z10 31 fun w6 g9 e6 k6 b9 s6=> ?_
 refine zt b9 ownZ10 oR' fun w7 k7 b9=> ?_
 refine zz ?_
 have k67:=k6.but k7 (by omega)
 have k57:=k5.trans k67
 replace b7:=b7.kept k57
 replace K:=K.trans k57
 replace ha:=fun hx=>(ha hx).kept k57
 replace hb:=fun hx=>(hb hx).kept k67
 clear k5 k6 k7 k67 k57
 iterate 5 go_step
 refine zl b7.range oR ?_
 refine zz ?_
 refine zl b9.range oR' ?_
 refine zz ?_
 refine zc 13 _ (agrees2_calls (f:=f+1) (d:=faceC canT c nm up) (d':=faceC id c nm up) (fun hx=>⟨ha hx,hb hx,face_ok (fun t ht=>⟨can_ok ht,vars_can t⟩) hx,face_ok (fun t ht=>⟨ht,rfl⟩) hx,face_same hx⟩) (fun hx=>⟨haz hx,hbz hx⟩)) ?_
 rintro e w8 ⟨rfl,k8⟩
 refine⟨_,rfl,?_⟩
 refine zz ?_
 refine zwant ?_
 refine zc 14 _ (hsane _ (hL.kept (K.trans k8))) ?_
 rintro e w9 ⟨rfl,k9⟩
 refine⟨_,rfl,?_⟩
 refine zz ?_
 refine zz ?_
 iterate 5 go_step
 exact zretT ⟨rfl,(K.trans k8).trans k9⟩
end
end Go.Proofs.YtbapfnpbamnmpaaGreatDoor
