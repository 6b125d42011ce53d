/- A part of the proof that the text which Print makes of a parsed text is a normal form -/
import Derived.Test.YtbapfnpbamnmpaaGreatDoorP00
import Derived.Test.YtbapfnpbamnmpaaGreatDoorP01
import Derived.Test.YtbapfnpbamnmpaaGreatDoorP06
import Derived.Recover
import Derived.Laws.Tables
set_option maxHeartbeats 8000000
set_option maxRecDepth 100000
set_option maxRecDepth 10000
namespace Go.Proofs.YtbapfnpbamnmpaaGreatDoor
open Go Go.RowKit Go.Dig Go.Deep Go.Eng Go.Proofs.Tryz
variable{w:World}{a b:Int}{t xt yt:TypeId}{c:Code}{fn:Func}{R:Ending->World->Prop}{x y:Operand}{op:BinOp}{k:IntKind}
section
attribute [local irreducible] wpList
theorem pR{b:Nat}{cs:Array Value}(h:aD w b cs t):∀(j:Nat)(u:Value),cs.toList[j]? =some u->w.cell? (Addr.add ⟨b,0,none⟩ j)=some u:=by
 intro j u a;rw[show(Addr.add ⟨b,0,none⟩ j)=⟨b,0+j,none⟩ by unfold Addr.add;split<;>simp_all]
 rw[lp]
 exact h.cell j (by simpa using a)
theorem aD.part{b:Nat}{V:Array Value}(h:aD w b V t)(o:Nat){L:List Value}(a:(V.toList.drop o).take L.length=L:=by rfl):w.rangeAt b o L:=λ j v hv=>by
 refine h.cell (o+j) ?_;rw[<-a,List.getElem?_take] at hv;split at hv
 ·rw[List.getElem?_drop] at hv;simpa using hv
 ·cases hv
theorem cQ{z:Bool}{x1:Option Addr}{x2 x3:Nat}{x4:Option Addr}{x5 x6:Nat}:dY 24 #[.bool z,.slice x1 x2 x3,.slice x4 x5 x6]:=⟨by kernel_rfl,by simp[Value.oneCell']⟩
theorem PG{σ:Type}{Q:Exit->Act->World->Prop}{n:Nat}(m:Nat)(L:Nat->σ->List (Nat×Value))(I:Nat->σ->World->Prop)
 (h:∀(l:Fm)(w:World)(k:Nat)(s:σ),k<=m->I k s w->c.wp prog (Exit.then (λ a w=>∃b s',a=aH n b/\k+1<=m/\oN b (L (k+1) s')/\I (k+1) s' w) Q) (aH n (look l (L k s))) w):
 ∀(r k:Nat)(s:σ)(l:Fm)(w:World),k<=m->m-k=r->oN l (L k s)->I k s w->Wn prog c Q (r+1) (aH n l) w
 |r,k,s,l,w,j,hr,hs,o=>by
  have f:=h l w k s j o;rw[jA hs] at f;refine Code.wp_mono ?_ f;intro e a' w' q;cases e<;>first
   |exact q
   |(obtain⟨b,s',rfl,i,g,d⟩:=q
     cases r with
     |zero=>omega
     |succ r=>exact PG m L I h r (k+1) s' b w' i (by omega) g d)
theorem dQ{σ:Type}{Q:Exit->Act->World->Prop}{n:Nat}{l:Fm}(m:Nat)(L:Nat->σ->List (Nat×Value))(I:Nat->σ->World->Prop)(s0:σ)(d:oN l (L 0 s0))(e:I 0 s0 w)
 (h:∀(l:Fm)(w:World)(k:Nat)(s:σ),k<=m->I k s w->c.wp prog (Exit.then (λ a w=>∃b s',a=aH n b/\k+1<=m/\oN b (L (k+1) s')/\I (k+1) s' w) Q) (aH n (look l (L k s))) w):
 (Code.loop c).wp prog Q (aH n l) w:=UJ _ (PG m L I h m 0 s0 l w (eo _) rfl d e)
def Z9:Array Value:=#[.string ⟨#[]⟩,.bool false,.slice none 0 0,.slice none 0 0,.bool false,.slice none 0 0,.slice none 0 0,.bool false,.bool false]
theorem kL{s1:Bool}{a1:Option Addr}{n1 c1:Nat}{a2:Option Addr}{n2 c2:Nat}{s2:Bool}{a3:Option Addr}{n3 c3:Nat}{a4:Option Addr}{n4 c4:Nat}{p q:Bool}:dY 39 #[.bool s1,.slice a1 n1 c1,.slice a2 n2 c2,.bool s2,.slice a3 n3 c3,.slice a4 n4 c4,.bool p,.bool q]:=
 ⟨by kernel_rfl,by simp[Value.oneCell']⟩
theorem OL{nm:ByteArray}{s1:Bool}{a1:Option Addr}{n1 c1:Nat}{a2:Option Addr}{n2 c2:Nat}{s2:Bool}{a3:Option Addr}{n3 c3:Nat}{a4:Option Addr}{n4 c4:Nat}{p q:Bool}:dY 41 #[.string nm,.bool s1,.slice a1 n1 c1,.slice a2 n2 c2,.bool s2,.slice a3 n3 c3,.slice a4 n4 c4,.bool p,.bool q]:=
 ⟨by kernel_rfl,by simp[Value.oneCell']⟩
section
variable{n:Nat}{l:Fm}{ops:Array Oper}{rest:List Oper}{Q:Exit->Act->World->Prop}{oi oj:Oper}{fuel:Nat}{listed:Array Bool}{w w0:World}{d e lo up:Nat}
theorem ej{ty t1:TypeId}{p1:Tmp}{g1:Nat}{V1:Array Value}(c:aD w g1 V1 t1)(v1:dY ty V1)(hR:R (.returned (.agg V1)) w)
 (h:fn.results=#[.cell p1 ty]:=by rfl)(a:bA n l (.tmp p1)=some (.pointer (some ⟨g1,0,none⟩)):=by rfl)(b:(prog.underlying ty).map TypeDesc.isRow=some true:=by kernel_rfl):bodyPost prog fn R .ret (aH n l) w:=by
 refine bodyPost_ret ?_ rfl hR;have e1:=bK a;simp only[Array.getD_eq_getD_getElem?] at e1;simp[results,h,e1,asAddr,c.loadVar v1 b]
theorem aF{v:Value}(hR:R (.returned v) w)(h:fn.results=#[.tmp d]:=by rfl)(hv:bA n l (.tmp d)=some v:=by rfl):bodyPost prog fn R .ret (aH n l) w:=by
 refine bodyPost_ret ?_ rfl hR;have e1:=bK hv;simp only[Array.getD_eq_getD_getElem?] at e1;simp[results,h,e1]
end
theorem dK{f:FuncId}(vs:List Value)(N:Nat)(hf:prog.funcs[f]? =some fn)(hb:fn.body=some c)(hn:fn.ntmps=N)(a:vs.length<=N)
 (h:c.wp prog (bodyPost prog fn R) (aH N λ i=>vs[i]?) w):Calls prog f vs.toArray w R:=by
 have e:(⟨vs.toArray++Array.replicate (N-vs.length) undef,[]⟩:Act)=aH N (λ i=>vs[i]?):=by
  refine congrArg (λ t=>(⟨t,[]⟩:Act)) (?_:vs.toArray++Array.replicate (N-vs.length) undef=((List.range N).map λ i=>(vs[i]?).getD undef).toArray)
  apply Array.ext
  ·simp;omega
  ·intro i h1 h2;simp only[Array.getElem_append,List.size_toArray,List.getElem_toArray,List.getElem_map,List.getElem_range,Array.getElem_replicate]
   split
   ·rename_i hi;rw[nW hi]
    rfl
   ·rename_i hi;rw[List.getElem?_eq_none (by omega)]
    rfl
 refine calls_of_wp hf hb ?_;rw[hn,show vs.toArray.size=vs.length from rfl,e]
 exact h
section
variable{n:Nat}{l:Fm}{ops:Array Oper}{rest:List Oper}{Q:Exit->Act->World->Prop}{oi:Oper}{w:World}{d:Nat}
theorem aiR(h:wpList prog ops Q rest (aH n (aC l d undef)) w)(hw:jh n l ops oi=some false:=by kernel_rfl)(hd:oi.dst=some d:=by rfl):
 wpList prog ops Q (oi::rest) (aH n l) w:=wpList_skip (rq hw) (by rw[hd,bX];exact h)
def af6(n:Nat)(l:Fm)(x:Operand):Option Value:=match bA n l x with
 |some (.slice _ k _)=>some (.int .i64 (k:Int))
 |some (.string s)=>some (.int .i64 (s.size:Int))
 |_=>none
theorem zln{v:Value}(h:wpList prog ops Q rest (aH n (aC l d v)) w)(_:oi.op= .call {callee:=.builtin .len,args:=#[x],argTypes:=#[t]}:=by rfl)(_:af6 n l x=some v:=by rfl)
 (hrun:(execOp (ev n l) oi).run prog w= .ok (.value v) w:=by kernel_rfl)(a:oi.guard=none:=by rfl)(hd:oi.dst=some d:=by rfl):wpList prog ops Q (oi::rest) (aH n l) w:=
 zr v h hrun a hd
@[reducible] def Ln:BinOp->Int->Int->Bool
  | .lss,a,b=>decide (a<b)
  | .leq,a,b=>decide (a<=b)
  | .gtr,a,b=>decide (b<a)
  | .geq,a,b=>decide (b<=a)
  | .eql,a,b=>a==b
  |_,a,b=>a != b
def Bz:BinOp->Bool
 | .lss| .leq| .gtr| .geq| .eql| .neq=>true
 |_=>false
theorem FN(h:Bz op=true):(do eqGuard op xt x y (.int k a) (.int k b);binOp op xt (.int k a) (.int k b):Sem Value).run prog w= .ok (.bool (Ln op a b)) w:=by
 cases op<;>first
  |(cases h;done)
  |go_simp
theorem cr(u:Bool)(e:Ln op a b=u)(h:wpList prog ops Q rest (aH n (aC l d (.bool u))) w)
 (f:oi.op= .binOp op xt x y yt:=by rfl)(hx:bA n l x=some (.int k a):=by rfl)(c:bA n l y=some (.int k b):=by rfl)(hc:Bz op=true:=by rfl)(g:oi.guard=none:=by rfl)(hd:oi.dst=some d:=by rfl):wpList prog ops Q (oi::rest) (aH n l) w:=
 z2 (.bool u) h f hx c (by rw[FN hc,e]) g hd
theorem znc{b o:Nat}(h:wpList prog ops Q rest (aH n (aC l d (.pointer (some ⟨b,o,none⟩)))) w)(a:oi.op= .nilCheck x:=by rfl)(hx:bA n l x=some (.pointer (some ⟨b,o,none⟩)):=by rfl)
 (c:oi.guard=none:=by rfl)(hd:oi.dst=some d:=by rfl):wpList prog ops Q (oi::rest) (aH n l) w:=
 zv _ (by unfold execOp;rw[aO];simp only[a,eG hx];rfl) c hd h
end
def PH:List (Nat×Nat×Nat):=[(153,0,0),(153,1,1),(153,2,2),(161,0,0),(161,1,1),(161,2,2),(161,3,3),(65,0,0),(65,1,2),(65,2,4),(63,0,0),(63,1,1),(69,0,0),(69,1,1),(69,2,2),(69,3,7),(69,4,8),(157,0,0),(240,0,0),(240,1,1),(240,2,2),(242,0,0),(242,1,1),(242,2,4),(182,0,0),(182,1,1),(182,2,2),(87,0,0),(87,1,1),(87,2,2),(87,3,3),(87,4,4),(188,0,0),(188,1,3),(84,0,0),(84,1,1),(84,2,2),(91,0,0),(91,1,7),(91,2,8),(91,3,9),(101,0,0),(101,1,1),(101,2,2),(101,3,11)]
def OW(s f:Nat):Option Nat:=(PH.find? λ e=>Nat.beq e.1 s&&Nat.beq e.2.1 f).map (·.2.2)
theorem JJ:∀e∈PH,∀(b o:Nat)(w:World),(Instr.fieldAt e.1 (.pointer (some ⟨b,o,none⟩)) e.2.1).run prog w= .ok (.pointer (some ⟨b,o+e.2.2,none⟩)) w:=by
 intro e he b o w;unfold PH at he;simp only[List.mem_cons,nU,or_false] at he;rcases he with rfl|rfl|rfl|rfl|rfl|rfl|rfl|rfl|rfl|rfl|rfl|rfl|rfl|rfl|rfl|rfl|rfl|rfl|rfl|rfl|rfl|rfl|rfl|rfl|rfl|rfl|rfl|rfl|rfl|rfl|rfl|rfl|rfl|rfl|rfl|rfl|rfl|rfl|rfl|rfl|rfl|rfl|rfl|rfl|rfl<;>kernel_rfl
theorem Er{s f k:Nat}(h:OW s f=some k)(b o:Nat)(w:World):(Instr.fieldAt s (.pointer (some ⟨b,o,none⟩)) f).run prog w= .ok (.pointer (some ⟨b,o+k,none⟩)) w:=by
 unfold OW at h;obtain⟨e,he,rfl⟩:=Option.map_eq_some_iff.1 h;have h1:=List.find?_some he;simp only[fv] at h1;obtain⟨h1,h2⟩:=h1;obtain rfl:=Nat.eq_of_beq_eq_true h1;obtain rfl:=Nat.eq_of_beq_eq_true h2;exact JJ e (List.mem_of_find?_eq_some he) b o w
section
variable{n:Nat}{l:Fm}{ops:Array Oper}{rest:List Oper}{Q:Exit->Act->World->Prop}{oi:Oper}{w:World}{d:Nat}
theorem zfa{s f k b o:Nat}(h:wpList prog ops Q rest (aH n (aC l d (.pointer (some ⟨b,o+k,none⟩)))) w)(a:oi.op= .fieldAddr s x f:=by rfl)(hx:bA n l x=some (.pointer (some ⟨b,o,none⟩)):=by rfl)(c:OW s f=some k:=by rfl)
 (e:oi.guard=none:=by rfl)(hd:oi.dst=some d:=by rfl):wpList prog ops Q (oi::rest) (aH n l) w:=
 zv _ (by
  unfold execOp;rw[aO]
  simp only[a,eG hx]
  show(do pure (Next.value (<-Instr.fieldAt s (.pointer (some ⟨b,o,none⟩)) f)):Sem Next).run prog w=_;rw[Sem.run_bind,Er c]
  rfl) e hd h
theorem run_seq{a b:ByteArray}{u:Bool}(c:(a.toList==b.data.toList)=u):(do eqGuard .eql 9 x y (.string a) (.string b);binOp .eql 9 (.string a) (.string b):Sem Value).run prog w= .ok (.bool u) w:=by
 rw[<-ByteArray.toList_eq b] at c;subst c;go_simp
theorem pJ(u:Bool){a b:ByteArray}(e:(a.toList==b.data.toList)=u)(h:wpList prog ops Q rest (aH n (aC l d (.bool u))) w)
 (f:oi.op= .binOp .eql 9 x y yt:=by rfl)(hx:bA n l x=some (.string a):=by rfl)(c:bA n l y=some (.string b):=by rfl)(g:oi.guard=none:=by rfl)(hd:oi.dst=some d:=by rfl):wpList prog ops Q (oi::rest) (aH n l) w:=
 z2 (.bool u) h f hx c (run_seq e) g hd
end
section
variable{n:Nat}{l:Fm}{ops:Array Oper}{rest:List Oper}{Q:Exit->Act->World->Prop}{oi:Oper}{w:World}{d:Nat}
@[reducible] def arI:BinOp->Int->Int->Int
  | .add,a,b=>a+b
  | .sub,a,b=>a-b
  |_,a,b=>a*b
def aaX:BinOp->Bool
 | .add| .sub| .mul=>true
 |_=>false
theorem Te{r:Int}{w:World}(h:aaX op=true)(hr:arI op a b=r)(hw:k.wrap r=r):(do eqGuard op xt x y (.int k a) (.int k b);binOp op xt (.int k a) (.int k b):Sem Value).run prog w= .ok (.int k r) w:=by
 subst hr;cases op<;>first
  |(cases h;done)
  |go_simp
theorem mH(r:Int)(hr:arI op a b=r)(hw:k.wrap r=r)(h:wpList prog ops Q rest (aH n (aC l d (.int k r))) w)
 (e:oi.op= .binOp op xt x y yt:=by rfl)(hx:bA n l x=some (.int k a):=by rfl)(c:bA n l y=some (.int k b):=by rfl)(hc:aaX op=true:=by rfl)(f:oi.guard=none:=by rfl)(hd:oi.dst=some d:=by rfl):wpList prog ops Q (oi::rest) (aH n l) w:=
 z2 (.int k r) h e hx c (Te hc hr hw) f hd
theorem Dt{σ:Type}{n:Nat}{l:Fm}{w:World}{Q:Exit->Act->World->Prop}(L:σ->List (Nat×Value))(I:σ->World->Prop)
 (h:∀b:Exit->Act->World->Prop,(∀a w' s,oN a (L s)->I s w'->b .normal (aH n a) w')->c.wp prog b (aH n l) w)
 (hQ:∀a w' s,I s w'->Q .normal (aH n (look a (L s))) w'):c.wp prog Q (aH n l) w:=
 h Q λ a w' s hs d=>by have:=hQ a w' s d;rwa [jA hs] at this
end
section
section
variable{n:Nat}{l:Fm}{ops:Array Oper}{rest:List Oper}{Q:Exit->Act->World->Prop}{oi:Oper}{w:World}{d:Nat}
theorem jX(f:FuncId)(args:Array Value)(hc:Calls prog f args w R)(h:∀e w',R e w'->(∃v,e= .returned v/\wpList prog ops Q rest (aH n (aC l d v)) w')∨(∃ch,e= .panicked ch/\Q (.panic ch) (aH n l) w'))
 (hrun:(execOp (ev n l) oi).run prog w= .ok (.enter f args) w:=by kernel_rfl)(b:oi.guard=none:=by rfl)(hd:oi.dst=some d:=by rfl):wpList prog ops Q (oi::rest) (aH n l) w:=
 wpList_plain b λ K hK=>by
  unfold Oper.wp;rw[aO,hrun]
  refine Calls.mono hc λ e w' hR=> ?_;rcases h e w' hR with⟨v,rfl,a⟩|⟨ch,rfl,a⟩
  ·simp only[Act.put,hd]
   rw[<-jz] at a;exact hK _ _ a
  ·exact a
theorem zcf(h:wpList prog ops Q rest (aH n (aC l d (.bool false))) w)
 (f:oi.op= .binOp op xt x y yt:=by rfl)(hx:bA n l x=some (.int k a):=by rfl)(c:bA n l y=some (.int k b):=by rfl)(hc:Bz op=true:=by rfl)(g:oi.guard=none:=by rfl)(hd:oi.dst=some d:=by rfl)(e:Ln op a b=false:=by rfl):wpList prog ops Q (oi::rest) (aH n l) w:=
 cr false e h f hx c hc g hd
theorem zct(h:wpList prog ops Q rest (aH n (aC l d (.bool true))) w)
 (f:oi.op= .binOp op xt x y yt:=by rfl)(hx:bA n l x=some (.int k a):=by rfl)(c:bA n l y=some (.int k b):=by rfl)(hc:Bz op=true:=by rfl)(g:oi.guard=none:=by rfl)(hd:oi.dst=some d:=by rfl)(e:Ln op a b=true:=by rfl):wpList prog ops Q (oi::rest) (aH n l) w:=
 cr true e h f hx c hc g hd
end
end
end
end Go.Proofs.YtbapfnpbamnmpaaGreatDoor
set_option maxRecDepth 10000
namespace Go.Proofs.YtbapfnpbamnmpaaGreatDoor
open Go Go.RowKit Go.Dig Go.Deep Go.Eng Go.Proofs.Tryz
variable{D N b d f g k n o s ty:Nat}{x y:Operand}{t xt yt:TypeId}{v:Value}{op:BinOp}{a:Int}{w w':World}{A B:Prop}{P:Value->World->Prop}{p:Bool}{c:List PanicEntry}
def V7:List (Nat×Nat×Nat):=[(410,0,0),(410,1,1),(410,2,2),(414,0,0),(414,1,1),(414,2,2),(414,3,3),(417,0,0),(417,1,1),(417,2,2),(417,3,3),(373,0,0),(373,1,1),(217,0,0),(217,1,1),(217,2,2)]
theorem V8:∀e∈V7,∀(b o:Nat)(w:World),(Instr.fieldAt e.1 (.pointer (some ⟨b,o,none⟩)) e.2.1).run prog w= .ok (.pointer (some ⟨b,o+e.2.2,none⟩)) w:=by
 intro e he b o w;unfold V7 at he;simp only[List.mem_cons,nU,or_false] at he;rcases he with rfl|rfl|rfl|rfl|rfl|rfl|rfl|rfl|rfl|rfl|rfl|rfl|rfl|rfl|rfl|rfl<;>kernel_rfl
def KO(s f:Nat):Option Nat:=((V7++(PH++Ze)).find? λ e=>Nat.beq e.1 s&&Nat.beq e.2.1 f).map (·.2.2)
theorem Sh(h:KO s f=some k)(b o:Nat)(w:World):(Instr.fieldAt s (.pointer (some ⟨b,o,none⟩)) f).run prog w= .ok (.pointer (some ⟨b,o+k,none⟩)) w:=by
 unfold KO at h;obtain⟨e,he,rfl⟩:=Option.map_eq_some_iff.1 h;have h1:=List.find?_some he;simp only[fv] at h1;obtain⟨h1,h2⟩:=h1;obtain rfl:=Nat.eq_of_beq_eq_true h1;obtain rfl:=Nat.eq_of_beq_eq_true h2;rcases List.mem_append.1 (List.mem_of_find?_eq_some he) with h3|h3
 ·exact V8 e h3 b o w
 ·rcases List.mem_append.1 h3 with a|a
  ·exact JJ e a b o w
  ·exact Qo e a b o w
section
variable{n:Nat}{l:Fm}{ops:Array Oper}{rest:List Oper}{Q:Exit->Act->World->Prop}{oi:Oper}{fuel:Nat}{listed:Array Bool}{w w0:World}{d lo up:Nat}{S:World->Prop}
theorem Qp(a:oi.op= .fieldAddr s x f)(hx:bA n l x=some (.pointer (some ⟨b,o,none⟩)))(c:KO s f=some k)(w:World):(execOp (ev n l) oi).run prog w= .ok (.value (.pointer (some ⟨b,o+k,none⟩))) w:=by
 unfold execOp;simp only[a,eG hx]
 show(do pure (Next.value (<-Instr.fieldAt s (.pointer (some ⟨b,o,none⟩)) f)):Sem Next).run prog w=_;rw[Sem.run_bind,Sh c]
 rfl
theorem Zf(a:oi.op= .nilCheck x)(hx:bA n l x=some (.pointer (some ⟨b,o,none⟩)))(w:World):(execOp (ev n l) oi).run prog w= .ok (.value (.pointer (some ⟨b,o,none⟩))) w:=by
 unfold execOp;simp only[a,eG hx]
 rfl
theorem zfb(h:wpList prog ops Q rest (aH n (aC l d (.pointer (some ⟨b,o+k,none⟩)))) w)(a:oi.op= .fieldAddr s x f:=by rfl)(hx:bA n l x=some (.pointer (some ⟨b,o,none⟩)):=by rfl)(c:KO s f=some k:=by rfl)
 (e:oi.guard=none:=by rfl)(hd:oi.dst=some d:=by rfl):wpList prog ops Q (oi::rest) (aH n l) w:=
 zv _ (by rw[aO];exact Qp a hx c w) e hd h
theorem jG(i:Nat)(hS:S w)(h:wpAnyH prog .any ops Q S fuel (listed.setIfInBounds i true) (aH n (aC l d (.pointer (some ⟨b,o+k,none⟩)))) w)
 (hi:ops[i]? =some oi:=by rfl)(e:oi.op= .fieldAddr s x f:=by rfl)(hx:bA n l x=some (.pointer (some ⟨b,o,none⟩)):=by rfl)(g:KO s f=some k:=by rfl)(hw:jh n l ops oi=some true:=by rfl)(hd:oi.dst=some d:=by rfl)
 (hs:Region.noSelect ops=true:=by kernel_rfl)(hf:Region.free .any ops listed i=true:=by kernel_rfl)(hr:(Region.ready .any ops listed).contains i=true:=by kernel_rfl)
 (hQ:∀c a w x,Q (.panic c) (a.put oi.dst x) w->Q (.panic c) a w:=by exact λ _ _ _ _ h=>h):wpAnyH prog .any ops Q S (fuel+1) listed (aH n l) w:=
 Wa i _ hS h hi hw hd (λ w' _=>Qp e hx g w') hs hf hr (λ c a w=>hQ c a w _)
theorem mO(i:Nat)(hS:S w)(h:wpAnyH prog .any ops Q S fuel (listed.setIfInBounds i true) (aH n (aC l d (.pointer (some ⟨b,o,none⟩)))) w)
 (hi:ops[i]? =some oi:=by rfl)(e:oi.op= .nilCheck x:=by rfl)(hx:bA n l x=some (.pointer (some ⟨b,o,none⟩)):=by rfl)(hw:jh n l ops oi=some true:=by rfl)(hd:oi.dst=some d:=by rfl)
 (hs:Region.noSelect ops=true:=by kernel_rfl)(hf:Region.free .any ops listed i=true:=by kernel_rfl)(hr:(Region.ready .any ops listed).contains i=true:=by kernel_rfl)
 (hQ:∀c a w x,Q (.panic c) (a.put oi.dst x) w->Q (.panic c) a w:=by exact λ _ _ _ _ h=>h):wpAnyH prog .any ops Q S (fuel+1) listed (aH n l) w:=
 Wa i _ hS h hi hw hd (λ w' _=>Zf e hx w') hs hf hr (λ c a w=>hQ c a w _)
theorem Lr(i:Nat)(hS:S w)(h:wpAnyH prog .any ops Q S fuel (listed.setIfInBounds i true) (aH n (aC l d v)) w)
 (hi:ops[i]? =some oi:=by rfl)(_:oi.op= .call {callee:=.builtin .len,args:=#[x],argTypes:=#[t]}:=by rfl)(_:af6 n l x=some v:=by rfl)(hw:jh n l ops oi=some true:=by rfl)(hd:oi.dst=some d:=by rfl)
 (hrun:∀w',(execOp (ev n l) oi).run prog w'= .ok (.value v) w':=by intro w';kernel_rfl)
 (hs:Region.noSelect ops=true:=by kernel_rfl)(hf:Region.free .any ops listed i=true:=by kernel_rfl)(hr:(Region.ready .any ops listed).contains i=true:=by kernel_rfl)
 (hQ:∀c a w x,Q (.panic c) (a.put oi.dst x) w->Q (.panic c) a w:=by exact λ _ _ _ _ h=>h):wpAnyH prog .any ops Q S (fuel+1) listed (aH n l) w:=
 Wa i v hS h hi hw hd (λ w' _=>hrun w') hs hf hr (λ c a w=>hQ c a w _)
theorem BL(i:Nat)(u:Bool){k:IntKind}{b:Int}(hS:S w)(f:Ln op a b=u)(h:wpAnyH prog .any ops Q S fuel (listed.setIfInBounds i true) (aH n (aC l d (.bool u))) w)
 (hi:ops[i]? =some oi:=by rfl)(g:oi.op= .binOp op xt x y yt:=by rfl)(hx:bA n l x=some (.int k a):=by rfl)(e:bA n l y=some (.int k b):=by rfl)(hc:Bz op=true:=by rfl)(hw:jh n l ops oi=some true:=by rfl)(hd:oi.dst=some d:=by rfl)
 (hs:Region.noSelect ops=true:=by kernel_rfl)(hf:Region.free .any ops listed i=true:=by kernel_rfl)(hr:(Region.ready .any ops listed).contains i=true:=by kernel_rfl)
 (hQ:∀c a w x,Q (.panic c) (a.put oi.dst x) w->Q (.panic c) a w:=by exact λ _ _ _ _ h=>h):wpAnyH prog .any ops Q S (fuel+1) listed (aH n l) w:=
 y2g i (.bool u) hS h hi g hx e (λ w=>by rw[FN hc,f]) hw hd hs hf hr (λ c a w=>hQ c a w _)
theorem wY{a b:ByteArray}{u:Bool}(c:(!(a.toList==b.data.toList))=u):(do eqGuard .neq 9 x y (.string a) (.string b);binOp .neq 9 (.string a) (.string b):Sem Value).run prog w= .ok (.bool u) w:=by
 rw[<-ByteArray.toList_eq b] at c;subst c;go_simp
theorem aeC(i:Nat)(u:Bool){a b:ByteArray}(hS:S w)(f:(!(a.toList==b.data.toList))=u)(h:wpAnyH prog .any ops Q S fuel (listed.setIfInBounds i true) (aH n (aC l d (.bool u))) w)
 (hi:ops[i]? =some oi:=by rfl)(g:oi.op= .binOp .neq 9 x y yt:=by rfl)(hx:bA n l x=some (.string a):=by rfl)(e:bA n l y=some (.string b):=by rfl)(hw:jh n l ops oi=some true:=by rfl)(hd:oi.dst=some d:=by rfl)
 (hs:Region.noSelect ops=true:=by kernel_rfl)(hf:Region.free .any ops listed i=true:=by kernel_rfl)(hr:(Region.ready .any ops listed).contains i=true:=by kernel_rfl)
 (hQ:∀c a w x,Q (.panic c) (a.put oi.dst x) w->Q (.panic c) a w:=by exact λ _ _ _ _ h=>h):wpAnyH prog .any ops Q S (fuel+1) listed (aH n l) w:=
 y2g i (.bool u) hS h hi g hx e (λ _=>wY f) hw hd hs hf hr (λ c a w=>hQ c a w _)
end
section
variable{Q:Exit->Act->World->Prop}{a:Act}{w:World}{next:Act->World->Prop}{i j:Nat}
theorem zEn(h:next a w):Exit.then next Q .normal a w:=h
theorem zEr(h:Q .ret a w):Exit.then next Q .ret a w:=h
theorem zEx(h:Q (.exit i) a w):Exit.then next Q (.exit i) a w:=h
theorem zBn(h:Q .normal a w):Exit.inBlock i Q .normal a w:=h
theorem zBr(h:Q .ret a w):Exit.inBlock i Q .ret a w:=h
theorem zBx(h:Q .normal a w):Exit.inBlock i Q (.exit i) a w:=by simpa only[Exit.inBlock,if_true] using h
end
theorem aaP{l:Fm}{ops:Array Oper}{rest:List Oper}{Q:Exit->Act->World->Prop}{oi:Oper}(h:wpList prog ops Q rest (aH n (aC l d undef)) w)(hw:jh n l ops oi=some false:=by rfl)(hd:oi.dst=some d:=by rfl):
 wpList prog ops Q (oi::rest) (aH n l) w:=aiR h hw hd
theorem gz(a:A)(r:A->B:=by
 intro c;repeat first
  |with_reducible first|refine wp_seq ?_|refine wp_region_lit ?_|refine wpList_nil ?_|refine zEn ?_|refine wp_skip ?_|refine wp_exit ?_|refine wp_ret ?_|refine zEx ?_|refine zEr ?_|refine zBx ?_|refine zBn ?_|refine zBr ?_|refine wp_block ?_|refine b ?_
  |refine zfa ?_|refine zz ?_|refine eO ?_|refine aaP ?_|refine zln ?_|refine znc ?_|refine zfb ?_|refine ju ?_|refine fx ?_
 exact c):B:=r a
theorem If(a:A)(r:A->B:=by
 intro c;repeat first
  |with_reducible first|refine wp_seq ?_|refine wp_region_lit ?_|refine wpList_nil ?_|refine zEn ?_|refine wp_skip ?_|refine wp_exit ?_|refine wp_ret ?_|refine zEx ?_|refine zEr ?_|refine zBx ?_|refine zBn ?_|refine zBr ?_|refine b ?_
  |refine zfa ?_|refine zz ?_|refine eO ?_|refine aaP ?_|refine zln ?_|refine znc ?_|refine zfb ?_|refine ju ?_|refine fx ?_
 exact c):B:=r a
theorem zEv{P:Value->Prop}(h:P v):∃u,Ending.returned v= .returned u/\P u:=⟨_,rfl,h⟩
section
variable{n d:Nat}{l:Fm}{ops:Array Oper}{rest:List Oper}{Q:Exit->Act->World->Prop}{oi:Oper}{w:World}
theorem zqf{k:IntKind}{b:Int}(h:wpList prog ops Q rest (aH n (aC l d (.bool false))) w)
 (f:oi.op= .binOp op xt x y yt:=by rfl)(hx:bA n l x=some (.int k a):=by rfl)(c:bA n l y=some (.int k b):=by rfl)(hc:Bz op=true:=by rfl)(g:oi.guard=none:=by rfl)(hd:oi.dst=some d:=by rfl)
 (e:Ln op a b=false:=by first|rfl|exact gy (by omega)|exact vy (by omega)):wpList prog ops Q (oi::rest) (aH n l) w:=
 cr false e h f hx c hc g hd
theorem zqt{k:IntKind}{b:Int}(h:wpList prog ops Q rest (aH n (aC l d (.bool true))) w)
 (f:oi.op= .binOp op xt x y yt:=by rfl)(hx:bA n l x=some (.int k a):=by rfl)(c:bA n l y=some (.int k b):=by rfl)(hc:Bz op=true:=by rfl)(g:oi.guard=none:=by rfl)(hd:oi.dst=some d:=by rfl)
 (e:Ln op a b=true:=by first|rfl|exact cU (by omega)):wpList prog ops Q (oi::rest) (aH n l) w:=
 cr true e h f hx c hc g hd
def WR:List Nat:=[3,9,4,191,25,29,79,28,22,95,61,58,215,81,82,5,367,381,67,32,159,107,370,291,222,85,75,412,199,112,106,66,327,256]
theorem aen:∀t∈WR,(prog.underlying t).map TypeDesc.isRow=some false:=by
 intro t h;unfold WR at h;simp only[List.mem_cons,nU,or_false] at h;rcases h with rfl|rfl|rfl|rfl|rfl|rfl|rfl|rfl|rfl|rfl|rfl|rfl|rfl|rfl|rfl|rfl|rfl|rfl|rfl|rfl|rfl|rfl|rfl|rfl|rfl|rfl|rfl|rfl|rfl|rfl|rfl|rfl|rfl|rfl<;>kernel_rfl
theorem aeo(h:WR.any (Nat.beq ty)=true):(prog.underlying ty).map TypeDesc.isRow=some false:=by
 obtain⟨x,hx,e⟩:=List.any_eq_true.1 h;rw[Nat.eq_of_beq_eq_true e]
 exact aen x hx
theorem zlA{p:Nat}{V:Array Value}{x:Value}(h:wpList prog ops Q rest (aH n (aC l d x)) w)
 (e:oi.guard=none:=by rfl)(hd:oi.dst=some d:=by rfl)(c:oi.op= .load ty (.tmp p):=by rfl)(hx:bA n l (.tmp p)=some (.pointer (some ⟨b,o,none⟩)):=by rfl)(a:WR.any (Nat.beq ty)=true:=by rfl)
 (hb:aD w b V t:=by assumption)(hv:V[o]? =some x:=by rfl):wpList prog ops Q (oi::rest) (aH n l) w:=kB (hb.cell o hv) h e hd c hx (aeo a)
end
structure HdA(A:Prop):Prop where
 o:A
theorem gx(a:A)(r:HdA A->B:=by
 intro c;repeat first
  |with_reducible first|refine zEv ?_|refine wp_seq ?_|refine wp_region_lit ?_|refine wpList_nil ?_|refine zEn ?_|refine wp_skip ?_|refine wp_exit ?_|refine wp_ret ?_|refine zEx ?_|refine zEr ?_|refine zBx ?_|refine zBn ?_|refine zBr ?_|refine wp_block ?_|refine b ?_
  |refine zfa ?_|refine zz ?_|refine eO ?_|refine aaP ?_|refine zln ?_|refine znc ?_|refine zfb ?_|refine ju ?_|refine fx ?_|refine zlA ?_|refine zqt ?_|refine zqf ?_
 exact c.o):B:=r ⟨a⟩
theorem fV{l:Fm}{ops:Array Oper}{rest:List Oper}{Q:Exit->Act->World->Prop}{oi:Oper}{p:Tmp}{i:Nat}{Y:Array Value}{x:Value}(hb:aD w g Y t)(hi:i<Y.size)(c:x.oneCell'=true)(h:∀w',af w w' g->aD w' g (Y.setIfInBounds i x) t->wpList prog ops Q rest (aH n l) w')
 (m:oi.guard=none:=by rfl)(hd:oi.dst=none:=by rfl)(k:oi.op= .store ty (.tmp p) y:=by rfl)(hx:bA n l (.tmp p)=some (.pointer (some ⟨g,i,none⟩)):=by rfl)(j:bA n l y=some x:=by rfl)
 (d:(prog.info? ty).map (·.size)=some 1:=by kernel_rfl):wpList prog ops Q (oi::rest) (aH n l) w:=
 wpList_plain m λ K hK=>by
  have e:(storeVar ty ⟨g,i,none⟩ x).run prog w= .ok () (w.setCell ⟨g,i,none⟩ x):=by
   have o:=hb.cell i (v:=Y[i]) (by simp[hi])
   have a:=run_store prog w ⟨g,i,none⟩ x .plain c;rw[o] at a;simp only[hb.frozen i] at a;cases b:prog.info? ty with
   |none=>simp[b] at d
   |some q=>
    have f:q.size=1:=by simpa [b] using d
    cases x<;>first
     |(simp[Value.oneCell'] at c;done)
     |(simp[storeVar,sizeOf,typeInfo,b,f,Value.cells,storeCells,Addr.add_mid,a];done)
  unfold Oper.wp execOp;simp only[k,aE hx,aE j,Instr.storeAt,Instr.sureAddr,Sem.run_bind,Sem.run_pure,Result.andThen_ok,e]
  show K ((aH n l).put oi.dst undef) _;rw[hd]
  exact hK _ _ (h _ ((af.refl w g).setCell rfl x) (hb.set i x))
theorem mR:∀(vs:List Value)(o:Nat)(w:World)(Y:List Value),aD w g Y.toArray t->o+vs.length<=Y.length->af w (w.setCells g o vs) g/\aD (w.setCells g o vs) g (Y.take o++vs++Y.drop (o+vs.length)).toArray t
 |[],o,w,Y,h,_=>⟨af.refl w g,by simpa [World.setCells] using h⟩
 |v::r,o,w,Y,h,ho=>by
  have h1:=h.set o v;rw[List.setIfInBounds_toArray] at h1;simp only[nK] at ho;obtain⟨k,b⟩:=mR r (o+1) _ (Y.set o v) h1 (by simp;omega)
  refine⟨af.cX ((af.refl w g).setCell (a:=⟨g,o,none⟩) rfl v) k,?_⟩
  have e:(Y.set o v).take (o+1)++r++(Y.set o v).drop (o+1+r.length)=Y.take o++v::r++Y.drop (o+(v::r).length):=by
   rw[List.take_set,List.take_succ_eq_append_getElem (by omega),List.set_append_right _ _ (by simp;omega),List.drop_set_of_lt (by omega)]
   simp[Nat.min_eq_left (show o<=Y.length by omega),show o+1+r.length=o+(r.length+1) by omega]
  rw[e] at b;exact b
def ZQ:Array Value:=#[.bool false,.slice none 0 0,.slice none 0 0,.bool false,.slice none 0 0,.slice none 0 0,.bool false,.bool false,.bool false]
theorem EF{s1:Bool}{a1:Option Addr}{n1 c1:Nat}{a2:Option Addr}{n2 c2:Nat}{s2:Bool}{a3:Option Addr}{n3 c3:Nat}{a4:Option Addr}{n4 c4:Nat}{q r:Bool}:dY 99 #[.bool s1,.slice a1 n1 c1,.slice a2 n2 c2,.bool s2,.slice a3 n3 c3,.slice a4 n4 c4,.bool p,.bool q,.bool r]:=
 ⟨by kernel_rfl,by simp[Value.oneCell']⟩
theorem PE:dY 99 ZQ:=EF
theorem zT{s1:Bool}{a1:Option Addr}{n1 c1:Nat}{a2:Option Addr}{n2 c2:Nat}:dY 97 #[.bool s1,.slice a1 n1 c1,.slice a2 n2 c2]:=⟨by kernel_rfl,by simp[Value.oneCell']⟩
section
variable{n:Nat}{l:Fm}{ops:Array Oper}{rest:List Oper}{Q:Exit->Act->World->Prop}{oi:Oper}{w:World}{d:Nat}
theorem ztp{p q:Nat}{Y V:Array Value}(hb:aD w g Y t)(a:dY ty V)(h:∀w',af w w' g->aD w' g (Y.toList.take o++V.toList++Y.toList.drop (o+V.size)).toArray t->wpList prog ops Q rest (aH n l) w')(ho:o+V.size<=Y.size)
 (d:oi.guard=none:=by rfl)(hd:oi.dst=none:=by rfl)(c:oi.op= .store ty (.tmp p) (.tmp q):=by rfl)(hx:bA n l (.tmp p)=some (.pointer (some ⟨g,o,none⟩)):=by rfl)(b:bA n l (.tmp q)=some (.agg V):=by rfl):
 wpList prog ops Q (oi::rest) (aH n l) w:=by
 obtain⟨h1,h2⟩:=mR (t:=t) V.toList o w Y.toList (by simpa using hb) (by simpa using ho)
 refine wpList_store_mid d ty (.tmp p) (.tmp q) c g o V (aE hx) (aE b) (λ j e=>⟨?_,hb.frozen _⟩) a.1 a.2 ?_
 ·rw[hb.cell (o+j) (Array.getElem?_eq_getElem (by omega))]
  rfl
 ·rw[hd]
  exact h _ h1 (by simpa using h2)
end
section
attribute [local irreducible] wpList
section
variable{w w':World}{b:Nat}{cs:Array Value}{t:TypeId}
theorem aD.aZ(h:aD w b cs t)(hc:cs.toList.all (λ v=>match v with| .int .u32 _=>false|_=>true)=true):qT w b:=by
 intro off n c;unfold aD at h;simp only[World.cell?,h] at c;have hm:Value.int .u32 n∈cs.toList:=by
  have:=Array.mem_of_getElem? (xs:=cs) (i:=off) (a:=Value.int .u32 n) (by simpa using c)
  simpa using this
 have:=List.all_eq_true.1 hc _ hm;simp at this
end
theorem aD.b3{x y z:Value}(h:aD w b #[x,y,z] t):fS w b x y z t:=h
def nS:List PanicEntry:=[{v:=.iface 355 (.agg #[.int .i64 1]),recovered:=false}]
theorem PJ{q:Bool}{a a':Option Addr}{n' c c' x y:Nat}(h:Fr w (.agg #[.bool p,.slice a n c,.slice a' n' c']) q x y):p=q:=by
 obtain⟨b,d,e,_,_⟩:=h;cases e
 rfl
theorem Np(w:World):Calls prog 376 #[.int .i64 1] w λ e w'=>e= .panicked nS/\w=w':=by
 go_enter func376,ntmps376;go_wp2;exact⟨rfl,rfl,rfl⟩
theorem Fr.shape(h:Fr w v p n d):∃a n c a' b e,v= .agg #[.bool p,.slice a n c,.slice a' b e]:=by
 obtain⟨x,y,rfl,h2,h3⟩:=h;obtain⟨a,n,c,rfl⟩:=h2.shape;obtain⟨a',b,e,rfl⟩:=h3.shape;exact⟨_,_,_,_,_,_,rfl⟩
theorem Fr.ai(h:Fr w v p n d)(k:af w w' b)(hb:qT w b):Fr w' v p n d:=by
 obtain⟨x,y,h1,h2,h3⟩:=h;exact⟨x,y,h1,h2.ai k hb,h3.ai k hb⟩
def aai:Array Value:=#[.bool false,.slice none 0 0,.slice none 0 0]
theorem oI{z:Bool}{x1:Option Addr}{x2 x3:Nat}{x4:Option Addr}{x5 x6:Nat}:dY 217 #[.bool z,.slice x1 x2 x3,.slice x4 x5 x6]:=⟨by kernel_rfl,by simp[Value.oneCell']⟩
theorem zY{neg:Bool}(h:Rt w v neg N D)(u:cL w):
 Calls prog 319 #[v] w λ e w'=>aa w w'/\(aX N D=true->∃v',e= .returned v'/\Fr w' v' (neg&&decide (0<N)) (rN N D) (rD N D))/\(aX N D=false->e= .panicked nS):=by
 have hr:=h;obtain⟨B,C,rfl,hn,hd⟩:=h;obtain⟨a,n,cap,xs,rfl,_⟩:=hn.pD;obtain⟨ad,G,K,ys,rfl,_⟩:=hd.pD;refine ct 13 func319 rfl ntmps319 ?_;refine gx ?_;refine zb λ A q1 e1 c y _=> ?_;refine za aai 217 λ s F J b g _=> ?_;have lt:=g.lt;refine gx ?_;refine zl ((y.kept b).part 0) cQ ?_;have f:=lN (hr.kept (c.trans b)) (u.kept (c.trans b))
 unfold ox at f;obtain⟨sm,t⟩:∃sm,sm=aX N D:=⟨_,rfl⟩
 rw[<-t] at f⊢;refine zc 155 _ f ?_;rintro e w3 ⟨p,a1,n1,c1,a2,n2,c2,rfl,l,hF⟩
 refine gx ?_;refine za aai 217 λ z E I k m _=> ?_;have H:=l.size;refine zt m oI oI λ r j x=> ?_;have d:aa s r:=l.trans (k.but j (by omega))
 cases sm
 ·refine gx ?_;refine jX 376 _ (Np _) ?_;rintro e q ⟨rfl,rfl⟩
  exact .inr ⟨_,rfl,rfl,(c.trans b).trans d,(λ h=>by cases h),λ _=>rfl⟩
 have o:=hF rfl;obtain rfl:=PJ o;refine gx ?_;refine zl (x.part 0) oI ?_;refine zt (g.kept d) oI oI λ q i b6=> ?_;refine gx ?_;exact ej b6 oI ⟨((c.trans b).trans d).but i (by have:=c.size;omega),λ _=>⟨_,rfl,((o.kept k).ai j (m.aZ rfl)).ai i ((g.kept d).aZ rfl)⟩,λ h=>by cases h⟩
end
structure im where
 s1:Bool
 N1:Nat
 D1:Nat
 s2:Bool
 N2:Nat
 D2:Nat
 li:Bool
 hi:Bool
def AR(w:World)(v:Value)(i:im):Prop:=
 ∃a n c a' n' c' b m e b' m' e',v= .agg #[.bool i.s1,.slice a n c,.slice a' n' c',.bool i.s2,.slice b m e,.slice b' m' e',.bool i.li,.bool i.hi]/\
  Rt w (.agg #[.bool i.s1,.slice a n c,.slice a' n' c']) i.s1 i.N1 i.D1/\Rt w (.agg #[.bool i.s2,.slice b m e,.slice b' m' e']) i.s2 i.N2 i.D2
theorem AR.kept{i:im}(h:AR w v i)(k:aa w w'):AR w' v i:=by
 obtain⟨a,n,c,a',d,f,b,m,e,b',m',e',h1,h2,h3⟩:=h;exact⟨a,n,c,a',d,f,b,m,e,b',m',e',h1,h2.kept k,h3.kept k⟩
def im.fine(i:im):Bool:=aX i.N1 i.D1&&aX i.N2 i.D2
def im.void(i:im):Bool:= !i.li&& !i.hi&&decide (0<wU (i.s1&&decide (0<i.N1)) (rN i.N1 i.D1) (rD i.N1 i.D1) (i.s2&&decide (0<i.N2)) (rN i.N2 i.D2) (rD i.N2 i.D2))
theorem Rt.shape{neg:Bool}(h:Rt w v neg N D):∃a n c a' b d,v= .agg #[.bool neg,.slice a n c,.slice a' b d]:=by
 obtain⟨e,f,rfl,hn,hd⟩:=h;obtain⟨a,n,cap,xs,rfl,_⟩:=hn.pD;obtain⟨ad,g,i,ys,rfl,_⟩:=hd.pD;exact⟨_,_,_,_,_,_,rfl⟩
section
attribute [local irreducible] wpList
def Iq(w:World)(v:Value)(p1:Bool)(n1 d1:Nat)(p2:Bool)(n2 d2:Nat)(li hi em:Bool):Prop:=
 ∃a n c a' n' c' b m e b' m' e',v= .agg #[.bool p1,.slice a n c,.slice a' n' c',.bool p2,.slice b m e,.slice b' m' e',.bool li,.bool hi,.bool em]/\
  Qv w (.agg #[.bool p1,.slice a n c,.slice a' n' c']) p1 n1 d1/\Qv w (.agg #[.bool p2,.slice b m e,.slice b' m' e']) p2 n2 d2
theorem Bd(w:World):Qv w (.agg #[.bool false,.slice none 0 0,.slice none 0 0]) false 0 0:=⟨_,_,rfl,ma _ _ _ _,ma _ _ _ _⟩
theorem Qv.ai(h:Qv w v p n d)(k:af w w' b)(hb:qT w b):Qv w' v p n d:=by
 obtain⟨x,y,h1,h2,h3⟩:=h;exact⟨x,y,h1,h2.ai k hb,h3.ai k hb⟩
theorem Qv.shape(h:Qv w v p n d):∃a n c a' b e,v= .agg #[.bool p,.slice a n c,.slice a' b e]:=by
 obtain⟨x,y,h1,h2,h3⟩:=h;obtain⟨a,n,c,rfl⟩:=h2.shape;obtain⟨a',b,e,rfl⟩:=h3.shape;exact⟨_,_,_,_,_,_,h1⟩
theorem Nr(w:World):Calls prog 127 #[] w λ e w'=>e= .returned (.agg #[.bool false,.slice none 0 0,.slice none 0 0,.bool false,.slice none 0 0,.slice none 0 0,.bool false,.bool false,.bool true])/\aa w w':=by
 go_enter func127,ntmps127;go_wp2;exact bodyPost_ret (v:=.agg #[.bool false,.slice none 0 0,.slice none 0 0,.bool false,.slice none 0 0,.slice none 0 0,.bool false,.bool false,.bool true]) (by simp[results,results127,go_sem]) rfl ⟨rfl,(aa.refl _).alloc _⟩
theorem dX(h:aX N D=true):N<Mid/\D<Mid/\rN N D<Sm/\rD N D<Sm/\N<iy 2 8192/\D<iy 2 8192:=by
 unfold aX at h;simp only[fv,oh] at h;obtain⟨⟨⟨h1,h2⟩,h3⟩,a⟩:=h;have e:iy 2 2048<=Sm:=mB 2048 7000 (by decide)
 unfold bn at h3 a;exact⟨agl h1,agl h2,jf (kC h3) e,jf (kC a) e,h1,h2⟩
theorem st1(w:World)(b i:Nat)(x:Value):af w (w.setCell ⟨b,i,none⟩ x) b:=(Go.Eng.af.refl w b).setCell rfl _
theorem stI(w:World)(b i j k:Nat)(x y z:Value):af w (((w.setCell ⟨b,i,none⟩ x).setCell ⟨b,j,none⟩ y).setCell ⟨b,k,none⟩ z) b:=(((Go.Eng.af.refl w b).setCell rfl _).setCell rfl _).setCell rfl _
theorem st9(w:World)(b:Nat)(a x1 x2 x3 x4 x5 x6 x7 x8:Value):af w (((((((((w.setCell ⟨b,0,none⟩ a).setCell ⟨b,1,none⟩ x1).setCell ⟨b,2,none⟩ x2).setCell ⟨b,3,none⟩ x3).setCell ⟨b,4,none⟩ x4).setCell ⟨b,5,none⟩ x5).setCell ⟨b,6,none⟩ x6).setCell ⟨b,7,none⟩ x7).setCell ⟨b,8,none⟩ x8) b:=
 (((((((((Go.Eng.af.refl w b).setCell rfl _).setCell rfl _).setCell rfl _).setCell rfl _).setCell rfl _).setCell rfl _).setCell rfl _).setCell rfl _).setCell rfl _
def ags(i:im)(w:World)(e:Ending)(w':World):Prop:=
 ∃v,e= .returned v/\aa w w'/\(if i.void then Iq w' v false 0 0 false 0 0 false false true else
  Iq w' v (if i.li then false else i.s1&&decide (0<i.N1)) (if i.li then 0 else rN i.N1 i.D1) (if i.li then 0 else rD i.N1 i.D1)
   (if i.hi then false else i.s2&&decide (0<i.N2)) (if i.hi then 0 else rN i.N2 i.D2) (if i.hi then 0 else rD i.N2 i.D2) i.li i.hi false)
def Lf(li s:Bool)(N:Nat):Bool:=bif li then false else s&&decide (0<N)
def eNz(li:Bool)(N D:Nat):Nat:=bif li then 0 else rN N D
def eDz(li:Bool)(N D:Nat):Nat:=bif li then 0 else rD N D
theorem RN{i:im}(h:AR w v i)(hf:i.fine=true):Calls prog 47 #[v] w (ags i w):=by
 obtain⟨s1,N1,D1,s2,N2,D2,li,hi⟩:=i;obtain⟨a,n,c,a',n',c',b,m,e,b',m',e',rfl,h1,h2⟩:=h;unfold im.fine at hf;simp only[fv] at hf;obtain⟨g1,g2,g3,g4,-,-⟩:=dX hf.1;obtain⟨g5,g6,g7,g8,-,-⟩:=dX hf.2;obtain⟨R,hR⟩:∃R,R=ags ⟨s1,N1,D1,s2,N2,D2,li,hi⟩ w:=⟨_,rfl⟩
 rw[<-hR]
 refine ct 35 func47 rfl ntmps47 ?_;refine gz ?_;refine zb λ w1 q1 e1 X S _=> ?_;refine za ZQ 99 λ w2 J e2 M Q _=> ?_;refine gz ?_;refine za ZQ 99 λ w3 l e3 L b3 _=> ?_;have s1':=X.size;have s2':=M.size;have K3:aa w w3:=(X.trans M).trans L;have I:=(S.kept M).kept L;have Z:=Q.kept L;have lt:=S.lt;have lt2:=Q.lt;clear S Q;refine gz ?_;refine kB (I.cell 6 rfl) ?_;refine gz ?_;refine Dt (σ:=(Option Addr×Nat×Nat)×Option Addr×Nat×Nat) (λ _=>[(1,.pointer (some ⟨q1,0,none⟩)),(2,.pointer (some ⟨J,0,none⟩)),(3,.pointer (some ⟨l,0,none⟩))])
  (λ s W=>af w3 W l/\aD W l #[.bool (Lf li s1 N1),.slice s.1.1 s.1.2.1 s.1.2.2,.slice s.2.1 s.2.2.1 s.2.2.2,.bool false,.slice none 0 0,.slice none 0 0,.bool li,.bool false,.bool false] 99/\
    Qv W (.agg #[.bool (Lf li s1 N1),.slice s.1.1 s.1.2.1 s.1.2.2,.slice s.2.1 s.2.2.1 s.2.2.2]) (Lf li s1 N1) (eNz li N1 D1) (eDz li N1 D1)) (λ Q' F=> ?_) (λ l' y ⟨⟨x1,x2,x3⟩,x4,x5,x6⟩ ⟨D,C,A⟩=> ?_)
 ·cases li
  ·refine fx ?_;refine gz ?_;refine zl (I.part 0) cQ ?_;refine zc 125 _ (uB (h1.kept K3) (.inr ⟨g1,g2⟩)) ?_;rintro e j ⟨z,rfl,E,d⟩
   refine⟨_,rfl,?_⟩
   obtain⟨x1,x2,x3,x4,x5,x6,rfl⟩:=E.shape;have f:=b3.kept d;refine gz ?_;refine ztp (o:=0) (V:=#[.bool (s1&&decide (0<N1)),.slice x1 x2 x3,.slice x4 x5 x6]) f zT (λ T g b6=> ?_) (by simp[ZQ])
   refine gz ?_;exact F _ _ ((x1,x2,x3),x4,x5,x6) ⟨rfl,rfl,rfl,trivial⟩ ⟨(af.aR (af.refl _ _) d).cX g,b6,E.ai g (f.aZ rfl)⟩
  ·refine ju ?_;refine gz ?_;refine fV (i:=6) b3 (by simp[ZQ]) rfl λ j d f=> ?_;refine gz ?_;exact F _ _ ((none,0,0),none,0,0) ⟨rfl,rfl,rfl,trivial⟩ ⟨d,f,Bd _⟩
 replace D:af w3 y l:=D;replace C:aD y l #[.bool (Lf li s1 N1),.slice x1 x2 x3,.slice x4 x5 x6,.bool false,.slice none 0 0,.slice none 0 0,.bool li,.bool false,.bool false] 99:=C;replace A:Qv y (.agg #[.bool (Lf li s1 N1),.slice x1 x2 x3,.slice x4 x5 x6]) (Lf li s1 N1) (eNz li N1 D1) (eDz li N1 D1):=A;have K4:aa w y:=K3.but D (by omega)
 have H:=I.ai D (by omega)
 have Y:=Z.ai D (by omega)
 clear I Z;refine gz ?_;refine kB (H.cell 7 rfl) ?_;refine gz ?_;refine Dt (σ:=(Option Addr×Nat×Nat)×Option Addr×Nat×Nat) (λ _=>[(1,.pointer (some ⟨q1,0,none⟩)),(2,.pointer (some ⟨J,0,none⟩)),(3,.pointer (some ⟨l,0,none⟩))])
  (λ s W=>af y W l/\aD W l #[.bool (Lf li s1 N1),.slice x1 x2 x3,.slice x4 x5 x6,.bool (Lf hi s2 N2),.slice s.1.1 s.1.2.1 s.1.2.2,.slice s.2.1 s.2.2.1 s.2.2.2,.bool li,.bool hi,.bool false] 99/\
    Qv W (.agg #[.bool (Lf hi s2 N2),.slice s.1.1 s.1.2.1 s.1.2.2,.slice s.2.1 s.2.2.1 s.2.2.2]) (Lf hi s2 N2) (eNz hi N2 D2) (eDz hi N2 D2)) (λ Q' F=> ?_) (λ l' j ⟨⟨x,u,t⟩,r,q,p⟩ ⟨d,f,z⟩=> ?_)
 ·cases hi
  ·refine fx ?_;refine gz ?_;refine zl (H.part 3) cQ ?_;refine zc 125 _ (uB (h2.kept K4) (.inr ⟨g5,g6⟩)) ?_;rintro e j ⟨z,rfl,E,d⟩
   refine⟨_,rfl,?_⟩
   obtain⟨x,u,t,r,q,p,rfl⟩:=E.shape;have f:=C.kept d;refine gz ?_;refine ztp (o:=3) (V:=#[.bool (s2&&decide (0<N2)),.slice x u t,.slice r q p]) f zT (λ T g b6=> ?_) (by simp)
   refine gz ?_;exact F _ _ ((x,u,t),r,q,p) ⟨rfl,rfl,rfl,trivial⟩ ⟨(af.aR (af.refl _ _) d).cX g,b6,E.ai g (f.aZ rfl)⟩
  ·refine ju ?_;refine gz ?_;refine fV (i:=7) C (by simp) rfl λ j d f=> ?_;refine gz ?_;exact F _ _ ((none,0,0),none,0,0) ⟨rfl,rfl,rfl,trivial⟩ ⟨d,f,Bd _⟩
 replace d:af y j l:=d;replace f:aD j l #[.bool (Lf li s1 N1),.slice x1 x2 x3,.slice x4 x5 x6,.bool (Lf hi s2 N2),.slice x u t,.slice r q p,.bool li,.bool hi,.bool false] 99:=f;replace z:Qv j (.agg #[.bool (Lf hi s2 N2),.slice x u t,.slice r q p]) (Lf hi s2 N2) (eNz hi N2 D2) (eDz hi N2 D2):=z;replace A:=A.ai d (C.aZ rfl)
 have K5:aa w j:=K4.but d (by omega)
 have KU:=H.ai d (by omega)
 have P:=Y.ai d (by omega)
 clear H Y C;have fine:∀W W',aa j W->af W W' J->im.void ⟨s1,N1,D1,s2,N2,D2,li,hi⟩=false->R (.returned (.agg #[.bool (Lf li s1 N1),.slice x1 x2 x3,.slice x4 x5 x6,.bool (Lf hi s2 N2),.slice x u t,.slice r q p,.bool li,.bool hi,.bool false])) W':=λ W W' k k' hv=>by
  rw[hR]
  have n2:=aD.aZ (P.kept k) rfl;refine⟨_,rfl,(K5.trans k).but k' (by omega),?_⟩
  rw[hv,if_neg (by decide)]
  cases li<;>cases hi<;>exact⟨_,_,_,_,_,_,_,_,_,_,_,_,rfl,(A.kept k).ai k' n2,(z.kept k).ai k' n2⟩
 obtain⟨G,B⟩:∃G,G=im.void ⟨s1,N1,D1,s2,N2,D2,li,hi⟩:=⟨_,rfl⟩
 rw[<-B] at fine;refine gz ?_;refine kB (KU.cell 6 rfl) ?_;refine gz ?_;have g:=aa.refl j;have O:=P;have b6:=f;cases li
 case' false=>
  refine gz ?_;refine kB (KU.cell 7 rfl) ?_;refine gz ?_;cases hi
  case' false=>
   refine gz ?_;refine zl (f.part 0) zT ?_;refine gz ?_;refine zl (f.part 3) zT ?_;refine gz ?_;refine zc 126 _ (rz A z g3 g4 g7 g8) ?_;rintro e T ⟨rfl,g⟩
   refine⟨_,rfl,?_⟩
   have O:=P.kept g;have b6:=f.kept g;by_cases hc:0<wU (s1&&decide (0<N1)) (rN N1 D1) (rD N1 D1) (s2&&decide (0<N2)) (rN N2 D2) (rD N2 D2)
   case pos=>
    replace B:G=true:=B.trans (cU hc)
    refine eO ?_;refine cr true ?_ ?_
    ·exact cU hc
    refine gz ?_;refine zc 127 _ (Nr _) ?_;rintro e w7 ⟨rfl,U⟩
    refine⟨_,rfl,?_⟩
    refine zt (O.kept U) PE EF λ w8 K N=> ?_;refine gz ?_;refine ej N EF ?_;rw[hR]
    refine⟨_,rfl,((K5.trans g).trans U).but K (by omega),?_⟩
    rw[if_pos (show im.void ⟨s1,N1,D1,s2,N2,D2,false,false⟩=true from cU hc)]
    exact⟨_,_,_,_,_,_,_,_,_,_,_,_,rfl,Bd _,Bd _⟩
   replace B:G=false:=B.trans (gy hc)
   refine eO ?_;refine cr false ?_ ?_
   ·exact gy hc
 all_goals
  refine gz ?_;refine zl (b6.part 0) EF ?_;refine zt O PE EF λ w8 K N=> ?_;refine gz ?_;exact ej N EF (fine _ _ g K B)
def Sv(w:World)(v:Value)(i:im):Prop:=
 ∃a n c a' n' c' b m e b' m' e',v= .agg #[.bool (i.s1&&decide (0<i.N1)),.slice a n c,.slice a' n' c',.bool (i.s2&&decide (0<i.N2)),.slice b m e,.slice b' m' e',.bool i.li,.bool i.hi,.bool i.void]/\
  Fr w (.agg #[.bool (i.s1&&decide (0<i.N1)),.slice a n c,.slice a' n' c']) (i.s1&&decide (0<i.N1)) (rN i.N1 i.D1) (rD i.N1 i.D1)/\
  Fr w (.agg #[.bool (i.s2&&decide (0<i.N2)),.slice b m e,.slice b' m' e']) (i.s2&&decide (0<i.N2)) (rN i.N2 i.D2) (rD i.N2 i.D2)
theorem yF(N D:Nat):0<rD N D:=Nat.div_pos (Nat.le_of_dvd (vM D) (Nat.gcd_dvd_right N (dn D))) (Nat.gcd_pos_of_pos_right _ (vM D))
theorem aD.ate(w:World)(cs:Array Value)(t:TypeId):aD (w.alloc (.cells cs t)).drew w.heap.size cs t:=aD.new w cs t
def PL:Array Value:=#[.bool false,.slice none 0 0,.slice none 0 0,.bool false,.slice none 0 0,.slice none 0 0,.bool false,.bool false,.bool false]
theorem mg{p1:Bool}{a:Option Addr}{c:Nat}{a':Option Addr}{n' c':Nat}{p2:Bool}{b:Option Addr}{m e:Nat}{b':Option Addr}{m' e':Nat}{li hi em:Bool}:
 dY 302 #[.bool p1,.slice a n c,.slice a' n' c',.bool p2,.slice b m e,.slice b' m' e',.bool li,.bool hi,.bool em]:=⟨by kernel_rfl,by simp[Value.oneCell']⟩
section
variable{n d e:Nat}{l:Fm}{ops:Array Oper}{Q:Exit->Act->World->Prop}{oi oj:Oper}{fuel:Nat}{listed:Array Bool}{w w0:World}{lo up:Nat}
theorem agt{E:Prop}{K:Act->World->Prop}{b:Bool}(f:FuncId)(args:Array Value)(hc:Calls prog f args w λ e w'=>aa w w'/\(b=true->∃v,e= .returned v/\P v w')/\(b=false->e= .panicked c))
 (hb:b=false->∀W,aa w W->Q (.panic c) (aH n l) W)(h:b=true->∀v w',P v w'->aa w w'->K (aH n (aC l d v)) w')(hrun:(execOp (ev n l) oi).run prog w= .ok (.enter f args) w)(a:oi.guard=none)(hd:oi.dst=some d):
 if Region.wanted oi (yielded ops (aH n l).tmps)=true then Oper.wp prog oi (aH n l) w K Q else E:=by
 rw[if_pos (by simp[Region.wanted,a])]
 unfold Oper.wp;rw[aO,hrun]
 refine Calls.mono hc λ x w' ⟨k,h1,h2⟩=> ?_;cases b
 ·rw[h2 rfl];exact hb rfl w' k
 ·obtain⟨v,rfl,hv⟩:=h1 rfl;rw[hd]
  simp only[bX]
  exact h rfl v w' hv k
theorem acp(i:Nat){b:Bool}(f:FuncId)(args:Array Value)(hS:Lk lo up w0 w)(hc:Calls prog f args w λ e w'=>aa w w'/\(b=true->∃v,e= .returned v/\P v w')/\(b=false->e= .panicked c))
 (hb:b=false->∀W,aa w W->Q (.panic c) (aH n l) W)(h:b=true->∀v w',P v w'->aa w w'->Lk lo up w0 w'->wpAnyH prog .any ops Q (Lk lo up w0) fuel (listed.setIfInBounds i true) (aH n (aC l d v)) w')
 (hi:ops[i]? =some oi:=by rfl)(hrun:(execOp (ev n l) oi).run prog w= .ok (.enter f args) w:=by kernel_rfl)(a:oi.guard=none:=by rfl)(hd:oi.dst=some d:=by rfl)(hr:Region.ready .any ops listed=[i]:=by kernel_rfl):
 wpAnyH prog .any ops Q (Lk lo up w0) (fuel+1) listed (aH n l) w:=
 Ll i (λ _ hK=>agt f args hc hb (λ q v w' hv k=>hK.out _ _ (hS.kept k) (h q v w' hv k)) hrun a hd) hi hr
theorem agu(i j:Nat){b:Bool}(f:FuncId)(args:Array Value)(A:Array Value)(t:TypeId)(hS:Lk lo up w0 w)(hc:Calls prog f args w λ e w'=>aa w w'/\(b=true->∃v,e= .returned v/\P v w')/\(b=false->e= .panicked c))
 (hb:b=false->∀W,aa w W->Q (.panic c) (aH n l) W)(h:b=true->∀v w',P v w'->aa w w'->Lk lo up w0 w'->wpAnyH prog .any ops Q (Lk lo up w0) fuel (listed.setIfInBounds i true) (aH n (aC l d v)) w')
 (h2:∀W g,g=w.heap.size->aa w W->aD W g A t->W.heap.size=g+1->Lk lo up w0 W->wpAnyH prog .any ops Q (Lk lo up w0) fuel (listed.setIfInBounds j true) (aH n (aC l e (.pointer (some ⟨g,0,none⟩)))) W)
 (hi:ops[i]? =some oi:=by rfl)(o:ops[j]? =some oj:=by rfl)(hrun:(execOp (ev n l) oi).run prog w= .ok (.enter f args) w:=by kernel_rfl)
 (a:(execOp (aH n l).eval oj).run prog w= .ok (.value (.pointer (some ⟨w.heap.size,0,none⟩))) (w.alloc (.cells A t)):=by kernel_rfl)
 (r:oi.guard=none:=by rfl)(hd:oi.dst=some d:=by rfl)(p:oj.guard=none:=by rfl)(he:oj.dst=some e:=by rfl)(hr:Region.ready .any ops listed=[i,j]:=by kernel_rfl):
 wpAnyH prog .any ops Q (Lk lo up w0) (fuel+1) listed (aH n l) w:=by
 refine rd2 i j (λ K hK=>agt f args hc hb (λ q v w' hv k=>hK.out _ _ (hS.kept k) (h q v w' hv k)) hrun r hd) (λ K hK=> ?_) hi o hr;rw[if_pos (by simp[Region.wanted,p])]
 unfold Oper.wp;rw[a]
 simp only[Oper.upon,he,bX]
 have m:aa w (w.alloc (.cells A t)):=(aa.refl w).alloc _;exact hK.out _ _ (hS.kept m) (h2 _ _ rfl m (aD.new w A t) (Array.size_push ..))
theorem agv{σ:Type}{S:World->Prop}(L:σ->List (Nat×Value))(I:σ->World->Prop)(e:World->Prop)
 (h:∀d:Exit->Act->World->Prop,(∀c(a:Act)(t:Array Value) w,d (.panic c) ⟨t,a.defers⟩ w->d (.panic c) a w)->(∀l W,e W->d (.panic c) (aH n l) W)->(∀s b W,oN b (L s)->I s W->d .normal (aH n b) W)->wpAnyH prog .any ops d S fuel listed (aH n l) w)
 (f:∀l W,e W->Q (.panic c) (aH n l) W)(hQ:∀s b W,I s W->Q .normal (aH n (look b (L s))) W)(hp:∀c(a:Act)(t:Array Value) w,Q (.panic c) ⟨t,a.defers⟩ w->Q (.panic c) a w:=by exact λ _ _ _ _ h=>h):wpAnyH prog .any ops Q S fuel listed (aH n l) w:=
 h Q hp f λ s b W hs g=>by
   have:=hQ s b W g
   rwa [jA hs] at this
end
theorem zZ{i:im}(h:AR w v i)(hT:cL w):
 Calls prog 237 #[v] w λ e w'=>aa w w'/\(i.fine=true->∃v',e= .returned v'/\Sv w' v' i)/\(i.fine=false->e= .panicked nS):=by
 obtain⟨s1,N1,D1,s2,N2,D2,li,hi⟩:=i;obtain⟨a,n,c,a',n',c',b,m,e,b',m',e',rfl,h1,h2⟩:=h;obtain⟨F,hF⟩:∃F,F=im.fine ⟨s1,N1,D1,s2,N2,D2,li,hi⟩:=⟨_,rfl⟩
 rw[<-hF]
 have J:F=(aX N1 D1&&aX N2 D2):=hF;refine ct 32 func237 rfl ntmps237 ?_;refine gx ?_;refine zb λ w1 q1 e1 U b1 _=> ?_;refine za PL 302 λ j q2 e2 k2 b2 _=> ?_;have S:=b1.kept k2;have l2:=b2.lt;have M:=U.trans k2;refine gx ?_;refine eJ 0 0 λ hS=> ?_;have d:aa j j.drew:=(aa.refl j).drew;refine jG 0 hS ?_;refine yl 1 (S.part 0) (.inr (eo _)) cQ hS ?_;refine jG 3 hS ?_;refine yl 4 (S.part 3) (.inr (eo _)) cQ hS ?_;refine jG 6 hS ?_;refine Eh 7 (S.cell 6 rfl) (.inr (eo _)) hS ?_;refine jG 8 hS ?_;refine Eh 9 (S.cell 7 rfl) (.inr (eo _)) hS ?_;refine agv (c:=nS) (σ:=Nat×(Option Addr×Nat×Nat)×(Option Addr×Nat×Nat)×(Option Addr×Nat×Nat)×Option Addr×Nat×Nat) (λ s=>[(2,.pointer (some ⟨q2,0,none⟩)),(3,.pointer (some ⟨s.1,0,none⟩))])
  (λ s W=>aa j W/\j.heap.size<=s.1/\F=true/\aD W s.1 #[.bool (s1&&decide (0<N1)),.slice s.2.1.1 s.2.1.2.1 s.2.1.2.2,.slice s.2.2.1.1 s.2.2.1.2.1 s.2.2.1.2.2,.bool (s2&&decide (0<N2)),.slice s.2.2.2.1.1 s.2.2.2.1.2.1 s.2.2.2.1.2.2,.slice s.2.2.2.2.1 s.2.2.2.2.2.1 s.2.2.2.2.2.2,.bool li,.bool hi,.bool false] 302/\
    Fr W (.agg #[.bool (s1&&decide (0<N1)),.slice s.2.1.1 s.2.1.2.1 s.2.1.2.2,.slice s.2.2.1.1 s.2.2.1.2.1 s.2.2.1.2.2]) (s1&&decide (0<N1)) (rN N1 D1) (rD N1 D1)/\Fr W (.agg #[.bool (s2&&decide (0<N2)),.slice s.2.2.2.1.1 s.2.2.2.1.2.1 s.2.2.2.1.2.2,.slice s.2.2.2.2.1 s.2.2.2.2.2.1 s.2.2.2.2.2.2]) (s2&&decide (0<N2)) (rN N2 D2) (rD N2 D2))
  (λ W=>aa j W/\F=false) (λ Q' hp hP V=> ?_) (λ l W ⟨k,f⟩=>⟨rfl,M.trans k,(λ h=>by rw[f] at h;cases h),λ _=>rfl⟩) (λ ⟨g,⟨x1,x2,x3⟩,⟨x4,x5,x6⟩,⟨z,y,x⟩,u,t,r⟩ l' w3 ⟨Q,p,f,b3,F1,F2⟩=> ?_)
 ·have n1:∀W,aa j W->_:=λ W k=>zY (h1.kept (M.trans k)) (hT.kept (M.trans k))
  have n2:∀W,aa j W->_:=λ W k=>zY (h2.kept (M.trans k)) (hT.kept (M.trans k))
  have p1:aX N1 D1=false->∀(l:Fm) W,aa j W->Q' (.panic nS) (aH 33 l) W:=λ h l W k=>hP l W ⟨k,by rw[J,h];rfl⟩
  have T:aX N2 D2=false->∀(l:Fm) W,aa j W->Q' (.panic nS) (aH 33 l) W:=λ h l W k=>hP l W ⟨k,by rw[J,h,Bool.and_false]⟩
  refine agu 2 11 319 _ PL 302 hS (n1 _ d) (λ q W k=>p1 q _ W (d.trans k)) (λ G v1 wa f1 o hS=> ?_) (λ wa g ea o ba _ hS=> ?_)
  ·refine agu 5 11 319 _ PL 302 hS (n2 _ (d.trans o)) (λ q W k=>T q _ W ((d.trans o).trans k)) (λ A v2 Y E kb hS=> ?_) (λ Y g eb kb bb _ hS=> ?_)
   ·obtain⟨x1,x2,x3,x4,x5,x6,rfl⟩:=f1.shape;obtain⟨z,y,x,u,t,r,rfl⟩:=E.shape;have Z:=((d.trans o).trans kb).size;refine yr 10 (.agg #[.bool (s1&&decide (0<N1)),.slice x1 x2 x3,.slice x4 x5 x6,.bool (s2&&decide (0<N2)),.slice z y x,.slice u t r,.bool li,.bool hi,.bool false]) hS ?_ (hQ:=λ c a w h=>hp c a _ w h)
    refine ya 11 PL 302 hS λ W g eg B C _ hS=> ?_;replace f1:=(f1.kept kb).kept B;replace E:=E.kept B;have O:=((d.trans o).trans kb).trans B;have p:j.heap.size<=g:=by omega
    refine yt 12 C mg mg (.inr p) hS λ W' k' b' hS=> ?_;refine gB ?_;exact V (g,(x1,x2,x3),(x4,x5,x6),(z,y,x),u,t,r) _ _ ⟨rfl,rfl,trivial⟩ ⟨O.but k' p,p,by rw[J,G,A];rfl,b',f1.ai k' (C.aZ rfl),E.ai k' (C.aZ rfl)⟩
   ·have Z:=(d.trans o).size;refine acp 5 319 _ hS (n2 _ ((d.trans o).trans kb)) (λ q W k=>T q _ W (((d.trans o).trans kb).trans k)) (λ A v2 W E B hS=> ?_)
    obtain⟨x1,x2,x3,x4,x5,x6,rfl⟩:=f1.shape;obtain⟨z,y,x,u,t,r,rfl⟩:=E.shape;replace f1:=(f1.kept kb).kept B;have O:=((d.trans o).trans kb).trans B;have C:=bb.kept B;have p:j.heap.size<=g:=by omega
    refine yr 10 (.agg #[.bool (s1&&decide (0<N1)),.slice x1 x2 x3,.slice x4 x5 x6,.bool (s2&&decide (0<N2)),.slice z y x,.slice u t r,.bool li,.bool hi,.bool false]) hS ?_ (hQ:=λ c a w h=>hp c a _ w h)
    refine yt 12 C mg mg (.inr p) hS λ W' k' b' hS=> ?_;refine gB ?_;exact V (g,(x1,x2,x3),(x4,x5,x6),(z,y,x),u,t,r) _ _ ⟨rfl,rfl,trivial⟩ ⟨O.but k' p,p,by rw[J,G,A];rfl,b',f1.ai k' (C.aZ rfl),E.ai k' (C.aZ rfl)⟩
  ·have Z:=d.size;refine acp 2 319 _ hS (n1 _ (d.trans o)) (λ q W k=>p1 q _ W ((d.trans o).trans k)) (λ G v1 Y f1 kb hS=> ?_)
   refine acp 5 319 _ hS (n2 _ ((d.trans o).trans kb)) (λ q W k=>T q _ W (((d.trans o).trans kb).trans k)) (λ A v2 W E B hS=> ?_)
   obtain⟨x1,x2,x3,x4,x5,x6,rfl⟩:=f1.shape;obtain⟨z,y,x,u,t,r,rfl⟩:=E.shape;replace f1:=f1.kept B;have O:=((d.trans o).trans kb).trans B;have C:=(ba.kept kb).kept B;have p:j.heap.size<=g:=by omega
   refine yr 10 (.agg #[.bool (s1&&decide (0<N1)),.slice x1 x2 x3,.slice x4 x5 x6,.bool (s2&&decide (0<N2)),.slice z y x,.slice u t r,.bool li,.bool hi,.bool false]) hS ?_ (hQ:=λ c a w h=>hp c a _ w h)
   refine yt 12 C mg mg (.inr p) hS λ W' k' b' hS=> ?_;refine gB ?_;exact V (g,(x1,x2,x3),(x4,x5,x6),(z,y,x),u,t,r) _ _ ⟨rfl,rfl,trivial⟩ ⟨O.but k' p,p,by rw[J,G,A];rfl,b',f1.ai k' (C.aZ rfl),E.ai k' (C.aZ rfl)⟩
 replace Q:aa j w3:=Q;replace p:j.heap.size<=g:=p;replace b3:aD w3 g #[.bool (s1&&decide (0<N1)),.slice x1 x2 x3,.slice x4 x5 x6,.bool (s2&&decide (0<N2)),.slice z y x,.slice u t r,.bool li,.bool hi,.bool false] 302:=b3;have K:=b2.kept Q;obtain⟨L,R⟩:∃L,L=im.void ⟨s1,N1,D1,s2,N2,D2,li,hi⟩:=⟨_,rfl⟩
 have X:∀(W W' H:World),aa w3 W->af W W' g->af W' H q2->aD W' g #[.bool (s1&&decide (0<N1)),.slice x1 x2 x3,.slice x4 x5 x6,.bool (s2&&decide (0<N2)),.slice z y x,.slice u t r,.bool li,.bool hi,.bool L] 302->
  aa w H/\(F=true->∃v',Ending.returned (.agg #[.bool (s1&&decide (0<N1)),.slice x1 x2 x3,.slice x4 x5 x6,.bool (s2&&decide (0<N2)),.slice z y x,.slice u t r,.bool li,.bool hi,.bool L])= .returned v'/\Sv H v' ⟨s1,N1,D1,s2,N2,D2,li,hi⟩)/\(F=false->Ending.returned (.agg #[.bool (s1&&decide (0<N1)),.slice x1 x2 x3,.slice x4 x5 x6,.bool (s2&&decide (0<N2)),.slice z y x,.slice u t r,.bool li,.bool hi,.bool L])= .panicked nS):=λ W W' H k k' I b'=>by
  have n2:=((K.kept k).ai k' (by omega)).aZ rfl;have n3:=(b3.kept k).aZ rfl;have hk:aa w W':=((M.trans Q).trans k).but k' (by have:=U.size;omega)
  refine⟨hk.but I (by have:=U.size;omega),λ _=>⟨_,rfl,?_⟩,λ h=>by rw[f] at h;cases h⟩
  rw[R]
  exact⟨_,_,_,_,_,_,_,_,_,_,_,_,rfl,((F1.kept k).ai k' n3).ai I n2,((F2.kept k).ai k' n3).ai I n2⟩
 have P:=aa.refl w3;have b6:=b3;have KX:=K;obtain⟨-,-,g3,g4,-,-⟩:=dX (N:=N1) (D:=D1) (by rw[J,fv] at f;exact f.1)
 obtain⟨-,-,g7,g8,-,-⟩:=dX (N:=N2) (D:=D2) (by rw[J,fv] at f;exact f.2)
 refine gx ?_;refine zr (.pointer (some ⟨g,6,none⟩)) ?_;cases li
 case' true=>
  subst R;refine gx ?_
 case' false=>
  refine gx ?_;refine zr (.pointer (some ⟨g,7,none⟩)) ?_;cases hi
  case' true=>
   subst R;refine gx ?_
  case' false=>
   refine gx ?_;refine zr (.pointer (some ⟨g,0,none⟩)) ?_;refine gx ?_;refine zl (b3.part 0) oI ?_;refine eO ?_;refine zr (.pointer (some ⟨g,3,none⟩)) ?_;refine eO ?_;refine zl (b3.part 3) oI ?_;refine eO ?_;refine zc 238 _ (Ns F1 F2 (tM g3) (tM g4) (tM g7) (tM g8) (iu (kV (GW g3 g8)))) ?_;rintro e w6 ⟨rfl,P⟩
   have b6:=b3.kept P;have KX:=K.kept P;refine gx ?_;refine cr L ?_ ?_
   ·rw[R];unfold im.void;simp only[Bool.not_false,Bool.true_and];rw[<-Rv _ _ _ _ _ _ (yF ..) (yF ..)]
   refine gx ?_
 all_goals
  refine zr (.pointer (some ⟨g,8,none⟩)) ?_;refine fV (i:=8) b6 (by simp) rfl λ w7 k7 b7=> ?_;refine gx ?_;refine zl (b7.part 0) mg ?_;refine zt (KX.ai k7 (by omega)) mg mg λ w8 k8 b8=> ?_;refine gx ?_;exact ej b8 mg (X _ _ _ P k7 k8 b7)
end
def Nu:List PanicEntry:=[{v:=.iface 355 (.agg #[.int .i64 1]),recovered:=true}]
theorem GZ(p q:Nat)(w:World)(h1:aD w p #[.bool false] 4)(h2:aD w q #[.int .i64 0] 32)(f:p≠q):
 CallsD prog 318 #[.pointer (some ⟨p,0,none⟩),.pointer (some ⟨q,0,none⟩)] (.panicking nS) w λ e c w'=>
  e= .returned (.tuple #[])/\c= .panicking Nu/\∃a,aa w a/\w'=(a.setCell ⟨p,0,none⟩ (.bool false)).setCell ⟨q,0,none⟩ (.int .i64 1):=by
 have j:∀w:World,(Instr.typeAssert (.iface 355 (.agg #[.int .i64 1])) 20 355 true).run prog w= .ok (.tuple #[.agg #[.int .i64 1],.bool true]) w:=λ w=>by kernel_rfl
 have b:aa w (w.alloc (.cells #[.int .i64 1] 355)):=(aa.refl w).alloc _;have hn:=aD.new w #[.int .i64 1] 355;have i:=h1.kept b;have h:=h2.kept b;obtain⟨c1,f1⟩:=i.rp;obtain⟨c2,m⟩:=h.rp;obtain⟨c3,l⟩:=hn.rp;refine callsD_of_wpS func318 rfl λ c₀ cs d=> ?_;apply wpS_seq;apply wpS_region;simp[wpOpsS,go_sem,recoverD,d,ntmps318,Exit.thenS,nS]
 refine wpS_of_wp ?_;rw[show(#[Value.pointer (some ⟨p,0,none⟩),Value.pointer (some ⟨q,0,none⟩)]++(Array.replicate 13 undef).setIfInBounds 4 (Value.iface 355 (Value.agg #[Value.int IntKind.i64 1])):Array Value)=#[Value.pointer (some ⟨p,0,none⟩),Value.pointer (some ⟨q,0,none⟩),undef,undef,undef,undef,Value.iface 355 (Value.agg #[Value.int IntKind.i64 1]),undef,undef,undef,undef,undef,undef,undef,undef] from rfl]
 go_wp2_with fail
 have k:w.heap.size≠p:=Nat.ne_of_gt h1.lt;have g:w.heap.size≠q:=Nat.ne_of_gt h2.lt;generalize w.alloc (.cells #[.int .i64 1] 355)=a at*;generalize w.heap.size=r at*;clear h1 h2;go_region;all_goals exact⟨rfl,.panicking Nu,by cases c₀;rfl,.tuple #[],by simp[results,results318,go_sem],rfl,rfl,a.drew,b.drew,rfl⟩
theorem Nw(p q:Nat)(w:World):
 CallsD prog 318 #[.pointer (some ⟨p,0,none⟩),.pointer (some ⟨q,0,none⟩)] .returning w λ e a w'=>e= .returned (.tuple #[])/\a= .returning/\w=w':=by
 refine callsD_of_wpS func318 rfl λ c₀ cs b=> ?_;apply wpS_seq;apply wpS_region;simp[wpOpsS,go_sem,recoverD,b,ntmps318,Exit.thenS]
 refine wpS_of_wp ?_;rw[show(#[Value.pointer (some ⟨p,0,none⟩),Value.pointer (some ⟨q,0,none⟩)]++(Array.replicate 13 undef).setIfInBounds 4 Value.nilIface:Array Value)=#[Value.pointer (some ⟨p,0,none⟩),Value.pointer (some ⟨q,0,none⟩),undef,undef,undef,undef,Value.nilIface,undef,undef,undef,undef,undef,undef,undef,undef] from rfl]
 go_wp2_with fail
 cases c₀
 simp_all [bodyPostS,results,results318]
end Go.Proofs.YtbapfnpbamnmpaaGreatDoor
