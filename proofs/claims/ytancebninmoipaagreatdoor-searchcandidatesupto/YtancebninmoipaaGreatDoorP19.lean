/- A part of the proof that SearchCandidates answers true for every input of bulk at most 1048576: conditions: the row's own. -/
import GoSem.Step
namespace Go.Eng
open Go
section
inductive Tr(α:Type) where
 |nil
 |node (v:Option α) (l r:Tr α)
noncomputable def Tr.get{α:Type}(t:Tr α):Nat→Option α:=
 Tr.rec (fun _=>none) (fun v _ _ gl gr k=>Nat.rec v (fun j _=>Nat.rec (gl (j/2)) (fun _ _=>gr (j/2)) (j%2)) k) t
noncomputable def Tr.setK{α β:Type}(v:α)(t:Tr α):Nat→(Tr α→Option β)→Option β:=
 Tr.rec (fun _ _=>none)
  (fun x l r sl sr k c=>Nat.rec (c (.node (some v) l r)) (fun j _=>Nat.rec (sl (j/2) fun l=>c (.node x l r)) (fun _ _=>sr (j/2) fun r=>c (.node x l r)) (j%2)) k) t
noncomputable def Tr.full{α:Type}(d:Nat):Tr α:=Nat.rec .nil (fun _ t=>.node none t t) d
noncomputable def lget{α:Type}(l:List α):Nat→Option α:=
 List.rec (fun _=>none) (fun x _ g n=>Nat.rec (some x) (fun m _=>g m) n) l
noncomputable def forceN{β:Type}(n:Nat)(c:Nat→β):β:=Nat.rec (c 0) (fun m _=>c (m+1)) n
noncomputable def forceI{β:Type}(n:Int)(c:Int→β):β:=Int.rec (fun m=>forceN m fun m=>c (.ofNat m)) (fun m=>forceN m fun m=>c (.negSucc m)) n
noncomputable def forceB{β:Type}(b:Bool)(c:Bool→β):β:=Bool.rec (c false) (c true) b
noncomputable def forceL{α β:Type}(fe:α→(α→β)→β)(l:List α):(List α→β)→β:=
 List.rec (fun c=>c []) (fun x _ g c=>fe x fun x=>g fun xs=>c (x::xs)) l
noncomputable def forceA{β:Type}(a:Option Addr)(c:Option Addr→β):β:=
 match a with
 |none=>c none
 |some ⟨b,o,s⟩=>forceN b fun b=>forceN o fun o=>c (some ⟨b,o,s⟩)
noncomputable def forceU8{β:Type}(x:UInt8)(c:UInt8→β):β:=c x
section
variable{β:Type}(f:Value→(Value→β)→β)
noncomputable def fvBool(b:Bool)(c:Value→β):β:=forceB b fun b=>c (.bool b)
noncomputable def fvInt(k:IntKind)(n:Int)(c:Value→β):β:=forceI n fun n=>c (.int k n)
noncomputable def fvStr(s:ByteArray)(c:Value→β):β:=forceL forceU8 s.data.toList fun l=>c (.string ⟨⟨l⟩⟩)
noncomputable def fvPtr(a:Option Addr)(c:Value→β):β:=forceA a fun a=>c (.pointer a)
noncomputable def fvSlice(a:Option Addr)(n m:Nat)(c:Value→β):β:=forceA a fun a=>forceN n fun n=>forceN m fun m=>c (.slice a n m)
noncomputable def fvFunc(fn:Fn)(a b:Array Value)(c:Value→β):β:=forceL f a.toList fun a=>forceL f b.toList fun b=>c (.func fn ⟨a⟩ ⟨b⟩)
noncomputable def fvIface(t:TypeId)(v:Value)(c:Value→β):β:=f v fun v=>c (.iface t v)
noncomputable def fvAgg(a:Array Value)(c:Value→β):β:=forceL f a.toList fun a=>c (.agg ⟨a⟩)
noncomputable def fvTuple(a:Array Value)(c:Value→β):β:=forceL f a.toList fun a=>c (.tuple ⟨a⟩)
noncomputable def forceV1(v:Value):(Value→β)→β:=
 match v with
 | .bool b=>fvBool b
 | .int k n=>fvInt k n
 | .string s=>fvStr s
 | .pointer a=>fvPtr a
 | .slice a n m=>fvSlice a n m
 | .func fn a b=>fvFunc f fn a b
 | .iface t v=>fvIface f t v
 | .agg a=>fvAgg f a
 | .tuple a=>fvTuple f a
 |v=>fun c=>c v
end
noncomputable def forceV{β:Type}:Nat→Value→(Value→β)→β
 |0=>fun v c=>c v
 |f+1=>forceV1 (forceV f)
noncomputable def plainV:Nat→Value→Bool
 |0=>fun _=>false
 |f+1=>fun v=>
  match v with
  | .bool _| .int .. | .float .. | .complex .. | .string _| .nilFunc| .nilIface=>true
  | .pointer none| .slice none _ _| .map none| .chan none=>true
  | .func (.yield _) _ _=>false
  | .func _ a b=>a.toList.all (plainV f)&&b.toList.all (plainV f)
  | .iface _ v=>plainV f v
  | .agg a=>a.toList.all (plainV f)
  | .tuple a=>a.toList.all (plainV f)
  |_=>false
noncomputable def prun{α:Type}(P:Program):Sem α→Option α
 | .pure a=>some a
 | .program k=>prun P (k P)
 | .mark _ k=>prun P k
 | .choose q k=>if q.forced then prun P (k 0) else none
 |_=>none
structure ALoop where
 state:LoopState
 pending:Option Code
 nt:Nat
 tmps:Tr Value
 params:Array Tmp
 assign:Code
 body:Code
 defers:Nat
inductive AObj where
 |cells (cs:List Value) (elem:TypeId) (own app:Bool)
 |map (es:List (Value×Value))
 |imap (es:List (Int×Value))
 |iter (m:Nat) (since done:Nat)
 |loop (l:ALoop)
 |dfr (open_:Bool)
structure AHeap where
 t:Tr AObj
 next:Nat
noncomputable def AHeap.get(H:AHeap)(i:Nat):Option AObj:=H.t.get i
noncomputable def AHeap.setK{β:Type}(H:AHeap)(i:Nat)(o:AObj)(c:AHeap→Option β):Option β:=H.t.setK o i fun t=>c ⟨t,H.next⟩
noncomputable def AHeap.newK{β:Type}(H:AHeap)(o:AObj)(c:Nat→AHeap→Option β):Option β:=forceN H.next fun n=>H.t.setK o n fun t=>forceN (n+1) fun m=>c n ⟨t,m⟩
noncomputable def takeN:Nat→List Value→Option (List Value)
 |0,_=>some []
 |_+1,[]=>none
 |n+1,x::xs=>match takeN n xs with
  |some l=>some (x::l)
  |none=>none
noncomputable def cut:Nat→Nat→List Value→Option (List Value)
 |0,n,cs=>takeN n cs
 |_+1,_,[]=>none
 |off+1,n,_::cs=>cut off n cs
noncomputable def putFront:List Value→List Value→Option (List Value)
 |[],cs=>some cs
 |_::_,[]=>none
 |v::vs,_::cs=>match putFront vs cs with
  |some l=>some (v::l)
  |none=>none
noncomputable def splice:Nat→List Value→List Value→Option (List Value)
 |0,vs,cs=>putFront vs cs
 |_+1,_,[]=>none
 |n+1,vs,c::cs=>match splice n vs cs with
  |some l=>some (c::l)
  |none=>none
noncomputable def size?(P:Program)(t:TypeId):Option Nat:=(P.info? t).map (·.size)
noncomputable def aggDesc:TypeDesc→Bool
 | .struct _| .array _ _=>true
 |_=>false
noncomputable def isAgg?(P:Program)(t:TypeId):Option Bool:=(P.underlying t).map aggDesc
noncomputable def loadCells?(H:AHeap)(i:Nat):Option (List Value):=
 match H.get i with
 |some (.cells cs _ _ _)=>some cs
 |_=>none
noncomputable def loadAgg(P:Program)(t:TypeId)(off:Nat)(cs:List Value):Option Value:=
 match size? P t with
 |some n=>match cut off n cs with
  |some l=>some (.agg ⟨l⟩)
  |none=>none
 |none=>none
noncomputable def loadIn(P:Program)(t:TypeId)(off:Nat)(cs:List Value):Option Value:=
 match isAgg? P t with
 |some true=>loadAgg P t off cs
 |some false=>lget cs off
 |none=>none
noncomputable def loadA(P:Program)(H:AHeap)(t:TypeId)(a:Addr):Option Value:=
 match a.spot with
 |some _=>none
 |none=>match loadCells? H a.block with
  |some cs=>loadIn P t a.off cs
  |none=>none
noncomputable def flat(v:Value):Bool:=
 match v with
 | .agg _| .tuple _=>false
 |_=>true
noncomputable def storeIn{β:Type}(H:AHeap)(i:Nat)(e:TypeId)(app:Bool)(c:AHeap→Option β)(r:Option (List Value)):Option β:=
 match r with
 |some cs=>forceL (forceV 3) cs fun cs=>H.setK i (.cells cs e true app) c
 |none=>none
noncomputable def storeCellsK{β:Type}(H:AHeap)(a:Addr)(vs:List Value)(c:AHeap→Option β):Option β:=
 match a.spot,H.get a.block with
 |none,some (.cells cs e true app)=>if vs.all flat then storeIn H a.block e app c (splice a.off vs cs) else none
 |_,_=>none
noncomputable def ptr(i off:Nat):Value:=.pointer (some ⟨i,off,none⟩)
noncomputable def zero?(P:Program)(t:TypeId):Option Value:=
 match P.info? t with
 |some i=>match i.zero with
  |some v=>bif plainV 4 v then some v else none
  |none=>none
 |none=>none
noncomputable def zeroCells?(P:Program)(t:TypeId):Option (List Value):=
 match zero? P t with
 |some v=>some v.cells.toList
 |none=>none
noncomputable def repl(zero:List Value):Nat→List Value
 |0=>[]
 |n+1=>zero++repl zero n
noncomputable def lazySlice:Value:=.slice (some ⟨0,0,some 0⟩) 0 0
abbrev Env:=Operand→Value
noncomputable def upTo(n:Nat)(v:Value):Option Nat:=
 match v with
 | .int _ (.ofNat i)=>if i≤n then some i else none
 |_=>none
noncomputable def sliceHigh(len cap:Nat)(high:Option Value):Option Nat:=
 match high with
 |none=>bif Nat.ble len cap then some len else none
 |some v=>upTo cap v
noncomputable def sliceLow(h:Nat)(low:Option Value):Option Nat:=
 match low with
 |none=>some 0
 |some v=>upTo h v
noncomputable def sliceAt'(P:Program)(e:TypeId)(a:Addr)(len cap:Nat)(low high:Option Value):Option Value:=
 match sliceHigh len cap high with
 |none=>none
 |some h=>match sliceLow h low with
  |none=>none
  |some l=>match size? P e,a.spot with
   |some (s+1),none=>if h=l then some lazySlice else some (.slice (some (a.add (l*(s+1)))) (h-l) (cap-l))
   |_,_=>none
noncomputable def kEq(k k':IntKind):Bool:=
 match k,k' with
 | .i8,.i8| .i16,.i16| .i32,.i32| .i64,.i64| .u8,.u8| .u16,.u16| .u32,.u32| .u64,.u64=>true
 |_,_=>false
noncomputable def fAdd(k:IntKind)(n:Int)(k':IntKind)(m:Int):Option Value:=bif kEq k k' then some (.int k (k.wrap (n+m))) else none
noncomputable def fSub(k:IntKind)(n:Int)(k':IntKind)(m:Int):Option Value:=bif kEq k k' then some (.int k (k.wrap (n-m))) else none
noncomputable def fMul(k:IntKind)(n:Int)(k':IntKind)(m:Int):Option Value:=bif kEq k k' then some (.int k (k.wrap (n*m))) else none
noncomputable def fEql(k:IntKind)(n:Int)(k':IntKind)(m:Int):Option Value:=bif kEq k k' then some (.bool (n==m)) else none
noncomputable def fNeq(k:IntKind)(n:Int)(k':IntKind)(m:Int):Option Value:=bif kEq k k' then some (.bool (n != m)) else none
noncomputable def fLss(k:IntKind)(n:Int)(k':IntKind)(m:Int):Option Value:=bif kEq k k' then some (.bool (decide (n<m))) else none
noncomputable def fLeq(k:IntKind)(n:Int)(k':IntKind)(m:Int):Option Value:=bif kEq k k' then some (.bool (decide (n≤m))) else none
noncomputable def fGtr(k:IntKind)(n:Int)(k':IntKind)(m:Int):Option Value:=bif kEq k k' then some (.bool (decide (n>m))) else none
noncomputable def fGeq(k:IntKind)(n:Int)(k':IntKind)(m:Int):Option Value:=bif kEq k k' then some (.bool (decide (n≥m))) else none
noncomputable def fInt(op:BinOp):Option (IntKind→Int→IntKind→Int→Option Value):=
 match op with
 | .add=>some fAdd| .sub=>some fSub| .mul=>some fMul| .eql=>some fEql| .neq=>some fNeq
 | .lss=>some fLss| .leq=>some fLeq| .gtr=>some fGtr| .geq=>some fGeq
 |_=>none
noncomputable def nilCmp(P:Program)(op:BinOp)(t:TypeId)(a b:Value):Option Value:=
 match op,P.underlying t,a,b with
 | .eql,some (.pointer _),.pointer (some _),.pointer none| .eql,some (.pointer _),.pointer none,.pointer (some _)
 | .eql,some (.slice _),.slice (some _) _ _,.slice none _ _| .eql,some (.slice _),.slice none _ _,.slice (some _) _ _
 | .eql,some (.func _ _ _),.func _ _ _,.nilFunc| .eql,some (.func _ _ _),.nilFunc,.func _ _ _=>some (.bool false)
 | .neq,some (.pointer _),.pointer (some _),.pointer none| .neq,some (.pointer _),.pointer none,.pointer (some _)
 | .neq,some (.slice _),.slice (some _) _ _,.slice none _ _| .neq,some (.slice _),.slice none _ _,.slice (some _) _ _
 | .neq,some (.func _ _ _),.func _ _ _,.nilFunc| .neq,some (.func _ _ _),.nilFunc,.func _ _ _=>some (.bool true)
 |_,_,_,_=>none
noncomputable def plain4(v:Value):Bool:=plainV 4 v
noncomputable def ifPlain(r:Option Value):Option Value:=
 match r with
 |some v=>bif plainV 4 v then some v else none
 |none=>none
noncomputable def slowBin(P:Program)(op:BinOp)(t:TypeId)(x y:Operand)(a b:Value):Option Value:=
 bif plain4 a&&plain4 b then ifPlain (prun P (do eqGuard op t x y a b;Go.binOp op t a b)) else nilCmp P op t a b
noncomputable def intBin(P:Program)(op:BinOp)(t:TypeId)(x y:Operand)(k:IntKind)(n:Int)(b:Value):Option Value:=
 match b with
 | .int k' m=>match fInt op with
   |some f=>f k n k' m
   |none=>slowBin P op t x y (.int k n) b
 |_=>slowBin P op t x y (.int k n) b
noncomputable def valBin(P:Program)(op:BinOp)(t:TypeId)(x y:Operand)(a b:Value):Option Value:=
 match a with
 | .int k n=>intBin P op t x y k n b
 |_=>slowBin P op t x y a b
abbrev PFn:=Program→Env→Option Value
noncomputable def pMove(x:Operand):PFn:=fun _ ρ=>some (ρ x)
noncomputable def pPick'(a b c:Value):Option Value:=
 match a with
 | .bool true=>some b
 | .bool false=>some c
 |_=>none
noncomputable def pPick(b x y:Operand):PFn:=fun _ ρ=>pPick' (ρ b) (ρ x) (ρ y)
noncomputable def pBuild(t:TypeId)(parts:Array (Nat×Operand)):PFn:=fun P ρ=>
 bif (zero? P t).isSome then prun P (Instr.build t (parts.map fun(i,x)=>(i,ρ x))) else none
noncomputable def pField(t:TypeId)(x:Operand)(f:Nat):PFn:=fun P ρ=>prun P (Instr.field t (ρ x) f)
noncomputable def pExtract(x:Operand)(i:Nat):PFn:=fun P ρ=>prun P (Instr.extract (ρ x) i)
noncomputable def pBin(op:BinOp)(t:TypeId)(x y:Operand)(_:TypeId):PFn:=fun P ρ=>valBin P op t x y (ρ x) (ρ y)
noncomputable def pUn(op:UnOp)(_:TypeId)(x:Operand):PFn:=fun P ρ=>bif plain4 (ρ x) then ifPlain (prun P (Op.unary op (ρ x))) else none
noncomputable def pConvert(s d:TypeId)(x:Operand):PFn:=fun P ρ=>bif plain4 (ρ x) then ifPlain (prun P (Go.convert s d (ρ x))) else none
noncomputable def pMakeInterface(t:TypeId)(x:Operand):PFn:=fun P ρ=>bif plain4 (ρ x) then ifPlain (prun P (Instr.makeInterface t (ρ x))) else none
noncomputable def pTypeAssert(x:Operand)(t u:TypeId)(ok:Bool):PFn:=fun P ρ=>bif plain4 (ρ x) then ifPlain (prun P (Instr.typeAssert (ρ x) t u ok)) else none
noncomputable def pMakeFunc(fn:Fn)(first cap:Array Operand):PFn:=fun _ ρ=>
 match fn with
 | .yield _=>none
 |_=>some (.func fn (first.map ρ) (cap.map ρ))
noncomputable def pNilCheck'(v:Value):Option Value:=
 match v with
 | .pointer (some a)=>some (.pointer (some a))
 | .func (.func f) a b=>some (.func (.func f) a b)
 | .func (.yield f) a b=>some (.func (.yield f) a b)
 |_=>none
noncomputable def pNilCheck(x:Operand):PFn:=fun _ ρ=>pNilCheck' (ρ x)
noncomputable def pSlice'(P:Program)(t:TypeId)(x:Value)(lo hi mx:Option Value):Option Value:=
 match x with
 | .slice (some a) len cap=>match P.underlying t,mx with
   |some (.slice e),none=>sliceAt' P e a len cap lo hi
   |_,_=>none
 |v=>bif plain4 v then ifPlain (prun P (Instr.sliceAt t v lo hi mx)) else none
noncomputable def optAll(ρ:Env)(x:Option Operand):Bool:=
 match x with
 |none=>true
 |some x=>plain4 (ρ x)
noncomputable def pSlice(t:TypeId)(x:Operand)(lo hi mx:Option Operand):PFn:=fun P ρ=>
 bif optAll ρ lo&&optAll ρ hi&&optAll ρ mx then pSlice' P t (ρ x) (lo.map ρ) (hi.map ρ) (mx.map ρ) else none
noncomputable def pFieldAddr'(P:Program)(f:Option Field)(a:Addr):Option Value:=
 match f with
 |some f=>match size? P f.type,a.spot with
  |some (_+1),none=>some (.pointer (some (a.add f.offset)))
  |_,_=>none
 |none=>none
noncomputable def fldOf(P:Program)(s:TypeId)(x:Value)(f:Nat):Option Value:=
 match P.underlying s,x with
 |some (.struct fs),.pointer (some a)=>pFieldAddr' P fs[f]? a
 |_,_=>none
noncomputable def pFieldAddr(s:TypeId)(x:Operand)(f:Nat):PFn:=fun P ρ=>fldOf P s (ρ x) f
noncomputable def idxAddr(P:Program)(e:TypeId)(a:Addr)(len:Nat)(i:Value):Option Value:=
 match i with
 | .int _ (.ofNat i)=>bif Nat.blt i len then(match size? P e,a.spot with
   |some s,none=>some (.pointer (some (a.add (i*s))))
   |_,_=>none) else none
 |_=>none
noncomputable def idxOf(P:Program)(t:TypeId)(x i:Value):Option Value:=
 match P.underlying t,x with
 |some (.slice e),.slice (some a) len _=>idxAddr P e a len i
 |some (.array len e),.pointer (some a)=>idxAddr P e a len i
 |_,_=>none
noncomputable def pIndexAddr(t:TypeId)(x i:Operand):PFn:=fun P ρ=>idxOf P t (ρ x) (ρ i)
noncomputable def pIndex(t:TypeId)(x i:Operand):PFn:=fun P ρ=>bif plain4 (ρ x)&&plain4 (ρ i) then ifPlain (prun P (Instr.index t (ρ x) (ρ i))) else none
noncomputable def pLen'(P:Program)(ts:Array TypeId)(ty:TypeId)(v:Value):Option Value:=
 match v with
 | .slice _ n _=>match (ts[0]?).bind P.underlying with
   |some (.slice _)=>some (goInt n)
   |_=>none
 |v=>bif plain4 v then ifPlain (prun P (Builtin.len_ ts ty #[v])) else none
noncomputable def pLen(ts:Array TypeId)(ty:TypeId)(args:List Operand):PFn:=fun P ρ=>
 match args with
 |[x]=>pLen' P ts ty (ρ x)
 |_=>none
noncomputable def pMin(ts:Array TypeId)(ty:TypeId)(args:Array Operand):PFn:=fun P ρ=>
 bif args.toList.all (fun x=>plain4 (ρ x)) then ifPlain (prun P (Builtin.min_ ts ty (args.map ρ))) else none
noncomputable def pMax(ts:Array TypeId)(ty:TypeId)(args:Array Operand):PFn:=fun P ρ=>
 bif args.toList.all (fun x=>plain4 (ρ x)) then ifPlain (prun P (Builtin.max_ ts ty (args.map ρ))) else none
inductive Kind where
 |pure (f:PFn)
 |load (t:TypeId) (a:Operand)
 |alloc (e:TypeId)
 |heavy
noncomputable def builtinKind(b:Builtin)(ts:Array TypeId)(ty:TypeId)(args:Array Operand):Kind:=
 match b with
 | .len=>.pure (pLen ts ty args.toList)
 | .min=>.pure (pMin ts ty args)
 | .max=>.pure (pMax ts ty args)
 |_=>.heavy
noncomputable def callKind(c:Call)(ty:TypeId):Kind:=
 match c.callee with
 | .builtin b=>builtinKind b c.argTypes ty c.args
 |_=>.heavy
noncomputable def kindOf(op:Op)(ty:TypeId):Kind:=
 match op with
 | .move x=>.pure (pMove x)
 | .assign x=>.pure (pMove x)
 | .pick c a b=>.pure (pPick c a b)
 | .alloc e=>.alloc e
 | .build t ps=>.pure (pBuild t ps)
 | .load t a=>.load t a
 | .nilCheck x=>.pure (pNilCheck x)
 | .binOp op t x y t'=>.pure (pBin op t x y t')
 | .unOp op t x=>.pure (pUn op t x)
 | .convert s d x=>.pure (pConvert s d x)
 | .makeInterface t x=>.pure (pMakeInterface t x)
 | .makeFunc fn a b=>.pure (pMakeFunc fn a b)
 | .slice t x lo hi mx=>.pure (pSlice t x lo hi mx)
 | .fieldAddr s x f=>.pure (pFieldAddr s x f)
 | .field t x f=>.pure (pField t x f)
 | .indexAddr t x i=>.pure (pIndexAddr t x i)
 | .index t x i=>.pure (pIndex t x i)
 | .typeAssert x t u ok=>.pure (pTypeAssert x t u ok)
 | .extract x i=>.pure (pExtract x i)
 | .call c=>callKind c ty
 |_=>.heavy
noncomputable def srcSlice(H:AHeap)(sz:Nat)(a:Addr)(n:Nat):Option (Nat×List Value):=
 match n,a.spot with
 |0,_=>some (0,[])
 |n+1,none=>match loadCells? H a.block with
  |some cs=>match cut a.off ((n+1)*sz) cs with
   |some l=>some (n+1,l)
   |none=>none
  |none=>none
 |_,_=>none
noncomputable def srcCells(H:AHeap)(sz:Nat)(x:Value):Option (Nat×List Value):=
 match x with
 | .slice none 0 _=>some (0,[])
 | .slice (some a) n _=>srcSlice H sz a n
 | .string s=>bif Nat.beq sz 1 then some (s.size,s.data.toList.map fun b=>.int .u8 b.toNat) else none
 |_=>none
noncomputable def growOk(P:Program)(e:TypeId)(sz need:Nat):Bool:=
 Nat.ble need (2^20)&&((P.info? e).map (·.bytes)).any (fun b=>Nat.ble b (2^20))&&(zeroCells? P e).any (fun z=>Nat.beq z.length sz)
noncomputable def appendNil{β:Type}(P:Program)(e:TypeId)(sz:Nat)(s:Value)(H:AHeap)(c:Value→AHeap→Option β)(n:Nat)(l:List Value):Option β:=
 match n with
 |0=>c s H
 |n+1=>bif growOk P e sz (n+1) then forceL (forceV 3) l fun l=>H.newK (.cells l e true true) fun i H=>c (.slice (some ⟨i,0,none⟩) (n+1) (n+1)) H else none
noncomputable def appendGrow{β:Type}(e:TypeId)(a:Addr)(len:Nat)(H:AHeap)(c:Value→AHeap→Option β)(n:Nat)(l cs:List Value):Option β:=
 forceL (forceV 3) (cs++l) fun nw=>
 H.setK a.block (.cells cs e false false) fun H=>
 H.newK (.cells nw e false true) fun i H=>c (.slice (some ⟨i,0,none⟩) (len+n) (len+n)) H
noncomputable def appendAt{β:Type}(P:Program)(e:TypeId)(sz:Nat)(a:Addr)(len cap:Nat)(H:AHeap)(c:Value→AHeap→Option β)(n:Nat)(l:List Value):Option β:=
 match a.spot,H.get a.block with
 |none,some (.cells cs e' _ app)=>
  bif Nat.beq n 0&&Nat.ble len cap then c (.slice (some a) len cap) H
  else bif Nat.ble (len+n) cap then storeCellsK H (a.add (len*sz)) l fun H=>c (.slice (some a) (len+n) cap) H
  else bif app&&Nat.beq e e'&&Nat.beq a.off 0&&Nat.beq (len*sz) cs.length&&l.all flat&&growOk P e sz (len+n) then appendGrow e a len H c n l cs
  else none
 |_,_=>none
noncomputable def appendK{β:Type}(P:Program)(st:TypeId)(s x:Value)(H:AHeap)(c:Value→AHeap→Option β):Option β:=
 match P.underlying st,s with
 |some (.slice e),.slice base len cap=>
  match size? P e with
  |none=>none
  |some sz=>match srcCells H sz x with
   |none=>none
   |some (n,l)=>match base with
    |none=>bif Nat.beq len 0&&Nat.beq cap 0 then appendNil P e sz s H c n l else none
    |some a=>appendAt P e sz a len cap H c n l
 |_,_=>none
noncomputable def copyK{β:Type}(P:Program)(st:TypeId)(s x:Value)(H:AHeap)(c:Value→AHeap→Option β):Option β:=
 match P.underlying st,s,x with
 |some (.slice e),.slice (some a) n _,.slice (some b) m _=>match size? P e,b.spot,loadCells? H b.block with
  |some sz,none,some cs=>match cut b.off (min m n*sz) cs with
   |some l=>storeCellsK H a l fun H=>c (goInt ((min m n:Nat):Int)) H
   |none=>none
  |_,_,_=>none
 |_,_,_=>none
inductive ANext where
 |value (v:Value)
 |skip
 |defer (d:Deferred)
 |enter (f:FuncId) (args:List Value)
 |round (l:Nat) (args:List Value)
 |recover
section
variable{β:Type}
abbrev HFn(β:Type):=Program→Env→AHeap→(ANext→AHeap→Option β)→Option β
noncomputable def newCells(l:List Value)(e:TypeId)(app:Bool)(mk:Nat→Value)(H:AHeap)(c:ANext→AHeap→Option β):Option β:=
 forceL (forceV 3) l fun l=>bif l.all flat then H.newK (.cells l e true app) fun i H=>c (.value (mk i)) H else none
noncomputable def hAlloc(e:TypeId):HFn β:=fun P _ H c=>
 match zeroCells? P e with
 |some z=>newCells z e false (fun i=>ptr i 0) H c
 |none=>none
noncomputable def hBox(e:TypeId)(x:Operand):HFn β:=fun _ ρ H c=>newCells (ρ x).cells.toList e false (fun i=>ptr i 0) H c
noncomputable def hStore(t:TypeId)(a x:Operand):HFn β:=fun P ρ H c=>
 match ρ a,size? P t with
 | .pointer (some a),some n=>bif Nat.beq (ρ x).cells.toList.length n then storeCellsK H a (ρ x).cells.toList fun H=>c .skip H else none
 |_,_=>none
noncomputable def hBuildSlice(t:TypeId)(len:Nat)(parts:Array (Nat×Operand)):HFn β:=fun P ρ H c=>
 match P.underlying t with
 |some (.slice e)=>match size? P e,zeroCells? P e with
  |some s,some z=>
   if len*s≤2^24∧z.length=s then
    (match Instr.fill (fun i=>some (i*s,s)) ⟨repl z len⟩ (parts.toList.map fun(i,x)=>(i,ρ x)) with
    |some cells=>newCells cells.toList e true (fun i=>.slice (some ⟨i,0,none⟩) len len) H c
    |none=>none)
   else none
  |_,_=>none
 |_=>none
noncomputable def hMakeSlice(t:TypeId)(l m:Operand):HFn β:=fun P ρ H c=>
 match P.underlying t,ρ l,ρ m with
 |some (.slice e),.int _ (.ofNat l),.int _ (.ofNat m)=>match size? P e,zeroCells? P e with
  |some s,some z=>
   if l≤m∧m≤2^20∧z.length=s∧((P.info? e).map (·.bytes)).any (· ≤2^20) then newCells (repl z m) e true (fun i=>.slice (some ⟨i,0,none⟩) l m) H c
   else none
  |_,_=>none
 |_,_,_=>none
noncomputable def hMakeMap(t:TypeId)(r:Option Operand):HFn β:=fun P _ H c=>
 match P.underlying t,r with
 |some (.map kt _),none=>match P.underlying kt with
  |some (.int _)=>H.newK (.imap []) fun i H=>c (.value (.map (some i))) H
  |_=>H.newK (.map []) fun i H=>c (.value (.map (some i))) H
 |_,_=>none
noncomputable def ilook(n:Int):List (Int×Value)→Option Value
 |[]=>none
 |(k,v)::es=>bif n==k then some v else ilook n es
noncomputable def imapPut(H:AHeap)(i:Nat)(n:Int)(v:Value)(es:List (Int×Value))(c:ANext→AHeap→Option β):Option β:=
 match ilook n es with
 |none=>bif plain4 v then H.setK i (.imap (es++[(n,v)])) fun H=>c .skip H else none
 |some _=>none
noncomputable def hInsert(t:TypeId)(m k x:Operand):HFn β:=fun P ρ H c=>
 match P.underlying t,ρ m,ρ k with
 |some (.map kt _),.map (some i),.int .i64 n=>match P.underlying kt,H.get i with
  |some (.int _),some (.imap es)=>imapPut H i n (ρ x) es c
  |_,_=>none
 |_,_,_=>none
noncomputable def hLookup(t:TypeId)(m k:Operand)(ok:Bool):HFn β:=fun P ρ H c=>
 match P.underlying t,ρ m,ρ k,ok with
 |some (.map kt _),.map (some i),.int .i64 n,false=>match P.underlying kt,H.get i with
  |some (.int _),some (.imap es)=>match ilook n es with
   |some v=>bif plain4 v then c (.value v) H else none
   |none=>none
  |_,_=>none
 |_,_,_,_=>none
noncomputable def mapPut(H:AHeap)(i:Nat)(s:ByteArray)(v:Value)(es:List (Value×Value))(c:ANext→AHeap→Option β):Option β:=
 match es with
 |[]=>bif plain4 v then H.setK i (.map [(.string s,v)]) fun H=>c .skip H else none
 |_=>none
noncomputable def hMapUpdate(t:TypeId)(m k x:Operand):HFn β:=fun P ρ H c=>
 match P.underlying t,ρ m,ρ k with
 |some (.map kt _),.map (some i),.string s=>match P.underlying kt,H.get i with
  |some .string,some (.map es)=>mapPut H i s (ρ x) es c
  |_,_=>none
 |_,_,_=>none
noncomputable def hRange(t:TypeId)(x:Operand):HFn β:=fun P ρ H c=>
 match P.underlying t,ρ x with
 |some (.map _ _),.map (some i)=>match H.get i with
  |some (.map es)=>H.newK (.iter i es.length 0) fun j H=>c (.value (ptr j 0)) H
  |_=>none
 |_,_=>none
noncomputable def iterNext(H:AHeap)(i m since n:Nat)(c:ANext→AHeap→Option β):Option β:=
 match H.get m with
 |some (.map es)=>match since,n,es with
  |0,0,[]=>c (.value (.tuple #[.bool false])) H
  |1,0,[(k,v)]=>H.setK i (.iter m 1 1) fun H=>c (.value (.tuple #[.bool true,k,v])) H
  |1,1,[_]=>c (.value (.tuple #[.bool false])) H
  |_,_,_=>none
 |_=>none
noncomputable def hNext(it:Operand)(s:Bool):HFn β:=fun _ ρ H c=>
 match ρ it,s with
 | .pointer (some ⟨i,0,none⟩),false=>match H.get i with
   |some (.iter m since n)=>iterNext H i m since n c
   |_=>none
 |_,_=>none
noncomputable def hEntry(it:Operand):HFn β:=fun _ ρ H c=>
 match ρ it with
 | .pointer (some ⟨i,0,none⟩)=>match H.get i with
   |some (.iter m 1 1)=>match H.get m with
    |some (.map [(k,v)])=>c (.value (.tuple #[k,v])) H
    |_=>none
   |_=>none
 |_=>none
noncomputable def callFn(P:Program)(f:FuncId)(args:List Value)(H:AHeap)(c:ANext→AHeap→Option β):Option β:=
 match P.funcs[f]? with
 |some fn=>bif fn.body.isSome&&fn.name != "runtime.NumGoroutine" then c (.enter f args) H else none
 |none=>none
noncomputable def callValue(P:Program)(f:Value)(args:List Value)(H:AHeap)(c:ANext→AHeap→Option β):Option β:=
 match f with
 | .func (.func f) first cap=>callFn P f (first.toList++args++cap.toList) H c
 | .func (.yield l) _ _=>match H.get l with
   |some (.loop r)=>bif Nat.beq args.length r.params.size then c (.round l args) H else none
   |_=>none
 |_=>none
noncomputable def hAppend(ts:Array TypeId)(args:List Value)(P:Program)(H:AHeap)(c:ANext→AHeap→Option β):Option β:=
 match ts.toList,args with
 |[st,xt],[s,x]=>match P.underlying xt with
  |some (.int _)=>none
  |some _=>appendK P st s x H fun v H=>c (.value v) H
  |none=>none
 |_,_=>none
noncomputable def hCopy(ts:Array TypeId)(args:List Value)(P:Program)(H:AHeap)(c:ANext→AHeap→Option β):Option β:=
 match ts[0]?,args with
 |some st,[s,x]=>copyK P st s x H fun v H=>c (.value v) H
 |_,_=>none
noncomputable def hCall(cl:Call):HFn β:=fun P ρ H c=>
 match cl.callee with
 | .builtin .append=>hAppend cl.argTypes (cl.args.toList.map ρ) P H c
 | .builtin .copy=>hCopy cl.argTypes (cl.args.toList.map ρ) P H c
 | .builtin .recover=>c .recover H
 | .value f=>callValue P (ρ f) (cl.args.toList.map ρ) H c
 |_=>none
noncomputable def hDefer(cl:Call):HFn β:=fun _ ρ H c=>
 match cl.callee with
 | .value f=>match ρ f with
   | .func (.func f) first cap=>c (.defer {target:=.fn (.func f) cap,args:=first++cl.args.map ρ}) H
   |_=>none
 |_=>none
noncomputable def hNone:HFn β:=fun _ _ _ _=>none
noncomputable def heavyOf(op:Op):HFn β:=
 match op with
 | .alloc e=>hAlloc e
 | .box e x=>hBox e x
 | .store t a x=>hStore t a x
 | .buildSlice t n ps=>hBuildSlice t n ps
 | .makeSlice t l m=>hMakeSlice t l m
 | .makeMap t r=>hMakeMap t r
 | .mapUpdate t m k x=>hMapUpdate t m k x
 | .insert t m k x=>hInsert t m k x
 | .lookup t m k ok=>hLookup t m k ok
 | .range t x=>hRange t x
 | .next it s=>hNext it s
 | .entry it=>hEntry it
 | .call c=>hCall c
 | .defer c=>hDefer c
 |_=>hNone
end
inductive XE where
 |normal
 |exit (id:Nat)
 |ret
structure Ctx where
 nt:Nat
 rd:Option Nat
noncomputable def evTmp(t:Nat)(T:Tr Value):Value:=
 match T.get t with
 |some v=>v
 |none=>undef
noncomputable def evX(x:Operand):Tr Value→Value:=
 match x with
 | .tmp t=>evTmp t
 | .const v=>fun _=>v
 | .global g=>fun _=>.pointer (some ⟨g,0,none⟩)
 | .func f=>fun _=>.func (.func f) #[] #[]
noncomputable def evT(T:Tr Value):Env:=fun x=>evX x T
abbrev CodeRes:=Option (XE×Tr Value×List Deferred×AHeap)
structure Ev where
 code:Ctx→Code→Tr Value→List Deferred→AHeap→CodeRes
 call:FuncId→List Value→AHeap→Option (Value×AHeap)
noncomputable def putK{β:Type}(nt:Nat)(T:Tr Value)(dst:Option Tmp)(v:Value)(c:Tr Value→Option β):Option β:=
 match dst with
 |none=>c T
 |some d=>bif Nat.blt d nt then T.setK v d c else none
noncomputable def guardSays(want:Bool)(v:Option Value):Bool:=
 match v with
 |some (.bool b)=>b==want
 |_=>false
noncomputable def wantedA(ops:List Oper)(o:Oper)(T:Tr Value):Bool:=
 match o.guard with
 |none=>true
 |some (j,want)=>match (lget ops j).bind (·.dst) with
  |some d=>guardSays want (T.get d)
  |none=>false
noncomputable def putParams:List Tmp→List Value→Tr Value→Nat→Option (Tr Value)
 |[],[],T,_=>some T
 |t::ts,v::vs,T,nt=>putK nt T (some t) v fun T=>putParams ts vs T nt
 |_,_,_,_=>none
abbrev StepRes:=Option (Value×List Deferred×AHeap)
noncomputable def retV(H:AHeap)(v:Value):StepRes:=forceV 4 v fun v=>some (v,[],H)
noncomputable def roundEnd(l:Nat)(e:XE)(H:AHeap):StepRes:=
 match H.get l with
 |some (.loop r)=>match e with
  | .normal=>H.setK l (.loop {r with state:=.ready,pending:=none}) fun H=>some (.bool true,[],H)
  | .exit id=>H.setK l (.loop {r with state:=.done,pending:=some (.exit id)}) fun H=>some (.bool false,[],H)
  | .ret=>H.setK l (.loop {r with state:=.done,pending:=some .ret}) fun H=>some (.bool false,[],H)
 |_=>none
noncomputable def roundBody(ev:Ev)(l:Nat)(r:ALoop)(T:Tr Value)(H:AHeap):StepRes:=
 match ev.code ⟨r.nt,some l⟩ r.body T [] H with
 |some (e,_,[],H)=>roundEnd l e H
 |_=>none
noncomputable def isReady(s:LoopState):Bool:=
 match s with
 | .ready=>true
 |_=>false
noncomputable def roundBegin(ev:Ev)(l:Nat)(r:ALoop)(T:Tr Value)(H:AHeap):StepRes:=
 match H.get l with
 |some (.loop r₁)=>bif isReady r₁.state then H.setK l (.loop {r₁ with state:=.busy}) fun H=>roundBody ev l r T H else none
 |_=>none
noncomputable def roundF(ev:Ev)(l:Nat)(args:List Value)(H:AHeap):StepRes:=
 match H.get l with
 |some (.loop r)=>match putParams r.params.toList args r.tmps r.nt with
  |none=>none
  |some T=>match ev.code ⟨r.nt,some l⟩ r.assign T [] H with
   |some (.normal,T,[],H)=>roundBegin ev l r T H
   |_=>none
 |_=>none
noncomputable def enterF(ev:Ev)(f:FuncId)(args:List Value)(H:AHeap):StepRes:=
 match ev.call f args H with
 |some (v,H)=>retV H v
 |none=>none
noncomputable def nextF(ev:Ev)(cx:Ctx)(n:ANext):AHeap→StepRes:=
 match n with
 | .value v=>fun H=>retV H v
 | .skip=>fun H=>some (undef,[],H)
 | .defer d=>fun H=>bif cx.rd.isNone then some (undef,[d],H) else none
 | .enter f args=>enterF ev f args
 | .round l args=>roundF ev l args
 | .recover=>fun _=>none
noncomputable def loadF(P:Program)(t:TypeId)(a:Value)(H:AHeap):Option Value:=
 match a with
 | .pointer (some a)=>loadA P H t a
 |_=>none
noncomputable def retO(H:AHeap)(r:Option Value):StepRes:=
 match r with
 |some v=>retV H v
 |none=>none
noncomputable def stepOp(P:Program)(ev:Ev)(cx:Ctx)(o:Oper)(T:Tr Value)(H:AHeap):StepRes:=
 match kindOf o.op o.type with
 | .pure f=>retO H (f P (evT T))
 | .load t a=>retO H (loadF P t (evT T a) H)
 |_=>heavyOf o.op P (evT T) H (nextF ev cx)
noncomputable def opsF(P:Program)(ev:Ev)(cx:Ctx)(all:List Oper):List Oper→Tr Value→List Deferred→AHeap→Option (Tr Value×List Deferred×AHeap)
 |[],T,D,H=>some (T,D,H)
 |o::rest,T,D,H=>
  bif wantedA all o T then
   match stepOp P ev cx o T H with
   |some (v,D',H)=>putK cx.nt T o.dst v fun T=>opsF P ev cx all rest T (D'++D) H
   |none=>none
  else putK cx.nt T o.dst undef fun T=>opsF P ev cx all rest T D H
noncomputable def operandOk(gs:List Nat)(x:Operand):Bool:=
 match x with
 | .const v=>plain4 v
 | .global g=>gs.any (Nat.beq g)
 |_=>true
noncomputable def opsOk(gs:List Nat)(ops:List Oper):Bool:=ops.all fun o=>o.op.operands.toList.all (operandOk gs)
structure OpI where
 rm:Nat
 dm:Nat
 hv:Bool
 ms:Nat
noncomputable def subMask(a m:Nat):Bool:=Nat.beq (a ||| m) m
noncomputable def hasBit(m i:Nat):Bool:=subMask (2^i) m
noncomputable def meets(a b:Nat):Bool:= !Nat.beq (a &&& b) 0
noncomputable def tmpMask(xs:List Operand)(acc:Nat):Nat:=
 match xs with
 |[]=>acc
 | .tmp t::xs=>tmpMask xs (acc ||| 2^t)
 |_::xs=>tmpMask xs acc
noncomputable def dstMask(d:Option Tmp):Nat:=
 match d with
 |some d=>2^d
 |none=>0
noncomputable def guardMask(all:List Oper)(o:Oper):Nat:=
 match o.guard with
 |none=>0
 |some (j,_)=>match lget all j with
  |some g=>dstMask g.dst
  |none=>0
noncomputable def isHeavy(k:Kind):Bool:=
 match k with
 | .heavy=>true
 |_=>false
noncomputable def edgeMask(ms:List Nat)(i:Nat)(es:List Edge)(acc:Nat):Option Nat:=
 match es with
 |[]=>some acc
 |e::es=>bif Region.binds .any e then
   (bif Nat.blt e.on i then(match lget ms e.on with
     |some m=>edgeMask ms i es (acc ||| 2^e.on ||| m)
     |none=>none) else none)
  else edgeMask ms i es acc
noncomputable def infos(all:List Oper)(ops:List Oper)(i:Nat)(ms:List Nat):Option (List OpI):=
 match ops with
 |[]=>some []
 |o::rest=>match edgeMask ms i o.after.toList 0 with
  |none=>none
  |some m=>match infos all rest (i+1) (ms++[m]) with
   |none=>none
   |some l=>some (⟨tmpMask o.op.operands.toList (guardMask all o),dstMask o.dst,isHeavy (kindOf o.op o.type),m⟩::l)
noncomputable def clash(x y:OpI):Bool:=meets x.dm (y.rm ||| y.dm)||meets x.rm y.dm||(x.hv&&y.hv)
noncomputable def laterOk(x:OpI)(i:Nat)(ys:List OpI):Bool:=ys.all fun y=> !clash x y||hasBit y.ms i
noncomputable def pairsOk(xs:List OpI)(i:Nat):Bool:=
 match xs with
 |[]=>true
 |x::rest=>laterOk x i rest&&pairsOk rest (i+1)
noncomputable def drawInfo(all:List Oper):Option (List OpI):=
 match infos all all 0 [] with
 |none=>none
 |some l=>bif pairsOk l 0 then some l else none
structure Ld where
 i:Nat
 ms:Nat
 t:TypeId
 a:Value
 v:Value
noncomputable def veqL(f:Value→Value→Bool)(a b:List Value):Bool:=
 match a,b with
 |[],[]=>true
 |x::a,y::b=>f x y&&veqL f a b
 |_,_=>false
noncomputable def aeq(a b:Option Addr):Bool:=decide (a=b)
noncomputable def veq:Nat→Value→Value→Bool
 |0=>fun _ _=>false
 |n+1=>fun a b=>
  match a,b with
  | .bool a,.bool b=>a==b
  | .int k a,.int k' b=>kEq k k'&&decide (a=b)
  | .string a,.string b=>decide (a.data.toList=b.data.toList)
  | .pointer a,.pointer b=>aeq a b
  | .slice a n m,.slice b n' m'=>aeq a b&&Nat.beq n n'&&Nat.beq m m'
  | .map a,.map b=>decide (a=b)
  | .nilFunc,.nilFunc=>true
  | .nilIface,.nilIface=>true
  | .func f a b,.func f' a' b'=>decide (f=f')&&veqL (veq n) a.toList a'.toList&&veqL (veq n) b.toList b'.toList
  | .iface t v,.iface t' v'=>Nat.beq t t'&&veq n v v'
  | .agg a,.agg b=>veqL (veq n) a.toList b.toList
  | .tuple a,.tuple b=>veqL (veq n) a.toList b.toList
  |_,_=>false
noncomputable def loadOk(P:Program)(l:Ld)(H:AHeap):Bool:=
 match loadF P l.t l.a H with
 |some v=>veq 4 v l.v
 |none=>false
structure Hv where
 i:Nat
 ms:Nat
 H:AHeap
noncomputable def chkLd(P:Program)(l:Ld)(cur:AHeap)(hs:List Hv):Bool:=
 match hs with
 |[]=>loadOk P l cur
 |h::rest=>bif hasBit h.ms l.i then loadOk P l cur
  else bif hasBit l.ms h.i then chkLd P l h.H rest
  else loadOk P l cur&&chkLd P l h.H rest
noncomputable def preK{β:Type}(P:Program)(c:List Nat→AHeap→Option β)(ops:List Oper)(ids:List Nat)(H:AHeap):Option β:=
 match ops with
 |[]=>c ids H
 |o::rest=>match kindOf o.op o.type with
  | .alloc e=>match zeroCells? P e with
    |some z=>newCells z e false (fun i=>ptr i 0) H fun _ H'=>preK P c rest (ids++[H.next]) H'
    |none=>none
  |_=>preK P c rest ids H
structure DSt where
 T:Tr Value
 H:AHeap
 hs:List Hv
 lds:List Ld
 ids:List Nat
noncomputable def drawPut(cx:Ctx)(o:Oper)(s:DSt)(v:Value):Option DSt:=putK cx.nt s.T o.dst v fun T=>some {s with T}
noncomputable def drawAlloc(cx:Ctx)(o:Oper)(w:Bool)(s:DSt):Option DSt:=
 match s.ids with
 |id::ids=>drawPut cx o {s with ids} (bif w then ptr id 0 else undef)
 |[]=>none
noncomputable def drawPure(P:Program)(cx:Ctx)(o:Oper)(f:PFn)(s:DSt):Option DSt:=
 match f P (evT s.T) with
 |some v=>forceV 4 v fun v=>drawPut cx o s v
 |none=>none
noncomputable def drawLoad(P:Program)(cx:Ctx)(o:Oper)(t:TypeId)(a:Operand)(i ms:Nat)(s:DSt):Option DSt:=
 match loadF P t (evT s.T a) s.H with
 |some v=>forceV 4 v fun v=>drawPut cx o {s with lds:=⟨i,ms,t,evT s.T a,v⟩::s.lds} v
 |none=>none
noncomputable def drawHeavy(P:Program)(ev:Ev)(cx:Ctx)(o:Oper)(i ms:Nat)(s:DSt):Option DSt:=
 match heavyOf o.op P (evT s.T) s.H (nextF ev cx) with
 |some (v,[],H)=>drawPut cx o {s with H,hs:=⟨i,ms,H⟩::s.hs} v
 |_=>none
noncomputable def drawOp(P:Program)(ev:Ev)(cx:Ctx)(all:List Oper)(o:Oper)(i ms:Nat)(s:DSt):Option DSt:=
 match kindOf o.op o.type with
 | .alloc _=>drawAlloc cx o (wantedA all o s.T) s
 | .pure f=>bif wantedA all o s.T then drawPure P cx o f s else drawPut cx o s undef
 | .load t a=>bif wantedA all o s.T then drawLoad P cx o t a i ms s else drawPut cx o s undef
 | .heavy=>bif wantedA all o s.T then drawHeavy P ev cx o i ms s else drawPut cx o {s with hs:=⟨i,ms,s.H⟩::s.hs} undef
noncomputable def drawOps(P:Program)(ev:Ev)(cx:Ctx)(all:List Oper)(ops:List Oper)(is:List OpI)(i:Nat)(s:DSt):Option DSt:=
 match ops,is with
 |[],[]=>some s
 |o::ops,x::is=>match drawOp P ev cx all o i x.ms s with
  |some s=>drawOps P ev cx all ops is (i+1) s
  |none=>none
 |_,_=>none
noncomputable def drawDone(P:Program)(H:AHeap)(s:DSt):Option (Tr Value×AHeap):=
 bif s.lds.all (fun l=>chkLd P l H s.hs.reverse) then some (s.T,s.H) else none
noncomputable def drawF(P:Program)(ev:Ev)(cx:Ctx)(all:List Oper)(T:Tr Value)(H:AHeap):Option (Tr Value×AHeap):=
 match drawInfo all with
 |none=>none
 |some is=>preK P (fun ids H=>match drawOps P ev cx all all is 0 ⟨T,H,[],[],ids⟩ with
  |some s=>drawDone P H s
  |none=>none) all [] H
section
variable(gs:List Nat)(P:Program)(ev:Ev)
abbrev CFn:=Ctx→Tr Value→List Deferred→AHeap→CodeRes
noncomputable def cSkip:CFn:=fun _ T D H=>some (.normal,T,D,H)
noncomputable def cSeq(a b:Code):CFn:=fun cx T D H=>
 match ev.code cx a T D H with
 |some (.normal,T,D,H)=>ev.code cx b T D H
 |r=>r
noncomputable def cCond'(a b:Code)(v:Value):Option Code:=
 match v with
 | .bool true=>some a
 | .bool false=>some b
 |_=>none
noncomputable def cCond(x:Operand)(a b:Code):CFn:=fun cx T D H=>
 match cCond' a b (evX x T) with
 |some c=>ev.code cx c T D H
 |none=>none
noncomputable def blockEnd(id i:Nat)(T:Tr Value)(D:List Deferred)(H:AHeap):CodeRes:=
 bif Nat.beq i id then some (.normal,T,D,H) else some (.exit i,T,D,H)
noncomputable def cBlock(id:Nat)(a:Code):CFn:=fun cx T D H=>
 match ev.code cx a T D H with
 |some (.exit i,T,D,H)=>blockEnd id i T D H
 |r=>r
noncomputable def cLoop(a:Code):CFn:=fun cx T D H=>
 match ev.code cx a T D H with
 |some (.normal,T,D,H)=>ev.code cx (.loop a) T D H
 |r=>r
noncomputable def cExit(id:Nat):CFn:=fun _ T D H=>some (.exit id,T,D,H)
noncomputable def cRet:CFn:=fun _ T D H=>some (.ret,T,D,H)
noncomputable def regDraw(ops:List Oper):CFn:=fun cx T D H=>
 match drawF P ev cx ops T H with
 |some (T,H)=>some (.normal,T,D,H)
 |none=>none
noncomputable def regText(ops:List Oper):CFn:=fun cx T D H=>
 match opsF P ev cx ops ops T D H with
 |some (T,D,H)=>some (.normal,T,D,H)
 |none=>none
noncomputable def cRegion(ops:Array Oper)(draw:Bool):CFn:=fun cx T D H=>
 bif opsOk gs ops.toList then(bif draw then regDraw P ev ops.toList cx T D H else regText P ev ops.toList cx T D H) else none
noncomputable def rangeEnd(T:Tr Value)(D:List Deferred)(l:Nat)(H:AHeap):CodeRes:=
 match H.get l with
 |some (.loop r)=>match r.state with
  | .busy=>none
  |_=>H.setK l (.loop {r with state:=.exhausted}) fun H=>
   match r.pending with
   |none=>some (.normal,T,D,H)
   |some (.exit id)=>some (.exit id,T,D,H)
   |some .ret=>some (.ret,T,D,H)
   |some _=>none
 |_=>none
noncomputable def canCall(f:FuncId):Bool:=
 match P.funcs[f]? with
 |some fn=>fn.body.isSome&&fn.name != "runtime.NumGoroutine"
 |none=>false
noncomputable def rangeGo(ps:Array Tmp)(assign body:Code)(f:FuncId)(pre post:List Value)(cx:Ctx)(T:Tr Value)(D:List Deferred)(r:Nat)(H:AHeap):CodeRes:=
 bif canCall P f then H.newK (.loop {state:=.ready,pending:=none,nt:=cx.nt,tmps:=T,params:=ps,assign,body,defers:=r}) fun l H=>
 match ev.call f (pre++[.func (.yield l) #[] #[]]++post) H with
 |some (_,H)=>rangeEnd T D l H
 |none=>none
 else none
noncomputable def cRange(g:Operand)(ps:Array Tmp)(assign body:Code):CFn:=fun cx T D H=>
 bif operandOk gs g then
 match evX g T with
 | .func (.func f) first cap=>match cx.rd with
   |none=>H.newK (.dfr true) fun r H=>rangeGo P ev ps assign body f first.toList cap.toList cx T ({target:=.collected r,args:=#[]}::D) r H
   |some l=>match H.get l with
    |some (.loop r)=>rangeGo P ev ps assign body f first.toList cap.toList cx T D r.defers H
    |_=>none
 |_=>none
 else none
noncomputable def codeD(c:Code):CFn:=
 match c with
 | .skip=>cSkip
 | .seq a b=>cSeq ev a b
 | .cond x a b=>cCond ev x a b
 | .block id a=>cBlock ev id a
 | .loop a=>cLoop ev a
 | .exit id=>cExit id
 | .ret=>cRet
 | .region _ ops d=>cRegion gs P ev ops d
 | .rangeFunc g ps a b=>cRange gs P ev g ps a b
 |_=>fun _ _ _ _=>none
end
noncomputable def codeF(gs:List Nat)(P:Program)(ev:Ev)(cx:Ctx)(c:Code)(T:Tr Value)(D:List Deferred)(H:AHeap):CodeRes:=codeD gs P ev c cx T D H
noncomputable def resultsA(P:Program)(T:Tr Value)(H:AHeap):List ResultVar→Option (List Value)
 |[]=>some []
 | .tmp t::rest=>match resultsA P T H rest with
   |some l=>some (evTmp t T::l)
   |none=>none
 | .cell a t::rest=>match loadF P t (evTmp a T) H,resultsA P T H rest with
   |some v,some l=>some (v::l)
   |_,_=>none
noncomputable def initT{β:Type}(c:Tr Value→Option β):List Value→Nat→Tr Value→Option β
 |[],_,T=>c T
 |v::vs,k,T=>T.setK v k fun T=>initT c vs (k+1) T
noncomputable def giveF(P:Program)(rs:List ResultVar)(T:Tr Value)(H:AHeap):Option (Value×AHeap):=
 match resultsA P T H rs with
 |some [v]=>some (v,H)
 |some vs=>some (.tuple ⟨vs⟩,H)
 |none=>none
noncomputable def isRecover(op:Op):Bool:=
 match op with
 | .call c=>match c.callee with
   | .builtin .recover=>true
   |_=>false
 |_=>false
noncomputable def recK(n:ANext):AHeap→Option (Value×AHeap):=
 match n with
 | .value v=>fun H=>some (v,H)
 | .skip=>fun H=>some (undef,H)
 |_=>fun _=>none
noncomputable def recOp(P:Program)(o:Oper)(T:Tr Value)(H:AHeap):Option (Value×AHeap):=
 bif isRecover o.op then some (.nilIface,H) else
 match kindOf o.op o.type with
 | .pure f=>match f P (evT T) with
   |some v=>some (v,H)
   |none=>none
 | .load t a=>match loadF P t (evT T a) H with
   |some v=>some (v,H)
   |none=>none
 |_=>heavyOf o.op P (evT T) H recK
noncomputable def recF(P:Program)(nt:Nat)(ops:List Oper)(T:Tr Value)(H:AHeap):Option (Tr Value×AHeap):=
 match ops with
 |[]=>some (T,H)
 |o::rest=>match o.guard with
  |some _=>none
  |none=>match recOp P o T H with
   |some (v,H)=>forceV 4 v fun v=>putK nt T o.dst v fun T=>recF P nt rest T H
   |none=>none
noncomputable def dEnd(P:Program)(rs:List ResultVar)(r:CodeRes):Option AHeap:=
 match r with
 |some (.exit _,_,_,_)=>none
 |some (_,T,[],H)=>match giveF P rs T H with
  |some (_,H)=>some H
  |none=>none
 |_=>none
noncomputable def dBody(gs:List Nat)(P:Program)(ev:Ev)(nt:Nat)(rs:List ResultVar)(c:Code)(T:Tr Value)(H:AHeap):Option AHeap:=
 match c with
 | .seq (.region _ ops false) rest=>bif opsOk gs ops.toList then(match recF P nt ops.toList T H with
   |some (T,H)=>dEnd P rs (ev.code ⟨nt,none⟩ rest T [] H)
   |none=>none) else none
 |_=>none
noncomputable def dcallF(gs:List Nat)(P:Program)(ev:Ev)(f:FuncId)(args:List Value)(H:AHeap):Option AHeap:=
 match P.funcs[f]? with
 |none=>none
 |some fn=>bif fn.name != "runtime.NumGoroutine" then(match fn.body with
  |none=>none
  |some c=>initT (fun T=>dBody gs P ev (args.length+(fn.ntmps-args.length)) fn.results.toList c T H) args 0 (Tr.full 8)) else none
noncomputable def leaveF(gs:List Nat)(P:Program)(ev:Ev)(c:AHeap→Option (Value×AHeap))(ds:List Deferred)(H:AHeap):Option (Value×AHeap):=
 match ds with
 |[]=>c H
 |d::ds=>match d.target with
  | .collected r=>match H.get r with
    |some (.dfr true)=>H.setK r (.dfr false) fun H=>leaveF gs P ev c ds H
    |_=>none
  | .fn (.func f) cap=>match dcallF gs P ev f (d.args.toList++cap.toList) H with
    |some H=>leaveF gs P ev c ds H
    |none=>none
  |_=>none
noncomputable def bodyEnd(gs:List Nat)(P:Program)(ev:Ev)(rs:List ResultVar)(r:CodeRes):Option (Value×AHeap):=
 match r with
 |some (.exit _,_,_,_)=>none
 |some (_,T,D,H)=>leaveF gs P ev (giveF P rs T) D H
 |none=>none
noncomputable def callF(gs:List Nat)(P:Program)(ev:Ev)(f:FuncId)(args:List Value)(H:AHeap):Option (Value×AHeap):=
 match P.funcs[f]? with
 |none=>none
 |some fn=>match fn.body with
  |none=>none
  |some c=>initT (fun T=>bodyEnd gs P ev fn.results.toList (ev.code ⟨args.length+(fn.ntmps-args.length),none⟩ c T [] H)) args 0 (Tr.full 8)
noncomputable def eval(gs:List Nat)(P:Program):Nat→Ev
 |0=>⟨fun _ _ _ _ _=>none,fun _ _ _=>none⟩
 |n+1=>⟨codeF gs P (eval gs P n),callF gs P (eval gs P n)⟩
end
section
section
variable{α β:Type}
theorem Tr.get_succ(v:Option α)(l r:Tr α)(j:Nat):(Tr.node v l r).get (j+1)=if j%2=0 then l.get (j/2) else r.get (j/2):=by
 show(Nat.rec (l.get (j/2)) (fun _ _=>r.get (j/2)) (j%2):Option α)=_
 rcases Nat.mod_two_eq_zero_or_one j with h|h<;>rw[h]<;>rfl
theorem Tr.setK_succ(v:α)(x:Option α)(l r:Tr α)(j:Nat)(c:Tr α→Option β):
 (Tr.node x l r).setK v (j+1) c=if j%2=0 then l.setK v (j/2) (fun l=>c (.node x l r)) else r.setK v (j/2) (fun r=>c (.node x l r)):=by
 show(Nat.rec (l.setK v (j/2) fun l=>c (.node x l r)) (fun _ _=>r.setK v (j/2) fun r=>c (.node x l r)) (j%2):Option β)=_
 rcases Nat.mod_two_eq_zero_or_one j with h|h<;>rw[h]<;>rfl
theorem Tr.setK_some{v:α}{t:Tr α}:∀{k:Nat}{c:Tr α→Option β}{r:β},t.setK v k c=some r→
 ∃t':Tr α,c t'=some r∧∀j,t'.get j=if j=k then some v else t.get j:=by
 induction t with
 |nil=>intro k c r h;cases h
 |node x l r ihl ihr=>
  intro k c res h
  cases k with
  |zero=>
   refine⟨_,h,fun j=> ?_⟩
   cases j with
   |zero=>rfl
   |succ j=>rw[if_neg (by omega:¬j+1=0)];rfl
  |succ k=>
   rw[Tr.setK_succ] at h
   by_cases hk:k%2=0
   ·rw[if_pos hk] at h
    obtain⟨l',hc,hl⟩:=ihl h
    refine⟨_,hc,fun j=> ?_⟩
    cases j with
    |zero=>rw[if_neg (by omega)];rfl
    |succ j=>
     rw[Tr.get_succ,Tr.get_succ,hl]
     by_cases hj:j%2=0
     ·rw[if_pos hj,if_pos hj]
      by_cases e:j/2=k/2
      ·rw[if_pos e,if_pos (by omega)]
      ·rw[if_neg e,if_neg (by omega)]
     ·rw[if_neg hj,if_neg hj,if_neg (by omega)]
   ·rw[if_neg hk] at h
    obtain⟨r',hc,hr⟩:=ihr h
    refine⟨_,hc,fun j=> ?_⟩
    cases j with
    |zero=>rw[if_neg (by omega)];rfl
    |succ j=>
     rw[Tr.get_succ,Tr.get_succ,hr]
     by_cases hj:j%2=0
     ·rw[if_pos hj,if_pos hj,if_neg (by omega)]
     ·rw[if_neg hj,if_neg hj]
      by_cases e:j/2=k/2
      ·rw[if_pos e,if_pos (by omega)]
      ·rw[if_neg e,if_neg (by omega)]
theorem Tr.get_full(d k:Nat):(Tr.full d:Tr α).get k=none:=by
 induction d generalizing k with
 |zero=>rfl
 |succ d ih=>
  show(Tr.node none (Tr.full d) (Tr.full d):Tr α).get k=none
  cases k with
  |zero=>rfl
  |succ k=>rw[Tr.get_succ];split<;>exact ih _
theorem lget_eq(l:List α)(n:Nat):lget l n=l[n]? :=by
 induction l generalizing n with
 |nil=>rfl
 |cons x xs ih=>
  cases n with
  |zero=>rfl
  |succ n=>exact ih n
end
section
variable{β:Type}
@[simp] theorem forceN_eq(n:Nat)(c:Nat→β):forceN n c=c n:=by cases n<;>rfl
@[simp] theorem forceI_eq (n:Int) (c:Int→β):forceI n c=c n:=by cases n<;>simp[forceI]
@[simp] theorem forceB_eq (b:Bool) (c:Bool→β):forceB b c=c b:=by cases b<;>rfl
theorem forceL_eq{α:Type}{fe:α→(α→β)→β}(h:∀x c,fe x c=c x)(l:List α)(c:List α→β):forceL fe l c=c l:=by
 induction l generalizing c with
 |nil=>rfl
 |cons x xs ih=>
  show fe x (fun x=>forceL fe xs fun xs=>c (x::xs))=_
  rw[h,ih]
@[simp] theorem forceA_eq (a:Option Addr) (c:Option Addr→β):forceA a c=c a:=by
  cases a with
  |none=>rfl
  |some a=>simp[forceA]
@[simp] theorem forceU8_eq (x:UInt8) (c:UInt8→β):forceU8 x c=c x:=rfl
theorem forceV1_eq{f:Value→(Value→β)→β}(h:∀v c,f v c=c v)(v:Value)(c:Value→β):forceV1 f v c=c v:=by
 cases v<;>simp only[forceV1]
 case bool=>simp[fvBool]
 case int=>simp[fvInt]
 case string=>simp only[fvStr];rw[forceL_eq forceU8_eq]
 case pointer=>simp[fvPtr]
 case slice=>simp[fvSlice]
 case func=>simp[fvFunc,forceL_eq h]
 case iface=>simp[fvIface,h]
 case agg=>simp[fvAgg,forceL_eq h]
 case tuple=>simp[fvTuple,forceL_eq h]
@[simp] theorem forceV_eq (n:Nat) (v:Value) (c:Value→β):forceV n v c=c v:=by
  induction n generalizing v c with
  |zero=>rfl
  |succ n ih=>exact forceV1_eq ih v c
@[simp] theorem forceLV_eq (n:Nat) (l:List Value) (c:List Value→β):forceL (forceV n) l c=c l:=forceL_eq (forceV_eq n) l c
end
section
variable{β:Type}{H:AHeap}{o:AObj}{i:Nat}{r:β}
theorem AHeap.setK_some{c:AHeap→Option β}(h:H.setK i o c=some r):
 ∃H':AHeap,c H'=some r∧H'.next=H.next∧∀j,H'.get j=if j=i then some o else H.get j:=by
 obtain⟨t,hc,ht⟩:=Tr.setK_some h
 exact⟨_,hc,rfl,ht⟩
theorem AHeap.newK_some{c:Nat→AHeap→Option β}(h:H.newK o c=some r):
 ∃H':AHeap,c H.next H'=some r∧H'.next=H.next+1∧∀j,H'.get j=if j=H.next then some o else H.get j:=by
 unfold AHeap.newK at h
 rw[forceN_eq] at h
 obtain⟨t,hc,ht⟩:=Tr.setK_some h
 rw[forceN_eq] at hc
 exact⟨_,hc,rfl,ht⟩
end
theorem takeN_some{n:Nat}{cs l:List Value}(h:takeN n cs=some l):n≤cs.length∧l=cs.take n:=by
 induction n generalizing cs l with
 |zero=>simp[takeN] at h;simp[←h]
 |succ n ih=>
  cases cs with
  |nil=>simp[takeN] at h
  |cons x xs=>
   simp only[takeN] at h
   cases hx:takeN n xs with
   |none=>rw[hx] at h;simp at h
   |some l'=>
    rw[hx] at h
    obtain⟨h1,h2⟩:=ih hx
    simp at h
    subst h2
    rw[←h]
    exact⟨by simp;omega,by simp⟩
theorem cut_some{off n:Nat}{cs l:List Value}(h:cut off n cs=some l):off+n≤cs.length∧l=(cs.drop off).take n:=by
 induction off generalizing cs with
 |zero=>have:=takeN_some (by simpa [cut] using h);simpa using this
 |succ off ih=>
  cases cs with
  |nil=>simp[cut] at h
  |cons x xs=>
   obtain⟨h1,h2⟩:=ih (cs:=xs) (by simpa [cut] using h)
   exact⟨by simp;omega,by simpa using h2⟩
theorem cut_len{off n:Nat}{cs l:List Value}(h:cut off n cs=some l):l.length=n:=by
 obtain⟨h1,rfl⟩:=cut_some h
 simp;omega
theorem cut_at{off n:Nat}{cs l:List Value}(h:cut off n cs=some l)(k:Nat)(hk:k<n):l[k]? =cs[off+k]? :=by
 obtain⟨h1,rfl⟩:=cut_some h
 rw[List.getElem?_take_of_lt hk,List.getElem?_drop]
theorem putFront_some{vs cs l:List Value}(h:putFront vs cs=some l):vs.length≤cs.length∧l=vs++cs.drop vs.length:=by
 induction vs generalizing cs l with
 |nil=>simp[putFront] at h;simp[h]
 |cons v vs ih=>
  cases cs with
  |nil=>simp[putFront] at h
  |cons x xs=>
   simp only[putFront] at h
   cases hx:putFront vs xs with
   |none=>rw[hx] at h;simp at h
   |some l'=>
    rw[hx] at h
    obtain⟨h1,h2⟩:=ih hx
    simp at h
    subst h2
    rw[←h]
    exact⟨by simp;omega,by simp⟩
theorem splice_some{n:Nat}{vs cs l:List Value}(h:splice n vs cs=some l):n+vs.length≤cs.length∧l=cs.take n++vs++cs.drop (n+vs.length):=by
 induction n generalizing cs l with
 |zero=>have:=putFront_some (by simpa [splice] using h);simpa using this
 |succ n ih=>
  cases cs with
  |nil=>simp[splice] at h
  |cons x xs=>
   simp only[splice] at h
   cases hx:splice n vs xs with
   |none=>rw[hx] at h;simp at h
   |some l'=>
    rw[hx] at h
    obtain⟨h1,h2⟩:=ih hx
    simp at h
    subst h2
    rw[←h]
    refine⟨by simp;omega,?_⟩
    rw[show n+1+vs.length=(n+vs.length)+1 from by omega]
    simp
theorem splice_len{n:Nat}{vs cs l:List Value}(h:splice n vs cs=some l):l.length=cs.length:=by
 obtain⟨h1,rfl⟩:=splice_some h
 simp;omega
theorem splice_in{n:Nat}{vs cs l:List Value}(h:splice n vs cs=some l)(k:Nat)(hk:k<vs.length):l[n+k]? =vs[k]? :=by
 obtain⟨h1,rfl⟩:=splice_some h
 rw[List.append_assoc,List.getElem?_append_right (by simp;omega),List.getElem?_append_left (by simp;omega)]
 congr 1
 simp;omega
theorem splice_out{n:Nat}{vs cs l:List Value}(h:splice n vs cs=some l)(k:Nat)(hk:k<n∨n+vs.length≤k):l[k]? =cs[k]? :=by
 obtain⟨h1,rfl⟩:=splice_some h
 rcases hk with hk|hk
 ·rw[List.append_assoc,List.getElem?_append_left (by simp;omega),List.getElem?_take_of_lt hk]
 ·rw[List.getElem?_append_right (by simp;omega),List.getElem?_drop]
  congr 1
  simp;omega
theorem repl_len(z:List Value)(n:Nat):(repl z n).length=n*z.length:=by
 induction n with
 |zero=>simp[repl]
 |succ n ih=>simp[repl,ih,Nat.succ_mul,Nat.add_comm]
theorem repl_at(z:List Value)(n k:Nat)(hk:k<n*z.length):(repl z n)[k]? =z[k%z.length]? :=by
 induction n generalizing k with
 |zero=>simp at hk
 |succ n ih=>
  rw[repl]
  by_cases h:k<z.length
  ·rw[List.getElem?_append_left h,Nat.mod_eq_of_lt h]
  ·rw[List.getElem?_append_right (by omega),ih _ (by rw[Nat.succ_mul] at hk;omega)]
   congr 1
   have:k=(k-z.length)+z.length:=by omega
   conv=>rhs;rw[this,Nat.add_mod_right]
end
end Go.Eng
