/- A part of the proof that SearchCandidates answers true for every input of bulk at most 1048576: conditions: the row's own. -/
import Derived.Test.YtancebninmoipaaGreatDoorP19
import Derived.OrdersIn
import Derived.RangeFuncLeaves
import Derived.RecoverIn
namespace Go.Eng
open Go
section
structure Mu where
 f:Nat→Option (Nat×Nat)
 c:Nat→Nat
 sz:TypeId→Nat
instance:CoeFun Mu (fun _=>Nat→Option (Nat×Nat)):=⟨Mu.f⟩
structure Mu.le(μ μ':Mu):Prop where
 f:∀i p,μ i=some p→μ' i=some p
 c:∀i p,μ i=some p→μ'.c i=μ.c i
 sz:μ'.sz=μ.sz
theorem Mu.le.refl(μ:Mu):Mu.le μ μ:=⟨fun _ _ h=>h,fun _ _ _=>rfl,rfl⟩
theorem Mu.le.trans{μ μ' μ'':Mu}(h:Mu.le μ μ')(k:Mu.le μ' μ''):Mu.le μ μ'':=
 ⟨fun _ _ hi=>k.f _ _ (h.f _ _ hi),fun _ _ hi=>(k.c _ _ (h.f _ _ hi)).trans (h.c _ _ hi),k.sz.trans h.sz⟩
mutual
inductive VRel(μ:Mu):Value→Value→Prop
 |plain {v:Value} (n:Nat) (h:plainV n v=true):VRel μ v v
 |ptr {i off b o:Nat} (h:μ i=some (b,o)):VRel μ (.pointer (some ⟨i,off,none⟩)) (.pointer (some ⟨b,o+off,none⟩))
 |slc {i off b o len cap cap':Nat} (h:μ i=some (b,o)) (hc:cap≤cap') (h0:off=0→cap'=μ.c i):VRel μ (.slice (some ⟨i,off,none⟩) len cap) (.slice (some ⟨b,o+off,none⟩) len cap')
 |slc0 {a:Addr} {cap:Nat}:VRel μ (.slice (some ⟨0,0,some 0⟩) 0 0) (.slice (some a) 0 cap)
 |map {i b:Nat} (h:μ i=some (b,0)):VRel μ (.map (some i)) (.map (some b))
 |func {fn:Fn} {a a' c c':List Value} (hn:∀l,fn≠.yield l) (ha:LRel μ a a') (hc:LRel μ c c'):VRel μ (.func fn ⟨a⟩ ⟨c⟩) (.func fn ⟨a'⟩ ⟨c'⟩)
 |yield {l b:Nat} (h:μ l=some (b,0)):VRel μ (.func (.yield l) #[] #[]) (.func (.yield b) #[] #[])
 |iface {t:TypeId} {v v':Value} (h:VRel μ v v'):VRel μ (.iface t v) (.iface t v')
 |agg {a a':List Value} (h:LRel μ a a'):VRel μ (.agg ⟨a⟩) (.agg ⟨a'⟩)
 |tuple {a a':List Value} (h:LRel μ a a'):VRel μ (.tuple ⟨a⟩) (.tuple ⟨a'⟩)
inductive LRel(μ:Mu):List Value→List Value→Prop
 |nil:LRel μ [] []
 |cons {v v':Value} {l l':List Value} (h:VRel μ v v') (t:LRel μ l l'):LRel μ (v::l) (v'::l')
end
section
variable{μ μ':Mu}
mutual
theorem VRel.mono(hm:Mu.le μ μ'){v v':Value}:VRel μ v v'→VRel μ' v v'
 | .plain n h=>.plain n h
 | .ptr h=>.ptr (hm.f _ _ h)
 | .slc h hc h0=>.slc (hm.f _ _ h) hc fun e=>(h0 e).trans (hm.c _ _ h).symm
 | .slc0=>.slc0
 | .map h=>.map (hm.f _ _ h)
 | .func hn ha hc=>.func hn (LRel.mono hm ha) (LRel.mono hm hc)
 | .yield h=>.yield (hm.f _ _ h)
 | .iface h=>.iface (VRel.mono hm h)
 | .agg h=>.agg (LRel.mono hm h)
 | .tuple h=>.tuple (LRel.mono hm h)
theorem LRel.mono(hm:Mu.le μ μ'){l l':List Value}:LRel μ l l'→LRel μ' l l'
 | .nil=>.nil
 | .cons h t=>.cons (VRel.mono hm h) (LRel.mono hm t)
end
theorem LRel.length{l l':List Value}(h:LRel μ l l'):l.length=l'.length:=by
 induction l generalizing l' with
 |nil=>cases h;rfl
 |cons x xs ih=>
  cases h with
  |cons _ t=>simp[ih t]
theorem LRel.at{l l':List Value}(h:LRel μ l l')(k:Nat)(v:Value)(hk:l[k]? =some v):∃v',l'[k]? =some v'∧VRel μ v v':=by
 induction l generalizing l' k with
 |nil=>simp at hk
 |cons x xs ih=>
  cases h with
  |cons hv t=>
   cases k with
   |zero=>simp at hk;subst hk;exact⟨_,by simp,hv⟩
   |succ k=>simpa using ih t k (by simpa using hk)
theorem LRel.of{l l':List Value}(hl:l.length=l'.length)(h:∀(k:Nat)(v v':Value),l[k]? =some v→l'[k]? =some v'→VRel μ v v'):LRel μ l l':=by
 induction l generalizing l' with
 |nil=>cases l'<;>simp at hl;exact .nil
 |cons x xs ih=>
  cases l' with
  |nil=>simp at hl
  |cons y ys=>
   exact .cons (h 0 x y (by simp) (by simp)) (ih (by simpa using hl) fun k v v' h1 h2=>h (k+1) v v' (by simpa using h1) (by simpa using h2))
theorem LRel.append{a a' b b':List Value}(h:LRel μ a a')(k:LRel μ b b'):LRel μ (a++b) (a'++b'):=by
 induction a generalizing a' with
 |nil=>cases h;exact k
 |cons x xs ih=>
  cases h with
  |cons hv t=>exact .cons hv (ih t)
theorem LRel.map{α:Type}{f g:α→Value}:∀{l:List α},(∀x∈l,VRel μ (f x) (g x))→LRel μ (l.map f) (l.map g)
 |[],_=>.nil
 |x::xs,h=>.cons (h x (by simp)) (LRel.map fun y hy=>h y (by simp[hy]))
theorem LRel.take{l l':List Value}(h:LRel μ l l')(n:Nat):LRel μ (l.take n) (l'.take n):=by
 induction n generalizing l l' with
 |zero=>simp;exact .nil
 |succ n ih=>
  cases h with
  |nil=>simp;exact .nil
  |cons hv t=>simp;exact .cons hv (ih t)
theorem LRel.drop{l l':List Value}(h:LRel μ l l')(n:Nat):LRel μ (l.drop n) (l'.drop n):=by
 induction n generalizing l l' with
 |zero=>exact h
 |succ n ih=>
  cases h with
  |nil=>simp;exact .nil
  |cons hv t=>simpa using ih t
theorem LRel.plain{n:Nat}{l:List Value}(h:l.all (plainV n)=true):LRel μ l l:=by
 induction l with
 |nil=>exact .nil
 |cons x xs ih=>
  simp at h
  exact .cons (.plain n h.1) (ih (by simpa using h.2))
theorem VRel.undef:VRel μ Go.undef Go.undef:=.plain 1 rfl
theorem VRel.int(k:IntKind)(n:Int):VRel μ (.int k n) (.int k n):=.plain 1 rfl
theorem VRel.bool(b:Bool):VRel μ (.bool b) (.bool b):=.plain 1 rfl
theorem VRel.inv_int{k:IntKind}{n:Int}{v':Value}(h:VRel μ (.int k n) v'):v'= .int k n:=by cases h;rfl
theorem VRel.inv_bool{b:Bool}{v':Value}(h:VRel μ (.bool b) v'):v'= .bool b:=by cases h;rfl
theorem VRel.inv_string{s:ByteArray}{v':Value}(h:VRel μ (.string s) v'):v'= .string s:=by cases h;rfl
theorem VRel.inv_nilFunc{v':Value}(h:VRel μ .nilFunc v'):v'= .nilFunc:=by cases h;rfl
theorem plainV_ptr(n:Nat)(a:Addr):plainV n (.pointer (some a))=false:=by cases n<;>rfl
theorem plainV_slice(n:Nat)(a:Addr)(l c:Nat):plainV n (.slice (some a) l c)=false:=by cases n<;>rfl
theorem plainV_map(n r:Nat):plainV n (.map (some r))=false:=by cases n<;>rfl
theorem plainV_yield(n l:Nat)(a b:Array Value):plainV n (.func (.yield l) a b)=false:=by cases n<;>rfl
theorem VRel.inv_ptr{i off:Nat}{sp:Option Nat}{v':Value}(h:VRel μ (.pointer (some ⟨i,off,sp⟩)) v'):
 sp=none∧∃b o,μ i=some (b,o)∧v'= .pointer (some ⟨b,o+off,none⟩):=by
 cases h with
 |plain n h=>rw[plainV_ptr] at h;cases h
 |ptr h=>exact⟨rfl,_,_,h,rfl⟩
theorem VRel.inv_ptr_none{v':Value}(h:VRel μ (.pointer none) v'):v'= .pointer none:=by cases h;rfl
theorem VRel.inv_slice{i off len cap:Nat}{v':Value}(h:VRel μ (.slice (some ⟨i,off,none⟩) len cap) v'):
 ∃b o cap',μ i=some (b,o)∧cap≤cap'∧(off=0→cap'=μ.c i)∧v'= .slice (some ⟨b,o+off,none⟩) len cap':=by
 cases h with
 |plain n h=>rw[plainV_slice] at h;cases h
 |slc h hc h0=>exact⟨_,_,_,h,hc,h0,rfl⟩
theorem VRel.inv_slice_none{n m:Nat}{v':Value}(h:VRel μ (.slice none n m) v'):v'= .slice none n m:=by cases h;rfl
theorem VRel.inv_slice_some{a:Addr}{n m:Nat}{v':Value}(h:VRel μ (.slice (some a) n m) v'):∃a' m',v'= .slice (some a') n m':=by
 cases h with
 |plain k h=>rw[plainV_slice] at h;cases h
 |slc h hc h0=>exact⟨_,_,rfl⟩
 |slc0=>exact⟨_,_,rfl⟩
theorem VRel.inv_slice_any{a:Option Addr}{n m:Nat}{v':Value}(h:VRel μ (.slice a n m) v'):∃a' m',v'= .slice a' n m':=by
 cases a with
 |none=>exact⟨_,_,h.inv_slice_none⟩
 |some a=>obtain⟨a',m',e⟩:=h.inv_slice_some;exact⟨_,_,e⟩
theorem VRel.inv_map{i:Nat}{v':Value}(h:VRel μ (.map (some i)) v'):∃b,μ i=some (b,0)∧v'= .map (some b):=by
 cases h with
 |plain n h=>rw[plainV_map] at h;cases h
 |map h=>exact⟨_,h,rfl⟩
theorem VRel.inv_yield{l:Nat}{a c:Array Value}{v':Value}(h:VRel μ (.func (.yield l) a c) v'):∃b,μ l=some (b,0)∧v'= .func (.yield b) #[] #[]:=by
 cases h with
 |plain n h=>rw[plainV_yield] at h;cases h
 |func hn _ _=>exact absurd rfl (hn l)
 |yield h=>exact⟨_,h,rfl⟩
theorem VRel.inv_func{fn:Fn}{a c:Array Value}{v':Value}(hn:∀l,fn≠.yield l)(h:VRel μ (.func fn a c) v'):
 ∃a' c':Array Value,v'= .func fn a' c'∧LRel μ a.toList a'.toList∧LRel μ c.toList c'.toList:=by
 cases h with
 |plain n h=>
  refine⟨a,c,rfl,?_⟩
  cases n with
  |zero=>cases h
  |succ n=>
   have h':(a.toList.all (plainV n)&&c.toList.all (plainV n))=true:=by
    cases fn<;>first|exact h|exact absurd rfl (hn _)
   rw[Bool.and_eq_true] at h'
   exact⟨LRel.plain h'.1,LRel.plain h'.2⟩
 |func _ ha hc=>exact⟨_,_,rfl,ha,hc⟩
 |yield h=>exact absurd rfl (hn _)
theorem VRel.inv_agg{a:Array Value}{v':Value}(h:VRel μ (.agg a) v'):∃a':Array Value,v'= .agg a'∧LRel μ a.toList a'.toList:=by
 cases h with
 |plain n h=>
  cases n with
  |zero=>cases h
  |succ n=>exact⟨a,rfl,LRel.plain h⟩
 |agg h=>exact⟨_,rfl,h⟩
theorem VRel.inv_tuple{a:Array Value}{v':Value}(h:VRel μ (.tuple a) v'):∃a':Array Value,v'= .tuple a'∧LRel μ a.toList a'.toList:=by
 cases h with
 |plain n h=>
  cases n with
  |zero=>cases h
  |succ n=>exact⟨a,rfl,LRel.plain h⟩
 |tuple h=>exact⟨_,rfl,h⟩
theorem VRel.inv_plain{n:Nat}{v v':Value}(hp:plainV n v=true)(h:VRel μ v v'):v'=v:=by
 induction n generalizing v v' with
 |zero=>cases hp
 |succ n ih=>
  have hl:∀{l l':List Value},l.all (plainV n)=true→LRel μ l l'→l'=l:=by
   intro l
   induction l with
   |nil=>intro l' _ h;cases h;rfl
   |cons x xs ihl=>
    intro l' hp h
    simp at hp
    cases h with
    |cons hv t=>rw[ih hp.1 hv,ihl (by simpa using hp.2) t]
  cases h with
  |plain=>rfl
  |ptr=>rw[plainV_ptr] at hp;cases hp
  |slc=>rw[plainV_slice] at hp;cases hp
  |slc0=>rw[plainV_slice] at hp;cases hp
  |map=>rw[plainV_map] at hp;cases hp
  |yield=>rw[plainV_yield] at hp;cases hp
  | @func fn a a' c c' hn ha hc=>
    have h':(a.all (plainV n)&&c.all (plainV n))=true:=by
     cases fn<;>first|exact hp|exact absurd rfl (hn _)
    rw[Bool.and_eq_true] at h'
    rw[hl h'.1 ha,hl h'.2 hc]
  |iface h=>rw[ih (v:=_) hp h]
  |agg h=>rw[hl hp h]
  |tuple h=>rw[hl hp h]
theorem VRel.cells{v v':Value}(h:VRel μ v v'):LRel μ v.cells.toList v'.cells.toList:=by
 cases v with
 |agg a=>obtain⟨a',rfl,hl⟩:=h.inv_agg;exact hl
 |_=>
  have:v'.cells=#[v']:=by
   cases h<;>rfl
  rw[this]
  exact .cons h .nil
theorem VRel.flat{v v':Value}(h:VRel μ v v'):Eng.flat v'=Eng.flat v:=by cases h<;>rfl
theorem LRel.flat{l l':List Value}(h:LRel μ l l'):l'.all Eng.flat=l.all Eng.flat:=by
 induction l generalizing l' with
 |nil=>cases h;rfl
 |cons x xs ih=>
  cases h with
  |cons hv t=>simp[hv.flat,ih t]
end
def TRel(μ:Mu)(T:Tr Value)(tm:Array Value)(nt:Nat):Prop:=tm.size=nt∧∀t,VRel μ (evTmp t T) (tm.getD t undef)
def ents:Nat→List (Int×Value)→List MapEntry
 |_,[]=>[]
 |n,(k,v)::es=>⟨.int .i64 k,v,n⟩::ents (n+1) es
def ORel(μ:Mu):AObj→Nat→Option Obj→Prop
 | .imap es,o,some (.map arr clock)=>o=0∧clock=es.length∧arr.toList=ents 0 es
 | .cells cs e own app,o,some (.cells arr e' fz)=>e=e'∧o+cs.length≤arr.size∧
    (∀(k:Nat)(v:Value),cs[k]? =some v→∃v',arr[o+k]? =some v'∧VRel μ v v')∧((own||app)=true→fz=(0,0))∧(own=true→app=false→o=0∧arr.size=cs.length)∧(app=true→o=0)
 | .map es,o,some (.map arr clock)=>o=0∧((es=[]∧arr=#[]∧clock=0)∨
    ∃s v,es=[(.string s,v)]∧plain4 v=true∧arr=#[⟨.string s,v,0⟩]∧clock=1)
 | .iter m since done,o,some (.mapIter (some b) since' seen stepped)=>o=0∧μ m=some (b,0)∧since'=since∧stepped=since∧
    ((done=0∧seen=#[])∨(done=1∧since=1∧seen=#[0]))
 | .loop l,o,some (.loop r)=>o=0∧r.state=l.state∧r.pending=l.pending∧r.params=l.params∧r.assign=l.assign∧r.body=l.body∧
    μ l.defers=some (r.defers,0)∧TRel μ l.tmps r.tmps l.nt
 | .dfr op,o,some (.deferred ds)=>o=0∧ds=if op then some [] else none
 |_,_,_=>False
def locked:AObj→Bool
 | .cells _ _ false false=>true
 |_=>false
def lockedAt(H:AHeap)(i:Nat):Prop:=∃x,H.get i=some x∧locked x=true
structure Rel(H:AHeap)(μ:Mu)(w:World):Prop where
 obj:∀i b o,μ i=some (b,o)→∃x,H.get i=some x∧ORel μ x o w.heap[b]?
 dom:∀i p,μ i=some p→i<H.next
 own:∀i b o cs e app,μ i=some (b,o)→H.get i=some (.cells cs e true app)→∀j o',μ j=some (b,o')→j=i
 app:∀i b o cs e ow,μ i=some (b,o)→H.get i=some (.cells cs e ow true)→∀j o',μ j=some (b,o')→j≠i→
  ∃cs' e',H.get j=some (.cells cs' e' false false)∧o'+cs'.length≤o+cs.length
 oth:∀i b o x,μ i=some (b,o)→H.get i=some x→(∀cs e ow ap,x≠.cells cs e ow ap)→∀j o',μ j=some (b,o')→j=i
 cap:∀i b o cs e ow,μ i=some (b,o)→H.get i=some (.cells cs e ow true)→∀arr e' fz,w.heap[b]? =some (.cells arr e' fz)→o+μ.c i*μ.sz e≤arr.size
structure Ext(H:AHeap)(μ:Mu)(w:World)(H':AHeap)(μ':Mu)(w':World):Prop where
 mu:Mu.le μ μ'
 next:H.next≤H'.next
 size:w.heap.size≤w'.heap.size
 keep:∀b,b<w.heap.size→(∀i o,μ i=some (b,o)→lockedAt H i)→w'.heap[b]? =w.heap[b]?
 unl:∀i b o,μ' i=some (b,o)→b<w.heap.size→¬lockedAt H' i→∃j o',μ j=some (b,o')∧¬lockedAt H j
 virt:∀i,i<H.next→μ i=none→μ' i=none∧H'.get i=H.get i
 tape:w'.tape=w.tape
 os:w'.os=w.os
 output:w'.output=w.output
section
variable{μ μ' μ'':Mu}{H H' H'':AHeap}{w w' w'':World}
theorem TRel.mono(hm:Mu.le μ μ'){T:Tr Value}{tm:Array Value}{nt:Nat}(h:TRel μ T tm nt):TRel μ' T tm nt:=
 ⟨h.1,fun t=>(h.2 t).mono hm⟩
theorem ORel.mono(hm:Mu.le μ μ'){x:AObj}{o:Nat}{ob:Option Obj}(h:ORel μ x o ob):ORel μ' x o ob:=by
 match x,ob,h with
 | .cells cs e own app,some (.cells arr e' fz),h=>
   exact⟨h.1,h.2.1,fun k v hk=>let ⟨v',h1,h2⟩:=h.2.2.1 k v hk;⟨v',h1,h2.mono hm⟩,h.2.2.2⟩
 | .map es,some (.map arr clock),h=>exact h
 | .imap es,some (.map arr clock),h=>exact h
 | .iter m since done,some (.mapIter (some b) since' seen stepped),h=>exact⟨h.1,hm.f _ _ h.2.1,h.2.2⟩
 | .loop l,some (.loop r),h=>exact⟨h.1,h.2.1,h.2.2.1,h.2.2.2.1,h.2.2.2.2.1,h.2.2.2.2.2.1,hm.f _ _ h.2.2.2.2.2.2.1,h.2.2.2.2.2.2.2.mono hm⟩
 | .dfr op,some (.deferred ds),h=>exact h
theorem ORel.isSome{x:AObj}{o:Nat}{ob:Option Obj}(h:ORel μ x o ob):ob.isSome=true:=by
 cases ob with
 |none=>cases x<;>exact h.elim
 |some _=>rfl
theorem Rel.lt(h:Rel H μ w){i b o:Nat}(hi:μ i=some (b,o)):b<w.heap.size:=by
 obtain⟨x,_,hx⟩:=h.obj i b o hi
 have:=hx.isSome
 rw[Option.isSome_iff_exists] at this
 obtain⟨ob,hob⟩:=this
 exact(Array.getElem?_eq_some_iff.1 hob).1
theorem Ext.refl(H:AHeap)(μ:Mu)(w:World):Ext H μ w H μ w:=
 ⟨Mu.le.refl _,Nat.le_refl _,Nat.le_refl _,fun _ _ _=>rfl,fun i _ o h _ hl=>⟨i,o,h,hl⟩,fun _ _ h=>⟨h,rfl⟩,rfl,rfl,rfl⟩
theorem Ext.trans(h:Ext H μ w H' μ' w')(h':Ext H' μ' w' H'' μ'' w''):Ext H μ w H'' μ'' w'' where
 mu:=h.mu.trans h'.mu
 next:=Nat.le_trans h.next h'.next
 size:=Nat.le_trans h.size h'.size
 keep b hb hl:=by
  rw[h'.keep b (Nat.lt_of_lt_of_le hb h.size),h.keep b hb hl]
  intro i o hi
  exact Classical.byContradiction fun hn=>by
   obtain⟨j,o',hj,hnj⟩:=h.unl i b o hi hb hn
   exact hnj (hl j o' hj)
 unl i b o hi hb hn:=by
  obtain⟨j,o',hj,hnj⟩:=h'.unl i b o hi (Nat.lt_of_lt_of_le hb h.size) hn
  exact h.unl j b o' hj hb hnj
 virt i hi hm:=by
  obtain⟨h1,h2⟩:=h.virt i hi hm
  obtain⟨h3,h4⟩:=h'.virt i (Nat.lt_of_lt_of_le hi h.next) h1
  exact⟨h3,h4.trans h2⟩
 tape:=h'.tape.trans h.tape
 os:=h'.os.trans h.os
 output:=h'.output.trans h.output
theorem Rel.drew(h:Rel H μ w)(n:Nat):Rel H μ {w with drawn:=n}:=⟨h.obj,h.dom,h.own,h.app,h.oth,h.cap⟩
theorem Ext.drew(H:AHeap)(μ:Mu)(w:World)(n:Nat):Ext H μ w H μ {w with drawn:=n}:=
 ⟨Mu.le.refl _,Nat.le_refl _,Nat.le_refl _,fun _ _ _=>rfl,fun i _ o h _ hl=>⟨i,o,h,hl⟩,fun _ _ h=>⟨h,rfl⟩,rfl,rfl,rfl⟩
end
end
section
def upd(μ:Mu)(i:Nat)(p:Nat×Nat)(cc:Nat):Mu:=
 {f:=fun j=>if j=i then some p else μ j,c:=fun j=>if j=i then cc else μ.c j,sz:=μ.sz}
theorem upd_same(μ:Mu)(i:Nat)(p:Nat×Nat)(cc:Nat):upd μ i p cc i=some p:=by simp[upd]
theorem upd_ne(μ:Mu){i j:Nat}(p:Nat×Nat)(cc:Nat)(h:j≠i):upd μ i p cc j=μ j:=by simp[upd,h]
theorem upd_c(μ:Mu)(i:Nat)(p:Nat×Nat)(cc:Nat):(upd μ i p cc).c i=cc:=by simp[upd]
theorem upd_c_ne(μ:Mu){i j:Nat}(p:Nat×Nat)(cc:Nat)(h:j≠i):(upd μ i p cc).c j=μ.c j:=by simp[upd,h]
theorem upd_sz(μ:Mu)(i:Nat)(p:Nat×Nat)(cc:Nat):(upd μ i p cc).sz=μ.sz:=rfl
abbrev wNew(w:World)(ob:Obj):World:={w with heap:=w.heap.push ob}
section
variable{μ:Mu}{H H':AHeap}{w w':World}
theorem Rel.fresh(h:Rel H μ w):μ H.next=none:=by
 cases hm:μ H.next with
 |none=>rfl
 |some p=>exact absurd (h.dom _ _ hm) (Nat.lt_irrefl _)
theorem mono_virt{i:Nat}(hv:μ i=none)(p:Nat×Nat)(cc:Nat):Mu.le μ (upd μ i p cc):=by
 have hne:∀j q,μ j=some q→j≠i:=by
  intro j q hj e
  subst e
  rw[hv] at hj
  cases hj
 exact⟨fun j q hj=>by rw[upd_ne _ _ _ (hne j q hj)];exact hj,fun j q hj=>upd_c_ne _ _ _ (hne j q hj),rfl⟩
theorem Rel.mono_new(h:Rel H μ w)(p:Nat×Nat)(cc:Nat):Mu.le μ (upd μ H.next p cc):=mono_virt h.fresh p cc
theorem push_old(w:World)(ob:Obj){b:Nat}(hb:b<w.heap.size):(wNew w ob).heap[b]? =w.heap[b]? :=by
 simp[Array.getElem?_push,Nat.ne_of_lt hb]
theorem push_new(w:World)(ob:Obj):(wNew w ob).heap[w.heap.size]? =some ob:=by simp
theorem Rel.bind{x:AObj}{i:Nat}(h:Rel H μ w)(hi:i<H.next)(hv:μ i=none)(hg:H.get i=some x)(ob:Obj)(cc:Nat)
 (hx:ORel (upd μ i (w.heap.size,0) cc) x 0 (some ob))(hcap:∀cs e ow,x= .cells cs e ow true→∀arr e' fz,ob= .cells arr e' fz→cc*μ.sz e≤arr.size):
 Rel H (upd μ i (w.heap.size,0) cc) (wNew w ob) where
 obj j b o hj:=by
  by_cases e:j=i
  ·subst e
   rw[upd_same] at hj
   cases hj
   exact⟨x,hg,by rw[push_new];exact hx⟩
  ·rw[upd_ne _ _ _ e] at hj
   obtain⟨y,h1,h2⟩:=h.obj j b o hj
   exact⟨y,h1,by rw[push_old w ob (h.lt hj)];exact h2.mono (mono_virt hv _ _)⟩
 dom j p hj:=by
  by_cases e:j=i
  ·subst e;exact hi
  ·rw[upd_ne _ _ _ e] at hj;exact h.dom _ _ hj
 own j b o cs e app hj hgj k o' hk:=by
  by_cases ej:j=i
  ·subst ej
   rw[upd_same] at hj
   cases hj
   by_cases ek:k=j
   ·exact ek
   ·rw[upd_ne _ _ _ ek] at hk;exact absurd (h.lt hk) (Nat.lt_irrefl _)
  ·rw[upd_ne _ _ _ ej] at hj
   by_cases ek:k=i
   ·subst ek
    rw[upd_same] at hk
    cases hk
    exact absurd (h.lt hj) (Nat.lt_irrefl _)
   ·rw[upd_ne _ _ _ ek] at hk
    exact h.own j b o cs e app hj hgj k o' hk
 app j b o cs e ow hj hgj k o' hk hne:=by
  by_cases ej:j=i
  ·subst ej
   rw[upd_same] at hj
   cases hj
   rw[upd_ne _ _ _ hne] at hk
   exact absurd (h.lt hk) (Nat.lt_irrefl _)
  ·rw[upd_ne _ _ _ ej] at hj
   by_cases ek:k=i
   ·subst ek
    rw[upd_same] at hk
    cases hk
    exact absurd (h.lt hj) (Nat.lt_irrefl _)
   ·rw[upd_ne _ _ _ ek] at hk
    exact h.app j b o cs e ow hj hgj k o' hk hne
 oth j b o y hj hgj hy k o' hk:=by
  by_cases ej:j=i
  ·subst ej
   rw[upd_same] at hj
   cases hj
   by_cases ek:k=j
   ·exact ek
   ·rw[upd_ne _ _ _ ek] at hk;exact absurd (h.lt hk) (Nat.lt_irrefl _)
  ·rw[upd_ne _ _ _ ej] at hj
   by_cases ek:k=i
   ·subst ek
    rw[upd_same] at hk
    cases hk
    exact absurd (h.lt hj) (Nat.lt_irrefl _)
   ·rw[upd_ne _ _ _ ek] at hk
    exact h.oth j b o y hj hgj hy k o' hk
 cap j b o cs e ow hj hgj arr e' fz hw:=by
  by_cases ej:j=i
  ·subst ej
   rw[upd_same] at hj
   cases hj
   rw[hg] at hgj
   cases hgj
   rw[push_new] at hw
   cases hw
   rw[upd_c,upd_sz,Nat.zero_add]
   exact hcap cs e ow rfl arr e' fz rfl
  ·rw[upd_ne _ _ _ ej] at hj
   rw[push_old w ob (h.lt hj)] at hw
   rw[upd_c_ne _ _ _ ej,upd_sz]
   exact h.cap j b o cs e ow hj hgj arr e' fz hw
theorem Rel.widen(h:Rel H μ w)(hn:H.next≤H'.next)(hg:∀i,i<H.next→H'.get i=H.get i):Rel H' μ w where
 obj i b o hi:=by rw[hg i (h.dom _ _ hi)];exact h.obj i b o hi
 dom i p hi:=Nat.lt_of_lt_of_le (h.dom _ _ hi) hn
 own i b o cs e app hi hgi:=by rw[hg i (h.dom _ _ hi)] at hgi;exact h.own i b o cs e app hi hgi
 app i b o cs e ow hi hgi j o' hj hne:=by
  rw[hg i (h.dom _ _ hi)] at hgi
  rw[hg j (h.dom _ _ hj)]
  exact h.app i b o cs e ow hi hgi j o' hj hne
 oth i b o x hi hgi:=by rw[hg i (h.dom _ _ hi)] at hgi;exact h.oth i b o x hi hgi
 cap i b o cs e ow hi hgi:=by rw[hg i (h.dom _ _ hi)] at hgi;exact h.cap i b o cs e ow hi hgi
theorem Rel.new{x:AObj}(h:Rel H μ w)(hn:H'.next=H.next+1)(hg:∀j,H'.get j=if j=H.next then some x else H.get j)(ob:Obj)(cc:Nat)
 (hx:ORel (upd μ H.next (w.heap.size,0) cc) x 0 (some ob))(hcap:∀cs e ow,x= .cells cs e ow true→∀arr e' fz,ob= .cells arr e' fz→cc*μ.sz e≤arr.size):
 Rel H' (upd μ H.next (w.heap.size,0) cc) (wNew w ob)∧Ext H μ w H' (upd μ H.next (w.heap.size,0) cc) (wNew w ob):=by
 have hold:∀i,i<H.next→H'.get i=H.get i:=fun i hi=>by rw[hg,if_neg (Nat.ne_of_lt hi)]
 have hw:=h.widen (H':=H') (by omega) hold
 refine⟨hw.bind (i:=H.next) (by omega) h.fresh (by rw[hg,if_pos rfl]) ob cc hx hcap,?_⟩
 refine⟨h.mono_new _ _,by omega,by simp,fun b hb _=>push_old w ob hb,?_,?_,rfl,rfl,rfl⟩
 ·intro i b o hi hb hl
  by_cases e:i=H.next
  ·subst e
   rw[upd_same] at hi
   cases hi
   exact absurd hb (Nat.lt_irrefl _)
  ·rw[upd_ne _ _ _ e] at hi
   refine⟨i,o,hi,fun hl'=>hl ?_⟩
   obtain⟨y,h1,h2⟩:=hl'
   exact⟨y,by rw[hold i (h.dom _ _ hi)];exact h1,h2⟩
 ·intro i hi hm
  exact⟨by rw[upd_ne _ _ _ (Nat.ne_of_lt hi)];exact hm,hold i hi⟩
theorem Rel.put{x x':AObj}{i b o:Nat}(h:Rel H μ w)(hi:μ i=some (b,o))(hgi:H.get i=some x)(hl:locked x=false)
 (excl:∀j o',μ j=some (b,o')→j=i)(hn:H'.next=H.next)(hg:∀j,H'.get j=if j=i then some x' else H.get j)
 (hs:w'.heap.size=w.heap.size)(hother:∀c,c≠b→w'.heap[c]? =w.heap[c]?)(hx:ORel μ x' o w'.heap[b]?)
 (hcap:∀cs e ow,x'= .cells cs e ow true→∀arr e' fz,w'.heap[b]? =some (.cells arr e' fz)→o+μ.c i*μ.sz e≤arr.size)
 (ht:w'.tape=w.tape)(hos:w'.os=w.os)(hou:w'.output=w.output):Rel H' μ w'∧Ext H μ w H' μ w':=by
 have hne:∀j b' o',μ j=some (b',o')→j≠i→b'≠b:=fun j b' o' hj hji e=>hji (excl j o' (e▸hj))
 have hold:∀j,j≠i→H'.get j=H.get j:=fun j hj=>by rw[hg,if_neg hj]
 constructor
 ·refine⟨?_,?_,?_,?_,?_,?_⟩
  ·intro j b' o' hj
   by_cases e:j=i
   ·subst e
    rw[hi] at hj
    cases hj
    exact⟨x',by rw[hg,if_pos rfl],hx⟩
   ·rw[hold j e,hother b' (hne j b' o' hj e)]
    exact h.obj j b' o' hj
  ·intro j p hj;rw[hn];exact h.dom _ _ hj
  ·intro j b' o' cs e app hj hgj k o'' hk
   by_cases ej:j=i
   ·subst ej
    rw[hi] at hj
    cases hj
    exact excl k o'' hk
   ·rw[hold j ej] at hgj
    exact h.own j b' o' cs e app hj hgj k o'' hk
  ·intro j b' o' cs e ow hj hgj k o'' hk hkj
   by_cases ej:j=i
   ·subst ej
    rw[hi] at hj
    cases hj
    exact absurd (excl k o'' hk) hkj
   ·rw[hold j ej] at hgj
    have hb':=hne j b' o' hj ej
    have hk':k≠i:=by
     intro e
     subst e
     rw[hi] at hk
     cases hk
     exact hb' rfl
    rw[hold k hk']
    exact h.app j b' o' cs e ow hj hgj k o'' hk hkj
  ·intro j b' o' y hj hgj hy k o'' hk
   by_cases ej:j=i
   ·subst ej
    rw[hi] at hj
    cases hj
    exact excl k o'' hk
   ·rw[hold j ej] at hgj
    exact h.oth j b' o' y hj hgj hy k o'' hk
  ·intro j b' o' cs e ow hj hgj arr e' fz hw
   by_cases ej:j=i
   ·subst ej
    rw[hi] at hj
    cases hj
    rw[hg,if_pos rfl] at hgj
    cases hgj
    exact hcap cs e ow rfl arr e' fz hw
   ·rw[hold j ej] at hgj
    rw[hother b' (hne j b' o' hj ej)] at hw
    exact h.cap j b' o' cs e ow hj hgj arr e' fz hw
 ·have hnl:¬lockedAt H i:=by
   rintro⟨y,h1,h2⟩
   rw[hgi] at h1
   cases h1
   rw[hl] at h2
   cases h2
  refine⟨Mu.le.refl _,by omega,by omega,?_,?_,?_,ht,hos,hou⟩
  ·intro b' hb' hlk
   by_cases e:b'=b
   ·subst e;exact absurd (hlk i o hi) hnl
   ·exact hother b' e
  ·intro j b' o' hj hb' hjl
   by_cases e:j=i
   ·subst e;exact⟨j,o',hj,hnl⟩
   ·refine⟨j,o',hj,fun hl'=>hjl ?_⟩
    obtain⟨y,h1,h2⟩:=hl'
    exact⟨y,by rw[hold j e];exact h1,h2⟩
  ·intro j _ hm
   refine⟨hm,hold j ?_⟩
   intro e
   subst e
   rw[hi] at hm
   cases hm
theorem Rel.grow{cs nw:List Value}{e' e:TypeId}{ow:Bool}{i b o:Nat}{H₁ H₂:AHeap}{ob:Obj}(h:Rel H μ w)(hi:μ i=some (b,o))
 (hgi:H.get i=some (.cells cs e' ow true))(hn₁:H₁.next=H.next)(hg₁:∀j,H₁.get j=if j=i then some (.cells cs e' false false) else H.get j)
 (hn₂:H₂.next=H₁.next+1)(hg₂:∀j,H₂.get j=if j=H₁.next then some (.cells nw e false true) else H₁.get j)
 (cc:Nat)(hx:ORel (upd μ H.next (w.heap.size,0) cc) (.cells nw e false true) 0 (some ob))(hcap:∀arr e' fz,ob= .cells arr e' fz→cc*μ.sz e≤arr.size):
 Rel H₂ (upd μ H.next (w.heap.size,0) cc) (wNew w ob)∧Ext H μ w H₂ (upd μ H.next (w.heap.size,0) cc) (wNew w ob):=by
 have hold:∀j,j≠i→H₁.get j=H.get j:=fun j hj=>by rw[hg₁,if_neg hj]
 have hlt:=h.dom _ _ hi
 have r₁:Rel H₁ μ w:=by
  refine⟨?_,?_,?_,?_,?_,?_⟩
  ·intro j b' o' hj
   by_cases ej:j=i
   ·subst ej
    obtain⟨x,h1,h2⟩:=h.obj j b' o' hj
    rw[hgi] at h1
    cases h1
    refine⟨_,by rw[hg₁,if_pos rfl],?_⟩
    have:=h2.isSome
    revert h2 this
    cases w.heap[b']? with
    |none=>intro _ h;cases h
    |some ob'=>
     intro h2 _
     cases ob'<;>first|exact h2.elim|exact⟨h2.1,h2.2.1,h2.2.2.1,fun hh=>by simp at hh,(fun hh=>by cases hh),fun hh=>by cases hh⟩
   ·rw[hold j ej];exact h.obj j b' o' hj
  ·intro j p hj;rw[hn₁];exact h.dom _ _ hj
  ·intro j b' o' cs' e'' app hj hgj
   by_cases ej:j=i
   ·subst ej;rw[hg₁,if_pos rfl] at hgj;cases hgj
   ·rw[hold j ej] at hgj;exact h.own j b' o' cs' e'' app hj hgj
  ·intro j b' o' cs' e'' ow' hj hgj k o'' hk hkj
   by_cases ej:j=i
   ·subst ej;rw[hg₁,if_pos rfl] at hgj;cases hgj
   ·rw[hold j ej] at hgj
    obtain⟨cs'',e3,h1,h2⟩:=h.app j b' o' cs' e'' ow' hj hgj k o'' hk hkj
    by_cases ek:k=i
    ·subst ek;rw[hgi] at h1;cases h1
    ·exact⟨cs'',e3,by rw[hold k ek];exact h1,h2⟩
  ·intro j b' o' y hj hgj hy
   by_cases ej:j=i
   ·subst ej;rw[hg₁,if_pos rfl] at hgj;cases hgj;exact absurd rfl (hy _ _ _ _)
   ·rw[hold j ej] at hgj;exact h.oth j b' o' y hj hgj hy
  ·intro j b' o' cs' e'' ow' hj hgj
   by_cases ej:j=i
   ·subst ej;rw[hg₁,if_pos rfl] at hgj;cases hgj
   ·rw[hold j ej] at hgj;exact h.cap j b' o' cs' e'' ow' hj hgj
 have hx':ORel (upd μ H₁.next (w.heap.size,0) cc) (.cells nw e false true) 0 (some ob):=by rw[hn₁];exact hx
 obtain⟨r₂,e₂⟩:=r₁.new hn₂ hg₂ ob cc hx' (fun cs e ow he arr e' fz ho=>by cases he;exact hcap arr e' fz ho)
 rw[hn₁] at r₂ e₂
 refine⟨r₂,⟨e₂.mu,by omega,e₂.size,fun b' hb' _=>push_old w ob hb',?_,?_,rfl,rfl,rfl⟩⟩
 ·intro j b' o' hj hb' hl
  obtain⟨k,o'',hk,hkl⟩:=e₂.unl j b' o' hj hb' hl
  refine⟨k,o'',hk,fun hl'=>hkl ?_⟩
  obtain⟨y,h1,h2⟩:=hl'
  by_cases ek:k=i
  ·subst ek;rw[hgi] at h1;cases h1;cases ow<;>cases h2
  ·exact⟨y,by rw[hold k ek];exact h1,h2⟩
 ·intro j hj hm
  have hji:j≠i:=by intro e;subst e;rw[hi] at hm;cases hm
  obtain⟨h1,h2⟩:=e₂.virt j (by omega) hm
  exact⟨h1,by rw[h2,hold j hji]⟩
theorem Rel.inplace{cs nw:List Value}{e' e:TypeId}{ow:Bool}{i b o:Nat}{H₁ H₂:AHeap}{arr:Array Value}(h:Rel H μ w)(hi:μ i=some (b,o))
 (hgi:H.get i=some (.cells cs e' ow true))(hn₁:H₁.next=H.next)(hg₁:∀j,H₁.get j=if j=i then some (.cells cs e' false false) else H.get j)
 (hn₂:H₂.next=H₁.next+1)(hg₂:∀j,H₂.get j=if j=H₁.next then some (.cells nw e false true) else H₁.get j)
 (hs:w'.heap.size=w.heap.size)(hother:∀c,c≠b→w'.heap[c]? =w.heap[c]?)(hb:w'.heap[b]? =some (.cells arr e' (0,0)))
 (hkeep:∀k,k<o+cs.length→∀arr₀ e₀ fz₀,w.heap[b]? =some (.cells arr₀ e₀ fz₀)→arr[k]? =arr₀[k]?)
 (hsz:∀arr₀ e₀ fz₀,w.heap[b]? =some (.cells arr₀ e₀ fz₀)→arr₀.size=arr.size)
 (he:e=e')(hlen:cs.length≤nw.length)(hfit:o+nw.length≤arr.size)
 (hnew:∀(k:Nat)(v:Value),nw[k]? =some v→∃v',arr[o+k]? =some v'∧VRel μ v v')
 (ht:w'.tape=w.tape)(hos:w'.os=w.os)(hou:w'.output=w.output):
 Rel H₂ (upd μ H.next (b,o) (μ.c i)) w'∧Ext H μ w H₂ (upd μ H.next (b,o) (μ.c i)) w':=by
 subst he
 have hold:∀j,j≠i→j<H.next→H₂.get j=H.get j:=fun j hj hlt=>by rw[hg₂,if_neg (by omega),hg₁,if_neg hj]
 have hin:H₂.get i=some (.cells cs e false false):=by rw[hg₂,if_neg (by have:=h.dom _ _ hi;omega),hg₁,if_pos rfl]
 have hnn:H₂.get H.next=some (.cells nw e false true):=by rw[hg₂,if_pos hn₁.symm]
 have hmono:=h.mono_new (b,o) (μ.c i)
 have ho0:o=0:=by
  obtain⟨x,hx1,hx2⟩:=h.obj i b o hi
  rw[hgi] at hx1
  cases hx1
  have hsm:=hx2.isSome
  revert hx2 hsm
  cases w.heap[b]? with
  |none=>intro _ h;cases h
  |some ob=>
   intro hx2 _
   cases ob with
   |cells arr e' fz=>exact hx2.2.2.2.2.2 rfl
   |_=>exact hx2.elim
 have hrow:∀cs' e'' ow' ap' o',(∀(k:Nat)(v:Value),True→True)→o'+cs'.length≤o+cs.length→ORel μ (.cells cs' e'' ow' ap') o' w.heap[b]?→
  (ow'||ap')=false→ORel (upd μ H.next (b,o) (μ.c i)) (.cells cs' e'' ow' ap') o' w'.heap[b]? :=by
  intro cs' e'' ow' ap' o' _ hle hx hfl
  have hsome:=hx.isSome
  revert hx hsome
  cases hwb:w.heap[b]? with
  |none=>intro _ h;cases h
  |some ob=>
   intro hx _
   cases ob with
   |cells arr₀ e₀ fz₀=>
    obtain⟨h1,h2,h3,h4⟩:=hx
    have hz:=hsz _ _ _ hwb
    rw[hb]
    obtain⟨x,hx1,hx2⟩:=h.obj i b o hi
    rw[hgi] at hx1
    cases hx1
    rw[hwb] at hx2
    refine⟨h1.trans hx2.1.symm,by omega,fun k v hk=> ?_,fun hh=>rfl,(fun hh=>absurd hfl (by rw[hh];simp)),fun hh=>absurd hfl (by rw[hh];simp)⟩
    obtain⟨v',hv1,hv2⟩:=h3 k v hk
    have hlt:k<cs'.length:=(List.getElem?_eq_some_iff.1 hk).1
    exact⟨v',by rw[hkeep (o'+k) (by omega) _ _ _ hwb];exact hv1,hv2.mono hmono⟩
   |_=>exact hx.elim
 have hlocked:∀j o',μ j=some (b,o')→j≠i→∃cs' e'',H.get j=some (.cells cs' e'' false false)∧o'+cs'.length≤o+cs.length:=
  fun j o' hj hne=>h.app i b o cs e ow hi hgi j o' hj hne
 constructor
 ·refine⟨?_,?_,?_,?_,?_,?_⟩
  ·intro j b' o' hj
   by_cases ej:j=H.next
   ·subst ej
    rw[upd_same] at hj
    cases hj
    refine⟨_,hnn,?_⟩
    rw[hb]
    exact⟨rfl,by omega,fun k v hk=>let ⟨v',h1,h2⟩:=hnew k v hk;⟨v',h1,h2.mono hmono⟩,fun _=>rfl,(fun hh=>by cases hh),fun _=>ho0⟩
   ·rw[upd_ne _ _ _ ej] at hj
    obtain⟨x,h1,h2⟩:=h.obj j b' o' hj
    by_cases eb:b'=b
    ·subst eb
     by_cases eji:j=i
     ·subst eji
      rw[hi] at hj
      cases hj
      rw[hgi] at h1
      cases h1
      refine⟨_,hin,hrow _ _ _ _ _ (fun _ _ _=>trivial) (Nat.le_refl _) ?_ rfl⟩
      have hsome:=h2.isSome
      revert h2 hsome
      cases w.heap[b']? with
      |none=>intro _ h;cases h
      |some ob'=>
       intro h2 _
       cases ob'<;>first|exact h2.elim|exact⟨h2.1,h2.2.1,h2.2.2.1,fun hh=>by simp at hh,(fun hh=>by cases hh),fun hh=>by cases hh⟩
     ·obtain⟨cs',e'',hg',hle⟩:=hlocked j o' hj eji
      rw[hg'] at h1
      cases h1
      exact⟨_,by rw[hold j eji (h.dom _ _ hj)];exact hg',hrow _ _ _ _ _ (fun _ _ _=>trivial) hle h2 rfl⟩
    ·have eji:j≠i:=by intro e;subst e;rw[hi] at hj;cases hj;exact eb rfl
     exact⟨x,by rw[hold j eji (h.dom _ _ hj)];exact h1,by rw[hother b' eb];exact h2.mono hmono⟩
  ·intro j p hj
   by_cases ej:j=H.next
   ·subst ej;omega
   ·rw[upd_ne _ _ _ ej] at hj
    have:=h.dom _ _ hj
    omega
  ·intro j b' o' cs' e'' app hj hgj k o'' hk
   by_cases ej:j=H.next
   ·subst ej;rw[hnn] at hgj;cases hgj
   ·rw[upd_ne _ _ _ ej] at hj
    by_cases eji:j=i
    ·subst eji;rw[hin] at hgj;cases hgj
    ·rw[hold j eji (h.dom _ _ hj)] at hgj
     by_cases ek:k=H.next
     ·subst ek
      rw[upd_same] at hk
      cases hk
      exact absurd (h.own j b o' cs' e'' app hj hgj i o hi) (fun e=>eji e.symm)
     ·rw[upd_ne _ _ _ ek] at hk
      exact h.own j b' o' cs' e'' app hj hgj k o'' hk
  ·intro j b' o' cs' e'' ow' hj hgj k o'' hk hkj
   by_cases ej:j=H.next
   ·subst ej
    rw[upd_same] at hj
    cases hj
    rw[hnn] at hgj
    cases hgj
    rw[upd_ne _ _ _ hkj] at hk
    by_cases eki:k=i
    ·subst eki
     rw[hi] at hk
     cases hk
     exact⟨cs,e,hin,by omega⟩
    ·obtain⟨cs'',e3,hg',hle⟩:=hlocked k o'' hk eki
     exact⟨cs'',e3,by rw[hold k eki (h.dom _ _ hk)];exact hg',by omega⟩
   ·rw[upd_ne _ _ _ ej] at hj
    by_cases eji:j=i
    ·subst eji;rw[hin] at hgj;cases hgj
    ·rw[hold j eji (h.dom _ _ hj)] at hgj
     have hbb:b'≠b:=by
      intro e
      subst e
      obtain⟨cs'',e3,hg',_⟩:=hlocked j o' hj eji
      rw[hg'] at hgj
      cases hgj
     have ek:k≠H.next:=by
      intro e
      subst e
      rw[upd_same] at hk
      cases hk
      exact hbb rfl
     rw[upd_ne _ _ _ ek] at hk
     have eki:k≠i:=by intro e;subst e;rw[hi] at hk;cases hk;exact hbb rfl
     obtain⟨cs'',e3,h1,h2⟩:=h.app j b' o' cs' e'' ow' hj hgj k o'' hk hkj
     exact⟨cs'',e3,by rw[hold k eki (h.dom _ _ hk)];exact h1,h2⟩
  ·intro j b' o' y hj hgj hy k o'' hk
   by_cases ej:j=H.next
   ·subst ej;rw[hnn] at hgj;cases hgj;exact absurd rfl (hy _ _ _ _)
   ·rw[upd_ne _ _ _ ej] at hj
    by_cases eji:j=i
    ·subst eji;rw[hin] at hgj;cases hgj;exact absurd rfl (hy _ _ _ _)
    ·rw[hold j eji (h.dom _ _ hj)] at hgj
     by_cases ek:k=H.next
     ·subst ek
      rw[upd_same] at hk
      cases hk
      exact absurd (h.oth j b o' y hj hgj hy i o hi) (fun e=>eji e.symm)
     ·rw[upd_ne _ _ _ ek] at hk
      exact h.oth j b' o' y hj hgj hy k o'' hk
  ·intro j b' o' cs' e'' ow' hj hgj arr' e3 fz hw
   by_cases ej:j=H.next
   ·subst ej
    rw[upd_same] at hj
    cases hj
    rw[hnn] at hgj
    cases hgj
    rw[hb] at hw
    cases hw
    rw[upd_c,upd_sz]
    obtain⟨x,hx1,hx2⟩:=h.obj i b o hi
    have hsome:=hx2.isSome
    rw[hgi] at hx1
    cases hx1
    cases hwb:w.heap[b]? with
    |none=>rw[hwb] at hsome;cases hsome
    |some ob=>
     rw[hwb] at hx2
     cases ob with
     |cells arr₀ e₀ fz₀=>
      have:=h.cap i b o cs _ ow hi hgi arr₀ e₀ fz₀ hwb
      rw[hsz _ _ _ hwb] at this
      exact this
     |_=>exact hx2.elim
   ·rw[upd_ne _ _ _ ej] at hj
    by_cases eji:j=i
    ·subst eji;rw[hin] at hgj;cases hgj
    ·rw[hold j eji (h.dom _ _ hj)] at hgj
     have hbb:b'≠b:=by
      intro e
      subst e
      obtain⟨cs'',e4,hg',_⟩:=hlocked j o' hj eji
      rw[hg'] at hgj
      cases hgj
     rw[hother b' hbb] at hw
     rw[upd_c_ne _ _ _ ej,upd_sz]
     exact h.cap j b' o' cs' e'' ow' hj hgj arr' e3 fz hw
 ·have hnl:¬lockedAt H i:=by
   rintro⟨y,h1,h2⟩
   rw[hgi] at h1
   cases h1
   cases ow<;>cases h2
  refine⟨hmono,by omega,by omega,?_,?_,?_,ht,hos,hou⟩
  ·intro b' _ hlk
   by_cases eb:b'=b
   ·subst eb;exact absurd (hlk i o hi) hnl
   ·exact hother b' eb
  ·intro j b' o' hj hb' hjl
   by_cases ej:j=H.next
   ·subst ej
    rw[upd_same] at hj
    cases hj
    exact⟨i,o,hi,hnl⟩
   ·rw[upd_ne _ _ _ ej] at hj
    by_cases eji:j=i
    ·subst eji;exact⟨j,o',hj,hnl⟩
    ·refine⟨j,o',hj,fun hl'=>hjl ?_⟩
     obtain⟨y,h1,h2⟩:=hl'
     exact⟨y,by rw[hold j eji (h.dom _ _ hj)];exact h1,h2⟩
  ·intro j hj hm
   have hji:j≠i:=by intro e;subst e;rw[hi] at hm;cases hm
   exact⟨by rw[upd_ne _ _ _ (Nat.ne_of_lt hj)];exact hm,hold j hji hj⟩
end
end
section
section
variable{P:Program}{μ:Mu}
theorem prun_run{α:Type}{s:Sem α}{a:α}(h:prun P s=some a)(w:World):s.run P w= .ok a w:=by
 induction s with
 |pure b=>simp[prun] at h;simp[h]
 |program k ih=>simp only[prun] at h;simpa [Sem.run] using ih P h
 |mark m k ih=>simp only[prun] at h;simpa [Sem.run] using ih h
 |choose q k ih=>
  simp only[prun] at h
  split at h
  ·rename_i hq
   simp only[Sem.run,hq,if_true]
   exact ih 0 h
  ·cases h
 |_=>simp[prun] at h
theorem run_v{s:Sem Value}{a:Value}{w w':World}(h:s.run P w= .ok a w'):(do pure (Next.value (←s)):Sem Next).run P w= .ok (.value a) w':=by
 simp[h,Result.andThen]
theorem run_und{t:TypeId}{d:TypeDesc}(h:P.underlying t=some d)(w:World):(underlying t).run P w= .ok d w:=by
 simp[underlying,program,h,Sem.run]
theorem prun_bind{α β:Type}(s:Sem α)(f:α→Sem β):prun P (s>>=f)=(prun P s).bind fun a=>prun P (f a):=by
 induction s with
 |pure a=>rfl
 |program k ih=>exact ih P
 |mark m k ih=>exact ih
 |choose q k ih=>
  show(if q.forced then prun P (k 0>>=f) else none)=_
  simp only[prun]
  split
  ·exact ih 0
  ·rfl
 |_=>rfl
theorem prun_map{α β:Type}(f:α→β)(s:Sem α):prun P (Functor.map f s)=(prun P s).map f:=by
 show prun P (s>>=fun a=>pure (f a))=_
 rw[prun_bind]
 cases prun P s<;>rfl
theorem prun_und(t:TypeId):prun P (underlying t)=P.underlying t:=by
 show prun P (underlying t)=_
 unfold underlying program
 simp only[Bind.bind,Sem.bind,prun]
 cases P.underlying t<;>rfl
theorem prun_pure{α:Type}(a:α):prun P (pure a:Sem α)=some a:=rfl
theorem ifPlain_some{r:Option Value}{v:Value}(h:ifPlain r=some v):r=some v∧plainV 4 v=true:=by
 cases r with
 |none=>cases h
 |some u=>
  simp only[ifPlain] at h
  cases hp:plainV 4 u with
  |true=>rw[hp] at h;simp at h;subst h;exact⟨rfl,hp⟩
  |false=>rw[hp] at h;simp at h
abbrev Gives(P:Program)(μ:Mu)(s:Sem Next)(v:Value):Prop:=∀w,∃v',s.run P w= .ok (.value v') w∧VRel μ v v'
theorem gives_plain{s s':Sem Value}{v:Value}(h:ifPlain (prun P s)=some v)(e:s'=s):Gives P μ (do pure (Next.value (←s'))) v:=by
 subst e
 obtain⟨h1,h2⟩:=ifPlain_some h
 exact fun w=>⟨v,run_v (prun_run h1 w),.plain 4 h2⟩
theorem cond_some{α:Type}{b:Bool}{r:Option α}{v:α}(h:(bif b then r else none)=some v):b=true∧r=some v:=by
 cases b with
 |true=>exact⟨rfl,h⟩
 |false=>cases h
theorem plain4_eq{v v':Value}(hp:plain4 v=true)(h:VRel μ v v'):v'=v:=h.inv_plain hp
theorem LRel.set{l l':List Value}(h:LRel μ l l')(k:Nat){v v':Value}(hv:VRel μ v v'):LRel μ (l.set k v) (l'.set k v'):=by
 induction l generalizing l' k with
 |nil=>cases h;exact .nil
 |cons x xs ih=>
  cases h with
  |cons hx t=>
   cases k with
   |zero=>exact .cons hv t
   |succ k=>exact .cons hx (ih t k)
theorem fold_set_rel(off:Nat):∀{l l':List Value}(j:Nat){cs cs':Array Value},LRel μ l l'→LRel μ cs.toList cs'.toList→
 LRel μ ((l.zipIdx j).foldl (fun(cs:Array Value)(p:Value×Nat)=>cs.setIfInBounds (off+p.2) p.1) cs).toList
  ((l'.zipIdx j).foldl (fun(cs:Array Value)(p:Value×Nat)=>cs.setIfInBounds (off+p.2) p.1) cs').toList:=by
 intro l
 induction l with
 |nil=>intro l' j cs cs' h hc;cases h;exact hc
 |cons x xs ih=>
  intro l' j cs cs' h hc
  cases h with
  |cons hv t=>
   simp only[List.zipIdx_cons,List.foldl_cons]
   refine ih (j+1) t ?_
   simp only[Array.toList_setIfInBounds]
   exact hc.set _ hv
theorem fill_rel(place:Nat→Option (Nat×Nat)):∀{ps ps':List (Nat×Value)}{cs cs':Array Value}{r:Array Value},
 ps.map (·.1)=ps'.map (·.1)→LRel μ (ps.map (·.2)) (ps'.map (·.2))→LRel μ cs.toList cs'.toList→Instr.fill place cs ps=some r→
 ∃r',Instr.fill place cs' ps'=some r'∧LRel μ r.toList r'.toList:=by
 intro ps
 induction ps with
 |nil=>
  intro ps' cs cs' r h1 h2 h3 h
  cases ps' with
  |nil=>simp[Instr.fill] at h;subst h;exact⟨cs',rfl,h3⟩
  |cons _ _=>simp at h1
 |cons p ps ih=>
  intro ps' cs cs' r h1 h2 h3 h
  cases ps' with
  |nil=>simp at h1
  |cons p' ps'=>
   obtain⟨i,v⟩:=p
   obtain⟨i',v'⟩:=p'
   simp at h1
   obtain⟨rfl,h1⟩:=h1
   cases h2 with
   |cons hv ht=>
    simp only[Instr.fill] at h⊢
    cases hp:place i with
    |none=>rw[hp] at h;cases h
    |some q=>
     obtain⟨off,size⟩:=q
     rw[hp] at h
     simp only at h⊢
     have hc:=hv.cells
     have e1:v'.cells.size=v.cells.size:=by have:=hc.length;simpa using this.symm
     have e2:cs'.size=cs.size:=by have:=h3.length;simpa using this.symm
     rw[e1,e2]
     split at h
     ·cases h
     ·rename_i hcond
      rw[if_neg hcond]
      refine ih h1 ht ?_ h
      have:=fold_set_rel (μ:=μ) off (l:=v.cells.toList) (l':=v'.cells.toList) 0 hc h3
      rw[←Array.foldl_toList,←Array.foldl_toList]
      simpa [Array.toList_zipIdx] using this
theorem zero_some{t:TypeId}{v:Value}(h:zero? P t=some v):∃i,P.info? t=some i∧i.zero=some v∧plainV 4 v=true:=by
 unfold zero? at h
 split at h
 ·rename_i i hi
  split at h
  ·rename_i v' hz
   cases hp:plainV 4 v' with
   |true=>rw[hp] at h;simp at h;subst h;exact⟨i,hi,hz,hp⟩
   |false=>rw[hp] at h;simp at h
  ·cases h
 ·cases h
theorem prun_zero{t:TypeId}{i:TypeInfo}{v:Value}(hi:P.info? t=some i)(hz:i.zero=some v):prun P (zeroValue t)=some v:=by
 simp[zeroValue,typeInfo,program,hi,hz,Bind.bind,Sem.bind,prun,pure]
theorem run_zero{t:TypeId}{i:TypeInfo}{v:Value}(hi:P.info? t=some i)(hz:i.zero=some v)(w:World):(zeroValue t).run P w= .ok v w:=
 prun_run (prun_zero hi hz) w
theorem plain_cells{v:Value}{n:Nat}(h:plainV n v=true):LRel μ v.cells.toList v.cells.toList:=(VRel.plain n h).cells
theorem build_rel{t:TypeId}{ps ps':List (Nat×Value)}{v:Value}(h1:ps.map (·.1)=ps'.map (·.1))(h2:LRel μ (ps.map (·.2)) (ps'.map (·.2)))
 (hz:(zero? P t).isSome=true)(h:prun P (Instr.build t ps.toArray)=some v):∃v',prun P (Instr.build t ps'.toArray)=some v'∧VRel μ v v':=by
 obtain⟨z,hz⟩:=Option.isSome_iff_exists.1 hz
 obtain⟨i,hi,hzz,hp⟩:=zero_some hz
 unfold Instr.build at h⊢
 simp only[prun_bind,prun_zero hi hzz,Option.bind_some,prun_und] at h⊢
 cases hu:P.underlying t with
 |none=>rw[hu] at h;cases h
 |some d=>
  rw[hu] at h
  simp only[Option.bind_some] at h⊢
  cases d with
  |struct fields=>
   simp only[prun_bind] at h⊢
   cases hpl:prun P (fields.mapM fun f=>do pure (f.offset,←sizeOf f.type)) with
   |none=>rw[hpl] at h;cases h
   |some places=>
    rw[hpl] at h
    simp only[Option.bind_some] at h⊢
    cases hf:Instr.fill (fun x=>places[x]?) z.cells ps with
    |none=>rw[hf] at h;cases h
    |some r=>
     rw[hf] at h
     obtain⟨r',hr',hl⟩:=fill_rel _ h1 h2 (plain_cells hp) hf
     rw[hr']
     simp[prun_pure] at h
     subst h
     exact⟨_,rfl,.agg hl⟩
  |array len elem=>
   simp only[prun_bind] at h⊢
   cases hs:prun P (sizeOf elem) with
   |none=>rw[hs] at h;cases h
   |some size=>
    rw[hs] at h
    simp only[Option.bind_some] at h⊢
    cases hf:Instr.fill (fun i=>some (i*size,size)) z.cells ps with
    |none=>rw[hf] at h;cases h
    |some r=>
     rw[hf] at h
     obtain⟨r',hr',hl⟩:=fill_rel _ h1 h2 (plain_cells hp) hf
     rw[hr']
     simp[prun_pure] at h
     subst h
     exact⟨_,rfl,.agg hl⟩
  |_=>cases h
end
end
section
section
variable{P:Program}{μ:Mu}
theorem prun_part{t:TypeId}{cs cs':Array Value}{off:Nat}{v:Value}(hc:LRel μ cs.toList cs'.toList)(h:prun P (part t cs off)=some v):
 ∃v',prun P (part t cs' off)=some v'∧VRel μ v v':=by
 unfold part at h⊢
 simp only[prun_bind] at h⊢
 cases ha:prun P (isAgg t) with
 |none=>rw[ha] at h;cases h
 |some b=>
  rw[ha] at h
  simp only[Option.bind_some] at h⊢
  cases b with
  |true=>
   simp only[if_true,prun_bind] at h⊢
   cases hs:prun P (sizeOf t) with
   |none=>rw[hs] at h;cases h
   |some n=>
    rw[hs] at h
    simp[prun_pure] at h⊢
    subst h
    have:LRel μ (cs.extract off (off+n)).toList (cs'.extract off (off+n)).toList:=by
     simp only[Array.toList_extract,List.extract_eq_take_drop]
     exact(hc.drop _).take _
    exact .agg this
  |false=>
   simp only[Bool.false_eq_true,if_false] at h⊢
   cases hg:cs[off]? with
   |none=>rw[hg] at h;cases h
   |some u=>
    rw[hg] at h
    simp[prun_pure] at h
    subst h
    obtain⟨u',hu',hv⟩:=hc.at off u (by simpa using hg)
    rw[show cs'[off]? =some u' from by simpa using hu']
    exact⟨u',rfl,hv⟩
theorem field_rel{t:TypeId}{x x' v:Value}{f:Nat}(hx:VRel μ x x')(h:prun P (Instr.field t x f)=some v):
 ∃v',prun P (Instr.field t x' f)=some v'∧VRel μ v v':=by
 unfold Instr.field at h⊢
 simp only[prun_bind,prun_und] at h⊢
 cases hu:P.underlying t with
 |none=>rw[hu] at h;cases h
 |some d=>
  rw[hu] at h
  simp only[Option.bind_some] at h⊢
  cases d with
  |struct fields=>
   simp only at h⊢
   cases hf:fields[f]? with
   |none=>rw[hf] at h;cases h
   |some fd=>
    rw[hf] at h
    simp only[prun_bind] at h⊢
    cases x with
    |agg cs=>
     obtain⟨cs',rfl,hl⟩:=hx.inv_agg
     exact prun_part hl (by simpa [asAgg,prun_pure] using h)
    |_=>cases h
  |_=>cases h
theorem extract_rel{x x' v:Value}{i:Nat}(hx:VRel μ x x')(h:prun P (Instr.extract x i)=some v):
 ∃v',prun P (Instr.extract x' i)=some v'∧VRel μ v v':=by
 unfold Instr.extract at h⊢
 cases x with
 |tuple cs=>
  obtain⟨cs',rfl,hl⟩:=hx.inv_tuple
  simp only at h⊢
  cases hg:cs[i]? with
  |none=>rw[hg] at h;cases h
  |some u=>
   rw[hg] at h
   simp[prun_pure] at h
   subst h
   obtain⟨u',hu',hv⟩:=hl.at i u (by simpa using hg)
   rw[show cs'[i]? =some u' from by simpa using hu']
   exact⟨u',rfl,hv⟩
 |_=>cases h
theorem kEq_eq{k k':IntKind}(h:kEq k k'=true):k=k':=by cases k<;>cases k'<;>first|rfl|cases h
theorem fInt_run{op:BinOp}{f:IntKind→Int→IntKind→Int→Option Value}{k k':IntKind}{n m:Int}{v:Value}(hf:fInt op=some f)
 (h:f k n k' m=some v)(t:TypeId):prun P (binOp op t (.int k n) (.int k' m))=some v∧plainV 4 v=true:=by
 have key:∀r:Value,(bif kEq k k' then some r else none)=some v→k=k'∧v=r:=by
  intro r hr
  obtain⟨h1,h2⟩:=cond_some hr
  exact⟨kEq_eq h1,by simpa using h2.symm⟩
 cases op<;>simp[fInt] at hf<;>subst hf<;>
  (obtain⟨rfl,rfl⟩:=key _ h;exact⟨by simp[binOp,Op.intArith,Op.intCmp,prun_pure],rfl⟩)
theorem eqGuard_int(op:BinOp)(t:TypeId)(x y:Operand)(k k':IntKind)(n m:Int):prun P (eqGuard op t x y (.int k n) (.int k' m))=some ():=by
 unfold eqGuard
 split<;>rfl
theorem bin_of_plain{op:BinOp}{t:TypeId}{x y:Operand}{a b a' b' v:Value}(hpa:plain4 a=true)(hpb:plain4 b=true)(ha:VRel μ a a')(hb:VRel μ b b')
 (h:ifPlain (prun P (do eqGuard op t x y a b;binOp op t a b))=some v):Gives P μ (do pure (Next.value (←(do eqGuard op t x y a' b';binOp op t a' b')))) v:=by
 rw[plain4_eq hpa ha,plain4_eq hpb hb]
 exact gives_plain h rfl
section
variable{t:TypeId}{w:World}
theorem eqn_ptr1{e:TypeId}(hu:P.underlying t=some (.pointer e))(a:Addr):(Op.equal t (.pointer (some a)) (.pointer none)).run P w= .ok false w:=by
 have h:∀d:Nat,(Op.equalIn (d+1) t (.pointer (some a)) (.pointer none)).run P w= .ok false w:=fun d=>by simp[Op.equalIn,run_und hu]
 exact h 9999
theorem eqn_ptr2{e:TypeId}(hu:P.underlying t=some (.pointer e))(a:Addr):(Op.equal t (.pointer none) (.pointer (some a))).run P w= .ok false w:=by
 have h:∀d:Nat,(Op.equalIn (d+1) t (.pointer none) (.pointer (some a))).run P w= .ok false w:=fun d=>by simp[Op.equalIn,run_und hu]
 exact h 9999
theorem eqn_slice1{e:TypeId}(hu:P.underlying t=some (.slice e))(a:Addr)(n m n' m':Nat):(Op.equal t (.slice (some a) n m) (.slice none n' m')).run P w= .ok false w:=by
 have h:∀d:Nat,(Op.equalIn (d+1) t (.slice (some a) n m) (.slice none n' m')).run P w= .ok false w:=fun d=>by simp[Op.equalIn,run_und hu]
 exact h 9999
theorem eqn_slice2{e:TypeId}(hu:P.underlying t=some (.slice e))(a:Addr)(n m n' m':Nat):(Op.equal t (.slice none n' m') (.slice (some a) n m)).run P w= .ok false w:=by
 have h:∀d:Nat,(Op.equalIn (d+1) t (.slice none n' m') (.slice (some a) n m)).run P w= .ok false w:=fun d=>by simp[Op.equalIn,run_und hu]
 exact h 9999
theorem eqn_func1{p r:Array TypeId}{vr:Bool}(hu:P.underlying t=some (.func p r vr))(f:Fn)(a b:Array Value):(Op.equal t (.func f a b) .nilFunc).run P w= .ok false w:=by
 have h:∀d:Nat,(Op.equalIn (d+1) t (.func f a b) .nilFunc).run P w= .ok false w:=fun d=>by simp[Op.equalIn,run_und hu]
 exact h 9999
theorem eqn_func2{p r:Array TypeId}{vr:Bool}(hu:P.underlying t=some (.func p r vr))(f:Fn)(a b:Array Value):(Op.equal t .nilFunc (.func f a b)).run P w= .ok false w:=by
 have h:∀d:Nat,(Op.equalIn (d+1) t .nilFunc (.func f a b)).run P w= .ok false w:=fun d=>by simp[Op.equalIn,run_und hu]
 exact h 9999
end
theorem eql_gives{t:TypeId}{x y:Operand}{a b:Value}{w:World}(he:(Op.equal t a b).run P w= .ok false w)(hg:∀op,prun P (eqGuard op t x y a b)=some ())
 (hb:binOp .eql t a b=(do pure (.bool (←Op.equal t a b))))(hb':binOp .neq t a b=(do pure (.bool (!(←Op.equal t a b))))):
 (do pure (Next.value (←(do eqGuard .eql t x y a b;binOp .eql t a b))):Sem Next).run P w= .ok (.value (.bool false)) w∧
 (do pure (Next.value (←(do eqGuard .neq t x y a b;binOp .neq t a b))):Sem Next).run P w= .ok (.value (.bool true)) w:=by
 constructor
 ·refine run_v ?_
  rw[Sem.run_bind,prun_run (hg .eql) w,Result.andThen_ok,hb,Sem.run_bind,he,Result.andThen_ok]
  rfl
 ·refine run_v ?_
  rw[Sem.run_bind,prun_run (hg .neq) w,Result.andThen_ok,hb',Sem.run_bind,he,Result.andThen_ok]
  rfl
theorem nilCmp_gives{op:BinOp}{t:TypeId}{x y:Operand}{a b a' b' v:Value}(ha:VRel μ a a')(hb:VRel μ b b')(h:nilCmp P op t a b=some v):
 Gives P μ (do pure (Next.value (←(do eqGuard op t x y a' b';binOp op t a' b')))) v:=by
 have hg:∀(a b:Value),(a≠.nilIface)→(∀c,a≠.agg c)→∀op,prun P (eqGuard op t x y a b)=some ():=by
  intro a b h1 h2 op
  cases a<;>first|exact absurd rfl h1|exact absurd rfl (h2 _)|(unfold eqGuard;cases op<;>rfl)
 unfold nilCmp at h
 split at h<;>simp only[Option.some.injEq,reduceCtorEq] at h<;>subst h<;>rename_i hu<;>intro w<;>refine⟨_,?_,.bool _⟩
 case h_1=>obtain⟨_,_,_,_,rfl⟩:=VRel.inv_ptr ha;obtain rfl:=VRel.inv_ptr_none hb;exact(eql_gives (eqn_ptr1 hu _) (hg _ _ (by simp) (by simp)) rfl rfl).1
 case h_2=>obtain⟨_,_,_,_,rfl⟩:=VRel.inv_ptr hb;obtain rfl:=VRel.inv_ptr_none ha;exact(eql_gives (eqn_ptr2 hu _) (hg _ _ (by simp) (by simp)) rfl rfl).1
 case h_3=>obtain⟨_,_,rfl⟩:=VRel.inv_slice_some ha;obtain rfl:=VRel.inv_slice_none hb;exact(eql_gives (eqn_slice1 hu _ _ _ _ _) (hg _ _ (by simp) (by simp)) rfl rfl).1
 case h_4=>obtain⟨_,_,rfl⟩:=VRel.inv_slice_some hb;obtain rfl:=VRel.inv_slice_none ha;exact(eql_gives (eqn_slice2 hu _ _ _ _ _) (hg _ _ (by simp) (by simp)) rfl rfl).1
 case h_5=>obtain rfl:=VRel.inv_nilFunc hb;cases ha<;>exact(eql_gives (eqn_func1 hu _ _ _) (hg _ _ (by simp) (by simp)) rfl rfl).1
 case h_6=>obtain rfl:=VRel.inv_nilFunc ha;cases hb<;>exact(eql_gives (eqn_func2 hu _ _ _) (hg _ _ (by simp) (by simp)) rfl rfl).1
 case h_7=>obtain⟨_,_,_,_,rfl⟩:=VRel.inv_ptr ha;obtain rfl:=VRel.inv_ptr_none hb;exact(eql_gives (eqn_ptr1 hu _) (hg _ _ (by simp) (by simp)) rfl rfl).2
 case h_8=>obtain⟨_,_,_,_,rfl⟩:=VRel.inv_ptr hb;obtain rfl:=VRel.inv_ptr_none ha;exact(eql_gives (eqn_ptr2 hu _) (hg _ _ (by simp) (by simp)) rfl rfl).2
 case h_9=>obtain⟨_,_,rfl⟩:=VRel.inv_slice_some ha;obtain rfl:=VRel.inv_slice_none hb;exact(eql_gives (eqn_slice1 hu _ _ _ _ _) (hg _ _ (by simp) (by simp)) rfl rfl).2
 case h_10=>obtain⟨_,_,rfl⟩:=VRel.inv_slice_some hb;obtain rfl:=VRel.inv_slice_none ha;exact(eql_gives (eqn_slice2 hu _ _ _ _ _) (hg _ _ (by simp) (by simp)) rfl rfl).2
 case h_11=>obtain rfl:=VRel.inv_nilFunc hb;cases ha<;>exact(eql_gives (eqn_func1 hu _ _ _) (hg _ _ (by simp) (by simp)) rfl rfl).2
 case h_12=>obtain rfl:=VRel.inv_nilFunc ha;cases hb<;>exact(eql_gives (eqn_func2 hu _ _ _) (hg _ _ (by simp) (by simp)) rfl rfl).2
theorem valBin_gives{op:BinOp}{t:TypeId}{x y:Operand}{a b a' b' v:Value}(ha:VRel μ a a')(hb:VRel μ b b')(h:valBin P op t x y a b=some v):
 Gives P μ (do pure (Next.value (←(do eqGuard op t x y a' b';binOp op t a' b')))) v:=by
 have slow:∀a b,VRel μ a a'→VRel μ b b'→slowBin P op t x y a b=some v→
  Gives P μ (do pure (Next.value (←(do eqGuard op t x y a' b';binOp op t a' b')))) v:=by
  intro a b ha hb h
  unfold slowBin at h
  cases hp:(plain4 a&&plain4 b) with
  |true=>
   rw[hp] at h
   rw[Bool.and_eq_true] at hp
   exact bin_of_plain hp.1 hp.2 ha hb h
  |false=>
   rw[hp] at h
   exact nilCmp_gives ha hb h
 cases a with
 |int k n=>
  simp only[valBin] at h
  cases b with
  |int k' m=>
   simp only[intBin] at h
   cases hf:fInt op with
   |none=>rw[hf] at h;exact slow _ _ ha hb h
   |some f=>
    rw[hf] at h
    obtain rfl:=ha.inv_int
    obtain rfl:=hb.inv_int
    obtain⟨h1,h2⟩:=fInt_run (P:=P) hf h t
    refine fun w=>⟨v,run_v (prun_run ?_ w),.plain 4 h2⟩
    rw[prun_bind,eqGuard_int]
    exact h1
  |_=>exact slow _ _ ha hb h
 |_=>exact slow _ _ ha hb h
end
end
end Go.Eng
