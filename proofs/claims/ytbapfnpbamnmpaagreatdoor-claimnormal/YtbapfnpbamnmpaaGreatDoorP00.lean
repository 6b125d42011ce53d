/- A part of the proof that the text which Print makes of a parsed text is a normal form -/
import Derived.WalkKit
import Derived.Tactics
import Derived.Test.YtbapfnpbamnmpaaGreatDoorProg
import Derived.LoopTactic
import Derived.Deep.QuietTactic
import Derived.BigQuiet
import Derived.Outline
import Derived.Lib.Hide
import Derived.WalkLawsBesides
import Derived.WalkSpells
import Derived.Deep.Heap
import Derived.Deep.RegionHeld3
set_option maxHeartbeats 8000000
set_option maxRecDepth 100000
namespace Go.Dig
end Go.Dig
namespace Go.Eng
end Go.Eng
namespace Go.RowKit
end Go.RowKit
namespace Go.Deep
end Go.Deep
namespace Go
open Go.RowKit Go.Dig Go.Deep Go.Eng
theorem aU(n:Nat):n<=n:=Nat.le_refl n
theorem cU{p:Prop} [Decidable p](h:p):decide p=true:=decide_eq_true h
theorem gy{p:Prop} [Decidable p](h:¬p):decide p=false:=decide_eq_false h
theorem gJ{α:Type}{xs ys:List α}:(xs++ys).length=xs.length+ys.length:=List.length_append
theorem fv(a b:Bool):((a&&b)=true)=(a=true/\b=true):=Bool.and_eq_true a b
theorem iZ:false≠true:=Bool.false_ne_true
theorem jf{n m k:Nat}(h:n<m)(a:m<=k):n<k:=Nat.lt_of_lt_of_le h a
theorem nW{α:Type}{l:List α}{i:Nat}(h:i<l.length):l[i]? =some l[i]:=List.getElem?_eq_getElem h
theorem kC{p:Prop} [Decidable p](h:decide p=true):p:=of_decide_eq_true h
theorem iG{α:Type}{a b:α}(h:some a=some b):a=b:=Option.some.inj h
theorem eo(n:Nat):0<=n:=Nat.zero_le n
theorem my{α:Type}{a:α}{l:List α}:a∈a::l:=List.mem_cons_self
theorem rG{α:Type}(y:α){a:α}{l:List α}(h:a∈l):a∈y::l:=List.mem_cons_of_mem y h
theorem oh{p:Prop} [Decidable p]:(decide p=true)=p:=decide_eq_true_eq
theorem nK{α:Type}{a:α}{xs:List α}:(a::xs).length=xs.length+1:=List.length_cons
theorem jP{n m k:Nat}(h:n<=m)(a:m<=k):n<=k:=Nat.le_trans h a
theorem vy{α:Type} [BEq α] [LawfulBEq α]{a b:α}(h:a≠b):(a==b)=false:=beq_false_of_ne h
theorem lp(n:Nat):0+n=n:=Nat.zero_add n
theorem nU{α:Type}{a:α}:¬a∈[]:=List.not_mem_nil
theorem rU{α:Type}(xs ys zs:List α):xs++ys++zs=xs++(ys++zs):=List.append_assoc xs ys zs
theorem wC{m n:Nat}(k:Nat)(h:m<=n):m*k<=n*k:=Nat.mul_le_mul_right k h
end Go
namespace Go.Eng
open Go Go.RowKit Go.Dig Go.Deep
structure aa(w w':World):Prop where
 size:w.heap.size<=w'.heap.size
 old:∀b,b<w.heap.size->w'.heap[b]? =w.heap[b]?
 tape:w'.tape=w.tape
 os:w'.os=w.os
 output:w'.output=w.output
theorem aa.refl(w:World):aa w w:=⟨aU _,λ _ _=>rfl,rfl,rfl,rfl⟩
theorem aa.trans{w w1 w2:World}(h:aa w w1)(k:aa w1 w2):aa w w2:=
 ⟨jP h.size k.size,λ b hb=>(k.old b (jf hb h.size)).trans (h.old b hb),k.tape.trans h.tape,k.os.trans h.os,k.output.trans h.output⟩
theorem aa.alloc{w w1:World}(h:aa w w1)(o:Obj):aa w (w1.alloc o):=by
 refine h.trans ⟨?_,?_,rfl,rfl,rfl⟩
 ·show w1.heap.size<=(w1.heap.push o).size;simp
 ·intro b hb;show(w1.heap.push o)[b]? =_;simp[Array.getElem?_push,Nat.ne_of_lt hb]
theorem aa.drewN{w w1:World}(h:aa w w1)(n:Nat):aa w (w1.drewN n):=⟨h.size,h.old,h.tape,h.os,h.output⟩
theorem aa.drew{w w1:World}(h:aa w w1):aa w w1.drew:=⟨h.size,h.old,h.tape,h.os,h.output⟩
theorem aa.cell{w w':World}(h:aa w w'){a:Addr}{v:Value}(hc:w.cell? a=some v):w'.cell? a=some v:=by
 have hb:a.block<w.heap.size:=World.block_lt_of_cell? w a hc;unfold World.cell? at hc⊢;simp only[h.old _ hb]
 exact hc
theorem aa.setCell{w w1:World}(h:aa w w1){a:Addr}(ha:w.heap.size<=a.block)(v:Value):aa w (w1.setCell a v):=by
 refine⟨?_,?_,h.tape,h.os,h.output⟩
 ·show w.heap.size<=(w1.heap.modify _ _).size;rw[Array.size_modify];exact h.size
 ·intro b hb;show(w1.heap.modify _ _)[b]? =_;rw[Array.getElem?_modify,if_neg (by omega)]
  exact h.old b hb
def KW(w:World):Type:={w':World//aa w w'}
def KW.w{w:World}(k:KW w):World:=k.1
theorem KW.kept{w:World}(k:KW w):aa w k.w:=k.2
def KW.mk{w w':World}(h:aa w w'):KW w:=⟨w',h⟩
instance KW.nonempty(w:World):Nonempty (KW w):=⟨KW.mk (aa.refl w)⟩
theorem ag{P:Program}{id:Nat}{Q:Exit->Act->World->Prop}{a:Act}{w:World}{l:List Oper}(w0:World)(b:aa w0 w)(hm:P.follows .mixedOrders=true)(c:Region.lexB .any l.toArray=true)
 (h:wpQuiet P l.toArray (λ w'=>∃k:KW w0,w'=k.w) (λ a'=>∀w',(∃k:KW w0,w'=k.w)->Q .normal a' w') l a):(Code.region id l.toArray true).wp P Q a w:=
 wp_region_quiet (C:=λ w'=>∃k:KW w0,w'=k.w) hm c ⟨KW.mk (b.drew),rfl⟩ (by simpa using h)
theorem aG{P:Program}{f:FuncId}{args:Array Value}{w0:World}{k:KW w0}{v:Value}
 (h:Calls P f args k.w λ e w'=>e= .returned v/\aa k.w w'):Calls P f args k.w λ e a=>e= .returned v/\∃k':KW w0,a=k'.w:=
 h.mono λ _ _ ⟨he,hm⟩=>⟨he,KW.mk (k.kept.trans hm),rfl⟩
structure af(w w':World)(b:Nat):Prop where
 size:w.heap.size<=w'.heap.size
 old:∀c,c<w.heap.size->c≠b->w'.heap[c]? =w.heap[c]?
 tape:w'.tape=w.tape
 os:w'.os=w.os
 output:w'.output=w.output
theorem af.refl(w:World)(b:Nat):af w w b:=⟨aU _,λ _ _ _=>rfl,rfl,rfl,rfl⟩
theorem af.drewN{w w1:World}{b:Nat}(h:af w w1 b)(n:Nat):af w (w1.drewN n) b:=⟨h.size,h.old,h.tape,h.os,h.output⟩
theorem af.cell{w w':World}{b:Nat}(h:af w w' b){a:Addr}{v:Value}(hc:w.cell? a=some v)(hb:a.block≠b):w'.cell? a=some v:=by
 have c:a.block<w.heap.size:=World.block_lt_of_cell? w a hc;unfold World.cell? at hc⊢;simp only[h.old _ c hb]
 exact hc
theorem af.setCell{w w1:World}{a:Addr}{b:Nat}(h:af w w1 b)(ha:a.block=b)(v:Value):af w (w1.setCell a v) b:=by
 refine⟨?_,?_,h.tape,h.os,h.output⟩
 ·show w.heap.size<=(w1.heap.modify _ _).size;rw[Array.size_modify];exact h.size
 ·intro c hc d;show(w1.heap.modify _ _)[c]? =_;rw[Array.getElem?_modify,if_neg (by omega)]
  exact h.old c hc d
theorem aa.but{w w1 w2:World}{b:Nat}(h:aa w w1)(k:af w1 w2 b)(hb:w.heap.size<=b):aa w w2:=
 ⟨jP h.size k.size,λ c hc=>(k.old c (jf hc h.size) (by omega)).trans (h.old c hc),k.tape.trans h.tape,k.os.trans h.os,k.output.trans h.output⟩
theorem af.aR{w w1 w2:World}{b:Nat}(h:af w w1 b)(k:aa w1 w2):af w w2 b:=
 ⟨jP h.size k.size,λ c hc a=>(k.old c (jf hc h.size)).trans (h.old c hc a),k.tape.trans h.tape,k.os.trans h.os,k.output.trans h.output⟩
theorem af.cX{w w1 w2:World}{b:Nat}(h:af w w1 b)(k:af w1 w2 b):af w w2 b:=
 ⟨jP h.size k.size,λ c hc a=>(k.old c (jf hc h.size) a).trans (h.old c hc a),k.tape.trans h.tape,k.os.trans h.os,k.output.trans h.output⟩
end Go.Eng
namespace Go.Proofs.YtbapfnpbamnmpaaGreatDoor
open Go Go.RowKit Go.Dig Go.Deep Go.Eng Go.Proofs.Tryz
variable{w:World}{b:Nat}{t:TypeId}{x0 x1 x2 x3 x4 x5 x6 x7:Value}
def aD(w:World)(b:Nat)(cs:Array Value)(t:TypeId):Prop:=w.heap[b]? =some (.cells cs t)
section
variable{w w':World}{b:Nat}{cs:Array Value}{t:TypeId}
theorem aD.new(w:World)(cs:Array Value)(t:TypeId):aD (w.alloc (.cells cs t)) w.heap.size cs t:=Go.Deep.blk_alloc_new _ _
theorem aD.lt(h:aD w b cs t):b<w.heap.size:=(Array.getElem?_eq_some_iff.1 h).1
theorem aD.kept(h:aD w b cs t)(k:aa w w'):aD w' b cs t:=(k.old b h.lt).trans h
theorem aD.ai{g:Nat}(h:aD w b cs t)(k:af w w' g)(hb:b≠g):aD w' b cs t:=(k.old b h.lt hb).trans h
theorem aD.cell(h:aD w b cs t)(i:Nat){v:Value}(hv:cs[i]? =some v):w.cell? ⟨b,i,none⟩=some v:=by
 unfold aD at h;simp[World.cell?,h,hv]
theorem aD.frozen(h:aD w b cs t)(i:Nat):w.frozen? ⟨b,i,none⟩=false:=by
 unfold aD at h;simp[World.frozen?,h]
theorem aD.set(h:aD w b cs t)(i:Nat)(v:Value):aD (w.setCell ⟨b,i,none⟩ v) b (cs.setIfInBounds i v) t:=by
 unfold aD at*;simp[World.setCell,Array.getElem?_modify,h]
end
theorem aD.rp(h:aD w b #[x0] t):w.cell? ⟨b,0,none⟩=some x0/\w.frozen? ⟨b,0,none⟩=false:=
 ⟨h.cell 0 rfl,h.frozen 0⟩
theorem aD.jK(h:aD w b #[x0,x1,x2,x3,x4,x5,x6] t):w.cell? ⟨b,0,none⟩=some x0/\w.cell? ⟨b,1,none⟩=some x1/\w.cell? ⟨b,2,none⟩=some x2/\w.cell? ⟨b,3,none⟩=some x3/\w.cell? ⟨b,4,none⟩=some x4/\w.cell? ⟨b,5,none⟩=some x5/\w.cell? ⟨b,6,none⟩=some x6/\w.frozen? ⟨b,0,none⟩=false/\w.frozen? ⟨b,1,none⟩=false/\w.frozen? ⟨b,2,none⟩=false/\w.frozen? ⟨b,3,none⟩=false/\w.frozen? ⟨b,4,none⟩=false/\w.frozen? ⟨b,5,none⟩=false/\w.frozen? ⟨b,6,none⟩=false:=
 ⟨h.cell 0 rfl,h.cell 1 rfl,h.cell 2 rfl,h.cell 3 rfl,h.cell 4 rfl,h.cell 5 rfl,h.cell 6 rfl,h.frozen 0,h.frozen 1,h.frozen 2,h.frozen 3,h.frozen 4,h.frozen 5,h.frozen 6⟩
theorem aD.GO(h:aD w b #[x0,x1,x2,x3,x4,x5,x6,x7] t):w.cell? ⟨b,0,none⟩=some x0/\w.cell? ⟨b,1,none⟩=some x1/\w.cell? ⟨b,2,none⟩=some x2/\w.cell? ⟨b,3,none⟩=some x3/\w.cell? ⟨b,4,none⟩=some x4/\w.cell? ⟨b,5,none⟩=some x5/\w.cell? ⟨b,6,none⟩=some x6/\w.cell? ⟨b,7,none⟩=some x7/\w.frozen? ⟨b,0,none⟩=false/\w.frozen? ⟨b,1,none⟩=false/\w.frozen? ⟨b,2,none⟩=false/\w.frozen? ⟨b,3,none⟩=false/\w.frozen? ⟨b,4,none⟩=false/\w.frozen? ⟨b,5,none⟩=false/\w.frozen? ⟨b,6,none⟩=false/\w.frozen? ⟨b,7,none⟩=false:=
 ⟨h.cell 0 rfl,h.cell 1 rfl,h.cell 2 rfl,h.cell 3 rfl,h.cell 4 rfl,h.cell 5 rfl,h.cell 6 rfl,h.cell 7 rfl,h.frozen 0,h.frozen 1,h.frozen 2,h.frozen 3,h.frozen 4,h.frozen 5,h.frozen 6,h.frozen 7⟩
theorem aD.ab6{x8:Value}(h:aD w b #[x0,x1,x2,x3,x4,x5,x6,x7,x8] t):w.cell? ⟨b,0,none⟩=some x0/\w.cell? ⟨b,1,none⟩=some x1/\w.cell? ⟨b,2,none⟩=some x2/\w.cell? ⟨b,3,none⟩=some x3/\w.cell? ⟨b,4,none⟩=some x4/\w.cell? ⟨b,5,none⟩=some x5/\w.cell? ⟨b,6,none⟩=some x6/\w.cell? ⟨b,7,none⟩=some x7/\w.cell? ⟨b,8,none⟩=some x8/\w.frozen? ⟨b,0,none⟩=false/\w.frozen? ⟨b,1,none⟩=false/\w.frozen? ⟨b,2,none⟩=false/\w.frozen? ⟨b,3,none⟩=false/\w.frozen? ⟨b,4,none⟩=false/\w.frozen? ⟨b,5,none⟩=false/\w.frozen? ⟨b,6,none⟩=false/\w.frozen? ⟨b,7,none⟩=false/\w.frozen? ⟨b,8,none⟩=false:=
 ⟨h.cell 0 rfl,h.cell 1 rfl,h.cell 2 rfl,h.cell 3 rfl,h.cell 4 rfl,h.cell 5 rfl,h.cell 6 rfl,h.cell 7 rfl,h.cell 8 rfl,h.frozen 0,h.frozen 1,h.frozen 2,h.frozen 3,h.frozen 4,h.frozen 5,h.frozen 6,h.frozen 7,h.frozen 8⟩
theorem aD.cO{x8 x9:Value}(h:aD w b #[x0,x1,x2,x3,x4,x5,x6,x7,x8,x9] t):w.cell? ⟨b,0,none⟩=some x0/\w.cell? ⟨b,1,none⟩=some x1/\w.cell? ⟨b,2,none⟩=some x2/\w.cell? ⟨b,3,none⟩=some x3/\w.cell? ⟨b,4,none⟩=some x4/\w.cell? ⟨b,5,none⟩=some x5/\w.cell? ⟨b,6,none⟩=some x6/\w.cell? ⟨b,7,none⟩=some x7/\w.cell? ⟨b,8,none⟩=some x8/\w.cell? ⟨b,9,none⟩=some x9/\w.frozen? ⟨b,0,none⟩=false/\w.frozen? ⟨b,1,none⟩=false/\w.frozen? ⟨b,2,none⟩=false/\w.frozen? ⟨b,3,none⟩=false/\w.frozen? ⟨b,4,none⟩=false/\w.frozen? ⟨b,5,none⟩=false/\w.frozen? ⟨b,6,none⟩=false/\w.frozen? ⟨b,7,none⟩=false/\w.frozen? ⟨b,8,none⟩=false/\w.frozen? ⟨b,9,none⟩=false:=
 ⟨h.cell 0 rfl,h.cell 1 rfl,h.cell 2 rfl,h.cell 3 rfl,h.cell 4 rfl,h.cell 5 rfl,h.cell 6 rfl,h.cell 7 rfl,h.cell 8 rfl,h.cell 9 rfl,h.frozen 0,h.frozen 1,h.frozen 2,h.frozen 3,h.frozen 4,h.frozen 5,h.frozen 6,h.frozen 7,h.frozen 8,h.frozen 9⟩
def aB(w:World)(S:Nat->Bool):World:={w with heap:=w.heap.mapIdx λ b o=>if S b then o else .cells #[] 0}
theorem fQ(w:World)(S:Nat->Bool)(a:Addr):(aB w S).cell? a=if S a.block then w.cell? a else none:=by
 unfold World.cell? aB;simp only[Array.getElem?_mapIdx]
 cases h:w.heap[a.block]? with
 |none=>simp
 |some o=>
  cases hs:S a.block
  ·simp
  ·simp
def nT(w w':World):Prop:=∀(a:Addr)(v:Value),w.cell? a=some v->w'.cell? a=some v
theorem nT.trans{w1 w2:World}(h:nT w w1)(k:nT w1 w2):nT w w2:=λ a v hc=>k a v (h a v hc)
theorem dP(w:World)(S:Nat->Bool):nT (aB w S) w:=by
 intro a v h;rw[fQ] at h;split at h
 ·exact h
 ·cases h
theorem au{w':World}{S S':Nat->Bool}(h:∀b,b<w.heap.size->S b=true->S' b=true/\w'.heap[b]? =w.heap[b]?):nT (aB w S) (aB w' S'):=by
 intro a v hc;rw[fQ] at hc⊢;split at hc
 ·rename_i hs;have c:a.block<w.heap.size:=World.block_lt_of_cell? w a hc;obtain⟨h1,h2⟩:=h _ c hs;rw[if_pos h1]
  unfold World.cell? at hc⊢;rw[h2]
  exact hc
 ·cases hc
def ab(n:Nat):Nat->Bool:=λ b=>decide (n<=b)
end Go.Proofs.YtbapfnpbamnmpaaGreatDoor
namespace Go.Dig
open Go Go.RowKit Go.Deep Go.Eng
def ak(B:Nat)(zs:Nat->Nat):Nat->Nat
 |0=>0
 |k+1=>ak B zs k+zs k*B^k
def tQ(zs:Nat->Nat)(n:Nat):Prop:=n=0∨zs (n-1)≠0
def bN(m k:Nat):Int:=if m<k then -1 else if k<m then 1 else 0
theorem iU{B:Nat}{xs ys:Nat->Nat}:∀{n:Nat},(∀i,i<n->xs i=ys i)->ak B xs n=ak B ys n
 |0,_=>rfl
 |n+1,h=>by simp only[ak];rw[iU λ i hi=>h i (by omega),h n (by omega)]
theorem dJ{B:Nat}{zs:Nat->Nat}:∀{n:Nat},(∀i,i<n->zs i<B)->ak B zs n<B^n
 |0,_=>by simp[ak]
 |n+1,h=>by
  have h1:=dJ (n:=n) λ i hi=>h i (by omega)
  have h2:=h n (by omega)
  have h3:(zs n+1)*B^n<=B*B^n:=wC _ h2;rw[Nat.add_mul,Nat.one_mul] at h3;simp only[ak]
  rw[Nat.pow_succ,Nat.mul_comm (B^n)]
  omega
theorem Bo{B:Nat}{zs:Nat->Nat}{n:Nat}(hn:0<n)(h:zs (n-1)≠0):B^(n-1)<=ak B zs n:=by
 obtain⟨k,rfl⟩:∃k,n=k+1:=⟨n-1,by omega⟩
 simp only[Nat.add_sub_cancel] at*;simp only[ak]
 have:1*B^k<=zs k*B^k:=wC _ (by omega)
 omega
theorem lH{B:Nat}{xs ys:Nat->Nat}{n k:Nat}(b:0<B)(hx:∀i,i<n->xs i<B)(a:tQ ys k)(h:n<k):ak B xs n<ak B ys k:=by
 have h1:=dJ hx;have h2:=Bo (B:=B) (zs:=ys) (n:=k) (by omega) (by rcases a with h|h;omega;exact h)
 have h3:B^n<=B^(k-1):=Nat.pow_le_pow_right b (by omega)
 omega
def fP(xs ys:Nat->Nat):Nat->Int
 |0=>0
 |n+1=>if xs n<ys n then -1 else if ys n<xs n then 1 else fP xs ys n
theorem Bp{B:Nat}{xs ys:Nat->Nat}{n:Nat}(hx:∀i,i<n+1->xs i<B)(h:xs n<ys n):ak B xs (n+1)<ak B ys (n+1):=by
 have h1:=dJ (n:=n) λ i hi=>hx i (by omega)
 have h2:(xs n+1)*B^n<=ys n*B^n:=wC _ h;rw[Nat.add_mul,Nat.one_mul] at h2;simp only[ak]
 omega
theorem sr{B:Nat}{xs ys:Nat->Nat}:∀{n:Nat},(∀i,i<n->xs i<B)->(∀i,i<n->ys i<B)->fP xs ys n=bN (ak B xs n) (ak B ys n)
 |0,_,_=>by simp[fP,bN,ak]
 |n+1,hx,b=>by
  simp only[fP]
  by_cases h:xs n<ys n
  ·have:=Bp hx h;rw[if_pos h,bN,if_pos this]
  ·by_cases a:ys n<xs n
   ·have:=Bp b a;rw[if_neg h,if_pos a,bN,if_neg (by omega),if_pos this]
   ·have e:xs n=ys n:=by omega
    rw[if_neg h,if_neg a,sr (λ i hi=>hx i (by omega)) (λ i hi=>b i (by omega))]
    simp only[bN,ak,e,Nat.add_lt_add_iff_right]
def cC(zs:Nat->Nat):Nat->Nat
 |0=>0
 |n+1=>if zs n=0 then cC zs n else n+1
theorem gN(zs:Nat->Nat):∀n,cC zs n<=n
 |0=>aU _
 |n+1=>by
  simp only[cC]
  split
  ·have:=gN zs n;omega
  ·omega
theorem np(zs:Nat->Nat):∀n,tQ zs (cC zs n)
 |0=>.inl rfl
 |n+1=>by
  simp only[cC]
  split
  ·exact np zs n
  ·rename_i h;exact .inr (by simpa using h)
theorem pO(B:Nat)(zs:Nat->Nat):∀n,ak B zs (cC zs n)=ak B zs n
 |0=>rfl
 |n+1=>by
  simp only[cC]
  split
  ·rename_i h;rw[pO B zs n];simp[ak,h]
  ·rfl
def iy(b n:Nat):Nat:=b^n
theorem gw(b n:Nat):iy b n=b^n:=rfl
attribute [irreducible] iy
theorem jt(n:Nat):0<iy 2 n:=by rw[gw];exact Nat.pow_pos (by omega)
theorem mB(a b:Nat)(h:a<=b):iy 2 a<=iy 2 b:=by rw[gw,gw];exact Nat.pow_le_pow_right (by omega) h
theorem mK(n:Nat)(h:0<n):1<iy 2 n:=by rw[gw];exact Nat.one_lt_two_pow (by omega)
theorem tT(a b c:Nat)(h:a+b=c):iy 2 a*iy 2 b=iy 2 c:=by rw[gw,gw,gw,<-Nat.pow_add,h]
theorem SK(k n:Nat)(h:32*k=n):(4294967296:Nat)^k=iy 2 n:=by
 have e:(4294967296:Nat)=2^32:=by decide
 rw[gw,e,<-Nat.pow_mul,h]
theorem aeh(k n:Nat)(h:16*k=n):(65536:Nat)^k=iy 2 n:=by
 have e:(65536:Nat)=2^16:=by decide
 rw[gw,e,<-Nat.pow_mul,h]
theorem aaH{k n:Nat}(h:2^k<iy 2 n):k<n:=by
 rw[gw] at h;exact(Nat.pow_lt_pow_iff_right (by omega)).1 h
def eV:Nat:=iy 2 16384
theorem dC{B:Nat}{zs:Nat->Nat}{n L:Nat}(a:0<B)(hn:tQ zs n)(h:ak B zs n<B^L):n<=L:=by
 rcases hn with rfl|hn
 ·omega
 ·by_cases b:n=0
  ·omega
  ·have h1:=Bo (B:=B) (by omega) hn;have h2:B^(n-1)<B^L:=by omega
   by_cases h3:n<=L
   ·exact h3
   ·have:=Nat.pow_le_pow_right a (show L<=n-1 by omega)
    omega
theorem Zi{L:Nat}(h:L=512):4294967296^L=eV:=SK L 16384 (by omega)
theorem Zj{L:Nat}(h:L=1024):65536^L=eV:=aeh L 16384 (by omega)
theorem D3{zs:Nat->Nat}{n:Nat}(hn:tQ zs n)(h:ak 4294967296 zs n<eV):n<=512:=by
 obtain⟨L,a⟩:∃L,L=512:=⟨512,rfl⟩
 have:=dC (B:=4294967296) (L:=L) (by decide) hn (by rw[Zi a];exact h)
 omega
theorem Qu{zs:Nat->Nat}{n:Nat}(hn:tQ zs n)(h:ak 65536 zs n<eV):n<=1024:=by
 obtain⟨L,a⟩:∃L,L=1024:=⟨1024,rfl⟩
 have:=dC (B:=65536) (L:=L) (by decide) hn (by rw[Zj a];exact h)
 omega
def Bs(B:Nat):Prop:=B=65536∨B=4294967296
theorem Bs.pos{B:Nat}(h:Bs B):0<B:=by rcases h with rfl|rfl<;>omega
theorem cV{B:Nat}{zs:Nat->Nat}{n:Nat}(a:Bs B)(hn:tQ zs n)(h:ak B zs n<eV):n<=1024:=by
 rcases a with rfl|rfl
 ·exact Qu hn h
 ·have:=D3 hn h;omega
theorem oK{B:Nat}{zs:Nat->Nat}{n:Nat}(a:0<B)(hn:tQ zs n):ak B zs n=0↔n=0:=by
 constructor
 ·intro h;rcases hn with rfl|hn
  ·rfl
  ·by_cases b:n=0
   ·exact b
   ·have:=Bo (B:=B) (by omega) hn;have:=Nat.pow_pos (n:=n-1) a;omega
 ·rintro rfl;rfl
end Go.Dig
namespace Go.Proofs.YtbapfnpbamnmpaaGreatDoor
open Go Go.RowKit Go.Dig Go.Deep Go.Eng Go.Proofs.Tryz
section
variable{P:Program}{ops:Array Oper}{Q:Exit->Act->World->Prop}{S:World->Prop}{oi:Oper}{v:Value}{fuel:Nat}{listed:Array Bool}{a:Act}{w:World}
theorem tk(i:Nat)(h:wpAnyH P .any ops Q S fuel (listed.setIfInBounds i true) (a.put oi.dst v) w)
 (hi:ops[i]? =some oi:=by rfl)(hs:Region.noSelect ops=true:=by kernel_rfl)(hf:Region.free .any ops listed i=true:=by kernel_rfl)(hr:(Region.ready .any ops listed).contains i=true:=by kernel_rfl)
 (hQ:∀c a w,Q (.panic c) (a.put oi.dst v) w->Q (.panic c) a w:=by exact λ _ _ _ h=>h)
 (d:YieldsIf P ops S oi v a:=by exact Or.inl ⟨by rfl,by intro w b;(try dsimp only at b);(try simp only[f,e] at b);go_simp;first|done|with_reducible rfl⟩)(hS:S w:=by assumption):
 wpAnyH P .any ops Q S (fuel+1) listed a w:=wpAnyH_take hi hs hf hr hQ d hS h
theorem Ll(i:Nat)(h:∀b:Act->World->Prop,Shut (∀a w,S w->(S w->wpAnyH P .any ops Q S fuel (listed.setIfInBounds i true) a w)->b a w)->if Region.wanted oi (yielded ops a.tmps)=true then Oper.wp P oi a w b Q else b (a.put oi.dst undef) w)
 (hi:ops[i]? =some oi:=by rfl)(hr:Region.ready .any ops listed=[i]:=by kernel_rfl):wpAnyH P .any ops Q S (fuel+1) listed a w:=
 wpAnyH_ready hr (by simp) (AllReadyH.cons hi h AllReadyH.nil)
theorem rd2(i j:Nat){oj:Oper}(h:∀b:Act->World->Prop,Shut (∀a w,S w->(S w->wpAnyH P .any ops Q S fuel (listed.setIfInBounds i true) a w)->b a w)->if Region.wanted oi (yielded ops a.tmps)=true then Oper.wp P oi a w b Q else b (a.put oi.dst undef) w)
 (g:∀b:Act->World->Prop,Shut (∀a w,S w->(S w->wpAnyH P .any ops Q S fuel (listed.setIfInBounds j true) a w)->b a w)->if Region.wanted oj (yielded ops a.tmps)=true then Oper.wp P oj a w b Q else b (a.put oj.dst undef) w)
 (hi:ops[i]? =some oi:=by rfl)(c:ops[j]? =some oj:=by rfl)(hr:Region.ready .any ops listed=[i,j]:=by kernel_rfl):wpAnyH P .any ops Q S (fuel+1) listed a w:=
 wpAnyH_ready hr (by simp) (AllReadyH.cons hi h (AllReadyH.cons c g AllReadyH.nil))
end
end Go.Proofs.YtbapfnpbamnmpaaGreatDoor
