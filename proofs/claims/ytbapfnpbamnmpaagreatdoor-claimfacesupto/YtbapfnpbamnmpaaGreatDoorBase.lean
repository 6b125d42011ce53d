/- A part of the proof that ClaimFaces answers true for every input of bulk at most 1048576: conditions: the row's own. -/
import Derived.Test.YtbapfnpbamnmpaaGreatDoorProg
import Derived.WalkKit
import Derived.LoopTactic
import Derived.Deep.QuietTactic
import Derived.BigQuiet
import Derived.Outline
import Derived.Lib.Hide
import Derived.WalkLawsBesides
import Derived.WalkSpells
namespace Go.Eng
open Go
structure Kept(w w':World):Prop where
 size:w.heap.size≤w'.heap.size
 old:∀b,b<w.heap.size→w'.heap[b]? =w.heap[b]?
 tape:w'.tape=w.tape
 os:w'.os=w.os
 output:w'.output=w.output
theorem Kept.refl(w:World):Kept w w:=⟨Nat.le_refl _,fun _ _=>rfl,rfl,rfl,rfl⟩
theorem Kept.trans{w w1 w2:World}(h:Kept w w1)(k:Kept w1 w2):Kept w w2:=
 ⟨Nat.le_trans h.size k.size,fun b hb=>(k.old b (Nat.lt_of_lt_of_le hb h.size)).trans (h.old b hb),k.tape.trans h.tape,k.os.trans h.os,k.output.trans h.output⟩
theorem Kept.alloc{w w1:World}(h:Kept w w1)(o:Obj):Kept w (w1.alloc o):=by
 refine h.trans ⟨?_,?_,rfl,rfl,rfl⟩
 ·show w1.heap.size≤(w1.heap.push o).size
  simp
 ·intro b hb
  show(w1.heap.push o)[b]? =_
  simp[Array.getElem?_push,Nat.ne_of_lt hb]
theorem Kept.drewN{w w1:World}(h:Kept w w1)(n:Nat):Kept w (w1.drewN n):=⟨h.size,h.old,h.tape,h.os,h.output⟩
theorem Kept.drew{w w1:World}(h:Kept w w1):Kept w w1.drew:=⟨h.size,h.old,h.tape,h.os,h.output⟩
theorem Kept.cell{w w':World}(h:Kept w w'){a:Addr}{v:Value}(hc:w.cell? a=some v):w'.cell? a=some v:=by
 have hb:a.block<w.heap.size:=World.block_lt_of_cell? w a hc
 unfold World.cell? at hc⊢
 simp only[h.old _ hb]
 exact hc
theorem Kept.setCell{w w1:World}(h:Kept w w1){a:Addr}(ha:w.heap.size≤a.block)(v:Value):Kept w (w1.setCell a v):=by
 refine⟨?_,?_,h.tape,h.os,h.output⟩
 ·show w.heap.size≤(w1.heap.modify _ _).size
  rw[Array.size_modify];exact h.size
 ·intro b hb
  show(w1.heap.modify _ _)[b]? =_
  rw[Array.getElem?_modify,if_neg (by omega)]
  exact h.old b hb
def KW(w:World):Type:={w':World//Kept w w'}
def KW.w{w:World}(k:KW w):World:=k.1
theorem KW.kept{w:World}(k:KW w):Kept w k.w:=k.2
def KW.mk{w w':World}(h:Kept w w'):KW w:=⟨w',h⟩
instance KW.nonempty(w:World):Nonempty (KW w):=⟨KW.mk (Kept.refl w)⟩
theorem wp_region_kw{P:Program}{id:Nat}{Q:Exit→Act→World→Prop}{a:Act}{w:World}{l:List Oper}(w0:World)(hk:Kept w0 w)(hm:P.follows .mixedOrders=true)(hB:Region.lexB .any l.toArray=true)
 (h:wpQuiet P l.toArray (fun w'=>∃k:KW w0,w'=k.w) (fun a'=>∀w',(∃k:KW w0,w'=k.w)→Q .normal a' w') l a):(Code.region id l.toArray true).wp P Q a w:=
 wp_region_quiet (C:=fun w'=>∃k:KW w0,w'=k.w) hm hB ⟨KW.mk (hk.drew),rfl⟩ (by simpa using h)
theorem kw_call{P:Program}{f:FuncId}{args:Array Value}{w0:World}{k:KW w0}{v:Value}
 (h:Calls P f args k.w fun e w'=>e= .returned v∧Kept k.w w'):Calls P f args k.w fun e w''=>e= .returned v∧∃k':KW w0,w''=k'.w:=
 h.mono fun _ _ ⟨he,hm⟩=>⟨he,KW.mk (k.kept.trans hm),rfl⟩
end Go.Eng
namespace Go.Dig
def val(B:Nat)(zs:Nat→Nat):Nat→Nat
 |0=>0
 |k+1=>val B zs k+zs k*B^k
def norm(zs:Nat→Nat)(n:Nat):Prop:=n=0∨zs (n-1)≠0
def cmpInt(m k:Nat):Int:=if m<k then -1 else if k<m then 1 else 0
theorem val_congr{B:Nat}{xs ys:Nat→Nat}:∀{n:Nat},(∀i,i<n→xs i=ys i)→val B xs n=val B ys n
 |0,_=>rfl
 |n+1,h=>by simp only[val];rw[val_congr fun i hi=>h i (by omega),h n (by omega)]
theorem val_lt{B:Nat}{zs:Nat→Nat}:∀{n:Nat},(∀i,i<n→zs i<B)→val B zs n<B^n
 |0,_=>by simp[val]
 |n+1,h=>by
  have h1:=val_lt (n:=n) fun i hi=>h i (by omega)
  have h2:=h n (by omega)
  have h3:(zs n+1)*B^n≤B*B^n:=Nat.mul_le_mul_right _ h2
  rw[Nat.add_mul,Nat.one_mul] at h3
  simp only[val]
  rw[Nat.pow_succ,Nat.mul_comm (B^n)]
  omega
theorem val_ge{B:Nat}{zs:Nat→Nat}{n:Nat}(hn:0<n)(h:zs (n-1)≠0):B^(n-1)≤val B zs n:=by
 obtain⟨k,rfl⟩:∃k,n=k+1:=⟨n-1,by omega⟩
 simp only[Nat.add_sub_cancel] at*
 simp only[val]
 have:1*B^k≤zs k*B^k:=Nat.mul_le_mul_right _ (by omega)
 omega
theorem val_len_lt{B:Nat}{xs ys:Nat→Nat}{n k:Nat}(hB:0<B)(hx:∀i,i<n→xs i<B)(hy:norm ys k)(h:n<k):val B xs n<val B ys k:=by
 have h1:=val_lt hx
 have h2:=val_ge (B:=B) (zs:=ys) (n:=k) (by omega) (by rcases hy with h|h;omega;exact h)
 have h3:B^n≤B^(k-1):=Nat.pow_le_pow_right hB (by omega)
 omega
def cmpFrom(xs ys:Nat→Nat):Nat→Int
 |0=>0
 |n+1=>if xs n<ys n then -1 else if ys n<xs n then 1 else cmpFrom xs ys n
theorem val_top_lt{B:Nat}{xs ys:Nat→Nat}{n:Nat}(hx:∀i,i<n+1→xs i<B)(h:xs n<ys n):val B xs (n+1)<val B ys (n+1):=by
 have h1:=val_lt (n:=n) fun i hi=>hx i (by omega)
 have h2:(xs n+1)*B^n≤ys n*B^n:=Nat.mul_le_mul_right _ h
 rw[Nat.add_mul,Nat.one_mul] at h2
 simp only[val]
 omega
theorem cmpFrom_val{B:Nat}{xs ys:Nat→Nat}:∀{n:Nat},(∀i,i<n→xs i<B)→(∀i,i<n→ys i<B)→cmpFrom xs ys n=cmpInt (val B xs n) (val B ys n)
 |0,_,_=>by simp[cmpFrom,cmpInt,val]
 |n+1,hx,hy=>by
  simp only[cmpFrom]
  by_cases h:xs n<ys n
  ·have:=val_top_lt hx h
   rw[if_pos h,cmpInt,if_pos this]
  ·by_cases h':ys n<xs n
   ·have:=val_top_lt hy h'
    rw[if_neg h,if_pos h',cmpInt,if_neg (by omega),if_pos this]
   ·have e:xs n=ys n:=by omega
    rw[if_neg h,if_neg h',cmpFrom_val (fun i hi=>hx i (by omega)) (fun i hi=>hy i (by omega))]
    simp only[cmpInt,val,e,Nat.add_lt_add_iff_right]
def trimN(zs:Nat→Nat):Nat→Nat
 |0=>0
 |n+1=>if zs n=0 then trimN zs n else n+1
theorem trimN_le(zs:Nat→Nat):∀n,trimN zs n≤n
 |0=>Nat.le_refl _
 |n+1=>by
  simp only[trimN]
  split
  ·have:=trimN_le zs n;omega
  ·omega
theorem trimN_norm(zs:Nat→Nat):∀n,norm zs (trimN zs n)
 |0=>.inl rfl
 |n+1=>by
  simp only[trimN]
  split
  ·exact trimN_norm zs n
  ·rename_i h;exact .inr (by simpa using h)
theorem trimN_val(B:Nat)(zs:Nat→Nat):∀n,val B zs (trimN zs n)=val B zs n
 |0=>rfl
 |n+1=>by
  simp only[trimN]
  split
  ·rename_i h;rw[trimN_val B zs n];simp[val,h]
  ·rfl
def pwr(b n:Nat):Nat:=b^n
theorem pwr_eq(b n:Nat):pwr b n=b^n:=rfl
attribute [irreducible] pwr
theorem pwr_pos(n:Nat):0<pwr 2 n:=by rw[pwr_eq];exact Nat.pow_pos (by omega)
theorem pwr_le(a b:Nat)(h:a≤b):pwr 2 a≤pwr 2 b:=by rw[pwr_eq,pwr_eq];exact Nat.pow_le_pow_right (by omega) h
theorem pwr_one(n:Nat)(h:0<n):1<pwr 2 n:=by rw[pwr_eq];exact Nat.one_lt_two_pow (by omega)
theorem pwr_add(a b c:Nat)(h:a+b=c):pwr 2 a*pwr 2 b=pwr 2 c:=by rw[pwr_eq,pwr_eq,pwr_eq,←Nat.pow_add,h]
theorem pwr32(k n:Nat)(h:32*k=n):(4294967296:Nat)^k=pwr 2 n:=by
 have e:(4294967296:Nat)=2^32:=by decide
 rw[pwr_eq,e,←Nat.pow_mul,h]
theorem pwr16(k n:Nat)(h:16*k=n):(65536:Nat)^k=pwr 2 n:=by
 have e:(65536:Nat)=2^16:=by decide
 rw[pwr_eq,e,←Nat.pow_mul,h]
theorem pwr_lt{k n:Nat}(h:2^k<pwr 2 n):k<n:=by
 rw[pwr_eq] at h
 exact(Nat.pow_lt_pow_iff_right (by omega)).1 h
def Big:Nat:=pwr 2 16384
theorem len_le_of_lt{B:Nat}{zs:Nat→Nat}{n L:Nat}(hB:0<B)(hn:norm zs n)(h:val B zs n<B^L):n≤L:=by
 rcases hn with rfl|hn
 ·omega
 ·by_cases h0:n=0
  ·omega
  ·have h1:=val_ge (B:=B) (by omega) hn
   have h2:B^(n-1)<B^L:=by omega
   by_cases h3:n≤L
   ·exact h3
   ·have:=Nat.pow_le_pow_right hB (show L≤n-1 by omega)
    omega
theorem big32{L:Nat}(h:L=512):4294967296^L=Big:=pwr32 L 16384 (by omega)
theorem big16{L:Nat}(h:L=1024):65536^L=Big:=pwr16 L 16384 (by omega)
theorem len_big32{zs:Nat→Nat}{n:Nat}(hn:norm zs n)(h:val 4294967296 zs n<Big):n≤512:=by
 obtain⟨L,hL⟩:∃L,L=512:=⟨512,rfl⟩
 have:=len_le_of_lt (B:=4294967296) (L:=L) (by decide) hn (by rw[big32 hL];exact h)
 omega
theorem len_big16{zs:Nat→Nat}{n:Nat}(hn:norm zs n)(h:val 65536 zs n<Big):n≤1024:=by
 obtain⟨L,hL⟩:∃L,L=1024:=⟨1024,rfl⟩
 have:=len_le_of_lt (B:=65536) (L:=L) (by decide) hn (by rw[big16 hL];exact h)
 omega
def Bs(B:Nat):Prop:=B=65536∨B=4294967296
theorem Bs.pos{B:Nat}(h:Bs B):0<B:=by rcases h with rfl|rfl<;>omega
theorem Bs.le{B:Nat}(h:Bs B):B≤4294967296:=by rcases h with rfl|rfl<;>omega
theorem len_big{B:Nat}{zs:Nat→Nat}{n:Nat}(hB:Bs B)(hn:norm zs n)(h:val B zs n<Big):n≤1024:=by
 rcases hB with rfl|rfl
 ·exact len_big16 hn h
 ·have:=len_big32 hn h
  omega
theorem val_eq_zero{B:Nat}{zs:Nat→Nat}{n:Nat}(hB:0<B)(hn:norm zs n):val B zs n=0↔n=0:=by
 constructor
 ·intro h
  rcases hn with rfl|hn
  ·rfl
  ·by_cases h0:n=0
   ·exact h0
   ·have:=val_ge (B:=B) (by omega) hn
    have:=Nat.pow_pos (n:=n-1) hB
    omega
 ·rintro rfl;rfl
end Go.Dig
