/- A part of the proof that SearchCandidates answers true for every input of bulk at most 1048576: conditions: the row's own. -/
import Derived.Test.YtancebninmoipaaGreatDoorProg
import Derived.WalkKit
import Derived.LoopTactic
import Derived.Deep.QuietTactic
import Derived.BigQuiet
import Derived.Outline
import Derived.Lib.Hide
import Derived.WalkLawsBesides
import Derived.WalkSpells
import Derived.Deep.OwnRows
import Derived.Laws.AppendOwn
import Derived.Laws.BitsAllLaws
namespace Go.Eng
open Go
structure Kept(w w':World):Prop where
 size:w.heap.size≤w'.heap.size
 old:∀b,b<w.heap.size→w'.heap[b]? =w.heap[b]?
 tape:w'.tape=w.tape
 os:w'.os=w.os
 output:w'.output=w.output
theorem Kept.refl(w:World):Kept w w:=⟨Nat.le_refl _,fun _ _=>rfl,rfl,rfl,rfl⟩
theorem Kept.trans{w w1 w2:World}(h:Kept w w1)(k:Kept w1 w2):Kept w w2:=
 ⟨Nat.le_trans h.size k.size,fun b hb=>(k.old b (Nat.lt_of_lt_of_le hb h.size)).trans (h.old b hb),k.tape.trans h.tape,k.os.trans h.os,k.output.trans h.output⟩
theorem Kept.alloc{w w1:World}(h:Kept w w1)(o:Obj):Kept w (w1.alloc o):=by
 refine h.trans ⟨?_,?_,rfl,rfl,rfl⟩
 ·show w1.heap.size≤(w1.heap.push o).size
  simp
 ·intro b hb
  show(w1.heap.push o)[b]? =_
  simp[Array.getElem?_push,Nat.ne_of_lt hb]
theorem Kept.drewN{w w1:World}(h:Kept w w1)(n:Nat):Kept w (w1.drewN n):=⟨h.size,h.old,h.tape,h.os,h.output⟩
theorem Kept.drew{w w1:World}(h:Kept w w1):Kept w w1.drew:=⟨h.size,h.old,h.tape,h.os,h.output⟩
theorem Kept.cell{w w':World}(h:Kept w w'){a:Addr}{v:Value}(hc:w.cell? a=some v):w'.cell? a=some v:=by
 have hb:a.block<w.heap.size:=World.block_lt_of_cell? w a hc
 unfold World.cell? at hc⊢
 simp only[h.old _ hb]
 exact hc
theorem Kept.setCell{w w1:World}(h:Kept w w1){a:Addr}(ha:w.heap.size≤a.block)(v:Value):Kept w (w1.setCell a v):=by
 refine⟨?_,?_,h.tape,h.os,h.output⟩
 ·show w.heap.size≤(w1.heap.modify _ _).size
  rw[Array.size_modify];exact h.size
 ·intro b hb
  show(w1.heap.modify _ _)[b]? =_
  rw[Array.getElem?_modify,if_neg (by omega)]
  exact h.old b hb
def KW(w:World):Type:={w':World//Kept w w'}
def KW.w{w:World}(k:KW w):World:=k.1
theorem KW.kept{w:World}(k:KW w):Kept w k.w:=k.2
def KW.mk{w w':World}(h:Kept w w'):KW w:=⟨w',h⟩
instance KW.nonempty(w:World):Nonempty (KW w):=⟨KW.mk (Kept.refl w)⟩
theorem wp_region_kw{P:Program}{id:Nat}{Q:Exit→Act→World→Prop}{a:Act}{w:World}{l:List Oper}(w0:World)(hk:Kept w0 w)(hm:P.follows .mixedOrders=true)(hB:Region.lexB .any l.toArray=true)
 (h:wpQuiet P l.toArray (fun w'=>∃k:KW w0,w'=k.w) (fun a'=>∀w',(∃k:KW w0,w'=k.w)→Q .normal a' w') l a):(Code.region id l.toArray true).wp P Q a w:=
 wp_region_quiet (C:=fun w'=>∃k:KW w0,w'=k.w) hm hB ⟨KW.mk (hk.drew),rfl⟩ (by simpa using h)
theorem kw_call{P:Program}{f:FuncId}{args:Array Value}{w0:World}{k:KW w0}{v:Value}
 (h:Calls P f args k.w fun e w'=>e= .returned v∧Kept k.w w'):Calls P f args k.w fun e w''=>e= .returned v∧∃k':KW w0,w''=k'.w:=
 h.mono fun _ _ ⟨he,hm⟩=>⟨he,KW.mk (k.kept.trans hm),rfl⟩
end Go.Eng
namespace Go.Dig
def val(B:Nat)(zs:Nat→Nat):Nat→Nat
 |0=>0
 |k+1=>val B zs k+zs k*B^k
def norm(zs:Nat→Nat)(n:Nat):Prop:=n=0∨zs (n-1)≠0
def cmpInt(m k:Nat):Int:=if m<k then -1 else if k<m then 1 else 0
theorem val_congr{B:Nat}{xs ys:Nat→Nat}:∀{n:Nat},(∀i,i<n→xs i=ys i)→val B xs n=val B ys n
 |0,_=>rfl
 |n+1,h=>by simp only[val];rw[val_congr fun i hi=>h i (by omega),h n (by omega)]
theorem val_lt{B:Nat}{zs:Nat→Nat}:∀{n:Nat},(∀i,i<n→zs i<B)→val B zs n<B^n
 |0,_=>by simp[val]
 |n+1,h=>by
  have h1:=val_lt (n:=n) fun i hi=>h i (by omega)
  have h2:=h n (by omega)
  have h3:(zs n+1)*B^n≤B*B^n:=Nat.mul_le_mul_right _ h2
  rw[Nat.add_mul,Nat.one_mul] at h3
  simp only[val]
  rw[Nat.pow_succ,Nat.mul_comm (B^n)]
  omega
theorem val_ge{B:Nat}{zs:Nat→Nat}{n:Nat}(hn:0<n)(h:zs (n-1)≠0):B^(n-1)≤val B zs n:=by
 obtain⟨k,rfl⟩:∃k,n=k+1:=⟨n-1,by omega⟩
 simp only[Nat.add_sub_cancel] at*
 simp only[val]
 have:1*B^k≤zs k*B^k:=Nat.mul_le_mul_right _ (by omega)
 omega
theorem val_len_lt{B:Nat}{xs ys:Nat→Nat}{n k:Nat}(hB:0<B)(hx:∀i,i<n→xs i<B)(hy:norm ys k)(h:n<k):val B xs n<val B ys k:=by
 have h1:=val_lt hx
 have h2:=val_ge (B:=B) (zs:=ys) (n:=k) (by omega) (by rcases hy with h|h;omega;exact h)
 have h3:B^n≤B^(k-1):=Nat.pow_le_pow_right hB (by omega)
 omega
def cmpFrom(xs ys:Nat→Nat):Nat→Int
 |0=>0
 |n+1=>if xs n<ys n then -1 else if ys n<xs n then 1 else cmpFrom xs ys n
theorem val_top_lt{B:Nat}{xs ys:Nat→Nat}{n:Nat}(hx:∀i,i<n+1→xs i<B)(h:xs n<ys n):val B xs (n+1)<val B ys (n+1):=by
 have h1:=val_lt (n:=n) fun i hi=>hx i (by omega)
 have h2:(xs n+1)*B^n≤ys n*B^n:=Nat.mul_le_mul_right _ h
 rw[Nat.add_mul,Nat.one_mul] at h2
 simp only[val]
 omega
theorem cmpFrom_val{B:Nat}{xs ys:Nat→Nat}:∀{n:Nat},(∀i,i<n→xs i<B)→(∀i,i<n→ys i<B)→cmpFrom xs ys n=cmpInt (val B xs n) (val B ys n)
 |0,_,_=>by simp[cmpFrom,cmpInt,val]
 |n+1,hx,hy=>by
  simp only[cmpFrom]
  by_cases h:xs n<ys n
  ·have:=val_top_lt hx h
   rw[if_pos h,cmpInt,if_pos this]
  ·by_cases h':ys n<xs n
   ·have:=val_top_lt hy h'
    rw[if_neg h,if_pos h',cmpInt,if_neg (by omega),if_pos this]
   ·have e:xs n=ys n:=by omega
    rw[if_neg h,if_neg h',cmpFrom_val (fun i hi=>hx i (by omega)) (fun i hi=>hy i (by omega))]
    simp only[cmpInt,val,e,Nat.add_lt_add_iff_right]
def trimN(zs:Nat→Nat):Nat→Nat
 |0=>0
 |n+1=>if zs n=0 then trimN zs n else n+1
theorem trimN_le(zs:Nat→Nat):∀n,trimN zs n≤n
 |0=>Nat.le_refl _
 |n+1=>by
  simp only[trimN]
  split
  ·have:=trimN_le zs n;omega
  ·omega
theorem trimN_norm(zs:Nat→Nat):∀n,norm zs (trimN zs n)
 |0=>.inl rfl
 |n+1=>by
  simp only[trimN]
  split
  ·exact trimN_norm zs n
  ·rename_i h;exact .inr (by simpa using h)
theorem trimN_val(B:Nat)(zs:Nat→Nat):∀n,val B zs (trimN zs n)=val B zs n
 |0=>rfl
 |n+1=>by
  simp only[trimN]
  split
  ·rename_i h;rw[trimN_val B zs n];simp[val,h]
  ·rfl
def pwr(b n:Nat):Nat:=b^n
theorem pwr_eq(b n:Nat):pwr b n=b^n:=rfl
attribute [irreducible] pwr
theorem pwr_pos(n:Nat):0<pwr 2 n:=by rw[pwr_eq];exact Nat.pow_pos (by omega)
theorem pwr_le(a b:Nat)(h:a≤b):pwr 2 a≤pwr 2 b:=by rw[pwr_eq,pwr_eq];exact Nat.pow_le_pow_right (by omega) h
theorem pwr_one(n:Nat)(h:0<n):1<pwr 2 n:=by rw[pwr_eq];exact Nat.one_lt_two_pow (by omega)
theorem pwr_add(a b c:Nat)(h:a+b=c):pwr 2 a*pwr 2 b=pwr 2 c:=by rw[pwr_eq,pwr_eq,pwr_eq,←Nat.pow_add,h]
theorem pwr32(k n:Nat)(h:32*k=n):(4294967296:Nat)^k=pwr 2 n:=by
 have e:(4294967296:Nat)=2^32:=by decide
 rw[pwr_eq,e,←Nat.pow_mul,h]
theorem pwr16(k n:Nat)(h:16*k=n):(65536:Nat)^k=pwr 2 n:=by
 have e:(65536:Nat)=2^16:=by decide
 rw[pwr_eq,e,←Nat.pow_mul,h]
theorem pwr_lt{k n:Nat}(h:2^k<pwr 2 n):k<n:=by
 rw[pwr_eq] at h
 exact(Nat.pow_lt_pow_iff_right (by omega)).1 h
def Big:Nat:=pwr 2 16384
theorem len_le_of_lt{B:Nat}{zs:Nat→Nat}{n L:Nat}(hB:0<B)(hn:norm zs n)(h:val B zs n<B^L):n≤L:=by
 rcases hn with rfl|hn
 ·omega
 ·by_cases h0:n=0
  ·omega
  ·have h1:=val_ge (B:=B) (by omega) hn
   have h2:B^(n-1)<B^L:=by omega
   by_cases h3:n≤L
   ·exact h3
   ·have:=Nat.pow_le_pow_right hB (show L≤n-1 by omega)
    omega
theorem big32{L:Nat}(h:L=512):4294967296^L=Big:=pwr32 L 16384 (by omega)
theorem big16{L:Nat}(h:L=1024):65536^L=Big:=pwr16 L 16384 (by omega)
theorem len_big32{zs:Nat→Nat}{n:Nat}(hn:norm zs n)(h:val 4294967296 zs n<Big):n≤512:=by
 obtain⟨L,hL⟩:∃L,L=512:=⟨512,rfl⟩
 have:=len_le_of_lt (B:=4294967296) (L:=L) (by decide) hn (by rw[big32 hL];exact h)
 omega
theorem len_big16{zs:Nat→Nat}{n:Nat}(hn:norm zs n)(h:val 65536 zs n<Big):n≤1024:=by
 obtain⟨L,hL⟩:∃L,L=1024:=⟨1024,rfl⟩
 have:=len_le_of_lt (B:=65536) (L:=L) (by decide) hn (by rw[big16 hL];exact h)
 omega
def Bs(B:Nat):Prop:=B=65536∨B=4294967296
theorem Bs.pos{B:Nat}(h:Bs B):0<B:=by rcases h with rfl|rfl<;>omega
theorem Bs.le{B:Nat}(h:Bs B):B≤4294967296:=by rcases h with rfl|rfl<;>omega
theorem len_big{B:Nat}{zs:Nat→Nat}{n:Nat}(hB:Bs B)(hn:norm zs n)(h:val B zs n<Big):n≤1024:=by
 rcases hB with rfl|rfl
 ·exact len_big16 hn h
 ·have:=len_big32 hn h
  omega
theorem val_eq_zero{B:Nat}{zs:Nat→Nat}{n:Nat}(hB:0<B)(hn:norm zs n):val B zs n=0↔n=0:=by
 constructor
 ·intro h
  rcases hn with rfl|hn
  ·rfl
  ·by_cases h0:n=0
   ·exact h0
   ·have:=val_ge (B:=B) (by omega) hn
    have:=Nat.pow_pos (n:=n-1) hB
    omega
 ·rintro rfl;rfl
end Go.Dig
namespace Go.Proofs.YtancebninmoipaaGreatDoor
open Go Go.RowKit Go.Dig
open Go.Eng (Kept KW)
def Ws(w:World)(a:Option Addr)(n:Nat)(zs:Nat→Nat):Prop:=
 ∀i,i<n→∃b off,a=some ⟨b,off,none⟩∧w.cell? ⟨b,off+i,none⟩=some (.int .u32 (zs i:Nat))
theorem Ws.kept{w w':World}{a:Option Addr}{n:Nat}{zs:Nat→Nat}(h:Ws w a n zs)(k:Kept w w'):Ws w' a n zs:=fun i hi=>by
 obtain⟨b,off,e,hc⟩:=h i hi
 exact⟨b,off,e,k.cell hc⟩
theorem Ws.open{w:World}{a:Option Addr}{n:Nat}{zs:Nat→Nat}(h:Ws w a n zs):n=0∨0<n∧∃b off,a=some ⟨b,off,none⟩∧∀i,i<n→w.cell? ⟨b,off+i,none⟩=some (.int .u32 (zs i:Nat)):=by
 by_cases h0:n=0
 ·exact .inl h0
 ·obtain⟨b,off,rfl,_⟩:=h 0 (by omega)
  refine .inr ⟨by omega,b,off,rfl,fun i hi=> ?_⟩
  obtain⟨b',off',e,hc⟩:=h i hi
  cases e
  exact hc
def Nt(B:Nat)(w:World)(v:Value)(m:Nat):Prop:=
 ∃(a:Option Addr)(n cap:Nat)(zs:Nat→Nat),v= .slice a n cap∧n≤cap∧(∀i,i<n→zs i<B)∧norm zs n∧val B zs n=m∧Ws w a n zs
theorem Nt.kept{B:Nat}{w w':World}{v:Value}{m:Nat}(h:Nt B w v m)(k:Kept w w'):Nt B w' v m:=by
 obtain⟨a,n,cap,zs,h1,h2,h3,h4,h5,h6⟩:=h
 exact⟨a,n,cap,zs,h1,h2,h3,h4,h5,h6.kept k⟩
theorem ret_int{k:IntKind}{a b:Int}(h:a=b):Ending.returned (.int k a)= .returned (.int k b):=by rw[h]
theorem ret_bool{a b:Bool}(h:a=b):Ending.returned (.bool a)= .returned (.bool b):=by rw[h]
set_option maxHeartbeats 1000000 in
theorem cmp_eq(w:World)(b off cap b' off' cap' n:Nat)(xs ys:Nat→Nat)(hn:n≤4611686018427387904)
 (hx:∀i,i<n→w.cell? ⟨b,off+i,none⟩=some (.int .u32 (xs i:Nat)))
 (hy:∀i,i<n→w.cell? ⟨b',off'+i,none⟩=some (.int .u32 (ys i:Nat))):
 Calls Tryz.prog 136 #[.slice (some ⟨b,off,none⟩) n cap,.slice (some ⟨b',off',none⟩) n cap'] w fun e w'=>e= .returned (.int .i64 (cmpFrom xs ys n))∧Kept w w':=by
 go_enter Tryz.func136,Tryz.ntmps136
 go_wp2
 go_loopw [5] (fun i wr=>∃k:Nat,k≤n∧i= .int .i64 ((k:Int)-1)∧cmpFrom xs ys k=cmpFrom xs ys n∧Kept w wr) (fun i _=>(intOf i+1).toNat)
 case atStart=>exact⟨n,Nat.le_refl _,rfl,rfl,Kept.refl _⟩
 case round=>
  obtain⟨k,hk,rfl,ht,hkw⟩:=hrel
  have HT:=Lib.hid ht;clear ht
  cases k with
  |zero=>
   go_wp2
   go_ret
   exact⟨by rw[←HT.out];rfl,hkw⟩
  |succ k=>
   have h1:=hkw.cell (hx k (by omega))
   have h2:=hkw.cell (hy k (by omega))
   have HX:=Lib.hid hx;clear hx
   have HY:=Lib.hid hy;clear hy
   by_cases hlt:xs k<ys k
   ·go_wp2
    go_quiet (fail)
    go_wp2
    go_ret
    exact⟨by rw[←HT.out];simp[cmpFrom,hlt],hkw.drewN _⟩
   ·by_cases hgt:ys k<xs k
    ·go_wp2
     go_quiet (fail)
     go_wp2
     go_quiet (fail)
     go_wp2
     go_ret
     exact⟨by rw[←HT.out];simp[cmpFrom,hlt,hgt],by first|exact(hkw.drewN _).drewN _|exact hkw.drewN _⟩
    ·go_wp2
     go_quiet (fail)
     go_wp2
     go_quiet (fail)
     go_wp2
     go_roundw
     case rel=>exact⟨k,by omega,by go_num,by rw[←HT.out];simp[cmpFrom,hlt,hgt],by first|exact(hkw.drewN _).drewN _|exact hkw.drewN _⟩
     case measure=>simp[intOf]
theorem cmp_zero(w:World)(a a':Option Addr)(cap cap':Nat):
 Calls Tryz.prog 136 #[.slice a 0 cap,.slice a' 0 cap'] w fun e w'=>e= .returned (.int .i64 0)∧w=w':=by
 go_enter Tryz.func136,Tryz.ntmps136
 go_wp2
 go_loop [5] (fun i=>i= .int .i64 (-1)) (fun _=>0)
 case atStart=>rfl
 case round=>
  subst hrel
  go_wp2
  go_ret
  exact⟨rfl,rfl⟩
theorem cmp_ne(w:World)(a a':Option Addr)(n n' cap cap':Nat)(h:n<n'∨n'<n):
 Calls Tryz.prog 136 #[.slice a n cap,.slice a' n' cap'] w fun e w'=>e= .returned (.int .i64 (if n<n' then -1 else 1))∧w=w':=by
 by_cases h1:n<n'
 ·have h2:n≠n':=by omega
  go_enter Tryz.func136,Tryz.ntmps136
  go_wp2
  go_ret
  simp
 ·have h2:n≠n':=by omega
  go_enter Tryz.func136,Tryz.ntmps136
  go_wp2
  go_ret
  simp
theorem cmp_calls{B:Nat}(hB:Bs B){w:World}{v u:Value}{m k:Nat}(hv:Nt B w v m)(hu:Nt B w u k)(hm:m<Big):
 Calls Tryz.prog 136 #[v,u] w fun e w'=>e= .returned (.int .i64 (cmpInt m k))∧Kept w w':=by
 obtain⟨a,n,cap,xs,rfl,hc,hd,hn,rfl,hw⟩:=hv
 obtain⟨a',n',cap',ys,rfl,hc',hd',hn',rfl,hw'⟩:=hu
 have hl:=len_big hB hn hm
 by_cases h1:n<n'
 ·refine(cmp_ne w a a' n n' cap cap' (.inl h1)).mono fun e w' ⟨he,hk⟩=> ?_
  have:=val_len_lt hB.pos hd hn' h1
  subst hk
  exact⟨by rw[he,if_pos h1,cmpInt,if_pos this],Kept.refl _⟩
 ·by_cases h2:n'<n
  ·refine(cmp_ne w a a' n n' cap cap' (.inr h2)).mono fun e w' ⟨he,hk⟩=> ?_
   have:=val_len_lt hB.pos hd' hn h2
   subst hk
   exact⟨by rw[he,if_neg h1,cmpInt,if_neg (by omega),if_pos this],Kept.refl _⟩
  ·obtain rfl:n=n':=by omega
   rw[←cmpFrom_val hd hd']
   rcases hw.open with rfl|⟨h0,b,off,rfl,hx⟩
   ·refine(cmp_zero w a a' cap cap').mono fun e w' ⟨he,hk⟩=> ?_
    subst hk
    exact⟨he,Kept.refl _⟩
   ·rcases hw'.open with rfl|⟨_,b',off',rfl,hy⟩
    ·omega
    ·exact cmp_eq w b off cap b' off' cap' n xs ys (by omega) hx hy
end Go.Proofs.YtancebninmoipaaGreatDoor
namespace Go.Dig
def upd(zs:Nat→Nat)(p x:Nat):Nat→Nat:=fun j=>if j=p then x else zs j
theorem upd_same(zs:Nat→Nat)(p x:Nat):upd zs p x p=x:=by simp[upd]
theorem upd_other(zs:Nat→Nat){p x j:Nat}(h:j≠p):upd zs p x j=zs j:=by simp[upd,h]
theorem val_upd{B:Nat}{zs:Nat→Nat}{p x n:Nat}(h:n≤p):val B (upd zs p x) n=val B zs n:=
 val_congr fun i hi=>upd_other zs (by omega)
theorem val_upd_top{B:Nat}{zs:Nat→Nat}{p x:Nat}:val B (upd zs p x) (p+1)=val B zs p+x*B^p:=by
 simp only[val];rw[val_upd (Nat.le_refl _),upd_same]
structure MulIn(B:Nat)(xs ys zs0:Nat→Nat)(i j:Nat)(zs:Nat→Nat)(c:Nat):Prop where
 lt:∀k,zs k<B
 clt:c<B
 same:∀k,i+j≤k→zs k=zs0 k
 eq:val B zs (i+j)+c*B^(i+j)=val B zs0 (i+j)+xs i*val B ys j*B^i
theorem mul_bound{B x y z c:Nat}(hx:x<B)(hy:y<B)(hz:z<B)(hc:c<B):x*y+z+c<B*B:=by
 obtain⟨b,rfl⟩:∃b,B=b+1:=⟨B-1,by omega⟩
 have h1:x*y≤b*b:=Nat.mul_le_mul (by omega) (by omega)
 have h2:(b+1)*(b+1)=b*b+2*b+1:=by grind
 omega
theorem MulIn.start{B:Nat}{xs ys zs0:Nat→Nat}{i:Nat}(hB:0<B)(h:∀k,zs0 k<B):MulIn B xs ys zs0 i 0 zs0 0:=
 ⟨h,hB,fun _ _=>rfl,by simp[val]⟩
theorem MulIn.step{B:Nat}{xs ys zs0 zs:Nat→Nat}{i j c:Nat}(h:MulIn B xs ys zs0 i j zs c)(hx:xs i<B)(hy:ys j<B):
 MulIn B xs ys zs0 i (j+1) (upd zs (i+j) ((xs i*ys j+zs (i+j)+c)%B)) ((xs i*ys j+zs (i+j)+c)/B):=by
 have hb:=mul_bound hx hy (h.lt (i+j)) h.clt
 have hB:0<B:=by omega
 refine⟨fun k=> ?_,Nat.div_lt_of_lt_mul hb,fun k hk=> ?_,?_⟩
 ·unfold upd;split
  ·exact Nat.mod_lt _ hB
  ·exact h.lt k
 ·rw[upd_other _ (by omega)];exact h.same k (by omega)
 ·have e:=h.eq
  have es:=h.same (i+j) (Nat.le_refl _)
  generalize hs:xs i*ys j+zs (i+j)+c=s at*
  have hd:=Nat.mod_add_div s B
  rw[show i+(j+1)=i+j+1 by omega,val_upd_top]
  simp only[val]
  rw[Nat.pow_succ,←es]
  rw[Nat.pow_add] at*
  generalize val B zs (i+j)=V at*
  generalize val B zs0 (i+j)=V0 at*
  generalize val B ys j=Y at*
  generalize B^i=P at*
  generalize B^j=Q at*
  generalize s%B=r at*
  generalize s/B=d at*
  have:V+r*(P*Q)+d*(P*Q*B)=V+s*(P*Q):=by rw[←hd];grind
  rw[this,←hs]
  grind
structure MulOut(B:Nat)(xs ys:Nat→Nat)(n i:Nat)(zs:Nat→Nat):Prop where
 lt:∀k,zs k<B
 zero:∀k,i+n≤k→zs k=0
 eq:val B zs (i+n)=val B xs i*val B ys n
theorem val_zeros(B:Nat)(zs:Nat→Nat)(n:Nat)(h:∀k,k<n→zs k=0):val B zs n=0:=by
 induction n with
 |zero=>rfl
 |succ n ih=>simp only[val];rw[ih (fun k hk=>h k (by omega)),h n (by omega)];simp
theorem MulOut.start{B:Nat}{xs ys:Nat→Nat}{n:Nat}(hB:0<B):MulOut B xs ys n 0 (fun _=>0):=
 ⟨fun _=>hB,fun _ _=>rfl,by rw[val_zeros _ _ _ (fun _ _=>rfl)];simp[val]⟩
theorem MulOut.step{B:Nat}{xs ys zs0 zs:Nat→Nat}{n i c:Nat}(h0:MulOut B xs ys n i zs0)(h:MulIn B xs ys zs0 i n zs c):MulOut B xs ys n (i+1) (upd zs (i+n) c):=by
 refine⟨fun k=> ?_,fun k hk=> ?_,?_⟩
 ·unfold upd;split
  ·exact h.clt
  ·exact h.lt k
 ·rw[upd_other _ (by omega),h.same k (by omega)];exact h0.zero k (by omega)
 ·rw[show i+1+n=i+n+1 by omega,val_upd_top,h.eq,h0.eq]
  simp only[val]
  grind
end Go.Dig
namespace Go.Proofs.YtancebninmoipaaGreatDoor
open Go Go.RowKit Go.Dig
open Go.Eng (Kept KW)
theorem info191:(Tryz.prog.info? 212).map (fun i=>(i.zero,i.size,i.bytes))=some (some (.int .u32 0),1,4):=by kernel_rfl
def Row(w:World)(b n:Nat)(zs:Nat→Nat):Prop:=w.rowIs b 212 n (fun j=>.int .u32 (zs j:Nat))
theorem Row.set{w:World}{b n:Nat}{zs:Nat→Nat}(h:Row w b n zs)(p x:Nat):Row (w.setCell ⟨b,p,none⟩ (.int .u32 (x:Nat))) b n (upd zs p x):=
 (World.rowIs.set h p _).congr fun i _=>by simp only[upd];split<;>rfl
theorem Row.made(w:World)(n:Nat):Row (w.alloc (.cells (madeCells #[.int .u32 0] n) 212)) w.heap.size n (fun _=>0):=World.rowIs_made w _ n 212
theorem Row.kept{w w':World}{b n:Nat}{zs:Nat→Nat}(h:Row w b n zs)(k:Kept w w'):Row w' b n zs:=World.rowIs.of_block h (k.old b (World.rowIs.lt h))
theorem Row.drewN{w:World}{b n:Nat}{zs:Nat→Nat}(h:Row w b n zs)(k:Nat):Row (w.drewN k) b n zs:=h
theorem Row.cell{w:World}{b n:Nat}{zs:Nat→Nat}(h:Row w b n zs){i:Nat}(hi:i<n):w.cell? ⟨b,i,none⟩=some (.int .u32 (zs i:Nat)):=World.rowIs.cell h hi
theorem Row.frozen{w:World}{b n:Nat}{zs:Nat→Nat}(h:Row w b n zs)(i:Nat):w.frozen? ⟨b,i,none⟩=false:=World.rowIs.frozen h i
theorem Row.ws{w:World}{b n k:Nat}{zs:Nat→Nat}(h:Row w b n zs)(hk:k≤n):Ws w (some ⟨b,0,none⟩) k zs:=fun i hi=>⟨b,0,rfl,by rw[Nat.zero_add];exact h.cell (by omega)⟩
set_option maxHeartbeats 400000 in
theorem of_some(w:World)(b off n cap:Nat)(zs:Nat→Nat)(hn:n≤4611686018427387904)(hcap:n≤cap)
 (hc:∀i,i<n→w.cell? ⟨b,off+i,none⟩=some (.int .u32 (zs i:Nat))):
 Calls Tryz.prog 130 #[.slice (some ⟨b,off,none⟩) n cap] w fun e w'=>e= .returned (.slice (some ⟨b,off,none⟩) (trimN zs n) cap)∧w=w':=by
 go_enter Tryz.func130,Tryz.ntmps130
 go_wp2
 go_loop [0] (fun s=>∃k:Nat,k≤n∧s= .slice (some ⟨b,off,none⟩) k cap∧trimN zs k=trimN zs n) (fun s=>match s with| .slice _ k _=>k|_=>0)
 case atStart=>exact⟨n,Nat.le_refl _,rfl,rfl⟩
 case round=>
  obtain⟨k,hk,rfl,ht⟩:=hrel
  have HT:=Lib.hid ht;clear ht
  cases k with
  |zero=>
   go_wp2
   go_ret
   exact⟨by rw[←HT.out];rfl,rfl⟩
  |succ k=>
   have h1:=hc k (by omega)
   have HC:=Lib.hid hc;clear hc
   by_cases h0:zs k=0
   ·have HH:=Lib.hid h0
    rw[h0] at h1
    clear h0
    go_wp2
    go_round
    case rel=>exact⟨k,by omega,by go_num,by rw[←HT.out];simp[trimN,HH.out]⟩
    case measure=>simp
   ·have h0':((zs k:Int)==0)=false:=by simpa using h0
    have HH:=Lib.hid h0;clear h0
    go_wp2
    go_ret
    exact⟨by rw[←HT.out];simp[trimN,HH.out],rfl⟩
set_option maxHeartbeats 400000 in
theorem of_zero(w:World)(a:Option Addr)(cap:Nat):
 Calls Tryz.prog 130 #[.slice a 0 cap] w fun e w'=>e= .returned (.slice a 0 cap)∧w=w':=by
 go_enter Tryz.func130,Tryz.ntmps130
 go_wp2
 go_loop [0] (fun s=>s= .slice a 0 cap) (fun s=>0)
 case atStart=>rfl
 case round=>
  subst hrel
  go_wp2
  go_ret
  exact⟨rfl,rfl⟩
theorem of_calls(w:World)(a:Option Addr)(n cap:Nat)(zs:Nat→Nat)(hn:n≤4611686018427387904)(hcap:n≤cap)(h:Ws w a n zs):
 Calls Tryz.prog 130 #[.slice a n cap] w fun e w'=>e= .returned (.slice a (trimN zs n) cap)∧w=w':=by
 rcases h.open with rfl|⟨_,b,off,rfl,hc⟩
 ·exact of_zero w a cap
 ·exact of_some w b off n cap zs hn hcap hc
theorem nt_of{B:Nat}{w:World}{a:Option Addr}{n cap:Nat}{zs:Nat→Nat}(hcap:n≤cap)(hz:∀i,i<n→zs i<B)(h:Ws w a n zs):Nt B w (.slice a (trimN zs n) cap) (val B zs n):=
 ⟨a,trimN zs n,cap,zs,rfl,Nat.le_trans (trimN_le zs n) hcap,fun i hi=>hz i (Nat.lt_of_lt_of_le hi (trimN_le zs n)),trimN_norm zs n,trimN_val B zs n,fun i hi=>h i (Nat.lt_of_lt_of_le hi (trimN_le zs n))⟩
def RetNt(B m:Nat)(w:World)(e:Ending)(w':World):Prop:=∃v,e= .returned v∧Nt B w' v m∧Kept w w'
set_option maxHeartbeats 4000000 in
set_option maxRecDepth 100000 in
theorem mul_some(w:World)(b off cap b' off' cap' n n':Nat)(xs ys:Nat→Nat)(hn:n≤1024)(hn':n'≤1024)(h0:0<n)(h0':0<n')
 (hxl:∀i,i<n→xs i<4294967296)(hyl:∀i,i<n'→ys i<4294967296)
 (hx:∀i,i<n→w.cell? ⟨b,off+i,none⟩=some (.int .u32 (xs i:Nat)))
 (hy:∀i,i<n'→w.cell? ⟨b',off'+i,none⟩=some (.int .u32 (ys i:Nat))):
 Calls Tryz.prog 135 #[.slice (some ⟨b,off,none⟩) n cap,.slice (some ⟨b',off',none⟩) n' cap'] w (RetNt 4294967296 (val 4294967296 xs n*val 4294967296 ys n') w):=by
 have hmk:=fun w=>run_make_row' (P:=Tryz.prog) 22 212 (.int .u32 0) 4 Tryz.underlying22 info191 rfl .i64 .i64 (n+n') (by omega) (by omega) w
 have ec:((n+n':Nat):Int)=(n:Int)+(n':Int):=by omega
 rw[ec] at hmk
 clear ec
 have HXL:=Lib.hid hxl;clear hxl
 have HYL:=Lib.hid hyl;clear hyl
 have HX:=Lib.hid hx;clear hx
 have HY:=Lib.hid hy;clear hy
 have q1:((n:Int)==0)=false:=by simp;omega
 have q2:((n':Int)==0)=false:=by simp;omega
 go_enter Tryz.func135,Tryz.ntmps135
 go_wp2
 clear hmk
 go_loopw [28] (fun i wr=>∃(k:Nat)(zs:Nat→Nat),k≤n∧i= .int .i64 (k:Int)∧MulOut 4294967296 xs ys n' k zs∧Row wr w.heap.size (n+n') zs∧Kept w wr) (fun i _=>n-(intOf i).toNat)
 case atStart=>exact⟨0,fun _=>0,Nat.zero_le _,rfl,MulOut.start (by decide),Row.made _ _,(Kept.refl _).alloc _⟩
 case round=>
  obtain⟨k,zs0,hk,rfl,hmo,hrow,hkw⟩:=hrel
  by_cases hlt:k<n
  ·have h1:=hkw.cell (HX.out k hlt)
   have hxk:=HXL.out k hlt
   go_wp2
   obtain⟨wo,rfl⟩:∃wo:World,wo=wr:=⟨_,rfl⟩
   go_loopw [8,35] (fun c j wr=>∃(l cn:Nat)(zs:Nat→Nat),l≤n'∧j= .int .i64 (l:Int)∧c= .int .u64 (cn:Int)∧MulIn 4294967296 xs ys zs0 k l zs cn∧Row wr w.heap.size (n+n') zs∧Kept w wr) (fun _ j _=>n'-(intOf j).toNat)
   case atStart=>exact⟨0,0,zs0,Nat.zero_le _,rfl,rfl,MulIn.start (by decide) hmo.lt,hrow,hkw⟩
   case round=>
    obtain⟨l,cn,zs,hl,rfl,rfl,hmi,hrow1,hkw1⟩:=hrel
    by_cases hlt2:l<n'
    ·have h2:=hkw1.cell (HY.out l hlt2)
     have hyl:=HYL.out l hlt2
     have h3:=hrow1.cell (i:=k+l) (by omega)
     have h4:=hrow1.frozen (k+l)
     have hzl:=hmi.lt (k+l)
     have hcl:=hmi.clt
     have hbd:=mul_bound hxk hyl hzl hcl
     have hst:=Lib.hid (hmi.step hxk hyl)
     clear hmi
     go_wp2
     go_roundw
     case rel=>
      refine⟨l+1,(xs k*ys l+zs (k+l)+cn)/4294967296,upd zs (k+l) ((xs k*ys l+zs (k+l)+cn)%4294967296),by omega,by go_num,by simp,hst.out,?_,hkw1.setCell (Nat.le_refl _) _⟩
      have:=hrow1.set (k+l) ((xs k*ys l+zs (k+l)+cn)%4294967296)
      simpa using this
     case measure=>simp[intOf];omega
    ·obtain rfl:n'=l:=by omega
     have h4:=hrow1.frozen (k+n')
     have h3:=hrow1.cell (i:=k+n') (by omega)
     have hcl:=hmi.clt
     have hst:=Lib.hid (hmo.step hmi)
     clear hmi hmo
     go_wp2
     go_roundw
     case rel=>
      refine⟨k+1,upd zs (k+n') cn,by omega,by go_num,hst.out,?_,hkw1.setCell (Nat.le_refl _) _⟩
      exact hrow1.set (k+n') cn
     case measure=>simp[intOf];omega
  ·obtain rfl:n=k:=by omega
   go_wp2_with(go_at_call 130;refine(of_calls _ _ _ _ zs0 (by omega) (Nat.le_refl _) (hrow.ws (Nat.le_refl _))).mono ?_;rintro e w' ⟨rfl,rfl⟩)
   go_ret
   refine⟨_,rfl,?_,hkw⟩
   have:=nt_of (B:=4294967296) (cap:=n+n') (Nat.le_refl _) (fun i _=>hmo.lt i) (hrow.ws (Nat.le_refl _))
   rw[hmo.eq] at this
   exact this
theorem mul_zero(w:World)(a a':Option Addr)(n n' cap cap':Nat)(h:n=0∨n'=0):
 Calls Tryz.prog 135 #[.slice a n cap,.slice a' n' cap'] w (RetNt 4294967296 0 w):=by
 by_cases h1:n=0
 ·subst h1
  go_enter Tryz.func135,Tryz.ntmps135
  go_wp2
  go_ret
  exact⟨_,rfl,⟨none,0,0,fun _=>0,rfl,Nat.le_refl _,fun _ h=>by omega,.inl rfl,rfl,fun _ h=>by omega⟩,Kept.refl _⟩
 ·obtain rfl:n'=0:=by omega
  have q1:((n:Int)==0)=false:=by simp;omega
  go_enter Tryz.func135,Tryz.ntmps135
  go_wp2
  go_ret
  exact⟨_,rfl,⟨none,0,0,fun _=>0,rfl,Nat.le_refl _,fun _ h=>by omega,.inl rfl,rfl,fun _ h=>by omega⟩,Kept.refl _⟩
theorem mul_calls{w:World}{v u:Value}{m k:Nat}(hv:Nt 4294967296 w v m)(hu:Nt 4294967296 w u k)(hm:m<Big)(hk:k<Big):
 Calls Tryz.prog 135 #[v,u] w (RetNt 4294967296 (m*k) w):=by
 obtain⟨a,n,cap,xs,rfl,hc,hd,hn,rfl,hw⟩:=hv
 obtain⟨a',n',cap',ys,rfl,hc',hd',hn',rfl,hw'⟩:=hu
 have hl:=len_big (.inr rfl) hn hm
 have hl':=len_big (.inr rfl) hn' hk
 rcases hw.open with rfl|⟨h0,b,off,rfl,hx⟩
 ·have:=mul_zero w a a' 0 n' cap cap' (.inl rfl)
  simpa [val] using this
 ·rcases hw'.open with rfl|⟨h0',b',off',rfl,hy⟩
  ·have:=mul_zero w (some ⟨b,off,none⟩) a' n 0 cap cap' (.inr rfl)
   simpa [val] using this
  ·exact mul_some w b off cap b' off' cap' n n' xs ys hl hl' h0 h0' hd hd' hx hy
def Ap(w:World)(base:Nat)(v:Value)(n:Nat)(zs:Nat→Nat):Prop:=w.ownsRow base 212 1 v n ((List.range n).map fun i=>Value.int .u32 (zs i:Nat))
def cat(zs:Nat→Nat)(n:Nat)(xs:Nat→Nat):Nat→Nat:=fun i=>if i<n then zs i else xs (i-n)
theorem cat_list(zs xs:Nat→Nat)(n m:Nat):
 ((List.range n).map fun i=>Value.int .u32 (zs i:Nat))++((List.range m).map fun i=>Value.int .u32 (xs i:Nat))=(List.range (n+m)).map fun i=>Value.int .u32 (cat zs n xs i:Nat):=by
 refine List.ext_getElem? fun i=> ?_
 by_cases h:i<n
 ·rw[List.getElem?_append_left (by simpa using h)]
  simp[cat,h,show i<n+m by omega]
 ·rw[List.getElem?_append_right (by simpa using Nat.le_of_not_lt h)]
  by_cases h2:i<n+m
  ·simp[cat,h,h2,show i-n<m by omega]
  ·simp[h2,show ¬i-n<m by omega]
theorem Ap.nil(w:World)(base:Nat)(zs:Nat→Nat):Ap w base (.slice none 0 0) 0 zs:=World.ownsRow_nil w base 212 1
theorem Ap.alloc{w:World}{base:Nat}{v:Value}{n:Nat}{zs:Nat→Nat}(h:Ap w base v n zs)(o:Obj):Ap (w.alloc o) base v n zs:=World.ownsRow.alloc h o
theorem Ap.congr{w:World}{base:Nat}{v:Value}{n:Nat}{zs ys:Nat→Nat}(h:Ap w base v n zs)(e:∀i,i<n→zs i=ys i):Ap w base v n ys:=by
 unfold Ap at*
 have:((List.range n).map fun i=>Value.int .u32 (zs i:Nat))=(List.range n).map fun i=>Value.int .u32 (ys i:Nat):=List.map_congr_left fun i hi=>by rw[e i (List.mem_range.1 hi)]
 rw[←this];exact h
theorem Ap.ws{w:World}{base:Nat}{v:Value}{n:Nat}{zs:Nat→Nat}(h:Ap w base v n zs):∃a cap,v= .slice a n cap∧n≤cap∧Ws w a n zs:=by
 obtain⟨hl,⟨rfl,rfl⟩|⟨g,cap,cur,rfl,hb,hg,hn,_,hcs,ht⟩⟩:=h
 ·exact⟨none,0,rfl,Nat.le_refl _,fun i hi=>by omega⟩
 ·refine⟨_,cap,rfl,hn,fun i hi=>⟨g,0,rfl,?_⟩⟩
  rw[Nat.zero_add]
  have hh:(cur.toList.take (n*1))[i]? =some (.int .u32 (zs i:Nat)):=by rw[ht];simp[hi]
  rw[Nat.mul_one,List.getElem?_take,if_pos hi,Array.getElem?_toList] at hh
  simp[World.cell?,hg,hh]
theorem Ap.kept{w w':World}{base:Nat}{v:Value}{n:Nat}{zs:Nat→Nat}(h:Ap w base v n zs)(k:Kept w w'):Ap w' base v n zs:=by
 refine World.ownsRow.kept (row:=none) h ⟨k.os,k.tape,k.output,k.size,fun b hb _=>k.old b hb⟩ ?_
 cases hv:v.ownBlock with
 |none=>exact .inl rfl
 |some _=>exact .inr (by simp)
theorem info_parts':∃i0,Tryz.prog.info? 212=some i0∧i0.zero=some (.int .u32 0)∧i0.size=1∧i0.bytes=4:=by
 obtain⟨i,hi,hzz⟩:=Option.map_eq_some_iff.1 info191
 simp only[Prod.mk.injEq] at hzz
 exact⟨i,hi,hzz.1,hzz.2.1,hzz.2.2⟩
theorem wpList_append_words{w:World}{ops:Array Oper}{rest:List Oper}{o:Oper}{act:Act}{Q:Exit→Act→World→Prop}(hgd:o.guard=none)(s x:Operand)(t:TypeId)
 (ho:o.op= .call {callee:=.builtin .append,args:=#[s,x],argTypes:=#[t,t]})(ht:Tryz.prog.underlying t=some (.slice 212))
 (w0:World)(hk:Kept w0 w)(v:Value)(n:Nat)(zs:Nat→Nat)(hs:act.eval s=v)(hown:Ap w w0.heap.size v n zs)
 (ad:Addr)(m c:Nat)(xs:Nat→Nat)(hx:act.eval x= .slice (some ad) m c)(hws:Ws w (some ad) m xs)(hb:n+m≤1099511627776)
 (h:∀v' w',Ap w' w0.heap.size v' (n+m) (cat zs n xs)→Kept w0 w'→wpList Tryz.prog ops Q rest (act.put o.dst v') w'):wpList Tryz.prog ops Q (o::rest) act w:=by
 obtain⟨i0,hi,hz0,hz1,hz2⟩:=info_parts'
 refine wpList_append_own w hgd s x t ho w0.heap.size 212 i0 (.int .u32 0) 1 4 ht hi hz0 hz1 hz2 rfl (by decide) v n _ hs hown ad m c ((List.range m).map fun i=>Value.int .u32 (xs i:Nat)) hx (by simp) ?_ ?_ (by unfold maxLen;omega) (by omega) hk.size ?_
 ·intro j u hu
  rw[List.getElem?_map] at hu
  obtain⟨i,hi,rfl⟩:=Option.map_eq_some_iff.1 hu
  obtain⟨hj,rfl⟩:=List.getElem?_eq_some_iff.1 hi
  rw[List.getElem_range]
  obtain⟨b,off,e,hc⟩:=hws j (by simpa using hj)
  cases e
  rw[show(Addr.add ⟨b,off,none⟩ j)=⟨b,off+j,none⟩ by unfold Addr.add;split<;>simp_all]
  exact hc
 ·intro u hu
  obtain⟨i,_,rfl⟩:=List.mem_map.1 hu
  rfl
 ·intro v' w' h1 h2 _
  rw[cat_list] at h1
  refine h v' w' h1 ?_
  refine⟨Nat.le_trans hk.size h2.size,fun b hbk=> ?_,h2.tape.trans hk.tape,h2.os.trans hk.os,h2.output.trans hk.output⟩
  rw[h2.block b (Nat.lt_of_lt_of_le hbk hk.size) (fun e=> ?_)]
  ·exact hk.old b hbk
  ·have:=(World.ownsRow.lt hown b e.symm).1
   omega
end Go.Proofs.YtancebninmoipaaGreatDoor
namespace Go.Dig
theorem pow32(k:Nat):(4294967296:Nat)^k=2^(32*k):=by rw[Nat.pow_mul]
theorem pow_cut{r:Nat}(h:r≤32):2^r*2^(32-r)=4294967296:=by rw[←Nat.pow_add,Nat.add_sub_cancel' h]
structure ShlI(xs:Nat→Nat)(wd r k:Nat)(zs:Nat→Nat):Prop where
 lt:∀j,zs j<4294967296
 top:zs (wd+k)<2^r
 zero:∀j,wd+k<j→zs j=0
 eq:val 4294967296 zs (wd+k+1)=val 4294967296 xs k*2^(32*wd+r)
theorem ShlI.start{xs:Nat→Nat}{wd r:Nat}:ShlI xs wd r 0 (fun _=>0):=
 ⟨fun _=>by decide,Nat.pow_pos (by decide),fun _ _=>rfl,by rw[val_zeros _ _ _ (fun _ _=>rfl)];simp[val]⟩
theorem shl_bound{x r:Nat}(hx:x<4294967296)(hr:r<32):x*2^r<18446744073709551616:=by
 have h1:2^r≤2^31:=Nat.pow_le_pow_right (by decide) (by omega)
 have h2:x*2^r≤4294967295*2^31:=Nat.mul_le_mul (by omega) h1
 have h3:4294967295*2^31<18446744073709551616:=by decide
 omega
theorem shl_hi{x r:Nat}(hx:x<4294967296):x*2^r/4294967296<2^r:=by
 refine Nat.div_lt_of_lt_mul ?_
 exact Nat.mul_lt_mul_of_pos_right hx (Nat.pow_pos (by decide))
theorem shl_or{z t r:Nat}(hz:z<2^r)(hr:r<32)(ht:t%2^r=0):z ||| t%4294967296=z+t%4294967296∧z+t%4294967296<4294967296:=by
 have hp:=pow_cut (Nat.le_of_lt hr)
 have hm:t%4294967296%2^r=0:=by
  rw[Nat.mod_mod_of_dvd _ ⟨_,hp.symm⟩];exact ht
 refine⟨?_,?_⟩
 ·rw[Nat.or_comm,nat_join r _ _ hm hz,Nat.add_comm]
 ·have hl:t%4294967296<4294967296:=Nat.mod_lt _ (by decide)
  generalize t%4294967296=l at*
  obtain⟨q,rfl⟩:∃q,l=2^r*q:=⟨l/2^r,by have:=Nat.mod_add_div l (2^r);omega⟩
  rw[←hp] at hl⊢
  have hq:q<2^(32-r):=Nat.lt_of_mul_lt_mul_left hl
  have:2^r*(q+1)≤2^r*2^(32-r):=Nat.mul_le_mul_left _ hq
  rw[Nat.mul_add] at this
  omega
theorem ShlI.step{xs zs:Nat→Nat}{wd r k:Nat}(h:ShlI xs wd r k zs)(hx:xs k<4294967296)(hr:r<32):
 ShlI xs wd r (k+1) (upd (upd zs (wd+k) (zs (wd+k) ||| xs k*2^r%4294967296)) (wd+k+1) (xs k*2^r/4294967296)):=by
 have ho:=shl_or h.top hr (Nat.mul_mod_left (xs k) (2^r))
 have hh:=shl_hi (r:=r) hx
 refine⟨fun j=> ?_,?_,fun j hj=> ?_,?_⟩
 ·unfold upd
  split
  ·have:2^r≤2^32:=Nat.pow_le_pow_right (by decide) (by omega)
   have h3:(2:Nat)^32=4294967296:=by decide
   omega
  ·split
   ·rw[ho.1];exact ho.2
   ·exact h.lt j
 ·rw[show wd+(k+1)=wd+k+1 by omega,upd_same];exact hh
 ·rw[upd_other _ (by omega),upd_other _ (by omega)];exact h.zero j (by omega)
 ·have e:=h.eq
  rw[show wd+(k+1)+1=(wd+k+1)+1 by omega,val_upd_top,val_upd_top,ho.1]
  simp only[val] at e⊢
  rw[Nat.add_mul (val 4294967296 xs k),←e]
  have hd:=Nat.mod_add_div (xs k*2^r) 4294967296
  have hp:xs k*4294967296^k*2^(32*wd+r)=(xs k*2^r)*4294967296^(wd+k):=by
   rw[Nat.pow_add 2,←pow32,Nat.pow_add];grind
  rw[hp]
  generalize xs k*2^r=t at*
  rw[Nat.pow_succ]
  generalize (4294967296:Nat)^(wd+k)=P at*
  generalize val 4294967296 zs (wd+k)=V at*
  generalize zs (wd+k)=z at*
  generalize t%4294967296=l at*
  generalize t/4294967296=d at*
  subst hd
  grind
def shrD(x y r:Nat):Nat:=(x+y*4294967296)/2^r%4294967296
theorem shrD_eq{x y r:Nat}(hx:x<4294967296)(hr:r<32):shrD x y r*2^r+x%2^r=x+y%2^r*4294967296:=by
 unfold shrD
 have hp:=pow_cut (Nat.le_of_lt hr)
 have hpos:0<2^r:=Nat.pow_pos (by decide)
 have hpos':0<2^(32-r):=Nat.pow_pos (by decide)
 generalize 2^r=R at*
 generalize 2^(32-r)=S at*
 have hx1:=Nat.mod_add_div x R
 have hxd:x/R<S:=Nat.div_lt_of_lt_mul (by rw[hp];exact hx)
 have e1:(x+y*4294967296)/R=x/R+y*S:=by
  rw[show y*4294967296=(y*S)*R by rw[←hp];grind,Nat.add_mul_div_right _ _ hpos]
 rw[e1]
 have hy1:=Nat.mod_add_div y R
 have e2:(x/R+y*S)%4294967296=x/R+y%R*S:=by
  have hlt:x/R+y%R*S<4294967296:=by
   have:y%R<R:=Nat.mod_lt _ hpos
   have:(y%R+1)*S≤R*S:=Nat.mul_le_mul_right _ (by omega)
   rw[Nat.add_mul] at this
   omega
  have h2:x/R+y*S=x/R+y%R*S+(y/R)*4294967296:=by
   have h3:y*S=(y%R+R*(y/R))*S:=by rw[hy1]
   rw[h3,←hp];grind
  rw[h2,Nat.add_mul_mod_self_right,Nat.mod_eq_of_lt hlt]
 rw[e2]
 generalize y%R=yr at*
 generalize x/R=xq at*
 generalize x%R=xr at*
 subst hx1
 rw[←hp]
 grind
theorem shr_inv{zs os:Nat→Nat}{r:Nat}(hr:r<32):∀{k:Nat},(∀i,i<k→zs i<4294967296)→(∀i,i<k→os i=shrD (zs i) (zs (i+1)) r)→
 val 4294967296 os k*2^r+zs 0%2^r=val 4294967296 zs k+zs k%2^r*4294967296^k
 |0,_,_=>by simp[val]
 |k+1,hz,ho=>by
  have ih:=shr_inv hr (k:=k) (fun i hi=>hz i (by omega)) (fun i hi=>ho i (by omega))
  have e:=shrD_eq (y:=zs (k+1)) (hz k (by omega)) hr
  rw[←ho k (by omega)] at e
  simp only[val]
  rw[Nat.pow_succ]
  generalize (4294967296:Nat)^k=P at*
  generalize zs 0%2^r=a at*
  generalize zs k%2^r=b at*
  generalize zs (k+1)%2^r=c at*
  generalize 2^r=R at*
  have:os k*R*P+b*P=zs k*P+c*4294967296*P:=by rw[←Nat.add_mul,e,Nat.add_mul]
  grind
theorem shr_val{zs os:Nat→Nat}{r m:Nat}(hr:r<32)(hz:∀i,i<m→zs i<4294967296)(h0:zs m=0)(ho:∀i,i<m→os i=shrD (zs i) (zs (i+1)) r):
 val 4294967296 os m=val 4294967296 zs m/2^r:=by
 have h:=shr_inv hr hz ho
 rw[h0] at h
 have hpos:0<2^r:=Nat.pow_pos (by decide)
 have hlt:zs 0%2^r<2^r:=Nat.mod_lt _ hpos
 simp only[Nat.zero_mod,Nat.zero_mul,Nat.add_zero] at h
 rw[←h,Nat.add_comm,Nat.add_mul_div_right _ _ hpos,Nat.div_eq_of_lt hlt,Nat.zero_add]
theorem val_split(B:Nat)(xs:Nat→Nat)(a:Nat):∀m,val B xs (a+m)=val B xs a+val B (fun i=>xs (a+i)) m*B^a
 |0=>by simp[val]
 |m+1=>by
  rw[show a+(m+1)=a+m+1 by omega]
  simp only[val]
  rw[val_split B xs a m,Nat.pow_add]
  grind
theorem val_drop{B:Nat}{xs:Nat→Nat}{a m:Nat}(hB:0<B)(hx:∀i,i<a→xs i<B):val B (fun i=>xs (a+i)) m=val B xs (a+m)/B^a:=by
 have h:=val_lt hx
 rw[val_split,Nat.add_mul_div_right _ _ (Nat.pow_pos hB),Nat.div_eq_of_lt h,Nat.zero_add]
end Go.Dig
namespace Go.Proofs.YtancebninmoipaaGreatDoor
open Go Go.RowKit Go.Dig
open Go.Eng (Kept KW)
theorem nt_zero(B:Nat)(w:World)(a:Option Addr)(cap:Nat):Nt B w (.slice a 0 cap) 0:=
 ⟨a,0,cap,fun _=>0,rfl,Nat.zero_le _,fun _ h=>by omega,.inl rfl,rfl,fun _ h=>by omega⟩
theorem wrap_u64_id{n:Nat}(h:n<18446744073709551616):IntKind.u64.wrap (n:Int)=n:=by rw[IntKind.wrap_u64];omega
set_option maxHeartbeats 4000000 in
set_option maxRecDepth 100000 in
theorem shl_some(w:World)(b off cap n s:Nat)(xs:Nat→Nat)(hn:n≤1024)(h0:0<n)(hs:s≤100000)
 (hxl:∀i,i<n→xs i<4294967296)
 (hx:∀i,i<n→w.cell? ⟨b,off+i,none⟩=some (.int .u32 (xs i:Nat))):
 Calls Tryz.prog 123 #[.slice (some ⟨b,off,none⟩) n cap,.int .i64 (s:Int)] w (RetNt 4294967296 (val 4294967296 xs n*2^s) w):=by
 have hmk:=fun w=>run_make_row' (P:=Tryz.prog) 22 212 (.int .u32 0) 4 Tryz.underlying22 info191 rfl .i64 .i64 (n+s/32+1) (by omega) (by omega) w
 have ec:((n+s/32+1:Nat):Int)=(n:Int)+(s:Int)/32+1:=by omega
 rw[ec] at hmk
 clear ec
 have HXL:=Lib.hid hxl;clear hxl
 have HX:=Lib.hid hx;clear hx
 have q1:((n:Int)==0)=false:=by simp;omega
 go_enter Tryz.func123,Tryz.ntmps123
 go_wp2
 clear hmk
 go_loopw [27] (fun i wr=>∃(k:Nat)(zs:Nat→Nat),k≤n∧i= .int .i64 (k:Int)∧ShlI xs (s/32) (s%32) k zs∧Row wr w.heap.size (n+s/32+1) zs∧Kept w wr) (fun i _=>n-(intOf i).toNat)
 case atStart=>exact⟨0,fun _=>0,Nat.zero_le _,rfl,ShlI.start,Row.made _ _,(Kept.refl _).alloc _⟩
 case round=>
  obtain⟨k,zs,hk,rfl,hsi,hrow,hkw⟩:=hrel
  by_cases hlt:k<n
  ·have h1:=hkw.cell (HX.out k hlt)
   have hxk:=HXL.out k hlt
   have h3:=hrow.cell (i:=s/32+k) (by omega)
   have h4:=hrow.frozen (s/32+k)
   have h5:=(hrow.cell (i:=s/32+k+1) (by omega))
   have h6:=hrow.frozen (s/32+k+1)
   have hzk:=hsi.lt (s/32+k)
   have hst:=Lib.hid (hsi.step hxk (Nat.mod_lt _ (by decide)))
   have hb1:=Lib.hid (shl_bound (r:=s%32) hxk (Nat.mod_lt _ (by decide)))
   clear hsi
   go_wp2
   go_roundw
   case rel=>
    refine⟨k+1,_,by omega,by go_num,hst.out,?_,(hkw.setCell (Nat.le_refl _) _).setCell (Nat.le_refl _) _⟩
    have e1:IntKind.u64.wrap ((xs k:Int)*2^(s%32))=((xs k*2^(s%32):Nat):Int):=by
     rw[←wrap_u64_id hb1.out];congr 1
    have e2:(((xs k*2^(s%32):Nat):Int)%4294967296)=((xs k*2^(s%32)%4294967296:Nat):Int):=by omega
    have e3:(((xs k*2^(s%32):Nat):Int)/4294967296%4294967296)=((xs k*2^(s%32)/4294967296:Nat):Int):=by have:=hb1.out;omega
    rw[e1,e2,e3,u32_or_nat _ _ hzk (Nat.mod_lt _ (by decide))]
    exact(hrow.set _ _).set _ _
   case measure=>simp[intOf];omega
  ·obtain rfl:n=k:=by omega
   go_wp2_with(go_at_call 130;refine(of_calls _ _ _ _ zs (by omega) (Nat.le_refl _) (hrow.ws (Nat.le_refl _))).mono ?_;rintro e w' ⟨rfl,rfl⟩)
   go_ret
   refine⟨_,rfl,?_,hkw⟩
   have:=nt_of (B:=4294967296) (cap:=n+s/32+1) (Nat.le_refl _) (fun i _=>hsi.lt i) (hrow.ws (Nat.le_refl _))
   rw[Nat.add_comm n,hsi.eq,Nat.div_add_mod] at this
   rw[Nat.add_comm n]
   exact this
theorem shl_zero(w:World)(a:Option Addr)(cap:Nat)(v:Value):
 Calls Tryz.prog 123 #[.slice a 0 cap,v] w (RetNt 4294967296 0 w):=by
 go_enter Tryz.func123,Tryz.ntmps123
 go_wp2
 go_ret
 exact⟨_,rfl,nt_zero _ _ _ _,Kept.refl _⟩
theorem shl_calls{w:World}{v:Value}{m s:Nat}(hv:Nt 4294967296 w v m)(hm:m<Big)(hs:s≤100000):
 Calls Tryz.prog 123 #[v,.int .i64 (s:Int)] w (RetNt 4294967296 (m*2^s) w):=by
 obtain⟨a,n,cap,xs,rfl,hc,hd,hn,rfl,hw⟩:=hv
 have hl:=len_big (.inr rfl) hn hm
 rcases hw.open with rfl|⟨h0,b,off,rfl,hx⟩
 ·have:=shl_zero w a cap (.int .i64 (s:Int))
  simpa [val] using this
 ·exact shl_some w b off cap n s xs hl h0 hs hd hx
theorem or_u64{x y:Nat}(hx:x<4294967296)(hy:y<4294967296):bits BinOp.or IntKind.u64 (x:Int) ((y:Int)*4294967296)=((x+y*4294967296:Nat):Int):=by
 have h:=u64_or_nat x (y*4294967296) (by omega) (by omega)
 rw[Nat.or_comm,nat_join 32 _ _ (by simp) (by simpa using hx),Nat.add_comm] at h
 rw[←h]
 congr 1
theorem shr_cell{x y r:Nat}:(((x+y*4294967296:Nat):Int)/2^r%4294967296)=(shrD x y r:Nat):=by
 unfold shrD
 simp
theorem shrD_lt(x y r:Nat):shrD x y r<4294967296:=Nat.mod_lt _ (by decide)
def from'(xs:Nat→Nat)(n wd:Nat):Nat→Nat:=fun i=>if wd+i<n then xs (wd+i) else 0
set_option maxHeartbeats 4000000 in
set_option maxRecDepth 100000 in
theorem shr_some(w:World)(b off cap n s:Nat)(xs:Nat→Nat)(hn:n≤1024)(h0:s/32<n)(hs:s≤100000)
 (hxl:∀i,i<n→xs i<4294967296)
 (hx:∀i,i<n→w.cell? ⟨b,off+i,none⟩=some (.int .u32 (xs i:Nat))):
 Calls Tryz.prog 195 #[.slice (some ⟨b,off,none⟩) n cap,.int .i64 (s:Int)] w (RetNt 4294967296 (val 4294967296 xs n/2^s) w):=by
 have hmk:=fun w=>run_make_row' (P:=Tryz.prog) 22 212 (.int .u32 0) 4 Tryz.underlying22 info191 rfl .i64 .i64 (n-s/32) (by omega) (by omega) w
 have ec:((n-s/32:Nat):Int)=(n:Int)-(s:Int)/32:=by omega
 rw[ec] at hmk
 clear ec
 have HXL:=Lib.hid hxl;clear hxl
 have HX:=Lib.hid hx;clear hx
 have hge:decide ((n:Int)≤(s:Int)/32)=false:=by simp;omega
 go_enter Tryz.func195,Tryz.ntmps195
 go_wp2
 clear hmk
 go_loopw [26] (fun i wr=>∃(k:Nat)(zs:Nat→Nat),k≤n-s/32∧i= .int .i64 (k:Int)∧(∀j,zs j<4294967296)∧(∀j,j<k→zs j=shrD (from' xs n (s/32) j) (from' xs n (s/32) (j+1)) (s%32))∧Row wr w.heap.size (n-s/32) zs∧Kept w wr) (fun i _=>n-s/32-(intOf i).toNat)
 case atStart=>exact⟨0,fun _=>0,Nat.zero_le _,rfl,fun _=>(by decide:(0:Nat)<4294967296),fun _ h=>by omega,Row.made _ _,(Kept.refl _).alloc _⟩
 case round=>
  obtain⟨k,zs,hk,rfl,hz1,hz2,hrow,hkw⟩:=hrel
  have HZ1:=Lib.hid hz1;clear hz1
  have HZ2:=Lib.hid hz2;clear hz2
  by_cases hlt:k<n-s/32
  ·have h1:=hkw.cell (HX.out (s/32+k) (by omega))
   have hxk:=HXL.out (s/32+k) (by omega)
   have h3:=hrow.cell (i:=k) (by omega)
   have h4:=hrow.frozen k
   by_cases hlt2:s/32+k+1<n
   ·have h5:=hkw.cell (HX.out (s/32+k+1) hlt2)
    have hxk2:=HXL.out (s/32+k+1) hlt2
    go_wp2
    go_roundw
    case rel=>
     refine⟨k+1,upd zs k (shrD (xs (s/32+k)) (xs (s/32+k+1)) (s%32)),by omega,by go_num,fun j=> ?_,fun j hj=> ?_,?_,hkw.setCell (Nat.le_refl _) _⟩
     ·unfold upd;split
      ·exact shrD_lt _ _ _
      ·exact HZ1.out j
     ·unfold upd;split
      ·subst j;simp only[from'];rw[if_pos (by omega),if_pos (by omega),←Nat.add_assoc]
      ·exact HZ2.out j (by omega)
     ·rw[or_u64 hxk hxk2,shr_cell];exact hrow.set _ _
    case measure=>simp[intOf];omega
   ·go_wp2
    go_roundw
    case rel=>
     refine⟨k+1,upd zs k (shrD (xs (s/32+k)) 0 (s%32)),by omega,by go_num,fun j=> ?_,fun j hj=> ?_,?_,hkw.setCell (Nat.le_refl _) _⟩
     ·unfold upd;split
      ·exact shrD_lt _ _ _
      ·exact HZ1.out j
     ·unfold upd;split
      ·subst j;simp only[from'];rw[if_pos (by omega),if_neg (by omega)]
      ·exact HZ2.out j (by omega)
     ·have e:=shr_cell (x:=xs (s/32+k)) (y:=0) (r:=s%32)
      simp only[Nat.zero_mul,Nat.add_zero] at e
      rw[e];exact hrow.set _ _
    case measure=>simp[intOf];omega
  ·obtain rfl:k=n-s/32:=by omega
   go_wp2_with(go_at_call 130;refine(of_calls _ _ _ _ zs (by omega) (Nat.le_refl _) (hrow.ws (Nat.le_refl _))).mono ?_;rintro e w' ⟨rfl,rfl⟩)
   go_ret
   refine⟨_,rfl,?_,hkw⟩
   have:=nt_of (B:=4294967296) (cap:=n-s/32) (Nat.le_refl _) (fun i _=>HZ1.out i) (hrow.ws (Nat.le_refl _))
   rw[shr_val (zs:=from' xs n (s/32)) (r:=s%32) (Nat.mod_lt _ (by decide)) (fun i hi=> ?_) ?_ HZ2.out] at this
   ·have e:val 4294967296 (from' xs n (s/32)) (n-s/32)=val 4294967296 xs n/4294967296^(s/32):=by
     have h1:=val_drop (B:=4294967296) (xs:=xs) (a:=s/32) (m:=n-s/32) (by decide) (fun i hi=>HXL.out i (by omega))
     rw[show s/32+(n-s/32)=n by omega] at h1
     rw[←h1]
     exact val_congr fun i hi=>by simp only[from'];rw[if_pos (by omega)]
    rw[e,pow32,Nat.div_div_eq_div_mul,←Nat.pow_add,Nat.div_add_mod] at this
    exact this
   ·simp only[from'];rw[if_neg (by omega)]
   ·simp only[from'];rw[if_pos (by omega)];exact HXL.out _ (by omega)
theorem shr_zero(w:World)(a:Option Addr)(n cap s:Nat)(hs:s≤100000)(hn:n≤1024)(h:n≤s/32):
 Calls Tryz.prog 195 #[.slice a n cap,.int .i64 (s:Int)] w (RetNt 4294967296 0 w):=by
 have hge:decide ((n:Int)≤(s:Int)/32)=true:=by simp;omega
 go_enter Tryz.func195,Tryz.ntmps195
 go_wp2
 go_ret
 exact⟨_,rfl,nt_zero _ _ _ _,Kept.refl _⟩
theorem shr_calls{w:World}{v:Value}{m s:Nat}(hv:Nt 4294967296 w v m)(hm:m<Big)(hs:s≤100000):
 Calls Tryz.prog 195 #[v,.int .i64 (s:Int)] w (RetNt 4294967296 (m/2^s) w):=by
 obtain⟨a,n,cap,xs,rfl,hc,hd,hn,rfl,hw⟩:=hv
 have hl:=len_big (.inr rfl) hn hm
 by_cases h:s/32<n
 ·rcases hw.open with rfl|⟨h0,b,off,rfl,hx⟩
  ·omega
  ·exact shr_some w b off cap n s xs hl h hs hd hx
 ·have:=shr_zero w a n cap s hs hl (by omega)
  have h1:=val_lt hd
  rw[pow32] at h1
  have h2:2^(32*n)≤2^s:=Nat.pow_le_pow_right (by decide) (by omega)
  rw[Nat.div_eq_of_lt (by omega)]
  exact this
end Go.Proofs.YtancebninmoipaaGreatDoor
namespace Go.Dig
theorem val_upd_mid{B:Nat}{zs:Nat→Nat}{p x:Nat}:∀{n:Nat},p<n→val B (upd zs p x) n+zs p*B^p=val B zs n+x*B^p
 |0,h=>by omega
 |n+1,h=>by
  by_cases hp:p=n
  ·subst hp
   rw[val_upd_top];simp only[val];omega
  ·have ih:=val_upd_mid (B:=B) (zs:=zs) (x:=x) (show p<n by omega)
   simp only[val]
   rw[upd_other zs (by omega)]
   omega
structure DivI(B:Nat)(xs:Nat→Nat)(n d k:Nat)(zs:Nat→Nat)(r:Nat):Prop where
 lt:∀j,zs j<B
 rlt:r<d
 zero:∀j,j<k→zs j=0
 eq:∃Q,val B zs n=Q*B^k∧val B xs n=val B xs k+(d*Q+r)*B^k
theorem DivI.start{B:Nat}{xs:Nat→Nat}{n d:Nat}(hB:0<B)(hd:0<d):DivI B xs n d n (fun _=>0) 0:=
 ⟨fun _=>hB,hd,fun _ _=>rfl,0,by rw[val_zeros _ _ _ (fun _ _=>rfl)];simp,by simp⟩
theorem div_bound{B r d x:Nat}(hr:r<d)(hx:x<B):r*B+x<d*B:=by
 have:(r+1)*B≤d*B:=Nat.mul_le_mul_right _ hr
 rw[Nat.add_mul] at this
 omega
theorem DivI.step{B:Nat}{xs zs:Nat→Nat}{n d k r:Nat}(h:DivI B xs n d (k+1) zs r)(hk:k<n)(hx:xs k<B):
 DivI B xs n d k (upd zs k ((r*B+xs k)/d)) ((r*B+xs k)%d):=by
 have hb:=div_bound h.rlt hx
 have hd:0<d:=by have:=h.rlt;omega
 obtain⟨Q,e1,e2⟩:=h.eq
 refine⟨fun j=> ?_,Nat.mod_lt _ hd,fun j hj=> ?_,Q*B+(r*B+xs k)/d,?_,?_⟩
 ·unfold upd;split
  ·exact Nat.div_lt_of_lt_mul hb
  ·exact h.lt j
 ·rw[upd_other _ (by omega)];exact h.zero j (by omega)
 ·have:=val_upd_mid (B:=B) (zs:=zs) (x:=(r*B+xs k)/d) hk
  rw[h.zero k (by omega),Nat.zero_mul,Nat.add_zero,e1,Nat.pow_succ] at this
  rw[this];grind
 ·rw[e2]
  simp only[val]
  rw[Nat.pow_succ]
  have hm:=Nat.mod_add_div (r*B+xs k) d
  generalize (r*B+xs k)/d=q at*
  generalize hs:(r*B+xs k)%d=r' at*
  generalize B^k=P at*
  have:(d*(Q*B+q)+r')*P=(d*Q*B+(r'+d*q))*P:=by grind
  rw[this,hm]
  grind
theorem DivI.done{B:Nat}{xs zs:Nat→Nat}{n d r:Nat}(h:DivI B xs n d 0 zs r):val B zs n=val B xs n/d∧r=val B xs n%d:=by
 obtain⟨Q,e1,e2⟩:=h.eq
 have hr:=h.rlt
 simp only[Nat.pow_zero,Nat.mul_one,val,Nat.zero_add] at e1 e2
 rw[e1,e2]
 constructor
 ·rw[Nat.mul_add_div (by omega),Nat.div_eq_of_lt hr,Nat.add_zero]
 ·rw[Nat.mul_add_mod,Nat.mod_eq_of_lt hr]
end Go.Dig
namespace Go.Proofs.YtancebninmoipaaGreatDoor
open Go Go.RowKit Go.Dig
open Go.Eng (Kept KW)
def RetNtR(B m:Nat)(r:Nat)(w:World)(e:Ending)(w':World):Prop:=∃v,e= .returned (.tuple #[v,.int .u32 (r:Int)])∧Nt B w' v m∧Kept w w'
theorem or_u64'{x y:Nat}(hx:x<4294967296)(hy:y<4294967296):bits BinOp.or IntKind.u64 ((y:Int)*4294967296) (x:Int)=((y*4294967296+x:Nat):Int):=by
 have h:=u64_or_nat (y*4294967296) x (by omega) (by omega)
 rw[nat_join 32 _ _ (by simp) (by simpa using hx)] at h
 rw[←h]
 congr 1
theorem mod_id{q:Nat}(h:q<4294967296):((q:Int)%4294967296)=(q:Int):=by omega
set_option maxHeartbeats 4000000 in
set_option maxRecDepth 100000 in
theorem divs_some(w:World)(a:Option Addr)(cap n d:Nat)(xs:Nat→Nat)(hn:n≤1024)(hd0:0<d)(hd:d<4294967296)
 (hxl:∀i,i<n→xs i<4294967296)(hx:Ws w a n xs):
 Calls Tryz.prog 239 #[.slice a n cap,.int .u32 (d:Int)] w (RetNtR 4294967296 (val 4294967296 xs n/d) (val 4294967296 xs n%d) w):=by
 have hmk:=fun w=>run_make_row' (P:=Tryz.prog) 22 212 (.int .u32 0) 4 Tryz.underlying22 info191 rfl .i64 .i64 n (by omega) (by omega) w
 have HXL:=Lib.hid hxl;clear hxl
 have HX:=Lib.hid hx;clear hx
 go_enter Tryz.func239,Tryz.ntmps239
 go_wp2
 clear hmk
 go_loopw [7,8] (fun rr i wr=>∃(k r:Nat)(zs:Nat→Nat),k≤n∧i= .int .i64 ((k:Int)-1)∧rr= .int .u64 (r:Int)∧DivI 4294967296 xs n d k zs r∧Row wr w.heap.size n zs∧Kept w wr) (fun _ i _=>(intOf i+1).toNat)
 case atStart=>exact⟨n,0,fun _=>0,Nat.le_refl _,rfl,rfl,DivI.start (by decide) hd0,Row.made _ _,(Kept.refl _).alloc _⟩
 case round=>
  obtain⟨k,r,zs,hk,rfl,rfl,hdi,hrow,hkw⟩:=hrel
  cases k with
  |zero=>
   have hrl:=hdi.rlt
   go_wp2_with(go_at_call 130;refine(of_calls _ _ _ _ zs (by omega) (Nat.le_refl _) (hrow.ws (Nat.le_refl _))).mono ?_;rintro e w' ⟨rfl,rfl⟩)
   go_ret2
   have hdn:=hdi.done
   refine⟨.slice (some ⟨w.heap.size,0,none⟩) (trimN zs n) n,by rw[←hdn.2];rfl,?_,hkw⟩
   have:=nt_of (B:=4294967296) (cap:=n) (Nat.le_refl _) (fun i _=>hdi.lt i) (hrow.ws (Nat.le_refl _))
   rw[hdn.1] at this
   exact this
  |succ k=>
   obtain⟨b,off,rfl,hc⟩:=HX.out k (by omega)
   have h1:=hkw.cell hc
   have HC:=Lib.hid hc;clear hc
   have hxk:=HXL.out k (by omega)
   have h3:=hrow.cell (i:=k) (by omega)
   have h4:=hrow.frozen k
   have hrl:=hdi.rlt
   have hst:=Lib.hid (hdi.step (by omega) hxk)
   have horr:=or_u64' (x:=xs k) (y:=r) hxk (by omega)
   have hbd:=div_bound hrl hxk
   clear hdi
   go_wp2
   go_roundw
   case rel=>
    refine⟨k,(r*4294967296+xs k)%d,upd zs k ((r*4294967296+xs k)/d),by omega,rfl,by simp,hst.out,?_,hkw.setCell (Nat.le_refl _) _⟩
    have e1:(((r:Int)*4294967296+(xs k:Int))/(d:Int))%4294967296=(((r*4294967296+xs k)/d:Nat):Int):=by
     have h2:(r*4294967296+xs k)/d<4294967296:=Nat.div_lt_of_lt_mul hbd
     rw[show((r:Int)*4294967296+(xs k:Int))/(d:Int)=(((r*4294967296+xs k)/d:Nat):Int) by simp]
     exact mod_id h2
    rw[e1]
    exact hrow.set _ _
   case measure=>simp[intOf]
theorem divs_calls{w:World}{v:Value}{m d:Nat}(hv:Nt 4294967296 w v m)(hm:m<Big)(hd0:0<d)(hd:d<4294967296):
 Calls Tryz.prog 239 #[v,.int .u32 (d:Int)] w (RetNtR 4294967296 (m/d) (m%d) w):=by
 obtain⟨a,n,cap,xs,rfl,hc,hxd,hn,rfl,hw⟩:=hv
 exact divs_some w a cap n d xs (len_big (.inr rfl) hn hm) hd0 hd hxd hw
def two(x y:Nat):Nat→Nat:=fun j=>if j=0 then x else y
theorem ws_two(w:World)(x y:Nat):Ws (w.alloc (Obj.cells #[Value.int IntKind.u32 (x:Int),Value.int IntKind.u32 (y:Int)] 212)) (some ⟨w.heap.size,0,none⟩) 2 (two x y):=by
 have h:(w.alloc (Obj.cells #[Value.int IntKind.u32 (x:Int),Value.int IntKind.u32 (y:Int)] 212)).rowIs w.heap.size 212 2 (fun j=>.int .u32 (two x y j:Nat)):=
  World.rowIs_alloc w _ 212 _ fun i hi=>by
   match i,hi with
   |0,_=>rfl
   |1,_=>rfl
 exact Row.ws h (Nat.le_refl _)
set_option maxHeartbeats 400000 in
theorem small_calls(w:World)(m:Nat)(hm:m<18446744073709551616):Calls Tryz.prog 132 #[.int .u64 (m:Int)] w (RetNt 4294967296 m w):=by
 have hws:=ws_two w (m%4294967296) (m/4294967296)
 have e1:((m%4294967296:Nat):Int)=(m:Int)%4294967296:=by omega
 have e2:((m/4294967296:Nat):Int)=(m:Int)/4294967296:=by omega
 rw[e1,e2] at hws
 clear e1 e2
 go_enter Tryz.func132,Tryz.ntmps132
 go_wp2_with(go_at_call 130;refine(of_calls _ _ _ _ (two (m%4294967296) (m/4294967296)) (by omega) (Nat.le_refl _) hws).mono ?_;rintro e w' ⟨rfl,rfl⟩)
 go_ret
 refine⟨_,rfl,?_,(Kept.refl _).alloc _⟩
 have:=nt_of (B:=4294967296) (cap:=2) (Nat.le_refl _) (fun i _=> ?_) hws
 ·have ev:val 4294967296 (two (m%4294967296) (m/4294967296)) 2=m:=by simp[val,two];omega
  rw[ev] at this
  exact this
 ·unfold two;split<;>omega
theorem zero_calls{B:Nat}(hB:Bs B){w:World}{v:Value}{m:Nat}(hv:Nt B w v m):
 Calls Tryz.prog 131 #[v] w fun e w'=>e= .returned (.bool (decide (m=0)))∧w=w':=by
 obtain⟨a,n,cap,xs,rfl,hc,hxd,hn,rfl,hw⟩:=hv
 have hz:=Lib.hid (val_eq_zero hB.pos hn)
 go_enter Tryz.func131,Tryz.ntmps131
 go_wp2
 go_ret
 exact⟨ret_bool (by rw[Bool.eq_iff_iff];simp[hz.out]),rfl⟩
set_option maxHeartbeats 400000 in
theorem one_calls{w:World}{v:Value}{m:Nat}(hv:Nt 4294967296 w v m):
 Calls Tryz.prog 198 #[v] w fun e w'=>e= .returned (.bool (decide (m=1)))∧w=w':=by
 obtain⟨a,n,cap,xs,rfl,hc,hxd,hn,rfl,hw⟩:=hv
 by_cases h1:n=1
 ·subst h1
  obtain⟨b,off,rfl,hcell⟩:=hw 0 (by omega)
  have hcell0:w.cell? ⟨b,off,none⟩=some (.int .u32 (xs 0:Nat)):=hcell
  have ev:val 4294967296 xs 1=xs 0:=by simp[val]
  rw[ev]
  clear hcell hxd hn hw ev
  go_enter Tryz.func198,Tryz.ntmps198
  go_wp2
  go_ret
  exact⟨ret_bool (by rw[Bool.eq_iff_iff];simp;try omega),rfl⟩
 ·have hne:val 4294967296 xs n≠1:=by
   intro e
   have:=len_le_of_lt (B:=4294967296) (L:=1) (by decide) hn (by rw[e];decide)
   have h0:n=0:=by omega
   subst h0
   simp[val] at e
  have q1:((n:Int)==1)=false:=by simp;omega
  clear hxd hn hw
  go_enter Tryz.func198,Tryz.ntmps198
  go_wp2
  go_ret
  exact⟨ret_bool (by simp[hne]),rfl⟩
end Go.Proofs.YtancebninmoipaaGreatDoor
