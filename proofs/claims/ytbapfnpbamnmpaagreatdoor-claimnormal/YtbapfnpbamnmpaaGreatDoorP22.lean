/- A part of the proof that the text which Print makes of a parsed text is a normal form -/
import Derived.Test.YtbapfnpbamnmpaaGreatDoorP00
import Derived.Test.YtbapfnpbamnmpaaGreatDoorP21
import Derived.Defers
import Derived.Test.YtbapfnpbamnmpaaGreatDoorP05
import Derived.Deep.Upon
import Derived.Test.YtbapfnpbamnmpaaGreatDoorP07
import Derived.Laws.BytesString
import Derived.Lib.AppendZeros
import Derived.Test.YtbapfnpbamnmpaaGreatDoorP03
import Derived.RangeFuncNested
import Derived.RangeFuncBound
import Derived.RangeFuncCalls
import Derived.RangeFuncLeaves
import Derived.RangeFuncWrites
import Derived.Shelf.Abstract
import Derived.OwnWalkIn
import Derived.TacticsInMore
import Derived.LoopNIn
import Derived.LoopIn
import Derived.Maps.OwnIn
set_option maxHeartbeats 8000000
set_option maxRecDepth 100000
namespace Go.Proofs.YtbapfnpbamnmpaaGreatDoor
open Go Go.RowKit Go.Dig Go.Deep Go.Eng Go.Proofs.Tryz
variable{A B w w':World}{v:Value}{i:im}{D N b cap f k n n₀:Nat}{a:Option Addr}{name s:ByteArray}{arg op:Int}{F:Fence}
theorem RO(h:AR w v i)(a:cL w)(hf:i.fine=false):
 Calls prog 237 #[v] w λ e w'=>e= .panicked nS/\aa w w':=(zZ h a).mono λ _ _ ⟨k,_,h2⟩=>⟨h2 hf,k⟩
theorem Cd(h:AR w v i)(a:cL w)(hf:i.fine=true):
 Calls prog 237 #[v] w λ e w'=>∃v',e= .returned v'/\Sv w' v' i/\aa w w':=(zZ h a).mono λ e w' ⟨k,h1,_⟩=>by
 obtain⟨v,e1,hs⟩:=h1 hf;exact⟨v,e1,hs,k⟩
def IvB(w:World)(b:Nat)(i:im):Prop:=
 ∃a n c a' n' c' d m e d' m' e',aD w b #[.bool i.s1,.slice a n c,.slice a' n' c',.bool i.s2,.slice d m e,.slice d' m' e',.bool i.li,.bool i.hi] 39/\
  AR w (.agg #[.bool i.s1,.slice a n c,.slice a' n' c',.bool i.s2,.slice d m e,.slice d' m' e',.bool i.li,.bool i.hi]) i
theorem IvB.kept(h:IvB w b i)(k:aa w w'):IvB w' b i:=by
 obtain⟨a,n,c,a',f,j,d,m,e,g,m',e',h1,h2⟩:=h;exact⟨a,n,c,a',f,j,d,m,e,g,m',e',h1.kept k,h2.kept k⟩
theorem U1(q1 h li hi a:Bool)(x1:Option Addr)(x2 x3:Nat)(x4:Option Addr)(x5 x6:Nat)(g:Option Addr)(f e:Nat)(d:Option Addr)(c b:Nat)(w:World):
 (Instr.field 302 (.agg #[.bool q1,.slice x1 x2 x3,.slice x4 x5 x6,.bool h,.slice g f e,.slice d c b,.bool li,.bool hi,.bool a]) 4).run prog w= .ok (.bool a) w:=by kernel_rfl
theorem Nx(hv:IvB w b i)(v:cL w)(hf:i.fine=true):
 Calls prog 243 #[.pointer (some ⟨b,0,none⟩)] w λ e w'=>e= .returned (.bool i.void)/\aa w w':=by
 obtain⟨a,n,c,a',y,E,d,m,e,z,m',e',hb,h⟩:=hv;obtain⟨D,c1,c2,c3,c4,C,B,A,_⟩:=hb.GO;have hr:=Cd h v hf;clear h hb;obtain⟨f,g⟩:∃f,i.void=f:=⟨_,rfl⟩
 have j:=Lib.hid g;rw[g]
 clear g;go_enter func243,ntmps243;go_wp2_with fail
 refine hr.mono ?_;rintro _ x ⟨v1,rfl,hs,t⟩
 obtain⟨x1,x2,x3,x4,x5,x6,r,q,p,o,l,k,rfl,_⟩:=hs;generalize (i.s1&&decide (0<i.N1))=q1;generalize (i.s2&&decide (0<i.N2))=s;rw[j.out]
 have u:=U1 q1 s i.li i.hi f x1 x2 x3 x4 x5 x6 r q p o l k;go_wp2;go_ret;exact⟨rfl,t⟩
theorem JS(hv:IvB w b i)(g:cL w)(hf:i.fine=false):
 Calls prog 243 #[.pointer (some ⟨b,0,none⟩)] w λ e w'=>e= .panicked nS/\aa w w':=by
 obtain⟨a,n,c,a',k,s,d,m,e,l,m',e',hb,h⟩:=hv;obtain⟨r,c1,c2,c3,c4,q,p,o,_⟩:=hb.GO;have hr:=RO h g hf;clear h hb;go_enter func243,ntmps243;go_wp2_with fail
 refine hr.mono ?_;rintro _ j ⟨rfl,f⟩
 exact⟨rfl,rfl,f⟩
theorem U2(hv:IvB w b i)(k:cL w)(hf:i.fine=true):
 Calls prog 235 #[.func (.func 243) #[] #[.pointer (some ⟨b,0,none⟩)]] w λ e w'=>e= .returned (.tuple #[.bool i.void,.int .i64 0])/\aa w w':=by
 have n:∀(fn:Fn)(first cap:Array Value)(w:World),(Instr.makeFunc fn first cap).run prog w= .ok (.func fn first cap) w:=λ _ _ _ _=>rfl;have h:aa w ((w.alloc (.cells #[.bool false] 4)).alloc (.cells #[.int .i64 0] 32)):=((aa.refl w).alloc _).alloc _;have e1:(w.alloc (.cells #[.bool false] 4)).heap.size=w.heap.size+1:=by simp[go_sem]
 have c:=(aD.new w #[.bool false] 4).kept ((aa.refl _).alloc (.cells #[.int .i64 0] 32))
 have a:=aD.new (w.alloc (.cells #[.bool false] 4)) #[.int .i64 0] 32;rw[e1] at a;clear e1;have o:=Nx (hv.kept h) (k.kept h) hf;clear hv k;generalize i.void=r at*;go_enter_defers func235,ntmps235;go_wp2_with fail
 generalize (w.alloc (.cells #[.bool false] 4)).alloc (.cells #[.int .i64 0] 32)=q at*;generalize j:w.heap.size=d at c a⊢;have l:=Lib.hid j;clear j;refine o.mono ?_;rintro _ p ⟨rfl,g⟩
 have c:=c.kept g;have a:=a.kept g;obtain⟨c1,f1⟩:=c.rp;obtain⟨c2,t⟩:=a.rp;go_wp2;refine leaves_cons (f:=318) (args:=#[.pointer (some ⟨d,0,none⟩),.pointer (some ⟨d+1,0,none⟩)]) (by simp) (by simp[go_sem]) ?_;refine(Nw d (d+1) _).mono ?_;rintro e s m ⟨rfl,rfl,rfl⟩
 simp[Leaves,settle,results,results235,go_sem,c1,c2]
 exact((h.trans g).but (st1 ..) (by have:=l.out;omega)).but (st1 ..) (by have:=l.out;omega)
theorem YE(hv:IvB w b i)(l:cL w)(hf:i.fine=false):
 Calls prog 235 #[.func (.func 243) #[] #[.pointer (some ⟨b,0,none⟩)]] w λ e w'=>e= .returned (.tuple #[.bool false,.int .i64 1])/\aa w w':=by
 have o:∀(fn:Fn)(first cap:Array Value)(w:World),(Instr.makeFunc fn first cap).run prog w= .ok (.func fn first cap) w:=λ _ _ _ _=>rfl;have j:aa w ((w.alloc (.cells #[.bool false] 4)).alloc (.cells #[.int .i64 0] 32)):=((aa.refl w).alloc _).alloc _;have e1:(w.alloc (.cells #[.bool false] 4)).heap.size=w.heap.size+1:=by simp[go_sem]
 have c:=(aD.new w #[.bool false] 4).kept ((aa.refl _).alloc (.cells #[.int .i64 0] 32))
 have a:=aD.new (w.alloc (.cells #[.bool false] 4)) #[.int .i64 0] 32;rw[e1] at a;clear e1;have p:=JS (hv.kept j) (l.kept j) hf;clear hv l;go_enter_defers func235,ntmps235;go_wp2_with fail
 generalize (w.alloc (.cells #[.bool false] 4)).alloc (.cells #[.int .i64 0] 32)=r at*;generalize k:w.heap.size=d at c a⊢;have m:=Lib.hid k;clear k;refine p.mono ?_;rintro _ q ⟨rfl,h⟩
 have c:=c.kept h;have a:=a.kept h;refine leaves_cons (f:=318) (args:=#[.pointer (some ⟨d,0,none⟩),.pointer (some ⟨d+1,0,none⟩)]) (by simp) (by simp[go_sem]) ?_;refine(GZ d (d+1) _ c a (by omega)).mono ?_;rintro e s n ⟨rfl,rfl,w3,g,rfl⟩
 obtain⟨c1,f1⟩:=(c.kept g).rp;obtain⟨c2,t⟩:=(a.kept g).rp;simp[Leaves,settle,results,results235,go_sem,c1,c2,Nu]
 exact((((j.trans h).trans g).but (st1 ..) (by have:=m.out;omega)).but (st1 ..) (by have:=m.out;omega))
theorem uT(h:AR w v i)(f:cL w):
 Calls prog 149 #[v] w λ e w'=>e= .returned (.tuple #[.bool (i.fine&&i.void),.int .i64 (if i.fine then 0 else 1)])/\aa w w':=by
 have r:∀(fn:Fn)(first cap:Array Value)(w:World),(Instr.makeFunc fn first cap).run prog w= .ok (.func fn first cap) w:=λ _ _ _ _=>rfl;have l:=h;obtain⟨a,n,c,a',g,p,d,m,e,o,m',e',rfl,_⟩:=h;have b:aa w (w.alloc (.cells #[.bool i.s1,.slice a n c,.slice a' g p,.bool i.s2,.slice d m e,.slice o m' e',.bool i.li,.bool i.hi] 39)):=(aa.refl w).alloc _;have hb:IvB (w.alloc (.cells #[.bool i.s1,.slice a n c,.slice a' g p,.bool i.s2,.slice d m e,.slice o m' e',.bool i.li,.bool i.hi] 39)) w.heap.size i:=⟨a,n,c,a',g,p,d,m,e,o,m',e',aD.new ..,l.kept b⟩
 cases hf:i.fine with
 |true=>
  have j:=U2 hb (f.kept b) hf;clear hb l f;go_enter func149,ntmps149;go_wp2_with(go_at_call 235;refine j.mono ?_;rintro e q ⟨rfl,k⟩)
  go_ret2;exact⟨rfl,b.trans k⟩
 |false=>
  have j:=YE hb (f.kept b) hf;clear hb l f;go_enter func149,ntmps149;go_wp2_with(go_at_call 235;refine j.mono ?_;rintro e q ⟨rfl,k⟩)
  go_ret2;exact⟨rfl,b.trans k⟩
structure aL where
 name:ByteArray
 iv:im
def AS(w:World)(a:Option Addr)(n cap:Nat)(l:List aL):Prop:=
 n=l.length/\n<=cap/\n<4611686018427387904/\∀(i:Nat)(h:i<l.length),∃(b off:Nat)(s1:Bool)(a1:Option Addr)(n1 c1:Nat)(a2:Option Addr)(n2 c2:Nat)(s2:Bool)(a3:Option Addr)(n3 c3:Nat)(a4:Option Addr)(n4 c4:Nat)(p q:Bool),
  a=some ⟨b,off,none⟩/\w.cell? ⟨b,off+i*9,none⟩=some (.string l[i].name)/\
  w.cell? ⟨b,off+i*9+1,none⟩=some (.bool s1)/\w.cell? ⟨b,off+i*9+2,none⟩=some (.slice a1 n1 c1)/\w.cell? ⟨b,off+i*9+3,none⟩=some (.slice a2 n2 c2)/\
  w.cell? ⟨b,off+i*9+4,none⟩=some (.bool s2)/\w.cell? ⟨b,off+i*9+5,none⟩=some (.slice a3 n3 c3)/\w.cell? ⟨b,off+i*9+6,none⟩=some (.slice a4 n4 c4)/\
  w.cell? ⟨b,off+i*9+7,none⟩=some (.bool p)/\w.cell? ⟨b,off+i*9+8,none⟩=some (.bool q)/\
  AR w (.agg #[.bool s1,.slice a1 n1 c1,.slice a2 n2 c2,.bool s2,.slice a3 n3 c3,.slice a4 n4 c4,.bool p,.bool q]) l[i].iv
theorem AS.kept{l:List aL}(h:AS w a n cap l)(k:aa w w'):AS w' a n cap l:=by
 obtain⟨hn,hc,hb,hi⟩:=h;refine⟨hn,hc,hb,λ i h=> ?_⟩
 obtain⟨b,off,s1,a1,n1,c1,a2,n2,c2,s2,a3,n3,c3,a4,n4,c4,p,q,ha,j,h1,h2,h3,g,f,e,d,c,hv⟩:=hi i h;exact⟨b,off,s1,a1,n1,c1,a2,n2,c2,s2,a3,n3,c3,a4,n4,c4,p,q,ha,k.cell j,k.cell h1,k.cell h2,k.cell h3,k.cell g,k.cell f,k.cell e,k.cell d,k.cell c,hv.kept k⟩
def cH:List aL->Nat->ByteArray->Int
 |[],_,_=> -1
 |s::r,k,nm=>if (s.name.toList==nm.toList)=true then(k:Int) else cH r (k+1) nm
theorem J0{l:List aL}(h:k<l.length)(nm:ByteArray):cH (l.drop k) k nm=if (l[k].name.toList==nm.toList)=true then(k:Int) else cH (l.drop (k+1)) (k+1) nm:=by
 rw[List.drop_eq_getElem_cons h,cH]
theorem NA{l:List aL}(nm:ByteArray):cH (l.drop l.length) l.length nm= -1:=by simp[cH]
theorem J1{bx:Nat}{nm nk:ByteArray}(hb:w.cell? ⟨bx,0,none⟩=some (.string nm))(s1:Bool)(a1:Option Addr)(n1 c1:Nat)(a2:Option Addr)(n2 c2:Nat)(s2:Bool)(a3:Option Addr)(n3 c3:Nat)(a4:Option Addr)(n4 c4:Nat)(p q:Bool):
 Calls prog 228 #[.agg #[.string nk,.bool s1,.slice a1 n1 c1,.slice a2 n2 c2,.bool s2,.slice a3 n3 c3,.slice a4 n4 c4,.bool p,.bool q],.pointer (some ⟨bx,0,none⟩)] w λ e w'=>e= .returned (.bool (nk.toList==nm.toList))/\aa w w':=by
 have a:aa w (w.alloc (.cells #[.string nk,.bool s1,.slice a1 n1 c1,.slice a2 n2 c2,.bool s2,.slice a3 n3 c3,.slice a4 n4 c4,.bool p,.bool q] 41)):=(aa.refl w).alloc _;have b:=a.cell hb;go_enter func228,ntmps228;go_wp2;go_ret;exact⟨rfl,a⟩
theorem AO{l:List aL}(h:AS w a n cap l){bx:Nat}{nm:ByteArray}(hb:w.cell? ⟨bx,0,none⟩=some (.string nm)):
 Calls prog 227 #[.slice a n cap,.func (.func 228) #[] #[.pointer (some ⟨bx,0,none⟩)]] w λ e w'=>e= .returned (.int .i64 (cH l 0 nm))/\aa w w':=by
 obtain⟨rfl,hc,B,hi⟩:=h;go_enter func227,ntmps227;go_wp2;go_loopw [8] (λ s wr=>∃k:Nat,k<=l.length/\s= .int .i64 (k:Int)/\cH (l.drop k) k nm=cH l 0 nm/\aa w wr) (λ s _=>l.length-(intOf s).toNat)
 case atStart=>exact⟨0,eo _,rfl,rfl,aa.refl w⟩
 case round=>
  obtain⟨k,A,rfl,j,c⟩:=hrel;have i:=Lib.hid j;clear j;by_cases o:k<l.length
  ·obtain⟨b,off,s1,a1,n1,c1,a2,n2,c2,s2,a3,n3,c3,a4,n4,c4,p,q,rfl,y,h1,h2,h3,x,v,u,t,r,-⟩:=hi k o;clear hi;have hs:=Lib.hid (J0 o nm)
   generalize m:l[k].name=nk at*;have C:=Lib.hid m;clear m;replace y:=c.cell y;replace h1:=c.cell h1;replace h2:=c.cell h2;replace h3:=c.cell h3;replace x:=c.cell x;replace v:=c.cell v;replace u:=c.cell u;replace t:=c.cell t;replace r:=c.cell r;have f:=J1 (nk:=nk) (c.cell hb) s1 a1 n1 c1 a2 n2 c2 s2 a3 n3 c3 a4 n4 c4 p q;cases d:(nk.toList==nm.toList)
   ·rw[d] at f;go_wp2_with(go_at_call 228;refine f.mono ?_;rintro e z ⟨rfl,g⟩)
    go_roundw
    case rel=>exact⟨k+1,by omega,by go_num,by rw[<-i.out,hs.out,d];rfl,c.trans g⟩
    case measure=>simp[intOf];omega
   ·rw[d] at f;go_wp2_with(go_at_call 228;refine f.mono ?_;rintro e z ⟨rfl,g⟩)
    go_ret;exact⟨by rw[<-i.out,hs.out,d];rfl,c.trans g⟩
  ·obtain rfl:l.length=k:=by omega
   clear hi;go_wp2;go_ret;exact⟨by rw[<-i.out,NA];rfl,c⟩
theorem vK{l:List aL}(h:AS w a n cap l)(nm:ByteArray):
 Calls prog 134 #[.slice a n cap,.string nm] w λ e w'=>e= .returned (.int .i64 (cH l 0 nm))/\aa w w':=by
 have b:aa w (w.alloc (.cells #[.string nm] 9)):=(aa.refl w).alloc _;have f:=AO (h.kept b) (bx:=w.heap.size) (nm:=nm) (aD.new w #[.string nm] 9).rp.1;have c:∀(fn:Fn)(first cap:Array Value)(w:World),(Instr.makeFunc fn first cap).run prog w= .ok (.func fn first cap) w:=λ _ _ _ _=>rfl;go_enter func134,ntmps134;go_wp2_with(go_at_call 227;refine f.mono ?_;rintro e g ⟨rfl,d⟩)
 go_ret;exact⟨rfl,b.trans d⟩
def gY(e:TypeId)(z:Value)(sz D5:Nat):Prop:=∃i,prog.info? e=some i/\i.zero=some z/\i.size=sz/\i.bytes=D5
theorem mD{e:TypeId}{z:Value}{sz D5:Nat}(h:(prog.info? e).map (λ i=>(i.zero,i.size,i.bytes))=some (some z,sz,D5)):gY e z sz D5:=by
 obtain⟨i,hi,a⟩:=Option.map_eq_some_iff.1 h;simp only[Prod.mk.injEq] at a;exact⟨i,hi,a.1,a.2.1,a.2.2⟩
section
variable{w:World}{base e sz:Nat}{v:Value}{n:Nat}{cs:List Value}
theorem dD(h:w.ownsRow base e sz v n cs)(k:aa w w'):w'.ownsRow base e sz v n cs:=by
 refine World.ownsRow.kept (row:=none) h ⟨k.os,k.tape,k.output,k.size,λ b hb _=>k.old b hb⟩ ?_;cases hv:v.ownBlock with
 |none=>exact .inl rfl
 |some _=>exact .inr (by simp)
theorem bI(h:w.ownsRow base e sz v n cs):∃a cap,v= .slice a n cap/\n<=cap/\cs.length=n*sz/\∀i,i<cs.length->∃b,base<=b/\a=some ⟨b,0,none⟩/\w.cell? ⟨b,i,none⟩=cs[i]? :=by
 obtain⟨c,⟨rfl,rfl⟩|⟨g,cap,j,rfl,hb,f,hn,_,k,d⟩⟩:=h
 ·exact⟨none,0,rfl,aU _,c,λ i hi=>by rw[c,Nat.zero_mul] at hi;exact absurd hi (Nat.not_lt_zero i)⟩
 ·refine⟨_,cap,rfl,hn,c,λ i hi=>⟨g,hb,rfl,?_⟩⟩
  rw[<-d,List.getElem?_take,if_pos (by omega),Array.getElem?_toList]
  simp[World.cell?,f]
end
def SL(w:World)(a:Option Addr)(n:Nat)(ss:List ByteArray):Prop:=n=ss.length/\((a=none/\n=0)∨∃b off,a=some ⟨b,off,none⟩/\∀(i:Nat)(h:i<ss.length),w.cell? ⟨b,off+i,none⟩=some (.string ss[i]))
def Sp(w:World)(base:Nat)(v:Value)(n:Nat)(ss:List ByteArray):Prop:=w.ownsRow base 9 1 v n (ss.map Value.string)
theorem Sp.open{base:Nat}{ss:List ByteArray}(h:Sp w base v n ss):∃a cap,v= .slice a n cap/\n<=cap/\SL w a n ss:=by
 obtain⟨b,⟨rfl,rfl⟩|⟨g,cap,c,rfl,hb,f,hn,_,j,e⟩⟩:=h
 ·exact⟨none,0,rfl,aU _,by simpa using b.symm,.inl ⟨rfl,rfl⟩⟩
 ·have b:n=ss.length:=by simp at b;exact b.symm
  refine⟨_,cap,rfl,hn,b,.inr ⟨g,0,rfl,λ i hi=> ?_⟩⟩
  have d:(c.toList.take (n*1))[i]? =some (.string ss[i]):=by rw[e];simp[hi]
  rw[Nat.mul_one,List.getElem?_take,if_pos (by omega),Array.getElem?_toList] at d;rw[lp]
  simp[World.cell?,f,d]
def cE(c:Nat):Bool:=decide (97<=c)&&decide (c<=122)
def aQ(c:Nat):Bool:=decide (48<=c)&&decide (c<=57)
theorem mM(w:World)(c:Nat):Calls prog 377 #[.int .u8 (c:Int)] w λ e w'=>e= .returned (.bool (cE c))/\w=w':=by
 by_cases h1:97<=c
 ·have t1:decide (97<=(c:Int))=true:=by simp;omega
  have a:decide ((c:Int)<=122)=decide (c<=122):=by rw[Bool.eq_iff_iff];simp;omega
  go_enter func377,ntmps377;go_wp2;go_ret;exact⟨by simp[cE,h1],rfl⟩
 ·have t1:decide (97<=(c:Int))=false:=by simp;omega
  go_enter func377,ntmps377;go_wp2;go_ret;exact⟨by simp[cE,h1],rfl⟩
theorem qK(w:World)(c:Nat):Calls prog 378 #[.int .u8 (c:Int)] w λ e w'=>e= .returned (.bool (aQ c))/\w=w':=by
 by_cases h1:48<=c
 ·have t1:decide (48<=(c:Int))=true:=by simp;omega
  have a:decide ((c:Int)<=57)=decide (c<=57):=by rw[Bool.eq_iff_iff];simp;omega
  go_enter func378,ntmps378;go_wp2;go_ret;exact⟨by simp[aQ,h1],rfl⟩
 ·have t1:decide (48<=(c:Int))=false:=by simp;omega
  go_enter func378,ntmps378;go_wp2;go_ret;exact⟨by simp[aQ,h1],rfl⟩
def aW:Array ByteArray:=#[⟨#[101,120,112]⟩,⟨#[108,111,103]⟩,⟨#[115,105,110]⟩,⟨#[99,111,115]⟩,⟨#[116,97,110]⟩,⟨#[97,115,105,110]⟩,⟨#[97,99,111,115]⟩,⟨#[97,116,97,110]⟩]
def ji:Array ByteArray:=#[⟨#[101,120,112]⟩,⟨#[108,111,103]⟩,⟨#[115,105,110]⟩,⟨#[99,111,115]⟩,⟨#[116,97,110]⟩,⟨#[97,115,105,110]⟩,⟨#[97,99,111,115]⟩,⟨#[97,116,97,110]⟩,⟨#[112,105]⟩,⟨#[97,98,115]⟩,⟨#[109,105,110]⟩,⟨#[109,97,120]⟩,⟨#[114,111,111,116]⟩,⟨#[115,113,114,116]⟩,⟨#[105,102]⟩,⟨#[105,110,102]⟩,⟨#[102,111,114]⟩,⟨#[105,110]⟩,⟨#[119,104,101,114,101]⟩]
def cg(a:Array ByteArray)(s:ByteArray):Bool:=a.toList.any λ x=>x.toList==s.toList
def YJ(w:World)(b:Nat)(a:Array ByteArray):Prop:=∀i,i<a.size->w.cell? ⟨b,i,none⟩=some (.string (a[i]?.getD ⟨#[]⟩))
theorem YJ.kept{a:Array ByteArray}(h:YJ w b a)(k:aa w w'):YJ w' b a:=λ i hi=>k.cell (h i hi)
theorem uP{a:Array ByteArray}(h:∀j,j<a.size->((a[j]?.getD ⟨#[]⟩).toList==s.toList)=false):cg a s=false:=by
 unfold cg;rw[List.any_eq_false]
 intro x hx;obtain⟨j,c,e⟩:=List.mem_iff_getElem.1 hx;have b:j<a.size:=by simpa using c
 have:=h j b;have d:a[j]? =some x:=by rw[Array.getElem?_eq_getElem b];simp at e;rw[e]
 rw[d] at this;simpa using this
theorem wM{a:Array ByteArray}{j:Nat}(b:j<a.size)(h:((a[j]?.getD ⟨#[]⟩).toList==s.toList)=true):cg a s=true:=by
 unfold cg;rw[List.any_eq_true]
 refine⟨a[j],by simp,?_⟩
 have c:a[j]? =some a[j]:=Array.getElem?_eq_getElem b;rw[c] at h;exact h
theorem sG(w:World):Calls prog 328 #[] w λ e w'=>∃b,e= .returned (.slice (some ⟨b,0,none⟩) 8 8)/\YJ w' b aW/\aa w w':=by
 have hb:=aD.new w #[.string ⟨#[101,120,112]⟩,.string ⟨#[108,111,103]⟩,.string ⟨#[115,105,110]⟩,.string ⟨#[99,111,115]⟩,.string ⟨#[116,97,110]⟩,.string ⟨#[97,115,105,110]⟩,.string ⟨#[97,99,111,115]⟩,.string ⟨#[97,116,97,110]⟩] 9;go_enter func328,ntmps328;go_wp2;go_ret;refine⟨_,rfl,λ i hi=> ?_,(aa.refl w).alloc _⟩
 have hi:i<8:=hi;match i,hi with
 |0,_=>exact hb.cell 0 rfl
 |1,_=>exact hb.cell 1 rfl
 |2,_=>exact hb.cell 2 rfl
 |3,_=>exact hb.cell 3 rfl
 |4,_=>exact hb.cell 4 rfl
 |5,_=>exact hb.cell 5 rfl
 |6,_=>exact hb.cell 6 rfl
 |7,_=>exact hb.cell 7 rfl
 |n+8,h=>exact absurd h (by omega)
theorem Cu(w:World)(s:ByteArray):Calls prog 261 #[.string s] w λ e w'=>∃k:Int,e= .returned (.tuple #[.int .i64 k,.bool (cg aW s)])/\aa w w':=by
 go_enter func261,ntmps261;go_wp2_with fail
 refine(sG w).mono ?_;rintro _ o ⟨b,rfl,hs,g⟩
 have n:=Lib.hid hs;clear hs;go_wp2_with fail
 go_loop [8] (λ iv=>∃k:Nat,k<=8/\iv= .int .i64 (k:Int)/\∀j,j<k->((aW[j]?.getD ⟨#[]⟩).toList==s.toList)=false) (λ iv=>8-(intOf iv).toNat)
 case atStart=>exact⟨0,by omega,rfl,λ j h=>by omega⟩
 case round=>
  obtain⟨k,p,rfl,i⟩:=hrel;have m:=Lib.hid i;clear i;by_cases f:k<8
  ·have hc:=n.out k f;generalize hx:(aW[k]?.getD ⟨#[]⟩)=x at*;have l:=Lib.hid hx;clear hx;cases d:(x.toList==s.toList) with
   |true=>
    have c:=Lib.hid d;go_wp2;go_ret2;exact⟨⟨_,by rw[wM (a:=aW) (j:=k) f (by rw[l.out];exact c.out)];rfl⟩,g⟩
   |false=>
    have c:=Lib.hid d;go_wp2;go_round;case rel=>
     refine⟨k+1,by omega,by go_num,λ j q=> ?_⟩
     by_cases e:j=k
     ·subst e;rw[l.out];exact c.out
     ·exact m.out j (by omega)
    case measure=>simp[intOf];omega
  ·obtain rfl:8=k:=by omega
   go_wp2;go_ret2;exact⟨⟨_,by rw[uP (a:=aW) m.out];rfl⟩,g⟩
theorem sW(s:ByteArray):cg ji s=(cg aW s||((s.toList==[112,105])||(s.toList==[97,98,115])||(s.toList==[109,105,110])||(s.toList==[109,97,120])||(s.toList==[114,111,111,116])||(s.toList==[115,113,114,116])||(s.toList==[105,102])||(s.toList==[105,110,102])||(s.toList==[102,111,114])||(s.toList==[105,110])||(s.toList==[119,104,101,114,101]))):=by
 have a:∀l:List UInt8,(l==s.data.toList)=(s.data.toList==l):=λ l=>by rw[Bool.eq_iff_iff,beq_iff_eq,beq_iff_eq];exact eq_comm
 simp[cg,ji,aW,ByteArray.toList_eq,a,Bool.or_assoc]
 have sl:∀l:List UInt8,(s.data==l.toArray)=(s.data.toList==l):=λ l=>by
  rw[Bool.eq_iff_iff,beq_iff_eq,beq_iff_eq]
  exact⟨λ h=>by rw[h],λ h=>by rw[<-h]⟩
 simp only[sl]
theorem sK(w:World)(s:ByteArray):Calls prog 325 #[.string s] w λ e w'=>e= .returned (.bool (cg ji s))/\aa w w':=by
 rw[sW]
 cases l:(s.toList==[112,105]) with
 |true=>
  go_enter func325,ntmps325;go_wp2;go_ret;exact⟨by simp,aa.refl _⟩
 |false=>
  cases h1:(s.toList==[97,98,115]) with
  |true=>
   go_enter func325,ntmps325;go_wp2;go_ret;exact⟨by simp,aa.refl _⟩
  |false=>
   cases h2:(s.toList==[109,105,110]) with
   |true=>
    go_enter func325,ntmps325;go_wp2;go_ret;exact⟨by simp,aa.refl _⟩
   |false=>
    cases h3:(s.toList==[109,97,120]) with
    |true=>
     go_enter func325,ntmps325;go_wp2;go_ret;exact⟨by simp,aa.refl _⟩
    |false=>
     cases i:(s.toList==[114,111,111,116]) with
     |true=>
      go_enter func325,ntmps325;go_wp2;go_ret;exact⟨by simp,aa.refl _⟩
     |false=>
      cases h:(s.toList==[115,113,114,116]) with
      |true=>
       go_enter func325,ntmps325;go_wp2;go_ret;exact⟨by simp,aa.refl _⟩
      |false=>
       cases g:(s.toList==[105,102]) with
       |true=>
        go_enter func325,ntmps325;go_wp2;go_ret;exact⟨by simp,aa.refl _⟩
       |false=>
        cases f:(s.toList==[105,110,102]) with
        |true=>
         go_enter func325,ntmps325;go_wp2;go_ret;exact⟨by simp,aa.refl _⟩
        |false=>
         cases d:(s.toList==[102,111,114]) with
         |true=>
          go_enter func325,ntmps325;go_wp2;go_ret;exact⟨by simp,aa.refl _⟩
         |false=>
          cases c:(s.toList==[105,110]) with
          |true=>
           go_enter func325,ntmps325;go_wp2;go_ret;exact⟨by simp,aa.refl _⟩
          |false=>
           cases j:(s.toList==[119,104,101,114,101]) with
           |true=>
            go_enter func325,ntmps325;go_wp2;go_ret;exact⟨by simp,aa.refl _⟩
           |false=>
            go_enter func325,ntmps325;go_wp2_with(go_at_call 261;refine(Cu w s).mono ?_;rintro e b ⟨k,rfl,a⟩)
            go_ret;exact⟨by simp,a⟩
def bt(s:ByteArray)(k:Nat):Nat:=if h:k<s.size then s[k].toNat else 0
def tE(s:ByteArray)(k:Nat):Bool:=cE (bt s k)||(decide (k≠0)&&aQ (bt s k))
def AA(s:ByteArray):Bool:=decide (0<s.size)&&(List.range s.size).all (tE s)
theorem kD(h:k<s.size):bt s k=s[k].toNat:=by unfold bt;rw[dif_pos h]
theorem U6(a:0<s.size)(h:∀j,j<s.size->tE s j=true):AA s=true:=by
 unfold AA;simp only[fv,oh,List.all_eq_true,List.mem_range]
 exact⟨a,h⟩
theorem EL(a:k<s.size)(h:tE s k=false):AA s=false:=by
 unfold AA;rw[Bool.and_eq_false_iff]
 right;rw[List.all_eq_false]
 exact⟨k,List.mem_range.2 a,by simp[h]⟩
theorem JT(w:World)(s:ByteArray)(hs:s.size<100)(p:0<s.size):Calls prog 324 #[.string s] w λ e w'=>∃k:Nat,e= .returned (.int .i64 (k:Int))/\k<=s.size/\(k=s.size↔AA s=true)/\w=w':=by
 have g:=kD p;have t0:(s.toList==[])=false:=by
  rw[ByteArray.toList_eq]
  have x:s.data.size=s.size:=rfl;cases hd:s.data.toList with
  |nil=>exfalso;have:s.data.size=0:=by rw[<-Array.length_toList,hd];rfl
        omega
  |cons a l=>rfl
 have d:=mM w s[0].toNat;cases c:cE s[0].toNat with
 |false=>
  rw[c] at d;have b:tE s 0=false:=by unfold tE;rw[g,c];simp
  have hw:¬AA s=true:=by rw[EL p b];decide
  have v:=Lib.hid hw;clear hw;clear g;go_enter func324,ntmps324;go_wp2_with(go_at_call 377;refine d.mono ?_;rintro e i ⟨rfl,rfl⟩)
  go_ret;exact⟨0,rfl,by omega,⟨λ h=>by omega,λ h=>absurd h v.out⟩,rfl⟩
 |true=>
  rw[c] at d;have b:tE s 0=true:=by unfold tE;rw[g,c];rfl
  have q:=Lib.hid b;clear g b c;go_enter func324,ntmps324;go_wp2_with(go_at_call 377;refine d.mono ?_;rintro e i ⟨rfl,rfl⟩)
  clear d;go_loop [3] (λ iv=>∃k:Nat,1<=k/\k<=s.size/\iv= .int .i64 (k:Int)/\∀j,j<k->tE s j=true) (λ iv=>s.size-(intOf iv).toNat)
  case atStart=>exact⟨1,by omega,by omega,rfl,λ j h=>by obtain rfl:j=0:=by omega
                                                        exact q.out⟩
  case round=>
   obtain⟨k,y,z,rfl,t⟩:=hrel;have u:=Lib.hid t;clear t;by_cases r:k<s.size
   ·have g:=kD r;have m:tE s k=true->∀j,j<k+1->tE s j=true:=λ h j A=>by
     by_cases e:j=k
     ·subst e;exact h
     ·exact u.out j (by omega)
    have o:=Lib.hid m;clear m;have d:=mM w s[k].toNat;have hd:=qK w s[k].toNat;have b:tE s k=(cE s[k].toNat||(decide (k≠0)&&aQ s[k].toNat)):=by unfold tE;rw[g]
    cases c:cE s[k].toNat with
    |true=>
     rw[c] at d b;have n:=Lib.hid (show tE s k=true by rw[b];rfl)
     clear hd b g c;go_wp2_with(go_at_call 377;refine d.mono ?_;rintro e i ⟨rfl,rfl⟩)
     go_round;case rel=>exact⟨k+1,by omega,by omega,by go_num,o.out n.out⟩
     case measure=>simp[intOf];try omega
    |false=>
     cases f:aQ s[k].toNat with
     |true=>
      rw[c] at d b;rw[f] at hd b;have n:=Lib.hid (show tE s k=true by rw[b];simp;omega)
      clear b g c f;go_wp2_with(first|(go_at_call 377;refine d.mono ?_;rintro e i ⟨rfl,rfl⟩)|(go_at_call 378;refine hd.mono ?_;rintro e i ⟨rfl,rfl⟩))
      go_round;case rel=>exact⟨k+1,by omega,by omega,by go_num,o.out n.out⟩
      case measure=>simp[intOf];try omega
     |false=>
      rw[c] at d b;rw[f] at hd b;have n:=Lib.hid (show tE s k=false by rw[b];simp)
      clear b g c f;go_wp2_with(first|(go_at_call 377;refine d.mono ?_;rintro e i ⟨rfl,rfl⟩)|(go_at_call 378;refine hd.mono ?_;rintro e i ⟨rfl,rfl⟩))
      go_ret;exact⟨k,rfl,by omega,⟨λ h=>by omega,λ h=>by rw[EL r n.out] at h;cases h⟩,rfl⟩
   ·obtain rfl:s.size=k:=by omega
    go_wp2;go_ret;exact⟨s.size,rfl,by omega,⟨λ _=>U6 p u.out,λ _=>rfl⟩,rfl⟩
def bV(s:ByteArray):Bool:=decide (s.size<=8)&&AA s&& !cg ji s
theorem mY(h:s.size=0):s.toList=[]:=by
 rw[ByteArray.toList_eq]
 have a:s.data.size=0:=h;exact List.eq_nil_of_length_eq_zero (by rw[Array.length_toList,a])
theorem yP(h:0<s.size):(s.toList==[])=false:=by
 rw[ByteArray.toList_eq]
 have b:s.data.size=s.size:=rfl;cases hd:s.data.toList with
 |nil=>exfalso;have:s.data.size=0:=by rw[<-Array.length_toList,hd];rfl
       omega
 |cons a l=>rfl
theorem uQ(w:World)(s:ByteArray):Calls prog 242 #[.string s] w λ e w'=>e= .returned (.bool (bV s))/\aa w w':=by
 by_cases g:s.size<=8
 ·have t1:decide ((s.size:Int)<=8)=true:=by simp;omega
  by_cases h:0<s.size
  ·have p:=yP h;have d:=JT w s (by omega) h;cases a:AA s with
   |true=>
    have hr:=sK w s;have c:Calls prog 324 #[.string s] w λ e w'=>e= .returned (.int .i64 (s.size:Int))/\w=w':=d.mono λ e w' ⟨k,h1,_,h3,j⟩=>by
     obtain rfl:=h3.2 a;exact⟨h1,j⟩
    have b:bV s= !cg ji s:=by unfold bV;simp[g,a]
    rw[b]
    generalize cg ji s=q at*;clear d a b;go_enter func242,ntmps242;go_wp2_with(first|(go_at_call 324;refine c.mono ?_;rintro e i ⟨rfl,rfl⟩)|(go_at_call 325;refine hr.mono ?_;rintro e i ⟨rfl,n⟩))
    go_ret;exact⟨rfl,n⟩
   |false=>
    have b:bV s=false:=by unfold bV;simp[a]
    rw[b]
    have c:Calls prog 324 #[.string s] w λ e w'=>∃k:Nat,e= .returned (.int .i64 (k:Int))/\k≠s.size/\k<=s.size/\w=w':=d.mono λ e w' ⟨k,h1,h2,h3,j⟩=>
     ⟨k,h1,λ e=>(by rw[h3.1 e] at a;cases a),h2,j⟩
    clear d a b;go_enter func242,ntmps242;go_wp2_with fail
    refine c.mono ?_;rintro e i ⟨k,rfl,r,m,rfl⟩
    have l:((k:Int)==(s.size:Int))=false:=by simp;omega
    go_wp2;go_ret;exact⟨rfl,aa.refl _⟩
  ·have f:s.size=0:=by omega
   have b:bV s=false:=by unfold bV AA;simp[f]
   rw[b]
   have t0:(s.toList==[])=true:=by rw[mY f];rfl
   have d:Calls prog 324 #[.string s] w λ e w'=>e= .returned (.int .i64 0)/\w=w':=by
    clear t1 g h f b;go_enter func324,ntmps324;go_wp2;go_ret;exact⟨rfl,rfl⟩
   have l:((0:Int)==(s.size:Int))=true:=by rw[f];rfl
   have o:(s.toList != [])=false:=by rw[mY f];rfl
   clear h b g;go_enter func242,ntmps242;go_wp2_with(go_at_call 324;refine d.mono ?_;rintro e i ⟨rfl,rfl⟩)
   go_ret;exact⟨rfl,aa.refl _⟩
 ·have t1:decide ((s.size:Int)<=8)=false:=by simp;omega
  have b:bV s=false:=by unfold bV;simp[g]
  rw[b]
  clear b;go_enter func242,ntmps242;go_wp2;go_ret;exact⟨rfl,aa.refl _⟩
theorem ph(w:World)(s:ByteArray):Calls prog 148 #[.string s] w λ e w'=>e= .returned (.bool (bV s))/\aa w w':=by
 have h:=uQ w s;generalize bV s=b at*;go_enter func148,ntmps148;go_wp2_with(go_at_call 242;refine h.mono ?_;rintro e c ⟨rfl,a⟩)
 go_ret;exact⟨rfl,a⟩
def iq(op:Int):Int:=
 if op=1∨op=2∨op=3 then 0 else if op=4∨op=9∨op=10∨op=11∨op=12 then 1 else
 if op=5∨op=6∨op=7∨op=8∨op=13∨op=14 then 2 else if op=15 then 3 else -1
theorem JZ(w:World)(op:Int):Calls prog 326 #[.int .i64 op] w λ e w'=>e= .returned (.tuple #[.int .i64 (if iq op<0 then 0 else iq op),.bool (decide (0<=iq op))])/\w=w':=by
 by_cases h1:op=1
 ·subst h1;go_enter func326,ntmps326;go_wp2;first|(go_ret;exact⟨rfl,rfl⟩)|(go_ret2;exact⟨rfl,rfl⟩)
 by_cases h2:op=2
 ·subst h2;go_enter func326,ntmps326;go_wp2;first|(go_ret;exact⟨rfl,rfl⟩)|(go_ret2;exact⟨rfl,rfl⟩)
 by_cases h3:op=3
 ·subst h3;go_enter func326,ntmps326;go_wp2;first|(go_ret;exact⟨rfl,rfl⟩)|(go_ret2;exact⟨rfl,rfl⟩)
 by_cases i:op=4
 ·subst i;go_enter func326,ntmps326;go_wp2;first|(go_ret;exact⟨rfl,rfl⟩)|(go_ret2;exact⟨rfl,rfl⟩)
 by_cases h:op=5
 ·subst h;go_enter func326,ntmps326;go_wp2;first|(go_ret;exact⟨rfl,rfl⟩)|(go_ret2;exact⟨rfl,rfl⟩)
 by_cases g:op=6
 ·subst g;go_enter func326,ntmps326;go_wp2;first|(go_ret;exact⟨rfl,rfl⟩)|(go_ret2;exact⟨rfl,rfl⟩)
 by_cases f:op=7
 ·subst f;go_enter func326,ntmps326;go_wp2;first|(go_ret;exact⟨rfl,rfl⟩)|(go_ret2;exact⟨rfl,rfl⟩)
 by_cases d:op=8
 ·subst d;go_enter func326,ntmps326;go_wp2;first|(go_ret;exact⟨rfl,rfl⟩)|(go_ret2;exact⟨rfl,rfl⟩)
 by_cases c:op=9
 ·subst c;go_enter func326,ntmps326;go_wp2;first|(go_ret;exact⟨rfl,rfl⟩)|(go_ret2;exact⟨rfl,rfl⟩)
 by_cases m:op=10
 ·subst m;go_enter func326,ntmps326;go_wp2;first|(go_ret;exact⟨rfl,rfl⟩)|(go_ret2;exact⟨rfl,rfl⟩)
 by_cases l:op=11
 ·subst l;go_enter func326,ntmps326;go_wp2;first|(go_ret;exact⟨rfl,rfl⟩)|(go_ret2;exact⟨rfl,rfl⟩)
 by_cases k:op=12
 ·subst k;go_enter func326,ntmps326;go_wp2;first|(go_ret;exact⟨rfl,rfl⟩)|(go_ret2;exact⟨rfl,rfl⟩)
 by_cases j:op=13
 ·subst j;go_enter func326,ntmps326;go_wp2;first|(go_ret;exact⟨rfl,rfl⟩)|(go_ret2;exact⟨rfl,rfl⟩)
 by_cases b:op=14
 ·subst b;go_enter func326,ntmps326;go_wp2;first|(go_ret;exact⟨rfl,rfl⟩)|(go_ret2;exact⟨rfl,rfl⟩)
 by_cases a:op=15
 ·subst a;go_enter func326,ntmps326;go_wp2;first|(go_ret;exact⟨rfl,rfl⟩)|(go_ret2;exact⟨rfl,rfl⟩)
 have n:iq op= -1:=by unfold iq;simp[h1,h2,h3,i,h,g,f,d,c,m,l,k,j,b,a]
 rw[n]
 have q1:(op==1)=false:=by simpa using h1
 have C:(op==2)=false:=by simpa using h2
 have B:(op==3)=false:=by simpa using h3
 have A:(op==4)=false:=by simpa using i
 have z:(op==5)=false:=by simpa using h
 have y:(op==6)=false:=by simpa using g
 have x:(op==7)=false:=by simpa using f
 have v:(op==8)=false:=by simpa using d
 have u:(op==9)=false:=by simpa using c
 have t:(op==10)=false:=by simpa using m
 have s:(op==11)=false:=by simpa using l
 have r:(op==12)=false:=by simpa using k
 have q:(op==13)=false:=by simpa using j
 have p:(op==14)=false:=by simpa using b
 have o:(op==15)=false:=by simpa using a
 clear n h1 h2 h3 i h g f d c m l k j b a;go_enter func326,ntmps326;go_wp2;first|(go_ret;exact⟨rfl,rfl⟩)|(go_ret2;exact⟨rfl,rfl⟩)
def kT(op arg:Int):Bool:=
 if op=9 then decide (-32<=arg)&&decide (arg<=32) else if op=10 then decide (2<=arg)&&decide (arg<=8) else
 if op=11 then decide (1<=arg)&&decide (arg<=8) else decide (arg=0)
def bJ(op arg:Int)(s:Bool)(N D:Nat)(name:ByteArray)(n:Nat):Bool:=
 decide (iq op=(n:Int))&&kT op arg&&(if op=1 then aX N D&& !(s&&decide (0<N))&&decide (name.size=0) else decide (N=0)&&(if op=2 then bV name else decide (name.size=0)))
theorem C8(s:ByteArray):(s.toList==[])=decide (s.size=0):=by
 by_cases h:s.size=0
 ·rw[mY h];simp[h]
 ·rw[yP (by omega)];simp[h]
theorem Va(s:ByteArray):s.toList.isEmpty=decide (s.size=0):=by
 by_cases h:s.size=0
 ·rw[mY h];simp[h]
 ·have:=yP (s:=s) (by omega)
  cases a:s.toList with
  |nil=>rw[a] at this;cases this
  |cons x l=>simp[h]
section
attribute [local irreducible] wpList
theorem acB(s:Bool)(N D:Nat):decide (0<=lY (s&&decide (0<N)) (rN N D))= !(s&&decide (0<N)):=by
 cases h:(s&&decide (0<N))
 ·unfold lY;split<;>simp
 ·have a:0<N:=by simp at h;exact h.2
  have:rN N D≠0:=by
   unfold rN;exact Nat.ne_of_gt (Nat.div_pos (Nat.gcd_le_left _ a) (Nat.gcd_pos_of_pos_left _ a))
  unfold lY;rw[if_neg this];simp
theorem G6{s:Bool}{x1:Option Addr}{x2 x3:Nat}{x4:Option Addr}{x5 x6:Nat}
 (hr:Rt w (.agg #[.bool s,.slice x1 x2 x3,.slice x4 x5 x6]) s N D)(P:cL w):
 Calls prog 244 #[.agg #[.int .i64 op,.int .i64 arg,.bool s,.slice x1 x2 x3,.slice x4 x5 x6,.string name,.slice a n cap]] w λ e w'=>e= .returned (.bool (bJ op arg s N D name n))/\aa w w':=by
 have l:∃t c,(∀w',aa w w'->Calls prog 248 #[.slice x1 x2 x3] w' λ e h=>e= .returned (.slice x1 t c)/\w'=h)/\(∀w',aa w w'->Calls prog 192 #[.slice x1 t c] w' λ e h=>e= .returned (.bool (decide (N=0)))/\w'=h):=by
  obtain⟨vn,vd,he,⟨a,n,cap,xs,rfl,C,tZ,L,rfl,y⟩,hd⟩:=hr;injection he with he
  simp only[Array.mk.injEq,List.cons.injEq,Value.slice.injEq] at he;obtain⟨-,⟨rfl,rfl,rfl⟩,-⟩:=he;exact⟨cC xs x2,x3,λ w' k=>gO w' _ _ _ xs (by omega) C (y.kept k),λ w' k=>lS (Or.inr rfl) (iX C L (y.kept k))⟩
 obtain⟨tz,tc,l,d⟩:=l;obtain⟨R,hR⟩:∃R,R=bJ op arg s N D name n:=⟨_,rfl⟩
 rw[<-hR]
 unfold bJ at hR;refine ct 82 func244 rfl ntmps244 ?_;refine gx ?_;refine zb λ J g e1 k b _=> ?_;refine gz ?_;refine kB (b.cell 0 rfl) ?_;refine If ?_;refine Dt (σ:=Int×Int) (λ q=>[(1,.pointer (some ⟨g,0,none⟩)),(3,.int .i64 q.1),(4,.int .i64 q.2)]) (λ q W=>W=J/\kT op arg=(decide (q.1<=arg)&&decide (arg<=q.2))) (λ Q' m=> ?_) (λ l' h ⟨lo,hi⟩ ⟨S,ha⟩=> ?_)
 ·by_cases E:op=9
  ·subst E;refine gx ?_;exact m _ _ (-32,32) ⟨rfl,rfl,rfl,trivial⟩ ⟨rfl,rfl⟩
  by_cases G:op=10
  ·subst G;refine gx ?_;exact m _ _ (2,8) ⟨rfl,rfl,rfl,trivial⟩ ⟨rfl,rfl⟩
  by_cases F:op=11
  ·subst F;refine gx ?_;exact m _ _ (1,8) ⟨rfl,rfl,rfl,trivial⟩ ⟨rfl,rfl⟩
  ·refine gx ?_;refine m _ _ (0,0) ⟨rfl,rfl,rfl,trivial⟩ ⟨rfl,?_⟩
   unfold kT;rw[if_neg E,if_neg G,if_neg F,Bool.eq_iff_iff]
   simp;omega
 subst S;replace ha:kT op arg=(decide (lo<=arg)&&decide (arg<=hi)):=ha;rw[ha] at hR;refine gx ?_;obtain⟨i,O⟩:∃i,i=iq op:=⟨_,rfl⟩
 have hp:=JZ h op;rw[<-O] at hp hR;refine zc 326 _ hp ?_;rintro e w3 ⟨rfl,rfl⟩
 by_cases r:i=(n:Int)
 case neg=>
  rw[gy r] at hR;by_cases A:0<=i
  ·rw[cU A,if_neg (by omega)]
   refine gx ?_;refine cr true ?_ ?_
   ·exact bne_iff_ne.2 λ e=>r e.symm
   refine gx ?_;exact aF ⟨by rw[hR],k⟩
  ·rw[gy A]
   refine gx ?_;exact aF ⟨by rw[hR],k⟩
 subst r;rw[cU rfl,Bool.true_and] at hR;rw[cU (by omega),if_neg (by omega)]
 refine gx ?_;refine cr false ?_ ?_
 ·exact bne_self_eq_false _
 by_cases z:lo<=arg;case neg=>
  rw[gy z] at hR;refine gx ?_;exact aF ⟨by rw[hR],k⟩
 by_cases B:arg<=hi;case neg=>
  rw[gy B,Bool.and_false] at hR;refine gx ?_;exact aF ⟨by rw[hR],k⟩
 rw[cU z,cU B,Bool.true_and,Bool.true_and] at hR;by_cases h2:op=2;case pos=>
  subst h2;rw[if_neg (by decide),if_pos rfl] at hR;refine gx ?_;refine zc 148 _ (ph _ name) ?_;rintro e h ⟨rfl,f⟩
  have b2:=b.kept f;cases hi:bV name
  ·rw[hi,Bool.and_false] at hR;refine gx ?_;exact aF ⟨by rw[hR],k.trans f⟩
  rw[hi,Bool.and_true] at hR;refine gx ?_;refine zc 248 _ (l _ (k.trans f)) ?_;rintro e w3 ⟨rfl,rfl⟩
  refine gx ?_;refine zc 192 _ (d _ (k.trans f)) ?_;rintro e w3 ⟨rfl,rfl⟩
  refine gx ?_;exact aF ⟨by rw[hR],k.trans f⟩
 refine gx ?_;refine cr true ?_ ?_
 ·exact bne_iff_ne.2 h2
 refine gx ?_;by_cases j:name.size=0;case neg=>
  rw[gy j,if_neg h2] at hR;refine z2 (.bool true) ?_ (hrun:=wY (a:=name) (b:=⟨#[]⟩) (by rw[show(⟨#[]⟩:ByteArray).data.toList=[] from rfl,C8,gy j];rfl))
  refine gx ?_;refine aF ⟨?_,k⟩
  rw[hR];simp
 rw[cU j,if_neg h2,Bool.and_true,Bool.and_true] at hR;refine z2 (.bool false) ?_ (hrun:=wY (a:=name) (b:=⟨#[]⟩) (by rw[show(⟨#[]⟩:ByteArray).data.toList=[] from rfl,C8,cU j];rfl))
 refine gx ?_;by_cases h1:op=1;case neg=>
  rw[if_neg h1] at hR;refine cr true ?_ ?_
  ·exact bne_iff_ne.2 h1
  refine gx ?_;refine zc 248 _ (l _ k) ?_;rintro e w3 ⟨rfl,rfl⟩
  refine gx ?_;refine zc 192 _ (d _ k) ?_;rintro e w3 ⟨rfl,rfl⟩
  refine gx ?_;exact aF ⟨by rw[hR],k⟩
 subst h1;rw[if_pos rfl] at hR;refine gx ?_;refine zl (b.part 2) cQ ?_;have o:=lN (hr.kept k) (P.kept k)
 unfold ox at o;obtain⟨sm,M⟩:∃sm,sm=aX N D:=⟨_,rfl⟩
 rw[<-M] at o hR;refine zc 155 _ o ?_;rintro e w3 ⟨p,a1,n1,c1,a2,n2,c2,rfl,f,hF⟩
 have u:dY 217 #[.bool p,.slice a1 n1 c1,.slice a2 n2 c2]:=⟨by kernel_rfl,by simp[Value.oneCell']⟩
 refine gx ?_;refine za #[.bool false,.slice none 0 0,.slice none 0 0] 217 λ Z g4 e4 x H _=> ?_;refine zt (Y:=#[.bool false,.slice none 0 0,.slice none 0 0]) (V:=#[.bool p,.slice a1 n1 c1,.slice a2 n2 c2]) H ⟨by kernel_rfl,by simp[Value.oneCell']⟩ u λ X v T=> ?_;have I:=(k.trans f).trans (x.but v (by omega))
 have n4:=H.aZ rfl;cases sm
 ·refine gx ?_;refine aF ⟨?_,I⟩
  rw[hR];rfl
 have Q:=((hF rfl).kept x).ai v n4;refine gx ?_;refine zl (T.part 0) u ?_;refine eO ?_;refine zc 283 _ (lO Q) ?_;rintro e U ⟨rfl,K⟩
 refine gx ?_;refine cr (!(s&&decide (0<N))) ?_ ?_
 ·exact acB s N D
 refine gx ?_;refine aF ⟨?_,I.trans K⟩
 rw[hR];simp
end
inductive aj where
 |node (op arg:Int) (s:Bool) (N D:Nat) (name:ByteArray) (kids:List aj)
def Ex(w:World):Nat->Value->aj->Prop
 |0,_,_=>False
 |f+1,v,.node op arg s N D name kids=>∃(x1:Option Addr)(x2 x3:Nat)(x4:Option Addr)(x5 x6:Nat)(a:Option Addr)(cap:Nat),
   v= .agg #[.int .i64 op,.int .i64 arg,.bool s,.slice x1 x2 x3,.slice x4 x5 x6,.string name,.slice a kids.length cap]/\kids.length<=cap/\
   Rt w (.agg #[.bool s,.slice x1 x2 x3,.slice x4 x5 x6]) s N D/\kids.length<4611686018427387904/\
   ∀(i:Nat)(h:i<kids.length),∃(b off:Nat)(cs:Array Value),a=some ⟨b,off,none⟩/\cs.size=7/\
    (∀j,j<7->w.cell? ⟨b,off+7*i+j,none⟩=cs[j]?)/\Ex w f (.agg cs) kids[i]
theorem Ex.kept(k:aa w w'):∀(f:Nat){v:Value}{t:aj},Ex w f v t->Ex w' f v t
 |0,_,_,h=>h.elim
 |f+1,v,.node op arg s N D name kids,⟨x1,x2,x3,x4,x5,x6,a,cap,hv,hc,hr,hn,c⟩=>by
  refine⟨x1,x2,x3,x4,x5,x6,a,cap,hv,hc,hr.kept k,hn,λ i h=> ?_⟩
  obtain⟨b,off,cs,ha,hs,e,he⟩:=c i h;refine⟨b,off,cs,ha,hs,λ j d=> ?_,Ex.kept k f he⟩
  have h1:=e j d;rw[Array.getElem?_eq_getElem (by omega)] at h1⊢;exact k.cell h1
mutual
def mX:aj->Nat->Nat->Option Nat
 | .node op arg s N D name kids,d,m=>if 300<m+1∨30<d∨bJ op arg s N D name kids.length=false then none else ik kids (d+1) (m+1)
def ik:List aj->Nat->Nat->Option Nat
 |[],_,m=>some m
 |t::ts,d,m=>match mX t d m with
  |none=>none
  |some m'=>ik ts d m'
end
mutual
theorem CP:∀(t:aj)(d m m':Nat),mX t d m=some m'->m<m'/\m'<=300
 | .node op arg s N D name kids,d,m,m'=>by
   intro h;rw[mX] at h;split at h
   ·cases h
   ·have:=PQ kids (d+1) (m+1) m' (by omega) h;omega
theorem PQ:∀(ts:List aj)(d m m':Nat),m<=300->ik ts d m=some m'->m<=m'/\m'<=300
 |[],d,m,m'=>by
  intro hm h;rw[ik] at h;cases h
  omega
 |t::ts,d,m,m'=>by
  intro hm h;rw[ik] at h;cases h1:mX t d m with
  |none=>rw[h1] at h;cases h
  |some a=>
   rw[h1] at h;have h2:=CP t d m a h1;have h3:=PQ ts d a m' h2.2 h;omega
end
theorem Ex.kid{s:Bool}{kids:List aj}{y1 y2 y3 y4 y5:Value}{x:Value}
 (h:Ex w (f+1) (.agg #[y1,y2,y3,y4,y5,x,.slice a n cap]) (.node op arg s N D name kids)){i:Nat}(hi:i<kids.length):
 ∃(b off:Nat)(o g:Int)(z:Bool)(x1:Option Addr)(x2 x3:Nat)(x4:Option Addr)(x5 x6:Nat)(nm:ByteArray)(a':Option Addr)(k d:Nat),
  a=some ⟨b,off,none⟩/\
  w.cell? ⟨b,off+i*7,none⟩=some (.int .i64 o)/\w.cell? ⟨b,off+i*7+1,none⟩=some (.int .i64 g)/\w.cell? ⟨b,off+i*7+2,none⟩=some (.bool z)/\
  w.cell? ⟨b,off+i*7+3,none⟩=some (.slice x1 x2 x3)/\w.cell? ⟨b,off+i*7+4,none⟩=some (.slice x4 x5 x6)/\w.cell? ⟨b,off+i*7+5,none⟩=some (.string nm)/\
  w.cell? ⟨b,off+i*7+6,none⟩=some (.slice a' k d)/\
  Ex w f (.agg #[.int .i64 o,.int .i64 g,.bool z,.slice x1 x2 x3,.slice x4 x5 x6,.string nm,.slice a' k d]) (kids[i]):=by
 obtain⟨x1,x2,x3,x4,x5,x6,C,B,hv,hc,hr,hn,y⟩:=h;obtain⟨b,off,cs,ha,hs,c,he⟩:=y i hi;injection hv with hv
 simp only[Array.mk.injEq,List.cons.injEq,Value.slice.injEq] at hv;obtain⟨-,-,-,-,-,-,⟨rfl,rfl,rfl⟩,-⟩:=hv;cases f with
 |zero=>exact he.elim
 |succ f=>
  obtain⟨o,g,z,N',m,nm,l,e⟩:∃o g z N' m nm l,kids[i]=aj.node o g z N' m nm l:=by cases kids[i];exact⟨_,_,_,_,_,_,_,rfl⟩
  rw[e] at he⊢;have j:=he;obtain⟨v,u,t,r,q,p,a',d,hv,-⟩:=he;injection hv with hv
  subst hv;have A:7*i=i*7:=Nat.mul_comm _ _;rw[A] at c;exact⟨b,off,o,g,z,v,u,t,r,q,p,nm,a',_,d,ha,c 0 (by omega),c 1 (by omega),c 2 (by omega),c 3 (by omega),c 4 (by omega),c 5 (by omega),c 6 (by omega),j⟩
theorem Ex.shape{s:Bool}{kids:List aj}(h:Ex w (f+1) v (.node op arg s N D name kids)):
 ∃(x1:Option Addr)(x2 x3:Nat)(x4:Option Addr)(x5 x6:Nat)(a:Option Addr)(cap:Nat),
  v= .agg #[.int .i64 op,.int .i64 arg,.bool s,.slice x1 x2 x3,.slice x4 x5 x6,.string name,.slice a kids.length cap]/\kids.length<=cap/\kids.length<4611686018427387904/\
  Rt w (.agg #[.bool s,.slice x1 x2 x3,.slice x4 x5 x6]) s N D:=by
 obtain⟨x1,x2,x3,x4,x5,x6,d,c,hv,hc,hr,hn,b⟩:=h;exact⟨_,_,_,_,_,_,_,_,hv,hc,hn,hr⟩
theorem Ae:∀(f:Nat){w:World}{v:Value}{t:aj},Ex w f v t->cL w->∀(d m:Nat),d<=31->m<=300->
 Calls prog 150 #[v,.int .i64 (d:Int),.int .i64 (m:Int)] w λ e w'=>e= .returned (.int .i64 (((mX t d m).getD 301:Nat):Int))/\aa w w'
 |0,_,_,_,h=>h.elim
 |f+1,w,v,.node op arg s N D name kids,h=>by
  intro M d m hd hm;obtain⟨x1,x2,x3,x4,x5,x6,a,cap,rfl,hc,hn,hr⟩:=h.shape;have r:=λ (i:Nat) (hi:i<kids.length)=>h.kid hi;clear h;have ed:((d+1:Nat):Int)=(d:Int)+1:=by omega
  by_cases h1:300<m+1
  ·have p:Hid (mX (.node op arg s N D name kids) d m=none):=Lib.hid (by rw[mX,if_pos (.inl h1)])
   have t1:decide ((m:Int)+1>300)=true:=by simp;omega
   clear r hr hn;go_enter func150,ntmps150;go_wp2;go_ret;exact⟨by rw[p.out];rfl,(aa.refl w).alloc _⟩
  have t1:decide (300<(m:Int)+1)=false:=by simp;omega
  by_cases h2:30<d
  ·have p:Hid (mX (.node op arg s N D name kids) d m=none):=Lib.hid (by rw[mX,if_pos (.inr (.inl h2))])
   have t2:decide (30<(d:Int))=true:=by simp;omega
   clear r hr hn;go_enter func150,ntmps150;go_wp2;go_ret;exact⟨by rw[p.out];rfl,(aa.refl w).alloc _⟩
  have t2:decide (30<(d:Int))=false:=by simp;omega
  have hf:=λ (w':World) (k:aa w w')=>G6 (op:=op) (arg:=arg) (name:=name) (a:=a) (n:=kids.length) (cap:=cap) (hr.kept k) (M.kept k)
  have F:aa w (w.alloc (.cells #[.int .i64 op,.int .i64 arg,.bool s,.slice x1 x2 x3,.slice x4 x5 x6,.string name,.slice a kids.length cap] 27)):=(aa.refl w).alloc _;have A:=Lib.hid F;clear F;cases B:bJ op arg s N D name kids.length
  ·have p:Hid (mX (.node op arg s N D name kids) d m=none):=Lib.hid (by rw[mX,if_pos (.inr (.inr B))])
   rw[B] at hf;clear r hr hn;go_enter func150,ntmps150;go_wp2_with(first|(go_at_call 244;refine(hf _ A.out).mono ?_;rintro e T ⟨rfl,y⟩))
   go_ret;exact⟨by rw[p.out];rfl,A.out.trans y⟩
  rw[B] at hf;have p:Hid (mX (.node op arg s N D name kids) d m=ik kids (d+1) (m+1)):=Lib.hid (by rw[mX,if_neg (by simp[B];omega)])
  clear hr;go_enter func150,ntmps150;go_wp2_with(first|(go_at_call 244;refine(hf _ A.out).mono ?_;rintro e T ⟨rfl,y⟩;obtain⟨-,-,-,-,-,-,e6,-⟩:=((aD.new w #[.int .i64 op,.int .i64 arg,.bool s,.slice x1 x2 x3,.slice x4 x5 x6,.string name,.slice a kids.length cap] 27).kept y).jK))
  have dI:=A.out.trans y;clear y A hf;go_loopw [2,25] (λ c i wr=>∃(k m':Nat),k<=kids.length/\i= .int .i64 (k:Int)/\c= .int .i64 (m':Int)/\m'<=300/\ik (kids.drop k) (d+1) m'=ik kids (d+1) (m+1)/\aa w wr) (λ _ i _=>kids.length-(intOf i).toNat)
  case atStart=>exact⟨0,m+1,eo _,rfl,by go_num,by omega,rfl,dI⟩
  case round=>
   obtain⟨k,m',F,rfl,rfl,Tt,I,j⟩:=hrel;have S:=Lib.hid I;clear I;by_cases J:k<kids.length
   ·obtain⟨b,off,o,g,z,u1,Z,Y,X,W,V,nm,a',n',aK,rfl,R,c1,c2,c3,c4,Q,P,hex⟩:=r k J;replace R:=j.cell R;replace c1:=j.cell c1;replace c2:=j.cell c2;replace c3:=j.cell c3;replace c4:=j.cell c4;replace Q:=j.cell Q;replace P:=j.cell P;have u:=λ (w':World) (L:aa w w')=>Ae f (hex.kept L) (M.kept L) (d+1) m' (by omega) Tt;rw[ed] at u;clear r hex;have q:ik (kids.drop k) (d+1) m'=(mX kids[k] (d+1) m').bind λ x=>ik (kids.drop (k+1)) (d+1) x:=by
     rw[List.drop_eq_getElem_cons J,ik]
     cases mX kids[k] (d+1) m'<;>rfl
    rw[S.out] at q;have K:aa w (wr.alloc (.cells #[.int .i64 o,.int .i64 g,.bool z,.slice u1 Z Y,.slice X W V,.string nm,.slice a' n' aK] 27)):=j.alloc _;have l:=Lib.hid K;clear K;cases G:mX kids[k] (d+1) m' with
    |none=>
     rw[G] at u q;have H:=Lib.hid q;clear q;go_wp2_with(first|(go_at_call 150;refine(u _ l.out).mono ?_;rintro e U ⟨rfl,E⟩))
     go_ret;exact⟨by rw[p.out,H.out];rfl,l.out.trans E⟩
    |some x=>
     rw[G] at u q;have C:=(CP _ _ _ _ G).2;have H:=Lib.hid q;clear q;have O:(((some x).getD 301:Nat):Int)=(x:Int):=rfl;rw[O] at u;clear O;go_wp2_with(first|(go_at_call 150;refine(u _ l.out).mono ?_;rintro e U ⟨rfl,E⟩))
     go_roundw
     case rel=>exact⟨k+1,x,by omega,by go_num,rfl,C,H.out.symm,l.out.trans E⟩
     case measure=>simp[intOf];omega
   ·obtain rfl:kids.length=k:=by omega
    clear r;go_wp2;go_ret;refine⟨?_,j⟩
    rw[p.out,<-S.out]
    simp[ik,go_sem]
def aj.ok(t:aj):Bool:=(mX t 1 0).isSome
theorem iN{t:aj}(h:Ex w f v t)(n:cL w):
 Calls prog 77 #[v] w λ e w'=>e= .returned (.bool t.ok)/\aa w w':=by
 have i:=h;have hc:Hid (t.ok=(mX t 1 0).isSome):=Lib.hid rfl;cases f with
 |zero=>exact h.elim
 |succ f=>
 cases t with
 |node op arg s N D name kids=>
  obtain⟨x1,x2,x3,x4,x5,x6,a,cap,rfl,l,hn,hr⟩:=h.shape;clear h hr;have c:aa w (w.alloc (.cells #[.int .i64 op,.int .i64 arg,.bool s,.slice x1 x2 x3,.slice x4 x5 x6,.string name,.slice a kids.length cap] 27)):=(aa.refl w).alloc _;have b:=Ae (f+1) (i.kept c) (n.kept c) 1 0 (by omega) (by omega)
  clear i;generalize o:aj.node op arg s N D name kids=y at*;cases g:mX y 1 0 with
  |none=>
   rw[g] at hc b;go_enter func77,ntmps77;go_wp2_with(first|(go_at_call 150;refine b.mono ?_;rintro e k ⟨rfl,d⟩))
   go_ret;exact⟨by rw[hc.out];rfl,c.trans d⟩
  |some m=>
   rw[g] at hc b;have hm:=(CP _ _ _ _ g).2;have j:(((some m).getD 301:Nat):Int)=(m:Int):=rfl;rw[j] at b;clear j;have t:decide ((m:Int)<=300)=true:=by simp;omega
   go_enter func77,ntmps77;go_wp2_with(first|(go_at_call 150;refine b.mono ?_;rintro e k ⟨rfl,d⟩))
   go_ret;exact⟨by rw[hc.out];rfl,c.trans d⟩
mutual
def tO:aj->Nat
 | .node _ _ _ _ _ _ kids=>tP kids+1
def tP:List aj->Nat
 |[]=>0
 |t::ts=>tO t+tP ts
end
mutual
def cZ:aj->List ByteArray
 | .node op _ _ _ _ name kids=>if op=2 then [name] else mq kids
def mq:List aj->List ByteArray
 |[]=>[]
 |t::ts=>cZ t++mq ts
end
mutual
theorem EN:∀(t:aj)(d m m':Nat),mX t d m=some m'->m'=m+tO t
 | .node op arg s N D name kids,d,m,m'=>by
   intro h;rw[mX] at h;split at h
   ·cases h
   ·have:=C6 kids (d+1) (m+1) m' h;rw[tO];omega
theorem C6:∀(ts:List aj)(d m m':Nat),ik ts d m=some m'->m'=m+tP ts
 |[],d,m,m'=>by
  intro h;rw[ik] at h;cases h
  simp[tP]
 |t::ts,d,m,m'=>by
  intro h;rw[ik] at h;cases h1:mX t d m with
  |none=>rw[h1] at h;cases h
  |some a=>
   rw[h1] at h;have h2:=EN t d m a h1;have h3:=C6 ts d a m' h;rw[tP];omega
end
theorem aj.U9{t:aj}(h:t.ok=true):tO t<=300:=by
 unfold aj.ok at h;obtain⟨m,hm⟩:=Option.isSome_iff_exists.1 h;have h1:=EN _ _ _ _ hm;have h2:=CP _ _ _ _ hm;omega
section
open Go Go.RowKit Go.Dig Go.Shelf
attribute [local go_sem] Oper.semAt_some
structure Nv where
 op:Int
 arg:Int
 s:Bool
 x1:Option Addr
 x2:Nat
 x3:Nat
 x4:Option Addr
 x5:Nat
 x6:Nat
 name:ByteArray
 a:Option Addr
 n:Nat
 cap:Nat
 short:name.size<=8
def Nv.val(x:Nv):Value:=.agg #[.int .i64 x.op,.int .i64 x.arg,.bool x.s,.slice x.x1 x.x2 x.x3,.slice x.x4 x.x5 x.x6,.string x.name,.slice x.a x.n x.cap]
def Nv.At(w:World)(b o:Nat)(x:Nv):Prop:=
 w.cell? ⟨b,o,none⟩=some (.int .i64 x.op)/\w.cell? ⟨b,o+1,none⟩=some (.int .i64 x.arg)/\w.cell? ⟨b,o+2,none⟩=some (.bool x.s)/\w.cell? ⟨b,o+3,none⟩=some (.slice x.x1 x.x2 x.x3)/\
 w.cell? ⟨b,o+4,none⟩=some (.slice x.x4 x.x5 x.x6)/\w.cell? ⟨b,o+5,none⟩=some (.string x.name)/\w.cell? ⟨b,o+6,none⟩=some (.slice x.a x.n x.cap)
theorem Nv.At.kept{o:Nat}{x:Nv}(h:x.At w b o)(k:aa w w'):x.At w' b o:=
 ⟨k.cell h.1,k.cell h.2.1,k.cell h.2.2.1,k.cell h.2.2.2.1,k.cell h.2.2.2.2.1,k.cell h.2.2.2.2.2.1,k.cell h.2.2.2.2.2.2⟩
theorem pF(h:Below w.heap.size w w'):aa w w':=⟨h.size,h.block,h.tape,h.os,h.output⟩
theorem DY(h:aa w w'):Below w.heap.size w w':=⟨h.os,h.tape,h.output,h.size,h.old⟩
def Lst(w:World):Nat->Nv->List Nv->Prop
 |0,_,_=>False
 |f+1,x,L=>∃ls:Nat->List Nv,L=x::(List.range x.n).flatMap ls/\x.n<4611686018427387904/\
   ∀i,i<x.n->∃b off y,x.a=some ⟨b,off,none⟩/\Nv.At w b (off+i*7) y/\Lst w f y (ls i)
theorem uD(ls:Nat->List Nv)(k:Nat):(List.range (k+1)).flatMap ls=(List.range k).flatMap ls++ls k:=by
 rw[List.range_succ,List.flatMap_append];simp
theorem Af(ls:Nat->List Nv):∀{n k:Nat},k<=n->(List.range k).flatMap ls<+:(List.range n).flatMap ls:=by
 intro n k h;induction n with
 |zero=>obtain rfl:k=0:=by omega
        exact List.prefix_refl _
 |succ n ih=>
  by_cases a:k=n+1
  ·subst a;exact List.prefix_refl _
  ·rw[uD]
   exact(ih (by omega)).trans (List.prefix_append _ _)
theorem RX(hd:F.depth=none)(k:Nat):F.room k:=λ d h=>by rw[hd] at h;cases h
theorem J6(hd:F.depth=none){m m':Nat}{P:Program}{l:Nat}{f:FuncId}{tmps:Array Value}{assign body:Code}{R:Ending->World->Prop}
 (h:RoundIn F m P l f tmps assign body w R):RoundIn F m' P l f tmps assign body w R:=⟨h.1,λ c cs _=>h.2 c cs (RX hd _)⟩
theorem J7(hd:F.depth=none){m:Nat}(m':Nat){P:Program}{l:Nat}{args:Array Value}{W:World}{R:Ending->World->Prop}(h:YieldAt F m P l args W R):YieldAt F m' P l args W R:=by
 obtain⟨fn,tmps,assign,body,a,hR⟩:=h;exact⟨fn,tmps,assign,body,a,J6 hd hR⟩
def KC(n₀:Nat)(W W':World):Prop:=Below n₀ W W'/\∀(b:Nat)(o:Obj),W.heap[b]? =some o->o.isCells=true->W'.heap[b]? =some o
theorem KC.refl(n₀:Nat)(W:World):KC n₀ W W:=⟨Below.refl _ _,λ _ _ h _=>h⟩
theorem KC.trans{C:World}(h:KC n₀ A B)(k:KC n₀ B C):KC n₀ A C:=⟨h.1.trans k.1,λ b o hb ho=>k.2 b o (h.2 b o hb ho) ho⟩
theorem KC.alloc(h:KC n₀ A B)(hn:n₀<=B.heap.size)(o:Obj):KC n₀ A (B.alloc o):=
 h.trans ⟨(Below.refl _ B).alloc hn o,λ b _ hb _=>(Below.heap_alloc B o b (Array.getElem?_eq_some_iff.1 hb).1).trans hb⟩
theorem KC.bw(h:KC n₀ A B){cs:Array Value}{t:TypeId}(hb:aD A b cs t):aD B b cs t:=h.2 b _ hb rfl
theorem PW(F:Fence)(hd:F.depth=none)(hf:F.fn 312)(E:F.round=none)(l N:Nat)(w0:World)(J C:List Nv->World->Prop)(B:∀pre W o,J pre W->J pre (W.alloc o))
 (K:∀m pre x W,J pre W->pre.length<N->YieldAt F m prog l #[Nv.val x] W λ e W'=>
   (e= .returned (.bool true)/\J (pre++[x]) W'/\KC w0.heap.size W W')∨(e= .returned (.bool false)/\C (pre++[x]) W')):
 ∀(f:Nat)(x:Nv)(L:List Nv),Lst w0 f x L->∀(n:Nat)(pre:List Nv)(W:World),Below w0.heap.size w0 W->J pre W->pre.length+L.length<=N->
  CallsIn F n prog 312 #[x.val,.func (.yield l) #[] #[]] W λ e W'=>
   (e= .returned (.bool true)/\J (pre++L) W'/\KC w0.heap.size W W')∨(e= .returned (.bool false)/\∃q,q<+:L/\C (pre++q) W')
 |0,_,_,h=>h.elim
 |f+1,x,L,h=>by
  intro n pre W g A M;obtain⟨ls,rfl,hn,I⟩:=h;have hdd:∀k:Nat,(F.depth.isSome=true->1<=k):=λ k h=>by rw[hd] at h;cases h
  have z:=B pre W (.cells #[.int .i64 x.op,.int .i64 x.arg,.bool x.s,.slice x.x1 x.x2 x.x3,.slice x.x4 x.x5 x.x6,.string x.name,.slice x.a x.n x.cap] 27) A;have Ml:Below w0.heap.size W (W.alloc (.cells #[.int .i64 x.op,.int .i64 x.arg,.bool x.s,.slice x.x1 x.x2 x.x3,.slice x.x4 x.x5 x.x6,.string x.name,.slice x.a x.n x.cap] 27)):=(Below.refl _ W).alloc g.size _;have V:=aD.new W #[.int .i64 x.op,.int .i64 x.arg,.bool x.s,.slice x.x1 x.x2 x.x3,.slice x.x4 x.x5 x.x6,.string x.name,.slice x.a x.n x.cap] 27;obtain⟨fn,tmps,assign,body,D,hR⟩:=K (n-1) pre x _ z (by simp at M;omega)
  dsimp only[Nv.val] at D⊢;have O:=Lib.hid hn;clear hn;generalize x.a=xa at*;refine callsIn_of_wp func312 rfl hf ?_ E;simp only[ntmps312,List.size_toArray,nK,List.length_nil,Nat.reduceAdd,Nat.reduceSub,Array.replicate_succ,Array.replicate_zero,List.push_toArray,List.append_toArray,List.nil_append,List.cons_append]
  have HK:=Lib.hid I;clear I
  gi_wp2_with fail
  refine hR.mono ?_;clear hR D;rintro e W2 (⟨rfl,w,H⟩|⟨rfl,S⟩)
  ·obtain⟨-,-,-,-,-,-,e6,-⟩:=(H.bw V).jK;have u:KC w0.heap.size W W2:=((KC.refl _ W).alloc g.size _).trans H
   gi_wp2
   gi_loopw [14] (λ i wr=>∃k:Nat,k<=x.n/\i= .int .i64 (k:Int)/\J (pre++[x]++(List.range k).flatMap ls) wr/\KC w0.heap.size W wr) (λ i _=>x.n-(intOf i).toNat)
   case atStart=>exact⟨0,eo _,rfl,by simpa using w,u⟩
   case round=>
    obtain⟨k,wD,rfl,p,c⟩:=hrel;by_cases T:k<x.n
    ·have hn:=O.out;obtain⟨b,off,y,rfl,X,j⟩:=HK.out k T;obtain⟨c0,c1,c2,c3,c4,Z,Y⟩:=X.kept (pF (g.trans c.1))
     have d:(pre++[x]++(List.range k).flatMap ls).length+(ls k).length<=N:=by
      have h1:=(Af ls (show k+1<=x.n by omega)).length_le;rw[uD] at h1;simp only[gJ,nK,List.length_nil] at h1 M⊢;omega
     have r:=PW F hd hf E l N w0 J C B K f y (ls k) j (n-1) (pre++[x]++(List.range k).flatMap ls)
      (wr.alloc (.cells #[.int .i64 y.op,.int .i64 y.arg,.bool y.s,.slice y.x1 y.x2 y.x3,.slice y.x4 y.x5 y.x6,.string y.name,.slice y.a y.n y.cap] 27)) ((g.trans c.1).alloc (jP g.size c.1.size) _) (B _ _ _ p) d
     have G:KC w0.heap.size W (wr.alloc (.cells #[.int .i64 y.op,.int .i64 y.arg,.bool y.s,.slice y.x1 y.x2 y.x3,.slice y.x4 y.x5 y.x6,.string y.name,.slice y.a y.n y.cap] 27)):=c.alloc (jP g.size c.1.size) _;have HP:Hid (∀q,q<+:ls k->x::((List.range k).flatMap ls++q)<+:x::(List.range x.n).flatMap ls):=Lib.hid λ q t=>by
      have h1:=Af ls (show k+1<=x.n by omega)
      rw[uD] at h1;exact List.cons_prefix_cons.2 ⟨rfl,(List.prefix_append_right_inj _ |>.2 t).trans h1⟩
     dsimp only[Nv.val] at r;clear d j;obtain⟨Ve,C9,s',u1,u2,u3,u4,u5,u6,Q,a',n',aK,P⟩:=y;dsimp only at c0 c1 c2 c3 c4 Z Y r G
     gi_wp2_with ((try refine⟨hdd _,?_⟩);gi_at_call 312;refine r.mono ?_;clear r;rintro e W3 (⟨rfl,v,U⟩|⟨rfl,q,t,R⟩))
     ·go_roundw
      case rel=>exact⟨k+1,by omega,by go_num,by rw[uD,<-rU];exact v,G.trans U⟩
      case measure=>simp[intOf];omega
     ·go_ret;exact .inr ⟨rfl,_,HP.out q t,by simpa [rU] using R⟩
    ·obtain rfl:k=x.n:=by omega
     have hn:=O.out
     gi_wp2
     go_ret;exact .inl ⟨rfl,by simpa [rU] using p,c⟩
  ·gi_wp2
   go_ret;exact .inr ⟨rfl,[x],⟨(List.range x.n).flatMap ls,rfl⟩,S⟩
end
end Go.Proofs.YtbapfnpbamnmpaaGreatDoor
