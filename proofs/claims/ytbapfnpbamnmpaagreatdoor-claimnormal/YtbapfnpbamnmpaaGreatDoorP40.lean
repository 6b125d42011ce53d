/- A part of the proof that the text which Print makes of a parsed text is a normal form -/
import Derived.Test.YtbapfnpbamnmpaaGreatDoorP00
import Derived.Test.YtbapfnpbamnmpaaGreatDoorP21
import Derived.Test.YtbapfnpbamnmpaaGreatDoorP39
import Derived.Test.YtbapfnpbamnmpaaGreatDoorP26
import Derived.Test.YtbapfnpbamnmpaaGreatDoorP33
import Derived.Test.YtbapfnpbamnmpaaGreatDoorP34
set_option maxHeartbeats 8000000
set_option maxRecDepth 100000
namespace Go.Proofs.YtbapfnpbamnmpaaGreatDoor
open Go Go.RowKit Go.Dig Go.Deep Go.Eng Go.Proofs.Tryz
variable{i k n:Nat}{x:cW}{q t:aj}{u:List (Nat×Bool)}{ts:List aS}{arg op:Int}{L:List aL}
section
attribute [local irreducible] wpList
def VL(i:im):Prop:=ac8 i.s1 i.N1 i.D1/\ac8 i.s2 i.N2 i.D2/\i.void=false/\aaA i=i
end
section
variable{ts:List aS}{i j k:Nat}{u v:List (Nat×Bool)}
structure Gu(ts:List aS)(i j:Nat)(u:List (Nat×Bool)):Prop where
 le:i<=j
 use:∀p∈u,i<=p.1/\p.1<j/\dZ (ar ts p.1)=true
 Wx:(u.map (·.1)).Pairwise (· <·)
theorem Gd.gu(h:Gd ts i j u):Gu ts i j u:=⟨h.le,h.use,h.Wx⟩
theorem Gu.nil(h:i<=j):Gu ts i j []:=⟨h,λ _ h=>absurd h nU,List.Pairwise.nil⟩
theorem Gu.cat(h:Gu ts i j u)(g:Gu ts j k v):Gu ts i k (u++v):=by
 refine⟨jP h.le g.le,λ p hp=> ?_,?_⟩
 ·have h1:=h.le;have h2:=g.le;rcases List.mem_append.1 hp with hp|hp
  ·obtain⟨a,b,c⟩:=h.use p hp;exact⟨a,by omega,c⟩
  ·obtain⟨a,b,c⟩:=g.use p hp;exact⟨by omega,b,c⟩
 ·rw[List.map_append,List.pairwise_append]
  refine⟨h.Wx,g.Wx,λ a ha b hb=> ?_⟩
  obtain⟨p,hp,rfl⟩:=List.mem_map.1 ha;obtain⟨q,d,rfl⟩:=List.mem_map.1 hb;have:=(h.use p hp).2.1;have:=(g.use q d).1;omega
structure AQ(ts:List aS)(n:Nat)(x:cW)(U:List (Nat×Bool)):Prop where
 s0:∃u,eD aN ts n x.f0=some (.ok x.e0 x.t0 u)/\∀p∈u,p∈U
 s1:∃u,eD aN ts n x.f1=some (.ok x.e1 x.t1 u)/\∀p∈u,p∈U
 op:qi (ar ts x.t0)=true
 tx:x.op=(ar ts x.t0).text
 f1:x.f1=x.t0+1
 lt0:x.f0<x.t0
 Xa:x.f1<x.t1
 ZC:∀k,x.f0<=k->k<x.t0->Si (ar ts k)
 Xh:∀k,x.f1<=k->k<x.t1->Si (ar ts k)
theorem AQ.mono{U U':List (Nat×Bool)}(h:AQ ts n x U)(k:∀p∈U,p∈U'):AQ ts n x U':=by
 obtain⟨b,e,d⟩:=h.s0;obtain⟨a,a1,c⟩:=h.s1;exact⟨⟨b,e,λ p hp=>k p (d p hp)⟩,⟨a,a1,λ p hp=>k p (c p hp)⟩,h.op,h.tx,h.f1,h.lt0,h.Xa,h.ZC,h.Xh⟩
theorem Hh(h:rV aN ts n i=some (.ok x j u)):x.f0=i/\x.t1=j/\i<j/\AQ ts n x u/\Gu ts i j u:=by
 unfold rV at h;obtain⟨e0,a,f,v,b,h1,c⟩:=aA h;obtain⟨a1,g1⟩:=(vu aN ts n).1 _ _ _ _ b;split at h1;case isFalse=>cases h1
 rename_i d;obtain⟨e1,g,e,v1,h2,h3,hv⟩:=aA h1;cases h3
 obtain⟨a2,g2⟩:=(vu aN ts n).1 _ _ _ _ h2;rw[List.append_nil] at hv;subst hv;subst c;refine⟨rfl,rfl,by omega,⟨⟨_,b,λ p hp=>List.mem_append_left _ hp⟩,⟨_,h2,λ p hp=>List.mem_append_right _ hp⟩,d,rfl,rfl,a1,a2,g1.tok,g2.tok⟩,?_⟩
 have g3:Gu ts a (a+1) []:=Gu.nil (Nat.le_succ _)
 have:=(g1.gu.cat g3).cat g2.gu
 rwa [List.append_nil] at this
def Sa(ts:List aS)(x:lQ):Prop:=x.inf=true∨(x.inf=false/\(ar ts x.at').kind=0)
structure Y2(ts:List aS)(x:cp):Prop where
 nm:(ar ts x.name).kind=1
 lo:Sa ts x.lo
 hi:Sa ts x.hi
theorem Bi{p:Nat}(h:nJ ts k i=some (.ok p j u)):(ar ts i).kind=k/\p=i/\j=i+1/\u=[]:=by
 unfold nJ at h;split at h
 ·rename_i a;cases h
  exact⟨by simpa using a,rfl,rfl,rfl⟩
 ·cases h
theorem Qi{x:lQ}(h:ql ts i=some (.ok x j u)):Sa ts x/\i<j/\u=[]:=by
 unfold ql at h;split at h
 ·obtain⟨p,h1,rfl⟩:=bD h;obtain⟨a,rfl,rfl,rfl⟩:=Bi h1;exact⟨.inr ⟨rfl,a⟩,by omega,rfl⟩
 ·obtain⟨p,h1,rfl⟩:=bD h;obtain⟨a,rfl,rfl,rfl⟩:=Bi h1;exact⟨.inr ⟨rfl,a⟩,by omega,rfl⟩
theorem ac9{x:lQ}(h:AK ts i=some (.ok x j u)):Sa ts x/\i<j/\u=[]:=by
 unfold AK at h;split at h
 ·obtain⟨p,h1,rfl⟩:=bD h;obtain⟨-,rfl,rfl⟩:=bG h1;exact⟨.inl rfl,by omega,rfl⟩
 ·obtain⟨y,b,a,v1,h1,h2,rfl⟩:=aA h;obtain⟨a1,a2,rfl⟩:=Qi h1;obtain⟨p,h3,rfl⟩:=bD h2;obtain⟨-,rfl,rfl⟩:=bG h3;exact⟨a1,by omega,rfl⟩
theorem Hi{x:cp}(h:lD ts i=some (.ok x j u)):Y2 ts x/\i<j/\u=[]/\x.name=i:=by
 unfold lD at h;obtain⟨nm,G,D,v1,h1,h2,rfl⟩:=aA h;obtain⟨g,rfl,rfl,rfl⟩:=Bi h1;obtain⟨_,F,C,v2,h3,r,rfl⟩:=aA h2;obtain⟨-,rfl,rfl⟩:=bG h3;obtain⟨lo,l,f,A,c,q,rfl⟩:=aA r;have m:Sa ts lo/\nm+1+1<l/\f=[]:=by
  split at c
  ·obtain⟨_,k,e,d,b,a,rfl⟩:=aA c;obtain⟨-,rfl,rfl⟩:=bG b;obtain⟨p,o,rfl⟩:=bD a;obtain⟨-,rfl,rfl⟩:=bG o;exact⟨.inl rfl,by omega,rfl⟩
  ·obtain⟨_,k,e,d,b,a,rfl⟩:=aA c;obtain⟨-,rfl,rfl⟩:=bG b;obtain⟨w,I,rfl⟩:=Qi a;exact⟨w,by omega,rfl⟩
 obtain⟨n,H,rfl⟩:=m;obtain⟨_,E,B,z,v,t,rfl⟩:=aA q;obtain⟨-,rfl,rfl⟩:=bG v;obtain⟨y,s,rfl⟩:=bD t;obtain⟨c1,c2,rfl⟩:=ac9 s;exact⟨⟨g,n,c1⟩,by omega,rfl,rfl⟩
theorem Dl{α:Type}{p:Nat->Option (PR α)}{P:α->List (Nat×Bool)->Prop}(hp:∀i x j u,p i=some (.ok x j u)->i<j/\P x u/\Gu ts i j u):∀n(acc l:List α) i j u,kQ ts p n acc i=some (.ok l j u)->(∀x∈l,x∈acc∨∃v,P x v/\∀q∈v,q∈u)/\Gu ts i j u/\l.length<=acc.length+n
 |0,acc,l,i,j,u,h=>by rw[kQ] at h;cases h
 |n+1,acc,l,i,j,u,h=>by
  rw[kQ] at h;split at h
  ·obtain⟨x,c,b,v1,h1,h2,rfl⟩:=aA h;obtain⟨a1,a2,a3⟩:=hp _ _ _ _ h1;obtain⟨g,f,b3⟩:=Dl hp n _ _ _ _ _ h2;have a4:Gu ts i c b:=⟨by omega,λ q a=>by obtain⟨c1,c2,c3⟩:=a3.use q a;exact⟨by omega,c2,c3⟩,a3.Wx⟩
   refine⟨λ y d=> ?_,a4.cat f,?_⟩
   ·rcases g y d with h3|⟨v,h3,e⟩
    ·rcases List.mem_append.1 h3 with h3|h3
     ·exact .inl h3
     ·rw[List.mem_singleton.1 h3]
      exact .inr ⟨b,a2,λ q a=>List.mem_append_left _ a⟩
    ·exact .inr ⟨v,h3,λ q a=>List.mem_append_right _ (e q a)⟩
   ·rw[gJ,List.length_singleton] at b3;omega
  ·cases h
   exact⟨λ x hx=>.inl hx,Gu.nil (aU _),Nat.le_add_right _ _⟩
structure DrP(ts:List aS)(n:Nat)(d:ig)(j:Nat)(u:List (Nat×Bool)):Prop where
 rel:∀x∈d.goal::d.conds,AQ ts n x u
 sid:∀x∈d.box,Y2 ts x
 use:Gu ts 0 j u
 nc:d.conds.length<=n+1
 nb:d.box.length<=n+1
theorem GC{d:ig}(h:rH aN ts n=some (.ok d j u)):DrP ts n d j u:=by
 unfold rH at h;obtain⟨g,J,U,v1,h1,h2,rfl⟩:=aA h;obtain⟨-,-,a3,a4,S⟩:=Hh h1;unfold Ct at h2;obtain⟨b,r,H,v2,h3,F,rfl⟩:=aA h2;have hb:(∀x∈b,Y2 ts x)/\Gu ts J r H/\b.length<=n+1:=by
  split at h3
  ·unfold mI at h3;obtain⟨x,D,B,G,f,w,rfl⟩:=aA h3;obtain⟨c1,c2,rfl,-⟩:=Hi f;obtain⟨o,m,l⟩:=Dl (P:=λ x _=>Y2 ts x) (λ i x j u t=>by
    obtain⟨A,z,rfl,-⟩:=Hi t;exact⟨z,A,Gu.nil (by omega)⟩) n _ _ _ _ _ w
   refine⟨λ y s=>by
    rcases o y s with e|⟨v,e,-⟩
    ·rw[List.mem_singleton.1 e];exact c1
    ·exact e,(Gu.nil (by omega)).cat m,?_⟩
   rw[List.length_singleton] at l;omega
  ·cases h3
   exact⟨λ x hx=>absurd hx nU,Gu.nil (aU _),eo _⟩
 obtain⟨R,Q,b3⟩:=hb;unfold uX at F;obtain⟨c,I,C,T,k,E,rfl⟩:=aA F;have K:(∀x∈c,AQ ts n x C)/\Gu ts r I C/\c.length<=n+1:=by
  split at k
  ·unfold mI at k;obtain⟨x,D,B,G,f,w,rfl⟩:=aA k;obtain⟨-,-,c1,c2,c3⟩:=Hh f;obtain⟨o,m,l⟩:=Dl (P:=AQ ts n) (λ i x j u t=>by
    obtain⟨-,-,A,z,O⟩:=Hh t;exact⟨A,z,O⟩) n _ _ _ _ _ w
   have c4:Gu ts r D B:=⟨by omega,λ q a=>by obtain⟨e1,N,M⟩:=c3.use q a;exact⟨by omega,N,M⟩,c3.Wx⟩
   refine⟨λ y s=>by
    rcases o y s with e|⟨v,e,L⟩
    ·rw[List.mem_singleton.1 e];exact c2.mono λ q a=>List.mem_append_left _ a
    ·exact e.mono λ q a=>List.mem_append_right _ (L q a),c4.cat m,?_⟩
   rw[List.length_singleton] at l;omega
  ·cases k
   exact⟨λ x hx=>absurd hx nU,Gu.nil (aU _),eo _⟩
 obtain⟨c1,c2,c3⟩:=K;unfold uW at E;obtain⟨p,f,rfl⟩:=bD E;obtain⟨-,-,rfl,rfl⟩:=Bi f;refine⟨λ x hx=> ?_,R,S.cat (Q.cat (c2.cat (Gu.nil (Nat.le_succ _)))),c3,b3⟩
 rcases List.mem_cons.1 hx with rfl|hx
 ·exact a4.mono λ q a=>List.mem_append_left _ a
 ·exact(c1 x hx).mono λ q a=>List.mem_append_right _ (List.mem_append_right _ (List.mem_append_left _ a))
end
section
variable{ts:List aS}{m i n:Nat}
theorem yY:nJ ts k i≠none:=by unfold nJ;split<;>exact λ h=>by cases h
theorem E2:ql ts i≠none:=by unfold ql;split<;>exact fC yY
theorem VP:AK ts i≠none:=by
 unfold AK;split
 ·exact fC eu
 ·exact bH E2 λ x j u _=>fC eu
theorem E3:lD ts i≠none:=by
 unfold lD;refine bH yY λ x j u _=>bH eu λ _ j u _=>bH ?_ λ _ j u _=>bH eu λ _ j u _=>fC VP;split
 ·exact bH eu λ _ j u _=>fC eu
 ·exact bH eu λ _ j u _=>E2
theorem Dm(ho:outT ts m)(hn:10*m+4<=n):rV aN ts n i≠none:=by
 unfold rV;have hf:=λ i=>(SG aN ts m ho n).1 i (by omega)
 refine bH (hf i) λ x j u _=> ?_;split
 ·exact bH (hf _) λ x j u _ h=>by cases h
 ·exact λ h=>by cases h
theorem yZ{α:Type}{p:Nat->Option (PR α)}(ho:outT ts m)(hp:∀i,p i≠none)(a:∀i x j u,p i=some (.ok x j u)->i<j):∀n(acc:List α) i,m<n+i->1<=n->kQ ts p n acc i≠none
 |0,_,_,_,h1=>absurd h1 (by decide)
 |n+1,acc,i,h,_=>by
  rw[kQ]
  split
  ·rename_i hs;have:=ho.bF hs;refine bH (hp _) λ x j u e=> ?_;have:=a _ _ _ _ e;exact yZ ho hp a n _ j (by omega) (by omega)
  ·exact λ h=>by cases h
theorem Sb(ho:outT ts m)(hn:10*m+4<=n):rH aN ts n≠none:=by
 unfold rH;refine bH (Dm ho hn) λ g j u _=> ?_;unfold Ct;refine bH ?_ λ b j u _=> ?_
 ·split
  ·unfold mI;exact bH E3 λ x j u _=>yZ ho (λ _=>E3) (λ _ _ _ _ h=>(Hi h).2.1) n _ _ (by omega) (by omega)
  ·exact λ h=>by cases h
 unfold uX;refine bH ?_ λ c j u _=> ?_
 ·split
  ·unfold mI;exact bH (Dm ho hn) λ x j u _=>yZ ho (λ _=>Dm ho hn) (λ _ _ _ _ h=>(Hh h).2.2.1) n _ _ (by omega) (by omega)
  ·exact λ h=>by cases h
 unfold uW;exact fC yY
end
section
variable{s:ByteArray}
theorem wB(a:k<(aP true s 0).1.length):ar (aJ s) k=(aP true s 0).1[k]:=Y1 (en:=s.size) a
theorem Qk(s:ByteArray):outT (aJ s) (aP true s 0).1.length:=λ i hi=>by
 by_cases h:i<(aJ s).length
 ·have h2:(aJ s).length=(aP true s 0).1.length+1:=by unfold aJ;rw[gJ];rfl
  obtain rfl:i=(aP true s 0).1.length:=by omega
  unfold ar aJ;rw[List.getElem?_append_right (aU _),Nat.sub_self]
  rfl
 ·rw[oq h]
theorem rC(h:(ar (aJ s) k).kind≠4):k<(aP true s 0).1.length:=Classical.byContradiction λ hn=>h (Qk s k (by omega))
theorem VQ(a:k<(aP true s 0).1.length):ScF s 0 (ar (aJ s) k):=by
 rw[wB a]
 exact(mh true s 0).1 _ (List.getElem_mem a)
theorem Bb(hs:s.size<=4000):(aP true s 0).1.length<=4000:=jP (xi s 0) (by omega)
theorem Y4(hs:s.size<=4000):RqC (aP true s 0).1:=by
 have hf:=(mh true s 0).1;have:=Bb hs;exact⟨by omega,λ t a=>(hf t a).WD,λ t a b=>(hf t a).num b hs,λ t a=>by have:=(hf t a).hi;omega,λ t a b=>(hf t a).fn b⟩
theorem Y5{t:aS}(h:t∈aJ s):t∈(aP true s 0).1∨t=ij s:=by
 unfold aJ at h;rcases List.mem_append.1 h with h|h
 ·exact .inl h
 ·exact .inr (List.mem_singleton.1 h)
theorem Ql(hs:s.size<=4000)(h:dZ (ar (aJ s) k)=true):k<(aJ s).length/\nu (ar (aJ s) k).text/\0<(ar (aJ s) k).text.size/\(ar (aJ s) k).text.size<=4000:=by
 obtain⟨b,hA⟩:=qO h;have a:=rC (s:=s) (k:=k) (by omega)
 have hf:=VQ a;have h2:(aJ s).length=(aP true s 0).1.length+1:=by unfold aJ;rw[gJ];rfl
 have:=hf.hi;exact⟨by omega,hA,hf.pos,by omega⟩
theorem Y6{U:List (Nat×Bool)}(h:AQ (aJ s) n x U):x.f0<x.t1/\x.t1<=(aP true s 0).1.length:=by
 have h1:=h.lt0;have h2:=h.Xa;have h3:=h.f1;have a:=(h.Xh (x.t1-1) (by omega) (by omega)).1;have:=rC (s:=s) (k:=x.t1-1) (by omega)
 omega
end
theorem VR{t:ByteArray}:∀k,k<=t.size->wvN t k<1000->wvN t k=dE t 0 k
 |0,_,_=>rfl
 |k+1,a,h=>by
  rw[Vd a] at h⊢;unfold wvS at h⊢;by_cases h1:wvN t k<1000
  ·rw[if_pos h1] at h⊢;rw[VR k (by omega) h1,dE,lp,kD a]
  ·rw[if_neg h1] at h;exact absurd h h1
theorem Sc(t:ByteArray):min (jC t) 1000=min (cw t) 1000:=by
 by_cases h:cw t<1000
 ·rw[yx h];omega
 ·have h1:¬jC t<1000:=λ h2=>by
   have:=VR t.size (aU _) (by rw[PU];exact h2)
   rw[PU] at this;exact h (by show dE t 0 t.size<1000;omega)
  omega
def loU(b:Bool):Nat:=if b=true then 2 else 0
def hiU(b:Bool):Nat:=if b=true then 8 else 32
theorem Hj(ts:List aS)(p:Nat×Bool):AP ts p= !(xR (loU p.2) (hiU p.2) (ar ts p.1)):=by
 unfold AP;rw[Sc]
 obtain⟨k,b⟩:=p;cases b
 ·show(if false=true then _ else decide (32<min (cw (ar ts k).text) 1000))= !(decide (0<=cw (ar ts k).text)&&decide (cw (ar ts k).text<=32))
  rw[if_neg iZ,cU (eo _),Bool.true_and,<-decide_not]
  exact decide_eq_decide.2 (by omega)
 ·show(if true=true then decide (min (cw (ar ts k).text) 1000<2)||decide (8<min (cw (ar ts k).text) 1000) else _)= !(decide (2<=cw (ar ts k).text)&&decide (cw (ar ts k).text<=8))
  rw[if_pos rfl,Bool.not_and,<-decide_not,<-decide_not]
  congr 1
  ·exact decide_eq_decide.2 (by omega)
  ·exact decide_eq_decide.2 (by omega)
section
variable{ts:List aS}{lo hi a:Nat}
theorem qw:∀(ks:List Nat)(o:Int),(∀k∈ks,xR lo hi (ar ts k)=true)->fb ts lo hi ks o=o
 |[],_,_=>rfl
 |k::ks,o,h=>by
  show fb ts lo hi ks (nv ts lo hi o k)=o;have e:nv ts lo hi o k=o:=by unfold nv;rw[h k my];rfl
  rw[e]
  exact qw ks o λ k a=>h k (rG _ a)
def VS(a:Nat)(o:Int):Prop:=o<0∨(a:Int)<=o
theorem Dn{o:Int}(h:VS a o)(hb:xR lo hi (ar ts k)=false->a<=(ar ts k).at'):VS a (nv ts lo hi o k):=by
 unfold nv;split
 ·rename_i h1;simp only[fv,Bool.not_eq_true'] at h1;exact .inr (by have:=hb h1.1;omega)
 ·exact h
theorem E4:∀(ks:List Nat)(o:Int),VS a o->(∀k∈ks,xR lo hi (ar ts k)=false->a<=(ar ts k).at')->VS a (fb ts lo hi ks o)
 |[],_,h,_=>h
 |k::ks,_,h,hb=>E4 ks _ (Dn h (hb k my)) λ k b=>hb k (rG _ b)
theorem VT(hb:xR lo hi (ar ts k)=false->a<=(ar ts k).at'):nv ts lo hi (a:Int) k=a:=by
 unfold nv;rw[if_neg]
 intro h1;simp only[fv,Bool.not_eq_true',Bool.or_eq_true,oh] at h1;have:=hb h1.1;omega
theorem Hk:∀(ks:List Nat),(∀k∈ks,xR lo hi (ar ts k)=false->a<=(ar ts k).at')->fb ts lo hi ks (a:Int)=a
 |[],_=>rfl
 |k::ks,hb=>by
  show fb ts lo hi ks (nv ts lo hi a k)=a;rw[VT (hb k my)]
  exact Hk ks λ k b=>hb k (rG _ b)
theorem Dp:∀(ks:List Nat)(o:Int),VS a o->(∀k∈ks,xR lo hi (ar ts k)=false->a<=(ar ts k).at')->(∃k∈ks,xR lo hi (ar ts k)=false/\(ar ts k).at'=a)->fb ts lo hi ks o=a
 |[],_,_,_,h=>by obtain⟨k,b,-⟩:=h;exact absurd b nU
 |k::ks,o,ho,hb,h=>by
  show fb ts lo hi ks (nv ts lo hi o k)=a;by_cases b:xR lo hi (ar ts k)=false/\(ar ts k).at'=a
  ·have e:nv ts lo hi o k=(a:Int):=by
    unfold nv;rw[b.1,b.2]
    by_cases h1:o<0∨(a:Int)<o
    ·rw[if_pos (by simpa using h1)]
    ·rw[if_neg (by simpa using h1)]
     rcases ho with h2|h2
     ·omega
     ·omega
   rw[e]
   exact Hk ks λ k b=>hb k (rG _ b)
  ·refine Dp ks _ (Dn ho (hb k my)) (λ k b=>hb k (rG _ b)) ?_;obtain⟨q,c,h2⟩:=h;rcases List.mem_cons.1 c with rfl|c
   ·exact absurd h2 b
   ·exact⟨q,c,h2⟩
end
theorem rk{b:Bool}:k∈gi u b↔(k,b)∈u:=by
 unfold gi;rw[List.mem_map]
 constructor
 ·rintro⟨⟨k',b'⟩,h,rfl⟩
  rw[List.mem_filter] at h;have:b'=b:=by simpa using h.2
  rw[<-this]
  exact h.1
 ·intro h;exact⟨(k,b),List.mem_filter.2 ⟨h,by simp⟩,rfl⟩
theorem NV(m:∀p∈u,∀q∈u,p.1<=q.1->(ar ts p.1).at'<=(ar ts q.1).at')(e:(u.map (·.1)).Pairwise (· <·)):
 mj ts (gi u false) (gi u true)=(u.find? (AP ts)).map λ p=>((ar ts p.1).at',2):=by
 have l:∀(b:Bool)(k:Nat),k∈gi u b->xR (loU b) (hiU b) (ar ts k)= !(AP ts (k,b)):=λ b k _=>by rw[Hj,Bool.not_not]
 have key:fb ts 2 8 (gi u true) (fb ts 0 32 (gi u false) (-1))=match u.find? (AP ts) with
  |some p=>((ar ts p.1).at':Int)
  |none=> -1:=by
  cases hf:u.find? (AP ts) with
  |none=>
   have n:=List.find?_eq_none.1 hf;have hb:∀b k,k∈gi u b->xR (loU b) (hiU b) (ar ts k)=true:=λ b k d=>by
    rw[l b k d,Bool.eq_false_iff.2 (n _ (rk.1 d))]
    rfl
   have e1:fb ts 0 32 (gi u false) (-1)= -1:=qw _ _ (hb false)
   rw[e1]
   exact qw _ _ (hb true)
  |some p=>
   obtain⟨hp,g,f,rfl,has⟩:=List.find?_eq_some_iff_append.1 hf;have a:p∈g++p::f:=List.mem_append_right _ my;have i:∀q∈g++p::f,AP ts q=true->(ar ts p.1).at'<=(ar ts q.1).at':=λ q j h=>by
    refine m p a q j ?_;rcases List.mem_append.1 j with h1|h1
    ·have:=has q h1;rw[h] at this;cases this
    ·rcases List.mem_cons.1 h1 with rfl|h1
     ·exact aU _
     ·rw[List.map_append,List.pairwise_append,List.map_cons,List.pairwise_cons] at e;exact Nat.le_of_lt (e.2.1.1 q.1 (List.mem_map.2 ⟨q,h1,rfl⟩))
   have hb:∀b k,k∈gi (g++p::f) b->xR (loU b) (hiU b) (ar ts k)=false->(ar ts p.1).at'<=(ar ts k).at':=λ b k d hr=>by
    rw[l b k d] at hr;exact i _ (rk.1 d) (by simpa using hr)
   have c:xR (loU p.2) (hiU p.2) (ar ts p.1)=false:=by
    have:=Hj ts p;rw[hp] at this;simpa using this.symm
   obtain⟨k,b⟩:=p;cases b
   ·have e1:fb ts 0 32 (gi (g++(k,false)::f) false) (-1)=((ar ts k).at':Int):=Dp _ _ (.inl (by decide)) (hb false) ⟨k,rk.2 a,c,rfl⟩
    rw[e1]
    exact Hk _ (hb true)
   ·exact Dp _ _ (E4 _ _ (.inl (by decide)) (hb false)) (hb true) ⟨k,rk.2 a,c,rfl⟩
 unfold mj;rw[key]
 cases u.find? (AP ts) with
 |none=>rfl
 |some p=>
  show(if ((ar ts p.1).at':Int)<0 then none else _)=some _;rw[if_neg (by omega)]
  rfl
theorem VU{l:List aS}{e:aS}(he:e.kind=4):gP (l++[e])=gP l:=by
 have h1:∀p:aS->Bool,p e=false->(l++[e]).find? p=l.find? p:=λ p hp=>by
  rw[List.find?_append]
  cases l.find? p with
  |some t=>rfl
  |none=>simp[List.find?,hp]
 unfold gP;rw[h1 yu (by unfold yu;rw[he];rfl),h1 fY (by unfold fY;rw[he];rfl)]
section
variable{s:ByteArray}
theorem nR(s:ByteArray):(aJ s).length=(aP true s 0).1.length+1:=by unfold aJ;rw[gJ];rfl
theorem Qm(hs:s.size<=4000){f0 t0:Nat}{e:aj}(P:f0<t0)(h:eD aN (aJ s) n f0=some (.ok e t0 u))(hex:∀k,f0<=k->k<t0->Si (ar (aJ s) k))
 (I:∀t∈(aP true s 0).1,yu t=false/\fY t=false)(U:∀p∈u,AP (aJ s) p=false):PaT s (aJ s) f0 t0 e:=by
 obtain⟨L,g⟩:∃L,L=(aP true s 0).1:=⟨_,rfl⟩
 have Y:t0<=L.length:=by
  have:=rC (s:=s) (k:=t0-1) (by have:=(hex (t0-1) (by omega) (by omega)).1;omega)
  rw[g]
  omega
 have hf:=λ k (d:k<L.length)=>VQ (s:=s) (k:=k) (by rw[<-g];exact d)
 have y:∀k(d:k<L.length),ar (aJ s) k=L[k]:=λ k d=>by
  subst g;exact wB d
 obtain⟨-,sp,N⟩:=mh true s 0;have l:=N f0 (by rw[<-g];omega)
 have e0:(aP true s 0).1[f0]'(by rw[<-g];omega)=ar (aJ s) f0:=(wB (by rw[<-g];omega)).symm;rw[e0,<-g] at l;rw[<-g] at sp I;obtain⟨a,ha⟩:∃a,a=(ar (aJ s) f0).at':=⟨_,rfl⟩
 obtain⟨b,hb⟩:∃b,b=tkE (ar (aJ s) (t0-1)):=⟨_,rfl⟩
 have F:b<=s.size:=by rw[hb];exact(hf (t0-1) (by omega)).hi
 have M:a<=b:=by
  rw[ha,hb]
  unfold tkE;by_cases h1:f0=t0-1
  ·rw[<-h1];omega
  ·rw[y f0 (by omega),y (t0-1) (by omega)]
   have:=List.pairwise_iff_getElem.1 sp f0 (t0-1) (by omega) (by omega) (by omega)
   omega
 rw[<-ha] at l;obtain⟨T,H⟩:∃T,T=(L.drop f0).take (t0-f0):=⟨_,rfl⟩
 have m:T.length=t0-f0:=by rw[H,List.length_take,List.length_drop];omega
 have o:∀k(d:k<T.length),T[k]=ar (aJ s) (k+f0):=λ k d=>by
  rw[y (k+f0) (by omega)]
  subst H;rw[List.getElem_take,List.getElem_drop]
  congr 1;omega
 have f:∀t∈T,t∈L/\Si t:=λ t c=>by
  obtain⟨k,d,rfl⟩:=List.getElem_of_mem c;rw[o k d]
  refine⟨?_,hex _ (by omega) (by omega)⟩
  rw[y _ (by omega)]
  exact List.getElem_mem _
 have q:=Bn (a:=a) F a T (L.drop t0) (aU _) M (by
  rw[l,H]
  conv=>lhs;rw[<-List.take_append_drop (t0-f0) (L.drop f0)]
  rw[List.drop_drop]
  congr 2;omega) (λ t c=>(f t c).2) (λ V=>by rw[V] at m;simp at m;omega) (λ t c=>by
  have e1:T[T.length-1]? =some t:=by rw[<-List.getLast?_eq_getElem?];exact c
  obtain⟨h1,h2⟩:=List.getElem?_eq_some_iff.1 e1;rw[o _ h1,show T.length-1+f0=t0-1 by omega] at h2;rw[<-h2,hb]
  rfl)
 rw[Nat.sub_self] at q;obtain⟨i,j⟩:∃i:List aS,i=T.map λ t=>⟨t.kind,t.text,t.at'-a⟩:=⟨_,rfl⟩
 rw[<-j] at q;have G:i.length=t0-f0:=by rw[j,List.length_map,m]
 have w:∀k,k<t0-f0->xZ (ar i k) (ar (aJ s) (k+f0)):=λ k d=>by
  have R:k<T.length:=by omega
  have W:ar i k=⟨T[k].kind,T[k].text,T[k].at'-a⟩:=by
   unfold ar;rw[nW (by omega)]
   subst j;rw[List.getElem_map]
   rfl
  rw[W,o k R]
  exact⟨rfl,rfl⟩
 have z:∀t∈i,∃t'∈T,t.kind=t'.kind/\t.text=t'.text:=λ t c=>by
  rw[j] at c;obtain⟨t',h1,rfl⟩:=List.mem_map.1 c;exact⟨t',h1,rfl,rfl⟩
 obtain⟨A,C,B⟩:=(Wz aN (aJ s) i f0 n).1 0 e (t0-f0) u (by rw[lp,show t0-f0+f0=t0 by omega];exact h) ⟨λ k _ d=>w k d,.inr λ x=>by
  rw[oq (by omega)]
  rfl⟩
 have S:=((vu aN (aJ s) n).1 _ _ _ _ h).2;have X:(s.extract a b).size=b-a:=bO s a b F;have v:=Y4 hs;rw[<-g] at v;refine⟨P,by rw[nR,<-g];omega,by rw[<-ha,<-hb];exact M,by rw[<-hb];exact F,hs,?_⟩
 have E:OD s (aJ s) f0 t0=s.extract a b:=by unfold OD;rw[<-ha,<-hb]
 rw[E]
 refine⟨by omega,by rw[q],?_,?_,?_⟩
 ·rw[q]
  have Q:=v.len;refine⟨by show i.length<=5000;omega,λ t c=> ?_,λ t c d=> ?_,λ t c d=> ?_⟩
  ·obtain⟨t',h1,h2,-⟩:=z t c;rw[h2];exact v.WD t' (f t' h1).1
  ·obtain⟨t',h1,h2,h3⟩:=z t c;rw[h3];exact v.num t' (f t' h1).1 (by rw[<-h2];exact d)
  ·obtain⟨t',h1,h2,h3⟩:=z t c;rw[h3];exact v.fn t' (f t' h1).1 (by rw[<-h2];exact d)
 ·rw[q]
  intro t c;obtain⟨t',h1,h2,h3⟩:=z t c;have:=I t' (f t' h1).1;unfold yu fY at this⊢;rw[h2,h3]
  exact this
 ·rw[q]
  refine⟨n,A,by rw[C];show some (PR.ok e (t0-f0) A)=some (.ok e i.length A);rw[G],λ x hx=> ?_⟩
  have r:(x.1+f0,x.2)∈u:=by rw[B];exact List.mem_map.2 ⟨x,hx,rfl⟩
  have K:=U _ r;rw[Hj] at K;have O:=(S.use _ r).2.1;have D:=(w x.1 (by simp only at O;omega)).2;have J:xR (loU x.2) (hiU x.2) (ar (aJ s) (x.1+f0))=true:=by simpa using K
  show xR (loU x.2) (hiU x.2) (ar i x.1)=true;unfold xR at J⊢;rw[D]
  exact J
end
section
variable{s:ByteArray}{n j:Nat}{d:ig}{u:List (Nat×Bool)}
theorem Y8{x:lQ}(h:x.inf=false):aX (mm ts x) (nY ts x)=true/\rN (mm ts x) (nY ts x)=mm ts x/\cD (mm ts x) (nY ts x)=nY ts x/\rD (mm ts x) (nY ts x)=Ha ts x/\(oW ts x&&decide (0<mm ts x))=oW ts x:=by
 unfold mm nY Ha oW;rw[h]
 obtain⟨h1,h2,h3⟩:=Vc (ar ts x.at').text;simp only[Bool.false_eq_true,if_false,Bool.not_false,Bool.true_and]
 refine⟨h1,h2,h3,?_,?_⟩
 ·rw[<-TB,h3]
 ·cases x.neg<;>simp
theorem Qn(hs:s.size<=4000){t:aS}(h:t∈aJ s):(t.kind=0->vv t.text)/\t.at'<=4000:=by
 rcases Y5 h with h|rfl
 ·have hf:=(mh true s 0).1 t h;have:=hf.hi;exact⟨λ a=>hf.num a hs,by omega⟩
 ·exact⟨λ a=>(by cases a),hs⟩
theorem Se(h:gP (aJ s)=none):∀t∈(aP true s 0).1,yu t=false/\fY t=false:=λ t b=>by
 rw[show gP (aJ s)=gP (aP true s 0).1 from VU rfl] at h;unfold gP at h;cases a:(aP true s 0).1.find? yu with
 |some x=>rw[a] at h;cases h
 |none=>
  rw[a] at h;cases hb:(aP true s 0).1.find? fY with
  |some x=>rw[hb] at h;cases h
  |none=>exact⟨Bool.eq_false_iff.2 (List.find?_eq_none.1 a t b),Bool.eq_false_iff.2 (List.find?_eq_none.1 hb t b)⟩
theorem Y9(a:Gu (aJ s) 0 j u):∀p∈u,∀q∈u,p.1<=q.1->(ar (aJ s) p.1).at'<=(ar (aJ s) q.1).at':=λ p hp q b c=>by
 have h1:=rC (s:=s) (k:=p.1) (by have:=(qO (a.use p hp).2.2).1;omega)
 have h2:=rC (s:=s) (k:=q.1) (by have:=(qO (a.use q b).2.2).1;omega)
 by_cases h:p.1=q.1
 ·rw[h];exact aU _
 ·rw[wB h1,wB h2]
  have:=List.pairwise_iff_getElem.1 (mh true s 0).2.1 p.1 q.1 h1 h2 (by omega)
  omega
theorem VV(a:Gu (aJ s) 0 j u)(h:mj (aJ s) (gi u false) (gi u true)=none):∀p∈u,AP (aJ s) p=false:=λ p hp=>by
 rw[NV (Y9 a) a.Wx] at h;cases hf:u.find? (AP (aJ s)) with
 |some q=>rw[hf] at h;cases h
 |none=>exact Bool.eq_false_iff.2 (List.find?_eq_none.1 hf p hp)
theorem VW{x:lQ}(hn:∀t∈(aP true s 0).1,yu t=false/\fY t=false)(h:Sa (aJ s) x):IL (aJ s) x:=by
 rcases h with h|⟨-,h⟩
 ·exact .inl h
 ·have a:=rC (s:=s) (k:=x.at') (by omega)
  refine .inr ⟨by rw[nR];omega,h,?_⟩
  have:=(hn _ (List.getElem_mem a)).2;rw[<-wB a] at this;unfold fY at this;rw[cU h,Bool.true_and] at this;have:=of_decide_eq_false this;omega
theorem VX(hs:s.size<=4000)(h:AQ (aJ s) n x u)(hn:∀t∈(aP true s 0).1,yu t=false/\fY t=false)(hf:∀p∈u,AP (aJ s) p=false):ReT s (aJ s) x:=by
 obtain⟨g,e,d⟩:=h.s0;obtain⟨f,a1,c⟩:=h.s1;obtain⟨h3,b,-⟩:=Vb h.op;have a:=rC (s:=s) (k:=x.t0) (by omega)
 have:=(VQ a).hi;exact⟨Qm hs h.lt0 e h.ZC hn λ p hp=>hf p (d p hp),Qm hs h.Xa a1 h.Xh hn λ p hp=>hf p (c p hp),by rw[h.tx];exact b,by rw[h.tx];omega⟩
theorem JB(hs:s.size<=4000)(h:DrP (aJ s) n d j u)(hn:n<=49000):OQ s (aJ s) d u:=by
 have o:=Bb hs;have l:=h.nc;have m:=h.nb;refine⟨λ t g=>(Qn hs g).1,by rw[nR];omega,λ t g=>by have:=(Qn hs g).2;omega,λ k e=>Ql hs (h.use.use _ (rk.1 e)).2.2,λ k e=>Ql hs (h.use.use _ (rk.1 e)).2.2,by omega,by omega,λ x hx=> ?_,λ h1 h2=> ?_⟩
 ·obtain⟨a,b⟩:=Y6 (h.rel x hx)
  exact⟨a,by rw[nR];omega⟩
 ·have c:=Se h1;have i:=VV h.use h2;refine⟨VX hs (h.rel _ my) c i,λ x hx=>VX hs (h.rel _ (rG _ hx)) c i,λ x hx=> ?_⟩
  have f:=h.sid x hx;have e:=rC (s:=s) (k:=x.name) (by have:=f.nm;omega)
  exact⟨by rw[nR];omega,VW c f.lo,VW c f.hi⟩
theorem reads(hs:s.size<=4000):∃r,rH aN (aJ s) 49000=some r:=by
 have a:=Bb hs;exact Option.ne_none_iff_exists'.1 (Sb (Qk s) (by omega))
end
mutual
theorem KL:∀(t:aj)(d m m' d0 a:Nat),d0<=d->a<=m->mX t d m=some m'->∃b,mX t d0 a=some b/\b<=m'
 | .node op arg s N D name kids,d,m,m',d0,a,hd,hm,h=>by
   rw[mX] at h⊢;split at h
   ·cases h
   ·rename_i hn;rw[if_neg (λ h2=>hn (by
     rcases h2 with h2|h2|h2
     ·exact .inl (by omega)
     ·exact .inr (.inl (by omega))
     ·exact .inr (.inr h2)))]
    exact E5 kids _ _ _ _ _ (by omega) (by omega) h
theorem E5:∀(ts:List aj)(d m m' d0 a:Nat),d0<=d->a<=m->ik ts d m=some m'->∃b,ik ts d0 a=some b/\b<=m'
 |[],d,m,m',d0,a,_,hm,h=>by
  rw[ik] at h⊢;cases h
  exact⟨a,rfl,hm⟩
 |t::ts,d,m,m',d0,a,hd,hm,h=>by
  rw[ik] at h⊢;cases h1:mX t d m with
  |none=>rw[h1] at h;cases h
  |some k=>
   rw[h1] at h;obtain⟨c,h2,h3⟩:=KL t d m k d0 a hd hm h1;rw[h2]
   exact E5 ts _ _ _ _ _ hd h3 h
end
theorem aaB{d m m':Nat}(hd:1<=d)(h:mX t d m=some m'):t.ok=true:=by
 obtain⟨a,h1,-⟩:=KL t d m m' 1 0 hd (eo _) h;unfold aj.ok;rw[h1]
 rfl
theorem ok_two{p:aj}(h:(bY op arg [p,q]).ok=true):p.ok=true/\q.ok=true:=by
 unfold aj.ok at h;obtain⟨m,hm⟩:=Option.isSome_iff_exists.1 h;unfold bY at hm;rw[mX] at hm;split at hm
 ·cases hm
 rw[ik] at hm;cases h1:mX p (1+1) (0+1) with
 |none=>rw[h1] at hm;cases hm
 |some k=>
  rw[h1] at hm;replace hm:ik [q] (1+1) k=some m:=hm;rw[ik] at hm;cases h2:mX q (1+1) k with
  |none=>rw[h2] at hm;cases hm
  |some a=>exact⟨aaB (by decide) h1,aaB (by decide) h2⟩
theorem adg(x:ByteArray):(aj.node 1 0 false (aN x).n (aN x).d ⟨#[]⟩ []).ok=true:=by
 unfold aj.ok;rw[mX,if_neg]
 ·rw[ik];rfl
 ·rintro(h|h|h)
  ·omega
  ·omega
  ·unfold bJ at h;rw[(Vc x).1,Bool.false_and,if_pos rfl] at h;revert h;decide
theorem MW(h:PT t):cR t=t:=by
 induction h with
 |num x=>
  obtain⟨-,h1,h2⟩:=Vc x;rw[cR,if_pos rfl,if_pos rfl,h1,h2]
  rfl
 |other op arg name kids a b ih=>
  rw[cR,if_neg a,if_neg a,ug]
  congr 1;conv=>rhs;rw[<-List.map_id kids]
  exact List.map_congr_left ih
theorem Za(a:PT q)(h:To q=true):q.ok=true:=by
 cases a with
 |num x=>exact adg x
 |other op arg name kids b c=>
  replace h:(decide (op=1)&&aX 0 0&&decide (rN 0 0=0))=true:=h;rw[gy b] at h;cases h
theorem VY{p:aj}(a:PT q)(h:(sO p q).ok=true):p.ok=true/\q.ok=true:=by
 unfold sO at h;split at h
 ·rename_i b;exact⟨h,Za a b⟩
 ·exact ok_two h
theorem Qj(a:PT x.e0)(h1:PT x.e1):rT x=kU x:=by
 unfold rT kU;rw[MW a,MW h1]
theorem VM(a:PT x.e0)(h1:PT x.e1):kK x=(kU x).ok:=by
 unfold kK;rw[Qj a h1]
 cases h:(kU x).ok
 ·rw[Bool.and_false]
 ·have:x.e0.ok=true/\x.e1.ok=true:=by
   unfold kU at h;split at h
   ·exact(VY a h).symm
   ·exact VY h1 h
  rw[this.1,this.2]
  rfl
theorem GD(h:AQ ts n x u):PT x.e0/\PT x.e1:=by
 obtain⟨c,a,-⟩:=h.s0;obtain⟨b,a1,-⟩:=h.s1;exact⟨(SJ ts n).1 _ _ _ _ a,(SJ ts n).1 _ _ _ _ a1⟩
def Vt(ts:List aS)(i j:Nat)(t:aj):Prop:=∀x∈cZ t,∃k,i<=k/\k<j/\(ar ts k).kind=1/\(ar ts k).text=x
section
variable{ts:List aS}{i j i' j':Nat}
theorem Vt.mono(h:Vt ts i j t)(h1:i'<=i)(h2:j<=j'):Vt ts i' j' t:=λ x hx=>by
 obtain⟨k,a,b,c⟩:=h x hx;exact⟨k,by omega,by omega,c⟩
theorem E6:∀{l:List aj}{x:ByteArray},x∈mq l->∃t∈l,x∈cZ t
 |[],x,h=>by rw[mq] at h;exact absurd h nU
 |t::l,x,h=>by
  rw[mq] at h;rcases List.mem_append.1 h with h|h
  ·exact⟨t,my,h⟩
  ·obtain⟨u,h1,h2⟩:=E6 h;exact⟨u,rG _ h1,h2⟩
theorem Vt.node{kids:List aj}(h:op≠2)(a:∀k,k∈kids->Vt ts i j k):Vt ts i j (bY op arg kids):=λ x hx=>by
 unfold bY at hx;rw[cZ,if_neg h] at hx;obtain⟨t,h1,h2⟩:=E6 hx;exact a t h1 x h2
theorem Vt.node1(h:op≠2)(b:Vt ts i j t):Vt ts i j (bY op arg [t]):=Vt.node h λ k a=>by
 rw[List.mem_singleton] at a;exact a▸b
theorem Vt.node2{u:aj}(h:op≠2)(c:Vt ts i j t)(b:Vt ts i j u):Vt ts i j (bY op arg [t,u]):=Vt.node h λ k a=>by
 rcases List.mem_cons.1 a with rfl|a
 ·exact c
 ·rw[List.mem_singleton] at a;exact a▸b
theorem VZ{t:aS}(h:cm t=some (k,op,arg)):op≠2:=by
 unfold cm at h;split at h
 ·cases h;decide
 split at h
 ·cases h;decide
 split at h
 ·cases h;decide
 split at h
 ·cases h;decide
 split at h
 ·cases h;decide
 split at h
 ·cases h;decide
 ·cases h
theorem Zb{x:aj}(h:bM aN (ar ts i)=some x):Vt ts i (i+1) x:=by
 unfold bM at h;split at h
 ·cases h
  intro y a;rw[cZ,if_neg (by decide),mq] at a;exact absurd a nU
 split at h
 ·rename_i b;cases h
  intro y a;rw[cZ,if_pos rfl,List.mem_singleton] at a;exact⟨i,aU _,Nat.lt_succ_self _,by simpa using b,a.symm⟩
 split at h
 ·cases h;exact Vt.node (by decide) λ k b=>absurd b nU
 ·cases h
end
theorem V3(ts:List aS):∀n,
 (∀i t j u,eD aN ts n i=some (.ok t j u)->Vt ts i j t)/\
 (∀x i t j u a,a<=i->Vt ts a i x->kh aN ts n x i=some (.ok t j u)->Vt ts a j t)/\
 (∀i t j u,ee aN ts n i=some (.ok t j u)->Vt ts i j t)/\
 (∀x i t j u a,a<=i->Vt ts a i x->eY aN ts n x i=some (.ok t j u)->Vt ts a j t)/\
 (∀i t j u,gm aN ts n i=some (.ok t j u)->Vt ts i j t)/\
 (∀i t j u,dy aN ts n i=some (.ok t j u)->Vt ts i j t)/\
 (∀k i t j u,gK aN ts n k i=some (.ok t j u)->∀x∈t,Vt ts i j x)/\
 (∀k i t j u,dM aN ts n k i=some (.ok t j u)->∀x∈t,Vt ts i j x):=by
 intro n;induction n with
 |zero=>
  refine⟨?_,?_,?_,?_,?_,?_,?_,?_⟩
  ·intro i t j u h;rw[eD] at h;cases h
  ·intro x i t j u a _ _ h;rw[kh] at h;cases h
  ·intro i t j u h;rw[ee] at h;cases h
  ·intro x i t j u a _ _ h;rw[eY] at h;cases h
  ·intro i t j u h;rw[gm] at h;cases h
  ·intro i t j u h;rw[dy] at h;cases h
  ·intro k i t j u h;rw[gK] at h;cases h
  ·intro k i t j u h;rw[dM] at h;cases h
 |succ n ih=>
  obtain⟨iS,q,p,o,g,K,J,D⟩:=ih;obtain⟨E,P,s,O,v,V,U,F⟩:=vu aN ts n;refine⟨?_,?_,?_,?_,?_,?_,?_,?_⟩
  ·intro i t j u h;rw[eD] at h;obtain⟨x,m,b,c,h1,h2,rfl⟩:=aA h;exact q _ _ _ _ _ _ (Nat.le_of_lt (s _ _ _ _ h1).1) (p _ _ _ _ h1) h2
  ·intro x i t j u a hi hx h;rw[kh] at h;split at h
   ·obtain⟨y,m,b,c,h1,h2,rfl⟩:=aA h;have r:=(s _ _ _ _ h1).1;exact q _ _ _ _ _ _ (by omega) (Vt.node2 (by decide) (hx.mono (aU _) (by omega)) ((p _ _ _ _ h1).mono (by omega) (aU _))) h2
   split at h
   ·obtain⟨y,m,b,c,h1,h2,rfl⟩:=aA h;have r:=(s _ _ _ _ h1).1;exact q _ _ _ _ _ _ (by omega) (Vt.node2 (by decide) (hx.mono (aU _) (by omega)) ((p _ _ _ _ h1).mono (by omega) (aU _))) h2
   ·cases h;exact hx
  ·intro i t j u h;rw[ee] at h;obtain⟨x,m,b,c,h1,h2,rfl⟩:=aA h;exact o _ _ _ _ _ _ (Nat.le_of_lt (v _ _ _ _ h1).1) (g _ _ _ _ h1) h2
  ·intro x i t j u a hi hx h;rw[eY] at h;split at h
   ·obtain⟨y,m,b,c,h1,h2,rfl⟩:=aA h;have r:=(v _ _ _ _ h1).1;exact o _ _ _ _ _ _ (by omega) (Vt.node2 (by decide) (hx.mono (aU _) (by omega)) ((g _ _ _ _ h1).mono (by omega) (aU _))) h2
   split at h
   ·obtain⟨y,m,b,c,h1,h2,rfl⟩:=aA h;have r:=(v _ _ _ _ h1).1;exact o _ _ _ _ _ _ (by omega) (Vt.node2 (by decide) (hx.mono (aU _) (by omega)) ((g _ _ _ _ h1).mono (by omega) (aU _))) h2
   ·cases h;exact hx
  ·intro i t j u h;rw[gm] at h;split at h
   ·obtain⟨x,h1,rfl⟩:=bD h;exact Vt.node1 (by decide) ((g _ _ _ _ h1).mono (by omega) (aU _))
   ·obtain⟨x,m,b,c,h1,h2,rfl⟩:=aA h;have hx:=K _ _ _ _ h1;split at h2
    ·split at h2
     ·obtain⟨y,h3,rfl⟩:=bD h2;exact Vt.node1 (by decide) (hx.mono (aU _) (by have:=(mA h3).2.1;omega))
     ·obtain⟨y,h3,rfl⟩:=bD h2;exact Vt.node1 (by decide) (hx.mono (aU _) (by have:=(mA h3).2.1;omega))
    ·cases h2;exact hx
  ·intro i t j u h;rw[dy] at h;split at h
   ·rename_i L;cases h
    exact Zb L
   split at h
   ·obtain⟨x,m,b,c,h1,h2,rfl⟩:=aA h;obtain⟨y,h3,rfl⟩:=bD h2;obtain⟨-,T,-⟩:=bG h3;exact(iS _ _ _ _ h1).mono (by omega) (by omega)
   split at h
   ·rename_i N;obtain⟨y,h3,rfl⟩:=bD h;exact Vt.node (VZ N) λ k M=>(J _ _ _ _ _ h3 k M).mono (by omega) (aU _)
   split at h
   ·obtain⟨w,C,A,z,f,e,rfl⟩:=aA h;obtain⟨x1,B,b,v1,h1,q1,rfl⟩:=aA e;obtain⟨x2,I,c,v2,h2,l,rfl⟩:=aA q1;obtain⟨x3,S,R,Q,h3,H,rfl⟩:=aA l;obtain⟨x4,d,rfl⟩:=bD H;obtain⟨-,G,-⟩:=bG f;obtain⟨-,c1,-,-⟩:=mA h1;obtain⟨-,c2,-⟩:=bG h2;obtain⟨-,c4,-⟩:=bG d;exact Vt.node1 (by decide) ((iS _ _ _ _ h3).mono (by omega) (by omega))
   ·cases h
  ·intro k i t j u h;rw[gK] at h;obtain⟨w,C,A,z,f,e,rfl⟩:=aA h;obtain⟨x1,B,b,v1,h1,q1,rfl⟩:=aA e;obtain⟨x2,I,c,v2,h2,l,rfl⟩:=aA q1;obtain⟨x4,d,rfl⟩:=bD l;obtain⟨-,G,-⟩:=bG f;obtain⟨-,c4,-⟩:=bG d;have c1:=(E _ _ _ _ h1).1;have c2:=(F _ _ _ _ _ h2).le;intro x hx;rcases List.mem_cons.1 hx with rfl|hx
   ·exact(iS _ _ _ _ h1).mono (by omega) (by omega)
   ·exact(D _ _ _ _ _ h2 x hx).mono (by omega) (by omega)
  ·intro k i t j u h;cases k with
   |zero=>rw[dM] at h;cases h;exact λ x hx=>absurd hx nU
   |succ k=>
    rw[dM] at h;obtain⟨w,C,A,z,f,e,rfl⟩:=aA h;obtain⟨x1,B,b,v1,h1,q1,rfl⟩:=aA e;obtain⟨x4,d,rfl⟩:=bD q1;obtain⟨-,G,-⟩:=bG f;have c1:=(E _ _ _ _ h1).1;have c2:=(F _ _ _ _ _ d).le;intro x hx;rcases List.mem_cons.1 hx with rfl|hx
    ·exact(iS _ _ _ _ h1).mono (by omega) (by omega)
    ·exact(D _ _ _ _ _ d x hx).mono (by omega) (by omega)
section
variable{ts:List aS}
theorem uF(ts:List aS)(x:lQ):ac8 (oW ts x) (mm ts x) (nY ts x)/\(if Ha ts x<=1 then 0 else Ha ts x)=nY ts x:=by
 cases h:x.inf
 ·obtain⟨h1,h2,h3,c,b⟩:=Y8 (ts:=ts) h;refine⟨⟨h1,h2,h3,b⟩,?_⟩
  rw[<-c]
  have hp:=yF (mm ts x) (nY ts x)
  conv=>rhs;rw[<-h3]
  unfold cD;by_cases a:rD (mm ts x) (nY ts x)=1
  ·rw[if_pos a,if_pos (by omega)]
  ·rw[if_neg a,if_neg (by omega)]
 ·unfold oW mm nY Ha;rw[h]
  exact⟨⟨jk,(by decide:rN 0 0=0),(by decide:cD 0 0=0),rfl⟩,rfl⟩
theorem uG{x:lQ}(h:x.inf=true):oW ts x=false/\mm ts x=0/\nY ts x=0:=by
 unfold oW mm nY;rw[h]
 exact⟨rfl,rfl,rfl⟩
theorem MX(ts:List aS)(x:cp):ac7 ts x=ia ts x:=by
 obtain⟨⟨-,-,-,a4⟩,c⟩:=uF ts x.lo;obtain⟨⟨-,-,-,b⟩,a⟩:=uF ts x.hi;unfold ac7 ia;rw[a4,c,b,a]
theorem MT{x:cp}(h:(ia ts x).void=false):hO (ia ts x)=ia ts x:=by
 unfold hO;rw[if_neg (by rw[h];exact iZ)]
 obtain⟨⟨-,a2,a3,a4⟩,-⟩:=uF ts x.lo;obtain⟨⟨-,e,b3,d⟩,-⟩:=uF ts x.hi;unfold ia;dsimp only;rw[a2,a3,a4,e,b3,d]
 cases h1:x.lo.inf
 ·cases h2:x.hi.inf
  ·simp
  ·obtain⟨c1,c2,c3⟩:=uG (ts:=ts) h2;simp[c1,c2,c3]
 ·obtain⟨c,b,a⟩:=uG (ts:=ts) h1;cases h2:x.hi.inf
  ·simp[c,b,a]
  ·obtain⟨c1,c2,c3⟩:=uG (ts:=ts) h2;simp[c1,c2,c3,c,b,a]
theorem EC{x:cp}(h:(ia ts x).void=false):dR ts x=nL ts x:=by
 unfold dR nL;rw[MT h,MX]
theorem VO{x:cp}(h:(ia ts x).void=false):VL (ia ts x)/\(ia ts x).fine=true:=by
 obtain⟨⟨a1,a2,a3,a4⟩,-⟩:=uF ts x.lo;obtain⟨⟨g,b,b3,a⟩,-⟩:=uF ts x.hi;have hc:∀N D:Nat,cD N D=D->(if rD N D<=1 then 0 else rD N D)=D:=λ N D i=>by
  have hp:=yF N D;conv=>rhs;rw[<-i]
  unfold cD;by_cases c:rD N D=1
  ·rw[if_pos c,if_pos (by omega)]
  ·rw[if_neg c,if_neg (by omega)]
 refine⟨⟨⟨a1,a2,a3,a4⟩,⟨g,b,b3,a⟩,h,?_⟩,?_⟩
 ·unfold aaA VI Qf Qg YZ SB SC ia;dsimp only;cases h1:x.lo.inf
  ·cases h2:x.hi.inf
   ·simp[a2,a4,b,a,hc _ _ a3,hc _ _ b3]
   ·obtain⟨c1,c2,c3⟩:=uG (ts:=ts) h2;simp[c1,c2,c3,a2,a4,hc _ _ a3]
  ·obtain⟨f,e,d⟩:=uG (ts:=ts) h1;cases h2:x.hi.inf
   ·simp[f,e,d,b,a,hc _ _ b3]
   ·obtain⟨c1,c2,c3⟩:=uG (ts:=ts) h2;simp[c1,c2,c3,f,e,d]
 ·unfold im.fine ia;dsimp only;rw[a1,g]
  rfl
theorem E7{l:List cp}:∀n k,lR ts l n k=none->∀j(a:j<l.length),k<=j->j<k+n->pZ ts l j l[j]=false
 |0,k,_,j,_,h1,h2=>by omega
 |n+1,k,h,j,a,h1,h2=>by
  rw[lR,nW (by omega:k<l.length)] at h;replace h:(if pZ ts l k (l[k]'(by omega))=true then some (l[k]'(by omega)) else lR ts l n (k+1))=none:=h;split at h
  ·cases h
  ·rename_i hb;by_cases b:k=j
   ·subst b;exact Bool.eq_false_iff.2 hb
   ·exact E7 n (k+1) h j a (by omega) (by omega)
theorem uA{l:List cp}(h:lR ts l l.length 0=none):l.length<=6/\(∀x∈l,(ia ts x).void=false)/\l.Pairwise λ x y=>((ar ts x.name).text.toList==(ar ts y.name).text.toList)=false:=by
 have hb:=λ j a=>E7 l.length 0 h j a (eo _) (by omega)
 refine⟨OO h,λ x hx=> ?_,List.pairwise_iff_getElem.2 λ i j hi a c=> ?_⟩
 ·obtain⟨k,b,rfl⟩:=List.getElem_of_mem hx;have:=hb k b;unfold pZ at this;simp only[Bool.or_eq_false_iff] at this;exact this.1.1
 ·have:=hb j a;unfold pZ at this;simp only[Bool.or_eq_false_iff] at this;have h2:=this.1.2;rw[<-List.map_take,KH] at h2;unfold Y0 at h2;rw[List.any_eq_false] at h2;exact Bool.eq_false_iff.2 (h2 _ (List.mem_take_iff_getElem.2 ⟨i,by omega,rfl⟩))
end
theorem uz(a b:ByteArray):fT a b=true↔a.toList<b.toList:=by
 unfold fT;rw[bytesLess_eq]
 exact decide_eq_true_iff
theorem xM(a b:ByteArray):fT a b=false↔b.toList<=a.toList:=by
 rw[<-Bool.not_eq_true,uz]
 exact List.not_lt
def Zc(x y:aL):Prop:=wW y x=false
theorem xN(x y:aL):Zc x y↔x.name.toList<=y.name.toList:=xM _ _
theorem Sf(L:List aL)(x:aL):(KJ L x).Perm (x::L):=by
 unfold KJ;rw[rU]
 refine List.perm_middle.trans ?_;show(x::(L.take (rB L x.name)++L.drop (rB L x.name))).Perm (x::L)
 rw[List.take_append_drop]
theorem adh{nm:ByteArray}{y:aL}(h:y∈L.take (rB L nm)):fT y.name nm=true:=by
 unfold rB at h;have e:L.take (L.takeWhile λ d=>fT d.name nm).length=L.takeWhile λ d=>fT d.name nm:=by
  conv=>lhs;rw[<-List.takeWhile_append_dropWhile (p:=λ d:aL=>fT d.name nm) (l:=L)]
  rw[List.takeWhile_append_dropWhile]
  exact(List.prefix_iff_eq_take.1 (List.takeWhile_prefix _)).symm
 rw[e] at h;exact List.all_eq_true.1 (List.all_takeWhile (p:=λ d:aL=>fT d.name nm) (l:=L)) y h
theorem KM:∀{L:List aL}{nm:ByteArray}(h:rB L nm<L.length),fT (L[rB L nm]).name nm=false
 |[],_,h=>absurd h (Nat.not_lt_zero _)
 |x::L,nm,h=>by
  by_cases hx:fT x.name nm=true
  ·have e:rB (x::L) nm=rB L nm+1:=by unfold rB;rw[List.takeWhile_cons,if_pos hx];rfl
   have:=KM (L:=L) (nm:=nm) (by rw[e] at h;simpa using h)
   simp only[e,List.getElem_cons_succ]
   exact this
  ·have e:rB (x::L) nm=0:=by unfold rB;rw[List.takeWhile_cons,if_neg hx];rfl
   simp only[e,List.getElem_cons_zero]
   exact Bool.eq_false_iff.2 hx
theorem KN{x:aL}(h:L.Pairwise Zc):(KJ L x).Pairwise Zc:=by
 have hd:∀y∈L.drop (rB L x.name),Zc x y:=λ y d=>by
  obtain⟨k,i,rfl⟩:=List.getElem_of_mem d;rw[List.length_drop] at i;have hi:rB L x.name<L.length:=by omega
  have e:=(xM _ _).1 (KM hi)
  rw[List.getElem_drop,xN]
  by_cases g:k=0
  ·subst g;exact e
  ·have:=(xN _ _).1 (List.pairwise_iff_getElem.1 h (rB L x.name) (rB L x.name+k) hi (by omega) (by omega))
   exact List.le_trans e this
 have f:∀y∈L.take (rB L x.name),Zc y x:=λ y d=>by
  have:=(uz _ _).1 (adh d)
  exact(xN _ _).2 (List.le_of_lt this)
 have c:=h;rw[<-List.take_append_drop (rB L x.name) L,List.pairwise_append] at c;unfold KJ;rw[rU,List.pairwise_append]
 refine⟨c.1,List.pairwise_cons.2 ⟨hd,c.2.1⟩,λ a ha b hb=> ?_⟩
 rcases List.mem_cons.1 hb with rfl|hb
 ·exact f a ha
 ·exact c.2.2 a ha b hb
theorem zR(ts:List aS)(l:List cp):(Rq ts l).Pairwise Zc/\(Rq ts l).Perm (l.map (nL ts)):=by
 have key:∀(l:List cp)(L:List aL),L.Pairwise Zc->(l.foldl (λ L x=>KJ L (nL ts x)) L).Pairwise Zc/\(l.foldl (λ L x=>KJ L (nL ts x)) L).Perm (l.map (nL ts)++L):=by
  intro l;induction l with
  |nil=>intro L h;exact⟨h,.refl _⟩
  |cons x l ih=>
   intro L h;obtain⟨h1,h2⟩:=ih (KJ L (nL ts x)) (KN h)
   refine⟨h1,h2.trans ?_⟩
   rw[List.map_cons,List.cons_append]
   exact((Sf L (nL ts x)).append_left _).trans List.perm_middle
 obtain⟨h1,h2⟩:=key l [] List.Pairwise.nil;rw[List.append_nil] at h2;exact⟨h1,h2⟩
section
variable{ts:List aS}
theorem VN{l:List cp}{L':List aL}(h:lR ts l l.length 0=none)(hp:L'.Perm (l.map (dR ts)))(hs:L'.Pairwise λ x y=>wW y x=false):L'=Rq ts l/\L'.Pairwise D6/\∀x∈L',∃y∈l,x=nL ts y:=by
 obtain⟨-,h1,h2⟩:=uA h;have q:l.map (dR ts)=l.map (nL ts):=List.map_congr_left λ x hx=>EC (h1 x hx)
 rw[q] at hp;obtain⟨r1,r2⟩:=zR ts l;have d:(l.map (nL ts)).Pairwise λ x y=>x.name.toList≠y.name.toList:=by
  rw[List.pairwise_map]
  exact h2.imp λ c he=>by
   replace he:(ar ts _).text.toList=(ar ts _).text.toList:=he;rw[he] at c;simp at c
 have f:L'.Pairwise λ x y=>x.name.toList≠y.name.toList:=d.perm hp.symm λ h h2=>h h2.symm;refine⟨List.Perm.eq_of_pairwise (le:=Zc) (λ a b ha hb h3 g=> ?_) hs r1 (hp.trans r2.symm),?_,λ x hx=> ?_⟩
 ·have e:a.name.toList=b.name.toList:=List.le_antisymm ((xN _ _).1 h3) ((xN _ _).1 g)
  have p:=hp.mem_iff.1 ha;have o:=r2.mem_iff.1 hb;obtain⟨i,hi,rfl⟩:=List.getElem_of_mem p;obtain⟨j,k,rfl⟩:=List.getElem_of_mem o;by_cases m:i=j
  ·subst m;rfl
  ·exfalso;rcases Nat.lt_or_gt_of_ne m with h5|h5
   ·exact List.pairwise_iff_getElem.1 d i j hi k h5 e
   ·exact List.pairwise_iff_getElem.1 d j i k hi h5 e.symm
 ·refine(hs.and f).imp λ c=> ?_;obtain⟨h3,g⟩:=c;have h5:=(xM _ _).1 h3;refine Classical.byContradiction λ hn=>g (List.le_antisymm h5 ?_)
  exact(xM _ _).1 (Bool.eq_false_iff.2 hn)
 ·have:=hp.mem_iff.1 hx;obtain⟨y,n,rfl⟩:=List.mem_map.1 this;exact⟨y,n,rfl⟩
theorem uy:∀(L:List aL)(k:Nat)(nm:ByteArray),0<=cH L k nm↔∃x∈L,x.name.toList=nm.toList
 |[],k,nm=>by
  rw[cH]
  exact⟨λ h=>absurd h (by decide),λ ⟨x,hx,_⟩=>absurd hx nU⟩
 |x::L,k,nm=>by
  rw[cH]
  by_cases h:(x.name.toList==nm.toList)=true
  ·rw[if_pos h]
   exact⟨λ _=>⟨x,my,by simpa using h⟩,λ _=>by omega⟩
  ·rw[if_neg h,uy L (k+1) nm]
   constructor
   ·rintro⟨y,a,e⟩
    exact⟨y,rG _ a,e⟩
   ·rintro⟨y,a,e⟩
    rcases List.mem_cons.1 a with rfl|a
    ·exact absurd (by simpa using e) h
    ·exact⟨y,a,e⟩
theorem E8{L:List aL}:∀n i,AG ts L n i=none->∀k,i<=k->k<i+n->DO ts L k=false
 |0,i,_,k,h1,h2=>by omega
 |n+1,i,h,k,h1,h2=>by
  rw[AG] at h;split at h
  ·cases h
  ·rename_i hn;by_cases a:i=k
   ·subst a;exact Bool.eq_false_iff.2 hn
   ·exact E8 n (i+1) h k (by omega) (by omega)
theorem EZ{L:List aL}:∀{GA:List cW},nZ ts L GA=none->∀x∈GA,∀k,x.f0<=k->k<x.t1->DO ts L k=false
 |[],_,x,hx=>absurd hx nU
 |y::r,h,x,hx=>by
  rw[nZ] at h;cases h1:AG ts L (y.t1-y.f0) y.f0 with
  |some i=>rw[h1] at h;cases h
  |none=>
   rw[h1] at h;rcases List.mem_cons.1 hx with rfl|hx
   ·exact λ k h2 h3=>E8 _ _ h1 k h2 (by omega)
   ·exact EZ h x hx
theorem adj(h:AQ ts n x u):Vt ts x.f0 x.t1 (kU x):=by
 obtain⟨e,c,-⟩:=h.s0;obtain⟨d,a1,-⟩:=h.s1;have h1:=h.lt0;have h2:=h.Xa;have h3:=h.f1;have a:Vt ts x.f0 x.t1 x.e0:=((V3 ts n).1 _ _ _ _ c).mono (aU _) (by omega)
 have v1:Vt ts x.f0 x.t1 x.e1:=((V3 ts n).1 _ _ _ _ a1).mono (by omega) (aU _)
 have hd:∀p q,Vt ts x.f0 x.t1 p->Vt ts x.f0 x.t1 q->Vt ts x.f0 x.t1 (sO p q):=λ p q hp b=>by
  unfold sO;split
  ·exact hp
  ·exact Vt.node2 (by decide) hp b
 unfold kU;split
 ·exact hd _ _ v1 a
 ·exact hd _ _ a v1
theorem ada{L':List aL}(h:AQ ts n x u)(b:∀k,x.f0<=k->k<x.t1->DO ts L k=false)(hp:L'.Perm L):og L' (cZ (kU x))=true:=by
 unfold og;rw[List.all_eq_true]
 intro v hv;obtain⟨k,h1,h2,h3,rfl⟩:=adj h v hv;have:=b k h1 h2;unfold DO at this;rw[cU h3,Bool.true_and] at this;have:=of_decide_eq_false this;obtain⟨y,a,e⟩:=(uy L 0 (ar ts k).text).1 (by omega)
 exact cU ((uy L' 0 _).2 ⟨y,hp.mem_iff.2 a,e⟩)
end
theorem yX(s:ByteArray)(i:Nat):∀t∈(aP true s i).1,t.kind=1->bV t.text=true:=by
 by_cases h:i<s.size;case neg=>
  rw[jQ (by omega)]
  exact λ t b=>absurd b nU
 by_cases hb:bt s i=32
 ·rw[fw h hb]
  exact yX s (i+1)
 cases a:gX true s i with
 |none=>
  rw[jD h hb a]
  exact λ t b=>absurd b nU
 |some x=>
  obtain⟨k,e⟩:=x;have j:=jg h a;have ih:=yX s e;rw[gp h hb a]
  intro t b d;rcases List.mem_cons.1 b with rfl|b
  ·replace d:k=1:=d;subst d;show bV (s.extract i e)=true;unfold gX at a;split at a
   ·simp at a
   split at a
   ·obtain⟨k',c,f⟩:=Option.map_eq_some_iff.1 a;injection f with h3 g
    subst h3;subst g;unfold fX at c;split at c
    ·simp at c
    split at c
    ·simp at c
    split at c
    ·assumption
    ·cases c
   split at a
   ·simp at a
   split at a
   ·simp at a
   ·cases a
  ·exact ih t b d
termination_by s.size-i
decreasing_by
 ·omega
 ·omega
section
variable{s:ByteArray}{n j:Nat}{d:ig}{u:List (Nat×Bool)}
theorem Uu(h:DrP (aJ s) n d j u):(kK d.goal&&d.conds.all kK)=(d.goal::d.conds).all λ x=>(kU x).ok:=by
 have hr:∀x∈d.goal::d.conds,kK x=(kU x).ok:=λ x hx=>by
  obtain⟨b,a⟩:=GD (h.rel x hx)
  exact VM b a
 rw[List.all_cons,hr _ my]
 congr 1;rw[Bool.eq_iff_iff,List.all_eq_true,List.all_eq_true]
 exact⟨λ h1 x hx=>by rw[<-hr x (rG _ hx)];exact h1 x hx,λ h1 x hx=>by rw[hr x (rG _ hx)];exact h1 x hx⟩
theorem CN(h:DrP (aJ s) n d j u)(h1:((d.goal::d.conds).all λ x=>(kU x).ok)=true)(h2:lR (aJ s) d.box d.box.length 0=none)(h3:d.conds[12]? =none)(i:nZ (aJ s) (d.box.map (dR (aJ s))) (d.goal::d.conds)=none)
 {L':List aL}(hp:L'.Perm (d.box.map (dR (aJ s))))(hs:L'.Pairwise λ x y=>wW y x=false):
 bS.ok ⟨kU d.goal,nD d.goal,L',d.conds.map xE⟩=true/\L'=Rq (aJ s) d.box/\(∀x∈L',VL x.iv)/\d.conds.map En=d.conds.map xE/\rT d.goal=kU d.goal/\L'.length<=6:=by
 obtain⟨p,m,b3⟩:=uA h2;obtain⟨c1,c2,c3⟩:=VN h2 hp hs;have o:L'.length=d.box.length:=by rw[hp.length_eq,List.length_map]
 rw[List.all_eq_true] at h1;have c:∀x∈L',bV x.name=true/\x.iv.fine=true/\x.iv.void=false/\VL x.iv:=λ x hx=>by
  obtain⟨y,e,rfl⟩:=c3 x hx;have hv:=m y e;obtain⟨e1,l⟩:=VO (ts:=aJ s) hv;have b:=(h.sid y e).nm;have hi:=rC (s:=s) (k:=y.name) (by omega)
  have hn:=yX s 0 _ (List.getElem_mem hi)
  rw[<-wB hi] at hn;unfold nL;dsimp only;rw[MX]
  exact⟨hn b,l,hv,e1⟩
 have a:∀x∈d.goal::d.conds,rT x=kU x:=λ x hx=>by
  obtain⟨g,f⟩:=GD (h.rel x hx)
  exact Qj g f
 have hc:∀x∈d.goal::d.conds,og L' (cZ (kU x))=true:=λ x hx=>ada (h.rel x hx) (EZ i x hx) hp;refine⟨Bh (tW.2 ⟨by show L'.length<=6;omega,λ x hx=>⟨(c x hx).1,(c x hx).2.1,(c x hx).2.2.1⟩,c2⟩) ?_ (h1 _ my) (hc _ my) (λ k b=> ?_),c1,λ x hx=>(c x hx).2.2.2,List.map_congr_left λ x hx=> ?_,a _ my,by omega⟩
 ·show(d.conds.map xE).length<=12;rw[List.length_map]
  have:=List.getElem?_eq_none_iff.1 h3;exact this
 ·replace b:k<d.conds.length:=by simpa using b
  show jL L' (d.conds.map xE)[k]=true;rw[List.getElem_map]
  have hm:d.conds[k]∈d.goal::d.conds:=rG _ (List.getElem_mem b)
  unfold jL xE;dsimp only;rw[h1 _ hm,hc _ hm]
  rfl
 ·unfold En xE;rw[a x (rG _ hx)]
end
def Lb:aj:=.node 1 0 false 0 0 ⟨#[]⟩ []
theorem Ez:il false 0 0=[48]:=by
 unfold il;rw[show rN 0 0=0 by decide,show rD 0 0=1 by decide,Lib.decDigits,dif_pos (by decide)]
 rfl
theorem Ba:cY Lb:=⟨by
 have h:=jk;unfold bJ;rw[if_pos rfl,h]
 rfl,trivial⟩
theorem afO:jy Lb=[⟨false,0,[48]⟩]:=by
 show [(⟨false,0,il false 0 0⟩:It)]=_;rw[Ez]
theorem ab2:cR Lb=Lb:=by
 unfold Lb;rw[cR,di,if_pos rfl,if_pos rfl,show rN 0 0=0 by decide,show cD 0 0=0 by decide]
def pB(t q:aj)(s:Bool):List It:=jy t++sgI s::jM (jy q)
theorem Gr(t:aj)(s:Bool):rX t s=pB t Lb s:=by
 unfold rX pB;rw[afO]
 rfl
theorem Ye(h:cY t)(a:cY q)(s:Bool):oE (pB t q s):=by
 obtain⟨⟨x,r,e,-⟩,-⟩:=A1 q a;refine lV _ _ (A3 t h) ?_ λ y q e=>by cases e;exact .inl rfl
 refine mf (.inr (.inr (.inr ⟨rfl,?_⟩))) (vS (A3 q a)) λ y z b=>by rw[e] at b;cases b;exact .inl rfl
 cases s
 ·exact .inr rfl
 ·exact .inl rfl
structure DW(ts:List aS)(r:cW)(t q:aj)(st:Bool):Prop where
 e0:r.e0=cR t
 e1:r.e1=cR q
 op:r.op=fA (if st=true then [62] else [62,61])
 at':mT ts r.f0 (pB t q st)
 en:r.t1=r.f0+(pB t q st).length
theorem Um{st:Bool}(h:cY t)(a:cY q)(hA:mT ts i (pB t q st))(hs:tH (ar ts (i+(pB t q st).length)))(hn:10*(pB t q st).length+4<=n):
 ∃r u,rV aN ts n i=some (.ok r (i+(pB t q st).length) u)/\DW ts r t q st/\wF ts u:=by
 have d:(pB t q st).length=(jy t).length+1+(jy q).length:=by unfold pB;simp[gH];omega
 have e:=hA;unfold pB at e;have c:=e.right;have f:∀b,bF (ar ts (i+(jy t).length)) b=((if st=true then [62] else [62,61])==b):=λ b=>by rw[jN c.head];rfl
 obtain⟨j,a1,v1⟩:=((Gn t h).full (A7 _)).full (n:=n) e.left (by
  unfold tH Uh MI;simp only[f]
  cases st<;>decide) (by omega)
 have k:mT ts (i+(jy t).length+1) (jy q):=c.tail.jM;rw[d,<-Nat.add_assoc,<-Nat.add_assoc] at hs;obtain⟨g,a2,v2⟩:=((Gn q a).full (A7 _)).full (n:=n) k hs (by omega)
 refine⟨⟨i,i+(jy t).length,(ar ts (i+(jy t).length)).text,i+(jy t).length+1,i+(jy t).length+1+(jy q).length,cR t,cR q⟩,j++g,?_,⟨rfl,rfl,c.head.2,hA,by rw[d];show i+(jy t).length+1+(jy q).length=i+((jy t).length+1+(jy q).length);omega⟩,v1.app v2⟩
 unfold rV;rw[a1,tG,if_pos (by unfold qi;simp only[f];cases st<;>decide),a2,tG,d]
 simp only[zP,List.append_nil]
 rw[show i+((jy t).length+1+(jy q).length)=i+(jy t).length+1+(jy q).length by omega]
structure Gs(ts:List aS)(y:cp)(x:aL):Prop where
 nm:(ar ts y.name).kind=1/\(ar ts y.name).text=x.name
 iv:ia ts y=hO x.iv
theorem Un(h:(ar ts i).kind=k):nJ ts k i=some (.ok i (i+1) []):=by
 unfold nJ;rw[h,if_pos (by simp)]
theorem ab3{t:aS}{b:List UInt8}(h:t.kind≠3):bF t b=false:=by
 unfold bF;rw[vy h]
 rfl
def Jw(ts:List aS)(y:lQ)(inf s:Bool)(N D:Nat):Prop:=y.inf=inf/\oW ts y=(!inf&&(s&&decide (0<N)))/\mm ts y=(if inf=true then 0 else rN N D)/\nY ts y=(if inf=true then 0 else cD N D)
theorem Pm{N D:Nat}{s:Bool}(h:aX N D=true)(hA:mT ts i (xC s N D)):∃y,ql ts i=some (.ok y (i+(xC s N D).length) [])/\Jw ts y false s N D:=by
 have key:∀(p:Nat),(ar ts p).text=fA (il false N D)->Jw ts ⟨(s&&decide (0<N)),false,p⟩ false s N D:=λ p hp=>by
  obtain⟨-,h2⟩:=uw (s:=false) (N:=N) (D:=D) rfl h;unfold Jw oW mm nY;simp only[hp,h2,L4]
  refine⟨trivial,?_,trivial,trivial⟩
  cases s<;>simp
 unfold xC at hA⊢;by_cases a:(s&&decide (0<N))=true
 ·rw[if_pos a] at hA⊢;refine⟨⟨true,false,i+1⟩,?_,?_⟩
  ·unfold ql;rw[if_pos (by rw[hA.lY];rfl),Un hA.tail.head.1,La]
   rfl
  ·have:=key (i+1) hA.tail.head.2
   rwa [a] at this
 ·rw[if_neg a] at hA⊢;refine⟨⟨false,false,i⟩,?_,?_⟩
  ·unfold ql;rw[if_neg (by rw[ab3 (by rw[hA.head.1];exact Nat.noConfusion)];decide),Un hA.head.1,La]
   rfl
  ·have:=key i hA.head.2
   rwa [Bool.eq_false_iff.2 a] at this
theorem Yf{x:aL}(hf:x.iv.fine=true)(hv:x.iv.void=false)(hA:mT ts i (iD x)):∃y,lD ts i=some (.ok y (i+(iD x).length) [])/\Gs ts y x:=by
 unfold im.fine at hf;simp only[fv] at hf;have h:=hA.head;have h1:=hA.tail;have h2:mT ts (i+1+1) (tI x.iv++S3 [44]::mo x.iv):=h1.tail;have h3:=h2.right;have r:=h3.tail;have lo:∃y,(if bF (ar ts (i+1+1)) [40]=true then cf (cG ts [45] (i+1+1+1)) λ _ j=>(cG ts Rc j).map (PR.map λ _=>(⟨false,true,0⟩:lQ)) else cf (cG ts [91] (i+1+1)) λ _ j=>ql ts j)=some (.ok y (i+1+1+(tI x.iv).length) [])/\Jw ts y x.iv.li x.iv.s1 x.iv.N1 x.iv.D1:=by
  have c:=h2.left;unfold tI at c⊢;by_cases d:x.iv.li=true
  ·rw[if_pos d] at c⊢;refine⟨⟨false,true,0⟩,?_,by rw[d];exact⟨rfl,rfl,rfl,rfl⟩⟩
   rw[if_pos (by rw[jN c.head];rfl),Pe (by rw[c.tail.lY];rfl),tG,Pe (by rw[c.tail.tail.lY];rfl),La]
   rfl
  ·rw[if_neg d] at c⊢;obtain⟨y,a,b⟩:=Pm hf.1 c.tail;refine⟨y,?_,by rw[Bool.eq_false_iff.2 d];exact b⟩
   rw[if_neg (by rw[jN c.head];decide),Pe (by rw[jN c.head];rfl),tG,a]
   simp only[zP,nK,List.nil_append]
   congr 2;omega
 have hi:∃y,AK ts (i+1+1+(tI x.iv).length+1)=some (.ok y (i+1+1+(tI x.iv).length+1+(mo x.iv).length) [])/\Jw ts y x.iv.hi x.iv.s2 x.iv.N2 x.iv.D2:=by
  have c:=r;unfold mo at c⊢;unfold AK Rc;by_cases g:x.iv.hi=true
  ·rw[if_pos g] at c⊢;refine⟨⟨false,true,0⟩,?_,by rw[g];exact⟨rfl,rfl,rfl,rfl⟩⟩
   rw[if_pos (by rw[jN c.head];rfl),Pe (by rw[c.tail.lY];rfl),La]
   rfl
  ·rw[if_neg g] at c⊢;obtain⟨y,a,b⟩:=Pm hf.2 c.left.jM;have hr:=c.right;rw[gH] at hr;have hn:bF (ar ts (i+1+1+(tI x.iv).length+1)) [105,110,102]=false:=by
    have f:=c.left.jM;unfold xC at f;split at f
    ·rw[f.lY];rfl
    ·exact ab3 (by rw[f.head.1];exact Nat.noConfusion)
   refine⟨y,?_,by rw[Bool.eq_false_iff.2 g];exact b⟩
   rw[hn,if_neg iZ,a,tG,Pe (by rw[hr.lY];rfl),La]
   simp only[zP,gJ,nK,List.length_nil,gH,List.append_nil]
   rfl
 obtain⟨yl,al,s⟩:=lo;obtain⟨k,u,t⟩:=hi;refine⟨⟨i,yl,k⟩,?_,⟨⟨h.1,h.2⟩,?_⟩⟩
 ·have e:(iD x).length=(tI x.iv).length+(mo x.iv).length+3:=by unfold iD;simp;omega
  unfold lD;rw[Un h.1,tG,Pe (by rw[jN h1.head];rfl),tG,al,tG,Pe (by rw[h3.lY];rfl),tG,u,La,e]
  simp only[zP,List.append_nil]
  congr 2;omega
 ·obtain⟨q,p,o,n⟩:=s;obtain⟨r1,r2,m,l⟩:=t;unfold ia hO;rw[if_neg (show ¬x.iv.void=true by rw[hv];decide),q,p,o,n,r1,r2,m,l]
def Al{α β:Type}(Q:α->β->Prop):List α->List β->Prop
 |[],[]=>True
 |y::ys,x::r=>Q y x/\Al Q ys r
 |_,_=>False
def mJ{β:Type}(g:β->List It):List β->List It
 |[]=>[]
 |x::r=>S3 [44]::(g x++mJ g r)
theorem Gt{α β:Type}{ts:List aS}{p:Nat->Option (PR α)}{g:β->List It}{Q:α->β->Prop}(en:Nat)(he:tH (ar ts en)/\bF (ar ts en) [44]=false):
 ∀(r:List β)(acc:List α)(j n:Nat),(∀x∈r,∀i,mT ts i (g x)->i+(g x).length<=en->tH (ar ts (i+(g x).length))->∃y u,p i=some (.ok y (i+(g x).length) u)/\Q y x/\wF ts u)->
  mT ts j (mJ g r)->j+(mJ g r).length=en->r.length+1<=n->∃ys u,kQ ts p n acc j=some (.ok (acc++ys) en u)/\Al Q ys r/\wF ts u
 |[],acc,j,n,_,_,a,hn=>by
  cases n with
  |zero=>omega
  |succ n=>
   obtain rfl:j=en:=a;refine⟨[],[],?_,trivial,wF.nil ts⟩
   rw[kQ,he.2,if_neg iZ,List.append_nil]
 |x::r,acc,j,n,hp,hA,a,hn=>by
  rw[mJ] at hA a;simp only[nK,gJ] at a hn;cases n with
  |zero=>omega
  |succ n=>
   have b:=hA.tail;have hr:=b.right;obtain⟨y,u,e1,h,f⟩:=hp x my (j+1) b.left (by omega) (by
    cases r with
    |nil=>
     have:j+1+(g x).length=en:=by rw[mJ] at a;simp at a;omega
     rw[this];exact he.1
    |cons z r=>rw[mJ] at hr;exact xz hr (by decide))
   obtain⟨ys,v,f1,e,d⟩:=Gt en he r (acc++[y]) (j+1+(g x).length) n (λ z c=>hp z (rG _ c)) hr (by omega) (by omega)
   refine⟨y::ys,u++v,?_,⟨h,e⟩,f.app d⟩
   rw[kQ,if_pos (by rw[hA.lY];rfl),e1,tG,f1]
   simp[zP]
theorem yM:∀(r:List aL)(i:Nat),i≠0->jO i r=mJ iD r
 |[],_,_=>rfl
 |x::r,i,h=>by rw[jO,mJ,if_neg h,yM r (i+1) (by omega)]
theorem vT:∀(r:List eE)(i:Nat),i≠0->gj i r=mJ (λ x=>jM (rX x.t x.strict)) r
 |[],_,_=>rfl
 |x::r,i,h=>by rw[gj,mJ,if_neg h,vT r (i+1) (by omega)]
end Go.Proofs.YtbapfnpbamnmpaaGreatDoor
