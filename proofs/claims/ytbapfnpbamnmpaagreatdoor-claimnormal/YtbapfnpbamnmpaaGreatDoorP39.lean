/- A part of the proof that the text which Print makes of a parsed text is a normal form -/
import Derived.Test.YtbapfnpbamnmpaaGreatDoorP00
import Derived.Test.YtbapfnpbamnmpaaGreatDoorP38
import Derived.Test.YtbapfnpbamnmpaaGreatDoorP29
import Derived.Test.YtbapfnpbamnmpaaGreatDoorP26
import Derived.Test.YtbapfnpbamnmpaaGreatDoorP25
import Derived.Test.YtbapfnpbamnmpaaGreatDoorP21
import Derived.Test.YtbapfnpbamnmpaaGreatDoorP36
import Derived.Test.YtbapfnpbamnmpaaGreatDoorP37
import Derived.Test.YtbapfnpbamnmpaaGreatDoorP24
set_option maxHeartbeats 8000000
set_option maxRecDepth 100000
namespace Go.Proofs.YtbapfnpbamnmpaaGreatDoor
open Go Go.RowKit Go.Dig Go.Deep Go.Eng Go.Proofs.Tryz
variable{AM D N i k n:Nat}{arg op:Int}{s sp:Bool}{name:ByteArray}{kids:List aj}{c:UInt8}{b:List UInt8}{t:aj}{ts:List aS}
structure It where
 sp:Bool
 k:Nat
 b:List UInt8
def cj:List It->List UInt8
 |[]=>[]
 |x::r=>(if x.sp=true then [32] else [])++(x.b++cj r)
theorem eH:∀(l r:List It),cj (l++r)=cj l++cj r
 |[],r=>rfl
 |x::l,r=>by rw[List.cons_append,cj,eH l r,cj];simp
def jM:List It->List It
 |[]=>[]
 |x::r=>⟨true,x.k,x.b⟩::r
def S3(b:List UInt8):It:=⟨false,3,b⟩
def F7(l:List It):Prop:=∃x r,l=x::r/\x.sp=false
theorem Ua{l:List It}(h:F7 l):cj (jM l)=32::cj l:=by
 obtain⟨x,r,rfl,h⟩:=h;rw[jM,cj,cj,h]
 simp
theorem F7.cons(b:List UInt8)(k:Nat)(l:List It):F7 (⟨false,k,b⟩::l):=⟨_,_,rfl,rfl⟩
theorem F7.app{l:List It}(h:F7 l)(r:List It):F7 (l++r):=by
 obtain⟨x,q,rfl,h⟩:=h;exact⟨x,q++r,rfl,h⟩
def pN(k:Nat)(x:Nat×List It):List It:=if k<=x.1 then x.2 else S3 [40]::(x.2++[S3 [41]])
def kI(ks:List (Nat×List It))(i:Nat):Nat×List It:=(ks[i]?).getD (5,[])
def A0:List (Nat×List It)->List It
 |[]=>[]
 |x::r=>S3 [44]::(jM x.2++A0 r)
def F8(f:Bool):List (Nat×List It)->List It
 |[]=>[]
 |x::r=>(if f=true then jM x.2 else x.2)++A0 r
def Wl(a:Int):List It:=if a<0 then [S3 [45],⟨false,0,Lib.decDigits a.natAbs⟩] else [⟨false,0,Lib.decDigits a.toNat⟩]
def rK(op arg:Int):Bool:=decide (op=10)&& !decide (arg=2)
def qp(op arg:Int):List It:=
 if op=10 then(if arg=2 then [S3 [115,113,114,116],S3 [40]] else [S3 [114,111,111,116],S3 [40],⟨false,0,Lib.decDigits arg.toNat⟩,S3 [44]]) else if op=11 then [⟨false,2,O0 arg⟩,S3 [40]] else
 if op=12 then [S3 [97,98,115],S3 [40]] else if op=13 then [S3 [109,105,110],S3 [40]] else if op=14 then [S3 [109,97,120],S3 [40]] else [S3 [105,102],S3 [40]]
def HA(op:Int):It:=⟨true,3,if op=5 then [43] else if op=6 then [45] else if op=7 then [42] else [47]⟩
def lF(op arg:Int)(s:Bool)(N D:Nat)(name:ByteArray)(ks:List (Nat×List It)):List It:=
 if op=1 then [⟨false,0,il s N D⟩] else if op=2 then [⟨false,1,name.data.toList⟩] else if op=3 then [S3 [112,105]] else
 if op=4 then S3 [45]::pN 3 (kI ks 0) else
 if op=5∨op=6 then pN 1 (kI ks 0)++(HA op::jM (pN 2 (kI ks 1))) else
 if op=7∨op=8 then pN 2 (kI ks 0)++(HA op::jM (pN 3 (kI ks 1))) else
 if op=9 then pN 5 (kI ks 0)++(S3 [94]::Wl arg) else
 qp op arg++(F8 (rK op arg) ks++[S3 [41]])
mutual
def jy:aj->List It
 | .node op arg s N D name kids=>lF op arg s N D name (fI kids)
def fI:List aj->List (Nat×List It)
 |[]=>[]
 |t::ts=>(iQ (qt t),jy t)::fI ts
end
theorem Ub:∀(l:List aj)(i:Nat)(h:i<l.length),(fI l)[i]? =some (iQ (qt l[i]),jy l[i])
 |t::ts,0,_=>by rw[fI];rfl
 |t::ts,i+1,h=>by rw[fI];exact Ub ts i (by simpa using h)
theorem xo{l:List aj}(h:i<l.length):kI (fI l) i=(iQ (qt l[i]),jy l[i]):=by
 unfold kI;rw[Ub l i h];rfl
def Wr(l:List It)(x:List UInt8):Prop:=F7 l/\cj l=x
theorem Wr.pl{l:List It}{x:List UInt8}(h:Wr l x)(k AM:Nat):Wr (pN k (AM,l)) (r7 k (AM,x)):=by
 unfold pN r7;split
 ·exact h
 ·refine⟨F7.cons _ _ _,?_⟩
  show cj (S3 [40]::(l++[S3 [41]]))=40::(x++[41])
  rw[cj,eH,h.2]
  rfl
theorem Wr.jM{l:List It}{x:List UInt8}(h:Wr l x):cj (jM l)=32::x:=by rw[Ua h.1,h.2]
theorem ZX:∀(ts:List aj)(i:Nat),i≠0->(∀t∈ts,Wr (jy t) (uv t))->cj (A0 (fI ts))=xW i (mF ts)
 |[],_,_,_=>by rw[fI,A0,cj,mF,xW]
 |t::ts,i,hi,h=>by
  rw[fI,A0,cj,eH,(h t my).jM,ZX ts (i+1) (by omega) λ u a=>h u (rG _ a),mF,xW,CB,if_neg hi]
  simp[S3]
theorem abN(hn:bJ op arg s N D name kids.length=true)(h:∀t∈kids,Wr (jy t) (uv t)):Wr (lF op arg s N D name (fI kids)) (xu op arg s N D name (mF kids)):=by
 obtain⟨f,ha⟩:=jZ hn;have b:∀i(hi:i<kids.length) k,Wr (pN k (kI (fI kids) i)) (r7 k (kX (mF kids) i)):=λ i hi k=>by
  rw[xo hi,Jj hi]
  exact(h _ (List.getElem_mem hi)).pl k _
 rcases CC f with rfl|rfl|rfl|⟨rfl,h1⟩|⟨a,h2⟩|⟨a,h2⟩|⟨rfl,h1⟩|a
 ·exact⟨F7.cons _ _ _,by show []++(il s N D++[])=_;simp;rfl⟩
 ·exact⟨F7.cons _ _ _,by show []++(name.data.toList++[])=_;simp;rfl⟩
 ·exact⟨F7.cons _ _ _,rfl⟩
 ·refine⟨F7.cons _ _ _,?_⟩
  show []++([45]++cj (pN 3 (kI (fI kids) 0)))=45::r7 3 (kX (mF kids) 0)
  rw[(b 0 (by omega) 3).2]
  rfl
 ·have e1:lF op arg s N D name (fI kids)=pN 1 (kI (fI kids) 0)++(HA op::jM (pN 2 (kI (fI kids) 1))):=by rcases a with rfl|rfl<;>rfl
  have c:xu op arg s N D name (mF kids)=r7 1 (kX (mF kids) 0)++(Sx op++r7 2 (kX (mF kids) 1)):=by rcases a with rfl|rfl<;>rfl
  rw[e1,c]
  refine⟨(b 0 (by omega) 1).1.app _,?_⟩
  rw[eH,(b 0 (by omega) 1).2,cj,(b 1 (by omega) 2).jM]
  rcases a with rfl|rfl<;>rfl
 ·have e1:lF op arg s N D name (fI kids)=pN 2 (kI (fI kids) 0)++(HA op::jM (pN 3 (kI (fI kids) 1))):=by rcases a with rfl|rfl<;>rfl
  have c:xu op arg s N D name (mF kids)=r7 2 (kX (mF kids) 0)++(Sx op++r7 3 (kX (mF kids) 1)):=by rcases a with rfl|rfl<;>rfl
  rw[e1,c]
  refine⟨(b 0 (by omega) 2).1.app _,?_⟩
  rw[eH,(b 0 (by omega) 2).2,cj,(b 1 (by omega) 3).jM]
  rcases a with rfl|rfl<;>rfl
 ·refine⟨(b 0 (by omega) 5).1.app _,?_⟩
  show cj (pN 5 (kI (fI kids) 0)++(S3 [94]::Wl arg))=r7 5 (kX (mF kids) 0)++(94::Lib.itoa arg)
  rw[eH,(b 0 (by omega) 5).2]
  show _++([]++([94]++cj (Wl arg)))=_;unfold Wl Lib.itoa;by_cases d:arg<0
  ·rw[if_pos d,if_pos d];simp[cj,S3]
  ·rw[if_neg d,if_neg d];simp[cj]
 ·have e1:lF op arg s N D name (fI kids)=qp op arg++(F8 (rK op arg) (fI kids)++[S3 [41]]):=by rcases a with rfl|rfl|rfl|rfl|rfl|rfl<;>rfl
  have c:xu op arg s N D name (mF kids)=tD op arg++(xW 0 (mF kids)++[41]):=by rcases a with rfl|rfl|rfl|rfl|rfl|rfl<;>rfl
  have g:F7 (qp op arg)/\tD op arg=cj (qp op arg)++if rK op arg=true then [32] else []:=by
   rcases a with rfl|rfl|rfl|rfl|rfl|rfl
   ·by_cases h2:arg=2
    ·subst h2;exact⟨F7.cons _ _ _,rfl⟩
    ·have ha:2<=arg/\arg<=8:=by unfold kT at ha;simpa using ha
     unfold qp tD rK;rw[if_pos rfl,if_pos rfl,if_neg h2,if_neg h2,gy h2]
     refine⟨F7.cons _ _ _,?_⟩
     unfold Lib.itoa;rw[if_neg (by omega)]
     simp[cj,S3]
   ·refine⟨F7.cons _ _ _,?_⟩
    show O0 arg++[40]=([]++(O0 arg++([]++([40]++[]))))++[]
    simp
   all_goals exact⟨F7.cons _ _ _,rfl⟩
  cases kids with
  |nil=>rcases a with rfl|rfl|rfl|rfl|rfl|rfl<;>cases f
  |cons t ts=>
   have e:=h t my;rw[e1,c]
   refine⟨g.1.app _,?_⟩
   have l:cj (F8 (rK op arg) (fI (t::ts)))=(if rK op arg=true then [32] else [])++xW 0 (mF (t::ts)):=by
    rw[fI,F8,eH,ZX ts 1 (by decide) λ u j=>h u (rG _ j),mF,xW]
    split
    ·rw[e.jM];rfl
    ·rw[e.2];rfl
   rw[eH,eH,l,g.2]
   simp[cj,S3]
mutual
theorem A1:∀(t:aj),cY t->Wr (jy t) (uv t)
 | .node op arg s N D name kids=>λ ⟨h1,h2⟩=>by
   rw[jy,uv]
   exact abN h1 (Jk kids h2)
theorem Jk:∀(ts:List aj),qX ts->∀t∈ts,Wr (jy t) (uv t)
 |[],_,t,h=>absurd h nU
 |u::us,hw,t,h=>by
  rcases List.mem_cons.1 h with e|h
  ·rw[e];exact A1 u hw.1
  ·exact Jk us hw.2 t h
end
def Jl(c:UInt8):Bool:=c==32||c==40||c==41||c==44||c==93||c==94
def XW(x:It):Prop:=x.k=3/\∃c,x.b=[c]/\c∈[43,45,42,47,94,40,41,44,91,93]
def AN(x:It):Prop:=x.sp=true∨∃c r,x.b=c::r/\Jl c=true
def Jm(l:List UInt8):Prop:=l≠[]/\∀c∈l,aQ c.toNat=true
def XX(l:List UInt8):Prop:=Jm l∨∃a d,l=a++47::d/\Jm a/\Jm d
def Uc(l:List UInt8):Prop:=∃c r,l=c::r/\cE c.toNat=true/\∀d∈r,Iy d.toNat=true
def Rj(x:It):Prop:=XW x∨(x.k=0/\XX x.b)∨(Uc x.b/\fX ⟨x.b.toArray⟩=some x.k)∨(x.k=3/\(x.b=[62]∨x.b=[62,61]))
def oE:List It->Prop
 |[]=>True
 |[x]=>Rj x
 |x::y::r=>Rj x/\(XW x∨AN y)/\oE (y::r)
theorem F9{x:It}{l:List It}(h:Rj x)(hs:XW x∨∀y r,l=y::r->AN y)(a:oE l):oE (x::l):=by
 cases l with
 |nil=>exact h
 |cons y r=>exact⟨h,hs.imp id λ h=>h y r rfl,a⟩
theorem gG{x:It}{l:List It}(h:XW x)(a:oE l):oE (x::l):=F9 (.inl h) (.inl h) a
theorem lV:∀(l r:List It),oE l->oE r->(∀y q,r=y::q->AN y)->oE (l++r)
 |[],_,_,hr,_=>hr
 |[_],_,a,hr,h=>F9 a (.inr h) hr
 |_::y::l,r,a,hr,h=>⟨a.1,a.2.1,lV (y::l) r a.2.2 hr h⟩
theorem vS{l:List It}(h:oE l):oE (jM l):=by
 match l,h with
 |[],_=>exact trivial
 |[_],h=>exact h
 |_::_::_,h=>exact h
def xw:Nat->List It->List aS
 |_,[]=>[]
 |p,x::r=>⟨x.k,⟨x.b.toArray⟩,p+(if x.sp=true then 1 else 0)⟩::xw (p+(if x.sp=true then 1 else 0)+x.b.length) r
def fA(l:List UInt8):ByteArray:=⟨l.toArray⟩
theorem eI(l:List UInt8):(fA l).size=l.length:=by simp[fA,ByteArray.size]
theorem py{l:List UInt8}(h:l[i]? =some c):bt (fA l) i=c.toNat:=by
 have hi:i<l.length:=(List.getElem?_eq_some_iff.1 h).1;have a:i<(fA l).size:=by rw[eI];exact hi
 rw[kD a]
 have:=(List.getElem?_eq_some_iff.1 h).2;rw[<-this]
 rfl
theorem A2(p b q:List UInt8):(fA (p++(b++q))).extract p.length (p.length+b.length)=fA b:=by
 apply ByteArray.ext;simp[fA]
def After(q:List UInt8):Prop:=∀c r,q=c::r->Jl c=true
theorem xx(h:Jl c=true):aQ c.toNat=false/\Iy c.toNat=false/\c.toNat≠46/\c.toNat≠47/\c.toNat≠61:=by
 unfold Jl at h;simp only[Bool.or_eq_true,beq_iff_eq] at h;rcases h with((((rfl|rfl)|rfl)|rfl)|rfl)|rfl<;>decide
section
variable{p b q:List UInt8}
theorem ZY{j:Nat}(h:j<b.length):(p++(b++q))[p.length+j]? =some b[j]:=by
 rw[List.getElem?_append_right (by omega),Nat.add_sub_cancel_left,List.getElem?_append_left h,nW h]
theorem ZZ:(p++(b++q))[p.length+b.length]? =q[0]? :=by
 rw[List.getElem?_append_right (by omega),Nat.add_sub_cancel_left,List.getElem?_append_right (aU _),Nat.sub_self]
theorem abO(h:p.length+b.length<(fA (p++(b++q))).size):∃c r,q=c::r/\bt (fA (p++(b++q))) (p.length+b.length)=c.toNat:=by
 cases q with
 |nil=>rw[eI] at h;simp at h
 |cons c r=>exact⟨c,r,rfl,py (by rw[ZZ];rfl)⟩
theorem Rk{P:Nat->Bool}(h1:∀c∈b,P c.toNat=true)(h2:∀c r,q=c::r->P c.toNat=false):gW P (fA (p++(b++q))) p.length=p.length+b.length:=by
 refine tS (Nat.le_add_right _ _) (by rw[eI];simp) (λ k h3 a=> ?_) λ h=> ?_
 ·obtain⟨j,rfl⟩:=Nat.exists_eq_add_of_le h3;rw[py (ZY (by omega:j<b.length))]
  exact h1 _ (List.getElem_mem _)
 ·obtain⟨c,r,e,hc⟩:=abO h;rw[hc]
  exact h2 c r e
theorem Ga{r:List UInt8}:bt (fA (p++(c::r++q))) p.length=c.toNat:=py (by rw[List.getElem?_append_right (aU _),Nat.sub_self];rfl)
theorem XY(h:XX b)(j:After q):gX true (fA (p++(b++q))) p.length=some (0,p.length+b.length):=by
 have f:∀c r,q=c::r->aQ c.toNat=false:=λ c r e=>(xx (j c r e)).1;have hd:aQ (bt (fA (p++(b++q))) p.length)=true:=by
  rcases h with⟨g,h⟩|⟨a,d,rfl,⟨g,h⟩,-⟩
  ·cases b with
   |nil=>exact absurd rfl g
   |cons c r=>rw[Ga];exact h c my
  ·cases a with
   |nil=>exact absurd rfl g
   |cons c r=>rw[List.cons_append,Ga];exact h c my
 unfold gX;rw[if_pos hd]
 congr 2;unfold dV aw;rcases h with⟨-,h⟩|⟨a,d,rfl,⟨-,ha⟩,m,k⟩
 ·rw[Rk h f]
  rw[if_neg]
  rintro⟨h1,h2,-⟩
  obtain⟨c,r,e,hc⟩:=abO (p:=p) (b:=b) (q:=q) (by omega)
  rw[hc] at h2;have:=xx (j c r e)
  omega
 ·cases d with
  |nil=>exact absurd rfl m
  |cons c r=>
  have e1:p++(a++47::c::r++q)=p++(a++(47::c::r++q)):=by simp
  have l:p++(a++47::c::r++q)=(p++(a++[47]))++((c::r)++q):=by simp
  have i:(p++(a++[47])).length=p.length+a.length+1:=by simp;omega
  have n:gW aQ (fA (p++(a++47::c::r++q))) p.length=p.length+a.length:=by rw[e1];exact Rk ha λ c r e=>by cases e;decide
  rw[n,if_pos]
  ·rw[<-i,l,Rk k f,i];simp;omega
  ·refine⟨by rw[eI];simp;omega,.inr ?_,?_⟩
   ·rw[py (c:=47) (by rw[e1,ZZ];rfl)];rfl
   ·rw[<-i,l,Ga];exact k c my
theorem Ud(h:Uc b)(g:fX (fA b)=some k)(a:After q):gX true (fA (p++(b++q))) p.length=some (k,p.length+b.length):=by
 obtain⟨c,r,rfl,h1,h2⟩:=h;have f:cE (bt (fA (p++(c::r++q))) p.length)=true:=by rw[Ga];exact h1
 have hd:¬aQ (bt (fA (p++(c::r++q))) p.length)=true:=by
  rw[Ga]
  unfold cE at h1;unfold aQ;simp at h1⊢;omega
 have he:dO (fA (p++(c::r++q))) p.length=p.length+(c::r).length:=Rk (λ d hd=>by
  rcases List.mem_cons.1 hd with rfl|hd
  ·unfold Iy;rw[h1];rfl
  ·exact h2 d hd) λ c r e=>(xx (a c r e)).2.1
 unfold gX;rw[if_neg hd,if_pos f,he,A2,g]
 rfl
theorem XZ(h:c∈[43,45,42,47,94,40,41,44,91,93]):gX true (fA (p++([c]++q))) p.length=some (3,p.length+1):=by
 have hb:bt (fA (p++([c]++q))) p.length=c.toNat:=Ga;have key:aQ c.toNat=false/\cE c.toNat=false/\c.toNat≠60/\c.toNat≠62/\wG true c.toNat=true:=by
  simp only[List.mem_cons,nU,or_false] at h;rcases h with rfl|rfl|rfl|rfl|rfl|rfl|rfl|rfl|rfl|rfl<;>decide
 obtain⟨d,b,f,e,a⟩:=key;unfold gX;rw[hb,d,b,if_neg iZ,if_neg iZ,if_neg (by omega),if_pos a]
theorem abP(a:After q):gX true (fA (p++([62]++q))) p.length=some (3,p.length+1):=by
 have hb:bt (fA (p++([62]++q))) p.length=62:=Ga;unfold gX;rw[hb,if_neg (by decide),if_neg (by decide),if_neg,if_pos (by decide)]
 rintro⟨-,-,h1,h2⟩
 obtain⟨c,r,e,hc⟩:=abO (p:=p) (b:=[62]) (q:=q) h1;have h3:bt (fA (p++([62]++q))) (p.length+1)=c.toNat:=hc;rw[h3] at h2;have:=xx (a c r e)
 omega
theorem abQ:gX true (fA (p++([62,61]++q))) p.length=some (3,p.length+2):=by
 have hb:bt (fA (p++([62,61]++q))) p.length=62:=Ga;have a:bt (fA (p++([62,61]++q))) (p.length+1)=61:=py (c:=61) (ZY (b:=[62,61]) (j:=1) (by decide))
 unfold gX;rw[hb,if_neg (by decide),if_neg (by decide),if_pos ⟨rfl,.inr rfl,by rw[eI];simp,a⟩]
end
theorem CD{r:List It}(h:∀y q,r=y::q->AN y):After (cj r):=by
 cases r with
 |nil=>intro c q e;cases e
 |cons y q=>
  intro c r e;rw[cj] at e;rcases h y q rfl with hs|⟨a,r',hb,hc⟩
  ·rw[hs] at e;cases e
   rfl
  ·by_cases hs:y.sp=true
   ·rw[hs] at e;cases e
    rfl
   ·rw[if_neg hs,hb] at e;cases e
    exact hc
theorem afG{x:It}(h:Rj x):∃c r,x.b=c::r/\c.toNat≠32:=by
 rcases h with⟨-,c,h,hc⟩|⟨-,⟨f,h⟩|⟨a,d,h,⟨f,ha⟩,-⟩⟩|⟨⟨c,r,h,g,-⟩,-⟩|⟨-,h|h⟩
 ·refine⟨c,[],h,?_⟩
  simp only[List.mem_cons,nU,or_false] at hc;rcases hc with rfl|rfl|rfl|rfl|rfl|rfl|rfl|rfl|rfl|rfl<;>decide
 ·cases e:x.b with
  |nil=>exact absurd e f
  |cons c r=>
   refine⟨c,r,rfl,?_⟩
   have:=h c (by rw[e];exact my)
   unfold aQ at this;simp at this;omega
 ·cases a with
  |nil=>exact absurd rfl f
  |cons c r=>
   refine⟨c,_,h,?_⟩
   have:=ha c my;unfold aQ at this;simp at this;omega
 ·refine⟨c,r,h,?_⟩
  unfold cE at g;simp at g;omega
 ·exact⟨62,[],h,by decide⟩
 ·exact⟨62,[61],h,by decide⟩
theorem abR{x:It}{p q:List UInt8}(h:Rj x)(d:XW x∨After q):gX true (fA (p++(x.b++q))) p.length=some (x.k,p.length+x.b.length):=by
 rcases h with⟨a,c,h,hc⟩|⟨a,h⟩|⟨hw,a⟩|⟨a,h|h⟩
 ·rw[h,a];exact XZ hc
 ·rw[a]
  refine XY h (d.resolve_left λ hs=> ?_)
  rw[hs.1] at a;cases a
 ·refine Ud hw a (d.resolve_left λ hs=> ?_)
  obtain⟨-,c,e,hc⟩:=hs;obtain⟨g,r',e',f,-⟩:=hw;rw[e] at e';cases e'
  simp only[List.mem_cons,nU,or_false] at hc;rcases hc with rfl|rfl|rfl|rfl|rfl|rfl|rfl|rfl|rfl|rfl<;>exact absurd f (by decide)
 ·rw[h,a]
  refine abP (d.resolve_left λ hs=> ?_)
  obtain⟨-,c,e,hc⟩:=hs;rw[h] at e;cases e
  exact absurd hc (by decide)
 ·rw[h,a];exact abQ
theorem CE:∀(l:List It)(p:List UInt8),oE l->aP true (fA (p++cj l)) p.length=(xw p.length l,none)
 |[],p,_=>by
  rw[cj,List.append_nil,jQ (by rw[eI];exact aU _),xw]
 |x::r,p,h=>by
  have hx:Rj x:=by
   cases r with
   |nil=>exact h
   |cons y q=>exact h.1
  have a:XW x∨After (cj r):=by
   cases r with
   |nil=>exact .inr (CD λ y q e=>by cases e)
   |cons y q=>exact h.2.1.imp id λ hs=>CD λ y' q' e=>by cases e;exact hs
  have hr:oE r:=by
   cases r with
   |nil=>exact trivial
   |cons y q=>exact h.2.2
  obtain⟨c,b,hb,hc⟩:=afG hx;have key:∀(p:List UInt8),aP true (fA (p++(x.b++cj r))) p.length=(⟨x.k,fA x.b,p.length⟩::xw (p.length+x.b.length) r,none):=by
   intro p;have h1:=abR (p:=p) hx a;have h2:bt (fA (p++(x.b++cj r))) p.length≠32:=by rw[hb,Ga];exact hc
   rw[gp (by rw[eI,hb];simp) h2 h1,A2]
   have ih:=CE r (p++x.b) hr;rw[rU,gJ] at ih;rw[ih]
  rw[cj,xw]
  by_cases hs:x.sp=true
  ·rw[if_pos hs,if_pos hs]
   have h3:=key (p++[32])
   rw[rU,gJ] at h3;rw[fw (by rw[eI];simp) (py (c:=32) (by rw[List.getElem?_append_right (aU _),Nat.sub_self];rfl))]
   exact h3
  ·rw[if_neg hs,if_neg hs]
   exact key p
theorem ri(n:Nat):Jm (Lib.decDigits n):=by
 induction n using Nat.strongRecOn with
 |_ n ih=>
  rw[Lib.decDigits]
  split
  ·rename_i h;refine⟨by simp,λ c hc=> ?_⟩
   obtain rfl:c=UInt8.ofNat (48+n):=by simpa using hc
   unfold aQ;simp;omega
  ·rename_i h;refine⟨by simp,λ c hc=> ?_⟩
   rcases List.mem_append.1 hc with hc|hc
   ·exact(ih (n/10) (by omega)).2 c hc
   ·obtain rfl:c=UInt8.ofNat (48+n%10):=by simpa using hc
    unfold aQ;simp;omega
theorem Jn(h:(s&&decide (0<N))=false):XX (il s N D):=by
 unfold il;rw[h]
 split
 ·rename_i e;cases e
 ·split
  ·left;simpa using ri _
  ·exact .inr ⟨_,_,rfl,ri _,ri _⟩
theorem yJ(l:List UInt8):(fA l).toList=l:=by rw[ByteArray.toList_eq];rfl
def Z0:List (List UInt8):=[[101,120,112],[108,111,103],[115,105,110],[99,111,115],[116,97,110],[97,115,105,110],[97,99,111,115],[97,116,97,110]]
def MH:List (List UInt8):=[[112,105],[97,98,115],[109,105,110],[109,97,120],[114,111,111,116],[115,113,114,116],[105,102],[105,110,102],[102,111,114],[105,110],[119,104,101,114,101]]
theorem Gb(l:List UInt8):cg aW (fA l)=Z0.any λ x=>l==x:=by
 unfold cg aW Z0;rw[yJ]
 simp only[List.any_cons,List.any_nil,ByteArray.toList_eq,Bool.beq_comm]
theorem Ue{l:List UInt8}(h:l∈MH):fX (fA l)=some 3:=by
 unfold fX;have h1:cg aW (fA l)=false:=by
  rw[Gb]
  unfold MH at h;simp only[List.mem_cons,nU,or_false] at h;rcases h with rfl|rfl|rfl|rfl|rfl|rfl|rfl|rfl|rfl|rfl|rfl<;>decide
 have h2:DL (fA l)=true:=by
  unfold DL;rw[yJ]
  unfold MH at h;simp only[List.mem_cons,nU,or_false] at h;rcases h with rfl|rfl|rfl|rfl|rfl|rfl|rfl|rfl|rfl|rfl|rfl<;>decide
 rw[h1,h2]
 rfl
theorem X2{l:List UInt8}(h:l∈Z0):fX (fA l)=some 2:=by
 unfold fX;rw[Gb,if_pos]
 unfold Z0 at h⊢;simp only[List.mem_cons,nU,or_false] at h;rcases h with rfl|rfl|rfl|rfl|rfl|rfl|rfl|rfl<;>decide
theorem Ev{s:ByteArray}(h:bV s=true):fX s=some 1:=by
 have a:=h;unfold bV at a;simp only[fv,Bool.not_eq_true'] at a;have h2:=a.2;rw[sJ] at h2;simp only[Bool.or_eq_false_iff] at h2;unfold fX;rw[h2.1,h2.2,h]
 rfl
theorem Ew{s:ByteArray}(h:bV s=true):Uc s.data.toList:=by
 unfold bV at h;simp only[fv] at h;have h2:=h.1.2;unfold AA at h2;simp only[fv,oh,List.all_eq_true,List.mem_range] at h2;obtain⟨g,b⟩:=h2;have hb:∀(j:Nat)(a:j<s.data.toList.length),bt s j=s.data.toList[j].toNat:=λ j a=>by
  have:j<s.size:=by simpa using a
  rw[kD this]
  rfl
 cases e:s.data.toList with
 |nil=>have:s.data.toList.length=s.size:=by simp
       rw[e] at this;simp at this;omega
 |cons c r=>
  have f:s.size=r.length+1:=by have:s.data.toList.length=s.size:=by simp
                               rw[e] at this;simpa using this.symm
  have h3:∀(j:Nat)(d:UInt8),(c::r)[j]? =some d->bt s j=d.toNat:=λ j d hd=>by
   obtain⟨a,hd⟩:=List.getElem?_eq_some_iff.1 hd;rw[hb j (by rw[e];exact a),<-hd]
   congr 1;simp only[e]
  refine⟨c,r,rfl,?_,λ d hd=> ?_⟩
  ·have:=b 0 (by omega)
   unfold tE at this;rw[h3 0 c rfl] at this;simpa using this
  ·obtain⟨j,a,rfl⟩:=List.mem_iff_getElem.1 hd;have:=b (j+1) (by omega)
   unfold tE at this;rw[h3 (j+1) r[j] (by rw[List.getElem?_cons_succ,nW a])] at this;unfold Iy;simpa using this
theorem Gc{l:List UInt8}(h:l∈MH):Rj (S3 l):=.inr (.inr (.inl ⟨by
 unfold MH at h;simp only[List.mem_cons,nU,or_false] at h;rcases h with rfl|rfl|rfl|rfl|rfl|rfl|rfl|rfl|rfl|rfl|rfl<;>exact⟨_,_,rfl,by decide,by decide⟩,Ue h⟩))
theorem CG(c:UInt8)(h:c∈[43,45,42,47,94,40,41,44,91,93])(sp:Bool):XW ⟨sp,3,[c]⟩:=⟨rfl,c,rfl,h⟩
theorem pA{x:It}(h:Rj x):oE [x]:=h
theorem rL{r:List UInt8}(e:b=c::r)(h:Jl c=true):AN ⟨sp,k,b⟩:=.inr ⟨c,r,e,h⟩
theorem Uf{l:List It}(h:oE l):oE (S3 [40]::(l++[S3 [41]])):=gG (CG 40 (by decide) false) (lV _ _ h (pA (.inl (CG 41 (by decide) false))) λ y q e=>by cases e;exact rL rfl (by decide))
theorem afH{l:List It}(h:oE l)(k AM:Nat):oE (pN k (AM,l)):=by
 unfold pN;split
 ·exact h
 ·exact Uf h
theorem mf{x:It}{l:List It}(h:Rj x)(a:oE l)(hs:∀y q,l=y::q->AN y):oE (x::l):=F9 h (.inr hs) a
theorem Z1:∀(ts:List aj),(∀t∈ts,oE (jy t))->oE (A0 (fI ts)++[S3 [41]])/\∀y q,A0 (fI ts)++[S3 [41]]=y::q->AN y
 |[],_=>⟨pA (.inl (CG 41 (by decide) false)),λ y q e=>by cases e;exact rL rfl (by decide)⟩
 |t::ts,h=>by
  obtain⟨h1,h2⟩:=Z1 ts λ u a=>h u (rG _ a)
  rw[fI,A0]
  refine⟨gG (CG 44 (by decide) false) ?_,λ y q e=>by cases e;exact rL rfl (by decide)⟩
  show oE ((jM (jy t)++A0 (fI ts))++[S3 [41]])
  rw[rU]
  exact lV _ _ (vS (h t my)) h1 h2
theorem afI{f:Bool}{ts:List aj}(h:∀u∈t::ts,oE (jy u)):oE (F8 f (fI (t::ts))++[S3 [41]]):=by
 obtain⟨h1,h2⟩:=Z1 ts λ u a=>h u (rG _ a)
 rw[fI,F8,rU]
 refine lV _ _ ?_ h1 h2;split
 ·exact vS (h t my)
 ·exact h t my
theorem yK{l:List UInt8}(h:XX l)(sp:Bool):Rj ⟨sp,0,l⟩:=.inr (.inl ⟨rfl,h⟩)
theorem afJ(a:Int):oE (Wl a):=by
 unfold Wl;split
 ·exact gG (CG 45 (by decide) false) (pA (yK (.inl (ri _)) false))
 ·exact pA (yK (.inl (ri _)) false)
theorem abS{a:Int}(h1:1<=a)(c:a<=8):O0 a∈Z0:=by
 obtain⟨k,b,rfl⟩:∃k:Nat,k<8/\a=((k+1:Nat):Int):=⟨(a-1).toNat,by omega,by omega⟩
 unfold O0;rw[show(((k+1:Nat):Int)-1).toNat=k by omega]
 have:∀j,j<8->((aW[j]?).getD ⟨#[]⟩).data.toList∈Z0:=by decide
 exact this k b
theorem afK{l:List UInt8}(h:l∈Z0):Rj ⟨false,2,l⟩:=.inr (.inr (.inl ⟨by
 unfold Z0 at h;simp only[List.mem_cons,nU,or_false] at h;rcases h with rfl|rfl|rfl|rfl|rfl|rfl|rfl|rfl<;>exact⟨_,_,rfl,by decide,by decide⟩,X2 h⟩))
theorem X3(hn:bJ op arg s N D name kids.length=true)(h:∀t∈kids,oE (jy t)):oE (lF op arg s N D name (fI kids)):=by
 have d:=hn;obtain⟨j,ha⟩:=jZ hn;have b:∀i(hi:i<kids.length) k,oE (pN k (kI (fI kids) i)):=λ i hi k=>by
  rw[xo hi]
  exact afH (h _ (List.getElem_mem hi)) k _
 have ho:∀o:Int,Rj (HA o)/\XW (HA o):=λ o=>by
  have:XW (HA o):=by
   unfold HA;split
   ·exact CG 43 (by decide) true
   ·split
    ·exact CG 45 (by decide) true
    ·split
     ·exact CG 42 (by decide) true
     ·exact CG 47 (by decide) true
  exact⟨.inl this,this⟩
 have hp:∀(w:List UInt8)(r:List It),w∈MH->oE r->oE (S3 w::S3 [40]::r):=λ w r hw hr=>mf (Gc hw) (gG (CG 40 (by decide) false) hr) λ y q e=>by cases e;exact rL rfl (by decide)
 rcases CC j with rfl|rfl|rfl|⟨rfl,h1⟩|⟨a,h2⟩|⟨a,h2⟩|⟨rfl,h1⟩|a
 ·exact pA (yK (Jn (qu hn rfl).1) false)
 ·refine pA (.inr (.inr (.inl ?_)))
  have g:bV name=true:=by
   unfold bJ at d;simp only[fv] at d;have:=d.2;rw[if_neg (by decide)] at this;simp only[fv] at this;exact this.2
  exact⟨Ew g,Ev g⟩
 ·exact pA (Gc (by decide))
 ·exact gG (CG 45 (by decide) false) (b 0 (by omega) 3)
 ·have e1:lF op arg s N D name (fI kids)=pN 1 (kI (fI kids) 0)++(HA op::jM (pN 2 (kI (fI kids) 1))):=by rcases a with rfl|rfl<;>rfl
  rw[e1]
  exact lV _ _ (b 0 (by omega) 1) (gG (ho op).2 (vS (b 1 (by omega) 2))) λ y q e=>by cases e;exact .inl rfl
 ·have e1:lF op arg s N D name (fI kids)=pN 2 (kI (fI kids) 0)++(HA op::jM (pN 3 (kI (fI kids) 1))):=by rcases a with rfl|rfl<;>rfl
  rw[e1]
  exact lV _ _ (b 0 (by omega) 2) (gG (ho op).2 (vS (b 1 (by omega) 3))) λ y q e=>by cases e;exact .inl rfl
 ·exact lV _ _ (b 0 (by omega) 5) (gG (CG 94 (by decide) false) (afJ arg)) λ y q e=>by cases e;exact rL rfl (by decide)
 ·have e1:lF op arg s N D name (fI kids)=qp op arg++(F8 (rK op arg) (fI kids)++[S3 [41]]):=by rcases a with rfl|rfl|rfl|rfl|rfl|rfl<;>rfl
  rw[e1]
  cases kids with
  |nil=>rcases a with rfl|rfl|rfl|rfl|rfl|rfl<;>cases j
  |cons t ts=>
   have c:=afI (f:=rK op arg) h;rcases a with rfl|rfl|rfl|rfl|rfl|rfl
   ·by_cases h2:arg=2
    ·subst h2;exact hp _ _ (by decide) c
    ·unfold qp;rw[if_pos rfl,if_neg h2]
     exact hp _ _ (by decide) (mf (yK (.inl (ri _)) false) (gG (CG 44 (by decide) false) c) λ y q e=>by cases e;exact rL rfl (by decide))
   ·have ha:1<=arg/\arg<=8:=by unfold kT at ha;simpa using ha
    exact mf (afK (abS ha.1 ha.2)) (gG (CG 40 (by decide) false) c) λ y q e=>by cases e;exact rL rfl (by decide)
   all_goals exact hp _ _ (by decide) c
mutual
theorem A3:∀(t:aj),cY t->oE (jy t)
 | .node op arg s N D name kids=>λ ⟨h1,h2⟩=>by
   rw[jy]
   exact X3 h1 (Jo kids h2)
theorem Jo:∀(ts:List aj),qX ts->∀t∈ts,oE (jy t)
 |[],_,t,h=>absurd h nU
 |u::us,hw,t,h=>by
  rcases List.mem_cons.1 h with e|h
  ·rw[e];exact A3 u hw.1
  ·exact Jo us hw.2 t h
end
def X4:List UInt8->Nat->Nat
 |[],a=>a
 |c::r,a=>X4 r (a*10+(c.toNat-48))
theorem Gh:∀(l r:List UInt8)(a:Nat),X4 (l++r) a=X4 r (X4 l a)
 |[],_,_=>rfl
 |c::l,r,a=>by rw[List.cons_append,X4,X4,Gh l r]
theorem Jp(l:List UInt8):∀m,m<=l.length->dE (fA l) 0 m=X4 (l.take m) 0
 |0,_=>rfl
 |m+1,h=>by
  have hm:m<l.length:=by omega
  rw[dE,Jp l m (by omega),List.take_add_one,nW hm,Gh,lp,py (nW hm)]
  rfl
theorem xy(l:List UInt8):cw (fA l)=X4 l 0:=by
 unfold cw;rw[eI,Jp l _ (aU _),List.take_length]
theorem A4(n:Nat):X4 (Lib.decDigits n) 0=n:=by
 induction n using Nat.strongRecOn with
 |_ n ih=>
  rw[Lib.decDigits]
  split
  ·rename_i h;show 0*10+((UInt8.ofNat (48+n)).toNat-48)=n;simp;omega
  ·rename_i h;rw[Gh,ih (n/10) (by omega)]
   show n/10*10+((UInt8.ofNat (48+n%10)).toNat-48)=n;simp;omega
theorem Jq{l:List UInt8}(h:Jm l):aw (fA l) 0=(fA l).size:=by
 have h1:=Rk (p:=[]) (b:=l) (q:=[]) h.2 λ c r e=>by cases e
 rw[List.append_nil,List.nil_append] at h1;rw[eI]
 unfold aw;rw[show(0:Nat)=([]:List UInt8).length from rfl,h1]
 simp
theorem Gi(h:bn n=true):(Lib.decDigits n).length<=617:=by
 refine A5 (Nat.lt_trans (kC h) ?_) (by decide)
 rw[gw]
 have:Nat.blt (2^2048) (10^617)=true:=by kernel_rfl
 rwa [Nat.blt_eq] at this
theorem afL{d:Nat}(a:Nat.gcd n d=1)(h1:bn n=true)(h2:bn d=true):Xl (n,d)=0/\Tp (n,d)=⟨n,if d=1 then 0 else d⟩:=by
 unfold Xl Tp zJ zK;dsimp only;rw[a,Nat.div_one,Nat.div_one,h1,h2]
 exact⟨rfl,rfl⟩
theorem Pd(h:bn n=true):iz (fA (Lib.decDigits n))=0/\aN (fA (Lib.decDigits n))=⟨n,0⟩:=by
 have a:sQ (fA (Lib.decDigits n))=(n,1):=by
  unfold sQ;rw[if_pos (Jq (ri n)),xy,A4]
 obtain⟨h1,h2⟩:=afL (n:=n) (d:=1) (Nat.gcd_one_right n) h wT;have b:=Gi h;have hc:iz (fA (Lib.decDigits n))=0:=by
  unfold iz;rw[a,if_neg (by rw[eI];omega),if_neg Nat.one_ne_zero,h1]
 refine⟨hc,?_⟩
 unfold aN;rw[if_pos hc,a,h2]
 rfl
theorem Ug{d:Nat}(k:Nat.gcd n d=1)(hd:d≠0)(hn:bn n=true)(hf:bn d=true):iz (fA (Lib.decDigits n++47::Lib.decDigits d))=0/\aN (fA (Lib.decDigits n++47::Lib.decDigits d))=⟨n,if d=1 then 0 else d⟩:=by
 obtain⟨A,hA⟩:∃A,A=Lib.decDigits n:=⟨_,rfl⟩
 obtain⟨B,l⟩:∃B,B=Lib.decDigits d:=⟨_,rfl⟩
 have h:=ri n;have f:=A4 n;have j:=Gi hn;have a:=A4 d;have i:=Gi hf;rw[<-hA] at h f j⊢;rw[<-l] at a i⊢;have he:aw (fA (A++47::B)) 0=A.length:=by
  have:=Rk (p:=[]) (b:=A) (q:=47::B) (P:=aQ) h.2 λ c r e=>by cases e;decide
  simpa [aw] using this
 have hb:bt (fA (A++47::B)) A.length=47:=py (c:=47) (by rw[List.getElem?_append_right (aU _),Nat.sub_self];rfl)
 have h1:zx (fA (A++47::B))=fA A:=by
  unfold zx;rw[he]
  have:=A2 [] A (47::B)
  simpa using this
 have h2:oo (fA (A++47::B))=fA B:=by
  unfold oo;rw[he,eI]
  have:=A2 (A++[47]) B []
  simp only[List.append_nil,rU,List.cons_append,List.nil_append,gJ,nK,List.length_nil] at this;rw[<-this]
  congr 1;simp;omega
 have g:sQ (fA (A++47::B))=(n,d):=by
  unfold sQ;rw[he,if_neg (by rw[eI];simp),hb,if_neg (by decide),h1,h2,xy,xy,f,a]
 obtain⟨c1,c2⟩:=afL k hn hf;have hc:iz (fA (A++47::B))=0:=by
  unfold iz;rw[g,if_neg (by rw[eI];simp;omega),if_neg hd,c1]
 refine⟨hc,?_⟩
 unfold aN;rw[if_pos hc,g,c2]
theorem uw(hs:(s&&decide (0<N))=false)(h:aX N D=true):iz (fA (il s N D))=0/\aN (fA (il s N D))=⟨rN N D,cD N D⟩:=by
 obtain⟨h1,h2⟩:=tF h;unfold il cD;rw[hs,if_neg iZ,List.nil_append]
 by_cases hd:rD N D=1
 ·rw[if_pos hd,if_pos hd,List.append_nil]
  exact Pd h1
 ·rw[if_neg hd,if_neg hd]
  have:=Ug (TC N D) (by have:=yF N D;omega) h1 h2;rw[if_neg hd] at this;exact this
def mT(ts:List aS)(i:Nat)(l:List It):Prop:=∀(j:Nat)(x:It),l[j]? =some x->(ar ts (i+j)).kind=x.k/\(ar ts (i+j)).text=fA x.b
def wF(ts:List aS)(u:List (Nat×Bool)):Prop:=∀p∈u,∃m,(ar ts p.1).kind=0/\(ar ts p.1).text=fA (Lib.decDigits m)/\(p.2=true->2<=m/\m<=8)/\(p.2=false->m<=32)
theorem wF.nil(ts:List aS):wF ts []:=λ _ h=>absurd h nU
section
variable{ts:List aS}{i n:Nat}{l r:List It}{x:It}{u v:List (Nat×Bool)}{α β:Type}
theorem wF.app(h:wF ts u)(k:wF ts v):wF ts (u++v):=λ p hp=>(List.mem_append.1 hp).elim (h p) (k p)
theorem mT.left(h:mT ts i (l++r)):mT ts i l:=λ j x hx=>h j x (by
 rw[List.getElem?_append_left (List.getElem?_eq_some_iff.1 hx).1];exact hx)
theorem mT.right(h:mT ts i (l++r)):mT ts (i+l.length) r:=λ j x hx=>by
 rw[Nat.add_assoc]
 exact h _ x (by rw[List.getElem?_append_right (by omega),Nat.add_sub_cancel_left];exact hx)
theorem mT.head(h:mT ts i (x::l)):(ar ts i).kind=x.k/\(ar ts i).text=fA x.b:=h 0 x rfl
theorem mT.tail(h:mT ts i (x::l)):mT ts (i+1) l:=λ j y a=>by
 rw[Nat.add_assoc,Nat.add_comm 1]
 exact h (j+1) y a
theorem mT.jM(h:mT ts i (jM l)):mT ts i l:=by
 cases l with
 |nil=>exact h
 |cons x r=>
  intro j y a;cases j with
  |zero=>cases a;exact h 0 ⟨true,x.k,x.b⟩ rfl
  |succ j=>exact h (j+1) y a
theorem jN{t:aS}(h:t.kind=k/\t.text=fA b)(c:List UInt8):bF t c=((k==3)&&(b==c)):=by
 unfold bF;rw[h.1,h.2,yJ]
theorem mT.lY(h:mT ts i (S3 b::l))(c:List UInt8):bF (ar ts i) c=(b==c):=by rw[jN h.head];rfl
def zP(u:List (Nat×Bool)):Option (PR α)->Option (PR α)
 |some (.ok x i v)=>some (.ok x i (u++v))
 |r=>r
theorem tG(x:α)(f:α->Nat->Option (PR β)):cf (some (.ok x i u)) f=zP u (f x i):=by
 show(match f x i with|some (.ok y j v)=>some (PR.ok y j (u++v))|some (.bad j)=>some (.bad j)|none=>none)=_;generalize f x i=r;cases r with
 |none=>rfl
 |some r=>cases r<;>rfl
theorem A6(r:Option (PR α)):zP u (zP v r)=zP (u++v) r:=by
 cases r with
 |none=>rfl
 |some r=>cases r<;>simp[zP]
theorem La(x:α)(f:α->β):(some (PR.ok x i u)).map (PR.map f)=some (.ok (f x) i u):=rfl
theorem Pe(h:bF (ar ts i) b=true):cG ts b i=some (.ok () (i+1) []):=if_pos h
theorem gH(l:List It):(jM l).length=l.length:=by cases l<;>rfl
def MI(t:aS):Prop:=bF t [94]=false
def Uh(t:aS):Prop:=MI t/\bF t [42]=false/\bF t [47]=false
def tH(t:aS):Prop:=Uh t/\bF t [43]=false/\bF t [45]=false
theorem xz(h:mT ts i (S3 b::l))(hb:b∉[[94],[42],[47],[43],[45]]):tH (ar ts i):=by
 simp only[List.mem_cons,nU,or_false,not_or] at hb;unfold tH Uh MI;simp only[h.lY]
 simp[hb]
end
def PA(l:List It)(c:aj):Prop:=∀ts i n,mT ts i l->10*l.length+1<=n->∃u,dy aN ts n i=some (.ok c (i+l.length) u)/\wF ts u
def PF(l:List It)(c:aj):Prop:=∀ts i n,mT ts i l->MI (ar ts (i+l.length))->10*l.length+2<=n->∃u,gm aN ts n i=some (.ok c (i+l.length) u)/\wF ts u
def PM(l:List It)(c:aj):Prop:=∀ts i n,mT ts i l->MI (ar ts (i+l.length))->10*l.length+3<=n->∃u n',n<=n'+10*l.length/\ee aN ts n i=zP u (eY aN ts n' c (i+l.length))/\wF ts u
def PS(l:List It)(c:aj):Prop:=∀ts i n,mT ts i l->Uh (ar ts (i+l.length))->10*l.length+4<=n->∃u n',n<=n'+10*l.length/\eD aN ts n i=zP u (kh aN ts n' c (i+l.length))/\wF ts u
section
variable{l:List It}{c:aj}
theorem uZ{j:Nat}{u:List (Nat×Bool)}(h:dy aN ts n i=some (.ok c j u)):bF (ar ts i) [45]=false:=by
 cases hm:bF (ar ts i) [45] with
 |false=>rfl
 |true=>
  exfalso;cases n with
  |zero=>rw[dy] at h;cases h
  |succ n=>
   have a:(ar ts i).kind=3/\(ar ts i).text.toList=[45]:=by
    unfold bF at hm;simpa using hm
   have hn:∀b,b≠[45]->bF (ar ts i) b=false:=λ b hb=>by
    unfold bF;rw[a.1,a.2]
    simpa using λ e=>hb e.symm
   rw[dy] at h;have h1:bM aN (ar ts i)=none:=by
    unfold bM;rw[a.1,hn _ (by decide)]
    rfl
   have h2:cm (ar ts i)=none:=by
    unfold cm;rw[a.1,hn _ (by decide),hn _ (by decide),hn _ (by decide),hn _ (by decide),hn _ (by decide)]
    rfl
   rw[h1,h2] at h;simp only[hn [40] (by decide),hn [114,111,111,116] (by decide),Bool.false_eq_true,if_false] at h;cases h
theorem xA(h:PA l c):PF l c:=by
 intro ts i n hA hs hn;cases n with
 |zero=>omega
 |succ n=>
  obtain⟨u,h1,h2⟩:=h ts i n hA (by omega)
  refine⟨u,?_,h2⟩
  rw[gm,uZ h1,h1,tG,hs]
  simp[zP]
theorem CH(h:PF l c)(a:0<l.length):PM l c:=by
 intro ts i n hA hs hn;cases n with
 |zero=>omega
 |succ n=>
  obtain⟨u,h1,h2⟩:=h ts i n hA hs (by omega)
  exact⟨u,n,by omega,by rw[ee,h1,tG],h2⟩
theorem CI(h:PM l c)(d:0<l.length):PS l c:=by
 intro ts i n hA hs hn;cases n with
 |zero=>omega
 |succ n=>
  obtain⟨u,a,h1,h2,h3⟩:=h ts i n hA hs.1 (by omega)
  refine⟨u,n,by omega,?_,h3⟩
  cases a with
  |zero=>omega
  |succ a=>
   rw[eY,hs.2.1,hs.2.2] at h2;have b:ee aN ts n i=some (.ok c (i+l.length) u):=by rw[h2];simp[zP]
   rw[eD,b,tG]
theorem PS.full(h:PS l c)(hA:mT ts i l)(hs:tH (ar ts (i+l.length)))(hn:10*l.length+4<=n):∃u,eD aN ts n i=some (.ok c (i+l.length) u)/\wF ts u:=by
 obtain⟨u,a,h1,h2,h3⟩:=h ts i n hA hs.1 hn;refine⟨u,?_,h3⟩
 cases a with
 |zero=>omega
 |succ a=>
  rw[kh,hs.2.1,hs.2.2] at h2;rw[h2]
  simp[zP]
theorem CJ(h:PS l c):PA (S3 [40]::(l++[S3 [41]])) c:=by
 intro ts i n hA hn;rw[nK,gJ,List.length_singleton] at hn⊢;cases n with
 |zero=>omega
 |succ n=>
  have hc:=hA.tail.right;obtain⟨u,h1,h2⟩:=h.full hA.tail.left (xz hc (by decide)) (by omega:10*l.length+4<=n)
  refine⟨u,?_,h2⟩
  have a:=hA.head;have h3:bM aN (ar ts i)=none:=by
   unfold bM;rw[a.1,hA.lY]
   rfl
  rw[dy,h3]
  simp only[hA.lY,show(([40]:List UInt8)==[40])=true from rfl,if_true]
  rw[h1,tG,Pe (by rw[hc.lY];rfl),La]
  simp[zP]
  omega
end
theorem mG{l:List It}(h:k<=AM):pN k (AM,l)=l:=if_pos h
theorem yL{l:List It}(h:AM<k):pN k (AM,l)=S3 [40]::(l++[S3 [41]]):=if_neg (by show ¬k<=AM;omega)
structure Pg(AM:Nat)(l:List It)(c:aj):Prop where
 a:PA (pN 5 (AM,l)) c
 f:PF (pN 3 (AM,l)) c
 m:PM (pN 2 (AM,l)) c
 s:PS (pN 1 (AM,l)) c
section
variable{l:List It}{c:aj}
theorem alh(h:PS l c):Pg 1 l c:=by
 have ha:=CJ h;refine⟨?_,?_,?_,?_⟩
 ·rw[yL (by decide)];exact ha
 ·rw[yL (by decide)];exact xA ha
 ·rw[yL (by decide)];exact CH (xA ha) (Nat.succ_pos _)
 ·rw[mG (by decide)];exact h
theorem ali(h:PM l c)(a:0<l.length):Pg 2 l c:=by
 have hs:=CI h a;have ha:=CJ hs;refine⟨?_,?_,?_,?_⟩
 ·rw[yL (by decide)];exact ha
 ·rw[yL (by decide)];exact xA ha
 ·rw[mG (by decide)];exact h
 ·rw[mG (by decide)];exact hs
theorem afM(b:AM=3∨AM=4)(h:PF l c)(a:0<l.length):Pg AM l c:=by
 have hm:=CH h a;have hs:=CI hm a;refine⟨?_,?_,?_,?_⟩
 ·rw[yL (by omega)];exact CJ hs
 ·rw[mG (by omega)];exact h
 ·rw[mG (by omega)];exact hm
 ·rw[mG (by omega)];exact hs
theorem X5(h:PA l c)(a:0<l.length):Pg 5 l c:=by
 have hf:=xA h;have hm:=CH hf a;refine⟨?_,?_,?_,?_⟩
 ·rw[mG (by decide)];exact h
 ·rw[mG (by decide)];exact hf
 ·rw[mG (by decide)];exact hm
 ·rw[mG (by decide)];exact CI hm a
end
theorem abT(m:Nat)(h:m<1000):jC (fA (Lib.decDigits m))=m:=by
 unfold jC;rw[yJ]
 induction m using Nat.strongRecOn with
 |_ n ih=>
  rw[Lib.decDigits]
  split
  ·simp;omega
  ·rw[List.foldl_append,ih (n/10) (by omega) (by omega)]
   simp[show n/10<1000 by omega]
   omega
section
variable{ts:List aS}{i:Nat}{l:List It}
theorem abU{m:Nat}(h:mT ts i (⟨sp,0,Lib.decDigits m⟩::l))(hm:m<1000)(b:Bool):rP ts b i=some (.ok m (i+1) [(i,b)]):=by
 unfold rP;obtain⟨h1,h2⟩:=h.head;have hw:dZ (ar ts i)=true:=by
  unfold dZ;rw[h1,h2,Jq (ri m)]
  simp
 rw[if_pos hw,h2,abT m hm,Nat.min_eq_left (by omega)]
theorem Gj{m:Nat}{b:Bool}(h:mT ts i (⟨sp,0,Lib.decDigits m⟩::l))(h1:b=true->2<=m/\m<=8)(h2:b=false->m<=32):wF ts [(i,b)]:=λ p hp=>by
 obtain rfl:p=(i,b):=by simpa using hp
 exact⟨m,h.head.1,h.head.2,h1,h2⟩
theorem Rl(h:mT ts i (S3 b::l))(hb:b≠[112,105]):bM aN (ar ts i)=none:=by
 unfold bM;rw[h.head.1,h.lY]
 simp[S3,hb]
end
theorem Ph(ts:List aS):∀(us:List aj)(i n:Nat)(l:List It),(∀t∈us,Pg (iQ (qt t)) (jy t) (cR t))->mT ts i (A0 (fI us)++S3 [41]::l)->10*(A0 (fI us)).length+2<=n->
 ∃u,dM aN ts n us.length i=some (.ok (di us) (i+(A0 (fI us)).length) u)/\wF ts u
 |[],i,n,l,_,_,hn=>by
  cases n with
  |zero=>omega
  |succ n=>
   refine⟨[],?_,wF.nil ts⟩
   rw[di,fI,A0]
   show dM aN ts (n+1) 0 i=_;rw[dM]
   rfl
 |t::us,i,n,l,hr,hA,hn=>by
  rw[fI,A0] at hA hn⊢;cases n with
  |zero=>omega
  |succ n=>
   have a:mT ts (i+1) (jM (jy t)++(A0 (fI us)++S3 [41]::l)):=by
    have h:mT ts (i+1) ((jM (jy t)++A0 (fI us))++S3 [41]::l):=hA.tail
    rwa [rU] at h
   have e:=hr t my;have h1:=a.left.jM;have h2:=a.right;rw[gH] at h2;simp only[nK,gJ,gH] at hn⊢;have f:tH (ar ts (i+1+(jy t).length)):=by
    cases us with
    |nil=>rw[fI,A0] at h2;exact xz h2 (by decide)
    |cons u us=>rw[fI,A0] at h2;exact xz h2 (by decide)
   have hs:=e.s;have g:pN 1 (iQ (qt t),jy t)=jy t:=mG (by unfold iQ;split<;>(try split)<;>(try split)<;>(try split)<;>decide)
   rw[g] at hs;obtain⟨c,e1,v1⟩:=hs.full (n:=n) h1 f (by omega)
   obtain⟨b,j,v2⟩:=Ph ts us (i+1+(jy t).length) n l (λ u d=>hr u (rG _ d)) h2 (by omega)
   refine⟨c++b,?_,v1.app v2⟩
   rw[dM,Pe (by rw[hA.lY];rfl),tG,e1,tG,j,La,di]
   simp[zP]
   omega
theorem A7(op:Int):1<=iQ op:=by unfold iQ;split<;>(try split)<;>(try split)<;>(try split)<;>decide
theorem Pg.full{l:List It}{c:aj}(h:Pg AM l c)(h1:1<=AM):PS l c:=by
 have:=h.s
 rwa [mG h1] at this
theorem X6(ts:List aS)(t:aj)(us:List aj)(i n:Nat)(hr:∀x∈t::us,Pg (iQ (qt x)) (jy x) (cR x))(hA:mT ts i (S3 [40]::(F8 false (fI (t::us))++[S3 [41]])))(hn:10*(F8 false (fI (t::us))).length+6<=n):
 ∃u,gK aN ts n (us.length+1) i=some (.ok (di (t::us)) (i+(F8 false (fI (t::us))).length+2) u)/\wF ts u:=by
 rw[fI,F8] at hA hn⊢;simp only[Bool.false_eq_true,if_false] at hA hn⊢;cases n with
 |zero=>omega
 |succ n=>
  have a:mT ts (i+1) (jy t++(A0 (fI us)++[S3 [41]])):=by
   have h:=hA.tail
   rwa [rU] at h
  have h2:=a.right;have h3:=h2.right;simp only[gJ] at hn⊢;have e:tH (ar ts (i+1+(jy t).length)):=by
   cases us with
   |nil=>rw[fI,A0] at h2;exact xz h2 (by decide)
   |cons u us=>rw[fI,A0] at h2;exact xz h2 (by decide)
  obtain⟨c,e1,v1⟩:=((hr t my).full (A7 _)).full (n:=n) a.left e (by omega)
  obtain⟨b,f,v2⟩:=Ph ts us (i+1+(jy t).length) n [] (λ u d=>hr u (rG _ d)) h2 (by omega)
  refine⟨c++b,?_,v1.app v2⟩
  rw[gK,Pe (by rw[hA.lY];rfl),tG,e1,tG,Nat.add_sub_cancel,f,tG,Pe (by rw[h3.lY];rfl),La,di]
  simp[zP]
  omega
theorem qv(h:bJ op arg s N D name n=true)(h1:op≠1)(h2:op≠2):cR (.node op arg s N D name kids)=bY op arg (di kids):=by
 unfold bJ at h;simp only[fv,if_neg h1,if_neg h2,oh] at h;have:name=⟨#[]⟩:=by
  apply ByteArray.ext;exact Array.eq_empty_of_size_eq_zero h.2.2
 rw[cR,if_neg h1,if_neg h1,this]
 rfl
theorem jo(h:bJ op arg s N D name n=true)(a:op≠9)(c:op≠10)(b:op≠11):arg=0:=by
 have:=(jZ h).2;unfold kT at this;rw[if_neg a,if_neg c,if_neg b] at this;simpa using this
theorem Gk{x:It}{c:aj}(h:∀t:aS,t.kind=x.k->t.text=fA x.b->bM aN t=some c):PA [x] c:=by
 intro ts i n hA hn;cases n with
 |zero=>omega
 |succ n=>
  refine⟨[],?_,wF.nil ts⟩
  rw[dy,h _ hA.head.1 hA.head.2]
  rfl
theorem PM.full{l:List It}{c:aj}(h:PM l c)(hA:mT ts i l)(hs:Uh (ar ts (i+l.length)))(hn:10*l.length+3<=n):∃u,ee aN ts n i=some (.ok c (i+l.length) u)/\wF ts u:=by
 obtain⟨u,a,h1,h2,h3⟩:=h ts i n hA hs.1 hn;refine⟨u,?_,h3⟩
 cases a with
 |zero=>omega
 |succ a=>
  rw[eY,hs.2.1,hs.2.2] at h2;rw[h2]
  simp[zP]
theorem abV(ho:op=5∨op=6){l0 l1:List It}{c0 c1:aj}(f:PS l0 c0)(h1:PM l1 c1):PS (l0++(HA op::jM l1)) (bY op 0 [c0,c1]):=by
 intro ts i n hA hs hn;simp only[gJ,nK,gH] at hs hn⊢;have a:=hA.right;have hi:∀b,bF (ar ts (i+l0.length)) b=((HA op).b==b):=λ b=>by rw[jN a.head];rfl
 obtain⟨e,n1,a1,g,v1⟩:=f ts i n hA.left (by rcases ho with rfl|rfl<;>exact⟨by unfold MI;rw[hi];rfl,by rw[hi];rfl,by rw[hi];rfl⟩) (by omega)
 cases n1 with
 |zero=>omega
 |succ n2=>
  rw[show i+(l0.length+(l1.length+1))=i+l0.length+1+l1.length by omega] at hs⊢;obtain⟨d,c,v2⟩:=h1.full (n:=n2) a.tail.jM hs (by omega)
  refine⟨e++d,n2,by omega,?_,v1.app v2⟩
  rw[g,kh,hi,hi]
  rcases ho with rfl|rfl
  ·rw[if_pos (by decide),c,tG,A6]
  ·rw[if_neg (by decide),if_pos (by decide),c,tG,A6]
theorem abW(ho:op=7∨op=8){l0 l1:List It}{c0 c1:aj}(f:PM l0 c0)(h1:PF l1 c1):PM (l0++(HA op::jM l1)) (bY op 0 [c0,c1]):=by
 intro ts i n hA hs hn;simp only[gJ,nK,gH] at hs hn⊢;have a:=hA.right;have hi:∀b,bF (ar ts (i+l0.length)) b=((HA op).b==b):=λ b=>by rw[jN a.head];rfl
 obtain⟨e,n1,a1,g,v1⟩:=f ts i n hA.left (by rcases ho with rfl|rfl<;>(unfold MI;rw[hi];rfl)) (by omega)
 cases n1 with
 |zero=>omega
 |succ n2=>
  rw[show i+(l0.length+(l1.length+1))=i+l0.length+1+l1.length by omega] at hs⊢;obtain⟨d,c,v2⟩:=h1 ts _ n2 a.tail.jM hs (by omega)
  refine⟨e++d,n2,by omega,?_,v1.app v2⟩
  rw[g,eY,hi,hi]
  rcases ho with rfl|rfl
  ·rw[if_pos (by decide),c,tG,A6]
  ·rw[if_neg (by decide),if_pos (by decide),c,tG,A6]
theorem abX{l:List It}{c:aj}(h:PF l c):PF (S3 [45]::l) (bY 4 0 [c]):=by
 intro ts i n hA hs hn;rw[nK] at hs hn⊢;cases n with
 |zero=>omega
 |succ n=>
  rw[show i+(l.length+1)=i+1+l.length by omega] at hs⊢;obtain⟨u,e,v⟩:=h ts (i+1) n hA.tail hs (by omega)
  refine⟨u,?_,v⟩
  rw[gm,if_pos (by rw[hA.lY];rfl),e,La]
theorem abY{l:List It}{c:aj}(h:PA l c)(h1: -32<=arg)(h2:arg<=32):PF (l++(S3 [94]::Wl arg)) (bY 9 arg [c]):=by
 intro ts i n hA _ hn;simp only[gJ,nK] at hn⊢;cases n with
 |zero=>omega
 |succ n=>
  obtain⟨u,e,v⟩:=h ts i n hA.left (by omega)
  have hp:=hA.right;have a:=hp.tail;have hf:gm aN ts (n+1) i=zP u (if bF (ar ts (i+l.length+1)) [45]=true then(rP ts false (i+l.length+2)).map (PR.map λ (m:Nat)=>bY 9 (-(m:Int)) [c]) else(rP ts false (i+l.length+1)).map (PR.map λ (m:Nat)=>bY 9 (m:Int) [c])):=by
   rw[gm,if_neg (by rw[uZ e];decide),e,tG,if_pos (by rw[hp.lY];rfl)]
  unfold Wl at a hn⊢;by_cases b:arg<0
  ·rw[if_pos b] at a hn⊢;have hd:=abU a.tail (by omega) false;refine⟨u++[(i+l.length+2,false)],?_,v.app (Gj a.tail (λ e=>by cases e) λ _=>by omega)⟩
   rw[hf,if_pos (by rw[a.lY];rfl),hd,La]
   simp only[zP,nK,List.length_nil]
   rw[show -((arg.natAbs:Nat):Int)=arg by omega]
   rfl
  ·rw[if_neg b] at a hn⊢;have hd:=abU a (by omega) false;refine⟨u++[(i+l.length+1,false)],?_,v.app (Gj a (λ e=>by cases e) λ _=>by omega)⟩
   rw[hf,if_neg (by rw[jN a.head];exact iZ),hd,La]
   simp only[zP,nK,List.length_nil]
   rw[show((arg.toNat:Nat):Int)=arg by omega]
   rfl
theorem X7{t:aS}{a:Int}(h1:1<=a)(e:a<=8)(d:t.kind=2)(b:t.text=fA (O0 a)):cm t=some (1,11,a):=by
 unfold cm;rw[if_pos d,b,yJ]
 obtain⟨k,c,rfl⟩:∃k:Nat,k<8/\a=((k+1:Nat):Int):=⟨(a-1).toNat,by omega,by omega⟩
 unfold O0;rw[show(((k+1:Nat):Int)-1).toNat=k by omega]
 have:∀j,j<8->(aW.toList.findIdx λ x=>x.toList==((aW[j]?).getD ⟨#[]⟩).data.toList)=j:=by
  simp only[ByteArray.toList_eq]
  decide
 rw[this k c]
theorem Pj{x:It}{us:List aj}(a:∀t:aS,t.kind=x.k->t.text=fA x.b->bM aN t=none/\bF t [40]=false/\cm t=some (us.length+1,op,arg))
 (hr:∀y∈t::us,Pg (iQ (qt y)) (jy y) (cR y)):PA (x::S3 [40]::(F8 false (fI (t::us))++[S3 [41]])) (bY op arg (di (t::us))):=by
 intro ts i n hA hn;simp only[nK,gJ,List.length_nil] at hn⊢;cases n with
 |zero=>omega
 |succ n=>
  obtain⟨u,e,v⟩:=X6 ts t us (i+1) n hr hA.tail (by omega)
  obtain⟨h1,h2,h3⟩:=a _ hA.head.1 hA.head.2;refine⟨u,?_,v⟩
  rw[dy,h1]
  simp only[h2,Bool.false_eq_true,if_false,h3]
  rw[e,La]
  congr 2;omega
theorem X8(h2:2<arg)(h:arg<=8)(hr:Pg (iQ (qt t)) (jy t) (cR t)):PA (qp 10 arg++(F8 true (fI [t])++[S3 [41]])) (bY 10 arg [cR t]):=by
 have e1:qp 10 arg=[S3 [114,111,111,116],S3 [40],⟨false,0,Lib.decDigits arg.toNat⟩,S3 [44]]:=by unfold qp;rw[if_pos rfl,if_neg (by omega)]
 have g:F8 true (fI [t])=jM (jy t):=by rw[fI,fI,F8,A0,List.append_nil];rfl
 rw[e1,g]
 intro ts i n hA hn;simp only[nK,gJ,List.length_nil,gH] at hn⊢;cases n with
 |zero=>omega
 |succ n=>
  have h1:=hA.tail;have h3:=h1.tail;have d:=h3.tail;have c:mT ts (i+1+1+1+1) (jM (jy t)++[S3 [41]]):=d.tail;have a:=c.right;rw[gH] at a;obtain⟨u,e,v⟩:=(hr.full (A7 _)).full (n:=n) c.left.jM (xz a (by decide)) (by omega)
  have hd:=abU h3 (by omega) true;refine⟨[(i+1+1,true)]++u,?_,(Gj h3 (λ _=>by omega) λ e=>by cases e).app v⟩
  have hs:∀b,bF (ar ts i) b=(([114,111,111,116]:List UInt8)==b):=λ b=>hA.lY b;have f:cm (ar ts i)=none:=by
   unfold cm;rw[if_neg (by rw[hA.head.1];decide),hs,hs,hs,hs,hs]
   rfl
  rw[dy,Rl hA (by decide)]
  simp only[hs,f]
  rw[if_neg (by decide),if_pos (by decide),Pe (by rw[h1.lY];rfl),tG,hd,tG,Pe (by rw[d.lY];rfl),tG,e,tG,Pe (by rw[a.lY];rfl),La]
  simp only[zP,List.nil_append,List.append_nil]
  rw[show((arg.toNat:Nat):Int)=arg by omega]
  congr 2;omega
theorem ab0:∀{t:aj},cY t->0<(jy t).length:=λ h=>by
 obtain⟨⟨x,r,e,-⟩,-⟩:=A1 _ h;rw[e]
 exact Nat.succ_pos _
theorem Yb(hn:bJ op arg s N D name kids.length=true)(hr:∀t∈kids,Pg (iQ (qt t)) (jy t) (cR t))(hp:0<(lF op arg s N D name (fI kids)).length):
 Pg (iQ op) (lF op arg s N D name (fI kids)) (cR (.node op arg s N D name kids)):=by
 obtain⟨d,ha⟩:=jZ hn;have l:=hn;have hS:∀(b:List UInt8)(t:aS),t.kind=3->t.text=fA b->∀c,bF t c=(b==c):=λ b t h1 h2 c=>by rw[jN ⟨h1,h2⟩];rfl
 have hw:∀(b:List UInt8)(k:Nat)(o a:Int),[112,105]≠b->[40]≠b->(∀t:aS,t.kind=3->(∀c,bF t c=(b==c))->cm t=some (k,o,a))->∀t:aS,t.kind=3->t.text=fA b->bM aN t=none/\bF t [40]=false/\cm t=some (k,o,a):=λ b k o a h1 h2 h3 t i p=>by
  have n:=hS b t i p;refine⟨?_,by rw[n];exact vy (Ne.symm h2),h3 t i n⟩
  unfold bM;rw[i,n,vy (Ne.symm h1)]
  rfl
 rcases CC d with rfl|rfl|rfl|⟨rfl,h1⟩|⟨g,h2⟩|⟨g,h2⟩|⟨rfl,h1⟩|g
 ·obtain⟨h3,i⟩:=qu hn rfl;obtain rfl:=jo hn (by decide) (by decide) (by decide)
  obtain rfl:kids=[]:=List.length_eq_zero_iff.1 (by have:iq 1=0:=rfl;omega)
  have p:name=⟨#[]⟩:=by
   unfold bJ at l;simp only[fv,if_true,oh] at l;exact ByteArray.ext (Array.eq_empty_of_size_eq_zero l.2.2)
  subst p;refine X5 (Gk λ t d h=> ?_) Nat.one_pos;unfold bM;rw[if_pos d,h,(uw h3 i).2,cR,di]
  rfl
 ·obtain rfl:=jo hn (by decide) (by decide) (by decide)
  obtain rfl:kids=[]:=List.length_eq_zero_iff.1 (by have:iq 2=0:=rfl;omega)
  refine X5 (Gk λ t d h=> ?_) Nat.one_pos;have d:t.kind=1:=d;have h:t.text=name:=h;unfold bM;rw[if_neg (by rw[d];decide),if_pos d,h,cR,di]
  rfl
 ·obtain rfl:=jo hn (by decide) (by decide) (by decide)
  obtain rfl:kids=[]:=List.length_eq_zero_iff.1 (by have:iq 3=0:=rfl;omega)
  refine X5 (Gk λ t d h=> ?_) Nat.one_pos;have d:t.kind=3:=d;unfold bM;rw[if_neg (by rw[d];decide),if_neg (by rw[d];decide),hS _ t d h,if_pos (by rfl),qv hn (by decide) (by decide),di]
 ·obtain rfl:=jo hn (by decide) (by decide) (by decide)
  obtain⟨t,rfl⟩:=List.length_eq_one_iff.1 h1;rw[qv hn (by decide) (by decide),di,di]
  refine afM (.inl rfl) ?_ hp;show PF (S3 [45]::pN 3 (kI (fI [t]) 0)) _;rw[xo (Nat.succ_pos _)]
  exact abX (hr t my).f
 ·obtain⟨t,q,rfl⟩:∃t q,kids=[t,q]:=by
   match kids,h2 with
   |[t,q],_=>exact⟨t,q,rfl⟩
  obtain rfl:arg=0:=jo hn (by omega) (by omega) (by omega)
  rw[qv hn (by omega) (by omega),di,di,di]
  have e1:lF op 0 s N D name (fI [t,q])=pN 1 (kI (fI [t,q]) 0)++(HA op::jM (pN 2 (kI (fI [t,q]) 1))):=by rcases g with rfl|rfl<;>rfl
  have j:iQ op=1:=if_pos g;rw[e1,j,xo (Nat.succ_pos _),xo (Nat.lt_succ_self 1)]
  exact alh (abV g (hr t my).s (hr q (rG _ my)).m)
 ·obtain⟨t,q,rfl⟩:∃t q,kids=[t,q]:=by
   match kids,h2 with
   |[t,q],_=>exact⟨t,q,rfl⟩
  obtain rfl:arg=0:=jo hn (by omega) (by omega) (by omega)
  rw[qv hn (by omega) (by omega),di,di,di]
  have e1:lF op 0 s N D name (fI [t,q])=pN 2 (kI (fI [t,q]) 0)++(HA op::jM (pN 3 (kI (fI [t,q]) 1))):=by rcases g with rfl|rfl<;>rfl
  have j:iQ op=2:=by rcases g with rfl|rfl<;>rfl
  rw[e1] at hp⊢;rw[j]
  rw[xo (Nat.succ_pos _),xo (Nat.lt_succ_self 1)] at hp⊢;exact ali (abW g (hr t my).m (hr q (rG _ my)).f) hp
 ·obtain⟨t,rfl⟩:=List.length_eq_one_iff.1 h1;have ha: -32<=arg/\arg<=32:=by unfold kT at ha;simpa using ha
  rw[qv hn (by decide) (by decide),di,di]
  refine afM (.inr rfl) ?_ hp;show PF (pN 5 (kI (fI [t]) 0)++(S3 [94]::Wl arg)) _;rw[xo (Nat.succ_pos _)]
  exact abY (hr t my).a ha.1 ha.2
 ·have j:iQ op=5:=by rcases g with rfl|rfl|rfl|rfl|rfl|rfl<;>rfl
  rw[j]
  refine X5 ?_ hp;rw[qv hn (by omega) (by omega)]
  have e1:lF op arg s N D name (fI kids)=qp op arg++(F8 (rK op arg) (fI kids)++[S3 [41]]):=by rcases g with rfl|rfl|rfl|rfl|rfl|rfl<;>rfl
  rw[e1]
  cases kids with
  |nil=>rcases g with rfl|rfl|rfl|rfl|rfl|rfl<;>cases d
  |cons t us=>
   have r:iq op=((us.length+1:Nat):Int):=d;have hx:∀(b:List UInt8)(k:Nat),k=us.length+1->[112,105]≠b->[40]≠b->(∀t:aS,t.kind=3->(∀c,bF t c=(b==c))->cm t=some (k,op,arg))->PA (S3 b::S3 [40]::(F8 false (fI (t::us))++[S3 [41]])) (bY op arg (di (t::us))):=λ b k e h1 h2 h3=>Pj (by
    subst e;exact hw b _ op arg h1 h2 h3) hr
   rcases g with rfl|rfl|rfl|rfl|rfl|rfl
   ·have ha:2<=arg/\arg<=8:=by unfold kT at ha;simpa using ha
    obtain rfl:us=[]:=List.length_eq_zero_iff.1 (by have:iq 10=1:=rfl;omega)
    by_cases h2:arg=2
    ·subst h2;exact hx [115,113,114,116] 1 rfl (by decide) (by decide) λ t h1 h2=>by unfold cm;rw[if_neg (by rw[h1];decide),h2,h2];rfl
    ·rw[show rK 10 arg=true by unfold rK;simp[h2],di,di]
     exact X8 (by omega) ha.2 (hr t my)
   ·have ha:1<=arg/\arg<=8:=by unfold kT at ha;simpa using ha
    obtain rfl:us=[]:=List.length_eq_zero_iff.1 (by have:iq 11=1:=rfl;omega)
    refine Pj (x:=⟨false,2,O0 arg⟩) (λ t d h=>⟨?_,?_,X7 ha.1 ha.2 d h⟩) hr
    ·have d:t.kind=2:=d;unfold bM bF;rw[d]
     rfl
    ·unfold bF;rw[d]
     rfl
   ·obtain rfl:=jo hn (by decide) (by decide) (by decide)
    exact hx [97,98,115] 1 (by have:iq 12=1:=rfl;omega) (by decide) (by decide) λ t h1 h2=>by unfold cm;rw[if_neg (by rw[h1];decide),h2];rfl
   ·obtain rfl:=jo hn (by decide) (by decide) (by decide)
    exact hx [109,105,110] 2 (by have:iq 13=2:=rfl;omega) (by decide) (by decide) λ t h1 h2=>by unfold cm;rw[if_neg (by rw[h1];decide),h2,h2,h2];rfl
   ·obtain rfl:=jo hn (by decide) (by decide) (by decide)
    exact hx [109,97,120] 2 (by have:iq 14=2:=rfl;omega) (by decide) (by decide) λ t h1 h2=>by unfold cm;rw[if_neg (by rw[h1];decide),h2,h2,h2,h2];rfl
   ·obtain rfl:=jo hn (by decide) (by decide) (by decide)
    exact hx [105,102] 3 (by have:iq 15=3:=rfl;omega) (by decide) (by decide) λ t h1 h2=>by unfold cm;rw[if_neg (by rw[h1];decide),h2,h2,h2,h2,h2];rfl
mutual
theorem Gn:∀(t:aj),cY t->Pg (iQ (qt t)) (jy t) (cR t)
 | .node op arg s N D name kids=>λ h=>by
   have hp:=ab0 h;rw[jy] at hp⊢;exact Yb h.1 (Ju kids h.2) hp
theorem Ju:∀(ts:List aj),qX ts->∀t∈ts,Pg (iQ (qt t)) (jy t) (cR t)
 |[],_,t,h=>absurd h nU
 |u::us,hw,t,h=>by
  rcases List.mem_cons.1 h with e|h
  ·rw[e];exact Gn u hw.1
  ·exact Ju us hw.2 t h
end
def sgI(s:Bool):It:=⟨true,3,if s=true then [62] else [62,61]⟩
def rX(t:aj)(s:Bool):List It:=jy t++[sgI s,⟨true,0,[48]⟩]
def xC(s:Bool)(N D:Nat):List It:=(if (s&&decide (0<N))=true then [S3 [45]] else [])++[⟨false,0,il false N D⟩]
def tI(i:im):List It:=if i.li=true then [⟨true,3,[40]⟩,S3 [45],S3 [105,110,102]] else⟨true,3,[91]⟩::xC i.s1 i.N1 i.D1
def mo(i:im):List It:=if i.hi=true then [⟨true,3,[105,110,102]⟩,S3 [41]] else jM (xC i.s2 i.N2 i.D2)++[S3 [93]]
def iD(x:aL):List It:=⟨true,1,x.name.data.toList⟩::⟨true,3,[105,110]⟩::(tI x.iv++S3 [44]::mo x.iv)
def jO:Nat->List aL->List It
 |_,[]=>[]
 |i,x::r=>(if i=0 then⟨true,3,[102,111,114]⟩ else S3 [44])::(iD x++jO (i+1) r)
def gj:Nat->List eE->List It
 |_,[]=>[]
 |i,x::r=>(if i=0 then⟨true,3,[119,104,101,114,101]⟩ else S3 [44])::(jM (rX x.t x.strict)++gj (i+1) r)
def MM(c:bS):List It:=rX c.goal c.strict++(jO 0 c.box++gj 0 c.conds)
theorem Gp(h:cY t)(s:Bool):Wr (rX t s) (vR t s):=by
 obtain⟨h1,h2⟩:=A1 t h;refine⟨h1.app _,?_⟩
 unfold rX vR;rw[eH,h2]
 cases s<;>rfl
theorem Yc(s:Bool)(N D:Nat):il s N D=(if (s&&decide (0<N))=true then [45] else [])++il false N D:=by
 unfold il;simp
theorem Pk(s:Bool)(N D:Nat):Wr (xC s N D) (il s N D):=by
 rw[Yc]
 unfold xC;by_cases h:(s&&decide (0<N))=true
 ·rw[if_pos h,if_pos h]
  exact⟨F7.cons _ _ _,by simp[cj,S3]⟩
 ·rw[if_neg h,if_neg h]
  exact⟨F7.cons _ _ _,by simp[cj]⟩
theorem Rm(x:aL):cj (iD x)=32::uY x:=by
 have h1:cj (tI x.iv)=32::F5 x.iv:=by
  unfold tI F5;split
  ·rfl
  ·show [32]++([91]++cj (xC x.iv.s1 x.iv.N1 x.iv.D1))=_;rw[(Pk _ _ _).2]
   rfl
 have h2:cj (mo x.iv)=32::zO x.iv:=by
  unfold mo zO;split
  ·rfl
  ·rw[eH,(Pk _ _ _).jM]
   rfl
 show [32]++(x.name.data.toList++([32]++([105,110]++cj (tI x.iv++S3 [44]::mo x.iv))))=_;rw[eH,h1]
 show [32]++(x.name.data.toList++([32]++([105,110]++(32::F5 x.iv++([]++([44]++cj (mo x.iv)))))))=_;rw[h2]
 unfold uY;simp
theorem Jv:∀(l:List aL)(i:Nat),cj (jO i l)=uK i l
 |[],_=>rfl
 |x::r,i=>by
  rw[jO,uK,cj,eH,Rm,Jv r (i+1)]
  split<;>simp[S3]
theorem Ey:∀(l:List eE)(i:Nat),(∀x∈l,cY x.t)->cj (gj i l)=kR i l
 |[],_,_=>rfl
 |x::r,i,h=>by
  rw[gj,kR,cj,eH,(Gp (h x my) _).jM,Ey r (i+1) λ y a=>h y (rG _ a)]
  split<;>simp[S3]
theorem MN{c:bS}(h1:cY c.goal)(h2:∀x∈c.conds,cY x.t):cj (MM c)=pq c:=by
 unfold MM pq;rw[eH,eH,(Gp h1 _).2,Jv,Ey _ _ h2]
theorem ab1(h:cY t)(s:Bool):oE (rX t s):=by
 refine lV _ _ (A3 t h) ?_ λ y q e=>by cases e;exact .inl rfl
 refine mf (.inr (.inr (.inr ⟨rfl,?_⟩))) (pA (yK (.inl ⟨by simp,by decide⟩) true)) λ y q e=>by cases e;exact .inl rfl
 cases s
 ·exact .inr rfl
 ·exact .inl rfl
theorem Uk(s:Bool)(N D:Nat):oE (xC s N D):=by
 have h:oE [(⟨false,0,il false N D⟩:It)]:=pA (yK (Jn rfl) false)
 unfold xC;split
 ·exact gG (CG 45 (by decide) false) h
 ·exact h
theorem A9{l:List UInt8}(h:l∈MH)(sp:Bool):Rj ⟨sp,3,l⟩:=Gc h
theorem Yd{x:aL}(h:bV x.name=true){r:List It}(hr:oE r):oE (iD x++r):=by
 have d:oE (mo x.iv++r):=by
  unfold mo;split
  ·exact mf (A9 (by decide) true) (gG (CG 41 (by decide) false) hr) λ y q e=>by cases e;exact rL rfl (by decide)
  ·rw[rU]
   exact lV _ _ (vS (Uk _ _ _)) (gG (CG 93 (by decide) false) hr) λ y q e=>by cases e;exact rL rfl (by decide)
 have c:oE (tI x.iv++S3 [44]::(mo x.iv++r)):=by
  have b:oE (S3 [44]::(mo x.iv++r)):=gG (CG 44 (by decide) false) d;have a:∀y q,S3 [44]::(mo x.iv++r)=y::q->AN y:=λ y q e=>by cases e;exact rL rfl (by decide)
  refine lV _ _ ?_ b a;unfold tI;split
  ·exact gG (CG 40 (by decide) true) (gG (CG 45 (by decide) false) (pA (Gc (by decide))))
  ·exact gG (CG 91 (by decide) true) (Uk _ _ _)
 have e:iD x++r=⟨true,1,x.name.data.toList⟩::⟨true,3,[105,110]⟩::(tI x.iv++S3 [44]::(mo x.iv++r)):=by
  unfold iD;simp
 rw[e]
 refine mf (.inr (.inr (.inl ⟨Ew h,Ev h⟩))) (mf (A9 (by decide) true) c λ y q e=> ?_) λ y q e=>by cases e;exact .inl rfl
 unfold tI at e;split at e<;>(cases e;exact .inl rfl)
theorem Pl:∀(l:List eE)(i:Nat),(∀x∈l,cY x.t)->oE (gj i l)/\∀y q,gj i l=y::q->AN y
 |[],_,_=>⟨trivial,λ y q e=>by cases e⟩
 |x::r,i,h=>by
  obtain⟨h1,h2⟩:=Pl r (i+1) λ y a=>h y (rG _ a)
  have h3:=lV _ _ (vS (ab1 (h x my) x.strict)) h1 h2;have b:∀y q,jM (rX x.t x.strict)++gj (i+1) r=y::q->AN y:=λ y q e=>by
   obtain⟨⟨c,d,e0,-⟩,-⟩:=Gp (h x my) x.strict;rw[e0] at e;cases e
   exact .inl rfl
  rw[gj]
  split
  ·exact⟨mf (A9 (by decide) true) h3 b,λ y q e=>by cases e;exact .inl rfl⟩
  ·exact⟨gG (CG 44 (by decide) false) h3,λ y q e=>by cases e;exact rL rfl (by decide)⟩
theorem Ul{k:List It}(a:oE k)(hs:∀y q,k=y::q->AN y):∀(l:List aL)(i:Nat),(∀x∈l,bV x.name=true)->oE (jO i l++k)/\∀y q,jO i l++k=y::q->AN y
 |[],_,_=>⟨a,hs⟩
 |x::r,i,h=>by
  obtain⟨h1,-⟩:=Ul a hs r (i+1) λ y b=>h y (rG _ b)
  have h3:=Yd (h x my) h1;rw[jO,List.cons_append,rU]
  split
  ·exact⟨mf (A9 (by decide) true) h3 λ y q e=>by cases e;exact .inl rfl,λ y q e=>by cases e;exact .inl rfl⟩
  ·exact⟨gG (CG 44 (by decide) false) h3,λ y q e=>by cases e;exact rL rfl (by decide)⟩
section
attribute [local irreducible] wpList
section
variable{n d:Nat}{l:Fm}{ops:Array Oper}{rest:List Oper}{Q:Exit->Act->World->Prop}{oi:Oper}{w:World}
end
def rB(L:List aL)(nm:ByteArray):Nat:=(L.takeWhile λ d=>fT d.name nm).length
def ac7(ts:List aS)(x:cp):im:=⟨oW ts x.lo&&decide (0<mm ts x.lo),mm ts x.lo,if Ha ts x.lo<=1 then 0 else Ha ts x.lo,oW ts x.hi&&decide (0<mm ts x.hi),mm ts x.hi,if Ha ts x.hi<=1 then 0 else Ha ts x.hi,x.lo.inf,x.hi.inf⟩
def nL(ts:List aS)(x:cp):aL:=⟨(ar ts x.name).text,ac7 ts x⟩
def KJ(L:List aL)(x:aL):List aL:=L.take (rB L x.name)++[x]++L.drop (rB L x.name)
def Rq(ts:List aS)(l:List cp):List aL:=l.foldl (λ L x=>KJ L (nL ts x)) []
def xE(x:cW):eE:=⟨kU x,nD x⟩
section
variable{n:Nat}{l:Fm}{ops:Array Oper}{Q:Exit->Act->World->Prop}{oi:Oper}{fuel:Nat}{listed:Array Bool}{w w0:World}{d L:Nat}{S:World->Prop}
end
def ac8(s:Bool)(N D:Nat):Prop:=aX N D=true/\rN N D=N/\cD N D=D/\(s&&decide (0<N))=s
def aaA(i:im):im:=⟨VI i&&decide (0<Qf i),Qf i,if Qg i<=1 then 0 else Qg i,YZ i&&decide (0<SB i),SB i,if SC i<=1 then 0 else SC i,i.li,i.hi⟩
end
end Go.Proofs.YtbapfnpbamnmpaaGreatDoor
