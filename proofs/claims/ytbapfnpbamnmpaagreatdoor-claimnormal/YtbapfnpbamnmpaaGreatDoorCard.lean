/- A part of the proof that the text which Print makes of a parsed text is a normal form -/
import Derived.Test.YtbapfnpbamnmpaaGreatDoorP00
import Derived.Test.YtbapfnpbamnmpaaGreatDoorP40
import Derived.Test.YtbapfnpbamnmpaaGreatDoorP21
import Derived.Test.YtbapfnpbamnmpaaGreatDoorP24
import Derived.WalkKit
import Derived.ProofKit
import Derived.OpenShut
import Derived.Carry
import Derived.ChangeMaps5
import Derived.Deep.DeepHandedRow
import Derived.JoinedCond
import Derived.Lib.LaidTab
import Derived.Test.YtbapfnpbamnmpaaGreatDoorRows
import Derived.Test.YtbapfnpbamnmpaaGreatDoorP08
import Derived.Test.YtbapfnpbamnmpaaGreatDoorP09
import Derived.Test.YtbapfnpbamnmpaaGreatDoorP18
import Derived.Test.YtbapfnpbamnmpaaGreatDoorP19
import Derived.Test.YtbapfnpbamnmpaaGreatDoorP20
set_option maxHeartbeats 8000000
set_option maxRecDepth 100000
namespace Go.Proofs.YtbapfnpbamnmpaaGreatDoor
open Go Go.RowKit Go.Dig Go.Deep Go.Eng Go.Proofs.Tryz
variable{c:bS}{l:List It}{j n:Nat}{q t:aj}{sp:Bool}{s:ByteArray}{W w:World}
structure MO(c:bS):Prop where
 goal:c.goal.ok=true
 conds:∀x∈c.conds,x.t.ok=true
 box:∀x∈c.box,bV x.name=true/\x.iv.fine=true/\x.iv.void=false
 b6:c.box.length<=6
 c12:c.conds.length<=12
 cov:og c.box (cZ c.goal)=true/\∀x∈c.conds,og c.box (cZ x.t)=true
theorem tJ(h:c.ok=true):MO c:=by
 unfold bS.ok at h;simp only[fv,oh,List.all_eq_true] at h;obtain⟨⟨⟨⟨h1,h2⟩,h3⟩,e⟩,d⟩:=h;have b:∀x∈c.conds,x.t.ok=true/\og c.box (cZ x.t)=true:=λ x hx=>by
  have:=d x hx;unfold jL at this;simpa using this
 refine⟨h3,λ x hx=>(b x hx).1,λ x hx=> ?_,(Eu h1).1,h2,e,λ x hx=>(b x hx).2⟩
 obtain⟨i,hi,rfl⟩:=List.mem_iff_getElem.1 hx;unfold iV at h1;simp only[fv,oh,List.all_eq_true,List.mem_range] at h1;have a:=h1.2 i hi;unfold fF at a;simp only[fv,List.getD_eq_getElem?_getD,nW hi,Option.getD_some,Bool.not_eq_true'] at a;exact⟨a.1.1.1,a.1.2,a.2⟩
section
variable{ts:List aS}{n:Nat}{c:bS}
theorem Gw{i:Nat}(h:(ar ts i).kind=4):tH (ar ts i)/\∀b,bF (ar ts i) b=false:=by
 have h2:∀b,bF (ar ts i) b=false:=λ b=>ab3 (by rw[h];decide)
 exact⟨⟨⟨h2 _,h2 _,h2 _⟩,h2 _,h2 _⟩,h2⟩
theorem EA{i:Nat}(h:mT ts i (⟨true,3,[119,104,101,114,101]⟩::l)):tH (ar ts i)/\∀b,bF (ar ts i) b=(([119,104,101,114,101]:List UInt8)==b):=by
 have h2:∀b,bF (ar ts i) b=(([119,104,101,114,101]:List UInt8)==b):=λ b=>by rw[jN h.head];rfl
 exact⟨⟨⟨(h2 _).trans rfl,(h2 _).trans rfl,(h2 _).trans rfl⟩,(h2 _).trans rfl,(h2 _).trans rfl⟩,h2⟩
theorem MP(h:MO c){en:Nat}(g:cW)(b:List cp)(hA:mT ts j (gj 0 c.conds))(a:j+(gj 0 c.conds).length=en)(he:(ar ts en).kind=4)(hn:10*en+50<=n):
 ∃cs u,uX aN ts n g b j=some (.ok ⟨g,b,cs⟩ (en+1) u)/\Al (λ r (x:eE)=>DW ts r x.t Lb x.strict) cs c.conds/\wF ts u:=by
 obtain⟨e1,l⟩:=Gw he;have f:uW ts g b [] en=some (.ok ⟨g,b,[]⟩ (en+1) []):=by unfold uW;rw[Un he,La]
 cases hc:c.conds with
 |nil=>
  rw[hc,gj] at a;obtain rfl:j=en:=a;refine⟨[],[],?_,trivial,wF.nil ts⟩
  unfold uX;rw[show bF (ar ts j) FX=false from l _,if_neg iZ,tG,f]
  rfl
 |cons x r=>
  rw[hc,gj] at hA a;have hA:mT ts j (⟨true,3,[119,104,101,114,101]⟩::(jM (rX x.t x.strict)++gj 1 r)):=hA;rw[vT r 1 (by decide)] at hA;simp only[nK,gJ,gH,vT r (0+1) (by decide)] at a;have k:=hA.tail;have hr:=k.right;rw[gH] at hr;have e:∀y∈x::r,cY y.t:=λ y d=>fc (h.conds y (hc▸d))
  have w:r.length+1<=12:=by have:=h.c12;rw[hc] at this;exact this
  have hp:∀y∈x::r,∀i,mT ts i (jM (rX y.t y.strict))->i+(jM (rX y.t y.strict)).length<=en->tH (ar ts (i+(jM (rX y.t y.strict)).length))->∃z u,rV aN ts n i=some (.ok z (i+(jM (rX y.t y.strict)).length) u)/\DW ts z y.t Lb y.strict/\wF ts u:=λ y d i a1 a2 a4=>by
   rw[gH] at a2 a4⊢;rw[Gr] at a1 a2 a4⊢;exact Um (e y d) Ba a1.jM a4 (by omega)
  have o:tH (ar ts (j+1+(jM (rX x.t x.strict)).length)):=by
   rw[gH]
   cases r with
   |nil=>
    have:j+1+(rX x.t x.strict).length=en:=by rw[mJ] at a;simp at a;omega
    rw[this];exact e1
   |cons z r=>rw[mJ] at hr;exact xz hr (by decide)
  obtain⟨y,u,f1,s,q⟩:=hp x my (j+1) k.left (by rw[gH];omega) o;rw[gH] at f1;obtain⟨ys,v,g1,g2,g3⟩:=Gt (p:=rV aN ts n) en ⟨e1,l _⟩ r [y] (j+1+(rX x.t x.strict).length) n (λ z m=>hp z (rG _ m)) hr (by omega) (by omega)
  refine⟨y::ys,u++v,?_,⟨s,g2⟩,q.app g3⟩
  unfold uX mI;rw[if_pos (show bF (ar ts j) FX=true by rw[jN hA.head];rfl),f1,tG,g1]
  simp only[zP]
  rw[tG]
  have f:uW ts g b ([y]++ys) en=some (.ok ⟨g,b,y::ys⟩ (en+1) []):=by unfold uW;rw[Un he,La];rfl
  rw[f]
  simp[zP]
theorem Rn(h:MO c){en:Nat}(g:cW)(hA:mT ts j (jO 0 c.box++gj 0 c.conds))(f:j+(jO 0 c.box++gj 0 c.conds).length=en)(he:(ar ts en).kind=4)(hn:10*en+50<=n):
 ∃b cs u,Ct aN ts n g j=some (.ok ⟨g,b,cs⟩ (en+1) u)/\Al (Gs ts) b c.box/\Al (λ r (x:eE)=>DW ts r x.t Lb x.strict) cs c.conds/\wF ts u:=by
 rw[gJ] at f;have hc:=hA.right;have hm:tH (ar ts (j+(jO 0 c.box).length))/\bF (ar ts (j+(jO 0 c.box).length)) [44]=false/\bF (ar ts (j+(jO 0 c.box).length)) T4=false:=by
  cases o:c.conds with
  |nil=>
   rw[o,gj] at f;have:j+(jO 0 c.box).length=en:=by simpa using f
   rw[this]
   obtain⟨e1,d⟩:=Gw he;exact⟨e1,d _,d _⟩
  |cons x r=>
   rw[o,gj] at hc;obtain⟨e1,d⟩:=EA (i:=j+(jO 0 c.box).length) hc;exact⟨e1,(d _).trans rfl,(d _).trans rfl⟩
 obtain⟨m,s,l⟩:=hm;have a:∀(b:List cp),∃cs u,uX aN ts n g b (j+(jO 0 c.box).length)=some (.ok ⟨g,b,cs⟩ (en+1) u)/\Al (λ r (x:eE)=>DW ts r x.t Lb x.strict) cs c.conds/\wF ts u:=λ b=>MP h g b hc (by omega) he hn;cases hb:c.box with
 |nil=>
  rw[hb,jO] at a l;obtain⟨cs,u,a1,a2,a3⟩:=a []
  refine⟨[],cs,u,?_,trivial,a2,a3⟩
  unfold Ct;rw[show bF (ar ts j) T4=false from l,if_neg iZ,tG]
  rw[show j+([]:List It).length=j from rfl] at a1;rw[a1]
  rfl
 |cons x r=>
  have H:r.length+1<=6:=by have:=h.b6;rw[hb] at this;exact this
  have e:(jO 0 c.box).length=1+(iD x).length+(mJ iD r).length:=by
   rw[hb,jO,yM r (0+1) (by decide)]
   simp only[nK,gJ]
   omega
  have q:mT ts j (⟨true,3,[102,111,114]⟩::(iD x++mJ iD r)):=by
   have:=hA.left;rw[hb,jO,yM r (0+1) (by decide)] at this;exact this
  have k:=q.tail;have hp:∀y∈x::r,∀i,mT ts i (iD y)->i+(iD y).length<=j+(jO 0 c.box).length->tH (ar ts (i+(iD y).length))->∃z u,lD ts i=some (.ok z (i+(iD y).length) u)/\Gs ts z y/\wF ts u:=λ y B i a1 _ _=>by
   obtain⟨-,G,F⟩:=h.box y (hb▸B)
   obtain⟨z,c1,c2⟩:=Yf G F a1;exact⟨z,[],c1,c2,wF.nil ts⟩
  have C:tH (ar ts (j+1+(iD x).length)):=by
   cases r with
   |nil=>
    have:j+1+(iD x).length=j+(jO 0 c.box).length:=by rw[e,mJ];simp;omega
    rw[this];exact m
   |cons z r=>have hr:=k.right;rw[mJ] at hr;exact xz hr (by decide)
  obtain⟨y,u,f1,E,D⟩:=hp x my (j+1) k.left (by rw[e];omega) C;obtain⟨ys,v,g1,g2,g3⟩:=Gt (p:=lD ts) (j+(jO 0 c.box).length) ⟨m,s⟩ r [y] (j+1+(iD x).length) n (λ z A=>hp z (rG _ A)) k.right (by rw[e];omega) (by omega)
  obtain⟨cs,w,a1,a2,a3⟩:=a (y::ys)
  refine⟨y::ys,cs,(u++v)++w,?_,⟨E,g2⟩,a2,(D.app g3).app a3⟩
  unfold Ct mI;rw[if_pos (show bF (ar ts j) T4=true by rw[jN q.head];rfl),f1,tG,g1]
  simp only[zP]
  rw[tG,show [y]++ys=y::ys from rfl,a1]
  rfl
def gI(t q:aj)(c:bS):List It:=pB t q c.strict++(jO 0 c.box++gj 0 c.conds)
theorem MQ(h:MO c)(f:cY t)(k:cY q)(hA:mT ts 0 (gI t q c))(he:(ar ts (gI t q c).length).kind=4)(hn:10*(gI t q c).length+50<=n):
 ∃d u,rH aN ts n=some (.ok d ((gI t q c).length+1) u)/\DW ts d.goal t q c.strict/\Al (Gs ts) d.box c.box/\Al (λ r (x:eE)=>DW ts r x.t Lb x.strict) d.conds c.conds/\wF ts u:=by
 have e:=hA;unfold gI at e;have hr:=e.right;have a:(gI t q c).length=(pB t q c.strict).length+(jO 0 c.box++gj 0 c.conds).length:=by unfold gI;rw[gJ]
 have j:tH (ar ts (0+(pB t q c.strict).length)):=by
  cases hb:c.box with
  |cons x r=>
   rw[hb,jO] at hr;have h2:∀b,bF (ar ts (0+(pB t q c.strict).length)) b=(([102,111,114]:List UInt8)==b):=λ b=>by rw[jN hr.left.head];rfl
   exact⟨⟨(h2 _).trans rfl,(h2 _).trans rfl,(h2 _).trans rfl⟩,(h2 _).trans rfl,(h2 _).trans rfl⟩
  |nil=>
   rw[hb,jO] at hr a;cases hc:c.conds with
   |cons x r=>rw[hc,gj] at hr;exact(EA (i:=0+(pB t q c.strict).length) hr).1
   |nil=>
    rw[hc,gj] at a;have:0+(pB t q c.strict).length=(gI t q c).length:=by rw[a];simp
    rw[this]
    exact(Gw he).1
 obtain⟨g,u,a1,a2,a3⟩:=Um (n:=n) f k e.left j (by omega)
 obtain⟨b,cs,v,o,m,b3,l⟩:=Rn h g hr (by rw[a];omega) he hn;refine⟨⟨g,b,cs⟩,u++v,?_,a2,m,b3,a3.app l⟩
 unfold rH;rw[a1,tG,o]
 rfl
end
def PX(V:List ByteArray)(l:List It):Prop:=∀x∈l,(x.k=0->iz (fA x.b)=0)/\(x.k=1->fA x.b∈V)
section
variable{V V':List ByteArray}{l r:List It}{x:It}
theorem PX.nil:PX V []:=λ _ h=>absurd h nU
theorem PX.cons(h:(x.k=0->iz (fA x.b)=0)/\(x.k=1->fA x.b∈V))(k:PX V l):PX V (x::l):=λ y a=>by
 rcases List.mem_cons.1 a with rfl|a
 ·exact h
 ·exact k y a
theorem PX.s3{b:List UInt8}(k:PX V l):PX V (⟨sp,3,b⟩::l):=PX.cons ⟨(λ h=>by cases h),(λ h=>by cases h)⟩ k
theorem PX.app(h:PX V l)(k:PX V r):PX V (l++r):=λ y a=>(List.mem_append.1 a).elim (h y) (k y)
theorem PX.jM(h:PX V l):PX V (jM l):=by
 cases l with
 |nil=>exact h
 |cons y q=>exact PX.cons (h y my) λ z a=>h z (rG _ a)
theorem PX.mono(h:PX V l)(k:∀y∈V,y∈V'):PX V' l:=λ x hx=>⟨(h x hx).1,λ e=>k _ ((h x hx).2 e)⟩
theorem PX.pl(h:PX V l)(k AM:Nat):PX V (pN k (AM,l)):=by
 unfold pN;split
 ·exact h
 ·exact PX.s3 (h.app (PX.s3 PX.nil))
theorem Uo{b:List UInt8}(h:iz (fA b)=0)(k:PX V l):PX V (⟨sp,0,b⟩::l):=PX.cons ⟨λ _=>h,(λ h=>by cases h)⟩ k
end
theorem CM(h:n<=1000):bn n=true:=by
 unfold bn;rw[gw]
 have:Nat.blt 1000 (2^2048)=true:=by kernel_rfl
 rw[Nat.blt_eq] at this;exact cU (Nat.lt_of_le_of_lt h this)
theorem MR{V:List ByteArray}(h:n<=1000)(k:PX V l):PX V (⟨sp,0,Lib.decDigits n⟩::l):=Uo (Pd (CM h)).1 k
theorem Z3{V:List ByteArray}:∀(ts:List aj),(∀t∈ts,PX V (jy t))->PX V (A0 (fI ts))
 |[],_=>PX.nil
 |t::ts,h=>by
  rw[fI,A0]
  exact PX.s3 ((h t my).jM.app (Z3 ts λ u a=>h u (rG _ a)))
theorem Pn{op arg:Int}{s:Bool}{N D:Nat}{name:ByteArray}{kids:List aj}{V:List ByteArray}(hn:bJ op arg s N D name kids.length=true)(h:∀t∈kids,PX V (jy t))(hv:op=2->name∈V):PX V (lF op arg s N D name (fI kids)):=by
 obtain⟨g,ha⟩:=jZ hn;have c:∀i(hi:i<kids.length) k,PX V (pN k (kI (fI kids) i)):=λ i hi k=>by
  rw[xo hi]
  exact(h _ (List.getElem_mem hi)).pl k _
 rcases CC g with rfl|rfl|rfl|⟨rfl,h1⟩|⟨d,h2⟩|⟨d,h2⟩|⟨rfl,h1⟩|d
 ·obtain⟨a,b⟩:=qu hn rfl;exact Uo (uw a b).1 PX.nil
 ·exact PX.cons ⟨(λ h=>by cases h),λ _=>hv rfl⟩ PX.nil
 ·exact PX.s3 PX.nil
 ·exact PX.s3 (c 0 (by omega) 3)
 ·have e1:lF op arg s N D name (fI kids)=pN 1 (kI (fI kids) 0)++(HA op::jM (pN 2 (kI (fI kids) 1))):=by rcases d with rfl|rfl<;>rfl
  rw[e1]
  exact(c 0 (by omega) 1).app (PX.s3 (c 1 (by omega) 2).jM)
 ·have e1:lF op arg s N D name (fI kids)=pN 2 (kI (fI kids) 0)++(HA op::jM (pN 3 (kI (fI kids) 1))):=by rcases d with rfl|rfl<;>rfl
  rw[e1]
  exact(c 0 (by omega) 2).app (PX.s3 (c 1 (by omega) 3).jM)
 ·have ha: -32<=arg/\arg<=32:=by unfold kT at ha;simpa using ha
  refine(c 0 (by omega) 5).app (PX.s3 ?_)
  unfold Wl;split
  ·exact PX.s3 (MR (by omega) PX.nil)
  ·exact MR (by omega) PX.nil
 ·have e1:lF op arg s N D name (fI kids)=qp op arg++(F8 (rK op arg) (fI kids)++[S3 [41]]):=by rcases d with rfl|rfl|rfl|rfl|rfl|rfl<;>rfl
  rw[e1]
  refine PX.app ?_ (PX.app ?_ (PX.s3 PX.nil))
  ·unfold qp;split
   ·rename_i e;subst e;have ha:2<=arg/\arg<=8:=by unfold kT at ha;simpa using ha
    split
    ·exact PX.s3 (PX.s3 PX.nil)
    ·exact PX.s3 (PX.s3 (MR (by omega) (PX.s3 PX.nil)))
   ·split
    ·exact PX.cons ⟨(λ h=>by cases h),(λ h=>by cases h)⟩ (PX.s3 PX.nil)
    ·split
     ·exact PX.s3 (PX.s3 PX.nil)
     ·split
      ·exact PX.s3 (PX.s3 PX.nil)
      ·split<;>exact PX.s3 (PX.s3 PX.nil)
  ·cases kids with
   |nil=>exact PX.nil
   |cons t ts=>
    rw[fI,F8]
    refine PX.app ?_ (Z3 ts λ u f=>h u (rG _ f))
    split
    ·exact(h t my).jM
    ·exact h t my
mutual
theorem Gx:∀(t:aj),cY t->PX (cZ t) (jy t)
 | .node op arg s N D name kids=>λ ⟨h1,h2⟩=>by
   rw[jy]
   by_cases e:op=2
   ·subst e;obtain rfl:kids=[]:=List.length_eq_zero_iff.1 (by have:=(jZ h1).1;have a:iq 2=0:=rfl;omega)
    exact Pn h1 (λ t h=>absurd h nU) λ _=>by rw[cZ,if_pos rfl];exact List.mem_singleton.2 rfl
   ·have hv:cZ (.node op arg s N D name kids)=mq kids:=by rw[cZ,if_neg e]
    rw[hv]
    exact Pn h1 (Jy kids h2) λ h=>absurd h e
theorem Jy:∀(ts:List aj),qX ts->∀t∈ts,PX (mq ts) (jy t)
 |[],_,t,h=>absurd h nU
 |u::us,hw,t,h=>by
  rw[mq]
  rcases List.mem_cons.1 h with e|h
  ·rw[e];exact(Gx u hw.1).mono λ y a=>List.mem_append_left _ a
  ·exact(Jy us hw.2 t h).mono λ y a=>List.mem_append_right _ a
end
theorem Po:∀(l:List It)(p j:Nat)(x:It),l[j]? =some x->∃q,(xw p l)[j]? =some ⟨x.k,fA x.b,q⟩
 |y::r,p,0,x,h=>by
  cases h
  exact⟨_,rfl⟩
 |y::r,p,j+1,x,h=>Po r _ j x h
theorem xD:∀(l:List It)(p:Nat),(xw p l).length=l.length
 |[],_=>rfl
 |x::r,p=>by rw[xw,nK,xD r,nK]
theorem Jz:∀(l:List It)(p:Nat)(t:aS),t∈xw p l->∃x∈l,t.kind=x.k/\t.text=fA x.b
 |x::r,p,t,h=>by
  rw[xw] at h;rcases List.mem_cons.1 h with rfl|h
  ·exact⟨x,my,rfl,rfl⟩
  ·obtain⟨y,a,b⟩:=Jz r _ t h;exact⟨y,rG _ a,b⟩
theorem Ro(h:MO c)(a:cY t)(b:cY q):aP true (fA (cj (gI t q c))) 0=(xw 0 (gI t q c),none):=by
 obtain⟨a1,a2⟩:=Pl c.conds 0 λ x hx=>fc (h.conds x hx)
 obtain⟨e,d⟩:=Ul a1 a2 c.box 0 λ x hx=>(h.box x hx).1;exact CE (gI t q c) [] (lV _ _ (Ye a b c.strict) e d)
theorem Up(h:aP true s 0=(xw 0 l,none)):mT (aJ s) 0 l/\(ar (aJ s) l.length).kind=4:=by
 unfold aJ ar;rw[h]
 refine⟨λ j x hx=> ?_,?_⟩
 ·obtain⟨q,a⟩:=Po _ 0 j x hx;have b:j<(xw 0 l).length:=(List.getElem?_eq_some_iff.1 a).1;unfold ar;rw[lp,List.getElem?_append_left b,a]
  exact⟨rfl,rfl⟩
 ·rw[List.getElem?_append_right (by rw[xD];exact aU _),xD,Nat.sub_self]
  rfl
def NZ(l:List It):Prop:=∀x∈l,x.k=0->iz (fA x.b)=0
theorem NZ.app{r:List It}(h:NZ l)(k:NZ r):NZ (l++r):=λ y a=>(List.mem_append.1 a).elim (h y) (k y)
theorem NZ.s9{x:It}(hx:x.k≠0)(k:NZ l):NZ (x::l):=λ y hy=>by
 rcases List.mem_cons.1 hy with rfl|hy
 ·exact λ h=>absurd h hx
 ·exact k y hy
theorem NZ.jM(h:NZ l):NZ (jM l):=by
 cases l with
 |nil=>exact h
 |cons y q=>
  intro z a;rcases List.mem_cons.1 a with rfl|a
  ·exact h y my
  ·exact h z (rG _ a)
theorem NZ.nil:NZ []:=λ _ h=>absurd h nU
theorem Uq{s:Bool}{N D:Nat}(h:aX N D=true):NZ (xC s N D):=by
 have h1:NZ [(⟨false,0,il false N D⟩:It)]:=λ x hx=>by
  obtain rfl:=List.mem_singleton.1 hx;exact λ _=>(uw (s:=false) rfl h).1
 unfold xC;split
 ·exact NZ.s9 (by decide) h1
 ·exact h1
theorem Yg{x:aL}(h:x.iv.fine=true):NZ (iD x):=by
 unfold im.fine at h;simp only[fv] at h;refine NZ.s9 Nat.one_ne_zero (NZ.s9 (by decide) (NZ.app ?_ (NZ.s9 (by decide) ?_)))
 ·unfold tI;split
  ·exact NZ.s9 (by decide) (NZ.s9 (by decide) (NZ.s9 (by decide) NZ.nil))
  ·exact NZ.s9 (by decide) (Uq h.1)
 ·unfold mo;split
  ·exact NZ.s9 (by decide) (NZ.s9 (by decide) NZ.nil)
  ·exact(Uq h.2).jM.app (NZ.s9 (by decide) NZ.nil)
theorem Gy(h:cY t)(b:cY q)(st:Bool):PX (cZ t++cZ q) (pB t q st):=
 ((Gx t h).mono λ _ a=>List.mem_append_left _ a).app (PX.s3 ((Gx q b).mono λ _ a=>List.mem_append_right _ a).jM)
theorem Ur(h:MO c)(b:cY t)(d:cY q):NZ (gI t q c):=by
 refine NZ.app (λ x hx=>(Gy b d _ x hx).1) (NZ.app ?_ ?_)
 ·have:∀(l:List aL)(i:Nat),(∀x∈l,x.iv.fine=true)->NZ (jO i l):=λ l=>by
   induction l with
   |nil=>exact λ _ _=>NZ.nil
   |cons x r ih=>
    intro i hf;rw[jO]
    exact NZ.s9 (by split<;>decide) ((Yg (hf x my)).app (ih (i+1) λ y a=>hf y (rG _ a)))
  exact this c.box 0 λ x hx=>(h.box x hx).2.1
 ·have:∀(l:List eE)(i:Nat),(∀x∈l,cY x.t)->NZ (gj i l):=λ l=>by
   induction l with
   |nil=>exact λ _ _=>NZ.nil
   |cons x r ih=>
    intro i hf;rw[gj]
    have hx:NZ (rX x.t x.strict):=λ y a=>by
     rw[Gr] at a;exact(Gy (hf x my) Ba _ y a).1
    exact NZ.s9 (by split<;>decide) (hx.jM.app (ih (i+1) λ y a=>hf y (rG _ a)))
  exact this c.conds 0 λ x hx=>fc (h.conds x hx)
theorem Yh{t:ByteArray}(h:iz t=0):zC t=false:=by
 cases a:zC t with
 |false=>rfl
 |true=>
  exfalso;unfold zC kE at a;simp only[fv,oh] at a;unfold iz at h;split at h
  ·cases h
  ·split at h
   ·cases h
   ·rename_i b;apply b;unfold sQ;rw[if_neg (by omega),if_neg (by omega)]
    exact a.2
theorem Yi(h:aP true s 0=(xw 0 l,none))(c:NZ l):gP (aJ s)=none:=by
 have key:∀t∈aJ s,t.kind=0->iz t.text=0:=λ t a b=>by
  unfold aJ at a;rw[h] at a;rcases List.mem_append.1 a with a|a
  ·obtain⟨x,hx,e1,d⟩:=Jz _ _ _ a;rw[d]
   exact c x hx (e1.symm.trans b)
  ·obtain rfl:=List.mem_singleton.1 a;cases b
 unfold gP;rw[List.find?_eq_none.2 λ t a=>by
  unfold yu;by_cases b:t.kind=0
  ·rw[Yh (key t a b)];simp
  ·rw[gy b];simp,List.find?_eq_none.2 λ t a=>by
  unfold fY;by_cases b:t.kind=0
  ·simp[key t a b]
  ·rw[gy b];simp]
theorem Rp{ts:List aS}{u:List (Nat×Bool)}(h:wF ts u):mj ts (gi u false) (gi u true)=none:=by
 have key:∀(b:Bool)(lo hi:Nat),(∀m,(b=true->2<=m/\m<=8)->(b=false->m<=32)->lo<=m/\m<=hi)->∀k∈gi u b,xR lo hi (ar ts k)=true:=λ b lo hi hm k a=>by
  obtain⟨m,-,e,h1,h2⟩:=h _ (rk.1 a)
  have e:(ar ts k).text=fA (Lib.decDigits m):=e;obtain⟨a1,a2⟩:=hm m h1 h2;unfold xR;rw[e,xy,A4,cU a1,cU a2]
  rfl
 unfold mj;rw[qw _ _ (key false 0 32 λ m _ h2=>⟨eo _,h2 rfl⟩),qw _ _ (key true 2 8 λ m h1 _=>h1 rfl)]
 rfl
def rm(c:bS):bS:=⟨cR c.goal,c.strict,c.box.map λ x=>⟨x.name,hO x.iv⟩,c.conds.map λ x=>⟨cR x.t,x.strict⟩⟩
section
variable{ts:List aS}
theorem Z4:To (cR Lb)=true:=by
 rw[ab2]
 show(decide ((1:Int)=1)&&aX 0 0&&decide (rN 0 0=0))=true;rw[jk]
 decide
theorem Pq{r:cW}{st:Bool}(h:DW ts r t q st):kU r=sO (cR t) (cR q)/\nD r=st:=by
 refine⟨?_,?_⟩
 ·unfold kU;rw[h.op,if_neg,h.e0,h.e1]
  cases st
  ·rw[if_neg iZ,py (c:=62) rfl];decide
  ·rw[if_pos rfl,py (c:=62) rfl];decide
 ·unfold nD;rw[h.op,eI]
  cases st<;>rfl
theorem Z5{r:cW}{st:Bool}(h:DW ts r t Lb st):kU r=cR t:=(Pq h).1.trans (if_pos Z4)
theorem MS{α β γ:Type}{Q:α->β->Prop}{f:α->γ}{g:β->γ}(h:∀y x,Q y x->f y=g x):∀(ys:List α)(r:List β),Al Q ys r->ys.map f=r.map g
 |[],[],_=>rfl
 |y::ys,x::r,⟨h1,h2⟩=>by rw[List.map_cons,List.map_cons,h y x h1,MS h ys r h2]
theorem Gz{α β:Type}{Q:α->β->Prop}:∀(ys:List α)(r:List β),Al Q ys r->∀y∈ys,∃x∈r,Q y x
 |z::ys,x::r,⟨h1,h2⟩,y,c=>by
  rcases List.mem_cons.1 c with rfl|c
  ·exact⟨x,my,h1⟩
  ·obtain⟨w,a,b⟩:=Gz ys r h2 y c;exact⟨w,rG _ a,b⟩
theorem afR{y:cp}{x:aL}(h:Gs ts y x)(hf:x.iv.fine=true)(hv:x.iv.void=false):dR ts y=⟨x.name,hO x.iv⟩/\(ia ts y).void=false:=by
 have h1:(ia ts y).void=false:=by rw[h.iv,(Ei hf).1,hv]
 refine⟨?_,h1⟩
 unfold dR;rw[MT h1,h.nm.2,h.iv]
theorem Us{L:List aL}:∀(n i:Nat),(∀k,i<=k->k<i+n->DO ts L k=false)->AG ts L n i=none
 |0,_,_=>rfl
 |n+1,i,h=>by
  rw[AG,h i (aU _) (by omega),if_neg iZ]
  exact Us n (i+1) λ k h1 h2=>h k (by omega) (by omega)
theorem Pr{l:List cp}(h:∀k(a:k<l.length),pZ ts l k l[k]=false):∀n k,lR ts l n k=none
 |0,_=>rfl
 |n+1,k=>by
  rw[lR]
  by_cases a:k<l.length
  ·rw[nW a]
   show(if pZ ts l k l[k]=true then some l[k] else lR ts l n (k+1))=none;rw[h k a,if_neg iZ]
   exact Pr h n (k+1)
  ·rw[List.getElem?_eq_none (by omega)]
theorem Ps{L:List aL}:∀(GA:List cW),(∀x∈GA,∀k,x.f0<=k->k<x.t1->DO ts L k=false)->nZ ts L GA=none
 |[],_=>rfl
 |x::r,h=>by
  rw[nZ,Us _ _ λ k h1 h2=>h x my k h1 (by omega)]
  exact Ps r λ y a=>h y (rG _ a)
end
theorem MU{α β:Type}{Q:α->β->Prop}:∀(ys:List α)(r:List β),Al Q ys r->ys.length=r.length
 |[],[],_=>rfl
 |y::ys,x::r,⟨_,h⟩=>by rw[nK,nK,MU ys r h]
theorem printed(B:c.ok=true)(A:cY t)(f:cY q)(W:sO (cR t) (cR q)=cR c.goal)(F:∀y∈cZ t++cZ q,y∈cZ c.goal)(S:s=fA (cj (gI t q c)))(hs:s.size<=4000):
 ∃d j u,(aP true s 0).2=none/\rH aN (aJ s) 49000=some (.ok d j u)/\gP (aJ s)=none/\mj (aJ s) (gi u false) (gi u true)=none/\
  ((d.goal::d.conds).all λ x=>(kU x).ok)=true/\lR (aJ s) d.box d.box.length 0=none/\d.conds[12]? =none/\nZ (aJ s) (d.box.map (dR (aJ s))) (d.goal::d.conds)=none/\
  kU d.goal=cR c.goal/\nD d.goal=c.strict/\d.box.map (dR (aJ s))=(rm c).box/\d.conds.map xE=(rm c).conds:=by
 have h:=tJ B;have M:=Bb hs;have o:=Ro h A f;rw[<-S] at o;obtain⟨hA,he⟩:=Up o;have L:(gI t q c).length<=4000:=by rw[o,xD] at M;exact M
 have H:=Yi o (Ur h A f)
 generalize wO:aJ s=ts at*;obtain⟨d,u,h1,h2,h3,D,X⟩:=MQ (n:=49000) h A f hA he (by omega)
 have N:kU d.goal=cR c.goal:=(Pq h2).1.trans W;have K:∀y x,x∈c.box->Gs ts y x->dR ts y=⟨x.name,hO x.iv⟩/\(ia ts y).void=false:=λ y x hx f=>afR f (h.box x hx).2.1 (h.box x hx).2.2;have C:d.box.map (dR ts)=(rm c).box:=by
  refine MS (Q:=λ y x=>Gs ts y x/\x∈c.box) (λ y x f=>(K y x f.2 f.1).1) _ _ ?_;have:∀(ys:List cp)(r:List aL),(∀x∈r,x∈c.box)->Al (Gs ts) ys r->Al (λ y x=>Gs ts y x/\x∈c.box) ys r:=λ ys=>by
   induction ys with
   |nil=>intro r _ f;cases r with
    |nil=>trivial
    |cons x r=>exact f.elim
   |cons y ys ih=>intro r hr f;cases r with
    |nil=>exact f.elim
    |cons x r=>exact⟨⟨f.1,hr x my⟩,ih r (λ z g=>hr z (rG _ g)) f.2⟩
  exact this _ _ (λ x hx=>hx) h3
 have O:d.box.length=c.box.length:=MU _ _ h3;have T:∀k(i:k<d.box.length),(ar ts d.box[k].name).text=(c.box[k]'(O▸i)).name:=λ k i=>by
  have w:(d.box.map (dR ts))[k]? =(rm c).box[k]? :=by rw[C]
  unfold rm at w;rw[List.getElem?_map,List.getElem?_map,nW i,nW (O▸i)] at w;exact congrArg aL.name (iG w)
 refine⟨d,_,u,by rw[o],h1,H,Rp X,?_,Pr (λ k i=> ?_) _ _,?_,Ps _ λ x hx k w h7=> ?_,N,(Pq h2).2,C,?_⟩
 ·rw[List.all_eq_true]
  intro x hx;rcases List.mem_cons.1 hx with rfl|hx
  ·rw[N];exact TD h.goal
  ·obtain⟨y,a,b⟩:=Gz _ _ D x hx;rw[Z5 b];exact TD (h.conds y a)
 ·obtain⟨x,a,b⟩:=Gz _ _ h3 _ (List.getElem_mem i)
  unfold pZ;rw[(K _ x a b).2,gy (by have:=h.b6;omega:¬k=6),gy]
  ·rfl
  rw[uy]
  rintro⟨y,l,e⟩
  rw[C] at l;obtain⟨j,V,rfl⟩:=List.mem_iff_getElem.1 l;rw[List.length_take] at V;have J:j<k:=by omega
  have v:j<c.box.length:=by omega
  rw[List.getElem_take] at e;have U:((rm c).box[j]'(by unfold rm;rw[List.length_map];exact v)).name=c.box[j].name:=by
   unfold rm;simp only[List.getElem_map]
  rw[U,T k i] at e;have hb:iV c.box=true:=by
   unfold bS.ok at B;simp only[fv] at B;exact B.1.1.1.1
  have hp:=(tW.1 hb).2.2;have I:=List.pairwise_iff_getElem.1 hp j k v (by omega) J;unfold D6 at I;rw[e] at I;have P:fT c.box[k].name c.box[k].name=true:=I;rw[uz] at P;exact List.lt_irrefl _ P
 ·rw[List.getElem?_eq_none]
  rw[MU _ _ D]
  exact h.c12
 ·have hv:∃a b st,DW ts x a b st/\cY a/\cY b/\∀y∈cZ a++cZ b,0<=cH c.box 0 y:=by
   have cov:∀{vs:List ByteArray},og c.box vs=true->∀y∈vs,0<=cH c.box 0 y:=λ h y l=>by
    unfold og at h;rw[List.all_eq_true] at h;exact kC (h y l)
   rcases List.mem_cons.1 hx with rfl|hx
   ·exact⟨_,_,_,h2,A,f,λ y l=>cov h.cov.1 y (F y l)⟩
   ·obtain⟨y,a,b⟩:=Gz _ _ D x hx;exact⟨_,_,_,b,fc (h.conds y a),Ba,λ z g=>cov (h.cov.2 y a) z (by
     rcases List.mem_append.1 g with g|g
     ·exact g
     ·unfold Lb at g;rw[cZ,if_neg (by decide),mq] at g;exact absurd g nU)⟩
  obtain⟨ta,tb,st,hr,hw,E,hc⟩:=hv;obtain⟨m,rfl⟩:=Nat.exists_eq_add_of_le w;have hm:m<(pB ta tb st).length:=by have:=hr.en;omega
  obtain⟨e1,Z⟩:=hr.at' m _ (nW hm)
  have G:=(Gy hw E st _ (List.getElem_mem hm)).2;unfold DO;by_cases i:(ar ts (x.f0+m)).kind=1
  ·rw[e1] at i;have R:=hc _ (G i)
   rw[uy] at R;obtain⟨z,g,Y⟩:=R;rw[C,Z,gy (p:=cH _ _ _<0),Bool.and_false]
   rw[Int.not_lt,uy]
   exact⟨⟨z.name,hO z.iv⟩,by unfold rm;exact List.mem_map.2 ⟨z,g,rfl⟩,Y⟩
  ·rw[gy i,Bool.false_and]
 ·refine MS (λ y x f=> ?_) _ _ D;unfold xE;rw[Z5 f,(Pq f).2]
def JA(s:ByteArray)(o:Option bS):Prop:=∀W,cL W->sF W->6<=W.heap.size->Calls prog 11 #[.string s] W λ e W'=>aa W W'/\match o with
 |none=>∃a k:Nat,k≠0/\e= .returned (.tuple #[.agg (cT none 0 0),.int .i64 (a:Int),.int .i64 (k:Int)])
 |some c=>∃V F,e= .returned (.tuple #[.agg V,.int .i64 0,.int .i64 0])/\dY 31 V/\Sk W' F (.agg V) c
theorem Ut{l:List aL}(h:l.Pairwise D6):l.Pairwise λ x y=>wW y x=false:=h.imp λ {x y} h=>by
 cases e:wW y x with
 |false=>rfl
 |true=>
  exfalso;have h1:fT x.name y.name=true:=h;have h2:fT y.name x.name=true:=e;rw[uz] at h1 h2;exact List.lt_irrefl _ (List.lt_trans h1 h2)
theorem Pt{d:ig}{u:List (Nat×Bool)}(hs:s.size<=4000)(h1:(aP true s 0).2=none)(h2:rH aN (aJ s) 49000=some (.ok d j u))(h3:gP (aJ s)=none)(p:mj (aJ s) (gi u false) (gi u true)=none)
 (l:((d.goal::d.conds).all λ x=>(kU x).ok)=true)(i:lR (aJ s) d.box d.box.length 0=none)(g:d.conds[12]? =none)(f:nZ (aJ s) (d.box.map (dR (aJ s))) (d.goal::d.conds)=none):
 JA s (some ⟨kU d.goal,nD d.goal,Rq (aJ s) d.box,d.conds.map xE⟩):=by
 intro W o hR b;have hd:=GC h2;refine(qV s o hR b (n:=49000) (r:=.ok d j u) (by decide) (λ _ _=>h2) λ _ _ w j' v e=>by cases e;exact JB hs hd (by decide)).mono ?_;rintro e W' ⟨k,h⟩
 refine⟨k,?_⟩
 unfold sU at h;rw[if_neg (by omega)] at h;simp only[h1,h3,p] at h;unfold nG at h;rw[Uu hd,l] at h;simp only[Bool.true_eq_false,if_false,i,g,f] at h;obtain⟨V,F,y,rfl,m,hp,a,c,-⟩:=h;obtain⟨-,e1,-,t,q,-⟩:=CN hd l i g f hp a;subst e1;rw[t,q] at c;exact⟨V,F,rfl,m,c.sub (dP _ _)⟩
theorem EB(a:c.ok=true)(k:cY t)(m:cY q)(n:sO (cR t) (cR q)=cR c.goal)(b:∀y∈cZ t++cZ q,y∈cZ c.goal)(l:s=fA (cj (gI t q c)))(hs:s.size<=4000):JA s (some (rm c)):=by
 obtain⟨d,j,u,h1,h2,h3,o,i,g,f,e,e1,w,v,r⟩:=printed a k m n b l hs;have h:=Pt hs h1 h2 h3 o i g f e;have hb:iV c.box=true:=by
  unfold bS.ok at a;simp only[fv] at a;exact a.1.1.1.1
 have hp:(rm c).box.Pairwise D6:=by
  unfold rm;rw[List.pairwise_map]
  exact(tW.1 hb).2.2
 obtain⟨-,p,-⟩:=CN (GC h2) i g f e (L':=(rm c).box) (by rw[v]) (Ut hp)
 rw[e1,w,r,<-p] at h;exact h
theorem JC(h:MO c):cj (gI c.goal Lb c)=pq c:=by
 rw[<-MN (fc h.goal) λ x hx=>fc (h.conds x hx)]
 unfold gI MM;rw[Gr]
theorem MV(b:c.ok=true)(hs:(pq c).length<=4000):JA (fA (pq c)) (some (rm c)):=by
 have h:=tJ b;refine EB b (fc h.goal) Ba (if_pos Z4) (λ y a=> ?_) (by rw[JC h]) (by rw[eI];exact hs)
 rcases List.mem_append.1 a with a|a
 ·exact a
 ·unfold Lb at a;rw[cZ,if_neg (by decide),mq] at a;exact absurd a nU
theorem Uv(s:ByteArray):JA s none∨∃c,c.ok=true/\rm c=c/\JA s (some c):=by
 by_cases hs:4000<s.size
 ·left;intro W l hR m;refine(qV s l hR m (n:=0) (r:=.bad 0) (by decide) (λ h=>by omega) (λ h=>by omega)).mono ?_;rintro e w' ⟨k,h⟩
  unfold sU at h;rw[if_pos hs] at h;exact⟨k,0,4,by decide,h⟩
 have q:s.size<=4000:=by omega
 obtain⟨r,hr⟩:=reads q;have A:∀d j u,r= .ok d j u->DrP (aJ s) 49000 d j u:=λ d j u e=>GC (by rw[<-e];exact hr)
 have f:=λ (W:World) (l:cL W) (hR:sF W) (m:6<=W.heap.size)=>qV s l hR m (n:=49000) (r:=r) (by decide) (λ _ _=>hr) λ _ _ d j u e=>JB q (A d j u e) (by decide)
 unfold sU at f;simp only[if_neg hs] at f;have bad:∀(a k:Nat),k≠0->(∀W,cL W->sF W->6<=W.heap.size->Calls prog 11 #[.string s] W λ e W'=>aa W W'/\e= .returned (.tuple #[.agg (cT none 0 0),.int .i64 (a:Int),.int .i64 (k:Int)]))->JA s none∨∃c,c.ok=true/\rm c=c/\JA s (some c):=λ a k E h=>
  .inl λ W l hR m=>(h W l hR m).mono λ e W' ⟨C,B⟩=>⟨C,a,k,E,B⟩
 cases hsc:(aP true s 0).2 with
 |some j=>
  simp only[hsc] at f;exact bad j 3 (by decide) f
 |none=>
 simp only[hsc] at f;cases r with
 |bad j=>exact bad _ 3 (by decide) f
 |ok d j u=>
  have hd:=A d j u rfl;dsimp only at f;cases hn:gP (aJ s) with
  |some H=>
   simp only[hn] at f;exact bad _ _ (by
    unfold gP at hn;split at hn
    ·cases hn;exact Nat.succ_ne_zero 9
    ·split at hn
     ·cases hn;exact Nat.one_ne_zero
     ·cases hn) f
  |none=>
   simp only[hn] at f;cases ha:mj (aJ s) (gi u false) (gi u true) with
   |some H=>
    simp only[ha] at f;exact bad _ _ (by
     unfold mj at ha;split at ha
     ·cases ha
     ·cases ha;exact Nat.succ_ne_zero 1) f
   |none=>
    simp only[ha] at f;have F:=Uu hd;unfold nG at f;rw[F] at f;cases hA:(d.goal::d.conds).all λ x=>(kU x).ok with
    |false=>
     simp only[hA,if_true] at f;exact bad 0 4 (by decide) f
    |true=>
     simp only[hA,Bool.true_eq_false,if_false] at f;cases hb:lR (aJ s) d.box d.box.length 0 with
     |some x=>
      simp only[hb] at f;exact bad _ 50 (by decide) f
     |none=>
      simp only[hb] at f;cases o:d.conds[12]? with
      |some x=>
       simp only[o] at f;exact bad _ 4 (by decide) f
      |none=>
       simp only[o] at f;cases p:nZ (aJ s) (d.box.map (dR (aJ s))) (d.goal::d.conds) with
       |some i=>
        simp only[p] at f;exact bad _ 51 (by decide) f
       |none=>
        have t:=zR (aJ s) d.box;have G:d.box.map (dR (aJ s))=d.box.map (nL (aJ s)):=List.map_congr_left λ x hx=>EC ((uA hb).2.1 x hx)
        obtain⟨g1,-,-,-,-,-⟩:=CN hd hA hb o p (L':=Rq (aJ s) d.box) (by rw[G];exact t.2) t.1;refine .inr ⟨_,g1,?_,Pt q hsc hr hn ha hA hb o p⟩
        have g:∀x∈d.goal::d.conds,cR (kU x)=kU x:=λ x hx=>by
         obtain⟨w,v⟩:=GD (hd.rel x hx)
         refine MW ?_;have z:∀a b,PT a->PT b->PT (sO a b):=λ a b ha hb=>by
          unfold sO;split
          ·exact ha
          ·exact PT.node2 (by decide) ha hb
         unfold kU;split
         ·exact z _ _ v w
         ·exact z _ _ w v
        unfold rm;dsimp only;rw[g _ my]
        congr 1
        ·refine(List.map_congr_left λ x hx=> ?_).trans (List.map_id _)
         obtain⟨y,D,rfl⟩:=List.mem_map.1 (t.2.mem_iff.1 hx)
         have hv:=(uA hb).2.1 y D;unfold nL;dsimp only;rw[MX,MT hv]
         rfl
        ·rw[List.map_map]
         refine List.map_congr_left λ x hx=> ?_;show eE.mk (cR (kU x)) (nD x)=_;rw[g x (rG _ hx)]
         rfl
def Sy:aj:=.node 2 0 false 0 0 ⟨#[120]⟩ []
def yN:aj:=.node 1 0 false 1 0 ⟨#[]⟩ []
def MY:im:=⟨false,0,0,false,2,0,false,false⟩
def qx:bS:=⟨bY 6 0 [Sy,yN],true,[⟨⟨#[120]⟩,MY⟩],[]⟩
def Uw:ByteArray:=⟨#[120,32,62,32,49,32,102,111,114,32,120,32,105,110,32,91,48,44,32,50,93]⟩
theorem Ux(h1:rN n 0=n)(h2:rD n 0=1)(h:n<10):il false n 0=[UInt8.ofNat (48+n)]:=by
 unfold il;rw[h1,h2,Lib.decDigits,dif_pos h]
 rfl
theorem nX0:il false 0 0=[48]:=Ez
theorem nX1:il false 1 0=[49]:=Ux (by decide) (by decide) (by decide)
theorem nX2:il false 2 0=[50]:=Ux (by decide) (by decide) (by decide)
theorem Uy:aX 2 0=true:=by
 have h1:rN 2 0=2:=by decide
 have h2:rD 2 0=1:=by decide
 have h3:=wT;have c:=CM (n:=2) (by decide)
 have b:(0:Nat)<iy 2 8192:=jt _;have a:(2:Nat)<iy 2 8192:=jf (show 2<iy 2 2 by rw[gw];decide) (mB 2 8192 (by decide))
 unfold aX;rw[h1,h2,h3,c,cU b,cU a]
 rfl
theorem Uz:bV ⟨#[120]⟩=true:=by
 have h1:cg ji (fA [120])=false:=by
  rw[sJ,Gb]
  unfold DL;rw[yJ]
  decide
 have h2:bV (fA [120])=(decide ((fA [120]).size<=8)&&AA (fA [120])&& !cg ji (fA [120])):=rfl;rw[h1] at h2;exact h2.trans (by decide)
theorem GF:qx.ok=true:=by
 have h1:bJ 2 0 false 0 0 ⟨#[120]⟩ 0=true:=by
  unfold bJ;rw[if_neg (by decide),if_pos rfl,Uz]
  decide
 have h2:bJ 1 0 false 1 0 ⟨#[]⟩ 0=true:=by
  unfold bJ;rw[if_pos rfl,IU]
  decide
 have a:(bY 6 0 [Sy,yN]).ok=true:=by
  unfold aj.ok bY Sy yN;have b:bJ 6 0 false 0 0 ⟨#[]⟩ 2=true:=by decide
  simp only[mX,ik,nK,List.length_nil,lp,Nat.reduceAdd,h1,h2,b]
  decide
 have hb:iV [⟨⟨#[120]⟩,MY⟩]=true:=by
  refine tW.2 ⟨by decide,λ x hx=> ?_,List.pairwise_singleton _ _⟩
  obtain rfl:=List.mem_singleton.1 hx;refine⟨Uz,?_,?_⟩
  ·show(aX 0 0&&aX 2 0)=true;rw[jk,Uy]
   rfl
  ·unfold im.void MY;decide
 have hc:og [⟨⟨#[120]⟩,MY⟩] (cZ (bY 6 0 [Sy,yN]))=true:=by
  unfold bY Sy yN;simp[cZ,mq,og,cH]
 unfold bS.ok qx;rw[a,hb,hc]
 rfl
theorem UA:rm qx=qx:=by
 unfold rm qx bY Sy yN MY;simp only[cR,di,List.map_cons,List.map_nil]
 rw[if_neg (by decide),if_neg (by decide),if_neg (by decide),if_neg (by decide),if_pos trivial,if_pos trivial]
 rw[show rN 1 0=1 by decide,show cD 1 0=0 by decide]
 have e:hO ⟨false,0,0,false,2,0,false,false⟩=⟨false,0,0,false,2,0,false,false⟩:=by
  unfold hO;rw[if_neg (by unfold im.void;decide)]
  rw[show rN 0 0=0 by decide,show cD 0 0=0 by decide,show rN 2 0=2 by decide,show cD 2 0=0 by decide]
  rfl
 rw[e]
theorem Rr:cj (gI Sy yN qx)=Uw.data.toList:=by
 have e1:jy Sy=[⟨false,1,[120]⟩]:=rfl;have a:jy yN=[⟨false,0,[49]⟩]:=by
  show [(⟨false,0,il false 1 0⟩:It)]=_;rw[nX1]
 unfold gI pB;rw[e1,a]
 show _=_;unfold qx;simp only[jO,gj,iD,tI,mo,xC,MY,nX0,nX2]
 rfl
theorem ED:pq qx=[120,32,45,32,49,32,62,32,48,32,102,111,114,32,120,32,105,110,32,91,48,44,32,50,93]:=by
 unfold pq qx vR bY Sy yN;simp only[uv,mF,uK,kR,uY,F5,zO,MY,nX0,nX2]
 unfold xu;simp only[nX1]
 rfl
theorem MZ:JA Uw (some qx):=by
 have hw:cY Sy/\cY yN:=by
  have h:=fc (tJ GF).goal;exact⟨h.2.1,h.2.2.1⟩
 have h:=EB (t:=Sy) (q:=yN) (s:=Uw) GF hw.1 hw.2 ?_ ?_ ?_ (by decide)
 ·rwa [UA] at h
 ·unfold sO;rw[if_neg]
  ·unfold qx bY;rw[cR,if_neg (by decide),if_neg (by decide),di,di,di]
  ·unfold yN;rw[cR,if_pos rfl,if_pos rfl]
   show ¬(decide ((1:Int)=1)&&aX (rN 1 0) (cD 1 0)&&decide (rN (rN 1 0) (cD 1 0)=0))=true;rw[Fz,show rN 1 0=1 by decide]
   simp
 ·intro y a;unfold qx bY Sy yN at*;simp only[cZ,mq] at a⊢;simpa using a
 ·rw[Rr]
  rfl
section
attribute [local irreducible] wpList
structure EE(w:World):Prop where
 l:cL w
 r:sF w
 p:tB w
 six:6<=w.heap.size
theorem EE.kept{w':World}(h:EE w)(k:aa w w'):EE w':=⟨h.l.kept k,h.r.kept k,h.p.kept k,jP h.six k.size⟩
theorem tK(h:EE w):Calls prog 14 #[] w λ e w'=>e= .returned (.bool true)/\aa w w':=by
 refine dK [] 52 func14 rfl ntmps14 (by simp) ?_;refine gx ?_;refine zc 11 _ (MZ w h.l h.r h.six) ?_;rintro e v ⟨f,V,F,rfl,j,n⟩
 refine⟨_,rfl,?_⟩
 have c:=n;obtain⟨o,g,z,x1,x2,x3,x4,x5,x6,nm,U,n0,T,a1,n1,c1,a2,n2,c2,e,k,q,-⟩:=n;obtain rfl:=Value.agg.inj e;rw[show qx.strict=true from rfl] at c j⊢;obtain rfl:o=6:=by
  cases F with
  |zero=>exact k.elim
  |succ F=>
   obtain⟨_,_,_,_,_,_,_,_,u,-⟩:=Ex.shape k;have:=Value.agg.inj u;simp only[Array.mk.injEq,List.cons.injEq,Value.int.injEq,true_and] at this;exact this.1
 obtain rfl:n1=1:=q.1;obtain⟨b,off,G,N,R,E,M,Q,D,L,P,C,K,O,rfl,r,-⟩:=q.row (i:=0) (by decide)
 refine gx ?_;refine za Z10 31 λ I g2 u A B J=> ?_;refine zt B GH j λ w3 y b3=> ?_;have d:aa v w3:=A.but y (by omega)
 have hr:w3.cell? ⟨b,off+0*9+0,none⟩=some (.string ⟨#[120]⟩):=d.cell (r 0 _ rfl)
 refine gx ?_;refine zi (s:=9) (m:=1) 0 (by decide) ?_;refine gx ?_;refine kB hr ?_;refine eO ?_;refine z2 (.bool false) ?_ (hrun:=wY (a:=⟨#[120]⟩) (b:=⟨#[120]⟩) (by rw[ByteArray.toList_eq];decide))
 refine gx ?_;refine zl b3.range ⟨by kernel_rfl,by first|kernel_rfl|simp[Value.oneCell']⟩ ?_;refine zc 16 _ (rh (c.kept d) ((h.kept (f.trans d)).l) ((h.kept (f.trans d)).p) GF) ?_;rintro e H ⟨x,⟨-,S,rfl,hS⟩|⟨t,-⟩⟩
 case inr=>rw[ED] at t;exact absurd t (by decide)
 refine⟨_,rfl,?_⟩
 rw[ED] at hS;refine gx ?_;refine pJ true (a:=S) (b:=⟨#[120,32,45,32,49,32,62,32,48,32,102,111,114,32,120,32,105,110,32,91,48,44,32,50,93]⟩) (by rw[ByteArray.toList_eq,hS];decide) ?_;refine gx ?_;exact aF ⟨rfl,(f.trans d).trans x⟩
theorem GK(h:EE w):Calls prog 5 #[.string s] w λ e w'=>e= .returned (.bool true)/\aa w w':=by
 refine ct 63 func5 rfl ntmps5 ?_;refine gx ?_;rcases Uv s with hp|⟨c,q,C,hp⟩
 ·refine zc 11 _ (hp w h.l h.r h.six) ?_;rintro e M ⟨B,a,k,Z,rfl⟩
  refine gx ?_;refine za Z10 31 λ T g2 e2 A I U=> ?_;refine zt I GH cB λ w3 z b3=> ?_;have f:aa w w3:=B.trans (A.but z (by omega))
  refine gx ?_;refine cr true ?_ ?_
  ·show((k:Int) != 0)=true;simpa using Z
  refine gx ?_;refine zc 14 _ (tK (h.kept f)) ?_;rintro e x ⟨rfl,i⟩
  refine gx ?_;exact aF ⟨rfl,f.trans i⟩
 refine zc 11 _ (hp w h.l h.r h.six) ?_;rintro e M ⟨B,V,F,rfl,y,O⟩
 refine gx ?_;refine za Z10 31 λ T g2 e2 A I U=> ?_;refine zt I GH y λ w3 z b3=> ?_;have j:aa M w3:=A.but z (by omega)
 have f:aa w w3:=B.trans j;replace b3:_/\True:=⟨b3,trivial⟩
 refine gx ?_;refine zl b3.1.range y ?_;refine zc 16 _ (rh (O.kept j) (h.kept f).l (h.kept f).p q) ?_;rintro e x ⟨i,⟨h4,S,rfl,hS⟩|⟨-,rfl⟩⟩
 case inr=>
  refine gx ?_;refine zc 14 _ (tK (h.kept (f.trans i))) ?_;rintro e L ⟨rfl,n⟩
  refine gx ?_;exact aF ⟨rfl,(f.trans i).trans n⟩
 refine⟨_,rfl,?_⟩
 have v:=f.trans i;have b4:aD x g2 V 31/\True:=⟨b3.1.kept i,trivial⟩
 have D:S=fA (pq c):=ByteArray.ext (by rw[<-hS];rfl)
 have hb:=MV q h4;rw[C,<-D] at hb;refine gx ?_;refine zc 11 _ (hb x (h.kept v).l (h.kept v).r (h.kept v).six) ?_;rintro e L ⟨n,Q,F2,rfl,g,t⟩
 refine gx ?_;refine za Z10 31 λ w6 P e6 X b6 q6=> ?_;refine zt b6 GH g λ u W b7=> ?_;have d:aa L u:=X.but W (by omega)
 have J:aa w u:=(v.trans n).trans d;have H:aD u g2 V 31/\True:=⟨(b4.1.kept n).kept d,trivial⟩
 replace b7:aD u P Q 31/\True:=⟨b7,trivial⟩
 refine gx ?_;refine zl b7.1.range g ?_;refine zc 16 _ (rh (t.kept d) (h.kept J).l (h.kept J).p q) ?_;rintro e K ⟨m,⟨-,S2,rfl,QK⟩|⟨h9,-⟩⟩
 case inr=>omega
 refine⟨_,rfl,?_⟩
 have R:=J.trans m;have G:aD K g2 V 31/\True:=⟨H.1.kept m,trivial⟩
 have E:aD K P Q 31/\True:=⟨b7.1.kept m,trivial⟩
 refine gx ?_;refine pJ (a:=S2) (b:=S) true (by rw[ByteArray.toList_eq,hS,QK];simp) ?_;refine gx ?_;refine zl G.1.range y ?_;refine eO ?_;refine zl E.1.range g ?_;refine eO ?_;have o:=JD (O.kept ((((j.trans i).trans n).trans d).trans m)) (t.kept (d.trans m)) q q;rw[M0] at o;refine zc 18 _ o ?_;rintro e w9 ⟨rfl,N⟩
 refine gx ?_;refine zc 14 _ (tK (h.kept (R.trans N))) ?_;rintro e vE ⟨rfl,Y⟩
 refine gx ?_;exact aF ⟨rfl,(R.trans N).trans Y⟩
end
section
open Go Go.ChangeShapes Go.WideShapes Go.ChangeAt Go.RowKit Go.Dig
theorem CR{P:Program}{w:World}{n:String}{d:DataW Unit}:∀(l:List (String×DataW Unit))(ps:List MemPlace),DataW.LaidVars P w l ps->(n,d)∈l->
 ∃g t cs fuel p,P.globalNamed n=some g/\(P.globals[g]?).map (·.type)=some t/\w.var? P n=some cs/\DataW.trod (λ _=>()) P w 0 (λ _=>true) false fuel t cs.toList=some (d,p)
 |[],_,_,h=>absurd h nU
 |(c,f)::r,ps,⟨g,t,cs,fuel,p,q,h1,h2,h3,b,a,_⟩,h=>by
  rcases List.mem_cons.1 h with e|h
  ·cases e
   exact⟨g,t,cs,fuel,p,h1,h2,h3,b⟩
  ·exact CR r q a h
theorem PD{P:Program}{l:List (String×DataW Unit)}{name:String}{k:IntKind}{zs:List Int}{g:Nat}{t e:TypeId}
 (j:P.globalNamed name=some g)(b:(P.globals[g]?).map (·.type)=some t)(f:P.underlying t=some (.array n e))(he:P.underlying e=some (.int k))(hce:P.cellsOf e=1)(d:P.cellsOf t=n)
 (h:laidMet P l W)(hm:(name,Lib.tabData k zs)∈l):Lib.TabIs P W name k zs:=by
 obtain⟨ps,h,-⟩:=h;obtain⟨g',t',cs,fuel,p,i,c,a,hd⟩:=CR l ps h hm;obtain rfl:=iG (j.symm.trans i)
 obtain rfl:=iG (b.symm.trans c)
 unfold Lib.TabIs;rw[a,<-Lib.cells_of_tab f he hce d hd]
theorem Ys(a:laidMetH prog Rows.claimNormalRow.laid W):EE W:=by
 have a:laidMet prog Rows.claimNormalRow.laid W:=a;have g3:prog.globalNamed "math/bits.deBruijn32tab" =some 3:=by kernel_rfl
 have g:prog.globalNamed "internal/strconv.uint64pow10" =some 6:=by kernel_rfl
 have i:prog.globalNamed "strconv.ErrRange" =some 5:=by kernel_rfl
 have h1:Lib.TabIs prog W "math/bits.deBruijn32tab" .u8 (Lib.deBruijn32tab.map λ (z:Nat)=>(z:Int)):=
  PD (t:=402) (e:=5) (n:=32) g3 (by kernel_rfl) (by kernel_rfl) (by kernel_rfl) (by kernel_rfl) (by kernel_rfl) a (.tail _ (.tail _ (.head _)))
 have h2:Lib.TabIs prog W "internal/strconv.uint64pow10" .u64 Lib.pow10Tab:=
  PD (t:=449) (e:=256) (n:=20) g (by kernel_rfl) (by kernel_rfl) (by kernel_rfl) (by kernel_rfl) (by kernel_rfl) a (.tail _ (.tail _ (.tail _ (.tail _ (.tail _ (.head _))))))
 have hs:6<W.heap.size:=by
  have h3:=h2;unfold Lib.TabIs World.var? at h3;rw[g] at h3;rcases Nat.lt_or_ge 6 W.heap.size with h|h
  ·exact h
  ·simp only[Option.bind_some,Array.getElem?_eq_none h] at h3;cases h3
 refine⟨λ j f=>by
  have:=h1.cell g3 j (by rw[List.length_map];exact f)
  rw[this,List.getD_eq_getElem?_getD,List.getElem?_map,List.getD_eq_getElem?_getD,nW f]
  rfl,?_,⟨hs,h2⟩,by omega⟩
 obtain⟨ps,h,-⟩:=a;obtain⟨g',t',cs,fuel,p,l,c,b,hd⟩:=CR _ ps h (n:= "strconv.ErrRange") (d:=Rows.laid_strconv_ErrRange) (.tail _ (.tail _ (.tail _ (.tail _ (.head _)))))
 obtain rfl:=iG (i.symm.trans l)
 obtain rfl:t'=112:=iG (c.symm.trans (by kernel_rfl))
 have k:prog.underlying 112=some (.interface #[("Error",118)]):=underlying112;cases fuel with
 |zero=>simp[DataW.trod] at hd
 |succ fuel=>
  simp only[DataW.trod,k] at hd;have hc:∃ev,cs.toList=[ev]/\(ev= .nilIface∨∃te pe,ev= .iface te pe):=by
   split at hd;all_goals first
    |(simp_all;done)
    |exact⟨_,‹_›,.inl rfl⟩
    |exact⟨_,‹_›,.inr ⟨_,_,rfl⟩⟩
  obtain⟨ev,he,m⟩:=hc;refine⟨ev,?_,m⟩
  have:=World.var?_cell i b 0;rw[this,<-Array.getElem?_toList,he]
  rfl
theorem UH{w':World}(k:aa w w')(may:MemPlace->Prop):w.keptBut w' may:=by
 refine⟨k.os,k.output,λ i hi=> ?_⟩
 rw[k.old i hi]
 exact(World.keptBut_refl w may).2.2 i hi
theorem Rx{H:Type}{enc:TypeId×Value->H}{P:Program}{f:Func}{s:ChangeSpec}{c fresh a again:Bool}{W':World}{args:Array Value}{v:Value}{ds gs:List (DataW H)}{before pa pv:List MemPlace}
 (g:DataW.Whole enc P f.params.toList s.vars c W args.toList ds gs before)
 (h:∀(b:Nat)(sp:Nat->Bool)(hd:Bool),DataW.TrodAll enc P W' b sp hd f.resultTypes.toList (v.resultList f.resultTypes.size) (s.fn H (ds++gs)).results [])
 (l:∀sp:Nat->Bool,(∀p∈before,sp p.block=true)->DataW.TrodAll enc P W' 0 sp true f.params.toList args.toList (s.fn H (ds++gs)).args pa)
 (d:∀sp:Nat->Bool,(∀p∈before,sp p.block=true)->DataW.TrodVars enc P W' sp s.vars (s.fn H (ds++gs)).vars pv)
 (e:before=pa++pv)(k:aa W W')
 (o:∀(j:Nat)(t:TypeId)(r:Value),f.resultTypes[j]? =some t->(v.resultList f.resultTypes.size)[j]? =some r->Value.okWide P W' .any 0 t r):
 s.post enc P f c fresh a again W args v W':=by
 have i:=g.lt;have hold:∀p∈before,(λ b=>decide (b<W.heap.size)) p.block=true:=λ p hp=>by simpa using i p hp
 refine⟨ds,gs,before,[],pa,pv,g,h _ _ _,l _ hold,d _ hold,World.keptBut_mono (λ p hp=>⟨hp,?_⟩) (UH k (· ∈before)),λ _=> ?_⟩
 ·rw[e,List.mem_append] at hp;exact Or.inr hp
 ·obtain⟨_,_,_,_,_,m,hn⟩:=g;refine⟨o,_,_,([]++pa)++pv,⟨[]++pa,pv,trodAll_append (l _ (λ _ _=>rfl)) (h _ _ _),d _ (λ _ _=>rfl),rfl,?_,?_⟩,?_⟩
  ·intro b off hp;have hb:MemPlace.cell b off∈before:=by rw[e];simpa using hp
   have n:b<W.heap.size:=i _ hb;have he:=m b off hb;unfold World.frozen? at he⊢;simp only at he⊢;rw[k.old b n]
   exact he
  ·intro ha;have:=hn ha;rw[e] at this;simpa using this
  ·intro p hp _;rw[e]
   simpa using hp
theorem alP:prog.readableRec 9=true:=by kernel_rfl
theorem alQ:9<prog.types.size:=kC (by kernel_rfl)
theorem Ry(m:laidOutB prog=true)(H:Type)(enc:TypeId×Value->H)(W:World)(base:Nat)(args:Array Value)(ds gs:List (DataW H))(before:List MemPlace)
 (hval:∀(j:Nat) t v,Tryz.f5.params[j]? =some t->args[j]? =some v->Value.okWide prog W .any base t v)
 (f:DataW.Whole enc prog Tryz.f5.params.toList Rows.claimNormalSpec.vars false W args.toList ds gs before)
 (s:laidMetH prog Rows.claimNormalRow.laid W)(_hs:W.ShapedOpen prog):
 Calls prog 5 args W λ e W'=>∃v,e= .returned v/\Rows.claimNormalSpec.post enc prog Tryz.f5 false true false false W args v W':=by
 have a:=f;obtain⟨p,q,b,r,rfl,o,l⟩:=f;have hA:DataW.TrodAll enc prog W 0 (λ _=>true) true Tryz.f5.params.toList args.toList ds p:=b;rw[params5] at hA hval;obtain⟨d,h,d0,u,x,w,y,rfl,rfl,g,i⟩:=trodAll_cons hA;obtain⟨rfl,rfl,rfl⟩:=trodAll_nil i;obtain rfl:args=#[d]:=by cases args;simp_all
 obtain⟨rfl,rfl⟩:=trodVars_none r;have c:=g;obtain⟨nm,rfl,rfl,rfl,-⟩:=Go.ChangeMaps.open_string underlying9 (hval 0 9 d rfl rfl) g;clear b;simp only[List.append_nil] at a;refine(GK (Ys s)).mono λ e W' ⟨he,n⟩=> ?_;subst he;refine⟨_,rfl,Rx (pa:=[]++[]) (pv:=[]) a (λ _ _ _=> ?_) (λ sp k=> ?_) (λ _ _=>rfl) (by simp) n (ok_one (by kernel_rfl) rfl (okWide_bool_mk underlying4 _))⟩
 ·exact trodAll_cons_mk (shut_bool underlying4 _) trodAll_mk0
 ·exact trodAll_cons_mk (Go.WideElems.Trod_stays m alP alQ c (λ _ hx=>by cases hx) (λ _ hx=>by cases hx)) trodAll_mk0
end
section
open Go.ChangeShapes Go.WideShapes Go.ChangeAt Go.RowKit
theorem Yt(os:Os)(a:os.Started)(H:Type)(enc:TypeId×Value->H)(F:Stop.Interp):
 ReturnsInHanded {} Tryz.checked os 5 .any ((OpenSpec.ofChange Rows.claimNormalSpec).preRow enc prog Tryz.f5 Rows.claimNormalRow.domain false Rows.claimNormalRow.laid) (((OpenSpec.ofChange Rows.claimNormalSpec).at F).post enc prog Tryz.f5 false true false false):=by
 refine returnsInHanded_of_row (C:=Tryz.checked) (s:=OpenSpec.ofChange Rows.claimNormalSpec) alq a Yq func5 (witness6 os enc) ?_;intro W base args ds gs before hval c _ b _ d hs _;exact Ry laidOut H enc W base args ds gs before hval c d hs
theorem af4:Rows.ClaimNormalSaid:=
 OpenClaim.holds_of_cond 5 Tryz.f5 rfl rfl rfl rfl rfl rfl rfl ⟨rfl,rfl,rfl,rfl,rfl⟩ rfl rfl rfl rfl rfl M5 func5 Yr inst6 af1
  (λ os a H b _ F=>by rw[OpenClaim.pre_eq_preRow];exact Yt os a H b F)
theorem acb(f:FuncId)(fn:Func)(hf:Tryz.pinned.checked.prog.funcNamed "inequality/inequalitylaw06.ClaimNormal" =some f)(b:Tryz.pinned.checked.prog.funcs[f]? =some fn):
 true=Tryz.pinned.checked.prog.looks []/\∀(j:Nat) t,fn.params[j]? =some t->Tryz.pinned.checked.prog.wantsStandIn t=false:=by
 obtain rfl:f=5:=iG (M5.symm.trans hf) |>.symm
 obtain rfl:fn=Tryz.f5:=(iG (func5.symm.trans b)).symm;refine⟨aaG,λ j t a=> ?_⟩
 rw[params5] at a;have:t=9:=by simpa using Array.mem_of_getElem? a
 rw[this]
 exact UG
theorem af5:false=Rows.claimNormalRow.goesBy prog:=by
 have h:prog.goes 5=false:=Lg aiD 5;have h2:Rows.claimNormalRow.goesBy prog=(prog.funcNamed "inequality/inequalitylaw06.ClaimNormal").any prog.goes:=by
  unfold OpenClaim.goesBy Program.goesAt Program.goesFrom;rw[show Rows.claimNormalRow.start= .entering from rfl,show Rows.claimNormalRow.func= "inequality/inequalitylaw06.ClaimNormal" from rfl]
  simp only[Bool.or_false]
 rw[h2,M5,Option.any_some,h]
theorem card6:Rows.ClaimNormalCardSaid:=
 Claim7.holds_tied_plain_at .later [] _ _ _ _ af4 (λ _ h=>by cases h) Yp (λ _ h=>by cases h) claimNormal_row_tie rfl ⟨rfl,rfl⟩ WI rfl acb af5
end
end Go.Proofs.YtbapfnpbamnmpaaGreatDoor
