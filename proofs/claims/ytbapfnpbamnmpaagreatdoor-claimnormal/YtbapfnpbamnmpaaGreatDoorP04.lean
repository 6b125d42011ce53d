/- A part of the proof that the text which Print makes of a parsed text is a normal form -/
import Derived.Test.YtbapfnpbamnmpaaGreatDoorP00
import Derived.Test.YtbapfnpbamnmpaaGreatDoorP03
import Derived.Deep.RegionHeld3
import Derived.Test.YtbapfnpbamnmpaaGreatDoorP02
set_option maxHeartbeats 8000000
set_option maxRecDepth 100000
namespace Go.Proofs.YtbapfnpbamnmpaaGreatDoor
open Go Go.RowKit Go.Dig Go.Deep Go.Eng Go.Proofs.Tryz
variable{w:World}{u v vd vn:Value}{D N d d' k m n n':Nat}{zs:Nat->Nat}{neg s s':Bool}
theorem Kf(neg:Bool)(hn:Nt 4294967296 w vn m)(hd:Nt 4294967296 w vd k)(hm:m<eV)(A:k<eV)(s:0<m)(Y:0<k)(hT:cL w)
 (G:v2 m=0∨v2 k=0):
 Calls prog 187 #[.bool neg,vn,vd] w (P2 neg (m/Nat.gcd m k) (k/Nat.gcd m k) w):=by
 have u:=fS.new w (.bool false) (.slice none 0 0) (.slice none 0 0) 217;have p:aa w (w.alloc (.cells #[.bool false,.slice none 0 0,.slice none 0 0] 217)):=(aa.refl _).alloc _;have f:=hn.kept p;have g:=hd.kept p;have x:=hT.kept p;clear hn hd hT;go_enter func187,ntmps187;go_wp2_with fail
 generalize w.alloc (.cells #[.bool false,.slice none 0 0,.slice none 0 0] 217)=w1 at*;generalize qf:w.heap.size=R at u⊢;have U:=Lib.hid qf;clear qf;refine(nF f s).mono ?_;rintro e w' ⟨rfl,rfl⟩
 have r:=nP f hm s x;have l:=nP g A Y x;have Vn:=Lib.hid (zg s)
 obtain⟨t1,F⟩:∃t,v2 m=t:=⟨_,rfl⟩
 obtain⟨C,E⟩:∃t,v2 k=t:=⟨_,rfl⟩
 rw[F] at r G;rw[E] at l G;have T:=Lib.hid F;clear F;have S:=Lib.hid E;clear E;go_wp2_with fail
 refine r.mono ?_;rintro e w' ⟨rfl,rfl⟩
 go_wp2_with fail
 refine l.mono ?_;rintro e w' ⟨rfl,rfl⟩
 go_wp2_with fail
 have Vp:=De g A Y;refine(l).mono ?_;rintro e w' ⟨rfl,rfl⟩
 go_wp2_with fail
 refine Vp.mono ?_;rintro e w' ⟨b,rfl,rfl,ams,fZ,fq,zG⟩
 have M:=Lib.hid (H9 fZ fq zG)
 have Z:0<Nat.gcd m k:=Nat.gcd_pos_of_pos_left _ s;by_cases H:C=b-1
 ·
  have o:Nat.gcd m k=1:=by
   have e1:=M.out.1 (by rw[S.out];exact H)
   rw[e1]
   exact rF (by rcases G with h|h;exact .inr (Vn.out (T.out.trans h));exact .inl (by omega))
  have SA:((C:Int) !=(b:Int)-1)=false:=by simp;omega
  obtain⟨y,c1,c2,f0,f1,f2⟩:=u.facts;obtain⟨an,c,i,rfl⟩:=f.shape;obtain⟨ad,d,j,rfl⟩:=g.shape;have a:=af.eB w1 R (.bool neg) (.slice an c i) (.slice ad d j)
  go_wp2;refine bodyPost_ret (v:=.agg #[.bool neg,.slice an c i,.slice ad d j]) (by simp[results,results187,go_sem,y,c1,c2]) rfl ⟨_,rfl,⟨_,_,rfl,?_,?_⟩,p.but a (by have:=U.out;omega)⟩
  ·rw[o,Nat.div_one];exact f.ai a u.aZ
  ·rw[o,Nat.div_one];exact g.ai a u.aZ
 ·have SA:((C:Int) !=(b:Int)-1)=true:=by simp;omega
  have Dz:=ER f g hm A;rw[Nat.gcd_comm] at Dz;go_wp2_with fail
  refine Dz.mono ?_;rintro e w3 ⟨V,rfl,D,n⟩
  have X:=uh D;have B:=u.kept n;by_cases o:Nat.gcd m k=1
  ·have I:Calls prog 222 #[V] w3 λ e w'=>e= .returned (.bool true)/\w3=w':=X.mono λ e w' ⟨h1,h2⟩=>⟨by rw[h1];simp[o],h2⟩
   obtain⟨y,c1,c2,f0,f1,f2⟩:=B.facts;have K:=f.kept n;have P:=g.kept n;obtain⟨an,c,i,rfl⟩:=f.shape;obtain⟨ad,d,j,rfl⟩:=g.shape;have a:=af.eB w3 R (.bool neg) (.slice an c i) (.slice ad d j)
   go_wp2_with(go_at_call 222;refine I.mono ?_;rintro e w' ⟨rfl,rfl⟩)
   refine bodyPost_ret (v:=.agg #[.bool neg,.slice an c i,.slice ad d j]) (by simp[results,results187,go_sem,y,c1,c2]) rfl ⟨_,rfl,⟨_,_,rfl,?_,?_⟩,(p.trans n).but a (by have:=U.out;omega)⟩
   ·rw[o,Nat.div_one];exact K.ai a B.aZ
   ·rw[o,Nat.div_one];exact P.ai a B.aZ
  ·have I:Calls prog 222 #[V] w3 λ e w'=>e= .returned (.bool false)/\w3=w':=X.mono λ e w' ⟨h1,h2⟩=>⟨by rw[h1];simp[o],h2⟩
   have Fi:Nat.gcd m k<eV:=Nat.lt_of_le_of_lt (Nat.gcd_le_left _ s) hm;have O:=qC (f.kept n) D hm Fi Z;go_wp2_with(go_at_call 222;refine I.mono ?_;rintro e w' ⟨rfl,rfl⟩)
   refine O.mono ?_;rintro e w4 ⟨vq,vr,rfl,q,_,z⟩
   have N:=qC ((g.kept n).kept z) (D.kept z) A Fi Z;go_wp2_with fail
   refine N.mono ?_;rintro e w5 ⟨vq2,vr2,rfl,W,_,L⟩
   have Q:=(B.kept z).kept L;obtain⟨y,c1,c2,f0,f1,f2⟩:=Q.facts;have J:=q.kept L;obtain⟨an,c,i,rfl⟩:=q.shape;obtain⟨ad,d,j,rfl⟩:=W.shape;have a:=af.eB w5 R (.bool neg) (.slice an c i) (.slice ad d j)
   go_wp2;refine bodyPost_ret (v:=.agg #[.bool neg,.slice an c i,.slice ad d j]) (by simp[results,results187,go_sem,y,c1,c2]) rfl ⟨_,rfl,⟨_,_,rfl,?_,?_⟩,(((p.trans n).trans z).trans L).but a (by have:=U.out;omega)⟩
   ·exact J.ai a Q.aZ
   ·exact W.ai a Q.aZ
theorem Hf(neg:Bool)(hn:Nt 4294967296 w vn m)(hd:Nt 4294967296 w vd k)(hm:m<eV)(hk:k<eV)(R:0<m)(eZ:0<k)(hT:cL w)
 (ht:0<v2 m/\0<v2 k)(L:v2 m<=100000/\v2 k<=100000):
 Calls prog 187 #[.bool neg,vn,vd] w (P2 neg (m/Nat.gcd m k) (k/Nat.gcd m k) w):=by
 have vz:=fS.new w (.bool false) (.slice none 0 0) (.slice none 0 0) 217;have W:aa w (w.alloc (.cells #[.bool false,.slice none 0 0,.slice none 0 0] 217)):=(aa.refl _).alloc _;have tZ:=hn.kept W;have pI:=hd.kept W;have C:=hT.kept W;clear hn hd hT;go_enter func187,ntmps187;go_wp2_with fail
 generalize w.alloc (.cells #[.bool false,.slice none 0 0,.slice none 0 0] 217)=w1 at*;generalize qf:w.heap.size=b0 at vz⊢;have xY:=Lib.hid qf;clear qf;refine(nF tZ R).mono ?_;rintro e w' ⟨rfl,rfl⟩
 have p:=nP tZ hm R C;have r:=nP pI hk eZ C;obtain⟨t1,N⟩:∃t,v2 m=t:=⟨_,rfl⟩
 obtain⟨F,M⟩:∃t,v2 k=t:=⟨_,rfl⟩
 rw[N] at p ht L;rw[M] at r ht L;obtain⟨t,K⟩:∃t,t=min t1 F:=⟨_,rfl⟩
 have ht0:0<t:=by omega
 have J:t<=t1:=by omega
 have I:t<=F:=by omega
 have amv:t=t1∨t=F:=by omega
 have amw:min (t1:Int) (F:Int)=(t:Int):=by omega
 have c:2^t∣m:=SU R (by rw[N];exact J)
 have B:2^t∣k:=SU eZ (by rw[M];exact I)
 have u:0<2^t:=Nat.pow_pos (by decide)
 have y:0<m/2^t:=Nat.div_pos (Nat.le_of_dvd R c) u;have S:0<k/2^t:=Nat.div_pos (Nat.le_of_dvd eZ B) u;have x:m/2^t<eV:=Nat.lt_of_le_of_lt (Nat.div_le_self _ _) hm;have g:k/2^t<eV:=Nat.lt_of_le_of_lt (Nat.div_le_self _ _) hk;have HV1:Hid (v2 (m/2^t)=t1-t):=Lib.hid (by rw[SV R (by rw[N];exact J),N])
 have U:Hid (v2 (k/2^t)=F-t):=Lib.hid (by rw[SV eZ (by rw[M];exact I),M])
 have D:Hid (m/Nat.gcd m k=m/2^t/Nat.gcd (m/2^t) (k/2^t)):=Lib.hid (by rw[Ia c B,Bw c (Nat.dvd_gcd c B)])
 have E:Hid (k/Nat.gcd m k=k/2^t/Nat.gcd (m/2^t) (k/2^t)):=Lib.hid (by rw[Ia c B,Bw B (Nat.dvd_gcd c B)])
 have Vn:=Lib.hid (zg y)
 have P:=yT tZ hm (show t<=100000 by omega)
 have O:=λ (w':World) (kk:aa w1 w')=>yT (pI.kept kk) hk (show t<=100000 by omega)
 have HTE:=Lib.hid K;clear K N M c B u;go_wp2_with fail
 refine p.mono ?_;rintro e w' ⟨rfl,rfl⟩
 go_wp2_with fail
 refine r.mono ?_;rintro e w' ⟨rfl,rfl⟩
 clear p r;go_wp2_with fail
 clear amw;generalize m/2^t=m' at*;generalize k/2^t=k' at*;refine P.mono ?_;rintro e w6 ⟨vn',rfl,Q,Y⟩
 go_wp2_with fail
 refine(O _ Y).mono ?_;rintro e w7 ⟨vd',rfl,a,X⟩
 have d:=Q.kept X;have hT7:=(C.kept Y).kept X;have Zx:=(vz.kept Y).kept X;have o:=(W.trans Y).trans X;have q:=nP a g S hT7;rw[U.out] at q;clear P O Q;obtain⟨G,s⟩:∃G,G=F-t:=⟨_,rfl⟩
 rw[<-s] at q;have V:=Lib.hid s;clear s;go_wp2_with fail
 have Vp:=De a g S;refine(q).mono ?_;rintro e w' ⟨rfl,rfl⟩
 go_wp2_with fail
 refine Vp.mono ?_;rintro e w' ⟨b,rfl,rfl,ams,fZ,fq,zG⟩
 have acK:=Lib.hid (H9 fZ fq zG)
 have Wt:0<Nat.gcd m' k':=Nat.gcd_pos_of_pos_left _ y;by_cases hpw:G=b-1
 ·
  have A:Nat.gcd m' k'=1:=by
   have e1:=acK.out.1 (by rw[U.out,<-V.out];exact hpw)
   rw[e1]
   exact rF (by have h1:=HV1.out;have h3:=V.out;rcases amv with h|h;exact .inr (Vn.out (by omega));exact .inl (by omega))
  have SA:((G:Int) !=(b:Int)-1)=false:=by simp;omega
  obtain⟨T,c1,c2,f0,f1,f2⟩:=Zx.facts;obtain⟨an,i,l,rfl⟩:=d.shape;obtain⟨ad,j,n,rfl⟩:=a.shape;have f:=af.eB w7 b0 (.bool neg) (.slice an i l) (.slice ad j n)
  go_wp2;refine bodyPost_ret (v:=.agg #[.bool neg,.slice an i l,.slice ad j n]) (by simp[results,results187,go_sem,T,c1,c2]) rfl ⟨_,rfl,⟨_,_,rfl,?_,?_⟩,o.but f (by have:=xY.out;omega)⟩
  ·rw[D.out,A,Nat.div_one];exact d.ai f Zx.aZ
  ·rw[E.out,A,Nat.div_one];exact a.ai f Zx.aZ
 ·have SA:((G:Int) !=(b:Int)-1)=true:=by simp;omega
  have Dz:=ER d a x g;rw[Nat.gcd_comm] at Dz;go_wp2_with fail
  refine Dz.mono ?_;rintro e w3 ⟨vg,rfl,RH,z⟩
  have Vq:=uh RH;have xJ:=Zx.kept z;by_cases A:Nat.gcd m' k'=1
  ·have Df:Calls prog 222 #[vg] w3 λ e w'=>e= .returned (.bool true)/\w3=w':=Vq.mono λ e w' ⟨h1,h2⟩=>⟨by rw[h1];simp[A],h2⟩
   obtain⟨T,c1,c2,f0,f1,f2⟩:=xJ.facts;have hn3:=d.kept z;have hd3:=a.kept z;obtain⟨an,i,l,rfl⟩:=d.shape;obtain⟨ad,j,n,rfl⟩:=a.shape;have f:=af.eB w3 b0 (.bool neg) (.slice an i l) (.slice ad j n)
   go_wp2_with(go_at_call 222;refine Df.mono ?_;rintro e w' ⟨rfl,rfl⟩)
   refine bodyPost_ret (v:=.agg #[.bool neg,.slice an i l,.slice ad j n]) (by simp[results,results187,go_sem,T,c1,c2]) rfl ⟨_,rfl,⟨_,_,rfl,?_,?_⟩,(o.trans z).but f (by have:=xY.out;omega)⟩
   ·rw[D.out,A,Nat.div_one];exact hn3.ai f xJ.aZ
   ·rw[E.out,A,Nat.div_one];exact hd3.ai f xJ.aZ
  ·have Df:Calls prog 222 #[vg] w3 λ e w'=>e= .returned (.bool false)/\w3=w':=Vq.mono λ e w' ⟨h1,h2⟩=>⟨by rw[h1];simp[A],h2⟩
   have Fi:Nat.gcd m' k'<eV:=Nat.lt_of_le_of_lt (Nat.gcd_le_left _ y) x;have acL:=qC (d.kept z) RH x Fi Wt;go_wp2_with(go_at_call 222;refine Df.mono ?_;rintro e w' ⟨rfl,rfl⟩)
   refine acL.mono ?_;rintro e w4 ⟨vq,vr,rfl,H,_,Z⟩
   have acM:=qC ((a.kept z).kept Z) (RH.kept Z) g Fi Wt;go_wp2_with fail
   refine acM.mono ?_;rintro e w5 ⟨vq2,vr2,rfl,Vr,_,uL⟩
   have Dg:=(xJ.kept Z).kept uL;obtain⟨T,c1,c2,f0,f1,f2⟩:=Dg.facts;have hn5:=H.kept uL;obtain⟨an,i,l,rfl⟩:=H.shape;obtain⟨ad,j,n,rfl⟩:=Vr.shape;have f:=af.eB w5 b0 (.bool neg) (.slice an i l) (.slice ad j n)
   go_wp2;refine bodyPost_ret (v:=.agg #[.bool neg,.slice an i l,.slice ad j n]) (by simp[results,results187,go_sem,T,c1,c2]) rfl ⟨_,rfl,⟨_,_,rfl,?_,?_⟩,(((o.trans z).trans Z).trans uL).but f (by have:=xY.out;omega)⟩
   ·rw[D.out];exact hn5.ai f Dg.aZ
   ·rw[E.out];exact Vr.ai f Dg.aZ
theorem kM(neg:Bool)(hn:Nt 4294967296 w vn m)(hd:Nt 4294967296 w vd k)(hm:m<eV)(b:k<eV)(a:0<k)(d:cL w):
 Calls prog 187 #[.bool neg,vn,vd] w (P2 (neg&&decide (0<m)) (m/Nat.gcd m k) (k/Nat.gcd m k) w):=by
 by_cases e:m=0
 ·subst e;rw[Nat.gcd_zero_left,Nat.zero_div,Nat.div_self a]
  simpa using Kg neg hn
 ·have hp:decide (0<m)=true:=by simp;omega
  rw[hp,Bool.and_true]
  have c:∀x,0<x->x<eV->v2 x<=100000:=λ x f hx=>by
   have h1:=aek f;have h2:2^v2 x<iy 2 16384:=Nat.lt_of_le_of_lt h1 hx;have:=aaH h2;omega
  by_cases h:0<v2 m/\0<v2 k
  ·exact Hf neg hn hd hm b (by omega) a d h ⟨c m (by omega) hm,c k a b⟩
  ·exact Kf neg hn hd hm b (by omega) a d (by omega)
def bn(n:Nat):Bool:=decide (n<iy 2 2048)
theorem qY{L:Nat}(hd:∀i,i<n->zs i<4294967296)(hn:tQ zs n):n<=L↔ak 4294967296 zs n<4294967296^L:=by
 constructor
 ·intro h;exact jf (dJ hd) (Nat.pow_le_pow_right (by decide) h)
 ·exact dC (by decide) hn
theorem TE:(4294967296:Nat)^64=iy 2 2048:=SK 64 2048 rfl
theorem qW(h:Fr w v neg n d):
 Calls prog 249 #[v] w λ e w'=>e= .returned (.bool (bn n&&bn d))/\aa w w':=by
 obtain⟨o,p,rfl,hn,hd⟩:=h;obtain⟨a,c,s,xs,rfl,r,hx,j,rfl,m⟩:=hn;obtain⟨b,f,t,ys,rfl,q,i,g,rfl,l⟩:=hd;have e1:bn (ak 4294967296 xs c)=decide (c<=64):=by unfold bn;rw[<-TE,Bool.eq_iff_iff];simp[qY hx j]
 have k:bn (ak 4294967296 ys f)=decide (f<=64):=by unfold bn;rw[<-TE,Bool.eq_iff_iff];simp[qY i g]
 rw[e1,k]
 clear m l hx j i g e1 k;by_cases h1:c<=64
 ·have t1:decide ((c:Int)<=64)=true:=by simp;omega
  by_cases h2:f<=64
  ·go_enter func249,ntmps249;go_wp2;go_ret;exact⟨by simp[h1,h2];omega,(aa.refl _).alloc _⟩
  ·go_enter func249,ntmps249;go_wp2;go_ret;exact⟨by simp[h2];try omega,(aa.refl _).alloc _⟩
 ·have t1:decide ((c:Int)<=64)=false:=by simp;omega
  go_enter func249,ntmps249;go_wp2;go_ret;exact⟨by simp[h1],(aa.refl _).alloc _⟩
def lY(neg:Bool)(n:Nat):Int:=if n=0 then 0 else if neg then -1 else 1
theorem lO(h:Fr w v neg n d):
 Calls prog 283 #[v] w λ e w'=>e= .returned (.int .i64 (lY neg n))/\aa w w':=by
 obtain⟨l,m,rfl,hn,hd⟩:=h;obtain⟨a,g,j,rfl⟩:=hn.shape;obtain⟨a',i,k,rfl⟩:=hd.shape;have f:=hn.kept ((aa.refl w).alloc (.cells #[.bool neg,.slice a g j,.slice a' i k] 217))
 by_cases c:n=0
 ·subst c;have b:=ud f;go_enter func283,ntmps283;go_wp2_with(go_at_call 192;refine b.mono ?_;rintro e w' ⟨rfl,rfl⟩)
  go_ret;exact⟨rfl,(aa.refl _).alloc _⟩
 ·have b:=nF f (by omega)
  cases neg
  ·go_enter func283,ntmps283;go_wp2_with(go_at_call 192;refine b.mono ?_;rintro e w' ⟨rfl,rfl⟩)
   go_ret;exact⟨by simp[lY,c],(aa.refl _).alloc _⟩
  ·go_enter func283,ntmps283;go_wp2_with(go_at_call 192;refine b.mono ?_;rintro e w' ⟨rfl,rfl⟩)
   go_ret;exact⟨by simp[lY,c],(aa.refl _).alloc _⟩
def UF(s:Bool)(n d:Nat)(s':Bool)(n' d':Nat):Int:=
 if lY s n≠lY s' n' then(if lY s n<lY s' n' then -1 else 1) else(if s then-bN (n*d') (n'*d) else bN (n*d') (n'*d))
theorem fS.all{w0:World}{b:Nat}{x y z:Value}{t:TypeId}(h:fS w0 b x y z t):
 (∀k:KW w0,k.w.cell? ⟨b,0,none⟩=some x)/\(∀k:KW w0,k.w.cell? ⟨b,1,none⟩=some y)/\(∀k:KW w0,k.w.cell? ⟨b,2,none⟩=some z):=
 ⟨λ k=>(h.kept k.kept).facts.1,λ k=>(h.kept k.kept).facts.2.1,λ k=>(h.kept k.kept).facts.2.2.1⟩
theorem YR(h:Fr w v s n d)(E:Fr w u s' n' d')(P:lY s n≠lY s' n'):
 Calls prog 238 #[v,u] w λ e w'=>e= .returned (.int .i64 (if lY s n<lY s' n' then -1 else 1))/\aa w w':=by
 have hs:=λ (w':World) (k:aa w w')=>lO (h.kept k)
 have r:=λ (w':World) (k:aa w w')=>lO (E.kept k)
 obtain⟨T,U,rfl,hn,hd⟩:=h;obtain⟨a,b,g,rfl⟩:=hn.shape;obtain⟨ad,c,i,rfl⟩:=hd.shape;obtain⟨G,H,rfl,Q,R⟩:=E;obtain⟨a',l,o,rfl⟩:=Q.shape;obtain⟨q,m,p,rfl⟩:=R.shape;generalize lY s n=x at*;generalize lY s' n'=y at*;have D:=fS.new w (.bool s) (.slice a b g) (.slice ad c i) 217;have B:=fS.new (w.alloc (.cells #[.bool s,.slice a b g,.slice ad c i] 217)) (.bool s') (.slice a' l o) (.slice q m p) 217;have f:aa w ((w.alloc (.cells #[.bool s,.slice a b g,.slice ad c i] 217)).alloc (.cells #[.bool s',.slice a' l o,.slice q m p] 217)):=((aa.refl _).alloc _).alloc _;have C:=D.kept ((aa.refl _).alloc (.cells #[.bool s',.slice a' l o,.slice q m p] 217))
 clear D;have F:(w.alloc (.cells #[.bool s,.slice a b g,.slice ad c i] 217)).heap.size=w.heap.size+1:=by simp[go_sem]
 rw[F] at B;clear F;have I:(x != y)=true:=by simpa using P
 by_cases t:x<y
 ·have J:decide (x<y)=true:=by simpa using t
  rw[if_pos t]
  go_enter func238,ntmps238;go_wp2_with fail
  generalize (w.alloc (.cells #[.bool s,.slice a b g,.slice ad c i] 217)).alloc (.cells #[.bool s',.slice a' l o,.slice q m p] 217)=j at*;generalize w.heap.size=S at*;obtain⟨O,N,M⟩:=C.all;obtain⟨L,q1,K⟩:=B.all;refine ag j (aa.refl _) (by kernel_rfl) (by kernel_rfl) ?_;repeat (go_big_quiet_step (first|(go_at_call_of 283 (Value.agg #[Value.bool s,Value.slice a b g,Value.slice ad c i]);exact aG (hs _ (f.trans (KW.kept _))))|(go_at_call 283;exact aG (r _ (f.trans (KW.kept _))))))
  refine wpQuiet_nil ?_;rintro _ ⟨A,rfl⟩
  go_wp2_with fail
  refine ag j A.kept (by kernel_rfl) (by kernel_rfl) ?_;repeat (go_big_quiet_step (first|(go_at_call_of 283 (Value.agg #[Value.bool s,Value.slice a b g,Value.slice ad c i]);exact aG (hs _ (f.trans (KW.kept _))))|(go_at_call 283;exact aG (r _ (f.trans (KW.kept _))))))
  refine wpQuiet_nil ?_;rintro _ ⟨z,rfl⟩
  go_wp2;go_ret;exact⟨rfl,f.trans z.kept⟩
 ·have J:decide (x<y)=false:=by simpa using t
  rw[if_neg t]
  go_enter func238,ntmps238;go_wp2_with fail
  generalize (w.alloc (.cells #[.bool s,.slice a b g,.slice ad c i] 217)).alloc (.cells #[.bool s',.slice a' l o,.slice q m p] 217)=j at*;generalize w.heap.size=S at*;obtain⟨O,N,M⟩:=C.all;obtain⟨L,q1,K⟩:=B.all;refine ag j (aa.refl _) (by kernel_rfl) (by kernel_rfl) ?_;repeat (go_big_quiet_step (first|(go_at_call_of 283 (Value.agg #[Value.bool s,Value.slice a b g,Value.slice ad c i]);exact aG (hs _ (f.trans (KW.kept _))))|(go_at_call 283;exact aG (r _ (f.trans (KW.kept _))))))
  refine wpQuiet_nil ?_;rintro _ ⟨A,rfl⟩
  go_wp2_with fail
  refine ag j A.kept (by kernel_rfl) (by kernel_rfl) ?_;repeat (go_big_quiet_step (first|(go_at_call_of 283 (Value.agg #[Value.bool s,Value.slice a b g,Value.slice ad c i]);exact aG (hs _ (f.trans (KW.kept _))))|(go_at_call 283;exact aG (r _ (f.trans (KW.kept _))))))
  refine wpQuiet_nil ?_;rintro _ ⟨z,rfl⟩
  go_wp2;go_ret;exact⟨rfl,f.trans z.kept⟩
theorem YS(h:Fr w v s n d)(h':Fr w u s' n' d')(t:lY s n=lY s' n')
 (b1:n<eV)(b2:d<eV)(b3:n'<eV)(b4:d'<eV)(b5:n*d'<eV):
 Calls prog 238 #[v,u] w λ e w'=>e= .returned (.int .i64 (if s then-bN (n*d') (n'*d) else bN (n*d') (n'*d)))/\aa w w':=by
 have hs:=λ (w':World) (k:aa w w')=>lO (h.kept k)
 have G:=λ (w':World) (k:aa w w')=>lO (h'.kept k)
 obtain⟨vn,vd,rfl,hn,hd⟩:=h;obtain⟨a,b,c,rfl⟩:=hn.shape;obtain⟨ad,g,i,rfl⟩:=hd.shape;obtain⟨vn',vd',rfl,R,V⟩:=h';obtain⟨a',l,m,rfl⟩:=R.shape;obtain⟨q,o,p,rfl⟩:=V.shape;rw[<-t] at G;clear t;generalize lY s n=x at*;have Y:=fS.new w (.bool s) (.slice a b c) (.slice ad g i) 217;have L:=fS.new (w.alloc (.cells #[.bool s,.slice a b c,.slice ad g i] 217)) (.bool s') (.slice a' l m) (.slice q o p) 217;have J:aa w ((w.alloc (.cells #[.bool s,.slice a b c,.slice ad g i] 217)).alloc (.cells #[.bool s',.slice a' l m,.slice q o p] 217)):=((aa.refl _).alloc _).alloc _;have X:=Y.kept ((aa.refl _).alloc (.cells #[.bool s',.slice a' l m,.slice q o p] 217))
 clear Y;have Dy:(w.alloc (.cells #[.bool s,.slice a b c,.slice ad g i] 217)).heap.size=w.heap.size+1:=by simp[go_sem]
 rw[Dy] at L;clear Dy;have E:(x != x)=false:=by simp
 have K:(-1<=bN (n*d') (n'*d))/\bN (n*d') (n'*d)<=1:=by unfold bN;split<;>(try split)<;>omega
 go_enter func238,ntmps238;go_wp2_with fail
 generalize (w.alloc (.cells #[.bool s,.slice a b c,.slice ad g i] 217)).alloc (.cells #[.bool s',.slice a' l m,.slice q o p] 217)=w1 at*;generalize w.heap.size=j at*;obtain⟨C,B,A⟩:=X.all;obtain⟨F,q1,z⟩:=L.all;refine ag w1 (aa.refl _) (by kernel_rfl) (by kernel_rfl) ?_;repeat (go_big_quiet_step (first|(go_at_call_of 283 (Value.agg #[Value.bool s,Value.slice a b c,Value.slice ad g i]);exact aG (hs _ (J.trans (KW.kept _))))|(go_at_call 283;exact aG (G _ (J.trans (KW.kept _))))))
 refine wpQuiet_nil ?_;rintro _ ⟨O,rfl⟩
 go_wp2_with fail
 clear C B A F q1 z;have I:=O.kept;generalize O.w=f at*;obtain⟨C,B,A,_,_,_⟩:=(X.kept I).facts;obtain⟨F,q1,z,_,_,_⟩:=(L.kept I).facts;have r:=J.trans I;have Z:∀w',aa f w'->aa f w'/\w'.cell? ⟨j,1,none⟩=some (.slice a b c)/\w'.cell? ⟨j,2,none⟩=some (.slice ad g i)/\w'.cell? ⟨j+1,1,none⟩=some (.slice a' l m)/\w'.cell? ⟨j+1,2,none⟩=some (.slice q o p):=
  λ w' k=>⟨k,k.cell B,k.cell A,k.cell q1,k.cell z⟩
 have N:=Lib.hid Z;clear Z;go_region_held3 (λ w'=>aa f w'/\w'.cell? ⟨j,1,none⟩=some (.slice a b c)/\w'.cell? ⟨j,2,none⟩=some (.slice ad g i)/\w'.cell? ⟨j+1,1,none⟩=some (.slice a' l m)/\w'.cell? ⟨j+1,2,none⟩=some (.slice q o p))
  (first|exact N.out _ (aa.refl _).drew|exact N.out _ ‹aa f _›)
  (first|(go_at_call_of 278 (Value.slice a b c);refine(pY (hn.kept r.drew) (V.kept r.drew) b1 b4).mono ?_;rintro e w3 ⟨v3,rfl,Q,T⟩;have D:aa f w3:=(aa.refl f).drew.trans T)|(go_at_call_of 278 (Value.slice a' l m);refine(pY (R.kept (r.trans D)) (hd.kept (r.trans D)) b3 b2).mono ?_;rintro e w4 ⟨v4,rfl,P,H⟩;have Ni:aa f w4:=D.trans H)|(go_at_call 320;refine(uE (.inr rfl) (Q.kept H) P b5).mono ?_;rintro e w5 ⟨rfl,S⟩;have M:aa f w5:=Ni.trans S))
 have p05:=M.cell C;have U:=r.trans M;obtain⟨Lx,Ly⟩:=K;clear N hs G C B A F q1 z E Q P T H S D Ni M;generalize W:bN (n*d') (n'*d)=ci at*;have y:=Lib.hid W;clear W;cases s
 ·go_wp2;go_ret;exact⟨by rw[y.out];rfl,U⟩
 ·go_wp2;go_ret;exact⟨by rw[y.out];rfl,U⟩
theorem Ns(h:Fr w v s n d)(b:Fr w u s' n' d')
 (i:n<eV)(g:d<eV)(b3:n'<eV)(f:d'<eV)(c:n*d'<eV):
 Calls prog 238 #[v,u] w λ e w'=>e= .returned (.int .i64 (UF s n d s' n' d'))/\aa w w':=by
 by_cases a:lY s n=lY s' n'
 ·unfold UF;rw[if_neg (by simpa using a)]
  exact YS h b a i g b3 f c
 ·unfold UF;rw[if_pos a]
  exact YR h b a
def Raw(w:World)(v:Value)(m:Nat):Prop:=
 ∃(a:Option Addr)(n cap:Nat)(zs:Nat->Nat),v= .slice a n cap/\n<=cap/\n<=4194304/\(∀i,i<n->zs i<4294967296)/\ak 4294967296 zs n=m/\Ws w a n zs
theorem Raw.kept{w':World}(h:Raw w v m)(k:aa w w'):Raw w' v m:=by
 obtain⟨a,n,cap,zs,h1,h2,h3,d,c,b⟩:=h;exact⟨a,n,cap,zs,h1,h2,h3,d,c,b.kept k⟩
def Rt(w:World)(v:Value)(neg:Bool)(N D:Nat):Prop:=∃vn vd,v= .agg #[.bool neg,vn,vd]/\Raw w vn N/\Raw w vd D
theorem Rt.kept{w':World}(h:Rt w v neg N D)(k:aa w w'):Rt w' v neg N D:=by
 obtain⟨a,b,h1,h2,h3⟩:=h;exact⟨a,b,h1,h2.kept k,h3.kept k⟩
def dn(D:Nat):Nat:=if D=0 then 1 else D
def rN(N D:Nat):Nat:=N/Nat.gcd N (dn D)
def rD(N D:Nat):Nat:=dn D/Nat.gcd N (dn D)
def aX(N D:Nat):Bool:=decide (N<iy 2 8192)&&decide (D<iy 2 8192)&&bn (rN N D)&&bn (rD N D)
def ox(neg:Bool)(N D:Nat)(w:World)(e:Ending)(w':World):Prop:=
 ∃p a n c a' n' c',e= .returned (.tuple #[.agg #[.bool p,.slice a n c,.slice a' n' c'],.bool (aX N D)])/\aa w w'/\
  (aX N D=true->Fr w' (.agg #[.bool p,.slice a n c,.slice a' n' c']) (neg&&decide (0<N)) (rN N D) (rD N D))
theorem Kh:(4294967296:Nat)^256=iy 2 8192:=SK 256 8192 rfl
theorem iR{L:Nat}(hd:∀i,i<n->zs i<4294967296):cC zs n<=L↔ak 4294967296 zs n<4294967296^L:=by
 rw[qY (λ i hi=>hd i (jf hi (gN zs n))) (np zs n),pO]
theorem yU{a:Option Addr}{cap:Nat}(h1:n<=cap)(h2:n<=4194304)(h:Ws w a n zs):
 Calls prog 248 #[.slice a n cap] w λ e w'=>e= .returned (.slice a (cC zs n) cap)/\aa w w':=
 (gO w a n cap zs (by omega) h1 h).mono λ e w' ⟨h1,h2⟩=>⟨h1,h2▸aa.refl _⟩
theorem NI(h:Rt w v neg N D)(L:¬(N<iy 2 8192/\D<iy 2 8192)):
 Calls prog 155 #[v] w (ox neg N D w):=by
 have d:aX N D=false:=by unfold aX;simp;omega
 obtain⟨Q,R,rfl,hn,hd⟩:=h;obtain⟨a,n,cap,xs,rfl,O,I,E,rfl,C⟩:=hn;obtain⟨a',b,c,ys,rfl,M,H,B,rfl,A⟩:=hd;rw[<-Kh,<-iR E,<-iR B] at L;have q:=fS.new w (.bool neg) (.slice a n cap) (.slice a' b c) 24;have g:=fS.new (w.alloc (.cells #[.bool neg,.slice a n cap,.slice a' b c] 24)) (.bool false) (.slice none 0 0) (.slice none 0 0) 217;have e:aa w ((w.alloc (.cells #[.bool neg,.slice a n cap,.slice a' b c] 24)).alloc (.cells #[.bool false,.slice none 0 0,.slice none 0 0] 217)):=((aa.refl _).alloc _).alloc _;have p:=q.kept ((aa.refl _).alloc (.cells #[.bool false,.slice none 0 0,.slice none 0 0] 217))
 clear q;have r:(w.alloc (.cells #[.bool neg,.slice a n cap,.slice a' b c] 24)).heap.size=w.heap.size+1:=by simp[go_sem]
 rw[r] at g;clear r;have G:=λ (w':World) (k:aa w w')=>yU O I (C.kept k)
 have F:=λ (w':World) (k:aa w w')=>yU M H (A.kept k)
 have K:=gN xs n;have J:=gN ys b;go_enter func155,ntmps155;go_wp2_with fail
 generalize (w.alloc (.cells #[.bool neg,.slice a n cap,.slice a' b c] 24)).alloc (.cells #[.bool false,.slice none 0 0,.slice none 0 0] 217)=u at*;generalize o:w.heap.size=i at g p⊢;have P:=Lib.hid o;clear o;obtain⟨z,y,x⟩:=p.all;refine ag u (aa.refl _) (by kernel_rfl) (by kernel_rfl) ?_;repeat (go_big_quiet_step (first|(go_at_call_of 248 (Value.slice a n cap);exact aG (G _ (e.trans (KW.kept _))))|(go_at_call 248;exact aG (F _ (e.trans (KW.kept _))))))
 refine wpQuiet_nil ?_;rintro _ ⟨j,rfl⟩
 clear z y x;have l:=j.kept;generalize j.w=t at*;have f:=g.kept l;obtain⟨s,c1,c2,f0,f1,U⟩:=f.facts;have m:aa w (((t.setCell ⟨i+1,0,none⟩ (.bool false)).setCell ⟨i+1,1,none⟩ (.slice none 0 0)).setCell ⟨i+1,2,none⟩ (.slice none 0 0)):=(e.trans l).but (af.eB ..) (by have:=P.out;omega)
 by_cases T:cC xs n<=256
 ·have t1:decide (256<(cC xs n:Int))=false:=by simp;omega
  have S:decide (256<(cC ys b:Int))=true:=by simp;omega
  go_wp2;refine bodyPost_ret (v:=.tuple #[.agg #[.bool false,.slice none 0 0,.slice none 0 0],.bool false]) (by simp[results,results155,go_sem,s,c1,c2]) rfl ⟨false,none,0,0,none,0,0,by rw[d],m,λ h=>by rw[d] at h;cases h⟩
 ·have t1:decide (256<(cC xs n:Int))=true:=by simp;omega
  go_wp2;refine bodyPost_ret (v:=.tuple #[.agg #[.bool false,.slice none 0 0,.slice none 0 0],.bool false]) (by simp[results,results155,go_sem,s,c1,c2]) rfl ⟨false,none,0,0,none,0,0,by rw[d],m,λ h=>by rw[d] at h;cases h⟩
theorem Vs(h:Rt w v neg N D)(S:N<iy 2 8192)(X:D<iy 2 8192)(t:0<D)(hT:cL w):
 Calls prog 155 #[v] w (ox neg N D w):=by
 have pK:aX N D=(bn (rN N D)&&bn (rD N D)):=by unfold aX;simp[S,X]
 have G3:=Lib.hid pK;clear pK;have Y:iy 2 8192<=eV:=mB 8192 16384 (by decide)
 have Q:N<eV:=jf S Y;have V:dn D<eV:=by
  unfold dn;split
  ·exact jf (mK 8192 (by decide)) Y
  ·exact jf X Y
 obtain⟨vn,vd,rfl,hn,hd⟩:=h;obtain⟨a,n,cap,xs,rfl,Lx,tZ,C,rfl,B⟩:=hn;obtain⟨a',b,m,ys,rfl,Ly,Dw,A,rfl,z⟩:=hd;have Vo:cC xs n<=256:=by rw[iR C,Kh];exact S
 have II:cC ys b<=256:=by rw[iR A,Kh];exact X
 have O:Nt 4294967296 w (.slice a (cC xs n) cap) (ak 4294967296 xs n):=iX Lx C B;have P:Nt 4294967296 w (.slice a' (cC ys b) m) (ak 4294967296 ys b):=iX Ly A z;have fZ:=fS.new w (.bool neg) (.slice a n cap) (.slice a' b m) 24;have L:=fS.new (w.alloc (.cells #[.bool neg,.slice a n cap,.slice a' b m] 24)) (.bool false) (.slice none 0 0) (.slice none 0 0) 217;have H:aa w ((w.alloc (.cells #[.bool neg,.slice a n cap,.slice a' b m] 24)).alloc (.cells #[.bool false,.slice none 0 0,.slice none 0 0] 217)):=((aa.refl _).alloc _).alloc _;have M:=fZ.kept ((aa.refl _).alloc (.cells #[.bool false,.slice none 0 0,.slice none 0 0] 217))
 clear fZ;have Dy:(w.alloc (.cells #[.bool neg,.slice a n cap,.slice a' b m] 24)).heap.size=w.heap.size+1:=by simp[go_sem]
 rw[Dy] at L;clear Dy;have Au:=λ (w':World) (k:aa w w')=>yU Lx tZ (B.kept k)
 have Ht:=λ (w':World) (k:aa w w')=>yU Ly Dw (z.kept k)
 generalize U:ak 4294967296 xs n=N at*;generalize T:ak 4294967296 ys b=D at*;clear C A B z U T;have t1:decide (256<(cC xs n:Int))=false:=by simp;omega
 have t2:decide (256<(cC ys b:Int))=false:=by simp;omega
 generalize cC xs n=tn at*;generalize cC ys b=td at*;go_enter func155,ntmps155;go_wp2_with fail
 generalize (w.alloc (.cells #[.bool neg,.slice a n cap,.slice a' b m] 24)).alloc (.cells #[.bool false,.slice none 0 0,.slice none 0 0] 217)=w1 at*;generalize qf:w.heap.size=b0 at L M⊢;have xY:=Lib.hid qf;clear qf;obtain⟨p0,p1,p2⟩:=M.all;refine ag w1 (aa.refl _) (by kernel_rfl) (by kernel_rfl) ?_;repeat (go_big_quiet_step (first|(go_at_call_of 248 (Value.slice a n cap);exact aG (Au _ (H.trans (KW.kept _))))|(go_at_call 248;exact aG (Ht _ (H.trans (KW.kept _))))))
 refine wpQuiet_nil ?_;rintro _ ⟨k2,rfl⟩
 clear p0 p1 p2 Au Ht;have G:=k2.kept;generalize k2.w=w2 at*;have x:=H.trans G;have R:=O.kept x;have W:=P.kept x;obtain⟨c0,_,_,_,_,_⟩:=(M.kept G).facts;have y:=nF W t;have j:dn D=D:=by unfold dn;rw[if_neg (by omega)]
 rw[<-j] at W;have acR:=Lib.hid j;clear j;go_wp2_with(go_at_call 192;refine y.mono ?_;rintro e w' ⟨rfl,rfl⟩)
 have E:=kM neg R W Q V (by rw[acR.out];exact t) (hT.kept x)
 go_wp2_with fail
 refine E.mono ?_;rintro e l ⟨vf,rfl,uR,iO⟩
 have J:=uR;obtain⟨xn,xd,rfl,JO,Ds⟩:=uR;obtain⟨an,c,f,rfl⟩:=JO.shape;obtain⟨ad,d,cd,rfl⟩:=Ds.shape;have CT:=x.trans iO;have r:=(L.kept G).kept iO;go_wp2_with fail
 have i:=fS.new l (.bool (neg&&decide (0<N))) (.slice an c f) (.slice ad d cd) 217;have g:aa l (l.alloc (.cells #[.bool (neg&&decide (0<N)),.slice an c f,.slice ad d cd] 217)):=(aa.refl _).alloc _;have amJ:b0+1≠l.heap.size:=Nat.ne_of_lt (Array.getElem?_eq_some_iff.1 r).1;have K:=r.kept g;have Vu:=J.kept g;have GR:=CT.trans g;generalize l.alloc (.cells #[.bool (neg&&decide (0<N)),.slice an c f,.slice ad d cd] 217)=u at*;generalize l.heap.size=o at*;have fk:∀w',aa u w'->w'.cell? ⟨o,0,none⟩=some (.bool (neg&&decide (0<N)))/\w'.cell? ⟨o,1,none⟩=some (.slice an c f)/\w'.cell? ⟨o,2,none⟩=some (.slice ad d cd):=
  λ w' k=>⟨(i.kept k).facts.1,(i.kept k).facts.2.1,(i.kept k).facts.2.2.1⟩
 have fN:=Lib.hid fk;clear fk;generalize q:(neg&&decide (0<N))=p at*;have Z:=Lib.hid q;clear q;go_region_held3 (λ w'=>w'.cell? ⟨o,0,none⟩=some (.bool p)/\w'.cell? ⟨o,1,none⟩=some (.slice an c f)/\w'.cell? ⟨o,2,none⟩=some (.slice ad d cd))
  (first|exact fN.out _ (aa.refl _).drew|exact fN.out _ ‹aa u _›|go_keep)
  (first|(go_at_call 249;refine(qW (Vu.kept (aa.refl u).drew)).mono ?_;rintro e w6 ⟨rfl,Ce⟩;have s:aa u w6:=(aa.refl u).drew.trans Ce;obtain⟨d0,d1,d2,g0,g1,g2⟩:=(K.kept s).facts))
 have F:=af.eB w6 (b0+1) (.bool p) (.slice an c f) (.slice ad d cd)
 have I:=Vu.kept s;go_wp2;refine bodyPost_ret (v:=.tuple #[.agg #[.bool p,.slice an c f,.slice ad d cd],.bool (aX N D)]) (by rw[G3.out];simp[results,results155,go_sem,d0,d1,d2,rN,rD]) rfl ⟨p,an,c,f,ad,d,cd,rfl,(GR.trans s).but F (by have:=xY.out;omega),λ _=> ?_⟩
 rw[Z.out]
 obtain⟨yn,yd,ye,GU,RD⟩:=I;cases ye
 exact⟨_,_,rfl,GU.ai F (K.kept s).aZ,RD.ai F (K.kept s).aZ⟩
theorem R5(h:Rt w v neg N D)(X:N<iy 2 8192)(hD:D<iy 2 8192)(t:D=0)(hT:cL w):
 Calls prog 155 #[v] w (ox neg N D w):=by
 have pK:aX N D=(bn (rN N D)&&bn (rD N D)):=by unfold aX;simp[X,hD]
 have G3:=Lib.hid pK;clear pK;have x:=Lib.hid t;clear t;have h8:iy 2 8192<=eV:=mB 8192 16384 (by decide)
 have U:N<eV:=jf X h8;have hDB:dn D<eV:=by
  unfold dn;split
  ·exact jf (mK 8192 (by decide)) h8
  ·exact jf hD h8
 obtain⟨vn,vd,rfl,hn,hd⟩:=h;obtain⟨a,n,cap,xs,rfl,Lx,tZ,E,rfl,C⟩:=hn;obtain⟨a',b,l,ys,rfl,Ly,Dw,B,rfl,A⟩:=hd;have Vo:cC xs n<=256:=by rw[iR E,Kh];exact X
 have II:cC ys b<=256:=by rw[iR B,Kh];exact hD
 have S:Nt 4294967296 w (.slice a (cC xs n) cap) (ak 4294967296 xs n):=iX Lx E C;have T:Nt 4294967296 w (.slice a' (cC ys b) l) (ak 4294967296 ys b):=iX Ly B A;have fZ:=fS.new w (.bool neg) (.slice a n cap) (.slice a' b l) 24;have Q:=fS.new (w.alloc (.cells #[.bool neg,.slice a n cap,.slice a' b l] 24)) (.bool false) (.slice none 0 0) (.slice none 0 0) 217;have L:aa w ((w.alloc (.cells #[.bool neg,.slice a n cap,.slice a' b l] 24)).alloc (.cells #[.bool false,.slice none 0 0,.slice none 0 0] 217)):=((aa.refl _).alloc _).alloc _;have R:=fZ.kept ((aa.refl _).alloc (.cells #[.bool false,.slice none 0 0,.slice none 0 0] 217))
 clear fZ;have Dy:(w.alloc (.cells #[.bool neg,.slice a n cap,.slice a' b l] 24)).heap.size=w.heap.size+1:=by simp[go_sem]
 rw[Dy] at Q;clear Dy;have Au:=λ (w':World) (k:aa w w')=>yU Lx tZ (C.kept k)
 have Ht:=λ (w':World) (k:aa w w')=>yU Ly Dw (A.kept k)
 generalize Z:ak 4294967296 xs n=N at*;generalize Y:ak 4294967296 ys b=D at*;clear E B C A Z Y;have t1:decide (256<(cC xs n:Int))=false:=by simp;omega
 have t2:decide (256<(cC ys b:Int))=false:=by simp;omega
 generalize cC xs n=tn at*;generalize cC ys b=td at*;go_enter func155,ntmps155;go_wp2_with fail
 generalize (w.alloc (.cells #[.bool neg,.slice a n cap,.slice a' b l] 24)).alloc (.cells #[.bool false,.slice none 0 0,.slice none 0 0] 217)=w1 at*;generalize qf:w.heap.size=b0 at Q R⊢;have xY:=Lib.hid qf;clear qf;obtain⟨p0,p1,p2⟩:=R.all;refine ag w1 (aa.refl _) (by kernel_rfl) (by kernel_rfl) ?_;repeat (go_big_quiet_step (first|(go_at_call_of 248 (Value.slice a n cap);exact aG (Au _ (L.trans (KW.kept _))))|(go_at_call 248;exact aG (Ht _ (L.trans (KW.kept _))))))
 refine wpQuiet_nil ?_;rintro _ ⟨k2,rfl⟩
 clear p0 p1 p2 Au Ht;have K:=k2.kept;generalize k2.w=w2 at*;have H:=L.trans K;have W:=S.kept H;have Sz:=T.kept H;obtain⟨c0,_,_,_,_,_⟩:=(R.kept K).facts;have amL:Nt 4294967296 w2 (.slice a' td l) 0:=by rw[<-x.out];exact Sz
 have z:=ud amL;have F:=eQ w2 1 (by decide)
 go_wp2_with(first|(go_at_call 192;refine z.mono ?_;rintro e w' ⟨rfl,rfl⟩)|(go_at_call 189;refine F.mono ?_;rintro e w3 ⟨v3,rfl,sV,y⟩;have c0':=y.cell c0))
 have qA:=H.trans y;have J:=K.trans y;have V:=W.kept y;have j:dn D=1:=by unfold dn;rw[if_pos x.out]
 rw[<-j] at sV;have acR:=Lib.hid j;clear j;have G:=kM neg V sV U hDB (by rw[acR.out];exact Nat.one_pos) (hT.kept qA)
 go_wp2_with fail
 refine G.mono ?_;rintro e m ⟨vf,rfl,uR,iO⟩
 have O:=uR;obtain⟨xn,xd,rfl,JO,Ds⟩:=uR;obtain⟨an,c,f,rfl⟩:=JO.shape;obtain⟨ad,d,cd,rfl⟩:=Ds.shape;have CT:=qA.trans iO;have r:=(Q.kept J).kept iO;go_wp2_with fail
 have i:=fS.new m (.bool (neg&&decide (0<N))) (.slice an c f) (.slice ad d cd) 217;have g:aa m (m.alloc (.cells #[.bool (neg&&decide (0<N)),.slice an c f,.slice ad d cd] 217)):=(aa.refl _).alloc _;have amJ:b0+1≠m.heap.size:=Nat.ne_of_lt (Array.getElem?_eq_some_iff.1 r).1;have P:=r.kept g;have Vu:=O.kept g;have GR:=CT.trans g;generalize m.alloc (.cells #[.bool (neg&&decide (0<N)),.slice an c f,.slice ad d cd] 217)=u at*;generalize m.heap.size=o at*;have fk:∀w',aa u w'->w'.cell? ⟨o,0,none⟩=some (.bool (neg&&decide (0<N)))/\w'.cell? ⟨o,1,none⟩=some (.slice an c f)/\w'.cell? ⟨o,2,none⟩=some (.slice ad d cd):=
  λ w' k=>⟨(i.kept k).facts.1,(i.kept k).facts.2.1,(i.kept k).facts.2.2.1⟩
 have fN:=Lib.hid fk;clear fk;generalize q:(neg&&decide (0<N))=p at*;have HPE:=Lib.hid q;clear q;go_region_held3 (λ w'=>w'.cell? ⟨o,0,none⟩=some (.bool p)/\w'.cell? ⟨o,1,none⟩=some (.slice an c f)/\w'.cell? ⟨o,2,none⟩=some (.slice ad d cd))
  (first|exact fN.out _ (aa.refl _).drew|exact fN.out _ ‹aa u _›|go_keep)
  (first|(go_at_call 249;refine(qW (Vu.kept (aa.refl u).drew)).mono ?_;rintro e w6 ⟨rfl,Ce⟩;have s:aa u w6:=(aa.refl u).drew.trans Ce;obtain⟨d0,d1,d2,g0,g1,g2⟩:=(P.kept s).facts))
 have I:=af.eB w6 (b0+1) (.bool p) (.slice an c f) (.slice ad d cd)
 have M:=Vu.kept s;go_wp2;refine bodyPost_ret (v:=.tuple #[.agg #[.bool p,.slice an c f,.slice ad d cd],.bool (aX N D)]) (by rw[G3.out];simp[results,results155,go_sem,d0,d1,d2,rN,rD]) rfl ⟨p,an,c,f,ad,d,cd,rfl,(GR.trans s).but I (by have:=xY.out;omega),λ _=> ?_⟩
 rw[HPE.out]
 obtain⟨yn,yd,ye,GU,RD⟩:=M;cases ye
 exact⟨_,_,rfl,GU.ai I (P.kept s).aZ,RD.ai I (P.kept s).aZ⟩
theorem lN(h:Rt w v neg N D)(b:cL w):Calls prog 155 #[v] w (ox neg N D w):=by
 by_cases a:N<iy 2 8192/\D<iy 2 8192
 ·by_cases c:D=0
  ·exact R5 h a.1 a.2 c b
  ·exact Vs h a.1 a.2 (by omega) b
 ·exact NI h a
theorem Rz(w:World)(b off n cap:Nat)(zs:Nat->Nat)(hn:n<=4611686018427387904)(o:n<=cap)
 (hc:∀i,i<n->w.cell? ⟨b,off+i,none⟩=some (.int .u32 (zs i:Nat))):
 Calls prog 304 #[.slice (some ⟨b,off,none⟩) n cap] w λ e w'=>e= .returned (.slice (some ⟨b,off,none⟩) (cC zs n) cap)/\w=w':=by
 have g:=gN zs n;go_enter func304,ntmps304;go_wp2;go_loop [3] (λ s=>∃k:Nat,k<=n/\s= .int .i64 (k:Int)/\cC zs k=cC zs n) (λ s=>(intOf s).toNat)
 case atStart=>exact⟨n,aU _,rfl,rfl⟩
 case round=>
  obtain⟨k,m,rfl,f⟩:=hrel;have c:=Lib.hid f;clear f;by_cases h:k=0
  ·subst h;have a:=c.out;simp only[cC] at a;have l:=Lib.hid a;clear a;go_wp2;go_ret;exact⟨by rw[<-l.out];rfl,rfl⟩
  ·obtain⟨j,rfl⟩:∃j,k=j+1:=⟨k-1,by omega⟩
   have h1:=hc j (by omega)
   have q:=Lib.hid hc;clear hc;by_cases a:zs j=0
   ·have d:=Lib.hid a;rw[a] at h1;clear a;go_wp2;go_round;case rel=>exact⟨j,by omega,by go_num,by rw[<-c.out];simp[cC,d.out]⟩
    case measure=>simp[intOf]
   ·have p:((zs j:Int)==0)=false:=by simpa using a
    have d:=Lib.hid a;clear a;go_wp2;go_ret;exact⟨by rw[<-c.out];simp[cC,d.out],rfl⟩
theorem RA(w:World)(a:Option Addr)(cap:Nat):
 Calls prog 304 #[.slice a 0 cap] w λ e w'=>e= .returned (.slice a 0 cap)/\w=w':=by
 cases a with
 |none=>
  go_enter func304,ntmps304;go_wp2;go_loop [3] (λ s=>s= .int .i64 0) (λ s=>0)
  case atStart=>rfl
  case round=>
   subst hrel;go_wp2;go_ret;exact⟨rfl,rfl⟩
 |some a=>
  go_enter func304,ntmps304;go_wp2;go_loop [3] (λ s=>s= .int .i64 0) (λ s=>0)
  case atStart=>rfl
  case round=>
   subst hrel;go_wp2;go_ret;exact⟨rfl,rfl⟩
theorem iE(w:World)(a:Option Addr)(n cap:Nat)(zs:Nat->Nat)(hn:n<=4611686018427387904)(c:n<=cap)(h:Ws w a n zs):
 Calls prog 304 #[.slice a n cap] w λ e w'=>e= .returned (.slice a (cC zs n) cap)/\w=w':=by
 rcases h.open with rfl|⟨_,b,off,rfl,hc⟩
 ·exact RA w a cap
 ·exact Rz w b off n cap zs hn c hc
theorem jc(w:World)(x:Nat):Ws (w.alloc (Obj.cells #[Value.int IntKind.u32 (x:Int)] 191)) (some ⟨w.heap.size,0,none⟩) 1 (λ _=>x):=by
 have h:(w.alloc (Obj.cells #[Value.int IntKind.u32 (x:Int)] 191)).rowIs w.heap.size 191 1 (λ j=>.int .u32 (((λ _=>x) j:Nat))):=
  World.rowIs_alloc w _ 191 _ λ i hi=>by
   match i,hi with
   |0,_=>rfl
 exact ly.ws h (aU _)
structure OfI(m x n:Nat)(zs:Nat->Nat):Prop where
 lt:∀i,i<n->zs i<65536
 eq:ak 65536 zs n+x*65536^n=m
theorem OfI.step{x:Nat}(h:OfI m x n zs):OfI m (x/65536) (n+1) (pG zs n λ _=>x%65536):=by
 have e0:ak 65536 (pG zs n λ _=>x%65536) n=ak 65536 zs n:=iU λ i hi=>by simp[pG,hi]
 refine⟨λ i hi=> ?_,?_⟩
 ·unfold pG;split
  ·exact h.lt i ‹_›
  ·exact Nat.mod_lt _ (by decide)
 ·have e:=h.eq;simp only[ak]
  rw[e0,Nat.pow_succ]
  have e1:pG zs n (λ _=>x%65536) n=x%65536:=by simp[pG]
  rw[e1]
  have hm:=Nat.mod_add_div x 65536;generalize x%65536=r at*;generalize x/65536=q at*;generalize 65536^n=P at*;subst hm
  grind
theorem j6(w:World)(m:Nat)(hm:m<18446744073709551616):Calls prog 214 #[.int .u64 (m:Int)] w (eX 65536 m w):=by
 go_enter func214,ntmps214;go_wp2;go_loopw [0,3] (λ c v wr=>∃(x n:Nat)(zs:Nat->Nat),c= .int .u64 (x:Int)/\x<=m/\n<=4/\x<65536^(4-n)/\OfI m x n zs/\(tQ zs n∨0<x)/\Ap wr w.heap.size v n zs/\aa w wr) (λ c _ _=>(intOf c).toNat)
 case atStart=>exact⟨m,0,λ _=>0,rfl,aU _,by omega,by simpa using hm,⟨λ _ h=>by omega,by simp[ak]⟩,.inl (.inl rfl),Ap.nil _ _ _,aa.refl _⟩
 case round=>
  obtain⟨x,n,zs,rfl,l,q,hxb,d,p,k,i⟩:=hrel;have b:=Lib.hid hxb;clear hxb;by_cases y:x=0
  ·subst y;obtain⟨a,cap,rfl,t,o⟩:=k.ws;go_wp2;go_ret;refine⟨_,rfl,⟨a,n,cap,zs,rfl,t,d.lt,?_,?_,o⟩,i⟩
   ·rcases p with h|h
    ·exact h
    ·omega
   ·have:=d.eq;simpa using this
  ·have t1:0<x:=by omega
   have r:n<4:=by
    by_cases e:n=4
    ·have:=b.out;rw[e] at this;simp at this;omega
    ·omega
   have j:=k.alloc (Obj.cells #[Value.int IntKind.u32 ((x%65536:Nat):Int)] 191)
   have g:=i.alloc (Obj.cells #[Value.int IntKind.u32 ((x%65536:Nat):Int)] 191)
   have f:=jc wr (x%65536)
   have e1:((x%65536:Nat):Int)=(x:Int)%65536:=by omega
   rw[e1] at j g f;clear e1;go_wp2_with(at_builtin;refine aM rfl (.tmp 6) (.tmp 10) 95 rfl underlying95 w g _ n zs rfl j ⟨wr.heap.size,0,none⟩ 1 1 (λ _=>x%65536) rfl f (by omega) ?_;intro v' z u s)
   go_roundw
   case rel=>
    refine⟨x/65536,n+1,_,by simp,by omega,by omega,?_,d.step,?_,u,s⟩
    ·have:=b.out;rw[show 4-n=4-(n+1)+1 by omega,Nat.pow_succ] at this;exact Nat.div_lt_of_lt_mul (by rw[Nat.mul_comm];exact this)
    ·by_cases A:x/65536=0
     ·exact .inl (.inr (by simp[pG];omega))
     ·exact .inr (by omega)
   case measure=>simp[intOf];omega
theorem YC(w:World)(b off cap b' h l n:Nat)(xs ys:Nat->Nat)(hn:n<=4611686018427387904)
 (hx:∀i,i<n->w.cell? ⟨b,off+i,none⟩=some (.int .u32 (xs i:Nat)))
 (f:∀i,i<n->w.cell? ⟨b',h+i,none⟩=some (.int .u32 (ys i:Nat))):
 Calls prog 364 #[.slice (some ⟨b,off,none⟩) n cap,.slice (some ⟨b',h,none⟩) n l] w λ e w'=>e= .returned (.int .i64 (fP xs ys n))/\aa w w':=by
 go_enter func364,ntmps364;go_wp2;go_loopw [5] (λ i wr=>∃k:Nat,k<=n/\i= .int .i64 ((k:Int)-1)/\fP xs ys k=fP xs ys n/\aa w wr) (λ i _=>(intOf i+1).toNat)
 case atStart=>exact⟨n,aU _,rfl,rfl,aa.refl _⟩
 case round=>
  obtain⟨k,m,rfl,j,a⟩:=hrel;have d:=Lib.hid j;clear j;cases k with
  |zero=>
   go_wp2;go_ret;exact⟨by rw[<-d.out];rfl,a⟩
  |succ k=>
   have h1:=a.cell (hx k (by omega))
   have h2:=a.cell (f k (by omega))
   have p:=Lib.hid hx;clear hx;have o:=Lib.hid f;clear f;by_cases g:xs k<ys k
   ·go_wp2;go_quiet (fail)
    go_wp2;go_ret;exact⟨by rw[<-d.out];simp[fP,g],a.drewN _⟩
   ·by_cases c:ys k<xs k
    ·go_wp2;go_quiet (fail)
     go_wp2;go_quiet (fail)
     go_wp2;go_ret;exact⟨by rw[<-d.out];simp[fP,g,c],by first|exact(a.drewN _).drewN _|exact a.drewN _⟩
    ·go_wp2;go_quiet (fail)
     go_wp2;go_quiet (fail)
     go_wp2;go_roundw
     case rel=>exact⟨k,by omega,by go_num,by rw[<-d.out];simp[fP,g,c],by first|exact(a.drewN _).drewN _|exact a.drewN _⟩
     case measure=>simp[intOf]
theorem RL(w:World)(a a':Option Addr)(cap b:Nat):
 Calls prog 364 #[.slice a 0 cap,.slice a' 0 b] w λ e w'=>e= .returned (.int .i64 0)/\w=w':=by
 go_enter func364,ntmps364;go_wp2;go_loop [5] (λ i=>i= .int .i64 (-1)) (λ _=>0)
 case atStart=>rfl
 case round=>
  subst hrel;go_wp2;go_ret;exact⟨rfl,rfl⟩
theorem PK(w:World)(a a':Option Addr)(n b cap c:Nat)(h:n<b∨b<n):
 Calls prog 364 #[.slice a n cap,.slice a' b c] w λ e w'=>e= .returned (.int .i64 (if n<b then -1 else 1))/\w=w':=by
 by_cases h1:n<b
 ·have h2:n≠b:=by omega
  go_enter func364,ntmps364;go_wp2;go_ret;simp
 ·have h2:n≠b:=by omega
  go_enter func364,ntmps364;go_wp2;go_ret;simp
theorem nM{B:Nat}(g:Bs B)(hv:Nt B w v m)(l:Nt B w u k)(hm:m<eV):
 Calls prog 364 #[v,u] w λ e w'=>e= .returned (.int .i64 (bN m k))/\aa w w':=by
 obtain⟨a,n,cap,xs,rfl,hc,hd,hn,rfl,hw⟩:=hv;obtain⟨a',c,f,ys,rfl,q,h,o,rfl,hw'⟩:=l;have p:=cV g hn hm;by_cases h1:n<c
 ·refine(PK w a a' n c cap f (.inl h1)).mono λ e w' ⟨he,d⟩=> ?_;have:=lH g.pos hd o h1;subst d;exact⟨by rw[he,if_pos h1,bN,if_pos this],aa.refl _⟩
 ·by_cases h2:c<n
  ·refine(PK w a a' n c cap f (.inr h2)).mono λ e w' ⟨he,d⟩=> ?_;have:=lH g.pos h hn h2;subst d;exact⟨by rw[he,if_neg h1,bN,if_neg (by omega),if_pos this],aa.refl _⟩
  ·obtain rfl:n=c:=by omega
   rw[<-sr hd h]
   rcases hw.open with rfl|⟨r,b,off,rfl,hx⟩
   ·refine(RL w a a' cap f).mono λ e w' ⟨he,d⟩=> ?_;subst d;exact⟨he,aa.refl _⟩
   ·rcases hw'.open with rfl|⟨_,b',i,rfl,j⟩
    ·omega
    ·exact YC w b off cap b' i f n xs ys (by omega) hx j
theorem RM(w:World)(b off cap b' t H n a:Nat)(xs ys:Nat->Nat)(hn:n<=1024)(N:a<=1024)(T:0<n)(S:0<a)
 (v:∀i,i<n->xs i<65536)(h:∀i,i<a->ys i<65536)
 (hx:∀i,i<n->w.cell? ⟨b,off+i,none⟩=some (.int .u32 (xs i:Nat)))
 (u:∀i,i<a->w.cell? ⟨b',t+i,none⟩=some (.int .u32 (ys i:Nat))):
 Calls prog 303 #[.slice (some ⟨b,off,none⟩) n cap,.slice (some ⟨b',t,none⟩) a H] w (eX 65536 (ak 65536 xs n*ak 65536 ys a) w):=by
 have y:=λ w=>run_make_row' (P:=prog) 95 191 (.int .u32 0) 4 underlying95 fO rfl .i64 .i64 (n+a) (by omega) (by omega) w;have ec:((n+a:Nat):Int)=(n:Int)+(a:Int):=by omega
 rw[ec] at y;clear ec;have K:=Lib.hid v;clear v;have I:=Lib.hid h;clear h;have L:=Lib.hid hx;clear hx;have J:=Lib.hid u;clear u;have q1:((n:Int)==0)=false:=by simp;omega
 have M:((a:Int)==0)=false:=by simp;omega
 go_enter func303,ntmps303;go_wp2;clear y;go_loopw [28] (λ i wr=>∃(k:Nat)(zs:Nat->Nat),k<=n/\i= .int .i64 (k:Int)/\qH 65536 xs ys a k zs/\ly wr w.heap.size (n+a) zs/\aa w wr) (λ i _=>n-(intOf i).toNat)
 case atStart=>exact⟨0,λ _=>0,eo _,rfl,qH.start (by decide),ly.made _ _,(aa.refl _).alloc _⟩
 case round=>
  obtain⟨k,Dr,Q,rfl,m,p,r⟩:=hrel;by_cases A:k<n
  ·have h1:=r.cell (L.out k A)
   have x:=K.out k A;go_wp2;obtain⟨s,rfl⟩:∃s:World,s=wr:=⟨_,rfl⟩
   go_loopw [8,35] (λ c j wr=>∃(l d:Nat)(zs:Nat->Nat),l<=a/\j= .int .i64 (l:Int)/\c= .int .u64 (d:Int)/\uN 65536 xs ys Dr k l zs d/\ly wr w.heap.size (n+a) zs/\aa w wr) (λ _ j _=>a-(intOf j).toNat)
   case atStart=>exact⟨0,0,Dr,eo _,rfl,rfl,uN.start (by decide) m.lt,p,r⟩
   case round=>
    obtain⟨l,d,zs,O,rfl,rfl,f,g,q⟩:=hrel;by_cases z:l<a
    ·have h2:=q.cell (J.out l z)
     have h:=I.out l z;have h3:=g.cell (i:=k+l) (by omega)
     have G:=g.frozen (k+l)
     have E:=f.lt (k+l)
     have C:=f.wI;have R:=jR x h E C;have D:zs (k+l)+xs k*ys l+d=xs k*ys l+zs (k+l)+d:=by omega
     have F:xs k*ys l<65536*65536:=by omega
     have o:=Lib.hid (f.step x h)
     clear f;go_wp2;go_roundw
     case rel=>
      refine⟨l+1,(xs k*ys l+zs (k+l)+d)/65536,ep zs (k+l) ((xs k*ys l+zs (k+l)+d)%65536),by omega,by go_num,by rw[<-D];simp,o.out,?_,q.setCell (aU _) _⟩
      have:=g.set (k+l) ((xs k*ys l+zs (k+l)+d)%65536)
      rw[<-D] at this⊢;simpa using this
     case measure=>simp[intOf];omega
    ·obtain rfl:a=l:=by omega
     have G:=g.frozen (k+a)
     have h3:=g.cell (i:=k+a) (by omega)
     have C:=f.wI;have o:=Lib.hid (m.step f)
     clear f m;go_wp2;go_roundw
     case rel=>
      refine⟨k+1,ep zs (k+a) d,by omega,by go_num,o.out,?_,q.setCell (aU _) _⟩
      exact g.set (k+a) d
     case measure=>simp[intOf];omega
  ·obtain rfl:n=k:=by omega
   go_wp2_with(go_at_call 304;refine(iE _ _ _ _ Dr (by omega) (aU _) (p.ws (aU _))).mono ?_;rintro e w' ⟨rfl,rfl⟩)
   go_ret;refine⟨_,rfl,?_,r⟩
   have:=iX (B:=65536) (cap:=n+a) (aU _) (λ i _=>m.lt i) (p.ws (aU _))
   rw[m.eq] at this;exact this
theorem EJ(w:World)(a a':Option Addr)(n b cap c:Nat)(h:n=0∨b=0):
 Calls prog 303 #[.slice a n cap,.slice a' b c] w (eX 65536 0 w):=by
 by_cases h1:n=0
 ·subst h1;go_enter func303,ntmps303;go_wp2;go_ret;exact⟨_,rfl,⟨none,0,0,λ _=>0,rfl,aU _,λ _ h=>by omega,.inl rfl,rfl,λ _ h=>by omega⟩,aa.refl _⟩
 ·obtain rfl:b=0:=by omega
  have q1:((n:Int)==0)=false:=by simp;omega
  go_enter func303,ntmps303;go_wp2;go_ret;exact⟨_,rfl,⟨none,0,0,λ _=>0,rfl,aU _,λ _ h=>by omega,.inl rfl,rfl,λ _ h=>by omega⟩,aa.refl _⟩
theorem ry(hv:Nt 65536 w v m)(g:Nt 65536 w u k)(hm:m<eV)(l:k<eV):
 Calls prog 303 #[v,u] w (eX 65536 (m*k) w):=by
 obtain⟨a,n,cap,xs,rfl,hc,hd,hn,rfl,hw⟩:=hv;obtain⟨a',d,c,ys,rfl,r,o,h,rfl,hw'⟩:=g;have j:=cV (.inl rfl) hn hm;have i:=cV (.inl rfl) h l;rcases hw.open with rfl|⟨q,b,off,rfl,hx⟩
 ·have:=EJ w a a' 0 d cap c (.inl rfl)
  simpa [ak] using this
 ·rcases hw'.open with rfl|⟨p,b',e,rfl,f⟩
  ·have:=EJ w (some ⟨b,off,none⟩) a' n 0 cap c (.inr rfl)
   simpa [ak] using this
  ·exact RM w b off cap b' e c n d xs ys j i q p hd o hx f
theorem JR(w:World)(a:Option Addr)(cap n d:Nat)(xs:Nat->Nat)(hn:n<=1024)(s:0<d)(hd:d<65536)
 (h:∀i,i<n->xs i<65536)(hx:Ws w a n xs):
 Calls prog 310 #[.slice a n cap,.int .u32 (d:Int)] w (GX 65536 (ak 65536 xs n/d) (ak 65536 xs n%d) w):=by
 have q:=λ w=>run_make_row' (P:=prog) 95 191 (.int .u32 0) 4 underlying95 fO rfl .i64 .i64 n (by omega) (by omega) w;have t:=Lib.hid h;clear h;have u:=Lib.hid hx;clear hx;go_enter func310,ntmps310;go_wp2;clear q;go_loopw [7,8] (λ o i wr=>∃(k r:Nat)(zs:Nat->Nat),k<=n/\i= .int .i64 ((k:Int)-1)/\o= .int .u32 (r:Int)/\yg 65536 xs n d k zs r/\ly wr w.heap.size n zs/\aa w wr) (λ _ i _=>(intOf i+1).toNat)
 case atStart=>exact⟨n,0,λ _=>0,aU _,rfl,rfl,yg.start (by decide) s,ly.made _ _,(aa.refl _).alloc _⟩
 case round=>
  obtain⟨k,r,zs,v,rfl,rfl,c,f,g⟩:=hrel;cases k with
  |zero=>
   have l:=c.WM;go_wp2_with(go_at_call 304;refine(iE _ _ _ _ zs (by omega) (aU _) (f.ws (aU _))).mono ?_;rintro e w' ⟨rfl,rfl⟩)
   go_ret2;have m:=c.done;refine⟨.slice (some ⟨w.heap.size,0,none⟩) (cC zs n) n,by rw[<-m.2];rfl,?_,g⟩
   have:=iX (B:=65536) (cap:=n) (aU _) (λ i _=>c.lt i) (f.ws (aU _))
   rw[m.1] at this;exact this
  |succ k=>
   obtain⟨b,off,rfl,hc⟩:=u.out k (by omega)
   have h1:=g.cell hc;have z:=Lib.hid hc;clear hc;have j:=t.out k (by omega)
   have h3:=f.cell (i:=k) (by omega)
   have y:=f.frozen k;have l:=c.WM;have p:=Lib.hid (c.step (by omega) j)
   have x:=tU l j;clear c;go_wp2;go_roundw
   case rel=>
    refine⟨k,(r*65536+xs k)%d,ep zs k ((r*65536+xs k)/d),by omega,rfl,by simp,p.out,?_,g.setCell (aU _) _⟩
    have e1:(((r:Int)*65536+(xs k:Int))/(d:Int))=(((r*65536+xs k)/d:Nat):Int):=by simp
    rw[e1]
    exact f.set _ _
   case measure=>simp[intOf]
theorem GY(hv:Nt 65536 w v m)(hm:m<eV)(c:0<d)(hd:d<65536):
 Calls prog 310 #[v,.int .u32 (d:Int)] w (GX 65536 (m/d) (m%d) w):=by
 obtain⟨a,n,cap,xs,rfl,hc,b,hn,rfl,hw⟩:=hv;exact JR w a cap n d xs (cV (.inl rfl) hn hm) c hd b hw
end Go.Proofs.YtbapfnpbamnmpaaGreatDoor
