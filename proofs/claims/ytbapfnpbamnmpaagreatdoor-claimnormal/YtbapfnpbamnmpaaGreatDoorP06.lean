/- A part of the proof that the text which Print makes of a parsed text is a normal form -/
import Derived.Test.YtbapfnpbamnmpaaGreatDoorP00
import Derived.Test.YtbapfnpbamnmpaaGreatDoorP05
import Derived.Deep.RegionHeld3
import Derived.Deep.LoopGhost
set_option maxHeartbeats 8000000
set_option maxRecDepth 100000
namespace Go.Proofs.YtbapfnpbamnmpaaGreatDoor
open Go Go.RowKit Go.Dig Go.Deep Go.Eng Go.Proofs.Tryz
variable{d k m n:Nat}{w:World}{v vd vn:Value}{neg:Bool}
def Mid:Nat:=iy 2 16000
theorem GP{s:Nat}(hm:m<Mid)(hs:s<=15):m*2^s*65536<eV:=by
 have h1:2^s<=2^15:=Nat.pow_le_pow_right (by decide) hs;have h2:m*2^s*65536<=m*2^15*65536:=wC _ (Nat.mul_le_mul_left _ h1)
 have h3:m*2^15*65536<Mid*2^15*65536:=Nat.mul_lt_mul_of_pos_right (Nat.mul_lt_mul_of_pos_right hm (by decide)) (by decide)
 have a:Mid*2^15*65536<=eV:=by
  have e1:(2:Nat)^15=iy 2 15:=(gw 2 15).symm;have b:(65536:Nat)=iy 2 16:=by rw[gw]
  unfold Mid;rw[e1,b,tT 16000 15 16015 rfl,tT 16015 16 16031 rfl]
  exact mB 16031 16384 (by decide)
 exact jf (Nat.lt_of_le_of_lt h2 h3) a
theorem iu(hm:m<Mid):m<eV:=by
 have h:=GP hm (s:=0) (by decide)
 rw[Nat.pow_zero,Nat.mul_one] at h;exact Nat.lt_of_le_of_lt (Nat.le_mul_of_pos_right m (by decide)) h
theorem UK{y t:Nat}(a:0<y)(h:y*2^t<65536):t<=15:=by
 have h1:2^t<=y*2^t:=Nat.le_mul_of_pos_left _ a;have h2:2^t<2^16:=Nat.lt_of_le_of_lt h1 h;have:=(Nat.pow_lt_pow_iff_right (by decide:1<2)).1 h2;omega
theorem zU(w:World)(a:Option Addr)(n cap:Nat)(zs:Nat->Nat)(hn:n<=4611686018427387904)(b:n<=cap)(h:Ws w a n zs):
 Calls prog 304 #[.slice a n cap] w λ e w'=>e= .returned (.slice a (cC zs n) cap)/\aa w w':=
 (iE w a n cap zs hn b h).mono λ _ _ ⟨h1,h2⟩=>⟨h1,h2▸aa.refl _⟩
theorem UL{B D M Q L:Nat}{us qs:Nat->Nat}(h:LD B D n M Q L 0 us qs):ak B us n=M%D:=by
 have a:=h.lt;have he:=h.eq;simp only[lp,Nat.pow_zero,Nat.mul_one] at a he;rw[<-he,Nat.add_mul_mod_self_right,Nat.mod_eq_of_lt a]
theorem RB(n b off cap:Nat)(ys:Nat->Nat)
 (hv:Nt 65536 w v m)(hm:m<Mid)
 (hu:Nt 65536 w (.slice (some ⟨b,off,none⟩) n cap) (ak 65536 ys n))
 (hn:2<=n)(tZ:n<=1024)(_hk0:0<ak 65536 ys n)(mv:∀i,i<n->ys i<65536)(J:0<ys (n-1))
 (hy:∀i,i<n->w.cell? ⟨b,off+i,none⟩=some (.int .u32 (ys i:Nat)))(hk:ak 65536 ys n<Mid)(x:ak 65536 ys n<=m):
 Calls prog 301 #[v,.slice (some ⟨b,off,none⟩) n cap] w (GQ (m/ak 65536 ys n) (m%ak 65536 ys n) w):=by
 have OA:0<=bN m (ak 65536 ys n):=by unfold bN;split<;>(try split)<;>omega
 have BX:=nM (.inl rfl) hv hu (iu hm)
 generalize bN m (ak 65536 ys n)=ci at*;have UM:=mv (n-1) (by omega)
 have c1:=hy (n-1) (by omega)
 have Aq:=Lib.hid mv;clear mv;have HY:=Lib.hid hy;clear hy;have HM:=Lib.hid hm;clear hm;have HK:=Lib.hid hk;clear hk;have q0:((n:Int)==0)=false:=by simp;omega
 have q1:((n:Int)==1)=false:=by simp;omega
 obtain⟨y,o⟩:∃y,y=ys (n-1):=⟨_,rfl⟩
 rw[<-o] at J UM c1;have HYE:=Lib.hid o;clear o;go_enter func301,ntmps301;go_wp2_with(go_at_call 364;refine BX.mono ?_;rintro e w1 ⟨rfl,I⟩;have c2:=I.cell c1)
 go_loop [8] (λ sv=>∃t:Nat,sv= .int .i64 (t:Int)/\y*2^t<65536) (λ sv=>16-(intOf sv).toNat)
 case atStart=>exact⟨0,rfl,by simpa using UM⟩
 case round=>
  obtain⟨s,rfl,F⟩:=hrel;have M:=UK J F;obtain⟨p,hp⟩:∃p,y*2^s=p:=⟨_,rfl⟩
  have hsh:(y:Int)*2^s%4294967296=(p:Int):=by
   rw[show(y:Int)*2^s=((y*2^s:Nat):Int) by simp,hp]
   exact Gl (by omega)
  rw[hp] at F;have HP:=Lib.hid hp;clear hp;by_cases H:p<32768
  ·have t1:decide ((p:Int)<32768)=true:=by simp;omega
   have HLT:=Lib.hid H;clear H;have Yu:=Lib.hid F;clear F;go_wp2;go_round;case rel=>exact⟨s+1,by go_num,by rw[Nat.pow_succ,<-Nat.mul_assoc,HP.out];have:=HLT.out;omega⟩
   case measure=>simp[intOf];omega
  ·have t1:decide ((p:Int)<32768)=false:=by simp;omega
   have N:(y+1)*2^s<=65536:=SM (by omega) (by rw[HP.out];exact F)
   obtain⟨UC,Sz⟩:=Bq (n:=n) (s:=s) (by omega) Aq.out (by rw[<-HYE.out,HP.out];omega) (by rw[<-HYE.out];exact N)
   have hKB:=GP HK.out M;have C:=GP HM.out M;generalize QE:ak 65536 ys n=k at*;clear H F N;go_wp2_with fail
   clear t1 hsh;refine(M7 (hu.kept I) (iu HK.out) M).mono ?_;rintro e w2 ⟨vd,rfl,oy,cJ⟩
   obtain⟨ad,f,aY,ds,rfl,FA,SQ,xX,Is,z⟩:=oy;obtain⟨rfl,W⟩:=Ao (n:=n) (by omega) SQ xX Is UC Sz;have Q:∀(g:Nat->Nat)(ns:Nat),(∀i,i<ns->g i<65536)->tQ g ns->ak 65536 g ns=m*2^s->f<=ns/\ns<=1024:=λ g ns h1 h2 h3=>by
    constructor
    ·by_cases h:ns<f
     ·have a:=dJ h1;have b:(65536:Nat)^ns<=65536^(f-1):=Nat.pow_le_pow_right (by decide) (by omega)
      have c:k*2^s<=m*2^s:=wC _ x;have d:0<(65536:Nat)^(f-1):=Nat.pow_pos (by decide)
      omega
     ·omega
    ·exact cV (.inl rfl) h2 (by rw[h3];exact Nat.lt_of_le_of_lt (Nat.le_mul_of_pos_right _ (by decide)) C)
   have HNS:=Lib.hid Q;clear Q;have Wo:=Lib.hid UC;clear UC;have Wp:=Lib.hid Sz;clear Sz;have HKB:=Lib.hid hKB;clear hKB;have HMB:=Lib.hid C;clear C;have HDL:=Lib.hid SQ;clear SQ;have HDN:=Lib.hid xX;clear xX;have Wq:=Lib.hid Is;clear Is;have HDT:=Lib.hid W;clear W;have HLE:=Lib.hid x;clear x;go_wp2_with fail
   refine(JK ((hv.kept I).kept cJ) (iu HM.out) M).mono ?_;rintro e w3 ⟨vs,ns,g,rfl,pH,St,Lw,DH,dF⟩
   obtain⟨alU,as1⟩:=HNS.out g ns St Lw DH;have HSL:=Lib.hid St;clear St;have HSV:=Lib.hid DH;clear DH;clear Lw HNS;have eT:=pH.alloc (Obj.cells #[Value.int IntKind.u32 ((0:Nat):Int)] 191)
   have cM:aa w2 (w3.alloc (Obj.cells #[Value.int IntKind.u32 ((0:Nat):Int)] 191)):=dF.alloc _;have eU:=jc w3 0;rw[show((0:Nat):Int)=0 from rfl] at eT cM eU;obtain⟨sa,af7,rfl,apg,_⟩:=pH.ws;have nV:=λ w=>run_make_row' (P:=prog) 95 191 (.int .u32 0) 4 underlying95 fO rfl .i64 .i64 (ns+1-f) (by omega) (by omega) w;have ec:((ns+1-f:Nat):Int)=(ns:Int)+1-(f:Int):=by omega
   rw[ec] at nV;clear ec;go_wp2_with(at_builtin;refine aM rfl (.tmp 56) (.tmp 57) 95 rfl underlying95 w2 cM _ ns g rfl eT ⟨w3.heap.size,0,none⟩ 1 1 (λ _=>0) rfl eU (by omega) ?_;intro v4 j af8 iO;obtain⟨E,CS,rfl,aph,Z,a7⟩:=af8.rowP (by omega))
   clear nV;have UO:lG j E (ns+1) (pG g ns λ _=>0):=a7;have CT:aa w j:=((I.trans cJ).trans iO)
   have GR:=CT.alloc (.cells (madeCells #[.int .u32 0] (ns+1-f)) 191)
   have u:=ly.made j (ns+1-f)
   have G:=UO.kept ((aa.refl j).alloc (.cells (madeCells #[.int .u32 0] (ns+1-f)) 191))
   have V:=(z.kept iO).kept ((aa.refl j).alloc (.cells (madeCells #[.int .u32 0] (ns+1-f)) 191))
   have UP:j.heap.size≠E:=Nat.ne_of_gt UO.lt;have alV:w.heap.size<=E:=jP (I.trans cJ).size Z;have fK:w.heap.size<=j.heap.size:=CT.size;have BM:∀i,i<f->∃b off,ad=some ⟨b,off,none⟩/\b≠E/\b≠j.heap.size:=λ i hi=>by
    obtain⟨b',fJ,e,UQ⟩:=z i hi;have H:=World.block_lt_of_cell? _ _ UQ;have h4:=iO.size;exact⟨b',fJ,e,by intro e2;subst e2;exact absurd Z (Nat.not_le_of_gt H),by intro e2;subst e2;exact absurd h4 (Nat.not_le_of_gt H)⟩
   have HBD:=Lib.hid BM;clear BM;have hval:ak 65536 (pG g ns λ _=>0) (ns+1)=m*2^s:=by rw[rs,Nat.zero_mul,Nat.add_zero];exact HSV.out
   have U:LD 65536 (k*2^s) f (m*2^s) (ns+1-f) (ns+1) (ns+1-f) (pG g ns λ _=>0) (λ _=>0):=by
    refine LD.start (by decide) (by omega) (vW HSL.out (by decide)) ?_ hval;rw[<-HSV.out]
    exact Ff (dJ HSL.out) (by omega) alU Wo.out
   have hDp:0<k*2^s:=jf (Nat.mul_pos (by decide) (Nat.pow_pos (by decide))) Wo.out;have hDn:k*2^s<=65536^f:=Nat.le_of_lt Wp.out;have hDP:=Lib.hid hDp;clear hDp;have hDN:=Lib.hid hDn;clear hDn;generalize j.heap.size=bq at*;clear pH eT cM eU af8 a7 UO z hval iO dF hv hu I cJ c1 c2 CT;go_loopw [13] (λ jv wr=>∃(t:Nat)(us qs:Nat->Nat),t<=ns+1-f/\jv= .int .i64 ((t:Int)-1)/\LD 65536 (k*2^s) f (m*2^s) (ns+1-f) (ns+1) t us qs/\lG wr E (ns+1) us/\ly wr bq (ns+1-f) qs/\Ws wr ad f ds/\aa w wr) (λ jv _=>(intOf jv+1).toNat)
   case atStart=>exact⟨ns+1-f,_,_,aU _,by first|rfl|go_num|(congr 1;omega),U,G,u,V,GR⟩
   case round=>
    clear U G u V GR;obtain⟨t,us,qs,ht,rfl,U,G,u,z,aT⟩:=hrel;have l:=Lib.hid U;clear U;cases t with
    |zero=>
     have zV:=l.out.done (by omega)
     have S:=l.out.ult;have T:=l.out.Zk;have A:m*2^s/(k*2^s)=m/k/\m*2^s%(k*2^s)=m%k*2^s:=⟨Nat.mul_div_mul_right _ _ (Nat.pow_pos (by decide)),Nat.mul_mod_mul_right ..⟩
     have M8:=UL l.out;rw[A.1] at zV;rw[A.2] at M8;have pI:=zV.1;have Yv:m%k*2^s<eV:=Nat.lt_of_le_of_lt (wC _ (Nat.mod_le m k)) (Nat.lt_of_le_of_lt (Nat.le_mul_of_pos_right _ (by decide)) HMB.out)
     have alW:=Lib.hid Yv;have Wo:=Lib.hid pI;have Wp:=Lib.hid M8;have HLU:=Lib.hid S;have HLQ:=Lib.hid T;clear zV A Yv pI M8 S T;have b1:(f:Int)<=(CS:Int):=by omega
     have b2:(0:Int)<=(f:Int):=by omega
     go_wp2_with fail
     go_region_held3 (λ w'=>aa wr w')
      (first|exact(aa.refl wr).drew|exact ‹aa wr _›)
      (first|(go_at_call 304;refine(zU _ _ f CS us (by omega) (by omega) ((G.kept HJ).ws (by omega))).mono ?_;rintro e w7 ⟨rfl,UR⟩;have hS7:aa wr w7:=HJ.trans UR;have O:=iX (B:=65536) (n:=f) (cap:=CS) (by omega) (λ i hi=>HLU.out i (by omega)) ((G.kept hS7).ws (by omega));rw[Wp.out] at O)|(go_at_call 304;refine(zU _ _ (ns+1-f) (ns+1-f) qs (by omega) (aU _) ((u.kept (aa.refl wr).drew).ws (aU _))).mono ?_;rintro e w6 ⟨rfl,Ce⟩;have HJ:aa wr w6:=(aa.refl wr).drew.trans Ce)|(go_at_call 367;refine(M9 O alW.out M).mono ?_;rintro e w8 ⟨v8,rfl,K,Z2⟩;have hS8:aa wr w8:=hS7.trans Z2))
     go_wp2;go_ret2;rw[Nat.mul_div_cancel _ (Nat.pow_pos (by decide))] at K;have R:=iX (B:=65536) (cap:=ns+1-f) (aU _) (λ i _=>HLQ.out i) ((u.kept hS8).ws (aU _))
     rw[Wo.out] at R;exact⟨_,_,rfl,R,K,aT.trans hS8⟩
    |succ t=>
     rcases z.open with h0|⟨_,bd,tL,rfl,Y⟩
     ·omega
     obtain⟨US,acf⟩:bd≠E/\bd≠bq:=by
      obtain⟨b',fJ,e,dL⟩:=HBD.out 0 (by omega)
      cases e
      exact dL
     have D:Kn 65536 (eC us t) ds f:=⟨hn,by decide,HDL.out,λ i hi=>l.out.ult (t+i) (by omega),HDT.out,by rw[Wq.out];exact l.out.Fj (by decide)⟩
     have hqc:=u.cell (i:=t) (by omega)
     have X:Nt 65536 wr (.slice (some ⟨bd,tL,none⟩) f aY) (ak 65536 ds f):=⟨_,f,aY,ds,rfl,FA,HDL.out,HDN.out,rfl,z⟩
     have r:ak 65536 (eC us t) (f+1)<eV:=by
      have h1:=l.out.Fj (k:=t) (by decide)
      exact Nat.lt_trans h1 HKB.out
     have W4:=GS wr E (ns+1) t (CS-t) bd tL aY f us ds (by omega) (by omega) (by omega) (by omega) US D G l.out.ult Y X (by rw[Wq.out];exact Nat.lt_of_le_of_lt (Nat.le_mul_of_pos_right _ (by decide)) HKB.out) r;rw[show f+1=t+f+1-t by omega] at W4;clear X Y;have HWB:=Lib.hid r;clear r;go_wp2_with fail
     refine W4.mono ?_;rintro e w5 ⟨rfl,Fk,hr5,hl5,hs5,L,Na⟩
     have Nb:=u.ai Na (λ e=>UP e)
     have al0:=Nb.cell (i:=t) (by omega)
     have al3:=Nb.frozen t;have hql:ak 65536 (eC us t) (f+1)/ak 65536 ds f<65536:=D.Zk;have dp:=Lib.hid (l.out.step (by decide) hDP.out hDN.out (by omega) (by omega) hl5 hs5 (by rw[<-Wq.out];exact L))
     rw[<-Wq.out] at dp;generalize ak 65536 (eC us t) (f+1)/ak 65536 ds f=q at*;clear W4 L D;go_wp2;go_roundw
     case rel=>
      refine⟨t,Fk,ep qs t q,by omega,rfl,by rw[<-Wq.out];exact dp.out,hr5.setOther (λ e=>UP e.symm) _,Nb.set _ _,?_,(aT.but Na alV).setCell (by simpa using fK) _⟩
      exact(z.ai Na (λ i hi=>⟨bd,tL,rfl,US⟩)).setOther (λ i hi=>⟨bd,tL,rfl,acf⟩) _
     case measure=>simp[intOf]
theorem nN{u:Value}(hv:Nt 65536 w v m)(c:Nt 65536 w u k)(hm:m<Mid)(g:k<Mid)(e:0<k):
 Calls prog 301 #[v,u] w (GQ (m/k) (m%k) w):=by
 by_cases h1:m<k
 ·rw[Nat.div_eq_of_lt h1,Nat.mod_eq_of_lt h1]
  exact RC hv c (iu hm) h1
 ·by_cases h2:k<65536
  ·exact UT hv c (iu hm) (by omega) e h2
  ·have d:=c;obtain⟨b,n,cap,ys,rfl,o,a,f,rfl,i⟩:=c;have l:2<=n:=by
    match n,a with
    |0,_=>simp[ak] at e
    |1,a=>have:=a 0 (by omega);simp[ak] at h2;omega
    |n+2,_=>omega
   rcases i.open with q|⟨_,p,off,rfl,j⟩
   ·omega
   ·exact RB n p off cap ys hv hm d l (cV (.inl rfl) f (iu g)) e a (by rcases f with h|h<;>omega) j g (by omega)
theorem CU{u:Value}(hv:Nt 65536 w v m)(q:Nt 65536 w u k)(hm:m<Mid)(r:k<Mid):
 Calls prog 300 #[v,u] w (eX 65536 (Nat.gcd k m) w):=by
 go_enter func300,ntmps300;go_wp2;go_loopg [0,1] k (λ y a b wr=>∃x:Nat,Nt 65536 wr a x/\Nt 65536 wr b y/\x<Mid/\y<Mid/\Nat.gcd y x=Nat.gcd k m/\aa w wr)
 case atStart=>exact⟨m,hv,q,hm,r,rfl,aa.refl _⟩
 case round=>
  obtain⟨x,hx,g,hxb,c,l,i⟩:=hrel;have p:=Lib.hid l;clear l;have f:=g;obtain⟨ab,n,cap,ys,rfl,hc,hd,hn,h,hw⟩:=f;have d:=oK (B:=65536) (by decide) hn;rw[h] at d;have o:=Lib.hid d;clear d h hd hn hw;by_cases s:gk=0
  ·subst s;obtain rfl:n=0:=o.out.1 rfl;go_wp2;go_ret;refine⟨_,rfl,?_,i⟩
   rw[<-p.out,Nat.gcd_zero_left]
   exact hx
  ·have z:0<n:=by have:=o.out;omega
   go_wp2_with(go_at_call 301;refine(nN hx g hxb c (by omega)).mono ?_;rintro e t ⟨v1,v2,rfl,_,h2,j⟩)
   go_roundg (x%gk)
   case measure=>exact Nat.mod_lt _ (by omega)
   case rel=>exact⟨gk,g.kept j,h2,c,Nat.lt_of_le_of_lt (Nat.mod_le _ _) hxb,by rw[<-Nat.gcd_rec];exact p.out,i.trans j⟩
def Qv(w:World)(v:Value)(neg:Bool)(n d:Nat):Prop:=∃vn vd,v= .agg #[.bool neg,vn,vd]/\Nt 65536 w vn n/\Nt 65536 w vd d
theorem Qv.kept{w':World}(h:Qv w v neg n d)(k:aa w w'):Qv w' v neg n d:=by
 obtain⟨a,b,h1,h2,h3⟩:=h;exact⟨a,b,h1,h2.kept k,h3.kept k⟩
def CW(neg:Bool)(n d:Nat)(w:World)(e:Ending)(w':World):Prop:=∃v,e= .returned v/\Qv w' v neg n d/\aa w w'
theorem CX{a:Option Addr}{cap:Nat}(h:Nt 65536 w (.slice a n cap) m):(m=0↔n=0)/\(∀L,n<=L↔m<65536^L):=by
 obtain⟨a',c,d,xs,e,hc,hd,hn,rfl,hw⟩:=h;cases e
 refine⟨⟨λ h=> ?_,λ h=>by subst h;rfl⟩,λ L=>⟨λ h=>jf (dJ hd) (Nat.pow_le_pow_right (by decide) h),dC (by decide) hn⟩⟩
 have b:=oK (B:=65536) (by decide) hn;exact b.1 h
theorem EH(h:Qv w v neg n d):Calls prog 368 #[v] w (eX 65536 (dn d) w):=by
 obtain⟨s,t,rfl,hn,hd⟩:=h;obtain⟨a,j,l,rfl⟩:=hn.shape;obtain⟨ad,c,m,rfl⟩:=hd.shape;have b:=(CX hd).1;have g:aa w (w.alloc (.cells #[.bool neg,.slice a j l,.slice ad c m] 97)):=(aa.refl w).alloc _;by_cases i:c=0
 ·have q:=b.2 i;subst q i;have o:=j6 (w.alloc (.cells #[.bool neg,.slice a j l,.slice ad 0 m] 97)) 1 (by decide)
  clear b;go_enter func368,ntmps368;go_wp2_with(go_at_call 214;refine o.mono ?_;rintro e r ⟨v1,rfl,f,p⟩)
  go_ret;exact⟨_,rfl,f,g.trans p⟩
 ·have u:((c:Int)==0)=false:=by simp;omega
  have k:dn d=d:=by unfold dn;rw[if_neg (λ e=>i (b.1 e))]
  rw[k]
  clear b k;go_enter func368,ntmps368;go_wp2;go_ret;exact⟨_,rfl,hd.kept g,g⟩
theorem Nc(h:Qv w v neg n d):
 Calls prog 207 #[v] w λ e w'=>e= .returned (.int .i64 (lY neg n))/\aa w w':=by
 obtain⟨k,l,rfl,hn,hd⟩:=h;obtain⟨a,g,p,rfl⟩:=hn.shape;obtain⟨ad,o,q,rfl⟩:=hd.shape;have c:=(CX hn).1;by_cases f:g=0
 ·have j:=c.2 f;subst j f;clear c;go_enter func207,ntmps207;go_wp2;go_ret;exact⟨rfl,(aa.refl _).alloc _⟩
 ·have m:((g:Int)==0)=false:=by simp;omega
  have i:n≠0:=λ e=>f (c.1 e)
  have b:=Lib.hid i;clear c i;cases neg
  ·go_enter func207,ntmps207;go_wp2;go_ret;exact⟨by simp[lY,b.out],(aa.refl _).alloc _⟩
  ·go_enter func207,ntmps207;go_wp2;go_ret;exact⟨by simp[lY,b.out],(aa.refl _).alloc _⟩
theorem Yw(w:World)(x y:Nat):Ws (w.alloc (Obj.cells #[Value.int IntKind.u32 (x:Int),Value.int IntKind.u32 (y:Int)] 191)) (some ⟨w.heap.size,0,none⟩) 2 (λ i=>if i=0 then x else y):=by
 have h:(w.alloc (Obj.cells #[Value.int IntKind.u32 (x:Int),Value.int IntKind.u32 (y:Int)] 191)).rowIs w.heap.size 191 2 (λ j=>.int .u32 (((if j=0 then x else y:Nat)))):=
  World.rowIs_alloc w _ 191 _ λ i hi=>by
   match i,hi with
   |0,_=>rfl
   |1,_=>rfl
 exact ly.ws h (aU _)
structure WdI(xs:Nat->Nat)(k:Nat)(zs:Nat->Nat):Prop where
 lt:∀i,i<2*k->zs i<65536
 eq:ak 65536 zs (2*k)=ak 4294967296 xs k
theorem RE(k:Nat):(4294967296:Nat)^k=65536^(2*k):=by rw[Nat.pow_mul]
theorem WdI.step{xs zs:Nat->Nat}(h:WdI xs k zs)(hx:xs k<4294967296):
 WdI xs (k+1) (pG zs (2*k) λ i=>if i=0 then xs k%65536 else xs k/65536):=by
 have e0:pG zs (2*k) (λ i=>if i=0 then xs k%65536 else xs k/65536) (2*k)=xs k%65536:=by simp[pG]
 have e1:pG zs (2*k) (λ i=>if i=0 then xs k%65536 else xs k/65536) (2*k+1)=xs k/65536:=by
  simp only[pG]
  rw[if_neg (by omega),if_neg (by omega)]
 have ev:ak 65536 (pG zs (2*k) λ i=>if i=0 then xs k%65536 else xs k/65536) (2*k)=ak 65536 zs (2*k):=iU λ i hi=>by simp[pG,hi]
 refine⟨λ i hi=> ?_,?_⟩
 ·by_cases h1:i<2*k
  ·simp only[pG,if_pos h1];exact h.lt i h1
  ·by_cases h2:i=2*k
   ·rw[h2,e0];exact Nat.mod_lt _ (by decide)
   ·rw[show i=2*k+1 by omega,e1];omega
 ·rw[show 2*(k+1)=2*k+1+1 by omega]
  simp only[ak]
  rw[ev,e0,e1,h.eq,RE,Nat.pow_succ]
  have hm:=Nat.mod_add_div (xs k) 65536;generalize xs k%65536=r at*;generalize xs k/65536=q at*;generalize 65536^(2*k)=P at*;rw[<-hm]
  grind
theorem JN{N:Nat}(h:Raw w v N):Calls prog 216 #[v] w (Bj N w):=by
 obtain⟨a,n,cap,xs,rfl,hc,hn,j,rfl,hw⟩:=h;have A:=Lib.hid j;clear j;have B:=Lib.hid hw;clear hw;go_enter func216,ntmps216;go_wp2;go_loopw [3,8] (λ r iv wr=>∃(k:Nat)(zs:Nat->Nat),k<=n/\iv= .int .i64 (k:Int)/\WdI xs k zs/\Ap wr w.heap.size r (2*k) zs/\aa w wr) (λ _ iv _=>n-(intOf iv).toNat)
 case atStart=>exact⟨0,λ _=>0,eo _,rfl,⟨λ _ h=>by omega,rfl⟩,Ap.nil _ _ _,aa.refl _⟩
 case round=>
  obtain⟨k,zs,D,rfl,d,g,f⟩:=hrel;have c:=Lib.hid d;clear d;by_cases m:k<n
  ·obtain⟨b,off,rfl,x⟩:=(B.out.kept f) k m;have s:=A.out k m;have p:=g.alloc (Obj.cells #[Value.int IntKind.u32 ((xs k%65536:Nat):Int),Value.int IntKind.u32 ((xs k/65536:Nat):Int)] 191)
   have o:=f.alloc (Obj.cells #[Value.int IntKind.u32 ((xs k%65536:Nat):Int),Value.int IntKind.u32 ((xs k/65536:Nat):Int)] 191)
   have l:=Yw wr (xs k%65536) (xs k/65536)
   have e1:((xs k%65536:Nat):Int)=(xs k:Int)%65536:=by omega
   have q:((xs k/65536:Nat):Int)=(xs k:Int)/65536:=by omega
   rw[e1,q] at p o l;clear e1 q;go_wp2_with(at_builtin;refine aM rfl (.tmp 12) (.tmp 17) 95 rfl underlying95 w o _ (2*k) zs rfl p ⟨wr.heap.size,0,none⟩ 2 2 _ rfl l (by omega) ?_;intro v' C z u)
   go_roundw
   case rel=>exact⟨k+1,_,by omega,by go_num,c.out.step s,z,u⟩
   case measure=>simp[intOf];omega
  ·obtain rfl:n=k:=by omega
   obtain⟨F,E,rfl,y,t⟩:=g.ws;go_wp2_with(go_at_call 304;refine(iE _ _ (2*n) _ zs (by omega) y t).mono ?_;rintro e w' ⟨rfl,rfl⟩)
   go_ret;exact⟨_,_,_,rfl,g.cut (gN _ _),λ i hi=>c.out.lt i (jf hi (gN _ _)),np _ _,by rw[pO];exact c.out.eq,f⟩
theorem Raw.pD(h:Raw w v m):∃(a:Option Addr)(n cap:Nat)(_zs:Nat->Nat),v= .slice a n cap/\True:=by
 obtain⟨a,n,cap,zs,h,_⟩:=h;exact⟨a,n,cap,zs,h,trivial⟩
theorem mV{N:Nat}(h:Raw w v N):Calls prog 216 #[v] w (eX 65536 N w):=(JN h).mono λ _ _ h=>h.nt
theorem RF(neg:Bool)(hn:Nt 65536 w vn 0)(hd:Nt 65536 w vd d):
 Calls prog 212 #[.bool neg,vn,vd] w (CW false 0 1 w):=by
 obtain⟨a,k,s,rfl⟩:=hn.shape;obtain⟨ad,p,t,rfl⟩:=hd.shape;obtain rfl:k=0:=(CX hn).1.1 rfl;have c:=fS.new w (.bool false) (.slice none 0 0) (.slice none 0 0) 97;have m:aa w (w.alloc (.cells #[.bool false,.slice none 0 0,.slice none 0 0] 97)):=(aa.refl _).alloc _;go_enter func212,ntmps212;go_wp2_with fail
 generalize w.alloc (.cells #[.bool false,.slice none 0 0,.slice none 0 0] 97)=j at*;generalize q:w.heap.size=o at c⊢;have l:=j6 j 1 (by decide)
 go_wp2_with(go_at_call 214;refine l.mono ?_;rintro e i ⟨v2,rfl,f,b⟩;obtain⟨n,c1,c2,f0,f1,r⟩:=(c.kept b).facts;obtain⟨a2,n2,h,rfl⟩:=f.shape)
 have g:=af.eB i o (.bool false) (.slice none 0 0) (.slice a2 n2 h)
 refine bodyPost_ret (v:=.agg #[.bool false,.slice none 0 0,.slice a2 n2 h]) (by simp[results,results212,go_sem,n,c1,c2]) rfl ⟨_,rfl,⟨_,_,rfl,ma _ _ _ _,f.ai g (c.kept b).aZ⟩,(m.trans b).but g (by omega)⟩
theorem UU(neg:Bool)(hn:Nt 65536 w vn n)(hd:Nt 65536 w vd 1)(Y:0<n)(g:n<Mid):
 Calls prog 212 #[.bool neg,vn,vd] w (CW neg n 1 w):=by
 obtain⟨a,c,R,xs,rfl,FI,z,m,b,K⟩:=hn;obtain⟨ad,u,aY,ys,rfl,FA,J,y,d,x⟩:=hd;have X:c≠0:=by rintro rfl;simp[ak] at b;omega
 obtain rfl:u=1:=by
  have h1:=dC (B:=65536) (L:=1) (by decide) y (by rw[d];decide)
  have h2:u≠0:=by rintro rfl;simp[ak] at d
  omega
 have f:ys 0=1:=by simp[ak] at d;exact d
 have Z:=cV (.inl rfl) m (by rw[b];exact iu g)
 obtain⟨bd,I,rfl,r⟩:=x 0 (by omega)
 rw[f] at r;have E:w.cell? ⟨bd,I,none⟩=some (.int .u32 1):=r;have W:((c:Int)==0)=false:=by simp;omega
 have F:=fS.new w (.bool false) (.slice none 0 0) (.slice none 0 0) 97;have q:aa w (w.alloc (.cells #[.bool false,.slice none 0 0,.slice none 0 0] 97)):=(aa.refl _).alloc _;have Nf:=q.cell E;have T:=Lib.hid z;have t:=Lib.hid m;have s:=Lib.hid b;clear d r E J y x z m b g f;have Q:(w.alloc (.cells #[.bool false,.slice none 0 0,.slice none 0 0] 97)).heap.size=w.heap.size+1:=by simp[go_sem]
 have D:aa (w.alloc (.cells #[.bool false,.slice none 0 0,.slice none 0 0] 97)) ((w.alloc (.cells #[.bool false,.slice none 0 0,.slice none 0 0] 97)).alloc (.cells #[] 191)):=(aa.refl _).alloc _;have O:Ap ((w.alloc (.cells #[.bool false,.slice none 0 0,.slice none 0 0] 97)).alloc (.cells #[] 191)) (w.alloc (.cells #[.bool false,.slice none 0 0,.slice none 0 0] 97)).heap.size (.slice (some ⟨w.heap.size+1,0,none⟩) 0 0) 0 (λ _=>0):=by
  rw[<-Q]
  exact World.ownsRow_made _ _ 0 (aU _) (by unfold maxLen;omega) (by simp)
 have l:=(K.kept q).kept D;go_enter func212,ntmps212;go_wp2_with(first|(at_builtin;refine eW rfl (.tmp 32) (.tmp 33) 95 rfl underlying95 (w.alloc (.cells #[.bool false,.slice none 0 0,.slice none 0 0] 97)) D _ 0 0 (λ _=>0) rfl O a c R xs rfl l (by omega) ?_;intro v2 U G o;rw[lp] at G;obtain⟨k,j,rfl,N,M⟩:=(G.congr (ys:=xs) λ i hi=>by simp[pG]).ws)|(go_at_call 214;refine(j6 _ 1 (by decide)).mono ?_;rintro e w3 ⟨V,rfl,A,h⟩;obtain⟨S,c1,c2,f0,f1,f2⟩:=(F.kept (o.trans h)).facts;obtain⟨a3,n3,H,rfl⟩:=A.shape))
 have p:=af.eB w3 w.heap.size (.bool neg) (.slice k c j) (.slice a3 n3 H)
 have C:=(F.kept (o.trans h)).aZ;have P:Nt 65536 w3 (.slice k c j) n:=⟨k,c,j,xs,rfl,N,T.out,t.out,s.out,M.kept h⟩
 refine bodyPost_ret (v:=.agg #[.bool neg,.slice k c j,.slice a3 n3 H]) (by simp[results,results212,go_sem,S,c1,c2]) rfl ⟨_,rfl,⟨_,_,rfl,P.ai p C,A.ai p C⟩,((q.trans o).trans h).but p (by omega)⟩
theorem RG(neg:Bool)(hn:Nt 65536 w vn n)(hd:Nt 65536 w vd d)(AH:0<n)(pI:1<d)(c:n<Mid)(b:d<Mid):
 Calls prog 212 #[.bool neg,vn,vd] w (CW neg (n/Nat.gcd n d) (d/Nat.gcd n d) w):=by
 have D:0<Nat.gcd d n:=Nat.gcd_pos_of_pos_left _ (by omega)
 have E:Nat.gcd d n<Mid:=Nat.lt_of_le_of_lt (Nat.le_of_dvd (by omega) (Nat.gcd_dvd_left d n)) b;rw[Nat.gcd_comm n d]
 have m:=fS.new w (.bool false) (.slice none 0 0) (.slice none 0 0) 97;have x:aa w (w.alloc (.cells #[.bool false,.slice none 0 0,.slice none 0 0] 97)):=(aa.refl _).alloc _;have C:=hn.kept x;have f:=hd.kept x;obtain⟨a,Y,bR,rfl⟩:=hn.shape;have L:=(CX hn).1;have q0:((Y:Int)==0)=false:=by simp;omega
 obtain⟨ad,B,aY,ys,rfl,FA,N,M,o,G⟩:=hd;have Z:B≠0:=by rintro rfl;simp[ak] at o;omega
 have q2:((B:Int)==0)=false:=by simp;omega
 by_cases h1:B=1
 ·subst h1;have p:ys 0=d:=by simp[ak] at o;exact o
  obtain⟨bd,X,rfl,I⟩:=G 0 (by omega)
  rw[p] at I;have O:w.cell? ⟨bd,X,none⟩=some (.int .u32 (d:Int)):=I;have W:((d:Int)==1)=false:=by simp;omega
  have Nf:=x.cell O;clear o I O N M G p L;generalize H:Nat.gcd d n=g at*;go_enter func212,ntmps212;go_wp2_with fail
  generalize w.alloc (.cells #[.bool false,.slice none 0 0,.slice none 0 0] 97)=Q at*;generalize qf:w.heap.size=K at m⊢;have y:=CU C f c b;rw[H] at y;refine y.mono ?_;rintro e P ⟨R,rfl,q,k⟩
  go_wp2_with fail
  refine(nN (C.kept k) q c E D).mono ?_;rintro e w3 ⟨T,V,rfl,s,_,j⟩
  go_wp2_with fail
  refine(nN ((f.kept k).kept j) (q.kept j) b E D).mono ?_;rintro e F ⟨S,U,rfl,r,_,u⟩
  have l:=(k.trans j).trans u;obtain⟨J,c1,c2,f0,f1,f2⟩:=(m.kept l).facts;have h:=s.kept u;obtain⟨a3,n3,A,rfl⟩:=s.shape;obtain⟨a4,n4,z,rfl⟩:=r.shape;go_wp2;have i:=af.eB F K (.bool neg) (.slice a3 n3 A) (.slice a4 n4 z)
  have t:=(m.kept l).aZ;refine bodyPost_ret (v:=.agg #[.bool neg,.slice a3 n3 A,.slice a4 n4 z]) (by simp[results,results212,go_sem,J,c1,c2]) rfl ⟨_,rfl,⟨_,_,rfl,h.ai i t,r.ai i t⟩,(x.trans l).but i (by omega)⟩
 ·have W:((B:Int)==1)=false:=by simp;omega
  clear o N M G L;generalize H:Nat.gcd d n=g at*;go_enter func212,ntmps212;go_wp2_with fail
  generalize w.alloc (.cells #[.bool false,.slice none 0 0,.slice none 0 0] 97)=Q at*;generalize qf:w.heap.size=K at m⊢;have y:=CU C f c b;rw[H] at y;refine y.mono ?_;rintro e P ⟨R,rfl,q,k⟩
  go_wp2_with fail
  refine(nN (C.kept k) q c E D).mono ?_;rintro e w3 ⟨T,V,rfl,s,_,j⟩
  go_wp2_with fail
  refine(nN ((f.kept k).kept j) (q.kept j) b E D).mono ?_;rintro e F ⟨S,U,rfl,r,_,u⟩
  have l:=(k.trans j).trans u;obtain⟨J,c1,c2,f0,f1,f2⟩:=(m.kept l).facts;have h:=s.kept u;obtain⟨a3,n3,A,rfl⟩:=s.shape;obtain⟨a4,n4,z,rfl⟩:=r.shape;go_wp2;have i:=af.eB F K (.bool neg) (.slice a3 n3 A) (.slice a4 n4 z)
  have t:=(m.kept l).aZ;refine bodyPost_ret (v:=.agg #[.bool neg,.slice a3 n3 A,.slice a4 n4 z]) (by simp[results,results212,go_sem,J,c1,c2]) rfl ⟨_,rfl,⟨_,_,rfl,h.ai i t,r.ai i t⟩,(x.trans l).but i (by omega)⟩
theorem nO(neg:Bool)(hn:Nt 65536 w vn n)(hd:Nt 65536 w vd d)(b:0<d)(hb:n=0∨n<Mid/\d<Mid):
 Calls prog 212 #[.bool neg,vn,vd] w (CW (neg&&decide (0<n)) (n/Nat.gcd n d) (d/Nat.gcd n d) w):=by
 by_cases a:n=0
 ·subst a;have h:=RF neg hn hd;simpa [Nat.div_self b] using h
 ·have hb:n<Mid/\d<Mid:=hb.resolve_left a;by_cases h1:d=1
  ·subst h1;have h:=UU neg hn hd (by omega) hb.1;simpa [show 0<n by omega] using h
  ·have h:=RG neg hn hd (by omega) (by omega) hb.1 hb.2;simpa [show 0<n by omega] using h
end Go.Proofs.YtbapfnpbamnmpaaGreatDoor
namespace Go.Eng
open Go Go.RowKit Go.Dig Go.Deep
theorem af.st3{w w1:World}{b:Nat}(h:aa w w1)(x y z:Value):af w (((w1.setCell ⟨b,0,none⟩ x).setCell ⟨b,1,none⟩ y).setCell ⟨b,2,none⟩ z) b:=(((h.Nh b).setCell rfl _).setCell rfl _).setCell rfl _
end Go.Eng
namespace Go.Proofs.YtbapfnpbamnmpaaGreatDoor
open Go Go.RowKit Go.Dig Go.Deep Go.Eng Go.Proofs.Tryz
variable{w:World}{u v:Value}{neg s s':Bool}{d d' n n' x:Nat}
theorem RI(h:Qv w v neg n d):
 Calls prog 255 #[v] w (CW (!neg&&decide (0<n)) n d w):=by
 obtain⟨m,o,rfl,hn,hd⟩:=h;obtain⟨a,b,e,rfl⟩:=hn.shape;obtain⟨ad,c,f,rfl⟩:=hd.shape;have l:=(CX hn).1;have e0:decide (0<n)=decide (0<b):=by rw[Bool.eq_iff_iff];simp only[oh];omega
 rw[e0]
 clear l e0;have i:∀p,CW p n d w (.returned (.agg #[.bool p,.slice a b e,.slice ad c f])) ((w.alloc (.cells #[.bool neg,.slice a b e,.slice ad c f] 97)).alloc (.cells #[.bool p,.slice a b e,.slice ad c f] 97)):=λ p=>by
  have k:aa w ((w.alloc (.cells #[.bool neg,.slice a b e,.slice ad c f] 97)).alloc (.cells #[.bool p,.slice a b e,.slice ad c f] 97)):=((aa.refl _).alloc _).alloc _;exact⟨_,rfl,⟨_,_,rfl,hn.kept k,hd.kept k⟩,k⟩
 have g:=Lib.hid i;clear i;cases neg
 ·by_cases q:0<b
  ·have t:decide (0<(b:Int))=true:=by simp;omega
   have j:decide (0<b)=true:=by simp;omega
   rw[j]
   clear hn hd j;go_enter func255,ntmps255;go_wp2;exact bodyPost_ret (v:=.agg #[.bool true,.slice a b e,.slice ad c f]) (by simp[results,results255,go_sem]) rfl (g.out true)
  ·have t:decide (0<(b:Int))=false:=by simp;omega
   have j:decide (0<b)=false:=by simp;omega
   rw[j]
   clear hn hd j;go_enter func255,ntmps255;go_wp2;exact bodyPost_ret (v:=.agg #[.bool false,.slice a b e,.slice ad c f]) (by simp[results,results255,go_sem]) rfl (g.out false)
 ·clear hn hd;go_enter func255,ntmps255;go_wp2;exact bodyPost_ret (v:=.agg #[.bool false,.slice a b e,.slice ad c f]) (by simp[results,results255,go_sem]) rfl (g.out false)
theorem Nt.UW{B:Nat}{m:Nat}(h:Nt B w v m):∃a n cap,v= .slice a n cap/\(m=0↔n=0):=by
 obtain⟨a',b,d,xs,e,hc,hd,hn,rfl,hw⟩:=h;refine⟨_,_,_,e,λ h=> ?_,λ h=>by subst h;rfl⟩
 by_cases h1:b=0
 ·exact h1
 ·rcases hn with h2|h2
  ·exact absurd h2 h1
  ·exfalso;obtain⟨k,rfl⟩:∃k,b=k+1:=⟨b-1,by omega⟩
   simp only[Nat.add_sub_cancel] at h2;simp only[ak] at h;have c:0<B:=by have:=hd k (by omega);omega
   have:0<xs k*B^k:=Nat.mul_pos (by omega) (Nat.pow_pos c)
   omega
theorem uB{N D:Nat}(h:Rt w v neg N D)(hb:N=0∨N<Mid/\D<Mid):
 Calls prog 125 #[v] w (CW (neg&&decide (0<N)) (rN N D) (rD N D) w):=by
 obtain⟨vn,vd,rfl,hn,hd⟩:=h;obtain⟨a,n,cap,xs,rfl,_⟩:=hn.pD;obtain⟨ad,o,B,ys,rfl,_⟩:=hd.pD;have X:=fS.new w (.bool neg) (.slice a n cap) (.slice ad o B) 24;have G:=fS.new (w.alloc (.cells #[.bool neg,.slice a n cap,.slice ad o B] 24)) (.bool false) (.slice none 0 0) (.slice none 0 0) 97;have F:aa w ((w.alloc (.cells #[.bool neg,.slice a n cap,.slice ad o B] 24)).alloc (.cells #[.bool false,.slice none 0 0,.slice none 0 0] 97)):=((aa.refl _).alloc _).alloc _;have R:=X.kept ((aa.refl _).alloc (.cells #[.bool false,.slice none 0 0,.slice none 0 0] 97))
 clear X;have Z:(w.alloc (.cells #[.bool neg,.slice a n cap,.slice ad o B] 24)).heap.size=w.heap.size+1:=by simp[go_sem]
 rw[Z] at G;clear Z;have U:=hn.kept F;have V:=hd.kept F;clear hn hd;go_enter func125,ntmps125;go_wp2_with fail
 generalize (w.alloc (.cells #[.bool neg,.slice a n cap,.slice ad o B] 24)).alloc (.cells #[.bool false,.slice none 0 0,.slice none 0 0] 97)=w1 at*;generalize W:w.heap.size=b at G R⊢;have xY:=Lib.hid W;clear W;have s:0<dn D:=by unfold dn;split<;>omega
 have hb:N=0∨N<Mid/\dn D<Mid:=by
  rcases hb with h|h
  ·exact .inl h
  ·refine .inr ⟨h.1,?_⟩
   unfold dn;split
   ·exact mK 16000 (by decide)
   ·exact h.2
 by_cases Y:D=0
 ·subst Y;refine(mV V).mono ?_;rintro e w2 ⟨vD,rfl,L,cJ⟩
  obtain⟨a2,n2,c2,rfl,T⟩:=L.UW;obtain rfl:n2=0:=T.1 rfl;have Le:=j6 w2 1 (by decide)
  go_wp2_with(go_at_call 214;refine Le.mono ?_;rintro e w3 ⟨S,rfl,d,dF⟩)
  have c:=cJ.trans dF;have d:Nt 65536 w3 S (dn 0):=d;have i:=R.kept c;have u:=G.kept c;obtain⟨K,J,_,_,_,_⟩:=i.facts;have x:∀w',af w3 w' (b+1)->af w3 w' (b+1)/\w'.cell? ⟨b,0,none⟩=some (.bool neg)/\w'.cell? ⟨b,1,none⟩=some (.slice a n cap):=λ w' k=>⟨k,k.cell K (by simp),k.cell J (by simp)⟩
  have l:=Lib.hid x;clear x;go_region_held3 (λ w'=>af w3 w' (b+1)/\w'.cell? ⟨b,0,none⟩=some (.bool neg)/\w'.cell? ⟨b,1,none⟩=some (.slice a n cap))
   (first|exact l.out _ (aa.Nh (aa.refl w3).drew _)|exact l.out _ (af.st3 ‹aa w3 _› _ _ _)|exact l.out _ (aa.Nh ‹aa w3 _› _))
   (first|(go_at_call 216;refine(mV (U.kept (c.trans (aa.refl w3).drew))).mono ?_;rintro e H ⟨vN,rfl,f,Q⟩;have y:aa w3 H:=(aa.refl w3).drew.trans Q;have M:=d.kept y)|(go_at_call 212;refine(nO neg f M s hb).mono ?_;rintro e m ⟨vq,rfl,O,P⟩;have j:aa w3 m:=y.trans P;obtain⟨qn,qd,rfl,p,q⟩:=O;obtain⟨C,nq,z,rfl⟩:=p.shape;obtain⟨E,ne,A,rfl⟩:=q.shape;obtain⟨I,r1,r2,f0,f1,f2⟩:=(u.kept j).facts))
  have g:=af.eB m (b+1) (.bool (neg&&decide (0<N))) (.slice C nq z) (.slice E ne A)
  have r:=(u.kept j).aZ;go_wp2;exact bodyPost_ret (v:=.agg #[.bool (neg&&decide (0<N)),.slice C nq z,.slice E ne A]) (by simp[results,results125,go_sem,I,r1,r2]) rfl ⟨_,rfl,⟨_,_,rfl,p.ai g r,q.ai g r⟩,((F.trans c).trans j).but g (by have:=xY.out;omega)⟩
 ·refine(mV V).mono ?_;rintro e w3 ⟨S,rfl,d,c⟩
  obtain⟨a2,n2,c2,rfl,T⟩:=d.UW;have q0:((n2:Int)==0)=false:=by simp;omega
  go_wp2_with fail
  have t:dn D=D:=by unfold dn;rw[if_neg Y]
  have d:Nt 65536 w3 (.slice a2 n2 c2) (dn D):=by rw[t];exact d
  clear t;have i:=R.kept c;have u:=G.kept c;obtain⟨K,J,_,_,_,_⟩:=i.facts;have x:∀w',af w3 w' (b+1)->af w3 w' (b+1)/\w'.cell? ⟨b,0,none⟩=some (.bool neg)/\w'.cell? ⟨b,1,none⟩=some (.slice a n cap):=λ w' k=>⟨k,k.cell K (by simp),k.cell J (by simp)⟩
  have l:=Lib.hid x;clear x;go_region_held3 (λ w'=>af w3 w' (b+1)/\w'.cell? ⟨b,0,none⟩=some (.bool neg)/\w'.cell? ⟨b,1,none⟩=some (.slice a n cap))
   (first|exact l.out _ (aa.Nh (aa.refl w3).drew _)|exact l.out _ (af.st3 ‹aa w3 _› _ _ _)|exact l.out _ (aa.Nh ‹aa w3 _› _))
   (first|(go_at_call 216;refine(mV (U.kept (c.trans (aa.refl w3).drew))).mono ?_;rintro e H ⟨vN,rfl,f,Q⟩;have y:aa w3 H:=(aa.refl w3).drew.trans Q;have M:=d.kept y)|(go_at_call 212;refine(nO neg f M s hb).mono ?_;rintro e m ⟨vq,rfl,O,P⟩;have j:aa w3 m:=y.trans P;obtain⟨qn,qd,rfl,p,q⟩:=O;obtain⟨C,nq,z,rfl⟩:=p.shape;obtain⟨E,ne,A,rfl⟩:=q.shape;obtain⟨I,r1,r2,f0,f1,f2⟩:=(u.kept j).facts))
  have g:=af.eB m (b+1) (.bool (neg&&decide (0<N))) (.slice C nq z) (.slice E ne A)
  have r:=(u.kept j).aZ;go_wp2;exact bodyPost_ret (v:=.agg #[.bool (neg&&decide (0<N)),.slice C nq z,.slice E ne A]) (by simp[results,results125,go_sem,I,r1,r2]) rfl ⟨_,rfl,⟨_,_,rfl,p.ai g r,q.ai g r⟩,((F.trans c).trans j).but g (by have:=xY.out;omega)⟩
theorem agl{N:Nat}(h:N<iy 2 8192):N<Mid:=jf h (mB 8192 16000 (by decide))
def Sm:Nat:=iy 2 7000
theorem GW{y:Nat}(hx:x<Sm)(a:y<Sm):x*y<iy 2 14000:=by
 have h1:x*y<=x*Sm:=Nat.mul_le_mul_left _ (Nat.le_of_lt a)
 have h2:x*Sm<Sm*Sm:=Nat.mul_lt_mul_of_pos_right hx (jt 7000)
 have h3:Sm*Sm=iy 2 14000:=tT 7000 7000 14000 rfl;rw[h3] at h2;exact Nat.lt_of_le_of_lt h1 h2
theorem kV(h:x<iy 2 14000):x<Mid:=jf h (mB 14000 16000 (by decide))
theorem tM(h:x<Sm):x<eV:=iu (jf h (show Sm<=Mid from mB 7000 16000 (by decide)))
theorem Yx{y:Nat}(hx:x<iy 2 14000)(a:y<iy 2 14000):x+y<Mid:=by
 have h1:x+y<iy 2 14000+iy 2 14000:=Nat.add_lt_add hx a;have h2:iy 2 14000+iy 2 14000=iy 2 14001:=by rw[<-tT 14000 1 14001 rfl,show iy 2 1=2 from gw 2 1];omega
 rw[h2] at h1;exact jf h1 (mB 14001 16000 (by decide))
theorem vM(d:Nat):0<dn d:=by unfold dn;split<;>omega
theorem EI(h:d<Sm):dn d<Sm:=by
 unfold dn;split
 ·exact mK 7000 (by decide)
 ·exact h
def GN(s:Bool)(n d:Nat)(s':Bool)(n' d':Nat):Bool:=if s=s' then s else if n'*dn d<=n*dn d' then s else s'
def vU(s:Bool)(n d:Nat)(s':Bool)(n' d':Nat):Nat:=if s=s' then n*dn d'+n'*dn d else if n'*dn d<=n*dn d' then n*dn d'-n'*dn d else n'*dn d-n*dn d'
def CQ(d d':Nat):Nat:=dn d*dn d'
theorem RJ(h:Qv w v s n d)(h':Qv w u s' n' d')(b1:n<Sm)(b2:d<Sm)(b3:n'<Sm)(b4:d'<Sm):
 Calls prog 305 #[v,u] w (CW (GN s n d s' n' d'&&decide (0<vU s n d s' n' d')) (vU s n d s' n' d'/Nat.gcd (vU s n d s' n' d') (CQ d d')) (CQ d d'/Nat.gcd (vU s n d s' n' d') (CQ d d')) w):=by
 have acm:=λ (w':World) (k:aa w w')=>EH (h.kept k)
 have UY:=λ (w':World) (k:aa w w')=>EH (h'.kept k)
 have hX:=GW b1 (EI b4)
 have hY:=GW b3 (EI b2)
 have hZ:=GW (EI b2) (EI b4)
 have C:0<dn d*dn d':=Nat.mul_pos (vM d) (vM d')
 have B1:=tM b1;have B3:=tM b3;have D2:=tM (EI b2)
 have D4:=tM (EI b4)
 have HX:=Lib.hid hX;clear hX;have HY:=Lib.hid hY;clear hY;have HZ:=Lib.hid hZ;clear hZ;have HB1:=Lib.hid B1;clear B1;have HB3:=Lib.hid B3;clear B3;have Wp:=Lib.hid D2;clear D2;have HD4:=Lib.hid D4;clear D4;clear b1 b2 b3 b4;obtain⟨vn,vd,rfl,hn,hd⟩:=h;obtain⟨a,o,r,rfl⟩:=hn.shape;obtain⟨ad,p,x,rfl⟩:=hd.shape;obtain⟨vn',vd',rfl,qE,rR⟩:=h';obtain⟨a',G,I,rfl⟩:=qE.shape;obtain⟨K,H,J,rfl⟩:=rR.shape;have fZ:=fS.new w (.bool s) (.slice a o r) (.slice ad p x) 97;have bC:aa w (w.alloc (.cells #[.bool s,.slice a o r,.slice ad p x] 97)):=(aa.refl _).alloc _;have e1:(w.alloc (.cells #[.bool s,.slice a o r,.slice ad p x] 97)).heap.size=w.heap.size+1:=by simp[go_sem]
 have fq:=fS.new (w.alloc (.cells #[.bool s,.slice a o r,.slice ad p x] 97)) (.bool s') (.slice a' G I) (.slice K H J) 97;have cJ:aa (w.alloc (.cells #[.bool s,.slice a o r,.slice ad p x] 97)) ((w.alloc (.cells #[.bool s,.slice a o r,.slice ad p x] 97)).alloc (.cells #[.bool s',.slice a' G I,.slice K H J] 97)):=(aa.refl _).alloc _;have e2:((w.alloc (.cells #[.bool s,.slice a o r,.slice ad p x] 97)).alloc (.cells #[.bool s',.slice a' G I,.slice K H J] 97)).heap.size=w.heap.size+2:=by simp[go_sem]
 have q:=fS.new ((w.alloc (.cells #[.bool s,.slice a o r,.slice ad p x] 97)).alloc (.cells #[.bool s',.slice a' G I,.slice K H J] 97)) (.bool false) (.slice none 0 0) (.slice none 0 0) 97;have dF:aa ((w.alloc (.cells #[.bool s,.slice a o r,.slice ad p x] 97)).alloc (.cells #[.bool s',.slice a' G I,.slice K H J] 97)) (((w.alloc (.cells #[.bool s,.slice a o r,.slice ad p x] 97)).alloc (.cells #[.bool s',.slice a' G I,.slice K H J] 97)).alloc (.cells #[.bool false,.slice none 0 0,.slice none 0 0] 97)):=(aa.refl _).alloc _;rw[e1] at fq;rw[e2] at q;have fZ:=(fZ.kept cJ).kept dF;have fq:=fq.kept dF;have S:=(bC.trans cJ).trans dF;clear bC cJ dF e1 e2;go_enter func305,ntmps305;go_wp2_with fail
 generalize (((w.alloc (.cells #[.bool s,.slice a o r,.slice ad p x] 97)).alloc (.cells #[.bool s',.slice a' G I,.slice K H J] 97)).alloc (.cells #[.bool false,.slice none 0 0,.slice none 0 0] 97))=j at*;generalize qf:w.heap.size=b at fZ fq q⊢;have xY:=Lib.hid qf;clear qf;obtain⟨p0,p1,p2,_,_,_⟩:=fZ.facts;obtain⟨q0,q1,q2,_,_,_⟩:=fq.facts;have fk:∀w',aa j w'->aa j w'/\w'.cell? ⟨b,0,none⟩=some (.bool s)/\w'.cell? ⟨b,1,none⟩=some (.slice a o r)/\w'.cell? ⟨b,2,none⟩=some (.slice ad p x)/\w'.cell? ⟨b+1,0,none⟩=some (.bool s')/\w'.cell? ⟨b+1,1,none⟩=some (.slice a' G I)/\w'.cell? ⟨b+1,2,none⟩=some (.slice K H J):=
  λ w' k=>⟨k,k.cell p0,k.cell p1,k.cell p2,k.cell q0,k.cell q1,k.cell q2⟩
 have fN:=Lib.hid fk;clear fk;go_region_held3 (λ w'=>aa j w'/\w'.cell? ⟨b,0,none⟩=some (.bool s)/\w'.cell? ⟨b,1,none⟩=some (.slice a o r)/\w'.cell? ⟨b,2,none⟩=some (.slice ad p x)/\w'.cell? ⟨b+1,0,none⟩=some (.bool s')/\w'.cell? ⟨b+1,1,none⟩=some (.slice a' G I)/\w'.cell? ⟨b+1,2,none⟩=some (.slice K H J))
  (first|exact fN.out _ (aa.refl _).drew|exact fN.out _ ‹aa j _›)
  (first|(go_at_call 303;refine(ry (qE.kept (S.trans Ni)) FW HB3.out Wp.out).mono ?_;rintro e w5 ⟨v5,rfl,hv5,uL⟩;have GV:aa j w5:=Ni.trans uL)|(go_at_call 368;refine(acm _ (S.trans Ox)).mono ?_;rintro e w4 ⟨v4,rfl,FW,iO⟩;have Ni:aa j w4:=Ox.trans iO)|(go_at_call 303;refine(ry (hn.kept (S.trans QK)) Eg HB1.out HD4.out).mono ?_;rintro e w3 ⟨v3,rfl,sV,dF⟩;have Ox:aa j w3:=QK.trans dF)|(go_at_call 368;refine(UY _ (S.trans (aa.refl j).drew)).mono ?_;rintro e w2 ⟨v2,rfl,Eg,cJ⟩;have QK:aa j w2:=(aa.refl j).drew.trans cJ))
 go_wp2_with fail
 go_region_held3 (λ w'=>aa j w'/\w'.cell? ⟨b,0,none⟩=some (.bool s)/\w'.cell? ⟨b,1,none⟩=some (.slice a o r)/\w'.cell? ⟨b,2,none⟩=some (.slice ad p x)/\w'.cell? ⟨b+1,0,none⟩=some (.bool s')/\w'.cell? ⟨b+1,1,none⟩=some (.slice a' G I)/\w'.cell? ⟨b+1,2,none⟩=some (.slice K H J))
  (first|exact fN.out _ (aa.drew GV)|exact fN.out _ ‹aa j _›)
  (first|(go_at_call 303;refine(ry (hv6.kept UR) hv7 Wp.out HD4.out).mono ?_;rintro e i ⟨v8,rfl,hv8,Z2⟩;have N:aa j i:=hS7.trans Z2)|(go_at_call 368;refine(UY _ (S.trans HJ)).mono ?_;rintro e w7 ⟨v7,rfl,hv7,UR⟩;have hS7:aa j w7:=HJ.trans UR)|(go_at_call 368;refine(acm _ (S.trans (aa.drew GV))).mono ?_;rintro e w6 ⟨v6,rfl,hv6,Ce⟩;have HJ:aa j w6:=(aa.drew GV).trans Ce))
 have acn:aa w5 i:=(((aa.refl w5).drew.trans Ce).trans UR).trans Z2;have M:Nt 65536 i v3 (n*dn d'):=((sV.kept iO).kept uL).kept acn;have L:Nt 65536 i v5 (n'*dn d):=hv5.kept acn;have f:Nt 65536 i v8 (CQ d d'):=hv8;have Z:=S.trans N;have C:0<CQ d d':=C;have HZ:Hid (CQ d d'<iy 2 14000):=HZ;have Y:=N.cell p0;have r1:=N.cell q0;have q:=q.kept N;clear Eg sV FW hv5 hv6 hv7 hv8 cJ dF iO uL Ce UR Z2 QK Ox Ni GV HJ hS7 acn fN acm UY p0 p1 p2 q0 q1 q2 fZ fq S hn hd qE rR;obtain⟨ax,nx,cx,rfl⟩:=M.shape;obtain⟨ay,ny,cy,rfl⟩:=L.shape;obtain⟨az,nz,cz,rfl⟩:=f.shape;by_cases z:s=s'
 ·have t:(s==s')=true:=by simpa using z
  have YA:Hid (GN s n d s' n' d'=s):=Lib.hid (by unfold GN;rw[if_pos z])
  have E:Hid (vU s n d s' n' d'=n*dn d'+n'*dn d):=Lib.hid (by unfold vU;rw[if_pos z])
  clear z;go_wp2_with fail
  have T:∀w',af i w' (b+2)->af i w' (b+2)/\w'.cell? ⟨b,0,none⟩=some (.bool s)/\w'.cell? ⟨b+1,0,none⟩=some (.bool s'):=λ w' k=>⟨k,k.cell Y (by simp),k.cell r1 (by simp)⟩
  have F:=Lib.hid T;clear T;go_region_held3 (λ w'=>af i w' (b+2)/\w'.cell? ⟨b,0,none⟩=some (.bool s)/\w'.cell? ⟨b+1,0,none⟩=some (.bool s'))
   (first|exact F.out _ (aa.Nh (aa.refl i).drew _)|exact F.out _ (af.st3 ‹aa i _› _ _ _)|exact F.out _ (aa.Nh ‹aa i _› _))
   (first|(go_at_call 212;refine(nO s y (f.kept g) C (.inr ⟨Yx HX.out HY.out,kV HZ.out⟩)).mono ?_;rintro e O ⟨vq,rfl,hq,Nk⟩;have D:aa i O:=g.trans Nk;obtain⟨qn,qd,rfl,P,Q⟩:=hq;obtain⟨W,nq,U,rfl⟩:=P.shape;obtain⟨X,ne,V,rfl⟩:=Q.shape;obtain⟨z0,z1,z2,f0,f1,f2⟩:=(q.kept D).facts)|(go_at_call 302;refine(Nl (M.kept (aa.refl i).drew) (L.kept (aa.refl i).drew) (iu (kV HX.out)) (iu (kV HY.out))).mono ?_;rintro e w9 ⟨v9,rfl,y,B⟩;have g:aa i w9:=(aa.refl i).drew.trans B))
  have A:=af.eB O (b+2) (.bool (s&&decide (0<(n*dn d'+n'*dn d)))) (.slice W nq U) (.slice X ne V)
  have R:=(q.kept D).aZ;go_wp2;refine bodyPost_ret (v:=.agg #[.bool (s&&decide (0<(n*dn d'+n'*dn d))),.slice W nq U,.slice X ne V]) (by simp[results,results305,go_sem,z0,z1,z2]) rfl ⟨_,rfl,?_,(Z.trans D).but A (by have:=xY.out;omega)⟩
  have eS:=YA.out;have eN:=E.out;rw[eS,eN]
  exact⟨_,_,rfl,P.ai A R,Q.ai A R⟩
 ·have t:(s==s')=false:=by simpa using z
  have OA:=nM (.inl rfl) M L (iu (kV HX.out))
  by_cases l:n'*dn d<=n*dn d'
  ·have YA:Hid (GN s n d s' n' d'=s):=Lib.hid (by unfold GN;rw[if_neg z,if_pos l])
   have E:Hid (vU s n d s' n' d'=n*dn d'-n'*dn d):=Lib.hid (by unfold vU;rw[if_neg z,if_pos l])
   have KS:0<=bN (n*dn d') (n'*dn d):=by unfold bN;split<;>(try split)<;>omega
   have HLE:=Lib.hid l;clear z l;generalize bN (n*dn d') (n'*dn d)=ci at*;have t2:decide (0<=ci)=true:=by simpa using KS
   go_wp2_with(go_at_call 364;refine OA.mono ?_;rintro e c ⟨rfl,m⟩;have Y:=m.cell Y;have r1:=m.cell r1)
   have M:=M.kept m;have L:=L.kept m;have f:=f.kept m;have q:=q.kept m;have Z:=Z.trans m;have T:∀w',af c w' (b+2)->af c w' (b+2)/\w'.cell? ⟨b,0,none⟩=some (.bool s)/\w'.cell? ⟨b+1,0,none⟩=some (.bool s'):=λ w' k=>⟨k,k.cell Y (by simp),k.cell r1 (by simp)⟩
   have F:=Lib.hid T;clear T;go_region_held3 (λ w'=>af c w' (b+2)/\w'.cell? ⟨b,0,none⟩=some (.bool s)/\w'.cell? ⟨b+1,0,none⟩=some (.bool s'))
    (first|exact F.out _ (aa.Nh (aa.refl c).drew _)|exact F.out _ (af.st3 ‹aa c _› _ _ _)|exact F.out _ (aa.Nh ‹aa c _› _))
    (first|(go_at_call 212;refine(nO s y (f.kept g) C (.inr ⟨kV (Nat.lt_of_le_of_lt (Nat.sub_le _ _) HX.out),kV HZ.out⟩)).mono ?_;rintro e O ⟨vq,rfl,hq,Nk⟩;have D:aa c O:=g.trans Nk;obtain⟨qn,qd,rfl,P,Q⟩:=hq;obtain⟨W,nq,U,rfl⟩:=P.shape;obtain⟨X,ne,V,rfl⟩:=Q.shape;obtain⟨z0,z1,z2,f0,f1,f2⟩:=(q.kept D).facts)|(go_at_call 369;refine(CZ (M.kept (aa.refl c).drew) (L.kept (aa.refl c).drew) (iu (kV HX.out)) HLE.out).mono ?_;rintro e w9 ⟨v9,rfl,y,B⟩;have g:aa c w9:=(aa.refl c).drew.trans B))
   have A:=af.eB O (b+2) (.bool (s&&decide (0<(n*dn d'-n'*dn d)))) (.slice W nq U) (.slice X ne V)
   have R:=(q.kept D).aZ;go_wp2;refine bodyPost_ret (v:=.agg #[.bool (s&&decide (0<(n*dn d'-n'*dn d))),.slice W nq U,.slice X ne V]) (by simp[results,results305,go_sem,z0,z1,z2]) rfl ⟨_,rfl,?_,(Z.trans D).but A (by have:=xY.out;omega)⟩
   have eS:=YA.out;have eN:=E.out;rw[eS,eN]
   exact⟨_,_,rfl,P.ai A R,Q.ai A R⟩
  ·have YA:Hid (GN s n d s' n' d'=s'):=Lib.hid (by unfold GN;rw[if_neg z,if_neg l])
   have E:Hid (vU s n d s' n' d'=n'*dn d-n*dn d'):=Lib.hid (by unfold vU;rw[if_neg z,if_neg l])
   have KS:bN (n*dn d') (n'*dn d)<0:=by unfold bN;rw[if_pos (by omega)];decide
   have HLE:Hid (n*dn d'<=n'*dn d):=Lib.hid (by omega)
   clear z l;generalize bN (n*dn d') (n'*dn d)=ci at*;have t2:decide (0<=ci)=false:=by simpa using KS
   go_wp2_with(go_at_call 364;refine OA.mono ?_;rintro e c ⟨rfl,m⟩;have Y:=m.cell Y;have r1:=m.cell r1)
   have M:=M.kept m;have L:=L.kept m;have f:=f.kept m;have q:=q.kept m;have Z:=Z.trans m;have T:∀w',af c w' (b+2)->af c w' (b+2)/\w'.cell? ⟨b,0,none⟩=some (.bool s)/\w'.cell? ⟨b+1,0,none⟩=some (.bool s'):=λ w' k=>⟨k,k.cell Y (by simp),k.cell r1 (by simp)⟩
   have F:=Lib.hid T;clear T;go_region_held3 (λ w'=>af c w' (b+2)/\w'.cell? ⟨b,0,none⟩=some (.bool s)/\w'.cell? ⟨b+1,0,none⟩=some (.bool s'))
    (first|exact F.out _ (aa.Nh (aa.refl c).drew _)|exact F.out _ (af.st3 ‹aa c _› _ _ _)|exact F.out _ (aa.Nh ‹aa c _› _))
    (first|(go_at_call 212;refine(nO s' y (f.kept g) C (.inr ⟨kV (Nat.lt_of_le_of_lt (Nat.sub_le _ _) HY.out),kV HZ.out⟩)).mono ?_;rintro e O ⟨vq,rfl,hq,Nk⟩;have D:aa c O:=g.trans Nk;obtain⟨qn,qd,rfl,P,Q⟩:=hq;obtain⟨W,nq,U,rfl⟩:=P.shape;obtain⟨X,ne,V,rfl⟩:=Q.shape;obtain⟨z0,z1,z2,f0,f1,f2⟩:=(q.kept D).facts)|(go_at_call 369;refine(CZ (L.kept (aa.refl c).drew) (M.kept (aa.refl c).drew) (iu (kV HY.out)) HLE.out).mono ?_;rintro e w9 ⟨v9,rfl,y,B⟩;have g:aa c w9:=(aa.refl c).drew.trans B))
   have A:=af.eB O (b+2) (.bool (s'&&decide (0<(n'*dn d-n*dn d')))) (.slice W nq U) (.slice X ne V)
   have R:=(q.kept D).aZ;go_wp2;refine bodyPost_ret (v:=.agg #[.bool (s'&&decide (0<(n'*dn d-n*dn d'))),.slice W nq U,.slice X ne V]) (by simp[results,results305,go_sem,z0,z1,z2]) rfl ⟨_,rfl,?_,(Z.trans D).but A (by have:=xY.out;omega)⟩
   have eS:=YA.out;have eN:=E.out;rw[eS,eN]
   exact⟨_,_,rfl,P.ai A R,Q.ai A R⟩
def oS(s':Bool)(n':Nat):Bool:= !s'&&decide (0<n')
def Ru(s:Bool)(n d:Nat)(s':Bool)(n' d':Nat):Bool:=GN s n d (oS s' n') n' d'&&decide (0<vU s n d (oS s' n') n' d')
def Yo(s:Bool)(n d:Nat)(s':Bool)(n' d':Nat):Nat:=vU s n d (oS s' n') n' d'/Nat.gcd (vU s n d (oS s' n') n' d') (CQ d d')
def agq(s:Bool)(n d:Nat)(s':Bool)(n' d':Nat):Nat:=CQ d d'/Nat.gcd (vU s n d (oS s' n') n' d') (CQ d d')
theorem agr(h:Qv w v neg n d):Calls prog 255 #[v] w (CW (oS neg n) n d w):=RI h
theorem YB(h:Qv w v s n d)(a:Qv w u (oS s' n') n' d')(e:n<Sm)(c:d<Sm)(b3:n'<Sm)(b:d'<Sm):
 Calls prog 305 #[v,u] w (CW (Ru s n d s' n' d') (Yo s n d s' n' d') (agq s n d s' n' d') w):=RJ h a e c b3 b
theorem Nn(h:Qv w v s n d)(R:Qv w u s' n' d')(b1:n<Sm)(b2:d<Sm)(b3:n'<Sm)(b4:d'<Sm):
 Calls prog 218 #[v,u] w (CW (Ru s n d s' n' d') (Yo s n d s' n' d') (agq s n d s' n' d') w):=by
 have I:=λ (w':World) (k:aa w w')=>h.kept k;have J:=λ (w':World) (k:aa w w')=>agr (R.kept k)
 obtain⟨vn,vd,rfl,hn,hd⟩:=h;obtain⟨a,c,g,rfl⟩:=hn.shape;obtain⟨ad,f,i,rfl⟩:=hd.shape;obtain⟨Z,vd',rfl,L,N⟩:=R;obtain⟨a',l,o,rfl⟩:=L.shape;obtain⟨q,m,p,rfl⟩:=N.shape;have z:=fS.new w (.bool s) (.slice a c g) (.slice ad f i) 97;have M:aa w (w.alloc (.cells #[.bool s,.slice a c g,.slice ad f i] 97)):=(aa.refl _).alloc _;have e1:(w.alloc (.cells #[.bool s,.slice a c g,.slice ad f i] 97)).heap.size=w.heap.size+1:=by simp[go_sem]
 have t:=fS.new (w.alloc (.cells #[.bool s,.slice a c g,.slice ad f i] 97)) (.bool s') (.slice a' l o) (.slice q m p) 97;have r:aa (w.alloc (.cells #[.bool s,.slice a c g,.slice ad f i] 97)) ((w.alloc (.cells #[.bool s,.slice a c g,.slice ad f i] 97)).alloc (.cells #[.bool s',.slice a' l o,.slice q m p] 97)):=(aa.refl _).alloc _;have S:((w.alloc (.cells #[.bool s,.slice a c g,.slice ad f i] 97)).alloc (.cells #[.bool s',.slice a' l o,.slice q m p] 97)).heap.size=w.heap.size+2:=by simp[go_sem]
 have y:=fS.new ((w.alloc (.cells #[.bool s,.slice a c g,.slice ad f i] 97)).alloc (.cells #[.bool s',.slice a' l o,.slice q m p] 97)) (.bool false) (.slice none 0 0) (.slice none 0 0) 97;have x:aa ((w.alloc (.cells #[.bool s,.slice a c g,.slice ad f i] 97)).alloc (.cells #[.bool s',.slice a' l o,.slice q m p] 97)) (((w.alloc (.cells #[.bool s,.slice a c g,.slice ad f i] 97)).alloc (.cells #[.bool s',.slice a' l o,.slice q m p] 97)).alloc (.cells #[.bool false,.slice none 0 0,.slice none 0 0] 97)):=(aa.refl _).alloc _;rw[e1] at t;rw[S] at y;have z:=(z.kept r).kept x;have t:=t.kept x;have D:=(M.trans r).trans x;clear M r x e1 S hn hd L N;go_enter func218,ntmps218;go_wp2_with fail
 generalize (((w.alloc (.cells #[.bool s,.slice a c g,.slice ad f i] 97)).alloc (.cells #[.bool s',.slice a' l o,.slice q m p] 97)).alloc (.cells #[.bool false,.slice none 0 0,.slice none 0 0] 97))=j at*;generalize O:w.heap.size=b at z t y⊢;have xY:=Lib.hid O;clear O;obtain⟨p0,p1,p2,_,_,_⟩:=z.facts;obtain⟨q0,q1,q2,_,_,_⟩:=t.facts;have P:∀w',af j w' (b+2)->af j w' (b+2)/\w'.cell? ⟨b,0,none⟩=some (.bool s)/\w'.cell? ⟨b,1,none⟩=some (.slice a c g)/\w'.cell? ⟨b,2,none⟩=some (.slice ad f i)/\w'.cell? ⟨b+1,0,none⟩=some (.bool s')/\w'.cell? ⟨b+1,1,none⟩=some (.slice a' l o)/\w'.cell? ⟨b+1,2,none⟩=some (.slice q m p):=
  λ w' k=>⟨k,k.cell p0 (by simp),k.cell p1 (by simp),k.cell p2 (by simp),k.cell q0 (by simp),k.cell q1 (by simp),k.cell q2 (by simp)⟩
 have A:=Lib.hid P;clear P;go_region_held3 (λ w'=>af j w' (b+2)/\w'.cell? ⟨b,0,none⟩=some (.bool s)/\w'.cell? ⟨b,1,none⟩=some (.slice a c g)/\w'.cell? ⟨b,2,none⟩=some (.slice ad f i)/\w'.cell? ⟨b+1,0,none⟩=some (.bool s')/\w'.cell? ⟨b+1,1,none⟩=some (.slice a' l o)/\w'.cell? ⟨b+1,2,none⟩=some (.slice q m p))
  (first|exact A.out _ (aa.Nh (aa.refl j).drew _)|exact A.out _ (af.st3 ‹aa j _› _ _ _)|exact A.out _ (aa.Nh ‹aa j _› _))
  (first|(go_at_call 305;refine(YB (I _ (D.trans Q)) Eg b1 b2 b3 b4).mono ?_;rintro e F ⟨vq,rfl,B,Nk⟩;have E:aa j F:=Q.trans Nk;obtain⟨qn,qd,rfl,G,H⟩:=B;obtain⟨V,nq,T,rfl⟩:=G.shape;obtain⟨W,ne,U,rfl⟩:=H.shape;obtain⟨X,z1,z2,f0,f1,f2⟩:=(y.kept E).facts)|(go_at_call 255;refine(J _ (D.trans (aa.refl j).drew)).mono ?_;rintro e Y ⟨v2,rfl,Eg,r⟩;have Q:aa j Y:=(aa.refl j).drew.trans r))
 have C:=af.eB F (b+2) (.bool (Ru s n d s' n' d')) (.slice V nq T) (.slice W ne U)
 have K:=(y.kept E).aZ;clear A I J;go_wp2;exact bodyPost_ret (v:=.agg #[.bool (Ru s n d s' n' d'),.slice V nq T,.slice W ne U]) (by simp[results,results218,go_sem,X,z1,z2]) rfl ⟨_,rfl,⟨_,_,rfl,G.ai C K,H.ai C K⟩,(D.trans E).but C (by have:=xY.out;omega)⟩
def wU(s:Bool)(n d:Nat)(s':Bool)(n' d':Nat):Int:=lY (Ru s n d s' n' d') (Yo s n d s' n' d')
theorem rz(h:Qv w v s n d)(i:Qv w u s' n' d')(F:n<Sm)(E:d<Sm)(b3:n'<Sm)(D:d'<Sm):
 Calls prog 126 #[v,u] w λ e w'=>e= .returned (.int .i64 (wU s n d s' n' d'))/\aa w w':=by
 have b:=λ (w':World) (k:aa w w')=>Nn (h.kept k) (i.kept k) F E b3 D;obtain⟨I,J,rfl,hn,hd⟩:=h;obtain⟨a,o,A,rfl⟩:=hn.shape;obtain⟨ad,q,C,rfl⟩:=hd.shape;obtain⟨j,l,rfl,c,g⟩:=i;obtain⟨a',m,z,rfl⟩:=c.shape;obtain⟨G,p,B,rfl⟩:=g.shape;have f:aa w ((w.alloc (.cells #[.bool s,.slice a o A,.slice ad q C] 97)).alloc (.cells #[.bool s',.slice a' m z,.slice G p B] 97)):=((aa.refl _).alloc _).alloc _;have y:=b _ f;clear hn hd c g b;go_enter func126,ntmps126;go_wp2_with(first|(go_at_call 218;refine y.mono ?_;rintro e H ⟨v2,rfl,r,x⟩)|(go_at_call 207;refine(Nc r).mono ?_;rintro e w3 ⟨rfl,t⟩))
 go_ret;exact⟨rfl,(f.trans x).trans t⟩
def sg(x:Int):Int:=if x<0 then -1 else if 0<x then 1 else 0
def sI(s:Bool)(m:Nat):Int:=if s then -(m:Int) else(m:Int)
theorem GM{m k:Nat}(h:0<m):0<m/Nat.gcd m k:=
 Nat.div_pos (Nat.le_of_dvd h (Nat.gcd_dvd_left m k)) (Nat.gcd_pos_of_pos_left _ h)
theorem wV(s:Bool)(n d:Nat)(s':Bool)(a b:Nat):wU s n d s' a b=sg (sI s (n*dn b)-sI s' (a*dn d)):=by
 have hd:=vM d;have c:a=0↔a*dn d=0:=by
  constructor
  ·rintro rfl;simp
  ·intro h;rcases Nat.mul_eq_zero.1 h with h|h
   ·exact h
   ·omega
 have key:∀N p,lY (p&&decide (0<N)) (N/Nat.gcd N (CQ d b))=if N=0 then 0 else if p then -1 else 1:=by
  intro N p;unfold lY;by_cases h:N=0
  ·subst h;simp
  ·have h2:0<N/Nat.gcd N (CQ d b):=GM (by omega)
   rw[if_neg (by omega),if_neg h]
   simp[show 0<N by omega]
 unfold wU Ru Yo;rw[key]
 unfold GN vU oS;generalize n*dn b=X at*;have e:decide (0<a)=decide (0<a*dn d):=by rw[Bool.eq_iff_iff];simp only[oh];omega
 rw[e]
 generalize a*dn d=Y at*;clear e c key hd;unfold sg sI;by_cases f:0<Y
 ·cases s<;>cases s'<;>simp[f]<;>(repeat' split)<;>omega
 ·obtain rfl:Y=0:=by omega
  cases s<;>cases s'<;>simp<;>(repeat' split)<;>omega
theorem Rv(s:Bool)(n d:Nat)(s':Bool)(b a:Nat)(hd:0<d)(f:0<a):UF s n d s' b a=wU s n d s' b a:=by
 rw[wV]
 have e1:dn d=d:=by unfold dn;rw[if_neg (by omega)]
 have g:dn a=a:=by unfold dn;rw[if_neg (by omega)]
 rw[e1,g]
 unfold UF lY;by_cases e:n=0
 ·subst e;by_cases c:b=0
  ·subst c;cases s<;>cases s'<;>simp[bN,sg,sI]
  ·have:0<b*d:=Nat.mul_pos (by omega) hd;generalize b*d=Y at*;cases s<;>cases s'<;>simp[c,sg,sI]<;>omega
 ·by_cases c:b=0
  ·subst c;have:0<n*a:=Nat.mul_pos (by omega) f;generalize n*a=Y at*;cases s<;>cases s'<;>simp[e,sg,sI]<;>omega
  ·have h1:0<b*d:=Nat.mul_pos (by omega) hd;have h2:0<n*a:=Nat.mul_pos (by omega) f;generalize b*d=Y at*;generalize n*a=X at*;cases s<;>cases s'<;>simp[e,c,bN,sg,sI]<;>(repeat' split)<;>omega
end Go.Proofs.YtbapfnpbamnmpaaGreatDoor
