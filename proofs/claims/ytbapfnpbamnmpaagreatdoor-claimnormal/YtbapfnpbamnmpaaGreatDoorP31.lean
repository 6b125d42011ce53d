/- A part of the proof that the text which Print makes of a parsed text is a normal form -/
import Derived.Test.YtbapfnpbamnmpaaGreatDoorP00
import Derived.Test.YtbapfnpbamnmpaaGreatDoorP21
import Derived.Test.YtbapfnpbamnmpaaGreatDoorP30
import Derived.Test.YtbapfnpbamnmpaaGreatDoorP25
import Derived.Test.YtbapfnpbamnmpaaGreatDoorP07
set_option maxHeartbeats 8000000
set_option maxRecDepth 100000
namespace Go.Proofs.YtbapfnpbamnmpaaGreatDoor
open Go Go.RowKit Go.Dig Go.Deep Go.Eng Go.Proofs.Tryz
variable{s:ByteArray}{b g i k n:Nat}{w w':World}{ts:List aS}{vc:Value}
section
attribute [local irreducible] wpList
theorem BI(a:k<s.size):k<aw s k↔aQ (bt s k)=true:=by
 constructor
 ·intro h;cases hd:aQ (bt s k) with
  |true=>rfl
  |false=>
   have:aw s k=k:=ir λ _=>hd;omega
 ·intro h;have h1:aw s k=aw s (k+1):=dN a h;have h2:k+1<=aw s (k+1):=dU ..;omega
theorem DJ(w:World)(s:ByteArray)(hs:s.size<=1000000):Calls prog 387 #[.string s] w λ e w'=>e= .returned (.int .i64 (if aw s 0=0 then 0 else(dV s 0:Int)))/\aa w w':=by
 obtain⟨d,hd⟩:∃d,d=aw s 0:=⟨_,rfl⟩
 have q:d<=s.size:=by rw[hd];exact AU s
 refine ct 38 func387 rfl ntmps387 ?_;refine gx ?_;refine zc 416 _ (oP w s hs) ?_;rintro e j ⟨rfl,c⟩
 refine⟨_,rfl,?_⟩
 rw[<-hd]
 refine gx ?_;refine Fp (σ:=Unit) (λ _=>[(0,.string s),(3,.int .i64 (d:Int)),(26,.bool (decide (0<d)&&(decide (d<s.size)&&(decide (bt s d=46)||decide (bt s d=47)))))]) (λ _ W=>W=j) (λ _ _=>False) (λ x b _=> ?_) (λ u g _ hw=> ?_) (λ _ _ _ h=>h.elim)
 ·by_cases h1:0<d;case neg=>
   refine gx ?_;exact b _ _ () ⟨rfl,rfl,by rw[gy h1];rfl,trivial⟩ rfl
  refine gx ?_;by_cases h2:d<s.size;case neg=>
   refine gx ?_;exact b _ _ () ⟨rfl,rfl,by rw[gy h2,Bool.false_and,Bool.and_false];rfl,trivial⟩ rfl
  refine gx ?_;refine wL h2 ?_;refine gx ?_;rw[cU h1,cU h2,Bool.true_and,Bool.true_and] at b;by_cases h3:bt s d=46
  ·refine cr true ?_ ?_
   ·rw[h3];rfl
   refine gx ?_;exact b _ _ () ⟨rfl,rfl,by rw[cU h3];rfl,trivial⟩ rfl
  refine gx ?_;refine wL h2 ?_;refine gx ?_;refine cr (decide (bt s d=47)) ?_ ?_
  ·exact Aw (bt s d) 47
  refine gx ?_;exact b _ _ () ⟨rfl,rfl,by rw[gy h3,Bool.false_or];rfl,trivial⟩ rfl
 obtain rfl:g=j:=hw;obtain⟨z,a⟩:∃z,z=(decide (0<d)&&(decide (d<s.size)&&(decide (bt s d=46)||decide (bt s d=47)))):=⟨_,rfl⟩
 rw[<-a]
 cases z
 ·refine gx ?_;refine aF ⟨?_,c⟩
  congr 2;by_cases f:d=0
  ·rw[if_pos f,f];rfl
  ·rw[if_neg f]
   congr 1;unfold dV;rw[<-hd,if_neg]
   rintro⟨h1,h2,h3⟩
   rw[cU (by omega),cU (by omega),Bool.true_and,Bool.true_and] at a;rcases h2 with h2|h2
   ·rw[cU h2] at a;cases a
   ·rw[cU h2,Bool.or_true] at a;cases a
 have l:=a.symm;simp only[fv,Bool.or_eq_true,oh] at l;obtain⟨h1,h2,h3⟩:=l;refine gx ?_;refine mH ((d+1:Nat):Int) ?_ ?_ ?_
 ·show(d:Int)+1=_;omega
 ·rw[IntKind.wrap_i64];omega
 have o:(s.extract (d+1) s.size).size=s.size-(d+1):=bO _ _ _ (aU _)
 refine zsf (i:=d+1) (show d+1<=s.size by omega) ?_;refine zc 416 _ (oP g (s.extract (d+1) s.size) (by omega)) ?_;rintro e w3 ⟨rfl,k⟩
 refine⟨_,rfl,?_⟩
 have hx:aw (s.extract (d+1) s.size) 0+(d+1)=aw s (d+1):=pW (by omega) 0 (by omega)
 obtain⟨m,hm⟩:∃m,m=aw (s.extract (d+1) s.size) 0:=⟨_,rfl⟩
 rw[<-hm] at hx⊢;have p:aw s (d+1)<=s.size:=jw (by omega)
 refine gx ?_;by_cases v:0<m
 ·refine gx ?_;have n:d+1<s.size:=by
   by_cases h:d+1<s.size
   ·exact h
   ·have:aw s (d+1)=d+1:=ir λ h2=>absurd h2 h;omega
  refine gx ?_;refine mH ((d+1:Nat):Int) ?_ ?_ ?_
  ·show(d:Int)+1=_;omega
  ·rw[IntKind.wrap_i64];omega
  refine gx ?_;refine mH ((d+1+m:Nat):Int) ?_ ?_ ?_
  ·show((d+1:Nat):Int)+(m:Int)=_;omega
  ·rw[IntKind.wrap_i64];omega
  refine gx ?_;refine aF ⟨?_,c.trans k⟩
  congr 2;rw[if_neg (by omega)]
  congr 1;unfold dV;rw[<-hd,if_pos ⟨n,h3,(BI n).1 (by omega)⟩]
  omega
 ·refine gx ?_;refine aF ⟨?_,c.trans k⟩
  congr 2;rw[if_neg (by omega)]
  congr 1;unfold dV;rw[<-hd,if_neg]
  rintro⟨t,-,r⟩
  have:=(BI t).2 r;omega
theorem WW{a b:ByteArray}{u:Bool}{x y:Operand}(c:(a.toList==b.toList)=u):(do eqGuard .eql 9 x y (.string a) (.string b);binOp .eql 9 (.string a) (.string b):Sem Value).run prog w= .ok (.bool u) w:=by
 subst c;go_simp
theorem Ax(w:World)(s:ByteArray)(c:UInt8)(a:0<s.size):Calls prog 388 #[.string s,.string ⟨#[c]⟩] w λ e w'=>e= .returned (.bool (decide (bt s 0=c.toNat)))/\aa w w':=by
 have h:Calls prog 417 #[.string s,.string ⟨#[c]⟩] w λ e w'=>e= .returned (.bool (decide (bt s 0=c.toNat)))/\aa w w':=by
  refine dK [_,_] 18 func417 rfl ntmps417 (by simp) ?_;refine gx ?_;refine cr true ?_ ?_
  ·show decide (((⟨#[c]⟩:ByteArray).size:Int)<=(s.size:Int))=true;have:(⟨#[c]⟩:ByteArray).size=1:=rfl;exact cU (by omega)
  refine gx ?_;refine aep (s.extract 0 1) (k:=1) a rfl ?_;refine gx ?_;have d:((s.extract 0 1).toList==(⟨#[c]⟩:ByteArray).toList)=decide (bt s 0=c.toNat):=by
   rw[ByteArray.toList_eq,ByteArray.toList_eq]
   have e1:(s.extract 0 1).data.toList=[s[0]]:=by
    have f:(s.extract 0 1).data.toList.length=1:=by rw[Array.length_toList];show(s.extract 0 1).size=1;rw[bO _ _ _ a]
    obtain⟨x,hx⟩:=List.length_eq_one_iff.1 f;rw[hx]
    have h2:(s.extract 0 1).data.toList[0]? =some x:=by rw[hx];rfl
    have h3:=(js.1 h2)
    rw[fD a (by omega),kD a] at h3;rw[UInt8.toNat_inj.1 h3.2]
   rw[e1,kD a,Bool.eq_iff_iff,decide_eq_true_iff,beq_iff_eq]
   show [s[0]]=[c]↔_;rw[List.cons.injEq,UInt8.toNat_inj]
   simp
  refine z2 (.bool (decide (bt s 0=c.toNat))) (hrun:=WW d) ?_;refine gx ?_;exact aF ⟨rfl,aa.refl w⟩
 refine dK [_,_] 8 func388 rfl ntmps388 (by simp) ?_;refine gx ?_;refine zc 417 _ h ?_;rintro e g ⟨rfl,b⟩
 refine gx ?_;exact aF ⟨rfl,b⟩
def kS:Nat->Nat
 |0=>1
 |1=>2
 |2=>3
 |_=>0
def sH(k:Nat)(t:ByteArray)(a:Nat):Array Value:=#[.int .i64 ((kS k:Nat):Int),.string t,.int .i64 (a:Int)]
def QH:Array Value:=#[.int .i64 0,.string ⟨#[]⟩,.int .i64 0]
theorem eh{a b:Int}:dY 410 #[.int .i64 a,.string s,.int .i64 b]:=⟨by kernel_rfl,by simp[Value.oneCell']⟩
theorem WX:gY 410 (.agg QH) 3 32:=mD (by kernel_rfl)
def BJ:List Value->aS->Prop:=λ l t=>l=(sH t.kind t.text t.at').toList
def Ay(W:World)(a:Option Addr)(n cap:Nat)(ts:List aS):Prop:=
 n=ts.length/\n<=cap/\∃cs:List Value,(∀i,i<cs.length->∃b,a=some ⟨b,0,none⟩/\W.cell? ⟨b,i,none⟩=cs[i]?)/\cl BJ 3 cs ts
theorem Ay.sub{a:Option Addr}{cap:Nat}(h:Ay w a n cap ts)(k:nT w w'):Ay w' a n cap ts:=by
 obtain⟨h1,h2,cs,h3,e⟩:=h;refine⟨h1,h2,cs,λ i hi=> ?_,e⟩
 obtain⟨b,d,c⟩:=h3 i hi;refine⟨b,d,?_⟩
 rw[nW hi] at c⊢;exact k _ _ c
theorem Ay.row{a:Option Addr}{cap:Nat}(h:Ay w a n cap ts)(hi:i<ts.length):∃b,a=some ⟨b,0,none⟩/\w.rangeAt b (0+i*3) (sH ts[i].kind ts[i].text ts[i].at').toList:=by
 obtain⟨h1,h2,cs,h3,f,hr⟩:=h;have c:=hr i hi;obtain⟨b,hb,-⟩:=h3 (i*3) (by omega)
 refine⟨b,hb,λ j v hv=> ?_⟩
 unfold BJ at c;rw[<-c] at hv;have e:j<3:=by
  have:=(List.getElem?_eq_some_iff.1 hv).1;rw[List.length_take] at this;omega
 rw[List.getElem?_take,if_pos e,List.getElem?_drop] at hv;obtain⟨b',d,hc⟩:=h3 (i*3+j) (by omega)
 obtain rfl:b=b':=by rw[hb] at d;simpa using d
 rw[show 0+i*3+j=i*3+j by omega,hc,hv]
def sgL:List UInt8:=[43,45,42,47,94,40,41,44]
def sgV:Array Value:=#[.string ⟨#[43]⟩,.string ⟨#[45]⟩,.string ⟨#[42]⟩,.string ⟨#[47]⟩,.string ⟨#[94]⟩,.string ⟨#[40]⟩,.string ⟨#[41]⟩,.string ⟨#[44]⟩]
theorem WY(h:k<8):∃c,sgL[k]? =some c/\sgV[k]? =some (.string ⟨#[c]⟩):=by
 rcases(show k=0∨k=1∨k=2∨k=3∨k=4∨k=5∨k=6∨k=7 by omega) with rfl|rfl|rfl|rfl|rfl|rfl|rfl|rfl<;>exact⟨_,rfl,rfl⟩
theorem QI{c:Nat}(h:wG false c=true):∃k x,k<8/\sgL[k]? =some x/\c=x.toNat:=by
 unfold wG at h;simp only[Bool.false_and,Bool.or_false,Bool.or_eq_true,beq_iff_eq] at h;rcases h with((((((h|h)|h)|h)|h)|h)|h)|h<;>subst h
 ·exact⟨0,43,by decide,rfl,rfl⟩
 ·exact⟨1,45,by decide,rfl,rfl⟩
 ·exact⟨2,42,by decide,rfl,rfl⟩
 ·exact⟨3,47,by decide,rfl,rfl⟩
 ·exact⟨4,94,by decide,rfl,rfl⟩
 ·exact⟨5,40,by decide,rfl,rfl⟩
 ·exact⟨6,41,by decide,rfl,rfl⟩
 ·exact⟨7,44,by decide,rfl,rfl⟩
theorem WZ{c:UInt8}(hi:i<s.size)(h:bt s i=c.toNat):s.extract i (i+1)=⟨#[c]⟩:=by
 have a:(s.extract i (i+1)).data.toList.length=1:=by rw[Array.length_toList];show(s.extract i (i+1)).size=1;rw[bO _ _ _ hi];omega
 obtain⟨x,hx⟩:=List.length_eq_one_iff.1 a;have h2:(s.extract i (i+1)).data.toList[0]? =some x:=by rw[hx];rfl
 have h3:=(js.1 h2)
 rw[fD hi (by omega),show i+0=i from rfl,h] at h3;have:x=c:=(UInt8.toNat_inj.1 h3.2).symm;subst this;have:(s.extract i (i+1)).data=#[x]:=by apply Array.toList_inj.1;rw[hx]
 exact ByteArray.ext this
theorem S8(hi:i<=s.size):dV (s.extract i s.size) 0+i=dV s i:=by
 have c:(s.extract i s.size).size=s.size-i:=bO _ _ _ (aU _)
 have h1:aw (s.extract i s.size) 0+i=aw s i:=pW hi 0 (by omega)
 have e:aw s i<=s.size:=jw hi;have g:i<=aw s i:=dU ..;obtain⟨d,hd⟩:∃d,d=aw (s.extract i s.size) 0:=⟨_,rfl⟩
 rw[<-hd] at h1;unfold dV;rw[<-hd,<-h1,c]
 by_cases a:d+1<s.size-i
 ·have f:bt (s.extract i s.size) d=bt s (d+i):=by rw[fD (aU _) (by omega),Nat.add_comm]
  have b:bt (s.extract i s.size) (d+1)=bt s (d+i+1):=by rw[fD (aU _) (by omega)];congr 1;omega
  have h2:aw (s.extract i s.size) (d+1)+i=aw s (d+i+1):=by
   have:=pW (p:=aQ) (s:=s) hi (d+1) (by omega)
   rw[show i+(d+1)=d+i+1 by omega] at this;exact this
  rw[f,b]
  by_cases hc:(bt s (d+i)=46∨bt s (d+i)=47)/\aQ (bt s (d+i+1))=true
  ·rw[if_pos ⟨a,hc⟩,if_pos ⟨by omega,hc⟩,h2]
  ·rw[if_neg λ h=>hc h.2,if_neg λ h=>hc h.2]
 ·rw[if_neg λ h=>a h.1,if_neg λ h=>a (by omega)]
theorem QJ{c:Nat}(h:cE c=true):aQ c=false:=by
 unfold cE at h;unfold aQ;simp only[fv,oh] at h;simp;omega
theorem Iz(w:World)(s:ByteArray)(hs:s.size<=4000)(iI:(aP false s 0).2=none):Calls prog 346 #[.string s,.bool false] w λ e w'=>
 (∃a cap,e= .returned (.tuple #[.slice a (aP false s 0).1.length cap,.int .i64 (-1)])/\Ay (aB w' (ab w.heap.size)) a (aP false s 0).1.length cap (aP false s 0).1)/\aa w w':=by
 obtain⟨ts,wO⟩:∃ts,ts=(aP false s 0).1:=⟨_,rfl⟩
 rw[<-wO]
 have Oq:aP false s 0=(ts,none):=by rw[wO,<-iI]
 clear wO;refine dK [_,_] 108 func346 rfl ntmps346 (by simp) ?_;refine gx ?_;refine ai5 (t:=9) (m:=8) (V:=sgV) (by kernel_rfl) λ B gs e1 k1 bs q1=> ?_;refine gx ?_;refine dQ (σ:=Nat×List aS×Option Addr×Nat×List Value) s.size (λ _ σ=>[(0,.string s),(6,.slice (some ⟨gs,0,none⟩) 8 8),(7,.slice σ.2.2.1 σ.2.1.length σ.2.2.2.1),(8,.int .i64 ((σ.1:Nat):Int))])
  (λ k σ W=>k<=σ.1/\σ.1<=s.size/\σ.2.1.length<=σ.1/\ts=σ.2.1++(aP false s σ.1).1/\(aP false s σ.1).2=none/\fW B W B.heap.size 410 3 (.slice σ.2.2.1 σ.2.1.length σ.2.2.2.1) σ.2.1.length σ.2.2.2.2 (λ _=>BJ) ts)
  (0,[],none,0,[]) ⟨rfl,rfl,rfl,rfl,trivial⟩ ⟨aU _,eo _,aU _,by rw[Oq];rfl,iI,fW.start ..⟩ λ fl wr k ⟨i,pre,a3,F,cs⟩ hk ⟨Ot,K,I,f,u,G⟩=> ?_
 replace Ot:k<=i:=Ot;replace K:i<=s.size:=K;replace I:pre.length<=i:=I;replace f:ts=pre++(aP false s i).1:=f;replace u:(aP false s i).2=none:=u;replace G:fW B wr B.heap.size 410 3 (.slice a3 pre.length F) pre.length cs (λ _=>BJ) ts:=G;have S:aa B wr:=⟨G.kb.size,λ b hb=>G.kb.old b hb (Nat.ne_of_lt hb),G.kb.tape,G.kb.os,G.kb.output⟩
 have jF:=λ g hg=>World.ownsRow.lt G.own g hg;have hR:∀w w':World,nT w w'->∀(l:List Value)(t:aS),BJ l t->BJ l t:=λ _ _ _ _ _ h=>h;refine gx ?_;by_cases d:i<s.size;case neg=>
  obtain rfl:i=s.size:=by omega
  refine gx ?_;rw[jQ (aU _)] at f;replace f:ts=pre:=by rw[f,List.append_nil]
  subst f;obtain⟨gU,a8,jT⟩:=G.done hR (N:=w.heap.size) k1.size (λ b _ _=>rfl)
  refine gx ?_;exact fa ⟨⟨a3,F,rfl,rfl,gU,_,a8,jT⟩,k1.trans S⟩
 refine gx ?_;refine wL (s:=s) (k:=i) d ?_;by_cases hb:bt s i=32
 ·refine cr true ?_ ?_
  ·rw[hb];rfl
  refine gx ?_;refine z2 (.int .i64 ((i+1:Nat):Int)) (hrun:=cu (by omega)) ?_;refine gx ?_;rw[fw d hb] at f u;exact⟨_,(i+1,pre,a3,F,cs),rfl,by omega,⟨rfl,rfl,rfl,rfl,trivial⟩,by show k+1<=i+1;omega,d,by show pre.length<=i+1;omega,f,u,G⟩
 refine gx ?_;cases hx:gX false s i with
 |none=>
  rw[jD d hb hx] at u;cases u
 |some ke=>
 obtain⟨k',e'⟩:=ke;obtain⟨Qt,M⟩:=jg d hx;rw[gp d hb hx] at f u;simp only at f u;have hsx:(s.extract i s.size).size=s.size-i:=bO _ _ _ (aU _)
 have P:bt (s.extract i s.size) 0=bt s i:=by rw[fD (aU _) (by omega)];rfl
 refine zr (.agg #[.int .i64 0,.string ⟨#[]⟩,.int .i64 (i:Int)]) ?_;refine za QH 410 λ w2 g2 e2 k2 b2 q2=> ?_;refine zt b2 eh eh λ w3 k3 b3=> ?_;refine gx ?_;refine zsf (i:=i) (Nat.le_of_lt d) ?_;refine zc 324 _ (Fq w3 (s.extract i s.size) (by omega) (by omega)) ?_;rintro e D ⟨rfl,Y⟩
 refine⟨_,rfl,?_⟩
 have b4:=b3.kept Y;obtain⟨p,xS,J⟩:∃p:Nat,(if cE (bt (s.extract i s.size) 0)=true then(dO (s.extract i s.size) 0:Int) else 0)=(p:Int)/\p=if cE (bt s i)=true then dO s i-i else 0:=by
  have hw:dO (s.extract i s.size) 0+i=dO s i:=pW (Nat.le_of_lt d) 0 (by omega)
  rw[P]
  by_cases n:cE (bt s i)=true
  ·rw[if_pos n,if_pos n];exact⟨_,rfl,by omega⟩
  ·rw[if_neg n,if_neg n];exact⟨0,rfl,rfl⟩
 rw[xS]
 refine gx ?_;refine cr (decide (0<p)) ?_ ?_
 ·show decide ((0:Int)<(p:Int))=_;rw[decide_eq_decide];omega
 refine gx ?_;have z23:w2.heap.size<=w3.heap.size:=k3.size;refine zjx (σ:=Unit) (λ _=>[(0,.string s),(6,.slice (some ⟨gs,0,none⟩) 8 8),(7,.slice a3 pre.length F),(8,.int .i64 (i:Int)),(9,.pointer (some ⟨g2,0,none⟩))]) (λ _ W=>af D W g2/\aD W g2 (sH k' (s.extract i e') i) 410) (λ Q' E hE=> ?_) (λ l' w9 _ ⟨k9,b9⟩=> ?_)
 ·by_cases n:cE (bt s i)=true
  ·rw[if_pos n] at J;have hwg:i+1<=dO s i:=by
    have h1:dO s i=gW Iy s (i+1):=dN d (by unfold Iy;rw[n];rfl)
    have h2:i+1<=gW Iy s (i+1):=dU ..;omega
   have hwl:dO s i<=s.size:=jw (Nat.le_of_lt d)
   rw[cU (show 0<p by omega)]
   unfold gX at hx;rw[if_neg (by rw[QJ n];exact iZ),if_pos n,Option.map_eq_some_iff] at hx;obtain⟨C,j,he⟩:=hx;simp only[Prod.mk.injEq] at he;obtain⟨rfl,rfl⟩:=he;have etx:i+p=dO s i:=by omega
   refine gx ?_;refine mH ((dO s i:Nat):Int) ?_ ?_ ?_
   ·show(i:Int)+(p:Int)=_;omega
   ·rw[IntKind.wrap_i64];omega
   refine zss (i:=i) (k:=dO s i) (by omega) hwl ?_;refine gx ?_;refine fV (i:=1) b4 (by simp) rfl λ o H A=> ?_;replace A:aD o g2 #[.int .i64 0,.string (s.extract i (dO s i)),.int .i64 (i:Int)] 410:=A;refine gx ?_;obtain⟨tx,htx⟩:∃tx,tx=s.extract i (dO s i):=⟨_,rfl⟩
   rw[<-htx] at A j E⊢;refine zc 261 _ (zD o tx) ?_;rintro e Q ⟨kf,rfl,-,z⟩
   refine⟨_,rfl,?_⟩
   have b6:=A.kept z;have K6:af D Q g2:=af.aR H z;have r:=sJ tx;unfold fX at j;cases Zt:cg aW tx
   case true=>
    rw[Zt,if_pos rfl] at j;obtain rfl:2=C:=iG j;refine gx ?_;refine fV (i:=0) b6 (by simp) rfl λ x y b7=> ?_;replace b7:aD x g2 #[.int .i64 3,.string tx,.int .i64 (i:Int)] 410:=b7;refine gx ?_;exact E _ _ () ⟨rfl,rfl,rfl,rfl,rfl,trivial⟩ ⟨af.cX K6 y,b7⟩
   rw[Zt,if_neg iZ] at j;rw[Zt,Bool.false_or] at r;refine gx ?_;refine zc 242 _ (uQ Q tx) ?_;rintro e x ⟨rfl,y⟩
   refine⟨_,rfl,?_⟩
   have b7:=b6.kept y;have K7:af D x g2:=af.aR K6 y;have oQ:bV tx=(decide (tx.size<=8)&&AA tx&& !cg ji tx):=rfl;cases qL:DL tx
   case true=>
    rw[qL,if_pos rfl] at j;obtain rfl:3=C:=iG j;rw[qL] at r;rw[r,Bool.not_true,Bool.and_false] at oQ;rw[oQ]
    refine gx ?_;refine zc 325 _ (sK x tx) ?_;rintro e w8 ⟨rfl,X⟩
    refine⟨_,rfl,?_⟩
    rw[r]
    refine gx ?_;exact E _ _ () ⟨rfl,rfl,rfl,rfl,rfl,trivial⟩ ⟨af.aR K7 X,b7.kept X⟩
   rw[qL,if_neg iZ] at j;cases vw:bV tx
   case false=>rw[vw,if_neg iZ] at j;cases j
   rw[vw,if_pos rfl] at j;obtain rfl:1=C:=iG j;refine gx ?_;refine fV (i:=0) b7 (by simp) rfl λ w8 X b8=> ?_;replace b8:aD w8 g2 #[.int .i64 2,.string tx,.int .i64 (i:Int)] 410:=b8;refine gx ?_;exact E _ _ () ⟨rfl,rfl,rfl,rfl,rfl,trivial⟩ ⟨af.cX K7 X,b8⟩
  rw[if_neg n] at J;rw[gy (show ¬0<p by omega)]
  refine gx ?_;refine zsf (i:=i) (Nat.le_of_lt d) ?_;refine zc 387 _ (DJ D (s.extract i s.size) (by omega)) ?_;rintro e o ⟨rfl,H⟩
  refine⟨_,rfl,?_⟩
  have A:=b4.kept H;have K5:af D o g2:=af.aR (af.refl D g2) H;have hdx:aw (s.extract i s.size) 0+i=aw s i:=pW (Nat.le_of_lt d) 0 (by omega)
  have hnx:dV (s.extract i s.size) 0+i=dV s i:=S8 (Nat.le_of_lt d)
  have O:=BI d;by_cases hd:aQ (bt s i)=true
  ·have W4:=O.2 hd;have hng:aw s i<=dV s i:=by
    unfold dV;have:=dU aQ s (aw s i+1)
    split
    ·show aw s i<=aw s (aw s i+1);unfold aw at*;omega
    ·exact aU _
   have hnl:dV s i<=s.size:=wH (Nat.le_of_lt d)
   unfold gX at hx;rw[if_pos hd] at hx;simp only[Option.some.injEq,Prod.mk.injEq] at hx;obtain⟨rfl,rfl⟩:=hx;rw[if_neg (by omega)]
   obtain⟨Z,zp⟩:∃Z,Z=dV (s.extract i s.size) 0:=⟨_,rfl⟩
   rw[<-zp] at hnx⊢;refine gx ?_;refine mH ((dV s i:Nat):Int) ?_ ?_ ?_
   ·show(i:Int)+(Z:Int)=_;omega
   ·rw[IntKind.wrap_i64];omega
   refine zss (i:=i) (k:=dV s i) (by omega) hnl ?_;refine gx ?_;refine fV (i:=1) A (by simp) rfl λ Q z b6=> ?_;refine gx ?_;refine fV (i:=0) b6 (by simp) rfl λ x y b7=> ?_;replace b7:aD x g2 #[.int .i64 1,.string (s.extract i (dV s i)),.int .i64 (i:Int)] 410:=b7;refine gx ?_;exact E _ _ () ⟨rfl,rfl,rfl,rfl,rfl,trivial⟩ ⟨af.cX (af.cX K5 z) y,b7⟩
  rw[if_pos (by by_cases h:aw s i=i;omega;exact absurd (O.1 (by have:i<=aw s i:=dU ..;omega)) hd)]
  refine gx ?_;unfold gX at hx;rw[if_neg hd,if_neg n,if_neg (by rintro⟨h,-⟩;cases h)] at hx;split at hx;case isFalse=>cases hx
  rename_i hsg;simp only[Option.some.injEq,Prod.mk.injEq] at hx;obtain⟨rfl,rfl⟩:=hx;obtain⟨kk,xc,DI,L,pL⟩:=QI hsg;refine gx ?_;refine dQ (σ:=Unit) 8 (λ q _=>[(0,.string s),(6,.slice (some ⟨gs,0,none⟩) 8 8),(7,.slice a3 pre.length F),(8,.int .i64 (i:Int)),(9,.pointer (some ⟨g2,0,none⟩)),(80,.slice (some ⟨gs,0,none⟩) 8 8),(81,.int .i64 8),(82,.int .i64 (q:Int))]) (λ q _ W=>aa o W/\q<=kk) () ⟨rfl,rfl,rfl,rfl,rfl,rfl,rfl,rfl,trivial⟩ ⟨aa.refl o,eo _⟩ λ fl wq q _ hq ⟨U,hqk⟩=> ?_;refine gx ?_;obtain⟨c,Lx,Ly⟩:=WY (show q<8 by omega)
  have bsq:wq.cell? ⟨gs,0+q*1,none⟩=some (.string ⟨#[c]⟩):=by
   rw[lp,Nat.mul_one]
   exact(((((bs.kept S).kept k2).ai k3 (by have:=bs.lt;have:=S.size;omega)).kept Y).kept H |>.kept U).cell q Ly
  refine gx ?_;refine zi (s:=1) (m:=8) q (by omega) ?_;refine kB bsq ?_;refine gx ?_;refine zsf (i:=i) (Nat.le_of_lt d) ?_;refine gx ?_;refine zc 388 _ (Ax wq (s.extract i s.size) c (by omega)) ?_;rintro e Q ⟨rfl,z⟩
  refine⟨_,rfl,?_⟩
  rw[P]
  by_cases v:bt s i=c.toNat;case neg=>
   rw[gy v]
   refine gx ?_;refine mH ((q+1:Nat):Int) ?_ ?_ ?_
   ·show(q:Int)+1=_;omega
   ·rw[IntKind.wrap_i64];omega
   refine gx ?_;refine⟨_,(),rfl,by omega,⟨rfl,rfl,rfl,rfl,rfl,rfl,rfl,rfl,trivial⟩,U.trans z,?_⟩
   by_cases hqe:q=kk
   ·subst hqe;rw[Lx] at L;obtain rfl:=iG L;exact absurd pL v
   ·omega
  rw[cU v]
  refine gx ?_;refine fV (i:=1) ((A.kept U).kept z) (by simp) rfl λ x y b7=> ?_;replace b7:aD x g2 #[.int .i64 0,.string ⟨#[c]⟩,.int .i64 (i:Int)] 410:=b7;refine gx ?_;exact E _ _ () ⟨rfl,rfl,rfl,rfl,rfl,trivial⟩ ⟨af.cX (af.aR (af.aR K5 U) z) y,by rw[WZ d v];exact b7⟩
 refine gx ?_;have Zu:(s.extract i e').size=e'-i:=bO _ _ _ M;have zr':=S.size;have z2':=k2.size;have z4':=Y.size;have K9:aa wr w9:=((k2.but k3 (by omega)).trans Y).but k9 (by omega)
 refine pJ false (sD (show 0<(s.extract i e').size by omega)) ?_;refine gx ?_;refine zl b9.range ⟨by kernel_rfl,by first|kernel_rfl|simp[Value.oneCell']⟩ ?_;have aaW:pre.length<ts.length:=by rw[f];simp
 have S9:ts[pre.length]=⟨k',s.extract i e',i⟩:=by simp[f]
 refine Ta (R:=λ _=>BJ) (V:=sH k' (s.extract i e') i) WX rfl (by decide) (by decide) underlying367 (G.kept hR K9) hR eh.2 rfl aaW (by omega) (T:=λ _=>false) (by rw[S9];rfl) (λ b hb=>by cases hb) (by kernel_rfl) λ o a' aK G' hold fK=> ?_;have z9':=k9.size;have dL:some g2≠(Value.slice a3 pre.length F).ownBlock:=λ he=>by
  have:=(jF g2 he.symm).2;omega
 have A:aD o g2 (sH k' (s.extract i e') i) 410:=(hold g2 b9.lt dL).trans b9;refine gx ?_;refine mH ((e':Nat):Int) ?_ ?_ ?_
 ·show(i:Int)+((s.extract i e').size:Int)=_;omega
 ·rw[IntKind.wrap_i64];omega
 refine gx ?_;exact⟨_,(e',pre++[⟨k',s.extract i e',i⟩],a',aK,cs++(sH k' (s.extract i e') i).toList),rfl,by omega,⟨rfl,rfl,by simp;rfl,rfl,trivial⟩,by show k+1<=e';omega,M,by show(pre++[_]).length<=e';rw[gJ,List.length_singleton];omega,
  by show ts=(pre++[_])++_;rw[f];simp,u,by
   show fW B o B.heap.size 410 3 (.slice a' (pre++[_]).length aK) (pre++[_]).length _ _ _;rw[gJ,List.length_singleton]
   exact G'⟩
def yw(g:Nat)(vc:Value):Nat->Bool:=λ b=>b != g&&decide (vc.ownBlock≠some b)
theorem nB(h:yw g vc b=true):b≠g/\vc.ownBlock≠some b:=by
 unfold yw at h;simpa using h
theorem gC(h1:b≠g)(h2:vc.ownBlock≠some b):yw g vc b=true:=by
 unfold yw;simp[h1,h2]
structure W6 where
 at':Nat
 lo:Nat
 hi:Nat
 n:Nat
def BK(l:List W6):List Value:=l.flatMap λ c=>[.int .i64 (c.at':Int),.int .i64 (c.lo:Int),.int .i64 (c.hi:Int),.int .i64 (c.n:Int)]
structure KV(ts:List aS):Prop where
 len:ts.length<=5000
 WD:∀t∈ts,t.kind<=3
 num:∀t∈ts,t.kind=0->vv t.text
 fn:∀t∈ts,t.kind=2->cg aW t.text=true
structure cK(W:World)(g:Nat)(ta:Option Addr)(tc:Nat)(ts:List aS)(en i:Nat)(vc:Value):Prop where
 bw:aD W g #[.slice ta ts.length tc,.int .i64 (i:Int),.int .i64 (en:Int),vc] 414
 tok:Ay (aB W (yw g vc)) ta ts.length tc ts
 own:∃cs:List W6,W.ownsRow 6 417 4 vc cs.length (BK cs)/\(∀c∈cs,c.lo<=c.n/\c.n<=c.hi)/\cs.length<=i
 ng:vc.ownBlock≠some g
 le:i<=ts.length
 gl:6<=g
structure fL(W W':World)(g:Nat)(vc Ou:Value):Prop where
 size:W.heap.size<=W'.heap.size
 old:∀b,b<W.heap.size->yw g vc b=true->W'.heap[b]? =W.heap[b]?
 tape:W'.tape=W.tape
 os:W'.os=W.os
 output:W'.output=W.output
 fr:Ou.ownBlock=vc.ownBlock∨∀b,Ou.ownBlock=some b->W.heap.size<=b
section
variable{W W1 W2 W':World}{g en i:Nat}{ta:Option Addr}{tc:Nat}{ts:List aS}{vc v1 v2:Value}
theorem fL.nx(h:fL W W1 g vc v1)(hb:b<W.heap.size)(hf:yw g vc b=true):yw g v1 b=true:=by
 obtain⟨h1,h2⟩:=nB hf;refine gC h1 λ h3=> ?_;rcases h.fr with a|a
 ·exact h2 (a▸h3)
 ·have:=a b h3;omega
theorem fL.sub(h:fL W W1 g vc v1):nT (aB W (yw g vc)) (aB W1 (yw g v1)):=au λ b hb hs=>⟨h.nx hb hs,h.old b hb hs⟩
theorem fL.trans(h:fL W W1 g vc v1)(k:fL W1 W2 g v1 v2):fL W W2 g vc v2:=
 ⟨jP h.size k.size,λ b hb hf=>(k.old b (jf hb h.size) (h.nx hb hf)).trans (h.old b hb hf),k.tape.trans h.tape,k.os.trans h.os,k.output.trans h.output,by
   rcases k.fr with h1|h1
   ·rcases h.fr with h2|h2
    ·exact .inl (h1.trans h2)
    ·exact .inr λ b hb=>h2 b (h1▸hb)
   ·exact .inr λ b hb=>jP h.size (h1 b hb)⟩
theorem fy(k:aa W W1):fL W W1 g vc vc:=⟨k.size,λ b hb _=>k.old b hb,k.tape,k.os,k.output,.inl rfl⟩
theorem ao(k:af W W1 g):fL W W1 g vc vc:=⟨k.size,λ b hb hf=>k.old b hb (nB hf).1,k.tape,k.os,k.output,.inl rfl⟩
theorem fL.kept(h:fL W W1 g vc v1)(k:aa W1 W2):fL W W2 g vc v1:=h.trans (fy k)
theorem fL.loc(h:fL W W1 g vc v1)(k:af W1 W2 b)(hb:W.heap.size<=b):fL W W2 g vc v1:=
 ⟨jP h.size k.size,λ c hc hf=>(k.old c (jf hc h.size) (by omega)).trans (h.old c hc hf),k.tape.trans h.tape,k.os.trans h.os,k.output.trans h.output,h.fr⟩
theorem fL.bw(h:fL W W1 g vc v1){cs:Array Value}{t:TypeId}(hb:aD W b cs t)(hf:yw g vc b=true):aD W1 b cs t:=(h.old b hb.lt hf).trans hb
theorem cK.kept(h:cK W g ta tc ts en i vc)(k:aa W W1):cK W1 g ta tc ts en i vc:=by
 obtain⟨cs,h1,h2,h3⟩:=h.own;exact⟨h.bw.kept k,h.tok.sub (au λ b hb hs=>⟨hs,k.old b hb⟩),⟨cs,dD h1 k,h2,h3⟩,h.ng,h.le,h.gl⟩
theorem cK.set(h:cK W g ta tc ts en i vc){j:Nat}(c:i<=j)(a:j<=ts.length)(k:af W W1 g)(b:aD W1 g #[.slice ta ts.length tc,.int .i64 (j:Int),.int .i64 (en:Int),vc] 414):cK W1 g ta tc ts en j vc:=by
 obtain⟨cs,h1,h2,h3⟩:=h.own;exact⟨b,h.tok.sub (ao k).sub,⟨cs,bE h1 k h.ng,h2,by omega⟩,h.ng,a,h.gl⟩
theorem cK.loc{i0:Nat}(c:cK W g ta tc ts en i0 vc)(a:fL W W2 g vc v1)(h:cK W1 g ta tc ts en i v1)(k:af W1 W2 b)(hb:b≠g)(ho:v1.ownBlock≠some b):cK W2 g ta tc ts en i v1:=by
 obtain⟨cs,h1,h2,h3⟩:=h.own;exact⟨h.bw.ai k (Ne.symm hb),c.tok.sub a.sub,⟨cs,bE h1 k ho,h2,h3⟩,h.ng,h.le,h.gl⟩
theorem cK.fresh(h:cK W g ta tc ts en i vc)(hb:W.heap.size<=b):vc.ownBlock≠some b:=λ h1=>by
 obtain⟨cs,h2,-⟩:=h.own;have:=(World.ownsRow.lt h2 b h1).2;omega
theorem cK.ai7(h:cK W g ta tc ts en i vc)(hb:b<6):yw g vc b=true:=gC (by have:=h.gl;omega) λ h1=>by
 obtain⟨cs,h2,-⟩:=h.own;have:=(World.ownsRow.lt h2 b h1).1;omega
theorem cK.laid(h:cK W g ta tc ts en i vc)(k:fL W W1 g vc v1)(c:cL W):cL W1:=λ j b=>by
 have h1:=c j b;have a:=World.block_lt_of_cell? W _ h1;unfold World.cell? at h1⊢;rw[k.old 3 a (h.ai7 (by decide))]
 exact h1
theorem cK.row(h:cK W g ta tc ts en i vc)(hi:i<ts.length):∃b,ta=some ⟨b,0,none⟩/\W.rangeAt b (0+i*3) (sH (ar ts i).kind (ar ts i).text (ar ts i).at').toList:=by
 obtain⟨b,hb,hr⟩:=h.tok.row hi;have e:ar ts i=ts[i]:=by unfold ar;rw[nW hi];rfl
 rw[e]
 exact⟨b,hb,λ j v hv=>dP _ _ _ _ (hr j v hv)⟩
theorem mN(hi:i<ts.length):ar ts i∈ts:=by
 unfold ar;rw[nW hi]
 exact List.getElem_mem hi
theorem oq(hi:¬i<ts.length):ar ts i=⟨4,⟨#[]⟩,0⟩:=by
 unfold ar;rw[List.getElem?_eq_none (by omega)]
 rfl
theorem Ov(h:k<=3):(kS k=0)↔k=3:=by
 rcases(show k=0∨k=1∨k=2∨k=3 by omega) with rfl|rfl|rfl|rfl<;>decide
theorem bZ(c:KV ts)(h:cK W g ta tc ts en i vc)(x:ByteArray):Calls prog 391 #[.pointer (some ⟨g,0,none⟩),.string x] W λ e W'=>∃u,u=bF (ar ts i) x.data.toList/\e= .returned (.bool u)/\cK W' g ta tc ts en (if u=true then i+1 else i) vc/\af W W' g:=by
 have hb:=h.bw;have l:=c.len;have n:=h.le;refine dK [_,_] 51 func391 rfl ntmps391 (by simp) ?_;refine gx ?_;refine eJ 0 0 λ hS=> ?_;refine eL 0 hS ?_;refine mO 1 hS ?_;refine jG 2 hS ?_;refine eA 3 (hb.cell 1 rfl) (by omega) hS ?_;refine eL 4 hS ?_;refine mO 5 hS ?_;refine jG 6 hS ?_;refine eA 7 (hb.cell 0 rfl) (by omega) hS ?_;refine Lr 8 hS ?_;have a:aa W W.drew:=(aa.refl W).drew;by_cases hi:i<ts.length;case neg=>
  have q:i=ts.length:=by omega
  have d:bF (ar ts i) x.data.toList=false:=by rw[oq hi];rfl
  refine BL 9 true hS ?_ ?_
  ·show((i:Int)==(ts.length:Int))=true;rw[q];simp
  refine eL 10 hS ?_;refine yzs [11,12,13,14,15,16,17,18,19,20,21,22] hS ?_;refine eL 23 hS ?_;refine eL 24 hS ?_;refine yzs [25,26,27,28,29,30,31,32,33,34,35,36,37] hS ?_;refine eL 38 hS ?_;refine gB ?_;refine gx ?_;exact aF ⟨false,d.symm,rfl,h.kept a,af.aR (af.refl W g) a⟩
 refine BL 9 false hS ?_ ?_
 ·exact vy (by omega)
 refine eL 10 hS ?_;refine eL 11 hS ?_;refine mO 12 hS ?_;refine jG 13 hS ?_;refine eA 14 (hb.cell 0 rfl) (by omega) hS ?_;refine eL 15 hS ?_;refine mO 16 hS ?_;refine jG 17 hS ?_;refine eA 18 (hb.cell 1 rfl) (by omega) hS ?_;obtain⟨b,rfl,hr⟩:=h.row hi;have m:=c.WD _ (mN hi)
 generalize w:ar ts i=t at*;refine Tb (s:=3) 19 i hi hS ?_;refine jG 20 hS ?_;refine eA 21 (hr 0 _ rfl) (by omega) hS ?_;by_cases f:t.kind=3;case neg=>
  have d:bF t x.data.toList=false:=gQ f;refine BL 22 true hS ?_ ?_
  ·have:=mt (Ov m).1 f;exact bne_iff_ne.2 (by omega)
  refine eL 23 hS ?_;refine eL 24 hS ?_;refine yzs [25,26,27,28,29,30,31,32,33,34,35,36,37] hS ?_;refine eL 38 hS ?_;refine gB ?_;refine gx ?_;exact aF ⟨false,d.symm,rfl,h.kept a,af.aR (af.refl W g) a⟩
 have p:kS t.kind=0:=(Ov m).2 f;have d:bF t x.data.toList=(t.text.toList==x.data.toList):=by unfold bF;rw[f];rfl
 refine BL 22 false hS ?_ ?_
 ·show(((kS t.kind:Nat):Int) != 0)=false;rw[p];rfl
 refine eL 23 hS ?_;refine eL 24 hS ?_;refine eL 25 hS ?_;refine mO 26 hS ?_;refine jG 27 hS ?_;refine eA 28 (hb.cell 0 rfl) (by omega) hS ?_;refine eL 29 hS ?_;refine mO 30 hS ?_;refine jG 31 hS ?_;refine eA 32 (hb.cell 1 rfl) (by omega) hS ?_;refine eL 36 hS ?_;refine Tb (s:=3) 33 i hi hS ?_;refine jG 34 hS ?_;refine eA 35 (hr 1 _ rfl) (by omega) hS ?_;refine aeC 37 (!(t.text.toList==x.data.toList)) hS rfl ?_;cases k:(t.text.toList==x.data.toList)
 ·rw[k] at d;refine eL 38 hS ?_;refine gB ?_;refine gx ?_;exact aF ⟨false,d.symm,rfl,h.kept a,af.aR (af.refl W g) a⟩
 rw[k] at d;refine eL 38 hS ?_;refine gB ?_;have o:=hb.kept a;refine gx ?_;refine mH ((i+1:Nat):Int) ?_ ?_ ?_
 ·show(i:Int)+1=_;omega
 ·rw[IntKind.wrap_i64];omega
 refine gx ?_;refine fV (i:=1) o (by simp) rfl λ v j r=> ?_;refine gx ?_;exact aF ⟨true,d.symm,rfl,(h.kept a).set (Nat.le_succ i) hi j r,af.cX (af.aR (af.refl W g) a) j⟩
theorem jH(c:KV ts)(h:cK W g ta tc ts en i vc)(x:ByteArray)(hx:bF (ar ts i) x.data.toList=true):Calls prog 437 #[.pointer (some ⟨g,0,none⟩),.string x] W λ e W'=>(∃v,e= .returned v)/\cK W' g ta tc ts en (i+1) vc/\af W W' g:=by
 refine dK [_,_] 10 func437 rfl ntmps437 (by simp) ?_;refine gx ?_;refine zc 391 _ (bZ c h x) ?_;rintro e d ⟨u,a,rfl,h2,b⟩
 refine⟨_,rfl,?_⟩
 rw[hx] at a;subst a;refine gx ?_;exact fR λ v=>⟨⟨v,rfl⟩,h2,b⟩
theorem Tc{a:Nat}(h:a<=3)(hb:b<=3):kS a=kS b↔a=b:=by
 rcases(show a=0∨a=1∨a=2∨a=3 by omega) with rfl|rfl|rfl|rfl<;>rcases(show b=0∨b=1∨b=2∨b=3 by omega) with rfl|rfl|rfl|rfl<;>decide
theorem qM(c:KV ts)(h:cK W g ta tc ts en i vc)(F:k<=3):Calls prog 435 #[.pointer (some ⟨g,0,none⟩),.int .i64 ((kS k:Nat):Int)] W λ e W'=>∃u,u=((ar ts i).kind==k)/\cK W' g ta tc ts en (if u=true then i+1 else i) vc/\af W W' g/\(if u=true then e= .returned (.tuple #[.agg (sH k (ar ts i).text (ar ts i).at'),.bool true]) else e= .returned (.tuple #[.agg QH,.bool false])):=by
 have hb:=h.bw;have y:=c.len;have C:=h.le;refine dK [_,_] 50 func435 rfl ntmps435 (by simp) ?_;refine gx ?_;refine za QH 410 λ q g1 e1 d M q1=> ?_;refine gx ?_;have p:=hb.kept d;have N:=hb.lt;refine eJ 0 0 λ hS=> ?_;refine eL 0 hS ?_;refine mO 1 hS ?_;refine jG 2 hS ?_;refine eA 3 (p.cell 1 rfl) (by omega) hS ?_;refine eL 4 hS ?_;refine mO 5 hS ?_;refine jG 6 hS ?_;refine eA 7 (p.cell 0 rfl) (by omega) hS ?_;refine Lr 8 hS ?_;have f:aa q q.drew:=(aa.refl q).drew;have n:=M.kept f;have G:=p.kept f;by_cases hi:i<ts.length;case neg=>
  have K:i=ts.length:=by omega
  have J:((ar ts i).kind==k)=false:=by rw[oq hi];exact vy (show(4:Nat)≠k by omega)
  refine BL 9 true hS ?_ ?_
  ·show((i:Int)==(ts.length:Int))=true;rw[K];simp
  refine eL 10 hS ?_;refine yzs [11,12,13,14,15,16,17,18,19,20,21,22,23] hS ?_;refine eL 24 hS ?_;refine gB ?_;refine gx ?_;refine zr (.agg QH) ?_;refine zt n eh eh λ m a l=> ?_;refine gx ?_;exact fE l eh ⟨false,J.symm,h.kept ((d.trans f).but a (by omega)),af.aR (af.refl W g) ((d.trans f).but a (by omega)),by rw[if_neg iZ];rfl⟩
 refine BL 9 false hS ?_ ?_
 ·exact vy (by omega)
 refine eL 10 hS ?_;refine eL 11 hS ?_;refine mO 12 hS ?_;refine jG 13 hS ?_;refine eA 14 (p.cell 0 rfl) (by omega) hS ?_;refine eL 15 hS ?_;refine mO 16 hS ?_;refine jG 17 hS ?_;refine eA 18 (p.cell 1 rfl) (by omega) hS ?_;refine eL 22 hS ?_;obtain⟨b,rfl,x⟩:=h.row hi;have hr:q.rangeAt b (0+i*3) (sH (ar ts i).kind (ar ts i).text (ar ts i).at').toList:=λ j v hv=>d.cell (x j v hv)
 have D:=c.WD _ (mN hi)
 have E:=Tc D F;generalize A:ar ts i=t at*;refine Tb (s:=3) 19 i hi hS ?_;refine jG 20 hS ?_;refine eA 21 (hr 0 _ rfl) (by omega) hS ?_;by_cases o:t.kind=k;case neg=>
  refine BL 23 true hS ?_ ?_
  ·have:=mt E.1 o;exact bne_iff_ne.2 (by omega)
  refine eL 24 hS ?_;refine gB ?_;refine gx ?_;refine zr (.agg QH) ?_;refine zt n eh eh λ m a l=> ?_;refine gx ?_;exact fE l eh ⟨false,(vy o).symm,h.kept ((d.trans f).but a (by omega)),af.aR (af.refl W g) ((d.trans f).but a (by omega)),by rw[if_neg iZ];rfl⟩
 refine BL 23 false hS ?_ ?_
 ·show(((kS t.kind:Nat):Int) !=((kS k:Nat):Int))=false;rw[o];simp
 refine eL 24 hS ?_;refine gB ?_;refine gx ?_;refine mH ((i+1:Nat):Int) ?_ ?_ ?_
 ·show(i:Int)+1=_;omega
 ·rw[IntKind.wrap_i64];omega
 refine gx ?_;refine fV (i:=1) G (by simp) rfl λ m a l=> ?_;replace l:aD m g #[.slice (some ⟨b,0,none⟩) ts.length tc,.int .i64 ((i+1:Nat):Int),.int .i64 (en:Int),vc] 414:=l;have L:=n.ai a (by omega)
 have z:=(h.kept (d.trans f)).set (Nat.le_succ i) hi a l;obtain⟨b',H,w⟩:=(z.tok.row hi)
 obtain rfl:b=b':=by simpa using H
 have B:m.rangeAt b (0+i*3) (sH t.kind t.text t.at').toList:=λ j v hv=>by
  have e:ts[i]=t:=by rw[<-A];unfold ar;rw[nW hi];rfl
  rw[e] at w;exact dP _ _ _ _ (w j v hv)
 have O:b<W.heap.size:=World.block_lt_of_cell? W _ (x 0 _ rfl)
 refine gx ?_;refine eJ g1 (g1+1) λ hS=> ?_;refine eL 0 hS ?_;refine mO 1 hS ?_;refine jG 2 hS ?_;refine eA 3 (l.cell 0 rfl) (by omega) hS ?_;refine eL 4 hS ?_;refine mO 5 hS ?_;refine jG 6 hS ?_;refine eA 7 (l.cell 1 rfl) (by omega) hS ?_;refine yar 8 (i:Int) hS ?_ ?_ ?_
 ·show((i+1:Nat):Int)-1=_;omega
 ·rw[IntKind.wrap_i64];omega
 refine Tb (s:=3) 9 i hi hS ?_;refine ylg 10 B (by omega) ⟨by kernel_rfl,by first|kernel_rfl|simp[Value.oneCell']⟩ hS ?_;refine yt 11 (L.kept (aa.refl m).drew) eh eh (.inl ⟨aU _,Nat.lt_succ_self _⟩) hS λ w3 r b3 hS=> ?_;refine eL 12 hS ?_;refine gB ?_;refine gx ?_;have I:cK w3 g (some ⟨b,0,none⟩) tc ts en (i+1) vc:=cK.loc h ((ao (af.cX (af.aR (af.refl W g) (d.trans f)) a)).kept (aa.refl m).drew |>.loc r (by omega)) (z.kept (aa.refl m).drew) r (by omega) (h.fresh (by omega))
 exact fE b3 eh ⟨true,(beq_iff_eq.2 o).symm,I,af.vC (af.aR (af.cX (af.aR (af.refl W g) (d.trans f)) a) (aa.refl m).drew) r (by omega),by rw[if_pos rfl,<-o];rfl⟩
end
theorem BD(h:Below w.heap.size w w'):aa w w':=⟨h.size,λ b hb=>h.block b hb,h.tape,h.os,h.output⟩
def Ar(acc:Nat)(l:List UInt8):Nat:=l.foldl (λ n c=>n*10+(c.toNat-48)) acc
theorem On:∀(l:List UInt8)(acc:Nat),acc<=Ar acc l
 |[],acc=>aU _
 |c::r,acc=>by
  have:=On r (acc*10+(c.toNat-48))
  show acc<=Ar (acc*10+(c.toNat-48)) r;omega
theorem aer:∀(l:List UInt8)(acc:Nat),(∀c∈l,48<=c.toNat/\c.toNat<=57)->Lib.parseUint10 acc l= .ok (Ar acc l)∨(Lib.parseUint10 acc l= .range/\18446744073709551616<=Ar acc l)
 |[],acc,_=>.inl rfl
 |c::r,acc,h=>by
  have hc:=h c (my ..)
  have hv:Ar acc (c::r)=Ar (acc*10+(c.toNat-48)) r:=rfl;have a:=On r (acc*10+(c.toNat-48))
  rw[Lib.parseUint10,if_pos hc,hv]
  split
  ·exact .inr ⟨rfl,by omega⟩
  ·split
   ·exact .inr ⟨rfl,by omega⟩
   ·exact aer r _ λ c hc=>h c (rG _ hc)
theorem S5{l:List UInt8}(h:∀c∈l,48<=c.toNat/\c.toNat<=57)(a:l≠[]):Lib.atoiAll l= .ok ((Ar 0 l:Nat):Int)∨(Lib.atoiAll l= .range/\9223372036854775808<=Ar 0 l):=by
 cases l with
 |nil=>exact absurd rfl a
 |cons c r=>
  have hc:=h c (my ..)
  have e:Lib.parseMag (if c.toNat=43∨c.toNat=45 then r else c::r)=Lib.parseUint10 0 (c::r):=by
   rw[if_neg (by omega),Lib.parseMag,if_neg (by simp)]
  unfold Lib.atoiAll;simp only[e]
  rcases aer (c::r) 0 h with h1|⟨h1,h2⟩
  ·rw[h1]
   simp only;by_cases h3:9223372036854775808<=Ar 0 (c::r)
   ·rw[if_pos ⟨by omega,h3⟩]
    exact .inr ⟨rfl,h3⟩
   ·rw[if_neg (by omega),if_neg (by omega),if_neg (by omega)]
    exact .inl rfl
  ·rw[h1]
   exact .inr ⟨rfl,by omega⟩
theorem Im(s:ByteArray):∀m,m<=s.size->dE s 0 m=Ar 0 (s.data.toList.take m)
 |0,_=>rfl
 |m+1,hm=>by
  have a:m<s.data.toList.length:=by rw[Array.length_toList];exact hm
  rw[dE,Im s m (by omega),List.take_succ_eq_append_getElem a]
  unfold Ar;rw[List.foldl_append,lp,kD (show m<s.size by omega)]
  rfl
theorem Io(s:ByteArray):cw s=Ar 0 s.data.toList:=by
 unfold cw;rw[Im s s.size (aU _),List.take_of_length_le (by simp)]
theorem QC(h:nu s):∀c∈s.data.toList,48<=c.toNat/\c.toNat<=57:=λ c hc=>by
 obtain⟨k,b,rfl⟩:=List.getElem_of_mem hc;have a:k<s.size:=by simpa using b
 have:=lK (h k a)
 rw[kD a] at this;exact this
theorem Lu(h:nu s)(f:0<s.size)(hs:s.size<=1000000)(d:∃ev,w.cell? ⟨5,0,none⟩=some ev/\(ev= .nilIface∨∃te pe,ev= .iface te pe)):
 Calls prog 194 #[.string s] w λ e w'=>((e= .returned (.tuple #[.int .i64 (cw s:Int),.nilIface]))∨∃v N,e= .returned (.tuple #[.int .i64 v,.iface 364 (.pointer (some ⟨N,0,none⟩))])/\9223372036854775808<=cw s)/\aa w w':=by
 have c:s.data.toList≠[]:=λ e=>by
  have:s.data.toList.length=s.size:=by simp
  rw[e] at this;simp at this;omega
 rcases S5 (QC h) c with h1|⟨h1,h2⟩
 ·rw[<-Io] at h1;refine(Tryz.strconv_Atoi_ok s (by omega) _ h1 w).mono ?_;rintro e w' ⟨rfl,rfl|⟨t,rfl⟩⟩
  ·exact⟨.inl rfl,aa.refl _⟩
  ·exact⟨.inl rfl,BD (Lib.bytesWorld_below ..)⟩
 ·rw[<-Io] at h2;obtain⟨ev,b,a⟩:=d;refine(Tryz.strconv_Atoi_range s (by omega) h1 ev w b a).mono ?_;rintro e w' ⟨N,rfl,-,-,hb⟩
  exact⟨.inr ⟨_,N,rfl,h2⟩,BD hb⟩
theorem Ip{t:ByteArray}{k:Nat}(a:k<=t.size):∀m,m<=t.size-k->dE (t.extract k t.size) 0 m=dE t k m
 |0,_=>rfl
 |m+1,hm=>by rw[dE,dE,Ip a m (by omega),lp,fD (aU _) (by omega)]
theorem QD{t:ByteArray}(h:nu t)(a:k<=t.size)(b:∀j,j<k->bt t j=48):cw (t.extract k t.size)=cw t:=by
 unfold cw;rw[bO _ _ _ (aU _),Ip a _ (aU _)]
 have:=Ir t 0 k (t.size-k)
 rw[lp,show k+(t.size-k)=t.size by omega,(BB h k a).2 b,Nat.zero_mul,lp] at this;exact this.symm
def sF(w:World):Prop:=∃ev,w.cell? ⟨5,0,none⟩=some ev/\(ev= .nilIface∨∃te pe,ev= .iface te pe)
theorem sF.kept(h:sF w)(k:aa w w'):sF w':=by
 obtain⟨ev,h1,h2⟩:=h;exact⟨ev,k.cell h1,h2⟩
theorem DG{t:aS}(hA:nu t.text)(r:0<t.text.size)(hs:t.text.size<=4000)(hR:sF w){lo hi:Nat}(x:hi<1000):
 Calls prog 102 #[.agg (iH t.kind t.text t.at'),.int .i64 (lo:Int),.int .i64 (hi:Int)] w λ e w'=>e= .returned (.bool (decide (lo<=cw t.text)&&decide (cw t.text<=hi)))/\aa w w':=by
 refine dK [_,_,_] 32 func102 rfl ntmps102 (by simp) ?_;refine gx ?_;refine zb λ u g1 e1 d z q1=> ?_;refine gx ?_;refine zc 193 _ (Fo (b:=t.text) (by omega) r) ?_;rintro e s ⟨⟨k,q,rfl,h1,h2⟩,c⟩
 refine⟨_,rfl,?_⟩
 have p:(t.text.extract k t.text.size).size=t.text.size-k:=bO _ _ _ (aU _)
 have o:=QD hA q h1;refine gx ?_;refine pJ (decide (k=t.text.size)) ?_ ?_
 ·rw[Il,p,decide_eq_decide];omega
 refine gx ?_;have hK:=hR.kept (d.trans c)
 by_cases g:k=t.text.size;case' pos=>
  rw[cU g]
  have a:nu ⟨#[48]⟩:=λ j n=>by
   have:j=0:=by have:(⟨#[48]⟩:ByteArray).size=1:=rfl;omega
   subst this;rfl
  have l:0<(⟨#[48]⟩:ByteArray).size:=by decide
  have i:(⟨#[48]⟩:ByteArray).size<=1000000:=by decide
  have h:cw ⟨#[48]⟩=cw t.text:=by
   rw[<-o,g,Iu]
   rfl
  refine gx ?_
 case' neg=>
  rw[gy g]
  have a:nu (t.text.extract k t.text.size):=BE (aU _) λ j _ n=>hA j n;have l:0<(t.text.extract k t.text.size).size:=by omega
  have i:(t.text.extract k t.text.size).size<=1000000:=by omega
  have h:=o;refine gx ?_
 all_goals
  refine zc 194 _ (Lu a l i hK) ?_;rw[h]
  rintro e w3 ⟨rfl|⟨v,N,rfl,y⟩,f⟩
  ·refine gx ?_;refine z2 (.bool true) ?_;refine gx ?_;by_cases m:lo<=cw t.text;case neg=>
    refine gx ?_;exact aF ⟨by rw[gy m,Bool.false_and],(d.trans c).trans f⟩
   refine gx ?_;refine cr (decide (cw t.text<=hi)) ?_ ?_
   ·show decide ((cw t.text:Int)<=(hi:Int))=_;rw[decide_eq_decide];omega
   refine gx ?_;exact aF ⟨by rw[cU m,Bool.true_and],(d.trans c).trans f⟩
  ·refine gx ?_;refine z2 (.bool false) (hrun:=by go_simp) ?_;refine gx ?_;exact aF ⟨by rw[gy (show ¬cw t.text<=hi by omega),Bool.and_false],(d.trans c).trans f⟩
def xR(lo hi:Nat)(t:aS):Bool:=decide (lo<=cw t.text)&&decide (cw t.text<=hi)
def nv(ts:List aS)(lo hi:Nat)(o:Int)(k:Nat):Int:=if !(xR lo hi (ar ts k))&&(decide (o<0)||decide (((ar ts k).at':Int)<o)) then((ar ts k).at':Int) else o
def fb(ts:List aS)(lo hi:Nat)(ks:List Nat)(o:Int):Int:=ks.foldl (nv ts lo hi) o
theorem Lv(ts:List aS)(lo hi:Nat)(ks:List Nat)(k:Nat)(o:Int):fb ts lo hi (ks++[k]) o=nv ts lo hi (fb ts lo hi ks o) k:=by unfold fb;rw[List.foldl_append];rfl
def BG(ts:List aS)(ks:List Nat):Prop:=∀k∈ks,k<ts.length/\nu (ar ts k).text/\0<(ar ts k).text.size/\(ar ts k).text.size<=4000
theorem S6{ks:List Nat}(h:i<ks.length):(nA ks)[i]? =some (.int .i64 (ks[i]:Int)):=by unfold nA;rw[List.getElem?_map,nW h];rfl
theorem pT{B e sz:Nat}{v:Value}{cs:List Value}(h:w.ownsRow B e sz v n cs):n<=maxLen:=by
 obtain⟨-,⟨rfl,rfl⟩|⟨g,cap,a,rfl,hb,b,hn,hm,-⟩⟩:=h
 ·exact eo _
 ·exact jP hn hm
theorem BH{W0 W:World}{g1 go:Nat}{ta:Option Addr}{tc:Nat}(h:Ls W0 g ta tc ts)(hR:sF W0){x:cW}{bx cd:Value}{vl:Value}{ks:List Nat}(ho:W0.ownsRow 0 3 1 vl ks.length (nA ks))(hu:BG ts ks)
 {lo hi:Nat}(Hq:hi<1000)(Z:aa W0 W)(b1:aD W g1 (ef g s x bx cd) 69){o:Int}(bo:aD W go #[.int .i64 o] 3)(eF:g1≠go)(QF:W0.heap.size<=go):
 Calls prog 101 #[vl,.int .i64 (lo:Int),.int .i64 (hi:Int),.pointer (some ⟨g1,0,none⟩),.pointer (some ⟨go,0,none⟩)] W λ e W'=>(∃v,e= .returned v)/\aa W0 W'/\aD W' g1 (ef g s x bx cd) 69/\aD W' go #[.int .i64 (fb ts lo hi ks o)] 3:=by
 have wD:=pT ho;unfold maxLen at wD;obtain⟨la,lc,rfl,hlc,hll,a8⟩:=bI ho;obtain⟨x1,x2,x3,uM⟩:=h.bw;have Q:=h.len;refine dK [_,_,_,_,_] 43 func101 rfl ntmps101 (by simp) ?_;refine gx ?_;refine mi ks.length (λ k=>[(1,.int .i64 (lo:Int)),(2,.int .i64 (hi:Int)),(3,.pointer (some ⟨g1,0,none⟩)),(4,.pointer (some ⟨go,0,none⟩)),(11,.slice la ks.length lc),(12,.int .i64 (ks.length:Int)),(13,.int .i64 (k:Int))]) (λ k B=>aa W0 B/\k<=ks.length/\aD B g1 (ef g s x bx cd) 69/\aD B go #[.int .i64 (fb ts lo hi (ks.take k) o)] 3) ⟨rfl,rfl,rfl,rfl,rfl,rfl,rfl,trivial⟩ ⟨Z,eo _,b1,bo⟩ λ fl wr k hk ⟨n,Lt,m,j⟩=> ?_;refine gx ?_;by_cases l:k<ks.length;case neg=>
  refine gx ?_;obtain rfl:k=ks.length:=by omega
  rw[List.take_length] at j;exact fR λ v=>⟨⟨v,rfl⟩,n,m,j⟩
 refine gx ?_;obtain⟨M,Oo,H,p⟩:=a8 k (by unfold nA;simpa using l)
 subst H;rw[S6 l] at p;replace p:=n.cell p;obtain⟨f,hA,O,r⟩:=hu ks[k] (List.getElem_mem l)
 obtain⟨a,R⟩:∃a,a=ks[k]:=⟨_,rfl⟩
 have c:fb ts lo hi (ks.take (k+1)) o=nv ts lo hi (fb ts lo hi (ks.take k) o) a:=by rw[List.take_succ_eq_append_getElem l,Lv,R]
 rw[<-R] at p f hA O r;have hbr:=uM.kept n;obtain⟨tb,rfl,P⟩:=(h.tok.sub λ _ _ hc=>n.cell hc).row f;have J:ts[a]=ar ts a:=by unfold ar;rw[nW f];rfl
 rw[J] at P;have G:wr.cell? ⟨M,0+k*1,none⟩=some (.int .i64 (a:Int)):=by rw[lp,Nat.mul_one];exact p
 clear p;refine gx ?_;refine zi (s:=1) k l ?_;refine kB G ?_;refine gx ?_;refine zi (s:=3) a f ?_;refine zl P ⟨by kernel_rfl,by first|kernel_rfl|simp[Value.oneCell']⟩ ?_;refine za ZT 153 λ w2 g2 e2 F b2 q2=> ?_;refine zt b2 lC cA λ w3 E b3=> ?_;have z1:=m.lt;have zo:=j.lt;have V:aa W0 w3:=(n.trans F).but E (by have:=n.size;omega)
 have K:=(m.kept F).ai E (by omega)
 have w:=(j.kept F).ai E (by omega)
 have S:Calls prog 102 #[.agg (iH (ar ts a).kind (ar ts a).text (ar ts a).at'),.int .i64 (lo:Int),.int .i64 (hi:Int)] w3 λ e w'=>e= .returned (.bool (xR lo hi (ar ts a)))/\aa w3 w':=DG hA O r (hR.kept V) Hq;unfold nv at c;generalize ar ts a=t at*;obtain⟨d,Au⟩:∃d,d=fb ts lo hi (ks.take k) o:=⟨_,rfl⟩
 rw[<-Au] at c w;obtain⟨b,hb⟩:∃b,b=xR lo hi t:=⟨_,rfl⟩
 rw[<-hb] at c S;refine gx ?_;refine zl b3.range ⟨by kernel_rfl,by first|kernel_rfl|simp[Value.oneCell']⟩ ?_;refine gz ?_;refine zc 102 _ S ?_;rintro e L ⟨rfl,C⟩
 refine⟨_,rfl,?_⟩
 have U:=V.trans C;have b4:=b3.kept C;have A:=K.kept C;have u:=w.kept C;refine If ?_;refine Fp (σ:=Unit) (λ _=>[(1,.int .i64 (lo:Int)),(2,.int .i64 (hi:Int)),(3,.pointer (some ⟨g1,0,none⟩)),(4,.pointer (some ⟨go,0,none⟩)),(10,.pointer (some ⟨g2,0,none⟩)),(11,.slice (some ⟨M,0,none⟩) ks.length lc),(12,.int .i64 (ks.length:Int)),(13,.int .i64 (k:Int)),(39,.bool (!b&&(decide (d<0)||decide ((t.at':Int)<d))))]) (λ _ B=>B=L) (λ _ _=>False) (λ Q' I _=> ?_) (λ l' X _ hw=> ?_) (λ _ _ _ h=>h.elim)
 ·cases b
  case true=>
   refine gx ?_;exact I _ _ () ⟨rfl,rfl,rfl,rfl,rfl,rfl,rfl,rfl,rfl,trivial⟩ rfl
  refine gx ?_;by_cases D:d<0
  ·refine cr true ?_ ?_
   ·exact cU D
   refine gx ?_;exact I _ _ () ⟨rfl,rfl,rfl,rfl,rfl,rfl,rfl,rfl,by rw[cU D];rfl,trivial⟩ rfl
  refine cr false ?_ ?_
  ·exact gy D
  refine gx ?_;refine cr (decide ((t.at':Int)<d)) ?_ ?_
  ·rfl
  refine gx ?_;exact I _ _ () ⟨rfl,rfl,rfl,rfl,rfl,rfl,rfl,rfl,by rw[gy D];rfl,trivial⟩ rfl
 obtain rfl:X=L:=hw;obtain⟨z,hz⟩:∃z,z=(!b&&(decide (d<0)||decide ((t.at':Int)<d))):=⟨_,rfl⟩
 rw[<-hz] at c⊢;cases z
 case' false=>
  replace c:fb ts lo hi (ks.take (k+1)) o=d:=c;have y:=A;have q:=u;have T:=U;rw[<-c] at q;refine gx ?_
 case' true=>
  replace c:fb ts lo hi (ks.take (k+1)) o=(t.at':Int):=c;refine gx ?_;refine fV (i:=0) u (by simp) rfl λ Y N q=> ?_;replace q:aD Y go #[.int .i64 (t.at':Int)] 3:=q;have y:=A.ai N eF;have T:=U.but N QF;rw[<-c] at q;refine gx ?_
 all_goals
  refine mH ((k+1:Nat):Int) ?_ ?_ ?_
  ·show(k:Int)+1=_;omega
  ·rw[IntKind.wrap_i64];omega
  refine gx ?_;exact⟨_,rfl,l,⟨rfl,rfl,rfl,rfl,rfl,rfl,rfl,trivial⟩,T,l,y,q⟩
def mj(ts:List aS)(ex ix:List Nat):Option (Nat×Nat):=if fb ts 2 8 ix (fb ts 0 32 ex (-1))<0 then none else some ((fb ts 2 8 ix (fb ts 0 32 ex (-1))).toNat,2)
theorem Iw{W:World}{ta:Option Addr}{tc:Nat}(h:Ls W g ta tc ts)(hR:sF W){x:cW}{bx cd:Value}(hb:∃a n c,bx= .slice a n c)(hc:∃a n c,cd= .slice a n c){j:Nat}{ve vi:Value}{ex ix:List Nat}
 (m:aD W g #[.slice ta ts.length tc,.int .i64 (j:Int),ve,vi] 161)(oe:W.ownsRow 0 3 1 ve ex.length (nA ex))(oi:W.ownsRow 0 3 1 vi ix.length (nA ix))(ue:BG ts ex)(ui:BG ts ix):
 Calls prog 36 #[.agg (ef g s x bx cd)] W λ e W'=>e= .returned (Zq (mj ts ex ix))/\aa W W':=by
 have H:=qJ (g:=g) (s:=s) (x:=x) hb hc;refine ct 23 func36 rfl ntmps36 ?_;refine gx ?_;refine zb λ E g1 e1 f A q1=> ?_;refine gx ?_;refine za #[.int .i64 0] 3 λ D g2 I l w F=> ?_;refine fV (i:=0) w (by simp) rfl λ w3 k b3=> ?_;replace b3:aD w3 g2 #[.int .i64 (-1)] 3:=b3;have r:aa W w3:=(f.trans l).but k (by have:=f.size;omega)
 have z:=(A.kept l).ai k (by omega)
 have G:=m.kept r;refine gx ?_;refine zr (.func (.func 101) #[] #[.pointer (some ⟨g1,0,none⟩),.pointer (some ⟨g2,0,none⟩)]) ?_;refine gx ?_;have z2:W.heap.size<=g2:=by have:=f.size;omega
 refine zc 101 _ (BH h hR oe ue (lo:=0) (hi:=32) (by decide) r z b3 (by omega) z2) ?_;rintro e C ⟨⟨v,rfl⟩,q,y,u⟩
 refine⟨_,rfl,?_⟩
 have t:=m.kept q;refine gx ?_;refine zc 101 _ (BH h hR oi ui (lo:=2) (hi:=8) (by decide) q y u (by omega) z2) ?_;rintro e B ⟨⟨v,rfl⟩,p,K,J⟩
 refine⟨_,rfl,?_⟩
 have d:mj ts ex ix=if fb ts 2 8 ix (fb ts 0 32 ex (-1))<0 then none else some ((fb ts 2 8 ix (fb ts 0 32 ex (-1))).toNat,2):=rfl
 generalize fb ts 2 8 ix (fb ts 0 32 ex (-1))=o at*;refine gx ?_;refine cr (!decide (o<0)) ?_ ?_
 ·show decide ((0:Int)<=o)=_;by_cases b:o<0
  ·rw[cU b,gy (by omega)];rfl
  ·rw[gy b,cU (by omega)];rfl
 by_cases b:o<0
 ·rw[if_pos b] at d;rw[cU b]
  refine gx ?_;exact fa ⟨by rw[d];rfl,p⟩
 ·rw[if_neg b] at d;rw[gy b]
  refine gx ?_;refine fa ⟨?_,p⟩
  rw[d]
  show _=Ending.returned (.tuple #[.int .i64 (o.toNat:Int),.int .i64 2])
  rw[Int.toNat_of_nonneg (by omega)]
  rfl
def sx(N g:Nat)(vc:Value)(X:Nat->Bool):Nat->Bool:=λ b=>decide (N<=b)&&(yw g vc b&& !X b)
theorem jx{N:Nat}{X:Nat->Bool}(h:sx N g vc X b=true):N<=b/\yw g vc b=true/\X b=false:=by
 unfold sx at h;simpa using h
theorem ot{N:Nat}{X:Nat->Bool}(h1:N<=b)(h2:yw g vc b=true)(h3:X b=false):sx N g vc X b=true:=by
 unfold sx;simp[h1,h2,h3]
def no0:Nat->Bool:=λ _=>false
def gh(W:World)(N g:Nat)(vc:Value)(X:Nat->Bool)(v:Value)(t:aj):Prop:=∃F,Ex (aB W (sx N g vc X)) F v t
section
variable{W W1 W2 W':World}{N N' g en i:Nat}{ta:Option Addr}{tc:Nat}{ts:List aS}{vc v1 v2 v:Value}{X Y:Nat->Bool}{t:aj}
theorem gh.agg(h:gh W N g vc X v t):∃V,v= .agg V/\dY 27 V:=by
 obtain⟨F,h⟩:=h;exact h.own
theorem gh.fo(h:gh W N g vc X v t)(k:fL W W1 g vc v1):gh W1 N g v1 X v t:=by
 obtain⟨F,h⟩:=h;exact⟨F,h.sub (au λ b hb hs=>by
  obtain⟨h1,h2,h3⟩:=jx hs;exact⟨ot h1 (k.nx hb h2) h3,k.old b hb h2⟩)⟩
theorem gh.kept(h:gh W N g vc X v t)(k:aa W W1):gh W1 N g vc X v t:=h.fo (fy k)
theorem gh.loc(h:gh W N g vc X v t)(k:af W W1 b)(hx:X b=true):gh W1 N g vc X v t:=by
 obtain⟨F,h⟩:=h;exact⟨F,h.sub (au λ c hc hs=>by
  refine⟨hs,k.old c hc λ e=> ?_⟩
  obtain⟨-,-,h3⟩:=jx hs;rw[e,hx] at h3;cases h3)⟩
theorem gh.up(h:gh W N' g vc no0 v t)(c:N<=N')(a:∀b,X b=true->b<N'):gh W N g vc X v t:=by
 obtain⟨F,h⟩:=h;exact⟨F,h.sub (iJ λ b hs=>by
  obtain⟨h1,h2,-⟩:=jx hs;refine ot (jP c h1) h2 ?_;cases hx:X b with
  |false=>rfl
  |true=>have:=a b hx;omega)⟩
theorem gh.down(h:gh W N g vc X v t):gh W N g vc no0 v t:=by
 obtain⟨F,h⟩:=h;exact⟨F,h.sub (iJ λ b hs=>by
  obtain⟨h1,h2,-⟩:=jx hs;exact ot h1 h2 rfl)⟩
def N7(op arg:Int)(a:Option Addr)(n c:Nat):Array Value:=#[.int .i64 op,.int .i64 arg,.bool false,.slice none 0 0,.slice none 0 0,.string ⟨#[]⟩,.slice a n c]
theorem eP(op arg:Int)(a:Option Addr)(n c:Nat):dY 27 (N7 op arg a n c):=nX
theorem cN(W:World)(op arg:Int)(a:Option Addr)(n c:Nat):Calls prog 392 #[.int .i64 op,.int .i64 arg,.slice a n c] W λ e W'=>e= .returned (.agg (N7 op arg a n c))/\aa W W':=by
 refine dK [_,_,_] 11 func392 rfl ntmps392 (by simp) ?_;refine gx ?_;refine za Z7 27 λ i g1 e1 d g q1=> ?_;refine gx ?_;refine zr (.agg (N7 op arg a n c)) ?_;refine zt g iK (eP ..) λ h b f=> ?_;refine gx ?_;exact ej f (eP ..) ⟨rfl,d.but b (by omega)⟩
theorem gh.nil(W:World)(N g:Nat)(vc:Value)(op arg:Int):gh W N g vc no0 (.agg (N7 op arg none 0 0)) (bY op arg []):=
 ⟨1,Ex.mk (aU _) (mP _) (by decide) (cs:=[]) (λ i hi=>absurd hi (Nat.not_lt_zero i)) (cl.nil _ _)⟩
theorem Td(_:KV ts)(h:cK W g ta tc ts en i vc):Calls prog 419 #[.pointer (some ⟨g,0,none⟩)] W λ e W'=>(∃a:Nat,e= .returned (.int .i64 (a:Int)))/\aa W W':=by
 have hb:=h.bw;have f:=h.le;have c:aa W W.drew:=(aa.refl W).drew;refine ct 27 func419 rfl ntmps419 ?_;refine gx ?_;refine eJ 0 0 λ hS=> ?_;refine eL 0 hS ?_;refine mO 1 hS ?_;refine jG 2 hS ?_;refine eA 3 (hb.cell 1 rfl) (by omega) hS ?_;refine eL 4 hS ?_;refine mO 5 hS ?_;refine jG 6 hS ?_;refine eA 7 (hb.cell 0 rfl) (by omega) hS ?_;refine Lr 8 hS ?_;refine BL 9 (decide (i<ts.length)) hS ?_ ?_
 ·show decide ((i:Int)<(ts.length:Int))=_;rw[decide_eq_decide];omega
 refine gB ?_;have d:=hb.kept c;by_cases hi:i<ts.length;case neg=>
  rw[gy hi]
  refine gx ?_;exact aF ⟨⟨en,rfl⟩,c⟩
 rw[cU hi]
 refine gx ?_;clear hS;obtain⟨b,rfl,hr⟩:=(h.kept c).row hi;refine eJ 0 0 λ hS=> ?_;refine eL 0 hS ?_;refine mO 1 hS ?_;refine jG 2 hS ?_;refine eA 3 (d.cell 0 rfl) (by omega) hS ?_;refine eL 4 hS ?_;refine mO 5 hS ?_;refine jG 6 hS ?_;refine eA 7 (d.cell 1 rfl) (by omega) hS ?_;refine Tb (s:=3) 8 i hi hS ?_;refine jG 9 hS ?_;refine eA 10 (hr 2 _ rfl) (by omega) hS ?_;refine eL 11 hS ?_;refine gB ?_;refine gx ?_;exact aF ⟨⟨_,rfl⟩,c.trans (aa.refl _).drew⟩
theorem fL.grow(h:fL W W1 g vc v1)(a:W1.grownBy W2 v1.ownBlock)(hn:v2.ownBlock=v1.ownBlock∨∀b,v2.ownBlock=some b->W1.heap.size<=b):fL W W2 g vc v2:=
 ⟨jP h.size a.size,λ b hb hf=>(a.block b (jf hb h.size) λ e=>(nB (h.nx hb hf)).2 e.symm).trans (h.old b hb hf),a.tape.trans h.tape,a.os.trans h.os,a.output.trans h.output,by
   rcases hn with hn|hn
   ·rcases h.fr with h2|h2
    ·exact .inl (hn.trans h2)
    ·exact .inr λ b hb=>h2 b (hn▸hb)
   ·exact .inr λ b hb=>jP h.size (hn b hb)⟩
theorem LA(c:KV ts)(h:cK W g ta tc ts en i vc)(q:(ar ts i).kind=0)(I:cL W):Calls prog 438 #[.pointer (some ⟨g,0,none⟩)] W λ e W'=>
 (∃a1 n1 c1 a2 n2 c2,e= .returned (.agg #[.bool false,.slice a1 n1 c1,.slice a2 n2 c2])/\Rt (aB W' (ab W.heap.size)) (.agg #[.bool false,.slice a1 n1 c1,.slice a2 n2 c2]) false (aN (ar ts i).text).n (aN (ar ts i).text).d)/\cK W' g ta tc ts en (i+1) vc/\af W W' g:=by
 have hi:i<ts.length:=by
  by_cases hi:i<ts.length
  ·exact hi
  ·rw[oq hi] at q;cases q
 have v:=c.num _ (mN hi) q;have hg:=h.bw.lt;generalize D:ar ts i=t at*;refine ct 22 func438 rfl ntmps438 ?_;refine gx ?_;refine za ZR 24 λ S g1 e1 B x q1=> ?_;refine gx ?_;refine zc 435 _ (qM c (h.kept B) (k:=0) (by decide)) ?_;rintro e r ⟨u,C,h2,s,he⟩
 rw[D,q] at C;obtain rfl:u=true:=by simpa using C
 rw[if_pos rfl,D] at he;subst he;refine⟨_,rfl,?_⟩
 replace h2:cK r g ta tc ts en (i+1) vc:=h2;have s2:=s.size;refine gx ?_;refine za QH 410 λ w3 g3 e3 p b3 Z=> ?_;refine zt b3 eh eh λ l o b4=> ?_;refine gx ?_;have E:af W r g:=af.cX (af.aR (af.refl W g) B) s;have y:af W l g:=af.vC (af.aR E p) o (by omega)
 have O:=((x.ai s (by omega)).kept p).ai o (by have:=x.lt;omega)
 have w:cL l:=h.laid (ao y) I;refine zc 100 _ (kF (t:=t.text) v w) ?_;rintro e R ⟨a1,n1,c1,a2,n2,c2,rfl,hR,j⟩
 refine gx ?_;refine za ZR 24 λ Q L e6 f b6 Y=> ?_;refine zt b6 cQ cQ λ G a b7=> ?_;have s3:=p.size;have X:=o.size;have V:=j.size;have U:=f.size;have l1:=x.lt;refine gx ?_;refine zl b7.range ⟨by kernel_rfl,by first|kernel_rfl|simp[Value.oneCell']⟩ ?_;refine zt ((((O.kept j).kept f).ai a (by omega))) cQ cQ λ F m N=> ?_;have T:=a.size;have P:af W F g:=af.vC (af.vC (af.aR (af.aR y j) f) a (by omega)) m (by omega)
 refine gx ?_;refine ej N cQ ⟨⟨a1,n1,c1,a2,n2,c2,rfl,?_⟩,?_,P⟩
 ·refine hR.sub (au λ b hb hs=> ?_)
  have H:l.heap.size<=b:=kC hs;exact⟨cU (by omega),(m.old b (by omega) (by omega)).trans ((a.old b (by omega) (by omega)).trans (f.old b (by omega)))⟩
 ·have p2:fL W r g vc vc:=ao E;have A:fL W l g vc vc:=ao y;have M:=h.fresh (b:=g3) (by omega)
  have f6:=h.fresh (b:=L) (by omega)
  have f1:=h.fresh (b:=g1) (by omega)
  have K:=cK.loc h A (h2.kept p) o (by omega) M;have z:fL W G g vc vc:=((A.kept j).kept f).loc a (by omega)
  have J:=cK.loc h z ((K.kept j).kept f) a (by omega) f6;exact cK.loc h (z.loc m (by omega)) J m (by omega) f1
end
end
end Go.Proofs.YtbapfnpbamnmpaaGreatDoor
