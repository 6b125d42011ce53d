/- A part of the proof that the text which Print makes of a parsed text is a normal form -/
import Derived.Test.YtbapfnpbamnmpaaGreatDoorP00
import Derived.Test.YtbapfnpbamnmpaaGreatDoorP01
import Derived.Deep.OwnRows
import Derived.Laws.AppendOwn
import Derived.Laws.BitsAllLaws
set_option maxHeartbeats 8000000
set_option maxRecDepth 100000
namespace Go.Dig
open Go Go.RowKit Go.Deep Go.Eng
def ep(zs:Nat->Nat)(p x:Nat):Nat->Nat:=λ j=>if j=p then x else zs j
theorem su(zs:Nat->Nat)(p x:Nat):ep zs p x p=x:=by simp[ep]
theorem bB(zs:Nat->Nat){p x j:Nat}(h:j≠p):ep zs p x j=zs j:=by simp[ep,h]
theorem N6{B:Nat}{zs:Nat->Nat}{p x n:Nat}(h:n<=p):ak B (ep zs p x) n=ak B zs n:=
 iU λ i hi=>bB zs (by omega)
theorem dH{B:Nat}{zs:Nat->Nat}{p x:Nat}:ak B (ep zs p x) (p+1)=ak B zs p+x*B^p:=by
 simp only[ak];rw[N6 (aU _),su]
structure uN(B:Nat)(xs ys Dr:Nat->Nat)(i j:Nat)(zs:Nat->Nat)(c:Nat):Prop where
 lt:∀k,zs k<B
 wI:c<B
 same:∀k,i+j<=k->zs k=Dr k
 eq:ak B zs (i+j)+c*B^(i+j)=ak B Dr (i+j)+xs i*ak B ys j*B^i
theorem jR{B x y z c:Nat}(hx:x<B)(d:y<B)(a:z<B)(hc:c<B):x*y+z+c<B*B:=by
 obtain⟨b,rfl⟩:∃b,B=b+1:=⟨B-1,by omega⟩
 have h1:x*y<=b*b:=Nat.mul_le_mul (by omega) (by omega)
 have h2:(b+1)*(b+1)=b*b+2*b+1:=by grind
 omega
theorem uN.start{B:Nat}{xs ys Dr:Nat->Nat}{i:Nat}(a:0<B)(h:∀k,Dr k<B):uN B xs ys Dr i 0 Dr 0:=
 ⟨h,a,λ _ _=>rfl,by simp[ak]⟩
theorem uN.step{B:Nat}{xs ys Dr zs:Nat->Nat}{i j c:Nat}(h:uN B xs ys Dr i j zs c)(hx:xs i<B)(a:ys j<B):
 uN B xs ys Dr i (j+1) (ep zs (i+j) ((xs i*ys j+zs (i+j)+c)%B)) ((xs i*ys j+zs (i+j)+c)/B):=by
 have hb:=jR hx a (h.lt (i+j)) h.wI;have b:0<B:=by omega
 refine⟨λ k=> ?_,Nat.div_lt_of_lt_mul hb,λ k f=> ?_,?_⟩
 ·unfold ep;split
  ·exact Nat.mod_lt _ b
  ·exact h.lt k
 ·rw[bB _ (by omega)];exact h.same k (by omega)
 ·have e:=h.eq;have es:=h.same (i+j) (aU _)
  generalize hs:xs i*ys j+zs (i+j)+c=s at*;have hd:=Nat.mod_add_div s B;rw[show i+(j+1)=i+j+1 by omega,dH]
  simp only[ak]
  rw[Nat.pow_succ,<-es]
  rw[Nat.pow_add] at*;generalize ak B zs (i+j)=V at*;generalize ak B Dr (i+j)=g at*;generalize ak B ys j=Y at*;generalize B^i=P at*;generalize B^j=Q at*;generalize s%B=r at*;generalize s/B=d at*;have:V+r*(P*Q)+d*(P*Q*B)=V+s*(P*Q):=by rw[<-hd];grind
  rw[this,<-hs]
  grind
structure qH(B:Nat)(xs ys:Nat->Nat)(n i:Nat)(zs:Nat->Nat):Prop where
 lt:∀k,zs k<B
 zero:∀k,i+n<=k->zs k=0
 eq:ak B zs (i+n)=ak B xs i*ak B ys n
theorem lI(B:Nat)(zs:Nat->Nat)(n:Nat)(h:∀k,k<n->zs k=0):ak B zs n=0:=by
 induction n with
 |zero=>rfl
 |succ n ih=>simp only[ak];rw[ih (λ k a=>h k (by omega)),h n (by omega)];simp
theorem qH.start{B:Nat}{xs ys:Nat->Nat}{n:Nat}(a:0<B):qH B xs ys n 0 (λ _=>0):=
 ⟨λ _=>a,λ _ _=>rfl,by rw[lI _ _ _ (λ _ _=>rfl)];simp[ak]⟩
theorem qH.step{B:Nat}{xs ys Dr zs:Nat->Nat}{n i c:Nat}(a:qH B xs ys n i Dr)(h:uN B xs ys Dr i n zs c):qH B xs ys n (i+1) (ep zs (i+n) c):=by
 refine⟨λ k=> ?_,λ k b=> ?_,?_⟩
 ·unfold ep;split
  ·exact h.wI
  ·exact h.lt k
 ·rw[bB _ (by omega),h.same k (by omega)];exact a.zero k (by omega)
 ·rw[show i+1+n=i+n+1 by omega,dH,h.eq,a.eq]
  simp only[ak]
  grind
end Go.Dig
namespace Go.Proofs.YtbapfnpbamnmpaaGreatDoor
open Go Go.RowKit Go.Dig Go.Deep Go.Eng Go.Proofs.Tryz
variable{w:World}{b base n:Nat}{zs:Nat->Nat}{v:Value}
theorem fO:(prog.info? 191).map (λ i=>(i.zero,i.size,i.bytes))=some (some (.int .u32 0),1,4):=by kernel_rfl
def ly(w:World)(b n:Nat)(zs:Nat->Nat):Prop:=w.rowIs b 191 n (λ j=>.int .u32 (zs j:Nat))
theorem ly.set(h:ly w b n zs)(p x:Nat):ly (w.setCell ⟨b,p,none⟩ (.int .u32 (x:Nat))) b n (ep zs p x):=
 (World.rowIs.set h p _).congr λ i _=>by simp only[ep];split<;>rfl
theorem ly.made(w:World)(n:Nat):ly (w.alloc (.cells (madeCells #[.int .u32 0] n) 191)) w.heap.size n (λ _=>0):=World.rowIs_made w _ n 191
theorem ly.kept{w':World}(h:ly w b n zs)(k:aa w w'):ly w' b n zs:=World.rowIs.of_block h (k.old b (World.rowIs.lt h))
theorem ly.cell(h:ly w b n zs){i:Nat}(hi:i<n):w.cell? ⟨b,i,none⟩=some (.int .u32 (zs i:Nat)):=World.rowIs.cell h hi
theorem ly.frozen(h:ly w b n zs)(i:Nat):w.frozen? ⟨b,i,none⟩=false:=World.rowIs.frozen h i
theorem ly.ws{k:Nat}(h:ly w b n zs)(a:k<=n):Ws w (some ⟨b,0,none⟩) k zs:=λ i hi=>⟨b,0,rfl,by rw[lp];exact h.cell (by omega)⟩
theorem YT(w:World)(b off n cap:Nat)(zs:Nat->Nat)(hn:n<=4611686018427387904)(h:n<=cap)
 (hc:∀i,i<n->w.cell? ⟨b,off+i,none⟩=some (.int .u32 (zs i:Nat))):
 Calls prog 248 #[.slice (some ⟨b,off,none⟩) n cap] w λ e w'=>e= .returned (.slice (some ⟨b,off,none⟩) (cC zs n) cap)/\w=w':=by
 go_enter func248,ntmps248;go_wp2;go_loop [0] (λ s=>∃k:Nat,k<=n/\s= .slice (some ⟨b,off,none⟩) k cap/\cC zs k=cC zs n) (λ s=>match s with| .slice _ k _=>k|_=>0)
 case atStart=>exact⟨n,aU _,rfl,rfl⟩
 case round=>
  obtain⟨k,g,rfl,f⟩:=hrel;have c:=Lib.hid f;clear f;cases k with
  |zero=>
   go_wp2;go_ret;exact⟨by rw[<-c.out];rfl,rfl⟩
  |succ k=>
   have h1:=hc k (by omega)
   have l:=Lib.hid hc;clear hc;by_cases a:zs k=0
   ·have d:=Lib.hid a;rw[a] at h1;clear a;go_wp2;go_round;case rel=>exact⟨k,by omega,by go_num,by rw[<-c.out];simp[cC,d.out]⟩
    case measure=>simp
   ·have j:((zs k:Int)==0)=false:=by simpa using a
    have d:=Lib.hid a;clear a;go_wp2;go_ret;exact⟨by rw[<-c.out];simp[cC,d.out],rfl⟩
theorem YU(w:World)(a:Option Addr)(cap:Nat):
 Calls prog 248 #[.slice a 0 cap] w λ e w'=>e= .returned (.slice a 0 cap)/\w=w':=by
 go_enter func248,ntmps248;go_wp2;go_loop [0] (λ s=>s= .slice a 0 cap) (λ s=>0)
 case atStart=>rfl
 case round=>
  subst hrel;go_wp2;go_ret;exact⟨rfl,rfl⟩
theorem gO(w:World)(a:Option Addr)(n cap:Nat)(zs:Nat->Nat)(hn:n<=4611686018427387904)(c:n<=cap)(h:Ws w a n zs):
 Calls prog 248 #[.slice a n cap] w λ e w'=>e= .returned (.slice a (cC zs n) cap)/\w=w':=by
 rcases h.open with rfl|⟨_,b,off,rfl,hc⟩
 ·exact YU w a cap
 ·exact YT w b off n cap zs hn c hc
theorem iX{B:Nat}{a:Option Addr}{cap:Nat}(c:n<=cap)(b:∀i,i<n->zs i<B)(h:Ws w a n zs):Nt B w (.slice a (cC zs n) cap) (ak B zs n):=
 ⟨a,cC zs n,cap,zs,rfl,jP (gN zs n) c,λ i hi=>b i (jf hi (gN zs n)),np zs n,pO B zs n,λ i hi=>h i (jf hi (gN zs n))⟩
def eX(B m:Nat)(w:World)(e:Ending)(w':World):Prop:=∃v,e= .returned v/\Nt B w' v m/\aa w w'
theorem Vv(w:World)(b off cap b' t F n a:Nat)(xs ys:Nat->Nat)(hn:n<=1024)(L:a<=1024)(R:0<n)(Q:0<a)
 (v:∀i,i<n->xs i<4294967296)(h:∀i,i<a->ys i<4294967296)
 (hx:∀i,i<n->w.cell? ⟨b,off+i,none⟩=some (.int .u32 (xs i:Nat)))
 (u:∀i,i<a->w.cell? ⟨b',t+i,none⟩=some (.int .u32 (ys i:Nat))):
 Calls prog 278 #[.slice (some ⟨b,off,none⟩) n cap,.slice (some ⟨b',t,none⟩) a F] w (eX 4294967296 (ak 4294967296 xs n*ak 4294967296 ys a) w):=by
 have y:=λ w=>run_make_row' (P:=prog) 22 191 (.int .u32 0) 4 underlying22 fO rfl .i64 .i64 (n+a) (by omega) (by omega) w;have ec:((n+a:Nat):Int)=(n:Int)+(a:Int):=by omega
 rw[ec] at y;clear ec;have I:=Lib.hid v;clear v;have G:=Lib.hid h;clear h;have J:=Lib.hid hx;clear hx;have H:=Lib.hid u;clear u;have q1:((n:Int)==0)=false:=by simp;omega
 have K:((a:Int)==0)=false:=by simp;omega
 go_enter func278,ntmps278;go_wp2;clear y;go_loopw [28] (λ i wr=>∃(k:Nat)(zs:Nat->Nat),k<=n/\i= .int .i64 (k:Int)/\qH 4294967296 xs ys a k zs/\ly wr w.heap.size (n+a) zs/\aa w wr) (λ i _=>n-(intOf i).toNat)
 case atStart=>exact⟨0,λ _=>0,eo _,rfl,qH.start (by decide),ly.made _ _,(aa.refl _).alloc _⟩
 case round=>
  obtain⟨k,Dr,N,rfl,m,p,r⟩:=hrel;by_cases A:k<n
  ·have h1:=r.cell (J.out k A)
   have x:=I.out k A;go_wp2;obtain⟨s,rfl⟩:∃s:World,s=wr:=⟨_,rfl⟩
   go_loopw [8,35] (λ c j wr=>∃(l d:Nat)(zs:Nat->Nat),l<=a/\j= .int .i64 (l:Int)/\c= .int .u64 (d:Int)/\uN 4294967296 xs ys Dr k l zs d/\ly wr w.heap.size (n+a) zs/\aa w wr) (λ _ j _=>a-(intOf j).toNat)
   case atStart=>exact⟨0,0,Dr,eo _,rfl,rfl,uN.start (by decide) m.lt,p,r⟩
   case round=>
    obtain⟨l,d,zs,M,rfl,rfl,f,g,q⟩:=hrel;by_cases z:l<a
    ·have h2:=q.cell (H.out l z)
     have h:=G.out l z;have h3:=g.cell (i:=k+l) (by omega)
     have E:=g.frozen (k+l)
     have D:=f.lt (k+l)
     have C:=f.wI;have O:=jR x h D C;have o:=Lib.hid (f.step x h)
     clear f;go_wp2;go_roundw
     case rel=>
      refine⟨l+1,(xs k*ys l+zs (k+l)+d)/4294967296,ep zs (k+l) ((xs k*ys l+zs (k+l)+d)%4294967296),by omega,by go_num,by simp,o.out,?_,q.setCell (aU _) _⟩
      have:=g.set (k+l) ((xs k*ys l+zs (k+l)+d)%4294967296)
      simpa using this
     case measure=>simp[intOf];omega
    ·obtain rfl:a=l:=by omega
     have E:=g.frozen (k+a)
     have h3:=g.cell (i:=k+a) (by omega)
     have C:=f.wI;have o:=Lib.hid (m.step f)
     clear f m;go_wp2;go_roundw
     case rel=>
      refine⟨k+1,ep zs (k+a) d,by omega,by go_num,o.out,?_,q.setCell (aU _) _⟩
      exact g.set (k+a) d
     case measure=>simp[intOf];omega
  ·obtain rfl:n=k:=by omega
   go_wp2_with(go_at_call 248;refine(gO _ _ _ _ Dr (by omega) (aU _) (p.ws (aU _))).mono ?_;rintro e w' ⟨rfl,rfl⟩)
   go_ret;refine⟨_,rfl,?_,r⟩
   have:=iX (B:=4294967296) (cap:=n+a) (aU _) (λ i _=>m.lt i) (p.ws (aU _))
   rw[m.eq] at this;exact this
theorem mul_zero(w:World)(a a':Option Addr)(n b cap c:Nat)(h:n=0∨b=0):
 Calls prog 278 #[.slice a n cap,.slice a' b c] w (eX 4294967296 0 w):=by
 by_cases h1:n=0
 ·subst h1;go_enter func278,ntmps278;go_wp2;go_ret;exact⟨_,rfl,⟨none,0,0,λ _=>0,rfl,aU _,λ _ h=>by omega,.inl rfl,rfl,λ _ h=>by omega⟩,aa.refl _⟩
 ·obtain rfl:b=0:=by omega
  have q1:((n:Int)==0)=false:=by simp;omega
  go_enter func278,ntmps278;go_wp2;go_ret;exact⟨_,rfl,⟨none,0,0,λ _=>0,rfl,aU _,λ _ h=>by omega,.inl rfl,rfl,λ _ h=>by omega⟩,aa.refl _⟩
theorem pY{u:Value}{m k:Nat}(hv:Nt 4294967296 w v m)(g:Nt 4294967296 w u k)(hm:m<eV)(l:k<eV):
 Calls prog 278 #[v,u] w (eX 4294967296 (m*k) w):=by
 obtain⟨a,n,cap,xs,rfl,hc,hd,hn,rfl,hw⟩:=hv;obtain⟨a',d,c,ys,rfl,r,o,h,rfl,hw'⟩:=g;have j:=cV (.inr rfl) hn hm;have i:=cV (.inr rfl) h l;rcases hw.open with rfl|⟨q,b,off,rfl,hx⟩
 ·have:=mul_zero w a a' 0 d cap c (.inl rfl)
  simpa [ak] using this
 ·rcases hw'.open with rfl|⟨p,b',e,rfl,f⟩
  ·have:=mul_zero w (some ⟨b,off,none⟩) a' n 0 cap c (.inr rfl)
   simpa [ak] using this
  ·exact Vv w b off cap b' e c n d xs ys j i q p hd o hx f
def Ap(w:World)(base:Nat)(v:Value)(n:Nat)(zs:Nat->Nat):Prop:=w.ownsRow base 191 1 v n ((List.range n).map λ i=>Value.int .u32 (zs i:Nat))
def pG(zs:Nat->Nat)(n:Nat)(xs:Nat->Nat):Nat->Nat:=λ i=>if i<n then zs i else xs (i-n)
theorem SD(zs xs:Nat->Nat)(n m:Nat):
 ((List.range n).map λ i=>Value.int .u32 (zs i:Nat))++((List.range m).map λ i=>Value.int .u32 (xs i:Nat))=(List.range (n+m)).map λ i=>Value.int .u32 (pG zs n xs i:Nat):=by
 refine List.ext_getElem? λ i=> ?_;by_cases h:i<n
 ·rw[List.getElem?_append_left (by simpa using h)]
  simp[pG,h,show i<n+m by omega]
 ·rw[List.getElem?_append_right (by simpa using Nat.le_of_not_lt h)]
  by_cases h2:i<n+m
  ·simp[pG,h,h2,show i-n<m by omega]
  ·simp[h2,show ¬i-n<m by omega]
theorem Ap.nil(w:World)(base:Nat)(zs:Nat->Nat):Ap w base (.slice none 0 0) 0 zs:=World.ownsRow_nil w base 191 1
theorem Ap.alloc(h:Ap w base v n zs)(o:Obj):Ap (w.alloc o) base v n zs:=World.ownsRow.alloc h o
theorem Ap.congr{ys:Nat->Nat}(h:Ap w base v n zs)(e:∀i,i<n->zs i=ys i):Ap w base v n ys:=by
 unfold Ap at*;have:((List.range n).map λ i=>Value.int .u32 (zs i:Nat))=(List.range n).map λ i=>Value.int .u32 (ys i:Nat):=List.map_congr_left λ i hi=>by rw[e i (List.mem_range.1 hi)]
 rw[<-this];exact h
theorem Ap.ws(h:Ap w base v n zs):∃a cap,v= .slice a n cap/\n<=cap/\Ws w a n zs:=by
 obtain⟨f,⟨rfl,rfl⟩|⟨g,cap,b,rfl,hb,e,hn,_,j,d⟩⟩:=h
 ·exact⟨none,0,rfl,aU _,λ i hi=>by omega⟩
 ·refine⟨_,cap,rfl,hn,λ i hi=>⟨g,0,rfl,?_⟩⟩
  rw[lp]
  have c:(b.toList.take (n*1))[i]? =some (.int .u32 (zs i:Nat)):=by rw[d];simp[hi]
  rw[Nat.mul_one,List.getElem?_take,if_pos hi,Array.getElem?_toList] at c;simp[World.cell?,e,c]
theorem zf:∃a,prog.info? 191=some a/\a.zero=some (.int .u32 0)/\a.size=1/\a.bytes=4:=by
 obtain⟨i,hi,b⟩:=Option.map_eq_some_iff.1 fO;simp only[Prod.mk.injEq] at b;exact⟨i,hi,b.1,b.2.1,b.2.2⟩
theorem aM{ops:Array Oper}{rest:List Oper}{o:Oper}{act:Act}{Q:Exit->Act->World->Prop}(A:o.guard=none)(s x:Operand)(t:TypeId)
 (ho:o.op= .call {callee:=.builtin .append,args:=#[s,x],argTypes:=#[t,t]})(y:prog.underlying t=some (.slice 191))
 (w0:World)(a:aa w0 w)(v:Value)(n:Nat)(zs:Nat->Nat)(hs:act.eval s=v)(f:Ap w w0.heap.size v n zs)
 (ad:Addr)(m c:Nat)(xs:Nat->Nat)(hx:act.eval x= .slice (some ad) m c)(r:Ws w (some ad) m xs)(hb:n+m<=1099511627776)
 (h:∀v' w',Ap w' w0.heap.size v' (n+m) (pG zs n xs)->aa w0 w'->wpList prog ops Q rest (act.put o.dst v') w'):wpList prog ops Q (o::rest) act w:=by
 obtain⟨k,hi,q,p,l⟩:=zf;refine wpList_append_own w A s x t ho w0.heap.size 191 k (.int .u32 0) 1 4 y hi q p l rfl (by decide) v n _ hs f ad m c ((List.range m).map λ i=>Value.int .u32 (xs i:Nat)) hx (by simp) ?_ ?_ (by unfold maxLen;omega) (by omega) a.size ?_
 ·intro j u d;rw[List.getElem?_map] at d;obtain⟨i,hi,rfl⟩:=Option.map_eq_some_iff.1 d;obtain⟨z,rfl⟩:=List.getElem?_eq_some_iff.1 hi;rw[List.getElem_range]
  obtain⟨b,off,e,hc⟩:=r j (by simpa using z)
  cases e
  rw[show(Addr.add ⟨b,off,none⟩ j)=⟨b,off+j,none⟩ by unfold Addr.add;split<;>simp_all]
  exact hc
 ·intro u d;obtain⟨i,_,rfl⟩:=List.mem_map.1 d;rfl
 ·intro v' w' h1 h2 _;rw[SD] at h1;refine h v' w' h1 ?_;refine⟨jP a.size h2.size,λ b g=> ?_,h2.tape.trans a.tape,h2.os.trans a.os,h2.output.trans a.output⟩
  rw[h2.block b (jf g a.size) (λ e=> ?_)]
  ·exact a.old b g
  ·have:=(World.ownsRow.lt f b e.symm).1;omega
end Go.Proofs.YtbapfnpbamnmpaaGreatDoor
namespace Go.Dig
open Go Go.RowKit Go.Deep Go.Eng
theorem H4(k:Nat):(4294967296:Nat)^k=2^(32*k):=by rw[Nat.pow_mul]
theorem Fg{r:Nat}(h:r<=32):2^r*2^(32-r)=4294967296:=by rw[<-Nat.pow_add,Nat.add_sub_cancel' h]
structure Lh(xs:Nat->Nat)(wd r k:Nat)(zs:Nat->Nat):Prop where
 lt:∀j,zs j<4294967296
 top:zs (wd+k)<2^r
 zero:∀j,wd+k<j->zs j=0
 eq:ak 4294967296 zs (wd+k+1)=ak 4294967296 xs k*2^(32*wd+r)
theorem Lh.start{xs:Nat->Nat}{wd r:Nat}:Lh xs wd r 0 (λ _=>0):=
 ⟨λ _=>by decide,Nat.pow_pos (by decide),λ _ _=>rfl,by rw[lI _ _ _ (λ _ _=>rfl)];simp[ak]⟩
theorem Qw{x r:Nat}(hx:x<4294967296)(hr:r<32):x*2^r<18446744073709551616:=by
 have h1:2^r<=2^31:=Nat.pow_le_pow_right (by decide) (by omega)
 have h2:x*2^r<=4294967295*2^31:=Nat.mul_le_mul (by omega) h1;have h3:4294967295*2^31<18446744073709551616:=by decide
 omega
theorem aaI{x r:Nat}(hx:x<4294967296):x*2^r/4294967296<2^r:=by
 refine Nat.div_lt_of_lt_mul ?_;exact Nat.mul_lt_mul_of_pos_right hx (Nat.pow_pos (by decide))
theorem aaJ{z t r:Nat}(b:z<2^r)(hr:r<32)(c:t%2^r=0):z ||| t%4294967296=z+t%4294967296/\z+t%4294967296<4294967296:=by
 have hp:=Fg (Nat.le_of_lt hr)
 have hm:t%4294967296%2^r=0:=by
  rw[Nat.mod_mod_of_dvd _ ⟨_,hp.symm⟩];exact c
 refine⟨?_,?_⟩
 ·rw[Nat.or_comm,nat_join r _ _ hm b,Nat.add_comm]
 ·have a:t%4294967296<4294967296:=Nat.mod_lt _ (by decide)
  generalize t%4294967296=l at*;obtain⟨q,rfl⟩:∃q,l=2^r*q:=⟨l/2^r,by have:=Nat.mod_add_div l (2^r);omega⟩
  rw[<-hp] at a⊢;have d:q<2^(32-r):=Nat.lt_of_mul_lt_mul_left a;have:2^r*(q+1)<=2^r*2^(32-r):=Nat.mul_le_mul_left _ d;rw[Nat.mul_add] at this;omega
theorem Lh.step{xs zs:Nat->Nat}{wd r k:Nat}(h:Lh xs wd r k zs)(hx:xs k<4294967296)(hr:r<32):
 Lh xs wd r (k+1) (ep (ep zs (wd+k) (zs (wd+k) ||| xs k*2^r%4294967296)) (wd+k+1) (xs k*2^r/4294967296)):=by
 have ho:=aaJ h.top hr (Nat.mul_mod_left (xs k) (2^r))
 have a:=aaI (r:=r) hx;refine⟨λ j=> ?_,?_,λ j b=> ?_,?_⟩
 ·unfold ep;split
  ·have:2^r<=2^32:=Nat.pow_le_pow_right (by decide) (by omega)
   have h3:(2:Nat)^32=4294967296:=by decide
   omega
  ·split
   ·rw[ho.1];exact ho.2
   ·exact h.lt j
 ·rw[show wd+(k+1)=wd+k+1 by omega,su];exact a
 ·rw[bB _ (by omega),bB _ (by omega)];exact h.zero j (by omega)
 ·have e:=h.eq;rw[show wd+(k+1)+1=(wd+k+1)+1 by omega,dH,dH,ho.1]
  simp only[ak] at e⊢;rw[Nat.add_mul (ak 4294967296 xs k),<-e]
  have hd:=Nat.mod_add_div (xs k*2^r) 4294967296;have hp:xs k*4294967296^k*2^(32*wd+r)=(xs k*2^r)*4294967296^(wd+k):=by
   rw[Nat.pow_add 2,<-H4,Nat.pow_add];grind
  rw[hp]
  generalize xs k*2^r=t at*;rw[Nat.pow_succ]
  generalize (4294967296:Nat)^(wd+k)=P at*;generalize ak 4294967296 zs (wd+k)=V at*;generalize zs (wd+k)=z at*;generalize t%4294967296=l at*;generalize t/4294967296=d at*;subst hd
  grind
def DB(x y r:Nat):Nat:=(x+y*4294967296)/2^r%4294967296
theorem WJ{x y r:Nat}(hx:x<4294967296)(hr:r<32):DB x y r*2^r+x%2^r=x+y%2^r*4294967296:=by
 unfold DB;have hp:=Fg (Nat.le_of_lt hr)
 have b:0<2^r:=Nat.pow_pos (by decide)
 have d:0<2^(32-r):=Nat.pow_pos (by decide)
 generalize 2^r=R at*;generalize 2^(32-r)=S at*;have c:=Nat.mod_add_div x R;have i:x/R<S:=Nat.div_lt_of_lt_mul (by rw[hp];exact hx)
 have e1:(x+y*4294967296)/R=x/R+y*S:=by
  rw[show y*4294967296=(y*S)*R by rw[<-hp];grind,Nat.add_mul_div_right _ _ b]
 rw[e1]
 have a:=Nat.mod_add_div y R;have f:(x/R+y*S)%4294967296=x/R+y%R*S:=by
  have e:x/R+y%R*S<4294967296:=by
   have:y%R<R:=Nat.mod_lt _ b;have:(y%R+1)*S<=R*S:=wC _ (by omega)
   rw[Nat.add_mul] at this;omega
  have h2:x/R+y*S=x/R+y%R*S+(y/R)*4294967296:=by
   have h3:y*S=(y%R+R*(y/R))*S:=by rw[a]
   rw[h3,<-hp];grind
  rw[h2,Nat.add_mul_mod_self_right,Nat.mod_eq_of_lt e]
 rw[f]
 generalize y%R=yr at*;generalize x/R=h at*;generalize x%R=g at*;subst c;rw[<-hp]
 grind
theorem N8{zs os:Nat->Nat}{r:Nat}(hr:r<32):∀{k:Nat},(∀i,i<k->zs i<4294967296)->(∀i,i<k->os i=DB (zs i) (zs (i+1)) r)->
 ak 4294967296 os k*2^r+zs 0%2^r=ak 4294967296 zs k+zs k%2^r*4294967296^k
 |0,_,_=>by simp[ak]
 |k+1,d,ho=>by
  have ih:=N8 hr (k:=k) (λ i hi=>d i (by omega)) (λ i hi=>ho i (by omega))
  have e:=WJ (y:=zs (k+1)) (d k (by omega)) hr;rw[<-ho k (by omega)] at e;simp only[ak]
  rw[Nat.pow_succ]
  generalize (4294967296:Nat)^k=P at*;generalize zs 0%2^r=a at*;generalize zs k%2^r=b at*;generalize zs (k+1)%2^r=c at*;generalize 2^r=R at*;have:os k*R*P+b*P=zs k*P+c*4294967296*P:=by rw[<-Nat.add_mul,e,Nat.add_mul]
  grind
theorem WL{zs os:Nat->Nat}{r m:Nat}(hr:r<32)(b:∀i,i<m->zs i<4294967296)(d:zs m=0)(ho:∀i,i<m->os i=DB (zs i) (zs (i+1)) r):
 ak 4294967296 os m=ak 4294967296 zs m/2^r:=by
 have h:=N8 hr b ho;rw[d] at h;have a:0<2^r:=Nat.pow_pos (by decide)
 have c:zs 0%2^r<2^r:=Nat.mod_lt _ a;simp only[Nat.zero_mod,Nat.zero_mul,Nat.add_zero] at h;rw[<-h,Nat.add_comm,Nat.add_mul_div_right _ _ a,Nat.div_eq_of_lt c,lp]
theorem yf(B:Nat)(xs:Nat->Nat)(a:Nat):∀m,ak B xs (a+m)=ak B xs a+ak B (λ i=>xs (a+i)) m*B^a
 |0=>by simp[ak]
 |m+1=>by
  rw[show a+(m+1)=a+m+1 by omega]
  simp only[ak]
  rw[yf B xs a m,Nat.pow_add]
  grind
theorem SN{B:Nat}{xs:Nat->Nat}{a m:Nat}(b:0<B)(hx:∀i,i<a->xs i<B):ak B (λ i=>xs (a+i)) m=ak B xs (a+m)/B^a:=by
 have h:=dJ hx;rw[yf,Nat.add_mul_div_right _ _ (Nat.pow_pos b),Nat.div_eq_of_lt h,lp]
end Go.Dig
namespace Go.Proofs.YtbapfnpbamnmpaaGreatDoor
open Go Go.RowKit Go.Dig Go.Deep Go.Eng Go.Proofs.Tryz
theorem ma(B:Nat)(w:World)(a:Option Addr)(cap:Nat):Nt B w (.slice a 0 cap) 0:=
 ⟨a,0,cap,λ _=>0,rfl,eo _,λ _ h=>by omega,.inl rfl,rfl,λ _ h=>by omega⟩
theorem Ki{n:Nat}(h:n<18446744073709551616):IntKind.u64.wrap (n:Int)=n:=by rw[IntKind.wrap_u64];omega
theorem Vw(w:World)(b off cap n s:Nat)(xs:Nat->Nat)(hn:n<=1024)(A:0<n)(hs:s<=100000)
 (g:∀i,i<n->xs i<4294967296)
 (hx:∀i,i<n->w.cell? ⟨b,off+i,none⟩=some (.int .u32 (xs i:Nat))):
 Calls prog 339 #[.slice (some ⟨b,off,none⟩) n cap,.int .i64 (s:Int)] w (eX 4294967296 (ak 4294967296 xs n*2^s) w):=by
 have j:=λ w=>run_make_row' (P:=prog) 22 191 (.int .u32 0) 4 underlying22 fO rfl .i64 .i64 (n+s/32+1) (by omega) (by omega) w;have ec:((n+s/32+1:Nat):Int)=(n:Int)+(s:Int)/32+1:=by omega
 rw[ec] at j;clear ec;have t:=Lib.hid g;clear g;have u:=Lib.hid hx;clear hx;have q1:((n:Int)==0)=false:=by simp;omega
 go_enter func339,ntmps339;go_wp2;clear j;go_loopw [27] (λ i wr=>∃(k:Nat)(zs:Nat->Nat),k<=n/\i= .int .i64 (k:Int)/\Lh xs (s/32) (s%32) k zs/\ly wr w.heap.size (n+s/32+1) zs/\aa w wr) (λ i _=>n-(intOf i).toNat)
 case atStart=>exact⟨0,λ _=>0,eo _,rfl,Lh.start,ly.made _ _,(aa.refl _).alloc _⟩
 case round=>
  obtain⟨k,zs,v,rfl,c,a,f⟩:=hrel;by_cases l:k<n
  ·have h1:=f.cell (u.out k l)
   have h:=t.out k l;have h3:=a.cell (i:=s/32+k) (by omega)
   have z:=a.frozen (s/32+k)
   have y:=(a.cell (i:=s/32+k+1) (by omega))
   have x:=a.frozen (s/32+k+1)
   have d:=c.lt (s/32+k)
   have o:=Lib.hid (c.step h (Nat.mod_lt _ (by decide)))
   have m:=Lib.hid (Qw (r:=s%32) h (Nat.mod_lt _ (by decide)))
   clear c;go_wp2;go_roundw
   case rel=>
    refine⟨k+1,_,by omega,by go_num,o.out,?_,(f.setCell (aU _) _).setCell (aU _) _⟩
    have e1:IntKind.u64.wrap ((xs k:Int)*2^(s%32))=((xs k*2^(s%32):Nat):Int):=by
     rw[<-Ki m.out];congr 1
    have q:(((xs k*2^(s%32):Nat):Int)%4294967296)=((xs k*2^(s%32)%4294967296:Nat):Int):=by omega
    have p:(((xs k*2^(s%32):Nat):Int)/4294967296%4294967296)=((xs k*2^(s%32)/4294967296:Nat):Int):=by have:=m.out;omega
    rw[e1,q,p,u32_or_nat _ _ d (Nat.mod_lt _ (by decide))]
    exact(a.set _ _).set _ _
   case measure=>simp[intOf];omega
  ·obtain rfl:n=k:=by omega
   go_wp2_with(go_at_call 248;refine(gO _ _ _ _ zs (by omega) (aU _) (a.ws (aU _))).mono ?_;rintro e w' ⟨rfl,rfl⟩)
   go_ret;refine⟨_,rfl,?_,f⟩
   have:=iX (B:=4294967296) (cap:=n+s/32+1) (aU _) (λ i _=>c.lt i) (a.ws (aU _))
   rw[Nat.add_comm n,c.eq,Nat.div_add_mod] at this;rw[Nat.add_comm n]
   exact this
theorem Vx(w:World)(a:Option Addr)(cap:Nat)(v:Value):
 Calls prog 339 #[.slice a 0 cap,v] w (eX 4294967296 0 w):=by
 go_enter func339,ntmps339;go_wp2;go_ret;exact⟨_,rfl,ma _ _ _ _,aa.refl _⟩
theorem ES{w:World}{v:Value}{m s:Nat}(hv:Nt 4294967296 w v m)(hm:m<eV)(hs:s<=100000):
 Calls prog 339 #[v,.int .i64 (s:Int)] w (eX 4294967296 (m*2^s) w):=by
 obtain⟨a,n,cap,xs,rfl,hc,hd,hn,rfl,hw⟩:=hv;have c:=cV (.inr rfl) hn hm;rcases hw.open with rfl|⟨d,b,off,rfl,hx⟩
 ·have:=Vx w a cap (.int .i64 (s:Int))
  simpa [ak] using this
 ·exact Vw w b off cap n s xs c d hs hd hx
theorem acX{x y:Nat}(hx:x<4294967296)(a:y<4294967296):bits BinOp.or IntKind.u64 (x:Int) ((y:Int)*4294967296)=((x+y*4294967296:Nat):Int):=by
 have h:=u64_or_nat x (y*4294967296) (by omega) (by omega)
 rw[Nat.or_comm,nat_join 32 _ _ (by simp) (by simpa using hx),Nat.add_comm] at h;rw[<-h]
 congr 1
theorem Kj{x y r:Nat}:(((x+y*4294967296:Nat):Int)/2^r%4294967296)=(DB x y r:Nat):=by
 unfold DB;simp
theorem Qb(x y r:Nat):DB x y r<4294967296:=Nat.mod_lt _ (by decide)
def xK(xs:Nat->Nat)(n wd:Nat):Nat->Nat:=λ i=>if wd+i<n then xs (wd+i) else 0
theorem Vy(w:World)(b off cap n s:Nat)(xs:Nat->Nat)(hn:n<=1024)(I:s/32<n)(hs:s<=100000)
 (t:∀i,i<n->xs i<4294967296)
 (hx:∀i,i<n->w.cell? ⟨b,off+i,none⟩=some (.int .u32 (xs i:Nat))):
 Calls prog 274 #[.slice (some ⟨b,off,none⟩) n cap,.int .i64 (s:Int)] w (eX 4294967296 (ak 4294967296 xs n/2^s) w):=by
 have u:=λ w=>run_make_row' (P:=prog) 22 191 (.int .u32 0) 4 underlying22 fO rfl .i64 .i64 (n-s/32) (by omega) (by omega) w;have ec:((n-s/32:Nat):Int)=(n:Int)-(s:Int)/32:=by omega
 rw[ec] at u;clear ec;have l:=Lib.hid t;clear t;have z:=Lib.hid hx;clear hx;have F:decide ((n:Int)<=(s:Int)/32)=false:=by simp;omega
 go_enter func274,ntmps274;go_wp2;clear u;go_loopw [26] (λ i wr=>∃(k:Nat)(zs:Nat->Nat),k<=n-s/32/\i= .int .i64 (k:Int)/\(∀j,zs j<4294967296)/\(∀j,j<k->zs j=DB (xK xs n (s/32) j) (xK xs n (s/32) (j+1)) (s%32))/\ly wr w.heap.size (n-s/32) zs/\aa w wr) (λ i _=>n-s/32-(intOf i).toNat)
 case atStart=>exact⟨0,λ _=>0,eo _,rfl,λ _=>(by decide:(0:Nat)<4294967296),λ _ h=>by omega,ly.made _ _,(aa.refl _).alloc _⟩
 case round=>
  obtain⟨k,zs,E,rfl,q,p,f,g⟩:=hrel;have d:=Lib.hid q;clear q;have c:=Lib.hid p;clear p;by_cases D:k<n-s/32
  ·have h1:=g.cell (z.out (s/32+k) (by omega))
   have A:=l.out (s/32+k) (by omega)
   have h3:=f.cell (i:=k) (by omega)
   have H:=f.frozen k;by_cases v:s/32+k+1<n
   ·have G:=g.cell (z.out (s/32+k+1) v)
    have o:=l.out (s/32+k+1) v;go_wp2;go_roundw
    case rel=>
     refine⟨k+1,ep zs k (DB (xs (s/32+k)) (xs (s/32+k+1)) (s%32)),by omega,by go_num,λ j=> ?_,λ j C=> ?_,?_,g.setCell (aU _) _⟩
     ·unfold ep;split
      ·exact Qb _ _ _
      ·exact d.out j
     ·unfold ep;split
      ·subst j;simp only[xK];rw[if_pos (by omega),if_pos (by omega),<-Nat.add_assoc]
      ·exact c.out j (by omega)
     ·rw[acX A o,Kj];exact f.set _ _
    case measure=>simp[intOf];omega
   ·go_wp2;go_roundw
    case rel=>
     refine⟨k+1,ep zs k (DB (xs (s/32+k)) 0 (s%32)),by omega,by go_num,λ j=> ?_,λ j C=> ?_,?_,g.setCell (aU _) _⟩
     ·unfold ep;split
      ·exact Qb _ _ _
      ·exact d.out j
     ·unfold ep;split
      ·subst j;simp only[xK];rw[if_pos (by omega),if_neg (by omega)]
      ·exact c.out j (by omega)
     ·have e:=Kj (x:=xs (s/32+k)) (y:=0) (r:=s%32)
      simp only[Nat.zero_mul,Nat.add_zero] at e;rw[e];exact f.set _ _
    case measure=>simp[intOf];omega
  ·obtain rfl:k=n-s/32:=by omega
   go_wp2_with(go_at_call 248;refine(gO _ _ _ _ zs (by omega) (aU _) (f.ws (aU _))).mono ?_;rintro e w' ⟨rfl,rfl⟩)
   go_ret;refine⟨_,rfl,?_,g⟩
   have:=iX (B:=4294967296) (cap:=n-s/32) (aU _) (λ i _=>d.out i) (f.ws (aU _))
   rw[WL (zs:=xK xs n (s/32)) (r:=s%32) (Nat.mod_lt _ (by decide)) (λ i hi=> ?_) ?_ c.out] at this
   ·have e:ak 4294967296 (xK xs n (s/32)) (n-s/32)=ak 4294967296 xs n/4294967296^(s/32):=by
     have h1:=SN (B:=4294967296) (xs:=xs) (a:=s/32) (m:=n-s/32) (by decide) (λ i hi=>l.out i (by omega))
     rw[show s/32+(n-s/32)=n by omega] at h1;rw[<-h1]
     exact iU λ i hi=>by simp only[xK];rw[if_pos (by omega)]
    rw[e,H4,Nat.div_div_eq_div_mul,<-Nat.pow_add,Nat.div_add_mod] at this;exact this
   ·simp only[xK];rw[if_neg (by omega)]
   ·simp only[xK];rw[if_pos (by omega)];exact l.out _ (by omega)
theorem Vz(w:World)(a:Option Addr)(n cap s:Nat)(hs:s<=100000)(hn:n<=1024)(h:n<=s/32):
 Calls prog 274 #[.slice a n cap,.int .i64 (s:Int)] w (eX 4294967296 0 w):=by
 have b:decide ((n:Int)<=(s:Int)/32)=true:=by simp;omega
 go_enter func274,ntmps274;go_wp2;go_ret;exact⟨_,rfl,ma _ _ _ _,aa.refl _⟩
theorem yT{w:World}{v:Value}{m s:Nat}(hv:Nt 4294967296 w v m)(hm:m<eV)(hs:s<=100000):
 Calls prog 274 #[v,.int .i64 (s:Int)] w (eX 4294967296 (m/2^s) w):=by
 obtain⟨a,n,cap,xs,rfl,hc,hd,hn,rfl,hw⟩:=hv;have c:=cV (.inr rfl) hn hm;by_cases h:s/32<n
 ·rcases hw.open with rfl|⟨d,b,off,rfl,hx⟩
  ·omega
  ·exact Vy w b off cap n s xs c h hs hd hx
 ·have:=Vz w a n cap s hs c (by omega)
  have h1:=dJ hd;rw[H4] at h1;have h2:2^(32*n)<=2^s:=Nat.pow_le_pow_right (by decide) (by omega)
  rw[Nat.div_eq_of_lt (by omega)]
  exact this
end Go.Proofs.YtbapfnpbamnmpaaGreatDoor
namespace Go.Dig
open Go Go.RowKit Go.Deep Go.Eng
theorem sy{B:Nat}{zs:Nat->Nat}{p x:Nat}:∀{n:Nat},p<n->ak B (ep zs p x) n+zs p*B^p=ak B zs n+x*B^p
 |0,h=>by omega
 |n+1,h=>by
  by_cases hp:p=n
  ·subst hp;rw[dH];simp only[ak];omega
  ·have ih:=sy (B:=B) (zs:=zs) (x:=x) (show p<n by omega)
   simp only[ak]
   rw[bB zs (by omega)]
   omega
structure yg(B:Nat)(xs:Nat->Nat)(n d k:Nat)(zs:Nat->Nat)(r:Nat):Prop where
 lt:∀j,zs j<B
 WM:r<d
 zero:∀j,j<k->zs j=0
 eq:∃Q,ak B zs n=Q*B^k/\ak B xs n=ak B xs k+(d*Q+r)*B^k
theorem yg.start{B:Nat}{xs:Nat->Nat}{n d:Nat}(a:0<B)(hd:0<d):yg B xs n d n (λ _=>0) 0:=
 ⟨λ _=>a,hd,λ _ _=>rfl,0,by rw[lI _ _ _ (λ _ _=>rfl)];simp,by simp⟩
theorem tU{B r d x:Nat}(hr:r<d)(hx:x<B):r*B+x<d*B:=by
 have:(r+1)*B<=d*B:=wC _ hr;rw[Nat.add_mul] at this;omega
theorem yg.step{B:Nat}{xs zs:Nat->Nat}{n d k r:Nat}(h:yg B xs n d (k+1) zs r)(a:k<n)(hx:xs k<B):
 yg B xs n d k (ep zs k ((r*B+xs k)/d)) ((r*B+xs k)%d):=by
 have hb:=tU h.WM hx;have hd:0<d:=by have:=h.WM;omega
 obtain⟨Q,e1,b⟩:=h.eq;refine⟨λ j=> ?_,Nat.mod_lt _ hd,λ j c=> ?_,Q*B+(r*B+xs k)/d,?_,?_⟩
 ·unfold ep;split
  ·exact Nat.div_lt_of_lt_mul hb
  ·exact h.lt j
 ·rw[bB _ (by omega)];exact h.zero j (by omega)
 ·have:=sy (B:=B) (zs:=zs) (x:=(r*B+xs k)/d) a;rw[h.zero k (by omega),Nat.zero_mul,Nat.add_zero,e1,Nat.pow_succ] at this;rw[this];grind
 ·rw[b]
  simp only[ak]
  rw[Nat.pow_succ]
  have hm:=Nat.mod_add_div (r*B+xs k) d;generalize (r*B+xs k)/d=q at*;generalize hs:(r*B+xs k)%d=r' at*;generalize B^k=P at*;have:(d*(Q*B+q)+r')*P=(d*Q*B+(r'+d*q))*P:=by grind
  rw[this,hm]
  grind
theorem yg.done{B:Nat}{xs zs:Nat->Nat}{n d r:Nat}(h:yg B xs n d 0 zs r):ak B zs n=ak B xs n/d/\r=ak B xs n%d:=by
 obtain⟨Q,e1,a⟩:=h.eq;have hr:=h.WM;simp only[Nat.pow_zero,Nat.mul_one,ak,lp] at e1 a;rw[e1,a]
 constructor
 ·rw[Nat.mul_add_div (by omega),Nat.div_eq_of_lt hr,Nat.add_zero]
 ·rw[Nat.mul_add_mod,Nat.mod_eq_of_lt hr]
end Go.Dig
namespace Go.Proofs.YtbapfnpbamnmpaaGreatDoor
open Go Go.RowKit Go.Dig Go.Deep Go.Eng Go.Proofs.Tryz
variable{w:World}{v:Value}{m:Nat}
def GX(B m:Nat)(r:Nat)(w:World)(e:Ending)(w':World):Prop:=∃v,e= .returned (.tuple #[v,.int .u32 (r:Int)])/\Nt B w' v m/\aa w w'
theorem A8{x y:Nat}(hx:x<4294967296)(a:y<4294967296):bits BinOp.or IntKind.u64 ((y:Int)*4294967296) (x:Int)=((y*4294967296+x:Nat):Int):=by
 have h:=u64_or_nat (y*4294967296) x (by omega) (by omega)
 rw[nat_join 32 _ _ (by simp) (by simpa using hx)] at h;rw[<-h]
 congr 1
theorem Gl{q:Nat}(h:q<4294967296):((q:Int)%4294967296)=(q:Int):=by omega
theorem R6(w:World)(a:Option Addr)(cap n d:Nat)(xs:Nat->Nat)(hn:n<=1024)(s:0<d)(hd:d<4294967296)
 (j:∀i,i<n->xs i<4294967296)(hx:Ws w a n xs):
 Calls prog 307 #[.slice a n cap,.int .u32 (d:Int)] w (GX 4294967296 (ak 4294967296 xs n/d) (ak 4294967296 xs n%d) w):=by
 have q:=λ w=>run_make_row' (P:=prog) 22 191 (.int .u32 0) 4 underlying22 fO rfl .i64 .i64 n (by omega) (by omega) w;have u:=Lib.hid j;clear j;have v:=Lib.hid hx;clear hx;go_enter func307,ntmps307;go_wp2;clear q;go_loopw [7,8] (λ o i wr=>∃(k r:Nat)(zs:Nat->Nat),k<=n/\i= .int .i64 ((k:Int)-1)/\o= .int .u64 (r:Int)/\yg 4294967296 xs n d k zs r/\ly wr w.heap.size n zs/\aa w wr) (λ _ i _=>(intOf i+1).toNat)
 case atStart=>exact⟨n,0,λ _=>0,aU _,rfl,rfl,yg.start (by decide) s,ly.made _ _,(aa.refl _).alloc _⟩
 case round=>
  obtain⟨k,r,zs,A,rfl,rfl,c,f,h⟩:=hrel;cases k with
  |zero=>
   have l:=c.WM;go_wp2_with(go_at_call 248;refine(gO _ _ _ _ zs (by omega) (aU _) (f.ws (aU _))).mono ?_;rintro e w' ⟨rfl,rfl⟩)
   go_ret2;have m:=c.done;refine⟨.slice (some ⟨w.heap.size,0,none⟩) (cC zs n) n,by rw[<-m.2];rfl,?_,h⟩
   have:=iX (B:=4294967296) (cap:=n) (aU _) (λ i _=>c.lt i) (f.ws (aU _))
   rw[m.1] at this;exact this
  |succ k=>
   obtain⟨b,off,rfl,hc⟩:=v.out k (by omega)
   have h1:=h.cell hc;have D:=Lib.hid hc;clear hc;have g:=u.out k (by omega)
   have h3:=f.cell (i:=k) (by omega)
   have C:=f.frozen k;have l:=c.WM;have p:=Lib.hid (c.step (by omega) g)
   have z:=A8 (x:=xs k) (y:=r) g (by omega)
   have t:=tU l g;clear c;go_wp2;go_roundw
   case rel=>
    refine⟨k,(r*4294967296+xs k)%d,ep zs k ((r*4294967296+xs k)/d),by omega,rfl,by simp,p.out,?_,h.setCell (aU _) _⟩
    have e1:(((r:Int)*4294967296+(xs k:Int))/(d:Int))%4294967296=(((r*4294967296+xs k)/d:Nat):Int):=by
     have h2:(r*4294967296+xs k)/d<4294967296:=Nat.div_lt_of_lt_mul t;rw[show((r:Int)*4294967296+(xs k:Int))/(d:Int)=(((r*4294967296+xs k)/d:Nat):Int) by simp]
     exact Gl h2
    rw[e1]
    exact f.set _ _
   case measure=>simp[intOf]
theorem NK{d:Nat}(hv:Nt 4294967296 w v m)(hm:m<eV)(c:0<d)(hd:d<4294967296):
 Calls prog 307 #[v,.int .u32 (d:Int)] w (GX 4294967296 (m/d) (m%d) w):=by
 obtain⟨a,n,cap,xs,rfl,hc,b,hn,rfl,hw⟩:=hv;exact R6 w a cap n d xs (cV (.inr rfl) hn hm) c hd b hw
def two(x y:Nat):Nat->Nat:=λ j=>if j=0 then x else y
theorem acY(w:World)(x y:Nat):Ws (w.alloc (Obj.cells #[Value.int IntKind.u32 (x:Int),Value.int IntKind.u32 (y:Int)] 191)) (some ⟨w.heap.size,0,none⟩) 2 (two x y):=by
 have h:(w.alloc (Obj.cells #[Value.int IntKind.u32 (x:Int),Value.int IntKind.u32 (y:Int)] 191)).rowIs w.heap.size 191 2 (λ j=>.int .u32 (two x y j:Nat)):=
  World.rowIs_alloc w _ 191 _ λ i hi=>by
   match i,hi with
   |0,_=>rfl
   |1,_=>rfl
 exact ly.ws h (aU _)
theorem eQ(w:World)(m:Nat)(hm:m<18446744073709551616):Calls prog 189 #[.int .u64 (m:Int)] w (eX 4294967296 m w):=by
 have a:=acY w (m%4294967296) (m/4294967296)
 have e1:((m%4294967296:Nat):Int)=(m:Int)%4294967296:=by omega
 have b:((m/4294967296:Nat):Int)=(m:Int)/4294967296:=by omega
 rw[e1,b] at a;clear e1 b;go_enter func189,ntmps189;go_wp2_with(go_at_call 248;refine(gO _ _ _ _ (two (m%4294967296) (m/4294967296)) (by omega) (aU _) a).mono ?_;rintro e w' ⟨rfl,rfl⟩)
 go_ret;refine⟨_,rfl,?_,(aa.refl _).alloc _⟩
 have:=iX (B:=4294967296) (cap:=2) (aU _) (λ i _=> ?_) a
 ·have ev:ak 4294967296 (two (m%4294967296) (m/4294967296)) 2=m:=by simp[ak,two];omega
  rw[ev] at this;exact this
 ·unfold two;split<;>omega
theorem lS{B:Nat}(c:Bs B)(hv:Nt B w v m):
 Calls prog 192 #[v] w λ e w'=>e= .returned (.bool (decide (m=0)))/\w=w':=by
 obtain⟨a,n,cap,xs,rfl,hc,d,hn,rfl,hw⟩:=hv;have b:=Lib.hid (oK c.pos hn)
 go_enter func192,ntmps192;go_wp2;go_ret;exact⟨xH (by rw[Bool.eq_iff_iff];simp[b.out]),rfl⟩
theorem uh(hv:Nt 4294967296 w v m):
 Calls prog 222 #[v] w λ e w'=>e= .returned (.bool (decide (m=1)))/\w=w':=by
 obtain⟨a,n,cap,xs,rfl,hc,c,hn,rfl,hw⟩:=hv;by_cases h1:n=1
 ·subst h1;obtain⟨b,off,rfl,d⟩:=hw 0 (by omega)
  have h:w.cell? ⟨b,off,none⟩=some (.int .u32 (xs 0:Nat)):=d;have ev:ak 4294967296 xs 1=xs 0:=by simp[ak]
  rw[ev]
  clear d c hn hw ev;go_enter func222,ntmps222;go_wp2;go_ret;exact⟨xH (by rw[Bool.eq_iff_iff];simp;try omega),rfl⟩
 ·have f:ak 4294967296 xs n≠1:=by
   intro e;have:=dC (B:=4294967296) (L:=1) (by decide) hn (by rw[e];decide)
   have g:n=0:=by omega
   subst g;simp[ak] at e
  have q1:((n:Int)==1)=false:=by simp;omega
  clear c hn hw;go_enter func222,ntmps222;go_wp2;go_ret;exact⟨xH (by simp[f]),rfl⟩
end Go.Proofs.YtbapfnpbamnmpaaGreatDoor
namespace Go.Dig
open Go Go.RowKit Go.Deep Go.Eng
structure Kn(B:Nat)(us ds:Nat->Nat)(n:Nat):Prop where
 two:2<=n
 base:2<=B
 Li:∀i,i<n->ds i<B
 ult:∀i,i<n+1->us i<B
 half:B<=2*ds (n-1)
 lt:ak B us (n+1)<ak B ds n*B
section
variable{B:Nat}{us ds:Nat->Nat}{n:Nat}(h:Kn B us ds n)
include h
theorem Kn.SP:0<B:=by have:=h.base;omega
theorem Kn.H5:0<ds (n-1):=by have:=h.half;have:=h.base;omega
theorem Kn.Fh:ak B ds n=ak B ds (n-1)+ds (n-1)*B^(n-1)/\ak B ds (n-1)<B^(n-1):=by
 have h2:=h.two;refine⟨?_,dJ λ i hi=>h.Li i (by omega)⟩
 obtain⟨k,rfl⟩:∃k,n=k+1:=⟨n-1,by omega⟩
 rfl
theorem Kn.N9:ak B ds n=ak B ds (n-2)+(ds (n-1)*B+ds (n-2))*B^(n-2)/\ak B ds (n-2)<B^(n-2):=by
 have h2:=h.two;refine⟨?_,dJ λ i hi=>h.Li i (by omega)⟩
 obtain⟨k,rfl⟩:∃k,n=k+2:=⟨n-2,by omega⟩
 simp only[Nat.add_sub_cancel,show k+2-1=k+1 by omega,ak]
 rw[Nat.pow_succ];grind
theorem Kn.Oa:ak B us (n+1)=ak B us (n-1)+(us n*B+us (n-1))*B^(n-1)/\ak B us (n-1)<B^(n-1):=by
 have h2:=h.two;refine⟨?_,dJ λ i hi=>h.ult i (by omega)⟩
 obtain⟨k,rfl⟩:∃k,n=k+1:=⟨n-1,by omega⟩
 simp only[Nat.add_sub_cancel,ak]
 rw[Nat.pow_succ];grind
theorem Kn.Ob:ak B us (n+1)=ak B us (n-2)+((us n*B+us (n-1))*B+us (n-2))*B^(n-2)/\ak B us (n-2)<B^(n-2):=by
 have h2:=h.two;refine⟨?_,dJ λ i hi=>h.ult i (by omega)⟩
 obtain⟨k,rfl⟩:∃k,n=k+2:=⟨n-2,by omega⟩
 simp only[Nat.add_sub_cancel,show k+2-1=k+1 by omega,ak]
 rw[Nat.pow_succ,Nat.pow_succ];grind
theorem Kn.WN:0<ak B ds n:=by
 have:=h.lt;have:0<ak B ds n*B:=by omega
 exact Nat.pos_of_mul_pos_right this
theorem Kn.Zk:ak B us (n+1)/ak B ds n<B:=Nat.div_lt_of_lt_mul h.lt
theorem Kn.first:ak B us (n+1)/ak B ds n<=(us n*B+us (n-1))/ds (n-1):=by
 have h1:=h.Fh;have h2:=h.Oa;have hp:0<B^(n-1):=Nat.pow_pos h.SP;rw[Nat.le_div_iff_mul_le h.H5]
 have c:ak B us (n+1)/ak B ds n*ak B ds n<=ak B us (n+1):=Nat.div_mul_le_self ..;generalize ak B us (n+1)/ak B ds n=q at*;generalize us n*B+us (n-1)=top at*;generalize ds (n-1)=a at*;generalize B^(n-1)=P at*
 have h3:q*a*P<=q*ak B ds n:=by rw[h1.1,Nat.mul_add];have:q*(a*P)=q*a*P:=by grind
                                omega
 have b:q*a*P<(top+1)*P:=by rw[Nat.add_mul];omega
 have:=Nat.lt_of_mul_lt_mul_right b;omega
theorem Kn.Zl{g r:Nat}(d:g*ds (n-1)+r=us n*B+us (n-1))(hc:B<=g∨r*B+us (n-2)<g*ds (n-2)):ak B us (n+1)/ak B ds n<g:=by
 rcases hc with hc|hc
 ·have:=h.Zk;omega
 ·have h1:=h.N9;have h2:=h.Ob;have hp:0<B^(n-2):=Nat.pow_pos h.SP;refine Nat.div_lt_of_lt_mul ?_;rw[<-d] at h2;generalize ds (n-1)=a at*;generalize ds (n-2)=b at*;generalize us (n-2)=c at*;generalize B^(n-2)=P at*;have e1:((g*a+r)*B+c+1)<=g*(a*B+b):=by
   have:g*(a*B+b)=g*a*B+g*b:=by grind
   have:(g*a+r)*B=g*a*B+r*B:=by grind
   omega
  have e:((g*a+r)*B+c+1)*P<=g*(a*B+b)*P:=wC _ e1;have f:ak B ds n*g=ak B ds (n-2)*g+g*(a*B+b)*P:=by rw[h1.1];grind
  rw[Nat.add_mul _ 1] at e;omega
theorem Kn.small{g r:Nat}(d:g*ds (n-1)+r=us n*B+us (n-1))(hb:g<B)(hc:g*ds (n-2)<=r*B+us (n-2)):g*ak B ds n<=ak B us (n+1)+ak B ds n:=by
 have h1:=h.N9;have h2:=h.Ob;have h3:=h.Fh;have hd:=h.H5;have hn:=h.two;have e:B^(n-1)=B^(n-2)*B:=by rw[<-Nat.pow_succ];congr 1;omega
 rw[e] at h3;rw[<-d] at h2;generalize ds (n-1)=a at*;generalize ds (n-2)=b at*;generalize us (n-2)=c at*;generalize B^(n-2)=P at*;have e1:g*(a*B+b)<=(g*a+r)*B+c:=by
  have:g*(a*B+b)=g*a*B+g*b:=by grind
  have:(g*a+r)*B=g*a*B+r*B:=by grind
  omega
 have l:g*(a*B+b)*P<=((g*a+r)*B+c)*P:=wC _ e1;have k:g*ak B ds n=g*ak B ds (n-2)+g*(a*B+b)*P:=by rw[h1.1];grind
 have j:g*ak B ds (n-2)<=B*P:=Nat.mul_le_mul (by omega) (by omega)
 have i:1*(P*B)<=a*(P*B):=wC _ hd;have f:B*P=P*B:=Nat.mul_comm ..;omega
theorem Kn.aiF:us n<=ds (n-1):=by
 have h1:=h.Fh;have d:=h.lt;have h2:=h.Oa;have hp:0<B^(n-1)*B:=Nat.mul_pos (Nat.pow_pos h.SP) h.SP;generalize ds (n-1)=b at*;generalize us (n-1)=c at*;generalize us n=a at*;generalize B^(n-1)=P at*;have e1:a*(P*B)<(b+1)*(P*B):=by
  have f:ak B ds n*B<=(b+1)*(P*B):=by
   have:ak B ds n<=(b+1)*P:=by rw[Nat.add_mul];omega
   have:=wC B this;rw[Nat.mul_assoc] at this;exact this
  have e:(a*B+c)*P=a*(P*B)+c*P:=by grind
  omega
 have:=Nat.lt_of_mul_lt_mul_right e1;omega
theorem Kn.Zm{g r:Nat}(d:g*ds (n-1)+r=us n*B+us (n-1))(hr:B<=r):g<B/\g*ds (n-2)<=r*B+us (n-2):=by
 have c:=h.aiF;have h1:=h.ult (n-1) (by omega)
 have hn:=h.two;have h2:=h.Li (n-2) (by omega)
 have hd:=h.H5;generalize ds (n-1)=a at*;have b:g<B:=by
  have e:us n*B<=a*B:=wC _ c;have:g*a<B*a:=by rw[Nat.mul_comm B];omega
  exact Nat.lt_of_mul_lt_mul_right this
 refine⟨b,?_⟩
 have e1:g*ds (n-2)<=B*B:=Nat.mul_le_mul (by omega) (by omega)
 have f:B*B<=r*B:=wC _ hr;omega
end
structure yj(B:Nat)(us ds:Nat->Nat)(g i:Nat)(zs:Nat->Nat)(c o:Nat):Prop where
 lt:∀k,k<i->zs k<B
 same:∀k,i<=k->zs k=us k
 wI:c<B
 ole:o<=1
 eq:ak B zs i+g*ak B ds i=ak B us i+(c+o)*B^i
theorem yj.start{B:Nat}{us ds:Nat->Nat}{g:Nat}(a:0<B):yj B us ds g 0 us 0 0:=
 ⟨λ _ h=>by omega,λ _ _=>rfl,a,by omega,by simp[ak]⟩
theorem yj.step{B:Nat}{us ds zs:Nat->Nat}{g i c o z o':Nat}(h:yj B us ds g i zs c o)(f:g<B)(hd:ds i<B)
 (a:z<B)(b:o'<=1)(he:z+(g*ds i+c)%B+o=us i+B*o'):
 yj B us ds g (i+1) (ep zs i z) ((g*ds i+c)/B) o':=by
 have j:0<B:=by omega
 refine⟨λ k d=> ?_,λ k d=> ?_,?_,b,?_⟩
 ·unfold ep;split
  ·exact a
  ·exact h.lt k (by omega)
 ·rw[bB _ (by omega)];exact h.same k (by omega)
 ·have:=jR f hd j h.wI;refine Nat.div_lt_of_lt_mul (by omega)
 ·have e:=h.eq;have hm:=Nat.mod_add_div (g*ds i+c) B;rw[dH]
  simp only[ak]
  rw[Nat.pow_succ]
  generalize (g*ds i+c)/B=m at*;generalize (g*ds i+c)%B=l at*;generalize B^i=P at*;have e1:(z+l+o)*P=(us i+B*o')*P:=by rw[he]
  have n:(g*ds i+c)*P=(l+B*m)*P:=by rw[hm]
  grind
structure vx(B:Nat)(us ds:Nat->Nat)(i:Nat)(zs:Nat->Nat)(c:Nat):Prop where
 lt:∀k,k<i->zs k<B
 same:∀k,i<=k->zs k=us k
 wI:c<=1
 eq:ak B zs i+c*B^i=ak B us i+ak B ds i
theorem vx.start{B:Nat}{us ds:Nat->Nat}:vx B us ds 0 us 0:=⟨λ _ h=>by omega,λ _ _=>rfl,by omega,by simp[ak]⟩
theorem vx.step{B:Nat}{us ds zs:Nat->Nat}{i c:Nat}(h:vx B us ds i zs c)(f:us i<B)(hd:ds i<B):
 vx B us ds (i+1) (ep zs i ((us i+ds i+c)%B)) ((us i+ds i+c)/B):=by
 have b:0<B:=by omega
 have hc:=h.wI;refine⟨λ k a=> ?_,λ k a=> ?_,?_,?_⟩
 ·unfold ep;split
  ·exact Nat.mod_lt _ b
  ·exact h.lt k (by omega)
 ·rw[bB _ (by omega)];exact h.same k (by omega)
 ·have:(us i+ds i+c)/B<2:=Nat.div_lt_of_lt_mul (by omega)
  omega
 ·have e:=h.eq;have hm:=Nat.mod_add_div (us i+ds i+c) B;rw[dH]
  simp only[ak]
  rw[Nat.pow_succ]
  generalize (us i+ds i+c)/B=d at*;generalize (us i+ds i+c)%B=l at*;generalize B^i=P at*;have g:(us i+ds i+c)*P=(l+B*d)*P:=by rw[hm]
  grind
theorem sA{B:Nat}{us ds zs:Nat->Nat}{n g c o:Nat}(hK:Kn B us ds n)(h:yj B us ds g n zs c o)
 (d:ak B us (n+1)/ak B ds n<=g)(b:c+o<=us n):
 g=ak B us (n+1)/ak B ds n/\ak B (ep zs n (us n-c-o)) (n+1)=ak B us (n+1)%ak B ds n:=by
 have hd:=hK.WN;have e:=h.eq;have e1:ak B (ep zs n (us n-c-o)) (n+1)+g*ak B ds n=ak B us (n+1):=by
  rw[dH]
  simp only[ak]
  generalize B^n=P at*;obtain⟨x,hx⟩:∃x,us n=x+(c+o):=⟨us n-(c+o),by omega⟩
  rw[hx,show x+(c+o)-c-o=x by omega]
  grind
 have f:g<=ak B us (n+1)/ak B ds n:=by rw[Nat.le_div_iff_mul_le hd];omega
 have a:g=ak B us (n+1)/ak B ds n:=by omega
 refine⟨a,?_⟩
 have:=Nat.mod_add_div (ak B us (n+1)) (ak B ds n)
 rw[<-a,Nat.mul_comm] at this;omega
theorem sB{B:Nat}{us ds zs ts:Nat->Nat}{n g c o a:Nat}(hK:Kn B us ds n)(h:yj B us ds g n zs c o)
 (t:g*ak B ds n<=ak B us (n+1)+ak B ds n)(j:us n<c+o)(ha:vx B (ep zs n (us n+B-c-o)) ds n ts a):
 g=ak B us (n+1)/ak B ds n+1/\(us n+B-c-o)+a=B/\ak B ts n=ak B us (n+1)%ak B ds n:=by
 have hd:=hK.WN;have e:=h.eq;have ea:=ha.eq;have i:=hK.ult n (by omega)
 have v:=h.wI;have k:=h.ole;have m:=dJ (n:=n) ha.lt;have u:ak B ds n<B^n:=dJ hK.Li;rw[N6 (aU _)] at ea;have d:ak B us (n+1)<g*ak B ds n:=by
  have s:=dJ (n:=n) h.lt;simp only[ak]
  have:(us n+1)*B^n<=(c+o)*B^n:=wC _ j;rw[Nat.add_mul] at this;omega
 have e1:ak B us (n+1)/ak B ds n<g:=Nat.div_lt_of_lt_mul (by rw[Nat.mul_comm];exact d)
 have F:g<=ak B us (n+1)/ak B ds n+1:=by
  have:g-1<=ak B us (n+1)/ak B ds n:=by
   rw[Nat.le_div_iff_mul_le hd,Nat.sub_mul];omega
  omega
 have f:g=ak B us (n+1)/ak B ds n+1:=by omega
 have hm:=Nat.mod_add_div (ak B us (n+1)) (ak B ds n)
 have l:ak B us (n+1)%ak B ds n<ak B ds n:=Nat.mod_lt _ hd;generalize ak B us (n+1)/ak B ds n=q at*;generalize ak B us (n+1)%ak B ds n=r at*;obtain⟨x,hx⟩:∃x,us n+B=x+(c+o):=⟨us n+B-(c+o),by omega⟩
 rw[show us n+B-c-o=x by omega] at*;have w:ak B us (n+1)=ak B us n+us n*B^n:=rfl;have p:ak B ts n+(x+a)*B^n=r+B*B^n:=by
  rw[f] at e;generalize B^n=P at*;have E:(us n+B)*P=(x+(c+o))*P:=by rw[hx]
  have D:(q+1)*ak B ds n=ak B ds n*q+ak B ds n:=by grind
  have C:(x+a)*P=x*P+a*P:=Nat.add_mul ..;have A:(us n+B)*P=us n*P+B*P:=Nat.add_mul ..;have z:(x+(c+o))*P=x*P+(c+o)*P:=Nat.add_mul ..;omega
 have y:0<B^n:=Nat.pow_pos hK.SP;have b:x+a=B:=by
  generalize B^n=P at*;have h1:B*P<(x+a+1)*P:=by rw[Nat.add_mul (x+a)];omega
  have h2:(x+a)*P<(B+1)*P:=by rw[Nat.add_mul B];omega
  have:=Nat.lt_of_mul_lt_mul_right h1;have:=Nat.lt_of_mul_lt_mul_right h2;omega
 refine⟨f,b,?_⟩
 rw[b] at p;omega
def eC(zs:Nat->Nat)(j:Nat):Nat->Nat:=λ i=>zs (j+i)
theorem eK(zs:Nat->Nat)(j i x:Nat):eC (ep zs (j+i) x) j=ep (eC zs j) i x:=by
 funext k;simp only[eC,ep]
 by_cases h:k=i
 ·subst h;simp
 ·rw[if_neg (by omega),if_neg h]
theorem qI(B:Nat)(zs:Nat->Nat)(j n:Nat):ak B zs (j+n)=ak B zs j+ak B (eC zs j) n*B^j:=yf B zs j n
structure LD(B D n M Q L k:Nat)(us qs:Nat->Nat):Prop where
 ult:∀i,i<L->us i<B
 zero:∀i,k+n<=i->i<L->us i=0
 Zk:∀i,qs i<B
 qz:∀i,i<k->qs i=0
 lt:ak B us (k+n)<D*B^k
 eq:ak B us (k+n)+ak B qs Q*D=M
theorem LD.Fj{B D n M Q L k:Nat}{us qs:Nat->Nat}(h:LD B D n M Q L (k+1) us qs)(b:0<B):ak B (eC us k) (n+1)<D*B:=by
 have a:=h.lt;rw[show k+1+n=k+(n+1) by omega,qI,Nat.pow_succ] at a;have hp:0<B^k:=Nat.pow_pos b;have:ak B (eC us k) (n+1)*B^k<D*B*B^k:=by
  have e:D*(B^k*B)=D*B*B^k:=by grind
  omega
 exact Nat.lt_of_mul_lt_mul_right this
theorem LD.step{B D n M Q L k:Nat}{us Fk qs:Nat->Nat}(h:LD B D n M Q L (k+1) us qs)(l:0<B)(u:0<D)(t:D<=B^n)(c:k<Q)(v:k+n<L)
 (m:∀i,i<L->Fk i<B)(hs:∀i,i<k∨k+n<i->Fk i=us i)(hv:ak B (eC Fk k) (n+1)=ak B (eC us k) (n+1)%D):
 LD B D n M Q L k Fk (ep qs k (ak B (eC us k) (n+1)/D)):=by
 have hw:=h.Fj l;have hp:0<B^k:=Nat.pow_pos l;have hm:=Nat.mod_add_div (ak B (eC us k) (n+1)) D;have b:ak B (eC us k) (n+1)%D<D:=Nat.mod_lt _ u;have j:ak B Fk k=ak B us k:=iU λ i hi=>hs i (.inl hi)
 have p:ak B us k<B^k:=dJ λ i hi=>h.ult i (by omega)
 have f:Fk (k+n)=0:=by
  have e:ak B (eC Fk k) (n+1)=ak B (eC Fk k) n+Fk (k+n)*B^n:=rfl;have o:Fk (k+n)*B^n<1*B^n:=by omega
  have:=Nat.lt_of_mul_lt_mul_right o;omega
 have a:ak B (eC Fk k) n=ak B (eC us k) (n+1)%D:=by
  have e:ak B (eC Fk k) (n+1)=ak B (eC Fk k) n+Fk (k+n)*B^n:=rfl;rw[f,Nat.zero_mul,Nat.add_zero] at e;rw[<-hv];omega
 have s:=h.eq;rw[show k+1+n=k+(n+1) by omega,qI] at s;refine⟨m,λ i hi d=> ?_,λ i=> ?_,λ i hi=> ?_,?_,?_⟩
 ·by_cases e:i=k+n
  ·rw[e];exact f
  ·rw[hs i (.inr (by omega))];exact h.zero i (by omega) d
 ·unfold ep;split
  ·exact Nat.div_lt_of_lt_mul hw
  ·exact h.Zk i
 ·rw[bB _ (by omega)];exact h.qz i (by omega)
 ·rw[qI,j,a]
  generalize ak B (eC us k) (n+1)%D=r at*;have:(r+1)*B^k<=D*B^k:=wC _ b;rw[Nat.add_mul] at this;omega
 ·have g:=sy (B:=B) (zs:=qs) (x:=ak B (eC us k) (n+1)/D) c;rw[h.qz k (by omega),Nat.zero_mul,Nat.add_zero] at g;rw[qI,j,a,g]
  generalize ak B (eC us k) (n+1)%D=r at*;generalize ak B (eC us k) (n+1)/D=q at*;generalize ak B (eC us k) (n+1)=W at*;subst hm
  grind
theorem LD.done{B D n M Q L:Nat}{us qs:Nat->Nat}(h:LD B D n M Q L 0 us qs)(b:n<=L):ak B qs Q=M/D/\ak B us L=M%D:=by
 have a:=h.lt;have he:=h.eq;simp only[lp,Nat.pow_zero,Nat.mul_one] at a he;have e:ak B us L=ak B us n:=by
  have:=qI B us n (L-n)
  rw[show n+(L-n)=L by omega] at this;rw[this,lI B (eC us n) (L-n) (λ i hi=>h.zero (n+i) (by omega) (by omega))]
  simp
 rw[e,<-he]
 constructor
 ·rw[Nat.add_mul_div_right _ _ (by omega),Nat.div_eq_of_lt a,lp]
 ·rw[Nat.add_mul_mod_self_right,Nat.mod_eq_of_lt a]
def over(xs:Nat->Nat)(n:Nat)(zs:Nat->Nat):Nat->Nat:=λ i=>if i<n then xs i else zs i
theorem uO{B:Nat}{xs:Nat->Nat}{n L:Nat}(h:n<=L):ak B (over xs n λ _=>0) L=ak B xs n:=by
 have:=qI B (over xs n λ _=>0) n (L-n)
 rw[show n+(L-n)=L by omega] at this;rw[this,lI B _ (L-n) (λ i hi=>by simp only[eC,over];rw[if_neg (by omega)]),Nat.zero_mul,Nat.add_zero]
 exact iU λ i hi=>by simp only[over];rw[if_pos hi]
theorem LD.start{B D n M Q L k:Nat}{us:Nat->Nat}(e:0<B)(d:L=k+n)(a:∀i,i<L->us i<B)(b:M<D*B^k)(he:ak B us L=M):LD B D n M Q L k us (λ _=>0):=by
 subst d;refine⟨a,λ i hi c=>by omega,λ _=>e,λ _ _=>rfl,by rw[he];exact b,?_⟩
 rw[he,lI _ _ _ (λ _ _=>rfl)];simp
end Go.Dig
