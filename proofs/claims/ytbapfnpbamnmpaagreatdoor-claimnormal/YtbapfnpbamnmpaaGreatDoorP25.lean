/- A part of the proof that the text which Print makes of a parsed text is a normal form -/
import Derived.Test.YtbapfnpbamnmpaaGreatDoorP00
import Derived.Test.YtbapfnpbamnmpaaGreatDoorP23
import Derived.Test.YtbapfnpbamnmpaaGreatDoorP24
import Derived.Lib.AppendZeros
import Derived.Test.YtbapfnpbamnmpaaGreatDoorP22
import Derived.Test.YtbapfnpbamnmpaaGreatDoorP01
import Derived.Test.YtbapfnpbamnmpaaGreatDoorP04
import Derived.Test.YtbapfnpbamnmpaaGreatDoorP21
import Derived.Tactics
set_option maxHeartbeats 8000000
set_option maxRecDepth 100000
namespace Go.Proofs.YtbapfnpbamnmpaaGreatDoor
open Go Go.RowKit Go.Dig Go.Deep Go.Eng Go.Proofs.Tryz
variable{W w w':World}{D M N b c cap d f g i m n sz:Nat}{a:Option Addr}{cs:List Value}{t:TypeId}{neg s:Bool}{arg op:Int}{A:Array Value}{v:Value}
theorem fW.done{α:Type}{W0 W':World}{g3 e:Nat}{R:World->List Value->α->Prop}{ts:List α}(G:fW W0 W g3 e sz (.slice a ts.length cap) ts.length cs R ts)
 (hR:∀w w',nT w w'->∀l t,R w l t->R w' l t)(c:N<=W0.heap.size)(k:∀b,b<W.heap.size->W0.heap.size<=b->W'.heap[b]? =W.heap[b]?):
 ts.length<=cap/\(∀i,i<cs.length->∃b,a=some ⟨b,0,none⟩/\(aB W' (ab N)).cell? ⟨b,i,none⟩=cs[i]?)/\cl (R (aB W' (ab N))) sz cs ts:=by
 obtain⟨a',j,he,hc,g,f⟩:=bI G.own;injection he with h1 h2 h3
 subst h1;subst h3;refine⟨hc,λ i hi=> ?_,?_⟩
 ·obtain⟨b,hb,ha,h⟩:=f i hi;refine⟨b,ha,?_⟩
  have hv:W.cell? ⟨b,i,none⟩=some cs[i]:=by rw[h,nW hi]
  have d:=World.block_lt_of_cell? W _ hv;rw[fQ,if_pos (by unfold ab;exact cU (jP c hb)),<-h]
  unfold World.cell?;rw[k b d hb]
 ·have:=G.rows;rw[List.take_length] at this;exact this.mono (hR _ _ (au λ b hb hs=>by
   unfold S1 at hs;simp only[fv,oh] at hs;exact⟨by unfold ab;exact cU (jP c hs.1),k b hb hs.1⟩))
def Xf(N g:Nat):Nat->Bool:=λ b=>decide (N<=b)&&b != g
theorem IJ(k:aa w W)(a:w.heap.size<=g)(c:M<=N):nT (aB w (ab N)) (aB W (Xf M g)):=au λ b hb hs=>⟨by
 unfold ab at hs;unfold Xf;simp only[oh] at hs;simp only[fv,oh,bne_iff_ne]
 omega,k.old b hb⟩
theorem OG(k:af w W g):nT (aB w (Xf M g)) (aB W (Xf M g)):=au λ b hb hs=>⟨hs,k.old b hb (by
 unfold Xf at hs;simp only[fv,bne_iff_ne] at hs;exact hs.2)⟩
theorem Ca(a:g<N)(c:M<=N):nT (aB w (ab N)) (aB w (Xf M g)):=iJ λ b hs=>by
 unfold ab at hs;unfold Xf;simp only[oh] at hs;simp only[fv,oh,bne_iff_ne]
 omega
def Z10:Array Value:=#[.int .i64 0,.int .i64 0,.bool false,.slice none 0 0,.slice none 0 0,.string ⟨#[]⟩,.slice none 0 0,.bool false,.slice none 0 0,.slice none 0 0]
theorem OP{Y:Array Value}(h:dY 27 Y){b:Bool}{a1:Option Addr}{n1 c1:Nat}{a2:Option Addr}{n2 c2:Nat}:dY 31 (Y++#[.bool b,.slice a1 n1 c1,.slice a2 n2 c2]):=by
 have h2:=h.2;refine⟨?_,?_⟩
 ·obtain⟨a,x1,x2,x3,x4,x5,x6,rfl⟩:=Sg h.sL;kernel_rfl
 ·rw[Array.all_append,h2]
  simp[Value.oneCell']
theorem GH:dY 31 Z10:=OP (Y:=Z7) iK
def Z8:Array Value:=#[.int .i64 0,.int .i64 0,.bool false,.slice none 0 0,.slice none 0 0,.string ⟨#[]⟩,.slice none 0 0,.bool false]
theorem zH{Y:Array Value}(h:dY 27 Y){b:Bool}:dY 93 (Y++#[.bool b]):=by
 have h2:=h.2;refine⟨?_,?_⟩
 ·obtain⟨a,x1,x2,x3,x4,x5,x6,rfl⟩:=Sg h.sL;kernel_rfl
 ·rw[Array.all_append,h2]
  simp[Value.oneCell']
theorem afF:dY 93 Z8:=zH (Y:=Z7) iK
theorem Sj.row{l:List eE}(h:Sj w f a n cap l)(hi:i<l.length):∃b off q p m k e d c,a=some ⟨b,off,none⟩/\w.rangeAt b (off+i*8) [q,p,m,k,e,d,c,.bool l[i].strict]/\
 dY 27 #[q,p,m,k,e,d,c]/\Ex w f (.agg #[q,p,m,k,e,d,c]) l[i].t:=by
 obtain⟨b,off,o,g,z,x1,x2,x3,x4,x5,x6,nm,a',s,C,ha,B,h1,h2,h3,A,y,x,u,he⟩:=h.2.2.2 i hi;refine⟨b,off,_,_,_,_,_,_,_,ha,λ j v hv=> ?_,nX,he⟩
 rcases(show j=0∨j=1∨j=2∨j=3∨j=4∨j=5∨j=6∨j=7∨8<=j by omega) with rfl|rfl|rfl|rfl|rfl|rfl|rfl|rfl|r<;>first
  |(injection hv with hv;subst hv;assumption)
  |(rw[List.getElem?_eq_none (by simpa using r)] at hv;cases hv)
section
variable{n:Nat}{l:Fm}{ops:Array Oper}{rest:List Oper}{Q:Exit->Act->World->Prop}{oi oj:Oper}{fuel:Nat}{listed:Array Bool}{w w0:World}{d e lo up:Nat}
theorem ZI{α:Type}{W0:World}{g3 t D5 k a:Nat}{z:Value}{st:TypeId}{R:World->List Value->α->Prop}{ts:List α}{a3:Option Addr}{V:Array Value}{T:Nat->Bool}{ob oa:Oper}{db da s:Tmp}
 (e:gY t z sz D5)(o:z.cells.size=sz)(q:0<sz)(F:D5<=1024)(r:prog.underlying st=some (.slice t))
 (G:fW W0 w g3 t sz (.slice a3 k a) k cs R ts)(hR:∀w w',nT w w'->∀l t,R w l t->R w' l t)(g:V.all (·.oneCell')=true)(m:V.size=sz)(B:k<ts.length)(A:k+1<=1099511627)
 (hr:R (aB w T) V.toList ts[k])(I:∀b,T b=true->W0.heap.size<=b/\some b≠(Value.slice a3 k a).ownBlock)
 (H:(execOp (ev n l) ob).run prog w= .ok (.value (.slice (some ⟨w.heap.size,0,none⟩) 1 1)) (w.alloc (.cells V t)))
 (h:∀w' a' c,fW W0 w' g3 t sz (.slice a' (k+1) c) (k+1) (cs++V.toList) R ts->wpList prog ops Q rest (aH n (aC (aC l db (.slice (some ⟨w.heap.size,0,none⟩) 1 1)) da (.slice a' (k+1) c))) w')
 (D:ob.guard=none:=by rfl)(E:ob.dst=some db:=by rfl)
 (d:oa.op= .call {callee:=.builtin .append,args:=#[.tmp s,.tmp db],argTypes:=#[st,st]}/\oa.guard=none/\oa.dst=some da:=by exact⟨rfl,rfl,rfl⟩)
 (hs:bA n l (.tmp s)=some (.slice a3 k a):=by rfl)(y:s≠db/\db<n:=by decide):
 wpList prog ops Q (ob::oa::rest) (aH n l) w:=by
 obtain⟨n1,n4⟩:=y;refine zv _ (by rw[aO];exact H) D E ?_;have i:aa w (w.alloc (.cells V t)):=(aa.refl w).alloc _;have K:=aD.new w V t;have f:=G.kept hR i;have j:W0.heap.size<=(w.alloc (.cells V t)).heap.size:=f.kb.size;have es:bA n (aC l db (.slice (some ⟨w.heap.size,0,none⟩) 1 1)) (.tmp s)=some (.slice a3 k a):=by
  rw[<-hs];simp only[bA,aC,oM n1];rfl
 have J:bA n (aC l db (.slice (some ⟨w.heap.size,0,none⟩) 1 1)) (.tmp db)=some (.slice (some ⟨w.heap.size,0,none⟩) 1 1):=by
  simp only[bA,aC,Nat.beq_refl,cond_true,show Nat.blt db n=true from Nat.ble_eq_true_of_le n4]
 refine dh d.2.1 (.tmp s) (.tmp db) st d.1 e r o q F W0.heap.size j _ k cs (aE es) f.own ⟨w.heap.size,0,none⟩ 1 1 V.toList (aE J) (by simp[m]) (pR K) (λ u p=> ?_) (by decide) A (λ v' w' ho C v=> ?_)
 ·rw[Array.all_eq_true] at g;obtain⟨x,hx,rfl⟩:=List.getElem_of_mem p;exact g x (by simpa using hx)
 obtain⟨a',c,rfl,-,-,-⟩:=bI ho;rw[d.2.2,bX]
 exact h w' a' c (f.append hR j ho C v (by simpa using m) B (hR _ _ (jS i) _ _ hr) I)
end
theorem SX:gY 27 (.agg #[.int .i64 0,.int .i64 0,.bool false,.slice none 0 0,.slice none 0 0,.string ⟨#[]⟩,.slice none 0 0]) 7 112:=mD (by kernel_rfl)
theorem Qy{name:ByteArray}(h:bJ op arg s N D name n=true):n<=3:=by
 unfold bJ at h;simp only[fv,oh] at h;have h1:=h.1.1;unfold iq at h1;repeat' split at h1
 all_goals omega
def DD(f:Nat):World->List Value->aj->Prop:=λ W l t=>Ex W f (.agg l.toArray) t
theorem By(f:Nat):∀w w',nT w w'->∀l t,DD f w l t->DD f w' l t:=λ _ _ k _ _ h=>h.sub k
theorem aaO:gY 93 (.agg #[.int .i64 0,.int .i64 0,.bool false,.slice none 0 0,.slice none 0 0,.string ⟨#[]⟩,.slice none 0 0,.bool false]) 8 120:=mD (by kernel_rfl)
def zn(f:Nat):World->List Value->eE->Prop:=λ W l d=>∃(o g:Int)(z:Bool)(x1:Option Addr)(x2 x3:Nat)(x4:Option Addr)(x5 x6:Nat)(nm:ByteArray)(a:Option Addr)(n cap:Nat),
 l=[.int .i64 o,.int .i64 g,.bool z,.slice x1 x2 x3,.slice x4 x5 x6,.string nm,.slice a n cap,.bool d.strict]/\Ex W f (.agg #[.int .i64 o,.int .i64 g,.bool z,.slice x1 x2 x3,.slice x4 x5 x6,.string nm,.slice a n cap]) d.t
theorem Qz(f:Nat):∀w w',nT w w'->∀l t,zn f w l t->zn f w' l t:=by
 rintro w w' k l t ⟨o,g,z,x1,x2,x3,x4,x5,x6,nm,a,n,cap,e,h⟩
 exact⟨o,g,z,x1,x2,x3,x4,x5,x6,nm,a,n,cap,e,h.sub k⟩
theorem Sj.mk{l:List eE}(hc:l.length<=cap)(hn:l.length<4611686018427387904)
 (m:∀i,i<cs.length->∃b,a=some ⟨b,0,none⟩/\w.cell? ⟨b,i,none⟩=cs[i]?)(k:cl (zn f w) 8 cs l):Sj w f a l.length cap l:=by
 refine⟨rfl,hc,hn,λ i h=> ?_⟩
 have d:i*8+8<=cs.length:=by rw[k.1];omega
 obtain⟨b,ha,-⟩:=m (i*8) (by omega)
 obtain⟨o,g,z,x1,x2,x3,x4,x5,x6,nm,a',n,q,e,hv⟩:=k.2 i h;have c:∀j(u:Value),j<8->[Value.int .i64 o,.int .i64 g,.bool z,.slice x1 x2 x3,.slice x4 x5 x6,.string nm,.slice a' n q,.bool l[i].strict][j]? =some u->w.cell? ⟨b,0+i*8+j,none⟩=some u:=by
  intro j u s r;obtain⟨b',p,t⟩:=m (i*8+j) (by omega)
  rw[ha] at p;cases p
  rw[lp,t,<-r,<-e]
  simp[s]
 exact⟨b,0,o,g,z,x1,x2,x3,x4,x5,x6,nm,a',n,q,ha,c 0 _ (by decide) rfl,c 1 _ (by decide) rfl,c 2 _ (by decide) rfl,c 3 _ (by decide) rfl,c 4 _ (by decide) rfl,c 5 _ (by decide) rfl,c 6 _ (by decide) rfl,c 7 _ (by decide) rfl,hv⟩
theorem mP(W:World):Rt W (.agg #[.bool false,.slice none 0 0,.slice none 0 0]) false 0 0:=
 ⟨_,_,rfl,⟨none,0,0,λ _=>0,rfl,aU _,by omega,λ i h=>absurd h (Nat.not_lt_zero i),rfl,λ i h=>absurd h (Nat.not_lt_zero i)⟩,⟨none,0,0,λ _=>0,rfl,aU _,by omega,λ i h=>absurd h (Nat.not_lt_zero i),rfl,λ i h=>absurd h (Nat.not_lt_zero i)⟩⟩
theorem IB{α:Type}{R:List Value->α->Prop}{l:List Value}{t:α}(a:l.length=sz)(hr:R l t):cl R sz l [t]:=by
 have h:=(cl.nil R sz).snoc a hr;simpa using h
theorem IC{α:Type}{R:List Value->α->Prop}{l l':List Value}{t t':α}(c:l.length=sz)(hr:R l t)(b:l'.length=sz)(a:R l' t'):cl R sz (l++l') [t,t']:=by
 have h:=(IB c hr).snoc b a;simpa using h
theorem Ex.bw{kids:List aj}{S:Nat->Bool}(c:W=aB w' S)(hs:S b=true)(hb:aD w' b cs.toArray t)
 (a:cl (λ l t=>Ex W f (.agg l.toArray) t) 7 cs kids)(hn:kids.length<1000):
 Ex W (f+1) (.agg #[.int .i64 op,.int .i64 arg,.bool false,.slice none 0 0,.slice none 0 0,.string ⟨#[]⟩,.slice (some ⟨b,0,none⟩) kids.length kids.length]) (.node op arg false 0 0 ⟨#[]⟩ kids):=by
 refine Ex.mk (aU _) (mP W) (by omega) (λ i hi=>⟨b,rfl,?_⟩) a;subst c;rw[fQ,if_pos hs,nW hi]
 exact hb.cell i (by simp[hi])
theorem al1(h:w.alloc (.cells A t)=W):aD W w.heap.size A t/\aa w W/\W.heap.size=w.heap.size+1:=by
 subst h;exact⟨aD.new ..,(aa.refl _).alloc _,Array.size_push _⟩
theorem al2{B:Array Value}{u:TypeId}(h:(w.alloc (.cells A t)).alloc (.cells B u)=W):aD W w.heap.size A t/\aD W (w.heap.size+1) B u/\aa w W/\W.heap.size=w.heap.size+2:=by
 obtain⟨h1,h2,h3⟩:=al1 (W:=w.alloc (.cells A t)) rfl;obtain⟨g1,g2,g3⟩:=al1 h;rw[h3] at g1 g3;exact⟨h1.kept g2,g1,h2.trans g2,g3⟩
theorem Q2{w5:World}{B:Array Value}{u:TypeId}(k:aa ((w.alloc (.cells A t)).alloc (.cells B u)) w5):aD w5 w.heap.size A t/\aD w5 (w.heap.size+1) B u/\aa w w5/\w.heap.size+2<=w5.heap.size:=by
 obtain⟨h1,h2,h3,a⟩:=al2 (w:=w) (A:=A) (t:=t) (B:=B) (u:=u) rfl;exact⟨h1.kept k,h2.kept k,h3.trans k,by have:=k.size;omega⟩
theorem Ex.row{S:Nat->Bool}{base:Nat}{name:ByteArray}{kids:List aj}{x1:Option Addr}{x2 x3:Nat}{x4:Option Addr}{x5 x6:Nat}
 (j:W=aB w' S)(hS:∀b,base<=b->S b=true)(hr:Rt W (.agg #[.bool s,.slice x1 x2 x3,.slice x4 x5 x6]) s N D)(ho:w'.ownsRow base 27 7 (.slice a n cap) n cs)(g:cl (Go.Proofs.YtbapfnpbamnmpaaGreatDoor.DD f W) 7 cs kids)(hn:n<=1000)(d:n=kids.length):
 Ex W (f+1) (.agg #[.int .i64 op,.int .i64 arg,.bool s,.slice x1 x2 x3,.slice x4 x5 x6,.string name,.slice a n cap]) (.node op arg s N D name kids):=by
 subst d;obtain⟨a',k,e,hc,-,h⟩:=bI ho;cases e
 refine Ex.mk hc hr (by omega) (λ i hi=> ?_) g;obtain⟨b,hb,ha,c⟩:=h i hi;refine⟨b,ha,?_⟩
 subst j;rw[nW hi] at c⊢;rw[fQ,if_pos (hS b hb)]
 exact c
theorem Ex.more{w:World}:∀(f:Nat){v:Value}{t:aj},Ex w f v t->Ex w (f+1) v t
 |0,_,_,h=>h.elim
 |f+1,v,.node op arg s N D name kids,⟨x1,x2,x3,x4,x5,x6,a,cap,hv,hc,hr,hn,c⟩=>by
  refine⟨x1,x2,x3,x4,x5,x6,a,cap,hv,hc,hr,hn,λ i h=> ?_⟩
  obtain⟨b,off,cs,ha,hs,d,he⟩:=c i h;exact⟨b,off,cs,ha,hs,d,Ex.more f he⟩
theorem Ex.up{t:aj}(h:Ex w f v t):∀(k:Nat),Ex w (f+k) v t
 |0=>h
 |k+1=>Ex.more _ (h.up k)
theorem Ex.Ie{t:aj}(h:Ex w f v t)(a:f<=g):Ex w g v t:=by
 have:=h.up (g-f)
 rwa [Nat.add_sub_cancel' a] at this
theorem Mi(h:Nt 4294967296 w (.slice a n c) m)(hf:bn m=true):Raw w (.slice a n c) m:=by
 obtain⟨a',g,cap,zs,e,h1,h2,h3,d,f⟩:=h;cases e
 refine⟨a,n,c,zs,rfl,h1,?_,h2,d,f⟩
 have b:m<iy 2 2048:=kC hf;rw[<-TE,<-d] at b;have:=(qY h2 h3 (L:=64)).2 b;omega
theorem aks(h:World.drew (World.alloc w (.cells A t))=W):aD W w.heap.size A t/\aa w W/\W.heap.size=w.heap.size+1:=by
 subst h;obtain⟨h1,h2,h3⟩:=al1 (w:=w) (A:=A) (t:=t) rfl;exact⟨h1.kept (aa.refl _).drew,h2.trans (aa.refl _).drew,h3⟩
def C3(w:World)(b:Nat)(x0 x1 x2:Value):Prop:=w.cell? ⟨b,0,none⟩=some x0/\w.cell? ⟨b,1,none⟩=some x1/\w.cell? ⟨b,2,none⟩=some x2
theorem aD.c3{x0 x1 x2:Value}(h:aD w b #[x0,x1,x2] t):C3 w b x0 x1 x2:=by
 obtain⟨a,h1,h2,-⟩:=h.lT;exact⟨a,h1,h2⟩
theorem aD.akt{y0 y1 y2:Value}(h:aD w b #[y0,y1,y2] t)(a x1 x2:Value):
 aD (((w.setCell ⟨b,0,none⟩ a).setCell ⟨b,1,none⟩ x1).setCell ⟨b,2,none⟩ x2) b #[a,x1,x2] t:=by
 have c:=((h.set 0 a).set 1 x1).set 2 x2;simpa using c
theorem TF{K:Act->World->Prop}{act:Act}{y0 y1 y2 x0 x1 x2:Value}(hb:aD w g #[y0,y1,y2] t)(h:∀w',af w w' g->aD w' g #[x0,x1,x2] t->K act w'):
 K act (((w.setCell ⟨g,0,none⟩ x0).setCell ⟨g,1,none⟩ x1).setCell ⟨g,2,none⟩ x2):=h _ (af.eB ..) (hb.akt ..)
theorem Cj(W:World):Nt 4294967296 W (.slice none 0 0) 0:=⟨none,0,0,λ _=>0,rfl,aU _,λ _ h=>absurd h (Nat.not_lt_zero _),.inl rfl,rfl,λ _ h=>absurd h (Nat.not_lt_zero _)⟩
theorem Nt.sub{B:Nat}(h:Nt B w v m)(k:nT w w'):Nt B w' v m:=by
 obtain⟨a,n,cap,zs,h1,h2,h3,d,c,b⟩:=h;exact⟨a,n,cap,zs,h1,h2,h3,d,c,b.sub k⟩
theorem Fr.sub(h:Fr w v neg n d)(k:nT w w'):Fr w' v neg n d:=by
 obtain⟨a,b,h1,h2,h3⟩:=h;exact⟨a,b,h1,h2.sub k,h3.sub k⟩
theorem wZ(h:Nt 4294967296 w (.slice a n cap) m)(h3:n<=4194304):
 Calls prog 233 #[.slice a n cap] w λ e w'=>∃a' d f,e= .returned (.slice a' d f)/\Nt 4294967296 (aB w' (ab w.heap.size)) (.slice a' d f) m/\aa w w':=by
 have s:=λ (w:World) (a:Option Addr) (n c:Nat)=>Lib.run_eql_slice_nil (P:=prog) w 22 191 a n c 0 0 underlying22;cases a with
 |none=>
  go_enter func233,ntmps233;go_wp2;go_ret;obtain⟨a',d,f,zs,e,h2,l,j,k,y⟩:=h;obtain⟨rfl,rfl,rfl⟩:=Value.slice.inj e;have t:n=0:=by
   rcases Nat.eq_zero_or_pos n with o|o
   ·exact o
   ·obtain⟨b,off,ha,-⟩:=y 0 o;cases ha
  subst t;exact⟨none,0,0,rfl,⟨none,0,0,zs,rfl,aU _,l,j,k,λ i hi=>absurd hi (Nat.not_lt_zero i)⟩,aa.refl w⟩
 |some ad=>
  obtain⟨a',d,f,zs,e,h2,l,j,k,hx⟩:=h;obtain⟨rfl,rfl,rfl⟩:=Value.slice.inj e;have x:Ap (w.alloc (.cells #[] 191)) w.heap.size (.slice (some ⟨w.heap.size,0,none⟩) 0 0) 0 (λ _=>0):=World.ownsRow_made w _ 0 (aU _) (by unfold maxLen;omega) (by simp)
  have p:aa w (w.alloc (.cells #[] 191)):=(aa.refl _).alloc _;have g:=hx.kept p;go_enter func233,ntmps233;go_wp2_with(at_builtin;refine eW rfl (.tmp 5) (.tmp 6) 22 rfl underlying22 w p _ 0 0 (λ _=>0) rfl x (some ad) n cap zs rfl g (by omega) ?_;intro v' A q u)
  go_ret;rw[lp] at q;obtain⟨a2,z,rfl,v,r⟩:=(q.congr (ys:=zs) λ i hi=>by simp[pG]).aiG;exact⟨_,_,_,rfl,⟨a2,n,z,zs,rfl,v,l,j,k,r⟩,u⟩
theorem TH(h:Nt 4294967296 w (.slice a n c) m)(hf:bn m=true):n<=4194304:=by
 obtain⟨a',b,d,zs,e,h1,h2,-⟩:=Mi h hf;cases e
 exact h2
theorem zL(h:Fr w v neg n d)(hn:bn n=true)(hd:bn d=true):
 Calls prog 191 #[v] w λ e w'=>∃a1 n1 c1 a2 n2 c2,e= .returned (.tuple #[.agg #[.bool neg,.slice a1 n1 c1,.slice a2 n2 c2],.int .i64 0])/\Fr (aB w' (ab w.heap.size)) (.agg #[.bool neg,.slice a1 n1 c1,.slice a2 n2 c2]) neg n (if d=1 then 0 else d)/\aa w w':=by
 have G:=λ (w':World) (k:aa w w')=>qW (h.kept k)
 rw[hn,hd] at G;obtain⟨vn,vd,rfl,j,C⟩:=h;obtain⟨p1,p2,p3,rfl,-⟩:=j.shape;obtain⟨q1,q2,q3,rfl,-⟩:=C.shape;have FI:=λ (w':World) (k:aa w w')=>wZ (j.kept k) (TH (j.kept k) hn)
 have FA:=λ (w':World) (k:aa w w')=>wZ (C.kept k) (TH (C.kept k) hd)
 have hon:=λ (w':World) (k:aa w w')=>uh (C.kept k)
 clear j C;generalize hdd:(if d=1 then 0 else d)=dd;have L:=Lib.hid hdd;clear hdd;go_enter func191,ntmps191;go_wp2_with(first|(go_at_call 249;refine(G _ (((aa.refl w).alloc _).alloc _)).mono ?_;rintro e a ⟨rfl,bC⟩))
 obtain⟨hA,hB,eZ,DA⟩:=Q2 bC;have A:Hid (∀w',aa a w'->w'.cell? ⟨w.heap.size,0,none⟩=some (.bool neg)/\w'.cell? ⟨w.heap.size,1,none⟩=some (.slice p1 p2 p3)/\w'.cell? ⟨w.heap.size,2,none⟩=some (.slice q1 q2 q3)):=Lib.hid λ w' k=>(hA.kept k).c3;have HN0:=Lib.hid DA;refine wp_region_held_drew (S:=λ w'=>w'.cell? ⟨w.heap.size,0,none⟩=some (.bool neg)/\w'.cell? ⟨w.heap.size,1,none⟩=some (.slice p1 p2 p3)/\w'.cell? ⟨w.heap.size,2,none⟩=some (.slice q1 q2 q3)) (by kernel_rfl) (A.out _ (aa.refl a).drew) (λ I=> ?_)
 refine tk 0 ?_;try simp only[Act.put,List.setIfInBounds_toArray]
 refine tk 1 ?_;try simp only[Act.put]
 refine tk 2 ?_;try simp only[Act.put]
 refine tk 3 ?_;try simp only[Act.put]
 refine rd2 4 6 (λ K hK=> ?ga) (λ K hK=> ?gb)
 case' ga=>
  go_simp;go_at_call 233;refine(FI _ eZ.drew).mono ?_;rintro e M ⟨i,f,g,rfl,mQ,F⟩
  have P:aa a M:=(aa.refl a).drew.trans F;refine hK.out _ _ (A.out _ P) (λ I=> ?_)
  clear hK K;try simp only[Act.put,List.setIfInBounds_toArray,List.set_cons_zero,List.set_cons_succ]
  refine tk 5 ?_;try simp only[Act.put]
  refine Ll 6 λ K hK=> ?_;go_simp;refine hK.out _ _ (A.out _ (P.alloc _)) (λ I=> ?_)
  clear hK K;try simp only[Act.put,List.setIfInBounds_toArray,List.set_cons_zero,List.set_cons_succ]
  generalize q:World.alloc M _=B;obtain⟨r,c,hsx⟩:=al1 q;have akx:=P.size;have l:Nt 4294967296 (aB B (λ b=>decide (w.heap.size+2<=b)&&(b != M.heap.size))) (.slice i f g) n:=mQ.sub (au λ b hb hs=>⟨by
   have s:_<=b:=kC hs;have h1:a.heap.size<=b:=s;simp;omega,c.old b hb⟩)
  have p:aa a B:=P.trans c;generalize hb4:M.heap.size=o at r l⊢
 case' gb=>
  go_simp;refine hK.out _ _ (A.out _ ((aa.refl a).alloc _).drew) (λ I=> ?_)
  clear hK K;try simp only[Act.put,List.setIfInBounds_toArray,List.set_cons_zero,List.set_cons_succ]
  generalize q:World.drew (World.alloc a _)=wy;obtain⟨r,c,hsx⟩:=aks q;refine Ll 4 λ K hK=> ?_;go_simp;go_at_call 233;refine(FI _ (eZ.trans c)).mono ?_;rintro e B ⟨i,f,g,rfl,mQ,F⟩
  have p:aa a B:=c.trans F;have akx:=F.size;replace r:=r.kept F;have l:Nt 4294967296 (aB B (λ b=>decide (w.heap.size+2<=b)&&(b != a.heap.size))) (.slice i f g) n:=mQ.sub (au λ b hb hs=>⟨by
   have s:_<=b:=kC hs;have h1:wy.heap.size<=b:=s;simp;omega,rfl⟩)
  refine hK.out _ _ (A.out _ p) (λ I=> ?_)
  clear hK K;try simp only[Act.put,List.setIfInBounds_toArray,List.set_cons_zero,List.set_cons_succ]
  refine tk 5 ?_;try simp only[Act.put]
  generalize hb4:a.heap.size=o at r l⊢
 all_goals
  have aoo:a.heap.size<=o:=by omega
  have dL:o≠w.heap.size+1:=by omega
  have arS:w.heap.size+1≠o:=by omega
  refine Ll 7 λ K hK=> ?_;obtain⟨U,T,R,j0,j1,j2⟩:=r.lT;go_simp;refine TF (K:=K) r λ wd kd m=> ?_;clear U T R j0 j1 j2;have E:aa a wd:=p.but kd (by omega)
  have Sn:Nt 4294967296 (aB wd (λ b=>decide (w.heap.size+2<=b)&&(b != o))) (.slice i f g) n:=l.sub (au λ b hb hs=>⟨hs,kd.old b hb (by
   simp at hs;exact hs.2)⟩)
  refine hK.out _ _ (A.out _ E) (λ I=> ?_)
  clear hK K;try simp only[Act.put,List.setIfInBounds_toArray,List.set_cons_zero,List.set_cons_succ]
  refine wpAnyH_done (by kernel_rfl) ?_ _;have hAd:=hA.kept E;have J:=hB.kept E;have O:=eZ.trans E;obtain⟨e0,e1,e2,-⟩:=hAd.lT;have ho:=hon _ O;by_cases Q:d=1
  ·rw[cU Q] at ho;obtain⟨i0,Z,Y,-⟩:=m.lT;obtain⟨X,W,V,U,T,R⟩:=J.lT;go_wp2_with(first|(go_at_call 222;refine ho.mono ?_;rintro e t ⟨rfl,rfl⟩))
   have H:=af.eB wd (w.heap.size+1) (.bool neg) (.slice i f g) (.slice none 0 0)
   have key:∀W3,af wd W3 (w.heap.size+1)->Fr (aB W3 (ab w.heap.size)) (.agg #[.bool neg,.slice i f g,.slice none 0 0]) neg n dd/\aa w W3:=by
    intro W3 x;rw[<-L.out,if_pos Q]
    refine⟨⟨_,_,rfl,Sn.sub (au λ b hb hs=>⟨?_,x.old b hb ?_⟩),Cj _⟩,O.but x (by omega)⟩
    ·simp[ab] at hs⊢;omega
    ·simp at hs;omega
   exact bodyPost_ret (v:=.tuple #[.agg #[.bool neg,.slice i f g,.slice none 0 0],.int .i64 0]) (by simp[results,results191,go_sem,X,W,V]) rfl ⟨_,_,_,_,_,_,rfl,(key _ H).1,(key _ H).2⟩
  ·rw[gy Q] at ho;obtain⟨i0,Z,Y,f0,f1,f2⟩:=m.lT;go_wp2_with(first
    |(go_at_call 222;refine ho.mono ?_;rintro e t ⟨rfl,rfl⟩)
    |(go_at_call 233;refine(FA _ O).mono ?_;rintro e t ⟨z,u,y,rfl,zE,D⟩
      have hn5:=m.kept D;have hBe:=J.kept D;clear i0 Z Y f0 f1 f2 e0 e1 e2;obtain⟨i0,Z,Y,f0,f1,f2⟩:=hn5.lT;obtain⟨X,W,V,U,T,R⟩:=hBe.lT))
   have H:=af.eB (t.setCell ⟨o,2,none⟩ (.slice z u y)) (w.heap.size+1) (.bool neg) (.slice i f g) (.slice z u y)
   have N:af t (t.setCell ⟨o,2,none⟩ (.slice z u y)) o:=(af.refl _ _).setCell rfl _;have QW:=E.size;have key:∀W3,af (t.setCell ⟨o,2,none⟩ (.slice z u y)) W3 (w.heap.size+1)->Fr (aB W3 (ab w.heap.size)) (.agg #[.bool neg,.slice i f g,.slice z u y]) neg n dd/\aa w W3:=by
    intro W3 x;rw[<-L.out,if_neg Q]
    have fK:=D.size;have aky:=N.size;refine⟨⟨_,_,rfl,Sn.sub (au λ b hb hs=>⟨?_,?_⟩),zE.sub (au λ b hb hs=>⟨?_,?_⟩)⟩,((O.trans D).but N (by omega)).but x (by omega)⟩
    ·simp[ab] at hs⊢;omega
    ·simp at hs;exact((x.old b (by omega) (by omega)).trans (N.old b (by omega) hs.2)).trans (D.old b hb)
    ·have s:_<=b:=kC hs;have h1:wd.heap.size<=b:=s;simp[ab];omega
    ·have s:_<=b:=kC hs;have h1:wd.heap.size<=b:=s;have h2:=m.lt;exact(x.old b (by omega) (by omega)).trans (N.old b (by omega) (by omega))
   exact bodyPost_ret (v:=.tuple #[.agg #[.bool neg,.slice i f g,.slice z u y],.int .i64 0]) (by simp[results,results191,go_sem,X,W,V]) rfl ⟨_,_,_,_,_,_,rfl,(key _ H).1,(key _ H).2⟩
theorem Fr.rt(h:Fr w v neg n d)(hn:bn n=true)(hd:bn d=true):Rt w v neg n d:=by
 obtain⟨b,e,h1,h2,h3⟩:=h;obtain⟨a,m,c,rfl⟩:∃a m c,b= .slice a m c:=by obtain⟨a,m,c,zs,rfl,-⟩:=h2;exact⟨a,m,c,rfl⟩
 obtain⟨a',m',f,rfl⟩:∃a m c,e= .slice a m c:=by obtain⟨a,m,c,zs,rfl,-⟩:=h3;exact⟨a,m,c,rfl⟩
 exact⟨_,_,h1,Mi h2 hn,Mi h3 hd⟩
theorem vH(h:Fr w v neg n d)(hn:bn n=true)(hd:bn d=true):
 Calls prog 191 #[v] w λ e w'=>∃a1 n1 c1 a2 n2 c2,e= .returned (.tuple #[.agg #[.bool neg,.slice a1 n1 c1,.slice a2 n2 c2],.int .i64 0])/\Rt (aB w' (ab w.heap.size)) (.agg #[.bool neg,.slice a1 n1 c1,.slice a2 n2 c2]) neg n (if d=1 then 0 else d)/\aa w w':=
 (zL h hn hd).mono λ e w' ⟨a1,n1,c1,a2,n2,c2,h1,h2,h3⟩=>⟨a1,n1,c1,a2,n2,c2,h1,h2.rt hn (by
   by_cases h1:d=1
   ·rw[if_pos h1];exact cU (jt 2048)
   ·rw[if_neg h1];exact hd),h3⟩
theorem FK(w:World)(p:Bool)(a:Option Addr)(n c:Nat)(a':Option Addr)(b d:Nat):
 Calls prog 379 #[.agg #[.bool p,.slice a n c,.slice a' b d]] w λ e w'=>e= .returned (.agg #[.bool p,.slice a n c,.slice a' b d])/\aa w w':=by
 go_enter func379,ntmps379;go_wp2;generalize j:World.alloc (World.alloc w _) _=W;obtain⟨-,k,i,-⟩:=al2 j;obtain⟨h,g,f,-⟩:=k.lT;exact bodyPost_ret (v:=.agg #[.bool p,.slice a n c,.slice a' b d]) (by simp[results,results379,go_sem,h,g,f]) rfl ⟨rfl,i⟩
theorem Q3(h:Rt w v s N D)(hs:aX N D=true)(t:cL w):
 Calls prog 353 #[v,.func (.func 379) #[] #[]] w λ e w'=>∃a1 n1 c1 a2 n2 c2,e= .returned (.tuple #[.agg #[.bool (s&&decide (0<N)),.slice a1 n1 c1,.slice a2 n2 c2],.int .i64 0])/\Rt (aB w' (ab w.heap.size)) (.agg #[.bool (s&&decide (0<N)),.slice a1 n1 c1,.slice a2 n2 c2]) (s&&decide (0<N)) (rN N D) (cD N D)/\aa w w':=by
 have hr:=λ (w':World) (k:aa w w')=>lN (h.kept k) (t.kept k)
 unfold ox at hr;rw[hs] at hr;obtain⟨K,L,rfl,hn,hd⟩:=h;obtain⟨S,R,Q,zs,rfl,-⟩:=hn;obtain⟨q1,P,O,J,rfl,-⟩:=hd;have hf:bn (rN N D)=true/\bn (rD N D)=true:=by
  unfold aX at hs;simp only[fv] at hs;exact⟨hs.1.2,hs.2⟩
 have o:=λ (w':World) (v:Value) (q:Fr w' v (s&&decide (0<N)) (rN N D) (rD N D))=>vH q hf.1 hf.2;have e1:(if rD N D=1 then 0 else rD N D)=cD N D:=rfl;rw[e1] at o;generalize (s&&decide (0<N))=sg at*;generalize rN N D=rn at*;generalize rD N D=M at*;generalize cD N D=cd at*;clear t hs hf e1;go_enter func353,ntmps353;go_wp2_with(first
  |(go_at_call 155;refine(hr _ (((aa.refl w).alloc _).alloc _)).mono ?_;rintro e l ⟨p,a,n,c,a',T,Y,rfl,F,i⟩
    obtain⟨hA,H,G,X⟩:=Q2 F;have I:=Lib.hid (i rfl)
    obtain rfl:p=sg:=by
     obtain⟨_,_,e,-⟩:=i rfl;have u:=Value.agg.inj e;simp only[Array.mk.injEq,List.cons.injEq,Value.bool.injEq] at u;exact u.1
    clear i)
  |(go_at_call 379;refine(FK _ _ _ _ _ _ _ _).mono ?_;rintro e g ⟨rfl,E⟩
    have d:aa l g:=((aa.refl l).alloc _).trans E)
  |(go_at_call 191;refine(o _ _ (I.out.kept d)).mono ?_;rintro e w3 ⟨a1,n1,c1,a2,n2,c2,rfl,B,C⟩
    have f:=d.trans C;obtain⟨z,y,x,W,V,U⟩:=(H.kept f).lT))
 have r:=af.eB w3 (w.heap.size+1) (.bool p) (.slice a1 n1 c1) (.slice a2 n2 c2)
 have A:=d.size;have key:∀W3,af w3 W3 (w.heap.size+1)->Rt (aB W3 (ab w.heap.size)) (.agg #[.bool p,.slice a1 n1 c1,.slice a2 n2 c2]) p rn cd/\aa w W3:=λ W3 m=>
  ⟨B.sub (au λ b hb hs=>⟨by
    have j:_<=b:=kC hs;have h1:g.heap.size<=b:=j;simp[ab];omega,m.old b hb (by
    have j:_<=b:=kC hs;have h1:g.heap.size<=b:=j;omega)⟩),(G.trans f).but m (by omega)⟩
 exact bodyPost_ret (v:=.tuple #[.agg #[.bool p,.slice a1 n1 c1,.slice a2 n2 c2],.int .i64 0]) (by simp[results,results353,go_sem,z,y,x]) rfl ⟨_,_,_,_,_,_,rfl,(key _ r).1,(key _ r).2⟩
theorem I8(h:Rt w v s N D)(hs:aX N D=true)(f:cL w):
 Calls prog 327 #[v] w λ e w'=>∃a1 n1 c1 a2 n2 c2,e= .returned (.tuple #[.agg #[.bool (s&&decide (0<N)),.slice a1 n1 c1,.slice a2 n2 c2],.int .i64 0])/\Rt (aB w' (ab w.heap.size)) (.agg #[.bool (s&&decide (0<N)),.slice a1 n1 c1,.slice a2 n2 c2]) (s&&decide (0<N)) (rN N D) (cD N D)/\aa w w':=by
 have hc:=λ (w':World) (k:aa w w')=>Q3 (h.kept k) hs (f.kept k)
 obtain⟨q,r,rfl,hn,hd⟩:=h;obtain⟨z,y,x,zs,rfl,-⟩:=hn;obtain⟨q1,u,t,p,rfl,-⟩:=hd;generalize (s&&decide (0<N))=sg at*;generalize rN N D=rn at*;generalize cD N D=cd at*;clear f hs;go_enter func327,ntmps327;go_wp2_with(first
  |(go_at_call 353;refine(hc _ (((aa.refl w).alloc _).alloc _)).mono ?_;rintro e w3 ⟨a1,n1,c1,a2,n2,c2,rfl,l,m⟩
    obtain⟨-,o,n,E⟩:=Q2 m;obtain⟨j,i,g,C,B,A⟩:=o.lT))
 have d:=af.eB w3 (w.heap.size+1) (.bool sg) (.slice a1 n1 c1) (.slice a2 n2 c2)
 have key:∀W3,af w3 W3 (w.heap.size+1)->Rt (aB W3 (ab w.heap.size)) (.agg #[.bool sg,.slice a1 n1 c1,.slice a2 n2 c2]) sg rn cd/\aa w W3:=λ W3 c=>
  ⟨l.sub (au λ b hb hs=>⟨by
    have a:_<=b:=kC hs;simp[go_sem] at a;simp[ab];omega,c.old b hb (by
    have a:_<=b:=kC hs;simp[go_sem] at a;omega)⟩),n.but c (by omega)⟩
 exact bodyPost_ret (v:=.tuple #[.agg #[.bool sg,.slice a1 n1 c1,.slice a2 n2 c2],.int .i64 0]) (by simp[results,results327,go_sem,j,i,g]) rfl ⟨_,_,_,_,_,_,rfl,(key _ d).1,(key _ d).2⟩
structure SY(xs ys:Nat->Nat)(i:Nat)(zs:Nat->Nat)(c:Nat):Prop where
 lt:∀k,zs k<4294967296
 wI:c<=1
 eq:ak 4294967296 zs i+c*4294967296^i=ak 4294967296 xs i+ak 4294967296 ys i
theorem Oi(B:Nat)(zs:Nat->Nat)(n x:Nat):ak B (ep zs n x) (n+1)=ak B zs n+x*B^n:=by
 simp only[ak]
 rw[iU (ys:=zs) λ i hi=>by simp[ep];omega]
 simp[ep]
theorem SY.step{xs ys zs:Nat->Nat}(h:SY xs ys i zs c)(hx:xs i<4294967296)(b:ys i<4294967296):
 SY xs ys (i+1) (ep zs i ((xs i+c+ys i)%4294967296)) ((xs i+c+ys i)/4294967296):=by
 have hc:=h.wI;refine⟨λ k=>by unfold ep;split;exact Nat.mod_lt _ (by decide);exact h.lt k,by omega,?_⟩
 have e:=h.eq;have hm:=Nat.mod_add_div (xs i+c+ys i) 4294967296;rw[Oi]
 simp only[ak]
 rw[Nat.pow_succ]
 generalize (xs i+c+ys i)/4294967296=a at*;generalize (xs i+c+ys i)%4294967296=l at*;generalize 4294967296^i=P at*;have d:(xs i+c+ys i)*P=(l+4294967296*a)*P:=by rw[hm]
 grind
theorem SY.start(xs ys:Nat->Nat):SY xs ys 0 (λ _=>0) 0:=⟨λ _=>by decide,by omega,by simp[ak]⟩
theorem SY.last{xs ys zs:Nat->Nat}(h:SY xs ys i zs c):(∀k,ep zs i c k<4294967296)/\ak 4294967296 (ep zs i c) (i+1)=ak 4294967296 xs i+ak 4294967296 ys i:=
 ⟨λ k=>by unfold ep;split;have:=h.wI;omega;exact h.lt k,by rw[Oi];exact h.eq⟩
theorem Oj(w:World)(a a':Option Addr)(n g cap F:Nat)(xs ys:Nat->Nat)(hn:n<=2000)(E:g<=n)
 (D:∀i,i<n->xs i<4294967296)(A:∀i,i<g->ys i<4294967296)(hx:Ws w a n xs)(C:Ws w a' g ys)(v u:Value)
 (Q:(v= .slice a n cap/\u= .slice a' g F)∨(g<n/\v= .slice a' g F/\u= .slice a n cap)):
 Calls prog 279 #[v,u] w (eX 4294967296 (ak 4294967296 xs n+ak 4294967296 ys g) w):=by
 have s:=λ w=>run_make_row' (P:=prog) 22 191 (.int .u32 0) 4 underlying22 fO rfl .i64 .i64 (n+1) (by omega) (by omega) w;have ec:((n+1:Nat):Int)=(n:Int)+1:=by omega
 rw[ec] at s;clear ec;have I:=Lib.hid D;clear D;have G:=Lib.hid A;clear A;have J:=Lib.hid hx;clear hx;have H:=Lib.hid C;clear C;rcases Q with⟨rfl,rfl⟩|⟨M,rfl,rfl⟩
 ·have K:decide (n<g)=false:=by simp;omega
  go_enter func279,ntmps279;go_wp2;clear s;go_loopw [6,23] (λ z iv wr=>∃(k c:Nat)(zs:Nat->Nat),k<=n/\iv= .int .i64 (k:Int)/\z= .int .u64 (c:Int)/\SY xs (ext ys g) k zs c/\ly wr w.heap.size (n+1) zs/\aa w wr) (λ _ iv _=>n-(intOf iv).toNat)
  case atStart=>exact⟨0,0,λ _=>0,eo _,rfl,rfl,SY.start _ _,ly.made _ _,(aa.refl _).alloc _⟩
  case round=>
   obtain⟨k,c,zs,N,rfl,rfl,f,d,l⟩:=hrel;have O:=f.wI;by_cases p:k<n
   ·obtain⟨b,off,rfl,x⟩:=(J.out.kept l) k p;have o:=I.out k p;have h3:=d.cell (i:=k) (by omega)
    have y:=d.frozen k;by_cases h:k<g
    ·obtain⟨b',L,rfl,t⟩:=(H.out.kept l) k h;have r:=G.out k h;have j:=Lib.hid (f.step o (by simp only[ext,if_pos h];exact r))
     simp only[ext,if_pos h] at j;clear f;go_wp2;go_roundw
     case rel=>
      refine⟨k+1,(xs k+c+ys k)/4294967296,_,by omega,by go_num,by go_num,j.out,?_,l.setCell (aU _) _⟩
      have e1:(((xs k:Int)+(c:Int)+(ys k:Int))%4294967296)=(((xs k+c+ys k)%4294967296:Nat):Int):=by omega
      rw[e1]
      exact d.set _ _
     case measure=>simp[intOf];omega
    ·have j:=Lib.hid (f.step o (by simp only[ext,if_neg h];decide))
     simp only[ext,if_neg h,Nat.add_zero] at j;clear f;go_wp2;go_roundw
     case rel=>
      refine⟨k+1,(xs k+c)/4294967296,_,by omega,by go_num,by go_num,j.out,?_,l.setCell (aU _) _⟩
      have e1:(((xs k:Int)+(c:Int))%4294967296)=(((xs k+c)%4294967296:Nat):Int):=by omega
      rw[e1]
      exact d.set _ _
     case measure=>simp[intOf];omega
   ·obtain rfl:n=k:=by omega
    have h3:=d.cell (i:=n) (by omega)
    have y:=d.frozen n;have m:=f.last;rw[lW E] at m;have q:=Lib.hid m;clear m f;have ec:(c:Int)%4294967296=(c:Nat):=by omega
    go_wp2_with(go_at_call 248;first|rw[ec]|skip;refine(gO _ _ _ _ (ep zs n c) (by omega) (aU _) ((d.set n c).ws (aU _))).mono ?_;rintro e w' ⟨rfl,rfl⟩)
    go_ret;refine⟨_,rfl,?_,l.setCell (aU _) _⟩
    have:=iX (B:=4294967296) (cap:=n+1) (aU _) (λ i _=>q.out.1 i) ((d.set n c).ws (aU _))
    rw[q.out.2] at this;exact this
 ·have K:decide (g<n)=true:=by simp;omega
  go_enter func279,ntmps279;go_wp2;clear s;go_loopw [6,23] (λ z iv wr=>∃(k c:Nat)(zs:Nat->Nat),k<=n/\iv= .int .i64 (k:Int)/\z= .int .u64 (c:Int)/\SY xs (ext ys g) k zs c/\ly wr w.heap.size (n+1) zs/\aa w wr) (λ _ iv _=>n-(intOf iv).toNat)
  case atStart=>exact⟨0,0,λ _=>0,eo _,rfl,rfl,SY.start _ _,ly.made _ _,(aa.refl _).alloc _⟩
  case round=>
   obtain⟨k,c,zs,N,rfl,rfl,f,d,l⟩:=hrel;have O:=f.wI;by_cases p:k<n
   ·obtain⟨b,off,rfl,x⟩:=(J.out.kept l) k p;have o:=I.out k p;have h3:=d.cell (i:=k) (by omega)
    have y:=d.frozen k;by_cases h:k<g
    ·obtain⟨b',L,rfl,t⟩:=(H.out.kept l) k h;have r:=G.out k h;have j:=Lib.hid (f.step o (by simp only[ext,if_pos h];exact r))
     simp only[ext,if_pos h] at j;clear f;go_wp2;go_roundw
     case rel=>
      refine⟨k+1,(xs k+c+ys k)/4294967296,_,by omega,by go_num,by go_num,j.out,?_,l.setCell (aU _) _⟩
      have e1:(((xs k:Int)+(c:Int)+(ys k:Int))%4294967296)=(((xs k+c+ys k)%4294967296:Nat):Int):=by omega
      rw[e1]
      exact d.set _ _
     case measure=>simp[intOf];omega
    ·have j:=Lib.hid (f.step o (by simp only[ext,if_neg h];decide))
     simp only[ext,if_neg h,Nat.add_zero] at j;clear f;go_wp2;go_roundw
     case rel=>
      refine⟨k+1,(xs k+c)/4294967296,_,by omega,by go_num,by go_num,j.out,?_,l.setCell (aU _) _⟩
      have e1:(((xs k:Int)+(c:Int))%4294967296)=(((xs k+c)%4294967296:Nat):Int):=by omega
      rw[e1]
      exact d.set _ _
     case measure=>simp[intOf];omega
   ·obtain rfl:n=k:=by omega
    have h3:=d.cell (i:=n) (by omega)
    have y:=d.frozen n;have m:=f.last;rw[lW E] at m;have q:=Lib.hid m;clear m f;have ec:(c:Int)%4294967296=(c:Nat):=by omega
    go_wp2_with(go_at_call 248;first|rw[ec]|skip;refine(gO _ _ _ _ (ep zs n c) (by omega) (aU _) ((d.set n c).ws (aU _))).mono ?_;rintro e w' ⟨rfl,rfl⟩)
    go_ret;refine⟨_,rfl,?_,l.setCell (aU _) _⟩
    have:=iX (B:=4294967296) (cap:=n+1) (aU _) (λ i _=>q.out.1 i) ((d.set n c).ws (aU _))
    rw[q.out.2] at this;exact this
theorem Lq{u:Value}{k:Nat}(hv:Nt 4294967296 w v m)(e:Nt 4294967296 w u k)(hm:m<eV)(g:k<eV):
 Calls prog 279 #[v,u] w (eX 4294967296 (m+k) w):=by
 obtain⟨a,n,cap,xs,rfl,hc,hd,hn,rfl,hw⟩:=hv;obtain⟨a',b,d,ys,rfl,l,c,f,rfl,hw'⟩:=e;have j:=cV (.inr rfl) hn hm;have i:=cV (.inr rfl) f g;by_cases h:n<b
 ·rw[Nat.add_comm]
  exact Oj w a' a b n d cap ys xs (by omega) (by omega) c hd hw' hw _ _ (.inr ⟨h,rfl,rfl⟩)
 ·exact Oj w a a' n b cap d xs ys (by omega) (by omega) hd c hw hw' _ _ (.inl ⟨rfl,rfl⟩)
end Go.Proofs.YtbapfnpbamnmpaaGreatDoor
set_option maxRecDepth 10000
namespace Go.Proofs.YtbapfnpbamnmpaaGreatDoor
open Go Go.RowKit Go.Dig Go.Deep Go.Eng Go.Proofs.Tryz
variable{x y:Operand}{s:ByteArray}{i k n:Nat}{l:Fm}{w:World}{fn:Func}{v:Value}
section
variable{n:Nat}{l:Fm}{ops:Array Oper}{rest:List Oper}{Q:Exit->Act->World->Prop}{oi:Oper}{w:World}{d:Nat}
theorem TN(a:k<s.size)(c:oi.op= .index 9 x y)(hx:bA n l x=some (.string s))(b:bA n l y=some (.int .i64 (k:Int))):
 (execOp (ev n l) oi).run prog w= .ok (.value (.int .u8 ((bt s k:Nat):Int))) w:=by
 have hb:s[k]? =some s[k]:=by simp[a]
 unfold execOp;simp only[c,eG hx,eG b]
 simp[Instr.index,go_sem,Sem.run_bind,run_underlying underlying9 w,hb,kD a]
theorem BN{z:Operand}(hi:i<=k)(d:k<=s.size)(c:oi.op= .slice 9 x (some y) (some z) none)(hx:bA n l x=some (.string s))(b:bA n l y=some (.int .i64 (i:Int)))(a:bA n l z=some (.int .i64 (k:Int))):
 (execOp (ev n l) oi).run prog w= .ok (.value (.string (s.extract i k))) w:=by
 unfold execOp;simp only[c,eG hx,Option.map_some,eG b,eG a,Option.map_none]
 simp[Instr.slice,Instr.sliceBounds,Instr.sliceBound,go_sem,Sem.run_bind,run_underlying underlying9 w,hi,d]
theorem wL(c:k<s.size)(h:wpList prog ops Q rest (aH n (aC l d (.int .u8 ((bt s k:Nat):Int)))) w)
 (b:oi.op= .index 9 x y:=by rfl)(hx:bA n l x=some (.string s):=by rfl)(a:bA n l y=some (.int .i64 (k:Int)):=by rfl)(e:oi.guard=none:=by rfl)(hd:oi.dst=some d:=by rfl):wpList prog ops Q (oi::rest) (aH n l) w:=
 zv _ (by rw[aO];exact TN c b hx a) e hd h
theorem zss{z:Operand}(hi:i<=k)(e:k<=s.size)(h:wpList prog ops Q rest (aH n (aC l d (.string (s.extract i k)))) w)
 (c:oi.op= .slice 9 x (some y) (some z) none:=by rfl)(hx:bA n l x=some (.string s):=by rfl)(b:bA n l y=some (.int .i64 (i:Int)):=by rfl)(a:bA n l z=some (.int .i64 (k:Int)):=by rfl)(f:oi.guard=none:=by rfl)(hd:oi.dst=some d:=by rfl):wpList prog ops Q (oi::rest) (aH n l) w:=
 zv _ (by rw[aO];exact BN hi e c hx b a) f hd h
end
section
variable{n:Nat}{l:Fm}{ops:Array Oper}{rest:List Oper}{Q:Exit->Act->World->Prop}{oi:Oper}{w:World}{d:Nat}
end
def gW(p:Nat->Bool)(s:ByteArray)(i:Nat):Nat:=if h:i<s.size/\p (bt s i)=true then gW p s (i+1) else i
termination_by s.size-i
decreasing_by omega
theorem dU(p:Nat->Bool)(s:ByteArray)(i:Nat):i<=gW p s i:=by
 rw[gW]
 split
 ·rename_i h;have:=dU p s (i+1)
  omega
 ·exact aU _
termination_by s.size-i
decreasing_by omega
theorem jw{p:Nat->Bool}{s:ByteArray}{i:Nat}(h:i<=s.size):gW p s i<=s.size:=by
 rw[gW]
 split
 ·rename_i h;exact jw (by omega)
 ·exact h
termination_by s.size-i
decreasing_by omega
theorem dN{p:Nat->Bool}(h:i<s.size)(hp:p (bt s i)=true):gW p s i=gW p s (i+1):=by
 conv=>lhs;rw[gW]
 rw[dif_pos ⟨h,hp⟩]
theorem ir{p:Nat->Bool}(h:i<s.size->p (bt s i)=false):gW p s i=i:=by
 rw[gW,dif_neg]
 rintro⟨h1,h2⟩
 rw[h h1] at h2;cases h2
def aw(s:ByteArray)(i:Nat):Nat:=gW aQ s i
def Iy(c:Nat):Bool:=cE c||aQ c
def dO(s:ByteArray)(i:Nat):Nat:=gW Iy s i
def dV(s:ByteArray)(i:Nat):Nat:=if aw s i+1<s.size/\(bt s (aw s i)=46∨bt s (aw s i)=47)/\aQ (bt s (aw s i+1))=true then aw s (aw s i+1) else aw s i
theorem XA(s:ByteArray)(i:Nat):i<=dV s i:=by
 unfold dV;have h1:i<=aw s i:=dU _ _ _;have h2:aw s i+1<=aw s (aw s i+1):=dU _ _ _;split<;>omega
theorem wH(h:i<=s.size):dV s i<=s.size:=by
 unfold dV;split
 ·rename_i h;exact jw (by omega)
 ·exact jw h
def DL(t:ByteArray):Bool:=(t.toList==[112,105])||(t.toList==[97,98,115])||(t.toList==[109,105,110])||(t.toList==[109,97,120])||(t.toList==[114,111,111,116])||(t.toList==[115,113,114,116])||(t.toList==[105,102])||(t.toList==[105,110,102])||(t.toList==[102,111,114])||(t.toList==[105,110])||(t.toList==[119,104,101,114,101])
theorem sJ(t:ByteArray):cg ji t=(cg aW t||DL t):=by rw[sW];rfl
def fX(t:ByteArray):Option Nat:=if cg aW t=true then some 2 else if DL t=true then some 3 else if bV t=true then some 1 else none
def wG(cF:Bool)(c:Nat):Bool:=(c==43)||(c==45)||(c==42)||(c==47)||(c==94)||(c==40)||(c==41)||(c==44)||(cF&&((c==60)||(c==62)||(c==91)||(c==93)))
def gX(cF:Bool)(s:ByteArray)(i:Nat):Option (Nat×Nat):=
 if aQ (bt s i)=true then some (0,dV s i)
 else if cE (bt s i)=true then(fX (s.extract i (dO s i))).map λ k=>(k,dO s i)
 else if cF=true/\(bt s i=60∨bt s i=62)/\i+1<s.size/\bt s (i+1)=61 then some (3,i+2)
 else if wG cF (bt s i)=true then some (3,i+1) else none
theorem jg{c:Bool}{e:Nat}(hi:i<s.size)(h:gX c s i=some (k,e)):i<e/\e<=s.size:=by
 unfold gX at h;split at h
 ·rename_i hd;simp only[Option.some.injEq,Prod.mk.injEq] at h;obtain⟨-,rfl⟩:=h;refine⟨?_,wH (Nat.le_of_lt hi)⟩
  have h1:aw s i=aw s (i+1):=dN hi hd;have h2:i+1<=aw s (i+1):=dU _ _ _;unfold dV;have h3:aw s i+1<=aw s (aw s i+1):=dU _ _ _;split<;>omega
 ·split at h
  ·rename_i b;rw[Option.map_eq_some_iff] at h;obtain⟨a,-,h⟩:=h;simp only[Prod.mk.injEq] at h;obtain⟨-,rfl⟩:=h;have h1:dO s i=dO s (i+1):=dN hi (by unfold Iy;rw[b];rfl)
   have h2:i+1<=dO s (i+1):=dU _ _ _;exact⟨by omega,jw (Nat.le_of_lt hi)⟩
  ·split at h
   ·simp only[Option.some.injEq,Prod.mk.injEq] at h;omega
   ·split at h
    ·simp only[Option.some.injEq,Prod.mk.injEq] at h;omega
    ·cases h
structure aS where
 kind:Nat
 text:ByteArray
 at':Nat
instance:Inhabited aS:=⟨⟨0,⟨#[]⟩,0⟩⟩
def aP(cF:Bool)(s:ByteArray)(i:Nat):List aS×Option Nat:=
 if _h:i<s.size then
  if bt s i=32 then aP cF s (i+1)
  else match _hl:gX cF s i with
   |none=>([],some i)
   |some (k,e)=>(⟨k,s.extract i e,i⟩::(aP cF s e).1,(aP cF s e).2)
 else([],none)
termination_by s.size-i
decreasing_by
 ·omega
 ·have:=jg _h _hl;omega
theorem jQ{a:Bool}(h:s.size<=i):aP a s i=([],none):=by
 rw[aP,dif_neg (by omega)]
theorem fw{a:Bool}(h:i<s.size)(hb:bt s i=32):aP a s i=aP a s (i+1):=by
 conv=>lhs;rw[aP]
 rw[dif_pos h,if_pos hb]
theorem jD{b:Bool}(h:i<s.size)(hb:bt s i≠32)(c:gX b s i=none):aP b s i=([],some i):=by
 rw[aP,dif_pos h,if_neg hb]
 split
 ·rfl
 ·rename_i a;rw[c] at a;cases a
theorem gp{b:Bool}{e:Nat}(h:i<s.size)(hb:bt s i≠32)(c:gX b s i=some (k,e)):aP b s i=(⟨k,s.extract i e,i⟩::(aP b s e).1,(aP b s e).2):=by
 conv=>lhs;rw[aP]
 rw[dif_pos h,if_neg hb]
 split
 ·rename_i a;rw[c] at a;cases a
 ·rename_i d f a;rw[c] at a;cases a
  rfl
theorem fE{d:Nat}{ty t1:TypeId}{p1:Tmp}{g1:Nat}{V1:Array Value}{R:Ending->World->Prop}(c:aD w g1 V1 t1)(v1:dY ty V1)(hR:R (.returned (.tuple #[.agg V1,v])) w)
 (h:fn.results=#[.cell p1 ty,.tmp d]:=by rfl)(a:bA n l (.tmp p1)=some (.pointer (some ⟨g1,0,none⟩)):=by rfl)(hv:bA n l (.tmp d)=some v:=by rfl)(b:(prog.underlying ty).map TypeDesc.isRow=some true:=by kernel_rfl):bodyPost prog fn R .ret (aH n l) w:=by
 refine bodyPost_ret ?_ rfl hR;have e0:=bK hv;have e1:=bK a;simp only[Array.getD_eq_getD_getElem?] at e0 e1;simp[results,h,e0,e1,asAddr,c.loadVar v1 b]
def ZR:Array Value:=#[.bool false,.slice none 0 0,.slice none 0 0]
theorem Ig{B:Nat}{m:Nat}(h:Nt B w v m):∃a n c,v= .slice a n c:=by obtain⟨a,n,cap,_,e,_⟩:=h;exact⟨a,n,cap,e⟩
def Mj(f:Nat):Prop:=∀{w:World}{v:Value}{t:aj},Ex w f v t->cY t->cL w->
    Calls prog 251 #[v] w λ e w'=>∃v',e= .returned v'/\Ex (aB w' (ab w.heap.size)) f v' (cR t)/\aa w w'
theorem Xy{w':World}{g:Nat}(k:af w w' g)(h:w.heap.size<=g):aa w w':=(aa.refl w).but k h
theorem akz{W:World}{g:Nat}{e:TypeId}{y0 y1 y2 y3 y4 y5 y6 x2 x3 x4:Value}(hb:aD w g #[y0,y1,y2,y3,y4,y5,y6] e)
 (h:((w.setCell ⟨g,2,none⟩ x2).setCell ⟨g,3,none⟩ x3).setCell ⟨g,4,none⟩ x4=W):af w W g/\aD W g #[y0,y1,x2,x3,x4,y5,y6] e:=by
 subst h;have a:=((hb.set 2 x2).set 3 x3).set 4 x4;exact⟨(((af.refl w g).setCell rfl _).setCell rfl _).setCell rfl _,by simpa using a⟩
theorem Mk{f:Nat}(ih:Mj f):Mj (f+1):=by
 intro w v t h M hT;obtain⟨op,arg,s,N,D,name,kids⟩:=t;obtain⟨x1,x2,x3,x4,x5,x6,a,cap,rfl,hcp,hn,hr⟩:=h.shape;have hn3:kids.length<=3:=Qy M.1;have akA:=Lib.hid (λ (i:Nat) (hi:i<kids.length)=>h.kid hi)
 have HIH:=Lib.hid (λ (i:Nat) (hi:i<kids.length) (w':World) (k:aa w w') (u:Value) (q:Ex w' f u kids[i])=>ih q (Ck M.2 i hi) (hT.kept k))
 obtain⟨N',L⟩:∃N',N'=(if op=1 then rN N D else 0):=⟨_,rfl⟩
 obtain⟨D',d⟩:∃D',D'=(if op=1 then cD N D else 0):=⟨_,rfl⟩
 have akB:Hid (cR (.node op arg s N D name kids)= .node op arg false N' D' name (di kids)):=Lib.hid (by rw[cR,L,d])
 rcases Bool.eq_false_or_eq_true (op==1) with t1|t1
 case' inl=>
  have h1:op=1:=by simpa using t1
  obtain⟨pK,-⟩:=TJ M.1 h1;have U:(s&&decide (0<N))=false:=by
   have h2:=M.1;unfold bJ at h2;simp only[fv,if_pos h1] at h2;have h3:=h2.2.1.2;rcases Bool.eq_false_or_eq_true (s&&decide (0<N)) with h7|h7<;>rw[h7] at h3⊢
   cases h3
  have FI:=λ (w':World) (k:aa w w')=>I8 (hr.kept k) pK (hT.kept k)
  rw[U] at FI;rw[if_pos h1] at L d;rw[<-L,<-d] at FI;clear h M hT hr pK U h1;have hA0:=aD.new w #[.int .i64 op,.int .i64 arg,.bool s,.slice x1 x2 x3,.slice x4 x5 x6,.string name,.slice a kids.length cap] 27;go_enter func251,ntmps251;go_wp2_with(first
   |(go_at_call 327;refine(FI _ (((aa.refl w).alloc _).alloc _)).mono ?_;rintro e w3 ⟨y,x,r,p,n,m,rfl,QL,dF⟩
     obtain⟨C,hB3,Y,V⟩:=Q2 dF;obtain⟨e0,e1,e2,e3,e4,e5,e6,l0,l1,l2,l3,l4,l5,l6⟩:=C.jK))
  clear e0 e1 e2 e3 e4 e5 e6 l0 l1 l2 l3 l4 l5 l6;generalize Su:World.setCell (World.setCell (World.setCell w3 _ _) _ _) _ _=W0;obtain⟨T,hA⟩:=akz C Su;have hB:=hB3.ai T (by omega)
  have TK:aa w W0:=Y.but T (aU _)
  have DA:w.heap.size+2<=W0.heap.size:=jP V T.size;have B:Rt (aB W0 (ab (w.heap.size+2))) (.agg #[.bool false,.slice y x r,.slice p n m]) false N' D':=QL.sub (au λ b hb hs=>⟨by
   have O:_<=b:=kC hs;simp[go_sem] at O;simp[ab];omega,T.old b hb (by
   have O:_<=b:=kC hs;simp[go_sem] at O;omega)⟩)
  clear FI hA0 Su T C hB3 QL dF Y V
 case' inr=>
  have h1:¬op=1:=by simpa using t1
  rw[if_neg h1] at L d;clear h M hT hr h1;go_enter func251,ntmps251;go_wp2;generalize Su:World.alloc (World.alloc w _) _=W0;obtain⟨hA,hB,TK,hs⟩:=al2 Su;have DA:w.heap.size+2<=W0.heap.size:=Nat.le_of_eq hs.symm;obtain⟨y,x,r,p,n,m,A⟩:∃(y:Option Addr)(x r:Nat)(p:Option Addr)(n m:Nat),(y=none/\x=0/\r=0)/\p=none/\n=0/\m=0:=⟨_,_,_,_,_,_,⟨rfl,rfl,rfl⟩,rfl,rfl,rfl⟩
  have B:Rt (aB W0 (ab (w.heap.size+2))) (.agg #[.bool false,.slice y x r,.slice p n m]) false N' D':=by
   obtain⟨⟨rfl,rfl,rfl⟩,rfl,rfl,rfl⟩:=A;rw[L,d]
   exact mP _
  replace hA:aD W0 w.heap.size #[.int .i64 op,.int .i64 arg,.bool false,.slice y x r,.slice p n m,.string name,.slice a kids.length cap] 27:=by
   obtain⟨⟨rfl,rfl,rfl⟩,rfl,rfl,rfl⟩:=A;exact hA
  clear Su A hs
 all_goals
  clear L d;have HRT:=Lib.hid B;clear B;go_loopw [3,21] (λ v i wr=>∃(k:Nat)(a3:Option Addr)(j:Nat)(cs:List Value),k<=kids.length/\v= .slice a3 k j/\i= .int .i64 (k:Int)/\Hid (fW W0 wr W0.heap.size 27 7 (.slice a3 k j) k cs (DD f) (di kids))) (λ _ i _=>kids.length-(intOf i).toNat)
  case atStart=>exact⟨0,none,0,[],eo _,rfl,rfl,Lib.hid (fW.start ..)⟩
  case round=>
   obtain⟨k,a3,j,cs,DI,rfl,rfl,R⟩:=hrel;have X:aa W0 wr:=Xy R.out.kb (aU _)
   have l:=TK.trans X;by_cases aI:k<kids.length
   ·obtain⟨b,off,o,g,z,u1,u2,u3,u4,u5,u6,nm,a2,n2,jE,rfl,c0,c1,c2,c3,c4,c5,c6,hex⟩:=akA.out k aI;replace c0:=l.cell c0;replace c1:=l.cell c1;replace c2:=l.cell c2;replace c3:=l.cell c3;replace c4:=l.cell c4;replace c5:=l.cell c5;replace c6:=l.cell c6;have xU:aa wr (wr.alloc (.cells #[.int .i64 o,.int .i64 g,.bool z,.slice u1 u2 u3,.slice u4 u5 u6,.string nm,.slice a2 n2 jE] 27)):=(aa.refl wr).alloc _;have hc:=HIH.out k aI _ (l.trans xU) _ (hex.kept (l.trans xU))
    have HOB:=Lib.hid (λ g (hg:(Value.slice a3 k j).ownBlock=some g)=>World.ownsRow.lt R.out.own g hg)
    have afn:W0.heap.size<=wr.heap.size:=R.out.kb.size;have arY:(wr.alloc (.cells #[.int .i64 o,.int .i64 g,.bool z,.slice u1 u2 u3,.slice u4 u5 u6,.string nm,.slice a2 n2 jE] 27)).heap.size=wr.heap.size+1:=Array.size_push _;clear hex;go_wp2_with(first
     |(go_at_call 251;refine hc.mono ?_;rintro e w3 ⟨v3',rfl,sV,wD⟩
       obtain⟨K,P,F,v1,v2,J,I,H,G,c,a4,n4,Q,rfl⟩:=sV.Lj;have dF:aa wr w3:=xU.trans wD;have arZ:=wD.size;have iO:aa w3 (w3.alloc (.cells #[.int .i64 K,.int .i64 P,.bool F,.slice v1 v2 J,.slice I H G,.string c,.slice a4 n4 Q] 27)):=(aa.refl w3).alloc _;have E:=Lib.hid (R.out.kept (By f) (dF.trans iO))
       have HN:=Lib.hid (aD.new w3 #[.int .i64 K,.int .i64 P,.bool F,.slice v1 v2 J,.slice I H G,.string c,.slice a4 n4 Q] 27)
       have HV3:=Lib.hid (sV.sub (jS iO))
       have W:W0.heap.size<=(w3.alloc (.cells #[.int .i64 K,.int .i64 P,.bool F,.slice v1 v2 J,.slice I H G,.string c,.slice a4 n4 Q] 27)).heap.size:=by have:=iO.size;omega)
     |(at_builtin;have hg:=E;refine dh (w:=(w3.alloc (.cells #[.int .i64 K,.int .i64 P,.bool F,.slice v1 v2 J,.slice I H G,.string c,.slice a4 n4 Q] 27))) rfl (.tmp 25) (.tmp 28) 25 rfl SX underlying25 rfl (by decide) (by decide) W0.heap.size W _ k cs rfl E.out.own ⟨w3.heap.size,0,none⟩ 1 1 [.int .i64 K,.int .i64 P,.bool F,.slice v1 v2 J,.slice I H G,.string c,.slice a4 n4 Q] rfl rfl (pR HN.out) (by intro u hu;simp only[List.mem_cons,List.mem_nil_iff,or_false] at hu;rcases hu with rfl|rfl|rfl|rfl|rfl|rfl|rfl<;>rfl) (by decide) (by omega) ?_;intro v5' w5 ho AT QA;obtain⟨a5,afp,rfl,-,-,-⟩:=bI ho
       have HG5:Hid (fW W0 w5 W0.heap.size 27 7 (.slice a5 (k+1) afp) (k+1) (cs++[.int .i64 K,.int .i64 P,.bool F,.slice v1 v2 J,.slice I H G,.string c,.slice a4 n4 Q]) (DD f) (di kids)):=Lib.hid (E.out.append (By f) W ho AT QA rfl (by rw[kN];exact aI) (S:=ab (wr.alloc (.cells #[.int .i64 o,.int .i64 g,.bool z,.slice u1 u2 u3,.slice u4 u5 u6,.string nm,.slice a2 n2 jE] 27)).heap.size) (by
        have h9:=HV3.out;have e:(di kids)[k]'(by rw[kN];exact aI)=cR kids[k]:=by simp only[ug,List.getElem_map]
        rw[e]
        exact h9) (λ b hb=>by
        have h1:(wr.alloc (.cells #[.int .i64 o,.int .i64 g,.bool z,.slice u1 u2 u3,.slice u4 u5 u6,.string nm,.slice a2 n2 jE] 27)).heap.size<=b:=kC hb;refine⟨by omega,λ he=> ?_⟩
        have:=(HOB.out b he.symm).2;omega))))
    go_roundw
    case rel=>exact⟨k+1,a5,afp,_,by omega,rfl,by go_num,HG5⟩
    case measure=>simp[intOf];omega
   ·have Z:k=kids.length:=by omega
    subst Z;obtain⟨e0,e1,e2,e3,e4,e5,e6,l0,l1,l2,l3,l4,l5,l6⟩:=(hA.kept X).jK;obtain⟨d0,d1,d2,d3,d4,d5,d6,m0,m1,m2,m3,m4,m5,m6⟩:=(hB.kept X).jK;go_wp2;have oL:=af.st7 (wr.setCell ⟨w.heap.size,6,none⟩ (.slice a3 kids.length j)) (w.heap.size+1) (.int .i64 op) (.int .i64 arg) (.bool false) (.slice y x r) (.slice p n m) (.string name) (.slice a3 kids.length j)
    have FJ:af wr (wr.setCell ⟨w.heap.size,6,none⟩ (.slice a3 kids.length j)) w.heap.size:=(af.refl _ _).setCell rfl _;have key:∀W3,af (wr.setCell ⟨w.heap.size,6,none⟩ (.slice a3 kids.length j)) W3 (w.heap.size+1)->Ex (aB W3 (ab w.heap.size)) (f+1) (.agg #[.int .i64 op,.int .i64 arg,.bool false,.slice y x r,.slice p n m,.string name,.slice a3 kids.length j]) (cR (.node op arg s N D name kids))/\aa w W3:=by
     intro W3 Z;rw[akB.out]
     have afn:=X.size;have aky:=FJ.size;have hold:∀b,b<wr.heap.size->w.heap.size+2<=b->W3.heap[b]? =wr.heap[b]? :=λ b hb h2=>(Z.old b (by omega) (by omega)).trans (FJ.old b hb (by omega))
     have kA:W3.ownsRow W0.heap.size 27 7 (.slice a3 kids.length j) kids.length cs:=yp (yp R.out.own FJ (by omega)) Z (by omega)
     have jT:=R.out.rows;rw[List.take_of_length_le (by rw[kN];exact aU _)] at jT;refine⟨Ex.row rfl (λ b hb=>by simp[ab];omega) (HRT.out.sub (au λ b hb hs=>⟨?_,?_⟩)) kA (jT.mono (By f _ _ (au λ b hb hs=>⟨?_,?_⟩))) (by omega) (kN kids).symm,(l.but FJ (aU _)).but Z (by omega)⟩
     ·have O:w.heap.size+2<=b:=kC hs;simp[ab];omega
     ·have O:w.heap.size+2<=b:=kC hs;exact(hold b (by omega) O).trans (X.old b hb)
     ·simp[S1] at hs;simp[ab];omega
     ·simp[S1] at hs;exact hold b hb (by omega)
    exact bodyPost_ret (v:=.agg #[.int .i64 op,.int .i64 arg,.bool false,.slice y x r,.slice p n m,.string name,.slice a3 kids.length j]) (by simp[results,results251,go_sem,d0,d1,d2,d3,d4,d5,d6]) rfl ⟨_,rfl,(key _ oL).1,(key _ oL).2⟩
theorem xe:∀(f:Nat),Mj f
 |0=>λ h _ _=>h.elim
 |f+1=>Mk (xe f)
def TM(t:aj)(f:Nat)(w:World)(e:Ending)(w':World):Prop:=
 (if t.ok=true then ∃r,e= .returned (.tuple #[r,.int .i64 0])/\Ex (aB w' (ab w.heap.size)) f r (cR t)
 else e= .returned (.tuple #[IH,.int .i64 4]))/\aa w w'
theorem DM{f:Nat}{t:aj}(h:Ex w f v t)(K:cL w):Calls prog 157 #[v] w (TM t f w):=by
 have hv:=λ (w':World) (k:aa w w')=>iN (h.kept k) (K.kept k)
 have hc:=λ (ho:t.ok=true) (w':World) (k:aa w w')=>xe f (h.kept k) (fc ho) (K.kept k)
 obtain⟨o,g,z,x1,x2,x3,x4,x5,x6,nm,a,n,cap,rfl⟩:=h.Lj;clear h K;have Q:Hid (∀e w',TM t f w e w'↔(if t.ok=true then ∃r,e= .returned (.tuple #[r,.int .i64 0])/\Ex (aB w' (ab w.heap.size)) f r (cR t) else e= .returned (.tuple #[IH,.int .i64 4]))/\aa w w'):=Lib.hid λ _ _=>Iff.rfl;generalize Z:TM t f w=RR at*;clear Z;rcases Bool.eq_false_or_eq_true t.ok with c|c
 ·rw[c] at hv;replace hc:=hc c;have M:=Lib.hid c;clear c;go_enter func157,ntmps157;go_wp2_with(first
   |(go_at_call 77;refine(hv _ (((aa.refl w).alloc _).alloc _)).mono ?_;rintro e d ⟨rfl,J⟩
     obtain⟨hA,L,i,Y⟩:=Q2 J;obtain⟨e0,e1,e2,e3,e4,e5,e6,-⟩:=hA.jK)
   |(go_at_call 251;refine(hc _ i).mono ?_;rintro e w3 ⟨r,rfl,N,O⟩
     obtain⟨B,q1,A,y,x,u,s,q,p,m,ya,l,yc,rfl⟩:=N.Lj;obtain⟨I,H,G,F,E,D,C,X,W,V,U,T,S,R⟩:=(L.kept O).jK))
  have j:=af.st7 w3 (w.heap.size+1) (.int .i64 B) (.int .i64 q1) (.bool A) (.slice y x u) (.slice s q p) (.string m) (.slice ya l yc)
  have key:∀W3,af w3 W3 (w.heap.size+1)->Ex (aB W3 (ab w.heap.size)) f (.agg #[.int .i64 B,.int .i64 q1,.bool A,.slice y x u,.slice s q p,.string m,.slice ya l yc]) (cR t)/\aa w W3:=λ W3 P=>
   ⟨N.sub (au λ b hb hs=>⟨by
     have h0:d.heap.size<=b:=kC hs;simp[ab];omega,P.old b hb (by
     have h0:d.heap.size<=b:=kC hs;omega)⟩),(i.trans O).but P (by omega)⟩
  refine bodyPost_ret (v:=.tuple #[.agg #[.int .i64 B,.int .i64 q1,.bool A,.slice y x u,.slice s q p,.string m,.slice ya l yc],.int .i64 0]) (by simp[results,results157,go_sem,I,H,G,F,E,D,C]) rfl ?_;rw[Q.out,if_pos M.out]
  exact⟨⟨_,rfl,(key _ j).1⟩,(key _ j).2⟩
 ·rw[c] at hv;clear hc;have M:=Lib.hid c;clear c;go_enter func157,ntmps157;go_wp2_with(first
   |(go_at_call 77;refine(hv _ (((aa.refl w).alloc _).alloc _)).mono ?_;rintro e d ⟨rfl,J⟩
     obtain⟨hA,L,i,Y⟩:=Q2 J;obtain⟨I,H,G,F,E,D,C,X,W,V,U,T,S,R⟩:=L.jK))
  have j:=af.st7 d (w.heap.size+1) (.int .i64 0) (.int .i64 0) (.bool false) (.slice none 0 0) (.slice none 0 0) (.string ⟨#[]⟩) (.slice none 0 0)
  refine bodyPost_ret (v:=.tuple #[IH,.int .i64 4]) (by simp[IH,results,results157,go_sem,I,H,G,F,E,D,C]) rfl ?_;rw[Q.out,if_neg (by rw[M.out];simp)]
  exact⟨rfl,i.but j (by omega)⟩
theorem lJ{z:Bool}{x1:Option Addr}{x2 x3:Nat}{x4:Option Addr}{x5 x6:Nat}:dY 217 #[.bool z,.slice x1 x2 x3,.slice x4 x5 x6]:=⟨by kernel_rfl,by simp[Value.oneCell']⟩
theorem fR{R:Ending->World->Prop}(hR:∀v,R (.returned v) w)(h:fn.results=#[]:=by rfl):bodyPost prog fn R .normal (aH n l) w:=
 ⟨rfl,.tuple #[],by simp[results,h],hR _⟩
section
variable{n:Nat}{l:Fm}{ops:Array Oper}{rest:List Oper}{Q:Exit->Act->World->Prop}{oi:Oper}{w:World}{d:Nat}{ds:List Deferred}
end
theorem aiS{t u:Tmp}{x:Value}(h:fn.results=#[.tmp t,.tmp u])(h1:bA n l (.tmp t)=some v)(h2:bA n l (.tmp u)=some x):(results fn (aH n l).tmps).run prog w= .ok (.tuple #[v,x]) w:=by
 have e1:=bK h1;have a:=bK h2;simp only[Array.getD_eq_getD_getElem?] at e1 a;simp[results,h,e1,a]
end Go.Proofs.YtbapfnpbamnmpaaGreatDoor
