/- A part of the proof that the text which Print makes of a parsed text is a normal form -/
import Derived.Test.YtbapfnpbamnmpaaGreatDoorP00
import Derived.Test.YtbapfnpbamnmpaaGreatDoorP22
import Derived.Test.YtbapfnpbamnmpaaGreatDoorP01
import Derived.Test.YtbapfnpbamnmpaaGreatDoorP21
import Derived.Tactics
import Derived.Maps.Views
import Derived.Sort.KeysCollected
import Derived.Test.YtbapfnpbamnmpaaGreatDoorP07
import Derived.Maps.OwnSet
import Derived.WalkSpells
set_option maxHeartbeats 8000000
set_option maxRecDepth 100000
namespace Go.Proofs.YtbapfnpbamnmpaaGreatDoor
open Go Go.RowKit Go.Dig Go.Deep Go.Eng Go.Proofs.Tryz
variable{l:List aL}{D N bx cap f j k n:Nat}{w w':World}{a:Option Addr}{v:Value}{arg:Int}{s:Bool}{name:ByteArray}{H:Type}{ss:List ByteArray}
section
open Go Go.RowKit Go.Dig Go.Shelf
attribute [local go_sem] Oper.semAt_some
theorem RY(F:Fence)(hd:F.depth=none)(d:F.fn 311)(c:F.fn 312)(i:F.round=none)(l j:Nat)(w0:World)(f:Nat)(x:Nv)(L:List Nv)(y:Lst w0 f x L)(J g:List Nv->World->Prop)
 (z:∀pre W o,J pre W->J pre (W.alloc o))(n:Nat)
 (w:∀pre x W,J pre W->pre.length<L.length->YieldAt F (n-1) prog l #[Nv.val x] W λ e W'=>
   (e= .returned (.bool true)/\J (pre++[x]) W'/\KC w0.heap.size W W')∨(e= .returned (.bool false)/\g (pre++[x]) W'))
 (W:World)(A:Below w0.heap.size w0 W)(u:aD W j #[.int .i64 x.op,.int .i64 x.arg,.bool x.s,.slice x.x1 x.x2 x.x3,.slice x.x4 x.x5 x.x6,.string x.name,.slice x.a x.n x.cap] 27)(B:J [] W):
 CallsIn F n prog 311 #[.func (.yield l) #[] #[],.pointer (some ⟨j,0,none⟩)] W λ e W'=>(∃v,e= .returned v)/\
  ((∃ys,ys=L/\J ys W')∨(∃pre,pre<+:L/\g pre W')):=by
 have hdd:∀k:Nat,(F.depth.isSome=true->1<=k):=λ k h=>by rw[hd] at h;cases h
 have hp:=PW F hd c i l L.length w0 J g z (λ m pre x W t r=>J7 hd m (w pre x W t r)) f x L y (n-1) [] W A B (by simp)
 obtain⟨E,c1,c2,c3,c4,D,C,-⟩:=u.jK;dsimp only[Nv.val] at hp;refine callsIn_of_wp func311 rfl d ?_ i;simp only[ntmps311,List.size_toArray,nK,List.length_nil,Nat.reduceAdd,Nat.reduceSub,Array.replicate_succ,Array.replicate_zero,List.push_toArray,List.append_toArray,List.nil_append,List.cons_append]
 gi_wp2_with ((try refine⟨hdd _,?_⟩);gi_at_call 312;refine hp.mono ?_;clear hp;rintro e W1 (⟨rfl,b,_⟩|⟨rfl,q,p,hx⟩))
 ·go_end0;exact⟨⟨_,rfl⟩,.inl ⟨_,rfl,by simpa using b⟩⟩
 ·go_end0;exact⟨⟨_,rfl⟩,.inr ⟨q,p,by simpa using hx⟩⟩
theorem Vf(F:Fence)(n:Nat)(b:F.fn 229)(c:F.round=none)(x:Nv)(w:World):
 CallsIn F n prog 229 #[.agg #[.int .i64 x.op,.int .i64 x.arg,.bool x.s,.slice x.x1 x.x2 x.x3,.slice x.x4 x.x5 x.x6,.string x.name,.slice x.a x.n x.cap]] w λ e w'=>e= .returned (.func (.func 311) #[] #[.pointer (some ⟨w.heap.size,0,none⟩)])/\
  w'=w.alloc (.cells #[.int .i64 x.op,.int .i64 x.arg,.bool x.s,.slice x.x1 x.x2 x.x3,.slice x.x4 x.x5 x.x6,.string x.name,.slice x.a x.n x.cap] 27):=by
 have d:∀(fn:Fn)(first cap:Array Value)(w:World),(Instr.makeFunc fn first cap).run prog w= .ok (.func fn first cap) w:=λ _ _ _ _=>rfl;refine callsIn_of_wp func229 rfl b ?_ c;simp only[ntmps229,List.size_toArray,nK,List.length_nil,Nat.reduceAdd,Nat.reduceSub,Array.replicate_succ,Array.replicate_zero,List.push_toArray,List.append_toArray,List.nil_append,List.cons_append]
 gi_wp2
 go_ret;exact⟨rfl,rfl⟩
theorem J8(F:Fence)(hd:F.depth=none)(n:Nat)(c:F.fn 311)(b:F.fn 312)(k:F.round=none)(d:Nat)(w0:World)(f:Nat)(x:Nv)(L:List Nv)(p:Lst w0 f x L)(w:World)(j:Below w0.heap.size w0 w)
 (g:aD w d #[.int .i64 x.op,.int .i64 x.arg,.bool x.s,.slice x.x1 x.x2 x.x3,.slice x.x4 x.x5 x.x6,.string x.name,.slice x.a x.n x.cap] 27):
 SeqStopsK F n prog 311 #[.pointer (some ⟨d,0,none⟩)] (λ x:Nv=>#[x.val]) (KC w0.heap.size) (λ ys=>ys=L) (λ pre=>pre<+:L) L.length w:=λ l J u W i q _ m t=>
 RY F hd c b k l d w0 f x L p J u (λ pre W o h=>q pre W _ none h (World.grownBy_alloc W o none) (λ r e=>by cases e)) n m W (j.trans (i.mono j.size)) ((pF i).old _ g.lt |>.trans g) t
theorem RZ{n₀:Nat}(W:World)(l:Nat)(o o':Obj)(hn:n₀<=l)(h:W.heap[l]? =some o)(ho:o.isCells=false):KC n₀ W (W.putObj l o'):=
 ⟨(Below.refl n₀ W).grown (grownBy_putObj' W l o') (by have:=(Array.getElem?_eq_some_iff.1 h).1;omega) (λ k e=>by cases e;omega),
  λ b a hb hc=>by
   by_cases e:b=l
   ·subst e;rw[h] at hb;cases hb;rw[ho] at hc;cases hc
   ·exact((grownBy_putObj' W l o').block b (Array.getElem?_eq_some_iff.1 hb).1 (λ h=>e (by cases h;rfl))).trans hb⟩
end
instance:Inhabited aL:=⟨⟨.empty,⟨false,0,0,false,0,0,false,false⟩⟩⟩
def fF(l:List aL)(k:Nat):Bool:=bV (l.getD k default).name&&(k==0||Op.bytesLess (l.getD (k-1) default).name.toList (l.getD k default).name.toList)&&(l.getD k default).iv.fine&& !(l.getD k default).iv.void
def iV(l:List aL):Bool:=decide (l.length<=6)&&(List.range l.length).all (fF l)
theorem RW(h:6<l.length):iV l=false:=by unfold iV;simp;omega
theorem ni(a:k<l.length)(h:fF l k=false):iV l=false:=by
 unfold iV;have:(List.range l.length).all (fF l)=false:=by
  rw[List.all_eq_false]
  exact⟨k,List.mem_range.2 a,by simp[h]⟩
 rw[this,Bool.and_false]
theorem BA(b:l.length<=6)(h:∀k,k<l.length->fF l k=true):iV l=true:=by
 unfold iV;have:(List.range l.length).all (fF l)=true:=by
  rw[List.all_eq_true]
  exact λ k a=>h k (List.mem_range.1 a)
 rw[this,Bool.and_true];simpa using b
theorem jB(h:k<l.length):l.getD k default=l[k]:=by simp[List.getD,h]
theorem J2(h:k<l.length)(hn:bV l[k].name=false):fF l k=false:=by
 unfold fF;rw[jB h,hn];rfl
theorem G8(h:j+1<l.length)(hn:Op.bytesLess l[j].name.toList l[j+1].name.toList=false):fF l (j+1)=false:=by
 unfold fF;rw[Nat.add_sub_cancel,jB h,jB (Nat.lt_of_succ_lt h),hn];simp
theorem uC(h:k<l.length)(hn:(l[k].iv.fine&& !l[k].iv.void)=false):fF l k=false:=by
 unfold fF;rw[jB h,Bool.and_assoc,hn,Bool.and_false]
theorem J3(h:0<l.length)(h1:bV l[0].name=true)(h2:l[0].iv.fine=true)(h3:l[0].iv.void=false):fF l 0=true:=by
 unfold fF;rw[jB h,h1,h2,h3];rfl
theorem J4(h:j+1<l.length)(h1:bV l[j+1].name=true)(h2:l[j+1].iv.fine=true)(h3:l[j+1].iv.void=false)
 (hn:Op.bytesLess l[j].name.toList l[j+1].name.toList=true):fF l (j+1)=true:=by
 unfold fF;rw[Nat.add_sub_cancel,jB h,jB (Nat.lt_of_succ_lt h),h1,h2,h3,hn];simp
theorem G9(h:AS w a n cap l)(hT:cL w):
 Calls prog 76 #[.slice a n cap] w λ e w'=>e= .returned (.bool (iV l))/\aa w w':=by
 obtain⟨rfl,hc,BM,hi⟩:=h;by_cases N:6<l.length
 ·have Z:decide (6<(l.length:Int))=true:=by simp;omega
  go_enter func76,ntmps76;go_wp2;go_ret;exact⟨by rw[RW N];rfl,aa.refl w⟩
 have Z:decide (6<(l.length:Int))=false:=by simp;omega
 go_enter func76,ntmps76;go_wp2;go_loopw [12] (λ s wr=>∃k:Nat,k<=l.length/\s= .int .i64 (k:Int)/\(∀j,j<k->fF l j=true)/\aa w wr) (λ s _=>l.length-(intOf s).toNat)
 case atStart=>exact⟨0,eo _,rfl,λ j h=>absurd h (Nat.not_lt_zero j),aa.refl w⟩
 case round=>
  obtain⟨k,hk,rfl,Q,m⟩:=hrel;have D:=Lib.hid Q;clear Q;have H6:Hid (l.length<=6):=Lib.hid (by omega)
  by_cases g:k<l.length
  ·obtain⟨b,off,s1,a1,n1,c1,a2,n2,c2,s2,a3,n3,c3,a4,n4,c4,p,q,rfl,P,h1,h2,h3,X,W,N,V,U,hv⟩:=hi k g;have x:Hid (∃u iv,l[k].name=u/\l[k].iv=iv):=Lib.hid ⟨_,_,rfl,rfl⟩
   have c:=λ (w':World) (S:aa w w')=>uT (hv.kept S) (hT.kept S)
   clear hv;obtain⟨u,iv,O,z⟩:=x.out;clear x;rw[O] at P;rw[z] at c;have x:=Lib.hid O;clear O;have d:=Lib.hid z;clear z;replace P:=m.cell P;replace h1:=m.cell h1;replace h2:=m.cell h2;replace h3:=m.cell h3;replace X:=m.cell X;replace W:=m.cell W;replace N:=m.cell N;replace V:=m.cell V;replace U:=m.cell U;have fZ:=aD.new wr #[.string u,.bool s1,.slice a1 n1 c1,.slice a2 n2 c2,.bool s2,.slice a3 n3 c3,.slice a4 n4 c4,.bool p,.bool q] 41;have r:aa w (wr.alloc (.cells #[.string u,.bool s1,.slice a1 n1 c1,.slice a2 n2 c2,.bool s2,.slice a3 n3 c3,.slice a4 n4 c4,.bool p,.bool q] 41)):=m.alloc _;have HI:=Lib.hid hi;clear hi;have A:=λ (w':World)=>ph w' u;go_wp2_with fail
   obtain⟨p0,M,L,K,J,I,H,G,F,_⟩:=fZ.ab6;generalize (wr.alloc (.cells #[.string u,.bool s1,.slice a1 n1 c1,.slice a2 n2 c2,.bool s2,.slice a3 n3 c3,.slice a4 n4 c4,.bool p,.bool q] 41))=y at*;generalize wr.heap.size=v at*;have a0:=λ (k:KW y)=>k.kept.cell p0;have T:∀w',aa y w'->w'.cell? ⟨v,1,none⟩=some (.bool s1)/\w'.cell? ⟨v,2,none⟩=some (.slice a1 n1 c1)/\w'.cell? ⟨v,3,none⟩=some (.slice a2 n2 c2)/\w'.cell? ⟨v,4,none⟩=some (.bool s2)/\
    w'.cell? ⟨v,5,none⟩=some (.slice a3 n3 c3)/\w'.cell? ⟨v,6,none⟩=some (.slice a4 n4 c4)/\w'.cell? ⟨v,7,none⟩=some (.bool p)/\w'.cell? ⟨v,8,none⟩=some (.bool q):=
    λ w' k=>⟨k.cell M,k.cell L,k.cell K,k.cell J,k.cell I,k.cell H,k.cell G,k.cell F⟩
   have Y:=Lib.hid T;clear T M L K J I H G F;cases C:bV u
   ·rw[C] at A;refine ag y (aa.refl _) (by kernel_rfl) (by kernel_rfl) ?_;repeat (go_big_quiet_step (first|(go_at_call 148;exact aG (A _))))
    refine wpQuiet_nil ?_;rintro _ ⟨f,rfl⟩
    go_wp2;go_ret;exact⟨by rw[ni g (J2 g (by rw[x.out];exact C))];rfl,r.trans f.kept⟩
   rw[C] at A;by_cases eZ:k=0
   ·subst eZ;refine ag y (aa.refl _) (by kernel_rfl) (by kernel_rfl) ?_;repeat (go_big_quiet_step (first|(go_at_call 148;exact aG (A _))))
    refine wpQuiet_nil ?_;rintro _ ⟨f,rfl⟩
    obtain⟨M,L,K,J,I,H,G,F⟩:=Y.out _ f.kept;have c:=c _ (r.trans f.kept)
    cases hf:iv.fine
    ·rw[hf] at c;go_wp2_with(go_at_call 149;refine c.mono ?_;rintro e w3 ⟨rfl,o⟩)
     go_ret;exact⟨by rw[ni g (uC g (by rw[d.out,hf];rfl))];rfl,(r.trans f.kept).trans o⟩
    cases t:iv.void
    ·rw[hf,t] at c;go_wp2_with(go_at_call 149;refine c.mono ?_;rintro e w3 ⟨rfl,o⟩)
     go_roundw
     case rel=>exact⟨1,by omega,by go_num,λ j hj=>by obtain rfl:j=0:=by omega
                                                     exact J3 g (by rw[x.out];exact C) (by rw[d.out];exact hf) (by rw[d.out];exact t),(r.trans f.kept).trans o⟩
     case measure=>simp[intOf];omega
    ·rw[hf,t] at c;go_wp2_with(go_at_call 149;refine c.mono ?_;rintro e w3 ⟨rfl,o⟩)
     go_ret;exact⟨by rw[ni g (uC g (by rw[d.out,hf,t];rfl))];rfl,(r.trans f.kept).trans o⟩
   obtain⟨j,rfl⟩:∃j,k=j+1:=⟨k-1,by omega⟩
   obtain⟨b',fJ,s1',a1',n1',c1',a2',M3,bU,s2',a3',n3',c3',a4',n4',c4',p',q',e',M4,-⟩:=HI.out j (by omega)
   cases e'
   generalize B:l[j].name=nj at*;have E:=Lib.hid B;clear B;have b1':=λ (k:KW y)=>k.kept.cell (r.cell M4)
   have tk:decide (0<(j:Int)+1)=true:=by simp
   cases R:Op.bytesLess nj.toList u.toList
   ·refine ag y (aa.refl _) (by kernel_rfl) (by kernel_rfl) ?_;repeat (go_big_quiet_step (first|(go_at_call 148;exact aG (A _))))
    refine wpQuiet_nil ?_;rintro _ ⟨f,rfl⟩
    go_wp2;go_ret;exact⟨by rw[ni g (G8 g (by rw[x.out,E.out];exact R))];rfl,r.trans f.kept⟩
   ·refine ag y (aa.refl _) (by kernel_rfl) (by kernel_rfl) ?_;repeat (go_big_quiet_step (first|(go_at_call 148;exact aG (A _))))
    refine wpQuiet_nil ?_;rintro _ ⟨f,rfl⟩
    obtain⟨M,L,K,J,I,H,G,F⟩:=Y.out _ f.kept;have c:=c _ (r.trans f.kept)
    cases hf:iv.fine
    ·rw[hf] at c;go_wp2_with(go_at_call 149;refine c.mono ?_;rintro e w3 ⟨rfl,o⟩)
     go_ret;exact⟨by rw[ni g (uC g (by rw[d.out,hf];rfl))];rfl,(r.trans f.kept).trans o⟩
    cases t:iv.void
    ·rw[hf,t] at c;go_wp2_with(go_at_call 149;refine c.mono ?_;rintro e w3 ⟨rfl,o⟩)
     go_roundw
     case rel=>exact⟨j+1+1,by omega,by go_num,λ i Od=>by
                                                   by_cases h:i<j+1
                                                   ·exact D.out i h
                                                   ·obtain rfl:i=j+1:=by omega
                                                    exact J4 g (by rw[x.out];exact C) (by rw[d.out];exact hf) (by rw[d.out];exact t) (by rw[x.out,E.out];exact R),(r.trans f.kept).trans o⟩
     case measure=>simp[intOf];omega
    ·rw[hf,t] at c;go_wp2_with(go_at_call 149;refine c.mono ?_;rintro e w3 ⟨rfl,o⟩)
     go_ret;exact⟨by rw[ni g (uC g (by rw[d.out,hf,t];rfl))];rfl,(r.trans f.kept).trans o⟩
  ·obtain rfl:l.length=k:=by omega
   clear hi;go_wp2;go_ret;exact⟨by rw[BA H6.out D.out];rfl,m⟩
theorem Ws.sub{zs:Nat->Nat}(h:Ws w a n zs)(k:nT w w'):Ws w' a n zs:=λ i hi=>by
 obtain⟨b,off,e,hc⟩:=h i hi;exact⟨b,off,e,k _ _ hc⟩
theorem Raw.sub{m:Nat}(h:Raw w v m)(k:nT w w'):Raw w' v m:=by
 obtain⟨a,n,cap,zs,h1,h2,h3,d,c,b⟩:=h;exact⟨a,n,cap,zs,h1,h2,h3,d,c,b.sub k⟩
theorem Rt.sub{neg:Bool}(h:Rt w v neg N D)(k:nT w w'):Rt w' v neg N D:=by
 obtain⟨a,b,h1,h2,h3⟩:=h;exact⟨a,b,h1,h2.sub k,h3.sub k⟩
theorem AR.sub{i:im}(h:AR w v i)(k:nT w w'):AR w' v i:=by
 obtain⟨a,n,c,a',d,f,b,m,e,b',m',e',h1,h2,h3⟩:=h;exact⟨a,n,c,a',d,f,b,m,e,b',m',e',h1,h2.sub k,h3.sub k⟩
theorem Ex.sub(k:nT w w'):∀(f:Nat){v:Value}{t:aj},Ex w f v t->Ex w' f v t
 |0,_,_,h=>h.elim
 |f+1,v,.node op arg s N D name kids,⟨x1,x2,x3,x4,x5,x6,a,cap,hv,hc,hr,hn,c⟩=>by
  refine⟨x1,x2,x3,x4,x5,x6,a,cap,hv,hc,hr.sub k,hn,λ i h=> ?_⟩
  obtain⟨b,off,cs,ha,hs,e,he⟩:=c i h;refine⟨b,off,cs,ha,hs,λ j d=> ?_,Ex.sub k f he⟩
  have h1:=e j d;rw[Array.getElem?_eq_getElem (by omega)] at h1⊢;exact k _ _ h1
theorem AS.sub(h:AS w a n cap l)(k:nT w w'):AS w' a n cap l:=by
 obtain⟨hn,hc,hb,hi⟩:=h;refine⟨hn,hc,hb,λ i h=> ?_⟩
 obtain⟨b,off,s1,a1,n1,c1,a2,n2,c2,s2,a3,n3,c3,a4,n4,c4,p,q,ha,j,h1,h2,h3,g,f,e,d,c,hv⟩:=hi i h;exact⟨b,off,s1,a1,n1,c1,a2,n2,c2,s2,a3,n3,c3,a4,n4,c4,p,q,ha,k _ _ j,k _ _ h1,k _ _ h2,k _ _ h3,k _ _ g,k _ _ f,k _ _ e,k _ _ d,k _ _ c,hv.sub k⟩
theorem Ex.Lj:∀{f:Nat}{v:Value}{t:aj},Ex w f v t->∃(o g:Int)(z:Bool)(x1:Option Addr)(x2 x3:Nat)(x4:Option Addr)(x5 x6:Nat)(nm:ByteArray)(a:Option Addr)(n cap:Nat),
 v= .agg #[.int .i64 o,.int .i64 g,.bool z,.slice x1 x2 x3,.slice x4 x5 x6,.string nm,.slice a n cap]
 |0,_,_,h=>h.elim
 |f+1,v,.node op arg s N D name kids,h=>by
  obtain⟨x1,x2,x3,x4,x5,x6,a,cap,rfl,-⟩:=h.shape;exact⟨op,arg,s,x1,x2,x3,x4,x5,x6,name,a,kids.length,cap,rfl⟩
theorem Ex.own{t:aj}(h:Ex w f v t):∃V,v= .agg V/\dY 27 V:=by
 obtain⟨o,g,z,x1,x2,x3,x4,x5,x6,nm,a,n,cap,rfl⟩:=h.Lj;exact⟨_,rfl,nX⟩
theorem Ex.DD{op:Int}{kids:List aj}{y1 y2 y3 y4 y5:Value}{c:Value}
 (h:Ex w (f+1) (.agg #[y1,y2,y3,y4,y5,c,.slice a n cap]) (.node op arg s N D name kids)){i:Nat}(hi:i<kids.length):
 ∃b off V,a=some ⟨b,off,none⟩/\w.rangeAt b (off+i*7) (Array.toList V)/\dY 27 V/\Ex w f (.agg V) kids[i]:=by
 obtain⟨b,off,o,g,z,q,p,m,l,k,e,nm,a2,n2,r,h1,x,c1,c2,c3,c4,u,t,hex⟩:=h.kid hi;refine⟨b,off,_,h1,λ j v hv=> ?_,nX,hex⟩
 rcases(show j=0∨j=1∨j=2∨j=3∨j=4∨j=5∨j=6∨7<=j by omega) with rfl|rfl|rfl|rfl|rfl|rfl|rfl|d<;>first
  |(injection hv with hv;subst hv;assumption)
  |(rw[List.getElem?_eq_none (by simpa using d)] at hv;cases hv)
theorem AS.row(h:AS w a n cap l){i:Nat}(hi:i<l.length):∃b off a1 n1 c1 a2 n2 c2 a3 n3 c3 a4 n4 c4,a=some ⟨b,off,none⟩/\
 w.rangeAt b (off+i*9) [.string l[i].name,.bool l[i].iv.s1,.slice a1 n1 c1,.slice a2 n2 c2,.bool l[i].iv.s2,.slice a3 n3 c3,.slice a4 n4 c4,.bool l[i].iv.li,.bool l[i].iv.hi]/\
 Rt w (.agg #[.bool l[i].iv.s1,.slice a1 n1 c1,.slice a2 n2 c2]) l[i].iv.s1 l[i].iv.N1 l[i].iv.D1/\Rt w (.agg #[.bool l[i].iv.s2,.slice a3 n3 c3,.slice a4 n4 c4]) l[i].iv.s2 l[i].iv.N2 l[i].iv.D2:=by
 obtain⟨b,off,s1,a1,n1,c1,a2,n2,c2,s2,a3,n3,c3,a4,n4,c4,p,q,ha,D,h1,h2,h3,C,B,A,z,y,u,e,o,t,x,E,s,d,m,r,c,k,he,hr,f⟩:=h.2.2.2 i hi;have he:=Value.agg.inj he;simp only[Array.mk.injEq,List.cons.injEq,Value.bool.injEq,Value.slice.injEq,and_true] at he;obtain⟨rfl,⟨rfl,rfl,rfl⟩,⟨rfl,rfl,rfl⟩,rfl,⟨rfl,rfl,rfl⟩,⟨rfl,rfl,rfl⟩,rfl,rfl⟩:=he;refine⟨b,off,_,_,_,_,_,_,_,_,_,_,_,_,ha,λ j v hv=> ?_,hr,f⟩
 rcases(show j=0∨j=1∨j=2∨j=3∨j=4∨j=5∨j=6∨j=7∨j=8∨9<=j by omega) with rfl|rfl|rfl|rfl|rfl|rfl|rfl|rfl|rfl|g<;>first
  |(injection hv with hv;subst hv;assumption)
  |(rw[List.getElem?_eq_none (by simpa using g)] at hv;cases hv)
theorem wrap_small{x:Int}(a:0<=x)(h1:x<4611686018427387904):IntKind.i64.wrap x=x:=by
 have h2:((2:Int)^64)=18446744073709551616:=by decide
 have h3:((2:Int)^63)=9223372036854775808:=by decide
 simp[IntKind.wrap,IntKind.bits,IntKind.signed]
 omega
theorem OS{xt:TypeId}{x y:Operand}(h:j<4611686018427387904):(do eqGuard .sub xt x y (.int .i64 ((j+1:Nat):Int)) (.int .i64 1);binOp .sub xt (.int .i64 ((j+1:Nat):Int)) (.int .i64 1):Sem Value).run prog w= .ok (.int .i64 (j:Int)) w:=by
 go_simp;exact wrap_small (by omega) (by omega)
def og(l:List aL)(vs:List ByteArray):Bool:=vs.all λ x=>decide (0<=cH l 0 x)
theorem Nz{vs ts:List ByteArray}(h:∀x,x∈ts↔x∈vs):og l ts=og l vs:=by
 rw[Bool.eq_iff_iff]
 unfold og;rw[List.all_eq_true,List.all_eq_true]
 exact⟨λ h1 x hx=>h1 x ((h x).2 hx),λ h1 x hx=>h1 x ((h x).1 hx)⟩
section
open Go Go.RowKit Go.Dig Go.Shelf
theorem J9{op:Int}(h:bJ op arg s N D name n=true):name.size<=8:=by
 unfold bJ at h;simp only[fv,oh] at h;obtain⟨_,h⟩:=h;split at h
 ·simp only[fv,oh] at h;have:=h.2;omega
 ·simp only[fv,oh] at h;obtain⟨_,h⟩:=h;split at h
  ·unfold bV at h;simp only[fv,oh] at h;exact h.1.1
  ·have:=kC h;omega
theorem NB(h:bJ 2 arg s N D name n=true):n=0:=by
 unfold bJ iq at h;simp at h;omega
mutual
def Ka:aj->Prop
 | .node op _ _ _ _ name kids=>name.size<=8/\(op=2->kids.length=0)/\PY kids
def PY:List aj->Prop
 |[]=>True
 |t::ts=>Ka t/\PY ts
end
mutual
theorem Kd:∀(t:aj)(d m m':Nat),mX t d m=some m'->Ka t
 | .node op arg s N D name kids,d,m,m'=>by
   intro h;rw[mX] at h;split at h
   ·cases h
   ·rename_i hc;have a:bJ op arg s N D name kids.length=true:=by
     cases hx:bJ op arg s N D name kids.length
     ·exact absurd (.inr (.inr hx)) hc
     ·rfl
    exact⟨J9 a,λ h2=>by subst h2;exact NB a,EO kids (d+1) (m+1) m' h⟩
theorem EO:∀(ts:List aj)(d m m':Nat),ik ts d m=some m'->PY ts
 |[],_,_,_=>λ _=>trivial
 |t::ts,d,m,m'=>by
  intro h;rw[ik] at h;cases h1:mX t d m with
  |none=>rw[h1] at h;cases h
  |some a=>rw[h1] at h;exact⟨Kd t d m a h1,EO ts d a m' h⟩
end
theorem aj.Bh{t:aj}(h:t.ok=true):Ka t:=by
 unfold aj.ok at h;obtain⟨m,hm⟩:=Option.isSome_iff_exists.1 h;exact Kd _ _ _ _ hm
theorem EP:∀{ts:List aj},PY ts->∀i(h:i<ts.length),Ka ts[i]
 |t::ts,a,0,_=>a.1
 |t::ts,a,i+1,h=>EP a.2 i (by simpa using h)
def fB(L:List Nv):List ByteArray:=L.flatMap λ x=>if x.op=2 then [x.name] else []
theorem Da(a b:List Nv):fB (a++b)=fB a++fB b:=by simp[fB]
theorem Db{ls:Nat->List Nv}:∀{kids:List aj}(k:Nat),(∀i(h:i<kids.length),k<=i+k/\fB (ls (i+k))=cZ kids[i]/\(ls (i+k)).length=tO kids[i])->
 fB ((List.range' k kids.length).flatMap ls)=mq kids/\((List.range' k kids.length).flatMap ls).length=tP kids
 |[],k,_=>by simp[fB,mq,tP]
 |t::ts,k,h=>by
  have a:=h 0 (by simp)
  have ih:=Db (ls:=ls) (kids:=ts) (k+1) (λ i hi=>by
   have:=h (i+1) (by simpa using hi)
   rw[show i+1+k=i+(k+1) by omega] at this;exact⟨by omega,by simpa using this.2⟩)
  simp only[lp,List.getElem_cons_zero] at a;rw[show(t::ts).length=ts.length+1 from rfl,List.range'_succ,List.flatMap_cons,Da,ih.1,a.2.1,mq,gJ,ih.2,a.2.2,tP]
  exact⟨rfl,rfl⟩
theorem Vg:∀(f:Nat){w:World}{v:Value}{t:aj},Ex w f v t->Ka t->∃(x:Nv)(L:List Nv),v=x.val/\Lst w f x L/\L.length=tO t/\fB L=cZ t
 |0,_,_,_,h=>h.elim
 |f+1,w,v,.node op arg s N D name kids,h=>by
  intro r;obtain⟨g1,g2,g3⟩:=r;obtain⟨x1,x2,x3,x4,x5,x6,a,cap,rfl,hc,hn,hr⟩:=h.shape;have c:∀i,i<kids.length->∃L:List Nv,∃b off y,a=some ⟨b,off,none⟩/\Nv.At w b (off+i*7) y/\Lst w f y L/\∀h:i<kids.length,L.length=tO kids[i]/\fB L=cZ kids[i]:=by
   intro i hi;obtain⟨b,off,o,g,z,S,R,Q,P,O,M,nm,a',T,U,rfl,B,c1,c2,c3,c4,A,u,hex⟩:=h.kid hi;obtain⟨y,L,hv,d,q,p⟩:=Vg f hex (EP g3 i hi)
   refine⟨L,b,off,y,rfl,?_,d,λ _=>⟨q,p⟩⟩
   obtain⟨C,ya,ys,K,J,I,H,G,F,m,n,E,yc,k⟩:=y;simp only[Nv.val,Value.agg.injEq,Array.mk.injEq,List.cons.injEq,Value.int.injEq,Value.bool.injEq,Value.slice.injEq,Value.string.injEq,true_and,and_true] at hv;obtain⟨rfl,rfl,rfl,⟨rfl,rfl,rfl⟩,⟨rfl,rfl,rfl⟩,rfl,rfl,rfl,rfl⟩:=hv;exact⟨B,c1,c2,c3,c4,A,u⟩
  clear h;refine⟨⟨op,arg,s,x1,x2,x3,x4,x5,x6,name,a,kids.length,cap,g1⟩,_,rfl,⟨λ i=>if h:i<kids.length then Classical.choose (c i h) else [],rfl,hn,λ i hi=> ?_⟩,?_⟩
  ·obtain⟨b,off,y,e,j,d,-⟩:=Classical.choose_spec (c i hi)
   exact⟨b,off,y,e,j,by show Lst w f y (dite (i<kids.length) _ _);rw[dif_pos (show i<kids.length from hi)];exact d⟩
  ·have hf:=Db (ls:=λ i=>if h:i<kids.length then Classical.choose (c i h) else []) (kids:=kids) 0 (λ i hi=>by
    obtain⟨b,off,y,e,j,d,hx⟩:=Classical.choose_spec (c i hi)
    refine⟨eo _,?_⟩
    rw[Nat.add_zero,dif_pos hi]
    exact⟨(hx hi).2,(hx hi).1⟩)
   rw[<-List.range_eq_range'] at hf;refine⟨?_,?_⟩
   ·rw[nK,hf.2,tO]
   ·have e:∀(x:Nv)(l:List Nv),fB (x::l)=(if x.op=2 then [x.name] else [])++fB l:=λ _ _=>rfl;rw[e,hf.1,cZ]
    by_cases h2:op=2
    ·rw[if_pos h2,if_pos h2]
     have:=g2 h2;obtain rfl:kids=[]:=List.eq_nil_of_length_eq_zero this;simp[mq]
    ·rw[if_neg h2,if_neg h2];rfl
theorem R2{es:List (Lit×DataW H)}(hs:∀p∈es,∃x,p.1= .string x)(s:List UInt8)(d:DataW H):
 ∃b,(DataW.map es).put (.string s) d= .map b/\(∀p∈b,∃x,p.1= .string x)/\∀x,x∈strKeys (.map b)↔x∈strKeys (.map es)∨x=s:=by
 have a:∀p∈es,((!p.1.sameKey (.string s))=true↔p.1≠.string s):=by
  intro p hp;obtain⟨y,c⟩:=hs p hp;rw[c]
  simp[Lit.sameKey]
 refine⟨_,rfl,?_,?_⟩
 ·intro p hp;rcases ChangeMaps.mem_insert_iff.1 hp with rfl|hp
  ·exact⟨s,rfl⟩
  ·exact hs p (List.mem_filter.1 hp).1
 ·intro x;show x∈List.map _ _↔x∈List.map _ _∨_;simp only[List.mem_map]
  constructor
  ·rintro⟨p,hp,rfl⟩
   rcases ChangeMaps.mem_insert_iff.1 hp with rfl|hp
   ·exact .inr rfl
   ·exact .inl ⟨p,(List.mem_filter.1 hp).1,rfl⟩
  ·rintro(⟨p,hp,rfl⟩|rfl)
   ·by_cases e:p.1= .string s
    ·exact⟨(.string s,d),ChangeMaps.mem_insert_iff.2 (.inl rfl),by rw[e]⟩
    ·exact⟨p,ChangeMaps.mem_insert_iff.2 (.inr (List.mem_filter.2 ⟨hp,(a p hp).2 e⟩)),rfl⟩
   ·exact⟨(.string x,d),ChangeMaps.mem_insert_iff.2 (.inl rfl),rfl⟩
def qB{H:Type}(L:List Nv):DataW H:=L.foldl (λ D x=>if x.op=2 then D.put (.string x.name.data.toList) (.lit (.bool true)) else D) (.map [])
theorem NC(L:List Nv)(x:Nv):qB (H:=H) (L++[x])=if x.op=2 then(qB L).put (.string x.name.data.toList) (.lit (.bool true)) else qB L:=by simp[qB]
theorem vZ:∀(L:List Nv)(es:List (Lit×DataW H)),(∀p∈es,∃x,p.1= .string x)->
 ∃a,L.foldl (λ D x=>if x.op=2 then D.put (.string x.name.data.toList) (.lit (.bool true)) else D) (DataW.map es)= .map a/\∀x,x∈strKeys (.map a)↔x∈strKeys (.map es)∨x∈(fB L).map λ s=>s.data.toList
 |[],es,_=>⟨es,rfl,λ x=>by simp[fB]⟩
 |y::L,es,hs=>by
  rw[List.foldl_cons]
  have e:fB (y::L)=(if y.op=2 then [y.name] else [])++fB L:=rfl;by_cases h2:y.op=2
  ·rw[if_pos h2]
   obtain⟨f,h1,g,b⟩:=R2 hs y.name.data.toList (.lit (.bool true))
   rw[h1]
   obtain⟨a,d,c⟩:=vZ L f g;refine⟨a,d,λ x=> ?_⟩
   rw[c,b,e,if_pos h2,List.map_append,List.mem_append,or_assoc]
   simp
  ·rw[if_neg h2]
   obtain⟨a,d,c⟩:=vZ L es hs;refine⟨a,d,λ x=> ?_⟩
   rw[c,e,if_neg h2,List.nil_append]
theorem Dc(L:List Nv)(x:List UInt8):x∈strKeys (qB (H:=H) L)↔x∈(fB L).map λ s=>s.data.toList:=by
 obtain⟨a,h,hm⟩:=vZ (H:=H) L [] (λ p hp=>by cases hp)
 unfold qB;rw[h,hm]
 simp[strKeys]
end
section
open Go Go.RowKit Go.Dig Go.Shelf Go.Maps Go.Sort
attribute [local go_sem] Oper.semAt_some
theorem acG(m:Nat):AnyZ.SortsIn prog Tryz.Ab Fence.wide m:=
 ⟨λ bw off cap a W d c b=>callsIn_wide.2 (AnyM.slices_Sort_string Tryz.aam bw off cap a W d c b),
  λ p cap W=>callsIn_wide.2 (AnyM.slices_Sort_string_none Tryz.aam p cap W)⟩
theorem ND(n:Nat)(a:Option Nat)(W:World):CallsIn Fence.wide n prog 231 #[.map a] W λ e w'=>e= .returned (.func (.func 315) #[] #[.pointer (some ⟨W.heap.size,0,none⟩)])/\w'=W.alloc (.cells #[.map a] 291):=
 AnyZ.keys_in Tryz.aal Fence.wide n trivial rfl a W
theorem Hb(b i:Nat)(d:DataW H)(R:Value->Option (DataW H×List MemPlace))(w:World)(j:w.ownsMap prog 9 R b i d)(g:Maps.size d<=maxLen)(h:Maps.size d*16<=140737488355328):
 CallsIn Fence.wide 5 prog 230 #[.func (.func 315) #[] #[.pointer (some ⟨w.heap.size,0,none⟩)]] (w.alloc (.cells #[.map (some b)] 291)) λ e w'=>∃(v:Value)(a:List (List UInt8)),e= .returned v/\a.Perm (strKeys d)/\
  w'.ownsRow w.heap.size 9 1 v a.length ((a.mergeSort (λ x y=>decide (x<=y))).map encStr)/\Below w.heap.size w w':=by
 have n:=j.lt;have f:SeqGives Fence.wide 2 prog 315 #[.pointer (some ⟨w.heap.size,0,none⟩)] encStr (λ a=>a.Perm (strKeys d)) (Maps.size d) (w.alloc (.cells #[.map (some b)] 291)):=
  AnyZ.keys_gives (ρ:=Tryz.EM) {Tryz.aal with} Fence.wide _ trivial rfl (by omega) w.heap.size b i d _ (by simp) (by simp) (by
   obtain⟨es,c,hb,p,hs,o⟩:=j;exact⟨es,c,(Below.heap_alloc _ _ b n).trans hb,p,hs,o⟩)
 have k:=AnyZ.sorted_in Tryz.YM Fence.wide 5 trivial trivial trivial trivial rfl (by omega) (acG _) (enters_of func314 (by kernel_rfl) rfl) 315 #[.pointer (some ⟨w.heap.size,0,none⟩)] trivial (enters_of func315 (by kernel_rfl) rfl) _ _ g h _ f;change CallsIn _ _ prog 230 _ _ _ at k;refine k.mono ?_;rintro e w' ⟨v,a,rfl,hS,l,m,hb⟩
 exact⟨v,a,rfl,hS,ownsRow_base_a l (by simp),((Below.refl _ w).alloc (aU _) _).trans (hb.mono (by simp))⟩
end
section
open Go Go.RowKit Go.Dig Go.Shelf Go.Maps Go.Sort
attribute [local go_sem] Oper.semAt_some
theorem Hc(D:DataW H):(strKeys D).length=Maps.size D:=by
 cases D<;>simp[strKeys,Maps.size]
theorem NF{ss:List (List UInt8)}{L:List Nv}(hS:ss.Perm (strKeys (qB (H:=H) L)))(z:ByteArray):
 z∈((ss.mergeSort λ x y=>decide (x<=y)).map λ l=>(⟨l.toArray⟩:ByteArray))↔z∈fB L:=by
 rw[List.mem_map]
 constructor
 ·rintro⟨l,b,rfl⟩
  have h1:=(Dc L l).1 (hS.mem_iff.1 ((List.mergeSort_perm ss _).mem_iff.1 b))
  obtain⟨s,hs,rfl⟩:=List.mem_map.1 h1;exact hs
 ·intro a;refine⟨z.data.toList,(List.mergeSort_perm ss _).mem_iff.2 (hS.mem_iff.2 ((Dc L _).2 (List.mem_map.2 ⟨z,a,rfl⟩))),rfl⟩
theorem NG{s:ByteArray}(h:s.size<=8):keyOf prog 9 (.string s)=some (.string s.data.toList):=by
 have h2:s.data.size<=8:=h;simp[keyOf,underlying9,mapKey]
 exact jP h2 (by unfold maxLen;decide)
theorem R3{t:aj}(h:Ex w f v t)(hT:cL w)(G:t.ok=true):
 Calls prog 136 #[v] w λ e w'=>∃a n cap ts,e= .returned (.tuple #[.slice a n cap,.int .i64 0])/\SL w' a n ts/\n<=cap/\n<=300/\(∀x,x∈ts↔x∈cZ t)/\aa w w':=by
 obtain⟨x,L,rfl,hL,B,vw⟩:=Vg f h (aj.Bh G)
 have B:L.length<=300:=by have:=aj.U9 G;omega
 have hmm:= @run_makeMap prog;have I:aa w (w.alloc (.cells #[.int .i64 x.op,.int .i64 x.arg,.bool x.s,.slice x.x1 x.x2 x.x3,.slice x.x4 x.x5 x.x6,.string x.name,.slice x.a x.n x.cap] 27)):=(aa.refl w).alloc _;have hv:=iN (h.kept I) (hT.kept I)
 have U:=aD.new w #[.int .i64 x.op,.int .i64 x.arg,.bool x.s,.slice x.x1 x.x2 x.x3,.slice x.x4 x.x5 x.x6,.string x.name,.slice x.a x.n x.cap] 27;rw[G] at hv;clear h G;dsimp only[Nv.val] at hv⊢;refine(callsIn_wide (n:=6)).1 ?_;refine callsIn_of_wp_marks func136 rfl trivial ?_ rfl;simp only[ntmps136,List.size_toArray,nK,List.length_nil,Nat.reduceAdd,Nat.reduceSub,Array.replicate_succ,Array.replicate_zero,List.push_toArray,List.append_toArray,List.nil_append,List.cons_append]
 gi_wp2_with (first
  |(refine⟨trivial,?_⟩;gi_at_call 77;refine(callsIn_wide.2 hv).mono ?_;rintro e d ⟨rfl,S⟩;obtain⟨c0,c1,c2,c3,c4,c5,c6,-⟩:=(U.kept (S.trans (((aa.refl d).alloc (.map #[] 0)).alloc (.cells #[.map (some d.heap.size)] 291)))).jK)
  |(refine⟨trivial,?_⟩;gi_at_call 229;refine(Vf Fence.wide _ trivial rfl x _).mono ?_;rintro e q ⟨rfl,rfl⟩))
 have Z:=(aD.new ((d.alloc (.map #[] 0)).alloc (.cells #[.map (some d.heap.size)] 291)) #[.int .i64 x.op,.int .i64 x.arg,.bool x.s,.slice x.x1 x.x2 x.x3,.slice x.x4 x.x5 x.x6,.string x.name,.slice x.a x.n x.cap] 27)
 have DK:=((World.ownsMap_made d prog 9 (plainElem (H:=Nat) prog 4)).alloc (.cells #[.map (some d.heap.size)] 291)).alloc (.cells #[.int .i64 x.op,.int .i64 x.arg,.bool x.s,.slice x.x1 x.x2 x.x3,.slice x.x4 x.x5 x.x6,.string x.name,.slice x.a x.n x.cap] 27)
 have V:=(Boxed.new (d.alloc (.map #[] 0)) 291 (.map (some d.heap.size))).alloc (.cells #[.int .i64 x.op,.int .i64 x.arg,.bool x.s,.slice x.x1 x.x2 x.x3,.slice x.x4 x.x5 x.x6,.string x.name,.slice x.a x.n x.cap] 27)
 simp only[World.size_alloc] at Z V;have C:aa d (((d.alloc (.map #[] 0)).alloc (.cells #[.map (some d.heap.size)] 291)).alloc (.cells #[.int .i64 x.op,.int .i64 x.arg,.bool x.s,.slice x.x1 x.x2 x.x3,.slice x.x4 x.x5 x.x6,.string x.name,.slice x.a x.n x.cap] 27)):=(((aa.refl d).alloc _).alloc _).alloc _;have M:(((d.alloc (.map #[] 0)).alloc (.cells #[.map (some d.heap.size)] 291)).alloc (.cells #[.int .i64 x.op,.int .i64 x.arg,.bool x.s,.slice x.x1 x.x2 x.x3,.slice x.x4 x.x5 x.x6,.string x.name,.slice x.a x.n x.cap] 27)).heap.size=d.heap.size+3:=by simp
 obtain⟨W0,Su⟩:∃W0,((d.alloc (.map #[] 0)).alloc (.cells #[.map (some d.heap.size)] 291)).alloc (.cells #[.int .i64 x.op,.int .i64 x.arg,.bool x.s,.slice x.x1 x.x2 x.x3,.slice x.x4 x.x5 x.x6,.string x.name,.slice x.a x.n x.cap] 27)=W0:=⟨_,rfl⟩
 rw[Su] at Z DK V C M⊢;clear Su;have TK:=(I.trans S).trans C;have atA:=(I.trans S).size;generalize atB:d.heap.size=i at*;have F:Below w.heap.size w W0:=DY TK;have afn:=TK.size;refine wpIn_rangeFunc_ownH rfl (by omega) (gf:=311) (lb:=#[.pointer (some ⟨i+1+1,0,none⟩)]) rfl trivial (enters_of func311 (by kernel_rfl) rfl)
  (J8 Fence.wide rfl 5 trivial trivial rfl (i+1+1) w f x L hL W0 F Z) (λ h k=>h.trans k) (λ W l o o' hl h ho _=>RZ W l o o' (by omega) h ho) (Below.refl _ _) (λ _=>rfl)
  (λ pre W=>(Boxed W (i+1) 291 (.map (some i))/\∃g,g<=pre.length/\W.ownsMap prog 9 (plainElem (H:=Nat) prog 4) i g (qB pre))/\Below w.heap.size w W)
  (λ _ _ _=>False)
  (OwnFrom.and (OwnFrom.and ((boxed_own _ _ _).from _) (λ s X Y row hs T hr=>by obtain⟨g,h1,h2⟩:=hs;exact⟨g,h1,h2.kept T (λ e=>by have:=(hr _ e.symm).1;omega)⟩)) (ownFrom_below (aU _) (by omega)))
  (λ _ _ _ _ _ hs _ _=>hs)
  ⟨⟨V,0,aU _,DK⟩,F⟩
  (λ y a' W=>∃r,aD W r #[.int .i64 y.op,.int .i64 y.arg,.bool y.s,.slice y.x1 y.x2 y.x3,.slice y.x4 y.x5 y.x6,.string y.name,.slice y.a y.n y.cap] 27/\a'={tmps:=#[Value.agg #[Value.int IntKind.i64 x.op,Value.int IntKind.i64 x.arg,Value.bool x.s,Value.slice x.x1 x.x2 x.x3,Value.slice x.x4 x.x5 x.x6,Value.string x.name,Value.slice x.a x.n x.cap],Value.pointer (some {block:=w.heap.size,off:=0}),Value.slice none 0 0,Value.int IntKind.i64 0,Value.pointer (some {block:=i+1,off:=0}),Value.pointer (some {block:=r,off:=0}),Value.agg #[Value.int IntKind.i64 x.op,Value.int IntKind.i64 x.arg,Value.bool x.s,Value.slice x.x1 x.x2 x.x3,Value.slice x.x4 x.x5 x.x6,Value.string x.name,Value.slice x.a x.n x.cap],Value.bool true,Value.bool false,Value.map (some i),Value.agg #[Value.int IntKind.i64 x.op,Value.int IntKind.i64 x.arg,Value.bool x.s,Value.slice x.x1 x.x2 x.x3,Value.slice x.x4 x.x5 x.x6,Value.string x.name,Value.slice x.a x.n x.cap],Value.func (Fn.func 311) #[] #[Value.pointer (some {block:=i+1+1,off:=0})],Value.agg #[.int .i64 y.op,.int .i64 y.arg,.bool y.s,.slice y.x1 y.x2 y.x3,.slice y.x4 y.x5 y.x6,.string y.name,.slice y.a y.n y.cap],undef,undef,undef,undef,undef,undef,undef,undef,undef],defers:=[]})
  (λ y a' _ X Y row hs T hr=>by
    obtain⟨r,h1,h2⟩:=hs;refine⟨r,(T.block r h1.lt (λ e=> ?_)).trans h1,h2⟩
    obtain⟨_,o,ho,hc⟩:=hr r e.symm;rw[show X.heap[r]? =_ from h1] at ho;cases ho;cases hc)
  ?assign ?body ?done ?stop
 case assign=>
  rintro l pre y W K ⟨⟨u,g,Q,p⟩,m⟩ hK;dsimp only[Nv.val]
  gi_wp2
  exact hK _ _ ((KeepsOthers.alloc _ _).from _) ((KC.refl _ W).alloc m.size _) ⟨⟨u.alloc _,g,Q,p.alloc _⟩,m.alloc m.size _⟩ ⟨W.heap.size,aD.new W _ 27,rfl⟩
 case body=>
  rintro l pre y a' W hl- ⟨⟨u,g,Q,p⟩,m⟩ ⟨r,Oh,rfl⟩ aI;obtain⟨c0,-,-,-,-,c5,-,-⟩:=Oh.jK;have cb:=u.cell;have HS:=Lib.hid (NC (H:=Nat) pre y)
  have HSH:=Lib.hid y.short;by_cases h2:y.op=2
  ·rw[h2] at c0;have YA:Hid (qB (H:=Nat) (pre++[y])=(qB pre).put (.string y.name.data.toList) (.lit (.bool true))):=Lib.hid (by rw[HS.out,if_pos h2])
   clear h2
   gi_wp2_with (gi_at_mapUpdate;refine wpListIn_mapUpdate_own _ rfl _ _ _ 291 rfl 9 4 (Maps.string_keyed underlying9) underlying291 _ i g _ rfl p (by unfold maxLen;omega) _ _ _ rfl rfl (NG HSH.out) _ [] (plainElem_bool underlying4 true) ?_;intro q P J)
   have R:∀o,W.heap[i]? =some o->o.isCells=false:=by
    obtain⟨es,ck,hh,_⟩:=p;intro o ho;rw[hh] at ho;cases ho;rfl
   have E:Below w.heap.size W q:=(Below.refl _ W).grown J m.size (λ k e=>by cases e;omega)
   have apz:=p.lt;refine⟨KeepsFrom.of_grownBy J (λ j e=>by cases e;omega),⟨E,λ b o hb hc=> ?_⟩,⟨⟨u.kept J (λ e=>by cases e),g+1,by simp only[gJ,nK,List.length_nil];omega,by rw[YA.out];exact P⟩,m.trans E⟩⟩
   refine(J.block b (Array.getElem?_eq_some_iff.1 hb).1 (λ e=> ?_)).trans hb;cases e
   rw[R o hb] at hc;cases hc
  ·have t2:(y.op==2)=false:=by simpa using h2
   have YA:Hid (qB (H:=Nat) (pre++[y])=qB pre):=Lib.hid (by rw[HS.out,if_neg h2])
   gi_wp2
   exact⟨KeepsFrom.refl _ _,KC.refl _ _,⟨⟨u,g,by simp only[gJ,nK,List.length_nil];omega,by rw[YA.out];exact p⟩,m⟩⟩
 case done=>
  rintro D ys W hD rfl ⟨⟨u,g,Q,p⟩,m⟩ hK;have cb:=u.cell;have fK:Maps.size (qB (H:=Nat) ys)<=300:=by have:=p.size_le;omega
  have cS:=Hb i g _ _ W p (by unfold maxLen;omega) (by omega)
  gi_wp2_with (first
   |(refine⟨trivial,?_⟩;gi_at_call 231;refine(ND _ _ _).mono ?_;rintro e q ⟨rfl,rfl⟩)
   |(refine⟨trivial,?_⟩;gi_at_call 230;refine cS.mono ?_;rintro e q ⟨v,A,rfl,hS,a7,fq⟩))
  have amo:D<W.heap.size:=(Array.getElem?_eq_some_iff.1 hK).1;have ZE:q.heap[D]? =some (.deferred (some [])):=(fq.block D amo).trans hK;have O:Sp q W.heap.size v A.length (A.mergeSort (λ x y=>decide (x<=y)) |>.map λ l=>⟨l.toArray⟩):=by
   unfold Sp;rw[List.map_map]
   exact a7
  have N:Sp (q.putObj D (.deferred none)) W.heap.size v A.length (A.mergeSort (λ x y=>decide (x<=y)) |>.map λ l=>⟨l.toArray⟩):=ownsRow_putObj O _ ZE rfl;obtain⟨a,cap,rfl,gU,St⟩:=N.open;refine⟨by simp,.inl ⟨_,_,rfl,run_takeDeferred ZE,?_⟩⟩
  refine⟨.tuple #[.slice a A.length cap,.int .i64 0],by simp[results,f136,go_sem],a,_,cap,_,rfl,St,gU,?_,λ z=> ?_,?_⟩
  ·rw[hS.length_eq,Hc];exact fK
  ·rw[<-vw]
   exact NF hS z
  ·exact pF ((m.trans (fq.mono m.size)).trans (belowK_b (w:=w) (aU _) q D _ _ (by omega) ZE rfl rfl))
 case stop=>
  rintro D c pre W _ _ h _;exact h.elim
end
def yQ(p:ByteArray->Bool):List ByteArray->Nat->Int
 |[],_=> -1
 |s::r,k=>if p s=true then(k:Int) else yQ p r (k+1)
theorem Ke(p:ByteArray->Bool):∀(l:List ByteArray)(k:Nat),decide (0<=yQ p l k)=l.any p
 |[],_=>by simp[yQ]
 |s::r,k=>by
  rw[yQ,List.any_cons]
  cases h:p s
  ·rw[if_neg (by simp),Ke p r (k+1),Bool.false_or]
  ·rw[if_pos rfl,Bool.true_or];simp
theorem R4(p:ByteArray->Bool){l:List ByteArray}(h:k<l.length):yQ p (l.drop k) k=if p l[k]=true then(k:Int) else yQ p (l.drop (k+1)) (k+1):=by
 rw[List.drop_eq_getElem_cons h,yQ]
theorem Vh(p:ByteArray->Bool)(l:List ByteArray):yQ p (l.drop l.length) l.length= -1:=by simp[yQ]
theorem NH(hb:AS w a n cap l)(hc:w.cell? ⟨bx,0,none⟩=some (.slice a n cap))(s:ByteArray):
 Calls prog 152 #[.string s,.pointer (some ⟨bx,0,none⟩)] w λ e w'=>e= .returned (.bool (!decide (0<=cH l 0 s)))/\aa w w':=by
 have hs:=vK hb s;clear hb;have f:Hid (∃y,cH l 0 s=y):=Lib.hid ⟨_,rfl⟩
 obtain⟨y,d⟩:=f.out;rw[d] at hs⊢;clear d f;by_cases h:y<0
 ·have t1:decide (y<0)=true:=by simpa using h
  have c:Hid ((!decide (0<=y))=true):=Lib.hid (by simp;exact h)
  go_enter func152,ntmps152;go_wp2_with(go_at_call 134;refine hs.mono ?_;rintro e g ⟨rfl,b⟩)
  go_ret;exact⟨by rw[c.out];rfl,b⟩
 ·have t1:decide (y<0)=false:=by simpa using h
  have c:Hid ((!decide (0<=y))=false):=Lib.hid (by simp;omega)
  go_enter func152,ntmps152;go_wp2_with(go_at_call 134;refine hs.mono ?_;rintro e g ⟨rfl,b⟩)
  go_ret;exact⟨by rw[c.out];rfl,b⟩
theorem SL.at(h:SL w a n ss)(c:k<ss.length):∃b off,a=some ⟨b,off,none⟩/\w.cell? ⟨b,off+k,none⟩=some (.string ss[k]):=by
 obtain⟨hn,⟨rfl,rfl⟩|⟨b,off,rfl,hc⟩⟩:=h
 ·omega
 ·exact⟨b,off,rfl,hc k c⟩
theorem Dd(h:SL w a n ss)(r:n<=100000){p:ByteArray->Bool}
 (hp:∀w',aa w w'->∀s,Calls prog 152 #[.string s,.pointer (some ⟨bx,0,none⟩)] w' λ e g=>e= .returned (.bool (p s))/\aa w' g):
 Calls prog 245 #[.slice a n cap,.func (.func 152) #[] #[.pointer (some ⟨bx,0,none⟩)]] w λ e w'=>e= .returned (.int .i64 (yQ p ss 0))/\aa w w':=by
 have hn:=h.1;have H:=Lib.hid h;clear h;subst hn;go_enter func245,ntmps245;go_wp2;go_loopw [8] (λ s wr=>∃k:Nat,k<=ss.length/\s= .int .i64 (k:Int)/\yQ p (ss.drop k) k=yQ p ss 0/\aa w wr) (λ s _=>ss.length-(intOf s).toNat)
 case atStart=>exact⟨0,eo _,rfl,rfl,aa.refl w⟩
 case round=>
  obtain⟨k,t,rfl,l,c⟩:=hrel;have j:=Lib.hid l;clear l;by_cases m:k<ss.length
  ·obtain⟨b,off,rfl,o⟩:=H.out.at m;have hs:=Lib.hid (R4 p m)
   replace o:=c.cell o;have f:=hp _ c ss[k]
   clear hp;cases d:p ss[k]
   ·rw[d] at f;go_wp2_with(go_at_call 152;refine f.mono ?_;rintro e q ⟨rfl,i⟩)
    go_roundw
    case rel=>exact⟨k+1,by omega,by go_num,by rw[<-j.out,hs.out,d];rfl,c.trans i⟩
    case measure=>simp[intOf];omega
   ·rw[d] at f;go_wp2_with(go_at_call 152;refine f.mono ?_;rintro e q ⟨rfl,i⟩)
    go_ret;exact⟨by rw[<-j.out,hs.out,d];rfl,c.trans i⟩
  ·obtain rfl:ss.length=k:=by omega
   clear hp;go_wp2;go_ret;exact⟨by rw[<-j.out,Vh];rfl,c⟩
theorem xI(h:SL w a n ss)(c:n<=100000){p:ByteArray->Bool}
 (hp:∀w',aa w w'->∀s,Calls prog 152 #[.string s,.pointer (some ⟨bx,0,none⟩)] w' λ e b=>e= .returned (.bool (p s))/\aa w' b):
 Calls prog 151 #[.slice a n cap,.func (.func 152) #[] #[.pointer (some ⟨bx,0,none⟩)]] w λ e w'=>e= .returned (.bool (ss.any p))/\aa w w':=by
 have hi:=Dd (cap:=cap) h c hp;clear h hp;rw[<-Ke p ss 0]
 generalize yQ p ss 0=y at*;go_enter func151,ntmps151;go_wp2_with(go_at_call 245;refine hi.mono ?_;rintro e f ⟨rfl,d⟩)
 go_ret;exact⟨rfl,d⟩
theorem Vi(l:List aL)(vs:List ByteArray):(!vs.any λ s=> !decide (0<=cH l 0 s))=og l vs:=by
 induction vs with
 |nil=>rfl
 |cons x xs ih=>
  unfold og at*;rw[List.any_cons,List.all_cons,<-ih]
  cases decide (0<=cH l 0 x)<;>simp
theorem vh{t:aj}(h:Ex w f v t)(B:cL w)(m:t.ok=true)(hb:AS w a n cap l):
 Calls prog 78 #[v,.slice a n cap] w λ e w'=>e= .returned (.bool (og l (cZ t)))/\aa w w':=by
 have u:=h;cases f with
 |zero=>exact h.elim
 |succ f=>
 obtain⟨op,arg,s,N,D,name,kids,rfl⟩:∃op arg s N D name kids,t=aj.node op arg s N D name kids:=by cases t;exact⟨_,_,_,_,_,_,_,rfl⟩
 obtain⟨x1,x2,x3,x4,x5,x6,j,i,rfl,hc,hn,hr⟩:=h.shape;clear h hr;have c:aa w ((w.alloc (.cells #[.int .i64 op,.int .i64 arg,.bool s,.slice x1 x2 x3,.slice x4 x5 x6,.string name,.slice j kids.length i] 27)).alloc (.cells #[.slice a n cap] 28)):=((aa.refl w).alloc _).alloc _;have b:=R3 (u.kept c) (B.kept c) m;have x:=aD.new (w.alloc (.cells #[.int .i64 op,.int .i64 arg,.bool s,.slice x1 x2 x3,.slice x4 x5 x6,.string name,.slice j kids.length i] 27)) #[.slice a n cap] 28;have y:(w.alloc (.cells #[.int .i64 op,.int .i64 arg,.bool s,.slice x1 x2 x3,.slice x4 x5 x6,.string name,.slice j kids.length i] 27)).heap.size=w.heap.size+1:=by simp[go_sem]
 rw[y] at x;clear y u m;have z:∀(fn:Fn)(first cap:Array Value)(w:World),(Instr.makeFunc fn first cap).run prog w= .ok (.func fn first cap) w:=λ _ _ _ _=>rfl;generalize aj.node op arg s N D name kids=t at*;go_enter func78,ntmps78;go_wp2_with(first
  |(go_at_call 136;refine b.mono ?_;rintro e F ⟨a1,n1,c1,ts,rfl,k,H,G,hm,q⟩;have o:=c.trans q;have g:=(x.kept q).rp.1;have d:=xI (cap:=c1) k (by omega) (bx:=w.heap.size+1) (p:=λ s=> !decide (0<=cH l 0 s)) (λ w' r s=>NH (hb.kept (o.trans r)) (r.cell g) s);have C:=Lib.hid hm;clear hm k)
  |(go_at_call 151;refine d.mono ?_;rintro e E ⟨rfl,A⟩))
 go_ret;exact⟨by rw[<-Nz C.out,<-Vi];rfl,o.trans A⟩
structure eE where
 t:aj
 strict:Bool
def Sj(w:World)(f:Nat)(a:Option Addr)(n cap:Nat)(l:List eE):Prop:=
 n=l.length/\n<=cap/\n<4611686018427387904/\∀(i:Nat)(h:i<l.length),∃(b off:Nat)(o g:Int)(z:Bool)(x1:Option Addr)(x2 x3:Nat)(x4:Option Addr)(x5 x6:Nat)(nm:ByteArray)(a':Option Addr)(n' aK:Nat),
  a=some ⟨b,off,none⟩/\
  w.cell? ⟨b,off+i*8,none⟩=some (.int .i64 o)/\w.cell? ⟨b,off+i*8+1,none⟩=some (.int .i64 g)/\w.cell? ⟨b,off+i*8+2,none⟩=some (.bool z)/\
  w.cell? ⟨b,off+i*8+3,none⟩=some (.slice x1 x2 x3)/\w.cell? ⟨b,off+i*8+4,none⟩=some (.slice x4 x5 x6)/\w.cell? ⟨b,off+i*8+5,none⟩=some (.string nm)/\
  w.cell? ⟨b,off+i*8+6,none⟩=some (.slice a' n' aK)/\w.cell? ⟨b,off+i*8+7,none⟩=some (.bool l[i].strict)/\
  Ex w f (.agg #[.int .i64 o,.int .i64 g,.bool z,.slice x1 x2 x3,.slice x4 x5 x6,.string nm,.slice a' n' aK]) l[i].t
theorem Sj.kept{l:List eE}(h:Sj w f a n cap l)(k:aa w w'):Sj w' f a n cap l:=by
 obtain⟨hn,hc,hb,hi⟩:=h;refine⟨hn,hc,hb,λ i h=> ?_⟩
 obtain⟨b,off,o,g,z,x1,x2,x3,x4,x5,x6,nm,a',c,q,ha,p,h1,h2,h3,m,j,e,d,he⟩:=hi i h;exact⟨b,off,o,g,z,x1,x2,x3,x4,x5,x6,nm,a',c,q,ha,k.cell p,k.cell h1,k.cell h2,k.cell h3,k.cell m,k.cell j,k.cell e,k.cell d,he.kept k⟩
structure bS where
 goal:aj
 strict:Bool
 box:List aL
 conds:List eE
def Sk(w:World)(f:Nat)(v:Value)(c:bS):Prop:=
 ∃(o g:Int)(z:Bool)(x1:Option Addr)(x2 x3:Nat)(x4:Option Addr)(x5 x6:Nat)(nm:ByteArray)(a0:Option Addr)(n0 mC:Nat)(a1:Option Addr)(n1 uI:Nat)(a2:Option Addr)(n2 jE:Nat),
  v= .agg #[.int .i64 o,.int .i64 g,.bool z,.slice x1 x2 x3,.slice x4 x5 x6,.string nm,.slice a0 n0 mC,.bool c.strict,.slice a1 n1 uI,.slice a2 n2 jE]/\
  Ex w f (.agg #[.int .i64 o,.int .i64 g,.bool z,.slice x1 x2 x3,.slice x4 x5 x6,.string nm,.slice a0 n0 mC]) c.goal/\AS w a1 n1 uI c.box/\Sj w f a2 n2 jE c.conds
theorem Sk.kept{c:bS}(h:Sk w f v c)(k:aa w w'):Sk w' f v c:=by
 obtain⟨o,g,z,x1,x2,x3,x4,x5,x6,nm,e,n0,d,a1,n1,b,a2,n2,a,rfl,h1,h2,h3⟩:=h;exact⟨o,g,z,x1,x2,x3,x4,x5,x6,nm,e,n0,d,a1,n1,b,a2,n2,a,rfl,h1.kept k,h2.kept k,h3.kept k⟩
def jL(box:List aL)(k:eE):Bool:=k.t.ok&&og box (cZ k.t)
def bS.ok(c:bS):Bool:=iV c.box&&decide (c.conds.length<=12)&&c.goal.ok&&og c.box (cZ c.goal)&&c.conds.all (jL c.box)
theorem Vj{c:bS}(a:k<c.conds.length)(h:jL c.box c.conds[k]=false):c.ok=false:=by
 unfold bS.ok;have:c.conds.all (jL c.box)=false:=by
  rw[List.all_eq_false]
  exact⟨_,List.getElem_mem a,by simp[h]⟩
 rw[this,Bool.and_false]
theorem Bh{c:bS}(h1:iV c.box=true)(h2:c.conds.length<=12)(h3:c.goal.ok=true)(b:og c.box (cZ c.goal)=true)(h:∀k,(a:k<c.conds.length)->jL c.box c.conds[k]=true):c.ok=true:=by
 unfold bS.ok;have:c.conds.all (jL c.box)=true:=by
  rw[List.all_eq_true]
  intro x hx;obtain⟨k,a,rfl⟩:=List.getElem_of_mem hx;exact h k a
 rw[this,h1,h3,b];simpa using h2
theorem F6{c:bS}(h:Sk w f v c)(R:cL w):
 Calls prog 28 #[v] w λ e w'=>e= .returned (.bool c.ok)/\aa w w':=by
 obtain⟨o,g,z,x1,x2,x3,x4,x5,x6,nm,a0,n0,mC,a1,n1,uI,a2,n2,jE,rfl,hg,hb,hc⟩:=h;have m:aa w (w.alloc (.cells #[.int .i64 o,.int .i64 g,.bool z,.slice x1 x2 x3,.slice x4 x5 x6,.string nm,.slice a0 n0 mC,.bool c.strict,.slice a1 n1 uI,.slice a2 n2 jE] 31)):=(aa.refl w).alloc _;have A:=aD.new w #[.int .i64 o,.int .i64 g,.bool z,.slice x1 x2 x3,.slice x4 x5 x6,.string nm,.slice a0 n0 mC,.bool c.strict,.slice a1 n1 uI,.slice a2 n2 jE] 31;have d:=G9 (hb.kept m) (R.kept m)
 have C:=λ (w':World) (k:aa w w')=>iN (hg.kept k) (R.kept k)
 have x:=λ (w':World) (k:aa w w') (ho:c.goal.ok=true)=>vh (hg.kept k) (R.kept k) ho (hb.kept k)
 have Dw:=hc.2.2.1;have hce:n2=c.conds.length:=hc.1;have Y:=Lib.hid hce;have HC:=Lib.hid hc;clear hc;have HB:=Lib.hid hb;clear hb hg;have S:=Lib.hid R;clear R;clear hce;have amq:n2<4611686018427387904:=Dw;cases u:iV c.box
 ·have l:Hid (c.ok=false):=Lib.hid (by unfold bS.ok;rw[u];rfl)
  rw[u] at d;clear C x;go_enter func28,ntmps28;go_wp2_with(first|(go_at_call 76;refine d.mono ?_;rintro e U ⟨rfl,a⟩))
  go_ret;exact⟨by rw[l.out];rfl,m.trans a⟩
 rw[u] at d;by_cases hl:12<n2
 ·have l:Hid (c.ok=false):=Lib.hid (by unfold bS.ok;have:=Y.out;rw[show decide (c.conds.length<=12)=false by simp;omega];simp)
  have t1:decide (12<(n2:Int))=true:=by simp;omega
  clear C x;go_enter func28,ntmps28;go_wp2_with(first|(go_at_call 76;refine d.mono ?_;rintro e U ⟨rfl,a⟩;obtain⟨e0,e1,M,L,K,J,I,H,B,G,-⟩:=(A.kept a).cO))
  go_ret;exact⟨by rw[l.out];rfl,m.trans a⟩
 have t1:decide (12<(n2:Int))=false:=by simp;omega
 cases E:c.goal.ok
 ·have l:Hid (c.ok=false):=Lib.hid (by unfold bS.ok;rw[E];simp)
  rw[E] at C;clear x;go_enter func28,ntmps28;go_wp2_with(first
   |(go_at_call 76;refine d.mono ?_;rintro e U ⟨rfl,a⟩;obtain⟨e0,e1,M,L,K,J,I,H,B,G,-⟩:=(A.kept a).cO)
   |(go_at_call 77;refine(C _ (m.trans a)).mono ?_;rintro e w2 ⟨rfl,p⟩))
  go_ret;exact⟨by rw[l.out];rfl,(m.trans a).trans p⟩
 rw[E] at C;have x:=λ (w':World) (k:aa w w')=>x w' k E;cases P:og c.box (cZ c.goal)
 ·have l:Hid (c.ok=false):=Lib.hid (by unfold bS.ok;rw[P];simp)
  rw[P] at x;go_enter func28,ntmps28;go_wp2_with(first
   |(go_at_call 76;refine d.mono ?_;rintro e U ⟨rfl,a⟩;obtain⟨e0,e1,M,L,K,J,I,H,B,G,-⟩:=(A.kept a).cO)
   |(go_at_call 77;refine(C _ (m.trans a)).mono ?_;rintro e w2 ⟨rfl,p⟩;obtain⟨e0,e1,M,L,K,J,I,H,B,G,-⟩:=((A.kept a).kept p).cO)
   |(go_at_call 78;refine(x _ ((m.trans a).trans p)).mono ?_;rintro e w3 ⟨rfl,O⟩))
  go_ret;exact⟨by rw[l.out];rfl,((m.trans a).trans p).trans O⟩
 rw[P] at x;go_enter func28,ntmps28;go_wp2_with(first
  |(go_at_call 76;refine d.mono ?_;rintro e U ⟨rfl,a⟩;obtain⟨e0,e1,M,L,K,J,I,H,B,G,-⟩:=(A.kept a).cO)
  |(go_at_call 77;refine(C _ (m.trans a)).mono ?_;rintro e w2 ⟨rfl,p⟩;obtain⟨e0,e1,M,L,K,J,I,H,B,G,-⟩:=((A.kept a).kept p).cO)
  |(go_at_call 78;refine(x _ ((m.trans a).trans p)).mono ?_;rintro e w3 ⟨rfl,O⟩;obtain⟨e0,e1,M,L,K,J,I,H,B,G,-⟩:=(((A.kept a).kept p).kept O).cO))
 have amr:=((m.trans a).trans p).trans O;have D:=((A.kept a).kept p).kept O;have HG:Hid (iV c.box=true/\c.goal.ok=true/\og c.box (cZ c.goal)=true):=Lib.hid ⟨u,E,P⟩
 clear x C d A u E P a p m;go_loopw [32] (λ s wr=>∃k:Nat,k<=n2/\s= .int .i64 (k:Int)/\Hid (∀j,j<k->∀h,jL c.box (c.conds[j]'h)=true)/\aa w wr/\aa w3 wr) (λ s _=>n2-(intOf s).toNat)
 case atStart=>exact⟨0,eo _,rfl,Lib.hid λ j X=>absurd X (Nat.not_lt_zero j),amr,aa.refl _⟩
 case round=>
  obtain⟨k,wD,rfl,T,i,V⟩:=hrel;by_cases aI:k<n2
  ·have Z:k<c.conds.length:=by have:=Y.out;omega
   obtain⟨b,off,o',g',z',u1,u2,u3,u4,u5,u6,N,a',n',aK,rfl,q0,q1,q2,q3,q4,q5,q6,q7,hex⟩:=HC.out.2.2.2 k Z;replace q0:=i.cell q0;replace q1:=i.cell q1;replace q2:=i.cell q2;replace q3:=i.cell q3;replace q4:=i.cell q4;replace q5:=i.cell q5;replace q6:=i.cell q6;replace q7:=i.cell q7;have r:aa wr (wr.alloc (.cells #[.int .i64 o',.int .i64 g',.bool z',.slice u1 u2 u3,.slice u4 u5 u6,.string N,.slice a' n' aK,.bool c.conds[k].strict] 93)):=(aa.refl wr).alloc _;have Q:=aD.new wr #[.int .i64 o',.int .i64 g',.bool z',.slice u1 u2 u3,.slice u4 u5 u6,.string N,.slice a' n' aK,.bool c.conds[k].strict] 93;obtain⟨-,-,-,-,-,-,-,-,B,-⟩:=(D.kept (V.trans r)).cO;have q:=iN (hex.kept (i.trans r)) (S.out.kept (i.trans r))
   have hcv:=λ (w':World) (k':aa w w') (ho:c.conds[k].t.ok=true)=>vh (hex.kept k') (S.out.kept k') ho (HB.out.kept k')
   clear hex;generalize dp:c.conds[k].strict=st at*;have xG:=Lib.hid dp;clear dp;cases y:c.conds[k].t.ok
   ·rw[y] at q;have l:Hid (c.ok=false):=Lib.hid (Vj Z (by unfold jL;rw[y];rfl))
    clear hcv y;go_wp2_with(first|(go_at_call 77;refine q.mono ?_;rintro e w5 ⟨rfl,n⟩))
    go_ret;exact⟨by rw[l.out];rfl,(i.trans r).trans n⟩
   rw[y] at q;have hcv:=λ (w':World) (k':aa w w')=>hcv w' k' y;cases F:og c.box (cZ c.conds[k].t)
   ·rw[F] at hcv;have l:Hid (c.ok=false):=Lib.hid (Vj Z (by unfold jL;rw[y,F];rfl))
    clear y F;go_wp2_with(first
     |(go_at_call 77;refine q.mono ?_;rintro e w5 ⟨rfl,n⟩;obtain⟨f0,f1,f2,f3,f4,f5,f6,-,-⟩:=(Q.kept n).GO;obtain⟨-,-,-,-,-,-,-,-,B,-⟩:=(D.kept ((V.trans r).trans n)).cO)
     |(go_at_call 78;refine(hcv _ ((i.trans r).trans n)).mono ?_;rintro e w6 ⟨rfl,W⟩))
    go_ret;exact⟨by rw[l.out];rfl,((i.trans r).trans n).trans W⟩
   ·rw[F] at hcv;have l:Hid (jL c.box c.conds[k]=true):=Lib.hid (by unfold jL;rw[y,F];rfl)
    clear y F;go_wp2_with(first
     |(go_at_call 77;refine q.mono ?_;rintro e w5 ⟨rfl,n⟩;obtain⟨f0,f1,f2,f3,f4,f5,f6,-,-⟩:=(Q.kept n).GO;obtain⟨-,-,-,-,-,-,-,-,B,-⟩:=(D.kept ((V.trans r).trans n)).cO)
     |(go_at_call 78;refine(hcv _ ((i.trans r).trans n)).mono ?_;rintro e w6 ⟨rfl,W⟩))
    go_roundw
    case rel=>exact⟨k+1,by omega,by go_num,Lib.hid (λ j X hl=>by
               by_cases h:j<k
               ·exact T.out j h hl
               ·obtain rfl:j=k:=by omega
                exact l.out),((i.trans r).trans n).trans W,((V.trans r).trans n).trans W⟩
    case measure=>simp[intOf];omega
  ·obtain rfl:n2=k:=by omega
   have l:Hid (c.ok=true):=Lib.hid (Bh HG.out.1 (by have:=Y.out;omega) HG.out.2.1 HG.out.2.2 (λ j X=>T.out j (by have:=Y.out;omega) X))
   go_wp2;go_ret;exact⟨by rw[l.out];rfl,i⟩
theorem Ex.MF{t:aj}(h:Ex w f v t):∃(o g:Int)(z:Bool)(x1:Option Addr)(x2 x3:Nat)(x4:Option Addr)(x5 x6:Nat)(nm:ByteArray)(a':Option Addr)(b c:Nat),
 v= .agg #[.int .i64 o,.int .i64 g,.bool z,.slice x1 x2 x3,.slice x4 x5 x6,.string nm,.slice a' b c]:=by
 cases f with
 |zero=>exact h.elim
 |succ f=>
  cases t with
  |node op arg s N D name kids=>
   obtain⟨x1,x2,x3,x4,x5,x6,a,cap,hv,-⟩:=h;exact⟨op,arg,s,x1,x2,x3,x4,x5,x6,name,a,kids.length,cap,hv⟩
theorem aD.lT{b:Nat}{t:TypeId}{x0 x1 x2:Value}(h:aD w b #[x0,x1,x2] t):w.cell? ⟨b,0,none⟩=some x0/\w.cell? ⟨b,1,none⟩=some x1/\w.cell? ⟨b,2,none⟩=some x2/\w.frozen? ⟨b,0,none⟩=false/\w.frozen? ⟨b,1,none⟩=false/\w.frozen? ⟨b,2,none⟩=false:=
 ⟨h.cell 0 rfl,h.cell 1 rfl,h.cell 2 rfl,h.frozen 0,h.frozen 1,h.frozen 2⟩
def Ak(N D:Nat):Prop:=N=0∨aX N D=true
theorem YW(D:Nat):rN 0 D=0:=by unfold rN;exact Nat.zero_div _
theorem YX(D:Nat):rD 0 D=1:=by
 unfold rD;rw[Nat.gcd_zero_left]
 exact Nat.div_self (vM D)
theorem Ak.mid(h:Ak N D):N=0∨N<Mid/\D<Mid:=by
 rcases h with h|h
 ·exact .inl h
 ·exact .inr ⟨(dX h).1,(dX h).2.1⟩
theorem Ak.sm(h:Ak N D):rN N D<Sm/\rD N D<Sm:=by
 rcases h with rfl|h
 ·rw[YW,YX]
  exact⟨jt 7000,mK 7000 (by decide)⟩
 ·exact⟨(dX h).2.2.1,(dX h).2.2.2.1⟩
def Ag(s:Bool)(N D:Nat)(s':Bool)(N' D':Nat):Bool:=wU (s&&decide (0<N)) (rN N D) (rD N D) (s'&&decide (0<N')) (rN N' D') (rD N' D')==0
theorem Kt{u:Value}{s':Bool}{N' D':Nat}(h:Rt w v s N D)(M:Rt w u s' N' D')(hb:Ak N D)(m:Ak N' D'):
 Calls prog 48 #[v,u] w λ e w'=>e= .returned (.bool (Ag s N D s' N' D'))/\aa w w':=by
 have G:=h;have l:=M;obtain⟨vn,vd,rfl,hn,hd⟩:=h;obtain⟨Q,R,rfl,C,H⟩:=M;obtain⟨a,n,cap,xs,rfl,_⟩:=hn.pD;obtain⟨ad,b,c,ys,rfl,_⟩:=hd.pD;obtain⟨a',f,i,P,rfl,_⟩:=C.pD;obtain⟨j,d,g,O,rfl,_⟩:=H.pD;have hA:=aD.new w #[.bool s,.slice a n cap,.slice ad b c] 24;have L:=aD.new (w.alloc (.cells #[.bool s,.slice a n cap,.slice ad b c] 24)) #[.bool s',.slice a' f i,.slice j d g] 24;rw[show(w.alloc (.cells #[.bool s,.slice a n cap,.slice ad b c] 24)).heap.size=w.heap.size+1 from Array.size_push _] at L;have F:aa w (w.alloc (.cells #[.bool s,.slice a n cap,.slice ad b c] 24)):=(aa.refl w).alloc _;have t:aa (w.alloc (.cells #[.bool s,.slice a n cap,.slice ad b c] 24)) ((w.alloc (.cells #[.bool s,.slice a n cap,.slice ad b c] 24)).alloc (.cells #[.bool s',.slice a' f i,.slice j d g] 24)):=(aa.refl _).alloc _;replace hA:=hA.kept t;have z:=F.trans t
 have H1:=Lib.hid (λ (w':World) (k:aa w w')=>uB (G.kept k) hb.mid)
 have H2:=Lib.hid (λ (w':World) (k:aa w w')=>uB (l.kept k) m.mid)
 have H3:=Lib.hid (λ (w':World) (x y:Value) (q:Qv w' x (s&&decide (0<N)) (rN N D) (rD N D)) (q':Qv w' y (s'&&decide (0<N')) (rN N' D') (rD N' D'))=>rz q q' hb.sm.1 hb.sm.2 m.sm.1 m.sm.2)
 have HR:Hid (Ag s N D s' N' D'=(wU (s&&decide (0<N)) (rN N D) (rD N D) (s'&&decide (0<N')) (rN N' D') (rD N' D')==0)):=Lib.hid rfl;clear hn hd C H G l hb m F t;generalize Ag s N D s' N' D'=S at*;generalize rN N D=p1 at*;generalize rD N D=p2 at*;generalize rN N' D'=p3 at*;generalize rD N' D'=p4 at*;generalize (s&&decide (0<N))=z1 at*;generalize (s'&&decide (0<N'))=z2 at*;generalize hW:(w.alloc (.cells #[.bool s,.slice a n cap,.slice ad b c] 24)).alloc (.cells #[.bool s',.slice a' f i,.slice j d g] 24)=B at*;obtain⟨V,r,p,-⟩:=hA.lT;obtain⟨U,q1,T,-⟩:=L.lT;have I:∀w',aa B w'->aa B w'/\w'.cell? ⟨w.heap.size,0,none⟩=some (.bool s)/\w'.cell? ⟨w.heap.size,1,none⟩=some (.slice a n cap)/\w'.cell? ⟨w.heap.size,2,none⟩=some (.slice ad b c)/\w'.cell? ⟨w.heap.size+1,0,none⟩=some (.bool s')/\w'.cell? ⟨w.heap.size+1,1,none⟩=some (.slice a' f i)/\w'.cell? ⟨w.heap.size+1,2,none⟩=some (.slice j d g):=
  λ w' k=>⟨k,k.cell V,k.cell r,k.cell p,k.cell U,k.cell q1,k.cell T⟩
 have o:=Lib.hid I;clear I;subst hW;go_enter func48,ntmps48;go_wp2;go_region_held3 (λ w'=>aa ((w.alloc (.cells #[.bool s,.slice a n cap,.slice ad b c] 24)).alloc (.cells #[.bool s',.slice a' f i,.slice j d g] 24)) w'/\w'.cell? ⟨w.heap.size,0,none⟩=some (.bool s)/\w'.cell? ⟨w.heap.size,1,none⟩=some (.slice a n cap)/\w'.cell? ⟨w.heap.size,2,none⟩=some (.slice ad b c)/\w'.cell? ⟨w.heap.size+1,0,none⟩=some (.bool s')/\w'.cell? ⟨w.heap.size+1,1,none⟩=some (.slice a' f i)/\w'.cell? ⟨w.heap.size+1,2,none⟩=some (.slice j d g))
  (first|exact o.out _ (aa.refl _).drew|exact o.out _ A|exact o.out _ K|exact o.out _ J)
  (first|(go_at_call 126;refine(H3.out _ _ _ (X.kept E) W).mono ?_;rintro e w5 ⟨rfl,Y⟩;have J:=K.trans Y)|(go_at_call_of 125 (Value.agg #[.bool s,.slice a n cap,.slice ad b c]);refine(H1.out _ z.drew).mono ?_;rintro e w3 ⟨v3,rfl,X,Z⟩;have A:=(aa.refl ((w.alloc (.cells #[.bool s,.slice a n cap,.slice ad b c] 24)).alloc (.cells #[.bool s',.slice a' f i,.slice j d g] 24))).drew.trans Z)|(go_at_call_of 125 (Value.agg #[.bool s',.slice a' f i,.slice j d g]);refine(H2.out _ (z.trans A)).mono ?_;rintro e w4 ⟨v4,rfl,W,E⟩;have K:=A.trans E))
 go_wp2;go_ret;exact⟨by rw[HR.out];rfl,z.trans J⟩
end Go.Proofs.YtbapfnpbamnmpaaGreatDoor
