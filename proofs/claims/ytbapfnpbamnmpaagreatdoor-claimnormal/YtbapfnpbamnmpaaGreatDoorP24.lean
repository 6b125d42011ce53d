/- A part of the proof that the text which Print makes of a parsed text is a normal form -/
import Derived.Test.YtbapfnpbamnmpaaGreatDoorP00
import Derived.Test.YtbapfnpbamnmpaaGreatDoorP23
import Derived.Test.YtbapfnpbamnmpaaGreatDoorP06
import Derived.Test.YtbapfnpbamnmpaaGreatDoorP22
import Derived.Deep.AppendLies
set_option maxHeartbeats 8000000
set_option maxRecDepth 100000
namespace Go.Proofs.YtbapfnpbamnmpaaGreatDoor
open Go Go.RowKit Go.Dig Go.Deep Go.Eng Go.Proofs.Tryz
variable{ts:List aj}{D N cap d1 d2 f k n n1 n2 sz:Nat}{arg op:Int}{em hi li p1 p2 s:Bool}{name:ByteArray}{t:aj}{i:im}{w w':World}{v:Value}{P:Value->World->Prop}{l l':List aL}{a:Option Addr}{c:bS}{cs:List Value}
mutual
def nQ:aj->aj->Bool
 | .node op arg s N D name kids,.node Ve C9 s' N' D' rM ln=>(op==Ve)&&(arg==C9)&&(name.toList==rM.toList)&&((kids.length:Int)==(ln.length:Int))&&Ag s N D s' N' D'&&kY kids ln
def kY:List aj->List aj->Bool
 |[],_=>true
 |_::_,[]=>true
 |t::ts,u::us=>nQ t u&&kY ts us
end
mutual
def EV:aj->Prop
 | .node _ _ _ N D _ kids=>Ak N D/\Hg kids
def Hg:List aj->Prop
 |[]=>True
 |t::ts=>EV t/\Hg ts
end
theorem Dk(h:Hg ts):∀(i:Nat)(hi:i<ts.length),EV ts[i]:=by
 induction ts with
 |nil=>intro i hi;exact absurd hi (Nat.not_lt_zero i)
 |cons t r ih=>
  intro i hi;cases i with
  |zero=>exact h.1
  |succ i=>exact ih h.2 i (by simpa using hi)
theorem Kw{us:List aj}(h:k<ts.length)(a:k<us.length):kY (ts.drop k) (us.drop k)=(nQ ts[k] us[k]&&kY (ts.drop (k+1)) (us.drop (k+1))):=by
 rw[List.drop_eq_getElem_cons h,List.drop_eq_getElem_cons a,kY]
theorem NQ{us:List aj}(h:ts.length<=k):kY (ts.drop k) (us.drop k)=true:=by
 rw[List.drop_of_length_le h,kY]
theorem NR(h:bJ op arg s N D name n=true):Ak N D:=by
 unfold bJ at h;simp only[fv] at h;have h2:=h.2;split at h2
 ·simp only[fv] at h2;exact .inr h2.1.1
 ·simp only[fv,oh] at h2;exact .inl h2.1
mutual
theorem Ky:∀(t:aj)(d m m':Nat),mX t d m=some m'->EV t
 | .node op arg s N D name kids,d,m,m'=>by
   intro h;rw[mX] at h;split at h
   ·cases h
   ·rename_i hc;refine⟨NR (op:=op) (arg:=arg) (s:=s) (name:=name) (n:=kids.length) ?_,EW kids (d+1) (m+1) m' h⟩
    cases hn:bJ op arg s N D name kids.length
    ·exact absurd (.inr (.inr hn)) hc
    ·rfl
theorem EW:∀(ts:List aj)(d m m':Nat),ik ts d m=some m'->Hg ts
 |[],_,_,_=>λ _=>trivial
 |t::ts,d,m,m'=>by
  intro h;rw[ik] at h;cases h1:mX t d m with
  |none=>rw[h1] at h;cases h
  |some a=>
   rw[h1] at h;exact⟨Ky t d m a h1,EW ts d a m' h⟩
end
theorem rA(h:t.ok=true):EV t:=by
 unfold aj.ok at h;obtain⟨m,hm⟩:=Option.isSome_iff_exists.1 h;exact Ky t 1 0 m hm
theorem yW:∀(f:Nat){g:Nat}{w:World}{v u:Value}{t t':aj},Ex w f v t->Ex w g u t'->EV t->EV t'->
 Calls prog 57 #[v,u] w λ e w'=>e= .returned (.bool (nQ t t'))/\aa w w'
 |0,_,_,_,_,_,_,h,_=>h.elim
 |_+1,0,_,_,_,_,_,_,W=>W.elim
 |f+1,g+1,w,v,u,.node op arg s N D name kids,.node L R s' N' D' U j,h,W=>by
  intro hN Wi;obtain⟨x1,x2,x3,x4,x5,x6,a,cap,rfl,hc,hn,hr⟩:=h.shape;obtain⟨y1,y2,y3,y4,y5,y6,a',aK,rfl,Fl,qE,rS⟩:=W.shape;have Q:=λ (i:Nat) (hi:i<kids.length)=>h.kid hi;have P:=λ (i:Nat) (hi:i<j.length)=>W.kid hi;clear h W;have hA:=aD.new w #[.int .i64 op,.int .i64 arg,.bool s,.slice x1 x2 x3,.slice x4 x5 x6,.string name,.slice a kids.length cap] 27;have V:=aD.new (w.alloc (.cells #[.int .i64 op,.int .i64 arg,.bool s,.slice x1 x2 x3,.slice x4 x5 x6,.string name,.slice a kids.length cap] 27)) #[.int .i64 L,.int .i64 R,.bool s',.slice y1 y2 y3,.slice y4 y5 y6,.string U,.slice a' j.length aK] 27;rw[show(w.alloc (.cells #[.int .i64 op,.int .i64 arg,.bool s,.slice x1 x2 x3,.slice x4 x5 x6,.string name,.slice a kids.length cap] 27)).heap.size=w.heap.size+1 from Array.size_push _] at V
  have n:aa w (w.alloc (.cells #[.int .i64 op,.int .i64 arg,.bool s,.slice x1 x2 x3,.slice x4 x5 x6,.string name,.slice a kids.length cap] 27)):=(aa.refl w).alloc _;have cJ:aa (w.alloc (.cells #[.int .i64 op,.int .i64 arg,.bool s,.slice x1 x2 x3,.slice x4 x5 x6,.string name,.slice a kids.length cap] 27)) ((w.alloc (.cells #[.int .i64 op,.int .i64 arg,.bool s,.slice x1 x2 x3,.slice x4 x5 x6,.string name,.slice a kids.length cap] 27)).alloc (.cells #[.int .i64 L,.int .i64 R,.bool s',.slice y1 y2 y3,.slice y4 y5 y6,.string U,.slice a' j.length aK] 27)):=(aa.refl _).alloc _;replace hA:=hA.kept cJ;have q:=n.trans cJ;clear n cJ;have p:=Kt (hr.kept q) (rS.kept q) hN.1 Wi.1;have O:=Dk hN.2;have M:=Dk Wi.2;clear hN Wi hr rS
  have l:Hid (nQ (.node op arg s N D name kids) (.node L R s' N' D' U j)=((op==L)&&(arg==R)&&(name.toList==U.toList)&&((kids.length:Int)==(j.length:Int))&&Ag s N D s' N' D'&&kY kids j)):=Lib.hid (by rw[nQ])
  generalize nQ (.node op arg s N D name kids) (.node L R s' N' D' U j)=d at*;obtain⟨d0,d1,d2,d3,d4,d5,Z,-⟩:=hA.jK;obtain⟨e0,e1,e2,e3,e4,e5,Y,-⟩:=V.jK;rcases Bool.eq_false_or_eq_true (op != L) with b1|b1
  ·have c1:(op==L)=false:=by rw[<-Bool.not_eq_true',<-bne];exact b1
   have m:Hid (d=false):=Lib.hid (by rw[l.out,c1];rfl)
   clear Q P p O M l c1;go_enter func57,ntmps57;go_wp2;go_ret;exact⟨by rw[m.out];rfl,q⟩
  have c1:(op==L)=true:=by rw[<-Bool.not_eq_false',<-bne];exact b1
  replace c1:=Lib.hid c1;rcases Bool.eq_false_or_eq_true (arg != R) with b2|b2
  ·have c2:(arg==R)=false:=by rw[<-Bool.not_eq_true',<-bne];exact b2
   have m:Hid (d=false):=Lib.hid (by rw[l.out,c1.out,c2];rfl)
   clear Q P p O M l c2;go_enter func57,ntmps57;go_wp2;go_ret;exact⟨by rw[m.out];rfl,q⟩
  have c2:(arg==R)=true:=by rw[<-Bool.not_eq_false',<-bne];exact b2
  replace c2:=Lib.hid c2;rcases Bool.eq_false_or_eq_true (name.toList==U.toList) with c3|c3
  rotate_left
  ·have m:Hid (d=false):=Lib.hid (by rw[l.out,c1.out,c2.out,c3];rfl)
   clear Q P p O M l;go_enter func57,ntmps57;go_wp2;go_ret;exact⟨by rw[m.out];rfl,q⟩
  rcases Bool.eq_false_or_eq_true ((kids.length:Int) !=(j.length:Int)) with b4|b4
  ·have c4:((kids.length:Int)==(j.length:Int))=false:=by rw[<-Bool.not_eq_true',<-bne];exact b4
   have m:Hid (d=false):=Lib.hid (by rw[l.out,c1.out,c2.out,c3,c4];rfl)
   clear Q P p O M l c4;go_enter func57,ntmps57;go_wp2;go_ret;exact⟨by rw[m.out];rfl,q⟩
  have c4:((kids.length:Int)==(j.length:Int))=true:=by rw[<-Bool.not_eq_false',<-bne];exact b4
  replace c4:=Lib.hid c4;cases b5:Ag s N D s' N' D'
  ·have m:Hid (d=false):=Lib.hid (by rw[l.out,c1.out,c2.out,c3,c4.out,b5];rfl)
   rw[b5] at p;clear Q P O M l;go_enter func57,ntmps57;go_wp2_with(first|(go_at_call 48;refine p.mono ?_;rintro e w1 ⟨rfl,n⟩))
   go_ret;exact⟨by rw[m.out];rfl,q.trans n⟩
  have m:Hid (d=kY kids j):=Lib.hid (by rw[l.out,c1.out,c2.out,c3,c4.out,b5];rfl)
  rw[b5] at p;clear l;have VF:=Lib.hid (show kids.length=j.length by have:=c4.out;simp at this;omega)
  go_enter func57,ntmps57;go_wp2_with(first|(go_at_call 48;refine p.mono ?_;rintro e w1 ⟨rfl,n⟩;replace hA:=hA.kept n;replace V:=V.kept n))
  have dI:=q.trans n;have HK1:=Lib.hid n;clear n q p d0 d1 d2 d3 d4 d5 Z e0 e1 e2 e3 e4 e5 Y;go_loopw [5] (λ i wr=>∃(k:Nat),k<=kids.length/\i= .int .i64 (k:Int)/\Hid (kY (kids.drop k) (j.drop k)=kY kids j)/\aa w wr/\aa w1 wr) (λ i _=>kids.length-(intOf i).toNat)
  case atStart=>exact⟨0,eo _,rfl,Lib.hid rfl,dI,aa.refl _⟩
  case round=>
   obtain⟨k,DI,rfl,xG,c,cM⟩:=hrel;obtain⟨-,-,-,-,-,-,Z,-⟩:=(hA.kept cM).jK;obtain⟨-,-,-,-,-,-,Y,-⟩:=(V.kept cM).jK;by_cases aI:k<kids.length
   ·have yR:k<j.length:=by have:=VF.out;omega
    obtain⟨b,off,o,g0,z,u1,u2,u3,u4,u5,u6,nm,a2,n2,jE,rfl,K,J,bU,I,H,G,F,hex⟩:=Q k aI;obtain⟨b',fJ,o',g0',z',v1,v2,v3,v4,v5,v6,nm',a2',M3,VG,rfl,E,C,B,A,y,x,r,VH⟩:=P k yR;replace K:=c.cell K;replace J:=c.cell J;replace bU:=c.cell bU;replace I:=c.cell I;replace H:=c.cell H;replace G:=c.cell G;replace F:=c.cell F;replace E:=c.cell E;replace C:=c.cell C;replace B:=c.cell B;replace A:=c.cell A;replace y:=c.cell y;replace x:=c.cell x;replace r:=c.cell r;have S:=λ (w':World) (k':aa w w')=>yW f (hex.kept k') (VH.kept k') (O k aI) (M k yR)
    have T:=Kw aI yR;clear Q P hex VH O M;rw[xG.out] at T;go_wp2_with fail
    have z0:=λ (k:KW wr)=>k.kept.cell K;have z1:=λ (k:KW wr)=>k.kept.cell J;have z2:=λ (k:KW wr)=>k.kept.cell bU;have z3:=λ (k:KW wr)=>k.kept.cell I;have z4:=λ (k:KW wr)=>k.kept.cell H;have z5:=λ (k:KW wr)=>k.kept.cell G;have z6:=λ (k:KW wr)=>k.kept.cell F;have y0:=λ (k:KW wr)=>k.kept.cell E;have y1:=λ (k:KW wr)=>k.kept.cell C;have y2:=λ (k:KW wr)=>k.kept.cell B;have y3:=λ (k:KW wr)=>k.kept.cell A;have y4:=λ (k:KW wr)=>k.kept.cell y;have y5:=λ (k:KW wr)=>k.kept.cell x;have y6:=λ (k:KW wr)=>k.kept.cell r;have z8:=λ (k:KW wr)=>k.kept.cell Z;have y8:=λ (k:KW wr)=>k.kept.cell Y;clear K J bU I H G F E C B A y x r Z Y;have S:=λ (k:KW wr)=>S k.w (c.trans k.kept)
    cases hq:nQ kids[k] j[k]
    ·rw[hq] at S T;have NS:Hid (d=false):=Lib.hid (by rw[m.out,T];rfl)
     clear T;refine ag wr (aa.refl _) (by kernel_rfl) (by kernel_rfl) ?_;repeat (go_big_quiet_step (first|(go_at_call 57;exact aG (S _))))
     refine wpQuiet_nil ?_;rintro _ ⟨X,rfl⟩
     go_wp2;go_ret;exact⟨by rw[NS.out];rfl,c.trans X.kept⟩
    ·rw[hq] at S T;have YO:=Lib.hid T;clear T;refine ag wr (aa.refl _) (by kernel_rfl) (by kernel_rfl) ?_;repeat (go_big_quiet_step (first|(go_at_call 57;exact aG (S _))))
     refine wpQuiet_nil ?_;rintro _ ⟨X,rfl⟩
     clear S;go_wp2;go_roundw
     case rel=>exact⟨k+1,by omega,by go_num,Lib.hid YO.out.symm,c.trans X.kept,cM.trans X.kept⟩
     case measure=>simp[intOf];omega
   ·obtain rfl:kids.length=k:=by omega
    clear Q P O M;have NS:Hid (d=true):=Lib.hid (by rw[m.out,<-xG.out];exact NQ (aU _))
    go_wp2;go_ret;exact⟨by rw[NS.out];rfl,c⟩
def VI(i:im):Bool:=if i.li then false else i.s1&&decide (0<i.N1)
def Qf(i:im):Nat:=if i.li then 0 else rN i.N1 i.D1
def Qg(i:im):Nat:=if i.li then 0 else rD i.N1 i.D1
def YZ(i:im):Bool:=if i.hi then false else i.s2&&decide (0<i.N2)
def SB(i:im):Nat:=if i.hi then 0 else rN i.N2 i.D2
def SC(i:im):Nat:=if i.hi then 0 else rD i.N2 i.D2
def vt(i j:im):Bool:=(i.li==j.li)&&(i.hi==j.hi)&&(wU (VI i) (Qf i) (Qg i) (VI j) (Qf j) (Qg j)==0)&&(wU (YZ i) (SB i) (SC i) (YZ j) (SB j) (SC j)==0)
theorem Qh(hf:i.fine=true):Qf i<Sm/\Qg i<Sm/\SB i<Sm/\SC i<Sm:=by
 have a:aX i.N1 i.D1=true/\aX i.N2 i.D2=true:=by
  have hf:(aX i.N1 i.D1&&aX i.N2 i.D2)=true:=hf;simpa using hf
 obtain⟨-,-,g1,g2,-,-⟩:=dX a.1;obtain⟨-,-,g3,c,-,-⟩:=dX a.2;have b:0<Sm:=jt 7000;unfold Qf Qg SB SC;refine⟨?_,?_,?_,?_⟩<;>split<;>assumption
theorem VJ(h:AR w v i)(hf:i.fine=true)(hv:i.void=false):
 Calls prog 47 #[v] w λ e w'=>∃v',e= .returned v'/\Iq w' v' (VI i) (Qf i) (Qg i) (YZ i) (SB i) (SC i) i.li i.hi false/\aa w w':=by
 refine(RN h hf).mono ?_;rintro e w' ⟨v',he,a,hi⟩
 rw[hv] at hi;exact⟨v',he,hi,a⟩
theorem Iq.kept(h:Iq w v p1 n1 d1 p2 n2 d2 li hi em)(k:aa w w'):Iq w' v p1 n1 d1 p2 n2 d2 li hi em:=by
 obtain⟨a,n,c,a',d,f,b,m,e,b',m',e',rfl,h1,h2⟩:=h;exact⟨a,n,c,a',d,f,b,m,e,b',m',e',rfl,h1.kept k,h2.kept k⟩
theorem Iq.ai{b0:Nat}(h:Iq w v p1 n1 d1 p2 n2 d2 li hi em)(k:af w w' b0)(hb:qT w b0):Iq w' v p1 n1 d1 p2 n2 d2 li hi em:=by
 obtain⟨a,n,c,a',d,f,b,m,e,b',m',e',rfl,h1,h2⟩:=h;exact⟨a,n,c,a',d,f,b,m,e,b',m',e',rfl,h1.ai k hb,h2.ai k hb⟩
theorem Iq.own(h:Iq w v p1 n1 d1 p2 n2 d2 li hi em):∃V,v= .agg V/\dY 99 V:=by
 obtain⟨a,n,c,a',d,f,b,m,e,b',m',e',rfl,-⟩:=h;exact⟨_,rfl,⟨by kernel_rfl,by simp[Value.oneCell']⟩⟩
theorem Lk.zero(k:Lk 0 0 w w'):aa w w':=⟨k.size,λ b hb=>k.old b hb (.inr (eo _)),k.tape,k.os,k.output⟩
section
variable{n:Nat}{l:Fm}{ops:Array Oper}{rest:List Oper}{Q:Exit->Act->World->Prop}{oi oj om:Oper}{fuel:Nat}{listed:Array Bool}{w w0:World}{d e e' lo up:Nat}
theorem ag3{σ:Type}{id:Nat}(L:σ->List (Nat×Value))(I:σ->World->Prop)
 (h:∀d:Exit->Act->World->Prop,(∀c(a:Act)(t:Array Value) w,d (.panic c) ⟨t,a.defers⟩ w->d (.panic c) a w)->(∀s b W,oN b (L s)->I s W->d .normal (aH n b) W)->(Code.region id ops true).wp prog d (aH n l) w)
 (hQ:∀s b W,I s W->Q .normal (aH n (look b (L s))) W)(hp:∀c(a:Act)(t:Array Value) w,Q (.panic c) ⟨t,a.defers⟩ w->Q (.panic c) a w:=by exact λ _ _ _ _ h=>h):(Code.region id ops true).wp prog Q (aH n l) w:=
 h Q hp λ s b W hs e=>by
   have:=hQ s b W e
   rwa [jA hs] at this
theorem opC{E:Prop}{K:Act->World->Prop}(f:FuncId)(args:Array Value)(hc:Calls prog f args w λ e w'=>∃v,e= .returned v/\P v w'/\aa w w')(hrun:(execOp (ev n l) oi).run prog w= .ok (.enter f args) w)(a:oi.guard=none/\oi.dst=some d)
 (h:∀v w',P v w'->aa w w'->K (aH n (aC l d v)) w'):if Region.wanted oi (yielded ops (aH n l).tmps)=true then Oper.wp prog oi (aH n l) w K Q else E:=by
 rw[if_pos (by simp[Region.wanted,a.1])]
 unfold Oper.wp;rw[aO,hrun]
 refine Calls.mono hc λ x w' hR=> ?_;obtain⟨v,rfl,c,b⟩:=hR;rw[a.2]
 simp only[bX]
 exact h v w' c b
theorem opA{E:Prop}{K:Act->World->Prop}(A:Array Value)(t:TypeId)(hrun:(execOp (aH n l).eval oi).run prog w= .ok (.value (.pointer (some ⟨w.heap.size,0,none⟩))) (w.alloc (.cells A t)))(a:oi.guard=none/\oi.dst=some d)
 (h:∀W g,g=w.heap.size->aa w W->aD W g A t->K (aH n (aC l d (.pointer (some ⟨g,0,none⟩)))) W):if Region.wanted oi (yielded ops (aH n l).tmps)=true then Oper.wp prog oi (aH n l) w K Q else E:=by
 rw[if_pos (by simp[Region.wanted,a.1])]
 unfold Oper.wp;rw[hrun]
 simp only[Oper.upon,a.2,bX]
 exact h _ _ rfl ((aa.refl w).alloc _) (aD.new w A t)
theorem R9(i j:Nat)(f:FuncId)(args:Array Value)(A:Array Value)(t:TypeId)(hS:Lk lo up w0 w)(hc:Calls prog f args w λ e w'=>∃v,e= .returned v/\P v w'/\aa w w')
 (h1:∀v W,P v W->aa w W->Lk lo up w0 W->wpAnyH prog .any ops Q (Lk lo up w0) fuel (listed.setIfInBounds i true) (aH n (aC l d v)) W)
 (h2:∀W g,g=w.heap.size->aa w W->aD W g A t->Lk lo up w0 W->wpAnyH prog .any ops Q (Lk lo up w0) fuel (listed.setIfInBounds j true) (aH n (aC l e (.pointer (some ⟨g,0,none⟩)))) W)
 (hi:ops[i]? =some oi:=by rfl)(h:ops[j]? =some oj:=by rfl)(hrun:(execOp (ev n l) oi).run prog w= .ok (.enter f args) w:=by kernel_rfl)(c:(execOp (aH n l).eval oj).run prog w= .ok (.value (.pointer (some ⟨w.heap.size,0,none⟩))) (w.alloc (.cells A t)):=by kernel_rfl)
 (o:oi.guard=none/\oi.dst=some d:=by exact⟨rfl,rfl⟩)(m:oj.guard=none/\oj.dst=some e:=by exact⟨rfl,rfl⟩)(hr:Region.ready .any ops listed=[i,j]:=by kernel_rfl):wpAnyH prog .any ops Q (Lk lo up w0) (fuel+1) listed (aH n l) w:=
 rd2 i j (λ _ hK=>opC f args hc hrun o λ v W hv k=>hK.out _ _ (hS.kept k) λ a=>h1 v W hv k a) (λ _ hK=>opA A t c m λ W g p k b=>hK.out _ _ (hS.kept k) λ a=>h2 W g p k b a) hi h hr
theorem aax(i j m:Nat)(f:FuncId)(args:Array Value)(A:Array Value)(t:TypeId)(hS:Lk lo up w0 w)(hc:Calls prog f args w λ e w'=>∃v,e= .returned v/\P v w'/\aa w w')
 (h1:∀v W,P v W->aa w W->Lk lo up w0 W->wpAnyH prog .any ops Q (Lk lo up w0) fuel (listed.setIfInBounds i true) (aH n (aC l d v)) W)
 (h2:∀W g,g=w.heap.size->aa w W->aD W g A t->Lk lo up w0 W->wpAnyH prog .any ops Q (Lk lo up w0) fuel (listed.setIfInBounds j true) (aH n (aC l e (.pointer (some ⟨g,0,none⟩)))) W)
 (h3:∀W g,g=w.heap.size->aa w W->aD W g A t->Lk lo up w0 W->wpAnyH prog .any ops Q (Lk lo up w0) fuel (listed.setIfInBounds m true) (aH n (aC l e' (.pointer (some ⟨g,0,none⟩)))) W)
 (hi:ops[i]? =some oi:=by rfl)(p:ops[j]? =some oj:=by rfl)(hm:ops[m]? =some om:=by rfl)(hrun:(execOp (ev n l) oi).run prog w= .ok (.enter f args) w:=by kernel_rfl)(h:(execOp (aH n l).eval oj).run prog w= .ok (.value (.pointer (some ⟨w.heap.size,0,none⟩))) (w.alloc (.cells A t)):=by kernel_rfl)(c:(execOp (aH n l).eval om).run prog w= .ok (.value (.pointer (some ⟨w.heap.size,0,none⟩))) (w.alloc (.cells A t)):=by kernel_rfl)
 (s:oi.guard=none/\oi.dst=some d:=by exact⟨rfl,rfl⟩)(r:oj.guard=none/\oj.dst=some e:=by exact⟨rfl,rfl⟩)(q:om.guard=none/\om.dst=some e':=by exact⟨rfl,rfl⟩)(hr:Region.ready .any ops listed=[i,j,m]:=by kernel_rfl):wpAnyH prog .any ops Q (Lk lo up w0) (fuel+1) listed (aH n l) w:=
 wpAnyH_ready hr (by simp) (AllReadyH.cons hi (λ _ hK=>opC f args hc hrun s λ v W hv k=>hK.out _ _ (hS.kept k) λ a=>h1 v W hv k a) (AllReadyH.cons p (λ _ hK=>opA A t h r λ W g o k b=>hK.out _ _ (hS.kept k) λ a=>h2 W g o k b a)
  (AllReadyH.cons hm (λ _ hK=>opA A t c q λ W g o k b=>hK.out _ _ (hS.kept k) λ a=>h3 W g o k b a) AllReadyH.nil)))
end
theorem Kz{u:Value}{j:im}(h:AR w v i)(P:AR w u j)(hf:i.fine=true)(G:j.fine=true)(hv:i.void=false)(M:j.void=false):
 Calls prog 133 #[v,u] w λ e w'=>e= .returned (.bool (vt i j))/\aa w w':=by
 have B:=λ (w':World) (k:aa w w')=>VJ (h.kept k) hf hv;have t:=λ (w':World) (k:aa w w')=>VJ (P.kept k) G M;obtain⟨B1,B2,B3,B4⟩:=Qh hf;obtain⟨C1,C2,C3,C4⟩:=Qh G;obtain⟨a1,n1,c1,a2,n2,c2,a3,n3,c3,a4,n4,c4,rfl,-⟩:=h;obtain⟨b1,m1,d1,b2,m2,d2,b3,m3,d3,b4,m4,d4,rfl,-⟩:=P;refine dK [_,_] 51 func133 rfl ntmps133 (by simp) ?_;iterate 3 go_step
 refine zb λ w1 g1 e1 L C s1=> ?_;refine zb λ o g2 R F H s2=> ?_;refine zz ?_;replace C:=C.kept F;have K:=L.trans F;clear L F hf G hv M;iterate 4 go_step
 refine ag3 (σ:=Nat×Nat×Value×Value) (λ s=>[(5,.pointer (some ⟨s.1,0,none⟩)),(6,.pointer (some ⟨s.2.1,0,none⟩))])
  (λ s W=>aa w W/\(∃U V,s.2.2.1= .agg U/\s.2.2.2= .agg V/\aD W s.1 U 99/\aD W s.2.1 V 99)/\Iq W s.2.2.1 (VI i) (Qf i) (Qg i) (YZ i) (SB i) (SC i) i.li i.hi false/\Iq W s.2.2.2 (VI j) (Qf j) (Qg j) (YZ j) (SB j) (SC j) j.li j.hi false) (λ Q hp hj=> ?_) (λ ⟨g,g',U,V⟩ l W ⟨K,⟨U',V',O,N,A,z⟩,d,hv⟩=> ?_)
 ·refine eJ 0 0 λ hS=> ?_;have n:∀{b:Nat},b<0∨0<=b:=.inr (eo _)
  refine yl 0 C.range n kL hS ?_ (hQ:=λ c a w=>hp c a _ w)
  refine yl 2 H.range n kL hS ?_ (hQ:=λ c a w=>hp c a _ w)
  clear C H;have n:=hS.size;refine aax 1 4 5 47 _ ZQ 99 hS (B _ (K.trans hS.zero)) (λ u W d k hS=> ?_) (λ W g p k m hS=> ?_) (λ W g' p k f hS=> ?_)
  have n:=hS.size;refine aax 3 4 5 47 _ ZQ 99 hS (t _ (K.trans hS.zero)) (λ v W hv k hS=> ?_) (λ W g p k m hS=> ?_) (λ W g' p k f hS=> ?_)
  replace d:=d.kept k;have n:=hS.size;refine ya2 4 5 ZQ 99 hS λ W g g' r q q' k m f hS=> ?_;have y:o.heap.size<=g:=by omega
  have x:o.heap.size<=g':=by omega
  replace d:=d.kept k;replace hv:=hv.kept k;rotate_left 1;have y:o.heap.size<=g:=by omega
  replace d:=d.kept k;have n:=hS.size;refine R9 3 5 47 _ ZQ 99 hS (t _ (K.trans hS.zero)) (λ v W hv k hS=> ?_) (λ W g' p k f hS=> ?_)
  replace d:=d.kept k;replace m:=m.kept k;have n:=hS.size;refine ya 5 ZQ 99 hS λ W g' p k f _ hS=> ?_;have x:o.heap.size<=g':=by omega
  have r:g≠g':=by have:=m.lt;omega
  replace d:=d.kept k;replace m:=m.kept k;replace hv:=hv.kept k;rotate_left 1;have x:o.heap.size<=g':=by omega
  have r:g≠g':=by have:=m.lt;omega
  replace d:=d.kept k;replace m:=m.kept k;have n:=hS.size;refine yc 3 47 _ hS (t _ (K.trans hS.zero)) λ e W ⟨v,he,hv,k⟩=>⟨k,v,he,λ hS=> ?_⟩
  replace d:=d.kept k;replace m:=m.kept k;replace f:=f.kept k;rotate_left 1;have x:o.heap.size<=g':=by omega
  replace d:=d.kept k;have n:=hS.size;refine R9 3 4 47 _ ZQ 99 hS (t _ (K.trans hS.zero)) (λ v W hv k hS=> ?_) (λ W g p k m hS=> ?_)
  replace d:=d.kept k;replace f:=f.kept k;have n:=hS.size;refine ya 4 ZQ 99 hS λ W g p k m _ hS=> ?_;have y:o.heap.size<=g:=by omega
  have r:g≠g':=by have:=f.lt;omega
  replace d:=d.kept k;replace f:=f.kept k;replace hv:=hv.kept k;rotate_left 1;have y:o.heap.size<=g:=by omega
  have r:g≠g':=by have:=f.lt;omega
  replace d:=d.kept k;replace f:=f.kept k;have n:=hS.size;refine yc 3 47 _ hS (t _ (K.trans hS.zero)) λ e W ⟨v,he,hv,k⟩=>⟨k,v,he,λ hS=> ?_⟩
  replace d:=d.kept k;replace f:=f.kept k;replace m:=m.kept k;rotate_left 1;have y:o.heap.size<=g:=by omega
  have n:=hS.size;refine R9 1 5 47 _ ZQ 99 hS (B _ (K.trans hS.zero)) (λ u W d k hS=> ?_) (λ W g' p k f hS=> ?_)
  replace m:=m.kept k;have n:=hS.size;refine R9 3 5 47 _ ZQ 99 hS (t _ (K.trans hS.zero)) (λ v W hv k hS=> ?_) (λ W g' p k f hS=> ?_)
  replace m:=m.kept k;replace d:=d.kept k;have n:=hS.size;refine ya 5 ZQ 99 hS λ W g' p k f _ hS=> ?_;have x:o.heap.size<=g':=by omega
  have r:g≠g':=by have:=m.lt;omega
  replace m:=m.kept k;replace d:=d.kept k;replace hv:=hv.kept k;rotate_left 1;have x:o.heap.size<=g':=by omega
  have r:g≠g':=by have:=m.lt;omega
  replace m:=m.kept k;replace d:=d.kept k;have n:=hS.size;refine yc 3 47 _ hS (t _ (K.trans hS.zero)) λ e W ⟨v,he,hv,k⟩=>⟨k,v,he,λ hS=> ?_⟩
  replace m:=m.kept k;replace d:=d.kept k;replace f:=f.kept k;rotate_left 1;have x:o.heap.size<=g':=by omega
  have r:g≠g':=by have:=m.lt;omega
  replace m:=m.kept k;have n:=hS.size;refine yc 1 47 _ hS (B _ (K.trans hS.zero)) λ e W ⟨u,he,d,k⟩=>⟨k,u,he,λ hS=> ?_⟩
  replace m:=m.kept k;replace f:=f.kept k;have n:=hS.size;refine yc 3 47 _ hS (t _ (K.trans hS.zero)) λ e W ⟨v,he,hv,k⟩=>⟨k,v,he,λ hS=> ?_⟩
  replace m:=m.kept k;replace f:=f.kept k;replace d:=d.kept k;rotate_left 1;have x:o.heap.size<=g':=by omega
  have n:=hS.size;refine R9 1 4 47 _ ZQ 99 hS (B _ (K.trans hS.zero)) (λ u W d k hS=> ?_) (λ W g p k m hS=> ?_)
  replace f:=f.kept k;have n:=hS.size;refine R9 3 4 47 _ ZQ 99 hS (t _ (K.trans hS.zero)) (λ v W hv k hS=> ?_) (λ W g p k m hS=> ?_)
  replace f:=f.kept k;replace d:=d.kept k;have n:=hS.size;refine ya 4 ZQ 99 hS λ W g p k m _ hS=> ?_;have y:o.heap.size<=g:=by omega
  have r:g≠g':=by have:=f.lt;omega
  replace f:=f.kept k;replace d:=d.kept k;replace hv:=hv.kept k;rotate_left 1;have y:o.heap.size<=g:=by omega
  have r:g≠g':=by have:=f.lt;omega
  replace f:=f.kept k;replace d:=d.kept k;have n:=hS.size;refine yc 3 47 _ hS (t _ (K.trans hS.zero)) λ e W ⟨v,he,hv,k⟩=>⟨k,v,he,λ hS=> ?_⟩
  replace f:=f.kept k;replace d:=d.kept k;replace m:=m.kept k;rotate_left 1;have y:o.heap.size<=g:=by omega
  have r:g≠g':=by have:=f.lt;omega
  replace f:=f.kept k;have n:=hS.size;refine yc 1 47 _ hS (B _ (K.trans hS.zero)) λ e W ⟨u,he,d,k⟩=>⟨k,u,he,λ hS=> ?_⟩
  replace f:=f.kept k;replace m:=m.kept k;have n:=hS.size;refine yc 3 47 _ hS (t _ (K.trans hS.zero)) λ e W ⟨v,he,hv,k⟩=>⟨k,v,he,λ hS=> ?_⟩
  replace f:=f.kept k;replace m:=m.kept k;replace d:=d.kept k;rotate_left 1;all_goals
   obtain⟨U,rfl,Z⟩:=d.own;obtain⟨V,rfl,Y⟩:=hv.own;have J:=m.aZ rfl;refine yt 6 m PE Z (.inr y) hS λ W E b6 hS=> ?_;replace f:=f.ai E (Ne.symm r)
   have I:=f.aZ rfl;refine yt 7 f PE Y (.inr x) hS λ W D b7 hS=>gB ?_;exact hj (g,g',.agg U,.agg V) _ _ ⟨rfl,rfl,trivial⟩ ⟨K.trans hS.zero,⟨U,V,rfl,rfl,b6.ai D r,b7⟩,(d.ai E J).ai D I,(hv.ai E J).ai D I⟩
 simp only at O N d hv A z;subst O;subst N;obtain⟨x1,x2,x3,x4,x5,x6,x7,x8,x9,xa,xb,xc,e1,q1,X⟩:=d;obtain⟨y1,y2,y3,y4,y5,y6,y7,y8,y9,ya,yb,yc,R,T,S⟩:=hv;cases e1
 cases R
 iterate 5 go_step
 refine zz ?_;refine kB (A.cell 8 rfl) ?_;refine zz ?_;refine eO ?_;refine zz ?_;refine eO ?_;refine kB (z.cell 8 rfl) ?_;refine zz ?_;iterate 3 go_step
 refine fx ?_;iterate 5 go_step
 refine zz ?_;refine kB (A.cell 6 rfl) ?_;refine zz ?_;refine kB (z.cell 6 rfl) ?_;refine z2 (.bool (i.li==j.li)) ?_;refine zz ?_;cases h1:(i.li==j.li)
 case' false=>
  iterate 5 refine EX ?_
  iterate 2 refine zz ?_
  iterate 6 refine EX ?_
  iterate 2 refine zz ?_
  iterate 6 refine EX ?_
  iterate 2 refine zz ?_
  iterate 5 go_step
  exact aF ⟨by rw[vt,h1],K⟩
 refine eO ?_;refine zz ?_;refine eO ?_;refine kB (A.cell 7 rfl) ?_;refine eO ?_;refine zz ?_;refine eO ?_;refine kB (z.cell 7 rfl) ?_;refine eO ?_;refine z2 (.bool (i.hi==j.hi)) ?_;iterate 2 refine zz ?_
 cases h2:(i.hi==j.hi)
 case' false=>
  iterate 6 refine EX ?_
  iterate 2 refine zz ?_
  iterate 6 refine EX ?_
  iterate 2 refine zz ?_
  iterate 5 go_step
  exact aF ⟨by rw[vt,h1,h2],K⟩
 refine eO ?_;refine zz ?_;refine eO ?_;refine zl (V:=#[_,_,_]) (A.part 0) zT ?_;refine eO ?_;refine zz ?_;refine eO ?_;refine zl (V:=#[_,_,_]) (z.part 0) zT ?_;refine eO ?_;refine zc 126 _ (rz q1 T B1 B2 C1 C2) ?_;rintro e W2 ⟨rfl,k⟩
 refine⟨_,rfl,?_⟩
 refine eO ?_;refine z2 (.bool (wU (VI i) (Qf i) (Qg i) (VI j) (Qf j) (Qg j)==0)) ?_;iterate 2 refine zz ?_
 cases h3:(wU (VI i) (Qf i) (Qg i) (VI j) (Qf j) (Qg j)==0)
 case' false=>
  iterate 6 refine EX ?_
  iterate 2 refine zz ?_
  iterate 5 go_step
  exact aF ⟨by rw[vt,h1,h2,h3],K.trans k⟩
 replace K:=K.trans k;replace A:=A.kept k;replace z:=z.kept k;refine eO ?_;refine zz ?_;refine eO ?_;refine zl (V:=#[_,_,_]) (A.part 3) zT ?_;refine eO ?_;refine zz ?_;refine eO ?_;refine zl (V:=#[_,_,_]) (z.part 3) zT ?_;refine eO ?_;refine zc 126 _ (rz (X.kept k) (S.kept k) B3 B4 C3 C4) ?_;rintro e W2 ⟨rfl,k⟩
 refine⟨_,rfl,?_⟩
 refine eO ?_;refine z2 (.bool (wU (YZ i) (SB i) (SC i) (YZ j) (SB j) (SC j)==0)) ?_;iterate 2 refine zz ?_
 iterate 5 go_step
 exact aF ⟨by rw[vt,h1,h2,h3],K.trans k⟩
def kZ:List aL->List aL->Bool
 |[],_=>true
 |_::_,[]=>true
 |s::r,s'::r'=>(s.name.toList==s'.name.toList)&&vt s.iv s'.iv&&kZ r r'
theorem KA(h:k<l.length)(a:k<l'.length):
 kZ (l.drop k) (l'.drop k)=((l[k].name.toList==l'[k].name.toList)&&vt l[k].iv l'[k].iv&&kZ (l.drop (k+1)) (l'.drop (k+1))):=by
 rw[List.drop_eq_getElem_cons h,List.drop_eq_getElem_cons a,kZ]
theorem NT(h:l.length<=k):kZ (l.drop k) (l'.drop k)=true:=by
 rw[List.drop_of_length_le h,kZ]
def Dj(l l':List aL):Bool:=((l.length:Int)==(l'.length:Int))&&kZ l l'
def VK(l:List aL):Prop:=∀k,(h:k<l.length)->l[k].iv.fine=true/\l[k].iv.void=false
theorem EY(h:iV l=true):VK l:=by
 intro k a;unfold iV at h;simp only[fv,List.all_eq_true] at h;have h2:=h.2 k (List.mem_range.2 a)
 unfold fF at h2;rw[jB a] at h2;simp only[fv,Bool.not_eq_true'] at h2;exact⟨h2.1.2,h2.2⟩
theorem DZ{a':Option Addr}{n' M:Nat}(h:AS w a n cap l)(R:AS w a' n' M l')(ho:VK l)(m:VK l'):
 Calls prog 58 #[.slice a n cap,.slice a' n' M] w λ e w'=>e= .returned (.bool (Dj l l'))/\aa w w':=by
 obtain⟨rfl,hc,BM,hi⟩:=h;obtain⟨rfl,Fl,Q,v⟩:=R;have x:Hid (Dj l l'=(((l.length:Int)==(l'.length:Int))&&kZ l l')):=Lib.hid rfl;generalize Dj l l'=d at*;rcases Bool.eq_false_or_eq_true ((l.length:Int) !=(l'.length:Int)) with z|z
 ·have c4:((l.length:Int)==(l'.length:Int))=false:=by rw[<-Bool.not_eq_true',<-bne];exact z
  have s:Hid (d=false):=Lib.hid (by rw[x.out,c4];rfl)
  clear hi v x c4 ho m;go_enter func58,ntmps58;go_wp2;go_ret;exact⟨by rw[s.out];rfl,aa.refl _⟩
 have c4:((l.length:Int)==(l'.length:Int))=true:=by rw[<-Bool.not_eq_false',<-bne];exact z
 have S:=Lib.hid (show l.length=l'.length by have:=c4;simp at this;omega)
 have s:Hid (d=kZ l l'):=Lib.hid (by rw[x.out,c4];rfl)
 clear x c4;go_enter func58,ntmps58;go_wp2;go_loopw [5] (λ i wr=>∃(k:Nat),k<=l.length/\i= .int .i64 (k:Int)/\Hid (kZ (l.drop k) (l'.drop k)=kZ l l')/\aa w wr) (λ i _=>l.length-(intOf i).toNat)
 case atStart=>exact⟨0,eo _,rfl,Lib.hid rfl,aa.refl _⟩
 case round=>
  obtain⟨k,DI,rfl,N,c⟩:=hrel;by_cases u:k<l.length
  ·have t:k<l'.length:=by have:=S.out;omega
   obtain⟨b,off,s1,a1,n1,c1,a2,n2,c2,s2,a3,n3,c3,a4,n4,c4,p,q,rfl,I,h1,h2,h3,H,G,F,E,D,hv⟩:=hi k u;obtain⟨b',fJ,t1,e1,m1,d1,e2,m2,d2,t2,e3,m3,d3,e4,m4,d4,p',q',rfl,g0,g1,g2,g3,L,K,J,g7,g8,A⟩:=v k t;have g:=λ (w':World) (k':aa w w')=>Kz (hv.kept k') (A.kept k') (ho k u).1 (m k t).1 (ho k u).2 (m k t).2;have f:=KA u t;rw[N.out] at f;clear hi v hv A ho m;generalize C:l[k].name=P at*;generalize o:l'[k].name=y at*;have Wv:=Lib.hid (And.intro C o);clear C o;generalize vt l[k].iv l'[k].iv=O at*;go_wp2_with fail
   have z0:=λ (k:KW wr)=>k.kept.cell (c.cell I)
   have z1:=λ (k:KW wr)=>k.kept.cell (c.cell h1)
   have z2:=λ (k:KW wr)=>k.kept.cell (c.cell h2)
   have Z:=λ (k:KW wr)=>k.kept.cell (c.cell h3)
   have Y:=λ (k:KW wr)=>k.kept.cell (c.cell H)
   have X:=λ (k:KW wr)=>k.kept.cell (c.cell G)
   have W:=λ (k:KW wr)=>k.kept.cell (c.cell F)
   have V:=λ (k:KW wr)=>k.kept.cell (c.cell E)
   have U:=λ (k:KW wr)=>k.kept.cell (c.cell D)
   have y0:=λ (k:KW wr)=>k.kept.cell (c.cell g0)
   have y1:=λ (k:KW wr)=>k.kept.cell (c.cell g1)
   have y2:=λ (k:KW wr)=>k.kept.cell (c.cell g2)
   have y3:=λ (k:KW wr)=>k.kept.cell (c.cell g3)
   have y4:=λ (k:KW wr)=>k.kept.cell (c.cell L)
   have y5:=λ (k:KW wr)=>k.kept.cell (c.cell K)
   have y6:=λ (k:KW wr)=>k.kept.cell (c.cell J)
   have y7:=λ (k:KW wr)=>k.kept.cell (c.cell g7)
   have y8:=λ (k:KW wr)=>k.kept.cell (c.cell g8)
   clear I h1 h2 h3 H G F E D g0 g1 g2 g3 L K J g7 g8;have g:=λ (k:KW wr)=>g k.w (c.trans k.kept)
   cases B:(P.toList==y.toList)
   ·rw[B] at f;have r:Hid (d=false):=Lib.hid (by rw[s.out,f];rfl)
    clear f;refine ag wr (aa.refl _) (by kernel_rfl) (by kernel_rfl) ?_;repeat (go_big_quiet_step (first|(go_at_call 133;exact aG (g _))))
    refine wpQuiet_nil ?_;rintro _ ⟨j,rfl⟩
    clear g;go_wp2;go_ret;exact⟨by rw[r.out];rfl,c.trans j.kept⟩
   rw[B] at f;cases O
   ·have r:Hid (d=false):=Lib.hid (by rw[s.out,f];rfl)
    clear f;refine ag wr (aa.refl _) (by kernel_rfl) (by kernel_rfl) ?_;repeat (go_big_quiet_step (first|(go_at_call 133;exact aG (g _))))
    refine wpQuiet_nil ?_;rintro _ ⟨j,rfl⟩
    clear g;go_wp2;go_ret;exact⟨by rw[r.out];rfl,c.trans j.kept⟩
   ·have T:=Lib.hid f;clear f;refine ag wr (aa.refl _) (by kernel_rfl) (by kernel_rfl) ?_;repeat (go_big_quiet_step (first|(go_at_call 133;exact aG (g _))))
    refine wpQuiet_nil ?_;rintro _ ⟨j,rfl⟩
    clear g;go_wp2;go_roundw
    case rel=>exact⟨k+1,by omega,by go_num,Lib.hid T.out.symm,c.trans j.kept⟩
    case measure=>simp[intOf];omega
  ·obtain rfl:l.length=k:=by omega
   clear hi v ho m;have r:Hid (d=true):=Lib.hid (by rw[s.out,<-N.out];exact NT (aU _))
   go_wp2;go_ret;exact⟨by rw[r.out];rfl,c⟩
def lh:List eE->List eE->Bool
 |[],_=>true
 |_::_,[]=>true
 |c::r,c'::r'=>nQ c.t c'.t&&(c.strict==c'.strict)&&lh r r'
theorem KD{l l':List eE}(h:k<l.length)(a:k<l'.length):
 lh (l.drop k) (l'.drop k)=(nQ l[k].t l'[k].t&&(l[k].strict==l'[k].strict)&&lh (l.drop (k+1)) (l'.drop (k+1))):=by
 rw[List.drop_eq_getElem_cons h,List.drop_eq_getElem_cons a,lh]
theorem NU{l l':List eE}(h:l.length<=k):lh (l.drop k) (l'.drop k)=true:=by
 rw[List.drop_of_length_le h,lh]
def Ks(c d:bS):Bool:=nQ c.goal d.goal&&(c.strict==d.strict)&&Dj c.box d.box&&((c.conds.length:Int)==(d.conds.length:Int))&&lh c.conds d.conds
theorem KG(h:c.ok=true):iV c.box=true/\c.goal.ok=true/\c.conds.length<=12/\∀k,(a:k<c.conds.length)->c.conds[k].t.ok=true:=by
 unfold bS.ok at h;simp only[fv,List.all_eq_true,oh] at h;refine⟨h.1.1.1.1,h.1.1.2,h.1.1.1.2,λ k a=> ?_⟩
 have:=h.2 _ (List.getElem_mem a)
 unfold jL at this;simp only[fv] at this;exact this.1
theorem JD{f':Nat}{u:Value}{d:bS}(h:Sk w f v c)(h':Sk w f' u d)(ho:c.ok=true)(Ho:d.ok=true):
 Calls prog 18 #[v,u] w λ e w'=>e= .returned (.bool (Ks c d))/\aa w w':=by
 obtain⟨p1,p2,-,p4⟩:=KG ho;obtain⟨q1,q2,-,q4⟩:=KG Ho;obtain⟨o,g,z,x1,x2,x3,x4,x5,x6,nm,a0,n0,Z,a1,n1,Y,a2,n2,X,rfl,hg,hb,hc⟩:=h;obtain⟨o',g',z',x1',x2',x3',x4',x5',x6',nm',a0',n0',aay,a1',n1',aaz,a2',P,VG,rfl,DE,uJ,Fl⟩:=h';have s:=λ (w':World) (k:aa w w')=>yW f (hg.kept k) (DE.kept k) (rA p2) (rA q2)
 have W:=λ (w':World) (k:aa w w')=>DZ (hb.kept k) (uJ.kept k) (EY p1) (EY q1)
 have hce:n2=c.conds.length:=hc.1;have U:P=d.conds.length:=Fl.1;have YH:=Lib.hid hce;have amW:=Lib.hid U;have HC:=Lib.hid hc.2.2.2;have HC':=Lib.hid Fl.2.2.2;have HN:=Lib.hid (λ k (m:k<c.conds.length)=>rA (p4 k m))
 have HN':=Lib.hid (λ k (m:k<d.conds.length)=>rA (q4 k m))
 have Dw:n2<4611686018427387904:=hc.2.2.1;have amq:P<4611686018427387904:=Fl.2.2.1;clear hc Fl hb uJ hg DE ho Ho p1 p2 p4 q1 q2 q4;have N:Hid (Ks c d=(nQ c.goal d.goal&&(c.strict==d.strict)&&Dj c.box d.box&&((n2:Int)==(P:Int))&&lh c.conds d.conds)):=Lib.hid (by rw[hce,U];rfl)
 clear hce U;generalize Ks c d=n at*;generalize nQ c.goal d.goal=s1 at*;generalize Dj c.box d.box=s2 at*;generalize c.strict=st at*;generalize d.strict=Q at*;have hA:=aD.new w #[.int .i64 o,.int .i64 g,.bool z,.slice x1 x2 x3,.slice x4 x5 x6,.string nm,.slice a0 n0 Z,.bool st,.slice a1 n1 Y,.slice a2 n2 X] 31;have l:=aD.new (w.alloc (.cells #[.int .i64 o,.int .i64 g,.bool z,.slice x1 x2 x3,.slice x4 x5 x6,.string nm,.slice a0 n0 Z,.bool st,.slice a1 n1 Y,.slice a2 n2 X] 31)) #[.int .i64 o',.int .i64 g',.bool z',.slice x1' x2' x3',.slice x4' x5' x6',.string nm',.slice a0' n0' aay,.bool Q,.slice a1' n1' aaz,.slice a2' P VG] 31;rw[show(w.alloc (.cells #[.int .i64 o,.int .i64 g,.bool z,.slice x1 x2 x3,.slice x4 x5 x6,.string nm,.slice a0 n0 Z,.bool st,.slice a1 n1 Y,.slice a2 n2 X] 31)).heap.size=w.heap.size+1 from Array.size_push _] at l
 have a:aa w (w.alloc (.cells #[.int .i64 o,.int .i64 g,.bool z,.slice x1 x2 x3,.slice x4 x5 x6,.string nm,.slice a0 n0 Z,.bool st,.slice a1 n1 Y,.slice a2 n2 X] 31)):=(aa.refl w).alloc _;have r:aa (w.alloc (.cells #[.int .i64 o,.int .i64 g,.bool z,.slice x1 x2 x3,.slice x4 x5 x6,.string nm,.slice a0 n0 Z,.bool st,.slice a1 n1 Y,.slice a2 n2 X] 31)) ((w.alloc (.cells #[.int .i64 o,.int .i64 g,.bool z,.slice x1 x2 x3,.slice x4 x5 x6,.string nm,.slice a0 n0 Z,.bool st,.slice a1 n1 Y,.slice a2 n2 X] 31)).alloc (.cells #[.int .i64 o',.int .i64 g',.bool z',.slice x1' x2' x3',.slice x4' x5' x6',.string nm',.slice a0' n0' aay,.bool Q,.slice a1' n1' aaz,.slice a2' P VG] 31)):=(aa.refl _).alloc _;replace hA:=hA.kept r;have m:=a.trans r;clear a r;obtain⟨e0,e1,E,D,C,B,A,y,x,p,-⟩:=hA.cO;obtain⟨d0,M,L,K,J,I,H,G,F,q,-⟩:=l.cO;cases s1
 ·have O:Hid (n=false):=Lib.hid (by rw[N.out];rfl)
  clear W N;go_enter func18,ntmps18;go_wp2_with(first|(go_at_call 57;refine(s _ m).mono ?_;rintro e w1 ⟨rfl,a⟩))
  go_ret;exact⟨by rw[O.out];rfl,m.trans a⟩
 by_cases dp:st=Q;rotate_left
 ·have O:Hid (n=false):=Lib.hid (by rw[N.out,vy dp];rfl)
  clear W N
  cases st<;>cases Q<;>first|exact absurd rfl dp|(clear dp;go_enter func18,ntmps18
                                                  go_wp2_with(first|(go_at_call 57;refine(s _ m).mono ?_;rintro e w1 ⟨rfl,a⟩;replace hA:=hA.kept a;replace l:=l.kept a;clear e0 e1 E D C B A y x p d0 M L K J I H G F q;obtain⟨e0,e1,E,D,C,B,A,y,x,p,-⟩:=hA.cO;obtain⟨d0,M,L,K,J,I,H,G,F,q,-⟩:=l.cO))
                                                  go_ret;exact⟨by rw[O.out];rfl,m.trans a⟩)
 subst dp;rw[beq_self_eq_true] at N;cases s2
 ·have O:Hid (n=false):=Lib.hid (by rw[N.out];rfl)
  clear N;go_enter func18,ntmps18;go_wp2_with(first|(go_at_call 57;refine(s _ m).mono ?_;rintro e w1 ⟨rfl,a⟩;replace hA:=hA.kept a;replace l:=l.kept a;clear e0 e1 E D C B A y x p d0 M L K J I H G F q;obtain⟨e0,e1,E,D,C,B,A,y,x,p,-⟩:=hA.cO;obtain⟨d0,M,L,K,J,I,H,G,F,q,-⟩:=l.cO)|(go_at_call 58;refine(W _ (m.trans a)).mono ?_;rintro e w2 ⟨rfl,r⟩))
  go_ret;exact⟨by rw[O.out];rfl,(m.trans a).trans r⟩
 rcases Bool.eq_false_or_eq_true ((n2:Int) !=(P:Int)) with b4|b4
 ·have c4:((n2:Int)==(P:Int))=false:=by rw[<-Bool.not_eq_true',<-bne];exact b4
  have O:Hid (n=false):=Lib.hid (by rw[N.out,c4];rfl)
  clear N c4;go_enter func18,ntmps18;go_wp2_with(first|(go_at_call 57;refine(s _ m).mono ?_;rintro e w1 ⟨rfl,a⟩;replace hA:=hA.kept a;replace l:=l.kept a;clear e0 e1 E D C B A y x p d0 M L K J I H G F q;obtain⟨e0,e1,E,D,C,B,A,y,x,p,-⟩:=hA.cO;obtain⟨d0,M,L,K,J,I,H,G,F,q,-⟩:=l.cO)|(go_at_call 58;refine(W _ (m.trans a)).mono ?_;rintro e w2 ⟨rfl,r⟩;replace hA:=hA.kept r;replace l:=l.kept r;clear e0 e1 E D C B A y x p d0 M L K J I H G F q;obtain⟨e0,e1,E,D,C,B,A,y,x,p,-⟩:=hA.cO;obtain⟨d0,M,L,K,J,I,H,G,F,q,-⟩:=l.cO))
  go_ret;exact⟨by rw[O.out];rfl,(m.trans a).trans r⟩
 have c4:((n2:Int)==(P:Int))=true:=by rw[<-Bool.not_eq_false',<-bne];exact b4
 have VF:=Lib.hid (show n2=P by have:=c4;simp at this;omega)
 have O:Hid (n=lh c.conds d.conds):=Lib.hid (by rw[N.out,c4];rfl)
 clear N c4;go_enter func18,ntmps18;go_wp2_with(first|(go_at_call 57;refine(s _ m).mono ?_;rintro e w1 ⟨rfl,a⟩;replace hA:=hA.kept a;replace l:=l.kept a;clear e0 e1 E D C B A y x p d0 M L K J I H G F q;obtain⟨e0,e1,E,D,C,B,A,y,x,p,-⟩:=hA.cO;obtain⟨d0,M,L,K,J,I,H,G,F,q,-⟩:=l.cO)|(go_at_call 58;refine(W _ (m.trans a)).mono ?_;rintro e w2 ⟨rfl,r⟩;replace hA:=hA.kept r;replace l:=l.kept r;clear e0 e1 E D C B A y x p d0 M L K J I H G F q;obtain⟨e0,e1,E,D,C,B,A,y,x,p,-⟩:=hA.cO;obtain⟨d0,M,L,K,J,I,H,G,F,q,-⟩:=l.cO))
 have dI:=(m.trans a).trans r;clear s W m a r e0 e1 E D C B A y x p d0 M L K J I H G F q b4;go_loopw [5] (λ i wr=>∃(k:Nat),k<=n2/\i= .int .i64 (k:Int)/\Hid (lh (c.conds.drop k) (d.conds.drop k)=lh c.conds d.conds)/\aa w wr/\aa w2 wr) (λ i _=>n2-(intOf i).toNat)
 case atStart=>exact⟨0,eo _,rfl,Lib.hid rfl,dI,aa.refl _⟩
 case round=>
  obtain⟨k,DI,rfl,xG,j,dm⟩:=hrel;obtain⟨-,-,-,-,-,-,-,-,-,p,-⟩:=(hA.kept dm).cO;obtain⟨-,-,-,-,-,-,-,-,-,q,-⟩:=(l.kept dm).cO;by_cases aI:k<n2
  ·have yR:k<P:=by have:=VF.out;omega
   have hl:k<c.conds.length:=by have:=YH.out;omega
   have S0:k<d.conds.length:=by have:=amW.out;omega
   obtain⟨b,off,r0,r1,r2,u1,u2,u3,u4,u5,u6,um,ua,un,at5,rfl,q0,q1,q2,q3,q4,q5,q6,q7,hex⟩:=HC.out k hl;obtain⟨b',fJ,r0',r1',Zw,v1,v2,v3,v4,v5,v6,vm,va,vn,Xr,rfl,m0,m1,m2,m3,m4,m5,m6,m7,VH⟩:=HC'.out k S0;have T:=λ (w':World) (k':aa w w')=>yW f (hex.kept k') (VH.kept k') (HN.out k hl) (HN'.out k S0)
   have S:=KD hl S0;rw[xG.out] at S;clear hex VH;generalize c.conds[k].strict=tt at*;generalize d.conds[k].strict=tt' at*;generalize nQ c.conds[k].t d.conds[k].t=si at*;go_wp2_with fail
   have z0:=λ (k:KW wr)=>k.kept.cell (j.cell q0)
   have z1:=λ (k:KW wr)=>k.kept.cell (j.cell q1)
   have z2:=λ (k:KW wr)=>k.kept.cell (j.cell q2)
   have z3:=λ (k:KW wr)=>k.kept.cell (j.cell q3)
   have z4:=λ (k:KW wr)=>k.kept.cell (j.cell q4)
   have z5:=λ (k:KW wr)=>k.kept.cell (j.cell q5)
   have z6:=λ (k:KW wr)=>k.kept.cell (j.cell q6)
   have z7:=λ (k:KW wr)=>k.kept.cell (j.cell q7)
   have y0:=λ (k:KW wr)=>k.kept.cell (j.cell m0)
   have y1:=λ (k:KW wr)=>k.kept.cell (j.cell m1)
   have y2:=λ (k:KW wr)=>k.kept.cell (j.cell m2)
   have y3:=λ (k:KW wr)=>k.kept.cell (j.cell m3)
   have y4:=λ (k:KW wr)=>k.kept.cell (j.cell m4)
   have y5:=λ (k:KW wr)=>k.kept.cell (j.cell m5)
   have y6:=λ (k:KW wr)=>k.kept.cell (j.cell m6)
   have y7:=λ (k:KW wr)=>k.kept.cell (j.cell m7)
   have z9:=λ (k:KW wr)=>k.kept.cell p;have y9:=λ (k:KW wr)=>k.kept.cell q;clear q0 q1 q2 q3 q4 q5 q6 q7 m0 m1 m2 m3 m4 m5 m6 m7 p q;have T:=λ (k:KW wr)=>T k.w (j.trans k.kept)
   cases si
   ·have NS:Hid (n=false):=Lib.hid (by rw[O.out,S];rfl)
    clear S;refine ag wr (aa.refl _) (by kernel_rfl) (by kernel_rfl) ?_;repeat (go_big_quiet_step (first|(go_at_call 57;exact aG (T _))))
    refine wpQuiet_nil ?_;rintro _ ⟨V,rfl⟩
    clear T;go_wp2;go_ret;exact⟨by rw[NS.out];rfl,j.trans V.kept⟩
   by_cases R:tt=tt'
   ·subst R;rw[beq_self_eq_true] at S;have YO:=Lib.hid S;clear S;refine ag wr (aa.refl _) (by kernel_rfl) (by kernel_rfl) ?_;repeat (go_big_quiet_step (first|(go_at_call 57;exact aG (T _))))
    refine wpQuiet_nil ?_;rintro _ ⟨V,rfl⟩
    clear T;go_wp2;go_roundw
    case rel=>exact⟨k+1,by omega,by go_num,Lib.hid YO.out.symm,j.trans V.kept,dm.trans V.kept⟩
    case measure=>simp[intOf];omega
   ·rw[vy R] at S;have NS:Hid (n=false):=Lib.hid (by rw[O.out,S];rfl)
    clear S
    cases tt<;>cases tt'<;>first|exact absurd rfl R|(clear R
                                                     refine ag wr (aa.refl _) (by kernel_rfl) (by kernel_rfl) ?_;repeat (go_big_quiet_step (first|(go_at_call 57;exact aG (T _))))
                                                     refine wpQuiet_nil ?_;rintro _ ⟨V,rfl⟩
                                                     clear T;go_wp2;go_ret;exact⟨by rw[NS.out];rfl,j.trans V.kept⟩)
  ·obtain rfl:n2=k:=by omega
   have NS:Hid (n=true):=Lib.hid (by rw[O.out,<-xG.out];exact NU (Nat.le_of_eq YH.out.symm))
   go_wp2;go_ret;exact⟨by rw[NS.out];rfl,j⟩
theorem NO(s:Bool)(N D:Nat):Ag s N D s N D=true:=by
 unfold Ag;rw[wV,Int.sub_self]
 rfl
mutual
theorem wA:∀(t:aj),nQ t t=true
 | .node op arg s N D name kids=>by
   rw[nQ,NO,Ah kids]
   simp
theorem Ah:∀(ts:List aj),kY ts ts=true
 |[]=>by rw[kY]
 |t::ts=>by rw[kY,wA t,Ah ts];rfl
end
theorem NP(i:im):vt i i=true:=by
 unfold vt;rw[wV,wV,Int.sub_self,Int.sub_self]
 simp[sg]
theorem Ai:∀(l:List aL),kZ l l=true
 |[]=>by rw[kZ]
 |s::l=>by rw[kZ,NP,Ai l];simp
theorem Aj:∀(l:List eE),lh l l=true
 |[]=>by rw[lh]
 |s::l=>by rw[lh,wA,Aj l];simp
theorem M0(c:bS):Ks c c=true:=by
 unfold Ks Dj;rw[wA,Ai,Aj]
 simp
theorem M2{neg:Bool}(h:Rt w v neg N D)(g:cL w)(hs:aX N D=true):
 Calls prog 155 #[v] w λ e w'=>∃a n c a' b d,e= .returned (.tuple #[.agg #[.bool (neg&&decide (0<N)),.slice a n c,.slice a' b d],.bool true])/\
  Fr w' (.agg #[.bool (neg&&decide (0<N)),.slice a n c,.slice a' b d]) (neg&&decide (0<N)) (rN N D) (rD N D)/\aa w w':=by
 refine(lN h g).mono ?_;rintro e w' ⟨p,a,n,c,a',b,d,rfl,f,hf⟩
 have hf:=hf hs;obtain rfl:=PJ hf;rw[hs]
 exact⟨a,n,c,a',b,d,rfl,hf,f⟩
mutual
def cY:aj->Prop
 | .node op arg s N D name kids=>bJ op arg s N D name kids.length=true/\qX kids
def qX:List aj->Prop
 |[]=>True
 |t::ts=>cY t/\qX ts
end
theorem Ck(h:qX ts):∀(i:Nat)(hi:i<ts.length),cY ts[i]:=by
 induction ts with
 |nil=>intro i hi;exact absurd hi (Nat.not_lt_zero i)
 |cons t r ih=>
  intro i hi;cases i with
  |zero=>exact h.1
  |succ i=>exact ih h.2 i (by simpa using hi)
mutual
theorem Kp:∀(t:aj)(d m m':Nat),mX t d m=some m'->cY t
 | .node op arg s N D name kids,d,m,m'=>by
   intro h;rw[mX] at h;split at h
   ·cases h
   ·rename_i hc;refine⟨?_,EU kids (d+1) (m+1) m' h⟩
    cases hn:bJ op arg s N D name kids.length
    ·exact absurd (.inr (.inr hn)) hc
    ·rfl
theorem EU:∀(ts:List aj)(d m m':Nat),ik ts d m=some m'->qX ts
 |[],_,_,_=>λ _=>trivial
 |t::ts,d,m,m'=>by
  intro h;rw[ik] at h;cases h1:mX t d m with
  |none=>rw[h1] at h;cases h
  |some a=>
   rw[h1] at h;exact⟨Kp t d m a h1,EU ts d a m' h⟩
end
theorem fc(h:t.ok=true):cY t:=by
 unfold aj.ok at h;obtain⟨m,hm⟩:=Option.isSome_iff_exists.1 h;exact Kp t 1 0 m hm
theorem TJ(h:bJ op arg s N D name n=true)(h1:op=1):aX N D=true/\n=0:=by
 subst h1;unfold bJ iq at h;simp at h;exact⟨h.2.1.1,by omega⟩
def cD(N D:Nat):Nat:=if rD N D=1 then 0 else rD N D
theorem TB(N D:Nat):dn (cD N D)=rD N D:=by
 unfold cD dn;have h:=yF N D;split<;>split<;>omega
theorem TC(N D:Nat):Nat.gcd (rN N D) (rD N D)=1:=by
 unfold rN rD;exact Nat.gcd_div_gcd_div_gcd_of_pos_right (vM D)
theorem Fz(N D:Nat):rN (rN N D) (cD N D)=rN N D:=by
 rw[rN,TB,TC,Nat.div_one]
theorem L5(N D:Nat):rD (rN N D) (cD N D)=rD N D:=by
 rw[rD,TB,TC,Nat.div_one]
theorem yB(h:aX N D=true):aX (rN N D) (cD N D)=true:=by
 unfold aX at h⊢;rw[Fz,L5]
 simp only[fv,oh] at h⊢;obtain⟨⟨-,h3⟩,d⟩:=h;have c:=h3;have b:=d;unfold bn at c b;have f:=kC c;have e:=kC b;have a:iy 2 2048<=iy 2 8192:=mB _ _ (by decide)
 refine⟨⟨⟨jf f a,?_⟩,h3⟩,d⟩
 unfold cD;split
 ·exact jt _
 ·exact jf e a
mutual
def cR:aj->aj
 | .node op arg _ N D name kids=>.node op arg false (if op=1 then rN N D else 0) (if op=1 then cD N D else 0) name (di kids)
def di:List aj->List aj
 |[]=>[]
 |t::ts=>cR t::di ts
end
theorem ug:∀(ts:List aj),di ts=ts.map cR
 |[]=>by rw[di];rfl
 |t::ts=>by rw[di,ug ts];rfl
theorem kN(ts:List aj):(di ts).length=ts.length:=by rw[ug,List.length_map]
theorem Mh(h:bJ op arg s N D name n=true):
 bJ op arg false (if op=1 then rN N D else 0) (if op=1 then cD N D else 0) name n=true:=by
 unfold bJ at h⊢;simp only[fv] at h⊢;refine⟨h.1,?_⟩
 have h2:=h.2;by_cases h1:op=1
 ·simp only[if_pos h1,fv] at h2⊢;exact⟨⟨yB h2.1.1,by simp⟩,h2.2⟩
 ·simp only[if_neg h1,fv] at h2⊢;exact⟨by simp,h2.2⟩
mutual
theorem OR:∀(t:aj)(d m:Nat),cY t->mX (cR t) d m=mX t d m
 | .node op arg s N D name kids,d,m=>by
   intro h;obtain⟨h1,h2⟩:=h;rw[cR,mX,mX,kN,Mh h1,h1,I5 kids (d+1) (m+1) h2]
theorem I5:∀(ts:List aj)(d m:Nat),qX ts->ik (di ts) d m=ik ts d m
 |[],d,m=>by intro _;rw[di]
 |t::ts,d,m=>by
  intro h;rw[di,ik,ik,OR t d m h.1]
  cases mX t d m with
  |none=>rfl
  |some m'=>exact I5 ts d m' h.2
end
theorem TD(h:t.ok=true):(cR t).ok=true:=by
 have hw:=fc h;unfold aj.ok at h⊢;rw[OR t 1 0 hw]
 exact h
theorem Sj.sub{l:List eE}(h:Sj w f a n cap l)(k:nT w w'):Sj w' f a n cap l:=by
 obtain⟨hn,hc,hb,hi⟩:=h;refine⟨hn,hc,hb,λ i h=> ?_⟩
 obtain⟨b,off,o,g,z,x1,x2,x3,x4,x5,x6,nm,a',c,q,ha,p,h1,h2,h3,m,j,e,d,he⟩:=hi i h;exact⟨b,off,o,g,z,x1,x2,x3,x4,x5,x6,nm,a',c,q,ha,k _ _ p,k _ _ h1,k _ _ h2,k _ _ h3,k _ _ m,k _ _ j,k _ _ e,k _ _ d,he.sub k⟩
theorem Sk.sub(h:Sk w f v c)(k:nT w w'):Sk w' f v c:=by
 obtain⟨o,g,z,x1,x2,x3,x4,x5,x6,nm,e,n0,d,a1,n1,b,a2,n2,a,rfl,h1,h2,h3⟩:=h;exact⟨o,g,z,x1,x2,x3,x4,x5,x6,nm,e,n0,d,a1,n1,b,a2,n2,a,rfl,h1.sub k,h2.sub k,h3.sub k⟩
def cl{α:Type}(R:List Value->α->Prop)(sz:Nat)(cs:List Value)(ts:List α):Prop:=
 cs.length=ts.length*sz/\∀(i:Nat)(h:i<ts.length),R ((cs.drop (i*sz)).take sz) ts[i]
theorem cl.nil{α:Type}(R:List Value->α->Prop)(sz:Nat):cl R sz [] []:=⟨by simp,λ i h=>absurd h (Nat.not_lt_zero i)⟩
theorem cl.mono{α:Type}{R R':List Value->α->Prop}{ts:List α}(h:cl R sz cs ts)(k:∀l t,R l t->R' l t):cl R' sz cs ts:=
 ⟨h.1,λ i hi=>k _ _ (h.2 i hi)⟩
theorem cl.snoc{α:Type}{R:List Value->α->Prop}{ts:List α}(h:cl R sz cs ts){l:List Value}{t:α}(c:l.length=sz)(hr:R l t):cl R sz (cs++l) (ts++[t]):=by
 refine⟨by rw[gJ,gJ,h.1,c,List.length_singleton,Nat.succ_mul],λ i hi=> ?_⟩
 by_cases a:i<ts.length
 ·rw[List.getElem_append_left a]
  have b:i*sz+sz<=cs.length:=by
   rw[h.1,<-Nat.succ_mul]
   exact wC sz a
  rw[List.drop_append_of_le_length (by omega),List.take_append_of_le_length (by rw[List.length_drop];omega)]
  exact h.2 i a
 ·have d:i=ts.length:=by simp at hi;omega
  subst d;rw[List.getElem_append_right (aU _)]
  simp only[Nat.sub_self,List.getElem_cons_zero]
  rw[<-h.1,List.drop_left,List.take_of_length_le (by omega)]
  exact hr
theorem cl.take_succ{α:Type}{R:List Value->α->Prop}{ts:List α}(b:k<ts.length)(h:cl R sz cs (ts.take k)){l:List Value}(a:l.length=sz)(hr:R l ts[k]):cl R sz (cs++l) (ts.take (k+1)):=by
 rw[List.take_succ_eq_append_getElem b]
 exact h.snoc a hr
theorem Ap.aiG{base:Nat}{zs:Nat->Nat}(h:Ap w base v n zs):∃a cap,v= .slice a n cap/\n<=cap/\Ws (aB w (ab base)) a n zs:=by
 obtain⟨f,⟨rfl,rfl⟩|⟨g,cap,b,rfl,hb,e,hn,_,j,d⟩⟩:=h
 ·exact⟨none,0,rfl,aU _,λ i hi=>by omega⟩
 ·refine⟨_,cap,rfl,hn,λ i hi=>⟨g,0,rfl,?_⟩⟩
  rw[lp,fQ,if_pos (by simpa [ab] using hb)]
  have c:(b.toList.take (n*1))[i]? =some (.int .u32 (zs i:Nat)):=by rw[d];simp[hi]
  rw[Nat.mul_one,List.getElem?_take,if_pos hi,Array.getElem?_toList] at c;simp[World.cell?,e,c]
def S1(n:Nat)(v:Value):Nat->Bool:=λ b=>decide (n<=b)&&(some b != v.ownBlock)
structure fW{α:Type}(W0 W:World)(b3:Nat)(e sz:Nat)(v:Value)(k:Nat)(cs:List Value)(R:World->List Value->α->Prop)(ts:List α):Prop where
 kb:af W0 W b3
 own:W.ownsRow W0.heap.size e sz v k cs
 rows:cl (R (aB W (S1 W0.heap.size v))) sz cs (ts.take k)
section
variable{α:Type}{W0 W W':World}{b3 e sz:Nat}{v:Value}{k:Nat}{cs:List Value}{R:World->List Value->α->Prop}{ts:List α}
theorem fW.start(W0:World)(b3 e sz:Nat)(R:World->List Value->α->Prop)(ts:List α):fW W0 W0 b3 e sz (.slice none 0 0) 0 [] R ts:=
 ⟨af.refl W0 b3,World.ownsRow_nil W0 _ e sz,cl.nil _ sz⟩
theorem fW.kept(h:fW W0 W b3 e sz v k cs R ts)(hR:∀w w',nT w w'->∀l t,R w l t->R w' l t)(q:aa W W'):fW W0 W' b3 e sz v k cs R ts:=
 ⟨af.aR h.kb q,dD h.own q,h.rows.mono (hR _ _ (au λ b hb hs=>⟨hs,q.old b hb⟩))⟩
theorem yp{base b:Nat}(h:W.ownsRow base e sz v n cs)(q:af W W' b)(hb:b<base):W'.ownsRow base e sz v n cs:=by
 refine World.ownsRow.kept (row:=some b) h ⟨q.os,q.tape,q.output,q.size,λ c hc a=>q.old c hc (λ e=>a (by rw[e]))⟩ ?_;cases hv:v.ownBlock with
 |none=>exact .inl rfl
 |some g=>
  refine .inr λ he=> ?_;cases he
  have:=(World.ownsRow.lt h b hv).1;omega
theorem fW.store(h:fW W0 W b3 e sz v k cs R ts)(hR:∀w w',nT w w'->∀l t,R w l t->R w' l t)(q:af W W' b3)(hb:b3<W0.heap.size):fW W0 W' b3 e sz v k cs R ts:=
 ⟨af.cX h.kb q,yp h.own q hb,h.rows.mono (hR _ _ (au λ b hc hs=>⟨hs,q.old b hc (by
   simp only[S1,fv,oh] at hs;omega)⟩))⟩
theorem fW.append{v':Value}{l:List Value}(h:fW W0 W b3 e sz v k cs R ts)(hR:∀w w',nT w w'->∀l t,R w l t->R w' l t)(i:W0.heap.size<=W.heap.size)
 (ho:W'.ownsRow W0.heap.size e sz v' (k+1) (cs++l))(a:W.grownBy W' v.ownBlock)(hb:v'.ownBlock=v.ownBlock∨∀g,v'.ownBlock=some g->W.heap.size<=g)(n:l.length=sz)
 (o:k<ts.length){S:Nat->Bool}(hr:R (aB W S) l ts[k])(hS:∀b,S b=true->W0.heap.size<=b/\some b≠v.ownBlock):fW W0 W' b3 e sz v' (k+1) (cs++l) R ts:=by
 have d:∀T:Nat->Bool,(∀b,T b=true->W0.heap.size<=b/\some b≠v.ownBlock)->nT (aB W T) (aB W' (S1 W0.heap.size v')):=by
  intro T f;refine au λ b m hs=>⟨?_,a.block b m (λ he=>(f b hs).2 he)⟩
  simp only[S1,fv,oh,bne_iff_ne]
  refine⟨(f b hs).1,λ he=> ?_⟩
  rcases hb with hb|hb
  ·exact(f b hs).2 (by rw[he,hb])
  ·have:=hb b he.symm;omega
 refine⟨⟨jP h.kb.size a.size,λ c hc j=> ?_,a.tape.trans h.kb.tape,a.os.trans h.kb.os,a.output.trans h.kb.output⟩,ho,?_⟩
 ·refine(a.block c (jf hc i) (λ he=> ?_)).trans (h.kb.old c hc j)
  have:=(World.ownsRow.lt h.own c he.symm).1;omega
 ·refine cl.take_succ o (h.rows.mono (hR _ _ (d _ λ b hs=> ?_))) n (hR _ _ (d S hS) _ _ hr)
  simpa [S1] using hs
end
theorem Ex.mk{kids:List aj}{x1:Option Addr}{x2 x3:Nat}{x4:Option Addr}{x5 x6:Nat}
 (hc:kids.length<=cap)(hr:Rt w (.agg #[.bool s,.slice x1 x2 x3,.slice x4 x5 x6]) s N D)(hn:kids.length<4611686018427387904)
 (e:∀i,i<cs.length->∃b,a=some ⟨b,0,none⟩/\w.cell? ⟨b,i,none⟩=cs[i]?)(d:cl (λ l t=>Ex w f (.agg l.toArray) t) 7 cs kids):
 Ex w (f+1) (.agg #[.int .i64 op,.int .i64 arg,.bool s,.slice x1 x2 x3,.slice x4 x5 x6,.string name,.slice a kids.length cap]) (.node op arg s N D name kids):=by
 refine⟨x1,x2,x3,x4,x5,x6,a,cap,rfl,hc,hr,hn,λ i h=> ?_⟩
 have c:i*7+7<=cs.length:=by rw[d.1];omega
 obtain⟨b,ha,-⟩:=e (i*7) (by omega)
 refine⟨b,0,((cs.drop (i*7)).take 7).toArray,ha,by simp;omega,λ j k=> ?_,d.2 i h⟩
 obtain⟨b',g,m⟩:=e (i*7+j) (by omega)
 rw[ha] at g;cases g
 rw[show 0+7*i+j=i*7+j by omega,m]
 simp[k]
theorem aaN:gY 41 (.agg #[.string ⟨#[]⟩,.bool false,.slice none 0 0,.slice none 0 0,.bool false,.slice none 0 0,.slice none 0 0,.bool false,.bool false]) 9 136:=mD (by kernel_rfl)
theorem dh{ops:Array Oper}{rest:List Oper}{o:Oper}{a:Act}{Q:Exit->Act->World->Prop}(C:o.guard=none)(s x:Operand)(t:TypeId)
 (ho:o.op= .call {callee:=.builtin .append,args:=#[s,x],argTypes:=#[t,t]}){e:TypeId}{z:Value}{sz D5:Nat}(hi:gY e z sz D5)(r:prog.underlying t=some (.slice e))(q:z.cells.size=sz)(y:0<sz)(E:D5<=1024)
 (base:Nat)(f:base<=w.heap.size)(v:Value)(n:Nat)(cs:List Value)(hs:a.eval s=v)(A:w.ownsRow base e sz v n cs)
 (ad:Addr)(m c:Nat)(b:List Value)(hx:a.eval x= .slice (some ad) m c)(B:b.length=m*sz)(d:∀j u,b[j]? =some u->w.cell? (ad.add j)=some u)(h1:∀u∈b,u.oneCell'=true)(hm:0<m)(hb:n+m<=1099511627)
 (h:∀v' w',w'.ownsRow base e sz v' (n+m) (cs++b)->w.grownBy w' v.ownBlock->(v'.ownBlock=v.ownBlock∨∀g,v'.ownBlock=some g->w.heap.size<=g)->wpList prog ops Q rest (a.put o.dst v') w'):
 wpList prog ops Q (o::rest) a w:=by
 obtain⟨i,hi,p,l,k⟩:=hi;refine wpList_append_lies w C s x t ho base e i z sz D5 r hi p l k q y v n cs hs A ad m c b hx B d h1 hm (by unfold maxLen;omega) (jP (Nat.mul_le_mul hb E) (by decide)) f w.heap.size rfl ?_;intro g cap w' h1 h2 h3 _;refine h _ w' h1 h2 ?_;rcases h3 with h3|h3
 ·exact .inl h3.symm
 ·refine .inr λ g' D=> ?_;cases D
  exact Nat.le_of_eq h3.symm
def Zn:World->List Value->aL->Prop:=λ W l d=>∃(s1:Bool)(a1:Option Addr)(n1 c1:Nat)(a2:Option Addr)(n2 c2:Nat)(s2:Bool)(a3:Option Addr)(n3 c3:Nat)(a4:Option Addr)(n4 c4:Nat)(p q:Bool),
 l=[.string d.name,.bool s1,.slice a1 n1 c1,.slice a2 n2 c2,.bool s2,.slice a3 n3 c3,.slice a4 n4 c4,.bool p,.bool q]/\
 AR W (.agg #[.bool s1,.slice a1 n1 c1,.slice a2 n2 c2,.bool s2,.slice a3 n3 c3,.slice a4 n4 c4,.bool p,.bool q]) d.iv
theorem AS.mk(hc:l.length<=cap)(hn:l.length<4611686018427387904)
 (g:∀i,i<cs.length->∃b,a=some ⟨b,0,none⟩/\w.cell? ⟨b,i,none⟩=cs[i]?)(f:cl (Zn w) 9 cs l):AS w a l.length cap l:=by
 refine⟨rfl,hc,hn,λ i h=> ?_⟩
 have d:i*9+9<=cs.length:=by rw[f.1];omega
 obtain⟨b,ha,-⟩:=g (i*9) (by omega)
 obtain⟨s1,a1,n1,c1,a2,n2,c2,s2,a3,n3,c3,a4,n4,c4,p,q,e,hv⟩:=f.2 i h;have c:∀j(u:Value),j<9->[Value.string l[i].name,.bool s1,.slice a1 n1 c1,.slice a2 n2 c2,.bool s2,.slice a3 n3 c3,.slice a4 n4 c4,.bool p,.bool q][j]? =some u->w.cell? ⟨b,0+i*9+j,none⟩=some u:=by
  intro j u n m;obtain⟨b',k,o⟩:=g (i*9+j) (by omega)
  rw[ha] at k;cases k
  rw[lp,o,<-m,<-e]
  simp[n]
 exact⟨b,0,s1,a1,n1,c1,a2,n2,c2,s2,a3,n3,c3,a4,n4,c4,p,q,ha,c 0 _ (by decide) rfl,c 1 _ (by decide) rfl,c 2 _ (by decide) rfl,c 3 _ (by decide) rfl,c 4 _ (by decide) rfl,c 5 _ (by decide) rfl,c 6 _ (by decide) rfl,c 7 _ (by decide) rfl,c 8 _ (by decide) rfl,hv⟩
theorem jS{S:Nat->Bool}(k:aa w w'):nT (aB w S) (aB w' S):=au λ b hb hs=>⟨hs,k.old b hb⟩
end Go.Proofs.YtbapfnpbamnmpaaGreatDoor
