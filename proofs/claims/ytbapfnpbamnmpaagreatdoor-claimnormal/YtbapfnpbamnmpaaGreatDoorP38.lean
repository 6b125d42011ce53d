/- A part of the proof that the text which Print makes of a parsed text is a normal form -/
import Derived.Test.YtbapfnpbamnmpaaGreatDoorP00
import Derived.Test.YtbapfnpbamnmpaaGreatDoorP21
import Derived.Test.YtbapfnpbamnmpaaGreatDoorP37
import Derived.Test.YtbapfnpbamnmpaaGreatDoorP26
import Derived.Test.YtbapfnpbamnmpaaGreatDoorP25
import Derived.Test.YtbapfnpbamnmpaaGreatDoorP36
set_option maxHeartbeats 8000000
set_option maxRecDepth 100000
namespace Go.Proofs.YtbapfnpbamnmpaaGreatDoor
open Go Go.RowKit Go.Dig Go.Deep Go.Eng Go.Proofs.Tryz
variable{W w w0:World}{D N bm c f g k n:Nat}{v:Value}{t:aj}{l:List UInt8}{es:Array MapEntry}{s:Bool}{x y:Operand}{arg op:Int}{name:ByteArray}
section
attribute [local irreducible] wpList
theorem JE(w:World)(op:Int):Calls prog 401 #[.int .i64 op] w λ e w'=>e= .returned (.int .i64 (iQ op:Int))/\w=w':=by
 by_cases h:op=5∨op=6∨op=7∨op=8∨op=4∨op=9
 ·rcases h with rfl|rfl|rfl|rfl|rfl|rfl<;>(go_enter func401,ntmps401;go_wp2;go_ret;exact⟨rfl,rfl⟩)
 ·have f:(op==5)=false:=by simp;omega
  have d:(op==6)=false:=by simp;omega
  have c:(op==7)=false:=by simp;omega
  have b:(op==8)=false:=by simp;omega
  have g:(op==4)=false:=by simp;omega
  have a:(op==9)=false:=by simp;omega
  have e:iQ op=5:=by unfold iQ;rw[if_neg (by omega),if_neg (by omega),if_neg (by omega),if_neg (by omega)]
  rw[e]
  clear h e;go_enter func401,ntmps401;go_wp2;go_ret;exact⟨rfl,rfl⟩
theorem JF(w:World)(arg:Int)(h1:1<=arg)(g:arg<=8):Calls prog 403 #[.int .i64 arg] w λ e w'=>∃s,e= .returned (.string s)/\s.data.toList=O0 arg/\s.size<=4/\aa w w':=by
 obtain⟨k,a,rfl⟩:∃k:Nat,k<8/\arg=((k+1:Nat):Int):=⟨(arg-1).toNat,by omega,by omega⟩
 refine ct 13 func403 rfl ntmps403 ?_;refine gx ?_;refine zc 328 _ (sG w) ?_;rintro e c ⟨b,rfl,hs,d⟩
 refine⟨_,rfl,?_⟩
 have hc:c.cell? ⟨b,0+k*1,none⟩=some (.string ((aW[k]?).getD ⟨#[]⟩)):=by rw[show 0+k*1=k by omega];exact hs k a
 have hf:O0 ((k+1:Nat):Int)=((aW[k]?).getD ⟨#[]⟩).data.toList:=by
  unfold O0;rw[show(((k+1:Nat):Int)-1).toNat=k by omega]
 have f:((aW[k]?).getD ⟨#[]⟩).size<=4:=by
  have:∀j,j<8->((aW[j]?).getD ⟨#[]⟩).size<=4:=by decide
  exact this k a
 refine gx ?_;refine mH (k:Int) ?_ ?_ ?_
 ·show((k+1:Nat):Int)-1=_;omega
 ·rw[IntKind.wrap_i64];omega
 refine zi (s:=1) k a ?_;refine kB hc ?_;refine gx ?_;exact aF ⟨_,rfl,hf.symm,f,d⟩
def WrC(w0:World)(g:Nat)(v:Value)(t:aj):Prop:=∀(l:List UInt8)(W:World),BW w0 g l W->l.length+(uv t).length<=140737488355328->
 Calls prog 306 #[.pointer (some ⟨g,0,none⟩),v] W λ e W'=>(∃u,e= .returned u)/\BW w0 g (l++uv t) W'/\DV g W W'
theorem oF(hx:Ex w0 f v t)(h:WrC w0 g v t)(k:Nat)(b:BW w0 g l W)(c:l.length+(r7 k (iQ (qt t),uv t)).length<=140737488355328):
 Calls prog 370 #[.pointer (some ⟨g,0,none⟩),v,.int .i64 (k:Int)] W λ e W'=>(∃u,e= .returned u)/\BW w0 g (l++r7 k (iQ (qt t),uv t)) W'/\DV g W W':=by
 cases f with
 |zero=>exact hx.elim
 |succ f=>
 obtain⟨op,arg,s,N,D,name,kids⟩:=t;obtain⟨x1,x2,x3,x4,x5,x6,a,cap,rfl,-⟩:=hx.shape;obtain⟨X,y⟩:∃X,X=uv (.node op arg s N D name kids):=⟨_,rfl⟩
 unfold WrC at h;rw[<-y] at h c⊢;replace c:l.length+(r7 k (iQ op,X)).length<=140737488355328:=c;show Calls _ _ _ _ λ e W'=>(∃u,e= .returned u)/\BW w0 g (l++r7 k (iQ op,X)) W'/\DV g W W';obtain⟨Y,i⟩:∃Y,Y=r7 k (iQ op,X):=⟨_,rfl⟩
 rw[<-i] at c⊢;refine dK [_,_,_] 21 func370 rfl ntmps370 (by simp) ?_;refine gx ?_;refine zb λ m g1 e1 n p q1=> ?_;have w:=b.kept n;have x:g1≠g:=by have:=b.lt.2;omega
 have q:=jl n g;refine gx ?_;refine zc 401 _ (JE m op) ?_;rintro e F ⟨rfl,rfl⟩
 refine gx ?_;by_cases o:k<=iQ op
 ·obtain rfl:Y=X:=i.trans (if_pos o)
  refine gx ?_;refine zl p.range ⟨by kernel_rfl,by first|kernel_rfl|simp[Value.oneCell']⟩ ?_;refine zc 306 _ (h l m w c) ?_;rintro e w3 ⟨⟨u,rfl⟩,j,d⟩
  refine gx ?_;exact TS λ v=>⟨⟨v,rfl⟩,j,q.trans d⟩
 obtain rfl:Y=40::(X++[41]):=i.trans (if_neg o)
 have c:l.length+(X.length+2)<=140737488355328:=by simpa using c
 refine gx ?_;refine zc 50 _ (dG w ⟨#[40]⟩ (by show l.length+1<=_;omega)) ?_;rintro e w3 ⟨⟨u,rfl⟩,j,d⟩
 refine⟨_,rfl,?_⟩
 have b3:=d.bw p x (by decide)
 refine gx ?_;refine zl b3.range ⟨by kernel_rfl,by first|kernel_rfl|simp[Value.oneCell']⟩ ?_;refine zc 306 _ (h _ w3 j (by simp;omega)) ?_;rintro e E ⟨⟨u,rfl⟩,B,A⟩
 refine gx ?_;refine zc 50 _ (dG B ⟨#[41]⟩ (by simp;show _+1<=_;omega)) ?_;rintro e C ⟨⟨u,rfl⟩,r,z⟩
 refine gx ?_;have e:l++40::(X++[41])=l++(⟨#[40]⟩:ByteArray).data.toList++X++(⟨#[41]⟩:ByteArray).data.toList:=by simp
 rw[<-e] at r;exact fR λ v=>⟨⟨v,rfl⟩,r,((q.trans d).trans A).trans z⟩
theorem Pv(e:Bool)(k:Int):(Instr.checkKey e 10000 3 (.int .i64 k)).run prog w= .ok () w:=by
 have a:prog.underlying 3=some (.int .i64):=by kernel_rfl
 have key:∀n,(Instr.checkKey e (n+1) 3 (.int .i64 k)).run prog w= .ok () w:=by
  intro n;unfold Instr.checkKey;simp[go_sem,a,underlying]
 exact key 9999
theorem M1{k:Int}{s:ByteArray}(h:w.heap[bm]? =some (.map es c))(hf:Instr.findNow (.int .i64) (.int .i64 k) es.toList 0=some none):
 (Instr.mapUpdate 425 (.map (some bm)) (.int .i64 k) (.string s)).run prog w= .ok () {w with heap:=w.heap.setIfInBounds bm (.map (es.push ⟨.int .i64 k,.string s,c⟩) (c+1))}:=by
 have a:prog.underlying 425=some (.map 3 9):=by kernel_rfl
 have f:prog.underlying 3=some (.int .i64):=by kernel_rfl
 have d:(getObj bm).run prog w= .ok (.map es c) w:=by
  simp[getObj,Sem.run,h]
 have hs:∀o,(setObj bm o).run prog w= .ok () {w with heap:=w.heap.setIfInBounds bm o}:=by
  intro o;simp[setObj,Sem.run,h]
 have b:=λ e=>Pv (w:=w) e k;unfold Instr.mapUpdate;simp[go_sem,a,f,Instr.findKey,hf,d,b,hs,underlying]
theorem lookup_int{i:Nat}{k:Int}{s:ByteArray}(h:w.heap[bm]? =some (.map es c))(hf:Instr.findNow (.int .i64) (.int .i64 k) es.toList 0=some (some (i,.string s))):
 (Instr.lookup 425 (.map (some bm)) (.int .i64 k) false).run prog w= .ok (.string s) w:=by
 have a:prog.underlying 425=some (.map 3 9):=by kernel_rfl
 have f:prog.underlying 3=some (.int .i64):=by kernel_rfl
 have d:(getObj bm).run prog w= .ok (.map es c) w:=by
  simp[getObj,Sem.run,h]
 have b:=λ e=>Pv (w:=w) e k;unfold Instr.lookup;simp[go_sem,a,f,Instr.findKey,hf,d,b,underlying]
section
variable{n d:Nat}{l:Fm}{ops:Array Oper}{rest:List Oper}{Q:Exit->Act->World->Prop}{oi:Oper}{w:World}
theorem Yk{k:Int}{s:ByteArray}{z:Operand}(hm:w.heap[bm]? =some (.map es c))
 (h:∀w',af w w' bm->w'.heap[bm]? =some (.map (es.push ⟨.int .i64 k,.string s,c⟩) (c+1))->wpList prog ops Q rest (aH n l) w')
 (d:oi.op= .insert 425 x y z:=by rfl)(hx:bA n l x=some (.map (some bm)):=by rfl)(b:bA n l y=some (.int .i64 k):=by rfl)(a:bA n l z=some (.string s):=by rfl)(f:oi.guard=none:=by rfl)(hd:oi.dst=none:=by rfl)
 (hf:Instr.findNow (.int .i64) (.int .i64 k) es.toList 0=some none:=by rfl):wpList prog ops Q (oi::rest) (aH n l) w:=
 wpList_plain f λ K hK=>by
  have hb:bm<w.heap.size:=by
   by_cases hb:bm<w.heap.size
   ·exact hb
   ·rw[Array.getElem?_eq_none (by omega)] at hm;cases hm
  unfold Oper.wp execOp;simp only[d,aE hx,aE b,aE a,Sem.run_bind,Sem.run_pure,Result.andThen_ok,M1 hm hf]
  show K ((aH n l).put oi.dst undef) _;rw[hd]
  refine hK _ _ (h _ ⟨by simp,λ c hc e=> ?_,rfl,rfl,rfl⟩ ?_)
  ·exact Array.getElem?_setIfInBounds_ne (Ne.symm e)
  ·simp[hb]
theorem alo{xv yv:Value}{t:TypeId}(hrun:(Instr.lookup t xv yv false).run prog w= .ok v w)(h:wpList prog ops Q rest (aH n (aC l d v)) w)
 (b:oi.op= .lookup t x y false:=by rfl)(hx:bA n l x=some xv:=by rfl)(a:bA n l y=some yv:=by rfl)(c:oi.guard=none:=by rfl)(hd:oi.dst=some d:=by rfl):wpList prog ops Q (oi::rest) (aH n l) w:=
 zv v (by unfold execOp;rw[b];simp only[aE hx,aE a];rw[Sem.run_bind,hrun];rfl) c hd h
end
theorem zS{kids:List aj}(hx:Ex w0 (f+1) v (.node op arg s N D name kids))(h2:kids.length=2)
 (F:op=5∨op=6∨op=7∨op=8)(h:∀(i:Nat)(hi:i<kids.length)(u:Value),Ex w0 f u kids[i]->WrC w0 g u kids[i])(o n:Nat)(b:BW w0 g l W)
 (t:l.length+(r7 o (kX (mF kids) 0)++(Sx op++r7 n (kX (mF kids) 1))).length<=140737488355328):
 Calls prog 371 #[.pointer (some ⟨g,0,none⟩),v,.int .i64 (o:Int),.int .i64 (n:Int)] W λ e W'=>(∃u,e= .returned u)/\BW w0 g (l++(r7 o (kX (mF kids) 0)++(Sx op++r7 n (kX (mF kids) 1)))) W'/\DV g W W':=by
 obtain⟨x1,x2,x3,x4,x5,x6,a,cap,rfl,-⟩:=hx.shape;obtain⟨I,k,V0,ea,V,Z,C⟩:=hx.DD (i:=0) (by omega)
 obtain⟨b1',X,V1,x,r1,Y,z⟩:=hx.DD (i:=1) (by omega)
 subst ea;cases x
 have L:=Jj (l:=kids) (i:=0) (by omega)
 have J:=Jj (l:=kids) (i:=1) (by omega)
 have W0:=h 0 (by omega) _ C;have W1:=h 1 (by omega) _ z;rw[L,J] at t⊢;obtain⟨A,hA⟩:∃A,A=r7 o (iQ (qt kids[0]),uv kids[0]):=⟨_,rfl⟩
 obtain⟨B,w⟩:∃B,B=r7 n (iQ (qt kids[1]),uv kids[1]):=⟨_,rfl⟩
 have P:=λ (l:List UInt8) (W:World)=>oF (l:=l) (W:=W) C W0 o;have O:=λ (l:List UInt8) (W:World)=>oF (l:=l) (W:=W) z W1 n;rw[<-hA] at P;rw[<-w] at O;rw[<-hA,<-w] at t⊢;have p:(Sx op).length=3:=by rcases F with rfl|rfl|rfl|rfl<;>rfl
 simp only[gJ,p] at t;obtain⟨S,hS,QK⟩:∃S:ByteArray,S.data.toList=Sx op/\Instr.findNow (.int .i64) (.int .i64 op) (#[⟨.int .i64 5,.string ⟨#[32,43,32]⟩,0⟩,⟨.int .i64 6,.string ⟨#[32,45,32]⟩,1⟩,⟨.int .i64 7,.string ⟨#[32,42,32]⟩,2⟩,⟨.int .i64 8,.string ⟨#[32,47,32]⟩,3⟩]:Array MapEntry).toList 0=some (some ((op-5).toNat,.string S)):=by
  rcases F with rfl|rfl|rfl|rfl
  ·exact⟨⟨#[32,43,32]⟩,rfl,rfl⟩
  ·exact⟨⟨#[32,45,32]⟩,rfl,rfl⟩
  ·exact⟨⟨#[32,42,32]⟩,rfl,rfl⟩
  ·exact⟨⟨#[32,47,32]⟩,rfl,rfl⟩
 have hSs:S.size=3:=by rw[<-p,<-hS];rfl
 clear L J W0 W1 h hx C z hA w;refine dK [_,_,_,_] 31 func371 rfl ntmps371 (by simp) ?_;refine gx ?_;refine zb λ U g1 e1 d b1 q1=> ?_;refine gx ?_;refine zmk λ w2 H e2 r m2 q2=> ?_;refine Yk m2 λ w3 k3 m3=> ?_;refine Yk m3 λ w4 k4 m4=> ?_;refine Yk m4 λ w5 k5 m5=> ?_;refine Yk m5 λ q k6 m6=> ?_;have K:aa U q:=(r.but (af.cX (af.cX (af.cX k3 k4) k5) k6) (by omega))
 have b6:=b1.kept K;have T:=(b.kept d).kept K;have G:g1≠g:=by have:=b.lt.2;omega
 have Xi:H≠g:=by have:=b.lt.2;have:=d.size;omega
 have O6:=jl (d.trans K) g;have R0:q.rangeAt I (k+0*7) V0.toList:=λ j v hv=>T.1.cell (V j v hv)
 refine gx ?_;refine zi (s:=7) (m:=kids.length) 0 (by omega) ?_;refine zl R0 Z ?_;refine gx ?_;refine zc 370 _ (P l q T (by omega)) ?_;rintro e w7 ⟨⟨u,rfl⟩,B7,y⟩
 refine⟨_,rfl,?_⟩
 have b7:=y.bw b6 G (by decide)
 have m7:=y.rest H _ m6 (λ e=>Xi (iG e)) (λ c fz e=>by cases e)
 refine gx ?_;refine alo (lookup_int m7 QK) ?_;refine zc 50 _ (dG B7 S (by simp;omega)) ?_;rintro e E ⟨⟨u,rfl⟩,R,M⟩
 refine⟨_,rfl,?_⟩
 have b8:=M.bw b7 G (by decide)
 have R1:E.rangeAt I (k+1*7) V1.toList:=λ j v hv=>R.1.cell (r1 j v hv)
 refine gx ?_;refine zi (s:=7) (m:=kids.length) 1 (by omega) ?_;refine zl R1 Y ?_;refine gx ?_;refine zc 370 _ (O _ E R (by simp;omega)) ?_;rintro e w9 ⟨⟨u,rfl⟩,Q,O9⟩
 refine gx ?_;rw[hS,rU,rU] at Q;exact fR λ v=>⟨⟨v,rfl⟩,Q,((O6.trans y).trans M).trans O9⟩
theorem gD{S:ByteArray}{L:List UInt8}(h:S.data.toList=L):S.size=L.length:=by rw[<-h];simp
theorem fg(a b:ByteArray):(a++b).data.toList=a.data.toList++b.data.toList:=by simp
theorem UB{a b:ByteArray}(hs:a.size+b.size<=140737488355328):(do eqGuard .add 9 x y (.string a) (.string b);binOp .add 9 (.string a) (.string b):Sem Value).run prog w= .ok (.string (a++b)) w:=by
 have h:¬(((a.size+b.size:Nat):Int)>IntKind.i64.max):=by
  show ¬(((a.size+b.size:Nat):Int)>9223372036854775807)
  omega
 go_simp;omega
section
variable{n d:Nat}{l:Fm}{ops:Array Oper}{rest:List Oper}{Q:Exit->Act->World->Prop}{oi:Oper}{w:World}
theorem MG{a b:ByteArray}{yt:TypeId}(hs:a.size+b.size<=140737488355328)(h:wpList prog ops Q rest (aH n (aC l d (.string (a++b)))) w)
 (e:oi.op= .binOp .add 9 x y yt:=by rfl)(hx:bA n l x=some (.string a):=by rfl)(c:bA n l y=some (.string b):=by rfl)(f:oi.guard=none:=by rfl)(hd:oi.dst=some d:=by rfl):wpList prog ops Q (oi::rest) (aH n l) w:=
 z2 (.string (a++b)) h e hx c (UB hs) f hd
end
def ale(L:List UInt8)(w:World)(e:Ending)(w':World):Prop:=∃S:ByteArray,e= .returned (.string S)/\S.data.toList=L/\aa w w'
def ZW(L:List UInt8)(w:World)(e:Ending)(w':World):Prop:=∃S:ByteArray,e= .returned (.tuple #[.string S,.int .i64 0])/\S.data.toList=L/\aa w w'
theorem A5(h:n<10^k)(a:0<k):(Lib.decDigits n).length<=k:=by
 by_cases h1:0<n
 ·rw[<-Jr n h1,List.length_reverse]
  exact Js n k h
 ·rw[show n=0 by omega,Lib.decDigits,dif_pos (by decide)]
  exact a
theorem Yl(h:n<iy 2 k)(a:0<k):(Lib.decDigits n).length<=k:=A5 (jf h (by rw[gw];exact Nat.pow_le_pow_left (by decide) _)) a
theorem xF(h:bn n=true):(Lib.decDigits n).length<=2048:=Yl (kC h) (by decide)
theorem JG(h:bn n=true):n<eV:=jf (kC h) (mB 2048 16384 (by decide))
theorem tF(h:aX N D=true):bn (rN N D)=true/\bn (rD N D)=true:=by
 unfold aX at h;simp only[fv] at h;exact⟨h.1.2,h.2⟩
theorem tC(h:aX N D=true):(il s N D).length<=4100:=by
 obtain⟨h1,h2⟩:=tF h;have b:=xF h1;have a:=xF h2;unfold il;split<;>split<;>simp<;>omega
theorem rf(h:Rt w v s N D)(f:cL w)(hs:aX N D=true):Calls prog 130 #[v] w (ZW (il s N D) w):=by
 obtain⟨h1,h2⟩:=tF hs;have l1:=xF h1;have Z:=xF h2;obtain⟨a,n,c,a',Y,c',rfl⟩:=h.shape;refine ct 31 func130 rfl ntmps130 ?_;refine gz ?_;refine zb λ W g1 e1 k S q1=> ?_;refine gz ?_;refine zl S.range ⟨by kernel_rfl,by first|kernel_rfl|simp[Value.oneCell']⟩ ?_;refine zc 155 _ (M2 (h.kept k) (f.kept k) hs) ?_;rintro e F ⟨x,n2,c2,B,I,R,rfl,hF,M⟩
 refine⟨_,rfl,?_⟩
 obtain⟨G,H,e,hn,hd⟩:=hF;obtain⟨rfl,rfl⟩:G= .slice x n2 c2/\H= .slice B I R:=by
  have:=Value.agg.inj e;simp only[Array.mk.injEq,List.cons.injEq,and_true,true_and] at this;exact⟨this.1.symm,this.2.symm⟩
 obtain⟨p,hp⟩:∃p,p=(s&&decide (0<N)):=⟨_,rfl⟩
 have d:il s N D=((if p=true then [45] else [])++Lib.decDigits (rN N D))++if rD N D=1 then [] else 47::Lib.decDigits (rD N D):=by rw[hp,rU];rfl
 rw[<-hp]
 clear hp e;have O:=k.trans M;refine gz ?_;refine za Xj 217 λ w3 g3 e3 L b3 X=> ?_;refine zt b3 lJ lJ λ E K z=> ?_;have q:aa F E:=L.but K (by omega)
 refine gz ?_;refine kB (z.cell 1 rfl) ?_;refine zc 221 _ (u9 (hn.kept q) (JG h1)) ?_;rintro e t ⟨rfl,j⟩
 refine⟨_,rfl,?_⟩
 have o:=z.kept j;have A:=(O.trans q).trans j;have r:=q.trans j;have b:=hd.kept r;refine gz ?_;refine kB (o.cell 0 rfl) ?_;refine gz ?_;obtain⟨P,g⟩:∃P,P=(if p=true then [45] else []:List UInt8)++Lib.decDigits (rN N D):=⟨_,rfl⟩
 have Q:P.length<=2049:=by rw[g];split<;>simp<;>omega
 rw[<-g] at d;refine Dt (σ:=ByteArray) (λ T=>[(4,.pointer (some ⟨g3,0,none⟩)),(6,.string T)]) (λ T W'=>W'=t/\T.data.toList=P) (λ Q' y=> ?_) (λ l' C T ⟨m,f⟩=> ?_)
 ·cases p
  ·refine fx ?_;refine gz ?_;exact y _ _ _ ⟨rfl,rfl,trivial⟩ ⟨rfl,by show(Lib.decDigits (rN N D)).toArray.toList=P;rw[g];simp⟩
  ·refine ju ?_;refine gz ?_;refine MG ?_ ?_
   ·show 1+(Lib.decDigits (rN N D)).length<=_;omega
   refine gz ?_;exact y _ _ _ ⟨rfl,rfl,trivial⟩ ⟨rfl,by show((⟨#[45]⟩:ByteArray)++⟨(Lib.decDigits (rN N D)).toArray⟩).data.toList=P;rw[g,fg];simp⟩
 replace m:C=t:=m;subst m;have l:=gD f;refine gz ?_;refine kB (o.cell 2 rfl) ?_;refine zc 222 _ (uh b) ?_;rintro e V ⟨rfl,rfl⟩
 refine⟨_,rfl,?_⟩
 by_cases i:rD N D=1
 ·rw[cU i]
  rw[if_pos i,List.append_nil] at d;refine gz ?_;exact fa ⟨T,rfl,by rw[d];exact f,A⟩
 rw[gy i]
 rw[if_neg i] at d;refine gz ?_;refine kB (o.cell 2 rfl) ?_;refine zc 221 _ (u9 b (JG h2)) ?_;rintro e U ⟨rfl,J⟩
 refine⟨_,rfl,?_⟩
 have u:(⟨(Lib.decDigits (rD N D)).toArray⟩:ByteArray).size=(Lib.decDigits (rD N D)).length:=by simp[ByteArray.size]
 refine MG ?_ ?_
 ·rw[u];show 1+_<=_;omega
 refine MG ?_ ?_
 ·rw[ByteArray.size_append,u,l];show _+(1+_)<=_;omega
 refine gz ?_;have hS:(T++((⟨#[47]⟩:ByteArray)++⟨(Lib.decDigits (rD N D)).toArray⟩)).data.toList=il s N D:=by rw[d,fg,fg,f];rfl
 exact fa ⟨_,rfl,hS,A.trans J⟩
theorem JH{n:Int}(a: -1000000<=n)(h1:n<=1000000):(Lib.itoa n).length<=8:=by
 unfold Lib.itoa;split
 ·have:=A5 (n:=n.natAbs) (k:=7) (by omega) (by decide)
  simp only[nK]
  omega
 ·have:=A5 (n:=n.toNat) (k:=7) (by omega) (by decide)
  omega
theorem UD{l:List (Nat×List UInt8)}{x:Nat×List UInt8}(h:l[k]? =some x):xW 0 (l.take (k+1))=xW 0 (l.take k)++(CB k++x.2):=by
 have h1:=yO (l.take (k+1)) k 0 x (by rw[List.getElem?_take,if_pos (by omega)];exact h)
 rw[h1,List.take_take,Nat.min_eq_left (by omega),List.drop_of_length_le (by simp;omega),xW,List.append_nil,lp]
theorem JI{kids:List aj}(hx:Ex w0 (f+1) v (.node op arg s N D name kids))(hP:tB w0)
 (aV:op=10∨op=11∨op=12∨op=13∨op=14∨op=15)(ha:kT op arg=true)(h:∀(i:Nat)(hi:i<kids.length)(u:Value),Ex w0 f u kids[i]->WrC w0 g u kids[i])(b:BW w0 g l W)
 (hl:l.length+(tD op arg++(xW 0 (mF kids)++[41])).length<=140737488355328):
 Calls prog 373 #[.pointer (some ⟨g,0,none⟩),v] W λ e W'=>(∃u,e= .returned u)/\BW w0 g (l++(tD op arg++(xW 0 (mF kids)++[41]))) W'/\DV g W W':=by
 obtain⟨x1,x2,x3,x4,x5,x6,a,cap,rfl,hcp,wD,-⟩:=hx.shape;have GL:=wD;obtain⟨L,X⟩:∃L,L=xW 0 (mF kids):=⟨_,rfl⟩
 obtain⟨c,o⟩:∃c,c=tD op arg:=⟨_,rfl⟩
 rw[<-X,<-o] at hl⊢;simp only[gJ,nK,List.length_nil] at hl;have eM:=λ (i:Nat) (hi:i<kids.length)=>hx.DD hi;clear hx;refine dK [_,_] 54 func373 rfl ntmps373 (by simp) ?_;refine gx ?_;refine zb λ p g1 e1 Z Y q1=> ?_;have B1:=b.kept Z;have eF:g1≠g:=by have:=b.lt.2;omega
 have O1:=jl Z g;have P1:=hP.kept B1.1;refine If ?_;refine kB (Y.cell 0 rfl) ?_;refine If ?_;refine Dt (σ:=ByteArray) (λ H=>[(0,.pointer (some ⟨g,0,none⟩)),(3,.pointer (some ⟨g1,0,none⟩)),(4,.string H)]) (λ H W'=>aa p W'/\H.data.toList=c) (λ Q' d=> ?_) (λ l' w2 H ⟨w,F⟩=> ?_)
 ·rcases aV with rfl|rfl|rfl|rfl|rfl|rfl
  ·have ha:2<=arg/\arg<=8:=by unfold kT at ha;simpa using ha
   refine gx ?_;refine zc 372 _ (Cx P1 arg (by omega) (by omega)) ?_;rintro e w3 ⟨rfl,t⟩
   refine⟨_,rfl,?_⟩
   have b3:=Y.kept t;have h8:=JH (n:=arg) (by omega) (by omega)
   have fK:(⟨(Lib.itoa arg).toArray⟩:ByteArray).size=(Lib.itoa arg).length:=by simp[ByteArray.size]
   refine MG ?_ ?_
   ·rw[fK];show 5+_<=_;omega
   refine MG ?_ ?_
   ·rw[ByteArray.size_append,fK];show 5+_+2<=_;omega
   refine gx ?_;by_cases h2:arg=2
   ·refine cr true ?_ ?_
    ·rw[h2];rfl
    refine gx ?_;exact d _ _ ⟨#[115,113,114,116,40]⟩ ⟨rfl,rfl,rfl,trivial⟩ ⟨t,by rw[o,h2];rfl⟩
   ·refine cr false ?_ ?_
    ·exact vy h2
    refine gx ?_;refine d _ _ _ ⟨rfl,rfl,rfl,trivial⟩ ⟨t,?_⟩
    show(((⟨#[114,111,111,116,40]⟩:ByteArray)++⟨(Lib.itoa arg).toArray⟩)++⟨#[44,32]⟩).data.toList=c;rw[o,fg,fg]
    unfold tD;rw[if_pos rfl,if_neg h2,rU]
  ·have ha:1<=arg/\arg<=8:=by unfold kT at ha;simpa using ha
   refine gx ?_;refine zc 403 _ (JF p arg (by omega) (by omega)) ?_;rintro e w3 ⟨S,rfl,hS,h4,t⟩
   refine⟨_,rfl,?_⟩
   refine MG ?_ ?_
   ·show S.size+1<=_;omega
   refine gx ?_;refine d _ _ _ ⟨rfl,rfl,rfl,trivial⟩ ⟨t,?_⟩
   show(S++⟨#[40]⟩).data.toList=c;rw[o,fg,hS]
   rfl
  ·skip;refine gx ?_;exact d _ _ ⟨#[97,98,115,40]⟩ ⟨rfl,rfl,rfl,trivial⟩ ⟨aa.refl p,by rw[o];rfl⟩
  ·skip;refine gx ?_;exact d _ _ ⟨#[109,105,110,40]⟩ ⟨rfl,rfl,rfl,trivial⟩ ⟨aa.refl p,by rw[o];rfl⟩
  ·skip;refine gx ?_;exact d _ _ ⟨#[109,97,120,40]⟩ ⟨rfl,rfl,rfl,trivial⟩ ⟨aa.refl p,by rw[o];rfl⟩
  ·skip;refine gx ?_;exact d _ _ ⟨#[105,102,40]⟩ ⟨rfl,rfl,rfl,trivial⟩ ⟨aa.refl p,by rw[o];rfl⟩
 replace w:aa p w2:=w;replace F:H.data.toList=c:=F;have hHl:=gD F;have B2:=B1.kept w;have O2:=O1.trans (jl w g)
 have b2:=Y.kept w;refine gx ?_;refine zc 50 _ (dG B2 H (by omega)) ?_;rintro e w3 ⟨⟨u,rfl⟩,B3,K⟩
 refine⟨_,rfl,?_⟩
 rw[F] at B3;have b3:=K.bw b2 eF (by decide)
 have K:=O2.trans K;refine gx ?_;refine mi kids.length (λ k=>[(0,.pointer (some ⟨g,0,none⟩)),(3,.pointer (some ⟨g1,0,none⟩)),(37,.slice a kids.length cap),(38,.int .i64 (kids.length:Int)),(39,.int .i64 (k:Int))])
  (λ k W'=>BW w0 g (l++c++xW 0 ((mF kids).take k)) W'/\DV g W W') ⟨rfl,rfl,rfl,rfl,rfl,trivial⟩ ⟨by rw[List.take_zero,xW,List.append_nil];exact B3,K⟩ λ fl wr k hk ⟨B,Or⟩=> ?_
 refine gx ?_;by_cases y:k<kids.length;case neg=>
  refine gx ?_;rw[List.take_of_length_le (by rw[Pu];omega),<-X] at B;refine zc 50 _ (dG B ⟨#[41]⟩ (by simp;show _+1<=_;omega)) ?_;rintro e O ⟨⟨u,rfl⟩,q,J⟩
  refine gx ?_;rw[show l++c++L++(⟨#[41]⟩:ByteArray).data.toList=l++(c++(L++[41])) by simp] at q;exact fR λ v=>⟨⟨v,rfl⟩,q,Or.trans J⟩
 refine gx ?_;obtain⟨bk,off,V,rfl,r,T,hE⟩:=eM k y;have x:=yO (mF kids) k 0 _ (GJ kids k y)
 rw[<-X,lp] at x;have hll:L.length=(xW 0 ((mF kids).take k)).length+((CB k).length+((uv kids[k]).length+(xW (k+1) ((mF kids).drop (k+1))).length)):=by rw[x];simp
 have R:wr.rangeAt bk (off+k*7) V.toList:=λ j v hv=>B.1.cell (r j v hv)
 refine gx ?_;refine zi (s:=7) (m:=kids.length) k y ?_;refine zl R T ?_;refine za Z7 27 λ w4 G e4 k4 b4 q4=> ?_;refine gx ?_;refine zt b4 nX T λ O k5 b5=> ?_;have K5:aa wr O:=k4.but k5 (by omega)
 have Q:G≠g:=by have:=B.lt.2;omega
 have q:=B.kept K5;have J:=Or.trans (jl K5 g)
 refine gx ?_;obtain⟨M,U⟩:∃M,M=l++c++xW 0 ((mF kids).take k):=⟨_,rfl⟩
 have A:M.length+((CB k).length+(uv kids[k]).length)<=140737488355328:=by rw[U];simp only[gJ];omega
 rw[<-U] at q;obtain⟨z,P⟩:∃z,z=decide (0<(k:Int)):=⟨_,rfl⟩
 refine cr z ?_ ?_
 ·exact P.symm
 refine gx ?_;refine Dt (σ:=Unit) (λ _=>[(0,.pointer (some ⟨g,0,none⟩)),(3,.pointer (some ⟨g1,0,none⟩)),(6,.pointer (some ⟨G,0,none⟩)),(37,.slice (some ⟨bk,off,none⟩) kids.length cap),(38,.int .i64 (kids.length:Int)),(39,.int .i64 (k:Int))])
  (λ _ W'=>BW w0 g (M++CB k) W'/\DV g W W'/\aD W' G V 27) (λ Q' d=> ?_) (λ l' E _ ⟨C,I,b6⟩=> ?_)
 ·by_cases h0:k=0
  ·obtain rfl:z=false:=P.trans (gy (by omega))
   refine fx ?_;refine gx ?_;exact d _ _ () ⟨rfl,rfl,rfl,rfl,rfl,rfl,trivial⟩ ⟨by rw[h0];show BW w0 g (M++[]) O;rw[List.append_nil];exact q,J,b5⟩
  ·have hs:CB k=[44,32]:=if_neg h0;obtain rfl:z=true:=P.trans (cU (by omega))
   refine ju ?_;refine gx ?_;rw[hs] at A;refine zc 50 _ (dG q ⟨#[44,32]⟩ (by show M.length+2<=_;simp at A;omega)) ?_;rintro e E ⟨⟨u,rfl⟩,C,I⟩
   refine⟨_,rfl,?_⟩
   have b6:=I.bw b5 Q (by decide)
   refine gx ?_;exact d _ _ () ⟨rfl,rfl,rfl,rfl,rfl,rfl,trivial⟩ ⟨by rw[hs];exact C,J.trans I,b6⟩
 replace C:BW w0 g (M++CB k) E:=C;replace b6:aD E G V 27/\True:=⟨b6,trivial⟩
 refine gx ?_;refine zl b6.1.range T ?_;refine zc 306 _ (h k y _ hE _ E C (by rw[gJ];omega)) ?_;rintro e w7 ⟨⟨u,rfl⟩,B7,O7⟩
 refine gx ?_;refine mH ((k+1:Nat):Int) ?_ ?_ ?_
 ·show(k:Int)+1=_;omega
 ·rw[IntKind.wrap_i64];omega
 refine gx ?_;refine⟨_,rfl,by omega,⟨rfl,rfl,rfl,rfl,rfl,trivial⟩,?_,I.trans O7⟩
 have e:l++c++xW 0 ((mF kids).take (k+1))=M++CB k++uv kids[k]:=by
  rw[UD (GJ kids k y),U]
  simp only[rU]
 rw[e]
 exact B7
theorem CC(h:iq op=(n:Int)):op=1∨op=2∨op=3∨(op=4/\n=1)∨((op=5∨op=6)/\n=2)∨((op=7∨op=8)/\n=2)∨(op=9/\n=1)∨(op=10∨op=11∨op=12∨op=13∨op=14∨op=15):=by
 unfold iq at h;split at h
 ·omega
 ·split at h
  ·omega
  ·split at h
   ·omega
   ·split at h<;>omega
theorem qu(h:bJ op arg s N D name n=true)(h1:op=1):(s&&decide (0<N))=false/\aX N D=true:=by
 subst h1;unfold bJ at h;simp only[fv,Bool.not_eq_true',if_true] at h;exact⟨h.2.1.2,h.2.1.1⟩
theorem zN{w0:World}(U:cL w0)(G:tB w0)(g:Nat):∀(f:Nat){v:Value}{t:aj},Ex w0 f v t->cY t->WrC w0 g v t
 |0,_,_,h=>h.elim
 |f+1,v,.node op arg s N D name kids,hx=>by
  intro hw l W b n;obtain⟨hn,Lt⟩:=hw;have ih:∀(i:Nat)(hi:i<kids.length)(u:Value),Ex w0 f u kids[i]->WrC w0 g u kids[i]:=λ i hi u Z=>zN U G g f Z (Ck Lt i hi)
  obtain⟨I,ha⟩:=jZ hn;have zp:=λ h1=>qu hn h1;have C:=hx;obtain⟨x1,x2,x3,x4,x5,x6,a,cap,rfl,-,-,hr⟩:=hx.shape;rw[uv] at n⊢;obtain⟨X,c⟩:∃X,X=xu op arg s N D name (mF kids):=⟨_,rfl⟩
  rw[<-c] at n⊢;have Q:=λ (i:Nat) (hi:i<kids.length)=>hx.DD hi;clear hn hx;refine dK [_,_] 68 func306 rfl ntmps306 (by simp) ?_;refine gx ?_;refine zb λ z g1 e1 O y q1=> ?_;have k:=b.kept O;have T:g1≠g:=by have:=b.lt.2;omega
  have A:=jl O g;have P1:=G.kept k.1;have T1:=U.kept k.1;rcases CC I with rfl|rfl|rfl|⟨rfl,h1⟩|⟨x,h2⟩|⟨x,h2⟩|⟨rfl,h1⟩|x
  ·replace c:X=il s N D:=c;obtain⟨-,pK⟩:=zp rfl;refine gx ?_;refine zl (V:=#[.bool s,.slice x1 x2 x3,.slice x4 x5 x6]) (λ j v hv=>by match j with|0=>exact y.range 2 v hv|1=>exact y.range 3 v hv|2=>exact y.range 4 v hv|j+3=>cases hv) cQ ?_;refine zc 130 _ (rf (hr.kept k.1) T1 pK) ?_;rintro e w2 ⟨S,rfl,hS,M⟩
   refine⟨_,rfl,?_⟩
   rw[<-c] at hS;refine gx ?_;refine zc 50 _ (dG (k.kept M) S (by rw[gD hS];exact n)) ?_;rintro e w3 ⟨⟨u,rfl⟩,d,w⟩
   refine⟨_,rfl,?_⟩
   rw[hS] at d;refine gx ?_;exact fR λ v=>⟨⟨v,rfl⟩,d,(A.trans (jl M g)).trans w⟩
  ·replace c:X=name.data.toList:=c;refine gx ?_;refine zc 50 _ (dG k name (by rw[gD c.symm];exact n)) ?_;rintro e w3 ⟨⟨u,rfl⟩,d,w⟩
   refine⟨_,rfl,?_⟩
   rw[<-c] at d;refine gx ?_;exact fR λ v=>⟨⟨v,rfl⟩,d,A.trans w⟩
  ·replace c:X=[112,105]:=c;refine gx ?_;refine zc 50 _ (dG k ⟨#[112,105]⟩ (by rw[c] at n;exact n)) ?_;rintro e w3 ⟨⟨u,rfl⟩,d,w⟩
   refine⟨_,rfl,?_⟩
   rw[show(⟨#[112,105]⟩:ByteArray).data.toList=X from c.symm] at d;refine gx ?_;exact fR λ v=>⟨⟨v,rfl⟩,d,A.trans w⟩
  ·replace c:X=45::r7 3 (kX (mF kids) 0):=c;obtain⟨K,off,V,rfl,r,J,F⟩:=Q 0 (by omega)
   have H:=λ (l:List UInt8) (W:World)=>oF (l:=l) (W:=W) F (ih 0 (by omega) _ F) 3;rw[Jj (by omega:0<kids.length)] at c;rw[c] at n;simp only[nK] at n;refine gx ?_;refine zc 50 _ (dG k ⟨#[45]⟩ (by show l.length+1<=_;omega)) ?_;rintro e w3 ⟨⟨u,rfl⟩,d,w⟩
   refine⟨_,rfl,?_⟩
   have b3:=w.bw y T (by decide)
   have R:w3.rangeAt K (off+0*7) V.toList:=λ j v hv=>d.1.cell (r j v hv)
   refine gx ?_;refine zi (s:=7) (m:=kids.length) 0 (by omega) ?_;refine zl R J ?_;refine zc 370 _ (H _ w3 d (by rw[gJ];show _+1+_<=_;omega)) ?_;rintro e E ⟨⟨u,rfl⟩,o,q⟩
   refine⟨_,rfl,?_⟩
   rw[rU,show(⟨#[45]⟩:ByteArray).data.toList++r7 3 (iQ (qt kids[0]),uv kids[0])=X by rw[c];rfl] at o;refine gx ?_;exact fR λ v=>⟨⟨v,rfl⟩,o,(A.trans w).trans q⟩
  ·replace c:X=r7 1 (kX (mF kids) 0)++(Sx op++r7 2 (kX (mF kids) 1)):=by rw[c];rcases x with rfl|rfl<;>rfl
   have B:=λ (W:World) (b:BW w0 g l W)=>zS (W:=W) C h2 (by rcases x with h|h<;>omega) ih 1 2 b (by rw[<-c];exact n)
   rw[<-c] at B;have p:∀(W':World),BW w0 g (l++X) W'/\DV g z W'->BW w0 g (l++X) W'/\DV g W W':=λ W' h=>⟨h.1,A.trans h.2⟩
   rcases x with rfl|rfl
   ·skip;refine gx ?_;refine zl y.range ⟨by kernel_rfl,by first|kernel_rfl|simp[Value.oneCell']⟩ ?_;refine zc 371 _ (B z k) ?_;rintro e E ⟨⟨u,rfl⟩,o,q⟩
    refine gx ?_;exact fR λ v=>⟨⟨v,rfl⟩,p _ ⟨o,q⟩⟩
   ·skip;refine gx ?_;refine zl y.range ⟨by kernel_rfl,by first|kernel_rfl|simp[Value.oneCell']⟩ ?_;refine zc 371 _ (B z k) ?_;rintro e E ⟨⟨u,rfl⟩,o,q⟩
    refine gx ?_;exact fR λ v=>⟨⟨v,rfl⟩,p _ ⟨o,q⟩⟩
  ·replace c:X=r7 2 (kX (mF kids) 0)++(Sx op++r7 3 (kX (mF kids) 1)):=by rw[c];rcases x with rfl|rfl<;>rfl
   have B:=λ (W:World) (b:BW w0 g l W)=>zS (W:=W) C h2 (by rcases x with h|h<;>omega) ih 2 3 b (by rw[<-c];exact n)
   rw[<-c] at B;have p:∀(W':World),BW w0 g (l++X) W'/\DV g z W'->BW w0 g (l++X) W'/\DV g W W':=λ W' h=>⟨h.1,A.trans h.2⟩
   rcases x with rfl|rfl
   ·skip;refine gx ?_;refine zl y.range ⟨by kernel_rfl,by first|kernel_rfl|simp[Value.oneCell']⟩ ?_;refine zc 371 _ (B z k) ?_;rintro e E ⟨⟨u,rfl⟩,o,q⟩
    refine gx ?_;exact fR λ v=>⟨⟨v,rfl⟩,p _ ⟨o,q⟩⟩
   ·skip;refine gx ?_;refine zl y.range ⟨by kernel_rfl,by first|kernel_rfl|simp[Value.oneCell']⟩ ?_;refine zc 371 _ (B z k) ?_;rintro e E ⟨⟨u,rfl⟩,o,q⟩
    refine gx ?_;exact fR λ v=>⟨⟨v,rfl⟩,p _ ⟨o,q⟩⟩
  ·have ha: -32<=arg/\arg<=32:=by unfold kT at ha;simpa using ha
   replace c:X=r7 5 (kX (mF kids) 0)++(94::Lib.itoa arg):=c;obtain⟨K,off,V,rfl,r,J,F⟩:=Q 0 (by omega)
   have H:=λ (l:List UInt8) (W:World)=>oF (l:=l) (W:=W) F (ih 0 (by omega) _ F) 5;rw[Jj (by omega:0<kids.length)] at c;rw[c] at n;simp only[gJ,nK] at n;refine gx ?_;have R:z.rangeAt K (off+0*7) V.toList:=λ j v hv=>k.1.cell (r j v hv)
   refine gx ?_;refine zi (s:=7) (m:=kids.length) 0 (by omega) ?_;refine zl R J ?_;refine zc 370 _ (H _ z k (by omega)) ?_;rintro e w3 ⟨⟨u,rfl⟩,d,w⟩
   refine⟨_,rfl,?_⟩
   have b3:=w.bw y T (by decide)
   refine gx ?_;refine zc 372 _ (Cx (G.kept d.1) arg (by omega) (by omega)) ?_;rintro e E ⟨rfl,L⟩
   refine⟨_,rfl,?_⟩
   have P:(⟨(Lib.itoa arg).toArray⟩:ByteArray).size=(Lib.itoa arg).length:=by simp[ByteArray.size]
   refine MG ?_ ?_
   ·rw[P];show 1+_<=_;omega
   refine zc 50 _ (dG (d.kept L) ((⟨#[94]⟩:ByteArray)++⟨(Lib.itoa arg).toArray⟩) (by rw[ByteArray.size_append,P,gJ];show _+(1+_)<=_;omega)) ?_;rintro e w5 ⟨⟨u,rfl⟩,Y,O5⟩
   refine⟨_,rfl,?_⟩
   rw[rU,fg,show r7 5 (iQ (qt kids[0]),uv kids[0])++((⟨#[94]⟩:ByteArray).data.toList++(⟨(Lib.itoa arg).toArray⟩:ByteArray).data.toList)=X by rw[c];rfl] at Y;refine gx ?_;exact fR λ v=>⟨⟨v,rfl⟩,Y,((A.trans w).trans (jl L g)).trans O5⟩
  ·replace c:X=tD op arg++(xW 0 (mF kids)++[41]):=by rw[c];rcases x with rfl|rfl|rfl|rfl|rfl|rfl<;>rfl
   have lc:=λ (W:World) (b:BW w0 g l W)=>JI (W:=W) C G x ha ih b (by rw[<-c];exact n)
   rw[<-c] at lc;refine gx ?_;refine zl y.range ⟨by kernel_rfl,by first|kernel_rfl|simp[Value.oneCell']⟩ ?_;refine zc 373 _ (lc z k) ?_;rintro e E ⟨⟨u,rfl⟩,o,q⟩
   refine gx ?_;exact fR λ v=>⟨⟨v,rfl⟩,o,A.trans q⟩
def CO:List (Nat×List UInt8)->Nat
 |[]=>0
 |x::r=>x.2.length+10+CO r
theorem Py:∀(ks:List (Nat×List UInt8))(i:Nat),(xW i ks).length<=CO ks
 |[],_=>aU _
 |x::r,i=>by
  have:=Py r (i+1)
  rw[xW,CO]
  unfold CB;split<;>simp<;>omega
theorem Ym(k:Nat)(x:Nat×List UInt8):(r7 k x).length<=x.2.length+2:=by
 unfold r7;split<;>simp
theorem ab5(ks:List (Nat×List UInt8)):(kX ks 0).2.length+(kX ks 1).2.length<=CO ks:=by
 match ks with
 |[]=>exact aU _
 |[x]=>show x.2.length+0<=_;rw[CO];omega
 |x::y::r=>show x.2.length+y.2.length<=_;rw[CO,CO];omega
theorem UE(h:bJ op arg s N D name n=true):name.size<=8:=by
 unfold bJ at h;simp only[fv] at h;obtain⟨-,h⟩:=h;split at h
 ·simp only[fv,oh] at h;omega
 ·simp only[fv] at h;obtain⟨-,h⟩:=h;split at h
  ·unfold bV at h;simp only[fv,oh] at h;omega
  ·simp only[oh] at h;omega
theorem Yn(a:Int):(O0 a).length<=4:=by
 unfold O0;have:∀j:Nat,((aW[j]?).getD ⟨#[]⟩).data.toList.length<=4:=by
  intro j;by_cases h:j<8
  ·have:∀j:Nat,j<8->((aW[j]?).getD ⟨#[]⟩).data.toList.length<=4:=by decide
   exact this j h
  ·rw[Array.getElem?_eq_none (show aW.size<=j from Nat.le_of_not_lt h)];decide
 exact this _
theorem Rs{ks:List (Nat×List UInt8)}(h:bJ op arg s N D name n=true):(xu op arg s N D name ks).length<=4900+CO ks:=by
 have h1:=UE h;have h2:=jZ h;have h3:=λ e=>tC (s:=s) (qu h e).2;have g:=Py ks 0;have f:=ab5 ks;have a:=λ k i=>Ym k (kX ks i)
 have d:=Yn arg;have c:(Sx op).length=3:=by unfold Sx;split<;>(try split)<;>(try split)<;>rfl
 have b:op=9∨op=10->(Lib.itoa arg).length<=8:=λ e=>JH (by rcases e with rfl|rfl<;>(have:=h2.2;unfold kT at this;simp at this;omega)) (by rcases e with rfl|rfl<;>(have:=h2.2;unfold kT at this;simp at this;omega))
 unfold xu;split
 ·rename_i e;have:=h3 e;omega
 split
 ·have:name.data.toList.length=name.size:=by simp
  omega
 split
 ·simp;omega
 split
 ·have:=a 3 0;simp only[nK];omega
 split
 ·have:=a 1 0;have:=a 2 1;simp only[gJ];omega
 split
 ·have:=a 2 0;have:=a 3 1;simp only[gJ];omega
 split
 ·rename_i e;have:=b (.inl e);have:=a 5 0;simp only[gJ,nK];omega
 have j:(tD op arg).length<=20:=by
  unfold tD;split
  ·rename_i e;split
   ·decide
   ·have:=b (.inr e);simp only[gJ,nK,List.length_nil];omega
  ·split
   ·simp only[gJ,nK,List.length_nil];omega
   ·split
    ·decide
    ·split
     ·decide
     ·split<;>decide
 simp only[gJ,nK,List.length_nil]
 omega
mutual
theorem Pz:∀(t:aj)(d m m':Nat),mX t d m=some m'->(uv t).length+10+5000*m<=5000*m'
 | .node op arg s N D name kids,d,m,m'=>by
   intro h;rw[mX] at h;split at h
   ·cases h
   rename_i hc;have h1:=PC kids (d+1) (m+1) m' h;have h2:=Rs (ks:=mF kids) (op:=op) (arg:=arg) (s:=s) (N:=N) (D:=D) (name:=name) (n:=kids.length) (by
    cases hn:bJ op arg s N D name kids.length
    ·exact absurd (.inr (.inr hn)) hc
    ·rfl)
   rw[uv]
   omega
theorem PC:∀(ts:List aj)(d m m':Nat),ik ts d m=some m'->CO (mF ts)+5000*m<=5000*m'
 |[],_,m,m'=>λ h=>by
  rw[ik] at h;cases h
  rw[mF,CO];omega
 |t::ts,d,m,m'=>by
  intro h;rw[ik] at h;cases h1:mX t d m with
  |none=>rw[h1] at h;cases h
  |some a=>
   rw[h1] at h;have h2:=Pz t d m a h1;have h3:=PC ts d a m' h;rw[mF,CO]
   show(uv t).length+10+_+_<=_;omega
end
theorem abK(h:t.ok=true):(uv t).length<=1500000:=by
 unfold aj.ok at h;obtain⟨m,hm⟩:=Option.isSome_iff_exists.1 h;have h1:=Pz t 1 0 m hm;have h2:=(CP t 1 0 m hm).2;omega
def abJ:Array Value:=#[.pointer none,.slice none 0 0]
theorem BW.mk(k:aa w W)(b:aD W g abJ 109)(h:w.heap.size<=g):BW w g [] W:=
 ⟨k,.inl ⟨h,.slice none 0 0,b,World.ownsRowF_nil _ _ _ _,by simp[Value.ownBlock]⟩⟩
theorem ME(h:Ex w f v t)(k:cL w)(l:tB w)(hw:cY t)(j:(uv t).length<=140737488355328):Calls prog 219 #[v] w (ale (uv t) w):=by
 obtain⟨o,g0,z,x1,x2,x3,x4,x5,x6,nm,a,n,cap,rfl⟩:=h.MF;refine ct 6 func219 rfl ntmps219 ?_;refine gx ?_;refine zb λ x g1 e1 b q q1=> ?_;refine gx ?_;refine za abJ 109 λ g g2 A c m y=> ?_;have p:=q.kept c;have r:=BW.mk c m (by omega)
 refine gx ?_;refine zl p.range ⟨by kernel_rfl,by first|kernel_rfl|simp[Value.oneCell']⟩ ?_;refine zc 306 _ (zN (k.kept b) (l.kept b) g2 f (h.kept b) hw [] g r (by simpa using j)) ?_;rintro e w3 ⟨⟨u,rfl⟩,d,B⟩
 refine⟨_,rfl,?_⟩
 rw[List.nil_append] at d;refine gx ?_;refine zc 54 _ (Cw d) ?_;rintro e s ⟨rfl,i⟩
 refine gx ?_;exact aF ⟨_,rfl,rfl,b.trans i⟩
def ZV(L:List UInt8)(w:World)(e:Ending)(w':World):Prop:=aa w w'/\
 ((L.length<=4000/\∃S:ByteArray,e= .returned (.tuple #[.string S,.int .i64 0])/\S.data.toList=L)∨(4000<L.length/\e= .returned (.tuple #[.string ⟨#[]⟩,.int .i64 4])))
theorem F4(h:Ex w f v t)(j:cL w)(l:tB w)(d:t.ok=true):Calls prog 128 #[v] w (ZV (uv t) w):=by
 obtain⟨o,g0,z,x1,x2,x3,x4,x5,x6,nm,a,n,cap,rfl⟩:=h.MF;have u:=abK d;refine ct 13 func128 rfl ntmps128 ?_;refine gx ?_;refine zb λ r g1 e1 c k q1=> ?_;refine gx ?_;refine zl k.range ⟨by kernel_rfl,by first|kernel_rfl|simp[Value.oneCell']⟩ ?_;have hv:=iN (h.kept c) (j.kept c)
 rw[d] at hv;refine zc 77 _ hv ?_;rintro e q ⟨rfl,i⟩
 refine⟨_,rfl,?_⟩
 have p:=k.kept i;have b:=c.trans i;refine gx ?_;refine zl p.range ⟨by kernel_rfl,by first|kernel_rfl|simp[Value.oneCell']⟩ ?_;refine zc 219 _ (ME (h.kept b) (j.kept b) (l.kept b) (fc d) (by omega)) ?_;rintro e w3 ⟨S,rfl,hS,g⟩
 refine⟨_,rfl,?_⟩
 have s:=gD hS;refine gx ?_;by_cases m:(uv t).length<=4000
 ·refine gx ?_;exact fa ⟨b.trans g,.inl ⟨m,_,rfl,hS⟩⟩
 ·refine gx ?_;exact fa ⟨b.trans g,.inr ⟨by omega,rfl⟩⟩
def vR(t:aj)(s:Bool):List UInt8:=uv t++if s=true then [32,62,32,48] else [32,62,61,32,48]
theorem Cy(h:Ex w f v t)(i:cL w)(j:tB w)(g:t.ok=true):
 Calls prog 49 #[v,.bool s] w λ e w'=>aa w w'/\(((uv t).length<=4000/\∃S:ByteArray,e= .returned (.tuple #[.string S,.int .i64 0])/\S.data.toList=vR t s)∨(4000<(uv t).length/\e= .returned (.tuple #[.string ⟨#[]⟩,.int .i64 4]))):=by
 obtain⟨o,g0,z,x1,x2,x3,x4,x5,x6,nm,a,n,cap,rfl⟩:=h.MF;refine dK [_,_] 21 func49 rfl ntmps49 (by simp) ?_;refine gx ?_;refine zb λ m g1 e1 b k q1=> ?_;refine gx ?_;refine zl k.range ⟨by kernel_rfl,by first|kernel_rfl|simp[Value.oneCell']⟩ ?_;refine zc 128 _ (F4 (h.kept b) (i.kept b) (j.kept b) g) ?_;rintro e l ⟨d,⟨c,S,rfl,hS⟩|⟨c,rfl⟩⟩
 ·refine gx ?_;have p:=gD hS;cases s
  ·refine fx ?_;refine gx ?_;refine MG ?_ ?_
   ·show S.size+5<=_;omega
   refine gx ?_;have e:(S++⟨#[32,62,61,32,48]⟩).data.toList=vR t false:=by rw[fg,hS];rfl
   exact fa ⟨b.trans d,.inl ⟨c,_,rfl,e⟩⟩
  ·refine ju ?_;refine gx ?_;refine MG ?_ ?_
   ·show S.size+4<=_;omega
   refine gx ?_;have e:(S++⟨#[32,62,32,48]⟩).data.toList=vR t true:=by rw[fg,hS];rfl
   exact fa ⟨b.trans d,.inl ⟨c,_,rfl,e⟩⟩
 ·refine gx ?_;exact fa ⟨b.trans d,.inr ⟨c,rfl⟩⟩
theorem Cz(w:World)(k:Nat)(s:ByteArray):Calls prog 52 #[.int .i64 (k:Int),.string s] w λ e w'=>e= .returned (.string (if k=0 then s else⟨#[44,32]⟩))/\w'=w:=by
 refine dK [_,_] 8 func52 rfl ntmps52 (by simp) ?_;refine gx ?_;by_cases h:k=0
 ·refine cr true ?_ ?_
  ·rw[h];rfl
  refine gx ?_;exact aF ⟨by rw[if_pos h],rfl⟩
 ·refine gx ?_;exact aF ⟨by rw[if_neg h],rfl⟩
def F5(i:im):List UInt8:=if i.li=true then [40,45,105,110,102] else 91::il i.s1 i.N1 i.D1
def zO(i:im):List UInt8:=if i.hi=true then [105,110,102,41] else il i.s2 i.N2 i.D2++[93]
def uY(x:aL):List UInt8:=x.name.data.toList++([32,105,110,32]++(F5 x.iv++([44,32]++zO x.iv)))
theorem T8{i:im}(h:i.fine=true):(F5 i).length<=4101/\(zO i).length<=4101:=by
 unfold im.fine at h;simp only[fv] at h;have h1:=tC (s:=i.s1) h.1;have h2:=tC (s:=i.s2) h.2;unfold F5 zO;constructor
 ·split
  ·decide
  ·simp only[nK];omega
 ·split
  ·decide
  ·simp only[gJ,nK,List.length_nil];omega
theorem Ji{x:aL}{a1 a2 a3 a4:Option Addr}{n1 c1 n2 c2 n3 c3 n4 c4:Nat}(p:cL w)(hf:x.iv.fine=true)(o:x.name.size<=8)
 (r1:Rt w (.agg #[.bool x.iv.s1,.slice a1 n1 c1,.slice a2 n2 c2]) x.iv.s1 x.iv.N1 x.iv.D1)(r2:Rt w (.agg #[.bool x.iv.s2,.slice a3 n3 c3,.slice a4 n4 c4]) x.iv.s2 x.iv.N2 x.iv.D2):
 Calls prog 51 #[.agg #[.string x.name,.bool x.iv.s1,.slice a1 n1 c1,.slice a2 n2 c2,.bool x.iv.s2,.slice a3 n3 c3,.slice a4 n4 c4,.bool x.iv.li,.bool x.iv.hi]] w (ZW (uY x) w):=by
 obtain⟨m,l⟩:=T8 hf;unfold im.fine at hf;simp only[fv] at hf;obtain⟨nm,s1,N1,D1,s2,N2,D2,li,hi⟩:=x;obtain⟨L,i⟩:∃L,L=F5 ⟨s1,N1,D1,s2,N2,D2,li,hi⟩:=⟨_,rfl⟩
 obtain⟨H,j⟩:∃H,H=zO ⟨s1,N1,D1,s2,N2,D2,li,hi⟩:=⟨_,rfl⟩
 have u:uY ⟨nm,⟨s1,N1,D1,s2,N2,D2,li,hi⟩⟩=nm.data.toList++([32,105,110,32]++(L++([44,32]++H))):=by rw[i,j];rfl
 replace m:(F5 ⟨s1,N1,D1,s2,N2,D2,li,hi⟩).length<=4101:=m;replace l:(zO ⟨s1,N1,D1,s2,N2,D2,li,hi⟩).length<=4101:=l;rw[<-i] at m;rw[<-j] at l;refine ct 49 func51 rfl ntmps51 ?_;refine gx ?_;refine zb λ k g1 e1 c r q1=> ?_;refine gx ?_;refine Dt (σ:=ByteArray) (λ S=>[(1,.pointer (some ⟨g1,0,none⟩)),(4,.string S),(5,.string ⟨#[105,110,102,41]⟩)]) (λ S W'=>aa k W'/\S.data.toList=L) (λ v f=> ?_) (λ t g S ⟨b,hS⟩=> ?_)
 ·cases li
  ·refine ju ?_;refine gx ?_;refine zl (r.part 1) cQ ?_;refine zc 130 _ (rf (r1.kept c) (p.kept c) hf.1) ?_;rintro e w3 ⟨S,rfl,hS,n⟩
   refine gx ?_;refine MG ?_ ?_
   ·have:(il s1 N1 D1).length<=4100:=tC hf.1;show 1+S.size<=_;rw[gD hS];show 1+(il s1 N1 D1).length<=_;omega
   refine gx ?_;have e:((⟨#[91]⟩:ByteArray)++S).data.toList=L:=by rw[fg,hS,i];rfl
   exact f _ _ _ ⟨rfl,rfl,rfl,trivial⟩ ⟨n,e⟩
  ·refine fx ?_;refine gx ?_;exact f _ _ ⟨#[40,45,105,110,102]⟩ ⟨rfl,rfl,rfl,trivial⟩ ⟨aa.refl k,by rw[i];rfl⟩
 replace b:aa k g:=b;replace hS:S.data.toList=L:=hS;have q:=r.kept b;refine gx ?_;refine Dt (σ:=ByteArray) (λ T=>[(1,.pointer (some ⟨g1,0,none⟩)),(4,.string S),(5,.string T)]) (λ T W'=>aa g W'/\T.data.toList=H) (λ v f=> ?_) (λ t s T ⟨h,a⟩=> ?_)
 ·cases hi
  ·refine ju ?_;refine gx ?_;refine zl (q.part 4) cQ ?_;refine zc 130 _ (rf (r2.kept (c.trans b)) (p.kept (c.trans b)) hf.2) ?_;rintro e w3 ⟨T,rfl,d,n⟩
   refine gx ?_;refine MG ?_ ?_
   ·have:(il s2 N2 D2).length<=4100:=tC hf.2;show T.size+1<=_;rw[gD d];show(il s2 N2 D2).length+1<=_;omega
   refine gx ?_;have e:(T++(⟨#[93]⟩:ByteArray)).data.toList=H:=by rw[fg,d,j];rfl
   exact f _ _ _ ⟨rfl,rfl,rfl,trivial⟩ ⟨n,e⟩
  ·refine fx ?_;refine gx ?_;exact f _ _ ⟨#[105,110,102,41]⟩ ⟨rfl,rfl,rfl,trivial⟩ ⟨aa.refl g,by rw[j];rfl⟩
 replace h:aa g s:=h;replace a:T.data.toList=H:=a;have y:=q.kept h;have z1:=gD hS;have z2:=gD a;have o:nm.size<=8:=o;refine gx ?_;refine MG ?_ ?_
 ·show nm.size+4<=_;omega
 refine gx ?_;refine MG ?_ ?_
 ·rw[ByteArray.size_append];show nm.size+4+S.size<=_;omega
 refine MG ?_ ?_
 ·rw[ByteArray.size_append,ByteArray.size_append];show nm.size+4+S.size+2<=_;omega
 refine gx ?_;refine MG ?_ ?_
 ·rw[ByteArray.size_append,ByteArray.size_append,ByteArray.size_append];show nm.size+4+S.size+2+T.size<=_;omega
 refine gx ?_;have e:(nm++(⟨#[32,105,110,32]⟩:ByteArray)++S++(⟨#[44,32]⟩:ByteArray)++T).data.toList=uY ⟨nm,⟨s1,N1,D1,s2,N2,D2,li,hi⟩⟩:=by
  rw[u,fg,fg,fg,fg,hS,a];simp
 exact fa ⟨_,rfl,e,(c.trans b).trans h⟩
def uK:Nat->List aL->List UInt8
 |_,[]=>[]
 |i,x::r=>(if i=0 then [32,102,111,114,32] else [44,32])++(uY x++uK (i+1) r)
def kR:Nat->List eE->List UInt8
 |_,[]=>[]
 |i,x::r=>(if i=0 then [32,119,104,101,114,101,32] else [44,32])++(vR x.t x.strict++kR (i+1) r)
def pq(c:bS):List UInt8:=vR c.goal c.strict++(uK 0 c.box++kR 0 c.conds)
theorem Es:∀(l:List aL)(k i:Nat)(x:aL),l[k]? =some x->uK i (l.take (k+1))=uK i (l.take k)++((if i+k=0 then [32,102,111,114,32] else [44,32])++uY x)
 |[],k,i,x,h=>by simp at h
 |y::r,0,i,x,h=>by
  simp at h;subst h;simp[uK]
 |y::r,k+1,i,x,h=>by
  have ih:=Es r k (i+1) x (by simpa using h)
  rw[List.take_succ_cons,uK,ih,List.take_succ_cons,uK,show i+1+k=i+(k+1) by omega]
  simp only[rU]
theorem CA:∀(l:List eE)(k i:Nat)(x:eE),l[k]? =some x->kR i (l.take (k+1))=kR i (l.take k)++((if i+k=0 then [32,119,104,101,114,101,32] else [44,32])++vR x.t x.strict)
 |[],k,i,x,h=>by simp at h
 |y::r,0,i,x,h=>by
  simp at h;subst h;simp[kR]
 |y::r,k+1,i,x,h=>by
  have ih:=CA r k (i+1) x (by simpa using h)
  rw[List.take_succ_cons,kR,ih,List.take_succ_cons,kR,show i+1+k=i+(k+1) by omega]
  simp only[rU]
theorem Et:∀(l:List eE)(i k:Nat)(x:eE),l[k]? =some x->(uv x.t).length<(kR i l).length
 |[],_,k,x,h=>by simp at h
 |y::r,i,0,x,h=>by
  simp at h;subst h;rw[kR,vR]
  simp only[gJ]
  have:0<(if y.strict=true then [32,62,32,48] else [32,62,61,32,48]:List UInt8).length:=by split<;>decide
  omega
 |y::r,i,k+1,x,h=>by
  have:=Et r (i+1) k x (by simpa using h)
  rw[kR]
  simp only[gJ]
  omega
theorem Eu{l:List aL}(h:iV l=true):l.length<=6/\∀(i:Nat)(hi:i<l.length),l[i].name.size<=8/\l[i].iv.fine=true:=by
 unfold iV at h;simp only[fv,oh,List.all_eq_true,List.mem_range] at h;refine⟨h.1,λ i hi=> ?_⟩
 have h2:=h.2 i hi;unfold fF at h2;simp only[fv,List.getD_eq_getElem?_getD,nW hi,Option.getD_some] at h2;have h3:=h2.1.1.1;unfold bV at h3;simp only[fv,oh] at h3;exact⟨h3.1.1,h2.1.2⟩
theorem rh{c:bS}(h:Sk w f v c)(hT:cL w)(hP:tB w)(iI:c.ok=true):Calls prog 16 #[v] w (ZV (pq c) w):=by
 have h':=h;obtain⟨o,g,z,x1,x2,x3,x4,x5,x6,nm,a0,n0,mC,a1,n1,c1,a2,n2,c2,rfl,hE,hB,hC⟩:=h;have Tv:=iI;unfold bS.ok at Tv;simp only[fv,oh] at Tv;obtain⟨⟨⟨⟨pL,qU⟩,QF⟩,-⟩,We⟩:=Tv;obtain⟨h6,OZ⟩:=Eu pL;obtain⟨X,hX⟩:∃X,X=pq c:=⟨_,rfl⟩
 rw[<-hX]
 obtain⟨G,hG⟩:∃G,G=vR c.goal c.strict:=⟨_,rfl⟩
 have Z:X=G++(uK 0 c.box++kR 0 c.conds):=by rw[hX,hG];rfl
 obtain rfl:n1=c.box.length:=hB.1;obtain rfl:n2=c.conds.length:=hC.1;refine ct 80 func16 rfl ntmps16 ?_;refine gx ?_;refine zb λ w1 g1 e1 k1 b1 q1=> ?_;have hv:=F6 (h'.kept k1) (hT.kept k1)
 rw[iI] at hv;refine gx ?_;refine zl b1.range ⟨by kernel_rfl,by first|kernel_rfl|simp[Value.oneCell']⟩ ?_;refine zc 28 _ hv ?_;rintro e w2 ⟨rfl,k2⟩
 refine⟨_,rfl,?_⟩
 have K2:=k1.trans k2;have b2:=b1.kept k2;refine gx ?_;refine za abJ 109 λ w3 g3 e3 k3 b3 q3=> ?_;have B3:=BW.mk k3 b3 (by omega)
 have N:=b2.kept k3;have My:g1≠g3:=by have:=k2.size;omega
 have K3:=K2.trans k3;have p13:w3.rangeAt g1 0 [.int .i64 o,.int .i64 g,.bool z,.slice x1 x2 x3,.slice x4 x5 x6,.string nm,.slice a0 n0 mC]:=N.part 0;have s13:w3.cell? ⟨g1,7,none⟩=some (.bool c.strict):=N.cell 7 rfl;replace N:_/\True:=⟨N,trivial⟩
 refine gx ?_;refine zl p13 ⟨by kernel_rfl,by first|kernel_rfl|simp[Value.oneCell']⟩ ?_;refine gz ?_;refine kB s13 ?_;refine zc 49 _ (Cy (s:=c.strict) (hE.kept K3) (hT.kept K3) (hP.kept K3) QF) ?_;rintro e w4 ⟨k4,⟨h4,S,rfl,hS⟩|⟨h4,rfl⟩⟩
 case inr=>
  refine gx ?_;have F:4000<X.length:=by rw[Z,hG,vR];simp only[gJ];omega
  exact fa ⟨K3.trans k4,.inr ⟨F,rfl⟩⟩
 refine⟨_,rfl,?_⟩
 rw[<-hG] at hS;have hGl:G.length<=4005:=by rw[hG,vR];simp only[gJ];split<;>(simp only[nK,List.length_nil];omega)
 have Du:=N.1.kept k4;refine gx ?_;refine zc 50 _ (dG (B3.kept k4) S (by rw[gD hS];simp;omega)) ?_;rintro e w5 ⟨⟨u,rfl⟩,B5,O5⟩
 refine⟨_,rfl,?_⟩
 rw[hS,List.nil_append] at B5;have KU:=O5.bw Du My (by decide)
 have O5:DV g3 w3 w5:=(jl k4 g3).trans O5;have lt3:=B3.lt.2;refine gx ?_;refine mi c.box.length (λ k=>[(1,.pointer (some ⟨g1,0,none⟩)),(4,.pointer (some ⟨g3,0,none⟩)),(32,.slice a1 c.box.length c1),(33,.int .i64 (c.box.length:Int)),(34,.int .i64 (k:Int))])
  (λ k W'=>BW w2 g3 (G++uK 0 (c.box.take k)) W'/\DV g3 w3 W'/\(uK 0 (c.box.take k)).length<=9000*k) ⟨rfl,rfl,rfl,rfl,rfl,trivial⟩ ⟨by rw[List.take_zero,uK,List.append_nil];exact B5,O5,by rw[List.take_zero];exact eo _⟩ λ fl wr k hk ⟨i,Or,lr⟩=> ?_
 have br:=Or.bw N.1 My (by decide)
 refine gx ?_;by_cases q:k<c.box.length;case pos=>
  refine gx ?_;obtain⟨b,off,D,m1,d1,C,m2,d2,B,m3,d3,y,m4,d4,rfl,r,q1',q2'⟩:=hB.row q;obtain⟨hs8,T⟩:=OZ k q;have l:=Es c.box k 0 c.box[k] (nW q)
  rw[lp] at l;have x:=K2.trans i.1;have R:wr.rangeAt b (off+k*9) _:=λ j v hv=>x.cell (r j v hv)
  refine gx ?_;refine zi (s:=9) (m:=c.box.length) k q ?_;refine zl (V:=#[.string c.box[k].name,.bool c.box[k].iv.s1,.slice D m1 d1,.slice C m2 d2,.bool c.box[k].iv.s2,.slice B m3 d3,.slice y m4 d4,.bool c.box[k].iv.li,.bool c.box[k].iv.hi]) R OL ?_;refine za Z9 41 λ wa ga ea ka ba qa=> ?_;refine gx ?_;refine zt ba OL OL λ O kb bb=> ?_;have p:aa wr O:=ka.but kb (by omega)
  refine gx ?_;refine zl bb.range ⟨by kernel_rfl,by first|kernel_rfl|simp[Value.oneCell']⟩ ?_;refine zc 51 _ (Ji (hT.kept (x.trans p)) T hs8 (q1'.kept (x.trans p)) (q2'.kept (x.trans p))) ?_;rintro e wc ⟨S',rfl,n,Q⟩
  refine⟨_,rfl,?_⟩
  have Bc:=i.kept (p.trans Q)
  have Oc:=Or.trans (jl (p.trans Q) g3)
  have hsx:(uY c.box[k]).length<=8216:=by
   obtain⟨l1,l2⟩:=T8 T;have:c.box[k].name.data.toList.length=c.box[k].name.size:=by simp
   unfold uY;simp only[gJ,nK,List.length_nil]
   omega
  obtain⟨M,H⟩:∃M,M=G++uK 0 (c.box.take k):=⟨_,rfl⟩
  have hMl:M.length<=4005+9000*k:=by rw[H,gJ];omega
  rw[<-H] at Bc;obtain⟨a,d⟩:∃a:ByteArray,a=if k=0 then⟨#[32,102,111,114,32]⟩ else⟨#[44,32]⟩:=⟨_,rfl⟩
  have hLs:a.size<=5:=by rw[d];split<;>decide
  have I:a.data.toList=if k=0 then [32,102,111,114,32] else [44,32]:=by rw[d];split<;>rfl
  have W:=Cz wc k ⟨#[32,102,111,114,32]⟩
  rw[<-d] at W;rw[<-I] at l;refine gx ?_;refine zc 52 _ W ?_;rintro e wd ⟨rfl,rfl⟩
  refine⟨_,rfl,?_⟩
  refine zc 50 _ (dG Bc a (by omega)) ?_;rintro e we ⟨⟨u,rfl⟩,Be,Oe⟩
  refine gx ?_;refine zc 50 _ (dG Be S' (by rw[gD n,gJ,<-gD (S:=a) rfl];omega)) ?_;rintro e wf ⟨⟨u',rfl⟩,Bf,Of⟩
  refine gx ?_;refine mH ((k+1:Nat):Int) ?_ ?_ ?_
  ·show(k:Int)+1=_;omega
  ·rw[IntKind.wrap_i64];omega
  refine gx ?_;refine⟨_,rfl,by omega,⟨rfl,rfl,rfl,rfl,rfl,trivial⟩,?_,(Oc.trans Oe).trans Of,?_⟩
  ·rw[l,<-rU,<-H,<-rU,<-n]
   exact Bf
  ·rw[l]
   simp only[gJ]
   have:a.data.toList.length=a.size:=by simp
   omega
 refine gx ?_;rw[List.take_of_length_le (by omega)] at i lr;obtain⟨M,H⟩:∃M,M=G++uK 0 c.box:=⟨_,rfl⟩
 have hMl:M.length<=60000:=by rw[H,gJ];omega
 have hXM:X=M++kR 0 c.conds:=by rw[Z,H,rU]
 rw[<-H] at i;refine gx ?_;refine mi c.conds.length (λ k=>[(4,.pointer (some ⟨g3,0,none⟩)),(54,.slice a2 c.conds.length c2),(55,.int .i64 (c.conds.length:Int)),(56,.int .i64 (k:Int))])
  (λ k W'=>BW w2 g3 (M++kR 0 (c.conds.take k)) W'/\(kR 0 (c.conds.take k)).length<=9000*k) ⟨rfl,rfl,rfl,rfl,trivial⟩ ⟨by rw[List.take_zero,kR,List.append_nil];exact i,by rw[List.take_zero];exact eo _⟩ λ fl wr k hk ⟨i,lr⟩=> ?_
 refine gx ?_;by_cases q:k<c.conds.length;case pos=>
  refine gx ?_;obtain⟨b,off,L,D,C,B,y,K,J,rfl,r,oY,hEk⟩:=hC.row q;have U:c.conds[k].t.ok=true:=by
   have:=List.all_eq_true.1 We c.conds[k] (List.getElem_mem q)
   unfold jL at this;simp only[fv] at this;exact this.1
  have l:=CA c.conds k 0 c.conds[k] (nW q)
  have iw:=Et c.conds 0 k c.conds[k] (nW q)
  rw[lp] at l;obtain⟨tk,oO⟩:∃tk,tk=c.conds[k].t:=⟨_,rfl⟩
  obtain⟨E,hsk⟩:∃E,E=c.conds[k].strict:=⟨_,rfl⟩
  rw[<-oO] at U hEk l iw;rw[<-hsk] at r l;have x:=K2.trans i.1;have R:wr.rangeAt b (off+k*8) [L,D,C,B,y,K,J,.bool E]:=λ j v hv=>x.cell (r j v hv)
  have P:dY 93 #[L,D,C,B,y,K,J,.bool E]:=zH (Y:=#[L,D,C,B,y,K,J]) oY;refine gx ?_;refine zi (s:=8) (m:=c.conds.length) k q ?_;refine zl (V:=#[L,D,C,B,y,K,J,.bool E]) R P ?_;refine za Z8 93 λ wa ga ea ka ba qa=> ?_;refine gx ?_;refine zt ba afF P λ O kb bb=> ?_;have p:aa wr O:=ka.but kb (by omega)
  have pb:O.rangeAt ga 0 [L,D,C,B,y,K,J]/\True:=⟨bb.part 0,trivial⟩
  have sb:O.cell? ⟨ga,7,none⟩=some (.bool E):=bb.cell 7 rfl;clear bb;refine gx ?_;refine zl (V:=#[L,D,C,B,y,K,J]) pb.1 oY ?_;refine gx ?_;refine kB sb ?_;refine zc 49 _ (Cy (s:=E) (hEk.kept (x.trans p)) (hT.kept (x.trans p)) (hP.kept (x.trans p)) U) ?_;rintro e wc ⟨Q,⟨h4,S',rfl,n⟩|⟨h4,rfl⟩⟩
  case inr=>
   refine gx ?_;have F:4000<X.length:=by rw[hXM];simp only[gJ];omega
   exact fa ⟨(x.trans p).trans Q,.inr ⟨F,rfl⟩⟩
  refine⟨_,rfl,?_⟩
  have Bc:=i.kept (p.trans Q)
  obtain⟨A,hA⟩:∃A,A=M++kR 0 (c.conds.take k):=⟨_,rfl⟩
  have hAl:A.length<=60000+9000*k:=by rw[hA,gJ];omega
  rw[<-hA] at Bc;have T9:(vR tk E).length<=4005:=by rw[vR];simp only[gJ];split<;>(simp only[nK,List.length_nil];omega)
  obtain⟨a,d⟩:∃a:ByteArray,a=if k=0 then⟨#[32,119,104,101,114,101,32]⟩ else⟨#[44,32]⟩:=⟨_,rfl⟩
  have hLs:a.size<=7:=by rw[d];split<;>decide
  have I:a.data.toList=if k=0 then [32,119,104,101,114,101,32] else [44,32]:=by rw[d];split<;>rfl
  have W:=Cz wc k ⟨#[32,119,104,101,114,101,32]⟩
  rw[<-d] at W;rw[<-I] at l;refine gx ?_;refine zc 52 _ W ?_;rintro e wd ⟨rfl,rfl⟩
  refine⟨_,rfl,?_⟩
  refine zc 50 _ (dG Bc a (by omega)) ?_;rintro e we ⟨⟨u,rfl⟩,Be,Oe⟩
  refine gx ?_;refine zc 50 _ (dG Be S' (by rw[gD n,gJ,<-gD (S:=a) rfl];omega)) ?_;rintro e wf ⟨⟨u',rfl⟩,Bf,Of⟩
  refine gx ?_;refine mH ((k+1:Nat):Int) ?_ ?_ ?_
  ·show(k:Int)+1=_;omega
  ·rw[IntKind.wrap_i64];omega
  refine gx ?_;refine⟨_,rfl,by omega,⟨rfl,rfl,rfl,rfl,trivial⟩,?_,?_⟩
  ·rw[l,<-rU,<-hA,<-rU,<-n]
   exact Bf
  ·rw[l]
   simp only[gJ]
   have:a.data.toList.length=a.size:=by simp
   omega
 refine gx ?_;rw[List.take_of_length_le (by omega),<-hXM] at i;refine gx ?_;refine zc 53 _ (MC i) ?_;rintro e wd ⟨rfl,rfl⟩
 refine⟨_,rfl,?_⟩
 by_cases h4:X.length<=4000
 ·refine gx ?_;refine zc 54 _ (Cw i) ?_;rintro e we ⟨rfl,ke⟩
  refine gx ?_;exact fa ⟨K2.trans ke,.inl ⟨h4,_,rfl,rfl⟩⟩
 ·refine gx ?_;exact fa ⟨K2.trans i.1,.inr ⟨by omega,rfl⟩⟩
def AP(ts:List aS)(u:Nat×Bool):Bool:=if u.2=true then decide (min (jC (ar ts u.1).text) 1000<2)||decide (8<min (jC (ar ts u.1).text) 1000) else decide (32<min (jC (ar ts u.1).text) 1000)
section
variable{W W':World}{hb g:Nat}{l ts:List aS}{ra ea:Option Addr}{rc ec:Nat}{GA:List cW}{sides:List cp}
def Y0(ts:List aS)(l:List cp)(nm:ByteArray):Bool:=l.any λ x=>(ar ts x.name).text.toList==nm.toList
end
theorem KH(ts:List aS)(nm:ByteArray):∀(l:List cp)(k:Nat),decide (0<=cH (l.map (dR ts)) k nm)=Y0 ts l nm
 |[],k=>by unfold Y0 cH;rfl
 |x::l,k=>by
  rw[List.map_cons,cH]
  show decide (0<=if ((ar ts x.name).text.toList==nm.toList)=true then(k:Int) else cH (l.map (dR ts)) (k+1) nm)=((ar ts x.name).text.toList==nm.toList||Y0 ts l nm)
  by_cases h:((ar ts x.name).text.toList==nm.toList)=true
  ·rw[if_pos h,h]
   exact cU (by omega)
  ·rw[if_neg h,Bool.eq_false_iff.2 h,Bool.false_or]
   exact KH ts nm l (k+1)
theorem Y1{l:List aS}{en:Nat}(h:k<l.length):ar (l++[amf en]) k=l[k]:=by
 unfold ar;rw[List.getElem?_append_left h,nW h]
 rfl
section
variable{W:World}{hb g lc en:Nat}{la:Option Addr}{l ts:List aS}{ra ea:Option Addr}{rc ec:Nat}{GA:List cW}{sides:List cp}
end
end
end Go.Proofs.YtbapfnpbamnmpaaGreatDoor
