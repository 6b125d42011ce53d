/- A part of the proof that the text which Print makes of a parsed text is a normal form -/
import Derived.Test.YtbapfnpbamnmpaaGreatDoorP00
import Derived.Test.YtbapfnpbamnmpaaGreatDoorP21
import Derived.Test.YtbapfnpbamnmpaaGreatDoorP29
import Derived.Test.YtbapfnpbamnmpaaGreatDoorP06
import Derived.Lib.IndexLaws
set_option maxHeartbeats 8000000
set_option maxRecDepth 100000
namespace Go.Proofs.YtbapfnpbamnmpaaGreatDoor
open Go Go.RowKit Go.Dig Go.Deep Go.Eng Go.Proofs.Tryz
variable{x:Operand}{a b s t:ByteArray}{W w:World}{d g k n tc:Nat}{c:Code}{Q:Exit->Act->World->Prop}{ts:List aS}{ta:Option Addr}
section
attribute [local irreducible] wpList
section
variable{n:Nat}{l:Fm}{ops:Array Oper}{rest:List Oper}{Q:Exit->Act->World->Prop}{oi:Oper}{w:World}{d:Nat}
theorem aff(u:Bool){yt:TypeId}{y:Operand}(e:(!(a.toList==b.data.toList))=u)(h:wpList prog ops Q rest (aH n (aC l d (.bool u))) w)
 (f:oi.op= .binOp .neq 9 x y yt:=by rfl)(hx:bA n l x=some (.string a):=by rfl)(c:bA n l y=some (.string b):=by rfl)(g:oi.guard=none:=by rfl)(hd:oi.dst=some d:=by rfl):wpList prog ops Q (oi::rest) (aH n l) w:=
 z2 (.bool u) h f hx c (wY e) g hd
theorem aeq(r:ByteArray){y:Operand}{i:Nat}(hi:i<=s.size)(hr:s.extract i s.size=r)(h:wpList prog ops Q rest (aH n (aC l d (.string r))) w)
 (b:oi.op= .slice 9 x (some y) none none:=by rfl)(hx:bA n l x=some (.string s):=by rfl)(a:bA n l y=some (.int .i64 (i:Int)):=by rfl)(c:oi.guard=none:=by rfl)(hd:oi.dst=some d:=by rfl):wpList prog ops Q (oi::rest) (aH n l) w:=
 zsf hi (by rw[hr];exact h) b hx a c hd
end
theorem Il(a:ByteArray):(a.toList==(ByteArray.mk #[]).data.toList)=decide (a.size=0):=by
 rw[ByteArray.toList_eq]
 obtain⟨⟨l⟩⟩:=a;cases l with
 |nil=>rfl
 |cons x l=>simp[ByteArray.size]
theorem sD(h:0<a.size):(a.toList==(ByteArray.mk #[]).data.toList)=false:=by rw[Il];exact gy (by omega)
theorem FH(h:a.size=0):(a.toList==(ByteArray.mk #[]).data.toList)=true:=by rw[Il];exact cU h
theorem Iu(s:ByteArray):s.extract s.size s.size=⟨#[]⟩:=ByteArray.extract_eq_empty_iff.2 (by omega)
theorem TA(hs:s.size<=1000000)(h:nu s):Calls prog 186 #[.string s] w λ e w'=>e= .returned (.tuple #[.string s,.string ⟨#[]⟩])/\aa w w':=by
 have h1:=BU w s hs;rw[Ec h,ByteArray.extract_zero_size,Iu] at h1;exact h1
theorem Mf{w':World}{v:Value}{s:Bool}{N D m:Nat}(h:Rt (aB W (ab m)) v s N D)(k:af W w' g)(a:g<m)(hn:n<=m):Rt (aB w' (ab n)) v s N D:=
 h.sub (au λ b hb hs=>by
  unfold ab at hs⊢;simp only[oh] at hs⊢;exact⟨by omega,k.old b hb (by omega)⟩)
theorem I4{c:Nat}{w':World}(hc:iz t=c)(a:c≠0)(k:aa w w'):abr (iz t) (aN t) w (.returned (.tuple #[.agg ZR,.int .i64 (c:Int)])) w':=by
 have:aN t=⟨0,0⟩:=by unfold aN;rw[hc,if_neg a]
 rw[this,hc]
 exact⟨none,0,0,none,0,0,rfl,mP _,k⟩
theorem Mg(hb:¬1240<t.size)(a:sQ t=(n,d))(hd:d≠0):zJ (n/Nat.gcd n d) (d/Nat.gcd n d)=iz t/\zK (n/Nat.gcd n d) (d/Nat.gcd n d)=aN t:=by
 have h1:zJ (n/Nat.gcd n d) (d/Nat.gcd n d)=iz t:=by unfold iz;rw[if_neg hb,a,if_neg hd];rfl
 refine⟨h1,?_⟩
 unfold aN;rw[<-h1,a]
 unfold zJ zK Tp zK;split
 ·rw[if_pos rfl]
 ·rfl
theorem kF(h:vv t)(E:cL w):Calls prog 100 #[.string t] w (abr (iz t) (aN t) w):=by
 have fK:=h.size;have Y:=h.pos;have C:=AU t;refine ct 124 func100 rfl ntmps100 ?_;refine gx ?_;refine za ZR 24 λ K g1 e1 O H q1=> ?_;refine gx ?_;by_cases r:1240<t.size
 ·refine gx ?_;refine zr (.agg ZR) ?_;refine zt H cQ cQ λ v i l=> ?_;refine gx ?_;exact fE l cQ (I4 (by unfold iz;rw[if_pos r]) (by decide) (O.but i (by omega)))
 refine gx ?_;refine wL (show 0<t.size by omega) ?_;refine gx ?_;refine cr false ?_ ?_
 ·have:=lK (wK t 0 Y);exact vy (by omega)
 refine gx ?_;refine zc 186 _ (BU K t (by omega)) ?_;rintro e v ⟨rfl,i⟩
 refine⟨_,rfl,?_⟩
 have X:(t.extract (aw t 0) t.size).size=t.size-aw t 0:=bO _ _ _ (aU _)
 have D:(t.extract 0 (aw t 0)).size=aw t 0:=bO _ _ _ C;refine gx ?_;have hK:aa w v:=O.trans i;have l:=H.kept i;have arP:g1<K.heap.size:=H.lt;by_cases hA:aw t 0=t.size
 ·refine gx ?_;refine pJ false (sD (show 0<(t.extract 0 (aw t 0)).size by omega)) ?_;refine gx ?_;refine aff false ?_ ?_
  ·rw[FH (by omega)];rfl
  refine gx ?_;refine pJ true (FH rfl) ?_;refine gx ?_;have e1:t.extract 0 (aw t 0)=t:=by rw[hA,ByteArray.extract_zero_size]
  have eq:sQ t=(cw t,1):=by unfold sQ;rw[if_pos hA]
  obtain⟨ec,ev⟩:=Mg r eq (by decide)
  refine zc 188 _ (lZ v (t.extract 0 (aw t 0)) (by omega) (wX t)) ?_;rintro e w3 ⟨v3,rfl,n3,f⟩
  refine⟨_,rfl,?_⟩
  have hm:cw (t.extract 0 (aw t 0))<eV:=tY (wX t) (by first|omega|(rw[zx];omega)) (by omega)
  rw[e1] at n3 hm;refine zc 189 _ (eQ w3 1 (by decide)) ?_;rintro e u ⟨M,rfl,n4,b⟩
  refine⟨_,rfl,?_⟩
  refine zc 187 _ (kM false (n3.kept b) n4 hm (tX (m:=0) (by decide)) (by decide) (((E.kept hK).kept f).kept b)) ?_;rintro e z ⟨L,rfl,f5,a⟩
  refine⟨_,rfl,?_⟩
  have g:=Ty (n:=cw t/Nat.gcd (cw t) 1) (d:=1/Nat.gcd (cw t) 1) f5;rw[ec,ev] at g;refine zc 191 _ g ?_;rintro e T ⟨a1,n1,c1,a2,n2,c2,rfl,hR,q⟩
  refine⟨_,rfl,?_⟩
  have P:=((f.trans b).trans a).trans q;have Q:=(f.trans b).trans a;refine gx ?_;refine zt (l.kept P) cQ cQ λ J j b7=> ?_;refine gx ?_;exact fE b7 cQ ⟨a1,n1,c1,a2,n2,c2,rfl,Mf hR j (by have:=Q.size;have:=i.size;omega) (by have:=Q.size;have:=hK.size;omega),(hK.trans P).but j (by omega)⟩
 obtain⟨x,tz,Zo,tb⟩:=h.tl hA;refine gx ?_;refine wL (show 0<(t.extract (aw t 0) t.size).size by omega) ?_;refine gx ?_;refine aeq (oo t) (show 1<=(t.extract (aw t 0) t.size).size by omega) (by rw[ByteArray.extract_extract,X];unfold oo;congr 1;omega) ?_;refine zc 186 _ (TA (w:=v) (by omega) x) ?_;rintro e w3 ⟨rfl,f⟩
 refine⟨_,rfl,?_⟩
 have eb:bt (t.extract (aw t 0) t.size) 0=bt t (aw t 0):=by rw[fD (aU _) (by omega)];rfl
 rw[eb]
 refine gx ?_;refine pJ false (sD (show 0<(oo t).size by omega)) ?_;refine gx ?_;refine pJ false (sD (show 0<(t.extract 0 (aw t 0)).size by omega)) ?_;refine gx ?_;refine aff false ?_ ?_
 ·rw[FH rfl];rfl
 refine gx ?_;refine pJ false (sD (show 0<(oo t).size by omega)) ?_;refine gx ?_;refine cr true ?_ ?_
 ·rcases tb with h|h<;>rw[h]<;>rfl
 refine gx ?_;have I:aa w w3:=hK.trans f;rcases tb with tb|tb
 ·rw[tb]
  refine gx ?_;have eq:sQ t=(cw (zx t++oo t),10^(oo t).size):=by unfold sQ;rw[if_neg hA,if_pos tb]
  have Z:10^(oo t).size≠0:=Nat.ne_of_gt (Nat.pow_pos (by decide))
  obtain⟨ec,ev⟩:=Mg r eq Z;have s:nu (zx t++oo t):=Tz (wX t) x;have W:(zx t++oo t).size=aw t 0+(oo t).size:=by rw[ByteArray.size_append];unfold zx;rw[D]
  refine z2 (.string (zx t++oo t)) (hrun:=by go_simp;rw[if_neg (by omega)];rfl) ?_;refine zc 188 _ (lZ w3 (zx t++oo t) (by omega) s) ?_;rintro e u ⟨M,rfl,n4,b⟩
  refine⟨_,rfl,?_⟩
  have hm:cw (zx t++oo t)<eV:=tY s (by omega) (by omega)
  refine zc 189 _ (eQ u 10 (by decide)) ?_;rintro e z ⟨L,rfl,A,a⟩
  refine gx ?_;refine zc 190 _ (Me (N:=(oo t).size) A (by decide) (by omega) (tX (by omega)) (tX (m:=1) (by decide))) ?_;rintro e T ⟨v6,rfl,V,q⟩
  refine⟨_,rfl,?_⟩
  refine zc 187 _ (kM false ((n4.kept a).kept q) V hm (tX (m:=(oo t).size) (by omega)) (Nat.pow_pos (by decide)) ((((E.kept I).kept b).kept a).kept q)) ?_;rintro e J ⟨U,rfl,F,j⟩
  refine⟨_,rfl,?_⟩
  have g:=Ty (n:=cw (zx t++oo t)/Nat.gcd (cw (zx t++oo t)) (10^(oo t).size)) (d:=10^(oo t).size/Nat.gcd (cw (zx t++oo t)) (10^(oo t).size)) F;rw[ec,ev] at g;refine zc 191 _ g ?_;rintro e S ⟨a1,n1,c1,a2,n2,c2,rfl,hR,p⟩
  refine⟨_,rfl,?_⟩
  have c:=((f.trans b).trans (a.trans q)).trans j;refine gx ?_;refine zt (l.kept (c.trans p)) cQ cQ λ R o G=> ?_;refine gx ?_;exact fE G cQ ⟨a1,n1,c1,a2,n2,c2,rfl,Mf hR o (by have:=c.size;have:=i.size;omega) (by have:=c.size;have:=hK.size;omega),(hK.trans (c.trans p)).but o (by omega)⟩
 rw[tb]
 refine gx ?_;have eq:sQ t=(cw (zx t),cw (oo t)):=by unfold sQ;rw[if_neg hA,if_neg (by rw[tb];decide)]
 refine zc 188 _ (lZ w3 (oo t) (by omega) x) ?_;rintro e u ⟨M,rfl,n4,b⟩
 refine gx ?_;refine zc 192 _ (lS (.inr rfl) n4) ?_;rintro e u ⟨rfl,rfl⟩
 refine gx ?_;by_cases y:cw (oo t)=0
 ·rw[cU y]
  refine gx ?_;refine zr (.agg ZR) ?_;refine zt ((l.kept f).kept b) cQ cQ λ z a b5=> ?_;refine gx ?_;exact fE b5 cQ (I4 (by unfold iz;rw[if_neg r,eq,if_pos y]) (by decide) ((I.trans b).but a (by omega)))
 rw[gy y]
 obtain⟨ec,ev⟩:=Mg r eq y;refine gx ?_;refine zc 188 _ (lZ _ (t.extract 0 (aw t 0)) (by omega) (wX t)) ?_;rintro e z ⟨L,rfl,A,a⟩
 refine⟨_,rfl,?_⟩
 have hm:cw (zx t)<eV:=tY (wX t) (by unfold zx;omega) (by unfold zx;omega)
 have B:cw (oo t)<eV:=tY x (by omega) (by omega)
 refine gx ?_;refine zc 187 _ (kM (m:=cw (zx t)) (k:=cw (oo t)) false A (n4.kept a) hm B (by omega) (((E.kept I).kept b).kept a)) ?_;rintro e J ⟨U,rfl,F,j⟩
 refine⟨_,rfl,?_⟩
 have g:=Ty (n:=cw (zx t)/Nat.gcd (cw (zx t)) (cw (oo t))) (d:=cw (oo t)/Nat.gcd (cw (zx t)) (cw (oo t))) F;rw[ec,ev] at g;refine zc 191 _ g ?_;rintro e S ⟨a1,n1,c1,a2,n2,c2,rfl,hR,p⟩
 refine⟨_,rfl,?_⟩
 have c:=((f.trans b).trans a).trans j;refine gx ?_;refine zt (l.kept (c.trans p)) cQ cQ λ R o G=> ?_;refine gx ?_;exact fE G cQ ⟨a1,n1,c1,a2,n2,c2,rfl,Mf hR o (by have:=c.size;have:=i.size;omega) (by have:=c.size;have:=hK.size;omega),(hK.trans (c.trans p)).but o (by omega)⟩
theorem ak6{f:FuncId}{fn:Func}{v x:Value}{R:Ending->World->Prop}(n:Nat)(hf:prog.funcs[f]? =some fn)(hb:fn.body=some c)(hn:fn.ntmps=n+2)
 (h:c.wp prog (bodyPostD prog fn R) (aH (n+2) (aC (aC Ef 0 v) 1 x)) w):Calls prog f #[v,x] w R:=by
 refine calls_of_wp_defers hf hb ?_;have e:(⟨#[v,x]++Array.replicate (fn.ntmps- #[v,x].size) undef,[]⟩:Act)=aH (n+2) (aC (aC Ef 0 v) 1 x):=by
  rw[hn]
  refine congrArg (λ t=>(⟨t,[]⟩:Act)) (?_:#[v,x]++Array.replicate n undef=((List.range (n+2)).map λ i=>(aC (aC Ef 0 v) 1 x i).getD undef).toArray)
  apply Array.ext
  ·simp;omega
  ·intro i h1 h2;rcases i with _|_|i
   ·simp[aC];rfl
   ·simp[aC]
   ·simp[aC,Ef,Nat.beq]
 rw[e]
 exact h
section
variable{E:Nat->Bool}{W0 W:World}{g:Nat}{ta:Option Addr}{tc:Nat}{ts:List aS}{i:Nat}{ve vi:Value}{ex ix:List Nat}
theorem du.Mz{W':World}(h:du E W0 W g ta tc ts i ve vi ex ix){b:Nat}(k:af W W' b)(hb:b≠g)(ho:ve.ownBlock≠some b/\vi.ownBlock≠some b)(f:E b=true):du E W0 W' g ta tc ts i ve vi ex ix:=
 ⟨⟨jP h.kb.size k.size,λ c hc d a=>(k.old c (jf hc h.kb.size) (λ e=>by rw[e,f] at a;cases a)).trans (h.kb.old c hc d a),k.tape.trans h.kb.tape,k.os.trans h.kb.os,k.output.trans h.kb.output⟩,h.bw.ai k (Ne.symm hb),bE h.oe k ho.1,bE h.oi k ho.2,h.fe,h.fi,h.ne,h.lt,h.TO⟩
theorem du.start(hb:aD W g #[.slice ta ts.length tc,.int .i64 0,.slice none 0 0,.slice none 0 0] 161)(a:0<ts.length):du E W W g ta tc ts 0 (.slice none 0 0) (.slice none 0 0) [] []:=
 ⟨KE.refl _ W g,hb,World.ownsRow_nil W 0 3 1,World.ownsRow_nil W 0 3 1,λ o h=>(by cases h),λ o h=>(by cases h),λ o h=>(by cases h),a,aU _⟩
end
def Z69:Array Value:=#[.pointer none,.string ⟨#[]⟩,.int .i64 0,.int .i64 0,.int .i64 0,.int .i64 0,.string ⟨#[]⟩,.slice none 0 0,.slice none 0 0]
theorem tj{o:ByteArray}{a b c d:Int}{x y:Option Addr}{m1 c1 m2 c2:Nat}:dY 69 #[.pointer (some ⟨g,0,none⟩),.string s,.int .i64 a,.int .i64 b,.int .i64 c,.int .i64 d,.string o,.slice x m1 c1,.slice y m2 c2]:=⟨by kernel_rfl,by simp[Value.oneCell']⟩
structure ig where
 goal:cW
 box:List cp
 conds:List cW
def T4:List UInt8:=[102,111,114]
def FX:List UInt8:=[119,104,101,114,101]
def uW(ts:List aS)(g:cW)(b:List cp)(c:List cW)(j:Nat):Option (PR ig):=(nJ ts 4 j).map (PR.map λ _=>⟨g,b,c⟩)
def uX(num:ByteArray->gV)(ts:List aS)(n:Nat)(g:cW)(b:List cp)(j:Nat):Option (PR ig):=
 cf (if bF (ar ts j) FX=true then mI ts (rV num ts n) n (j+1) else some (.ok [] j [])) λ c j=>uW ts g b c j
def Ct(num:ByteArray->gV)(ts:List aS)(n:Nat)(g:cW)(j:Nat):Option (PR ig):=
 cf (if bF (ar ts j) T4=true then mI ts (lD ts) n (j+1) else some (.ok [] j [])) λ b j=>uX num ts n g b j
def rH(num:ByteArray->gV)(ts:List aS)(n:Nat):Option (PR ig):=cf (rV num ts n 0) λ g j=>Ct num ts n g j
def ef(g:Nat)(s:ByteArray)(x:cW)(bx cd:Value):Array Value:=#[.pointer (some ⟨g,0,none⟩),.string s,.int .i64 (x.f0:Int),.int .i64 (x.t0:Int),.int .i64 (x.f1:Int),.int .i64 (x.t1:Int),.string x.op,bx,cd]
structure DrM(W:World)(g:Nat)(ta:Option Addr)(tc:Nat)(ts:List aS)(bx cd:Value)(d:ig)(ex ix:List Nat)(j:Nat)(ve vi:Value):Prop where
 bw:aD W g #[.slice ta ts.length tc,.int .i64 (j:Int),ve,vi] 161
 oe:W.ownsRow 0 3 1 ve ex.length (nA ex)
 oi:W.ownsRow 0 3 1 vi ix.length (nA ix)
 ob:W.ownsRow 0 242 7 bx d.box.length (jU d.box)
 oc:W.ownsRow 0 65 5 cd d.conds.length (ie d.conds)
theorem qJ{x:cW}{bx cd:Value}(hb:∃a n c,bx= .slice a n c)(hc:∃a n c,cd= .slice a n c):dY 69 (ef g s x bx cd):=by
 obtain⟨a,n,c,rfl⟩:=hb;obtain⟨a',b,d,rfl⟩:=hc;exact tj
theorem L2{b o:Nat}{V:Array Value}{t ty:TypeId}{x:Value}(h:aD w b V t)(hx:V[o]? =some x)(a:(prog.underlying ty).map TypeDesc.isRow=some false):(loadVar ty ⟨b,o,none⟩).run prog w= .ok x w:=xj (h.cell o hx) a
theorem sN{S:Nat->Bool}(k:aa w W)(h:∀b,b<w.heap.size->S b=true):nT w (aB W S):=λ a v hc=>by
 rw[fQ,if_pos (h _ (World.block_lt_of_cell? w a hc))]
 exact k.cell hc
section
variable{n:Nat}{l:Fm}{w:World}{s:ByteArray}{R:Ending->World->Prop}{g1 g2 g3:Nat}{V:Array Value}
def dfr(g2 g3:Nat):List Deferred:=[⟨.fn (.func 92) #[.pointer (some ⟨g2,0,none⟩),.pointer (some ⟨g3,0,none⟩)],#[]⟩]
theorem ZS{u v:Int}(h:aD w g1 V 69)(f:dY 69 V)(g:aD w g2 #[.int .i64 u] 3)(b3:aD w g3 #[.int .i64 v] 32)(e:bA n l (.tmp 4)=some (.pointer (some ⟨g1,0,none⟩)))(d:bA n l (.tmp 5)=some (.pointer (some ⟨g2,0,none⟩)))(c:bA n l (.tmp 6)=some (.pointer (some ⟨g3,0,none⟩))):
 (results f34 (aH n l).tmps).run prog w= .ok (.tuple #[.agg V,.int .i64 u,.int .i64 v]) w:=by
 have e1:=bK e;have b:=bK d;have a:=bK c;simp only[Array.getD_eq_getD_getElem?] at e1 b a;simp[results,e1,b,a,asAddr,h.loadVar f (by kernel_rfl),L2 g (ty:=3) (o:=0) rfl (by kernel_rfl),L2 b3 (ty:=32) (o:=0) rfl (by kernel_rfl)]
theorem AZ{a:Nat}{x y:Int}(s:aD w g1 V 69)(o:dY 69 V)(r:aD w g2 #[.int .i64 x] 3)(b3:aD w g3 #[.int .i64 y] 32)(q:g1≠g2)(p:g1≠g3)(d:g2≠g3)(m:bA n l (.tmp 4)=some (.pointer (some ⟨g1,0,none⟩)))(k:bA n l (.tmp 5)=some (.pointer (some ⟨g2,0,none⟩)))(j:bA n l (.tmp 6)=some (.pointer (some ⟨g3,0,none⟩)))
 (hR:∀c b w',aa w c->af c b g2->af b w' g3->R (.returned (.tuple #[.agg V,.int .i64 (a:Int),.int .i64 3])) w'):bodyPostD prog f34 R (.panic (oZ a)) (dW (dfr g2 g3) n l) w:=by
 refine leaves_cons (f:=92) (args:=#[.pointer (some ⟨g2,0,none⟩),.pointer (some ⟨g3,0,none⟩)]) (by simp) (by simp[go_sem]) ?_;refine(DT g2 g3 a x y w r b3 d).mono ?_;rintro e t w' ⟨⟨v,rfl⟩,rfl,c,b,i,h,g,c2,c3⟩
 show Leaves prog f34 (aH n l).tmps R [] .returning w';exact⟨_,ZS (((s.kept i).ai h q).ai g p) o c2 c3 m k j,hR c b w' i h g⟩
theorem afy{x y:Int}(i:aD w g1 V 69)(g:dY 69 V)(h:aD w g2 #[.int .i64 x] 3)(b3:aD w g3 #[.int .i64 y] 32)(d:bA n l (.tmp 4)=some (.pointer (some ⟨g1,0,none⟩)))(c:bA n l (.tmp 5)=some (.pointer (some ⟨g2,0,none⟩)))(b:bA n l (.tmp 6)=some (.pointer (some ⟨g3,0,none⟩)))
 (hR:∀w',aa w w'->R (.returned (.tuple #[.agg V,.int .i64 x,.int .i64 y])) w'):bodyPostD prog f34 R .ret (dW (dfr g2 g3) n l) w:=by
 refine leaves_cons (f:=92) (args:=#[.pointer (some ⟨g2,0,none⟩),.pointer (some ⟨g3,0,none⟩)]) (by simp) (by simp[go_sem]) ?_;refine(Jd g2 g3 w).mono ?_;rintro e j w' ⟨⟨v,rfl⟩,rfl,a⟩
 show Leaves prog f34 (aH n l).tmps R [] .returning w';exact⟨_,ZS (i.kept a) g (h.kept a) (b3.kept a) d c b,hR w' a⟩
theorem dc{ds:List Deferred}{ops:Array Oper}{rest:List Oper}{oi:Oper}{R:Ending->World->Prop}(f:FuncId)(args:Array Value)(hc:Calls prog f args w R)(h:∀e w',R e w'->∃v,e= .returned v/\wpList prog ops Q rest (dW ds n (aC l d v)) w')
 (hrun:(execOp (ev n l) oi).run prog w= .ok (.enter f args) w:=by kernel_rfl)(a:oi.guard=none:=by rfl)(hd:oi.dst=some d:=by rfl):wpList prog ops Q (oi::rest) (dW ds n l) w:=
 dcp f args hc (λ e w' hR=>.inl (h e w' hR)) hrun a hd
theorem ZU{ds:List Deferred}{σ:Type}(L:σ->List (Nat×Value))(I:σ->World->Prop)(e:List (Nat×Value))(d:List PanicEntry->World->Prop)
 (h:∀b:Exit->Act->World->Prop,(∀a w' s,oN a (L s)->I s w'->b .normal (dW ds n a) w')->(∀ch a w',oN a e->d ch w'->b (.panic ch) (dW ds n a) w')->c.wp prog b (dW ds n l) w)
 (hQ:∀a w' s,I s w'->Q .normal (dW ds n (look a (L s))) w')(f:∀ch a w',oN a e->d ch w'->Q (.panic ch) (dW ds n a) w'):c.wp prog Q (dW ds n l) w:=
 h Q (λ a w' s hs g=>by have:=hQ a w' s g;rwa [jA hs] at this) f
end
theorem xk{E:Nat->Bool}{w5:World}(k:KE E w5 W g)(h:aa w w5)(c:w.heap.size<=g)(a:∀b,b<w.heap.size->E b=false):aa w W:=
 ⟨jP h.size k.size,λ b hb=>(k.old b (jf hb h.size) (by omega) (a b hb)).trans (h.old b hb),k.tape.trans h.tape,k.os.trans h.os,k.output.trans h.output⟩
theorem T5{α:Type}{p:Nat->Option (PR α)}(hp:∀i x j u,p i=some (.ok x j u)->u=[]):∀n l j x k u,kQ ts p n l j=some (.ok x k u)->u=[]:=by
 intro n;induction n with
 |zero=>intro l j x k u h;rw[kQ] at h;cases h
 |succ n ih=>
  intro l j x k u h;rw[kQ] at h;split at h
  ·rcases uq h with⟨i,-,h2⟩|⟨x1,i,b,h1,⟨a,-,h2⟩|⟨y,a,v,h2,h3⟩⟩
   ·cases h2
   ·cases h2
   ·cases h3
    rw[hp _ _ _ _ h1,ih _ _ _ _ _ h2]
    rfl
  ·cases h
   rfl
theorem Rg{i j:Nat}{x:List cp}{u:List (Nat×Bool)}(h:mI ts (lD ts) n i=some (.ok x j u)):u=[]:=by
 have hs:∀i x j u,lD ts i=some (.ok x j u)->u=[]:=λ i x j u h=>by
  rcases Cq ts i with⟨y,k,h1⟩|⟨k,h1⟩
  ·rw[h1] at h;cases h;rfl
  ·rw[h1] at h;cases h
 unfold mI at h;rcases uq h with⟨i,-,h2⟩|⟨x1,i,b,h1,⟨a,-,h2⟩|⟨y,a,v,h2,h3⟩⟩
 ·cases h2
 ·cases h2
 ·cases h3
  rw[hs _ _ _ _ h1,T5 hs _ _ _ _ _ _ h2]
  rfl
theorem I3(num:ByteArray->gV)(hs:s.size<=4000)(wO:ts=(aP true s 0).1++[ij s])(ht:BC w ta ts.length tc ts)(hn:n<=1000000){r:PR ig}(hr:rH num ts n=some r):
 Calls prog 34 #[.string s,.slice ta ts.length tc] w λ e W'=>aa w W'/\match (generalizing:=false) r with
  | .ok d j u=>∃g ve vi bx cd,w.heap.size<=g/\e= .returned (.tuple #[.agg (ef g s d.goal bx cd),.int .i64 0,.int .i64 0])/\DrM W' g ta tc ts bx cd d (gi u false) (gi u true) j ve vi
  | .bad j=>∃V,dY 69 V/\e= .returned (.tuple #[.agg V,.int .i64 ((ar ts j).at':Int),.int .i64 3]):=by
 refine ak6 33 func34 rfl ntmps34 ?_;refine gz ?_;refine za Z69 69 λ w1 g1 e1 k1 b1 q1=> ?_;refine za #[.int .i64 0] 3 λ w2 g2 e2 k2 b2 q2=> ?_;refine za #[.int .i64 0] 32 λ w3 g3 e3 k3 b3 q3=> ?_;refine gz ?_;refine zr (.func (.func 92) #[] #[.pointer (some ⟨g2,0,none⟩),.pointer (some ⟨g3,0,none⟩)]) ?_;rw[<-BV]
 refine LO (df:=⟨.fn (.func 92) #[.pointer (some ⟨g2,0,none⟩),.pointer (some ⟨g3,0,none⟩)],#[]⟩) ?_
 (iterate 5 go_step);refine dz ?_
 refine dr (.agg #[.slice ta ts.length tc,.int .i64 0,.slice none 0 0,.slice none 0 0]) ?_;refine db (t:=161) λ w4 f e4 k4 b4 q4=> ?_;refine dz ?_;refine dr (.agg #[.pointer (some ⟨f,0,none⟩),.string s,.int .i64 0,.int .i64 0,.int .i64 0,.int .i64 0,.string ⟨#[]⟩,.slice none 0 0,.slice none 0 0]) ?_;refine dt ((((b1.kept k2).kept k3).kept k4)) (by exact⟨by kernel_rfl,by simp[Z69,Value.oneCell']⟩) tj λ l k5 b5=> ?_;have eF:g1=w.heap.size:=e1;have AD:g2=g1+1:=by omega
 have Hp:g3=g1+2:=by omega
 have hg4:f=g1+3:=by omega
 have z5:g1+4<=l.heap.size:=by
  have h1:=k5.size;omega
 have K5:aa w l:=(((k1.trans k2).trans k3).trans k4).but k5 (by omega)
 obtain⟨E,S⟩:∃E:Nat->Bool,E=λ b=>b==g1:=⟨_,rfl⟩
 have C:∀b,b<w.heap.size->E b=false:=λ b hb=>by rw[S];exact vy (by omega)
 have c:FM E l f ta tc ts:=by
  have c0:=T3 (W:=l) (g:=f) (cap:=tc) (a:=ta) hs (by omega) (by
   rw[<-wO]
   exact ht.sub (sN K5 λ b hb=>by simp;omega))
  rw[<-wO] at c0;exact⟨⟨c0.lt,ht.sub (sN K5 λ b hb=>by rw[C b hb];simp;omega),c0.len,c0.last⟩,c0.whl⟩
 have b45:aD l f #[.slice ta ts.length tc,.int .i64 0,.slice none 0 0,.slice none 0 0] 161:=b4.ai k5 (by omega)
 have h5:du E l l f ta tc ts 0 (.slice none 0 0) (.slice none 0 0) [] []:=du.start b45 (by rw[wO];simp)
 have Zs:=((b2.kept k3).kept k4).ai k5 (by omega)
 have b35:=(b3.kept k4).ai k5 (by omega)
 replace b5:aD l g1 (ef f s ⟨0,0,⟨#[]⟩,0,0,bY 0 0 [],bY 0 0 []⟩ (.slice none 0 0) (.slice none 0 0)) 69:=b5;clear b1 b2 b3 b4 b45 k1 k2 k3 k4 k5 q1 q2 q3 q4 e1 e2 e3 e4 ht;unfold rH at hr;cases ha:rV num ts n 0 with
 |none=>rw[ha] at hr;cases hr
 |some r1=>
 rw[ha] at hr
 (iterate 5 go_step);refine XN ?_;refine dl1 (b5.cell 0 rfl) ?_
 have M:∀b,nI (.slice none 0 0) (.slice none 0 0) b=false:=λ b=>rfl;refine dcp 93 _ (vP num (c.later h5) h5.later ha) ?_;cases r1 with
 |bad j=>
  obtain rfl:PR.bad j=r:=iG hr;rintro e w6 ⟨rfl,k6⟩
  refine .inr ⟨_,rfl,AZ (g1:=g1) (g2:=g2) (g3:=g3) (k6.bw b5 (by omega) (M _)) tj (k6.bw Zs (by omega) (M _)) (k6.bw b35 (by omega) (M _)) (by omega) (by omega) (by omega) rfl rfl rfl λ w1 w2 w' j1 k Z=> ?_⟩
  exact⟨(((xk (h5.zM k6) K5 (by omega) C).trans j1).but k (by omega)).but Z (by omega),_,tj,rfl⟩
 |ok x j u=>
 rintro e w6 ⟨⟨v,rfl,rfl⟩,ve,vi,T⟩
 refine .inl ⟨_,rfl,?_⟩
 obtain⟨r1,D,rfl⟩:=AX hr;have h6:=h5.back T;have Hs:=T.kb.bw b5 (by omega) (M _)
 have KX:=T.kb.bw Zs (by omega) (M _)
 have b36:=T.kb.bw b35 (by omega) (M _)
 have n1:=T.re (b:=g1) (by omega) (M _)
 have n2:=T.re (b:=g2) (by omega) (M _)
 have n3:=T.re (b:=g3) (by omega) (M _)
 clear T b5 Zs b35 ha hr;rw[List.nil_append,List.nil_append] at h6;refine XN ?_;refine dtp (o:=2) Hs (AY x) (λ w7 k7 LU=> ?_) (by simp[ef,fG])
 replace LU:aD w7 g1 (ef f s x (.slice none 0 0) (.slice none 0 0)) 69:=LU;have b27:=KX.ai k7 (by omega)
 have b37:=b36.ai k7 (by omega)
 have h7:=h6.Mz k7 (by omega) n1 (by rw[S];exact beq_self_eq_true g1)
 clear h6 Hs KX b36 k7
 (iterate 6 go_step);refine XN ?_;refine dl1 (LU.cell 0 rfl) ?_
 refine dc 94 _ (cI c.toQ4 h7 ⟨#[102,111,114]⟩) ?_;rintro e w8 ⟨y,N,rfl,L,k8⟩
 refine⟨_,rfl,?_⟩
 replace N:y=bF (ar ts j) T4:=N;unfold Ct at D;rw[<-N] at D;have Tw:=LU.ai k8 (by omega)
 have O:=b27.ai k8 (by omega)
 have Xe:=b37.ai k8 (by omega)
 clear LU b27 b37 h7 k8 N
 (iterate 3 go_step)
 have LS:∀{w':World},du E l w' f ta tc ts j ve vi (gi u false) (gi u true)->f+1<=w'.heap.size:=λ h=>by have:=h.kb.size;omega
 refine ZU (σ:=Nat×Value×List cp) (λ _=>[(4,.pointer (some ⟨g1,0,none⟩)),(5,.pointer (some ⟨g2,0,none⟩)),(6,.pointer (some ⟨g3,0,none⟩))])
  (λ σ w'=>du E l w' f ta tc ts σ.1 ve vi (gi u false) (gi u true)/\aD w' g1 (ef f s x σ.2.1 (.slice none 0 0)) 69/\aD w' g2 #[.int .i64 0] 3/\aD w' g3 #[.int .i64 0] 32/\w'.ownsRow (f+1) 242 7 σ.2.1 σ.2.2.length (jU σ.2.2)/\(∀o,σ.2.1.ownBlock=some o->ve.ownBlock≠some o/\vi.ownBlock≠some o)/\uX num ts n x σ.2.2 σ.1=some r1)
  [(4,.pointer (some ⟨g1,0,none⟩)),(5,.pointer (some ⟨g2,0,none⟩)),(6,.pointer (some ⟨g3,0,none⟩))]
  (λ ch w'=>∃j V,ch=oZ (ar ts j).at'/\r1= .bad j/\aD w' g1 V 69/\dY 69 V/\aD w' g2 #[.int .i64 0] 3/\aD w' g3 #[.int .i64 0] 32/\KE E l w' f)
  (λ Q' hN hP=> ?_) (λ l' w9 ⟨j9,bx,box⟩ ⟨h9,XG,b29,b39,ob,nb,B⟩=> ?_) ?_
 ·cases y
  case false=>
   rw[if_neg iZ,iP] at D;refine Jf ?_;go_step;exact hN _ _ (j,.slice none 0 0,[]) ⟨rfl,rfl,rfl,trivial⟩ ⟨L,Tw,O,Xe,World.ownsRow_nil _ _ _ _,(λ o h=>by cases h),D⟩
  rw[if_pos rfl] at D;replace L:du E l w8 f ta tc ts (j+1) ve vi (gi u false) (gi u true):=L;have z8:=L.kb.size;cases R:mI ts (lD ts) n (j+1) with
  |none=>rw[R] at D;cases D
  |some r2=>
  rw[R] at D;refine OX ?_;go_step;refine XN ?_;refine dl1 (Tw.cell 0 rfl) ?_;refine dcp 95 _ (FV (c.later L) L.later hn R) ?_;cases r2 with
  |bad k=>
   obtain rfl:PR.bad k=r1:=iG D;rintro e w9 ⟨rfl,Q⟩
   exact .inr ⟨_,rfl,hP _ _ _ ⟨rfl,rfl,rfl,trivial⟩ ⟨k,_,rfl,rfl,Q.bw Tw (by omega) (ff n1),tj,Q.bw O (by omega) (ff n2),Q.bw Xe (by omega) (ff n3),L.zM Q⟩⟩
  |ok box k u2=>
   obtain rfl:=Rg R;rw[iP] at D;rintro e w9 ⟨⟨v,rfl,ob⟩,h9',Q⟩
   refine .inl ⟨_,rfl,?_⟩
   have h9:=L.back h9';have jF:=λ o ho=>World.ownsRow.lt ob o ho;obtain⟨a',aK,rfl,-,-,-⟩:=bI ob;refine XN ?_;refine dt1 (Tw.ai Q (by omega)) (i:=7) (by simp[ef]) rfl λ vE K P=> ?_;replace P:aD vE g1 (ef f s x (.slice a' box.length aK) (.slice none 0 0)) 69:=P;have H:=h9.Mz K (by omega) n1 (by rw[S];exact beq_self_eq_true g1)
   go_step;refine hN _ _ (k,.slice a' box.length aK,box) ⟨rfl,rfl,rfl,trivial⟩ ⟨H,P,(O.ai Q (by omega)).ai K (by omega),(Xe.ai Q (by omega)).ai K (by omega),qm (bE ob K λ h=> ?_) (by omega),λ o ho=>L.mE (jF o ho).1,D⟩
   have:=(jF g1 h).1;omega
 rotate_left
 ·rintro ch l' w' ⟨s4,s5,s6,-⟩ ⟨k,V,rfl,rfl,p1,pV,p2,p3,kp⟩
  exact AZ p1 pV p2 p3 (by omega) (by omega) (by omega) s4 s5 s6 λ w1 w2 w' j1 k Z=>⟨(((xk kp K5 (by omega) C).trans j1).but k (by omega)).but Z (by omega),_,pV,rfl⟩
 replace h9:du E l w9 f ta tc ts j9 ve vi (gi u false) (gi u true):=h9;replace XG:aD w9 g1 (ef f s x bx (.slice none 0 0)) 69:=XG;replace ob:w9.ownsRow (f+1) 242 7 bx box.length (jU box):=ob;replace nb:∀o,bx.ownBlock=some o->ve.ownBlock≠some o/\vi.ownBlock≠some o:=nb;replace B:uX num ts n x box j9=some r1:=B;clear D L Tw O Xe LS;obtain⟨J,I,rfl,-,-,-⟩:=bI ob;have jF:=λ o ho=>World.ownsRow.lt ob o ho
 (iterate 5 go_step);refine XN ?_;refine dl1 (XG.cell 0 rfl) ?_
 refine dc 94 _ (cI c.toQ4 h9 ⟨#[119,104,101,114,101]⟩) ?_;rintro e vE ⟨y,N,rfl,H,K⟩
 refine⟨_,rfl,?_⟩
 replace N:y=bF (ar ts j9) FX:=N;unfold uX at B;rw[<-N] at B;have P:=XG.ai K (by omega)
 have XR:=b29.ai K (by omega)
 have XS:=b39.ai K (by omega)
 replace ob:=bE ob K λ h=>by have:=(jF _ h).1;omega
 clear XG b29 b39 h9 K N
 (iterate 3 go_step)
 refine ZU (σ:=Nat×Value×Value×Value×List cW×List (Nat×Bool)) (λ _=>[(4,.pointer (some ⟨g1,0,none⟩)),(5,.pointer (some ⟨g2,0,none⟩)),(6,.pointer (some ⟨g3,0,none⟩))])
  (λ σ w'=>du E l w' f ta tc ts σ.1 σ.2.1 σ.2.2.1 (gi (u++σ.2.2.2.2.2) false) (gi (u++σ.2.2.2.2.2) true)/\aD w' g1 (ef f s x (.slice J box.length I) σ.2.2.2.1) 69/\aD w' g2 #[.int .i64 0] 3/\aD w' g3 #[.int .i64 0] 32/\w'.ownsRow (f+1) 242 7 (.slice J box.length I) box.length (jU box)/\w'.ownsRow (f+1) 65 5 σ.2.2.2.1 σ.2.2.2.2.1.length (ie σ.2.2.2.2.1)/\
    (σ.2.1.ownBlock≠some g1/\σ.2.2.1.ownBlock≠some g1)/\∃r2,uW ts x box σ.2.2.2.2.1 σ.1=some r2/\r1=Re σ.2.2.2.2.2 r2)
  [(4,.pointer (some ⟨g1,0,none⟩)),(5,.pointer (some ⟨g2,0,none⟩)),(6,.pointer (some ⟨g3,0,none⟩))]
  (λ ch w'=>∃j V,ch=oZ (ar ts j).at'/\r1= .bad j/\aD w' g1 V 69/\dY 69 V/\aD w' g2 #[.int .i64 0] 3/\aD w' g3 #[.int .i64 0] 32/\KE E l w' f)
  (λ Q' hN hP=> ?_) (λ l' Hr ⟨G,X,U,cd,conds,u11⟩ ⟨A,FO,XH,afC,Y,T6,p,r2,Rh,Az⟩=> ?_) ?_
 ·cases y
  case false=>
   rw[if_neg iZ,iP] at B;refine Jf ?_;go_step;have ak8:∀r:PR ig,r=Re [] r:=λ r=>by cases r<;>rfl
   exact hN _ _ (j9,ve,vi,.slice none 0 0,[],[]) ⟨rfl,rfl,rfl,trivial⟩ ⟨by rw[List.append_nil];exact H,P,XR,XS,ob,World.ownsRow_nil _ _ _ _,n1,r1,B,ak8 r1⟩
  rw[if_pos rfl] at B;replace H:du E l vE f ta tc ts (j9+1) ve vi (gi u false) (gi u true):=H;have z10:=H.kb.size;cases R:mI ts (rV num ts n) n (j9+1) with
  |none=>rw[R] at B;cases B
  |some r2=>
  rw[R] at B;refine OX ?_;go_step;refine XN ?_;refine dl1 (P.cell 0 rfl) ?_;refine dcp 96 _ (abF num (c.later H) H.later hn R) ?_;cases r2 with
  |bad k=>
   obtain rfl:PR.bad k=r1:=iG B;rintro e Hr ⟨rfl,Dv⟩
   exact .inr ⟨_,rfl,hP _ _ _ ⟨rfl,rfl,rfl,trivial⟩ ⟨k,_,rfl,rfl,Dv.bw P (by omega) (ff n1),tj,Dv.bw XR (by omega) (ff n2),Dv.bw XS (by omega) (ff n3),H.zM Dv⟩⟩
  |ok conds k u2=>
   obtain⟨r3,QL,Az⟩:=AX B;rintro e Hr ⟨⟨v,rfl,oc⟩,X,U,Ri⟩
   refine .inl ⟨_,rfl,?_⟩
   have A:=H.back Ri;have T7:=λ o ho=>World.ownsRow.lt oc o ho;obtain⟨a',aK,rfl,-,-,-⟩:=bI oc;have p:=Ri.re (b:=g1) (by omega) (ff n1)
   refine XN ?_;refine dt1 (Ri.kb.bw P (by omega) (ff n1)) (i:=8) (by simp[ef]) rfl λ Wf q FR=> ?_;replace FR:aD Wf g1 (ef f s x (.slice J box.length I) (.slice a' conds.length aK)) 69:=FR;have qU:=A.Mz q (by omega) p (by rw[S];exact beq_self_eq_true g1)
   have Y:=bE (TV ob Ri.kb λ o ho=>⟨by have:=(jF o ho).1;omega,ff (nb o ho)⟩) q λ h=>by have:=(jF _ h).1;omega
   go_step;refine hN _ _ (k,X,U,.slice a' conds.length aK,conds,u2) ⟨rfl,rfl,rfl,trivial⟩ ⟨by rw[iC,iC];exact qU,FR,(Ri.kb.bw XR (by omega) (ff n2)).ai q (by omega),(Ri.kb.bw XS (by omega) (ff n3)).ai q (by omega),Y,qm (bE oc q λ h=> ?_) (by omega),p,r3,QL,Az⟩
   have:=(T7 g1 h).1;omega
 rotate_left
 ·rintro ch l' w' ⟨s4,s5,s6,-⟩ ⟨k,V,rfl,rfl,p1,pV,p2,p3,kp⟩
  exact AZ p1 pV p2 p3 (by omega) (by omega) (by omega) s4 s5 s6 λ w1 w2 w' j1 k Z=>⟨(((xk kp K5 (by omega) C).trans j1).but k (by omega)).but Z (by omega),_,pV,rfl⟩
 subst Az;replace A:du E l Hr f ta tc ts G X U (gi (u++u11) false) (gi (u++u11) true):=A;replace FO:aD Hr g1 (ef f s x (.slice J box.length I) cd) 69:=FO;replace T6:Hr.ownsRow (f+1) 65 5 cd conds.length (ie conds):=T6;replace p:X.ownBlock≠some g1/\U.ownBlock≠some g1:=p;replace Rh:uW ts x box conds G=some r2:=Rh;clear B H P XR XS ob;have T7:=λ o ho=>World.ownsRow.lt T6 o ho;obtain⟨cda,cdc,rfl,-,-,-⟩:=bI T6
 (iterate 4 go_step);refine XN ?_;refine dl1 (FO.cell 0 rfl) ?_
 refine dcp 97 _ (sZ (c.later A).toQ4 A.later 4) ?_;unfold uW nJ at Rh;generalize hk:((ar ts G).kind==4)=z at Rh⊢;cases z
 case false=>
  obtain rfl:PR.bad G=r2:=iG Rh;rintro e Wf ⟨rfl,q⟩
  refine .inr ⟨_,rfl,?_⟩
  exact AZ (q.bw FO (by omega) (ff p)) tj (q.bw XH (by omega) (A.Rb (by omega) (by rw[S];exact vy (by omega)))) (q.bw afC (by omega) (A.Rb (by omega) (by rw[S];exact vy (by omega)))) (by omega) (by omega) (by omega) rfl rfl rfl λ w1 w2 w' j1 k Z=>⟨(((xk (A.zM q) K5 (by omega) C).trans j1).but k (by omega)).but Z (by omega),_,tj,rfl⟩
 rintro e Wf ⟨rfl,q,ak9⟩
 refine .inl ⟨_,rfl,?_⟩
 have FR:=FO.ai q (by omega)
 (iterate 5 go_step);refine dl FR.range ⟨by kernel_rfl,by first|kernel_rfl|simp[Value.oneCell']⟩ ?_
 refine dt FR tj tj λ w13 Ss abC=> ?_;refine dt1 (i:=0) (((XH.ai q (by omega)).ai Ss (by omega))) (by simp) rfl λ w14 ZN ala=> ?_;refine dt1 (i:=0) ((((afC.ai q (by omega)).ai Ss (by omega))).ai ZN (by omega)) (by simp) rfl λ w15 F alb=> ?_
 (iterate 5 go_step)
 obtain rfl:PR.ok ⟨x,box,conds⟩ (G+1) []=r2:=iG Rh;refine afy ((abC.ai ZN (by omega)).ai F (by omega)) tj (ala.ai F (by omega)) alb rfl rfl rfl λ w' k'=> ?_;refine⟨(((((xk A.kb K5 (by omega) C).but q (by omega)).but Ss (by omega)).but ZN (by omega)).but F (by omega)).trans k',f,X,U,.slice J box.length I,.slice cda conds.length cdc,by omega,rfl,?_⟩
 have m2:nI X U g2=false:=A.Rb (by omega) (by rw[S];exact vy (by omega))
 have m3:nI X U g3=false:=A.Rb (by omega) (by rw[S];exact vy (by omega))
 have mk:∀{e sz m:Nat}{v:Value}{cs:List Value},Hr.ownsRow 0 e sz v m cs->(∀o,v.ownBlock=some o->o≠g1/\o≠g2/\o≠g3/\o≠f)->w'.ownsRow 0 e sz v m cs:=λ h hv=>
  dD (bE (bE (bE (bE h q λ e=>(hv _ e).2.2.2 rfl) Ss λ e=>(hv _ e).1 rfl) ZN λ e=>(hv _ e).2.1 rfl) F λ e=>(hv _ e).2.2.1 rfl) k'
 refine⟨(((ak9.ai Ss (by omega)).ai ZN (by omega)).ai F (by omega)).kept k',?_,?_,?_,?_⟩
 ·have:=mk A.oe λ o ho=>⟨λ e=>p.1 (e▸ho),λ e=>by rw[e] at ho;unfold nI at m2;simp[ho] at m2,λ e=>by rw[e] at ho;unfold nI at m3;simp[ho] at m3,(A.fe o ho).1⟩
  simpa using this
 ·have:=mk A.oi λ o ho=>⟨λ e=>p.2 (e▸ho),λ e=>by rw[e] at ho;unfold nI at m2;simp[ho] at m2,λ e=>by rw[e] at ho;unfold nI at m3;simp[ho] at m3,(A.fi o ho).1⟩
  simpa using this
 ·exact mk (qm Y (eo _)) λ o ho=>by have:=(jF o ho).1;omega
 ·exact mk (qm T6 (eo _)) λ o ho=>by have:=(T7 o ho).1;omega
theorem js{c:UInt8}:t.data.toList[k]? =some c↔k<t.size/\bt t k=c.toNat:=by
 constructor
 ·intro h;obtain⟨h1,h2⟩:=List.getElem?_eq_some_iff.1 h;have a:k<t.size:=by simpa using h1
  refine⟨a,?_⟩
  rw[kD a,<-h2]
  rfl
 ·rintro⟨a,h⟩
  rw[kD a] at h;rw[List.getElem?_eq_some_iff]
  refine⟨by simpa using a,?_⟩
  exact UInt8.toNat_inj.1 h
theorem WS{c:UInt8}(h1:k<t.size)(h2:bt t k=c.toNat)(h3:∀j,j<k->bt t j≠c.toNat):Lib.indexByte t.data.toList c=(k:Int):=by
 have e:=Lib.indexByte_ge t.data.toList c;by_cases hn:Lib.indexByte t.data.toList c= -1
 ·exact absurd (js.2 ⟨h1,h2⟩) (Lib.indexByte_none hn k)
 ·obtain⟨o,ho⟩:∃o:Nat,Lib.indexByte t.data.toList c=(o:Int):=⟨(Lib.indexByte t.data.toList c).toNat,by omega⟩
  obtain⟨d,b⟩:=Lib.indexByte_some ho;have a:=js.1 d;have:o=k:=by
   rcases Nat.lt_trichotomy o k with h|h|h
   ·exact absurd a.2 (h3 o h)
   ·exact h
   ·exact absurd (js.2 ⟨h1,h2⟩) (b k h)
  rw[ho,this]
theorem Ol{c:UInt8}(h:∀j,j<t.size->bt t j≠c.toNat):Lib.indexByte t.data.toList c= -1:=by
 have b:=Lib.indexByte_ge t.data.toList c;by_cases hn:Lib.indexByte t.data.toList c= -1
 ·exact hn
 ·obtain⟨o,ho⟩:∃o:Nat,Lib.indexByte t.data.toList c=(o:Int):=⟨(Lib.indexByte t.data.toList c).toNat,by omega⟩
  have a:=js.1 (Lib.indexByte_some ho).1;exact absurd a.2 (h o a.1)
def kE(t:ByteArray):Bool:=decide (aw t 0<t.size)&&decide (bt t (aw t 0)=47)
theorem vv.ix(h:vv t):Lib.indexByte t.data.toList 47=if kE t=true then(aw t 0:Int) else -1:=by
 have hd:∀j,j<aw t 0->bt t j≠(47:UInt8).toNat:=λ j c=>by
  have:=lK (wK t j c)
  show bt t j≠47;omega
 unfold kE;rcases h.form with h1|⟨h1,h2,h3⟩
 ·rw[gy (by omega),Bool.false_and,if_neg iZ]
  exact Ol λ j c=>hd j (by omega)
 ·rw[cU (by omega),Bool.true_and]
  by_cases b:bt t (aw t 0)=47
  ·rw[cU b,if_pos rfl]
   exact WS (by omega) b hd
  ·rw[gy b,if_neg iZ]
   refine Ol λ j c=> ?_;rcases Nat.lt_trichotomy j (aw t 0) with a|a|a
   ·exact hd j a
   ·rw[a];exact b
   ·have:=lK (qG (p:=aQ) (s:=t) (i:=aw t 0+1) j (by omega) (by show j<aw t (aw t 0+1);omega))
    show bt t j≠47;omega
theorem DF(h:vv t):Calls prog 268 #[.string t,.string ⟨#[47]⟩] w λ e w'=>e= .returned (.int .i64 (if kE t=true then(aw t 0:Int) else -1))/\aa w w':=by
 have hx:=Tryz.stringslite_IndexByte t 47 w;rw[show((47:Int).toNat.toUInt8)=47 from rfl,h.ix] at hx;have a:=h.pos;have b:=AU t;refine dK [_,_] 143 func268 rfl ntmps268 (by simp) ?_;refine gx ?_;refine pJ false ?_ ?_
 ·rw[ByteArray.toList_eq]
  refine vy λ he=> ?_;have:=(js (t:=t) (k:=0) (c:=47)).1 (by rw[<-he];rfl)
  have:=lK (wK t 0 a)
  have d:(47:UInt8).toNat=47:=rfl;omega
 refine gx ?_;refine zr (.int .u8 47) ?_;refine zc 263 _ hx ?_;rintro e f ⟨rfl,rfl⟩
 refine gx ?_;exact aF ⟨rfl,aa.refl _⟩
theorem Om(t:ByteArray):t.extract 0 t.size=t:=ByteArray.extract_zero_size
theorem D7(h:vv t):Calls prog 98 #[.string t,.string ⟨#[47]⟩] w λ e w'=>(if kE t=true then e= .returned (.tuple #[.string (zx t),.string (oo t),.bool true]) else e= .returned (.tuple #[.string t,.string ⟨#[]⟩,.bool false]))/\aa w w':=by
 have c:Calls prog 178 #[.string t,.string ⟨#[47]⟩] w λ e w'=>(if kE t=true then e= .returned (.tuple #[.string (zx t),.string (oo t),.bool true]) else e= .returned (.tuple #[.string t,.string ⟨#[]⟩,.bool false]))/\aa w w':=by
  have hx:=DF (w:=w) h;have hs:=h.size;obtain⟨z,a⟩:∃z,z=kE t:=⟨_,rfl⟩
  rw[<-a] at hx⊢;refine dK [_,_] 23 func178 rfl ntmps178 (by simp) ?_;refine gx ?_;refine zc 268 _ hx ?_;rintro e d ⟨rfl,b⟩
  refine⟨_,rfl,?_⟩
  cases z
  ·rw[if_neg iZ]
   refine gx ?_;exact lX ⟨by rw[if_neg iZ],b⟩
  ·have f:aw t 0<t.size:=by
    unfold kE at a;have:=(Bool.and_eq_true_iff.1 a.symm).1;exact kC this
   rw[if_pos rfl]
   refine gx ?_;refine eJ 0 0 λ hS=> ?_;refine eL 0 hS ?_;refine eL 1 hS ?_;refine eL 3 hS ?_;refine eL 4 hS ?_;refine eL 5 hS ?_;refine Lr 6 hS ?_;refine ysu 2 hS (Nat.le_of_lt f) ?_;refine yar 7 ((aw t 0+1:Nat):Int) hS ?_ ?_ ?_
   ·show(aw t 0:Int)+1=_;omega
   ·rw[IntKind.wrap_i64];omega
   refine ysf 8 hS (show aw t 0+1<=t.size by omega) ?_;refine eL 9 hS ?_;refine eL 10 hS ?_;refine eL 11 hS ?_;refine gB ?_;refine gx ?_;exact lX ⟨by rw[if_pos rfl],b.drew⟩
 refine dK [_,_] 13 func98 rfl ntmps98 (by simp) ?_;refine gx ?_;refine zc 178 _ c ?_;rintro e d ⟨he,b⟩
 by_cases a:kE t=true
 ·rw[if_pos a] at he;subst he;refine gx ?_;exact lX ⟨by rw[if_pos a],b⟩
 ·rw[if_neg a] at he;subst he;refine gx ?_;exact lX ⟨by rw[if_neg a],b⟩
theorem aep(r:ByteArray){l:Fm}{ops:Array Oper}{rest:List Oper}{oi:Oper}{z:Operand}(c:k<=s.size)(hr:s.extract 0 k=r)(h:wpList prog ops Q rest (aH n (aC l d (.string r))) w)
 (b:oi.op= .slice 9 x none (some z) none:=by rfl)(hx:bA n l x=some (.string s):=by rfl)(a:bA n l z=some (.int .i64 (k:Int)):=by rfl)(e:oi.guard=none:=by rfl)(hd:oi.dst=some d:=by rfl):wpList prog ops Q (oi::rest) (aH n l) w:=
 zv _ (by rw[aO];exact D8 c b hx a) e hd (by rw[hr];exact h)
theorem Ii(w:World)(b:ByteArray)(hb:b.size<=1000000):Calls prog 180 #[.string b,.int .u8 48] w λ e w'=>(∃k,k<=b.size/\e= .returned (.string (b.extract 0 k))/\(∀j,k<=j->j<b.size->bt b j=48)/\(k=0∨bt b (k-1)≠48))/\aa w w':=by
 refine dK [_,_] 23 func180 rfl ntmps180 (by simp) ?_;refine If ?_;refine Dt (σ:=Nat) (λ k=>[(0,.string (b.extract 0 k))]) (λ k W=>aa w W/\k<=b.size/\(∀j,k<=j->j<b.size->bt b j=48)/\(k=0∨bt b (k-1)≠48)) (λ t g=> ?_) (λ o n k ⟨h,h1,h2,h3⟩=> ?_)
 ·refine gx ?_;refine dQ (σ:=Nat) b.size (λ _ k=>[(0,.string (b.extract 0 k)),(1,.int .u8 48)]) (λ m k W=>aa w W/\k<=b.size/\m+k=b.size/\∀j,k<=j->j<b.size->bt b j=48) b.size ⟨by rw[Om];rfl,rfl,trivial⟩ ⟨aa.refl w,aU _,by omega,λ j _ _=>by omega⟩ λ s wr m k hm ⟨d,c,q,f⟩=> ?_;have p:(b.extract 0 k).size=k:=bO _ _ _ c;refine gx ?_;by_cases r:0<k;case neg=>
   refine gx ?_;exact g _ _ k ⟨rfl,trivial⟩ ⟨d,c,f,.inl (by omega)⟩
  refine gx ?_;refine mH ((k-1:Nat):Int) ?_ ?_ ?_
  ·show((b.extract 0 k).size:Int)-1=_;omega
  ·rw[IntKind.wrap_i64];omega
  refine gx ?_;refine wL (show k-1<(b.extract 0 k).size by omega) ?_;have l:bt (b.extract 0 k) (k-1)=bt b (k-1):=by rw[fD c (by omega),lp]
  rw[l]
  refine gx ?_;by_cases a:bt b (k-1)=48;case neg=>
   refine gx ?_;exact g _ _ k ⟨rfl,trivial⟩ ⟨d,c,f,.inr a⟩
  refine cr true ?_ ?_
  ·rw[a];rfl
  refine gx ?_;refine mH ((k-1:Nat):Int) ?_ ?_ ?_
  ·show((b.extract 0 k).size:Int)-1=_;omega
  ·rw[IntKind.wrap_i64];omega
  refine aep (b.extract 0 (k-1)) (show k-1<=(b.extract 0 k).size by omega) (by rw[ByteArray.extract_extract];congr 1;omega) ?_;refine gx ?_;exact⟨_,k-1,rfl,by omega,⟨rfl,rfl,trivial⟩,d,by show k-1<=b.size;omega,by show m+1+(k-1)=b.size;omega,λ j h1 h2=>by
   by_cases i:j=k-1
   ·rw[i];exact a
   ·exact f j (by replace h1:k-1<=j:=h1;omega) h2⟩
 replace h1:k<=b.size:=h1;refine gx ?_;exact aF ⟨⟨k,h1,rfl,h2,h3⟩,h⟩
theorem zy(w:World)(b:ByteArray)(_:b.size<=1000000):Calls prog 179 #[.string b,.int .u8 48] w λ e w'=>(∃k,k<=b.size/\e= .returned (.string (b.extract k b.size))/\(∀j,j<k->bt b j=48)/\(k<b.size->bt b k≠48))/\aa w w':=by
 refine dK [_,_] 17 func179 rfl ntmps179 (by simp) ?_;refine If ?_;refine Dt (σ:=Nat) (λ k=>[(0,.string (b.extract k b.size))]) (λ k W=>aa w W/\k<=b.size/\(∀j,j<k->bt b j=48)/\(k<b.size->bt b k≠48)) (λ s g=> ?_) (λ q p k ⟨i,h1,h2,h3⟩=> ?_)
 ·refine gx ?_;refine mi b.size (λ k=>[(0,.string (b.extract k b.size)),(1,.int .u8 48)]) (λ k W=>aa w W/\k<=b.size/\∀j,j<k->bt b j=48) ⟨by rw[Om];rfl,rfl,trivial⟩ ⟨aa.refl w,eo _,λ j h=>by omega⟩ λ r wr k _ ⟨c,f,d⟩=> ?_;have l:(b.extract k b.size).size=b.size-k:=bO _ _ _ (aU _)
  refine gx ?_;by_cases n:k<b.size;case neg=>
   refine gx ?_;exact g _ _ k ⟨rfl,trivial⟩ ⟨c,f,d,λ h=>absurd h n⟩
  refine gx ?_;refine wL (show 0<(b.extract k b.size).size by omega) ?_;have o:bt (b.extract k b.size) 0=bt b k:=by rw[fD (aU _) (by omega)];rfl
  rw[o]
  refine gx ?_;by_cases a:bt b k=48;case neg=>
   refine gx ?_;exact g _ _ k ⟨rfl,trivial⟩ ⟨c,f,d,λ _=>a⟩
  refine cr true ?_ ?_
  ·rw[a];rfl
  refine gx ?_;refine aeq (b.extract (k+1) b.size) (show 1<=(b.extract k b.size).size by omega) (by rw[ByteArray.extract_extract,l];congr 1;omega) ?_;refine gx ?_;exact⟨_,rfl,by omega,⟨rfl,rfl,trivial⟩,c,by omega,λ j h1=>by
   by_cases m:j=k
   ·rw[m];exact a
   ·exact d j (by omega)⟩
 replace h1:k<=b.size:=h1;refine gx ?_;exact aF ⟨⟨k,h1,rfl,h2,h3⟩,i⟩
theorem BB{s:ByteArray}(h:nu s):∀m,m<=s.size->(dE s 0 m=0↔∀k,k<m->bt s k=48)
 |0,_=>⟨λ _ k b=>absurd b (Nat.not_lt_zero k),λ _=>rfl⟩
 |m+1,hm=>by
  have ih:=BB h m (by omega)
  have hd:=lK (h m (by omega))
  rw[dE,lp]
  constructor
  ·intro c k b;by_cases a:k=m
   ·rw[a];omega
   ·exact ih.1 (by omega) k (by omega)
  ·intro c;rw[ih.2 λ k b=>c k (by omega),c m (by omega)]
theorem zB(hb:b.size<=1000000)(hA:nu b)(n:0<b.size):Calls prog 99 #[.string b,.string ⟨#[48]⟩] w λ e w'=>(∃r,e= .returned (.string r)/\(r.size=0↔cw b=0))/\aa w w':=by
 refine dK [_,_] 43 func99 rfl ntmps99 (by simp) ?_;refine gx ?_;refine pJ false (sD n) ?_;refine gx ?_;refine pJ false ?_ ?_
 ·rw[ByteArray.toList_eq];rfl
 refine gx ?_;refine zr (.int .u8 48) ?_;refine gx ?_;refine eJ 0 0 λ hS=> ?_;refine eL 0 hS ?_;refine eL 1 hS ?_;refine eL 4 hS ?_;refine yr 2 (.int .u8 48) hS ?_;refine yr 5 (.int .u8 48) hS ?_;refine yc 3 180 _ hS (Ii _ b hb) ?_;rintro e p ⟨⟨k,f,rfl,h1,h2⟩,d⟩
 refine⟨d,_,rfl,λ hS=> ?_⟩
 have i:(b.extract 0 k).size=k:=bO _ _ _ f;refine yc 6 179 _ hS (zy _ (b.extract 0 k) (by omega)) ?_;rintro e w3 ⟨⟨m,hm,rfl,h3,s⟩,c⟩
 refine⟨c,_,rfl,λ hS=> ?_⟩
 have l:((b.extract 0 k).extract m (b.extract 0 k).size).size=(b.extract 0 k).size-m:=bO _ _ _ (aU _)
 refine eL 7 hS ?_;refine gB ?_;refine gx ?_;refine aF ⟨⟨_,rfl,?_⟩,((aa.refl w).drew.trans d).trans c⟩
 rw[l,i]
 unfold cw;rw[BB hA b.size (aU _)]
 have o:∀j,j<k->bt (b.extract 0 k) j=bt b j:=λ j g=>by rw[fD f (by omega),lp]
 constructor
 ·intro h j g;by_cases a:j<k
  ·have:=h3 j (by omega)
   rw[o j a] at this;exact this
  ·exact h1 j (by omega) g
 ·intro h;rcases h2 with h2|h2
  ·omega
  ·by_cases q:k=0
   ·omega
   ·exact absurd (h (k-1) (by omega)) h2
theorem Fo(hb:b.size<=1000000)(d:0<b.size):Calls prog 193 #[.string b,.string ⟨#[48]⟩] w λ e w'=>(∃k,k<=b.size/\e= .returned (.string (b.extract k b.size))/\(∀j,j<k->bt b j=48)/\(k<b.size->bt b k≠48))/\aa w w':=by
 refine dK [_,_] 37 func193 rfl ntmps193 (by simp) ?_;refine gx ?_;refine pJ false (sD d) ?_;refine gx ?_;refine pJ false ?_ ?_
 ·rw[ByteArray.toList_eq];rfl
 refine gx ?_;refine zr (.int .u8 48) ?_;refine gx ?_;refine zr (.int .u8 48) ?_;refine zc 179 _ (zy _ b hb) ?_;rintro e f ⟨⟨k,c,rfl,h1,h2⟩,a⟩
 refine gx ?_;exact aF ⟨⟨k,c,rfl,h1,h2⟩,a⟩
theorem zjx{σ:Type}{l:Fm}(L:σ->List (Nat×Value))(I:σ->World->Prop)
 (h:∀d:Exit->Act->World->Prop,(∀b w' s,oN b (L s)->I s w'->d .normal (aH n b) w')->(∀a w,Q .ret a w->d .ret a w)->c.wp prog d (aH n l) w)
 (hQ:∀b w' s,I s w'->Q .normal (aH n (look b (L s))) w'):c.wp prog Q (aH n l) w:=
 h Q (λ b w' s hs e=>by have:=hQ b w' s e;rwa [jA hs] at this) λ _ _ h=>h
structure Ls(W:World)(g:Nat)(ta:Option Addr)(tc:Nat)(ts:List aS):Prop where
 bw:∃x1 x2 x3,aD W g #[.slice ta ts.length tc,x1,x2,x3] 161
 tok:BC W ta ts.length tc ts
 num:∀t∈ts,t.kind=0->vv t.text
 len:ts.length<=5000
theorem Ls.kept{W':World}(h:Ls W g ta tc ts)(k:aa W W'):Ls W' g ta tc ts:=by
 obtain⟨x1,x2,x3,hb⟩:=h.bw;exact⟨⟨x1,x2,x3,hb.kept k⟩,h.tok.sub λ _ _ hc=>k.cell hc,h.num,h.len⟩
def zC(t:ByteArray):Bool:=kE t&&decide (cw (oo t)=0)
def yu(t:aS):Bool:=decide (t.kind=0)&&zC t.text
def fY(t:aS):Bool:=decide (t.kind=0)&&decide (iz t.text≠0)
def gP(ts:List aS):Option (Nat×Nat):=match ts.find? yu with
 |some t=>some (t.at',10)
 |none=>match ts.find? fY with
  |some t=>some (t.at',1)
  |none=>none
def pS(l:List aS):Int:=match l.find? fY with
 |some t=>(t.at':Int)
 |none=> -1
theorem QB(l:List aS)(t:aS):pS (l++[t])=if pS l<0 then(if fY t=true then(t.at':Int) else -1) else pS l:=by
 unfold pS;rw[List.find?_append]
 cases h:l.find? fY with
 |some u=>
  simp only[Option.some_or]
  rw[if_neg (by omega)]
 |none=>
  simp only[Option.none_or]
  rw[if_pos (by decide)]
  by_cases hb:fY t=true
  ·simp[List.find?,hb]
  ·simp[List.find?,hb]
theorem WT(l:List aS): -1<=pS l:=by
 unfold pS;cases l.find? fY with
 |none=>exact Int.le_refl _
 |some t=>simp only;omega
theorem S4(a:∀t∈ts,yu t=false):gP ts=if pS ts<0 then none else some ((pS ts).toNat,1):=by
 unfold gP pS;rw[List.find?_eq_none.2 λ t b=>by rw[a t b];exact iZ]
 cases h:ts.find? fY with
 |none=>simp
 |some u=>simp
theorem WU(c:k<ts.length)(a:∀t∈ts.take k,yu t=false)(h:yu ts[k]=true):gP ts=some (ts[k].at',10):=by
 have e:ts.find? yu=some ts[k]:=by
  conv=>lhs;rw[<-List.take_append_drop k ts,List.drop_eq_getElem_cons c]
  rw[List.find?_append,List.find?_eq_none.2 λ t b=>by rw[a t b];exact iZ]
  simp[List.find?,h]
 unfold gP;rw[e]
def Zq(o:Option (Nat×Nat)):Value:=match o with
 |some (a,c)=>.tuple #[.int .i64 (a:Int),.int .i64 (c:Int)]
 |none=>.tuple #[.int .i64 0,.int .i64 0]
theorem Ij(h:Ls W g ta tc ts)(hT:cL W){x:cW}{bx cd:Value}(hb:∃a n c,bx= .slice a n c)(hc:∃a n c,cd= .slice a n c):
 Calls prog 35 #[.agg (ef g s x bx cd)] W λ e W'=>e= .returned (Zq (gP ts))/\aa W W':=by
 have D9:=qJ (g:=g) (s:=s) (x:=x) hb hc;refine ct 57 func35 rfl ntmps35 ?_;refine gx ?_;refine zb λ w1 g1 e1 K b1 q1=> ?_;obtain⟨x1,x2,x3,Q⟩:=h.bw;have C:=Q.kept K;refine gx ?_;clear Q C;refine dQ (σ:=Unit) ts.length (λ k _=>[(4,.int .i64 (pS (ts.take k))),(16,.slice ta ts.length tc),(17,.int .i64 (ts.length:Int)),(18,.int .i64 (k:Int))]) (λ k _ E=>aa W E/\k<=ts.length/\∀t∈ts.take k,yu t=false) () ⟨rfl,rfl,rfl,rfl,trivial⟩ ⟨K,eo _,λ t j=>by simp at j⟩ λ fl wr k _ hk ⟨p,Lt,v⟩=> ?_;have O:=h.len;refine gx ?_;by_cases q:k<ts.length;case neg=>
  refine gx ?_;obtain rfl:k=ts.length:=by omega
  rw[List.take_length] at v⊢;have m:=S4 v;refine cr (!decide (pS ts<0)) ?_ ?_
  ·show decide ((0:Int)<=pS ts)=_;by_cases f:pS ts<0
   ·rw[cU f,gy (by omega)];rfl
   ·rw[gy f,cU (by omega)];rfl
  by_cases f:pS ts<0
  ·rw[if_pos f] at m;rw[cU f]
   refine gx ?_;exact fa ⟨by rw[m];rfl,p⟩
  ·rw[if_neg f] at m;rw[gy f]
   refine gx ?_;refine fa ⟨?_,p⟩
   rw[m]
   show _=Ending.returned (.tuple #[.int .i64 ((pS ts).toNat:Int),.int .i64 1])
   rw[Int.toNat_of_nonneg (by omega)]
 refine cr true ?_ ?_
 ·exact cU (by omega)
 have L:ts.take (k+1)=ts.take k++[ts[k]]:=List.take_succ_eq_append_getElem q;refine If ?_;refine zjx (σ:=Unit) (λ _=>[(4,.int .i64 (pS (ts.take (k+1)))),(16,.slice ta ts.length tc),(17,.int .i64 (ts.length:Int)),(18,.int .i64 (k:Int))]) (λ _ E=>aa W E/\yu ts[k]=false) (λ Q' d m=> ?_) (λ l' w9 _ ⟨V,B⟩=> ?_)
 ·obtain⟨b,rfl,M⟩:=(h.tok.sub λ _ _ hc=>p.cell hc).row q;have N:=h.num ts[k] (List.getElem_mem q)
  rw[L,QB] at d;obtain⟨t,j⟩:∃t,t=ts[k]:=⟨_,rfl⟩
  have u:=WU q v;rw[<-j] at M N d u;have y:fY t=false->(if pS (ts.take k)<0 then(if fY t=true then(t.at':Int) else -1) else pS (ts.take k))=pS (ts.take k):=λ h=>by
   rw[h,if_neg iZ]
   have:=WT (ts.take k)
   split<;>omega
  refine gx ?_;refine zi (s:=3) k q ?_;refine zl M ⟨by kernel_rfl,by first|kernel_rfl|simp[Value.oneCell']⟩ ?_;refine za ZT 153 λ w2 g2 e2 Y b2 q2=> ?_;refine zt b2 lC cA λ w3 X b3=> ?_;have R:aa W w3:=(p.trans Y).but X (by have:=p.size;omega)
  refine gx ?_;by_cases l:t.kind=0;case neg=>
   refine cr true ?_ ?_
   ·exact bne_iff_ne.2 (by omega)
   refine gx ?_;have vz:fY t=false:=by unfold fY;rw[gy l,Bool.false_and]
   have i:yu t=false:=by unfold yu;rw[gy l,Bool.false_and]
   rw[y vz] at d;exact d _ _ () ⟨rfl,rfl,rfl,rfl,trivial⟩ ⟨R,i⟩
  refine cr false ?_ ?_
  ·rw[l];rfl
  have nf:=N l;refine gx ?_;refine zc 98 _ (D7 nf) ?_;rintro e w4 ⟨he,J⟩
  have D:=b3.kept J;have o:=R.trans J;by_cases hs:kE t.text=true;case' pos=>
   rw[if_pos hs] at he;subst he;have Z:aw t.text 0≠t.text.size:=by
    unfold kE at hs;have:=kC (Bool.and_eq_true_iff.1 hs).1;omega
   obtain⟨U,tz,Zo,-⟩:=nf.tl Z;have T:=nf.size;refine gx ?_;refine zc 99 _ (zB (b:=oo t.text) (by omega) U (by omega)) ?_;rintro e w5 ⟨⟨r,rfl,hr⟩,I⟩
   refine⟨_,rfl,?_⟩
   replace D:=D.kept I;replace o:=o.trans I;refine gx ?_;refine pJ (decide (cw (oo t.text)=0)) ?_ ?_
   ·rw[Il,decide_eq_decide];exact hr
   by_cases f:cw (oo t.text)=0;case pos=>
    rw[cU f]
    have A:yu t=true:=by unfold yu zC;rw[hs,cU l,cU f];rfl
    refine gx ?_;refine m _ _ ?_;refine gx ?_;exact fa ⟨by rw[u A];rfl,o⟩
   rw[gy f]
   have i:yu t=false:=by unfold yu zC;rw[hs,gy f];simp
  case' neg=>
   rw[if_neg hs] at he;subst he;have i:yu t=false:=by unfold yu zC;rw[Bool.eq_false_iff.2 hs];simp
   refine⟨_,rfl,?_⟩
  all_goals
   refine gx ?_;refine zc 100 _ (kF nf (hT.kept o)) ?_;rintro e w6 ⟨a1,n1,c1,a2,n2,c2,rfl,-,z⟩
   refine⟨_,rfl,?_⟩
   have b6:=D.kept z;refine gx ?_;refine za ZR 24 λ w7 g7 e7 H b7 q7=> ?_;refine zt b7 cQ cQ λ S G b8=> ?_;have b68:=(b6.kept H).ai G (by have:=b6.lt;omega)
   have F:aa W S:=((o.trans z).trans H).but G (by have:=(o.trans z).size;omega)
   refine gx ?_;refine cr (decide (iz t.text≠0)) ?_ ?_
   ·show(((iz t.text:Nat):Int) != 0)=_;by_cases h:iz t.text=0
    ·rw[h];rfl
    ·rw[cU h];exact bne_iff_ne.2 (by omega)
   have xO:fY t=decide (iz t.text≠0):=by unfold fY;rw[cU l,Bool.true_and]
   rw[xO] at d y;by_cases P:iz t.text≠0;case neg=>
    rw[gy P] at d y⊢;rw[y rfl] at d;refine gx ?_;exact d _ _ () ⟨rfl,rfl,rfl,rfl,trivial⟩ ⟨F,i⟩
   rw[cU P] at d⊢;refine gx ?_;by_cases w:pS (ts.take k)<0;case neg=>
    rw[if_neg w] at d;refine cr false ?_ ?_
    ·exact gy w
    refine gx ?_;exact d _ _ () ⟨rfl,rfl,rfl,rfl,trivial⟩ ⟨F,i⟩
   rw[if_pos w,if_pos rfl] at d;refine cr true ?_ ?_
   ·exact cU w
   refine gx ?_;exact d _ _ () ⟨rfl,rfl,rfl,rfl,trivial⟩ ⟨F,i⟩
 refine gx ?_;refine mH ((k+1:Nat):Int) ?_ ?_ ?_
 ·show(k:Int)+1=_;omega
 ·rw[IntKind.wrap_i64];omega
 refine gx ?_;refine⟨_,(),rfl,by omega,⟨rfl,rfl,rfl,rfl,trivial⟩,V,by omega,λ t j=> ?_⟩
 rw[L] at j;rcases List.mem_append.1 j with h1|h1
 ·exact v t h1
 ·rw[List.mem_singleton.1 h1];exact B
theorem zD(w:World)(t:ByteArray):Calls prog 261 #[.string t] w λ e w'=>∃k:Nat,e= .returned (.tuple #[.int .i64 (k:Int),.bool (cg aW t)])/\(cg aW t=true->k=Ea t+1)/\aa w w':=by
 have l:aW.size=8:=rfl;refine ct 18 func261 rfl ntmps261 ?_;refine gx ?_;refine zc 328 _ (sG w) ?_;rintro e g ⟨b,rfl,hs,i⟩
 refine gx ?_;refine mi 8 (λ k=>[(0,.string t),(6,.slice (some ⟨b,0,none⟩) 8 8),(7,.int .i64 8),(8,.int .i64 (k:Int))])
  (λ k W=>aa g W/\∀j,j<k->((aW[j]?.getD ⟨#[]⟩).toList==t.toList)=false) ⟨rfl,rfl,rfl,rfl,trivial⟩ ⟨aa.refl g,λ j a=>absurd a (Nat.not_lt_zero j)⟩ λ n wr k m ⟨c,hn⟩=> ?_
 refine gx ?_;by_cases d:k<8;case neg=>
  obtain rfl:k=8:=by omega
  refine gx ?_;have hf:cg aW t=false:=uP λ j a=>hn j (by rw[l] at a;exact a)
  exact fa (v:=.int .i64 ((0:Nat):Int)) (x:=.bool false) ⟨0,by rw[hf],(λ h=>by rw[hf] at h;cases h),i.trans c⟩
 refine gx ?_;refine zi (s:=1) k d ?_;refine kB (x:=.string (aW[k]?.getD ⟨#[]⟩)) (b:=b) (o:=0+k*1) (by rw[lp,Nat.mul_one];exact hs.kept c k d) ?_;refine gx ?_;refine z2 (.bool ((aW[k]?.getD ⟨#[]⟩).toList==t.toList)) ?_;cases f:((aW[k]?.getD ⟨#[]⟩).toList==t.toList)
 ·refine gx ?_;refine z2 (.int .i64 ((k+1:Nat):Int)) (hrun:=cu (by omega)) ?_;refine gx ?_;exact⟨_,rfl,by omega,⟨rfl,rfl,rfl,rfl,trivial⟩,c,λ j a=>by
   by_cases he:j=k
   ·subst he;exact f
   ·exact hn j (by omega)⟩
 ·refine gx ?_;have hf:cg aW t=true:=wM (j:=k) (by rw[l];exact d) f;refine z2 (.int .i64 ((k+1:Nat):Int)) (hrun:=cu (by omega)) ?_;refine gx ?_;exact fa (v:=.int .i64 ((k+1:Nat):Int)) (x:=.bool true) ⟨k+1,by rw[hf],λ _=>by rw[S7 d f hn],i.trans c⟩
theorem oP(w:World)(s:ByteArray)(hs:s.size<=1000000):Calls prog 416 #[.string s] w λ e w'=>e= .returned (.int .i64 (aw s 0:Int))/\aa w w':=by
 refine ct 16 func416 rfl ntmps416 ?_;refine If ?_;refine Dt (σ:=Unit) (λ _=>[(3,.int .i64 (aw s 0:Int))]) (λ _ W=>aa w W) (λ o f=> ?_) (λ j g _ b=> ?_)
 ·refine gx ?_;refine mi s.size (λ k=>[(0,.string s),(3,.int .i64 (k:Int))]) (λ k W=>aa w W/\k<=s.size/\gW aQ s 0=gW aQ s k) ⟨rfl,rfl,trivial⟩ ⟨aa.refl w,eo _,rfl⟩ λ n wr k m ⟨a,l,he⟩=> ?_;refine gx ?_;by_cases d:k<s.size;case neg=>
   have c:=wN he λ h=>absurd h d;refine gx ?_;exact f _ _ () ⟨by rw[c];rfl,trivial⟩ a
  refine gx ?_;refine wL d ?_;refine gx ?_;refine zc 378 _ (qK wr (bt s k)) ?_;rintro e i ⟨rfl,rfl⟩
  refine⟨_,rfl,?_⟩
  cases hd:aQ (bt s k)
  ·have c:=wN he λ h=>hd;refine gx ?_;exact f _ _ () ⟨by rw[c];rfl,trivial⟩ a
  refine gx ?_;refine mH ((k+1:Nat):Int) ?_ ?_ ?_
  ·show(k:Int)+1=_;omega
  ·rw[IntKind.wrap_i64];omega
  refine gx ?_;exact⟨_,rfl,by omega,⟨rfl,rfl,trivial⟩,a,by omega,by rw[he,dN d hd]⟩
 replace b:aa w g:=b;refine gx ?_;exact aF ⟨rfl,b⟩
theorem pW{p:Nat->Bool}{s:ByteArray}{i:Nat}(hi:i<=s.size)(k:Nat)(c:i+k<=s.size):gW p (s.extract i s.size) k+i=gW p s (i+k):=by
 have b:(s.extract i s.size).size=s.size-i:=bO _ _ _ (aU _)
 by_cases h:i+k<s.size
 ·have a:bt (s.extract i s.size) k=bt s (i+k):=fD (aU _) (by omega)
  cases hp:p (bt s (i+k)) with
  |true=>
   rw[dN h hp,dN (by omega) (by rw[a];exact hp),pW hi (k+1) (by omega)]
   rfl
  |false=>rw[ir λ _=>hp,ir λ _=>by rw[a];exact hp];omega
 ·rw[ir λ h2=>absurd h2 h,ir λ h2=>by omega]
  omega
termination_by s.size-(i+k)
decreasing_by omega
theorem Fq(w:World)(s:ByteArray)(hs:s.size<=1000000)(d:0<s.size):Calls prog 324 #[.string s] w λ e w'=>e= .returned (.int .i64 (if cE (bt s 0)=true then(dO s 0:Int) else 0))/\aa w w':=by
 obtain⟨z,g⟩:∃z,z=cE (bt s 0):=⟨_,rfl⟩
 rw[<-g]
 refine ct 30 func324 rfl ntmps324 ?_;refine gx ?_;refine pJ false (sD d) ?_;refine gx ?_;refine wL d ?_;refine gx ?_;refine zc 377 _ (mM w (bt s 0)) ?_;rintro e j ⟨rfl,rfl⟩
 refine⟨_,rfl,?_⟩
 rw[<-g]
 cases z
 ·refine gx ?_;exact aF ⟨by rw[if_neg iZ],aa.refl _⟩
 have h1:dO s 0=gW Iy s 1:=dN d (by unfold Iy;rw[<-g];rfl)
 refine If ?_;refine Dt (σ:=Unit) (λ _=>[(3,.int .i64 (dO s 0:Int))]) (λ _ W=>aa w W) (λ u p=> ?_) (λ r q _ f=> ?_)
 ·refine gx ?_;refine dQ (σ:=Nat) s.size (λ _ k=>[(0,.string s),(3,.int .i64 (k:Int))]) (λ m k W=>aa w W/\m<k/\k<=s.size/\dO s 0=gW Iy s k) 1 ⟨rfl,rfl,trivial⟩ ⟨aa.refl w,by decide,d,h1⟩ λ t wr m k hm ⟨c,l,o,he⟩=> ?_;replace l:m<k:=l;replace o:k<=s.size:=o;replace he:dO s 0=gW Iy s k:=he;refine gx ?_;by_cases a:k<s.size;case neg=>
   have i:dO s 0=k:=by rw[he,ir λ h=>absurd h a]
   refine gx ?_;exact p _ _ () ⟨by rw[i];rfl,trivial⟩ c
  refine gx ?_;refine wL a ?_;refine gx ?_;refine zc 377 _ (mM wr (bt s k)) ?_;rintro e j ⟨rfl,rfl⟩
  refine⟨_,rfl,?_⟩
  have b:Iy (bt s k)=(cE (bt s k)||aQ (bt s k)):=rfl;cases n:cE (bt s k)
  case true=>
   rw[n] at b;refine gx ?_;refine mH ((k+1:Nat):Int) ?_ ?_ ?_
   ·show(k:Int)+1=_;omega
   ·rw[IntKind.wrap_i64];omega
   refine gx ?_;exact⟨_,k+1,rfl,by omega,⟨rfl,rfl,trivial⟩,c,by omega,a,by rw[he,dN a b]⟩
  rw[n] at b;refine gx ?_;refine wL a ?_;refine gx ?_;refine zc 378 _ (qK wr (bt s k)) ?_;rintro e j ⟨rfl,rfl⟩
  refine⟨_,rfl,?_⟩
  cases hd:aQ (bt s k)
  ·rw[hd] at b;have i:dO s 0=k:=by rw[he,ir λ h=>b]
   refine gx ?_;exact p _ _ () ⟨by rw[i];rfl,trivial⟩ c
  rw[hd] at b;refine gx ?_;refine mH ((k+1:Nat):Int) ?_ ?_ ?_
  ·show(k:Int)+1=_;omega
  ·rw[IntKind.wrap_i64];omega
  refine gx ?_;exact⟨_,k+1,rfl,by omega,⟨rfl,rfl,trivial⟩,c,by omega,a,by rw[he,dN a b]⟩
 replace f:aa w q:=f;refine gx ?_;exact aF ⟨by rw[if_pos rfl],f⟩
end
end Go.Proofs.YtbapfnpbamnmpaaGreatDoor
