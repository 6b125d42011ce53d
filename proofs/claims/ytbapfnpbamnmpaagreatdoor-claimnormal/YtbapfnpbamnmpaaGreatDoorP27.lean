/- A part of the proof that the text which Print makes of a parsed text is a normal form -/
import Derived.Test.YtbapfnpbamnmpaaGreatDoorP00
import Derived.Test.YtbapfnpbamnmpaaGreatDoorP21
import Derived.Test.YtbapfnpbamnmpaaGreatDoorP26
import Derived.Lib.OthersKept
import Derived.Test.YtbapfnpbamnmpaaGreatDoorP25
set_option maxHeartbeats 8000000
set_option maxRecDepth 100000
namespace Go.Proofs.YtbapfnpbamnmpaaGreatDoor
open Go Go.RowKit Go.Dig Go.Deep Go.Eng Go.Proofs.Tryz
variable{c g i j k p:Nat}{x:Operand}{s:ByteArray}{r:PR Unit}{v:Value}{W1:World}
section
attribute [local irreducible] wpList
def sX(c:Nat):Bool:=c==46||c==47
theorem afq:∀c<256,decide (0<=Lib.indexByte [46,47] (UInt8.ofNat c))=sX c:=by decide
theorem FL(w:World)(c:Nat)(hc:c<256):Calls prog 173 #[.string ⟨#[46,47]⟩,.int .u8 (c:Int)] w λ e w'=>∃k:Int,e= .returned (.int .i64 k)/\decide (0<=k)=sX c/\aa w w':=by
 refine dK [_,_] 8 func173 rfl ntmps173 (by simp) ?_;refine gx ?_;refine zc 263 _ (Tryz.stringslite_IndexByte ⟨#[46,47]⟩ (c:Int) w) ?_;rintro e d ⟨rfl,rfl⟩
 refine⟨_,rfl,?_⟩
 have a:=afq c hc;have e1:(⟨#[46,47]⟩:ByteArray).data.toList=[46,47]:=rfl;have b:((c:Int).toNat).toUInt8=UInt8.ofNat c:=rfl;rw[e1,b]
 generalize Lib.indexByte [46,47] (UInt8.ofNat c)=k at a;refine gx ?_;exact aF (v:=.int .i64 k) ⟨k,rfl,a,aa.refl _⟩
theorem I9(w:World)(c:Nat)(hc:c<128):Calls prog 335 #[.string ⟨#[46,47]⟩,.int .i32 (c:Int)] w λ e w'=>∃k:Int,e= .returned (.int .i64 k)/\decide (0<=k)=sX c/\aa w w':=by
 refine dK [_,_] 187 func335 rfl ntmps335 (by simp) ?_;refine gx ?_;refine z1 (F:=convert 21 5) (xv:=.int .i32 (c:Int)) (.int .u8 (c:Int)) (hrun:=by go_simp;rw[IntKind.wrap_u8];omega) ?_;refine zc 173 _ (FL w c (by omega)) ?_;rintro e d ⟨k,rfl,b,a⟩
 refine gx ?_;exact aF (v:=.int .i64 k) ⟨k,rfl,b,a⟩
def oz:Nat->Array Value
 |0=>Array.replicate 256 (.bool false)
 |1=>(Array.replicate 256 (.bool false)).setIfInBounds 46 (.bool true)
 |_=>((Array.replicate 256 (.bool false)).setIfInBounds 46 (.bool true)).setIfInBounds 47 (.bool true)
theorem Cl(k:Nat):(oz k).size=256:=by
 unfold oz;split<;>simp
theorem yG(k:Nat):dY 246 (oz k):=by
 refine⟨by rw[Cl];kernel_rfl,?_⟩
 unfold oz;split<;>kernel_rfl
theorem TQ(c:Nat)(h:c<256):(oz 2)[c]? =some (.bool (sX c)):=by
 unfold oz sX;simp only[Array.getElem?_setIfInBounds,Array.size_setIfInBounds,Array.size_replicate,Array.getElem?_replicate]
 by_cases h1:c=47
 ·subst h1;rfl
 ·by_cases h2:c=46
  ·subst h2;rfl
  ·simp[h,h1,h2,Ne.symm h1,Ne.symm h2]
theorem TR{k:IntKind}{w:World}(hc:c<256):(Instr.indexAt 246 (.pointer (some ⟨g,0,none⟩)) (.int k (c:Int))).run prog w= .ok (.pointer (some ⟨g,c,none⟩)) w:=by
 have hd:(prog.info? 4).map (·.size)=some 1:=by kernel_rfl
 obtain⟨q,a,hd⟩:=Option.map_eq_some_iff.1 hd;unfold Instr.indexAt;simp only[Sem.run_bind,asIntOf,Result.andThen,Instr.sureAddr]
 have h1:(0:Int)<=(c:Int)/\(c:Int)<256:=by omega
 simp[h1,sizeOf,typeInfo,a,hd,Addr.add,Sem.run_bind,hc]
 exact λ h=>h.symm
section
variable{n:Nat}{l:Fm}{ops:Array Oper}{rest:List Oper}{Q:Exit->Act->World->Prop}{oi:Oper}{w:World}{d:Nat}
theorem zai{k:IntKind}{y:Operand}(hc:c<256)(h:wpList prog ops Q rest (aH n (aC l d (.pointer (some ⟨g,c,none⟩)))) w)(b:oi.op= .indexAddr 246 x y:=by rfl)
 (hx:bA n l x=some (.pointer (some ⟨g,0,none⟩)):=by rfl)(a:bA n l y=some (.int k (c:Int)):=by rfl)(e:oi.guard=none:=by rfl)(hd:oi.dst=some d:=by rfl):wpList prog ops Q (oi::rest) (aH n l) w:=
 zv _ (by
  unfold execOp;rw[aO]
  simp only[b,eG hx,eG a]
  rw[Sem.run_bind,TR hc]
  rfl) e hd h
end
theorem Mm(w:World):Calls prog 181 #[.string ⟨#[46,47]⟩] w λ e w'=>e= .returned (.tuple #[.agg (oz 2),.bool true])/\aa w w':=by
 refine ct 20 func181 rfl ntmps181 ?_;refine gx ?_;refine za (oz 0) 246 λ n g1 e1 j m q1=> ?_;have g:w.heap.size<=g1:=by omega
 refine gx ?_;refine dQ (σ:=Unit) 2 (λ k _=>[(0,.string ⟨#[46,47]⟩),(2,.pointer (some ⟨g1,0,none⟩)),(4,.int .i64 ((k:Nat):Int))])
  (λ k _ W=>aa w W/\aD W g1 (oz k) 246) () ⟨rfl,rfl,rfl,trivial⟩ ⟨j,m⟩ λ p wr k _ o ⟨f,b⟩=> ?_
 refine gx ?_;by_cases l:k<2;case neg=>
  obtain rfl:k=2:=by omega
  refine gx ?_;refine zl b.range (yG 2) ?_;refine zt b (yG 2) (yG 2) λ h a d=> ?_;refine gx ?_;exact qZ (v:=.bool true) d (yG 2) ⟨rfl,f.but a g⟩
 refine cr true ?_ ?_
 ·exact cU (by show(k:Int)<2;omega)
 obtain⟨c,hc,hs,hb⟩:∃c,c<128/\oz (k+1)=(oz k).setIfInBounds c (.bool true)/\bt ⟨#[46,47]⟩ k=c:=by
  obtain rfl|rfl:k=0∨k=1:=by omega
  ·exact⟨46,by decide,rfl,rfl⟩
  ·exact⟨47,by decide,rfl,rfl⟩
 refine gx ?_;refine wL (s:=⟨#[46,47]⟩) (k:=k) l ?_;rw[hb]
 refine gx ?_;refine zai (c:=c) (by omega) ?_;refine fV (i:=c) b (by rw[Cl];omega) rfl λ h a d=> ?_;refine gx ?_;refine z2 (.int .i64 ((k+1:Nat):Int)) (hrun:=cu (by omega)) ?_;refine gx ?_;exact⟨_,(),rfl,by omega,⟨rfl,rfl,rfl,trivial⟩,f.but a g,by rw[hs];exact d⟩
theorem Mn(w:World)(hc:c<256)(b:aD w g (oz 2) 246):Calls prog 269 #[.pointer (some ⟨g,0,none⟩),.int .u8 (c:Int)] w λ e w'=>e= .returned (.bool (sX c))/\aa w w':=by
 refine dK [_,_] 10 func269 rfl ntmps269 (by simp) ?_;refine gx ?_;refine zai (c:=c) hc ?_;refine kB (b.cell c (TQ c hc)) ?_;refine gx ?_;exact aF (v:=.bool (sX c)) ⟨rfl,aa.refl w⟩
section
variable{n:Nat}{l:Fm}{ops:Array Oper}{rest:List Oper}{Q:Exit->Act->World->Prop}{oi:Oper}{w:World}{d:Nat}
theorem zrg(h:∀W g,g=w.heap.size->aa w W->W.heap[g]? =some (.stringIter s 0)->wpList prog ops Q rest (aH n (aC l d (.pointer (some ⟨g,0,none⟩)))) W)(a:oi.op= .range 9 x:=by rfl)
 (hx:bA n l x=some (.string s):=by rfl)(b:oi.guard=none:=by rfl)(hd:oi.dst=some d:=by rfl):wpList prog ops Q (oi::rest) (aH n l) w:=
 zv (w':=w.alloc (.stringIter s 0)) (.pointer (some ⟨w.heap.size,0,none⟩)) (by
  unfold execOp;rw[aO]
  simp only[a,eG hx]
  have e:(Instr.range 9 (.string s)).run prog w= .ok (.pointer (some ⟨w.heap.size,0,none⟩)) (w.alloc (.stringIter s 0)):=by kernel_rfl
  rw[Sem.run_bind,e]
  rfl) b hd (h _ _ rfl ((aa.refl w).alloc _) (World.iter_heap w s 0))
theorem Q5:af w (w.iterAt k s p) k:=⟨by rw[Lib.iterAt_size];exact aU _,λ c _ hc=>Lib.iterAt_other w k c s p hc,rfl,rfl,rfl⟩
theorem znx(a:w.heap[k]? =some (.stringIter s p))(hp:p<s.size)(ha:bt s p<128)
 (h:∀W,af w W k->W.heap[k]? =some (.stringIter s (p+1))->wpList prog ops Q rest (aH n (aC l d (.tuple #[.bool true,.int .i64 (p:Int),.int .i32 ((bt s p:Nat):Int)]))) W)(b:oi.op= .next x true:=by rfl)
 (hx:bA n l x=some (.pointer (some ⟨k,0,none⟩)):=by rfl)(c:oi.guard=none:=by rfl)(hd:oi.dst=some d:=by rfl):wpList prog ops Q (oi::rest) (aH n l) w:=
 zv (w':=w.iterAt k s (p+1)) _ (by
  have e:=Lib.run_next_ascii_at (P:=prog) w k s p oi.type a hp (by rw[<-kD hp];exact ha)
  unfold execOp;rw[aO]
  simp only[b,eG hx]
  rw[Sem.run_bind,e,kD hp]
  rfl) c hd (h _ Q5 (Lib.iterAt_heap w k s p (p+1) a))
theorem akF(b:w.heap[k]? =some (.stringIter s p))(hp:¬p<s.size)(h:wpList prog ops Q rest (aH n (aC l d (.tuple #[.bool false]))) w)(a:oi.op= .next x true:=by rfl)
 (hx:bA n l x=some (.pointer (some ⟨k,0,none⟩)):=by rfl)(c:oi.guard=none:=by rfl)(hd:oi.dst=some d:=by rfl):wpList prog ops Q (oi::rest) (aH n l) w:=
 zv _ (by
  have e:=Lib.run_next_end_at (P:=prog) w k s p oi.type b hp;unfold execOp;rw[aO]
  simp only[a,eG hx]
  rw[Sem.run_bind,e]
  rfl) c hd h
end
def lU(s:ByteArray):Bool:=(List.range s.size).any λ j=>sX (bt s j)
theorem yH(h:∀j<s.size,sX (bt s j)=false):lU s=false:=by
 unfold lU;rw[List.any_eq_false]
 intro j a;rw[h j (List.mem_range.1 a)]
 decide
theorem vO(a:j<s.size)(h:sX (bt s j)=true):lU s=true:=by
 unfold lU;exact List.any_eq_true.2 ⟨j,List.mem_range.2 a,h⟩
theorem Mo(w:World)(s:ByteArray)(hs:s.size<=1000000)(ha:∀j<s.size,bt s j<128):Calls prog 426 #[.string s,.string ⟨#[46,47]⟩] w λ e w'=>∃k:Int,e= .returned (.int .i64 k)/\decide (0<=k)=lU s/\aa w w':=by
 refine dK [_,_] 55 func426 rfl ntmps426 (by simp) ?_;refine gx ?_;refine pJ false ?_ ?_
 ·rw[ByteArray.toList_eq];rfl
 refine gx ?_;have q:Calls prog 434 #[.int .i64 (s.size:Int)] w λ e w'=>e= .returned (.bool (decide (8<s.size)))/\aa w w':=by
  refine ct 4 func434 rfl ntmps434 ?_;refine gx ?_;refine cr (decide (8<s.size)) ?_ ?_
  ·show decide ((8:Int)<(s.size:Int))=_;exact decide_eq_decide.2 (by omega)
  refine gx ?_;exact aF (v:=.bool (decide (8<s.size))) ⟨rfl,aa.refl w⟩
 refine zc 434 _ q ?_;rintro e u ⟨rfl,l⟩
 refine⟨_,rfl,?_⟩
 generalize decide (8<s.size)=r;cases r
 ·refine gx ?_;refine zrg (s:=s) λ t g2 H g D=> ?_;have A:w.heap.size<=g2:=by have:=l.size;omega
  refine gx ?_;refine dQ (σ:=Unit) s.size (λ k _=>[(0,.string s),(1,.string ⟨#[46,47]⟩),(45,.pointer (some ⟨g2,0,none⟩))])
   (λ k _ W=>aa w W/\W.heap[g2]? =some (.stringIter s k)/\∀j<k,sX (bt s j)=false) () ⟨rfl,rfl,rfl,trivial⟩ ⟨l.trans g,D,λ j h=>absurd h (by omega)⟩ λ B wr k _ x ⟨b,d,c⟩=> ?_
  refine gx ?_;by_cases a:k<s.size;case neg=>
   obtain rfl:k=s.size:=by omega
   refine akF d a ?_;refine gx ?_;exact aF (v:=.int .i64 (-1)) ⟨-1,rfl,(yH c).symm,b⟩
  refine znx d a (ha k a) λ w3 p b3=> ?_;refine gx ?_;refine zc 335 _ (I9 w3 (bt s k) (ha k a)) ?_;rintro e n ⟨i,rfl,hi,f⟩
  refine⟨_,rfl,?_⟩
  refine cr (sX (bt s k)) ?_ ?_
  ·exact hi
  have m:aa w n:=(b.but p A).trans f;cases hd:sX (bt s k)
  ·refine gx ?_;refine⟨_,(),rfl,by omega,⟨rfl,rfl,rfl,trivial⟩,m,?_,λ j y=> ?_⟩
   ·rw[f.old g2 (Array.getElem?_eq_some_iff.1 b3).1];exact b3
   ·by_cases h:j=k
    ·rw[h];exact hd
    ·exact c j (by omega)
  ·refine gx ?_;exact aF (v:=.int .i64 (k:Int)) ⟨k,rfl,by rw[vO a hd];exact cU (by omega),m⟩
 ·refine gx ?_;refine zc 181 _ (Mm u) ?_;rintro e t ⟨rfl,g⟩
  refine gx ?_;refine za (oz 0) 246 λ w3 g3 G p b3 F=> ?_;have z:w.heap.size<=g3:=by have:=l.size;have:=g.size;omega
  refine zt b3 (yG 0) (yG 2) λ n f C=> ?_;have m:aa w n:=((l.trans g).trans p).but f z;refine gx ?_;refine dQ (σ:=Unit) s.size (λ k _=>[(0,.string s),(6,.pointer (some ⟨g3,0,none⟩)),(8,.int .i64 ((k:Nat):Int))])
   (λ k _ W=>aa w W/\aD W g3 (oz 2) 246/\∀j<k,sX (bt s j)=false) () ⟨rfl,rfl,rfl,trivial⟩ ⟨m,C,λ j h=>absurd h (by omega)⟩ λ B wr k _ x ⟨b,d,c⟩=> ?_
  refine gx ?_;by_cases a:k<s.size;case neg=>
   obtain rfl:k=s.size:=by omega
   refine gx ?_;exact aF (v:=.int .i64 (-1)) ⟨-1,rfl,(yH c).symm,b⟩
  refine gx ?_;refine wL (s:=s) (k:=k) a ?_;refine zc 269 _ (Mn wr (ZK s k) d) ?_;rintro e E ⟨rfl,o⟩
  refine⟨_,rfl,?_⟩
  cases hd:sX (bt s k)
  ·refine gx ?_;refine z2 (.int .i64 ((k+1:Nat):Int)) (hrun:=cu (by omega)) ?_;refine gx ?_;refine⟨_,(),rfl,by omega,⟨rfl,rfl,rfl,trivial⟩,b.trans o,d.kept o,λ j y=> ?_⟩
   by_cases h:j=k
   ·rw[h];exact hd
   ·exact c j (by omega)
  ·refine gx ?_;exact aF (v:=.int .i64 (k:Int)) ⟨k,rfl,by rw[vO a hd];exact cU (by omega),b.trans o⟩
theorem Mp(w:World)(s:ByteArray)(hs:s.size<=1000000)(ha:∀j<s.size,bt s j<128):Calls prog 413 #[.string s,.string ⟨#[46,47]⟩] w λ e w'=>e= .returned (.bool (lU s))/\aa w w':=by
 refine dK [_,_] 9 func413 rfl ntmps413 (by simp) ?_;refine gx ?_;refine zc 426 _ (Mo w s hs ha) ?_;rintro e c ⟨k,rfl,b,a⟩
 refine⟨_,rfl,?_⟩
 refine cr (lU s) ?_ ?_
 ·exact b
 refine gx ?_;exact aF (v:=.bool (lU s)) ⟨rfl,a⟩
structure FM(E:Nat->Bool)(W0:World)(g:Nat)(ta:Option Addr)(tc:Nat)(ts:List aS):Prop extends Q4 E W0 g ta tc ts where
 whl:∀i,(ar ts i).kind=0->(ar ts i).text.size<=1000000/\(∀j<(ar ts i).text.size,bt (ar ts i).text j<128)/\lU (ar ts i).text= !dZ (ar ts i)
def er{α:Type}(o:Option (PR α)):Option (PR Unit):=o.map (PR.map λ _=>())
theorem sY{α β:Type}(f:α->β)(o:Option (PR α)):er (o.map (PR.map f))=er o:=by
 cases o with
 |none=>rfl
 |some x=>cases x<;>rfl
def Mq(u:List (Nat×Bool)):PR Unit->PR Unit
 | .ok x j v=>.ok x j (u++v)
 | .bad j=>.bad j
theorem o8{α β:Type}{a:Option (PR α)}{f:α->Nat->Option (PR β)}(h:er (cf a f)=some r):(∃i,er a=some (.bad i)/\r= .bad i)∨(∃x i u r',a=some (.ok x i u)/\er a=some (.ok () i u)/\er (f x i)=some r'/\r=Mq u r'):=by
 cases a with
 |none=>cases h
 |some a=>
  cases a with
  |bad i=>exact .inl ⟨i,rfl,(iG h).symm⟩
  |ok x i u=>
   refine .inr ⟨x,i,u,?_⟩
   cases hf:f x i with
   |none=>simp only[cf,hf] at h;cases h
   |some y=>
    simp only[cf,hf] at h;cases y with
    |bad j=>exact⟨.bad j,rfl,rfl,rfl,(iG h).symm⟩
    |ok y j v=>exact⟨.ok () j v,rfl,rfl,rfl,(iG h).symm⟩
def gi(u:List (Nat×Bool))(b:Bool):List Nat:=(u.filter λ e=>e.2==b).map (·.1)
theorem iC(u v:List (Nat×Bool))(b:Bool):gi (u++v) b=gi u b++gi v b:=by unfold gi;rw[List.filter_append,List.map_append]
def uj(E:Nat->Bool)(W0:World)(g:Nat)(ta:Option Addr)(tc:Nat)(ts:List aS)(ex ix:List Nat)(r:PR Unit)(e:Ending)(W':World):Prop:=match r with
 | .ok _ j u=>(∃v,e= .returned v)/\∃ve vi,du E W0 W' g ta tc ts j ve vi (ex++gi u false) (ix++gi u true)
 | .bad j=>e= .panicked (oZ (ar ts j).at')/\KE E W0 W' g
theorem uj.add{E:Nat->Bool}{W0 W':World}{ta:Option Addr}{tc:Nat}{ts:List aS}{ex ix:List Nat}{u:List (Nat×Bool)}{e:Ending}(h:uj E W0 g ta tc ts (ex++gi u false) (ix++gi u true) r e W'):uj E W0 g ta tc ts ex ix (Mq u r) e W':=by
 cases r with
 |bad j=>exact h
 |ok x j v=>
  obtain⟨h1,ve,vi,h2⟩:=h;refine⟨h1,ve,vi,?_⟩
  rw[iC,iC,<-rU,<-rU]
  exact h2
theorem Cm(l:List Nat)(j:Nat):nA (l++[j])=nA l++[.int .i64 (j:Int)]:=by unfold nA;rw[List.map_append];rfl
theorem afr:gY 3 (.int .i64 0) 1 8:=mD (by kernel_rfl)
section
variable{n:Nat}{l:Fm}{ops:Array Oper}{rest:List Oper}{Q:Exit->Act->World->Prop}{oi:Oper}{w:World}{d:Nat}
theorem ZL{B m:Nat}{cs:List Value}{ob oa:Oper}{db da s:Tmp}(k:w.ownsRow B 3 1 v m cs)(x:B<=w.heap.size)(hm:m+1<=1099511627)
 (h:∀w' v',w'.ownsRow B 3 1 v' (m+1) (cs++[.int .i64 (j:Int)])->w.grownBy w' v.ownBlock->(v'.ownBlock=v.ownBlock∨∀g,v'.ownBlock=some g->w.heap.size<=g)->wpList prog ops Q rest (aH n (aC (aC l db (.slice (some ⟨w.heap.size,0,none⟩) 1 1)) da v')) w')
 (t:(execOp (ev n l) ob).run prog w= .ok (.value (.slice (some ⟨w.heap.size,0,none⟩) 1 1)) (w.alloc (.cells #[.int .i64 (j:Int)] 3)):=by kernel_rfl)(p:ob.guard=none:=by rfl)(r:ob.dst=some db:=by rfl)
 (d:oa.op= .call {callee:=.builtin .append,args:=#[.tmp s,.tmp db],argTypes:=#[159,159]}/\oa.guard=none/\oa.dst=some da:=by exact⟨rfl,rfl,rfl⟩)
 (hs:bA n l (.tmp s)=some v:=by rfl)(e:s≠db/\db<n:=by decide):wpList prog ops Q (ob::oa::rest) (aH n l) w:=by
 obtain⟨n1,n4⟩:=e;refine zv _ (by rw[aO];exact t) p r ?_;have a:aa w (w.alloc (.cells #[.int .i64 (j:Int)] 3)):=(aa.refl w).alloc _;have z:=aD.new w #[.int .i64 (j:Int)] 3;have es:bA n (aC l db (.slice (some ⟨w.heap.size,0,none⟩) 1 1)) (.tmp s)=some v:=by
  rw[<-hs];simp only[bA,aC,oM n1];rfl
 have y:bA n (aC l db (.slice (some ⟨w.heap.size,0,none⟩) 1 1)) (.tmp db)=some (.slice (some ⟨w.heap.size,0,none⟩) 1 1):=by
  simp only[bA,aC,Nat.beq_refl,cond_true,show Nat.blt db n=true from Nat.ble_eq_true_of_le n4]
 have i:prog.underlying 159=some (.slice 3):=by kernel_rfl
 refine dh d.2.1 (.tmp s) (.tmp db) 159 d.1 afr i rfl (by decide) (by decide) B (jP x a.size) _ m cs (aE es) (dD k a) ⟨w.heap.size,0,none⟩ 1 1 [.int .i64 (j:Int)] (aE y) (by simp) (pR z) (λ u f=> ?_) (by decide) hm (λ v' w' ho c o=> ?_)
 ·rw[List.mem_singleton] at f;subst f;rfl
 rw[d.2.2,bX]
 refine h w' v' ho ⟨c.os.trans a.os,c.tape.trans a.tape,c.output.trans a.output,jP a.size c.size,λ b hb e=>(c.block b (jf hb a.size) e).trans (a.old b hb)⟩ (o.imp id λ h g q=>jP a.size (h g q))
end
section
variable{E:Nat->Bool}{W0 W:World}{g:Nat}{ta:Option Addr}{tc:Nat}{ts:List aS}{i:Nat}{ve vi:Value}{ex ix:List Nat}
theorem du.afs{W2:World}{v':Value}(h:du E W0 W g ta tc ts i ve vi ex ix)(_:Q4 E W0 g ta tc ts)(ho:W1.ownsRow 0 3 1 v' (ex.length+1) (nA ex++[.int .i64 (j:Int)]))(a:W.grownBy W1 ve.ownBlock)
 (hn:v'.ownBlock=ve.ownBlock∨∀b,v'.ownBlock=some b->W.heap.size<=b)(c:af W1 W2 g)(n:aD W2 g #[.slice ta ts.length tc,.int .i64 (i:Int),v',vi] 161)(hf:ex.length+ix.length+1<=i):du E W0 W2 g ta tc ts i v' vi (ex++[j]) ix:=by
 have l:KE E W0 W1 g:=⟨jP h.kb.size a.size,λ b hb m k=>(a.block b (jf hb h.kb.size) λ he=>by
  rcases(h.fe b he.symm).2 with h1|h1
  ·rw[k] at h1;cases h1
  ·omega).trans (h.kb.old b hb m k),a.tape.trans h.kb.tape,a.os.trans h.kb.os,a.output.trans h.kb.output⟩
 have f:∀o,v'.ownBlock=some o->o≠g/\(E o=true∨W0.heap.size<=o):=λ o h1=>by
  rcases hn with hn|hn
  ·exact h.fe o (hn▸h1)
  ·have h2:=hn o h1;have h3:=h.bw.lt;have p:=h.kb.size;exact⟨by omega,.inr (by omega)⟩
 refine⟨KE.cX l c,n,?_,?_,f,h.fi,λ o e d=> ?_,h.lt,by rw[gJ,List.length_singleton];omega⟩
 ·rw[gJ,Cm]
  exact bE ho c λ h1=>(f _ h1).1 rfl
 ·refine bE (World.ownsRow.kept h.oi a ?_) c λ h1=>(h.fi _ h1).1 rfl;cases hv:vi.ownBlock with
  |none=>exact .inl rfl
  |some o=>exact .inr λ he=>h.ne o he.symm hv
 ·rcases hn with hn|hn
  ·exact h.ne o (hn▸e) d
  ·have h1:=hn o e;have h2:=(World.ownsRow.lt h.oi o d).2;omega
theorem du.aft{W2:World}{v':Value}(h:du E W0 W g ta tc ts i ve vi ex ix)(_:Q4 E W0 g ta tc ts)(ho:W1.ownsRow 0 3 1 v' (ix.length+1) (nA ix++[.int .i64 (j:Int)]))(a:W.grownBy W1 vi.ownBlock)
 (hn:v'.ownBlock=vi.ownBlock∨∀b,v'.ownBlock=some b->W.heap.size<=b)(c:af W1 W2 g)(n:aD W2 g #[.slice ta ts.length tc,.int .i64 (i:Int),ve,v'] 161)(hf:ex.length+ix.length+1<=i):du E W0 W2 g ta tc ts i ve v' ex (ix++[j]):=by
 have l:KE E W0 W1 g:=⟨jP h.kb.size a.size,λ b hb m k=>(a.block b (jf hb h.kb.size) λ he=>by
  rcases(h.fi b he.symm).2 with h1|h1
  ·rw[k] at h1;cases h1
  ·omega).trans (h.kb.old b hb m k),a.tape.trans h.kb.tape,a.os.trans h.kb.os,a.output.trans h.kb.output⟩
 have f:∀o,v'.ownBlock=some o->o≠g/\(E o=true∨W0.heap.size<=o):=λ o h1=>by
  rcases hn with hn|hn
  ·exact h.fi o (hn▸h1)
  ·have h2:=hn o h1;have h3:=h.bw.lt;have p:=h.kb.size;exact⟨by omega,.inr (by omega)⟩
 refine⟨KE.cX l c,n,?_,?_,h.fe,f,λ o e d=> ?_,h.lt,by rw[gJ,List.length_singleton];omega⟩
 ·refine bE (World.ownsRow.kept h.oe a ?_) c λ h1=>(h.fe _ h1).1 rfl;cases hv:ve.ownBlock with
  |none=>exact .inl rfl
  |some o=>exact .inr λ he=>h.ne o hv he.symm
 ·rw[gJ,Cm]
  exact bE ho c λ h1=>(f _ h1).1 rfl
 ·rcases hn with hn|hn
  ·exact h.ne o e (hn▸d)
  ·have h1:=hn o d;have h2:=(World.ownsRow.lt h.oe o e).2;omega
theorem mn(c:FM E W0 g ta tc ts)(h:du E W0 W g ta tc ts i ve vi ex ix)(x:ByteArray):Calls prog 265 #[.pointer (some ⟨g,0,none⟩),.string x] W λ e W'=>
 if bF (ar ts i) x.data.toList=true then(∃v,e= .returned v)/\du E W0 W' g ta tc ts (i+1) ve vi ex ix/\af W W' g else e= .panicked (oZ (ar ts i).at')/\KE E W0 W' g:=by
 obtain⟨b,hb⟩:∃b,b=bF (ar ts i) x.data.toList:=⟨_,rfl⟩
 rw[<-hb]
 refine dK [_,_] 10 func265 rfl ntmps265 (by simp) ?_;refine gz ?_;refine zc 94 _ (cI c.toQ4 h x) ?_;rintro e k ⟨u,f,rfl,h1,d⟩
 obtain rfl:b=u:=hb.trans f.symm;refine⟨_,rfl,?_⟩
 cases b
 ·refine gz ?_;refine jX 176 _ (jW c.toQ4 h1) ?_;rintro e j ⟨rfl,a⟩
  refine .inr ⟨_,rfl,?_⟩
  exact⟨rfl,rfl,KE.aR h1.kb a⟩
 ·refine gz ?_;exact fR λ v=>⟨⟨v,rfl⟩,h1,d⟩
end
section
variable{E:Nat->Bool}{W0 W:World}{g:Nat}{ta:Option Addr}{tc:Nat}{ts:List aS}{i:Nat}{ve vi:Value}{ex ix:List Nat}
theorem sZ(c:Q4 E W0 g ta tc ts)(h:du E W0 W g ta tc ts i ve vi ex ix)(k:Nat):Calls prog 97 #[.pointer (some ⟨g,0,none⟩),.int .i64 (k:Int)] W λ e W'=>
 if ((ar ts i).kind==k)=true then e= .returned (.int .i64 (i:Int))/\af W W' g/\aD W' g #[.slice ta ts.length tc,.int .i64 ((i+1:Nat):Int),ve,vi] 161 else e= .panicked (oZ (ar ts i).at')/\KE E W0 W' g:=by
 obtain⟨b,n,hr⟩:=h.tok c;have hb:=h.bw;rw[n] at hb;have f:=c.len;have q:=h.lt;obtain⟨z,d⟩:∃z,z=((ar ts i).kind==k):=⟨_,rfl⟩
 rw[<-d]
 refine dK [_,_] 32 func97 rfl ntmps97 (by simp) ?_;refine gx ?_;refine eJ 0 0 λ hS=> ?_;refine yr 0 (.pointer (some ⟨g,0,none⟩)) hS ?_;refine yr 1 (.pointer (some ⟨g,0,none⟩)) hS ?_;refine yr 2 (.pointer (some ⟨g,0,none⟩)) hS ?_;refine Eh 3 (hb.cell 0 rfl) (.inr (eo _)) hS ?_;refine yr 4 (.pointer (some ⟨g,0,none⟩)) hS ?_;refine yr 5 (.pointer (some ⟨g,0,none⟩)) hS ?_;refine yr 6 (.pointer (some ⟨g,1,none⟩)) hS ?_;refine Eh 7 (hb.cell 1 rfl) (.inr (eo _)) hS ?_;refine yi 8 3 i h.lt hS ?_;refine yr 9 (.pointer (some ⟨b,0+i*3+0,none⟩)) hS ?_;refine Eh 10 (hr 0 _ rfl) (.inr (eo _)) hS ?_;refine yr 11 (.int .i64 (k:Int)) hS ?_;refine y2g 12 (.bool !z) hS ?_ (hrun:=λ w=>by
  rw[FN rfl,d]
  refine congrArg (λ b=>Result.ok (Value.bool b) w) ?_;show(((ar ts i).kind:Int) !=(k:Int))= !((ar ts i).kind==k)
  by_cases j:(ar ts i).kind=k
  ·rw[j];simp
  ·rw[vy j];exact bne_iff_ne.2 (by omega))
 refine gB ?_;have a:aa W W.drew:=(aa.refl W).drew;have h1:=h.kept a;cases z
 ·refine gx ?_;refine jX 176 _ (jW c h1) ?_;rintro e w3 ⟨rfl,l⟩
  refine .inr ⟨_,rfl,?_⟩
  exact⟨rfl,rfl,KE.aR h1.kb l⟩
 refine gx ?_;refine z2 (.int .i64 ((i+1:Nat):Int)) (hrun:=cu (by omega)) ?_;refine gx ?_;refine fV (i:=1) h1.bw (by simp) rfl λ p m o=> ?_;refine gx ?_;refine z2 (.int .i64 (i:Int)) (hrun:=OS (by omega)) ?_;refine gx ?_;exact aF (v:=.int .i64 (i:Int)) ⟨rfl,af.cX (af.aR (af.refl W g) a) m,o⟩
theorem xf(c:FM E W0 g ta tc ts)(h:du E W0 W g ta tc ts i ve vi ex ix):Calls prog 381 #[.pointer (some ⟨g,0,none⟩)] W λ e W'=>
 if dZ (ar ts i)=true then e= .returned (.int .i64 (i:Int))/\du E W0 W' g ta tc ts (i+1) ve vi ex ix/\af W W' g else e= .panicked (oZ (ar ts i).at')/\KE E W0 W' g:=by
 obtain⟨z,k⟩:∃z,z=dZ (ar ts i):=⟨_,rfl⟩
 rw[<-k]
 have hw:=c.whl i;rw[<-k] at hw;have a:z=true->(ar ts i).kind=0:=λ h=>by
  rw[k] at h;unfold dZ at h;simp only[fv,beq_iff_eq] at h;exact h.1
 clear k;obtain⟨b,x,hr⟩:=h.tok c.toQ4;obtain⟨t,l⟩:∃t,t=ar ts i:=⟨_,rfl⟩
 rw[<-l] at hr hw a;have hb:=h.bw;rw[x] at hb;refine ct 25 func381 rfl ntmps381 ?_;refine gz ?_;refine eJ 0 0 λ hS=> ?_;refine yr 0 (.pointer (some ⟨g,0,none⟩)) hS ?_;refine yr 1 (.pointer (some ⟨g,0,none⟩)) hS ?_;refine yr 2 (.pointer (some ⟨g,0,none⟩)) hS ?_;refine Eh 3 (hb.cell 0 rfl) (.inr (eo _)) hS ?_;refine yr 4 (.pointer (some ⟨g,0,none⟩)) hS ?_;refine yr 5 (.pointer (some ⟨g,0,none⟩)) hS ?_;refine yr 6 (.pointer (some ⟨g,1,none⟩)) hS ?_;refine Eh 7 (hb.cell 1 rfl) (.inr (eo _)) hS ?_;refine yi 8 3 i h.lt hS ?_;refine yl 9 (V:=iH t.kind t.text t.at') hr (.inr (eo _)) cA hS ?_;have s:aa W W.drew:=(aa.refl W).drew;refine ya 10 ZT 153 hS λ C g1 e1 w A q1 hS=> ?_;have n:W.heap.size<=g1:=by rw[e1];exact aU _
 refine yt 11 A lC cA (.inr n) hS λ m u p hS=>gB ?_;have q:aa W m:=(s.trans w).but u n;have h2:=h.kept q;refine gz ?_;refine kB (p.cell 0 rfl) ?_;by_cases d:t.kind=0;case neg=>
  cases z
  case true=>exact absurd (a rfl) d
  refine cr true ?_ ?_
  ·show((t.kind:Int) != 0)=true;exact bne_iff_ne.2 (by omega)
  refine gz ?_;refine jX 176 _ (jW c.toQ4 h2) ?_;rintro e w3 ⟨rfl,j⟩
  refine .inr ⟨_,rfl,?_⟩
  exact⟨rfl,rfl,KE.aR h2.kb j⟩
 obtain⟨hs,ha,hd⟩:=hw d;refine cr false ?_ ?_
 ·show((t.kind:Int) != 0)=false;rw[d];rfl
 refine gz ?_;refine kB (p.cell 1 rfl) ?_;refine eO ?_;refine zc 413 _ (Mp m t.text hs ha) ?_;rintro e w3 ⟨rfl,j⟩
 refine⟨_,rfl,?_⟩
 rw[hd]
 have h3:=h2.kept j;have B:=q.trans j;cases z
 ·refine gz ?_;refine jX 176 _ (jW c.toQ4 h3) ?_;rintro e r ⟨rfl,f⟩
  refine .inr ⟨_,rfl,?_⟩
  exact⟨rfl,rfl,KE.aR h3.kb f⟩
 refine gz ?_;refine jX 97 _ (sZ c.toQ4 h3 0) ?_;intro e r o;rw[if_pos (by rw[<-l,d];rfl)] at o;obtain⟨rfl,f,y⟩:=o;refine .inl ⟨_,rfl,?_⟩
 refine gz ?_;exact aF (v:=.int .i64 (i:Int)) ⟨rfl,h3.set c.toQ4 (c.last i h.lt (by rw[<-l,d];decide)) (Nat.le_succ i) f y,af.cX (af.aR (af.refl W g) B) f⟩
end
section
variable{E:Nat->Bool}{W0:World}{g:Nat}{ta:Option Addr}{tc:Nat}{ts:List aS}
def rO(E:Nat->Bool)(W0:World)(g:Nat)(ta:Option Addr)(tc:Nat)(ts:List aS)(f:FuncId)(p:Nat->Option (PR Unit)):Prop:=
 ∀i W ve vi ex ix r,du E W0 W g ta tc ts i ve vi ex ix->p i=some r->Calls prog f #[.pointer (some ⟨g,0,none⟩)] W (uj E W0 g ta tc ts ex ix r)
theorem uj.nil{W:World}{ve vi:Value}{ex ix:List Nat}(h:du E W0 W g ta tc ts i ve vi ex ix):uj E W0 g ta tc ts ex ix (.ok () i []) (.returned v) W:=
 ⟨⟨v,rfl⟩,ve,vi,by rw[show gi [] false=[] from rfl,show gi [] true=[] from rfl,List.append_nil,List.append_nil];exact h⟩
theorem Mr(num:ByteArray->gV)(c:FM E W0 g ta tc ts)(n:Nat)(ih:∀m,m<n->rO E W0 g ta tc ts 264 λ i=>er (ee num ts m i)):rO E W0 g ta tc ts 174 λ i=>er (eD num ts n i):=by
 intro i W ve vi ex ix r h hr;replace hr:er (eD num ts n i)=some r:=hr;cases n with
 |zero=>rw[eD] at hr;cases hr
 |succ n=>
 rw[eD] at hr;refine ct 11 func174 rfl ntmps174 ?_;refine gz ?_;rcases o8 hr with⟨j,ha,rfl⟩|⟨t,j,u,r',-,ha,hf,rfl⟩
 ·refine jX 264 _ (ih n (Nat.lt_succ_self n) i W ve vi ex ix _ h ha) ?_;rintro e D ⟨rfl,J⟩
  exact .inr ⟨_,rfl,rfl,rfl,J⟩
 refine jX 264 _ (ih n (Nat.lt_succ_self n) i W ve vi ex ix _ h ha) ?_;rintro e D ⟨⟨v,rfl⟩,y,w,h1⟩
 refine .inl ⟨_,rfl,?_⟩
 refine gz ?_;refine dQ (σ:=aj×Nat×Value×Value×List Nat×List Nat×PR Unit) n (λ _ _=>[(0,.pointer (some ⟨g,0,none⟩))])
  (λ k σ W'=>du E W0 W' g ta tc ts σ.2.1 σ.2.2.1 σ.2.2.2.1 σ.2.2.2.2.1 σ.2.2.2.2.2.1/\er (kh num ts (n-k) σ.1 σ.2.1)=some σ.2.2.2.2.2.2/\∀e W',uj E W0 g ta tc ts σ.2.2.2.2.1 σ.2.2.2.2.2.1 σ.2.2.2.2.2.2 e W'->uj E W0 g ta tc ts ex ix (Mq u r') e W')
  (t,j,y,w,ex++gi u false,ix++gi u true,r') ⟨rfl,trivial⟩ ⟨h1,hf,λ e W' h=>h.add⟩ λ N wr k ⟨t,j,q,p,o,l,r2⟩ M ⟨h2,a,hp⟩=> ?_
 clear hf h1 ha hr;replace h2:du E W0 wr g ta tc ts j q p o l:=h2;replace a:er (kh num ts (n-k) t j)=some r2:=a;replace hp:∀e W',uj E W0 g ta tc ts o l r2 e W'->uj E W0 g ta tc ts ex ix (Mq u r') e W':=hp;obtain⟨m,hm⟩:∃m,m=n-k:=⟨_,rfl⟩
 rw[<-hm] at a;cases m with
 |zero=>rw[kh] at a;cases a
 |succ m=>
 rw[kh] at a;refine gz ?_;refine zc 94 _ (cI c.toQ4 h2 ⟨#[43]⟩) ?_;rintro e w3 ⟨b,hb,rfl,h3,L⟩
 refine⟨_,rfl,?_⟩
 replace hb:b=bF (ar ts j) [43]:=hb;rw[<-hb] at a;cases b
 case true=>
  replace h3:du E W0 w3 g ta tc ts (j+1) q p o l:=h3;rw[if_pos rfl] at a;refine gz ?_;rcases o8 a with⟨j',ha,rfl⟩|⟨t',j',H,z,-,ha,hf,rfl⟩
  ·refine jX 264 _ (ih m (by omega) _ w3 _ _ _ _ _ h3 ha) ?_;rintro e f ⟨rfl,B⟩
   exact .inr ⟨_,rfl,rfl,hp _ _ ⟨rfl,B⟩⟩
  refine jX 264 _ (ih m (by omega) _ w3 _ _ _ _ _ h3 ha) ?_;rintro e f ⟨⟨v,rfl⟩,G,F,d⟩
  refine .inl ⟨_,rfl,?_⟩
  refine gz ?_;exact⟨_,(_,j',G,F,_,_,z),rfl,by omega,⟨rfl,trivial⟩,d,by rw[show n-(k+1)=m by omega];exact hf,λ e W' h=>hp e W' h.add⟩
 replace h3:du E W0 w3 g ta tc ts j q p o l:=h3;rw[if_neg iZ] at a;refine gz ?_;refine zc 94 _ (cI c.toQ4 h3 ⟨#[45]⟩) ?_;rintro e f ⟨b,A,rfl,d,B⟩
 refine⟨_,rfl,?_⟩
 replace A:b=bF (ar ts j) [45]:=A;rw[<-A] at a;cases b
 case true=>
  replace d:du E W0 f g ta tc ts (j+1) q p o l:=d;rw[if_pos rfl] at a;refine gz ?_;rcases o8 a with⟨j',ha,rfl⟩|⟨t',j',H,z,-,ha,hf,rfl⟩
  ·refine jX 264 _ (ih m (by omega) _ f _ _ _ _ _ d ha) ?_;rintro e C ⟨rfl,I⟩
   exact .inr ⟨_,rfl,rfl,hp _ _ ⟨rfl,I⟩⟩
  refine jX 264 _ (ih m (by omega) _ f _ _ _ _ _ d ha) ?_;rintro e C ⟨⟨v,rfl⟩,x,s,K⟩
  refine .inl ⟨_,rfl,?_⟩
  refine gz ?_;exact⟨_,(_,j',x,s,_,_,z),rfl,by omega,⟨rfl,trivial⟩,K,by rw[show n-(k+1)=m by omega];exact hf,λ e W' h=>hp e W' h.add⟩
 replace d:du E W0 f g ta tc ts j q p o l:=d;rw[if_neg iZ] at a;obtain rfl:PR.ok () j []=r2:=iG a;refine gz ?_;exact fR λ v=>hp _ _ (uj.nil d)
theorem Ms(num:ByteArray->gV)(c:FM E W0 g ta tc ts)(n:Nat)(ih:∀m,m<n->rO E W0 g ta tc ts 330 λ i=>er (gm num ts m i)):rO E W0 g ta tc ts 264 λ i=>er (ee num ts n i):=by
 intro i W ve vi ex ix r h hr;replace hr:er (ee num ts n i)=some r:=hr;cases n with
 |zero=>rw[ee] at hr;cases hr
 |succ n=>
 rw[ee] at hr;refine ct 11 func264 rfl ntmps264 ?_;refine gz ?_;rcases o8 hr with⟨j,ha,rfl⟩|⟨t,j,u,r',-,ha,hf,rfl⟩
 ·refine jX 330 _ (ih n (Nat.lt_succ_self n) i W ve vi ex ix _ h ha) ?_;rintro e D ⟨rfl,J⟩
  exact .inr ⟨_,rfl,rfl,rfl,J⟩
 refine jX 330 _ (ih n (Nat.lt_succ_self n) i W ve vi ex ix _ h ha) ?_;rintro e D ⟨⟨v,rfl⟩,y,w,h1⟩
 refine .inl ⟨_,rfl,?_⟩
 refine gz ?_;refine dQ (σ:=aj×Nat×Value×Value×List Nat×List Nat×PR Unit) n (λ _ _=>[(0,.pointer (some ⟨g,0,none⟩))])
  (λ k σ W'=>du E W0 W' g ta tc ts σ.2.1 σ.2.2.1 σ.2.2.2.1 σ.2.2.2.2.1 σ.2.2.2.2.2.1/\er (eY num ts (n-k) σ.1 σ.2.1)=some σ.2.2.2.2.2.2/\∀e W',uj E W0 g ta tc ts σ.2.2.2.2.1 σ.2.2.2.2.2.1 σ.2.2.2.2.2.2 e W'->uj E W0 g ta tc ts ex ix (Mq u r') e W')
  (t,j,y,w,ex++gi u false,ix++gi u true,r') ⟨rfl,trivial⟩ ⟨h1,hf,λ e W' h=>h.add⟩ λ N wr k ⟨t,j,q,p,o,l,r2⟩ M ⟨h2,a,hp⟩=> ?_
 clear hf h1 ha hr;replace h2:du E W0 wr g ta tc ts j q p o l:=h2;replace a:er (eY num ts (n-k) t j)=some r2:=a;replace hp:∀e W',uj E W0 g ta tc ts o l r2 e W'->uj E W0 g ta tc ts ex ix (Mq u r') e W':=hp;obtain⟨m,hm⟩:∃m,m=n-k:=⟨_,rfl⟩
 rw[<-hm] at a;cases m with
 |zero=>rw[eY] at a;cases a
 |succ m=>
 rw[eY] at a;refine gz ?_;refine zc 94 _ (cI c.toQ4 h2 ⟨#[42]⟩) ?_;rintro e w3 ⟨b,hb,rfl,h3,L⟩
 refine⟨_,rfl,?_⟩
 replace hb:b=bF (ar ts j) [42]:=hb;rw[<-hb] at a;cases b
 case true=>
  replace h3:du E W0 w3 g ta tc ts (j+1) q p o l:=h3;rw[if_pos rfl] at a;refine gz ?_;rcases o8 a with⟨j',ha,rfl⟩|⟨t',j',H,z,-,ha,hf,rfl⟩
  ·refine jX 330 _ (ih m (by omega) _ w3 _ _ _ _ _ h3 ha) ?_;rintro e f ⟨rfl,B⟩
   exact .inr ⟨_,rfl,rfl,hp _ _ ⟨rfl,B⟩⟩
  refine jX 330 _ (ih m (by omega) _ w3 _ _ _ _ _ h3 ha) ?_;rintro e f ⟨⟨v,rfl⟩,G,F,d⟩
  refine .inl ⟨_,rfl,?_⟩
  refine gz ?_;exact⟨_,(_,j',G,F,_,_,z),rfl,by omega,⟨rfl,trivial⟩,d,by rw[show n-(k+1)=m by omega];exact hf,λ e W' h=>hp e W' h.add⟩
 replace h3:du E W0 w3 g ta tc ts j q p o l:=h3;rw[if_neg iZ] at a;refine gz ?_;refine zc 94 _ (cI c.toQ4 h3 ⟨#[47]⟩) ?_;rintro e f ⟨b,A,rfl,d,B⟩
 refine⟨_,rfl,?_⟩
 replace A:b=bF (ar ts j) [47]:=A;rw[<-A] at a;cases b
 case true=>
  replace d:du E W0 f g ta tc ts (j+1) q p o l:=d;rw[if_pos rfl] at a;refine gz ?_;rcases o8 a with⟨j',ha,rfl⟩|⟨t',j',H,z,-,ha,hf,rfl⟩
  ·refine jX 330 _ (ih m (by omega) _ f _ _ _ _ _ d ha) ?_;rintro e C ⟨rfl,I⟩
   exact .inr ⟨_,rfl,rfl,hp _ _ ⟨rfl,I⟩⟩
  refine jX 330 _ (ih m (by omega) _ f _ _ _ _ _ d ha) ?_;rintro e C ⟨⟨v,rfl⟩,x,s,K⟩
  refine .inl ⟨_,rfl,?_⟩
  refine gz ?_;exact⟨_,(_,j',x,s,_,_,z),rfl,by omega,⟨rfl,trivial⟩,K,by rw[show n-(k+1)=m by omega];exact hf,λ e W' h=>hp e W' h.add⟩
 replace d:du E W0 f g ta tc ts j q p o l:=d;rw[if_neg iZ] at a;obtain rfl:PR.ok () j []=r2:=iG a;refine gz ?_;exact fR λ v=>hp _ _ (uj.nil d)
end
section
variable{E:Nat->Bool}{W0 W:World}{g:Nat}{ta:Option Addr}{tc:Nat}{ts:List aS}{i:Nat}{ve vi:Value}{ex ix:List Nat}
theorem OT{w:World}{B e sz n:Nat}{cs:List Value}(h:w.ownsRow B e sz v n cs):v.oneCell'=true:=by
 obtain⟨a,cap,rfl,-⟩:=bI h;rfl
theorem du.grown(h:du E W0 W g ta tc ts i ve vi ex ix)(hf:∀o,v.ownBlock=some o->o≠g/\(E o=true∨W0.heap.size<=o))(a:W.grownBy W1 v.ownBlock):aD W1 g #[.slice ta ts.length tc,.int .i64 (i:Int),ve,vi] 161:=
 (a.block g h.bw.lt λ he=>(hf g he.symm).1 rfl).trans h.bw
theorem uj.exp{W':World}(h:du E W0 W' g ta tc ts j ve vi (ex++[p]) ix):uj E W0 g ta tc ts ex ix (.ok () j [(p,false)]) (.returned v) W':=
 ⟨⟨v,rfl⟩,ve,vi,by rw[show gi [(p,false)] false=[p] from rfl,show gi [(p,false)] true=[] from rfl,List.append_nil];exact h⟩
theorem lens(c:Q4 E W0 g ta tc ts)(h:du E W0 W g ta tc ts i ve vi ex ix):i<5000:=by
 have:=c.len;have:=h.lt;omega
theorem Q8(num:ByteArray->gV)(c:FM E W0 g ta tc ts)(n:Nat)(ih:∀m,m<n->rO E W0 g ta tc ts 380 λ i=>er (dy num ts m i)):rO E W0 g ta tc ts 330 λ i=>er (gm num ts n i):=by
 intro i W ve vi ex ix r h hr;replace hr:er (gm num ts n i)=some r:=hr;refine ct 22 func330 rfl ntmps330 ?_;refine gz ?_;refine dQ (σ:=Nat) n (λ _ _=>[(0,.pointer (some ⟨g,0,none⟩))])
  (λ k σ W'=>du E W0 W' g ta tc ts σ ve vi ex ix/\er (gm num ts (n-k) σ)=some r) i ⟨rfl,trivial⟩ ⟨h,hr⟩ λ S wr k j R ⟨h2,d⟩=> ?_
 clear hr h;obtain⟨m,hm⟩:∃m,m=n-k:=⟨_,rfl⟩
 rw[<-hm] at d;cases m with
 |zero=>rw[gm] at d;cases d
 |succ m=>
 rw[gm] at d;refine gz ?_;refine zc 94 _ (cI c.toQ4 h2 ⟨#[45]⟩) ?_;rintro e w3 ⟨b,hb,rfl,h3,Q⟩
 refine⟨_,rfl,?_⟩
 replace hb:b=bF (ar ts j) [45]:=hb;rw[<-hb] at d;cases b
 case true=>
  replace h3:du E W0 w3 g ta tc ts (j+1) ve vi ex ix:=h3;rw[if_pos rfl,sY] at d;refine gz ?_;exact⟨_,j+1,rfl,by omega,⟨rfl,trivial⟩,h3,by rw[show n-(k+1)=m by omega];exact d⟩
 replace h3:du E W0 w3 g ta tc ts j ve vi ex ix:=h3;rw[if_neg iZ] at d;refine gz ?_;rcases o8 d with⟨j',ha,rfl⟩|⟨t',j',o,s,-,ha,hf,rfl⟩
 ·refine jX 380 _ (ih m (by omega) _ w3 _ _ _ _ _ h3 ha) ?_;rintro e D ⟨rfl,G⟩
  exact .inr ⟨_,rfl,rfl,rfl,G⟩
 refine jX 380 _ (ih m (by omega) _ w3 _ _ _ _ _ h3 ha) ?_;rintro e D ⟨⟨v,rfl⟩,w,u,I⟩
 refine .inl ⟨_,rfl,?_⟩
 refine gz ?_;refine zc 94 _ (cI c.toQ4 I ⟨#[94]⟩) ?_;rintro e y ⟨b,l,rfl,q,P⟩
 refine⟨_,rfl,?_⟩
 replace l:b=bF (ar ts j') [94]:=l;rw[<-l] at hf;cases b
 case false=>
  replace q:du E W0 y g ta tc ts j' w u (ex++gi o false) (ix++gi o true):=q;rw[if_neg iZ] at hf;obtain rfl:PR.ok () j' []=s:=iG hf;refine gz ?_;exact fR λ v=>(uj.nil q).add
 replace q:du E W0 y g ta tc ts (j'+1) w u (ex++gi o false) (ix++gi o true):=q;rw[if_pos rfl] at hf;refine gz ?_;refine zc 94 _ (cI c.toQ4 q ⟨#[45]⟩) ?_;rintro e C ⟨b,f,rfl,x,O⟩
 refine⟨_,rfl,?_⟩
 replace f:b=bF (ar ts (j'+1)) [45]:=f;rw[<-f] at hf;obtain⟨p,t,hf⟩:∃p,du E W0 C g ta tc ts p w u (ex++gi o false) (ix++gi o true)/\er (rP ts false p)=some s:=by
  cases b
  ·rw[if_neg iZ,sY] at hf;exact⟨_,x,hf⟩
  ·rw[if_pos rfl,sY] at hf;exact⟨_,x,hf⟩
 clear x f;refine gz ?_;refine jX 381 _ (xf c t) ?_;intro e L a;unfold rP at hf;by_cases hw:dZ (ar ts p)=true;case neg=>
  rw[if_neg hw] at hf a;obtain⟨rfl,A⟩:=a;obtain rfl:PR.bad p=s:=iG hf;exact .inr ⟨_,rfl,rfl,rfl,A⟩
 rw[if_pos hw] at hf a;obtain⟨rfl,a,A⟩:=a;obtain rfl:PR.ok () (p+1) [(p,false)]=s:=iG hf;refine .inl ⟨_,rfl,?_⟩
 refine gz ?_;refine kB (a.bw.cell 2 rfl) ?_;refine gz ?_;refine ZL (j:=p) a.oe (eo _) ?_ λ K N z B F=> ?_
 ·have:=t.TO;have:=lens c.toQ4 t;omega
 refine gz ?_;refine fV (i:=2) (a.grown a.fe B) (by simp) (OT z) λ M H J=> ?_;refine gz ?_;exact fR λ v=>(uj.exp (a.afs c.toQ4 z B F H J (Nat.succ_le_succ t.TO))).add
end
theorem kO{α β γ:Type}{a:Option (PR α)}{f:α->Nat->Option (PR β)}{h:α->Nat->Option (PR γ)}(e:∀x i,er (f x i)=er (h x i)):er (cf a f)=er (cf a h):=by
 cases a with
 |none=>rfl
 |some a=>
  cases a with
  |bad i=>rfl
  |ok x i u=>
   have e:=e x i;simp only[cf]
   cases h1:f x i with
   |none=>
    cases h2:h x i with
    |none=>rfl
    |some y=>rw[h1,h2] at e;cases e
   |some y=>
    cases h2:h x i with
    |none=>rw[h1,h2] at e;cases e
    |some z=>
     rw[h1,h2] at e;have e:=iG e;cases y<;>cases z<;>simp_all [PR.map,er]
theorem Ja{α β γ:Type}{a:Option (PR α)}{f:α->Nat->Option (PR β)}{h:β->Nat->Option (PR γ)}:er (cf (cf a f) h)=er (cf a λ x i=>cf (f x i) h):=by
 cases a with
 |none=>rfl
 |some a=>
  cases a with
  |bad i=>rfl
  |ok x i u=>
   simp only[cf]
   cases h1:f x i with
   |none=>rfl
   |some y=>
    cases y with
    |bad j=>rfl
    |ok y j v=>
     simp only;cases h2:h y j with
     |none=>rfl
     |some z=>cases z<;>simp[er,PR.map]
theorem Cn{α β:Type}{x:α}{f:α->Nat->Option (PR β)}:er (cf (some (.ok x i [])) f)=er (f x i):=by
 simp only[cf]
 cases f x i with
 |none=>rfl
 |some y=>cases y<;>rfl
theorem XC{α β γ:Type}{a:Option (PR α)}{h:α->β}{f:β->Nat->Option (PR γ)}:cf (a.map (PR.map h)) f=cf a λ x i=>f (h x) i:=by
 cases a with
 |none=>rfl
 |some a=>cases a<;>rfl
theorem Eo{α:Type}(a:Option (PR α)):er (er a)=er a:=sY _ a
def jY(num:ByteArray->gV)(ts:List aS):Nat->Nat->Nat->Option (PR Unit)
 |0,_,_=>none
 |_+1,0,j=>er (cG ts [41] j)
 |n+1,k+1,j=>er (cf (cG ts [44] j) λ _ j=>cf (eD num ts n j) λ _ j=>jY num ts n k j)
theorem qh(num:ByteArray->gV)(ts:List aS)(n k j:Nat):er (jY num ts n k j)=jY num ts n k j:=by
 cases n with
 |zero=>rw[jY];rfl
 |succ n=>cases k<;>rw[jY,Eo]
theorem Q9{β:Type}(num:ByteArray->gV)(ts:List aS):∀(n k j:Nat)(f:List aj->Unit->β),er (cf (dM num ts n k j) λ l j=>(cG ts [41] j).map (PR.map (f l)))=jY num ts n k j:=by
 intro n;induction n with
 |zero=>intro k j f;rw[dM,jY];rfl
 |succ n ih=>
  intro k j f;cases k with
  |zero=>rw[dM,jY,Cn,sY]
  |succ k=>
   rw[dM,jY,Ja]
   refine kO λ _ i=> ?_;rw[Ja]
   refine kO λ t i=> ?_;rw[XC,ih,qh]
def uU(num:ByteArray->gV)(ts:List aS)(b:Bool)(m m' k p:Nat):Option (PR Unit):=
 if b=true then er (cf (rP ts true p) λ _ j=>cf (cG ts [44] j) λ _ j=>cf (eD num ts m j) λ _ j=>jY num ts m' k j)
 else er (cf (eD num ts m p) λ _ j=>jY num ts m' k j)
theorem Ra(num:ByteArray->gV)(ts:List aS)(n k i:Nat):er (gK num ts (n+1) k i)=er (cf (cG ts [40] i) λ _ j=>uU num ts false n n (k-1) j):=by
 rw[gK]
 refine kO λ _ j=> ?_;unfold uU;rw[if_neg iZ,Eo]
 refine kO λ t j=> ?_;rw[Q9 num ts n (k-1) j λ l _=>t::l,qh]
def xg:List UInt8:=[114,111,111,116]
theorem Mt(num:ByteArray->gV)(ts:List aS){n:Nat}(hr:er (dy num ts (n+1) i)=some r)(b:bM num (ar ts i)=none):
 (bF (ar ts i) [40]=true->er (cf (cG ts [40] i) λ _ j=>uU num ts false n 1 0 j)=some r)/\
 (bF (ar ts i) [40]=false->∀k op arg,cm (ar ts i)=some (k,op,arg)->∃m,m<n/\er (cf (cG ts [40] (i+1)) λ _ j=>uU num ts false m m (k-1) j)=some r)/\
 (bF (ar ts i) [40]=false->cm (ar ts i)=none->bF (ar ts i) xg=true->er (cf (cG ts [40] (i+1)) λ _ j=>uU num ts true n 1 0 j)=some r)/\
 (bF (ar ts i) [40]=false->cm (ar ts i)=none->bF (ar ts i) xg=false->r= .bad i):=by
 rw[dy,b] at hr;simp only at hr;have h1:∀j,er (cG ts [41] j)=jY num ts 1 0 j:=λ j=>by rw[jY]
 refine⟨λ h=> ?_,λ h k op arg a=> ?_,λ h a hR=> ?_,λ h a hR=> ?_⟩
 ·rw[if_pos h] at hr;rw[<-hr]
  unfold cG;rw[if_pos h,Cn]
  unfold uU;rw[if_neg iZ,Eo]
  refine kO λ t j=> ?_;have:=h1 j;unfold cG at this;rw[qh,sY,this]
 ·rw[if_neg (by rw[h];exact iZ),a] at hr;simp only at hr;rw[sY] at hr;cases n with
  |zero=>rw[gK] at hr;cases hr
  |succ n=>exact⟨n,Nat.lt_succ_self n,by rw[<-Ra];exact hr⟩
 ·rw[if_neg (by rw[h];exact iZ),a] at hr;simp only at hr;rw[if_pos (show bF (ar ts i) [114,111,111,116]=true from hR)] at hr;rw[<-hr]
  refine kO λ _ j=> ?_;unfold uU;rw[if_pos rfl,Eo]
  refine kO λ _ j=>kO λ _ j=>kO λ _ j=> ?_;rw[qh,sY,h1]
 ·rw[if_neg (by rw[h];exact iZ),a] at hr;simp only at hr;rw[if_neg (by rw[show([114,111,111,116]:List UInt8)=xg from rfl,hR];exact iZ)] at hr;exact(iG hr).symm
end
end Go.Proofs.YtbapfnpbamnmpaaGreatDoor
