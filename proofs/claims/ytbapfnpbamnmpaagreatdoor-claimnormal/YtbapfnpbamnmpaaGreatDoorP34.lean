/- A part of the proof that the text which Print makes of a parsed text is a normal form -/
import Derived.Test.YtbapfnpbamnmpaaGreatDoorP00
import Derived.Test.YtbapfnpbamnmpaaGreatDoorP33
import Derived.Test.YtbapfnpbamnmpaaGreatDoorP30
import Derived.Test.YtbapfnpbamnmpaaGreatDoorP21
set_option maxHeartbeats 8000000
set_option maxRecDepth 100000
namespace Go.Proofs.YtbapfnpbamnmpaaGreatDoor
open Go Go.RowKit Go.Dig Go.Deep Go.Eng Go.Proofs.Tryz
variable{t:aj}{s:ByteArray}{g7 g8 i k n:Nat}{fn:Func}{v:Value}{W w:World}{R:Ending->World->Prop}{a:Int}
theorem aiz{t:ByteArray}(h:t.size=1):∃x,t.toList=[x]/\bt t 0=x.toNat:=by
 have a:t.data.toList.length=1:=by simpa using h
 obtain⟨x,hx⟩:=List.length_eq_one_iff.1 a;exact⟨x,by rw[ByteArray.toList_eq,hx],(js.1 (by rw[hx];rfl)).2⟩
theorem aiA{t:ByteArray}(h:t.size=2):∃x y,t.toList=[x,y]/\bt t 0=x.toNat/\bt t 1=y.toNat:=by
 have a:t.data.toList.length=2:=by simpa using h
 obtain⟨x,y,hx⟩:∃x y,t.data.toList=[x,y]:=by
  match t.data.toList,a with
  |[x,y],_=>exact⟨x,y,rfl⟩
 exact⟨x,y,by rw[ByteArray.toList_eq,hx],(js.1 (by rw[hx];rfl)).2,(js.1 (by rw[hx];rfl)).2⟩
theorem N3{x:UInt8}{c:Nat}(h:c=x.toNat)(hc:c<256):x=UInt8.ofNat c:=by
 apply UInt8.toNat_inj.1;rw[<-h,UInt8.toNat_ofNat_of_lt' (by exact hc)]
section
variable{s:ByteArray}{a b i j k e:Nat}{p:Nat->Bool}
theorem qF(hb:b<=s.size)(c:a<=j)(d:j<b):bt (s.extract a b) (j-a)=bt s j:=by
 rw[fD hb (by omega),Nat.add_sub_cancel' c]
theorem sq(hb:b<=s.size)(e:a<=i)(h:gW p s i<=b):gW p (s.extract a b) (i-a)=gW p s i-a:=by
 have d:i<=gW p s i:=dU ..;have c:=bO s a b hb;refine tS (by omega) (by omega) (λ k h1 h2=> ?_) λ h1=> ?_
 ·rw[fD hb (by omega)]
  exact qG (i:=i) (a+k) (by omega) (by omega)
 ·rw[c] at h1;rw[qF hb (by omega) (by omega)]
  exact HU (by omega)
theorem WA(hb:b<=s.size)(e:a<=i)(h:dV s i<=b):dV (s.extract a b) (i-a)=dV s i-a:=by
 have g:i<=aw s i:=dU ..;have c:=bO s a b hb;have d:aw s i<=dV s i:=by
  unfold dV;have h2:aw s i+1<=aw s (aw s i+1):=dU ..;split<;>omega
 have e1:aw (s.extract a b) (i-a)=aw s i-a:=sq hb e (jP d h)
 unfold dV at h⊢;rw[e1,c]
 split at h
 ·rename_i hc;obtain⟨c1,c2,c3⟩:=hc;have h2:aw s i+1+1<=aw s (aw s i+1):=by
   have:aw s (aw s i+1)=aw s (aw s i+1+1):=dN c1 c3;rw[this]
   exact dU ..
  have f:aw (s.extract a b) (aw s i+1-a)=aw s (aw s i+1)-a:=sq hb (by omega) h;rw[show aw s i-a+1=aw s i+1-a by omega,qF hb (by omega) (by omega),qF hb (by omega) (by omega),if_pos ⟨by omega,c2,c3⟩,if_pos ⟨c1,c2,c3⟩,f]
 ·rename_i hc;rw[if_neg hc]
  by_cases j:aw s i+1<b
  ·rw[show aw s i-a+1=aw s i+1-a by omega,qF hb (by omega) (by omega),qF hb (by omega) (by omega),if_neg]
   rintro⟨c1,c2,c3⟩
   exact hc ⟨by omega,c2,c3⟩
  ·rw[if_neg]
   rintro⟨c1,-,-⟩
   omega
theorem N5(c:a<=i)(he:e<=b)(d:i<=e):(s.extract a b).extract (i-a) (e-a)=s.extract i e:=by
 rw[ByteArray.extract_extract]
 congr 1
 ·omega
 ·rw[Nat.min_eq_left (by omega)];omega
theorem WB(hb:b<=s.size)(g:a<=i)(hi:i<b)(he:e<=b)(h:gX true s i=some (k,e))(hx:Si ⟨k,s.extract i e,i⟩):gX false (s.extract a b) (i-a)=some (k,e-a):=by
 have v:=(jg (by omega) h).1;unfold gX at h⊢;rw[qF hb g hi]
 split at h
 ·rename_i hd;rw[if_pos hd]
  injection h with h
  injection h with h1 h2
  subst h1;rw[WA hb g (by omega),h2]
 rename_i hd;rw[if_neg hd]
 split at h
 ·rename_i j;rw[if_pos j]
  obtain⟨k',o,l⟩:=Option.map_eq_some_iff.1 h;injection l with h1 h2
  subst h1;have e1:dO (s.extract a b) (i-a)=dO s i-a:=sq hb g (by unfold dO at h2;omega)
  rw[e1,h2,N5 g he (by omega)]
  rw[h2] at o;rw[o]
  rfl
 rename_i j;rw[if_neg j,if_neg λ h=>iZ h.1]
 split at h
 ·rename_i hc;exfalso;injection h with h
  injection h with h1 h2
  subst h1;subst h2;obtain⟨x,y,e1,d,n⟩:=aiA (t:=s.extract i (i+2)) (by rw[bO s i (i+2) (by omega)];omega)
  rw[fD (by omega) (by omega)] at d n;rw[Nat.add_zero] at d;have h3:=hx.2 rfl;simp only at h3;rw[e1] at h3;obtain⟨-,f,-,m⟩:=hc;rw[m] at n;have p:=N3 n (by decide)
  rcases f with f|f
  ·rw[f] at d;have ex:=N3 d (by decide)
   subst ex p;exact h3 (by decide)
  ·rw[f] at d;have ex:=N3 d (by decide)
   subst ex p;exact h3 (by decide)
 ·split at h
  ·rename_i hs;injection h with h
   injection h with h1 h2
   subst h1;subst h2;obtain⟨x,e1,d⟩:=aiz (t:=s.extract i (i+1)) (by rw[bO s i (i+1) (by omega)];omega)
   rw[fD (by omega) (by omega),Nat.add_zero] at d;have h3:=hx.2 rfl;simp only at h3;rw[e1] at h3;have key:∀c,bt s i=c->c<256->[UInt8.ofNat c]∈Fa->False:=λ c u hc r=>by
    rw[u] at d;have ex:=N3 d hc;subst ex;exact h3 r
   have q:wG false (bt s i)=true:=by
    unfold wG at hs⊢;simp only[Bool.true_and,Bool.false_and,Bool.or_eq_true,beq_iff_eq,Bool.or_false] at hs⊢;rcases hs with hs|((hs|hs)|hs)|hs
    ·exact hs
    ·exact(key 60 hs (by decide) (by decide)).elim
    ·exact(key 62 hs (by decide) (by decide)).elim
    ·exact(key 91 hs (by decide) (by decide)).elim
    ·exact(key 93 hs (by decide) (by decide)).elim
   rw[if_pos q]
   congr 2;omega
  ·cases h
end
structure ScF(s:ByteArray)(i:Nat)(t:aS):Prop where
 lo:i<=t.at'
 pos:0<t.text.size
 hi:t.at'+t.text.size<=s.size
 WD:t.kind<=3
 num:t.kind=0->s.size<=4000->vv t.text
 fn:t.kind=2->cg aW t.text=true
theorem WE(hi:i<s.size)(hd:aQ (bt s i)=true)(hs:s.size<=4000):vv (s.extract i (dV s i)):=by
 have b:dV s i<=s.size:=wH (Nat.le_of_lt hi)
 have f:i+1<=aw s i:=by
  have:aw s i=aw s (i+1):=dN hi hd;rw[this]
  exact dU ..
 have c:=bO s i (dV s i) b;have d:aw s i<=dV s i:=by
  unfold dV;have h2:aw s i+1<=aw s (aw s i+1):=dU ..;split<;>omega
 have e1:aw (s.extract i (dV s i)) 0=aw s i-i:=by
  have:=sq (p:=aQ) (a:=i) b (aU i) d
  rwa [Nat.sub_self] at this
 refine⟨by omega,by omega,?_⟩
 by_cases hc:aw s i+1<s.size/\(bt s (aw s i)=46∨bt s (aw s i)=47)/\aQ (bt s (aw s i+1))=true
 ·have en:dV s i=aw s (aw s i+1):=by unfold dV;rw[if_pos hc]
  obtain⟨c1,c2,c3⟩:=hc;have h2:aw s i+1+1<=aw s (aw s i+1):=by
   have:aw s (aw s i+1)=aw s (aw s i+1+1):=dN c1 c3;rw[this]
   exact dU ..
  have e:aw (s.extract i (dV s i)) (aw s i+1-i)=aw s (aw s i+1)-i:=sq (p:=aQ) (a:=i) b (by omega) (by rw[en];exact aU _)
  refine .inr ⟨?_,by omega,?_⟩
  ·rw[e1,qF b (by omega) (by omega)]
   exact c2
  ·rw[e1,show aw s i-i+1=aw s i+1-i by omega,e,c,en]
 ·have en:dV s i=aw s i:=by unfold dV;rw[if_neg hc]
  exact .inl (by rw[e1,c,en])
theorem SH{t:ByteArray}(h:fX t=some k):k<=3/\k≠0/\(k=2->cg aW t=true):=by
 unfold fX at h;split at h
 ·rename_i h1;cases h;exact⟨by decide,by decide,λ _=>h1⟩
 ·split at h
  ·cases h;exact⟨by decide,by decide,λ h=>by cases h⟩
  ·split at h
   ·cases h;exact⟨by decide,by decide,λ h=>by cases h⟩
   ·cases h
theorem aeg{d:Bool}{e:Nat}(hi:i<s.size)(h:gX d s i=some (k,e)):ScF s i ⟨k,s.extract i e,i⟩:=by
 obtain⟨h1,h2⟩:=jg hi h;have f:=bO s i e h2;unfold gX at h;split at h
 ·rename_i hd;injection h with h
  injection h with h3 a
  subst h3;subst a;exact⟨aU _,by show 0<(s.extract i _).size;omega,by show i+(s.extract i _).size<=_;omega,eo _,λ _ h=>WE hi hd h,λ h=>absurd (show(0:Nat)=2 from h) (by decide)⟩
 split at h
 ·obtain⟨k',c,b⟩:=Option.map_eq_some_iff.1 h;injection b with h3 a
  subst h3;subst a;obtain⟨g1,g2,g3⟩:=SH c;exact⟨aU _,by show 0<(s.extract i _).size;omega,by show i+(s.extract i _).size<=_;omega,g1,λ h=>absurd h g2,g3⟩
 split at h
 ·injection h with h
  injection h with h3 a
  subst h3;subst a;exact⟨aU _,by show 0<(s.extract i _).size;omega,by show i+(s.extract i _).size<=_;omega,aU _,λ h=>absurd (show(3:Nat)=0 from h) (by decide),λ h=>absurd (show(3:Nat)=2 from h) (by decide)⟩
 split at h
 ·injection h with h
  injection h with h3 a
  subst h3;subst a;exact⟨aU _,by show 0<(s.extract i _).size;omega,by show i+(s.extract i _).size<=_;omega,aU _,λ h=>absurd (show(3:Nat)=0 from h) (by decide),λ h=>absurd (show(3:Nat)=2 from h) (by decide)⟩
 ·cases h
theorem ScF.low{j:Nat}{t:aS}(h:ScF s j t)(a:i<=j):ScF s i t:=⟨jP a h.lo,h.pos,h.hi,h.WD,h.num,h.fn⟩
theorem mh(a:Bool)(s:ByteArray)(i:Nat):(∀t∈(aP a s i).1,ScF s i t)/\(aP a s i).1.Pairwise (λ x y=>x.at'+x.text.size<=y.at')/\∀k(c:k<(aP a s i).1.length),(aP a s (aP a s i).1[k].at').1=(aP a s i).1.drop k:=by
 by_cases h:i<s.size;case neg=>
  rw[jQ (by omega)]
  exact⟨λ t ht=>absurd ht nU,List.Pairwise.nil,λ k c=>absurd c (Nat.not_lt_zero k)⟩
 by_cases hb:bt s i=32
 ·rw[fw h hb]
  obtain⟨h1,h2,h3⟩:=mh a s (i+1)
  exact⟨λ t ht=>(h1 t ht).low (Nat.le_succ i),h2,h3⟩
 cases b:gX a s i with
 |none=>
  rw[jD h hb b]
  exact⟨λ t ht=>absurd ht nU,List.Pairwise.nil,λ k c=>absurd c (Nat.not_lt_zero k)⟩
 |some x=>
  obtain⟨k,e⟩:=x;have d:=jg h b;obtain⟨h1,h2,h3⟩:=mh a s e;have hf:=aeg h b;have f:=bO s i e d.2;have es:=gp h hb b;refine⟨λ t ht=> ?_,?_,λ m hm=> ?_⟩
  ·rw[es] at ht;rcases List.mem_cons.1 ht with rfl|ht
   ·exact hf
   ·exact(h1 t ht).low (by omega)
  ·rw[es]
   refine List.pairwise_cons.2 ⟨λ t ht=> ?_,h2⟩
   have:=(h1 t ht).lo;show i+(s.extract i e).size<=t.at';omega
  ·cases m with
   |zero=>
    simp only[es,List.getElem_cons_zero,List.drop_zero]
   |succ m=>
    simp only[es,List.getElem_cons_succ,List.drop_succ_cons]
    rw[es] at hm;exact h3 m (by simpa using hm)
termination_by s.size-i
decreasing_by
 ·omega
 ·omega
theorem Bn{s:ByteArray}{a b:Nat}(hb:b<=s.size)(i:Nat)(T rest:List aS)(m:a<=i)(D:i<=b)(h:(aP true s i).1=T++rest)(hx:∀t∈T,Si t)(G:T=[]->i=b)(g:∀t,T.getLast? =some t->t.at'+t.text.size=b):
 aP false (s.extract a b) (i-a)=(T.map λ t=>⟨t.kind,t.text,t.at'-a⟩,none):=by
 have H:=bO s a b hb;cases T with
 |nil=>
  have:=G rfl;rw[jQ (by omega)]
  rfl
 |cons t T=>
 have A:=mh true s i;rw[h] at A;obtain⟨F,w,-⟩:=A;have f:=F t (by simp)
 have E:t.at'+t.text.size<=b:=by
  cases l:T.getLast? with
  |none=>
   have:T=[]:=by simpa using l
   subst this;exact Nat.le_of_eq (g t rfl)
  |some u=>
   have z:=g u (by rw[List.getLast?_cons,l];rfl)
   have n:u∈T:=List.mem_of_getLast? l;have v:(t::(T++rest)).Pairwise (λ x y=>x.at'+x.text.size<=y.at'):=w;have:=(List.pairwise_cons.1 v).1 u (by simp[n])
   omega
 have K:=f.lo;have J:=f.pos;have hi:i<s.size:=by have:=f.hi;omega
 by_cases j:bt s i=32
 ·have q:i+1<=b:=by omega
  have B:=h;rw[fw hi j] at B;have r:bt (s.extract a b) (i-a)=32:=by rw[qF hb m (by omega)];exact j
  have ih:=Bn (a:=a) hb (i+1) (t::T) rest (by omega) q B hx (λ h=>by cases h) g;have o:i-a<(s.extract a b).size:=by omega
  rw[fw o r,show i-a+1=i+1-a by omega]
  exact ih
 cases c:gX true s i with
 |none=>
  rw[jD hi j c] at h;cases h
 |some x=>
  obtain⟨k,e⟩:=x;have C:=jg hi c;have es:=gp hi j c;rw[es] at h;injection h with h1 h2
  subst h1;have I:=bO s i e C.2;have d:e<=b:=by
   have:i+(s.extract i e).size<=b:=E;omega
  have p:=WB hb m (by omega) d c (hx _ (by simp))
  have r:bt (s.extract a b) (i-a)≠32:=by rw[qF hb m (by omega)];exact j
  have ih:=Bn (a:=a) hb e T rest (by omega) d h2 (λ t f=>hx t (by simp[f])) (λ l=>by
   subst l;have:i+(s.extract i e).size=b:=g _ rfl;omega) (λ u z=>g u (by rw[List.getLast?_cons,z];rfl))
  have o:i-a<(s.extract a b).size:=by omega
  rw[gp o r p,ih,N5 m d (by omega)]
  rfl
termination_by s.size-i
decreasing_by
 ·omega
 ·omega
section
attribute [local irreducible] wpList
section
variable{W W0 W1 W2 W':World}{N N' g en i b b':Nat}{ta:Option Addr}{tc:Nat}{ts:List aS}{vc v1 v2 v v':Value}{X Y:Nat->Bool}{t:aj}
theorem LI(d:Ay W ta ts.length tc ts)(i:6<=W.heap.size)(en:Nat):Calls prog 347 #[.slice ta ts.length tc,.int .i64 (en:Int)] W λ e W'=>
 ∃g,e= .returned (.pointer (some ⟨g,0,none⟩))/\W.heap.size<=g/\aa W W'/\cK W' g ta tc ts en 0 (.slice none 0 0):=by
 refine dK [_,_] 9 func347 rfl ntmps347 (by simp) ?_;refine gx ?_;refine zr (.agg #[.slice ta ts.length tc,.int .i64 0,.int .i64 (en:Int),.slice none 0 0]) ?_;refine zb λ h g1 e1 a f q1=> ?_;refine gx ?_;refine aF ⟨g1,rfl,by omega,a,f,d.sub (sN a λ b hb=>gC (by omega) (by simp[Value.ownBlock])),⟨[],World.ownsRow_nil ..,λ c hc=>by simp at hc,aU _⟩,by simp[Value.ownBlock],eo _,by omega⟩
theorem IE(h:cK W g ta tc ts en ts.length vc):Calls prog 351 #[.pointer (some ⟨g,0,none⟩)] W λ e W'=>(∃v,e= .returned v)/\aa W W':=by
 have hb:=h.bw;have b:=hb.lt;have a:aa W W.drew:=(aa.refl W).drew;refine ct 13 func351 rfl ntmps351 ?_;refine gx ?_;refine eJ 0 0 λ hS=> ?_;refine eL 0 hS ?_;refine mO 1 hS ?_;refine jG 2 hS ?_;refine eA 3 (hb.cell 1 rfl) (by omega) hS ?_;refine eL 4 hS ?_;refine mO 5 hS ?_;refine jG 6 hS ?_;refine eA 7 (hb.cell 0 rfl) (by omega) hS ?_;refine Lr 8 hS ?_;refine BL 9 false hS ?_ ?_
 ·exact gy (by omega)
 refine gB ?_;refine gx ?_;exact fR λ v=>⟨⟨v,rfl⟩,a⟩
theorem fL.aa9(k:fL W W1 g vc v1)(h:aa W0 W)(a:W0.heap.size<=g)(hv:∀b,vc.ownBlock=some b->W0.heap.size<=b):aa W0 W1:=
 ⟨jP h.size k.size,λ b hb=>(k.old b (jf hb h.size) (gC (by omega) λ e=>by have:=hv b e;omega)).trans (h.old b hb),k.tape.trans h.tape,k.os.trans h.os,k.output.trans h.output⟩
structure wS(W0 W W':World)(g g7 g8:Nat)(ta:Option Addr)(tc:Nat)(ts:List aS)(en:Nat)(t:aj)(N:Nat):Prop where
 kept:aa W0 W'
 size:W.heap.size<=W'.heap.size
 b7:aD W' g7 #[.pointer (some ⟨g,0,none⟩)] 370
 r:∃C vc,dY 27 C/\aD W' g8 C 27/\gh W' N g vc (jI g8 g8) (.agg C) t/\cK W' g ta tc ts en ts.length vc/\(∀b,vc.ownBlock=some b->N<=b)
theorem wS.kp{W3:World}(h:wS W0 W W' g g7 g8 ta tc ts en t N)(k:aa W' W3):wS W0 W W3 g g7 g8 ta tc ts en t N:=by
 obtain⟨C,vc,h1,h2,h3,b,a⟩:=h.r;exact⟨h.kept.trans k,jP h.size k.size,h.b7.kept k,C,vc,h1,h2.kept k,h3.kept k,b.kept k,a⟩
theorem LJ(c:KV ts){u:List (Nat×Bool)}(x:aa W0 W)(G:Ay W0 ta ts.length tc ts)(h:cK W g ta tc ts en 0 (.slice none 0 0))(K:cL W)(hr:eD aN ts n 0=some (.ok t ts.length u))(J:Fit ts u)(b7:aD W g7 #[.pointer (some ⟨g,0,none⟩)] 370)(y:aD W g8 Z7 27)
 (I:W0.heap.size<=g)(H:W0.heap.size<=g8)(p:g7≠g8)(o:g7≠g)(j:g8≠g):Calls prog 349 #[.pointer (some ⟨g7,0,none⟩),.pointer (some ⟨g8,0,none⟩)] W λ e W'=>(∃v,e= .returned v)/\wS W0 W W' g g7 g8 ta tc ts en t W.heap.size/\∀b,b<W.heap.size->b≠g->b≠g8->W'.heap[b]? =W.heap[b]? :=by
 refine dK [_,_] 6 func349 rfl ntmps349 (by simp) ?_;have R:=b7.lt;have s:=y.lt;refine gx ?_;refine zc 350 _ ((Xc c n).1 _ _ _ _ _ _ _ _ _ _ h K hr J) ?_;rintro e l ⟨v,a,rfl,t1,f,h1⟩
 refine⟨_,rfl,?_⟩
 obtain⟨C,rfl,q⟩:=t1.agg;have s1:=f.size;have P:aa W0 l:=f.aa9 x I (by simp[Value.ownBlock])
 have M:yw g (.slice none 0 0) g7=true:=gC o (by simp[Value.ownBlock])
 have L:yw g (.slice none 0 0) g8=true:=gC j (by simp[Value.ownBlock])
 have F:Lc l g7 g a #[.pointer (some ⟨g,0,none⟩)] 370:=Lc.fo ⟨b7,M⟩ f;have r:Lc l g8 g a Z7 27:=Lc.fo ⟨y,L⟩ f;have m:=t1.up (X:=jI g8 g8) (aU _) (wQ s s)
 have i:∀b,a.ownBlock=some b->W.heap.size<=b:=λ b hb=>by
  rcases f.fr with e|e
  ·rw[e] at hb;simp[Value.ownBlock] at hb
  ·exact e b hb
 refine zt r.bw iK q λ k d O=> ?_;have z:aa W0 k:=P.but d (by omega)
 have h2:cK k g ta tc ts en ts.length a:=by
  obtain⟨cs,E,D,B⟩:=h1.own;exact⟨h1.bw.ai d (Ne.symm j),G.sub (sN z λ b hb=>gC (by omega) λ e=>by have:=i b e;have:=x.size;omega),⟨cs,bE E d r.own,D,B⟩,h1.ng,h1.le,h1.gl⟩
 have A:=m.loc d (vF ..)
 have N:=F.bw.ai d p;have s2:=d.size;refine gx ?_;refine zc 351 _ (IE h2) ?_;rintro e w3 ⟨⟨Q,rfl⟩,w⟩
 refine gx ?_;exact fR λ v=>⟨⟨v,rfl⟩,(⟨z,by omega,N,C,a,q,O,A,h2,i⟩:wS W0 W k g g7 g8 ta tc ts en t W.heap.size).kp w,λ b hb h1 h2=>(w.old b (by omega)).trans ((d.old b (by omega) h2).trans (f.old b hb (gC h1 (by simp[Value.ownBlock]))))⟩
end
end
section
attribute [local irreducible] wpList wpOpsS
theorem aeM{f:FuncId}{c:Code}{u:FrameMode}{R:Ending->FrameMode->World->Prop}(n:Nat)(hf:prog.funcs[f]? =some fn)(hb:fn.body=some c)(hn:fn.ntmps=n+1)
 (h:∀(c₀:Frame)(cs:List Frame),c₀.mode=u->c.wpS prog (bodyPostS prog fn c₀ cs R) (aH (n+1) (aC Ef 0 v)) (c₀::cs) w):CallsD prog f #[v] u w R:=by
 refine callsD_of_wpS hf hb λ c₀ cs a=> ?_;have e:(⟨#[v]++Array.replicate (fn.ntmps- #[v].size) undef,[]⟩:Act)=aH (n+1) (aC Ef 0 v):=by
  rw[hn]
  refine congrArg (λ t=>(⟨t,[]⟩:Act)) (?_:#[v]++Array.replicate n undef=((List.range (n+1)).map λ i=>(aC Ef 0 v i).getD undef).toArray)
  apply Array.ext
  ·simp;omega
  ·intro i h1 h2;rcases i with _|i
   ·simp[aC]
   ·simp[aC,Ef,Nat.beq]
 rw[e]
 exact h c₀ cs a
theorem Zy{f:FuncId}{c:Code}(n:Nat)(hf:prog.funcs[f]? =some fn)(hb:fn.body=some c)(hn:fn.ntmps=n+1)
 (h:c.wp prog (bodyPostD prog fn R) (aH (n+1) (aC Ef 0 v)) w):Calls prog f #[v] w R:=by
 refine calls_of_wp_defers hf hb ?_;have e:(⟨#[v]++Array.replicate (fn.ntmps- #[v].size) undef,[]⟩:Act)=aH (n+1) (aC Ef 0 v):=by
  rw[hn]
  refine congrArg (λ t=>(⟨t,[]⟩:Act)) (?_:#[v]++Array.replicate n undef=((List.range (n+1)).map λ i=>(aC Ef 0 v i).getD undef).toArray)
  apply Array.ext
  ·simp;omega
  ·intro i h1 h2;rcases i with _|i
   ·simp[aC]
   ·simp[aC,Ef,Nat.beq]
 rw[e]
 exact h
theorem IG(p:Nat)(w:World):CallsD prog 389 #[.pointer (some ⟨p,0,none⟩)] .returning w λ e b w'=>(∃v,e= .returned v)/\b= .returning/\aa w w':=by
 refine aeM 10 func389 rfl ntmps389 λ c₀ cs a=> ?_;apply wpS_seq;apply wpS_region;refine Tl (by unfold recoverD;simp only[a]) ?_;refine Xd ?_;refine wpS_of_wp ?_;refine gz ?_;refine z2 (.bool true) ?_;refine gz ?_;refine⟨rfl,.returning,by rw[<-a],.tuple #[],by simp[results],⟨_,rfl⟩,rfl,aa.refl w⟩
theorem oR{b:Int}:dY 373 #[.int .i64 a,.int .i64 b]:=⟨by kernel_rfl,by simp[Value.oneCell']⟩
section
variable{W W0 W1 W2 W':World}{N N' g en i b b':Nat}{ta:Option Addr}{tc:Nat}{ts:List aS}{vc v1 v2 v v':Value}{X Y:Nat->Bool}{t:aj}
theorem gh.ajw(h:gh W N g vc X v t)(k:af W W1 b)(hb:b<N):gh W1 N g vc X v t:=by
 obtain⟨F,h⟩:=h;exact⟨F,h.sub (au λ c hc hs=>by
  refine⟨hs,k.old c hc λ e=> ?_⟩
  have:=(jx hs).1;omega)⟩
theorem wS.loc{W3:World}(h:wS W0 W W' g g7 g8 ta tc ts en t N)(j:Ay W0 ta ts.length tc ts)(k:af W' W3 b)(hb:W0.heap.size<=b)(l:b<N)(h1:b≠g)(h2:b≠g7)(h3:b≠g8)(m:W0.heap.size<=g):wS W0 W W3 g g7 g8 ta tc ts en t N:=by
 obtain⟨C,vc,c1,c2,c3,c4,a⟩:=h.r;have c:aa W0 W3:=h.kept.but k hb;refine⟨c,jP h.size k.size,h.b7.ai k (Ne.symm h2),C,vc,c1,c2.ai k (Ne.symm h3),c3.ajw k l,?_,a⟩
 obtain⟨cs,i,f,d⟩:=c4.own;exact⟨c4.bw.ai k (Ne.symm h1),j.sub (sN c λ b' n=>gC (by omega) λ e=>by have:=a b' e;omega),⟨cs,bE i k λ e=>by have:=a b e;omega,f,d⟩,c4.ng,c4.le,c4.gl⟩
def ajx(g2:Nat):List Deferred:=[⟨.fn (.func 389) #[.pointer (some ⟨g2,0,none⟩)],#[]⟩]
theorem aba{l:Fm}{g2:Nat}{c:Int}(d:aD w g2 #[.int .i64 a,.int .i64 c] 373)(hx:bA n l (.tmp 2)=some (.pointer (some ⟨g2,0,none⟩)))
 (hR:∀w',aa w w'->R (.returned (.agg #[.int .i64 a,.int .i64 c])) w'):bodyPostD prog f348 R .ret (dW (ajx g2) n l) w:=by
 refine leaves_cons (f:=389) (args:=#[.pointer (some ⟨g2,0,none⟩)]) (by simp) (by simp[go_sem]) ?_;refine(IG g2 w).mono ?_;rintro e g w' ⟨⟨v,rfl⟩,rfl,b⟩
 show Leaves prog f348 (aH n l).tmps R [] .returning w';refine⟨_,?_,hR w' b⟩
 have e1:=bK hx;simp only[Array.getD_eq_getD_getElem?] at e1;simp[results,e1,asAddr,(d.kept b).loadVar oR (by kernel_rfl)]
theorem LN(c:KV ts){u:List (Nat×Bool)}(k:aa W0 W)(l:Ay W0 ta ts.length tc ts)(h:cK W g ta tc ts en 0 (.slice none 0 0))(z:cL W)(hr:eD aN ts n 0=some (.ok t ts.length u))(y:Fit ts u)(b7:aD W g7 #[.pointer (some ⟨g,0,none⟩)] 370)(o:aD W g8 Z7 27)
 (m:W0.heap.size<=g)(d:W0.heap.size<=g8)(j:g7≠g8)(i:g7≠g)(f:g8≠g):Calls prog 348 #[.func (.func 349) #[] #[.pointer (some ⟨g7,0,none⟩),.pointer (some ⟨g8,0,none⟩)]] W λ e W'=>e= .returned (.agg #[.int .i64 0,.int .i64 0])/\∃N,W.heap.size<=N/\wS W0 W W' g g7 g8 ta tc ts en t N:=by
 refine Zy 6 func348 rfl ntmps348 ?_;have s:=b7.lt;have F:=o.lt;have E:=h.bw.lt;have C:=k.size;refine gz ?_;refine za #[.int .i64 0,.int .i64 0] 373 λ q g2 e1 a B q1=> ?_;refine gz ?_;refine zr (.func (.func 389) #[] #[.pointer (some ⟨g2,0,none⟩)]) ?_;rw[<-BV]
 refine LO (df:=⟨.fn (.func 389) #[.pointer (some ⟨g2,0,none⟩)],#[]⟩) ?_
 (iterate 5 go_step);refine dz ?_
 refine dc 349 _ (LJ c (k.trans a) l (h.kept a) (z.kept a) hr y (b7.kept a) (o.kept a) m d j i f) ?_;rintro e p ⟨⟨v,rfl⟩,hd,ho⟩
 refine⟨_,rfl,?_⟩
 have s2:=hd.size;have A:aD p g2 #[.int .i64 0,.int .i64 0] 373:=(ho g2 (by omega) (by omega) (by omega)).trans B
 (iterate 5 go_step)
 refine dr (.agg #[.int .i64 0,.int .i64 0]) ?_;refine dt A oR oR λ w3 x b3=> ?_
 (iterate 5 go_step)
 refine aba b3 rfl λ D w=>⟨rfl,q.heap.size,by omega,?_⟩
 have b:=(hd.loc l x (by omega) (by omega) (by omega) (by have:=s;omega) (by omega) m).kp w;exact⟨b.kept,by have:=a.size;have:=b.size;omega,b.b7,b.r⟩
end
end
section
attribute [local irreducible] wpList
theorem OB:∀(cs:List W6)(k:Nat)(h:k<cs.length)(j:Nat)(v:Value),[Value.int .i64 (cs[k].at':Int),.int .i64 (cs[k].lo:Int),.int .i64 (cs[k].hi:Int),.int .i64 (cs[k].n:Int)][j]? =some v->(BK cs)[k*4+j]? =some v
 |c::cs,0,_,j,v,hv=>by
  have a:j<4:=by
   rcases Nat.lt_or_ge j 4 with h|h
   ·exact h
   ·rw[List.getElem?_eq_none (by simpa using h)] at hv;cases hv
  show([Value.int .i64 (c.at':Int),.int .i64 (c.lo:Int),.int .i64 (c.hi:Int),.int .i64 (c.n:Int)]++BK cs)[0*4+j]? =_;rw[Nat.zero_mul,lp,List.getElem?_append_left (by simpa using a)]
  exact hv
 |c::cs,k+1,h,j,v,hv=>by
  have ih:=OB cs k (Nat.lt_of_succ_lt_succ h) j v hv;show([Value.int .i64 (c.at':Int),.int .i64 (c.lo:Int),.int .i64 (c.hi:Int),.int .i64 (c.n:Int)]++BK cs)[(k+1)*4+j]? =_;rw[List.getElem?_append_right (by simp;omega),<-ih]
  congr 1;simp;omega
theorem Tm(cs:List W6):(BK cs).length=cs.length*4:=by
 induction cs with
 |nil=>rfl
 |cons c cs ih=>
  show([Value.int .i64 (c.at':Int),.int .i64 (c.lo:Int),.int .i64 (c.hi:Int),.int .i64 (c.n:Int)]++BK cs).length=_;rw[gJ,ih]
  simp;omega
def ZCt:Array Value:=#[.int .i64 0,.int .i64 0,.int .i64 0,.int .i64 0]
theorem LQ{b c d:Int}:dY 417 #[.int .i64 a,.int .i64 b,.int .i64 c,.int .i64 d]:=⟨by kernel_rfl,by simp[Value.oneCell']⟩
section
variable{W W0 W1 W2 W':World}{N N' g en i b b':Nat}{ta:Option Addr}{tc:Nat}{ts:List aS}{vc v1 v2 v v':Value}{X Y:Nat->Bool}{t:aj}
theorem cK.rowAt(h:cK W g ta tc ts en i vc)(a:k<ts.length):∃b,ta=some ⟨b,0,none⟩/\W.rangeAt b (0+k*3) (sH (ar ts k).kind (ar ts k).text (ar ts k).at').toList:=by
 obtain⟨b,hb,hr⟩:=h.tok.row a;have e:ar ts k=ts[k]:=by unfold ar;rw[nW a];rfl
 rw[e]
 exact⟨b,hb,λ j v hv=>dP _ _ _ _ (hr j v hv)⟩
theorem Fv(c:KV ts)(h:cK W g ta tc ts en i vc)(hT:cL W)(hz:∀t∈ts,yu t=false/\fY t=false):Calls prog 352 #[.pointer (some ⟨g,0,none⟩)] W λ e W'=>e= .returned (.agg #[.int .i64 0,.int .i64 0])/\aa W W':=by
 refine ct 87 func352 rfl ntmps352 ?_;have R:=c.len;refine gx ?_;refine za #[.int .i64 0,.int .i64 0] 373 λ w1 g2 e1 P Z q1=> ?_;have fZ:=(h.kept P).bw;refine gx ?_;refine mi ts.length (λ k=>[(0,.pointer (some ⟨g,0,none⟩)),(2,.pointer (some ⟨g2,0,none⟩)),(3,.slice none 0 0),(16,.slice ta ts.length tc),(17,.int .i64 (ts.length:Int)),(18,.int .i64 (k:Int))]) (λ k f=>aa W f/\k<=ts.length/\aD f g2 #[.int .i64 0,.int .i64 0] 373) ⟨rfl,rfl,rfl,rfl,rfl,rfl,trivial⟩ ⟨P,eo _,Z⟩ λ fl wr k hk ⟨d,S,m⟩=> ?_;replace S:k<=ts.length:=S;replace m:aD wr g2 #[.int .i64 0,.int .i64 0] 373:=m;clear fZ Z;refine gx ?_;by_cases l:k<ts.length;case neg=>
  refine gx ?_;have hbr:=(h.kept d).bw;refine gx ?_;obtain⟨cs,ho,jr,-⟩:=(h.kept d).own;have pK:=pT ho;obtain⟨ca,cc,rfl,BX,iw,U⟩:=bI ho;unfold maxLen at pK;refine gx ?_;refine mi cs.length (λ q=>[(0,.pointer (some ⟨g,0,none⟩)),(2,.pointer (some ⟨g2,0,none⟩)),(65,.slice ca cs.length cc),(66,.int .i64 (cs.length:Int)),(67,.int .i64 (q:Int))]) (λ q f=>aa wr f/\q<=cs.length/\aD f g2 #[.int .i64 0,.int .i64 0] 373) ⟨rfl,rfl,rfl,rfl,rfl,trivial⟩ ⟨aa.refl wr,eo _,m⟩ λ fl ws q hq ⟨o,y,A⟩=> ?_;replace y:q<=cs.length:=y;replace A:aD ws g2 #[.int .i64 0,.int .i64 0] 373:=A;clear m;refine gx ?_;by_cases a:q<cs.length;case neg=>
   refine gx ?_;refine zr (.agg #[.int .i64 0,.int .i64 0]) ?_;refine zt A oR oR λ wt kt bt=> ?_;refine gx ?_;exact ej bt oR ⟨rfl,(d.trans o).but kt (by omega)⟩
  refine gx ?_;have I:=jr cs[q] (List.getElem_mem a)
  obtain⟨Y,hcb,J,-⟩:=U (q*4) (by rw[Tm];omega)
  subst J;have x:ws.rangeAt Y (0+q*4) [Value.int .i64 (cs[q].at':Int),.int .i64 (cs[q].lo:Int),.int .i64 (cs[q].hi:Int),.int .i64 (cs[q].n:Int)]:=λ j v hv=>by
   have h1:=OB cs q a j v hv;have hj:q*4+j<(BK cs).length:=by
    rcases Nat.lt_or_ge (q*4+j) (BK cs).length with h2|h2
    ·exact h2
    ·rw[List.getElem?_eq_none h2] at h1;cases h1
   obtain⟨L,-,he,h2⟩:=U (q*4+j) hj;obtain rfl:Y=L:=by simpa using he
   rw[lp]
   exact o.cell (h2.trans h1)
  generalize cs[q]=C at I x;have zs:=(d.trans o).size;refine gx ?_;refine zi (s:=4) q a ?_;refine zl (V:=#[.int .i64 (C.at':Int),.int .i64 (C.lo:Int),.int .i64 (C.hi:Int),.int .i64 (C.n:Int)]) x LQ ?_;refine za ZCt 417 λ w2 g3 e2 w N q2=> ?_;refine zt N LQ LQ λ w3 u b3=> ?_;have D:aa wr w3:=(o.trans w).but u (by have:=d.size;have:=o.size;omega)
  have c3:=(A.kept w).ai u (by have:=A.lt;omega)
  refine gx ?_;refine mH ((q+1:Nat):Int) ?_ ?_ ?_
  ·show(q:Int)+1=_;omega
  ·rw[IntKind.wrap_i64];omega
  refine gx ?_;exact⟨_,rfl,a,⟨rfl,rfl,rfl,rfl,rfl,trivial⟩,D,a,c3⟩
 refine cr true ?_ ?_
 ·exact cU (by omega)
 refine If ?_;refine Dt (σ:=Unit) (λ _=>[(0,.pointer (some ⟨g,0,none⟩)),(2,.pointer (some ⟨g2,0,none⟩)),(3,.slice none 0 0),(16,.slice ta ts.length tc),(17,.int .i64 (ts.length:Int)),(18,.int .i64 (k:Int))]) (λ _ f=>aa W f/\aD f g2 #[.int .i64 0,.int .i64 0] 373) (λ Q' X=> ?_) (λ l' w9 _ ⟨k9,b9⟩=> ?_)
 ·obtain⟨b,rfl,x⟩:=(h.kept d).rowAt l;have Q:=c.num _ (mN l)
  have H:=hz _ (mN l)
  have T:=c.WD _ (mN l)
  obtain⟨t,ht⟩:∃t,t=ar ts k:=⟨_,rfl⟩
  rw[<-ht] at x Q H T;have zr0:=d.size;refine gx ?_;refine zi (s:=3) k l ?_;refine zl x ⟨by kernel_rfl,by first|kernel_rfl|simp[Value.oneCell']⟩ ?_;refine za QH 410 λ w2 g3 e2 w N q2=> ?_;refine zt N eh eh λ w3 u b3=> ?_;have D:aa W w3:=(d.trans w).but u (by omega)
  have c3:=(m.kept w).ai u (by have:=m.lt;omega)
  refine gx ?_;by_cases z:t.kind=0;case neg=>
   refine cr true ?_ ?_
   ·have:=Tc T (show 0<=3 by omega)
    have e0:kS 0=1:=rfl;have:kS t.kind≠1:=λ e=>z (this.1 (e.trans e0.symm))
    exact bne_iff_ne.2 (by omega)
   refine gx ?_;exact X _ _ () ⟨rfl,rfl,rfl,rfl,rfl,rfl,trivial⟩ ⟨D,c3⟩
  refine cr false ?_ ?_
  ·rw[z];rfl
  have nf:=Q z;refine gx ?_;refine zc 98 _ (D7 nf) ?_;rintro e w4 ⟨he,G⟩
  have M:=b3.kept G;have B:=D.trans G;have c4:=c3.kept G;by_cases hs:kE t.text=true;case' pos=>
   rw[if_pos hs] at he;subst he;have dL:aw t.text 0≠t.text.size:=by
    unfold kE at hs;have:=kC (Bool.and_eq_true_iff.1 hs).1;omega
   obtain⟨tA,tz,Zo,-⟩:=nf.tl dL;have tsz:=nf.size;refine gx ?_;refine zc 99 _ (zB (b:=oo t.text) (by omega) tA (by omega)) ?_;rintro e w5 ⟨⟨r,rfl,hr⟩,F⟩
   refine⟨_,rfl,?_⟩
   replace M:=M.kept F;replace B:=B.trans F;replace c4:=c4.kept F;have K:cw (oo t.text)≠0:=λ K=>by
    have:=H.1;unfold yu zC at this;rw[hs,cU z,cU K] at this;cases this
   refine gx ?_;refine pJ false ?_ ?_
   ·rw[Il,decide_eq_false_iff_not];exact λ e=>K (hr.1 e)
  case' neg=>
   rw[if_neg hs] at he;subst he;refine⟨_,rfl,?_⟩
  all_goals
   have KS:iz t.text=0:=by
    have:=H.2;unfold fY at this;rw[cU z,Bool.true_and,decide_eq_false_iff_not] at this;exact Classical.byContradiction λ h=>this h
   refine gx ?_;refine zc 100 _ (kF nf (hT.kept B)) ?_;rintro e w6 ⟨a1,n1,c1,a2,n2,c2,rfl,-,p⟩
   refine⟨_,rfl,?_⟩
   rw[KS]
   have b6:=M.kept p;refine gx ?_;refine za ZR 24 λ w7 g7 e7 E b7 q7=> ?_;refine zt b7 cQ cQ λ w8 O b8=> ?_;have z4:=B.size;have z6:=p.size;have z7:=E.size;have K8:aa W w8:=((B.trans p).trans E).but O (by omega)
   have c8:=((c4.kept p).kept E).ai O (by have:=(c4.kept p).lt;omega)
   refine gx ?_;exact X _ _ () ⟨rfl,rfl,rfl,rfl,rfl,rfl,trivial⟩ ⟨K8,c8⟩
 refine gx ?_;refine mH ((k+1:Nat):Int) ?_ ?_ ?_
 ·show(k:Int)+1=_;omega
 ·rw[IntKind.wrap_i64];omega
 refine gx ?_;exact⟨_,rfl,l,⟨rfl,rfl,rfl,rfl,rfl,rfl,trivial⟩,k9,l,b9⟩
end
theorem kJ{d d2:Nat}{l:Fm}{ty t1:TypeId}{p1:Tmp}{g1:Nat}{V1:Array Value}{v2:Value}(f:aD w g1 V1 t1)(v1:dY ty V1)(hR:R (.returned (.tuple #[.agg V1,v,v2])) w)
 (h:fn.results=#[.cell p1 ty,.tmp d,.tmp d2]:=by rfl)(b:bA n l (.tmp p1)=some (.pointer (some ⟨g1,0,none⟩)):=by rfl)(hv:bA n l (.tmp d)=some v:=by rfl)(c:bA n l (.tmp d2)=some v2:=by rfl)(e:(prog.underlying ty).map TypeDesc.isRow=some true:=by kernel_rfl):bodyPost prog fn R .ret (aH n l) w:=by
 refine bodyPost_ret ?_ rfl hR;have e0:=bK hv;have a:=bK c;have e1:=bK b;simp only[Array.getD_eq_getD_getElem?] at e0 e1 a;simp[results,h,e0,e1,a,asAddr,f.loadVar v1 e]
structure XpT(s:ByteArray)(t:aj):Prop where
 size:s.size<=4000
 scan:(aP false s 0).2=none
 psc:KV (aP false s 0).1
 num:∀t∈(aP false s 0).1,yu t=false/\fY t=false
 sum:∃n u,eD aN (aP false s 0).1 n 0=some (.ok t (aP false s 0).1.length u)/\Fit (aP false s 0).1 u
theorem Fw(h:XpT s t)(L:cL W)(h6:6<=W.heap.size):Calls prog 282 #[.string s] W λ e W'=>
 aa W W'/\if t.ok=true then ∃r F,e= .returned (.tuple #[r,.int .i64 0,.int .i64 0])/\Ex (aB W' (ab W.heap.size)) F r (cR t)
  else e= .returned (.tuple #[IH,.int .i64 0,.int .i64 4]):=by
 obtain⟨hs,iI,c,hz,n,u,wR,gZ⟩:=h;have zF:=λ w=>Iz w s hs iI;obtain⟨ts,wO⟩:∃ts,ts=(aP false s 0).1:=⟨_,rfl⟩
 rw[<-wO] at c hz wR gZ zF;refine ct 50 func282 rfl ntmps282 ?_;refine gx ?_;refine za Z7 27 λ w1 g1 e1 Z b1 q1=> ?_;refine gx ?_;refine zc 346 _ (zF w1) ?_;rintro e E ⟨⟨a,cap,rfl,ht⟩,I⟩
 refine⟨_,rfl,?_⟩
 have II:Ay E a ts.length cap ts:=ht.sub (dP _ _)
 have s1:=Z.size;have s2:=I.size;have K2:=Z.trans I;have b2:=b1.kept I;refine gx ?_;refine zc 347 _ (LI (W:=E) II (by omega) s.size) ?_;rintro e w3 ⟨g,rfl,hg,Y,h3⟩
 refine⟨_,rfl,?_⟩
 refine za #[.pointer none] 370 λ w4 g7 e4 v b4 q4=> ?_;refine fV (i:=0) b4 (by simp) rfl λ V q P=> ?_;replace P:aD V g7 #[.pointer (some ⟨g,0,none⟩)] 370:=P;have s3:=Y.size;have s4:=v.size;have s5:=q.size;have lg:=h3.bw.lt;refine gx ?_;refine za Z7 27 λ w6 g8 e6 p b6 q6=> ?_;have s6:=p.size;have T:aa E w6:=(((Y.trans v).but q (by omega)).trans p)
 have h5:cK V g a cap ts s.size 0 (.slice none 0 0):=cK.loc h3 ((fy v).loc q (by omega)) (h3.kept v) q (by omega) (by simp[Value.ownBlock])
 have Sq:=h5.kept p;have O:=P.kept p;have Hs:=b2.kept T;refine gx ?_;refine zr (.func (.func 349) #[] #[.pointer (some ⟨g7,0,none⟩),.pointer (some ⟨g8,0,none⟩)]) ?_;refine zc 348 _ (LN c T II Sq (L.kept (K2.trans T)) wR gZ O b6 (by omega) (by omega) (by omega) (by omega) (by omega)) ?_;rintro e B ⟨rfl,N,hN,hd⟩
 refine⟨_,rfl,?_⟩
 obtain⟨C,vc,oC,c8,tr,y,hvc⟩:=hd.r;have b7:=hd.b7;have s7:=hd.size;have R:=b2.kept hd.kept;have z:aa W B:=K2.trans hd.kept;refine za #[.int .i64 0,.int .i64 0] 373 λ w8 g9 e8 o b8 q8=> ?_;refine zt b8 oR oR λ U m b9=> ?_;have s8:=o.size;have s9:=m.size;have S:aa B U:=o.but m (by omega)
 refine gx ?_;have b79:=b7.kept S;refine gx ?_;have J:cK U g a cap ts s.size ts.length vc:=cK.loc y ((fy o).loc m (by omega)) (y.kept o) m (by have:=y.bw.lt;omega) (y.fresh (by omega))
 refine zc 352 _ (Fv c J (L.kept (z.trans S)) hz) ?_;rintro e wa ⟨rfl,H⟩
 refine⟨_,rfl,?_⟩
 have M:=b9.kept H;refine zt M oR oR λ A kb bb=> ?_;have sa:=H.size;have sb:=kb.size;have d:aa B A:=(S.trans H).but kb (by omega)
 refine gx ?_;refine zl (c8.kept d).range oC ?_;have f:∃F,Ex A F (.agg C) t:=by
  obtain⟨F,hF⟩:=tr;exact⟨F,(hF.sub (dP _ _)).kept d⟩
 obtain⟨F,f⟩:=f;refine zc 157 _ (DM f (L.kept (z.trans d))) ?_;rintro e wc ⟨hc,G⟩
 have sc:=G.size;by_cases x:t.ok=true;case' pos=>
  rw[if_pos x] at hc;obtain⟨r,rfl,hr⟩:=hc;obtain⟨D,rfl,j⟩:=hr.own
 case' neg=>
  rw[if_neg x] at hc;subst hc;have j:=iK
 all_goals
  refine gx ?_;refine za Z7 27 λ wd gd ed l bd qd=> ?_;refine zt bd iK j λ we k be=> ?_;have sd:=l.size;have se:=k.size;have K:aD we gd _ 27/\True:=⟨be,trivial⟩
  clear be;refine gx ?_;refine zl K.1.range j ?_;refine zz ?_;have Q:=((R.kept d).kept G).kept l |>.ai k (by have:=R.lt;have:=d.size;omega)
  refine zt Q iK j λ wf X bf=> ?_;refine gx ?_;have KF:aa W wf:=((((z.trans d).trans G).trans l).but k (by omega)).but X (by omega)
 case' pos=>
  refine kJ bf j ⟨KF,?_⟩
  rw[if_pos x]
  refine⟨_,F,rfl,hr.sub (au λ b hb hs=> ?_)⟩
  have hs4:A.heap.size<=b:=kC hs;have hK:=(z.trans d).size;have l1:=(R.kept d).lt;exact⟨cU (by omega),(X.old b (by omega) (by omega)).trans ((k.old b (by omega) (by omega)).trans (l.old b hb))⟩
 case' neg=>
  refine kJ bf j ⟨KF,?_⟩
  rw[if_neg x]
  rfl
def tkE(t:aS):Nat:=t.at'+t.text.size
def OD(s:ByteArray)(ts:List aS)(i k:Nat):ByteArray:=s.extract (ar ts i).at' (tkE (ar ts (k-1)))
structure PaT(s:ByteArray)(ts:List aS)(i k:Nat)(t:aj):Prop where
 lt:i<k
 le:k<=ts.length
 at':(ar ts i).at'<=tkE (ar ts (k-1))
 en:tkE (ar ts (k-1))<=s.size
 sz:s.size<=4000
 xp:XpT (OD s ts i k) t
def PV(t:aj)(W:World)(S:Nat->Bool)(D:Array Value)(c:Nat):Prop:=if t.ok=true then c=0/\∃F,Ex (aB W S) F (.agg D) (cR t) else c=4/\D=Z7
theorem PV.sub{W':World}{S S':Nat->Bool}{D:Array Value}{c:Nat}(h:PV t W S D c)(k:nT (aB W S) (aB W' S')):PV t W' S' D c:=by
 unfold PV at h⊢;split
 ·rename_i ho;rw[if_pos ho] at h;obtain⟨rfl,F,h⟩:=h;exact⟨rfl,F,h.sub k⟩
 ·rename_i ho;rw[if_neg ho] at h;exact h
def ajE(t:aj)(W:World)(e:Ending)(W':World):Prop:=∃D,∃c:Nat,e= .returned (.tuple #[.agg D,.int .i64 (c:Int)])/\dY 27 D/\aa W W'/\PV t W' (ab W.heap.size) D c
theorem Fx(h:XpT s t)(d:cL W)(f:6<=W.heap.size):Calls prog 282 #[.string s] W λ e W'=>∃D,∃c:Nat,e= .returned (.tuple #[.agg D,.int .i64 0,.int .i64 (c:Int)])/\dY 27 D/\aa W W'/\PV t W' (ab W.heap.size) D c:=by
 refine(Fw h d f).mono ?_;rintro e W' ⟨k,a⟩
 unfold PV;by_cases ho:t.ok=true
 ·rw[if_pos ho] at a;obtain⟨r,F,rfl,hr⟩:=a;obtain⟨D,rfl,b⟩:=hr.own;exact⟨D,0,rfl,b,k,by rw[if_pos ho];exact⟨rfl,F,hr⟩⟩
 ·rw[if_neg ho] at a;exact⟨Z7,4,a,iK,k,by rw[if_neg ho];exact⟨rfl,rfl⟩⟩
section
variable{ops:Array Oper}{Q:Exit->Act->World->Prop}{oi oj:Oper}{fuel:Nat}{listed:Array Bool}{w w0:World}{lo up n d e:Nat}{l:Fm}
theorem yco(i j:Nat)(f:FuncId)(args:Array Value)(A:Array Value)(t:TypeId)(hS:Lk lo up w0 w)(hc:Calls prog f args w R)
 (h1:∀e' w',R e' w'->aa w w'/\∃v,e'= .returned v/\(Lk lo up w0 w'->wpAnyH prog .any ops Q (Lk lo up w0) fuel (listed.setIfInBounds i true) (aH n (aC l d v)) w'))
 (h2:∀W g,g=w.heap.size->aa w W->aD W g A t->W.heap.size=g+1->Lk lo up w0 W->wpAnyH prog .any ops Q (Lk lo up w0) fuel (listed.setIfInBounds j true) (aH n (aC l e (.pointer (some ⟨g,0,none⟩)))) W)
 (hi:ops[i]? =some oi:=by rfl)(h:ops[j]? =some oj:=by rfl)(hrun:(execOp (ev n l) oi).run prog w= .ok (.enter f args) w:=by kernel_rfl)
 (a:(execOp (aH n l).eval oj).run prog w= .ok (.value (.pointer (some ⟨w.heap.size,0,none⟩))) (w.alloc (.cells A t)):=by kernel_rfl)
 (m:oi.guard=none:=by rfl)(hd:oi.dst=some d:=by rfl)(k:oj.guard=none:=by rfl)(he:oj.dst=some e:=by rfl)(hr:Region.ready .any ops listed=[i,j]:=by kernel_rfl):wpAnyH prog .any ops Q (Lk lo up w0) (fuel+1) listed (aH n l) w:=by
 refine rd2 i j (λ K hK=> ?_) (λ K hK=> ?_) hi h hr
 ·rw[if_pos (by simp[Region.wanted,m])]
  unfold Oper.wp;rw[aO,hrun]
  refine Calls.mono hc λ x w' hR=> ?_;obtain⟨c,v,rfl,o⟩:=h1 x w' hR;rw[hd]
  simp only[bX]
  exact hK.out _ _ (hS.kept c) o
 ·rw[if_pos (by simp[Region.wanted,k])]
  unfold Oper.wp;rw[a]
  simp only[Oper.upon,he,bX]
  have b:aa w (w.alloc (.cells A t)):=(aa.refl w).alloc _;exact hK.out _ _ (hS.kept b) (h2 _ _ rfl b (aD.new w A t) (Array.size_push ..))
end
theorem Ls.row{g:Nat}{ta:Option Addr}{tc:Nat}{ts:List aS}(h:Ls W g ta tc ts)(hi:i<ts.length):∃b,ta=some ⟨b,0,none⟩/\W.rangeAt b (0+i*3) (iH (ar ts i).kind (ar ts i).text (ar ts i).at').toList:=by
 obtain⟨b,hb,hr⟩:=h.tok.row hi;have e:ar ts i=ts[i]:=by unfold ar;rw[nW hi];rfl
 rw[e]
 exact⟨b,hb,hr⟩
theorem Zz(w:World)(k:Nat)(a:Nat)(t:ByteArray)(h:a<=1000000)(b:t.size<=1000000):Calls prog 91 #[.agg (iH k t a)] w λ e w'=>e= .returned (.int .i64 ((a+t.size:Nat):Int))/\aa w w':=
 (BZ w _ _ t (by omega) b).mono λ e w' h=>h
theorem B0{g:Nat}{ta:Option Addr}{tc:Nat}{ts:List aS}(h:Ls W g ta tc ts)(O:cL W)(h6:6<=W.heap.size){x:cW}{bx cd:Value}(hb:∃a n c,bx= .slice a n c)(hc:∃a n c,cd= .slice a n c)(p:PaT s ts i k t):
 Calls prog 195 #[.agg (ef g s x bx cd),.agg #[.int .i64 (i:Int),.int .i64 (k:Int)]] W (ajE t W):=by
 have D9:=qJ (g:=g) (s:=s) (x:=x) hb hc;obtain⟨p1,p2,E,G,p5,u⟩:=p;obtain⟨b,rfl,N⟩:=h.row (show i<ts.length by omega)
 obtain⟨b',uJ,L⟩:=h.row (show k-1<ts.length by omega)
 obtain rfl:b=b':=by simpa using uJ
 obtain⟨x1,x2,x3,Z⟩:=h.bw;unfold OD at u;have X:=h.len;unfold tkE at*;obtain⟨ti,K⟩:∃ti,ti=ar ts i:=⟨_,rfl⟩
 obtain⟨tk,oO⟩:∃tk,tk=ar ts (k-1):=⟨_,rfl⟩
 rw[<-K] at E u N;rw[<-oO] at E G u L;refine dK [_,_] 40 func195 rfl ntmps195 (by simp) ?_;refine gz ?_;refine zb λ w1 g1 e1 k1 b1 q1=> ?_;refine zb (t:=63) λ w2 g2 e2 V b2 q2=> ?_;refine za Z7 27 λ w3 g3 e3 J b3 q3=> ?_;have m:=(k1.trans V).trans J;have P:=(b1.kept V).kept J;have OE:=b2.kept J;have Y:=Z.kept m;have r1:w3.rangeAt b (0+i*3) (iH ti.kind ti.text ti.at').toList:=λ j v hv=>m.cell (N j v hv)
 have r2:w3.rangeAt b (0+(k-1)*3) (iH tk.kind tk.text tk.at').toList:=λ j v hv=>m.cell (L j v hv)
 clear b1 b2 Z N L;refine gz ?_;refine eJ 0 0 λ hS=> ?_;refine jG 0 hS ?_;refine eA 1 (P.cell 1 rfl) (by omega) hS ?_;refine jG 2 hS ?_;refine eA 3 (P.cell 0 rfl) (by omega) hS ?_;refine mO 4 hS ?_;refine jG 5 hS ?_;refine eA 6 (Y.cell 0 rfl) (by omega) hS ?_;refine jG 7 hS ?_;refine eA 8 (OE.cell 0 rfl) (by omega) hS ?_;refine jG 12 hS ?_;refine eA 13 (P.cell 0 rfl) (by omega) hS ?_;refine mO 14 hS ?_;refine jG 15 hS ?_;refine eA 16 (Y.cell 0 rfl) (by omega) hS ?_;refine jG 17 hS ?_;refine eA 18 (OE.cell 1 rfl) (by omega) hS ?_;have zG:b<w3.heap.size:=World.block_lt_of_cell? w3 _ (r1 0 _ rfl)
 refine Tb (s:=3) 9 i (show i<ts.length by omega) hS ?_;refine jG 10 hS ?_;refine eA 11 (r1 2 _ rfl) (by omega) hS ?_;refine yar 19 ((k-1:Nat):Int) hS ?_ ?_ ?_
 ·show(k:Int)-1=_;omega
 ·rw[IntKind.wrap_i64];omega
 refine Tb (s:=3) 20 (k-1) (show k-1<ts.length by omega) hS ?_;refine ylg 21 r2 (by omega) ⟨by kernel_rfl,by first|kernel_rfl|simp[Value.oneCell']⟩ hS ?_;have H:aa w3 w3.drew:=(aa.refl w3).drew;have zd:=H.size;have z3:=m.size;refine yco 22 29 91 _ Z7 27 hS (Zz w3.drew tk.kind tk.at' tk.text (by omega) (by omega)) (λ e R hR=> ?qa) (λ R f eg l q S hS=> ?qb)
 case' qa=>
  obtain⟨rfl,I⟩:=hR;refine⟨I,_,rfl,λ hS=> ?_⟩
  refine yss 23 (i:=ti.at') (k:=tk.at'+tk.text.size) hS E G ?_;have y:=H.trans I;have z4:=I.size;refine yco 24 29 282 _ Z7 27 hS (Fx (t:=t) u (O.kept (m.trans y)) (by have:=y.size;omega)) (λ e Q hR=> ?qa1) (λ Q f eg l q S hS=> ?qa2)
 case' qa1=>
  obtain⟨D,c,rfl,o,d,pv⟩:=hR;refine⟨d,_,rfl,λ hS=> ?_⟩
  refine eL 25 hS ?_;refine eL 26 hS ?_;refine eL 27 hS ?_;refine eL 28 hS ?_;refine ya 29 Z7 27 hS λ z f eg l q S hS=> ?_;have C:w3.heap.size<=f:=by have:=d.size;omega
  have w:=(y.trans d).trans l;have B:f<z.heap.size:=by omega
  have A:=pv.sub (IJ (g:=f) (M:=w3.heap.size) l (by omega) (by omega))
 case' qa2=>
  have r:=y.trans l;have z5:=l.size;refine yc 24 282 _ hS (Fx (t:=t) u (O.kept (m.trans r)) (by have:=r.size;omega)) ?_;rintro e z ⟨D,c,rfl,o,d,pv⟩
  refine⟨d,_,rfl,λ hS=> ?_⟩
  refine eL 25 hS ?_;refine eL 26 hS ?_;refine eL 27 hS ?_;refine eL 28 hS ?_;have C:w3.heap.size<=f:=by omega
  have w:=r.trans d;replace q:=q.kept d;have B:f<z.heap.size:=by have:=d.size;omega
  have A:=pv.sub (Ca (g:=f) (M:=w3.heap.size) (by omega) (by omega))
 case' qb=>
  have y:=H.trans l;have z4:=l.size;refine yc 22 91 _ hS (Zz R tk.kind tk.at' tk.text (by omega) (by omega)) ?_;rintro e Q ⟨rfl,d⟩
  refine⟨d,_,rfl,λ hS=> ?_⟩
  refine yss 23 (i:=ti.at') (k:=tk.at'+tk.text.size) hS E G ?_;have r:=y.trans d;have z5:=d.size;refine yc 24 282 _ hS (Fx (t:=t) u (O.kept (m.trans r)) (by have:=r.size;omega)) ?_;rintro e z ⟨D,c,rfl,o,F,pv⟩
  refine⟨F,_,rfl,λ hS=> ?_⟩
  refine eL 25 hS ?_;refine eL 26 hS ?_;refine eL 27 hS ?_;refine eL 28 hS ?_;have C:w3.heap.size<=f:=by omega
  have w:=r.trans F;replace q:=(q.kept d).kept F;have B:f<z.heap.size:=by have:=F.size;omega
  have A:=pv.sub (Ca (g:=f) (M:=w3.heap.size) (by omega) (by omega))
 all_goals
  refine yt 30 q iK o (.inr (by omega)) hS λ w8 U b8 hS=> ?_;have h8:aD w8 f D 27/\True:=⟨b8,trivial⟩
  clear b8;refine eL 31 hS ?_;refine eL 32 hS ?_;refine gB ?_;replace w:=w.but U (by omega)
  replace A:=A.sub (OG U)
  have Xe:=b3.kept w;refine gz ?_;refine zl h8.1.range o ?_;refine zz ?_;refine zt Xe iK o λ w9 T b9=> ?_;refine gz ?_;exact fE b9 o ⟨D,c,rfl,o,m.trans w |>.but T (by omega),A.sub (au λ b hb hs=>by
   unfold Xf at hs;simp only[fv,oh,bne_iff_ne] at hs;exact⟨cU (by omega),T.old b hb (by omega)⟩)⟩
def Tn(s:Bool)(N D:Nat):Int:=if aX N D=true then lY (s&&decide (0<N)) (rN N D) else 0
theorem IK{V:Array Value}{s:Bool}{N D:Nat}(h:Rt w (.agg V) s N D)(A:cL w):Calls prog 196 #[.agg V] w λ e w'=>e= .returned (.tuple #[.int .i64 (Tn s N D),.int .i64 (if aX N D=true then 0 else 1)])/\aa w w':=by
 have hr:=λ (w':World) (k:aa w w')=>lN (h.kept k) (A.kept k)
 obtain⟨I,J,z,hn,hd⟩:=h;obtain⟨O,M,L,zs,rfl,-⟩:=hn;obtain⟨q1,K,t,G,rfl,-⟩:=hd;cases z
 obtain⟨g,d⟩:∃g,g=Tn s N D:=⟨_,rfl⟩
 obtain⟨ev,b⟩:∃ev:Int,ev=if aX N D=true then 0 else 1:=⟨_,rfl⟩
 rw[<-d,<-b]
 refine ct 14 func196 rfl ntmps196 ?_;refine gx ?_;refine zb λ r g1 e1 l E q1=> ?_;refine gx ?_;refine zl E.range ⟨by kernel_rfl,by first|kernel_rfl|simp[Value.oneCell']⟩ ?_;refine zc 155 _ (hr r l) ?_;rintro e q ⟨p,a,n,c,a',u,B,rfl,x,hf⟩
 refine gx ?_;refine za #[.bool false,.slice none 0 0,.slice none 0 0] 217 λ w3 g3 P j b3 t=> ?_;refine zt (V:=#[.bool p,.slice a n c,.slice a' u B]) b3 (by exact⟨by kernel_rfl,by simp[Value.oneCell']⟩) (by exact⟨by kernel_rfl,by simp[Value.oneCell']⟩) λ f i C=> ?_;have o:=l.trans x;have m:aa w f:=(o.trans j).but i (by have:=o.size;omega)
 have F:aa q f:=j.but i (by omega)
 unfold Tn at d;by_cases hs:aX N D=true;case neg=>
  rw[if_neg hs] at d b;rw[Bool.eq_false_iff.2 hs]
  refine gx ?_;exact fa ⟨by rw[d,b],m⟩
 rw[if_pos hs] at d b;have y:=hf hs;rw[hs]
 refine gx ?_;refine zl C.range ⟨by kernel_rfl,by first|kernel_rfl|simp[Value.oneCell']⟩ ?_;refine zc 283 _ (lO (y.kept F)) ?_;rintro e H ⟨rfl,v⟩
 refine gx ?_;exact fa ⟨by rw[d,b],m.trans v⟩
end
end Go.Proofs.YtbapfnpbamnmpaaGreatDoor
