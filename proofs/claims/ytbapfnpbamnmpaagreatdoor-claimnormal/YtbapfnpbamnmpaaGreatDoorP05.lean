/- A part of the proof that the text which Print makes of a parsed text is a normal form -/
import Derived.Test.YtbapfnpbamnmpaaGreatDoorP00
import Derived.Test.YtbapfnpbamnmpaaGreatDoorP04
import Derived.Lib.JoinLaws
import Derived.Test.YtbapfnpbamnmpaaGreatDoorP02
import Derived.Deep.AppendSrc
import Derived.Test.YtbapfnpbamnmpaaGreatDoorP03
import Derived.Deep.Light
import Derived.Laws.Bits128
set_option maxHeartbeats 8000000
set_option maxRecDepth 100000
namespace Go.Proofs.YtbapfnpbamnmpaaGreatDoor
open Go Go.RowKit Go.Dig Go.Deep Go.Eng Go.Proofs.Tryz
variable{B c i k m n s x:Nat}{xs ys zs:Nat->Nat}{w w':World}{v:Value}
theorem Aa(a:∀i,i<n->zs i<B)(h:n=0∨B^(n-1)<=ak B zs n):tQ zs n:=by
 rcases h with h|h
 ·exact .inl h
 ·by_cases b:n=0
  ·exact .inl b
  ·obtain⟨k,rfl⟩:∃k,n=k+1:=⟨n-1,by omega⟩
   refine .inr ?_;simp only[Nat.add_sub_cancel] at*;intro e;have:=dJ (B:=B) (n:=k) λ i hi=>a i (by omega)
   simp only[ak,e] at h;omega
theorem Ap.made(w:World)(base c:Nat)(zs:Nat->Nat)(hb:base<=w.heap.size)(hc:c<=1000000):
 Ap (w.alloc (.cells (madeCells #[.int .u32 0] c) 191)) base (.slice (some ⟨w.heap.size,0,none⟩) 0 c) 0 zs:=
 World.ownsRow_made w _ c hb (by unfold maxLen;omega) (by simp[size_madeCells])
theorem rs(B:Nat)(zs:Nat->Nat)(n x:Nat):ak B (pG zs n λ _=>x) (n+1)=ak B zs n+x*B^n:=by
 simp only[ak]
 rw[iU (ys:=zs) λ i hi=>by simp[pG,hi]]
 simp[pG]
theorem vW(h:∀i,i<n->zs i<B)(hx:x<B):∀i,i<n+1->pG zs n (λ _=>x) i<B:=λ i _=>by
 unfold pG;split
 ·exact h i ‹_›
 ·exact hx
def ext(ys:Nat->Nat)(n:Nat):Nat->Nat:=λ i=>if i<n then ys i else 0
theorem lW(h:n<=m):ak B (ext ys n) m=ak B ys n:=uO h
structure AdI(xs ys:Nat->Nat)(i:Nat)(zs:Nat->Nat)(c:Nat):Prop where
 lt:∀k,k<i->zs k<65536
 wI:c<=1
 eq:ak 65536 zs i+c*65536^i=ak 65536 xs i+ak 65536 ys i
theorem AdI.step(h:AdI xs ys i zs c)(hx:xs i<65536)(b:ys i<65536):
 AdI xs ys (i+1) (pG zs i λ _=>(xs i+c+ys i)%65536) ((xs i+c+ys i)/65536):=by
 have hc:=h.wI;refine⟨vW h.lt (Nat.mod_lt _ (by decide)),by omega,?_⟩
 have e:=h.eq;have hm:=Nat.mod_add_div (xs i+c+ys i) 65536;rw[rs]
 simp only[ak]
 rw[Nat.pow_succ]
 generalize (xs i+c+ys i)/65536=a at*;generalize (xs i+c+ys i)%65536=l at*;generalize 65536^i=P at*;have d:(xs i+c+ys i)*P=(l+65536*a)*P:=by rw[hm]
 grind
theorem PN(w:World)(a a':Option Addr)(n e cap T:Nat)(xs ys:Nat->Nat)(hn:n<=2000)(S:e<=n)
 (R:∀i,i<n->xs i<65536)(N:∀i,i<e->ys i<65536)(Q:tQ xs n)(hx:Ws w a n xs)(O:Ws w a' e ys)(v u:Value)
 (SZ:(v= .slice a n cap/\u= .slice a' e T)∨(e<n/\v= .slice a' e T/\u= .slice a n cap)):
 Calls prog 302 #[v,u] w (eX 65536 (ak 65536 xs n+ak 65536 ys e) w):=by
 have H:=λ w=>run_make_room (P:=prog) 95 191 (.int .u32 0) 4 underlying95 fO rfl .i64 .i64 (n+1) (by omega) (by omega) w;have ec:((n+1:Nat):Int)=(n:Int)+1:=by omega
 rw[ec] at H;clear ec;have W:=Lib.hid R;clear R;have U:=Lib.hid N;clear N;have X:=Lib.hid hx;clear hx;have V:=Lib.hid O;clear O;rcases SZ with⟨rfl,rfl⟩|⟨aiT,rfl,rfl⟩
 ·have Y:decide (n<e)=false:=by simp;omega
  go_enter func302,ntmps302;go_wp2;clear H;go_loopw [5,6,22] (λ F M iv wr=>∃(k c:Nat)(zs:Nat->Nat),k<=n/\iv= .int .i64 (k:Int)/\M= .int .u32 (c:Int)/\AdI xs (ext ys e) k zs c/\Ap wr w.heap.size F k zs/\aa w wr) (λ _ _ iv _=>n-(intOf iv).toNat)
  case atStart=>exact⟨0,0,λ _=>0,eo _,rfl,rfl,⟨λ _ h=>by omega,by omega,by simp[ak]⟩,Ap.made _ _ _ _ (aU _) (by omega),(aa.refl _).alloc _⟩
  case round=>
   obtain⟨k,c,zs,hk,rfl,rfl,d,t,o⟩:=hrel;have iw:=d.wI;by_cases E:k<n
   ·obtain⟨b,off,rfl,J⟩:=(X.out.kept o) k E;have D:=W.out k E;by_cases m:k<e
    ·obtain⟨b',Z,rfl,I⟩:=(V.out.kept o) k m;have G:=U.out k m;have p:=Lib.hid (d.step D (by simp only[ext,if_pos m];exact G))
     simp only[ext,if_pos m] at p;clear d;have l:=t.alloc (Obj.cells #[Value.int IntKind.u32 (((xs k+c+ys k)%65536:Nat):Int)] 191)
     have g:=o.alloc (Obj.cells #[Value.int IntKind.u32 (((xs k+c+ys k)%65536:Nat):Int)] 191)
     have f:=jc wr ((xs k+c+ys k)%65536)
     have e1:(((xs k+c+ys k)%65536:Nat):Int)=((xs k:Int)+(c:Int)+(ys k:Int))%65536:=by omega
     rw[e1] at l g f;clear e1;go_wp2_with(at_builtin;refine aM rfl (.tmp 41) (.tmp 44) 95 rfl underlying95 w g _ k zs rfl l ⟨wr.heap.size,0,none⟩ 1 1 (λ _=>(xs k+c+ys k)%65536) rfl f (by omega) ?_;intro v' C r q)
     go_roundw
     case rel=>exact⟨k+1,(xs k+c+ys k)/65536,_,by omega,by go_num,by simp,p.out,r,q⟩
     case measure=>simp[intOf];omega
    ·have p:=Lib.hid (d.step D (by simp only[ext,if_neg m];decide))
     simp only[ext,if_neg m,Nat.add_zero] at p;clear d;have l:=t.alloc (Obj.cells #[Value.int IntKind.u32 (((xs k+c)%65536:Nat):Int)] 191)
     have g:=o.alloc (Obj.cells #[Value.int IntKind.u32 (((xs k+c)%65536:Nat):Int)] 191)
     have f:=jc wr ((xs k+c)%65536)
     have e1:(((xs k+c)%65536:Nat):Int)=((xs k:Int)+(c:Int))%65536:=by omega
     rw[e1] at l g f;clear e1;go_wp2_with(at_builtin;refine aM rfl (.tmp 41) (.tmp 44) 95 rfl underlying95 w g _ k zs rfl l ⟨wr.heap.size,0,none⟩ 1 1 (λ _=>(xs k+c)%65536) rfl f (by omega) ?_;intro v' C r q)
     go_roundw
     case rel=>exact⟨k+1,(xs k+c)/65536,_,by omega,by go_num,by simp,p.out,r,q⟩
     case measure=>simp[intOf];omega
   ·obtain rfl:n=k:=by omega
    have j:=d.eq;rw[lW S] at j;have s:=Lib.hid j;clear j;by_cases K:c=0
    ·subst K;obtain⟨A,z,rfl,y,x⟩:=t.ws;go_wp2;go_ret;have he:ak 65536 zs n=ak 65536 xs n+ak 65536 ys e:=by have:=s.out;simpa using this
     refine⟨_,rfl,⟨A,n,z,zs,rfl,y,d.lt,Aa d.lt ?_,he,x⟩,o⟩
     by_cases L:n=0
     ·exact .inl L
     ·refine .inr ?_;have:=Bo (B:=65536) (zs:=xs) (n:=n) (by omega) (by rcases Q with h|h;omega;exact h)
      omega
    ·obtain rfl:c=1:=by omega
     have l:=t.alloc (Obj.cells #[Value.int IntKind.u32 ((1:Nat):Int)] 191)
     have g:=o.alloc (Obj.cells #[Value.int IntKind.u32 ((1:Nat):Int)] 191)
     have f:=jc wr 1;go_wp2_with(at_builtin;refine aM rfl (.tmp 51) (.tmp 53) 95 rfl underlying95 w g _ n zs rfl l ⟨wr.heap.size,0,none⟩ 1 1 (λ _=>1) rfl f (by omega) ?_;intro v' C r q)
     obtain⟨A,z,rfl,y,x⟩:=r.ws;go_ret;have he:ak 65536 (pG zs n λ _=>1) (n+1)=ak 65536 xs n+ak 65536 ys e:=by rw[rs];exact s.out
     exact⟨_,rfl,⟨A,n+1,z,_,rfl,y,vW d.lt (by decide),.inr (by simp[pG]),he,x⟩,q⟩
 ·have Y:decide (e<n)=true:=by simp;omega
  go_enter func302,ntmps302;go_wp2;clear H;go_loopw [5,6,22] (λ F M iv wr=>∃(k c:Nat)(zs:Nat->Nat),k<=n/\iv= .int .i64 (k:Int)/\M= .int .u32 (c:Int)/\AdI xs (ext ys e) k zs c/\Ap wr w.heap.size F k zs/\aa w wr) (λ _ _ iv _=>n-(intOf iv).toNat)
  case atStart=>exact⟨0,0,λ _=>0,eo _,rfl,rfl,⟨λ _ h=>by omega,by omega,by simp[ak]⟩,Ap.made _ _ _ _ (aU _) (by omega),(aa.refl _).alloc _⟩
  case round=>
   obtain⟨k,c,zs,hk,rfl,rfl,d,t,o⟩:=hrel;have iw:=d.wI;by_cases E:k<n
   ·obtain⟨b,off,rfl,J⟩:=(X.out.kept o) k E;have D:=W.out k E;by_cases m:k<e
    ·obtain⟨b',Z,rfl,I⟩:=(V.out.kept o) k m;have G:=U.out k m;have p:=Lib.hid (d.step D (by simp only[ext,if_pos m];exact G))
     simp only[ext,if_pos m] at p;clear d;have l:=t.alloc (Obj.cells #[Value.int IntKind.u32 (((xs k+c+ys k)%65536:Nat):Int)] 191)
     have g:=o.alloc (Obj.cells #[Value.int IntKind.u32 (((xs k+c+ys k)%65536:Nat):Int)] 191)
     have f:=jc wr ((xs k+c+ys k)%65536)
     have e1:(((xs k+c+ys k)%65536:Nat):Int)=((xs k:Int)+(c:Int)+(ys k:Int))%65536:=by omega
     rw[e1] at l g f;clear e1;go_wp2_with(at_builtin;refine aM rfl (.tmp 41) (.tmp 44) 95 rfl underlying95 w g _ k zs rfl l ⟨wr.heap.size,0,none⟩ 1 1 (λ _=>(xs k+c+ys k)%65536) rfl f (by omega) ?_;intro v' C r q)
     go_roundw
     case rel=>exact⟨k+1,(xs k+c+ys k)/65536,_,by omega,by go_num,by simp,p.out,r,q⟩
     case measure=>simp[intOf];omega
    ·have p:=Lib.hid (d.step D (by simp only[ext,if_neg m];decide))
     simp only[ext,if_neg m,Nat.add_zero] at p;clear d;have l:=t.alloc (Obj.cells #[Value.int IntKind.u32 (((xs k+c)%65536:Nat):Int)] 191)
     have g:=o.alloc (Obj.cells #[Value.int IntKind.u32 (((xs k+c)%65536:Nat):Int)] 191)
     have f:=jc wr ((xs k+c)%65536)
     have e1:(((xs k+c)%65536:Nat):Int)=((xs k:Int)+(c:Int))%65536:=by omega
     rw[e1] at l g f;clear e1;go_wp2_with(at_builtin;refine aM rfl (.tmp 41) (.tmp 44) 95 rfl underlying95 w g _ k zs rfl l ⟨wr.heap.size,0,none⟩ 1 1 (λ _=>(xs k+c)%65536) rfl f (by omega) ?_;intro v' C r q)
     go_roundw
     case rel=>exact⟨k+1,(xs k+c)/65536,_,by omega,by go_num,by simp,p.out,r,q⟩
     case measure=>simp[intOf];omega
   ·obtain rfl:n=k:=by omega
    have j:=d.eq;rw[lW S] at j;have s:=Lib.hid j;clear j;by_cases K:c=0
    ·subst K;obtain⟨A,z,rfl,y,x⟩:=t.ws;go_wp2;go_ret;have he:ak 65536 zs n=ak 65536 xs n+ak 65536 ys e:=by have:=s.out;simpa using this
     refine⟨_,rfl,⟨A,n,z,zs,rfl,y,d.lt,Aa d.lt ?_,he,x⟩,o⟩
     by_cases L:n=0
     ·exact .inl L
     ·refine .inr ?_;have:=Bo (B:=65536) (zs:=xs) (n:=n) (by omega) (by rcases Q with h|h;omega;exact h)
      omega
    ·obtain rfl:c=1:=by omega
     have l:=t.alloc (Obj.cells #[Value.int IntKind.u32 ((1:Nat):Int)] 191)
     have g:=o.alloc (Obj.cells #[Value.int IntKind.u32 ((1:Nat):Int)] 191)
     have f:=jc wr 1;go_wp2_with(at_builtin;refine aM rfl (.tmp 51) (.tmp 53) 95 rfl underlying95 w g _ n zs rfl l ⟨wr.heap.size,0,none⟩ 1 1 (λ _=>1) rfl f (by omega) ?_;intro v' C r q)
     obtain⟨A,z,rfl,y,x⟩:=r.ws;go_ret;have he:ak 65536 (pG zs n λ _=>1) (n+1)=ak 65536 xs n+ak 65536 ys e:=by rw[rs];exact s.out
     exact⟨_,rfl,⟨A,n+1,z,_,rfl,y,vW d.lt (by decide),.inr (by simp[pG]),he,x⟩,q⟩
theorem Nl{u:Value}(hv:Nt 65536 w v m)(f:Nt 65536 w u k)(hm:m<eV)(g:k<eV):
 Calls prog 302 #[v,u] w (eX 65536 (m+k) w):=by
 obtain⟨a,n,cap,xs,rfl,hc,hd,hn,rfl,hw⟩:=hv;obtain⟨a',b,e,ys,rfl,l,d,c,rfl,hw'⟩:=f;have j:=cV (.inl rfl) hn hm;have i:=cV (.inl rfl) c g;by_cases h:n<b
 ·rw[Nat.add_comm]
  exact PN w a' a b n e cap ys xs (by omega) (by omega) d hd c hw' hw _ _ (.inr ⟨h,rfl,rfl⟩)
 ·exact PN w a a' n b cap e xs ys (by omega) (by omega) hd d hn hw hw' _ _ (.inl ⟨rfl,rfl⟩)
structure SuI(xs ys:Nat->Nat)(i:Nat)(zs:Nat->Nat)(o:Nat):Prop where
 lt:∀k,k<i->zs k<65536
 ole:o<=1
 eq:ak 65536 zs i+ak 65536 ys i=ak 65536 xs i+o*65536^i
theorem SuI.step{o z o':Nat}(h:SuI xs ys i zs o)(a:z<65536)(ho:o'<=1)(he:z+(o+ys i)=xs i+65536*o'):
 SuI xs ys (i+1) (pG zs i λ _=>z) o':=by
 refine⟨vW h.lt a,ho,?_⟩
 have e:=h.eq;rw[rs]
 simp only[ak]
 rw[Nat.pow_succ]
 generalize 65536^i=P at*;have b:(z+(o+ys i))*P=(xs i+65536*o')*P:=by rw[he]
 grind
theorem SuI.done{n' o:Nat}(h:SuI xs (ext ys n') n zs o)(_hx:∀i,i<n->xs i<65536)(hn:n'<=n)(a:ak 65536 ys n'<=ak 65536 xs n):ak 65536 zs n=ak 65536 xs n-ak 65536 ys n':=by
 have e:=h.eq;rw[lW hn] at e;have h1:=dJ h.lt;have ho:o=0:=by
  by_cases b:o=0
  ·exact b
  ·have:o=1:=by have:=h.ole;omega
   subst this;omega
 subst ho;omega
theorem YF(w:World)(a a':Option Addr)(n g cap M:Nat)(xs ys:Nat->Nat)(hn:n<=2000)(H:g<=n)
 (A:∀i,i<n->xs i<65536)(x:∀i,i<g->ys i<65536)(hx:Ws w a n xs)(y:Ws w a' g ys)(v:ak 65536 ys g<=ak 65536 xs n):
 Calls prog 369 #[.slice a n cap,.slice a' g M] w (eX 65536 (ak 65536 xs n-ak 65536 ys g) w):=by
 have I:=λ w=>run_make_room (P:=prog) 95 191 (.int .u32 0) 4 underlying95 fO rfl .i64 .i64 n (by omega) (by omega) w;have F:=Lib.hid A;clear A;have N:=Lib.hid x;clear x;have Q:=Lib.hid hx;clear hx;have O:=Lib.hid y;clear y;go_enter func369,ntmps369;go_wp2;clear I;go_loopw [5,6,15] (λ G L iv wr=>∃(k o:Nat)(zs:Nat->Nat),k<=n/\iv= .int .i64 (k:Int)/\L= .int .u32 (o:Int)/\SuI xs (ext ys g) k zs o/\Ap wr w.heap.size G k zs/\aa w wr) (λ _ _ iv _=>n-(intOf iv).toNat)
 case atStart=>exact⟨0,0,λ _=>0,eo _,rfl,rfl,⟨λ _ h=>by omega,by omega,by simp[ak]⟩,Ap.made _ _ _ _ (aU _) (by omega),(aa.refl _).alloc _⟩
 case round=>
  obtain⟨k,o,zs,U,rfl,rfl,p,q,l⟩:=hrel;have V:=p.ole;by_cases D:k<n
  ·obtain⟨b,off,rfl,K⟩:=(Q.out.kept l) k D;have T:=F.out k D;by_cases s:k<g
   ·obtain⟨b',R,rfl,J⟩:=(O.out.kept l) k s;have S:=N.out k s;have r:=Lib.hid (λ z o' (u:z<65536) (ho:o'<=1) (he:z+(o+ys k)=xs k+65536*o')=>p.step (z:=z) (o':=o') u ho (by simp only[ext,if_pos s];exact he))
    clear p;by_cases hb:xs k<o+ys k
    ·have f:=q.alloc (Obj.cells #[Value.int IntKind.u32 ((xs k+65536-(o+ys k):Nat):Int)] 191)
     have d:=l.alloc (Obj.cells #[Value.int IntKind.u32 ((xs k+65536-(o+ys k):Nat):Int)] 191)
     have c:=jc wr (xs k+65536-(o+ys k))
     have e1:((xs k+65536-(o+ys k):Nat):Int)=(xs k:Int)+65536-((o:Int)+(ys k:Int)):=by omega
     rw[e1] at f d c;clear e1;go_wp2_with(at_builtin;refine aM rfl (.tmp 38) (.tmp 42) 95 rfl underlying95 w d _ k zs rfl f ⟨wr.heap.size,0,none⟩ 1 1 (λ _=>xs k+65536-(o+ys k)) rfl c (by omega) ?_;intro v' t m j)
     go_roundw
     case rel=>exact⟨k+1,1,_,by omega,by go_num,rfl,r.out (xs k+65536-(o+ys k)) 1 (by omega) (by omega) (by omega),m,j⟩
     case measure=>simp[intOf];omega
    ·have f:=q.alloc (Obj.cells #[Value.int IntKind.u32 ((xs k-(o+ys k):Nat):Int)] 191)
     have d:=l.alloc (Obj.cells #[Value.int IntKind.u32 ((xs k-(o+ys k):Nat):Int)] 191)
     have c:=jc wr (xs k-(o+ys k))
     have e1:((xs k-(o+ys k):Nat):Int)=(xs k:Int)-((o:Int)+(ys k:Int)):=by omega
     rw[e1] at f d c;clear e1;go_wp2_with(at_builtin;refine aM rfl (.tmp 38) (.tmp 42) 95 rfl underlying95 w d _ k zs rfl f ⟨wr.heap.size,0,none⟩ 1 1 (λ _=>xs k-(o+ys k)) rfl c (by omega) ?_;intro v' t m j)
     go_roundw
     case rel=>exact⟨k+1,0,_,by omega,by go_num,rfl,r.out (xs k-(o+ys k)) 0 (by omega) (by omega) (by omega),m,j⟩
     case measure=>simp[intOf];omega
   ·have r:=Lib.hid (λ z o' (u:z<65536) (ho:o'<=1) (he:z+o=xs k+65536*o')=>p.step (z:=z) (o':=o') u ho (by simp only[ext,if_neg s];omega))
    clear p;by_cases hb:xs k<o
    ·have f:=q.alloc (Obj.cells #[Value.int IntKind.u32 ((xs k+65536-(o):Nat):Int)] 191)
     have d:=l.alloc (Obj.cells #[Value.int IntKind.u32 ((xs k+65536-(o):Nat):Int)] 191)
     have c:=jc wr (xs k+65536-(o))
     have e1:((xs k+65536-(o):Nat):Int)=(xs k:Int)+65536-(o:Int):=by omega
     rw[e1] at f d c;clear e1;go_wp2_with(at_builtin;refine aM rfl (.tmp 38) (.tmp 42) 95 rfl underlying95 w d _ k zs rfl f ⟨wr.heap.size,0,none⟩ 1 1 (λ _=>xs k+65536-(o)) rfl c (by omega) ?_;intro v' t m j)
     go_roundw
     case rel=>exact⟨k+1,1,_,by omega,by go_num,rfl,r.out (xs k+65536-(o)) 1 (by omega) (by omega) (by omega),m,j⟩
     case measure=>simp[intOf];omega
    ·have f:=q.alloc (Obj.cells #[Value.int IntKind.u32 ((xs k-(o):Nat):Int)] 191)
     have d:=l.alloc (Obj.cells #[Value.int IntKind.u32 ((xs k-(o):Nat):Int)] 191)
     have c:=jc wr (xs k-(o))
     have e1:((xs k-(o):Nat):Int)=(xs k:Int)-(o:Int):=by omega
     rw[e1] at f d c;clear e1;go_wp2_with(at_builtin;refine aM rfl (.tmp 38) (.tmp 42) 95 rfl underlying95 w d _ k zs rfl f ⟨wr.heap.size,0,none⟩ 1 1 (λ _=>xs k-(o)) rfl c (by omega) ?_;intro v' t m j)
     go_roundw
     case rel=>exact⟨k+1,0,_,by omega,by go_num,rfl,r.out (xs k-(o)) 0 (by omega) (by omega) (by omega),m,j⟩
     case measure=>simp[intOf];omega
  ·obtain rfl:n=k:=by omega
   obtain⟨X,W,rfl,E,C⟩:=q.ws;have hd:=p.done F.out H v;go_wp2_with(go_at_call 304;refine(iE _ _ _ _ zs (by omega) E C).mono ?_;rintro e w' ⟨rfl,rfl⟩)
   go_ret;have:=iX (B:=65536) E p.lt C;rw[hd] at this;exact⟨_,rfl,this,l⟩
theorem CZ{u:Value}(hv:Nt 65536 w v m)(d:Nt 65536 w u k)(hm:m<eV)(c:k<=m):
 Calls prog 369 #[v,u] w (eX 65536 (m-k) w):=by
 obtain⟨a,n,cap,xs,rfl,hc,hd,hn,rfl,hw⟩:=hv;obtain⟨a',b,i,ys,rfl,l,g,f,rfl,hw'⟩:=d;have j:=cV (.inl rfl) hn hm;have e:b<=n:=by
  by_cases h:n<b
  ·have:=lH (B:=65536) (by decide) hd f h;omega
  ·omega
 exact YF w a a' n b cap i xs ys (by omega) e hd g hw hw' c
theorem Qs(w:World)(tx:TypeId)(b:prog.underlying tx=some (.slice 191))(a:Option Addr)(c:Nat):Src prog 1 tx (.slice a 0 c) 0 [] w:=by
 cases a with
 |none=>exact Src.ofNil w b c
 |some a=>exact Src.ofSlice w b a 0 c [] (by simp) (λ j u h=>by simp at h) (λ _ h=>by cases h)
theorem uH{ops:Array Oper}{rest:List Oper}{o:Oper}{act:Act}{Q:Exit->Act->World->Prop}(k:o.guard=none)(s x:Operand)(t:TypeId)
 (ho:o.op= .call {callee:=.builtin .append,args:=#[s,x],argTypes:=#[t,t]})(e:prog.underlying t=some (.slice 191))
 (b off n cap c:Nat)(a:Option Addr)(hs:act.eval s= .slice (some ⟨b,off,none⟩) n cap)(hn:n<=cap)(hx:act.eval x= .slice a 0 c)
 (h:wpList prog ops Q rest (act.put o.dst (.slice (some ⟨b,off,none⟩) n cap)) w):wpList prog ops Q (o::rest) act w:=by
 obtain⟨g,hi,m,i,l⟩:=zf;have f:=Qs w t e a c;rw[<-i] at f;have d:=run_append_room_src (P:=prog) w t t o.type 191 g e hi b off n cap (.slice a 0 c) 0 [] f (by omega) (λ j h=>by simp at h) (λ j h=>by simp at h)
 refine wpList_plain k λ K hK=> ?_;unfold Oper.wp;simp[execOp,ho,resolve,invoke,builtin,hs,hx,d,Result.andThen]
 exact hK _ _ h
theorem eW{ops:Array Oper}{rest:List Oper}{o:Oper}{act:Act}{Q:Exit->Act->World->Prop}(l:o.guard=none)(s x:Operand)(t:TypeId)
 (ho:o.op= .call {callee:=.builtin .append,args:=#[s,x],argTypes:=#[t,t]})(j:prog.underlying t=some (.slice 191))
 (w0:World)(k:aa w0 w)(b n cap:Nat)(zs:Nat->Nat)(hs:act.eval s= .slice (some ⟨b,0,none⟩) n cap)(d:Ap w w0.heap.size (.slice (some ⟨b,0,none⟩) n cap) n zs)
 (a:Option Addr)(m c:Nat)(xs:Nat->Nat)(hx:act.eval x= .slice a m c)(g:Ws w a m xs)(hb:n+m<=1099511627776)
 (h:∀v' w',Ap w' w0.heap.size v' (n+m) (pG zs n xs)->aa w0 w'->wpList prog ops Q rest (act.put o.dst v') w'):wpList prog ops Q (o::rest) act w:=by
 rcases g.open with rfl|⟨_,b',p,rfl,_⟩
 ·have q:n<=cap:=by
   obtain⟨a',r,e,f,_⟩:=d.ws;cases e
   exact f
  refine uH l s x t ho j b 0 n cap c a hs q hx (h _ w ?_ k)
  exact d.congr λ i hi=>by simp[pG];omega
 ·exact aM l s x t ho j w0 k _ n zs hs d ⟨b',p,none⟩ m c xs hx g hb h
def lG(w:World)(b L:Nat)(zs:Nat->Nat):Prop:=
 ∃c:Array Value,w.heap[b]? =some (.cells c 191 (0,0))/\L<=c.size/\∀i,i<L->c[i]? =some (.int .u32 (zs i:Nat))
section
variable{w:World}{b L:Nat}{zs:Nat->Nat}
theorem lG.cell(h:lG w b L zs)(hi:i<L):w.cell? ⟨b,i,none⟩=some (.int .u32 (zs i:Nat)):=by
 obtain⟨c,hb,_,hc⟩:=h;simp[World.cell?,hb,hc i hi]
theorem lG.frozen(h:lG w b L zs)(i:Nat):w.frozen? ⟨b,i,none⟩=false:=by
 obtain⟨c,hb,_,_⟩:=h;simp[World.frozen?,hb]
theorem lG.lt(h:lG w b L zs):b<w.heap.size:=by
 obtain⟨c,hb,_,_⟩:=h;exact(Array.getElem?_eq_some_iff.1 hb).1
theorem lG.of_block(h:lG w b L zs)(e:w'.heap[b]? =w.heap[b]?):lG w' b L zs:=by
 obtain⟨c,hb,hn,hc⟩:=h;exact⟨c,e.trans hb,hn,hc⟩
theorem lG.kept(h:lG w b L zs)(k:aa w w'):lG w' b L zs:=h.of_block (k.old b h.lt)
theorem lG.setOther(h:lG w b L zs){a:Addr}(ha:b≠a.block)(v:Value):lG (w.setCell a v) b L zs:=h.of_block (blk_setCell_other _ _ _ _ ha)
theorem lG.set(h:lG w b L zs)(p x:Nat):lG (w.setCell ⟨b,p,none⟩ (.int .u32 (x:Nat))) b L (ep zs p x):=by
 obtain⟨c,hb,hn,hc⟩:=h;refine⟨c.setIfInBounds p (.int .u32 (x:Nat)),?_,by simpa using hn,λ j a=> ?_⟩
 ·simp[World.setCell,Array.getElem?_modify,hb]
 ·rw[Array.getElem?_setIfInBounds]
  by_cases e:j=p
  ·subst e;simp[ep,show j<c.size by omega]
  ·rw[if_neg (λ h=>e h.symm)]
   simp only[ep,if_neg e]
   exact hc j a
theorem lG.ws(h:lG w b L zs)(a:k<=L):Ws w (some ⟨b,0,none⟩) k zs:=λ i hi=>⟨b,0,rfl,by rw[lp];exact h.cell (by omega)⟩
end
theorem Ap.cut{base cap:Nat}{a:Option Addr}(h:Ap w base (.slice a n cap) n zs)(j:k<=n):Ap w base (.slice a k cap) k zs:=by
 obtain⟨i,⟨e,rfl⟩|⟨g,l,b,e,hb,d,hn,hm,f,c⟩⟩:=h
 ·cases e
  obtain rfl:k=0:=by omega
  exact Ap.nil _ _ _
 ·cases e
  refine⟨by simp,.inr ⟨g,cap,b,rfl,hb,d,by omega,hm,f,?_⟩⟩
  rw[show b.toList.take (k*1)=(b.toList.take (n*1)).take (k*1) by rw[List.take_take];congr 1;omega,c,Nat.mul_one,<-List.map_take,List.take_range]
  congr 2;omega
theorem Ap.rowP{base:Nat}(h:Ap w base v n zs)(p:0<n):∃b cap,v= .slice (some ⟨b,0,none⟩) n cap/\n<=cap/\base<=b/\lG w b n zs:=by
 have hw:=h.ws;obtain⟨l,⟨e,rfl⟩|⟨g,j,c,rfl,hb,d,hn,hm,m,k⟩⟩:=h
 ·omega
 ·obtain⟨a,cap,e,o,f⟩:=hw;cases e
  refine⟨g,j,rfl,hn,hb,c,d,by omega,λ i hi=> ?_⟩
  obtain⟨b,off,e,hc⟩:=f i hi;cases e
  simp only[World.cell?,d,lp] at hc;simpa using hc
def Bj(m:Nat)(w:World)(e:Ending)(w':World):Prop:=
 ∃v n zs,e= .returned v/\Ap w' w.heap.size v n zs/\(∀i,i<n->zs i<65536)/\tQ zs n/\ak 65536 zs n=m/\aa w w'
theorem Bj.nt{e:Ending}(h:Bj m w e w'):eX 65536 m w e w':=by
 obtain⟨v,n,zs,rfl,f,c,hn,hv,d⟩:=h;obtain⟨a,cap,rfl,hc,b⟩:=f.ws;exact⟨_,rfl,⟨a,n,cap,zs,rfl,hc,c,hn,hv,b⟩,d⟩
structure SlI(xs:Nat->Nat)(s i:Nat)(zs:Nat->Nat)(c:Nat):Prop where
 lt:∀k,k<i->zs k<65536
 wI:c<2^s
 eq:ak 65536 zs i+c*65536^i=ak 65536 xs i*2^s
theorem agy(hx:x<65536)(hc:c<2^s):x*2^s+c<65536*2^s:=by
 have:(x+1)*2^s<=65536*2^s:=wC _ hx;rw[Nat.add_mul] at this;omega
theorem SlI.step(h:SlI xs s i zs c)(hx:xs i<65536):
 SlI xs s (i+1) (pG zs i λ _=>(xs i*2^s+c)%65536) ((xs i*2^s+c)/65536):=by
 refine⟨vW h.lt (Nat.mod_lt _ (by decide)),Nat.div_lt_of_lt_mul (agy hx h.wI),?_⟩
 have e:=h.eq;have hm:=Nat.mod_add_div (xs i*2^s+c) 65536;rw[rs]
 simp only[ak]
 rw[Nat.pow_succ]
 generalize (xs i*2^s+c)/65536=a at*;generalize (xs i*2^s+c)%65536=l at*;generalize 65536^i=P at*;generalize 2^s=S at*;have b:(xs i*S+c)*P=(l+65536*a)*P:=by rw[hm]
 grind
theorem Ny(hx:x<65536)(hs:s<=15)(hc:c<2^s):bits BinOp.or IntKind.u32 ((x:Int)*2^s%4294967296) (c:Int)=((x*2^s+c:Nat):Int)/\x*2^s+c<4294967296:=by
 have h1:2^s<=2^15:=Nat.pow_le_pow_right (by decide) hs;have h2:x*2^s<=65535*2^15:=Nat.mul_le_mul (by omega) h1;have h3:(65535*2^15:Nat)=2147450880:=by decide
 have a:(2^15:Nat)=32768:=by decide
 have h:=u32_or_nat (x*2^s) c (by omega) (by omega)
 rw[nat_join s _ _ (Nat.mul_mod_left ..) hc] at h;refine⟨?_,by omega⟩
 rw[<-h,show(x:Int)*2^s%4294967296=((x*2^s:Nat):Int) by rw[show(x:Int)*2^s=((x*2^s:Nat):Int) by simp];exact Gl (by omega)]
theorem RP(w:World)(a:Option Addr)(n cap s:Nat)(xs:Nat->Nat)(hn:n<=2000)(T:0<n)(hs:s<=15)(Q:0<s)
 (u:∀i,i<n->xs i<65536)(hx:Ws w a n xs):
 Calls prog 365 #[.slice a n cap,.int .i64 (s:Int)] w (Bj (ak 65536 xs n*2^s) w):=by
 have x:=λ w=>run_make_room (P:=prog) 95 191 (.int .u32 0) 4 underlying95 fO rfl .i64 .i64 (n+1) (by omega) (by omega) w;have ec:((n+1:Nat):Int)=(n:Int)+1:=by omega
 rw[ec] at x;clear ec;have G:(s:Int)/16=0:=by omega
 have F:(s:Int)%16=(s:Int):=by omega
 have M:=Lib.hid u;clear u;have N:=Lib.hid hx;clear hx;have q1:((n:Int)==0)=false:=by simp;omega
 have O:decide (s=0)=false:=by simp;omega
 go_enter func365,ntmps365;go_wp2;clear x;go_loopw [5,6,31] (λ B L iv wr=>∃(k c:Nat)(zs:Nat->Nat),k<=n/\iv= .int .i64 (k:Int)/\L= .int .u32 (c:Int)/\SlI xs s k zs c/\Ap wr w.heap.size B k zs/\aa w wr) (λ _ _ iv _=>n-(intOf iv).toNat)
 case atStart=>exact⟨0,0,λ _=>0,eo _,rfl,rfl,⟨λ _ h=>by omega,Nat.pow_pos (by decide),by simp[ak]⟩,Ap.made _ _ _ _ (aU _) (by omega),(aa.refl _).alloc _⟩
 case round=>
  obtain⟨k,c,zs,S,rfl,rfl,g,z,r⟩:=hrel;have d:=g.wI;have K:c<32768:=jf d (show 2^s<=2^15 from Nat.pow_le_pow_right (by decide) hs)
  by_cases y:k<n
  ·obtain⟨b,off,rfl,I⟩:=(N.out.kept r) k y;have v:=M.out k y;obtain⟨R,C⟩:=Ny v hs d;have E:=Lib.hid (g.step v)
   clear g d;generalize xs k*2^s+c=q at*;have o:=z.alloc (Obj.cells #[Value.int IntKind.u32 ((q%65536:Nat):Int)] 191)
   have l:=r.alloc (Obj.cells #[Value.int IntKind.u32 ((q%65536:Nat):Int)] 191)
   have j:=jc wr (q%65536)
   have e1:((q%65536:Nat):Int)=(q:Int)%65536:=by omega
   rw[e1] at o l j;clear e1;go_wp2_with(at_builtin;refine aM rfl (.tmp 42) (.tmp 45) 95 rfl underlying95 w l _ k zs rfl o ⟨wr.heap.size,0,none⟩ 1 1 (λ _=>q%65536) rfl j (by omega) ?_;intro v' A m p)
   go_roundw
   case rel=>exact⟨k+1,q/65536,_,by omega,by go_num,by simp,E.out,m,p⟩
   case measure=>simp[intOf];omega
  ·obtain rfl:n=k:=by omega
   have f:=g.eq;have t:=Lib.hid f;clear f;have o:=z.alloc (Obj.cells #[Value.int IntKind.u32 (c:Int)] 191)
   have l:=r.alloc (Obj.cells #[Value.int IntKind.u32 (c:Int)] 191)
   have j:=jc wr c;go_wp2_with(at_builtin;refine aM rfl (.tmp 50) (.tmp 52) 95 rfl underlying95 w l _ n zs rfl o ⟨wr.heap.size,0,none⟩ 1 1 (λ _=>c) rfl j (by omega) ?_;intro v' A m p)
   obtain⟨V,U,rfl,J,D⟩:=m.ws;refine(iE _ _ _ _ _ (by omega) J D).mono ?_;rintro e w' ⟨rfl,rfl⟩
   go_wp2;go_ret;have H:=vW g.lt (show c<65536 by omega)
   refine⟨_,_,_,rfl,m.cut (gN _ _),λ i hi=>H i (jf hi (gN _ _)),np _ _,?_,p⟩
   rw[pO,rs,t.out]
theorem RQ(w:World)(a:Option Addr)(n cap s:Nat)(xs:Nat->Nat)(hn:n<=2000)(p:n=0∨s=0)
 (l:∀i,i<n->xs i<65536)(k:tQ xs n)(hx:Ws w a n xs):
 Calls prog 365 #[.slice a n cap,.int .i64 (s:Int)] w (Bj (ak 65536 xs n) w):=by
 have g:Ap (w.alloc (.cells #[] 191)) w.heap.size (.slice (some ⟨w.heap.size,0,none⟩) 0 0) 0 (λ _=>0):=World.ownsRow_made w _ 0 (aU _) (by unfold maxLen;omega) (by simp)
 have e:aa w (w.alloc (.cells #[] 191)):=(aa.refl _).alloc _;have b:=hx.kept e;have c:∀v' w',Ap w' w.heap.size v' (0+n) (pG (λ _=>0) 0 xs)->aa w w'->Bj (ak 65536 xs n) w (.returned v') w':=λ v' w' h o=>by
  rw[lp] at h;exact⟨v',n,xs,rfl,h.congr λ i hi=>by simp[pG],l,k,rfl,o⟩
 by_cases m:n=0
 ·subst m;go_enter func365,ntmps365;go_wp2_with(at_builtin;refine eW rfl (.tmp 17) (.tmp 18) 95 rfl underlying95 w e _ 0 0 (λ _=>0) rfl g a 0 cap xs rfl b (by omega) ?_;intro v' j f d)
  go_ret;exact c _ _ f d
 ·obtain rfl:s=0:=by omega
  have q1:((n:Int)==0)=false:=by simp;omega
  go_enter func365,ntmps365;go_wp2_with(at_builtin;refine eW rfl (.tmp 17) (.tmp 18) 95 rfl underlying95 w e _ 0 0 (λ _=>0) rfl g a n cap xs rfl b (by omega) ?_;intro v' j f d)
  go_ret;exact c _ _ f d
theorem JK(hv:Nt 65536 w v m)(hm:m<eV)(hs:s<=15):
 Calls prog 365 #[v,.int .i64 (s:Int)] w (Bj (m*2^s) w):=by
 obtain⟨a,n,cap,xs,rfl,hc,hd,hn,rfl,hw⟩:=hv;have b:=cV (.inl rfl) hn hm;by_cases h:n=0∨s=0
 ·have:=RQ w a n cap s xs (by omega) h hd hn hw;have e:ak 65536 xs n*2^s=ak 65536 xs n:=by rcases h with rfl|rfl<;>simp[ak]
  rw[e];exact this
 ·exact RP w a n cap s xs (by omega) (by omega) hs (by omega) hd hw
theorem M7(hv:Nt 65536 w v m)(hm:m<eV)(hs:s<=15):
 Calls prog 365 #[v,.int .i64 (s:Int)] w (eX 65536 (m*2^s) w):=(JK hv hm hs).mono λ _ _ h=>h.nt
end Go.Proofs.YtbapfnpbamnmpaaGreatDoor
namespace Go.Dig
open Go Go.RowKit Go.Deep Go.Eng
theorem Qx{r:Nat}(h:r<=16):2^r*2^(16-r)=65536:=by rw[<-Nat.pow_add,Nat.add_sub_cancel' h]
def pP(x y r:Nat):Nat:=(x+y*65536)/2^r%65536
theorem WQ{x y r:Nat}(hx:x<65536)(hr:r<16):pP x y r*2^r+x%2^r=x+y%2^r*65536:=by
 unfold pP;have hp:=Qx (Nat.le_of_lt hr)
 have b:0<2^r:=Nat.pow_pos (by decide)
 have d:0<2^(16-r):=Nat.pow_pos (by decide)
 generalize 2^r=R at*;generalize 2^(16-r)=S at*;have c:=Nat.mod_add_div x R;have i:x/R<S:=Nat.div_lt_of_lt_mul (by rw[hp];exact hx)
 have e1:(x+y*65536)/R=x/R+y*S:=by
  rw[show y*65536=(y*S)*R by rw[<-hp];grind,Nat.add_mul_div_right _ _ b]
 rw[e1]
 have a:=Nat.mod_add_div y R;have f:(x/R+y*S)%65536=x/R+y%R*S:=by
  have e:x/R+y%R*S<65536:=by
   have:y%R<R:=Nat.mod_lt _ b;have:(y%R+1)*S<=R*S:=wC _ (by omega)
   rw[Nat.add_mul] at this;omega
  have h2:x/R+y*S=x/R+y%R*S+(y/R)*65536:=by
   have h3:y*S=(y%R+R*(y/R))*S:=by rw[a]
   rw[h3,<-hp];grind
  rw[h2,Nat.add_mul_mod_self_right,Nat.mod_eq_of_lt e]
 rw[f]
 generalize y%R=yr at*;generalize x/R=h at*;generalize x%R=g at*;subst c;rw[<-hp]
 grind
theorem Ib{zs os:Nat->Nat}{r:Nat}(hr:r<16):∀{k:Nat},(∀i,i<k->zs i<65536)->(∀i,i<k->os i=pP (zs i) (zs (i+1)) r)->
 ak 65536 os k*2^r+zs 0%2^r=ak 65536 zs k+zs k%2^r*65536^k
 |0,_,_=>by simp[ak]
 |k+1,d,ho=>by
  have ih:=Ib hr (k:=k) (λ i hi=>d i (by omega)) (λ i hi=>ho i (by omega))
  have e:=WQ (y:=zs (k+1)) (d k (by omega)) hr;rw[<-ho k (by omega)] at e;simp only[ak]
  rw[Nat.pow_succ]
  generalize (65536:Nat)^k=P at*;generalize zs 0%2^r=a at*;generalize zs k%2^r=b at*;generalize zs (k+1)%2^r=c at*;generalize 2^r=R at*;have:os k*R*P+b*P=zs k*P+c*65536*P:=by rw[<-Nat.add_mul,e,Nat.add_mul]
  grind
theorem SW{zs os:Nat->Nat}{r m:Nat}(hr:r<16)(b:∀i,i<m->zs i<65536)(d:zs m=0)(ho:∀i,i<m->os i=pP (zs i) (zs (i+1)) r):
 ak 65536 os m=ak 65536 zs m/2^r:=by
 have h:=Ib hr b ho;rw[d] at h;have a:0<2^r:=Nat.pow_pos (by decide)
 have c:zs 0%2^r<2^r:=Nat.mod_lt _ a;simp only[Nat.zero_mod,Nat.zero_mul,Nat.add_zero] at h;rw[<-h,Nat.add_comm,Nat.add_mul_div_right _ _ a,Nat.div_eq_of_lt c,lp]
end Go.Dig
namespace Go.Proofs.YtbapfnpbamnmpaaGreatDoor
open Go Go.RowKit Go.Dig Go.Deep Go.Eng Go.Proofs.Tryz
variable{g:Nat}
theorem EK{x y r:Nat}:(((x+y*65536:Nat):Int)/2^r%65536)=(pP x y r:Nat):=by
 unfold pP;simp
theorem YG(x y r:Nat):pP x y r<65536:=Nat.mod_lt _ (by decide)
theorem RS(w:World)(b off n cap s:Nat)(xs:Nat->Nat)(hn:n<=2000)(V:0<n)(hs:s<=15)(U:n<=cap)
 (z:∀i,i<n->xs i<65536)(hx:∀i,i<n->w.cell? ⟨b,off+i,none⟩=some (.int .u32 (xs i:Nat))):
 Calls prog 367 #[.slice (some ⟨b,off,none⟩) n cap,.int .i64 (s:Int)] w (eX 65536 (ak 65536 xs n/2^s) w):=by
 have N:=λ w=>run_make_room (P:=prog) 95 191 (.int .u32 0) 4 underlying95 fO rfl .i64 .i64 n (by omega) (by omega) w;have M:(s:Int)/16=0:=by omega
 have L:(s:Int)%16=(s:Int):=by omega
 have u:=Lib.hid z;clear z;have F:=Lib.hid hx;clear hx;have q1:decide (n=0)=false:=by simp;omega
 have Q:decide ((s:Int)<0)=false:=by simp
 go_enter func367,ntmps367;go_wp2;clear N;go_loopw [5,26] (λ I iv wr=>∃(k:Nat)(zs:Nat->Nat),k<=n/\iv= .int .i64 (k:Int)/\(∀j,j<k->zs j=pP (ext xs n j) (ext xs n (j+1)) s)/\Ap wr w.heap.size I k zs/\aa w wr) (λ _ iv _=>n-(intOf iv).toNat)
 case atStart=>exact⟨0,λ _=>0,eo _,rfl,λ _ h=>by omega,Ap.made _ _ _ _ (aU _) (by omega),(aa.refl _).alloc _⟩
 case round=>
  obtain⟨k,zs,S,rfl,x,p,d⟩:=hrel;have t:=Lib.hid x;clear x;by_cases g:k<n
  ·have c1:=d.cell (F.out k g)
   have R:=u.out k g;have C:∀y,y=ext xs n (k+1)->∀j,j<k+1->pG zs k (λ _=>pP (xs k) y s) j=pP (ext xs n j) (ext xs n (j+1)) s:=λ y J j T=>by
    unfold pG;split
    ·exact t.out j ‹_›
    ·obtain rfl:j=k:=by omega
     rw[J];simp[ext,g]
   have G:=Lib.hid C;clear C;by_cases D:k+1<n
   ·have c2:=d.cell (F.out (k+1) D)
    have K:=u.out (k+1) D;have f:=p.alloc (Obj.cells #[Value.int IntKind.u32 ((pP (xs k) (xs (k+1)) s:Nat):Int)] 191)
    have c:=d.alloc (Obj.cells #[Value.int IntKind.u32 ((pP (xs k) (xs (k+1)) s:Nat):Int)] 191)
    have a:=jc wr (pP (xs k) (xs (k+1)) s)
    have e1:((pP (xs k) (xs (k+1)) s:Nat):Int)=((xs k:Int)+(xs (k+1):Int)*65536)/2^s%65536:=by rw[<-EK];simp
    rw[e1] at f c a;clear e1;go_wp2_with(at_builtin;refine aM rfl (.tmp 46) (.tmp 53) 95 rfl underlying95 w c _ k zs rfl f ⟨wr.heap.size,0,none⟩ 1 1 (λ _=>pP (xs k) (xs (k+1)) s) rfl a (by omega) ?_;intro v' H o l)
    go_roundw
    case rel=>exact⟨k+1,_,by omega,by go_num,G.out _ (by simp[ext];try omega),o,l⟩
    case measure=>simp[intOf];omega
   ·have f:=p.alloc (Obj.cells #[Value.int IntKind.u32 ((pP (xs k) (0) s:Nat):Int)] 191)
    have c:=d.alloc (Obj.cells #[Value.int IntKind.u32 ((pP (xs k) (0) s:Nat):Int)] 191)
    have a:=jc wr (pP (xs k) (0) s)
    have e1:((pP (xs k) (0) s:Nat):Int)=(xs k:Int)/2^s%65536:=by rw[<-EK];simp
    rw[e1] at f c a;clear e1;go_wp2_with(at_builtin;refine aM rfl (.tmp 46) (.tmp 53) 95 rfl underlying95 w c _ k zs rfl f ⟨wr.heap.size,0,none⟩ 1 1 (λ _=>pP (xs k) (0) s) rfl a (by omega) ?_;intro v' H o l)
    go_roundw
    case rel=>exact⟨k+1,_,by omega,by go_num,G.out _ (by simp[ext];try omega),o,l⟩
    case measure=>simp[intOf];omega
  ·obtain rfl:n=k:=by omega
   obtain⟨X,W,rfl,E,A⟩:=p.ws;have v:∀i,i<n->zs i<65536:=λ i hi=>by rw[t.out i hi];exact YG _ _ _
   have hv:=SW (zs:=ext xs n) (os:=zs) (r:=s) (m:=n) (by omega) (λ i hi=>by simp only[ext,if_pos hi];exact u.out i hi) (by simp[ext]) t.out;rw[lW (aU _)] at hv;have O:=Lib.hid hv;clear hv;have q:=Lib.hid v;clear v;go_wp2_with(go_at_call 304;refine(iE _ _ _ _ zs (by omega) E A).mono ?_;rintro e w' ⟨rfl,rfl⟩)
   go_ret;have:=iX (B:=65536) E q.out A;rw[O.out] at this;exact⟨_,rfl,this,d⟩
theorem RT(w:World)(a:Option Addr)(cap s:Nat)(hs:s<=15):
 Calls prog 367 #[.slice a 0 cap,.int .i64 (s:Int)] w (eX 65536 0 w):=by
 have b:(s:Int)/16=0:=by omega
 have c:decide ((s:Int)<0)=false:=by simp
 go_enter func367,ntmps367;go_wp2;go_ret;exact⟨_,rfl,ma _ _ _ _,aa.refl _⟩
theorem M9{w:World}{v:Value}{m s:Nat}(hv:Nt 65536 w v m)(hm:m<eV)(hs:s<=15):
 Calls prog 367 #[v,.int .i64 (s:Int)] w (eX 65536 (m/2^s) w):=by
 obtain⟨a,n,cap,xs,rfl,hc,hd,hn,rfl,hw⟩:=hv;have d:=cV (.inl rfl) hn hm;rcases hw.open with rfl|⟨c,b,off,rfl,hx⟩
 ·have:=RT w a cap s hs;simpa [ak] using this
 ·exact RS w b off n cap s xs (by omega) c hs hc hd hx
theorem C5{w:World}{u:Value}{k:Nat}(m off cap n:Nat)(us:Nat->Nat)(hn:n<=2000)(l:n<=cap)(b:∀i,i<n->us i<65536)(hw:Ws w (some ⟨m,off,none⟩) n us)
 (p:Nt 65536 w u k)(s:k<eV)(v:g<65536)(f:ak 65536 us n<eV):
 Calls prog 400 #[.slice (some ⟨m,off,none⟩) n cap,u,.int .u64 (g:Int)] w λ e w'=>e= .returned (.bool (decide (ak 65536 us n<k*g)))/\aa w w':=by
 have q:=j6 w g (by omega)
 have t:g<eV:=jf v (by obtain⟨L,y⟩:∃L,L=1024:=⟨1024,rfl⟩;rw[<-Zj y];exact Nat.le_self_pow (by omega) _)
 go_enter func400,ntmps400;go_wp2_with(go_at_call 214;refine q.mono ?_;rintro e C ⟨v1,rfl,a,d⟩)
 refine(ry (p.kept d) a s t).mono ?_;rintro e A ⟨v2,rfl,o,j⟩
 have h:=(hw.kept d).kept j;have c:=iX (B:=65536) l b h;go_wp2_with(go_at_call 304;refine(iE _ _ _ _ us (by omega) l h).mono ?_;rintro e w' ⟨rfl,rfl⟩)
 have x:=nM (.inl rfl) c o f;generalize hce:bN (ak 65536 us n) (k*g)=D at*;refine x.mono ?_;rintro e w3 ⟨rfl,r⟩
 have z:=Lib.hid hce;clear hce;go_wp2;go_ret;refine⟨xH ?_,(d.trans j).trans r⟩
 rw[Bool.eq_iff_iff]
 have:=z.out;unfold bN at this;simp only[oh]
 split at this
 ·constructor<;>omega
 ·split at this<;>constructor<;>omega
theorem mW(n:Int):bits .and .i64 n 65535=n%65536:=by
 have a:(BitVec.ofInt 64 65535).toNat=2^16-1:=by decide
 have key:(BitVec.ofInt 64 n &&& BitVec.ofInt 64 65535).toNat=(n%((2^64:Nat):Int)).toNat%2^16:=by
  rw[BitVec.toNat_and,BitVec.toNat_ofInt,a,Nat.and_two_pow_sub_one_eq_mod]
 show IntKind.i64.wrap ((BitVec.ofInt 64 n &&& BitVec.ofInt 64 65535).toNat:Nat)=n%65536;rw[key,IntKind.wrap_i64]
 omega
structure OwI(us vs:Nat->Nat)(g i:Nat)(zs:Nat->Nat)(o:Int):Prop where
 lt:∀k,k<i->zs k<65536
 same:∀k,i<=k->zs k=us k
 lo: -65536<=o
 hi:o<=0
 eq:(ak 65536 zs i:Int)+o*(65536^i:Nat)=(ak 65536 us i:Int)-(g:Int)*(ak 65536 vs i:Int)
theorem OwI.step{us vs zs:Nat->Nat}{i z:Nat}{o:Int}(h:OwI us vs g i zs o)(m:g<65536)(d:us i<65536)(hv:vs i<65536)
 (a:(z:Int)=((us i:Int)+o-(g:Int)*(vs i:Int))%65536):OwI us vs g (i+1) (ep zs i z) (((us i:Int)+o-(g:Int)*(vs i:Int))/65536):=by
 have f:=h.lo;have j:=h.hi;have l:(g:Int)*(vs i:Int)<=65535*65535:=by
  have:g*vs i<=65535*65535:=Nat.mul_le_mul (by omega) (by omega)
  have e:((g*vs i:Nat):Int)=(g:Int)*(vs i:Int):=by simp
  omega
 have c:0<=(g:Int)*(vs i:Int):=by
  have e:((g*vs i:Nat):Int)=(g:Int)*(vs i:Int):=by simp
  omega
 refine⟨λ k b=> ?_,λ k b=> ?_,by omega,by omega,?_⟩
 ·unfold ep;split
  ·omega
  ·exact h.lt k (by omega)
 ·rw[bB _ (by omega)];exact h.same k (by omega)
 ·have e:=h.eq;have hm:=Int.emod_add_mul_ediv ((us i:Int)+o-(g:Int)*(vs i:Int)) 65536;rw[dH]
  simp only[ak]
  rw[Nat.pow_succ]
  generalize ((us i:Int)+o-(g:Int)*(vs i:Int))/65536=o' at*;generalize hr:((us i:Int)+o-(g:Int)*(vs i:Int))%65536=r at*;generalize (65536^i:Nat)=P at*;simp only[Int.natCast_add,Int.natCast_mul]
  rw[a]
  have n:(r+65536*o')*(P:Int)=((us i:Int)+o-(g:Int)*(vs i:Int))*(P:Int):=by rw[hm]
  grind
theorem OwI.done{us vs zs:Nat->Nat}{n:Nat}{o:Int}(h:OwI us vs g n zs o)(a:g*ak 65536 vs n<=ak 65536 us n):
 ak 65536 zs n=ak 65536 us n-g*ak 65536 vs n:=by
 have e:=h.eq;have h1:=dJ h.lt;have c:=h.lo;have d:=h.hi;have ec:((g*ak 65536 vs n:Nat):Int)=(g:Int)*(ak 65536 vs n:Int):=by simp
 generalize f:(65536^n:Nat)=P at*;have ho:o=0:=by
  by_cases b:o=0
  ·exact b
  ·have h2:o*(P:Int)<= -1*(P:Int):=Int.mul_le_mul_of_nonneg_right (by omega) (by omega)
   omega
 subst ho;omega
def RU(bu L j n:Nat)(zs ds:Nat->Nat)(w:World)(e:Ending)(w':World):Prop:=
 e= .returned (.int .u32 ((ak 65536 (eC zs j) (n+1)/ak 65536 ds n:Nat):Int))/\
 ∃OH,lG w' bu L OH/\(∀k,k<L->OH k<65536)/\(∀k,k<j∨j+n<k->OH k=zs k)/\ak 65536 (eC OH j) (n+1)=ak 65536 (eC zs j) (n+1)%ak 65536 ds n/\af w w' bu
end Go.Proofs.YtbapfnpbamnmpaaGreatDoor
namespace Go.Eng
open Go Go.RowKit Go.Dig Go.Deep
theorem aa.Nh{w w':World}(h:aa w w')(b:Nat):af w w' b:=⟨h.size,λ c hc _=>h.old c hc,h.tape,h.os,h.output⟩
end Go.Eng
namespace Go.Proofs.YtbapfnpbamnmpaaGreatDoor
open Go Go.RowKit Go.Dig Go.Deep Go.Eng Go.Proofs.Tryz
theorem GS(w:World)(m L j CS bd N aY n:Nat)(zs ds:Nat->Nat)(hn:n<=1500)(hL:L<=4096)(hj:j+n<L)(gU:n+1<=CS)(AB:bd≠m)
 (hK:Kn 65536 (eC zs j) ds n)(U:lG w m L zs)(A:∀k,k<L->zs k<65536)
 (hd:∀i,i<n->w.cell? ⟨bd,N+i,none⟩=some (.int .u32 (ds i:Nat)))(s:Nt 65536 w (.slice (some ⟨bd,N,none⟩) n aY) (ak 65536 ds n))(Y:ak 65536 ds n<eV)(Z:ak 65536 (eC zs j) (n+1)<eV):
 Calls prog 366 #[.slice (some ⟨m,j,none⟩) (n+1) CS,.slice (some ⟨bd,N,none⟩) n aY] w (RU m L j n zs ds w):=by
 have Dw:=hK.two;have c0:=U.cell (i:=j+n) (by omega)
 have c1:=U.cell (i:=j+(n-1)) (by omega)
 have d1:=hd (n-1) (by omega)
 have l0:=A (j+n) (by omega)
 have l1:=A (j+(n-1)) (by omega)
 have m1:=hK.Li (n-1) (by omega)
 have m0:=hK.H5;have Q:Ws w (some ⟨m,j,none⟩) (n+1) (eC zs j):=λ i hi=>⟨m,j,rfl,U.cell (by omega)⟩
 have P:∀i,i<n+1->eC zs j i<65536:=hK.ult;have agD:=Lib.hid Q;clear Q;have HWL:=Lib.hid P;clear P;have HDN:=Lib.hid s;clear s;have HDB:=Lib.hid Y;clear Y;have HUB:=Lib.hid Z;clear Z;have HD:=Lib.hid hd;clear hd;have HZ:=Lib.hid A;clear A;obtain⟨g0,D⟩:∃g0,g0=(zs (j+n)*65536+zs (j+(n-1)))/ds (n-1):=⟨_,rfl⟩
 have Fe:ak 65536 (eC zs j) (n+1)/ak 65536 ds n<=g0:=by rw[D];exact hK.first
 have V:=hK.Zk;have YI:((zs (j+n):Int)*65536+(zs (j+(n-1)):Int))/(ds (n-1):Int)=(g0:Int):=by rw[D];simp
 have atn:g0<4294967296:=by
  rw[D]
  exact Nat.lt_of_le_of_lt (Nat.div_le_self _ _) (by omega)
 have HG0:=Lib.hid D;clear D;have HQ0:=Lib.hid Fe;clear Fe;have HQL:=Lib.hid V;clear V;by_cases BF:65536<=g0
 ·have agE:=Lib.hid BF;have SA:decide ((65536:Int)<=(g0:Int))=true:=by simp;omega
  clear BF;go_enter func366,ntmps366;go_wp2;go_quiet (fail)
  go_wp2;have J:=Lib.hid YI;clear c0 c1 d1 l0 l1 m1 m0 YI SA;go_loopw [7] (λ E wr=>∃g:Nat,E= .int .u64 (g:Int)/\ak 65536 (eC zs j) (n+1)/ak 65536 ds n<=g/\g<65536/\aa w wr) (λ E _=>(intOf E).toNat)
  case atStart=>exact⟨65535,by first|rfl|(congr 1<;>exact J.out),by have:=HQL.out;omega,by omega,(aa.refl w).drewN _⟩
  case round=>
   obtain⟨g,rfl,B,XF,t⟩:=hrel;have r:=C5 m j CS (n+1) (eC zs j) (by omega) gU HWL.out (agD.out.kept t) (HDN.out.kept t) HDB.out XF HUB.out;by_cases f:ak 65536 (eC zs j) (n+1)<ak 65536 ds n*g
   ·rw[show decide (ak 65536 (eC zs j) (n+1)<ak 65536 ds n*g)=true from by simpa using f] at r;have X:ak 65536 (eC zs j) (n+1)/ak 65536 ds n<=g-1:=Nat.le_sub_one_of_lt (Nat.div_lt_of_lt_mul f)
    have D:1<=g:=by
     rcases Nat.eq_zero_or_pos g with h|h
     ·rw[h] at f;simp at f
     ·exact h
    have H:=Lib.hid X;clear B f X;go_wp2_with(go_at_call 400;refine r.mono ?_;rintro e M ⟨rfl,v⟩)
    go_roundw
    case rel=>exact⟨g-1,by congr 1;omega,H.out,by omega,t.trans v⟩
    case measure=>simp[intOf];omega
   ·rw[show decide (ak 65536 (eC zs j) (n+1)<ak 65536 ds n*g)=false from by simpa using f] at r;have W:g=ak 65536 (eC zs j) (n+1)/ak 65536 ds n:=by
     refine Nat.le_antisymm ?_ B;exact(Nat.le_div_iff_mul_le hK.WN).2 (by rw[Nat.mul_comm];omega)
    have c:g*ak 65536 ds n<=ak 65536 (eC zs j) (n+1):=by rw[Nat.mul_comm];omega
    have U5:=Lib.hid W;have I:=Lib.hid c;clear B f W c;go_wp2_with(go_at_call 400;refine r.mono ?_;rintro e M ⟨rfl,v⟩)
    have C:=t.trans v;clear r v;have mr:=U.kept C;have Wo:Hid (∀i,i<n->M.cell? ⟨bd,N+i,none⟩=some (.int .u32 (ds i:Nat))):=Lib.hid (λ i hi=>C.cell (HD.out i hi))
    go_loopw [8,44] (λ ov iv wr=>∃(i:Nat)(o:Int)(ts:Nat->Nat),i<=n+1/\iv= .int .i64 (i:Int)/\ov= .int .i64 o/\OwI (eC zs j) (ext ds n) g i (eC ts j) o/\(∀k,k<L->ts k<65536)/\(∀k,k<j∨j+n<k->ts k=zs k)/\lG wr m L ts/\af w wr m) (λ _ iv _=>n+1-(intOf iv).toNat)
    case atStart=>exact⟨0,0,zs,eo _,rfl,rfl,⟨λ _ h=>by omega,λ _ _=>rfl,by omega,by omega,by simp[ak]⟩,HZ.out,λ _ _=>rfl,mr,C.Nh m⟩
    case round=>
     obtain⟨i,o,ts,hi,rfl,rfl,how,S,R,q,u⟩:=hrel;have x:=Lib.hid S;clear S;have F:=Lib.hid R;clear R;have Iv:=how.lo;have Hq:=how.hi;by_cases oQ:i<n+1
     ·have k2:=q.cell (i:=j+i) (by omega)
      have k3:=q.frozen (j+i)
      have O:=x.out (j+i) (by omega)
      have T:ts (j+i)=zs (j+i):=how.same i (aU _)
      have y:=Lib.hid T;clear T;by_cases p:i<n
      ·have k1:=u.cell (HD.out i p) AB;have k5:=hK.Li i p;have DR:(g:Int)*(ds i:Int)<=65535*65535:=by
        have h1:g*ds i<=65535*65535:=Nat.mul_le_mul (by omega) (by omega)
        have e:((g*ds i:Nat):Int)=(g:Int)*(ds i:Int):=by simp
        omega
       have agB:0<=(g:Int)*(ds i:Int):=by
        have e:((g*ds i:Nat):Int)=(g:Int)*(ds i:Int):=by simp
        omega
       obtain⟨z,d⟩:∃z:Nat,(z:Int)=((ts (j+i):Int)+o-(g:Int)*(ds i:Int))%65536:=⟨(((ts (j+i):Int)+o-(g:Int)*(ds i:Int))%65536).toNat,by omega⟩
       have hand:bits .and .i64 ((ts (j+i):Int)+o-(g:Int)*(ds i:Int)) 65535=(z:Int):=by rw[mW,d]
       have A:z<65536:=by omega
       have b:=how.step (g:=g) (z:=z) (by omega) (by show zs (j+i)<65536;rw[<-y.out];exact O) (show ext ds n i<65536 by simp only[ext,if_pos p];exact k5) (by
        have e1:ext ds n i=ds i:=by simp[ext,p]
        have a:eC zs j i=ts (j+i):=y.out.symm;rw[e1,a];exact d)
       have e1:ext ds n i=ds i:=by simp[ext,p]
       have a:eC zs j i=ts (j+i):=y.out.symm;rw[e1,a,<-eK] at b;have G:=Lib.hid b;clear b how e1 a d;go_wp2;go_roundw
       case rel=>
        refine⟨i+1,_,ep ts (j+i) z,by omega,by go_num,by simp,G.out,λ k l=> ?_,λ k l=> ?_,q.set _ _,u.setCell rfl _⟩
        ·unfold ep;split
         ·omega
         ·exact x.out k l
        ·rw[bB _ (by omega)];exact F.out k l
       case measure=>simp[intOf];omega
      ·obtain rfl:n=i:=by omega
       obtain⟨z,d⟩:∃z:Nat,(z:Int)=((ts (j+n):Int)+o)%65536:=⟨(((ts (j+n):Int)+o)%65536).toNat,by omega⟩
       have hand:bits .and .i64 ((ts (j+n):Int)+o) 65535=(z:Int):=by rw[mW,d]
       have A:z<65536:=by omega
       have e1:ext ds n n=0:=by simp[ext,p]
       have a:eC zs j n=ts (j+n):=y.out.symm;have b:=how.step (g:=g) (z:=z) (by omega) (by rw[a];exact O) (by rw[e1];decide) (by rw[e1,a,d];simp)
       rw[e1,a,<-eK] at b;have e3:(ts (j+n):Int)+o-(g:Int)*((0:Nat):Int)=(ts (j+n):Int)+o:=by simp
       rw[e3] at b;have G:=Lib.hid b;clear b how e1 a d e3;go_wp2;go_roundw
       case rel=>
        refine⟨n+1,_,ep ts (j+n) z,by omega,by go_num,by simp,G.out,λ k l=> ?_,λ k l=> ?_,q.set _ _,u.setCell rfl _⟩
        ·unfold ep;split
         ·omega
         ·exact x.out k l
        ·rw[bB _ (by omega)];exact F.out k l
       case measure=>simp[intOf]
     ·obtain rfl:i=n+1:=by omega
      have s:=how.done (by rw[lW (Nat.le_succ n)];exact I.out)
      rw[lW (Nat.le_succ n)] at s;have K:=Lib.hid s;clear s how;go_wp2;go_ret;refine⟨by rw[U5.out];rfl,ts,q,x.out,F.out,?_,u⟩
      rw[K.out,U5.out,Nat.mul_comm]
      have:=Nat.div_add_mod (ak 65536 (eC zs j) (n+1)) (ak 65536 ds n)
      omega
 ·have agE:=Lib.hid BF;have SA:decide ((65536:Int)<=(g0:Int))=false:=by simp;omega
  clear BF;go_enter func366,ntmps366;go_wp2;go_quiet (fail)
  go_wp2;have J:=Lib.hid YI;clear c0 c1 d1 l0 l1 m1 m0 YI SA;go_loopw [7] (λ E wr=>∃g:Nat,E= .int .u64 (g:Int)/\ak 65536 (eC zs j) (n+1)/ak 65536 ds n<=g/\g<65536/\aa w wr) (λ E _=>(intOf E).toNat)
  case atStart=>exact⟨g0,by first|rfl|(congr 1<;>exact J.out),HQ0.out,by have:=agE.out;omega,(aa.refl w).drewN _⟩
  case round=>
   obtain⟨g,rfl,B,XF,t⟩:=hrel;have r:=C5 m j CS (n+1) (eC zs j) (by omega) gU HWL.out (agD.out.kept t) (HDN.out.kept t) HDB.out XF HUB.out;by_cases f:ak 65536 (eC zs j) (n+1)<ak 65536 ds n*g
   ·rw[show decide (ak 65536 (eC zs j) (n+1)<ak 65536 ds n*g)=true from by simpa using f] at r;have X:ak 65536 (eC zs j) (n+1)/ak 65536 ds n<=g-1:=Nat.le_sub_one_of_lt (Nat.div_lt_of_lt_mul f)
    have D:1<=g:=by
     rcases Nat.eq_zero_or_pos g with h|h
     ·rw[h] at f;simp at f
     ·exact h
    have H:=Lib.hid X;clear B f X;go_wp2_with(go_at_call 400;refine r.mono ?_;rintro e M ⟨rfl,v⟩)
    go_roundw
    case rel=>exact⟨g-1,by congr 1;omega,H.out,by omega,t.trans v⟩
    case measure=>simp[intOf];omega
   ·rw[show decide (ak 65536 (eC zs j) (n+1)<ak 65536 ds n*g)=false from by simpa using f] at r;have W:g=ak 65536 (eC zs j) (n+1)/ak 65536 ds n:=by
     refine Nat.le_antisymm ?_ B;exact(Nat.le_div_iff_mul_le hK.WN).2 (by rw[Nat.mul_comm];omega)
    have c:g*ak 65536 ds n<=ak 65536 (eC zs j) (n+1):=by rw[Nat.mul_comm];omega
    have U5:=Lib.hid W;have I:=Lib.hid c;clear B f W c;go_wp2_with(go_at_call 400;refine r.mono ?_;rintro e M ⟨rfl,v⟩)
    have C:=t.trans v;clear r v;have mr:=U.kept C;have Wo:Hid (∀i,i<n->M.cell? ⟨bd,N+i,none⟩=some (.int .u32 (ds i:Nat))):=Lib.hid (λ i hi=>C.cell (HD.out i hi))
    go_loopw [8,44] (λ ov iv wr=>∃(i:Nat)(o:Int)(ts:Nat->Nat),i<=n+1/\iv= .int .i64 (i:Int)/\ov= .int .i64 o/\OwI (eC zs j) (ext ds n) g i (eC ts j) o/\(∀k,k<L->ts k<65536)/\(∀k,k<j∨j+n<k->ts k=zs k)/\lG wr m L ts/\af w wr m) (λ _ iv _=>n+1-(intOf iv).toNat)
    case atStart=>exact⟨0,0,zs,eo _,rfl,rfl,⟨λ _ h=>by omega,λ _ _=>rfl,by omega,by omega,by simp[ak]⟩,HZ.out,λ _ _=>rfl,mr,C.Nh m⟩
    case round=>
     obtain⟨i,o,ts,hi,rfl,rfl,how,S,R,q,u⟩:=hrel;have x:=Lib.hid S;clear S;have F:=Lib.hid R;clear R;have Iv:=how.lo;have Hq:=how.hi;by_cases oQ:i<n+1
     ·have k2:=q.cell (i:=j+i) (by omega)
      have k3:=q.frozen (j+i)
      have O:=x.out (j+i) (by omega)
      have T:ts (j+i)=zs (j+i):=how.same i (aU _)
      have y:=Lib.hid T;clear T;by_cases p:i<n
      ·have k1:=u.cell (HD.out i p) AB;have k5:=hK.Li i p;have DR:(g:Int)*(ds i:Int)<=65535*65535:=by
        have h1:g*ds i<=65535*65535:=Nat.mul_le_mul (by omega) (by omega)
        have e:((g*ds i:Nat):Int)=(g:Int)*(ds i:Int):=by simp
        omega
       have agB:0<=(g:Int)*(ds i:Int):=by
        have e:((g*ds i:Nat):Int)=(g:Int)*(ds i:Int):=by simp
        omega
       obtain⟨z,d⟩:∃z:Nat,(z:Int)=((ts (j+i):Int)+o-(g:Int)*(ds i:Int))%65536:=⟨(((ts (j+i):Int)+o-(g:Int)*(ds i:Int))%65536).toNat,by omega⟩
       have hand:bits .and .i64 ((ts (j+i):Int)+o-(g:Int)*(ds i:Int)) 65535=(z:Int):=by rw[mW,d]
       have A:z<65536:=by omega
       have b:=how.step (g:=g) (z:=z) (by omega) (by show zs (j+i)<65536;rw[<-y.out];exact O) (show ext ds n i<65536 by simp only[ext,if_pos p];exact k5) (by
        have e1:ext ds n i=ds i:=by simp[ext,p]
        have a:eC zs j i=ts (j+i):=y.out.symm;rw[e1,a];exact d)
       have e1:ext ds n i=ds i:=by simp[ext,p]
       have a:eC zs j i=ts (j+i):=y.out.symm;rw[e1,a,<-eK] at b;have G:=Lib.hid b;clear b how e1 a d;go_wp2;go_roundw
       case rel=>
        refine⟨i+1,_,ep ts (j+i) z,by omega,by go_num,by simp,G.out,λ k l=> ?_,λ k l=> ?_,q.set _ _,u.setCell rfl _⟩
        ·unfold ep;split
         ·omega
         ·exact x.out k l
        ·rw[bB _ (by omega)];exact F.out k l
       case measure=>simp[intOf];omega
      ·obtain rfl:n=i:=by omega
       obtain⟨z,d⟩:∃z:Nat,(z:Int)=((ts (j+n):Int)+o)%65536:=⟨(((ts (j+n):Int)+o)%65536).toNat,by omega⟩
       have hand:bits .and .i64 ((ts (j+n):Int)+o) 65535=(z:Int):=by rw[mW,d]
       have A:z<65536:=by omega
       have e1:ext ds n n=0:=by simp[ext,p]
       have a:eC zs j n=ts (j+n):=y.out.symm;have b:=how.step (g:=g) (z:=z) (by omega) (by rw[a];exact O) (by rw[e1];decide) (by rw[e1,a,d];simp)
       rw[e1,a,<-eK] at b;have e3:(ts (j+n):Int)+o-(g:Int)*((0:Nat):Int)=(ts (j+n):Int)+o:=by simp
       rw[e3] at b;have G:=Lib.hid b;clear b how e1 a d e3;go_wp2;go_roundw
       case rel=>
        refine⟨n+1,_,ep ts (j+n) z,by omega,by go_num,by simp,G.out,λ k l=> ?_,λ k l=> ?_,q.set _ _,u.setCell rfl _⟩
        ·unfold ep;split
         ·omega
         ·exact x.out k l
        ·rw[bB _ (by omega)];exact F.out k l
       case measure=>simp[intOf]
     ·obtain rfl:i=n+1:=by omega
      have s:=how.done (by rw[lW (Nat.le_succ n)];exact I.out)
      rw[lW (Nat.le_succ n)] at s;have K:=Lib.hid s;clear s how;go_wp2;go_ret;refine⟨by rw[U5.out];rfl,ts,q,x.out,F.out,?_,u⟩
      rw[K.out,U5.out,Nat.mul_comm]
      have:=Nat.div_add_mod (ak 65536 (eC zs j) (n+1)) (ak 65536 ds n)
      omega
end Go.Proofs.YtbapfnpbamnmpaaGreatDoor
namespace Go.Dig
open Go Go.RowKit Go.Deep Go.Eng
theorem Bq{ys:Nat->Nat}{n s:Nat}(hn:0<n)(a:∀i,i<n->ys i<65536)(h2:32768<=ys (n-1)*2^s)(h3:(ys (n-1)+1)*2^s<=65536):
 32768*65536^(n-1)<=ak 65536 ys n*2^s/\ak 65536 ys n*2^s<65536^n:=by
 obtain⟨k,rfl⟩:∃k,n=k+1:=⟨n-1,by omega⟩
 simp only[Nat.add_sub_cancel] at*;have hv:=dJ (B:=65536) (n:=k) λ i hi=>a i (by omega)
 simp only[ak]
 rw[Nat.pow_succ]
 have hS:0<2^s:=Nat.pow_pos (by decide)
 generalize 2^s=S at*;generalize (65536:Nat)^k=P at*;generalize ak 65536 ys k=V at*;generalize ys k=t at*;constructor
 ·have e1:32768*P<=t*S*P:=wC _ h2;have b:(V+t*P)*S=V*S+t*S*P:=by grind
  omega
 ·have e1:(V+t*P)*S<(t+1)*P*S:=Nat.mul_lt_mul_of_pos_right (by rw[Nat.add_mul];omega) hS;have b:(t+1)*P*S=(t+1)*S*P:=by grind
  have d:(t+1)*S*P<=65536*P:=wC _ h3;have c:65536*P=P*65536:=Nat.mul_comm ..;omega
theorem Ao{ds:Nat->Nat}{n nd D:Nat}(hn:0<n)(hd:∀i,i<nd->ds i<65536)(d:tQ ds nd)(hv:ak 65536 ds nd=D)
 (h1:32768*65536^(n-1)<=D)(h2:D<65536^n):nd=n/\65536<=2*ds (n-1):=by
 have e:nd=n:=by
  have a:=dC (B:=65536) (by decide) d (by rw[hv];exact h2)
  by_cases h:nd<n
  ·have b:=dJ hd;have c:(65536:Nat)^nd<=65536^(n-1):=Nat.pow_le_pow_right (by decide) (by omega)
   have:0<(65536:Nat)^(n-1):=Nat.pow_pos (by decide)
   omega
  ·omega
 subst e;refine⟨rfl,?_⟩
 obtain⟨k,rfl⟩:∃k,nd=k+1:=⟨nd-1,by omega⟩
 simp only[Nat.add_sub_cancel] at*;have b:=dJ (B:=65536) (n:=k) λ i hi=>hd i (by omega)
 have g:ak 65536 ds (k+1)=ak 65536 ds k+ds k*65536^k:=rfl;have f:32768*65536^k<(ds k+1)*65536^k:=by rw[Nat.add_mul];omega
 have:=Nat.lt_of_mul_lt_mul_right f;omega
theorem SM{y s:Nat}(hs:s<=16)(h:y*2^s<65536):(y+1)*2^s<=65536:=by
 have e:65536=2^(16-s)*2^s:=by rw[<-Nat.pow_add,show 16-s+s=16 by omega]
 rw[e] at h⊢;exact wC _ (Nat.lt_of_mul_lt_mul_right h)
theorem Ff{M D ns n:Nat}(d:M<65536^ns)(hn:0<n)(b:n<=ns)(c:32768*65536^(n-1)<=D):M<D*65536^(ns+1-n):=by
 have a:32768*65536^(n-1)*65536^(ns+1-n)<=D*65536^(ns+1-n):=wC _ c;rw[Nat.mul_assoc,<-Nat.pow_add,show n-1+(ns+1-n)=ns by omega] at a;have hp:0<(65536:Nat)^ns:=Nat.pow_pos (by decide)
 omega
end Go.Dig
namespace Go.Proofs.YtbapfnpbamnmpaaGreatDoor
open Go Go.RowKit Go.Dig Go.Deep Go.Eng Go.Proofs.Tryz
def GQ(q r:Nat)(w:World)(e:Ending)(w':World):Prop:=∃v u,e= .returned (.tuple #[v,u])/\Nt 65536 w' v q/\Nt 65536 w' u r/\aa w w'
theorem RC{w:World}{v u:Value}{m k:Nat}(hv:Nt 65536 w v m)(f:Nt 65536 w u k)(hm:m<eV)(h:m<k):
 Calls prog 301 #[v,u] w (GQ 0 m w):=by
 have l:bN m k= -1:=by simp[bN,h]
 have o:=nM (.inl rfl) hv f hm;rw[l] at o;obtain⟨b,d,F,ys,rfl,_,_,_,rfl,_⟩:=f;obtain⟨a,n,cap,xs,rfl,hc,hd,hn,rfl,hw⟩:=hv;have E:=cV (.inl rfl) hn hm;have D:d≠0:=by rintro rfl;simp[ak] at h
 have C:((d:Int)==0)=false:=by simp;omega
 have A:=Lib.hid hd;have z:=Lib.hid hn;clear h l hm hd hn;go_enter func301,ntmps301;go_wp2_with(first|(go_at_call 364;refine o.mono ?_;rintro e c ⟨rfl,g⟩;have j:aa w (c.alloc (.cells #[] 191)):=g.alloc _;have t:Ap (c.alloc (.cells #[] 191)) w.heap.size (.slice (some ⟨c.heap.size,0,none⟩) 0 0) 0 (λ _=>0):=World.ownsRow_made c _ 0 g.size (by unfold maxLen;omega) (by simp))|(at_builtin;refine eW rfl (.tmp 21) (.tmp 22) 95 rfl underlying95 w j _ 0 0 (λ _=>0) rfl t a n cap xs rfl (hw.kept j) (by omega) ?_;intro v' B p r))
 go_ret2;rw[lp] at p;obtain⟨y,x,rfl,s,q⟩:=(p.congr (ys:=xs) λ i hi=>by simp[pG]).ws;exact⟨_,_,rfl,ma _ _ _ _,⟨y,n,x,xs,rfl,s,A.out,z.out,rfl,q⟩,r⟩
theorem UT{w:World}{v u:Value}{m k:Nat}(hv:Nt 65536 w v m)(g:Nt 65536 w u k)(hm:m<eV)(h:k<=m)(f:0<k)(j:k<65536):
 Calls prog 301 #[v,u] w (GQ (m/k) (m%k) w):=by
 have F:0<=bN m k:=by unfold bN;split<;>(try split)<;>omega
 have c:=g;obtain⟨a,n,cap,xs,rfl,hc,p,hn,hval,hw⟩:=g;obtain rfl:n=1:=by
  have h1:=dC (B:=65536) (L:=1) (by decide) hn (by rw[hval];simpa using j)
  have h2:n≠0:=by rintro rfl;simp[ak] at hval;omega
  omega
 obtain rfl:xs 0=k:=by rw[<-hval];simp[ak]
 obtain⟨b,off,rfl,l⟩:=hw 0 (by omega)
 have z:w.cell? ⟨b,off,none⟩=some (.int .u32 (xs 0:Nat)):=l;clear l p hn hw hval;have A:=nM (.inl rfl) hv c hm;generalize bN m (xs 0)=H at*;go_enter func301,ntmps301;go_wp2_with(go_at_call 364;refine A.mono ?_;rintro e C ⟨rfl,d⟩;have G:=d.cell z)
 have y:=GY (hv.kept d) hm f j;have hr:m%xs 0<18446744073709551616:=by have:=Nat.mod_lt m f;omega
 have E:m%xs 0<65536:=by have:=Nat.mod_lt m f;omega
 generalize m%xs 0=r at*;generalize m/xs 0=q at*;refine y.mono ?_;rintro e o ⟨v2,rfl,t,x⟩
 go_wp2_with(go_at_call 214;refine(j6 o r hr).mono ?_;rintro e w3 ⟨D,rfl,s,i⟩)
 go_ret2;exact⟨_,_,rfl,t.kept i,s,(d.trans x).trans i⟩
end Go.Proofs.YtbapfnpbamnmpaaGreatDoor
