/- A part of the proof that the text which Print makes of a parsed text is a normal form -/
import Derived.Test.YtbapfnpbamnmpaaGreatDoorP02
import Derived.Test.YtbapfnpbamnmpaaGreatDoorP00
import Derived.Deep.Light
import Derived.Shelf.Small.Bits
import Derived.Test.YtbapfnpbamnmpaaGreatDoorProg
import Derived.Laws.CopyOwn
import Derived.Lib.ItoaNum
import Derived.Lib.BitFns
import Derived.Lib.TrailingZeros
import Derived.Shelf.Spec.TrailingZeros
import Derived.Deep.LoopGhost
set_option maxHeartbeats 8000000
set_option maxRecDepth 100000
namespace Go.Proofs.YtbapfnpbamnmpaaGreatDoor
open Go Go.RowKit Go.Dig Go.Deep Go.Eng Go.Proofs.Tryz
variable{o x:Nat}
theorem yV{l:Nat}(hx:x<4294967296)(a:l<4294967296)(ho:o<=1):
 ∃z o':Nat,IntKind.u64.wrap (IntKind.u64.wrap ((x:Int)-(l:Int))-(o:Int))%4294967296=(z:Int)/\IntKind.u64.wrap (IntKind.u64.wrap ((x:Int)-(l:Int))-(o:Int))/9223372036854775808=(o':Int)/\z<4294967296/\o'<=1/\z+l+o=x+4294967296*o':=by
 rw[IntKind.wrap_u64,IntKind.wrap_u64]
 by_cases h:l+o<=x
 ·exact⟨x-l-o,0,by omega,by omega,by omega,by omega,by omega⟩
 ·exact⟨x+4294967296-l-o,1,by omega,by omega,by omega,by omega,by omega⟩
theorem NL{c:Nat}(hx:x<4294967296)(hc:c<4294967296)(ho:o<=1)(h:c+o<=x):
 IntKind.u64.wrap (IntKind.u64.wrap ((x:Int)-(c:Int))-(o:Int))=((x-c-o:Nat):Int):=by
 rw[IntKind.wrap_u64,IntKind.wrap_u64];omega
theorem NM{c:Nat}(hx:x<4294967296)(hc:c<4294967296)(ho:o<=1)(h:x<c+o):
 IntKind.u64.wrap (IntKind.u64.wrap ((x:Int)-(c:Int))-(o:Int))=((x+18446744073709551616-c-o:Nat):Int):=by
 rw[IntKind.wrap_u64,IntKind.wrap_u64];omega
def VA(bu L j n:Nat)(zs ds:Nat->Nat)(w:World)(e:Ending)(w':World):Prop:=
 e= .returned (.int .u32 ((ak 4294967296 (eC zs j) (n+1)/ak 4294967296 ds n:Nat):Int))/\
 ∃OH,ly w' bu L OH/\(∀k,k<L->OH k<4294967296)/\(∀k,k<j∨j+n<k->OH k=zs k)/\ak 4294967296 (eC OH j) (n+1)=ak 4294967296 (eC zs j) (n+1)%ak 4294967296 ds n/\af w w' bu
theorem Kk(w:World)(p L j CS bd tL aY n:Nat)(zs ds:Nat->Nat)(hn:n<=1024)(hL:L<=4096)(hj:j+n<L)(AB:bd≠p)
 (hK:Kn 4294967296 (eC zs j) ds n)(a7:ly w p L zs)(DX:∀k,k<L->zs k<4294967296)
 (hd:∀i,i<n->w.cell? ⟨bd,tL+i,none⟩=some (.int .u32 (ds i:Nat))):
 Calls prog 340 #[.slice (some ⟨p,j,none⟩) (n+1) CS,.slice (some ⟨bd,tL,none⟩) n aY] w (VA p L j n zs ds w):=by
 have Dw:=hK.two;have c0:=a7.cell (i:=j+n) (by omega)
 have c1:=a7.cell (i:=j+(n-1)) (by omega)
 have c2:=a7.cell (i:=j+(n-2)) (by omega)
 have d1:=hd (n-1) (by omega)
 have d2:=hd (n-2) (by omega)
 have l0:=DX (j+n) (by omega)
 have l1:=DX (j+(n-1)) (by omega)
 have l2:=DX (j+(n-2)) (by omega)
 have m1:=hK.Li (n-1) (by omega)
 have m2:=hK.Li (n-2) (by omega)
 have m0:=hK.H5;have HD:=Lib.hid hd;clear hd;have HZ:=Lib.hid DX;clear DX;have MK:=A8 (x:=zs (j+(n-1))) (y:=zs (j+n)) l1 l0;go_enter func340,ntmps340;go_wp2;go_quiet (fail)
 go_wp2;go_quiet (fail)
 go_wp2;go_loopw [7,8] (λ gv rv wr=>∃g r q:Nat,gv= .int .u64 (g:Int)/\rv= .int .u64 (r:Int)/\g*ds (n-1)+r=zs (j+n)*4294967296+zs (j+(n-1))/\ak 4294967296 (eC zs j) (n+1)/ak 4294967296 ds n<=g/\r<4294967296/\wr=w.drewN q) (λ gv _ _=>(intOf gv).toNat)
 case atStart=>
  refine⟨(zs (j+n)*4294967296+zs (j+(n-1)))/ds (n-1),(zs (j+n)*4294967296+zs (j+(n-1)))%ds (n-1),_,by simp,by simp,?_,hK.first,?_,World.drewN_drewN _ _ _⟩
  ·rw[Nat.mul_comm];exact Nat.div_add_mod _ _
  ·have:=Nat.mod_lt (zs (j+n)*4294967296+zs (j+(n-1))) m0;omega
 case round=>
  obtain⟨g,r,q,rfl,rfl,hgr,Wu,T9,rfl⟩:=hrel;clear MK;have t:=Lib.hid hgr;have acZ:g<=18446744073709551615:=by
   have:=Nat.le_mul_of_pos_right g m0;omega
  clear hgr;have V:=Lib.hid Wu;clear Wu;by_cases Fi:4294967296<=g
  ·have SA:((g:Int)/4294967296 != 0)=true:=by simp;omega
   have F:=Lib.hid (hK.Zl t.out (.inl Fi))
   have U4:1<=g:=by omega
   have NN:Hid ((g-1)*ds (n-1)+(r+ds (n-1))=zs (j+n)*4294967296+zs (j+(n-1))):=by
    refine Lib.hid ?_;have:=t.out;obtain⟨g1,rfl⟩:∃g1,g=g1+1:=⟨g-1,by omega⟩
    rw[Nat.add_mul] at this;rw[Nat.add_sub_cancel];omega
   have HQ:Hid (ak 4294967296 (eC zs j) (n+1)/ak 4294967296 ds n<=g-1):=Lib.hid (Nat.le_sub_one_of_lt F.out)
   clear V F t;go_wp2;go_quiet (fail)
   by_cases hbr:4294967296<=r+ds (n-1)
   ·have ac0:(((r:Int)+(ds (n-1):Int))/4294967296 != 0)=true:=by simp;omega
    have u:=hK.Zm NN.out hbr;have G3:=Lib.hid (hK.small NN.out u.1 u.2)
    have U:=u.1;clear u;go_wp2;have eg:(g:Int)-1=((g-1:Nat):Int):=by omega
    rw[eg]
    clear eg SA Fi acZ U4;generalize g-1=g1 at*;go_loopw [9,10,88] (λ ov O iv wr=>∃(i c o:Nat)(ts:Nat->Nat),i<=n/\iv= .int .i64 (i:Int)/\O= .int .u64 (c:Int)/\ov= .int .u64 (o:Int)/\yj 4294967296 (eC zs j) ds g1 i (eC ts j) c o/\(∀k,k<L->ts k<4294967296)/\(∀k,k<j∨j+n<k->ts k=zs k)/\ly wr p L ts/\af w wr p) (λ _ _ iv _=>n-(intOf iv).toNat)
    case atStart=>exact⟨0,0,0,zs,eo _,rfl,rfl,rfl,yj.start (by decide),HZ.out,λ _ _=>rfl,a7,(af.refl w p).drewN _⟩
    case round=>
     clear c0 c1 c2 d1 d2 l1 l2 m1 m2 m0;obtain⟨i,c,o,ts,hi,rfl,rfl,rfl,e,PO,wO,h,v⟩:=hrel;have C:=Lib.hid PO;clear PO;have R:=Lib.hid wO;clear wO;have I:=e.wI;have H:=e.ole;by_cases aI:i<n
     ·have k1:=v.cell (HD.out i aI) AB;have J:=h.cell (i:=j+i) (by omega)
      have Z:=h.frozen (j+i)
      have k4:=C.out (j+i) (by omega)
      have Y:=hK.Li i aI;have k8:g1*ds i+c<18446744073709551616:=by have:=jR (B:=4294967296) (z:=0) U Y (by decide) I;omega
      have pK:=Lib.hid (e.same i (aU _))
      have D:=Lib.hid e;clear e;go_wp2;go_roundw
      case rel=>
       go_light;have Ko:((g1:Int)*(ds i:Int)+(c:Int))%4294967296=(((g1*ds i+c)%4294967296:Nat):Int):=by simp
       obtain⟨z,o',e1,u,hz,Ho,he⟩:=yV k4 (Nat.mod_lt (g1*ds i+c) (by decide)) H;rw[Ko,e1,u]
       refine⟨i+1,(g1*ds i+c)/4294967296,o',ep ts (j+i) z,by omega,by go_num,by simp,rfl,?_,λ k b=> ?_,λ k b=> ?_,h.set _ _,v.setCell rfl _⟩
       ·rw[eK];exact D.out.step U Y hz Ho (by rw[<-pK.out];exact he)
       ·unfold ep;split
        ·exact hz
        ·exact C.out k b
       ·rw[bB _ (by omega)];exact R.out k b
      case measure=>simp[intOf];omega
     ·obtain rfl:n=i:=by omega
      have J:=h.cell (i:=j+n) (by omega)
      have Z:=h.frozen (j+n)
      have G:ts (j+n)=zs (j+n):=e.same n (aU _)
      rw[G] at J;have K9:=Lib.hid G;clear G;have D:=Lib.hid e;clear e;by_cases Bt:c+o<=zs (j+n)
      ·have f1:=NL l0 I H Bt;have f2:(((zs (j+n)-c-o:Nat):Int)/9223372036854775808==0)=true:=by simp;omega
       have N:(((zs (j+n)-c-o:Nat):Int)%4294967296)=((zs (j+n)-c-o:Nat):Int):=by omega
       go_wp2;go_ret;have dr:=sA hK D.out HQ.out Bt;refine⟨oJ (by rw[<-dr.1]),ep ts (j+n) (zs (j+n)-c-o),?_,λ k b=> ?_,λ k b=> ?_,?_,v.setCell rfl _⟩
       ·rw[show((zs (j+n):Int)-(c:Int)-(o:Int))=((zs (j+n)-c-o:Nat):Int) by omega];exact h.set _ _
       ·unfold ep;split
        ·omega
        ·exact C.out k b
       ·rw[bB _ (by omega)];exact R.out k b
       ·rw[eK];exact dr.2
      ·have f1:=NM l0 I H (by omega)
       have f2:(((zs (j+n)+18446744073709551616-c-o:Nat):Int)/9223372036854775808==0)=false:=by simp;omega
       have N:(((zs (j+n)+18446744073709551616-c-o:Nat):Int)%4294967296)=((zs (j+n)+4294967296-c-o:Nat):Int):=by omega
       obtain⟨d,f⟩:∃d,d=zs (j+n)+4294967296-c-o:=⟨_,rfl⟩
       rw[<-f] at N;have iW:d<4294967296:=by omega
       have Q:=Lib.hid f;clear f;go_wp2;clear f1 f2 N;go_loopw [10,141] (λ O iv wr=>∃(i a:Nat)(ys:Nat->Nat),i<=n/\iv= .int .i64 (i:Int)/\O= .int .u64 (a:Int)/\vx 4294967296 (ep (eC ts j) n d) ds i (eC ys j) a/\(∀k,k<L->ys k<4294967296)/\(∀k,k<j∨j+n<k->ys k=zs k)/\ly wr p L ys/\af w wr p) (λ _ iv _=>n-(intOf iv).toNat)
       case atStart=>
        refine⟨0,0,ep ts (j+n) d,eo _,rfl,rfl,by rw[eK];exact vx.start,λ k b=> ?_,λ k b=> ?_,h.set _ _,v.setCell rfl _⟩
        ·unfold ep;split
         ·exact iW
         ·exact C.out k b
        ·rw[bB _ (by omega)];exact R.out k b
       case round=>
        clear J Z;obtain⟨i,a,ys,hi,rfl,rfl,l,mv,M6,m,K⟩:=hrel;have P:=Lib.hid mv;clear mv;have Yu:=Lib.hid M6;clear M6;have p6:=l.wI;by_cases dB:i<n
        ·have p1:=K.cell (HD.out i dB) AB;have X:=m.cell (i:=j+i) (by omega)
         have p3:=m.frozen (j+i)
         have p4:=P.out (j+i) (by omega)
         have p5:=hK.Li i dB;have s:=Lib.hid (l.same i (aU _))
         have T:=Lib.hid l;clear l;go_wp2;go_roundw
         case rel=>
          go_light;refine⟨i+1,(ys (j+i)+ds i+a)/4294967296,ep ys (j+i) ((ys (j+i)+ds i+a)%4294967296),by omega,by go_num,by simp,?_,λ k b=> ?_,λ k b=> ?_,?_,K.setCell rfl _⟩
          ·rw[eK]
           have dp:=T.out.step (by rw[<-s.out];exact p4) p5;rw[<-s.out] at dp;exact dp
          ·unfold ep;split
           ·exact Nat.mod_lt _ (by decide)
           ·exact P.out k b
          ·rw[bB _ (by omega)];exact Yu.out k b
          ·have:=m.set (j+i) ((ys (j+i)+ds i+a)%4294967296)
           simpa using this
         case measure=>simp[intOf];omega
        ·obtain rfl:n=i:=by omega
         have f:=Q.out;have A:=sB hK D.out G3.out (by show zs (j+n)<c+o;omega) (a:=a) (ts:=eC ys j) (by show vx 4294967296 (ep (eC ts j) n (zs (j+n)+4294967296-c-o)) ds n (eC ys j) a;rw[<-f];exact l)
         have W:ys (j+n)=d:=by have:=l.same n (aU _);rw[su] at this;exact this
         have X:=m.cell (i:=j+n) (by omega)
         rw[W] at X;have p3:=m.frozen (j+n)
         have wR:d+a=4294967296:=by rw[f];exact A.2.1
         have M:g1=ak 4294967296 (eC zs j) (n+1)/ak 4294967296 ds n+1:=A.1;have AD:1<=g1:=by rw[M];exact Nat.le_add_left 1 _
         have U5:=Lib.hid M;clear M;have S:=Lib.hid A.2.2;clear A;have agX:=Lib.hid wR;have aav:IntKind.u32.wrap ((d:Int)+(a:Int))=0:=by rw[IntKind.wrap_u32'];omega
         clear W f l wR;go_wp2;go_ret;refine⟨oJ (by have h9:=U5.out;generalize ak 4294967296 (eC zs j) (n+1)/ak 4294967296 ds n=qq at*;omega),ep ys (j+n) 0,?_,λ k b=> ?_,λ k b=> ?_,?_,K.setCell rfl _⟩
         ·exact m.set (j+n) 0
         ·unfold ep;split
          ·decide
          ·exact P.out k b
         ·rw[bB _ (by omega)];exact Yu.out k b
         ·rw[eK,dH,Nat.zero_mul,Nat.add_zero];exact S.out
   ·have ac0:(((r:Int)+(ds (n-1):Int))/4294967296 != 0)=false:=by simp;omega
    go_wp2;go_roundw
    case rel=>exact⟨g-1,r+ds (n-1),_,by go_num,by go_num,NN.out,HQ.out,by omega,rfl⟩
    case measure=>simp[intOf];omega
  ·have SA:((g:Int)/4294967296 != 0)=false:=by simp;omega
   have MK:=A8 (x:=zs (j+(n-2))) (y:=r) l2 T9;have BM:g*ds (n-2)<18446744073709551616:=by have:=jR (B:=4294967296) (x:=g) (y:=ds (n-2)) (z:=0) (c:=0) (by omega) m2 (by decide) (by decide);omega
   by_cases hc:r*4294967296+zs (j+(n-2))<g*ds (n-2)
   ·have E:((r*4294967296+zs (j+(n-2)):Nat):Int)<((g*ds (n-2):Nat):Int):=by omega
    have hcJ:(r:Int)*4294967296+(zs (j+(n-2)):Int)<(g:Int)*(ds (n-2):Int):=by simpa using E
    have F:=Lib.hid (hK.Zl t.out (.inr hc))
    have U4:1<=g:=Nat.lt_of_le_of_lt (eo _) F.out;have NN:Hid ((g-1)*ds (n-1)+(r+ds (n-1))=zs (j+n)*4294967296+zs (j+(n-1))):=by
     refine Lib.hid ?_;have:=t.out;obtain⟨g1,rfl⟩:∃g1,g=g1+1:=⟨g-1,by omega⟩
     rw[Nat.add_mul] at this;rw[Nat.add_sub_cancel];omega
    have HQ:Hid (ak 4294967296 (eC zs j) (n+1)/ak 4294967296 ds n<=g-1):=Lib.hid (Nat.le_sub_one_of_lt F.out)
    clear E hc V F t;go_wp2;go_quiet (fail)
    clear MK hcJ BM;by_cases hbr:4294967296<=r+ds (n-1)
    ·have ac0:(((r:Int)+(ds (n-1):Int))/4294967296 != 0)=true:=by simp;omega
     have u:=hK.Zm NN.out hbr;have G3:=Lib.hid (hK.small NN.out u.1 u.2)
     have U:=u.1;clear u;go_wp2;have eg:(g:Int)-1=((g-1:Nat):Int):=by omega
     rw[eg]
     clear eg SA Fi acZ U4;generalize g-1=g1 at*;go_loopw [9,10,88] (λ ov O iv wr=>∃(i c o:Nat)(ts:Nat->Nat),i<=n/\iv= .int .i64 (i:Int)/\O= .int .u64 (c:Int)/\ov= .int .u64 (o:Int)/\yj 4294967296 (eC zs j) ds g1 i (eC ts j) c o/\(∀k,k<L->ts k<4294967296)/\(∀k,k<j∨j+n<k->ts k=zs k)/\ly wr p L ts/\af w wr p) (λ _ _ iv _=>n-(intOf iv).toNat)
     case atStart=>exact⟨0,0,0,zs,eo _,rfl,rfl,rfl,yj.start (by decide),HZ.out,λ _ _=>rfl,a7,(af.refl w p).drewN _⟩
     case round=>
      clear c0 c1 c2 d1 d2 l1 l2 m1 m2 m0;obtain⟨i,c,o,ts,hi,rfl,rfl,rfl,e,PO,wO,h,v⟩:=hrel;have C:=Lib.hid PO;clear PO;have R:=Lib.hid wO;clear wO;have I:=e.wI;have H:=e.ole;by_cases aI:i<n
      ·have k1:=v.cell (HD.out i aI) AB;have J:=h.cell (i:=j+i) (by omega)
       have Z:=h.frozen (j+i)
       have k4:=C.out (j+i) (by omega)
       have Y:=hK.Li i aI;have k8:g1*ds i+c<18446744073709551616:=by have:=jR (B:=4294967296) (z:=0) U Y (by decide) I;omega
       have pK:=Lib.hid (e.same i (aU _))
       have D:=Lib.hid e;clear e;go_wp2;go_roundw
       case rel=>
        go_light;have Ko:((g1:Int)*(ds i:Int)+(c:Int))%4294967296=(((g1*ds i+c)%4294967296:Nat):Int):=by simp
        obtain⟨z,o',e1,u,hz,Ho,he⟩:=yV k4 (Nat.mod_lt (g1*ds i+c) (by decide)) H;rw[Ko,e1,u]
        refine⟨i+1,(g1*ds i+c)/4294967296,o',ep ts (j+i) z,by omega,by go_num,by simp,rfl,?_,λ k b=> ?_,λ k b=> ?_,h.set _ _,v.setCell rfl _⟩
        ·rw[eK];exact D.out.step U Y hz Ho (by rw[<-pK.out];exact he)
        ·unfold ep;split
         ·exact hz
         ·exact C.out k b
        ·rw[bB _ (by omega)];exact R.out k b
       case measure=>simp[intOf];omega
      ·obtain rfl:n=i:=by omega
       have J:=h.cell (i:=j+n) (by omega)
       have Z:=h.frozen (j+n)
       have G:ts (j+n)=zs (j+n):=e.same n (aU _)
       rw[G] at J;have K9:=Lib.hid G;clear G;have D:=Lib.hid e;clear e;by_cases Bt:c+o<=zs (j+n)
       ·have f1:=NL l0 I H Bt;have f2:(((zs (j+n)-c-o:Nat):Int)/9223372036854775808==0)=true:=by simp;omega
        have N:(((zs (j+n)-c-o:Nat):Int)%4294967296)=((zs (j+n)-c-o:Nat):Int):=by omega
        go_wp2;go_ret;have dr:=sA hK D.out HQ.out Bt;refine⟨oJ (by rw[<-dr.1]),ep ts (j+n) (zs (j+n)-c-o),?_,λ k b=> ?_,λ k b=> ?_,?_,v.setCell rfl _⟩
        ·rw[show((zs (j+n):Int)-(c:Int)-(o:Int))=((zs (j+n)-c-o:Nat):Int) by omega];exact h.set _ _
        ·unfold ep;split
         ·omega
         ·exact C.out k b
        ·rw[bB _ (by omega)];exact R.out k b
        ·rw[eK];exact dr.2
       ·have f1:=NM l0 I H (by omega)
        have f2:(((zs (j+n)+18446744073709551616-c-o:Nat):Int)/9223372036854775808==0)=false:=by simp;omega
        have N:(((zs (j+n)+18446744073709551616-c-o:Nat):Int)%4294967296)=((zs (j+n)+4294967296-c-o:Nat):Int):=by omega
        obtain⟨d,f⟩:∃d,d=zs (j+n)+4294967296-c-o:=⟨_,rfl⟩
        rw[<-f] at N;have iW:d<4294967296:=by omega
        have Q:=Lib.hid f;clear f;go_wp2;clear f1 f2 N;go_loopw [10,141] (λ O iv wr=>∃(i a:Nat)(ys:Nat->Nat),i<=n/\iv= .int .i64 (i:Int)/\O= .int .u64 (a:Int)/\vx 4294967296 (ep (eC ts j) n d) ds i (eC ys j) a/\(∀k,k<L->ys k<4294967296)/\(∀k,k<j∨j+n<k->ys k=zs k)/\ly wr p L ys/\af w wr p) (λ _ iv _=>n-(intOf iv).toNat)
        case atStart=>
         refine⟨0,0,ep ts (j+n) d,eo _,rfl,rfl,by rw[eK];exact vx.start,λ k b=> ?_,λ k b=> ?_,h.set _ _,v.setCell rfl _⟩
         ·unfold ep;split
          ·exact iW
          ·exact C.out k b
         ·rw[bB _ (by omega)];exact R.out k b
        case round=>
         clear J Z;obtain⟨i,a,ys,hi,rfl,rfl,l,mv,M6,m,K⟩:=hrel;have P:=Lib.hid mv;clear mv;have Yu:=Lib.hid M6;clear M6;have p6:=l.wI;by_cases dB:i<n
         ·have p1:=K.cell (HD.out i dB) AB;have X:=m.cell (i:=j+i) (by omega)
          have p3:=m.frozen (j+i)
          have p4:=P.out (j+i) (by omega)
          have p5:=hK.Li i dB;have s:=Lib.hid (l.same i (aU _))
          have T:=Lib.hid l;clear l;go_wp2;go_roundw
          case rel=>
           go_light;refine⟨i+1,(ys (j+i)+ds i+a)/4294967296,ep ys (j+i) ((ys (j+i)+ds i+a)%4294967296),by omega,by go_num,by simp,?_,λ k b=> ?_,λ k b=> ?_,?_,K.setCell rfl _⟩
           ·rw[eK]
            have dp:=T.out.step (by rw[<-s.out];exact p4) p5;rw[<-s.out] at dp;exact dp
           ·unfold ep;split
            ·exact Nat.mod_lt _ (by decide)
            ·exact P.out k b
           ·rw[bB _ (by omega)];exact Yu.out k b
           ·have:=m.set (j+i) ((ys (j+i)+ds i+a)%4294967296)
            simpa using this
          case measure=>simp[intOf];omega
         ·obtain rfl:n=i:=by omega
          have f:=Q.out;have A:=sB hK D.out G3.out (by show zs (j+n)<c+o;omega) (a:=a) (ts:=eC ys j) (by show vx 4294967296 (ep (eC ts j) n (zs (j+n)+4294967296-c-o)) ds n (eC ys j) a;rw[<-f];exact l)
          have W:ys (j+n)=d:=by have:=l.same n (aU _);rw[su] at this;exact this
          have X:=m.cell (i:=j+n) (by omega)
          rw[W] at X;have p3:=m.frozen (j+n)
          have wR:d+a=4294967296:=by rw[f];exact A.2.1
          have M:g1=ak 4294967296 (eC zs j) (n+1)/ak 4294967296 ds n+1:=A.1;have AD:1<=g1:=by rw[M];exact Nat.le_add_left 1 _
          have U5:=Lib.hid M;clear M;have S:=Lib.hid A.2.2;clear A;have agX:=Lib.hid wR;have aav:IntKind.u32.wrap ((d:Int)+(a:Int))=0:=by rw[IntKind.wrap_u32'];omega
          clear W f l wR;go_wp2;go_ret;refine⟨oJ (by have h9:=U5.out;generalize ak 4294967296 (eC zs j) (n+1)/ak 4294967296 ds n=qq at*;omega),ep ys (j+n) 0,?_,λ k b=> ?_,λ k b=> ?_,?_,K.setCell rfl _⟩
          ·exact m.set (j+n) 0
          ·unfold ep;split
           ·decide
           ·exact P.out k b
          ·rw[bB _ (by omega)];exact Yu.out k b
          ·rw[eK,dH,Nat.zero_mul,Nat.add_zero];exact S.out
    ·have ac0:(((r:Int)+(ds (n-1):Int))/4294967296 != 0)=false:=by simp;omega
     go_wp2;go_roundw
     case rel=>exact⟨g-1,r+ds (n-1),_,by go_num,by go_num,NN.out,HQ.out,by omega,rfl⟩
     case measure=>simp[intOf];omega
   ·have E:¬((r*4294967296+zs (j+(n-2)):Nat):Int)<((g*ds (n-2):Nat):Int):=by omega
    have hcJ:¬(r:Int)*4294967296+(zs (j+(n-2)):Int)<(g:Int)*(ds (n-2):Int):=by simpa using E
    have hcK:decide ((r:Int)*4294967296+(zs (j+(n-2)):Int)<(g:Int)*(ds (n-2):Int))=false:=by simpa using E
    have U:g<4294967296:=by omega
    have G3:=Lib.hid (hK.small t.out U (Nat.le_of_not_lt hc))
    have HQ:=V;clear E hc V t;go_wp2;go_quiet (fail)
    clear MK hcJ hcK BM;go_wp2;obtain⟨g1,rfl⟩:∃g1,g1=g:=⟨_,rfl⟩
    clear SA Fi acZ;go_loopw [9,10,88] (λ ov O iv wr=>∃(i c o:Nat)(ts:Nat->Nat),i<=n/\iv= .int .i64 (i:Int)/\O= .int .u64 (c:Int)/\ov= .int .u64 (o:Int)/\yj 4294967296 (eC zs j) ds g1 i (eC ts j) c o/\(∀k,k<L->ts k<4294967296)/\(∀k,k<j∨j+n<k->ts k=zs k)/\ly wr p L ts/\af w wr p) (λ _ _ iv _=>n-(intOf iv).toNat)
    case atStart=>exact⟨0,0,0,zs,eo _,rfl,rfl,rfl,yj.start (by decide),HZ.out,λ _ _=>rfl,a7,(af.refl w p).drewN _⟩
    case round=>
     clear c0 c1 c2 d1 d2 l1 l2 m1 m2 m0;obtain⟨i,c,o,ts,hi,rfl,rfl,rfl,e,PO,wO,h,v⟩:=hrel;have C:=Lib.hid PO;clear PO;have R:=Lib.hid wO;clear wO;have I:=e.wI;have H:=e.ole;by_cases aI:i<n
     ·have k1:=v.cell (HD.out i aI) AB;have J:=h.cell (i:=j+i) (by omega)
      have Z:=h.frozen (j+i)
      have k4:=C.out (j+i) (by omega)
      have Y:=hK.Li i aI;have k8:g1*ds i+c<18446744073709551616:=by have:=jR (B:=4294967296) (z:=0) U Y (by decide) I;omega
      have pK:=Lib.hid (e.same i (aU _))
      have D:=Lib.hid e;clear e;go_wp2;go_roundw
      case rel=>
       go_light;have Ko:((g1:Int)*(ds i:Int)+(c:Int))%4294967296=(((g1*ds i+c)%4294967296:Nat):Int):=by simp
       obtain⟨z,o',e1,u,hz,Ho,he⟩:=yV k4 (Nat.mod_lt (g1*ds i+c) (by decide)) H;rw[Ko,e1,u]
       refine⟨i+1,(g1*ds i+c)/4294967296,o',ep ts (j+i) z,by omega,by go_num,by simp,rfl,?_,λ k b=> ?_,λ k b=> ?_,h.set _ _,v.setCell rfl _⟩
       ·rw[eK];exact D.out.step U Y hz Ho (by rw[<-pK.out];exact he)
       ·unfold ep;split
        ·exact hz
        ·exact C.out k b
       ·rw[bB _ (by omega)];exact R.out k b
      case measure=>simp[intOf];omega
     ·obtain rfl:n=i:=by omega
      have J:=h.cell (i:=j+n) (by omega)
      have Z:=h.frozen (j+n)
      have G:ts (j+n)=zs (j+n):=e.same n (aU _)
      rw[G] at J;have K9:=Lib.hid G;clear G;have D:=Lib.hid e;clear e;by_cases Bt:c+o<=zs (j+n)
      ·have f1:=NL l0 I H Bt;have f2:(((zs (j+n)-c-o:Nat):Int)/9223372036854775808==0)=true:=by simp;omega
       have N:(((zs (j+n)-c-o:Nat):Int)%4294967296)=((zs (j+n)-c-o:Nat):Int):=by omega
       go_wp2;go_ret;have dr:=sA hK D.out HQ.out Bt;refine⟨oJ (by rw[<-dr.1]),ep ts (j+n) (zs (j+n)-c-o),?_,λ k b=> ?_,λ k b=> ?_,?_,v.setCell rfl _⟩
       ·rw[show((zs (j+n):Int)-(c:Int)-(o:Int))=((zs (j+n)-c-o:Nat):Int) by omega];exact h.set _ _
       ·unfold ep;split
        ·omega
        ·exact C.out k b
       ·rw[bB _ (by omega)];exact R.out k b
       ·rw[eK];exact dr.2
      ·have f1:=NM l0 I H (by omega)
       have f2:(((zs (j+n)+18446744073709551616-c-o:Nat):Int)/9223372036854775808==0)=false:=by simp;omega
       have N:(((zs (j+n)+18446744073709551616-c-o:Nat):Int)%4294967296)=((zs (j+n)+4294967296-c-o:Nat):Int):=by omega
       obtain⟨d,f⟩:∃d,d=zs (j+n)+4294967296-c-o:=⟨_,rfl⟩
       rw[<-f] at N;have iW:d<4294967296:=by omega
       have Q:=Lib.hid f;clear f;go_wp2;clear f1 f2 N;go_loopw [10,141] (λ O iv wr=>∃(i a:Nat)(ys:Nat->Nat),i<=n/\iv= .int .i64 (i:Int)/\O= .int .u64 (a:Int)/\vx 4294967296 (ep (eC ts j) n d) ds i (eC ys j) a/\(∀k,k<L->ys k<4294967296)/\(∀k,k<j∨j+n<k->ys k=zs k)/\ly wr p L ys/\af w wr p) (λ _ iv _=>n-(intOf iv).toNat)
       case atStart=>
        refine⟨0,0,ep ts (j+n) d,eo _,rfl,rfl,by rw[eK];exact vx.start,λ k b=> ?_,λ k b=> ?_,h.set _ _,v.setCell rfl _⟩
        ·unfold ep;split
         ·exact iW
         ·exact C.out k b
        ·rw[bB _ (by omega)];exact R.out k b
       case round=>
        clear J Z;obtain⟨i,a,ys,hi,rfl,rfl,l,mv,M6,m,K⟩:=hrel;have P:=Lib.hid mv;clear mv;have Yu:=Lib.hid M6;clear M6;have p6:=l.wI;by_cases dB:i<n
        ·have p1:=K.cell (HD.out i dB) AB;have X:=m.cell (i:=j+i) (by omega)
         have p3:=m.frozen (j+i)
         have p4:=P.out (j+i) (by omega)
         have p5:=hK.Li i dB;have s:=Lib.hid (l.same i (aU _))
         have T:=Lib.hid l;clear l;go_wp2;go_roundw
         case rel=>
          go_light;refine⟨i+1,(ys (j+i)+ds i+a)/4294967296,ep ys (j+i) ((ys (j+i)+ds i+a)%4294967296),by omega,by go_num,by simp,?_,λ k b=> ?_,λ k b=> ?_,?_,K.setCell rfl _⟩
          ·rw[eK]
           have dp:=T.out.step (by rw[<-s.out];exact p4) p5;rw[<-s.out] at dp;exact dp
          ·unfold ep;split
           ·exact Nat.mod_lt _ (by decide)
           ·exact P.out k b
          ·rw[bB _ (by omega)];exact Yu.out k b
          ·have:=m.set (j+i) ((ys (j+i)+ds i+a)%4294967296)
           simpa using this
         case measure=>simp[intOf];omega
        ·obtain rfl:n=i:=by omega
         have f:=Q.out;have A:=sB hK D.out G3.out (by show zs (j+n)<c+o;omega) (a:=a) (ts:=eC ys j) (by show vx 4294967296 (ep (eC ts j) n (zs (j+n)+4294967296-c-o)) ds n (eC ys j) a;rw[<-f];exact l)
         have W:ys (j+n)=d:=by have:=l.same n (aU _);rw[su] at this;exact this
         have X:=m.cell (i:=j+n) (by omega)
         rw[W] at X;have p3:=m.frozen (j+n)
         have wR:d+a=4294967296:=by rw[f];exact A.2.1
         have M:g1=ak 4294967296 (eC zs j) (n+1)/ak 4294967296 ds n+1:=A.1;have AD:1<=g1:=by rw[M];exact Nat.le_add_left 1 _
         have U5:=Lib.hid M;clear M;have S:=Lib.hid A.2.2;clear A;have agX:=Lib.hid wR;have aav:IntKind.u32.wrap ((d:Int)+(a:Int))=0:=by rw[IntKind.wrap_u32'];omega
         clear W f l wR;go_wp2;go_ret;refine⟨oJ (by have h9:=U5.out;generalize ak 4294967296 (eC zs j) (n+1)/ak 4294967296 ds n=qq at*;omega),ep ys (j+n) 0,?_,λ k b=> ?_,λ k b=> ?_,?_,K.setCell rfl _⟩
         ·exact m.set (j+n) 0
         ·unfold ep;split
          ·decide
          ·exact P.out k b
         ·rw[bB _ (by omega)];exact Yu.out k b
         ·rw[eK,dH,Nat.zero_mul,Nat.add_zero];exact S.out
end Go.Proofs.YtbapfnpbamnmpaaGreatDoor
namespace Go.Proofs
open Go Go.RowKit Go.Dig Go.Deep Go.Eng
section
open Go.Shelf
def Tryz.JU:Go.Shelf.Ren:=⟨λ|128=>296|n=>n,λ|51=>191|3=>3|4=>4|46=>267|5=>5|9=>9|n=>n,λ|n=>n⟩
theorem Tryz.YK:Go.Proofs.Lays.n128 Tryz.prog Tryz.JU:={
 mixed:=by kernel_rfl
 f128:=Tryz.func296.trans (congrArg some (by kernel_rfl))
 t3:=Tryz.underlying3
 a3:=Tryz.isAgg3
 z3:=Tryz.sizeOf3
 v3:=Tryz.zeroValue3
 t4:=Tryz.underlying4
 a4:=Tryz.isAgg4
 z4:=Tryz.sizeOf4
 v4:=Tryz.zeroValue4
 t5:=Tryz.underlying5
 a5:=Tryz.isAgg5
 z5:=Tryz.sizeOf5
 v5:=Tryz.zeroValue5
 t9:=Tryz.underlying9
 a9:=Tryz.isAgg9
 z9:=Tryz.sizeOf9
 v9:=Tryz.zeroValue9
 t46:=Tryz.underlying267
 a46:=Tryz.isAgg267
 z46:=Tryz.sizeOf267
 v46:=Tryz.zeroValue267
 t51:=Tryz.underlying191
 a51:=Tryz.isAgg191
 z51:=Tryz.sizeOf191
 v51:=Tryz.zeroValue191}
theorem Tryz.bits_Len32(x:Int)(w:World)(a:0<=x)(h1:x<=4294967295):
 Calls Tryz.prog 296 #[.int .u32 x] w λ e w'=>e= .returned (.int .i64 (Lib.bitLen x.toNat))/\w'=w:=Any.bits_Len32 Tryz.YK x w a h1
def Tryz.JV:Go.Shelf.Ren:=⟨λ|133=>338|128=>296|n=>n,λ|51=>191|3=>3|4=>4|46=>267|5=>5|9=>9|n=>n,λ|n=>n⟩
theorem Tryz.YL:Go.Proofs.Lays.n133 Tryz.prog Tryz.JV:={
 mixed:=by kernel_rfl
 f128:=Tryz.func296.trans (congrArg some (by kernel_rfl))
 f133:=Tryz.func338.trans (congrArg some (by kernel_rfl))
 t3:=Tryz.underlying3
 a3:=Tryz.isAgg3
 z3:=Tryz.sizeOf3
 v3:=Tryz.zeroValue3
 t4:=Tryz.underlying4
 a4:=Tryz.isAgg4
 z4:=Tryz.sizeOf4
 v4:=Tryz.zeroValue4
 t5:=Tryz.underlying5
 a5:=Tryz.isAgg5
 z5:=Tryz.sizeOf5
 v5:=Tryz.zeroValue5
 t9:=Tryz.underlying9
 a9:=Tryz.isAgg9
 z9:=Tryz.sizeOf9
 v9:=Tryz.zeroValue9
 t46:=Tryz.underlying267
 a46:=Tryz.isAgg267
 z46:=Tryz.sizeOf267
 v46:=Tryz.zeroValue267
 t51:=Tryz.underlying191
 a51:=Tryz.isAgg191
 z51:=Tryz.sizeOf191
 v51:=Tryz.zeroValue191}
theorem Tryz.bits_LeadingZeros32(x:Int)(w:World)(a:0<=x)(h1:x<=4294967295):
 Calls Tryz.prog 338 #[.int .u32 x] w λ e w'=>e= .returned (.int .i64 (32-(Lib.bitLen x.toNat:Int)))/\w'=w:=Any.bits_LeadingZeros32 Tryz.YL x w a h1
end
end Go.Proofs
namespace Go.Proofs.YtbapfnpbamnmpaaGreatDoor
open Go Go.RowKit Go.Dig Go.Deep Go.Eng Go.Proofs.Tryz
variable{w:World}
theorem Qd:(prog.info? 191).map (·.size)=some 1:=by kernel_rfl
theorem xL{ops:Array Oper}{rest:List Oper}{o:Oper}{act:Act}{Q:Exit->Act->World->Prop}(x:o.guard=none)(d s:Operand)(m p:TypeId)
 (ho:o.op= .call {callee:=.builtin .copy,args:=#[d,s],argTypes:=#[m,p]})(t:prog.underlying m=some (.slice 191))
 (g L k n f:Nat)(a:Option Addr)(hd:act.eval d= .slice (some ⟨g,0,none⟩) L k)(hs:act.eval s= .slice a n f)(zs xs:Nat->Nat)
 (u:ly w g L zs)(y:Ws w a n xs)(hn:n<=L)
 (h:∀w',ly w' g L (over xs n zs)->af w w' g->wpList prog ops Q rest (act.put o.dst (goInt n)) w'):
 wpList prog ops Q (o::rest) act w:=by
 rcases y.open with rfl|⟨E,b,off,rfl,hc⟩
 ·refine wpList_copy_nothing x d s m p ho 191 t Qd _ _ L k 0 f hd hs (by simp) ?_;refine h w ?_ (af.refl _ _)
  have e:over xs 0 zs=zs:=by funext i;simp[over]
  rw[e];exact u
 ·obtain⟨r,hb,D,A⟩:=u;have q:((List.range n).map λ i=>Value.int .u32 (xs i:Nat)).length=n:=by simp
  refine wpList_copy_own x d s m p ho 191 t Qd g 0 L k ⟨b,off,none⟩ n f hd hs r 191 hb ((List.range n).map λ i=>Value.int .u32 (xs i:Nat)) ?_ ?_ ?_ ?_ ?_
  ·rw[q];show n=min n L;omega
  ·intro j v hv;rw[List.getElem?_map] at hv;obtain⟨i,hi,rfl⟩:=Option.map_eq_some_iff.1 hv;obtain⟨z,rfl⟩:=List.getElem?_eq_some_iff.1 hi;rw[List.getElem_range]
   have C:=hc j (by simpa using z)
   rw[show(Addr.add ⟨b,off,none⟩ j)=⟨b,off+j,none⟩ by unfold Addr.add;split<;>simp_all]
   exact C
  ·rw[q];omega
  ·intro v hv;obtain⟨i,_,rfl⟩:=List.mem_map.1 hv;rfl
  ·rw[q]
   refine h _ ?_ ?_
   ·refine⟨_,setRow_heap w g _ _ 191 _ hb,?_,?_⟩
    ·simp;omega
    ·intro i hi;simp only[over]
     by_cases l:i<n
     ·rw[if_pos l]
      simp[List.getElem?_append,l]
     ·rw[if_neg l]
      simp[List.getElem?_append,l]
      rw[show n+(i-n)=i by omega]
      exact A i hi
   ·exact⟨by simp[World.setRow],λ c hc B=>setRow_other w g c _ (by omega),rfl,rfl,rfl⟩
def Qe(q r:Nat)(w:World)(e:Ending)(w':World):Prop:=∃v u,e= .returned (.tuple #[v,u])/\Nt 4294967296 w' v q/\Nt 4294967296 w' u r/\aa w w'
theorem VB{v u:Value}{m k:Nat}(hv:Nt 4294967296 w v m)(b:Nt 4294967296 w u k)(hm:m<eV)(h:m<k):
 Calls prog 277 #[v,u] w (Qe 0 m w):=by
 have c:bN m k= -1:=by simp[bN,h]
 go_enter func277,ntmps277;go_wp2_with(go_at_call 320;refine(uE (.inr rfl) hv b hm).mono ?_;rintro e w' ⟨rfl,a⟩)
 go_ret2;exact⟨_,_,rfl,ma _ _ _ _,hv.kept a,a⟩
theorem div_one{v u:Value}{m k:Nat}(hv:Nt 4294967296 w v m)(g:Nt 4294967296 w u k)(hm:m<eV)(h:k<=m)(f:0<k)(j:k<4294967296):
 Calls prog 277 #[v,u] w (Qe (m/k) (m%k) w):=by
 have F:0<=bN m k:=by unfold bN;split<;>(try split)<;>omega
 have c:=g;obtain⟨a,n,cap,xs,rfl,hc,p,hn,hval,hw⟩:=g;obtain rfl:n=1:=by
  have h1:=dC (B:=4294967296) (L:=1) (by decide) hn (by rw[hval];simpa using j)
  have h2:n≠0:=by rintro rfl;simp[ak] at hval;omega
  omega
 obtain rfl:xs 0=k:=by rw[<-hval];simp[ak]
 obtain⟨b,off,rfl,l⟩:=hw 0 (by omega)
 have z:w.cell? ⟨b,off,none⟩=some (.int .u32 (xs 0:Nat)):=l;clear l p hn hw hval;have A:=uE (.inr rfl) hv c hm;generalize bN m (xs 0)=H at*;go_enter func277,ntmps277;go_wp2_with(go_at_call 320;refine A.mono ?_;rintro e C ⟨rfl,d⟩;have G:=d.cell z)
 have y:=NK (hv.kept d) hm f j;have hr:m%xs 0<18446744073709551616:=by have:=Nat.mod_lt m f;omega
 have E:m%xs 0<4294967296:=by have:=Nat.mod_lt m f;omega
 generalize m%xs 0=r at*;generalize m/xs 0=q at*;refine y.mono ?_;rintro e o ⟨v2,rfl,t,x⟩
 go_wp2_with(go_at_call 189;refine(eQ o r hr).mono ?_;rintro e w3 ⟨D,rfl,s,i⟩)
 go_ret2;exact⟨_,_,rfl,t.kept i,s,(d.trans x).trans i⟩
end Go.Proofs.YtbapfnpbamnmpaaGreatDoor
namespace Go.Dig
open Go Go.RowKit Go.Deep Go.Eng
def lz(x:Nat):Nat:=32-Lib.bitLen x
theorem mL{x:Nat}(a:0<x)(hx:x<4294967296):1<=Lib.bitLen x/\Lib.bitLen x<=32/\2^(Lib.bitLen x-1)<=x/\x<2^Lib.bitLen x:=by
 have h1:=Lib.bitLenAux_bounds 64 x (by have:(4294967296:Nat)<2^64:=by decide
                                        omega) (by omega)
 have h2:=Lib.bitLen_le x 32 (by decide) (by simpa using hx)
 exact⟨h1.1,h2,h1.2.1,h1.2.2⟩
theorem H7{x:Nat}(a:0<x)(hx:x<4294967296):lz x<=31/\2147483648<=x*2^lz x/\(x+1)*2^lz x<=4294967296:=by
 obtain⟨h1,h2,h3,c⟩:=mL a hx;unfold lz;generalize Lib.bitLen x=b at*;refine⟨by omega,?_,?_⟩
 ·have:=wC (2^(32-b)) h3;rw[<-Nat.pow_add,show b-1+(32-b)=31 by omega] at this;exact this
 ·have:=wC (2^(32-b)) (show x+1<=2^b by omega)
  rw[<-Nat.pow_add,show b+(32-b)=32 by omega] at this;exact this
theorem DC{ys:Nat->Nat}{n:Nat}(hn:0<n)(a:∀i,i<n->ys i<4294967296)(b:0<ys (n-1)):
 2147483648*4294967296^(n-1)<=ak 4294967296 ys n*2^lz (ys (n-1))/\ak 4294967296 ys n*2^lz (ys (n-1))<4294967296^n:=by
 obtain⟨_,h2,h3⟩:=H7 b (a (n-1) (by omega))
 obtain⟨k,rfl⟩:∃k,n=k+1:=⟨n-1,by omega⟩
 simp only[Nat.add_sub_cancel] at*;have hv:=dJ (B:=4294967296) (n:=k) λ i hi=>a i (by omega)
 simp only[ak]
 rw[Nat.pow_succ]
 have hS:0<2^lz (ys k):=Nat.pow_pos (by decide)
 generalize 2^lz (ys k)=S at*;generalize (4294967296:Nat)^k=P at*;generalize ak 4294967296 ys k=V at*;generalize ys k=t at*;constructor
 ·have e1:2147483648*P<=t*S*P:=wC _ h2;have c:(V+t*P)*S=V*S+t*S*P:=by grind
  omega
 ·have e1:(V+t*P)*S<(t+1)*P*S:=Nat.mul_lt_mul_of_pos_right (by rw[Nat.add_mul];omega) hS;have c:(t+1)*P*S=(t+1)*S*P:=by grind
  have e:(t+1)*S*P<=4294967296*P:=wC _ h3;have d:4294967296*P=P*4294967296:=Nat.mul_comm ..;omega
theorem Bu{ds:Nat->Nat}{n nd D:Nat}(hn:0<n)(hd:∀i,i<nd->ds i<4294967296)(d:tQ ds nd)(hv:ak 4294967296 ds nd=D)
 (h1:2147483648*4294967296^(n-1)<=D)(h2:D<4294967296^n):nd=n/\4294967296<=2*ds (n-1):=by
 have e:nd=n:=by
  have a:=dC (B:=4294967296) (by decide) d (by rw[hv];exact h2)
  by_cases h:nd<n
  ·have b:=dJ hd;have c:(4294967296:Nat)^nd<=4294967296^(n-1):=Nat.pow_le_pow_right (by decide) (by omega)
   have:0<(4294967296:Nat)^(n-1):=Nat.pow_pos (by decide)
   omega
  ·omega
 subst e;refine⟨rfl,?_⟩
 obtain⟨k,rfl⟩:∃k,nd=k+1:=⟨nd-1,by omega⟩
 simp only[Nat.add_sub_cancel] at*;have b:=dJ (B:=4294967296) (n:=k) λ i hi=>hd i (by omega)
 have g:ak 4294967296 ds (k+1)=ak 4294967296 ds k+ds k*4294967296^k:=rfl;have f:2147483648*4294967296^k<(ds k+1)*4294967296^k:=by rw[Nat.add_mul];omega
 have:=Nat.lt_of_mul_lt_mul_right f;omega
theorem Bv{m D na n s:Nat}(hm:m<4294967296^na)(hs:s<=31)(hn:0<n)(c:n<=na)(d:2147483648*4294967296^(n-1)<=D):
 m*2^s<D*4294967296^(na-n+1)/\m*2^s<4294967296^(na+1):=by
 have h1:2^s<=2147483648:=by
  have:=Nat.pow_le_pow_right (n:=2) (by decide) hs;simpa using this
 have hp:0<(4294967296:Nat)^na:=Nat.pow_pos (by decide)
 have hS:0<2^s:=Nat.pow_pos (by decide)
 have h2:m*2^s<4294967296^na*2147483648:=by
  have a:m*2^s<4294967296^na*2^s:=Nat.mul_lt_mul_of_pos_right hm hS;have b:4294967296^na*2^s<=4294967296^na*2147483648:=Nat.mul_le_mul_left _ h1;omega
 constructor
 ·have a:2147483648*4294967296^(n-1)*4294967296^(na-n+1)<=D*4294967296^(na-n+1):=wC _ d;rw[Nat.mul_assoc,<-Nat.pow_add,show n-1+(na-n+1)=na by omega] at a;have b:2147483648*4294967296^na=4294967296^na*2147483648:=Nat.mul_comm ..;omega
 ·rw[Nat.pow_succ]
  exact jf h2 (Nat.mul_le_mul_left _ (by decide))
end Go.Dig
namespace Go.Proofs.YtbapfnpbamnmpaaGreatDoor
open Go Go.RowKit Go.Dig Go.Deep Go.Eng Go.Proofs.Tryz
variable{w:World}{g n:Nat}{zs:Nat->Nat}
theorem VC(w:World)(x:Nat)(a:0<x)(hx:x<4294967296):Calls prog 338 #[.int .u32 (x:Int)] w λ e w'=>e= .returned (.int .i64 (lz x:Nat))/\w=w':=by
 refine(Tryz.bits_LeadingZeros32 (x:Int) w (by omega) (by omega)).mono λ e w' ⟨he,hw⟩=>⟨?_,hw.symm⟩
 have h:=mL a hx;rw[he,Int.toNat_natCast]
 unfold lz;congr 2;omega
theorem Ws.ai{w':World}{a:Option Addr}(h:Ws w a n zs)(k:af w w' g)(hb:∀i,i<n->∃b off,a=some ⟨b,off,none⟩/\b≠g):Ws w' a n zs:=λ i hi=>by
 obtain⟨b,off,e,hc⟩:=h i hi;obtain⟨b',d,e',c⟩:=hb i hi;rw[e] at e';cases e'
 exact⟨b,off,e,k.cell hc c⟩
theorem Ws.setOther{a:Option Addr}{p:Nat}(h:Ws w a n zs)(hb:∀i,i<n->∃b off,a=some ⟨b,off,none⟩/\b≠g)(v:Value):Ws (w.setCell ⟨g,p,none⟩ v) a n zs:=λ i hi=>by
 obtain⟨b,off,e,hc⟩:=h i hi;obtain⟨b',d,e',c⟩:=hb i hi;rw[e] at e';cases e'
 exact⟨b,off,e,by rw[World.cell?_setCell_other];exact hc;intro h;cases h;exact c rfl⟩
theorem ly.ai{w':World}{b:Nat}(h:ly w b n zs)(k:af w w' g)(hb:b≠g):ly w' b n zs:=World.rowIs.of_block h (k.old b (World.rowIs.lt h) hb)
theorem VD{v:Value}{m:Nat}(a n b off cap:Nat)(av:Option Addr)(ac3:Nat)(ys:Nat->Nat)
 (hv:Nt 4294967296 w v m)(hve:v= .slice av a ac3)(H:m<4294967296^a)(hm:m<eV)
 (hu:Nt 4294967296 w (.slice (some ⟨b,off,none⟩) n cap) (ak 4294967296 ys n))
 (hn:2<=n)(aaw:n<=512)(eZ:0<ak 4294967296 ys n)(hna:n<=a)(atQ:a<=1024)(mv:∀i,i<n->ys i<4294967296)(f:0<ys (n-1))
 (hy:∀i,i<n->w.cell? ⟨b,off+i,none⟩=some (.int .u32 (ys i:Nat)))(hk:ak 4294967296 ys n<eV)(hle:ak 4294967296 ys n<=m):
 Calls prog 277 #[v,.slice (some ⟨b,off,none⟩) n cap] w (Qe (m/ak 4294967296 ys n) (m%ak 4294967296 ys n) w):=by
 have OA:0<=bN m (ak 4294967296 ys n):=by unfold bN;split<;>(try split)<;>omega
 have BX:=uE (.inr rfl) hv hu hm;generalize bN m (ak 4294967296 ys n)=ci at*;have UM:=mv (n-1) (by omega)
 have c1:=hy (n-1) (by omega)
 obtain⟨UC,Sz⟩:=DC (by omega) mv f;obtain⟨amR,_,_⟩:=H7 f UM;have hlz:=λ w=>VC w (ys (n-1)) f UM;generalize lz (ys (n-1))=s at*;generalize ak 4294967296 ys n=k at*;have Wo:=Lib.hid UC;clear UC;have Wp:=Lib.hid Sz;clear Sz;obtain⟨V,U⟩:=Bv H amR (by omega) hna Wo.out;have HM1:=Lib.hid V;clear V;have HM2:=Lib.hid U;clear U;clear H hy mv;have nV:=λ w=>run_make_row' (P:=prog) 22 191 (.int .u32 0) 4 underlying22 fO rfl .i64 .i64 (a+1) (by omega) (by omega) w;have ec:((a+1:Nat):Int)=(a:Int)+1:=by omega
 rw[ec] at nV;clear ec;have I:=λ w=>run_make_row' (P:=prog) 22 191 (.int .u32 0) 4 underlying22 fO rfl .i64 .i64 (a-n+1) (by omega) (by omega) w;have ec:((a-n+1:Nat):Int)=(a:Int)-(n:Int)+1:=by omega
 rw[ec] at I;clear ec;subst hve;have q1:((n:Int)==1)=false:=by simp;omega
 go_enter func277,ntmps277;go_wp2_with(go_at_call 320;refine BX.mono ?_;rintro e w1 ⟨rfl,N⟩;have c2:=N.cell c1)
 refine(hlz _).mono ?_;rintro e w1' ⟨rfl,rfl⟩
 go_wp2_with fail
 refine(ES (hu.kept N) hk (show s<=100000 by omega)).mono ?_;rintro e r ⟨vd,rfl,oy,cJ⟩
 obtain⟨ad,c,aY,ds,rfl,FA,SQ,xX,Is,u⟩:=oy;obtain⟨rfl,hdt⟩:=Bu (by omega) SQ xX Is Wo.out Wp.out;go_wp2_with fail
 have xU:aa w (r.alloc (Obj.cells (madeCells #[Value.int IntKind.u32 0] (a+1)) 191)):=(N.trans cJ).alloc _;have D:=ly.made r (a+1)
 have R:=u.kept ((aa.refl r).alloc (Obj.cells (madeCells #[Value.int IntKind.u32 0] (a+1)) 191))
 have S:w.heap.size<=r.heap.size:=(N.trans cJ).size;refine(ES (hv.kept xU) hm (show s<=100000 by omega)).mono ?_;rintro e w3 ⟨vs,rfl,hvs,Z⟩
 obtain⟨sa,ns,af7,ss,rfl,jr,St,Lw,DH,OI⟩:=hvs;have F:ns<=a+1:=dC (B:=4294967296) (by decide) Lw (by rw[DH];exact HM2.out)
 have C:=D.kept Z;have Q:=R.kept Z;have qA:=xU.trans Z;have BM:∀i,i<c->∃b off,ad=some ⟨b,off,none⟩/\b≠r.heap.size:=λ i hi=>by
  obtain⟨b',x,e,UQ⟩:=u i hi;have aI:=World.block_lt_of_cell? _ _ UQ;exact⟨b',x,e,Nat.ne_of_lt aI⟩
 have X:=Lib.hid BM;clear xU D R N cJ Z u BM nV;generalize r.heap.size=o at*;go_wp2_with(with_reducible refine xL rfl (.tmp 47) (.tmp 50) 22 215 rfl underlying22 o (a+1) (a+1) ns af7 sa rfl rfl (λ _=>0) ss C OI F ?_;intro d g h)
 clear I;have CT:aa w d:=qA.but h S;have hbq:o<d.heap.size:=World.rowIs.lt g;have A:=ly.made d (a-c+1)
 have z:ly (d.alloc (.cells (madeCells #[.int .u32 0] (a-c+1)) 191)) o (a+1) (over ss ns λ _=>0):=World.rowIs.alloc g _;have j:Ws d ad c ds:=Q.ai h X.out;have O:=j.kept ((aa.refl d).alloc (.cells (madeCells #[.int .u32 0] (a-c+1)) 191))
 have fK:w.heap.size<=d.heap.size:=CT.size;have GR:=CT.alloc (.cells (madeCells #[.int .u32 0] (a-c+1)) 191)
 have M:LD 4294967296 (k*2^s) c (m*2^s) (a-c+1) (a+1) (a-c+1) (over ss ns λ _=>0) (λ _=>0):=by
  refine LD.start (by decide) (by omega) (λ i hi=> ?_) HM1.out ?_
  ·unfold over;split
   ·exact St i ‹_›
   ·show(0:Nat)<4294967296;decide
  ·rw[uO F];exact DH
 have T:∀i,i<c->∃b off,ad=some ⟨b,off,none⟩/\b≠d.heap.size:=λ i hi=>by
  obtain⟨b',x,e,UQ⟩:=j i hi;have aI:=World.block_lt_of_cell? _ _ UQ;exact⟨b',x,e,Nat.ne_of_lt aI⟩
 have amT:=Lib.hid T;clear T;generalize d.heap.size=bq at*;have Yv:m%k*2^s<eV:=by
  have h1:m%k*2^s<k*2^s:=Nat.mul_lt_mul_of_pos_right (Nat.mod_lt _ eZ) (Nat.pow_pos (by decide))
  have h2:(4294967296:Nat)^c<=eV:=by
   obtain⟨L,hL⟩:∃L,L=512:=⟨512,rfl⟩
   rw[<-Zi hL]
   exact Nat.pow_le_pow_right (by decide) (by omega)
  exact jf (Nat.lt_trans h1 Wp.out) h2
 have UP:bq≠o:=by omega
 have hDp:0<k*2^s:=jf (Nat.mul_pos (by decide) (Nat.pow_pos (by decide))) Wo.out;have hDn:k*2^s<=4294967296^c:=Nat.le_of_lt Wp.out;go_loopw [12] (λ jv wr=>∃(t:Nat)(us qs:Nat->Nat),t<=a-c+1/\jv= .int .i64 ((t:Int)-1)/\LD 4294967296 (k*2^s) c (m*2^s) (a-c+1) (a+1) t us qs/\ly wr o (a+1) us/\ly wr bq (a-c+1) qs/\Ws wr ad c ds/\aa w wr) (λ jv _=>(intOf jv+1).toNat)
 case atStart=>exact⟨a-c+1,_,_,aU _,by first|rfl|go_num|(congr 1;omega),M,z,A,O,GR⟩
 case round=>
  clear A z j O M OI Q C g GR CT qA h c1 c2 DH;have Wq:=Lib.hid Is;clear Is;obtain⟨t,us,qs,ht,rfl,M,QX,Y,u,aT⟩:=hrel;have p:=Lib.hid M;clear M;cases t with
  |zero=>
   have zV:=p.out.done (by omega)
   have J:=p.out.ult;have K:=p.out.Zk;have l:m*2^s/(k*2^s)=m/k/\m*2^s%(k*2^s)=m%k*2^s:=⟨Nat.mul_div_mul_right _ _ (Nat.pow_pos (by decide)),Nat.mul_mod_mul_right ..⟩
   rw[l.1,l.2] at zV;have G:=iX (B:=4294967296) (cap:=a-c+1) (aU _) (λ i _=>K i) (Y.ws (aU _))
   have E:=iX (B:=4294967296) (cap:=a+1) (aU _) J (QX.ws (aU _))
   rw[zV.1] at G;rw[zV.2] at E;clear zV J K l;go_wp2_with fail
   refine(gO wr _ (a-c+1) (a-c+1) qs (by omega) (aU _) (Y.ws (aU _))).mono ?_;rintro e w' ⟨rfl,rfl⟩
   go_wp2_with fail
   refine(gO wr _ (a+1) (a+1) us (by omega) (aU _) (QX.ws (aU _))).mono ?_;rintro e w' ⟨rfl,rfl⟩
   go_wp2_with fail
   have y:=yT E Yv (show s<=100000 by omega)
   rw[Nat.mul_div_cancel _ (Nat.pow_pos (by decide))] at y;refine y.mono ?_;rintro e w6 ⟨v6,rfl,hv6,Ce⟩
   go_wp2;go_ret2;exact⟨_,_,rfl,G.kept Ce,hv6,aT.trans Ce⟩
  |succ t=>
   rcases u.open with h0|⟨_,bd,tL,rfl,hdc⟩
   ·omega
   have US:bd≠o:=by
    obtain⟨b',x,e,dL⟩:=X.out 0 (by omega)
    cases e
    exact dL
   have acf:bd≠bq:=by
    obtain⟨b',x,e,dL⟩:=amT.out 0 (by omega)
    cases e
    exact dL
   have W:Kn 4294967296 (eC us t) ds c:=⟨hn,by decide,SQ,λ i hi=>p.out.ult (t+i) (by omega),hdt,by rw[Wq.out];exact p.out.Fj (by decide)⟩
   have hqc:=Y.cell (i:=t) (by omega)
   have W4:=Kk wr o (a+1) t (a+1-t) bd tL aY c us ds (by omega) (by omega) (by omega) US W QX p.out.ult hdc;rw[show c+1=t+c+1-t by omega] at W4;go_wp2_with fail
   refine W4.mono ?_;rintro e w5 ⟨rfl,Fk,hr5,hl5,hs5,hv5,Na⟩
   have Nb:=Y.ai Na UP;have al0:=Nb.cell (i:=t) (by omega)
   have al3:=Nb.frozen t;have hql:ak 4294967296 (eC us t) (c+1)/ak 4294967296 ds c<4294967296:=W.Zk;have dp:=Lib.hid (p.out.step (by decide) hDp hDn (by omega) (by omega) hl5 hs5 (by rw[<-Wq.out];exact hv5))
   rw[<-Wq.out] at dp;generalize ak 4294967296 (eC us t) (c+1)/ak 4294967296 ds c=q at*;go_wp2;go_roundw
   case rel=>
    refine⟨t,Fk,ep qs t q,by omega,rfl,by rw[<-Wq.out];exact dp.out,World.rowIs.setOther hr5 (λ e=>UP e.symm) _,Nb.set _ _,?_,(aT.but Na S).setCell (by simpa using fK) _⟩
    exact(u.ai Na (λ i hi=>⟨bd,tL,rfl,US⟩)).setOther (λ i hi=>⟨bd,tL,rfl,acf⟩) _
   case measure=>simp[intOf]
theorem qC{v u:Value}{m k:Nat}(hv:Nt 4294967296 w v m)(d:Nt 4294967296 w u k)(hm:m<eV)(r:k<eV)(o:0<k):
 Calls prog 277 #[v,u] w (Qe (m/k) (m%k) w):=by
 by_cases h1:m<k
 ·rw[Nat.div_eq_of_lt h1,Nat.mod_eq_of_lt h1]
  exact VB hv d hm h1
 ·by_cases h2:k<4294967296
  ·exact div_one hv d hm (by omega) o h2
  ·have g:=hv;have i:=d;obtain⟨a,e,p,xs,rfl,A,q,x,rfl,C⟩:=hv;obtain⟨b,n,cap,ys,rfl,z,c,f,rfl,s⟩:=d;have y:2<=n:=by
    match n,c with
    |0,_=>simp[ak] at o
    |1,c=>have:=c 0 (by omega);simp[ak] at h2;omega
    |n+2,_=>omega
   have l:=D3 f r;have j:n<=e:=by
    by_cases h:e<n
    ·exact absurd (lH (by decide) q f h) h1
    ·omega
   rcases s.open with D|⟨_,B,off,rfl,t⟩
   ·omega
   ·exact VD e n B off cap a p ys g rfl (dJ q) hm i y l o j (cV (.inr rfl) x hm) c (by rcases f with h|h<;>omega) t r (by omega)
end Go.Proofs.YtbapfnpbamnmpaaGreatDoor
namespace Go.Dig
open Go Go.RowKit Go.Deep Go.Eng
def v2(m:Nat):Nat:=Lib.ctzFrom m m
theorem tV{m:Nat}(h:0<m):∃o,m=2^v2 m*(2*o+1):=by
 obtain⟨o,ho,_⟩:=Lib.ctzFrom_spec m m h Nat.lt_two_pow_self;exact⟨o,ho⟩
theorem rE:∀{a b x y:Nat},2^a*(2*x+1)=2^b*(2*y+1)->a=b
 |0,0,_,_,_=>rfl
 |0,b+1,x,y,h=>by
  have e:2^(b+1)*(2*y+1)=2*(2^b*(2*y+1)):=by rw[Nat.pow_succ];grind
  simp only[Nat.pow_zero,Nat.one_mul] at h;omega
 |a+1,0,x,y,h=>by
  have e:2^(a+1)*(2*x+1)=2*(2^a*(2*x+1)):=by rw[Nat.pow_succ];grind
  simp only[Nat.pow_zero,Nat.one_mul] at h;omega
 |a+1,b+1,x,y,h=>by
  have e1:2^(b+1)*(2*y+1)=2*(2^b*(2*y+1)):=by rw[Nat.pow_succ];grind
  have c:2^(a+1)*(2*x+1)=2*(2^a*(2*x+1)):=by rw[Nat.pow_succ];grind
  have:=rE (a:=a) (b:=b) (x:=x) (y:=y) (by omega)
  omega
theorem SR{m k o:Nat}(h:m=2^k*(2*o+1)):v2 m=k:=by
 have hm:0<m:=by rw[h];exact Nat.mul_pos (Nat.pow_pos (by decide)) (by omega)
 obtain⟨o',a⟩:=tV hm;exact rE (a.symm.trans h)
theorem aek{m:Nat}(h:0<m):2^v2 m<=m:=by
 obtain⟨o,ho⟩:=tV h;have:2^v2 m*1<=2^v2 m*(2*o+1):=Nat.mul_le_mul_left _ (by omega)
 omega
theorem H8(B:Nat)(ys:Nat->Nat):∀k,ak B ys (k+1)=ys 0+B*ak B (λ i=>ys (i+1)) k
 |0=>by simp[ak]
 |k+1=>by
  have ih:=H8 B ys k;have e:ak B ys (k+1+1)=ak B ys (k+1)+ys (k+1)*B^(k+1):=rfl;have a:ak B (λ i=>ys (i+1)) (k+1)=ak B (λ i=>ys (i+1)) k+ys (k+1)*B^k:=rfl;rw[e,a,ih,Nat.pow_succ]
  grind
theorem aaM{xs:Nat->Nat}{n i:Nat}(hi:i<n)(a:∀j,j<i->xs j=0)(hx:0<xs i)(b:xs i<4294967296):v2 (ak 4294967296 xs n)=32*i+Lib.ctz 32 (xs i):=by
 have h1:=qI 4294967296 xs i (n-i)
 rw[show i+(n-i)=n by omega,lI _ _ _ a,lp] at h1;obtain⟨k,c⟩:∃k,n-i=k+1:=⟨n-i-1,by omega⟩
 rw[c,H8] at h1;have e0:eC xs i 0=xs i:=rfl;rw[e0] at h1;generalize ak 4294967296 (λ j=>eC xs i (j+1)) k=R at*;have hc:Lib.ctz 32 (xs i)=Lib.ctzFrom 32 (xs i):=by unfold Lib.ctz;rw[if_neg (by omega)]
 obtain⟨o,ho,e⟩:=Lib.ctzFrom_spec 32 (xs i) hx (by simpa using b)
 rw[hc]
 generalize Lib.ctzFrom 32 (xs i)=t at*;have hp:=Fg (r:=t) (by omega)
 refine SR (o:=o+2^(31-t)*R) ?_;rw[h1,H4]
 have d:2^(32-t)=2*2^(31-t):=by rw[<-Nat.pow_succ'];congr 1;omega
 rw[d] at hp;rw[Nat.pow_add]
 generalize 2^(32*i)=P at*;generalize 2^t=T at*;generalize 2^(31-t)=S at*;rw[<-hp,ho]
 grind
theorem SS{xs:Nat->Nat}{n:Nat}(hn:0<n)(hx:∀i,i<n->xs i<4294967296)(a:0<xs (n-1)):
 2^(32*(n-1)+Lib.bitLen (xs (n-1))-1)<=ak 4294967296 xs n/\ak 4294967296 xs n<2^(32*(n-1)+Lib.bitLen (xs (n-1))):=by
 obtain⟨h1,h2,h3,c⟩:=mL a (hx (n-1) (by omega))
 obtain⟨k,rfl⟩:∃k,n=k+1:=⟨n-1,by omega⟩
 simp only[Nat.add_sub_cancel] at*;have hv:=dJ (B:=4294967296) (n:=k) λ i hi=>hx i (by omega)
 simp only[ak]
 rw[H4] at*;generalize Lib.bitLen (xs k)=b at*;rw[show 32*k+b-1=32*k+(b-1) by omega,Nat.pow_add,Nat.pow_add]
 generalize 2^(32*k)=P at*;constructor
 ·have:=Nat.mul_le_mul_left P h3;rw[Nat.mul_comm P (xs k)] at this;omega
 ·have:(xs k+1)*P<=2^b*P:=wC _ c;rw[Nat.add_mul,Nat.mul_comm (2^b)] at this;omega
theorem H9{m b:Nat}(h1:1<=b)(h2:2^(b-1)<=m)(h3:m<2^b):v2 m=b-1↔m=2^(b-1):=by
 constructor
 ·intro h;obtain⟨o,ho⟩:=tV (m:=m) (by have:=Nat.pow_pos (n:=b-1) (show 0<2 by decide);omega)
  rw[h] at ho;have e:2^b=2^(b-1)*2:=by rw[<-Nat.pow_succ];congr 1;omega
  rw[e,ho] at h3;have:=Nat.lt_of_mul_lt_mul_left h3;have:o=0:=by omega
  rw[ho,this];simp
 ·intro h;exact SR (o:=0) (by rw[h];simp)
theorem Ia{a b k:Nat}(ha:2^k∣a)(hb:2^k∣b):Nat.gcd (a/2^k) (b/2^k)=Nat.gcd a b/2^k:=(Nat.gcd_div ha hb)
theorem SU{m k:Nat}(h:0<m)(a:k<=v2 m):2^k∣m:=by
 obtain⟨o,ho⟩:=tV h;refine Nat.dvd_trans (Nat.pow_dvd_pow 2 a) ?_;exact⟨2*o+1,ho⟩
theorem Bw{a g k:Nat}(h1:2^k∣a)(h2:2^k∣g):a/2^k/(g/2^k)=a/g:=by
 obtain⟨x,rfl⟩:=h1;obtain⟨y,rfl⟩:=h2;have hp:0<2^k:=Nat.pow_pos (by decide)
 rw[Nat.mul_div_cancel_left _ hp,Nat.mul_div_cancel_left _ hp,Nat.mul_div_mul_left _ _ hp]
theorem rF{a e:Nat}(h:e=0∨a%2=1):Nat.gcd a (2^e)=1:=by
 rcases h with rfl|h
 ·simp
 ·have:Nat.Coprime a 2:=by
   unfold Nat.Coprime;rw[Nat.gcd_comm,Nat.gcd_rec,h]
   simp
  exact this.pow_right e
theorem SV{m k:Nat}(h:0<m)(a:k<=v2 m):v2 (m/2^k)=v2 m-k:=by
 obtain⟨o,ho⟩:=tV h;refine SR (o:=o) ?_;have e:2^v2 m=2^k*2^(v2 m-k):=by rw[<-Nat.pow_add];congr 1;omega
 have hp:0<2^k:=Nat.pow_pos (by decide)
 conv=>lhs;rw[ho,e,Nat.mul_assoc,Nat.mul_div_cancel_left _ hp]
theorem zg{m:Nat}(h:0<m)(a:v2 m=0):m%2=1:=by
 obtain⟨o,ho⟩:=tV h;rw[a] at ho;omega
end Go.Dig
namespace Go.Proofs.YtbapfnpbamnmpaaGreatDoor
open Go Go.RowKit Go.Dig Go.Deep Go.Eng Go.Proofs.Tryz
variable{w w':World}{v:Value}{b m:Nat}{t:TypeId}
def cL(w:World):Prop:=TabAt 3 Lib.deBruijn32tab w
theorem cL.kept(h:cL w)(k:aa w w'):cL w':=λ j a=>k.cell (h j a)
theorem YV(x k idx:Nat)(w:World)(a:((x:Int)==0)=false)
 (key:bits BinOp.and IntKind.u32 (x:Int) (-(x:Int)%4294967296)*125613361%4294967296/134217728=(idx:Int))
 (hi:idx<32)(b:k<32)(c:w.cell? ⟨3,idx,none⟩=some (.int .u8 k)):
 Calls prog 337 #[.int .u32 x] w λ e w'=>e= .returned (.int .i64 k)/\w'=w:=by
 go_enter func337,ntmps337;go_wp2_with(simp only[key])
 go_ret;exact⟨rfl,rfl⟩
theorem VE(x:Nat)(g:0<x)(hx:x<4294967296)(w:World)(f:cL w):
 Calls prog 337 #[.int .u32 x] w λ e w'=>e= .returned (.int .i64 (Lib.ctz 32 x:Nat))/\w=w':=by
 obtain⟨d,b⟩:=Lib.lowest_bit 32 x (by omega) (by simpa using hx)
 obtain⟨hi,a⟩:=Lib.deBruijn32_at _ b;have c:=f _ hi;rw[a] at c;exact(YV x _ _ w (by simp;omega) (tz32_key x _ hx (by omega) d) hi b c).mono λ e w' ⟨h1,h2⟩=>⟨h1,h2.symm⟩
theorem R7(w:World)(b off cap n i:Nat)(xs:Nat->Nat)(hn:n<=1024)(t:i<n)(f:cL w)
 (a:0<xs i)(l:xs i<4294967296)(g:∀j,j<i->xs j=0)
 (hx:∀i,i<n->w.cell? ⟨b,off+i,none⟩=some (.int .u32 (xs i:Nat))):
 Calls prog 273 #[.slice (some ⟨b,off,none⟩) n cap] w λ e w'=>e= .returned (.int .i64 ((32*i+Lib.ctz 32 (xs i):Nat):Int))/\w=w':=by
 have q:=Lib.hid hx;clear hx;have p:=Lib.hid g;clear g;have d:=VE (xs i) a l w f;have o:Lib.ctz 32 (xs i)<=32:=by
  unfold Lib.ctz;split
  ·omega
  ·obtain⟨_,_,h⟩:=Lib.ctzFrom_spec 32 (xs i) a (by simpa using l)
   omega
 have u:=Lib.hid f;clear f;go_enter func273,ntmps273;go_wp2;go_loop [7] (λ c=>∃k:Nat,k<=i/\c= .int .i64 (k:Int)) (λ c=>n-(intOf c).toNat)
 case atStart=>exact⟨0,eo _,rfl⟩
 case round=>
  obtain⟨k,s,rfl⟩:=hrel;have h1:=q.out k (by omega)
  by_cases m:k=i
  ·subst m;have q1:((xs k:Int) != 0)=true:=by simp;omega
   have r:((xs k:Int)==0)=false:=by simp;omega
   go_wp2_with(go_at_call 337;refine d.mono ?_;rintro e w' ⟨rfl,rfl⟩)
   go_ret;exact⟨oJ (by omega),rfl⟩
  ·have h2:=p.out k (by omega)
   rw[h2] at h1;clear h2;go_wp2;go_round;case rel=>exact⟨k+1,by omega,by go_num⟩
   case measure=>simp[intOf];omega
theorem vp{xs:Nat->Nat}:∀{n:Nat},(∃i,i<n/\xs i≠0)->∃i,i<n/\xs i≠0/\∀j,j<i->xs j=0
 |0,⟨i,hi,_⟩=>by omega
 |n+1,⟨i,hi,hx⟩=>by
  by_cases h:∃i,i<n/\xs i≠0
  ·obtain⟨j,a,h1,h2⟩:=vp h;exact⟨j,by omega,h1,h2⟩
  ·have b:∀j,j<n->xs j=0:=λ j a=>by
    by_cases e:xs j=0
    ·exact e
    ·exact absurd ⟨j,a,e⟩ h
   have:i=n:=by
    by_cases e:i<n
    ·exact absurd (b i e) hx
    ·omega
   subst this;exact⟨i,by omega,hx,b⟩
theorem nP(hv:Nt 4294967296 w v m)(hm:m<eV)(j:0<m)(g:cL w):
 Calls prog 273 #[v] w λ e w'=>e= .returned (.int .i64 (v2 m:Nat))/\w=w':=by
 obtain⟨a,n,cap,xs,rfl,hc,hd,hn,rfl,hw⟩:=hv;have f:=cV (.inr rfl) hn hm;rcases hw.open with rfl|⟨k,b,off,rfl,hx⟩
 ·simp[ak] at j
 ·obtain⟨i,hi,d,c⟩:=vp (xs:=xs) (n:=n) ⟨n-1,by omega,by rcases hn with h|h;omega;exact h⟩
  rw[aaM hi c (by omega) (hd i hi)]
  exact R7 w b off cap n i xs f hi g (by omega) (hd i hi) c hx
theorem R8(w:World)(b off cap n:Nat)(xs:Nat->Nat)(hn:n<=1024)(f:0<n)(c:xs (n-1)<4294967296)
 (hx:w.cell? ⟨b,off+(n-1),none⟩=some (.int .u32 (xs (n-1):Nat))):
 Calls prog 275 #[.slice (some ⟨b,off,none⟩) n cap] w λ e w'=>e= .returned (.int .i64 ((32*(n-1)+Lib.bitLen (xs (n-1)):Nat):Int))/\w=w':=by
 have q1:((n:Int)==0)=false:=by simp;omega
 have d:=Lib.bitLen_le (xs (n-1)) 32 (by decide) (by simpa using c)
 have a:=Tryz.bits_Len32 (xs (n-1):Int) w (by omega) (by omega)
 rw[Int.toNat_natCast] at a;go_enter func275,ntmps275;go_wp2_with(go_at_call 296;refine a.mono ?_;rintro e w' ⟨rfl,rfl⟩)
 go_ret;exact⟨oJ (by omega),rfl⟩
theorem De(hv:Nt 4294967296 w v m)(hm:m<eV)(g:0<m):
 Calls prog 275 #[v] w λ e w'=>∃b:Nat,e= .returned (.int .i64 (b:Int))/\w=w'/\b<=40000/\1<=b/\2^(b-1)<=m/\m<2^b:=by
 obtain⟨a,n,cap,xs,rfl,hc,hd,hn,rfl,hw⟩:=hv;have f:=cV (.inr rfl) hn hm;rcases hw.open with rfl|⟨d,b,off,rfl,hx⟩
 ·simp[ak] at g
 ·have c:0<xs (n-1):=by rcases hn with h|h<;>omega
  have hf:=SS d hd c;have i:=mL c (hd (n-1) (by omega))
  exact(R8 w b off cap n xs f d (hd _ (by omega)) (hx _ (by omega))).mono λ e w' ⟨h1,h2⟩=>⟨_,h1,h2,by omega,by omega,hf.1,hf.2⟩
theorem ER{u:Value}{k:Nat}(hv:Nt 4294967296 w v m)(q:Nt 4294967296 w u k)(hm:m<eV)(r:k<eV):
 Calls prog 276 #[v,u] w (eX 4294967296 (Nat.gcd k m) w):=by
 go_enter func276,ntmps276;go_wp2;go_loopg [0,1] k (λ y a b wr=>∃x:Nat,Nt 4294967296 wr a x/\Nt 4294967296 wr b y/\x<eV/\y<eV/\Nat.gcd y x=Nat.gcd k m/\aa w wr)
 case atStart=>exact⟨m,hv,q,hm,r,rfl,aa.refl _⟩
 case round=>
  obtain⟨x,hx,g,hxb,c,l,i⟩:=hrel;have p:=Lib.hid l;clear l;have f:=g;obtain⟨ab,n,cap,ys,rfl,hc,hd,hn,h,hw⟩:=f;have d:=oK (B:=4294967296) (by decide) hn;rw[h] at d;have o:=Lib.hid d;clear d h hd hn hw;by_cases s:gk=0
  ·subst s;obtain rfl:n=0:=o.out.1 rfl;go_wp2;go_ret;refine⟨_,rfl,?_,i⟩
   rw[<-p.out,Nat.gcd_zero_left]
   exact hx
  ·have z:0<n:=by have:=o.out;omega
   go_wp2_with(go_at_call 277;refine(qC hx g hxb c (by omega)).mono ?_;rintro e t ⟨v1,v2,rfl,_,h2,j⟩)
   go_roundg (x%gk)
   case measure=>exact Nat.mod_lt _ (by omega)
   case rel=>exact⟨gk,g.kept j,h2,c,Nat.lt_of_le_of_lt (Nat.mod_le _ _) hxb,by rw[<-Nat.gcd_rec];exact p.out,i.trans j⟩
def Fr(w:World)(v:Value)(neg:Bool)(n d:Nat):Prop:=∃vn vd,v= .agg #[.bool neg,vn,vd]/\Nt 4294967296 w vn n/\Nt 4294967296 w vd d
theorem Fr.kept{neg:Bool}{n d:Nat}(h:Fr w v neg n d)(k:aa w w'):Fr w' v neg n d:=by
 obtain⟨a,b,h1,h2,h3⟩:=h;exact⟨a,b,h1,h2.kept k,h3.kept k⟩
def P2(neg:Bool)(n d:Nat)(w:World)(e:Ending)(w':World):Prop:=∃v,e= .returned v/\Fr w' v neg n d/\aa w w'
def fS(w:World)(b:Nat)(x y z:Value)(t:TypeId):Prop:=w.heap[b]? =some (.cells #[x,y,z] t)
theorem fS.new(w:World)(x y z:Value)(t:TypeId):fS (w.alloc (.cells #[x,y,z] t)) w.heap.size x y z t:=Go.Deep.blk_alloc_new _ _
theorem fS.kept{x y z:Value}(h:fS w b x y z t)(k:aa w w'):fS w' b x y z t:=(k.old b (Array.getElem?_eq_some_iff.1 h).1).trans h
theorem fS.facts{x y z:Value}(h:fS w b x y z t):
 w.cell? ⟨b,0,none⟩=some x/\w.cell? ⟨b,1,none⟩=some y/\w.cell? ⟨b,2,none⟩=some z/\w.frozen? ⟨b,0,none⟩=false/\w.frozen? ⟨b,1,none⟩=false/\w.frozen? ⟨b,2,none⟩=false:=by
 unfold fS at h;refine⟨?_,?_,?_,?_,?_,?_⟩<;>simp[World.cell?,World.frozen?,h]
theorem Nt.shape{B:Nat}(h:Nt B w v m):∃a n cap,v= .slice a n cap:=by
 obtain⟨a,n,cap,_,h,_⟩:=h;exact⟨a,n,cap,h⟩
def qT(w:World)(b:Nat):Prop:=∀off n,w.cell? ⟨b,off,none⟩≠some (.int .u32 n)
theorem fS.aZ{p:Bool}{a a':Option Addr}{n n' c c':Nat}(h:fS w b (.bool p) (.slice a n c) (.slice a' n' c') t):qT w b:=by
 intro off k hc;unfold fS at h;simp only[World.cell?,h] at hc;match off with
 |0=>simp at hc
 |1=>simp at hc
 |2=>simp at hc
 |off+3=>simp at hc
theorem Nt.ai{B:Nat}(h:Nt B w v m)(k:af w w' b)(hb:qT w b):Nt B w' v m:=by
 obtain⟨a,n,cap,zs,h1,h2,h3,f,d,c⟩:=h;refine⟨a,n,cap,zs,h1,h2,h3,f,d,λ i hi=> ?_⟩
 obtain⟨b',off,e,hc⟩:=c i hi;exact⟨b',off,e,k.cell hc (by rintro rfl;exact hb _ _ hc)⟩
theorem af.eB(w:World)(b:Nat)(x y z:Value):af w (((w.setCell ⟨b,0,none⟩ x).setCell ⟨b,1,none⟩ y).setCell ⟨b,2,none⟩ z) b:=
 (((Go.Eng.af.refl w b).setCell rfl _).setCell rfl _).setCell rfl _
theorem ud(hv:Nt 4294967296 w v 0):Calls prog 192 #[v] w λ e w'=>e= .returned (.bool true)/\w=w':=lS (.inr rfl) hv
theorem nF(hv:Nt 4294967296 w v m)(h:0<m):Calls prog 192 #[v] w λ e w'=>e= .returned (.bool false)/\w=w':=
 (lS (.inr rfl) hv).mono λ e w' ⟨h1,h2⟩=>⟨by rw[h1];congr 2;simp;omega,h2⟩
theorem Kg{vn vd:Value}(neg:Bool)(hn:Nt 4294967296 w vn 0):
 Calls prog 187 #[.bool neg,vn,vd] w (P2 false 0 1 w):=by
 have b:=fS.new w (.bool false) (.slice none 0 0) (.slice none 0 0) 217;have f:aa w (w.alloc (.cells #[.bool false,.slice none 0 0,.slice none 0 0] 217)):=(aa.refl _).alloc _;have j:=ud (hn.kept f)
 go_enter func187,ntmps187;go_wp2_with fail
 generalize w.alloc (.cells #[.bool false,.slice none 0 0,.slice none 0 0] 217)=i at*;have n:w.heap.size<=w.heap.size:=aU _;generalize o:w.heap.size=m at b⊢;refine j.mono ?_;rintro e w' ⟨rfl,rfl⟩
 have k:=eQ i 1 (by decide)
 go_wp2_with(go_at_call 189;refine k.mono ?_;rintro e h ⟨v2,rfl,c,a⟩;obtain⟨l,c1,c2,f0,f1,p⟩:=(b.kept a).facts;obtain⟨a2,n2,g,rfl⟩:=c.shape)
 have d:=af.eB h m (.bool false) (.slice none 0 0) (.slice a2 n2 g)
 refine bodyPost_ret (v:=.agg #[.bool false,.slice none 0 0,.slice a2 n2 g]) (by simp[results,results187,go_sem,l,c1,c2]) rfl ⟨_,rfl,⟨_,_,rfl,ma _ _ _ _,c.ai d (b.kept a).aZ⟩,(f.trans a).but d (by omega)⟩
end Go.Proofs.YtbapfnpbamnmpaaGreatDoor
