/- A part of the proof that SearchCandidates answers true for every input of bulk at most 1048576: conditions: the row's own. -/
import Derived.Test.YtancebninmoipaaGreatDoorP00
import Derived.Deep.Light
import Derived.Shelf.Small.Bits
import Derived.Test.YtancebninmoipaaGreatDoorProg
import Derived.Laws.CopyOwn
import Derived.Lib.ItoaNum
import Derived.Lib.BitFns
namespace Go.Dig
section
structure Kn(B:Nat)(us ds:Nat→Nat)(n:Nat):Prop where
 two:2≤n
 base:2≤B
 dlt:∀i,i<n→ds i<B
 ult:∀i,i<n+1→us i<B
 half:B≤2*ds (n-1)
 lt:val B us (n+1)<val B ds n*B
section
variable{B:Nat}{us ds:Nat→Nat}{n:Nat}(h:Kn B us ds n)
include h
theorem Kn.Bpos:0<B:=by have:=h.base;omega
theorem Kn.d1pos:0<ds (n-1):=by have:=h.half;have:=h.base;omega
theorem Kn.dsplit1:val B ds n=val B ds (n-1)+ds (n-1)*B^(n-1)∧val B ds (n-1)<B^(n-1):=by
 have h2:=h.two
 refine⟨?_,val_lt fun i hi=>h.dlt i (by omega)⟩
 obtain⟨k,rfl⟩:∃k,n=k+1:=⟨n-1,by omega⟩
 rfl
theorem Kn.dsplit2:val B ds n=val B ds (n-2)+(ds (n-1)*B+ds (n-2))*B^(n-2)∧val B ds (n-2)<B^(n-2):=by
 have h2:=h.two
 refine⟨?_,val_lt fun i hi=>h.dlt i (by omega)⟩
 obtain⟨k,rfl⟩:∃k,n=k+2:=⟨n-2,by omega⟩
 simp only[Nat.add_sub_cancel,show k+2-1=k+1 by omega,val]
 rw[Nat.pow_succ];grind
theorem Kn.usplit1:val B us (n+1)=val B us (n-1)+(us n*B+us (n-1))*B^(n-1)∧val B us (n-1)<B^(n-1):=by
 have h2:=h.two
 refine⟨?_,val_lt fun i hi=>h.ult i (by omega)⟩
 obtain⟨k,rfl⟩:∃k,n=k+1:=⟨n-1,by omega⟩
 simp only[Nat.add_sub_cancel,val]
 rw[Nat.pow_succ];grind
theorem Kn.usplit2:val B us (n+1)=val B us (n-2)+((us n*B+us (n-1))*B+us (n-2))*B^(n-2)∧val B us (n-2)<B^(n-2):=by
 have h2:=h.two
 refine⟨?_,val_lt fun i hi=>h.ult i (by omega)⟩
 obtain⟨k,rfl⟩:∃k,n=k+2:=⟨n-2,by omega⟩
 simp only[Nat.add_sub_cancel,show k+2-1=k+1 by omega,val]
 rw[Nat.pow_succ,Nat.pow_succ];grind
theorem Kn.dpos:0<val B ds n:=by
 have:=h.lt
 have:0<val B ds n*B:=by omega
 exact Nat.pos_of_mul_pos_right this
theorem Kn.qlt:val B us (n+1)/val B ds n<B:=Nat.div_lt_of_lt_mul h.lt
theorem Kn.first:val B us (n+1)/val B ds n≤(us n*B+us (n-1))/ds (n-1):=by
 have h1:=h.dsplit1
 have h2:=h.usplit1
 have hp:0<B^(n-1):=Nat.pow_pos h.Bpos
 rw[Nat.le_div_iff_mul_le h.d1pos]
 have hq:val B us (n+1)/val B ds n*val B ds n≤val B us (n+1):=Nat.div_mul_le_self ..
 generalize val B us (n+1)/val B ds n=q at*
 generalize us n*B+us (n-1)=top at*
 generalize ds (n-1)=d1 at*
 generalize B^(n-1)=P at*
 have h3:q*d1*P≤q*val B ds n:=by rw[h1.1,Nat.mul_add];have:q*(d1*P)=q*d1*P:=by grind
                                 omega
 have h4:q*d1*P<(top+1)*P:=by rw[Nat.add_mul];omega
 have:=Nat.lt_of_mul_lt_mul_right h4
 omega
theorem Kn.great{g r:Nat}(hg:g*ds (n-1)+r=us n*B+us (n-1))(hc:B≤g∨r*B+us (n-2)<g*ds (n-2)):val B us (n+1)/val B ds n<g:=by
 rcases hc with hc|hc
 ·have:=h.qlt;omega
 ·have h1:=h.dsplit2
  have h2:=h.usplit2
  have hp:0<B^(n-2):=Nat.pow_pos h.Bpos
  refine Nat.div_lt_of_lt_mul ?_
  rw[←hg] at h2
  generalize ds (n-1)=d1 at*
  generalize ds (n-2)=d2 at*
  generalize us (n-2)=u2 at*
  generalize B^(n-2)=P at*
  have e1:((g*d1+r)*B+u2+1)≤g*(d1*B+d2):=by
   have:g*(d1*B+d2)=g*d1*B+g*d2:=by grind
   have:(g*d1+r)*B=g*d1*B+r*B:=by grind
   omega
  have e2:((g*d1+r)*B+u2+1)*P≤g*(d1*B+d2)*P:=Nat.mul_le_mul_right _ e1
  have e3:val B ds n*g=val B ds (n-2)*g+g*(d1*B+d2)*P:=by rw[h1.1];grind
  rw[Nat.add_mul _ 1] at e2
  omega
theorem Kn.small{g r:Nat}(hg:g*ds (n-1)+r=us n*B+us (n-1))(hb:g<B)(hc:g*ds (n-2)≤r*B+us (n-2)):g*val B ds n≤val B us (n+1)+val B ds n:=by
 have h1:=h.dsplit2
 have h2:=h.usplit2
 have h3:=h.dsplit1
 have hd:=h.d1pos
 have hn:=h.two
 have hP:B^(n-1)=B^(n-2)*B:=by rw[←Nat.pow_succ];congr 1;omega
 rw[hP] at h3
 rw[←hg] at h2
 generalize ds (n-1)=d1 at*
 generalize ds (n-2)=d2 at*
 generalize us (n-2)=u2 at*
 generalize B^(n-2)=P at*
 have e1:g*(d1*B+d2)≤(g*d1+r)*B+u2:=by
  have:g*(d1*B+d2)=g*d1*B+g*d2:=by grind
  have:(g*d1+r)*B=g*d1*B+r*B:=by grind
  omega
 have e2:g*(d1*B+d2)*P≤((g*d1+r)*B+u2)*P:=Nat.mul_le_mul_right _ e1
 have e3:g*val B ds n=g*val B ds (n-2)+g*(d1*B+d2)*P:=by rw[h1.1];grind
 have e4:g*val B ds (n-2)≤B*P:=Nat.mul_le_mul (by omega) (by omega)
 have e5:1*(P*B)≤d1*(P*B):=Nat.mul_le_mul_right _ hd
 have e6:B*P=P*B:=Nat.mul_comm ..
 omega
theorem Kn.u0le:us n≤ds (n-1):=by
 have h1:=h.dsplit1
 have hl:=h.lt
 have h2:=h.usplit1
 have hp:0<B^(n-1)*B:=Nat.mul_pos (Nat.pow_pos h.Bpos) h.Bpos
 generalize ds (n-1)=d1 at*
 generalize us (n-1)=u1 at*
 generalize us n=u0 at*
 generalize B^(n-1)=P at*
 have e1:u0*(P*B)<(d1+1)*(P*B):=by
  have e2:val B ds n*B≤(d1+1)*(P*B):=by
   have:val B ds n≤(d1+1)*P:=by rw[Nat.add_mul];omega
   have:=Nat.mul_le_mul_right B this
   rw[Nat.mul_assoc] at this
   exact this
  have e3:(u0*B+u1)*P=u0*(P*B)+u1*P:=by grind
  omega
 have:=Nat.lt_of_mul_lt_mul_right e1
 omega
theorem Kn.broke{g r:Nat}(hg:g*ds (n-1)+r=us n*B+us (n-1))(hr:B≤r):g<B∧g*ds (n-2)≤r*B+us (n-2):=by
 have h0:=h.u0le
 have h1:=h.ult (n-1) (by omega)
 have hn:=h.two
 have h2:=h.dlt (n-2) (by omega)
 have hd:=h.d1pos
 generalize ds (n-1)=d1 at*
 have hgB:g<B:=by
  have e:us n*B≤d1*B:=Nat.mul_le_mul_right _ h0
  have:g*d1<B*d1:=by rw[Nat.mul_comm B];omega
  exact Nat.lt_of_mul_lt_mul_right this
 refine⟨hgB,?_⟩
 have e1:g*ds (n-2)≤B*B:=Nat.mul_le_mul (by omega) (by omega)
 have e2:B*B≤r*B:=Nat.mul_le_mul_right _ hr
 omega
end
structure SubI(B:Nat)(us ds:Nat→Nat)(g i:Nat)(zs:Nat→Nat)(c o:Nat):Prop where
 lt:∀k,k<i→zs k<B
 same:∀k,i≤k→zs k=us k
 clt:c<B
 ole:o≤1
 eq:val B zs i+g*val B ds i=val B us i+(c+o)*B^i
theorem SubI.start{B:Nat}{us ds:Nat→Nat}{g:Nat}(hB:0<B):SubI B us ds g 0 us 0 0:=
 ⟨fun _ h=>by omega,fun _ _=>rfl,hB,by omega,by simp[val]⟩
theorem SubI.step{B:Nat}{us ds zs:Nat→Nat}{g i c o z o':Nat}(h:SubI B us ds g i zs c o)(hg:g<B)(hd:ds i<B)
 (hz:z<B)(ho':o'≤1)(he:z+(g*ds i+c)%B+o=us i+B*o'):
 SubI B us ds g (i+1) (upd zs i z) ((g*ds i+c)/B) o':=by
 have hB:0<B:=by omega
 refine⟨fun k hk=> ?_,fun k hk=> ?_,?_,ho',?_⟩
 ·unfold upd;split
  ·exact hz
  ·exact h.lt k (by omega)
 ·rw[upd_other _ (by omega)];exact h.same k (by omega)
 ·have:=mul_bound hg hd hB h.clt
  refine Nat.div_lt_of_lt_mul (by omega)
 ·have e:=h.eq
  have hm:=Nat.mod_add_div (g*ds i+c) B
  rw[val_upd_top]
  simp only[val]
  rw[Nat.pow_succ]
  generalize (g*ds i+c)/B=c' at*
  generalize (g*ds i+c)%B=l at*
  generalize B^i=P at*
  have e1:(z+l+o)*P=(us i+B*o')*P:=by rw[he]
  have e2:(g*ds i+c)*P=(l+B*c')*P:=by rw[hm]
  grind
structure AddI(B:Nat)(us ds:Nat→Nat)(i:Nat)(zs:Nat→Nat)(c:Nat):Prop where
 lt:∀k,k<i→zs k<B
 same:∀k,i≤k→zs k=us k
 clt:c≤1
 eq:val B zs i+c*B^i=val B us i+val B ds i
theorem AddI.start{B:Nat}{us ds:Nat→Nat}:AddI B us ds 0 us 0:=⟨fun _ h=>by omega,fun _ _=>rfl,by omega,by simp[val]⟩
theorem AddI.step{B:Nat}{us ds zs:Nat→Nat}{i c:Nat}(h:AddI B us ds i zs c)(hu:us i<B)(hd:ds i<B):
 AddI B us ds (i+1) (upd zs i ((us i+ds i+c)%B)) ((us i+ds i+c)/B):=by
 have hB:0<B:=by omega
 have hc:=h.clt
 refine⟨fun k hk=> ?_,fun k hk=> ?_,?_,?_⟩
 ·unfold upd;split
  ·exact Nat.mod_lt _ hB
  ·exact h.lt k (by omega)
 ·rw[upd_other _ (by omega)];exact h.same k (by omega)
 ·have:(us i+ds i+c)/B<2:=Nat.div_lt_of_lt_mul (by omega)
  omega
 ·have e:=h.eq
  have hm:=Nat.mod_add_div (us i+ds i+c) B
  rw[val_upd_top]
  simp only[val]
  rw[Nat.pow_succ]
  generalize (us i+ds i+c)/B=c' at*
  generalize (us i+ds i+c)%B=l at*
  generalize B^i=P at*
  have e2:(us i+ds i+c)*P=(l+B*c')*P:=by rw[hm]
  grind
theorem digit_right{B:Nat}{us ds zs:Nat→Nat}{n g c o:Nat}(hK:Kn B us ds n)(h:SubI B us ds g n zs c o)
 (hq:val B us (n+1)/val B ds n≤g)(ht:c+o≤us n):
 g=val B us (n+1)/val B ds n∧val B (upd zs n (us n-c-o)) (n+1)=val B us (n+1)%val B ds n:=by
 have hd:=hK.dpos
 have e:=h.eq
 have e1:val B (upd zs n (us n-c-o)) (n+1)+g*val B ds n=val B us (n+1):=by
  rw[val_upd_top]
  simp only[val]
  generalize B^n=P at*
  obtain⟨x,hx⟩:∃x,us n=x+(c+o):=⟨us n-(c+o),by omega⟩
  rw[hx,show x+(c+o)-c-o=x by omega]
  grind
 have e2:g≤val B us (n+1)/val B ds n:=by rw[Nat.le_div_iff_mul_le hd];omega
 have e3:g=val B us (n+1)/val B ds n:=by omega
 refine⟨e3,?_⟩
 have:=Nat.mod_add_div (val B us (n+1)) (val B ds n)
 rw[←e3,Nat.mul_comm] at this
 omega
theorem digit_wrong{B:Nat}{us ds zs ts:Nat→Nat}{n g c o a:Nat}(hK:Kn B us ds n)(h:SubI B us ds g n zs c o)
 (hq:g*val B ds n≤val B us (n+1)+val B ds n)(ht:us n<c+o)(ha:AddI B (upd zs n (us n+B-c-o)) ds n ts a):
 g=val B us (n+1)/val B ds n+1∧(us n+B-c-o)+a=B∧val B ts n=val B us (n+1)%val B ds n:=by
 have hd:=hK.dpos
 have e:=h.eq
 have ea:=ha.eq
 have hun:=hK.ult n (by omega)
 have hcl:=h.clt
 have hol:=h.ole
 have hlt1:=val_lt (n:=n) ha.lt
 have hdl:val B ds n<B^n:=val_lt hK.dlt
 rw[val_upd (Nat.le_refl _)] at ea
 have hgt:val B us (n+1)<g*val B ds n:=by
  have hz:=val_lt (n:=n) h.lt
  simp only[val]
  have:(us n+1)*B^n≤(c+o)*B^n:=Nat.mul_le_mul_right _ ht
  rw[Nat.add_mul] at this
  omega
 have e1:val B us (n+1)/val B ds n<g:=Nat.div_lt_of_lt_mul (by rw[Nat.mul_comm];exact hgt)
 have e2:g≤val B us (n+1)/val B ds n+1:=by
  have:g-1≤val B us (n+1)/val B ds n:=by
   rw[Nat.le_div_iff_mul_le hd,Nat.sub_mul];omega
  omega
 have e3:g=val B us (n+1)/val B ds n+1:=by omega
 have hm:=Nat.mod_add_div (val B us (n+1)) (val B ds n)
 have hml:val B us (n+1)%val B ds n<val B ds n:=Nat.mod_lt _ hd
 generalize val B us (n+1)/val B ds n=q at*
 generalize val B us (n+1)%val B ds n=r at*
 obtain⟨x,hx⟩:∃x,us n+B=x+(c+o):=⟨us n+B-(c+o),by omega⟩
 rw[show us n+B-c-o=x by omega] at*
 have hU:val B us (n+1)=val B us n+us n*B^n:=rfl
 have e4:val B ts n+(x+a)*B^n=r+B*B^n:=by
  rw[e3] at e
  generalize B^n=P at*
  have e5:(us n+B)*P=(x+(c+o))*P:=by rw[hx]
  have e6:(q+1)*val B ds n=val B ds n*q+val B ds n:=by grind
  have e7:(x+a)*P=x*P+a*P:=Nat.add_mul ..
  have e8:(us n+B)*P=us n*P+B*P:=Nat.add_mul ..
  have e9:(x+(c+o))*P=x*P+(c+o)*P:=Nat.add_mul ..
  omega
 have hP:0<B^n:=Nat.pow_pos hK.Bpos
 have e10:x+a=B:=by
  generalize B^n=P at*
  have h1:B*P<(x+a+1)*P:=by rw[Nat.add_mul (x+a)];omega
  have h2:(x+a)*P<(B+1)*P:=by rw[Nat.add_mul B];omega
  have:=Nat.lt_of_mul_lt_mul_right h1
  have:=Nat.lt_of_mul_lt_mul_right h2
  omega
 refine⟨e3,e10,?_⟩
 rw[e10] at e4
 omega
end
def win(zs:Nat→Nat)(j:Nat):Nat→Nat:=fun i=>zs (j+i)
theorem win_upd(zs:Nat→Nat)(j i x:Nat):win (upd zs (j+i) x) j=upd (win zs j) i x:=by
 funext k
 simp only[win,upd]
 by_cases h:k=i
 ·subst h;simp
 ·rw[if_neg (by omega),if_neg h]
theorem val_win(B:Nat)(zs:Nat→Nat)(j n:Nat):val B zs (j+n)=val B zs j+val B (win zs j) n*B^j:=val_split B zs j n
structure LD(B D n M Q L k:Nat)(us qs:Nat→Nat):Prop where
 ult:∀i,i<L→us i<B
 zero:∀i,k+n≤i→i<L→us i=0
 qlt:∀i,qs i<B
 qz:∀i,i<k→qs i=0
 lt:val B us (k+n)<D*B^k
 eq:val B us (k+n)+val B qs Q*D=M
theorem LD.window{B D n M Q L k:Nat}{us qs:Nat→Nat}(h:LD B D n M Q L (k+1) us qs)(hB:0<B):val B (win us k) (n+1)<D*B:=by
 have hl:=h.lt
 rw[show k+1+n=k+(n+1) by omega,val_win,Nat.pow_succ] at hl
 have hp:0<B^k:=Nat.pow_pos hB
 have:val B (win us k) (n+1)*B^k<D*B*B^k:=by
  have e:D*(B^k*B)=D*B*B^k:=by grind
  omega
 exact Nat.lt_of_mul_lt_mul_right this
theorem LD.step{B D n M Q L k:Nat}{us us' qs:Nat→Nat}(h:LD B D n M Q L (k+1) us qs)(hB:0<B)(hD:0<D)(hDn:D≤B^n)(hkQ:k<Q)(hL:k+n<L)
 (hu:∀i,i<L→us' i<B)(hs:∀i,i<k∨k+n<i→us' i=us i)(hv:val B (win us' k) (n+1)=val B (win us k) (n+1)%D):
 LD B D n M Q L k us' (upd qs k (val B (win us k) (n+1)/D)):=by
 have hw:=h.window hB
 have hp:0<B^k:=Nat.pow_pos hB
 have hm:=Nat.mod_add_div (val B (win us k) (n+1)) D
 have hml:val B (win us k) (n+1)%D<D:=Nat.mod_lt _ hD
 have hlow:val B us' k=val B us k:=val_congr fun i hi=>hs i (.inl hi)
 have hlk:val B us k<B^k:=val_lt fun i hi=>h.ult i (by omega)
 have htop:us' (k+n)=0:=by
  have e:val B (win us' k) (n+1)=val B (win us' k) n+us' (k+n)*B^n:=rfl
  have hlt:us' (k+n)*B^n<1*B^n:=by omega
  have:=Nat.lt_of_mul_lt_mul_right hlt
  omega
 have hwn:val B (win us' k) n=val B (win us k) (n+1)%D:=by
  have e:val B (win us' k) (n+1)=val B (win us' k) n+us' (k+n)*B^n:=rfl
  rw[htop,Nat.zero_mul,Nat.add_zero] at e
  rw[←hv];omega
 have hE:=h.eq
 rw[show k+1+n=k+(n+1) by omega,val_win] at hE
 refine⟨hu,fun i hi hiL=> ?_,fun i=> ?_,fun i hi=> ?_,?_,?_⟩
 ·by_cases e:i=k+n
  ·rw[e];exact htop
  ·rw[hs i (.inr (by omega))];exact h.zero i (by omega) hiL
 ·unfold upd;split
  ·exact Nat.div_lt_of_lt_mul hw
  ·exact h.qlt i
 ·rw[upd_other _ (by omega)];exact h.qz i (by omega)
 ·rw[val_win,hlow,hwn]
  generalize val B (win us k) (n+1)%D=r at*
  have:(r+1)*B^k≤D*B^k:=Nat.mul_le_mul_right _ hml
  rw[Nat.add_mul] at this
  omega
 ·have hq:=val_upd_mid (B:=B) (zs:=qs) (x:=val B (win us k) (n+1)/D) hkQ
  rw[h.qz k (by omega),Nat.zero_mul,Nat.add_zero] at hq
  rw[val_win,hlow,hwn,hq]
  generalize val B (win us k) (n+1)%D=r at*
  generalize val B (win us k) (n+1)/D=q at*
  generalize val B (win us k) (n+1)=W at*
  subst hm
  grind
theorem LD.done{B D n M Q L:Nat}{us qs:Nat→Nat}(h:LD B D n M Q L 0 us qs)(hnL:n≤L):val B qs Q=M/D∧val B us L=M%D:=by
 have hl:=h.lt
 have he:=h.eq
 simp only[Nat.zero_add,Nat.pow_zero,Nat.mul_one] at hl he
 have e:val B us L=val B us n:=by
  have:=val_win B us n (L-n)
  rw[show n+(L-n)=L by omega] at this
  rw[this,val_zeros B (win us n) (L-n) (fun i hi=>h.zero (n+i) (by omega) (by omega))]
  simp
 rw[e,←he]
 constructor
 ·rw[Nat.add_mul_div_right _ _ (by omega),Nat.div_eq_of_lt hl,Nat.zero_add]
 ·rw[Nat.add_mul_mod_self_right,Nat.mod_eq_of_lt hl]
def over(xs:Nat→Nat)(n:Nat)(zs:Nat→Nat):Nat→Nat:=fun i=>if i<n then xs i else zs i
theorem val_over_zero{B:Nat}{xs:Nat→Nat}{n L:Nat}(h:n≤L):val B (over xs n fun _=>0) L=val B xs n:=by
 have:=val_win B (over xs n fun _=>0) n (L-n)
 rw[show n+(L-n)=L by omega] at this
 rw[this,val_zeros B _ (L-n) (fun i hi=>by simp only[win,over];rw[if_neg (by omega)]),Nat.zero_mul,Nat.add_zero]
 exact val_congr fun i hi=>by simp only[over];rw[if_pos hi]
theorem LD.start{B D n M Q L k:Nat}{us:Nat→Nat}(hB:0<B)(hL:L=k+n)(hu:∀i,i<L→us i<B)(hlt:M<D*B^k)(he:val B us L=M):LD B D n M Q L k us (fun _=>0):=by
 subst hL
 refine⟨hu,fun i hi hiL=>by omega,fun _=>hB,fun _ _=>rfl,by rw[he];exact hlt,?_⟩
 rw[he,val_zeros _ _ _ (fun _ _=>rfl)];simp
end Go.Dig
section
namespace Go.Eng
open Go
structure KeptB(w w':World)(b:Nat):Prop where
 size:w.heap.size≤w'.heap.size
 old:∀c,c<w.heap.size→c≠b→w'.heap[c]? =w.heap[c]?
 tape:w'.tape=w.tape
 os:w'.os=w.os
 output:w'.output=w.output
theorem KeptB.refl(w:World)(b:Nat):KeptB w w b:=⟨Nat.le_refl _,fun _ _ _=>rfl,rfl,rfl,rfl⟩
theorem KeptB.drewN{w w1:World}{b:Nat}(h:KeptB w w1 b)(n:Nat):KeptB w (w1.drewN n) b:=⟨h.size,h.old,h.tape,h.os,h.output⟩
theorem KeptB.cell{w w':World}{b:Nat}(h:KeptB w w' b){a:Addr}{v:Value}(hc:w.cell? a=some v)(hb:a.block≠b):w'.cell? a=some v:=by
 have hl:a.block<w.heap.size:=World.block_lt_of_cell? w a hc
 unfold World.cell? at hc⊢
 simp only[h.old _ hl hb]
 exact hc
theorem KeptB.setCell{w w1:World}{a:Addr}{b:Nat}(h:KeptB w w1 b)(ha:a.block=b)(v:Value):KeptB w (w1.setCell a v) b:=by
 refine⟨?_,?_,h.tape,h.os,h.output⟩
 ·show w.heap.size≤(w1.heap.modify _ _).size
  rw[Array.size_modify];exact h.size
 ·intro c hc hcb
  show(w1.heap.modify _ _)[c]? =_
  rw[Array.getElem?_modify,if_neg (by omega)]
  exact h.old c hc hcb
theorem Kept.but{w w1 w2:World}{b:Nat}(h:Kept w w1)(k:KeptB w1 w2 b)(hb:w.heap.size≤b):Kept w w2:=
 ⟨Nat.le_trans h.size k.size,fun c hc=>(k.old c (Nat.lt_of_lt_of_le hc h.size) (by omega)).trans (h.old c hc),k.tape.trans h.tape,k.os.trans h.os,k.output.trans h.output⟩
end Go.Eng
namespace Go.Proofs.YtancebninmoipaaGreatDoor
open Go Go.RowKit Go.Dig
open Go.Eng (Kept KW KeptB)
theorem sub_facts{x l o:Nat}(hx:x<4294967296)(hl:l<4294967296)(ho:o≤1):
 ∃z o':Nat,IntKind.u64.wrap (IntKind.u64.wrap ((x:Int)-(l:Int))-(o:Int))%4294967296=(z:Int)∧IntKind.u64.wrap (IntKind.u64.wrap ((x:Int)-(l:Int))-(o:Int))/9223372036854775808=(o':Int)∧z<4294967296∧o'≤1∧z+l+o=x+4294967296*o':=by
 rw[IntKind.wrap_u64,IntKind.wrap_u64]
 by_cases h:l+o≤x
 ·exact⟨x-l-o,0,by omega,by omega,by omega,by omega,by omega⟩
 ·exact⟨x+4294967296-l-o,1,by omega,by omega,by omega,by omega,by omega⟩
theorem top_ge{x c o:Nat}(hx:x<4294967296)(hc:c<4294967296)(ho:o≤1)(h:c+o≤x):
 IntKind.u64.wrap (IntKind.u64.wrap ((x:Int)-(c:Int))-(o:Int))=((x-c-o:Nat):Int):=by
 rw[IntKind.wrap_u64,IntKind.wrap_u64];omega
theorem top_lt{x c o:Nat}(hx:x<4294967296)(hc:c<4294967296)(ho:o≤1)(h:x<c+o):
 IntKind.u64.wrap (IntKind.u64.wrap ((x:Int)-(c:Int))-(o:Int))=((x+18446744073709551616-c-o:Nat):Int):=by
 rw[IntKind.wrap_u64,IntKind.wrap_u64];omega
def DigitRet(bu L j n:Nat)(zs ds:Nat→Nat)(w:World)(e:Ending)(w':World):Prop:=
 e= .returned (.int .u32 ((val 4294967296 (win zs j) (n+1)/val 4294967296 ds n:Nat):Int))∧
 ∃zs',Row w' bu L zs'∧(∀k,k<L→zs' k<4294967296)∧(∀k,k<j∨j+n<k→zs' k=zs k)∧val 4294967296 (win zs' j) (n+1)=val 4294967296 (win zs j) (n+1)%val 4294967296 ds n∧KeptB w w' bu
set_option maxHeartbeats 4000000 in
set_option maxRecDepth 100000 in
theorem digit_calls(w:World)(bu L j capu bd offd capd n:Nat)(zs ds:Nat→Nat)(hn:n≤1024)(hL:L≤4096)(hj:j+n<L)(hbb:bd≠bu)
 (hK:Kn 4294967296 (win zs j) ds n)(hrow:Row w bu L zs)(hzl:∀k,k<L→zs k<4294967296)
 (hd:∀i,i<n→w.cell? ⟨bd,offd+i,none⟩=some (.int .u32 (ds i:Nat))):
 Calls Tryz.prog 241 #[.slice (some ⟨bu,j,none⟩) (n+1) capu,.slice (some ⟨bd,offd,none⟩) n capd] w (DigitRet bu L j n zs ds w):=by
 have hn2:=hK.two
 have c0:=hrow.cell (i:=j+n) (by omega)
 have c1:=hrow.cell (i:=j+(n-1)) (by omega)
 have c2:=hrow.cell (i:=j+(n-2)) (by omega)
 have d1:=hd (n-1) (by omega)
 have d2:=hd (n-2) (by omega)
 have l0:=hzl (j+n) (by omega)
 have l1:=hzl (j+(n-1)) (by omega)
 have l2:=hzl (j+(n-2)) (by omega)
 have m1:=hK.dlt (n-1) (by omega)
 have m2:=hK.dlt (n-2) (by omega)
 have m0:=hK.d1pos
 have HD:=Lib.hid hd;clear hd
 have HZ:=Lib.hid hzl;clear hzl
 have horr:=or_u64' (x:=zs (j+(n-1))) (y:=zs (j+n)) l1 l0
 go_enter Tryz.func241,Tryz.ntmps241
 go_wp2
 go_quiet (fail)
 go_wp2
 go_quiet (fail)
 go_wp2
 go_loopw [7,8] (fun gv rv wr=>∃g r q:Nat,gv= .int .u64 (g:Int)∧rv= .int .u64 (r:Int)∧g*ds (n-1)+r=zs (j+n)*4294967296+zs (j+(n-1))∧val 4294967296 (win zs j) (n+1)/val 4294967296 ds n≤g∧r<4294967296∧wr=w.drewN q) (fun gv _ _=>(intOf gv).toNat)
 case atStart=>
  refine⟨(zs (j+n)*4294967296+zs (j+(n-1)))/ds (n-1),(zs (j+n)*4294967296+zs (j+(n-1)))%ds (n-1),_,by simp,by simp,?_,hK.first,?_,World.drewN_drewN _ _ _⟩
  ·rw[Nat.mul_comm];exact Nat.div_add_mod _ _
  ·have:=Nat.mod_lt (zs (j+n)*4294967296+zs (j+(n-1))) m0
   omega
 case round=>
  obtain⟨g,r,q,rfl,rfl,hgr,hqg,hrl,rfl⟩:=hrel
  clear horr
  have HGR:=Lib.hid hgr
  have hgle:g≤18446744073709551615:=by
   have:=Nat.le_mul_of_pos_right g m0
   omega
  clear hgr
  have HQG:=Lib.hid hqg;clear hqg
  by_cases hgB:4294967296≤g
  ·have tst:((g:Int)/4294967296 != 0)=true:=by simp;omega
   have HGT:=Lib.hid (hK.great HGR.out (.inl hgB))
   have hg0:1≤g:=by omega
   have HGR':Hid ((g-1)*ds (n-1)+(r+ds (n-1))=zs (j+n)*4294967296+zs (j+(n-1))):=by
    refine Lib.hid ?_
    have:=HGR.out
    obtain⟨g1,rfl⟩:∃g1,g=g1+1:=⟨g-1,by omega⟩
    rw[Nat.add_mul] at this;rw[Nat.add_sub_cancel];omega
   have HQ:Hid (val 4294967296 (win zs j) (n+1)/val 4294967296 ds n≤g-1):=Lib.hid (Nat.le_sub_one_of_lt HGT.out)
   clear HQG HGT HGR
   go_wp2
   go_quiet (fail)
   by_cases hbr:4294967296≤r+ds (n-1)
   ·have tst2:(((r:Int)+(ds (n-1):Int))/4294967296 != 0)=true:=by simp;omega
    have e2:=hK.broke HGR'.out hbr
    have HSM:=Lib.hid (hK.small HGR'.out e2.1 e2.2)
    have hg1:=e2.1
    clear e2
    go_wp2
    have eg:(g:Int)-1=((g-1:Nat):Int):=by omega
    rw[eg]
    clear eg tst hgB hgle hg0
    generalize g-1=g1 at*
    go_loopw [9,10,88] (fun ov cv iv wr=>∃(i c o:Nat)(ts:Nat→Nat),i≤n∧iv= .int .i64 (i:Int)∧cv= .int .u64 (c:Int)∧ov= .int .u64 (o:Int)∧SubI 4294967296 (win zs j) ds g1 i (win ts j) c o∧(∀k,k<L→ts k<4294967296)∧(∀k,k<j∨j+n<k→ts k=zs k)∧Row wr bu L ts∧KeptB w wr bu) (fun _ _ iv _=>n-(intOf iv).toNat)
    case atStart=>exact⟨0,0,0,zs,Nat.zero_le _,rfl,rfl,rfl,SubI.start (by decide),HZ.out,fun _ _=>rfl,hrow,(KeptB.refl w bu).drewN _⟩
    case round=>
     clear c0 c1 c2 d1 d2 l1 l2 m1 m2 m0
     obtain⟨i,c,o,ts,hi,rfl,rfl,rfl,hsi,htl,hts,hrw,hkb⟩:=hrel
     have HTL:=Lib.hid htl;clear htl
     have HTS:=Lib.hid hts;clear hts
     have k6:=hsi.clt
     have k7:=hsi.ole
     by_cases hlt:i<n
     ·have k1:=hkb.cell (HD.out i hlt) hbb
      have k2:=hrw.cell (i:=j+i) (by omega)
      have k3:=hrw.frozen (j+i)
      have k4:=HTL.out (j+i) (by omega)
      have k5:=hK.dlt i hlt
      have k8:g1*ds i+c<18446744073709551616:=by have:=mul_bound (B:=4294967296) (z:=0) hg1 k5 (by decide) k6;omega
      have hsm:=Lib.hid (hsi.same i (Nat.le_refl _))
      have HSI:=Lib.hid hsi;clear hsi
      go_wp2
      go_roundw
      case rel=>
       go_light
       have ecast:((g1:Int)*(ds i:Int)+(c:Int))%4294967296=(((g1*ds i+c)%4294967296:Nat):Int):=by simp
       obtain⟨z,o',e1,e2,hz,ho',he⟩:=sub_facts k4 (Nat.mod_lt (g1*ds i+c) (by decide)) k7
       rw[ecast,e1,e2]
       refine⟨i+1,(g1*ds i+c)/4294967296,o',upd ts (j+i) z,by omega,by go_num,by simp,rfl,?_,fun k hk=> ?_,fun k hk=> ?_,hrw.set _ _,hkb.setCell rfl _⟩
       ·rw[win_upd];exact HSI.out.step hg1 k5 hz ho' (by rw[←hsm.out];exact he)
       ·unfold upd;split
        ·exact hz
        ·exact HTL.out k hk
       ·rw[upd_other _ (by omega)];exact HTS.out k hk
      case measure=>simp[intOf];omega
     ·obtain rfl:n=i:=by omega
      have k2:=hrw.cell (i:=j+n) (by omega)
      have k3:=hrw.frozen (j+n)
      have k9:ts (j+n)=zs (j+n):=hsi.same n (Nat.le_refl _)
      rw[k9] at k2
      have K9:=Lib.hid k9;clear k9
      have HSI:=Lib.hid hsi;clear hsi
      by_cases htop:c+o≤zs (j+n)
      ·have f1:=top_ge l0 k6 k7 htop
       have f2:(((zs (j+n)-c-o:Nat):Int)/9223372036854775808==0)=true:=by simp;omega
       have f3:(((zs (j+n)-c-o:Nat):Int)%4294967296)=((zs (j+n)-c-o:Nat):Int):=by omega
       go_wp2
       go_ret
       have dr:=digit_right hK HSI.out HQ.out htop
       refine⟨ret_int (by rw[←dr.1]),upd ts (j+n) (zs (j+n)-c-o),?_,fun k hk=> ?_,fun k hk=> ?_,?_,hkb.setCell rfl _⟩
       ·rw[show((zs (j+n):Int)-(c:Int)-(o:Int))=((zs (j+n)-c-o:Nat):Int) by omega];exact hrw.set _ _
       ·unfold upd;split
        ·omega
        ·exact HTL.out k hk
       ·rw[upd_other _ (by omega)];exact HTS.out k hk
       ·rw[win_upd];exact dr.2
      ·have f1:=top_lt l0 k6 k7 (by omega)
       have f2:(((zs (j+n)+18446744073709551616-c-o:Nat):Int)/9223372036854775808==0)=false:=by simp;omega
       have f3:(((zs (j+n)+18446744073709551616-c-o:Nat):Int)%4294967296)=((zs (j+n)+4294967296-c-o:Nat):Int):=by omega
       obtain⟨xt,hxt⟩:∃xt,xt=zs (j+n)+4294967296-c-o:=⟨_,rfl⟩
       rw[←hxt] at f3
       have hxl:xt<4294967296:=by omega
       have HXT:=Lib.hid hxt;clear hxt
       go_wp2
       clear f1 f2 f3
       go_loopw [10,141] (fun cv iv wr=>∃(i a:Nat)(ys:Nat→Nat),i≤n∧iv= .int .i64 (i:Int)∧cv= .int .u64 (a:Int)∧AddI 4294967296 (upd (win ts j) n xt) ds i (win ys j) a∧(∀k,k<L→ys k<4294967296)∧(∀k,k<j∨j+n<k→ys k=zs k)∧Row wr bu L ys∧KeptB w wr bu) (fun _ iv _=>n-(intOf iv).toNat)
       case atStart=>
        refine⟨0,0,upd ts (j+n) xt,Nat.zero_le _,rfl,rfl,by rw[win_upd];exact AddI.start,fun k hk=> ?_,fun k hk=> ?_,hrw.set _ _,hkb.setCell rfl _⟩
        ·unfold upd;split
         ·exact hxl
         ·exact HTL.out k hk
        ·rw[upd_other _ (by omega)];exact HTS.out k hk
       case round=>
        clear k2 k3
        obtain⟨i,a,ys,hi,rfl,rfl,hai,hyl,hys,hry,hkb2⟩:=hrel
        have HYL:=Lib.hid hyl;clear hyl
        have HYS:=Lib.hid hys;clear hys
        have p6:=hai.clt
        by_cases hlt2:i<n
        ·have p1:=hkb2.cell (HD.out i hlt2) hbb
         have p2:=hry.cell (i:=j+i) (by omega)
         have p3:=hry.frozen (j+i)
         have p4:=HYL.out (j+i) (by omega)
         have p5:=hK.dlt i hlt2
         have psm:=Lib.hid (hai.same i (Nat.le_refl _))
         have HAI:=Lib.hid hai;clear hai
         go_wp2
         go_roundw
         case rel=>
          go_light
          refine⟨i+1,(ys (j+i)+ds i+a)/4294967296,upd ys (j+i) ((ys (j+i)+ds i+a)%4294967296),by omega,by go_num,by simp,?_,fun k hk=> ?_,fun k hk=> ?_,?_,hkb2.setCell rfl _⟩
          ·rw[win_upd]
           have hst:=HAI.out.step (by rw[←psm.out];exact p4) p5
           rw[←psm.out] at hst
           exact hst
          ·unfold upd;split
           ·exact Nat.mod_lt _ (by decide)
           ·exact HYL.out k hk
          ·rw[upd_other _ (by omega)];exact HYS.out k hk
          ·have:=hry.set (j+i) ((ys (j+i)+ds i+a)%4294967296)
           simpa using this
         case measure=>simp[intOf];omega
        ·obtain rfl:n=i:=by omega
         have hxt:=HXT.out
         have dw:=digit_wrong hK HSI.out HSM.out (by show zs (j+n)<c+o;omega) (a:=a) (ts:=win ys j) (by show AddI 4294967296 (upd (win ts j) n (zs (j+n)+4294967296-c-o)) ds n (win ys j) a;rw[←hxt];exact hai)
         have p7:ys (j+n)=xt:=by have:=hai.same n (Nat.le_refl _);rw[upd_same] at this;exact this
         have p2:=hry.cell (i:=j+n) (by omega)
         rw[p7] at p2
         have p3:=hry.frozen (j+n)
         have hsum:xt+a=4294967296:=by rw[hxt];exact dw.2.1
         have hgq:g1=val 4294967296 (win zs j) (n+1)/val 4294967296 ds n+1:=dw.1
         have hg2:1≤g1:=by rw[hgq];exact Nat.le_add_left 1 _
         have HGQ:=Lib.hid hgq;clear hgq
         have HDW:=Lib.hid dw.2.2;clear dw
         have HSUM:=Lib.hid hsum
         have hsumI:IntKind.u32.wrap ((xt:Int)+(a:Int))=0:=by rw[IntKind.wrap_u32'];omega
         clear p7 hxt hai hsum
         go_wp2
         go_ret
         refine⟨ret_int (by have h9:=HGQ.out;generalize val 4294967296 (win zs j) (n+1)/val 4294967296 ds n=qq at*;omega),upd ys (j+n) 0,?_,fun k hk=> ?_,fun k hk=> ?_,?_,hkb2.setCell rfl _⟩
         ·exact hry.set (j+n) 0
         ·unfold upd;split
          ·decide
          ·exact HYL.out k hk
         ·rw[upd_other _ (by omega)];exact HYS.out k hk
         ·rw[win_upd,val_upd_top,Nat.zero_mul,Nat.add_zero];exact HDW.out
   ·have tst2:(((r:Int)+(ds (n-1):Int))/4294967296 != 0)=false:=by simp;omega
    go_wp2
    go_roundw
    case rel=>exact⟨g-1,r+ds (n-1),_,by go_num,by go_num,HGR'.out,HQ.out,by omega,rfl⟩
    case measure=>simp[intOf];omega
  ·have tst:((g:Int)/4294967296 != 0)=false:=by simp;omega
   have horr:=or_u64' (x:=zs (j+(n-2))) (y:=r) l2 hrl
   have hbd:g*ds (n-2)<18446744073709551616:=by have:=mul_bound (B:=4294967296) (x:=g) (y:=ds (n-2)) (z:=0) (c:=0) (by omega) m2 (by decide) (by decide);omega
   by_cases hc:r*4294967296+zs (j+(n-2))<g*ds (n-2)
   ·have hcI:((r*4294967296+zs (j+(n-2)):Nat):Int)<((g*ds (n-2):Nat):Int):=by omega
    have hcJ:(r:Int)*4294967296+(zs (j+(n-2)):Int)<(g:Int)*(ds (n-2):Int):=by simpa using hcI
    have HGT:=Lib.hid (hK.great HGR.out (.inr hc))
    have hg0:1≤g:=Nat.lt_of_le_of_lt (Nat.zero_le _) HGT.out
    have HGR':Hid ((g-1)*ds (n-1)+(r+ds (n-1))=zs (j+n)*4294967296+zs (j+(n-1))):=by
     refine Lib.hid ?_
     have:=HGR.out
     obtain⟨g1,rfl⟩:∃g1,g=g1+1:=⟨g-1,by omega⟩
     rw[Nat.add_mul] at this;rw[Nat.add_sub_cancel];omega
    have HQ:Hid (val 4294967296 (win zs j) (n+1)/val 4294967296 ds n≤g-1):=Lib.hid (Nat.le_sub_one_of_lt HGT.out)
    clear hcI hc HQG HGT HGR
    go_wp2
    go_quiet (fail)
    clear horr hcJ hbd
    by_cases hbr:4294967296≤r+ds (n-1)
    ·have tst2:(((r:Int)+(ds (n-1):Int))/4294967296 != 0)=true:=by simp;omega
     have e2:=hK.broke HGR'.out hbr
     have HSM:=Lib.hid (hK.small HGR'.out e2.1 e2.2)
     have hg1:=e2.1
     clear e2
     go_wp2
     have eg:(g:Int)-1=((g-1:Nat):Int):=by omega
     rw[eg]
     clear eg tst hgB hgle hg0
     generalize g-1=g1 at*
     go_loopw [9,10,88] (fun ov cv iv wr=>∃(i c o:Nat)(ts:Nat→Nat),i≤n∧iv= .int .i64 (i:Int)∧cv= .int .u64 (c:Int)∧ov= .int .u64 (o:Int)∧SubI 4294967296 (win zs j) ds g1 i (win ts j) c o∧(∀k,k<L→ts k<4294967296)∧(∀k,k<j∨j+n<k→ts k=zs k)∧Row wr bu L ts∧KeptB w wr bu) (fun _ _ iv _=>n-(intOf iv).toNat)
     case atStart=>exact⟨0,0,0,zs,Nat.zero_le _,rfl,rfl,rfl,SubI.start (by decide),HZ.out,fun _ _=>rfl,hrow,(KeptB.refl w bu).drewN _⟩
     case round=>
      clear c0 c1 c2 d1 d2 l1 l2 m1 m2 m0
      obtain⟨i,c,o,ts,hi,rfl,rfl,rfl,hsi,htl,hts,hrw,hkb⟩:=hrel
      have HTL:=Lib.hid htl;clear htl
      have HTS:=Lib.hid hts;clear hts
      have k6:=hsi.clt
      have k7:=hsi.ole
      by_cases hlt:i<n
      ·have k1:=hkb.cell (HD.out i hlt) hbb
       have k2:=hrw.cell (i:=j+i) (by omega)
       have k3:=hrw.frozen (j+i)
       have k4:=HTL.out (j+i) (by omega)
       have k5:=hK.dlt i hlt
       have k8:g1*ds i+c<18446744073709551616:=by have:=mul_bound (B:=4294967296) (z:=0) hg1 k5 (by decide) k6;omega
       have hsm:=Lib.hid (hsi.same i (Nat.le_refl _))
       have HSI:=Lib.hid hsi;clear hsi
       go_wp2
       go_roundw
       case rel=>
        go_light
        have ecast:((g1:Int)*(ds i:Int)+(c:Int))%4294967296=(((g1*ds i+c)%4294967296:Nat):Int):=by simp
        obtain⟨z,o',e1,e2,hz,ho',he⟩:=sub_facts k4 (Nat.mod_lt (g1*ds i+c) (by decide)) k7
        rw[ecast,e1,e2]
        refine⟨i+1,(g1*ds i+c)/4294967296,o',upd ts (j+i) z,by omega,by go_num,by simp,rfl,?_,fun k hk=> ?_,fun k hk=> ?_,hrw.set _ _,hkb.setCell rfl _⟩
        ·rw[win_upd];exact HSI.out.step hg1 k5 hz ho' (by rw[←hsm.out];exact he)
        ·unfold upd;split
         ·exact hz
         ·exact HTL.out k hk
        ·rw[upd_other _ (by omega)];exact HTS.out k hk
       case measure=>simp[intOf];omega
      ·obtain rfl:n=i:=by omega
       have k2:=hrw.cell (i:=j+n) (by omega)
       have k3:=hrw.frozen (j+n)
       have k9:ts (j+n)=zs (j+n):=hsi.same n (Nat.le_refl _)
       rw[k9] at k2
       have K9:=Lib.hid k9;clear k9
       have HSI:=Lib.hid hsi;clear hsi
       by_cases htop:c+o≤zs (j+n)
       ·have f1:=top_ge l0 k6 k7 htop
        have f2:(((zs (j+n)-c-o:Nat):Int)/9223372036854775808==0)=true:=by simp;omega
        have f3:(((zs (j+n)-c-o:Nat):Int)%4294967296)=((zs (j+n)-c-o:Nat):Int):=by omega
        go_wp2
        go_ret
        have dr:=digit_right hK HSI.out HQ.out htop
        refine⟨ret_int (by rw[←dr.1]),upd ts (j+n) (zs (j+n)-c-o),?_,fun k hk=> ?_,fun k hk=> ?_,?_,hkb.setCell rfl _⟩
        ·rw[show((zs (j+n):Int)-(c:Int)-(o:Int))=((zs (j+n)-c-o:Nat):Int) by omega];exact hrw.set _ _
        ·unfold upd;split
         ·omega
         ·exact HTL.out k hk
        ·rw[upd_other _ (by omega)];exact HTS.out k hk
        ·rw[win_upd];exact dr.2
       ·have f1:=top_lt l0 k6 k7 (by omega)
        have f2:(((zs (j+n)+18446744073709551616-c-o:Nat):Int)/9223372036854775808==0)=false:=by simp;omega
        have f3:(((zs (j+n)+18446744073709551616-c-o:Nat):Int)%4294967296)=((zs (j+n)+4294967296-c-o:Nat):Int):=by omega
        obtain⟨xt,hxt⟩:∃xt,xt=zs (j+n)+4294967296-c-o:=⟨_,rfl⟩
        rw[←hxt] at f3
        have hxl:xt<4294967296:=by omega
        have HXT:=Lib.hid hxt;clear hxt
        go_wp2
        clear f1 f2 f3
        go_loopw [10,141] (fun cv iv wr=>∃(i a:Nat)(ys:Nat→Nat),i≤n∧iv= .int .i64 (i:Int)∧cv= .int .u64 (a:Int)∧AddI 4294967296 (upd (win ts j) n xt) ds i (win ys j) a∧(∀k,k<L→ys k<4294967296)∧(∀k,k<j∨j+n<k→ys k=zs k)∧Row wr bu L ys∧KeptB w wr bu) (fun _ iv _=>n-(intOf iv).toNat)
        case atStart=>
         refine⟨0,0,upd ts (j+n) xt,Nat.zero_le _,rfl,rfl,by rw[win_upd];exact AddI.start,fun k hk=> ?_,fun k hk=> ?_,hrw.set _ _,hkb.setCell rfl _⟩
         ·unfold upd;split
          ·exact hxl
          ·exact HTL.out k hk
         ·rw[upd_other _ (by omega)];exact HTS.out k hk
        case round=>
         clear k2 k3
         obtain⟨i,a,ys,hi,rfl,rfl,hai,hyl,hys,hry,hkb2⟩:=hrel
         have HYL:=Lib.hid hyl;clear hyl
         have HYS:=Lib.hid hys;clear hys
         have p6:=hai.clt
         by_cases hlt2:i<n
         ·have p1:=hkb2.cell (HD.out i hlt2) hbb
          have p2:=hry.cell (i:=j+i) (by omega)
          have p3:=hry.frozen (j+i)
          have p4:=HYL.out (j+i) (by omega)
          have p5:=hK.dlt i hlt2
          have psm:=Lib.hid (hai.same i (Nat.le_refl _))
          have HAI:=Lib.hid hai;clear hai
          go_wp2
          go_roundw
          case rel=>
           go_light
           refine⟨i+1,(ys (j+i)+ds i+a)/4294967296,upd ys (j+i) ((ys (j+i)+ds i+a)%4294967296),by omega,by go_num,by simp,?_,fun k hk=> ?_,fun k hk=> ?_,?_,hkb2.setCell rfl _⟩
           ·rw[win_upd]
            have hst:=HAI.out.step (by rw[←psm.out];exact p4) p5
            rw[←psm.out] at hst
            exact hst
           ·unfold upd;split
            ·exact Nat.mod_lt _ (by decide)
            ·exact HYL.out k hk
           ·rw[upd_other _ (by omega)];exact HYS.out k hk
           ·have:=hry.set (j+i) ((ys (j+i)+ds i+a)%4294967296)
            simpa using this
          case measure=>simp[intOf];omega
         ·obtain rfl:n=i:=by omega
          have hxt:=HXT.out
          have dw:=digit_wrong hK HSI.out HSM.out (by show zs (j+n)<c+o;omega) (a:=a) (ts:=win ys j) (by show AddI 4294967296 (upd (win ts j) n (zs (j+n)+4294967296-c-o)) ds n (win ys j) a;rw[←hxt];exact hai)
          have p7:ys (j+n)=xt:=by have:=hai.same n (Nat.le_refl _);rw[upd_same] at this;exact this
          have p2:=hry.cell (i:=j+n) (by omega)
          rw[p7] at p2
          have p3:=hry.frozen (j+n)
          have hsum:xt+a=4294967296:=by rw[hxt];exact dw.2.1
          have hgq:g1=val 4294967296 (win zs j) (n+1)/val 4294967296 ds n+1:=dw.1
          have hg2:1≤g1:=by rw[hgq];exact Nat.le_add_left 1 _
          have HGQ:=Lib.hid hgq;clear hgq
          have HDW:=Lib.hid dw.2.2;clear dw
          have HSUM:=Lib.hid hsum
          have hsumI:IntKind.u32.wrap ((xt:Int)+(a:Int))=0:=by rw[IntKind.wrap_u32'];omega
          clear p7 hxt hai hsum
          go_wp2
          go_ret
          refine⟨ret_int (by have h9:=HGQ.out;generalize val 4294967296 (win zs j) (n+1)/val 4294967296 ds n=qq at*;omega),upd ys (j+n) 0,?_,fun k hk=> ?_,fun k hk=> ?_,?_,hkb2.setCell rfl _⟩
          ·exact hry.set (j+n) 0
          ·unfold upd;split
           ·decide
           ·exact HYL.out k hk
          ·rw[upd_other _ (by omega)];exact HYS.out k hk
          ·rw[win_upd,val_upd_top,Nat.zero_mul,Nat.add_zero];exact HDW.out
    ·have tst2:(((r:Int)+(ds (n-1):Int))/4294967296 != 0)=false:=by simp;omega
     go_wp2
     go_roundw
     case rel=>exact⟨g-1,r+ds (n-1),_,by go_num,by go_num,HGR'.out,HQ.out,by omega,rfl⟩
     case measure=>simp[intOf];omega
   ·have hcI:¬((r*4294967296+zs (j+(n-2)):Nat):Int)<((g*ds (n-2):Nat):Int):=by omega
    have hcJ:¬(r:Int)*4294967296+(zs (j+(n-2)):Int)<(g:Int)*(ds (n-2):Int):=by simpa using hcI
    have hcK:decide ((r:Int)*4294967296+(zs (j+(n-2)):Int)<(g:Int)*(ds (n-2):Int))=false:=by simpa using hcI
    have hg1:g<4294967296:=by omega
    have HSM:=Lib.hid (hK.small HGR.out hg1 (Nat.le_of_not_lt hc))
    have HQ:=HQG
    clear hcI hc HQG HGR
    go_wp2
    go_quiet (fail)
    clear horr hcJ hcK hbd
    go_wp2
    obtain⟨g1,rfl⟩:∃g1,g1=g:=⟨_,rfl⟩
    clear tst hgB hgle
    go_loopw [9,10,88] (fun ov cv iv wr=>∃(i c o:Nat)(ts:Nat→Nat),i≤n∧iv= .int .i64 (i:Int)∧cv= .int .u64 (c:Int)∧ov= .int .u64 (o:Int)∧SubI 4294967296 (win zs j) ds g1 i (win ts j) c o∧(∀k,k<L→ts k<4294967296)∧(∀k,k<j∨j+n<k→ts k=zs k)∧Row wr bu L ts∧KeptB w wr bu) (fun _ _ iv _=>n-(intOf iv).toNat)
    case atStart=>exact⟨0,0,0,zs,Nat.zero_le _,rfl,rfl,rfl,SubI.start (by decide),HZ.out,fun _ _=>rfl,hrow,(KeptB.refl w bu).drewN _⟩
    case round=>
     clear c0 c1 c2 d1 d2 l1 l2 m1 m2 m0
     obtain⟨i,c,o,ts,hi,rfl,rfl,rfl,hsi,htl,hts,hrw,hkb⟩:=hrel
     have HTL:=Lib.hid htl;clear htl
     have HTS:=Lib.hid hts;clear hts
     have k6:=hsi.clt
     have k7:=hsi.ole
     by_cases hlt:i<n
     ·have k1:=hkb.cell (HD.out i hlt) hbb
      have k2:=hrw.cell (i:=j+i) (by omega)
      have k3:=hrw.frozen (j+i)
      have k4:=HTL.out (j+i) (by omega)
      have k5:=hK.dlt i hlt
      have k8:g1*ds i+c<18446744073709551616:=by have:=mul_bound (B:=4294967296) (z:=0) hg1 k5 (by decide) k6;omega
      have hsm:=Lib.hid (hsi.same i (Nat.le_refl _))
      have HSI:=Lib.hid hsi;clear hsi
      go_wp2
      go_roundw
      case rel=>
       go_light
       have ecast:((g1:Int)*(ds i:Int)+(c:Int))%4294967296=(((g1*ds i+c)%4294967296:Nat):Int):=by simp
       obtain⟨z,o',e1,e2,hz,ho',he⟩:=sub_facts k4 (Nat.mod_lt (g1*ds i+c) (by decide)) k7
       rw[ecast,e1,e2]
       refine⟨i+1,(g1*ds i+c)/4294967296,o',upd ts (j+i) z,by omega,by go_num,by simp,rfl,?_,fun k hk=> ?_,fun k hk=> ?_,hrw.set _ _,hkb.setCell rfl _⟩
       ·rw[win_upd];exact HSI.out.step hg1 k5 hz ho' (by rw[←hsm.out];exact he)
       ·unfold upd;split
        ·exact hz
        ·exact HTL.out k hk
       ·rw[upd_other _ (by omega)];exact HTS.out k hk
      case measure=>simp[intOf];omega
     ·obtain rfl:n=i:=by omega
      have k2:=hrw.cell (i:=j+n) (by omega)
      have k3:=hrw.frozen (j+n)
      have k9:ts (j+n)=zs (j+n):=hsi.same n (Nat.le_refl _)
      rw[k9] at k2
      have K9:=Lib.hid k9;clear k9
      have HSI:=Lib.hid hsi;clear hsi
      by_cases htop:c+o≤zs (j+n)
      ·have f1:=top_ge l0 k6 k7 htop
       have f2:(((zs (j+n)-c-o:Nat):Int)/9223372036854775808==0)=true:=by simp;omega
       have f3:(((zs (j+n)-c-o:Nat):Int)%4294967296)=((zs (j+n)-c-o:Nat):Int):=by omega
       go_wp2
       go_ret
       have dr:=digit_right hK HSI.out HQ.out htop
       refine⟨ret_int (by rw[←dr.1]),upd ts (j+n) (zs (j+n)-c-o),?_,fun k hk=> ?_,fun k hk=> ?_,?_,hkb.setCell rfl _⟩
       ·rw[show((zs (j+n):Int)-(c:Int)-(o:Int))=((zs (j+n)-c-o:Nat):Int) by omega];exact hrw.set _ _
       ·unfold upd;split
        ·omega
        ·exact HTL.out k hk
       ·rw[upd_other _ (by omega)];exact HTS.out k hk
       ·rw[win_upd];exact dr.2
      ·have f1:=top_lt l0 k6 k7 (by omega)
       have f2:(((zs (j+n)+18446744073709551616-c-o:Nat):Int)/9223372036854775808==0)=false:=by simp;omega
       have f3:(((zs (j+n)+18446744073709551616-c-o:Nat):Int)%4294967296)=((zs (j+n)+4294967296-c-o:Nat):Int):=by omega
       obtain⟨xt,hxt⟩:∃xt,xt=zs (j+n)+4294967296-c-o:=⟨_,rfl⟩
       rw[←hxt] at f3
       have hxl:xt<4294967296:=by omega
       have HXT:=Lib.hid hxt;clear hxt
       go_wp2
       clear f1 f2 f3
       go_loopw [10,141] (fun cv iv wr=>∃(i a:Nat)(ys:Nat→Nat),i≤n∧iv= .int .i64 (i:Int)∧cv= .int .u64 (a:Int)∧AddI 4294967296 (upd (win ts j) n xt) ds i (win ys j) a∧(∀k,k<L→ys k<4294967296)∧(∀k,k<j∨j+n<k→ys k=zs k)∧Row wr bu L ys∧KeptB w wr bu) (fun _ iv _=>n-(intOf iv).toNat)
       case atStart=>
        refine⟨0,0,upd ts (j+n) xt,Nat.zero_le _,rfl,rfl,by rw[win_upd];exact AddI.start,fun k hk=> ?_,fun k hk=> ?_,hrw.set _ _,hkb.setCell rfl _⟩
        ·unfold upd;split
         ·exact hxl
         ·exact HTL.out k hk
        ·rw[upd_other _ (by omega)];exact HTS.out k hk
       case round=>
        clear k2 k3
        obtain⟨i,a,ys,hi,rfl,rfl,hai,hyl,hys,hry,hkb2⟩:=hrel
        have HYL:=Lib.hid hyl;clear hyl
        have HYS:=Lib.hid hys;clear hys
        have p6:=hai.clt
        by_cases hlt2:i<n
        ·have p1:=hkb2.cell (HD.out i hlt2) hbb
         have p2:=hry.cell (i:=j+i) (by omega)
         have p3:=hry.frozen (j+i)
         have p4:=HYL.out (j+i) (by omega)
         have p5:=hK.dlt i hlt2
         have psm:=Lib.hid (hai.same i (Nat.le_refl _))
         have HAI:=Lib.hid hai;clear hai
         go_wp2
         go_roundw
         case rel=>
          go_light
          refine⟨i+1,(ys (j+i)+ds i+a)/4294967296,upd ys (j+i) ((ys (j+i)+ds i+a)%4294967296),by omega,by go_num,by simp,?_,fun k hk=> ?_,fun k hk=> ?_,?_,hkb2.setCell rfl _⟩
          ·rw[win_upd]
           have hst:=HAI.out.step (by rw[←psm.out];exact p4) p5
           rw[←psm.out] at hst
           exact hst
          ·unfold upd;split
           ·exact Nat.mod_lt _ (by decide)
           ·exact HYL.out k hk
          ·rw[upd_other _ (by omega)];exact HYS.out k hk
          ·have:=hry.set (j+i) ((ys (j+i)+ds i+a)%4294967296)
           simpa using this
         case measure=>simp[intOf];omega
        ·obtain rfl:n=i:=by omega
         have hxt:=HXT.out
         have dw:=digit_wrong hK HSI.out HSM.out (by show zs (j+n)<c+o;omega) (a:=a) (ts:=win ys j) (by show AddI 4294967296 (upd (win ts j) n (zs (j+n)+4294967296-c-o)) ds n (win ys j) a;rw[←hxt];exact hai)
         have p7:ys (j+n)=xt:=by have:=hai.same n (Nat.le_refl _);rw[upd_same] at this;exact this
         have p2:=hry.cell (i:=j+n) (by omega)
         rw[p7] at p2
         have p3:=hry.frozen (j+n)
         have hsum:xt+a=4294967296:=by rw[hxt];exact dw.2.1
         have hgq:g1=val 4294967296 (win zs j) (n+1)/val 4294967296 ds n+1:=dw.1
         have hg2:1≤g1:=by rw[hgq];exact Nat.le_add_left 1 _
         have HGQ:=Lib.hid hgq;clear hgq
         have HDW:=Lib.hid dw.2.2;clear dw
         have HSUM:=Lib.hid hsum
         have hsumI:IntKind.u32.wrap ((xt:Int)+(a:Int))=0:=by rw[IntKind.wrap_u32'];omega
         clear p7 hxt hai hsum
         go_wp2
         go_ret
         refine⟨ret_int (by have h9:=HGQ.out;generalize val 4294967296 (win zs j) (n+1)/val 4294967296 ds n=qq at*;omega),upd ys (j+n) 0,?_,fun k hk=> ?_,fun k hk=> ?_,?_,hkb2.setCell rfl _⟩
         ·exact hry.set (j+n) 0
         ·unfold upd;split
          ·decide
          ·exact HYL.out k hk
         ·rw[upd_other _ (by omega)];exact HYS.out k hk
         ·rw[win_upd,val_upd_top,Nat.zero_mul,Nat.add_zero];exact HDW.out
end Go.Proofs.YtancebninmoipaaGreatDoor
end
namespace Go.Proofs
open Go.Shelf
set_option maxRecDepth 100000
def Tryz.lays128_ren:Go.Shelf.Ren:=⟨fun|128=>238|n=>n,fun|51=>212|3=>3|4=>4|46=>256|5=>5|9=>9|n=>n,fun|n=>n⟩
theorem Tryz.lays128:Go.Proofs.Lays.n128 Tryz.prog Tryz.lays128_ren:={
 mixed:=by kernel_rfl
 f128:=Tryz.func238.trans (congrArg some (by kernel_rfl))
 t3:=Tryz.underlying3
 a3:=Tryz.isAgg3
 z3:=Tryz.sizeOf3
 v3:=Tryz.zeroValue3
 t4:=Tryz.underlying4
 a4:=Tryz.isAgg4
 z4:=Tryz.sizeOf4
 v4:=Tryz.zeroValue4
 t5:=Tryz.underlying5
 a5:=Tryz.isAgg5
 z5:=Tryz.sizeOf5
 v5:=Tryz.zeroValue5
 t9:=Tryz.underlying9
 a9:=Tryz.isAgg9
 z9:=Tryz.sizeOf9
 v9:=Tryz.zeroValue9
 t46:=Tryz.underlying256
 a46:=Tryz.isAgg256
 z46:=Tryz.sizeOf256
 v46:=Tryz.zeroValue256
 t51:=Tryz.underlying212
 a51:=Tryz.isAgg212
 z51:=Tryz.sizeOf212
 v51:=Tryz.zeroValue212}
theorem Tryz.bits_Len32(x:Int)(w:World)(h0:0≤x)(h1:x≤4294967295):
 Calls Tryz.prog 238 #[.int .u32 x] w fun e w'=>e= .returned (.int .i64 (Lib.bitLen x.toNat))∧w'=w:=Any.bits_Len32 Tryz.lays128 x w h0 h1
def Tryz.lays133_ren:Go.Shelf.Ren:=⟨fun|133=>240|128=>238|n=>n,fun|51=>212|3=>3|4=>4|46=>256|5=>5|9=>9|n=>n,fun|n=>n⟩
theorem Tryz.lays133:Go.Proofs.Lays.n133 Tryz.prog Tryz.lays133_ren:={
 mixed:=by kernel_rfl
 f128:=Tryz.func238.trans (congrArg some (by kernel_rfl))
 f133:=Tryz.func240.trans (congrArg some (by kernel_rfl))
 t3:=Tryz.underlying3
 a3:=Tryz.isAgg3
 z3:=Tryz.sizeOf3
 v3:=Tryz.zeroValue3
 t4:=Tryz.underlying4
 a4:=Tryz.isAgg4
 z4:=Tryz.sizeOf4
 v4:=Tryz.zeroValue4
 t5:=Tryz.underlying5
 a5:=Tryz.isAgg5
 z5:=Tryz.sizeOf5
 v5:=Tryz.zeroValue5
 t9:=Tryz.underlying9
 a9:=Tryz.isAgg9
 z9:=Tryz.sizeOf9
 v9:=Tryz.zeroValue9
 t46:=Tryz.underlying256
 a46:=Tryz.isAgg256
 z46:=Tryz.sizeOf256
 v46:=Tryz.zeroValue256
 t51:=Tryz.underlying212
 a51:=Tryz.isAgg212
 z51:=Tryz.sizeOf212
 v51:=Tryz.zeroValue212}
theorem Tryz.bits_LeadingZeros32(x:Int)(w:World)(h0:0≤x)(h1:x≤4294967295):
 Calls Tryz.prog 240 #[.int .u32 x] w fun e w'=>e= .returned (.int .i64 (32-(Lib.bitLen x.toNat:Int)))∧w'=w:=Any.bits_LeadingZeros32 Tryz.lays133 x w h0 h1
end Go.Proofs
namespace Go.Proofs.YtancebninmoipaaGreatDoor
open Go Go.RowKit Go.Dig
open Go.Eng (Kept KW KeptB)
theorem size191:(Tryz.prog.info? 212).map (·.size)=some 1:=by kernel_rfl
theorem wpList_copy_words{w:World}{ops:Array Oper}{rest:List Oper}{o:Oper}{act:Act}{Q:Exit→Act→World→Prop}(hgd:o.guard=none)(d s:Operand)(dT sT:TypeId)
 (ho:o.op= .call {callee:=.builtin .copy,args:=#[d,s],argTypes:=#[dT,sT]})(hu:Tryz.prog.underlying dT=some (.slice 212))
 (g L dcap n scap:Nat)(a:Option Addr)(hd:act.eval d= .slice (some ⟨g,0,none⟩) L dcap)(hs:act.eval s= .slice a n scap)(zs xs:Nat→Nat)
 (hrow:Row w g L zs)(hws:Ws w a n xs)(hn:n≤L)
 (h:∀w',Row w' g L (over xs n zs)→KeptB w w' g→wpList Tryz.prog ops Q rest (act.put o.dst (goInt n)) w'):
 wpList Tryz.prog ops Q (o::rest) act w:=by
 rcases hws.open with rfl|⟨h0,b,off,rfl,hc⟩
 ·refine wpList_copy_nothing hgd d s dT sT ho 212 hu size191 _ _ L dcap 0 scap hd hs (by simp) ?_
  refine h w ?_ (KeptB.refl _ _)
  have e:over xs 0 zs=zs:=by funext i;simp[over]
  rw[e];exact hrow
 ·obtain⟨cur,hb,hcn,hcc⟩:=hrow
  have hcs:((List.range n).map fun i=>Value.int .u32 (xs i:Nat)).length=n:=by simp
  refine wpList_copy_own hgd d s dT sT ho 212 hu size191 g 0 L dcap ⟨b,off,none⟩ n scap hd hs cur 212 hb ((List.range n).map fun i=>Value.int .u32 (xs i:Nat)) ?_ ?_ ?_ ?_ ?_
  ·rw[hcs];show n=min n L;omega
  ·intro j v hv
   rw[List.getElem?_map] at hv
   obtain⟨i,hi,rfl⟩:=Option.map_eq_some_iff.1 hv
   obtain⟨hj,rfl⟩:=List.getElem?_eq_some_iff.1 hi
   rw[List.getElem_range]
   have h9:=hc j (by simpa using hj)
   rw[show(Addr.add ⟨b,off,none⟩ j)=⟨b,off+j,none⟩ by unfold Addr.add;split<;>simp_all]
   exact h9
  ·rw[hcs];omega
  ·intro v hv
   obtain⟨i,_,rfl⟩:=List.mem_map.1 hv
   rfl
  ·rw[hcs]
   refine h _ ?_ ?_
   ·refine⟨_,setRow_heap w g _ _ 212 _ hb,?_,?_⟩
    ·simp;omega
    ·intro i hi
     simp only[over]
     by_cases hin:i<n
     ·rw[if_pos hin]
      simp[List.getElem?_append,hin]
     ·rw[if_neg hin]
      simp[List.getElem?_append,hin]
      rw[show n+(i-n)=i by omega]
      exact hcc i hi
   ·exact⟨by simp[World.setRow],fun c hc hcb=>setRow_other w g c _ (by omega),rfl,rfl,rfl⟩
def RetQR(q r:Nat)(w:World)(e:Ending)(w':World):Prop:=∃v u,e= .returned (.tuple #[v,u])∧Nt 4294967296 w' v q∧Nt 4294967296 w' u r∧Kept w w'
theorem div_less{w:World}{v u:Value}{m k:Nat}(hv:Nt 4294967296 w v m)(hu:Nt 4294967296 w u k)(hm:m<Big)(h:m<k):
 Calls Tryz.prog 199 #[v,u] w (RetQR 0 m w):=by
 have hcm:cmpInt m k= -1:=by simp[cmpInt,h]
 go_enter Tryz.func199,Tryz.ntmps199
 go_wp2_with(go_at_call 136;refine(cmp_calls (.inr rfl) hv hu hm).mono ?_;rintro e w' ⟨rfl,hk⟩)
 go_ret2
 exact⟨_,_,rfl,nt_zero _ _ _ _,hv.kept hk,hk⟩
set_option maxHeartbeats 1000000 in
set_option maxRecDepth 100000 in
theorem div_one{w:World}{v u:Value}{m k:Nat}(hv:Nt 4294967296 w v m)(hu:Nt 4294967296 w u k)(hm:m<Big)(h:k≤m)(hk0:0<k)(hk:k<4294967296):
 Calls Tryz.prog 199 #[v,u] w (RetQR (m/k) (m%k) w):=by
 have hcm:0≤cmpInt m k:=by unfold cmpInt;split<;>(try split)<;>omega
 have huu:=hu
 obtain⟨a,n,cap,xs,rfl,hc,hxd,hn,hval,hw⟩:=hu
 obtain rfl:n=1:=by
  have h1:=len_le_of_lt (B:=4294967296) (L:=1) (by decide) hn (by rw[hval];simpa using hk)
  have h2:n≠0:=by rintro rfl;simp[val] at hval;omega
  omega
 obtain rfl:xs 0=k:=by rw[←hval];simp[val]
 obtain⟨b,off,rfl,hcell⟩:=hw 0 (by omega)
 have hcell0:w.cell? ⟨b,off,none⟩=some (.int .u32 (xs 0:Nat)):=hcell
 clear hcell hxd hn hw hval
 have hcc:=cmp_calls (.inr rfl) hv huu hm
 generalize cmpInt m (xs 0)=ci at*
 go_enter Tryz.func199,Tryz.ntmps199
 go_wp2_with(go_at_call 136;refine hcc.mono ?_;rintro e w1 ⟨rfl,hk1⟩;have hcell1:=hk1.cell hcell0)
 have hdv:=divs_calls (hv.kept hk1) hm hk0 hk
 have hr:m%xs 0<18446744073709551616:=by have:=Nat.mod_lt m hk0;omega
 have hr2:m%xs 0<4294967296:=by have:=Nat.mod_lt m hk0;omega
 generalize m%xs 0=r at*
 generalize m/xs 0=q at*
 refine hdv.mono ?_
 rintro e w2 ⟨v2,rfl,hv2,hk2⟩
 go_wp2_with(go_at_call 132;refine(small_calls w2 r hr).mono ?_;rintro e w3 ⟨v3,rfl,hv3,hk3⟩)
 go_ret2
 exact⟨_,_,rfl,hv2.kept hk3,hv3,(hk1.trans hk2).trans hk3⟩
end Go.Proofs.YtancebninmoipaaGreatDoor
namespace Go.Dig
def lz(x:Nat):Nat:=32-Lib.bitLen x
theorem bitLen_facts{x:Nat}(h0:0<x)(hx:x<4294967296):1≤Lib.bitLen x∧Lib.bitLen x≤32∧2^(Lib.bitLen x-1)≤x∧x<2^Lib.bitLen x:=by
 have h1:=Lib.bitLenAux_bounds 64 x (by have:(4294967296:Nat)<2^64:=by decide
                                        omega) (by omega)
 have h2:=Lib.bitLen_le x 32 (by decide) (by simpa using hx)
 exact⟨h1.1,h2,h1.2.1,h1.2.2⟩
theorem lz_facts{x:Nat}(h0:0<x)(hx:x<4294967296):lz x≤31∧2147483648≤x*2^lz x∧(x+1)*2^lz x≤4294967296:=by
 obtain⟨h1,h2,h3,h4⟩:=bitLen_facts h0 hx
 unfold lz
 generalize Lib.bitLen x=b at*
 refine⟨by omega,?_,?_⟩
 ·have:=Nat.mul_le_mul_right (2^(32-b)) h3
  rw[←Nat.pow_add,show b-1+(32-b)=31 by omega] at this
  exact this
 ·have:=Nat.mul_le_mul_right (2^(32-b)) (show x+1≤2^b by omega)
  rw[←Nat.pow_add,show b+(32-b)=32 by omega] at this
  exact this
theorem divisor_facts{ys:Nat→Nat}{n:Nat}(hn:0<n)(hy:∀i,i<n→ys i<4294967296)(ht:0<ys (n-1)):
 2147483648*4294967296^(n-1)≤val 4294967296 ys n*2^lz (ys (n-1))∧val 4294967296 ys n*2^lz (ys (n-1))<4294967296^n:=by
 obtain⟨_,h2,h3⟩:=lz_facts ht (hy (n-1) (by omega))
 obtain⟨k,rfl⟩:∃k,n=k+1:=⟨n-1,by omega⟩
 simp only[Nat.add_sub_cancel] at*
 have hv:=val_lt (B:=4294967296) (n:=k) fun i hi=>hy i (by omega)
 simp only[val]
 rw[Nat.pow_succ]
 have hS:0<2^lz (ys k):=Nat.pow_pos (by decide)
 generalize 2^lz (ys k)=S at*
 generalize (4294967296:Nat)^k=P at*
 generalize val 4294967296 ys k=V at*
 generalize ys k=t at*
 constructor
 ·have e1:2147483648*P≤t*S*P:=Nat.mul_le_mul_right _ h2
  have e2:(V+t*P)*S=V*S+t*S*P:=by grind
  omega
 ·have e1:(V+t*P)*S<(t+1)*P*S:=Nat.mul_lt_mul_of_pos_right (by rw[Nat.add_mul];omega) hS
  have e2:(t+1)*P*S=(t+1)*S*P:=by grind
  have e3:(t+1)*S*P≤4294967296*P:=Nat.mul_le_mul_right _ h3
  have e4:4294967296*P=P*4294967296:=Nat.mul_comm ..
  omega
theorem divisor_digits{ds:Nat→Nat}{n nd D:Nat}(hn:0<n)(hd:∀i,i<nd→ds i<4294967296)(hnm:norm ds nd)(hv:val 4294967296 ds nd=D)
 (h1:2147483648*4294967296^(n-1)≤D)(h2:D<4294967296^n):nd=n∧4294967296≤2*ds (n-1):=by
 have e:nd=n:=by
  have a:=len_le_of_lt (B:=4294967296) (by decide) hnm (by rw[hv];exact h2)
  by_cases h:nd<n
  ·have b:=val_lt hd
   have c:(4294967296:Nat)^nd≤4294967296^(n-1):=Nat.pow_le_pow_right (by decide) (by omega)
   have:0<(4294967296:Nat)^(n-1):=Nat.pow_pos (by decide)
   omega
  ·omega
 subst e
 refine⟨rfl,?_⟩
 obtain⟨k,rfl⟩:∃k,nd=k+1:=⟨nd-1,by omega⟩
 simp only[Nat.add_sub_cancel] at*
 have b:=val_lt (B:=4294967296) (n:=k) fun i hi=>hd i (by omega)
 have e2:val 4294967296 ds (k+1)=val 4294967296 ds k+ds k*4294967296^k:=rfl
 have e3:2147483648*4294967296^k<(ds k+1)*4294967296^k:=by rw[Nat.add_mul];omega
 have:=Nat.lt_of_mul_lt_mul_right e3
 omega
theorem dividend_facts{m D na n s:Nat}(hm:m<4294967296^na)(hs:s≤31)(hn:0<n)(hna:n≤na)(hD:2147483648*4294967296^(n-1)≤D):
 m*2^s<D*4294967296^(na-n+1)∧m*2^s<4294967296^(na+1):=by
 have h1:2^s≤2147483648:=by
  have:=Nat.pow_le_pow_right (n:=2) (by decide) hs
  simpa using this
 have hp:0<(4294967296:Nat)^na:=Nat.pow_pos (by decide)
 have hS:0<2^s:=Nat.pow_pos (by decide)
 have h2:m*2^s<4294967296^na*2147483648:=by
  have a:m*2^s<4294967296^na*2^s:=Nat.mul_lt_mul_of_pos_right hm hS
  have b:4294967296^na*2^s≤4294967296^na*2147483648:=Nat.mul_le_mul_left _ h1
  omega
 constructor
 ·have a:2147483648*4294967296^(n-1)*4294967296^(na-n+1)≤D*4294967296^(na-n+1):=Nat.mul_le_mul_right _ hD
  rw[Nat.mul_assoc,←Nat.pow_add,show n-1+(na-n+1)=na by omega] at a
  have b:2147483648*4294967296^na=4294967296^na*2147483648:=Nat.mul_comm ..
  omega
 ·rw[Nat.pow_succ]
  exact Nat.lt_of_lt_of_le h2 (Nat.mul_le_mul_left _ (by decide))
end Go.Dig
