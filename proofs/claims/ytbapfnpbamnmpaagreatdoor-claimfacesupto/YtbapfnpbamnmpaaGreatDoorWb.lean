/- A part of the proof that ClaimFaces answers true for every input of bulk at most 1048576: conditions: the row's own. -/
import Derived.Test.YtbapfnpbamnmpaaGreatDoorWa
import Derived.Laws.BitsAllLaws
import Derived.Deep.Light
namespace Go.Dig
theorem pow32(k:Nat):(4294967296:Nat)^k=2^(32*k):=by rw[Nat.pow_mul]
theorem pow_cut{r:Nat}(h:r≤32):2^r*2^(32-r)=4294967296:=by rw[←Nat.pow_add,Nat.add_sub_cancel' h]
structure ShlI(xs:Nat→Nat)(wd r k:Nat)(zs:Nat→Nat):Prop where
 lt:∀j,zs j<4294967296
 top:zs (wd+k)<2^r
 zero:∀j,wd+k<j→zs j=0
 eq:val 4294967296 zs (wd+k+1)=val 4294967296 xs k*2^(32*wd+r)
theorem ShlI.start{xs:Nat→Nat}{wd r:Nat}:ShlI xs wd r 0 (fun _=>0):=
 ⟨fun _=>by decide,Nat.pow_pos (by decide),fun _ _=>rfl,by rw[val_zeros _ _ _ (fun _ _=>rfl)];simp[val]⟩
theorem shl_bound{x r:Nat}(hx:x<4294967296)(hr:r<32):x*2^r<18446744073709551616:=by
 have h1:2^r≤2^31:=Nat.pow_le_pow_right (by decide) (by omega)
 have h2:x*2^r≤4294967295*2^31:=Nat.mul_le_mul (by omega) h1
 have h3:4294967295*2^31<18446744073709551616:=by decide
 omega
theorem shl_hi{x r:Nat}(hx:x<4294967296):x*2^r/4294967296<2^r:=by
 refine Nat.div_lt_of_lt_mul ?_
 exact Nat.mul_lt_mul_of_pos_right hx (Nat.pow_pos (by decide))
theorem shl_or{z t r:Nat}(hz:z<2^r)(hr:r<32)(ht:t%2^r=0):z ||| t%4294967296=z+t%4294967296∧z+t%4294967296<4294967296:=by
 have hp:=pow_cut (Nat.le_of_lt hr)
 have hm:t%4294967296%2^r=0:=by
  rw[Nat.mod_mod_of_dvd _ ⟨_,hp.symm⟩];exact ht
 refine⟨?_,?_⟩
 ·rw[Nat.or_comm,nat_join r _ _ hm hz,Nat.add_comm]
 ·have hl:t%4294967296<4294967296:=Nat.mod_lt _ (by decide)
  generalize t%4294967296=l at*
  obtain⟨q,rfl⟩:∃q,l=2^r*q:=⟨l/2^r,by have:=Nat.mod_add_div l (2^r);omega⟩
  rw[←hp] at hl⊢
  have hq:q<2^(32-r):=Nat.lt_of_mul_lt_mul_left hl
  have:2^r*(q+1)≤2^r*2^(32-r):=Nat.mul_le_mul_left _ hq
  rw[Nat.mul_add] at this
  omega
theorem ShlI.step{xs zs:Nat→Nat}{wd r k:Nat}(h:ShlI xs wd r k zs)(hx:xs k<4294967296)(hr:r<32):
 ShlI xs wd r (k+1) (upd (upd zs (wd+k) (zs (wd+k) ||| xs k*2^r%4294967296)) (wd+k+1) (xs k*2^r/4294967296)):=by
 have ho:=shl_or h.top hr (Nat.mul_mod_left (xs k) (2^r))
 have hh:=shl_hi (r:=r) hx
 refine⟨fun j=> ?_,?_,fun j hj=> ?_,?_⟩
 ·unfold upd
  split
  ·have:2^r≤2^32:=Nat.pow_le_pow_right (by decide) (by omega)
   have h3:(2:Nat)^32=4294967296:=by decide
   omega
  ·split
   ·rw[ho.1];exact ho.2
   ·exact h.lt j
 ·rw[show wd+(k+1)=wd+k+1 by omega,upd_same];exact hh
 ·rw[upd_other _ (by omega),upd_other _ (by omega)];exact h.zero j (by omega)
 ·have e:=h.eq
  rw[show wd+(k+1)+1=(wd+k+1)+1 by omega,val_upd_top,val_upd_top,ho.1]
  simp only[val] at e⊢
  rw[Nat.add_mul (val 4294967296 xs k),←e]
  have hd:=Nat.mod_add_div (xs k*2^r) 4294967296
  have hp:xs k*4294967296^k*2^(32*wd+r)=(xs k*2^r)*4294967296^(wd+k):=by
   rw[Nat.pow_add 2,←pow32,Nat.pow_add];grind
  rw[hp]
  generalize xs k*2^r=t at*
  rw[Nat.pow_succ]
  generalize (4294967296:Nat)^(wd+k)=P at*
  generalize val 4294967296 zs (wd+k)=V at*
  generalize zs (wd+k)=z at*
  generalize t%4294967296=l at*
  generalize t/4294967296=d at*
  subst hd
  grind
def shrD(x y r:Nat):Nat:=(x+y*4294967296)/2^r%4294967296
theorem shrD_eq{x y r:Nat}(hx:x<4294967296)(hr:r<32):shrD x y r*2^r+x%2^r=x+y%2^r*4294967296:=by
 unfold shrD
 have hp:=pow_cut (Nat.le_of_lt hr)
 have hpos:0<2^r:=Nat.pow_pos (by decide)
 have hpos':0<2^(32-r):=Nat.pow_pos (by decide)
 generalize 2^r=R at*
 generalize 2^(32-r)=S at*
 have hx1:=Nat.mod_add_div x R
 have hxd:x/R<S:=Nat.div_lt_of_lt_mul (by rw[hp];exact hx)
 have e1:(x+y*4294967296)/R=x/R+y*S:=by
  rw[show y*4294967296=(y*S)*R by rw[←hp];grind,Nat.add_mul_div_right _ _ hpos]
 rw[e1]
 have hy1:=Nat.mod_add_div y R
 have e2:(x/R+y*S)%4294967296=x/R+y%R*S:=by
  have hlt:x/R+y%R*S<4294967296:=by
   have:y%R<R:=Nat.mod_lt _ hpos
   have:(y%R+1)*S≤R*S:=Nat.mul_le_mul_right _ (by omega)
   rw[Nat.add_mul] at this
   omega
  have h2:x/R+y*S=x/R+y%R*S+(y/R)*4294967296:=by
   have h3:y*S=(y%R+R*(y/R))*S:=by rw[hy1]
   rw[h3,←hp];grind
  rw[h2,Nat.add_mul_mod_self_right,Nat.mod_eq_of_lt hlt]
 rw[e2]
 generalize y%R=yr at*
 generalize x/R=xq at*
 generalize x%R=xr at*
 subst hx1
 rw[←hp]
 grind
theorem shr_inv{zs os:Nat→Nat}{r:Nat}(hr:r<32):∀{k:Nat},(∀i,i<k→zs i<4294967296)→(∀i,i<k→os i=shrD (zs i) (zs (i+1)) r)→
 val 4294967296 os k*2^r+zs 0%2^r=val 4294967296 zs k+zs k%2^r*4294967296^k
 |0,_,_=>by simp[val]
 |k+1,hz,ho=>by
  have ih:=shr_inv hr (k:=k) (fun i hi=>hz i (by omega)) (fun i hi=>ho i (by omega))
  have e:=shrD_eq (y:=zs (k+1)) (hz k (by omega)) hr
  rw[←ho k (by omega)] at e
  simp only[val]
  rw[Nat.pow_succ]
  generalize (4294967296:Nat)^k=P at*
  generalize zs 0%2^r=a at*
  generalize zs k%2^r=b at*
  generalize zs (k+1)%2^r=c at*
  generalize 2^r=R at*
  have:os k*R*P+b*P=zs k*P+c*4294967296*P:=by rw[←Nat.add_mul,e,Nat.add_mul]
  grind
theorem shr_val{zs os:Nat→Nat}{r m:Nat}(hr:r<32)(hz:∀i,i<m→zs i<4294967296)(h0:zs m=0)(ho:∀i,i<m→os i=shrD (zs i) (zs (i+1)) r):
 val 4294967296 os m=val 4294967296 zs m/2^r:=by
 have h:=shr_inv hr hz ho
 rw[h0] at h
 have hpos:0<2^r:=Nat.pow_pos (by decide)
 have hlt:zs 0%2^r<2^r:=Nat.mod_lt _ hpos
 simp only[Nat.zero_mod,Nat.zero_mul,Nat.add_zero] at h
 rw[←h,Nat.add_comm,Nat.add_mul_div_right _ _ hpos,Nat.div_eq_of_lt hlt,Nat.zero_add]
theorem val_split(B:Nat)(xs:Nat→Nat)(a:Nat):∀m,val B xs (a+m)=val B xs a+val B (fun i=>xs (a+i)) m*B^a
 |0=>by simp[val]
 |m+1=>by
  rw[show a+(m+1)=a+m+1 by omega]
  simp only[val]
  rw[val_split B xs a m,Nat.pow_add]
  grind
theorem val_drop{B:Nat}{xs:Nat→Nat}{a m:Nat}(hB:0<B)(hx:∀i,i<a→xs i<B):val B (fun i=>xs (a+i)) m=val B xs (a+m)/B^a:=by
 have h:=val_lt hx
 rw[val_split,Nat.add_mul_div_right _ _ (Nat.pow_pos hB),Nat.div_eq_of_lt h,Nat.zero_add]
end Go.Dig
namespace Go.Proofs.YtbapfnpbamnmpaaGreatDoor
open Go Go.RowKit Go.Dig
open Go.Eng (Kept KW)
theorem nt_zero(B:Nat)(w:World)(a:Option Addr)(cap:Nat):Nt B w (.slice a 0 cap) 0:=
 ⟨a,0,cap,fun _=>0,rfl,Nat.zero_le _,fun _ h=>by omega,.inl rfl,rfl,fun _ h=>by omega⟩
theorem wrap_u64_id{n:Nat}(h:n<18446744073709551616):IntKind.u64.wrap (n:Int)=n:=by rw[IntKind.wrap_u64];omega
set_option maxHeartbeats 4000000 in
set_option maxRecDepth 100000 in
theorem shl_some(w:World)(b off cap n s:Nat)(xs:Nat→Nat)(hn:n≤1024)(h0:0<n)(hs:s≤100000)
 (hxl:∀i,i<n→xs i<4294967296)
 (hx:∀i,i<n→w.cell? ⟨b,off+i,none⟩=some (.int .u32 (xs i:Nat))):
 Calls Tryz.prog 339 #[.slice (some ⟨b,off,none⟩) n cap,.int .i64 (s:Int)] w (RetNt 4294967296 (val 4294967296 xs n*2^s) w):=by
 have hmk:=fun w=>run_make_row' (P:=Tryz.prog) 22 191 (.int .u32 0) 4 Tryz.underlying22 info191 rfl .i64 .i64 (n+s/32+1) (by omega) (by omega) w
 have ec:((n+s/32+1:Nat):Int)=(n:Int)+(s:Int)/32+1:=by omega
 rw[ec] at hmk
 clear ec
 have HXL:=Lib.hid hxl;clear hxl
 have HX:=Lib.hid hx;clear hx
 have q1:((n:Int)==0)=false:=by simp;omega
 go_enter Tryz.func339,Tryz.ntmps339
 go_wp2
 clear hmk
 go_loopw [27] (fun i wr=>∃(k:Nat)(zs:Nat→Nat),k≤n∧i= .int .i64 (k:Int)∧ShlI xs (s/32) (s%32) k zs∧Row wr w.heap.size (n+s/32+1) zs∧Kept w wr) (fun i _=>n-(intOf i).toNat)
 case atStart=>exact⟨0,fun _=>0,Nat.zero_le _,rfl,ShlI.start,Row.made _ _,(Kept.refl _).alloc _⟩
 case round=>
  obtain⟨k,zs,hk,rfl,hsi,hrow,hkw⟩:=hrel
  by_cases hlt:k<n
  ·have h1:=hkw.cell (HX.out k hlt)
   have hxk:=HXL.out k hlt
   have h3:=hrow.cell (i:=s/32+k) (by omega)
   have h4:=hrow.frozen (s/32+k)
   have h5:=(hrow.cell (i:=s/32+k+1) (by omega))
   have h6:=hrow.frozen (s/32+k+1)
   have hzk:=hsi.lt (s/32+k)
   have hst:=Lib.hid (hsi.step hxk (Nat.mod_lt _ (by decide)))
   have hb1:=Lib.hid (shl_bound (r:=s%32) hxk (Nat.mod_lt _ (by decide)))
   clear hsi
   go_wp2
   go_roundw
   case rel=>
    refine⟨k+1,_,by omega,by go_num,hst.out,?_,(hkw.setCell (Nat.le_refl _) _).setCell (Nat.le_refl _) _⟩
    have e1:IntKind.u64.wrap ((xs k:Int)*2^(s%32))=((xs k*2^(s%32):Nat):Int):=by
     rw[←wrap_u64_id hb1.out];congr 1
    have e2:(((xs k*2^(s%32):Nat):Int)%4294967296)=((xs k*2^(s%32)%4294967296:Nat):Int):=by omega
    have e3:(((xs k*2^(s%32):Nat):Int)/4294967296%4294967296)=((xs k*2^(s%32)/4294967296:Nat):Int):=by have:=hb1.out;omega
    rw[e1,e2,e3,u32_or_nat _ _ hzk (Nat.mod_lt _ (by decide))]
    exact(hrow.set _ _).set _ _
   case measure=>simp[intOf];omega
  ·obtain rfl:n=k:=by omega
   go_wp2_with(go_at_call 248;refine(of_calls _ _ _ _ zs (by omega) (Nat.le_refl _) (hrow.ws (Nat.le_refl _))).mono ?_;rintro e w' ⟨rfl,rfl⟩)
   go_ret
   refine⟨_,rfl,?_,hkw⟩
   have:=nt_of (B:=4294967296) (cap:=n+s/32+1) (Nat.le_refl _) (fun i _=>hsi.lt i) (hrow.ws (Nat.le_refl _))
   rw[Nat.add_comm n,hsi.eq,Nat.div_add_mod] at this
   rw[Nat.add_comm n]
   exact this
theorem shl_zero(w:World)(a:Option Addr)(cap:Nat)(v:Value):
 Calls Tryz.prog 339 #[.slice a 0 cap,v] w (RetNt 4294967296 0 w):=by
 go_enter Tryz.func339,Tryz.ntmps339
 go_wp2
 go_ret
 exact⟨_,rfl,nt_zero _ _ _ _,Kept.refl _⟩
theorem shl_calls{w:World}{v:Value}{m s:Nat}(hv:Nt 4294967296 w v m)(hm:m<Big)(hs:s≤100000):
 Calls Tryz.prog 339 #[v,.int .i64 (s:Int)] w (RetNt 4294967296 (m*2^s) w):=by
 obtain⟨a,n,cap,xs,rfl,hc,hd,hn,rfl,hw⟩:=hv
 have hl:=len_big (.inr rfl) hn hm
 rcases hw.open with rfl|⟨h0,b,off,rfl,hx⟩
 ·have:=shl_zero w a cap (.int .i64 (s:Int))
  simpa [val] using this
 ·exact shl_some w b off cap n s xs hl h0 hs hd hx
theorem or_u64{x y:Nat}(hx:x<4294967296)(hy:y<4294967296):bits BinOp.or IntKind.u64 (x:Int) ((y:Int)*4294967296)=((x+y*4294967296:Nat):Int):=by
 have h:=u64_or_nat x (y*4294967296) (by omega) (by omega)
 rw[Nat.or_comm,nat_join 32 _ _ (by simp) (by simpa using hx),Nat.add_comm] at h
 rw[←h]
 congr 1
theorem shr_cell{x y r:Nat}:(((x+y*4294967296:Nat):Int)/2^r%4294967296)=(shrD x y r:Nat):=by
 unfold shrD
 simp
theorem shrD_lt(x y r:Nat):shrD x y r<4294967296:=Nat.mod_lt _ (by decide)
def from'(xs:Nat→Nat)(n wd:Nat):Nat→Nat:=fun i=>if wd+i<n then xs (wd+i) else 0
set_option maxHeartbeats 4000000 in
set_option maxRecDepth 100000 in
theorem shr_some(w:World)(b off cap n s:Nat)(xs:Nat→Nat)(hn:n≤1024)(h0:s/32<n)(hs:s≤100000)
 (hxl:∀i,i<n→xs i<4294967296)
 (hx:∀i,i<n→w.cell? ⟨b,off+i,none⟩=some (.int .u32 (xs i:Nat))):
 Calls Tryz.prog 274 #[.slice (some ⟨b,off,none⟩) n cap,.int .i64 (s:Int)] w (RetNt 4294967296 (val 4294967296 xs n/2^s) w):=by
 have hmk:=fun w=>run_make_row' (P:=Tryz.prog) 22 191 (.int .u32 0) 4 Tryz.underlying22 info191 rfl .i64 .i64 (n-s/32) (by omega) (by omega) w
 have ec:((n-s/32:Nat):Int)=(n:Int)-(s:Int)/32:=by omega
 rw[ec] at hmk
 clear ec
 have HXL:=Lib.hid hxl;clear hxl
 have HX:=Lib.hid hx;clear hx
 have hge:decide ((n:Int)≤(s:Int)/32)=false:=by simp;omega
 go_enter Tryz.func274,Tryz.ntmps274
 go_wp2
 clear hmk
 go_loopw [26] (fun i wr=>∃(k:Nat)(zs:Nat→Nat),k≤n-s/32∧i= .int .i64 (k:Int)∧(∀j,zs j<4294967296)∧(∀j,j<k→zs j=shrD (from' xs n (s/32) j) (from' xs n (s/32) (j+1)) (s%32))∧Row wr w.heap.size (n-s/32) zs∧Kept w wr) (fun i _=>n-s/32-(intOf i).toNat)
 case atStart=>exact⟨0,fun _=>0,Nat.zero_le _,rfl,fun _=>(by decide:(0:Nat)<4294967296),fun _ h=>by omega,Row.made _ _,(Kept.refl _).alloc _⟩
 case round=>
  obtain⟨k,zs,hk,rfl,hz1,hz2,hrow,hkw⟩:=hrel
  have HZ1:=Lib.hid hz1;clear hz1
  have HZ2:=Lib.hid hz2;clear hz2
  by_cases hlt:k<n-s/32
  ·have h1:=hkw.cell (HX.out (s/32+k) (by omega))
   have hxk:=HXL.out (s/32+k) (by omega)
   have h3:=hrow.cell (i:=k) (by omega)
   have h4:=hrow.frozen k
   by_cases hlt2:s/32+k+1<n
   ·have h5:=hkw.cell (HX.out (s/32+k+1) hlt2)
    have hxk2:=HXL.out (s/32+k+1) hlt2
    go_wp2
    go_roundw
    case rel=>
     refine⟨k+1,upd zs k (shrD (xs (s/32+k)) (xs (s/32+k+1)) (s%32)),by omega,by go_num,fun j=> ?_,fun j hj=> ?_,?_,hkw.setCell (Nat.le_refl _) _⟩
     ·unfold upd;split
      ·exact shrD_lt _ _ _
      ·exact HZ1.out j
     ·unfold upd;split
      ·subst j;simp only[from'];rw[if_pos (by omega),if_pos (by omega),←Nat.add_assoc]
      ·exact HZ2.out j (by omega)
     ·rw[or_u64 hxk hxk2,shr_cell];exact hrow.set _ _
    case measure=>simp[intOf];omega
   ·go_wp2
    go_roundw
    case rel=>
     refine⟨k+1,upd zs k (shrD (xs (s/32+k)) 0 (s%32)),by omega,by go_num,fun j=> ?_,fun j hj=> ?_,?_,hkw.setCell (Nat.le_refl _) _⟩
     ·unfold upd;split
      ·exact shrD_lt _ _ _
      ·exact HZ1.out j
     ·unfold upd;split
      ·subst j;simp only[from'];rw[if_pos (by omega),if_neg (by omega)]
      ·exact HZ2.out j (by omega)
     ·have e:=shr_cell (x:=xs (s/32+k)) (y:=0) (r:=s%32)
      simp only[Nat.zero_mul,Nat.add_zero] at e
      rw[e];exact hrow.set _ _
    case measure=>simp[intOf];omega
  ·obtain rfl:k=n-s/32:=by omega
   go_wp2_with(go_at_call 248;refine(of_calls _ _ _ _ zs (by omega) (Nat.le_refl _) (hrow.ws (Nat.le_refl _))).mono ?_;rintro e w' ⟨rfl,rfl⟩)
   go_ret
   refine⟨_,rfl,?_,hkw⟩
   have:=nt_of (B:=4294967296) (cap:=n-s/32) (Nat.le_refl _) (fun i _=>HZ1.out i) (hrow.ws (Nat.le_refl _))
   rw[shr_val (zs:=from' xs n (s/32)) (r:=s%32) (Nat.mod_lt _ (by decide)) (fun i hi=> ?_) ?_ HZ2.out] at this
   ·have e:val 4294967296 (from' xs n (s/32)) (n-s/32)=val 4294967296 xs n/4294967296^(s/32):=by
     have h1:=val_drop (B:=4294967296) (xs:=xs) (a:=s/32) (m:=n-s/32) (by decide) (fun i hi=>HXL.out i (by omega))
     rw[show s/32+(n-s/32)=n by omega] at h1
     rw[←h1]
     exact val_congr fun i hi=>by simp only[from'];rw[if_pos (by omega)]
    rw[e,pow32,Nat.div_div_eq_div_mul,←Nat.pow_add,Nat.div_add_mod] at this
    exact this
   ·simp only[from'];rw[if_neg (by omega)]
   ·simp only[from'];rw[if_pos (by omega)];exact HXL.out _ (by omega)
theorem shr_zero(w:World)(a:Option Addr)(n cap s:Nat)(hs:s≤100000)(hn:n≤1024)(h:n≤s/32):
 Calls Tryz.prog 274 #[.slice a n cap,.int .i64 (s:Int)] w (RetNt 4294967296 0 w):=by
 have hge:decide ((n:Int)≤(s:Int)/32)=true:=by simp;omega
 go_enter Tryz.func274,Tryz.ntmps274
 go_wp2
 go_ret
 exact⟨_,rfl,nt_zero _ _ _ _,Kept.refl _⟩
theorem shr_calls{w:World}{v:Value}{m s:Nat}(hv:Nt 4294967296 w v m)(hm:m<Big)(hs:s≤100000):
 Calls Tryz.prog 274 #[v,.int .i64 (s:Int)] w (RetNt 4294967296 (m/2^s) w):=by
 obtain⟨a,n,cap,xs,rfl,hc,hd,hn,rfl,hw⟩:=hv
 have hl:=len_big (.inr rfl) hn hm
 by_cases h:s/32<n
 ·rcases hw.open with rfl|⟨h0,b,off,rfl,hx⟩
  ·omega
  ·exact shr_some w b off cap n s xs hl h hs hd hx
 ·have:=shr_zero w a n cap s hs hl (by omega)
  have h1:=val_lt hd
  rw[pow32] at h1
  have h2:2^(32*n)≤2^s:=Nat.pow_le_pow_right (by decide) (by omega)
  rw[Nat.div_eq_of_lt (by omega)]
  exact this
end Go.Proofs.YtbapfnpbamnmpaaGreatDoor
namespace Go.Dig
theorem val_upd_mid{B:Nat}{zs:Nat→Nat}{p x:Nat}:∀{n:Nat},p<n→val B (upd zs p x) n+zs p*B^p=val B zs n+x*B^p
 |0,h=>by omega
 |n+1,h=>by
  by_cases hp:p=n
  ·subst hp
   rw[val_upd_top];simp only[val];omega
  ·have ih:=val_upd_mid (B:=B) (zs:=zs) (x:=x) (show p<n by omega)
   simp only[val]
   rw[upd_other zs (by omega)]
   omega
structure DivI(B:Nat)(xs:Nat→Nat)(n d k:Nat)(zs:Nat→Nat)(r:Nat):Prop where
 lt:∀j,zs j<B
 rlt:r<d
 zero:∀j,j<k→zs j=0
 eq:∃Q,val B zs n=Q*B^k∧val B xs n=val B xs k+(d*Q+r)*B^k
theorem DivI.start{B:Nat}{xs:Nat→Nat}{n d:Nat}(hB:0<B)(hd:0<d):DivI B xs n d n (fun _=>0) 0:=
 ⟨fun _=>hB,hd,fun _ _=>rfl,0,by rw[val_zeros _ _ _ (fun _ _=>rfl)];simp,by simp⟩
theorem div_bound{B r d x:Nat}(hr:r<d)(hx:x<B):r*B+x<d*B:=by
 have:(r+1)*B≤d*B:=Nat.mul_le_mul_right _ hr
 rw[Nat.add_mul] at this
 omega
theorem DivI.step{B:Nat}{xs zs:Nat→Nat}{n d k r:Nat}(h:DivI B xs n d (k+1) zs r)(hk:k<n)(hx:xs k<B):
 DivI B xs n d k (upd zs k ((r*B+xs k)/d)) ((r*B+xs k)%d):=by
 have hb:=div_bound h.rlt hx
 have hd:0<d:=by have:=h.rlt;omega
 obtain⟨Q,e1,e2⟩:=h.eq
 refine⟨fun j=> ?_,Nat.mod_lt _ hd,fun j hj=> ?_,Q*B+(r*B+xs k)/d,?_,?_⟩
 ·unfold upd;split
  ·exact Nat.div_lt_of_lt_mul hb
  ·exact h.lt j
 ·rw[upd_other _ (by omega)];exact h.zero j (by omega)
 ·have:=val_upd_mid (B:=B) (zs:=zs) (x:=(r*B+xs k)/d) hk
  rw[h.zero k (by omega),Nat.zero_mul,Nat.add_zero,e1,Nat.pow_succ] at this
  rw[this];grind
 ·rw[e2]
  simp only[val]
  rw[Nat.pow_succ]
  have hm:=Nat.mod_add_div (r*B+xs k) d
  generalize (r*B+xs k)/d=q at*
  generalize hs:(r*B+xs k)%d=r' at*
  generalize B^k=P at*
  have:(d*(Q*B+q)+r')*P=(d*Q*B+(r'+d*q))*P:=by grind
  rw[this,hm]
  grind
theorem DivI.done{B:Nat}{xs zs:Nat→Nat}{n d r:Nat}(h:DivI B xs n d 0 zs r):val B zs n=val B xs n/d∧r=val B xs n%d:=by
 obtain⟨Q,e1,e2⟩:=h.eq
 have hr:=h.rlt
 simp only[Nat.pow_zero,Nat.mul_one,val,Nat.zero_add] at e1 e2
 rw[e1,e2]
 constructor
 ·rw[Nat.mul_add_div (by omega),Nat.div_eq_of_lt hr,Nat.add_zero]
 ·rw[Nat.mul_add_mod,Nat.mod_eq_of_lt hr]
end Go.Dig
namespace Go.Proofs.YtbapfnpbamnmpaaGreatDoor
open Go Go.RowKit Go.Dig
open Go.Eng (Kept KW)
def RetNtR(B m:Nat)(r:Nat)(w:World)(e:Ending)(w':World):Prop:=∃v,e= .returned (.tuple #[v,.int .u32 (r:Int)])∧Nt B w' v m∧Kept w w'
theorem or_u64'{x y:Nat}(hx:x<4294967296)(hy:y<4294967296):bits BinOp.or IntKind.u64 ((y:Int)*4294967296) (x:Int)=((y*4294967296+x:Nat):Int):=by
 have h:=u64_or_nat (y*4294967296) x (by omega) (by omega)
 rw[nat_join 32 _ _ (by simp) (by simpa using hx)] at h
 rw[←h]
 congr 1
theorem mod_id{q:Nat}(h:q<4294967296):((q:Int)%4294967296)=(q:Int):=by omega
set_option maxHeartbeats 4000000 in
set_option maxRecDepth 100000 in
theorem divs_some(w:World)(a:Option Addr)(cap n d:Nat)(xs:Nat→Nat)(hn:n≤1024)(hd0:0<d)(hd:d<4294967296)
 (hxl:∀i,i<n→xs i<4294967296)(hx:Ws w a n xs):
 Calls Tryz.prog 307 #[.slice a n cap,.int .u32 (d:Int)] w (RetNtR 4294967296 (val 4294967296 xs n/d) (val 4294967296 xs n%d) w):=by
 have hmk:=fun w=>run_make_row' (P:=Tryz.prog) 22 191 (.int .u32 0) 4 Tryz.underlying22 info191 rfl .i64 .i64 n (by omega) (by omega) w
 have HXL:=Lib.hid hxl;clear hxl
 have HX:=Lib.hid hx;clear hx
 go_enter Tryz.func307,Tryz.ntmps307
 go_wp2
 clear hmk
 go_loopw [7,8] (fun rr i wr=>∃(k r:Nat)(zs:Nat→Nat),k≤n∧i= .int .i64 ((k:Int)-1)∧rr= .int .u64 (r:Int)∧DivI 4294967296 xs n d k zs r∧Row wr w.heap.size n zs∧Kept w wr) (fun _ i _=>(intOf i+1).toNat)
 case atStart=>exact⟨n,0,fun _=>0,Nat.le_refl _,rfl,rfl,DivI.start (by decide) hd0,Row.made _ _,(Kept.refl _).alloc _⟩
 case round=>
  obtain⟨k,r,zs,hk,rfl,rfl,hdi,hrow,hkw⟩:=hrel
  cases k with
  |zero=>
   have hrl:=hdi.rlt
   go_wp2_with(go_at_call 248;refine(of_calls _ _ _ _ zs (by omega) (Nat.le_refl _) (hrow.ws (Nat.le_refl _))).mono ?_;rintro e w' ⟨rfl,rfl⟩)
   go_ret2
   have hdn:=hdi.done
   refine⟨.slice (some ⟨w.heap.size,0,none⟩) (trimN zs n) n,by rw[←hdn.2];rfl,?_,hkw⟩
   have:=nt_of (B:=4294967296) (cap:=n) (Nat.le_refl _) (fun i _=>hdi.lt i) (hrow.ws (Nat.le_refl _))
   rw[hdn.1] at this
   exact this
  |succ k=>
   obtain⟨b,off,rfl,hc⟩:=HX.out k (by omega)
   have h1:=hkw.cell hc
   have HC:=Lib.hid hc;clear hc
   have hxk:=HXL.out k (by omega)
   have h3:=hrow.cell (i:=k) (by omega)
   have h4:=hrow.frozen k
   have hrl:=hdi.rlt
   have hst:=Lib.hid (hdi.step (by omega) hxk)
   have horr:=or_u64' (x:=xs k) (y:=r) hxk (by omega)
   have hbd:=div_bound hrl hxk
   clear hdi
   go_wp2
   go_roundw
   case rel=>
    refine⟨k,(r*4294967296+xs k)%d,upd zs k ((r*4294967296+xs k)/d),by omega,rfl,by simp,hst.out,?_,hkw.setCell (Nat.le_refl _) _⟩
    have e1:(((r:Int)*4294967296+(xs k:Int))/(d:Int))%4294967296=(((r*4294967296+xs k)/d:Nat):Int):=by
     have h2:(r*4294967296+xs k)/d<4294967296:=Nat.div_lt_of_lt_mul hbd
     rw[show((r:Int)*4294967296+(xs k:Int))/(d:Int)=(((r*4294967296+xs k)/d:Nat):Int) by simp]
     exact mod_id h2
    rw[e1]
    exact hrow.set _ _
   case measure=>simp[intOf]
theorem divs_calls{w:World}{v:Value}{m d:Nat}(hv:Nt 4294967296 w v m)(hm:m<Big)(hd0:0<d)(hd:d<4294967296):
 Calls Tryz.prog 307 #[v,.int .u32 (d:Int)] w (RetNtR 4294967296 (m/d) (m%d) w):=by
 obtain⟨a,n,cap,xs,rfl,hc,hxd,hn,rfl,hw⟩:=hv
 exact divs_some w a cap n d xs (len_big (.inr rfl) hn hm) hd0 hd hxd hw
def two(x y:Nat):Nat→Nat:=fun j=>if j=0 then x else y
theorem ws_two(w:World)(x y:Nat):Ws (w.alloc (Obj.cells #[Value.int IntKind.u32 (x:Int),Value.int IntKind.u32 (y:Int)] 191)) (some ⟨w.heap.size,0,none⟩) 2 (two x y):=by
 have h:(w.alloc (Obj.cells #[Value.int IntKind.u32 (x:Int),Value.int IntKind.u32 (y:Int)] 191)).rowIs w.heap.size 191 2 (fun j=>.int .u32 (two x y j:Nat)):=
  World.rowIs_alloc w _ 191 _ fun i hi=>by
   match i,hi with
   |0,_=>rfl
   |1,_=>rfl
 exact Row.ws h (Nat.le_refl _)
set_option maxHeartbeats 400000 in
theorem small_calls(w:World)(m:Nat)(hm:m<18446744073709551616):Calls Tryz.prog 189 #[.int .u64 (m:Int)] w (RetNt 4294967296 m w):=by
 have hws:=ws_two w (m%4294967296) (m/4294967296)
 have e1:((m%4294967296:Nat):Int)=(m:Int)%4294967296:=by omega
 have e2:((m/4294967296:Nat):Int)=(m:Int)/4294967296:=by omega
 rw[e1,e2] at hws
 clear e1 e2
 go_enter Tryz.func189,Tryz.ntmps189
 go_wp2_with(go_at_call 248;refine(of_calls _ _ _ _ (two (m%4294967296) (m/4294967296)) (by omega) (Nat.le_refl _) hws).mono ?_;rintro e w' ⟨rfl,rfl⟩)
 go_ret
 refine⟨_,rfl,?_,(Kept.refl _).alloc _⟩
 have:=nt_of (B:=4294967296) (cap:=2) (Nat.le_refl _) (fun i _=> ?_) hws
 ·have ev:val 4294967296 (two (m%4294967296) (m/4294967296)) 2=m:=by simp[val,two];omega
  rw[ev] at this
  exact this
 ·unfold two;split<;>omega
theorem zero_calls{B:Nat}(hB:Bs B){w:World}{v:Value}{m:Nat}(hv:Nt B w v m):
 Calls Tryz.prog 192 #[v] w fun e w'=>e= .returned (.bool (decide (m=0)))∧w=w':=by
 obtain⟨a,n,cap,xs,rfl,hc,hxd,hn,rfl,hw⟩:=hv
 have hz:=Lib.hid (val_eq_zero hB.pos hn)
 go_enter Tryz.func192,Tryz.ntmps192
 go_wp2
 go_ret
 exact⟨ret_bool (by rw[Bool.eq_iff_iff];simp[hz.out]),rfl⟩
set_option maxHeartbeats 400000 in
theorem one_calls{w:World}{v:Value}{m:Nat}(hv:Nt 4294967296 w v m):
 Calls Tryz.prog 222 #[v] w fun e w'=>e= .returned (.bool (decide (m=1)))∧w=w':=by
 obtain⟨a,n,cap,xs,rfl,hc,hxd,hn,rfl,hw⟩:=hv
 by_cases h1:n=1
 ·subst h1
  obtain⟨b,off,rfl,hcell⟩:=hw 0 (by omega)
  have hcell0:w.cell? ⟨b,off,none⟩=some (.int .u32 (xs 0:Nat)):=hcell
  have ev:val 4294967296 xs 1=xs 0:=by simp[val]
  rw[ev]
  clear hcell hxd hn hw ev
  go_enter Tryz.func222,Tryz.ntmps222
  go_wp2
  go_ret
  exact⟨ret_bool (by rw[Bool.eq_iff_iff];simp;try omega),rfl⟩
 ·have hne:val 4294967296 xs n≠1:=by
   intro e
   have:=len_le_of_lt (B:=4294967296) (L:=1) (by decide) hn (by rw[e];decide)
   have h0:n=0:=by omega
   subst h0
   simp[val] at e
  have q1:((n:Int)==1)=false:=by simp;omega
  clear hxd hn hw
  go_enter Tryz.func222,Tryz.ntmps222
  go_wp2
  go_ret
  exact⟨ret_bool (by simp[hne]),rfl⟩
end Go.Proofs.YtbapfnpbamnmpaaGreatDoor
namespace Go.Dig
section
structure Kn(B:Nat)(us ds:Nat→Nat)(n:Nat):Prop where
 two:2≤n
 base:2≤B
 dlt:∀i,i<n→ds i<B
 ult:∀i,i<n+1→us i<B
 half:B≤2*ds (n-1)
 lt:val B us (n+1)<val B ds n*B
section
variable{B:Nat}{us ds:Nat→Nat}{n:Nat}(h:Kn B us ds n)
include h
theorem Kn.Bpos:0<B:=by have:=h.base;omega
theorem Kn.d1pos:0<ds (n-1):=by have:=h.half;have:=h.base;omega
theorem Kn.dsplit1:val B ds n=val B ds (n-1)+ds (n-1)*B^(n-1)∧val B ds (n-1)<B^(n-1):=by
 have h2:=h.two
 refine⟨?_,val_lt fun i hi=>h.dlt i (by omega)⟩
 obtain⟨k,rfl⟩:∃k,n=k+1:=⟨n-1,by omega⟩
 rfl
theorem Kn.dsplit2:val B ds n=val B ds (n-2)+(ds (n-1)*B+ds (n-2))*B^(n-2)∧val B ds (n-2)<B^(n-2):=by
 have h2:=h.two
 refine⟨?_,val_lt fun i hi=>h.dlt i (by omega)⟩
 obtain⟨k,rfl⟩:∃k,n=k+2:=⟨n-2,by omega⟩
 simp only[Nat.add_sub_cancel,show k+2-1=k+1 by omega,val]
 rw[Nat.pow_succ];grind
theorem Kn.usplit1:val B us (n+1)=val B us (n-1)+(us n*B+us (n-1))*B^(n-1)∧val B us (n-1)<B^(n-1):=by
 have h2:=h.two
 refine⟨?_,val_lt fun i hi=>h.ult i (by omega)⟩
 obtain⟨k,rfl⟩:∃k,n=k+1:=⟨n-1,by omega⟩
 simp only[Nat.add_sub_cancel,val]
 rw[Nat.pow_succ];grind
theorem Kn.usplit2:val B us (n+1)=val B us (n-2)+((us n*B+us (n-1))*B+us (n-2))*B^(n-2)∧val B us (n-2)<B^(n-2):=by
 have h2:=h.two
 refine⟨?_,val_lt fun i hi=>h.ult i (by omega)⟩
 obtain⟨k,rfl⟩:∃k,n=k+2:=⟨n-2,by omega⟩
 simp only[Nat.add_sub_cancel,show k+2-1=k+1 by omega,val]
 rw[Nat.pow_succ,Nat.pow_succ];grind
theorem Kn.dpos:0<val B ds n:=by
 have:=h.lt
 have:0<val B ds n*B:=by omega
 exact Nat.pos_of_mul_pos_right this
theorem Kn.qlt:val B us (n+1)/val B ds n<B:=Nat.div_lt_of_lt_mul h.lt
theorem Kn.first:val B us (n+1)/val B ds n≤(us n*B+us (n-1))/ds (n-1):=by
 have h1:=h.dsplit1
 have h2:=h.usplit1
 have hp:0<B^(n-1):=Nat.pow_pos h.Bpos
 rw[Nat.le_div_iff_mul_le h.d1pos]
 have hq:val B us (n+1)/val B ds n*val B ds n≤val B us (n+1):=Nat.div_mul_le_self ..
 generalize val B us (n+1)/val B ds n=q at*
 generalize us n*B+us (n-1)=top at*
 generalize ds (n-1)=d1 at*
 generalize B^(n-1)=P at*
 have h3:q*d1*P≤q*val B ds n:=by rw[h1.1,Nat.mul_add];have:q*(d1*P)=q*d1*P:=by grind
                                 omega
 have h4:q*d1*P<(top+1)*P:=by rw[Nat.add_mul];omega
 have:=Nat.lt_of_mul_lt_mul_right h4
 omega
theorem Kn.great{g r:Nat}(hg:g*ds (n-1)+r=us n*B+us (n-1))(hc:B≤g∨r*B+us (n-2)<g*ds (n-2)):val B us (n+1)/val B ds n<g:=by
 rcases hc with hc|hc
 ·have:=h.qlt;omega
 ·have h1:=h.dsplit2
  have h2:=h.usplit2
  have hp:0<B^(n-2):=Nat.pow_pos h.Bpos
  refine Nat.div_lt_of_lt_mul ?_
  rw[←hg] at h2
  generalize ds (n-1)=d1 at*
  generalize ds (n-2)=d2 at*
  generalize us (n-2)=u2 at*
  generalize B^(n-2)=P at*
  have e1:((g*d1+r)*B+u2+1)≤g*(d1*B+d2):=by
   have:g*(d1*B+d2)=g*d1*B+g*d2:=by grind
   have:(g*d1+r)*B=g*d1*B+r*B:=by grind
   omega
  have e2:((g*d1+r)*B+u2+1)*P≤g*(d1*B+d2)*P:=Nat.mul_le_mul_right _ e1
  have e3:val B ds n*g=val B ds (n-2)*g+g*(d1*B+d2)*P:=by rw[h1.1];grind
  rw[Nat.add_mul _ 1] at e2
  omega
theorem Kn.small{g r:Nat}(hg:g*ds (n-1)+r=us n*B+us (n-1))(hb:g<B)(hc:g*ds (n-2)≤r*B+us (n-2)):g*val B ds n≤val B us (n+1)+val B ds n:=by
 have h1:=h.dsplit2
 have h2:=h.usplit2
 have h3:=h.dsplit1
 have hd:=h.d1pos
 have hn:=h.two
 have hP:B^(n-1)=B^(n-2)*B:=by rw[←Nat.pow_succ];congr 1;omega
 rw[hP] at h3
 rw[←hg] at h2
 generalize ds (n-1)=d1 at*
 generalize ds (n-2)=d2 at*
 generalize us (n-2)=u2 at*
 generalize B^(n-2)=P at*
 have e1:g*(d1*B+d2)≤(g*d1+r)*B+u2:=by
  have:g*(d1*B+d2)=g*d1*B+g*d2:=by grind
  have:(g*d1+r)*B=g*d1*B+r*B:=by grind
  omega
 have e2:g*(d1*B+d2)*P≤((g*d1+r)*B+u2)*P:=Nat.mul_le_mul_right _ e1
 have e3:g*val B ds n=g*val B ds (n-2)+g*(d1*B+d2)*P:=by rw[h1.1];grind
 have e4:g*val B ds (n-2)≤B*P:=Nat.mul_le_mul (by omega) (by omega)
 have e5:1*(P*B)≤d1*(P*B):=Nat.mul_le_mul_right _ hd
 have e6:B*P=P*B:=Nat.mul_comm ..
 omega
theorem Kn.u0le:us n≤ds (n-1):=by
 have h1:=h.dsplit1
 have hl:=h.lt
 have h2:=h.usplit1
 have hp:0<B^(n-1)*B:=Nat.mul_pos (Nat.pow_pos h.Bpos) h.Bpos
 generalize ds (n-1)=d1 at*
 generalize us (n-1)=u1 at*
 generalize us n=u0 at*
 generalize B^(n-1)=P at*
 have e1:u0*(P*B)<(d1+1)*(P*B):=by
  have e2:val B ds n*B≤(d1+1)*(P*B):=by
   have:val B ds n≤(d1+1)*P:=by rw[Nat.add_mul];omega
   have:=Nat.mul_le_mul_right B this
   rw[Nat.mul_assoc] at this
   exact this
  have e3:(u0*B+u1)*P=u0*(P*B)+u1*P:=by grind
  omega
 have:=Nat.lt_of_mul_lt_mul_right e1
 omega
theorem Kn.broke{g r:Nat}(hg:g*ds (n-1)+r=us n*B+us (n-1))(hr:B≤r):g<B∧g*ds (n-2)≤r*B+us (n-2):=by
 have h0:=h.u0le
 have h1:=h.ult (n-1) (by omega)
 have hn:=h.two
 have h2:=h.dlt (n-2) (by omega)
 have hd:=h.d1pos
 generalize ds (n-1)=d1 at*
 have hgB:g<B:=by
  have e:us n*B≤d1*B:=Nat.mul_le_mul_right _ h0
  have:g*d1<B*d1:=by rw[Nat.mul_comm B];omega
  exact Nat.lt_of_mul_lt_mul_right this
 refine⟨hgB,?_⟩
 have e1:g*ds (n-2)≤B*B:=Nat.mul_le_mul (by omega) (by omega)
 have e2:B*B≤r*B:=Nat.mul_le_mul_right _ hr
 omega
end
structure SubI(B:Nat)(us ds:Nat→Nat)(g i:Nat)(zs:Nat→Nat)(c o:Nat):Prop where
 lt:∀k,k<i→zs k<B
 same:∀k,i≤k→zs k=us k
 clt:c<B
 ole:o≤1
 eq:val B zs i+g*val B ds i=val B us i+(c+o)*B^i
theorem SubI.start{B:Nat}{us ds:Nat→Nat}{g:Nat}(hB:0<B):SubI B us ds g 0 us 0 0:=
 ⟨fun _ h=>by omega,fun _ _=>rfl,hB,by omega,by simp[val]⟩
theorem SubI.step{B:Nat}{us ds zs:Nat→Nat}{g i c o z o':Nat}(h:SubI B us ds g i zs c o)(hg:g<B)(hd:ds i<B)
 (hz:z<B)(ho':o'≤1)(he:z+(g*ds i+c)%B+o=us i+B*o'):
 SubI B us ds g (i+1) (upd zs i z) ((g*ds i+c)/B) o':=by
 have hB:0<B:=by omega
 refine⟨fun k hk=> ?_,fun k hk=> ?_,?_,ho',?_⟩
 ·unfold upd;split
  ·exact hz
  ·exact h.lt k (by omega)
 ·rw[upd_other _ (by omega)];exact h.same k (by omega)
 ·have:=mul_bound hg hd hB h.clt
  refine Nat.div_lt_of_lt_mul (by omega)
 ·have e:=h.eq
  have hm:=Nat.mod_add_div (g*ds i+c) B
  rw[val_upd_top]
  simp only[val]
  rw[Nat.pow_succ]
  generalize (g*ds i+c)/B=c' at*
  generalize (g*ds i+c)%B=l at*
  generalize B^i=P at*
  have e1:(z+l+o)*P=(us i+B*o')*P:=by rw[he]
  have e2:(g*ds i+c)*P=(l+B*c')*P:=by rw[hm]
  grind
structure AddI(B:Nat)(us ds:Nat→Nat)(i:Nat)(zs:Nat→Nat)(c:Nat):Prop where
 lt:∀k,k<i→zs k<B
 same:∀k,i≤k→zs k=us k
 clt:c≤1
 eq:val B zs i+c*B^i=val B us i+val B ds i
theorem AddI.start{B:Nat}{us ds:Nat→Nat}:AddI B us ds 0 us 0:=⟨fun _ h=>by omega,fun _ _=>rfl,by omega,by simp[val]⟩
theorem AddI.step{B:Nat}{us ds zs:Nat→Nat}{i c:Nat}(h:AddI B us ds i zs c)(hu:us i<B)(hd:ds i<B):
 AddI B us ds (i+1) (upd zs i ((us i+ds i+c)%B)) ((us i+ds i+c)/B):=by
 have hB:0<B:=by omega
 have hc:=h.clt
 refine⟨fun k hk=> ?_,fun k hk=> ?_,?_,?_⟩
 ·unfold upd;split
  ·exact Nat.mod_lt _ hB
  ·exact h.lt k (by omega)
 ·rw[upd_other _ (by omega)];exact h.same k (by omega)
 ·have:(us i+ds i+c)/B<2:=Nat.div_lt_of_lt_mul (by omega)
  omega
 ·have e:=h.eq
  have hm:=Nat.mod_add_div (us i+ds i+c) B
  rw[val_upd_top]
  simp only[val]
  rw[Nat.pow_succ]
  generalize (us i+ds i+c)/B=c' at*
  generalize (us i+ds i+c)%B=l at*
  generalize B^i=P at*
  have e2:(us i+ds i+c)*P=(l+B*c')*P:=by rw[hm]
  grind
theorem digit_right{B:Nat}{us ds zs:Nat→Nat}{n g c o:Nat}(hK:Kn B us ds n)(h:SubI B us ds g n zs c o)
 (hq:val B us (n+1)/val B ds n≤g)(ht:c+o≤us n):
 g=val B us (n+1)/val B ds n∧val B (upd zs n (us n-c-o)) (n+1)=val B us (n+1)%val B ds n:=by
 have hd:=hK.dpos
 have e:=h.eq
 have e1:val B (upd zs n (us n-c-o)) (n+1)+g*val B ds n=val B us (n+1):=by
  rw[val_upd_top]
  simp only[val]
  generalize B^n=P at*
  obtain⟨x,hx⟩:∃x,us n=x+(c+o):=⟨us n-(c+o),by omega⟩
  rw[hx,show x+(c+o)-c-o=x by omega]
  grind
 have e2:g≤val B us (n+1)/val B ds n:=by rw[Nat.le_div_iff_mul_le hd];omega
 have e3:g=val B us (n+1)/val B ds n:=by omega
 refine⟨e3,?_⟩
 have:=Nat.mod_add_div (val B us (n+1)) (val B ds n)
 rw[←e3,Nat.mul_comm] at this
 omega
theorem digit_wrong{B:Nat}{us ds zs ts:Nat→Nat}{n g c o a:Nat}(hK:Kn B us ds n)(h:SubI B us ds g n zs c o)
 (hq:g*val B ds n≤val B us (n+1)+val B ds n)(ht:us n<c+o)(ha:AddI B (upd zs n (us n+B-c-o)) ds n ts a):
 g=val B us (n+1)/val B ds n+1∧(us n+B-c-o)+a=B∧val B ts n=val B us (n+1)%val B ds n:=by
 have hd:=hK.dpos
 have e:=h.eq
 have ea:=ha.eq
 have hun:=hK.ult n (by omega)
 have hcl:=h.clt
 have hol:=h.ole
 have hlt1:=val_lt (n:=n) ha.lt
 have hdl:val B ds n<B^n:=val_lt hK.dlt
 rw[val_upd (Nat.le_refl _)] at ea
 have hgt:val B us (n+1)<g*val B ds n:=by
  have hz:=val_lt (n:=n) h.lt
  simp only[val]
  have:(us n+1)*B^n≤(c+o)*B^n:=Nat.mul_le_mul_right _ ht
  rw[Nat.add_mul] at this
  omega
 have e1:val B us (n+1)/val B ds n<g:=Nat.div_lt_of_lt_mul (by rw[Nat.mul_comm];exact hgt)
 have e2:g≤val B us (n+1)/val B ds n+1:=by
  have:g-1≤val B us (n+1)/val B ds n:=by
   rw[Nat.le_div_iff_mul_le hd,Nat.sub_mul];omega
  omega
 have e3:g=val B us (n+1)/val B ds n+1:=by omega
 have hm:=Nat.mod_add_div (val B us (n+1)) (val B ds n)
 have hml:val B us (n+1)%val B ds n<val B ds n:=Nat.mod_lt _ hd
 generalize val B us (n+1)/val B ds n=q at*
 generalize val B us (n+1)%val B ds n=r at*
 obtain⟨x,hx⟩:∃x,us n+B=x+(c+o):=⟨us n+B-(c+o),by omega⟩
 rw[show us n+B-c-o=x by omega] at*
 have hU:val B us (n+1)=val B us n+us n*B^n:=rfl
 have e4:val B ts n+(x+a)*B^n=r+B*B^n:=by
  rw[e3] at e
  generalize B^n=P at*
  have e5:(us n+B)*P=(x+(c+o))*P:=by rw[hx]
  have e6:(q+1)*val B ds n=val B ds n*q+val B ds n:=by grind
  have e7:(x+a)*P=x*P+a*P:=Nat.add_mul ..
  have e8:(us n+B)*P=us n*P+B*P:=Nat.add_mul ..
  have e9:(x+(c+o))*P=x*P+(c+o)*P:=Nat.add_mul ..
  omega
 have hP:0<B^n:=Nat.pow_pos hK.Bpos
 have e10:x+a=B:=by
  generalize B^n=P at*
  have h1:B*P<(x+a+1)*P:=by rw[Nat.add_mul (x+a)];omega
  have h2:(x+a)*P<(B+1)*P:=by rw[Nat.add_mul B];omega
  have:=Nat.lt_of_mul_lt_mul_right h1
  have:=Nat.lt_of_mul_lt_mul_right h2
  omega
 refine⟨e3,e10,?_⟩
 rw[e10] at e4
 omega
end
def win(zs:Nat→Nat)(j:Nat):Nat→Nat:=fun i=>zs (j+i)
theorem win_upd(zs:Nat→Nat)(j i x:Nat):win (upd zs (j+i) x) j=upd (win zs j) i x:=by
 funext k
 simp only[win,upd]
 by_cases h:k=i
 ·subst h;simp
 ·rw[if_neg (by omega),if_neg h]
theorem val_win(B:Nat)(zs:Nat→Nat)(j n:Nat):val B zs (j+n)=val B zs j+val B (win zs j) n*B^j:=val_split B zs j n
structure LD(B D n M Q L k:Nat)(us qs:Nat→Nat):Prop where
 ult:∀i,i<L→us i<B
 zero:∀i,k+n≤i→i<L→us i=0
 qlt:∀i,qs i<B
 qz:∀i,i<k→qs i=0
 lt:val B us (k+n)<D*B^k
 eq:val B us (k+n)+val B qs Q*D=M
theorem LD.window{B D n M Q L k:Nat}{us qs:Nat→Nat}(h:LD B D n M Q L (k+1) us qs)(hB:0<B):val B (win us k) (n+1)<D*B:=by
 have hl:=h.lt
 rw[show k+1+n=k+(n+1) by omega,val_win,Nat.pow_succ] at hl
 have hp:0<B^k:=Nat.pow_pos hB
 have:val B (win us k) (n+1)*B^k<D*B*B^k:=by
  have e:D*(B^k*B)=D*B*B^k:=by grind
  omega
 exact Nat.lt_of_mul_lt_mul_right this
theorem LD.step{B D n M Q L k:Nat}{us us' qs:Nat→Nat}(h:LD B D n M Q L (k+1) us qs)(hB:0<B)(hD:0<D)(hDn:D≤B^n)(hkQ:k<Q)(hL:k+n<L)
 (hu:∀i,i<L→us' i<B)(hs:∀i,i<k∨k+n<i→us' i=us i)(hv:val B (win us' k) (n+1)=val B (win us k) (n+1)%D):
 LD B D n M Q L k us' (upd qs k (val B (win us k) (n+1)/D)):=by
 have hw:=h.window hB
 have hp:0<B^k:=Nat.pow_pos hB
 have hm:=Nat.mod_add_div (val B (win us k) (n+1)) D
 have hml:val B (win us k) (n+1)%D<D:=Nat.mod_lt _ hD
 have hlow:val B us' k=val B us k:=val_congr fun i hi=>hs i (.inl hi)
 have hlk:val B us k<B^k:=val_lt fun i hi=>h.ult i (by omega)
 have htop:us' (k+n)=0:=by
  have e:val B (win us' k) (n+1)=val B (win us' k) n+us' (k+n)*B^n:=rfl
  have hlt:us' (k+n)*B^n<1*B^n:=by omega
  have:=Nat.lt_of_mul_lt_mul_right hlt
  omega
 have hwn:val B (win us' k) n=val B (win us k) (n+1)%D:=by
  have e:val B (win us' k) (n+1)=val B (win us' k) n+us' (k+n)*B^n:=rfl
  rw[htop,Nat.zero_mul,Nat.add_zero] at e
  rw[←hv];omega
 have hE:=h.eq
 rw[show k+1+n=k+(n+1) by omega,val_win] at hE
 refine⟨hu,fun i hi hiL=> ?_,fun i=> ?_,fun i hi=> ?_,?_,?_⟩
 ·by_cases e:i=k+n
  ·rw[e];exact htop
  ·rw[hs i (.inr (by omega))];exact h.zero i (by omega) hiL
 ·unfold upd;split
  ·exact Nat.div_lt_of_lt_mul hw
  ·exact h.qlt i
 ·rw[upd_other _ (by omega)];exact h.qz i (by omega)
 ·rw[val_win,hlow,hwn]
  generalize val B (win us k) (n+1)%D=r at*
  have:(r+1)*B^k≤D*B^k:=Nat.mul_le_mul_right _ hml
  rw[Nat.add_mul] at this
  omega
 ·have hq:=val_upd_mid (B:=B) (zs:=qs) (x:=val B (win us k) (n+1)/D) hkQ
  rw[h.qz k (by omega),Nat.zero_mul,Nat.add_zero] at hq
  rw[val_win,hlow,hwn,hq]
  generalize val B (win us k) (n+1)%D=r at*
  generalize val B (win us k) (n+1)/D=q at*
  generalize val B (win us k) (n+1)=W at*
  subst hm
  grind
theorem LD.done{B D n M Q L:Nat}{us qs:Nat→Nat}(h:LD B D n M Q L 0 us qs)(hnL:n≤L):val B qs Q=M/D∧val B us L=M%D:=by
 have hl:=h.lt
 have he:=h.eq
 simp only[Nat.zero_add,Nat.pow_zero,Nat.mul_one] at hl he
 have e:val B us L=val B us n:=by
  have:=val_win B us n (L-n)
  rw[show n+(L-n)=L by omega] at this
  rw[this,val_zeros B (win us n) (L-n) (fun i hi=>h.zero (n+i) (by omega) (by omega))]
  simp
 rw[e,←he]
 constructor
 ·rw[Nat.add_mul_div_right _ _ (by omega),Nat.div_eq_of_lt hl,Nat.zero_add]
 ·rw[Nat.add_mul_mod_self_right,Nat.mod_eq_of_lt hl]
def over(xs:Nat→Nat)(n:Nat)(zs:Nat→Nat):Nat→Nat:=fun i=>if i<n then xs i else zs i
theorem val_over_zero{B:Nat}{xs:Nat→Nat}{n L:Nat}(h:n≤L):val B (over xs n fun _=>0) L=val B xs n:=by
 have:=val_win B (over xs n fun _=>0) n (L-n)
 rw[show n+(L-n)=L by omega] at this
 rw[this,val_zeros B _ (L-n) (fun i hi=>by simp only[win,over];rw[if_neg (by omega)]),Nat.zero_mul,Nat.add_zero]
 exact val_congr fun i hi=>by simp only[over];rw[if_pos hi]
theorem LD.start{B D n M Q L k:Nat}{us:Nat→Nat}(hB:0<B)(hL:L=k+n)(hu:∀i,i<L→us i<B)(hlt:M<D*B^k)(he:val B us L=M):LD B D n M Q L k us (fun _=>0):=by
 subst hL
 refine⟨hu,fun i hi hiL=>by omega,fun _=>hB,fun _ _=>rfl,by rw[he];exact hlt,?_⟩
 rw[he,val_zeros _ _ _ (fun _ _=>rfl)];simp
end Go.Dig
section
namespace Go.Eng
open Go
structure KeptB(w w':World)(b:Nat):Prop where
 size:w.heap.size≤w'.heap.size
 old:∀c,c<w.heap.size→c≠b→w'.heap[c]? =w.heap[c]?
 tape:w'.tape=w.tape
 os:w'.os=w.os
 output:w'.output=w.output
theorem KeptB.refl(w:World)(b:Nat):KeptB w w b:=⟨Nat.le_refl _,fun _ _ _=>rfl,rfl,rfl,rfl⟩
theorem KeptB.drewN{w w1:World}{b:Nat}(h:KeptB w w1 b)(n:Nat):KeptB w (w1.drewN n) b:=⟨h.size,h.old,h.tape,h.os,h.output⟩
theorem KeptB.cell{w w':World}{b:Nat}(h:KeptB w w' b){a:Addr}{v:Value}(hc:w.cell? a=some v)(hb:a.block≠b):w'.cell? a=some v:=by
 have hl:a.block<w.heap.size:=World.block_lt_of_cell? w a hc
 unfold World.cell? at hc⊢
 simp only[h.old _ hl hb]
 exact hc
theorem KeptB.setCell{w w1:World}{a:Addr}{b:Nat}(h:KeptB w w1 b)(ha:a.block=b)(v:Value):KeptB w (w1.setCell a v) b:=by
 refine⟨?_,?_,h.tape,h.os,h.output⟩
 ·show w.heap.size≤(w1.heap.modify _ _).size
  rw[Array.size_modify];exact h.size
 ·intro c hc hcb
  show(w1.heap.modify _ _)[c]? =_
  rw[Array.getElem?_modify,if_neg (by omega)]
  exact h.old c hc hcb
theorem Kept.but{w w1 w2:World}{b:Nat}(h:Kept w w1)(k:KeptB w1 w2 b)(hb:w.heap.size≤b):Kept w w2:=
 ⟨Nat.le_trans h.size k.size,fun c hc=>(k.old c (Nat.lt_of_lt_of_le hc h.size) (by omega)).trans (h.old c hc),k.tape.trans h.tape,k.os.trans h.os,k.output.trans h.output⟩
end Go.Eng
namespace Go.Proofs.YtbapfnpbamnmpaaGreatDoor
open Go Go.RowKit Go.Dig
open Go.Eng (Kept KW KeptB)
theorem sub_facts{x l o:Nat}(hx:x<4294967296)(hl:l<4294967296)(ho:o≤1):
 ∃z o':Nat,IntKind.u64.wrap (IntKind.u64.wrap ((x:Int)-(l:Int))-(o:Int))%4294967296=(z:Int)∧IntKind.u64.wrap (IntKind.u64.wrap ((x:Int)-(l:Int))-(o:Int))/9223372036854775808=(o':Int)∧z<4294967296∧o'≤1∧z+l+o=x+4294967296*o':=by
 rw[IntKind.wrap_u64,IntKind.wrap_u64]
 by_cases h:l+o≤x
 ·exact⟨x-l-o,0,by omega,by omega,by omega,by omega,by omega⟩
 ·exact⟨x+4294967296-l-o,1,by omega,by omega,by omega,by omega,by omega⟩
theorem top_ge{x c o:Nat}(hx:x<4294967296)(hc:c<4294967296)(ho:o≤1)(h:c+o≤x):
 IntKind.u64.wrap (IntKind.u64.wrap ((x:Int)-(c:Int))-(o:Int))=((x-c-o:Nat):Int):=by
 rw[IntKind.wrap_u64,IntKind.wrap_u64];omega
theorem top_lt{x c o:Nat}(hx:x<4294967296)(hc:c<4294967296)(ho:o≤1)(h:x<c+o):
 IntKind.u64.wrap (IntKind.u64.wrap ((x:Int)-(c:Int))-(o:Int))=((x+18446744073709551616-c-o:Nat):Int):=by
 rw[IntKind.wrap_u64,IntKind.wrap_u64];omega
def DigitRet(bu L j n:Nat)(zs ds:Nat→Nat)(w:World)(e:Ending)(w':World):Prop:=
 e= .returned (.int .u32 ((val 4294967296 (win zs j) (n+1)/val 4294967296 ds n:Nat):Int))∧
 ∃zs',Row w' bu L zs'∧(∀k,k<L→zs' k<4294967296)∧(∀k,k<j∨j+n<k→zs' k=zs k)∧val 4294967296 (win zs' j) (n+1)=val 4294967296 (win zs j) (n+1)%val 4294967296 ds n∧KeptB w w' bu
set_option maxHeartbeats 4000000 in
set_option maxRecDepth 100000 in
theorem digit_calls(w:World)(bu L j capu bd offd capd n:Nat)(zs ds:Nat→Nat)(hn:n≤1024)(hL:L≤4096)(hj:j+n<L)(hbb:bd≠bu)
 (hK:Kn 4294967296 (win zs j) ds n)(hrow:Row w bu L zs)(hzl:∀k,k<L→zs k<4294967296)
 (hd:∀i,i<n→w.cell? ⟨bd,offd+i,none⟩=some (.int .u32 (ds i:Nat))):
 Calls Tryz.prog 340 #[.slice (some ⟨bu,j,none⟩) (n+1) capu,.slice (some ⟨bd,offd,none⟩) n capd] w (DigitRet bu L j n zs ds w):=by
 have hn2:=hK.two
 have c0:=hrow.cell (i:=j+n) (by omega)
 have c1:=hrow.cell (i:=j+(n-1)) (by omega)
 have c2:=hrow.cell (i:=j+(n-2)) (by omega)
 have d1:=hd (n-1) (by omega)
 have d2:=hd (n-2) (by omega)
 have l0:=hzl (j+n) (by omega)
 have l1:=hzl (j+(n-1)) (by omega)
 have l2:=hzl (j+(n-2)) (by omega)
 have m1:=hK.dlt (n-1) (by omega)
 have m2:=hK.dlt (n-2) (by omega)
 have m0:=hK.d1pos
 have HD:=Lib.hid hd;clear hd
 have HZ:=Lib.hid hzl;clear hzl
 have horr:=or_u64' (x:=zs (j+(n-1))) (y:=zs (j+n)) l1 l0
 go_enter Tryz.func340,Tryz.ntmps340
 go_wp2
 go_quiet (fail)
 go_wp2
 go_quiet (fail)
 go_wp2
 go_loopw [7,8] (fun gv rv wr=>∃g r q:Nat,gv= .int .u64 (g:Int)∧rv= .int .u64 (r:Int)∧g*ds (n-1)+r=zs (j+n)*4294967296+zs (j+(n-1))∧val 4294967296 (win zs j) (n+1)/val 4294967296 ds n≤g∧r<4294967296∧wr=w.drewN q) (fun gv _ _=>(intOf gv).toNat)
 case atStart=>
  refine⟨(zs (j+n)*4294967296+zs (j+(n-1)))/ds (n-1),(zs (j+n)*4294967296+zs (j+(n-1)))%ds (n-1),_,by simp,by simp,?_,hK.first,?_,World.drewN_drewN _ _ _⟩
  ·rw[Nat.mul_comm];exact Nat.div_add_mod _ _
  ·have:=Nat.mod_lt (zs (j+n)*4294967296+zs (j+(n-1))) m0
   omega
 case round=>
  obtain⟨g,r,q,rfl,rfl,hgr,hqg,hrl,rfl⟩:=hrel
  clear horr
  have HGR:=Lib.hid hgr
  have hgle:g≤18446744073709551615:=by
   have:=Nat.le_mul_of_pos_right g m0
   omega
  clear hgr
  have HQG:=Lib.hid hqg;clear hqg
  by_cases hgB:4294967296≤g
  ·have tst:((g:Int)/4294967296 != 0)=true:=by simp;omega
   have HGT:=Lib.hid (hK.great HGR.out (.inl hgB))
   have hg0:1≤g:=by omega
   have HGR':Hid ((g-1)*ds (n-1)+(r+ds (n-1))=zs (j+n)*4294967296+zs (j+(n-1))):=by
    refine Lib.hid ?_
    have:=HGR.out
    obtain⟨g1,rfl⟩:∃g1,g=g1+1:=⟨g-1,by omega⟩
    rw[Nat.add_mul] at this;rw[Nat.add_sub_cancel];omega
   have HQ:Hid (val 4294967296 (win zs j) (n+1)/val 4294967296 ds n≤g-1):=Lib.hid (Nat.le_sub_one_of_lt HGT.out)
   clear HQG HGT HGR
   go_wp2
   go_quiet (fail)
   by_cases hbr:4294967296≤r+ds (n-1)
   ·have tst2:(((r:Int)+(ds (n-1):Int))/4294967296 != 0)=true:=by simp;omega
    have e2:=hK.broke HGR'.out hbr
    have HSM:=Lib.hid (hK.small HGR'.out e2.1 e2.2)
    have hg1:=e2.1
    clear e2
    go_wp2
    have eg:(g:Int)-1=((g-1:Nat):Int):=by omega
    rw[eg]
    clear eg tst hgB hgle hg0
    generalize g-1=g1 at*
    go_loopw [9,10,88] (fun ov cv iv wr=>∃(i c o:Nat)(ts:Nat→Nat),i≤n∧iv= .int .i64 (i:Int)∧cv= .int .u64 (c:Int)∧ov= .int .u64 (o:Int)∧SubI 4294967296 (win zs j) ds g1 i (win ts j) c o∧(∀k,k<L→ts k<4294967296)∧(∀k,k<j∨j+n<k→ts k=zs k)∧Row wr bu L ts∧KeptB w wr bu) (fun _ _ iv _=>n-(intOf iv).toNat)
    case atStart=>exact⟨0,0,0,zs,Nat.zero_le _,rfl,rfl,rfl,SubI.start (by decide),HZ.out,fun _ _=>rfl,hrow,(KeptB.refl w bu).drewN _⟩
    case round=>
     clear c0 c1 c2 d1 d2 l1 l2 m1 m2 m0
     obtain⟨i,c,o,ts,hi,rfl,rfl,rfl,hsi,htl,hts,hrw,hkb⟩:=hrel
     have HTL:=Lib.hid htl;clear htl
     have HTS:=Lib.hid hts;clear hts
     have k6:=hsi.clt
     have k7:=hsi.ole
     by_cases hlt:i<n
     ·have k1:=hkb.cell (HD.out i hlt) hbb
      have k2:=hrw.cell (i:=j+i) (by omega)
      have k3:=hrw.frozen (j+i)
      have k4:=HTL.out (j+i) (by omega)
      have k5:=hK.dlt i hlt
      have k8:g1*ds i+c<18446744073709551616:=by have:=mul_bound (B:=4294967296) (z:=0) hg1 k5 (by decide) k6;omega
      have hsm:=Lib.hid (hsi.same i (Nat.le_refl _))
      have HSI:=Lib.hid hsi;clear hsi
      go_wp2
      go_roundw
      case rel=>
       go_light
       have ecast:((g1:Int)*(ds i:Int)+(c:Int))%4294967296=(((g1*ds i+c)%4294967296:Nat):Int):=by simp
       obtain⟨z,o',e1,e2,hz,ho',he⟩:=sub_facts k4 (Nat.mod_lt (g1*ds i+c) (by decide)) k7
       rw[ecast,e1,e2]
       refine⟨i+1,(g1*ds i+c)/4294967296,o',upd ts (j+i) z,by omega,by go_num,by simp,rfl,?_,fun k hk=> ?_,fun k hk=> ?_,hrw.set _ _,hkb.setCell rfl _⟩
       ·rw[win_upd];exact HSI.out.step hg1 k5 hz ho' (by rw[←hsm.out];exact he)
       ·unfold upd;split
        ·exact hz
        ·exact HTL.out k hk
       ·rw[upd_other _ (by omega)];exact HTS.out k hk
      case measure=>simp[intOf];omega
     ·obtain rfl:n=i:=by omega
      have k2:=hrw.cell (i:=j+n) (by omega)
      have k3:=hrw.frozen (j+n)
      have k9:ts (j+n)=zs (j+n):=hsi.same n (Nat.le_refl _)
      rw[k9] at k2
      have K9:=Lib.hid k9;clear k9
      have HSI:=Lib.hid hsi;clear hsi
      by_cases htop:c+o≤zs (j+n)
      ·have f1:=top_ge l0 k6 k7 htop
       have f2:(((zs (j+n)-c-o:Nat):Int)/9223372036854775808==0)=true:=by simp;omega
       have f3:(((zs (j+n)-c-o:Nat):Int)%4294967296)=((zs (j+n)-c-o:Nat):Int):=by omega
       go_wp2
       go_ret
       have dr:=digit_right hK HSI.out HQ.out htop
       refine⟨ret_int (by rw[←dr.1]),upd ts (j+n) (zs (j+n)-c-o),?_,fun k hk=> ?_,fun k hk=> ?_,?_,hkb.setCell rfl _⟩
       ·rw[show((zs (j+n):Int)-(c:Int)-(o:Int))=((zs (j+n)-c-o:Nat):Int) by omega];exact hrw.set _ _
       ·unfold upd;split
        ·omega
        ·exact HTL.out k hk
       ·rw[upd_other _ (by omega)];exact HTS.out k hk
       ·rw[win_upd];exact dr.2
      ·have f1:=top_lt l0 k6 k7 (by omega)
       have f2:(((zs (j+n)+18446744073709551616-c-o:Nat):Int)/9223372036854775808==0)=false:=by simp;omega
       have f3:(((zs (j+n)+18446744073709551616-c-o:Nat):Int)%4294967296)=((zs (j+n)+4294967296-c-o:Nat):Int):=by omega
       obtain⟨xt,hxt⟩:∃xt,xt=zs (j+n)+4294967296-c-o:=⟨_,rfl⟩
       rw[←hxt] at f3
       have hxl:xt<4294967296:=by omega
       have HXT:=Lib.hid hxt;clear hxt
       go_wp2
       clear f1 f2 f3
       go_loopw [10,141] (fun cv iv wr=>∃(i a:Nat)(ys:Nat→Nat),i≤n∧iv= .int .i64 (i:Int)∧cv= .int .u64 (a:Int)∧AddI 4294967296 (upd (win ts j) n xt) ds i (win ys j) a∧(∀k,k<L→ys k<4294967296)∧(∀k,k<j∨j+n<k→ys k=zs k)∧Row wr bu L ys∧KeptB w wr bu) (fun _ iv _=>n-(intOf iv).toNat)
       case atStart=>
        refine⟨0,0,upd ts (j+n) xt,Nat.zero_le _,rfl,rfl,by rw[win_upd];exact AddI.start,fun k hk=> ?_,fun k hk=> ?_,hrw.set _ _,hkb.setCell rfl _⟩
        ·unfold upd;split
         ·exact hxl
         ·exact HTL.out k hk
        ·rw[upd_other _ (by omega)];exact HTS.out k hk
       case round=>
        clear k2 k3
        obtain⟨i,a,ys,hi,rfl,rfl,hai,hyl,hys,hry,hkb2⟩:=hrel
        have HYL:=Lib.hid hyl;clear hyl
        have HYS:=Lib.hid hys;clear hys
        have p6:=hai.clt
        by_cases hlt2:i<n
        ·have p1:=hkb2.cell (HD.out i hlt2) hbb
         have p2:=hry.cell (i:=j+i) (by omega)
         have p3:=hry.frozen (j+i)
         have p4:=HYL.out (j+i) (by omega)
         have p5:=hK.dlt i hlt2
         have psm:=Lib.hid (hai.same i (Nat.le_refl _))
         have HAI:=Lib.hid hai;clear hai
         go_wp2
         go_roundw
         case rel=>
          go_light
          refine⟨i+1,(ys (j+i)+ds i+a)/4294967296,upd ys (j+i) ((ys (j+i)+ds i+a)%4294967296),by omega,by go_num,by simp,?_,fun k hk=> ?_,fun k hk=> ?_,?_,hkb2.setCell rfl _⟩
          ·rw[win_upd]
           have hst:=HAI.out.step (by rw[←psm.out];exact p4) p5
           rw[←psm.out] at hst
           exact hst
          ·unfold upd;split
           ·exact Nat.mod_lt _ (by decide)
           ·exact HYL.out k hk
          ·rw[upd_other _ (by omega)];exact HYS.out k hk
          ·have:=hry.set (j+i) ((ys (j+i)+ds i+a)%4294967296)
           simpa using this
         case measure=>simp[intOf];omega
        ·obtain rfl:n=i:=by omega
         have hxt:=HXT.out
         have dw:=digit_wrong hK HSI.out HSM.out (by show zs (j+n)<c+o;omega) (a:=a) (ts:=win ys j) (by show AddI 4294967296 (upd (win ts j) n (zs (j+n)+4294967296-c-o)) ds n (win ys j) a;rw[←hxt];exact hai)
         have p7:ys (j+n)=xt:=by have:=hai.same n (Nat.le_refl _);rw[upd_same] at this;exact this
         have p2:=hry.cell (i:=j+n) (by omega)
         rw[p7] at p2
         have p3:=hry.frozen (j+n)
         have hsum:xt+a=4294967296:=by rw[hxt];exact dw.2.1
         have hgq:g1=val 4294967296 (win zs j) (n+1)/val 4294967296 ds n+1:=dw.1
         have hg2:1≤g1:=by rw[hgq];exact Nat.le_add_left 1 _
         have HGQ:=Lib.hid hgq;clear hgq
         have HDW:=Lib.hid dw.2.2;clear dw
         have HSUM:=Lib.hid hsum
         have hsumI:IntKind.u32.wrap ((xt:Int)+(a:Int))=0:=by rw[IntKind.wrap_u32'];omega
         clear p7 hxt hai hsum
         go_wp2
         go_ret
         refine⟨ret_int (by have h9:=HGQ.out;generalize val 4294967296 (win zs j) (n+1)/val 4294967296 ds n=qq at*;omega),upd ys (j+n) 0,?_,fun k hk=> ?_,fun k hk=> ?_,?_,hkb2.setCell rfl _⟩
         ·exact hry.set (j+n) 0
         ·unfold upd;split
          ·decide
          ·exact HYL.out k hk
         ·rw[upd_other _ (by omega)];exact HYS.out k hk
         ·rw[win_upd,val_upd_top,Nat.zero_mul,Nat.add_zero];exact HDW.out
   ·have tst2:(((r:Int)+(ds (n-1):Int))/4294967296 != 0)=false:=by simp;omega
    go_wp2
    go_roundw
    case rel=>exact⟨g-1,r+ds (n-1),_,by go_num,by go_num,HGR'.out,HQ.out,by omega,rfl⟩
    case measure=>simp[intOf];omega
  ·have tst:((g:Int)/4294967296 != 0)=false:=by simp;omega
   have horr:=or_u64' (x:=zs (j+(n-2))) (y:=r) l2 hrl
   have hbd:g*ds (n-2)<18446744073709551616:=by have:=mul_bound (B:=4294967296) (x:=g) (y:=ds (n-2)) (z:=0) (c:=0) (by omega) m2 (by decide) (by decide);omega
   by_cases hc:r*4294967296+zs (j+(n-2))<g*ds (n-2)
   ·have hcI:((r*4294967296+zs (j+(n-2)):Nat):Int)<((g*ds (n-2):Nat):Int):=by omega
    have hcJ:(r:Int)*4294967296+(zs (j+(n-2)):Int)<(g:Int)*(ds (n-2):Int):=by simpa using hcI
    have HGT:=Lib.hid (hK.great HGR.out (.inr hc))
    have hg0:1≤g:=Nat.lt_of_le_of_lt (Nat.zero_le _) HGT.out
    have HGR':Hid ((g-1)*ds (n-1)+(r+ds (n-1))=zs (j+n)*4294967296+zs (j+(n-1))):=by
     refine Lib.hid ?_
     have:=HGR.out
     obtain⟨g1,rfl⟩:∃g1,g=g1+1:=⟨g-1,by omega⟩
     rw[Nat.add_mul] at this;rw[Nat.add_sub_cancel];omega
    have HQ:Hid (val 4294967296 (win zs j) (n+1)/val 4294967296 ds n≤g-1):=Lib.hid (Nat.le_sub_one_of_lt HGT.out)
    clear hcI hc HQG HGT HGR
    go_wp2
    go_quiet (fail)
    clear horr hcJ hbd
    by_cases hbr:4294967296≤r+ds (n-1)
    ·have tst2:(((r:Int)+(ds (n-1):Int))/4294967296 != 0)=true:=by simp;omega
     have e2:=hK.broke HGR'.out hbr
     have HSM:=Lib.hid (hK.small HGR'.out e2.1 e2.2)
     have hg1:=e2.1
     clear e2
     go_wp2
     have eg:(g:Int)-1=((g-1:Nat):Int):=by omega
     rw[eg]
     clear eg tst hgB hgle hg0
     generalize g-1=g1 at*
     go_loopw [9,10,88] (fun ov cv iv wr=>∃(i c o:Nat)(ts:Nat→Nat),i≤n∧iv= .int .i64 (i:Int)∧cv= .int .u64 (c:Int)∧ov= .int .u64 (o:Int)∧SubI 4294967296 (win zs j) ds g1 i (win ts j) c o∧(∀k,k<L→ts k<4294967296)∧(∀k,k<j∨j+n<k→ts k=zs k)∧Row wr bu L ts∧KeptB w wr bu) (fun _ _ iv _=>n-(intOf iv).toNat)
     case atStart=>exact⟨0,0,0,zs,Nat.zero_le _,rfl,rfl,rfl,SubI.start (by decide),HZ.out,fun _ _=>rfl,hrow,(KeptB.refl w bu).drewN _⟩
     case round=>
      clear c0 c1 c2 d1 d2 l1 l2 m1 m2 m0
      obtain⟨i,c,o,ts,hi,rfl,rfl,rfl,hsi,htl,hts,hrw,hkb⟩:=hrel
      have HTL:=Lib.hid htl;clear htl
      have HTS:=Lib.hid hts;clear hts
      have k6:=hsi.clt
      have k7:=hsi.ole
      by_cases hlt:i<n
      ·have k1:=hkb.cell (HD.out i hlt) hbb
       have k2:=hrw.cell (i:=j+i) (by omega)
       have k3:=hrw.frozen (j+i)
       have k4:=HTL.out (j+i) (by omega)
       have k5:=hK.dlt i hlt
       have k8:g1*ds i+c<18446744073709551616:=by have:=mul_bound (B:=4294967296) (z:=0) hg1 k5 (by decide) k6;omega
       have hsm:=Lib.hid (hsi.same i (Nat.le_refl _))
       have HSI:=Lib.hid hsi;clear hsi
       go_wp2
       go_roundw
       case rel=>
        go_light
        have ecast:((g1:Int)*(ds i:Int)+(c:Int))%4294967296=(((g1*ds i+c)%4294967296:Nat):Int):=by simp
        obtain⟨z,o',e1,e2,hz,ho',he⟩:=sub_facts k4 (Nat.mod_lt (g1*ds i+c) (by decide)) k7
        rw[ecast,e1,e2]
        refine⟨i+1,(g1*ds i+c)/4294967296,o',upd ts (j+i) z,by omega,by go_num,by simp,rfl,?_,fun k hk=> ?_,fun k hk=> ?_,hrw.set _ _,hkb.setCell rfl _⟩
        ·rw[win_upd];exact HSI.out.step hg1 k5 hz ho' (by rw[←hsm.out];exact he)
        ·unfold upd;split
         ·exact hz
         ·exact HTL.out k hk
        ·rw[upd_other _ (by omega)];exact HTS.out k hk
       case measure=>simp[intOf];omega
      ·obtain rfl:n=i:=by omega
       have k2:=hrw.cell (i:=j+n) (by omega)
       have k3:=hrw.frozen (j+n)
       have k9:ts (j+n)=zs (j+n):=hsi.same n (Nat.le_refl _)
       rw[k9] at k2
       have K9:=Lib.hid k9;clear k9
       have HSI:=Lib.hid hsi;clear hsi
       by_cases htop:c+o≤zs (j+n)
       ·have f1:=top_ge l0 k6 k7 htop
        have f2:(((zs (j+n)-c-o:Nat):Int)/9223372036854775808==0)=true:=by simp;omega
        have f3:(((zs (j+n)-c-o:Nat):Int)%4294967296)=((zs (j+n)-c-o:Nat):Int):=by omega
        go_wp2
        go_ret
        have dr:=digit_right hK HSI.out HQ.out htop
        refine⟨ret_int (by rw[←dr.1]),upd ts (j+n) (zs (j+n)-c-o),?_,fun k hk=> ?_,fun k hk=> ?_,?_,hkb.setCell rfl _⟩
        ·rw[show((zs (j+n):Int)-(c:Int)-(o:Int))=((zs (j+n)-c-o:Nat):Int) by omega];exact hrw.set _ _
        ·unfold upd;split
         ·omega
         ·exact HTL.out k hk
        ·rw[upd_other _ (by omega)];exact HTS.out k hk
        ·rw[win_upd];exact dr.2
       ·have f1:=top_lt l0 k6 k7 (by omega)
        have f2:(((zs (j+n)+18446744073709551616-c-o:Nat):Int)/9223372036854775808==0)=false:=by simp;omega
        have f3:(((zs (j+n)+18446744073709551616-c-o:Nat):Int)%4294967296)=((zs (j+n)+4294967296-c-o:Nat):Int):=by omega
        obtain⟨xt,hxt⟩:∃xt,xt=zs (j+n)+4294967296-c-o:=⟨_,rfl⟩
        rw[←hxt] at f3
        have hxl:xt<4294967296:=by omega
        have HXT:=Lib.hid hxt;clear hxt
        go_wp2
        clear f1 f2 f3
        go_loopw [10,141] (fun cv iv wr=>∃(i a:Nat)(ys:Nat→Nat),i≤n∧iv= .int .i64 (i:Int)∧cv= .int .u64 (a:Int)∧AddI 4294967296 (upd (win ts j) n xt) ds i (win ys j) a∧(∀k,k<L→ys k<4294967296)∧(∀k,k<j∨j+n<k→ys k=zs k)∧Row wr bu L ys∧KeptB w wr bu) (fun _ iv _=>n-(intOf iv).toNat)
        case atStart=>
         refine⟨0,0,upd ts (j+n) xt,Nat.zero_le _,rfl,rfl,by rw[win_upd];exact AddI.start,fun k hk=> ?_,fun k hk=> ?_,hrw.set _ _,hkb.setCell rfl _⟩
         ·unfold upd;split
          ·exact hxl
          ·exact HTL.out k hk
         ·rw[upd_other _ (by omega)];exact HTS.out k hk
        case round=>
         clear k2 k3
         obtain⟨i,a,ys,hi,rfl,rfl,hai,hyl,hys,hry,hkb2⟩:=hrel
         have HYL:=Lib.hid hyl;clear hyl
         have HYS:=Lib.hid hys;clear hys
         have p6:=hai.clt
         by_cases hlt2:i<n
         ·have p1:=hkb2.cell (HD.out i hlt2) hbb
          have p2:=hry.cell (i:=j+i) (by omega)
          have p3:=hry.frozen (j+i)
          have p4:=HYL.out (j+i) (by omega)
          have p5:=hK.dlt i hlt2
          have psm:=Lib.hid (hai.same i (Nat.le_refl _))
          have HAI:=Lib.hid hai;clear hai
          go_wp2
          go_roundw
          case rel=>
           go_light
           refine⟨i+1,(ys (j+i)+ds i+a)/4294967296,upd ys (j+i) ((ys (j+i)+ds i+a)%4294967296),by omega,by go_num,by simp,?_,fun k hk=> ?_,fun k hk=> ?_,?_,hkb2.setCell rfl _⟩
           ·rw[win_upd]
            have hst:=HAI.out.step (by rw[←psm.out];exact p4) p5
            rw[←psm.out] at hst
            exact hst
           ·unfold upd;split
            ·exact Nat.mod_lt _ (by decide)
            ·exact HYL.out k hk
           ·rw[upd_other _ (by omega)];exact HYS.out k hk
           ·have:=hry.set (j+i) ((ys (j+i)+ds i+a)%4294967296)
            simpa using this
          case measure=>simp[intOf];omega
         ·obtain rfl:n=i:=by omega
          have hxt:=HXT.out
          have dw:=digit_wrong hK HSI.out HSM.out (by show zs (j+n)<c+o;omega) (a:=a) (ts:=win ys j) (by show AddI 4294967296 (upd (win ts j) n (zs (j+n)+4294967296-c-o)) ds n (win ys j) a;rw[←hxt];exact hai)
          have p7:ys (j+n)=xt:=by have:=hai.same n (Nat.le_refl _);rw[upd_same] at this;exact this
          have p2:=hry.cell (i:=j+n) (by omega)
          rw[p7] at p2
          have p3:=hry.frozen (j+n)
          have hsum:xt+a=4294967296:=by rw[hxt];exact dw.2.1
          have hgq:g1=val 4294967296 (win zs j) (n+1)/val 4294967296 ds n+1:=dw.1
          have hg2:1≤g1:=by rw[hgq];exact Nat.le_add_left 1 _
          have HGQ:=Lib.hid hgq;clear hgq
          have HDW:=Lib.hid dw.2.2;clear dw
          have HSUM:=Lib.hid hsum
          have hsumI:IntKind.u32.wrap ((xt:Int)+(a:Int))=0:=by rw[IntKind.wrap_u32'];omega
          clear p7 hxt hai hsum
          go_wp2
          go_ret
          refine⟨ret_int (by have h9:=HGQ.out;generalize val 4294967296 (win zs j) (n+1)/val 4294967296 ds n=qq at*;omega),upd ys (j+n) 0,?_,fun k hk=> ?_,fun k hk=> ?_,?_,hkb2.setCell rfl _⟩
          ·exact hry.set (j+n) 0
          ·unfold upd;split
           ·decide
           ·exact HYL.out k hk
          ·rw[upd_other _ (by omega)];exact HYS.out k hk
          ·rw[win_upd,val_upd_top,Nat.zero_mul,Nat.add_zero];exact HDW.out
    ·have tst2:(((r:Int)+(ds (n-1):Int))/4294967296 != 0)=false:=by simp;omega
     go_wp2
     go_roundw
     case rel=>exact⟨g-1,r+ds (n-1),_,by go_num,by go_num,HGR'.out,HQ.out,by omega,rfl⟩
     case measure=>simp[intOf];omega
   ·have hcI:¬((r*4294967296+zs (j+(n-2)):Nat):Int)<((g*ds (n-2):Nat):Int):=by omega
    have hcJ:¬(r:Int)*4294967296+(zs (j+(n-2)):Int)<(g:Int)*(ds (n-2):Int):=by simpa using hcI
    have hcK:decide ((r:Int)*4294967296+(zs (j+(n-2)):Int)<(g:Int)*(ds (n-2):Int))=false:=by simpa using hcI
    have hg1:g<4294967296:=by omega
    have HSM:=Lib.hid (hK.small HGR.out hg1 (Nat.le_of_not_lt hc))
    have HQ:=HQG
    clear hcI hc HQG HGR
    go_wp2
    go_quiet (fail)
    clear horr hcJ hcK hbd
    go_wp2
    obtain⟨g1,rfl⟩:∃g1,g1=g:=⟨_,rfl⟩
    clear tst hgB hgle
    go_loopw [9,10,88] (fun ov cv iv wr=>∃(i c o:Nat)(ts:Nat→Nat),i≤n∧iv= .int .i64 (i:Int)∧cv= .int .u64 (c:Int)∧ov= .int .u64 (o:Int)∧SubI 4294967296 (win zs j) ds g1 i (win ts j) c o∧(∀k,k<L→ts k<4294967296)∧(∀k,k<j∨j+n<k→ts k=zs k)∧Row wr bu L ts∧KeptB w wr bu) (fun _ _ iv _=>n-(intOf iv).toNat)
    case atStart=>exact⟨0,0,0,zs,Nat.zero_le _,rfl,rfl,rfl,SubI.start (by decide),HZ.out,fun _ _=>rfl,hrow,(KeptB.refl w bu).drewN _⟩
    case round=>
     clear c0 c1 c2 d1 d2 l1 l2 m1 m2 m0
     obtain⟨i,c,o,ts,hi,rfl,rfl,rfl,hsi,htl,hts,hrw,hkb⟩:=hrel
     have HTL:=Lib.hid htl;clear htl
     have HTS:=Lib.hid hts;clear hts
     have k6:=hsi.clt
     have k7:=hsi.ole
     by_cases hlt:i<n
     ·have k1:=hkb.cell (HD.out i hlt) hbb
      have k2:=hrw.cell (i:=j+i) (by omega)
      have k3:=hrw.frozen (j+i)
      have k4:=HTL.out (j+i) (by omega)
      have k5:=hK.dlt i hlt
      have k8:g1*ds i+c<18446744073709551616:=by have:=mul_bound (B:=4294967296) (z:=0) hg1 k5 (by decide) k6;omega
      have hsm:=Lib.hid (hsi.same i (Nat.le_refl _))
      have HSI:=Lib.hid hsi;clear hsi
      go_wp2
      go_roundw
      case rel=>
       go_light
       have ecast:((g1:Int)*(ds i:Int)+(c:Int))%4294967296=(((g1*ds i+c)%4294967296:Nat):Int):=by simp
       obtain⟨z,o',e1,e2,hz,ho',he⟩:=sub_facts k4 (Nat.mod_lt (g1*ds i+c) (by decide)) k7
       rw[ecast,e1,e2]
       refine⟨i+1,(g1*ds i+c)/4294967296,o',upd ts (j+i) z,by omega,by go_num,by simp,rfl,?_,fun k hk=> ?_,fun k hk=> ?_,hrw.set _ _,hkb.setCell rfl _⟩
       ·rw[win_upd];exact HSI.out.step hg1 k5 hz ho' (by rw[←hsm.out];exact he)
       ·unfold upd;split
        ·exact hz
        ·exact HTL.out k hk
       ·rw[upd_other _ (by omega)];exact HTS.out k hk
      case measure=>simp[intOf];omega
     ·obtain rfl:n=i:=by omega
      have k2:=hrw.cell (i:=j+n) (by omega)
      have k3:=hrw.frozen (j+n)
      have k9:ts (j+n)=zs (j+n):=hsi.same n (Nat.le_refl _)
      rw[k9] at k2
      have K9:=Lib.hid k9;clear k9
      have HSI:=Lib.hid hsi;clear hsi
      by_cases htop:c+o≤zs (j+n)
      ·have f1:=top_ge l0 k6 k7 htop
       have f2:(((zs (j+n)-c-o:Nat):Int)/9223372036854775808==0)=true:=by simp;omega
       have f3:(((zs (j+n)-c-o:Nat):Int)%4294967296)=((zs (j+n)-c-o:Nat):Int):=by omega
       go_wp2
       go_ret
       have dr:=digit_right hK HSI.out HQ.out htop
       refine⟨ret_int (by rw[←dr.1]),upd ts (j+n) (zs (j+n)-c-o),?_,fun k hk=> ?_,fun k hk=> ?_,?_,hkb.setCell rfl _⟩
       ·rw[show((zs (j+n):Int)-(c:Int)-(o:Int))=((zs (j+n)-c-o:Nat):Int) by omega];exact hrw.set _ _
       ·unfold upd;split
        ·omega
        ·exact HTL.out k hk
       ·rw[upd_other _ (by omega)];exact HTS.out k hk
       ·rw[win_upd];exact dr.2
      ·have f1:=top_lt l0 k6 k7 (by omega)
       have f2:(((zs (j+n)+18446744073709551616-c-o:Nat):Int)/9223372036854775808==0)=false:=by simp;omega
       have f3:(((zs (j+n)+18446744073709551616-c-o:Nat):Int)%4294967296)=((zs (j+n)+4294967296-c-o:Nat):Int):=by omega
       obtain⟨xt,hxt⟩:∃xt,xt=zs (j+n)+4294967296-c-o:=⟨_,rfl⟩
       rw[←hxt] at f3
       have hxl:xt<4294967296:=by omega
       have HXT:=Lib.hid hxt;clear hxt
       go_wp2
       clear f1 f2 f3
       go_loopw [10,141] (fun cv iv wr=>∃(i a:Nat)(ys:Nat→Nat),i≤n∧iv= .int .i64 (i:Int)∧cv= .int .u64 (a:Int)∧AddI 4294967296 (upd (win ts j) n xt) ds i (win ys j) a∧(∀k,k<L→ys k<4294967296)∧(∀k,k<j∨j+n<k→ys k=zs k)∧Row wr bu L ys∧KeptB w wr bu) (fun _ iv _=>n-(intOf iv).toNat)
       case atStart=>
        refine⟨0,0,upd ts (j+n) xt,Nat.zero_le _,rfl,rfl,by rw[win_upd];exact AddI.start,fun k hk=> ?_,fun k hk=> ?_,hrw.set _ _,hkb.setCell rfl _⟩
        ·unfold upd;split
         ·exact hxl
         ·exact HTL.out k hk
        ·rw[upd_other _ (by omega)];exact HTS.out k hk
       case round=>
        clear k2 k3
        obtain⟨i,a,ys,hi,rfl,rfl,hai,hyl,hys,hry,hkb2⟩:=hrel
        have HYL:=Lib.hid hyl;clear hyl
        have HYS:=Lib.hid hys;clear hys
        have p6:=hai.clt
        by_cases hlt2:i<n
        ·have p1:=hkb2.cell (HD.out i hlt2) hbb
         have p2:=hry.cell (i:=j+i) (by omega)
         have p3:=hry.frozen (j+i)
         have p4:=HYL.out (j+i) (by omega)
         have p5:=hK.dlt i hlt2
         have psm:=Lib.hid (hai.same i (Nat.le_refl _))
         have HAI:=Lib.hid hai;clear hai
         go_wp2
         go_roundw
         case rel=>
          go_light
          refine⟨i+1,(ys (j+i)+ds i+a)/4294967296,upd ys (j+i) ((ys (j+i)+ds i+a)%4294967296),by omega,by go_num,by simp,?_,fun k hk=> ?_,fun k hk=> ?_,?_,hkb2.setCell rfl _⟩
          ·rw[win_upd]
           have hst:=HAI.out.step (by rw[←psm.out];exact p4) p5
           rw[←psm.out] at hst
           exact hst
          ·unfold upd;split
           ·exact Nat.mod_lt _ (by decide)
           ·exact HYL.out k hk
          ·rw[upd_other _ (by omega)];exact HYS.out k hk
          ·have:=hry.set (j+i) ((ys (j+i)+ds i+a)%4294967296)
           simpa using this
         case measure=>simp[intOf];omega
        ·obtain rfl:n=i:=by omega
         have hxt:=HXT.out
         have dw:=digit_wrong hK HSI.out HSM.out (by show zs (j+n)<c+o;omega) (a:=a) (ts:=win ys j) (by show AddI 4294967296 (upd (win ts j) n (zs (j+n)+4294967296-c-o)) ds n (win ys j) a;rw[←hxt];exact hai)
         have p7:ys (j+n)=xt:=by have:=hai.same n (Nat.le_refl _);rw[upd_same] at this;exact this
         have p2:=hry.cell (i:=j+n) (by omega)
         rw[p7] at p2
         have p3:=hry.frozen (j+n)
         have hsum:xt+a=4294967296:=by rw[hxt];exact dw.2.1
         have hgq:g1=val 4294967296 (win zs j) (n+1)/val 4294967296 ds n+1:=dw.1
         have hg2:1≤g1:=by rw[hgq];exact Nat.le_add_left 1 _
         have HGQ:=Lib.hid hgq;clear hgq
         have HDW:=Lib.hid dw.2.2;clear dw
         have HSUM:=Lib.hid hsum
         have hsumI:IntKind.u32.wrap ((xt:Int)+(a:Int))=0:=by rw[IntKind.wrap_u32'];omega
         clear p7 hxt hai hsum
         go_wp2
         go_ret
         refine⟨ret_int (by have h9:=HGQ.out;generalize val 4294967296 (win zs j) (n+1)/val 4294967296 ds n=qq at*;omega),upd ys (j+n) 0,?_,fun k hk=> ?_,fun k hk=> ?_,?_,hkb2.setCell rfl _⟩
         ·exact hry.set (j+n) 0
         ·unfold upd;split
          ·decide
          ·exact HYL.out k hk
         ·rw[upd_other _ (by omega)];exact HYS.out k hk
         ·rw[win_upd,val_upd_top,Nat.zero_mul,Nat.add_zero];exact HDW.out
end Go.Proofs.YtbapfnpbamnmpaaGreatDoor
end
