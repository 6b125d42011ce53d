/- A part of the proof that SearchCandidates answers true for every input of bulk at most 1048576: conditions: the row's own. -/
import Derived.Test.YtancebninmoipaaGreatDoorP01
import Derived.Lib.TrailingZeros
import Derived.Shelf.Spec.TrailingZeros
import Derived.Deep.LoopGhost
import Derived.Deep.RegionHeld3
namespace Go.Proofs.YtancebninmoipaaGreatDoor
open Go Go.RowKit Go.Dig
open Go.Eng (Kept KW KeptB)
theorem lz_calls(w:World)(x:Nat)(h0:0<x)(hx:x<4294967296):Calls Tryz.prog 240 #[.int .u32 (x:Int)] w fun e w'=>e= .returned (.int .i64 (lz x:Nat))∧w=w':=by
 refine(Tryz.bits_LeadingZeros32 (x:Int) w (by omega) (by omega)).mono fun e w' ⟨he,hw⟩=>⟨?_,hw.symm⟩
 have h:=bitLen_facts h0 hx
 rw[he,Int.toNat_natCast]
 unfold lz
 congr 2
 omega
theorem Ws.keptB{w w':World}{a:Option Addr}{n g:Nat}{zs:Nat→Nat}(h:Ws w a n zs)(k:KeptB w w' g)(hb:∀i,i<n→∃b off,a=some ⟨b,off,none⟩∧b≠g):Ws w' a n zs:=fun i hi=>by
 obtain⟨b,off,e,hc⟩:=h i hi
 obtain⟨b',off',e',hne⟩:=hb i hi
 rw[e] at e'
 cases e'
 exact⟨b,off,e,k.cell hc hne⟩
theorem Ws.setOther{w:World}{a:Option Addr}{n g p:Nat}{zs:Nat→Nat}(h:Ws w a n zs)(hb:∀i,i<n→∃b off,a=some ⟨b,off,none⟩∧b≠g)(v:Value):Ws (w.setCell ⟨g,p,none⟩ v) a n zs:=fun i hi=>by
 obtain⟨b,off,e,hc⟩:=h i hi
 obtain⟨b',off',e',hne⟩:=hb i hi
 rw[e] at e'
 cases e'
 exact⟨b,off,e,by rw[World.cell?_setCell_other];exact hc;intro h;cases h;exact hne rfl⟩
theorem Row.keptB{w w':World}{b n g:Nat}{zs:Nat→Nat}(h:Row w b n zs)(k:KeptB w w' g)(hb:b≠g):Row w' b n zs:=World.rowIs.of_block h (k.old b (World.rowIs.lt h) hb)
set_option maxHeartbeats 4000000 in
set_option maxRecDepth 100000 in
theorem div_long{w:World}{v:Value}{m:Nat}(na n b off cap:Nat)(av:Option Addr)(capa:Nat)(ys:Nat→Nat)
 (hv:Nt 4294967296 w v m)(hve:v= .slice av na capa)(hml:m<4294967296^na)(hm:m<Big)
 (hu:Nt 4294967296 w (.slice (some ⟨b,off,none⟩) n cap) (val 4294967296 ys n))
 (hn:2≤n)(hn512:n≤512)(hk0:0<val 4294967296 ys n)(hna:n≤na)(hna2:na≤1024)(hyl:∀i,i<n→ys i<4294967296)(hyt:0<ys (n-1))
 (hy:∀i,i<n→w.cell? ⟨b,off+i,none⟩=some (.int .u32 (ys i:Nat)))(hk:val 4294967296 ys n<Big)(hle:val 4294967296 ys n≤m):
 Calls Tryz.prog 199 #[v,.slice (some ⟨b,off,none⟩) n cap] w (RetQR (m/val 4294967296 ys n) (m%val 4294967296 ys n) w):=by
 have hcm:0≤cmpInt m (val 4294967296 ys n):=by unfold cmpInt;split<;>(try split)<;>omega
 have hcc:=cmp_calls (.inr rfl) hv hu hm
 generalize cmpInt m (val 4294967296 ys n)=ci at*
 have hytl:=hyl (n-1) (by omega)
 have c1:=hy (n-1) (by omega)
 obtain⟨hD1,hD2⟩:=divisor_facts (by omega) hyl hyt
 obtain⟨hs31,_,_⟩:=lz_facts hyt hytl
 have hlz:=fun w=>lz_calls w (ys (n-1)) hyt hytl
 generalize lz (ys (n-1))=s at*
 generalize val 4294967296 ys n=k at*
 have HD1:=Lib.hid hD1;clear hD1
 have HD2:=Lib.hid hD2;clear hD2
 obtain⟨hM1,hM2⟩:=dividend_facts hml hs31 (by omega) hna HD1.out
 have HM1:=Lib.hid hM1;clear hM1
 have HM2:=Lib.hid hM2;clear hM2
 clear hml hy hyl
 have hmk:=fun w=>run_make_row' (P:=Tryz.prog) 22 212 (.int .u32 0) 4 Tryz.underlying22 info191 rfl .i64 .i64 (na+1) (by omega) (by omega) w
 have ec:((na+1:Nat):Int)=(na:Int)+1:=by omega
 rw[ec] at hmk
 clear ec
 have hmk2:=fun w=>run_make_row' (P:=Tryz.prog) 22 212 (.int .u32 0) 4 Tryz.underlying22 info191 rfl .i64 .i64 (na-n+1) (by omega) (by omega) w
 have ec:((na-n+1:Nat):Int)=(na:Int)-(n:Int)+1:=by omega
 rw[ec] at hmk2
 clear ec
 subst hve
 have q1:((n:Int)==1)=false:=by simp;omega
 go_enter Tryz.func199,Tryz.ntmps199
 go_wp2_with(go_at_call 136;refine hcc.mono ?_;rintro e w1 ⟨rfl,hk1⟩;have c2:=hk1.cell c1)
 refine(hlz _).mono ?_
 rintro e w1' ⟨rfl,rfl⟩
 go_wp2_with fail
 refine(shl_calls (hu.kept hk1) hk (show s≤100000 by omega)).mono ?_
 rintro e w2 ⟨vd,rfl,hvd,hk2⟩
 obtain⟨ad,nd,capd,ds,rfl,hcd,hdl,hdn,hdv,hdw⟩:=hvd
 obtain⟨rfl,hdt⟩:=divisor_digits (by omega) hdl hdn hdv HD1.out HD2.out
 go_wp2_with fail
 have hka:Kept w (w2.alloc (Obj.cells (madeCells #[Value.int IntKind.u32 0] (na+1)) 212)):=(hk1.trans hk2).alloc _
 have hrA:=Row.made w2 (na+1)
 have hdwA:=hdw.kept ((Kept.refl w2).alloc (Obj.cells (madeCells #[Value.int IntKind.u32 0] (na+1)) 212))
 have hbu:w.heap.size≤w2.heap.size:=(hk1.trans hk2).size
 refine(shl_calls (hv.kept hka) hm (show s≤100000 by omega)).mono ?_
 rintro e w3 ⟨vs,rfl,hvs,hk3⟩
 obtain⟨sa,ns,caps,ss,rfl,hcs,hsl,hsn,hsv,hsw⟩:=hvs
 have hns:ns≤na+1:=len_le_of_lt (B:=4294967296) (by decide) hsn (by rw[hsv];exact HM2.out)
 have hrB:=hrA.kept hk3
 have hdwB:=hdwA.kept hk3
 have hkw3:=hka.trans hk3
 have hbd:∀i,i<nd→∃b off,ad=some ⟨b,off,none⟩∧b≠w2.heap.size:=fun i hi=>by
  obtain⟨b',off',e,hcel⟩:=hdw i hi
  have hlt:=World.block_lt_of_cell? _ _ hcel
  exact⟨b',off',e,Nat.ne_of_lt hlt⟩
 have HBD:=Lib.hid hbd
 clear hka hrA hdwA hk1 hk2 hk3 hdw hbd hmk
 generalize w2.heap.size=bu at*
 go_wp2_with(with_reducible refine wpList_copy_words rfl (.tmp 47) (.tmp 50) 22 127 rfl Tryz.underlying22 bu (na+1) (na+1) ns caps sa rfl rfl (fun _=>0) ss hrB hsw hns ?_;intro w4 hrC hkb4)
 clear hmk2
 have hkw4:Kept w w4:=hkw3.but hkb4 hbu
 have hbq:bu<w4.heap.size:=World.rowIs.lt hrC
 have hrD:=Row.made w4 (na-nd+1)
 have hrE:Row (w4.alloc (.cells (madeCells #[.int .u32 0] (na-nd+1)) 212)) bu (na+1) (over ss ns fun _=>0):=World.rowIs.alloc hrC _
 have hdwC:Ws w4 ad nd ds:=hdwB.keptB hkb4 HBD.out
 have hdwD:=hdwC.kept ((Kept.refl w4).alloc (.cells (madeCells #[.int .u32 0] (na-nd+1)) 212))
 have hsz:w.heap.size≤w4.heap.size:=hkw4.size
 have hkw5:=hkw4.alloc (.cells (madeCells #[.int .u32 0] (na-nd+1)) 212)
 have hld:LD 4294967296 (k*2^s) nd (m*2^s) (na-nd+1) (na+1) (na-nd+1) (over ss ns fun _=>0) (fun _=>0):=by
  refine LD.start (by decide) (by omega) (fun i hi=> ?_) HM1.out ?_
  ·unfold over;split
   ·exact hsl i ‹_›
   ·show(0:Nat)<4294967296;decide
  ·rw[val_over_zero hns];exact hsv
 have hbd2:∀i,i<nd→∃b off,ad=some ⟨b,off,none⟩∧b≠w4.heap.size:=fun i hi=>by
  obtain⟨b',off',e,hcel⟩:=hdwC i hi
  have hlt:=World.block_lt_of_cell? _ _ hcel
  exact⟨b',off',e,Nat.ne_of_lt hlt⟩
 have HBD2:=Lib.hid hbd2;clear hbd2
 generalize w4.heap.size=bq at*
 have hrem:m%k*2^s<Big:=by
  have h1:m%k*2^s<k*2^s:=Nat.mul_lt_mul_of_pos_right (Nat.mod_lt _ hk0) (Nat.pow_pos (by decide))
  have h2:(4294967296:Nat)^nd≤Big:=by
   obtain⟨L,hL⟩:∃L,L=512:=⟨512,rfl⟩
   rw[←big32 hL]
   exact Nat.pow_le_pow_right (by decide) (by omega)
  exact Nat.lt_of_lt_of_le (Nat.lt_trans h1 HD2.out) h2
 have hbqu:bq≠bu:=by omega
 have hDp:0<k*2^s:=Nat.lt_of_lt_of_le (Nat.mul_pos (by decide) (Nat.pow_pos (by decide))) HD1.out
 have hDn:k*2^s≤4294967296^nd:=Nat.le_of_lt HD2.out
 go_loopw [12] (fun jv wr=>∃(t:Nat)(us qs:Nat→Nat),t≤na-nd+1∧jv= .int .i64 ((t:Int)-1)∧LD 4294967296 (k*2^s) nd (m*2^s) (na-nd+1) (na+1) t us qs∧Row wr bu (na+1) us∧Row wr bq (na-nd+1) qs∧Ws wr ad nd ds∧Kept w wr) (fun jv _=>(intOf jv+1).toNat)
 case atStart=>exact⟨na-nd+1,_,_,Nat.le_refl _,by first|rfl|go_num|(congr 1;omega),hld,hrE,hrD,hdwD,hkw5⟩
 case round=>
  clear hrD hrE hdwC hdwD hld hsw hdwB hrB hrC hkw5 hkw4 hkw3 hkb4 c1 c2 hsv
  have HDV:=Lib.hid hdv;clear hdv
  obtain⟨t,us,qs,ht,rfl,hld,hru,hrq,hdw,hkw⟩:=hrel
  have HLD:=Lib.hid hld;clear hld
  cases t with
  |zero=>
   have hdone:=HLD.out.done (by omega)
   have hlu:=HLD.out.ult
   have hlq:=HLD.out.qlt
   have hMD:m*2^s/(k*2^s)=m/k∧m*2^s%(k*2^s)=m%k*2^s:=⟨Nat.mul_div_mul_right _ _ (Nat.pow_pos (by decide)),Nat.mul_mod_mul_right ..⟩
   rw[hMD.1,hMD.2] at hdone
   have hnq:=nt_of (B:=4294967296) (cap:=na-nd+1) (Nat.le_refl _) (fun i _=>hlq i) (hrq.ws (Nat.le_refl _))
   have hnu:=nt_of (B:=4294967296) (cap:=na+1) (Nat.le_refl _) hlu (hru.ws (Nat.le_refl _))
   rw[hdone.1] at hnq
   rw[hdone.2] at hnu
   clear hdone hlu hlq hMD
   go_wp2_with fail
   refine(of_calls wr _ (na-nd+1) (na-nd+1) qs (by omega) (Nat.le_refl _) (hrq.ws (Nat.le_refl _))).mono ?_
   rintro e w' ⟨rfl,rfl⟩
   go_wp2_with fail
   refine(of_calls wr _ (na+1) (na+1) us (by omega) (Nat.le_refl _) (hru.ws (Nat.le_refl _))).mono ?_
   rintro e w' ⟨rfl,rfl⟩
   go_wp2_with fail
   have hshr:=shr_calls hnu hrem (show s≤100000 by omega)
   rw[Nat.mul_div_cancel _ (Nat.pow_pos (by decide))] at hshr
   refine hshr.mono ?_
   rintro e w6 ⟨v6,rfl,hv6,hk6⟩
   go_wp2
   go_ret2
   exact⟨_,_,rfl,hnq.kept hk6,hv6,hkw.trans hk6⟩
  |succ t=>
   rcases hdw.open with h0|⟨_,bd,offd,rfl,hdc⟩
   ·omega
   have hbdu:bd≠bu:=by
    obtain⟨b',off',e,hne⟩:=HBD.out 0 (by omega)
    cases e
    exact hne
   have hbdq:bd≠bq:=by
    obtain⟨b',off',e,hne⟩:=HBD2.out 0 (by omega)
    cases e
    exact hne
   have hKn:Kn 4294967296 (win us t) ds nd:=⟨hn,by decide,hdl,fun i hi=>HLD.out.ult (t+i) (by omega),hdt,by rw[HDV.out];exact HLD.out.window (by decide)⟩
   have hqc:=hrq.cell (i:=t) (by omega)
   have hdg:=digit_calls wr bu (na+1) t (na+1-t) bd offd capd nd us ds (by omega) (by omega) (by omega) hbdu hKn hru HLD.out.ult hdc
   rw[show nd+1=t+nd+1-t by omega] at hdg
   go_wp2_with fail
   refine hdg.mono ?_
   rintro e w5 ⟨rfl,us',hr5,hl5,hs5,hv5,hkb5⟩
   have hrq5:=hrq.keptB hkb5 hbqu
   have hqc5:=hrq5.cell (i:=t) (by omega)
   have hqf5:=hrq5.frozen t
   have hql:val 4294967296 (win us t) (nd+1)/val 4294967296 ds nd<4294967296:=hKn.qlt
   have hst:=Lib.hid (HLD.out.step (by decide) hDp hDn (by omega) (by omega) hl5 hs5 (by rw[←HDV.out];exact hv5))
   rw[←HDV.out] at hst
   generalize val 4294967296 (win us t) (nd+1)/val 4294967296 ds nd=q at*
   go_wp2
   go_roundw
   case rel=>
    refine⟨t,us',upd qs t q,by omega,rfl,by rw[←HDV.out];exact hst.out,World.rowIs.setOther hr5 (fun e=>hbqu e.symm) _,hrq5.set _ _,?_,(hkw.but hkb5 hbu).setCell (by simpa using hsz) _⟩
    exact(hdw.keptB hkb5 (fun i hi=>⟨bd,offd,rfl,hbdu⟩)).setOther (fun i hi=>⟨bd,offd,rfl,hbdq⟩) _
   case measure=>simp[intOf]
theorem div_calls{w:World}{v u:Value}{m k:Nat}(hv:Nt 4294967296 w v m)(hu:Nt 4294967296 w u k)(hm:m<Big)(hk:k<Big)(hk0:0<k):
 Calls Tryz.prog 199 #[v,u] w (RetQR (m/k) (m%k) w):=by
 by_cases h1:m<k
 ·rw[Nat.div_eq_of_lt h1,Nat.mod_eq_of_lt h1]
  exact div_less hv hu hm h1
 ·by_cases h2:k<4294967296
  ·exact div_one hv hu hm (by omega) hk0 h2
  ·have hvv:=hv
   have huu:=hu
   obtain⟨a,na,capa,xs,rfl,hca,hxd,hxn,rfl,hxw⟩:=hv
   obtain⟨b,n,cap,ys,rfl,hcb,hyd,hyn,rfl,hyw⟩:=hu
   have hn2:2≤n:=by
    match n,hyd with
    |0,_=>simp[val] at hk0
    |1,hyd=>have:=hyd 0 (by omega);simp[val] at h2;omega
    |n+2,_=>omega
   have hn512:=len_big32 hyn hk
   have hna:n≤na:=by
    by_cases h:na<n
    ·exact absurd (val_len_lt (by decide) hxd hyn h) h1
    ·omega
   rcases hyw.open with h0|⟨_,bb,off,rfl,hy⟩
   ·omega
   ·exact div_long na n bb off cap a capa ys hvv rfl (val_lt hxd) hm huu hn2 hn512 hk0 hna (len_big (.inr rfl) hxn hm) hyd (by rcases hyn with h|h<;>omega) hy hk (by omega)
end Go.Proofs.YtancebninmoipaaGreatDoor
namespace Go.Dig
def v2(m:Nat):Nat:=Lib.ctzFrom m m
theorem v2_spec{m:Nat}(h:0<m):∃o,m=2^v2 m*(2*o+1):=by
 obtain⟨o,ho,_⟩:=Lib.ctzFrom_spec m m h Nat.lt_two_pow_self
 exact⟨o,ho⟩
theorem pow2_odd_unique:∀{a b x y:Nat},2^a*(2*x+1)=2^b*(2*y+1)→a=b
 |0,0,_,_,_=>rfl
 |0,b+1,x,y,h=>by
  have e:2^(b+1)*(2*y+1)=2*(2^b*(2*y+1)):=by rw[Nat.pow_succ];grind
  simp only[Nat.pow_zero,Nat.one_mul] at h
  omega
 |a+1,0,x,y,h=>by
  have e:2^(a+1)*(2*x+1)=2*(2^a*(2*x+1)):=by rw[Nat.pow_succ];grind
  simp only[Nat.pow_zero,Nat.one_mul] at h
  omega
 |a+1,b+1,x,y,h=>by
  have e1:2^(b+1)*(2*y+1)=2*(2^b*(2*y+1)):=by rw[Nat.pow_succ];grind
  have e2:2^(a+1)*(2*x+1)=2*(2^a*(2*x+1)):=by rw[Nat.pow_succ];grind
  have:=pow2_odd_unique (a:=a) (b:=b) (x:=x) (y:=y) (by omega)
  omega
theorem v2_eq{m k o:Nat}(h:m=2^k*(2*o+1)):v2 m=k:=by
 have hm:0<m:=by rw[h];exact Nat.mul_pos (Nat.pow_pos (by decide)) (by omega)
 obtain⟨o',ho'⟩:=v2_spec hm
 exact pow2_odd_unique (ho'.symm.trans h)
theorem v2_le{m:Nat}(h:0<m):2^v2 m≤m:=by
 obtain⟨o,ho⟩:=v2_spec h
 have:2^v2 m*1≤2^v2 m*(2*o+1):=Nat.mul_le_mul_left _ (by omega)
 omega
theorem val_head(B:Nat)(ys:Nat→Nat):∀k,val B ys (k+1)=ys 0+B*val B (fun i=>ys (i+1)) k
 |0=>by simp[val]
 |k+1=>by
  have ih:=val_head B ys k
  have e:val B ys (k+1+1)=val B ys (k+1)+ys (k+1)*B^(k+1):=rfl
  have e2:val B (fun i=>ys (i+1)) (k+1)=val B (fun i=>ys (i+1)) k+ys (k+1)*B^k:=rfl
  rw[e,e2,ih,Nat.pow_succ]
  grind
theorem v2_val{xs:Nat→Nat}{n i:Nat}(hi:i<n)(hz:∀j,j<i→xs j=0)(hx:0<xs i)(hl:xs i<4294967296):v2 (val 4294967296 xs n)=32*i+Lib.ctz 32 (xs i):=by
 have h1:=val_win 4294967296 xs i (n-i)
 rw[show i+(n-i)=n by omega,val_zeros _ _ _ hz,Nat.zero_add] at h1
 obtain⟨k,hk⟩:∃k,n-i=k+1:=⟨n-i-1,by omega⟩
 rw[hk,val_head] at h1
 have e0:win xs i 0=xs i:=rfl
 rw[e0] at h1
 generalize val 4294967296 (fun j=>win xs i (j+1)) k=R at*
 have hc:Lib.ctz 32 (xs i)=Lib.ctzFrom 32 (xs i):=by unfold Lib.ctz;rw[if_neg (by omega)]
 obtain⟨o,ho,hlt⟩:=Lib.ctzFrom_spec 32 (xs i) hx (by simpa using hl)
 rw[hc]
 generalize Lib.ctzFrom 32 (xs i)=t at*
 have hp:=pow_cut (r:=t) (by omega)
 refine v2_eq (o:=o+2^(31-t)*R) ?_
 rw[h1,pow32]
 have e2:2^(32-t)=2*2^(31-t):=by rw[←Nat.pow_succ'];congr 1;omega
 rw[e2] at hp
 rw[Nat.pow_add]
 generalize 2^(32*i)=P at*
 generalize 2^t=T at*
 generalize 2^(31-t)=S at*
 rw[←hp,ho]
 grind
theorem bits_val{xs:Nat→Nat}{n:Nat}(hn:0<n)(hx:∀i,i<n→xs i<4294967296)(ht:0<xs (n-1)):
 2^(32*(n-1)+Lib.bitLen (xs (n-1))-1)≤val 4294967296 xs n∧val 4294967296 xs n<2^(32*(n-1)+Lib.bitLen (xs (n-1))):=by
 obtain⟨h1,h2,h3,h4⟩:=bitLen_facts ht (hx (n-1) (by omega))
 obtain⟨k,rfl⟩:∃k,n=k+1:=⟨n-1,by omega⟩
 simp only[Nat.add_sub_cancel] at*
 have hv:=val_lt (B:=4294967296) (n:=k) fun i hi=>hx i (by omega)
 simp only[val]
 rw[pow32] at*
 generalize Lib.bitLen (xs k)=b at*
 rw[show 32*k+b-1=32*k+(b-1) by omega,Nat.pow_add,Nat.pow_add]
 generalize 2^(32*k)=P at*
 constructor
 ·have:=Nat.mul_le_mul_left P h3
  rw[Nat.mul_comm P (xs k)] at this
  omega
 ·have:(xs k+1)*P≤2^b*P:=Nat.mul_le_mul_right _ h4
  rw[Nat.add_mul,Nat.mul_comm (2^b)] at this
  omega
theorem pow2_iff{m b:Nat}(h1:1≤b)(h2:2^(b-1)≤m)(h3:m<2^b):v2 m=b-1↔m=2^(b-1):=by
 constructor
 ·intro h
  obtain⟨o,ho⟩:=v2_spec (m:=m) (by have:=Nat.pow_pos (n:=b-1) (show 0<2 by decide);omega)
  rw[h] at ho
  have e:2^b=2^(b-1)*2:=by rw[←Nat.pow_succ];congr 1;omega
  rw[e,ho] at h3
  have:=Nat.lt_of_mul_lt_mul_left h3
  have:o=0:=by omega
  rw[ho,this];simp
 ·intro h
  exact v2_eq (o:=0) (by rw[h];simp)
theorem gcd_pow2{a b k:Nat}(ha:2^k∣a)(hb:2^k∣b):Nat.gcd (a/2^k) (b/2^k)=Nat.gcd a b/2^k:=(Nat.gcd_div ha hb)
theorem v2_dvd{m k:Nat}(h:0<m)(hk:k≤v2 m):2^k∣m:=by
 obtain⟨o,ho⟩:=v2_spec h
 refine Nat.dvd_trans (Nat.pow_dvd_pow 2 hk) ?_
 exact⟨2*o+1,ho⟩
theorem reduce_div{a g k:Nat}(h1:2^k∣a)(h2:2^k∣g):a/2^k/(g/2^k)=a/g:=by
 obtain⟨x,rfl⟩:=h1
 obtain⟨y,rfl⟩:=h2
 have hp:0<2^k:=Nat.pow_pos (by decide)
 rw[Nat.mul_div_cancel_left _ hp,Nat.mul_div_cancel_left _ hp,Nat.mul_div_mul_left _ _ hp]
theorem gcd_one_of_pow2{a e:Nat}(h:e=0∨a%2=1):Nat.gcd a (2^e)=1:=by
 rcases h with rfl|h
 ·simp
 ·have:Nat.Coprime a 2:=by
   unfold Nat.Coprime
   rw[Nat.gcd_comm,Nat.gcd_rec,h]
   simp
  exact this.pow_right e
theorem v2_div{m k:Nat}(h:0<m)(hk:k≤v2 m):v2 (m/2^k)=v2 m-k:=by
 obtain⟨o,ho⟩:=v2_spec h
 refine v2_eq (o:=o) ?_
 have e:2^v2 m=2^k*2^(v2 m-k):=by rw[←Nat.pow_add];congr 1;omega
 have hp:0<2^k:=Nat.pow_pos (by decide)
 conv=>lhs;rw[ho,e,Nat.mul_assoc,Nat.mul_div_cancel_left _ hp]
theorem v2_zero_odd{m:Nat}(h:0<m)(h0:v2 m=0):m%2=1:=by
 obtain⟨o,ho⟩:=v2_spec h
 rw[h0] at ho
 omega
end Go.Dig
namespace Go.Proofs.YtancebninmoipaaGreatDoor
open Go Go.RowKit Go.Dig
section
open Go.Eng (Kept KW KeptB)
def Laid(w:World):Prop:=TabAt 0 Lib.deBruijn32tab w
theorem Laid.kept{w w':World}(h:Laid w)(k:Kept w w'):Laid w':=fun j hj=>k.cell (h j hj)
set_option maxHeartbeats 1000000 in
theorem tz_core(x k idx:Nat)(w:World)(hx0:((x:Int)==0)=false)
 (key:bits BinOp.and IntKind.u32 (x:Int) (-(x:Int)%4294967296)*125613361%4294967296/134217728=(idx:Int))
 (hi:idx<32)(hk:k<32)(hcell:w.cell? ⟨0,idx,none⟩=some (.int .u8 k)):
 Calls Tryz.prog 237 #[.int .u32 x] w fun e w'=>e= .returned (.int .i64 k)∧w'=w:=by
 go_enter Tryz.func237,Tryz.ntmps237
 go_wp2_with(simp only[key])
 go_ret
 exact⟨rfl,rfl⟩
theorem tz_calls(x:Nat)(h0:0<x)(hx:x<4294967296)(w:World)(hT:Laid w):
 Calls Tryz.prog 237 #[.int .u32 x] w fun e w'=>e= .returned (.int .i64 (Lib.ctz 32 x:Nat))∧w=w':=by
 obtain⟨hlow,hk⟩:=Lib.lowest_bit 32 x (by omega) (by simpa using hx)
 obtain⟨hi,htab⟩:=Lib.deBruijn32_at _ hk
 have hcell:=hT _ hi
 rw[htab] at hcell
 exact(tz_core x _ _ w (by simp;omega) (tz32_key x _ hx (by omega) hlow) hi hk hcell).mono fun e w' ⟨h1,h2⟩=>⟨h1,h2.symm⟩
set_option maxHeartbeats 1000000 in
theorem twos_some(w:World)(b off cap n i:Nat)(xs:Nat→Nat)(hn:n≤1024)(hin:i<n)(hT:Laid w)
 (hxi:0<xs i)(hxl:xs i<4294967296)(hz:∀j,j<i→xs j=0)
 (hx:∀i,i<n→w.cell? ⟨b,off+i,none⟩=some (.int .u32 (xs i:Nat))):
 Calls Tryz.prog 194 #[.slice (some ⟨b,off,none⟩) n cap] w fun e w'=>e= .returned (.int .i64 ((32*i+Lib.ctz 32 (xs i):Nat):Int))∧w=w':=by
 have HX:=Lib.hid hx;clear hx
 have HZ:=Lib.hid hz;clear hz
 have htz:=tz_calls (xs i) hxi hxl w hT
 have hct:Lib.ctz 32 (xs i)≤32:=by
  unfold Lib.ctz;split
  ·omega
  ·obtain⟨_,_,h⟩:=Lib.ctzFrom_spec 32 (xs i) hxi (by simpa using hxl)
   omega
 have HT:=Lib.hid hT;clear hT
 go_enter Tryz.func194,Tryz.ntmps194
 go_wp2
 go_loop [7] (fun kv=>∃k:Nat,k≤i∧kv= .int .i64 (k:Int)) (fun kv=>n-(intOf kv).toNat)
 case atStart=>exact⟨0,Nat.zero_le _,rfl⟩
 case round=>
  obtain⟨k,hk,rfl⟩:=hrel
  have h1:=HX.out k (by omega)
  by_cases hki:k=i
  ·subst hki
   have q1:((xs k:Int) != 0)=true:=by simp;omega
   have q2:((xs k:Int)==0)=false:=by simp;omega
   go_wp2_with(go_at_call 237;refine htz.mono ?_;rintro e w' ⟨rfl,rfl⟩)
   go_ret
   exact⟨ret_int (by omega),rfl⟩
  ·have h2:=HZ.out k (by omega)
   rw[h2] at h1
   clear h2
   go_wp2
   go_round
   case rel=>exact⟨k+1,by omega,by go_num⟩
   case measure=>simp[intOf];omega
theorem first_nonzero{xs:Nat→Nat}:∀{n:Nat},(∃i,i<n∧xs i≠0)→∃i,i<n∧xs i≠0∧∀j,j<i→xs j=0
 |0,⟨i,hi,_⟩=>by omega
 |n+1,⟨i,hi,hx⟩=>by
  by_cases h:∃i,i<n∧xs i≠0
  ·obtain⟨j,hj,h1,h2⟩:=first_nonzero h
   exact⟨j,by omega,h1,h2⟩
  ·have hall:∀j,j<n→xs j=0:=fun j hj=>by
    by_cases e:xs j=0
    ·exact e
    ·exact absurd ⟨j,hj,e⟩ h
   have:i=n:=by
    by_cases e:i<n
    ·exact absurd (hall i e) hx
    ·omega
   subst this
   exact⟨i,by omega,hx,hall⟩
theorem twos_calls{w:World}{v:Value}{m:Nat}(hv:Nt 4294967296 w v m)(hm:m<Big)(h0:0<m)(hT:Laid w):
 Calls Tryz.prog 194 #[v] w fun e w'=>e= .returned (.int .i64 (v2 m:Nat))∧w=w':=by
 obtain⟨a,n,cap,xs,rfl,hc,hd,hn,rfl,hw⟩:=hv
 have hl:=len_big (.inr rfl) hn hm
 rcases hw.open with rfl|⟨hn0,b,off,rfl,hx⟩
 ·simp[val] at h0
 ·obtain⟨i,hi,hxi,hz⟩:=first_nonzero (xs:=xs) (n:=n) ⟨n-1,by omega,by rcases hn with h|h;omega;exact h⟩
  rw[v2_val hi hz (by omega) (hd i hi)]
  exact twos_some w b off cap n i xs hl hi hT (by omega) (hd i hi) hz hx
set_option maxHeartbeats 1000000 in
theorem bits_some(w:World)(b off cap n:Nat)(xs:Nat→Nat)(hn:n≤1024)(h0:0<n)(hxl:xs (n-1)<4294967296)
 (hx:w.cell? ⟨b,off+(n-1),none⟩=some (.int .u32 (xs (n-1):Nat))):
 Calls Tryz.prog 196 #[.slice (some ⟨b,off,none⟩) n cap] w fun e w'=>e= .returned (.int .i64 ((32*(n-1)+Lib.bitLen (xs (n-1)):Nat):Int))∧w=w':=by
 have q1:((n:Int)==0)=false:=by simp;omega
 have hbl:=Lib.bitLen_le (xs (n-1)) 32 (by decide) (by simpa using hxl)
 have hln:=Tryz.bits_Len32 (xs (n-1):Int) w (by omega) (by omega)
 rw[Int.toNat_natCast] at hln
 go_enter Tryz.func196,Tryz.ntmps196
 go_wp2_with(go_at_call 238;refine hln.mono ?_;rintro e w' ⟨rfl,rfl⟩)
 go_ret
 exact⟨ret_int (by omega),rfl⟩
theorem bits_calls{w:World}{v:Value}{m:Nat}(hv:Nt 4294967296 w v m)(hm:m<Big)(h0:0<m):
 Calls Tryz.prog 196 #[v] w fun e w'=>∃b:Nat,e= .returned (.int .i64 (b:Int))∧w=w'∧b≤40000∧1≤b∧2^(b-1)≤m∧m<2^b:=by
 obtain⟨a,n,cap,xs,rfl,hc,hd,hn,rfl,hw⟩:=hv
 have hl:=len_big (.inr rfl) hn hm
 rcases hw.open with rfl|⟨hn0,b,off,rfl,hx⟩
 ·simp[val] at h0
 ·have ht:0<xs (n-1):=by rcases hn with h|h<;>omega
  have hf:=bits_val hn0 hd ht
  have hbl:=bitLen_facts ht (hd (n-1) (by omega))
  exact(bits_some w b off cap n xs hl hn0 (hd _ (by omega)) (hx _ (by omega))).mono fun e w' ⟨h1,h2⟩=>⟨_,h1,h2,by omega,by omega,hf.1,hf.2⟩
set_option maxHeartbeats 1000000 in
theorem gcd_calls{w:World}{v u:Value}{m k:Nat}(hv:Nt 4294967296 w v m)(hu:Nt 4294967296 w u k)(hm:m<Big)(hk:k<Big):
 Calls Tryz.prog 197 #[v,u] w (RetNt 4294967296 (Nat.gcd k m) w):=by
 go_enter Tryz.func197,Tryz.ntmps197
 go_wp2
 go_loopg [0,1] k (fun y a b wr=>∃x:Nat,Nt 4294967296 wr a x∧Nt 4294967296 wr b y∧x<Big∧y<Big∧Nat.gcd y x=Nat.gcd k m∧Kept w wr)
 case atStart=>exact⟨m,hv,hu,hm,hk,rfl,Kept.refl _⟩
 case round=>
  obtain⟨x,hx,hy,hxb,hyb,hg,hkw⟩:=hrel
  have HG:=Lib.hid hg;clear hg
  have hyy:=hy
  obtain⟨ab,n,cap,ys,rfl,hc,hd,hn,hyv,hw⟩:=hyy
  have hz:=val_eq_zero (B:=4294967296) (by decide) hn
  rw[hyv] at hz
  have HZ:=Lib.hid hz;clear hz hyv hd hn hw
  by_cases h0:gk=0
  ·subst h0
   obtain rfl:n=0:=HZ.out.1 rfl
   go_wp2
   go_ret
   refine⟨_,rfl,?_,hkw⟩
   rw[←HG.out,Nat.gcd_zero_left]
   exact hx
  ·have hn0:0<n:=by have:=HZ.out;omega
   go_wp2_with(go_at_call 199;refine(div_calls hx hy hxb hyb (by omega)).mono ?_;rintro e w1 ⟨v1,v2,rfl,_,h2,hk1⟩)
   go_roundg (x%gk)
   case measure=>exact Nat.mod_lt _ (by omega)
   case rel=>exact⟨gk,hy.kept hk1,h2,hyb,Nat.lt_of_le_of_lt (Nat.mod_le _ _) hxb,by rw[←Nat.gcd_rec];exact HG.out,hkw.trans hk1⟩
end
section
open Go.Eng (Kept KW KeptB)
def Fr(w:World)(v:Value)(neg:Bool)(n d:Nat):Prop:=∃vn vd,v= .agg #[.bool neg,vn,vd]∧Nt 4294967296 w vn n∧Nt 4294967296 w vd d
theorem Fr.kept{w w':World}{v:Value}{neg:Bool}{n d:Nat}(h:Fr w v neg n d)(k:Kept w w'):Fr w' v neg n d:=by
 obtain⟨vn,vd,h1,h2,h3⟩:=h
 exact⟨vn,vd,h1,h2.kept k,h3.kept k⟩
def RetFr(neg:Bool)(n d:Nat)(w:World)(e:Ending)(w':World):Prop:=∃v,e= .returned v∧Fr w' v neg n d∧Kept w w'
def Blk3(w:World)(b:Nat)(x y z:Value)(t:TypeId):Prop:=w.heap[b]? =some (.cells #[x,y,z] t)
theorem Blk3.new(w:World)(x y z:Value)(t:TypeId):Blk3 (w.alloc (.cells #[x,y,z] t)) w.heap.size x y z t:=Go.Deep.blk_alloc_new _ _
theorem Blk3.kept{w w':World}{b:Nat}{x y z:Value}{t:TypeId}(h:Blk3 w b x y z t)(k:Kept w w'):Blk3 w' b x y z t:=(k.old b (Array.getElem?_eq_some_iff.1 h).1).trans h
theorem Blk3.facts{w:World}{b:Nat}{x y z:Value}{t:TypeId}(h:Blk3 w b x y z t):
 w.cell? ⟨b,0,none⟩=some x∧w.cell? ⟨b,1,none⟩=some y∧w.cell? ⟨b,2,none⟩=some z∧w.frozen? ⟨b,0,none⟩=false∧w.frozen? ⟨b,1,none⟩=false∧w.frozen? ⟨b,2,none⟩=false:=by
 unfold Blk3 at h
 refine⟨?_,?_,?_,?_,?_,?_⟩<;>simp[World.cell?,World.frozen?,h]
theorem Nt.shape{B:Nat}{w:World}{v:Value}{m:Nat}(h:Nt B w v m):∃a n cap,v= .slice a n cap:=by
 obtain⟨a,n,cap,_,h,_⟩:=h
 exact⟨a,n,cap,h⟩
def NoWords(w:World)(b:Nat):Prop:=∀off n,w.cell? ⟨b,off,none⟩≠some (.int .u32 n)
theorem Blk3.noWords{w:World}{b:Nat}{p:Bool}{a a':Option Addr}{n n' c c':Nat}{t:TypeId}(h:Blk3 w b (.bool p) (.slice a n c) (.slice a' n' c') t):NoWords w b:=by
 intro off k hc
 unfold Blk3 at h
 simp only[World.cell?,h] at hc
 match off with
 |0=>simp at hc
 |1=>simp at hc
 |2=>simp at hc
 |off+3=>simp at hc
theorem Nt.keptB{B:Nat}{w w':World}{v:Value}{m b:Nat}(h:Nt B w v m)(k:KeptB w w' b)(hb:NoWords w b):Nt B w' v m:=by
 obtain⟨a,n,cap,zs,h1,h2,h3,h4,h5,h6⟩:=h
 refine⟨a,n,cap,zs,h1,h2,h3,h4,h5,fun i hi=> ?_⟩
 obtain⟨b',off,e,hc⟩:=h6 i hi
 exact⟨b',off,e,k.cell hc (by rintro rfl;exact hb _ _ hc)⟩
theorem KeptB.store3(w:World)(b:Nat)(x y z:Value):KeptB w (((w.setCell ⟨b,0,none⟩ x).setCell ⟨b,1,none⟩ y).setCell ⟨b,2,none⟩ z) b:=
 (((Go.Eng.KeptB.refl w b).setCell rfl _).setCell rfl _).setCell rfl _
theorem zero_true{w:World}{v:Value}(hv:Nt 4294967296 w v 0):Calls Tryz.prog 131 #[v] w fun e w'=>e= .returned (.bool true)∧w=w':=zero_calls (.inr rfl) hv
theorem zero_false{w:World}{v:Value}{m:Nat}(hv:Nt 4294967296 w v m)(h:0<m):Calls Tryz.prog 131 #[v] w fun e w'=>e= .returned (.bool false)∧w=w':=
 (zero_calls (.inr rfl) hv).mono fun e w' ⟨h1,h2⟩=>⟨by rw[h1];congr 2;simp;omega,h2⟩
set_option maxHeartbeats 1000000 in
set_option maxRecDepth 100000 in
theorem reduce_zero{w:World}{vn vd:Value}(neg:Bool)(hn:Nt 4294967296 w vn 0):
 Calls Tryz.prog 122 #[.bool neg,vn,vd] w (RetFr false 0 1 w):=by
 have hb0:=Blk3.new w (.bool false) (.slice none 0 0) (.slice none 0 0) 129
 have hk0:Kept w (w.alloc (.cells #[.bool false,.slice none 0 0,.slice none 0 0] 129)):=(Kept.refl _).alloc _
 have hz:=zero_true (hn.kept hk0)
 go_enter Tryz.func122,Tryz.ntmps122
 go_wp2_with fail
 generalize w.alloc (.cells #[.bool false,.slice none 0 0,.slice none 0 0] 129)=w1 at*
 have hsz:w.heap.size≤w.heap.size:=Nat.le_refl _
 generalize hbE:w.heap.size=b0 at hb0⊢
 refine hz.mono ?_
 rintro e w' ⟨rfl,rfl⟩
 have hsm:=small_calls w1 1 (by decide)
 go_wp2_with(go_at_call 132;refine hsm.mono ?_;rintro e w2 ⟨v2,rfl,hv2,hk2⟩;obtain⟨c0,c1,c2,f0,f1,f2⟩:=(hb0.kept hk2).facts;obtain⟨a2,n2,cap2,rfl⟩:=hv2.shape)
 have hkb:=KeptB.store3 w2 b0 (.bool false) (.slice none 0 0) (.slice a2 n2 cap2)
 refine bodyPost_ret (v:=.agg #[.bool false,.slice none 0 0,.slice a2 n2 cap2]) (by simp[results,Tryz.results122,go_sem,c0,c1,c2]) rfl ⟨_,rfl,⟨_,_,rfl,nt_zero _ _ _ _,hv2.keptB hkb (hb0.kept hk2).noWords⟩,(hk0.trans hk2).but hkb (by omega)⟩
end
section
open Go.Eng (Kept KW KeptB)
set_option maxHeartbeats 4000000 in
set_option maxRecDepth 100000 in
theorem reduce_same{w:World}{vn vd:Value}{m k:Nat}(neg:Bool)(hn:Nt 4294967296 w vn m)(hd:Nt 4294967296 w vd k)(hm:m<Big)(hk:k<Big)(hm0:0<m)(hk0:0<k)(hT:Laid w)
 (ht:v2 m=0∨v2 k=0):
 Calls Tryz.prog 122 #[.bool neg,vn,vd] w (RetFr neg (m/Nat.gcd m k) (k/Nat.gcd m k) w):=by
 have hb0:=Blk3.new w (.bool false) (.slice none 0 0) (.slice none 0 0) 129
 have hw0:Kept w (w.alloc (.cells #[.bool false,.slice none 0 0,.slice none 0 0] 129)):=(Kept.refl _).alloc _
 have hn1:=hn.kept hw0
 have hd1:=hd.kept hw0
 have hT1:=hT.kept hw0
 clear hn hd hT
 go_enter Tryz.func122,Tryz.ntmps122
 go_wp2_with fail
 generalize w.alloc (.cells #[.bool false,.slice none 0 0,.slice none 0 0] 129)=w1 at*
 generalize hbE:w.heap.size=b0 at hb0⊢
 have HBE:=Lib.hid hbE;clear hbE
 refine(zero_false hn1 hm0).mono ?_
 rintro e w' ⟨rfl,rfl⟩
 have htn:=twos_calls hn1 hm hm0 hT1
 have htd:=twos_calls hd1 hk hk0 hT1
 have hoddm:=Lib.hid (v2_zero_odd hm0)
 obtain⟨t1,ht1⟩:∃t,v2 m=t:=⟨_,rfl⟩
 obtain⟨t2,ht2⟩:∃t,v2 k=t:=⟨_,rfl⟩
 rw[ht1] at htn ht
 rw[ht2] at htd ht
 have HT1:=Lib.hid ht1;clear ht1
 have HT2:=Lib.hid ht2;clear ht2
 go_wp2_with fail
 refine htn.mono ?_
 rintro e w' ⟨rfl,rfl⟩
 go_wp2_with fail
 refine htd.mono ?_
 rintro e w' ⟨rfl,rfl⟩
 go_wp2_with fail
 have hbits:=bits_calls hd1 hk hk0
 refine(htd).mono ?_
 rintro e w' ⟨rfl,rfl⟩
 go_wp2_with fail
 refine hbits.mono ?_
 rintro e w' ⟨b,rfl,rfl,hb40,hb1,hb2,hb3⟩
 have hiff:=Lib.hid (pow2_iff hb1 hb2 hb3)
 have hgp:0<Nat.gcd m k:=Nat.gcd_pos_of_pos_left _ hm0
 by_cases hpw:t2=b-1
 ·
  have hg1:Nat.gcd m k=1:=by
   have e1:=hiff.out.1 (by rw[HT2.out];exact hpw)
   rw[e1]
   exact gcd_one_of_pow2 (by rcases ht with h|h;exact .inr (hoddm.out (HT1.out.trans h));exact .inl (by omega))
  have tst:((t2:Int) !=(b:Int)-1)=false:=by simp;omega
  obtain⟨c0,c1,c2,f0,f1,f2⟩:=hb0.facts
  obtain⟨an,nn,capn,rfl⟩:=hn1.shape
  obtain⟨ad,nd,capd,rfl⟩:=hd1.shape
  have hkb:=KeptB.store3 w1 b0 (.bool neg) (.slice an nn capn) (.slice ad nd capd)
  go_wp2
  refine bodyPost_ret (v:=.agg #[.bool neg,.slice an nn capn,.slice ad nd capd]) (by simp[results,Tryz.results122,go_sem,c0,c1,c2]) rfl ⟨_,rfl,⟨_,_,rfl,?_,?_⟩,hw0.but hkb (by have:=HBE.out;omega)⟩
  ·rw[hg1,Nat.div_one];exact hn1.keptB hkb hb0.noWords
  ·rw[hg1,Nat.div_one];exact hd1.keptB hkb hb0.noWords
 ·have tst:((t2:Int) !=(b:Int)-1)=true:=by simp;omega
  have hgc:=gcd_calls hn1 hd1 hm hk
  rw[Nat.gcd_comm] at hgc
  go_wp2_with fail
  refine hgc.mono ?_
  rintro e w3 ⟨vg,rfl,hvg,hk3⟩
  have hone:=one_calls hvg
  have hBlk3:=hb0.kept hk3
  by_cases hg1:Nat.gcd m k=1
  ·have hone':Calls Tryz.prog 198 #[vg] w3 fun e w'=>e= .returned (.bool true)∧w3=w':=hone.mono fun e w' ⟨h1,h2⟩=>⟨by rw[h1];simp[hg1],h2⟩
   obtain⟨c0,c1,c2,f0,f1,f2⟩:=hBlk3.facts
   have hn3:=hn1.kept hk3
   have hd3:=hd1.kept hk3
   obtain⟨an,nn,capn,rfl⟩:=hn1.shape
   obtain⟨ad,nd,capd,rfl⟩:=hd1.shape
   have hkb:=KeptB.store3 w3 b0 (.bool neg) (.slice an nn capn) (.slice ad nd capd)
   go_wp2_with(go_at_call 198;refine hone'.mono ?_;rintro e w' ⟨rfl,rfl⟩)
   refine bodyPost_ret (v:=.agg #[.bool neg,.slice an nn capn,.slice ad nd capd]) (by simp[results,Tryz.results122,go_sem,c0,c1,c2]) rfl ⟨_,rfl,⟨_,_,rfl,?_,?_⟩,(hw0.trans hk3).but hkb (by have:=HBE.out;omega)⟩
   ·rw[hg1,Nat.div_one];exact hn3.keptB hkb hBlk3.noWords
   ·rw[hg1,Nat.div_one];exact hd3.keptB hkb hBlk3.noWords
  ·have hone':Calls Tryz.prog 198 #[vg] w3 fun e w'=>e= .returned (.bool false)∧w3=w':=hone.mono fun e w' ⟨h1,h2⟩=>⟨by rw[h1];simp[hg1],h2⟩
   have hgB:Nat.gcd m k<Big:=Nat.lt_of_le_of_lt (Nat.gcd_le_left _ hm0) hm
   have hdq1:=div_calls (hn1.kept hk3) hvg hm hgB hgp
   go_wp2_with(go_at_call 198;refine hone'.mono ?_;rintro e w' ⟨rfl,rfl⟩)
   refine hdq1.mono ?_
   rintro e w4 ⟨vq,vr,rfl,hvq,_,hk4⟩
   have hdq2:=div_calls ((hd1.kept hk3).kept hk4) (hvg.kept hk4) hk hgB hgp
   go_wp2_with fail
   refine hdq2.mono ?_
   rintro e w5 ⟨vq2,vr2,rfl,hvq2,_,hk5⟩
   have hBlk5:=(hBlk3.kept hk4).kept hk5
   obtain⟨c0,c1,c2,f0,f1,f2⟩:=hBlk5.facts
   have hn5:=hvq.kept hk5
   obtain⟨an,nn,capn,rfl⟩:=hvq.shape
   obtain⟨ad,nd,capd,rfl⟩:=hvq2.shape
   have hkb:=KeptB.store3 w5 b0 (.bool neg) (.slice an nn capn) (.slice ad nd capd)
   go_wp2
   refine bodyPost_ret (v:=.agg #[.bool neg,.slice an nn capn,.slice ad nd capd]) (by simp[results,Tryz.results122,go_sem,c0,c1,c2]) rfl ⟨_,rfl,⟨_,_,rfl,?_,?_⟩,(((hw0.trans hk3).trans hk4).trans hk5).but hkb (by have:=HBE.out;omega)⟩
   ·exact hn5.keptB hkb hBlk5.noWords
   ·exact hvq2.keptB hkb hBlk5.noWords
set_option maxHeartbeats 4000000 in
set_option maxRecDepth 100000 in
theorem reduce_shift{w:World}{vn vd:Value}{m k:Nat}(neg:Bool)(hn:Nt 4294967296 w vn m)(hd:Nt 4294967296 w vd k)(hm:m<Big)(hk:k<Big)(hm0:0<m)(hk0:0<k)(hT:Laid w)
 (ht:0<v2 m∧0<v2 k)(ht5:v2 m≤100000∧v2 k≤100000):
 Calls Tryz.prog 122 #[.bool neg,vn,vd] w (RetFr neg (m/Nat.gcd m k) (k/Nat.gcd m k) w):=by
 have hb0:=Blk3.new w (.bool false) (.slice none 0 0) (.slice none 0 0) 129
 have hw0:Kept w (w.alloc (.cells #[.bool false,.slice none 0 0,.slice none 0 0] 129)):=(Kept.refl _).alloc _
 have hn1:=hn.kept hw0
 have hd1:=hd.kept hw0
 have hT1:=hT.kept hw0
 clear hn hd hT
 go_enter Tryz.func122,Tryz.ntmps122
 go_wp2_with fail
 generalize w.alloc (.cells #[.bool false,.slice none 0 0,.slice none 0 0] 129)=w1 at*
 generalize hbE:w.heap.size=b0 at hb0⊢
 have HBE:=Lib.hid hbE;clear hbE
 refine(zero_false hn1 hm0).mono ?_
 rintro e w' ⟨rfl,rfl⟩
 have htn:=twos_calls hn1 hm hm0 hT1
 have htd:=twos_calls hd1 hk hk0 hT1
 obtain⟨t1,ht1⟩:∃t,v2 m=t:=⟨_,rfl⟩
 obtain⟨t2,ht2⟩:∃t,v2 k=t:=⟨_,rfl⟩
 rw[ht1] at htn ht ht5
 rw[ht2] at htd ht ht5
 obtain⟨t,htE⟩:∃t,t=min t1 t2:=⟨_,rfl⟩
 have ht0:0<t:=by omega
 have htle1:t≤t1:=by omega
 have htle2:t≤t2:=by omega
 have hteq:t=t1∨t=t2:=by omega
 have hmin:min (t1:Int) (t2:Int)=(t:Int):=by omega
 have hdm:2^t∣m:=v2_dvd hm0 (by rw[ht1];exact htle1)
 have hdk:2^t∣k:=v2_dvd hk0 (by rw[ht2];exact htle2)
 have hpt:0<2^t:=Nat.pow_pos (by decide)
 have hm0':0<m/2^t:=Nat.div_pos (Nat.le_of_dvd hm0 hdm) hpt
 have hk0':0<k/2^t:=Nat.div_pos (Nat.le_of_dvd hk0 hdk) hpt
 have hmB:m/2^t<Big:=Nat.lt_of_le_of_lt (Nat.div_le_self _ _) hm
 have hkB:k/2^t<Big:=Nat.lt_of_le_of_lt (Nat.div_le_self _ _) hk
 have HV1:Hid (v2 (m/2^t)=t1-t):=Lib.hid (by rw[v2_div hm0 (by rw[ht1];exact htle1),ht1])
 have HV2:Hid (v2 (k/2^t)=t2-t):=Lib.hid (by rw[v2_div hk0 (by rw[ht2];exact htle2),ht2])
 have HQN:Hid (m/Nat.gcd m k=m/2^t/Nat.gcd (m/2^t) (k/2^t)):=Lib.hid (by rw[gcd_pow2 hdm hdk,reduce_div hdm (Nat.dvd_gcd hdm hdk)])
 have HQD:Hid (k/Nat.gcd m k=k/2^t/Nat.gcd (m/2^t) (k/2^t)):=Lib.hid (by rw[gcd_pow2 hdm hdk,reduce_div hdk (Nat.dvd_gcd hdm hdk)])
 have hoddm:=Lib.hid (v2_zero_odd hm0')
 have hsh1:=shr_calls hn1 hm (show t≤100000 by omega)
 have hsh2:=fun(w':World)(kk:Kept w1 w')=>shr_calls (hd1.kept kk) hk (show t≤100000 by omega)
 have HTE:=Lib.hid htE;clear htE ht1 ht2 hdm hdk hpt
 go_wp2_with fail
 refine htn.mono ?_
 rintro e w' ⟨rfl,rfl⟩
 go_wp2_with fail
 refine htd.mono ?_
 rintro e w' ⟨rfl,rfl⟩
 clear htn htd
 go_wp2_with fail
 clear hmin
 generalize m/2^t=m' at*
 generalize k/2^t=k' at*
 refine hsh1.mono ?_
 rintro e w6 ⟨vn',rfl,hn6,hk6⟩
 go_wp2_with fail
 refine(hsh2 _ hk6).mono ?_
 rintro e w7 ⟨vd',rfl,hd7,hk7⟩
 have hn7:=hn6.kept hk7
 have hT7:=(hT1.kept hk6).kept hk7
 have hb7:=(hb0.kept hk6).kept hk7
 have hw7:=(hw0.trans hk6).trans hk7
 have htd7:=twos_calls hd7 hkB hk0' hT7
 rw[HV2.out] at htd7
 clear hsh1 hsh2 hn6
 obtain⟨t3,ht3⟩:∃t3,t3=t2-t:=⟨_,rfl⟩
 rw[←ht3] at htd7
 have HT3:=Lib.hid ht3;clear ht3
 go_wp2_with fail
 have hbits:=bits_calls hd7 hkB hk0'
 refine(htd7).mono ?_
 rintro e w' ⟨rfl,rfl⟩
 go_wp2_with fail
 refine hbits.mono ?_
 rintro e w' ⟨b,rfl,rfl,hb40,hb1,hb2,hb3⟩
 have hiff:=Lib.hid (pow2_iff hb1 hb2 hb3)
 have hgp:0<Nat.gcd m' k':=Nat.gcd_pos_of_pos_left _ hm0'
 by_cases hpw:t3=b-1
 ·
  have hg1:Nat.gcd m' k'=1:=by
   have e1:=hiff.out.1 (by rw[HV2.out,←HT3.out];exact hpw)
   rw[e1]
   exact gcd_one_of_pow2 (by have h1:=HV1.out;have h3:=HT3.out;rcases hteq with h|h;exact .inr (hoddm.out (by omega));exact .inl (by omega))
  have tst:((t3:Int) !=(b:Int)-1)=false:=by simp;omega
  obtain⟨c0,c1,c2,f0,f1,f2⟩:=hb7.facts
  obtain⟨an,nn,capn,rfl⟩:=hn7.shape
  obtain⟨ad,nd,capd,rfl⟩:=hd7.shape
  have hkb:=KeptB.store3 w7 b0 (.bool neg) (.slice an nn capn) (.slice ad nd capd)
  go_wp2
  refine bodyPost_ret (v:=.agg #[.bool neg,.slice an nn capn,.slice ad nd capd]) (by simp[results,Tryz.results122,go_sem,c0,c1,c2]) rfl ⟨_,rfl,⟨_,_,rfl,?_,?_⟩,hw7.but hkb (by have:=HBE.out;omega)⟩
  ·rw[HQN.out,hg1,Nat.div_one];exact hn7.keptB hkb hb7.noWords
  ·rw[HQD.out,hg1,Nat.div_one];exact hd7.keptB hkb hb7.noWords
 ·have tst:((t3:Int) !=(b:Int)-1)=true:=by simp;omega
  have hgc:=gcd_calls hn7 hd7 hmB hkB
  rw[Nat.gcd_comm] at hgc
  go_wp2_with fail
  refine hgc.mono ?_
  rintro e w3 ⟨vg,rfl,hvg,hk3⟩
  have hone:=one_calls hvg
  have hBlk3:=hb7.kept hk3
  by_cases hg1:Nat.gcd m' k'=1
  ·have hone':Calls Tryz.prog 198 #[vg] w3 fun e w'=>e= .returned (.bool true)∧w3=w':=hone.mono fun e w' ⟨h1,h2⟩=>⟨by rw[h1];simp[hg1],h2⟩
   obtain⟨c0,c1,c2,f0,f1,f2⟩:=hBlk3.facts
   have hn3:=hn7.kept hk3
   have hd3:=hd7.kept hk3
   obtain⟨an,nn,capn,rfl⟩:=hn7.shape
   obtain⟨ad,nd,capd,rfl⟩:=hd7.shape
   have hkb:=KeptB.store3 w3 b0 (.bool neg) (.slice an nn capn) (.slice ad nd capd)
   go_wp2_with(go_at_call 198;refine hone'.mono ?_;rintro e w' ⟨rfl,rfl⟩)
   refine bodyPost_ret (v:=.agg #[.bool neg,.slice an nn capn,.slice ad nd capd]) (by simp[results,Tryz.results122,go_sem,c0,c1,c2]) rfl ⟨_,rfl,⟨_,_,rfl,?_,?_⟩,(hw7.trans hk3).but hkb (by have:=HBE.out;omega)⟩
   ·rw[HQN.out,hg1,Nat.div_one];exact hn3.keptB hkb hBlk3.noWords
   ·rw[HQD.out,hg1,Nat.div_one];exact hd3.keptB hkb hBlk3.noWords
  ·have hone':Calls Tryz.prog 198 #[vg] w3 fun e w'=>e= .returned (.bool false)∧w3=w':=hone.mono fun e w' ⟨h1,h2⟩=>⟨by rw[h1];simp[hg1],h2⟩
   have hgB:Nat.gcd m' k'<Big:=Nat.lt_of_le_of_lt (Nat.gcd_le_left _ hm0') hmB
   have hdq1:=div_calls (hn7.kept hk3) hvg hmB hgB hgp
   go_wp2_with(go_at_call 198;refine hone'.mono ?_;rintro e w' ⟨rfl,rfl⟩)
   refine hdq1.mono ?_
   rintro e w4 ⟨vq,vr,rfl,hvq,_,hk4⟩
   have hdq2:=div_calls ((hd7.kept hk3).kept hk4) (hvg.kept hk4) hkB hgB hgp
   go_wp2_with fail
   refine hdq2.mono ?_
   rintro e w5 ⟨vq2,vr2,rfl,hvq2,_,hk5⟩
   have hBlk5:=(hBlk3.kept hk4).kept hk5
   obtain⟨c0,c1,c2,f0,f1,f2⟩:=hBlk5.facts
   have hn5:=hvq.kept hk5
   obtain⟨an,nn,capn,rfl⟩:=hvq.shape
   obtain⟨ad,nd,capd,rfl⟩:=hvq2.shape
   have hkb:=KeptB.store3 w5 b0 (.bool neg) (.slice an nn capn) (.slice ad nd capd)
   go_wp2
   refine bodyPost_ret (v:=.agg #[.bool neg,.slice an nn capn,.slice ad nd capd]) (by simp[results,Tryz.results122,go_sem,c0,c1,c2]) rfl ⟨_,rfl,⟨_,_,rfl,?_,?_⟩,(((hw7.trans hk3).trans hk4).trans hk5).but hkb (by have:=HBE.out;omega)⟩
   ·rw[HQN.out];exact hn5.keptB hkb hBlk5.noWords
   ·rw[HQD.out];exact hvq2.keptB hkb hBlk5.noWords
theorem reduce_calls{w:World}{vn vd:Value}{m k:Nat}(neg:Bool)(hn:Nt 4294967296 w vn m)(hd:Nt 4294967296 w vd k)(hm:m<Big)(hk:k<Big)(hk0:0<k)(hT:Laid w):
 Calls Tryz.prog 122 #[.bool neg,vn,vd] w (RetFr (neg&&decide (0<m)) (m/Nat.gcd m k) (k/Nat.gcd m k) w):=by
 by_cases hm0:m=0
 ·subst hm0
  rw[Nat.gcd_zero_left,Nat.zero_div,Nat.div_self hk0]
  simpa using reduce_zero neg hn
 ·have hp:decide (0<m)=true:=by simp;omega
  rw[hp,Bool.and_true]
  have hbd:∀x,0<x→x<Big→v2 x≤100000:=fun x h0 hx=>by
   have h1:=v2_le h0
   have h2:2^v2 x<pwr 2 16384:=Nat.lt_of_le_of_lt h1 hx
   have:=pwr_lt h2
   omega
  by_cases h:0<v2 m∧0<v2 k
  ·exact reduce_shift neg hn hd hm hk (by omega) hk0 hT h ⟨hbd m (by omega) hm,hbd k hk0 hk⟩
  ·exact reduce_same neg hn hd hm hk (by omega) hk0 hT (by omega)
end
section
open Go.Eng (Kept KW KeptB)
def fits32(n:Nat):Bool:=decide (n<pwr 2 2048)
theorem len_le_iff{zs:Nat→Nat}{n L:Nat}(hd:∀i,i<n→zs i<4294967296)(hn:norm zs n):n≤L↔val 4294967296 zs n<4294967296^L:=by
 constructor
 ·intro h
  exact Nat.lt_of_lt_of_le (val_lt hd) (Nat.pow_le_pow_right (by decide) h)
 ·exact len_le_of_lt (by decide) hn
theorem p2048:(4294967296:Nat)^64=pwr 2 2048:=pwr32 64 2048 rfl
set_option maxHeartbeats 1000000 in
theorem fits_calls{w:World}{v:Value}{neg:Bool}{n d:Nat}(h:Fr w v neg n d):
 Calls Tryz.prog 133 #[v] w fun e w'=>e= .returned (.bool (fits32 n&&fits32 d))∧Kept w w':=by
 obtain⟨vn,vd,rfl,hn,hd⟩:=h
 obtain⟨a,nn,capn,xs,rfl,hc1,hx,hxn,rfl,hw1⟩:=hn
 obtain⟨b,nd,capd,ys,rfl,hc2,hy,hyn,rfl,hw2⟩:=hd
 have e1:fits32 (val 4294967296 xs nn)=decide (nn≤64):=by unfold fits32;rw[←p2048,Bool.eq_iff_iff];simp[len_le_iff hx hxn]
 have e2:fits32 (val 4294967296 ys nd)=decide (nd≤64):=by unfold fits32;rw[←p2048,Bool.eq_iff_iff];simp[len_le_iff hy hyn]
 rw[e1,e2]
 clear hw1 hw2 hx hxn hy hyn e1 e2
 by_cases h1:nn≤64
 ·have t1:decide ((nn:Int)≤64)=true:=by simp;omega
  by_cases h2:nd≤64
  ·go_enter Tryz.func133,Tryz.ntmps133
   go_wp2
   go_ret
   exact⟨by simp[h1,h2];omega,(Kept.refl _).alloc _⟩
  ·go_enter Tryz.func133,Tryz.ntmps133
   go_wp2
   go_ret
   exact⟨by simp[h2];try omega,(Kept.refl _).alloc _⟩
 ·have t1:decide ((nn:Int)≤64)=false:=by simp;omega
  go_enter Tryz.func133,Tryz.ntmps133
  go_wp2
  go_ret
  exact⟨by simp[h1],(Kept.refl _).alloc _⟩
def sgn(neg:Bool)(n:Nat):Int:=if n=0 then 0 else if neg then -1 else 1
set_option maxHeartbeats 1000000 in
theorem sign_calls{w:World}{v:Value}{neg:Bool}{n d:Nat}(h:Fr w v neg n d):
 Calls Tryz.prog 134 #[v] w fun e w'=>e= .returned (.int .i64 (sgn neg n))∧Kept w w':=by
 obtain⟨vn,vd,rfl,hn,hd⟩:=h
 obtain⟨a,nn,capn,rfl⟩:=hn.shape
 obtain⟨a',nd,capd,rfl⟩:=hd.shape
 have hn1:=hn.kept ((Kept.refl w).alloc (.cells #[.bool neg,.slice a nn capn,.slice a' nd capd] 129))
 by_cases h0:n=0
 ·subst h0
  have hz:=zero_true hn1
  go_enter Tryz.func134,Tryz.ntmps134
  go_wp2_with(go_at_call 131;refine hz.mono ?_;rintro e w' ⟨rfl,rfl⟩)
  go_ret
  exact⟨rfl,(Kept.refl _).alloc _⟩
 ·have hz:=zero_false hn1 (by omega)
  cases neg
  ·go_enter Tryz.func134,Tryz.ntmps134
   go_wp2_with(go_at_call 131;refine hz.mono ?_;rintro e w' ⟨rfl,rfl⟩)
   go_ret
   exact⟨by simp[sgn,h0],(Kept.refl _).alloc _⟩
  ·go_enter Tryz.func134,Tryz.ntmps134
   go_wp2_with(go_at_call 131;refine hz.mono ?_;rintro e w' ⟨rfl,rfl⟩)
   go_ret
   exact⟨by simp[sgn,h0],(Kept.refl _).alloc _⟩
end
section
open Go.Eng (Kept KW KeptB wp_region_kw kw_call)
def fcmp(s:Bool)(n d:Nat)(s':Bool)(n' d':Nat):Int:=
 if sgn s n≠sgn s' n' then(if sgn s n<sgn s' n' then -1 else 1) else(if s then-cmpInt (n*d') (n'*d) else cmpInt (n*d') (n'*d))
theorem Blk3.all{w0:World}{b:Nat}{x y z:Value}{t:TypeId}(h:Blk3 w0 b x y z t):
 (∀k:KW w0,k.w.cell? ⟨b,0,none⟩=some x)∧(∀k:KW w0,k.w.cell? ⟨b,1,none⟩=some y)∧(∀k:KW w0,k.w.cell? ⟨b,2,none⟩=some z):=
 ⟨fun k=>(h.kept k.kept).facts.1,fun k=>(h.kept k.kept).facts.2.1,fun k=>(h.kept k.kept).facts.2.2.1⟩
set_option maxHeartbeats 1000000 in
theorem fcmp_ne{w:World}{v u:Value}{s s':Bool}{n d n' d':Nat}(h:Fr w v s n d)(h':Fr w u s' n' d')(hne:sgn s n≠sgn s' n'):
 Calls Tryz.prog 62 #[v,u] w fun e w'=>e= .returned (.int .i64 (if sgn s n<sgn s' n' then -1 else 1))∧Kept w w':=by
 have hs:=fun(w':World)(k:Kept w w')=>sign_calls (h.kept k)
 have hs':=fun(w':World)(k:Kept w w')=>sign_calls (h'.kept k)
 obtain⟨vn,vd,rfl,hn,hd⟩:=h
 obtain⟨a,nn,capn,rfl⟩:=hn.shape
 obtain⟨ad,nd,capd,rfl⟩:=hd.shape
 obtain⟨vn',vd',rfl,hn',hd'⟩:=h'
 obtain⟨a',nn',capn',rfl⟩:=hn'.shape
 obtain⟨ad',nd',capd',rfl⟩:=hd'.shape
 generalize sgn s n=x at*
 generalize sgn s' n'=y at*
 have hb1:=Blk3.new w (.bool s) (.slice a nn capn) (.slice ad nd capd) 129
 have hb2:=Blk3.new (w.alloc (.cells #[.bool s,.slice a nn capn,.slice ad nd capd] 129)) (.bool s') (.slice a' nn' capn') (.slice ad' nd' capd') 129
 have hk1:Kept w ((w.alloc (.cells #[.bool s,.slice a nn capn,.slice ad nd capd] 129)).alloc (.cells #[.bool s',.slice a' nn' capn',.slice ad' nd' capd'] 129)):=((Kept.refl _).alloc _).alloc _
 have hb1':=hb1.kept ((Kept.refl _).alloc (.cells #[.bool s',.slice a' nn' capn',.slice ad' nd' capd'] 129))
 clear hb1
 have esz:(w.alloc (.cells #[.bool s,.slice a nn capn,.slice ad nd capd] 129)).heap.size=w.heap.size+1:=by simp[go_sem]
 rw[esz] at hb2
 clear esz
 have tne:(x != y)=true:=by simpa using hne
 by_cases hlt:x<y
 ·have tlt:decide (x<y)=true:=by simpa using hlt
  rw[if_pos hlt]
  go_enter Tryz.func62,Tryz.ntmps62
  go_wp2_with fail
  generalize (w.alloc (.cells #[.bool s,.slice a nn capn,.slice ad nd capd] 129)).alloc (.cells #[.bool s',.slice a' nn' capn',.slice ad' nd' capd'] 129)=w1 at*
  generalize w.heap.size=b0 at*
  obtain⟨p0,p1,p2⟩:=hb1'.all
  obtain⟨q0,q1,q2⟩:=hb2.all
  refine wp_region_kw w1 (Kept.refl _) (by kernel_rfl) (by kernel_rfl) ?_
  repeat (go_big_quiet_step (first|(go_at_call_of 134 (Value.agg #[Value.bool s,Value.slice a nn capn,Value.slice ad nd capd]);exact kw_call (hs _ (hk1.trans (KW.kept _))))|(go_at_call 134;exact kw_call (hs' _ (hk1.trans (KW.kept _))))))
  refine wpQuiet_nil ?_
  rintro _ ⟨k2,rfl⟩
  go_wp2_with fail
  refine wp_region_kw w1 k2.kept (by kernel_rfl) (by kernel_rfl) ?_
  repeat (go_big_quiet_step (first|(go_at_call_of 134 (Value.agg #[Value.bool s,Value.slice a nn capn,Value.slice ad nd capd]);exact kw_call (hs _ (hk1.trans (KW.kept _))))|(go_at_call 134;exact kw_call (hs' _ (hk1.trans (KW.kept _))))))
  refine wpQuiet_nil ?_
  rintro _ ⟨k3,rfl⟩
  go_wp2
  go_ret
  exact⟨rfl,hk1.trans k3.kept⟩
 ·have tlt:decide (x<y)=false:=by simpa using hlt
  rw[if_neg hlt]
  go_enter Tryz.func62,Tryz.ntmps62
  go_wp2_with fail
  generalize (w.alloc (.cells #[.bool s,.slice a nn capn,.slice ad nd capd] 129)).alloc (.cells #[.bool s',.slice a' nn' capn',.slice ad' nd' capd'] 129)=w1 at*
  generalize w.heap.size=b0 at*
  obtain⟨p0,p1,p2⟩:=hb1'.all
  obtain⟨q0,q1,q2⟩:=hb2.all
  refine wp_region_kw w1 (Kept.refl _) (by kernel_rfl) (by kernel_rfl) ?_
  repeat (go_big_quiet_step (first|(go_at_call_of 134 (Value.agg #[Value.bool s,Value.slice a nn capn,Value.slice ad nd capd]);exact kw_call (hs _ (hk1.trans (KW.kept _))))|(go_at_call 134;exact kw_call (hs' _ (hk1.trans (KW.kept _))))))
  refine wpQuiet_nil ?_
  rintro _ ⟨k2,rfl⟩
  go_wp2_with fail
  refine wp_region_kw w1 k2.kept (by kernel_rfl) (by kernel_rfl) ?_
  repeat (go_big_quiet_step (first|(go_at_call_of 134 (Value.agg #[Value.bool s,Value.slice a nn capn,Value.slice ad nd capd]);exact kw_call (hs _ (hk1.trans (KW.kept _))))|(go_at_call 134;exact kw_call (hs' _ (hk1.trans (KW.kept _))))))
  refine wpQuiet_nil ?_
  rintro _ ⟨k3,rfl⟩
  go_wp2
  go_ret
  exact⟨rfl,hk1.trans k3.kept⟩
end
section
open Go.Eng (Kept KW KeptB wp_region_kw kw_call)
set_option maxHeartbeats 4000000 in
set_option maxRecDepth 100000 in
theorem fcmp_eq{w:World}{v u:Value}{s s':Bool}{n d n' d':Nat}(h:Fr w v s n d)(h':Fr w u s' n' d')(heq:sgn s n=sgn s' n')
 (b1:n<Big)(b2:d<Big)(b3:n'<Big)(b4:d'<Big)(b5:n*d'<Big):
 Calls Tryz.prog 62 #[v,u] w fun e w'=>e= .returned (.int .i64 (if s then-cmpInt (n*d') (n'*d) else cmpInt (n*d') (n'*d)))∧Kept w w':=by
 have hs:=fun(w':World)(k:Kept w w')=>sign_calls (h.kept k)
 have hs':=fun(w':World)(k:Kept w w')=>sign_calls (h'.kept k)
 obtain⟨vn,vd,rfl,hn,hd⟩:=h
 obtain⟨a,nn,capn,rfl⟩:=hn.shape
 obtain⟨ad,nd,capd,rfl⟩:=hd.shape
 obtain⟨vn',vd',rfl,hn',hd'⟩:=h'
 obtain⟨a',nn',capn',rfl⟩:=hn'.shape
 obtain⟨ad',nd',capd',rfl⟩:=hd'.shape
 rw[←heq] at hs'
 clear heq
 generalize sgn s n=x at*
 have hb1:=Blk3.new w (.bool s) (.slice a nn capn) (.slice ad nd capd) 129
 have hb2:=Blk3.new (w.alloc (.cells #[.bool s,.slice a nn capn,.slice ad nd capd] 129)) (.bool s') (.slice a' nn' capn') (.slice ad' nd' capd') 129
 have hk1:Kept w ((w.alloc (.cells #[.bool s,.slice a nn capn,.slice ad nd capd] 129)).alloc (.cells #[.bool s',.slice a' nn' capn',.slice ad' nd' capd'] 129)):=((Kept.refl _).alloc _).alloc _
 have hb1':=hb1.kept ((Kept.refl _).alloc (.cells #[.bool s',.slice a' nn' capn',.slice ad' nd' capd'] 129))
 clear hb1
 have esz:(w.alloc (.cells #[.bool s,.slice a nn capn,.slice ad nd capd] 129)).heap.size=w.heap.size+1:=by simp[go_sem]
 rw[esz] at hb2
 clear esz
 have tne:(x != x)=false:=by simp
 have hcr:(-1≤cmpInt (n*d') (n'*d))∧cmpInt (n*d') (n'*d)≤1:=by unfold cmpInt;split<;>(try split)<;>omega
 go_enter Tryz.func62,Tryz.ntmps62
 go_wp2_with fail
 generalize (w.alloc (.cells #[.bool s,.slice a nn capn,.slice ad nd capd] 129)).alloc (.cells #[.bool s',.slice a' nn' capn',.slice ad' nd' capd'] 129)=w1 at*
 generalize w.heap.size=b0 at*
 obtain⟨p0,p1,p2⟩:=hb1'.all
 obtain⟨q0,q1,q2⟩:=hb2.all
 refine wp_region_kw w1 (Kept.refl _) (by kernel_rfl) (by kernel_rfl) ?_
 repeat (go_big_quiet_step (first|(go_at_call_of 134 (Value.agg #[Value.bool s,Value.slice a nn capn,Value.slice ad nd capd]);exact kw_call (hs _ (hk1.trans (KW.kept _))))|(go_at_call 134;exact kw_call (hs' _ (hk1.trans (KW.kept _))))))
 refine wpQuiet_nil ?_
 rintro _ ⟨k2,rfl⟩
 go_wp2_with fail
 clear p0 p1 p2 q0 q1 q2
 have hk2:=k2.kept
 generalize k2.w=w2 at*
 obtain⟨p0,p1,p2,_,_,_⟩:=(hb1'.kept hk2).facts
 obtain⟨q0,q1,q2,_,_,_⟩:=(hb2.kept hk2).facts
 have hkw2:=hk1.trans hk2
 have hall:∀w',Kept w2 w'→Kept w2 w'∧w'.cell? ⟨b0,1,none⟩=some (.slice a nn capn)∧w'.cell? ⟨b0,2,none⟩=some (.slice ad nd capd)∧w'.cell? ⟨b0+1,1,none⟩=some (.slice a' nn' capn')∧w'.cell? ⟨b0+1,2,none⟩=some (.slice ad' nd' capd'):=
  fun w' k=>⟨k,k.cell p1,k.cell p2,k.cell q1,k.cell q2⟩
 have HALL:=Lib.hid hall;clear hall
 go_region_held3 (fun w'=>Kept w2 w'∧w'.cell? ⟨b0,1,none⟩=some (.slice a nn capn)∧w'.cell? ⟨b0,2,none⟩=some (.slice ad nd capd)∧w'.cell? ⟨b0+1,1,none⟩=some (.slice a' nn' capn')∧w'.cell? ⟨b0+1,2,none⟩=some (.slice ad' nd' capd'))
  (first|exact HALL.out _ (Kept.refl _).drew|exact HALL.out _ ‹Kept w2 _›)
  (first|(go_at_call_of 135 (Value.slice a nn capn);refine(mul_calls (hn.kept hkw2.drew) (hd'.kept hkw2.drew) b1 b4).mono ?_;rintro e w3 ⟨v3,rfl,hv3,hk3⟩;have hS3:Kept w2 w3:=(Kept.refl w2).drew.trans hk3)|(go_at_call_of 135 (Value.slice a' nn' capn');refine(mul_calls (hn'.kept (hkw2.trans hS3)) (hd.kept (hkw2.trans hS3)) b3 b2).mono ?_;rintro e w4 ⟨v4,rfl,hv4,hk4⟩;have hS4:Kept w2 w4:=hS3.trans hk4)|(go_at_call 136;refine(cmp_calls (.inr rfl) (hv3.kept hk4) hv4 b5).mono ?_;rintro e w5 ⟨rfl,hk5⟩;have hS5:Kept w2 w5:=hS4.trans hk5))
 have p05:=hS5.cell p0
 have hfin:=hkw2.trans hS5
 obtain⟨hc1,hc2⟩:=hcr
 clear HALL hs hs' p0 p1 p2 q0 q1 q2 tne hv3 hv4 hk3 hk4 hk5 hS3 hS4 hS5
 generalize hci:cmpInt (n*d') (n'*d)=ci at*
 have HCI:=Lib.hid hci;clear hci
 cases s
 ·go_wp2
  go_ret
  exact⟨by rw[HCI.out];rfl,hfin⟩
 ·go_wp2
  go_ret
  exact⟨by rw[HCI.out];rfl,hfin⟩
theorem fcmp_calls{w:World}{v u:Value}{s s':Bool}{n d n' d':Nat}(h:Fr w v s n d)(h':Fr w u s' n' d')
 (b1:n<Big)(b2:d<Big)(b3:n'<Big)(b4:d'<Big)(b5:n*d'<Big):
 Calls Tryz.prog 62 #[v,u] w fun e w'=>e= .returned (.int .i64 (fcmp s n d s' n' d'))∧Kept w w':=by
 by_cases heq:sgn s n=sgn s' n'
 ·unfold fcmp
  rw[if_neg (by simpa using heq)]
  exact fcmp_eq h h' heq b1 b2 b3 b4 b5
 ·unfold fcmp
  rw[if_pos heq]
  exact fcmp_ne h h' heq
end
section
open Go.Eng (Kept KW KeptB wp_region_kw kw_call)
def Raw(w:World)(v:Value)(m:Nat):Prop:=
 ∃(a:Option Addr)(n cap:Nat)(zs:Nat→Nat),v= .slice a n cap∧n≤cap∧n≤4194304∧(∀i,i<n→zs i<4294967296)∧val 4294967296 zs n=m∧Ws w a n zs
theorem Raw.kept{w w':World}{v:Value}{m:Nat}(h:Raw w v m)(k:Kept w w'):Raw w' v m:=by
 obtain⟨a,n,cap,zs,h1,h2,h3,h4,h5,h6⟩:=h
 exact⟨a,n,cap,zs,h1,h2,h3,h4,h5,h6.kept k⟩
def Rt(w:World)(v:Value)(neg:Bool)(N D:Nat):Prop:=∃vn vd,v= .agg #[.bool neg,vn,vd]∧Raw w vn N∧Raw w vd D
theorem Rt.kept{w w':World}{v:Value}{neg:Bool}{N D:Nat}(h:Rt w v neg N D)(k:Kept w w'):Rt w' v neg N D:=by
 obtain⟨vn,vd,h1,h2,h3⟩:=h
 exact⟨vn,vd,h1,h2.kept k,h3.kept k⟩
def dn(D:Nat):Nat:=if D=0 then 1 else D
def rN(N D:Nat):Nat:=N/Nat.gcd N (dn D)
def rD(N D:Nat):Nat:=dn D/Nat.gcd N (dn D)
def small(N D:Nat):Bool:=decide (N<pwr 2 8192)&&decide (D<pwr 2 8192)&&fits32 (rN N D)&&fits32 (rD N D)
def RetRead(neg:Bool)(N D:Nat)(w:World)(e:Ending)(w':World):Prop:=
 ∃p a n c a' n' c',e= .returned (.tuple #[.agg #[.bool p,.slice a n c,.slice a' n' c'],.bool (small N D)])∧Kept w w'∧
  (small N D=true→Fr w' (.agg #[.bool p,.slice a n c,.slice a' n' c']) (neg&&decide (0<N)) (rN N D) (rD N D))
theorem p8192:(4294967296:Nat)^256=pwr 2 8192:=pwr32 256 8192 rfl
theorem trim_len_iff{zs:Nat→Nat}{n L:Nat}(hd:∀i,i<n→zs i<4294967296):trimN zs n≤L↔val 4294967296 zs n<4294967296^L:=by
 rw[len_le_iff (fun i hi=>hd i (Nat.lt_of_lt_of_le hi (trimN_le zs n))) (trimN_norm zs n),trimN_val]
theorem of_raw{w:World}{a:Option Addr}{n cap:Nat}{zs:Nat→Nat}(h1:n≤cap)(h2:n≤4194304)(h:Ws w a n zs):
 Calls Tryz.prog 130 #[.slice a n cap] w fun e w'=>e= .returned (.slice a (trimN zs n) cap)∧Kept w w':=
 (of_calls w a n cap zs (by omega) h1 h).mono fun e w' ⟨h1,h2⟩=>⟨h1,h2▸Kept.refl _⟩
set_option maxHeartbeats 4000000 in
set_option maxRecDepth 100000 in
theorem read_large{w:World}{v:Value}{neg:Bool}{N D:Nat}(h:Rt w v neg N D)(hl:¬(N<pwr 2 8192∧D<pwr 2 8192)):
 Calls Tryz.prog 61 #[v] w (RetRead neg N D w):=by
 have hsm:small N D=false:=by unfold small;simp;omega
 obtain⟨vn,vd,rfl,hn,hd⟩:=h
 obtain⟨a,n,cap,xs,rfl,hc1,hn1,hxl,rfl,hxw⟩:=hn
 obtain⟨a',n',cap',ys,rfl,hc2,hn2,hyl,rfl,hyw⟩:=hd
 rw[←p8192,←trim_len_iff hxl,←trim_len_iff hyl] at hl
 have hb1:=Blk3.new w (.bool neg) (.slice a n cap) (.slice a' n' cap') 24
 have hb2:=Blk3.new (w.alloc (.cells #[.bool neg,.slice a n cap,.slice a' n' cap'] 24)) (.bool false) (.slice none 0 0) (.slice none 0 0) 129
 have hk1:Kept w ((w.alloc (.cells #[.bool neg,.slice a n cap,.slice a' n' cap'] 24)).alloc (.cells #[.bool false,.slice none 0 0,.slice none 0 0] 129)):=((Kept.refl _).alloc _).alloc _
 have hb1':=hb1.kept ((Kept.refl _).alloc (.cells #[.bool false,.slice none 0 0,.slice none 0 0] 129))
 clear hb1
 have esz:(w.alloc (.cells #[.bool neg,.slice a n cap,.slice a' n' cap'] 24)).heap.size=w.heap.size+1:=by simp[go_sem]
 rw[esz] at hb2
 clear esz
 have ho1:=fun(w':World)(k:Kept w w')=>of_raw hc1 hn1 (hxw.kept k)
 have ho2:=fun(w':World)(k:Kept w w')=>of_raw hc2 hn2 (hyw.kept k)
 have hle1:=trimN_le xs n
 have hle2:=trimN_le ys n'
 go_enter Tryz.func61,Tryz.ntmps61
 go_wp2_with fail
 generalize (w.alloc (.cells #[.bool neg,.slice a n cap,.slice a' n' cap'] 24)).alloc (.cells #[.bool false,.slice none 0 0,.slice none 0 0] 129)=w1 at*
 generalize hbE:w.heap.size=b0 at hb2 hb1'⊢
 have HBE:=Lib.hid hbE;clear hbE
 obtain⟨p0,p1,p2⟩:=hb1'.all
 refine wp_region_kw w1 (Kept.refl _) (by kernel_rfl) (by kernel_rfl) ?_
 repeat (go_big_quiet_step (first|(go_at_call_of 130 (Value.slice a n cap);exact kw_call (ho1 _ (hk1.trans (KW.kept _))))|(go_at_call 130;exact kw_call (ho2 _ (hk1.trans (KW.kept _))))))
 refine wpQuiet_nil ?_
 rintro _ ⟨k2,rfl⟩
 clear p0 p1 p2
 have hk2:=k2.kept
 generalize k2.w=w2 at*
 have hbl2:=hb2.kept hk2
 obtain⟨c0,c1,c2,f0,f1,f2⟩:=hbl2.facts
 have hfin:Kept w (((w2.setCell ⟨b0+1,0,none⟩ (.bool false)).setCell ⟨b0+1,1,none⟩ (.slice none 0 0)).setCell ⟨b0+1,2,none⟩ (.slice none 0 0)):=(hk1.trans hk2).but (KeptB.store3 ..) (by have:=HBE.out;omega)
 by_cases ht:trimN xs n≤256
 ·have t1:decide (256<(trimN xs n:Int))=false:=by simp;omega
  have t2:decide (256<(trimN ys n':Int))=true:=by simp;omega
  go_wp2
  refine bodyPost_ret (v:=.tuple #[.agg #[.bool false,.slice none 0 0,.slice none 0 0],.bool false]) (by simp[results,Tryz.results61,go_sem,c0,c1,c2]) rfl ⟨false,none,0,0,none,0,0,by rw[hsm],hfin,fun h=>by rw[hsm] at h;cases h⟩
 ·have t1:decide (256<(trimN xs n:Int))=true:=by simp;omega
  go_wp2
  refine bodyPost_ret (v:=.tuple #[.agg #[.bool false,.slice none 0 0,.slice none 0 0],.bool false]) (by simp[results,Tryz.results61,go_sem,c0,c1,c2]) rfl ⟨false,none,0,0,none,0,0,by rw[hsm],hfin,fun h=>by rw[hsm] at h;cases h⟩
end
end Go.Proofs.YtancebninmoipaaGreatDoor
