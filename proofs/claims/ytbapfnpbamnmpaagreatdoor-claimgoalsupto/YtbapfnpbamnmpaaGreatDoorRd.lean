/- A part of the proof that ClaimGoals answers true for every input of bulk at most 1048576: conditions: the row's own. -/
import Derived.Test.YtbapfnpbamnmpaaGreatDoorWd
import Derived.Test.YtbapfnpbamnmpaaGreatDoorRc
import Derived.Deep.RegionHeld3
import Derived.Deep.LoopGhost
section
namespace Go.Dig
theorem ndivisor_facts{ys:Nat→Nat}{n s:Nat}(hn:0<n)(hy:∀i,i<n→ys i<65536)(h2:32768≤ys (n-1)*2^s)(h3:(ys (n-1)+1)*2^s≤65536):
 32768*65536^(n-1)≤val 65536 ys n*2^s∧val 65536 ys n*2^s<65536^n:=by
 obtain⟨k,rfl⟩:∃k,n=k+1:=⟨n-1,by omega⟩
 simp only[Nat.add_sub_cancel] at*
 have hv:=val_lt (B:=65536) (n:=k) fun i hi=>hy i (by omega)
 simp only[val]
 rw[Nat.pow_succ]
 have hS:0<2^s:=Nat.pow_pos (by decide)
 generalize 2^s=S at*
 generalize (65536:Nat)^k=P at*
 generalize val 65536 ys k=V at*
 generalize ys k=t at*
 constructor
 ·have e1:32768*P≤t*S*P:=Nat.mul_le_mul_right _ h2
  have e2:(V+t*P)*S=V*S+t*S*P:=by grind
  omega
 ·have e1:(V+t*P)*S<(t+1)*P*S:=Nat.mul_lt_mul_of_pos_right (by rw[Nat.add_mul];omega) hS
  have e2:(t+1)*P*S=(t+1)*S*P:=by grind
  have e3:(t+1)*S*P≤65536*P:=Nat.mul_le_mul_right _ h3
  have e4:65536*P=P*65536:=Nat.mul_comm ..
  omega
theorem ndivisor_digits{ds:Nat→Nat}{n nd D:Nat}(hn:0<n)(hd:∀i,i<nd→ds i<65536)(hnm:norm ds nd)(hv:val 65536 ds nd=D)
 (h1:32768*65536^(n-1)≤D)(h2:D<65536^n):nd=n∧65536≤2*ds (n-1):=by
 have e:nd=n:=by
  have a:=len_le_of_lt (B:=65536) (by decide) hnm (by rw[hv];exact h2)
  by_cases h:nd<n
  ·have b:=val_lt hd
   have c:(65536:Nat)^nd≤65536^(n-1):=Nat.pow_le_pow_right (by decide) (by omega)
   have:0<(65536:Nat)^(n-1):=Nat.pow_pos (by decide)
   omega
  ·omega
 subst e
 refine⟨rfl,?_⟩
 obtain⟨k,rfl⟩:∃k,nd=k+1:=⟨nd-1,by omega⟩
 simp only[Nat.add_sub_cancel] at*
 have b:=val_lt (B:=65536) (n:=k) fun i hi=>hd i (by omega)
 have e2:val 65536 ds (k+1)=val 65536 ds k+ds k*65536^k:=rfl
 have e3:32768*65536^k<(ds k+1)*65536^k:=by rw[Nat.add_mul];omega
 have:=Nat.lt_of_mul_lt_mul_right e3
 omega
theorem shl_room{y s:Nat}(hs:s≤16)(h:y*2^s<65536):(y+1)*2^s≤65536:=by
 have e:65536=2^(16-s)*2^s:=by rw[←Nat.pow_add,show 16-s+s=16 by omega]
 rw[e] at h⊢
 exact Nat.mul_le_mul_right _ (Nat.lt_of_mul_lt_mul_right h)
theorem ndividend_lt{M D ns n:Nat}(hM:M<65536^ns)(hn:0<n)(hns:n≤ns)(hD:32768*65536^(n-1)≤D):M<D*65536^(ns+1-n):=by
 have a:32768*65536^(n-1)*65536^(ns+1-n)≤D*65536^(ns+1-n):=Nat.mul_le_mul_right _ hD
 rw[Nat.mul_assoc,←Nat.pow_add,show n-1+(ns+1-n)=ns by omega] at a
 have hp:0<(65536:Nat)^ns:=Nat.pow_pos (by decide)
 omega
end Go.Dig
end
section
namespace Go.Proofs.YtbapfnpbamnmpaaGreatDoor
open Go Go.RowKit Go.Dig
open Go.Eng (Kept KW KeptB)
def NRetQR(q r:Nat)(w:World)(e:Ending)(w':World):Prop:=∃v u,e= .returned (.tuple #[v,u])∧Nt 65536 w' v q∧Nt 65536 w' u r∧Kept w w'
set_option maxHeartbeats 1000000 in
set_option maxRecDepth 100000 in
theorem ndiv_less{w:World}{v u:Value}{m k:Nat}(hv:Nt 65536 w v m)(hu:Nt 65536 w u k)(hm:m<Big)(h:m<k):
 Calls Tryz.prog 301 #[v,u] w (NRetQR 0 m w):=by
 have hcm:cmpInt m k= -1:=by simp[cmpInt,h]
 have hcc:=ncmp_calls (.inl rfl) hv hu hm
 rw[hcm] at hcc
 obtain⟨b,n',cap',ys,rfl,_,_,_,rfl,_⟩:=hu
 obtain⟨a,n,cap,xs,rfl,hc,hd,hn,rfl,hw⟩:=hv
 have hl:=len_big (.inl rfl) hn hm
 have hn':n'≠0:=by rintro rfl;simp[val] at h
 have q0:((n':Int)==0)=false:=by simp;omega
 have HD:=Lib.hid hd
 have HN:=Lib.hid hn
 clear h hcm hm hd hn
 go_enter Tryz.func301,Tryz.ntmps301
 go_wp2_with(first|(go_at_call 364;refine hcc.mono ?_;rintro e w1 ⟨rfl,hk1⟩;have hk0:Kept w (w1.alloc (.cells #[] 191)):=hk1.alloc _;have hap0:Ap (w1.alloc (.cells #[] 191)) w.heap.size (.slice (some ⟨w1.heap.size,0,none⟩) 0 0) 0 (fun _=>0):=World.ownsRow_made w1 _ 0 hk1.size (by unfold maxLen;omega) (by simp))|(at_builtin;refine wpList_append_list rfl (.tmp 21) (.tmp 22) 95 rfl Tryz.underlying95 w hk0 _ 0 0 (fun _=>0) rfl hap0 a n cap xs rfl (hw.kept hk0) (by omega) ?_;intro v' w2 hap2 hkw2))
 go_ret2
 rw[Nat.zero_add] at hap2
 obtain⟨av,capv,rfl,hcapv,hwsv⟩:=(hap2.congr (ys:=xs) fun i hi=>by simp[cat]).ws
 exact⟨_,_,rfl,nt_zero _ _ _ _,⟨av,n,capv,xs,rfl,hcapv,HD.out,HN.out,rfl,hwsv⟩,hkw2⟩
set_option maxHeartbeats 1000000 in
set_option maxRecDepth 100000 in
theorem ndiv_one{w:World}{v u:Value}{m k:Nat}(hv:Nt 65536 w v m)(hu:Nt 65536 w u k)(hm:m<Big)(h:k≤m)(hk0:0<k)(hk:k<65536):
 Calls Tryz.prog 301 #[v,u] w (NRetQR (m/k) (m%k) w):=by
 have hcm:0≤cmpInt m k:=by unfold cmpInt;split<;>(try split)<;>omega
 have huu:=hu
 obtain⟨a,n,cap,xs,rfl,hc,hxd,hn,hval,hw⟩:=hu
 obtain rfl:n=1:=by
  have h1:=len_le_of_lt (B:=65536) (L:=1) (by decide) hn (by rw[hval];simpa using hk)
  have h2:n≠0:=by rintro rfl;simp[val] at hval;omega
  omega
 obtain rfl:xs 0=k:=by rw[←hval];simp[val]
 obtain⟨b,off,rfl,hcell⟩:=hw 0 (by omega)
 have hcell0:w.cell? ⟨b,off,none⟩=some (.int .u32 (xs 0:Nat)):=hcell
 clear hcell hxd hn hw hval
 have hcc:=ncmp_calls (.inl rfl) hv huu hm
 generalize cmpInt m (xs 0)=ci at*
 go_enter Tryz.func301,Tryz.ntmps301
 go_wp2_with(go_at_call 364;refine hcc.mono ?_;rintro e w1 ⟨rfl,hk1⟩;have hcell1:=hk1.cell hcell0)
 have hdv:=nsmall_calls (hv.kept hk1) hm hk0 hk
 have hr:m%xs 0<18446744073709551616:=by have:=Nat.mod_lt m hk0;omega
 have hr2:m%xs 0<65536:=by have:=Nat.mod_lt m hk0;omega
 generalize m%xs 0=r at*
 generalize m/xs 0=q at*
 refine hdv.mono ?_
 rintro e w2 ⟨v2,rfl,hv2,hk2⟩
 go_wp2_with(go_at_call 214;refine(natof_calls w2 r hr).mono ?_;rintro e w3 ⟨v3,rfl,hv3,hk3⟩)
 go_ret2
 exact⟨_,_,rfl,hv2.kept hk3,hv3,(hk1.trans hk2).trans hk3⟩
end Go.Proofs.YtbapfnpbamnmpaaGreatDoor
end
section
namespace Go.Proofs.YtbapfnpbamnmpaaGreatDoor
open Go Go.RowKit Go.Dig
open Go.Eng (Kept KW KeptB)
def Mid:Nat:=pwr 2 16000
theorem mid_shl{m s:Nat}(hm:m<Mid)(hs:s≤15):m*2^s*65536<Big:=by
 have h1:2^s≤2^15:=Nat.pow_le_pow_right (by decide) hs
 have h2:m*2^s*65536≤m*2^15*65536:=Nat.mul_le_mul_right _ (Nat.mul_le_mul_left _ h1)
 have h3:m*2^15*65536<Mid*2^15*65536:=Nat.mul_lt_mul_of_pos_right (Nat.mul_lt_mul_of_pos_right hm (by decide)) (by decide)
 have h4:Mid*2^15*65536≤Big:=by
  have e1:(2:Nat)^15=pwr 2 15:=(pwr_eq 2 15).symm
  have e2:(65536:Nat)=pwr 2 16:=by rw[pwr_eq]
  unfold Mid
  rw[e1,e2,pwr_add 16000 15 16015 rfl,pwr_add 16015 16 16031 rfl]
  exact pwr_le 16031 16384 (by decide)
 exact Nat.lt_of_lt_of_le (Nat.lt_of_le_of_lt h2 h3) h4
theorem mid_big{m:Nat}(hm:m<Mid):m<Big:=by
 have h:=mid_shl hm (s:=0) (by decide)
 rw[Nat.pow_zero,Nat.mul_one] at h
 exact Nat.lt_of_le_of_lt (Nat.le_mul_of_pos_right m (by decide)) h
theorem shl_le15{y t:Nat}(h0:0<y)(h:y*2^t<65536):t≤15:=by
 have h1:2^t≤y*2^t:=Nat.le_mul_of_pos_left _ h0
 have h2:2^t<2^16:=Nat.lt_of_le_of_lt h1 h
 have:=(Nat.pow_lt_pow_iff_right (by decide:1<2)).1 h2
 omega
theorem trimk_calls(w:World)(a:Option Addr)(n cap:Nat)(zs:Nat→Nat)(hn:n≤4611686018427387904)(hcap:n≤cap)(h:Ws w a n zs):
 Calls Tryz.prog 304 #[.slice a n cap] w fun e w'=>e= .returned (.slice a (trimN zs n) cap)∧Kept w w':=
 (trim_calls w a n cap zs hn hcap h).mono fun _ _ ⟨h1,h2⟩=>⟨h1,h2▸Kept.refl _⟩
theorem ld_done2{B D n M Q L:Nat}{us qs:Nat→Nat}(h:LD B D n M Q L 0 us qs):val B us n=M%D:=by
 have hl:=h.lt
 have he:=h.eq
 simp only[Nat.zero_add,Nat.pow_zero,Nat.mul_one] at hl he
 rw[←he,Nat.add_mul_mod_self_right,Nat.mod_eq_of_lt hl]
set_option maxHeartbeats 4000000 in
set_option maxRecDepth 100000 in
theorem ndiv_long{w:World}{v:Value}{m:Nat}(n b off cap:Nat)(ys:Nat→Nat)
 (hv:Nt 65536 w v m)(hm:m<Mid)
 (hu:Nt 65536 w (.slice (some ⟨b,off,none⟩) n cap) (val 65536 ys n))
 (hn:2≤n)(hn1:n≤1024)(_hk0:0<val 65536 ys n)(hyl:∀i,i<n→ys i<65536)(hyt:0<ys (n-1))
 (hy:∀i,i<n→w.cell? ⟨b,off+i,none⟩=some (.int .u32 (ys i:Nat)))(hk:val 65536 ys n<Mid)(hle:val 65536 ys n≤m):
 Calls Tryz.prog 301 #[v,.slice (some ⟨b,off,none⟩) n cap] w (NRetQR (m/val 65536 ys n) (m%val 65536 ys n) w):=by
 have hcm:0≤cmpInt m (val 65536 ys n):=by unfold cmpInt;split<;>(try split)<;>omega
 have hcc:=ncmp_calls (.inl rfl) hv hu (mid_big hm)
 generalize cmpInt m (val 65536 ys n)=ci at*
 have hytl:=hyl (n-1) (by omega)
 have c1:=hy (n-1) (by omega)
 have HYL:=Lib.hid hyl;clear hyl
 have HY:=Lib.hid hy;clear hy
 have HM:=Lib.hid hm;clear hm
 have HK:=Lib.hid hk;clear hk
 have q0:((n:Int)==0)=false:=by simp;omega
 have q1:((n:Int)==1)=false:=by simp;omega
 obtain⟨y,hye⟩:∃y,y=ys (n-1):=⟨_,rfl⟩
 rw[←hye] at hyt hytl c1
 have HYE:=Lib.hid hye;clear hye
 go_enter Tryz.func301,Tryz.ntmps301
 go_wp2_with(go_at_call 364;refine hcc.mono ?_;rintro e w1 ⟨rfl,hk1⟩;have c2:=hk1.cell c1)
 go_loop [8] (fun sv=>∃t:Nat,sv= .int .i64 (t:Int)∧y*2^t<65536) (fun sv=>16-(intOf sv).toNat)
 case atStart=>exact⟨0,rfl,by simpa using hytl⟩
 case round=>
  obtain⟨s,rfl,hys⟩:=hrel
  have hs15:=shl_le15 hyt hys
  obtain⟨p,hp⟩:∃p,y*2^s=p:=⟨_,rfl⟩
  have hsh:(y:Int)*2^s%4294967296=(p:Int):=by
   rw[show(y:Int)*2^s=((y*2^s:Nat):Int) by simp,hp]
   exact mod_id (by omega)
  rw[hp] at hys
  have HP:=Lib.hid hp;clear hp
  by_cases hlt:p<32768
  ·have t1:decide ((p:Int)<32768)=true:=by simp;omega
   have HLT:=Lib.hid hlt;clear hlt
   have HYS:=Lib.hid hys;clear hys
   go_wp2
   go_round
   case rel=>exact⟨s+1,by go_num,by rw[Nat.pow_succ,←Nat.mul_assoc,HP.out];have:=HLT.out;omega⟩
   case measure=>simp[intOf];omega
  ·have t1:decide ((p:Int)<32768)=false:=by simp;omega
   have hroom:(y+1)*2^s≤65536:=shl_room (by omega) (by rw[HP.out];exact hys)
   obtain⟨hD1,hD2⟩:=ndivisor_facts (n:=n) (s:=s) (by omega) HYL.out (by rw[←HYE.out,HP.out];omega) (by rw[←HYE.out];exact hroom)
   have hKB:=mid_shl HK.out hs15
   have hMB:=mid_shl HM.out hs15
   generalize hke:val 65536 ys n=k at*
   clear hlt hys hroom
   go_wp2_with fail
   clear t1 hsh
   refine(nshl_calls (hu.kept hk1) (mid_big HK.out) hs15).mono ?_
   rintro e w2 ⟨vd,rfl,hvd,hk2⟩
   obtain⟨ad,nd,capd,ds,rfl,hcd,hdl,hdn,hdv,hdw⟩:=hvd
   obtain⟨rfl,hdt⟩:=ndivisor_digits (n:=n) (by omega) hdl hdn hdv hD1 hD2
   have hns:∀(ss:Nat→Nat)(ns:Nat),(∀i,i<ns→ss i<65536)→norm ss ns→val 65536 ss ns=m*2^s→nd≤ns∧ns≤1024:=fun ss ns h1 h2 h3=>by
    constructor
    ·by_cases h:ns<nd
     ·have a:=val_lt h1
      have b:(65536:Nat)^ns≤65536^(nd-1):=Nat.pow_le_pow_right (by decide) (by omega)
      have c:k*2^s≤m*2^s:=Nat.mul_le_mul_right _ hle
      have d:0<(65536:Nat)^(nd-1):=Nat.pow_pos (by decide)
      omega
     ·omega
    ·exact len_big (.inl rfl) h2 (by rw[h3];exact Nat.lt_of_le_of_lt (Nat.le_mul_of_pos_right _ (by decide)) hMB)
   have HNS:=Lib.hid hns;clear hns
   have HD1:=Lib.hid hD1;clear hD1
   have HD2:=Lib.hid hD2;clear hD2
   have HKB:=Lib.hid hKB;clear hKB
   have HMB:=Lib.hid hMB;clear hMB
   have HDL:=Lib.hid hdl;clear hdl
   have HDN:=Lib.hid hdn;clear hdn
   have HDV:=Lib.hid hdv;clear hdv
   have HDT:=Lib.hid hdt;clear hdt
   have HLE:=Lib.hid hle;clear hle
   go_wp2_with fail
   refine(nshl_own ((hv.kept hk1).kept hk2) (mid_big HM.out) hs15).mono ?_
   rintro e w3 ⟨vs,ns,ss,rfl,hap,hsl,hsn,hsv,hk3⟩
   obtain⟨hns1,hns2⟩:=HNS.out ss ns hsl hsn hsv
   have HSL:=Lib.hid hsl;clear hsl
   have HSV:=Lib.hid hsv;clear hsv
   clear hsn HNS
   have hap1:=hap.alloc (Obj.cells #[Value.int IntKind.u32 ((0:Nat):Int)] 191)
   have hkw1:Kept w2 (w3.alloc (Obj.cells #[Value.int IntKind.u32 ((0:Nat):Int)] 191)):=hk3.alloc _
   have hws1:=ws_one w3 0
   rw[show((0:Nat):Int)=0 from rfl] at hap1 hkw1 hws1
   obtain⟨sa,caps,rfl,hcaps,_⟩:=hap.ws
   have hmk:=fun w=>run_make_row' (P:=Tryz.prog) 95 191 (.int .u32 0) 4 Tryz.underlying95 info191 rfl .i64 .i64 (ns+1-nd) (by omega) (by omega) w
   have ec:((ns+1-nd:Nat):Int)=(ns:Int)+1-(nd:Int):=by omega
   rw[ec] at hmk
   clear ec
   go_wp2_with(at_builtin;refine wpList_append_words rfl (.tmp 56) (.tmp 57) 95 rfl Tryz.underlying95 w2 hkw1 _ ns ss rfl hap1 ⟨w3.heap.size,0,none⟩ 1 1 (fun _=>0) rfl hws1 (by omega) ?_;intro v4 w4 hap4 hk4;obtain⟨bu,capu,rfl,hcapu,hbu,hrow⟩:=hap4.rowP (by omega))
   clear hmk
   have hrow0:RowP w4 bu (ns+1) (cat ss ns fun _=>0):=hrow
   have hkw4:Kept w w4:=((hk1.trans hk2).trans hk4)
   have hkw5:=hkw4.alloc (.cells (madeCells #[.int .u32 0] (ns+1-nd)) 191)
   have hrq:=Row.made w4 (ns+1-nd)
   have hru:=hrow0.kept ((Kept.refl w4).alloc (.cells (madeCells #[.int .u32 0] (ns+1-nd)) 191))
   have hdw4:=(hdw.kept hk4).kept ((Kept.refl w4).alloc (.cells (madeCells #[.int .u32 0] (ns+1-nd)) 191))
   have hbqu:w4.heap.size≠bu:=Nat.ne_of_gt hrow0.lt
   have hbuw:w.heap.size≤bu:=Nat.le_trans (hk1.trans hk2).size hbu
   have hsz:w.heap.size≤w4.heap.size:=hkw4.size
   have hbd:∀i,i<nd→∃b off,ad=some ⟨b,off,none⟩∧b≠bu∧b≠w4.heap.size:=fun i hi=>by
    obtain⟨b',off',e,hcel⟩:=hdw i hi
    have hlt:=World.block_lt_of_cell? _ _ hcel
    have h4:=hk4.size
    exact⟨b',off',e,by intro e2;subst e2;exact absurd hbu (Nat.not_le_of_gt hlt),by intro e2;subst e2;exact absurd h4 (Nat.not_le_of_gt hlt)⟩
   have HBD:=Lib.hid hbd;clear hbd
   have hval:val 65536 (cat ss ns fun _=>0) (ns+1)=m*2^s:=by rw[cat_val,Nat.zero_mul,Nat.add_zero];exact HSV.out
   have hld:LD 65536 (k*2^s) nd (m*2^s) (ns+1-nd) (ns+1) (ns+1-nd) (cat ss ns fun _=>0) (fun _=>0):=by
    refine LD.start (by decide) (by omega) (cat_lt HSL.out (by decide)) ?_ hval
    rw[←HSV.out]
    exact ndividend_lt (val_lt HSL.out) (by omega) hns1 HD1.out
   have hDp:0<k*2^s:=Nat.lt_of_lt_of_le (Nat.mul_pos (by decide) (Nat.pow_pos (by decide))) HD1.out
   have hDn:k*2^s≤65536^nd:=Nat.le_of_lt HD2.out
   have hDP:=Lib.hid hDp;clear hDp
   have hDN:=Lib.hid hDn;clear hDn
   generalize w4.heap.size=bq at*
   clear hap hap1 hkw1 hws1 hap4 hrow hrow0 hdw hval hk4 hk3 hv hu hk1 hk2 c1 c2 hkw4
   go_loopw [13] (fun jv wr=>∃(t:Nat)(us qs:Nat→Nat),t≤ns+1-nd∧jv= .int .i64 ((t:Int)-1)∧LD 65536 (k*2^s) nd (m*2^s) (ns+1-nd) (ns+1) t us qs∧RowP wr bu (ns+1) us∧Row wr bq (ns+1-nd) qs∧Ws wr ad nd ds∧Kept w wr) (fun jv _=>(intOf jv+1).toNat)
   case atStart=>exact⟨ns+1-nd,_,_,Nat.le_refl _,by first|rfl|go_num|(congr 1;omega),hld,hru,hrq,hdw4,hkw5⟩
   case round=>
    clear hld hru hrq hdw4 hkw5
    obtain⟨t,us,qs,ht,rfl,hld,hru,hrq,hdw,hkw⟩:=hrel
    have HLD:=Lib.hid hld;clear hld
    cases t with
    |zero=>
     have hdone:=HLD.out.done (by omega)
     have hlu:=HLD.out.ult
     have hlq:=HLD.out.qlt
     have hMD:m*2^s/(k*2^s)=m/k∧m*2^s%(k*2^s)=m%k*2^s:=⟨Nat.mul_div_mul_right _ _ (Nat.pow_pos (by decide)),Nat.mul_mod_mul_right ..⟩
     have hdone2:=ld_done2 HLD.out
     rw[hMD.1] at hdone
     rw[hMD.2] at hdone2
     have hd1:=hdone.1
     have hrem:m%k*2^s<Big:=Nat.lt_of_le_of_lt (Nat.mul_le_mul_right _ (Nat.mod_le m k)) (Nat.lt_of_le_of_lt (Nat.le_mul_of_pos_right _ (by decide)) HMB.out)
     have HREM:=Lib.hid hrem
     have HD1:=Lib.hid hd1
     have HD2:=Lib.hid hdone2
     have HLU:=Lib.hid hlu
     have HLQ:=Lib.hid hlq
     clear hdone hMD hrem hd1 hdone2 hlu hlq
     have b1:(nd:Int)≤(capu:Int):=by omega
     have b2:(0:Int)≤(nd:Int):=by omega
     go_wp2_with fail
     go_region_held3 (fun w'=>Kept wr w')
      (first|exact(Kept.refl wr).drew|exact ‹Kept wr _›)
      (first|(go_at_call 304;refine(trimk_calls _ _ nd capu us (by omega) (by omega) ((hru.kept hS6).ws (by omega))).mono ?_;rintro e w7 ⟨rfl,hk7⟩;have hS7:Kept wr w7:=hS6.trans hk7;have hnu:=nt_of (B:=65536) (n:=nd) (cap:=capu) (by omega) (fun i hi=>HLU.out i (by omega)) ((hru.kept hS7).ws (by omega));rw[HD2.out] at hnu)|(go_at_call 304;refine(trimk_calls _ _ (ns+1-nd) (ns+1-nd) qs (by omega) (Nat.le_refl _) ((hrq.kept (Kept.refl wr).drew).ws (Nat.le_refl _))).mono ?_;rintro e w6 ⟨rfl,hk6⟩;have hS6:Kept wr w6:=(Kept.refl wr).drew.trans hk6)|(go_at_call 367;refine(nshr_calls hnu HREM.out hs15).mono ?_;rintro e w8 ⟨v8,rfl,hv8,hk8⟩;have hS8:Kept wr w8:=hS7.trans hk8))
     go_wp2
     go_ret2
     rw[Nat.mul_div_cancel _ (Nat.pow_pos (by decide))] at hv8
     have hnq:=nt_of (B:=65536) (cap:=ns+1-nd) (Nat.le_refl _) (fun i _=>HLQ.out i) ((hrq.kept hS8).ws (Nat.le_refl _))
     rw[HD1.out] at hnq
     exact⟨_,_,rfl,hnq,hv8,hkw.trans hS8⟩
    |succ t=>
     rcases hdw.open with h0|⟨_,bd,offd,rfl,hdc⟩
     ·omega
     obtain⟨hbdu,hbdq⟩:bd≠bu∧bd≠bq:=by
      obtain⟨b',off',e,hne⟩:=HBD.out 0 (by omega)
      cases e
      exact hne
     have hKn:Kn 65536 (win us t) ds nd:=⟨hn,by decide,HDL.out,fun i hi=>HLD.out.ult (t+i) (by omega),HDT.out,by rw[HDV.out];exact HLD.out.window (by decide)⟩
     have hqc:=hrq.cell (i:=t) (by omega)
     have hdnt:Nt 65536 wr (.slice (some ⟨bd,offd,none⟩) nd capd) (val 65536 ds nd):=⟨_,nd,capd,ds,rfl,hcd,HDL.out,HDN.out,rfl,hdw⟩
     have hwb:val 65536 (win us t) (nd+1)<Big:=by
      have h1:=HLD.out.window (k:=t) (by decide)
      exact Nat.lt_trans h1 HKB.out
     have hdg:=ndigit_calls wr bu (ns+1) t (capu-t) bd offd capd nd us ds (by omega) (by omega) (by omega) (by omega) hbdu hKn hru HLD.out.ult hdc hdnt (by rw[HDV.out];exact Nat.lt_of_le_of_lt (Nat.le_mul_of_pos_right _ (by decide)) HKB.out) hwb
     rw[show nd+1=t+nd+1-t by omega] at hdg
     clear hdnt hdc
     have HWB:=Lib.hid hwb;clear hwb
     go_wp2_with fail
     refine hdg.mono ?_
     rintro e w5 ⟨rfl,us',hr5,hl5,hs5,hv5,hkb5⟩
     have hrq5:=hrq.keptB hkb5 (fun e=>hbqu e)
     have hqc5:=hrq5.cell (i:=t) (by omega)
     have hqf5:=hrq5.frozen t
     have hql:val 65536 (win us t) (nd+1)/val 65536 ds nd<65536:=hKn.qlt
     have hst:=Lib.hid (HLD.out.step (by decide) hDP.out hDN.out (by omega) (by omega) hl5 hs5 (by rw[←HDV.out];exact hv5))
     rw[←HDV.out] at hst
     generalize val 65536 (win us t) (nd+1)/val 65536 ds nd=q at*
     clear hdg hv5 hKn
     go_wp2
     go_roundw
     case rel=>
      refine⟨t,us',upd qs t q,by omega,rfl,by rw[←HDV.out];exact hst.out,hr5.setOther (fun e=>hbqu e.symm) _,hrq5.set _ _,?_,(hkw.but hkb5 hbuw).setCell (by simpa using hsz) _⟩
      exact(hdw.keptB hkb5 (fun i hi=>⟨bd,offd,rfl,hbdu⟩)).setOther (fun i hi=>⟨bd,offd,rfl,hbdq⟩) _
     case measure=>simp[intOf]
theorem ndiv_calls{w:World}{v u:Value}{m k:Nat}(hv:Nt 65536 w v m)(hu:Nt 65536 w u k)(hm:m<Mid)(hk:k<Mid)(hk0:0<k):
 Calls Tryz.prog 301 #[v,u] w (NRetQR (m/k) (m%k) w):=by
 by_cases h1:m<k
 ·rw[Nat.div_eq_of_lt h1,Nat.mod_eq_of_lt h1]
  exact ndiv_less hv hu (mid_big hm) h1
 ·by_cases h2:k<65536
  ·exact ndiv_one hv hu (mid_big hm) (by omega) hk0 h2
  ·have huu:=hu
   obtain⟨b,n,cap,ys,rfl,hcb,hyd,hyn,rfl,hyw⟩:=hu
   have hn2:2≤n:=by
    match n,hyd with
    |0,_=>simp[val] at hk0
    |1,hyd=>have:=hyd 0 (by omega);simp[val] at h2;omega
    |n+2,_=>omega
   rcases hyw.open with h0|⟨_,bb,off,rfl,hy⟩
   ·omega
   ·exact ndiv_long n bb off cap ys hv hm huu hn2 (len_big (.inl rfl) hyn (mid_big hk)) hk0 hyd (by rcases hyn with h|h<;>omega) hy hk (by omega)
set_option maxHeartbeats 1000000 in
theorem ngcd_calls{w:World}{v u:Value}{m k:Nat}(hv:Nt 65536 w v m)(hu:Nt 65536 w u k)(hm:m<Mid)(hk:k<Mid):
 Calls Tryz.prog 300 #[v,u] w (RetNt 65536 (Nat.gcd k m) w):=by
 go_enter Tryz.func300,Tryz.ntmps300
 go_wp2
 go_loopg [0,1] k (fun y a b wr=>∃x:Nat,Nt 65536 wr a x∧Nt 65536 wr b y∧x<Mid∧y<Mid∧Nat.gcd y x=Nat.gcd k m∧Kept w wr)
 case atStart=>exact⟨m,hv,hu,hm,hk,rfl,Kept.refl _⟩
 case round=>
  obtain⟨x,hx,hy,hxb,hyb,hg,hkw⟩:=hrel
  have HG:=Lib.hid hg;clear hg
  have hyy:=hy
  obtain⟨ab,n,cap,ys,rfl,hc,hd,hn,hyv,hw⟩:=hyy
  have hz:=val_eq_zero (B:=65536) (by decide) hn
  rw[hyv] at hz
  have HZ:=Lib.hid hz;clear hz hyv hd hn hw
  by_cases h0:gk=0
  ·subst h0
   obtain rfl:n=0:=HZ.out.1 rfl
   go_wp2
   go_ret
   refine⟨_,rfl,?_,hkw⟩
   rw[←HG.out,Nat.gcd_zero_left]
   exact hx
  ·have hn0:0<n:=by have:=HZ.out;omega
   go_wp2_with(go_at_call 301;refine(ndiv_calls hx hy hxb hyb (by omega)).mono ?_;rintro e w1 ⟨v1,v2,rfl,_,h2,hk1⟩)
   go_roundg (x%gk)
   case measure=>exact Nat.mod_lt _ (by omega)
   case rel=>exact⟨gk,hy.kept hk1,h2,hyb,Nat.lt_of_le_of_lt (Nat.mod_le _ _) hxb,by rw[←Nat.gcd_rec];exact HG.out,hkw.trans hk1⟩
end Go.Proofs.YtbapfnpbamnmpaaGreatDoor
end
