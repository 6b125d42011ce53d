/- A part of the proof that SearchCandidates answers true for every input of bulk at most 1048576: conditions: the row's own. -/
import Derived.Test.YtancebninmoipaaGreatDoorP02
import Derived.Test.YtancebninmoipaaGreatDoorP03
import Derived.Deep.Light
import Derived.Laws.Bits128
import Derived.Test.YtancebninmoipaaGreatDoorP01
import Derived.Deep.RegionHeld3
import Derived.Deep.LoopGhost
namespace Go.Dig
theorem pow_cut16{r:Nat}(h:r≤16):2^r*2^(16-r)=65536:=by rw[←Nat.pow_add,Nat.add_sub_cancel' h]
def shrE(x y r:Nat):Nat:=(x+y*65536)/2^r%65536
theorem shrE_eq{x y r:Nat}(hx:x<65536)(hr:r<16):shrE x y r*2^r+x%2^r=x+y%2^r*65536:=by
 unfold shrE
 have hp:=pow_cut16 (Nat.le_of_lt hr)
 have hpos:0<2^r:=Nat.pow_pos (by decide)
 have hpos':0<2^(16-r):=Nat.pow_pos (by decide)
 generalize 2^r=R at*
 generalize 2^(16-r)=S at*
 have hx1:=Nat.mod_add_div x R
 have hxd:x/R<S:=Nat.div_lt_of_lt_mul (by rw[hp];exact hx)
 have e1:(x+y*65536)/R=x/R+y*S:=by
  rw[show y*65536=(y*S)*R by rw[←hp];grind,Nat.add_mul_div_right _ _ hpos]
 rw[e1]
 have hy1:=Nat.mod_add_div y R
 have e2:(x/R+y*S)%65536=x/R+y%R*S:=by
  have hlt:x/R+y%R*S<65536:=by
   have:y%R<R:=Nat.mod_lt _ hpos
   have:(y%R+1)*S≤R*S:=Nat.mul_le_mul_right _ (by omega)
   rw[Nat.add_mul] at this
   omega
  have h2:x/R+y*S=x/R+y%R*S+(y/R)*65536:=by
   have h3:y*S=(y%R+R*(y/R))*S:=by rw[hy1]
   rw[h3,←hp];grind
  rw[h2,Nat.add_mul_mod_self_right,Nat.mod_eq_of_lt hlt]
 rw[e2]
 generalize y%R=yr at*
 generalize x/R=xq at*
 generalize x%R=xr at*
 subst hx1
 rw[←hp]
 grind
theorem shrE_inv{zs os:Nat→Nat}{r:Nat}(hr:r<16):∀{k:Nat},(∀i,i<k→zs i<65536)→(∀i,i<k→os i=shrE (zs i) (zs (i+1)) r)→
 val 65536 os k*2^r+zs 0%2^r=val 65536 zs k+zs k%2^r*65536^k
 |0,_,_=>by simp[val]
 |k+1,hz,ho=>by
  have ih:=shrE_inv hr (k:=k) (fun i hi=>hz i (by omega)) (fun i hi=>ho i (by omega))
  have e:=shrE_eq (y:=zs (k+1)) (hz k (by omega)) hr
  rw[←ho k (by omega)] at e
  simp only[val]
  rw[Nat.pow_succ]
  generalize (65536:Nat)^k=P at*
  generalize zs 0%2^r=a at*
  generalize zs k%2^r=b at*
  generalize zs (k+1)%2^r=c at*
  generalize 2^r=R at*
  have:os k*R*P+b*P=zs k*P+c*65536*P:=by rw[←Nat.add_mul,e,Nat.add_mul]
  grind
theorem shrE_val{zs os:Nat→Nat}{r m:Nat}(hr:r<16)(hz:∀i,i<m→zs i<65536)(h0:zs m=0)(ho:∀i,i<m→os i=shrE (zs i) (zs (i+1)) r):
 val 65536 os m=val 65536 zs m/2^r:=by
 have h:=shrE_inv hr hz ho
 rw[h0] at h
 have hpos:0<2^r:=Nat.pow_pos (by decide)
 have hlt:zs 0%2^r<2^r:=Nat.mod_lt _ hpos
 simp only[Nat.zero_mod,Nat.zero_mul,Nat.add_zero] at h
 rw[←h,Nat.add_comm,Nat.add_mul_div_right _ _ hpos,Nat.div_eq_of_lt hlt,Nat.zero_add]
end Go.Dig
namespace Go.Proofs.YtancebninmoipaaGreatDoor
open Go Go.RowKit Go.Dig
open Go.Eng (Kept KW KeptB)
theorem shrE_cell{x y r:Nat}:(((x+y*65536:Nat):Int)/2^r%65536)=(shrE x y r:Nat):=by
 unfold shrE
 simp
theorem shrE_lt(x y r:Nat):shrE x y r<65536:=Nat.mod_lt _ (by decide)
set_option maxHeartbeats 4000000 in
set_option maxRecDepth 100000 in
theorem nshr_some(w:World)(b off n cap s:Nat)(xs:Nat→Nat)(hn:n≤2000)(h0:0<n)(hs:s≤15)(hcap:n≤cap)
 (hxl:∀i,i<n→xs i<65536)(hx:∀i,i<n→w.cell? ⟨b,off+i,none⟩=some (.int .u32 (xs i:Nat))):
 Calls Tryz.prog 213 #[.slice (some ⟨b,off,none⟩) n cap,.int .i64 (s:Int)] w (RetNt 65536 (val 65536 xs n/2^s) w):=by
 have hmk:=fun w=>run_make_room (P:=Tryz.prog) 53 212 (.int .u32 0) 4 Tryz.underlying53 info191 rfl .i64 .i64 n (by omega) (by omega) w
 have hs16:(s:Int)/16=0:=by omega
 have hs17:(s:Int)%16=(s:Int):=by omega
 have HXL:=Lib.hid hxl;clear hxl
 have HX:=Lib.hid hx;clear hx
 have q1:decide (n=0)=false:=by simp;omega
 have q2:decide ((s:Int)<0)=false:=by simp
 go_enter Tryz.func213,Tryz.ntmps213
 go_wp2
 clear hmk
 go_loopw [5,26] (fun ov iv wr=>∃(k:Nat)(zs:Nat→Nat),k≤n∧iv= .int .i64 (k:Int)∧(∀j,j<k→zs j=shrE (ext xs n j) (ext xs n (j+1)) s)∧Ap wr w.heap.size ov k zs∧Kept w wr) (fun _ iv _=>n-(intOf iv).toNat)
 case atStart=>exact⟨0,fun _=>0,Nat.zero_le _,rfl,fun _ h=>by omega,Ap.made _ _ _ _ (Nat.le_refl _) (by omega),(Kept.refl _).alloc _⟩
 case round=>
  obtain⟨k,zs,hk,rfl,hz,hap,hkw⟩:=hrel
  have HZ:=Lib.hid hz;clear hz
  by_cases hlt:k<n
  ·have c1:=hkw.cell (HX.out k hlt)
   have hxk:=HXL.out k hlt
   have hstep:∀y,y=ext xs n (k+1)→∀j,j<k+1→cat zs k (fun _=>shrE (xs k) y s) j=shrE (ext xs n j) (ext xs n (j+1)) s:=fun y hy j hj=>by
    unfold cat
    split
    ·exact HZ.out j ‹_›
    ·obtain rfl:j=k:=by omega
     rw[hy];simp[ext,hlt]
   have HST:=Lib.hid hstep;clear hstep
   by_cases hlt2:k+1<n
   ·have c2:=hkw.cell (HX.out (k+1) hlt2)
    have hxk2:=HXL.out (k+1) hlt2
    have hap1:=hap.alloc (Obj.cells #[Value.int IntKind.u32 ((shrE (xs k) (xs (k+1)) s:Nat):Int)] 212)
    have hkw1:=hkw.alloc (Obj.cells #[Value.int IntKind.u32 ((shrE (xs k) (xs (k+1)) s:Nat):Int)] 212)
    have hws1:=ws_one wr (shrE (xs k) (xs (k+1)) s)
    have e1:((shrE (xs k) (xs (k+1)) s:Nat):Int)=((xs k:Int)+(xs (k+1):Int)*65536)/2^s%65536:=by rw[←shrE_cell];simp
    rw[e1] at hap1 hkw1 hws1
    clear e1
    go_wp2_with(at_builtin;refine wpList_append_words rfl (.tmp 46) (.tmp 53) 53 rfl Tryz.underlying53 w hkw1 _ k zs rfl hap1 ⟨wr.heap.size,0,none⟩ 1 1 (fun _=>shrE (xs k) (xs (k+1)) s) rfl hws1 (by omega) ?_;intro v' w1 hap2 hkw2)
    go_roundw
    case rel=>exact⟨k+1,_,by omega,by go_num,HST.out _ (by simp[ext];try omega),hap2,hkw2⟩
    case measure=>simp[intOf];omega
   ·have hap1:=hap.alloc (Obj.cells #[Value.int IntKind.u32 ((shrE (xs k) (0) s:Nat):Int)] 212)
    have hkw1:=hkw.alloc (Obj.cells #[Value.int IntKind.u32 ((shrE (xs k) (0) s:Nat):Int)] 212)
    have hws1:=ws_one wr (shrE (xs k) (0) s)
    have e1:((shrE (xs k) (0) s:Nat):Int)=(xs k:Int)/2^s%65536:=by rw[←shrE_cell];simp
    rw[e1] at hap1 hkw1 hws1
    clear e1
    go_wp2_with(at_builtin;refine wpList_append_words rfl (.tmp 46) (.tmp 53) 53 rfl Tryz.underlying53 w hkw1 _ k zs rfl hap1 ⟨wr.heap.size,0,none⟩ 1 1 (fun _=>shrE (xs k) (0) s) rfl hws1 (by omega) ?_;intro v' w1 hap2 hkw2)
    go_roundw
    case rel=>exact⟨k+1,_,by omega,by go_num,HST.out _ (by simp[ext];try omega),hap2,hkw2⟩
    case measure=>simp[intOf];omega
  ·obtain rfl:n=k:=by omega
   obtain⟨av,capv,rfl,hcapv,hwsv⟩:=hap.ws
   have hzl:∀i,i<n→zs i<65536:=fun i hi=>by rw[HZ.out i hi];exact shrE_lt _ _ _
   have hv:=shrE_val (zs:=ext xs n) (os:=zs) (r:=s) (m:=n) (by omega) (fun i hi=>by simp only[ext,if_pos hi];exact HXL.out i hi) (by simp[ext]) HZ.out
   rw[val_ext (Nat.le_refl _)] at hv
   have HV:=Lib.hid hv;clear hv
   have HZL:=Lib.hid hzl;clear hzl
   go_wp2_with(go_at_call 146;refine(trim_calls _ _ _ _ zs (by omega) hcapv hwsv).mono ?_;rintro e w' ⟨rfl,rfl⟩)
   go_ret
   have:=nt_of (B:=65536) hcapv HZL.out hwsv
   rw[HV.out] at this
   exact⟨_,rfl,this,hkw⟩
theorem nshr_zero(w:World)(a:Option Addr)(cap s:Nat)(hs:s≤15):
 Calls Tryz.prog 213 #[.slice a 0 cap,.int .i64 (s:Int)] w (RetNt 65536 0 w):=by
 have hs16:(s:Int)/16=0:=by omega
 have q2:decide ((s:Int)<0)=false:=by simp
 go_enter Tryz.func213,Tryz.ntmps213
 go_wp2
 go_ret
 exact⟨_,rfl,nt_zero _ _ _ _,Kept.refl _⟩
theorem nshr_calls{w:World}{v:Value}{m s:Nat}(hv:Nt 65536 w v m)(hm:m<Big)(hs:s≤15):
 Calls Tryz.prog 213 #[v,.int .i64 (s:Int)] w (RetNt 65536 (m/2^s) w):=by
 obtain⟨a,n,cap,xs,rfl,hc,hd,hn,rfl,hw⟩:=hv
 have hl:=len_big (.inl rfl) hn hm
 rcases hw.open with rfl|⟨h0,b,off,rfl,hx⟩
 ·have:=nshr_zero w a cap s hs
  simpa [val] using this
 ·exact nshr_some w b off n cap s xs (by omega) h0 hs hc hd hx
set_option maxHeartbeats 1000000 in
theorem less_calls{w:World}{u:Value}{k g:Nat}(bu off cap n:Nat)(us:Nat→Nat)(hn:n≤2000)(hcap:n≤cap)(hus:∀i,i<n→us i<65536)(hw:Ws w (some ⟨bu,off,none⟩) n us)
 (hu:Nt 65536 w u k)(hk:k<Big)(hg:g<65536)(hUb:val 65536 us n<Big):
 Calls Tryz.prog 242 #[.slice (some ⟨bu,off,none⟩) n cap,u,.int .u64 (g:Int)] w fun e w'=>e= .returned (.bool (decide (val 65536 us n<k*g)))∧Kept w w':=by
 have hof:=natof_calls w g (by omega)
 have hgB:g<Big:=Nat.lt_of_lt_of_le hg (by obtain⟨L,hL⟩:∃L,L=1024:=⟨1024,rfl⟩;rw[←big16 hL];exact Nat.le_self_pow (by omega) _)
 go_enter Tryz.func242,Tryz.ntmps242
 go_wp2_with(go_at_call 72;refine hof.mono ?_;rintro e w1 ⟨v1,rfl,hv1,hk1⟩)
 refine(nmul_calls (hu.kept hk1) hv1 hk hgB).mono ?_
 rintro e w2 ⟨v2,rfl,hv2,hk2⟩
 have hw2:=(hw.kept hk1).kept hk2
 have hnt:=nt_of (B:=65536) hcap hus hw2
 go_wp2_with(go_at_call 146;refine(trim_calls _ _ _ _ us (by omega) hcap hw2).mono ?_;rintro e w' ⟨rfl,rfl⟩)
 have hcm:=ncmp_calls (.inl rfl) hnt hv2 hUb
 generalize hce:cmpInt (val 65536 us n) (k*g)=ci at*
 refine hcm.mono ?_
 rintro e w3 ⟨rfl,hk3⟩
 have HCE:=Lib.hid hce;clear hce
 go_wp2
 go_ret
 refine⟨ret_bool ?_,(hk1.trans hk2).trans hk3⟩
 rw[Bool.eq_iff_iff]
 have:=HCE.out
 unfold cmpInt at this
 simp only[decide_eq_true_eq]
 split at this
 ·constructor<;>omega
 ·split at this<;>constructor<;>omega
end Go.Proofs.YtancebninmoipaaGreatDoor
section
namespace Go.Proofs.YtancebninmoipaaGreatDoor
open Go Go.RowKit Go.Dig
open Go.Eng (Kept KW KeptB)
theorem i64_and65535(n:Int):bits .and .i64 n 65535=n%65536:=by
 have h16:(BitVec.ofInt 64 65535).toNat=2^16-1:=by decide
 have key:(BitVec.ofInt 64 n &&& BitVec.ofInt 64 65535).toNat=(n%((2^64:Nat):Int)).toNat%2^16:=by
  rw[BitVec.toNat_and,BitVec.toNat_ofInt,h16,Nat.and_two_pow_sub_one_eq_mod]
 show IntKind.i64.wrap ((BitVec.ofInt 64 n &&& BitVec.ofInt 64 65535).toNat:Nat)=n%65536
 rw[key,IntKind.wrap_i64]
 omega
structure OwI(us vs:Nat→Nat)(g i:Nat)(zs:Nat→Nat)(o:Int):Prop where
 lt:∀k,k<i→zs k<65536
 same:∀k,i≤k→zs k=us k
 lo: -65536≤o
 hi:o≤0
 eq:(val 65536 zs i:Int)+o*(65536^i:Nat)=(val 65536 us i:Int)-(g:Int)*(val 65536 vs i:Int)
theorem OwI.step{us vs zs:Nat→Nat}{g i z:Nat}{o:Int}(h:OwI us vs g i zs o)(hg:g<65536)(hu:us i<65536)(hv:vs i<65536)
 (hz:(z:Int)=((us i:Int)+o-(g:Int)*(vs i:Int))%65536):OwI us vs g (i+1) (upd zs i z) (((us i:Int)+o-(g:Int)*(vs i:Int))/65536):=by
 have hlo:=h.lo
 have hhi:=h.hi
 have hgv:(g:Int)*(vs i:Int)≤65535*65535:=by
  have:g*vs i≤65535*65535:=Nat.mul_le_mul (by omega) (by omega)
  have e:((g*vs i:Nat):Int)=(g:Int)*(vs i:Int):=by simp
  omega
 have hgv0:0≤(g:Int)*(vs i:Int):=by
  have e:((g*vs i:Nat):Int)=(g:Int)*(vs i:Int):=by simp
  omega
 refine⟨fun k hk=> ?_,fun k hk=> ?_,by omega,by omega,?_⟩
 ·unfold upd;split
  ·omega
  ·exact h.lt k (by omega)
 ·rw[upd_other _ (by omega)];exact h.same k (by omega)
 ·have e:=h.eq
  have hm:=Int.emod_add_mul_ediv ((us i:Int)+o-(g:Int)*(vs i:Int)) 65536
  rw[val_upd_top]
  simp only[val]
  rw[Nat.pow_succ]
  generalize ((us i:Int)+o-(g:Int)*(vs i:Int))/65536=o' at*
  generalize hr:((us i:Int)+o-(g:Int)*(vs i:Int))%65536=r at*
  generalize (65536^i:Nat)=P at*
  simp only[Int.natCast_add,Int.natCast_mul]
  rw[hz]
  have e2:(r+65536*o')*(P:Int)=((us i:Int)+o-(g:Int)*(vs i:Int))*(P:Int):=by rw[hm]
  grind
theorem OwI.done{us vs zs:Nat→Nat}{g n:Nat}{o:Int}(h:OwI us vs g n zs o)(hle:g*val 65536 vs n≤val 65536 us n):
 val 65536 zs n=val 65536 us n-g*val 65536 vs n:=by
 have e:=h.eq
 have h1:=val_lt h.lt
 have hlo:=h.lo
 have hhi:=h.hi
 have ec:((g*val 65536 vs n:Nat):Int)=(g:Int)*(val 65536 vs n:Int):=by simp
 generalize hP:(65536^n:Nat)=P at*
 have ho:o=0:=by
  by_cases h0:o=0
  ·exact h0
  ·have h2:o*(P:Int)≤ -1*(P:Int):=Int.mul_le_mul_of_nonneg_right (by omega) (by omega)
   omega
 subst ho
 omega
def NDigitRet(bu L j n:Nat)(zs ds:Nat→Nat)(w:World)(e:Ending)(w':World):Prop:=
 e= .returned (.int .u32 ((val 65536 (win zs j) (n+1)/val 65536 ds n:Nat):Int))∧
 ∃zs',RowP w' bu L zs'∧(∀k,k<L→zs' k<65536)∧(∀k,k<j∨j+n<k→zs' k=zs k)∧val 65536 (win zs' j) (n+1)=val 65536 (win zs j) (n+1)%val 65536 ds n∧KeptB w w' bu
end Go.Proofs.YtancebninmoipaaGreatDoor
namespace Go.Eng
open Go Go.RowKit Go.Dig
theorem Kept.toB{w w':World}(h:Kept w w')(b:Nat):KeptB w w' b:=⟨h.size,fun c hc _=>h.old c hc,h.tape,h.os,h.output⟩
end Go.Eng
namespace Go.Proofs.YtancebninmoipaaGreatDoor
open Go Go.RowKit Go.Dig
open Go.Eng (Kept KW KeptB)
set_option maxHeartbeats 4000000 in
set_option maxRecDepth 100000 in
theorem ndigit_calls(w:World)(bu L j capu bd offd capd n:Nat)(zs ds:Nat→Nat)(hn:n≤1500)(hL:L≤4096)(hj:j+n<L)(hcap:n+1≤capu)(hbb:bd≠bu)
 (hK:Kn 65536 (win zs j) ds n)(hrow:RowP w bu L zs)(hzl:∀k,k<L→zs k<65536)
 (hd:∀i,i<n→w.cell? ⟨bd,offd+i,none⟩=some (.int .u32 (ds i:Nat)))(hdn:Nt 65536 w (.slice (some ⟨bd,offd,none⟩) n capd) (val 65536 ds n))(hdB:val 65536 ds n<Big)(hUB:val 65536 (win zs j) (n+1)<Big):
 Calls Tryz.prog 212 #[.slice (some ⟨bu,j,none⟩) (n+1) capu,.slice (some ⟨bd,offd,none⟩) n capd] w (NDigitRet bu L j n zs ds w):=by
 have hn2:=hK.two
 have c0:=hrow.cell (i:=j+n) (by omega)
 have c1:=hrow.cell (i:=j+(n-1)) (by omega)
 have d1:=hd (n-1) (by omega)
 have l0:=hzl (j+n) (by omega)
 have l1:=hzl (j+(n-1)) (by omega)
 have m1:=hK.dlt (n-1) (by omega)
 have m0:=hK.d1pos
 have hwin:Ws w (some ⟨bu,j,none⟩) (n+1) (win zs j):=fun i hi=>⟨bu,j,rfl,hrow.cell (by omega)⟩
 have hwl:∀i,i<n+1→win zs j i<65536:=hK.ult
 have HWIN:=Lib.hid hwin;clear hwin
 have HWL:=Lib.hid hwl;clear hwl
 have HDN:=Lib.hid hdn;clear hdn
 have HDB:=Lib.hid hdB;clear hdB
 have HUB:=Lib.hid hUB;clear hUB
 have HD:=Lib.hid hd;clear hd
 have HZ:=Lib.hid hzl;clear hzl
 obtain⟨g0,hg0⟩:∃g0,g0=(zs (j+n)*65536+zs (j+(n-1)))/ds (n-1):=⟨_,rfl⟩
 have hq0:val 65536 (win zs j) (n+1)/val 65536 ds n≤g0:=by rw[hg0];exact hK.first
 have hql:=hK.qlt
 have hg0I:((zs (j+n):Int)*65536+(zs (j+(n-1)):Int))/(ds (n-1):Int)=(g0:Int):=by rw[hg0];simp
 have hg0b:g0<4294967296:=by
  rw[hg0]
  exact Nat.lt_of_le_of_lt (Nat.div_le_self _ _) (by omega)
 have HG0:=Lib.hid hg0;clear hg0
 have HQ0:=Lib.hid hq0;clear hq0
 have HQL:=Lib.hid hql;clear hql
 by_cases hbig:65536≤g0
 ·have HBIG:=Lib.hid hbig
  have tst:decide ((65536:Int)≤(g0:Int))=true:=by simp;omega
  clear hbig
  go_enter Tryz.func212,Tryz.ntmps212
  go_wp2
  go_quiet (fail)
  go_wp2
  have HG0I:=Lib.hid hg0I
  clear c0 c1 d1 l0 l1 m1 m0 hg0I tst
  go_loopw [7] (fun gv wr=>∃g:Nat,gv= .int .u64 (g:Int)∧val 65536 (win zs j) (n+1)/val 65536 ds n≤g∧g<65536∧Kept w wr) (fun gv _=>(intOf gv).toNat)
  case atStart=>exact⟨65535,by first|rfl|(congr 1<;>exact HG0I.out),by have:=HQL.out;omega,by omega,(Kept.refl w).drewN _⟩
  case round=>
   obtain⟨g,rfl,hqg,hgl,hkw⟩:=hrel
   have hls:=less_calls bu j capu (n+1) (win zs j) (by omega) hcap HWL.out (HWIN.out.kept hkw) (HDN.out.kept hkw) HDB.out hgl HUB.out
   by_cases hlt:val 65536 (win zs j) (n+1)<val 65536 ds n*g
   ·rw[show decide (val 65536 (win zs j) (n+1)<val 65536 ds n*g)=true from by simpa using hlt] at hls
    have hg1:val 65536 (win zs j) (n+1)/val 65536 ds n≤g-1:=Nat.le_sub_one_of_lt (Nat.div_lt_of_lt_mul hlt)
    have hg0:1≤g:=by
     rcases Nat.eq_zero_or_pos g with h|h
     ·rw[h] at hlt;simp at hlt
     ·exact h
    have HQG:=Lib.hid hg1
    clear hqg hlt hg1
    go_wp2_with(go_at_call 242;refine hls.mono ?_;rintro e w1 ⟨rfl,hk1⟩)
    go_roundw
    case rel=>exact⟨g-1,by congr 1;omega,HQG.out,by omega,hkw.trans hk1⟩
    case measure=>simp[intOf];omega
   ·rw[show decide (val 65536 (win zs j) (n+1)<val 65536 ds n*g)=false from by simpa using hlt] at hls
    have hgq:g=val 65536 (win zs j) (n+1)/val 65536 ds n:=by
     refine Nat.le_antisymm ?_ hqg
     exact(Nat.le_div_iff_mul_le hK.dpos).2 (by rw[Nat.mul_comm];omega)
    have hmul:g*val 65536 ds n≤val 65536 (win zs j) (n+1):=by rw[Nat.mul_comm];omega
    have HGQ:=Lib.hid hgq
    have HMUL:=Lib.hid hmul
    clear hqg hlt hgq hmul
    go_wp2_with(go_at_call 242;refine hls.mono ?_;rintro e w1 ⟨rfl,hk1⟩)
    have hkw1:=hkw.trans hk1
    clear hls hk1
    have hrow1:=hrow.kept hkw1
    have HD1:Hid (∀i,i<n→w1.cell? ⟨bd,offd+i,none⟩=some (.int .u32 (ds i:Nat))):=Lib.hid (fun i hi=>hkw1.cell (HD.out i hi))
    go_loopw [8,44] (fun ov iv wr=>∃(i:Nat)(o:Int)(ts:Nat→Nat),i≤n+1∧iv= .int .i64 (i:Int)∧ov= .int .i64 o∧OwI (win zs j) (ext ds n) g i (win ts j) o∧(∀k,k<L→ts k<65536)∧(∀k,k<j∨j+n<k→ts k=zs k)∧RowP wr bu L ts∧KeptB w wr bu) (fun _ iv _=>n+1-(intOf iv).toNat)
    case atStart=>exact⟨0,0,zs,Nat.zero_le _,rfl,rfl,⟨fun _ h=>by omega,fun _ _=>rfl,by omega,by omega,by simp[val]⟩,HZ.out,fun _ _=>rfl,hrow1,hkw1.toB bu⟩
    case round=>
     obtain⟨i,o,ts,hi,rfl,rfl,how,htl,hts,hrw,hkb⟩:=hrel
     have HTL:=Lib.hid htl;clear htl
     have HTS:=Lib.hid hts;clear hts
     have hlo:=how.lo
     have hhi:=how.hi
     by_cases hin:i<n+1
     ·have k2:=hrw.cell (i:=j+i) (by omega)
      have k3:=hrw.frozen (j+i)
      have k4:=HTL.out (j+i) (by omega)
      have hsm:ts (j+i)=zs (j+i):=how.same i (Nat.le_refl _)
      have HSM:=Lib.hid hsm;clear hsm
      by_cases hin2:i<n
      ·have k1:=hkb.cell (HD.out i hin2) hbb
       have k5:=hK.dlt i hin2
       have hgv:(g:Int)*(ds i:Int)≤65535*65535:=by
        have h1:g*ds i≤65535*65535:=Nat.mul_le_mul (by omega) (by omega)
        have e:((g*ds i:Nat):Int)=(g:Int)*(ds i:Int):=by simp
        omega
       have hgv0:0≤(g:Int)*(ds i:Int):=by
        have e:((g*ds i:Nat):Int)=(g:Int)*(ds i:Int):=by simp
        omega
       obtain⟨z,hz⟩:∃z:Nat,(z:Int)=((ts (j+i):Int)+o-(g:Int)*(ds i:Int))%65536:=⟨(((ts (j+i):Int)+o-(g:Int)*(ds i:Int))%65536).toNat,by omega⟩
       have hand:bits .and .i64 ((ts (j+i):Int)+o-(g:Int)*(ds i:Int)) 65535=(z:Int):=by rw[i64_and65535,hz]
       have hzl:z<65536:=by omega
       have hst:=how.step (g:=g) (z:=z) (by omega) (by show zs (j+i)<65536;rw[←HSM.out];exact k4) (show ext ds n i<65536 by simp only[ext,if_pos hin2];exact k5) (by
        have e1:ext ds n i=ds i:=by simp[ext,hin2]
        have e2:win zs j i=ts (j+i):=HSM.out.symm
        rw[e1,e2];exact hz)
       have e1:ext ds n i=ds i:=by simp[ext,hin2]
       have e2:win zs j i=ts (j+i):=HSM.out.symm
       rw[e1,e2,←win_upd] at hst
       have HST:=Lib.hid hst
       clear hst how e1 e2 hz
       go_wp2
       go_roundw
       case rel=>
        refine⟨i+1,_,upd ts (j+i) z,by omega,by go_num,by simp,HST.out,fun k hk=> ?_,fun k hk=> ?_,hrw.set _ _,hkb.setCell rfl _⟩
        ·unfold upd;split
         ·omega
         ·exact HTL.out k hk
        ·rw[upd_other _ (by omega)];exact HTS.out k hk
       case measure=>simp[intOf];omega
      ·obtain rfl:n=i:=by omega
       obtain⟨z,hz⟩:∃z:Nat,(z:Int)=((ts (j+n):Int)+o)%65536:=⟨(((ts (j+n):Int)+o)%65536).toNat,by omega⟩
       have hand:bits .and .i64 ((ts (j+n):Int)+o) 65535=(z:Int):=by rw[i64_and65535,hz]
       have hzl:z<65536:=by omega
       have e1:ext ds n n=0:=by simp[ext,hin2]
       have e2:win zs j n=ts (j+n):=HSM.out.symm
       have hst:=how.step (g:=g) (z:=z) (by omega) (by rw[e2];exact k4) (by rw[e1];decide) (by rw[e1,e2,hz];simp)
       rw[e1,e2,←win_upd] at hst
       have e3:(ts (j+n):Int)+o-(g:Int)*((0:Nat):Int)=(ts (j+n):Int)+o:=by simp
       rw[e3] at hst
       have HST:=Lib.hid hst
       clear hst how e1 e2 hz e3
       go_wp2
       go_roundw
       case rel=>
        refine⟨n+1,_,upd ts (j+n) z,by omega,by go_num,by simp,HST.out,fun k hk=> ?_,fun k hk=> ?_,hrw.set _ _,hkb.setCell rfl _⟩
        ·unfold upd;split
         ·omega
         ·exact HTL.out k hk
        ·rw[upd_other _ (by omega)];exact HTS.out k hk
       case measure=>simp[intOf]
     ·obtain rfl:i=n+1:=by omega
      have hdn:=how.done (by rw[val_ext (Nat.le_succ n)];exact HMUL.out)
      rw[val_ext (Nat.le_succ n)] at hdn
      have HDN2:=Lib.hid hdn;clear hdn how
      go_wp2
      go_ret
      refine⟨by rw[HGQ.out];rfl,ts,hrw,HTL.out,HTS.out,?_,hkb⟩
      rw[HDN2.out,HGQ.out,Nat.mul_comm]
      have:=Nat.div_add_mod (val 65536 (win zs j) (n+1)) (val 65536 ds n)
      omega
 ·have HBIG:=Lib.hid hbig
  have tst:decide ((65536:Int)≤(g0:Int))=false:=by simp;omega
  clear hbig
  go_enter Tryz.func212,Tryz.ntmps212
  go_wp2
  go_quiet (fail)
  go_wp2
  have HG0I:=Lib.hid hg0I
  clear c0 c1 d1 l0 l1 m1 m0 hg0I tst
  go_loopw [7] (fun gv wr=>∃g:Nat,gv= .int .u64 (g:Int)∧val 65536 (win zs j) (n+1)/val 65536 ds n≤g∧g<65536∧Kept w wr) (fun gv _=>(intOf gv).toNat)
  case atStart=>exact⟨g0,by first|rfl|(congr 1<;>exact HG0I.out),HQ0.out,by have:=HBIG.out;omega,(Kept.refl w).drewN _⟩
  case round=>
   obtain⟨g,rfl,hqg,hgl,hkw⟩:=hrel
   have hls:=less_calls bu j capu (n+1) (win zs j) (by omega) hcap HWL.out (HWIN.out.kept hkw) (HDN.out.kept hkw) HDB.out hgl HUB.out
   by_cases hlt:val 65536 (win zs j) (n+1)<val 65536 ds n*g
   ·rw[show decide (val 65536 (win zs j) (n+1)<val 65536 ds n*g)=true from by simpa using hlt] at hls
    have hg1:val 65536 (win zs j) (n+1)/val 65536 ds n≤g-1:=Nat.le_sub_one_of_lt (Nat.div_lt_of_lt_mul hlt)
    have hg0:1≤g:=by
     rcases Nat.eq_zero_or_pos g with h|h
     ·rw[h] at hlt;simp at hlt
     ·exact h
    have HQG:=Lib.hid hg1
    clear hqg hlt hg1
    go_wp2_with(go_at_call 242;refine hls.mono ?_;rintro e w1 ⟨rfl,hk1⟩)
    go_roundw
    case rel=>exact⟨g-1,by congr 1;omega,HQG.out,by omega,hkw.trans hk1⟩
    case measure=>simp[intOf];omega
   ·rw[show decide (val 65536 (win zs j) (n+1)<val 65536 ds n*g)=false from by simpa using hlt] at hls
    have hgq:g=val 65536 (win zs j) (n+1)/val 65536 ds n:=by
     refine Nat.le_antisymm ?_ hqg
     exact(Nat.le_div_iff_mul_le hK.dpos).2 (by rw[Nat.mul_comm];omega)
    have hmul:g*val 65536 ds n≤val 65536 (win zs j) (n+1):=by rw[Nat.mul_comm];omega
    have HGQ:=Lib.hid hgq
    have HMUL:=Lib.hid hmul
    clear hqg hlt hgq hmul
    go_wp2_with(go_at_call 242;refine hls.mono ?_;rintro e w1 ⟨rfl,hk1⟩)
    have hkw1:=hkw.trans hk1
    clear hls hk1
    have hrow1:=hrow.kept hkw1
    have HD1:Hid (∀i,i<n→w1.cell? ⟨bd,offd+i,none⟩=some (.int .u32 (ds i:Nat))):=Lib.hid (fun i hi=>hkw1.cell (HD.out i hi))
    go_loopw [8,44] (fun ov iv wr=>∃(i:Nat)(o:Int)(ts:Nat→Nat),i≤n+1∧iv= .int .i64 (i:Int)∧ov= .int .i64 o∧OwI (win zs j) (ext ds n) g i (win ts j) o∧(∀k,k<L→ts k<65536)∧(∀k,k<j∨j+n<k→ts k=zs k)∧RowP wr bu L ts∧KeptB w wr bu) (fun _ iv _=>n+1-(intOf iv).toNat)
    case atStart=>exact⟨0,0,zs,Nat.zero_le _,rfl,rfl,⟨fun _ h=>by omega,fun _ _=>rfl,by omega,by omega,by simp[val]⟩,HZ.out,fun _ _=>rfl,hrow1,hkw1.toB bu⟩
    case round=>
     obtain⟨i,o,ts,hi,rfl,rfl,how,htl,hts,hrw,hkb⟩:=hrel
     have HTL:=Lib.hid htl;clear htl
     have HTS:=Lib.hid hts;clear hts
     have hlo:=how.lo
     have hhi:=how.hi
     by_cases hin:i<n+1
     ·have k2:=hrw.cell (i:=j+i) (by omega)
      have k3:=hrw.frozen (j+i)
      have k4:=HTL.out (j+i) (by omega)
      have hsm:ts (j+i)=zs (j+i):=how.same i (Nat.le_refl _)
      have HSM:=Lib.hid hsm;clear hsm
      by_cases hin2:i<n
      ·have k1:=hkb.cell (HD.out i hin2) hbb
       have k5:=hK.dlt i hin2
       have hgv:(g:Int)*(ds i:Int)≤65535*65535:=by
        have h1:g*ds i≤65535*65535:=Nat.mul_le_mul (by omega) (by omega)
        have e:((g*ds i:Nat):Int)=(g:Int)*(ds i:Int):=by simp
        omega
       have hgv0:0≤(g:Int)*(ds i:Int):=by
        have e:((g*ds i:Nat):Int)=(g:Int)*(ds i:Int):=by simp
        omega
       obtain⟨z,hz⟩:∃z:Nat,(z:Int)=((ts (j+i):Int)+o-(g:Int)*(ds i:Int))%65536:=⟨(((ts (j+i):Int)+o-(g:Int)*(ds i:Int))%65536).toNat,by omega⟩
       have hand:bits .and .i64 ((ts (j+i):Int)+o-(g:Int)*(ds i:Int)) 65535=(z:Int):=by rw[i64_and65535,hz]
       have hzl:z<65536:=by omega
       have hst:=how.step (g:=g) (z:=z) (by omega) (by show zs (j+i)<65536;rw[←HSM.out];exact k4) (show ext ds n i<65536 by simp only[ext,if_pos hin2];exact k5) (by
        have e1:ext ds n i=ds i:=by simp[ext,hin2]
        have e2:win zs j i=ts (j+i):=HSM.out.symm
        rw[e1,e2];exact hz)
       have e1:ext ds n i=ds i:=by simp[ext,hin2]
       have e2:win zs j i=ts (j+i):=HSM.out.symm
       rw[e1,e2,←win_upd] at hst
       have HST:=Lib.hid hst
       clear hst how e1 e2 hz
       go_wp2
       go_roundw
       case rel=>
        refine⟨i+1,_,upd ts (j+i) z,by omega,by go_num,by simp,HST.out,fun k hk=> ?_,fun k hk=> ?_,hrw.set _ _,hkb.setCell rfl _⟩
        ·unfold upd;split
         ·omega
         ·exact HTL.out k hk
        ·rw[upd_other _ (by omega)];exact HTS.out k hk
       case measure=>simp[intOf];omega
      ·obtain rfl:n=i:=by omega
       obtain⟨z,hz⟩:∃z:Nat,(z:Int)=((ts (j+n):Int)+o)%65536:=⟨(((ts (j+n):Int)+o)%65536).toNat,by omega⟩
       have hand:bits .and .i64 ((ts (j+n):Int)+o) 65535=(z:Int):=by rw[i64_and65535,hz]
       have hzl:z<65536:=by omega
       have e1:ext ds n n=0:=by simp[ext,hin2]
       have e2:win zs j n=ts (j+n):=HSM.out.symm
       have hst:=how.step (g:=g) (z:=z) (by omega) (by rw[e2];exact k4) (by rw[e1];decide) (by rw[e1,e2,hz];simp)
       rw[e1,e2,←win_upd] at hst
       have e3:(ts (j+n):Int)+o-(g:Int)*((0:Nat):Int)=(ts (j+n):Int)+o:=by simp
       rw[e3] at hst
       have HST:=Lib.hid hst
       clear hst how e1 e2 hz e3
       go_wp2
       go_roundw
       case rel=>
        refine⟨n+1,_,upd ts (j+n) z,by omega,by go_num,by simp,HST.out,fun k hk=> ?_,fun k hk=> ?_,hrw.set _ _,hkb.setCell rfl _⟩
        ·unfold upd;split
         ·omega
         ·exact HTL.out k hk
        ·rw[upd_other _ (by omega)];exact HTS.out k hk
       case measure=>simp[intOf]
     ·obtain rfl:i=n+1:=by omega
      have hdn:=how.done (by rw[val_ext (Nat.le_succ n)];exact HMUL.out)
      rw[val_ext (Nat.le_succ n)] at hdn
      have HDN2:=Lib.hid hdn;clear hdn how
      go_wp2
      go_ret
      refine⟨by rw[HGQ.out];rfl,ts,hrw,HTL.out,HTS.out,?_,hkb⟩
      rw[HDN2.out,HGQ.out,Nat.mul_comm]
      have:=Nat.div_add_mod (val 65536 (win zs j) (n+1)) (val 65536 ds n)
      omega
end Go.Proofs.YtancebninmoipaaGreatDoor
end
namespace Go.Dig
theorem ndivisor_facts{ys:Nat→Nat}{n s:Nat}(hn:0<n)(hy:∀i,i<n→ys i<65536)(h2:32768≤ys (n-1)*2^s)(h3:(ys (n-1)+1)*2^s≤65536):
 32768*65536^(n-1)≤val 65536 ys n*2^s∧val 65536 ys n*2^s<65536^n:=by
 obtain⟨k,rfl⟩:∃k,n=k+1:=⟨n-1,by omega⟩
 simp only[Nat.add_sub_cancel] at*
 have hv:=val_lt (B:=65536) (n:=k) fun i hi=>hy i (by omega)
 simp only[val]
 rw[Nat.pow_succ]
 have hS:0<2^s:=Nat.pow_pos (by decide)
 generalize 2^s=S at*
 generalize (65536:Nat)^k=P at*
 generalize val 65536 ys k=V at*
 generalize ys k=t at*
 constructor
 ·have e1:32768*P≤t*S*P:=Nat.mul_le_mul_right _ h2
  have e2:(V+t*P)*S=V*S+t*S*P:=by grind
  omega
 ·have e1:(V+t*P)*S<(t+1)*P*S:=Nat.mul_lt_mul_of_pos_right (by rw[Nat.add_mul];omega) hS
  have e2:(t+1)*P*S=(t+1)*S*P:=by grind
  have e3:(t+1)*S*P≤65536*P:=Nat.mul_le_mul_right _ h3
  have e4:65536*P=P*65536:=Nat.mul_comm ..
  omega
theorem ndivisor_digits{ds:Nat→Nat}{n nd D:Nat}(hn:0<n)(hd:∀i,i<nd→ds i<65536)(hnm:norm ds nd)(hv:val 65536 ds nd=D)
 (h1:32768*65536^(n-1)≤D)(h2:D<65536^n):nd=n∧65536≤2*ds (n-1):=by
 have e:nd=n:=by
  have a:=len_le_of_lt (B:=65536) (by decide) hnm (by rw[hv];exact h2)
  by_cases h:nd<n
  ·have b:=val_lt hd
   have c:(65536:Nat)^nd≤65536^(n-1):=Nat.pow_le_pow_right (by decide) (by omega)
   have:0<(65536:Nat)^(n-1):=Nat.pow_pos (by decide)
   omega
  ·omega
 subst e
 refine⟨rfl,?_⟩
 obtain⟨k,rfl⟩:∃k,nd=k+1:=⟨nd-1,by omega⟩
 simp only[Nat.add_sub_cancel] at*
 have b:=val_lt (B:=65536) (n:=k) fun i hi=>hd i (by omega)
 have e2:val 65536 ds (k+1)=val 65536 ds k+ds k*65536^k:=rfl
 have e3:32768*65536^k<(ds k+1)*65536^k:=by rw[Nat.add_mul];omega
 have:=Nat.lt_of_mul_lt_mul_right e3
 omega
theorem shl_room{y s:Nat}(hs:s≤16)(h:y*2^s<65536):(y+1)*2^s≤65536:=by
 have e:65536=2^(16-s)*2^s:=by rw[←Nat.pow_add,show 16-s+s=16 by omega]
 rw[e] at h⊢
 exact Nat.mul_le_mul_right _ (Nat.lt_of_mul_lt_mul_right h)
theorem ndividend_lt{M D ns n:Nat}(hM:M<65536^ns)(hn:0<n)(hns:n≤ns)(hD:32768*65536^(n-1)≤D):M<D*65536^(ns+1-n):=by
 have a:32768*65536^(n-1)*65536^(ns+1-n)≤D*65536^(ns+1-n):=Nat.mul_le_mul_right _ hD
 rw[Nat.mul_assoc,←Nat.pow_add,show n-1+(ns+1-n)=ns by omega] at a
 have hp:0<(65536:Nat)^ns:=Nat.pow_pos (by decide)
 omega
end Go.Dig
namespace Go.Proofs.YtancebninmoipaaGreatDoor
open Go Go.RowKit Go.Dig
open Go.Eng (Kept KW KeptB)
def NRetQR(q r:Nat)(w:World)(e:Ending)(w':World):Prop:=∃v u,e= .returned (.tuple #[v,u])∧Nt 65536 w' v q∧Nt 65536 w' u r∧Kept w w'
set_option maxHeartbeats 1000000 in
set_option maxRecDepth 100000 in
theorem ndiv_less{w:World}{v u:Value}{m k:Nat}(hv:Nt 65536 w v m)(hu:Nt 65536 w u k)(hm:m<Big)(h:m<k):
 Calls Tryz.prog 148 #[v,u] w (NRetQR 0 m w):=by
 have hcm:cmpInt m k= -1:=by simp[cmpInt,h]
 have hcc:=ncmp_calls (.inl rfl) hv hu hm
 rw[hcm] at hcc
 obtain⟨b,n',cap',ys,rfl,_,_,_,rfl,_⟩:=hu
 obtain⟨a,n,cap,xs,rfl,hc,hd,hn,rfl,hw⟩:=hv
 have hl:=len_big (.inl rfl) hn hm
 have hn':n'≠0:=by rintro rfl;simp[val] at h
 have q0:((n':Int)==0)=false:=by simp;omega
 have HD:=Lib.hid hd
 have HN:=Lib.hid hn
 clear h hcm hm hd hn
 go_enter Tryz.func148,Tryz.ntmps148
 go_wp2_with(first|(go_at_call 207;refine hcc.mono ?_;rintro e w1 ⟨rfl,hk1⟩;have hk0:Kept w (w1.alloc (.cells #[] 212)):=hk1.alloc _;have hap0:Ap (w1.alloc (.cells #[] 212)) w.heap.size (.slice (some ⟨w1.heap.size,0,none⟩) 0 0) 0 (fun _=>0):=World.ownsRow_made w1 _ 0 hk1.size (by unfold maxLen;omega) (by simp))|(at_builtin;refine wpList_append_list rfl (.tmp 21) (.tmp 22) 53 rfl Tryz.underlying53 w hk0 _ 0 0 (fun _=>0) rfl hap0 a n cap xs rfl (hw.kept hk0) (by omega) ?_;intro v' w2 hap2 hkw2))
 go_ret2
 rw[Nat.zero_add] at hap2
 obtain⟨av,capv,rfl,hcapv,hwsv⟩:=(hap2.congr (ys:=xs) fun i hi=>by simp[cat]).ws
 exact⟨_,_,rfl,nt_zero _ _ _ _,⟨av,n,capv,xs,rfl,hcapv,HD.out,HN.out,rfl,hwsv⟩,hkw2⟩
set_option maxHeartbeats 1000000 in
set_option maxRecDepth 100000 in
theorem ndiv_one{w:World}{v u:Value}{m k:Nat}(hv:Nt 65536 w v m)(hu:Nt 65536 w u k)(hm:m<Big)(h:k≤m)(hk0:0<k)(hk:k<65536):
 Calls Tryz.prog 148 #[v,u] w (NRetQR (m/k) (m%k) w):=by
 have hcm:0≤cmpInt m k:=by unfold cmpInt;split<;>(try split)<;>omega
 have huu:=hu
 obtain⟨a,n,cap,xs,rfl,hc,hxd,hn,hval,hw⟩:=hu
 obtain rfl:n=1:=by
  have h1:=len_le_of_lt (B:=65536) (L:=1) (by decide) hn (by rw[hval];simpa using hk)
  have h2:n≠0:=by rintro rfl;simp[val] at hval;omega
  omega
 obtain rfl:xs 0=k:=by rw[←hval];simp[val]
 obtain⟨b,off,rfl,hcell⟩:=hw 0 (by omega)
 have hcell0:w.cell? ⟨b,off,none⟩=some (.int .u32 (xs 0:Nat)):=hcell
 clear hcell hxd hn hw hval
 have hcc:=ncmp_calls (.inl rfl) hv huu hm
 generalize cmpInt m (xs 0)=ci at*
 go_enter Tryz.func148,Tryz.ntmps148
 go_wp2_with(go_at_call 207;refine hcc.mono ?_;rintro e w1 ⟨rfl,hk1⟩;have hcell1:=hk1.cell hcell0)
 have hdv:=nsmall_calls (hv.kept hk1) hm hk0 hk
 have hr:m%xs 0<18446744073709551616:=by have:=Nat.mod_lt m hk0;omega
 have hr2:m%xs 0<65536:=by have:=Nat.mod_lt m hk0;omega
 generalize m%xs 0=r at*
 generalize m/xs 0=q at*
 refine hdv.mono ?_
 rintro e w2 ⟨v2,rfl,hv2,hk2⟩
 go_wp2_with(go_at_call 72;refine(natof_calls w2 r hr).mono ?_;rintro e w3 ⟨v3,rfl,hv3,hk3⟩)
 go_ret2
 exact⟨_,_,rfl,hv2.kept hk3,hv3,(hk1.trans hk2).trans hk3⟩
def Mid:Nat:=pwr 2 16000
theorem mid_shl{m s:Nat}(hm:m<Mid)(hs:s≤15):m*2^s*65536<Big:=by
 have h1:2^s≤2^15:=Nat.pow_le_pow_right (by decide) hs
 have h2:m*2^s*65536≤m*2^15*65536:=Nat.mul_le_mul_right _ (Nat.mul_le_mul_left _ h1)
 have h3:m*2^15*65536<Mid*2^15*65536:=Nat.mul_lt_mul_of_pos_right (Nat.mul_lt_mul_of_pos_right hm (by decide)) (by decide)
 have h4:Mid*2^15*65536≤Big:=by
  have e1:(2:Nat)^15=pwr 2 15:=(pwr_eq 2 15).symm
  have e2:(65536:Nat)=pwr 2 16:=by rw[pwr_eq]
  unfold Mid
  rw[e1,e2,pwr_add 16000 15 16015 rfl,pwr_add 16015 16 16031 rfl]
  exact pwr_le 16031 16384 (by decide)
 exact Nat.lt_of_lt_of_le (Nat.lt_of_le_of_lt h2 h3) h4
theorem mid_big{m:Nat}(hm:m<Mid):m<Big:=by
 have h:=mid_shl hm (s:=0) (by decide)
 rw[Nat.pow_zero,Nat.mul_one] at h
 exact Nat.lt_of_le_of_lt (Nat.le_mul_of_pos_right m (by decide)) h
theorem shl_le15{y t:Nat}(h0:0<y)(h:y*2^t<65536):t≤15:=by
 have h1:2^t≤y*2^t:=Nat.le_mul_of_pos_left _ h0
 have h2:2^t<2^16:=Nat.lt_of_le_of_lt h1 h
 have:=(Nat.pow_lt_pow_iff_right (by decide:1<2)).1 h2
 omega
theorem trimk_calls(w:World)(a:Option Addr)(n cap:Nat)(zs:Nat→Nat)(hn:n≤4611686018427387904)(hcap:n≤cap)(h:Ws w a n zs):
 Calls Tryz.prog 146 #[.slice a n cap] w fun e w'=>e= .returned (.slice a (trimN zs n) cap)∧Kept w w':=
 (trim_calls w a n cap zs hn hcap h).mono fun _ _ ⟨h1,h2⟩=>⟨h1,h2▸Kept.refl _⟩
theorem ld_done2{B D n M Q L:Nat}{us qs:Nat→Nat}(h:LD B D n M Q L 0 us qs):val B us n=M%D:=by
 have hl:=h.lt
 have he:=h.eq
 simp only[Nat.zero_add,Nat.pow_zero,Nat.mul_one] at hl he
 rw[←he,Nat.add_mul_mod_self_right,Nat.mod_eq_of_lt hl]
set_option maxHeartbeats 4000000 in
set_option maxRecDepth 100000 in
theorem ndiv_long{w:World}{v:Value}{m:Nat}(n b off cap:Nat)(ys:Nat→Nat)
 (hv:Nt 65536 w v m)(hm:m<Mid)
 (hu:Nt 65536 w (.slice (some ⟨b,off,none⟩) n cap) (val 65536 ys n))
 (hn:2≤n)(hn1:n≤1024)(_hk0:0<val 65536 ys n)(hyl:∀i,i<n→ys i<65536)(hyt:0<ys (n-1))
 (hy:∀i,i<n→w.cell? ⟨b,off+i,none⟩=some (.int .u32 (ys i:Nat)))(hk:val 65536 ys n<Mid)(hle:val 65536 ys n≤m):
 Calls Tryz.prog 148 #[v,.slice (some ⟨b,off,none⟩) n cap] w (NRetQR (m/val 65536 ys n) (m%val 65536 ys n) w):=by
 have hcm:0≤cmpInt m (val 65536 ys n):=by unfold cmpInt;split<;>(try split)<;>omega
 have hcc:=ncmp_calls (.inl rfl) hv hu (mid_big hm)
 generalize cmpInt m (val 65536 ys n)=ci at*
 have hytl:=hyl (n-1) (by omega)
 have c1:=hy (n-1) (by omega)
 have HYL:=Lib.hid hyl;clear hyl
 have HY:=Lib.hid hy;clear hy
 have HM:=Lib.hid hm;clear hm
 have HK:=Lib.hid hk;clear hk
 have q0:((n:Int)==0)=false:=by simp;omega
 have q1:((n:Int)==1)=false:=by simp;omega
 obtain⟨y,hye⟩:∃y,y=ys (n-1):=⟨_,rfl⟩
 rw[←hye] at hyt hytl c1
 have HYE:=Lib.hid hye;clear hye
 go_enter Tryz.func148,Tryz.ntmps148
 go_wp2_with(go_at_call 207;refine hcc.mono ?_;rintro e w1 ⟨rfl,hk1⟩;have c2:=hk1.cell c1)
 go_loop [8] (fun sv=>∃t:Nat,sv= .int .i64 (t:Int)∧y*2^t<65536) (fun sv=>16-(intOf sv).toNat)
 case atStart=>exact⟨0,rfl,by simpa using hytl⟩
 case round=>
  obtain⟨s,rfl,hys⟩:=hrel
  have hs15:=shl_le15 hyt hys
  obtain⟨p,hp⟩:∃p,y*2^s=p:=⟨_,rfl⟩
  have hsh:(y:Int)*2^s%4294967296=(p:Int):=by
   rw[show(y:Int)*2^s=((y*2^s:Nat):Int) by simp,hp]
   exact mod_id (by omega)
  rw[hp] at hys
  have HP:=Lib.hid hp;clear hp
  by_cases hlt:p<32768
  ·have t1:decide ((p:Int)<32768)=true:=by simp;omega
   have HLT:=Lib.hid hlt;clear hlt
   have HYS:=Lib.hid hys;clear hys
   go_wp2
   go_round
   case rel=>exact⟨s+1,by go_num,by rw[Nat.pow_succ,←Nat.mul_assoc,HP.out];have:=HLT.out;omega⟩
   case measure=>simp[intOf];omega
  ·have t1:decide ((p:Int)<32768)=false:=by simp;omega
   have hroom:(y+1)*2^s≤65536:=shl_room (by omega) (by rw[HP.out];exact hys)
   obtain⟨hD1,hD2⟩:=ndivisor_facts (n:=n) (s:=s) (by omega) HYL.out (by rw[←HYE.out,HP.out];omega) (by rw[←HYE.out];exact hroom)
   have hKB:=mid_shl HK.out hs15
   have hMB:=mid_shl HM.out hs15
   generalize hke:val 65536 ys n=k at*
   clear hlt hys hroom
   go_wp2_with fail
   clear t1 hsh
   refine(nshl_calls (hu.kept hk1) (mid_big HK.out) hs15).mono ?_
   rintro e w2 ⟨vd,rfl,hvd,hk2⟩
   obtain⟨ad,nd,capd,ds,rfl,hcd,hdl,hdn,hdv,hdw⟩:=hvd
   obtain⟨rfl,hdt⟩:=ndivisor_digits (n:=n) (by omega) hdl hdn hdv hD1 hD2
   have hns:∀(ss:Nat→Nat)(ns:Nat),(∀i,i<ns→ss i<65536)→norm ss ns→val 65536 ss ns=m*2^s→nd≤ns∧ns≤1024:=fun ss ns h1 h2 h3=>by
    constructor
    ·by_cases h:ns<nd
     ·have a:=val_lt h1
      have b:(65536:Nat)^ns≤65536^(nd-1):=Nat.pow_le_pow_right (by decide) (by omega)
      have c:k*2^s≤m*2^s:=Nat.mul_le_mul_right _ hle
      have d:0<(65536:Nat)^(nd-1):=Nat.pow_pos (by decide)
      omega
     ·omega
    ·exact len_big (.inl rfl) h2 (by rw[h3];exact Nat.lt_of_le_of_lt (Nat.le_mul_of_pos_right _ (by decide)) hMB)
   have HNS:=Lib.hid hns;clear hns
   have HD1:=Lib.hid hD1;clear hD1
   have HD2:=Lib.hid hD2;clear hD2
   have HKB:=Lib.hid hKB;clear hKB
   have HMB:=Lib.hid hMB;clear hMB
   have HDL:=Lib.hid hdl;clear hdl
   have HDN:=Lib.hid hdn;clear hdn
   have HDV:=Lib.hid hdv;clear hdv
   have HDT:=Lib.hid hdt;clear hdt
   have HLE:=Lib.hid hle;clear hle
   go_wp2_with fail
   refine(nshl_own ((hv.kept hk1).kept hk2) (mid_big HM.out) hs15).mono ?_
   rintro e w3 ⟨vs,ns,ss,rfl,hap,hsl,hsn,hsv,hk3⟩
   obtain⟨hns1,hns2⟩:=HNS.out ss ns hsl hsn hsv
   have HSL:=Lib.hid hsl;clear hsl
   have HSV:=Lib.hid hsv;clear hsv
   clear hsn HNS
   have hap1:=hap.alloc (Obj.cells #[Value.int IntKind.u32 ((0:Nat):Int)] 212)
   have hkw1:Kept w2 (w3.alloc (Obj.cells #[Value.int IntKind.u32 ((0:Nat):Int)] 212)):=hk3.alloc _
   have hws1:=ws_one w3 0
   rw[show((0:Nat):Int)=0 from rfl] at hap1 hkw1 hws1
   obtain⟨sa,caps,rfl,hcaps,_⟩:=hap.ws
   have hmk:=fun w=>run_make_row' (P:=Tryz.prog) 53 212 (.int .u32 0) 4 Tryz.underlying53 info191 rfl .i64 .i64 (ns+1-nd) (by omega) (by omega) w
   have ec:((ns+1-nd:Nat):Int)=(ns:Int)+1-(nd:Int):=by omega
   rw[ec] at hmk
   clear ec
   go_wp2_with(at_builtin;refine wpList_append_words rfl (.tmp 56) (.tmp 57) 53 rfl Tryz.underlying53 w2 hkw1 _ ns ss rfl hap1 ⟨w3.heap.size,0,none⟩ 1 1 (fun _=>0) rfl hws1 (by omega) ?_;intro v4 w4 hap4 hk4;obtain⟨bu,capu,rfl,hcapu,hbu,hrow⟩:=hap4.rowP (by omega))
   clear hmk
   have hrow0:RowP w4 bu (ns+1) (cat ss ns fun _=>0):=hrow
   have hkw4:Kept w w4:=((hk1.trans hk2).trans hk4)
   have hkw5:=hkw4.alloc (.cells (madeCells #[.int .u32 0] (ns+1-nd)) 212)
   have hrq:=Row.made w4 (ns+1-nd)
   have hru:=hrow0.kept ((Kept.refl w4).alloc (.cells (madeCells #[.int .u32 0] (ns+1-nd)) 212))
   have hdw4:=(hdw.kept hk4).kept ((Kept.refl w4).alloc (.cells (madeCells #[.int .u32 0] (ns+1-nd)) 212))
   have hbqu:w4.heap.size≠bu:=Nat.ne_of_gt hrow0.lt
   have hbuw:w.heap.size≤bu:=Nat.le_trans (hk1.trans hk2).size hbu
   have hsz:w.heap.size≤w4.heap.size:=hkw4.size
   have hbd:∀i,i<nd→∃b off,ad=some ⟨b,off,none⟩∧b≠bu∧b≠w4.heap.size:=fun i hi=>by
    obtain⟨b',off',e,hcel⟩:=hdw i hi
    have hlt:=World.block_lt_of_cell? _ _ hcel
    have h4:=hk4.size
    exact⟨b',off',e,by intro e2;subst e2;exact absurd hbu (Nat.not_le_of_gt hlt),by intro e2;subst e2;exact absurd h4 (Nat.not_le_of_gt hlt)⟩
   have HBD:=Lib.hid hbd;clear hbd
   have hval:val 65536 (cat ss ns fun _=>0) (ns+1)=m*2^s:=by rw[cat_val,Nat.zero_mul,Nat.add_zero];exact HSV.out
   have hld:LD 65536 (k*2^s) nd (m*2^s) (ns+1-nd) (ns+1) (ns+1-nd) (cat ss ns fun _=>0) (fun _=>0):=by
    refine LD.start (by decide) (by omega) (cat_lt HSL.out (by decide)) ?_ hval
    rw[←HSV.out]
    exact ndividend_lt (val_lt HSL.out) (by omega) hns1 HD1.out
   have hDp:0<k*2^s:=Nat.lt_of_lt_of_le (Nat.mul_pos (by decide) (Nat.pow_pos (by decide))) HD1.out
   have hDn:k*2^s≤65536^nd:=Nat.le_of_lt HD2.out
   have hDP:=Lib.hid hDp;clear hDp
   have hDN:=Lib.hid hDn;clear hDn
   generalize w4.heap.size=bq at*
   clear hap hap1 hkw1 hws1 hap4 hrow hrow0 hdw hval hk4 hk3 hv hu hk1 hk2 c1 c2 hkw4
   go_loopw [13] (fun jv wr=>∃(t:Nat)(us qs:Nat→Nat),t≤ns+1-nd∧jv= .int .i64 ((t:Int)-1)∧LD 65536 (k*2^s) nd (m*2^s) (ns+1-nd) (ns+1) t us qs∧RowP wr bu (ns+1) us∧Row wr bq (ns+1-nd) qs∧Ws wr ad nd ds∧Kept w wr) (fun jv _=>(intOf jv+1).toNat)
   case atStart=>exact⟨ns+1-nd,_,_,Nat.le_refl _,by first|rfl|go_num|(congr 1;omega),hld,hru,hrq,hdw4,hkw5⟩
   case round=>
    clear hld hru hrq hdw4 hkw5
    obtain⟨t,us,qs,ht,rfl,hld,hru,hrq,hdw,hkw⟩:=hrel
    have HLD:=Lib.hid hld;clear hld
    cases t with
    |zero=>
     have hdone:=HLD.out.done (by omega)
     have hlu:=HLD.out.ult
     have hlq:=HLD.out.qlt
     have hMD:m*2^s/(k*2^s)=m/k∧m*2^s%(k*2^s)=m%k*2^s:=⟨Nat.mul_div_mul_right _ _ (Nat.pow_pos (by decide)),Nat.mul_mod_mul_right ..⟩
     have hdone2:=ld_done2 HLD.out
     rw[hMD.1] at hdone
     rw[hMD.2] at hdone2
     have hd1:=hdone.1
     have hrem:m%k*2^s<Big:=Nat.lt_of_le_of_lt (Nat.mul_le_mul_right _ (Nat.mod_le m k)) (Nat.lt_of_le_of_lt (Nat.le_mul_of_pos_right _ (by decide)) HMB.out)
     have HREM:=Lib.hid hrem
     have HD1:=Lib.hid hd1
     have HD2:=Lib.hid hdone2
     have HLU:=Lib.hid hlu
     have HLQ:=Lib.hid hlq
     clear hdone hMD hrem hd1 hdone2 hlu hlq
     have b1:(nd:Int)≤(capu:Int):=by omega
     have b2:(0:Int)≤(nd:Int):=by omega
     go_wp2_with fail
     go_region_held3 (fun w'=>Kept wr w')
      (first|exact(Kept.refl wr).drew|exact ‹Kept wr _›)
      (first|(go_at_call 146;refine(trimk_calls _ _ nd capu us (by omega) (by omega) ((hru.kept hS6).ws (by omega))).mono ?_;rintro e w7 ⟨rfl,hk7⟩;have hS7:Kept wr w7:=hS6.trans hk7;have hnu:=nt_of (B:=65536) (n:=nd) (cap:=capu) (by omega) (fun i hi=>HLU.out i (by omega)) ((hru.kept hS7).ws (by omega));rw[HD2.out] at hnu)|(go_at_call 146;refine(trimk_calls _ _ (ns+1-nd) (ns+1-nd) qs (by omega) (Nat.le_refl _) ((hrq.kept (Kept.refl wr).drew).ws (Nat.le_refl _))).mono ?_;rintro e w6 ⟨rfl,hk6⟩;have hS6:Kept wr w6:=(Kept.refl wr).drew.trans hk6)|(go_at_call 213;refine(nshr_calls hnu HREM.out hs15).mono ?_;rintro e w8 ⟨v8,rfl,hv8,hk8⟩;have hS8:Kept wr w8:=hS7.trans hk8))
     go_wp2
     go_ret2
     rw[Nat.mul_div_cancel _ (Nat.pow_pos (by decide))] at hv8
     have hnq:=nt_of (B:=65536) (cap:=ns+1-nd) (Nat.le_refl _) (fun i _=>HLQ.out i) ((hrq.kept hS8).ws (Nat.le_refl _))
     rw[HD1.out] at hnq
     exact⟨_,_,rfl,hnq,hv8,hkw.trans hS8⟩
    |succ t=>
     rcases hdw.open with h0|⟨_,bd,offd,rfl,hdc⟩
     ·omega
     obtain⟨hbdu,hbdq⟩:bd≠bu∧bd≠bq:=by
      obtain⟨b',off',e,hne⟩:=HBD.out 0 (by omega)
      cases e
      exact hne
     have hKn:Kn 65536 (win us t) ds nd:=⟨hn,by decide,HDL.out,fun i hi=>HLD.out.ult (t+i) (by omega),HDT.out,by rw[HDV.out];exact HLD.out.window (by decide)⟩
     have hqc:=hrq.cell (i:=t) (by omega)
     have hdnt:Nt 65536 wr (.slice (some ⟨bd,offd,none⟩) nd capd) (val 65536 ds nd):=⟨_,nd,capd,ds,rfl,hcd,HDL.out,HDN.out,rfl,hdw⟩
     have hwb:val 65536 (win us t) (nd+1)<Big:=by
      have h1:=HLD.out.window (k:=t) (by decide)
      exact Nat.lt_trans h1 HKB.out
     have hdg:=ndigit_calls wr bu (ns+1) t (capu-t) bd offd capd nd us ds (by omega) (by omega) (by omega) (by omega) hbdu hKn hru HLD.out.ult hdc hdnt (by rw[HDV.out];exact Nat.lt_of_le_of_lt (Nat.le_mul_of_pos_right _ (by decide)) HKB.out) hwb
     rw[show nd+1=t+nd+1-t by omega] at hdg
     clear hdnt hdc
     have HWB:=Lib.hid hwb;clear hwb
     go_wp2_with fail
     refine hdg.mono ?_
     rintro e w5 ⟨rfl,us',hr5,hl5,hs5,hv5,hkb5⟩
     have hrq5:=hrq.keptB hkb5 (fun e=>hbqu e)
     have hqc5:=hrq5.cell (i:=t) (by omega)
     have hqf5:=hrq5.frozen t
     have hql:val 65536 (win us t) (nd+1)/val 65536 ds nd<65536:=hKn.qlt
     have hst:=Lib.hid (HLD.out.step (by decide) hDP.out hDN.out (by omega) (by omega) hl5 hs5 (by rw[←HDV.out];exact hv5))
     rw[←HDV.out] at hst
     generalize val 65536 (win us t) (nd+1)/val 65536 ds nd=q at*
     clear hdg hv5 hKn
     go_wp2
     go_roundw
     case rel=>
      refine⟨t,us',upd qs t q,by omega,rfl,by rw[←HDV.out];exact hst.out,hr5.setOther (fun e=>hbqu e.symm) _,hrq5.set _ _,?_,(hkw.but hkb5 hbuw).setCell (by simpa using hsz) _⟩
      exact(hdw.keptB hkb5 (fun i hi=>⟨bd,offd,rfl,hbdu⟩)).setOther (fun i hi=>⟨bd,offd,rfl,hbdq⟩) _
     case measure=>simp[intOf]
theorem ndiv_calls{w:World}{v u:Value}{m k:Nat}(hv:Nt 65536 w v m)(hu:Nt 65536 w u k)(hm:m<Mid)(hk:k<Mid)(hk0:0<k):
 Calls Tryz.prog 148 #[v,u] w (NRetQR (m/k) (m%k) w):=by
 by_cases h1:m<k
 ·rw[Nat.div_eq_of_lt h1,Nat.mod_eq_of_lt h1]
  exact ndiv_less hv hu (mid_big hm) h1
 ·by_cases h2:k<65536
  ·exact ndiv_one hv hu (mid_big hm) (by omega) hk0 h2
  ·have huu:=hu
   obtain⟨b,n,cap,ys,rfl,hcb,hyd,hyn,rfl,hyw⟩:=hu
   have hn2:2≤n:=by
    match n,hyd with
    |0,_=>simp[val] at hk0
    |1,hyd=>have:=hyd 0 (by omega);simp[val] at h2;omega
    |n+2,_=>omega
   rcases hyw.open with h0|⟨_,bb,off,rfl,hy⟩
   ·omega
   ·exact ndiv_long n bb off cap ys hv hm huu hn2 (len_big (.inl rfl) hyn (mid_big hk)) hk0 hyd (by rcases hyn with h|h<;>omega) hy hk (by omega)
set_option maxHeartbeats 1000000 in
theorem ngcd_calls{w:World}{v u:Value}{m k:Nat}(hv:Nt 65536 w v m)(hu:Nt 65536 w u k)(hm:m<Mid)(hk:k<Mid):
 Calls Tryz.prog 147 #[v,u] w (RetNt 65536 (Nat.gcd k m) w):=by
 go_enter Tryz.func147,Tryz.ntmps147
 go_wp2
 go_loopg [0,1] k (fun y a b wr=>∃x:Nat,Nt 65536 wr a x∧Nt 65536 wr b y∧x<Mid∧y<Mid∧Nat.gcd y x=Nat.gcd k m∧Kept w wr)
 case atStart=>exact⟨m,hv,hu,hm,hk,rfl,Kept.refl _⟩
 case round=>
  obtain⟨x,hx,hy,hxb,hyb,hg,hkw⟩:=hrel
  have HG:=Lib.hid hg;clear hg
  have hyy:=hy
  obtain⟨ab,n,cap,ys,rfl,hc,hd,hn,hyv,hw⟩:=hyy
  have hz:=val_eq_zero (B:=65536) (by decide) hn
  rw[hyv] at hz
  have HZ:=Lib.hid hz;clear hz hyv hd hn hw
  by_cases h0:gk=0
  ·subst h0
   obtain rfl:n=0:=HZ.out.1 rfl
   go_wp2
   go_ret
   refine⟨_,rfl,?_,hkw⟩
   rw[←HG.out,Nat.gcd_zero_left]
   exact hx
  ·have hn0:0<n:=by have:=HZ.out;omega
   go_wp2_with(go_at_call 148;refine(ndiv_calls hx hy hxb hyb (by omega)).mono ?_;rintro e w1 ⟨v1,v2,rfl,_,h2,hk1⟩)
   go_roundg (x%gk)
   case measure=>exact Nat.mod_lt _ (by omega)
   case rel=>exact⟨gk,hy.kept hk1,h2,hyb,Nat.lt_of_le_of_lt (Nat.mod_le _ _) hxb,by rw[←Nat.gcd_rec];exact HG.out,hkw.trans hk1⟩
def Qv(w:World)(v:Value)(neg:Bool)(n d:Nat):Prop:=∃vn vd,v= .agg #[.bool neg,vn,vd]∧Nt 65536 w vn n∧Nt 65536 w vd d
theorem Qv.kept{w w':World}{v:Value}{neg:Bool}{n d:Nat}(h:Qv w v neg n d)(k:Kept w w'):Qv w' v neg n d:=by
 obtain⟨vn,vd,h1,h2,h3⟩:=h
 exact⟨vn,vd,h1,h2.kept k,h3.kept k⟩
def RetQ(neg:Bool)(n d:Nat)(w:World)(e:Ending)(w':World):Prop:=∃v,e= .returned v∧Qv w' v neg n d∧Kept w w'
theorem nt_len{w:World}{a:Option Addr}{n cap m:Nat}(h:Nt 65536 w (.slice a n cap) m):(m=0↔n=0)∧(∀L,n≤L↔m<65536^L):=by
 obtain⟨a',n',cap',xs,e,hc,hd,hn,rfl,hw⟩:=h
 cases e
 refine⟨⟨fun h=> ?_,fun h=>by subst h;rfl⟩,fun L=>⟨fun h=>Nat.lt_of_lt_of_le (val_lt hd) (Nat.pow_le_pow_right (by decide) h),len_le_of_lt (by decide) hn⟩⟩
 have hz:=val_eq_zero (B:=65536) (by decide) hn
 exact hz.1 h
set_option maxHeartbeats 1000000 in
theorem den_calls{w:World}{v:Value}{neg:Bool}{n d:Nat}(h:Qv w v neg n d):Calls Tryz.prog 205 #[v] w (RetNt 65536 (dn d) w):=by
 obtain⟨vn,vd,rfl,hn,hd⟩:=h
 obtain⟨a,nn,capn,rfl⟩:=hn.shape
 obtain⟨ad,nd,capd,rfl⟩:=hd.shape
 have hz:=(nt_len hd).1
 have hk0:Kept w (w.alloc (.cells #[.bool neg,.slice a nn capn,.slice ad nd capd] 55)):=(Kept.refl w).alloc _
 by_cases h0:nd=0
 ·have hd0:=hz.2 h0
  subst hd0 h0
  have hof:=natof_calls (w.alloc (.cells #[.bool neg,.slice a nn capn,.slice ad 0 capd] 55)) 1 (by decide)
  clear hz
  go_enter Tryz.func205,Tryz.ntmps205
  go_wp2_with(go_at_call 72;refine hof.mono ?_;rintro e w1 ⟨v1,rfl,hv1,hk1⟩)
  go_ret
  exact⟨_,rfl,hv1,hk0.trans hk1⟩
 ·have q0:((nd:Int)==0)=false:=by simp;omega
  have hdn:dn d=d:=by unfold dn;rw[if_neg (fun e=>h0 (hz.1 e))]
  rw[hdn]
  clear hz hdn
  go_enter Tryz.func205,Tryz.ntmps205
  go_wp2
  go_ret
  exact⟨_,rfl,hd.kept hk0,hk0⟩
set_option maxHeartbeats 1000000 in
theorem qsgn_calls{w:World}{v:Value}{neg:Bool}{n d:Nat}(h:Qv w v neg n d):
 Calls Tryz.prog 74 #[v] w fun e w'=>e= .returned (.int .i64 (sgn neg n))∧Kept w w':=by
 obtain⟨vn,vd,rfl,hn,hd⟩:=h
 obtain⟨a,nn,capn,rfl⟩:=hn.shape
 obtain⟨ad,nd,capd,rfl⟩:=hd.shape
 have hz:=(nt_len hn).1
 by_cases h0:nn=0
 ·have hd0:=hz.2 h0
  subst hd0 h0
  clear hz
  go_enter Tryz.func74,Tryz.ntmps74
  go_wp2
  go_ret
  exact⟨rfl,(Kept.refl _).alloc _⟩
 ·have q0:((nn:Int)==0)=false:=by simp;omega
  have hn0:n≠0:=fun e=>h0 (hz.1 e)
  have HN0:=Lib.hid hn0
  clear hz hn0
  cases neg
  ·go_enter Tryz.func74,Tryz.ntmps74
   go_wp2
   go_ret
   exact⟨by simp[sgn,HN0.out],(Kept.refl _).alloc _⟩
  ·go_enter Tryz.func74,Tryz.ntmps74
   go_wp2
   go_ret
   exact⟨by simp[sgn,HN0.out],(Kept.refl _).alloc _⟩
theorem p2048':(65536:Nat)^128=pwr 2 2048:=pwr16 128 2048 rfl
theorem p8192'{L:Nat}(h:L=512):(65536:Nat)^L=pwr 2 8192:=pwr16 L 8192 (by omega)
set_option maxHeartbeats 1000000 in
theorem over_calls{w:World}{v:Value}{neg:Bool}{n d:Nat}(h:Qv w v neg n d):
 Calls Tryz.prog 142 #[v] w fun e w'=>e= .returned (.bool (!(fits32 n&&fits32 d)))∧Kept w w':=by
 obtain⟨vn,vd,rfl,hn,hd⟩:=h
 obtain⟨a,nn,capn,rfl⟩:=hn.shape
 obtain⟨ad,nd,capd,rfl⟩:=hd.shape
 have e1:fits32 n=decide (nn≤128):=by unfold fits32;rw[←p2048',Bool.eq_iff_iff];simp only[decide_eq_true_eq];exact((nt_len hn).2 128).symm
 have e2:fits32 d=decide (nd≤128):=by unfold fits32;rw[←p2048',Bool.eq_iff_iff];simp only[decide_eq_true_eq];exact((nt_len hd).2 128).symm
 rw[e1,e2]
 clear hn hd e1 e2
 by_cases h1:nn≤128
 ·have t1:decide (128<(nn:Int))=false:=by simp;omega
  by_cases h2:nd≤128
  ·have t2:decide (128<(nd:Int))=false:=by simp;omega
   go_enter Tryz.func142,Tryz.ntmps142
   go_wp2
   go_ret
   exact⟨by simp[h1,h2],(Kept.refl _).alloc _⟩
  ·have t2:decide (128<(nd:Int))=true:=by simp;omega
   go_enter Tryz.func142,Tryz.ntmps142
   go_wp2
   go_ret
   exact⟨by simp[h2],(Kept.refl _).alloc _⟩
 ·have t1:decide (128<(nn:Int))=true:=by simp;omega
  go_enter Tryz.func142,Tryz.ntmps142
  go_wp2
  go_ret
  exact⟨by simp[h1],(Kept.refl _).alloc _⟩
theorem ws_pair(w:World)(x y:Nat):Ws (w.alloc (Obj.cells #[Value.int IntKind.u32 (x:Int),Value.int IntKind.u32 (y:Int)] 212)) (some ⟨w.heap.size,0,none⟩) 2 (fun i=>if i=0 then x else y):=by
 have h:(w.alloc (Obj.cells #[Value.int IntKind.u32 (x:Int),Value.int IntKind.u32 (y:Int)] 212)).rowIs w.heap.size 212 2 (fun j=>.int .u32 (((if j=0 then x else y:Nat)))):=
  World.rowIs_alloc w _ 212 _ fun i hi=>by
   match i,hi with
   |0,_=>rfl
   |1,_=>rfl
 exact Row.ws h (Nat.le_refl _)
structure WdI(xs:Nat→Nat)(k:Nat)(zs:Nat→Nat):Prop where
 lt:∀i,i<2*k→zs i<65536
 eq:val 65536 zs (2*k)=val 4294967296 xs k
theorem pow_two32(k:Nat):(4294967296:Nat)^k=65536^(2*k):=by rw[Nat.pow_mul]
theorem WdI.step{xs zs:Nat→Nat}{k:Nat}(h:WdI xs k zs)(hx:xs k<4294967296):
 WdI xs (k+1) (cat zs (2*k) fun i=>if i=0 then xs k%65536 else xs k/65536):=by
 have e0:cat zs (2*k) (fun i=>if i=0 then xs k%65536 else xs k/65536) (2*k)=xs k%65536:=by simp[cat]
 have e1:cat zs (2*k) (fun i=>if i=0 then xs k%65536 else xs k/65536) (2*k+1)=xs k/65536:=by
  simp only[cat]
  rw[if_neg (by omega),if_neg (by omega)]
 have ev:val 65536 (cat zs (2*k) fun i=>if i=0 then xs k%65536 else xs k/65536) (2*k)=val 65536 zs (2*k):=val_congr fun i hi=>by simp[cat,hi]
 refine⟨fun i hi=> ?_,?_⟩
 ·by_cases h1:i<2*k
  ·simp only[cat,if_pos h1];exact h.lt i h1
  ·by_cases h2:i=2*k
   ·rw[h2,e0];exact Nat.mod_lt _ (by decide)
   ·rw[show i=2*k+1 by omega,e1];omega
 ·rw[show 2*(k+1)=2*k+1+1 by omega]
  simp only[val]
  rw[ev,e0,e1,h.eq,pow_two32,Nat.pow_succ]
  have hm:=Nat.mod_add_div (xs k) 65536
  generalize xs k%65536=r at*
  generalize xs k/65536=q at*
  generalize 65536^(2*k)=P at*
  rw[←hm]
  grind
set_option maxHeartbeats 1000000 in
set_option maxRecDepth 100000 in
theorem words_calls{w:World}{v:Value}{N:Nat}(h:Raw w v N):Calls Tryz.prog 71 #[v] w (RetAp N w):=by
 obtain⟨a,n,cap,xs,rfl,hc,hn,hxl,rfl,hw⟩:=h
 have HXL:=Lib.hid hxl;clear hxl
 have HW:=Lib.hid hw;clear hw
 go_enter Tryz.func71,Tryz.ntmps71
 go_wp2
 go_loopw [3,8] (fun ov iv wr=>∃(k:Nat)(zs:Nat→Nat),k≤n∧iv= .int .i64 (k:Int)∧WdI xs k zs∧Ap wr w.heap.size ov (2*k) zs∧Kept w wr) (fun _ iv _=>n-(intOf iv).toNat)
 case atStart=>exact⟨0,fun _=>0,Nat.zero_le _,rfl,⟨fun _ h=>by omega,rfl⟩,Ap.nil _ _ _,Kept.refl _⟩
 case round=>
  obtain⟨k,zs,hk,rfl,hwd,hap,hkw⟩:=hrel
  have HWD:=Lib.hid hwd;clear hwd
  by_cases hlt:k<n
  ·obtain⟨b,off,rfl,hcx⟩:=(HW.out.kept hkw) k hlt
   have hxk:=HXL.out k hlt
   have hap1:=hap.alloc (Obj.cells #[Value.int IntKind.u32 ((xs k%65536:Nat):Int),Value.int IntKind.u32 ((xs k/65536:Nat):Int)] 212)
   have hkw1:=hkw.alloc (Obj.cells #[Value.int IntKind.u32 ((xs k%65536:Nat):Int),Value.int IntKind.u32 ((xs k/65536:Nat):Int)] 212)
   have hws1:=ws_pair wr (xs k%65536) (xs k/65536)
   have e1:((xs k%65536:Nat):Int)=(xs k:Int)%65536:=by omega
   have e2:((xs k/65536:Nat):Int)=(xs k:Int)/65536:=by omega
   rw[e1,e2] at hap1 hkw1 hws1
   clear e1 e2
   go_wp2_with(at_builtin;refine wpList_append_words rfl (.tmp 12) (.tmp 17) 53 rfl Tryz.underlying53 w hkw1 _ (2*k) zs rfl hap1 ⟨wr.heap.size,0,none⟩ 2 2 _ rfl hws1 (by omega) ?_;intro v' w1 hap2 hkw2)
   go_roundw
   case rel=>exact⟨k+1,_,by omega,by go_num,HWD.out.step hxk,hap2,hkw2⟩
   case measure=>simp[intOf];omega
  ·obtain rfl:n=k:=by omega
   obtain⟨av,capv,rfl,hcapv,hwsv⟩:=hap.ws
   go_wp2_with(go_at_call 146;refine(trim_calls _ _ (2*n) _ zs (by omega) hcapv hwsv).mono ?_;rintro e w' ⟨rfl,rfl⟩)
   go_ret
   exact⟨_,_,_,rfl,hap.cut (trimN_le _ _),fun i hi=>HWD.out.lt i (Nat.lt_of_lt_of_le hi (trimN_le _ _)),trimN_norm _ _,by rw[trimN_val];exact HWD.out.eq,hkw⟩
theorem Raw.shape'{w:World}{v:Value}{m:Nat}(h:Raw w v m):∃(a:Option Addr)(n cap:Nat)(_zs:Nat→Nat),v= .slice a n cap∧True:=by
 obtain⟨a,n,cap,zs,h,_⟩:=h
 exact⟨a,n,cap,zs,h,trivial⟩
theorem wordsn_calls{w:World}{v:Value}{N:Nat}(h:Raw w v N):Calls Tryz.prog 71 #[v] w (RetNt 65536 N w):=(words_calls h).mono fun _ _ h=>h.nt
set_option maxHeartbeats 1000000 in
theorem zeroq_calls{w:World}{v:Value}{neg:Bool}{N D:Nat}(h:Rt w v neg N D):
 Calls Tryz.prog 203 #[v] w fun e w'=>e= .returned (.bool (decide (N=0)))∧Kept w w':=by
 obtain⟨vn,vd,rfl,hn,hd⟩:=h
 obtain⟨a,n,cap,xs,rfl,_⟩:=hn.shape'
 obtain⟨ad,nd,capd,ys,rfl,_⟩:=hd.shape'
 have hk0:Kept w (w.alloc (.cells #[.bool neg,.slice a n cap,.slice ad nd capd] 24)):=(Kept.refl w).alloc _
 have hwd:=wordsn_calls (hn.kept hk0)
 go_enter Tryz.func203,Tryz.ntmps203
 go_wp2_with(go_at_call 71;refine hwd.mono ?_;rintro e w1 ⟨v1,rfl,hv1,hk1⟩;obtain⟨a1,n1,c1,rfl⟩:=hv1.shape;have hz:=(nt_len hv1).1)
 go_ret
 refine⟨ret_bool ?_,hk0.trans hk1⟩
 rw[Bool.eq_iff_iff]
 simp only[decide_eq_true_eq,beq_iff_eq]
 constructor
 ·intro h;exact hz.2 (by omega)
 ·intro h;have:=hz.1 h;omega
end Go.Proofs.YtancebninmoipaaGreatDoor
