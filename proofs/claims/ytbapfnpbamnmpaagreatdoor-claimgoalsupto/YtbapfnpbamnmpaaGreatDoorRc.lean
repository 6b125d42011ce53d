/- A part of the proof that ClaimGoals answers true for every input of bulk at most 1048576: conditions: the row's own. -/
import Derived.Test.YtbapfnpbamnmpaaGreatDoorRa
import Derived.Deep.Light
import Derived.Laws.Bits128
namespace Go.Proofs.YtbapfnpbamnmpaaGreatDoor
open Go Go.RowKit Go.Dig
open Go.Eng (Kept KW KeptB)
theorem i64_and65535(n:Int):bits .and .i64 n 65535=n%65536:=by
 have h16:(BitVec.ofInt 64 65535).toNat=2^16-1:=by decide
 have key:(BitVec.ofInt 64 n &&& BitVec.ofInt 64 65535).toNat=(n%((2^64:Nat):Int)).toNat%2^16:=by
  rw[BitVec.toNat_and,BitVec.toNat_ofInt,h16,Nat.and_two_pow_sub_one_eq_mod]
 show IntKind.i64.wrap ((BitVec.ofInt 64 n &&& BitVec.ofInt 64 65535).toNat:Nat)=n%65536
 rw[key,IntKind.wrap_i64]
 omega
structure OwI(us vs:Nat→Nat)(g i:Nat)(zs:Nat→Nat)(o:Int):Prop where
 lt:∀k,k<i→zs k<65536
 same:∀k,i≤k→zs k=us k
 lo: -65536≤o
 hi:o≤0
 eq:(val 65536 zs i:Int)+o*(65536^i:Nat)=(val 65536 us i:Int)-(g:Int)*(val 65536 vs i:Int)
theorem OwI.step{us vs zs:Nat→Nat}{g i z:Nat}{o:Int}(h:OwI us vs g i zs o)(hg:g<65536)(hu:us i<65536)(hv:vs i<65536)
 (hz:(z:Int)=((us i:Int)+o-(g:Int)*(vs i:Int))%65536):OwI us vs g (i+1) (upd zs i z) (((us i:Int)+o-(g:Int)*(vs i:Int))/65536):=by
 have hlo:=h.lo
 have hhi:=h.hi
 have hgv:(g:Int)*(vs i:Int)≤65535*65535:=by
  have:g*vs i≤65535*65535:=Nat.mul_le_mul (by omega) (by omega)
  have e:((g*vs i:Nat):Int)=(g:Int)*(vs i:Int):=by simp
  omega
 have hgv0:0≤(g:Int)*(vs i:Int):=by
  have e:((g*vs i:Nat):Int)=(g:Int)*(vs i:Int):=by simp
  omega
 refine⟨fun k hk=> ?_,fun k hk=> ?_,by omega,by omega,?_⟩
 ·unfold upd;split
  ·omega
  ·exact h.lt k (by omega)
 ·rw[upd_other _ (by omega)];exact h.same k (by omega)
 ·have e:=h.eq
  have hm:=Int.emod_add_mul_ediv ((us i:Int)+o-(g:Int)*(vs i:Int)) 65536
  rw[val_upd_top]
  simp only[val]
  rw[Nat.pow_succ]
  generalize ((us i:Int)+o-(g:Int)*(vs i:Int))/65536=o' at*
  generalize hr:((us i:Int)+o-(g:Int)*(vs i:Int))%65536=r at*
  generalize (65536^i:Nat)=P at*
  simp only[Int.natCast_add,Int.natCast_mul]
  rw[hz]
  have e2:(r+65536*o')*(P:Int)=((us i:Int)+o-(g:Int)*(vs i:Int))*(P:Int):=by rw[hm]
  grind
theorem OwI.done{us vs zs:Nat→Nat}{g n:Nat}{o:Int}(h:OwI us vs g n zs o)(hle:g*val 65536 vs n≤val 65536 us n):
 val 65536 zs n=val 65536 us n-g*val 65536 vs n:=by
 have e:=h.eq
 have h1:=val_lt h.lt
 have hlo:=h.lo
 have hhi:=h.hi
 have ec:((g*val 65536 vs n:Nat):Int)=(g:Int)*(val 65536 vs n:Int):=by simp
 generalize hP:(65536^n:Nat)=P at*
 have ho:o=0:=by
  by_cases h0:o=0
  ·exact h0
  ·have h2:o*(P:Int)≤ -1*(P:Int):=Int.mul_le_mul_of_nonneg_right (by omega) (by omega)
   omega
 subst ho
 omega
def NDigitRet(bu L j n:Nat)(zs ds:Nat→Nat)(w:World)(e:Ending)(w':World):Prop:=
 e= .returned (.int .u32 ((val 65536 (win zs j) (n+1)/val 65536 ds n:Nat):Int))∧
 ∃zs',RowP w' bu L zs'∧(∀k,k<L→zs' k<65536)∧(∀k,k<j∨j+n<k→zs' k=zs k)∧val 65536 (win zs' j) (n+1)=val 65536 (win zs j) (n+1)%val 65536 ds n∧KeptB w w' bu
end Go.Proofs.YtbapfnpbamnmpaaGreatDoor
namespace Go.Eng
open Go Go.RowKit Go.Dig
theorem Kept.toB{w w':World}(h:Kept w w')(b:Nat):KeptB w w' b:=⟨h.size,fun c hc _=>h.old c hc,h.tape,h.os,h.output⟩
end Go.Eng
namespace Go.Proofs.YtbapfnpbamnmpaaGreatDoor
open Go Go.RowKit Go.Dig
open Go.Eng (Kept KW KeptB)
set_option maxHeartbeats 4000000 in
set_option maxRecDepth 100000 in
theorem ndigit_calls(w:World)(bu L j capu bd offd capd n:Nat)(zs ds:Nat→Nat)(hn:n≤1500)(hL:L≤4096)(hj:j+n<L)(hcap:n+1≤capu)(hbb:bd≠bu)
 (hK:Kn 65536 (win zs j) ds n)(hrow:RowP w bu L zs)(hzl:∀k,k<L→zs k<65536)
 (hd:∀i,i<n→w.cell? ⟨bd,offd+i,none⟩=some (.int .u32 (ds i:Nat)))(hdn:Nt 65536 w (.slice (some ⟨bd,offd,none⟩) n capd) (val 65536 ds n))(hdB:val 65536 ds n<Big)(hUB:val 65536 (win zs j) (n+1)<Big):
 Calls Tryz.prog 366 #[.slice (some ⟨bu,j,none⟩) (n+1) capu,.slice (some ⟨bd,offd,none⟩) n capd] w (NDigitRet bu L j n zs ds w):=by
 have hn2:=hK.two
 have c0:=hrow.cell (i:=j+n) (by omega)
 have c1:=hrow.cell (i:=j+(n-1)) (by omega)
 have d1:=hd (n-1) (by omega)
 have l0:=hzl (j+n) (by omega)
 have l1:=hzl (j+(n-1)) (by omega)
 have m1:=hK.dlt (n-1) (by omega)
 have m0:=hK.d1pos
 have hwin:Ws w (some ⟨bu,j,none⟩) (n+1) (win zs j):=fun i hi=>⟨bu,j,rfl,hrow.cell (by omega)⟩
 have hwl:∀i,i<n+1→win zs j i<65536:=hK.ult
 have HWIN:=Lib.hid hwin;clear hwin
 have HWL:=Lib.hid hwl;clear hwl
 have HDN:=Lib.hid hdn;clear hdn
 have HDB:=Lib.hid hdB;clear hdB
 have HUB:=Lib.hid hUB;clear hUB
 have HD:=Lib.hid hd;clear hd
 have HZ:=Lib.hid hzl;clear hzl
 obtain⟨g0,hg0⟩:∃g0,g0=(zs (j+n)*65536+zs (j+(n-1)))/ds (n-1):=⟨_,rfl⟩
 have hq0:val 65536 (win zs j) (n+1)/val 65536 ds n≤g0:=by rw[hg0];exact hK.first
 have hql:=hK.qlt
 have hg0I:((zs (j+n):Int)*65536+(zs (j+(n-1)):Int))/(ds (n-1):Int)=(g0:Int):=by rw[hg0];simp
 have hg0b:g0<4294967296:=by
  rw[hg0]
  exact Nat.lt_of_le_of_lt (Nat.div_le_self _ _) (by omega)
 have HG0:=Lib.hid hg0;clear hg0
 have HQ0:=Lib.hid hq0;clear hq0
 have HQL:=Lib.hid hql;clear hql
 by_cases hbig:65536≤g0
 ·have HBIG:=Lib.hid hbig
  have tst:decide ((65536:Int)≤(g0:Int))=true:=by simp;omega
  clear hbig
  go_enter Tryz.func366,Tryz.ntmps366
  go_wp2
  go_quiet (fail)
  go_wp2
  have HG0I:=Lib.hid hg0I
  clear c0 c1 d1 l0 l1 m1 m0 hg0I tst
  go_loopw [7] (fun gv wr=>∃g:Nat,gv= .int .u64 (g:Int)∧val 65536 (win zs j) (n+1)/val 65536 ds n≤g∧g<65536∧Kept w wr) (fun gv _=>(intOf gv).toNat)
  case atStart=>exact⟨65535,by first|rfl|(congr 1<;>exact HG0I.out),by have:=HQL.out;omega,by omega,(Kept.refl w).drewN _⟩
  case round=>
   obtain⟨g,rfl,hqg,hgl,hkw⟩:=hrel
   have hls:=less_calls bu j capu (n+1) (win zs j) (by omega) hcap HWL.out (HWIN.out.kept hkw) (HDN.out.kept hkw) HDB.out hgl HUB.out
   by_cases hlt:val 65536 (win zs j) (n+1)<val 65536 ds n*g
   ·rw[show decide (val 65536 (win zs j) (n+1)<val 65536 ds n*g)=true from by simpa using hlt] at hls
    have hg1:val 65536 (win zs j) (n+1)/val 65536 ds n≤g-1:=Nat.le_sub_one_of_lt (Nat.div_lt_of_lt_mul hlt)
    have hg0:1≤g:=by
     rcases Nat.eq_zero_or_pos g with h|h
     ·rw[h] at hlt;simp at hlt
     ·exact h
    have HQG:=Lib.hid hg1
    clear hqg hlt hg1
    go_wp2_with(go_at_call 400;refine hls.mono ?_;rintro e w1 ⟨rfl,hk1⟩)
    go_roundw
    case rel=>exact⟨g-1,by congr 1;omega,HQG.out,by omega,hkw.trans hk1⟩
    case measure=>simp[intOf];omega
   ·rw[show decide (val 65536 (win zs j) (n+1)<val 65536 ds n*g)=false from by simpa using hlt] at hls
    have hgq:g=val 65536 (win zs j) (n+1)/val 65536 ds n:=by
     refine Nat.le_antisymm ?_ hqg
     exact(Nat.le_div_iff_mul_le hK.dpos).2 (by rw[Nat.mul_comm];omega)
    have hmul:g*val 65536 ds n≤val 65536 (win zs j) (n+1):=by rw[Nat.mul_comm];omega
    have HGQ:=Lib.hid hgq
    have HMUL:=Lib.hid hmul
    clear hqg hlt hgq hmul
    go_wp2_with(go_at_call 400;refine hls.mono ?_;rintro e w1 ⟨rfl,hk1⟩)
    have hkw1:=hkw.trans hk1
    clear hls hk1
    have hrow1:=hrow.kept hkw1
    have HD1:Hid (∀i,i<n→w1.cell? ⟨bd,offd+i,none⟩=some (.int .u32 (ds i:Nat))):=Lib.hid (fun i hi=>hkw1.cell (HD.out i hi))
    go_loopw [8,44] (fun ov iv wr=>∃(i:Nat)(o:Int)(ts:Nat→Nat),i≤n+1∧iv= .int .i64 (i:Int)∧ov= .int .i64 o∧OwI (win zs j) (ext ds n) g i (win ts j) o∧(∀k,k<L→ts k<65536)∧(∀k,k<j∨j+n<k→ts k=zs k)∧RowP wr bu L ts∧KeptB w wr bu) (fun _ iv _=>n+1-(intOf iv).toNat)
    case atStart=>exact⟨0,0,zs,Nat.zero_le _,rfl,rfl,⟨fun _ h=>by omega,fun _ _=>rfl,by omega,by omega,by simp[val]⟩,HZ.out,fun _ _=>rfl,hrow1,hkw1.toB bu⟩
    case round=>
     obtain⟨i,o,ts,hi,rfl,rfl,how,htl,hts,hrw,hkb⟩:=hrel
     have HTL:=Lib.hid htl;clear htl
     have HTS:=Lib.hid hts;clear hts
     have hlo:=how.lo
     have hhi:=how.hi
     by_cases hin:i<n+1
     ·have k2:=hrw.cell (i:=j+i) (by omega)
      have k3:=hrw.frozen (j+i)
      have k4:=HTL.out (j+i) (by omega)
      have hsm:ts (j+i)=zs (j+i):=how.same i (Nat.le_refl _)
      have HSM:=Lib.hid hsm;clear hsm
      by_cases hin2:i<n
      ·have k1:=hkb.cell (HD.out i hin2) hbb
       have k5:=hK.dlt i hin2
       have hgv:(g:Int)*(ds i:Int)≤65535*65535:=by
        have h1:g*ds i≤65535*65535:=Nat.mul_le_mul (by omega) (by omega)
        have e:((g*ds i:Nat):Int)=(g:Int)*(ds i:Int):=by simp
        omega
       have hgv0:0≤(g:Int)*(ds i:Int):=by
        have e:((g*ds i:Nat):Int)=(g:Int)*(ds i:Int):=by simp
        omega
       obtain⟨z,hz⟩:∃z:Nat,(z:Int)=((ts (j+i):Int)+o-(g:Int)*(ds i:Int))%65536:=⟨(((ts (j+i):Int)+o-(g:Int)*(ds i:Int))%65536).toNat,by omega⟩
       have hand:bits .and .i64 ((ts (j+i):Int)+o-(g:Int)*(ds i:Int)) 65535=(z:Int):=by rw[i64_and65535,hz]
       have hzl:z<65536:=by omega
       have hst:=how.step (g:=g) (z:=z) (by omega) (by show zs (j+i)<65536;rw[←HSM.out];exact k4) (show ext ds n i<65536 by simp only[ext,if_pos hin2];exact k5) (by
        have e1:ext ds n i=ds i:=by simp[ext,hin2]
        have e2:win zs j i=ts (j+i):=HSM.out.symm
        rw[e1,e2];exact hz)
       have e1:ext ds n i=ds i:=by simp[ext,hin2]
       have e2:win zs j i=ts (j+i):=HSM.out.symm
       rw[e1,e2,←win_upd] at hst
       have HST:=Lib.hid hst
       clear hst how e1 e2 hz
       go_wp2
       go_roundw
       case rel=>
        refine⟨i+1,_,upd ts (j+i) z,by omega,by go_num,by simp,HST.out,fun k hk=> ?_,fun k hk=> ?_,hrw.set _ _,hkb.setCell rfl _⟩
        ·unfold upd;split
         ·omega
         ·exact HTL.out k hk
        ·rw[upd_other _ (by omega)];exact HTS.out k hk
       case measure=>simp[intOf];omega
      ·obtain rfl:n=i:=by omega
       obtain⟨z,hz⟩:∃z:Nat,(z:Int)=((ts (j+n):Int)+o)%65536:=⟨(((ts (j+n):Int)+o)%65536).toNat,by omega⟩
       have hand:bits .and .i64 ((ts (j+n):Int)+o) 65535=(z:Int):=by rw[i64_and65535,hz]
       have hzl:z<65536:=by omega
       have e1:ext ds n n=0:=by simp[ext,hin2]
       have e2:win zs j n=ts (j+n):=HSM.out.symm
       have hst:=how.step (g:=g) (z:=z) (by omega) (by rw[e2];exact k4) (by rw[e1];decide) (by rw[e1,e2,hz];simp)
       rw[e1,e2,←win_upd] at hst
       have e3:(ts (j+n):Int)+o-(g:Int)*((0:Nat):Int)=(ts (j+n):Int)+o:=by simp
       rw[e3] at hst
       have HST:=Lib.hid hst
       clear hst how e1 e2 hz e3
       go_wp2
       go_roundw
       case rel=>
        refine⟨n+1,_,upd ts (j+n) z,by omega,by go_num,by simp,HST.out,fun k hk=> ?_,fun k hk=> ?_,hrw.set _ _,hkb.setCell rfl _⟩
        ·unfold upd;split
         ·omega
         ·exact HTL.out k hk
        ·rw[upd_other _ (by omega)];exact HTS.out k hk
       case measure=>simp[intOf]
     ·obtain rfl:i=n+1:=by omega
      have hdn:=how.done (by rw[val_ext (Nat.le_succ n)];exact HMUL.out)
      rw[val_ext (Nat.le_succ n)] at hdn
      have HDN2:=Lib.hid hdn;clear hdn how
      go_wp2
      go_ret
      refine⟨by rw[HGQ.out];rfl,ts,hrw,HTL.out,HTS.out,?_,hkb⟩
      rw[HDN2.out,HGQ.out,Nat.mul_comm]
      have:=Nat.div_add_mod (val 65536 (win zs j) (n+1)) (val 65536 ds n)
      omega
 ·have HBIG:=Lib.hid hbig
  have tst:decide ((65536:Int)≤(g0:Int))=false:=by simp;omega
  clear hbig
  go_enter Tryz.func366,Tryz.ntmps366
  go_wp2
  go_quiet (fail)
  go_wp2
  have HG0I:=Lib.hid hg0I
  clear c0 c1 d1 l0 l1 m1 m0 hg0I tst
  go_loopw [7] (fun gv wr=>∃g:Nat,gv= .int .u64 (g:Int)∧val 65536 (win zs j) (n+1)/val 65536 ds n≤g∧g<65536∧Kept w wr) (fun gv _=>(intOf gv).toNat)
  case atStart=>exact⟨g0,by first|rfl|(congr 1<;>exact HG0I.out),HQ0.out,by have:=HBIG.out;omega,(Kept.refl w).drewN _⟩
  case round=>
   obtain⟨g,rfl,hqg,hgl,hkw⟩:=hrel
   have hls:=less_calls bu j capu (n+1) (win zs j) (by omega) hcap HWL.out (HWIN.out.kept hkw) (HDN.out.kept hkw) HDB.out hgl HUB.out
   by_cases hlt:val 65536 (win zs j) (n+1)<val 65536 ds n*g
   ·rw[show decide (val 65536 (win zs j) (n+1)<val 65536 ds n*g)=true from by simpa using hlt] at hls
    have hg1:val 65536 (win zs j) (n+1)/val 65536 ds n≤g-1:=Nat.le_sub_one_of_lt (Nat.div_lt_of_lt_mul hlt)
    have hg0:1≤g:=by
     rcases Nat.eq_zero_or_pos g with h|h
     ·rw[h] at hlt;simp at hlt
     ·exact h
    have HQG:=Lib.hid hg1
    clear hqg hlt hg1
    go_wp2_with(go_at_call 400;refine hls.mono ?_;rintro e w1 ⟨rfl,hk1⟩)
    go_roundw
    case rel=>exact⟨g-1,by congr 1;omega,HQG.out,by omega,hkw.trans hk1⟩
    case measure=>simp[intOf];omega
   ·rw[show decide (val 65536 (win zs j) (n+1)<val 65536 ds n*g)=false from by simpa using hlt] at hls
    have hgq:g=val 65536 (win zs j) (n+1)/val 65536 ds n:=by
     refine Nat.le_antisymm ?_ hqg
     exact(Nat.le_div_iff_mul_le hK.dpos).2 (by rw[Nat.mul_comm];omega)
    have hmul:g*val 65536 ds n≤val 65536 (win zs j) (n+1):=by rw[Nat.mul_comm];omega
    have HGQ:=Lib.hid hgq
    have HMUL:=Lib.hid hmul
    clear hqg hlt hgq hmul
    go_wp2_with(go_at_call 400;refine hls.mono ?_;rintro e w1 ⟨rfl,hk1⟩)
    have hkw1:=hkw.trans hk1
    clear hls hk1
    have hrow1:=hrow.kept hkw1
    have HD1:Hid (∀i,i<n→w1.cell? ⟨bd,offd+i,none⟩=some (.int .u32 (ds i:Nat))):=Lib.hid (fun i hi=>hkw1.cell (HD.out i hi))
    go_loopw [8,44] (fun ov iv wr=>∃(i:Nat)(o:Int)(ts:Nat→Nat),i≤n+1∧iv= .int .i64 (i:Int)∧ov= .int .i64 o∧OwI (win zs j) (ext ds n) g i (win ts j) o∧(∀k,k<L→ts k<65536)∧(∀k,k<j∨j+n<k→ts k=zs k)∧RowP wr bu L ts∧KeptB w wr bu) (fun _ iv _=>n+1-(intOf iv).toNat)
    case atStart=>exact⟨0,0,zs,Nat.zero_le _,rfl,rfl,⟨fun _ h=>by omega,fun _ _=>rfl,by omega,by omega,by simp[val]⟩,HZ.out,fun _ _=>rfl,hrow1,hkw1.toB bu⟩
    case round=>
     obtain⟨i,o,ts,hi,rfl,rfl,how,htl,hts,hrw,hkb⟩:=hrel
     have HTL:=Lib.hid htl;clear htl
     have HTS:=Lib.hid hts;clear hts
     have hlo:=how.lo
     have hhi:=how.hi
     by_cases hin:i<n+1
     ·have k2:=hrw.cell (i:=j+i) (by omega)
      have k3:=hrw.frozen (j+i)
      have k4:=HTL.out (j+i) (by omega)
      have hsm:ts (j+i)=zs (j+i):=how.same i (Nat.le_refl _)
      have HSM:=Lib.hid hsm;clear hsm
      by_cases hin2:i<n
      ·have k1:=hkb.cell (HD.out i hin2) hbb
       have k5:=hK.dlt i hin2
       have hgv:(g:Int)*(ds i:Int)≤65535*65535:=by
        have h1:g*ds i≤65535*65535:=Nat.mul_le_mul (by omega) (by omega)
        have e:((g*ds i:Nat):Int)=(g:Int)*(ds i:Int):=by simp
        omega
       have hgv0:0≤(g:Int)*(ds i:Int):=by
        have e:((g*ds i:Nat):Int)=(g:Int)*(ds i:Int):=by simp
        omega
       obtain⟨z,hz⟩:∃z:Nat,(z:Int)=((ts (j+i):Int)+o-(g:Int)*(ds i:Int))%65536:=⟨(((ts (j+i):Int)+o-(g:Int)*(ds i:Int))%65536).toNat,by omega⟩
       have hand:bits .and .i64 ((ts (j+i):Int)+o-(g:Int)*(ds i:Int)) 65535=(z:Int):=by rw[i64_and65535,hz]
       have hzl:z<65536:=by omega
       have hst:=how.step (g:=g) (z:=z) (by omega) (by show zs (j+i)<65536;rw[←HSM.out];exact k4) (show ext ds n i<65536 by simp only[ext,if_pos hin2];exact k5) (by
        have e1:ext ds n i=ds i:=by simp[ext,hin2]
        have e2:win zs j i=ts (j+i):=HSM.out.symm
        rw[e1,e2];exact hz)
       have e1:ext ds n i=ds i:=by simp[ext,hin2]
       have e2:win zs j i=ts (j+i):=HSM.out.symm
       rw[e1,e2,←win_upd] at hst
       have HST:=Lib.hid hst
       clear hst how e1 e2 hz
       go_wp2
       go_roundw
       case rel=>
        refine⟨i+1,_,upd ts (j+i) z,by omega,by go_num,by simp,HST.out,fun k hk=> ?_,fun k hk=> ?_,hrw.set _ _,hkb.setCell rfl _⟩
        ·unfold upd;split
         ·omega
         ·exact HTL.out k hk
        ·rw[upd_other _ (by omega)];exact HTS.out k hk
       case measure=>simp[intOf];omega
      ·obtain rfl:n=i:=by omega
       obtain⟨z,hz⟩:∃z:Nat,(z:Int)=((ts (j+n):Int)+o)%65536:=⟨(((ts (j+n):Int)+o)%65536).toNat,by omega⟩
       have hand:bits .and .i64 ((ts (j+n):Int)+o) 65535=(z:Int):=by rw[i64_and65535,hz]
       have hzl:z<65536:=by omega
       have e1:ext ds n n=0:=by simp[ext,hin2]
       have e2:win zs j n=ts (j+n):=HSM.out.symm
       have hst:=how.step (g:=g) (z:=z) (by omega) (by rw[e2];exact k4) (by rw[e1];decide) (by rw[e1,e2,hz];simp)
       rw[e1,e2,←win_upd] at hst
       have e3:(ts (j+n):Int)+o-(g:Int)*((0:Nat):Int)=(ts (j+n):Int)+o:=by simp
       rw[e3] at hst
       have HST:=Lib.hid hst
       clear hst how e1 e2 hz e3
       go_wp2
       go_roundw
       case rel=>
        refine⟨n+1,_,upd ts (j+n) z,by omega,by go_num,by simp,HST.out,fun k hk=> ?_,fun k hk=> ?_,hrw.set _ _,hkb.setCell rfl _⟩
        ·unfold upd;split
         ·omega
         ·exact HTL.out k hk
        ·rw[upd_other _ (by omega)];exact HTS.out k hk
       case measure=>simp[intOf]
     ·obtain rfl:i=n+1:=by omega
      have hdn:=how.done (by rw[val_ext (Nat.le_succ n)];exact HMUL.out)
      rw[val_ext (Nat.le_succ n)] at hdn
      have HDN2:=Lib.hid hdn;clear hdn how
      go_wp2
      go_ret
      refine⟨by rw[HGQ.out];rfl,ts,hrw,HTL.out,HTS.out,?_,hkb⟩
      rw[HDN2.out,HGQ.out,Nat.mul_comm]
      have:=Nat.div_add_mod (val 65536 (win zs j) (n+1)) (val 65536 ds n)
      omega
end Go.Proofs.YtbapfnpbamnmpaaGreatDoor
