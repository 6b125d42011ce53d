/- A part of the proof that SearchCandidates answers true for every input of bulk at most 1048576: conditions: the row's own. -/
import Derived.Test.YtancebninmoipaaGreatDoorP02
import Derived.Test.YtancebninmoipaaGreatDoorP00
import Derived.Lib.JoinLaws
import Derived.Deep.AppendSrc
namespace Go.Proofs.YtancebninmoipaaGreatDoor
section
open Go Go.RowKit Go.Dig
open Go.Eng (Kept KW KeptB wp_region_kw kw_call)
set_option maxHeartbeats 4000000 in
set_option maxRecDepth 100000 in
theorem read_pos{w:World}{v:Value}{neg:Bool}{N D:Nat}(h:Rt w v neg N D)(hN:N<pwr 2 8192)(hD:D<pwr 2 8192)(hD0:0<D)(hT:Laid w):
 Calls Tryz.prog 61 #[v] w (RetRead neg N D w):=by
 have hsm:small N D=(fits32 (rN N D)&&fits32 (rD N D)):=by unfold small;simp[hN,hD]
 have HSM:=Lib.hid hsm;clear hsm
 have h8:pwr 2 8192≤Big:=pwr_le 8192 16384 (by decide)
 have hNB:N<Big:=Nat.lt_of_lt_of_le hN h8
 have hDB:dn D<Big:=by
  unfold dn;split
  ·exact Nat.lt_of_lt_of_le (pwr_one 8192 (by decide)) h8
  ·exact Nat.lt_of_lt_of_le hD h8
 obtain⟨vn,vd,rfl,hn,hd⟩:=h
 obtain⟨a,n,cap,xs,rfl,hc1,hn1,hxl,rfl,hxw⟩:=hn
 obtain⟨a',n',cap',ys,rfl,hc2,hn2,hyl,rfl,hyw⟩:=hd
 have ht1:trimN xs n≤256:=by rw[trim_len_iff hxl,p8192];exact hN
 have ht2:trimN ys n'≤256:=by rw[trim_len_iff hyl,p8192];exact hD
 have hNn:Nt 4294967296 w (.slice a (trimN xs n) cap) (val 4294967296 xs n):=nt_of hc1 hxl hxw
 have hNd:Nt 4294967296 w (.slice a' (trimN ys n') cap') (val 4294967296 ys n'):=nt_of hc2 hyl hyw
 have hb1:=Blk3.new w (.bool neg) (.slice a n cap) (.slice a' n' cap') 24
 have hb2:=Blk3.new (w.alloc (.cells #[.bool neg,.slice a n cap,.slice a' n' cap'] 24)) (.bool false) (.slice none 0 0) (.slice none 0 0) 129
 have hk1:Kept w ((w.alloc (.cells #[.bool neg,.slice a n cap,.slice a' n' cap'] 24)).alloc (.cells #[.bool false,.slice none 0 0,.slice none 0 0] 129)):=((Kept.refl _).alloc _).alloc _
 have hb1':=hb1.kept ((Kept.refl _).alloc (.cells #[.bool false,.slice none 0 0,.slice none 0 0] 129))
 clear hb1
 have esz:(w.alloc (.cells #[.bool neg,.slice a n cap,.slice a' n' cap'] 24)).heap.size=w.heap.size+1:=by simp[go_sem]
 rw[esz] at hb2
 clear esz
 have ho1:=fun(w':World)(k:Kept w w')=>of_raw hc1 hn1 (hxw.kept k)
 have ho2:=fun(w':World)(k:Kept w w')=>of_raw hc2 hn2 (hyw.kept k)
 generalize hE1:val 4294967296 xs n=N at*
 generalize hE2:val 4294967296 ys n'=D at*
 clear hxl hyl hxw hyw hE1 hE2
 have t1:decide (256<(trimN xs n:Int))=false:=by simp;omega
 have t2:decide (256<(trimN ys n':Int))=false:=by simp;omega
 generalize trimN xs n=tn at*
 generalize trimN ys n'=td at*
 go_enter Tryz.func61,Tryz.ntmps61
 go_wp2_with fail
 generalize (w.alloc (.cells #[.bool neg,.slice a n cap,.slice a' n' cap'] 24)).alloc (.cells #[.bool false,.slice none 0 0,.slice none 0 0] 129)=w1 at*
 generalize hbE:w.heap.size=b0 at hb2 hb1'⊢
 have HBE:=Lib.hid hbE;clear hbE
 obtain⟨p0,p1,p2⟩:=hb1'.all
 refine wp_region_kw w1 (Kept.refl _) (by kernel_rfl) (by kernel_rfl) ?_
 repeat (go_big_quiet_step (first|(go_at_call_of 130 (Value.slice a n cap);exact kw_call (ho1 _ (hk1.trans (KW.kept _))))|(go_at_call 130;exact kw_call (ho2 _ (hk1.trans (KW.kept _))))))
 refine wpQuiet_nil ?_
 rintro _ ⟨k2,rfl⟩
 clear p0 p1 p2 ho1 ho2
 have hk2:=k2.kept
 generalize k2.w=w2 at*
 have hkw2:=hk1.trans hk2
 have hN2:=hNn.kept hkw2
 have hD2:=hNd.kept hkw2
 obtain⟨c0,_,_,_,_,_⟩:=(hb1'.kept hk2).facts
 have hzf:=zero_false hD2 hD0
 have edn:dn D=D:=by unfold dn;rw[if_neg (by omega)]
 rw[←edn] at hD2
 have HEDN:=Lib.hid edn;clear edn
 go_wp2_with(go_at_call 131;refine hzf.mono ?_;rintro e w' ⟨rfl,rfl⟩)
 have hred:=reduce_calls neg hN2 hD2 hNB hDB (by rw[HEDN.out];exact hD0) (hT.kept hkw2)
 go_wp2_with fail
 refine hred.mono ?_
 rintro e w4 ⟨vf,rfl,hfr,hk4⟩
 have hfr0:=hfr
 obtain⟨xn,xd,rfl,hxn,hxd⟩:=hfr
 obtain⟨an,nn,cn,rfl⟩:=hxn.shape
 obtain⟨ad,nd,cd,rfl⟩:=hxd.shape
 have hkw4:=hkw2.trans hk4
 have hbR:=(hb2.kept hk2).kept hk4
 go_wp2_with fail
 have hbF:=Blk3.new w4 (.bool (neg&&decide (0<N))) (.slice an nn cn) (.slice ad nd cd) 129
 have hkF:Kept w4 (w4.alloc (.cells #[.bool (neg&&decide (0<N)),.slice an nn cn,.slice ad nd cd] 129)):=(Kept.refl _).alloc _
 have hneb:b0+1≠w4.heap.size:=Nat.ne_of_lt (Array.getElem?_eq_some_iff.1 hbR).1
 have hbR1:=hbR.kept hkF
 have hfr1:=hfr0.kept hkF
 have hkw5:=hkw4.trans hkF
 generalize w4.alloc (.cells #[.bool (neg&&decide (0<N)),.slice an nn cn,.slice ad nd cd] 129)=W5 at*
 generalize w4.heap.size=bf at*
 have hall:∀w',Kept W5 w'→w'.cell? ⟨bf,0,none⟩=some (.bool (neg&&decide (0<N)))∧w'.cell? ⟨bf,1,none⟩=some (.slice an nn cn)∧w'.cell? ⟨bf,2,none⟩=some (.slice ad nd cd):=
  fun w' k=>⟨(hbF.kept k).facts.1,(hbF.kept k).facts.2.1,(hbF.kept k).facts.2.2.1⟩
 have HALL:=Lib.hid hall;clear hall
 generalize hpE:(neg&&decide (0<N))=p at*
 have HPE:=Lib.hid hpE;clear hpE
 go_region_held3 (fun w'=>w'.cell? ⟨bf,0,none⟩=some (.bool p)∧w'.cell? ⟨bf,1,none⟩=some (.slice an nn cn)∧w'.cell? ⟨bf,2,none⟩=some (.slice ad nd cd))
  (first|exact HALL.out _ (Kept.refl _).drew|exact HALL.out _ ‹Kept W5 _›|go_keep)
  (first|(go_at_call 133;refine(fits_calls (hfr1.kept (Kept.refl W5).drew)).mono ?_;rintro e w6 ⟨rfl,hk6⟩;have hS6:Kept W5 w6:=(Kept.refl W5).drew.trans hk6;obtain⟨d0,d1,d2,g0,g1,g2⟩:=(hbR1.kept hS6).facts))
 have hkb:=KeptB.store3 w6 (b0+1) (.bool p) (.slice an nn cn) (.slice ad nd cd)
 have hfrE:=hfr1.kept hS6
 go_wp2
 refine bodyPost_ret (v:=.tuple #[.agg #[.bool p,.slice an nn cn,.slice ad nd cd],.bool (small N D)]) (by rw[HSM.out];simp[results,Tryz.results61,go_sem,d0,d1,d2,rN,rD]) rfl ⟨p,an,nn,cn,ad,nd,cd,rfl,(hkw5.trans hS6).but hkb (by have:=HBE.out;omega),fun _=> ?_⟩
 rw[HPE.out]
 obtain⟨yn,yd,ye,hyn,hyd⟩:=hfrE
 cases ye
 exact⟨_,_,rfl,hyn.keptB hkb (hbR1.kept hS6).noWords,hyd.keptB hkb (hbR1.kept hS6).noWords⟩
set_option maxHeartbeats 4000000 in
set_option maxRecDepth 100000 in
theorem read_zero{w:World}{v:Value}{neg:Bool}{N D:Nat}(h:Rt w v neg N D)(hN:N<pwr 2 8192)(hD:D<pwr 2 8192)(hD0:D=0)(hT:Laid w):
 Calls Tryz.prog 61 #[v] w (RetRead neg N D w):=by
 have hsm:small N D=(fits32 (rN N D)&&fits32 (rD N D)):=by unfold small;simp[hN,hD]
 have HSM:=Lib.hid hsm;clear hsm
 have HD0:=Lib.hid hD0;clear hD0
 have h8:pwr 2 8192≤Big:=pwr_le 8192 16384 (by decide)
 have hNB:N<Big:=Nat.lt_of_lt_of_le hN h8
 have hDB:dn D<Big:=by
  unfold dn;split
  ·exact Nat.lt_of_lt_of_le (pwr_one 8192 (by decide)) h8
  ·exact Nat.lt_of_lt_of_le hD h8
 obtain⟨vn,vd,rfl,hn,hd⟩:=h
 obtain⟨a,n,cap,xs,rfl,hc1,hn1,hxl,rfl,hxw⟩:=hn
 obtain⟨a',n',cap',ys,rfl,hc2,hn2,hyl,rfl,hyw⟩:=hd
 have ht1:trimN xs n≤256:=by rw[trim_len_iff hxl,p8192];exact hN
 have ht2:trimN ys n'≤256:=by rw[trim_len_iff hyl,p8192];exact hD
 have hNn:Nt 4294967296 w (.slice a (trimN xs n) cap) (val 4294967296 xs n):=nt_of hc1 hxl hxw
 have hNd:Nt 4294967296 w (.slice a' (trimN ys n') cap') (val 4294967296 ys n'):=nt_of hc2 hyl hyw
 have hb1:=Blk3.new w (.bool neg) (.slice a n cap) (.slice a' n' cap') 24
 have hb2:=Blk3.new (w.alloc (.cells #[.bool neg,.slice a n cap,.slice a' n' cap'] 24)) (.bool false) (.slice none 0 0) (.slice none 0 0) 129
 have hk1:Kept w ((w.alloc (.cells #[.bool neg,.slice a n cap,.slice a' n' cap'] 24)).alloc (.cells #[.bool false,.slice none 0 0,.slice none 0 0] 129)):=((Kept.refl _).alloc _).alloc _
 have hb1':=hb1.kept ((Kept.refl _).alloc (.cells #[.bool false,.slice none 0 0,.slice none 0 0] 129))
 clear hb1
 have esz:(w.alloc (.cells #[.bool neg,.slice a n cap,.slice a' n' cap'] 24)).heap.size=w.heap.size+1:=by simp[go_sem]
 rw[esz] at hb2
 clear esz
 have ho1:=fun(w':World)(k:Kept w w')=>of_raw hc1 hn1 (hxw.kept k)
 have ho2:=fun(w':World)(k:Kept w w')=>of_raw hc2 hn2 (hyw.kept k)
 generalize hE1:val 4294967296 xs n=N at*
 generalize hE2:val 4294967296 ys n'=D at*
 clear hxl hyl hxw hyw hE1 hE2
 have t1:decide (256<(trimN xs n:Int))=false:=by simp;omega
 have t2:decide (256<(trimN ys n':Int))=false:=by simp;omega
 generalize trimN xs n=tn at*
 generalize trimN ys n'=td at*
 go_enter Tryz.func61,Tryz.ntmps61
 go_wp2_with fail
 generalize (w.alloc (.cells #[.bool neg,.slice a n cap,.slice a' n' cap'] 24)).alloc (.cells #[.bool false,.slice none 0 0,.slice none 0 0] 129)=w1 at*
 generalize hbE:w.heap.size=b0 at hb2 hb1'⊢
 have HBE:=Lib.hid hbE;clear hbE
 obtain⟨p0,p1,p2⟩:=hb1'.all
 refine wp_region_kw w1 (Kept.refl _) (by kernel_rfl) (by kernel_rfl) ?_
 repeat (go_big_quiet_step (first|(go_at_call_of 130 (Value.slice a n cap);exact kw_call (ho1 _ (hk1.trans (KW.kept _))))|(go_at_call 130;exact kw_call (ho2 _ (hk1.trans (KW.kept _))))))
 refine wpQuiet_nil ?_
 rintro _ ⟨k2,rfl⟩
 clear p0 p1 p2 ho1 ho2
 have hk2:=k2.kept
 generalize k2.w=w2 at*
 have hkw2:=hk1.trans hk2
 have hN2:=hNn.kept hkw2
 have hD2:=hNd.kept hkw2
 obtain⟨c0,_,_,_,_,_⟩:=(hb1'.kept hk2).facts
 have hD2z:Nt 4294967296 w2 (.slice a' td cap') 0:=by rw[←HD0.out];exact hD2
 have hzt:=zero_true hD2z
 have hsm1:=small_calls w2 1 (by decide)
 go_wp2_with(first|(go_at_call 131;refine hzt.mono ?_;rintro e w' ⟨rfl,rfl⟩)|(go_at_call 132;refine hsm1.mono ?_;rintro e w3 ⟨v3,rfl,hv3,hk3⟩;have c0':=hk3.cell c0))
 have hkw3:=hkw2.trans hk3
 have hk23:=hk2.trans hk3
 have hN3:=hN2.kept hk3
 have edn:dn D=1:=by unfold dn;rw[if_pos HD0.out]
 rw[←edn] at hv3
 have HEDN:=Lib.hid edn;clear edn
 have hred:=reduce_calls neg hN3 hv3 hNB hDB (by rw[HEDN.out];exact Nat.one_pos) (hT.kept hkw3)
 go_wp2_with fail
 refine hred.mono ?_
 rintro e w4 ⟨vf,rfl,hfr,hk4⟩
 have hfr0:=hfr
 obtain⟨xn,xd,rfl,hxn,hxd⟩:=hfr
 obtain⟨an,nn,cn,rfl⟩:=hxn.shape
 obtain⟨ad,nd,cd,rfl⟩:=hxd.shape
 have hkw4:=hkw3.trans hk4
 have hbR:=(hb2.kept hk23).kept hk4
 go_wp2_with fail
 have hbF:=Blk3.new w4 (.bool (neg&&decide (0<N))) (.slice an nn cn) (.slice ad nd cd) 129
 have hkF:Kept w4 (w4.alloc (.cells #[.bool (neg&&decide (0<N)),.slice an nn cn,.slice ad nd cd] 129)):=(Kept.refl _).alloc _
 have hneb:b0+1≠w4.heap.size:=Nat.ne_of_lt (Array.getElem?_eq_some_iff.1 hbR).1
 have hbR1:=hbR.kept hkF
 have hfr1:=hfr0.kept hkF
 have hkw5:=hkw4.trans hkF
 generalize w4.alloc (.cells #[.bool (neg&&decide (0<N)),.slice an nn cn,.slice ad nd cd] 129)=W5 at*
 generalize w4.heap.size=bf at*
 have hall:∀w',Kept W5 w'→w'.cell? ⟨bf,0,none⟩=some (.bool (neg&&decide (0<N)))∧w'.cell? ⟨bf,1,none⟩=some (.slice an nn cn)∧w'.cell? ⟨bf,2,none⟩=some (.slice ad nd cd):=
  fun w' k=>⟨(hbF.kept k).facts.1,(hbF.kept k).facts.2.1,(hbF.kept k).facts.2.2.1⟩
 have HALL:=Lib.hid hall;clear hall
 generalize hpE:(neg&&decide (0<N))=p at*
 have HPE:=Lib.hid hpE;clear hpE
 go_region_held3 (fun w'=>w'.cell? ⟨bf,0,none⟩=some (.bool p)∧w'.cell? ⟨bf,1,none⟩=some (.slice an nn cn)∧w'.cell? ⟨bf,2,none⟩=some (.slice ad nd cd))
  (first|exact HALL.out _ (Kept.refl _).drew|exact HALL.out _ ‹Kept W5 _›|go_keep)
  (first|(go_at_call 133;refine(fits_calls (hfr1.kept (Kept.refl W5).drew)).mono ?_;rintro e w6 ⟨rfl,hk6⟩;have hS6:Kept W5 w6:=(Kept.refl W5).drew.trans hk6;obtain⟨d0,d1,d2,g0,g1,g2⟩:=(hbR1.kept hS6).facts))
 have hkb:=KeptB.store3 w6 (b0+1) (.bool p) (.slice an nn cn) (.slice ad nd cd)
 have hfrE:=hfr1.kept hS6
 go_wp2
 refine bodyPost_ret (v:=.tuple #[.agg #[.bool p,.slice an nn cn,.slice ad nd cd],.bool (small N D)]) (by rw[HSM.out];simp[results,Tryz.results61,go_sem,d0,d1,d2,rN,rD]) rfl ⟨p,an,nn,cn,ad,nd,cd,rfl,(hkw5.trans hS6).but hkb (by have:=HBE.out;omega),fun _=> ?_⟩
 rw[HPE.out]
 obtain⟨yn,yd,ye,hyn,hyd⟩:=hfrE
 cases ye
 exact⟨_,_,rfl,hyn.keptB hkb (hbR1.kept hS6).noWords,hyd.keptB hkb (hbR1.kept hS6).noWords⟩
theorem read_calls{w:World}{v:Value}{neg:Bool}{N D:Nat}(h:Rt w v neg N D)(hT:Laid w):Calls Tryz.prog 61 #[v] w (RetRead neg N D w):=by
 by_cases hl:N<pwr 2 8192∧D<pwr 2 8192
 ·by_cases h0:D=0
  ·exact read_zero h hl.1 hl.2 h0 hT
  ·exact read_pos h hl.1 hl.2 (by omega) hT
 ·exact read_large h hl
end
section
open Go Go.RowKit Go.Dig
open Go.Eng (Kept KW KeptB)
set_option maxHeartbeats 400000 in
theorem trim_some(w:World)(b off n cap:Nat)(zs:Nat→Nat)(hn:n≤4611686018427387904)(hcap:n≤cap)
 (hc:∀i,i<n→w.cell? ⟨b,off+i,none⟩=some (.int .u32 (zs i:Nat))):
 Calls Tryz.prog 146 #[.slice (some ⟨b,off,none⟩) n cap] w fun e w'=>e= .returned (.slice (some ⟨b,off,none⟩) (trimN zs n) cap)∧w=w':=by
 have hle:=trimN_le zs n
 go_enter Tryz.func146,Tryz.ntmps146
 go_wp2
 go_loop [3] (fun s=>∃k:Nat,k≤n∧s= .int .i64 (k:Int)∧trimN zs k=trimN zs n) (fun s=>(intOf s).toNat)
 case atStart=>exact⟨n,Nat.le_refl _,rfl,rfl⟩
 case round=>
  obtain⟨k,hk,rfl,ht⟩:=hrel
  have HT:=Lib.hid ht;clear ht
  by_cases hk0:k=0
  ·subst hk0
   have h0:=HT.out
   simp only[trimN] at h0
   have H0:=Lib.hid h0;clear h0
   go_wp2
   go_ret
   exact⟨by rw[←H0.out];rfl,rfl⟩
  ·obtain⟨j,rfl⟩:∃j,k=j+1:=⟨k-1,by omega⟩
   have h1:=hc j (by omega)
   have HC:=Lib.hid hc;clear hc
   by_cases h0:zs j=0
   ·have HH:=Lib.hid h0
    rw[h0] at h1
    clear h0
    go_wp2
    go_round
    case rel=>exact⟨j,by omega,by go_num,by rw[←HT.out];simp[trimN,HH.out]⟩
    case measure=>simp[intOf]
   ·have h0':((zs j:Int)==0)=false:=by simpa using h0
    have HH:=Lib.hid h0;clear h0
    go_wp2
    go_ret
    exact⟨by rw[←HT.out];simp[trimN,HH.out],rfl⟩
theorem trim_zero(w:World)(a:Option Addr)(cap:Nat):
 Calls Tryz.prog 146 #[.slice a 0 cap] w fun e w'=>e= .returned (.slice a 0 cap)∧w=w':=by
 cases a with
 |none=>
  go_enter Tryz.func146,Tryz.ntmps146
  go_wp2
  go_loop [3] (fun s=>s= .int .i64 0) (fun s=>0)
  case atStart=>rfl
  case round=>
   subst hrel
   go_wp2
   go_ret
   exact⟨rfl,rfl⟩
 |some a=>
  go_enter Tryz.func146,Tryz.ntmps146
  go_wp2
  go_loop [3] (fun s=>s= .int .i64 0) (fun s=>0)
  case atStart=>rfl
  case round=>
   subst hrel
   go_wp2
   go_ret
   exact⟨rfl,rfl⟩
theorem trim_calls(w:World)(a:Option Addr)(n cap:Nat)(zs:Nat→Nat)(hn:n≤4611686018427387904)(hcap:n≤cap)(h:Ws w a n zs):
 Calls Tryz.prog 146 #[.slice a n cap] w fun e w'=>e= .returned (.slice a (trimN zs n) cap)∧w=w':=by
 rcases h.open with rfl|⟨_,b,off,rfl,hc⟩
 ·exact trim_zero w a cap
 ·exact trim_some w b off n cap zs hn hcap hc
theorem ws_one(w:World)(x:Nat):Ws (w.alloc (Obj.cells #[Value.int IntKind.u32 (x:Int)] 212)) (some ⟨w.heap.size,0,none⟩) 1 (fun _=>x):=by
 have h:(w.alloc (Obj.cells #[Value.int IntKind.u32 (x:Int)] 212)).rowIs w.heap.size 212 1 (fun j=>.int .u32 (((fun _=>x) j:Nat))):=
  World.rowIs_alloc w _ 212 _ fun i hi=>by
   match i,hi with
   |0,_=>rfl
 exact Row.ws h (Nat.le_refl _)
structure OfI(m x n:Nat)(zs:Nat→Nat):Prop where
 lt:∀i,i<n→zs i<65536
 eq:val 65536 zs n+x*65536^n=m
theorem OfI.step{m x n:Nat}{zs:Nat→Nat}(h:OfI m x n zs):OfI m (x/65536) (n+1) (cat zs n fun _=>x%65536):=by
 have e0:val 65536 (cat zs n fun _=>x%65536) n=val 65536 zs n:=val_congr fun i hi=>by simp[cat,hi]
 refine⟨fun i hi=> ?_,?_⟩
 ·unfold cat;split
  ·exact h.lt i ‹_›
  ·exact Nat.mod_lt _ (by decide)
 ·have e:=h.eq
  simp only[val]
  rw[e0,Nat.pow_succ]
  have e1:cat zs n (fun _=>x%65536) n=x%65536:=by simp[cat]
  rw[e1]
  have hm:=Nat.mod_add_div x 65536
  generalize x%65536=r at*
  generalize x/65536=q at*
  generalize 65536^n=P at*
  subst hm
  grind
set_option maxHeartbeats 1000000 in
theorem natof_calls(w:World)(m:Nat)(hm:m<18446744073709551616):Calls Tryz.prog 72 #[.int .u64 (m:Int)] w (RetNt 65536 m w):=by
 go_enter Tryz.func72,Tryz.ntmps72
 go_wp2
 go_loopw [0,3] (fun xv v wr=>∃(x n:Nat)(zs:Nat→Nat),xv= .int .u64 (x:Int)∧x≤m∧n≤4∧x<65536^(4-n)∧OfI m x n zs∧(norm zs n∨0<x)∧Ap wr w.heap.size v n zs∧Kept w wr) (fun xv _ _=>(intOf xv).toNat)
 case atStart=>exact⟨m,0,fun _=>0,rfl,Nat.le_refl _,by omega,by simpa using hm,⟨fun _ h=>by omega,by simp[val]⟩,.inl (.inl rfl),Ap.nil _ _ _,Kept.refl _⟩
 case round=>
  obtain⟨x,n,zs,rfl,hxm,hn4,hxb,hof,hnm,hap,hkw⟩:=hrel
  have HXB:=Lib.hid hxb;clear hxb
  by_cases h0:x=0
  ·subst h0
   obtain⟨a,cap,rfl,hcap,hws⟩:=hap.ws
   go_wp2
   go_ret
   refine⟨_,rfl,⟨a,n,cap,zs,rfl,hcap,hof.lt,?_,?_,hws⟩,hkw⟩
   ·rcases hnm with h|h
    ·exact h
    ·omega
   ·have:=hof.eq;simpa using this
  ·have t1:0<x:=by omega
   have hn3:n<4:=by
    by_cases e:n=4
    ·have:=HXB.out;rw[e] at this;simp at this;omega
    ·omega
   have hap1:=hap.alloc (Obj.cells #[Value.int IntKind.u32 ((x%65536:Nat):Int)] 212)
   have hkw1:=hkw.alloc (Obj.cells #[Value.int IntKind.u32 ((x%65536:Nat):Int)] 212)
   have hws1:=ws_one wr (x%65536)
   have e1:((x%65536:Nat):Int)=(x:Int)%65536:=by omega
   rw[e1] at hap1 hkw1 hws1
   clear e1
   go_wp2_with(at_builtin;refine wpList_append_words rfl (.tmp 6) (.tmp 10) 53 rfl Tryz.underlying53 w hkw1 _ n zs rfl hap1 ⟨wr.heap.size,0,none⟩ 1 1 (fun _=>x%65536) rfl hws1 (by omega) ?_;intro v' w1 hap2 hkw2)
   go_roundw
   case rel=>
    refine⟨x/65536,n+1,_,by simp,by omega,by omega,?_,hof.step,?_,hap2,hkw2⟩
    ·have:=HXB.out
     rw[show 4-n=4-(n+1)+1 by omega,Nat.pow_succ] at this
     exact Nat.div_lt_of_lt_mul (by rw[Nat.mul_comm];exact this)
    ·by_cases hq:x/65536=0
     ·exact .inl (.inr (by simp[cat];omega))
     ·exact .inr (by omega)
   case measure=>simp[intOf];omega
end
section
open Go Go.RowKit Go.Dig
open Go.Eng (Kept KW KeptB)
set_option maxHeartbeats 1000000 in
theorem ncmp_eq(w:World)(b off cap b' off' cap' n:Nat)(xs ys:Nat→Nat)(hn:n≤4611686018427387904)
 (hx:∀i,i<n→w.cell? ⟨b,off+i,none⟩=some (.int .u32 (xs i:Nat)))
 (hy:∀i,i<n→w.cell? ⟨b',off'+i,none⟩=some (.int .u32 (ys i:Nat))):
 Calls Tryz.prog 207 #[.slice (some ⟨b,off,none⟩) n cap,.slice (some ⟨b',off',none⟩) n cap'] w fun e w'=>e= .returned (.int .i64 (cmpFrom xs ys n))∧Kept w w':=by
 go_enter Tryz.func207,Tryz.ntmps207
 go_wp2
 go_loopw [5] (fun i wr=>∃k:Nat,k≤n∧i= .int .i64 ((k:Int)-1)∧cmpFrom xs ys k=cmpFrom xs ys n∧Kept w wr) (fun i _=>(intOf i+1).toNat)
 case atStart=>exact⟨n,Nat.le_refl _,rfl,rfl,Kept.refl _⟩
 case round=>
  obtain⟨k,hk,rfl,ht,hkw⟩:=hrel
  have HT:=Lib.hid ht;clear ht
  cases k with
  |zero=>
   go_wp2
   go_ret
   exact⟨by rw[←HT.out];rfl,hkw⟩
  |succ k=>
   have h1:=hkw.cell (hx k (by omega))
   have h2:=hkw.cell (hy k (by omega))
   have HX:=Lib.hid hx;clear hx
   have HY:=Lib.hid hy;clear hy
   by_cases hlt:xs k<ys k
   ·go_wp2
    go_quiet (fail)
    go_wp2
    go_ret
    exact⟨by rw[←HT.out];simp[cmpFrom,hlt],hkw.drewN _⟩
   ·by_cases hgt:ys k<xs k
    ·go_wp2
     go_quiet (fail)
     go_wp2
     go_quiet (fail)
     go_wp2
     go_ret
     exact⟨by rw[←HT.out];simp[cmpFrom,hlt,hgt],by first|exact(hkw.drewN _).drewN _|exact hkw.drewN _⟩
    ·go_wp2
     go_quiet (fail)
     go_wp2
     go_quiet (fail)
     go_wp2
     go_roundw
     case rel=>exact⟨k,by omega,by go_num,by rw[←HT.out];simp[cmpFrom,hlt,hgt],by first|exact(hkw.drewN _).drewN _|exact hkw.drewN _⟩
     case measure=>simp[intOf]
theorem ncmp_zero(w:World)(a a':Option Addr)(cap cap':Nat):
 Calls Tryz.prog 207 #[.slice a 0 cap,.slice a' 0 cap'] w fun e w'=>e= .returned (.int .i64 0)∧w=w':=by
 go_enter Tryz.func207,Tryz.ntmps207
 go_wp2
 go_loop [5] (fun i=>i= .int .i64 (-1)) (fun _=>0)
 case atStart=>rfl
 case round=>
  subst hrel
  go_wp2
  go_ret
  exact⟨rfl,rfl⟩
theorem ncmp_ne(w:World)(a a':Option Addr)(n n' cap cap':Nat)(h:n<n'∨n'<n):
 Calls Tryz.prog 207 #[.slice a n cap,.slice a' n' cap'] w fun e w'=>e= .returned (.int .i64 (if n<n' then -1 else 1))∧w=w':=by
 by_cases h1:n<n'
 ·have h2:n≠n':=by omega
  go_enter Tryz.func207,Tryz.ntmps207
  go_wp2
  go_ret
  simp
 ·have h2:n≠n':=by omega
  go_enter Tryz.func207,Tryz.ntmps207
  go_wp2
  go_ret
  simp
theorem ncmp_calls{B:Nat}(hB:Bs B){w:World}{v u:Value}{m k:Nat}(hv:Nt B w v m)(hu:Nt B w u k)(hm:m<Big):
 Calls Tryz.prog 207 #[v,u] w fun e w'=>e= .returned (.int .i64 (cmpInt m k))∧Kept w w':=by
 obtain⟨a,n,cap,xs,rfl,hc,hd,hn,rfl,hw⟩:=hv
 obtain⟨a',n',cap',ys,rfl,hc',hd',hn',rfl,hw'⟩:=hu
 have hl:=len_big hB hn hm
 by_cases h1:n<n'
 ·refine(ncmp_ne w a a' n n' cap cap' (.inl h1)).mono fun e w' ⟨he,hk⟩=> ?_
  have:=val_len_lt hB.pos hd hn' h1
  subst hk
  exact⟨by rw[he,if_pos h1,cmpInt,if_pos this],Kept.refl _⟩
 ·by_cases h2:n'<n
  ·refine(ncmp_ne w a a' n n' cap cap' (.inr h2)).mono fun e w' ⟨he,hk⟩=> ?_
   have:=val_len_lt hB.pos hd' hn h2
   subst hk
   exact⟨by rw[he,if_neg h1,cmpInt,if_neg (by omega),if_pos this],Kept.refl _⟩
  ·obtain rfl:n=n':=by omega
   rw[←cmpFrom_val hd hd']
   rcases hw.open with rfl|⟨h0,b,off,rfl,hx⟩
   ·refine(ncmp_zero w a a' cap cap').mono fun e w' ⟨he,hk⟩=> ?_
    subst hk
    exact⟨he,Kept.refl _⟩
   ·rcases hw'.open with rfl|⟨_,b',off',rfl,hy⟩
    ·omega
    ·exact ncmp_eq w b off cap b' off' cap' n xs ys (by omega) hx hy
set_option maxHeartbeats 4000000 in
set_option maxRecDepth 100000 in
theorem nmul_some(w:World)(b off cap b' off' cap' n n':Nat)(xs ys:Nat→Nat)(hn:n≤1024)(hn':n'≤1024)(h0:0<n)(h0':0<n')
 (hxl:∀i,i<n→xs i<65536)(hyl:∀i,i<n'→ys i<65536)
 (hx:∀i,i<n→w.cell? ⟨b,off+i,none⟩=some (.int .u32 (xs i:Nat)))
 (hy:∀i,i<n'→w.cell? ⟨b',off'+i,none⟩=some (.int .u32 (ys i:Nat))):
 Calls Tryz.prog 204 #[.slice (some ⟨b,off,none⟩) n cap,.slice (some ⟨b',off',none⟩) n' cap'] w (RetNt 65536 (val 65536 xs n*val 65536 ys n') w):=by
 have hmk:=fun w=>run_make_row' (P:=Tryz.prog) 53 212 (.int .u32 0) 4 Tryz.underlying53 info191 rfl .i64 .i64 (n+n') (by omega) (by omega) w
 have ec:((n+n':Nat):Int)=(n:Int)+(n':Int):=by omega
 rw[ec] at hmk
 clear ec
 have HXL:=Lib.hid hxl;clear hxl
 have HYL:=Lib.hid hyl;clear hyl
 have HX:=Lib.hid hx;clear hx
 have HY:=Lib.hid hy;clear hy
 have q1:((n:Int)==0)=false:=by simp;omega
 have q2:((n':Int)==0)=false:=by simp;omega
 go_enter Tryz.func204,Tryz.ntmps204
 go_wp2
 clear hmk
 go_loopw [28] (fun i wr=>∃(k:Nat)(zs:Nat→Nat),k≤n∧i= .int .i64 (k:Int)∧MulOut 65536 xs ys n' k zs∧Row wr w.heap.size (n+n') zs∧Kept w wr) (fun i _=>n-(intOf i).toNat)
 case atStart=>exact⟨0,fun _=>0,Nat.zero_le _,rfl,MulOut.start (by decide),Row.made _ _,(Kept.refl _).alloc _⟩
 case round=>
  obtain⟨k,zs0,hk,rfl,hmo,hrow,hkw⟩:=hrel
  by_cases hlt:k<n
  ·have h1:=hkw.cell (HX.out k hlt)
   have hxk:=HXL.out k hlt
   go_wp2
   obtain⟨wo,rfl⟩:∃wo:World,wo=wr:=⟨_,rfl⟩
   go_loopw [8,35] (fun c j wr=>∃(l cn:Nat)(zs:Nat→Nat),l≤n'∧j= .int .i64 (l:Int)∧c= .int .u64 (cn:Int)∧MulIn 65536 xs ys zs0 k l zs cn∧Row wr w.heap.size (n+n') zs∧Kept w wr) (fun _ j _=>n'-(intOf j).toNat)
   case atStart=>exact⟨0,0,zs0,Nat.zero_le _,rfl,rfl,MulIn.start (by decide) hmo.lt,hrow,hkw⟩
   case round=>
    obtain⟨l,cn,zs,hl,rfl,rfl,hmi,hrow1,hkw1⟩:=hrel
    by_cases hlt2:l<n'
    ·have h2:=hkw1.cell (HY.out l hlt2)
     have hyl:=HYL.out l hlt2
     have h3:=hrow1.cell (i:=k+l) (by omega)
     have h4:=hrow1.frozen (k+l)
     have hzl:=hmi.lt (k+l)
     have hcl:=hmi.clt
     have hbd:=mul_bound hxk hyl hzl hcl
     have e9:zs (k+l)+xs k*ys l+cn=xs k*ys l+zs (k+l)+cn:=by omega
     have hbd2:xs k*ys l<65536*65536:=by omega
     have hst:=Lib.hid (hmi.step hxk hyl)
     clear hmi
     go_wp2
     go_roundw
     case rel=>
      refine⟨l+1,(xs k*ys l+zs (k+l)+cn)/65536,upd zs (k+l) ((xs k*ys l+zs (k+l)+cn)%65536),by omega,by go_num,by rw[←e9];simp,hst.out,?_,hkw1.setCell (Nat.le_refl _) _⟩
      have:=hrow1.set (k+l) ((xs k*ys l+zs (k+l)+cn)%65536)
      rw[←e9] at this⊢
      simpa using this
     case measure=>simp[intOf];omega
    ·obtain rfl:n'=l:=by omega
     have h4:=hrow1.frozen (k+n')
     have h3:=hrow1.cell (i:=k+n') (by omega)
     have hcl:=hmi.clt
     have hst:=Lib.hid (hmo.step hmi)
     clear hmi hmo
     go_wp2
     go_roundw
     case rel=>
      refine⟨k+1,upd zs (k+n') cn,by omega,by go_num,hst.out,?_,hkw1.setCell (Nat.le_refl _) _⟩
      exact hrow1.set (k+n') cn
     case measure=>simp[intOf];omega
  ·obtain rfl:n=k:=by omega
   go_wp2_with(go_at_call 146;refine(trim_calls _ _ _ _ zs0 (by omega) (Nat.le_refl _) (hrow.ws (Nat.le_refl _))).mono ?_;rintro e w' ⟨rfl,rfl⟩)
   go_ret
   refine⟨_,rfl,?_,hkw⟩
   have:=nt_of (B:=65536) (cap:=n+n') (Nat.le_refl _) (fun i _=>hmo.lt i) (hrow.ws (Nat.le_refl _))
   rw[hmo.eq] at this
   exact this
theorem nmul_zero(w:World)(a a':Option Addr)(n n' cap cap':Nat)(h:n=0∨n'=0):
 Calls Tryz.prog 204 #[.slice a n cap,.slice a' n' cap'] w (RetNt 65536 0 w):=by
 by_cases h1:n=0
 ·subst h1
  go_enter Tryz.func204,Tryz.ntmps204
  go_wp2
  go_ret
  exact⟨_,rfl,⟨none,0,0,fun _=>0,rfl,Nat.le_refl _,fun _ h=>by omega,.inl rfl,rfl,fun _ h=>by omega⟩,Kept.refl _⟩
 ·obtain rfl:n'=0:=by omega
  have q1:((n:Int)==0)=false:=by simp;omega
  go_enter Tryz.func204,Tryz.ntmps204
  go_wp2
  go_ret
  exact⟨_,rfl,⟨none,0,0,fun _=>0,rfl,Nat.le_refl _,fun _ h=>by omega,.inl rfl,rfl,fun _ h=>by omega⟩,Kept.refl _⟩
theorem nmul_calls{w:World}{v u:Value}{m k:Nat}(hv:Nt 65536 w v m)(hu:Nt 65536 w u k)(hm:m<Big)(hk:k<Big):
 Calls Tryz.prog 204 #[v,u] w (RetNt 65536 (m*k) w):=by
 obtain⟨a,n,cap,xs,rfl,hc,hd,hn,rfl,hw⟩:=hv
 obtain⟨a',n',cap',ys,rfl,hc',hd',hn',rfl,hw'⟩:=hu
 have hl:=len_big (.inl rfl) hn hm
 have hl':=len_big (.inl rfl) hn' hk
 rcases hw.open with rfl|⟨h0,b,off,rfl,hx⟩
 ·have:=nmul_zero w a a' 0 n' cap cap' (.inl rfl)
  simpa [val] using this
 ·rcases hw'.open with rfl|⟨h0',b',off',rfl,hy⟩
  ·have:=nmul_zero w (some ⟨b,off,none⟩) a' n 0 cap cap' (.inr rfl)
   simpa [val] using this
  ·exact nmul_some w b off cap b' off' cap' n n' xs ys hl hl' h0 h0' hd hd' hx hy
set_option maxHeartbeats 4000000 in
set_option maxRecDepth 100000 in
theorem nsmall_some(w:World)(a:Option Addr)(cap n d:Nat)(xs:Nat→Nat)(hn:n≤1024)(hd0:0<d)(hd:d<65536)
 (hxl:∀i,i<n→xs i<65536)(hx:Ws w a n xs):
 Calls Tryz.prog 210 #[.slice a n cap,.int .u32 (d:Int)] w (RetNtR 65536 (val 65536 xs n/d) (val 65536 xs n%d) w):=by
 have hmk:=fun w=>run_make_row' (P:=Tryz.prog) 53 212 (.int .u32 0) 4 Tryz.underlying53 info191 rfl .i64 .i64 n (by omega) (by omega) w
 have HXL:=Lib.hid hxl;clear hxl
 have HX:=Lib.hid hx;clear hx
 go_enter Tryz.func210,Tryz.ntmps210
 go_wp2
 clear hmk
 go_loopw [7,8] (fun rr i wr=>∃(k r:Nat)(zs:Nat→Nat),k≤n∧i= .int .i64 ((k:Int)-1)∧rr= .int .u32 (r:Int)∧DivI 65536 xs n d k zs r∧Row wr w.heap.size n zs∧Kept w wr) (fun _ i _=>(intOf i+1).toNat)
 case atStart=>exact⟨n,0,fun _=>0,Nat.le_refl _,rfl,rfl,DivI.start (by decide) hd0,Row.made _ _,(Kept.refl _).alloc _⟩
 case round=>
  obtain⟨k,r,zs,hk,rfl,rfl,hdi,hrow,hkw⟩:=hrel
  cases k with
  |zero=>
   have hrl:=hdi.rlt
   go_wp2_with(go_at_call 146;refine(trim_calls _ _ _ _ zs (by omega) (Nat.le_refl _) (hrow.ws (Nat.le_refl _))).mono ?_;rintro e w' ⟨rfl,rfl⟩)
   go_ret2
   have hdn:=hdi.done
   refine⟨.slice (some ⟨w.heap.size,0,none⟩) (trimN zs n) n,by rw[←hdn.2];rfl,?_,hkw⟩
   have:=nt_of (B:=65536) (cap:=n) (Nat.le_refl _) (fun i _=>hdi.lt i) (hrow.ws (Nat.le_refl _))
   rw[hdn.1] at this
   exact this
  |succ k=>
   obtain⟨b,off,rfl,hc⟩:=HX.out k (by omega)
   have h1:=hkw.cell hc
   have HC:=Lib.hid hc;clear hc
   have hxk:=HXL.out k (by omega)
   have h3:=hrow.cell (i:=k) (by omega)
   have h4:=hrow.frozen k
   have hrl:=hdi.rlt
   have hst:=Lib.hid (hdi.step (by omega) hxk)
   have hbd:=div_bound hrl hxk
   clear hdi
   go_wp2
   go_roundw
   case rel=>
    refine⟨k,(r*65536+xs k)%d,upd zs k ((r*65536+xs k)/d),by omega,rfl,by simp,hst.out,?_,hkw.setCell (Nat.le_refl _) _⟩
    have e1:(((r:Int)*65536+(xs k:Int))/(d:Int))=(((r*65536+xs k)/d:Nat):Int):=by simp
    rw[e1]
    exact hrow.set _ _
   case measure=>simp[intOf]
theorem nsmall_calls{w:World}{v:Value}{m d:Nat}(hv:Nt 65536 w v m)(hm:m<Big)(hd0:0<d)(hd:d<65536):
 Calls Tryz.prog 210 #[v,.int .u32 (d:Int)] w (RetNtR 65536 (m/d) (m%d) w):=by
 obtain⟨a,n,cap,xs,rfl,hc,hxd,hn,rfl,hw⟩:=hv
 exact nsmall_some w a cap n d xs (len_big (.inl rfl) hn hm) hd0 hd hxd hw
end
section
open Go Go.RowKit Go.Dig
open Go.Eng (Kept KW KeptB)
theorem norm_of_val{B:Nat}{zs:Nat→Nat}{n:Nat}(hz:∀i,i<n→zs i<B)(h:n=0∨B^(n-1)≤val B zs n):norm zs n:=by
 rcases h with h|h
 ·exact .inl h
 ·by_cases h0:n=0
  ·exact .inl h0
  ·obtain⟨k,rfl⟩:∃k,n=k+1:=⟨n-1,by omega⟩
   refine .inr ?_
   simp only[Nat.add_sub_cancel] at*
   intro e
   have:=val_lt (B:=B) (n:=k) fun i hi=>hz i (by omega)
   simp only[val,e] at h
   omega
theorem Ap.made(w:World)(base c:Nat)(zs:Nat→Nat)(hb:base≤w.heap.size)(hc:c≤1000000):
 Ap (w.alloc (.cells (madeCells #[.int .u32 0] c) 212)) base (.slice (some ⟨w.heap.size,0,none⟩) 0 c) 0 zs:=
 World.ownsRow_made w _ c hb (by unfold maxLen;omega) (by simp[size_madeCells])
theorem cat_val(B:Nat)(zs:Nat→Nat)(n x:Nat):val B (cat zs n fun _=>x) (n+1)=val B zs n+x*B^n:=by
 simp only[val]
 rw[val_congr (ys:=zs) fun i hi=>by simp[cat,hi]]
 simp[cat]
theorem cat_lt{B:Nat}{zs:Nat→Nat}{n x:Nat}(h:∀i,i<n→zs i<B)(hx:x<B):∀i,i<n+1→cat zs n (fun _=>x) i<B:=fun i _=>by
 unfold cat;split
 ·exact h i ‹_›
 ·exact hx
def ext(ys:Nat→Nat)(n:Nat):Nat→Nat:=fun i=>if i<n then ys i else 0
theorem val_ext{B:Nat}{ys:Nat→Nat}{n m:Nat}(h:n≤m):val B (ext ys n) m=val B ys n:=val_over_zero h
structure AdI(xs ys:Nat→Nat)(i:Nat)(zs:Nat→Nat)(c:Nat):Prop where
 lt:∀k,k<i→zs k<65536
 clt:c≤1
 eq:val 65536 zs i+c*65536^i=val 65536 xs i+val 65536 ys i
theorem AdI.step{xs ys zs:Nat→Nat}{i c:Nat}(h:AdI xs ys i zs c)(hx:xs i<65536)(hy:ys i<65536):
 AdI xs ys (i+1) (cat zs i fun _=>(xs i+c+ys i)%65536) ((xs i+c+ys i)/65536):=by
 have hc:=h.clt
 refine⟨cat_lt h.lt (Nat.mod_lt _ (by decide)),by omega,?_⟩
 have e:=h.eq
 have hm:=Nat.mod_add_div (xs i+c+ys i) 65536
 rw[cat_val]
 simp only[val]
 rw[Nat.pow_succ]
 generalize (xs i+c+ys i)/65536=c' at*
 generalize (xs i+c+ys i)%65536=l at*
 generalize 65536^i=P at*
 have e2:(xs i+c+ys i)*P=(l+65536*c')*P:=by rw[hm]
 grind
set_option maxHeartbeats 4000000 in
set_option maxRecDepth 100000 in
theorem nadd_ge(w:World)(a a':Option Addr)(n n' cap cap':Nat)(xs ys:Nat→Nat)(hn:n≤2000)(hnn:n'≤n)
 (hxl:∀i,i<n→xs i<65536)(hyl:∀i,i<n'→ys i<65536)(hxn:norm xs n)(hx:Ws w a n xs)(hy:Ws w a' n' ys)(v u:Value)
 (hcase:(v= .slice a n cap∧u= .slice a' n' cap')∨(n'<n∧v= .slice a' n' cap'∧u= .slice a n cap)):
 Calls Tryz.prog 206 #[v,u] w (RetNt 65536 (val 65536 xs n+val 65536 ys n') w):=by
 have hmk:=fun w=>run_make_room (P:=Tryz.prog) 53 212 (.int .u32 0) 4 Tryz.underlying53 info191 rfl .i64 .i64 (n+1) (by omega) (by omega) w
 have ec:((n+1:Nat):Int)=(n:Int)+1:=by omega
 rw[ec] at hmk
 clear ec
 have HXL:=Lib.hid hxl;clear hxl
 have HYL:=Lib.hid hyl;clear hyl
 have HX:=Lib.hid hx;clear hx
 have HY:=Lib.hid hy;clear hy
 rcases hcase with⟨rfl,rfl⟩|⟨hlt0,rfl,rfl⟩
 ·have tlt:decide (n<n')=false:=by simp;omega
  go_enter Tryz.func206,Tryz.ntmps206
  go_wp2
  clear hmk
  go_loopw [5,6,22] (fun ov cv iv wr=>∃(k c:Nat)(zs:Nat→Nat),k≤n∧iv= .int .i64 (k:Int)∧cv= .int .u32 (c:Int)∧AdI xs (ext ys n') k zs c∧Ap wr w.heap.size ov k zs∧Kept w wr) (fun _ _ iv _=>n-(intOf iv).toNat)
  case atStart=>exact⟨0,0,fun _=>0,Nat.zero_le _,rfl,rfl,⟨fun _ h=>by omega,by omega,by simp[val]⟩,Ap.made _ _ _ _ (Nat.le_refl _) (by omega),(Kept.refl _).alloc _⟩
  case round=>
   obtain⟨k,c,zs,hk,rfl,rfl,hai,hap,hkw⟩:=hrel
   have hcl:=hai.clt
   by_cases hlt:k<n
   ·obtain⟨b,off,rfl,hcx⟩:=(HX.out.kept hkw) k hlt
    have hxk:=HXL.out k hlt
    by_cases hlt2:k<n'
    ·obtain⟨b',off',rfl,hcy⟩:=(HY.out.kept hkw) k hlt2
     have hyk:=HYL.out k hlt2
     have hst:=Lib.hid (hai.step hxk (by simp only[ext,if_pos hlt2];exact hyk))
     simp only[ext,if_pos hlt2] at hst
     clear hai
     have hap1:=hap.alloc (Obj.cells #[Value.int IntKind.u32 (((xs k+c+ys k)%65536:Nat):Int)] 212)
     have hkw1:=hkw.alloc (Obj.cells #[Value.int IntKind.u32 (((xs k+c+ys k)%65536:Nat):Int)] 212)
     have hws1:=ws_one wr ((xs k+c+ys k)%65536)
     have e1:(((xs k+c+ys k)%65536:Nat):Int)=((xs k:Int)+(c:Int)+(ys k:Int))%65536:=by omega
     rw[e1] at hap1 hkw1 hws1
     clear e1
     go_wp2_with(at_builtin;refine wpList_append_words rfl (.tmp 41) (.tmp 44) 53 rfl Tryz.underlying53 w hkw1 _ k zs rfl hap1 ⟨wr.heap.size,0,none⟩ 1 1 (fun _=>(xs k+c+ys k)%65536) rfl hws1 (by omega) ?_;intro v' w1 hap2 hkw2)
     go_roundw
     case rel=>exact⟨k+1,(xs k+c+ys k)/65536,_,by omega,by go_num,by simp,hst.out,hap2,hkw2⟩
     case measure=>simp[intOf];omega
    ·have hst:=Lib.hid (hai.step hxk (by simp only[ext,if_neg hlt2];decide))
     simp only[ext,if_neg hlt2,Nat.add_zero] at hst
     clear hai
     have hap1:=hap.alloc (Obj.cells #[Value.int IntKind.u32 (((xs k+c)%65536:Nat):Int)] 212)
     have hkw1:=hkw.alloc (Obj.cells #[Value.int IntKind.u32 (((xs k+c)%65536:Nat):Int)] 212)
     have hws1:=ws_one wr ((xs k+c)%65536)
     have e1:(((xs k+c)%65536:Nat):Int)=((xs k:Int)+(c:Int))%65536:=by omega
     rw[e1] at hap1 hkw1 hws1
     clear e1
     go_wp2_with(at_builtin;refine wpList_append_words rfl (.tmp 41) (.tmp 44) 53 rfl Tryz.underlying53 w hkw1 _ k zs rfl hap1 ⟨wr.heap.size,0,none⟩ 1 1 (fun _=>(xs k+c)%65536) rfl hws1 (by omega) ?_;intro v' w1 hap2 hkw2)
     go_roundw
     case rel=>exact⟨k+1,(xs k+c)/65536,_,by omega,by go_num,by simp,hst.out,hap2,hkw2⟩
     case measure=>simp[intOf];omega
   ·obtain rfl:n=k:=by omega
    have heq:=hai.eq
    rw[val_ext hnn] at heq
    have HEQ:=Lib.hid heq;clear heq
    by_cases hc0:c=0
    ·subst hc0
     obtain⟨av,capv,rfl,hcapv,hwsv⟩:=hap.ws
     go_wp2
     go_ret
     have he:val 65536 zs n=val 65536 xs n+val 65536 ys n':=by have:=HEQ.out;simpa using this
     refine⟨_,rfl,⟨av,n,capv,zs,rfl,hcapv,hai.lt,norm_of_val hai.lt ?_,he,hwsv⟩,hkw⟩
     by_cases h0:n=0
     ·exact .inl h0
     ·refine .inr ?_
      have:=val_ge (B:=65536) (zs:=xs) (n:=n) (by omega) (by rcases hxn with h|h;omega;exact h)
      omega
    ·obtain rfl:c=1:=by omega
     have hap1:=hap.alloc (Obj.cells #[Value.int IntKind.u32 ((1:Nat):Int)] 212)
     have hkw1:=hkw.alloc (Obj.cells #[Value.int IntKind.u32 ((1:Nat):Int)] 212)
     have hws1:=ws_one wr 1
     go_wp2_with(at_builtin;refine wpList_append_words rfl (.tmp 51) (.tmp 53) 53 rfl Tryz.underlying53 w hkw1 _ n zs rfl hap1 ⟨wr.heap.size,0,none⟩ 1 1 (fun _=>1) rfl hws1 (by omega) ?_;intro v' w1 hap2 hkw2)
     obtain⟨av,capv,rfl,hcapv,hwsv⟩:=hap2.ws
     go_ret
     have he:val 65536 (cat zs n fun _=>1) (n+1)=val 65536 xs n+val 65536 ys n':=by rw[cat_val];exact HEQ.out
     exact⟨_,rfl,⟨av,n+1,capv,_,rfl,hcapv,cat_lt hai.lt (by decide),.inr (by simp[cat]),he,hwsv⟩,hkw2⟩
 ·have tlt:decide (n'<n)=true:=by simp;omega
  go_enter Tryz.func206,Tryz.ntmps206
  go_wp2
  clear hmk
  go_loopw [5,6,22] (fun ov cv iv wr=>∃(k c:Nat)(zs:Nat→Nat),k≤n∧iv= .int .i64 (k:Int)∧cv= .int .u32 (c:Int)∧AdI xs (ext ys n') k zs c∧Ap wr w.heap.size ov k zs∧Kept w wr) (fun _ _ iv _=>n-(intOf iv).toNat)
  case atStart=>exact⟨0,0,fun _=>0,Nat.zero_le _,rfl,rfl,⟨fun _ h=>by omega,by omega,by simp[val]⟩,Ap.made _ _ _ _ (Nat.le_refl _) (by omega),(Kept.refl _).alloc _⟩
  case round=>
   obtain⟨k,c,zs,hk,rfl,rfl,hai,hap,hkw⟩:=hrel
   have hcl:=hai.clt
   by_cases hlt:k<n
   ·obtain⟨b,off,rfl,hcx⟩:=(HX.out.kept hkw) k hlt
    have hxk:=HXL.out k hlt
    by_cases hlt2:k<n'
    ·obtain⟨b',off',rfl,hcy⟩:=(HY.out.kept hkw) k hlt2
     have hyk:=HYL.out k hlt2
     have hst:=Lib.hid (hai.step hxk (by simp only[ext,if_pos hlt2];exact hyk))
     simp only[ext,if_pos hlt2] at hst
     clear hai
     have hap1:=hap.alloc (Obj.cells #[Value.int IntKind.u32 (((xs k+c+ys k)%65536:Nat):Int)] 212)
     have hkw1:=hkw.alloc (Obj.cells #[Value.int IntKind.u32 (((xs k+c+ys k)%65536:Nat):Int)] 212)
     have hws1:=ws_one wr ((xs k+c+ys k)%65536)
     have e1:(((xs k+c+ys k)%65536:Nat):Int)=((xs k:Int)+(c:Int)+(ys k:Int))%65536:=by omega
     rw[e1] at hap1 hkw1 hws1
     clear e1
     go_wp2_with(at_builtin;refine wpList_append_words rfl (.tmp 41) (.tmp 44) 53 rfl Tryz.underlying53 w hkw1 _ k zs rfl hap1 ⟨wr.heap.size,0,none⟩ 1 1 (fun _=>(xs k+c+ys k)%65536) rfl hws1 (by omega) ?_;intro v' w1 hap2 hkw2)
     go_roundw
     case rel=>exact⟨k+1,(xs k+c+ys k)/65536,_,by omega,by go_num,by simp,hst.out,hap2,hkw2⟩
     case measure=>simp[intOf];omega
    ·have hst:=Lib.hid (hai.step hxk (by simp only[ext,if_neg hlt2];decide))
     simp only[ext,if_neg hlt2,Nat.add_zero] at hst
     clear hai
     have hap1:=hap.alloc (Obj.cells #[Value.int IntKind.u32 (((xs k+c)%65536:Nat):Int)] 212)
     have hkw1:=hkw.alloc (Obj.cells #[Value.int IntKind.u32 (((xs k+c)%65536:Nat):Int)] 212)
     have hws1:=ws_one wr ((xs k+c)%65536)
     have e1:(((xs k+c)%65536:Nat):Int)=((xs k:Int)+(c:Int))%65536:=by omega
     rw[e1] at hap1 hkw1 hws1
     clear e1
     go_wp2_with(at_builtin;refine wpList_append_words rfl (.tmp 41) (.tmp 44) 53 rfl Tryz.underlying53 w hkw1 _ k zs rfl hap1 ⟨wr.heap.size,0,none⟩ 1 1 (fun _=>(xs k+c)%65536) rfl hws1 (by omega) ?_;intro v' w1 hap2 hkw2)
     go_roundw
     case rel=>exact⟨k+1,(xs k+c)/65536,_,by omega,by go_num,by simp,hst.out,hap2,hkw2⟩
     case measure=>simp[intOf];omega
   ·obtain rfl:n=k:=by omega
    have heq:=hai.eq
    rw[val_ext hnn] at heq
    have HEQ:=Lib.hid heq;clear heq
    by_cases hc0:c=0
    ·subst hc0
     obtain⟨av,capv,rfl,hcapv,hwsv⟩:=hap.ws
     go_wp2
     go_ret
     have he:val 65536 zs n=val 65536 xs n+val 65536 ys n':=by have:=HEQ.out;simpa using this
     refine⟨_,rfl,⟨av,n,capv,zs,rfl,hcapv,hai.lt,norm_of_val hai.lt ?_,he,hwsv⟩,hkw⟩
     by_cases h0:n=0
     ·exact .inl h0
     ·refine .inr ?_
      have:=val_ge (B:=65536) (zs:=xs) (n:=n) (by omega) (by rcases hxn with h|h;omega;exact h)
      omega
    ·obtain rfl:c=1:=by omega
     have hap1:=hap.alloc (Obj.cells #[Value.int IntKind.u32 ((1:Nat):Int)] 212)
     have hkw1:=hkw.alloc (Obj.cells #[Value.int IntKind.u32 ((1:Nat):Int)] 212)
     have hws1:=ws_one wr 1
     go_wp2_with(at_builtin;refine wpList_append_words rfl (.tmp 51) (.tmp 53) 53 rfl Tryz.underlying53 w hkw1 _ n zs rfl hap1 ⟨wr.heap.size,0,none⟩ 1 1 (fun _=>1) rfl hws1 (by omega) ?_;intro v' w1 hap2 hkw2)
     obtain⟨av,capv,rfl,hcapv,hwsv⟩:=hap2.ws
     go_ret
     have he:val 65536 (cat zs n fun _=>1) (n+1)=val 65536 xs n+val 65536 ys n':=by rw[cat_val];exact HEQ.out
     exact⟨_,rfl,⟨av,n+1,capv,_,rfl,hcapv,cat_lt hai.lt (by decide),.inr (by simp[cat]),he,hwsv⟩,hkw2⟩
theorem nadd_calls{w:World}{v u:Value}{m k:Nat}(hv:Nt 65536 w v m)(hu:Nt 65536 w u k)(hm:m<Big)(hk:k<Big):
 Calls Tryz.prog 206 #[v,u] w (RetNt 65536 (m+k) w):=by
 obtain⟨a,n,cap,xs,rfl,hc,hd,hn,rfl,hw⟩:=hv
 obtain⟨a',n',cap',ys,rfl,hc',hd',hn',rfl,hw'⟩:=hu
 have hl:=len_big (.inl rfl) hn hm
 have hl':=len_big (.inl rfl) hn' hk
 by_cases h:n<n'
 ·rw[Nat.add_comm]
  exact nadd_ge w a' a n' n cap' cap ys xs (by omega) (by omega) hd' hd hn' hw' hw _ _ (.inr ⟨h,rfl,rfl⟩)
 ·exact nadd_ge w a a' n n' cap cap' xs ys (by omega) (by omega) hd hd' hn hw hw' _ _ (.inl ⟨rfl,rfl⟩)
end
section
open Go Go.RowKit Go.Dig
open Go.Eng (Kept KW KeptB)
structure SuI(xs ys:Nat→Nat)(i:Nat)(zs:Nat→Nat)(o:Nat):Prop where
 lt:∀k,k<i→zs k<65536
 ole:o≤1
 eq:val 65536 zs i+val 65536 ys i=val 65536 xs i+o*65536^i
theorem SuI.step{xs ys zs:Nat→Nat}{i o z o':Nat}(h:SuI xs ys i zs o)(hz:z<65536)(ho:o'≤1)(he:z+(o+ys i)=xs i+65536*o'):
 SuI xs ys (i+1) (cat zs i fun _=>z) o':=by
 refine⟨cat_lt h.lt hz,ho,?_⟩
 have e:=h.eq
 rw[cat_val]
 simp only[val]
 rw[Nat.pow_succ]
 generalize 65536^i=P at*
 have e2:(z+(o+ys i))*P=(xs i+65536*o')*P:=by rw[he]
 grind
theorem SuI.done{xs ys zs:Nat→Nat}{n n' o:Nat}(h:SuI xs (ext ys n') n zs o)(_hx:∀i,i<n→xs i<65536)(hn:n'≤n)(hle:val 65536 ys n'≤val 65536 xs n):val 65536 zs n=val 65536 xs n-val 65536 ys n':=by
 have e:=h.eq
 rw[val_ext hn] at e
 have h1:=val_lt h.lt
 have ho:o=0:=by
  by_cases h0:o=0
  ·exact h0
  ·have:o=1:=by have:=h.ole;omega
   subst this
   omega
 subst ho
 omega
set_option maxHeartbeats 4000000 in
set_option maxRecDepth 100000 in
theorem nsub_ge(w:World)(a a':Option Addr)(n n' cap cap':Nat)(xs ys:Nat→Nat)(hn:n≤2000)(hnn:n'≤n)
 (hxl:∀i,i<n→xs i<65536)(hyl:∀i,i<n'→ys i<65536)(hx:Ws w a n xs)(hy:Ws w a' n' ys)(hle:val 65536 ys n'≤val 65536 xs n):
 Calls Tryz.prog 208 #[.slice a n cap,.slice a' n' cap'] w (RetNt 65536 (val 65536 xs n-val 65536 ys n') w):=by
 have hmk:=fun w=>run_make_room (P:=Tryz.prog) 53 212 (.int .u32 0) 4 Tryz.underlying53 info191 rfl .i64 .i64 n (by omega) (by omega) w
 have HXL:=Lib.hid hxl;clear hxl
 have HYL:=Lib.hid hyl;clear hyl
 have HX:=Lib.hid hx;clear hx
 have HY:=Lib.hid hy;clear hy
 go_enter Tryz.func208,Tryz.ntmps208
 go_wp2
 clear hmk
 go_loopw [5,6,15] (fun ov cv iv wr=>∃(k o:Nat)(zs:Nat→Nat),k≤n∧iv= .int .i64 (k:Int)∧cv= .int .u32 (o:Int)∧SuI xs (ext ys n') k zs o∧Ap wr w.heap.size ov k zs∧Kept w wr) (fun _ _ iv _=>n-(intOf iv).toNat)
 case atStart=>exact⟨0,0,fun _=>0,Nat.zero_le _,rfl,rfl,⟨fun _ h=>by omega,by omega,by simp[val]⟩,Ap.made _ _ _ _ (Nat.le_refl _) (by omega),(Kept.refl _).alloc _⟩
 case round=>
  obtain⟨k,o,zs,hk,rfl,rfl,hai,hap,hkw⟩:=hrel
  have hcl:=hai.ole
  by_cases hlt:k<n
  ·obtain⟨b,off,rfl,hcx⟩:=(HX.out.kept hkw) k hlt
   have hxk:=HXL.out k hlt
   by_cases hlt2:k<n'
   ·obtain⟨b',off',rfl,hcy⟩:=(HY.out.kept hkw) k hlt2
    have hyk:=HYL.out k hlt2
    have HST:=Lib.hid (fun z o'(hz:z<65536)(ho:o'≤1)(he:z+(o+ys k)=xs k+65536*o')=>hai.step (z:=z) (o':=o') hz ho (by simp only[ext,if_pos hlt2];exact he))
    clear hai
    by_cases hb:xs k<o+ys k
    ·have hap1:=hap.alloc (Obj.cells #[Value.int IntKind.u32 ((xs k+65536-(o+ys k):Nat):Int)] 212)
     have hkw1:=hkw.alloc (Obj.cells #[Value.int IntKind.u32 ((xs k+65536-(o+ys k):Nat):Int)] 212)
     have hws1:=ws_one wr (xs k+65536-(o+ys k))
     have e1:((xs k+65536-(o+ys k):Nat):Int)=(xs k:Int)+65536-((o:Int)+(ys k:Int)):=by omega
     rw[e1] at hap1 hkw1 hws1
     clear e1
     go_wp2_with(at_builtin;refine wpList_append_words rfl (.tmp 38) (.tmp 42) 53 rfl Tryz.underlying53 w hkw1 _ k zs rfl hap1 ⟨wr.heap.size,0,none⟩ 1 1 (fun _=>xs k+65536-(o+ys k)) rfl hws1 (by omega) ?_;intro v' w1 hap2 hkw2)
     go_roundw
     case rel=>exact⟨k+1,1,_,by omega,by go_num,rfl,HST.out (xs k+65536-(o+ys k)) 1 (by omega) (by omega) (by omega),hap2,hkw2⟩
     case measure=>simp[intOf];omega
    ·have hap1:=hap.alloc (Obj.cells #[Value.int IntKind.u32 ((xs k-(o+ys k):Nat):Int)] 212)
     have hkw1:=hkw.alloc (Obj.cells #[Value.int IntKind.u32 ((xs k-(o+ys k):Nat):Int)] 212)
     have hws1:=ws_one wr (xs k-(o+ys k))
     have e1:((xs k-(o+ys k):Nat):Int)=(xs k:Int)-((o:Int)+(ys k:Int)):=by omega
     rw[e1] at hap1 hkw1 hws1
     clear e1
     go_wp2_with(at_builtin;refine wpList_append_words rfl (.tmp 38) (.tmp 42) 53 rfl Tryz.underlying53 w hkw1 _ k zs rfl hap1 ⟨wr.heap.size,0,none⟩ 1 1 (fun _=>xs k-(o+ys k)) rfl hws1 (by omega) ?_;intro v' w1 hap2 hkw2)
     go_roundw
     case rel=>exact⟨k+1,0,_,by omega,by go_num,rfl,HST.out (xs k-(o+ys k)) 0 (by omega) (by omega) (by omega),hap2,hkw2⟩
     case measure=>simp[intOf];omega
   ·have HST:=Lib.hid (fun z o'(hz:z<65536)(ho:o'≤1)(he:z+o=xs k+65536*o')=>hai.step (z:=z) (o':=o') hz ho (by simp only[ext,if_neg hlt2];omega))
    clear hai
    by_cases hb:xs k<o
    ·have hap1:=hap.alloc (Obj.cells #[Value.int IntKind.u32 ((xs k+65536-(o):Nat):Int)] 212)
     have hkw1:=hkw.alloc (Obj.cells #[Value.int IntKind.u32 ((xs k+65536-(o):Nat):Int)] 212)
     have hws1:=ws_one wr (xs k+65536-(o))
     have e1:((xs k+65536-(o):Nat):Int)=(xs k:Int)+65536-(o:Int):=by omega
     rw[e1] at hap1 hkw1 hws1
     clear e1
     go_wp2_with(at_builtin;refine wpList_append_words rfl (.tmp 38) (.tmp 42) 53 rfl Tryz.underlying53 w hkw1 _ k zs rfl hap1 ⟨wr.heap.size,0,none⟩ 1 1 (fun _=>xs k+65536-(o)) rfl hws1 (by omega) ?_;intro v' w1 hap2 hkw2)
     go_roundw
     case rel=>exact⟨k+1,1,_,by omega,by go_num,rfl,HST.out (xs k+65536-(o)) 1 (by omega) (by omega) (by omega),hap2,hkw2⟩
     case measure=>simp[intOf];omega
    ·have hap1:=hap.alloc (Obj.cells #[Value.int IntKind.u32 ((xs k-(o):Nat):Int)] 212)
     have hkw1:=hkw.alloc (Obj.cells #[Value.int IntKind.u32 ((xs k-(o):Nat):Int)] 212)
     have hws1:=ws_one wr (xs k-(o))
     have e1:((xs k-(o):Nat):Int)=(xs k:Int)-(o:Int):=by omega
     rw[e1] at hap1 hkw1 hws1
     clear e1
     go_wp2_with(at_builtin;refine wpList_append_words rfl (.tmp 38) (.tmp 42) 53 rfl Tryz.underlying53 w hkw1 _ k zs rfl hap1 ⟨wr.heap.size,0,none⟩ 1 1 (fun _=>xs k-(o)) rfl hws1 (by omega) ?_;intro v' w1 hap2 hkw2)
     go_roundw
     case rel=>exact⟨k+1,0,_,by omega,by go_num,rfl,HST.out (xs k-(o)) 0 (by omega) (by omega) (by omega),hap2,hkw2⟩
     case measure=>simp[intOf];omega
  ·obtain rfl:n=k:=by omega
   obtain⟨av,capv,rfl,hcapv,hwsv⟩:=hap.ws
   have hd:=hai.done HXL.out hnn hle
   go_wp2_with(go_at_call 146;refine(trim_calls _ _ _ _ zs (by omega) hcapv hwsv).mono ?_;rintro e w' ⟨rfl,rfl⟩)
   go_ret
   have:=nt_of (B:=65536) hcapv hai.lt hwsv
   rw[hd] at this
   exact⟨_,rfl,this,hkw⟩
theorem nsub_calls{w:World}{v u:Value}{m k:Nat}(hv:Nt 65536 w v m)(hu:Nt 65536 w u k)(hm:m<Big)(hle:k≤m):
 Calls Tryz.prog 208 #[v,u] w (RetNt 65536 (m-k) w):=by
 obtain⟨a,n,cap,xs,rfl,hc,hd,hn,rfl,hw⟩:=hv
 obtain⟨a',n',cap',ys,rfl,hc',hd',hn',rfl,hw'⟩:=hu
 have hl:=len_big (.inl rfl) hn hm
 have hnn:n'≤n:=by
  by_cases h:n<n'
  ·have:=val_len_lt (B:=65536) (by decide) hd hn' h
   omega
  ·omega
 exact nsub_ge w a a' n n' cap cap' xs ys (by omega) hnn hd hd' hw hw' hle
end
section
open Go Go.RowKit Go.Dig Go.Deep
open Go.Eng (Kept KW)
theorem src_empty(w:World)(tx:TypeId)(hk:Tryz.prog.underlying tx=some (.slice 212))(a:Option Addr)(c:Nat):Src Tryz.prog 1 tx (.slice a 0 c) 0 [] w:=by
 cases a with
 |none=>exact Src.ofNil w hk c
 |some a=>exact Src.ofSlice w hk a 0 c [] (by simp) (fun j u h=>by simp at h) (fun _ h=>by cases h)
theorem wpList_append_empty{w:World}{ops:Array Oper}{rest:List Oper}{o:Oper}{act:Act}{Q:Exit→Act→World→Prop}(hgd:o.guard=none)(s x:Operand)(t:TypeId)
 (ho:o.op= .call {callee:=.builtin .append,args:=#[s,x],argTypes:=#[t,t]})(ht:Tryz.prog.underlying t=some (.slice 212))
 (b off n cap c:Nat)(a:Option Addr)(hs:act.eval s= .slice (some ⟨b,off,none⟩) n cap)(hn:n≤cap)(hx:act.eval x= .slice a 0 c)
 (h:wpList Tryz.prog ops Q rest (act.put o.dst (.slice (some ⟨b,off,none⟩) n cap)) w):wpList Tryz.prog ops Q (o::rest) act w:=by
 obtain⟨i0,hi,hz0,hz1,hz2⟩:=info_parts'
 have hsrc:=src_empty w t ht a c
 rw[←hz1] at hsrc
 have hrun:=run_append_room_src (P:=Tryz.prog) w t t o.type 212 i0 ht hi b off n cap (.slice a 0 c) 0 [] hsrc (by omega) (fun j h=>by simp at h) (fun j h=>by simp at h)
 refine wpList_plain hgd fun K hK=> ?_
 unfold Oper.wp
 simp[execOp,ho,resolve,invoke,builtin,hs,hx,hrun,Result.andThen]
 exact hK _ _ h
theorem wpList_append_list{w:World}{ops:Array Oper}{rest:List Oper}{o:Oper}{act:Act}{Q:Exit→Act→World→Prop}(hgd:o.guard=none)(s x:Operand)(t:TypeId)
 (ho:o.op= .call {callee:=.builtin .append,args:=#[s,x],argTypes:=#[t,t]})(ht:Tryz.prog.underlying t=some (.slice 212))
 (w0:World)(hk:Kept w0 w)(b n cap:Nat)(zs:Nat→Nat)(hs:act.eval s= .slice (some ⟨b,0,none⟩) n cap)(hown:Ap w w0.heap.size (.slice (some ⟨b,0,none⟩) n cap) n zs)
 (a:Option Addr)(m c:Nat)(xs:Nat→Nat)(hx:act.eval x= .slice a m c)(hws:Ws w a m xs)(hb:n+m≤1099511627776)
 (h:∀v' w',Ap w' w0.heap.size v' (n+m) (cat zs n xs)→Kept w0 w'→wpList Tryz.prog ops Q rest (act.put o.dst v') w'):wpList Tryz.prog ops Q (o::rest) act w:=by
 rcases hws.open with rfl|⟨_,b',off',rfl,_⟩
 ·have hcap:n≤cap:=by
   obtain⟨a',cap',e,hle,_⟩:=hown.ws
   cases e
   exact hle
  refine wpList_append_empty hgd s x t ho ht b 0 n cap c a hs hcap hx (h _ w ?_ hk)
  exact hown.congr fun i hi=>by simp[cat];omega
 ·exact wpList_append_words hgd s x t ho ht w0 hk _ n zs hs hown ⟨b',off',none⟩ m c xs hx hws hb h
end
section
open Go Go.RowKit Go.Dig Go.Deep
open Go.Eng (Kept KW KeptB)
def RowP(w:World)(b L:Nat)(zs:Nat→Nat):Prop:=
 ∃c:Array Value,w.heap[b]? =some (.cells c 212 (0,0))∧L≤c.size∧∀i,i<L→c[i]? =some (.int .u32 (zs i:Nat))
theorem Row.p{w:World}{b n:Nat}{zs:Nat→Nat}(h:Row w b n zs):RowP w b n zs:=by
 obtain⟨c,h1,h2,h3⟩:=h
 exact⟨c,h1,Nat.le_of_eq h2.symm,h3⟩
section
variable{w:World}{b L:Nat}{zs:Nat→Nat}
theorem RowP.cell(h:RowP w b L zs){i:Nat}(hi:i<L):w.cell? ⟨b,i,none⟩=some (.int .u32 (zs i:Nat)):=by
 obtain⟨c,hb,_,hc⟩:=h
 simp[World.cell?,hb,hc i hi]
theorem RowP.frozen(h:RowP w b L zs)(i:Nat):w.frozen? ⟨b,i,none⟩=false:=by
 obtain⟨c,hb,_,_⟩:=h
 simp[World.frozen?,hb]
theorem RowP.lt(h:RowP w b L zs):b<w.heap.size:=by
 obtain⟨c,hb,_,_⟩:=h
 exact(Array.getElem?_eq_some_iff.1 hb).1
theorem RowP.of_block{w':World}(h:RowP w b L zs)(e:w'.heap[b]? =w.heap[b]?):RowP w' b L zs:=by
 obtain⟨c,hb,hn,hc⟩:=h
 exact⟨c,e.trans hb,hn,hc⟩
theorem RowP.kept{w':World}(h:RowP w b L zs)(k:Kept w w'):RowP w' b L zs:=h.of_block (k.old b h.lt)
theorem RowP.keptB{w':World}{g:Nat}(h:RowP w b L zs)(k:KeptB w w' g)(hb:b≠g):RowP w' b L zs:=h.of_block (k.old b h.lt hb)
theorem RowP.setOther(h:RowP w b L zs){a:Addr}(ha:b≠a.block)(v:Value):RowP (w.setCell a v) b L zs:=h.of_block (blk_setCell_other _ _ _ _ ha)
theorem RowP.set(h:RowP w b L zs)(p x:Nat):RowP (w.setCell ⟨b,p,none⟩ (.int .u32 (x:Nat))) b L (upd zs p x):=by
 obtain⟨c,hb,hn,hc⟩:=h
 refine⟨c.setIfInBounds p (.int .u32 (x:Nat)),?_,by simpa using hn,fun j hj=> ?_⟩
 ·simp[World.setCell,Array.getElem?_modify,hb]
 ·rw[Array.getElem?_setIfInBounds]
  by_cases e:j=p
  ·subst e
   simp[upd,show j<c.size by omega]
  ·rw[if_neg (fun h=>e h.symm)]
   simp only[upd,if_neg e]
   exact hc j hj
theorem RowP.ws{k:Nat}(h:RowP w b L zs)(hk:k≤L):Ws w (some ⟨b,0,none⟩) k zs:=fun i hi=>⟨b,0,rfl,by rw[Nat.zero_add];exact h.cell (by omega)⟩
end
theorem Ap.cut{w:World}{base n cap k:Nat}{a:Option Addr}{zs:Nat→Nat}(h:Ap w base (.slice a n cap) n zs)(hk:k≤n):Ap w base (.slice a k cap) k zs:=by
 obtain⟨hl,⟨e,rfl⟩|⟨g,cap',cur,e,hb,hg,hn,hm,hcs,ht⟩⟩:=h
 ·cases e
  obtain rfl:k=0:=by omega
  exact Ap.nil _ _ _
 ·cases e
  refine⟨by simp,.inr ⟨g,cap,cur,rfl,hb,hg,by omega,hm,hcs,?_⟩⟩
  rw[show cur.toList.take (k*1)=(cur.toList.take (n*1)).take (k*1) by rw[List.take_take];congr 1;omega,ht,Nat.mul_one,←List.map_take,List.take_range]
  congr 2
  omega
theorem Ap.rowP{w:World}{base n:Nat}{v:Value}{zs:Nat→Nat}(h:Ap w base v n zs)(h0:0<n):∃b cap,v= .slice (some ⟨b,0,none⟩) n cap∧n≤cap∧base≤b∧RowP w b n zs:=by
 have hw:=h.ws
 obtain⟨hl,⟨e,rfl⟩|⟨g,cap',cur,rfl,hb,hg,hn,hm,hcs,ht⟩⟩:=h
 ·omega
 ·obtain⟨a,cap,e,hcap,hws⟩:=hw
  cases e
  refine⟨g,cap',rfl,hn,hb,cur,hg,by omega,fun i hi=> ?_⟩
  obtain⟨b,off,e,hc⟩:=hws i hi
  cases e
  simp only[World.cell?,hg,Nat.zero_add] at hc
  simpa using hc
def RetAp(m:Nat)(w:World)(e:Ending)(w':World):Prop:=
 ∃v n zs,e= .returned v∧Ap w' w.heap.size v n zs∧(∀i,i<n→zs i<65536)∧norm zs n∧val 65536 zs n=m∧Kept w w'
theorem RetAp.nt{m:Nat}{w w':World}{e:Ending}(h:RetAp m w e w'):RetNt 65536 m w e w':=by
 obtain⟨v,n,zs,rfl,hap,hl,hn,hv,hk⟩:=h
 obtain⟨a,cap,rfl,hc,hws⟩:=hap.ws
 exact⟨_,rfl,⟨a,n,cap,zs,rfl,hc,hl,hn,hv,hws⟩,hk⟩
end
section
open Go Go.RowKit Go.Dig
open Go.Eng (Kept KW KeptB)
structure SlI(xs:Nat→Nat)(s i:Nat)(zs:Nat→Nat)(c:Nat):Prop where
 lt:∀k,k<i→zs k<65536
 clt:c<2^s
 eq:val 65536 zs i+c*65536^i=val 65536 xs i*2^s
theorem sl_lt{x c s:Nat}(hx:x<65536)(hc:c<2^s):x*2^s+c<65536*2^s:=by
 have:(x+1)*2^s≤65536*2^s:=Nat.mul_le_mul_right _ hx
 rw[Nat.add_mul] at this
 omega
theorem SlI.step{xs zs:Nat→Nat}{s i c:Nat}(h:SlI xs s i zs c)(hx:xs i<65536):
 SlI xs s (i+1) (cat zs i fun _=>(xs i*2^s+c)%65536) ((xs i*2^s+c)/65536):=by
 refine⟨cat_lt h.lt (Nat.mod_lt _ (by decide)),Nat.div_lt_of_lt_mul (sl_lt hx h.clt),?_⟩
 have e:=h.eq
 have hm:=Nat.mod_add_div (xs i*2^s+c) 65536
 rw[cat_val]
 simp only[val]
 rw[Nat.pow_succ]
 generalize (xs i*2^s+c)/65536=c' at*
 generalize (xs i*2^s+c)%65536=l at*
 generalize 65536^i=P at*
 generalize 2^s=S at*
 have e2:(xs i*S+c)*P=(l+65536*c')*P:=by rw[hm]
 grind
theorem or_u32_shl{x c s:Nat}(hx:x<65536)(hs:s≤15)(hc:c<2^s):bits BinOp.or IntKind.u32 ((x:Int)*2^s%4294967296) (c:Int)=((x*2^s+c:Nat):Int)∧x*2^s+c<4294967296:=by
 have h1:2^s≤2^15:=Nat.pow_le_pow_right (by decide) hs
 have h2:x*2^s≤65535*2^15:=Nat.mul_le_mul (by omega) h1
 have h3:(65535*2^15:Nat)=2147450880:=by decide
 have h4:(2^15:Nat)=32768:=by decide
 have h:=u32_or_nat (x*2^s) c (by omega) (by omega)
 rw[nat_join s _ _ (Nat.mul_mod_left ..) hc] at h
 refine⟨?_,by omega⟩
 rw[←h,show(x:Int)*2^s%4294967296=((x*2^s:Nat):Int) by rw[show(x:Int)*2^s=((x*2^s:Nat):Int) by simp];exact mod_id (by omega)]
set_option maxHeartbeats 4000000 in
set_option maxRecDepth 100000 in
theorem nshl_some(w:World)(a:Option Addr)(n cap s:Nat)(xs:Nat→Nat)(hn:n≤2000)(h0:0<n)(hs:s≤15)(hs0:0<s)
 (hxl:∀i,i<n→xs i<65536)(hx:Ws w a n xs):
 Calls Tryz.prog 211 #[.slice a n cap,.int .i64 (s:Int)] w (RetAp (val 65536 xs n*2^s) w):=by
 have hmk:=fun w=>run_make_room (P:=Tryz.prog) 53 212 (.int .u32 0) 4 Tryz.underlying53 info191 rfl .i64 .i64 (n+1) (by omega) (by omega) w
 have ec:((n+1:Nat):Int)=(n:Int)+1:=by omega
 rw[ec] at hmk
 clear ec
 have hs16:(s:Int)/16=0:=by omega
 have hs17:(s:Int)%16=(s:Int):=by omega
 have HXL:=Lib.hid hxl;clear hxl
 have HX:=Lib.hid hx;clear hx
 have q1:((n:Int)==0)=false:=by simp;omega
 have q2:decide (s=0)=false:=by simp;omega
 go_enter Tryz.func211,Tryz.ntmps211
 go_wp2
 clear hmk
 go_loopw [5,6,31] (fun ov cv iv wr=>∃(k c:Nat)(zs:Nat→Nat),k≤n∧iv= .int .i64 (k:Int)∧cv= .int .u32 (c:Int)∧SlI xs s k zs c∧Ap wr w.heap.size ov k zs∧Kept w wr) (fun _ _ iv _=>n-(intOf iv).toNat)
 case atStart=>exact⟨0,0,fun _=>0,Nat.zero_le _,rfl,rfl,⟨fun _ h=>by omega,Nat.pow_pos (by decide),by simp[val]⟩,Ap.made _ _ _ _ (Nat.le_refl _) (by omega),(Kept.refl _).alloc _⟩
 case round=>
  obtain⟨k,c,zs,hk,rfl,rfl,hai,hap,hkw⟩:=hrel
  have hclt:=hai.clt
  have hc15:c<32768:=Nat.lt_of_lt_of_le hclt (show 2^s≤2^15 from Nat.pow_le_pow_right (by decide) hs)
  by_cases hlt:k<n
  ·obtain⟨b,off,rfl,hcx⟩:=(HX.out.kept hkw) k hlt
   have hxk:=HXL.out k hlt
   obtain⟨horr,hx32⟩:=or_u32_shl hxk hs hclt
   have hst:=Lib.hid (hai.step hxk)
   clear hai hclt
   generalize xs k*2^s+c=q at*
   have hap1:=hap.alloc (Obj.cells #[Value.int IntKind.u32 ((q%65536:Nat):Int)] 212)
   have hkw1:=hkw.alloc (Obj.cells #[Value.int IntKind.u32 ((q%65536:Nat):Int)] 212)
   have hws1:=ws_one wr (q%65536)
   have e1:((q%65536:Nat):Int)=(q:Int)%65536:=by omega
   rw[e1] at hap1 hkw1 hws1
   clear e1
   go_wp2_with(at_builtin;refine wpList_append_words rfl (.tmp 42) (.tmp 45) 53 rfl Tryz.underlying53 w hkw1 _ k zs rfl hap1 ⟨wr.heap.size,0,none⟩ 1 1 (fun _=>q%65536) rfl hws1 (by omega) ?_;intro v' w1 hap2 hkw2)
   go_roundw
   case rel=>exact⟨k+1,q/65536,_,by omega,by go_num,by simp,hst.out,hap2,hkw2⟩
   case measure=>simp[intOf];omega
  ·obtain rfl:n=k:=by omega
   have heq:=hai.eq
   have HEQ:=Lib.hid heq;clear heq
   have hap1:=hap.alloc (Obj.cells #[Value.int IntKind.u32 (c:Int)] 212)
   have hkw1:=hkw.alloc (Obj.cells #[Value.int IntKind.u32 (c:Int)] 212)
   have hws1:=ws_one wr c
   go_wp2_with(at_builtin;refine wpList_append_words rfl (.tmp 50) (.tmp 52) 53 rfl Tryz.underlying53 w hkw1 _ n zs rfl hap1 ⟨wr.heap.size,0,none⟩ 1 1 (fun _=>c) rfl hws1 (by omega) ?_;intro v' w1 hap2 hkw2)
   obtain⟨av,capv,rfl,hcapv,hwsv⟩:=hap2.ws
   refine(trim_calls _ _ _ _ _ (by omega) hcapv hwsv).mono ?_
   rintro e w' ⟨rfl,rfl⟩
   go_wp2
   go_ret
   have hlt2:=cat_lt hai.lt (show c<65536 by omega)
   refine⟨_,_,_,rfl,hap2.cut (trimN_le _ _),fun i hi=>hlt2 i (Nat.lt_of_lt_of_le hi (trimN_le _ _)),trimN_norm _ _,?_,hkw2⟩
   rw[trimN_val,cat_val,HEQ.out]
set_option maxHeartbeats 1000000 in
set_option maxRecDepth 100000 in
theorem nshl_copy(w:World)(a:Option Addr)(n cap s:Nat)(xs:Nat→Nat)(hn:n≤2000)(h0:n=0∨s=0)
 (hxl:∀i,i<n→xs i<65536)(hxn:norm xs n)(hx:Ws w a n xs):
 Calls Tryz.prog 211 #[.slice a n cap,.int .i64 (s:Int)] w (RetAp (val 65536 xs n) w):=by
 have hap0:Ap (w.alloc (.cells #[] 212)) w.heap.size (.slice (some ⟨w.heap.size,0,none⟩) 0 0) 0 (fun _=>0):=World.ownsRow_made w _ 0 (Nat.le_refl _) (by unfold maxLen;omega) (by simp)
 have hk0:Kept w (w.alloc (.cells #[] 212)):=(Kept.refl _).alloc _
 have hx0:=hx.kept hk0
 have fin:∀v' w',Ap w' w.heap.size v' (0+n) (cat (fun _=>0) 0 xs)→Kept w w'→RetAp (val 65536 xs n) w (.returned v') w':=fun v' w' hap hk=>by
  rw[Nat.zero_add] at hap
  exact⟨v',n,xs,rfl,hap.congr fun i hi=>by simp[cat],hxl,hxn,rfl,hk⟩
 by_cases hn0:n=0
 ·subst hn0
  go_enter Tryz.func211,Tryz.ntmps211
  go_wp2_with(at_builtin;refine wpList_append_list rfl (.tmp 17) (.tmp 18) 53 rfl Tryz.underlying53 w hk0 _ 0 0 (fun _=>0) rfl hap0 a 0 cap xs rfl hx0 (by omega) ?_;intro v' w1 hap2 hkw2)
  go_ret
  exact fin _ _ hap2 hkw2
 ·obtain rfl:s=0:=by omega
  have q1:((n:Int)==0)=false:=by simp;omega
  go_enter Tryz.func211,Tryz.ntmps211
  go_wp2_with(at_builtin;refine wpList_append_list rfl (.tmp 17) (.tmp 18) 53 rfl Tryz.underlying53 w hk0 _ 0 0 (fun _=>0) rfl hap0 a n cap xs rfl hx0 (by omega) ?_;intro v' w1 hap2 hkw2)
  go_ret
  exact fin _ _ hap2 hkw2
theorem nshl_own{w:World}{v:Value}{m s:Nat}(hv:Nt 65536 w v m)(hm:m<Big)(hs:s≤15):
 Calls Tryz.prog 211 #[v,.int .i64 (s:Int)] w (RetAp (m*2^s) w):=by
 obtain⟨a,n,cap,xs,rfl,hc,hd,hn,rfl,hw⟩:=hv
 have hl:=len_big (.inl rfl) hn hm
 by_cases h:n=0∨s=0
 ·have:=nshl_copy w a n cap s xs (by omega) h hd hn hw
  have e:val 65536 xs n*2^s=val 65536 xs n:=by rcases h with rfl|rfl<;>simp[val]
  rw[e];exact this
 ·exact nshl_some w a n cap s xs (by omega) (by omega) hs (by omega) hd hw
theorem nshl_calls{w:World}{v:Value}{m s:Nat}(hv:Nt 65536 w v m)(hm:m<Big)(hs:s≤15):
 Calls Tryz.prog 211 #[v,.int .i64 (s:Int)] w (RetNt 65536 (m*2^s) w):=(nshl_own hv hm hs).mono fun _ _ h=>h.nt
end
end Go.Proofs.YtancebninmoipaaGreatDoor
