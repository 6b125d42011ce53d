/- A part of the proof that SearchCandidates answers true for every input of bulk at most 1048576: conditions: the row's own. -/
import Derived.Test.YtancebninmoipaaGreatDoorP04
import Derived.Recover
namespace Go.Proofs.YtancebninmoipaaGreatDoor
open Go Go.RowKit Go.Dig
open Go.Eng (Kept KW KeptB)
set_option maxHeartbeats 1000000 in
set_option maxRecDepth 100000 in
theorem make_zero{w:World}{vn vd:Value}(neg:Bool){d:Nat}(hn:Nt 65536 w vn 0)(hd:Nt 65536 w vd d):
 Calls Tryz.prog 73 #[.bool neg,vn,vd] w (RetQ false 0 1 w):=by
 obtain⟨a,nn,capn,rfl⟩:=hn.shape
 obtain⟨ad,nd,capd,rfl⟩:=hd.shape
 obtain rfl:nn=0:=(nt_len hn).1.1 rfl
 have hb0:=Blk3.new w (.bool false) (.slice none 0 0) (.slice none 0 0) 55
 have hk0:Kept w (w.alloc (.cells #[.bool false,.slice none 0 0,.slice none 0 0] 55)):=(Kept.refl _).alloc _
 go_enter Tryz.func73,Tryz.ntmps73
 go_wp2_with fail
 generalize w.alloc (.cells #[.bool false,.slice none 0 0,.slice none 0 0] 55)=w1 at*
 generalize hbE:w.heap.size=b0 at hb0⊢
 have hof:=natof_calls w1 1 (by decide)
 go_wp2_with(go_at_call 72;refine hof.mono ?_;rintro e w2 ⟨v2,rfl,hv2,hk2⟩;obtain⟨c0,c1,c2,f0,f1,f2⟩:=(hb0.kept hk2).facts;obtain⟨a2,n2,cap2,rfl⟩:=hv2.shape)
 have hkb:=KeptB.store3 w2 b0 (.bool false) (.slice none 0 0) (.slice a2 n2 cap2)
 refine bodyPost_ret (v:=.agg #[.bool false,.slice none 0 0,.slice a2 n2 cap2]) (by simp[results,Tryz.results73,go_sem,c0,c1,c2]) rfl ⟨_,rfl,⟨_,_,rfl,nt_zero _ _ _ _,hv2.keptB hkb (hb0.kept hk2).noWords⟩,(hk0.trans hk2).but hkb (by omega)⟩
set_option maxHeartbeats 1000000 in
set_option maxRecDepth 100000 in
theorem make_one{w:World}{vn vd:Value}(neg:Bool){n:Nat}(hn:Nt 65536 w vn n)(hd:Nt 65536 w vd 1)(hn0:0<n)(hnB:n<Mid):
 Calls Tryz.prog 73 #[.bool neg,vn,vd] w (RetQ neg n 1 w):=by
 obtain⟨a,nn,capn,xs,rfl,hcn,hxl,hxn,hxv,hxw⟩:=hn
 obtain⟨ad,nd,capd,ys,rfl,hcd,hyl,hyn,hyv,hyw⟩:=hd
 have hnn:nn≠0:=by rintro rfl;simp[val] at hxv;omega
 obtain rfl:nd=1:=by
  have h1:=len_le_of_lt (B:=65536) (L:=1) (by decide) hyn (by rw[hyv];decide)
  have h2:nd≠0:=by rintro rfl;simp[val] at hyv
  omega
 have hy0:ys 0=1:=by simp[val] at hyv;exact hyv
 have hl:=len_big (.inl rfl) hxn (by rw[hxv];exact mid_big hnB)
 obtain⟨bd,od,rfl,hcell⟩:=hyw 0 (by omega)
 rw[hy0] at hcell
 have hcell0:w.cell? ⟨bd,od,none⟩=some (.int .u32 1):=hcell
 have q0:((nn:Int)==0)=false:=by simp;omega
 have hb0:=Blk3.new w (.bool false) (.slice none 0 0) (.slice none 0 0) 55
 have hk0:Kept w (w.alloc (.cells #[.bool false,.slice none 0 0,.slice none 0 0] 55)):=(Kept.refl _).alloc _
 have hcell1:=hk0.cell hcell0
 have HXL:=Lib.hid hxl
 have HXN:=Lib.hid hxn
 have HXV:=Lib.hid hxv
 clear hyv hcell hcell0 hyl hyn hyw hxl hxn hxv hnB hy0
 have esz:(w.alloc (.cells #[.bool false,.slice none 0 0,.slice none 0 0] 55)).heap.size=w.heap.size+1:=by simp[go_sem]
 have hke:Kept (w.alloc (.cells #[.bool false,.slice none 0 0,.slice none 0 0] 55)) ((w.alloc (.cells #[.bool false,.slice none 0 0,.slice none 0 0] 55)).alloc (.cells #[] 212)):=(Kept.refl _).alloc _
 have hap0:Ap ((w.alloc (.cells #[.bool false,.slice none 0 0,.slice none 0 0] 55)).alloc (.cells #[] 212)) (w.alloc (.cells #[.bool false,.slice none 0 0,.slice none 0 0] 55)).heap.size (.slice (some ⟨w.heap.size+1,0,none⟩) 0 0) 0 (fun _=>0):=by
  rw[←esz]
  exact World.ownsRow_made _ _ 0 (Nat.le_refl _) (by unfold maxLen;omega) (by simp)
 have hxw1:=(hxw.kept hk0).kept hke
 go_enter Tryz.func73,Tryz.ntmps73
 go_wp2_with(first|(at_builtin;refine wpList_append_list rfl (.tmp 32) (.tmp 33) 53 rfl Tryz.underlying53 (w.alloc (.cells #[.bool false,.slice none 0 0,.slice none 0 0] 55)) hke _ 0 0 (fun _=>0) rfl hap0 a nn capn xs rfl hxw1 (by omega) ?_;intro v2 w2 hap2 hkw2;rw[Nat.zero_add] at hap2;obtain⟨av,capv,rfl,hcapv,hwsv⟩:=(hap2.congr (ys:=xs) fun i hi=>by simp[cat]).ws)|(go_at_call 72;refine(natof_calls _ 1 (by decide)).mono ?_;rintro e w3 ⟨v3,rfl,hv3,hk3⟩;obtain⟨c0,c1,c2,f0,f1,f2⟩:=(hb0.kept (hkw2.trans hk3)).facts;obtain⟨a3,n3,cap3,rfl⟩:=hv3.shape))
 have hkb:=KeptB.store3 w3 w.heap.size (.bool neg) (.slice av nn capv) (.slice a3 n3 cap3)
 have hnw:=(hb0.kept (hkw2.trans hk3)).noWords
 have hN:Nt 65536 w3 (.slice av nn capv) n:=⟨av,nn,capv,xs,rfl,hcapv,HXL.out,HXN.out,HXV.out,hwsv.kept hk3⟩
 refine bodyPost_ret (v:=.agg #[.bool neg,.slice av nn capv,.slice a3 n3 cap3]) (by simp[results,Tryz.results73,go_sem,c0,c1,c2]) rfl ⟨_,rfl,⟨_,_,rfl,hN.keptB hkb hnw,hv3.keptB hkb hnw⟩,((hk0.trans hkw2).trans hk3).but hkb (by omega)⟩
set_option maxHeartbeats 2000000 in
set_option maxRecDepth 100000 in
theorem make_long{w:World}{vn vd:Value}(neg:Bool){n d:Nat}(hn:Nt 65536 w vn n)(hd:Nt 65536 w vd d)(hn0:0<n)(hd1:1<d)(hnB:n<Mid)(hdB:d<Mid):
 Calls Tryz.prog 73 #[.bool neg,vn,vd] w (RetQ neg (n/Nat.gcd n d) (d/Nat.gcd n d) w):=by
 have hgp:0<Nat.gcd d n:=Nat.gcd_pos_of_pos_left _ (by omega)
 have hgB:Nat.gcd d n<Mid:=Nat.lt_of_le_of_lt (Nat.le_of_dvd (by omega) (Nat.gcd_dvd_left d n)) hdB
 rw[Nat.gcd_comm n d]
 have hb0:=Blk3.new w (.bool false) (.slice none 0 0) (.slice none 0 0) 55
 have hk0:Kept w (w.alloc (.cells #[.bool false,.slice none 0 0,.slice none 0 0] 55)):=(Kept.refl _).alloc _
 have hn1:=hn.kept hk0
 have hd2:=hd.kept hk0
 obtain⟨a,nn,capn,rfl⟩:=hn.shape
 have hz:=(nt_len hn).1
 have q0:((nn:Int)==0)=false:=by simp;omega
 obtain⟨ad,nd,capd,ys,rfl,hcd,hyl,hyn,hyv,hyw⟩:=hd
 have hnd:nd≠0:=by rintro rfl;simp[val] at hyv;omega
 have q2:((nd:Int)==0)=false:=by simp;omega
 by_cases h1:nd=1
 ·subst h1
  have hy0:ys 0=d:=by simp[val] at hyv;exact hyv
  obtain⟨bd,od,rfl,hcell⟩:=hyw 0 (by omega)
  rw[hy0] at hcell
  have hcell0:w.cell? ⟨bd,od,none⟩=some (.int .u32 (d:Int)):=hcell
  have q3:((d:Int)==1)=false:=by simp;omega
  have hcell1:=hk0.cell hcell0
  clear hyv hcell hcell0 hyl hyn hyw hy0 hz
  generalize hge:Nat.gcd d n=g at*
  go_enter Tryz.func73,Tryz.ntmps73
  go_wp2_with fail
  generalize w.alloc (.cells #[.bool false,.slice none 0 0,.slice none 0 0] 55)=w1 at*
  generalize hbE:w.heap.size=b0 at hb0⊢
  have hgc:=ngcd_calls hn1 hd2 hnB hdB
  rw[hge] at hgc
  refine hgc.mono ?_
  rintro e w2 ⟨vg,rfl,hvg,hk2⟩
  go_wp2_with fail
  refine(ndiv_calls (hn1.kept hk2) hvg hnB hgB hgp).mono ?_
  rintro e w3 ⟨v3,u3,rfl,hv3,_,hk3⟩
  go_wp2_with fail
  refine(ndiv_calls ((hd2.kept hk2).kept hk3) (hvg.kept hk3) hdB hgB hgp).mono ?_
  rintro e w4 ⟨v4,u4,rfl,hv4,_,hk4⟩
  have hk14:=(hk2.trans hk3).trans hk4
  obtain⟨c0,c1,c2,f0,f1,f2⟩:=(hb0.kept hk14).facts
  have hv3':=hv3.kept hk4
  obtain⟨a3,n3,cap3,rfl⟩:=hv3.shape
  obtain⟨a4,n4,cap4,rfl⟩:=hv4.shape
  go_wp2
  have hkb:=KeptB.store3 w4 b0 (.bool neg) (.slice a3 n3 cap3) (.slice a4 n4 cap4)
  have hnw:=(hb0.kept hk14).noWords
  refine bodyPost_ret (v:=.agg #[.bool neg,.slice a3 n3 cap3,.slice a4 n4 cap4]) (by simp[results,Tryz.results73,go_sem,c0,c1,c2]) rfl ⟨_,rfl,⟨_,_,rfl,hv3'.keptB hkb hnw,hv4.keptB hkb hnw⟩,(hk0.trans hk14).but hkb (by omega)⟩
 ·have q3:((nd:Int)==1)=false:=by simp;omega
  clear hyv hyl hyn hyw hz
  generalize hge:Nat.gcd d n=g at*
  go_enter Tryz.func73,Tryz.ntmps73
  go_wp2_with fail
  generalize w.alloc (.cells #[.bool false,.slice none 0 0,.slice none 0 0] 55)=w1 at*
  generalize hbE:w.heap.size=b0 at hb0⊢
  have hgc:=ngcd_calls hn1 hd2 hnB hdB
  rw[hge] at hgc
  refine hgc.mono ?_
  rintro e w2 ⟨vg,rfl,hvg,hk2⟩
  go_wp2_with fail
  refine(ndiv_calls (hn1.kept hk2) hvg hnB hgB hgp).mono ?_
  rintro e w3 ⟨v3,u3,rfl,hv3,_,hk3⟩
  go_wp2_with fail
  refine(ndiv_calls ((hd2.kept hk2).kept hk3) (hvg.kept hk3) hdB hgB hgp).mono ?_
  rintro e w4 ⟨v4,u4,rfl,hv4,_,hk4⟩
  have hk14:=(hk2.trans hk3).trans hk4
  obtain⟨c0,c1,c2,f0,f1,f2⟩:=(hb0.kept hk14).facts
  have hv3':=hv3.kept hk4
  obtain⟨a3,n3,cap3,rfl⟩:=hv3.shape
  obtain⟨a4,n4,cap4,rfl⟩:=hv4.shape
  go_wp2
  have hkb:=KeptB.store3 w4 b0 (.bool neg) (.slice a3 n3 cap3) (.slice a4 n4 cap4)
  have hnw:=(hb0.kept hk14).noWords
  refine bodyPost_ret (v:=.agg #[.bool neg,.slice a3 n3 cap3,.slice a4 n4 cap4]) (by simp[results,Tryz.results73,go_sem,c0,c1,c2]) rfl ⟨_,rfl,⟨_,_,rfl,hv3'.keptB hkb hnw,hv4.keptB hkb hnw⟩,(hk0.trans hk14).but hkb (by omega)⟩
theorem make_calls{w:World}{vn vd:Value}(neg:Bool){n d:Nat}(hn:Nt 65536 w vn n)(hd:Nt 65536 w vd d)(hd0:0<d)(hb:n=0∨n<Mid∧d<Mid):
 Calls Tryz.prog 73 #[.bool neg,vn,vd] w (RetQ (neg&&decide (0<n)) (n/Nat.gcd n d) (d/Nat.gcd n d) w):=by
 by_cases h0:n=0
 ·subst h0
  have h:=make_zero neg hn hd
  simpa [Nat.div_self hd0] using h
 ·have hb:n<Mid∧d<Mid:=hb.resolve_left h0
  by_cases h1:d=1
  ·subst h1
   have h:=make_one neg hn hd (by omega) hb.1
   simpa [show 0<n by omega] using h
  ·have h:=make_long neg hn hd (by omega) (by omega) hb.1 hb.2
   simpa [show 0<n by omega] using h
end Go.Proofs.YtancebninmoipaaGreatDoor
section
namespace Go.Proofs.YtancebninmoipaaGreatDoor
open Go Go.RowKit Go.Dig
open Go.Eng (Kept KW KeptB)
end Go.Proofs.YtancebninmoipaaGreatDoor
namespace Go.Eng
open Go Go.RowKit Go.Dig
theorem KeptB.st3{w w1:World}{b:Nat}(h:Kept w w1)(x y z:Value):KeptB w (((w1.setCell ⟨b,0,none⟩ x).setCell ⟨b,1,none⟩ y).setCell ⟨b,2,none⟩ z) b:=(((h.toB b).setCell rfl _).setCell rfl _).setCell rfl _
end Go.Eng
namespace Go.Proofs.YtancebninmoipaaGreatDoor
open Go Go.RowKit Go.Dig
open Go.Eng (Kept KW KeptB)
set_option maxHeartbeats 1000000 in
set_option maxRecDepth 100000 in
theorem opp_calls{w:World}{v:Value}{neg:Bool}{n d:Nat}(h:Qv w v neg n d):
 Calls Tryz.prog 149 #[v] w (RetQ (!neg&&decide (0<n)) n d w):=by
 obtain⟨vn,vd,rfl,hn,hd⟩:=h
 obtain⟨a,nn,capn,rfl⟩:=hn.shape
 obtain⟨ad,nd,capd,rfl⟩:=hd.shape
 have hz:=(nt_len hn).1
 have e0:decide (0<n)=decide (0<nn):=by rw[Bool.eq_iff_iff];simp only[decide_eq_true_eq];omega
 rw[e0]
 clear hz e0
 have fin:∀p,RetQ p n d w (.returned (.agg #[.bool p,.slice a nn capn,.slice ad nd capd])) ((w.alloc (.cells #[.bool neg,.slice a nn capn,.slice ad nd capd] 55)).alloc (.cells #[.bool p,.slice a nn capn,.slice ad nd capd] 55)):=fun p=>by
  have hk1:Kept w ((w.alloc (.cells #[.bool neg,.slice a nn capn,.slice ad nd capd] 55)).alloc (.cells #[.bool p,.slice a nn capn,.slice ad nd capd] 55)):=((Kept.refl _).alloc _).alloc _
  exact⟨_,rfl,⟨_,_,rfl,hn.kept hk1,hd.kept hk1⟩,hk1⟩
 have FIN:=Lib.hid fin;clear fin
 cases neg
 ·by_cases h0:0<nn
  ·have t:decide (0<(nn:Int))=true:=by simp;omega
   have HD:decide (0<nn)=true:=by simp;omega
   rw[HD]
   clear hn hd HD
   go_enter Tryz.func149,Tryz.ntmps149
   go_wp2
   exact bodyPost_ret (v:=.agg #[.bool true,.slice a nn capn,.slice ad nd capd]) (by simp[results,Tryz.results149,go_sem]) rfl (FIN.out true)
  ·have t:decide (0<(nn:Int))=false:=by simp;omega
   have HD:decide (0<nn)=false:=by simp;omega
   rw[HD]
   clear hn hd HD
   go_enter Tryz.func149,Tryz.ntmps149
   go_wp2
   exact bodyPost_ret (v:=.agg #[.bool false,.slice a nn capn,.slice ad nd capd]) (by simp[results,Tryz.results149,go_sem]) rfl (FIN.out false)
 ·clear hn hd
  go_enter Tryz.func149,Tryz.ntmps149
  go_wp2
  exact bodyPost_ret (v:=.agg #[.bool false,.slice a nn capn,.slice ad nd capd]) (by simp[results,Tryz.results149,go_sem]) rfl (FIN.out false)
theorem Nt.shape2{B:Nat}{w:World}{v:Value}{m:Nat}(h:Nt B w v m):∃a n cap,v= .slice a n cap∧(m=0↔n=0):=by
 obtain⟨a',n',cap',xs,e,hc,hd,hn,rfl,hw⟩:=h
 refine⟨_,_,_,e,fun h=> ?_,fun h=>by subst h;rfl⟩
 by_cases h1:n'=0
 ·exact h1
 ·rcases hn with h2|h2
  ·exact absurd h2 h1
  ·exfalso
   obtain⟨k,rfl⟩:∃k,n'=k+1:=⟨n'-1,by omega⟩
   simp only[Nat.add_sub_cancel] at h2
   simp only[val] at h
   have hB:0<B:=by have:=hd k (by omega);omega
   have:0<xs k*B^k:=Nat.mul_pos (by omega) (Nat.pow_pos hB)
   omega
theorem rN_dn(N D:Nat):rN N D=N/Nat.gcd N (dn D):=rfl
set_option maxHeartbeats 2000000 in
set_option maxRecDepth 100000 in
theorem of_qcalls{w:World}{v:Value}{neg:Bool}{N D:Nat}(h:Rt w v neg N D)(hb:N=0∨N<Mid∧D<Mid):
 Calls Tryz.prog 37 #[v] w (RetQ (neg&&decide (0<N)) (rN N D) (rD N D) w):=by
 obtain⟨vn,vd,rfl,hn,hd⟩:=h
 obtain⟨a,n,cap,xs,rfl,_⟩:=hn.shape'
 obtain⟨ad,nd,capd,ys,rfl,_⟩:=hd.shape'
 have hb1:=Blk3.new w (.bool neg) (.slice a n cap) (.slice ad nd capd) 24
 have hb2:=Blk3.new (w.alloc (.cells #[.bool neg,.slice a n cap,.slice ad nd capd] 24)) (.bool false) (.slice none 0 0) (.slice none 0 0) 55
 have hk1:Kept w ((w.alloc (.cells #[.bool neg,.slice a n cap,.slice ad nd capd] 24)).alloc (.cells #[.bool false,.slice none 0 0,.slice none 0 0] 55)):=((Kept.refl _).alloc _).alloc _
 have hb1':=hb1.kept ((Kept.refl _).alloc (.cells #[.bool false,.slice none 0 0,.slice none 0 0] 55))
 clear hb1
 have esz:(w.alloc (.cells #[.bool neg,.slice a n cap,.slice ad nd capd] 24)).heap.size=w.heap.size+1:=by simp[go_sem]
 rw[esz] at hb2
 clear esz
 have hn1:=hn.kept hk1
 have hd1:=hd.kept hk1
 clear hn hd
 go_enter Tryz.func37,Tryz.ntmps37
 go_wp2_with fail
 generalize (w.alloc (.cells #[.bool neg,.slice a n cap,.slice ad nd capd] 24)).alloc (.cells #[.bool false,.slice none 0 0,.slice none 0 0] 55)=w1 at*
 generalize hbE:w.heap.size=b0 at hb2 hb1'⊢
 have HBE:=Lib.hid hbE;clear hbE
 have hdp:0<dn D:=by unfold dn;split<;>omega
 have hb:N=0∨N<Mid∧dn D<Mid:=by
  rcases hb with h|h
  ·exact .inl h
  ·refine .inr ⟨h.1,?_⟩
   unfold dn;split
   ·exact pwr_one 16000 (by decide)
   ·exact h.2
 by_cases hD:D=0
 ·subst hD
  refine(wordsn_calls hd1).mono ?_
  rintro e w2 ⟨vD,rfl,hvD,hk2⟩
  obtain⟨a2,n2,c2,rfl,hz⟩:=hvD.shape2
  obtain rfl:n2=0:=hz.1 rfl
  have hof:=natof_calls w2 1 (by decide)
  go_wp2_with(go_at_call 72;refine hof.mono ?_;rintro e w3 ⟨v3,rfl,hv3,hk3⟩)
  have hkw3:=hk2.trans hk3
  have hv3:Nt 65536 w3 v3 (dn 0):=hv3
  have hb13:=hb1'.kept hkw3
  have hb23:=hb2.kept hkw3
  obtain⟨p0,p1,_,_,_,_⟩:=hb13.facts
  have hall:∀w',KeptB w3 w' (b0+1)→KeptB w3 w' (b0+1)∧w'.cell? ⟨b0,0,none⟩=some (.bool neg)∧w'.cell? ⟨b0,1,none⟩=some (.slice a n cap):=fun w' k=>⟨k,k.cell p0 (by simp),k.cell p1 (by simp)⟩
  have HALL:=Lib.hid hall;clear hall
  go_region_held3 (fun w'=>KeptB w3 w' (b0+1)∧w'.cell? ⟨b0,0,none⟩=some (.bool neg)∧w'.cell? ⟨b0,1,none⟩=some (.slice a n cap))
   (first|exact HALL.out _ (Kept.toB (Kept.refl w3).drew _)|exact HALL.out _ (KeptB.st3 ‹Kept w3 _› _ _ _)|exact HALL.out _ (Kept.toB ‹Kept w3 _› _))
   (first|(go_at_call 71;refine(wordsn_calls (hn1.kept (hkw3.trans (Kept.refl w3).drew))).mono ?_;rintro e w4 ⟨vN,rfl,hvN,hk4⟩;have hS4:Kept w3 w4:=(Kept.refl w3).drew.trans hk4;have hv4:=hv3.kept hS4)|(go_at_call 73;refine(make_calls neg hvN hv4 hdp hb).mono ?_;rintro e w5 ⟨vq,rfl,hq,hk5⟩;have hS5:Kept w3 w5:=hS4.trans hk5;obtain⟨qn,qd,rfl,hqn,hqd⟩:=hq;obtain⟨aq,nq,cq,rfl⟩:=hqn.shape;obtain⟨ae,ne,ce,rfl⟩:=hqd.shape;obtain⟨r0,r1,r2,f0,f1,f2⟩:=(hb23.kept hS5).facts))
  have hkb:=KeptB.store3 w5 (b0+1) (.bool (neg&&decide (0<N))) (.slice aq nq cq) (.slice ae ne ce)
  have hnw:=(hb23.kept hS5).noWords
  go_wp2
  exact bodyPost_ret (v:=.agg #[.bool (neg&&decide (0<N)),.slice aq nq cq,.slice ae ne ce]) (by simp[results,Tryz.results37,go_sem,r0,r1,r2]) rfl ⟨_,rfl,⟨_,_,rfl,hqn.keptB hkb hnw,hqd.keptB hkb hnw⟩,((hk1.trans hkw3).trans hS5).but hkb (by have:=HBE.out;omega)⟩
 ·refine(wordsn_calls hd1).mono ?_
  rintro e w3 ⟨v3,rfl,hv3,hkw3⟩
  obtain⟨a2,n2,c2,rfl,hz⟩:=hv3.shape2
  have q0:((n2:Int)==0)=false:=by simp;omega
  go_wp2_with fail
  have hdD:dn D=D:=by unfold dn;rw[if_neg hD]
  have hv3:Nt 65536 w3 (.slice a2 n2 c2) (dn D):=by rw[hdD];exact hv3
  clear hdD
  have hb13:=hb1'.kept hkw3
  have hb23:=hb2.kept hkw3
  obtain⟨p0,p1,_,_,_,_⟩:=hb13.facts
  have hall:∀w',KeptB w3 w' (b0+1)→KeptB w3 w' (b0+1)∧w'.cell? ⟨b0,0,none⟩=some (.bool neg)∧w'.cell? ⟨b0,1,none⟩=some (.slice a n cap):=fun w' k=>⟨k,k.cell p0 (by simp),k.cell p1 (by simp)⟩
  have HALL:=Lib.hid hall;clear hall
  go_region_held3 (fun w'=>KeptB w3 w' (b0+1)∧w'.cell? ⟨b0,0,none⟩=some (.bool neg)∧w'.cell? ⟨b0,1,none⟩=some (.slice a n cap))
   (first|exact HALL.out _ (Kept.toB (Kept.refl w3).drew _)|exact HALL.out _ (KeptB.st3 ‹Kept w3 _› _ _ _)|exact HALL.out _ (Kept.toB ‹Kept w3 _› _))
   (first|(go_at_call 71;refine(wordsn_calls (hn1.kept (hkw3.trans (Kept.refl w3).drew))).mono ?_;rintro e w4 ⟨vN,rfl,hvN,hk4⟩;have hS4:Kept w3 w4:=(Kept.refl w3).drew.trans hk4;have hv4:=hv3.kept hS4)|(go_at_call 73;refine(make_calls neg hvN hv4 hdp hb).mono ?_;rintro e w5 ⟨vq,rfl,hq,hk5⟩;have hS5:Kept w3 w5:=hS4.trans hk5;obtain⟨qn,qd,rfl,hqn,hqd⟩:=hq;obtain⟨aq,nq,cq,rfl⟩:=hqn.shape;obtain⟨ae,ne,ce,rfl⟩:=hqd.shape;obtain⟨r0,r1,r2,f0,f1,f2⟩:=(hb23.kept hS5).facts))
  have hkb:=KeptB.store3 w5 (b0+1) (.bool (neg&&decide (0<N))) (.slice aq nq cq) (.slice ae ne ce)
  have hnw:=(hb23.kept hS5).noWords
  go_wp2
  exact bodyPost_ret (v:=.agg #[.bool (neg&&decide (0<N)),.slice aq nq cq,.slice ae ne ce]) (by simp[results,Tryz.results37,go_sem,r0,r1,r2]) rfl ⟨_,rfl,⟨_,_,rfl,hqn.keptB hkb hnw,hqd.keptB hkb hnw⟩,((hk1.trans hkw3).trans hS5).but hkb (by have:=HBE.out;omega)⟩
end Go.Proofs.YtancebninmoipaaGreatDoor
end
namespace Go.Proofs.YtancebninmoipaaGreatDoor
section
open Go Go.RowKit Go.Dig
open Go.Eng (Kept KW KeptB)
theorem mid8{N:Nat}(h:N<pwr 2 8192):N<Mid:=Nat.lt_of_lt_of_le h (pwr_le 8192 16000 (by decide))
set_option maxHeartbeats 2000000 in
set_option maxRecDepth 100000 in
theorem large_calls{w:World}{v:Value}{neg:Bool}{N D:Nat}(h:Rt w v neg N D):
 Calls Tryz.prog 140 #[v] w fun e w'=>e= .returned (.bool (!(small N D)))∧Kept w w':=by
 have hq:=fun(w':World)(k:Kept w w')(hN:N<pwr 2 8192)(hD:D<pwr 2 8192)=>of_qcalls (h.kept k) (.inr ⟨mid8 hN,mid8 hD⟩)
 have HQ:=Lib.hid hq;clear hq
 obtain⟨vn,vd,rfl,hn,hd⟩:=h
 obtain⟨a,n,cap,xs,rfl,_⟩:=hn.shape'
 obtain⟨ad,nd,capd,ys,rfl,_⟩:=hd.shape'
 have hb1:=Blk3.new w (.bool neg) (.slice a n cap) (.slice ad nd capd) 24
 have hk1:Kept w (w.alloc (.cells #[.bool neg,.slice a n cap,.slice ad nd capd] 24)):=(Kept.refl _).alloc _
 have hn1:=hn.kept hk1
 have hd1:=hd.kept hk1
 clear hn hd
 by_cases hN:N<pwr 2 8192
 ·have hl1:∀(w:World)(a:Option Addr)(n cap:Nat),Nt 65536 w (.slice a n cap) N→decide (512<(n:Int))=false:=fun _ _ _ _ h=>by
   obtain⟨L,hL⟩:∃L,L=512:=⟨512,rfl⟩;have:=((nt_len h).2 L).2 (by rw[p8192' hL];exact hN)
   simp;omega
  by_cases hD:D<pwr 2 8192
  ·have hl2:∀(w:World)(a:Option Addr)(n cap:Nat),Nt 65536 w (.slice a n cap) D→decide (512<(n:Int))=false:=fun _ _ _ _ h=>by
    obtain⟨L,hL⟩:∃L,L=512:=⟨512,rfl⟩;have:=((nt_len h).2 L).2 (by rw[p8192' hL];exact hD)
    simp;omega
   have hsm:small N D=(fits32 (rN N D)&&fits32 (rD N D)):=by unfold small;simp[hN,hD]
   rw[hsm]
   have HQ2:=Lib.hid (fun(w':World)(k:Kept w w')=>HQ.out w' k hN hD)
   have HL1:=Lib.hid hl1
   have HL2:=Lib.hid hl2
   clear hsm hl1 hl2 hN hD HQ
   go_enter Tryz.func140,Tryz.ntmps140
   go_wp2_with fail
   generalize w.alloc (.cells #[.bool neg,.slice a n cap,.slice ad nd capd] 24)=w1 at*
   generalize hbE:w.heap.size=b0 at hb1⊢
   refine(wordsn_calls hn1).mono ?_
   rintro e w2 ⟨v2,rfl,hv2,hk2⟩
   obtain⟨a2,n2,c2,rfl⟩:=hv2.shape
   have t1:=HL1.out _ _ _ _ hv2
   obtain⟨p0,p1,p2,_,_,_⟩:=(hb1.kept hk2).facts
   go_wp2_with fail
   refine(wordsn_calls (hd1.kept hk2)).mono ?_
   rintro e w3 ⟨v3,rfl,hv3,hk3⟩
   obtain⟨a3,n3,c3,rfl⟩:=hv3.shape
   have t2:=HL2.out _ _ _ _ hv3
   clear p0 p1 p2
   obtain⟨p0,p1,p2,_,_,_⟩:=(hb1.kept (hk2.trans hk3)).facts
   go_wp2_with fail
   have hk13:=(hk1.trans hk2).trans hk3
   refine(HQ2.out _ hk13).mono ?_
   rintro e w4 ⟨v4,rfl,hq4,hk4⟩
   go_wp2_with(go_at_call 142;refine(over_calls hq4).mono ?_;rintro e w5 ⟨rfl,hk5⟩)
   go_ret
   exact⟨by rw[Bool.not_and];rfl,(hk13.trans hk4).trans hk5⟩
  ·have hl2:∀(w:World)(a:Option Addr)(n cap:Nat),Nt 65536 w (.slice a n cap) D→decide (512<(n:Int))=true:=fun _ _ _ _ h=>by
    obtain⟨L,hL⟩:∃L,L=512:=⟨512,rfl⟩;have:=fun h2=>((nt_len h).2 L).1 h2
    rw[p8192' hL] at this
    have h3:¬_≤L:=fun h4=>hD (this h4)
    simp;omega
   have hsm:small N D=false:=by unfold small;simp[hD]
   rw[hsm]
   have HL1:=Lib.hid hl1
   have HL2:=Lib.hid hl2
   clear hsm hl1 hl2 hN hD HQ
   go_enter Tryz.func140,Tryz.ntmps140
   go_wp2_with fail
   generalize w.alloc (.cells #[.bool neg,.slice a n cap,.slice ad nd capd] 24)=w1 at*
   generalize hbE:w.heap.size=b0 at hb1⊢
   refine(wordsn_calls hn1).mono ?_
   rintro e w2 ⟨v2,rfl,hv2,hk2⟩
   obtain⟨a2,n2,c2,rfl⟩:=hv2.shape
   have t1:=HL1.out _ _ _ _ hv2
   obtain⟨p0,p1,p2,_,_,_⟩:=(hb1.kept hk2).facts
   go_wp2_with fail
   refine(wordsn_calls (hd1.kept hk2)).mono ?_
   rintro e w3 ⟨v3,rfl,hv3,hk3⟩
   obtain⟨a3,n3,c3,rfl⟩:=hv3.shape
   have t2:=HL2.out _ _ _ _ hv3
   go_wp2
   go_ret
   exact⟨rfl,(hk1.trans hk2).trans hk3⟩
 ·have hl1:∀(w:World)(a:Option Addr)(n cap:Nat),Nt 65536 w (.slice a n cap) N→decide (512<(n:Int))=true:=fun _ _ _ _ h=>by
   obtain⟨L,hL⟩:∃L,L=512:=⟨512,rfl⟩;have:=fun h2=>((nt_len h).2 L).1 h2
   rw[p8192' hL] at this
   have h3:¬_≤L:=fun h4=>hN (this h4)
   simp;omega
  have hsm:small N D=false:=by unfold small;simp[hN]
  rw[hsm]
  have HL1:=Lib.hid hl1
  clear hsm hl1 hN HQ
  go_enter Tryz.func140,Tryz.ntmps140
  go_wp2_with fail
  generalize w.alloc (.cells #[.bool neg,.slice a n cap,.slice ad nd capd] 24)=w1 at*
  generalize hbE:w.heap.size=b0 at hb1⊢
  refine(wordsn_calls hn1).mono ?_
  rintro e w2 ⟨v2,rfl,hv2,hk2⟩
  obtain⟨a2,n2,c2,rfl⟩:=hv2.shape
  have t1:=HL1.out _ _ _ _ hv2
  go_wp2
  go_ret
  exact⟨rfl,hk1.trans hk2⟩
end
section
open Go Go.RowKit Go.Dig
open Go.Eng (Kept KW KeptB)
def Sm:Nat:=pwr 2 7000
theorem sm_mul{x y:Nat}(hx:x<Sm)(hy:y<Sm):x*y<pwr 2 14000:=by
 have h1:x*y≤x*Sm:=Nat.mul_le_mul_left _ (Nat.le_of_lt hy)
 have h2:x*Sm<Sm*Sm:=Nat.mul_lt_mul_of_pos_right hx (pwr_pos 7000)
 have h3:Sm*Sm=pwr 2 14000:=pwr_add 7000 7000 14000 rfl
 rw[h3] at h2
 exact Nat.lt_of_le_of_lt h1 h2
theorem p14_mid{x:Nat}(h:x<pwr 2 14000):x<Mid:=Nat.lt_of_lt_of_le h (pwr_le 14000 16000 (by decide))
theorem sm_big{x:Nat}(h:x<Sm):x<Big:=mid_big (Nat.lt_of_lt_of_le h (show Sm≤Mid from pwr_le 7000 16000 (by decide)))
theorem p14_add{x y:Nat}(hx:x<pwr 2 14000)(hy:y<pwr 2 14000):x+y<Mid:=by
 have h1:x+y<pwr 2 14000+pwr 2 14000:=Nat.add_lt_add hx hy
 have h2:pwr 2 14000+pwr 2 14000=pwr 2 14001:=by rw[←pwr_add 14000 1 14001 rfl,show pwr 2 1=2 from pwr_eq 2 1];omega
 rw[h2] at h1
 exact Nat.lt_of_lt_of_le h1 (pwr_le 14001 16000 (by decide))
theorem dn_pos(d:Nat):0<dn d:=by unfold dn;split<;>omega
theorem dn_sm{d:Nat}(h:d<Sm):dn d<Sm:=by
 unfold dn;split
 ·exact pwr_one 7000 (by decide)
 ·exact h
def sumS(s:Bool)(n d:Nat)(s':Bool)(n' d':Nat):Bool:=if s=s' then s else if n'*dn d≤n*dn d' then s else s'
def sumN(s:Bool)(n d:Nat)(s':Bool)(n' d':Nat):Nat:=if s=s' then n*dn d'+n'*dn d else if n'*dn d≤n*dn d' then n*dn d'-n'*dn d else n'*dn d-n*dn d'
def sumD(d d':Nat):Nat:=dn d*dn d'
set_option maxHeartbeats 4000000 in
set_option maxRecDepth 100000 in
theorem sum_calls{w:World}{v u:Value}{s s':Bool}{n d n' d':Nat}(h:Qv w v s n d)(h':Qv w u s' n' d')(b1:n<Sm)(b2:d<Sm)(b3:n'<Sm)(b4:d'<Sm):
 Calls Tryz.prog 144 #[v,u] w (RetQ (sumS s n d s' n' d'&&decide (0<sumN s n d s' n' d')) (sumN s n d s' n' d'/Nat.gcd (sumN s n d s' n' d') (sumD d d')) (sumD d d'/Nat.gcd (sumN s n d s' n' d') (sumD d d')) w):=by
 have hden:=fun(w':World)(k:Kept w w')=>den_calls (h.kept k)
 have hden':=fun(w':World)(k:Kept w w')=>den_calls (h'.kept k)
 have hX:=sm_mul b1 (dn_sm b4)
 have hY:=sm_mul b3 (dn_sm b2)
 have hZ:=sm_mul (dn_sm b2) (dn_sm b4)
 have hZp:0<dn d*dn d':=Nat.mul_pos (dn_pos d) (dn_pos d')
 have B1:=sm_big b1
 have B3:=sm_big b3
 have D2:=sm_big (dn_sm b2)
 have D4:=sm_big (dn_sm b4)
 have HX:=Lib.hid hX;clear hX
 have HY:=Lib.hid hY;clear hY
 have HZ:=Lib.hid hZ;clear hZ
 have HB1:=Lib.hid B1;clear B1
 have HB3:=Lib.hid B3;clear B3
 have HD2:=Lib.hid D2;clear D2
 have HD4:=Lib.hid D4;clear D4
 clear b1 b2 b3 b4
 obtain⟨vn,vd,rfl,hn,hd⟩:=h
 obtain⟨a,nn,capn,rfl⟩:=hn.shape
 obtain⟨ad,nd,capd,rfl⟩:=hd.shape
 obtain⟨vn',vd',rfl,hn',hd'⟩:=h'
 obtain⟨a',nn',capn',rfl⟩:=hn'.shape
 obtain⟨ad',nd',capd',rfl⟩:=hd'.shape
 have hb1:=Blk3.new w (.bool s) (.slice a nn capn) (.slice ad nd capd) 55
 have hk1:Kept w (w.alloc (.cells #[.bool s,.slice a nn capn,.slice ad nd capd] 55)):=(Kept.refl _).alloc _
 have e1:(w.alloc (.cells #[.bool s,.slice a nn capn,.slice ad nd capd] 55)).heap.size=w.heap.size+1:=by simp[go_sem]
 have hb2:=Blk3.new (w.alloc (.cells #[.bool s,.slice a nn capn,.slice ad nd capd] 55)) (.bool s') (.slice a' nn' capn') (.slice ad' nd' capd') 55
 have hk2:Kept (w.alloc (.cells #[.bool s,.slice a nn capn,.slice ad nd capd] 55)) ((w.alloc (.cells #[.bool s,.slice a nn capn,.slice ad nd capd] 55)).alloc (.cells #[.bool s',.slice a' nn' capn',.slice ad' nd' capd'] 55)):=(Kept.refl _).alloc _
 have e2:((w.alloc (.cells #[.bool s,.slice a nn capn,.slice ad nd capd] 55)).alloc (.cells #[.bool s',.slice a' nn' capn',.slice ad' nd' capd'] 55)).heap.size=w.heap.size+2:=by simp[go_sem]
 have hb3:=Blk3.new ((w.alloc (.cells #[.bool s,.slice a nn capn,.slice ad nd capd] 55)).alloc (.cells #[.bool s',.slice a' nn' capn',.slice ad' nd' capd'] 55)) (.bool false) (.slice none 0 0) (.slice none 0 0) 55
 have hk3:Kept ((w.alloc (.cells #[.bool s,.slice a nn capn,.slice ad nd capd] 55)).alloc (.cells #[.bool s',.slice a' nn' capn',.slice ad' nd' capd'] 55)) (((w.alloc (.cells #[.bool s,.slice a nn capn,.slice ad nd capd] 55)).alloc (.cells #[.bool s',.slice a' nn' capn',.slice ad' nd' capd'] 55)).alloc (.cells #[.bool false,.slice none 0 0,.slice none 0 0] 55)):=(Kept.refl _).alloc _
 rw[e1] at hb2
 rw[e2] at hb3
 have hb1:=(hb1.kept hk2).kept hk3
 have hb2:=hb2.kept hk3
 have hk:=(hk1.trans hk2).trans hk3
 clear hk1 hk2 hk3 e1 e2
 go_enter Tryz.func144,Tryz.ntmps144
 go_wp2_with fail
 generalize (((w.alloc (.cells #[.bool s,.slice a nn capn,.slice ad nd capd] 55)).alloc (.cells #[.bool s',.slice a' nn' capn',.slice ad' nd' capd'] 55)).alloc (.cells #[.bool false,.slice none 0 0,.slice none 0 0] 55))=w1 at*
 generalize hbE:w.heap.size=b0 at hb1 hb2 hb3⊢
 have HBE:=Lib.hid hbE;clear hbE
 obtain⟨p0,p1,p2,_,_,_⟩:=hb1.facts
 obtain⟨q0,q1,q2,_,_,_⟩:=hb2.facts
 have hall:∀w',Kept w1 w'→Kept w1 w'∧w'.cell? ⟨b0,0,none⟩=some (.bool s)∧w'.cell? ⟨b0,1,none⟩=some (.slice a nn capn)∧w'.cell? ⟨b0,2,none⟩=some (.slice ad nd capd)∧w'.cell? ⟨b0+1,0,none⟩=some (.bool s')∧w'.cell? ⟨b0+1,1,none⟩=some (.slice a' nn' capn')∧w'.cell? ⟨b0+1,2,none⟩=some (.slice ad' nd' capd'):=
  fun w' k=>⟨k,k.cell p0,k.cell p1,k.cell p2,k.cell q0,k.cell q1,k.cell q2⟩
 have HALL:=Lib.hid hall;clear hall
 go_region_held3 (fun w'=>Kept w1 w'∧w'.cell? ⟨b0,0,none⟩=some (.bool s)∧w'.cell? ⟨b0,1,none⟩=some (.slice a nn capn)∧w'.cell? ⟨b0,2,none⟩=some (.slice ad nd capd)∧w'.cell? ⟨b0+1,0,none⟩=some (.bool s')∧w'.cell? ⟨b0+1,1,none⟩=some (.slice a' nn' capn')∧w'.cell? ⟨b0+1,2,none⟩=some (.slice ad' nd' capd'))
  (first|exact HALL.out _ (Kept.refl _).drew|exact HALL.out _ ‹Kept w1 _›)
  (first|(go_at_call 204;refine(nmul_calls (hn'.kept (hk.trans hS4)) hv4 HB3.out HD2.out).mono ?_;rintro e w5 ⟨v5,rfl,hv5,hk5⟩;have hS5:Kept w1 w5:=hS4.trans hk5)|(go_at_call 205;refine(hden _ (hk.trans hS3)).mono ?_;rintro e w4 ⟨v4,rfl,hv4,hk4⟩;have hS4:Kept w1 w4:=hS3.trans hk4)|(go_at_call 204;refine(nmul_calls (hn.kept (hk.trans hS2)) hv2 HB1.out HD4.out).mono ?_;rintro e w3 ⟨v3,rfl,hv3,hk3⟩;have hS3:Kept w1 w3:=hS2.trans hk3)|(go_at_call 205;refine(hden' _ (hk.trans (Kept.refl w1).drew)).mono ?_;rintro e w2 ⟨v2,rfl,hv2,hk2⟩;have hS2:Kept w1 w2:=(Kept.refl w1).drew.trans hk2))
 go_wp2_with fail
 go_region_held3 (fun w'=>Kept w1 w'∧w'.cell? ⟨b0,0,none⟩=some (.bool s)∧w'.cell? ⟨b0,1,none⟩=some (.slice a nn capn)∧w'.cell? ⟨b0,2,none⟩=some (.slice ad nd capd)∧w'.cell? ⟨b0+1,0,none⟩=some (.bool s')∧w'.cell? ⟨b0+1,1,none⟩=some (.slice a' nn' capn')∧w'.cell? ⟨b0+1,2,none⟩=some (.slice ad' nd' capd'))
  (first|exact HALL.out _ (Kept.drew hS5)|exact HALL.out _ ‹Kept w1 _›)
  (first|(go_at_call 204;refine(nmul_calls (hv6.kept hk7) hv7 HD2.out HD4.out).mono ?_;rintro e w8 ⟨v8,rfl,hv8,hk8⟩;have hS8:Kept w1 w8:=hS7.trans hk8)|(go_at_call 205;refine(hden' _ (hk.trans hS6)).mono ?_;rintro e w7 ⟨v7,rfl,hv7,hk7⟩;have hS7:Kept w1 w7:=hS6.trans hk7)|(go_at_call 205;refine(hden _ (hk.trans (Kept.drew hS5))).mono ?_;rintro e w6 ⟨v6,rfl,hv6,hk6⟩;have hS6:Kept w1 w6:=(Kept.drew hS5).trans hk6))
 have hk58:Kept w5 w8:=(((Kept.refl w5).drew.trans hk6).trans hk7).trans hk8
 have hX8:Nt 65536 w8 v3 (n*dn d'):=((hv3.kept hk4).kept hk5).kept hk58
 have hY8:Nt 65536 w8 v5 (n'*dn d):=hv5.kept hk58
 have hZ8:Nt 65536 w8 v8 (sumD d d'):=hv8
 have hkw8:=hk.trans hS8
 have hZp:0<sumD d d':=hZp
 have HZ:Hid (sumD d d'<pwr 2 14000):=HZ
 have r0:=hS8.cell p0
 have r1:=hS8.cell q0
 have hb3:=hb3.kept hS8
 clear hv2 hv3 hv4 hv5 hv6 hv7 hv8 hk2 hk3 hk4 hk5 hk6 hk7 hk8 hS2 hS3 hS4 hS5 hS6 hS7 hk58 HALL hden hden' p0 p1 p2 q0 q1 q2 hb1 hb2 hk hn hd hn' hd'
 obtain⟨ax,nx,cx,rfl⟩:=hX8.shape
 obtain⟨ay,ny,cy,rfl⟩:=hY8.shape
 obtain⟨az,nz,cz,rfl⟩:=hZ8.shape
 by_cases hss:s=s'
 ·have t:(s==s')=true:=by simpa using hss
  have HSE:Hid (sumS s n d s' n' d'=s):=Lib.hid (by unfold sumS;rw[if_pos hss])
  have HNE:Hid (sumN s n d s' n' d'=n*dn d'+n'*dn d):=Lib.hid (by unfold sumN;rw[if_pos hss])
  clear hss
  go_wp2_with fail
  have hallB:∀w',KeptB w8 w' (b0+2)→KeptB w8 w' (b0+2)∧w'.cell? ⟨b0,0,none⟩=some (.bool s)∧w'.cell? ⟨b0+1,0,none⟩=some (.bool s'):=fun w' k=>⟨k,k.cell r0 (by simp),k.cell r1 (by simp)⟩
  have HALLB:=Lib.hid hallB;clear hallB
  go_region_held3 (fun w'=>KeptB w8 w' (b0+2)∧w'.cell? ⟨b0,0,none⟩=some (.bool s)∧w'.cell? ⟨b0+1,0,none⟩=some (.bool s'))
   (first|exact HALLB.out _ (Kept.toB (Kept.refl w8).drew _)|exact HALLB.out _ (KeptB.st3 ‹Kept w8 _› _ _ _)|exact HALLB.out _ (Kept.toB ‹Kept w8 _› _))
   (first|(go_at_call 73;refine(make_calls s hv9 (hZ8.kept hS9) hZp (.inr ⟨p14_add HX.out HY.out,p14_mid HZ.out⟩)).mono ?_;rintro e w10 ⟨vq,rfl,hq,hk10⟩;have hS10:Kept w8 w10:=hS9.trans hk10;obtain⟨qn,qd,rfl,hqn,hqd⟩:=hq;obtain⟨aq,nq,cq,rfl⟩:=hqn.shape;obtain⟨ae,ne,ce,rfl⟩:=hqd.shape;obtain⟨z0,z1,z2,f0,f1,f2⟩:=(hb3.kept hS10).facts)|(go_at_call 206;refine(nadd_calls (hX8.kept (Kept.refl w8).drew) (hY8.kept (Kept.refl w8).drew) (mid_big (p14_mid HX.out)) (mid_big (p14_mid HY.out))).mono ?_;rintro e w9 ⟨v9,rfl,hv9,hk9⟩;have hS9:Kept w8 w9:=(Kept.refl w8).drew.trans hk9))
  have hkb:=KeptB.store3 w10 (b0+2) (.bool (s&&decide (0<(n*dn d'+n'*dn d)))) (.slice aq nq cq) (.slice ae ne ce)
  have hnw:=(hb3.kept hS10).noWords
  go_wp2
  refine bodyPost_ret (v:=.agg #[.bool (s&&decide (0<(n*dn d'+n'*dn d))),.slice aq nq cq,.slice ae ne ce]) (by simp[results,Tryz.results144,go_sem,z0,z1,z2]) rfl ⟨_,rfl,?_,(hkw8.trans hS10).but hkb (by have:=HBE.out;omega)⟩
  have eS:=HSE.out
  have eN:=HNE.out
  rw[eS,eN]
  exact⟨_,_,rfl,hqn.keptB hkb hnw,hqd.keptB hkb hnw⟩
 ·have t:(s==s')=false:=by simpa using hss
  have hcm:=ncmp_calls (.inl rfl) hX8 hY8 (mid_big (p14_mid HX.out))
  by_cases hle:n'*dn d≤n*dn d'
  ·have HSE:Hid (sumS s n d s' n' d'=s):=Lib.hid (by unfold sumS;rw[if_neg hss,if_pos hle])
   have HNE:Hid (sumN s n d s' n' d'=n*dn d'-n'*dn d):=Lib.hid (by unfold sumN;rw[if_neg hss,if_pos hle])
   have hc0:0≤cmpInt (n*dn d') (n'*dn d):=by unfold cmpInt;split<;>(try split)<;>omega
   have HLE:=Lib.hid hle
   clear hss hle
   generalize cmpInt (n*dn d') (n'*dn d)=ci at*
   have t2:decide (0≤ci)=true:=by simpa using hc0
   go_wp2_with(go_at_call 207;refine hcm.mono ?_;rintro e w9c ⟨rfl,hk9c⟩;have r0:=hk9c.cell r0;have r1:=hk9c.cell r1)
   have hX8:=hX8.kept hk9c
   have hY8:=hY8.kept hk9c
   have hZ8:=hZ8.kept hk9c
   have hb3:=hb3.kept hk9c
   have hkw8:=hkw8.trans hk9c
   have hallB:∀w',KeptB w9c w' (b0+2)→KeptB w9c w' (b0+2)∧w'.cell? ⟨b0,0,none⟩=some (.bool s)∧w'.cell? ⟨b0+1,0,none⟩=some (.bool s'):=fun w' k=>⟨k,k.cell r0 (by simp),k.cell r1 (by simp)⟩
   have HALLB:=Lib.hid hallB;clear hallB
   go_region_held3 (fun w'=>KeptB w9c w' (b0+2)∧w'.cell? ⟨b0,0,none⟩=some (.bool s)∧w'.cell? ⟨b0+1,0,none⟩=some (.bool s'))
    (first|exact HALLB.out _ (Kept.toB (Kept.refl w9c).drew _)|exact HALLB.out _ (KeptB.st3 ‹Kept w9c _› _ _ _)|exact HALLB.out _ (Kept.toB ‹Kept w9c _› _))
    (first|(go_at_call 73;refine(make_calls s hv9 (hZ8.kept hS9) hZp (.inr ⟨p14_mid (Nat.lt_of_le_of_lt (Nat.sub_le _ _) HX.out),p14_mid HZ.out⟩)).mono ?_;rintro e w10 ⟨vq,rfl,hq,hk10⟩;have hS10:Kept w9c w10:=hS9.trans hk10;obtain⟨qn,qd,rfl,hqn,hqd⟩:=hq;obtain⟨aq,nq,cq,rfl⟩:=hqn.shape;obtain⟨ae,ne,ce,rfl⟩:=hqd.shape;obtain⟨z0,z1,z2,f0,f1,f2⟩:=(hb3.kept hS10).facts)|(go_at_call 208;refine(nsub_calls (hX8.kept (Kept.refl w9c).drew) (hY8.kept (Kept.refl w9c).drew) (mid_big (p14_mid HX.out)) HLE.out).mono ?_;rintro e w9 ⟨v9,rfl,hv9,hk9⟩;have hS9:Kept w9c w9:=(Kept.refl w9c).drew.trans hk9))
   have hkb:=KeptB.store3 w10 (b0+2) (.bool (s&&decide (0<(n*dn d'-n'*dn d)))) (.slice aq nq cq) (.slice ae ne ce)
   have hnw:=(hb3.kept hS10).noWords
   go_wp2
   refine bodyPost_ret (v:=.agg #[.bool (s&&decide (0<(n*dn d'-n'*dn d))),.slice aq nq cq,.slice ae ne ce]) (by simp[results,Tryz.results144,go_sem,z0,z1,z2]) rfl ⟨_,rfl,?_,(hkw8.trans hS10).but hkb (by have:=HBE.out;omega)⟩
   have eS:=HSE.out
   have eN:=HNE.out
   rw[eS,eN]
   exact⟨_,_,rfl,hqn.keptB hkb hnw,hqd.keptB hkb hnw⟩
  ·have HSE:Hid (sumS s n d s' n' d'=s'):=Lib.hid (by unfold sumS;rw[if_neg hss,if_neg hle])
   have HNE:Hid (sumN s n d s' n' d'=n'*dn d-n*dn d'):=Lib.hid (by unfold sumN;rw[if_neg hss,if_neg hle])
   have hc0:cmpInt (n*dn d') (n'*dn d)<0:=by unfold cmpInt;rw[if_pos (by omega)];decide
   have HLE:Hid (n*dn d'≤n'*dn d):=Lib.hid (by omega)
   clear hss hle
   generalize cmpInt (n*dn d') (n'*dn d)=ci at*
   have t2:decide (0≤ci)=false:=by simpa using hc0
   go_wp2_with(go_at_call 207;refine hcm.mono ?_;rintro e w9c ⟨rfl,hk9c⟩;have r0:=hk9c.cell r0;have r1:=hk9c.cell r1)
   have hX8:=hX8.kept hk9c
   have hY8:=hY8.kept hk9c
   have hZ8:=hZ8.kept hk9c
   have hb3:=hb3.kept hk9c
   have hkw8:=hkw8.trans hk9c
   have hallB:∀w',KeptB w9c w' (b0+2)→KeptB w9c w' (b0+2)∧w'.cell? ⟨b0,0,none⟩=some (.bool s)∧w'.cell? ⟨b0+1,0,none⟩=some (.bool s'):=fun w' k=>⟨k,k.cell r0 (by simp),k.cell r1 (by simp)⟩
   have HALLB:=Lib.hid hallB;clear hallB
   go_region_held3 (fun w'=>KeptB w9c w' (b0+2)∧w'.cell? ⟨b0,0,none⟩=some (.bool s)∧w'.cell? ⟨b0+1,0,none⟩=some (.bool s'))
    (first|exact HALLB.out _ (Kept.toB (Kept.refl w9c).drew _)|exact HALLB.out _ (KeptB.st3 ‹Kept w9c _› _ _ _)|exact HALLB.out _ (Kept.toB ‹Kept w9c _› _))
    (first|(go_at_call 73;refine(make_calls s' hv9 (hZ8.kept hS9) hZp (.inr ⟨p14_mid (Nat.lt_of_le_of_lt (Nat.sub_le _ _) HY.out),p14_mid HZ.out⟩)).mono ?_;rintro e w10 ⟨vq,rfl,hq,hk10⟩;have hS10:Kept w9c w10:=hS9.trans hk10;obtain⟨qn,qd,rfl,hqn,hqd⟩:=hq;obtain⟨aq,nq,cq,rfl⟩:=hqn.shape;obtain⟨ae,ne,ce,rfl⟩:=hqd.shape;obtain⟨z0,z1,z2,f0,f1,f2⟩:=(hb3.kept hS10).facts)|(go_at_call 208;refine(nsub_calls (hY8.kept (Kept.refl w9c).drew) (hX8.kept (Kept.refl w9c).drew) (mid_big (p14_mid HY.out)) HLE.out).mono ?_;rintro e w9 ⟨v9,rfl,hv9,hk9⟩;have hS9:Kept w9c w9:=(Kept.refl w9c).drew.trans hk9))
   have hkb:=KeptB.store3 w10 (b0+2) (.bool (s'&&decide (0<(n'*dn d-n*dn d')))) (.slice aq nq cq) (.slice ae ne ce)
   have hnw:=(hb3.kept hS10).noWords
   go_wp2
   refine bodyPost_ret (v:=.agg #[.bool (s'&&decide (0<(n'*dn d-n*dn d'))),.slice aq nq cq,.slice ae ne ce]) (by simp[results,Tryz.results144,go_sem,z0,z1,z2]) rfl ⟨_,rfl,?_,(hkw8.trans hS10).but hkb (by have:=HBE.out;omega)⟩
   have eS:=HSE.out
   have eN:=HNE.out
   rw[eS,eN]
   exact⟨_,_,rfl,hqn.keptB hkb hnw,hqd.keptB hkb hnw⟩
end
section
open Go Go.RowKit Go.Dig
open Go.Eng (Kept KW KeptB)
def oS(s':Bool)(n':Nat):Bool:= !s'&&decide (0<n')
def difS(s:Bool)(n d:Nat)(s':Bool)(n' d':Nat):Bool:=sumS s n d (oS s' n') n' d'&&decide (0<sumN s n d (oS s' n') n' d')
def difN(s:Bool)(n d:Nat)(s':Bool)(n' d':Nat):Nat:=sumN s n d (oS s' n') n' d'/Nat.gcd (sumN s n d (oS s' n') n' d') (sumD d d')
def difD(s:Bool)(n d:Nat)(s':Bool)(n' d':Nat):Nat:=sumD d d'/Nat.gcd (sumN s n d (oS s' n') n' d') (sumD d d')
theorem opp_o{w:World}{v:Value}{neg:Bool}{n d:Nat}(h:Qv w v neg n d):Calls Tryz.prog 149 #[v] w (RetQ (oS neg n) n d w):=opp_calls h
theorem sum_dif{w:World}{v u:Value}{s s':Bool}{n d n' d':Nat}(h:Qv w v s n d)(h':Qv w u (oS s' n') n' d')(b1:n<Sm)(b2:d<Sm)(b3:n'<Sm)(b4:d'<Sm):
 Calls Tryz.prog 144 #[v,u] w (RetQ (difS s n d s' n' d') (difN s n d s' n' d') (difD s n d s' n' d') w):=sum_calls h h' b1 b2 b3 b4
set_option maxHeartbeats 4000000 in
set_option maxRecDepth 100000 in
theorem diff_calls{w:World}{v u:Value}{s s':Bool}{n d n' d':Nat}(h:Qv w v s n d)(h':Qv w u s' n' d')(b1:n<Sm)(b2:d<Sm)(b3:n'<Sm)(b4:d'<Sm):
 Calls Tryz.prog 75 #[v,u] w (RetQ (difS s n d s' n' d') (difN s n d s' n' d') (difD s n d s' n' d') w):=by
 have hq:=fun(w':World)(k:Kept w w')=>h.kept k
 have hop:=fun(w':World)(k:Kept w w')=>opp_o (h'.kept k)
 obtain⟨vn,vd,rfl,hn,hd⟩:=h
 obtain⟨a,nn,capn,rfl⟩:=hn.shape
 obtain⟨ad,nd,capd,rfl⟩:=hd.shape
 obtain⟨vn',vd',rfl,hn',hd'⟩:=h'
 obtain⟨a',nn',capn',rfl⟩:=hn'.shape
 obtain⟨ad',nd',capd',rfl⟩:=hd'.shape
 have hb1:=Blk3.new w (.bool s) (.slice a nn capn) (.slice ad nd capd) 55
 have hk1:Kept w (w.alloc (.cells #[.bool s,.slice a nn capn,.slice ad nd capd] 55)):=(Kept.refl _).alloc _
 have e1:(w.alloc (.cells #[.bool s,.slice a nn capn,.slice ad nd capd] 55)).heap.size=w.heap.size+1:=by simp[go_sem]
 have hb2:=Blk3.new (w.alloc (.cells #[.bool s,.slice a nn capn,.slice ad nd capd] 55)) (.bool s') (.slice a' nn' capn') (.slice ad' nd' capd') 55
 have hk2:Kept (w.alloc (.cells #[.bool s,.slice a nn capn,.slice ad nd capd] 55)) ((w.alloc (.cells #[.bool s,.slice a nn capn,.slice ad nd capd] 55)).alloc (.cells #[.bool s',.slice a' nn' capn',.slice ad' nd' capd'] 55)):=(Kept.refl _).alloc _
 have e2:((w.alloc (.cells #[.bool s,.slice a nn capn,.slice ad nd capd] 55)).alloc (.cells #[.bool s',.slice a' nn' capn',.slice ad' nd' capd'] 55)).heap.size=w.heap.size+2:=by simp[go_sem]
 have hb3:=Blk3.new ((w.alloc (.cells #[.bool s,.slice a nn capn,.slice ad nd capd] 55)).alloc (.cells #[.bool s',.slice a' nn' capn',.slice ad' nd' capd'] 55)) (.bool false) (.slice none 0 0) (.slice none 0 0) 55
 have hk3:Kept ((w.alloc (.cells #[.bool s,.slice a nn capn,.slice ad nd capd] 55)).alloc (.cells #[.bool s',.slice a' nn' capn',.slice ad' nd' capd'] 55)) (((w.alloc (.cells #[.bool s,.slice a nn capn,.slice ad nd capd] 55)).alloc (.cells #[.bool s',.slice a' nn' capn',.slice ad' nd' capd'] 55)).alloc (.cells #[.bool false,.slice none 0 0,.slice none 0 0] 55)):=(Kept.refl _).alloc _
 rw[e1] at hb2
 rw[e2] at hb3
 have hb1:=(hb1.kept hk2).kept hk3
 have hb2:=hb2.kept hk3
 have hk:=(hk1.trans hk2).trans hk3
 clear hk1 hk2 hk3 e1 e2 hn hd hn' hd'
 go_enter Tryz.func75,Tryz.ntmps75
 go_wp2_with fail
 generalize (((w.alloc (.cells #[.bool s,.slice a nn capn,.slice ad nd capd] 55)).alloc (.cells #[.bool s',.slice a' nn' capn',.slice ad' nd' capd'] 55)).alloc (.cells #[.bool false,.slice none 0 0,.slice none 0 0] 55))=w1 at*
 generalize hbE:w.heap.size=b0 at hb1 hb2 hb3⊢
 have HBE:=Lib.hid hbE;clear hbE
 obtain⟨p0,p1,p2,_,_,_⟩:=hb1.facts
 obtain⟨q0,q1,q2,_,_,_⟩:=hb2.facts
 have hall:∀w',KeptB w1 w' (b0+2)→KeptB w1 w' (b0+2)∧w'.cell? ⟨b0,0,none⟩=some (.bool s)∧w'.cell? ⟨b0,1,none⟩=some (.slice a nn capn)∧w'.cell? ⟨b0,2,none⟩=some (.slice ad nd capd)∧w'.cell? ⟨b0+1,0,none⟩=some (.bool s')∧w'.cell? ⟨b0+1,1,none⟩=some (.slice a' nn' capn')∧w'.cell? ⟨b0+1,2,none⟩=some (.slice ad' nd' capd'):=
  fun w' k=>⟨k,k.cell p0 (by simp),k.cell p1 (by simp),k.cell p2 (by simp),k.cell q0 (by simp),k.cell q1 (by simp),k.cell q2 (by simp)⟩
 have HALL:=Lib.hid hall;clear hall
 go_region_held3 (fun w'=>KeptB w1 w' (b0+2)∧w'.cell? ⟨b0,0,none⟩=some (.bool s)∧w'.cell? ⟨b0,1,none⟩=some (.slice a nn capn)∧w'.cell? ⟨b0,2,none⟩=some (.slice ad nd capd)∧w'.cell? ⟨b0+1,0,none⟩=some (.bool s')∧w'.cell? ⟨b0+1,1,none⟩=some (.slice a' nn' capn')∧w'.cell? ⟨b0+1,2,none⟩=some (.slice ad' nd' capd'))
  (first|exact HALL.out _ (Kept.toB (Kept.refl w1).drew _)|exact HALL.out _ (KeptB.st3 ‹Kept w1 _› _ _ _)|exact HALL.out _ (Kept.toB ‹Kept w1 _› _))
  (first|(go_at_call 144;refine(sum_dif (hq _ (hk.trans hS2)) hv2 b1 b2 b3 b4).mono ?_;rintro e w10 ⟨vq,rfl,hq3,hk10⟩;have hS10:Kept w1 w10:=hS2.trans hk10;obtain⟨qn,qd,rfl,hqn,hqd⟩:=hq3;obtain⟨aq,nq,cq,rfl⟩:=hqn.shape;obtain⟨ae,ne,ce,rfl⟩:=hqd.shape;obtain⟨z0,z1,z2,f0,f1,f2⟩:=(hb3.kept hS10).facts)|(go_at_call 149;refine(hop _ (hk.trans (Kept.refl w1).drew)).mono ?_;rintro e w2 ⟨v2,rfl,hv2,hk2⟩;have hS2:Kept w1 w2:=(Kept.refl w1).drew.trans hk2))
 have hkb:=KeptB.store3 w10 (b0+2) (.bool (difS s n d s' n' d')) (.slice aq nq cq) (.slice ae ne ce)
 have hnw:=(hb3.kept hS10).noWords
 clear HALL hq hop
 go_wp2
 exact bodyPost_ret (v:=.agg #[.bool (difS s n d s' n' d'),.slice aq nq cq,.slice ae ne ce]) (by simp[results,Tryz.results75,go_sem,z0,z1,z2]) rfl ⟨_,rfl,⟨_,_,rfl,hqn.keptB hkb hnw,hqd.keptB hkb hnw⟩,(hk.trans hS10).but hkb (by have:=HBE.out;omega)⟩
def qcmp(s:Bool)(n d:Nat)(s':Bool)(n' d':Nat):Int:=sgn (difS s n d s' n' d') (difN s n d s' n' d')
set_option maxHeartbeats 4000000 in
set_option maxRecDepth 100000 in
theorem qcmp_calls{w:World}{v u:Value}{s s':Bool}{n d n' d':Nat}(h:Qv w v s n d)(h':Qv w u s' n' d')(b1:n<Sm)(b2:d<Sm)(b3:n'<Sm)(b4:d'<Sm):
 Calls Tryz.prog 38 #[v,u] w fun e w'=>e= .returned (.int .i64 (qcmp s n d s' n' d'))∧Kept w w':=by
 have hdf:=fun(w':World)(k:Kept w w')=>diff_calls (h.kept k) (h'.kept k) b1 b2 b3 b4
 obtain⟨vn,vd,rfl,hn,hd⟩:=h
 obtain⟨a,nn,capn,rfl⟩:=hn.shape
 obtain⟨ad,nd,capd,rfl⟩:=hd.shape
 obtain⟨vn',vd',rfl,hn',hd'⟩:=h'
 obtain⟨a',nn',capn',rfl⟩:=hn'.shape
 obtain⟨ad',nd',capd',rfl⟩:=hd'.shape
 have hk:Kept w ((w.alloc (.cells #[.bool s,.slice a nn capn,.slice ad nd capd] 55)).alloc (.cells #[.bool s',.slice a' nn' capn',.slice ad' nd' capd'] 55)):=((Kept.refl _).alloc _).alloc _
 have hd1:=hdf _ hk
 clear hn hd hn' hd' hdf
 go_enter Tryz.func38,Tryz.ntmps38
 go_wp2_with(first|(go_at_call 75;refine hd1.mono ?_;rintro e w2 ⟨v2,rfl,hv2,hk2⟩)|(go_at_call 74;refine(qsgn_calls hv2).mono ?_;rintro e w3 ⟨rfl,hk3⟩))
 go_ret
 exact⟨rfl,(hk.trans hk2).trans hk3⟩
end
section
open Go Go.Dig
def sg(x:Int):Int:=if x<0 then -1 else if 0<x then 1 else 0
def sI(s:Bool)(m:Nat):Int:=if s then -(m:Int) else(m:Int)
theorem gcd_le_left'{m k:Nat}(h:0<m):0<m/Nat.gcd m k:=
 Nat.div_pos (Nat.le_of_dvd h (Nat.gcd_dvd_left m k)) (Nat.gcd_pos_of_pos_left _ h)
theorem qcmp_sg(s:Bool)(n d:Nat)(s':Bool)(n' d':Nat):qcmp s n d s' n' d'=sg (sI s (n*dn d')-sI s' (n'*dn d)):=by
 have hd:=dn_pos d
 have hn0:n'=0↔n'*dn d=0:=by
  constructor
  ·rintro rfl;simp
  ·intro h
   rcases Nat.mul_eq_zero.1 h with h|h
   ·exact h
   ·omega
 have key:∀N p,sgn (p&&decide (0<N)) (N/Nat.gcd N (sumD d d'))=if N=0 then 0 else if p then -1 else 1:=by
  intro N p
  unfold sgn
  by_cases h:N=0
  ·subst h;simp
  ·have h2:0<N/Nat.gcd N (sumD d d'):=gcd_le_left' (by omega)
   rw[if_neg (by omega),if_neg h]
   simp[show 0<N by omega]
 unfold qcmp difS difN
 rw[key]
 unfold sumS sumN oS
 generalize n*dn d'=X at*
 have e:decide (0<n')=decide (0<n'*dn d):=by rw[Bool.eq_iff_iff];simp only[decide_eq_true_eq];omega
 rw[e]
 generalize n'*dn d=Y at*
 clear e hn0 key hd
 unfold sg sI
 by_cases hY:0<Y
 ·cases s<;>cases s'<;>simp[hY]<;>(repeat' split)<;>omega
 ·obtain rfl:Y=0:=by omega
  cases s<;>cases s'<;>simp<;>(repeat' split)<;>omega
theorem fcmp_qcmp(s:Bool)(n d:Nat)(s':Bool)(n' d':Nat)(hd:0<d)(hd':0<d'):fcmp s n d s' n' d'=qcmp s n d s' n' d':=by
 rw[qcmp_sg]
 have e1:dn d=d:=by unfold dn;rw[if_neg (by omega)]
 have e2:dn d'=d':=by unfold dn;rw[if_neg (by omega)]
 rw[e1,e2]
 unfold fcmp sgn
 by_cases h0:n=0
 ·subst h0
  by_cases h0':n'=0
  ·subst h0';cases s<;>cases s'<;>simp[cmpInt,sg,sI]
  ·have:0<n'*d:=Nat.mul_pos (by omega) hd
   generalize n'*d=Y at*
   cases s<;>cases s'<;>simp[h0',sg,sI]<;>omega
 ·by_cases h0':n'=0
  ·subst h0'
   have:0<n*d':=Nat.mul_pos (by omega) hd'
   generalize n*d'=Y at*
   cases s<;>cases s'<;>simp[h0,sg,sI]<;>omega
  ·have h1:0<n'*d:=Nat.mul_pos (by omega) hd
   have h2:0<n*d':=Nat.mul_pos (by omega) hd'
   generalize n'*d=Y at*
   generalize n*d'=X at*
   cases s<;>cases s'<;>simp[h0,h0',cmpInt,sg,sI]<;>(repeat' split)<;>omega
end
section
open Go Go.RowKit Go.Dig
open Go.Eng (Kept KW KeptB)
def Blk(w:World)(b:Nat)(cs:Array Value)(t:TypeId):Prop:=w.heap[b]? =some (.cells cs t)
section
variable{w w':World}{b:Nat}{cs:Array Value}{t:TypeId}
theorem Blk.new(w:World)(cs:Array Value)(t:TypeId):Blk (w.alloc (.cells cs t)) w.heap.size cs t:=Go.Deep.blk_alloc_new _ _
theorem Blk.lt(h:Blk w b cs t):b<w.heap.size:=(Array.getElem?_eq_some_iff.1 h).1
theorem Blk.kept(h:Blk w b cs t)(k:Kept w w'):Blk w' b cs t:=(k.old b h.lt).trans h
theorem Blk.keptB{g:Nat}(h:Blk w b cs t)(k:KeptB w w' g)(hb:b≠g):Blk w' b cs t:=(k.old b h.lt hb).trans h
theorem Blk.cell(h:Blk w b cs t)(i:Nat){v:Value}(hv:cs[i]? =some v):w.cell? ⟨b,i,none⟩=some v:=by
 unfold Blk at h
 simp[World.cell?,h,hv]
theorem Blk.frozen(h:Blk w b cs t)(i:Nat):w.frozen? ⟨b,i,none⟩=false:=by
 unfold Blk at h
 simp[World.frozen?,h]
theorem Blk.set(h:Blk w b cs t)(i:Nat)(v:Value):Blk (w.setCell ⟨b,i,none⟩ v) b (cs.setIfInBounds i v) t:=by
 unfold Blk at*
 simp[World.setCell,Array.getElem?_modify,h]
theorem Blk.noWords(h:Blk w b cs t)(hc:cs.toList.all (fun v=>match v with| .int .u32 _=>false|_=>true)=true):NoWords w b:=by
 intro off n hcell
 unfold Blk at h
 simp only[World.cell?,h] at hcell
 have hm:Value.int .u32 n∈cs.toList:=by
  have:=Array.mem_of_getElem? (xs:=cs) (i:=off) (a:=Value.int .u32 n) (by simpa using hcell)
  simpa using this
 have:=List.all_eq_true.1 hc _ hm
 simp at this
end
theorem Blk.facts1{w:World}{b:Nat}{t:TypeId}{x0:Value}(h:Blk w b #[x0] t):w.cell? ⟨b,0,none⟩=some x0∧w.frozen? ⟨b,0,none⟩=false:=
 ⟨h.cell 0 rfl,h.frozen 0⟩
theorem Blk.facts7{w:World}{b:Nat}{t:TypeId}{x0 x1 x2 x3 x4 x5 x6:Value}(h:Blk w b #[x0,x1,x2,x3,x4,x5,x6] t):w.cell? ⟨b,0,none⟩=some x0∧w.cell? ⟨b,1,none⟩=some x1∧w.cell? ⟨b,2,none⟩=some x2∧w.cell? ⟨b,3,none⟩=some x3∧w.cell? ⟨b,4,none⟩=some x4∧w.cell? ⟨b,5,none⟩=some x5∧w.cell? ⟨b,6,none⟩=some x6∧w.frozen? ⟨b,0,none⟩=false∧w.frozen? ⟨b,1,none⟩=false∧w.frozen? ⟨b,2,none⟩=false∧w.frozen? ⟨b,3,none⟩=false∧w.frozen? ⟨b,4,none⟩=false∧w.frozen? ⟨b,5,none⟩=false∧w.frozen? ⟨b,6,none⟩=false:=
 ⟨h.cell 0 rfl,h.cell 1 rfl,h.cell 2 rfl,h.cell 3 rfl,h.cell 4 rfl,h.cell 5 rfl,h.cell 6 rfl,h.frozen 0,h.frozen 1,h.frozen 2,h.frozen 3,h.frozen 4,h.frozen 5,h.frozen 6⟩
theorem Blk.facts8{w:World}{b:Nat}{t:TypeId}{x0 x1 x2 x3 x4 x5 x6 x7:Value}(h:Blk w b #[x0,x1,x2,x3,x4,x5,x6,x7] t):w.cell? ⟨b,0,none⟩=some x0∧w.cell? ⟨b,1,none⟩=some x1∧w.cell? ⟨b,2,none⟩=some x2∧w.cell? ⟨b,3,none⟩=some x3∧w.cell? ⟨b,4,none⟩=some x4∧w.cell? ⟨b,5,none⟩=some x5∧w.cell? ⟨b,6,none⟩=some x6∧w.cell? ⟨b,7,none⟩=some x7∧w.frozen? ⟨b,0,none⟩=false∧w.frozen? ⟨b,1,none⟩=false∧w.frozen? ⟨b,2,none⟩=false∧w.frozen? ⟨b,3,none⟩=false∧w.frozen? ⟨b,4,none⟩=false∧w.frozen? ⟨b,5,none⟩=false∧w.frozen? ⟨b,6,none⟩=false∧w.frozen? ⟨b,7,none⟩=false:=
 ⟨h.cell 0 rfl,h.cell 1 rfl,h.cell 2 rfl,h.cell 3 rfl,h.cell 4 rfl,h.cell 5 rfl,h.cell 6 rfl,h.cell 7 rfl,h.frozen 0,h.frozen 1,h.frozen 2,h.frozen 3,h.frozen 4,h.frozen 5,h.frozen 6,h.frozen 7⟩
theorem Blk.facts9{w:World}{b:Nat}{t:TypeId}{x0 x1 x2 x3 x4 x5 x6 x7 x8:Value}(h:Blk w b #[x0,x1,x2,x3,x4,x5,x6,x7,x8] t):w.cell? ⟨b,0,none⟩=some x0∧w.cell? ⟨b,1,none⟩=some x1∧w.cell? ⟨b,2,none⟩=some x2∧w.cell? ⟨b,3,none⟩=some x3∧w.cell? ⟨b,4,none⟩=some x4∧w.cell? ⟨b,5,none⟩=some x5∧w.cell? ⟨b,6,none⟩=some x6∧w.cell? ⟨b,7,none⟩=some x7∧w.cell? ⟨b,8,none⟩=some x8∧w.frozen? ⟨b,0,none⟩=false∧w.frozen? ⟨b,1,none⟩=false∧w.frozen? ⟨b,2,none⟩=false∧w.frozen? ⟨b,3,none⟩=false∧w.frozen? ⟨b,4,none⟩=false∧w.frozen? ⟨b,5,none⟩=false∧w.frozen? ⟨b,6,none⟩=false∧w.frozen? ⟨b,7,none⟩=false∧w.frozen? ⟨b,8,none⟩=false:=
 ⟨h.cell 0 rfl,h.cell 1 rfl,h.cell 2 rfl,h.cell 3 rfl,h.cell 4 rfl,h.cell 5 rfl,h.cell 6 rfl,h.cell 7 rfl,h.cell 8 rfl,h.frozen 0,h.frozen 1,h.frozen 2,h.frozen 3,h.frozen 4,h.frozen 5,h.frozen 6,h.frozen 7,h.frozen 8⟩
theorem Blk.facts10{w:World}{b:Nat}{t:TypeId}{x0 x1 x2 x3 x4 x5 x6 x7 x8 x9:Value}(h:Blk w b #[x0,x1,x2,x3,x4,x5,x6,x7,x8,x9] t):w.cell? ⟨b,0,none⟩=some x0∧w.cell? ⟨b,1,none⟩=some x1∧w.cell? ⟨b,2,none⟩=some x2∧w.cell? ⟨b,3,none⟩=some x3∧w.cell? ⟨b,4,none⟩=some x4∧w.cell? ⟨b,5,none⟩=some x5∧w.cell? ⟨b,6,none⟩=some x6∧w.cell? ⟨b,7,none⟩=some x7∧w.cell? ⟨b,8,none⟩=some x8∧w.cell? ⟨b,9,none⟩=some x9∧w.frozen? ⟨b,0,none⟩=false∧w.frozen? ⟨b,1,none⟩=false∧w.frozen? ⟨b,2,none⟩=false∧w.frozen? ⟨b,3,none⟩=false∧w.frozen? ⟨b,4,none⟩=false∧w.frozen? ⟨b,5,none⟩=false∧w.frozen? ⟨b,6,none⟩=false∧w.frozen? ⟨b,7,none⟩=false∧w.frozen? ⟨b,8,none⟩=false∧w.frozen? ⟨b,9,none⟩=false:=
 ⟨h.cell 0 rfl,h.cell 1 rfl,h.cell 2 rfl,h.cell 3 rfl,h.cell 4 rfl,h.cell 5 rfl,h.cell 6 rfl,h.cell 7 rfl,h.cell 8 rfl,h.cell 9 rfl,h.frozen 0,h.frozen 1,h.frozen 2,h.frozen 3,h.frozen 4,h.frozen 5,h.frozen 6,h.frozen 7,h.frozen 8,h.frozen 9⟩
theorem Blk.b3{w:World}{b:Nat}{t:TypeId}{x y z:Value}(h:Blk w b #[x,y,z] t):Blk3 w b x y z t:=h
def failed:List PanicEntry:=[{v:=.iface 248 (.agg #[.int .i64 1]),recovered:=false}]
theorem fr_flag{w:World}{p q:Bool}{a a':Option Addr}{n n' c c' x y:Nat}(h:Fr w (.agg #[.bool p,.slice a n c,.slice a' n' c']) q x y):p=q:=by
 obtain⟨vn,vd,e,_,_⟩:=h
 cases e
 rfl
set_option maxHeartbeats 1000000 in
set_option maxRecDepth 100000 in
theorem number_ok{w:World}{v:Value}{neg:Bool}{N D:Nat}(h:Rt w v neg N D)(hT:Laid w)(hs:small N D=true):
 Calls Tryz.prog 184 #[v] w (RetFr (neg&&decide (0<N)) (rN N D) (rD N D) w):=by
 have hrd:=fun(w':World)(k:Kept w w')=>read_calls (h.kept k) (hT.kept k)
 obtain⟨vn,vd,rfl,hn,hd⟩:=h
 obtain⟨a,n,cap,xs,rfl,_⟩:=hn.shape'
 obtain⟨ad,nd,capd,ys,rfl,_⟩:=hd.shape'
 have hb2:=Blk.new (w.alloc (.cells #[.bool neg,.slice a n cap,.slice ad nd capd] 24)) #[.bool false,.slice none 0 0,.slice none 0 0] 129
 have hk1:Kept w ((w.alloc (.cells #[.bool neg,.slice a n cap,.slice ad nd capd] 24)).alloc (.cells #[.bool false,.slice none 0 0,.slice none 0 0] 129)):=((Kept.refl _).alloc _).alloc _
 have esz:(w.alloc (.cells #[.bool neg,.slice a n cap,.slice ad nd capd] 24)).heap.size=w.heap.size+1:=by simp[go_sem]
 rw[esz] at hb2
 clear esz hn hd
 have hr1:=hrd _ hk1
 clear hrd
 go_enter Tryz.func184,Tryz.ntmps184
 go_wp2_with fail
 generalize (w.alloc (.cells #[.bool neg,.slice a n cap,.slice ad nd capd] 24)).alloc (.cells #[.bool false,.slice none 0 0,.slice none 0 0] 129)=w1 at*
 generalize hbE:w.heap.size=b0 at hb2⊢
 have HBE:=Lib.hid hbE;clear hbE
 refine hr1.mono ?_
 rintro e w2 ⟨p,a2,n2,c2,a3,n3,c3,rfl,hk2,hfr⟩
 have hfr:=hfr hs
 obtain rfl:=fr_flag hfr
 generalize hp:(neg&&decide (0<N))=p at*
 have hb2':=hb2.kept hk2
 obtain⟨c0,c1,c2',f0,f1,f2⟩:=(hb2'.kept ((Kept.refl w2).alloc (.cells #[.bool p,.slice a2 n2 c2,.slice a3 n3 c3] 129))).b3.facts
 rw[hs]
 go_wp2
 have hk3:Kept w (w2.alloc (.cells #[.bool p,.slice a2 n2 c2,.slice a3 n3 c3] 129)):=(hk1.trans hk2).alloc _
 have hkb:=KeptB.store3 (w2.alloc (.cells #[.bool p,.slice a2 n2 c2,.slice a3 n3 c3] 129)) (b0+1) (.bool p) (.slice a2 n2 c2) (.slice a3 n3 c3)
 have hnw:=(hb2'.kept ((Kept.refl w2).alloc (.cells #[.bool p,.slice a2 n2 c2,.slice a3 n3 c3] 129))).noWords rfl
 have hfr3:=hfr.kept ((Kept.refl w2).alloc (.cells #[.bool p,.slice a2 n2 c2,.slice a3 n3 c3] 129))
 refine bodyPost_ret (v:=.agg #[.bool p,.slice a2 n2 c2,.slice a3 n3 c3]) (by simp[results,Tryz.results184,go_sem,c0,c1,c2']) rfl ⟨_,rfl,?_,hk3.but hkb (by have:=HBE.out;omega)⟩
 obtain⟨vn,vd,e,h1,h2⟩:=hfr3
 cases e
 exact⟨_,_,rfl,h1.keptB hkb hnw,h2.keptB hkb hnw⟩
theorem must_calls(w:World):Calls Tryz.prog 119 #[.int .i64 1] w fun e w'=>e= .panicked failed∧w=w':=by
 go_enter Tryz.func119,Tryz.ntmps119
 go_wp2
 exact⟨rfl,rfl,rfl⟩
set_option maxHeartbeats 1000000 in
set_option maxRecDepth 100000 in
theorem number_big{w:World}{v:Value}{neg:Bool}{N D:Nat}(h:Rt w v neg N D)(hT:Laid w)(hs:small N D=false):
 Calls Tryz.prog 184 #[v] w fun e w'=>e= .panicked failed∧Kept w w':=by
 have hrd:=fun(w':World)(k:Kept w w')=>read_calls (h.kept k) (hT.kept k)
 obtain⟨vn,vd,rfl,hn,hd⟩:=h
 obtain⟨a,n,cap,xs,rfl,_⟩:=hn.shape'
 obtain⟨ad,nd,capd,ys,rfl,_⟩:=hd.shape'
 have hk1:Kept w ((w.alloc (.cells #[.bool neg,.slice a n cap,.slice ad nd capd] 24)).alloc (.cells #[.bool false,.slice none 0 0,.slice none 0 0] 129)):=((Kept.refl _).alloc _).alloc _
 clear hn hd
 have hr1:=hrd _ hk1
 clear hrd
 go_enter Tryz.func184,Tryz.ntmps184
 go_wp2_with fail
 generalize (w.alloc (.cells #[.bool neg,.slice a n cap,.slice ad nd capd] 24)).alloc (.cells #[.bool false,.slice none 0 0,.slice none 0 0] 129)=w1 at*
 refine hr1.mono ?_
 rintro e w2 ⟨p,a2,n2,c2,a3,n3,c3,rfl,hk2,_⟩
 rw[hs]
 go_wp2_with(go_at_call 119;refine(must_calls _).mono ?_;rintro e w3 ⟨rfl,rfl⟩)
 exact⟨rfl,rfl,(hk1.trans hk2).alloc _⟩
end
section
open Go Go.RowKit Go.Dig
open Go.Eng (Kept KW KeptB)
structure IvD where
 s1:Bool
 N1:Nat
 D1:Nat
 s2:Bool
 N2:Nat
 D2:Nat
 li:Bool
 hi:Bool
def Ivl(w:World)(v:Value)(i:IvD):Prop:=
 ∃a n c a' n' c' b m e b' m' e',v= .agg #[.bool i.s1,.slice a n c,.slice a' n' c',.bool i.s2,.slice b m e,.slice b' m' e',.bool i.li,.bool i.hi]∧
  Rt w (.agg #[.bool i.s1,.slice a n c,.slice a' n' c']) i.s1 i.N1 i.D1∧Rt w (.agg #[.bool i.s2,.slice b m e,.slice b' m' e']) i.s2 i.N2 i.D2
theorem Ivl.kept{w w':World}{v:Value}{i:IvD}(h:Ivl w v i)(k:Kept w w'):Ivl w' v i:=by
 obtain⟨a,n,c,a',n',c',b,m,e,b',m',e',h1,h2,h3⟩:=h
 exact⟨a,n,c,a',n',c',b,m,e,b',m',e',h1,h2.kept k,h3.kept k⟩
def IvD.fine(i:IvD):Bool:=small i.N1 i.D1&&small i.N2 i.D2
def IvD.void(i:IvD):Bool:= !i.li&& !i.hi&&decide (0<qcmp (i.s1&&decide (0<i.N1)) (rN i.N1 i.D1) (rD i.N1 i.D1) (i.s2&&decide (0<i.N2)) (rN i.N2 i.D2) (rD i.N2 i.D2))
theorem Rt.shape{w:World}{v:Value}{neg:Bool}{N D:Nat}(h:Rt w v neg N D):∃a n c a' n' c',v= .agg #[.bool neg,.slice a n c,.slice a' n' c']:=by
 obtain⟨vn,vd,rfl,hn,hd⟩:=h
 obtain⟨a,n,cap,xs,rfl,_⟩:=hn.shape'
 obtain⟨ad,nd,capd,ys,rfl,_⟩:=hd.shape'
 exact⟨_,_,_,_,_,_,rfl⟩
set_option maxHeartbeats 1000000 in
set_option maxRecDepth 100000 in
theorem ilarge_calls{w:World}{v:Value}{i:IvD}(h:Ivl w v i):
 Calls Tryz.prog 65 #[v] w fun e w'=>e= .returned (.bool (!i.fine))∧Kept w w':=by
 obtain⟨s1,N1,D1,s2,N2,D2,li,hi⟩:=i
 obtain⟨a,n,c,a',n',c',b,m,e,b',m',e',rfl,h1,h2⟩:=h
 have hb:=Blk.new w #[.bool s1,.slice a n c,.slice a' n' c',.bool s2,.slice b m e,.slice b' m' e',.bool li,.bool hi] 43
 have hk:Kept w (w.alloc (.cells #[.bool s1,.slice a n c,.slice a' n' c',.bool s2,.slice b m e,.slice b' m' e',.bool li,.bool hi] 43)):=(Kept.refl _).alloc _
 have hl1:=large_calls (h1.kept hk)
 have hl2:=fun(w':World)(k:Kept w w')=>large_calls (h2.kept k)
 show Calls Tryz.prog 65 _ w fun e w'=>e= .returned (.bool (!(small N1 D1&&small N2 D2)))∧Kept w w'
 clear h1 h2
 generalize small N1 D1=p at*
 generalize small N2 D2=q at*
 cases p
 ·rw[show(!false)=true from rfl] at hl1
  go_enter Tryz.func65,Tryz.ntmps65
  go_wp2_with(go_at_call 140;refine hl1.mono ?_;rintro e w1 ⟨rfl,hk1⟩)
  go_ret
  exact⟨rfl,hk.trans hk1⟩
 ·rw[show(!true)=false from rfl] at hl1
  go_enter Tryz.func65,Tryz.ntmps65
  go_wp2_with fail
  refine hl1.mono ?_
  rintro e w1 ⟨rfl,hk1⟩
  obtain⟨c0,c1,c2,c3,c4,c5,c6,c7,_⟩:=(hb.kept hk1).facts8
  go_wp2_with(go_at_call 140;refine(hl2 _ (hk.trans hk1)).mono ?_;rintro e w2 ⟨rfl,hk2⟩)
  go_ret
  exact⟨by simp,(hk.trans hk1).trans hk2⟩
end
end Go.Proofs.YtancebninmoipaaGreatDoor
