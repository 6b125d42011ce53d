/- A part of the proof that ClaimGoals answers true for every input of bulk at most 1048576: conditions: the row's own. -/
import Derived.Test.YtbapfnpbamnmpaaGreatDoorRd
section
namespace Go.Proofs.YtbapfnpbamnmpaaGreatDoor
open Go Go.RowKit Go.Dig
open Go.Eng (Kept KW KeptB)
def Qv(w:World)(v:Value)(neg:Bool)(n d:Nat):Prop:=∃vn vd,v= .agg #[.bool neg,vn,vd]∧Nt 65536 w vn n∧Nt 65536 w vd d
theorem Qv.kept{w w':World}{v:Value}{neg:Bool}{n d:Nat}(h:Qv w v neg n d)(k:Kept w w'):Qv w' v neg n d:=by
 obtain⟨vn,vd,h1,h2,h3⟩:=h
 exact⟨vn,vd,h1,h2.kept k,h3.kept k⟩
def RetQ(neg:Bool)(n d:Nat)(w:World)(e:Ending)(w':World):Prop:=∃v,e= .returned v∧Qv w' v neg n d∧Kept w w'
theorem nt_len{w:World}{a:Option Addr}{n cap m:Nat}(h:Nt 65536 w (.slice a n cap) m):(m=0↔n=0)∧(∀L,n≤L↔m<65536^L):=by
 obtain⟨a',n',cap',xs,e,hc,hd,hn,rfl,hw⟩:=h
 cases e
 refine⟨⟨fun h=> ?_,fun h=>by subst h;rfl⟩,fun L=>⟨fun h=>Nat.lt_of_lt_of_le (val_lt hd) (Nat.pow_le_pow_right (by decide) h),len_le_of_lt (by decide) hn⟩⟩
 have hz:=val_eq_zero (B:=65536) (by decide) hn
 exact hz.1 h
set_option maxHeartbeats 1000000 in
theorem den_calls{w:World}{v:Value}{neg:Bool}{n d:Nat}(h:Qv w v neg n d):Calls Tryz.prog 368 #[v] w (RetNt 65536 (dn d) w):=by
 obtain⟨vn,vd,rfl,hn,hd⟩:=h
 obtain⟨a,nn,capn,rfl⟩:=hn.shape
 obtain⟨ad,nd,capd,rfl⟩:=hd.shape
 have hz:=(nt_len hd).1
 have hk0:Kept w (w.alloc (.cells #[.bool neg,.slice a nn capn,.slice ad nd capd] 97)):=(Kept.refl w).alloc _
 by_cases h0:nd=0
 ·have hd0:=hz.2 h0
  subst hd0 h0
  have hof:=natof_calls (w.alloc (.cells #[.bool neg,.slice a nn capn,.slice ad 0 capd] 97)) 1 (by decide)
  clear hz
  go_enter Tryz.func368,Tryz.ntmps368
  go_wp2_with(go_at_call 214;refine hof.mono ?_;rintro e w1 ⟨v1,rfl,hv1,hk1⟩)
  go_ret
  exact⟨_,rfl,hv1,hk0.trans hk1⟩
 ·have q0:((nd:Int)==0)=false:=by simp;omega
  have hdn:dn d=d:=by unfold dn;rw[if_neg (fun e=>h0 (hz.1 e))]
  rw[hdn]
  clear hz hdn
  go_enter Tryz.func368,Tryz.ntmps368
  go_wp2
  go_ret
  exact⟨_,rfl,hd.kept hk0,hk0⟩
set_option maxHeartbeats 1000000 in
theorem qsgn_calls{w:World}{v:Value}{neg:Bool}{n d:Nat}(h:Qv w v neg n d):
 Calls Tryz.prog 207 #[v] w fun e w'=>e= .returned (.int .i64 (sgn neg n))∧Kept w w':=by
 obtain⟨vn,vd,rfl,hn,hd⟩:=h
 obtain⟨a,nn,capn,rfl⟩:=hn.shape
 obtain⟨ad,nd,capd,rfl⟩:=hd.shape
 have hz:=(nt_len hn).1
 by_cases h0:nn=0
 ·have hd0:=hz.2 h0
  subst hd0 h0
  clear hz
  go_enter Tryz.func207,Tryz.ntmps207
  go_wp2
  go_ret
  exact⟨rfl,(Kept.refl _).alloc _⟩
 ·have q0:((nn:Int)==0)=false:=by simp;omega
  have hn0:n≠0:=fun e=>h0 (hz.1 e)
  have HN0:=Lib.hid hn0
  clear hz hn0
  cases neg
  ·go_enter Tryz.func207,Tryz.ntmps207
   go_wp2
   go_ret
   exact⟨by simp[sgn,HN0.out],(Kept.refl _).alloc _⟩
  ·go_enter Tryz.func207,Tryz.ntmps207
   go_wp2
   go_ret
   exact⟨by simp[sgn,HN0.out],(Kept.refl _).alloc _⟩
theorem p2048':(65536:Nat)^128=pwr 2 2048:=pwr16 128 2048 rfl
theorem p8192'{L:Nat}(h:L=512):(65536:Nat)^L=pwr 2 8192:=pwr16 L 8192 (by omega)
set_option maxHeartbeats 1000000 in
theorem over_calls{w:World}{v:Value}{neg:Bool}{n d:Nat}(h:Qv w v neg n d):
 Calls Tryz.prog 217 #[v] w fun e w'=>e= .returned (.bool (!(fits32 n&&fits32 d)))∧Kept w w':=by
 obtain⟨vn,vd,rfl,hn,hd⟩:=h
 obtain⟨a,nn,capn,rfl⟩:=hn.shape
 obtain⟨ad,nd,capd,rfl⟩:=hd.shape
 have e1:fits32 n=decide (nn≤128):=by unfold fits32;rw[←p2048',Bool.eq_iff_iff];simp only[decide_eq_true_eq];exact((nt_len hn).2 128).symm
 have e2:fits32 d=decide (nd≤128):=by unfold fits32;rw[←p2048',Bool.eq_iff_iff];simp only[decide_eq_true_eq];exact((nt_len hd).2 128).symm
 rw[e1,e2]
 clear hn hd e1 e2
 by_cases h1:nn≤128
 ·have t1:decide (128<(nn:Int))=false:=by simp;omega
  by_cases h2:nd≤128
  ·have t2:decide (128<(nd:Int))=false:=by simp;omega
   go_enter Tryz.func217,Tryz.ntmps217
   go_wp2
   go_ret
   exact⟨by simp[h1,h2],(Kept.refl _).alloc _⟩
  ·have t2:decide (128<(nd:Int))=true:=by simp;omega
   go_enter Tryz.func217,Tryz.ntmps217
   go_wp2
   go_ret
   exact⟨by simp[h2],(Kept.refl _).alloc _⟩
 ·have t1:decide (128<(nn:Int))=true:=by simp;omega
  go_enter Tryz.func217,Tryz.ntmps217
  go_wp2
  go_ret
  exact⟨by simp[h1],(Kept.refl _).alloc _⟩
end Go.Proofs.YtbapfnpbamnmpaaGreatDoor
end
section
namespace Go.Proofs.YtbapfnpbamnmpaaGreatDoor
open Go Go.RowKit Go.Dig
open Go.Eng (Kept KW KeptB)
theorem ws_pair(w:World)(x y:Nat):Ws (w.alloc (Obj.cells #[Value.int IntKind.u32 (x:Int),Value.int IntKind.u32 (y:Int)] 191)) (some ⟨w.heap.size,0,none⟩) 2 (fun i=>if i=0 then x else y):=by
 have h:(w.alloc (Obj.cells #[Value.int IntKind.u32 (x:Int),Value.int IntKind.u32 (y:Int)] 191)).rowIs w.heap.size 191 2 (fun j=>.int .u32 (((if j=0 then x else y:Nat)))):=
  World.rowIs_alloc w _ 191 _ fun i hi=>by
   match i,hi with
   |0,_=>rfl
   |1,_=>rfl
 exact Row.ws h (Nat.le_refl _)
structure WdI(xs:Nat→Nat)(k:Nat)(zs:Nat→Nat):Prop where
 lt:∀i,i<2*k→zs i<65536
 eq:val 65536 zs (2*k)=val 4294967296 xs k
theorem pow_two32(k:Nat):(4294967296:Nat)^k=65536^(2*k):=by rw[Nat.pow_mul]
theorem WdI.step{xs zs:Nat→Nat}{k:Nat}(h:WdI xs k zs)(hx:xs k<4294967296):
 WdI xs (k+1) (cat zs (2*k) fun i=>if i=0 then xs k%65536 else xs k/65536):=by
 have e0:cat zs (2*k) (fun i=>if i=0 then xs k%65536 else xs k/65536) (2*k)=xs k%65536:=by simp[cat]
 have e1:cat zs (2*k) (fun i=>if i=0 then xs k%65536 else xs k/65536) (2*k+1)=xs k/65536:=by
  simp only[cat]
  rw[if_neg (by omega),if_neg (by omega)]
 have ev:val 65536 (cat zs (2*k) fun i=>if i=0 then xs k%65536 else xs k/65536) (2*k)=val 65536 zs (2*k):=val_congr fun i hi=>by simp[cat,hi]
 refine⟨fun i hi=> ?_,?_⟩
 ·by_cases h1:i<2*k
  ·simp only[cat,if_pos h1];exact h.lt i h1
  ·by_cases h2:i=2*k
   ·rw[h2,e0];exact Nat.mod_lt _ (by decide)
   ·rw[show i=2*k+1 by omega,e1];omega
 ·rw[show 2*(k+1)=2*k+1+1 by omega]
  simp only[val]
  rw[ev,e0,e1,h.eq,pow_two32,Nat.pow_succ]
  have hm:=Nat.mod_add_div (xs k) 65536
  generalize xs k%65536=r at*
  generalize xs k/65536=q at*
  generalize 65536^(2*k)=P at*
  rw[←hm]
  grind
set_option maxHeartbeats 1000000 in
set_option maxRecDepth 100000 in
theorem words_calls{w:World}{v:Value}{N:Nat}(h:Raw w v N):Calls Tryz.prog 216 #[v] w (RetAp N w):=by
 obtain⟨a,n,cap,xs,rfl,hc,hn,hxl,rfl,hw⟩:=h
 have HXL:=Lib.hid hxl;clear hxl
 have HW:=Lib.hid hw;clear hw
 go_enter Tryz.func216,Tryz.ntmps216
 go_wp2
 go_loopw [3,8] (fun ov iv wr=>∃(k:Nat)(zs:Nat→Nat),k≤n∧iv= .int .i64 (k:Int)∧WdI xs k zs∧Ap wr w.heap.size ov (2*k) zs∧Kept w wr) (fun _ iv _=>n-(intOf iv).toNat)
 case atStart=>exact⟨0,fun _=>0,Nat.zero_le _,rfl,⟨fun _ h=>by omega,rfl⟩,Ap.nil _ _ _,Kept.refl _⟩
 case round=>
  obtain⟨k,zs,hk,rfl,hwd,hap,hkw⟩:=hrel
  have HWD:=Lib.hid hwd;clear hwd
  by_cases hlt:k<n
  ·obtain⟨b,off,rfl,hcx⟩:=(HW.out.kept hkw) k hlt
   have hxk:=HXL.out k hlt
   have hap1:=hap.alloc (Obj.cells #[Value.int IntKind.u32 ((xs k%65536:Nat):Int),Value.int IntKind.u32 ((xs k/65536:Nat):Int)] 191)
   have hkw1:=hkw.alloc (Obj.cells #[Value.int IntKind.u32 ((xs k%65536:Nat):Int),Value.int IntKind.u32 ((xs k/65536:Nat):Int)] 191)
   have hws1:=ws_pair wr (xs k%65536) (xs k/65536)
   have e1:((xs k%65536:Nat):Int)=(xs k:Int)%65536:=by omega
   have e2:((xs k/65536:Nat):Int)=(xs k:Int)/65536:=by omega
   rw[e1,e2] at hap1 hkw1 hws1
   clear e1 e2
   go_wp2_with(at_builtin;refine wpList_append_words rfl (.tmp 12) (.tmp 17) 95 rfl Tryz.underlying95 w hkw1 _ (2*k) zs rfl hap1 ⟨wr.heap.size,0,none⟩ 2 2 _ rfl hws1 (by omega) ?_;intro v' w1 hap2 hkw2)
   go_roundw
   case rel=>exact⟨k+1,_,by omega,by go_num,HWD.out.step hxk,hap2,hkw2⟩
   case measure=>simp[intOf];omega
  ·obtain rfl:n=k:=by omega
   obtain⟨av,capv,rfl,hcapv,hwsv⟩:=hap.ws
   go_wp2_with(go_at_call 304;refine(trim_calls _ _ (2*n) _ zs (by omega) hcapv hwsv).mono ?_;rintro e w' ⟨rfl,rfl⟩)
   go_ret
   exact⟨_,_,_,rfl,hap.cut (trimN_le _ _),fun i hi=>HWD.out.lt i (Nat.lt_of_lt_of_le hi (trimN_le _ _)),trimN_norm _ _,by rw[trimN_val];exact HWD.out.eq,hkw⟩
theorem Raw.shape'{w:World}{v:Value}{m:Nat}(h:Raw w v m):∃(a:Option Addr)(n cap:Nat)(_zs:Nat→Nat),v= .slice a n cap∧True:=by
 obtain⟨a,n,cap,zs,h,_⟩:=h
 exact⟨a,n,cap,zs,h,trivial⟩
theorem wordsn_calls{w:World}{v:Value}{N:Nat}(h:Raw w v N):Calls Tryz.prog 216 #[v] w (RetNt 65536 N w):=(words_calls h).mono fun _ _ h=>h.nt
set_option maxHeartbeats 1000000 in
theorem zeroq_calls{w:World}{v:Value}{neg:Bool}{N D:Nat}(h:Rt w v neg N D):
 Calls Tryz.prog 323 #[v] w fun e w'=>e= .returned (.bool (decide (N=0)))∧Kept w w':=by
 obtain⟨vn,vd,rfl,hn,hd⟩:=h
 obtain⟨a,n,cap,xs,rfl,_⟩:=hn.shape'
 obtain⟨ad,nd,capd,ys,rfl,_⟩:=hd.shape'
 have hk0:Kept w (w.alloc (.cells #[.bool neg,.slice a n cap,.slice ad nd capd] 24)):=(Kept.refl w).alloc _
 have hwd:=wordsn_calls (hn.kept hk0)
 go_enter Tryz.func323,Tryz.ntmps323
 go_wp2_with(go_at_call 216;refine hwd.mono ?_;rintro e w1 ⟨v1,rfl,hv1,hk1⟩;obtain⟨a1,n1,c1,rfl⟩:=hv1.shape;have hz:=(nt_len hv1).1)
 go_ret
 refine⟨ret_bool ?_,hk0.trans hk1⟩
 rw[Bool.eq_iff_iff]
 simp only[decide_eq_true_eq,beq_iff_eq]
 constructor
 ·intro h;exact hz.2 (by omega)
 ·intro h;have:=hz.1 h;omega
end Go.Proofs.YtbapfnpbamnmpaaGreatDoor
end
section
namespace Go.Proofs.YtbapfnpbamnmpaaGreatDoor
open Go Go.RowKit Go.Dig
open Go.Eng (Kept KW KeptB)
set_option maxHeartbeats 1000000 in
set_option maxRecDepth 100000 in
theorem make_zero{w:World}{vn vd:Value}(neg:Bool){d:Nat}(hn:Nt 65536 w vn 0)(hd:Nt 65536 w vd d):
 Calls Tryz.prog 212 #[.bool neg,vn,vd] w (RetQ false 0 1 w):=by
 obtain⟨a,nn,capn,rfl⟩:=hn.shape
 obtain⟨ad,nd,capd,rfl⟩:=hd.shape
 obtain rfl:nn=0:=(nt_len hn).1.1 rfl
 have hb0:=Blk3.new w (.bool false) (.slice none 0 0) (.slice none 0 0) 97
 have hk0:Kept w (w.alloc (.cells #[.bool false,.slice none 0 0,.slice none 0 0] 97)):=(Kept.refl _).alloc _
 go_enter Tryz.func212,Tryz.ntmps212
 go_wp2_with fail
 generalize w.alloc (.cells #[.bool false,.slice none 0 0,.slice none 0 0] 97)=w1 at*
 generalize hbE:w.heap.size=b0 at hb0⊢
 have hof:=natof_calls w1 1 (by decide)
 go_wp2_with(go_at_call 214;refine hof.mono ?_;rintro e w2 ⟨v2,rfl,hv2,hk2⟩;obtain⟨c0,c1,c2,f0,f1,f2⟩:=(hb0.kept hk2).facts;obtain⟨a2,n2,cap2,rfl⟩:=hv2.shape)
 have hkb:=KeptB.store3 w2 b0 (.bool false) (.slice none 0 0) (.slice a2 n2 cap2)
 refine bodyPost_ret (v:=.agg #[.bool false,.slice none 0 0,.slice a2 n2 cap2]) (by simp[results,Tryz.results212,go_sem,c0,c1,c2]) rfl ⟨_,rfl,⟨_,_,rfl,nt_zero _ _ _ _,hv2.keptB hkb (hb0.kept hk2).noWords⟩,(hk0.trans hk2).but hkb (by omega)⟩
set_option maxHeartbeats 1000000 in
set_option maxRecDepth 100000 in
theorem make_one{w:World}{vn vd:Value}(neg:Bool){n:Nat}(hn:Nt 65536 w vn n)(hd:Nt 65536 w vd 1)(hn0:0<n)(hnB:n<Mid):
 Calls Tryz.prog 212 #[.bool neg,vn,vd] w (RetQ neg n 1 w):=by
 obtain⟨a,nn,capn,xs,rfl,hcn,hxl,hxn,hxv,hxw⟩:=hn
 obtain⟨ad,nd,capd,ys,rfl,hcd,hyl,hyn,hyv,hyw⟩:=hd
 have hnn:nn≠0:=by rintro rfl;simp[val] at hxv;omega
 obtain rfl:nd=1:=by
  have h1:=len_le_of_lt (B:=65536) (L:=1) (by decide) hyn (by rw[hyv];decide)
  have h2:nd≠0:=by rintro rfl;simp[val] at hyv
  omega
 have hy0:ys 0=1:=by simp[val] at hyv;exact hyv
 have hl:=len_big (.inl rfl) hxn (by rw[hxv];exact mid_big hnB)
 obtain⟨bd,od,rfl,hcell⟩:=hyw 0 (by omega)
 rw[hy0] at hcell
 have hcell0:w.cell? ⟨bd,od,none⟩=some (.int .u32 1):=hcell
 have q0:((nn:Int)==0)=false:=by simp;omega
 have hb0:=Blk3.new w (.bool false) (.slice none 0 0) (.slice none 0 0) 97
 have hk0:Kept w (w.alloc (.cells #[.bool false,.slice none 0 0,.slice none 0 0] 97)):=(Kept.refl _).alloc _
 have hcell1:=hk0.cell hcell0
 have HXL:=Lib.hid hxl
 have HXN:=Lib.hid hxn
 have HXV:=Lib.hid hxv
 clear hyv hcell hcell0 hyl hyn hyw hxl hxn hxv hnB hy0
 have esz:(w.alloc (.cells #[.bool false,.slice none 0 0,.slice none 0 0] 97)).heap.size=w.heap.size+1:=by simp[go_sem]
 have hke:Kept (w.alloc (.cells #[.bool false,.slice none 0 0,.slice none 0 0] 97)) ((w.alloc (.cells #[.bool false,.slice none 0 0,.slice none 0 0] 97)).alloc (.cells #[] 191)):=(Kept.refl _).alloc _
 have hap0:Ap ((w.alloc (.cells #[.bool false,.slice none 0 0,.slice none 0 0] 97)).alloc (.cells #[] 191)) (w.alloc (.cells #[.bool false,.slice none 0 0,.slice none 0 0] 97)).heap.size (.slice (some ⟨w.heap.size+1,0,none⟩) 0 0) 0 (fun _=>0):=by
  rw[←esz]
  exact World.ownsRow_made _ _ 0 (Nat.le_refl _) (by unfold maxLen;omega) (by simp)
 have hxw1:=(hxw.kept hk0).kept hke
 go_enter Tryz.func212,Tryz.ntmps212
 go_wp2_with(first|(at_builtin;refine wpList_append_list rfl (.tmp 32) (.tmp 33) 95 rfl Tryz.underlying95 (w.alloc (.cells #[.bool false,.slice none 0 0,.slice none 0 0] 97)) hke _ 0 0 (fun _=>0) rfl hap0 a nn capn xs rfl hxw1 (by omega) ?_;intro v2 w2 hap2 hkw2;rw[Nat.zero_add] at hap2;obtain⟨av,capv,rfl,hcapv,hwsv⟩:=(hap2.congr (ys:=xs) fun i hi=>by simp[cat]).ws)|(go_at_call 214;refine(natof_calls _ 1 (by decide)).mono ?_;rintro e w3 ⟨v3,rfl,hv3,hk3⟩;obtain⟨c0,c1,c2,f0,f1,f2⟩:=(hb0.kept (hkw2.trans hk3)).facts;obtain⟨a3,n3,cap3,rfl⟩:=hv3.shape))
 have hkb:=KeptB.store3 w3 w.heap.size (.bool neg) (.slice av nn capv) (.slice a3 n3 cap3)
 have hnw:=(hb0.kept (hkw2.trans hk3)).noWords
 have hN:Nt 65536 w3 (.slice av nn capv) n:=⟨av,nn,capv,xs,rfl,hcapv,HXL.out,HXN.out,HXV.out,hwsv.kept hk3⟩
 refine bodyPost_ret (v:=.agg #[.bool neg,.slice av nn capv,.slice a3 n3 cap3]) (by simp[results,Tryz.results212,go_sem,c0,c1,c2]) rfl ⟨_,rfl,⟨_,_,rfl,hN.keptB hkb hnw,hv3.keptB hkb hnw⟩,((hk0.trans hkw2).trans hk3).but hkb (by omega)⟩
set_option maxHeartbeats 2000000 in
set_option maxRecDepth 100000 in
theorem make_long{w:World}{vn vd:Value}(neg:Bool){n d:Nat}(hn:Nt 65536 w vn n)(hd:Nt 65536 w vd d)(hn0:0<n)(hd1:1<d)(hnB:n<Mid)(hdB:d<Mid):
 Calls Tryz.prog 212 #[.bool neg,vn,vd] w (RetQ neg (n/Nat.gcd n d) (d/Nat.gcd n d) w):=by
 have hgp:0<Nat.gcd d n:=Nat.gcd_pos_of_pos_left _ (by omega)
 have hgB:Nat.gcd d n<Mid:=Nat.lt_of_le_of_lt (Nat.le_of_dvd (by omega) (Nat.gcd_dvd_left d n)) hdB
 rw[Nat.gcd_comm n d]
 have hb0:=Blk3.new w (.bool false) (.slice none 0 0) (.slice none 0 0) 97
 have hk0:Kept w (w.alloc (.cells #[.bool false,.slice none 0 0,.slice none 0 0] 97)):=(Kept.refl _).alloc _
 have hn1:=hn.kept hk0
 have hd2:=hd.kept hk0
 obtain⟨a,nn,capn,rfl⟩:=hn.shape
 have hz:=(nt_len hn).1
 have q0:((nn:Int)==0)=false:=by simp;omega
 obtain⟨ad,nd,capd,ys,rfl,hcd,hyl,hyn,hyv,hyw⟩:=hd
 have hnd:nd≠0:=by rintro rfl;simp[val] at hyv;omega
 have q2:((nd:Int)==0)=false:=by simp;omega
 by_cases h1:nd=1
 ·subst h1
  have hy0:ys 0=d:=by simp[val] at hyv;exact hyv
  obtain⟨bd,od,rfl,hcell⟩:=hyw 0 (by omega)
  rw[hy0] at hcell
  have hcell0:w.cell? ⟨bd,od,none⟩=some (.int .u32 (d:Int)):=hcell
  have q3:((d:Int)==1)=false:=by simp;omega
  have hcell1:=hk0.cell hcell0
  clear hyv hcell hcell0 hyl hyn hyw hy0 hz
  generalize hge:Nat.gcd d n=g at*
  go_enter Tryz.func212,Tryz.ntmps212
  go_wp2_with fail
  generalize w.alloc (.cells #[.bool false,.slice none 0 0,.slice none 0 0] 97)=w1 at*
  generalize hbE:w.heap.size=b0 at hb0⊢
  have hgc:=ngcd_calls hn1 hd2 hnB hdB
  rw[hge] at hgc
  refine hgc.mono ?_
  rintro e w2 ⟨vg,rfl,hvg,hk2⟩
  go_wp2_with fail
  refine(ndiv_calls (hn1.kept hk2) hvg hnB hgB hgp).mono ?_
  rintro e w3 ⟨v3,u3,rfl,hv3,_,hk3⟩
  go_wp2_with fail
  refine(ndiv_calls ((hd2.kept hk2).kept hk3) (hvg.kept hk3) hdB hgB hgp).mono ?_
  rintro e w4 ⟨v4,u4,rfl,hv4,_,hk4⟩
  have hk14:=(hk2.trans hk3).trans hk4
  obtain⟨c0,c1,c2,f0,f1,f2⟩:=(hb0.kept hk14).facts
  have hv3':=hv3.kept hk4
  obtain⟨a3,n3,cap3,rfl⟩:=hv3.shape
  obtain⟨a4,n4,cap4,rfl⟩:=hv4.shape
  go_wp2
  have hkb:=KeptB.store3 w4 b0 (.bool neg) (.slice a3 n3 cap3) (.slice a4 n4 cap4)
  have hnw:=(hb0.kept hk14).noWords
  refine bodyPost_ret (v:=.agg #[.bool neg,.slice a3 n3 cap3,.slice a4 n4 cap4]) (by simp[results,Tryz.results212,go_sem,c0,c1,c2]) rfl ⟨_,rfl,⟨_,_,rfl,hv3'.keptB hkb hnw,hv4.keptB hkb hnw⟩,(hk0.trans hk14).but hkb (by omega)⟩
 ·have q3:((nd:Int)==1)=false:=by simp;omega
  clear hyv hyl hyn hyw hz
  generalize hge:Nat.gcd d n=g at*
  go_enter Tryz.func212,Tryz.ntmps212
  go_wp2_with fail
  generalize w.alloc (.cells #[.bool false,.slice none 0 0,.slice none 0 0] 97)=w1 at*
  generalize hbE:w.heap.size=b0 at hb0⊢
  have hgc:=ngcd_calls hn1 hd2 hnB hdB
  rw[hge] at hgc
  refine hgc.mono ?_
  rintro e w2 ⟨vg,rfl,hvg,hk2⟩
  go_wp2_with fail
  refine(ndiv_calls (hn1.kept hk2) hvg hnB hgB hgp).mono ?_
  rintro e w3 ⟨v3,u3,rfl,hv3,_,hk3⟩
  go_wp2_with fail
  refine(ndiv_calls ((hd2.kept hk2).kept hk3) (hvg.kept hk3) hdB hgB hgp).mono ?_
  rintro e w4 ⟨v4,u4,rfl,hv4,_,hk4⟩
  have hk14:=(hk2.trans hk3).trans hk4
  obtain⟨c0,c1,c2,f0,f1,f2⟩:=(hb0.kept hk14).facts
  have hv3':=hv3.kept hk4
  obtain⟨a3,n3,cap3,rfl⟩:=hv3.shape
  obtain⟨a4,n4,cap4,rfl⟩:=hv4.shape
  go_wp2
  have hkb:=KeptB.store3 w4 b0 (.bool neg) (.slice a3 n3 cap3) (.slice a4 n4 cap4)
  have hnw:=(hb0.kept hk14).noWords
  refine bodyPost_ret (v:=.agg #[.bool neg,.slice a3 n3 cap3,.slice a4 n4 cap4]) (by simp[results,Tryz.results212,go_sem,c0,c1,c2]) rfl ⟨_,rfl,⟨_,_,rfl,hv3'.keptB hkb hnw,hv4.keptB hkb hnw⟩,(hk0.trans hk14).but hkb (by omega)⟩
theorem make_calls{w:World}{vn vd:Value}(neg:Bool){n d:Nat}(hn:Nt 65536 w vn n)(hd:Nt 65536 w vd d)(hd0:0<d)(hb:n=0∨n<Mid∧d<Mid):
 Calls Tryz.prog 212 #[.bool neg,vn,vd] w (RetQ (neg&&decide (0<n)) (n/Nat.gcd n d) (d/Nat.gcd n d) w):=by
 by_cases h0:n=0
 ·subst h0
  have h:=make_zero neg hn hd
  simpa [Nat.div_self hd0] using h
 ·have hb:n<Mid∧d<Mid:=hb.resolve_left h0
  by_cases h1:d=1
  ·subst h1
   have h:=make_one neg hn hd (by omega) hb.1
   simpa [show 0<n by omega] using h
  ·have h:=make_long neg hn hd (by omega) (by omega) hb.1 hb.2
   simpa [show 0<n by omega] using h
end Go.Proofs.YtbapfnpbamnmpaaGreatDoor
end
