/- A part of the proof that ClaimFaces answers true for every input of bulk at most 1048576: conditions: the row's own. -/
import Derived.Test.YtbapfnpbamnmpaaGreatDoorWd
import Derived.Deep.RegionHeld3
namespace Go.Proofs.YtbapfnpbamnmpaaGreatDoor
open Go Go.RowKit Go.Dig
section
open Go.Eng (Kept KW KeptB)
def fits32(n:Nat):Bool:=decide (n<pwr 2 2048)
theorem len_le_iff{zs:Nat→Nat}{n L:Nat}(hd:∀i,i<n→zs i<4294967296)(hn:norm zs n):n≤L↔val 4294967296 zs n<4294967296^L:=by
 constructor
 ·intro h
  exact Nat.lt_of_lt_of_le (val_lt hd) (Nat.pow_le_pow_right (by decide) h)
 ·exact len_le_of_lt (by decide) hn
theorem p2048:(4294967296:Nat)^64=pwr 2 2048:=pwr32 64 2048 rfl
set_option maxHeartbeats 1000000 in
theorem fits_calls{w:World}{v:Value}{neg:Bool}{n d:Nat}(h:Fr w v neg n d):
 Calls Tryz.prog 249 #[v] w fun e w'=>e= .returned (.bool (fits32 n&&fits32 d))∧Kept w w':=by
 obtain⟨vn,vd,rfl,hn,hd⟩:=h
 obtain⟨a,nn,capn,xs,rfl,hc1,hx,hxn,rfl,hw1⟩:=hn
 obtain⟨b,nd,capd,ys,rfl,hc2,hy,hyn,rfl,hw2⟩:=hd
 have e1:fits32 (val 4294967296 xs nn)=decide (nn≤64):=by unfold fits32;rw[←p2048,Bool.eq_iff_iff];simp[len_le_iff hx hxn]
 have e2:fits32 (val 4294967296 ys nd)=decide (nd≤64):=by unfold fits32;rw[←p2048,Bool.eq_iff_iff];simp[len_le_iff hy hyn]
 rw[e1,e2]
 clear hw1 hw2 hx hxn hy hyn e1 e2
 by_cases h1:nn≤64
 ·have t1:decide ((nn:Int)≤64)=true:=by simp;omega
  by_cases h2:nd≤64
  ·go_enter Tryz.func249,Tryz.ntmps249
   go_wp2
   go_ret
   exact⟨by simp[h1,h2];omega,(Kept.refl _).alloc _⟩
  ·go_enter Tryz.func249,Tryz.ntmps249
   go_wp2
   go_ret
   exact⟨by simp[h2];try omega,(Kept.refl _).alloc _⟩
 ·have t1:decide ((nn:Int)≤64)=false:=by simp;omega
  go_enter Tryz.func249,Tryz.ntmps249
  go_wp2
  go_ret
  exact⟨by simp[h1],(Kept.refl _).alloc _⟩
def sgn(neg:Bool)(n:Nat):Int:=if n=0 then 0 else if neg then -1 else 1
set_option maxHeartbeats 1000000 in
theorem sign_calls{w:World}{v:Value}{neg:Bool}{n d:Nat}(h:Fr w v neg n d):
 Calls Tryz.prog 283 #[v] w fun e w'=>e= .returned (.int .i64 (sgn neg n))∧Kept w w':=by
 obtain⟨vn,vd,rfl,hn,hd⟩:=h
 obtain⟨a,nn,capn,rfl⟩:=hn.shape
 obtain⟨a',nd,capd,rfl⟩:=hd.shape
 have hn1:=hn.kept ((Kept.refl w).alloc (.cells #[.bool neg,.slice a nn capn,.slice a' nd capd] 217))
 by_cases h0:n=0
 ·subst h0
  have hz:=zero_true hn1
  go_enter Tryz.func283,Tryz.ntmps283
  go_wp2_with(go_at_call 192;refine hz.mono ?_;rintro e w' ⟨rfl,rfl⟩)
  go_ret
  exact⟨rfl,(Kept.refl _).alloc _⟩
 ·have hz:=zero_false hn1 (by omega)
  cases neg
  ·go_enter Tryz.func283,Tryz.ntmps283
   go_wp2_with(go_at_call 192;refine hz.mono ?_;rintro e w' ⟨rfl,rfl⟩)
   go_ret
   exact⟨by simp[sgn,h0],(Kept.refl _).alloc _⟩
  ·go_enter Tryz.func283,Tryz.ntmps283
   go_wp2_with(go_at_call 192;refine hz.mono ?_;rintro e w' ⟨rfl,rfl⟩)
   go_ret
   exact⟨by simp[sgn,h0],(Kept.refl _).alloc _⟩
end
section
open Go.Eng (Kept KW KeptB wp_region_kw kw_call)
def fcmp(s:Bool)(n d:Nat)(s':Bool)(n' d':Nat):Int:=
 if sgn s n≠sgn s' n' then(if sgn s n<sgn s' n' then -1 else 1) else(if s then-cmpInt (n*d') (n'*d) else cmpInt (n*d') (n'*d))
theorem Blk3.all{w0:World}{b:Nat}{x y z:Value}{t:TypeId}(h:Blk3 w0 b x y z t):
 (∀k:KW w0,k.w.cell? ⟨b,0,none⟩=some x)∧(∀k:KW w0,k.w.cell? ⟨b,1,none⟩=some y)∧(∀k:KW w0,k.w.cell? ⟨b,2,none⟩=some z):=
 ⟨fun k=>(h.kept k.kept).facts.1,fun k=>(h.kept k.kept).facts.2.1,fun k=>(h.kept k.kept).facts.2.2.1⟩
set_option maxHeartbeats 1000000 in
theorem fcmp_ne{w:World}{v u:Value}{s s':Bool}{n d n' d':Nat}(h:Fr w v s n d)(h':Fr w u s' n' d')(hne:sgn s n≠sgn s' n'):
 Calls Tryz.prog 238 #[v,u] w fun e w'=>e= .returned (.int .i64 (if sgn s n<sgn s' n' then -1 else 1))∧Kept w w':=by
 have hs:=fun(w':World)(k:Kept w w')=>sign_calls (h.kept k)
 have hs':=fun(w':World)(k:Kept w w')=>sign_calls (h'.kept k)
 obtain⟨vn,vd,rfl,hn,hd⟩:=h
 obtain⟨a,nn,capn,rfl⟩:=hn.shape
 obtain⟨ad,nd,capd,rfl⟩:=hd.shape
 obtain⟨vn',vd',rfl,hn',hd'⟩:=h'
 obtain⟨a',nn',capn',rfl⟩:=hn'.shape
 obtain⟨ad',nd',capd',rfl⟩:=hd'.shape
 generalize sgn s n=x at*
 generalize sgn s' n'=y at*
 have hb1:=Blk3.new w (.bool s) (.slice a nn capn) (.slice ad nd capd) 217
 have hb2:=Blk3.new (w.alloc (.cells #[.bool s,.slice a nn capn,.slice ad nd capd] 217)) (.bool s') (.slice a' nn' capn') (.slice ad' nd' capd') 217
 have hk1:Kept w ((w.alloc (.cells #[.bool s,.slice a nn capn,.slice ad nd capd] 217)).alloc (.cells #[.bool s',.slice a' nn' capn',.slice ad' nd' capd'] 217)):=((Kept.refl _).alloc _).alloc _
 have hb1':=hb1.kept ((Kept.refl _).alloc (.cells #[.bool s',.slice a' nn' capn',.slice ad' nd' capd'] 217))
 clear hb1
 have esz:(w.alloc (.cells #[.bool s,.slice a nn capn,.slice ad nd capd] 217)).heap.size=w.heap.size+1:=by simp[go_sem]
 rw[esz] at hb2
 clear esz
 have tne:(x != y)=true:=by simpa using hne
 by_cases hlt:x<y
 ·have tlt:decide (x<y)=true:=by simpa using hlt
  rw[if_pos hlt]
  go_enter Tryz.func238,Tryz.ntmps238
  go_wp2_with fail
  generalize (w.alloc (.cells #[.bool s,.slice a nn capn,.slice ad nd capd] 217)).alloc (.cells #[.bool s',.slice a' nn' capn',.slice ad' nd' capd'] 217)=w1 at*
  generalize w.heap.size=b0 at*
  obtain⟨p0,p1,p2⟩:=hb1'.all
  obtain⟨q0,q1,q2⟩:=hb2.all
  refine wp_region_kw w1 (Kept.refl _) (by kernel_rfl) (by kernel_rfl) ?_
  repeat (go_big_quiet_step (first|(go_at_call_of 283 (Value.agg #[Value.bool s,Value.slice a nn capn,Value.slice ad nd capd]);exact kw_call (hs _ (hk1.trans (KW.kept _))))|(go_at_call 283;exact kw_call (hs' _ (hk1.trans (KW.kept _))))))
  refine wpQuiet_nil ?_
  rintro _ ⟨k2,rfl⟩
  go_wp2_with fail
  refine wp_region_kw w1 k2.kept (by kernel_rfl) (by kernel_rfl) ?_
  repeat (go_big_quiet_step (first|(go_at_call_of 283 (Value.agg #[Value.bool s,Value.slice a nn capn,Value.slice ad nd capd]);exact kw_call (hs _ (hk1.trans (KW.kept _))))|(go_at_call 283;exact kw_call (hs' _ (hk1.trans (KW.kept _))))))
  refine wpQuiet_nil ?_
  rintro _ ⟨k3,rfl⟩
  go_wp2
  go_ret
  exact⟨rfl,hk1.trans k3.kept⟩
 ·have tlt:decide (x<y)=false:=by simpa using hlt
  rw[if_neg hlt]
  go_enter Tryz.func238,Tryz.ntmps238
  go_wp2_with fail
  generalize (w.alloc (.cells #[.bool s,.slice a nn capn,.slice ad nd capd] 217)).alloc (.cells #[.bool s',.slice a' nn' capn',.slice ad' nd' capd'] 217)=w1 at*
  generalize w.heap.size=b0 at*
  obtain⟨p0,p1,p2⟩:=hb1'.all
  obtain⟨q0,q1,q2⟩:=hb2.all
  refine wp_region_kw w1 (Kept.refl _) (by kernel_rfl) (by kernel_rfl) ?_
  repeat (go_big_quiet_step (first|(go_at_call_of 283 (Value.agg #[Value.bool s,Value.slice a nn capn,Value.slice ad nd capd]);exact kw_call (hs _ (hk1.trans (KW.kept _))))|(go_at_call 283;exact kw_call (hs' _ (hk1.trans (KW.kept _))))))
  refine wpQuiet_nil ?_
  rintro _ ⟨k2,rfl⟩
  go_wp2_with fail
  refine wp_region_kw w1 k2.kept (by kernel_rfl) (by kernel_rfl) ?_
  repeat (go_big_quiet_step (first|(go_at_call_of 283 (Value.agg #[Value.bool s,Value.slice a nn capn,Value.slice ad nd capd]);exact kw_call (hs _ (hk1.trans (KW.kept _))))|(go_at_call 283;exact kw_call (hs' _ (hk1.trans (KW.kept _))))))
  refine wpQuiet_nil ?_
  rintro _ ⟨k3,rfl⟩
  go_wp2
  go_ret
  exact⟨rfl,hk1.trans k3.kept⟩
end
section
open Go.Eng (Kept KW KeptB wp_region_kw kw_call)
set_option maxHeartbeats 4000000 in
set_option maxRecDepth 100000 in
theorem fcmp_eq{w:World}{v u:Value}{s s':Bool}{n d n' d':Nat}(h:Fr w v s n d)(h':Fr w u s' n' d')(heq:sgn s n=sgn s' n')
 (b1:n<Big)(b2:d<Big)(b3:n'<Big)(b4:d'<Big)(b5:n*d'<Big):
 Calls Tryz.prog 238 #[v,u] w fun e w'=>e= .returned (.int .i64 (if s then-cmpInt (n*d') (n'*d) else cmpInt (n*d') (n'*d)))∧Kept w w':=by
 have hs:=fun(w':World)(k:Kept w w')=>sign_calls (h.kept k)
 have hs':=fun(w':World)(k:Kept w w')=>sign_calls (h'.kept k)
 obtain⟨vn,vd,rfl,hn,hd⟩:=h
 obtain⟨a,nn,capn,rfl⟩:=hn.shape
 obtain⟨ad,nd,capd,rfl⟩:=hd.shape
 obtain⟨vn',vd',rfl,hn',hd'⟩:=h'
 obtain⟨a',nn',capn',rfl⟩:=hn'.shape
 obtain⟨ad',nd',capd',rfl⟩:=hd'.shape
 rw[←heq] at hs'
 clear heq
 generalize sgn s n=x at*
 have hb1:=Blk3.new w (.bool s) (.slice a nn capn) (.slice ad nd capd) 217
 have hb2:=Blk3.new (w.alloc (.cells #[.bool s,.slice a nn capn,.slice ad nd capd] 217)) (.bool s') (.slice a' nn' capn') (.slice ad' nd' capd') 217
 have hk1:Kept w ((w.alloc (.cells #[.bool s,.slice a nn capn,.slice ad nd capd] 217)).alloc (.cells #[.bool s',.slice a' nn' capn',.slice ad' nd' capd'] 217)):=((Kept.refl _).alloc _).alloc _
 have hb1':=hb1.kept ((Kept.refl _).alloc (.cells #[.bool s',.slice a' nn' capn',.slice ad' nd' capd'] 217))
 clear hb1
 have esz:(w.alloc (.cells #[.bool s,.slice a nn capn,.slice ad nd capd] 217)).heap.size=w.heap.size+1:=by simp[go_sem]
 rw[esz] at hb2
 clear esz
 have tne:(x != x)=false:=by simp
 have hcr:(-1≤cmpInt (n*d') (n'*d))∧cmpInt (n*d') (n'*d)≤1:=by unfold cmpInt;split<;>(try split)<;>omega
 go_enter Tryz.func238,Tryz.ntmps238
 go_wp2_with fail
 generalize (w.alloc (.cells #[.bool s,.slice a nn capn,.slice ad nd capd] 217)).alloc (.cells #[.bool s',.slice a' nn' capn',.slice ad' nd' capd'] 217)=w1 at*
 generalize w.heap.size=b0 at*
 obtain⟨p0,p1,p2⟩:=hb1'.all
 obtain⟨q0,q1,q2⟩:=hb2.all
 refine wp_region_kw w1 (Kept.refl _) (by kernel_rfl) (by kernel_rfl) ?_
 repeat (go_big_quiet_step (first|(go_at_call_of 283 (Value.agg #[Value.bool s,Value.slice a nn capn,Value.slice ad nd capd]);exact kw_call (hs _ (hk1.trans (KW.kept _))))|(go_at_call 283;exact kw_call (hs' _ (hk1.trans (KW.kept _))))))
 refine wpQuiet_nil ?_
 rintro _ ⟨k2,rfl⟩
 go_wp2_with fail
 clear p0 p1 p2 q0 q1 q2
 have hk2:=k2.kept
 generalize k2.w=w2 at*
 obtain⟨p0,p1,p2,_,_,_⟩:=(hb1'.kept hk2).facts
 obtain⟨q0,q1,q2,_,_,_⟩:=(hb2.kept hk2).facts
 have hkw2:=hk1.trans hk2
 have hall:∀w',Kept w2 w'→Kept w2 w'∧w'.cell? ⟨b0,1,none⟩=some (.slice a nn capn)∧w'.cell? ⟨b0,2,none⟩=some (.slice ad nd capd)∧w'.cell? ⟨b0+1,1,none⟩=some (.slice a' nn' capn')∧w'.cell? ⟨b0+1,2,none⟩=some (.slice ad' nd' capd'):=
  fun w' k=>⟨k,k.cell p1,k.cell p2,k.cell q1,k.cell q2⟩
 have HALL:=Lib.hid hall;clear hall
 go_region_held3 (fun w'=>Kept w2 w'∧w'.cell? ⟨b0,1,none⟩=some (.slice a nn capn)∧w'.cell? ⟨b0,2,none⟩=some (.slice ad nd capd)∧w'.cell? ⟨b0+1,1,none⟩=some (.slice a' nn' capn')∧w'.cell? ⟨b0+1,2,none⟩=some (.slice ad' nd' capd'))
  (first|exact HALL.out _ (Kept.refl _).drew|exact HALL.out _ ‹Kept w2 _›)
  (first|(go_at_call_of 278 (Value.slice a nn capn);refine(mul_calls (hn.kept hkw2.drew) (hd'.kept hkw2.drew) b1 b4).mono ?_;rintro e w3 ⟨v3,rfl,hv3,hk3⟩;have hS3:Kept w2 w3:=(Kept.refl w2).drew.trans hk3)|(go_at_call_of 278 (Value.slice a' nn' capn');refine(mul_calls (hn'.kept (hkw2.trans hS3)) (hd.kept (hkw2.trans hS3)) b3 b2).mono ?_;rintro e w4 ⟨v4,rfl,hv4,hk4⟩;have hS4:Kept w2 w4:=hS3.trans hk4)|(go_at_call 320;refine(cmp_calls (.inr rfl) (hv3.kept hk4) hv4 b5).mono ?_;rintro e w5 ⟨rfl,hk5⟩;have hS5:Kept w2 w5:=hS4.trans hk5))
 have p05:=hS5.cell p0
 have hfin:=hkw2.trans hS5
 obtain⟨hc1,hc2⟩:=hcr
 clear HALL hs hs' p0 p1 p2 q0 q1 q2 tne hv3 hv4 hk3 hk4 hk5 hS3 hS4 hS5
 generalize hci:cmpInt (n*d') (n'*d)=ci at*
 have HCI:=Lib.hid hci;clear hci
 cases s
 ·go_wp2
  go_ret
  exact⟨by rw[HCI.out];rfl,hfin⟩
 ·go_wp2
  go_ret
  exact⟨by rw[HCI.out];rfl,hfin⟩
theorem fcmp_calls{w:World}{v u:Value}{s s':Bool}{n d n' d':Nat}(h:Fr w v s n d)(h':Fr w u s' n' d')
 (b1:n<Big)(b2:d<Big)(b3:n'<Big)(b4:d'<Big)(b5:n*d'<Big):
 Calls Tryz.prog 238 #[v,u] w fun e w'=>e= .returned (.int .i64 (fcmp s n d s' n' d'))∧Kept w w':=by
 by_cases heq:sgn s n=sgn s' n'
 ·unfold fcmp
  rw[if_neg (by simpa using heq)]
  exact fcmp_eq h h' heq b1 b2 b3 b4 b5
 ·unfold fcmp
  rw[if_pos heq]
  exact fcmp_ne h h' heq
end
section
open Go.Eng (Kept KW KeptB wp_region_kw kw_call)
def Raw(w:World)(v:Value)(m:Nat):Prop:=
 ∃(a:Option Addr)(n cap:Nat)(zs:Nat→Nat),v= .slice a n cap∧n≤cap∧n≤4194304∧(∀i,i<n→zs i<4294967296)∧val 4294967296 zs n=m∧Ws w a n zs
theorem Raw.kept{w w':World}{v:Value}{m:Nat}(h:Raw w v m)(k:Kept w w'):Raw w' v m:=by
 obtain⟨a,n,cap,zs,h1,h2,h3,h4,h5,h6⟩:=h
 exact⟨a,n,cap,zs,h1,h2,h3,h4,h5,h6.kept k⟩
def Rt(w:World)(v:Value)(neg:Bool)(N D:Nat):Prop:=∃vn vd,v= .agg #[.bool neg,vn,vd]∧Raw w vn N∧Raw w vd D
theorem Rt.kept{w w':World}{v:Value}{neg:Bool}{N D:Nat}(h:Rt w v neg N D)(k:Kept w w'):Rt w' v neg N D:=by
 obtain⟨vn,vd,h1,h2,h3⟩:=h
 exact⟨vn,vd,h1,h2.kept k,h3.kept k⟩
def dn(D:Nat):Nat:=if D=0 then 1 else D
def rN(N D:Nat):Nat:=N/Nat.gcd N (dn D)
def rD(N D:Nat):Nat:=dn D/Nat.gcd N (dn D)
def small(N D:Nat):Bool:=decide (N<pwr 2 8192)&&decide (D<pwr 2 8192)&&fits32 (rN N D)&&fits32 (rD N D)
def RetRead(neg:Bool)(N D:Nat)(w:World)(e:Ending)(w':World):Prop:=
 ∃p a n c a' n' c',e= .returned (.tuple #[.agg #[.bool p,.slice a n c,.slice a' n' c'],.bool (small N D)])∧Kept w w'∧
  (small N D=true→Fr w' (.agg #[.bool p,.slice a n c,.slice a' n' c']) (neg&&decide (0<N)) (rN N D) (rD N D))
theorem p8192:(4294967296:Nat)^256=pwr 2 8192:=pwr32 256 8192 rfl
theorem trim_len_iff{zs:Nat→Nat}{n L:Nat}(hd:∀i,i<n→zs i<4294967296):trimN zs n≤L↔val 4294967296 zs n<4294967296^L:=by
 rw[len_le_iff (fun i hi=>hd i (Nat.lt_of_lt_of_le hi (trimN_le zs n))) (trimN_norm zs n),trimN_val]
theorem of_raw{w:World}{a:Option Addr}{n cap:Nat}{zs:Nat→Nat}(h1:n≤cap)(h2:n≤4194304)(h:Ws w a n zs):
 Calls Tryz.prog 248 #[.slice a n cap] w fun e w'=>e= .returned (.slice a (trimN zs n) cap)∧Kept w w':=
 (of_calls w a n cap zs (by omega) h1 h).mono fun e w' ⟨h1,h2⟩=>⟨h1,h2▸Kept.refl _⟩
set_option maxHeartbeats 4000000 in
set_option maxRecDepth 100000 in
theorem read_large{w:World}{v:Value}{neg:Bool}{N D:Nat}(h:Rt w v neg N D)(hl:¬(N<pwr 2 8192∧D<pwr 2 8192)):
 Calls Tryz.prog 155 #[v] w (RetRead neg N D w):=by
 have hsm:small N D=false:=by unfold small;simp;omega
 obtain⟨vn,vd,rfl,hn,hd⟩:=h
 obtain⟨a,n,cap,xs,rfl,hc1,hn1,hxl,rfl,hxw⟩:=hn
 obtain⟨a',n',cap',ys,rfl,hc2,hn2,hyl,rfl,hyw⟩:=hd
 rw[←p8192,←trim_len_iff hxl,←trim_len_iff hyl] at hl
 have hb1:=Blk3.new w (.bool neg) (.slice a n cap) (.slice a' n' cap') 24
 have hb2:=Blk3.new (w.alloc (.cells #[.bool neg,.slice a n cap,.slice a' n' cap'] 24)) (.bool false) (.slice none 0 0) (.slice none 0 0) 217
 have hk1:Kept w ((w.alloc (.cells #[.bool neg,.slice a n cap,.slice a' n' cap'] 24)).alloc (.cells #[.bool false,.slice none 0 0,.slice none 0 0] 217)):=((Kept.refl _).alloc _).alloc _
 have hb1':=hb1.kept ((Kept.refl _).alloc (.cells #[.bool false,.slice none 0 0,.slice none 0 0] 217))
 clear hb1
 have esz:(w.alloc (.cells #[.bool neg,.slice a n cap,.slice a' n' cap'] 24)).heap.size=w.heap.size+1:=by simp[go_sem]
 rw[esz] at hb2
 clear esz
 have ho1:=fun(w':World)(k:Kept w w')=>of_raw hc1 hn1 (hxw.kept k)
 have ho2:=fun(w':World)(k:Kept w w')=>of_raw hc2 hn2 (hyw.kept k)
 have hle1:=trimN_le xs n
 have hle2:=trimN_le ys n'
 go_enter Tryz.func155,Tryz.ntmps155
 go_wp2_with fail
 generalize (w.alloc (.cells #[.bool neg,.slice a n cap,.slice a' n' cap'] 24)).alloc (.cells #[.bool false,.slice none 0 0,.slice none 0 0] 217)=w1 at*
 generalize hbE:w.heap.size=b0 at hb2 hb1'⊢
 have HBE:=Lib.hid hbE;clear hbE
 obtain⟨p0,p1,p2⟩:=hb1'.all
 refine wp_region_kw w1 (Kept.refl _) (by kernel_rfl) (by kernel_rfl) ?_
 repeat (go_big_quiet_step (first|(go_at_call_of 248 (Value.slice a n cap);exact kw_call (ho1 _ (hk1.trans (KW.kept _))))|(go_at_call 248;exact kw_call (ho2 _ (hk1.trans (KW.kept _))))))
 refine wpQuiet_nil ?_
 rintro _ ⟨k2,rfl⟩
 clear p0 p1 p2
 have hk2:=k2.kept
 generalize k2.w=w2 at*
 have hbl2:=hb2.kept hk2
 obtain⟨c0,c1,c2,f0,f1,f2⟩:=hbl2.facts
 have hfin:Kept w (((w2.setCell ⟨b0+1,0,none⟩ (.bool false)).setCell ⟨b0+1,1,none⟩ (.slice none 0 0)).setCell ⟨b0+1,2,none⟩ (.slice none 0 0)):=(hk1.trans hk2).but (KeptB.store3 ..) (by have:=HBE.out;omega)
 by_cases ht:trimN xs n≤256
 ·have t1:decide (256<(trimN xs n:Int))=false:=by simp;omega
  have t2:decide (256<(trimN ys n':Int))=true:=by simp;omega
  go_wp2
  refine bodyPost_ret (v:=.tuple #[.agg #[.bool false,.slice none 0 0,.slice none 0 0],.bool false]) (by simp[results,Tryz.results155,go_sem,c0,c1,c2]) rfl ⟨false,none,0,0,none,0,0,by rw[hsm],hfin,fun h=>by rw[hsm] at h;cases h⟩
 ·have t1:decide (256<(trimN xs n:Int))=true:=by simp;omega
  go_wp2
  refine bodyPost_ret (v:=.tuple #[.agg #[.bool false,.slice none 0 0,.slice none 0 0],.bool false]) (by simp[results,Tryz.results155,go_sem,c0,c1,c2]) rfl ⟨false,none,0,0,none,0,0,by rw[hsm],hfin,fun h=>by rw[hsm] at h;cases h⟩
end
section
open Go.Eng (Kept KW KeptB wp_region_kw kw_call)
set_option maxHeartbeats 4000000 in
set_option maxRecDepth 100000 in
theorem read_pos{w:World}{v:Value}{neg:Bool}{N D:Nat}(h:Rt w v neg N D)(hN:N<pwr 2 8192)(hD:D<pwr 2 8192)(hD0:0<D)(hT:Laid w):
 Calls Tryz.prog 155 #[v] w (RetRead neg N D w):=by
 have hsm:small N D=(fits32 (rN N D)&&fits32 (rD N D)):=by unfold small;simp[hN,hD]
 have HSM:=Lib.hid hsm;clear hsm
 have h8:pwr 2 8192≤Big:=pwr_le 8192 16384 (by decide)
 have hNB:N<Big:=Nat.lt_of_lt_of_le hN h8
 have hDB:dn D<Big:=by
  unfold dn;split
  ·exact Nat.lt_of_lt_of_le (pwr_one 8192 (by decide)) h8
  ·exact Nat.lt_of_lt_of_le hD h8
 obtain⟨vn,vd,rfl,hn,hd⟩:=h
 obtain⟨a,n,cap,xs,rfl,hc1,hn1,hxl,rfl,hxw⟩:=hn
 obtain⟨a',n',cap',ys,rfl,hc2,hn2,hyl,rfl,hyw⟩:=hd
 have ht1:trimN xs n≤256:=by rw[trim_len_iff hxl,p8192];exact hN
 have ht2:trimN ys n'≤256:=by rw[trim_len_iff hyl,p8192];exact hD
 have hNn:Nt 4294967296 w (.slice a (trimN xs n) cap) (val 4294967296 xs n):=nt_of hc1 hxl hxw
 have hNd:Nt 4294967296 w (.slice a' (trimN ys n') cap') (val 4294967296 ys n'):=nt_of hc2 hyl hyw
 have hb1:=Blk3.new w (.bool neg) (.slice a n cap) (.slice a' n' cap') 24
 have hb2:=Blk3.new (w.alloc (.cells #[.bool neg,.slice a n cap,.slice a' n' cap'] 24)) (.bool false) (.slice none 0 0) (.slice none 0 0) 217
 have hk1:Kept w ((w.alloc (.cells #[.bool neg,.slice a n cap,.slice a' n' cap'] 24)).alloc (.cells #[.bool false,.slice none 0 0,.slice none 0 0] 217)):=((Kept.refl _).alloc _).alloc _
 have hb1':=hb1.kept ((Kept.refl _).alloc (.cells #[.bool false,.slice none 0 0,.slice none 0 0] 217))
 clear hb1
 have esz:(w.alloc (.cells #[.bool neg,.slice a n cap,.slice a' n' cap'] 24)).heap.size=w.heap.size+1:=by simp[go_sem]
 rw[esz] at hb2
 clear esz
 have ho1:=fun(w':World)(k:Kept w w')=>of_raw hc1 hn1 (hxw.kept k)
 have ho2:=fun(w':World)(k:Kept w w')=>of_raw hc2 hn2 (hyw.kept k)
 generalize hE1:val 4294967296 xs n=N at*
 generalize hE2:val 4294967296 ys n'=D at*
 clear hxl hyl hxw hyw hE1 hE2
 have t1:decide (256<(trimN xs n:Int))=false:=by simp;omega
 have t2:decide (256<(trimN ys n':Int))=false:=by simp;omega
 generalize trimN xs n=tn at*
 generalize trimN ys n'=td at*
 go_enter Tryz.func155,Tryz.ntmps155
 go_wp2_with fail
 generalize (w.alloc (.cells #[.bool neg,.slice a n cap,.slice a' n' cap'] 24)).alloc (.cells #[.bool false,.slice none 0 0,.slice none 0 0] 217)=w1 at*
 generalize hbE:w.heap.size=b0 at hb2 hb1'⊢
 have HBE:=Lib.hid hbE;clear hbE
 obtain⟨p0,p1,p2⟩:=hb1'.all
 refine wp_region_kw w1 (Kept.refl _) (by kernel_rfl) (by kernel_rfl) ?_
 repeat (go_big_quiet_step (first|(go_at_call_of 248 (Value.slice a n cap);exact kw_call (ho1 _ (hk1.trans (KW.kept _))))|(go_at_call 248;exact kw_call (ho2 _ (hk1.trans (KW.kept _))))))
 refine wpQuiet_nil ?_
 rintro _ ⟨k2,rfl⟩
 clear p0 p1 p2 ho1 ho2
 have hk2:=k2.kept
 generalize k2.w=w2 at*
 have hkw2:=hk1.trans hk2
 have hN2:=hNn.kept hkw2
 have hD2:=hNd.kept hkw2
 obtain⟨c0,_,_,_,_,_⟩:=(hb1'.kept hk2).facts
 have hzf:=zero_false hD2 hD0
 have edn:dn D=D:=by unfold dn;rw[if_neg (by omega)]
 rw[←edn] at hD2
 have HEDN:=Lib.hid edn;clear edn
 go_wp2_with(go_at_call 192;refine hzf.mono ?_;rintro e w' ⟨rfl,rfl⟩)
 have hred:=reduce_calls neg hN2 hD2 hNB hDB (by rw[HEDN.out];exact hD0) (hT.kept hkw2)
 go_wp2_with fail
 refine hred.mono ?_
 rintro e w4 ⟨vf,rfl,hfr,hk4⟩
 have hfr0:=hfr
 obtain⟨xn,xd,rfl,hxn,hxd⟩:=hfr
 obtain⟨an,nn,cn,rfl⟩:=hxn.shape
 obtain⟨ad,nd,cd,rfl⟩:=hxd.shape
 have hkw4:=hkw2.trans hk4
 have hbR:=(hb2.kept hk2).kept hk4
 go_wp2_with fail
 have hbF:=Blk3.new w4 (.bool (neg&&decide (0<N))) (.slice an nn cn) (.slice ad nd cd) 217
 have hkF:Kept w4 (w4.alloc (.cells #[.bool (neg&&decide (0<N)),.slice an nn cn,.slice ad nd cd] 217)):=(Kept.refl _).alloc _
 have hneb:b0+1≠w4.heap.size:=Nat.ne_of_lt (Array.getElem?_eq_some_iff.1 hbR).1
 have hbR1:=hbR.kept hkF
 have hfr1:=hfr0.kept hkF
 have hkw5:=hkw4.trans hkF
 generalize w4.alloc (.cells #[.bool (neg&&decide (0<N)),.slice an nn cn,.slice ad nd cd] 217)=W5 at*
 generalize w4.heap.size=bf at*
 have hall:∀w',Kept W5 w'→w'.cell? ⟨bf,0,none⟩=some (.bool (neg&&decide (0<N)))∧w'.cell? ⟨bf,1,none⟩=some (.slice an nn cn)∧w'.cell? ⟨bf,2,none⟩=some (.slice ad nd cd):=
  fun w' k=>⟨(hbF.kept k).facts.1,(hbF.kept k).facts.2.1,(hbF.kept k).facts.2.2.1⟩
 have HALL:=Lib.hid hall;clear hall
 generalize hpE:(neg&&decide (0<N))=p at*
 have HPE:=Lib.hid hpE;clear hpE
 go_region_held3 (fun w'=>w'.cell? ⟨bf,0,none⟩=some (.bool p)∧w'.cell? ⟨bf,1,none⟩=some (.slice an nn cn)∧w'.cell? ⟨bf,2,none⟩=some (.slice ad nd cd))
  (first|exact HALL.out _ (Kept.refl _).drew|exact HALL.out _ ‹Kept W5 _›|go_keep)
  (first|(go_at_call 249;refine(fits_calls (hfr1.kept (Kept.refl W5).drew)).mono ?_;rintro e w6 ⟨rfl,hk6⟩;have hS6:Kept W5 w6:=(Kept.refl W5).drew.trans hk6;obtain⟨d0,d1,d2,g0,g1,g2⟩:=(hbR1.kept hS6).facts))
 have hkb:=KeptB.store3 w6 (b0+1) (.bool p) (.slice an nn cn) (.slice ad nd cd)
 have hfrE:=hfr1.kept hS6
 go_wp2
 refine bodyPost_ret (v:=.tuple #[.agg #[.bool p,.slice an nn cn,.slice ad nd cd],.bool (small N D)]) (by rw[HSM.out];simp[results,Tryz.results155,go_sem,d0,d1,d2,rN,rD]) rfl ⟨p,an,nn,cn,ad,nd,cd,rfl,(hkw5.trans hS6).but hkb (by have:=HBE.out;omega),fun _=> ?_⟩
 rw[HPE.out]
 obtain⟨yn,yd,ye,hyn,hyd⟩:=hfrE
 cases ye
 exact⟨_,_,rfl,hyn.keptB hkb (hbR1.kept hS6).noWords,hyd.keptB hkb (hbR1.kept hS6).noWords⟩
set_option maxHeartbeats 4000000 in
set_option maxRecDepth 100000 in
theorem read_zero{w:World}{v:Value}{neg:Bool}{N D:Nat}(h:Rt w v neg N D)(hN:N<pwr 2 8192)(hD:D<pwr 2 8192)(hD0:D=0)(hT:Laid w):
 Calls Tryz.prog 155 #[v] w (RetRead neg N D w):=by
 have hsm:small N D=(fits32 (rN N D)&&fits32 (rD N D)):=by unfold small;simp[hN,hD]
 have HSM:=Lib.hid hsm;clear hsm
 have HD0:=Lib.hid hD0;clear hD0
 have h8:pwr 2 8192≤Big:=pwr_le 8192 16384 (by decide)
 have hNB:N<Big:=Nat.lt_of_lt_of_le hN h8
 have hDB:dn D<Big:=by
  unfold dn;split
  ·exact Nat.lt_of_lt_of_le (pwr_one 8192 (by decide)) h8
  ·exact Nat.lt_of_lt_of_le hD h8
 obtain⟨vn,vd,rfl,hn,hd⟩:=h
 obtain⟨a,n,cap,xs,rfl,hc1,hn1,hxl,rfl,hxw⟩:=hn
 obtain⟨a',n',cap',ys,rfl,hc2,hn2,hyl,rfl,hyw⟩:=hd
 have ht1:trimN xs n≤256:=by rw[trim_len_iff hxl,p8192];exact hN
 have ht2:trimN ys n'≤256:=by rw[trim_len_iff hyl,p8192];exact hD
 have hNn:Nt 4294967296 w (.slice a (trimN xs n) cap) (val 4294967296 xs n):=nt_of hc1 hxl hxw
 have hNd:Nt 4294967296 w (.slice a' (trimN ys n') cap') (val 4294967296 ys n'):=nt_of hc2 hyl hyw
 have hb1:=Blk3.new w (.bool neg) (.slice a n cap) (.slice a' n' cap') 24
 have hb2:=Blk3.new (w.alloc (.cells #[.bool neg,.slice a n cap,.slice a' n' cap'] 24)) (.bool false) (.slice none 0 0) (.slice none 0 0) 217
 have hk1:Kept w ((w.alloc (.cells #[.bool neg,.slice a n cap,.slice a' n' cap'] 24)).alloc (.cells #[.bool false,.slice none 0 0,.slice none 0 0] 217)):=((Kept.refl _).alloc _).alloc _
 have hb1':=hb1.kept ((Kept.refl _).alloc (.cells #[.bool false,.slice none 0 0,.slice none 0 0] 217))
 clear hb1
 have esz:(w.alloc (.cells #[.bool neg,.slice a n cap,.slice a' n' cap'] 24)).heap.size=w.heap.size+1:=by simp[go_sem]
 rw[esz] at hb2
 clear esz
 have ho1:=fun(w':World)(k:Kept w w')=>of_raw hc1 hn1 (hxw.kept k)
 have ho2:=fun(w':World)(k:Kept w w')=>of_raw hc2 hn2 (hyw.kept k)
 generalize hE1:val 4294967296 xs n=N at*
 generalize hE2:val 4294967296 ys n'=D at*
 clear hxl hyl hxw hyw hE1 hE2
 have t1:decide (256<(trimN xs n:Int))=false:=by simp;omega
 have t2:decide (256<(trimN ys n':Int))=false:=by simp;omega
 generalize trimN xs n=tn at*
 generalize trimN ys n'=td at*
 go_enter Tryz.func155,Tryz.ntmps155
 go_wp2_with fail
 generalize (w.alloc (.cells #[.bool neg,.slice a n cap,.slice a' n' cap'] 24)).alloc (.cells #[.bool false,.slice none 0 0,.slice none 0 0] 217)=w1 at*
 generalize hbE:w.heap.size=b0 at hb2 hb1'⊢
 have HBE:=Lib.hid hbE;clear hbE
 obtain⟨p0,p1,p2⟩:=hb1'.all
 refine wp_region_kw w1 (Kept.refl _) (by kernel_rfl) (by kernel_rfl) ?_
 repeat (go_big_quiet_step (first|(go_at_call_of 248 (Value.slice a n cap);exact kw_call (ho1 _ (hk1.trans (KW.kept _))))|(go_at_call 248;exact kw_call (ho2 _ (hk1.trans (KW.kept _))))))
 refine wpQuiet_nil ?_
 rintro _ ⟨k2,rfl⟩
 clear p0 p1 p2 ho1 ho2
 have hk2:=k2.kept
 generalize k2.w=w2 at*
 have hkw2:=hk1.trans hk2
 have hN2:=hNn.kept hkw2
 have hD2:=hNd.kept hkw2
 obtain⟨c0,_,_,_,_,_⟩:=(hb1'.kept hk2).facts
 have hD2z:Nt 4294967296 w2 (.slice a' td cap') 0:=by rw[←HD0.out];exact hD2
 have hzt:=zero_true hD2z
 have hsm1:=small_calls w2 1 (by decide)
 go_wp2_with(first|(go_at_call 192;refine hzt.mono ?_;rintro e w' ⟨rfl,rfl⟩)|(go_at_call 189;refine hsm1.mono ?_;rintro e w3 ⟨v3,rfl,hv3,hk3⟩;have c0':=hk3.cell c0))
 have hkw3:=hkw2.trans hk3
 have hk23:=hk2.trans hk3
 have hN3:=hN2.kept hk3
 have edn:dn D=1:=by unfold dn;rw[if_pos HD0.out]
 rw[←edn] at hv3
 have HEDN:=Lib.hid edn;clear edn
 have hred:=reduce_calls neg hN3 hv3 hNB hDB (by rw[HEDN.out];exact Nat.one_pos) (hT.kept hkw3)
 go_wp2_with fail
 refine hred.mono ?_
 rintro e w4 ⟨vf,rfl,hfr,hk4⟩
 have hfr0:=hfr
 obtain⟨xn,xd,rfl,hxn,hxd⟩:=hfr
 obtain⟨an,nn,cn,rfl⟩:=hxn.shape
 obtain⟨ad,nd,cd,rfl⟩:=hxd.shape
 have hkw4:=hkw3.trans hk4
 have hbR:=(hb2.kept hk23).kept hk4
 go_wp2_with fail
 have hbF:=Blk3.new w4 (.bool (neg&&decide (0<N))) (.slice an nn cn) (.slice ad nd cd) 217
 have hkF:Kept w4 (w4.alloc (.cells #[.bool (neg&&decide (0<N)),.slice an nn cn,.slice ad nd cd] 217)):=(Kept.refl _).alloc _
 have hneb:b0+1≠w4.heap.size:=Nat.ne_of_lt (Array.getElem?_eq_some_iff.1 hbR).1
 have hbR1:=hbR.kept hkF
 have hfr1:=hfr0.kept hkF
 have hkw5:=hkw4.trans hkF
 generalize w4.alloc (.cells #[.bool (neg&&decide (0<N)),.slice an nn cn,.slice ad nd cd] 217)=W5 at*
 generalize w4.heap.size=bf at*
 have hall:∀w',Kept W5 w'→w'.cell? ⟨bf,0,none⟩=some (.bool (neg&&decide (0<N)))∧w'.cell? ⟨bf,1,none⟩=some (.slice an nn cn)∧w'.cell? ⟨bf,2,none⟩=some (.slice ad nd cd):=
  fun w' k=>⟨(hbF.kept k).facts.1,(hbF.kept k).facts.2.1,(hbF.kept k).facts.2.2.1⟩
 have HALL:=Lib.hid hall;clear hall
 generalize hpE:(neg&&decide (0<N))=p at*
 have HPE:=Lib.hid hpE;clear hpE
 go_region_held3 (fun w'=>w'.cell? ⟨bf,0,none⟩=some (.bool p)∧w'.cell? ⟨bf,1,none⟩=some (.slice an nn cn)∧w'.cell? ⟨bf,2,none⟩=some (.slice ad nd cd))
  (first|exact HALL.out _ (Kept.refl _).drew|exact HALL.out _ ‹Kept W5 _›|go_keep)
  (first|(go_at_call 249;refine(fits_calls (hfr1.kept (Kept.refl W5).drew)).mono ?_;rintro e w6 ⟨rfl,hk6⟩;have hS6:Kept W5 w6:=(Kept.refl W5).drew.trans hk6;obtain⟨d0,d1,d2,g0,g1,g2⟩:=(hbR1.kept hS6).facts))
 have hkb:=KeptB.store3 w6 (b0+1) (.bool p) (.slice an nn cn) (.slice ad nd cd)
 have hfrE:=hfr1.kept hS6
 go_wp2
 refine bodyPost_ret (v:=.tuple #[.agg #[.bool p,.slice an nn cn,.slice ad nd cd],.bool (small N D)]) (by rw[HSM.out];simp[results,Tryz.results155,go_sem,d0,d1,d2,rN,rD]) rfl ⟨p,an,nn,cn,ad,nd,cd,rfl,(hkw5.trans hS6).but hkb (by have:=HBE.out;omega),fun _=> ?_⟩
 rw[HPE.out]
 obtain⟨yn,yd,ye,hyn,hyd⟩:=hfrE
 cases ye
 exact⟨_,_,rfl,hyn.keptB hkb (hbR1.kept hS6).noWords,hyd.keptB hkb (hbR1.kept hS6).noWords⟩
theorem read_calls{w:World}{v:Value}{neg:Bool}{N D:Nat}(h:Rt w v neg N D)(hT:Laid w):Calls Tryz.prog 155 #[v] w (RetRead neg N D w):=by
 by_cases hl:N<pwr 2 8192∧D<pwr 2 8192
 ·by_cases h0:D=0
  ·exact read_zero h hl.1 hl.2 h0 hT
  ·exact read_pos h hl.1 hl.2 (by omega) hT
 ·exact read_large h hl
end
end Go.Proofs.YtbapfnpbamnmpaaGreatDoor
