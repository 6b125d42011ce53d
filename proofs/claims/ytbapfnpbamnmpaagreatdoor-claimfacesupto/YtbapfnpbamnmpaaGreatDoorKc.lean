/- A part of the proof that ClaimFaces answers true for every input of bulk at most 1048576: conditions: the row's own. -/
import Derived.Test.YtbapfnpbamnmpaaGreatDoorKa
namespace Go.Proofs.YtbapfnpbamnmpaaGreatDoor
open Go Go.RowKit Go.Dig Go.Deep
open Go.Eng (Kept KW KeptB wp_region_kw kw_call)
section
theorem nt_raw{w:World}{a:Option Addr}{n c m:Nat}(h:Nt 4294967296 w (.slice a n c) m)(hf:fits32 m=true):Raw w (.slice a n c) m:=by
 obtain⟨a',n',cap,zs,e,h1,h2,h3,h4,h5⟩:=h
 cases e
 refine⟨a,n,c,zs,rfl,h1,?_,h2,h4,h5⟩
 have h6:m<pwr 2 2048:=of_decide_eq_true hf
 rw[←p2048,←h4] at h6
 have:=(len_le_iff h2 h3 (L:=64)).2 h6
 omega
theorem al1e{w W:World}{A:Array Value}{t:TypeId}(h:World.drew (World.alloc w (.cells A t))=W):Blk W w.heap.size A t∧Kept w W∧W.heap.size=w.heap.size+1:=by
 subst h
 obtain⟨h1,h2,h3⟩:=al1 (w:=w) (A:=A) (t:=t) rfl
 exact⟨h1.kept (Kept.refl _).drew,h2.trans (Kept.refl _).drew,h3⟩
def C3(w:World)(b:Nat)(x0 x1 x2:Value):Prop:=w.cell? ⟨b,0,none⟩=some x0∧w.cell? ⟨b,1,none⟩=some x1∧w.cell? ⟨b,2,none⟩=some x2
theorem Blk.c3{w:World}{b:Nat}{t:TypeId}{x0 x1 x2:Value}(h:Blk w b #[x0,x1,x2] t):C3 w b x0 x1 x2:=by
 obtain⟨h0,h1,h2,-⟩:=h.facts3
 exact⟨h0,h1,h2⟩
theorem Blk.all3{w:World}{b:Nat}{t:TypeId}{y0 y1 y2:Value}(h:Blk w b #[y0,y1,y2] t)(x0 x1 x2:Value):
 Blk (((w.setCell ⟨b,0,none⟩ x0).setCell ⟨b,1,none⟩ x1).setCell ⟨b,2,none⟩ x2) b #[x0,x1,x2] t:=by
 have h9:=((h.set 0 x0).set 1 x1).set 2 x2
 simpa using h9
theorem st3_step{K:Act→World→Prop}{act:Act}{w:World}{g:Nat}{t:TypeId}{y0 y1 y2 x0 x1 x2:Value}(hb:Blk w g #[y0,y1,y2] t)(h:∀w',KeptB w w' g→Blk w' g #[x0,x1,x2] t→K act w'):
 K act (((w.setCell ⟨g,0,none⟩ x0).setCell ⟨g,1,none⟩ x1).setCell ⟨g,2,none⟩ x2):=h _ (KeptB.store3 ..) (hb.all3 ..)
set_option maxHeartbeats 4000000
set_option maxRecDepth 100000
theorem give_calls{w:World}{v:Value}{neg:Bool}{n d:Nat}(h:Fr w v neg n d)(hn:fits32 n=true)(hd:fits32 d=true):
 Calls Tryz.prog 191 #[v] w fun e w'=>∃a1 n1 c1 a2 n2 c2,e= .returned (.tuple #[.agg #[.bool neg,.slice a1 n1 c1,.slice a2 n2 c2],.int .i64 0])∧Rt (onlyW w' (ab w.heap.size)) (.agg #[.bool neg,.slice a1 n1 c1,.slice a2 n2 c2]) neg n (if d=1 then 0 else d)∧Kept w w':=by
 have hft:=fun(w':World)(k:Kept w w')=>fits_calls (h.kept k)
 rw[hn,hd] at hft
 obtain⟨vn,vd,rfl,hvn,hvd⟩:=h
 obtain⟨p1,p2,p3,rfl,-⟩:=hvn.shape
 obtain⟨q1,q2,q3,rfl,-⟩:=hvd.shape
 have hcn:=fun(w':World)(k:Kept w w')=>clone_fresh (nt_raw (hvn.kept k) hn)
 have hcd:=fun(w':World)(k:Kept w w')=>clone_fresh (nt_raw (hvd.kept k) hd)
 have hon:=fun(w':World)(k:Kept w w')=>one_calls (hvd.kept k)
 clear hvn hvd
 generalize hdd:(if d=1 then 0 else d)=dd
 have HDD:=Lib.hid hdd
 clear hdd
 go_enter Tryz.func191,Tryz.ntmps191
 go_wp2_with(first|(go_at_call 249;refine(hft _ (((Kept.refl w).alloc _).alloc _)).mono ?_;rintro e w1 ⟨rfl,hk1⟩))
 obtain⟨hA,hB,hk0,hs0⟩:=al2k hk1
 have HS:Hid (∀w',Kept w1 w'→w'.cell? ⟨w.heap.size,0,none⟩=some (.bool neg)∧w'.cell? ⟨w.heap.size,1,none⟩=some (.slice p1 p2 p3)∧w'.cell? ⟨w.heap.size,2,none⟩=some (.slice q1 q2 q3)):=Lib.hid fun w' k=>(hA.kept k).c3
 have HN0:=Lib.hid hs0
 refine wp_region_held_drew (S:=fun w'=>w'.cell? ⟨w.heap.size,0,none⟩=some (.bool neg)∧w'.cell? ⟨w.heap.size,1,none⟩=some (.slice p1 p2 p3)∧w'.cell? ⟨w.heap.size,2,none⟩=some (.slice q1 q2 q3)) (by kernel_rfl) (HS.out _ (Kept.refl w1).drew) (fun hHeld=> ?_)
 refine tk 0 ?_
 try simp only[Act.put,List.setIfInBounds_toArray]
 refine tk 1 ?_
 try simp only[Act.put]
 refine tk 2 ?_
 try simp only[Act.put]
 refine tk 3 ?_
 try simp only[Act.put]
 refine rd2 4 6 (fun K hK=> ?ga) (fun K hK=> ?gb)
 case' ga=>
  go_simp
  go_at_call 233
  refine(hcn _ hk0.drew).mono ?_
  rintro e wb ⟨b1,m1,d1,rfl,hr1,hkb⟩
  have hkb1:Kept w1 wb:=(Kept.refl w1).drew.trans hkb
  refine hK.out _ _ (HS.out _ hkb1) (fun hHeld=> ?_)
  clear hK K
  try simp only[Act.put,List.setIfInBounds_toArray,List.set_cons_zero,List.set_cons_succ]
  refine tk 5 ?_
  try simp only[Act.put]
  refine rd1 6 fun K hK=> ?_
  go_simp
  refine hK.out _ _ (HS.out _ (hkb1.alloc _)) (fun hHeld=> ?_)
  clear hK K
  try simp only[Act.put,List.setIfInBounds_toArray,List.set_cons_zero,List.set_cons_succ]
  generalize hWx:World.alloc wb _=wx
  obtain⟨h4,hkx,hsx⟩:=al1 hWx
  have hszb:=hkb1.size
  have hrx:Raw (onlyW wx (fun b=>decide (w.heap.size+2≤b)&&(b != wb.heap.size))) (.slice b1 m1 d1) n:=hr1.sub (only_move fun b hb hs=>⟨by
   have h0:_≤b:=of_decide_eq_true hs
   have h1:w1.heap.size≤b:=h0
   simp;omega,hkx.old b hb⟩)
  have hkx1:Kept w1 wx:=hkb1.trans hkx
  generalize hb4:wb.heap.size=b4 at h4 hrx⊢
 case' gb=>
  go_simp
  refine hK.out _ _ (HS.out _ ((Kept.refl w1).alloc _).drew) (fun hHeld=> ?_)
  clear hK K
  try simp only[Act.put,List.setIfInBounds_toArray,List.set_cons_zero,List.set_cons_succ]
  generalize hWx:World.drew (World.alloc w1 _)=wy
  obtain⟨h4,hkx,hsx⟩:=al1e hWx
  refine rd1 4 fun K hK=> ?_
  go_simp
  go_at_call 233
  refine(hcn _ (hk0.trans hkx)).mono ?_
  rintro e wx ⟨b1,m1,d1,rfl,hr1,hkb⟩
  have hkx1:Kept w1 wx:=hkx.trans hkb
  have hszb:=hkb.size
  replace h4:=h4.kept hkb
  have hrx:Raw (onlyW wx (fun b=>decide (w.heap.size+2≤b)&&(b != w1.heap.size))) (.slice b1 m1 d1) n:=hr1.sub (only_move fun b hb hs=>⟨by
   have h0:_≤b:=of_decide_eq_true hs
   have h1:wy.heap.size≤b:=h0
   simp;omega,rfl⟩)
  refine hK.out _ _ (HS.out _ hkx1) (fun hHeld=> ?_)
  clear hK K
  try simp only[Act.put,List.setIfInBounds_toArray,List.set_cons_zero,List.set_cons_succ]
  refine tk 5 ?_
  try simp only[Act.put]
  generalize hb4:w1.heap.size=b4 at h4 hrx⊢
 all_goals
  have hb4ge:w1.heap.size≤b4:=by omega
  have hne:b4≠w.heap.size+1:=by omega
  have hne':w.heap.size+1≠b4:=by omega
  refine rd1 7 fun K hK=> ?_
  obtain⟨l0,l1,l2,j0,j1,j2⟩:=h4.facts3
  go_simp
  refine st3_step (K:=K) h4 fun wd kd hn4=> ?_
  clear l0 l1 l2 j0 j1 j2
  have hkd1:Kept w1 wd:=hkx1.but kd (by omega)
  have hrd:Raw (onlyW wd (fun b=>decide (w.heap.size+2≤b)&&(b != b4))) (.slice b1 m1 d1) n:=hrx.sub (only_move fun b hb hs=>⟨hs,kd.old b hb (by
   simp at hs;exact hs.2)⟩)
  refine hK.out _ _ (HS.out _ hkd1) (fun hHeld=> ?_)
  clear hK K
  try simp only[Act.put,List.setIfInBounds_toArray,List.set_cons_zero,List.set_cons_succ]
  refine wpAnyH_done (by kernel_rfl) ?_ _
  have hAd:=hA.kept hkd1
  have hBd:=hB.kept hkd1
  have hkw:=hk0.trans hkd1
  obtain⟨e0,e1,e2,-⟩:=hAd.facts3
  have ho:=hon _ hkw
  by_cases hd1:d=1
  ·rw[decide_eq_true hd1] at ho
   obtain⟨i0,i1,i2,-⟩:=hn4.facts3
   obtain⟨k0,k1,k2,l0,l1,l2⟩:=hBd.facts3
   go_wp2_with(first|(go_at_call 222;refine ho.mono ?_;rintro e we ⟨rfl,rfl⟩))
   have hend:=KeptB.store3 wd (w.heap.size+1) (.bool neg) (.slice b1 m1 d1) (.slice none 0 0)
   have key:∀W3,KeptB wd W3 (w.heap.size+1)→Rt (onlyW W3 (ab w.heap.size)) (.agg #[.bool neg,.slice b1 m1 d1,.slice none 0 0]) neg n dd∧Kept w W3:=by
    intro W3 hk
    rw[←HDD.out,if_pos hd1]
    refine⟨⟨_,_,rfl,hrd.sub (only_move fun b hb hs=>⟨?_,hk.old b hb ?_⟩),⟨none,0,0,fun _=>0,rfl,Nat.le_refl _,by omega,fun i h=>absurd h (Nat.not_lt_zero i),rfl,fun i h=>absurd h (Nat.not_lt_zero i)⟩⟩,hkw.but hk (by omega)⟩
    ·simp[ab] at hs⊢;omega
    ·simp at hs;omega
   exact bodyPost_ret (v:=.tuple #[.agg #[.bool neg,.slice b1 m1 d1,.slice none 0 0],.int .i64 0]) (by simp[results,Tryz.results191,go_sem,k0,k1,k2]) rfl ⟨_,_,_,_,_,_,rfl,(key _ hend).1,(key _ hend).2⟩
  ·rw[decide_eq_false hd1] at ho
   obtain⟨i0,i1,i2,f0,f1,f2⟩:=hn4.facts3
   go_wp2_with(first
    |(go_at_call 222;refine ho.mono ?_;rintro e we ⟨rfl,rfl⟩)
    |(go_at_call 233;refine(hcd _ hkw).mono ?_;rintro e we ⟨b2,m2,d2,rfl,hr2,hke⟩
      have hn5:=hn4.kept hke
      have hBe:=hBd.kept hke
      clear i0 i1 i2 f0 f1 f2 e0 e1 e2
      obtain⟨i0,i1,i2,f0,f1,f2⟩:=hn5.facts3
      obtain⟨k0,k1,k2,l0,l1,l2⟩:=hBe.facts3))
   have hend:=KeptB.store3 (we.setCell ⟨b4,2,none⟩ (.slice b2 m2 d2)) (w.heap.size+1) (.bool neg) (.slice b1 m1 d1) (.slice b2 m2 d2)
   have hmid:KeptB we (we.setCell ⟨b4,2,none⟩ (.slice b2 m2 d2)) b4:=(KeptB.refl _ _).setCell rfl _
   have hsd:=hkd1.size
   have key:∀W3,KeptB (we.setCell ⟨b4,2,none⟩ (.slice b2 m2 d2)) W3 (w.heap.size+1)→Rt (onlyW W3 (ab w.heap.size)) (.agg #[.bool neg,.slice b1 m1 d1,.slice b2 m2 d2]) neg n dd∧Kept w W3:=by
    intro W3 hk
    rw[←HDD.out,if_neg hd1]
    have hsz:=hke.size
    have hszm:=hmid.size
    refine⟨⟨_,_,rfl,hrd.sub (only_move fun b hb hs=>⟨?_,?_⟩),hr2.sub (only_move fun b hb hs=>⟨?_,?_⟩)⟩,((hkw.trans hke).but hmid (by omega)).but hk (by omega)⟩
    ·simp[ab] at hs⊢;omega
    ·simp at hs
     exact((hk.old b (by omega) (by omega)).trans (hmid.old b (by omega) hs.2)).trans (hke.old b hb)
    ·have h0:_≤b:=of_decide_eq_true hs
     have h1:wd.heap.size≤b:=h0
     simp[ab];omega
    ·have h0:_≤b:=of_decide_eq_true hs
     have h1:wd.heap.size≤b:=h0
     have h2:=hn4.lt
     exact(hk.old b (by omega) (by omega)).trans (hmid.old b (by omega) (by omega))
   exact bodyPost_ret (v:=.tuple #[.agg #[.bool neg,.slice b1 m1 d1,.slice b2 m2 d2],.int .i64 0]) (by simp[results,Tryz.results191,go_sem,k0,k1,k2]) rfl ⟨_,_,_,_,_,_,rfl,(key _ hend).1,(key _ hend).2⟩
end
section
set_option maxHeartbeats 4000000
set_option maxRecDepth 100000
theorem canon1_calls(w:World)(p:Bool)(a:Option Addr)(n c:Nat)(a':Option Addr)(n' c':Nat):
 Calls Tryz.prog 379 #[.agg #[.bool p,.slice a n c,.slice a' n' c']] w fun e w'=>e= .returned (.agg #[.bool p,.slice a n c,.slice a' n' c'])∧Kept w w':=by
 go_enter Tryz.func379,Tryz.ntmps379
 go_wp2
 generalize hW:World.alloc (World.alloc w _) _=W
 obtain⟨-,hB,hk,-⟩:=al2 hW
 obtain⟨k0,k1,k2,-⟩:=hB.facts3
 exact bodyPost_ret (v:=.agg #[.bool p,.slice a n c,.slice a' n' c']) (by simp[results,Tryz.results379,go_sem,k0,k1,k2]) rfl ⟨rfl,hk⟩
theorem canon_one{w:World}{v:Value}{s:Bool}{N D:Nat}(h:Rt w v s N D)(hs:small N D=true)(hT:Laid w):
 Calls Tryz.prog 353 #[v,.func (.func 379) #[] #[]] w fun e w'=>∃a1 n1 c1 a2 n2 c2,e= .returned (.tuple #[.agg #[.bool (s&&decide (0<N)),.slice a1 n1 c1,.slice a2 n2 c2],.int .i64 0])∧Rt (onlyW w' (ab w.heap.size)) (.agg #[.bool (s&&decide (0<N)),.slice a1 n1 c1,.slice a2 n2 c2]) (s&&decide (0<N)) (rN N D) (cD N D)∧Kept w w':=by
 have hr:=fun(w':World)(k:Kept w w')=>read_calls (h.kept k) (hT.kept k)
 unfold RetRead at hr
 rw[hs] at hr
 obtain⟨vn,vd,rfl,hn,hd⟩:=h
 obtain⟨p1,p2,p3,zs,rfl,-⟩:=hn
 obtain⟨q1,q2,q3,zs',rfl,-⟩:=hd
 have hf:fits32 (rN N D)=true∧fits32 (rD N D)=true:=by
  unfold small at hs
  simp only[Bool.and_eq_true] at hs
  exact⟨hs.1.2,hs.2⟩
 have hgv:=fun(w':World)(v:Value)(q:Fr w' v (s&&decide (0<N)) (rN N D) (rD N D))=>give_calls q hf.1 hf.2
 have e1:(if rD N D=1 then 0 else rD N D)=cD N D:=rfl
 rw[e1] at hgv
 generalize (s&&decide (0<N))=sg at*
 generalize rN N D=rn at*
 generalize rD N D=rd at*
 generalize cD N D=cd at*
 clear hT hs hf e1
 go_enter Tryz.func353,Tryz.ntmps353
 go_wp2_with(first
  |(go_at_call 155;refine(hr _ (((Kept.refl w).alloc _).alloc _)).mono ?_;rintro e w1 ⟨p,a,n,c,a',n',c',rfl,hk1,hfr⟩
    obtain⟨hA,hB,hk0,hs0⟩:=al2k hk1
    have HF:=Lib.hid (hfr rfl)
    obtain rfl:p=sg:=by
     obtain⟨_,_,e,-⟩:=hfr rfl
     have e2:=Value.agg.inj e
     simp only[Array.mk.injEq,List.cons.injEq,Value.bool.injEq] at e2
     exact e2.1
    clear hfr)
  |(go_at_call 379;refine(canon1_calls _ _ _ _ _ _ _ _).mono ?_;rintro e w2 ⟨rfl,hk2⟩
    have hk12:Kept w1 w2:=((Kept.refl w1).alloc _).trans hk2)
  |(go_at_call 191;refine(hgv _ _ (HF.out.kept hk12)).mono ?_;rintro e w3 ⟨a1,n1,c1,a2,n2,c2,rfl,hr3,hk3⟩
    have hk13:=hk12.trans hk3
    obtain⟨k0,k1,k2,l0,l1,l2⟩:=(hB.kept hk13).facts3))
 have hend:=KeptB.store3 w3 (w.heap.size+1) (.bool p) (.slice a1 n1 c1) (.slice a2 n2 c2)
 have hs2:=hk12.size
 have key:∀W3,KeptB w3 W3 (w.heap.size+1)→Rt (onlyW W3 (ab w.heap.size)) (.agg #[.bool p,.slice a1 n1 c1,.slice a2 n2 c2]) p rn cd∧Kept w W3:=fun W3 hk=>
  ⟨hr3.sub (only_move fun b hb hs=>⟨by
    have h0:_≤b:=of_decide_eq_true hs
    have h1:w2.heap.size≤b:=h0
    simp[ab];omega,hk.old b hb (by
    have h0:_≤b:=of_decide_eq_true hs
    have h1:w2.heap.size≤b:=h0
    omega)⟩),(hk0.trans hk13).but hk (by omega)⟩
 exact bodyPost_ret (v:=.tuple #[.agg #[.bool p,.slice a1 n1 c1,.slice a2 n2 c2],.int .i64 0]) (by simp[results,Tryz.results353,go_sem,k0,k1,k2]) rfl ⟨_,_,_,_,_,_,rfl,(key _ hend).1,(key _ hend).2⟩
theorem canon_calls{w:World}{v:Value}{s:Bool}{N D:Nat}(h:Rt w v s N D)(hs:small N D=true)(hT:Laid w):
 Calls Tryz.prog 327 #[v] w fun e w'=>∃a1 n1 c1 a2 n2 c2,e= .returned (.tuple #[.agg #[.bool (s&&decide (0<N)),.slice a1 n1 c1,.slice a2 n2 c2],.int .i64 0])∧Rt (onlyW w' (ab w.heap.size)) (.agg #[.bool (s&&decide (0<N)),.slice a1 n1 c1,.slice a2 n2 c2]) (s&&decide (0<N)) (rN N D) (cD N D)∧Kept w w':=by
 have hc:=fun(w':World)(k:Kept w w')=>canon_one (h.kept k) hs (hT.kept k)
 obtain⟨vn,vd,rfl,hn,hd⟩:=h
 obtain⟨p1,p2,p3,zs,rfl,-⟩:=hn
 obtain⟨q1,q2,q3,zs',rfl,-⟩:=hd
 generalize (s&&decide (0<N))=sg at*
 generalize rN N D=rn at*
 generalize cD N D=cd at*
 clear hT hs
 go_enter Tryz.func327,Tryz.ntmps327
 go_wp2_with(first
  |(go_at_call 353;refine(hc _ (((Kept.refl w).alloc _).alloc _)).mono ?_;rintro e w3 ⟨a1,n1,c1,a2,n2,c2,rfl,hr3,hk3⟩
    obtain⟨-,hB,hk0,hs0⟩:=al2k hk3
    obtain⟨k0,k1,k2,l0,l1,l2⟩:=hB.facts3))
 have hend:=KeptB.store3 w3 (w.heap.size+1) (.bool sg) (.slice a1 n1 c1) (.slice a2 n2 c2)
 have key:∀W3,KeptB w3 W3 (w.heap.size+1)→Rt (onlyW W3 (ab w.heap.size)) (.agg #[.bool sg,.slice a1 n1 c1,.slice a2 n2 c2]) sg rn cd∧Kept w W3:=fun W3 hk=>
  ⟨hr3.sub (only_move fun b hb hs=>⟨by
    have h0:_≤b:=of_decide_eq_true hs
    simp[go_sem] at h0
    simp[ab];omega,hk.old b hb (by
    have h0:_≤b:=of_decide_eq_true hs
    simp[go_sem] at h0
    omega)⟩),hk0.but hk (by omega)⟩
 exact bodyPost_ret (v:=.tuple #[.agg #[.bool sg,.slice a1 n1 c1,.slice a2 n2 c2],.int .i64 0]) (by simp[results,Tryz.results327,go_sem,k0,k1,k2]) rfl ⟨_,_,_,_,_,_,rfl,(key _ hend).1,(key _ hend).2⟩
end
section
def CloneE(f:Nat):Prop:=∀{w:World}{v:Value}{t:Tree},Ex w f v t→wellT t→Laid w→
    Calls Tryz.prog 251 #[v] w fun e w'=>∃v',e= .returned v'∧Ex (onlyW w' (ab w.heap.size)) f v' (canT t)∧Kept w w'
theorem kb_kept{w w':World}{g:Nat}(k:KeptB w w' g)(h:w.heap.size≤g):Kept w w':=(Kept.refl w).but k h
theorem set3{w W:World}{g:Nat}{e:TypeId}{y0 y1 y2 y3 y4 y5 y6 x2 x3 x4:Value}(hb:Blk w g #[y0,y1,y2,y3,y4,y5,y6] e)
 (h:((w.setCell ⟨g,2,none⟩ x2).setCell ⟨g,3,none⟩ x3).setCell ⟨g,4,none⟩ x4=W):KeptB w W g∧Blk W g #[y0,y1,x2,x3,x4,y5,y6] e:=by
 subst h
 have h9:=((hb.set 2 x2).set 3 x3).set 4 x4
 exact⟨(((KeptB.refl w g).setCell rfl _).setCell rfl _).setCell rfl _,by simpa using h9⟩
set_option maxHeartbeats 16000000
set_option maxRecDepth 100000
theorem clone_step{f:Nat}(ih:CloneE f):CloneE (f+1):=by
 intro w v t h hN hT
 obtain⟨op,arg,s,N,D,name,kids⟩:=t
 obtain⟨x1,x2,x3,x4,x5,x6,a,cap,rfl,hcp,hn,hr⟩:=h.shape
 have hn3:kids.length≤3:=node_kids hN.1
 have HKID:=Lib.hid (fun(i:Nat)(hi:i<kids.length)=>h.kid hi)
 have HIH:=Lib.hid (fun(i:Nat)(hi:i<kids.length)(w':World)(k:Kept w w')(u:Value)(q:Ex w' f u kids[i])=>ih q (wellTs_get hN.2 i hi) (hT.kept k))
 obtain⟨N',hN'⟩:∃N',N'=(if op=1 then rN N D else 0):=⟨_,rfl⟩
 obtain⟨D',hD'⟩:∃D',D'=(if op=1 then cD N D else 0):=⟨_,rfl⟩
 have HCAN:Hid (canT (.node op arg s N D name kids)= .node op arg false N' D' name (canTs kids)):=Lib.hid (by rw[canT,hN',hD'])
 rcases Bool.eq_false_or_eq_true (op==1) with t1|t1
 case' inl=>
  have h1:op=1:=by simpa using t1
  obtain⟨hsm,-⟩:=node_num hN.1 h1
  have hsg:(s&&decide (0<N))=false:=by
   have h2:=hN.1
   unfold nodeOk at h2
   simp only[Bool.and_eq_true,if_pos h1] at h2
   have h3:=h2.2.1.2
   rcases Bool.eq_false_or_eq_true (s&&decide (0<N)) with h7|h7<;>rw[h7] at h3⊢
   cases h3
  have hcn:=fun(w':World)(k:Kept w w')=>canon_calls (hr.kept k) hsm (hT.kept k)
  rw[hsg] at hcn
  rw[if_pos h1] at hN' hD'
  rw[←hN',←hD'] at hcn
  clear h hN hT hr hsm hsg h1
  have hA0:=Blk.new w #[.int .i64 op,.int .i64 arg,.bool s,.slice x1 x2 x3,.slice x4 x5 x6,.string name,.slice a kids.length cap] 27
  go_enter Tryz.func251,Tryz.ntmps251
  go_wp2_with(first
   |(go_at_call 327;refine(hcn _ (((Kept.refl w).alloc _).alloc _)).mono ?_;rintro e w3 ⟨y1,y2,y3,y4,y5,y6,rfl,hr3,hk3⟩
     obtain⟨hA3,hB3,hk03,hs03⟩:=al2k hk3
     obtain⟨e0,e1,e2,e3,e4,e5,e6,l0,l1,l2,l3,l4,l5,l6⟩:=hA3.facts7))
  clear e0 e1 e2 e3 e4 e5 e6 l0 l1 l2 l3 l4 l5 l6
  generalize hW0:World.setCell (World.setCell (World.setCell w3 _ _) _ _) _ _=W0
  obtain⟨kb0,hA⟩:=set3 hA3 hW0
  have hB:=hB3.keptB kb0 (by omega)
  have hkw0:Kept w W0:=hk03.but kb0 (Nat.le_refl _)
  have hs0:w.heap.size+2≤W0.heap.size:=Nat.le_trans hs03 kb0.size
  have hrt:Rt (onlyW W0 (ab (w.heap.size+2))) (.agg #[.bool false,.slice y1 y2 y3,.slice y4 y5 y6]) false N' D':=hr3.sub (only_move fun b hb hs=>⟨by
   have h0:_≤b:=of_decide_eq_true hs
   simp[go_sem] at h0
   simp[ab];omega,kb0.old b hb (by
   have h0:_≤b:=of_decide_eq_true hs
   simp[go_sem] at h0
   omega)⟩)
  clear hcn hA0 hW0 kb0 hA3 hB3 hr3 hk3 hk03 hs03
 case' inr=>
  have h1:¬op=1:=by simpa using t1
  rw[if_neg h1] at hN' hD'
  clear h hN hT hr h1
  go_enter Tryz.func251,Tryz.ntmps251
  go_wp2
  generalize hW0:World.alloc (World.alloc w _) _=W0
  obtain⟨hA,hB,hkw0,hs⟩:=al2 hW0
  have hs0:w.heap.size+2≤W0.heap.size:=Nat.le_of_eq hs.symm
  obtain⟨y1,y2,y3,y4,y5,y6,hye⟩:∃(y1:Option Addr)(y2 y3:Nat)(y4:Option Addr)(y5 y6:Nat),(y1=none∧y2=0∧y3=0)∧y4=none∧y5=0∧y6=0:=⟨_,_,_,_,_,_,⟨rfl,rfl,rfl⟩,rfl,rfl,rfl⟩
  have hrt:Rt (onlyW W0 (ab (w.heap.size+2))) (.agg #[.bool false,.slice y1 y2 y3,.slice y4 y5 y6]) false N' D':=by
   obtain⟨⟨rfl,rfl,rfl⟩,rfl,rfl,rfl⟩:=hye
   rw[hN',hD']
   exact rt_zero _
  replace hA:Blk W0 w.heap.size #[.int .i64 op,.int .i64 arg,.bool false,.slice y1 y2 y3,.slice y4 y5 y6,.string name,.slice a kids.length cap] 27:=by
   obtain⟨⟨rfl,rfl,rfl⟩,rfl,rfl,rfl⟩:=hye
   exact hA
  clear hW0 hye hs
 all_goals
  clear hN' hD'
  have HRT:=Lib.hid hrt
  clear hrt
  go_loopw [3,21] (fun v i wr=>∃(k:Nat)(a3:Option Addr)(cap3:Nat)(cs:List Value),k≤kids.length∧v= .slice a3 k cap3∧i= .int .i64 (k:Int)∧Hid (Grow W0 wr W0.heap.size 27 7 (.slice a3 k cap3) k cs (kidR f) (canTs kids))) (fun _ i _=>kids.length-(intOf i).toNat)
  case atStart=>exact⟨0,none,0,[],Nat.zero_le _,rfl,rfl,Lib.hid (Grow.start ..)⟩
  case round=>
   obtain⟨k,a3,cap3,cs,hkk,rfl,rfl,HG⟩:=hrel
   have hk0r:Kept W0 wr:=kb_kept HG.out.kb (Nat.le_refl _)
   have hkwr:=hkw0.trans hk0r
   by_cases hlt:k<kids.length
   ·obtain⟨b,off,o,g,z,u1,u2,u3,u4,u5,u6,nm,a2,n2,cap2,rfl,c0,c1,c2,c3,c4,c5,c6,hex⟩:=HKID.out k hlt
    replace c0:=hkwr.cell c0
    replace c1:=hkwr.cell c1
    replace c2:=hkwr.cell c2
    replace c3:=hkwr.cell c3
    replace c4:=hkwr.cell c4
    replace c5:=hkwr.cell c5
    replace c6:=hkwr.cell c6
    have hka:Kept wr (wr.alloc (.cells #[.int .i64 o,.int .i64 g,.bool z,.slice u1 u2 u3,.slice u4 u5 u6,.string nm,.slice a2 n2 cap2] 27)):=(Kept.refl wr).alloc _
    have hc:=HIH.out k hlt _ (hkwr.trans hka) _ (hex.kept (hkwr.trans hka))
    have HOB:=Lib.hid (fun g(hg:(Value.slice a3 k cap3).ownBlock=some g)=>World.ownsRow.lt HG.out.own g hg)
    have hszw:W0.heap.size≤wr.heap.size:=HG.out.kb.size
    have hsza:(wr.alloc (.cells #[.int .i64 o,.int .i64 g,.bool z,.slice u1 u2 u3,.slice u4 u5 u6,.string nm,.slice a2 n2 cap2] 27)).heap.size=wr.heap.size+1:=Array.size_push _
    clear hex
    go_wp2_with(first
     |(go_at_call 251;refine hc.mono ?_;rintro e w3 ⟨v3',rfl,hv3,hkn⟩
       obtain⟨o4,g4,z4,v1,v2,v3,v4,v5,v6,nm4,a4,n4,cap4,rfl⟩:=hv3.agg7
       have hk3:Kept wr w3:=hka.trans hkn
       have hsz3:=hkn.size
       have hk4:Kept w3 (w3.alloc (.cells #[.int .i64 o4,.int .i64 g4,.bool z4,.slice v1 v2 v3,.slice v4 v5 v6,.string nm4,.slice a4 n4 cap4] 27)):=(Kept.refl w3).alloc _
       have HG4:=Lib.hid (HG.out.kept (kidR_sub f) (hk3.trans hk4))
       have HN:=Lib.hid (Blk.new w3 #[.int .i64 o4,.int .i64 g4,.bool z4,.slice v1 v2 v3,.slice v4 v5 v6,.string nm4,.slice a4 n4 cap4] 27)
       have HV3:=Lib.hid (hv3.sub (only_keep hk4))
       have hle4:W0.heap.size≤(w3.alloc (.cells #[.int .i64 o4,.int .i64 g4,.bool z4,.slice v1 v2 v3,.slice v4 v5 v6,.string nm4,.slice a4 n4 cap4] 27)).heap.size:=by have:=hk4.size;omega)
     |(at_builtin;have hg:=HG4;refine wpList_append_grow (w:=(w3.alloc (.cells #[.int .i64 o4,.int .i64 g4,.bool z4,.slice v1 v2 v3,.slice v4 v5 v6,.string nm4,.slice a4 n4 cap4] 27))) rfl (.tmp 25) (.tmp 28) 25 rfl info27 Tryz.underlying25 rfl (by decide) (by decide) W0.heap.size hle4 _ k cs rfl HG4.out.own ⟨w3.heap.size,0,none⟩ 1 1 [.int .i64 o4,.int .i64 g4,.bool z4,.slice v1 v2 v3,.slice v4 v5 v6,.string nm4,.slice a4 n4 cap4] rfl rfl (blk_news HN.out) (by intro u hu;simp only[List.mem_cons,List.mem_nil_iff,or_false] at hu;rcases hu with rfl|rfl|rfl|rfl|rfl|rfl|rfl<;>rfl) (by decide) (by omega) ?_;intro v5' w5 ho hgb hor;obtain⟨a5,cap5,rfl,-,-,-⟩:=own_open ho
       have HG5:Hid (Grow W0 w5 W0.heap.size 27 7 (.slice a5 (k+1) cap5) (k+1) (cs++[.int .i64 o4,.int .i64 g4,.bool z4,.slice v1 v2 v3,.slice v4 v5 v6,.string nm4,.slice a4 n4 cap4]) (kidR f) (canTs kids)):=Lib.hid (HG4.out.append (kidR_sub f) hle4 ho hgb hor rfl (by rw[canTs_length];exact hlt) (S:=ab (wr.alloc (.cells #[.int .i64 o,.int .i64 g,.bool z,.slice u1 u2 u3,.slice u4 u5 u6,.string nm,.slice a2 n2 cap2] 27)).heap.size) (by
        have h9:=HV3.out
        have e:(canTs kids)[k]'(by rw[canTs_length];exact hlt)=canT kids[k]:=by simp only[canTs_map,List.getElem_map]
        rw[e]
        exact h9) (fun b hb=>by
        have h1:(wr.alloc (.cells #[.int .i64 o,.int .i64 g,.bool z,.slice u1 u2 u3,.slice u4 u5 u6,.string nm,.slice a2 n2 cap2] 27)).heap.size≤b:=of_decide_eq_true hb
        refine⟨by omega,fun he=> ?_⟩
        have:=(HOB.out b he.symm).2
        omega))))
    go_roundw
    case rel=>exact⟨k+1,a5,cap5,_,by omega,rfl,by go_num,HG5⟩
    case measure=>simp[intOf];omega
   ·have hk:k=kids.length:=by omega
    subst hk
    obtain⟨e0,e1,e2,e3,e4,e5,e6,l0,l1,l2,l3,l4,l5,l6⟩:=(hA.kept hk0r).facts7
    obtain⟨d0,d1,d2,d3,d4,d5,d6,m0,m1,m2,m3,m4,m5,m6⟩:=(hB.kept hk0r).facts7
    go_wp2
    have hend:=KeptB.st7 (wr.setCell ⟨w.heap.size,6,none⟩ (.slice a3 kids.length cap3)) (w.heap.size+1) (.int .i64 op) (.int .i64 arg) (.bool false) (.slice y1 y2 y3) (.slice y4 y5 y6) (.string name) (.slice a3 kids.length cap3)
    have hmid:KeptB wr (wr.setCell ⟨w.heap.size,6,none⟩ (.slice a3 kids.length cap3)) w.heap.size:=(KeptB.refl _ _).setCell rfl _
    have key:∀W3,KeptB (wr.setCell ⟨w.heap.size,6,none⟩ (.slice a3 kids.length cap3)) W3 (w.heap.size+1)→Ex (onlyW W3 (ab w.heap.size)) (f+1) (.agg #[.int .i64 op,.int .i64 arg,.bool false,.slice y1 y2 y3,.slice y4 y5 y6,.string name,.slice a3 kids.length cap3]) (canT (.node op arg s N D name kids))∧Kept w W3:=by
     intro W3 hk
     rw[HCAN.out]
     have hszw:=hk0r.size
     have hszm:=hmid.size
     have hold:∀b,b<wr.heap.size→w.heap.size+2≤b→W3.heap[b]? =wr.heap[b]? :=fun b hb h2=>(hk.old b (by omega) (by omega)).trans (hmid.old b hb (by omega))
     have hown:W3.ownsRow W0.heap.size 27 7 (.slice a3 kids.length cap3) kids.length cs:=own_keptB (own_keptB HG.out.own hmid (by omega)) hk (by omega)
     have hrows:=HG.out.rows
     rw[List.take_of_length_le (by rw[canTs_length];exact Nat.le_refl _)] at hrows
     refine⟨Ex.row rfl (fun b hb=>by simp[ab];omega) (HRT.out.sub (only_move fun b hb hs=>⟨?_,?_⟩)) hown (hrows.mono (kidR_sub f _ _ (only_move fun b hb hs=>⟨?_,?_⟩))) (by omega) (canTs_length kids).symm,(hkwr.but hmid (Nat.le_refl _)).but hk (by omega)⟩
     ·have h0:w.heap.size+2≤b:=of_decide_eq_true hs
      simp[ab];omega
     ·have h0:w.heap.size+2≤b:=of_decide_eq_true hs
      exact(hold b (by omega) h0).trans (hk0r.old b hb)
     ·simp[S1] at hs
      simp[ab];omega
     ·simp[S1] at hs
      exact hold b hb (by omega)
    exact bodyPost_ret (v:=.agg #[.int .i64 op,.int .i64 arg,.bool false,.slice y1 y2 y3,.slice y4 y5 y6,.string name,.slice a3 kids.length cap3]) (by simp[results,Tryz.results251,go_sem,d0,d1,d2,d3,d4,d5,d6]) rfl ⟨_,rfl,(key _ hend).1,(key _ hend).2⟩
theorem clone_calls':∀(f:Nat),CloneE f
 |0=>fun h _ _=>h.elim
 |f+1=>clone_step (clone_calls' f)
end
section
def RetCk(t:Tree)(f:Nat)(w:World)(e:Ending)(w':World):Prop:=
 (if t.ok=true then ∃r,e= .returned (.tuple #[r,.int .i64 0])∧Ex (onlyW w' (ab w.heap.size)) f r (canT t)
 else e= .returned (.tuple #[zeroE,.int .i64 4]))∧Kept w w'
set_option maxHeartbeats 4000000
set_option maxRecDepth 100000
theorem checked_calls{w:World}{f:Nat}{v:Value}{t:Tree}(h:Ex w f v t)(hT:Laid w):Calls Tryz.prog 157 #[v] w (RetCk t f w):=by
 have hv:=fun(w':World)(k:Kept w w')=>pvalid_calls (h.kept k) (hT.kept k)
 have hc:=fun(ho:t.ok=true)(w':World)(k:Kept w w')=>clone_calls' f (h.kept k) (well_of_ok ho) (hT.kept k)
 obtain⟨o,g,z,x1,x2,x3,x4,x5,x6,nm,a,n,cap,rfl⟩:=h.agg7
 clear h hT
 have HR:Hid (∀e w',RetCk t f w e w'↔(if t.ok=true then ∃r,e= .returned (.tuple #[r,.int .i64 0])∧Ex (onlyW w' (ab w.heap.size)) f r (canT t) else e= .returned (.tuple #[zeroE,.int .i64 4]))∧Kept w w'):=Lib.hid fun _ _=>Iff.rfl
 generalize hRR:RetCk t f w=RR at*
 clear hRR
 rcases Bool.eq_false_or_eq_true t.ok with b1|b1
 ·rw[b1] at hv
  replace hc:=hc b1
  have HB:=Lib.hid b1
  clear b1
  go_enter Tryz.func157,Tryz.ntmps157
  go_wp2_with(first
   |(go_at_call 77;refine(hv _ (((Kept.refl w).alloc _).alloc _)).mono ?_;rintro e w1 ⟨rfl,hk1⟩
     obtain⟨hA,hB1,hk01,hs1⟩:=al2k hk1
     obtain⟨e0,e1,e2,e3,e4,e5,e6,-⟩:=hA.facts7)
   |(go_at_call 251;refine(hc _ hk01).mono ?_;rintro e w3 ⟨r,rfl,hr3,hk3⟩
     obtain⟨q0,q1,q2,y1,y2,y3,y4,y5,y6,ym,ya,yn,yc,rfl⟩:=hr3.agg7
     obtain⟨k0,k1,k2,k3,k4,k5,k6,l0,l1,l2,l3,l4,l5,l6⟩:=(hB1.kept hk3).facts7))
  have hend:=KeptB.st7 w3 (w.heap.size+1) (.int .i64 q0) (.int .i64 q1) (.bool q2) (.slice y1 y2 y3) (.slice y4 y5 y6) (.string ym) (.slice ya yn yc)
  have key:∀W3,KeptB w3 W3 (w.heap.size+1)→Ex (onlyW W3 (ab w.heap.size)) f (.agg #[.int .i64 q0,.int .i64 q1,.bool q2,.slice y1 y2 y3,.slice y4 y5 y6,.string ym,.slice ya yn yc]) (canT t)∧Kept w W3:=fun W3 hk=>
   ⟨hr3.sub (only_move fun b hb hs=>⟨by
     have h0:w1.heap.size≤b:=of_decide_eq_true hs
     simp[ab];omega,hk.old b hb (by
     have h0:w1.heap.size≤b:=of_decide_eq_true hs
     omega)⟩),(hk01.trans hk3).but hk (by omega)⟩
  refine bodyPost_ret (v:=.tuple #[.agg #[.int .i64 q0,.int .i64 q1,.bool q2,.slice y1 y2 y3,.slice y4 y5 y6,.string ym,.slice ya yn yc],.int .i64 0]) (by simp[results,Tryz.results157,go_sem,k0,k1,k2,k3,k4,k5,k6]) rfl ?_
  rw[HR.out,if_pos HB.out]
  exact⟨⟨_,rfl,(key _ hend).1⟩,(key _ hend).2⟩
 ·rw[b1] at hv
  clear hc
  have HB:=Lib.hid b1
  clear b1
  go_enter Tryz.func157,Tryz.ntmps157
  go_wp2_with(first
   |(go_at_call 77;refine(hv _ (((Kept.refl w).alloc _).alloc _)).mono ?_;rintro e w1 ⟨rfl,hk1⟩
     obtain⟨hA,hB1,hk01,hs1⟩:=al2k hk1
     obtain⟨k0,k1,k2,k3,k4,k5,k6,l0,l1,l2,l3,l4,l5,l6⟩:=hB1.facts7))
  have hend:=KeptB.st7 w1 (w.heap.size+1) (.int .i64 0) (.int .i64 0) (.bool false) (.slice none 0 0) (.slice none 0 0) (.string ⟨#[]⟩) (.slice none 0 0)
  refine bodyPost_ret (v:=.tuple #[zeroE,.int .i64 4]) (by simp[zeroE,results,Tryz.results157,go_sem,k0,k1,k2,k3,k4,k5,k6]) rfl ?_
  rw[HR.out,if_neg (by rw[HB.out];simp)]
  exact⟨rfl,hk01.but hend (by omega)⟩
end
end Go.Proofs.YtbapfnpbamnmpaaGreatDoor
