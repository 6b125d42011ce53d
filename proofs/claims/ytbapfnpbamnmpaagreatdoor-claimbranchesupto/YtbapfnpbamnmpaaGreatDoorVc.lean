/- A part of the proof that ClaimBranches answers true for every input of bulk at most 1048576: conditions: the row's own. -/
import Derived.Test.YtbapfnpbamnmpaaGreatDoorVb
namespace Go.Proofs.YtbapfnpbamnmpaaGreatDoor
open Go Go.RowKit Go.Dig
open Go.Eng (Kept KW KeptB wp_region_kw kw_call)
structure CondD where
 t:Tree
 strict:Bool
def Cnm(w:World)(f:Nat)(a:Option Addr)(n cap:Nat)(l:List CondD):Prop:=
 n=l.length∧n≤cap∧n<4611686018427387904∧∀(i:Nat)(h:i<l.length),∃(b off:Nat)(o g:Int)(z:Bool)(x1:Option Addr)(x2 x3:Nat)(x4:Option Addr)(x5 x6:Nat)(nm:ByteArray)(a':Option Addr)(n' cap':Nat),
  a=some ⟨b,off,none⟩∧
  w.cell? ⟨b,off+i*8,none⟩=some (.int .i64 o)∧w.cell? ⟨b,off+i*8+1,none⟩=some (.int .i64 g)∧w.cell? ⟨b,off+i*8+2,none⟩=some (.bool z)∧
  w.cell? ⟨b,off+i*8+3,none⟩=some (.slice x1 x2 x3)∧w.cell? ⟨b,off+i*8+4,none⟩=some (.slice x4 x5 x6)∧w.cell? ⟨b,off+i*8+5,none⟩=some (.string nm)∧
  w.cell? ⟨b,off+i*8+6,none⟩=some (.slice a' n' cap')∧w.cell? ⟨b,off+i*8+7,none⟩=some (.bool l[i].strict)∧
  Ex w f (.agg #[.int .i64 o,.int .i64 g,.bool z,.slice x1 x2 x3,.slice x4 x5 x6,.string nm,.slice a' n' cap']) l[i].t
theorem Cnm.kept{w w':World}{f:Nat}{a:Option Addr}{n cap:Nat}{l:List CondD}(h:Cnm w f a n cap l)(k:Kept w w'):Cnm w' f a n cap l:=by
 obtain⟨hn,hc,hb,hi⟩:=h
 refine⟨hn,hc,hb,fun i h=> ?_⟩
 obtain⟨b,off,o,g,z,x1,x2,x3,x4,x5,x6,nm,a',n',cap',ha,h0,h1,h2,h3,h4,h5,h6,h7,he⟩:=hi i h
 exact⟨b,off,o,g,z,x1,x2,x3,x4,x5,x6,nm,a',n',cap',ha,k.cell h0,k.cell h1,k.cell h2,k.cell h3,k.cell h4,k.cell h5,k.cell h6,k.cell h7,he.kept k⟩
structure ClaimD where
 goal:Tree
 strict:Bool
 box:List SideD
 conds:List CondD
def Clm(w:World)(f:Nat)(v:Value)(c:ClaimD):Prop:=
 ∃(o g:Int)(z:Bool)(x1:Option Addr)(x2 x3:Nat)(x4:Option Addr)(x5 x6:Nat)(nm:ByteArray)(a0:Option Addr)(n0 cap0:Nat)(a1:Option Addr)(n1 cap1:Nat)(a2:Option Addr)(n2 cap2:Nat),
  v= .agg #[.int .i64 o,.int .i64 g,.bool z,.slice x1 x2 x3,.slice x4 x5 x6,.string nm,.slice a0 n0 cap0,.bool c.strict,.slice a1 n1 cap1,.slice a2 n2 cap2]∧
  Ex w f (.agg #[.int .i64 o,.int .i64 g,.bool z,.slice x1 x2 x3,.slice x4 x5 x6,.string nm,.slice a0 n0 cap0]) c.goal∧Bxm w a1 n1 cap1 c.box∧Cnm w f a2 n2 cap2 c.conds
theorem Clm.kept{w w':World}{f:Nat}{v:Value}{c:ClaimD}(h:Clm w f v c)(k:Kept w w'):Clm w' f v c:=by
 obtain⟨o,g,z,x1,x2,x3,x4,x5,x6,nm,a0,n0,cap0,a1,n1,cap1,a2,n2,cap2,rfl,h1,h2,h3⟩:=h
 exact⟨o,g,z,x1,x2,x3,x4,x5,x6,nm,a0,n0,cap0,a1,n1,cap1,a2,n2,cap2,rfl,h1.kept k,h2.kept k,h3.kept k⟩
def condOk(box:List SideD)(k:CondD):Bool:=k.t.ok&&covB box (varsT k.t)
def ClaimD.ok(c:ClaimD):Bool:=boxOk c.box&&decide (c.conds.length≤12)&&c.goal.ok&&covB c.box (varsT c.goal)&&c.conds.all (condOk c.box)
theorem ok_bad{c:ClaimD}{k:Nat}(hk:k<c.conds.length)(h:condOk c.box c.conds[k]=false):c.ok=false:=by
 unfold ClaimD.ok
 have:c.conds.all (condOk c.box)=false:=by
  rw[List.all_eq_false]
  exact⟨_,List.getElem_mem hk,by simp[h]⟩
 rw[this,Bool.and_false]
theorem ok_good{c:ClaimD}(h1:boxOk c.box=true)(h2:c.conds.length≤12)(h3:c.goal.ok=true)(h4:covB c.box (varsT c.goal)=true)(h:∀k,(hk:k<c.conds.length)→condOk c.box c.conds[k]=true):c.ok=true:=by
 unfold ClaimD.ok
 have:c.conds.all (condOk c.box)=true:=by
  rw[List.all_eq_true]
  intro x hx
  obtain⟨k,hk,rfl⟩:=List.getElem_of_mem hx
  exact h k hk
 rw[this,h1,h3,h4];simpa using h2
set_option maxHeartbeats 4000000 in
set_option maxRecDepth 100000 in
theorem cvalid_calls{f:Nat}{w:World}{v:Value}{c:ClaimD}(h:Clm w f v c)(hT:Laid w):
 Calls Tryz.prog 28 #[v] w fun e w'=>e= .returned (.bool c.ok)∧Kept w w':=by
 obtain⟨o,g,z,x1,x2,x3,x4,x5,x6,nm,a0,n0,cap0,a1,n1,cap1,a2,n2,cap2,rfl,hg,hb,hc⟩:=h
 have hk:Kept w (w.alloc (.cells #[.int .i64 o,.int .i64 g,.bool z,.slice x1 x2 x3,.slice x4 x5 x6,.string nm,.slice a0 n0 cap0,.bool c.strict,.slice a1 n1 cap1,.slice a2 n2 cap2] 31)):=(Kept.refl w).alloc _
 have hbx:=Blk.new w #[.int .i64 o,.int .i64 g,.bool z,.slice x1 x2 x3,.slice x4 x5 x6,.string nm,.slice a0 n0 cap0,.bool c.strict,.slice a1 n1 cap1,.slice a2 n2 cap2] 31
 have hbv:=evalid_calls (hb.kept hk) (hT.kept hk)
 have hgv:=fun(w':World)(k:Kept w w')=>pvalid_calls (hg.kept k) (hT.kept k)
 have hgc:=fun(w':World)(k:Kept w w')(ho:c.goal.ok=true)=>covered_calls (hg.kept k) (hT.kept k) ho (hb.kept k)
 have hn2:=hc.2.2.1
 have hce:n2=c.conds.length:=hc.1
 have HCE:=Lib.hid hce
 have HC:=Lib.hid hc;clear hc
 have HB:=Lib.hid hb;clear hb hg
 have HTT:=Lib.hid hT;clear hT
 clear hce
 have hn2':n2<4611686018427387904:=hn2
 cases hbo:boxOk c.box
 ·have HR:Hid (c.ok=false):=Lib.hid (by unfold ClaimD.ok;rw[hbo];rfl)
  rw[hbo] at hbv
  clear hgv hgc
  go_enter Tryz.func28,Tryz.ntmps28
  go_wp2_with(first|(go_at_call 76;refine hbv.mono ?_;rintro e w1 ⟨rfl,hk1⟩))
  go_ret
  exact⟨by rw[HR.out];rfl,hk.trans hk1⟩
 rw[hbo] at hbv
 by_cases hl:12<n2
 ·have HR:Hid (c.ok=false):=Lib.hid (by unfold ClaimD.ok;have:=HCE.out;rw[show decide (c.conds.length≤12)=false by simp;omega];simp)
  have t1:decide (12<(n2:Int))=true:=by simp;omega
  clear hgv hgc
  go_enter Tryz.func28,Tryz.ntmps28
  go_wp2_with(first|(go_at_call 76;refine hbv.mono ?_;rintro e w1 ⟨rfl,hk1⟩;obtain⟨e0,e1,e2,e3,e4,e5,e6,e7,e8,e9,-⟩:=(hbx.kept hk1).facts10))
  go_ret
  exact⟨by rw[HR.out];rfl,hk.trans hk1⟩
 have t1:decide (12<(n2:Int))=false:=by simp;omega
 cases hgo:c.goal.ok
 ·have HR:Hid (c.ok=false):=Lib.hid (by unfold ClaimD.ok;rw[hgo];simp)
  rw[hgo] at hgv
  clear hgc
  go_enter Tryz.func28,Tryz.ntmps28
  go_wp2_with(first
   |(go_at_call 76;refine hbv.mono ?_;rintro e w1 ⟨rfl,hk1⟩;obtain⟨e0,e1,e2,e3,e4,e5,e6,e7,e8,e9,-⟩:=(hbx.kept hk1).facts10)
   |(go_at_call 77;refine(hgv _ (hk.trans hk1)).mono ?_;rintro e w2 ⟨rfl,hk2⟩))
  go_ret
  exact⟨by rw[HR.out];rfl,(hk.trans hk1).trans hk2⟩
 rw[hgo] at hgv
 have hgc:=fun(w':World)(k:Kept w w')=>hgc w' k hgo
 cases hco:covB c.box (varsT c.goal)
 ·have HR:Hid (c.ok=false):=Lib.hid (by unfold ClaimD.ok;rw[hco];simp)
  rw[hco] at hgc
  go_enter Tryz.func28,Tryz.ntmps28
  go_wp2_with(first
   |(go_at_call 76;refine hbv.mono ?_;rintro e w1 ⟨rfl,hk1⟩;obtain⟨e0,e1,e2,e3,e4,e5,e6,e7,e8,e9,-⟩:=(hbx.kept hk1).facts10)
   |(go_at_call 77;refine(hgv _ (hk.trans hk1)).mono ?_;rintro e w2 ⟨rfl,hk2⟩;obtain⟨e0,e1,e2,e3,e4,e5,e6,e7,e8,e9,-⟩:=((hbx.kept hk1).kept hk2).facts10)
   |(go_at_call 78;refine(hgc _ ((hk.trans hk1).trans hk2)).mono ?_;rintro e w3 ⟨rfl,hk3⟩))
  go_ret
  exact⟨by rw[HR.out];rfl,((hk.trans hk1).trans hk2).trans hk3⟩
 rw[hco] at hgc
 go_enter Tryz.func28,Tryz.ntmps28
 go_wp2_with(first
  |(go_at_call 76;refine hbv.mono ?_;rintro e w1 ⟨rfl,hk1⟩;obtain⟨e0,e1,e2,e3,e4,e5,e6,e7,e8,e9,-⟩:=(hbx.kept hk1).facts10)
  |(go_at_call 77;refine(hgv _ (hk.trans hk1)).mono ?_;rintro e w2 ⟨rfl,hk2⟩;obtain⟨e0,e1,e2,e3,e4,e5,e6,e7,e8,e9,-⟩:=((hbx.kept hk1).kept hk2).facts10)
  |(go_at_call 78;refine(hgc _ ((hk.trans hk1).trans hk2)).mono ?_;rintro e w3 ⟨rfl,hk3⟩;obtain⟨e0,e1,e2,e3,e4,e5,e6,e7,e8,e9,-⟩:=(((hbx.kept hk1).kept hk2).kept hk3).facts10))
 have hk3w:=((hk.trans hk1).trans hk2).trans hk3
 have hbx3:=((hbx.kept hk1).kept hk2).kept hk3
 have HG:Hid (boxOk c.box=true∧c.goal.ok=true∧covB c.box (varsT c.goal)=true):=Lib.hid ⟨hbo,hgo,hco⟩
 clear hgc hgv hbv hbx hbo hgo hco hk1 hk2 hk
 go_loopw [32] (fun s wr=>∃k:Nat,k≤n2∧s= .int .i64 (k:Int)∧Hid (∀j,j<k→∀h,condOk c.box (c.conds[j]'h)=true)∧Kept w wr∧Kept w3 wr) (fun s _=>n2-(intOf s).toNat)
 case atStart=>exact⟨0,Nat.zero_le _,rfl,Lib.hid fun j hj=>absurd hj (Nat.not_lt_zero j),hk3w,Kept.refl _⟩
 case round=>
  obtain⟨k,hkn,rfl,HOK,hkw,hkw3⟩:=hrel
  by_cases hlt:k<n2
  ·have hlt':k<c.conds.length:=by have:=HCE.out;omega
   obtain⟨b,off,o',g',z',u1,u2,u3,u4,u5,u6,nm',a',n',cap',rfl,q0,q1,q2,q3,q4,q5,q6,q7,hex⟩:=HC.out.2.2.2 k hlt'
   replace q0:=hkw.cell q0
   replace q1:=hkw.cell q1
   replace q2:=hkw.cell q2
   replace q3:=hkw.cell q3
   replace q4:=hkw.cell q4
   replace q5:=hkw.cell q5
   replace q6:=hkw.cell q6
   replace q7:=hkw.cell q7
   have hk4:Kept wr (wr.alloc (.cells #[.int .i64 o',.int .i64 g',.bool z',.slice u1 u2 u3,.slice u4 u5 u6,.string nm',.slice a' n' cap',.bool c.conds[k].strict] 93)):=(Kept.refl wr).alloc _
   have hb4:=Blk.new wr #[.int .i64 o',.int .i64 g',.bool z',.slice u1 u2 u3,.slice u4 u5 u6,.string nm',.slice a' n' cap',.bool c.conds[k].strict] 93
   obtain⟨-,-,-,-,-,-,-,-,e8,-⟩:=(hbx3.kept (hkw3.trans hk4)).facts10
   have hpv:=pvalid_calls (hex.kept (hkw.trans hk4)) (HTT.out.kept (hkw.trans hk4))
   have hcv:=fun(w':World)(k':Kept w w')(ho:c.conds[k].t.ok=true)=>covered_calls (hex.kept k') (HTT.out.kept k') ho (HB.out.kept k')
   clear hex
   generalize hst:c.conds[k].strict=st at*
   have HST:=Lib.hid hst;clear hst
   cases hto:c.conds[k].t.ok
   ·rw[hto] at hpv
    have HR:Hid (c.ok=false):=Lib.hid (ok_bad hlt' (by unfold condOk;rw[hto];rfl))
    clear hcv hto
    go_wp2_with(first|(go_at_call 77;refine hpv.mono ?_;rintro e w5 ⟨rfl,hk5⟩))
    go_ret
    exact⟨by rw[HR.out];rfl,(hkw.trans hk4).trans hk5⟩
   rw[hto] at hpv
   have hcv:=fun(w':World)(k':Kept w w')=>hcv w' k' hto
   cases hcc:covB c.box (varsT c.conds[k].t)
   ·rw[hcc] at hcv
    have HR:Hid (c.ok=false):=Lib.hid (ok_bad hlt' (by unfold condOk;rw[hto,hcc];rfl))
    clear hto hcc
    go_wp2_with(first
     |(go_at_call 77;refine hpv.mono ?_;rintro e w5 ⟨rfl,hk5⟩;obtain⟨f0,f1,f2,f3,f4,f5,f6,-,-⟩:=(hb4.kept hk5).facts8;obtain⟨-,-,-,-,-,-,-,-,e8,-⟩:=(hbx3.kept ((hkw3.trans hk4).trans hk5)).facts10)
     |(go_at_call 78;refine(hcv _ ((hkw.trans hk4).trans hk5)).mono ?_;rintro e w6 ⟨rfl,hk6⟩))
    go_ret
    exact⟨by rw[HR.out];rfl,((hkw.trans hk4).trans hk5).trans hk6⟩
   ·rw[hcc] at hcv
    have HR:Hid (condOk c.box c.conds[k]=true):=Lib.hid (by unfold condOk;rw[hto,hcc];rfl)
    clear hto hcc
    go_wp2_with(first
     |(go_at_call 77;refine hpv.mono ?_;rintro e w5 ⟨rfl,hk5⟩;obtain⟨f0,f1,f2,f3,f4,f5,f6,-,-⟩:=(hb4.kept hk5).facts8;obtain⟨-,-,-,-,-,-,-,-,e8,-⟩:=(hbx3.kept ((hkw3.trans hk4).trans hk5)).facts10)
     |(go_at_call 78;refine(hcv _ ((hkw.trans hk4).trans hk5)).mono ?_;rintro e w6 ⟨rfl,hk6⟩))
    go_roundw
    case rel=>exact⟨k+1,by omega,by go_num,Lib.hid (fun j hj hl=>by
               by_cases h:j<k
               ·exact HOK.out j h hl
               ·obtain rfl:j=k:=by omega
                exact HR.out),((hkw.trans hk4).trans hk5).trans hk6,((hkw3.trans hk4).trans hk5).trans hk6⟩
    case measure=>simp[intOf];omega
  ·obtain rfl:n2=k:=by omega
   have HR:Hid (c.ok=true):=Lib.hid (ok_good HG.out.1 (by have:=HCE.out;omega) HG.out.2.1 HG.out.2.2 (fun j hj=>HOK.out j (by have:=HCE.out;omega) hj))
   go_wp2
   go_ret
   exact⟨by rw[HR.out];rfl,hkw⟩
set_option maxHeartbeats 4000000 in
set_option maxRecDepth 100000 in
theorem r6valid_calls{f:Nat}{w:World}{v:Value}{c:ClaimD}(h:Clm w f v c)(hT:Laid w):
 Calls Tryz.prog 27 #[v] w fun e w'=>e= .returned (.bool c.ok)∧Kept w w':=by
 obtain⟨o,g,z,x1,x2,x3,x4,x5,x6,nm,a0,n0,cap0,a1,n1,cap1,a2,n2,cap2,rfl,hg,hb,hc⟩:=h
 have hk:Kept w (w.alloc (.cells #[.int .i64 o,.int .i64 g,.bool z,.slice x1 x2 x3,.slice x4 x5 x6,.string nm,.slice a0 n0 cap0,.bool c.strict,.slice a1 n1 cap1,.slice a2 n2 cap2] 31)):=(Kept.refl w).alloc _
 have hbx:=Blk.new w #[.int .i64 o,.int .i64 g,.bool z,.slice x1 x2 x3,.slice x4 x5 x6,.string nm,.slice a0 n0 cap0,.bool c.strict,.slice a1 n1 cap1,.slice a2 n2 cap2] 31
 have hgv:=rvalid_calls (hg.kept hk) (hT.kept hk)
 have hbv:=fun(w':World)(k:Kept w w')=>r5valid_calls (hb.kept k)
 have hgc:=fun(w':World)(k:Kept w w')(ho:c.goal.ok=true)=>rcovered_calls (hg.kept k) (Nat.le_trans (Tree.ok_nodes ho) (by decide)) (hb.kept k)
 have hn2:=hc.2.2.1
 have hce:n2=c.conds.length:=hc.1
 have HCE:=Lib.hid hce
 have HC:=Lib.hid hc;clear hc
 have HB:=Lib.hid hb;clear hb hg
 have HTT:=Lib.hid hT;clear hT
 clear hce
 have hn2':n2<4611686018427387904:=hn2
 cases hgo:c.goal.ok
 ·have HR:Hid (c.ok=false):=Lib.hid (by unfold ClaimD.ok;rw[hgo];simp)
  rw[hgo] at hgv
  clear hgc hbv
  go_enter Tryz.func27,Tryz.ntmps27
  go_wp2_with(first|(go_at_call 73;refine hgv.mono ?_;rintro e w1 ⟨rfl,hk1⟩))
  go_ret
  exact⟨by rw[HR.out];rfl,hk.trans hk1⟩
 rw[hgo] at hgv
 have hgc:=fun(w':World)(k:Kept w w')=>hgc w' k hgo
 cases hbo:boxOk c.box
 ·have HR:Hid (c.ok=false):=Lib.hid (by unfold ClaimD.ok;rw[hbo];rfl)
  rw[hbo] at hbv
  clear hgc
  go_enter Tryz.func27,Tryz.ntmps27
  go_wp2_with(first
   |(go_at_call 73;refine hgv.mono ?_;rintro e w1 ⟨rfl,hk1⟩;obtain⟨e0,e1,e2,e3,e4,e5,e6,e7,e8,e9,-⟩:=(hbx.kept hk1).facts10)
   |(go_at_call 74;refine(hbv _ (hk.trans hk1)).mono ?_;rintro e w2 ⟨rfl,hk2⟩))
  go_ret
  exact⟨by rw[HR.out];rfl,(hk.trans hk1).trans hk2⟩
 rw[hbo] at hbv
 by_cases hl:12<n2
 ·have HR:Hid (c.ok=false):=Lib.hid (by unfold ClaimD.ok;have:=HCE.out;rw[show decide (c.conds.length≤12)=false by simp;omega];simp)
  have t1:decide (12<(n2:Int))=true:=by simp;omega
  clear hgc
  go_enter Tryz.func27,Tryz.ntmps27
  go_wp2_with(first
   |(go_at_call 73;refine hgv.mono ?_;rintro e w1 ⟨rfl,hk1⟩;obtain⟨e0,e1,e2,e3,e4,e5,e6,e7,e8,e9,-⟩:=(hbx.kept hk1).facts10)
   |(go_at_call 74;refine(hbv _ (hk.trans hk1)).mono ?_;rintro e w2 ⟨rfl,hk2⟩;obtain⟨e0,e1,e2,e3,e4,e5,e6,e7,e8,e9,-⟩:=((hbx.kept hk1).kept hk2).facts10))
  go_ret
  exact⟨by rw[HR.out];rfl,(hk.trans hk1).trans hk2⟩
 have t1:decide (12<(n2:Int))=false:=by simp;omega
 cases hco:covB c.box (varsT c.goal)
 ·have HR:Hid (c.ok=false):=Lib.hid (by unfold ClaimD.ok;rw[hco];simp)
  rw[hco] at hgc
  go_enter Tryz.func27,Tryz.ntmps27
  go_wp2_with(first
   |(go_at_call 73;refine hgv.mono ?_;rintro e w1 ⟨rfl,hk1⟩;obtain⟨e0,e1,e2,e3,e4,e5,e6,e7,e8,e9,-⟩:=(hbx.kept hk1).facts10)
   |(go_at_call 74;refine(hbv _ (hk.trans hk1)).mono ?_;rintro e w2 ⟨rfl,hk2⟩;obtain⟨e0,e1,e2,e3,e4,e5,e6,e7,e8,e9,-⟩:=((hbx.kept hk1).kept hk2).facts10)
   |(go_at_call 75;refine(hgc _ ((hk.trans hk1).trans hk2)).mono ?_;rintro e w3 ⟨rfl,hk3⟩))
  go_ret
  exact⟨by rw[HR.out];rfl,((hk.trans hk1).trans hk2).trans hk3⟩
 rw[hco] at hgc
 go_enter Tryz.func27,Tryz.ntmps27
 go_wp2_with(first
  |(go_at_call 73;refine hgv.mono ?_;rintro e w1 ⟨rfl,hk1⟩;obtain⟨e0,e1,e2,e3,e4,e5,e6,e7,e8,e9,-⟩:=(hbx.kept hk1).facts10)
  |(go_at_call 74;refine(hbv _ (hk.trans hk1)).mono ?_;rintro e w2 ⟨rfl,hk2⟩;obtain⟨e0,e1,e2,e3,e4,e5,e6,e7,e8,e9,-⟩:=((hbx.kept hk1).kept hk2).facts10)
  |(go_at_call 75;refine(hgc _ ((hk.trans hk1).trans hk2)).mono ?_;rintro e w3 ⟨rfl,hk3⟩))
 have hk3w:=((hk.trans hk1).trans hk2).trans hk3
 have hbx3:=((hbx.kept hk1).kept hk2).kept hk3
 have HG:Hid (boxOk c.box=true∧c.goal.ok=true∧covB c.box (varsT c.goal)=true):=Lib.hid ⟨hbo,hgo,hco⟩
 clear hgc hgv hbv hbx hbo hgo hco hk1 hk2 hk
 go_loopw [3] (fun s wr=>∃k:Nat,k≤n2∧s= .int .i64 (k:Int)∧Hid (∀j,j<k→∀h,condOk c.box (c.conds[j]'h)=true)∧Kept w wr∧Kept w3 wr) (fun s _=>n2-(intOf s).toNat)
 case atStart=>exact⟨0,Nat.zero_le _,rfl,Lib.hid fun j hj=>absurd hj (Nat.not_lt_zero j),hk3w,Kept.refl _⟩
 case round=>
  obtain⟨k,hkn,rfl,HOK,hkw,hkw3⟩:=hrel
  obtain⟨-,-,-,-,-,-,-,-,e8,e9,-⟩:=(hbx3.kept hkw3).facts10
  by_cases hlt:k<n2
  ·have hlt':k<c.conds.length:=by have:=HCE.out;omega
   obtain⟨b,off,o',g',z',u1,u2,u3,u4,u5,u6,nm',a',n',cap',rfl,q0,q1,q2,q3,q4,q5,q6,q7,hex⟩:=HC.out.2.2.2 k hlt'
   have hpv:=fun(w':World)(k':Kept w w')=>rvalid_calls (hex.kept k') (HTT.out.kept k')
   have hcv:=fun(w':World)(k':Kept w w')(ho:c.conds[k].t.ok=true)=>rcovered_calls (hex.kept k') (Nat.le_trans (Tree.ok_nodes ho) (by decide)) (HB.out.kept k')
   clear hex q7
   go_wp2_with fail
   have z0:=fun(k:KW wr)=>k.kept.cell (hkw.cell q0)
   have z1:=fun(k:KW wr)=>k.kept.cell (hkw.cell q1)
   have z2:=fun(k:KW wr)=>k.kept.cell (hkw.cell q2)
   have z3:=fun(k:KW wr)=>k.kept.cell (hkw.cell q3)
   have z4:=fun(k:KW wr)=>k.kept.cell (hkw.cell q4)
   have z5:=fun(k:KW wr)=>k.kept.cell (hkw.cell q5)
   have z6:=fun(k:KW wr)=>k.kept.cell (hkw.cell q6)
   have y8:=fun(k:KW wr)=>k.kept.cell e8
   have y9:=fun(k:KW wr)=>k.kept.cell e9
   clear q0 q1 q2 q3 q4 q5 q6 e8 e9
   cases hto:c.conds[k].t.ok
   ·rw[hto] at hpv
    have HR:Hid (c.ok=false):=Lib.hid (ok_bad hlt' (by unfold condOk;rw[hto];rfl))
    clear hcv hto
    have hpv:=fun(k:KW wr)=>hpv k.w (hkw.trans k.kept)
    refine wp_region_kw wr (Kept.refl _) (by kernel_rfl) (by kernel_rfl) ?_
    repeat (go_big_quiet_step (first|(go_at_call 73;exact kw_call (hpv _))))
    refine wpQuiet_nil ?_
    rintro _ ⟨k2,rfl⟩
    go_wp2
    go_ret
    exact⟨by rw[HR.out];rfl,hkw.trans k2.kept⟩
   rw[hto] at hpv
   have hcv:=fun(k':KW wr)=>hcv k'.w (hkw.trans k'.kept) hto
   have hpv:=fun(k:KW wr)=>hpv k.w (hkw.trans k.kept)
   cases hcc:covB c.box (varsT c.conds[k].t)
   ·rw[hcc] at hcv
    have HR:Hid (c.ok=false):=Lib.hid (ok_bad hlt' (by unfold condOk;rw[hto,hcc];rfl))
    clear hto hcc
    refine wp_region_kw wr (Kept.refl _) (by kernel_rfl) (by kernel_rfl) ?_
    repeat (go_big_quiet_step (first|(go_at_call 73;exact kw_call (hpv _))|(go_at_call 75;exact kw_call (hcv _))))
    refine wpQuiet_nil ?_
    rintro _ ⟨k2,rfl⟩
    go_wp2
    go_ret
    exact⟨by rw[HR.out];rfl,hkw.trans k2.kept⟩
   ·rw[hcc] at hcv
    have HR:Hid (condOk c.box c.conds[k]=true):=Lib.hid (by unfold condOk;rw[hto,hcc];rfl)
    clear hto hcc
    refine wp_region_kw wr (Kept.refl _) (by kernel_rfl) (by kernel_rfl) ?_
    repeat (go_big_quiet_step (first|(go_at_call 73;exact kw_call (hpv _))|(go_at_call 75;exact kw_call (hcv _))))
    refine wpQuiet_nil ?_
    rintro _ ⟨k2,rfl⟩
    clear hpv hcv
    go_wp2
    go_roundw
    case rel=>exact⟨k+1,by omega,by go_num,Lib.hid (fun j hj hl=>by
               by_cases h:j<k
               ·exact HOK.out j h hl
               ·obtain rfl:j=k:=by omega
                exact HR.out),hkw.trans k2.kept,hkw3.trans k2.kept⟩
    case measure=>simp[intOf];omega
  ·obtain rfl:n2=k:=by omega
   have HR:Hid (c.ok=true):=Lib.hid (ok_good HG.out.1 (by have:=HCE.out;omega) HG.out.2.1 HG.out.2.2 (fun j hj=>HOK.out j (by have:=HCE.out;omega) hj))
   go_wp2
   go_ret
   exact⟨by rw[HR.out];rfl,hkw⟩
end Go.Proofs.YtbapfnpbamnmpaaGreatDoor
