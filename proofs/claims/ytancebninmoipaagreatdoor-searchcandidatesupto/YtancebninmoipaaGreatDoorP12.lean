/- A part of the proof that SearchCandidates answers true for every input of bulk at most 1048576: conditions: the row's own. -/
import Derived.Test.YtancebninmoipaaGreatDoorP11
import Derived.ChangeArms
import Derived.Test.YtancebninmoipaaGreatDoorRows
import Derived.Test.YtancebninmoipaaGreatDoorP09
import Derived.WalkSpells
import Derived.Test.YtancebninmoipaaGreatDoorP07
import Derived.Deep.AppendLies
namespace Go.Proofs.YtancebninmoipaaGreatDoor
section
open Go Go.RowKit Go.Dig
open Go.Eng (Kept KW KeptB wp_region_kw kw_call)
structure CondD where
 t:Tree
 strict:Bool
def Cnm(w:World)(f:Nat)(a:Option Addr)(n cap:Nat)(l:List CondD):Prop:=
 n=l.length∧n≤cap∧n<4611686018427387904∧∀(i:Nat)(h:i<l.length),∃(b off:Nat)(o g:Int)(z:Bool)(x1:Option Addr)(x2 x3:Nat)(x4:Option Addr)(x5 x6:Nat)(nm:ByteArray)(a':Option Addr)(n' cap':Nat),
  a=some ⟨b,off,none⟩∧
  w.cell? ⟨b,off+i*8,none⟩=some (.int .i64 o)∧w.cell? ⟨b,off+i*8+1,none⟩=some (.int .i64 g)∧w.cell? ⟨b,off+i*8+2,none⟩=some (.bool z)∧
  w.cell? ⟨b,off+i*8+3,none⟩=some (.slice x1 x2 x3)∧w.cell? ⟨b,off+i*8+4,none⟩=some (.slice x4 x5 x6)∧w.cell? ⟨b,off+i*8+5,none⟩=some (.string nm)∧
  w.cell? ⟨b,off+i*8+6,none⟩=some (.slice a' n' cap')∧w.cell? ⟨b,off+i*8+7,none⟩=some (.bool l[i].strict)∧
  Ex w f (.agg #[.int .i64 o,.int .i64 g,.bool z,.slice x1 x2 x3,.slice x4 x5 x6,.string nm,.slice a' n' cap']) l[i].t
theorem Cnm.kept{w w':World}{f:Nat}{a:Option Addr}{n cap:Nat}{l:List CondD}(h:Cnm w f a n cap l)(k:Kept w w'):Cnm w' f a n cap l:=by
 obtain⟨hn,hc,hb,hi⟩:=h
 refine⟨hn,hc,hb,fun i h=> ?_⟩
 obtain⟨b,off,o,g,z,x1,x2,x3,x4,x5,x6,nm,a',n',cap',ha,h0,h1,h2,h3,h4,h5,h6,h7,he⟩:=hi i h
 exact⟨b,off,o,g,z,x1,x2,x3,x4,x5,x6,nm,a',n',cap',ha,k.cell h0,k.cell h1,k.cell h2,k.cell h3,k.cell h4,k.cell h5,k.cell h6,k.cell h7,he.kept k⟩
structure ClaimD where
 goal:Tree
 strict:Bool
 box:List SideD
 conds:List CondD
def Clm(w:World)(f:Nat)(v:Value)(c:ClaimD):Prop:=
 ∃(o g:Int)(z:Bool)(x1:Option Addr)(x2 x3:Nat)(x4:Option Addr)(x5 x6:Nat)(nm:ByteArray)(a0:Option Addr)(n0 cap0:Nat)(a1:Option Addr)(n1 cap1:Nat)(a2:Option Addr)(n2 cap2:Nat),
  v= .agg #[.int .i64 o,.int .i64 g,.bool z,.slice x1 x2 x3,.slice x4 x5 x6,.string nm,.slice a0 n0 cap0,.bool c.strict,.slice a1 n1 cap1,.slice a2 n2 cap2]∧
  Ex w f (.agg #[.int .i64 o,.int .i64 g,.bool z,.slice x1 x2 x3,.slice x4 x5 x6,.string nm,.slice a0 n0 cap0]) c.goal∧Bxm w a1 n1 cap1 c.box∧Cnm w f a2 n2 cap2 c.conds
theorem Clm.kept{w w':World}{f:Nat}{v:Value}{c:ClaimD}(h:Clm w f v c)(k:Kept w w'):Clm w' f v c:=by
 obtain⟨o,g,z,x1,x2,x3,x4,x5,x6,nm,a0,n0,cap0,a1,n1,cap1,a2,n2,cap2,rfl,h1,h2,h3⟩:=h
 exact⟨o,g,z,x1,x2,x3,x4,x5,x6,nm,a0,n0,cap0,a1,n1,cap1,a2,n2,cap2,rfl,h1.kept k,h2.kept k,h3.kept k⟩
def condOk(box:List SideD)(k:CondD):Bool:=k.t.ok&&covB box (varsT k.t)
def ClaimD.ok(c:ClaimD):Bool:=boxOk c.box&&decide (c.conds.length≤12)&&c.goal.ok&&covB c.box (varsT c.goal)&&c.conds.all (condOk c.box)
theorem ok_bad{c:ClaimD}{k:Nat}(hk:k<c.conds.length)(h:condOk c.box c.conds[k]=false):c.ok=false:=by
 unfold ClaimD.ok
 have:c.conds.all (condOk c.box)=false:=by
  rw[List.all_eq_false]
  exact⟨_,List.getElem_mem hk,by simp[h]⟩
 rw[this,Bool.and_false]
theorem ok_good{c:ClaimD}(h1:boxOk c.box=true)(h2:c.conds.length≤12)(h3:c.goal.ok=true)(h4:covB c.box (varsT c.goal)=true)(h:∀k,(hk:k<c.conds.length)→condOk c.box c.conds[k]=true):c.ok=true:=by
 unfold ClaimD.ok
 have:c.conds.all (condOk c.box)=true:=by
  rw[List.all_eq_true]
  intro x hx
  obtain⟨k,hk,rfl⟩:=List.getElem_of_mem hx
  exact h k hk
 rw[this,h1,h3,h4];simpa using h2
set_option maxHeartbeats 4000000 in
set_option maxRecDepth 100000 in
theorem cvalid_calls{f:Nat}{w:World}{v:Value}{c:ClaimD}(h:Clm w f v c)(hT:Laid w):
 Calls Tryz.prog 8 #[v] w fun e w'=>e= .returned (.bool c.ok)∧Kept w w':=by
 obtain⟨o,g,z,x1,x2,x3,x4,x5,x6,nm,a0,n0,cap0,a1,n1,cap1,a2,n2,cap2,rfl,hg,hb,hc⟩:=h
 have hk:Kept w (w.alloc (.cells #[.int .i64 o,.int .i64 g,.bool z,.slice x1 x2 x3,.slice x4 x5 x6,.string nm,.slice a0 n0 cap0,.bool c.strict,.slice a1 n1 cap1,.slice a2 n2 cap2] 31)):=(Kept.refl w).alloc _
 have hbx:=Blk.new w #[.int .i64 o,.int .i64 g,.bool z,.slice x1 x2 x3,.slice x4 x5 x6,.string nm,.slice a0 n0 cap0,.bool c.strict,.slice a1 n1 cap1,.slice a2 n2 cap2] 31
 have hbv:=evalid_calls (hb.kept hk) (hT.kept hk)
 have hgv:=fun(w':World)(k:Kept w w')=>pvalid_calls (hg.kept k) (hT.kept k)
 have hgc:=fun(w':World)(k:Kept w w')(ho:c.goal.ok=true)=>covered_calls (hg.kept k) (hT.kept k) ho (hb.kept k)
 have hn2:=hc.2.2.1
 have hce:n2=c.conds.length:=hc.1
 have HCE:=Lib.hid hce
 have HC:=Lib.hid hc;clear hc
 have HB:=Lib.hid hb;clear hb hg
 have HTT:=Lib.hid hT;clear hT
 clear hce
 have hn2':n2<4611686018427387904:=hn2
 cases hbo:boxOk c.box
 ·have HR:Hid (c.ok=false):=Lib.hid (by unfold ClaimD.ok;rw[hbo];rfl)
  rw[hbo] at hbv
  clear hgv hgc
  go_enter Tryz.func8,Tryz.ntmps8
  go_wp2_with(first|(go_at_call 23;refine hbv.mono ?_;rintro e w1 ⟨rfl,hk1⟩))
  go_ret
  exact⟨by rw[HR.out];rfl,hk.trans hk1⟩
 rw[hbo] at hbv
 by_cases hl:12<n2
 ·have HR:Hid (c.ok=false):=Lib.hid (by unfold ClaimD.ok;have:=HCE.out;rw[show decide (c.conds.length≤12)=false by simp;omega];simp)
  have t1:decide (12<(n2:Int))=true:=by simp;omega
  clear hgv hgc
  go_enter Tryz.func8,Tryz.ntmps8
  go_wp2_with(first|(go_at_call 23;refine hbv.mono ?_;rintro e w1 ⟨rfl,hk1⟩;obtain⟨e0,e1,e2,e3,e4,e5,e6,e7,e8,e9,-⟩:=(hbx.kept hk1).facts10))
  go_ret
  exact⟨by rw[HR.out];rfl,hk.trans hk1⟩
 have t1:decide (12<(n2:Int))=false:=by simp;omega
 cases hgo:c.goal.ok
 ·have HR:Hid (c.ok=false):=Lib.hid (by unfold ClaimD.ok;rw[hgo];simp)
  rw[hgo] at hgv
  clear hgc
  go_enter Tryz.func8,Tryz.ntmps8
  go_wp2_with(first
   |(go_at_call 23;refine hbv.mono ?_;rintro e w1 ⟨rfl,hk1⟩;obtain⟨e0,e1,e2,e3,e4,e5,e6,e7,e8,e9,-⟩:=(hbx.kept hk1).facts10)
   |(go_at_call 24;refine(hgv _ (hk.trans hk1)).mono ?_;rintro e w2 ⟨rfl,hk2⟩))
  go_ret
  exact⟨by rw[HR.out];rfl,(hk.trans hk1).trans hk2⟩
 rw[hgo] at hgv
 have hgc:=fun(w':World)(k:Kept w w')=>hgc w' k hgo
 cases hco:covB c.box (varsT c.goal)
 ·have HR:Hid (c.ok=false):=Lib.hid (by unfold ClaimD.ok;rw[hco];simp)
  rw[hco] at hgc
  go_enter Tryz.func8,Tryz.ntmps8
  go_wp2_with(first
   |(go_at_call 23;refine hbv.mono ?_;rintro e w1 ⟨rfl,hk1⟩;obtain⟨e0,e1,e2,e3,e4,e5,e6,e7,e8,e9,-⟩:=(hbx.kept hk1).facts10)
   |(go_at_call 24;refine(hgv _ (hk.trans hk1)).mono ?_;rintro e w2 ⟨rfl,hk2⟩;obtain⟨e0,e1,e2,e3,e4,e5,e6,e7,e8,e9,-⟩:=((hbx.kept hk1).kept hk2).facts10)
   |(go_at_call 25;refine(hgc _ ((hk.trans hk1).trans hk2)).mono ?_;rintro e w3 ⟨rfl,hk3⟩))
  go_ret
  exact⟨by rw[HR.out];rfl,((hk.trans hk1).trans hk2).trans hk3⟩
 rw[hco] at hgc
 go_enter Tryz.func8,Tryz.ntmps8
 go_wp2_with(first
  |(go_at_call 23;refine hbv.mono ?_;rintro e w1 ⟨rfl,hk1⟩;obtain⟨e0,e1,e2,e3,e4,e5,e6,e7,e8,e9,-⟩:=(hbx.kept hk1).facts10)
  |(go_at_call 24;refine(hgv _ (hk.trans hk1)).mono ?_;rintro e w2 ⟨rfl,hk2⟩;obtain⟨e0,e1,e2,e3,e4,e5,e6,e7,e8,e9,-⟩:=((hbx.kept hk1).kept hk2).facts10)
  |(go_at_call 25;refine(hgc _ ((hk.trans hk1).trans hk2)).mono ?_;rintro e w3 ⟨rfl,hk3⟩;obtain⟨e0,e1,e2,e3,e4,e5,e6,e7,e8,e9,-⟩:=(((hbx.kept hk1).kept hk2).kept hk3).facts10))
 have hk3w:=((hk.trans hk1).trans hk2).trans hk3
 have hbx3:=((hbx.kept hk1).kept hk2).kept hk3
 have HG:Hid (boxOk c.box=true∧c.goal.ok=true∧covB c.box (varsT c.goal)=true):=Lib.hid ⟨hbo,hgo,hco⟩
 clear hgc hgv hbv hbx hbo hgo hco hk1 hk2 hk
 go_loopw [32] (fun s wr=>∃k:Nat,k≤n2∧s= .int .i64 (k:Int)∧Hid (∀j,j<k→∀h,condOk c.box (c.conds[j]'h)=true)∧Kept w wr∧Kept w3 wr) (fun s _=>n2-(intOf s).toNat)
 case atStart=>exact⟨0,Nat.zero_le _,rfl,Lib.hid fun j hj=>absurd hj (Nat.not_lt_zero j),hk3w,Kept.refl _⟩
 case round=>
  obtain⟨k,hkn,rfl,HOK,hkw,hkw3⟩:=hrel
  by_cases hlt:k<n2
  ·have hlt':k<c.conds.length:=by have:=HCE.out;omega
   obtain⟨b,off,o',g',z',u1,u2,u3,u4,u5,u6,nm',a',n',cap',rfl,q0,q1,q2,q3,q4,q5,q6,q7,hex⟩:=HC.out.2.2.2 k hlt'
   replace q0:=hkw.cell q0
   replace q1:=hkw.cell q1
   replace q2:=hkw.cell q2
   replace q3:=hkw.cell q3
   replace q4:=hkw.cell q4
   replace q5:=hkw.cell q5
   replace q6:=hkw.cell q6
   replace q7:=hkw.cell q7
   have hk4:Kept wr (wr.alloc (.cells #[.int .i64 o',.int .i64 g',.bool z',.slice u1 u2 u3,.slice u4 u5 u6,.string nm',.slice a' n' cap',.bool c.conds[k].strict] 76)):=(Kept.refl wr).alloc _
   have hb4:=Blk.new wr #[.int .i64 o',.int .i64 g',.bool z',.slice u1 u2 u3,.slice u4 u5 u6,.string nm',.slice a' n' cap',.bool c.conds[k].strict] 76
   obtain⟨-,-,-,-,-,-,-,-,e8,-⟩:=(hbx3.kept (hkw3.trans hk4)).facts10
   have hpv:=pvalid_calls (hex.kept (hkw.trans hk4)) (HTT.out.kept (hkw.trans hk4))
   have hcv:=fun(w':World)(k':Kept w w')(ho:c.conds[k].t.ok=true)=>covered_calls (hex.kept k') (HTT.out.kept k') ho (HB.out.kept k')
   clear hex
   generalize hst:c.conds[k].strict=st at*
   have HST:=Lib.hid hst;clear hst
   cases hto:c.conds[k].t.ok
   ·rw[hto] at hpv
    have HR:Hid (c.ok=false):=Lib.hid (ok_bad hlt' (by unfold condOk;rw[hto];rfl))
    clear hcv hto
    go_wp2_with(first|(go_at_call 24;refine hpv.mono ?_;rintro e w5 ⟨rfl,hk5⟩))
    go_ret
    exact⟨by rw[HR.out];rfl,(hkw.trans hk4).trans hk5⟩
   rw[hto] at hpv
   have hcv:=fun(w':World)(k':Kept w w')=>hcv w' k' hto
   cases hcc:covB c.box (varsT c.conds[k].t)
   ·rw[hcc] at hcv
    have HR:Hid (c.ok=false):=Lib.hid (ok_bad hlt' (by unfold condOk;rw[hto,hcc];rfl))
    clear hto hcc
    go_wp2_with(first
     |(go_at_call 24;refine hpv.mono ?_;rintro e w5 ⟨rfl,hk5⟩;obtain⟨f0,f1,f2,f3,f4,f5,f6,-,-⟩:=(hb4.kept hk5).facts8;obtain⟨-,-,-,-,-,-,-,-,e8,-⟩:=(hbx3.kept ((hkw3.trans hk4).trans hk5)).facts10)
     |(go_at_call 25;refine(hcv _ ((hkw.trans hk4).trans hk5)).mono ?_;rintro e w6 ⟨rfl,hk6⟩))
    go_ret
    exact⟨by rw[HR.out];rfl,((hkw.trans hk4).trans hk5).trans hk6⟩
   ·rw[hcc] at hcv
    have HR:Hid (condOk c.box c.conds[k]=true):=Lib.hid (by unfold condOk;rw[hto,hcc];rfl)
    clear hto hcc
    go_wp2_with(first
     |(go_at_call 24;refine hpv.mono ?_;rintro e w5 ⟨rfl,hk5⟩;obtain⟨f0,f1,f2,f3,f4,f5,f6,-,-⟩:=(hb4.kept hk5).facts8;obtain⟨-,-,-,-,-,-,-,-,e8,-⟩:=(hbx3.kept ((hkw3.trans hk4).trans hk5)).facts10)
     |(go_at_call 25;refine(hcv _ ((hkw.trans hk4).trans hk5)).mono ?_;rintro e w6 ⟨rfl,hk6⟩))
    go_roundw
    case rel=>exact⟨k+1,by omega,by go_num,Lib.hid (fun j hj hl=>by
               by_cases h:j<k
               ·exact HOK.out j h hl
               ·obtain rfl:j=k:=by omega
                exact HR.out),((hkw.trans hk4).trans hk5).trans hk6,((hkw3.trans hk4).trans hk5).trans hk6⟩
    case measure=>simp[intOf];omega
  ·obtain rfl:n2=k:=by omega
   have HR:Hid (c.ok=true):=Lib.hid (ok_good HG.out.1 (by have:=HCE.out;omega) HG.out.2.1 HG.out.2.2 (fun j hj=>HOK.out j (by have:=HCE.out;omega) hj))
   go_wp2
   go_ret
   exact⟨by rw[HR.out];rfl,hkw⟩
end
section
open Go Go.RowKit Go.Dig
open Go.Eng (Kept KW KeptB wp_region_kw kw_call)
set_option maxHeartbeats 4000000 in
set_option maxRecDepth 100000 in
theorem r6valid_calls{f:Nat}{w:World}{v:Value}{c:ClaimD}(h:Clm w f v c)(hT:Laid w):
 Calls Tryz.prog 14 #[v] w fun e w'=>e= .returned (.bool c.ok)∧Kept w w':=by
 obtain⟨o,g,z,x1,x2,x3,x4,x5,x6,nm,a0,n0,cap0,a1,n1,cap1,a2,n2,cap2,rfl,hg,hb,hc⟩:=h
 have hk:Kept w (w.alloc (.cells #[.int .i64 o,.int .i64 g,.bool z,.slice x1 x2 x3,.slice x4 x5 x6,.string nm,.slice a0 n0 cap0,.bool c.strict,.slice a1 n1 cap1,.slice a2 n2 cap2] 31)):=(Kept.refl w).alloc _
 have hbx:=Blk.new w #[.int .i64 o,.int .i64 g,.bool z,.slice x1 x2 x3,.slice x4 x5 x6,.string nm,.slice a0 n0 cap0,.bool c.strict,.slice a1 n1 cap1,.slice a2 n2 cap2] 31
 have hgv:=rvalid_calls (hg.kept hk) (hT.kept hk)
 have hbv:=fun(w':World)(k:Kept w w')=>r5valid_calls (hb.kept k)
 have hgc:=fun(w':World)(k:Kept w w')(ho:c.goal.ok=true)=>rcovered_calls (hg.kept k) (Nat.le_trans (Tree.ok_nodes ho) (by decide)) (hb.kept k)
 have hn2:=hc.2.2.1
 have hce:n2=c.conds.length:=hc.1
 have HCE:=Lib.hid hce
 have HC:=Lib.hid hc;clear hc
 have HB:=Lib.hid hb;clear hb hg
 have HTT:=Lib.hid hT;clear hT
 clear hce
 have hn2':n2<4611686018427387904:=hn2
 cases hgo:c.goal.ok
 ·have HR:Hid (c.ok=false):=Lib.hid (by unfold ClaimD.ok;rw[hgo];simp)
  rw[hgo] at hgv
  clear hgc hbv
  go_enter Tryz.func14,Tryz.ntmps14
  go_wp2_with(first|(go_at_call 33;refine hgv.mono ?_;rintro e w1 ⟨rfl,hk1⟩))
  go_ret
  exact⟨by rw[HR.out];rfl,hk.trans hk1⟩
 rw[hgo] at hgv
 have hgc:=fun(w':World)(k:Kept w w')=>hgc w' k hgo
 cases hbo:boxOk c.box
 ·have HR:Hid (c.ok=false):=Lib.hid (by unfold ClaimD.ok;rw[hbo];rfl)
  rw[hbo] at hbv
  clear hgc
  go_enter Tryz.func14,Tryz.ntmps14
  go_wp2_with(first
   |(go_at_call 33;refine hgv.mono ?_;rintro e w1 ⟨rfl,hk1⟩;obtain⟨e0,e1,e2,e3,e4,e5,e6,e7,e8,e9,-⟩:=(hbx.kept hk1).facts10)
   |(go_at_call 34;refine(hbv _ (hk.trans hk1)).mono ?_;rintro e w2 ⟨rfl,hk2⟩))
  go_ret
  exact⟨by rw[HR.out];rfl,(hk.trans hk1).trans hk2⟩
 rw[hbo] at hbv
 by_cases hl:12<n2
 ·have HR:Hid (c.ok=false):=Lib.hid (by unfold ClaimD.ok;have:=HCE.out;rw[show decide (c.conds.length≤12)=false by simp;omega];simp)
  have t1:decide (12<(n2:Int))=true:=by simp;omega
  clear hgc
  go_enter Tryz.func14,Tryz.ntmps14
  go_wp2_with(first
   |(go_at_call 33;refine hgv.mono ?_;rintro e w1 ⟨rfl,hk1⟩;obtain⟨e0,e1,e2,e3,e4,e5,e6,e7,e8,e9,-⟩:=(hbx.kept hk1).facts10)
   |(go_at_call 34;refine(hbv _ (hk.trans hk1)).mono ?_;rintro e w2 ⟨rfl,hk2⟩;obtain⟨e0,e1,e2,e3,e4,e5,e6,e7,e8,e9,-⟩:=((hbx.kept hk1).kept hk2).facts10))
  go_ret
  exact⟨by rw[HR.out];rfl,(hk.trans hk1).trans hk2⟩
 have t1:decide (12<(n2:Int))=false:=by simp;omega
 cases hco:covB c.box (varsT c.goal)
 ·have HR:Hid (c.ok=false):=Lib.hid (by unfold ClaimD.ok;rw[hco];simp)
  rw[hco] at hgc
  go_enter Tryz.func14,Tryz.ntmps14
  go_wp2_with(first
   |(go_at_call 33;refine hgv.mono ?_;rintro e w1 ⟨rfl,hk1⟩;obtain⟨e0,e1,e2,e3,e4,e5,e6,e7,e8,e9,-⟩:=(hbx.kept hk1).facts10)
   |(go_at_call 34;refine(hbv _ (hk.trans hk1)).mono ?_;rintro e w2 ⟨rfl,hk2⟩;obtain⟨e0,e1,e2,e3,e4,e5,e6,e7,e8,e9,-⟩:=((hbx.kept hk1).kept hk2).facts10)
   |(go_at_call 35;refine(hgc _ ((hk.trans hk1).trans hk2)).mono ?_;rintro e w3 ⟨rfl,hk3⟩))
  go_ret
  exact⟨by rw[HR.out];rfl,((hk.trans hk1).trans hk2).trans hk3⟩
 rw[hco] at hgc
 go_enter Tryz.func14,Tryz.ntmps14
 go_wp2_with(first
  |(go_at_call 33;refine hgv.mono ?_;rintro e w1 ⟨rfl,hk1⟩;obtain⟨e0,e1,e2,e3,e4,e5,e6,e7,e8,e9,-⟩:=(hbx.kept hk1).facts10)
  |(go_at_call 34;refine(hbv _ (hk.trans hk1)).mono ?_;rintro e w2 ⟨rfl,hk2⟩;obtain⟨e0,e1,e2,e3,e4,e5,e6,e7,e8,e9,-⟩:=((hbx.kept hk1).kept hk2).facts10)
  |(go_at_call 35;refine(hgc _ ((hk.trans hk1).trans hk2)).mono ?_;rintro e w3 ⟨rfl,hk3⟩))
 have hk3w:=((hk.trans hk1).trans hk2).trans hk3
 have hbx3:=((hbx.kept hk1).kept hk2).kept hk3
 have HG:Hid (boxOk c.box=true∧c.goal.ok=true∧covB c.box (varsT c.goal)=true):=Lib.hid ⟨hbo,hgo,hco⟩
 clear hgc hgv hbv hbx hbo hgo hco hk1 hk2 hk
 go_loopw [3] (fun s wr=>∃k:Nat,k≤n2∧s= .int .i64 (k:Int)∧Hid (∀j,j<k→∀h,condOk c.box (c.conds[j]'h)=true)∧Kept w wr∧Kept w3 wr) (fun s _=>n2-(intOf s).toNat)
 case atStart=>exact⟨0,Nat.zero_le _,rfl,Lib.hid fun j hj=>absurd hj (Nat.not_lt_zero j),hk3w,Kept.refl _⟩
 case round=>
  obtain⟨k,hkn,rfl,HOK,hkw,hkw3⟩:=hrel
  obtain⟨-,-,-,-,-,-,-,-,e8,e9,-⟩:=(hbx3.kept hkw3).facts10
  by_cases hlt:k<n2
  ·have hlt':k<c.conds.length:=by have:=HCE.out;omega
   obtain⟨b,off,o',g',z',u1,u2,u3,u4,u5,u6,nm',a',n',cap',rfl,q0,q1,q2,q3,q4,q5,q6,q7,hex⟩:=HC.out.2.2.2 k hlt'
   have hpv:=fun(w':World)(k':Kept w w')=>rvalid_calls (hex.kept k') (HTT.out.kept k')
   have hcv:=fun(w':World)(k':Kept w w')(ho:c.conds[k].t.ok=true)=>rcovered_calls (hex.kept k') (Nat.le_trans (Tree.ok_nodes ho) (by decide)) (HB.out.kept k')
   clear hex q7
   go_wp2_with fail
   have z0:=fun(k:KW wr)=>k.kept.cell (hkw.cell q0)
   have z1:=fun(k:KW wr)=>k.kept.cell (hkw.cell q1)
   have z2:=fun(k:KW wr)=>k.kept.cell (hkw.cell q2)
   have z3:=fun(k:KW wr)=>k.kept.cell (hkw.cell q3)
   have z4:=fun(k:KW wr)=>k.kept.cell (hkw.cell q4)
   have z5:=fun(k:KW wr)=>k.kept.cell (hkw.cell q5)
   have z6:=fun(k:KW wr)=>k.kept.cell (hkw.cell q6)
   have y8:=fun(k:KW wr)=>k.kept.cell e8
   have y9:=fun(k:KW wr)=>k.kept.cell e9
   clear q0 q1 q2 q3 q4 q5 q6 e8 e9
   cases hto:c.conds[k].t.ok
   ·rw[hto] at hpv
    have HR:Hid (c.ok=false):=Lib.hid (ok_bad hlt' (by unfold condOk;rw[hto];rfl))
    clear hcv hto
    have hpv:=fun(k:KW wr)=>hpv k.w (hkw.trans k.kept)
    refine wp_region_kw wr (Kept.refl _) (by kernel_rfl) (by kernel_rfl) ?_
    repeat (go_big_quiet_step (first|(go_at_call 33;exact kw_call (hpv _))))
    refine wpQuiet_nil ?_
    rintro _ ⟨k2,rfl⟩
    go_wp2
    go_ret
    exact⟨by rw[HR.out];rfl,hkw.trans k2.kept⟩
   rw[hto] at hpv
   have hcv:=fun(k':KW wr)=>hcv k'.w (hkw.trans k'.kept) hto
   have hpv:=fun(k:KW wr)=>hpv k.w (hkw.trans k.kept)
   cases hcc:covB c.box (varsT c.conds[k].t)
   ·rw[hcc] at hcv
    have HR:Hid (c.ok=false):=Lib.hid (ok_bad hlt' (by unfold condOk;rw[hto,hcc];rfl))
    clear hto hcc
    refine wp_region_kw wr (Kept.refl _) (by kernel_rfl) (by kernel_rfl) ?_
    repeat (go_big_quiet_step (first|(go_at_call 33;exact kw_call (hpv _))|(go_at_call 35;exact kw_call (hcv _))))
    refine wpQuiet_nil ?_
    rintro _ ⟨k2,rfl⟩
    go_wp2
    go_ret
    exact⟨by rw[HR.out];rfl,hkw.trans k2.kept⟩
   ·rw[hcc] at hcv
    have HR:Hid (condOk c.box c.conds[k]=true):=Lib.hid (by unfold condOk;rw[hto,hcc];rfl)
    clear hto hcc
    refine wp_region_kw wr (Kept.refl _) (by kernel_rfl) (by kernel_rfl) ?_
    repeat (go_big_quiet_step (first|(go_at_call 33;exact kw_call (hpv _))|(go_at_call 35;exact kw_call (hcv _))))
    refine wpQuiet_nil ?_
    rintro _ ⟨k2,rfl⟩
    clear hpv hcv
    go_wp2
    go_roundw
    case rel=>exact⟨k+1,by omega,by go_num,Lib.hid (fun j hj hl=>by
               by_cases h:j<k
               ·exact HOK.out j h hl
               ·obtain rfl:j=k:=by omega
                exact HR.out),hkw.trans k2.kept,hkw3.trans k2.kept⟩
    case measure=>simp[intOf];omega
  ·obtain rfl:n2=k:=by omega
   have HR:Hid (c.ok=true):=Lib.hid (ok_good HG.out.1 (by have:=HCE.out;omega) HG.out.2.1 HG.out.2.2 (fun j hj=>HOK.out j (by have:=HCE.out;omega) hj))
   go_wp2
   go_ret
   exact⟨by rw[HR.out];rfl,hkw⟩
end
section
open Go Go.RowKit Go.Dig
open Go.Eng (Kept)
theorem bulk_one{H:Type}(d:DataW H):1≤Rows.uptoBulk d:=by
 cases d with
 |lit l=>cases l<;>simp[Rows.uptoBulk]
 |nil=>simp[Rows.uptoBulk]
 |ptr d=>simp[Rows.uptoBulk]
 |slice elems spare=>simp[Rows.uptoBulk]
 |agg parts=>simp[Rows.uptoBulk]
 |iface t d=>simp[Rows.uptoBulk]
 |map entries=>simp[Rows.uptoBulk]
 |held h=>simp[Rows.uptoBulk]
theorem bulk_part{H:Type}{d:DataW H}{l:List (DataW H)}(h:d∈l):Rows.uptoBulk d≤Rows.uptoBulkAll l:=by
 induction l with
 |nil=>cases h
 |cons x r ih=>
  simp only[Rows.uptoBulkAll]
  cases List.mem_cons.1 h with
  |inl e=>subst e;omega
  |inr e=>have:=ih e;omega
theorem bulk_length{H:Type}(l:List (DataW H)):l.length≤Rows.uptoBulkAll l:=by
 induction l with
 |nil=>simp[Rows.uptoBulkAll]
 |cons x r ih=>have:=bulk_one x;simp only[Rows.uptoBulkAll,List.length_cons];omega
theorem addr_add(b off n:Nat):Addr.add ⟨b,off,none⟩ n=⟨b,off+n,none⟩:=by
 unfold Addr.add
 split<;>simp_all
section
variable{H:Type}{enc:TypeId×Value→H}{w:World}{sp:Nat→Bool}{hd:Bool}
noncomputable abbrev trO(enc:TypeId×Value→H)(w:World)(sp:Nat→Bool)(hd:Bool):=DataW.trod enc Tryz.prog w 0 sp hd
theorem open_sl{t e C fuel:Nat}{cs:List Value}{y:DataW H×List MemPlace}(ht:Tryz.prog.underlying t=some (.slice e))(hC:Tryz.prog.cellsOf e=C)(hpos:0<C)(h:trO enc w sp hd fuel t cs=some y):
 ∃(a:Option Addr)(len cap:Nat)(xs:List (DataW H×List MemPlace)),cs=[.slice a len cap]∧len≤cap∧cap≤maxLen∧xs.length=len∧Rows.uptoBulkAll (xs.map (·.1))+1≤Rows.uptoBulk y.1∧
  ∀i(hi:i<xs.length),∃(b off n:Nat)(cs':List Value),a=some ⟨b,off,none⟩∧cs'.length=C∧(∀j,j<C→w.cell? ⟨b,off+i*C+j,none⟩=cs'[j]?)∧fuel=n+1∧trO enc w sp hd n e cs'=some xs[i]:=by
 rcases DataW.trod_slice ht h with⟨rfl,rfl⟩|⟨a,len,cap,elems,rest,n,hf,rfl,rfl,hb,hl,hm,hlen,hel,-,-⟩
 ·exact⟨none,0,0,[],rfl,Nat.le_refl _,Nat.zero_le _,rfl,by simp[Rows.uptoBulkAll,Rows.uptoBulk],fun i hi=>absurd hi (Nat.not_lt_zero i)⟩
 ·refine⟨some a,len,cap,elems,rfl,hl,hm,hlen,by simp only[Rows.uptoBulk];omega,fun i hi=> ?_⟩
  have h1:=hel i (by omega)
  rw[List.getElem?_eq_getElem hi,hC] at h1
  obtain⟨cs',hcs,htr⟩:=Option.bind_eq_some_iff.1 h1
  obtain⟨_,hl',hc⟩:=World.cells?_some hcs
  have hsp:(a.add (i*C)).spot=none:=by
   have h0:=hc 0 hpos
   rw[List.getElem?_eq_getElem (by omega)] at h0
   have:=World.cell?_spot h0
   simpa [Addr.add] using this
  have hsa:a.spot=none:=by
   have h00:=hel 0 (by omega)
   rw[List.getElem?_eq_getElem (by omega)] at h00
   obtain⟨c0,hc0,_⟩:=Option.bind_eq_some_iff.1 h00
   rw[hC] at hc0
   obtain⟨_,hl0,hcc⟩:=World.cells?_some hc0
   have h0:=hcc 0 hpos
   rw[List.getElem?_eq_getElem (by omega)] at h0
   have:=World.cell?_spot h0
   simpa [Addr.add] using this
  obtain⟨b,off,s⟩:=a
  obtain rfl:s=none:=hsa
  refine⟨b,off,n,cs',rfl,hl',fun j hj=> ?_,hf,htr⟩
  have:=hc j hj
  rwa [addr_add,addr_add] at this
end
end
section
open Go Go.RowKit Go.Dig
open Go.Eng (Kept)
theorem len2{α:Type}{l:List α}(h:l.length=2):∃a b,l=[a,b]:=by
 match l,h with
 |[a,b],_=>exact⟨a,b,rfl⟩
theorem len3{α:Type}{l:List α}(h:l.length=3):∃a b c,l=[a,b,c]:=by
 match l,h with
 |[a,b,c],_=>exact⟨a,b,c,rfl⟩
theorem len4{α:Type}{l:List α}(h:l.length=4):∃a b c d,l=[a,b,c,d]:=by
 match l,h with
 |[a,b,c,d],_=>exact⟨a,b,c,d,rfl⟩
theorem len5{α:Type}{l:List α}(h:l.length=5):∃a b c d e,l=[a,b,c,d,e]:=by
 match l,h with
 |[a,b,c,d,e],_=>exact⟨a,b,c,d,e,rfl⟩
theorem len7{α:Type}{l:List α}(h:l.length=7):∃a b c d e f g,l=[a,b,c,d,e,f,g]:=by
 match l,h with
 |[a,b,c,d,e,f,g],_=>exact⟨a,b,c,d,e,f,g,rfl⟩
theorem len8{α:Type}{l:List α}(h:l.length=8):∃a b c d e f g i,l=[a,b,c,d,e,f,g,i]:=by
 match l,h with
 |[a,b,c,d,e,f,g,i],_=>exact⟨a,b,c,d,e,f,g,i,rfl⟩
theorem len9{α:Type}{l:List α}(h:l.length=9):∃a b c d e f g i j,l=[a,b,c,d,e,f,g,i,j]:=by
 match l,h with
 |[a,b,c,d,e,f,g,i,j],_=>exact⟨a,b,c,d,e,f,g,i,j,rfl⟩
theorem len10{α:Type}{l:List α}(h:l.length=10):∃a b c d e f g i j k,l=[a,b,c,d,e,f,g,i,j,k]:=by
 match l,h with
 |[a,b,c,d,e,f,g,i,j,k],_=>exact⟨a,b,c,d,e,f,g,i,j,k,rfl⟩
theorem c3:Tryz.prog.cellsOf 3=1:=by kernel_rfl
theorem c4:Tryz.prog.cellsOf 4=1:=by kernel_rfl
theorem c9:Tryz.prog.cellsOf 9=1:=by kernel_rfl
theorem c22:Tryz.prog.cellsOf 22=1:=by kernel_rfl
theorem c24:Tryz.prog.cellsOf 24=3:=by kernel_rfl
theorem c25:Tryz.prog.cellsOf 25=1:=by kernel_rfl
theorem c27:Tryz.prog.cellsOf 27=7:=by kernel_rfl
theorem c28:Tryz.prog.cellsOf 28=1:=by kernel_rfl
theorem c29:Tryz.prog.cellsOf 29=1:=by kernel_rfl
theorem c31:Tryz.prog.cellsOf 31=10:=by kernel_rfl
theorem c39:Tryz.prog.cellsOf 43=8:=by kernel_rfl
theorem c41:Tryz.prog.cellsOf 45=9:=by kernel_rfl
theorem c93:Tryz.prog.cellsOf 76=8:=by kernel_rfl
theorem c191:Tryz.prog.cellsOf 212=1:=by kernel_rfl
section
variable{H:Type}{enc:TypeId×Value→H}{w:World}{sp:Nat→Bool}{hd:Bool}{B:Nat}
theorem bulk_at{x:DataW H×List MemPlace}{xs:List (DataW H×List MemPlace)}{q:List MemPlace}(h:Rows.uptoBulk ((DataW.agg (xs.map (·.1)),q):DataW H×List MemPlace).1≤B)(hm:x∈xs):Rows.uptoBulk x.1≤B:=by
 have h1:=bulk_part (List.mem_map_of_mem (f:=(·.1)) hm)
 have h2:1+Rows.uptoBulkAll (xs.map (·.1))≤B:=by
  have h3:Rows.uptoBulk (DataW.agg (xs.map (·.1)))≤B:=h
  simp only[Rows.uptoBulk] at h3
  omega
 exact Nat.le_trans h1 (by omega)
theorem fld{m:Nat}{fs:Array Field}{cs:List Value}{xs:List (DataW H×List MemPlace)}
 (hf:∀(i:Nat)(f:Field),fs[i]? =some f→DataW.trod enc Tryz.prog w 0 sp hd m f.type ((cs.drop f.offset).take (Tryz.prog.cellsOf f.type))=xs[i]?)
 (i:Nat){f:Field}{C:Nat}(hi:fs[i]? =some f)(hC:Tryz.prog.cellsOf f.type=C):trO enc w sp hd m f.type ((cs.drop f.offset).take C)=xs[i]? :=by
 subst hC
 exact hf i f hi
theorem open_raw{fuel:Nat}{cs:List Value}{y:DataW H×List MemPlace}(h:trO enc w sp hd fuel 22 cs=some y)(hb:Rows.uptoBulk y.1≤B)(hB:B≤1048576):
 ∃(a:Option Addr)(n cap m:Nat),cs=[.slice a n cap]∧Raw w (.slice a n cap) m:=by
 obtain⟨a,len,cap,xs,rfl,hl,hm,hx,hbk,hel⟩:=open_sl (C:=1) Tryz.underlying22 c191 (by decide) h
 have hlen:=bulk_length (xs.map (·.1))
 rw[List.length_map] at hlen
 have hc:∀i:Nat,∃k:Nat,i<len→k<4294967296∧∃b off,a=some ⟨b,off,none⟩∧w.cell? ⟨b,off+i,none⟩=some (.int .u32 (k:Nat)):=by
  intro i
  by_cases hi:i<len
  ·obtain⟨b,off,n,cs',ha,hl',hcell,-,htr⟩:=hel i (by omega)
   obtain⟨k,rfl,-,hwf⟩:=DataW.trod_int (k:=.u32) Tryz.underlying212 htr
   have hc0:=hcell 0 (by decide)
   have h2:0≤k∧k≤4294967295:=by
    have h3:(decide (IntKind.min .u32≤k)&&decide (k≤IntKind.max .u32))=true:=hwf
    simp only[Bool.and_eq_true,decide_eq_true_eq] at h3
    have e1:IntKind.min .u32=0:=by decide
    have e2:IntKind.max .u32=4294967295:=by decide
    omega
   refine⟨k.toNat,fun _=>⟨by omega,b,off,ha,?_⟩⟩
   have e3:((k.toNat:Nat):Int)=k:=by omega
   rw[e3]
   simpa using hc0
  ·exact⟨0,fun h=>absurd h hi⟩
 obtain⟨zs,hzs⟩:=Classical.axiomOfChoice hc
 exact⟨a,len,cap,val 4294967296 zs len,rfl,a,len,cap,zs,rfl,hl,by omega,fun i hi=>(hzs i hi).1,rfl,fun i hi=>(hzs i hi).2⟩
theorem open_rat{fuel:Nat}{cs:List Value}{y:DataW H×List MemPlace}(h:trO enc w sp hd fuel 24 cs=some y)(hb:Rows.uptoBulk y.1≤B)(hB:B≤1048576):
 ∃(s:Bool)(a:Option Addr)(n c:Nat)(a':Option Addr)(n' c' N D:Nat),cs=[.bool s,.slice a n c,.slice a' n' c']∧Rt w (.agg #[.bool s,.slice a n c,.slice a' n' c']) s N D:=by
 obtain⟨xs,m,rfl,rfl,hl,hx,hf⟩:=DataW.trod_struct Tryz.underlying24 h
 rw[c24] at hl
 obtain⟨u0,u1,u2,rfl⟩:=len3 hl
 obtain⟨x0,x1,x2,rfl⟩:=len3 (l:=xs) hx
 have h0:trO enc w sp hd m 4 [u0]=some x0:=by have q:=fld hf 0 rfl c4;exact q
 have h1:trO enc w sp hd m 22 [u1]=some x1:=by have q:=fld hf 1 rfl c22;exact q
 have h2:trO enc w sp hd m 22 [u2]=some x2:=by have q:=fld hf 2 rfl c22;exact q
 obtain⟨s,e0,-⟩:=DataW.trod_bool Tryz.underlying4 h0
 obtain⟨a,n,c,N,e1,r1⟩:=open_raw h1 (bulk_at hb (by simp)) hB
 obtain⟨a',n',c',D,e2,r2⟩:=open_raw h2 (bulk_at hb (by simp)) hB
 simp only[List.cons.injEq,and_true] at e0 e1 e2
 subst e0 e1 e2
 exact⟨s,a,n,c,a',n',c',N,D,rfl,_,_,rfl,r1,r2⟩
theorem Ex.mono:∀(f:Nat){v:Value}{t:Tree},Ex w f v t→Ex w (f+1) v t
 |0,_,_,h=>h.elim
 |f+1,v,.node op arg s N D name kids,⟨x1,x2,x3,x4,x5,x6,a,cap,hv,hc,hr,hn,hk⟩=>by
  refine⟨x1,x2,x3,x4,x5,x6,a,cap,hv,hc,hr,hn,fun i h=> ?_⟩
  obtain⟨b,off,cs,ha,hs,hcell,he⟩:=hk i h
  exact⟨b,off,cs,ha,hs,hcell,Ex.mono f he⟩
theorem Ex.le{f f':Nat}{v:Value}{t:Tree}(hle:f≤f')(h:Ex w f v t):Ex w f' v t:=by
 induction hle with
 |refl=>exact h
 |step _ ih=>exact ih.mono _
theorem open_expr:∀(fuel:Nat){cs:List Value}{y:DataW H×List MemPlace},trO enc w sp hd fuel 27 cs=some y→Rows.uptoBulk y.1≤B→B≤1048576→
 cs.length=7∧∃t,Ex w fuel (.agg cs.toArray) t:=by
 intro fuel
 induction fuel using Nat.strongRecOn with
 |ind fuel ih=>
 intro cs y h hb hB
 obtain⟨xs,m,rfl,rfl,hl,hx,hf⟩:=DataW.trod_struct Tryz.underlying27 h
 rw[c27] at hl
 refine⟨hl,?_⟩
 obtain⟨u0,u1,u2,u3,u4,u5,u6,rfl⟩:=len7 hl
 obtain⟨z0,z1,z2,z3,z4,rfl⟩:=len5 (l:=xs) hx
 have h0:trO enc w sp hd m 3 [u0]=some z0:=by have q:=fld hf 0 rfl c3;exact q
 have h1:trO enc w sp hd m 3 [u1]=some z1:=by have q:=fld hf 1 rfl c3;exact q
 have h2:trO enc w sp hd m 24 [u2,u3,u4]=some z2:=by have q:=fld hf 2 rfl c24;exact q
 have h3:trO enc w sp hd m 9 [u5]=some z3:=by have q:=fld hf 3 rfl c9;exact q
 have h4:trO enc w sp hd m 25 [u6]=some z4:=by have q:=fld hf 4 rfl c25;exact q
 obtain⟨op,e0,-,-⟩:=DataW.trod_int Tryz.underlying3 h0
 obtain⟨arg,e1,-,-⟩:=DataW.trod_int Tryz.underlying3 h1
 obtain⟨s,a1,n1,k1,a2,n2,k2,N,D,e2,hrt⟩:=open_rat h2 (bulk_at hb (by simp)) hB
 obtain⟨nm,e3,-,-⟩:=DataW.trod_string Tryz.underlying9 h3
 have hbz:Rows.uptoBulk z4.1≤B:=bulk_at hb (by simp)
 obtain⟨a,len,cap,ks,e4,hlc,hcm,hks,hbk,hel⟩:=open_sl (C:=7) Tryz.underlying25 c27 (by decide) h4
 simp only[List.cons.injEq,and_true] at e0 e1 e2 e3 e4
 obtain⟨e2,e2',e2''⟩:=e2
 subst e0 e1 e2 e2' e2'' e3 e4
 have hc:∀i:Nat,∃t:Tree,i<len→∃(b off:Nat)(cs:Array Value),a=some ⟨b,off,none⟩∧cs.size=7∧(∀j,j<7→w.cell? ⟨b,off+7*i+j,none⟩=cs[j]?)∧Ex w m (.agg cs) t:=by
  intro i
  by_cases hi:i<len
  ·obtain⟨b,off,n,cs',ha,hl',hcell,rfl,htr⟩:=hel i (by omega)
   have hbx:Rows.uptoBulk (ks[i]'(by omega)).1≤B:=by
    have:=bulk_part (d:=(ks[i]'(by omega)).1) (l:=ks.map (·.1)) (List.mem_map_of_mem (List.getElem_mem _))
    omega
   obtain⟨-,t,ht⟩:=ih n (by omega) htr hbx hB
   refine⟨t,fun _=>⟨b,off,cs'.toArray,ha,by simpa using hl',fun j hj=> ?_,ht.mono _⟩⟩
   rw[Nat.mul_comm 7 i]
   have q:=hcell j hj
   rw[←List.getElem?_toArray] at q
   exact q
  ·exact⟨.node 0 0 false 0 0 nm [],fun h=>absurd h hi⟩
 obtain⟨ts,hts⟩:=Classical.axiomOfChoice hc
 have hlen:=bulk_length (ks.map (·.1))
 rw[List.length_map] at hlen
 refine⟨.node op arg s N D nm ((List.range len).map ts),a1,n1,k1,a2,n2,k2,a,cap,by simp,by simpa using hlc,hrt,by simp only[List.length_map,List.length_range];omega,fun i hi=> ?_⟩
 simp only[List.length_map,List.length_range] at hi
 simp only[List.getElem_map,List.getElem_range]
 exact hts i hi
theorem Ex.cells{f:Nat}{cs:List Value}{t:Tree}(h:Ex w f (.agg cs.toArray) t):∃(o g:Int)(z:Bool)(x1:Option Addr)(x2 x3:Nat)(x4:Option Addr)(x5 x6:Nat)(nm:ByteArray)(a':Option Addr)(n' cap':Nat),
 cs=[.int .i64 o,.int .i64 g,.bool z,.slice x1 x2 x3,.slice x4 x5 x6,.string nm,.slice a' n' cap']:=by
 cases f with
 |zero=>exact h.elim
 |succ f=>
  cases t with
  |node op arg s N D name kids=>
   obtain⟨x1,x2,x3,x4,x5,x6,a,cap,hv,-⟩:=h
   refine⟨op,arg,s,x1,x2,x3,x4,x5,x6,name,a,kids.length,cap,?_⟩
   have:=Value.agg.inj hv
   simpa using this
theorem open_ivl{fuel:Nat}{cs:List Value}{y:DataW H×List MemPlace}(h:trO enc w sp hd fuel 43 cs=some y)(hb:Rows.uptoBulk y.1≤B)(hB:B≤1048576):
 ∃(d:IvD)(s1:Bool)(a1:Option Addr)(n1 c1:Nat)(a2:Option Addr)(n2 c2:Nat)(s2:Bool)(a3:Option Addr)(n3 c3:Nat)(a4:Option Addr)(n4 c4:Nat)(p q:Bool),
  cs=[.bool s1,.slice a1 n1 c1,.slice a2 n2 c2,.bool s2,.slice a3 n3 c3,.slice a4 n4 c4,.bool p,.bool q]∧
  Ivl w (.agg #[.bool s1,.slice a1 n1 c1,.slice a2 n2 c2,.bool s2,.slice a3 n3 c3,.slice a4 n4 c4,.bool p,.bool q]) d:=by
 obtain⟨xs,m,rfl,rfl,hl,hx,hf⟩:=DataW.trod_struct Tryz.underlying43 h
 rw[c39] at hl
 obtain⟨u0,u1,u2,u3,u4,u5,u6,u7,rfl⟩:=len8 hl
 obtain⟨z0,z1,z2,z3,rfl⟩:=len4 (l:=xs) hx
 have h0:trO enc w sp hd m 24 [u0,u1,u2]=some z0:=by have q:=fld hf 0 rfl c24;exact q
 have h1:trO enc w sp hd m 24 [u3,u4,u5]=some z1:=by have q:=fld hf 1 rfl c24;exact q
 have h2:trO enc w sp hd m 4 [u6]=some z2:=by have q:=fld hf 2 rfl c4;exact q
 have h3:trO enc w sp hd m 4 [u7]=some z3:=by have q:=fld hf 3 rfl c4;exact q
 obtain⟨s,a1,n1,k1,a2,n2,k2,N,D,e0,r0⟩:=open_rat h0 (bulk_at hb (by simp)) hB
 obtain⟨s',a3,n3,k3,a4,n4,k4,N',D',e1,r1⟩:=open_rat h1 (bulk_at hb (by simp)) hB
 obtain⟨p,e2,-⟩:=DataW.trod_bool Tryz.underlying4 h2
 obtain⟨q,e3,-⟩:=DataW.trod_bool Tryz.underlying4 h3
 simp only[List.cons.injEq,and_true] at e0 e1 e2 e3
 obtain⟨e0,e0',e0''⟩:=e0
 obtain⟨e1,e1',e1''⟩:=e1
 subst e0 e0' e0'' e1 e1' e1'' e2 e3
 exact⟨⟨s,N,D,s',N',D',p,q⟩,s,a1,n1,k1,a2,n2,k2,s',a3,n3,k3,a4,n4,k4,p,q,rfl,a1,n1,k1,a2,n2,k2,a3,n3,k3,a4,n4,k4,rfl,r0,r1⟩
theorem open_box{fuel:Nat}{cs:List Value}{y:DataW H×List MemPlace}(h:trO enc w sp hd fuel 28 cs=some y)(hb:Rows.uptoBulk y.1≤B)(hB:B≤1048576):
 ∃(a:Option Addr)(n cap:Nat)(l:List SideD),cs=[.slice a n cap]∧Bxm w a n cap l:=by
 obtain⟨a,len,cap,xs,rfl,hl,hm,hx,hbk,hel⟩:=open_sl (C:=9) Tryz.underlying28 c41 (by decide) h
 have hc:∀i:Nat,∃d:SideD,i<len→∃(b off:Nat)(s1:Bool)(a1:Option Addr)(n1 c1:Nat)(a2:Option Addr)(n2 c2:Nat)(s2:Bool)(a3:Option Addr)(n3 c3:Nat)(a4:Option Addr)(n4 c4:Nat)(p q:Bool),
  a=some ⟨b,off,none⟩∧w.cell? ⟨b,off+i*9,none⟩=some (.string d.name)∧
  w.cell? ⟨b,off+i*9+1,none⟩=some (.bool s1)∧w.cell? ⟨b,off+i*9+2,none⟩=some (.slice a1 n1 c1)∧w.cell? ⟨b,off+i*9+3,none⟩=some (.slice a2 n2 c2)∧
  w.cell? ⟨b,off+i*9+4,none⟩=some (.bool s2)∧w.cell? ⟨b,off+i*9+5,none⟩=some (.slice a3 n3 c3)∧w.cell? ⟨b,off+i*9+6,none⟩=some (.slice a4 n4 c4)∧
  w.cell? ⟨b,off+i*9+7,none⟩=some (.bool p)∧w.cell? ⟨b,off+i*9+8,none⟩=some (.bool q)∧
  Ivl w (.agg #[.bool s1,.slice a1 n1 c1,.slice a2 n2 c2,.bool s2,.slice a3 n3 c3,.slice a4 n4 c4,.bool p,.bool q]) d.iv:=by
  intro i
  by_cases hi:i<len
  ·obtain⟨b,off,n,cs',ha,hl',hcell,rfl,htr⟩:=hel i (by omega)
   have hbx:Rows.uptoBulk (xs[i]'(by omega)).1≤B:=by
    have:=bulk_part (d:=(xs[i]'(by omega)).1) (l:=xs.map (·.1)) (List.mem_map_of_mem (List.getElem_mem _))
    omega
   generalize (xs[i]'(by omega))=xi at htr hbx
   obtain⟨zs,m,rfl,rfl,hl2,hx2,hf⟩:=DataW.trod_struct Tryz.underlying45 htr
   rw[c41] at hl2
   obtain⟨u0,u1,u2,u3,u4,u5,u6,u7,u8,rfl⟩:=len9 hl2
   obtain⟨z0,z1,rfl⟩:=len2 (l:=zs) hx2
   have h0:trO enc w sp hd m 9 [u0]=some z0:=by have q:=fld hf 0 rfl c9;exact q
   have h1:trO enc w sp hd m 43 [u1,u2,u3,u4,u5,u6,u7,u8]=some z1:=by have q:=fld hf 1 rfl c39;exact q
   obtain⟨nm,e0,-,-⟩:=DataW.trod_string Tryz.underlying9 h0
   obtain⟨d,s1,a1,n1,c1,a2,n2,c2,s2,a3,n3,c3,a4,n4,c4,p,q,e1,hiv⟩:=open_ivl h1 (bulk_at hbx (by simp)) hB
   simp only[List.cons.injEq,and_true] at e0 e1
   obtain⟨e1,e2,e3,e4,e5,e6,e7,e8⟩:=e1
   subst e0 e1 e2 e3 e4 e5 e6 e7 e8
   exact⟨⟨nm,d⟩,fun _=>⟨b,off,s1,a1,n1,c1,a2,n2,c2,s2,a3,n3,c3,a4,n4,c4,p,q,ha,hcell 0 (by decide),hcell 1 (by decide),hcell 2 (by decide),hcell 3 (by decide),hcell 4 (by decide),hcell 5 (by decide),hcell 6 (by decide),hcell 7 (by decide),hcell 8 (by decide),hiv⟩⟩
  ·exact⟨⟨⟨#[]⟩,⟨false,0,0,false,0,0,false,false⟩⟩,fun h=>absurd h hi⟩
 obtain⟨ts,hts⟩:=Classical.axiomOfChoice hc
 have hlen:=bulk_length (xs.map (·.1))
 rw[List.length_map] at hlen
 refine⟨a,len,cap,(List.range len).map ts,rfl,by simp,hl,by omega,fun i hi=> ?_⟩
 simp only[List.length_map,List.length_range] at hi
 simp only[List.getElem_map,List.getElem_range]
 exact hts i hi
theorem open_conds{fuel:Nat}{cs:List Value}{y:DataW H×List MemPlace}(h:trO enc w sp hd fuel 29 cs=some y)(hb:Rows.uptoBulk y.1≤B)(hB:B≤1048576):
 ∃(a:Option Addr)(n cap:Nat)(l:List CondD),cs=[.slice a n cap]∧Cnm w fuel a n cap l:=by
 obtain⟨a,len,cap,xs,rfl,hl,hm,hx,hbk,hel⟩:=open_sl (C:=8) Tryz.underlying29 c93 (by decide) h
 have hc:∀i:Nat,∃d:CondD,i<len→∃(b off:Nat)(o g:Int)(z:Bool)(x1:Option Addr)(x2 x3:Nat)(x4:Option Addr)(x5 x6:Nat)(nm:ByteArray)(a':Option Addr)(n' cap':Nat),
  a=some ⟨b,off,none⟩∧
  w.cell? ⟨b,off+i*8,none⟩=some (.int .i64 o)∧w.cell? ⟨b,off+i*8+1,none⟩=some (.int .i64 g)∧w.cell? ⟨b,off+i*8+2,none⟩=some (.bool z)∧
  w.cell? ⟨b,off+i*8+3,none⟩=some (.slice x1 x2 x3)∧w.cell? ⟨b,off+i*8+4,none⟩=some (.slice x4 x5 x6)∧w.cell? ⟨b,off+i*8+5,none⟩=some (.string nm)∧
  w.cell? ⟨b,off+i*8+6,none⟩=some (.slice a' n' cap')∧w.cell? ⟨b,off+i*8+7,none⟩=some (.bool d.strict)∧
  Ex w fuel (.agg #[.int .i64 o,.int .i64 g,.bool z,.slice x1 x2 x3,.slice x4 x5 x6,.string nm,.slice a' n' cap']) d.t:=by
  intro i
  by_cases hi:i<len
  ·obtain⟨b,off,n,cs',ha,hl',hcell,rfl,htr⟩:=hel i (by omega)
   have hbx:Rows.uptoBulk (xs[i]'(by omega)).1≤B:=by
    have:=bulk_part (d:=(xs[i]'(by omega)).1) (l:=xs.map (·.1)) (List.mem_map_of_mem (List.getElem_mem _))
    omega
   generalize (xs[i]'(by omega))=xi at htr hbx
   obtain⟨zs,m,rfl,rfl,hl2,hx2,hf⟩:=DataW.trod_struct Tryz.underlying76 htr
   rw[c93] at hl2
   obtain⟨u0,u1,u2,u3,u4,u5,u6,u7,rfl⟩:=len8 hl2
   obtain⟨z0,z1,rfl⟩:=len2 (l:=zs) hx2
   have h0:trO enc w sp hd m 27 [u0,u1,u2,u3,u4,u5,u6]=some z0:=by have q:=fld hf 0 rfl c27;exact q
   have h1:trO enc w sp hd m 4 [u7]=some z1:=by have q:=fld hf 1 rfl c4;exact q
   obtain⟨-,t,ht⟩:=open_expr m h0 (bulk_at hbx (by simp)) hB
   obtain⟨st,e1,-⟩:=DataW.trod_bool Tryz.underlying4 h1
   obtain⟨o,g,z,x1,x2,x3,x4,x5,x6,nm,a',n',cap',e0⟩:=ht.cells
   simp only[List.cons.injEq,and_true] at e0 e1
   obtain⟨e2,e3,e4,e5,e6,e7,e8⟩:=e0
   subst e1 e2 e3 e4 e5 e6 e7 e8
   exact⟨⟨t,st⟩,fun _=>⟨b,off,o,g,z,x1,x2,x3,x4,x5,x6,nm,a',n',cap',ha,hcell 0 (by decide),hcell 1 (by decide),hcell 2 (by decide),hcell 3 (by decide),hcell 4 (by decide),hcell 5 (by decide),hcell 6 (by decide),hcell 7 (by decide),(ht.mono _).mono _⟩⟩
  ·exact⟨⟨.node 0 0 false 0 0 ⟨#[]⟩ [],false⟩,fun h=>absurd h hi⟩
 obtain⟨ts,hts⟩:=Classical.axiomOfChoice hc
 have hlen:=bulk_length (xs.map (·.1))
 rw[List.length_map] at hlen
 refine⟨a,len,cap,(List.range len).map ts,rfl,by simp,hl,by omega,fun i hi=> ?_⟩
 simp only[List.length_map,List.length_range] at hi
 simp only[List.getElem_map,List.getElem_range]
 exact hts i hi
theorem Cnm.mono{f:Nat}{a:Option Addr}{n cap:Nat}{l:List CondD}(h:Cnm w f a n cap l):Cnm w (f+1) a n cap l:=by
 obtain⟨hn,hc,hb,hi⟩:=h
 refine⟨hn,hc,hb,fun i h=> ?_⟩
 obtain⟨b,off,o,g,z,x1,x2,x3,x4,x5,x6,nm,a',n',cap',ha,h0,h1,h2,h3,h4,h5,h6,h7,he⟩:=hi i h
 exact⟨b,off,o,g,z,x1,x2,x3,x4,x5,x6,nm,a',n',cap',ha,h0,h1,h2,h3,h4,h5,h6,h7,he.mono _⟩
theorem open_claim{fuel:Nat}{cs:List Value}{y:DataW H×List MemPlace}(h:trO enc w sp hd fuel 31 cs=some y)(hb:Rows.uptoBulk y.1≤B)(hB:B≤1048576):
 ∃f c,Clm w f (.agg cs.toArray) c:=by
 obtain⟨zs,m,rfl,rfl,hl2,hx2,hf⟩:=DataW.trod_struct Tryz.underlying31 h
 rw[c31] at hl2
 obtain⟨u0,u1,u2,u3,u4,u5,u6,u7,u8,u9,rfl⟩:=len10 hl2
 obtain⟨z0,z1,z2,z3,rfl⟩:=len4 (l:=zs) hx2
 have h0:trO enc w sp hd m 27 [u0,u1,u2,u3,u4,u5,u6]=some z0:=by have q:=fld hf 0 rfl c27;exact q
 have h1:trO enc w sp hd m 4 [u7]=some z1:=by have q:=fld hf 1 rfl c4;exact q
 have h2:trO enc w sp hd m 28 [u8]=some z2:=by have q:=fld hf 2 rfl c28;exact q
 have h3:trO enc w sp hd m 29 [u9]=some z3:=by have q:=fld hf 3 rfl c29;exact q
 obtain⟨-,t,ht⟩:=open_expr m h0 (bulk_at hb (by simp)) hB
 obtain⟨st,e1,-⟩:=DataW.trod_bool Tryz.underlying4 h1
 obtain⟨a1,n1,c1,l1,e2,hbx⟩:=open_box h2 (bulk_at hb (by simp)) hB
 obtain⟨a2,n2,c2,l2,e3,hcn⟩:=open_conds h3 (bulk_at hb (by simp)) hB
 obtain⟨o,g,z,x1,x2,x3,x4,x5,x6,nm,a',n',cap',e0⟩:=ht.cells
 simp only[List.cons.injEq,and_true] at e0 e1 e2 e3
 obtain⟨e4,e5,e6,e7,e8,e9,e10⟩:=e0
 subst e1 e2 e3 e4 e5 e6 e7 e8 e9 e10
 exact⟨m,⟨t,st,l1,l2⟩,o,g,z,x1,x2,x3,x4,x5,x6,nm,a',n',cap',a1,n1,c1,a2,n2,c2,rfl,ht,hbx,hcn⟩
end
end
section
open Go Go.RowKit Go.Dig
open Go.Eng (Kept KW KeptB)
theorem Cnm.sub{w w':World}{f:Nat}{a:Option Addr}{n cap:Nat}{l:List CondD}(h:Cnm w f a n cap l)(k:Sub w w'):Cnm w' f a n cap l:=by
 obtain⟨hn,hc,hb,hi⟩:=h
 refine⟨hn,hc,hb,fun i h=> ?_⟩
 obtain⟨b,off,o,g,z,x1,x2,x3,x4,x5,x6,nm,a',n',cap',ha,h0,h1,h2,h3,h4,h5,h6,h7,he⟩:=hi i h
 exact⟨b,off,o,g,z,x1,x2,x3,x4,x5,x6,nm,a',n',cap',ha,k _ _ h0,k _ _ h1,k _ _ h2,k _ _ h3,k _ _ h4,k _ _ h5,k _ _ h6,k _ _ h7,he.sub k⟩
theorem Clm.sub{w w':World}{f:Nat}{v:Value}{c:ClaimD}(h:Clm w f v c)(k:Sub w w'):Clm w' f v c:=by
 obtain⟨o,g,z,x1,x2,x3,x4,x5,x6,nm,a0,n0,cap0,a1,n1,cap1,a2,n2,cap2,rfl,h1,h2,h3⟩:=h
 exact⟨o,g,z,x1,x2,x3,x4,x5,x6,nm,a0,n0,cap0,a1,n1,cap1,a2,n2,cap2,rfl,h1.sub k,h2.sub k,h3.sub k⟩
def RowsIs{α:Type}(R:List Value→α→Prop)(sz:Nat)(cs:List Value)(ts:List α):Prop:=
 cs.length=ts.length*sz∧∀(i:Nat)(h:i<ts.length),R ((cs.drop (i*sz)).take sz) ts[i]
theorem RowsIs.nil{α:Type}(R:List Value→α→Prop)(sz:Nat):RowsIs R sz [] []:=⟨by simp,fun i h=>absurd h (Nat.not_lt_zero i)⟩
theorem RowsIs.mono{α:Type}{R R':List Value→α→Prop}{sz:Nat}{cs:List Value}{ts:List α}(h:RowsIs R sz cs ts)(k:∀l t,R l t→R' l t):RowsIs R' sz cs ts:=
 ⟨h.1,fun i hi=>k _ _ (h.2 i hi)⟩
theorem RowsIs.snoc{α:Type}{R:List Value→α→Prop}{sz:Nat}{cs:List Value}{ts:List α}(h:RowsIs R sz cs ts){l:List Value}{t:α}(hl:l.length=sz)(hr:R l t):RowsIs R sz (cs++l) (ts++[t]):=by
 refine⟨by rw[List.length_append,List.length_append,h.1,hl,List.length_singleton,Nat.succ_mul],fun i hi=> ?_⟩
 by_cases hlt:i<ts.length
 ·rw[List.getElem_append_left hlt]
  have hle:i*sz+sz≤cs.length:=by
   rw[h.1,←Nat.succ_mul]
   exact Nat.mul_le_mul_right sz hlt
  rw[List.drop_append_of_le_length (by omega),List.take_append_of_le_length (by rw[List.length_drop];omega)]
  exact h.2 i hlt
 ·have hi':i=ts.length:=by simp at hi;omega
  subst hi'
  rw[List.getElem_append_right (Nat.le_refl _)]
  simp only[Nat.sub_self,List.getElem_cons_zero]
  rw[←h.1,List.drop_left,List.take_of_length_le (by omega)]
  exact hr
theorem RowsIs.take_succ{α:Type}{R:List Value→α→Prop}{sz:Nat}{cs:List Value}{ts:List α}{k:Nat}(hk:k<ts.length)(h:RowsIs R sz cs (ts.take k)){l:List Value}(hl:l.length=sz)(hr:R l ts[k]):RowsIs R sz (cs++l) (ts.take (k+1)):=by
 rw[List.take_succ_eq_append_getElem hk]
 exact h.snoc hl hr
end
section
open Go Go.RowKit Go.Dig
open Go.Eng (Kept KW KeptB wp_region_kw kw_call)
end
section
open Go Go.RowKit Go.Dig
open Go.Eng (Kept KW KeptB wp_region_kw kw_call)
theorem Raw.keptB{w w':World}{v:Value}{m b:Nat}(h:Raw w v m)(k:KeptB w w' b)(hb:NoWords w b):Raw w' v m:=by
 obtain⟨a,n,cap,zs,e,h2,h3,h4,h5,h6⟩:=h
 refine⟨a,n,cap,zs,e,h2,h3,h4,h5,h6.keptB k fun i hi=> ?_⟩
 obtain⟨b',off,ha,hc⟩:=h6 i hi
 exact⟨b',off,ha,fun e=>hb (off+i) _ (e▸hc)⟩
theorem Blk.facts3{w:World}{b:Nat}{t:TypeId}{x0 x1 x2:Value}(h:Blk w b #[x0,x1,x2] t):w.cell? ⟨b,0,none⟩=some x0∧w.cell? ⟨b,1,none⟩=some x1∧w.cell? ⟨b,2,none⟩=some x2∧w.frozen? ⟨b,0,none⟩=false∧w.frozen? ⟨b,1,none⟩=false∧w.frozen? ⟨b,2,none⟩=false:=
 ⟨h.cell 0 rfl,h.cell 1 rfl,h.cell 2 rfl,h.frozen 0,h.frozen 1,h.frozen 2⟩
end
section
open Go Go.RowKit Go.Dig
open Go.Eng (Kept KW KeptB wp_region_kw kw_call)
theorem Ap.wsAb{w:World}{base:Nat}{v:Value}{n:Nat}{zs:Nat→Nat}(h:Ap w base v n zs):∃a cap,v= .slice a n cap∧n≤cap∧Ws (onlyW w (ab base)) a n zs:=by
 obtain⟨hl,⟨rfl,rfl⟩|⟨g,cap,cur,rfl,hb,hg,hn,_,hcs,ht⟩⟩:=h
 ·exact⟨none,0,rfl,Nat.le_refl _,fun i hi=>by omega⟩
 ·refine⟨_,cap,rfl,hn,fun i hi=>⟨g,0,rfl,?_⟩⟩
  rw[Nat.zero_add,cell_only,if_pos (by simpa [ab] using hb)]
  have hh:(cur.toList.take (n*1))[i]? =some (.int .u32 (zs i:Nat)):=by rw[ht];simp[hi]
  rw[Nat.mul_one,List.getElem?_take,if_pos hi,Array.getElem?_toList] at hh
  simp[World.cell?,hg,hh]
set_option maxHeartbeats 1000000 in
set_option maxRecDepth 100000 in
theorem clone_fresh{w:World}{a:Option Addr}{n cap m:Nat}(h:Raw w (.slice a n cap) m):
 Calls Tryz.prog 200 #[.slice a n cap] w fun e w'=>∃a' n' cap',e= .returned (.slice a' n' cap')∧Raw (onlyW w' (ab w.heap.size)) (.slice a' n' cap') m∧Kept w w':=by
 have hnil:=fun(w:World)(a:Option Addr)(n c:Nat)=>Lib.run_eql_slice_nil (P:=Tryz.prog) w 22 212 a n c 0 0 Tryz.underlying22
 cases a with
 |none=>
  go_enter Tryz.func200,Tryz.ntmps200
  go_wp2
  go_ret
  obtain⟨a',n',cap',zs,e,h2,h3,h4,h5,h6⟩:=h
  obtain⟨rfl,rfl,rfl⟩:=Value.slice.inj e
  have hn0:n=0:=by
   rcases Nat.eq_zero_or_pos n with h0|h0
   ·exact h0
   ·obtain⟨b,off,ha,-⟩:=h6 0 h0
    cases ha
  subst hn0
  exact⟨none,0,0,rfl,⟨none,0,0,zs,rfl,Nat.le_refl _,by omega,h4,h5,fun i hi=>absurd hi (Nat.not_lt_zero i)⟩,Kept.refl w⟩
 |some ad=>
  obtain⟨a',n',cap',zs,e,h2,h3,h4,h5,hx⟩:=h
  obtain⟨rfl,rfl,rfl⟩:=Value.slice.inj e
  have hap0:Ap (w.alloc (.cells #[] 212)) w.heap.size (.slice (some ⟨w.heap.size,0,none⟩) 0 0) 0 (fun _=>0):=World.ownsRow_made w _ 0 (Nat.le_refl _) (by unfold maxLen;omega) (by simp)
  have hk0:Kept w (w.alloc (.cells #[] 212)):=(Kept.refl _).alloc _
  have hx0:=hx.kept hk0
  go_enter Tryz.func200,Tryz.ntmps200
  go_wp2_with(at_builtin;refine wpList_append_list rfl (.tmp 5) (.tmp 6) 22 rfl Tryz.underlying22 w hk0 _ 0 0 (fun _=>0) rfl hap0 (some ad) n cap zs rfl hx0 (by omega) ?_;intro v' w1 hap2 hkw2)
  go_ret
  rw[Nat.zero_add] at hap2
  obtain⟨a2,cap2,rfl,hc2,hw2⟩:=(hap2.congr (ys:=zs) fun i hi=>by simp[cat]).wsAb
  exact⟨_,_,_,rfl,⟨a2,n,cap2,zs,rfl,hc2,h3,h4,h5,hw2⟩,hkw2⟩
end
section
open Go Go.RowKit Go.Dig Go.Deep
open Go.Eng (Kept KW KeptB wp_region_kw kw_call)
def S1(n:Nat)(v:Value):Nat→Bool:=fun b=>decide (n≤b)&&(some b != v.ownBlock)
structure Grow{α:Type}(W0 W:World)(b3:Nat)(e sz:Nat)(v:Value)(k:Nat)(cs:List Value)(R:World→List Value→α→Prop)(ts:List α):Prop where
 kb:KeptB W0 W b3
 own:W.ownsRow W0.heap.size e sz v k cs
 rows:RowsIs (R (onlyW W (S1 W0.heap.size v))) sz cs (ts.take k)
section
variable{α:Type}{W0 W W':World}{b3 e sz:Nat}{v:Value}{k:Nat}{cs:List Value}{R:World→List Value→α→Prop}{ts:List α}
theorem KeptB.thenKept{w w1 w2:World}{b:Nat}(h:KeptB w w1 b)(k:Kept w1 w2):KeptB w w2 b:=
 ⟨Nat.le_trans h.size k.size,fun c hc hne=>(k.old c (Nat.lt_of_lt_of_le hc h.size)).trans (h.old c hc hne),k.tape.trans h.tape,k.os.trans h.os,k.output.trans h.output⟩
theorem KeptB.thenB{w w1 w2:World}{b:Nat}(h:KeptB w w1 b)(k:KeptB w1 w2 b):KeptB w w2 b:=
 ⟨Nat.le_trans h.size k.size,fun c hc hne=>(k.old c (Nat.lt_of_lt_of_le hc h.size) hne).trans (h.old c hc hne),k.tape.trans h.tape,k.os.trans h.os,k.output.trans h.output⟩
theorem Grow.start(W0:World)(b3 e sz:Nat)(R:World→List Value→α→Prop)(ts:List α):Grow W0 W0 b3 e sz (.slice none 0 0) 0 [] R ts:=
 ⟨KeptB.refl W0 b3,World.ownsRow_nil W0 _ e sz,RowsIs.nil _ sz⟩
theorem Grow.kept(h:Grow W0 W b3 e sz v k cs R ts)(hR:∀w w',Sub w w'→∀l t,R w l t→R w' l t)(q:Kept W W'):Grow W0 W' b3 e sz v k cs R ts:=
 ⟨KeptB.thenKept h.kb q,own_kept h.own q,h.rows.mono (hR _ _ (only_move fun b hb hs=>⟨hs,q.old b hb⟩))⟩
theorem own_keptB{base n b:Nat}(h:W.ownsRow base e sz v n cs)(q:KeptB W W' b)(hb:b<base):W'.ownsRow base e sz v n cs:=by
 refine World.ownsRow.kept (row:=some b) h ⟨q.os,q.tape,q.output,q.size,fun c hc hne=>q.old c hc (fun e=>hne (by rw[e]))⟩ ?_
 cases hv:v.ownBlock with
 |none=>exact .inl rfl
 |some g=>
  refine .inr fun he=> ?_
  cases he
  have:=(World.ownsRow.lt h b hv).1
  omega
theorem Grow.store(h:Grow W0 W b3 e sz v k cs R ts)(hR:∀w w',Sub w w'→∀l t,R w l t→R w' l t)(q:KeptB W W' b3)(hb:b3<W0.heap.size):Grow W0 W' b3 e sz v k cs R ts:=
 ⟨KeptB.thenB h.kb q,own_keptB h.own q hb,h.rows.mono (hR _ _ (only_move fun b hc hs=>⟨hs,q.old b hc (by
   simp only[S1,Bool.and_eq_true,decide_eq_true_eq] at hs;omega)⟩))⟩
theorem Grow.shape(h:Grow W0 W b3 e sz v k cs R ts):∃a cap,v= .slice a k cap∧k≤cap∧(∀g,v.ownBlock=some g→W0.heap.size≤g∧g<W.heap.size):=by
 obtain⟨a,cap,rfl,hc,-,-⟩:=own_open h.own
 exact⟨a,cap,rfl,hc,fun g hg=>World.ownsRow.lt h.own g hg⟩
theorem Grow.append{v':Value}{l:List Value}(h:Grow W0 W b3 e sz v k cs R ts)(hR:∀w w',Sub w w'→∀l t,R w l t→R w' l t)(hsz:W0.heap.size≤W.heap.size)
 (ho:W'.ownsRow W0.heap.size e sz v' (k+1) (cs++l))(hg:W.grownBy W' v.ownBlock)(hb:v'.ownBlock=v.ownBlock∨∀g,v'.ownBlock=some g→W.heap.size≤g)(hl:l.length=sz)
 (hk:k<ts.length){S:Nat→Bool}(hr:R (onlyW W S) l ts[k])(hS:∀b,S b=true→W0.heap.size≤b∧some b≠v.ownBlock):Grow W0 W' b3 e sz v' (k+1) (cs++l) R ts:=by
 have hmv:∀T:Nat→Bool,(∀b,T b=true→W0.heap.size≤b∧some b≠v.ownBlock)→Sub (onlyW W T) (onlyW W' (S1 W0.heap.size v')):=by
  intro T hT
  refine only_move fun b hlt hs=>⟨?_,hg.block b hlt (fun he=>(hT b hs).2 he)⟩
  simp only[S1,Bool.and_eq_true,decide_eq_true_eq,bne_iff_ne]
  refine⟨(hT b hs).1,fun he=> ?_⟩
  rcases hb with hb|hb
  ·exact(hT b hs).2 (by rw[he,hb])
  ·have:=hb b he.symm;omega
 refine⟨⟨Nat.le_trans h.kb.size hg.size,fun c hc hne=> ?_,hg.tape.trans h.kb.tape,hg.os.trans h.kb.os,hg.output.trans h.kb.output⟩,ho,?_⟩
 ·refine(hg.block c (Nat.lt_of_lt_of_le hc hsz) (fun he=> ?_)).trans (h.kb.old c hc hne)
  have:=(World.ownsRow.lt h.own c he.symm).1
  omega
 ·refine RowsIs.take_succ hk (h.rows.mono (hR _ _ (hmv _ fun b hs=> ?_))) hl (hR _ _ (hmv S hS) _ _ hr)
  simpa [S1] using hs
end
theorem step_append_grow{w:World}{ops:Array Oper}{o:Oper}{a:Act}{K:Act→World→Prop}{Q:Exit→Act→World→Prop}{E:Prop}(hgd:o.guard=none)(s x:Operand)(t:TypeId)
 (ho:o.op= .call {callee:=.builtin .append,args:=#[s,x],argTypes:=#[t,t]}){e:TypeId}{z:Value}{sz by_:Nat}(hi:InfoIs e z sz by_)(ht:Tryz.prog.underlying t=some (.slice e))(hz:z.cells.size=sz)(hsz:0<sz)(hby:by_≤1024)
 (base:Nat)(hbase:base≤w.heap.size)(v:Value)(n:Nat)(cs:List Value)(hs:a.eval s=v)(hown:w.ownsRow base e sz v n cs)
 (ad:Addr)(m c:Nat)(news:List Value)(hx:a.eval x= .slice (some ad) m c)(hl:news.length=m*sz)(hnews:∀j u,news[j]? =some u→w.cell? (ad.add j)=some u)(h1:∀u∈news,u.oneCell'=true)(hm:0<m)(hb:n+m≤1099511627)
 (h:∀v' w',w'.ownsRow base e sz v' (n+m) (cs++news)→w.grownBy w' v.ownBlock→(v'.ownBlock=v.ownBlock∨∀g,v'.ownBlock=some g→w.heap.size≤g)→K (a.put o.dst v') w'):
 if Region.wanted o (yielded ops a.tmps)=true then Oper.wp Tryz.prog o a w K Q else E:=by
 obtain⟨i0,hi,hz0,hz1,hz2⟩:=hi
 refine step_append_lies w hgd s x t ho base e i0 z sz by_ ht hi hz0 hz1 hz2 hz hsz v n cs hs hown ad m c news hx hl hnews h1 hm (by unfold maxLen;omega) (Nat.le_trans (Nat.mul_le_mul hb hby) (by decide)) hbase w.heap.size rfl ?_
 intro g cap w' h1 h2 h3 _
 refine h _ w' h1 h2 ?_
 rcases h3 with h3|h3
 ·exact .inl h3.symm
 ·refine .inr fun g' hg'=> ?_
  cases hg'
  exact Nat.le_of_eq h3.symm
theorem Ex.mk{w:World}{f:Nat}{op arg:Int}{s:Bool}{N D:Nat}{name:ByteArray}{kids:List Tree}{x1:Option Addr}{x2 x3:Nat}{x4:Option Addr}{x5 x6:Nat}{a:Option Addr}{cap:Nat}{cs:List Value}
 (hc:kids.length≤cap)(hr:Rt w (.agg #[.bool s,.slice x1 x2 x3,.slice x4 x5 x6]) s N D)(hn:kids.length<4611686018427387904)
 (hcell:∀i,i<cs.length→∃b,a=some ⟨b,0,none⟩∧w.cell? ⟨b,i,none⟩=cs[i]?)(hk:RowsIs (fun l t=>Ex w f (.agg l.toArray) t) 7 cs kids):
 Ex w (f+1) (.agg #[.int .i64 op,.int .i64 arg,.bool s,.slice x1 x2 x3,.slice x4 x5 x6,.string name,.slice a kids.length cap]) (.node op arg s N D name kids):=by
 refine⟨x1,x2,x3,x4,x5,x6,a,cap,rfl,hc,hr,hn,fun i h=> ?_⟩
 have hlen:i*7+7≤cs.length:=by rw[hk.1];omega
 obtain⟨b,ha,-⟩:=hcell (i*7) (by omega)
 refine⟨b,0,((cs.drop (i*7)).take 7).toArray,ha,by simp;omega,fun j hj=> ?_,hk.2 i h⟩
 obtain⟨b',ha',hc'⟩:=hcell (i*7+j) (by omega)
 rw[ha] at ha'
 cases ha'
 rw[show 0+7*i+j=i*7+j by omega,hc']
 simp[hj]
end
section
open Go Go.RowKit Go.Dig Go.Deep
open Go.Eng (Kept KW KeptB wp_region_kw kw_call)
theorem wpList_append_grow{w:World}{ops:Array Oper}{rest:List Oper}{o:Oper}{a:Act}{Q:Exit→Act→World→Prop}(hgd:o.guard=none)(s x:Operand)(t:TypeId)
 (ho:o.op= .call {callee:=.builtin .append,args:=#[s,x],argTypes:=#[t,t]}){e:TypeId}{z:Value}{sz by_:Nat}(hi:InfoIs e z sz by_)(ht:Tryz.prog.underlying t=some (.slice e))(hz:z.cells.size=sz)(hsz:0<sz)(hby:by_≤1024)
 (base:Nat)(hbase:base≤w.heap.size)(v:Value)(n:Nat)(cs:List Value)(hs:a.eval s=v)(hown:w.ownsRow base e sz v n cs)
 (ad:Addr)(m c:Nat)(news:List Value)(hx:a.eval x= .slice (some ad) m c)(hl:news.length=m*sz)(hnews:∀j u,news[j]? =some u→w.cell? (ad.add j)=some u)(h1:∀u∈news,u.oneCell'=true)(hm:0<m)(hb:n+m≤1099511627)
 (h:∀v' w',w'.ownsRow base e sz v' (n+m) (cs++news)→w.grownBy w' v.ownBlock→(v'.ownBlock=v.ownBlock∨∀g,v'.ownBlock=some g→w.heap.size≤g)→wpList Tryz.prog ops Q rest (a.put o.dst v') w'):
 wpList Tryz.prog ops Q (o::rest) a w:=by
 obtain⟨i0,hi,hz0,hz1,hz2⟩:=hi
 refine wpList_append_lies w hgd s x t ho base e i0 z sz by_ ht hi hz0 hz1 hz2 hz hsz v n cs hs hown ad m c news hx hl hnews h1 hm (by unfold maxLen;omega) (Nat.le_trans (Nat.mul_le_mul hb hby) (by decide)) hbase w.heap.size rfl ?_
 intro g cap w' h1 h2 h3 _
 refine h _ w' h1 h2 ?_
 rcases h3 with h3|h3
 ·exact .inl h3.symm
 ·refine .inr fun g' hg'=> ?_
  cases hg'
  exact Nat.le_of_eq h3.symm
def sideR:World→List Value→SideD→Prop:=fun W l d=>∃(s1:Bool)(a1:Option Addr)(n1 c1:Nat)(a2:Option Addr)(n2 c2:Nat)(s2:Bool)(a3:Option Addr)(n3 c3:Nat)(a4:Option Addr)(n4 c4:Nat)(p q:Bool),
 l=[.string d.name,.bool s1,.slice a1 n1 c1,.slice a2 n2 c2,.bool s2,.slice a3 n3 c3,.slice a4 n4 c4,.bool p,.bool q]∧
 Ivl W (.agg #[.bool s1,.slice a1 n1 c1,.slice a2 n2 c2,.bool s2,.slice a3 n3 c3,.slice a4 n4 c4,.bool p,.bool q]) d.iv
theorem Bxm.mk{w:World}{a:Option Addr}{cap:Nat}{l:List SideD}{cs:List Value}(hc:l.length≤cap)(hn:l.length<4611686018427387904)
 (hcell:∀i,i<cs.length→∃b,a=some ⟨b,0,none⟩∧w.cell? ⟨b,i,none⟩=cs[i]?)(hk:RowsIs (sideR w) 9 cs l):Bxm w a l.length cap l:=by
 refine⟨rfl,hc,hn,fun i h=> ?_⟩
 have hlen:i*9+9≤cs.length:=by rw[hk.1];omega
 obtain⟨b,ha,-⟩:=hcell (i*9) (by omega)
 obtain⟨s1,a1,n1,c1,a2,n2,c2,s2,a3,n3,c3,a4,n4,c4,p,q,e,hv⟩:=hk.2 i h
 have hat:∀j(u:Value),j<9→[Value.string l[i].name,.bool s1,.slice a1 n1 c1,.slice a2 n2 c2,.bool s2,.slice a3 n3 c3,.slice a4 n4 c4,.bool p,.bool q][j]? =some u→w.cell? ⟨b,0+i*9+j,none⟩=some u:=by
  intro j u hj hu
  obtain⟨b',ha',hc'⟩:=hcell (i*9+j) (by omega)
  rw[ha] at ha'
  cases ha'
  rw[Nat.zero_add,hc',←hu,←e]
  simp[hj]
 exact⟨b,0,s1,a1,n1,c1,a2,n2,c2,s2,a3,n3,c3,a4,n4,c4,p,q,ha,hat 0 _ (by decide) rfl,hat 1 _ (by decide) rfl,hat 2 _ (by decide) rfl,hat 3 _ (by decide) rfl,hat 4 _ (by decide) rfl,hat 5 _ (by decide) rfl,hat 6 _ (by decide) rfl,hat 7 _ (by decide) rfl,hat 8 _ (by decide) rfl,hv⟩
theorem only_keep{w w':World}{S:Nat→Bool}(k:Kept w w'):Sub (onlyW w S) (onlyW w' S):=only_move fun b hb hs=>⟨hs,k.old b hb⟩
theorem Ws.store{w w':World}{S:Nat→Bool}{a:Option Addr}{n b:Nat}{zs:Nat→Nat}(h:Ws (onlyW w S) a n zs)(k:KeptB w w' b)(hb:NoWords w b):Ws (onlyW w' S) a n zs:=fun i hi=>by
 obtain⟨b',off,e,hc⟩:=h i hi
 refine⟨b',off,e,?_⟩
 rw[cell_only] at hc⊢
 split at hc
 ·rename_i hs
  rw[if_pos hs]
  exact k.cell hc (fun he=>hb _ _ (by rw[←he];exact hc))
 ·cases hc
theorem Rt.store{w w':World}{S:Nat→Bool}{v:Value}{neg:Bool}{N D b:Nat}(h:Rt (onlyW w S) v neg N D)(k:KeptB w w' b)(hb:NoWords w b):Rt (onlyW w' S) v neg N D:=by
 obtain⟨vn,vd,e,⟨a,n,cap,zs,g1,g2,g3,g4,g5,g6⟩,⟨a',n',cap',zs',f1,f2,f3,f4,f5,f6⟩⟩:=h
 exact⟨vn,vd,e,⟨a,n,cap,zs,g1,g2,g3,g4,g5,g6.store k hb⟩,⟨a',n',cap',zs',f1,f2,f3,f4,f5,f6.store k hb⟩⟩
end
end Go.Proofs.YtancebninmoipaaGreatDoor
