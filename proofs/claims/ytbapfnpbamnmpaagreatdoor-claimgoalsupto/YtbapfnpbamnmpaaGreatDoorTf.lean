/- A part of the proof that ClaimGoals answers true for every input of bulk at most 1048576: conditions: the row's own. -/
import Derived.Test.YtbapfnpbamnmpaaGreatDoorTb
import Derived.Test.YtbapfnpbamnmpaaGreatDoorTe
namespace Go.Proofs.YtbapfnpbamnmpaaGreatDoor
open Go Go.RowKit Go.Dig Go.Deep
open Go.Eng (Kept KW KeptB)
mutual
def nodesT:Tree→Nat
 | .node _ _ _ _ _ _ kids=>nodesL kids+1
def nodesL:List Tree→Nat
 |[]=>0
 |t::ts=>nodesT t+nodesL ts
end
mutual
def varsT:Tree→List ByteArray
 | .node op _ _ _ _ name kids=>if op=2 then [name] else varsL kids
def varsL:List Tree→List ByteArray
 |[]=>[]
 |t::ts=>varsT t++varsL ts
end
mutual
theorem cnt_nodes:∀(t:Tree)(d m m':Nat),cnt t d m=some m'→m'=m+nodesT t
 | .node op arg s N D name kids,d,m,m'=>by
   intro h
   rw[cnt] at h
   split at h
   ·cases h
   ·have:=cnts_nodes kids (d+1) (m+1) m' h
    rw[nodesT];omega
theorem cnts_nodes:∀(ts:List Tree)(d m m':Nat),cnts ts d m=some m'→m'=m+nodesL ts
 |[],d,m,m'=>by
  intro h
  rw[cnts] at h
  cases h
  simp[nodesL]
 |t::ts,d,m,m'=>by
  intro h
  rw[cnts] at h
  cases h1:cnt t d m with
  |none=>rw[h1] at h;cases h
  |some m1=>
   rw[h1] at h
   have h2:=cnt_nodes t d m m1 h1
   have h3:=cnts_nodes ts d m1 m' h
   rw[nodesL];omega
end
theorem Tree.ok_nodes{t:Tree}(h:t.ok=true):nodesT t≤300:=by
 unfold Tree.ok at h
 obtain⟨m,hm⟩:=Option.isSome_iff_exists.1 h
 have h1:=cnt_nodes _ _ _ _ hm
 have h2:=cnt_le _ _ _ _ hm
 omega
def RetNames(ss vs:List ByteArray)(n:Nat)(w:World)(e:Ending)(w':World):Prop:=
 ∃(a:Option Addr)(n' cap:Nat)(ts:List ByteArray),e= .returned (.slice a n' cap)∧SL w' a n' ts∧n'≤cap∧n'≤n∧(∀x,x∈ts↔x∈ss∨x∈vs)∧Kept w w'
theorem varsL_take{kids:List Tree}{k:Nat}(h:k<kids.length)(x:ByteArray):x∈varsL (kids.take (k+1))↔x∈varsL (kids.take k)∨x∈varsT kids[k]:=by
 have app:∀(a b:List Tree),varsL (a++b)=varsL a++varsL b:=by
  intro a b
  induction a with
  |nil=>simp[varsL]
  |cons t ts ih=>simp[varsL,ih]
 rw[List.take_succ_eq_append_getElem h,app]
 simp[varsL]
theorem nodesL_drop{kids:List Tree}{k:Nat}(h:k<kids.length):nodesL (kids.drop k)=nodesT kids[k]+nodesL (kids.drop (k+1)):=by
 rw[List.drop_eq_getElem_cons h,nodesL]
set_option maxHeartbeats 2000000 in
set_option maxRecDepth 100000 in
theorem names04_calls:∀(f:Nat){w:World}{v:Value}{t:Tree},Ex w f v t→∀(a:Option Addr)(n cap:Nat)(ss:List ByteArray),SL w a n ss→n≤cap→n+nodesT t≤100000→
 Calls Tryz.prog 147 #[v,.slice a n cap] w (RetNames ss (varsT t) (n+nodesT t) w)
 |0,_,_,_,h=>h.elim
 |f+1,w,v,.node op arg s N D name kids,h=>by
  intro a n cap ss hsl hcap hb
  obtain⟨x1,x2,x3,x4,x5,x6,a0,cap0,rfl,hc,hn,hr⟩:=h.shape
  have hkid:=fun(i:Nat)(hi:i<kids.length)=>h.kid hi
  clear h hr
  have hk:Kept w (w.alloc (.cells #[.int .i64 op,.int .i64 arg,.bool s,.slice x1 x2 x3,.slice x4 x5 x6,.string name,.slice a0 kids.length cap0] 27)):=(Kept.refl w).alloc _
  have hbx:=Blk.new w #[.int .i64 op,.int .i64 arg,.bool s,.slice x1 x2 x3,.slice x4 x5 x6,.string name,.slice a0 kids.length cap0] 27
  have HNT:Hid (nodesT (.node op arg s N D name kids)=nodesL kids+1):=Lib.hid (by rw[nodesT])
  have HB:=Lib.hid hb;clear hb
  by_cases h2:op=2
  ·subst h2
   have HV:Hid (varsT (.node 2 arg s N D name kids)=[name]):=Lib.hid (by rw[varsT,if_pos rfl])
   have hp:=put_calls (hsl.kept hk) hcap (by have:=HB.out;omega) name
   clear hkid
   go_enter Tryz.func147,Tryz.ntmps147
   go_wp2_with(first|(go_at_call 241;refine hp.mono ?_;rintro e w1 ⟨a1,n1,c1,ts,rfl,hsl1,hc1,hn1,hm1,hk1⟩))
   go_ret
   exact⟨a1,n1,c1,ts,rfl,hsl1,hc1,by rw[HNT.out];omega,fun x=>by rw[hm1,HV.out];simp,hk.trans hk1⟩
  have t2:(op==2)=false:=by simpa using h2
  have HV:Hid (varsT (.node op arg s N D name kids)=varsL kids):=Lib.hid (by rw[varsT,if_neg h2])
  go_enter Tryz.func147,Tryz.ntmps147
  go_wp2
  go_loopw [1,5] (fun c i wr=>∃(k n':Nat)(a':Option Addr)(cap':Nat)(ts:List ByteArray),k≤kids.length∧i= .int .i64 (k:Int)∧c= .slice a' n' cap'∧n'≤cap'∧SL wr a' n' ts∧
   n'+nodesL (kids.drop k)≤n+nodesL kids∧(∀x,x∈ts↔x∈ss∨x∈varsL (kids.take k))∧Kept w wr∧
   Kept (w.alloc (.cells #[.int .i64 op,.int .i64 arg,.bool s,.slice x1 x2 x3,.slice x4 x5 x6,.string name,.slice a0 kids.length cap0] 27)) wr) (fun _ i _=>kids.length-(intOf i).toNat)
  case atStart=>exact⟨0,n,a,cap,ss,Nat.zero_le _,rfl,rfl,hcap,hsl.kept hk,by simp,fun x=>by simp[varsL],hk,Kept.refl _⟩
  case round=>
   obtain⟨k,n',a',cap',ts,hkl,rfl,rfl,hcap',hsl',hnn,hmem,hkw,hkb⟩:=hrel
   have HM:=Lib.hid hmem;clear hmem
   have HNN:=Lib.hid hnn;clear hnn
   obtain⟨-,-,-,-,-,-,e6,-⟩:=(hbx.kept hkb).facts7
   by_cases hlt:k<kids.length
   ·obtain⟨b,off,o,g,z,u1,u2,u3,u4,u5,u6,nm,a',n',cap',rfl,c0,c1,c2,c3,c4,c5,c6,hex⟩:=hkid k hlt
    replace c0:=hkw.cell c0
    replace c1:=hkw.cell c1
    replace c2:=hkw.cell c2
    replace c3:=hkw.cell c3
    replace c4:=hkw.cell c4
    replace c5:=hkw.cell c5
    replace c6:=hkw.cell c6
    have hnd:=nodesL_drop hlt
    have hih:=names04_calls f (hex.kept hkw) _ _ _ _ hsl' hcap' (by have:=HB.out;have:=HNN.out;have:=HNT.out;omega)
    have HND:=Lib.hid hnd;clear hnd
    clear hkid hex
    go_wp2_with(first|(go_at_call 147;refine hih.mono ?_;rintro e w2 ⟨a2,n2,c2',ts2,rfl,hsl2,hc2,hn2,hm2,hk2⟩))
    go_roundw
    case rel=>exact⟨k+1,n2,a2,c2',ts2,by omega,by go_num,rfl,hc2,hsl2,by have:=HND.out;have:=HNN.out;omega,fun x=>by rw[hm2,HM.out,varsL_take hlt,or_assoc],hkw.trans hk2,hkb.trans hk2⟩
    case measure=>simp[intOf];omega
   ·obtain rfl:kids.length=k:=by omega
    clear hkid
    go_wp2
    go_ret
    exact⟨a',n',cap',ts,rfl,hsl',hcap',by have h1:=HNN.out;rw[List.drop_length,nodesL] at h1;have:=HNT.out;omega,fun x=>by rw[HM.out,HV.out,List.take_length],hkw⟩
end Go.Proofs.YtbapfnpbamnmpaaGreatDoor
