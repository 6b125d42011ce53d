/- A part of the proof that ClaimGoals answers true for every input of bulk at most 1048576: conditions: the row's own. -/
import Derived.Test.YtbapfnpbamnmpaaGreatDoorTd
section
namespace Go.Proofs.YtbapfnpbamnmpaaGreatDoor
open Go Go.RowKit Go.Dig
open Go.Eng (Kept KW KeptB)
inductive Tree where
 |node (op arg:Int) (s:Bool) (N D:Nat) (name:ByteArray) (kids:List Tree)
def Ex(w:World):Nat→Value→Tree→Prop
 |0,_,_=>False
 |f+1,v,.node op arg s N D name kids=>∃(x1:Option Addr)(x2 x3:Nat)(x4:Option Addr)(x5 x6:Nat)(a:Option Addr)(cap:Nat),
   v= .agg #[.int .i64 op,.int .i64 arg,.bool s,.slice x1 x2 x3,.slice x4 x5 x6,.string name,.slice a kids.length cap]∧kids.length≤cap∧
   Rt w (.agg #[.bool s,.slice x1 x2 x3,.slice x4 x5 x6]) s N D∧kids.length<4611686018427387904∧
   ∀(i:Nat)(h:i<kids.length),∃(b off:Nat)(cs:Array Value),a=some ⟨b,off,none⟩∧cs.size=7∧
    (∀j,j<7→w.cell? ⟨b,off+7*i+j,none⟩=cs[j]?)∧Ex w f (.agg cs) kids[i]
theorem Ex.kept{w w':World}(k:Kept w w'):∀(f:Nat){v:Value}{t:Tree},Ex w f v t→Ex w' f v t
 |0,_,_,h=>h.elim
 |f+1,v,.node op arg s N D name kids,⟨x1,x2,x3,x4,x5,x6,a,cap,hv,hc,hr,hn,hk⟩=>by
  refine⟨x1,x2,x3,x4,x5,x6,a,cap,hv,hc,hr.kept k,hn,fun i h=> ?_⟩
  obtain⟨b,off,cs,ha,hs,hcell,he⟩:=hk i h
  refine⟨b,off,cs,ha,hs,fun j hj=> ?_,Ex.kept k f he⟩
  have h1:=hcell j hj
  rw[Array.getElem?_eq_getElem (by omega)] at h1⊢
  exact k.cell h1
mutual
def cnt:Tree→Nat→Nat→Option Nat
 | .node op arg s N D name kids,d,m=>if 300<m+1∨30<d∨nodeOk op arg s N D name kids.length=false then none else cnts kids (d+1) (m+1)
def cnts:List Tree→Nat→Nat→Option Nat
 |[],_,m=>some m
 |t::ts,d,m=>match cnt t d m with
  |none=>none
  |some m'=>cnts ts d m'
end
mutual
theorem cnt_le:∀(t:Tree)(d m m':Nat),cnt t d m=some m'→m<m'∧m'≤300
 | .node op arg s N D name kids,d,m,m'=>by
   intro h
   rw[cnt] at h
   split at h
   ·cases h
   ·have:=cnts_le kids (d+1) (m+1) m' (by omega) h
    omega
theorem cnts_le:∀(ts:List Tree)(d m m':Nat),m≤300→cnts ts d m=some m'→m≤m'∧m'≤300
 |[],d,m,m'=>by
  intro hm h
  rw[cnts] at h
  cases h
  omega
 |t::ts,d,m,m'=>by
  intro hm h
  rw[cnts] at h
  cases h1:cnt t d m with
  |none=>rw[h1] at h;cases h
  |some m1=>
   rw[h1] at h
   have h2:=cnt_le t d m m1 h1
   have h3:=cnts_le ts d m1 m' h2.2 h
   omega
end
end Go.Proofs.YtbapfnpbamnmpaaGreatDoor
end
section
namespace Go.Proofs.YtbapfnpbamnmpaaGreatDoor
open Go Go.RowKit Go.Dig
open Go.Eng (Kept KW KeptB)
theorem Ex.kid{w:World}{f:Nat}{op arg:Int}{s:Bool}{N D:Nat}{name:ByteArray}{kids:List Tree}{y1 y2 y3 y4 y5:Value}{name':Value}{a:Option Addr}{n cap:Nat}
 (h:Ex w (f+1) (.agg #[y1,y2,y3,y4,y5,name',.slice a n cap]) (.node op arg s N D name kids)){i:Nat}(hi:i<kids.length):
 ∃(b off:Nat)(o g:Int)(z:Bool)(x1:Option Addr)(x2 x3:Nat)(x4:Option Addr)(x5 x6:Nat)(nm:ByteArray)(a':Option Addr)(n' cap':Nat),
  a=some ⟨b,off,none⟩∧
  w.cell? ⟨b,off+i*7,none⟩=some (.int .i64 o)∧w.cell? ⟨b,off+i*7+1,none⟩=some (.int .i64 g)∧w.cell? ⟨b,off+i*7+2,none⟩=some (.bool z)∧
  w.cell? ⟨b,off+i*7+3,none⟩=some (.slice x1 x2 x3)∧w.cell? ⟨b,off+i*7+4,none⟩=some (.slice x4 x5 x6)∧w.cell? ⟨b,off+i*7+5,none⟩=some (.string nm)∧
  w.cell? ⟨b,off+i*7+6,none⟩=some (.slice a' n' cap')∧
  Ex w f (.agg #[.int .i64 o,.int .i64 g,.bool z,.slice x1 x2 x3,.slice x4 x5 x6,.string nm,.slice a' n' cap']) (kids[i]):=by
 obtain⟨x1,x2,x3,x4,x5,x6,a0,cap0,hv,hc,hr,hn,hk⟩:=h
 obtain⟨b,off,cs,ha,hs,hcell,he⟩:=hk i hi
 injection hv with hv
 simp only[Array.mk.injEq,List.cons.injEq,Value.slice.injEq] at hv
 obtain⟨-,-,-,-,-,-,⟨rfl,rfl,rfl⟩,-⟩:=hv
 cases f with
 |zero=>exact he.elim
 |succ f=>
  obtain⟨o,g,z,N',D',nm,ks,e⟩:∃o g z N' D' nm ks,kids[i]=Tree.node o g z N' D' nm ks:=by cases kids[i];exact⟨_,_,_,_,_,_,_,rfl⟩
  rw[e] at he⊢
  have he':=he
  obtain⟨u1,u2,u3,u4,u5,u6,a',cap',hv,-⟩:=he
  injection hv with hv
  subst hv
  have e7:7*i=i*7:=Nat.mul_comm _ _
  rw[e7] at hcell
  exact⟨b,off,o,g,z,u1,u2,u3,u4,u5,u6,nm,a',_,cap',ha,hcell 0 (by omega),hcell 1 (by omega),hcell 2 (by omega),hcell 3 (by omega),hcell 4 (by omega),hcell 5 (by omega),hcell 6 (by omega),he'⟩
theorem Ex.shape{w:World}{f:Nat}{v:Value}{op arg:Int}{s:Bool}{N D:Nat}{name:ByteArray}{kids:List Tree}(h:Ex w (f+1) v (.node op arg s N D name kids)):
 ∃(x1:Option Addr)(x2 x3:Nat)(x4:Option Addr)(x5 x6:Nat)(a:Option Addr)(cap:Nat),
  v= .agg #[.int .i64 op,.int .i64 arg,.bool s,.slice x1 x2 x3,.slice x4 x5 x6,.string name,.slice a kids.length cap]∧kids.length≤cap∧kids.length<4611686018427387904∧
  Rt w (.agg #[.bool s,.slice x1 x2 x3,.slice x4 x5 x6]) s N D:=by
 obtain⟨x1,x2,x3,x4,x5,x6,a0,cap0,hv,hc,hr,hn,hk⟩:=h
 exact⟨_,_,_,_,_,_,_,_,hv,hc,hn,hr⟩
set_option maxHeartbeats 2000000 in
set_option maxRecDepth 100000 in
theorem count_calls:∀(f:Nat){w:World}{v:Value}{t:Tree},Ex w f v t→Laid w→∀(d m:Nat),d≤31→m≤300→
 Calls Tryz.prog 150 #[v,.int .i64 (d:Int),.int .i64 (m:Int)] w fun e w'=>e= .returned (.int .i64 (((cnt t d m).getD 301:Nat):Int))∧Kept w w'
 |0,_,_,_,h=>h.elim
 |f+1,w,v,.node op arg s N D name kids,h=>by
  intro hT d m hd hm
  obtain⟨x1,x2,x3,x4,x5,x6,a,cap,rfl,hc,hn,hr⟩:=h.shape
  have hkid:=fun(i:Nat)(hi:i<kids.length)=>h.kid hi
  clear h
  have ed:((d+1:Nat):Int)=(d:Int)+1:=by omega
  by_cases h1:300<m+1
  ·have HC:Hid (cnt (.node op arg s N D name kids) d m=none):=Lib.hid (by rw[cnt,if_pos (.inl h1)])
   have t1:decide ((m:Int)+1>300)=true:=by simp;omega
   clear hkid hr hn
   go_enter Tryz.func150,Tryz.ntmps150
   go_wp2
   go_ret
   exact⟨by rw[HC.out];rfl,(Kept.refl w).alloc _⟩
  have t1:decide (300<(m:Int)+1)=false:=by simp;omega
  by_cases h2:30<d
  ·have HC:Hid (cnt (.node op arg s N D name kids) d m=none):=Lib.hid (by rw[cnt,if_pos (.inr (.inl h2))])
   have t2:decide (30<(d:Int))=true:=by simp;omega
   clear hkid hr hn
   go_enter Tryz.func150,Tryz.ntmps150
   go_wp2
   go_ret
   exact⟨by rw[HC.out];rfl,(Kept.refl w).alloc _⟩
  have t2:decide (30<(d:Int))=false:=by simp;omega
  have hf:=fun(w':World)(k:Kept w w')=>fields_calls (op:=op) (arg:=arg) (name:=name) (a:=a) (n:=kids.length) (cap:=cap) (hr.kept k) (hT.kept k)
  have hk:Kept w (w.alloc (.cells #[.int .i64 op,.int .i64 arg,.bool s,.slice x1 x2 x3,.slice x4 x5 x6,.string name,.slice a kids.length cap] 27)):=(Kept.refl w).alloc _
  have HK:=Lib.hid hk;clear hk
  cases hno:nodeOk op arg s N D name kids.length
  ·have HC:Hid (cnt (.node op arg s N D name kids) d m=none):=Lib.hid (by rw[cnt,if_pos (.inr (.inr hno))])
   rw[hno] at hf
   clear hkid hr hn
   go_enter Tryz.func150,Tryz.ntmps150
   go_wp2_with(first|(go_at_call 244;refine(hf _ HK.out).mono ?_;rintro e wa ⟨rfl,hka⟩))
   go_ret
   exact⟨by rw[HC.out];rfl,HK.out.trans hka⟩
  rw[hno] at hf
  have HC:Hid (cnt (.node op arg s N D name kids) d m=cnts kids (d+1) (m+1)):=Lib.hid (by rw[cnt,if_neg (by simp[hno];omega)])
  clear hr
  go_enter Tryz.func150,Tryz.ntmps150
  go_wp2_with(first|(go_at_call 244;refine(hf _ HK.out).mono ?_;rintro e wa ⟨rfl,hka⟩;obtain⟨-,-,-,-,-,-,e6,-⟩:=((Blk.new w #[.int .i64 op,.int .i64 arg,.bool s,.slice x1 x2 x3,.slice x4 x5 x6,.string name,.slice a kids.length cap] 27).kept hka).facts7))
  have hkb:=HK.out.trans hka
  clear hka HK hf
  go_loopw [2,25] (fun c i wr=>∃(k m':Nat),k≤kids.length∧i= .int .i64 (k:Int)∧c= .int .i64 (m':Int)∧m'≤300∧cnts (kids.drop k) (d+1) m'=cnts kids (d+1) (m+1)∧Kept w wr) (fun _ i _=>kids.length-(intOf i).toNat)
  case atStart=>exact⟨0,m+1,Nat.zero_le _,rfl,by go_num,by omega,rfl,hkb⟩
  case round=>
   obtain⟨k,m',hk,rfl,rfl,hm',hst,hkw⟩:=hrel
   have HST:=Lib.hid hst;clear hst
   by_cases hlt:k<kids.length
   ·obtain⟨b,off,o,g,z,u1,u2,u3,u4,u5,u6,nm,a',n',cap',rfl,c0,c1,c2,c3,c4,c5,c6,hex⟩:=hkid k hlt
    replace c0:=hkw.cell c0
    replace c1:=hkw.cell c1
    replace c2:=hkw.cell c2
    replace c3:=hkw.cell c3
    replace c4:=hkw.cell c4
    replace c5:=hkw.cell c5
    replace c6:=hkw.cell c6
    have hih:=fun(w':World)(hk':Kept w w')=>count_calls f (hex.kept hk') (hT.kept hk') (d+1) m' (by omega) hm'
    rw[ed] at hih
    clear hkid hex
    have hcs:cnts (kids.drop k) (d+1) m'=(cnt kids[k] (d+1) m').bind fun m2=>cnts (kids.drop (k+1)) (d+1) m2:=by
     rw[List.drop_eq_getElem_cons hlt,cnts]
     cases cnt kids[k] (d+1) m'<;>rfl
    rw[HST.out] at hcs
    have hk1:Kept w (wr.alloc (.cells #[.int .i64 o,.int .i64 g,.bool z,.slice u1 u2 u3,.slice u4 u5 u6,.string nm,.slice a' n' cap'] 27)):=hkw.alloc _
    have HK1:=Lib.hid hk1;clear hk1
    cases hcn:cnt kids[k] (d+1) m' with
    |none=>
     rw[hcn] at hih hcs
     have HCS:=Lib.hid hcs;clear hcs
     go_wp2_with(first|(go_at_call 150;refine(hih _ HK1.out).mono ?_;rintro e w2 ⟨rfl,hk2⟩))
     go_ret
     exact⟨by rw[HC.out,HCS.out];rfl,HK1.out.trans hk2⟩
    |some m2=>
     rw[hcn] at hih hcs
     have hm2:=(cnt_le _ _ _ _ hcn).2
     have HCS:=Lib.hid hcs;clear hcs
     have e2:(((some m2).getD 301:Nat):Int)=(m2:Int):=rfl
     rw[e2] at hih
     clear e2
     go_wp2_with(first|(go_at_call 150;refine(hih _ HK1.out).mono ?_;rintro e w2 ⟨rfl,hk2⟩))
     go_roundw
     case rel=>exact⟨k+1,m2,by omega,by go_num,rfl,hm2,HCS.out.symm,HK1.out.trans hk2⟩
     case measure=>simp[intOf];omega
   ·obtain rfl:kids.length=k:=by omega
    clear hkid
    go_wp2
    go_ret
    refine⟨?_,hkw⟩
    rw[HC.out,←HST.out]
    simp[cnts,go_sem]
end Go.Proofs.YtbapfnpbamnmpaaGreatDoor
end
section
namespace Go.Proofs.YtbapfnpbamnmpaaGreatDoor
open Go Go.RowKit Go.Dig
open Go.Eng (Kept KW KeptB)
def wres:Option Nat→Int
 |none=> -1
 |some m=>300-(m:Int)
set_option maxHeartbeats 2000000 in
set_option maxRecDepth 100000 in
theorem walk_calls:∀(f:Nat){w:World}{v:Value}{t:Tree},Ex w f v t→Laid w→∀(d m:Nat),d≤31→m≤300→
 Calls Tryz.prog 144 #[v,.int .i64 (d:Int),.int .i64 (300-(m:Int))] w fun e w'=>e= .returned (.int .i64 (wres (cnt t d m)))∧Kept w w'
 |0,_,_,_,h=>h.elim
 |f+1,w,v,.node op arg s N D name kids,h=>by
  intro hT d m hd hm
  obtain⟨x1,x2,x3,x4,x5,x6,a,cap,rfl,hc,hn,hr⟩:=h.shape
  have hkid:=fun(i:Nat)(hi:i<kids.length)=>h.kid hi
  clear h
  have ed:((d+1:Nat):Int)=(d:Int)+1:=by omega
  by_cases h2:30<d
  ·have HC:Hid (cnt (.node op arg s N D name kids) d m=none):=Lib.hid (by rw[cnt,if_pos (.inr (.inl h2))])
   have t2:decide (30<(d:Int))=true:=by simp;omega
   clear hkid hr hn
   go_enter Tryz.func144,Tryz.ntmps144
   go_wp2
   go_ret
   exact⟨by rw[HC.out];rfl,(Kept.refl w).alloc _⟩
  have t2:decide (30<(d:Int))=false:=by simp;omega
  by_cases h1:300<m+1
  ·have HC:Hid (cnt (.node op arg s N D name kids) d m=none):=Lib.hid (by rw[cnt,if_pos (.inl h1)])
   have t1:decide (300-(m:Int)≤0)=true:=by simp;omega
   clear hkid hr hn
   go_enter Tryz.func144,Tryz.ntmps144
   go_wp2
   go_ret
   exact⟨by rw[HC.out];rfl,(Kept.refl w).alloc _⟩
  have t1:decide (300-(m:Int)≤0)=false:=by simp;omega
  have hf:=fun(w':World)(k:Kept w w')=>node_calls (op:=op) (arg:=arg) (name:=name) (a:=a) (n:=kids.length) (cap:=cap) (hr.kept k) hn
  have hk:Kept w (w.alloc (.cells #[.int .i64 op,.int .i64 arg,.bool s,.slice x1 x2 x3,.slice x4 x5 x6,.string name,.slice a kids.length cap] 27)):=(Kept.refl w).alloc _
  have HK:=Lib.hid hk;clear hk
  cases hno:nodeOk op arg s N D name kids.length
  ·have HC:Hid (cnt (.node op arg s N D name kids) d m=none):=Lib.hid (by rw[cnt,if_pos (.inr (.inr hno))])
   rw[hno] at hf
   clear hkid hr hn
   go_enter Tryz.func144,Tryz.ntmps144
   go_wp2_with(first|(go_at_call 239;refine(hf _ HK.out).mono ?_;rintro e wa ⟨rfl,hka⟩))
   go_ret
   exact⟨by rw[HC.out];rfl,HK.out.trans hka⟩
  rw[hno] at hf
  have HC:Hid (cnt (.node op arg s N D name kids) d m=cnts kids (d+1) (m+1)):=Lib.hid (by rw[cnt,if_neg (by simp[hno];omega)])
  clear hr
  have hbx:=Blk.new w #[.int .i64 op,.int .i64 arg,.bool s,.slice x1 x2 x3,.slice x4 x5 x6,.string name,.slice a kids.length cap] 27
  go_enter Tryz.func144,Tryz.ntmps144
  go_wp2_with(first|(go_at_call 239;refine(hf _ HK.out).mono ?_;rintro e wa ⟨rfl,hka⟩;replace hbx:=hbx.kept hka))
  have hkb:=HK.out.trans hka
  clear hka HK hf
  go_loopw [2,7] (fun c i wr=>∃(k m':Nat),k≤kids.length∧i= .int .i64 (k:Int)∧c= .int .i64 (300-(m':Int))∧m'≤300∧cnts (kids.drop k) (d+1) m'=cnts kids (d+1) (m+1)∧Kept w wr∧Kept wa wr) (fun _ i _=>kids.length-(intOf i).toNat)
  case atStart=>exact⟨0,m+1,Nat.zero_le _,rfl,by go_num,by omega,rfl,hkb,Kept.refl _⟩
  case round=>
   obtain⟨k,m',hk,rfl,rfl,hm',hst,hkw,hkwa⟩:=hrel
   have HST:=Lib.hid hst;clear hst
   obtain⟨-,-,-,-,-,-,e6,-⟩:=(hbx.kept hkwa).facts7
   by_cases hlt:k<kids.length
   ·obtain⟨b,off,o,g,z,u1,u2,u3,u4,u5,u6,nm,a',n',cap',rfl,c0,c1,c2,c3,c4,c5,c6,hex⟩:=hkid k hlt
    replace c0:=hkw.cell c0
    replace c1:=hkw.cell c1
    replace c2:=hkw.cell c2
    replace c3:=hkw.cell c3
    replace c4:=hkw.cell c4
    replace c5:=hkw.cell c5
    replace c6:=hkw.cell c6
    have hih:=walk_calls f (hex.kept hkw) (hT.kept hkw) (d+1) m' (by omega) hm'
    rw[ed] at hih
    clear hkid hex
    have hcs:cnts (kids.drop k) (d+1) m'=(cnt kids[k] (d+1) m').bind fun m2=>cnts (kids.drop (k+1)) (d+1) m2:=by
     rw[List.drop_eq_getElem_cons hlt,cnts]
     cases cnt kids[k] (d+1) m'<;>rfl
    rw[HST.out] at hcs
    cases hcn:cnt kids[k] (d+1) m' with
    |none=>
     rw[hcn] at hih hcs
     have HCS:=Lib.hid hcs;clear hcs
     go_wp2_with(first|(go_at_call 144;refine hih.mono ?_;rintro e w2 ⟨rfl,hk2⟩))
     go_ret
     exact⟨by rw[HC.out,HCS.out];rfl,hkw.trans hk2⟩
    |some m2=>
     rw[hcn] at hih hcs
     have hm2:=(cnt_le _ _ _ _ hcn).2
     have HCS:=Lib.hid hcs;clear hcs
     have e2:wres (some m2)=300-(m2:Int):=rfl
     rw[e2] at hih
     clear e2
     go_wp2_with(first|(go_at_call 144;refine hih.mono ?_;rintro e w2 ⟨rfl,hk2⟩))
     go_roundw
     case rel=>exact⟨k+1,m2,by omega,by go_num,rfl,hm2,HCS.out.symm,hkw.trans hk2,hkwa.trans hk2⟩
     case measure=>simp[intOf];omega
   ·obtain rfl:kids.length=k:=by omega
    clear hkid
    go_wp2
    go_ret
    refine⟨?_,hkw⟩
    rw[HC.out,←HST.out]
    simp[cnts,go_sem,wres]
def Tree.ok(t:Tree):Bool:=(cnt t 1 0).isSome
set_option maxHeartbeats 2000000 in
set_option maxRecDepth 100000 in
theorem pvalid_calls{f:Nat}{w:World}{v:Value}{t:Tree}(h:Ex w f v t)(hT:Laid w):
 Calls Tryz.prog 77 #[v] w fun e w'=>e= .returned (.bool t.ok)∧Kept w w':=by
 have hh:=h
 have hc:Hid (t.ok=(cnt t 1 0).isSome):=Lib.hid rfl
 cases f with
 |zero=>exact h.elim
 |succ f=>
 cases t with
 |node op arg s N D name kids=>
  obtain⟨x1,x2,x3,x4,x5,x6,a,cap,rfl,hcp,hn,hr⟩:=h.shape
  clear h hr
  have hk:Kept w (w.alloc (.cells #[.int .i64 op,.int .i64 arg,.bool s,.slice x1 x2 x3,.slice x4 x5 x6,.string name,.slice a kids.length cap] 27)):=(Kept.refl w).alloc _
  have hcl:=count_calls (f+1) (hh.kept hk) (hT.kept hk) 1 0 (by omega) (by omega)
  clear hh
  generalize hy:Tree.node op arg s N D name kids=y at*
  cases hcn:cnt y 1 0 with
  |none=>
   rw[hcn] at hc hcl
   go_enter Tryz.func77,Tryz.ntmps77
   go_wp2_with(first|(go_at_call 150;refine hcl.mono ?_;rintro e wa ⟨rfl,hka⟩))
   go_ret
   exact⟨by rw[hc.out];rfl,hk.trans hka⟩
  |some m=>
   rw[hcn] at hc hcl
   have hm:=(cnt_le _ _ _ _ hcn).2
   have e2:(((some m).getD 301:Nat):Int)=(m:Int):=rfl
   rw[e2] at hcl
   clear e2
   have t:decide ((m:Int)≤300)=true:=by simp;omega
   go_enter Tryz.func77,Tryz.ntmps77
   go_wp2_with(first|(go_at_call 150;refine hcl.mono ?_;rintro e wa ⟨rfl,hka⟩))
   go_ret
   exact⟨by rw[hc.out];rfl,hk.trans hka⟩
set_option maxHeartbeats 2000000 in
set_option maxRecDepth 100000 in
theorem rvalid_calls{f:Nat}{w:World}{v:Value}{t:Tree}(h:Ex w f v t)(hT:Laid w):
 Calls Tryz.prog 73 #[v] w fun e w'=>e= .returned (.bool t.ok)∧Kept w w':=by
 have hh:=h
 have hc:Hid (t.ok=(cnt t 1 0).isSome):=Lib.hid rfl
 cases f with
 |zero=>exact h.elim
 |succ f=>
 cases t with
 |node op arg s N D name kids=>
  obtain⟨x1,x2,x3,x4,x5,x6,a,cap,rfl,hcp,hn,hr⟩:=h.shape
  clear h hr
  have hk:Kept w (w.alloc (.cells #[.int .i64 op,.int .i64 arg,.bool s,.slice x1 x2 x3,.slice x4 x5 x6,.string name,.slice a kids.length cap] 27)):=(Kept.refl w).alloc _
  have hcl:=walk_calls (f+1) (hh.kept hk) (hT.kept hk) 1 0 (by omega) (by omega)
  clear hh
  generalize hy:Tree.node op arg s N D name kids=y at*
  cases hcn:cnt y 1 0 with
  |none=>
   rw[hcn] at hc hcl
   go_enter Tryz.func73,Tryz.ntmps73
   go_wp2_with(first|(go_at_call 144;refine hcl.mono ?_;rintro e wa ⟨rfl,hka⟩))
   go_ret
   exact⟨by rw[hc.out];rfl,hk.trans hka⟩
  |some m=>
   rw[hcn] at hc hcl
   have hm:=(cnt_le _ _ _ _ hcn).2
   have e2:wres (some m)=300-(m:Int):=rfl
   rw[e2] at hcl
   clear e2
   have t:decide ((m:Int)≤300)=true:=by simp;omega
   go_enter Tryz.func73,Tryz.ntmps73
   go_wp2_with(first|(go_at_call 144;refine hcl.mono ?_;rintro e wa ⟨rfl,hka⟩))
   go_ret
   exact⟨by rw[hc.out];rfl,hk.trans hka⟩
end Go.Proofs.YtbapfnpbamnmpaaGreatDoor
end
