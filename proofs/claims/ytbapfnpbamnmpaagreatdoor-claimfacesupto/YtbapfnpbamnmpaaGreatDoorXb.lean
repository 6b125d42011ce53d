/- A part of the proof that ClaimFaces answers true for every input of bulk at most 1048576: conditions: the row's own. -/
import Derived.Test.YtbapfnpbamnmpaaGreatDoorXa
namespace Go.Proofs.YtbapfnpbamnmpaaGreatDoor
open Go Go.RowKit Go.Dig
open Go.Eng (Kept KW KeptB wp_region_kw kw_call)
set_option maxHeartbeats 4000000 in
set_option maxRecDepth 100000 in
theorem r57_calls:∀(f:Nat){g:Nat}{w:World}{v u:Value}{t t':Tree},Ex w f v t→Ex w g u t'→numsT t→numsT t'→
 Calls Tryz.prog 57 #[v,u] w fun e w'=>e= .returned (.bool (sameT t t'))∧Kept w w'
 |0,_,_,_,_,_,_,h,_=>h.elim
 |_+1,0,_,_,_,_,_,_,h'=>h'.elim
 |f+1,g+1,w,v,u,.node op arg s N D name kids,.node op' arg' s' N' D' name' kids',h,h'=>by
  intro hN hN'
  obtain⟨x1,x2,x3,x4,x5,x6,a,cap,rfl,hc,hn,hr⟩:=h.shape
  obtain⟨y1,y2,y3,y4,y5,y6,a',cap',rfl,hc',hn',hr'⟩:=h'.shape
  have hkid:=fun(i:Nat)(hi:i<kids.length)=>h.kid hi
  have hkid':=fun(i:Nat)(hi:i<kids'.length)=>h'.kid hi
  clear h h'
  have hA:=Blk.new w #[.int .i64 op,.int .i64 arg,.bool s,.slice x1 x2 x3,.slice x4 x5 x6,.string name,.slice a kids.length cap] 27
  have hB:=Blk.new (w.alloc (.cells #[.int .i64 op,.int .i64 arg,.bool s,.slice x1 x2 x3,.slice x4 x5 x6,.string name,.slice a kids.length cap] 27)) #[.int .i64 op',.int .i64 arg',.bool s',.slice y1 y2 y3,.slice y4 y5 y6,.string name',.slice a' kids'.length cap'] 27
  rw[show(w.alloc (.cells #[.int .i64 op,.int .i64 arg,.bool s,.slice x1 x2 x3,.slice x4 x5 x6,.string name,.slice a kids.length cap] 27)).heap.size=w.heap.size+1 from Array.size_push _] at hB
  have hk1:Kept w (w.alloc (.cells #[.int .i64 op,.int .i64 arg,.bool s,.slice x1 x2 x3,.slice x4 x5 x6,.string name,.slice a kids.length cap] 27)):=(Kept.refl w).alloc _
  have hk2:Kept (w.alloc (.cells #[.int .i64 op,.int .i64 arg,.bool s,.slice x1 x2 x3,.slice x4 x5 x6,.string name,.slice a kids.length cap] 27)) ((w.alloc (.cells #[.int .i64 op,.int .i64 arg,.bool s,.slice x1 x2 x3,.slice x4 x5 x6,.string name,.slice a kids.length cap] 27)).alloc (.cells #[.int .i64 op',.int .i64 arg',.bool s',.slice y1 y2 y3,.slice y4 y5 y6,.string name',.slice a' kids'.length cap'] 27)):=(Kept.refl _).alloc _
  replace hA:=hA.kept hk2
  have hk:=hk1.trans hk2
  clear hk1 hk2
  have hrc:=rsame_calls (hr.kept hk) (hr'.kept hk) hN.1 hN'.1
  have hkn:=numsTs_get hN.2
  have hkn':=numsTs_get hN'.2
  clear hN hN' hr hr'
  have HS:Hid (sameT (.node op arg s N D name kids) (.node op' arg' s' N' D' name' kids')=((op==op')&&(arg==arg')&&(name.toList==name'.toList)&&((kids.length:Int)==(kids'.length:Int))&&sameR s N D s' N' D'&&sameTs kids kids')):=Lib.hid (by rw[sameT])
  generalize sameT (.node op arg s N D name kids) (.node op' arg' s' N' D' name' kids')=res at*
  obtain⟨d0,d1,d2,d3,d4,d5,d6,-⟩:=hA.facts7
  obtain⟨e0,e1,e2,e3,e4,e5,e6,-⟩:=hB.facts7
  rcases Bool.eq_false_or_eq_true (op != op') with b1|b1
  ·have c1:(op==op')=false:=by rw[←Bool.not_eq_true',←bne];exact b1
   have HR:Hid (res=false):=Lib.hid (by rw[HS.out,c1];rfl)
   clear hkid hkid' hrc hkn hkn' HS c1
   go_enter Tryz.func57,Tryz.ntmps57
   go_wp2
   go_ret
   exact⟨by rw[HR.out];rfl,hk⟩
  have c1:(op==op')=true:=by rw[←Bool.not_eq_false',←bne];exact b1
  replace c1:=Lib.hid c1
  rcases Bool.eq_false_or_eq_true (arg != arg') with b2|b2
  ·have c2:(arg==arg')=false:=by rw[←Bool.not_eq_true',←bne];exact b2
   have HR:Hid (res=false):=Lib.hid (by rw[HS.out,c1.out,c2];rfl)
   clear hkid hkid' hrc hkn hkn' HS c2
   go_enter Tryz.func57,Tryz.ntmps57
   go_wp2
   go_ret
   exact⟨by rw[HR.out];rfl,hk⟩
  have c2:(arg==arg')=true:=by rw[←Bool.not_eq_false',←bne];exact b2
  replace c2:=Lib.hid c2
  rcases Bool.eq_false_or_eq_true (name.toList==name'.toList) with c3|c3
  rotate_left
  ·have HR:Hid (res=false):=Lib.hid (by rw[HS.out,c1.out,c2.out,c3];rfl)
   clear hkid hkid' hrc hkn hkn' HS
   go_enter Tryz.func57,Tryz.ntmps57
   go_wp2
   go_ret
   exact⟨by rw[HR.out];rfl,hk⟩
  rcases Bool.eq_false_or_eq_true ((kids.length:Int) !=(kids'.length:Int)) with b4|b4
  ·have c4:((kids.length:Int)==(kids'.length:Int))=false:=by rw[←Bool.not_eq_true',←bne];exact b4
   have HR:Hid (res=false):=Lib.hid (by rw[HS.out,c1.out,c2.out,c3,c4];rfl)
   clear hkid hkid' hrc hkn hkn' HS c4
   go_enter Tryz.func57,Tryz.ntmps57
   go_wp2
   go_ret
   exact⟨by rw[HR.out];rfl,hk⟩
  have c4:((kids.length:Int)==(kids'.length:Int))=true:=by rw[←Bool.not_eq_false',←bne];exact b4
  replace c4:=Lib.hid c4
  cases b5:sameR s N D s' N' D'
  ·have HR:Hid (res=false):=Lib.hid (by rw[HS.out,c1.out,c2.out,c3,c4.out,b5];rfl)
   rw[b5] at hrc
   clear hkid hkid' hkn hkn' HS
   go_enter Tryz.func57,Tryz.ntmps57
   go_wp2_with(first|(go_at_call 48;refine hrc.mono ?_;rintro e w1 ⟨rfl,hk1⟩))
   go_ret
   exact⟨by rw[HR.out];rfl,hk.trans hk1⟩
  have HR:Hid (res=sameTs kids kids'):=Lib.hid (by rw[HS.out,c1.out,c2.out,c3,c4.out,b5];rfl)
  rw[b5] at hrc
  clear HS
  have HLEN:=Lib.hid (show kids.length=kids'.length by have:=c4.out;simp at this;omega)
  go_enter Tryz.func57,Tryz.ntmps57
  go_wp2_with(first|(go_at_call 48;refine hrc.mono ?_;rintro e w1 ⟨rfl,hk1⟩;replace hA:=hA.kept hk1;replace hB:=hB.kept hk1))
  have hkb:=hk.trans hk1
  have HK1:=Lib.hid hk1
  clear hk1 hk hrc d0 d1 d2 d3 d4 d5 d6 e0 e1 e2 e3 e4 e5 e6
  go_loopw [5] (fun i wr=>∃(k:Nat),k≤kids.length∧i= .int .i64 (k:Int)∧Hid (sameTs (kids.drop k) (kids'.drop k)=sameTs kids kids')∧Kept w wr∧Kept w1 wr) (fun i _=>kids.length-(intOf i).toNat)
  case atStart=>exact⟨0,Nat.zero_le _,rfl,Lib.hid rfl,hkb,Kept.refl _⟩
  case round=>
   obtain⟨k,hkk,rfl,HST,hkw,hkw1⟩:=hrel
   obtain⟨-,-,-,-,-,-,d6,-⟩:=(hA.kept hkw1).facts7
   obtain⟨-,-,-,-,-,-,e6,-⟩:=(hB.kept hkw1).facts7
   by_cases hlt:k<kids.length
   ·have hlt':k<kids'.length:=by have:=HLEN.out;omega
    obtain⟨b,off,o,g0,z,u1,u2,u3,u4,u5,u6,nm,a2,n2,cap2,rfl,c0',c1',c2',c3',c4',c5',c6',hex⟩:=hkid k hlt
    obtain⟨b',off',o',g0',z',v1,v2,v3,v4,v5,v6,nm',a2',n2',cap2',rfl,f0',f1',f2',f3',f4',f5',f6',hex'⟩:=hkid' k hlt'
    replace c0':=hkw.cell c0'
    replace c1':=hkw.cell c1'
    replace c2':=hkw.cell c2'
    replace c3':=hkw.cell c3'
    replace c4':=hkw.cell c4'
    replace c5':=hkw.cell c5'
    replace c6':=hkw.cell c6'
    replace f0':=hkw.cell f0'
    replace f1':=hkw.cell f1'
    replace f2':=hkw.cell f2'
    replace f3':=hkw.cell f3'
    replace f4':=hkw.cell f4'
    replace f5':=hkw.cell f5'
    replace f6':=hkw.cell f6'
    have hih:=fun(w':World)(k':Kept w w')=>r57_calls f (hex.kept k') (hex'.kept k') (hkn k hlt) (hkn' k hlt')
    have hcs:=sameTs_drop hlt hlt'
    clear hkid hkid' hex hex' hkn hkn'
    rw[HST.out] at hcs
    go_wp2_with fail
    have z0:=fun(k:KW wr)=>k.kept.cell c0'
    have z1:=fun(k:KW wr)=>k.kept.cell c1'
    have z2:=fun(k:KW wr)=>k.kept.cell c2'
    have z3:=fun(k:KW wr)=>k.kept.cell c3'
    have z4:=fun(k:KW wr)=>k.kept.cell c4'
    have z5:=fun(k:KW wr)=>k.kept.cell c5'
    have z6:=fun(k:KW wr)=>k.kept.cell c6'
    have y0:=fun(k:KW wr)=>k.kept.cell f0'
    have y1:=fun(k:KW wr)=>k.kept.cell f1'
    have y2:=fun(k:KW wr)=>k.kept.cell f2'
    have y3:=fun(k:KW wr)=>k.kept.cell f3'
    have y4:=fun(k:KW wr)=>k.kept.cell f4'
    have y5:=fun(k:KW wr)=>k.kept.cell f5'
    have y6:=fun(k:KW wr)=>k.kept.cell f6'
    have z8:=fun(k:KW wr)=>k.kept.cell d6
    have y8:=fun(k:KW wr)=>k.kept.cell e6
    clear c0' c1' c2' c3' c4' c5' c6' f0' f1' f2' f3' f4' f5' f6' d6 e6
    have hih:=fun(k:KW wr)=>hih k.w (hkw.trans k.kept)
    cases hq:sameT kids[k] kids'[k]
    ·rw[hq] at hih hcs
     have HR2:Hid (res=false):=Lib.hid (by rw[HR.out,hcs];rfl)
     clear hcs
     refine wp_region_kw wr (Kept.refl _) (by kernel_rfl) (by kernel_rfl) ?_
     repeat (go_big_quiet_step (first|(go_at_call 57;exact kw_call (hih _))))
     refine wpQuiet_nil ?_
     rintro _ ⟨k2,rfl⟩
     go_wp2
     go_ret
     exact⟨by rw[HR2.out];rfl,hkw.trans k2.kept⟩
    ·rw[hq] at hih hcs
     have HCS:=Lib.hid hcs;clear hcs
     refine wp_region_kw wr (Kept.refl _) (by kernel_rfl) (by kernel_rfl) ?_
     repeat (go_big_quiet_step (first|(go_at_call 57;exact kw_call (hih _))))
     refine wpQuiet_nil ?_
     rintro _ ⟨k2,rfl⟩
     clear hih
     go_wp2
     go_roundw
     case rel=>exact⟨k+1,by omega,by go_num,Lib.hid HCS.out.symm,hkw.trans k2.kept,hkw1.trans k2.kept⟩
     case measure=>simp[intOf];omega
   ·obtain rfl:kids.length=k:=by omega
    clear hkid hkid' hkn hkn'
    have HR2:Hid (res=true):=Lib.hid (by rw[HR.out,←HST.out];exact sameTs_end (Nat.le_refl _))
    go_wp2
    go_ret
    exact⟨by rw[HR2.out];rfl,hkw⟩
end Go.Proofs.YtbapfnpbamnmpaaGreatDoor
