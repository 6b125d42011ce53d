/- A part of the proof that ClaimFaces answers true for every input of bulk at most 1048576: conditions: the row's own. -/
import Derived.Test.YtbapfnpbamnmpaaGreatDoorTa
import Derived.Test.YtbapfnpbamnmpaaGreatDoorTd
namespace Go.Proofs.YtbapfnpbamnmpaaGreatDoor
open Go Go.RowKit Go.Dig
open Go.Eng (Kept KW KeptB wp_region_kw kw_call)
instance:Inhabited SideD:=⟨⟨.empty,⟨false,0,0,false,0,0,false,false⟩⟩⟩
def sideOk(l:List SideD)(k:Nat):Bool:=isName (l.getD k default).name&&(k==0||Op.bytesLess (l.getD (k-1) default).name.toList (l.getD k default).name.toList)&&(l.getD k default).iv.fine&& !(l.getD k default).iv.void
def boxOk(l:List SideD):Bool:=decide (l.length≤6)&&(List.range l.length).all (sideOk l)
theorem boxOk_big{l:List SideD}(h:6<l.length):boxOk l=false:=by unfold boxOk;simp;omega
theorem boxOk_bad{l:List SideD}{k:Nat}(hk:k<l.length)(h:sideOk l k=false):boxOk l=false:=by
 unfold boxOk
 have:(List.range l.length).all (sideOk l)=false:=by
  rw[List.all_eq_false]
  exact⟨k,List.mem_range.2 hk,by simp[h]⟩
 rw[this,Bool.and_false]
theorem boxOk_good{l:List SideD}(h6:l.length≤6)(h:∀k,k<l.length→sideOk l k=true):boxOk l=true:=by
 unfold boxOk
 have:(List.range l.length).all (sideOk l)=true:=by
  rw[List.all_eq_true]
  exact fun k hk=>h k (List.mem_range.1 hk)
 rw[this,Bool.and_true];simpa using h6
theorem getD_at{l:List SideD}{k:Nat}(h:k<l.length):l.getD k default=l[k]:=by simp[List.getD,h]
theorem sideOk_name{l:List SideD}{k:Nat}(h:k<l.length)(hn:isName l[k].name=false):sideOk l k=false:=by
 unfold sideOk;rw[getD_at h,hn];rfl
theorem sideOk_order{l:List SideD}{j:Nat}(h:j+1<l.length)(hn:Op.bytesLess l[j].name.toList l[j+1].name.toList=false):sideOk l (j+1)=false:=by
 unfold sideOk;rw[Nat.add_sub_cancel,getD_at h,getD_at (Nat.lt_of_succ_lt h),hn];simp
theorem sideOk_iv{l:List SideD}{k:Nat}(h:k<l.length)(hn:(l[k].iv.fine&& !l[k].iv.void)=false):sideOk l k=false:=by
 unfold sideOk;rw[getD_at h,Bool.and_assoc,hn,Bool.and_false]
theorem sideOk_zero{l:List SideD}(h:0<l.length)(h1:isName l[0].name=true)(h2:l[0].iv.fine=true)(h3:l[0].iv.void=false):sideOk l 0=true:=by
 unfold sideOk;rw[getD_at h,h1,h2,h3];rfl
theorem sideOk_succ{l:List SideD}{j:Nat}(h:j+1<l.length)(h1:isName l[j+1].name=true)(h2:l[j+1].iv.fine=true)(h3:l[j+1].iv.void=false)
 (hn:Op.bytesLess l[j].name.toList l[j+1].name.toList=true):sideOk l (j+1)=true:=by
 unfold sideOk;rw[Nat.add_sub_cancel,getD_at h,getD_at (Nat.lt_of_succ_lt h),h1,h2,h3,hn];simp
set_option maxHeartbeats 1000000 in
set_option maxRecDepth 100000 in
theorem evalid_calls{w:World}{a:Option Addr}{n cap:Nat}{l:List SideD}(h:Bxm w a n cap l)(hT:Laid w):
 Calls Tryz.prog 76 #[.slice a n cap] w fun e w'=>e= .returned (.bool (boxOk l))∧Kept w w':=by
 obtain⟨rfl,hc,hbd,hi⟩:=h
 by_cases h6:6<l.length
 ·have t6:decide (6<(l.length:Int))=true:=by simp;omega
  go_enter Tryz.func76,Tryz.ntmps76
  go_wp2
  go_ret
  exact⟨by rw[boxOk_big h6];rfl,Kept.refl w⟩
 have t6:decide (6<(l.length:Int))=false:=by simp;omega
 go_enter Tryz.func76,Tryz.ntmps76
 go_wp2
 go_loopw [12] (fun s wr=>∃k:Nat,k≤l.length∧s= .int .i64 (k:Int)∧(∀j,j<k→sideOk l j=true)∧Kept w wr) (fun s _=>l.length-(intOf s).toNat)
 case atStart=>exact⟨0,Nat.zero_le _,rfl,fun j h=>absurd h (Nat.not_lt_zero j),Kept.refl w⟩
 case round=>
  obtain⟨k,hk,rfl,hok,hkw⟩:=hrel
  have HOK:=Lib.hid hok;clear hok
  have H6:Hid (l.length≤6):=Lib.hid (by omega)
  by_cases hlt:k<l.length
  ·obtain⟨b,off,s1,a1,n1,c1,a2,n2,c2,s2,a3,n3,c3,a4,n4,c4,p,q,rfl,h0,h1,h2,h3,h4,h5,h6,h7,h8,hv⟩:=hi k hlt
   have HNK:Hid (∃nk iv,l[k].name=nk∧l[k].iv=iv):=Lib.hid ⟨_,_,rfl,rfl⟩
   have hem:=fun(w':World)(hk':Kept w w')=>isempty_calls (hv.kept hk') (hT.kept hk')
   clear hv
   obtain⟨nk,iv,hnk,hiv⟩:=HNK.out
   clear HNK
   rw[hnk] at h0
   rw[hiv] at hem
   have HNK:=Lib.hid hnk;clear hnk
   have HIV:=Lib.hid hiv;clear hiv
   replace h0:=hkw.cell h0
   replace h1:=hkw.cell h1
   replace h2:=hkw.cell h2
   replace h3:=hkw.cell h3
   replace h4:=hkw.cell h4
   replace h5:=hkw.cell h5
   replace h6:=hkw.cell h6
   replace h7:=hkw.cell h7
   replace h8:=hkw.cell h8
   have hb1:=Blk.new wr #[.string nk,.bool s1,.slice a1 n1 c1,.slice a2 n2 c2,.bool s2,.slice a3 n3 c3,.slice a4 n4 c4,.bool p,.bool q] 41
   have hk1:Kept w (wr.alloc (.cells #[.string nk,.bool s1,.slice a1 n1 c1,.slice a2 n2 c2,.bool s2,.slice a3 n3 c3,.slice a4 n4 c4,.bool p,.bool q] 41)):=hkw.alloc _
   have HI:=Lib.hid hi;clear hi
   have hnm:=fun(w':World)=>eisname_calls w' nk
   go_wp2_with fail
   obtain⟨p0,p1,p2,p3,p4,p5,p6,p7,p8,_⟩:=hb1.facts9
   generalize (wr.alloc (.cells #[.string nk,.bool s1,.slice a1 n1 c1,.slice a2 n2 c2,.bool s2,.slice a3 n3 c3,.slice a4 n4 c4,.bool p,.bool q] 41))=w1 at*
   generalize wr.heap.size=b1 at*
   have a0:=fun(k:KW w1)=>k.kept.cell p0
   have hall:∀w',Kept w1 w'→w'.cell? ⟨b1,1,none⟩=some (.bool s1)∧w'.cell? ⟨b1,2,none⟩=some (.slice a1 n1 c1)∧w'.cell? ⟨b1,3,none⟩=some (.slice a2 n2 c2)∧w'.cell? ⟨b1,4,none⟩=some (.bool s2)∧
    w'.cell? ⟨b1,5,none⟩=some (.slice a3 n3 c3)∧w'.cell? ⟨b1,6,none⟩=some (.slice a4 n4 c4)∧w'.cell? ⟨b1,7,none⟩=some (.bool p)∧w'.cell? ⟨b1,8,none⟩=some (.bool q):=
    fun w' k=>⟨k.cell p1,k.cell p2,k.cell p3,k.cell p4,k.cell p5,k.cell p6,k.cell p7,k.cell p8⟩
   have HALL:=Lib.hid hall;clear hall p1 p2 p3 p4 p5 p6 p7 p8
   cases hin:isName nk
   ·rw[hin] at hnm
    refine wp_region_kw w1 (Kept.refl _) (by kernel_rfl) (by kernel_rfl) ?_
    repeat (go_big_quiet_step (first|(go_at_call 148;exact kw_call (hnm _))))
    refine wpQuiet_nil ?_
    rintro _ ⟨k2,rfl⟩
    go_wp2
    go_ret
    exact⟨by rw[boxOk_bad hlt (sideOk_name hlt (by rw[HNK.out];exact hin))];rfl,hk1.trans k2.kept⟩
   rw[hin] at hnm
   by_cases hk0:k=0
   ·subst hk0
    refine wp_region_kw w1 (Kept.refl _) (by kernel_rfl) (by kernel_rfl) ?_
    repeat (go_big_quiet_step (first|(go_at_call 148;exact kw_call (hnm _))))
    refine wpQuiet_nil ?_
    rintro _ ⟨k2,rfl⟩
    obtain⟨p1,p2,p3,p4,p5,p6,p7,p8⟩:=HALL.out _ k2.kept
    have hem:=hem _ (hk1.trans k2.kept)
    cases hf:iv.fine
    ·rw[hf] at hem
     go_wp2_with(go_at_call 149;refine hem.mono ?_;rintro e w3 ⟨rfl,hk3⟩)
     go_ret
     exact⟨by rw[boxOk_bad hlt (sideOk_iv hlt (by rw[HIV.out,hf];rfl))];rfl,(hk1.trans k2.kept).trans hk3⟩
    cases hvd:iv.void
    ·rw[hf,hvd] at hem
     go_wp2_with(go_at_call 149;refine hem.mono ?_;rintro e w3 ⟨rfl,hk3⟩)
     go_roundw
     case rel=>exact⟨1,by omega,by go_num,fun j hj=>by obtain rfl:j=0:=by omega
                                                       exact sideOk_zero hlt (by rw[HNK.out];exact hin) (by rw[HIV.out];exact hf) (by rw[HIV.out];exact hvd),(hk1.trans k2.kept).trans hk3⟩
     case measure=>simp[intOf];omega
    ·rw[hf,hvd] at hem
     go_wp2_with(go_at_call 149;refine hem.mono ?_;rintro e w3 ⟨rfl,hk3⟩)
     go_ret
     exact⟨by rw[boxOk_bad hlt (sideOk_iv hlt (by rw[HIV.out,hf,hvd];rfl))];rfl,(hk1.trans k2.kept).trans hk3⟩
   obtain⟨j,rfl⟩:∃j,k=j+1:=⟨k-1,by omega⟩
   obtain⟨b',off',s1',a1',n1',c1',a2',n2',c2',s2',a3',n3',c3',a4',n4',c4',p',q',e',h0',-⟩:=HI.out j (by omega)
   cases e'
   generalize hnj:l[j].name=nj at*
   have HNJ:=Lib.hid hnj;clear hnj
   have b1':=fun(k:KW w1)=>k.kept.cell (hk1.cell h0')
   have tk:decide (0<(j:Int)+1)=true:=by simp
   cases hlo:Op.bytesLess nj.toList nk.toList
   ·refine wp_region_kw w1 (Kept.refl _) (by kernel_rfl) (by kernel_rfl) ?_
    repeat (go_big_quiet_step (first|(go_at_call 148;exact kw_call (hnm _))))
    refine wpQuiet_nil ?_
    rintro _ ⟨k2,rfl⟩
    go_wp2
    go_ret
    exact⟨by rw[boxOk_bad hlt (sideOk_order hlt (by rw[HNK.out,HNJ.out];exact hlo))];rfl,hk1.trans k2.kept⟩
   ·refine wp_region_kw w1 (Kept.refl _) (by kernel_rfl) (by kernel_rfl) ?_
    repeat (go_big_quiet_step (first|(go_at_call 148;exact kw_call (hnm _))))
    refine wpQuiet_nil ?_
    rintro _ ⟨k2,rfl⟩
    obtain⟨p1,p2,p3,p4,p5,p6,p7,p8⟩:=HALL.out _ k2.kept
    have hem:=hem _ (hk1.trans k2.kept)
    cases hf:iv.fine
    ·rw[hf] at hem
     go_wp2_with(go_at_call 149;refine hem.mono ?_;rintro e w3 ⟨rfl,hk3⟩)
     go_ret
     exact⟨by rw[boxOk_bad hlt (sideOk_iv hlt (by rw[HIV.out,hf];rfl))];rfl,(hk1.trans k2.kept).trans hk3⟩
    cases hvd:iv.void
    ·rw[hf,hvd] at hem
     go_wp2_with(go_at_call 149;refine hem.mono ?_;rintro e w3 ⟨rfl,hk3⟩)
     go_roundw
     case rel=>exact⟨j+1+1,by omega,by go_num,fun i hi'=>by
                                                     by_cases h:i<j+1
                                                     ·exact HOK.out i h
                                                     ·obtain rfl:i=j+1:=by omega
                                                      exact sideOk_succ hlt (by rw[HNK.out];exact hin) (by rw[HIV.out];exact hf) (by rw[HIV.out];exact hvd) (by rw[HNK.out,HNJ.out];exact hlo),(hk1.trans k2.kept).trans hk3⟩
     case measure=>simp[intOf];omega
    ·rw[hf,hvd] at hem
     go_wp2_with(go_at_call 149;refine hem.mono ?_;rintro e w3 ⟨rfl,hk3⟩)
     go_ret
     exact⟨by rw[boxOk_bad hlt (sideOk_iv hlt (by rw[HIV.out,hf,hvd];rfl))];rfl,(hk1.trans k2.kept).trans hk3⟩
  ·obtain rfl:l.length=k:=by omega
   clear hi
   go_wp2
   go_ret
   exact⟨by rw[boxOk_good H6.out HOK.out];rfl,hkw⟩
end Go.Proofs.YtbapfnpbamnmpaaGreatDoor
