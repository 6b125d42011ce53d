/- A part of the proof that SearchCandidates answers true for every input of bulk at most 1048576: conditions: the row's own. -/
import Derived.Test.YtancebninmoipaaGreatDoorP07
namespace Go.Proofs.YtancebninmoipaaGreatDoor
open Go Go.RowKit Go.Dig
section
open Go.Eng (Kept KW KeptB)
def isName(s:ByteArray):Bool:=decide (s.size≤8)&&wokB s&& !inNames resNames s
theorem toList_empty{s:ByteArray}(h:s.size=0):s.toList=[]:=by
 rw[ByteArray.toList_eq]
 have hz:s.data.size=0:=h
 exact List.eq_nil_of_length_eq_zero (by rw[Array.length_toList,hz])
theorem toList_ne{s:ByteArray}(h:0<s.size):(s.toList==[])=false:=by
 rw[ByteArray.toList_eq]
 have hz:s.data.size=s.size:=rfl
 cases hd:s.data.toList with
 |nil=>exfalso;have:s.data.size=0:=by rw[←Array.length_toList,hd];rfl
       omega
 |cons a l=>rfl
set_option maxHeartbeats 1000000 in
set_option maxRecDepth 100000 in
theorem sisname_calls(w:World)(s:ByteArray):Calls Tryz.prog 105 #[.string s] w fun e w'=>e= .returned (.bool (isName s))∧Kept w w':=by
 by_cases h8:s.size≤8
 ·have t1:decide ((s.size:Int)≤8)=true:=by simp;omega
  by_cases h0:0<s.size
  ·have t2:=toList_ne h0
   have hsw:=sword_calls w s (by omega) h0
   cases hwk:wokB s with
   |true=>
    have hr:=reserved_calls w s
    have hsw2:Calls Tryz.prog 181 #[.string s] w fun e w'=>e= .returned (.int .i64 (s.size:Int))∧w=w':=hsw.mono fun e w' ⟨k,h1,_,h3,h4⟩=>by
     obtain rfl:=h3.2 hwk
     exact⟨h1,h4⟩
    have hres:isName s= !inNames resNames s:=by unfold isName;simp[h8,hwk]
    rw[hres]
    generalize inNames resNames s=rb at*
    clear hsw hwk hres
    go_enter Tryz.func105,Tryz.ntmps105
    go_wp2_with(first|(go_at_call 181;refine hsw2.mono ?_;rintro e w1 ⟨rfl,rfl⟩)|(go_at_call 182;refine hr.mono ?_;rintro e w1 ⟨rfl,hk⟩))
    go_ret
    exact⟨rfl,hk⟩
   |false=>
    have hres:isName s=false:=by unfold isName;simp[hwk]
    rw[hres]
    have hsw2:Calls Tryz.prog 181 #[.string s] w fun e w'=>∃k:Nat,e= .returned (.int .i64 (k:Int))∧k≠s.size∧k≤s.size∧w=w':=hsw.mono fun e w' ⟨k,h1,h2,h3,h4⟩=>
     ⟨k,h1,fun e=>(by rw[h3.1 e] at hwk;cases hwk),h2,h4⟩
    clear hsw hwk hres
    go_enter Tryz.func105,Tryz.ntmps105
    go_wp2_with fail
    refine hsw2.mono ?_
    rintro e w1 ⟨k,rfl,hne,hle,rfl⟩
    have t3:((k:Int)==(s.size:Int))=false:=by simp;omega
    go_wp2
    go_ret
    exact⟨rfl,Kept.refl _⟩
  ·have hz:s.size=0:=by omega
   have hres:isName s=false:=by unfold isName wokB;simp[hz]
   rw[hres]
   have t0:(s.toList==[])=true:=by rw[toList_empty hz];rfl
   have hsw:Calls Tryz.prog 181 #[.string s] w fun e w'=>e= .returned (.int .i64 0)∧w=w':=by
    clear t1 h8 h0 hz hres
    go_enter Tryz.func181,Tryz.ntmps181
    go_wp2
    go_ret
    exact⟨rfl,rfl⟩
   have t3:((0:Int)==(s.size:Int))=true:=by rw[hz];rfl
   have t4:(s.toList != [])=false:=by rw[toList_empty hz];rfl
   clear h0 hres h8
   go_enter Tryz.func105,Tryz.ntmps105
   go_wp2_with(go_at_call 181;refine hsw.mono ?_;rintro e w1 ⟨rfl,rfl⟩)
   go_ret
   exact⟨rfl,Kept.refl _⟩
 ·have t1:decide ((s.size:Int)≤8)=false:=by simp;omega
  have hres:isName s=false:=by unfold isName;simp[h8]
  rw[hres]
  clear hres
  go_enter Tryz.func105,Tryz.ntmps105
  go_wp2
  go_ret
  exact⟨rfl,Kept.refl _⟩
theorem eisname_calls(w:World)(s:ByteArray):Calls Tryz.prog 49 #[.string s] w fun e w'=>e= .returned (.bool (isName s))∧Kept w w':=by
 have h:=sisname_calls w s
 generalize isName s=b at*
 go_enter Tryz.func49,Tryz.ntmps49
 go_wp2_with(go_at_call 105;refine h.mono ?_;rintro e w1 ⟨rfl,hk⟩)
 go_ret
 exact⟨rfl,hk⟩
set_option maxHeartbeats 1000000 in
set_option maxRecDepth 100000 in
theorem risname_calls(w:World)(s:ByteArray):Calls Tryz.prog 64 #[.string s] w fun e w'=>e= .returned (.bool (isName s))∧Kept w w':=by
 by_cases h8:s.size≤8
 ·have t1:decide (8<(s.size:Int))=false:=by simp;omega
  have hrw:=rword_calls w s (by omega)
  cases hwk:wokB s with
  |false=>
   have hres:isName s=false:=by unfold isName;simp[hwk]
   rw[hres]
   rw[hwk] at hrw
   clear hres hwk
   go_enter Tryz.func64,Tryz.ntmps64
   go_wp2_with(go_at_call 138;refine hrw.mono ?_;rintro e w1 ⟨rfl,rfl⟩)
   go_ret
   exact⟨rfl,Kept.refl _⟩
  |true=>
   have hres:isName s= !inNames resNames s:=by unfold isName;simp[h8,hwk]
   rw[hres]
   rw[hwk] at hrw
   clear hres hwk
   go_enter Tryz.func64,Tryz.ntmps64
   go_wp2_with(first|(go_at_call 138;refine hrw.mono ?_;rintro e w1 ⟨rfl,rfl⟩)|(go_at_call 139;refine(resnames_calls w).mono ?_;rintro e w1 ⟨b,rfl,hs,hk⟩;have HS:=Lib.hid hs;clear hs))
   go_loop [4] (fun iv=>∃k:Nat,k≤19∧iv= .int .i64 (k:Int)∧∀j,j<k→((resNames[j]?.getD ⟨#[]⟩).toList==s.toList)=false) (fun iv=>19-(intOf iv).toNat)
   case atStart=>exact⟨0,by omega,rfl,fun j h=>by omega⟩
   case round=>
    obtain⟨k,hk8,rfl,hall⟩:=hrel
    have HALL:=Lib.hid hall;clear hall
    by_cases hlt:k<19
    ·have hc:=HS.out k hlt
     generalize hx:(resNames[k]?.getD ⟨#[]⟩)=x at*
     have HX:=Lib.hid hx;clear hx
     cases ht:(x.toList==s.toList) with
     |true=>
      have HT:=Lib.hid ht
      go_wp2
      go_ret
      exact⟨by rw[inNames_true (a:=resNames) (j:=k) hlt (by rw[HX.out];exact HT.out)];rfl,hk⟩
     |false=>
      have HT:=Lib.hid ht
      go_wp2
      go_round
      case rel=>
       refine⟨k+1,by omega,by go_num,fun j hj=> ?_⟩
       by_cases e:j=k
       ·subst e;rw[HX.out];exact HT.out
       ·exact HALL.out j (by omega)
      case measure=>simp[intOf];omega
    ·obtain rfl:19=k:=by omega
     go_wp2
     go_ret
     exact⟨by rw[inNames_false (a:=resNames) HALL.out];rfl,hk⟩
 ·have t1:decide (8<(s.size:Int))=true:=by simp;omega
  have hres:isName s=false:=by unfold isName;simp[h8]
  rw[hres]
  clear hres
  go_enter Tryz.func64,Tryz.ntmps64
  go_wp2
  go_ret
  exact⟨rfl,Kept.refl _⟩
end
section
open Go.Eng (Kept KW KeptB)
def kidsI(op:Int):Int:=
 if op=1∨op=2∨op=3 then 0 else if op=4∨op=9∨op=10∨op=11∨op=12 then 1 else
 if op=5∨op=6∨op=7∨op=8∨op=13∨op=14 then 2 else if op=15 then 3 else -1
set_option maxHeartbeats 4000000 in
set_option maxRecDepth 100000 in
theorem rkids_calls(w:World)(op:Int):Calls Tryz.prog 201 #[.int .i64 op] w fun e w'=>e= .returned (.int .i64 (kidsI op))∧w=w':=by
 by_cases h1:op=1
 ·subst h1
  go_enter Tryz.func201,Tryz.ntmps201
  go_wp2
  first|(go_ret;exact⟨rfl,rfl⟩)|(go_ret2;exact⟨rfl,rfl⟩)
 by_cases h2:op=2
 ·subst h2
  go_enter Tryz.func201,Tryz.ntmps201
  go_wp2
  first|(go_ret;exact⟨rfl,rfl⟩)|(go_ret2;exact⟨rfl,rfl⟩)
 by_cases h3:op=3
 ·subst h3
  go_enter Tryz.func201,Tryz.ntmps201
  go_wp2
  first|(go_ret;exact⟨rfl,rfl⟩)|(go_ret2;exact⟨rfl,rfl⟩)
 by_cases h4:op=4
 ·subst h4
  go_enter Tryz.func201,Tryz.ntmps201
  go_wp2
  first|(go_ret;exact⟨rfl,rfl⟩)|(go_ret2;exact⟨rfl,rfl⟩)
 by_cases h5:op=5
 ·subst h5
  go_enter Tryz.func201,Tryz.ntmps201
  go_wp2
  first|(go_ret;exact⟨rfl,rfl⟩)|(go_ret2;exact⟨rfl,rfl⟩)
 by_cases h6:op=6
 ·subst h6
  go_enter Tryz.func201,Tryz.ntmps201
  go_wp2
  first|(go_ret;exact⟨rfl,rfl⟩)|(go_ret2;exact⟨rfl,rfl⟩)
 by_cases h7:op=7
 ·subst h7
  go_enter Tryz.func201,Tryz.ntmps201
  go_wp2
  first|(go_ret;exact⟨rfl,rfl⟩)|(go_ret2;exact⟨rfl,rfl⟩)
 by_cases h8:op=8
 ·subst h8
  go_enter Tryz.func201,Tryz.ntmps201
  go_wp2
  first|(go_ret;exact⟨rfl,rfl⟩)|(go_ret2;exact⟨rfl,rfl⟩)
 by_cases h9:op=9
 ·subst h9
  go_enter Tryz.func201,Tryz.ntmps201
  go_wp2
  first|(go_ret;exact⟨rfl,rfl⟩)|(go_ret2;exact⟨rfl,rfl⟩)
 by_cases h10:op=10
 ·subst h10
  go_enter Tryz.func201,Tryz.ntmps201
  go_wp2
  first|(go_ret;exact⟨rfl,rfl⟩)|(go_ret2;exact⟨rfl,rfl⟩)
 by_cases h11:op=11
 ·subst h11
  go_enter Tryz.func201,Tryz.ntmps201
  go_wp2
  first|(go_ret;exact⟨rfl,rfl⟩)|(go_ret2;exact⟨rfl,rfl⟩)
 by_cases h12:op=12
 ·subst h12
  go_enter Tryz.func201,Tryz.ntmps201
  go_wp2
  first|(go_ret;exact⟨rfl,rfl⟩)|(go_ret2;exact⟨rfl,rfl⟩)
 by_cases h13:op=13
 ·subst h13
  go_enter Tryz.func201,Tryz.ntmps201
  go_wp2
  first|(go_ret;exact⟨rfl,rfl⟩)|(go_ret2;exact⟨rfl,rfl⟩)
 by_cases h14:op=14
 ·subst h14
  go_enter Tryz.func201,Tryz.ntmps201
  go_wp2
  first|(go_ret;exact⟨rfl,rfl⟩)|(go_ret2;exact⟨rfl,rfl⟩)
 by_cases h15:op=15
 ·subst h15
  go_enter Tryz.func201,Tryz.ntmps201
  go_wp2
  first|(go_ret;exact⟨rfl,rfl⟩)|(go_ret2;exact⟨rfl,rfl⟩)
 have hk:kidsI op= -1:=by unfold kidsI;simp[h1,h2,h3,h4,h5,h6,h7,h8,h9,h10,h11,h12,h13,h14,h15]
 rw[hk]
 have q1:(op==1)=false:=by simpa using h1
 have q2:(op==2)=false:=by simpa using h2
 have q3:(op==3)=false:=by simpa using h3
 have q4:(op==4)=false:=by simpa using h4
 have q5:(op==5)=false:=by simpa using h5
 have q6:(op==6)=false:=by simpa using h6
 have q7:(op==7)=false:=by simpa using h7
 have q8:(op==8)=false:=by simpa using h8
 have q9:(op==9)=false:=by simpa using h9
 have q10:(op==10)=false:=by simpa using h10
 have q11:(op==11)=false:=by simpa using h11
 have q12:(op==12)=false:=by simpa using h12
 have q13:(op==13)=false:=by simpa using h13
 have q14:(op==14)=false:=by simpa using h14
 have q15:(op==15)=false:=by simpa using h15
 clear hk h1 h2 h3 h4 h5 h6 h7 h8 h9 h10 h11 h12 h13 h14 h15
 go_enter Tryz.func201,Tryz.ntmps201
 go_wp2
 first|(go_ret;exact⟨rfl,rfl⟩)|(go_ret2;exact⟨rfl,rfl⟩)
set_option maxHeartbeats 4000000 in
set_option maxRecDepth 100000 in
theorem pkids_calls(w:World)(op:Int):Calls Tryz.prog 185 #[.int .i64 op] w fun e w'=>e= .returned (.tuple #[.int .i64 (if kidsI op<0 then 0 else kidsI op),.bool (decide (0≤kidsI op))])∧w=w':=by
 by_cases h1:op=1
 ·subst h1
  go_enter Tryz.func185,Tryz.ntmps185
  go_wp2
  first|(go_ret;exact⟨rfl,rfl⟩)|(go_ret2;exact⟨rfl,rfl⟩)
 by_cases h2:op=2
 ·subst h2
  go_enter Tryz.func185,Tryz.ntmps185
  go_wp2
  first|(go_ret;exact⟨rfl,rfl⟩)|(go_ret2;exact⟨rfl,rfl⟩)
 by_cases h3:op=3
 ·subst h3
  go_enter Tryz.func185,Tryz.ntmps185
  go_wp2
  first|(go_ret;exact⟨rfl,rfl⟩)|(go_ret2;exact⟨rfl,rfl⟩)
 by_cases h4:op=4
 ·subst h4
  go_enter Tryz.func185,Tryz.ntmps185
  go_wp2
  first|(go_ret;exact⟨rfl,rfl⟩)|(go_ret2;exact⟨rfl,rfl⟩)
 by_cases h5:op=5
 ·subst h5
  go_enter Tryz.func185,Tryz.ntmps185
  go_wp2
  first|(go_ret;exact⟨rfl,rfl⟩)|(go_ret2;exact⟨rfl,rfl⟩)
 by_cases h6:op=6
 ·subst h6
  go_enter Tryz.func185,Tryz.ntmps185
  go_wp2
  first|(go_ret;exact⟨rfl,rfl⟩)|(go_ret2;exact⟨rfl,rfl⟩)
 by_cases h7:op=7
 ·subst h7
  go_enter Tryz.func185,Tryz.ntmps185
  go_wp2
  first|(go_ret;exact⟨rfl,rfl⟩)|(go_ret2;exact⟨rfl,rfl⟩)
 by_cases h8:op=8
 ·subst h8
  go_enter Tryz.func185,Tryz.ntmps185
  go_wp2
  first|(go_ret;exact⟨rfl,rfl⟩)|(go_ret2;exact⟨rfl,rfl⟩)
 by_cases h9:op=9
 ·subst h9
  go_enter Tryz.func185,Tryz.ntmps185
  go_wp2
  first|(go_ret;exact⟨rfl,rfl⟩)|(go_ret2;exact⟨rfl,rfl⟩)
 by_cases h10:op=10
 ·subst h10
  go_enter Tryz.func185,Tryz.ntmps185
  go_wp2
  first|(go_ret;exact⟨rfl,rfl⟩)|(go_ret2;exact⟨rfl,rfl⟩)
 by_cases h11:op=11
 ·subst h11
  go_enter Tryz.func185,Tryz.ntmps185
  go_wp2
  first|(go_ret;exact⟨rfl,rfl⟩)|(go_ret2;exact⟨rfl,rfl⟩)
 by_cases h12:op=12
 ·subst h12
  go_enter Tryz.func185,Tryz.ntmps185
  go_wp2
  first|(go_ret;exact⟨rfl,rfl⟩)|(go_ret2;exact⟨rfl,rfl⟩)
 by_cases h13:op=13
 ·subst h13
  go_enter Tryz.func185,Tryz.ntmps185
  go_wp2
  first|(go_ret;exact⟨rfl,rfl⟩)|(go_ret2;exact⟨rfl,rfl⟩)
 by_cases h14:op=14
 ·subst h14
  go_enter Tryz.func185,Tryz.ntmps185
  go_wp2
  first|(go_ret;exact⟨rfl,rfl⟩)|(go_ret2;exact⟨rfl,rfl⟩)
 by_cases h15:op=15
 ·subst h15
  go_enter Tryz.func185,Tryz.ntmps185
  go_wp2
  first|(go_ret;exact⟨rfl,rfl⟩)|(go_ret2;exact⟨rfl,rfl⟩)
 have hk:kidsI op= -1:=by unfold kidsI;simp[h1,h2,h3,h4,h5,h6,h7,h8,h9,h10,h11,h12,h13,h14,h15]
 rw[hk]
 have q1:(op==1)=false:=by simpa using h1
 have q2:(op==2)=false:=by simpa using h2
 have q3:(op==3)=false:=by simpa using h3
 have q4:(op==4)=false:=by simpa using h4
 have q5:(op==5)=false:=by simpa using h5
 have q6:(op==6)=false:=by simpa using h6
 have q7:(op==7)=false:=by simpa using h7
 have q8:(op==8)=false:=by simpa using h8
 have q9:(op==9)=false:=by simpa using h9
 have q10:(op==10)=false:=by simpa using h10
 have q11:(op==11)=false:=by simpa using h11
 have q12:(op==12)=false:=by simpa using h12
 have q13:(op==13)=false:=by simpa using h13
 have q14:(op==14)=false:=by simpa using h14
 have q15:(op==15)=false:=by simpa using h15
 clear hk h1 h2 h3 h4 h5 h6 h7 h8 h9 h10 h11 h12 h13 h14 h15
 go_enter Tryz.func185,Tryz.ntmps185
 go_wp2
 first|(go_ret;exact⟨rfl,rfl⟩)|(go_ret2;exact⟨rfl,rfl⟩)
end
section
open Go.Eng (Kept KW KeptB wp_region_kw kw_call)
def argOk(op arg:Int):Bool:=
 if op=9 then decide (-32≤arg)&&decide (arg≤32) else if op=10 then decide (2≤arg)&&decide (arg≤8) else
 if op=11 then decide (1≤arg)&&decide (arg≤8) else decide (arg=0)
def nodeOk(op arg:Int)(s:Bool)(N D:Nat)(name:ByteArray)(n:Nat):Bool:=
 decide (kidsI op=(n:Int))&&argOk op arg&&(if op=1 then small N D&& !(s&&decide (0<N))&&decide (name.size=0) else decide (N=0)&&(if op=2 then isName name else decide (name.size=0)))
theorem toList_beq(s:ByteArray):(s.toList==[])=decide (s.size=0):=by
 by_cases h:s.size=0
 ·rw[toList_empty h];simp[h]
 ·rw[toList_ne (by omega)];simp[h]
set_option maxHeartbeats 4000000 in
set_option maxRecDepth 100000 in
theorem argument_calls(w:World)(op arg:Int)(s:Bool)(x1:Option Addr)(x2 x3:Nat)(x4:Option Addr)(x5 x6:Nat)(name:ByteArray)(a:Option Addr)(n cap:Nat):
 Calls Tryz.prog 202 #[.agg #[.int .i64 op,.int .i64 arg,.bool s,.slice x1 x2 x3,.slice x4 x5 x6,.string name,.slice a n cap]] w fun e w'=>e= .returned (.bool (argOk op arg))∧Kept w w':=by
 have hk:Kept w (w.alloc (.cells #[.int .i64 op,.int .i64 arg,.bool s,.slice x1 x2 x3,.slice x4 x5 x6,.string name,.slice a n cap] 27)):=(Kept.refl w).alloc _
 have HK:=Lib.hid hk;clear hk
 have h0:(arg==0)=decide (arg=0):=by rw[Bool.eq_iff_iff];simp
 by_cases h9:op=9
 ·subst h9
  by_cases h1: -32≤arg
  ·have t1:decide (-32≤arg)=true:=by simpa using h1
   have HR:Hid (argOk 9 arg=decide (arg≤32)):=Lib.hid (by unfold argOk;simp[h1])
   go_enter Tryz.func202,Tryz.ntmps202
   go_wp2
   go_ret
   exact⟨by rw[HR.out];rfl,HK.out⟩
  ·have t1:decide (-32≤arg)=false:=by simpa using h1
   have HR:Hid (argOk 9 arg=false):=Lib.hid (by unfold argOk;simp[h1])
   go_enter Tryz.func202,Tryz.ntmps202
   go_wp2
   go_ret
   exact⟨by rw[HR.out];rfl,HK.out⟩
 ·by_cases h10:op=10
  ·subst h10
   by_cases h1:2≤arg
   ·have t1:decide (2≤arg)=true:=by simpa using h1
    have HR:Hid (argOk 10 arg=decide (arg≤8)):=Lib.hid (by unfold argOk;simp[h1])
    go_enter Tryz.func202,Tryz.ntmps202
    go_wp2
    go_ret
    exact⟨by rw[HR.out];rfl,HK.out⟩
   ·have t1:decide (2≤arg)=false:=by simpa using h1
    have HR:Hid (argOk 10 arg=false):=Lib.hid (by unfold argOk;simp[h1])
    go_enter Tryz.func202,Tryz.ntmps202
    go_wp2
    go_ret
    exact⟨by rw[HR.out];rfl,HK.out⟩
  ·by_cases h11:op=11
   ·subst h11
    by_cases h1:1≤arg
    ·have t1:decide (1≤arg)=true:=by simpa using h1
     have HR:Hid (argOk 11 arg=decide (arg≤8)):=Lib.hid (by unfold argOk;simp[h1])
     go_enter Tryz.func202,Tryz.ntmps202
     go_wp2
     go_ret
     exact⟨by rw[HR.out];rfl,HK.out⟩
    ·have t1:decide (1≤arg)=false:=by simpa using h1
     have HR:Hid (argOk 11 arg=false):=Lib.hid (by unfold argOk;simp[h1])
     go_enter Tryz.func202,Tryz.ntmps202
     go_wp2
     go_ret
     exact⟨by rw[HR.out];rfl,HK.out⟩
   ·have q9:(op==9)=false:=by simpa using h9
    have q10:(op==10)=false:=by simpa using h10
    have q11:(op==11)=false:=by simpa using h11
    have HR:Hid (argOk op arg=(arg==0)):=Lib.hid (by unfold argOk;rw[if_neg h9,if_neg h10,if_neg h11,h0])
    clear h0 h9 h10 h11
    go_enter Tryz.func202,Tryz.ntmps202
    go_wp2
    go_ret
    exact⟨by rw[HR.out];rfl,HK.out⟩
theorem toList_isEmpty(s:ByteArray):s.toList.isEmpty=decide (s.size=0):=by
 by_cases h:s.size=0
 ·rw[toList_empty h];simp[h]
 ·have:=toList_ne (s:=s) (by omega)
  cases hl:s.toList with
  |nil=>rw[hl] at this;cases this
  |cons x l=>simp[h]
set_option maxHeartbeats 4000000 in
set_option maxRecDepth 100000 in
theorem node_calls{w:World}{op arg:Int}{s:Bool}{N D:Nat}{name:ByteArray}{x1:Option Addr}{x2 x3:Nat}{x4:Option Addr}{x5 x6:Nat}{a:Option Addr}{n cap:Nat}
 (hr:Rt w (.agg #[.bool s,.slice x1 x2 x3,.slice x4 x5 x6]) s N D)(_hn:n<4611686018427387904):
 Calls Tryz.prog 137 #[.agg #[.int .i64 op,.int .i64 arg,.bool s,.slice x1 x2 x3,.slice x4 x5 x6,.string name,.slice a n cap]] w fun e w'=>e= .returned (.bool (nodeOk op arg s N D name n))∧Kept w w':=by
 have hb:=Blk.new w #[.int .i64 op,.int .i64 arg,.bool s,.slice x1 x2 x3,.slice x4 x5 x6,.string name,.slice a n cap] 27
 have hk:Kept w (w.alloc (.cells #[.int .i64 op,.int .i64 arg,.bool s,.slice x1 x2 x3,.slice x4 x5 x6,.string name,.slice a n cap] 27)):=(Kept.refl w).alloc _
 have hkid:=fun w=>rkids_calls w op
 have harg:=fun w=>argument_calls w op arg s x1 x2 x3 x4 x5 x6 name a n cap
 have hkr: -1≤kidsI op∧kidsI op≤3:=by unfold kidsI;repeat' split<;>omega
 generalize hKE:kidsI op=ki at*
 have HKE:=Lib.hid hKE;clear hKE
 by_cases hki:ki=(n:Int)
 ·have t1:(ki !=(n:Int))=false:=by simpa using hki
  cases hao:argOk op arg with
  |false=>
   have hres:nodeOk op arg s N D name n=false:=by unfold nodeOk;simp[hao]
   rw[hres]
   rw[hao] at harg
   clear hres hr hki
   go_enter Tryz.func137,Tryz.ntmps137
   go_wp2_with fail
   generalize (w.alloc (.cells #[.int .i64 op,.int .i64 arg,.bool s,.slice x1 x2 x3,.slice x4 x5 x6,.string name,.slice a n cap] 27))=w1 at*
   generalize w.heap.size=b0 at*
   obtain⟨p0,p1,p2,p3,p4,p5,p6,_⟩:=hb.facts7
   have hall:∀w',Kept w1 w'→Kept w1 w'∧w'.cell? ⟨b0,0,none⟩=some (.int .i64 op)∧w'.cell? ⟨b0,1,none⟩=some (.int .i64 arg)∧w'.cell? ⟨b0,2,none⟩=some (.bool s)∧w'.cell? ⟨b0,3,none⟩=some (.slice x1 x2 x3)∧w'.cell? ⟨b0,4,none⟩=some (.slice x4 x5 x6)∧w'.cell? ⟨b0,5,none⟩=some (.string name)∧w'.cell? ⟨b0,6,none⟩=some (.slice a n cap):=
    fun w' k=>⟨k,k.cell p0,k.cell p1,k.cell p2,k.cell p3,k.cell p4,k.cell p5,k.cell p6⟩
   have HALL:=Lib.hid hall;clear hall
   go_region_held3 (fun w'=>Kept w1 w'∧w'.cell? ⟨b0,0,none⟩=some (.int .i64 op)∧w'.cell? ⟨b0,1,none⟩=some (.int .i64 arg)∧w'.cell? ⟨b0,2,none⟩=some (.bool s)∧w'.cell? ⟨b0,3,none⟩=some (.slice x1 x2 x3)∧w'.cell? ⟨b0,4,none⟩=some (.slice x4 x5 x6)∧w'.cell? ⟨b0,5,none⟩=some (.string name)∧w'.cell? ⟨b0,6,none⟩=some (.slice a n cap))
    (first|exact HALL.out _ (Kept.refl w1).drew|exact HALL.out _ ‹Kept w1 _›)
    (first|(go_at_call 202;refine(harg _).mono ?_;rintro e w3 ⟨rfl,hk3⟩;have hS3:Kept w1 w3:=(Kept.refl w1).drew.trans hk3)|(go_at_call 201;refine(hkid _).mono ?_;rintro e w2 ⟨rfl,rfl⟩))
   go_wp2
   go_ret
   exact⟨rfl,hk.trans hS3⟩
  |true=>
   rw[hao] at harg
   have HAO:=Lib.hid hao;clear hao
   have HKI:=Lib.hid hki;clear hki
   have e0:=toList_isEmpty name
   by_cases h1:op=1
   ·have q1:(op==1)=true:=by simpa using h1
    have hres:nodeOk op arg s N D name n=(small N D&& !(s&&decide (0<N))&&name.toList.isEmpty):=by
     unfold nodeOk
     rw[HKE.out,HAO.out,HKI.out,e0]
     simp[h1]
    rw[hres]
    clear h1
    have hlg:=fun(w':World)(k:Kept w w')=>large_calls (hr.kept k)
    cases hsm:small N D with
    |false=>
     rw[hsm] at hlg
     clear hres hr hsm e0
     go_enter Tryz.func137,Tryz.ntmps137
     go_wp2_with fail
     generalize (w.alloc (.cells #[.int .i64 op,.int .i64 arg,.bool s,.slice x1 x2 x3,.slice x4 x5 x6,.string name,.slice a n cap] 27))=w1 at*
     generalize w.heap.size=b0 at*
     obtain⟨p0,p1,p2,p3,p4,p5,p6,_⟩:=hb.facts7
     have hall:∀w',Kept w1 w'→Kept w1 w'∧w'.cell? ⟨b0,0,none⟩=some (.int .i64 op)∧w'.cell? ⟨b0,1,none⟩=some (.int .i64 arg)∧w'.cell? ⟨b0,2,none⟩=some (.bool s)∧w'.cell? ⟨b0,3,none⟩=some (.slice x1 x2 x3)∧w'.cell? ⟨b0,4,none⟩=some (.slice x4 x5 x6)∧w'.cell? ⟨b0,5,none⟩=some (.string name)∧w'.cell? ⟨b0,6,none⟩=some (.slice a n cap):=
      fun w' k=>⟨k,k.cell p0,k.cell p1,k.cell p2,k.cell p3,k.cell p4,k.cell p5,k.cell p6⟩
     have HALL:=Lib.hid hall;clear hall
     go_region_held3 (fun w'=>Kept w1 w'∧w'.cell? ⟨b0,0,none⟩=some (.int .i64 op)∧w'.cell? ⟨b0,1,none⟩=some (.int .i64 arg)∧w'.cell? ⟨b0,2,none⟩=some (.bool s)∧w'.cell? ⟨b0,3,none⟩=some (.slice x1 x2 x3)∧w'.cell? ⟨b0,4,none⟩=some (.slice x4 x5 x6)∧w'.cell? ⟨b0,5,none⟩=some (.string name)∧w'.cell? ⟨b0,6,none⟩=some (.slice a n cap))
      (first|exact HALL.out _ (Kept.refl w1).drew|exact HALL.out _ ‹Kept w1 _›)
      (first|(go_at_call 202;refine(harg _).mono ?_;rintro e w3 ⟨rfl,hk3⟩;have hS3:Kept w1 w3:=(Kept.refl w1).drew.trans hk3)|(go_at_call 201;refine(hkid _).mono ?_;rintro e w2 ⟨rfl,rfl⟩))
     obtain⟨c0,c1,c2,c3,c4,c5,c6,_⟩:=(hb.kept hS3).facts7
     have hkw3:=hk.trans hS3
     clear HALL p0 p1 p2 p3 p4 p5 p6 harg hkid
     go_wp2_with(go_at_call 140;refine(hlg _ hkw3).mono ?_;rintro e w4 ⟨rfl,hk4⟩)
     go_ret
     exact⟨rfl,hkw3.trans hk4⟩
    |true=>
     obtain⟨g1,g2,_⟩:=small_bounds hsm
     have hof:=fun(w':World)(k:Kept w w')=>of_qcalls (hr.kept k) (.inr ⟨g1,g2⟩)
     rw[hsm] at hlg
     have hsgc:∀{w5:World}{v5:Value},Qv w5 v5 (s&&decide (0<N)) (rN N D) (rD N D)→Calls Tryz.prog 74 #[v5] w5 fun e w'=>e= .returned (.int .i64 (sgn (s&&decide (0<N)) (rN N D)))∧Kept w5 w':=fun h=>qsgn_calls h
     have hsg:decide (0≤sgn (s&&decide (0<N)) (rN N D))= !(s&&decide (0<N)):=by
      unfold sgn
      by_cases hN:0<N
      ·have h2:0<rN N D:=by rw[rN_dn];exact gcd_le_left' hN
       cases s<;>simp[hN,show rN N D≠0 by omega]
      ·obtain rfl:N=0:=by omega
       cases s<;>simp[rN]
     generalize hqE:(s&&decide (0<N))=q at*
     have HSG:=Lib.hid hsg;clear hsg hqE
     generalize sgn q (rN N D)=sg at*
     clear hres hr hsm e0 g1 g2
     go_enter Tryz.func137,Tryz.ntmps137
     go_wp2_with fail
     generalize (w.alloc (.cells #[.int .i64 op,.int .i64 arg,.bool s,.slice x1 x2 x3,.slice x4 x5 x6,.string name,.slice a n cap] 27))=w1 at*
     generalize w.heap.size=b0 at*
     obtain⟨p0,p1,p2,p3,p4,p5,p6,_⟩:=hb.facts7
     have hall:∀w',Kept w1 w'→Kept w1 w'∧w'.cell? ⟨b0,0,none⟩=some (.int .i64 op)∧w'.cell? ⟨b0,1,none⟩=some (.int .i64 arg)∧w'.cell? ⟨b0,2,none⟩=some (.bool s)∧w'.cell? ⟨b0,3,none⟩=some (.slice x1 x2 x3)∧w'.cell? ⟨b0,4,none⟩=some (.slice x4 x5 x6)∧w'.cell? ⟨b0,5,none⟩=some (.string name)∧w'.cell? ⟨b0,6,none⟩=some (.slice a n cap):=
      fun w' k=>⟨k,k.cell p0,k.cell p1,k.cell p2,k.cell p3,k.cell p4,k.cell p5,k.cell p6⟩
     have HALL:=Lib.hid hall;clear hall
     go_region_held3 (fun w'=>Kept w1 w'∧w'.cell? ⟨b0,0,none⟩=some (.int .i64 op)∧w'.cell? ⟨b0,1,none⟩=some (.int .i64 arg)∧w'.cell? ⟨b0,2,none⟩=some (.bool s)∧w'.cell? ⟨b0,3,none⟩=some (.slice x1 x2 x3)∧w'.cell? ⟨b0,4,none⟩=some (.slice x4 x5 x6)∧w'.cell? ⟨b0,5,none⟩=some (.string name)∧w'.cell? ⟨b0,6,none⟩=some (.slice a n cap))
      (first|exact HALL.out _ (Kept.refl w1).drew|exact HALL.out _ ‹Kept w1 _›)
      (first|(go_at_call 202;refine(harg _).mono ?_;rintro e w3 ⟨rfl,hk3⟩;have hS3:Kept w1 w3:=(Kept.refl w1).drew.trans hk3)|(go_at_call 201;refine(hkid _).mono ?_;rintro e w2 ⟨rfl,rfl⟩))
     obtain⟨c0,c1,c2,c3,c4,c5,c6,_⟩:=(hb.kept hS3).facts7
     have hkw3:=hk.trans hS3
     clear HALL p0 p1 p2 p3 p4 p5 p6 harg hkid
     go_wp2_with fail
     refine(hlg _ hkw3).mono ?_
     rintro e w4 ⟨rfl,hk4⟩
     have hkw4:=hkw3.trans hk4
     clear c0 c1 c2 c3 c4 c5 c6
     obtain⟨c0,c1,c2,c3,c4,c5,c6,_⟩:=(hb.kept (hS3.trans hk4)).facts7
     go_wp2_with fail
     refine(hof _ hkw4).mono ?_
     rintro e w5 ⟨v5,rfl,hq5,hk5⟩
     have hsg5:=hsgc hq5
     clear c0 c1 c2 c3 c4 c5 c6
     obtain⟨c0,c1,c2,c3,c4,c5,c6,_⟩:=(hb.kept ((hS3.trans hk4).trans hk5)).facts7
     go_wp2_with fail
     refine hsg5.mono ?_
     rintro e w6 ⟨rfl,hk6⟩
     clear c0 c1 c2 c3 c4 c5 c6
     obtain⟨c0,c1,c2,c3,c4,c5,c6,_⟩:=(hb.kept (((hS3.trans hk4).trans hk5).trans hk6)).facts7
     have hkw6:=(hkw4.trans hk5).trans hk6
     cases q with
     |false=>
      have t5:decide (0≤sg)=true:=by rw[HSG.out];rfl
      go_wp2
      go_ret
      exact⟨rfl,hkw6⟩
     |true=>
      have t5:decide (0≤sg)=false:=by rw[HSG.out];rfl
      go_wp2
      go_ret
      exact⟨rfl,hkw6⟩
   ·have q1:(op==1)=false:=by simpa using h1
    have hz:=fun(w':World)(k:Kept w w')=>zeroq_calls (hr.kept k)
    by_cases hN:N=0
    ·have hN1:decide (N=0)=true:=by simpa using hN
     rw[hN1] at hz
     by_cases h2:op=2
     ·have q2:(op==2)=true:=by simpa using h2
      have hres:nodeOk op arg s N D name n=isName name:=by
       unfold nodeOk
       rw[HKE.out,HAO.out,HKI.out]
       simp[hN,h2]
      rw[hres]
      clear h1 h2
      have hnm:=fun w=>risname_calls w name
      generalize isName name=nm at*
      clear hres hr hN hN1 e0
      go_enter Tryz.func137,Tryz.ntmps137
      go_wp2_with fail
      generalize (w.alloc (.cells #[.int .i64 op,.int .i64 arg,.bool s,.slice x1 x2 x3,.slice x4 x5 x6,.string name,.slice a n cap] 27))=w1 at*
      generalize w.heap.size=b0 at*
      obtain⟨p0,p1,p2,p3,p4,p5,p6,_⟩:=hb.facts7
      have hall:∀w',Kept w1 w'→Kept w1 w'∧w'.cell? ⟨b0,0,none⟩=some (.int .i64 op)∧w'.cell? ⟨b0,1,none⟩=some (.int .i64 arg)∧w'.cell? ⟨b0,2,none⟩=some (.bool s)∧w'.cell? ⟨b0,3,none⟩=some (.slice x1 x2 x3)∧w'.cell? ⟨b0,4,none⟩=some (.slice x4 x5 x6)∧w'.cell? ⟨b0,5,none⟩=some (.string name)∧w'.cell? ⟨b0,6,none⟩=some (.slice a n cap):=
       fun w' k=>⟨k,k.cell p0,k.cell p1,k.cell p2,k.cell p3,k.cell p4,k.cell p5,k.cell p6⟩
      have HALL:=Lib.hid hall;clear hall
      go_region_held3 (fun w'=>Kept w1 w'∧w'.cell? ⟨b0,0,none⟩=some (.int .i64 op)∧w'.cell? ⟨b0,1,none⟩=some (.int .i64 arg)∧w'.cell? ⟨b0,2,none⟩=some (.bool s)∧w'.cell? ⟨b0,3,none⟩=some (.slice x1 x2 x3)∧w'.cell? ⟨b0,4,none⟩=some (.slice x4 x5 x6)∧w'.cell? ⟨b0,5,none⟩=some (.string name)∧w'.cell? ⟨b0,6,none⟩=some (.slice a n cap))
       (first|exact HALL.out _ (Kept.refl w1).drew|exact HALL.out _ ‹Kept w1 _›)
       (first|(go_at_call 202;refine(harg _).mono ?_;rintro e w3 ⟨rfl,hk3⟩;have hS3:Kept w1 w3:=(Kept.refl w1).drew.trans hk3)|(go_at_call 201;refine(hkid _).mono ?_;rintro e w2 ⟨rfl,rfl⟩))
      obtain⟨c0,c1,c2,c3,c4,c5,c6,_⟩:=(hb.kept hS3).facts7
      have hkw3:=hk.trans hS3
      clear HALL p0 p1 p2 p3 p4 p5 p6 harg hkid
      go_wp2_with fail
      refine(hz _ hkw3).mono ?_
      rintro e w4 ⟨rfl,hk4⟩
      clear c0 c1 c2 c3 c4 c5 c6
      obtain⟨c0,c1,c2,c3,c4,c5,c6,_⟩:=(hb.kept (hS3.trans hk4)).facts7
      go_wp2_with(go_at_call 64;refine(hnm _).mono ?_;rintro e w5 ⟨rfl,hk5⟩)
      go_ret
      exact⟨rfl,(hkw3.trans hk4).trans hk5⟩
     ·have q2:(op==2)=false:=by simpa using h2
      have hres:nodeOk op arg s N D name n=name.toList.isEmpty:=by
       unfold nodeOk
       rw[HKE.out,HAO.out,HKI.out,e0]
       simp[hN,h1,h2]
      rw[hres]
      clear hres hr hN hN1 e0 h1 h2
      go_enter Tryz.func137,Tryz.ntmps137
      go_wp2_with fail
      generalize (w.alloc (.cells #[.int .i64 op,.int .i64 arg,.bool s,.slice x1 x2 x3,.slice x4 x5 x6,.string name,.slice a n cap] 27))=w1 at*
      generalize w.heap.size=b0 at*
      obtain⟨p0,p1,p2,p3,p4,p5,p6,_⟩:=hb.facts7
      have hall:∀w',Kept w1 w'→Kept w1 w'∧w'.cell? ⟨b0,0,none⟩=some (.int .i64 op)∧w'.cell? ⟨b0,1,none⟩=some (.int .i64 arg)∧w'.cell? ⟨b0,2,none⟩=some (.bool s)∧w'.cell? ⟨b0,3,none⟩=some (.slice x1 x2 x3)∧w'.cell? ⟨b0,4,none⟩=some (.slice x4 x5 x6)∧w'.cell? ⟨b0,5,none⟩=some (.string name)∧w'.cell? ⟨b0,6,none⟩=some (.slice a n cap):=
       fun w' k=>⟨k,k.cell p0,k.cell p1,k.cell p2,k.cell p3,k.cell p4,k.cell p5,k.cell p6⟩
      have HALL:=Lib.hid hall;clear hall
      go_region_held3 (fun w'=>Kept w1 w'∧w'.cell? ⟨b0,0,none⟩=some (.int .i64 op)∧w'.cell? ⟨b0,1,none⟩=some (.int .i64 arg)∧w'.cell? ⟨b0,2,none⟩=some (.bool s)∧w'.cell? ⟨b0,3,none⟩=some (.slice x1 x2 x3)∧w'.cell? ⟨b0,4,none⟩=some (.slice x4 x5 x6)∧w'.cell? ⟨b0,5,none⟩=some (.string name)∧w'.cell? ⟨b0,6,none⟩=some (.slice a n cap))
       (first|exact HALL.out _ (Kept.refl w1).drew|exact HALL.out _ ‹Kept w1 _›)
       (first|(go_at_call 202;refine(harg _).mono ?_;rintro e w3 ⟨rfl,hk3⟩;have hS3:Kept w1 w3:=(Kept.refl w1).drew.trans hk3)|(go_at_call 201;refine(hkid _).mono ?_;rintro e w2 ⟨rfl,rfl⟩))
      obtain⟨c0,c1,c2,c3,c4,c5,c6,_⟩:=(hb.kept hS3).facts7
      have hkw3:=hk.trans hS3
      clear HALL p0 p1 p2 p3 p4 p5 p6 harg hkid
      go_wp2_with fail
      refine(hz _ hkw3).mono ?_
      rintro e w4 ⟨rfl,hk4⟩
      clear c0 c1 c2 c3 c4 c5 c6
      obtain⟨c0,c1,c2,c3,c4,c5,c6,_⟩:=(hb.kept (hS3.trans hk4)).facts7
      go_wp2
      go_ret
      exact⟨rfl,hkw3.trans hk4⟩
    ·have hN1:decide (N=0)=false:=by simpa using hN
     rw[hN1] at hz
     have hres:nodeOk op arg s N D name n=false:=by
      unfold nodeOk
      simp[hN,h1]
     rw[hres]
     clear hres hr hN hN1 e0 h1
     go_enter Tryz.func137,Tryz.ntmps137
     go_wp2_with fail
     generalize (w.alloc (.cells #[.int .i64 op,.int .i64 arg,.bool s,.slice x1 x2 x3,.slice x4 x5 x6,.string name,.slice a n cap] 27))=w1 at*
     generalize w.heap.size=b0 at*
     obtain⟨p0,p1,p2,p3,p4,p5,p6,_⟩:=hb.facts7
     have hall:∀w',Kept w1 w'→Kept w1 w'∧w'.cell? ⟨b0,0,none⟩=some (.int .i64 op)∧w'.cell? ⟨b0,1,none⟩=some (.int .i64 arg)∧w'.cell? ⟨b0,2,none⟩=some (.bool s)∧w'.cell? ⟨b0,3,none⟩=some (.slice x1 x2 x3)∧w'.cell? ⟨b0,4,none⟩=some (.slice x4 x5 x6)∧w'.cell? ⟨b0,5,none⟩=some (.string name)∧w'.cell? ⟨b0,6,none⟩=some (.slice a n cap):=
      fun w' k=>⟨k,k.cell p0,k.cell p1,k.cell p2,k.cell p3,k.cell p4,k.cell p5,k.cell p6⟩
     have HALL:=Lib.hid hall;clear hall
     go_region_held3 (fun w'=>Kept w1 w'∧w'.cell? ⟨b0,0,none⟩=some (.int .i64 op)∧w'.cell? ⟨b0,1,none⟩=some (.int .i64 arg)∧w'.cell? ⟨b0,2,none⟩=some (.bool s)∧w'.cell? ⟨b0,3,none⟩=some (.slice x1 x2 x3)∧w'.cell? ⟨b0,4,none⟩=some (.slice x4 x5 x6)∧w'.cell? ⟨b0,5,none⟩=some (.string name)∧w'.cell? ⟨b0,6,none⟩=some (.slice a n cap))
      (first|exact HALL.out _ (Kept.refl w1).drew|exact HALL.out _ ‹Kept w1 _›)
      (first|(go_at_call 202;refine(harg _).mono ?_;rintro e w3 ⟨rfl,hk3⟩;have hS3:Kept w1 w3:=(Kept.refl w1).drew.trans hk3)|(go_at_call 201;refine(hkid _).mono ?_;rintro e w2 ⟨rfl,rfl⟩))
     obtain⟨c0,c1,c2,c3,c4,c5,c6,_⟩:=(hb.kept hS3).facts7
     have hkw3:=hk.trans hS3
     clear HALL p0 p1 p2 p3 p4 p5 p6 harg hkid
     go_wp2_with(go_at_call 203;refine(hz _ hkw3).mono ?_;rintro e w4 ⟨rfl,hk4⟩)
     go_ret
     exact⟨rfl,hkw3.trans hk4⟩
 ·have t1:(ki !=(n:Int))=true:=by simpa using hki
  have hres:nodeOk op arg s N D name n=false:=by unfold nodeOk;rw[HKE.out];simp[hki]
  rw[hres]
  clear hres hr hki
  have hkid2:=fun w=>(hkid w).mono (R':=fun e w'=>e= .returned (.int .i64 ki)∧Kept w w') fun _ _ h=>⟨h.1,h.2▸Kept.refl _⟩
  clear hkid harg
  go_enter Tryz.func137,Tryz.ntmps137
  go_wp2_with fail
  generalize (w.alloc (.cells #[.int .i64 op,.int .i64 arg,.bool s,.slice x1 x2 x3,.slice x4 x5 x6,.string name,.slice a n cap] 27))=w1 at*
  generalize w.heap.size=b0 at*
  obtain⟨p0,p1,p2,p3,p4,p5,p6,_⟩:=hb.facts7
  have a0:=fun(k:KW w1)=>k.kept.cell p0
  have a1:=fun(k:KW w1)=>k.kept.cell p1
  have a2:=fun(k:KW w1)=>k.kept.cell p2
  have a3:=fun(k:KW w1)=>k.kept.cell p3
  have a4:=fun(k:KW w1)=>k.kept.cell p4
  have a5:=fun(k:KW w1)=>k.kept.cell p5
  have a6:=fun(k:KW w1)=>k.kept.cell p6
  refine wp_region_kw w1 (Kept.refl _) (by kernel_rfl) (by kernel_rfl) ?_
  repeat (go_big_quiet_step (first|(go_at_call 201;exact kw_call (hkid2 _))))
  refine wpQuiet_nil ?_
  rintro _ ⟨k2,rfl⟩
  go_wp2
  go_ret
  exact⟨rfl,hk.trans k2.kept⟩
end
section
open Go.Eng (Kept KW KeptB)
theorem sgn_ge(s:Bool)(N D:Nat):decide (0≤sgn (s&&decide (0<N)) (rN N D))= !(s&&decide (0<N)):=by
 cases h:(s&&decide (0<N))
 ·unfold sgn;split<;>simp
 ·have hN:0<N:=by simp at h;exact h.2
  have:rN N D≠0:=by
   unfold rN
   exact Nat.ne_of_gt (Nat.div_pos (Nat.gcd_le_left _ hN) (Nat.gcd_pos_of_pos_left _ hN))
  unfold sgn;rw[if_neg this];simp
set_option maxHeartbeats 8000000 in
set_option maxRecDepth 100000 in
theorem fields_calls{w:World}{op arg:Int}{s:Bool}{N D:Nat}{name:ByteArray}{x1:Option Addr}{x2 x3:Nat}{x4:Option Addr}{x5 x6:Nat}{a:Option Addr}{n cap:Nat}
 (hr:Rt w (.agg #[.bool s,.slice x1 x2 x3,.slice x4 x5 x6]) s N D)(hT:Laid w):
 Calls Tryz.prog 109 #[.agg #[.int .i64 op,.int .i64 arg,.bool s,.slice x1 x2 x3,.slice x4 x5 x6,.string name,.slice a n cap]] w fun e w'=>e= .returned (.bool (nodeOk op arg s N D name n))∧Kept w w':=by
 have hkid:=fun w=>pkids_calls w op
 have hread:=fun(w':World)(k:Kept w w')=>read_calls (hr.kept k) (hT.kept k)
 have hof:∃t c,(∀w',Kept w w'→Calls Tryz.prog 130 #[.slice x1 x2 x3] w' fun e w2=>e= .returned (.slice x1 t c)∧w'=w2)∧(∀w',Kept w w'→Calls Tryz.prog 131 #[.slice x1 t c] w' fun e w2=>e= .returned (.bool (decide (N=0)))∧w'=w2):=by
  obtain⟨vn,vd,he,hn,hd⟩:=hr
  obtain⟨a,n,cap,xs,rfl,hc1,hn1,hxl,rfl,hxw⟩:=hn
  injection he with he
  simp only[Array.mk.injEq,List.cons.injEq,Value.slice.injEq] at he
  obtain⟨-,⟨rfl,rfl,rfl⟩,-⟩:=he
  refine⟨trimN xs x2,x3,fun w' k=> ?_,fun w' k=> ?_⟩
  ·exact of_calls w' _ _ _ xs (by omega) hc1 (hxw.kept k)
  ·exact zero_calls (Or.inr rfl) (nt_of hc1 hxl (hxw.kept k))
 obtain⟨tz,tc,hof,hzero⟩:=hof
 have hname:=fun w=>eisname_calls w name
 have hn1:(name.toList==[])=decide (name.size=0):=toList_beq name
 have hn2:name.toList.isEmpty=decide (name.size=0):=toList_isEmpty name
 have hk:Kept w (w.alloc (.cells #[.int .i64 op,.int .i64 arg,.bool s,.slice x1 x2 x3,.slice x4 x5 x6,.string name,.slice a n cap] 27)):=(Kept.refl w).alloc _
 have HK:=Lib.hid hk;clear hk
 have HB:=Lib.hid (Blk.new w #[.int .i64 op,.int .i64 arg,.bool s,.slice x1 x2 x3,.slice x4 x5 x6,.string name,.slice a n cap] 27)
 have HSG:=Lib.hid (sgn_ge s N D)
 clear hr hT
 generalize hKE:kidsI op=ki at*
 have HKE:=Lib.hid hKE;clear hKE
 by_cases h9:op=9
 ·subst h9
  by_cases hkn:ki<0
  ·rw[if_pos hkn,show decide (0≤ki)=false by simp;omega] at hkid
   have HR:Hid (nodeOk 9 arg s N D name n=false):=Lib.hid (by have hke:=HKE.out;unfold nodeOk;simp[show ¬(kidsI 9=(n:Int)) by omega])
   clear hn1 hn2
   go_enter Tryz.func109,Tryz.ntmps109
   go_wp2_with(first|(go_at_call 185;refine(hkid _).mono ?_;rintro e wa ⟨rfl,rfl⟩))
   go_ret
   exact⟨by rw[HR.out];rfl,HK.out⟩
  rw[if_neg hkn,show decide (0≤ki)=true by simp;omega] at hkid
  by_cases hki:(n:Int)=ki
  ·have tk:((n:Int) != ki)=false:=by simpa using hki
   by_cases hlo:arg< -32
   ·have tl:decide (arg< -32)=true:=by simpa using hlo
    have hao:argOk 9 arg=false:=by unfold argOk;simp;omega
    have HR:Hid (nodeOk 9 arg s N D name n=false):=Lib.hid (by have hke:=HKE.out;unfold nodeOk;simp[hao])
    clear hn1 hn2
    go_enter Tryz.func109,Tryz.ntmps109
    go_wp2_with(first|(go_at_call 185;refine(hkid _).mono ?_;rintro e wa ⟨rfl,rfl⟩))
    go_ret
    exact⟨by rw[HR.out];rfl,HK.out⟩
   have tl:decide (arg< -32)=false:=by simpa using hlo
   by_cases hhi:32<arg
   ·have tr:decide (32<arg)=true:=by simpa using hhi
    have hao:argOk 9 arg=false:=by unfold argOk;simp;omega
    have HR:Hid (nodeOk 9 arg s N D name n=false):=Lib.hid (by have hke:=HKE.out;unfold nodeOk;simp[hao])
    clear hn1 hn2
    go_enter Tryz.func109,Tryz.ntmps109
    go_wp2_with(first|(go_at_call 185;refine(hkid _).mono ?_;rintro e wa ⟨rfl,rfl⟩))
    go_ret
    exact⟨by rw[HR.out];rfl,HK.out⟩
   have tr:decide (32<arg)=false:=by simpa using hhi
   have hao:argOk 9 arg=true:=by unfold argOk;simp;omega
   clear hlo hhi
   by_cases hnz:name.size=0
   ·rw[show decide (name.size=0)=true by simpa using hnz] at hn1 hn2
    have HR:Hid (nodeOk 9 arg s N D name n=decide (N=0)):=Lib.hid (by have hke:=HKE.out;unfold nodeOk;simp[hke,hki,hao,hnz])
    go_enter Tryz.func109,Tryz.ntmps109
    go_wp2_with(first|(go_at_call 185;refine(hkid _).mono ?_;rintro e wa ⟨rfl,rfl⟩)|(go_at_call 130;refine(hof _ HK.out).mono ?_;rintro e wc ⟨rfl,rfl⟩)|(go_at_call 131;refine(hzero _ HK.out).mono ?_;rintro e wd ⟨rfl,rfl⟩))
    go_ret
    exact⟨by rw[HR.out];rfl,HK.out⟩
   ·rw[show decide (name.size=0)=false by simpa using hnz] at hn1 hn2
    have HR:Hid (nodeOk 9 arg s N D name n=false):=Lib.hid (by have hke:=HKE.out;unfold nodeOk;simp[hnz])
    go_enter Tryz.func109,Tryz.ntmps109
    go_wp2_with(first|(go_at_call 185;refine(hkid _).mono ?_;rintro e wa ⟨rfl,rfl⟩))
    go_ret
    exact⟨by rw[HR.out];rfl,HK.out⟩
  ·have tk:((n:Int) != ki)=true:=by simpa using hki
   have HR:Hid (nodeOk 9 arg s N D name n=false):=Lib.hid (by have hke:=HKE.out;unfold nodeOk;simp[show ¬(kidsI 9=(n:Int)) by omega])
   clear hn1 hn2
   go_enter Tryz.func109,Tryz.ntmps109
   go_wp2_with(first|(go_at_call 185;refine(hkid _).mono ?_;rintro e wa ⟨rfl,rfl⟩))
   go_ret
   exact⟨by rw[HR.out];rfl,HK.out⟩
 by_cases h10:op=10
 ·subst h10
  by_cases hkn:ki<0
  ·rw[if_pos hkn,show decide (0≤ki)=false by simp;omega] at hkid
   have HR:Hid (nodeOk 10 arg s N D name n=false):=Lib.hid (by have hke:=HKE.out;unfold nodeOk;simp[show ¬(kidsI 10=(n:Int)) by omega])
   clear hn1 hn2
   go_enter Tryz.func109,Tryz.ntmps109
   go_wp2_with(first|(go_at_call 185;refine(hkid _).mono ?_;rintro e wa ⟨rfl,rfl⟩))
   go_ret
   exact⟨by rw[HR.out];rfl,HK.out⟩
  rw[if_neg hkn,show decide (0≤ki)=true by simp;omega] at hkid
  by_cases hki:(n:Int)=ki
  ·have tk:((n:Int) != ki)=false:=by simpa using hki
   by_cases hlo:arg<2
   ·have tl:decide (arg<2)=true:=by simpa using hlo
    have hao:argOk 10 arg=false:=by unfold argOk;simp;omega
    have HR:Hid (nodeOk 10 arg s N D name n=false):=Lib.hid (by have hke:=HKE.out;unfold nodeOk;simp[hao])
    clear hn1 hn2
    go_enter Tryz.func109,Tryz.ntmps109
    go_wp2_with(first|(go_at_call 185;refine(hkid _).mono ?_;rintro e wa ⟨rfl,rfl⟩))
    go_ret
    exact⟨by rw[HR.out];rfl,HK.out⟩
   have tl:decide (arg<2)=false:=by simpa using hlo
   by_cases hhi:8<arg
   ·have tr:decide (8<arg)=true:=by simpa using hhi
    have hao:argOk 10 arg=false:=by unfold argOk;simp;omega
    have HR:Hid (nodeOk 10 arg s N D name n=false):=Lib.hid (by have hke:=HKE.out;unfold nodeOk;simp[hao])
    clear hn1 hn2
    go_enter Tryz.func109,Tryz.ntmps109
    go_wp2_with(first|(go_at_call 185;refine(hkid _).mono ?_;rintro e wa ⟨rfl,rfl⟩))
    go_ret
    exact⟨by rw[HR.out];rfl,HK.out⟩
   have tr:decide (8<arg)=false:=by simpa using hhi
   have hao:argOk 10 arg=true:=by unfold argOk;simp;omega
   clear hlo hhi
   by_cases hnz:name.size=0
   ·rw[show decide (name.size=0)=true by simpa using hnz] at hn1 hn2
    have HR:Hid (nodeOk 10 arg s N D name n=decide (N=0)):=Lib.hid (by have hke:=HKE.out;unfold nodeOk;simp[hke,hki,hao,hnz])
    go_enter Tryz.func109,Tryz.ntmps109
    go_wp2_with(first|(go_at_call 185;refine(hkid _).mono ?_;rintro e wa ⟨rfl,rfl⟩)|(go_at_call 130;refine(hof _ HK.out).mono ?_;rintro e wc ⟨rfl,rfl⟩)|(go_at_call 131;refine(hzero _ HK.out).mono ?_;rintro e wd ⟨rfl,rfl⟩))
    go_ret
    exact⟨by rw[HR.out];rfl,HK.out⟩
   ·rw[show decide (name.size=0)=false by simpa using hnz] at hn1 hn2
    have HR:Hid (nodeOk 10 arg s N D name n=false):=Lib.hid (by have hke:=HKE.out;unfold nodeOk;simp[hnz])
    go_enter Tryz.func109,Tryz.ntmps109
    go_wp2_with(first|(go_at_call 185;refine(hkid _).mono ?_;rintro e wa ⟨rfl,rfl⟩))
    go_ret
    exact⟨by rw[HR.out];rfl,HK.out⟩
  ·have tk:((n:Int) != ki)=true:=by simpa using hki
   have HR:Hid (nodeOk 10 arg s N D name n=false):=Lib.hid (by have hke:=HKE.out;unfold nodeOk;simp[show ¬(kidsI 10=(n:Int)) by omega])
   clear hn1 hn2
   go_enter Tryz.func109,Tryz.ntmps109
   go_wp2_with(first|(go_at_call 185;refine(hkid _).mono ?_;rintro e wa ⟨rfl,rfl⟩))
   go_ret
   exact⟨by rw[HR.out];rfl,HK.out⟩
 by_cases h11:op=11
 ·subst h11
  by_cases hkn:ki<0
  ·rw[if_pos hkn,show decide (0≤ki)=false by simp;omega] at hkid
   have HR:Hid (nodeOk 11 arg s N D name n=false):=Lib.hid (by have hke:=HKE.out;unfold nodeOk;simp[show ¬(kidsI 11=(n:Int)) by omega])
   clear hn1 hn2
   go_enter Tryz.func109,Tryz.ntmps109
   go_wp2_with(first|(go_at_call 185;refine(hkid _).mono ?_;rintro e wa ⟨rfl,rfl⟩))
   go_ret
   exact⟨by rw[HR.out];rfl,HK.out⟩
  rw[if_neg hkn,show decide (0≤ki)=true by simp;omega] at hkid
  by_cases hki:(n:Int)=ki
  ·have tk:((n:Int) != ki)=false:=by simpa using hki
   by_cases hlo:arg<1
   ·have tl:decide (arg<1)=true:=by simpa using hlo
    have hao:argOk 11 arg=false:=by unfold argOk;simp;omega
    have HR:Hid (nodeOk 11 arg s N D name n=false):=Lib.hid (by have hke:=HKE.out;unfold nodeOk;simp[hao])
    clear hn1 hn2
    go_enter Tryz.func109,Tryz.ntmps109
    go_wp2_with(first|(go_at_call 185;refine(hkid _).mono ?_;rintro e wa ⟨rfl,rfl⟩))
    go_ret
    exact⟨by rw[HR.out];rfl,HK.out⟩
   have tl:decide (arg<1)=false:=by simpa using hlo
   by_cases hhi:8<arg
   ·have tr:decide (8<arg)=true:=by simpa using hhi
    have hao:argOk 11 arg=false:=by unfold argOk;simp;omega
    have HR:Hid (nodeOk 11 arg s N D name n=false):=Lib.hid (by have hke:=HKE.out;unfold nodeOk;simp[hao])
    clear hn1 hn2
    go_enter Tryz.func109,Tryz.ntmps109
    go_wp2_with(first|(go_at_call 185;refine(hkid _).mono ?_;rintro e wa ⟨rfl,rfl⟩))
    go_ret
    exact⟨by rw[HR.out];rfl,HK.out⟩
   have tr:decide (8<arg)=false:=by simpa using hhi
   have hao:argOk 11 arg=true:=by unfold argOk;simp;omega
   clear hlo hhi
   by_cases hnz:name.size=0
   ·rw[show decide (name.size=0)=true by simpa using hnz] at hn1 hn2
    have HR:Hid (nodeOk 11 arg s N D name n=decide (N=0)):=Lib.hid (by have hke:=HKE.out;unfold nodeOk;simp[hke,hki,hao,hnz])
    go_enter Tryz.func109,Tryz.ntmps109
    go_wp2_with(first|(go_at_call 185;refine(hkid _).mono ?_;rintro e wa ⟨rfl,rfl⟩)|(go_at_call 130;refine(hof _ HK.out).mono ?_;rintro e wc ⟨rfl,rfl⟩)|(go_at_call 131;refine(hzero _ HK.out).mono ?_;rintro e wd ⟨rfl,rfl⟩))
    go_ret
    exact⟨by rw[HR.out];rfl,HK.out⟩
   ·rw[show decide (name.size=0)=false by simpa using hnz] at hn1 hn2
    have HR:Hid (nodeOk 11 arg s N D name n=false):=Lib.hid (by have hke:=HKE.out;unfold nodeOk;simp[hnz])
    go_enter Tryz.func109,Tryz.ntmps109
    go_wp2_with(first|(go_at_call 185;refine(hkid _).mono ?_;rintro e wa ⟨rfl,rfl⟩))
    go_ret
    exact⟨by rw[HR.out];rfl,HK.out⟩
  ·have tk:((n:Int) != ki)=true:=by simpa using hki
   have HR:Hid (nodeOk 11 arg s N D name n=false):=Lib.hid (by have hke:=HKE.out;unfold nodeOk;simp[show ¬(kidsI 11=(n:Int)) by omega])
   clear hn1 hn2
   go_enter Tryz.func109,Tryz.ntmps109
   go_wp2_with(first|(go_at_call 185;refine(hkid _).mono ?_;rintro e wa ⟨rfl,rfl⟩))
   go_ret
   exact⟨by rw[HR.out];rfl,HK.out⟩
 have q9:(op==9)=false:=by simpa using h9
 have q10:(op==10)=false:=by simpa using h10
 have q11:(op==11)=false:=by simpa using h11
 clear h9 h10 h11
 by_cases hkn:ki<0
 ·rw[if_pos hkn,show decide (0≤ki)=false by simp;omega] at hkid
  have HR:Hid (nodeOk op arg s N D name n=false):=Lib.hid (by have hke:=HKE.out;unfold nodeOk;simp[show ¬(kidsI op=(n:Int)) by omega])
  clear hn1 hn2
  go_enter Tryz.func109,Tryz.ntmps109
  go_wp2_with(first|(go_at_call 185;refine(hkid _).mono ?_;rintro e wa ⟨rfl,rfl⟩))
  go_ret
  exact⟨by rw[HR.out];rfl,HK.out⟩
 rw[if_neg hkn,show decide (0≤ki)=true by simp;omega] at hkid
 by_cases hki:(n:Int)=ki
 ·have tk:((n:Int) != ki)=false:=by simpa using hki
  by_cases hlo:arg<0
  ·have tl:decide (arg<0)=true:=by simpa using hlo
   have hao:argOk op arg=false:=by unfold argOk;simp at q9 q10 q11;rw[if_neg q9,if_neg q10,if_neg q11];simp;omega
   have HR:Hid (nodeOk op arg s N D name n=false):=Lib.hid (by have hke:=HKE.out;unfold nodeOk;simp[hao])
   clear hn1 hn2
   go_enter Tryz.func109,Tryz.ntmps109
   go_wp2_with(first|(go_at_call 185;refine(hkid _).mono ?_;rintro e wa ⟨rfl,rfl⟩))
   go_ret
   exact⟨by rw[HR.out];rfl,HK.out⟩
  have tl:decide (arg<0)=false:=by simpa using hlo
  by_cases hhi:0<arg
  ·have tr:decide (0<arg)=true:=by simpa using hhi
   have hao:argOk op arg=false:=by unfold argOk;simp at q9 q10 q11;rw[if_neg q9,if_neg q10,if_neg q11];simp;omega
   have HR:Hid (nodeOk op arg s N D name n=false):=Lib.hid (by have hke:=HKE.out;unfold nodeOk;simp[hao])
   clear hn1 hn2
   go_enter Tryz.func109,Tryz.ntmps109
   go_wp2_with(first|(go_at_call 185;refine(hkid _).mono ?_;rintro e wa ⟨rfl,rfl⟩))
   go_ret
   exact⟨by rw[HR.out];rfl,HK.out⟩
  have tr:decide (0<arg)=false:=by simpa using hhi
  have hao:argOk op arg=true:=by unfold argOk;simp at q9 q10 q11;rw[if_neg q9,if_neg q10,if_neg q11];simp;omega
  clear hlo hhi
  by_cases h1:op=1
  ·subst h1
   by_cases hnz:name.size=0
   ·rw[show decide (name.size=0)=true by simpa using hnz] at hn1 hn2
    cases hsm:small N D with
    |false=>
     have HR:Hid (nodeOk 1 arg s N D name n=false):=Lib.hid (by have hke:=HKE.out;unfold nodeOk;simp[hsm])
     go_enter Tryz.func109,Tryz.ntmps109
     go_wp2_with(first|(go_at_call 185;refine(hkid _).mono ?_;rintro e wa ⟨rfl,rfl⟩)|(go_at_call 61;refine(hread _ HK.out).mono ?_;rintro e wr ⟨p,a1,n1,c1,a2,n2,c2,rfl,hkr,hfr⟩;have hS2:=HK.out.trans hkr))
     go_ret
     exact⟨by rw[HR.out];rfl,(by first|exact hS2|exact hS2.alloc _|exact(hS2.alloc _).trans hkq)⟩
    |true=>
     have HR:Hid (nodeOk 1 arg s N D name n=decide (0≤sgn (s&&decide (0<N)) (rN N D))):=Lib.hid (by have hke:=HKE.out;unfold nodeOk;rw[HSG.out];simp[hsm,hke,hki,hao,hnz])
     go_enter Tryz.func109,Tryz.ntmps109
     go_wp2_with(first|(go_at_call 185;refine(hkid _).mono ?_;rintro e wa ⟨rfl,rfl⟩)|(go_at_call 61;refine(hread _ HK.out).mono ?_;rintro e wr ⟨p,a1,n1,c1,a2,n2,c2,rfl,hkr,hfr⟩;have hS2:=HK.out.trans hkr)|(go_at_call 134;refine(sign_calls ((hfr hsm).kept ((Kept.refl _).alloc _))).mono ?_;rintro e we ⟨rfl,hkq⟩))
     go_ret
     exact⟨by rw[HR.out];rfl,(by first|exact hS2|exact hS2.alloc _|exact(hS2.alloc _).trans hkq)⟩
   ·rw[show decide (name.size=0)=false by simpa using hnz] at hn1 hn2
    have HR:Hid (nodeOk 1 arg s N D name n=false):=Lib.hid (by have hke:=HKE.out;unfold nodeOk;simp[hnz])
    go_enter Tryz.func109,Tryz.ntmps109
    go_wp2_with(first|(go_at_call 185;refine(hkid _).mono ?_;rintro e wa ⟨rfl,rfl⟩))
    go_ret
    exact⟨by rw[HR.out];rfl,HK.out⟩
  by_cases h2:op=2
  ·subst h2
   cases hin:isName name with
   |false=>
    rw[hin] at hname
    have HR:Hid (nodeOk 2 arg s N D name n=false):=Lib.hid (by have hke:=HKE.out;unfold nodeOk;simp[hin])
    clear hn1 hn2
    go_enter Tryz.func109,Tryz.ntmps109
    go_wp2_with(first|(go_at_call 185;refine(hkid _).mono ?_;rintro e wa ⟨rfl,rfl⟩)|(go_at_call 49;refine(hname _).mono ?_;rintro e wb ⟨rfl,hkb⟩;have hS1:=HK.out.trans hkb;obtain⟨p0,p1,p2,p3,p4,p5,p6,_⟩:=(HB.out.kept hkb).facts7))
    go_ret
    exact⟨by rw[HR.out];rfl,hS1⟩
   |true=>
    rw[hin] at hname
    have HR:Hid (nodeOk 2 arg s N D name n=decide (N=0)):=Lib.hid (by have hke:=HKE.out;unfold nodeOk;simp[hin,hke,hki,hao])
    clear hn1 hn2
    go_enter Tryz.func109,Tryz.ntmps109
    go_wp2_with(first|(go_at_call 185;refine(hkid _).mono ?_;rintro e wa ⟨rfl,rfl⟩)|(go_at_call 49;refine(hname _).mono ?_;rintro e wb ⟨rfl,hkb⟩;have hS1:=HK.out.trans hkb;obtain⟨p0,p1,p2,p3,p4,p5,p6,_⟩:=(HB.out.kept hkb).facts7)|(go_at_call 130;refine(hof _ hS1).mono ?_;rintro e wc ⟨rfl,rfl⟩)|(go_at_call 131;refine(hzero _ hS1).mono ?_;rintro e wd ⟨rfl,rfl⟩))
    go_ret
    exact⟨by rw[HR.out];rfl,hS1⟩
  have q1:(op==1)=false:=by simpa using h1
  have q2:(op==2)=false:=by simpa using h2
  have q3:(op != 1)=true:=by simpa using h1
  have q4:(op != 2)=true:=by simpa using h2
  have q1':=h1
  have q2':=h2
  clear h1 h2
  by_cases hnz:name.size=0
  ·rw[show decide (name.size=0)=true by simpa using hnz] at hn1 hn2
   have HR:Hid (nodeOk op arg s N D name n=decide (N=0)):=Lib.hid (by have hke:=HKE.out;unfold nodeOk;simp[hke,hki,hao,hnz,q1',q2'])
   go_enter Tryz.func109,Tryz.ntmps109
   go_wp2_with(first|(go_at_call 185;refine(hkid _).mono ?_;rintro e wa ⟨rfl,rfl⟩)|(go_at_call 130;refine(hof _ HK.out).mono ?_;rintro e wc ⟨rfl,rfl⟩)|(go_at_call 131;refine(hzero _ HK.out).mono ?_;rintro e wd ⟨rfl,rfl⟩))
   go_ret
   exact⟨by rw[HR.out];rfl,HK.out⟩
  ·rw[show decide (name.size=0)=false by simpa using hnz] at hn1 hn2
   have HR:Hid (nodeOk op arg s N D name n=false):=Lib.hid (by have hke:=HKE.out;unfold nodeOk;simp[hnz,q1',q2'])
   go_enter Tryz.func109,Tryz.ntmps109
   go_wp2_with(first|(go_at_call 185;refine(hkid _).mono ?_;rintro e wa ⟨rfl,rfl⟩))
   go_ret
   exact⟨by rw[HR.out];rfl,HK.out⟩
 ·have tk:((n:Int) != ki)=true:=by simpa using hki
  have HR:Hid (nodeOk op arg s N D name n=false):=Lib.hid (by have hke:=HKE.out;unfold nodeOk;simp[show ¬(kidsI op=(n:Int)) by omega])
  clear hn1 hn2
  go_enter Tryz.func109,Tryz.ntmps109
  go_wp2_with(first|(go_at_call 185;refine(hkid _).mono ?_;rintro e wa ⟨rfl,rfl⟩))
  go_ret
  exact⟨by rw[HR.out];rfl,HK.out⟩
end
section
open Go.Eng (Kept KW KeptB)
inductive Tree where
 |node (op arg:Int) (s:Bool) (N D:Nat) (name:ByteArray) (kids:List Tree)
def Ex(w:World):Nat→Value→Tree→Prop
 |0,_,_=>False
 |f+1,v,.node op arg s N D name kids=>∃(x1:Option Addr)(x2 x3:Nat)(x4:Option Addr)(x5 x6:Nat)(a:Option Addr)(cap:Nat),
   v= .agg #[.int .i64 op,.int .i64 arg,.bool s,.slice x1 x2 x3,.slice x4 x5 x6,.string name,.slice a kids.length cap]∧kids.length≤cap∧
   Rt w (.agg #[.bool s,.slice x1 x2 x3,.slice x4 x5 x6]) s N D∧kids.length<4611686018427387904∧
   ∀(i:Nat)(h:i<kids.length),∃(b off:Nat)(cs:Array Value),a=some ⟨b,off,none⟩∧cs.size=7∧
    (∀j,j<7→w.cell? ⟨b,off+7*i+j,none⟩=cs[j]?)∧Ex w f (.agg cs) kids[i]
theorem Ex.kept{w w':World}(k:Kept w w'):∀(f:Nat){v:Value}{t:Tree},Ex w f v t→Ex w' f v t
 |0,_,_,h=>h.elim
 |f+1,v,.node op arg s N D name kids,⟨x1,x2,x3,x4,x5,x6,a,cap,hv,hc,hr,hn,hk⟩=>by
  refine⟨x1,x2,x3,x4,x5,x6,a,cap,hv,hc,hr.kept k,hn,fun i h=> ?_⟩
  obtain⟨b,off,cs,ha,hs,hcell,he⟩:=hk i h
  refine⟨b,off,cs,ha,hs,fun j hj=> ?_,Ex.kept k f he⟩
  have h1:=hcell j hj
  rw[Array.getElem?_eq_getElem (by omega)] at h1⊢
  exact k.cell h1
mutual
def cnt:Tree→Nat→Nat→Option Nat
 | .node op arg s N D name kids,d,m=>if 300<m+1∨30<d∨nodeOk op arg s N D name kids.length=false then none else cnts kids (d+1) (m+1)
def cnts:List Tree→Nat→Nat→Option Nat
 |[],_,m=>some m
 |t::ts,d,m=>match cnt t d m with
  |none=>none
  |some m'=>cnts ts d m'
end
mutual
theorem cnt_le:∀(t:Tree)(d m m':Nat),cnt t d m=some m'→m<m'∧m'≤300
 | .node op arg s N D name kids,d,m,m'=>by
   intro h
   rw[cnt] at h
   split at h
   ·cases h
   ·have:=cnts_le kids (d+1) (m+1) m' (by omega) h
    omega
theorem cnts_le:∀(ts:List Tree)(d m m':Nat),m≤300→cnts ts d m=some m'→m≤m'∧m'≤300
 |[],d,m,m'=>by
  intro hm h
  rw[cnts] at h
  cases h
  omega
 |t::ts,d,m,m'=>by
  intro hm h
  rw[cnts] at h
  cases h1:cnt t d m with
  |none=>rw[h1] at h;cases h
  |some m1=>
   rw[h1] at h
   have h2:=cnt_le t d m m1 h1
   have h3:=cnts_le ts d m1 m' h2.2 h
   omega
end
end
section
open Go.Eng (Kept KW KeptB)
theorem Ex.kid{w:World}{f:Nat}{op arg:Int}{s:Bool}{N D:Nat}{name:ByteArray}{kids:List Tree}{y1 y2 y3 y4 y5:Value}{name':Value}{a:Option Addr}{n cap:Nat}
 (h:Ex w (f+1) (.agg #[y1,y2,y3,y4,y5,name',.slice a n cap]) (.node op arg s N D name kids)){i:Nat}(hi:i<kids.length):
 ∃(b off:Nat)(o g:Int)(z:Bool)(x1:Option Addr)(x2 x3:Nat)(x4:Option Addr)(x5 x6:Nat)(nm:ByteArray)(a':Option Addr)(n' cap':Nat),
  a=some ⟨b,off,none⟩∧
  w.cell? ⟨b,off+i*7,none⟩=some (.int .i64 o)∧w.cell? ⟨b,off+i*7+1,none⟩=some (.int .i64 g)∧w.cell? ⟨b,off+i*7+2,none⟩=some (.bool z)∧
  w.cell? ⟨b,off+i*7+3,none⟩=some (.slice x1 x2 x3)∧w.cell? ⟨b,off+i*7+4,none⟩=some (.slice x4 x5 x6)∧w.cell? ⟨b,off+i*7+5,none⟩=some (.string nm)∧
  w.cell? ⟨b,off+i*7+6,none⟩=some (.slice a' n' cap')∧
  Ex w f (.agg #[.int .i64 o,.int .i64 g,.bool z,.slice x1 x2 x3,.slice x4 x5 x6,.string nm,.slice a' n' cap']) (kids[i]):=by
 obtain⟨x1,x2,x3,x4,x5,x6,a0,cap0,hv,hc,hr,hn,hk⟩:=h
 obtain⟨b,off,cs,ha,hs,hcell,he⟩:=hk i hi
 injection hv with hv
 simp only[Array.mk.injEq,List.cons.injEq,Value.slice.injEq] at hv
 obtain⟨-,-,-,-,-,-,⟨rfl,rfl,rfl⟩,-⟩:=hv
 cases f with
 |zero=>exact he.elim
 |succ f=>
  obtain⟨o,g,z,N',D',nm,ks,e⟩:∃o g z N' D' nm ks,kids[i]=Tree.node o g z N' D' nm ks:=by cases kids[i];exact⟨_,_,_,_,_,_,_,rfl⟩
  rw[e] at he⊢
  have he':=he
  obtain⟨u1,u2,u3,u4,u5,u6,a',cap',hv,-⟩:=he
  injection hv with hv
  subst hv
  have e7:7*i=i*7:=Nat.mul_comm _ _
  rw[e7] at hcell
  exact⟨b,off,o,g,z,u1,u2,u3,u4,u5,u6,nm,a',_,cap',ha,hcell 0 (by omega),hcell 1 (by omega),hcell 2 (by omega),hcell 3 (by omega),hcell 4 (by omega),hcell 5 (by omega),hcell 6 (by omega),he'⟩
theorem Ex.shape{w:World}{f:Nat}{v:Value}{op arg:Int}{s:Bool}{N D:Nat}{name:ByteArray}{kids:List Tree}(h:Ex w (f+1) v (.node op arg s N D name kids)):
 ∃(x1:Option Addr)(x2 x3:Nat)(x4:Option Addr)(x5 x6:Nat)(a:Option Addr)(cap:Nat),
  v= .agg #[.int .i64 op,.int .i64 arg,.bool s,.slice x1 x2 x3,.slice x4 x5 x6,.string name,.slice a kids.length cap]∧kids.length≤cap∧kids.length<4611686018427387904∧
  Rt w (.agg #[.bool s,.slice x1 x2 x3,.slice x4 x5 x6]) s N D:=by
 obtain⟨x1,x2,x3,x4,x5,x6,a0,cap0,hv,hc,hr,hn,hk⟩:=h
 exact⟨_,_,_,_,_,_,_,_,hv,hc,hn,hr⟩
set_option maxHeartbeats 2000000 in
set_option maxRecDepth 100000 in
theorem count_calls:∀(f:Nat){w:World}{v:Value}{t:Tree},Ex w f v t→Laid w→∀(d m:Nat),d≤31→m≤300→
 Calls Tryz.prog 51 #[v,.int .i64 (d:Int),.int .i64 (m:Int)] w fun e w'=>e= .returned (.int .i64 (((cnt t d m).getD 301:Nat):Int))∧Kept w w'
 |0,_,_,_,h=>h.elim
 |f+1,w,v,.node op arg s N D name kids,h=>by
  intro hT d m hd hm
  obtain⟨x1,x2,x3,x4,x5,x6,a,cap,rfl,hc,hn,hr⟩:=h.shape
  have hkid:=fun(i:Nat)(hi:i<kids.length)=>h.kid hi
  clear h
  have ed:((d+1:Nat):Int)=(d:Int)+1:=by omega
  by_cases h1:300<m+1
  ·have HC:Hid (cnt (.node op arg s N D name kids) d m=none):=Lib.hid (by rw[cnt,if_pos (.inl h1)])
   have t1:decide ((m:Int)+1>300)=true:=by simp;omega
   clear hkid hr hn
   go_enter Tryz.func51,Tryz.ntmps51
   go_wp2
   go_ret
   exact⟨by rw[HC.out];rfl,(Kept.refl w).alloc _⟩
  have t1:decide (300<(m:Int)+1)=false:=by simp;omega
  by_cases h2:30<d
  ·have HC:Hid (cnt (.node op arg s N D name kids) d m=none):=Lib.hid (by rw[cnt,if_pos (.inr (.inl h2))])
   have t2:decide (30<(d:Int))=true:=by simp;omega
   clear hkid hr hn
   go_enter Tryz.func51,Tryz.ntmps51
   go_wp2
   go_ret
   exact⟨by rw[HC.out];rfl,(Kept.refl w).alloc _⟩
  have t2:decide (30<(d:Int))=false:=by simp;omega
  have hf:=fun(w':World)(k:Kept w w')=>fields_calls (op:=op) (arg:=arg) (name:=name) (a:=a) (n:=kids.length) (cap:=cap) (hr.kept k) (hT.kept k)
  have hk:Kept w (w.alloc (.cells #[.int .i64 op,.int .i64 arg,.bool s,.slice x1 x2 x3,.slice x4 x5 x6,.string name,.slice a kids.length cap] 27)):=(Kept.refl w).alloc _
  have HK:=Lib.hid hk;clear hk
  cases hno:nodeOk op arg s N D name kids.length
  ·have HC:Hid (cnt (.node op arg s N D name kids) d m=none):=Lib.hid (by rw[cnt,if_pos (.inr (.inr hno))])
   rw[hno] at hf
   clear hkid hr hn
   go_enter Tryz.func51,Tryz.ntmps51
   go_wp2_with(first|(go_at_call 109;refine(hf _ HK.out).mono ?_;rintro e wa ⟨rfl,hka⟩))
   go_ret
   exact⟨by rw[HC.out];rfl,HK.out.trans hka⟩
  rw[hno] at hf
  have HC:Hid (cnt (.node op arg s N D name kids) d m=cnts kids (d+1) (m+1)):=Lib.hid (by rw[cnt,if_neg (by simp[hno];omega)])
  clear hr
  go_enter Tryz.func51,Tryz.ntmps51
  go_wp2_with(first|(go_at_call 109;refine(hf _ HK.out).mono ?_;rintro e wa ⟨rfl,hka⟩;obtain⟨-,-,-,-,-,-,e6,-⟩:=((Blk.new w #[.int .i64 op,.int .i64 arg,.bool s,.slice x1 x2 x3,.slice x4 x5 x6,.string name,.slice a kids.length cap] 27).kept hka).facts7))
  have hkb:=HK.out.trans hka
  clear hka HK hf
  go_loopw [2,25] (fun c i wr=>∃(k m':Nat),k≤kids.length∧i= .int .i64 (k:Int)∧c= .int .i64 (m':Int)∧m'≤300∧cnts (kids.drop k) (d+1) m'=cnts kids (d+1) (m+1)∧Kept w wr) (fun _ i _=>kids.length-(intOf i).toNat)
  case atStart=>exact⟨0,m+1,Nat.zero_le _,rfl,by go_num,by omega,rfl,hkb⟩
  case round=>
   obtain⟨k,m',hk,rfl,rfl,hm',hst,hkw⟩:=hrel
   have HST:=Lib.hid hst;clear hst
   by_cases hlt:k<kids.length
   ·obtain⟨b,off,o,g,z,u1,u2,u3,u4,u5,u6,nm,a',n',cap',rfl,c0,c1,c2,c3,c4,c5,c6,hex⟩:=hkid k hlt
    replace c0:=hkw.cell c0
    replace c1:=hkw.cell c1
    replace c2:=hkw.cell c2
    replace c3:=hkw.cell c3
    replace c4:=hkw.cell c4
    replace c5:=hkw.cell c5
    replace c6:=hkw.cell c6
    have hih:=fun(w':World)(hk':Kept w w')=>count_calls f (hex.kept hk') (hT.kept hk') (d+1) m' (by omega) hm'
    rw[ed] at hih
    clear hkid hex
    have hcs:cnts (kids.drop k) (d+1) m'=(cnt kids[k] (d+1) m').bind fun m2=>cnts (kids.drop (k+1)) (d+1) m2:=by
     rw[List.drop_eq_getElem_cons hlt,cnts]
     cases cnt kids[k] (d+1) m'<;>rfl
    rw[HST.out] at hcs
    have hk1:Kept w (wr.alloc (.cells #[.int .i64 o,.int .i64 g,.bool z,.slice u1 u2 u3,.slice u4 u5 u6,.string nm,.slice a' n' cap'] 27)):=hkw.alloc _
    have HK1:=Lib.hid hk1;clear hk1
    cases hcn:cnt kids[k] (d+1) m' with
    |none=>
     rw[hcn] at hih hcs
     have HCS:=Lib.hid hcs;clear hcs
     go_wp2_with(first|(go_at_call 51;refine(hih _ HK1.out).mono ?_;rintro e w2 ⟨rfl,hk2⟩))
     go_ret
     exact⟨by rw[HC.out,HCS.out];rfl,HK1.out.trans hk2⟩
    |some m2=>
     rw[hcn] at hih hcs
     have hm2:=(cnt_le _ _ _ _ hcn).2
     have HCS:=Lib.hid hcs;clear hcs
     have e2:(((some m2).getD 301:Nat):Int)=(m2:Int):=rfl
     rw[e2] at hih
     clear e2
     go_wp2_with(first|(go_at_call 51;refine(hih _ HK1.out).mono ?_;rintro e w2 ⟨rfl,hk2⟩))
     go_roundw
     case rel=>exact⟨k+1,m2,by omega,by go_num,rfl,hm2,HCS.out.symm,HK1.out.trans hk2⟩
     case measure=>simp[intOf];omega
   ·obtain rfl:kids.length=k:=by omega
    clear hkid
    go_wp2
    go_ret
    refine⟨?_,hkw⟩
    rw[HC.out,←HST.out]
    simp[cnts,go_sem]
end
end Go.Proofs.YtancebninmoipaaGreatDoor
