/- A part of the proof that ClaimFaces answers true for every input of bulk at most 1048576: conditions: the row's own. -/
import Derived.Test.YtbapfnpbamnmpaaGreatDoorRk
namespace Go.Proofs.YtbapfnpbamnmpaaGreatDoor
open Go Go.RowKit Go.Dig
open Go.Eng (Kept KW KeptB)
def letterB(c:Nat):Bool:=decide (97≤c)&&decide (c≤122)
def digitB(c:Nat):Bool:=decide (48≤c)&&decide (c≤57)
theorem letter_calls(w:World)(c:Nat):Calls Tryz.prog 377 #[.int .u8 (c:Int)] w fun e w'=>e= .returned (.bool (letterB c))∧w=w':=by
 by_cases h1:97≤c
 ·have t1:decide (97≤(c:Int))=true:=by simp;omega
  have t2:decide ((c:Int)≤122)=decide (c≤122):=by rw[Bool.eq_iff_iff];simp;omega
  go_enter Tryz.func377,Tryz.ntmps377
  go_wp2
  go_ret
  exact⟨by simp[letterB,h1],rfl⟩
 ·have t1:decide (97≤(c:Int))=false:=by simp;omega
  go_enter Tryz.func377,Tryz.ntmps377
  go_wp2
  go_ret
  exact⟨by simp[letterB,h1],rfl⟩
theorem digit_calls'(w:World)(c:Nat):Calls Tryz.prog 378 #[.int .u8 (c:Int)] w fun e w'=>e= .returned (.bool (digitB c))∧w=w':=by
 by_cases h1:48≤c
 ·have t1:decide (48≤(c:Int))=true:=by simp;omega
  have t2:decide ((c:Int)≤57)=decide (c≤57):=by rw[Bool.eq_iff_iff];simp;omega
  go_enter Tryz.func378,Tryz.ntmps378
  go_wp2
  go_ret
  exact⟨by simp[digitB,h1],rfl⟩
 ·have t1:decide (48≤(c:Int))=false:=by simp;omega
  go_enter Tryz.func378,Tryz.ntmps378
  go_wp2
  go_ret
  exact⟨by simp[digitB,h1],rfl⟩
def fnNames:Array ByteArray:=#[⟨#[101,120,112]⟩,⟨#[108,111,103]⟩,⟨#[115,105,110]⟩,⟨#[99,111,115]⟩,⟨#[116,97,110]⟩,⟨#[97,115,105,110]⟩,⟨#[97,99,111,115]⟩,⟨#[97,116,97,110]⟩]
def resNames:Array ByteArray:=#[⟨#[101,120,112]⟩,⟨#[108,111,103]⟩,⟨#[115,105,110]⟩,⟨#[99,111,115]⟩,⟨#[116,97,110]⟩,⟨#[97,115,105,110]⟩,⟨#[97,99,111,115]⟩,⟨#[97,116,97,110]⟩,⟨#[112,105]⟩,⟨#[97,98,115]⟩,⟨#[109,105,110]⟩,⟨#[109,97,120]⟩,⟨#[114,111,111,116]⟩,⟨#[115,113,114,116]⟩,⟨#[105,102]⟩,⟨#[105,110,102]⟩,⟨#[102,111,114]⟩,⟨#[105,110]⟩,⟨#[119,104,101,114,101]⟩]
def inNames(a:Array ByteArray)(s:ByteArray):Bool:=a.toList.any fun x=>x.toList==s.toList
def Strs(w:World)(b:Nat)(a:Array ByteArray):Prop:=∀i,i<a.size→w.cell? ⟨b,i,none⟩=some (.string (a[i]?.getD ⟨#[]⟩))
theorem Strs.kept{w w':World}{b:Nat}{a:Array ByteArray}(h:Strs w b a)(k:Kept w w'):Strs w' b a:=fun i hi=>k.cell (h i hi)
theorem inNames_false{a:Array ByteArray}{s:ByteArray}(h:∀j,j<a.size→((a[j]?.getD ⟨#[]⟩).toList==s.toList)=false):inNames a s=false:=by
 unfold inNames
 rw[List.any_eq_false]
 intro x hx
 obtain⟨j,hj,e⟩:=List.mem_iff_getElem.1 hx
 have hj':j<a.size:=by simpa using hj
 have:=h j hj'
 have e2:a[j]? =some x:=by rw[Array.getElem?_eq_getElem hj'];simp at e;rw[e]
 rw[e2] at this
 simpa using this
theorem inNames_true{a:Array ByteArray}{s:ByteArray}{j:Nat}(hj:j<a.size)(h:((a[j]?.getD ⟨#[]⟩).toList==s.toList)=true):inNames a s=true:=by
 unfold inNames
 rw[List.any_eq_true]
 refine⟨a[j],by simp,?_⟩
 have e2:a[j]? =some a[j]:=Array.getElem?_eq_getElem hj
 rw[e2] at h
 exact h
theorem names_calls(w:World):Calls Tryz.prog 328 #[] w fun e w'=>∃b,e= .returned (.slice (some ⟨b,0,none⟩) 8 8)∧Strs w' b fnNames∧Kept w w':=by
 have hb:=Blk.new w #[.string ⟨#[101,120,112]⟩,.string ⟨#[108,111,103]⟩,.string ⟨#[115,105,110]⟩,.string ⟨#[99,111,115]⟩,.string ⟨#[116,97,110]⟩,.string ⟨#[97,115,105,110]⟩,.string ⟨#[97,99,111,115]⟩,.string ⟨#[97,116,97,110]⟩] 9
 go_enter Tryz.func328,Tryz.ntmps328
 go_wp2
 go_ret
 refine⟨_,rfl,fun i hi=> ?_,(Kept.refl w).alloc _⟩
 have hi:i<8:=hi
 match i,hi with
 |0,_=>exact hb.cell 0 rfl
 |1,_=>exact hb.cell 1 rfl
 |2,_=>exact hb.cell 2 rfl
 |3,_=>exact hb.cell 3 rfl
 |4,_=>exact hb.cell 4 rfl
 |5,_=>exact hb.cell 5 rfl
 |6,_=>exact hb.cell 6 rfl
 |7,_=>exact hb.cell 7 rfl
 |n+8,h=>exact absurd h (by omega)
theorem resnames_calls(w:World):Calls Tryz.prog 204 #[] w fun e w'=>∃b,e= .returned (.slice (some ⟨b,0,none⟩) 19 19)∧Strs w' b resNames∧Kept w w':=by
 have hb:=Blk.new w #[.string ⟨#[101,120,112]⟩,.string ⟨#[108,111,103]⟩,.string ⟨#[115,105,110]⟩,.string ⟨#[99,111,115]⟩,.string ⟨#[116,97,110]⟩,.string ⟨#[97,115,105,110]⟩,.string ⟨#[97,99,111,115]⟩,.string ⟨#[97,116,97,110]⟩,.string ⟨#[112,105]⟩,.string ⟨#[97,98,115]⟩,.string ⟨#[109,105,110]⟩,.string ⟨#[109,97,120]⟩,.string ⟨#[114,111,111,116]⟩,.string ⟨#[115,113,114,116]⟩,.string ⟨#[105,102]⟩,.string ⟨#[105,110,102]⟩,.string ⟨#[102,111,114]⟩,.string ⟨#[105,110]⟩,.string ⟨#[119,104,101,114,101]⟩] 9
 go_enter Tryz.func204,Tryz.ntmps204
 go_wp2
 go_ret
 refine⟨_,rfl,fun i hi=> ?_,(Kept.refl w).alloc _⟩
 have hi:i<19:=hi
 match i,hi with
 |0,_=>exact hb.cell 0 rfl
 |1,_=>exact hb.cell 1 rfl
 |2,_=>exact hb.cell 2 rfl
 |3,_=>exact hb.cell 3 rfl
 |4,_=>exact hb.cell 4 rfl
 |5,_=>exact hb.cell 5 rfl
 |6,_=>exact hb.cell 6 rfl
 |7,_=>exact hb.cell 7 rfl
 |8,_=>exact hb.cell 8 rfl
 |9,_=>exact hb.cell 9 rfl
 |10,_=>exact hb.cell 10 rfl
 |11,_=>exact hb.cell 11 rfl
 |12,_=>exact hb.cell 12 rfl
 |13,_=>exact hb.cell 13 rfl
 |14,_=>exact hb.cell 14 rfl
 |15,_=>exact hb.cell 15 rfl
 |16,_=>exact hb.cell 16 rfl
 |17,_=>exact hb.cell 17 rfl
 |18,_=>exact hb.cell 18 rfl
 |n+19,h=>exact absurd h (by omega)
set_option maxHeartbeats 1000000 in
set_option maxRecDepth 100000 in
theorem find_calls(w:World)(s:ByteArray):Calls Tryz.prog 261 #[.string s] w fun e w'=>∃k:Int,e= .returned (.tuple #[.int .i64 k,.bool (inNames fnNames s)])∧Kept w w':=by
 go_enter Tryz.func261,Tryz.ntmps261
 go_wp2_with fail
 refine(names_calls w).mono ?_
 rintro _ w1 ⟨b,rfl,hs,hk⟩
 have HS:=Lib.hid hs;clear hs
 go_wp2_with fail
 go_loop [8] (fun iv=>∃k:Nat,k≤8∧iv= .int .i64 (k:Int)∧∀j,j<k→((fnNames[j]?.getD ⟨#[]⟩).toList==s.toList)=false) (fun iv=>8-(intOf iv).toNat)
 case atStart=>exact⟨0,by omega,rfl,fun j h=>by omega⟩
 case round=>
  obtain⟨k,hk8,rfl,hall⟩:=hrel
  have HALL:=Lib.hid hall;clear hall
  by_cases hlt:k<8
  ·have hc:=HS.out k hlt
   generalize hx:(fnNames[k]?.getD ⟨#[]⟩)=x at*
   have HX:=Lib.hid hx;clear hx
   cases ht:(x.toList==s.toList) with
   |true=>
    have HT:=Lib.hid ht
    go_wp2
    go_ret2
    exact⟨⟨_,by rw[inNames_true (a:=fnNames) (j:=k) hlt (by rw[HX.out];exact HT.out)];rfl⟩,hk⟩
   |false=>
    have HT:=Lib.hid ht
    go_wp2
    go_round
    case rel=>
     refine⟨k+1,by omega,by go_num,fun j hj=> ?_⟩
     by_cases e:j=k
     ·subst e;rw[HX.out];exact HT.out
     ·exact HALL.out j (by omega)
    case measure=>simp[intOf];omega
  ·obtain rfl:8=k:=by omega
   go_wp2
   go_ret2
   exact⟨⟨_,by rw[inNames_false (a:=fnNames) HALL.out];rfl⟩,hk⟩
theorem reserved_split(s:ByteArray):inNames resNames s=(inNames fnNames s||((s.toList==[112,105])||(s.toList==[97,98,115])||(s.toList==[109,105,110])||(s.toList==[109,97,120])||(s.toList==[114,111,111,116])||(s.toList==[115,113,114,116])||(s.toList==[105,102])||(s.toList==[105,110,102])||(s.toList==[102,111,114])||(s.toList==[105,110])||(s.toList==[119,104,101,114,101]))):=by
 have sw:∀l:List UInt8,(l==s.data.toList)=(s.data.toList==l):=fun l=>by rw[Bool.eq_iff_iff,beq_iff_eq,beq_iff_eq];exact eq_comm
 simp[inNames,resNames,fnNames,ByteArray.toList_eq,sw,Bool.or_assoc]
 have sl:∀l:List UInt8,(s.data==l.toArray)=(s.data.toList==l):=fun l=>by
  rw[Bool.eq_iff_iff,beq_iff_eq,beq_iff_eq]
  exact⟨fun h=>by rw[h],fun h=>by rw[←h]⟩
 simp only[sl]
set_option maxHeartbeats 4000000 in
set_option maxRecDepth 100000 in
theorem reserved_calls(w:World)(s:ByteArray):Calls Tryz.prog 325 #[.string s] w fun e w'=>e= .returned (.bool (inNames resNames s))∧Kept w w':=by
 rw[reserved_split]
 cases h0:(s.toList==[112,105]) with
 |true=>
  go_enter Tryz.func325,Tryz.ntmps325
  go_wp2
  go_ret
  exact⟨by simp,Kept.refl _⟩
 |false=>
  cases h1:(s.toList==[97,98,115]) with
  |true=>
   go_enter Tryz.func325,Tryz.ntmps325
   go_wp2
   go_ret
   exact⟨by simp,Kept.refl _⟩
  |false=>
   cases h2:(s.toList==[109,105,110]) with
   |true=>
    go_enter Tryz.func325,Tryz.ntmps325
    go_wp2
    go_ret
    exact⟨by simp,Kept.refl _⟩
   |false=>
    cases h3:(s.toList==[109,97,120]) with
    |true=>
     go_enter Tryz.func325,Tryz.ntmps325
     go_wp2
     go_ret
     exact⟨by simp,Kept.refl _⟩
    |false=>
     cases h4:(s.toList==[114,111,111,116]) with
     |true=>
      go_enter Tryz.func325,Tryz.ntmps325
      go_wp2
      go_ret
      exact⟨by simp,Kept.refl _⟩
     |false=>
      cases h5:(s.toList==[115,113,114,116]) with
      |true=>
       go_enter Tryz.func325,Tryz.ntmps325
       go_wp2
       go_ret
       exact⟨by simp,Kept.refl _⟩
      |false=>
       cases h6:(s.toList==[105,102]) with
       |true=>
        go_enter Tryz.func325,Tryz.ntmps325
        go_wp2
        go_ret
        exact⟨by simp,Kept.refl _⟩
       |false=>
        cases h7:(s.toList==[105,110,102]) with
        |true=>
         go_enter Tryz.func325,Tryz.ntmps325
         go_wp2
         go_ret
         exact⟨by simp,Kept.refl _⟩
        |false=>
         cases h8:(s.toList==[102,111,114]) with
         |true=>
          go_enter Tryz.func325,Tryz.ntmps325
          go_wp2
          go_ret
          exact⟨by simp,Kept.refl _⟩
         |false=>
          cases h9:(s.toList==[105,110]) with
          |true=>
           go_enter Tryz.func325,Tryz.ntmps325
           go_wp2
           go_ret
           exact⟨by simp,Kept.refl _⟩
          |false=>
           cases h10:(s.toList==[119,104,101,114,101]) with
           |true=>
            go_enter Tryz.func325,Tryz.ntmps325
            go_wp2
            go_ret
            exact⟨by simp,Kept.refl _⟩
           |false=>
            go_enter Tryz.func325,Tryz.ntmps325
            go_wp2_with(go_at_call 261;refine(find_calls w s).mono ?_;rintro e w1 ⟨k,rfl,hk⟩)
            go_ret
            exact⟨by simp,hk⟩
def bt(s:ByteArray)(k:Nat):Nat:=if h:k<s.size then s[k].toNat else 0
def okAt(s:ByteArray)(k:Nat):Bool:=letterB (bt s k)||(decide (k≠0)&&digitB (bt s k))
def wokB(s:ByteArray):Bool:=decide (0<s.size)&&(List.range s.size).all (okAt s)
theorem bt_eq{s:ByteArray}{k:Nat}(h:k<s.size):bt s k=s[k].toNat:=by unfold bt;rw[dif_pos h]
theorem wok_true{s:ByteArray}(h0:0<s.size)(h:∀j,j<s.size→okAt s j=true):wokB s=true:=by
 unfold wokB
 simp only[Bool.and_eq_true,decide_eq_true_eq,List.all_eq_true,List.mem_range]
 exact⟨h0,h⟩
theorem wok_false{s:ByteArray}{k:Nat}(hk:k<s.size)(h:okAt s k=false):wokB s=false:=by
 unfold wokB
 rw[Bool.and_eq_false_iff]
 right
 rw[List.all_eq_false]
 exact⟨k,List.mem_range.2 hk,by simp[h]⟩
set_option maxHeartbeats 2000000 in
set_option maxRecDepth 100000 in
theorem rword_calls(w:World)(s:ByteArray)(hs:s.size<100):Calls Tryz.prog 240 #[.string s] w fun e w'=>e= .returned (.bool (wokB s))∧w=w':=by
 go_enter Tryz.func240,Tryz.ntmps240
 go_wp2
 go_loop [3] (fun iv=>∃k:Nat,k≤s.size∧iv= .int .i64 (k:Int)∧∀j,j<k→okAt s j=true) (fun iv=>s.size-(intOf iv).toNat)
 case atStart=>exact⟨0,by omega,rfl,fun j h=>by omega⟩
 case round=>
  obtain⟨k,hk,rfl,hall⟩:=hrel
  have HALL:=Lib.hid hall;clear hall
  by_cases hlt:k<s.size
  ·have hbt:=bt_eq hlt
   have good:okAt s k=true→∀j,j<k+1→okAt s j=true:=fun h j hj=>by
    by_cases e:j=k
    ·subst e;exact h
    ·exact HALL.out j (by omega)
   have GOOD:=Lib.hid good;clear good
   have e0:((k:Int)==0)=decide (k=0):=by rw[Bool.eq_iff_iff];simp
   obtain⟨c,hc⟩:∃c,s[k].toNat=c:=⟨_,rfl⟩
   have ebt:bt s k=c:=by rw[hbt,hc]
   have hok:okAt s k=(letterB c||(decide (k≠0)&&digitB c)):=by unfold okAt;rw[ebt]
   have HOK:=Lib.hid hok;clear hok hbt ebt
   by_cases h97:97≤c
   ·have t1:decide (97≤(s[k].toNat:Int))=true:=by rw[hc];simp;omega
    by_cases h122:c≤122
    ·have t2:decide ((s[k].toNat:Int)≤122)=true:=by rw[hc];simp;omega
     have hg:okAt s k=true:=by rw[HOK.out];simp[letterB,h97,h122]
     have HG:=Lib.hid hg
     clear hc hg h97 h122
     go_wp2
     go_round
     case rel=>exact⟨k+1,by omega,by go_num,GOOD.out HG.out⟩
     case measure=>simp[intOf];try omega
    ·have t2:decide ((s[k].toNat:Int)≤122)=false:=by rw[hc];simp;omega
     have t3:decide ((s[k].toNat:Int)<48)=false:=by rw[hc];simp;omega
     have t4:decide (57<(s[k].toNat:Int))=true:=by rw[hc];simp;omega
     have hg:okAt s k=false:=by rw[HOK.out];simp[letterB,digitB,h97,h122];omega
     have HG:=Lib.hid hg
     clear hc hg h97 h122
     by_cases h0:k=0
     ·subst h0
      go_wp2
      go_ret
      exact⟨by rw[wok_false hlt HG.out];rfl,rfl⟩
     ·have e1:((k:Int)==0)=false:=by simp;omega
      clear e0
      go_wp2
      go_ret
      exact⟨by rw[wok_false hlt HG.out];rfl,rfl⟩
   ·have t1:decide (97≤(s[k].toNat:Int))=false:=by rw[hc];simp;omega
    by_cases h0:k=0
    ·subst h0
     have hg:okAt s 0=false:=by rw[HOK.out];simp[letterB,h97]
     have HG:=Lib.hid hg
     clear hc hg h97
     go_wp2
     go_ret
     exact⟨by rw[wok_false hlt HG.out];rfl,rfl⟩
    ·have e1:((k:Int)==0)=false:=by simp;omega
     clear e0
     by_cases h48:c<48
     ·have t3:decide ((s[k].toNat:Int)<48)=true:=by rw[hc];simp;omega
      have hg:okAt s k=false:=by rw[HOK.out];simp[letterB,digitB,h97];omega
      have HG:=Lib.hid hg
      clear hc hg h97 h48
      go_wp2
      go_ret
      exact⟨by rw[wok_false hlt HG.out];rfl,rfl⟩
     ·have t3:decide ((s[k].toNat:Int)<48)=false:=by rw[hc];simp;omega
      by_cases h57:57<c
      ·have t4:decide (57<(s[k].toNat:Int))=true:=by rw[hc];simp;omega
       have hg:okAt s k=false:=by rw[HOK.out];simp[letterB,digitB,h97];omega
       have HG:=Lib.hid hg
       clear hc hg h97 h48 h57
       go_wp2
       go_ret
       exact⟨by rw[wok_false hlt HG.out];rfl,rfl⟩
      ·have t4:decide (57<(s[k].toNat:Int))=false:=by rw[hc];simp;omega
       have hg:okAt s k=true:=by rw[HOK.out];simp[digitB,h0,show 48≤c by omega,show c≤57 by omega]
       have HG:=Lib.hid hg
       clear hc hg h97 h48 h57
       go_wp2
       go_round
       case rel=>exact⟨k+1,by omega,by go_num,GOOD.out HG.out⟩
       case measure=>simp[intOf];try omega
  ·obtain rfl:s.size=k:=by omega
   by_cases h0:0<s.size
   ·have t1:decide (0<(s.size:Int))=true:=by simp;omega
    go_wp2
    go_ret
    exact⟨by rw[wok_true h0 HALL.out];rfl,rfl⟩
   ·have t1:decide (0<(s.size:Int))=false:=decide_eq_false (by omega)
    have hw:wokB s=false:=by unfold wokB;simp[h0]
    have HW:=Lib.hid hw;clear hw
    go_wp2
    go_ret
    exact⟨by rw[HW.out];rfl,rfl⟩
set_option maxHeartbeats 2000000 in
set_option maxRecDepth 100000 in
theorem sword_calls(w:World)(s:ByteArray)(hs:s.size<100)(h0:0<s.size):Calls Tryz.prog 324 #[.string s] w fun e w'=>∃k:Nat,e= .returned (.int .i64 (k:Int))∧k≤s.size∧(k=s.size↔wokB s=true)∧w=w':=by
 have hbt:=bt_eq h0
 have t0:(s.toList==[])=false:=by
  rw[ByteArray.toList_eq]
  have hz:s.data.size=s.size:=rfl
  cases hd:s.data.toList with
  |nil=>exfalso;have:s.data.size=0:=by rw[←Array.length_toList,hd];rfl
        omega
  |cons a l=>rfl
 have hl:=letter_calls w s[0].toNat
 cases hlb:letterB s[0].toNat with
 |false=>
  rw[hlb] at hl
  have hok:okAt s 0=false:=by unfold okAt;rw[hbt,hlb];simp
  have hw:¬wokB s=true:=by rw[wok_false h0 hok];decide
  have HW:=Lib.hid hw;clear hw
  clear hbt
  go_enter Tryz.func324,Tryz.ntmps324
  go_wp2_with(go_at_call 377;refine hl.mono ?_;rintro e w1 ⟨rfl,rfl⟩)
  go_ret
  exact⟨0,rfl,by omega,⟨fun h=>by omega,fun h=>absurd h HW.out⟩,rfl⟩
 |true=>
  rw[hlb] at hl
  have hok:okAt s 0=true:=by unfold okAt;rw[hbt,hlb];rfl
  have HOK0:=Lib.hid hok
  clear hbt hok hlb
  go_enter Tryz.func324,Tryz.ntmps324
  go_wp2_with(go_at_call 377;refine hl.mono ?_;rintro e w1 ⟨rfl,rfl⟩)
  clear hl
  go_loop [3] (fun iv=>∃k:Nat,1≤k∧k≤s.size∧iv= .int .i64 (k:Int)∧∀j,j<k→okAt s j=true) (fun iv=>s.size-(intOf iv).toNat)
  case atStart=>exact⟨1,by omega,by omega,rfl,fun j h=>by obtain rfl:j=0:=by omega
                                                          exact HOK0.out⟩
  case round=>
   obtain⟨k,hk1,hk,rfl,hall⟩:=hrel
   have HALL:=Lib.hid hall;clear hall
   by_cases hlt:k<s.size
   ·have hbt:=bt_eq hlt
    have good:okAt s k=true→∀j,j<k+1→okAt s j=true:=fun h j hj=>by
     by_cases e:j=k
     ·subst e;exact h
     ·exact HALL.out j (by omega)
    have GOOD:=Lib.hid good;clear good
    have hl:=letter_calls w s[k].toNat
    have hd:=digit_calls' w s[k].toNat
    have hok:okAt s k=(letterB s[k].toNat||(decide (k≠0)&&digitB s[k].toNat)):=by unfold okAt;rw[hbt]
    cases hlb:letterB s[k].toNat with
    |true=>
     rw[hlb] at hl hok
     have HG:=Lib.hid (show okAt s k=true by rw[hok];rfl)
     clear hd hok hbt hlb
     go_wp2_with(go_at_call 377;refine hl.mono ?_;rintro e w1 ⟨rfl,rfl⟩)
     go_round
     case rel=>exact⟨k+1,by omega,by omega,by go_num,GOOD.out HG.out⟩
     case measure=>simp[intOf];try omega
    |false=>
     cases hdb:digitB s[k].toNat with
     |true=>
      rw[hlb] at hl hok
      rw[hdb] at hd hok
      have HG:=Lib.hid (show okAt s k=true by rw[hok];simp;omega)
      clear hok hbt hlb hdb
      go_wp2_with(first|(go_at_call 377;refine hl.mono ?_;rintro e w1 ⟨rfl,rfl⟩)|(go_at_call 378;refine hd.mono ?_;rintro e w1 ⟨rfl,rfl⟩))
      go_round
      case rel=>exact⟨k+1,by omega,by omega,by go_num,GOOD.out HG.out⟩
      case measure=>simp[intOf];try omega
     |false=>
      rw[hlb] at hl hok
      rw[hdb] at hd hok
      have HG:=Lib.hid (show okAt s k=false by rw[hok];simp)
      clear hok hbt hlb hdb
      go_wp2_with(first|(go_at_call 377;refine hl.mono ?_;rintro e w1 ⟨rfl,rfl⟩)|(go_at_call 378;refine hd.mono ?_;rintro e w1 ⟨rfl,rfl⟩))
      go_ret
      exact⟨k,rfl,by omega,⟨fun h=>by omega,fun h=>by rw[wok_false hlt HG.out] at h;cases h⟩,rfl⟩
   ·obtain rfl:s.size=k:=by omega
    go_wp2
    go_ret
    exact⟨s.size,rfl,by omega,⟨fun _=>wok_true h0 HALL.out,fun _=>rfl⟩,rfl⟩
def isName(s:ByteArray):Bool:=decide (s.size≤8)&&wokB s&& !inNames resNames s
theorem toList_empty{s:ByteArray}(h:s.size=0):s.toList=[]:=by
 rw[ByteArray.toList_eq]
 have hz:s.data.size=0:=h
 exact List.eq_nil_of_length_eq_zero (by rw[Array.length_toList,hz])
theorem toList_ne{s:ByteArray}(h:0<s.size):(s.toList==[])=false:=by
 rw[ByteArray.toList_eq]
 have hz:s.data.size=s.size:=rfl
 cases hd:s.data.toList with
 |nil=>exfalso;have:s.data.size=0:=by rw[←Array.length_toList,hd];rfl
       omega
 |cons a l=>rfl
set_option maxHeartbeats 1000000 in
set_option maxRecDepth 100000 in
theorem sisname_calls(w:World)(s:ByteArray):Calls Tryz.prog 242 #[.string s] w fun e w'=>e= .returned (.bool (isName s))∧Kept w w':=by
 by_cases h8:s.size≤8
 ·have t1:decide ((s.size:Int)≤8)=true:=by simp;omega
  by_cases h0:0<s.size
  ·have t2:=toList_ne h0
   have hsw:=sword_calls w s (by omega) h0
   cases hwk:wokB s with
   |true=>
    have hr:=reserved_calls w s
    have hsw2:Calls Tryz.prog 324 #[.string s] w fun e w'=>e= .returned (.int .i64 (s.size:Int))∧w=w':=hsw.mono fun e w' ⟨k,h1,_,h3,h4⟩=>by
     obtain rfl:=h3.2 hwk
     exact⟨h1,h4⟩
    have hres:isName s= !inNames resNames s:=by unfold isName;simp[h8,hwk]
    rw[hres]
    generalize inNames resNames s=rb at*
    clear hsw hwk hres
    go_enter Tryz.func242,Tryz.ntmps242
    go_wp2_with(first|(go_at_call 324;refine hsw2.mono ?_;rintro e w1 ⟨rfl,rfl⟩)|(go_at_call 325;refine hr.mono ?_;rintro e w1 ⟨rfl,hk⟩))
    go_ret
    exact⟨rfl,hk⟩
   |false=>
    have hres:isName s=false:=by unfold isName;simp[hwk]
    rw[hres]
    have hsw2:Calls Tryz.prog 324 #[.string s] w fun e w'=>∃k:Nat,e= .returned (.int .i64 (k:Int))∧k≠s.size∧k≤s.size∧w=w':=hsw.mono fun e w' ⟨k,h1,h2,h3,h4⟩=>
     ⟨k,h1,fun e=>(by rw[h3.1 e] at hwk;cases hwk),h2,h4⟩
    clear hsw hwk hres
    go_enter Tryz.func242,Tryz.ntmps242
    go_wp2_with fail
    refine hsw2.mono ?_
    rintro e w1 ⟨k,rfl,hne,hle,rfl⟩
    have t3:((k:Int)==(s.size:Int))=false:=by simp;omega
    go_wp2
    go_ret
    exact⟨rfl,Kept.refl _⟩
  ·have hz:s.size=0:=by omega
   have hres:isName s=false:=by unfold isName wokB;simp[hz]
   rw[hres]
   have t0:(s.toList==[])=true:=by rw[toList_empty hz];rfl
   have hsw:Calls Tryz.prog 324 #[.string s] w fun e w'=>e= .returned (.int .i64 0)∧w=w':=by
    clear t1 h8 h0 hz hres
    go_enter Tryz.func324,Tryz.ntmps324
    go_wp2
    go_ret
    exact⟨rfl,rfl⟩
   have t3:((0:Int)==(s.size:Int))=true:=by rw[hz];rfl
   have t4:(s.toList != [])=false:=by rw[toList_empty hz];rfl
   clear h0 hres h8
   go_enter Tryz.func242,Tryz.ntmps242
   go_wp2_with(go_at_call 324;refine hsw.mono ?_;rintro e w1 ⟨rfl,rfl⟩)
   go_ret
   exact⟨rfl,Kept.refl _⟩
 ·have t1:decide ((s.size:Int)≤8)=false:=by simp;omega
  have hres:isName s=false:=by unfold isName;simp[h8]
  rw[hres]
  clear hres
  go_enter Tryz.func242,Tryz.ntmps242
  go_wp2
  go_ret
  exact⟨rfl,Kept.refl _⟩
theorem eisname_calls(w:World)(s:ByteArray):Calls Tryz.prog 148 #[.string s] w fun e w'=>e= .returned (.bool (isName s))∧Kept w w':=by
 have h:=sisname_calls w s
 generalize isName s=b at*
 go_enter Tryz.func148,Tryz.ntmps148
 go_wp2_with(go_at_call 242;refine h.mono ?_;rintro e w1 ⟨rfl,hk⟩)
 go_ret
 exact⟨rfl,hk⟩
set_option maxHeartbeats 1000000 in
set_option maxRecDepth 100000 in
theorem risname_calls(w:World)(s:ByteArray):Calls Tryz.prog 145 #[.string s] w fun e w'=>e= .returned (.bool (isName s))∧Kept w w':=by
 by_cases h8:s.size≤8
 ·have t1:decide (8<(s.size:Int))=false:=by simp;omega
  have hrw:=rword_calls w s (by omega)
  cases hwk:wokB s with
  |false=>
   have hres:isName s=false:=by unfold isName;simp[hwk]
   rw[hres]
   rw[hwk] at hrw
   clear hres hwk
   go_enter Tryz.func145,Tryz.ntmps145
   go_wp2_with(go_at_call 240;refine hrw.mono ?_;rintro e w1 ⟨rfl,rfl⟩)
   go_ret
   exact⟨rfl,Kept.refl _⟩
  |true=>
   have hres:isName s= !inNames resNames s:=by unfold isName;simp[h8,hwk]
   rw[hres]
   rw[hwk] at hrw
   clear hres hwk
   go_enter Tryz.func145,Tryz.ntmps145
   go_wp2_with(first|(go_at_call 240;refine hrw.mono ?_;rintro e w1 ⟨rfl,rfl⟩)|(go_at_call 204;refine(resnames_calls w).mono ?_;rintro e w1 ⟨b,rfl,hs,hk⟩;have HS:=Lib.hid hs;clear hs))
   go_loop [4] (fun iv=>∃k:Nat,k≤19∧iv= .int .i64 (k:Int)∧∀j,j<k→((resNames[j]?.getD ⟨#[]⟩).toList==s.toList)=false) (fun iv=>19-(intOf iv).toNat)
   case atStart=>exact⟨0,by omega,rfl,fun j h=>by omega⟩
   case round=>
    obtain⟨k,hk8,rfl,hall⟩:=hrel
    have HALL:=Lib.hid hall;clear hall
    by_cases hlt:k<19
    ·have hc:=HS.out k hlt
     generalize hx:(resNames[k]?.getD ⟨#[]⟩)=x at*
     have HX:=Lib.hid hx;clear hx
     cases ht:(x.toList==s.toList) with
     |true=>
      have HT:=Lib.hid ht
      go_wp2
      go_ret
      exact⟨by rw[inNames_true (a:=resNames) (j:=k) hlt (by rw[HX.out];exact HT.out)];rfl,hk⟩
     |false=>
      have HT:=Lib.hid ht
      go_wp2
      go_round
      case rel=>
       refine⟨k+1,by omega,by go_num,fun j hj=> ?_⟩
       by_cases e:j=k
       ·subst e;rw[HX.out];exact HT.out
       ·exact HALL.out j (by omega)
      case measure=>simp[intOf];omega
    ·obtain rfl:19=k:=by omega
     go_wp2
     go_ret
     exact⟨by rw[inNames_false (a:=resNames) HALL.out];rfl,hk⟩
 ·have t1:decide (8<(s.size:Int))=true:=by simp;omega
  have hres:isName s=false:=by unfold isName;simp[h8]
  rw[hres]
  clear hres
  go_enter Tryz.func145,Tryz.ntmps145
  go_wp2
  go_ret
  exact⟨rfl,Kept.refl _⟩
end Go.Proofs.YtbapfnpbamnmpaaGreatDoor
