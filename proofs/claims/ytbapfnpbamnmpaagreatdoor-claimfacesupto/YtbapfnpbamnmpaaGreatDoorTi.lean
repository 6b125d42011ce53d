/- A part of the proof that ClaimFaces answers true for every input of bulk at most 1048576: conditions: the row's own. -/
import Derived.Test.YtbapfnpbamnmpaaGreatDoorTb
import Derived.Test.YtbapfnpbamnmpaaGreatDoorTh
import Derived.Test.YtbapfnpbamnmpaaGreatDoorVa
import Derived.Maps.Views
import Derived.Sort.KeysCollected
import Derived.Shelf.SlGeneric
import Derived.Shelf.SlIter.Nil
import Derived.Shelf.SortM.Plain
import Derived.Shelf.SortM.SortNone
import Derived.Test.YtbapfnpbamnmpaaGreatDoorProg
namespace Go.Proofs.YtbapfnpbamnmpaaGreatDoor
open Go.Eng (Kept KW KeptB)
section
open Go Go.RowKit Go.Dig Go.Deep
def covB(l:List SideD)(vs:List ByteArray):Bool:=vs.all fun x=>decide (0≤sideAt l 0 x)
theorem covB_congr{l:List SideD}{vs ts:List ByteArray}(h:∀x,x∈ts↔x∈vs):covB l ts=covB l vs:=by
 rw[Bool.eq_iff_iff]
 unfold covB
 rw[List.all_eq_true,List.all_eq_true]
 exact⟨fun h1 x hx=>h1 x ((h x).2 hx),fun h1 x hx=>h1 x ((h x).1 hx)⟩
theorem covB_bad{l:List SideD}{vs:List ByteArray}{x:ByteArray}(hx:x∈vs)(h:sideAt l 0 x<0):covB l vs=false:=by
 unfold covB
 rw[List.all_eq_false]
 exact⟨x,hx,by simp;exact h⟩
set_option maxHeartbeats 2000000 in
set_option maxRecDepth 100000 in
theorem rcovered_calls{f:Nat}{w:World}{v:Value}{t:Tree}(h:Ex w f v t)(hnd:nodesT t≤100000){a:Option Addr}{n cap:Nat}{l:List SideD}(hb:Bxm w a n cap l):
 Calls Tryz.prog 75 #[v,.slice a n cap] w fun e w'=>e= .returned (.bool (covB l (varsT t)))∧Kept w w':=by
 have hh:=h
 cases f with
 |zero=>exact h.elim
 |succ f=>
 obtain⟨op,arg,s,N,D,name,kids,rfl⟩:∃op arg s N D name kids,t=Tree.node op arg s N D name kids:=by cases t;exact⟨_,_,_,_,_,_,_,rfl⟩
 obtain⟨x1,x2,x3,x4,x5,x6,a0,cap0,rfl,hc,hn,hr⟩:=h.shape
 clear h hr
 have hk:Kept w (w.alloc (.cells #[.int .i64 op,.int .i64 arg,.bool s,.slice x1 x2 x3,.slice x4 x5 x6,.string name,.slice a0 kids.length cap0] 27)):=(Kept.refl w).alloc _
 have hnm:=names04_calls (f+1) (hh.kept hk) none 0 0 [] ⟨rfl,.inl ⟨rfl,rfl⟩⟩ (Nat.le_refl _) (by omega)
 clear hh
 generalize Tree.node op arg s N D name kids=t at*
 go_enter Tryz.func75,Tryz.ntmps75
 go_wp2_with(first|(go_at_call 147;refine hnm.mono ?_;rintro e w1 ⟨a1,n1,c1,ts,rfl,hsl,hc1,hn1,hm,hk1⟩))
 have hkw:=hk.trans hk1
 have hbw:=hb.kept hkw
 have HM:Hid (∀x,x∈ts↔x∈varsT t):=Lib.hid fun x=>by rw[hm];simp
 have HN:=Lib.hid hsl.1
 have hcell:∀i,(hi:i<n1)→∃b off x,a1=some ⟨b,off,none⟩∧w1.cell? ⟨b,off+i,none⟩=some (.string x)∧x∈ts∧∀h,ts[i]'h=x:=by
  intro i hi
  obtain⟨hl,⟨rfl,rfl⟩|⟨b,off,rfl,hc⟩⟩:=hsl
  ·omega
  ·exact⟨b,off,ts[i]'(by omega),rfl,hc i (by omega),List.getElem_mem _,fun _=>rfl⟩
 clear hm hsl hb hk hk1
 have hsd:=fun nm=>rside_calls hbw nm
 clear hbw
 have hn2:n1≤100000:=by omega
 go_loop [6] (fun i=>∃k:Nat,k≤n1∧i= .int .i64 (k:Int)∧∀j,j<k→∀h,0≤sideAt l 0 (ts[j]'h)) (fun i=>n1-(intOf i).toNat)
 case atStart=>exact⟨0,Nat.zero_le _,rfl,fun j hj=>absurd hj (Nat.not_lt_zero j)⟩
 case round=>
  obtain⟨k,hkl,rfl,hok⟩:=hrel
  have HOK:=Lib.hid hok;clear hok
  by_cases hlt:k<n1
  ·obtain⟨b,off,x,rfl,c0,hx,hxe⟩:=hcell k hlt
   have HX:=Lib.hid (And.intro hx hxe)
   clear hcell hx hxe
   have hs:=hsd x
   clear hsd
   by_cases hneg:sideAt l 0 x<0
   ·have tneg:decide (sideAt l 0 x<0)=true:=by simpa using hneg
    have HR:Hid (covB l (varsT t)=false):=Lib.hid (by rw[←covB_congr HM.out];exact covB_bad HX.out.1 hneg)
    generalize sideAt l 0 x=y at*
    go_wp2_with(first|(go_at_call 83;refine hs.mono ?_;rintro e w2 ⟨rfl,rfl⟩))
    go_ret
    exact⟨by rw[HR.out];rfl,hkw⟩
   ·have tneg:decide (sideAt l 0 x<0)=false:=by simpa using hneg
    have HP:Hid (0≤sideAt l 0 x):=Lib.hid (by omega)
    clear hneg
    have HY:Hid (∃y,sideAt l 0 x=y):=Lib.hid ⟨_,rfl⟩
    obtain⟨y,hy⟩:=HY.out
    rw[hy] at hs tneg
    have HY2:=Lib.hid hy;clear hy HY
    go_wp2_with(first|(go_at_call 83;refine hs.mono ?_;rintro e w2 ⟨rfl,rfl⟩))
    go_round
    case rel=>exact⟨k+1,by omega,by go_num,fun j hj hl=>by
               by_cases h:j<k
               ·exact HOK.out j h hl
               ·obtain rfl:j=k:=by omega
                rw[HX.out.2];exact HP.out⟩
    case measure=>simp[intOf];omega
  ·obtain rfl:n1=k:=by omega
   have HR:Hid (covB l (varsT t)=true):=Lib.hid (by
    rw[←covB_congr HM.out]
    unfold covB
    rw[List.all_eq_true]
    intro x hx
    obtain⟨j,hj,rfl⟩:=List.getElem_of_mem hx
    exact decide_eq_true (HOK.out j (by have:=HN.out;omega) hj))
   clear hcell hsd
   go_wp2
   go_ret
   exact⟨by rw[HR.out];rfl,hkw⟩
end
section
open Go Go.RowKit Go.Dig Go.Shelf
theorem nodeOk_name{op arg:Int}{s:Bool}{N D:Nat}{name:ByteArray}{n:Nat}(h:nodeOk op arg s N D name n=true):name.size≤8:=by
 unfold nodeOk at h
 simp only[Bool.and_eq_true,decide_eq_true_eq] at h
 obtain⟨_,h⟩:=h
 split at h
 ·simp only[Bool.and_eq_true,decide_eq_true_eq] at h
  have:=h.2;omega
 ·simp only[Bool.and_eq_true,decide_eq_true_eq] at h
  obtain⟨_,h⟩:=h
  split at h
  ·unfold isName at h;simp only[Bool.and_eq_true,decide_eq_true_eq] at h;exact h.1.1
  ·have:=of_decide_eq_true h;omega
theorem nodeOk_var{arg:Int}{s:Bool}{N D:Nat}{name:ByteArray}{n:Nat}(h:nodeOk 2 arg s N D name n=true):n=0:=by
 unfold nodeOk kidsI at h
 simp at h;omega
mutual
def goodT:Tree→Prop
 | .node op _ _ _ _ name kids=>name.size≤8∧(op=2→kids.length=0)∧goodL kids
def goodL:List Tree→Prop
 |[]=>True
 |t::ts=>goodT t∧goodL ts
end
mutual
theorem cnt_good:∀(t:Tree)(d m m':Nat),cnt t d m=some m'→goodT t
 | .node op arg s N D name kids,d,m,m'=>by
   intro h
   rw[cnt] at h
   split at h
   ·cases h
   ·rename_i hc
    have hno:nodeOk op arg s N D name kids.length=true:=by
     cases hx:nodeOk op arg s N D name kids.length
     ·exact absurd (.inr (.inr hx)) hc
     ·rfl
    exact⟨nodeOk_name hno,fun h2=>by subst h2;exact nodeOk_var hno,cnts_good kids (d+1) (m+1) m' h⟩
theorem cnts_good:∀(ts:List Tree)(d m m':Nat),cnts ts d m=some m'→goodL ts
 |[],_,_,_=>fun _=>trivial
 |t::ts,d,m,m'=>by
  intro h
  rw[cnts] at h
  cases h1:cnt t d m with
  |none=>rw[h1] at h;cases h
  |some m1=>rw[h1] at h;exact⟨cnt_good t d m m1 h1,cnts_good ts d m1 m' h⟩
end
theorem Tree.ok_good{t:Tree}(h:t.ok=true):goodT t:=by
 unfold Tree.ok at h
 obtain⟨m,hm⟩:=Option.isSome_iff_exists.1 h
 exact cnt_good _ _ _ _ hm
theorem goodL_get:∀{ts:List Tree},goodL ts→∀i(h:i<ts.length),goodT ts[i]
 |t::ts,hg,0,_=>hg.1
 |t::ts,hg,i+1,h=>goodL_get hg.2 i (by simpa using h)
def namesOf(L:List Nv):List ByteArray:=L.flatMap fun x=>if x.op=2 then [x.name] else []
theorem namesOf_append(a b:List Nv):namesOf (a++b)=namesOf a++namesOf b:=by simp[namesOf]
theorem flat_names{ls:Nat→List Nv}:∀{kids:List Tree}(k:Nat),(∀i(h:i<kids.length),k≤i+k∧namesOf (ls (i+k))=varsT kids[i]∧(ls (i+k)).length=nodesT kids[i])→
 namesOf ((List.range' k kids.length).flatMap ls)=varsL kids∧((List.range' k kids.length).flatMap ls).length=nodesL kids
 |[],k,_=>by simp[namesOf,varsL,nodesL]
 |t::ts,k,h=>by
  have h0:=h 0 (by simp)
  have ih:=flat_names (ls:=ls) (kids:=ts) (k+1) (fun i hi=>by
   have:=h (i+1) (by simpa using hi)
   rw[show i+1+k=i+(k+1) by omega] at this
   exact⟨by omega,by simpa using this.2⟩)
  simp only[Nat.zero_add,List.getElem_cons_zero] at h0
  rw[show(t::ts).length=ts.length+1 from rfl,List.range'_succ,List.flatMap_cons,namesOf_append,ih.1,h0.2.1,varsL,List.length_append,ih.2,h0.2.2,nodesL]
  exact⟨rfl,rfl⟩
theorem lst_of:∀(f:Nat){w:World}{v:Value}{t:Tree},Ex w f v t→goodT t→∃(x:Nv)(L:List Nv),v=x.val∧Lst w f x L∧L.length=nodesT t∧namesOf L=varsT t
 |0,_,_,_,h=>h.elim
 |f+1,w,v,.node op arg s N D name kids,h=>by
  intro hg
  obtain⟨g1,g2,g3⟩:=hg
  obtain⟨x1,x2,x3,x4,x5,x6,a,cap,rfl,hc,hn,hr⟩:=h.shape
  have hkid:∀i,i<kids.length→∃L:List Nv,∃b off y,a=some ⟨b,off,none⟩∧Nv.At w b (off+i*7) y∧Lst w f y L∧∀h:i<kids.length,L.length=nodesT kids[i]∧namesOf L=varsT kids[i]:=by
   intro i hi
   obtain⟨b,off,o,g,z,u1,u2,u3,u4,u5,u6,nm,a',n',cap',rfl,c0,c1,c2,c3,c4,c5,c6,hex⟩:=h.kid hi
   obtain⟨y,L,hv,hL,hl,hnm⟩:=lst_of f hex (goodL_get g3 i hi)
   refine⟨L,b,off,y,rfl,?_,hL,fun _=>⟨hl,hnm⟩⟩
   obtain⟨yo,ya,ys,y1,y2,y3,y4,y5,y6,ynm,yaa,yn,yc,ysh⟩:=y
   simp only[Nv.val,Value.agg.injEq,Array.mk.injEq,List.cons.injEq,Value.int.injEq,Value.bool.injEq,Value.slice.injEq,Value.string.injEq,true_and,and_true] at hv
   obtain⟨rfl,rfl,rfl,⟨rfl,rfl,rfl⟩,⟨rfl,rfl,rfl⟩,rfl,rfl,rfl,rfl⟩:=hv
   exact⟨c0,c1,c2,c3,c4,c5,c6⟩
  clear h
  refine⟨⟨op,arg,s,x1,x2,x3,x4,x5,x6,name,a,kids.length,cap,g1⟩,_,rfl,⟨fun i=>if h:i<kids.length then Classical.choose (hkid i h) else [],rfl,hn,fun i hi=> ?_⟩,?_⟩
  ·obtain⟨b,off,y,e,hat,hL,-⟩:=Classical.choose_spec (hkid i hi)
   exact⟨b,off,y,e,hat,by show Lst w f y (dite (i<kids.length) _ _);rw[dif_pos (show i<kids.length from hi)];exact hL⟩
  ·have hf:=flat_names (ls:=fun i=>if h:i<kids.length then Classical.choose (hkid i h) else []) (kids:=kids) 0 (fun i hi=>by
    obtain⟨b,off,y,e,hat,hL,hx⟩:=Classical.choose_spec (hkid i hi)
    refine⟨Nat.zero_le _,?_⟩
    rw[Nat.add_zero,dif_pos hi]
    exact⟨(hx hi).2,(hx hi).1⟩)
   rw[←List.range_eq_range'] at hf
   refine⟨?_,?_⟩
   ·rw[List.length_cons,hf.2,nodesT]
   ·have e:∀(x:Nv)(l:List Nv),namesOf (x::l)=(if x.op=2 then [x.name] else [])++namesOf l:=fun _ _=>rfl
    rw[e,hf.1,varsT]
    by_cases h2:op=2
    ·rw[if_pos h2,if_pos h2]
     have:=g2 h2
     obtain rfl:kids=[]:=List.eq_nil_of_length_eq_zero this
     simp[varsL]
    ·rw[if_neg h2,if_neg h2];rfl
theorem put_names{H:Type}{es:List (Lit×DataW H)}(hs:∀p∈es,∃x,p.1= .string x)(s:List UInt8)(d:DataW H):
 ∃es',(DataW.map es).put (.string s) d= .map es'∧(∀p∈es',∃x,p.1= .string x)∧∀x,x∈strKeys (.map es')↔x∈strKeys (.map es)∨x=s:=by
 have hkey:∀p∈es,((!p.1.sameKey (.string s))=true↔p.1≠.string s):=by
  intro p hp
  obtain⟨y,hy⟩:=hs p hp
  rw[hy]
  simp[Lit.sameKey]
 refine⟨_,rfl,?_,?_⟩
 ·intro p hp
  rcases ChangeMaps.mem_insert_iff.1 hp with rfl|hp
  ·exact⟨s,rfl⟩
  ·exact hs p (List.mem_filter.1 hp).1
 ·intro x
  show x∈List.map _ _↔x∈List.map _ _∨_
  simp only[List.mem_map]
  constructor
  ·rintro⟨p,hp,rfl⟩
   rcases ChangeMaps.mem_insert_iff.1 hp with rfl|hp
   ·exact .inr rfl
   ·exact .inl ⟨p,(List.mem_filter.1 hp).1,rfl⟩
  ·rintro(⟨p,hp,rfl⟩|rfl)
   ·by_cases e:p.1= .string s
    ·exact⟨(.string s,d),ChangeMaps.mem_insert_iff.2 (.inl rfl),by rw[e]⟩
    ·exact⟨p,ChangeMaps.mem_insert_iff.2 (.inr (List.mem_filter.2 ⟨hp,(hkey p hp).2 e⟩)),rfl⟩
   ·exact⟨(.string x,d),ChangeMaps.mem_insert_iff.2 (.inl rfl),rfl⟩
def seenD{H:Type}(L:List Nv):DataW H:=L.foldl (fun D x=>if x.op=2 then D.put (.string x.name.data.toList) (.lit (.bool true)) else D) (.map [])
theorem seenD_snoc{H:Type}(L:List Nv)(x:Nv):seenD (H:=H) (L++[x])=if x.op=2 then(seenD L).put (.string x.name.data.toList) (.lit (.bool true)) else seenD L:=by simp[seenD]
theorem fold_names{H:Type}:∀(L:List Nv)(es:List (Lit×DataW H)),(∀p∈es,∃x,p.1= .string x)→
 ∃es',L.foldl (fun D x=>if x.op=2 then D.put (.string x.name.data.toList) (.lit (.bool true)) else D) (DataW.map es)= .map es'∧∀x,x∈strKeys (.map es')↔x∈strKeys (.map es)∨x∈(namesOf L).map fun s=>s.data.toList
 |[],es,_=>⟨es,rfl,fun x=>by simp[namesOf]⟩
 |y::L,es,hs=>by
  rw[List.foldl_cons]
  have e:namesOf (y::L)=(if y.op=2 then [y.name] else [])++namesOf L:=rfl
  by_cases h2:y.op=2
  ·rw[if_pos h2]
   obtain⟨es1,h1,hs1,hm1⟩:=put_names hs y.name.data.toList (.lit (.bool true))
   rw[h1]
   obtain⟨es',h',hm'⟩:=fold_names L es1 hs1
   refine⟨es',h',fun x=> ?_⟩
   rw[hm',hm1,e,if_pos h2,List.map_append,List.mem_append,or_assoc]
   simp
  ·rw[if_neg h2]
   obtain⟨es',h',hm'⟩:=fold_names L es hs
   refine⟨es',h',fun x=> ?_⟩
   rw[hm',e,if_neg h2,List.nil_append]
theorem seenD_keys{H:Type}(L:List Nv)(x:List UInt8):x∈strKeys (seenD (H:=H) L)↔x∈(namesOf L).map fun s=>s.data.toList:=by
 obtain⟨es',h,hm⟩:=fold_names (H:=H) L [] (fun p hp=>by cases hp)
 unfold seenD
 rw[h,hm]
 simp[strKeys]
end
end Go.Proofs.YtbapfnpbamnmpaaGreatDoor
namespace Go.Proofs
open Go.Shelf
def Tryz.keysA_ren:Go.Shelf.Ren:=⟨fun|7=>231|10=>315|n=>n,fun|23=>291|26=>9|3=>4|28=>296|0=>0|27=>295|33=>42|4=>4|n=>n,fun|n=>n⟩
theorem Tryz.keysA:Go.Proofs.SlLaysZ.n7 Tryz.prog Tryz.keysA_ren:={
 mixed:=by kernel_rfl
 f7:=⟨Tryz.f231.name,by decide,Tryz.func231.trans (congrArg some (by kernel_rfl))⟩
 f10:=⟨Tryz.f315.name,by decide,Tryz.func315.trans (congrArg some (by kernel_rfl))⟩
 t0:=Tryz.underlying0
 a0:=Tryz.isAgg0
 z0:=Tryz.sizeOf0
 v0:=Tryz.zeroValue0
 t4:=Tryz.underlying4
 a4:=Tryz.isAgg4
 z4:=Tryz.sizeOf4
 v4:=Tryz.zeroValue4
 t23:=Tryz.underlying291
 a23:=Tryz.isAgg291
 z23:=Tryz.sizeOf291
 v23:=Tryz.zeroValue291
 t26:=Tryz.underlying9
 a26:=Tryz.isAgg9
 z26:=Tryz.sizeOf9
 v26:=Tryz.zeroValue9
 t27:=Tryz.underlying295
 a27:=Tryz.isAgg295
 z27:=Tryz.sizeOf295
 v27:=Tryz.zeroValue295
 t28:=Tryz.underlying296
 a28:=Tryz.isAgg296
 z28:=Tryz.sizeOf296
 v28:=Tryz.zeroValue296
 t33:=Tryz.underlying42
 a33:=Tryz.isAgg42
 z33:=Tryz.sizeOf42
 v33:=Tryz.zeroValue42}
def Tryz.sortedA_ren:Go.Shelf.Ren:=⟨fun|6=>230|8=>313|9=>314|11=>374|13=>201|12=>375|23=>296|24=>297|14=>404|15=>405|16=>406|17=>407|18=>408|19=>409|20=>410|21=>411|22=>412|25=>423|26=>359|27=>360|28=>424|29=>425|30=>202|31=>433|n=>n,fun|26=>9|28=>296|24=>199|0=>0|3=>3|37=>267|48=>191|50=>256|4=>4|40=>332|39=>331|45=>268|5=>5|9=>9|51=>381|55=>385|57=>420|58=>421|33=>42|n=>n,fun|n=>n⟩
theorem Tryz.sortedA:Go.Proofs.SlLaysZ.n6 Tryz.prog Tryz.sortedA_ren:={
 mixed:=by kernel_rfl
 f6:=⟨Tryz.f230.name,by decide,Tryz.func230.trans (congrArg some (by kernel_rfl))⟩
 f8:=⟨Tryz.f313.name,by decide,Tryz.func313.trans (congrArg some (by kernel_rfl))⟩
 f11:=⟨Tryz.f374.name,by decide,Tryz.func374.trans (congrArg some (by kernel_rfl))⟩
 t0:=Tryz.underlying0
 a0:=Tryz.isAgg0
 z0:=Tryz.sizeOf0
 v0:=Tryz.zeroValue0
 t24:=Tryz.underlying199
 a24:=Tryz.isAgg199
 z24:=Tryz.sizeOf199
 v24:=Tryz.zeroValue199
 t26:=Tryz.underlying9
 a26:=Tryz.isAgg9
 z26:=Tryz.sizeOf9
 v26:=Tryz.zeroValue9
 t28:=Tryz.underlying296
 a28:=Tryz.isAgg296
 z28:=Tryz.sizeOf296
 v28:=Tryz.zeroValue296
 i26:=by kernel_rfl}
def Tryz.sortA_ren:Go.Shelf.Ren:=⟨fun|6=>314|8=>201|9=>375|19=>296|20=>297|21=>404|22=>405|23=>406|24=>407|25=>408|26=>409|27=>410|28=>411|29=>412|36=>423|31=>359|32=>360|37=>424|38=>425|39=>202|41=>433|n=>n,fun|27=>199|29=>9|3=>3|32=>267|26=>199|0=>0|44=>191|46=>256|4=>4|36=>332|35=>331|41=>268|5=>5|9=>9|53=>381|57=>385|63=>420|64=>421|n=>n,fun|n=>n⟩
theorem Tryz.sortA:Go.Proofs.SlLaysM.n6 Tryz.prog Tryz.sortA_ren:={
 mixed:=by kernel_rfl
 f6:=⟨Tryz.f314.name,by decide,Tryz.func314.trans (congrArg some (by kernel_rfl))⟩
 f8:=Tryz.func201.trans (congrArg some (by kernel_rfl))
 f9:=⟨Tryz.f375.name,by decide,Tryz.func375.trans (congrArg some (by kernel_rfl))⟩
 f19:=Tryz.func296.trans (congrArg some (by kernel_rfl))
 f20:=Tryz.func297.trans (congrArg some (by kernel_rfl))
 f21:=⟨Tryz.f404.name,by decide,Tryz.func404.trans (congrArg some (by kernel_rfl))⟩
 f22:=⟨Tryz.f405.name,by decide,Tryz.func405.trans (congrArg some (by kernel_rfl))⟩
 f23:=⟨Tryz.f406.name,by decide,Tryz.func406.trans (congrArg some (by kernel_rfl))⟩
 f24:=⟨Tryz.f407.name,by decide,Tryz.func407.trans (congrArg some (by kernel_rfl))⟩
 f25:=⟨Tryz.f408.name,by decide,Tryz.func408.trans (congrArg some (by kernel_rfl))⟩
 f26:=⟨Tryz.f409.name,by decide,Tryz.func409.trans (congrArg some (by kernel_rfl))⟩
 f27:=⟨Tryz.f410.name,by decide,Tryz.func410.trans (congrArg some (by kernel_rfl))⟩
 f28:=⟨Tryz.f411.name,by decide,Tryz.func411.trans (congrArg some (by kernel_rfl))⟩
 f29:=⟨Tryz.f412.name,by decide,Tryz.func412.trans (congrArg some (by kernel_rfl))⟩
 f31:=Tryz.func359.trans (congrArg some (by kernel_rfl))
 f32:=Tryz.func360.trans (congrArg some (by kernel_rfl))
 f36:=⟨Tryz.f423.name,by decide,Tryz.func423.trans (congrArg some (by kernel_rfl))⟩
 f37:=⟨Tryz.f424.name,by decide,Tryz.func424.trans (congrArg some (by kernel_rfl))⟩
 f38:=⟨Tryz.f425.name,by decide,Tryz.func425.trans (congrArg some (by kernel_rfl))⟩
 f39:=⟨Tryz.f202.name,by decide,Tryz.func202.trans (congrArg some (by kernel_rfl))⟩
 f41:=⟨Tryz.f433.name,by decide,Tryz.func433.trans (congrArg some (by kernel_rfl))⟩
 t0:=Tryz.underlying0
 a0:=Tryz.isAgg0
 z0:=Tryz.sizeOf0
 v0:=Tryz.zeroValue0
 t3:=Tryz.underlying3
 a3:=Tryz.isAgg3
 z3:=Tryz.sizeOf3
 v3:=Tryz.zeroValue3
 t4:=Tryz.underlying4
 a4:=Tryz.isAgg4
 z4:=Tryz.sizeOf4
 v4:=Tryz.zeroValue4
 t5:=Tryz.underlying5
 a5:=Tryz.isAgg5
 z5:=Tryz.sizeOf5
 v5:=Tryz.zeroValue5
 t9:=Tryz.underlying9
 a9:=Tryz.isAgg9
 z9:=Tryz.sizeOf9
 v9:=Tryz.zeroValue9
 t26:=Tryz.underlying199
 a26:=Tryz.isAgg199
 z26:=Tryz.sizeOf199
 v26:=Tryz.zeroValue199
 t27:=Tryz.underlying199
 a27:=Tryz.isAgg199
 z27:=Tryz.sizeOf199
 v27:=Tryz.zeroValue199
 t29:=Tryz.underlying9
 a29:=Tryz.isAgg9
 z29:=Tryz.sizeOf9
 v29:=Tryz.zeroValue9
 t32:=Tryz.underlying267
 a32:=Tryz.isAgg267
 z32:=Tryz.sizeOf267
 v32:=Tryz.zeroValue267
 t35:=Tryz.underlying331
 a35:=Tryz.isAgg331
 z35:=Tryz.sizeOf331
 v35:=Tryz.zeroValue331
 t36:=Tryz.underlying332
 a36:=Tryz.isAgg332
 z36:=Tryz.sizeOf332
 v36:=Tryz.zeroValue332
 t41:=Tryz.underlying268
 a41:=Tryz.isAgg268
 z41:=Tryz.sizeOf268
 v41:=Tryz.zeroValue268
 t44:=Tryz.underlying191
 a44:=Tryz.isAgg191
 z44:=Tryz.sizeOf191
 v44:=Tryz.zeroValue191
 t46:=Tryz.underlying256
 a46:=Tryz.isAgg256
 z46:=Tryz.sizeOf256
 v46:=Tryz.zeroValue256
 t53:=Tryz.underlying381
 a53:=Tryz.isAgg381
 z53:=Tryz.sizeOf381
 v53:=Tryz.zeroValue381
 t57:=Tryz.underlying385
 a57:=Tryz.isAgg385
 z57:=Tryz.sizeOf385
 v57:=Tryz.zeroValue385
 t63:=Tryz.underlying420
 a63:=Tryz.isAgg420
 z63:=Tryz.sizeOf420
 v63:=Tryz.zeroValue420
 t64:=Tryz.underlying421
 a64:=Tryz.isAgg421
 z64:=Tryz.sizeOf421
 v64:=Tryz.zeroValue421}
end Go.Proofs
namespace Go.Proofs.YtbapfnpbamnmpaaGreatDoor
open Go Go.RowKit Go.Dig Go.Shelf Go.Maps Go.Sort
open Go.Eng (Kept KW KeptB)
attribute [local go_sem] Oper.semAt_some
theorem sortsA(m:Nat):AnyZ.SortsIn Tryz.prog Tryz.sortedA_ren Fence.wide m:=
 ⟨fun blk off cap ss W hH hblk hsz=>callsIn_wide.2 (AnyM.slices_Sort_string Tryz.sortA blk off cap ss W hH hblk hsz),
  fun p cap W=>callsIn_wide.2 (AnyM.slices_Sort_string_none Tryz.sortA p cap W)⟩
theorem keys_calls(n:Nat)(mb:Option Nat)(W:World):CallsIn Fence.wide n Tryz.prog 231 #[.map mb] W fun e w'=>e= .returned (.func (.func 315) #[] #[.pointer (some ⟨W.heap.size,0,none⟩)])∧w'=W.alloc (.cells #[.map mb] 291):=
 AnyZ.keys_in Tryz.keysA Fence.wide n trivial rfl mb W
set_option maxHeartbeats 1000000 in
theorem sorted_calls{H:Type}(b nn:Nat)(D0:DataW H)(R:Value→Option (DataW H×List MemPlace))(w:World)(hown:w.ownsMap Tryz.prog 9 R b nn D0)(hmax:Maps.size D0≤maxLen)(hbytes:Maps.size D0*16≤140737488355328):
 CallsIn Fence.wide 5 Tryz.prog 230 #[.func (.func 315) #[] #[.pointer (some ⟨w.heap.size,0,none⟩)]] (w.alloc (.cells #[.map (some b)] 291)) fun e w'=>∃(v:Value)(ss:List (List UInt8)),e= .returned v∧ss.Perm (strKeys D0)∧
  w'.ownsRow w.heap.size 9 1 v ss.length ((ss.mergeSort (fun x y=>decide (x≤y))).map encStr)∧Below w.heap.size w w':=by
 have hbl:=hown.lt
 have hseq:SeqGives Fence.wide 2 Tryz.prog 315 #[.pointer (some ⟨w.heap.size,0,none⟩)] encStr (fun ss=>ss.Perm (strKeys D0)) (Maps.size D0) (w.alloc (.cells #[.map (some b)] 291)):=
  AnyZ.keys_gives (ρ:=Tryz.keysA_ren) {Tryz.keysA with} Fence.wide _ trivial rfl (by omega) w.heap.size b nn D0 _ (by simp) (by simp) (by
   obtain⟨es,clock,hb,Ft,hs,hD⟩:=hown
   exact⟨es,clock,(Below.heap_alloc _ _ b hbl).trans hb,Ft,hs,hD⟩)
 have cS:=AnyZ.sorted_in Tryz.sortedA Fence.wide 5 trivial trivial trivial trivial rfl (by omega) (sortsA _) (enters_of Tryz.func314 (by kernel_rfl) rfl) 315 #[.pointer (some ⟨w.heap.size,0,none⟩)] trivial (enters_of Tryz.func315 (by kernel_rfl) rfl) _ _ hmax hbytes _ hseq
 change CallsIn _ _ Tryz.prog 230 _ _ _ at cS
 refine cS.mono ?_
 rintro e w' ⟨v,ss,rfl,hS,hrow,hnil,hb⟩
 exact⟨v,ss,rfl,hS,ownsRow_base_a hrow (by simp),((Below.refl _ w).alloc (Nat.le_refl _) _).trans (hb.mono (by simp))⟩
end Go.Proofs.YtbapfnpbamnmpaaGreatDoor
