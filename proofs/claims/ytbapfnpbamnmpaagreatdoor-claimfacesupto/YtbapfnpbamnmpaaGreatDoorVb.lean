/- A part of the proof that ClaimFaces answers true for every input of bulk at most 1048576: conditions: the row's own. -/
import Derived.Test.YtbapfnpbamnmpaaGreatDoorTi
import Derived.Maps.OwnSet
import Derived.Test.YtbapfnpbamnmpaaGreatDoorTd
namespace Go.Proofs.YtbapfnpbamnmpaaGreatDoor
section
open Go Go.RowKit Go.Dig Go.Shelf Go.Maps Go.Sort
open Go.Eng (Kept KW KeptB)
attribute [local go_sem] Oper.semAt_some
theorem strKeys_size{H:Type}(D:DataW H):(strKeys D).length=Maps.size D:=by
 cases D<;>simp[strKeys,Maps.size]
theorem sorted_mem{H:Type}{ss:List (List UInt8)}{L:List Nv}(hS:ss.Perm (strKeys (seenD (H:=H) L)))(z:ByteArray):
 z∈((ss.mergeSort fun x y=>decide (x≤y)).map fun l=>(⟨l.toArray⟩:ByteArray))↔z∈namesOf L:=by
 rw[List.mem_map]
 constructor
 ·rintro⟨l,hl,rfl⟩
  have h1:=(seenD_keys L l).1 (hS.mem_iff.1 ((List.mergeSort_perm ss _).mem_iff.1 hl))
  obtain⟨s,hs,rfl⟩:=List.mem_map.1 h1
  exact hs
 ·intro hz
  refine⟨z.data.toList,(List.mergeSort_perm ss _).mem_iff.2 (hS.mem_iff.2 ((seenD_keys L _).2 (List.mem_map.2 ⟨z,hz,rfl⟩))),rfl⟩
theorem key_string{s:ByteArray}(h:s.size≤8):keyOf Tryz.prog 9 (.string s)=some (.string s.data.toList):=by
 have h2:s.data.size≤8:=h
 simp[keyOf,Tryz.underlying9,mapKey]
 exact Nat.le_trans h2 (by unfold maxLen;decide)
set_option maxHeartbeats 1000000 in
set_option maxRecDepth 100000 in
theorem vars_good{f:Nat}{w:World}{v:Value}{t:Tree}(h:Ex w f v t)(hT:Laid w)(hok:t.ok=true):
 Calls Tryz.prog 136 #[v] w fun e w'=>∃a n cap ts,e= .returned (.tuple #[.slice a n cap,.int .i64 0])∧SL w' a n ts∧n≤cap∧n≤300∧(∀x,x∈ts↔x∈varsT t)∧Kept w w':=by
 obtain⟨x,L,rfl,hL,hlen,hnm⟩:=lst_of f h (Tree.ok_good hok)
 have hlen:L.length≤300:=by have:=Tree.ok_nodes hok;omega
 have hmm:= @run_makeMap Tryz.prog
 have hk:Kept w (w.alloc (.cells #[.int .i64 x.op,.int .i64 x.arg,.bool x.s,.slice x.x1 x.x2 x.x3,.slice x.x4 x.x5 x.x6,.string x.name,.slice x.a x.n x.cap] 27)):=(Kept.refl w).alloc _
 have hv:=pvalid_calls (h.kept hk) (hT.kept hk)
 have hbx0:=Blk.new w #[.int .i64 x.op,.int .i64 x.arg,.bool x.s,.slice x.x1 x.x2 x.x3,.slice x.x4 x.x5 x.x6,.string x.name,.slice x.a x.n x.cap] 27
 rw[hok] at hv
 clear h hok
 dsimp only[Nv.val] at hv⊢
 refine(callsIn_wide (n:=6)).1 ?_
 refine callsIn_of_wp_marks Tryz.func136 rfl trivial ?_ rfl
 simp only[Tryz.ntmps136,List.size_toArray,List.length_cons,List.length_nil,Nat.reduceAdd,Nat.reduceSub,Array.replicate_succ,Array.replicate_zero,List.push_toArray,List.append_toArray,List.nil_append,List.cons_append]
 gi_wp2_with (first
  |(refine⟨trivial,?_⟩;gi_at_call 77;refine(callsIn_wide.2 hv).mono ?_;rintro e w1 ⟨rfl,hk1⟩;obtain⟨c0,c1,c2,c3,c4,c5,c6,-⟩:=(hbx0.kept (hk1.trans (((Kept.refl w1).alloc (.map #[] 0)).alloc (.cells #[.map (some w1.heap.size)] 291)))).facts7)
  |(refine⟨trivial,?_⟩;gi_at_call 229;refine(nodes_in Fence.wide _ trivial rfl x _).mono ?_;rintro e w2 ⟨rfl,rfl⟩))
 have hbl:=(Blk.new ((w1.alloc (.map #[] 0)).alloc (.cells #[.map (some w1.heap.size)] 291)) #[.int .i64 x.op,.int .i64 x.arg,.bool x.s,.slice x.x1 x.x2 x.x3,.slice x.x4 x.x5 x.x6,.string x.name,.slice x.a x.n x.cap] 27)
 have hm0:=((World.ownsMap_made w1 Tryz.prog 9 (plainElem (H:=Nat) Tryz.prog 4)).alloc (.cells #[.map (some w1.heap.size)] 291)).alloc (.cells #[.int .i64 x.op,.int .i64 x.arg,.bool x.s,.slice x.x1 x.x2 x.x3,.slice x.x4 x.x5 x.x6,.string x.name,.slice x.a x.n x.cap] 27)
 have hbm:=(Boxed.new (w1.alloc (.map #[] 0)) 291 (.map (some w1.heap.size))).alloc (.cells #[.int .i64 x.op,.int .i64 x.arg,.bool x.s,.slice x.x1 x.x2 x.x3,.slice x.x4 x.x5 x.x6,.string x.name,.slice x.a x.n x.cap] 27)
 simp only[World.size_alloc] at hbl hbm
 have hkW:Kept w1 (((w1.alloc (.map #[] 0)).alloc (.cells #[.map (some w1.heap.size)] 291)).alloc (.cells #[.int .i64 x.op,.int .i64 x.arg,.bool x.s,.slice x.x1 x.x2 x.x3,.slice x.x4 x.x5 x.x6,.string x.name,.slice x.a x.n x.cap] 27)):=(((Kept.refl w1).alloc _).alloc _).alloc _
 have hszW:(((w1.alloc (.map #[] 0)).alloc (.cells #[.map (some w1.heap.size)] 291)).alloc (.cells #[.int .i64 x.op,.int .i64 x.arg,.bool x.s,.slice x.x1 x.x2 x.x3,.slice x.x4 x.x5 x.x6,.string x.name,.slice x.a x.n x.cap] 27)).heap.size=w1.heap.size+3:=by simp
 obtain⟨W0,hW0⟩:∃W0,((w1.alloc (.map #[] 0)).alloc (.cells #[.map (some w1.heap.size)] 291)).alloc (.cells #[.int .i64 x.op,.int .i64 x.arg,.bool x.s,.slice x.x1 x.x2 x.x3,.slice x.x4 x.x5 x.x6,.string x.name,.slice x.a x.n x.cap] 27)=W0:=⟨_,rfl⟩
 rw[hW0] at hbl hm0 hbm hkW hszW⊢
 clear hW0
 have hkw0:=(hk.trans hk1).trans hkW
 have hsz1:=(hk.trans hk1).size
 generalize hbmE:w1.heap.size=bm at*
 have hB0:Below w.heap.size w W0:=below_of_kept hkw0
 have hszw:=hkw0.size
 refine wpIn_rangeFunc_ownH rfl (by omega) (gf:=311) (lb:=#[.pointer (some ⟨bm+1+1,0,none⟩)]) rfl trivial (enters_of Tryz.func311 (by kernel_rfl) rfl)
  (nodes_stops Fence.wide rfl 5 trivial trivial rfl (bm+1+1) w f x L hL W0 hB0 hbl) (fun h k=>h.trans k) (fun W l o o' hl h ho _=>kc_putObj W l o o' (by omega) h ho) (Below.refl _ _) (fun _=>rfl)
  (fun pre W=>(Boxed W (bm+1) 291 (.map (some bm))∧∃nn,nn≤pre.length∧W.ownsMap Tryz.prog 9 (plainElem (H:=Nat) Tryz.prog 4) bm nn (seenD pre))∧Below w.heap.size w W)
  (fun _ _ _=>False)
  (OwnFrom.and (OwnFrom.and (Own.from (boxed_own _ _ _) _) (fun s X Y row hs hg hr=>by obtain⟨nn,h1,h2⟩:=hs;exact⟨nn,h1,h2.kept hg (fun e=>by have:=(hr _ e.symm).1;omega)⟩)) (ownFrom_below (Nat.le_refl _) (by omega)))
  (fun _ _ _ _ _ hs _ _=>hs)
  ⟨⟨hbm,0,Nat.le_refl _,hm0⟩,hB0⟩
  (fun y a' W=>∃Bx,Blk W Bx #[.int .i64 y.op,.int .i64 y.arg,.bool y.s,.slice y.x1 y.x2 y.x3,.slice y.x4 y.x5 y.x6,.string y.name,.slice y.a y.n y.cap] 27∧a'={tmps:=#[Value.agg #[Value.int IntKind.i64 x.op,Value.int IntKind.i64 x.arg,Value.bool x.s,Value.slice x.x1 x.x2 x.x3,Value.slice x.x4 x.x5 x.x6,Value.string x.name,Value.slice x.a x.n x.cap],Value.pointer (some {block:=w.heap.size,off:=0}),Value.slice none 0 0,Value.int IntKind.i64 0,Value.pointer (some {block:=bm+1,off:=0}),Value.pointer (some {block:=Bx,off:=0}),Value.agg #[Value.int IntKind.i64 x.op,Value.int IntKind.i64 x.arg,Value.bool x.s,Value.slice x.x1 x.x2 x.x3,Value.slice x.x4 x.x5 x.x6,Value.string x.name,Value.slice x.a x.n x.cap],Value.bool true,Value.bool false,Value.map (some bm),Value.agg #[Value.int IntKind.i64 x.op,Value.int IntKind.i64 x.arg,Value.bool x.s,Value.slice x.x1 x.x2 x.x3,Value.slice x.x4 x.x5 x.x6,Value.string x.name,Value.slice x.a x.n x.cap],Value.func (Fn.func 311) #[] #[Value.pointer (some {block:=bm+1+1,off:=0})],Value.agg #[.int .i64 y.op,.int .i64 y.arg,.bool y.s,.slice y.x1 y.x2 y.x3,.slice y.x4 y.x5 y.x6,.string y.name,.slice y.a y.n y.cap],undef,undef,undef,undef,undef,undef,undef,undef,undef],defers:=[]})
  (fun y a' _ X Y row hs hg hr=>by
    obtain⟨Bx,h1,h2⟩:=hs
    refine⟨Bx,(hg.block Bx h1.lt (fun e=> ?_)).trans h1,h2⟩
    obtain⟨_,o,ho,hc⟩:=hr Bx e.symm
    rw[show X.heap[Bx]? =_ from h1] at ho;cases ho;cases hc)
  ?assign ?body ?done ?stop
 case assign=>
  rintro l pre y W K ⟨⟨hb1,nn,hnn,hown⟩,hB1⟩ hK
  dsimp only[Nv.val]
  gi_wp2
  exact hK _ _ ((KeepsOthers.alloc _ _).from _) ((KC.refl _ W).alloc hB1.size _) ⟨⟨hb1.alloc _,nn,hnn,hown.alloc _⟩,hB1.alloc hB1.size _⟩ ⟨W.heap.size,Blk.new W _ 27,rfl⟩
 case body=>
  rintro l pre y a' W hl- ⟨⟨hb1,nn,hnn,hown⟩,hB1⟩ ⟨Bx,hby,rfl⟩ hlt
  obtain⟨c0,-,-,-,-,c5,-,-⟩:=hby.facts7
  have cb:=hb1.cell
  have HS:=Lib.hid (seenD_snoc (H:=Nat) pre y)
  have HSH:=Lib.hid y.short
  by_cases h2:y.op=2
  ·rw[h2] at c0
   have HSE:Hid (seenD (H:=Nat) (pre++[y])=(seenD pre).put (.string y.name.data.toList) (.lit (.bool true))):=Lib.hid (by rw[HS.out,if_pos h2])
   clear h2
   gi_wp2_with (gi_at_mapUpdate;refine wpListIn_mapUpdate_own _ rfl _ _ _ 291 rfl 9 4 (Maps.string_keyed Tryz.underlying9) Tryz.underlying291 _ bm nn _ rfl hown (by unfold maxLen;omega) _ _ _ rfl rfl (key_string HSH.out) _ [] (plainElem_bool Tryz.underlying4 true) ?_;intro w2 hown2 hgrow2)
   have hmc:∀o,W.heap[bm]? =some o→o.isCells=false:=by
    obtain⟨es,ck,hh,_⟩:=hown
    intro o ho
    rw[hh] at ho;cases ho;rfl
   have hBw:Below w.heap.size W w2:=(Below.refl _ W).grown hgrow2 hB1.size (fun k e=>by cases e;omega)
   have hbmlt:=hown.lt
   refine⟨KeepsFrom.of_grownBy hgrow2 (fun j e=>by cases e;omega),⟨hBw,fun b o hb hc=> ?_⟩,⟨⟨hb1.kept hgrow2 (fun e=>by cases e),nn+1,by simp only[List.length_append,List.length_cons,List.length_nil];omega,by rw[HSE.out];exact hown2⟩,hB1.trans hBw⟩⟩
   refine(hgrow2.block b (Array.getElem?_eq_some_iff.1 hb).1 (fun e=> ?_)).trans hb
   cases e
   rw[hmc o hb] at hc;cases hc
  ·have t2:(y.op==2)=false:=by simpa using h2
   have HSE:Hid (seenD (H:=Nat) (pre++[y])=seenD pre):=Lib.hid (by rw[HS.out,if_neg h2])
   gi_wp2
   exact⟨KeepsFrom.refl _ _,KC.refl _ _,⟨⟨hb1,nn,by simp only[List.length_append,List.length_cons,List.length_nil];omega,by rw[HSE.out];exact hown⟩,hB1⟩⟩
 case done=>
  rintro D ys W hD rfl ⟨⟨hb1,nn,hnn,hown⟩,hB1⟩ hK
  have cb:=hb1.cell
  have hsz:Maps.size (seenD (H:=Nat) ys)≤300:=by have:=hown.size_le;omega
  have cS:=sorted_calls bm nn _ _ W hown (by unfold maxLen;omega) (by omega)
  gi_wp2_with (first
   |(refine⟨trivial,?_⟩;gi_at_call 231;refine(keys_calls _ _ _).mono ?_;rintro e w2 ⟨rfl,rfl⟩)
   |(refine⟨trivial,?_⟩;gi_at_call 230;refine cS.mono ?_;rintro e w2 ⟨v,ss,rfl,hS,hrow,hb2⟩))
  have hDlt:D<W.heap.size:=(Array.getElem?_eq_some_iff.1 hK).1
  have hK2:w2.heap[D]? =some (.deferred (some [])):=(hb2.block D hDlt).trans hK
  have hsp:Sp w2 W.heap.size v ss.length (ss.mergeSort (fun x y=>decide (x≤y)) |>.map fun l=>⟨l.toArray⟩):=by
   unfold Sp
   rw[List.map_map]
   exact hrow
  have hsp':Sp (w2.putObj D (.deferred none)) W.heap.size v ss.length (ss.mergeSort (fun x y=>decide (x≤y)) |>.map fun l=>⟨l.toArray⟩):=ownsRow_putObj hsp _ hK2 rfl
  obtain⟨a,cap,rfl,hcap,hsl⟩:=hsp'.open
  refine⟨by simp,.inl ⟨_,_,rfl,run_takeDeferred hK2,?_⟩⟩
  refine⟨.tuple #[.slice a ss.length cap,.int .i64 0],by simp[results,Tryz.f136,go_sem],a,_,cap,_,rfl,hsl,hcap,?_,fun z=> ?_,?_⟩
  ·rw[hS.length_eq,strKeys_size];exact hsz
  ·rw[←hnm]
   exact sorted_mem hS z
  ·exact kept_of_below ((hB1.trans (hb2.mono hB1.size)).trans (belowK_b (w:=w) (Nat.le_refl _) w2 D _ _ (by omega) hK2 rfl rfl))
 case stop=>
  rintro D c pre W _ _ h _
  exact h.elim
end
section
open Go Go.RowKit Go.Dig
open Go.Eng (Kept KW KeptB)
def ixOf(p:ByteArray→Bool):List ByteArray→Nat→Int
 |[],_=> -1
 |s::r,k=>if p s=true then(k:Int) else ixOf p r (k+1)
theorem ixOf_any(p:ByteArray→Bool):∀(l:List ByteArray)(k:Nat),decide (0≤ixOf p l k)=l.any p
 |[],_=>by simp[ixOf]
 |s::r,k=>by
  rw[ixOf,List.any_cons]
  cases h:p s
  ·rw[if_neg (by simp),ixOf_any p r (k+1),Bool.false_or]
  ·rw[if_pos rfl,Bool.true_or];simp
theorem ixOf_drop(p:ByteArray→Bool){l:List ByteArray}{k:Nat}(h:k<l.length):ixOf p (l.drop k) k=if p l[k]=true then(k:Int) else ixOf p (l.drop (k+1)) (k+1):=by
 rw[List.drop_eq_getElem_cons h,ixOf]
theorem ixOf_end(p:ByteArray→Bool)(l:List ByteArray):ixOf p (l.drop l.length) l.length= -1:=by simp[ixOf]
set_option maxHeartbeats 1000000 in
theorem cov1_calls{w:World}{bx:Nat}{a:Option Addr}{n cap:Nat}{l:List SideD}(hb:Bxm w a n cap l)(hc:w.cell? ⟨bx,0,none⟩=some (.slice a n cap))(s:ByteArray):
 Calls Tryz.prog 152 #[.string s,.pointer (some ⟨bx,0,none⟩)] w fun e w'=>e= .returned (.bool (!decide (0≤sideAt l 0 s)))∧Kept w w':=by
 have hs:=side_calls hb s
 clear hb
 have HY:Hid (∃y,sideAt l 0 s=y):=Lib.hid ⟨_,rfl⟩
 obtain⟨y,hy⟩:=HY.out
 rw[hy] at hs⊢
 clear hy HY
 by_cases h:y<0
 ·have t1:decide (y<0)=true:=by simpa using h
  have HR:Hid ((!decide (0≤y))=true):=Lib.hid (by simp;exact h)
  go_enter Tryz.func152,Tryz.ntmps152
  go_wp2_with(go_at_call 134;refine hs.mono ?_;rintro e w1 ⟨rfl,hk1⟩)
  go_ret
  exact⟨by rw[HR.out];rfl,hk1⟩
 ·have t1:decide (y<0)=false:=by simpa using h
  have HR:Hid ((!decide (0≤y))=false):=Lib.hid (by simp;omega)
  go_enter Tryz.func152,Tryz.ntmps152
  go_wp2_with(go_at_call 134;refine hs.mono ?_;rintro e w1 ⟨rfl,hk1⟩)
  go_ret
  exact⟨by rw[HR.out];rfl,hk1⟩
theorem SL.at{w:World}{a:Option Addr}{n:Nat}{ss:List ByteArray}(h:SL w a n ss){k:Nat}(hk:k<ss.length):∃b off,a=some ⟨b,off,none⟩∧w.cell? ⟨b,off+k,none⟩=some (.string ss[k]):=by
 obtain⟨hn,⟨rfl,rfl⟩|⟨b,off,rfl,hc⟩⟩:=h
 ·omega
 ·exact⟨b,off,rfl,hc k hk⟩
set_option maxHeartbeats 1000000 in
set_option maxRecDepth 100000 in
theorem index245_calls{w:World}{a:Option Addr}{n cap:Nat}{ss:List ByteArray}(h:SL w a n ss)(hn0:n≤100000){bx:Nat}{p:ByteArray→Bool}
 (hp:∀w',Kept w w'→∀s,Calls Tryz.prog 152 #[.string s,.pointer (some ⟨bx,0,none⟩)] w' fun e w''=>e= .returned (.bool (p s))∧Kept w' w''):
 Calls Tryz.prog 245 #[.slice a n cap,.func (.func 152) #[] #[.pointer (some ⟨bx,0,none⟩)]] w fun e w'=>e= .returned (.int .i64 (ixOf p ss 0))∧Kept w w':=by
 have hn:=h.1
 have H:=Lib.hid h;clear h
 subst hn
 go_enter Tryz.func245,Tryz.ntmps245
 go_wp2
 go_loopw [8] (fun s wr=>∃k:Nat,k≤ss.length∧s= .int .i64 (k:Int)∧ixOf p (ss.drop k) k=ixOf p ss 0∧Kept w wr) (fun s _=>ss.length-(intOf s).toNat)
 case atStart=>exact⟨0,Nat.zero_le _,rfl,rfl,Kept.refl w⟩
 case round=>
  obtain⟨k,hk,rfl,ht,hkw⟩:=hrel
  have HT:=Lib.hid ht;clear ht
  by_cases hlt:k<ss.length
  ·obtain⟨b,off,rfl,h0⟩:=H.out.at hlt
   have hs:=Lib.hid (ixOf_drop p hlt)
   replace h0:=hkw.cell h0
   have hcl:=hp _ hkw ss[k]
   clear hp
   cases hq:p ss[k]
   ·rw[hq] at hcl
    go_wp2_with(go_at_call 152;refine hcl.mono ?_;rintro e w1 ⟨rfl,hk1⟩)
    go_roundw
    case rel=>exact⟨k+1,by omega,by go_num,by rw[←HT.out,hs.out,hq];rfl,hkw.trans hk1⟩
    case measure=>simp[intOf];omega
   ·rw[hq] at hcl
    go_wp2_with(go_at_call 152;refine hcl.mono ?_;rintro e w1 ⟨rfl,hk1⟩)
    go_ret
    exact⟨by rw[←HT.out,hs.out,hq];rfl,hkw.trans hk1⟩
  ·obtain rfl:ss.length=k:=by omega
   clear hp
   go_wp2
   go_ret
   exact⟨by rw[←HT.out,ixOf_end];rfl,hkw⟩
set_option maxHeartbeats 1000000 in
theorem contains151_calls{w:World}{a:Option Addr}{n cap:Nat}{ss:List ByteArray}(h:SL w a n ss)(hn0:n≤100000){bx:Nat}{p:ByteArray→Bool}
 (hp:∀w',Kept w w'→∀s,Calls Tryz.prog 152 #[.string s,.pointer (some ⟨bx,0,none⟩)] w' fun e w''=>e= .returned (.bool (p s))∧Kept w' w''):
 Calls Tryz.prog 151 #[.slice a n cap,.func (.func 152) #[] #[.pointer (some ⟨bx,0,none⟩)]] w fun e w'=>e= .returned (.bool (ss.any p))∧Kept w w':=by
 have hi:=index245_calls (cap:=cap) h hn0 hp
 clear h hp
 rw[←ixOf_any p ss 0]
 generalize ixOf p ss 0=y at*
 go_enter Tryz.func151,Tryz.ntmps151
 go_wp2_with(go_at_call 245;refine hi.mono ?_;rintro e w1 ⟨rfl,hk1⟩)
 go_ret
 exact⟨rfl,hk1⟩
theorem covB_any(l:List SideD)(vs:List ByteArray):(!vs.any fun s=> !decide (0≤sideAt l 0 s))=covB l vs:=by
 induction vs with
 |nil=>rfl
 |cons x xs ih=>
  unfold covB at*
  rw[List.any_cons,List.all_cons,←ih]
  cases decide (0≤sideAt l 0 x)<;>simp
set_option maxHeartbeats 1000000 in
set_option maxRecDepth 100000 in
theorem covered_calls{f:Nat}{w:World}{v:Value}{t:Tree}(h:Ex w f v t)(hT:Laid w)(hok:t.ok=true){a:Option Addr}{n cap:Nat}{l:List SideD}(hb:Bxm w a n cap l):
 Calls Tryz.prog 78 #[v,.slice a n cap] w fun e w'=>e= .returned (.bool (covB l (varsT t)))∧Kept w w':=by
 have hh:=h
 cases f with
 |zero=>exact h.elim
 |succ f=>
 obtain⟨op,arg,s,N,D,name,kids,rfl⟩:∃op arg s N D name kids,t=Tree.node op arg s N D name kids:=by cases t;exact⟨_,_,_,_,_,_,_,rfl⟩
 obtain⟨x1,x2,x3,x4,x5,x6,a0,cap0,rfl,hc,hn,hr⟩:=h.shape
 clear h hr
 have hk:Kept w ((w.alloc (.cells #[.int .i64 op,.int .i64 arg,.bool s,.slice x1 x2 x3,.slice x4 x5 x6,.string name,.slice a0 kids.length cap0] 27)).alloc (.cells #[.slice a n cap] 28)):=((Kept.refl w).alloc _).alloc _
 have hvs:=vars_good (hh.kept hk) (hT.kept hk) hok
 have hbx:=Blk.new (w.alloc (.cells #[.int .i64 op,.int .i64 arg,.bool s,.slice x1 x2 x3,.slice x4 x5 x6,.string name,.slice a0 kids.length cap0] 27)) #[.slice a n cap] 28
 have esz:(w.alloc (.cells #[.int .i64 op,.int .i64 arg,.bool s,.slice x1 x2 x3,.slice x4 x5 x6,.string name,.slice a0 kids.length cap0] 27)).heap.size=w.heap.size+1:=by simp[go_sem]
 rw[esz] at hbx
 clear esz hh hok
 have hmf:∀(fn:Fn)(first cap:Array Value)(w:World),(Instr.makeFunc fn first cap).run Tryz.prog w= .ok (.func fn first cap) w:=fun _ _ _ _=>rfl
 generalize Tree.node op arg s N D name kids=t at*
 go_enter Tryz.func78,Tryz.ntmps78
 go_wp2_with(first
  |(go_at_call 136;refine hvs.mono ?_;rintro e w1 ⟨a1,n1,c1,ts,rfl,hsl,hc1,hn1,hm,hk1⟩;have hkw:=hk.trans hk1;have hcb:=(hbx.kept hk1).facts1.1;have hct:=contains151_calls (cap:=c1) hsl (by omega) (bx:=w.heap.size+1) (p:=fun s=> !decide (0≤sideAt l 0 s)) (fun w' hk' s=>cov1_calls (hb.kept (hkw.trans hk')) (hk'.cell hcb) s);have HM:=Lib.hid hm;clear hm hsl)
  |(go_at_call 151;refine hct.mono ?_;rintro e w2 ⟨rfl,hk2⟩))
 go_ret
 exact⟨by rw[←covB_congr HM.out,←covB_any];rfl,hkw.trans hk2⟩
end
section
open Go Go.RowKit Go.Dig
open Go.Eng (Kept KW KeptB wp_region_kw kw_call)
structure CondD where
 t:Tree
 strict:Bool
def Cnm(w:World)(f:Nat)(a:Option Addr)(n cap:Nat)(l:List CondD):Prop:=
 n=l.length∧n≤cap∧n<4611686018427387904∧∀(i:Nat)(h:i<l.length),∃(b off:Nat)(o g:Int)(z:Bool)(x1:Option Addr)(x2 x3:Nat)(x4:Option Addr)(x5 x6:Nat)(nm:ByteArray)(a':Option Addr)(n' cap':Nat),
  a=some ⟨b,off,none⟩∧
  w.cell? ⟨b,off+i*8,none⟩=some (.int .i64 o)∧w.cell? ⟨b,off+i*8+1,none⟩=some (.int .i64 g)∧w.cell? ⟨b,off+i*8+2,none⟩=some (.bool z)∧
  w.cell? ⟨b,off+i*8+3,none⟩=some (.slice x1 x2 x3)∧w.cell? ⟨b,off+i*8+4,none⟩=some (.slice x4 x5 x6)∧w.cell? ⟨b,off+i*8+5,none⟩=some (.string nm)∧
  w.cell? ⟨b,off+i*8+6,none⟩=some (.slice a' n' cap')∧w.cell? ⟨b,off+i*8+7,none⟩=some (.bool l[i].strict)∧
  Ex w f (.agg #[.int .i64 o,.int .i64 g,.bool z,.slice x1 x2 x3,.slice x4 x5 x6,.string nm,.slice a' n' cap']) l[i].t
theorem Cnm.kept{w w':World}{f:Nat}{a:Option Addr}{n cap:Nat}{l:List CondD}(h:Cnm w f a n cap l)(k:Kept w w'):Cnm w' f a n cap l:=by
 obtain⟨hn,hc,hb,hi⟩:=h
 refine⟨hn,hc,hb,fun i h=> ?_⟩
 obtain⟨b,off,o,g,z,x1,x2,x3,x4,x5,x6,nm,a',n',cap',ha,h0,h1,h2,h3,h4,h5,h6,h7,he⟩:=hi i h
 exact⟨b,off,o,g,z,x1,x2,x3,x4,x5,x6,nm,a',n',cap',ha,k.cell h0,k.cell h1,k.cell h2,k.cell h3,k.cell h4,k.cell h5,k.cell h6,k.cell h7,he.kept k⟩
structure ClaimD where
 goal:Tree
 strict:Bool
 box:List SideD
 conds:List CondD
def Clm(w:World)(f:Nat)(v:Value)(c:ClaimD):Prop:=
 ∃(o g:Int)(z:Bool)(x1:Option Addr)(x2 x3:Nat)(x4:Option Addr)(x5 x6:Nat)(nm:ByteArray)(a0:Option Addr)(n0 cap0:Nat)(a1:Option Addr)(n1 cap1:Nat)(a2:Option Addr)(n2 cap2:Nat),
  v= .agg #[.int .i64 o,.int .i64 g,.bool z,.slice x1 x2 x3,.slice x4 x5 x6,.string nm,.slice a0 n0 cap0,.bool c.strict,.slice a1 n1 cap1,.slice a2 n2 cap2]∧
  Ex w f (.agg #[.int .i64 o,.int .i64 g,.bool z,.slice x1 x2 x3,.slice x4 x5 x6,.string nm,.slice a0 n0 cap0]) c.goal∧Bxm w a1 n1 cap1 c.box∧Cnm w f a2 n2 cap2 c.conds
theorem Clm.kept{w w':World}{f:Nat}{v:Value}{c:ClaimD}(h:Clm w f v c)(k:Kept w w'):Clm w' f v c:=by
 obtain⟨o,g,z,x1,x2,x3,x4,x5,x6,nm,a0,n0,cap0,a1,n1,cap1,a2,n2,cap2,rfl,h1,h2,h3⟩:=h
 exact⟨o,g,z,x1,x2,x3,x4,x5,x6,nm,a0,n0,cap0,a1,n1,cap1,a2,n2,cap2,rfl,h1.kept k,h2.kept k,h3.kept k⟩
def condOk(box:List SideD)(k:CondD):Bool:=k.t.ok&&covB box (varsT k.t)
def ClaimD.ok(c:ClaimD):Bool:=boxOk c.box&&decide (c.conds.length≤12)&&c.goal.ok&&covB c.box (varsT c.goal)&&c.conds.all (condOk c.box)
theorem ok_bad{c:ClaimD}{k:Nat}(hk:k<c.conds.length)(h:condOk c.box c.conds[k]=false):c.ok=false:=by
 unfold ClaimD.ok
 have:c.conds.all (condOk c.box)=false:=by
  rw[List.all_eq_false]
  exact⟨_,List.getElem_mem hk,by simp[h]⟩
 rw[this,Bool.and_false]
theorem ok_good{c:ClaimD}(h1:boxOk c.box=true)(h2:c.conds.length≤12)(h3:c.goal.ok=true)(h4:covB c.box (varsT c.goal)=true)(h:∀k,(hk:k<c.conds.length)→condOk c.box c.conds[k]=true):c.ok=true:=by
 unfold ClaimD.ok
 have:c.conds.all (condOk c.box)=true:=by
  rw[List.all_eq_true]
  intro x hx
  obtain⟨k,hk,rfl⟩:=List.getElem_of_mem hx
  exact h k hk
 rw[this,h1,h3,h4];simpa using h2
set_option maxHeartbeats 4000000 in
set_option maxRecDepth 100000 in
theorem cvalid_calls{f:Nat}{w:World}{v:Value}{c:ClaimD}(h:Clm w f v c)(hT:Laid w):
 Calls Tryz.prog 28 #[v] w fun e w'=>e= .returned (.bool c.ok)∧Kept w w':=by
 obtain⟨o,g,z,x1,x2,x3,x4,x5,x6,nm,a0,n0,cap0,a1,n1,cap1,a2,n2,cap2,rfl,hg,hb,hc⟩:=h
 have hk:Kept w (w.alloc (.cells #[.int .i64 o,.int .i64 g,.bool z,.slice x1 x2 x3,.slice x4 x5 x6,.string nm,.slice a0 n0 cap0,.bool c.strict,.slice a1 n1 cap1,.slice a2 n2 cap2] 31)):=(Kept.refl w).alloc _
 have hbx:=Blk.new w #[.int .i64 o,.int .i64 g,.bool z,.slice x1 x2 x3,.slice x4 x5 x6,.string nm,.slice a0 n0 cap0,.bool c.strict,.slice a1 n1 cap1,.slice a2 n2 cap2] 31
 have hbv:=evalid_calls (hb.kept hk) (hT.kept hk)
 have hgv:=fun(w':World)(k:Kept w w')=>pvalid_calls (hg.kept k) (hT.kept k)
 have hgc:=fun(w':World)(k:Kept w w')(ho:c.goal.ok=true)=>covered_calls (hg.kept k) (hT.kept k) ho (hb.kept k)
 have hn2:=hc.2.2.1
 have hce:n2=c.conds.length:=hc.1
 have HCE:=Lib.hid hce
 have HC:=Lib.hid hc;clear hc
 have HB:=Lib.hid hb;clear hb hg
 have HTT:=Lib.hid hT;clear hT
 clear hce
 have hn2':n2<4611686018427387904:=hn2
 cases hbo:boxOk c.box
 ·have HR:Hid (c.ok=false):=Lib.hid (by unfold ClaimD.ok;rw[hbo];rfl)
  rw[hbo] at hbv
  clear hgv hgc
  go_enter Tryz.func28,Tryz.ntmps28
  go_wp2_with(first|(go_at_call 76;refine hbv.mono ?_;rintro e w1 ⟨rfl,hk1⟩))
  go_ret
  exact⟨by rw[HR.out];rfl,hk.trans hk1⟩
 rw[hbo] at hbv
 by_cases hl:12<n2
 ·have HR:Hid (c.ok=false):=Lib.hid (by unfold ClaimD.ok;have:=HCE.out;rw[show decide (c.conds.length≤12)=false by simp;omega];simp)
  have t1:decide (12<(n2:Int))=true:=by simp;omega
  clear hgv hgc
  go_enter Tryz.func28,Tryz.ntmps28
  go_wp2_with(first|(go_at_call 76;refine hbv.mono ?_;rintro e w1 ⟨rfl,hk1⟩;obtain⟨e0,e1,e2,e3,e4,e5,e6,e7,e8,e9,-⟩:=(hbx.kept hk1).facts10))
  go_ret
  exact⟨by rw[HR.out];rfl,hk.trans hk1⟩
 have t1:decide (12<(n2:Int))=false:=by simp;omega
 cases hgo:c.goal.ok
 ·have HR:Hid (c.ok=false):=Lib.hid (by unfold ClaimD.ok;rw[hgo];simp)
  rw[hgo] at hgv
  clear hgc
  go_enter Tryz.func28,Tryz.ntmps28
  go_wp2_with(first
   |(go_at_call 76;refine hbv.mono ?_;rintro e w1 ⟨rfl,hk1⟩;obtain⟨e0,e1,e2,e3,e4,e5,e6,e7,e8,e9,-⟩:=(hbx.kept hk1).facts10)
   |(go_at_call 77;refine(hgv _ (hk.trans hk1)).mono ?_;rintro e w2 ⟨rfl,hk2⟩))
  go_ret
  exact⟨by rw[HR.out];rfl,(hk.trans hk1).trans hk2⟩
 rw[hgo] at hgv
 have hgc:=fun(w':World)(k:Kept w w')=>hgc w' k hgo
 cases hco:covB c.box (varsT c.goal)
 ·have HR:Hid (c.ok=false):=Lib.hid (by unfold ClaimD.ok;rw[hco];simp)
  rw[hco] at hgc
  go_enter Tryz.func28,Tryz.ntmps28
  go_wp2_with(first
   |(go_at_call 76;refine hbv.mono ?_;rintro e w1 ⟨rfl,hk1⟩;obtain⟨e0,e1,e2,e3,e4,e5,e6,e7,e8,e9,-⟩:=(hbx.kept hk1).facts10)
   |(go_at_call 77;refine(hgv _ (hk.trans hk1)).mono ?_;rintro e w2 ⟨rfl,hk2⟩;obtain⟨e0,e1,e2,e3,e4,e5,e6,e7,e8,e9,-⟩:=((hbx.kept hk1).kept hk2).facts10)
   |(go_at_call 78;refine(hgc _ ((hk.trans hk1).trans hk2)).mono ?_;rintro e w3 ⟨rfl,hk3⟩))
  go_ret
  exact⟨by rw[HR.out];rfl,((hk.trans hk1).trans hk2).trans hk3⟩
 rw[hco] at hgc
 go_enter Tryz.func28,Tryz.ntmps28
 go_wp2_with(first
  |(go_at_call 76;refine hbv.mono ?_;rintro e w1 ⟨rfl,hk1⟩;obtain⟨e0,e1,e2,e3,e4,e5,e6,e7,e8,e9,-⟩:=(hbx.kept hk1).facts10)
  |(go_at_call 77;refine(hgv _ (hk.trans hk1)).mono ?_;rintro e w2 ⟨rfl,hk2⟩;obtain⟨e0,e1,e2,e3,e4,e5,e6,e7,e8,e9,-⟩:=((hbx.kept hk1).kept hk2).facts10)
  |(go_at_call 78;refine(hgc _ ((hk.trans hk1).trans hk2)).mono ?_;rintro e w3 ⟨rfl,hk3⟩;obtain⟨e0,e1,e2,e3,e4,e5,e6,e7,e8,e9,-⟩:=(((hbx.kept hk1).kept hk2).kept hk3).facts10))
 have hk3w:=((hk.trans hk1).trans hk2).trans hk3
 have hbx3:=((hbx.kept hk1).kept hk2).kept hk3
 have HG:Hid (boxOk c.box=true∧c.goal.ok=true∧covB c.box (varsT c.goal)=true):=Lib.hid ⟨hbo,hgo,hco⟩
 clear hgc hgv hbv hbx hbo hgo hco hk1 hk2 hk
 go_loopw [32] (fun s wr=>∃k:Nat,k≤n2∧s= .int .i64 (k:Int)∧Hid (∀j,j<k→∀h,condOk c.box (c.conds[j]'h)=true)∧Kept w wr∧Kept w3 wr) (fun s _=>n2-(intOf s).toNat)
 case atStart=>exact⟨0,Nat.zero_le _,rfl,Lib.hid fun j hj=>absurd hj (Nat.not_lt_zero j),hk3w,Kept.refl _⟩
 case round=>
  obtain⟨k,hkn,rfl,HOK,hkw,hkw3⟩:=hrel
  by_cases hlt:k<n2
  ·have hlt':k<c.conds.length:=by have:=HCE.out;omega
   obtain⟨b,off,o',g',z',u1,u2,u3,u4,u5,u6,nm',a',n',cap',rfl,q0,q1,q2,q3,q4,q5,q6,q7,hex⟩:=HC.out.2.2.2 k hlt'
   replace q0:=hkw.cell q0
   replace q1:=hkw.cell q1
   replace q2:=hkw.cell q2
   replace q3:=hkw.cell q3
   replace q4:=hkw.cell q4
   replace q5:=hkw.cell q5
   replace q6:=hkw.cell q6
   replace q7:=hkw.cell q7
   have hk4:Kept wr (wr.alloc (.cells #[.int .i64 o',.int .i64 g',.bool z',.slice u1 u2 u3,.slice u4 u5 u6,.string nm',.slice a' n' cap',.bool c.conds[k].strict] 93)):=(Kept.refl wr).alloc _
   have hb4:=Blk.new wr #[.int .i64 o',.int .i64 g',.bool z',.slice u1 u2 u3,.slice u4 u5 u6,.string nm',.slice a' n' cap',.bool c.conds[k].strict] 93
   obtain⟨-,-,-,-,-,-,-,-,e8,-⟩:=(hbx3.kept (hkw3.trans hk4)).facts10
   have hpv:=pvalid_calls (hex.kept (hkw.trans hk4)) (HTT.out.kept (hkw.trans hk4))
   have hcv:=fun(w':World)(k':Kept w w')(ho:c.conds[k].t.ok=true)=>covered_calls (hex.kept k') (HTT.out.kept k') ho (HB.out.kept k')
   clear hex
   generalize hst:c.conds[k].strict=st at*
   have HST:=Lib.hid hst;clear hst
   cases hto:c.conds[k].t.ok
   ·rw[hto] at hpv
    have HR:Hid (c.ok=false):=Lib.hid (ok_bad hlt' (by unfold condOk;rw[hto];rfl))
    clear hcv hto
    go_wp2_with(first|(go_at_call 77;refine hpv.mono ?_;rintro e w5 ⟨rfl,hk5⟩))
    go_ret
    exact⟨by rw[HR.out];rfl,(hkw.trans hk4).trans hk5⟩
   rw[hto] at hpv
   have hcv:=fun(w':World)(k':Kept w w')=>hcv w' k' hto
   cases hcc:covB c.box (varsT c.conds[k].t)
   ·rw[hcc] at hcv
    have HR:Hid (c.ok=false):=Lib.hid (ok_bad hlt' (by unfold condOk;rw[hto,hcc];rfl))
    clear hto hcc
    go_wp2_with(first
     |(go_at_call 77;refine hpv.mono ?_;rintro e w5 ⟨rfl,hk5⟩;obtain⟨f0,f1,f2,f3,f4,f5,f6,-,-⟩:=(hb4.kept hk5).facts8;obtain⟨-,-,-,-,-,-,-,-,e8,-⟩:=(hbx3.kept ((hkw3.trans hk4).trans hk5)).facts10)
     |(go_at_call 78;refine(hcv _ ((hkw.trans hk4).trans hk5)).mono ?_;rintro e w6 ⟨rfl,hk6⟩))
    go_ret
    exact⟨by rw[HR.out];rfl,((hkw.trans hk4).trans hk5).trans hk6⟩
   ·rw[hcc] at hcv
    have HR:Hid (condOk c.box c.conds[k]=true):=Lib.hid (by unfold condOk;rw[hto,hcc];rfl)
    clear hto hcc
    go_wp2_with(first
     |(go_at_call 77;refine hpv.mono ?_;rintro e w5 ⟨rfl,hk5⟩;obtain⟨f0,f1,f2,f3,f4,f5,f6,-,-⟩:=(hb4.kept hk5).facts8;obtain⟨-,-,-,-,-,-,-,-,e8,-⟩:=(hbx3.kept ((hkw3.trans hk4).trans hk5)).facts10)
     |(go_at_call 78;refine(hcv _ ((hkw.trans hk4).trans hk5)).mono ?_;rintro e w6 ⟨rfl,hk6⟩))
    go_roundw
    case rel=>exact⟨k+1,by omega,by go_num,Lib.hid (fun j hj hl=>by
               by_cases h:j<k
               ·exact HOK.out j h hl
               ·obtain rfl:j=k:=by omega
                exact HR.out),((hkw.trans hk4).trans hk5).trans hk6,((hkw3.trans hk4).trans hk5).trans hk6⟩
    case measure=>simp[intOf];omega
  ·obtain rfl:n2=k:=by omega
   have HR:Hid (c.ok=true):=Lib.hid (ok_good HG.out.1 (by have:=HCE.out;omega) HG.out.2.1 HG.out.2.2 (fun j hj=>HOK.out j (by have:=HCE.out;omega) hj))
   go_wp2
   go_ret
   exact⟨by rw[HR.out];rfl,hkw⟩
end
section
open Go Go.RowKit Go.Dig
open Go.Eng (Kept KW KeptB wp_region_kw kw_call)
set_option maxHeartbeats 4000000 in
set_option maxRecDepth 100000 in
theorem r6valid_calls{f:Nat}{w:World}{v:Value}{c:ClaimD}(h:Clm w f v c)(hT:Laid w):
 Calls Tryz.prog 27 #[v] w fun e w'=>e= .returned (.bool c.ok)∧Kept w w':=by
 obtain⟨o,g,z,x1,x2,x3,x4,x5,x6,nm,a0,n0,cap0,a1,n1,cap1,a2,n2,cap2,rfl,hg,hb,hc⟩:=h
 have hk:Kept w (w.alloc (.cells #[.int .i64 o,.int .i64 g,.bool z,.slice x1 x2 x3,.slice x4 x5 x6,.string nm,.slice a0 n0 cap0,.bool c.strict,.slice a1 n1 cap1,.slice a2 n2 cap2] 31)):=(Kept.refl w).alloc _
 have hbx:=Blk.new w #[.int .i64 o,.int .i64 g,.bool z,.slice x1 x2 x3,.slice x4 x5 x6,.string nm,.slice a0 n0 cap0,.bool c.strict,.slice a1 n1 cap1,.slice a2 n2 cap2] 31
 have hgv:=rvalid_calls (hg.kept hk) (hT.kept hk)
 have hbv:=fun(w':World)(k:Kept w w')=>r5valid_calls (hb.kept k)
 have hgc:=fun(w':World)(k:Kept w w')(ho:c.goal.ok=true)=>rcovered_calls (hg.kept k) (Nat.le_trans (Tree.ok_nodes ho) (by decide)) (hb.kept k)
 have hn2:=hc.2.2.1
 have hce:n2=c.conds.length:=hc.1
 have HCE:=Lib.hid hce
 have HC:=Lib.hid hc;clear hc
 have HB:=Lib.hid hb;clear hb hg
 have HTT:=Lib.hid hT;clear hT
 clear hce
 have hn2':n2<4611686018427387904:=hn2
 cases hgo:c.goal.ok
 ·have HR:Hid (c.ok=false):=Lib.hid (by unfold ClaimD.ok;rw[hgo];simp)
  rw[hgo] at hgv
  clear hgc hbv
  go_enter Tryz.func27,Tryz.ntmps27
  go_wp2_with(first|(go_at_call 73;refine hgv.mono ?_;rintro e w1 ⟨rfl,hk1⟩))
  go_ret
  exact⟨by rw[HR.out];rfl,hk.trans hk1⟩
 rw[hgo] at hgv
 have hgc:=fun(w':World)(k:Kept w w')=>hgc w' k hgo
 cases hbo:boxOk c.box
 ·have HR:Hid (c.ok=false):=Lib.hid (by unfold ClaimD.ok;rw[hbo];rfl)
  rw[hbo] at hbv
  clear hgc
  go_enter Tryz.func27,Tryz.ntmps27
  go_wp2_with(first
   |(go_at_call 73;refine hgv.mono ?_;rintro e w1 ⟨rfl,hk1⟩;obtain⟨e0,e1,e2,e3,e4,e5,e6,e7,e8,e9,-⟩:=(hbx.kept hk1).facts10)
   |(go_at_call 74;refine(hbv _ (hk.trans hk1)).mono ?_;rintro e w2 ⟨rfl,hk2⟩))
  go_ret
  exact⟨by rw[HR.out];rfl,(hk.trans hk1).trans hk2⟩
 rw[hbo] at hbv
 by_cases hl:12<n2
 ·have HR:Hid (c.ok=false):=Lib.hid (by unfold ClaimD.ok;have:=HCE.out;rw[show decide (c.conds.length≤12)=false by simp;omega];simp)
  have t1:decide (12<(n2:Int))=true:=by simp;omega
  clear hgc
  go_enter Tryz.func27,Tryz.ntmps27
  go_wp2_with(first
   |(go_at_call 73;refine hgv.mono ?_;rintro e w1 ⟨rfl,hk1⟩;obtain⟨e0,e1,e2,e3,e4,e5,e6,e7,e8,e9,-⟩:=(hbx.kept hk1).facts10)
   |(go_at_call 74;refine(hbv _ (hk.trans hk1)).mono ?_;rintro e w2 ⟨rfl,hk2⟩;obtain⟨e0,e1,e2,e3,e4,e5,e6,e7,e8,e9,-⟩:=((hbx.kept hk1).kept hk2).facts10))
  go_ret
  exact⟨by rw[HR.out];rfl,(hk.trans hk1).trans hk2⟩
 have t1:decide (12<(n2:Int))=false:=by simp;omega
 cases hco:covB c.box (varsT c.goal)
 ·have HR:Hid (c.ok=false):=Lib.hid (by unfold ClaimD.ok;rw[hco];simp)
  rw[hco] at hgc
  go_enter Tryz.func27,Tryz.ntmps27
  go_wp2_with(first
   |(go_at_call 73;refine hgv.mono ?_;rintro e w1 ⟨rfl,hk1⟩;obtain⟨e0,e1,e2,e3,e4,e5,e6,e7,e8,e9,-⟩:=(hbx.kept hk1).facts10)
   |(go_at_call 74;refine(hbv _ (hk.trans hk1)).mono ?_;rintro e w2 ⟨rfl,hk2⟩;obtain⟨e0,e1,e2,e3,e4,e5,e6,e7,e8,e9,-⟩:=((hbx.kept hk1).kept hk2).facts10)
   |(go_at_call 75;refine(hgc _ ((hk.trans hk1).trans hk2)).mono ?_;rintro e w3 ⟨rfl,hk3⟩))
  go_ret
  exact⟨by rw[HR.out];rfl,((hk.trans hk1).trans hk2).trans hk3⟩
 rw[hco] at hgc
 go_enter Tryz.func27,Tryz.ntmps27
 go_wp2_with(first
  |(go_at_call 73;refine hgv.mono ?_;rintro e w1 ⟨rfl,hk1⟩;obtain⟨e0,e1,e2,e3,e4,e5,e6,e7,e8,e9,-⟩:=(hbx.kept hk1).facts10)
  |(go_at_call 74;refine(hbv _ (hk.trans hk1)).mono ?_;rintro e w2 ⟨rfl,hk2⟩;obtain⟨e0,e1,e2,e3,e4,e5,e6,e7,e8,e9,-⟩:=((hbx.kept hk1).kept hk2).facts10)
  |(go_at_call 75;refine(hgc _ ((hk.trans hk1).trans hk2)).mono ?_;rintro e w3 ⟨rfl,hk3⟩))
 have hk3w:=((hk.trans hk1).trans hk2).trans hk3
 have hbx3:=((hbx.kept hk1).kept hk2).kept hk3
 have HG:Hid (boxOk c.box=true∧c.goal.ok=true∧covB c.box (varsT c.goal)=true):=Lib.hid ⟨hbo,hgo,hco⟩
 clear hgc hgv hbv hbx hbo hgo hco hk1 hk2 hk
 go_loopw [3] (fun s wr=>∃k:Nat,k≤n2∧s= .int .i64 (k:Int)∧Hid (∀j,j<k→∀h,condOk c.box (c.conds[j]'h)=true)∧Kept w wr∧Kept w3 wr) (fun s _=>n2-(intOf s).toNat)
 case atStart=>exact⟨0,Nat.zero_le _,rfl,Lib.hid fun j hj=>absurd hj (Nat.not_lt_zero j),hk3w,Kept.refl _⟩
 case round=>
  obtain⟨k,hkn,rfl,HOK,hkw,hkw3⟩:=hrel
  obtain⟨-,-,-,-,-,-,-,-,e8,e9,-⟩:=(hbx3.kept hkw3).facts10
  by_cases hlt:k<n2
  ·have hlt':k<c.conds.length:=by have:=HCE.out;omega
   obtain⟨b,off,o',g',z',u1,u2,u3,u4,u5,u6,nm',a',n',cap',rfl,q0,q1,q2,q3,q4,q5,q6,q7,hex⟩:=HC.out.2.2.2 k hlt'
   have hpv:=fun(w':World)(k':Kept w w')=>rvalid_calls (hex.kept k') (HTT.out.kept k')
   have hcv:=fun(w':World)(k':Kept w w')(ho:c.conds[k].t.ok=true)=>rcovered_calls (hex.kept k') (Nat.le_trans (Tree.ok_nodes ho) (by decide)) (HB.out.kept k')
   clear hex q7
   go_wp2_with fail
   have z0:=fun(k:KW wr)=>k.kept.cell (hkw.cell q0)
   have z1:=fun(k:KW wr)=>k.kept.cell (hkw.cell q1)
   have z2:=fun(k:KW wr)=>k.kept.cell (hkw.cell q2)
   have z3:=fun(k:KW wr)=>k.kept.cell (hkw.cell q3)
   have z4:=fun(k:KW wr)=>k.kept.cell (hkw.cell q4)
   have z5:=fun(k:KW wr)=>k.kept.cell (hkw.cell q5)
   have z6:=fun(k:KW wr)=>k.kept.cell (hkw.cell q6)
   have y8:=fun(k:KW wr)=>k.kept.cell e8
   have y9:=fun(k:KW wr)=>k.kept.cell e9
   clear q0 q1 q2 q3 q4 q5 q6 e8 e9
   cases hto:c.conds[k].t.ok
   ·rw[hto] at hpv
    have HR:Hid (c.ok=false):=Lib.hid (ok_bad hlt' (by unfold condOk;rw[hto];rfl))
    clear hcv hto
    have hpv:=fun(k:KW wr)=>hpv k.w (hkw.trans k.kept)
    refine wp_region_kw wr (Kept.refl _) (by kernel_rfl) (by kernel_rfl) ?_
    repeat (go_big_quiet_step (first|(go_at_call 73;exact kw_call (hpv _))))
    refine wpQuiet_nil ?_
    rintro _ ⟨k2,rfl⟩
    go_wp2
    go_ret
    exact⟨by rw[HR.out];rfl,hkw.trans k2.kept⟩
   rw[hto] at hpv
   have hcv:=fun(k':KW wr)=>hcv k'.w (hkw.trans k'.kept) hto
   have hpv:=fun(k:KW wr)=>hpv k.w (hkw.trans k.kept)
   cases hcc:covB c.box (varsT c.conds[k].t)
   ·rw[hcc] at hcv
    have HR:Hid (c.ok=false):=Lib.hid (ok_bad hlt' (by unfold condOk;rw[hto,hcc];rfl))
    clear hto hcc
    refine wp_region_kw wr (Kept.refl _) (by kernel_rfl) (by kernel_rfl) ?_
    repeat (go_big_quiet_step (first|(go_at_call 73;exact kw_call (hpv _))|(go_at_call 75;exact kw_call (hcv _))))
    refine wpQuiet_nil ?_
    rintro _ ⟨k2,rfl⟩
    go_wp2
    go_ret
    exact⟨by rw[HR.out];rfl,hkw.trans k2.kept⟩
   ·rw[hcc] at hcv
    have HR:Hid (condOk c.box c.conds[k]=true):=Lib.hid (by unfold condOk;rw[hto,hcc];rfl)
    clear hto hcc
    refine wp_region_kw wr (Kept.refl _) (by kernel_rfl) (by kernel_rfl) ?_
    repeat (go_big_quiet_step (first|(go_at_call 73;exact kw_call (hpv _))|(go_at_call 75;exact kw_call (hcv _))))
    refine wpQuiet_nil ?_
    rintro _ ⟨k2,rfl⟩
    clear hpv hcv
    go_wp2
    go_roundw
    case rel=>exact⟨k+1,by omega,by go_num,Lib.hid (fun j hj hl=>by
               by_cases h:j<k
               ·exact HOK.out j h hl
               ·obtain rfl:j=k:=by omega
                exact HR.out),hkw.trans k2.kept,hkw3.trans k2.kept⟩
    case measure=>simp[intOf];omega
  ·obtain rfl:n2=k:=by omega
   have HR:Hid (c.ok=true):=Lib.hid (ok_good HG.out.1 (by have:=HCE.out;omega) HG.out.2.1 HG.out.2.2 (fun j hj=>HOK.out j (by have:=HCE.out;omega) hj))
   go_wp2
   go_ret
   exact⟨by rw[HR.out];rfl,hkw⟩
end
section
open Go Go.RowKit Go.Dig
open Go.Eng (Kept KW KeptB wp_region_kw kw_call)
theorem Clm.shape{w:World}{f:Nat}{v:Value}{c:ClaimD}(h:Clm w f v c):∃(o g:Int)(z:Bool)(x1:Option Addr)(x2 x3:Nat)(x4:Option Addr)(x5 x6:Nat)(nm:ByteArray)(a0:Option Addr)(n0 cap0:Nat)(a1:Option Addr)(n1 cap1:Nat)(a2:Option Addr)(n2 cap2:Nat),
 v= .agg #[.int .i64 o,.int .i64 g,.bool z,.slice x1 x2 x3,.slice x4 x5 x6,.string nm,.slice a0 n0 cap0,.bool c.strict,.slice a1 n1 cap1,.slice a2 n2 cap2]∧Bxm w a1 n1 cap1 c.box∧Cnm w f a2 n2 cap2 c.conds:=by
 obtain⟨o,g,z,x1,x2,x3,x4,x5,x6,nm,a0,n0,cap0,a1,n1,cap1,a2,n2,cap2,rfl,-,hb,hc⟩:=h
 exact⟨_,_,_,_,_,_,_,_,_,_,_,_,_,_,_,_,_,_,_,rfl,hb,hc⟩
def namedE(c:ClaimD)(nm:ByteArray):Int:=if c.ok=true then(if sideAt c.box 0 nm<0 then 51 else 0) else 60
set_option maxHeartbeats 2000000 in
set_option maxRecDepth 100000 in
theorem named_calls{f:Nat}{w:World}{v:Value}{c:ClaimD}(h:Clm w f v c)(hT:Laid w){b off cap:Nat}{nm:ByteArray}(hc:w.cell? ⟨b,off,none⟩=some (.string nm)):
 Calls Tryz.prog 59 #[v,.slice (some ⟨b,off,none⟩) 1 cap] w fun e w'=>e= .returned (.int .i64 (namedE c nm))∧Kept w w':=by
 have hh:=h
 obtain⟨o,g,z,x1,x2,x3,x4,x5,x6,nm',a0,n0,cap0,a1,n1,cap1,a2,n2,cap2,rfl,hb,-⟩:=h.shape
 have hk:Kept w (w.alloc (.cells #[.int .i64 o,.int .i64 g,.bool z,.slice x1 x2 x3,.slice x4 x5 x6,.string nm',.slice a0 n0 cap0,.bool c.strict,.slice a1 n1 cap1,.slice a2 n2 cap2] 31)):=(Kept.refl w).alloc _
 have hbx:=Blk.new w #[.int .i64 o,.int .i64 g,.bool z,.slice x1 x2 x3,.slice x4 x5 x6,.string nm',.slice a0 n0 cap0,.bool c.strict,.slice a1 n1 cap1,.slice a2 n2 cap2] 31
 have hv:=cvalid_calls (hh.kept hk) (hT.kept hk)
 have hs:=fun(w':World)(k:Kept w w')=>side_calls (hb.kept k) nm
 clear hh h hb hT
 cases ho:c.ok
 ·have HR:Hid (namedE c nm=60):=Lib.hid (by unfold namedE;rw[ho];rfl)
  rw[ho] at hv
  clear hs
  go_enter Tryz.func59,Tryz.ntmps59
  go_wp2_with(first|(go_at_call 28;refine hv.mono ?_;rintro e w1 ⟨rfl,hk1⟩))
  go_ret
  exact⟨by rw[HR.out];rfl,hk.trans hk1⟩
 rw[ho] at hv
 have HY:Hid (∃y,sideAt c.box 0 nm=y):=Lib.hid ⟨_,rfl⟩
 obtain⟨y,hy⟩:=HY.out
 clear HY
 have HR:Hid (namedE c nm=if y<0 then 51 else 0):=Lib.hid (by unfold namedE;rw[ho,hy,if_pos rfl])
 rw[hy] at hs
 clear hy ho
 have c1:=fun(w':World)(k:Kept w w')=>k.cell hc
 go_enter Tryz.func59,Tryz.ntmps59
 go_wp2_with(first|(go_at_call 28;refine hv.mono ?_;rintro e w1 ⟨rfl,hk1⟩))
 have hkw:=hk.trans hk1
 obtain⟨e0,e1,e2,e3,e4,e5,e6,e7,e8,e9,-⟩:=(hbx.kept hk1).facts10
 have hc1:=hkw.cell hc
 have hs1:=hs _ hkw
 clear c1 hs
 go_loopw [12] (fun s wr=>(s= .int .i64 0∧wr=w1)∨(s= .int .i64 1∧Kept w1 wr∧Hid (0≤y))) (fun s _=>1-(intOf s).toNat)
 case atStart=>exact .inl ⟨rfl,rfl⟩
 case round=>
  rcases hrel with⟨rfl,rfl⟩|⟨rfl,hk2,HN⟩
  ·by_cases hlt:y<0
   ·have t1:decide (y<0)=true:=by simpa using hlt
    rw[if_pos hlt] at HR
    clear hlt
    go_wp2_with(first|(go_at_call 134;refine hs1.mono ?_;rintro e w2 ⟨rfl,hk2⟩))
    go_ret
    exact⟨by rw[HR.out];rfl,hkw.trans hk2⟩
   ·have t1:decide (y<0)=false:=by simpa using hlt
    have HN:Hid (0≤y):=Lib.hid (by omega)
    clear hlt
    go_wp2_with(first|(go_at_call 134;refine hs1.mono ?_;rintro e w2 ⟨rfl,hk2⟩))
    go_roundw
    case rel=>exact .inr ⟨rfl,hk2,HN⟩
    case measure=>simp[intOf]
  ·rw[if_neg (by have:=HN.out;omega)] at HR
   clear hs1
   go_wp2
   go_ret
   exact⟨by rw[HR.out];rfl,hkw.trans hk2⟩
set_option maxHeartbeats 2000000 in
set_option maxRecDepth 100000 in
theorem rnamed_calls{f:Nat}{w:World}{v:Value}{c:ClaimD}(h:Clm w f v c)(hT:Laid w)(nm:ByteArray):
 Calls Tryz.prog 63 #[v,.string nm] w fun e w'=>e= .returned (.int .i64 (namedE c nm))∧Kept w w':=by
 have hh:=h
 obtain⟨o,g,z,x1,x2,x3,x4,x5,x6,nm',a0,n0,cap0,a1,n1,cap1,a2,n2,cap2,rfl,hb,-⟩:=h.shape
 have hk:Kept w (w.alloc (.cells #[.int .i64 o,.int .i64 g,.bool z,.slice x1 x2 x3,.slice x4 x5 x6,.string nm',.slice a0 n0 cap0,.bool c.strict,.slice a1 n1 cap1,.slice a2 n2 cap2] 31)):=(Kept.refl w).alloc _
 have hbx:=Blk.new w #[.int .i64 o,.int .i64 g,.bool z,.slice x1 x2 x3,.slice x4 x5 x6,.string nm',.slice a0 n0 cap0,.bool c.strict,.slice a1 n1 cap1,.slice a2 n2 cap2] 31
 have hv:=r6valid_calls (hh.kept hk) (hT.kept hk)
 have hs:=fun(w':World)(k:Kept w w')=>rside_calls (hb.kept k) nm
 clear hh h hb hT
 cases ho:c.ok
 ·have HR:Hid (namedE c nm=60):=Lib.hid (by unfold namedE;rw[ho];rfl)
  rw[ho] at hv
  clear hs
  go_enter Tryz.func63,Tryz.ntmps63
  go_wp2_with(first|(go_at_call 27;refine hv.mono ?_;rintro e w1 ⟨rfl,hk1⟩))
  go_ret
  exact⟨by rw[HR.out];rfl,hk.trans hk1⟩
 rw[ho] at hv
 have HY:Hid (∃y,sideAt c.box 0 nm=y):=Lib.hid ⟨_,rfl⟩
 obtain⟨y,hy⟩:=HY.out
 clear HY
 have HR:Hid (namedE c nm=if y<0 then 51 else 0):=Lib.hid (by unfold namedE;rw[ho,hy,if_pos rfl])
 rw[hy] at hs
 clear hy ho
 by_cases hlt:y<0
 ·have t1:decide (y<0)=true:=by simpa using hlt
  rw[if_pos hlt] at HR
  clear hlt
  go_enter Tryz.func63,Tryz.ntmps63
  go_wp2_with(first|(go_at_call 27;refine hv.mono ?_;rintro e w1 ⟨rfl,hk1⟩;obtain⟨e0,e1,e2,e3,e4,e5,e6,e7,e8,e9,-⟩:=(hbx.kept hk1).facts10)|(go_at_call 83;refine(hs _ (hk.trans hk1)).mono ?_;rintro e w2 ⟨rfl,rfl⟩))
  go_ret
  exact⟨by rw[HR.out];rfl,hk.trans hk1⟩
 ·have t1:decide (y<0)=false:=by simpa using hlt
  rw[if_neg hlt] at HR
  clear hlt
  go_enter Tryz.func63,Tryz.ntmps63
  go_wp2_with(first|(go_at_call 27;refine hv.mono ?_;rintro e w1 ⟨rfl,hk1⟩;obtain⟨e0,e1,e2,e3,e4,e5,e6,e7,e8,e9,-⟩:=(hbx.kept hk1).facts10)|(go_at_call 83;refine(hs _ (hk.trans hk1)).mono ?_;rintro e w2 ⟨rfl,rfl⟩))
  go_ret
  exact⟨by rw[HR.out];rfl,hk.trans hk1⟩
end
section
open Go Go.RowKit Go.Dig
open Go.Eng (Kept KW KeptB wp_region_kw kw_call)
end
end Go.Proofs.YtbapfnpbamnmpaaGreatDoor
