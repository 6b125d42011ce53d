/- A part of the proof that ClaimBranches answers true for every input of bulk at most 1048576: conditions: the row's own. -/
import Derived.Test.YtbapfnpbamnmpaaGreatDoorTi
import Derived.Maps.OwnSet
import Derived.Test.YtbapfnpbamnmpaaGreatDoorTd
namespace Go.Proofs.YtbapfnpbamnmpaaGreatDoor
open Go.Eng (Kept KW KeptB)
section
open Go Go.RowKit Go.Dig Go.Shelf Go.Maps Go.Sort
attribute [local go_sem] Oper.semAt_some
theorem strKeys_size{H:Type}(D:DataW H):(strKeys D).length=Maps.size D:=by
 cases D<;>simp[strKeys,Maps.size]
theorem sorted_mem{H:Type}{ss:List (List UInt8)}{L:List Nv}(hS:ss.Perm (strKeys (seenD (H:=H) L)))(z:ByteArray):
 z∈((ss.mergeSort fun x y=>decide (x≤y)).map fun l=>(⟨l.toArray⟩:ByteArray))↔z∈namesOf L:=by
 rw[List.mem_map]
 constructor
 ·rintro⟨l,hl,rfl⟩
  have h1:=(seenD_keys L l).1 (hS.mem_iff.1 ((List.mergeSort_perm ss _).mem_iff.1 hl))
  obtain⟨s,hs,rfl⟩:=List.mem_map.1 h1
  exact hs
 ·intro hz
  refine⟨z.data.toList,(List.mergeSort_perm ss _).mem_iff.2 (hS.mem_iff.2 ((seenD_keys L _).2 (List.mem_map.2 ⟨z,hz,rfl⟩))),rfl⟩
theorem key_string{s:ByteArray}(h:s.size≤8):keyOf Tryz.prog 9 (.string s)=some (.string s.data.toList):=by
 have h2:s.data.size≤8:=h
 simp[keyOf,Tryz.underlying9,mapKey]
 exact Nat.le_trans h2 (by unfold maxLen;decide)
set_option maxHeartbeats 1000000 in
set_option maxRecDepth 100000 in
theorem vars_good{f:Nat}{w:World}{v:Value}{t:Tree}(h:Ex w f v t)(hT:Laid w)(hok:t.ok=true):
 Calls Tryz.prog 136 #[v] w fun e w'=>∃a n cap ts,e= .returned (.tuple #[.slice a n cap,.int .i64 0])∧SL w' a n ts∧n≤cap∧n≤300∧(∀x,x∈ts↔x∈varsT t)∧Kept w w':=by
 obtain⟨x,L,rfl,hL,hlen,hnm⟩:=lst_of f h (Tree.ok_good hok)
 have hlen:L.length≤300:=by have:=Tree.ok_nodes hok;omega
 have hmm:= @run_makeMap Tryz.prog
 have hk:Kept w (w.alloc (.cells #[.int .i64 x.op,.int .i64 x.arg,.bool x.s,.slice x.x1 x.x2 x.x3,.slice x.x4 x.x5 x.x6,.string x.name,.slice x.a x.n x.cap] 27)):=(Kept.refl w).alloc _
 have hv:=pvalid_calls (h.kept hk) (hT.kept hk)
 have hbx0:=Blk.new w #[.int .i64 x.op,.int .i64 x.arg,.bool x.s,.slice x.x1 x.x2 x.x3,.slice x.x4 x.x5 x.x6,.string x.name,.slice x.a x.n x.cap] 27
 rw[hok] at hv
 clear h hok
 dsimp only[Nv.val] at hv⊢
 refine(callsIn_wide (n:=6)).1 ?_
 refine callsIn_of_wp_marks Tryz.func136 rfl trivial ?_ rfl
 simp only[Tryz.ntmps136,List.size_toArray,List.length_cons,List.length_nil,Nat.reduceAdd,Nat.reduceSub,Array.replicate_succ,Array.replicate_zero,List.push_toArray,List.append_toArray,List.nil_append,List.cons_append]
 gi_wp2_with (first
  |(refine⟨trivial,?_⟩;gi_at_call 77;refine(callsIn_wide.2 hv).mono ?_;rintro e w1 ⟨rfl,hk1⟩;obtain⟨c0,c1,c2,c3,c4,c5,c6,-⟩:=(hbx0.kept (hk1.trans (((Kept.refl w1).alloc (.map #[] 0)).alloc (.cells #[.map (some w1.heap.size)] 291)))).facts7)
  |(refine⟨trivial,?_⟩;gi_at_call 229;refine(nodes_in Fence.wide _ trivial rfl x _).mono ?_;rintro e w2 ⟨rfl,rfl⟩))
 have hbl:=(Blk.new ((w1.alloc (.map #[] 0)).alloc (.cells #[.map (some w1.heap.size)] 291)) #[.int .i64 x.op,.int .i64 x.arg,.bool x.s,.slice x.x1 x.x2 x.x3,.slice x.x4 x.x5 x.x6,.string x.name,.slice x.a x.n x.cap] 27)
 have hm0:=((World.ownsMap_made w1 Tryz.prog 9 (plainElem (H:=Nat) Tryz.prog 4)).alloc (.cells #[.map (some w1.heap.size)] 291)).alloc (.cells #[.int .i64 x.op,.int .i64 x.arg,.bool x.s,.slice x.x1 x.x2 x.x3,.slice x.x4 x.x5 x.x6,.string x.name,.slice x.a x.n x.cap] 27)
 have hbm:=(Boxed.new (w1.alloc (.map #[] 0)) 291 (.map (some w1.heap.size))).alloc (.cells #[.int .i64 x.op,.int .i64 x.arg,.bool x.s,.slice x.x1 x.x2 x.x3,.slice x.x4 x.x5 x.x6,.string x.name,.slice x.a x.n x.cap] 27)
 simp only[World.size_alloc] at hbl hbm
 have hkW:Kept w1 (((w1.alloc (.map #[] 0)).alloc (.cells #[.map (some w1.heap.size)] 291)).alloc (.cells #[.int .i64 x.op,.int .i64 x.arg,.bool x.s,.slice x.x1 x.x2 x.x3,.slice x.x4 x.x5 x.x6,.string x.name,.slice x.a x.n x.cap] 27)):=(((Kept.refl w1).alloc _).alloc _).alloc _
 have hszW:(((w1.alloc (.map #[] 0)).alloc (.cells #[.map (some w1.heap.size)] 291)).alloc (.cells #[.int .i64 x.op,.int .i64 x.arg,.bool x.s,.slice x.x1 x.x2 x.x3,.slice x.x4 x.x5 x.x6,.string x.name,.slice x.a x.n x.cap] 27)).heap.size=w1.heap.size+3:=by simp
 obtain⟨W0,hW0⟩:∃W0,((w1.alloc (.map #[] 0)).alloc (.cells #[.map (some w1.heap.size)] 291)).alloc (.cells #[.int .i64 x.op,.int .i64 x.arg,.bool x.s,.slice x.x1 x.x2 x.x3,.slice x.x4 x.x5 x.x6,.string x.name,.slice x.a x.n x.cap] 27)=W0:=⟨_,rfl⟩
 rw[hW0] at hbl hm0 hbm hkW hszW⊢
 clear hW0
 have hkw0:=(hk.trans hk1).trans hkW
 have hsz1:=(hk.trans hk1).size
 generalize hbmE:w1.heap.size=bm at*
 have hB0:Below w.heap.size w W0:=below_of_kept hkw0
 have hszw:=hkw0.size
 refine wpIn_rangeFunc_ownH rfl (by omega) (gf:=311) (lb:=#[.pointer (some ⟨bm+1+1,0,none⟩)]) rfl trivial (enters_of Tryz.func311 (by kernel_rfl) rfl)
  (nodes_stops Fence.wide rfl 5 trivial trivial rfl (bm+1+1) w f x L hL W0 hB0 hbl) (fun h k=>h.trans k) (fun W l o o' hl h ho _=>kc_putObj W l o o' (by omega) h ho) (Below.refl _ _) (fun _=>rfl)
  (fun pre W=>(Boxed W (bm+1) 291 (.map (some bm))∧∃nn,nn≤pre.length∧W.ownsMap Tryz.prog 9 (plainElem (H:=Nat) Tryz.prog 4) bm nn (seenD pre))∧Below w.heap.size w W)
  (fun _ _ _=>False)
  (OwnFrom.and (OwnFrom.and (Own.from (boxed_own _ _ _) _) (fun s X Y row hs hg hr=>by obtain⟨nn,h1,h2⟩:=hs;exact⟨nn,h1,h2.kept hg (fun e=>by have:=(hr _ e.symm).1;omega)⟩)) (ownFrom_below (Nat.le_refl _) (by omega)))
  (fun _ _ _ _ _ hs _ _=>hs)
  ⟨⟨hbm,0,Nat.le_refl _,hm0⟩,hB0⟩
  (fun y a' W=>∃Bx,Blk W Bx #[.int .i64 y.op,.int .i64 y.arg,.bool y.s,.slice y.x1 y.x2 y.x3,.slice y.x4 y.x5 y.x6,.string y.name,.slice y.a y.n y.cap] 27∧a'={tmps:=#[Value.agg #[Value.int IntKind.i64 x.op,Value.int IntKind.i64 x.arg,Value.bool x.s,Value.slice x.x1 x.x2 x.x3,Value.slice x.x4 x.x5 x.x6,Value.string x.name,Value.slice x.a x.n x.cap],Value.pointer (some {block:=w.heap.size,off:=0}),Value.slice none 0 0,Value.int IntKind.i64 0,Value.pointer (some {block:=bm+1,off:=0}),Value.pointer (some {block:=Bx,off:=0}),Value.agg #[Value.int IntKind.i64 x.op,Value.int IntKind.i64 x.arg,Value.bool x.s,Value.slice x.x1 x.x2 x.x3,Value.slice x.x4 x.x5 x.x6,Value.string x.name,Value.slice x.a x.n x.cap],Value.bool true,Value.bool false,Value.map (some bm),Value.agg #[Value.int IntKind.i64 x.op,Value.int IntKind.i64 x.arg,Value.bool x.s,Value.slice x.x1 x.x2 x.x3,Value.slice x.x4 x.x5 x.x6,Value.string x.name,Value.slice x.a x.n x.cap],Value.func (Fn.func 311) #[] #[Value.pointer (some {block:=bm+1+1,off:=0})],Value.agg #[.int .i64 y.op,.int .i64 y.arg,.bool y.s,.slice y.x1 y.x2 y.x3,.slice y.x4 y.x5 y.x6,.string y.name,.slice y.a y.n y.cap],undef,undef,undef,undef,undef,undef,undef,undef,undef],defers:=[]})
  (fun y a' _ X Y row hs hg hr=>by
    obtain⟨Bx,h1,h2⟩:=hs
    refine⟨Bx,(hg.block Bx h1.lt (fun e=> ?_)).trans h1,h2⟩
    obtain⟨_,o,ho,hc⟩:=hr Bx e.symm
    rw[show X.heap[Bx]? =_ from h1] at ho;cases ho;cases hc)
  ?assign ?body ?done ?stop
 case assign=>
  rintro l pre y W K ⟨⟨hb1,nn,hnn,hown⟩,hB1⟩ hK
  dsimp only[Nv.val]
  gi_wp2
  exact hK _ _ ((KeepsOthers.alloc _ _).from _) ((KC.refl _ W).alloc hB1.size _) ⟨⟨hb1.alloc _,nn,hnn,hown.alloc _⟩,hB1.alloc hB1.size _⟩ ⟨W.heap.size,Blk.new W _ 27,rfl⟩
 case body=>
  rintro l pre y a' W hl- ⟨⟨hb1,nn,hnn,hown⟩,hB1⟩ ⟨Bx,hby,rfl⟩ hlt
  obtain⟨c0,-,-,-,-,c5,-,-⟩:=hby.facts7
  have cb:=hb1.cell
  have HS:=Lib.hid (seenD_snoc (H:=Nat) pre y)
  have HSH:=Lib.hid y.short
  by_cases h2:y.op=2
  ·rw[h2] at c0
   have HSE:Hid (seenD (H:=Nat) (pre++[y])=(seenD pre).put (.string y.name.data.toList) (.lit (.bool true))):=Lib.hid (by rw[HS.out,if_pos h2])
   clear h2
   gi_wp2_with (gi_at_mapUpdate;refine wpListIn_mapUpdate_own _ rfl _ _ _ 291 rfl 9 4 (Maps.string_keyed Tryz.underlying9) Tryz.underlying291 _ bm nn _ rfl hown (by unfold maxLen;omega) _ _ _ rfl rfl (key_string HSH.out) _ [] (plainElem_bool Tryz.underlying4 true) ?_;intro w2 hown2 hgrow2)
   have hmc:∀o,W.heap[bm]? =some o→o.isCells=false:=by
    obtain⟨es,ck,hh,_⟩:=hown
    intro o ho
    rw[hh] at ho;cases ho;rfl
   have hBw:Below w.heap.size W w2:=(Below.refl _ W).grown hgrow2 hB1.size (fun k e=>by cases e;omega)
   have hbmlt:=hown.lt
   refine⟨KeepsFrom.of_grownBy hgrow2 (fun j e=>by cases e;omega),⟨hBw,fun b o hb hc=> ?_⟩,⟨⟨hb1.kept hgrow2 (fun e=>by cases e),nn+1,by simp only[List.length_append,List.length_cons,List.length_nil];omega,by rw[HSE.out];exact hown2⟩,hB1.trans hBw⟩⟩
   refine(hgrow2.block b (Array.getElem?_eq_some_iff.1 hb).1 (fun e=> ?_)).trans hb
   cases e
   rw[hmc o hb] at hc;cases hc
  ·have t2:(y.op==2)=false:=by simpa using h2
   have HSE:Hid (seenD (H:=Nat) (pre++[y])=seenD pre):=Lib.hid (by rw[HS.out,if_neg h2])
   gi_wp2
   exact⟨KeepsFrom.refl _ _,KC.refl _ _,⟨⟨hb1,nn,by simp only[List.length_append,List.length_cons,List.length_nil];omega,by rw[HSE.out];exact hown⟩,hB1⟩⟩
 case done=>
  rintro D ys W hD rfl ⟨⟨hb1,nn,hnn,hown⟩,hB1⟩ hK
  have cb:=hb1.cell
  have hsz:Maps.size (seenD (H:=Nat) ys)≤300:=by have:=hown.size_le;omega
  have cS:=sorted_calls bm nn _ _ W hown (by unfold maxLen;omega) (by omega)
  gi_wp2_with (first
   |(refine⟨trivial,?_⟩;gi_at_call 231;refine(keys_calls _ _ _).mono ?_;rintro e w2 ⟨rfl,rfl⟩)
   |(refine⟨trivial,?_⟩;gi_at_call 230;refine cS.mono ?_;rintro e w2 ⟨v,ss,rfl,hS,hrow,hb2⟩))
  have hDlt:D<W.heap.size:=(Array.getElem?_eq_some_iff.1 hK).1
  have hK2:w2.heap[D]? =some (.deferred (some [])):=(hb2.block D hDlt).trans hK
  have hsp:Sp w2 W.heap.size v ss.length (ss.mergeSort (fun x y=>decide (x≤y)) |>.map fun l=>⟨l.toArray⟩):=by
   unfold Sp
   rw[List.map_map]
   exact hrow
  have hsp':Sp (w2.putObj D (.deferred none)) W.heap.size v ss.length (ss.mergeSort (fun x y=>decide (x≤y)) |>.map fun l=>⟨l.toArray⟩):=ownsRow_putObj hsp _ hK2 rfl
  obtain⟨a,cap,rfl,hcap,hsl⟩:=hsp'.open
  refine⟨by simp,.inl ⟨_,_,rfl,run_takeDeferred hK2,?_⟩⟩
  refine⟨.tuple #[.slice a ss.length cap,.int .i64 0],by simp[results,Tryz.f136,go_sem],a,_,cap,_,rfl,hsl,hcap,?_,fun z=> ?_,?_⟩
  ·rw[hS.length_eq,strKeys_size];exact hsz
  ·rw[←hnm]
   exact sorted_mem hS z
  ·exact kept_of_below ((hB1.trans (hb2.mono hB1.size)).trans (belowK_b (w:=w) (Nat.le_refl _) w2 D _ _ (by omega) hK2 rfl rfl))
 case stop=>
  rintro D c pre W _ _ h _
  exact h.elim
end
section
open Go Go.RowKit Go.Dig
def ixOf(p:ByteArray→Bool):List ByteArray→Nat→Int
 |[],_=> -1
 |s::r,k=>if p s=true then(k:Int) else ixOf p r (k+1)
theorem ixOf_any(p:ByteArray→Bool):∀(l:List ByteArray)(k:Nat),decide (0≤ixOf p l k)=l.any p
 |[],_=>by simp[ixOf]
 |s::r,k=>by
  rw[ixOf,List.any_cons]
  cases h:p s
  ·rw[if_neg (by simp),ixOf_any p r (k+1),Bool.false_or]
  ·rw[if_pos rfl,Bool.true_or];simp
theorem ixOf_drop(p:ByteArray→Bool){l:List ByteArray}{k:Nat}(h:k<l.length):ixOf p (l.drop k) k=if p l[k]=true then(k:Int) else ixOf p (l.drop (k+1)) (k+1):=by
 rw[List.drop_eq_getElem_cons h,ixOf]
theorem ixOf_end(p:ByteArray→Bool)(l:List ByteArray):ixOf p (l.drop l.length) l.length= -1:=by simp[ixOf]
set_option maxHeartbeats 1000000 in
theorem cov1_calls{w:World}{bx:Nat}{a:Option Addr}{n cap:Nat}{l:List SideD}(hb:Bxm w a n cap l)(hc:w.cell? ⟨bx,0,none⟩=some (.slice a n cap))(s:ByteArray):
 Calls Tryz.prog 152 #[.string s,.pointer (some ⟨bx,0,none⟩)] w fun e w'=>e= .returned (.bool (!decide (0≤sideAt l 0 s)))∧Kept w w':=by
 have hs:=side_calls hb s
 clear hb
 have HY:Hid (∃y,sideAt l 0 s=y):=Lib.hid ⟨_,rfl⟩
 obtain⟨y,hy⟩:=HY.out
 rw[hy] at hs⊢
 clear hy HY
 by_cases h:y<0
 ·have t1:decide (y<0)=true:=by simpa using h
  have HR:Hid ((!decide (0≤y))=true):=Lib.hid (by simp;exact h)
  go_enter Tryz.func152,Tryz.ntmps152
  go_wp2_with(go_at_call 134;refine hs.mono ?_;rintro e w1 ⟨rfl,hk1⟩)
  go_ret
  exact⟨by rw[HR.out];rfl,hk1⟩
 ·have t1:decide (y<0)=false:=by simpa using h
  have HR:Hid ((!decide (0≤y))=false):=Lib.hid (by simp;omega)
  go_enter Tryz.func152,Tryz.ntmps152
  go_wp2_with(go_at_call 134;refine hs.mono ?_;rintro e w1 ⟨rfl,hk1⟩)
  go_ret
  exact⟨by rw[HR.out];rfl,hk1⟩
theorem SL.at{w:World}{a:Option Addr}{n:Nat}{ss:List ByteArray}(h:SL w a n ss){k:Nat}(hk:k<ss.length):∃b off,a=some ⟨b,off,none⟩∧w.cell? ⟨b,off+k,none⟩=some (.string ss[k]):=by
 obtain⟨hn,⟨rfl,rfl⟩|⟨b,off,rfl,hc⟩⟩:=h
 ·omega
 ·exact⟨b,off,rfl,hc k hk⟩
set_option maxHeartbeats 1000000 in
set_option maxRecDepth 100000 in
theorem index245_calls{w:World}{a:Option Addr}{n cap:Nat}{ss:List ByteArray}(h:SL w a n ss)(hn0:n≤100000){bx:Nat}{p:ByteArray→Bool}
 (hp:∀w',Kept w w'→∀s,Calls Tryz.prog 152 #[.string s,.pointer (some ⟨bx,0,none⟩)] w' fun e w''=>e= .returned (.bool (p s))∧Kept w' w''):
 Calls Tryz.prog 245 #[.slice a n cap,.func (.func 152) #[] #[.pointer (some ⟨bx,0,none⟩)]] w fun e w'=>e= .returned (.int .i64 (ixOf p ss 0))∧Kept w w':=by
 have hn:=h.1
 have H:=Lib.hid h;clear h
 subst hn
 go_enter Tryz.func245,Tryz.ntmps245
 go_wp2
 go_loopw [8] (fun s wr=>∃k:Nat,k≤ss.length∧s= .int .i64 (k:Int)∧ixOf p (ss.drop k) k=ixOf p ss 0∧Kept w wr) (fun s _=>ss.length-(intOf s).toNat)
 case atStart=>exact⟨0,Nat.zero_le _,rfl,rfl,Kept.refl w⟩
 case round=>
  obtain⟨k,hk,rfl,ht,hkw⟩:=hrel
  have HT:=Lib.hid ht;clear ht
  by_cases hlt:k<ss.length
  ·obtain⟨b,off,rfl,h0⟩:=H.out.at hlt
   have hs:=Lib.hid (ixOf_drop p hlt)
   replace h0:=hkw.cell h0
   have hcl:=hp _ hkw ss[k]
   clear hp
   cases hq:p ss[k]
   ·rw[hq] at hcl
    go_wp2_with(go_at_call 152;refine hcl.mono ?_;rintro e w1 ⟨rfl,hk1⟩)
    go_roundw
    case rel=>exact⟨k+1,by omega,by go_num,by rw[←HT.out,hs.out,hq];rfl,hkw.trans hk1⟩
    case measure=>simp[intOf];omega
   ·rw[hq] at hcl
    go_wp2_with(go_at_call 152;refine hcl.mono ?_;rintro e w1 ⟨rfl,hk1⟩)
    go_ret
    exact⟨by rw[←HT.out,hs.out,hq];rfl,hkw.trans hk1⟩
  ·obtain rfl:ss.length=k:=by omega
   clear hp
   go_wp2
   go_ret
   exact⟨by rw[←HT.out,ixOf_end];rfl,hkw⟩
set_option maxHeartbeats 1000000 in
theorem contains151_calls{w:World}{a:Option Addr}{n cap:Nat}{ss:List ByteArray}(h:SL w a n ss)(hn0:n≤100000){bx:Nat}{p:ByteArray→Bool}
 (hp:∀w',Kept w w'→∀s,Calls Tryz.prog 152 #[.string s,.pointer (some ⟨bx,0,none⟩)] w' fun e w''=>e= .returned (.bool (p s))∧Kept w' w''):
 Calls Tryz.prog 151 #[.slice a n cap,.func (.func 152) #[] #[.pointer (some ⟨bx,0,none⟩)]] w fun e w'=>e= .returned (.bool (ss.any p))∧Kept w w':=by
 have hi:=index245_calls (cap:=cap) h hn0 hp
 clear h hp
 rw[←ixOf_any p ss 0]
 generalize ixOf p ss 0=y at*
 go_enter Tryz.func151,Tryz.ntmps151
 go_wp2_with(go_at_call 245;refine hi.mono ?_;rintro e w1 ⟨rfl,hk1⟩)
 go_ret
 exact⟨rfl,hk1⟩
theorem covB_any(l:List SideD)(vs:List ByteArray):(!vs.any fun s=> !decide (0≤sideAt l 0 s))=covB l vs:=by
 induction vs with
 |nil=>rfl
 |cons x xs ih=>
  unfold covB at*
  rw[List.any_cons,List.all_cons,←ih]
  cases decide (0≤sideAt l 0 x)<;>simp
set_option maxHeartbeats 1000000 in
set_option maxRecDepth 100000 in
theorem covered_calls{f:Nat}{w:World}{v:Value}{t:Tree}(h:Ex w f v t)(hT:Laid w)(hok:t.ok=true){a:Option Addr}{n cap:Nat}{l:List SideD}(hb:Bxm w a n cap l):
 Calls Tryz.prog 78 #[v,.slice a n cap] w fun e w'=>e= .returned (.bool (covB l (varsT t)))∧Kept w w':=by
 have hh:=h
 cases f with
 |zero=>exact h.elim
 |succ f=>
 obtain⟨op,arg,s,N,D,name,kids,rfl⟩:∃op arg s N D name kids,t=Tree.node op arg s N D name kids:=by cases t;exact⟨_,_,_,_,_,_,_,rfl⟩
 obtain⟨x1,x2,x3,x4,x5,x6,a0,cap0,rfl,hc,hn,hr⟩:=h.shape
 clear h hr
 have hk:Kept w ((w.alloc (.cells #[.int .i64 op,.int .i64 arg,.bool s,.slice x1 x2 x3,.slice x4 x5 x6,.string name,.slice a0 kids.length cap0] 27)).alloc (.cells #[.slice a n cap] 28)):=((Kept.refl w).alloc _).alloc _
 have hvs:=vars_good (hh.kept hk) (hT.kept hk) hok
 have hbx:=Blk.new (w.alloc (.cells #[.int .i64 op,.int .i64 arg,.bool s,.slice x1 x2 x3,.slice x4 x5 x6,.string name,.slice a0 kids.length cap0] 27)) #[.slice a n cap] 28
 have esz:(w.alloc (.cells #[.int .i64 op,.int .i64 arg,.bool s,.slice x1 x2 x3,.slice x4 x5 x6,.string name,.slice a0 kids.length cap0] 27)).heap.size=w.heap.size+1:=by simp[go_sem]
 rw[esz] at hbx
 clear esz hh hok
 have hmf:∀(fn:Fn)(first cap:Array Value)(w:World),(Instr.makeFunc fn first cap).run Tryz.prog w= .ok (.func fn first cap) w:=fun _ _ _ _=>rfl
 generalize Tree.node op arg s N D name kids=t at*
 go_enter Tryz.func78,Tryz.ntmps78
 go_wp2_with(first
  |(go_at_call 136;refine hvs.mono ?_;rintro e w1 ⟨a1,n1,c1,ts,rfl,hsl,hc1,hn1,hm,hk1⟩;have hkw:=hk.trans hk1;have hcb:=(hbx.kept hk1).facts1.1;have hct:=contains151_calls (cap:=c1) hsl (by omega) (bx:=w.heap.size+1) (p:=fun s=> !decide (0≤sideAt l 0 s)) (fun w' hk' s=>cov1_calls (hb.kept (hkw.trans hk')) (hk'.cell hcb) s);have HM:=Lib.hid hm;clear hm hsl)
  |(go_at_call 151;refine hct.mono ?_;rintro e w2 ⟨rfl,hk2⟩))
 go_ret
 exact⟨by rw[←covB_congr HM.out,←covB_any];rfl,hkw.trans hk2⟩
end
end Go.Proofs.YtbapfnpbamnmpaaGreatDoor
