/- A part of the proof that ClaimFaces answers true for every input of bulk at most 1048576: conditions: the row's own. -/
import Derived.Test.YtbapfnpbamnmpaaGreatDoorGf
import Derived.Test.YtbapfnpbamnmpaaGreatDoorGi
import Derived.Test.YtbapfnpbamnmpaaGreatDoorKa
import Derived.Test.YtbapfnpbamnmpaaGreatDoorKc
import Derived.Test.YtbapfnpbamnmpaaGreatDoorSc
namespace Go.Proofs.YtbapfnpbamnmpaaGreatDoor
section
open Go Go.RowKit Go.Dig Go.Deep
open Go.Eng (Kept KW KeptB wp_region_kw kw_call)
set_option maxHeartbeats 4000000 in
set_option maxRecDepth 100000 in
theorem agrees2_calls{f:Nat}{w:World}{r r':Value}{x:Int}{d d':ClaimD}(h:x=0→Clm w f r d∧Clm w f r' d'∧d.ok=true∧d'.ok=true∧sameC d d'=true)(hz:x≠0→r=zeroC∧r'=zeroC):
 Calls Tryz.prog 13 #[r,.int .i64 x,r',.int .i64 x] w fun e w'=>e= .returned (.bool true)∧Kept w w':=by
 by_cases hx:x=0
 ·obtain⟨h1,h2,ho,ho',hsm⟩:=h hx
  have hs:=fun(w':World)(k:Kept w w')=>csame_calls (h1.kept k) (h2.kept k) ho ho'
  rw[hsm] at hs
  obtain⟨o,g,z,x1,x2,x3,x4,x5,x6,nm,a0,n0,cap0,a1,n1,cap1,a2,n2,cap2,rfl,-⟩:=h1
  obtain⟨o',g',z',y1,y2,y3,y4,y5,y6,nm',b0,m0,dap0,b1,m1,dap1,b2,m2,dap2,rfl,-⟩:=h2
  have hA:=Blk.new w #[.int .i64 o,.int .i64 g,.bool z,.slice x1 x2 x3,.slice x4 x5 x6,.string nm,.slice a0 n0 cap0,.bool d.strict,.slice a1 n1 cap1,.slice a2 n2 cap2] 31
  have hB:=Blk.new (w.alloc (.cells #[.int .i64 o,.int .i64 g,.bool z,.slice x1 x2 x3,.slice x4 x5 x6,.string nm,.slice a0 n0 cap0,.bool d.strict,.slice a1 n1 cap1,.slice a2 n2 cap2] 31)) #[.int .i64 o',.int .i64 g',.bool z',.slice y1 y2 y3,.slice y4 y5 y6,.string nm',.slice b0 m0 dap0,.bool d'.strict,.slice b1 m1 dap1,.slice b2 m2 dap2] 31
  rw[show(w.alloc (.cells #[.int .i64 o,.int .i64 g,.bool z,.slice x1 x2 x3,.slice x4 x5 x6,.string nm,.slice a0 n0 cap0,.bool d.strict,.slice a1 n1 cap1,.slice a2 n2 cap2] 31)).heap.size=w.heap.size+1 from Array.size_push _] at hB
  have hk1:Kept w (w.alloc (.cells #[.int .i64 o,.int .i64 g,.bool z,.slice x1 x2 x3,.slice x4 x5 x6,.string nm,.slice a0 n0 cap0,.bool d.strict,.slice a1 n1 cap1,.slice a2 n2 cap2] 31)):=(Kept.refl w).alloc _
  have hk2:Kept (w.alloc (.cells #[.int .i64 o,.int .i64 g,.bool z,.slice x1 x2 x3,.slice x4 x5 x6,.string nm,.slice a0 n0 cap0,.bool d.strict,.slice a1 n1 cap1,.slice a2 n2 cap2] 31)) ((w.alloc (.cells #[.int .i64 o,.int .i64 g,.bool z,.slice x1 x2 x3,.slice x4 x5 x6,.string nm,.slice a0 n0 cap0,.bool d.strict,.slice a1 n1 cap1,.slice a2 n2 cap2] 31)).alloc (.cells #[.int .i64 o',.int .i64 g',.bool z',.slice y1 y2 y3,.slice y4 y5 y6,.string nm',.slice b0 m0 dap0,.bool d'.strict,.slice b1 m1 dap1,.slice b2 m2 dap2] 31)):=(Kept.refl _).alloc _
  replace hA:=hA.kept hk2
  have hk:=hk1.trans hk2
  obtain⟨e0,e1,e2,e3,e4,e5,e6,e7,e8,e9,-⟩:=hA.facts10
  obtain⟨d0,d1,d2,d3,d4,d5,d6,d7,d8,d9,-⟩:=hB.facts10
  subst hx
  clear h hz hk1 hk2
  go_enter Tryz.func13,Tryz.ntmps13
  go_wp2_with(first|(go_at_call 18;refine(hs _ hk).mono ?_;rintro e w2 ⟨rfl,hk3⟩))
  go_ret
  exact⟨rfl,hk.trans hk3⟩
 ·obtain⟨rfl,rfl⟩:=hz hx
  have hn:=fun(w':World)=>nothing_calls w'
  have t1:(x != 0)=true:=by simpa using hx
  have hk:Kept w ((w.alloc (.cells #[.int .i64 0,.int .i64 0,.bool false,.slice none 0 0,.slice none 0 0,.string ⟨#[]⟩,.slice none 0 0,.bool false,.slice none 0 0,.slice none 0 0] 31)).alloc (.cells #[.int .i64 0,.int .i64 0,.bool false,.slice none 0 0,.slice none 0 0,.string ⟨#[]⟩,.slice none 0 0,.bool false,.slice none 0 0,.slice none 0 0] 31)):=((Kept.refl w).alloc _).alloc _
  have hA:=(Blk.new w #[.int .i64 0,.int .i64 0,.bool false,.slice none 0 0,.slice none 0 0,.string ⟨#[]⟩,.slice none 0 0,.bool false,.slice none 0 0,.slice none 0 0] 31).kept ((Kept.refl _).alloc (.cells #[.int .i64 0,.int .i64 0,.bool false,.slice none 0 0,.slice none 0 0,.string ⟨#[]⟩,.slice none 0 0,.bool false,.slice none 0 0,.slice none 0 0] 31))
  obtain⟨e0,e1,e2,e3,e4,e5,e6,e7,e8,e9,-⟩:=hA.facts10
  clear h hz hA
  unfold zeroC
  go_enter Tryz.func13,Tryz.ntmps13
  go_wp2_with(first|(go_at_call 45;refine(hn _).mono ?_;rintro e w2 ⟨rfl,hk3⟩))
  go_ret
  exact⟨rfl,hk.trans hk3⟩
end
section
open Go Go.RowKit Go.Dig
end
section
open Go Go.RowKit Go.Dig
end
section
open Go Go.RowKit Go.Dig Go.Deep
open Go.Eng (Kept KW KeptB wp_region_kw kw_call)
theorem Cnm.up{w:World}{f:Nat}{a:Option Addr}{n cap:Nat}{l:List CondD}(h:Cnm w f a n cap l):Cnm w (f+1) a n cap l:=by
 obtain⟨hn,hc,hb,hi⟩:=h
 refine⟨hn,hc,hb,fun i h=> ?_⟩
 obtain⟨b,off,o,g,z,x1,x2,x3,x4,x5,x6,nm,a',n',cap',ha,h0,h1,h2,h3,h4,h5,h6,h7,he⟩:=hi i h
 exact⟨b,off,o,g,z,x1,x2,x3,x4,x5,x6,nm,a',n',cap',ha,h0,h1,h2,h3,h4,h5,h6,h7,he.up 1⟩
theorem Clm.up{w:World}{f:Nat}{v:Value}{c:ClaimD}(h:Clm w f v c):Clm w (f+1) v c:=by
 obtain⟨o,g,z,x1,x2,x3,x4,x5,x6,nm,a0,n0,cap0,a1,n1,cap1,a2,n2,cap2,rfl,h1,h2,h3⟩:=h
 exact⟨o,g,z,x1,x2,x3,x4,x5,x6,nm,a0,n0,cap0,a1,n1,cap1,a2,n2,cap2,rfl,h1.up 1,h2,h3.up⟩
def MoreR(N:Nat)(V:World)(f:Nat)(l:List CondD)(v:Value)(W:World):Prop:=
 ∃g cap cur,v= .slice (some ⟨g,0,none⟩) l.length cap∧N≤g∧Blk W g cur 93∧∀W',Blk W' g cur 93→Sub V W'→Cnm W' f (some ⟨g,0,none⟩) l.length cap l
theorem MoreR.kept{N:Nat}{V:World}{f:Nat}{l:List CondD}{v:Value}{W W1:World}(h:MoreR N V f l v W)(k:Kept W W1):MoreR N V f l v W1:=by
 obtain⟨g,cap,cur,e,hN,hb,h⟩:=h
 exact⟨g,cap,cur,e,hN,hb.kept k,h⟩
section
variable{n:Nat}{l:Fm}{oi:Oper}{w:World}
end
theorem Blk.goal{w:World}{b:Nat}{t:TypeId}{Y:Array Value}{x y z:Value}(h:Blk w b (Y++#[x,y,z]) t):w.rangeAt b 0 Y.toList:=fun j v hv=>h.range j v (by
 rw[Array.toList_append,List.getElem?_append_left]
 ·exact hv
 ·rcases Nat.lt_or_ge j Y.toList.length with hl|hl
  ·exact hl
  ·rw[List.getElem?_eq_none hl] at hv;cases hv)
theorem Blk.rest{w:World}{b:Nat}{t:TypeId}{Y:Array Value}{x y z:Value}(h:Blk w b (Y++#[x,y,z]) t)(hY:Own 27 Y):w.cell? ⟨b,7,none⟩=some x∧w.cell? ⟨b,8,none⟩=some y∧w.cell? ⟨b,9,none⟩=some z:=by
 obtain⟨y0,y1,y2,y3,y4,y5,y6,rfl⟩:=arr7 hY.size7
 exact⟨h.cell 7 (by simp),h.cell 8 (by simp),h.cell 9 (by simp)⟩
end
section
open Go Go.RowKit Go.Dig Go.Deep
open Go.Eng (Kept KW KeptB wp_region_kw kw_call)
set_option maxHeartbeats 8000000
set_option maxRecDepth 100000
end
end Go.Proofs.YtbapfnpbamnmpaaGreatDoor
