/- A part of the proof that ClaimGoals answers true for every input of bulk at most 1048576: conditions: the row's own. -/
import Derived.Test.YtbapfnpbamnmpaaGreatDoorGa
import Derived.Test.YtbapfnpbamnmpaaGreatDoorGb
section
namespace Go.Proofs.YtbapfnpbamnmpaaGreatDoor
open Go Go.RowKit Go.Dig Go.Deep
open Go.Eng (Kept KW KeptB wp_region_kw kw_call)
theorem info41:InfoIs 41 (.agg #[.string ⟨#[]⟩,.bool false,.slice none 0 0,.slice none 0 0,.bool false,.slice none 0 0,.slice none 0 0,.bool false,.bool false]) 9 136:=infoIs (by kernel_rfl)
theorem wpList_append_grow{w:World}{ops:Array Oper}{rest:List Oper}{o:Oper}{a:Act}{Q:Exit→Act→World→Prop}(hgd:o.guard=none)(s x:Operand)(t:TypeId)
 (ho:o.op= .call {callee:=.builtin .append,args:=#[s,x],argTypes:=#[t,t]}){e:TypeId}{z:Value}{sz by_:Nat}(hi:InfoIs e z sz by_)(ht:Tryz.prog.underlying t=some (.slice e))(hz:z.cells.size=sz)(hsz:0<sz)(hby:by_≤1024)
 (base:Nat)(hbase:base≤w.heap.size)(v:Value)(n:Nat)(cs:List Value)(hs:a.eval s=v)(hown:w.ownsRow base e sz v n cs)
 (ad:Addr)(m c:Nat)(news:List Value)(hx:a.eval x= .slice (some ad) m c)(hl:news.length=m*sz)(hnews:∀j u,news[j]? =some u→w.cell? (ad.add j)=some u)(h1:∀u∈news,u.oneCell'=true)(hm:0<m)(hb:n+m≤1099511627)
 (h:∀v' w',w'.ownsRow base e sz v' (n+m) (cs++news)→w.grownBy w' v.ownBlock→(v'.ownBlock=v.ownBlock∨∀g,v'.ownBlock=some g→w.heap.size≤g)→wpList Tryz.prog ops Q rest (a.put o.dst v') w'):
 wpList Tryz.prog ops Q (o::rest) a w:=by
 obtain⟨i0,hi,hz0,hz1,hz2⟩:=hi
 refine wpList_append_lies w hgd s x t ho base e i0 z sz by_ ht hi hz0 hz1 hz2 hz hsz v n cs hs hown ad m c news hx hl hnews h1 hm (by unfold maxLen;omega) (Nat.le_trans (Nat.mul_le_mul hb hby) (by decide)) hbase w.heap.size rfl ?_
 intro g cap w' h1 h2 h3 _
 refine h _ w' h1 h2 ?_
 rcases h3 with h3|h3
 ·exact .inl h3.symm
 ·refine .inr fun g' hg'=> ?_
  cases hg'
  exact Nat.le_of_eq h3.symm
def sideR:World→List Value→SideD→Prop:=fun W l d=>∃(s1:Bool)(a1:Option Addr)(n1 c1:Nat)(a2:Option Addr)(n2 c2:Nat)(s2:Bool)(a3:Option Addr)(n3 c3:Nat)(a4:Option Addr)(n4 c4:Nat)(p q:Bool),
 l=[.string d.name,.bool s1,.slice a1 n1 c1,.slice a2 n2 c2,.bool s2,.slice a3 n3 c3,.slice a4 n4 c4,.bool p,.bool q]∧
 Ivl W (.agg #[.bool s1,.slice a1 n1 c1,.slice a2 n2 c2,.bool s2,.slice a3 n3 c3,.slice a4 n4 c4,.bool p,.bool q]) d.iv
theorem sideR_sub:∀w w',Sub w w'→∀l t,sideR w l t→sideR w' l t:=by
 rintro w w' k l t ⟨s1,a1,n1,c1,a2,n2,c2,s2,a3,n3,c3,a4,n4,c4,p,q,e,h⟩
 exact⟨s1,a1,n1,c1,a2,n2,c2,s2,a3,n3,c3,a4,n4,c4,p,q,e,h.sub k⟩
theorem Bxm.mk{w:World}{a:Option Addr}{cap:Nat}{l:List SideD}{cs:List Value}(hc:l.length≤cap)(hn:l.length<4611686018427387904)
 (hcell:∀i,i<cs.length→∃b,a=some ⟨b,0,none⟩∧w.cell? ⟨b,i,none⟩=cs[i]?)(hk:RowsIs (sideR w) 9 cs l):Bxm w a l.length cap l:=by
 refine⟨rfl,hc,hn,fun i h=> ?_⟩
 have hlen:i*9+9≤cs.length:=by rw[hk.1];omega
 obtain⟨b,ha,-⟩:=hcell (i*9) (by omega)
 obtain⟨s1,a1,n1,c1,a2,n2,c2,s2,a3,n3,c3,a4,n4,c4,p,q,e,hv⟩:=hk.2 i h
 have hat:∀j(u:Value),j<9→[Value.string l[i].name,.bool s1,.slice a1 n1 c1,.slice a2 n2 c2,.bool s2,.slice a3 n3 c3,.slice a4 n4 c4,.bool p,.bool q][j]? =some u→w.cell? ⟨b,0+i*9+j,none⟩=some u:=by
  intro j u hj hu
  obtain⟨b',ha',hc'⟩:=hcell (i*9+j) (by omega)
  rw[ha] at ha'
  cases ha'
  rw[Nat.zero_add,hc',←hu,←e]
  simp[hj]
 exact⟨b,0,s1,a1,n1,c1,a2,n2,c2,s2,a3,n3,c3,a4,n4,c4,p,q,ha,hat 0 _ (by decide) rfl,hat 1 _ (by decide) rfl,hat 2 _ (by decide) rfl,hat 3 _ (by decide) rfl,hat 4 _ (by decide) rfl,hat 5 _ (by decide) rfl,hat 6 _ (by decide) rfl,hat 7 _ (by decide) rfl,hat 8 _ (by decide) rfl,hv⟩
theorem KeptB.st8(w:World)(b:Nat)(x0 x1 x2 x3 x4 x5 x6 x7:Value):KeptB w ((((((((w.setCell ⟨b,0,none⟩ x0).setCell ⟨b,1,none⟩ x1).setCell ⟨b,2,none⟩ x2).setCell ⟨b,3,none⟩ x3).setCell ⟨b,4,none⟩ x4).setCell ⟨b,5,none⟩ x5).setCell ⟨b,6,none⟩ x6).setCell ⟨b,7,none⟩ x7) b:=
 ((((((((KeptB.refl w b).setCell rfl _).setCell rfl _).setCell rfl _).setCell rfl _).setCell rfl _).setCell rfl _).setCell rfl _).setCell rfl _
theorem Blk.all8{w:World}{b:Nat}{t:TypeId}{y0 y1 y2 y3 y4 y5 y6 y7:Value}(h:Blk w b #[y0,y1,y2,y3,y4,y5,y6,y7] t)(x0 x1 x2 x3 x4 x5 x6 x7:Value):
 Blk ((((((((w.setCell ⟨b,0,none⟩ x0).setCell ⟨b,1,none⟩ x1).setCell ⟨b,2,none⟩ x2).setCell ⟨b,3,none⟩ x3).setCell ⟨b,4,none⟩ x4).setCell ⟨b,5,none⟩ x5).setCell ⟨b,6,none⟩ x6).setCell ⟨b,7,none⟩ x7) b #[x0,x1,x2,x3,x4,x5,x6,x7] t:=by
 have h9:=(((((((h.set 0 x0).set 1 x1).set 2 x2).set 3 x3).set 4 x4).set 5 x5).set 6 x6).set 7 x7
 simpa using h9
theorem only_keep{w w':World}{S:Nat→Bool}(k:Kept w w'):Sub (onlyW w S) (onlyW w' S):=only_move fun b hb hs=>⟨hs,k.old b hb⟩
theorem Ws.store{w w':World}{S:Nat→Bool}{a:Option Addr}{n b:Nat}{zs:Nat→Nat}(h:Ws (onlyW w S) a n zs)(k:KeptB w w' b)(hb:NoWords w b):Ws (onlyW w' S) a n zs:=fun i hi=>by
 obtain⟨b',off,e,hc⟩:=h i hi
 refine⟨b',off,e,?_⟩
 rw[cell_only] at hc⊢
 split at hc
 ·rename_i hs
  rw[if_pos hs]
  exact k.cell hc (fun he=>hb _ _ (by rw[←he];exact hc))
 ·cases hc
theorem Rt.store{w w':World}{S:Nat→Bool}{v:Value}{neg:Bool}{N D b:Nat}(h:Rt (onlyW w S) v neg N D)(k:KeptB w w' b)(hb:NoWords w b):Rt (onlyW w' S) v neg N D:=by
 obtain⟨vn,vd,e,⟨a,n,cap,zs,g1,g2,g3,g4,g5,g6⟩,⟨a',n',cap',zs',f1,f2,f3,f4,f5,f6⟩⟩:=h
 exact⟨vn,vd,e,⟨a,n,cap,zs,g1,g2,g3,g4,g5,g6.store k hb⟩,⟨a',n',cap',zs',f1,f2,f3,f4,f5,f6.store k hb⟩⟩
end Go.Proofs.YtbapfnpbamnmpaaGreatDoor
end
section
namespace Go.Proofs.YtbapfnpbamnmpaaGreatDoor
open Go Go.RowKit Go.Dig Go.Deep
open Go.Eng (Kept KW KeptB wp_region_kw kw_call)
theorem info93:InfoIs 93 (.agg #[.int .i64 0,.int .i64 0,.bool false,.slice none 0 0,.slice none 0 0,.string ⟨#[]⟩,.slice none 0 0,.bool false]) 8 120:=infoIs (by kernel_rfl)
theorem KeptB.st10(w:World)(b:Nat)(x0 x1 x2 x3 x4 x5 x6 x7 x8 x9:Value):KeptB w ((((((((((w.setCell ⟨b,0,none⟩ (x0)).setCell ⟨b,1,none⟩ (x1)).setCell ⟨b,2,none⟩ (x2)).setCell ⟨b,3,none⟩ (x3)).setCell ⟨b,4,none⟩ (x4)).setCell ⟨b,5,none⟩ (x5)).setCell ⟨b,6,none⟩ (x6)).setCell ⟨b,7,none⟩ (x7)).setCell ⟨b,8,none⟩ (x8)).setCell ⟨b,9,none⟩ (x9)) b:=
 ((((((((((KeptB.refl w b).setCell rfl _).setCell rfl _).setCell rfl _).setCell rfl _).setCell rfl _).setCell rfl _).setCell rfl _).setCell rfl _).setCell rfl _).setCell rfl _
theorem Blk.all10{w:World}{b:Nat}{t:TypeId}{y0 y1 y2 y3 y4 y5 y6 y7 y8 y9:Value}(h:Blk w b #[y0,y1,y2,y3,y4,y5,y6,y7,y8,y9] t)(x0 x1 x2 x3 x4 x5 x6 x7 x8 x9:Value):
 Blk ((((((((((w.setCell ⟨b,0,none⟩ (x0)).setCell ⟨b,1,none⟩ (x1)).setCell ⟨b,2,none⟩ (x2)).setCell ⟨b,3,none⟩ (x3)).setCell ⟨b,4,none⟩ (x4)).setCell ⟨b,5,none⟩ (x5)).setCell ⟨b,6,none⟩ (x6)).setCell ⟨b,7,none⟩ (x7)).setCell ⟨b,8,none⟩ (x8)).setCell ⟨b,9,none⟩ (x9)) b #[x0,x1,x2,x3,x4,x5,x6,x7,x8,x9] t:=by
 have h9:=(((((((((h.set 0 x0).set 1 x1).set 2 x2).set 3 x3).set 4 x4).set 5 x5).set 6 x6).set 7 x7).set 8 x8).set 9 x9
 simpa using h9
def condR(f:Nat):World→List Value→CondD→Prop:=fun W l d=>∃(o g:Int)(z:Bool)(x1:Option Addr)(x2 x3:Nat)(x4:Option Addr)(x5 x6:Nat)(nm:ByteArray)(a:Option Addr)(n cap:Nat),
 l=[.int .i64 o,.int .i64 g,.bool z,.slice x1 x2 x3,.slice x4 x5 x6,.string nm,.slice a n cap,.bool d.strict]∧Ex W f (.agg #[.int .i64 o,.int .i64 g,.bool z,.slice x1 x2 x3,.slice x4 x5 x6,.string nm,.slice a n cap]) d.t
theorem condR_sub(f:Nat):∀w w',Sub w w'→∀l t,condR f w l t→condR f w' l t:=by
 rintro w w' k l t ⟨o,g,z,x1,x2,x3,x4,x5,x6,nm,a,n,cap,e,h⟩
 exact⟨o,g,z,x1,x2,x3,x4,x5,x6,nm,a,n,cap,e,h.sub k⟩
theorem Cnm.mk{w:World}{f:Nat}{a:Option Addr}{cap:Nat}{l:List CondD}{cs:List Value}(hc:l.length≤cap)(hn:l.length<4611686018427387904)
 (hcell:∀i,i<cs.length→∃b,a=some ⟨b,0,none⟩∧w.cell? ⟨b,i,none⟩=cs[i]?)(hk:RowsIs (condR f w) 8 cs l):Cnm w f a l.length cap l:=by
 refine⟨rfl,hc,hn,fun i h=> ?_⟩
 have hlen:i*8+8≤cs.length:=by rw[hk.1];omega
 obtain⟨b,ha,-⟩:=hcell (i*8) (by omega)
 obtain⟨o,g,z,x1,x2,x3,x4,x5,x6,nm,a',n,cap',e,hv⟩:=hk.2 i h
 have hat:∀j(u:Value),j<8→[Value.int .i64 o,.int .i64 g,.bool z,.slice x1 x2 x3,.slice x4 x5 x6,.string nm,.slice a' n cap',.bool l[i].strict][j]? =some u→w.cell? ⟨b,0+i*8+j,none⟩=some u:=by
  intro j u hj hu
  obtain⟨b',ha',hc'⟩:=hcell (i*8+j) (by omega)
  rw[ha] at ha'
  cases ha'
  rw[Nat.zero_add,hc',←hu,←e]
  simp[hj]
 exact⟨b,0,o,g,z,x1,x2,x3,x4,x5,x6,nm,a',n,cap',ha,hat 0 _ (by decide) rfl,hat 1 _ (by decide) rfl,hat 2 _ (by decide) rfl,hat 3 _ (by decide) rfl,hat 4 _ (by decide) rfl,hat 5 _ (by decide) rfl,hat 6 _ (by decide) rfl,hat 7 _ (by decide) rfl,hv⟩
end Go.Proofs.YtbapfnpbamnmpaaGreatDoor
end
section
namespace Go.Proofs.YtbapfnpbamnmpaaGreatDoor
open Go Go.RowKit Go.Dig Go.Deep
open Go.Eng (Kept KW KeptB wp_region_kw kw_call)
set_option maxHeartbeats 8000000 in
set_option maxRecDepth 100000 in
theorem ownBox_calls{w:World}{a:Option Addr}{n cap:Nat}{l:List SideD}(h:Bxm w a n cap l)(h6:l.length≤6):
 Calls Tryz.prog 139 #[.slice a n cap] w fun e w'=>∃a' cap',e= .returned (.slice a' l.length cap')∧Bxm (onlyW w' (ab w.heap.size)) a' l.length cap' l∧Kept w w':=by
 obtain⟨rfl,hc,hbd,hi⟩:=h
 have HI:=Lib.hid hi;clear hi
 go_enter Tryz.func139,Tryz.ntmps139
 go_wp2
 go_loopw [3,9] (fun v i wr=>∃(k:Nat)(a3:Option Addr)(cap3:Nat)(cs:List Value),k≤l.length∧i= .int .i64 (k:Int)∧v= .slice a3 k cap3∧Hid (Grow w wr w.heap.size 41 9 (.slice a3 k cap3) k cs sideR l)) (fun _ i _=>l.length-(intOf i).toNat)
 case atStart=>exact⟨0,none,0,[],Nat.zero_le _,rfl,rfl,Lib.hid (Grow.start ..)⟩
 case round=>
  obtain⟨k,a3,cap3,cs,hkk,rfl,rfl,HG⟩:=hrel
  have HKW:Hid (Kept w wr):=Lib.hid ⟨HG.out.kb.size,fun b hb=>HG.out.kb.old b hb (Nat.ne_of_lt hb),HG.out.kb.tape,HG.out.kb.os,HG.out.kb.output⟩
  by_cases hlt:k<l.length
  ·obtain⟨b,off,s1o,a1,n1,c1,a2,n2,c2,s2o,a3',n3,c3,a4,n4,c4,po,qo,rfl,h0,h1,h2,h3,h4,h5,h6',h7,h8,hv⟩:=HI.out k hlt
   replace h0:=HKW.out.cell h0
   replace h1:=HKW.out.cell h1
   replace h2:=HKW.out.cell h2
   replace h3:=HKW.out.cell h3
   replace h4:=HKW.out.cell h4
   replace h5:=HKW.out.cell h5
   replace h6':=HKW.out.cell h6'
   replace h7:=HKW.out.cell h7
   replace h8:=HKW.out.cell h8
   generalize hnk:l[k].name=nk at*
   have HNK:=Lib.hid hnk;clear hnk
   obtain⟨iv,hiv⟩:∃iv,l[k].iv=iv:=⟨_,rfl⟩
   rw[hiv] at hv
   have HIV:=Lib.hid hiv;clear hiv
   obtain⟨s1,N1,D1,s2,N2,D2,p,q⟩:=iv
   obtain⟨e1,e2,e3,e4,e5,e6,f1,f2,f3,f4,f5,f6,hve,hr1,hr2⟩:=hv
   cases hve
   replace hr1:Rt w (.agg #[.bool s1,.slice a1 n1 c1,.slice a2 n2 c2]) s1 N1 D1:=hr1
   replace hr2:Rt w (.agg #[.bool s2,.slice a3' n3 c3,.slice a4 n4 c4]) s2 N2 D2:=hr2
   go_wp2_with fail
   have HP:=Lib.hid (Blk.new wr #[.string nk,.bool s1,.slice a1 n1 c1,.slice a2 n2 c2,.bool s2,.slice a3' n3 c3,.slice a4 n4 c4,.bool p,.bool q] 41)
   have hka:Kept wr (wr.alloc (.cells #[.string nk,.bool s1,.slice a1 n1 c1,.slice a2 n2 c2,.bool s2,.slice a3' n3 c3,.slice a4 n4 c4,.bool p,.bool q] 41)):=(Kept.refl wr).alloc _
   have HOB:=Lib.hid (fun g(hg:(Value.slice a3 k cap3).ownBlock=some g)=>World.ownsRow.lt HG.out.own g hg)
   have HSW:=Lib.hid (show w.heap.size≤wr.heap.size from HG.out.kb.size)
   have HS5:Hid (∀w',Blk w' wr.heap.size #[.string nk,.bool s1,.slice a1 n1 c1,.slice a2 n2 c2,.bool s2,.slice a3' n3 c3,.slice a4 n4 c4,.bool p,.bool q] 41→w'.cell? ⟨wr.heap.size,0,none⟩=some (.string nk)∧w'.cell? ⟨wr.heap.size,1,none⟩=some (.bool s1)∧w'.cell? ⟨wr.heap.size,2,none⟩=some (.slice a1 n1 c1)∧w'.cell? ⟨wr.heap.size,3,none⟩=some (.slice a2 n2 c2)∧w'.cell? ⟨wr.heap.size,4,none⟩=some (.bool s2)∧w'.cell? ⟨wr.heap.size,5,none⟩=some (.slice a3' n3 c3)∧w'.cell? ⟨wr.heap.size,6,none⟩=some (.slice a4 n4 c4)∧w'.cell? ⟨wr.heap.size,7,none⟩=some (.bool p)∧w'.cell? ⟨wr.heap.size,8,none⟩=some (.bool q)):=Lib.hid fun w' h=>⟨h.cell 0 rfl,h.cell 1 rfl,h.cell 2 rfl,h.cell 3 rfl,h.cell 4 rfl,h.cell 5 rfl,h.cell 6 rfl,h.cell 7 rfl,h.cell 8 rfl⟩
   have HSZ:Hid ((wr.alloc (.cells #[.string nk,.bool s1,.slice a1 n1 c1,.slice a2 n2 c2,.bool s2,.slice a3' n3 c3,.slice a4 n4 c4,.bool p,.bool q] 41)).heap.size=wr.heap.size+1):=Lib.hid (Array.size_push _)
   have HR1:=Lib.hid (hr1.kept (HKW.out.trans hka))
   have HR2:=Lib.hid (hr2.kept (HKW.out.trans hka))
   have HG1:=Lib.hid (HG.out.kept sideR_sub hka)
   clear h0 h1 h2 h3 h4 h5 h6' h7 h8 HG hka hr1 hr2
   generalize wr.alloc (.cells #[.string nk,.bool s1,.slice a1 n1 c1,.slice a2 n2 c2,.bool s2,.slice a3' n3 c3,.slice a4 n4 c4,.bool p,.bool q] 41)=wa at*
   refine wp_region_held_drew (S:=fun w'=>w'.cell? ⟨wr.heap.size,0,none⟩=some (.string nk)∧w'.cell? ⟨wr.heap.size,1,none⟩=some (.bool s1)∧w'.cell? ⟨wr.heap.size,2,none⟩=some (.slice a1 n1 c1)∧w'.cell? ⟨wr.heap.size,3,none⟩=some (.slice a2 n2 c2)∧w'.cell? ⟨wr.heap.size,4,none⟩=some (.bool s2)∧w'.cell? ⟨wr.heap.size,5,none⟩=some (.slice a3' n3 c3)∧w'.cell? ⟨wr.heap.size,6,none⟩=some (.slice a4 n4 c4)∧w'.cell? ⟨wr.heap.size,7,none⟩=some (.bool p)∧w'.cell? ⟨wr.heap.size,8,none⟩=some (.bool q)) (by kernel_rfl) (HS5.out _ (HP.out.kept (Kept.refl wa).drew)) (fun hHeld=> ?_)
   refine wpAnyH_take (i:=0) (oi:=_) (v:= ?_) rfl (by kernel_rfl) (by kernel_rfl) (by kernel_rfl) (fun _ _ _ h=>h) (Or.inl ⟨by rfl,?_⟩) (by assumption) ?_
   rotate_left
   ·intro w hSw;(try dsimp only at hSw);go_simp;first|done|with_reducible rfl
   try simp only[Act.put,List.setIfInBounds_toArray]
   refine wpAnyH_take (i:=1) (oi:=_) (v:= ?_) rfl (by kernel_rfl) (by kernel_rfl) (by kernel_rfl) (fun _ _ _ h=>h) (Or.inl ⟨by rfl,?_⟩) (by assumption) ?_
   rotate_left
   ·intro w hSw;(try dsimp only at hSw);go_simp;first|done|with_reducible rfl
   try simp only[Act.put]
   refine wpAnyH_take (i:=2) (oi:=_) (v:= ?_) rfl (by kernel_rfl) (by kernel_rfl) (by kernel_rfl) (fun _ _ _ h=>h) (Or.inl ⟨by rfl,?_⟩) (by assumption) ?_
   rotate_left
   ·intro w hSw;(try dsimp only at hSw);go_simp;first|done|with_reducible rfl
   try simp only[Act.put]
   refine wpAnyH_take (i:=4) (oi:=_) (v:= ?_) rfl (by kernel_rfl) (by kernel_rfl) (by kernel_rfl) (fun _ _ _ h=>h) (Or.inl ⟨by rfl,?_⟩) (by assumption) ?_
   rotate_left
   ·intro w hSw;(try dsimp only at hSw);go_simp;first|done|with_reducible rfl
   try simp only[Act.put]
   refine wpAnyH_take (i:=5) (oi:=_) (v:= ?_) rfl (by kernel_rfl) (by kernel_rfl) (by kernel_rfl) (fun _ _ _ h=>h) (Or.inl ⟨by rfl,?_⟩) (by assumption) ?_
   rotate_left
   ·intro w hSw;(try dsimp only at hSw);go_simp;first|done|with_reducible rfl
   try simp only[Act.put]
   refine wpAnyH_take (i:=6) (oi:=_) (v:= ?_) rfl (by kernel_rfl) (by kernel_rfl) (by kernel_rfl) (fun _ _ _ h=>h) (Or.inl ⟨by rfl,?_⟩) (by assumption) ?_
   rotate_left
   ·intro w hSw;(try dsimp only at hSw);go_simp;first|done|with_reducible rfl
   try simp only[Act.put]
   refine wpAnyH_take (i:=8) (oi:=_) (v:= ?_) rfl (by kernel_rfl) (by kernel_rfl) (by kernel_rfl) (fun _ _ _ h=>h) (Or.inl ⟨by rfl,?_⟩) (by assumption) ?_
   rotate_left
   ·intro w hSw;(try dsimp only at hSw);go_simp;first|done|with_reducible rfl
   try simp only[Act.put]
   refine wpAnyH_take (i:=9) (oi:=_) (v:= ?_) rfl (by kernel_rfl) (by kernel_rfl) (by kernel_rfl) (fun _ _ _ h=>h) (Or.inl ⟨by rfl,?_⟩) (by assumption) ?_
   rotate_left
   ·intro w hSw;(try dsimp only at hSw);go_simp;first|done|with_reducible rfl
   try simp only[Act.put]
   refine wpAnyH_take (i:=10) (oi:=_) (v:= ?_) rfl (by kernel_rfl) (by kernel_rfl) (by kernel_rfl) (fun _ _ _ h=>h) (Or.inl ⟨by rfl,?_⟩) (by assumption) ?_
   rotate_left
   ·intro w hSw;(try dsimp only at hSw);go_simp;first|done|with_reducible rfl
   try simp only[Act.put]
   refine wpAnyH_take (i:=11) (oi:=_) (v:= ?_) rfl (by kernel_rfl) (by kernel_rfl) (by kernel_rfl) (fun _ _ _ h=>h) (Or.inl ⟨by rfl,?_⟩) (by assumption) ?_
   rotate_left
   ·intro w hSw;(try dsimp only at hSw);go_simp;first|done|with_reducible rfl
   try simp only[Act.put]
   refine wpAnyH_take (i:=12) (oi:=_) (v:= ?_) rfl (by kernel_rfl) (by kernel_rfl) (by kernel_rfl) (fun _ _ _ h=>h) (Or.inl ⟨by rfl,?_⟩) (by assumption) ?_
   rotate_left
   ·intro w hSw;(try dsimp only at hSw);go_simp;first|done|with_reducible rfl
   try simp only[Act.put]
   refine wpAnyH_take (i:=13) (oi:=_) (v:= ?_) rfl (by kernel_rfl) (by kernel_rfl) (by kernel_rfl) (fun _ _ _ h=>h) (Or.inl ⟨by rfl,?_⟩) (by assumption) ?_
   rotate_left
   ·intro w hSw;(try dsimp only at hSw);go_simp;first|done|with_reducible rfl
   try simp only[Act.put]
   refine wpAnyH_ready (rs:=[3,15]) (by kernel_rfl) (by simp) (AllReadyH.cons (o:=_) rfl (fun K hK=> ?_) (AllReadyH.cons (o:=_) rfl (fun K hK=> ?_) AllReadyH.nil))
   ·skip
    go_simp
    go_at_call 140
    refine(ownRat_fresh (HR1.out.kept (Kept.refl wa).drew)).mono ?_
    rintro e wc ⟨y1,y2,y3,y4,y5,y6,rfl,hy,hkn⟩
    have hkwc:Kept wa wc:=Kept.trans (Kept.refl wa).drew hkn
    have Hy:Hid (Rt (onlyW wc (ab wa.heap.size)) (.agg #[.bool s1,.slice y1 y2 y3,.slice y4 y5 y6]) s1 N1 D1):=Lib.hid (hy.sub (only_move fun b _ hs=>⟨by have:=(show Kept wa _ from(Kept.refl wa).drew).size;simp only[ab,decide_eq_true_eq] at hs⊢;omega,rfl⟩))
    clear hkn hy
    refine hK.out _ _ (HS5.out _ (HP.out.kept hkwc)) (fun hHeld=> ?_)
    clear hK K
    try simp only[List.setIfInBounds_toArray,List.set_cons_zero,List.set_cons_succ]
    refine wpAnyH_ready (rs:=[7,15]) (by kernel_rfl) (by simp) (AllReadyH.cons (o:=_) rfl (fun K hK=> ?_) (AllReadyH.cons (o:=_) rfl (fun K hK=> ?_) AllReadyH.nil))
    ·skip
     go_simp
     go_at_call 140
     refine(ownRat_fresh (HR2.out.kept hkwc)).mono ?_
     rintro e wd ⟨z1,z2,z3,z4,z5,z6,rfl,hz,hkn⟩
     have hkwd:Kept wa wd:=Kept.trans hkwc hkn
     have Hz:Hid (Rt (onlyW wd (ab wa.heap.size)) (.agg #[.bool s2,.slice z1 z2 z3,.slice z4 z5 z6]) s2 N2 D2):=Lib.hid (hz.sub (only_move fun b _ hs=>⟨by have:=(show Kept wa _ from hkwc).size;simp only[ab,decide_eq_true_eq] at hs⊢;omega,rfl⟩))
     replace Hy:=Lib.hid (Rt.sub Hy.out (only_keep hkn))
     clear hkn hz
     refine hK.out _ _ (HS5.out _ (HP.out.kept hkwd)) (fun hHeld=> ?_)
     clear hK K
     try simp only[List.setIfInBounds_toArray,List.set_cons_zero,List.set_cons_succ]
     refine wpAnyH_take (i:=14) (oi:=_) (v:= ?_) rfl (by kernel_rfl) (by kernel_rfl) (by kernel_rfl) (fun _ _ _ h=>h) (Or.inl ⟨by rfl,?_⟩) (by assumption) ?_
     rotate_left
     ·intro w hSw;(try dsimp only at hSw);go_simp;first|done|with_reducible rfl
     try simp only[Act.put]
     refine wpAnyH_ready (rs:=[15]) (by kernel_rfl) (by simp) (AllReadyH.cons (o:=_) rfl (fun K hK=> ?_) AllReadyH.nil)
     go_simp
     refine hK.out _ _ (HS5.out _ (HP.out.kept (Kept.alloc hkwd _))) (fun hHeld=> ?_)
     clear hK K
     try simp only[List.setIfInBounds_toArray,List.set_cons_zero,List.set_cons_succ]
     have HB6:Hid (Blk (wd.alloc (.cells #[.bool false,.slice none 0 0,.slice none 0 0,.bool false,.slice none 0 0,.slice none 0 0,.bool false,.bool false] 39)) (wd.heap.size) #[.bool false,.slice none 0 0,.slice none 0 0,.bool false,.slice none 0 0,.slice none 0 0,.bool false,.bool false] 39):=Lib.hid (Blk.new ..)
     have HZ6:Hid (wa.heap.size≤wd.heap.size):=Lib.hid (show Kept wa wd from hkwd).size
     have hkwe:Kept wa (wd.alloc (.cells #[.bool false,.slice none 0 0,.slice none 0 0,.bool false,.slice none 0 0,.slice none 0 0,.bool false,.bool false] 39)):=(Kept.alloc hkwd _)
     have hke:Kept wd (wd.alloc (.cells #[.bool false,.slice none 0 0,.slice none 0 0,.bool false,.slice none 0 0,.slice none 0 0,.bool false,.bool false] 39)):=(Kept.refl _).alloc _
     replace Hy:=Lib.hid (Rt.sub Hy.out (only_keep hke))
     replace Hz:=Lib.hid (Rt.sub Hz.out (only_keep hke))
     clear hke
     generalize wd.alloc (.cells #[.bool false,.slice none 0 0,.slice none 0 0,.bool false,.slice none 0 0,.slice none 0 0,.bool false,.bool false] 39)=we at*
     generalize wd.heap.size=b6 at*
     refine wpAnyH_ready (rs:=[16]) (by kernel_rfl) (by simp) (AllReadyH.cons (o:=_) rfl (fun K hK=> ?_) AllReadyH.nil)
     have hkz:Kept wa we:=hkwe
     obtain⟨d0,d1,d2,d3,d4,d5,d6,d7,f0,f1,f2,f3,f4,f5,f6,f7⟩:=HB6.out.facts8
     go_simp
     have hkb:KeptB we ((((((((we.setCell ⟨b6,0,none⟩ (.bool s1)).setCell ⟨b6,1,none⟩ (.slice y1 y2 y3)).setCell ⟨b6,2,none⟩ (.slice y4 y5 y6)).setCell ⟨b6,3,none⟩ (.bool s2)).setCell ⟨b6,4,none⟩ (.slice z1 z2 z3)).setCell ⟨b6,5,none⟩ (.slice z4 z5 z6)).setCell ⟨b6,6,none⟩ (.bool p)).setCell ⟨b6,7,none⟩ (.bool q)) b6:=KeptB.st8 ..
     have HB7:Hid (Blk ((((((((we.setCell ⟨b6,0,none⟩ (.bool s1)).setCell ⟨b6,1,none⟩ (.slice y1 y2 y3)).setCell ⟨b6,2,none⟩ (.slice y4 y5 y6)).setCell ⟨b6,3,none⟩ (.bool s2)).setCell ⟨b6,4,none⟩ (.slice z1 z2 z3)).setCell ⟨b6,5,none⟩ (.slice z4 z5 z6)).setCell ⟨b6,6,none⟩ (.bool p)).setCell ⟨b6,7,none⟩ (.bool q)) b6 #[.bool s1,.slice y1 y2 y3,.slice y4 y5 y6,.bool s2,.slice z1 z2 z3,.slice z4 z5 z6,.bool p,.bool q] 39):=Lib.hid (HB6.out.all8 ..)
     have hkg:Kept wa ((((((((we.setCell ⟨b6,0,none⟩ (.bool s1)).setCell ⟨b6,1,none⟩ (.slice y1 y2 y3)).setCell ⟨b6,2,none⟩ (.slice y4 y5 y6)).setCell ⟨b6,3,none⟩ (.bool s2)).setCell ⟨b6,4,none⟩ (.slice z1 z2 z3)).setCell ⟨b6,5,none⟩ (.slice z4 z5 z6)).setCell ⟨b6,6,none⟩ (.bool p)).setCell ⟨b6,7,none⟩ (.bool q)):=hkz.but hkb HZ6.out
     have hnw:NoWords we b6:=HB6.out.noWords rfl
     have Hy7:=Lib.hid (Rt.store Hy.out hkb hnw)
     have Hz7:=Lib.hid (Rt.store Hz.out hkb hnw)
     refine hK.out _ _ (HS5.out _ (HP.out.kept hkg)) (fun hHeld=> ?_)
     clear hK K d0 d1 d2 d3 d4 d5 d6 d7 f0 f1 f2 f3 f4 f5 f6 f7 hkb hnw Hy Hz HB6 hkz
     refine wpAnyH_done (by kernel_rfl) ?_ _
     try simp only[List.setIfInBounds_toArray,List.set_cons_zero,List.set_cons_succ]
     generalize ((((((((we.setCell ⟨b6,0,none⟩ (.bool s1)).setCell ⟨b6,1,none⟩ (.slice y1 y2 y3)).setCell ⟨b6,2,none⟩ (.slice y4 y5 y6)).setCell ⟨b6,3,none⟩ (.bool s2)).setCell ⟨b6,4,none⟩ (.slice z1 z2 z3)).setCell ⟨b6,5,none⟩ (.slice z4 z5 z6)).setCell ⟨b6,6,none⟩ (.bool p)).setCell ⟨b6,7,none⟩ (.bool q))=wg at*
     have HP7:=Lib.hid (HP.out.kept hkg)
     obtain⟨d0,d1,d2,d3,d4,d5,d6,d7,d8,-⟩:=HP7.out.facts9
     obtain⟨f0,f1,f2,f3,f4,f5,f6,f7,-⟩:=HB7.out.facts8
     have hk7:Kept wg (wg.alloc (.cells #[.string nk,.bool s1,.slice y1 y2 y3,.slice y4 y5 y6,.bool s2,.slice z1 z2 z3,.slice z4 z5 z6,.bool p,.bool q] 41)):=(Kept.refl wg).alloc _
     have HG7:=Lib.hid ((HG1.out.kept sideR_sub hkg).kept sideR_sub hk7)
     have HN:=Lib.hid (Blk.new wg #[.string nk,.bool s1,.slice y1 y2 y3,.slice y4 y5 y6,.bool s2,.slice z1 z2 z3,.slice z4 z5 z6,.bool p,.bool q] 41)
     have HLE:Hid (w.heap.size≤(wg.alloc (.cells #[.string nk,.bool s1,.slice y1 y2 y3,.slice y4 y5 y6,.bool s2,.slice z1 z2 z3,.slice z4 z5 z6,.bool p,.bool q] 41)).heap.size):=Lib.hid (Nat.le_trans (Nat.le_trans HSW.out (Nat.le_of_lt (by have:=HSZ.out;omega))) (hkg.trans hk7).size)
     have HRV:Hid (sideR (onlyW (wg.alloc (.cells #[.string nk,.bool s1,.slice y1 y2 y3,.slice y4 y5 y6,.bool s2,.slice z1 z2 z3,.slice z4 z5 z6,.bool p,.bool q] 41)) (ab wa.heap.size)) [.string nk,.bool s1,.slice y1 y2 y3,.slice y4 y5 y6,.bool s2,.slice z1 z2 z3,.slice z4 z5 z6,.bool p,.bool q] l[k]):=Lib.hid (by
      have h1:=Rt.sub Hy7.out (only_keep hk7)
      have h2:=Rt.sub Hz7.out (only_keep hk7)
      refine⟨s1,y1,y2,y3,y4,y5,y6,s2,z1,z2,z3,z4,z5,z6,p,q,by rw[HNK.out],?_⟩
      rw[HIV.out]
      exact⟨y1,y2,y3,y4,y5,y6,z1,z2,z3,z4,z5,z6,rfl,h1,h2⟩)
     clear hk7
     go_wp2_with(at_builtin;refine wpList_append_grow (w:=(wg.alloc (.cells #[.string nk,.bool s1,.slice y1 y2 y3,.slice y4 y5 y6,.bool s2,.slice z1 z2 z3,.slice z4 z5 z6,.bool p,.bool q] 41))) rfl (.tmp 28) (.tmp 33) 28 rfl info41 Tryz.underlying28 rfl (by decide) (by decide) w.heap.size HLE.out _ k cs rfl HG7.out.own ⟨wg.heap.size,0,none⟩ 1 1 [.string nk,.bool s1,.slice y1 y2 y3,.slice y4 y5 y6,.bool s2,.slice z1 z2 z3,.slice z4 z5 z6,.bool p,.bool q] rfl rfl (blk_news HN.out) (by intro u hu;simp only[List.mem_cons,List.mem_nil_iff,or_false] at hu;rcases hu with rfl|rfl|rfl|rfl|rfl|rfl|rfl|rfl|rfl<;>rfl) (by decide) (by omega) ?_;intro v5' w5 ho hgb hor;obtain⟨a5,cap5,rfl,-,-,-⟩:=own_open ho)
     have HG8:Hid (Grow w w5 w.heap.size 41 9 (.slice a5 (k+1) cap5) (k+1) (cs++[.string nk,.bool s1,.slice y1 y2 y3,.slice y4 y5 y6,.bool s2,.slice z1 z2 z3,.slice z4 z5 z6,.bool p,.bool q]) sideR l):=Lib.hid (HG7.out.append sideR_sub HLE.out ho hgb hor rfl hlt (S:=ab wa.heap.size) HRV.out (fun b hb=>by
      have h1:wa.heap.size≤b:=by simpa [ab] using hb
      have h2:=HSZ.out
      have h3:=HSW.out
      refine⟨by omega,fun he=> ?_⟩
      have:=(HOB.out b he.symm).2
      omega))
     clear ho hgb hor d0 d1 d2 d3 d4 d5 d6 d7 d8 f0 f1 f2 f3 f4 f5 f6 f7
     go_roundw
     case rel=>exact⟨k+1,a5,cap5,_,by omega,by go_num,rfl,HG8⟩
     case measure=>simp[intOf];omega
    ·skip
     go_simp
     refine hK.out _ _ (HS5.out _ (HP.out.kept (Kept.alloc hkwc _))) (fun hHeld=> ?_)
     clear hK K
     try simp only[List.setIfInBounds_toArray,List.set_cons_zero,List.set_cons_succ]
     have HB6:Hid (Blk (wc.alloc (.cells #[.bool false,.slice none 0 0,.slice none 0 0,.bool false,.slice none 0 0,.slice none 0 0,.bool false,.bool false] 39)) (wc.heap.size) #[.bool false,.slice none 0 0,.slice none 0 0,.bool false,.slice none 0 0,.slice none 0 0,.bool false,.bool false] 39):=Lib.hid (Blk.new ..)
     have HZ6:Hid (wa.heap.size≤wc.heap.size):=Lib.hid (show Kept wa wc from hkwc).size
     have hkwe:Kept wa (wc.alloc (.cells #[.bool false,.slice none 0 0,.slice none 0 0,.bool false,.slice none 0 0,.slice none 0 0,.bool false,.bool false] 39)):=(Kept.alloc hkwc _)
     have hke:Kept wc (wc.alloc (.cells #[.bool false,.slice none 0 0,.slice none 0 0,.bool false,.slice none 0 0,.slice none 0 0,.bool false,.bool false] 39)):=(Kept.refl _).alloc _
     replace Hy:=Lib.hid (Rt.sub Hy.out (only_keep hke))
     clear hke
     generalize wc.alloc (.cells #[.bool false,.slice none 0 0,.slice none 0 0,.bool false,.slice none 0 0,.slice none 0 0,.bool false,.bool false] 39)=we at*
     generalize wc.heap.size=b6 at*
     refine wpAnyH_ready (rs:=[7]) (by kernel_rfl) (by simp) (AllReadyH.cons (o:=_) rfl (fun K hK=> ?_) AllReadyH.nil)
     go_simp
     go_at_call 140
     refine(ownRat_fresh (HR2.out.kept hkwe)).mono ?_
     rintro e wd ⟨z1,z2,z3,z4,z5,z6,rfl,hz,hkn⟩
     have hkwd:Kept wa wd:=Kept.trans hkwe hkn
     have Hz:Hid (Rt (onlyW wd (ab wa.heap.size)) (.agg #[.bool s2,.slice z1 z2 z3,.slice z4 z5 z6]) s2 N2 D2):=Lib.hid (hz.sub (only_move fun b _ hs=>⟨by have:=(show Kept wa _ from hkwe).size;simp only[ab,decide_eq_true_eq] at hs⊢;omega,rfl⟩))
     replace HB6:=Lib.hid (HB6.out.kept hkn)
     replace Hy:=Lib.hid (Rt.sub Hy.out (only_keep hkn))
     clear hkn hz
     refine hK.out _ _ (HS5.out _ (HP.out.kept hkwd)) (fun hHeld=> ?_)
     clear hK K
     try simp only[List.setIfInBounds_toArray,List.set_cons_zero,List.set_cons_succ]
     refine wpAnyH_take (i:=14) (oi:=_) (v:= ?_) rfl (by kernel_rfl) (by kernel_rfl) (by kernel_rfl) (fun _ _ _ h=>h) (Or.inl ⟨by rfl,?_⟩) (by assumption) ?_
     rotate_left
     ·intro w hSw;(try dsimp only at hSw);go_simp;first|done|with_reducible rfl
     try simp only[Act.put]
     refine wpAnyH_ready (rs:=[16]) (by kernel_rfl) (by simp) (AllReadyH.cons (o:=_) rfl (fun K hK=> ?_) AllReadyH.nil)
     have hkz:Kept wa wd:=hkwd
     obtain⟨d0,d1,d2,d3,d4,d5,d6,d7,f0,f1,f2,f3,f4,f5,f6,f7⟩:=HB6.out.facts8
     go_simp
     have hkb:KeptB wd ((((((((wd.setCell ⟨b6,0,none⟩ (.bool s1)).setCell ⟨b6,1,none⟩ (.slice y1 y2 y3)).setCell ⟨b6,2,none⟩ (.slice y4 y5 y6)).setCell ⟨b6,3,none⟩ (.bool s2)).setCell ⟨b6,4,none⟩ (.slice z1 z2 z3)).setCell ⟨b6,5,none⟩ (.slice z4 z5 z6)).setCell ⟨b6,6,none⟩ (.bool p)).setCell ⟨b6,7,none⟩ (.bool q)) b6:=KeptB.st8 ..
     have HB7:Hid (Blk ((((((((wd.setCell ⟨b6,0,none⟩ (.bool s1)).setCell ⟨b6,1,none⟩ (.slice y1 y2 y3)).setCell ⟨b6,2,none⟩ (.slice y4 y5 y6)).setCell ⟨b6,3,none⟩ (.bool s2)).setCell ⟨b6,4,none⟩ (.slice z1 z2 z3)).setCell ⟨b6,5,none⟩ (.slice z4 z5 z6)).setCell ⟨b6,6,none⟩ (.bool p)).setCell ⟨b6,7,none⟩ (.bool q)) b6 #[.bool s1,.slice y1 y2 y3,.slice y4 y5 y6,.bool s2,.slice z1 z2 z3,.slice z4 z5 z6,.bool p,.bool q] 39):=Lib.hid (HB6.out.all8 ..)
     have hkg:Kept wa ((((((((wd.setCell ⟨b6,0,none⟩ (.bool s1)).setCell ⟨b6,1,none⟩ (.slice y1 y2 y3)).setCell ⟨b6,2,none⟩ (.slice y4 y5 y6)).setCell ⟨b6,3,none⟩ (.bool s2)).setCell ⟨b6,4,none⟩ (.slice z1 z2 z3)).setCell ⟨b6,5,none⟩ (.slice z4 z5 z6)).setCell ⟨b6,6,none⟩ (.bool p)).setCell ⟨b6,7,none⟩ (.bool q)):=hkz.but hkb HZ6.out
     have hnw:NoWords wd b6:=HB6.out.noWords rfl
     have Hy7:=Lib.hid (Rt.store Hy.out hkb hnw)
     have Hz7:=Lib.hid (Rt.store Hz.out hkb hnw)
     refine hK.out _ _ (HS5.out _ (HP.out.kept hkg)) (fun hHeld=> ?_)
     clear hK K d0 d1 d2 d3 d4 d5 d6 d7 f0 f1 f2 f3 f4 f5 f6 f7 hkb hnw Hy Hz HB6 hkz
     refine wpAnyH_done (by kernel_rfl) ?_ _
     try simp only[List.setIfInBounds_toArray,List.set_cons_zero,List.set_cons_succ]
     generalize ((((((((wd.setCell ⟨b6,0,none⟩ (.bool s1)).setCell ⟨b6,1,none⟩ (.slice y1 y2 y3)).setCell ⟨b6,2,none⟩ (.slice y4 y5 y6)).setCell ⟨b6,3,none⟩ (.bool s2)).setCell ⟨b6,4,none⟩ (.slice z1 z2 z3)).setCell ⟨b6,5,none⟩ (.slice z4 z5 z6)).setCell ⟨b6,6,none⟩ (.bool p)).setCell ⟨b6,7,none⟩ (.bool q))=wg at*
     have HP7:=Lib.hid (HP.out.kept hkg)
     obtain⟨d0,d1,d2,d3,d4,d5,d6,d7,d8,-⟩:=HP7.out.facts9
     obtain⟨f0,f1,f2,f3,f4,f5,f6,f7,-⟩:=HB7.out.facts8
     have hk7:Kept wg (wg.alloc (.cells #[.string nk,.bool s1,.slice y1 y2 y3,.slice y4 y5 y6,.bool s2,.slice z1 z2 z3,.slice z4 z5 z6,.bool p,.bool q] 41)):=(Kept.refl wg).alloc _
     have HG7:=Lib.hid ((HG1.out.kept sideR_sub hkg).kept sideR_sub hk7)
     have HN:=Lib.hid (Blk.new wg #[.string nk,.bool s1,.slice y1 y2 y3,.slice y4 y5 y6,.bool s2,.slice z1 z2 z3,.slice z4 z5 z6,.bool p,.bool q] 41)
     have HLE:Hid (w.heap.size≤(wg.alloc (.cells #[.string nk,.bool s1,.slice y1 y2 y3,.slice y4 y5 y6,.bool s2,.slice z1 z2 z3,.slice z4 z5 z6,.bool p,.bool q] 41)).heap.size):=Lib.hid (Nat.le_trans (Nat.le_trans HSW.out (Nat.le_of_lt (by have:=HSZ.out;omega))) (hkg.trans hk7).size)
     have HRV:Hid (sideR (onlyW (wg.alloc (.cells #[.string nk,.bool s1,.slice y1 y2 y3,.slice y4 y5 y6,.bool s2,.slice z1 z2 z3,.slice z4 z5 z6,.bool p,.bool q] 41)) (ab wa.heap.size)) [.string nk,.bool s1,.slice y1 y2 y3,.slice y4 y5 y6,.bool s2,.slice z1 z2 z3,.slice z4 z5 z6,.bool p,.bool q] l[k]):=Lib.hid (by
      have h1:=Rt.sub Hy7.out (only_keep hk7)
      have h2:=Rt.sub Hz7.out (only_keep hk7)
      refine⟨s1,y1,y2,y3,y4,y5,y6,s2,z1,z2,z3,z4,z5,z6,p,q,by rw[HNK.out],?_⟩
      rw[HIV.out]
      exact⟨y1,y2,y3,y4,y5,y6,z1,z2,z3,z4,z5,z6,rfl,h1,h2⟩)
     clear hk7
     go_wp2_with(at_builtin;refine wpList_append_grow (w:=(wg.alloc (.cells #[.string nk,.bool s1,.slice y1 y2 y3,.slice y4 y5 y6,.bool s2,.slice z1 z2 z3,.slice z4 z5 z6,.bool p,.bool q] 41))) rfl (.tmp 28) (.tmp 33) 28 rfl info41 Tryz.underlying28 rfl (by decide) (by decide) w.heap.size HLE.out _ k cs rfl HG7.out.own ⟨wg.heap.size,0,none⟩ 1 1 [.string nk,.bool s1,.slice y1 y2 y3,.slice y4 y5 y6,.bool s2,.slice z1 z2 z3,.slice z4 z5 z6,.bool p,.bool q] rfl rfl (blk_news HN.out) (by intro u hu;simp only[List.mem_cons,List.mem_nil_iff,or_false] at hu;rcases hu with rfl|rfl|rfl|rfl|rfl|rfl|rfl|rfl|rfl<;>rfl) (by decide) (by omega) ?_;intro v5' w5 ho hgb hor;obtain⟨a5,cap5,rfl,-,-,-⟩:=own_open ho)
     have HG8:Hid (Grow w w5 w.heap.size 41 9 (.slice a5 (k+1) cap5) (k+1) (cs++[.string nk,.bool s1,.slice y1 y2 y3,.slice y4 y5 y6,.bool s2,.slice z1 z2 z3,.slice z4 z5 z6,.bool p,.bool q]) sideR l):=Lib.hid (HG7.out.append sideR_sub HLE.out ho hgb hor rfl hlt (S:=ab wa.heap.size) HRV.out (fun b hb=>by
      have h1:wa.heap.size≤b:=by simpa [ab] using hb
      have h2:=HSZ.out
      have h3:=HSW.out
      refine⟨by omega,fun he=> ?_⟩
      have:=(HOB.out b he.symm).2
      omega))
     clear ho hgb hor d0 d1 d2 d3 d4 d5 d6 d7 d8 f0 f1 f2 f3 f4 f5 f6 f7
     go_roundw
     case rel=>exact⟨k+1,a5,cap5,_,by omega,by go_num,rfl,HG8⟩
     case measure=>simp[intOf];omega
   ·skip
    go_simp
    refine hK.out _ _ (HS5.out _ (HP.out.kept ((Kept.refl wa).alloc _).drew)) (fun hHeld=> ?_)
    clear hK K
    try simp only[List.setIfInBounds_toArray,List.set_cons_zero,List.set_cons_succ]
    have HB6:Hid (Blk ((wa.alloc (.cells #[.bool false,.slice none 0 0,.slice none 0 0,.bool false,.slice none 0 0,.slice none 0 0,.bool false,.bool false] 39)).drew) (wa.heap.size) #[.bool false,.slice none 0 0,.slice none 0 0,.bool false,.slice none 0 0,.slice none 0 0,.bool false,.bool false] 39):=Lib.hid (Blk.newD ..)
    have HZ6:Hid (wa.heap.size≤wa.heap.size):=Lib.hid (Nat.le_refl _)
    have hkwe:Kept wa ((wa.alloc (.cells #[.bool false,.slice none 0 0,.slice none 0 0,.bool false,.slice none 0 0,.slice none 0 0,.bool false,.bool false] 39)).drew):=((Kept.refl wa).alloc _).drew
    generalize (wa.alloc (.cells #[.bool false,.slice none 0 0,.slice none 0 0,.bool false,.slice none 0 0,.slice none 0 0,.bool false,.bool false] 39)).drew=we at*
    obtain⟨b6,hb6⟩:∃b6,b6=wa.heap.size:=⟨_,rfl⟩
    rw[←hb6] at HB6⊢
    replace HZ6:Hid (wa.heap.size≤b6):=Lib.hid (Nat.le_of_eq hb6.symm)
    clear hb6
    refine wpAnyH_ready (rs:=[3]) (by kernel_rfl) (by simp) (AllReadyH.cons (o:=_) rfl (fun K hK=> ?_) AllReadyH.nil)
    go_simp
    go_at_call 140
    refine(ownRat_fresh (HR1.out.kept hkwe)).mono ?_
    rintro e wc ⟨y1,y2,y3,y4,y5,y6,rfl,hy,hkn⟩
    have hkwc:Kept wa wc:=Kept.trans hkwe hkn
    have Hy:Hid (Rt (onlyW wc (ab wa.heap.size)) (.agg #[.bool s1,.slice y1 y2 y3,.slice y4 y5 y6]) s1 N1 D1):=Lib.hid (hy.sub (only_move fun b _ hs=>⟨by have:=(show Kept wa _ from hkwe).size;simp only[ab,decide_eq_true_eq] at hs⊢;omega,rfl⟩))
    replace HB6:=Lib.hid (HB6.out.kept hkn)
    clear hkn hy
    refine hK.out _ _ (HS5.out _ (HP.out.kept hkwc)) (fun hHeld=> ?_)
    clear hK K
    try simp only[List.setIfInBounds_toArray,List.set_cons_zero,List.set_cons_succ]
    refine wpAnyH_ready (rs:=[7]) (by kernel_rfl) (by simp) (AllReadyH.cons (o:=_) rfl (fun K hK=> ?_) AllReadyH.nil)
    go_simp
    go_at_call 140
    refine(ownRat_fresh (HR2.out.kept hkwc)).mono ?_
    rintro e wd ⟨z1,z2,z3,z4,z5,z6,rfl,hz,hkn⟩
    have hkwd:Kept wa wd:=Kept.trans hkwc hkn
    have Hz:Hid (Rt (onlyW wd (ab wa.heap.size)) (.agg #[.bool s2,.slice z1 z2 z3,.slice z4 z5 z6]) s2 N2 D2):=Lib.hid (hz.sub (only_move fun b _ hs=>⟨by have:=(show Kept wa _ from hkwc).size;simp only[ab,decide_eq_true_eq] at hs⊢;omega,rfl⟩))
    replace HB6:=Lib.hid (HB6.out.kept hkn)
    replace Hy:=Lib.hid (Rt.sub Hy.out (only_keep hkn))
    clear hkn hz
    refine hK.out _ _ (HS5.out _ (HP.out.kept hkwd)) (fun hHeld=> ?_)
    clear hK K
    try simp only[List.setIfInBounds_toArray,List.set_cons_zero,List.set_cons_succ]
    refine wpAnyH_take (i:=14) (oi:=_) (v:= ?_) rfl (by kernel_rfl) (by kernel_rfl) (by kernel_rfl) (fun _ _ _ h=>h) (Or.inl ⟨by rfl,?_⟩) (by assumption) ?_
    rotate_left
    ·intro w hSw;(try dsimp only at hSw);go_simp;first|done|with_reducible rfl
    try simp only[Act.put]
    refine wpAnyH_ready (rs:=[16]) (by kernel_rfl) (by simp) (AllReadyH.cons (o:=_) rfl (fun K hK=> ?_) AllReadyH.nil)
    have hkz:Kept wa wd:=hkwd
    obtain⟨d0,d1,d2,d3,d4,d5,d6,d7,f0,f1,f2,f3,f4,f5,f6,f7⟩:=HB6.out.facts8
    go_simp
    have hkb:KeptB wd ((((((((wd.setCell ⟨b6,0,none⟩ (.bool s1)).setCell ⟨b6,1,none⟩ (.slice y1 y2 y3)).setCell ⟨b6,2,none⟩ (.slice y4 y5 y6)).setCell ⟨b6,3,none⟩ (.bool s2)).setCell ⟨b6,4,none⟩ (.slice z1 z2 z3)).setCell ⟨b6,5,none⟩ (.slice z4 z5 z6)).setCell ⟨b6,6,none⟩ (.bool p)).setCell ⟨b6,7,none⟩ (.bool q)) b6:=KeptB.st8 ..
    have HB7:Hid (Blk ((((((((wd.setCell ⟨b6,0,none⟩ (.bool s1)).setCell ⟨b6,1,none⟩ (.slice y1 y2 y3)).setCell ⟨b6,2,none⟩ (.slice y4 y5 y6)).setCell ⟨b6,3,none⟩ (.bool s2)).setCell ⟨b6,4,none⟩ (.slice z1 z2 z3)).setCell ⟨b6,5,none⟩ (.slice z4 z5 z6)).setCell ⟨b6,6,none⟩ (.bool p)).setCell ⟨b6,7,none⟩ (.bool q)) b6 #[.bool s1,.slice y1 y2 y3,.slice y4 y5 y6,.bool s2,.slice z1 z2 z3,.slice z4 z5 z6,.bool p,.bool q] 39):=Lib.hid (HB6.out.all8 ..)
    have hkg:Kept wa ((((((((wd.setCell ⟨b6,0,none⟩ (.bool s1)).setCell ⟨b6,1,none⟩ (.slice y1 y2 y3)).setCell ⟨b6,2,none⟩ (.slice y4 y5 y6)).setCell ⟨b6,3,none⟩ (.bool s2)).setCell ⟨b6,4,none⟩ (.slice z1 z2 z3)).setCell ⟨b6,5,none⟩ (.slice z4 z5 z6)).setCell ⟨b6,6,none⟩ (.bool p)).setCell ⟨b6,7,none⟩ (.bool q)):=hkz.but hkb HZ6.out
    have hnw:NoWords wd b6:=HB6.out.noWords rfl
    have Hy7:=Lib.hid (Rt.store Hy.out hkb hnw)
    have Hz7:=Lib.hid (Rt.store Hz.out hkb hnw)
    refine hK.out _ _ (HS5.out _ (HP.out.kept hkg)) (fun hHeld=> ?_)
    clear hK K d0 d1 d2 d3 d4 d5 d6 d7 f0 f1 f2 f3 f4 f5 f6 f7 hkb hnw Hy Hz HB6 hkz
    refine wpAnyH_done (by kernel_rfl) ?_ _
    try simp only[List.setIfInBounds_toArray,List.set_cons_zero,List.set_cons_succ]
    generalize ((((((((wd.setCell ⟨b6,0,none⟩ (.bool s1)).setCell ⟨b6,1,none⟩ (.slice y1 y2 y3)).setCell ⟨b6,2,none⟩ (.slice y4 y5 y6)).setCell ⟨b6,3,none⟩ (.bool s2)).setCell ⟨b6,4,none⟩ (.slice z1 z2 z3)).setCell ⟨b6,5,none⟩ (.slice z4 z5 z6)).setCell ⟨b6,6,none⟩ (.bool p)).setCell ⟨b6,7,none⟩ (.bool q))=wg at*
    have HP7:=Lib.hid (HP.out.kept hkg)
    obtain⟨d0,d1,d2,d3,d4,d5,d6,d7,d8,-⟩:=HP7.out.facts9
    obtain⟨f0,f1,f2,f3,f4,f5,f6,f7,-⟩:=HB7.out.facts8
    have hk7:Kept wg (wg.alloc (.cells #[.string nk,.bool s1,.slice y1 y2 y3,.slice y4 y5 y6,.bool s2,.slice z1 z2 z3,.slice z4 z5 z6,.bool p,.bool q] 41)):=(Kept.refl wg).alloc _
    have HG7:=Lib.hid ((HG1.out.kept sideR_sub hkg).kept sideR_sub hk7)
    have HN:=Lib.hid (Blk.new wg #[.string nk,.bool s1,.slice y1 y2 y3,.slice y4 y5 y6,.bool s2,.slice z1 z2 z3,.slice z4 z5 z6,.bool p,.bool q] 41)
    have HLE:Hid (w.heap.size≤(wg.alloc (.cells #[.string nk,.bool s1,.slice y1 y2 y3,.slice y4 y5 y6,.bool s2,.slice z1 z2 z3,.slice z4 z5 z6,.bool p,.bool q] 41)).heap.size):=Lib.hid (Nat.le_trans (Nat.le_trans HSW.out (Nat.le_of_lt (by have:=HSZ.out;omega))) (hkg.trans hk7).size)
    have HRV:Hid (sideR (onlyW (wg.alloc (.cells #[.string nk,.bool s1,.slice y1 y2 y3,.slice y4 y5 y6,.bool s2,.slice z1 z2 z3,.slice z4 z5 z6,.bool p,.bool q] 41)) (ab wa.heap.size)) [.string nk,.bool s1,.slice y1 y2 y3,.slice y4 y5 y6,.bool s2,.slice z1 z2 z3,.slice z4 z5 z6,.bool p,.bool q] l[k]):=Lib.hid (by
     have h1:=Rt.sub Hy7.out (only_keep hk7)
     have h2:=Rt.sub Hz7.out (only_keep hk7)
     refine⟨s1,y1,y2,y3,y4,y5,y6,s2,z1,z2,z3,z4,z5,z6,p,q,by rw[HNK.out],?_⟩
     rw[HIV.out]
     exact⟨y1,y2,y3,y4,y5,y6,z1,z2,z3,z4,z5,z6,rfl,h1,h2⟩)
    clear hk7
    go_wp2_with(at_builtin;refine wpList_append_grow (w:=(wg.alloc (.cells #[.string nk,.bool s1,.slice y1 y2 y3,.slice y4 y5 y6,.bool s2,.slice z1 z2 z3,.slice z4 z5 z6,.bool p,.bool q] 41))) rfl (.tmp 28) (.tmp 33) 28 rfl info41 Tryz.underlying28 rfl (by decide) (by decide) w.heap.size HLE.out _ k cs rfl HG7.out.own ⟨wg.heap.size,0,none⟩ 1 1 [.string nk,.bool s1,.slice y1 y2 y3,.slice y4 y5 y6,.bool s2,.slice z1 z2 z3,.slice z4 z5 z6,.bool p,.bool q] rfl rfl (blk_news HN.out) (by intro u hu;simp only[List.mem_cons,List.mem_nil_iff,or_false] at hu;rcases hu with rfl|rfl|rfl|rfl|rfl|rfl|rfl|rfl|rfl<;>rfl) (by decide) (by omega) ?_;intro v5' w5 ho hgb hor;obtain⟨a5,cap5,rfl,-,-,-⟩:=own_open ho)
    have HG8:Hid (Grow w w5 w.heap.size 41 9 (.slice a5 (k+1) cap5) (k+1) (cs++[.string nk,.bool s1,.slice y1 y2 y3,.slice y4 y5 y6,.bool s2,.slice z1 z2 z3,.slice z4 z5 z6,.bool p,.bool q]) sideR l):=Lib.hid (HG7.out.append sideR_sub HLE.out ho hgb hor rfl hlt (S:=ab wa.heap.size) HRV.out (fun b hb=>by
     have h1:wa.heap.size≤b:=by simpa [ab] using hb
     have h2:=HSZ.out
     have h3:=HSW.out
     refine⟨by omega,fun he=> ?_⟩
     have:=(HOB.out b he.symm).2
     omega))
    clear ho hgb hor d0 d1 d2 d3 d4 d5 d6 d7 d8 f0 f1 f2 f3 f4 f5 f6 f7
    go_roundw
    case rel=>exact⟨k+1,a5,cap5,_,by omega,by go_num,rfl,HG8⟩
    case measure=>simp[intOf];omega
  ·obtain rfl:l.length=k:=by omega
   go_wp2
   refine bodyPost_ret (v:=.slice a3 l.length cap3) (by simp[results,Tryz.results139,go_sem]) rfl ⟨a3,cap3,rfl,?_,HKW.out⟩
   obtain⟨a',cap',e1,hcap,-,hcell⟩:=own_open HG.out.own
   cases e1
   refine Bxm.mk hcap hbd (fun i hi=> ?_) ((show RowsIs (sideR _) 9 cs l by have h:=HG.out.rows;rw[List.take_length] at h;exact h).mono (sideR_sub _ _ (only_move fun b hlt hs=>⟨?_,rfl⟩)))
   ·obtain⟨b,hb,ha,hc⟩:=hcell i hi
    refine⟨b,ha,?_⟩
    rw[cell_only,if_pos (by simpa [ab] using hb)]
    exact hc
   ·simp only[S1,Bool.and_eq_true,decide_eq_true_eq] at hs
    simpa [ab] using hs.1
end Go.Proofs.YtbapfnpbamnmpaaGreatDoor
end
