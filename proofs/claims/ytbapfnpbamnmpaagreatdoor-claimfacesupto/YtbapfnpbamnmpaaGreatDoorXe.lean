/- A part of the proof that ClaimFaces answers true for every input of bulk at most 1048576: conditions: the row's own. -/
import Derived.Test.YtbapfnpbamnmpaaGreatDoorXc
namespace Go.Proofs.YtbapfnpbamnmpaaGreatDoor
open Go Go.RowKit Go.Dig
open Go.Eng (Kept KW KeptB wp_region_kw kw_call)
def sameBs:List SideD→List SideD→Bool
 |[],_=>true
 |_::_,[]=>true
 |s::r,s'::r'=>(s.name.toList==s'.name.toList)&&sameI s.iv s'.iv&&sameBs r r'
theorem sameBs_drop{l l':List SideD}{k:Nat}(h:k<l.length)(h':k<l'.length):
 sameBs (l.drop k) (l'.drop k)=((l[k].name.toList==l'[k].name.toList)&&sameI l[k].iv l'[k].iv&&sameBs (l.drop (k+1)) (l'.drop (k+1))):=by
 rw[List.drop_eq_getElem_cons h,List.drop_eq_getElem_cons h',sameBs]
theorem sameBs_end{l l':List SideD}{k:Nat}(h:l.length≤k):sameBs (l.drop k) (l'.drop k)=true:=by
 rw[List.drop_of_length_le h,sameBs]
def sameB(l l':List SideD):Bool:=((l.length:Int)==(l'.length:Int))&&sameBs l l'
def ivsOk(l:List SideD):Prop:=∀k,(h:k<l.length)→l[k].iv.fine=true∧l[k].iv.void=false
theorem ivs_of_ok{l:List SideD}(h:boxOk l=true):ivsOk l:=by
 intro k hk
 unfold boxOk at h
 simp only[Bool.and_eq_true,List.all_eq_true] at h
 have h2:=h.2 k (List.mem_range.2 hk)
 unfold sideOk at h2
 rw[getD_at hk] at h2
 simp only[Bool.and_eq_true,Bool.not_eq_true'] at h2
 exact⟨h2.1.2,h2.2⟩
set_option maxHeartbeats 4000000 in
set_option maxRecDepth 100000 in
theorem samebox_calls{w:World}{a a':Option Addr}{n cap n' cap':Nat}{l l':List SideD}(h:Bxm w a n cap l)(h':Bxm w a' n' cap' l')(ho:ivsOk l)(ho':ivsOk l'):
 Calls Tryz.prog 58 #[.slice a n cap,.slice a' n' cap'] w fun e w'=>e= .returned (.bool (sameB l l'))∧Kept w w':=by
 obtain⟨rfl,hc,hbd,hi⟩:=h
 obtain⟨rfl,hc',hbd',hi'⟩:=h'
 have HS:Hid (sameB l l'=(((l.length:Int)==(l'.length:Int))&&sameBs l l')):=Lib.hid rfl
 generalize sameB l l'=res at*
 rcases Bool.eq_false_or_eq_true ((l.length:Int) !=(l'.length:Int)) with b4|b4
 ·have c4:((l.length:Int)==(l'.length:Int))=false:=by rw[←Bool.not_eq_true',←bne];exact b4
  have HR:Hid (res=false):=Lib.hid (by rw[HS.out,c4];rfl)
  clear hi hi' HS c4 ho ho'
  go_enter Tryz.func58,Tryz.ntmps58
  go_wp2
  go_ret
  exact⟨by rw[HR.out];rfl,Kept.refl _⟩
 have c4:((l.length:Int)==(l'.length:Int))=true:=by rw[←Bool.not_eq_false',←bne];exact b4
 have HLEN:=Lib.hid (show l.length=l'.length by have:=c4;simp at this;omega)
 have HR:Hid (res=sameBs l l'):=Lib.hid (by rw[HS.out,c4];rfl)
 clear HS c4
 go_enter Tryz.func58,Tryz.ntmps58
 go_wp2
 go_loopw [5] (fun i wr=>∃(k:Nat),k≤l.length∧i= .int .i64 (k:Int)∧Hid (sameBs (l.drop k) (l'.drop k)=sameBs l l')∧Kept w wr) (fun i _=>l.length-(intOf i).toNat)
 case atStart=>exact⟨0,Nat.zero_le _,rfl,Lib.hid rfl,Kept.refl _⟩
 case round=>
  obtain⟨k,hkk,rfl,HST,hkw⟩:=hrel
  by_cases hlt:k<l.length
  ·have hlt':k<l'.length:=by have:=HLEN.out;omega
   obtain⟨b,off,s1,a1,n1,c1,a2,n2,c2,s2,a3,n3,c3,a4,n4,c4,p,q,rfl,h0,h1,h2,h3,h4,h5,h6,h7,h8,hv⟩:=hi k hlt
   obtain⟨b',off',t1,e1,m1,d1,e2,m2,d2,t2,e3,m3,d3,e4,m4,d4,p',q',rfl,g0,g1,g2,g3,g4,g5,g6,g7,g8,hv'⟩:=hi' k hlt'
   have hcl:=fun(w':World)(k':Kept w w')=>isame_calls (hv.kept k') (hv'.kept k') (ho k hlt).1 (ho' k hlt').1 (ho k hlt).2 (ho' k hlt').2
   have hcs:=sameBs_drop hlt hlt'
   rw[HST.out] at hcs
   clear hi hi' hv hv' ho ho'
   generalize hnk:l[k].name=nk at*
   generalize hnk':l'[k].name=nk' at*
   have HNK:=Lib.hid (And.intro hnk hnk');clear hnk hnk'
   generalize sameI l[k].iv l'[k].iv=si at*
   go_wp2_with fail
   have z0:=fun(k:KW wr)=>k.kept.cell (hkw.cell h0)
   have z1:=fun(k:KW wr)=>k.kept.cell (hkw.cell h1)
   have z2:=fun(k:KW wr)=>k.kept.cell (hkw.cell h2)
   have z3:=fun(k:KW wr)=>k.kept.cell (hkw.cell h3)
   have z4:=fun(k:KW wr)=>k.kept.cell (hkw.cell h4)
   have z5:=fun(k:KW wr)=>k.kept.cell (hkw.cell h5)
   have z6:=fun(k:KW wr)=>k.kept.cell (hkw.cell h6)
   have z7:=fun(k:KW wr)=>k.kept.cell (hkw.cell h7)
   have z8:=fun(k:KW wr)=>k.kept.cell (hkw.cell h8)
   have y0:=fun(k:KW wr)=>k.kept.cell (hkw.cell g0)
   have y1:=fun(k:KW wr)=>k.kept.cell (hkw.cell g1)
   have y2:=fun(k:KW wr)=>k.kept.cell (hkw.cell g2)
   have y3:=fun(k:KW wr)=>k.kept.cell (hkw.cell g3)
   have y4:=fun(k:KW wr)=>k.kept.cell (hkw.cell g4)
   have y5:=fun(k:KW wr)=>k.kept.cell (hkw.cell g5)
   have y6:=fun(k:KW wr)=>k.kept.cell (hkw.cell g6)
   have y7:=fun(k:KW wr)=>k.kept.cell (hkw.cell g7)
   have y8:=fun(k:KW wr)=>k.kept.cell (hkw.cell g8)
   clear h0 h1 h2 h3 h4 h5 h6 h7 h8 g0 g1 g2 g3 g4 g5 g6 g7 g8
   have hcl:=fun(k:KW wr)=>hcl k.w (hkw.trans k.kept)
   cases hq:(nk.toList==nk'.toList)
   ·rw[hq] at hcs
    have HR2:Hid (res=false):=Lib.hid (by rw[HR.out,hcs];rfl)
    clear hcs
    refine wp_region_kw wr (Kept.refl _) (by kernel_rfl) (by kernel_rfl) ?_
    repeat (go_big_quiet_step (first|(go_at_call 133;exact kw_call (hcl _))))
    refine wpQuiet_nil ?_
    rintro _ ⟨k2,rfl⟩
    clear hcl
    go_wp2
    go_ret
    exact⟨by rw[HR2.out];rfl,hkw.trans k2.kept⟩
   rw[hq] at hcs
   cases si
   ·have HR2:Hid (res=false):=Lib.hid (by rw[HR.out,hcs];rfl)
    clear hcs
    refine wp_region_kw wr (Kept.refl _) (by kernel_rfl) (by kernel_rfl) ?_
    repeat (go_big_quiet_step (first|(go_at_call 133;exact kw_call (hcl _))))
    refine wpQuiet_nil ?_
    rintro _ ⟨k2,rfl⟩
    clear hcl
    go_wp2
    go_ret
    exact⟨by rw[HR2.out];rfl,hkw.trans k2.kept⟩
   ·have HCS:=Lib.hid hcs;clear hcs
    refine wp_region_kw wr (Kept.refl _) (by kernel_rfl) (by kernel_rfl) ?_
    repeat (go_big_quiet_step (first|(go_at_call 133;exact kw_call (hcl _))))
    refine wpQuiet_nil ?_
    rintro _ ⟨k2,rfl⟩
    clear hcl
    go_wp2
    go_roundw
    case rel=>exact⟨k+1,by omega,by go_num,Lib.hid HCS.out.symm,hkw.trans k2.kept⟩
    case measure=>simp[intOf];omega
  ·obtain rfl:l.length=k:=by omega
   clear hi hi' ho ho'
   have HR2:Hid (res=true):=Lib.hid (by rw[HR.out,←HST.out];exact sameBs_end (Nat.le_refl _))
   go_wp2
   go_ret
   exact⟨by rw[HR2.out];rfl,hkw⟩
def sameCs:List CondD→List CondD→Bool
 |[],_=>true
 |_::_,[]=>true
 |c::r,c'::r'=>sameT c.t c'.t&&(c.strict==c'.strict)&&sameCs r r'
theorem sameCs_drop{l l':List CondD}{k:Nat}(h:k<l.length)(h':k<l'.length):
 sameCs (l.drop k) (l'.drop k)=(sameT l[k].t l'[k].t&&(l[k].strict==l'[k].strict)&&sameCs (l.drop (k+1)) (l'.drop (k+1))):=by
 rw[List.drop_eq_getElem_cons h,List.drop_eq_getElem_cons h',sameCs]
theorem sameCs_end{l l':List CondD}{k:Nat}(h:l.length≤k):sameCs (l.drop k) (l'.drop k)=true:=by
 rw[List.drop_of_length_le h,sameCs]
def sameC(c d:ClaimD):Bool:=sameT c.goal d.goal&&(c.strict==d.strict)&&sameB c.box d.box&&((c.conds.length:Int)==(d.conds.length:Int))&&sameCs c.conds d.conds
theorem ok_parts{c:ClaimD}(h:c.ok=true):boxOk c.box=true∧c.goal.ok=true∧c.conds.length≤12∧∀k,(hk:k<c.conds.length)→c.conds[k].t.ok=true:=by
 unfold ClaimD.ok at h
 simp only[Bool.and_eq_true,List.all_eq_true,decide_eq_true_eq] at h
 refine⟨h.1.1.1.1,h.1.1.2,h.1.1.1.2,fun k hk=> ?_⟩
 have:=h.2 _ (List.getElem_mem hk)
 unfold condOk at this
 simp only[Bool.and_eq_true] at this
 exact this.1
set_option maxHeartbeats 8000000 in
set_option maxRecDepth 100000 in
theorem csame_calls{f f':Nat}{w:World}{v u:Value}{c d:ClaimD}(h:Clm w f v c)(h':Clm w f' u d)(ho:c.ok=true)(ho':d.ok=true):
 Calls Tryz.prog 18 #[v,u] w fun e w'=>e= .returned (.bool (sameC c d))∧Kept w w':=by
 obtain⟨p1,p2,-,p4⟩:=ok_parts ho
 obtain⟨q1,q2,-,q4⟩:=ok_parts ho'
 obtain⟨o,g,z,x1,x2,x3,x4,x5,x6,nm,a0,n0,cap0,a1,n1,cap1,a2,n2,cap2,rfl,hg,hb,hc⟩:=h
 obtain⟨o',g',z',x1',x2',x3',x4',x5',x6',nm',a0',n0',cap0',a1',n1',cap1',a2',n2',cap2',rfl,hg',hb',hc'⟩:=h'
 have hgs:=fun(w':World)(k:Kept w w')=>r57_calls f (hg.kept k) (hg'.kept k) (nums_of_ok p2) (nums_of_ok q2)
 have hbs:=fun(w':World)(k:Kept w w')=>samebox_calls (hb.kept k) (hb'.kept k) (ivs_of_ok p1) (ivs_of_ok q1)
 have hce:n2=c.conds.length:=hc.1
 have hce':n2'=d.conds.length:=hc'.1
 have HCE:=Lib.hid hce
 have HCE':=Lib.hid hce'
 have HC:=Lib.hid hc.2.2.2
 have HC':=Lib.hid hc'.2.2.2
 have HN:=Lib.hid (fun k(hk:k<c.conds.length)=>nums_of_ok (p4 k hk))
 have HN':=Lib.hid (fun k(hk:k<d.conds.length)=>nums_of_ok (q4 k hk))
 have hn2:n2<4611686018427387904:=hc.2.2.1
 have hn2':n2'<4611686018427387904:=hc'.2.2.1
 clear hc hc' hb hb' hg hg' ho ho' p1 p2 p4 q1 q2 q4
 have HS:Hid (sameC c d=(sameT c.goal d.goal&&(c.strict==d.strict)&&sameB c.box d.box&&((n2:Int)==(n2':Int))&&sameCs c.conds d.conds)):=Lib.hid (by rw[hce,hce'];rfl)
 clear hce hce'
 generalize sameC c d=res at*
 generalize sameT c.goal d.goal=s1 at*
 generalize sameB c.box d.box=s2 at*
 generalize c.strict=st at*
 generalize d.strict=st' at*
 have hA:=Blk.new w #[.int .i64 o,.int .i64 g,.bool z,.slice x1 x2 x3,.slice x4 x5 x6,.string nm,.slice a0 n0 cap0,.bool st,.slice a1 n1 cap1,.slice a2 n2 cap2] 31
 have hB:=Blk.new (w.alloc (.cells #[.int .i64 o,.int .i64 g,.bool z,.slice x1 x2 x3,.slice x4 x5 x6,.string nm,.slice a0 n0 cap0,.bool st,.slice a1 n1 cap1,.slice a2 n2 cap2] 31)) #[.int .i64 o',.int .i64 g',.bool z',.slice x1' x2' x3',.slice x4' x5' x6',.string nm',.slice a0' n0' cap0',.bool st',.slice a1' n1' cap1',.slice a2' n2' cap2'] 31
 rw[show(w.alloc (.cells #[.int .i64 o,.int .i64 g,.bool z,.slice x1 x2 x3,.slice x4 x5 x6,.string nm,.slice a0 n0 cap0,.bool st,.slice a1 n1 cap1,.slice a2 n2 cap2] 31)).heap.size=w.heap.size+1 from Array.size_push _] at hB
 have hk1:Kept w (w.alloc (.cells #[.int .i64 o,.int .i64 g,.bool z,.slice x1 x2 x3,.slice x4 x5 x6,.string nm,.slice a0 n0 cap0,.bool st,.slice a1 n1 cap1,.slice a2 n2 cap2] 31)):=(Kept.refl w).alloc _
 have hk2:Kept (w.alloc (.cells #[.int .i64 o,.int .i64 g,.bool z,.slice x1 x2 x3,.slice x4 x5 x6,.string nm,.slice a0 n0 cap0,.bool st,.slice a1 n1 cap1,.slice a2 n2 cap2] 31)) ((w.alloc (.cells #[.int .i64 o,.int .i64 g,.bool z,.slice x1 x2 x3,.slice x4 x5 x6,.string nm,.slice a0 n0 cap0,.bool st,.slice a1 n1 cap1,.slice a2 n2 cap2] 31)).alloc (.cells #[.int .i64 o',.int .i64 g',.bool z',.slice x1' x2' x3',.slice x4' x5' x6',.string nm',.slice a0' n0' cap0',.bool st',.slice a1' n1' cap1',.slice a2' n2' cap2'] 31)):=(Kept.refl _).alloc _
 replace hA:=hA.kept hk2
 have hk:=hk1.trans hk2
 clear hk1 hk2
 obtain⟨e0,e1,e2,e3,e4,e5,e6,e7,e8,e9,-⟩:=hA.facts10
 obtain⟨d0,d1,d2,d3,d4,d5,d6,d7,d8,d9,-⟩:=hB.facts10
 cases s1
 ·have HR:Hid (res=false):=Lib.hid (by rw[HS.out];rfl)
  clear hbs HS
  go_enter Tryz.func18,Tryz.ntmps18
  go_wp2_with(first|(go_at_call 57;refine(hgs _ hk).mono ?_;rintro e w1 ⟨rfl,hk1⟩))
  go_ret
  exact⟨by rw[HR.out];rfl,hk.trans hk1⟩
 by_cases hst:st=st'
 rotate_left
 ·have HR:Hid (res=false):=Lib.hid (by rw[HS.out,beq_false_of_ne hst];rfl)
  clear hbs HS
  cases st<;>cases st'<;>first|exact absurd rfl hst|(clear hst;go_enter Tryz.func18,Tryz.ntmps18
                                                     go_wp2_with(first|(go_at_call 57;refine(hgs _ hk).mono ?_;rintro e w1 ⟨rfl,hk1⟩;replace hA:=hA.kept hk1;replace hB:=hB.kept hk1;clear e0 e1 e2 e3 e4 e5 e6 e7 e8 e9 d0 d1 d2 d3 d4 d5 d6 d7 d8 d9;obtain⟨e0,e1,e2,e3,e4,e5,e6,e7,e8,e9,-⟩:=hA.facts10;obtain⟨d0,d1,d2,d3,d4,d5,d6,d7,d8,d9,-⟩:=hB.facts10))
                                                     go_ret
                                                     exact⟨by rw[HR.out];rfl,hk.trans hk1⟩)
 subst hst
 rw[beq_self_eq_true] at HS
 cases s2
 ·have HR:Hid (res=false):=Lib.hid (by rw[HS.out];rfl)
  clear HS
  go_enter Tryz.func18,Tryz.ntmps18
  go_wp2_with(first|(go_at_call 57;refine(hgs _ hk).mono ?_;rintro e w1 ⟨rfl,hk1⟩;replace hA:=hA.kept hk1;replace hB:=hB.kept hk1;clear e0 e1 e2 e3 e4 e5 e6 e7 e8 e9 d0 d1 d2 d3 d4 d5 d6 d7 d8 d9;obtain⟨e0,e1,e2,e3,e4,e5,e6,e7,e8,e9,-⟩:=hA.facts10;obtain⟨d0,d1,d2,d3,d4,d5,d6,d7,d8,d9,-⟩:=hB.facts10)|(go_at_call 58;refine(hbs _ (hk.trans hk1)).mono ?_;rintro e w2 ⟨rfl,hk2⟩))
  go_ret
  exact⟨by rw[HR.out];rfl,(hk.trans hk1).trans hk2⟩
 rcases Bool.eq_false_or_eq_true ((n2:Int) !=(n2':Int)) with b4|b4
 ·have c4:((n2:Int)==(n2':Int))=false:=by rw[←Bool.not_eq_true',←bne];exact b4
  have HR:Hid (res=false):=Lib.hid (by rw[HS.out,c4];rfl)
  clear HS c4
  go_enter Tryz.func18,Tryz.ntmps18
  go_wp2_with(first|(go_at_call 57;refine(hgs _ hk).mono ?_;rintro e w1 ⟨rfl,hk1⟩;replace hA:=hA.kept hk1;replace hB:=hB.kept hk1;clear e0 e1 e2 e3 e4 e5 e6 e7 e8 e9 d0 d1 d2 d3 d4 d5 d6 d7 d8 d9;obtain⟨e0,e1,e2,e3,e4,e5,e6,e7,e8,e9,-⟩:=hA.facts10;obtain⟨d0,d1,d2,d3,d4,d5,d6,d7,d8,d9,-⟩:=hB.facts10)|(go_at_call 58;refine(hbs _ (hk.trans hk1)).mono ?_;rintro e w2 ⟨rfl,hk2⟩;replace hA:=hA.kept hk2;replace hB:=hB.kept hk2;clear e0 e1 e2 e3 e4 e5 e6 e7 e8 e9 d0 d1 d2 d3 d4 d5 d6 d7 d8 d9;obtain⟨e0,e1,e2,e3,e4,e5,e6,e7,e8,e9,-⟩:=hA.facts10;obtain⟨d0,d1,d2,d3,d4,d5,d6,d7,d8,d9,-⟩:=hB.facts10))
  go_ret
  exact⟨by rw[HR.out];rfl,(hk.trans hk1).trans hk2⟩
 have c4:((n2:Int)==(n2':Int))=true:=by rw[←Bool.not_eq_false',←bne];exact b4
 have HLEN:=Lib.hid (show n2=n2' by have:=c4;simp at this;omega)
 have HR:Hid (res=sameCs c.conds d.conds):=Lib.hid (by rw[HS.out,c4];rfl)
 clear HS c4
 go_enter Tryz.func18,Tryz.ntmps18
 go_wp2_with(first|(go_at_call 57;refine(hgs _ hk).mono ?_;rintro e w1 ⟨rfl,hk1⟩;replace hA:=hA.kept hk1;replace hB:=hB.kept hk1;clear e0 e1 e2 e3 e4 e5 e6 e7 e8 e9 d0 d1 d2 d3 d4 d5 d6 d7 d8 d9;obtain⟨e0,e1,e2,e3,e4,e5,e6,e7,e8,e9,-⟩:=hA.facts10;obtain⟨d0,d1,d2,d3,d4,d5,d6,d7,d8,d9,-⟩:=hB.facts10)|(go_at_call 58;refine(hbs _ (hk.trans hk1)).mono ?_;rintro e w2 ⟨rfl,hk2⟩;replace hA:=hA.kept hk2;replace hB:=hB.kept hk2;clear e0 e1 e2 e3 e4 e5 e6 e7 e8 e9 d0 d1 d2 d3 d4 d5 d6 d7 d8 d9;obtain⟨e0,e1,e2,e3,e4,e5,e6,e7,e8,e9,-⟩:=hA.facts10;obtain⟨d0,d1,d2,d3,d4,d5,d6,d7,d8,d9,-⟩:=hB.facts10))
 have hkb:=(hk.trans hk1).trans hk2
 clear hgs hbs hk hk1 hk2 e0 e1 e2 e3 e4 e5 e6 e7 e8 e9 d0 d1 d2 d3 d4 d5 d6 d7 d8 d9 b4
 go_loopw [5] (fun i wr=>∃(k:Nat),k≤n2∧i= .int .i64 (k:Int)∧Hid (sameCs (c.conds.drop k) (d.conds.drop k)=sameCs c.conds d.conds)∧Kept w wr∧Kept w2 wr) (fun i _=>n2-(intOf i).toNat)
 case atStart=>exact⟨0,Nat.zero_le _,rfl,Lib.hid rfl,hkb,Kept.refl _⟩
 case round=>
  obtain⟨k,hkk,rfl,HST,hkw,hkw2⟩:=hrel
  obtain⟨-,-,-,-,-,-,-,-,-,e9,-⟩:=(hA.kept hkw2).facts10
  obtain⟨-,-,-,-,-,-,-,-,-,d9,-⟩:=(hB.kept hkw2).facts10
  by_cases hlt:k<n2
  ·have hlt':k<n2':=by have:=HLEN.out;omega
   have hl:k<c.conds.length:=by have:=HCE.out;omega
   have hl':k<d.conds.length:=by have:=HCE'.out;omega
   obtain⟨b,off,r0,r1,r2,u1,u2,u3,u4,u5,u6,um,ua,un,ucap,rfl,q0,q1,q2,q3,q4,q5,q6,q7,hex⟩:=HC.out k hl
   obtain⟨b',off',r0',r1',r2',v1,v2,v3,v4,v5,v6,vm,va,vn,vcap,rfl,m0,m1,m2,m3,m4,m5,m6,m7,hex'⟩:=HC'.out k hl'
   have hcl:=fun(w':World)(k':Kept w w')=>r57_calls f (hex.kept k') (hex'.kept k') (HN.out k hl) (HN'.out k hl')
   have hcs:=sameCs_drop hl hl'
   rw[HST.out] at hcs
   clear hex hex'
   generalize c.conds[k].strict=tt at*
   generalize d.conds[k].strict=tt' at*
   generalize sameT c.conds[k].t d.conds[k].t=si at*
   go_wp2_with fail
   have z0:=fun(k:KW wr)=>k.kept.cell (hkw.cell q0)
   have z1:=fun(k:KW wr)=>k.kept.cell (hkw.cell q1)
   have z2:=fun(k:KW wr)=>k.kept.cell (hkw.cell q2)
   have z3:=fun(k:KW wr)=>k.kept.cell (hkw.cell q3)
   have z4:=fun(k:KW wr)=>k.kept.cell (hkw.cell q4)
   have z5:=fun(k:KW wr)=>k.kept.cell (hkw.cell q5)
   have z6:=fun(k:KW wr)=>k.kept.cell (hkw.cell q6)
   have z7:=fun(k:KW wr)=>k.kept.cell (hkw.cell q7)
   have y0:=fun(k:KW wr)=>k.kept.cell (hkw.cell m0)
   have y1:=fun(k:KW wr)=>k.kept.cell (hkw.cell m1)
   have y2:=fun(k:KW wr)=>k.kept.cell (hkw.cell m2)
   have y3:=fun(k:KW wr)=>k.kept.cell (hkw.cell m3)
   have y4:=fun(k:KW wr)=>k.kept.cell (hkw.cell m4)
   have y5:=fun(k:KW wr)=>k.kept.cell (hkw.cell m5)
   have y6:=fun(k:KW wr)=>k.kept.cell (hkw.cell m6)
   have y7:=fun(k:KW wr)=>k.kept.cell (hkw.cell m7)
   have z9:=fun(k:KW wr)=>k.kept.cell e9
   have y9:=fun(k:KW wr)=>k.kept.cell d9
   clear q0 q1 q2 q3 q4 q5 q6 q7 m0 m1 m2 m3 m4 m5 m6 m7 e9 d9
   have hcl:=fun(k:KW wr)=>hcl k.w (hkw.trans k.kept)
   cases si
   ·have HR2:Hid (res=false):=Lib.hid (by rw[HR.out,hcs];rfl)
    clear hcs
    refine wp_region_kw wr (Kept.refl _) (by kernel_rfl) (by kernel_rfl) ?_
    repeat (go_big_quiet_step (first|(go_at_call 57;exact kw_call (hcl _))))
    refine wpQuiet_nil ?_
    rintro _ ⟨k2,rfl⟩
    clear hcl
    go_wp2
    go_ret
    exact⟨by rw[HR2.out];rfl,hkw.trans k2.kept⟩
   by_cases htt:tt=tt'
   ·subst htt
    rw[beq_self_eq_true] at hcs
    have HCS:=Lib.hid hcs;clear hcs
    refine wp_region_kw wr (Kept.refl _) (by kernel_rfl) (by kernel_rfl) ?_
    repeat (go_big_quiet_step (first|(go_at_call 57;exact kw_call (hcl _))))
    refine wpQuiet_nil ?_
    rintro _ ⟨k2,rfl⟩
    clear hcl
    go_wp2
    go_roundw
    case rel=>exact⟨k+1,by omega,by go_num,Lib.hid HCS.out.symm,hkw.trans k2.kept,hkw2.trans k2.kept⟩
    case measure=>simp[intOf];omega
   ·rw[beq_false_of_ne htt] at hcs
    have HR2:Hid (res=false):=Lib.hid (by rw[HR.out,hcs];rfl)
    clear hcs
    cases tt<;>cases tt'<;>first|exact absurd rfl htt|(clear htt
                                                       refine wp_region_kw wr (Kept.refl _) (by kernel_rfl) (by kernel_rfl) ?_
                                                       repeat (go_big_quiet_step (first|(go_at_call 57;exact kw_call (hcl _))))
                                                       refine wpQuiet_nil ?_
                                                       rintro _ ⟨k2,rfl⟩
                                                       clear hcl
                                                       go_wp2
                                                       go_ret
                                                       exact⟨by rw[HR2.out];rfl,hkw.trans k2.kept⟩)
  ·obtain rfl:n2=k:=by omega
   have HR2:Hid (res=true):=Lib.hid (by rw[HR.out,←HST.out];exact sameCs_end (Nat.le_of_eq HCE.out.symm))
   go_wp2
   go_ret
   exact⟨by rw[HR2.out];rfl,hkw⟩
theorem sameR_refl(s:Bool)(N D:Nat):sameR s N D s N D=true:=by
 unfold sameR
 rw[qcmp_sg,Int.sub_self]
 rfl
mutual
theorem sameT_refl:∀(t:Tree),sameT t t=true
 | .node op arg s N D name kids=>by
   rw[sameT,sameR_refl,sameTs_refl kids]
   simp
theorem sameTs_refl:∀(ts:List Tree),sameTs ts ts=true
 |[]=>by rw[sameTs]
 |t::ts=>by rw[sameTs,sameT_refl t,sameTs_refl ts];rfl
end
theorem sameI_refl(i:IvD):sameI i i=true:=by
 unfold sameI
 rw[qcmp_sg,qcmp_sg,Int.sub_self,Int.sub_self]
 simp[sg]
theorem sameBs_refl:∀(l:List SideD),sameBs l l=true
 |[]=>by rw[sameBs]
 |s::l=>by rw[sameBs,sameI_refl,sameBs_refl l];simp
theorem sameCs_refl:∀(l:List CondD),sameCs l l=true
 |[]=>by rw[sameCs]
 |s::l=>by rw[sameCs,sameT_refl,sameCs_refl l];simp
theorem sameC_refl(c:ClaimD):sameC c c=true:=by
 unfold sameC sameB
 rw[sameT_refl,sameBs_refl,sameCs_refl]
 simp
end Go.Proofs.YtbapfnpbamnmpaaGreatDoor
