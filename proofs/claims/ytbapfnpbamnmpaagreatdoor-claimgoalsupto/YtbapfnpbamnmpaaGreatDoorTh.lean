/- A part of the proof that ClaimGoals answers true for every input of bulk at most 1048576: conditions: the row's own. -/
import Derived.Test.YtbapfnpbamnmpaaGreatDoorTg
import Derived.Deep.RegionHeld3
namespace Go.Proofs.YtbapfnpbamnmpaaGreatDoor
open Go Go.RowKit Go.Dig
open Go.Eng (Kept KW KeptB wp_region_kw kw_call)
theorem iof_flag{w:World}{v:Value}{i:IvD}(h:Ivl w v i)(hf:i.fine=true):Calls Tryz.prog 47 #[v] w fun e w'=>
 ∃(p1:Bool)(a:Option Addr)(n c:Nat)(a':Option Addr)(n' c':Nat)(p2:Bool)(b:Option Addr)(m e1:Nat)(b':Option Addr)(m' e2:Nat)(li hi:Bool),
  e= .returned (.agg #[.bool p1,.slice a n c,.slice a' n' c',.bool p2,.slice b m e1,.slice b' m' e2,.bool li,.bool hi,.bool i.void])∧Kept w w':=
 (iof_calls h hf).mono fun e w' hr=>by
   obtain⟨v,rfl,hk,hq⟩:=hr
   cases hv:i.void
   ·rw[hv,if_neg (by simp)] at hq
    obtain⟨a,n,c,a',n',c',b,m,e,b',m',e',rfl,-⟩:=hq
    exact⟨_,_,_,_,_,_,_,_,_,_,_,_,_,_,_,_,rfl,hk⟩
   ·rw[hv,if_pos rfl] at hq
    obtain⟨a,n,c,a',n',c',b,m,e,b',m',e',rfl,-⟩:=hq
    exact⟨_,_,_,_,_,_,_,_,_,_,_,_,_,_,_,_,rfl,hk⟩
theorem fld99(q1:Bool)(x1:Option Addr)(x2 x3:Nat)(x4:Option Addr)(x5 x6:Nat)(q2:Bool)(y1:Option Addr)(y2 y3:Nat)(y4:Option Addr)(y5 y6:Nat)(li hi vd:Bool)(w:World):
 (Instr.field 99 (.agg #[.bool q1,.slice x1 x2 x3,.slice x4 x5 x6,.bool q2,.slice y1 y2 y3,.slice y4 y5 y6,.bool li,.bool hi,.bool vd]) 4).run Tryz.prog w= .ok (.bool vd) w:=by kernel_rfl
theorem wrap_small{x:Int}(h0:0≤x)(h1:x<4611686018427387904):IntKind.i64.wrap x=x:=by
 have h2:((2:Int)^64)=18446744073709551616:=by decide
 have h3:((2:Int)^63)=9223372036854775808:=by decide
 simp[IntKind.wrap,IntKind.bits,IntKind.signed]
 omega
set_option maxHeartbeats 4000000 in
set_option maxRecDepth 100000 in
theorem r5valid_calls{w:World}{a:Option Addr}{n cap:Nat}{l:List SideD}(h:Bxm w a n cap l):
 Calls Tryz.prog 74 #[.slice a n cap] w fun e w'=>e= .returned (.bool (boxOk l))∧Kept w w':=by
 obtain⟨rfl,hc,hbd,hi⟩:=h
 by_cases h6:6<l.length
 ·have t6:decide (6<(l.length:Int))=true:=by simp;omega
  go_enter Tryz.func74,Tryz.ntmps74
  go_wp2
  go_ret
  exact⟨by rw[boxOk_big h6];rfl,Kept.refl w⟩
 have t6:decide (6<(l.length:Int))=false:=by simp;omega
 go_enter Tryz.func74,Tryz.ntmps74
 go_wp2
 go_loopw [10] (fun s wr=>∃k:Nat,k≤l.length∧s= .int .i64 (k:Int)∧(∀j,j<k→sideOk l j=true)∧Kept w wr) (fun s _=>l.length-(intOf s).toNat)
 case atStart=>exact⟨0,Nat.zero_le _,rfl,fun j h=>absurd h (Nat.not_lt_zero j),Kept.refl w⟩
 case round=>
  obtain⟨k,hk,rfl,hok,hkw⟩:=hrel
  have HOK:=Lib.hid hok;clear hok
  have H6:Hid (l.length≤6):=Lib.hid (by omega)
  by_cases hlt:k<l.length
  ·obtain⟨b,off,s1,a1,n1,c1,a2,n2,c2,s2,a3,n3,c3,a4,n4,c4,p,q,rfl,h0,h1,h2,h3,h4,h5,h6,h7,h8,hv⟩:=hi k hlt
   have HNK:Hid (∃nk iv,l[k].name=nk∧l[k].iv=iv):=Lib.hid ⟨_,_,rfl,rfl⟩
   have hlg:=fun(w':World)(hk':Kept w w')=>ilarge_calls (hv.kept hk')
   have hof:=fun(w':World)(hk':Kept w w')=>iof_flag (hv.kept hk')
   clear hv
   obtain⟨nk,iv,hnk,hiv⟩:=HNK.out
   clear HNK
   rw[hnk] at h0
   rw[hiv] at hlg hof
   have HNK:=Lib.hid hnk;clear hnk
   have HIV:=Lib.hid hiv;clear hiv
   replace h0:=hkw.cell h0
   replace h1:=hkw.cell h1
   replace h2:=hkw.cell h2
   replace h3:=hkw.cell h3
   replace h4:=hkw.cell h4
   replace h5:=hkw.cell h5
   replace h6:=hkw.cell h6
   replace h7:=hkw.cell h7
   replace h8:=hkw.cell h8
   have hb1:=Blk.new wr #[.string nk,.bool s1,.slice a1 n1 c1,.slice a2 n2 c2,.bool s2,.slice a3 n3 c3,.slice a4 n4 c4,.bool p,.bool q] 41
   have hk1:Kept w (wr.alloc (.cells #[.string nk,.bool s1,.slice a1 n1 c1,.slice a2 n2 c2,.bool s2,.slice a3 n3 c3,.slice a4 n4 c4,.bool p,.bool q] 41)):=hkw.alloc _
   have HI:=Lib.hid hi;clear hi
   have hnm:=fun(w':World)=>risname_calls w' nk
   go_wp2_with fail
   obtain⟨p0,p1,p2,p3,p4,p5,p6,p7,p8,_⟩:=hb1.facts9
   generalize (wr.alloc (.cells #[.string nk,.bool s1,.slice a1 n1 c1,.slice a2 n2 c2,.bool s2,.slice a3 n3 c3,.slice a4 n4 c4,.bool p,.bool q] 41))=w1 at*
   generalize wr.heap.size=b1 at*
   have a0:=fun(k:KW w1)=>k.kept.cell p0
   have hall:∀w',Kept w1 w'→(fun w'=>Kept w1 w'∧w'.cell? ⟨b1,0,none⟩=some (.string nk)∧w'.cell? ⟨b1,1,none⟩=some (.bool s1)∧w'.cell? ⟨b1,2,none⟩=some (.slice a1 n1 c1)∧w'.cell? ⟨b1,3,none⟩=some (.slice a2 n2 c2)∧w'.cell? ⟨b1,4,none⟩=some (.bool s2)∧w'.cell? ⟨b1,5,none⟩=some (.slice a3 n3 c3)∧w'.cell? ⟨b1,6,none⟩=some (.slice a4 n4 c4)∧w'.cell? ⟨b1,7,none⟩=some (.bool p)∧w'.cell? ⟨b1,8,none⟩=some (.bool q)) w':=
    fun w' k=>⟨k,k.cell p0,k.cell p1,k.cell p2,k.cell p3,k.cell p4,k.cell p5,k.cell p6,k.cell p7,k.cell p8⟩
   have HALL:=Lib.hid hall;clear hall
   cases hin:isName nk
   ·rw[hin] at hnm
    refine wp_region_kw w1 (Kept.refl _) (by kernel_rfl) (by kernel_rfl) ?_
    repeat (go_big_quiet_step (first|(go_at_call 145;exact kw_call (hnm _))))
    refine wpQuiet_nil ?_
    rintro _ ⟨k2,rfl⟩
    go_wp2
    go_ret
    exact⟨by rw[boxOk_bad hlt (sideOk_name hlt (by rw[HNK.out];exact hin))];rfl,hk1.trans k2.kept⟩
   rw[hin] at hnm
   by_cases hk0:k=0
   ·subst hk0
    cases hf:iv.fine
    ·rw[hf] at hlg
     have hlg:=fun(k:KW w1)=>hlg k.w (hk1.trans k.kept)
     have a1':=fun(k:KW w1)=>(HALL.out _ k.kept).2.2.1
     have a2':=fun(k:KW w1)=>(HALL.out _ k.kept).2.2.2.1
     have a3':=fun(k:KW w1)=>(HALL.out _ k.kept).2.2.2.2.1
     have a4':=fun(k:KW w1)=>(HALL.out _ k.kept).2.2.2.2.2.1
     have a5':=fun(k:KW w1)=>(HALL.out _ k.kept).2.2.2.2.2.2.1
     have a6':=fun(k:KW w1)=>(HALL.out _ k.kept).2.2.2.2.2.2.2.1
     have a7':=fun(k:KW w1)=>(HALL.out _ k.kept).2.2.2.2.2.2.2.2.1
     have a8':=fun(k:KW w1)=>(HALL.out _ k.kept).2.2.2.2.2.2.2.2.2
     refine wp_region_kw w1 (Kept.refl _) (by kernel_rfl) (by kernel_rfl) ?_
     repeat (go_big_quiet_step (first|(go_at_call 145;exact kw_call (hnm _))|(go_at_call 146;exact kw_call (hlg _))))
     refine wpQuiet_nil ?_
     rintro _ ⟨k2,rfl⟩
     go_wp2
     go_ret
     exact⟨by rw[boxOk_bad hlt (sideOk_iv hlt (by rw[HIV.out,hf];rfl))];rfl,hk1.trans k2.kept⟩
    have hof:=fun(w':World)(hk':Kept w w')=>hof w' hk' hf
    rw[hf] at hlg
    have hfd:=fld99
    cases hvd:iv.void
    ·rw[hvd] at hof
     refine wp_region_held_drew (S:=(fun w'=>Kept w1 w'∧w'.cell? ⟨b1,0,none⟩=some (.string nk)∧w'.cell? ⟨b1,1,none⟩=some (.bool s1)∧w'.cell? ⟨b1,2,none⟩=some (.slice a1 n1 c1)∧w'.cell? ⟨b1,3,none⟩=some (.slice a2 n2 c2)∧w'.cell? ⟨b1,4,none⟩=some (.bool s2)∧w'.cell? ⟨b1,5,none⟩=some (.slice a3 n3 c3)∧w'.cell? ⟨b1,6,none⟩=some (.slice a4 n4 c4)∧w'.cell? ⟨b1,7,none⟩=some (.bool p)∧w'.cell? ⟨b1,8,none⟩=some (.bool q))) (by kernel_rfl) (HALL.out _ (Kept.refl w1).drew) (fun hHeld=> ?_)
     refine wpAnyH_take (i:=0) (oi:={dst:=some 15,op:=Op.fieldAddr 41 (Operand.tmp 4) 0,type:=0,pos:= "ref.go:18",after:=#[],guard:=none}) (v:= ?_) rfl (by kernel_rfl) (by kernel_rfl) (by kernel_rfl) (fun _ _ _ h=>h) (Or.inl ⟨by rfl,?_⟩) (by assumption) ?_
     rotate_left
     ·intro w hSw;(try dsimp only at hSw);go_simp;first|done|with_reducible rfl
     try simp only[Act.put,List.setIfInBounds_toArray,List.set_cons_zero,List.set_cons_succ]
     refine wpAnyH_take (i:=1) (oi:={dst:=some 16,op:=Op.load 9 (Operand.tmp 15),type:=9,pos:= "ref.go:18",after:=#[{on:=0,ground:=Ground.data}],guard:=none}) (v:= ?_) rfl (by kernel_rfl) (by kernel_rfl) (by kernel_rfl) (fun _ _ _ h=>h) (Or.inl ⟨by rfl,?_⟩) (by assumption) ?_
     rotate_left
     ·intro w hSw;(try dsimp only at hSw);go_simp;first|done|with_reducible rfl
     try simp only[Act.put,List.setIfInBounds_toArray,List.set_cons_zero,List.set_cons_succ]
     refine wpAnyH_ready (rs:=[2]) (by kernel_rfl) (by simp) (AllReadyH.cons (o:={dst:=some 17,op:=Op.call {callee:=Callee.value (Operand.func 145),args:=#[Operand.tmp 16],argTypes:=#[9]},type:=4,pos:= "ref.go:18",after:=#[{on:=1,ground:=Ground.data}],guard:=none}) rfl (fun K hK=> ?_) AllReadyH.nil)
     go_simp
     (go_at_call 145;refine(hnm _).mono ?_;rintro e w3 ⟨rfl,hk3⟩;have hS:Kept w1 w3:=(Kept.refl w1).drew.trans hk3;have hS3:=hS)
     go_wp2_with fail
     refine hK.out _ _ (HALL.out _ hS) (fun hHeld=> ?_)
     clear hK K
     try simp only[Act.put,List.setIfInBounds_toArray,List.set_cons_zero,List.set_cons_succ]
     refine wpAnyH_take (i:=3) (oi:={dst:=some 18,op:=Op.unOp UnOp.not 4 (Operand.tmp 17),type:=4,pos:= "ref.go:18",after:=#[{on:=2,ground:=Ground.data}],guard:=none}) (v:= ?_) rfl (by kernel_rfl) (by kernel_rfl) (by kernel_rfl) (fun _ _ _ h=>h) (Or.inl ⟨by rfl,?_⟩) (by assumption) ?_
     rotate_left
     ·intro w hSw;(try dsimp only at hSw);go_simp;first|done|with_reducible rfl
     try simp only[Act.put,List.setIfInBounds_toArray,List.set_cons_zero,List.set_cons_succ]
     refine wpAnyH_take (i:=4) (oi:={dst:=some 19,op:=Op.move (Operand.tmp 18),type:=4,pos:= "ref.go:18",after:=#[{on:=3,ground:=Ground.data},{on:=2,ground:=Ground.chain}],guard:=none}) (v:= ?_) rfl (by kernel_rfl) (by kernel_rfl) (by kernel_rfl) (fun _ _ _ h=>h) (Or.inl ⟨by rfl,?_⟩) (by assumption) ?_
     rotate_left
     ·intro w hSw;(try dsimp only at hSw);go_simp;first|done|with_reducible rfl
     try simp only[Act.put,List.setIfInBounds_toArray,List.set_cons_zero,List.set_cons_succ]
     refine wpAnyH_take (i:=5) (oi:={dst:=some 20,op:=Op.move (Operand.tmp 3),type:=3,pos:= "ref.go:18",after:=#[{on:=4,ground:=Ground.guard}],guard:=some (4,false)}) (v:= ?_) rfl (by kernel_rfl) (by kernel_rfl) (by kernel_rfl) (fun _ _ _ h=>h) (Or.inl ⟨by rfl,?_⟩) (by assumption) ?_
     rotate_left
     ·intro w hSw;(try dsimp only at hSw);go_simp;first|done|with_reducible rfl
     try simp only[Act.put,List.setIfInBounds_toArray,List.set_cons_zero,List.set_cons_succ]
     refine wpAnyH_take (i:=6) (oi:={dst:=some 21,op:=Op.binOp BinOp.gtr 3 (Operand.tmp 20) (Operand.const (Value.int IntKind.i64 0)) 3,type:=4,pos:= "ref.go:18",after:=#[{on:=5,ground:=Ground.data},{on:=4,ground:=Ground.guard}],guard:=some (4,false)}) (v:= ?_) rfl (by kernel_rfl) (by kernel_rfl) (by kernel_rfl) (fun _ _ _ h=>h) (Or.inl ⟨by rfl,?_⟩) (by assumption) ?_
     rotate_left
     ·intro w hSw;(try dsimp only at hSw);go_simp;first|done|with_reducible rfl
     try simp only[Act.put,List.setIfInBounds_toArray,List.set_cons_zero,List.set_cons_succ]
     refine wpAnyH_take (i:=7) (oi:={dst:=some 22,op:=Op.move (Operand.tmp 21),type:=4,pos:= "ref.go:18",after:=#[{on:=6,ground:=Ground.data},{on:=4,ground:=Ground.chain},{on:=4,ground:=Ground.guard}],guard:=some (4,false)}) (v:= ?_) rfl (by kernel_rfl) (by kernel_rfl) (by kernel_rfl) (fun _ _ _ h=>h) (Or.inl ⟨by rfl,?_⟩) (by assumption) ?_
     rotate_left
     ·intro w hSw;(try dsimp only at hSw);go_simp;first|done|with_reducible rfl
     try simp only[Act.put,List.setIfInBounds_toArray,List.set_cons_zero,List.set_cons_succ]
     refine wpAnyH_take (i:=8) (oi:={dst:=some 23,op:=Op.move (Operand.tmp 0),type:=28,pos:= "ref.go:18",after:=#[{on:=7,ground:=Ground.guard}],guard:=some (7,true)}) (v:=undef) rfl (by kernel_rfl) (by kernel_rfl) (by kernel_rfl) (fun _ _ _ h=>h) (Or.inr ⟨rfl,rfl⟩) (by assumption) ?_
     try simp only[Act.put,List.setIfInBounds_toArray,List.set_cons_zero,List.set_cons_succ]
     refine wpAnyH_take (i:=9) (oi:={dst:=some 24,op:=Op.move (Operand.tmp 3),type:=3,pos:= "ref.go:18",after:=#[{on:=7,ground:=Ground.guard}],guard:=some (7,true)}) (v:=undef) rfl (by kernel_rfl) (by kernel_rfl) (by kernel_rfl) (fun _ _ _ h=>h) (Or.inr ⟨rfl,rfl⟩) (by assumption) ?_
     try simp only[Act.put,List.setIfInBounds_toArray,List.set_cons_zero,List.set_cons_succ]
     refine wpAnyH_take (i:=10) (oi:={dst:=some 25,op:=Op.binOp BinOp.sub 3 (Operand.tmp 24) (Operand.const (Value.int IntKind.i64 1)) 3,type:=3,pos:= "ref.go:18",after:=#[{on:=9,ground:=Ground.data},{on:=7,ground:=Ground.guard}],guard:=some (7,true)}) (v:=undef) rfl (by kernel_rfl) (by kernel_rfl) (by kernel_rfl) (fun _ _ _ h=>h) (Or.inr ⟨rfl,rfl⟩) (by assumption) ?_
     try simp only[Act.put,List.setIfInBounds_toArray,List.set_cons_zero,List.set_cons_succ]
     refine wpAnyH_take (i:=11) (oi:={dst:=some 26,op:=Op.indexAddr 28 (Operand.tmp 23) (Operand.tmp 25),type:=0,pos:= "ref.go:18",after:=#[{on:=8,ground:=Ground.data},{on:=10,ground:=Ground.data},{on:=7,ground:=Ground.guard}],guard:=some (7,true)}) (v:=undef) rfl (by kernel_rfl) (by kernel_rfl) (by kernel_rfl) (fun _ _ _ h=>h) (Or.inr ⟨rfl,rfl⟩) (by assumption) ?_
     try simp only[Act.put,List.setIfInBounds_toArray,List.set_cons_zero,List.set_cons_succ]
     refine wpAnyH_take (i:=12) (oi:={dst:=some 27,op:=Op.fieldAddr 41 (Operand.tmp 26) 0,type:=0,pos:= "ref.go:18",after:=#[{on:=11,ground:=Ground.data},{on:=7,ground:=Ground.guard}],guard:=some (7,true)}) (v:=undef) rfl (by kernel_rfl) (by kernel_rfl) (by kernel_rfl) (fun _ _ _ h=>h) (Or.inr ⟨rfl,rfl⟩) (by assumption) ?_
     try simp only[Act.put,List.setIfInBounds_toArray,List.set_cons_zero,List.set_cons_succ]
     refine wpAnyH_take (i:=13) (oi:={dst:=some 28,op:=Op.load 9 (Operand.tmp 27),type:=9,pos:= "ref.go:18",after:=#[{on:=12,ground:=Ground.data},{on:=7,ground:=Ground.guard}],guard:=some (7,true)}) (v:=undef) rfl (by kernel_rfl) (by kernel_rfl) (by kernel_rfl) (fun _ _ _ h=>h) (Or.inr ⟨rfl,rfl⟩) (by assumption) ?_
     try simp only[Act.put,List.setIfInBounds_toArray,List.set_cons_zero,List.set_cons_succ]
     refine wpAnyH_take (i:=14) (oi:={dst:=some 29,op:=Op.fieldAddr 41 (Operand.tmp 4) 0,type:=0,pos:= "ref.go:18",after:=#[{on:=7,ground:=Ground.guard}],guard:=some (7,true)}) (v:=undef) rfl (by kernel_rfl) (by kernel_rfl) (by kernel_rfl) (fun _ _ _ h=>h) (Or.inr ⟨rfl,rfl⟩) (by assumption) ?_
     try simp only[Act.put,List.setIfInBounds_toArray,List.set_cons_zero,List.set_cons_succ]
     refine wpAnyH_take (i:=15) (oi:={dst:=some 30,op:=Op.load 9 (Operand.tmp 29),type:=9,pos:= "ref.go:18",after:=#[{on:=14,ground:=Ground.data},{on:=7,ground:=Ground.guard}],guard:=some (7,true)}) (v:=undef) rfl (by kernel_rfl) (by kernel_rfl) (by kernel_rfl) (fun _ _ _ h=>h) (Or.inr ⟨rfl,rfl⟩) (by assumption) ?_
     try simp only[Act.put,List.setIfInBounds_toArray,List.set_cons_zero,List.set_cons_succ]
     refine wpAnyH_take (i:=16) (oi:={dst:=some 31,op:=Op.binOp BinOp.geq 9 (Operand.tmp 28) (Operand.tmp 30) 9,type:=4,pos:= "ref.go:18",after:=#[{on:=13,ground:=Ground.data},{on:=15,ground:=Ground.data},{on:=7,ground:=Ground.guard}],guard:=some (7,true)}) (v:=undef) rfl (by kernel_rfl) (by kernel_rfl) (by kernel_rfl) (fun _ _ _ h=>h) (Or.inr ⟨rfl,rfl⟩) (by assumption) ?_
     try simp only[Act.put,List.setIfInBounds_toArray,List.set_cons_zero,List.set_cons_succ]
     refine wpAnyH_take (i:=17) (oi:={dst:=some 32,op:=Op.pick (Operand.tmp 22) (Operand.tmp 31) (Operand.const (Value.bool false)),type:=4,pos:= "ref.go:18",after:=#[{on:=7,ground:=Ground.data},{on:=16,ground:=Ground.data},{on:=4,ground:=Ground.guard}],guard:=some (4,false)}) (v:= ?_) rfl (by kernel_rfl) (by kernel_rfl) (by kernel_rfl) (fun _ _ _ h=>h) (Or.inl ⟨by rfl,?_⟩) (by assumption) ?_
     rotate_left
     ·intro w hSw;(try dsimp only at hSw);go_simp;first|done|with_reducible rfl
     try simp only[Act.put,List.setIfInBounds_toArray,List.set_cons_zero,List.set_cons_succ]
     refine wpAnyH_take (i:=18) (oi:={dst:=some 33,op:=Op.pick (Operand.tmp 19) (Operand.const (Value.bool true)) (Operand.tmp 32),type:=4,pos:= "ref.go:18",after:=#[{on:=4,ground:=Ground.data},{on:=17,ground:=Ground.data}],guard:=none}) (v:= ?_) rfl (by kernel_rfl) (by kernel_rfl) (by kernel_rfl) (fun _ _ _ h=>h) (Or.inl ⟨by rfl,?_⟩) (by assumption) ?_
     rotate_left
     ·intro w hSw;(try dsimp only at hSw);go_simp;first|done|with_reducible rfl
     try simp only[Act.put,List.setIfInBounds_toArray,List.set_cons_zero,List.set_cons_succ]
     refine wpAnyH_take (i:=19) (oi:={dst:=some 34,op:=Op.move (Operand.tmp 33),type:=4,pos:= "ref.go:18",after:=#[{on:=18,ground:=Ground.data},{on:=7,ground:=Ground.chain}],guard:=none}) (v:= ?_) rfl (by kernel_rfl) (by kernel_rfl) (by kernel_rfl) (fun _ _ _ h=>h) (Or.inl ⟨by rfl,?_⟩) (by assumption) ?_
     rotate_left
     ·intro w hSw;(try dsimp only at hSw);go_simp;first|done|with_reducible rfl
     try simp only[Act.put,List.setIfInBounds_toArray,List.set_cons_zero,List.set_cons_succ]
     refine wpAnyH_take (i:=20) (oi:={dst:=some 35,op:=Op.fieldAddr 41 (Operand.tmp 4) 1,type:=0,pos:= "ref.go:18",after:=#[{on:=19,ground:=Ground.guard}],guard:=some (19,false)}) (v:= ?_) rfl (by kernel_rfl) (by kernel_rfl) (by kernel_rfl) (fun _ _ _ h=>h) (Or.inl ⟨by rfl,?_⟩) (by assumption) ?_
     rotate_left
     ·intro w hSw;(try dsimp only at hSw);go_simp;first|done|with_reducible rfl
     try simp only[Act.put,List.setIfInBounds_toArray,List.set_cons_zero,List.set_cons_succ]
     refine wpAnyH_take (i:=21) (oi:={dst:=some 36,op:=Op.load 39 (Operand.tmp 35),type:=39,pos:= "ref.go:18",after:=#[{on:=20,ground:=Ground.data},{on:=19,ground:=Ground.guard}],guard:=some (19,false)}) (v:= ?_) rfl (by kernel_rfl) (by kernel_rfl) (by kernel_rfl) (fun _ _ _ h=>h) (Or.inl ⟨by rfl,?_⟩) (by assumption) ?_
     rotate_left
     ·intro w hSw;(try dsimp only at hSw);go_simp;first|done|with_reducible rfl
     try simp only[Act.put,List.setIfInBounds_toArray,List.set_cons_zero,List.set_cons_succ]
     refine wpAnyH_ready (rs:=[22]) (by kernel_rfl) (by simp) (AllReadyH.cons (o:={dst:=some 37,op:=Op.call {callee:=Callee.value (Operand.func 146),args:=#[Operand.tmp 36],argTypes:=#[39]},type:=4,pos:= "ref.go:18",after:=#[{on:=21,ground:=Ground.data},{on:=19,ground:=Ground.chain},{on:=19,ground:=Ground.guard}],guard:=some (19,false)}) rfl (fun K hK=> ?_) AllReadyH.nil)
     go_simp
     (go_at_call 146;refine(hlg _ (hk1.trans hS3)).mono ?_;rintro e w4 ⟨rfl,hk4⟩;clear hS;have hS:Kept w1 w4:=hS3.trans hk4;have hS4:=hS)
     go_wp2_with fail
     refine hK.out _ _ (HALL.out _ hS) (fun hHeld=> ?_)
     clear hK K
     try simp only[Act.put,List.setIfInBounds_toArray,List.set_cons_zero,List.set_cons_succ]
     refine wpAnyH_take (i:=23) (oi:={dst:=some 38,op:=Op.pick (Operand.tmp 34) (Operand.const (Value.bool true)) (Operand.tmp 37),type:=4,pos:= "ref.go:18",after:=#[{on:=19,ground:=Ground.data},{on:=22,ground:=Ground.data}],guard:=none}) (v:= ?_) rfl (by kernel_rfl) (by kernel_rfl) (by kernel_rfl) (fun _ _ _ h=>h) (Or.inl ⟨by rfl,?_⟩) (by assumption) ?_
     rotate_left
     ·intro w hSw;(try dsimp only at hSw);go_simp;first|done|with_reducible rfl
     try simp only[Act.put,List.setIfInBounds_toArray,List.set_cons_zero,List.set_cons_succ]
     refine wpAnyH_take (i:=24) (oi:={dst:=some 39,op:=Op.move (Operand.tmp 38),type:=4,pos:= "ref.go:18",after:=#[{on:=23,ground:=Ground.data},{on:=22,ground:=Ground.chain}],guard:=none}) (v:= ?_) rfl (by kernel_rfl) (by kernel_rfl) (by kernel_rfl) (fun _ _ _ h=>h) (Or.inl ⟨by rfl,?_⟩) (by assumption) ?_
     rotate_left
     ·intro w hSw;(try dsimp only at hSw);go_simp;first|done|with_reducible rfl
     try simp only[Act.put,List.setIfInBounds_toArray,List.set_cons_zero,List.set_cons_succ]
     refine wpAnyH_take (i:=25) (oi:={dst:=some 40,op:=Op.fieldAddr 41 (Operand.tmp 4) 1,type:=0,pos:= "ref.go:18",after:=#[{on:=24,ground:=Ground.guard}],guard:=some (24,false)}) (v:= ?_) rfl (by kernel_rfl) (by kernel_rfl) (by kernel_rfl) (fun _ _ _ h=>h) (Or.inl ⟨by rfl,?_⟩) (by assumption) ?_
     rotate_left
     ·intro w hSw;(try dsimp only at hSw);go_simp;first|done|with_reducible rfl
     try simp only[Act.put,List.setIfInBounds_toArray,List.set_cons_zero,List.set_cons_succ]
     refine wpAnyH_take (i:=26) (oi:={dst:=some 41,op:=Op.load 39 (Operand.tmp 40),type:=39,pos:= "ref.go:18",after:=#[{on:=25,ground:=Ground.data},{on:=24,ground:=Ground.guard}],guard:=some (24,false)}) (v:= ?_) rfl (by kernel_rfl) (by kernel_rfl) (by kernel_rfl) (fun _ _ _ h=>h) (Or.inl ⟨by rfl,?_⟩) (by assumption) ?_
     rotate_left
     ·intro w hSw;(try dsimp only at hSw);go_simp;first|done|with_reducible rfl
     try simp only[Act.put,List.setIfInBounds_toArray,List.set_cons_zero,List.set_cons_succ]
     refine wpAnyH_ready (rs:=[27]) (by kernel_rfl) (by simp) (AllReadyH.cons (o:={dst:=some 42,op:=Op.call {callee:=Callee.value (Operand.func 47),args:=#[Operand.tmp 41],argTypes:=#[39]},type:=99,pos:= "ref.go:18",after:=#[{on:=26,ground:=Ground.data},{on:=24,ground:=Ground.chain},{on:=24,ground:=Ground.guard}],guard:=some (24,false)}) rfl (fun K hK=> ?_) AllReadyH.nil)
     go_simp
     (go_at_call 47;refine(hof _ (hk1.trans hS4)).mono ?_;rintro e w5 ⟨_,_,_,_,_,_,_,_,_,_,_,_,_,_,_,_,rfl,hk5⟩;clear hS;have hS:Kept w1 w5:=hS4.trans hk5;have hS5:=hS)
     go_wp2_with fail
     refine hK.out _ _ (HALL.out _ hS) (fun hHeld=> ?_)
     clear hK K
     try simp only[Act.put,List.setIfInBounds_toArray,List.set_cons_zero,List.set_cons_succ]
     refine wpAnyH_take (i:=28) (oi:={dst:=some 43,op:=Op.field 99 (Operand.tmp 42) 4,type:=4,pos:= "ref.go:18",after:=#[{on:=27,ground:=Ground.data},{on:=24,ground:=Ground.guard}],guard:=some (24,false)}) (v:= ?_) rfl (by kernel_rfl) (by kernel_rfl) (by kernel_rfl) (fun _ _ _ h=>h) (Or.inl ⟨by rfl,?_⟩) (by assumption) ?_
     rotate_left
     ·intro w hSw;(try dsimp only at hSw);go_simp;first|done|with_reducible rfl
     try simp only[Act.put,List.setIfInBounds_toArray,List.set_cons_zero,List.set_cons_succ]
     refine wpAnyH_take (i:=29) (oi:={dst:=some 44,op:=Op.pick (Operand.tmp 39) (Operand.const (Value.bool true)) (Operand.tmp 43),type:=4,pos:= "ref.go:18",after:=#[{on:=24,ground:=Ground.data},{on:=28,ground:=Ground.data}],guard:=none}) (v:= ?_) rfl (by kernel_rfl) (by kernel_rfl) (by kernel_rfl) (fun _ _ _ h=>h) (Or.inl ⟨by rfl,?_⟩) (by assumption) ?_
     rotate_left
     ·intro w hSw;(try dsimp only at hSw);go_simp;first|done|with_reducible rfl
     try simp only[Act.put,List.setIfInBounds_toArray,List.set_cons_zero,List.set_cons_succ]
     refine wpAnyH_done (by kernel_rfl) ?_ _
     go_wp2
     go_roundw
     case rel=>exact⟨1,by omega,by go_num,fun j hj=>by obtain rfl:j=0:=by omega
                                                       exact sideOk_zero hlt (by rw[HNK.out];exact hin) (by rw[HIV.out];exact hf) (by rw[HIV.out];exact hvd),hk1.trans hS5⟩
     case measure=>simp[intOf];omega
    ·rw[hvd] at hof
     refine wp_region_held_drew (S:=(fun w'=>Kept w1 w'∧w'.cell? ⟨b1,0,none⟩=some (.string nk)∧w'.cell? ⟨b1,1,none⟩=some (.bool s1)∧w'.cell? ⟨b1,2,none⟩=some (.slice a1 n1 c1)∧w'.cell? ⟨b1,3,none⟩=some (.slice a2 n2 c2)∧w'.cell? ⟨b1,4,none⟩=some (.bool s2)∧w'.cell? ⟨b1,5,none⟩=some (.slice a3 n3 c3)∧w'.cell? ⟨b1,6,none⟩=some (.slice a4 n4 c4)∧w'.cell? ⟨b1,7,none⟩=some (.bool p)∧w'.cell? ⟨b1,8,none⟩=some (.bool q))) (by kernel_rfl) (HALL.out _ (Kept.refl w1).drew) (fun hHeld=> ?_)
     refine wpAnyH_take (i:=0) (oi:={dst:=some 15,op:=Op.fieldAddr 41 (Operand.tmp 4) 0,type:=0,pos:= "ref.go:18",after:=#[],guard:=none}) (v:= ?_) rfl (by kernel_rfl) (by kernel_rfl) (by kernel_rfl) (fun _ _ _ h=>h) (Or.inl ⟨by rfl,?_⟩) (by assumption) ?_
     rotate_left
     ·intro w hSw;(try dsimp only at hSw);go_simp;first|done|with_reducible rfl
     try simp only[Act.put,List.setIfInBounds_toArray,List.set_cons_zero,List.set_cons_succ]
     refine wpAnyH_take (i:=1) (oi:={dst:=some 16,op:=Op.load 9 (Operand.tmp 15),type:=9,pos:= "ref.go:18",after:=#[{on:=0,ground:=Ground.data}],guard:=none}) (v:= ?_) rfl (by kernel_rfl) (by kernel_rfl) (by kernel_rfl) (fun _ _ _ h=>h) (Or.inl ⟨by rfl,?_⟩) (by assumption) ?_
     rotate_left
     ·intro w hSw;(try dsimp only at hSw);go_simp;first|done|with_reducible rfl
     try simp only[Act.put,List.setIfInBounds_toArray,List.set_cons_zero,List.set_cons_succ]
     refine wpAnyH_ready (rs:=[2]) (by kernel_rfl) (by simp) (AllReadyH.cons (o:={dst:=some 17,op:=Op.call {callee:=Callee.value (Operand.func 145),args:=#[Operand.tmp 16],argTypes:=#[9]},type:=4,pos:= "ref.go:18",after:=#[{on:=1,ground:=Ground.data}],guard:=none}) rfl (fun K hK=> ?_) AllReadyH.nil)
     go_simp
     (go_at_call 145;refine(hnm _).mono ?_;rintro e w3 ⟨rfl,hk3⟩;have hS:Kept w1 w3:=(Kept.refl w1).drew.trans hk3;have hS3:=hS)
     go_wp2_with fail
     refine hK.out _ _ (HALL.out _ hS) (fun hHeld=> ?_)
     clear hK K
     try simp only[Act.put,List.setIfInBounds_toArray,List.set_cons_zero,List.set_cons_succ]
     refine wpAnyH_take (i:=3) (oi:={dst:=some 18,op:=Op.unOp UnOp.not 4 (Operand.tmp 17),type:=4,pos:= "ref.go:18",after:=#[{on:=2,ground:=Ground.data}],guard:=none}) (v:= ?_) rfl (by kernel_rfl) (by kernel_rfl) (by kernel_rfl) (fun _ _ _ h=>h) (Or.inl ⟨by rfl,?_⟩) (by assumption) ?_
     rotate_left
     ·intro w hSw;(try dsimp only at hSw);go_simp;first|done|with_reducible rfl
     try simp only[Act.put,List.setIfInBounds_toArray,List.set_cons_zero,List.set_cons_succ]
     refine wpAnyH_take (i:=4) (oi:={dst:=some 19,op:=Op.move (Operand.tmp 18),type:=4,pos:= "ref.go:18",after:=#[{on:=3,ground:=Ground.data},{on:=2,ground:=Ground.chain}],guard:=none}) (v:= ?_) rfl (by kernel_rfl) (by kernel_rfl) (by kernel_rfl) (fun _ _ _ h=>h) (Or.inl ⟨by rfl,?_⟩) (by assumption) ?_
     rotate_left
     ·intro w hSw;(try dsimp only at hSw);go_simp;first|done|with_reducible rfl
     try simp only[Act.put,List.setIfInBounds_toArray,List.set_cons_zero,List.set_cons_succ]
     refine wpAnyH_take (i:=5) (oi:={dst:=some 20,op:=Op.move (Operand.tmp 3),type:=3,pos:= "ref.go:18",after:=#[{on:=4,ground:=Ground.guard}],guard:=some (4,false)}) (v:= ?_) rfl (by kernel_rfl) (by kernel_rfl) (by kernel_rfl) (fun _ _ _ h=>h) (Or.inl ⟨by rfl,?_⟩) (by assumption) ?_
     rotate_left
     ·intro w hSw;(try dsimp only at hSw);go_simp;first|done|with_reducible rfl
     try simp only[Act.put,List.setIfInBounds_toArray,List.set_cons_zero,List.set_cons_succ]
     refine wpAnyH_take (i:=6) (oi:={dst:=some 21,op:=Op.binOp BinOp.gtr 3 (Operand.tmp 20) (Operand.const (Value.int IntKind.i64 0)) 3,type:=4,pos:= "ref.go:18",after:=#[{on:=5,ground:=Ground.data},{on:=4,ground:=Ground.guard}],guard:=some (4,false)}) (v:= ?_) rfl (by kernel_rfl) (by kernel_rfl) (by kernel_rfl) (fun _ _ _ h=>h) (Or.inl ⟨by rfl,?_⟩) (by assumption) ?_
     rotate_left
     ·intro w hSw;(try dsimp only at hSw);go_simp;first|done|with_reducible rfl
     try simp only[Act.put,List.setIfInBounds_toArray,List.set_cons_zero,List.set_cons_succ]
     refine wpAnyH_take (i:=7) (oi:={dst:=some 22,op:=Op.move (Operand.tmp 21),type:=4,pos:= "ref.go:18",after:=#[{on:=6,ground:=Ground.data},{on:=4,ground:=Ground.chain},{on:=4,ground:=Ground.guard}],guard:=some (4,false)}) (v:= ?_) rfl (by kernel_rfl) (by kernel_rfl) (by kernel_rfl) (fun _ _ _ h=>h) (Or.inl ⟨by rfl,?_⟩) (by assumption) ?_
     rotate_left
     ·intro w hSw;(try dsimp only at hSw);go_simp;first|done|with_reducible rfl
     try simp only[Act.put,List.setIfInBounds_toArray,List.set_cons_zero,List.set_cons_succ]
     refine wpAnyH_take (i:=8) (oi:={dst:=some 23,op:=Op.move (Operand.tmp 0),type:=28,pos:= "ref.go:18",after:=#[{on:=7,ground:=Ground.guard}],guard:=some (7,true)}) (v:=undef) rfl (by kernel_rfl) (by kernel_rfl) (by kernel_rfl) (fun _ _ _ h=>h) (Or.inr ⟨rfl,rfl⟩) (by assumption) ?_
     try simp only[Act.put,List.setIfInBounds_toArray,List.set_cons_zero,List.set_cons_succ]
     refine wpAnyH_take (i:=9) (oi:={dst:=some 24,op:=Op.move (Operand.tmp 3),type:=3,pos:= "ref.go:18",after:=#[{on:=7,ground:=Ground.guard}],guard:=some (7,true)}) (v:=undef) rfl (by kernel_rfl) (by kernel_rfl) (by kernel_rfl) (fun _ _ _ h=>h) (Or.inr ⟨rfl,rfl⟩) (by assumption) ?_
     try simp only[Act.put,List.setIfInBounds_toArray,List.set_cons_zero,List.set_cons_succ]
     refine wpAnyH_take (i:=10) (oi:={dst:=some 25,op:=Op.binOp BinOp.sub 3 (Operand.tmp 24) (Operand.const (Value.int IntKind.i64 1)) 3,type:=3,pos:= "ref.go:18",after:=#[{on:=9,ground:=Ground.data},{on:=7,ground:=Ground.guard}],guard:=some (7,true)}) (v:=undef) rfl (by kernel_rfl) (by kernel_rfl) (by kernel_rfl) (fun _ _ _ h=>h) (Or.inr ⟨rfl,rfl⟩) (by assumption) ?_
     try simp only[Act.put,List.setIfInBounds_toArray,List.set_cons_zero,List.set_cons_succ]
     refine wpAnyH_take (i:=11) (oi:={dst:=some 26,op:=Op.indexAddr 28 (Operand.tmp 23) (Operand.tmp 25),type:=0,pos:= "ref.go:18",after:=#[{on:=8,ground:=Ground.data},{on:=10,ground:=Ground.data},{on:=7,ground:=Ground.guard}],guard:=some (7,true)}) (v:=undef) rfl (by kernel_rfl) (by kernel_rfl) (by kernel_rfl) (fun _ _ _ h=>h) (Or.inr ⟨rfl,rfl⟩) (by assumption) ?_
     try simp only[Act.put,List.setIfInBounds_toArray,List.set_cons_zero,List.set_cons_succ]
     refine wpAnyH_take (i:=12) (oi:={dst:=some 27,op:=Op.fieldAddr 41 (Operand.tmp 26) 0,type:=0,pos:= "ref.go:18",after:=#[{on:=11,ground:=Ground.data},{on:=7,ground:=Ground.guard}],guard:=some (7,true)}) (v:=undef) rfl (by kernel_rfl) (by kernel_rfl) (by kernel_rfl) (fun _ _ _ h=>h) (Or.inr ⟨rfl,rfl⟩) (by assumption) ?_
     try simp only[Act.put,List.setIfInBounds_toArray,List.set_cons_zero,List.set_cons_succ]
     refine wpAnyH_take (i:=13) (oi:={dst:=some 28,op:=Op.load 9 (Operand.tmp 27),type:=9,pos:= "ref.go:18",after:=#[{on:=12,ground:=Ground.data},{on:=7,ground:=Ground.guard}],guard:=some (7,true)}) (v:=undef) rfl (by kernel_rfl) (by kernel_rfl) (by kernel_rfl) (fun _ _ _ h=>h) (Or.inr ⟨rfl,rfl⟩) (by assumption) ?_
     try simp only[Act.put,List.setIfInBounds_toArray,List.set_cons_zero,List.set_cons_succ]
     refine wpAnyH_take (i:=14) (oi:={dst:=some 29,op:=Op.fieldAddr 41 (Operand.tmp 4) 0,type:=0,pos:= "ref.go:18",after:=#[{on:=7,ground:=Ground.guard}],guard:=some (7,true)}) (v:=undef) rfl (by kernel_rfl) (by kernel_rfl) (by kernel_rfl) (fun _ _ _ h=>h) (Or.inr ⟨rfl,rfl⟩) (by assumption) ?_
     try simp only[Act.put,List.setIfInBounds_toArray,List.set_cons_zero,List.set_cons_succ]
     refine wpAnyH_take (i:=15) (oi:={dst:=some 30,op:=Op.load 9 (Operand.tmp 29),type:=9,pos:= "ref.go:18",after:=#[{on:=14,ground:=Ground.data},{on:=7,ground:=Ground.guard}],guard:=some (7,true)}) (v:=undef) rfl (by kernel_rfl) (by kernel_rfl) (by kernel_rfl) (fun _ _ _ h=>h) (Or.inr ⟨rfl,rfl⟩) (by assumption) ?_
     try simp only[Act.put,List.setIfInBounds_toArray,List.set_cons_zero,List.set_cons_succ]
     refine wpAnyH_take (i:=16) (oi:={dst:=some 31,op:=Op.binOp BinOp.geq 9 (Operand.tmp 28) (Operand.tmp 30) 9,type:=4,pos:= "ref.go:18",after:=#[{on:=13,ground:=Ground.data},{on:=15,ground:=Ground.data},{on:=7,ground:=Ground.guard}],guard:=some (7,true)}) (v:=undef) rfl (by kernel_rfl) (by kernel_rfl) (by kernel_rfl) (fun _ _ _ h=>h) (Or.inr ⟨rfl,rfl⟩) (by assumption) ?_
     try simp only[Act.put,List.setIfInBounds_toArray,List.set_cons_zero,List.set_cons_succ]
     refine wpAnyH_take (i:=17) (oi:={dst:=some 32,op:=Op.pick (Operand.tmp 22) (Operand.tmp 31) (Operand.const (Value.bool false)),type:=4,pos:= "ref.go:18",after:=#[{on:=7,ground:=Ground.data},{on:=16,ground:=Ground.data},{on:=4,ground:=Ground.guard}],guard:=some (4,false)}) (v:= ?_) rfl (by kernel_rfl) (by kernel_rfl) (by kernel_rfl) (fun _ _ _ h=>h) (Or.inl ⟨by rfl,?_⟩) (by assumption) ?_
     rotate_left
     ·intro w hSw;(try dsimp only at hSw);go_simp;first|done|with_reducible rfl
     try simp only[Act.put,List.setIfInBounds_toArray,List.set_cons_zero,List.set_cons_succ]
     refine wpAnyH_take (i:=18) (oi:={dst:=some 33,op:=Op.pick (Operand.tmp 19) (Operand.const (Value.bool true)) (Operand.tmp 32),type:=4,pos:= "ref.go:18",after:=#[{on:=4,ground:=Ground.data},{on:=17,ground:=Ground.data}],guard:=none}) (v:= ?_) rfl (by kernel_rfl) (by kernel_rfl) (by kernel_rfl) (fun _ _ _ h=>h) (Or.inl ⟨by rfl,?_⟩) (by assumption) ?_
     rotate_left
     ·intro w hSw;(try dsimp only at hSw);go_simp;first|done|with_reducible rfl
     try simp only[Act.put,List.setIfInBounds_toArray,List.set_cons_zero,List.set_cons_succ]
     refine wpAnyH_take (i:=19) (oi:={dst:=some 34,op:=Op.move (Operand.tmp 33),type:=4,pos:= "ref.go:18",after:=#[{on:=18,ground:=Ground.data},{on:=7,ground:=Ground.chain}],guard:=none}) (v:= ?_) rfl (by kernel_rfl) (by kernel_rfl) (by kernel_rfl) (fun _ _ _ h=>h) (Or.inl ⟨by rfl,?_⟩) (by assumption) ?_
     rotate_left
     ·intro w hSw;(try dsimp only at hSw);go_simp;first|done|with_reducible rfl
     try simp only[Act.put,List.setIfInBounds_toArray,List.set_cons_zero,List.set_cons_succ]
     refine wpAnyH_take (i:=20) (oi:={dst:=some 35,op:=Op.fieldAddr 41 (Operand.tmp 4) 1,type:=0,pos:= "ref.go:18",after:=#[{on:=19,ground:=Ground.guard}],guard:=some (19,false)}) (v:= ?_) rfl (by kernel_rfl) (by kernel_rfl) (by kernel_rfl) (fun _ _ _ h=>h) (Or.inl ⟨by rfl,?_⟩) (by assumption) ?_
     rotate_left
     ·intro w hSw;(try dsimp only at hSw);go_simp;first|done|with_reducible rfl
     try simp only[Act.put,List.setIfInBounds_toArray,List.set_cons_zero,List.set_cons_succ]
     refine wpAnyH_take (i:=21) (oi:={dst:=some 36,op:=Op.load 39 (Operand.tmp 35),type:=39,pos:= "ref.go:18",after:=#[{on:=20,ground:=Ground.data},{on:=19,ground:=Ground.guard}],guard:=some (19,false)}) (v:= ?_) rfl (by kernel_rfl) (by kernel_rfl) (by kernel_rfl) (fun _ _ _ h=>h) (Or.inl ⟨by rfl,?_⟩) (by assumption) ?_
     rotate_left
     ·intro w hSw;(try dsimp only at hSw);go_simp;first|done|with_reducible rfl
     try simp only[Act.put,List.setIfInBounds_toArray,List.set_cons_zero,List.set_cons_succ]
     refine wpAnyH_ready (rs:=[22]) (by kernel_rfl) (by simp) (AllReadyH.cons (o:={dst:=some 37,op:=Op.call {callee:=Callee.value (Operand.func 146),args:=#[Operand.tmp 36],argTypes:=#[39]},type:=4,pos:= "ref.go:18",after:=#[{on:=21,ground:=Ground.data},{on:=19,ground:=Ground.chain},{on:=19,ground:=Ground.guard}],guard:=some (19,false)}) rfl (fun K hK=> ?_) AllReadyH.nil)
     go_simp
     (go_at_call 146;refine(hlg _ (hk1.trans hS3)).mono ?_;rintro e w4 ⟨rfl,hk4⟩;clear hS;have hS:Kept w1 w4:=hS3.trans hk4;have hS4:=hS)
     go_wp2_with fail
     refine hK.out _ _ (HALL.out _ hS) (fun hHeld=> ?_)
     clear hK K
     try simp only[Act.put,List.setIfInBounds_toArray,List.set_cons_zero,List.set_cons_succ]
     refine wpAnyH_take (i:=23) (oi:={dst:=some 38,op:=Op.pick (Operand.tmp 34) (Operand.const (Value.bool true)) (Operand.tmp 37),type:=4,pos:= "ref.go:18",after:=#[{on:=19,ground:=Ground.data},{on:=22,ground:=Ground.data}],guard:=none}) (v:= ?_) rfl (by kernel_rfl) (by kernel_rfl) (by kernel_rfl) (fun _ _ _ h=>h) (Or.inl ⟨by rfl,?_⟩) (by assumption) ?_
     rotate_left
     ·intro w hSw;(try dsimp only at hSw);go_simp;first|done|with_reducible rfl
     try simp only[Act.put,List.setIfInBounds_toArray,List.set_cons_zero,List.set_cons_succ]
     refine wpAnyH_take (i:=24) (oi:={dst:=some 39,op:=Op.move (Operand.tmp 38),type:=4,pos:= "ref.go:18",after:=#[{on:=23,ground:=Ground.data},{on:=22,ground:=Ground.chain}],guard:=none}) (v:= ?_) rfl (by kernel_rfl) (by kernel_rfl) (by kernel_rfl) (fun _ _ _ h=>h) (Or.inl ⟨by rfl,?_⟩) (by assumption) ?_
     rotate_left
     ·intro w hSw;(try dsimp only at hSw);go_simp;first|done|with_reducible rfl
     try simp only[Act.put,List.setIfInBounds_toArray,List.set_cons_zero,List.set_cons_succ]
     refine wpAnyH_take (i:=25) (oi:={dst:=some 40,op:=Op.fieldAddr 41 (Operand.tmp 4) 1,type:=0,pos:= "ref.go:18",after:=#[{on:=24,ground:=Ground.guard}],guard:=some (24,false)}) (v:= ?_) rfl (by kernel_rfl) (by kernel_rfl) (by kernel_rfl) (fun _ _ _ h=>h) (Or.inl ⟨by rfl,?_⟩) (by assumption) ?_
     rotate_left
     ·intro w hSw;(try dsimp only at hSw);go_simp;first|done|with_reducible rfl
     try simp only[Act.put,List.setIfInBounds_toArray,List.set_cons_zero,List.set_cons_succ]
     refine wpAnyH_take (i:=26) (oi:={dst:=some 41,op:=Op.load 39 (Operand.tmp 40),type:=39,pos:= "ref.go:18",after:=#[{on:=25,ground:=Ground.data},{on:=24,ground:=Ground.guard}],guard:=some (24,false)}) (v:= ?_) rfl (by kernel_rfl) (by kernel_rfl) (by kernel_rfl) (fun _ _ _ h=>h) (Or.inl ⟨by rfl,?_⟩) (by assumption) ?_
     rotate_left
     ·intro w hSw;(try dsimp only at hSw);go_simp;first|done|with_reducible rfl
     try simp only[Act.put,List.setIfInBounds_toArray,List.set_cons_zero,List.set_cons_succ]
     refine wpAnyH_ready (rs:=[27]) (by kernel_rfl) (by simp) (AllReadyH.cons (o:={dst:=some 42,op:=Op.call {callee:=Callee.value (Operand.func 47),args:=#[Operand.tmp 41],argTypes:=#[39]},type:=99,pos:= "ref.go:18",after:=#[{on:=26,ground:=Ground.data},{on:=24,ground:=Ground.chain},{on:=24,ground:=Ground.guard}],guard:=some (24,false)}) rfl (fun K hK=> ?_) AllReadyH.nil)
     go_simp
     (go_at_call 47;refine(hof _ (hk1.trans hS4)).mono ?_;rintro e w5 ⟨_,_,_,_,_,_,_,_,_,_,_,_,_,_,_,_,rfl,hk5⟩;clear hS;have hS:Kept w1 w5:=hS4.trans hk5;have hS5:=hS)
     go_wp2_with fail
     refine hK.out _ _ (HALL.out _ hS) (fun hHeld=> ?_)
     clear hK K
     try simp only[Act.put,List.setIfInBounds_toArray,List.set_cons_zero,List.set_cons_succ]
     refine wpAnyH_take (i:=28) (oi:={dst:=some 43,op:=Op.field 99 (Operand.tmp 42) 4,type:=4,pos:= "ref.go:18",after:=#[{on:=27,ground:=Ground.data},{on:=24,ground:=Ground.guard}],guard:=some (24,false)}) (v:= ?_) rfl (by kernel_rfl) (by kernel_rfl) (by kernel_rfl) (fun _ _ _ h=>h) (Or.inl ⟨by rfl,?_⟩) (by assumption) ?_
     rotate_left
     ·intro w hSw;(try dsimp only at hSw);go_simp;first|done|with_reducible rfl
     try simp only[Act.put,List.setIfInBounds_toArray,List.set_cons_zero,List.set_cons_succ]
     refine wpAnyH_take (i:=29) (oi:={dst:=some 44,op:=Op.pick (Operand.tmp 39) (Operand.const (Value.bool true)) (Operand.tmp 43),type:=4,pos:= "ref.go:18",after:=#[{on:=24,ground:=Ground.data},{on:=28,ground:=Ground.data}],guard:=none}) (v:= ?_) rfl (by kernel_rfl) (by kernel_rfl) (by kernel_rfl) (fun _ _ _ h=>h) (Or.inl ⟨by rfl,?_⟩) (by assumption) ?_
     rotate_left
     ·intro w hSw;(try dsimp only at hSw);go_simp;first|done|with_reducible rfl
     try simp only[Act.put,List.setIfInBounds_toArray,List.set_cons_zero,List.set_cons_succ]
     refine wpAnyH_done (by kernel_rfl) ?_ _
     go_wp2
     go_ret
     exact⟨by rw[boxOk_bad hlt (sideOk_iv hlt (by rw[HIV.out,hf,hvd];rfl))];rfl,hk1.trans hS5⟩
   obtain⟨j,rfl⟩:∃j,k=j+1:=⟨k-1,by omega⟩
   obtain⟨b',off',s1',a1',n1',c1',a2',n2',c2',s2',a3',n3',c3',a4',n4',c4',p',q',e',h0',-⟩:=HI.out j (by omega)
   cases e'
   generalize hnj:l[j].name=nj at*
   have HNJ:=Lib.hid hnj;clear hnj
   have b1':=fun(k:KW w1)=>k.kept.cell (hk1.cell h0')
   have tk:decide (0<(j:Int)+1)=true:=by simp
   cases hlo:Op.bytesLess nj.toList nk.toList
   ·refine wp_region_kw w1 (Kept.refl _) (by kernel_rfl) (by kernel_rfl) ?_
    repeat (go_big_quiet_step (first|(go_at_call 145;exact kw_call (hnm _))))
    refine wpQuiet_nil ?_
    rintro _ ⟨k2,rfl⟩
    go_wp2
    go_ret
    exact⟨by rw[boxOk_bad hlt (sideOk_order hlt (by rw[HNK.out,HNJ.out];exact hlo))];rfl,hk1.trans k2.kept⟩
   ·have hall2:∀w',Kept w1 w'→(fun w'=>Kept w1 w'∧w'.cell? ⟨b1,0,none⟩=some (.string nk)∧w'.cell? ⟨b1,1,none⟩=some (.bool s1)∧w'.cell? ⟨b1,2,none⟩=some (.slice a1 n1 c1)∧w'.cell? ⟨b1,3,none⟩=some (.slice a2 n2 c2)∧w'.cell? ⟨b1,4,none⟩=some (.bool s2)∧w'.cell? ⟨b1,5,none⟩=some (.slice a3 n3 c3)∧w'.cell? ⟨b1,6,none⟩=some (.slice a4 n4 c4)∧w'.cell? ⟨b1,7,none⟩=some (.bool p)∧w'.cell? ⟨b1,8,none⟩=some (.bool q)∧w'.cell? ⟨b,off+j*9,none⟩=some (.string nj)) w':=
     fun w' k=>⟨k,(HALL.out _ k).2.1,(HALL.out _ k).2.2.1,(HALL.out _ k).2.2.2.1,(HALL.out _ k).2.2.2.2.1,(HALL.out _ k).2.2.2.2.2.1,(HALL.out _ k).2.2.2.2.2.2.1,(HALL.out _ k).2.2.2.2.2.2.2.1,(HALL.out _ k).2.2.2.2.2.2.2.2.1,(HALL.out _ k).2.2.2.2.2.2.2.2.2,k.cell (hk1.cell h0')⟩
    have HALL2:=Lib.hid hall2;clear hall2
    have hwj:=wrap_small (x:=(j:Int)) (by omega) (by omega)
    have hj0:(0:Int)≤(j:Int):=by omega
    have hj1:(j:Int)<(l.length:Int):=by omega
    cases hf:iv.fine
    ·rw[hf] at hlg
     have hlg:=fun(k:KW w1)=>hlg k.w (hk1.trans k.kept)
     have a1':=fun(k:KW w1)=>(HALL.out _ k.kept).2.2.1
     have a2':=fun(k:KW w1)=>(HALL.out _ k.kept).2.2.2.1
     have a3':=fun(k:KW w1)=>(HALL.out _ k.kept).2.2.2.2.1
     have a4':=fun(k:KW w1)=>(HALL.out _ k.kept).2.2.2.2.2.1
     have a5':=fun(k:KW w1)=>(HALL.out _ k.kept).2.2.2.2.2.2.1
     have a6':=fun(k:KW w1)=>(HALL.out _ k.kept).2.2.2.2.2.2.2.1
     have a7':=fun(k:KW w1)=>(HALL.out _ k.kept).2.2.2.2.2.2.2.2.1
     have a8':=fun(k:KW w1)=>(HALL.out _ k.kept).2.2.2.2.2.2.2.2.2
     refine wp_region_kw w1 (Kept.refl _) (by kernel_rfl) (by kernel_rfl) ?_
     repeat (go_big_quiet_step (first|(go_at_call 145;exact kw_call (hnm _))|(go_at_call 146;exact kw_call (hlg _))))
     refine wpQuiet_nil ?_
     rintro _ ⟨k2,rfl⟩
     go_wp2
     go_ret
     exact⟨by rw[boxOk_bad hlt (sideOk_iv hlt (by rw[HIV.out,hf];rfl))];rfl,hk1.trans k2.kept⟩
    have hof:=fun(w':World)(hk':Kept w w')=>hof w' hk' hf
    rw[hf] at hlg
    have hfd:=fld99
    cases hvd:iv.void
    ·rw[hvd] at hof
     refine wp_region_held_drew (S:=(fun w'=>Kept w1 w'∧w'.cell? ⟨b1,0,none⟩=some (.string nk)∧w'.cell? ⟨b1,1,none⟩=some (.bool s1)∧w'.cell? ⟨b1,2,none⟩=some (.slice a1 n1 c1)∧w'.cell? ⟨b1,3,none⟩=some (.slice a2 n2 c2)∧w'.cell? ⟨b1,4,none⟩=some (.bool s2)∧w'.cell? ⟨b1,5,none⟩=some (.slice a3 n3 c3)∧w'.cell? ⟨b1,6,none⟩=some (.slice a4 n4 c4)∧w'.cell? ⟨b1,7,none⟩=some (.bool p)∧w'.cell? ⟨b1,8,none⟩=some (.bool q)∧w'.cell? ⟨b,off+j*9,none⟩=some (.string nj))) (by kernel_rfl) (HALL2.out _ (Kept.refl w1).drew) (fun hHeld=> ?_)
     refine wpAnyH_take (i:=0) (oi:={dst:=some 15,op:=Op.fieldAddr 41 (Operand.tmp 4) 0,type:=0,pos:= "ref.go:18",after:=#[],guard:=none}) (v:= ?_) rfl (by kernel_rfl) (by kernel_rfl) (by kernel_rfl) (fun _ _ _ h=>h) (Or.inl ⟨by rfl,?_⟩) (by assumption) ?_
     rotate_left
     ·intro w hSw;(try dsimp only at hSw);go_simp;first|done|with_reducible rfl
     try simp only[Act.put,List.setIfInBounds_toArray,List.set_cons_zero,List.set_cons_succ]
     refine wpAnyH_take (i:=1) (oi:={dst:=some 16,op:=Op.load 9 (Operand.tmp 15),type:=9,pos:= "ref.go:18",after:=#[{on:=0,ground:=Ground.data}],guard:=none}) (v:= ?_) rfl (by kernel_rfl) (by kernel_rfl) (by kernel_rfl) (fun _ _ _ h=>h) (Or.inl ⟨by rfl,?_⟩) (by assumption) ?_
     rotate_left
     ·intro w hSw;(try dsimp only at hSw);go_simp;first|done|with_reducible rfl
     try simp only[Act.put,List.setIfInBounds_toArray,List.set_cons_zero,List.set_cons_succ]
     refine wpAnyH_ready (rs:=[2]) (by kernel_rfl) (by simp) (AllReadyH.cons (o:={dst:=some 17,op:=Op.call {callee:=Callee.value (Operand.func 145),args:=#[Operand.tmp 16],argTypes:=#[9]},type:=4,pos:= "ref.go:18",after:=#[{on:=1,ground:=Ground.data}],guard:=none}) rfl (fun K hK=> ?_) AllReadyH.nil)
     go_simp
     (go_at_call 145;refine(hnm _).mono ?_;rintro e w3 ⟨rfl,hk3⟩;have hS:Kept w1 w3:=(Kept.refl w1).drew.trans hk3;have hS3:=hS)
     go_wp2_with fail
     refine hK.out _ _ (HALL2.out _ hS) (fun hHeld=> ?_)
     clear hK K
     try simp only[Act.put,List.setIfInBounds_toArray,List.set_cons_zero,List.set_cons_succ]
     refine wpAnyH_take (i:=3) (oi:={dst:=some 18,op:=Op.unOp UnOp.not 4 (Operand.tmp 17),type:=4,pos:= "ref.go:18",after:=#[{on:=2,ground:=Ground.data}],guard:=none}) (v:= ?_) rfl (by kernel_rfl) (by kernel_rfl) (by kernel_rfl) (fun _ _ _ h=>h) (Or.inl ⟨by rfl,?_⟩) (by assumption) ?_
     rotate_left
     ·intro w hSw;(try dsimp only at hSw);go_simp;first|done|with_reducible rfl
     try simp only[Act.put,List.setIfInBounds_toArray,List.set_cons_zero,List.set_cons_succ]
     refine wpAnyH_take (i:=4) (oi:={dst:=some 19,op:=Op.move (Operand.tmp 18),type:=4,pos:= "ref.go:18",after:=#[{on:=3,ground:=Ground.data},{on:=2,ground:=Ground.chain}],guard:=none}) (v:= ?_) rfl (by kernel_rfl) (by kernel_rfl) (by kernel_rfl) (fun _ _ _ h=>h) (Or.inl ⟨by rfl,?_⟩) (by assumption) ?_
     rotate_left
     ·intro w hSw;(try dsimp only at hSw);go_simp;first|done|with_reducible rfl
     try simp only[Act.put,List.setIfInBounds_toArray,List.set_cons_zero,List.set_cons_succ]
     refine wpAnyH_take (i:=5) (oi:={dst:=some 20,op:=Op.move (Operand.tmp 3),type:=3,pos:= "ref.go:18",after:=#[{on:=4,ground:=Ground.guard}],guard:=some (4,false)}) (v:= ?_) rfl (by kernel_rfl) (by kernel_rfl) (by kernel_rfl) (fun _ _ _ h=>h) (Or.inl ⟨by rfl,?_⟩) (by assumption) ?_
     rotate_left
     ·intro w hSw;(try dsimp only at hSw);go_simp;first|done|with_reducible rfl
     try simp only[Act.put,List.setIfInBounds_toArray,List.set_cons_zero,List.set_cons_succ]
     refine wpAnyH_take (i:=6) (oi:={dst:=some 21,op:=Op.binOp BinOp.gtr 3 (Operand.tmp 20) (Operand.const (Value.int IntKind.i64 0)) 3,type:=4,pos:= "ref.go:18",after:=#[{on:=5,ground:=Ground.data},{on:=4,ground:=Ground.guard}],guard:=some (4,false)}) (v:= ?_) rfl (by kernel_rfl) (by kernel_rfl) (by kernel_rfl) (fun _ _ _ h=>h) (Or.inl ⟨by rfl,?_⟩) (by assumption) ?_
     rotate_left
     ·intro w hSw;(try dsimp only at hSw);go_simp;first|done|with_reducible rfl
     try simp only[Act.put,List.setIfInBounds_toArray,List.set_cons_zero,List.set_cons_succ]
     refine wpAnyH_take (i:=7) (oi:={dst:=some 22,op:=Op.move (Operand.tmp 21),type:=4,pos:= "ref.go:18",after:=#[{on:=6,ground:=Ground.data},{on:=4,ground:=Ground.chain},{on:=4,ground:=Ground.guard}],guard:=some (4,false)}) (v:= ?_) rfl (by kernel_rfl) (by kernel_rfl) (by kernel_rfl) (fun _ _ _ h=>h) (Or.inl ⟨by rfl,?_⟩) (by assumption) ?_
     rotate_left
     ·intro w hSw;(try dsimp only at hSw);go_simp;first|done|with_reducible rfl
     try simp only[Act.put,List.setIfInBounds_toArray,List.set_cons_zero,List.set_cons_succ]
     refine wpAnyH_take (i:=8) (oi:={dst:=some 23,op:=Op.move (Operand.tmp 0),type:=28,pos:= "ref.go:18",after:=#[{on:=7,ground:=Ground.guard}],guard:=some (7,true)}) (v:= ?_) rfl (by kernel_rfl) (by kernel_rfl) (by kernel_rfl) (fun _ _ _ h=>h) (Or.inl ⟨by rfl,?_⟩) (by assumption) ?_
     rotate_left
     ·intro w hSw;(try dsimp only at hSw);go_simp;first|done|with_reducible rfl
     try simp only[Act.put,List.setIfInBounds_toArray,List.set_cons_zero,List.set_cons_succ]
     refine wpAnyH_take (i:=9) (oi:={dst:=some 24,op:=Op.move (Operand.tmp 3),type:=3,pos:= "ref.go:18",after:=#[{on:=7,ground:=Ground.guard}],guard:=some (7,true)}) (v:= ?_) rfl (by kernel_rfl) (by kernel_rfl) (by kernel_rfl) (fun _ _ _ h=>h) (Or.inl ⟨by rfl,?_⟩) (by assumption) ?_
     rotate_left
     ·intro w hSw;(try dsimp only at hSw);go_simp;first|done|with_reducible rfl
     try simp only[Act.put,List.setIfInBounds_toArray,List.set_cons_zero,List.set_cons_succ]
     refine wpAnyH_take (i:=10) (oi:={dst:=some 25,op:=Op.binOp BinOp.sub 3 (Operand.tmp 24) (Operand.const (Value.int IntKind.i64 1)) 3,type:=3,pos:= "ref.go:18",after:=#[{on:=9,ground:=Ground.data},{on:=7,ground:=Ground.guard}],guard:=some (7,true)}) (v:= ?_) rfl (by kernel_rfl) (by kernel_rfl) (by kernel_rfl) (fun _ _ _ h=>h) (Or.inl ⟨by rfl,?_⟩) (by assumption) ?_
     rotate_left
     ·intro w hSw;(try dsimp only at hSw);go_simp;first|done|with_reducible rfl
     try simp only[Act.put,List.setIfInBounds_toArray,List.set_cons_zero,List.set_cons_succ]
     refine wpAnyH_take (i:=11) (oi:={dst:=some 26,op:=Op.indexAddr 28 (Operand.tmp 23) (Operand.tmp 25),type:=0,pos:= "ref.go:18",after:=#[{on:=8,ground:=Ground.data},{on:=10,ground:=Ground.data},{on:=7,ground:=Ground.guard}],guard:=some (7,true)}) (v:= ?_) rfl (by kernel_rfl) (by kernel_rfl) (by kernel_rfl) (fun _ _ _ h=>h) (Or.inl ⟨by rfl,?_⟩) (by assumption) ?_
     rotate_left
     ·intro w hSw;(try dsimp only at hSw);go_simp;first|done|with_reducible rfl
     try simp only[Act.put,List.setIfInBounds_toArray,List.set_cons_zero,List.set_cons_succ]
     refine wpAnyH_take (i:=12) (oi:={dst:=some 27,op:=Op.fieldAddr 41 (Operand.tmp 26) 0,type:=0,pos:= "ref.go:18",after:=#[{on:=11,ground:=Ground.data},{on:=7,ground:=Ground.guard}],guard:=some (7,true)}) (v:= ?_) rfl (by kernel_rfl) (by kernel_rfl) (by kernel_rfl) (fun _ _ _ h=>h) (Or.inl ⟨by rfl,?_⟩) (by assumption) ?_
     rotate_left
     ·intro w hSw;(try dsimp only at hSw);go_simp;first|done|with_reducible rfl
     try simp only[Act.put,List.setIfInBounds_toArray,List.set_cons_zero,List.set_cons_succ]
     refine wpAnyH_take (i:=13) (oi:={dst:=some 28,op:=Op.load 9 (Operand.tmp 27),type:=9,pos:= "ref.go:18",after:=#[{on:=12,ground:=Ground.data},{on:=7,ground:=Ground.guard}],guard:=some (7,true)}) (v:= ?_) rfl (by kernel_rfl) (by kernel_rfl) (by kernel_rfl) (fun _ _ _ h=>h) (Or.inl ⟨by rfl,?_⟩) (by assumption) ?_
     rotate_left
     ·intro w hSw;(try dsimp only at hSw);go_simp;first|done|with_reducible rfl
     try simp only[Act.put,List.setIfInBounds_toArray,List.set_cons_zero,List.set_cons_succ]
     refine wpAnyH_take (i:=14) (oi:={dst:=some 29,op:=Op.fieldAddr 41 (Operand.tmp 4) 0,type:=0,pos:= "ref.go:18",after:=#[{on:=7,ground:=Ground.guard}],guard:=some (7,true)}) (v:= ?_) rfl (by kernel_rfl) (by kernel_rfl) (by kernel_rfl) (fun _ _ _ h=>h) (Or.inl ⟨by rfl,?_⟩) (by assumption) ?_
     rotate_left
     ·intro w hSw;(try dsimp only at hSw);go_simp;first|done|with_reducible rfl
     try simp only[Act.put,List.setIfInBounds_toArray,List.set_cons_zero,List.set_cons_succ]
     refine wpAnyH_take (i:=15) (oi:={dst:=some 30,op:=Op.load 9 (Operand.tmp 29),type:=9,pos:= "ref.go:18",after:=#[{on:=14,ground:=Ground.data},{on:=7,ground:=Ground.guard}],guard:=some (7,true)}) (v:= ?_) rfl (by kernel_rfl) (by kernel_rfl) (by kernel_rfl) (fun _ _ _ h=>h) (Or.inl ⟨by rfl,?_⟩) (by assumption) ?_
     rotate_left
     ·intro w hSw;(try dsimp only at hSw);go_simp;first|done|with_reducible rfl
     try simp only[Act.put,List.setIfInBounds_toArray,List.set_cons_zero,List.set_cons_succ]
     refine wpAnyH_take (i:=16) (oi:={dst:=some 31,op:=Op.binOp BinOp.geq 9 (Operand.tmp 28) (Operand.tmp 30) 9,type:=4,pos:= "ref.go:18",after:=#[{on:=13,ground:=Ground.data},{on:=15,ground:=Ground.data},{on:=7,ground:=Ground.guard}],guard:=some (7,true)}) (v:= ?_) rfl (by kernel_rfl) (by kernel_rfl) (by kernel_rfl) (fun _ _ _ h=>h) (Or.inl ⟨by rfl,?_⟩) (by assumption) ?_
     rotate_left
     ·intro w hSw;(try dsimp only at hSw);go_simp;first|done|with_reducible rfl
     try simp only[Act.put,List.setIfInBounds_toArray,List.set_cons_zero,List.set_cons_succ]
     refine wpAnyH_take (i:=17) (oi:={dst:=some 32,op:=Op.pick (Operand.tmp 22) (Operand.tmp 31) (Operand.const (Value.bool false)),type:=4,pos:= "ref.go:18",after:=#[{on:=7,ground:=Ground.data},{on:=16,ground:=Ground.data},{on:=4,ground:=Ground.guard}],guard:=some (4,false)}) (v:= ?_) rfl (by kernel_rfl) (by kernel_rfl) (by kernel_rfl) (fun _ _ _ h=>h) (Or.inl ⟨by rfl,?_⟩) (by assumption) ?_
     rotate_left
     ·intro w hSw;(try dsimp only at hSw);go_simp;first|done|with_reducible rfl
     try simp only[Act.put,List.setIfInBounds_toArray,List.set_cons_zero,List.set_cons_succ]
     refine wpAnyH_take (i:=18) (oi:={dst:=some 33,op:=Op.pick (Operand.tmp 19) (Operand.const (Value.bool true)) (Operand.tmp 32),type:=4,pos:= "ref.go:18",after:=#[{on:=4,ground:=Ground.data},{on:=17,ground:=Ground.data}],guard:=none}) (v:= ?_) rfl (by kernel_rfl) (by kernel_rfl) (by kernel_rfl) (fun _ _ _ h=>h) (Or.inl ⟨by rfl,?_⟩) (by assumption) ?_
     rotate_left
     ·intro w hSw;(try dsimp only at hSw);go_simp;first|done|with_reducible rfl
     try simp only[Act.put,List.setIfInBounds_toArray,List.set_cons_zero,List.set_cons_succ]
     refine wpAnyH_take (i:=19) (oi:={dst:=some 34,op:=Op.move (Operand.tmp 33),type:=4,pos:= "ref.go:18",after:=#[{on:=18,ground:=Ground.data},{on:=7,ground:=Ground.chain}],guard:=none}) (v:= ?_) rfl (by kernel_rfl) (by kernel_rfl) (by kernel_rfl) (fun _ _ _ h=>h) (Or.inl ⟨by rfl,?_⟩) (by assumption) ?_
     rotate_left
     ·intro w hSw;(try dsimp only at hSw);go_simp;first|done|with_reducible rfl
     try simp only[Act.put,List.setIfInBounds_toArray,List.set_cons_zero,List.set_cons_succ]
     refine wpAnyH_take (i:=20) (oi:={dst:=some 35,op:=Op.fieldAddr 41 (Operand.tmp 4) 1,type:=0,pos:= "ref.go:18",after:=#[{on:=19,ground:=Ground.guard}],guard:=some (19,false)}) (v:= ?_) rfl (by kernel_rfl) (by kernel_rfl) (by kernel_rfl) (fun _ _ _ h=>h) (Or.inl ⟨by rfl,?_⟩) (by assumption) ?_
     rotate_left
     ·intro w hSw;(try dsimp only at hSw);go_simp;first|done|with_reducible rfl
     try simp only[Act.put,List.setIfInBounds_toArray,List.set_cons_zero,List.set_cons_succ]
     refine wpAnyH_take (i:=21) (oi:={dst:=some 36,op:=Op.load 39 (Operand.tmp 35),type:=39,pos:= "ref.go:18",after:=#[{on:=20,ground:=Ground.data},{on:=19,ground:=Ground.guard}],guard:=some (19,false)}) (v:= ?_) rfl (by kernel_rfl) (by kernel_rfl) (by kernel_rfl) (fun _ _ _ h=>h) (Or.inl ⟨by rfl,?_⟩) (by assumption) ?_
     rotate_left
     ·intro w hSw;(try dsimp only at hSw);go_simp;first|done|with_reducible rfl
     try simp only[Act.put,List.setIfInBounds_toArray,List.set_cons_zero,List.set_cons_succ]
     refine wpAnyH_ready (rs:=[22]) (by kernel_rfl) (by simp) (AllReadyH.cons (o:={dst:=some 37,op:=Op.call {callee:=Callee.value (Operand.func 146),args:=#[Operand.tmp 36],argTypes:=#[39]},type:=4,pos:= "ref.go:18",after:=#[{on:=21,ground:=Ground.data},{on:=19,ground:=Ground.chain},{on:=19,ground:=Ground.guard}],guard:=some (19,false)}) rfl (fun K hK=> ?_) AllReadyH.nil)
     go_simp
     (go_at_call 146;refine(hlg _ (hk1.trans hS3)).mono ?_;rintro e w4 ⟨rfl,hk4⟩;clear hS;have hS:Kept w1 w4:=hS3.trans hk4;have hS4:=hS)
     go_wp2_with fail
     refine hK.out _ _ (HALL2.out _ hS) (fun hHeld=> ?_)
     clear hK K
     try simp only[Act.put,List.setIfInBounds_toArray,List.set_cons_zero,List.set_cons_succ]
     refine wpAnyH_take (i:=23) (oi:={dst:=some 38,op:=Op.pick (Operand.tmp 34) (Operand.const (Value.bool true)) (Operand.tmp 37),type:=4,pos:= "ref.go:18",after:=#[{on:=19,ground:=Ground.data},{on:=22,ground:=Ground.data}],guard:=none}) (v:= ?_) rfl (by kernel_rfl) (by kernel_rfl) (by kernel_rfl) (fun _ _ _ h=>h) (Or.inl ⟨by rfl,?_⟩) (by assumption) ?_
     rotate_left
     ·intro w hSw;(try dsimp only at hSw);go_simp;first|done|with_reducible rfl
     try simp only[Act.put,List.setIfInBounds_toArray,List.set_cons_zero,List.set_cons_succ]
     refine wpAnyH_take (i:=24) (oi:={dst:=some 39,op:=Op.move (Operand.tmp 38),type:=4,pos:= "ref.go:18",after:=#[{on:=23,ground:=Ground.data},{on:=22,ground:=Ground.chain}],guard:=none}) (v:= ?_) rfl (by kernel_rfl) (by kernel_rfl) (by kernel_rfl) (fun _ _ _ h=>h) (Or.inl ⟨by rfl,?_⟩) (by assumption) ?_
     rotate_left
     ·intro w hSw;(try dsimp only at hSw);go_simp;first|done|with_reducible rfl
     try simp only[Act.put,List.setIfInBounds_toArray,List.set_cons_zero,List.set_cons_succ]
     refine wpAnyH_take (i:=25) (oi:={dst:=some 40,op:=Op.fieldAddr 41 (Operand.tmp 4) 1,type:=0,pos:= "ref.go:18",after:=#[{on:=24,ground:=Ground.guard}],guard:=some (24,false)}) (v:= ?_) rfl (by kernel_rfl) (by kernel_rfl) (by kernel_rfl) (fun _ _ _ h=>h) (Or.inl ⟨by rfl,?_⟩) (by assumption) ?_
     rotate_left
     ·intro w hSw;(try dsimp only at hSw);go_simp;first|done|with_reducible rfl
     try simp only[Act.put,List.setIfInBounds_toArray,List.set_cons_zero,List.set_cons_succ]
     refine wpAnyH_take (i:=26) (oi:={dst:=some 41,op:=Op.load 39 (Operand.tmp 40),type:=39,pos:= "ref.go:18",after:=#[{on:=25,ground:=Ground.data},{on:=24,ground:=Ground.guard}],guard:=some (24,false)}) (v:= ?_) rfl (by kernel_rfl) (by kernel_rfl) (by kernel_rfl) (fun _ _ _ h=>h) (Or.inl ⟨by rfl,?_⟩) (by assumption) ?_
     rotate_left
     ·intro w hSw;(try dsimp only at hSw);go_simp;first|done|with_reducible rfl
     try simp only[Act.put,List.setIfInBounds_toArray,List.set_cons_zero,List.set_cons_succ]
     refine wpAnyH_ready (rs:=[27]) (by kernel_rfl) (by simp) (AllReadyH.cons (o:={dst:=some 42,op:=Op.call {callee:=Callee.value (Operand.func 47),args:=#[Operand.tmp 41],argTypes:=#[39]},type:=99,pos:= "ref.go:18",after:=#[{on:=26,ground:=Ground.data},{on:=24,ground:=Ground.chain},{on:=24,ground:=Ground.guard}],guard:=some (24,false)}) rfl (fun K hK=> ?_) AllReadyH.nil)
     go_simp
     (go_at_call 47;refine(hof _ (hk1.trans hS4)).mono ?_;rintro e w5 ⟨_,_,_,_,_,_,_,_,_,_,_,_,_,_,_,_,rfl,hk5⟩;clear hS;have hS:Kept w1 w5:=hS4.trans hk5;have hS5:=hS)
     go_wp2_with fail
     refine hK.out _ _ (HALL2.out _ hS) (fun hHeld=> ?_)
     clear hK K
     try simp only[Act.put,List.setIfInBounds_toArray,List.set_cons_zero,List.set_cons_succ]
     refine wpAnyH_take (i:=28) (oi:={dst:=some 43,op:=Op.field 99 (Operand.tmp 42) 4,type:=4,pos:= "ref.go:18",after:=#[{on:=27,ground:=Ground.data},{on:=24,ground:=Ground.guard}],guard:=some (24,false)}) (v:= ?_) rfl (by kernel_rfl) (by kernel_rfl) (by kernel_rfl) (fun _ _ _ h=>h) (Or.inl ⟨by rfl,?_⟩) (by assumption) ?_
     rotate_left
     ·intro w hSw;(try dsimp only at hSw);go_simp;first|done|with_reducible rfl
     try simp only[Act.put,List.setIfInBounds_toArray,List.set_cons_zero,List.set_cons_succ]
     refine wpAnyH_take (i:=29) (oi:={dst:=some 44,op:=Op.pick (Operand.tmp 39) (Operand.const (Value.bool true)) (Operand.tmp 43),type:=4,pos:= "ref.go:18",after:=#[{on:=24,ground:=Ground.data},{on:=28,ground:=Ground.data}],guard:=none}) (v:= ?_) rfl (by kernel_rfl) (by kernel_rfl) (by kernel_rfl) (fun _ _ _ h=>h) (Or.inl ⟨by rfl,?_⟩) (by assumption) ?_
     rotate_left
     ·intro w hSw;(try dsimp only at hSw);go_simp;first|done|with_reducible rfl
     try simp only[Act.put,List.setIfInBounds_toArray,List.set_cons_zero,List.set_cons_succ]
     refine wpAnyH_done (by kernel_rfl) ?_ _
     go_wp2
     go_roundw
     case rel=>exact⟨j+1+1,by omega,by go_num,fun i hi'=>by
                                                     by_cases h:i<j+1
                                                     ·exact HOK.out i h
                                                     ·obtain rfl:i=j+1:=by omega
                                                      exact sideOk_succ hlt (by rw[HNK.out];exact hin) (by rw[HIV.out];exact hf) (by rw[HIV.out];exact hvd) (by rw[HNK.out,HNJ.out];exact hlo),hk1.trans hS5⟩
     case measure=>simp[intOf];omega
    ·rw[hvd] at hof
     refine wp_region_held_drew (S:=(fun w'=>Kept w1 w'∧w'.cell? ⟨b1,0,none⟩=some (.string nk)∧w'.cell? ⟨b1,1,none⟩=some (.bool s1)∧w'.cell? ⟨b1,2,none⟩=some (.slice a1 n1 c1)∧w'.cell? ⟨b1,3,none⟩=some (.slice a2 n2 c2)∧w'.cell? ⟨b1,4,none⟩=some (.bool s2)∧w'.cell? ⟨b1,5,none⟩=some (.slice a3 n3 c3)∧w'.cell? ⟨b1,6,none⟩=some (.slice a4 n4 c4)∧w'.cell? ⟨b1,7,none⟩=some (.bool p)∧w'.cell? ⟨b1,8,none⟩=some (.bool q)∧w'.cell? ⟨b,off+j*9,none⟩=some (.string nj))) (by kernel_rfl) (HALL2.out _ (Kept.refl w1).drew) (fun hHeld=> ?_)
     refine wpAnyH_take (i:=0) (oi:={dst:=some 15,op:=Op.fieldAddr 41 (Operand.tmp 4) 0,type:=0,pos:= "ref.go:18",after:=#[],guard:=none}) (v:= ?_) rfl (by kernel_rfl) (by kernel_rfl) (by kernel_rfl) (fun _ _ _ h=>h) (Or.inl ⟨by rfl,?_⟩) (by assumption) ?_
     rotate_left
     ·intro w hSw;(try dsimp only at hSw);go_simp;first|done|with_reducible rfl
     try simp only[Act.put,List.setIfInBounds_toArray,List.set_cons_zero,List.set_cons_succ]
     refine wpAnyH_take (i:=1) (oi:={dst:=some 16,op:=Op.load 9 (Operand.tmp 15),type:=9,pos:= "ref.go:18",after:=#[{on:=0,ground:=Ground.data}],guard:=none}) (v:= ?_) rfl (by kernel_rfl) (by kernel_rfl) (by kernel_rfl) (fun _ _ _ h=>h) (Or.inl ⟨by rfl,?_⟩) (by assumption) ?_
     rotate_left
     ·intro w hSw;(try dsimp only at hSw);go_simp;first|done|with_reducible rfl
     try simp only[Act.put,List.setIfInBounds_toArray,List.set_cons_zero,List.set_cons_succ]
     refine wpAnyH_ready (rs:=[2]) (by kernel_rfl) (by simp) (AllReadyH.cons (o:={dst:=some 17,op:=Op.call {callee:=Callee.value (Operand.func 145),args:=#[Operand.tmp 16],argTypes:=#[9]},type:=4,pos:= "ref.go:18",after:=#[{on:=1,ground:=Ground.data}],guard:=none}) rfl (fun K hK=> ?_) AllReadyH.nil)
     go_simp
     (go_at_call 145;refine(hnm _).mono ?_;rintro e w3 ⟨rfl,hk3⟩;have hS:Kept w1 w3:=(Kept.refl w1).drew.trans hk3;have hS3:=hS)
     go_wp2_with fail
     refine hK.out _ _ (HALL2.out _ hS) (fun hHeld=> ?_)
     clear hK K
     try simp only[Act.put,List.setIfInBounds_toArray,List.set_cons_zero,List.set_cons_succ]
     refine wpAnyH_take (i:=3) (oi:={dst:=some 18,op:=Op.unOp UnOp.not 4 (Operand.tmp 17),type:=4,pos:= "ref.go:18",after:=#[{on:=2,ground:=Ground.data}],guard:=none}) (v:= ?_) rfl (by kernel_rfl) (by kernel_rfl) (by kernel_rfl) (fun _ _ _ h=>h) (Or.inl ⟨by rfl,?_⟩) (by assumption) ?_
     rotate_left
     ·intro w hSw;(try dsimp only at hSw);go_simp;first|done|with_reducible rfl
     try simp only[Act.put,List.setIfInBounds_toArray,List.set_cons_zero,List.set_cons_succ]
     refine wpAnyH_take (i:=4) (oi:={dst:=some 19,op:=Op.move (Operand.tmp 18),type:=4,pos:= "ref.go:18",after:=#[{on:=3,ground:=Ground.data},{on:=2,ground:=Ground.chain}],guard:=none}) (v:= ?_) rfl (by kernel_rfl) (by kernel_rfl) (by kernel_rfl) (fun _ _ _ h=>h) (Or.inl ⟨by rfl,?_⟩) (by assumption) ?_
     rotate_left
     ·intro w hSw;(try dsimp only at hSw);go_simp;first|done|with_reducible rfl
     try simp only[Act.put,List.setIfInBounds_toArray,List.set_cons_zero,List.set_cons_succ]
     refine wpAnyH_take (i:=5) (oi:={dst:=some 20,op:=Op.move (Operand.tmp 3),type:=3,pos:= "ref.go:18",after:=#[{on:=4,ground:=Ground.guard}],guard:=some (4,false)}) (v:= ?_) rfl (by kernel_rfl) (by kernel_rfl) (by kernel_rfl) (fun _ _ _ h=>h) (Or.inl ⟨by rfl,?_⟩) (by assumption) ?_
     rotate_left
     ·intro w hSw;(try dsimp only at hSw);go_simp;first|done|with_reducible rfl
     try simp only[Act.put,List.setIfInBounds_toArray,List.set_cons_zero,List.set_cons_succ]
     refine wpAnyH_take (i:=6) (oi:={dst:=some 21,op:=Op.binOp BinOp.gtr 3 (Operand.tmp 20) (Operand.const (Value.int IntKind.i64 0)) 3,type:=4,pos:= "ref.go:18",after:=#[{on:=5,ground:=Ground.data},{on:=4,ground:=Ground.guard}],guard:=some (4,false)}) (v:= ?_) rfl (by kernel_rfl) (by kernel_rfl) (by kernel_rfl) (fun _ _ _ h=>h) (Or.inl ⟨by rfl,?_⟩) (by assumption) ?_
     rotate_left
     ·intro w hSw;(try dsimp only at hSw);go_simp;first|done|with_reducible rfl
     try simp only[Act.put,List.setIfInBounds_toArray,List.set_cons_zero,List.set_cons_succ]
     refine wpAnyH_take (i:=7) (oi:={dst:=some 22,op:=Op.move (Operand.tmp 21),type:=4,pos:= "ref.go:18",after:=#[{on:=6,ground:=Ground.data},{on:=4,ground:=Ground.chain},{on:=4,ground:=Ground.guard}],guard:=some (4,false)}) (v:= ?_) rfl (by kernel_rfl) (by kernel_rfl) (by kernel_rfl) (fun _ _ _ h=>h) (Or.inl ⟨by rfl,?_⟩) (by assumption) ?_
     rotate_left
     ·intro w hSw;(try dsimp only at hSw);go_simp;first|done|with_reducible rfl
     try simp only[Act.put,List.setIfInBounds_toArray,List.set_cons_zero,List.set_cons_succ]
     refine wpAnyH_take (i:=8) (oi:={dst:=some 23,op:=Op.move (Operand.tmp 0),type:=28,pos:= "ref.go:18",after:=#[{on:=7,ground:=Ground.guard}],guard:=some (7,true)}) (v:= ?_) rfl (by kernel_rfl) (by kernel_rfl) (by kernel_rfl) (fun _ _ _ h=>h) (Or.inl ⟨by rfl,?_⟩) (by assumption) ?_
     rotate_left
     ·intro w hSw;(try dsimp only at hSw);go_simp;first|done|with_reducible rfl
     try simp only[Act.put,List.setIfInBounds_toArray,List.set_cons_zero,List.set_cons_succ]
     refine wpAnyH_take (i:=9) (oi:={dst:=some 24,op:=Op.move (Operand.tmp 3),type:=3,pos:= "ref.go:18",after:=#[{on:=7,ground:=Ground.guard}],guard:=some (7,true)}) (v:= ?_) rfl (by kernel_rfl) (by kernel_rfl) (by kernel_rfl) (fun _ _ _ h=>h) (Or.inl ⟨by rfl,?_⟩) (by assumption) ?_
     rotate_left
     ·intro w hSw;(try dsimp only at hSw);go_simp;first|done|with_reducible rfl
     try simp only[Act.put,List.setIfInBounds_toArray,List.set_cons_zero,List.set_cons_succ]
     refine wpAnyH_take (i:=10) (oi:={dst:=some 25,op:=Op.binOp BinOp.sub 3 (Operand.tmp 24) (Operand.const (Value.int IntKind.i64 1)) 3,type:=3,pos:= "ref.go:18",after:=#[{on:=9,ground:=Ground.data},{on:=7,ground:=Ground.guard}],guard:=some (7,true)}) (v:= ?_) rfl (by kernel_rfl) (by kernel_rfl) (by kernel_rfl) (fun _ _ _ h=>h) (Or.inl ⟨by rfl,?_⟩) (by assumption) ?_
     rotate_left
     ·intro w hSw;(try dsimp only at hSw);go_simp;first|done|with_reducible rfl
     try simp only[Act.put,List.setIfInBounds_toArray,List.set_cons_zero,List.set_cons_succ]
     refine wpAnyH_take (i:=11) (oi:={dst:=some 26,op:=Op.indexAddr 28 (Operand.tmp 23) (Operand.tmp 25),type:=0,pos:= "ref.go:18",after:=#[{on:=8,ground:=Ground.data},{on:=10,ground:=Ground.data},{on:=7,ground:=Ground.guard}],guard:=some (7,true)}) (v:= ?_) rfl (by kernel_rfl) (by kernel_rfl) (by kernel_rfl) (fun _ _ _ h=>h) (Or.inl ⟨by rfl,?_⟩) (by assumption) ?_
     rotate_left
     ·intro w hSw;(try dsimp only at hSw);go_simp;first|done|with_reducible rfl
     try simp only[Act.put,List.setIfInBounds_toArray,List.set_cons_zero,List.set_cons_succ]
     refine wpAnyH_take (i:=12) (oi:={dst:=some 27,op:=Op.fieldAddr 41 (Operand.tmp 26) 0,type:=0,pos:= "ref.go:18",after:=#[{on:=11,ground:=Ground.data},{on:=7,ground:=Ground.guard}],guard:=some (7,true)}) (v:= ?_) rfl (by kernel_rfl) (by kernel_rfl) (by kernel_rfl) (fun _ _ _ h=>h) (Or.inl ⟨by rfl,?_⟩) (by assumption) ?_
     rotate_left
     ·intro w hSw;(try dsimp only at hSw);go_simp;first|done|with_reducible rfl
     try simp only[Act.put,List.setIfInBounds_toArray,List.set_cons_zero,List.set_cons_succ]
     refine wpAnyH_take (i:=13) (oi:={dst:=some 28,op:=Op.load 9 (Operand.tmp 27),type:=9,pos:= "ref.go:18",after:=#[{on:=12,ground:=Ground.data},{on:=7,ground:=Ground.guard}],guard:=some (7,true)}) (v:= ?_) rfl (by kernel_rfl) (by kernel_rfl) (by kernel_rfl) (fun _ _ _ h=>h) (Or.inl ⟨by rfl,?_⟩) (by assumption) ?_
     rotate_left
     ·intro w hSw;(try dsimp only at hSw);go_simp;first|done|with_reducible rfl
     try simp only[Act.put,List.setIfInBounds_toArray,List.set_cons_zero,List.set_cons_succ]
     refine wpAnyH_take (i:=14) (oi:={dst:=some 29,op:=Op.fieldAddr 41 (Operand.tmp 4) 0,type:=0,pos:= "ref.go:18",after:=#[{on:=7,ground:=Ground.guard}],guard:=some (7,true)}) (v:= ?_) rfl (by kernel_rfl) (by kernel_rfl) (by kernel_rfl) (fun _ _ _ h=>h) (Or.inl ⟨by rfl,?_⟩) (by assumption) ?_
     rotate_left
     ·intro w hSw;(try dsimp only at hSw);go_simp;first|done|with_reducible rfl
     try simp only[Act.put,List.setIfInBounds_toArray,List.set_cons_zero,List.set_cons_succ]
     refine wpAnyH_take (i:=15) (oi:={dst:=some 30,op:=Op.load 9 (Operand.tmp 29),type:=9,pos:= "ref.go:18",after:=#[{on:=14,ground:=Ground.data},{on:=7,ground:=Ground.guard}],guard:=some (7,true)}) (v:= ?_) rfl (by kernel_rfl) (by kernel_rfl) (by kernel_rfl) (fun _ _ _ h=>h) (Or.inl ⟨by rfl,?_⟩) (by assumption) ?_
     rotate_left
     ·intro w hSw;(try dsimp only at hSw);go_simp;first|done|with_reducible rfl
     try simp only[Act.put,List.setIfInBounds_toArray,List.set_cons_zero,List.set_cons_succ]
     refine wpAnyH_take (i:=16) (oi:={dst:=some 31,op:=Op.binOp BinOp.geq 9 (Operand.tmp 28) (Operand.tmp 30) 9,type:=4,pos:= "ref.go:18",after:=#[{on:=13,ground:=Ground.data},{on:=15,ground:=Ground.data},{on:=7,ground:=Ground.guard}],guard:=some (7,true)}) (v:= ?_) rfl (by kernel_rfl) (by kernel_rfl) (by kernel_rfl) (fun _ _ _ h=>h) (Or.inl ⟨by rfl,?_⟩) (by assumption) ?_
     rotate_left
     ·intro w hSw;(try dsimp only at hSw);go_simp;first|done|with_reducible rfl
     try simp only[Act.put,List.setIfInBounds_toArray,List.set_cons_zero,List.set_cons_succ]
     refine wpAnyH_take (i:=17) (oi:={dst:=some 32,op:=Op.pick (Operand.tmp 22) (Operand.tmp 31) (Operand.const (Value.bool false)),type:=4,pos:= "ref.go:18",after:=#[{on:=7,ground:=Ground.data},{on:=16,ground:=Ground.data},{on:=4,ground:=Ground.guard}],guard:=some (4,false)}) (v:= ?_) rfl (by kernel_rfl) (by kernel_rfl) (by kernel_rfl) (fun _ _ _ h=>h) (Or.inl ⟨by rfl,?_⟩) (by assumption) ?_
     rotate_left
     ·intro w hSw;(try dsimp only at hSw);go_simp;first|done|with_reducible rfl
     try simp only[Act.put,List.setIfInBounds_toArray,List.set_cons_zero,List.set_cons_succ]
     refine wpAnyH_take (i:=18) (oi:={dst:=some 33,op:=Op.pick (Operand.tmp 19) (Operand.const (Value.bool true)) (Operand.tmp 32),type:=4,pos:= "ref.go:18",after:=#[{on:=4,ground:=Ground.data},{on:=17,ground:=Ground.data}],guard:=none}) (v:= ?_) rfl (by kernel_rfl) (by kernel_rfl) (by kernel_rfl) (fun _ _ _ h=>h) (Or.inl ⟨by rfl,?_⟩) (by assumption) ?_
     rotate_left
     ·intro w hSw;(try dsimp only at hSw);go_simp;first|done|with_reducible rfl
     try simp only[Act.put,List.setIfInBounds_toArray,List.set_cons_zero,List.set_cons_succ]
     refine wpAnyH_take (i:=19) (oi:={dst:=some 34,op:=Op.move (Operand.tmp 33),type:=4,pos:= "ref.go:18",after:=#[{on:=18,ground:=Ground.data},{on:=7,ground:=Ground.chain}],guard:=none}) (v:= ?_) rfl (by kernel_rfl) (by kernel_rfl) (by kernel_rfl) (fun _ _ _ h=>h) (Or.inl ⟨by rfl,?_⟩) (by assumption) ?_
     rotate_left
     ·intro w hSw;(try dsimp only at hSw);go_simp;first|done|with_reducible rfl
     try simp only[Act.put,List.setIfInBounds_toArray,List.set_cons_zero,List.set_cons_succ]
     refine wpAnyH_take (i:=20) (oi:={dst:=some 35,op:=Op.fieldAddr 41 (Operand.tmp 4) 1,type:=0,pos:= "ref.go:18",after:=#[{on:=19,ground:=Ground.guard}],guard:=some (19,false)}) (v:= ?_) rfl (by kernel_rfl) (by kernel_rfl) (by kernel_rfl) (fun _ _ _ h=>h) (Or.inl ⟨by rfl,?_⟩) (by assumption) ?_
     rotate_left
     ·intro w hSw;(try dsimp only at hSw);go_simp;first|done|with_reducible rfl
     try simp only[Act.put,List.setIfInBounds_toArray,List.set_cons_zero,List.set_cons_succ]
     refine wpAnyH_take (i:=21) (oi:={dst:=some 36,op:=Op.load 39 (Operand.tmp 35),type:=39,pos:= "ref.go:18",after:=#[{on:=20,ground:=Ground.data},{on:=19,ground:=Ground.guard}],guard:=some (19,false)}) (v:= ?_) rfl (by kernel_rfl) (by kernel_rfl) (by kernel_rfl) (fun _ _ _ h=>h) (Or.inl ⟨by rfl,?_⟩) (by assumption) ?_
     rotate_left
     ·intro w hSw;(try dsimp only at hSw);go_simp;first|done|with_reducible rfl
     try simp only[Act.put,List.setIfInBounds_toArray,List.set_cons_zero,List.set_cons_succ]
     refine wpAnyH_ready (rs:=[22]) (by kernel_rfl) (by simp) (AllReadyH.cons (o:={dst:=some 37,op:=Op.call {callee:=Callee.value (Operand.func 146),args:=#[Operand.tmp 36],argTypes:=#[39]},type:=4,pos:= "ref.go:18",after:=#[{on:=21,ground:=Ground.data},{on:=19,ground:=Ground.chain},{on:=19,ground:=Ground.guard}],guard:=some (19,false)}) rfl (fun K hK=> ?_) AllReadyH.nil)
     go_simp
     (go_at_call 146;refine(hlg _ (hk1.trans hS3)).mono ?_;rintro e w4 ⟨rfl,hk4⟩;clear hS;have hS:Kept w1 w4:=hS3.trans hk4;have hS4:=hS)
     go_wp2_with fail
     refine hK.out _ _ (HALL2.out _ hS) (fun hHeld=> ?_)
     clear hK K
     try simp only[Act.put,List.setIfInBounds_toArray,List.set_cons_zero,List.set_cons_succ]
     refine wpAnyH_take (i:=23) (oi:={dst:=some 38,op:=Op.pick (Operand.tmp 34) (Operand.const (Value.bool true)) (Operand.tmp 37),type:=4,pos:= "ref.go:18",after:=#[{on:=19,ground:=Ground.data},{on:=22,ground:=Ground.data}],guard:=none}) (v:= ?_) rfl (by kernel_rfl) (by kernel_rfl) (by kernel_rfl) (fun _ _ _ h=>h) (Or.inl ⟨by rfl,?_⟩) (by assumption) ?_
     rotate_left
     ·intro w hSw;(try dsimp only at hSw);go_simp;first|done|with_reducible rfl
     try simp only[Act.put,List.setIfInBounds_toArray,List.set_cons_zero,List.set_cons_succ]
     refine wpAnyH_take (i:=24) (oi:={dst:=some 39,op:=Op.move (Operand.tmp 38),type:=4,pos:= "ref.go:18",after:=#[{on:=23,ground:=Ground.data},{on:=22,ground:=Ground.chain}],guard:=none}) (v:= ?_) rfl (by kernel_rfl) (by kernel_rfl) (by kernel_rfl) (fun _ _ _ h=>h) (Or.inl ⟨by rfl,?_⟩) (by assumption) ?_
     rotate_left
     ·intro w hSw;(try dsimp only at hSw);go_simp;first|done|with_reducible rfl
     try simp only[Act.put,List.setIfInBounds_toArray,List.set_cons_zero,List.set_cons_succ]
     refine wpAnyH_take (i:=25) (oi:={dst:=some 40,op:=Op.fieldAddr 41 (Operand.tmp 4) 1,type:=0,pos:= "ref.go:18",after:=#[{on:=24,ground:=Ground.guard}],guard:=some (24,false)}) (v:= ?_) rfl (by kernel_rfl) (by kernel_rfl) (by kernel_rfl) (fun _ _ _ h=>h) (Or.inl ⟨by rfl,?_⟩) (by assumption) ?_
     rotate_left
     ·intro w hSw;(try dsimp only at hSw);go_simp;first|done|with_reducible rfl
     try simp only[Act.put,List.setIfInBounds_toArray,List.set_cons_zero,List.set_cons_succ]
     refine wpAnyH_take (i:=26) (oi:={dst:=some 41,op:=Op.load 39 (Operand.tmp 40),type:=39,pos:= "ref.go:18",after:=#[{on:=25,ground:=Ground.data},{on:=24,ground:=Ground.guard}],guard:=some (24,false)}) (v:= ?_) rfl (by kernel_rfl) (by kernel_rfl) (by kernel_rfl) (fun _ _ _ h=>h) (Or.inl ⟨by rfl,?_⟩) (by assumption) ?_
     rotate_left
     ·intro w hSw;(try dsimp only at hSw);go_simp;first|done|with_reducible rfl
     try simp only[Act.put,List.setIfInBounds_toArray,List.set_cons_zero,List.set_cons_succ]
     refine wpAnyH_ready (rs:=[27]) (by kernel_rfl) (by simp) (AllReadyH.cons (o:={dst:=some 42,op:=Op.call {callee:=Callee.value (Operand.func 47),args:=#[Operand.tmp 41],argTypes:=#[39]},type:=99,pos:= "ref.go:18",after:=#[{on:=26,ground:=Ground.data},{on:=24,ground:=Ground.chain},{on:=24,ground:=Ground.guard}],guard:=some (24,false)}) rfl (fun K hK=> ?_) AllReadyH.nil)
     go_simp
     (go_at_call 47;refine(hof _ (hk1.trans hS4)).mono ?_;rintro e w5 ⟨_,_,_,_,_,_,_,_,_,_,_,_,_,_,_,_,rfl,hk5⟩;clear hS;have hS:Kept w1 w5:=hS4.trans hk5;have hS5:=hS)
     go_wp2_with fail
     refine hK.out _ _ (HALL2.out _ hS) (fun hHeld=> ?_)
     clear hK K
     try simp only[Act.put,List.setIfInBounds_toArray,List.set_cons_zero,List.set_cons_succ]
     refine wpAnyH_take (i:=28) (oi:={dst:=some 43,op:=Op.field 99 (Operand.tmp 42) 4,type:=4,pos:= "ref.go:18",after:=#[{on:=27,ground:=Ground.data},{on:=24,ground:=Ground.guard}],guard:=some (24,false)}) (v:= ?_) rfl (by kernel_rfl) (by kernel_rfl) (by kernel_rfl) (fun _ _ _ h=>h) (Or.inl ⟨by rfl,?_⟩) (by assumption) ?_
     rotate_left
     ·intro w hSw;(try dsimp only at hSw);go_simp;first|done|with_reducible rfl
     try simp only[Act.put,List.setIfInBounds_toArray,List.set_cons_zero,List.set_cons_succ]
     refine wpAnyH_take (i:=29) (oi:={dst:=some 44,op:=Op.pick (Operand.tmp 39) (Operand.const (Value.bool true)) (Operand.tmp 43),type:=4,pos:= "ref.go:18",after:=#[{on:=24,ground:=Ground.data},{on:=28,ground:=Ground.data}],guard:=none}) (v:= ?_) rfl (by kernel_rfl) (by kernel_rfl) (by kernel_rfl) (fun _ _ _ h=>h) (Or.inl ⟨by rfl,?_⟩) (by assumption) ?_
     rotate_left
     ·intro w hSw;(try dsimp only at hSw);go_simp;first|done|with_reducible rfl
     try simp only[Act.put,List.setIfInBounds_toArray,List.set_cons_zero,List.set_cons_succ]
     refine wpAnyH_done (by kernel_rfl) ?_ _
     go_wp2
     go_ret
     exact⟨by rw[boxOk_bad hlt (sideOk_iv hlt (by rw[HIV.out,hf,hvd];rfl))];rfl,hk1.trans hS5⟩
  ·obtain rfl:l.length=k:=by omega
   clear hi
   go_wp2
   go_ret
   exact⟨by rw[boxOk_good H6.out HOK.out];rfl,hkw⟩
end Go.Proofs.YtbapfnpbamnmpaaGreatDoor
