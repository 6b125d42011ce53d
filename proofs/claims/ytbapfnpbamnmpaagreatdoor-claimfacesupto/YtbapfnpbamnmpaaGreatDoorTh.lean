/- A part of the proof that ClaimFaces answers true for every input of bulk at most 1048576: conditions: the row's own. -/
import Derived.Test.YtbapfnpbamnmpaaGreatDoorTg
import Derived.Test.YtbapfnpbamnmpaaGreatDoorZa
namespace Go.Proofs.YtbapfnpbamnmpaaGreatDoor
open Go Go.RowKit Go.Dig Go.Deep
open Go.Eng (Kept KW KeptB wp_region_kw kw_call)
theorem iof_flag{w:World}{v:Value}{i:IvD}(h:Ivl w v i)(hf:i.fine=true):Calls Tryz.prog 47 #[v] w fun e w'=>
 ∃(p1:Bool)(a:Option Addr)(n c:Nat)(a':Option Addr)(n' c':Nat)(p2:Bool)(b:Option Addr)(m e1:Nat)(b':Option Addr)(m' e2:Nat)(li hi:Bool),
  e= .returned (.agg #[.bool p1,.slice a n c,.slice a' n' c',.bool p2,.slice b m e1,.slice b' m' e2,.bool li,.bool hi,.bool i.void])∧Kept w w':=
 (iof_calls h hf).mono fun e w' hr=>by
   obtain⟨v,rfl,hk,hq⟩:=hr
   cases hv:i.void
   ·rw[hv,if_neg (by simp)] at hq
    obtain⟨a,n,c,a',n',c',b,m,e,b',m',e',rfl,-⟩:=hq
    exact⟨_,_,_,_,_,_,_,_,_,_,_,_,_,_,_,_,rfl,hk⟩
   ·rw[hv,if_pos rfl] at hq
    obtain⟨a,n,c,a',n',c',b,m,e,b',m',e',rfl,-⟩:=hq
    exact⟨_,_,_,_,_,_,_,_,_,_,_,_,_,_,_,_,rfl,hk⟩
theorem wrap_small{x:Int}(h0:0≤x)(h1:x<4611686018427387904):IntKind.i64.wrap x=x:=by
 have h2:((2:Int)^64)=18446744073709551616:=by decide
 have h3:((2:Int)^63)=9223372036854775808:=by decide
 simp[IntKind.wrap,IntKind.bits,IntKind.signed]
 omega
set_option maxHeartbeats 8000000
set_option maxRecDepth 100000
theorem run_dec{j:Nat}{xt:TypeId}{x y:Operand}{w:World}(h:j<4611686018427387904):(do eqGuard .sub xt x y (.int .i64 ((j+1:Nat):Int)) (.int .i64 1);binOp .sub xt (.int .i64 ((j+1:Nat):Int)) (.int .i64 1):Sem Value).run Tryz.prog w= .ok (.int .i64 (j:Int)) w:=by
 go_simp
 exact wrap_small (by omega) (by omega)
theorem r5valid_calls{w:World}{a:Option Addr}{n cap:Nat}{l:List SideD}(h:Bxm w a n cap l):
 Calls Tryz.prog 74 #[.slice a n cap] w fun e w'=>e= .returned (.bool (boxOk l))∧Kept w w':=by
 obtain rfl:n=l.length:=h.1
 have HR:=fun(i:Nat)(hi:i<l.length)=>h.row hi
 clear h
 refine ent1 45 Tryz.func74 rfl Tryz.ntmps74 ?_
 iterate 3 go_step
 refine zz ?_
 iterate 6 go_step
 refine zz ?_
 refine zr (.int .i64 l.length) ?_
 refine z2 (.bool (decide (6<(l.length:Int)))) ?_
 iterate 3 go_step
 cases h6:decide (6<(l.length:Int))
 case' true=>
  have h6:6<l.length:=by have:=of_decide_eq_true h6;omega
  refine zt_true ?_
  iterate 2 go_step
  refine zz ?_
  iterate 6 go_step
  exact zretT ⟨by rw[boxOk_big h6],Kept.refl w⟩
 have h6:l.length≤6:=by have:=of_decide_eq_false h6;omega
 refine zt_false ?_
 iterate 6 go_step
 refine zz ?_
 refine zr (.int .i64 l.length) ?_
 refine zz ?_
 iterate 4 go_step
 refine zloop l.length (fun k=>[(0,.slice a l.length cap),(8,.slice a l.length cap),(9,.int .i64 l.length),(10,.int .i64 k)]) (fun k W=>(∀j,j<k→sideOk l j=true)∧Kept w W) ⟨rfl,rfl,rfl,rfl,trivial⟩ ⟨fun _ h=>absurd h (Nat.not_lt_zero _),Kept.refl w⟩
  fun fl wr k hk ⟨hok,K⟩=> ?_
 iterate 3 go_step
 refine z2 (.bool (decide ((k:Int)<(l.length:Int)))) ?_
 iterate 4 go_step
 cases hlt:decide ((k:Int)<(l.length:Int))
 case' false=>
  refine zt_false ?_
  iterate 7 go_step
  refine zz ?_
  iterate 5 go_step
  exact zretT ⟨by rw[boxOk_good h6 fun j hj=>hok j (by have:=of_decide_eq_false hlt;omega)],K⟩
 have hlt:k<l.length:=by have:=of_decide_eq_true hlt;omega
 obtain⟨b,off,a1,n1,c1,a2,n2,c2,a3,n3,c3,a4,n4,c4,rfl,rV,r1,r2⟩:=HR k hlt
 have hv:Ivl w (.agg #[.bool l[k].iv.s1,.slice a1 n1 c1,.slice a2 n2 c2,.bool l[k].iv.s2,.slice a3 n3 c3,.slice a4 n4 c4,.bool l[k].iv.li,.bool l[k].iv.hi]) l[k].iv:=⟨_,_,_,_,_,_,_,_,_,_,_,_,rfl,r1,r2⟩
 refine zt_true ?_
 iterate 7 go_step
 refine zz ?_
 refine zi (s:=9) k hlt ?_
 refine zl (V:=#[_,_,_,_,_,_,_,_,_]) ((Kept.sub K).range rV) own41 ?_
 refine za Z9 41 fun wa g5 e5 ka b5 sa=> ?_
 refine zz ?_
 refine zt b5 own41 own41 fun wb kb b5=> ?_
 replace K:=K.trans (ka.but kb (by omega))
 clear ka kb sa
 iterate 4 go_step
 refine drawn 0 0 fun hS=> ?_
 have hz:∀{b:Nat},b<0∨0≤b:=.inr (Nat.zero_le _)
 refine yzg 0 hS ?_
 refine yl1g 1 (b5.cell 0 rfl) hz hS ?_
 refine ycg 2 145 _ hS (risname_calls _ l[k].name) fun e w1 ⟨he,k1⟩=>⟨k1,_,he,fun hS=> ?_⟩
 replace k1:=(Kept.refl wb).drew.trans k1
 refine yzs [3,4] hS ?_
 cases hin:isName l[k].name
 case' false=>
  refine yzs (List.range' 5 25) hS ?_
  refine yend ?_
  iterate 2 go_step
  refine zt_true ?_
  iterate 2 go_step
  refine zz ?_
  iterate 8 go_step
  exact zretT ⟨by rw[boxOk_bad hlt (sideOk_name hlt hin)],K.trans k1⟩
 refine yzg 5 hS ?_
 refine yrg 6 (.bool (decide (0<(k:Int)))) hS ?_
 refine yzg 7 hS ?_
 obtain hk0|⟨j,hk0⟩:k=0∨∃j,k=j+1:=by cases k<;>simp
 case' inl=>
  rw[show decide (0<(k:Int))=false from decide_eq_false (by omega)]
  refine yzs (List.range' 8 12) hS ?_
  have hsd:l[k].iv.fine=true→l[k].iv.void=false→sideOk l k=true:=by subst hk0;exact sideOk_zero hlt hin
 case' inr=>
  have hj:j<l.length:=by omega
  obtain⟨b',off',p1,p2,p3,p4,p5,p6,p7,p8,p9,q1,q2,q3,hb,rJ,-,-⟩:=HR j hj
  cases hb
  rw[show decide (0<(k:Int))=true from decide_eq_true (by omega)]
  refine yzs [8,9] hS ?_
  refine y2g 10 (.int .i64 (j:Int)) hS ?_ (hrun:=by subst hk0;exact fun _=>run_dec (by omega))
  refine yig (s:=9) 11 j hj hS ?_
  refine yzg 12 hS ?_
  refine yl1g 13 (K.cell (rJ 0 _ rfl)) hz hS ?_
  refine yzg 14 hS ?_
  refine yl1g 15 (b5.cell 0 rfl) hz hS ?_
  refine y2g 16 (.bool (!Op.bytesLess l[j].name.toList l[k].name.toList)) hS ?_
  refine yzs [17,18,19] hS ?_
  cases hlo:Op.bytesLess l[j].name.toList l[k].name.toList
  case' false=>
   refine yzs (List.range' 20 10) hS ?_
   refine yend ?_
   iterate 2 go_step
   refine zt_true ?_
   iterate 2 go_step
   refine zz ?_
   iterate 8 go_step
   exact zretT ⟨by subst hk0;rw[boxOk_bad hlt (sideOk_order hlt hlo)],K.trans k1⟩
  have hsd:l[k].iv.fine=true→l[k].iv.void=false→sideOk l k=true:=by subst hk0;exact fun h1 h2=>sideOk_succ hlt hin h1 h2 hlo
 all_goals
  refine yzg 20 hS ?_
  refine ylg 21 (V:=#[_,_,_,_,_,_,_,_]) (b5.part 1) hz own39 hS ?_
  refine ycg 22 146 _ hS (ilarge_calls (hv.kept (K.trans k1))) fun e w2 ⟨he,k2⟩=>⟨k2,_,he,fun hS=> ?_⟩
  replace k1:=k1.trans k2
  refine yzs [23,24] hS ?_
  cases hf:l[k].iv.fine
  case' false=>
   refine yzs [25,26,27,28,29] hS ?_
   refine yend ?_
   iterate 2 go_step
   refine zt_true ?_
   iterate 2 go_step
   refine zz ?_
   iterate 8 go_step
   exact zretT ⟨by rw[boxOk_bad hlt (sideOk_iv hlt (by rw[hf];rfl))],K.trans k1⟩
  refine yzg 25 hS ?_
  refine ylg 26 (V:=#[_,_,_,_,_,_,_,_]) (b5.part 1) hz own39 hS ?_
  refine ycg 27 47 _ hS (iof_flag (hv.kept (K.trans k1)) hf) fun e w3 ⟨_,_,_,_,_,_,_,_,_,_,_,_,_,_,_,_,he,k3⟩=>⟨k3,_,he,fun hS=> ?_⟩
  replace k1:=k1.trans k3
  refine yrg 28 (.bool l[k].iv.void) hS ?_ (hrun:=fun _ _=>by kernel_rfl)
  refine yzg 29 hS ?_
  refine yend ?_
  iterate 2 go_step
  cases hd:l[k].iv.void
  case' true=>
   refine zt_true ?_
   iterate 2 go_step
   refine zz ?_
   iterate 8 go_step
   exact zretT ⟨by rw[boxOk_bad hlt (sideOk_iv hlt (by rw[hf,hd];rfl))],K.trans k1⟩
  refine zt_false ?_
  iterate 4 go_step
  refine z2 (.int .i64 ((k+1:Nat):Int)) (hrun:=run_inc (by omega)) ?_
  refine zz ?_
  iterate 3 go_step
  refine⟨_,rfl,hlt,⟨rfl,rfl,rfl,rfl,trivial⟩,fun i hi=> ?_,K.trans k1⟩
  rcases Nat.lt_succ_iff_lt_or_eq.1 hi with h|h
  ·exact hok i h
  ·subst h;exact hsd hf hd
end Go.Proofs.YtbapfnpbamnmpaaGreatDoor
