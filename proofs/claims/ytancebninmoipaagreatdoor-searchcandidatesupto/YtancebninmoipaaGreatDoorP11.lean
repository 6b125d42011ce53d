/- A part of the proof that SearchCandidates answers true for every input of bulk at most 1048576: conditions: the row's own. -/
import Derived.Test.YtancebninmoipaaGreatDoorP10
import Derived.Test.YtancebninmoipaaGreatDoorP09
import Derived.Maps.Views
import Derived.Sort.KeysCollected
import Derived.Shelf.SlGeneric
import Derived.Shelf.SlIter.Nil
import Derived.Shelf.SortM.Plain
import Derived.Shelf.SortM.SortNone
import Derived.Test.YtancebninmoipaaGreatDoorProg
import Derived.Maps.OwnSet
namespace Go.Proofs.YtancebninmoipaaGreatDoor
section
open Go Go.RowKit Go.Dig Go.Deep
open Go.Eng (Kept KW KeptB wp_region_kw kw_call)
theorem blk_news{w:World}{b:Nat}{cs:Array Value}{t:TypeId}(h:Blk w b cs t):∀(j:Nat)(u:Value),cs.toList[j]? =some u→w.cell? (Addr.add ⟨b,0,none⟩ j)=some u:=by
 intro j u hu
 rw[show(Addr.add ⟨b,0,none⟩ j)=⟨b,0+j,none⟩ by unfold Addr.add;split<;>simp_all]
 rw[Nat.zero_add]
 exact h.cell j (by simpa using hu)
theorem Ex.kidR{w:World}{f:Nat}{op arg:Int}{s:Bool}{N D:Nat}{name:ByteArray}{kids:List Tree}{y1 y2 y3 y4 y5:Value}{name':Value}{a:Option Addr}{n cap:Nat}
 (h:Ex w (f+1) (.agg #[y1,y2,y3,y4,y5,name',.slice a n cap]) (.node op arg s N D name kids)){i:Nat}(hi:i<kids.length):
 ∃b off V,a=some ⟨b,off,none⟩∧w.rangeAt b (off+i*7) (Array.toList V)∧Own 27 V∧Ex w f (.agg V) kids[i]:=by
 obtain⟨b,off,o,g,z,u1,u2,u3,u4,u5,u6,nm,a2,n2,cap2,h1,c0,c1,c2,c3,c4,c5,c6,hex⟩:=h.kid hi
 refine⟨b,off,_,h1,fun j v hv=> ?_,own7,hex⟩
 rcases(show j=0∨j=1∨j=2∨j=3∨j=4∨j=5∨j=6∨7≤j by omega) with rfl|rfl|rfl|rfl|rfl|rfl|rfl|hj<;>first
  |(injection hv with hv;subst hv;assumption)
  |(rw[List.getElem?_eq_none (by simpa using hj)] at hv;cases hv)
theorem Sub.range{w w':World}(h:Sub w w'){b o:Nat}{cs:List Value}(r:w.rangeAt b o cs):w'.rangeAt b o cs:=fun j v hv=>h _ _ (r j v hv)
theorem Blk.part{w:World}{b:Nat}{V:Array Value}{t:TypeId}(h:Blk w b V t)(o:Nat){L:List Value}(hL:(V.toList.drop o).take L.length=L:=by rfl):w.rangeAt b o L:=fun j v hv=>by
 refine h.cell (o+j) ?_
 rw[←hL,List.getElem?_take] at hv
 split at hv
 ·rw[List.getElem?_drop] at hv
  simpa using hv
 ·cases hv
theorem own3{z:Bool}{x1:Option Addr}{x2 x3:Nat}{x4:Option Addr}{x5 x6:Nat}:Own 24 #[.bool z,.slice x1 x2 x3,.slice x4 x5 x6]:=⟨by kernel_rfl,by simp[Value.oneCell']⟩
theorem unr_ofG{σ:Type}{c:Code}{Q:Exit→Act→World→Prop}{n:Nat}(m:Nat)(L:Nat→σ→List (Nat×Value))(I:Nat→σ→World→Prop)
 (h:∀(l:Fm)(w:World)(k:Nat)(s:σ),k≤m→I k s w→c.wp Tryz.prog (Exit.then (fun a w=>∃l' s',a=frm n l'∧k+1≤m∧sees l' (L (k+1) s')∧I (k+1) s' w) Q) (frm n (look l (L k s))) w):
 ∀(r k:Nat)(s:σ)(l:Fm)(w:World),k≤m→m-k=r→sees l (L k s)→I k s w→Unr Tryz.prog c Q (r+1) (frm n l) w
 |r,k,s,l,w,hk,hr,hs,hI=>by
  have hh:=h l w k s hk hI
  rw[look_eq hs] at hh
  refine Code.wp_mono ?_ hh
  intro e a' w' q
  cases e<;>first
   |exact q
   |(obtain⟨l',s',rfl,hk',hs',hI'⟩:=q
     cases r with
     |zero=>omega
     |succ r=>exact unr_ofG m L I h r (k+1) s' l' w' hk' (by omega) hs' hI')
theorem zloopG{σ:Type}{c:Code}{Q:Exit→Act→World→Prop}{n:Nat}{l:Fm}{w:World}(m:Nat)(L:Nat→σ→List (Nat×Value))(I:Nat→σ→World→Prop)(s0:σ)(hl:sees l (L 0 s0))(h0:I 0 s0 w)
 (h:∀(l:Fm)(w:World)(k:Nat)(s:σ),k≤m→I k s w→c.wp Tryz.prog (Exit.then (fun a w=>∃l' s',a=frm n l'∧k+1≤m∧sees l' (L (k+1) s')∧I (k+1) s' w) Q) (frm n (look l (L k s))) w):
 (Code.loop c).wp Tryz.prog Q (frm n l) w:=loop_n _ (unr_ofG m L I h m 0 s0 l w (Nat.zero_le _) rfl hl h0)
def Z9:Array Value:=#[.string ⟨#[]⟩,.bool false,.slice none 0 0,.slice none 0 0,.bool false,.slice none 0 0,.slice none 0 0,.bool false,.bool false]
def ZI:Array Value:=#[.bool false,.slice none 0 0,.slice none 0 0,.bool false,.slice none 0 0,.slice none 0 0,.bool false,.bool false]
theorem own39{s1:Bool}{a1:Option Addr}{n1 c1:Nat}{a2:Option Addr}{n2 c2:Nat}{s2:Bool}{a3:Option Addr}{n3 c3:Nat}{a4:Option Addr}{n4 c4:Nat}{p q:Bool}:Own 43 #[.bool s1,.slice a1 n1 c1,.slice a2 n2 c2,.bool s2,.slice a3 n3 c3,.slice a4 n4 c4,.bool p,.bool q]:=
 ⟨by kernel_rfl,by simp[Value.oneCell']⟩
theorem own41{nm:ByteArray}{s1:Bool}{a1:Option Addr}{n1 c1:Nat}{a2:Option Addr}{n2 c2:Nat}{s2:Bool}{a3:Option Addr}{n3 c3:Nat}{a4:Option Addr}{n4 c4:Nat}{p q:Bool}:Own 45 #[.string nm,.bool s1,.slice a1 n1 c1,.slice a2 n2 c2,.bool s2,.slice a3 n3 c3,.slice a4 n4 c4,.bool p,.bool q]:=
 ⟨by kernel_rfl,by simp[Value.oneCell']⟩
theorem Bxm.row{w:World}{a:Option Addr}{n cap:Nat}{l:List SideD}(h:Bxm w a n cap l){i:Nat}(hi:i<l.length):∃b off a1 n1 c1 a2 n2 c2 a3 n3 c3 a4 n4 c4,a=some ⟨b,off,none⟩∧
 w.rangeAt b (off+i*9) [.string l[i].name,.bool l[i].iv.s1,.slice a1 n1 c1,.slice a2 n2 c2,.bool l[i].iv.s2,.slice a3 n3 c3,.slice a4 n4 c4,.bool l[i].iv.li,.bool l[i].iv.hi]∧
 Rt w (.agg #[.bool l[i].iv.s1,.slice a1 n1 c1,.slice a2 n2 c2]) l[i].iv.s1 l[i].iv.N1 l[i].iv.D1∧Rt w (.agg #[.bool l[i].iv.s2,.slice a3 n3 c3,.slice a4 n4 c4]) l[i].iv.s2 l[i].iv.N2 l[i].iv.D2:=by
 obtain⟨b,off,s1,a1,n1,c1,a2,n2,c2,s2,a3,n3,c3,a4,n4,c4,p,q,ha,h0,h1,h2,h3,h4,h5,h6,h7,h8,a1',n1',c1',a2',n2',c2',a3',n3',c3',a4',n4',c4',he,hr,hr'⟩:=h.2.2.2 i hi
 have he:=Value.agg.inj he
 simp only[Array.mk.injEq,List.cons.injEq,Value.bool.injEq,Value.slice.injEq,and_true] at he
 obtain⟨rfl,⟨rfl,rfl,rfl⟩,⟨rfl,rfl,rfl⟩,rfl,⟨rfl,rfl,rfl⟩,⟨rfl,rfl,rfl⟩,rfl,rfl⟩:=he
 refine⟨b,off,_,_,_,_,_,_,_,_,_,_,_,_,ha,fun j v hv=> ?_,hr,hr'⟩
 rcases(show j=0∨j=1∨j=2∨j=3∨j=4∨j=5∨j=6∨j=7∨j=8∨9≤j by omega) with rfl|rfl|rfl|rfl|rfl|rfl|rfl|rfl|rfl|hj<;>first
  |(injection hv with hv;subst hv;assumption)
  |(rw[List.getElem?_eq_none (by simpa using hj)] at hv;cases hv)
section
variable{n:Nat}{l:Fm}{ops:Array Oper}{rest:List Oper}{Q:Exit→Act→World→Prop}{oi oj:Oper}{fuel:Nat}{listed:Array Bool}{w w0:World}{d e lo up:Nat}
theorem zret1{fn:Func}{ty t1:TypeId}{p1:Tmp}{g1:Nat}{V1:Array Value}{R:Ending→World→Prop}(b1:Blk w g1 V1 t1)(v1:Own ty V1)(hR:R (.returned (.agg V1)) w)
 (h:fn.results=#[.cell p1 ty]:=by rfl)(hx1:opv n l (.tmp p1)=some (.pointer (some ⟨g1,0,none⟩)):=by rfl)(hu:(Tryz.prog.underlying ty).map TypeDesc.isRow=some true:=by kernel_rfl):bodyPost Tryz.prog fn R .ret (frm n l) w:=by
 refine bodyPost_ret ?_ rfl hR
 have e1:=tmp_get hx1
 simp only[Array.getD_eq_getD_getElem?] at e1
 simp[results,h,e1,asAddr,b1.loadVar v1 hu]
theorem zretT{fn:Func}{v:Value}{R:Ending→World→Prop}(hR:R (.returned v) w)(h:fn.results=#[.tmp d]:=by rfl)(hv:opv n l (.tmp d)=some v:=by rfl):bodyPost Tryz.prog fn R .ret (frm n l) w:=by
 refine bodyPost_ret ?_ rfl hR
 have e1:=tmp_get hv
 simp only[Array.getD_eq_getD_getElem?] at e1
 simp[results,h,e1]
end
theorem entL{f:FuncId}{fn:Func}{c:Code}{w:World}{R:Ending→World→Prop}(vs:List Value)(N:Nat)(hf:Tryz.prog.funcs[f]? =some fn)(hb:fn.body=some c)(hn:fn.ntmps=N)(hle:vs.length≤N)
 (h:c.wp Tryz.prog (bodyPost Tryz.prog fn R) (frm N fun i=>vs[i]?) w):Calls Tryz.prog f vs.toArray w R:=by
 have e:(⟨vs.toArray++Array.replicate (N-vs.length) undef,[]⟩:Act)=frm N (fun i=>vs[i]?):=by
  refine congrArg (fun t=>(⟨t,[]⟩:Act)) (?_:vs.toArray++Array.replicate (N-vs.length) undef=((List.range N).map fun i=>(vs[i]?).getD undef).toArray)
  apply Array.ext
  ·simp;omega
  ·intro i h1 h2
   simp only[Array.getElem_append,List.size_toArray,List.getElem_toArray,List.getElem_map,List.getElem_range,Array.getElem_replicate]
   split
   ·rename_i hi
    rw[List.getElem?_eq_getElem hi]
    rfl
   ·rename_i hi
    rw[List.getElem?_eq_none (by omega)]
    rfl
 refine calls_of_wp hf hb ?_
 rw[hn,show vs.toArray.size=vs.length from rfl,e]
 exact h
end
section
open Go Go.RowKit Go.Dig Go.Deep
open Go.Eng (Kept KW KeptB wp_region_kw kw_call)
theorem iof_flag{w:World}{v:Value}{i:IvD}(h:Ivl w v i)(hf:i.fine=true):Calls Tryz.prog 17 #[v] w fun e w'=>
 ∃(p1:Bool)(a:Option Addr)(n c:Nat)(a':Option Addr)(n' c':Nat)(p2:Bool)(b:Option Addr)(m e1:Nat)(b':Option Addr)(m' e2:Nat)(li hi:Bool),
  e= .returned (.agg #[.bool p1,.slice a n c,.slice a' n' c',.bool p2,.slice b m e1,.slice b' m' e2,.bool li,.bool hi,.bool i.void])∧Kept w w':=
 (iof_calls h hf).mono fun e w' hr=>by
   obtain⟨v,rfl,hk,hq⟩:=hr
   cases hv:i.void
   ·rw[hv,if_neg (by simp)] at hq
    obtain⟨a,n,c,a',n',c',b,m,e,b',m',e',rfl,-⟩:=hq
    exact⟨_,_,_,_,_,_,_,_,_,_,_,_,_,_,_,_,rfl,hk⟩
   ·rw[hv,if_pos rfl] at hq
    obtain⟨a,n,c,a',n',c',b,m,e,b',m',e',rfl,-⟩:=hq
    exact⟨_,_,_,_,_,_,_,_,_,_,_,_,_,_,_,_,rfl,hk⟩
theorem wrap_small{x:Int}(h0:0≤x)(h1:x<4611686018427387904):IntKind.i64.wrap x=x:=by
 have h2:((2:Int)^64)=18446744073709551616:=by decide
 have h3:((2:Int)^63)=9223372036854775808:=by decide
 simp[IntKind.wrap,IntKind.bits,IntKind.signed]
 omega
set_option maxHeartbeats 8000000
set_option maxRecDepth 100000
theorem run_dec{j:Nat}{xt:TypeId}{x y:Operand}{w:World}(h:j<4611686018427387904):(do eqGuard .sub xt x y (.int .i64 ((j+1:Nat):Int)) (.int .i64 1);binOp .sub xt (.int .i64 ((j+1:Nat):Int)) (.int .i64 1):Sem Value).run Tryz.prog w= .ok (.int .i64 (j:Int)) w:=by
 go_simp
 exact wrap_small (by omega) (by omega)
theorem r5valid_calls{w:World}{a:Option Addr}{n cap:Nat}{l:List SideD}(h:Bxm w a n cap l):
 Calls Tryz.prog 34 #[.slice a n cap] w fun e w'=>e= .returned (.bool (boxOk l))∧Kept w w':=by
 obtain rfl:n=l.length:=h.1
 have HR:=fun(i:Nat)(hi:i<l.length)=>h.row hi
 clear h
 refine ent1 45 Tryz.func34 rfl Tryz.ntmps34 ?_
 iterate 3 go_step
 refine zz ?_
 iterate 6 go_step
 refine zz ?_
 refine zr (.int .i64 l.length) ?_
 refine z2 (.bool (decide (6<(l.length:Int)))) ?_
 iterate 3 go_step
 cases h6:decide (6<(l.length:Int))
 case' true=>
  have h6:6<l.length:=by have:=of_decide_eq_true h6;omega
  refine zt_true ?_
  iterate 2 go_step
  refine zz ?_
  iterate 6 go_step
  exact zretT ⟨by rw[boxOk_big h6],Kept.refl w⟩
 have h6:l.length≤6:=by have:=of_decide_eq_false h6;omega
 refine zt_false ?_
 iterate 6 go_step
 refine zz ?_
 refine zr (.int .i64 l.length) ?_
 refine zz ?_
 iterate 4 go_step
 refine zloop l.length (fun k=>[(0,.slice a l.length cap),(8,.slice a l.length cap),(9,.int .i64 l.length),(10,.int .i64 k)]) (fun k W=>(∀j,j<k→sideOk l j=true)∧Kept w W) ⟨rfl,rfl,rfl,rfl,trivial⟩ ⟨fun _ h=>absurd h (Nat.not_lt_zero _),Kept.refl w⟩
  fun fl wr k hk ⟨hok,K⟩=> ?_
 iterate 3 go_step
 refine z2 (.bool (decide ((k:Int)<(l.length:Int)))) ?_
 iterate 4 go_step
 cases hlt:decide ((k:Int)<(l.length:Int))
 case' false=>
  refine zt_false ?_
  iterate 7 go_step
  refine zz ?_
  iterate 5 go_step
  exact zretT ⟨by rw[boxOk_good h6 fun j hj=>hok j (by have:=of_decide_eq_false hlt;omega)],K⟩
 have hlt:k<l.length:=by have:=of_decide_eq_true hlt;omega
 obtain⟨b,off,a1,n1,c1,a2,n2,c2,a3,n3,c3,a4,n4,c4,rfl,rV,r1,r2⟩:=HR k hlt
 have hv:Ivl w (.agg #[.bool l[k].iv.s1,.slice a1 n1 c1,.slice a2 n2 c2,.bool l[k].iv.s2,.slice a3 n3 c3,.slice a4 n4 c4,.bool l[k].iv.li,.bool l[k].iv.hi]) l[k].iv:=⟨_,_,_,_,_,_,_,_,_,_,_,_,rfl,r1,r2⟩
 refine zt_true ?_
 iterate 7 go_step
 refine zz ?_
 refine zi (s:=9) k hlt ?_
 refine zl (V:=#[_,_,_,_,_,_,_,_,_]) ((Kept.sub K).range rV) own41 ?_
 refine za Z9 45 fun wa g5 e5 ka b5 sa=> ?_
 refine zz ?_
 refine zt b5 own41 own41 fun wb kb b5=> ?_
 replace K:=K.trans (ka.but kb (by omega))
 clear ka kb sa
 iterate 4 go_step
 refine drawn 0 0 fun hS=> ?_
 have hz:∀{b:Nat},b<0∨0≤b:=.inr (Nat.zero_le _)
 refine yzg 0 hS ?_
 refine yl1g 1 (b5.cell 0 rfl) hz hS ?_
 refine ycg 2 64 _ hS (risname_calls _ l[k].name) fun e w1 ⟨he,k1⟩=>⟨k1,_,he,fun hS=> ?_⟩
 replace k1:=(Kept.refl wb).drew.trans k1
 refine yzs [3,4] hS ?_
 cases hin:isName l[k].name
 case' false=>
  refine yzs (List.range' 5 25) hS ?_
  refine yend ?_
  iterate 2 go_step
  refine zt_true ?_
  iterate 2 go_step
  refine zz ?_
  iterate 8 go_step
  exact zretT ⟨by rw[boxOk_bad hlt (sideOk_name hlt hin)],K.trans k1⟩
 refine yzg 5 hS ?_
 refine yrg 6 (.bool (decide (0<(k:Int)))) hS ?_
 refine yzg 7 hS ?_
 obtain hk0|⟨j,hk0⟩:k=0∨∃j,k=j+1:=by cases k<;>simp
 case' inl=>
  rw[show decide (0<(k:Int))=false from decide_eq_false (by omega)]
  refine yzs (List.range' 8 12) hS ?_
  have hsd:l[k].iv.fine=true→l[k].iv.void=false→sideOk l k=true:=by subst hk0;exact sideOk_zero hlt hin
 case' inr=>
  have hj:j<l.length:=by omega
  obtain⟨b',off',p1,p2,p3,p4,p5,p6,p7,p8,p9,q1,q2,q3,hb,rJ,-,-⟩:=HR j hj
  cases hb
  rw[show decide (0<(k:Int))=true from decide_eq_true (by omega)]
  refine yzs [8,9] hS ?_
  refine y2g 10 (.int .i64 (j:Int)) hS ?_ (hrun:=by subst hk0;exact fun _=>run_dec (by omega))
  refine yig (s:=9) 11 j hj hS ?_
  refine yzg 12 hS ?_
  refine yl1g 13 (K.cell (rJ 0 _ rfl)) hz hS ?_
  refine yzg 14 hS ?_
  refine yl1g 15 (b5.cell 0 rfl) hz hS ?_
  refine y2g 16 (.bool (!Op.bytesLess l[j].name.toList l[k].name.toList)) hS ?_
  refine yzs [17,18,19] hS ?_
  cases hlo:Op.bytesLess l[j].name.toList l[k].name.toList
  case' false=>
   refine yzs (List.range' 20 10) hS ?_
   refine yend ?_
   iterate 2 go_step
   refine zt_true ?_
   iterate 2 go_step
   refine zz ?_
   iterate 8 go_step
   exact zretT ⟨by subst hk0;rw[boxOk_bad hlt (sideOk_order hlt hlo)],K.trans k1⟩
  have hsd:l[k].iv.fine=true→l[k].iv.void=false→sideOk l k=true:=by subst hk0;exact fun h1 h2=>sideOk_succ hlt hin h1 h2 hlo
 all_goals
  refine yzg 20 hS ?_
  refine ylg 21 (V:=#[_,_,_,_,_,_,_,_]) (b5.part 1) hz own39 hS ?_
  refine ycg 22 65 _ hS (ilarge_calls (hv.kept (K.trans k1))) fun e w2 ⟨he,k2⟩=>⟨k2,_,he,fun hS=> ?_⟩
  replace k1:=k1.trans k2
  refine yzs [23,24] hS ?_
  cases hf:l[k].iv.fine
  case' false=>
   refine yzs [25,26,27,28,29] hS ?_
   refine yend ?_
   iterate 2 go_step
   refine zt_true ?_
   iterate 2 go_step
   refine zz ?_
   iterate 8 go_step
   exact zretT ⟨by rw[boxOk_bad hlt (sideOk_iv hlt (by rw[hf];rfl))],K.trans k1⟩
  refine yzg 25 hS ?_
  refine ylg 26 (V:=#[_,_,_,_,_,_,_,_]) (b5.part 1) hz own39 hS ?_
  refine ycg 27 17 _ hS (iof_flag (hv.kept (K.trans k1)) hf) fun e w3 ⟨_,_,_,_,_,_,_,_,_,_,_,_,_,_,_,_,he,k3⟩=>⟨k3,_,he,fun hS=> ?_⟩
  replace k1:=k1.trans k3
  refine yrg 28 (.bool l[k].iv.void) hS ?_ (hrun:=fun _ _=>by kernel_rfl)
  refine yzg 29 hS ?_
  refine yend ?_
  iterate 2 go_step
  cases hd:l[k].iv.void
  case' true=>
   refine zt_true ?_
   iterate 2 go_step
   refine zz ?_
   iterate 8 go_step
   exact zretT ⟨by rw[boxOk_bad hlt (sideOk_iv hlt (by rw[hf,hd];rfl))],K.trans k1⟩
  refine zt_false ?_
  iterate 4 go_step
  refine z2 (.int .i64 ((k+1:Nat):Int)) (hrun:=run_inc (by omega)) ?_
  refine zz ?_
  iterate 3 go_step
  refine⟨_,rfl,hlt,⟨rfl,rfl,rfl,rfl,trivial⟩,fun i hi=> ?_,K.trans k1⟩
  rcases Nat.lt_succ_iff_lt_or_eq.1 hi with h|h
  ·exact hok i h
  ·subst h;exact hsd hf hd
end
section
open Go Go.RowKit Go.Dig Go.Deep
open Go.Eng (Kept KW KeptB)
def covB(l:List SideD)(vs:List ByteArray):Bool:=vs.all fun x=>decide (0≤sideAt l 0 x)
theorem covB_congr{l:List SideD}{vs ts:List ByteArray}(h:∀x,x∈ts↔x∈vs):covB l ts=covB l vs:=by
 rw[Bool.eq_iff_iff]
 unfold covB
 rw[List.all_eq_true,List.all_eq_true]
 exact⟨fun h1 x hx=>h1 x ((h x).2 hx),fun h1 x hx=>h1 x ((h x).1 hx)⟩
theorem covB_bad{l:List SideD}{vs:List ByteArray}{x:ByteArray}(hx:x∈vs)(h:sideAt l 0 x<0):covB l vs=false:=by
 unfold covB
 rw[List.all_eq_false]
 exact⟨x,hx,by simp;exact h⟩
set_option maxHeartbeats 2000000 in
set_option maxRecDepth 100000 in
theorem rcovered_calls{f:Nat}{w:World}{v:Value}{t:Tree}(h:Ex w f v t)(hnd:nodesT t≤100000){a:Option Addr}{n cap:Nat}{l:List SideD}(hb:Bxm w a n cap l):
 Calls Tryz.prog 35 #[v,.slice a n cap] w fun e w'=>e= .returned (.bool (covB l (varsT t)))∧Kept w w':=by
 have hh:=h
 cases f with
 |zero=>exact h.elim
 |succ f=>
 obtain⟨op,arg,s,N,D,name,kids,rfl⟩:∃op arg s N D name kids,t=Tree.node op arg s N D name kids:=by cases t;exact⟨_,_,_,_,_,_,_,rfl⟩
 obtain⟨x1,x2,x3,x4,x5,x6,a0,cap0,rfl,hc,hn,hr⟩:=h.shape
 clear h hr
 have hk:Kept w (w.alloc (.cells #[.int .i64 op,.int .i64 arg,.bool s,.slice x1 x2 x3,.slice x4 x5 x6,.string name,.slice a0 kids.length cap0] 27)):=(Kept.refl w).alloc _
 have hnm:=names04_calls (f+1) (hh.kept hk) none 0 0 [] ⟨rfl,.inl ⟨rfl,rfl⟩⟩ (Nat.le_refl _) (by omega)
 clear hh
 generalize Tree.node op arg s N D name kids=t at*
 go_enter Tryz.func35,Tryz.ntmps35
 go_wp2_with(first|(go_at_call 66;refine hnm.mono ?_;rintro e w1 ⟨a1,n1,c1,ts,rfl,hsl,hc1,hn1,hm,hk1⟩))
 have hkw:=hk.trans hk1
 have hbw:=hb.kept hkw
 have HM:Hid (∀x,x∈ts↔x∈varsT t):=Lib.hid fun x=>by rw[hm];simp
 have HN:=Lib.hid hsl.1
 have hcell:∀i,(hi:i<n1)→∃b off x,a1=some ⟨b,off,none⟩∧w1.cell? ⟨b,off+i,none⟩=some (.string x)∧x∈ts∧∀h,ts[i]'h=x:=by
  intro i hi
  obtain⟨hl,⟨rfl,rfl⟩|⟨b,off,rfl,hc⟩⟩:=hsl
  ·omega
  ·exact⟨b,off,ts[i]'(by omega),rfl,hc i (by omega),List.getElem_mem _,fun _=>rfl⟩
 clear hm hsl hb hk hk1
 have hsd:=fun nm=>rside_calls hbw nm
 clear hbw
 have hn2:n1≤100000:=by omega
 go_loop [6] (fun i=>∃k:Nat,k≤n1∧i= .int .i64 (k:Int)∧∀j,j<k→∀h,0≤sideAt l 0 (ts[j]'h)) (fun i=>n1-(intOf i).toNat)
 case atStart=>exact⟨0,Nat.zero_le _,rfl,fun j hj=>absurd hj (Nat.not_lt_zero j)⟩
 case round=>
  obtain⟨k,hkl,rfl,hok⟩:=hrel
  have HOK:=Lib.hid hok;clear hok
  by_cases hlt:k<n1
  ·obtain⟨b,off,x,rfl,c0,hx,hxe⟩:=hcell k hlt
   have HX:=Lib.hid (And.intro hx hxe)
   clear hcell hx hxe
   have hs:=hsd x
   clear hsd
   by_cases hneg:sideAt l 0 x<0
   ·have tneg:decide (sideAt l 0 x<0)=true:=by simpa using hneg
    have HR:Hid (covB l (varsT t)=false):=Lib.hid (by rw[←covB_congr HM.out];exact covB_bad HX.out.1 hneg)
    generalize sideAt l 0 x=y at*
    go_wp2_with(first|(go_at_call 67;refine hs.mono ?_;rintro e w2 ⟨rfl,rfl⟩))
    go_ret
    exact⟨by rw[HR.out];rfl,hkw⟩
   ·have tneg:decide (sideAt l 0 x<0)=false:=by simpa using hneg
    have HP:Hid (0≤sideAt l 0 x):=Lib.hid (by omega)
    clear hneg
    have HY:Hid (∃y,sideAt l 0 x=y):=Lib.hid ⟨_,rfl⟩
    obtain⟨y,hy⟩:=HY.out
    rw[hy] at hs tneg
    have HY2:=Lib.hid hy;clear hy HY
    go_wp2_with(first|(go_at_call 67;refine hs.mono ?_;rintro e w2 ⟨rfl,rfl⟩))
    go_round
    case rel=>exact⟨k+1,by omega,by go_num,fun j hj hl=>by
               by_cases h:j<k
               ·exact HOK.out j h hl
               ·obtain rfl:j=k:=by omega
                rw[HX.out.2];exact HP.out⟩
    case measure=>simp[intOf];omega
  ·obtain rfl:n1=k:=by omega
   have HR:Hid (covB l (varsT t)=true):=Lib.hid (by
    rw[←covB_congr HM.out]
    unfold covB
    rw[List.all_eq_true]
    intro x hx
    obtain⟨j,hj,rfl⟩:=List.getElem_of_mem hx
    exact decide_eq_true (HOK.out j (by have:=HN.out;omega) hj))
   clear hcell hsd
   go_wp2
   go_ret
   exact⟨by rw[HR.out];rfl,hkw⟩
end
section
open Go Go.RowKit Go.Dig Go.Shelf
open Go.Eng (Kept KW KeptB)
theorem nodeOk_name{op arg:Int}{s:Bool}{N D:Nat}{name:ByteArray}{n:Nat}(h:nodeOk op arg s N D name n=true):name.size≤8:=by
 unfold nodeOk at h
 simp only[Bool.and_eq_true,decide_eq_true_eq] at h
 obtain⟨_,h⟩:=h
 split at h
 ·simp only[Bool.and_eq_true,decide_eq_true_eq] at h
  have:=h.2;omega
 ·simp only[Bool.and_eq_true,decide_eq_true_eq] at h
  obtain⟨_,h⟩:=h
  split at h
  ·unfold isName at h;simp only[Bool.and_eq_true,decide_eq_true_eq] at h;exact h.1.1
  ·have:=of_decide_eq_true h;omega
theorem nodeOk_var{arg:Int}{s:Bool}{N D:Nat}{name:ByteArray}{n:Nat}(h:nodeOk 2 arg s N D name n=true):n=0:=by
 unfold nodeOk kidsI at h
 simp at h;omega
mutual
def goodT:Tree→Prop
 | .node op _ _ _ _ name kids=>name.size≤8∧(op=2→kids.length=0)∧goodL kids
def goodL:List Tree→Prop
 |[]=>True
 |t::ts=>goodT t∧goodL ts
end
mutual
theorem cnt_good:∀(t:Tree)(d m m':Nat),cnt t d m=some m'→goodT t
 | .node op arg s N D name kids,d,m,m'=>by
   intro h
   rw[cnt] at h
   split at h
   ·cases h
   ·rename_i hc
    have hno:nodeOk op arg s N D name kids.length=true:=by
     cases hx:nodeOk op arg s N D name kids.length
     ·exact absurd (.inr (.inr hx)) hc
     ·rfl
    exact⟨nodeOk_name hno,fun h2=>by subst h2;exact nodeOk_var hno,cnts_good kids (d+1) (m+1) m' h⟩
theorem cnts_good:∀(ts:List Tree)(d m m':Nat),cnts ts d m=some m'→goodL ts
 |[],_,_,_=>fun _=>trivial
 |t::ts,d,m,m'=>by
  intro h
  rw[cnts] at h
  cases h1:cnt t d m with
  |none=>rw[h1] at h;cases h
  |some m1=>rw[h1] at h;exact⟨cnt_good t d m m1 h1,cnts_good ts d m1 m' h⟩
end
theorem Tree.ok_good{t:Tree}(h:t.ok=true):goodT t:=by
 unfold Tree.ok at h
 obtain⟨m,hm⟩:=Option.isSome_iff_exists.1 h
 exact cnt_good _ _ _ _ hm
theorem goodL_get:∀{ts:List Tree},goodL ts→∀i(h:i<ts.length),goodT ts[i]
 |t::ts,hg,0,_=>hg.1
 |t::ts,hg,i+1,h=>goodL_get hg.2 i (by simpa using h)
def namesOf(L:List Nv):List ByteArray:=L.flatMap fun x=>if x.op=2 then [x.name] else []
theorem namesOf_append(a b:List Nv):namesOf (a++b)=namesOf a++namesOf b:=by simp[namesOf]
theorem flat_names{ls:Nat→List Nv}:∀{kids:List Tree}(k:Nat),(∀i(h:i<kids.length),k≤i+k∧namesOf (ls (i+k))=varsT kids[i]∧(ls (i+k)).length=nodesT kids[i])→
 namesOf ((List.range' k kids.length).flatMap ls)=varsL kids∧((List.range' k kids.length).flatMap ls).length=nodesL kids
 |[],k,_=>by simp[namesOf,varsL,nodesL]
 |t::ts,k,h=>by
  have h0:=h 0 (by simp)
  have ih:=flat_names (ls:=ls) (kids:=ts) (k+1) (fun i hi=>by
   have:=h (i+1) (by simpa using hi)
   rw[show i+1+k=i+(k+1) by omega] at this
   exact⟨by omega,by simpa using this.2⟩)
  simp only[Nat.zero_add,List.getElem_cons_zero] at h0
  rw[show(t::ts).length=ts.length+1 from rfl,List.range'_succ,List.flatMap_cons,namesOf_append,ih.1,h0.2.1,varsL,List.length_append,ih.2,h0.2.2,nodesL]
  exact⟨rfl,rfl⟩
theorem lst_of:∀(f:Nat){w:World}{v:Value}{t:Tree},Ex w f v t→goodT t→∃(x:Nv)(L:List Nv),v=x.val∧Lst w f x L∧L.length=nodesT t∧namesOf L=varsT t
 |0,_,_,_,h=>h.elim
 |f+1,w,v,.node op arg s N D name kids,h=>by
  intro hg
  obtain⟨g1,g2,g3⟩:=hg
  obtain⟨x1,x2,x3,x4,x5,x6,a,cap,rfl,hc,hn,hr⟩:=h.shape
  have hkid:∀i,i<kids.length→∃L:List Nv,∃b off y,a=some ⟨b,off,none⟩∧Nv.At w b (off+i*7) y∧Lst w f y L∧∀h:i<kids.length,L.length=nodesT kids[i]∧namesOf L=varsT kids[i]:=by
   intro i hi
   obtain⟨b,off,o,g,z,u1,u2,u3,u4,u5,u6,nm,a',n',cap',rfl,c0,c1,c2,c3,c4,c5,c6,hex⟩:=h.kid hi
   obtain⟨y,L,hv,hL,hl,hnm⟩:=lst_of f hex (goodL_get g3 i hi)
   refine⟨L,b,off,y,rfl,?_,hL,fun _=>⟨hl,hnm⟩⟩
   obtain⟨yo,ya,ys,y1,y2,y3,y4,y5,y6,ynm,yaa,yn,yc,ysh⟩:=y
   simp only[Nv.val,Value.agg.injEq,Array.mk.injEq,List.cons.injEq,Value.int.injEq,Value.bool.injEq,Value.slice.injEq,Value.string.injEq,true_and,and_true] at hv
   obtain⟨rfl,rfl,rfl,⟨rfl,rfl,rfl⟩,⟨rfl,rfl,rfl⟩,rfl,rfl,rfl,rfl⟩:=hv
   exact⟨c0,c1,c2,c3,c4,c5,c6⟩
  clear h
  refine⟨⟨op,arg,s,x1,x2,x3,x4,x5,x6,name,a,kids.length,cap,g1⟩,_,rfl,⟨fun i=>if h:i<kids.length then Classical.choose (hkid i h) else [],rfl,hn,fun i hi=> ?_⟩,?_⟩
  ·obtain⟨b,off,y,e,hat,hL,-⟩:=Classical.choose_spec (hkid i hi)
   exact⟨b,off,y,e,hat,by show Lst w f y (dite (i<kids.length) _ _);rw[dif_pos (show i<kids.length from hi)];exact hL⟩
  ·have hf:=flat_names (ls:=fun i=>if h:i<kids.length then Classical.choose (hkid i h) else []) (kids:=kids) 0 (fun i hi=>by
    obtain⟨b,off,y,e,hat,hL,hx⟩:=Classical.choose_spec (hkid i hi)
    refine⟨Nat.zero_le _,?_⟩
    rw[Nat.add_zero,dif_pos hi]
    exact⟨(hx hi).2,(hx hi).1⟩)
   rw[←List.range_eq_range'] at hf
   refine⟨?_,?_⟩
   ·rw[List.length_cons,hf.2,nodesT]
   ·have e:∀(x:Nv)(l:List Nv),namesOf (x::l)=(if x.op=2 then [x.name] else [])++namesOf l:=fun _ _=>rfl
    rw[e,hf.1,varsT]
    by_cases h2:op=2
    ·rw[if_pos h2,if_pos h2]
     have:=g2 h2
     obtain rfl:kids=[]:=List.eq_nil_of_length_eq_zero this
     simp[varsL]
    ·rw[if_neg h2,if_neg h2];rfl
theorem put_names{H:Type}{es:List (Lit×DataW H)}(hs:∀p∈es,∃x,p.1= .string x)(s:List UInt8)(d:DataW H):
 ∃es',(DataW.map es).put (.string s) d= .map es'∧(∀p∈es',∃x,p.1= .string x)∧∀x,x∈strKeys (.map es')↔x∈strKeys (.map es)∨x=s:=by
 have hkey:∀p∈es,((!p.1.sameKey (.string s))=true↔p.1≠.string s):=by
  intro p hp
  obtain⟨y,hy⟩:=hs p hp
  rw[hy]
  simp[Lit.sameKey]
 refine⟨_,rfl,?_,?_⟩
 ·intro p hp
  rcases ChangeMaps.mem_insert_iff.1 hp with rfl|hp
  ·exact⟨s,rfl⟩
  ·exact hs p (List.mem_filter.1 hp).1
 ·intro x
  show x∈List.map _ _↔x∈List.map _ _∨_
  simp only[List.mem_map]
  constructor
  ·rintro⟨p,hp,rfl⟩
   rcases ChangeMaps.mem_insert_iff.1 hp with rfl|hp
   ·exact .inr rfl
   ·exact .inl ⟨p,(List.mem_filter.1 hp).1,rfl⟩
  ·rintro(⟨p,hp,rfl⟩|rfl)
   ·by_cases e:p.1= .string s
    ·exact⟨(.string s,d),ChangeMaps.mem_insert_iff.2 (.inl rfl),by rw[e]⟩
    ·exact⟨p,ChangeMaps.mem_insert_iff.2 (.inr (List.mem_filter.2 ⟨hp,(hkey p hp).2 e⟩)),rfl⟩
   ·exact⟨(.string x,d),ChangeMaps.mem_insert_iff.2 (.inl rfl),rfl⟩
def seenD{H:Type}(L:List Nv):DataW H:=L.foldl (fun D x=>if x.op=2 then D.put (.string x.name.data.toList) (.lit (.bool true)) else D) (.map [])
theorem seenD_snoc{H:Type}(L:List Nv)(x:Nv):seenD (H:=H) (L++[x])=if x.op=2 then(seenD L).put (.string x.name.data.toList) (.lit (.bool true)) else seenD L:=by simp[seenD]
theorem fold_names{H:Type}:∀(L:List Nv)(es:List (Lit×DataW H)),(∀p∈es,∃x,p.1= .string x)→
 ∃es',L.foldl (fun D x=>if x.op=2 then D.put (.string x.name.data.toList) (.lit (.bool true)) else D) (DataW.map es)= .map es'∧∀x,x∈strKeys (.map es')↔x∈strKeys (.map es)∨x∈(namesOf L).map fun s=>s.data.toList
 |[],es,_=>⟨es,rfl,fun x=>by simp[namesOf]⟩
 |y::L,es,hs=>by
  rw[List.foldl_cons]
  have e:namesOf (y::L)=(if y.op=2 then [y.name] else [])++namesOf L:=rfl
  by_cases h2:y.op=2
  ·rw[if_pos h2]
   obtain⟨es1,h1,hs1,hm1⟩:=put_names hs y.name.data.toList (.lit (.bool true))
   rw[h1]
   obtain⟨es',h',hm'⟩:=fold_names L es1 hs1
   refine⟨es',h',fun x=> ?_⟩
   rw[hm',hm1,e,if_pos h2,List.map_append,List.mem_append,or_assoc]
   simp
  ·rw[if_neg h2]
   obtain⟨es',h',hm'⟩:=fold_names L es hs
   refine⟨es',h',fun x=> ?_⟩
   rw[hm',e,if_neg h2,List.nil_append]
theorem seenD_keys{H:Type}(L:List Nv)(x:List UInt8):x∈strKeys (seenD (H:=H) L)↔x∈(namesOf L).map fun s=>s.data.toList:=by
 obtain⟨es',h,hm⟩:=fold_names (H:=H) L [] (fun p hp=>by cases hp)
 unfold seenD
 rw[h,hm]
 simp[strKeys]
end
end Go.Proofs.YtancebninmoipaaGreatDoor
namespace Go.Proofs
open Go.Shelf
set_option maxRecDepth 100000
def Tryz.keysA_ren:Go.Shelf.Ren:=⟨fun|7=>112|10=>190|n=>n,fun|23=>182|26=>9|3=>4|28=>187|0=>0|27=>186|33=>113|4=>4|n=>n,fun|n=>n⟩
theorem Tryz.keysA:Go.Proofs.SlLaysZ.n7 Tryz.prog Tryz.keysA_ren:={
 mixed:=by kernel_rfl
 f7:=⟨Tryz.f112.name,by decide,Tryz.func112.trans (congrArg some (by kernel_rfl))⟩
 f10:=⟨Tryz.f190.name,by decide,Tryz.func190.trans (congrArg some (by kernel_rfl))⟩
 t0:=Tryz.underlying0
 a0:=Tryz.isAgg0
 z0:=Tryz.sizeOf0
 v0:=Tryz.zeroValue0
 t4:=Tryz.underlying4
 a4:=Tryz.isAgg4
 z4:=Tryz.sizeOf4
 v4:=Tryz.zeroValue4
 t23:=Tryz.underlying182
 a23:=Tryz.isAgg182
 z23:=Tryz.sizeOf182
 v23:=Tryz.zeroValue182
 t26:=Tryz.underlying9
 a26:=Tryz.isAgg9
 z26:=Tryz.sizeOf9
 v26:=Tryz.zeroValue9
 t27:=Tryz.underlying186
 a27:=Tryz.isAgg186
 z27:=Tryz.sizeOf186
 v27:=Tryz.zeroValue186
 t28:=Tryz.underlying187
 a28:=Tryz.isAgg187
 z28:=Tryz.sizeOf187
 v28:=Tryz.zeroValue187
 t33:=Tryz.underlying113
 a33:=Tryz.isAgg113
 z33:=Tryz.sizeOf113
 v33:=Tryz.zeroValue113}
def Tryz.sortedA_ren:Go.Shelf.Ren:=⟨fun|6=>111|8=>188|9=>189|11=>235|13=>223|12=>236|23=>238|24=>265|14=>270|15=>271|16=>272|17=>273|18=>274|19=>275|20=>276|21=>277|22=>278|25=>306|26=>301|27=>302|28=>307|29=>308|30=>309|31=>333|n=>n,fun|26=>9|28=>187|24=>117|0=>0|3=>3|37=>256|48=>212|50=>141|4=>4|40=>315|39=>314|45=>250|5=>5|9=>9|51=>349|55=>353|57=>370|58=>368|33=>113|n=>n,fun|n=>n⟩
theorem Tryz.sortedA:Go.Proofs.SlLaysZ.n6 Tryz.prog Tryz.sortedA_ren:={
 mixed:=by kernel_rfl
 f6:=⟨Tryz.f111.name,by decide,Tryz.func111.trans (congrArg some (by kernel_rfl))⟩
 f8:=⟨Tryz.f188.name,by decide,Tryz.func188.trans (congrArg some (by kernel_rfl))⟩
 f11:=⟨Tryz.f235.name,by decide,Tryz.func235.trans (congrArg some (by kernel_rfl))⟩
 t0:=Tryz.underlying0
 a0:=Tryz.isAgg0
 z0:=Tryz.sizeOf0
 v0:=Tryz.zeroValue0
 t24:=Tryz.underlying117
 a24:=Tryz.isAgg117
 z24:=Tryz.sizeOf117
 v24:=Tryz.zeroValue117
 t26:=Tryz.underlying9
 a26:=Tryz.isAgg9
 z26:=Tryz.sizeOf9
 v26:=Tryz.zeroValue9
 t28:=Tryz.underlying187
 a28:=Tryz.isAgg187
 z28:=Tryz.sizeOf187
 v28:=Tryz.zeroValue187
 i26:=by kernel_rfl}
def Tryz.sortA_ren:Go.Shelf.Ren:=⟨fun|6=>189|8=>223|9=>236|19=>238|20=>265|21=>270|22=>271|23=>272|24=>273|25=>274|26=>275|27=>276|28=>277|29=>278|36=>306|31=>301|32=>302|37=>307|38=>308|39=>309|41=>333|n=>n,fun|27=>117|29=>9|3=>3|32=>256|26=>117|0=>0|44=>212|46=>141|4=>4|36=>315|35=>314|41=>250|5=>5|9=>9|53=>349|57=>353|63=>370|64=>368|n=>n,fun|n=>n⟩
theorem Tryz.sortA:Go.Proofs.SlLaysM.n6 Tryz.prog Tryz.sortA_ren:={
 mixed:=by kernel_rfl
 f6:=⟨Tryz.f189.name,by decide,Tryz.func189.trans (congrArg some (by kernel_rfl))⟩
 f8:=Tryz.func223.trans (congrArg some (by kernel_rfl))
 f9:=⟨Tryz.f236.name,by decide,Tryz.func236.trans (congrArg some (by kernel_rfl))⟩
 f19:=Tryz.func238.trans (congrArg some (by kernel_rfl))
 f20:=Tryz.func265.trans (congrArg some (by kernel_rfl))
 f21:=⟨Tryz.f270.name,by decide,Tryz.func270.trans (congrArg some (by kernel_rfl))⟩
 f22:=⟨Tryz.f271.name,by decide,Tryz.func271.trans (congrArg some (by kernel_rfl))⟩
 f23:=⟨Tryz.f272.name,by decide,Tryz.func272.trans (congrArg some (by kernel_rfl))⟩
 f24:=⟨Tryz.f273.name,by decide,Tryz.func273.trans (congrArg some (by kernel_rfl))⟩
 f25:=⟨Tryz.f274.name,by decide,Tryz.func274.trans (congrArg some (by kernel_rfl))⟩
 f26:=⟨Tryz.f275.name,by decide,Tryz.func275.trans (congrArg some (by kernel_rfl))⟩
 f27:=⟨Tryz.f276.name,by decide,Tryz.func276.trans (congrArg some (by kernel_rfl))⟩
 f28:=⟨Tryz.f277.name,by decide,Tryz.func277.trans (congrArg some (by kernel_rfl))⟩
 f29:=⟨Tryz.f278.name,by decide,Tryz.func278.trans (congrArg some (by kernel_rfl))⟩
 f31:=Tryz.func301.trans (congrArg some (by kernel_rfl))
 f32:=Tryz.func302.trans (congrArg some (by kernel_rfl))
 f36:=⟨Tryz.f306.name,by decide,Tryz.func306.trans (congrArg some (by kernel_rfl))⟩
 f37:=⟨Tryz.f307.name,by decide,Tryz.func307.trans (congrArg some (by kernel_rfl))⟩
 f38:=⟨Tryz.f308.name,by decide,Tryz.func308.trans (congrArg some (by kernel_rfl))⟩
 f39:=⟨Tryz.f309.name,by decide,Tryz.func309.trans (congrArg some (by kernel_rfl))⟩
 f41:=⟨Tryz.f333.name,by decide,Tryz.func333.trans (congrArg some (by kernel_rfl))⟩
 t0:=Tryz.underlying0
 a0:=Tryz.isAgg0
 z0:=Tryz.sizeOf0
 v0:=Tryz.zeroValue0
 t3:=Tryz.underlying3
 a3:=Tryz.isAgg3
 z3:=Tryz.sizeOf3
 v3:=Tryz.zeroValue3
 t4:=Tryz.underlying4
 a4:=Tryz.isAgg4
 z4:=Tryz.sizeOf4
 v4:=Tryz.zeroValue4
 t5:=Tryz.underlying5
 a5:=Tryz.isAgg5
 z5:=Tryz.sizeOf5
 v5:=Tryz.zeroValue5
 t9:=Tryz.underlying9
 a9:=Tryz.isAgg9
 z9:=Tryz.sizeOf9
 v9:=Tryz.zeroValue9
 t26:=Tryz.underlying117
 a26:=Tryz.isAgg117
 z26:=Tryz.sizeOf117
 v26:=Tryz.zeroValue117
 t27:=Tryz.underlying117
 a27:=Tryz.isAgg117
 z27:=Tryz.sizeOf117
 v27:=Tryz.zeroValue117
 t29:=Tryz.underlying9
 a29:=Tryz.isAgg9
 z29:=Tryz.sizeOf9
 v29:=Tryz.zeroValue9
 t32:=Tryz.underlying256
 a32:=Tryz.isAgg256
 z32:=Tryz.sizeOf256
 v32:=Tryz.zeroValue256
 t35:=Tryz.underlying314
 a35:=Tryz.isAgg314
 z35:=Tryz.sizeOf314
 v35:=Tryz.zeroValue314
 t36:=Tryz.underlying315
 a36:=Tryz.isAgg315
 z36:=Tryz.sizeOf315
 v36:=Tryz.zeroValue315
 t41:=Tryz.underlying250
 a41:=Tryz.isAgg250
 z41:=Tryz.sizeOf250
 v41:=Tryz.zeroValue250
 t44:=Tryz.underlying212
 a44:=Tryz.isAgg212
 z44:=Tryz.sizeOf212
 v44:=Tryz.zeroValue212
 t46:=Tryz.underlying141
 a46:=Tryz.isAgg141
 z46:=Tryz.sizeOf141
 v46:=Tryz.zeroValue141
 t53:=Tryz.underlying349
 a53:=Tryz.isAgg349
 z53:=Tryz.sizeOf349
 v53:=Tryz.zeroValue349
 t57:=Tryz.underlying353
 a57:=Tryz.isAgg353
 z57:=Tryz.sizeOf353
 v57:=Tryz.zeroValue353
 t63:=Tryz.underlying370
 a63:=Tryz.isAgg370
 z63:=Tryz.sizeOf370
 v63:=Tryz.zeroValue370
 t64:=Tryz.underlying368
 a64:=Tryz.isAgg368
 z64:=Tryz.sizeOf368
 v64:=Tryz.zeroValue368}
end Go.Proofs
namespace Go.Proofs.YtancebninmoipaaGreatDoor
open Go.Eng (Kept KW KeptB)
section
open Go Go.RowKit Go.Dig Go.Shelf Go.Maps Go.Sort
attribute [local go_sem] Oper.semAt_some
theorem sortsA(m:Nat):AnyZ.SortsIn Tryz.prog Tryz.sortedA_ren Fence.wide m:=
 ⟨fun blk off cap ss W hH hblk hsz=>callsIn_wide.2 (AnyM.slices_Sort_string Tryz.sortA blk off cap ss W hH hblk hsz),
  fun p cap W=>callsIn_wide.2 (AnyM.slices_Sort_string_none Tryz.sortA p cap W)⟩
theorem keys_calls(n:Nat)(mb:Option Nat)(W:World):CallsIn Fence.wide n Tryz.prog 112 #[.map mb] W fun e w'=>e= .returned (.func (.func 190) #[] #[.pointer (some ⟨W.heap.size,0,none⟩)])∧w'=W.alloc (.cells #[.map mb] 182):=
 AnyZ.keys_in Tryz.keysA Fence.wide n trivial rfl mb W
set_option maxHeartbeats 1000000 in
theorem sorted_calls{H:Type}(b nn:Nat)(D0:DataW H)(R:Value→Option (DataW H×List MemPlace))(w:World)(hown:w.ownsMap Tryz.prog 9 R b nn D0)(hmax:Maps.size D0≤maxLen)(hbytes:Maps.size D0*16≤140737488355328):
 CallsIn Fence.wide 5 Tryz.prog 111 #[.func (.func 190) #[] #[.pointer (some ⟨w.heap.size,0,none⟩)]] (w.alloc (.cells #[.map (some b)] 182)) fun e w'=>∃(v:Value)(ss:List (List UInt8)),e= .returned v∧ss.Perm (strKeys D0)∧
  w'.ownsRow w.heap.size 9 1 v ss.length ((ss.mergeSort (fun x y=>decide (x≤y))).map encStr)∧Below w.heap.size w w':=by
 have hbl:=hown.lt
 have hseq:SeqGives Fence.wide 2 Tryz.prog 190 #[.pointer (some ⟨w.heap.size,0,none⟩)] encStr (fun ss=>ss.Perm (strKeys D0)) (Maps.size D0) (w.alloc (.cells #[.map (some b)] 182)):=
  AnyZ.keys_gives (ρ:=Tryz.keysA_ren) {Tryz.keysA with} Fence.wide _ trivial rfl (by omega) w.heap.size b nn D0 _ (by simp) (by simp) (by
   obtain⟨es,clock,hb,Ft,hs,hD⟩:=hown
   exact⟨es,clock,(Below.heap_alloc _ _ b hbl).trans hb,Ft,hs,hD⟩)
 have cS:=AnyZ.sorted_in Tryz.sortedA Fence.wide 5 trivial trivial trivial trivial rfl (by omega) (sortsA _) (enters_of Tryz.func189 (by kernel_rfl) rfl) 190 #[.pointer (some ⟨w.heap.size,0,none⟩)] trivial (enters_of Tryz.func190 (by kernel_rfl) rfl) _ _ hmax hbytes _ hseq
 change CallsIn _ _ Tryz.prog 111 _ _ _ at cS
 refine cS.mono ?_
 rintro e w' ⟨v,ss,rfl,hS,hrow,hnil,hb⟩
 exact⟨v,ss,rfl,hS,ownsRow_base_a hrow (by simp),((Below.refl _ w).alloc (Nat.le_refl _) _).trans (hb.mono (by simp))⟩
end
section
open Go Go.RowKit Go.Dig Go.Shelf Go.Maps Go.Sort
attribute [local go_sem] Oper.semAt_some
theorem strKeys_size{H:Type}(D:DataW H):(strKeys D).length=Maps.size D:=by
 cases D<;>simp[strKeys,Maps.size]
theorem sorted_mem{H:Type}{ss:List (List UInt8)}{L:List Nv}(hS:ss.Perm (strKeys (seenD (H:=H) L)))(z:ByteArray):
 z∈((ss.mergeSort fun x y=>decide (x≤y)).map fun l=>(⟨l.toArray⟩:ByteArray))↔z∈namesOf L:=by
 rw[List.mem_map]
 constructor
 ·rintro⟨l,hl,rfl⟩
  have h1:=(seenD_keys L l).1 (hS.mem_iff.1 ((List.mergeSort_perm ss _).mem_iff.1 hl))
  obtain⟨s,hs,rfl⟩:=List.mem_map.1 h1
  exact hs
 ·intro hz
  refine⟨z.data.toList,(List.mergeSort_perm ss _).mem_iff.2 (hS.mem_iff.2 ((seenD_keys L _).2 (List.mem_map.2 ⟨z,hz,rfl⟩))),rfl⟩
theorem key_string{s:ByteArray}(h:s.size≤8):keyOf Tryz.prog 9 (.string s)=some (.string s.data.toList):=by
 have h2:s.data.size≤8:=h
 simp[keyOf,Tryz.underlying9,mapKey]
 exact Nat.le_trans h2 (by unfold maxLen;decide)
set_option maxHeartbeats 1000000 in
set_option maxRecDepth 100000 in
theorem vars_good{f:Nat}{w:World}{v:Value}{t:Tree}(h:Ex w f v t)(hT:Laid w)(hok:t.ok=true):
 Calls Tryz.prog 52 #[v] w fun e w'=>∃a n cap ts,e= .returned (.tuple #[.slice a n cap,.int .i64 0])∧SL w' a n ts∧n≤cap∧n≤300∧(∀x,x∈ts↔x∈varsT t)∧Kept w w':=by
 obtain⟨x,L,rfl,hL,hlen,hnm⟩:=lst_of f h (Tree.ok_good hok)
 have hlen:L.length≤300:=by have:=Tree.ok_nodes hok;omega
 have hmm:= @run_makeMap Tryz.prog
 have hk:Kept w (w.alloc (.cells #[.int .i64 x.op,.int .i64 x.arg,.bool x.s,.slice x.x1 x.x2 x.x3,.slice x.x4 x.x5 x.x6,.string x.name,.slice x.a x.n x.cap] 27)):=(Kept.refl w).alloc _
 have hv:=pvalid_calls (h.kept hk) (hT.kept hk)
 have hbx0:=Blk.new w #[.int .i64 x.op,.int .i64 x.arg,.bool x.s,.slice x.x1 x.x2 x.x3,.slice x.x4 x.x5 x.x6,.string x.name,.slice x.a x.n x.cap] 27
 rw[hok] at hv
 clear h hok
 dsimp only[Nv.val] at hv⊢
 refine(callsIn_wide (n:=6)).1 ?_
 refine callsIn_of_wp_marks Tryz.func52 rfl trivial ?_ rfl
 simp only[Tryz.ntmps52,List.size_toArray,List.length_cons,List.length_nil,Nat.reduceAdd,Nat.reduceSub,Array.replicate_succ,Array.replicate_zero,List.push_toArray,List.append_toArray,List.nil_append,List.cons_append]
 gi_wp2_with (first
  |(refine⟨trivial,?_⟩;gi_at_call 24;refine(callsIn_wide.2 hv).mono ?_;rintro e w1 ⟨rfl,hk1⟩;obtain⟨c0,c1,c2,c3,c4,c5,c6,-⟩:=(hbx0.kept (hk1.trans (((Kept.refl w1).alloc (.map #[] 0)).alloc (.cells #[.map (some w1.heap.size)] 182)))).facts7)
  |(refine⟨trivial,?_⟩;gi_at_call 110;refine(nodes_in Fence.wide _ trivial rfl x _).mono ?_;rintro e w2 ⟨rfl,rfl⟩))
 have hbl:=(Blk.new ((w1.alloc (.map #[] 0)).alloc (.cells #[.map (some w1.heap.size)] 182)) #[.int .i64 x.op,.int .i64 x.arg,.bool x.s,.slice x.x1 x.x2 x.x3,.slice x.x4 x.x5 x.x6,.string x.name,.slice x.a x.n x.cap] 27)
 have hm0:=((World.ownsMap_made w1 Tryz.prog 9 (plainElem (H:=Nat) Tryz.prog 4)).alloc (.cells #[.map (some w1.heap.size)] 182)).alloc (.cells #[.int .i64 x.op,.int .i64 x.arg,.bool x.s,.slice x.x1 x.x2 x.x3,.slice x.x4 x.x5 x.x6,.string x.name,.slice x.a x.n x.cap] 27)
 have hbm:=(Boxed.new (w1.alloc (.map #[] 0)) 182 (.map (some w1.heap.size))).alloc (.cells #[.int .i64 x.op,.int .i64 x.arg,.bool x.s,.slice x.x1 x.x2 x.x3,.slice x.x4 x.x5 x.x6,.string x.name,.slice x.a x.n x.cap] 27)
 simp only[World.size_alloc] at hbl hbm
 have hkW:Kept w1 (((w1.alloc (.map #[] 0)).alloc (.cells #[.map (some w1.heap.size)] 182)).alloc (.cells #[.int .i64 x.op,.int .i64 x.arg,.bool x.s,.slice x.x1 x.x2 x.x3,.slice x.x4 x.x5 x.x6,.string x.name,.slice x.a x.n x.cap] 27)):=(((Kept.refl w1).alloc _).alloc _).alloc _
 have hszW:(((w1.alloc (.map #[] 0)).alloc (.cells #[.map (some w1.heap.size)] 182)).alloc (.cells #[.int .i64 x.op,.int .i64 x.arg,.bool x.s,.slice x.x1 x.x2 x.x3,.slice x.x4 x.x5 x.x6,.string x.name,.slice x.a x.n x.cap] 27)).heap.size=w1.heap.size+3:=by simp
 obtain⟨W0,hW0⟩:∃W0,((w1.alloc (.map #[] 0)).alloc (.cells #[.map (some w1.heap.size)] 182)).alloc (.cells #[.int .i64 x.op,.int .i64 x.arg,.bool x.s,.slice x.x1 x.x2 x.x3,.slice x.x4 x.x5 x.x6,.string x.name,.slice x.a x.n x.cap] 27)=W0:=⟨_,rfl⟩
 rw[hW0] at hbl hm0 hbm hkW hszW⊢
 clear hW0
 have hkw0:=(hk.trans hk1).trans hkW
 have hsz1:=(hk.trans hk1).size
 generalize hbmE:w1.heap.size=bm at*
 have hB0:Below w.heap.size w W0:=below_of_kept hkw0
 have hszw:=hkw0.size
 refine wpIn_rangeFunc_ownH rfl (by omega) (gf:=186) (lb:=#[.pointer (some ⟨bm+1+1,0,none⟩)]) rfl trivial (enters_of Tryz.func186 (by kernel_rfl) rfl)
  (nodes_stops Fence.wide rfl 5 trivial trivial rfl (bm+1+1) w f x L hL W0 hB0 hbl) (fun h k=>h.trans k) (fun W l o o' hl h ho _=>kc_putObj W l o o' (by omega) h ho) (Below.refl _ _) (fun _=>rfl)
  (fun pre W=>(Boxed W (bm+1) 182 (.map (some bm))∧∃nn,nn≤pre.length∧W.ownsMap Tryz.prog 9 (plainElem (H:=Nat) Tryz.prog 4) bm nn (seenD pre))∧Below w.heap.size w W)
  (fun _ _ _=>False)
  (OwnFrom.and (OwnFrom.and (Own.from (boxed_own _ _ _) _) (fun s X Y row hs hg hr=>by obtain⟨nn,h1,h2⟩:=hs;exact⟨nn,h1,h2.kept hg (fun e=>by have:=(hr _ e.symm).1;omega)⟩)) (ownFrom_below (Nat.le_refl _) (by omega)))
  (fun _ _ _ _ _ hs _ _=>hs)
  ⟨⟨hbm,0,Nat.le_refl _,hm0⟩,hB0⟩
  (fun y a' W=>∃Bx,Blk W Bx #[.int .i64 y.op,.int .i64 y.arg,.bool y.s,.slice y.x1 y.x2 y.x3,.slice y.x4 y.x5 y.x6,.string y.name,.slice y.a y.n y.cap] 27∧a'={tmps:=#[Value.agg #[Value.int IntKind.i64 x.op,Value.int IntKind.i64 x.arg,Value.bool x.s,Value.slice x.x1 x.x2 x.x3,Value.slice x.x4 x.x5 x.x6,Value.string x.name,Value.slice x.a x.n x.cap],Value.pointer (some {block:=w.heap.size,off:=0}),Value.slice none 0 0,Value.int IntKind.i64 0,Value.pointer (some {block:=bm+1,off:=0}),Value.pointer (some {block:=Bx,off:=0}),Value.agg #[Value.int IntKind.i64 x.op,Value.int IntKind.i64 x.arg,Value.bool x.s,Value.slice x.x1 x.x2 x.x3,Value.slice x.x4 x.x5 x.x6,Value.string x.name,Value.slice x.a x.n x.cap],Value.bool true,Value.bool false,Value.map (some bm),Value.agg #[Value.int IntKind.i64 x.op,Value.int IntKind.i64 x.arg,Value.bool x.s,Value.slice x.x1 x.x2 x.x3,Value.slice x.x4 x.x5 x.x6,Value.string x.name,Value.slice x.a x.n x.cap],Value.func (Fn.func 186) #[] #[Value.pointer (some {block:=bm+1+1,off:=0})],Value.agg #[.int .i64 y.op,.int .i64 y.arg,.bool y.s,.slice y.x1 y.x2 y.x3,.slice y.x4 y.x5 y.x6,.string y.name,.slice y.a y.n y.cap],undef,undef,undef,undef,undef,undef,undef,undef,undef],defers:=[]})
  (fun y a' _ X Y row hs hg hr=>by
    obtain⟨Bx,h1,h2⟩:=hs
    refine⟨Bx,(hg.block Bx h1.lt (fun e=> ?_)).trans h1,h2⟩
    obtain⟨_,o,ho,hc⟩:=hr Bx e.symm
    rw[show X.heap[Bx]? =_ from h1] at ho;cases ho;cases hc)
  ?assign ?body ?done ?stop
 case assign=>
  rintro l pre y W K ⟨⟨hb1,nn,hnn,hown⟩,hB1⟩ hK
  dsimp only[Nv.val]
  gi_wp2
  exact hK _ _ ((KeepsOthers.alloc _ _).from _) ((KC.refl _ W).alloc hB1.size _) ⟨⟨hb1.alloc _,nn,hnn,hown.alloc _⟩,hB1.alloc hB1.size _⟩ ⟨W.heap.size,Blk.new W _ 27,rfl⟩
 case body=>
  rintro l pre y a' W hl- ⟨⟨hb1,nn,hnn,hown⟩,hB1⟩ ⟨Bx,hby,rfl⟩ hlt
  obtain⟨c0,-,-,-,-,c5,-,-⟩:=hby.facts7
  have cb:=hb1.cell
  have HS:=Lib.hid (seenD_snoc (H:=Nat) pre y)
  have HSH:=Lib.hid y.short
  by_cases h2:y.op=2
  ·rw[h2] at c0
   have HSE:Hid (seenD (H:=Nat) (pre++[y])=(seenD pre).put (.string y.name.data.toList) (.lit (.bool true))):=Lib.hid (by rw[HS.out,if_pos h2])
   clear h2
   gi_wp2_with (gi_at_mapUpdate;refine wpListIn_mapUpdate_own _ rfl _ _ _ 182 rfl 9 4 (Maps.string_keyed Tryz.underlying9) Tryz.underlying182 _ bm nn _ rfl hown (by unfold maxLen;omega) _ _ _ rfl rfl (key_string HSH.out) _ [] (plainElem_bool Tryz.underlying4 true) ?_;intro w2 hown2 hgrow2)
   have hmc:∀o,W.heap[bm]? =some o→o.isCells=false:=by
    obtain⟨es,ck,hh,_⟩:=hown
    intro o ho
    rw[hh] at ho;cases ho;rfl
   have hBw:Below w.heap.size W w2:=(Below.refl _ W).grown hgrow2 hB1.size (fun k e=>by cases e;omega)
   have hbmlt:=hown.lt
   refine⟨KeepsFrom.of_grownBy hgrow2 (fun j e=>by cases e;omega),⟨hBw,fun b o hb hc=> ?_⟩,⟨⟨hb1.kept hgrow2 (fun e=>by cases e),nn+1,by simp only[List.length_append,List.length_cons,List.length_nil];omega,by rw[HSE.out];exact hown2⟩,hB1.trans hBw⟩⟩
   refine(hgrow2.block b (Array.getElem?_eq_some_iff.1 hb).1 (fun e=> ?_)).trans hb
   cases e
   rw[hmc o hb] at hc;cases hc
  ·have t2:(y.op==2)=false:=by simpa using h2
   have HSE:Hid (seenD (H:=Nat) (pre++[y])=seenD pre):=Lib.hid (by rw[HS.out,if_neg h2])
   gi_wp2
   exact⟨KeepsFrom.refl _ _,KC.refl _ _,⟨⟨hb1,nn,by simp only[List.length_append,List.length_cons,List.length_nil];omega,by rw[HSE.out];exact hown⟩,hB1⟩⟩
 case done=>
  rintro D ys W hD rfl ⟨⟨hb1,nn,hnn,hown⟩,hB1⟩ hK
  have cb:=hb1.cell
  have hsz:Maps.size (seenD (H:=Nat) ys)≤300:=by have:=hown.size_le;omega
  have cS:=sorted_calls bm nn _ _ W hown (by unfold maxLen;omega) (by omega)
  gi_wp2_with (first
   |(refine⟨trivial,?_⟩;gi_at_call 112;refine(keys_calls _ _ _).mono ?_;rintro e w2 ⟨rfl,rfl⟩)
   |(refine⟨trivial,?_⟩;gi_at_call 111;refine cS.mono ?_;rintro e w2 ⟨v,ss,rfl,hS,hrow,hb2⟩))
  have hDlt:D<W.heap.size:=(Array.getElem?_eq_some_iff.1 hK).1
  have hK2:w2.heap[D]? =some (.deferred (some [])):=(hb2.block D hDlt).trans hK
  have hsp:Sp w2 W.heap.size v ss.length (ss.mergeSort (fun x y=>decide (x≤y)) |>.map fun l=>⟨l.toArray⟩):=by
   unfold Sp
   rw[List.map_map]
   exact hrow
  have hsp':Sp (w2.putObj D (.deferred none)) W.heap.size v ss.length (ss.mergeSort (fun x y=>decide (x≤y)) |>.map fun l=>⟨l.toArray⟩):=ownsRow_putObj hsp _ hK2 rfl
  obtain⟨a,cap,rfl,hcap,hsl⟩:=hsp'.open
  refine⟨by simp,.inl ⟨_,_,rfl,run_takeDeferred hK2,?_⟩⟩
  refine⟨.tuple #[.slice a ss.length cap,.int .i64 0],by simp[results,Tryz.f52,go_sem],a,_,cap,_,rfl,hsl,hcap,?_,fun z=> ?_,?_⟩
  ·rw[hS.length_eq,strKeys_size];exact hsz
  ·rw[←hnm]
   exact sorted_mem hS z
  ·exact kept_of_below ((hB1.trans (hb2.mono hB1.size)).trans (belowK_b (w:=w) (Nat.le_refl _) w2 D _ _ (by omega) hK2 rfl rfl))
 case stop=>
  rintro D c pre W _ _ h _
  exact h.elim
end
section
open Go Go.RowKit Go.Dig
def ixOf(p:ByteArray→Bool):List ByteArray→Nat→Int
 |[],_=> -1
 |s::r,k=>if p s=true then(k:Int) else ixOf p r (k+1)
theorem ixOf_any(p:ByteArray→Bool):∀(l:List ByteArray)(k:Nat),decide (0≤ixOf p l k)=l.any p
 |[],_=>by simp[ixOf]
 |s::r,k=>by
  rw[ixOf,List.any_cons]
  cases h:p s
  ·rw[if_neg (by simp),ixOf_any p r (k+1),Bool.false_or]
  ·rw[if_pos rfl,Bool.true_or];simp
theorem ixOf_drop(p:ByteArray→Bool){l:List ByteArray}{k:Nat}(h:k<l.length):ixOf p (l.drop k) k=if p l[k]=true then(k:Int) else ixOf p (l.drop (k+1)) (k+1):=by
 rw[List.drop_eq_getElem_cons h,ixOf]
theorem ixOf_end(p:ByteArray→Bool)(l:List ByteArray):ixOf p (l.drop l.length) l.length= -1:=by simp[ixOf]
set_option maxHeartbeats 1000000 in
theorem cov1_calls{w:World}{bx:Nat}{a:Option Addr}{n cap:Nat}{l:List SideD}(hb:Bxm w a n cap l)(hc:w.cell? ⟨bx,0,none⟩=some (.slice a n cap))(s:ByteArray):
 Calls Tryz.prog 54 #[.string s,.pointer (some ⟨bx,0,none⟩)] w fun e w'=>e= .returned (.bool (!decide (0≤sideAt l 0 s)))∧Kept w w':=by
 have hs:=side_calls hb s
 clear hb
 have HY:Hid (∃y,sideAt l 0 s=y):=Lib.hid ⟨_,rfl⟩
 obtain⟨y,hy⟩:=HY.out
 rw[hy] at hs⊢
 clear hy HY
 by_cases h:y<0
 ·have t1:decide (y<0)=true:=by simpa using h
  have HR:Hid ((!decide (0≤y))=true):=Lib.hid (by simp;exact h)
  go_enter Tryz.func54,Tryz.ntmps54
  go_wp2_with(go_at_call 55;refine hs.mono ?_;rintro e w1 ⟨rfl,hk1⟩)
  go_ret
  exact⟨by rw[HR.out];rfl,hk1⟩
 ·have t1:decide (y<0)=false:=by simpa using h
  have HR:Hid ((!decide (0≤y))=false):=Lib.hid (by simp;omega)
  go_enter Tryz.func54,Tryz.ntmps54
  go_wp2_with(go_at_call 55;refine hs.mono ?_;rintro e w1 ⟨rfl,hk1⟩)
  go_ret
  exact⟨by rw[HR.out];rfl,hk1⟩
theorem SL.at{w:World}{a:Option Addr}{n:Nat}{ss:List ByteArray}(h:SL w a n ss){k:Nat}(hk:k<ss.length):∃b off,a=some ⟨b,off,none⟩∧w.cell? ⟨b,off+k,none⟩=some (.string ss[k]):=by
 obtain⟨hn,⟨rfl,rfl⟩|⟨b,off,rfl,hc⟩⟩:=h
 ·omega
 ·exact⟨b,off,rfl,hc k hk⟩
set_option maxHeartbeats 1000000 in
set_option maxRecDepth 100000 in
theorem index245_calls{w:World}{a:Option Addr}{n cap:Nat}{ss:List ByteArray}(h:SL w a n ss)(hn0:n≤100000){bx:Nat}{p:ByteArray→Bool}
 (hp:∀w',Kept w w'→∀s,Calls Tryz.prog 54 #[.string s,.pointer (some ⟨bx,0,none⟩)] w' fun e w''=>e= .returned (.bool (p s))∧Kept w' w''):
 Calls Tryz.prog 113 #[.slice a n cap,.func (.func 54) #[] #[.pointer (some ⟨bx,0,none⟩)]] w fun e w'=>e= .returned (.int .i64 (ixOf p ss 0))∧Kept w w':=by
 have hn:=h.1
 have H:=Lib.hid h;clear h
 subst hn
 go_enter Tryz.func113,Tryz.ntmps113
 go_wp2
 go_loopw [8] (fun s wr=>∃k:Nat,k≤ss.length∧s= .int .i64 (k:Int)∧ixOf p (ss.drop k) k=ixOf p ss 0∧Kept w wr) (fun s _=>ss.length-(intOf s).toNat)
 case atStart=>exact⟨0,Nat.zero_le _,rfl,rfl,Kept.refl w⟩
 case round=>
  obtain⟨k,hk,rfl,ht,hkw⟩:=hrel
  have HT:=Lib.hid ht;clear ht
  by_cases hlt:k<ss.length
  ·obtain⟨b,off,rfl,h0⟩:=H.out.at hlt
   have hs:=Lib.hid (ixOf_drop p hlt)
   replace h0:=hkw.cell h0
   have hcl:=hp _ hkw ss[k]
   clear hp
   cases hq:p ss[k]
   ·rw[hq] at hcl
    go_wp2_with(go_at_call 54;refine hcl.mono ?_;rintro e w1 ⟨rfl,hk1⟩)
    go_roundw
    case rel=>exact⟨k+1,by omega,by go_num,by rw[←HT.out,hs.out,hq];rfl,hkw.trans hk1⟩
    case measure=>simp[intOf];omega
   ·rw[hq] at hcl
    go_wp2_with(go_at_call 54;refine hcl.mono ?_;rintro e w1 ⟨rfl,hk1⟩)
    go_ret
    exact⟨by rw[←HT.out,hs.out,hq];rfl,hkw.trans hk1⟩
  ·obtain rfl:ss.length=k:=by omega
   clear hp
   go_wp2
   go_ret
   exact⟨by rw[←HT.out,ixOf_end];rfl,hkw⟩
set_option maxHeartbeats 1000000 in
theorem contains151_calls{w:World}{a:Option Addr}{n cap:Nat}{ss:List ByteArray}(h:SL w a n ss)(hn0:n≤100000){bx:Nat}{p:ByteArray→Bool}
 (hp:∀w',Kept w w'→∀s,Calls Tryz.prog 54 #[.string s,.pointer (some ⟨bx,0,none⟩)] w' fun e w''=>e= .returned (.bool (p s))∧Kept w' w''):
 Calls Tryz.prog 53 #[.slice a n cap,.func (.func 54) #[] #[.pointer (some ⟨bx,0,none⟩)]] w fun e w'=>e= .returned (.bool (ss.any p))∧Kept w w':=by
 have hi:=index245_calls (cap:=cap) h hn0 hp
 clear h hp
 rw[←ixOf_any p ss 0]
 generalize ixOf p ss 0=y at*
 go_enter Tryz.func53,Tryz.ntmps53
 go_wp2_with(go_at_call 113;refine hi.mono ?_;rintro e w1 ⟨rfl,hk1⟩)
 go_ret
 exact⟨rfl,hk1⟩
theorem covB_any(l:List SideD)(vs:List ByteArray):(!vs.any fun s=> !decide (0≤sideAt l 0 s))=covB l vs:=by
 induction vs with
 |nil=>rfl
 |cons x xs ih=>
  unfold covB at*
  rw[List.any_cons,List.all_cons,←ih]
  cases decide (0≤sideAt l 0 x)<;>simp
set_option maxHeartbeats 1000000 in
set_option maxRecDepth 100000 in
theorem covered_calls{f:Nat}{w:World}{v:Value}{t:Tree}(h:Ex w f v t)(hT:Laid w)(hok:t.ok=true){a:Option Addr}{n cap:Nat}{l:List SideD}(hb:Bxm w a n cap l):
 Calls Tryz.prog 25 #[v,.slice a n cap] w fun e w'=>e= .returned (.bool (covB l (varsT t)))∧Kept w w':=by
 have hh:=h
 cases f with
 |zero=>exact h.elim
 |succ f=>
 obtain⟨op,arg,s,N,D,name,kids,rfl⟩:∃op arg s N D name kids,t=Tree.node op arg s N D name kids:=by cases t;exact⟨_,_,_,_,_,_,_,rfl⟩
 obtain⟨x1,x2,x3,x4,x5,x6,a0,cap0,rfl,hc,hn,hr⟩:=h.shape
 clear h hr
 have hk:Kept w ((w.alloc (.cells #[.int .i64 op,.int .i64 arg,.bool s,.slice x1 x2 x3,.slice x4 x5 x6,.string name,.slice a0 kids.length cap0] 27)).alloc (.cells #[.slice a n cap] 28)):=((Kept.refl w).alloc _).alloc _
 have hvs:=vars_good (hh.kept hk) (hT.kept hk) hok
 have hbx:=Blk.new (w.alloc (.cells #[.int .i64 op,.int .i64 arg,.bool s,.slice x1 x2 x3,.slice x4 x5 x6,.string name,.slice a0 kids.length cap0] 27)) #[.slice a n cap] 28
 have esz:(w.alloc (.cells #[.int .i64 op,.int .i64 arg,.bool s,.slice x1 x2 x3,.slice x4 x5 x6,.string name,.slice a0 kids.length cap0] 27)).heap.size=w.heap.size+1:=by simp[go_sem]
 rw[esz] at hbx
 clear esz hh hok
 have hmf:∀(fn:Fn)(first cap:Array Value)(w:World),(Instr.makeFunc fn first cap).run Tryz.prog w= .ok (.func fn first cap) w:=fun _ _ _ _=>rfl
 generalize Tree.node op arg s N D name kids=t at*
 go_enter Tryz.func25,Tryz.ntmps25
 go_wp2_with(first
  |(go_at_call 52;refine hvs.mono ?_;rintro e w1 ⟨a1,n1,c1,ts,rfl,hsl,hc1,hn1,hm,hk1⟩;have hkw:=hk.trans hk1;have hcb:=(hbx.kept hk1).facts1.1;have hct:=contains151_calls (cap:=c1) hsl (by omega) (bx:=w.heap.size+1) (p:=fun s=> !decide (0≤sideAt l 0 s)) (fun w' hk' s=>cov1_calls (hb.kept (hkw.trans hk')) (hk'.cell hcb) s);have HM:=Lib.hid hm;clear hm hsl)
  |(go_at_call 53;refine hct.mono ?_;rintro e w2 ⟨rfl,hk2⟩))
 go_ret
 exact⟨by rw[←covB_congr HM.out,←covB_any];rfl,hkw.trans hk2⟩
end
end Go.Proofs.YtancebninmoipaaGreatDoor
