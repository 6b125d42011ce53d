/- A part of the proof that SearchCandidates answers true for every input of bulk at most 1048576: conditions: the row's own. -/
import Derived.Test.YtancebninmoipaaGreatDoorP26
import Derived.Test.YtancebninmoipaaGreatDoorP27
import Derived.Test.YtancebninmoipaaGreatDoorP28
import Derived.Test.YtancebninmoipaaGreatDoorP29
import Derived.Test.YtancebninmoipaaGreatDoorP18
import Derived.Test.YtancebninmoipaaGreatDoorP12
import Derived.ProofKit
import Derived.OpenShut
import Derived.Carry
import Derived.ChangeMaps5
import Derived.Deep.DeepHandedRow
import Derived.JoinedCond
import Derived.Lib.LaidTab
import Derived.Test.YtancebninmoipaaGreatDoorP36
import Derived.Test.YtancebninmoipaaGreatDoorP38
import Derived.Test.YtancebninmoipaaGreatDoorP39
import Derived.Test.YtancebninmoipaaGreatDoorP40
import Derived.Test.YtancebninmoipaaGreatDoorP41
import Derived.Test.YtancebninmoipaaGreatDoorP42
import Derived.Test.YtancebninmoipaaGreatDoorP43
namespace Go.Proofs.YtancebninmoipaaGreatDoor
section
open Go Go.RowKit Go.Shelf Go.Eng
theorem okSq:entSq.Ok [0] Tryz.prog:=Entry.ok_of (evalT_ok [0] _ mix6 (noTab_ok _ _) 5000).1 runSq
theorem okReady1:entReady1.Ok [0] Tryz.prog:=Entry.ok_of (evalT_ok [0] _ mix6 (noTab_ok _ _) 5000).1 runReady1
theorem okNew:entNew.Ok [0] Tryz.prog:=Entry.ok_of (evalT_ok [0] _ mix6 (Entry.tab_ok okReady1 (noTab_ok _ _)) 5000).1 runNew
theorem okReady2:entReady2.Ok [0] Tryz.prog:=Entry.ok_of (evalT_ok [0] _ mix6 (noTab_ok _ _) 5000).1 runReady2
theorem okApply:entApply.Ok [0] Tryz.prog:=Entry.ok_of (evalT_ok [0] _ mix6 (noTab_ok _ _) 5000).1 runApply
theorem okAtt:entAtt.Ok [0] Tryz.prog:=Entry.ok_of (evalT_ok [0] _ mix6 (Entry.tab_ok okApply (Entry.tab_ok okReady2 (noTab_ok _ _))) 5000).1 runAtt
theorem runSane7:isTrue6 ((evalT [0] Tryz.prog (entSq.tab (entNew.tab (entAtt.tab noTab))) 5000).call 7 [] H0)=true:=by kernel_rfl
theorem sane7_calls(w:World)(hw:Laid6 w):Calls Tryz.prog 7 #[] w (fun e w'=>e= .returned (.bool true)∧Kept w w'):=
 callsIn_wide.1 (true_of6 (args:=[]) (evalT_ok [0] _ mix6 (Entry.tab_ok okSq (Entry.tab_ok okNew (Entry.tab_ok okAtt (noTab_ok _ _)))) 5000).1 runSane7 rfl 6 hw)
end
section
open Go Go.RowKit Go.Dig Go.Deep
open Go.Eng (Kept KW KeptB)
set_option maxHeartbeats 8000000
set_option maxRecDepth 100000
def candF(c:ClaimD):List (List PtD)×Int:=if c.ok=false then([],60) else if midsOk c.box=false then([],1) else(candL c.box,0)
def RetF3(c:ClaimD)(w:World)(e:Ending)(w':World):Prop:=∃a n cap,e= .returned (.tuple #[.slice a n cap,.int .i64 (candF c).2])∧Ptl w' a n cap (candF c).1∧Kept w w'
theorem ptl_nil(w:World):Ptl w none 0 0 []:=⟨rfl,Nat.le_refl _,fun i hi=>absurd hi (Nat.not_lt_zero i)⟩
theorem RetCand.f{c:ClaimD}{w w':World}{e:Ending}(h:RetCand c w e w'):RetF3 c w e w':=by
 obtain⟨k,⟨h1,rfl⟩|⟨h1,h2,rfl⟩|⟨h1,h2,a,cap,rfl,hp⟩⟩:=h
 ·exact⟨none,0,0,by unfold candF;rw[if_pos h1],by unfold candF;rw[if_pos h1];exact ptl_nil _,k⟩
 ·exact⟨none,0,0,by unfold candF;rw[if_neg (by rw[h1];decide),if_pos h2],by unfold candF;rw[if_neg (by rw[h1];decide),if_pos h2];exact ptl_nil _,k⟩
 ·refine⟨a,_,cap,by unfold candF;rw[if_neg (by rw[h1];decide),if_neg (by rw[h2];decide)],?_,k⟩
  unfold candF
  rw[if_neg (by rw[h1];decide),if_neg (by rw[h2];decide)]
  exact hp.sub (only_sub _ _)
theorem good_candL{l:List SideD}(hb:boxOk l=true)(h:midsOk l=true):(candL l).length≤65∧∀x∈candL l,goodP l.length x:=by
 obtain⟨h6,hall⟩:=sides_fine hb
 unfold candL
 split
 ·have:=(candN_len l (2^l.length)).2
  have hN:2^l.length≤64:=Nat.le_trans (Nat.pow_le_pow_right (by decide) h6) (by decide)
  exact⟨by omega,good_candN h (fun k hk=>(hall k hk).1) _⟩
 ·exact⟨by simp,fun x hx=>by rw[List.mem_singleton.1 hx];exact good_center h⟩
theorem good_candF(c:ClaimD):(candF c).1.length≤65∧∀x∈(candF c).1,goodP 6 x:=by
 unfold candF
 by_cases h1:c.ok=false
 ·rw[if_pos h1];exact⟨by simp,fun x hx=>by simp at hx⟩
 ·by_cases h2:midsOk c.box=false
  ·rw[if_neg h1,if_pos h2];exact⟨by simp,fun x hx=>by simp at hx⟩
  ·rw[if_neg h1,if_neg h2]
   have h1':c.ok=true:=by simpa using h1
   have hbox:boxOk c.box=true:=by
    unfold ClaimD.ok at h1'
    simp only[Bool.and_eq_true] at h1'
    exact h1'.1.1.1.1
   obtain⟨g1,g2⟩:=good_candL hbox (by simpa using h2)
   exact⟨g1,fun x hx=>⟨(g2 x hx).1,Nat.le_trans (g2 x hx).2 (sides_fine hbox).1⟩⟩
theorem law3_calls{f:Nat}{w:World}{v:Value}{c:ClaimD}(h:Clm w f v c)(hT:Laid6 w):Calls Tryz.prog 3 #[v] w fun e w'=>e= .returned (.bool true)∧Kept w w':=by
 have h4:∀(W:World)(_:Kept w W),Calls Tryz.prog 4 #[v] W (RetF3 c W):=fun W k=>(cand_calls (h.kept k) (hT.kept k).laid).mono fun _ _ q=>q.f
 have h5:∀(W:World)(_:Kept w W),Calls Tryz.prog 5 #[v] W (RetF3 c W):=fun W k=>(rcand_calls (h.kept k) (hT.kept k).laid).mono fun _ _ q=>q.f
 have h7:=fun(W:World)(k:Kept w W)=>sane7_calls W (hT.kept k)
 have hgood:=good_candF c
 obtain⟨o,g,z,x1,x2,x3,x4,x5,x6,nm,a0,n0,cap0,a1,n1,cap1,a2,n2,cap2,rfl,hg,hb,hc⟩:=h
 clear hg hb hc
 unfold RetF3 at h4 h5
 generalize candF c=F at h4 h5 hgood
 obtain⟨ls,x⟩:=F
 simp only at h4 h5 hgood
 refine ent1 27 Tryz.func3 rfl Tryz.ntmps3 ?_
 iterate 3 go_step
 refine zb fun w1 g1 e1 k1 b1 q1=> ?_
 refine zr (.bool false) ?_
 iterate 5 go_step
 refine zl b1.range own31c ?_
 refine zc 4 _ (h4 _ k1) ?_
 rintro e w2 ⟨a,n,cap,rfl,hp,k2⟩
 refine⟨_,rfl,?_⟩
 refine zr (.tuple #[.slice a n cap,.int .i64 x]) ?_
 refine zr (.slice a n cap) ?_
 refine zr (.int .i64 x) ?_
 refine zr (.slice a n cap) ?_
 refine zr (.int .i64 x) ?_
 iterate 5 go_step
 have K2:=k1.trans k2
 refine zl (b1.kept k2).range own31c ?_
 refine zc 5 _ (h5 _ K2) ?_
 rintro e w3 ⟨a',n',cap',rfl,hp',k3⟩
 refine⟨_,rfl,?_⟩
 have K3:=K2.trans k3
 refine zr (.tuple #[.slice a' n' cap',.int .i64 x]) ?_
 refine zr (.slice a' n' cap') ?_
 refine zr (.int .i64 x) ?_
 refine zr (.slice a' n' cap') ?_
 refine zr (.int .i64 x) ?_
 iterate 5 go_step
 refine zr (.int .i64 x) ?_
 refine zr (.int .i64 x) ?_
 refine z2 (.bool true) (hrun:=run_eqb (beq_self_eq_true x)) ?_
 refine zr (.bool true) ?_
 refine zwant ?_
 refine zr (.slice a n cap) ?_
 refine zwant ?_
 refine zr (.slice a' n' cap') ?_
 refine zwant ?_
 refine zc 6 _ (samePoints_calls (hp.kept k3) hp' (fun i hi=>⟨(hgood.2 _ (List.getElem_mem hi)).1.num,by have:=(hgood.2 _ (List.getElem_mem hi)).2;omega⟩) (fun i hi=>(hgood.2 _ (List.getElem_mem hi)).1.num) (by omega)) ?_
 rintro e w4 ⟨rfl,k4⟩
 refine⟨_,rfl,?_⟩
 rw[rowsRef_refl]
 refine zr (.bool true) ?_
 refine zr (.bool true) ?_
 refine zwant ?_
 refine zc 7 _ (h7 _ (K3.trans k4)) ?_
 rintro e w5 ⟨rfl,k5⟩
 refine⟨_,rfl,?_⟩
 refine zr (.bool true) ?_
 refine zr (.bool true) ?_
 iterate 5 go_step
 exact zretT ⟨rfl,(K3.trans k4).trans k5⟩
end
section
open Go Go.ChangeShapes Go.WideShapes Go.ChangeAt Go.RowKit Go.Dig
open Go.Eng (Kept)
theorem g0Tab:Tryz.prog.globalNamed "math/bits.deBruijn32tab" =some 0:=by kernel_rfl
theorem g0TabType:(Tryz.prog.globals[0]?).map (·.type)=some 329:=by kernel_rfl
theorem under329:Tryz.prog.underlying 329=some (.array 32 5):=by kernel_rfl
theorem under5:Tryz.prog.underlying 5=some (.int .u8):=by kernel_rfl
theorem cells329:Tryz.prog.cellsOf 329=32:=by kernel_rfl
theorem cells5:Tryz.prog.cellsOf 5=1:=by kernel_rfl
theorem begun0:(((begin Tryz.prog (fun _ _=>0) default).world.heap[0]?).bind Obj.row?).map (·.2)=some 329:=by kernel_rfl
theorem someGlobals0:0<Tryz.prog.globals.size:=by
 have h:=g0TabType
 cases hs:Tryz.prog.globals[0]? with
 |none=>rw[hs] at h;cases h
 |some x=>exact(Array.getElem?_eq_some_iff.1 hs).1
theorem laid6At{W:World}(hL:laidMetH Tryz.prog Rows.searchCandidatesUptoRow.laid W)(hs:W.ShapedOpen Tryz.prog):Laid6 W:=by
 have ht:Lib.TabIs Tryz.prog W "math/bits.deBruijn32tab" .u8 [0,1,28,2,29,14,24,3,30,22,20,15,25,17,4,8,31,27,13,23,21,19,16,7,26,12,18,6,11,5,10,9]:=
  Lib.tabIs_of_head g0Tab g0TabType under329 under5 cells5 cells329 hL
 have hb:=begun0
 cases hr:((begin Tryz.prog (fun _ _=>0) default).world.heap[0]?).bind Obj.row? with
 |none=>rw[hr] at hb;cases hb
 |some q=>
  obtain⟨zero,t⟩:=q
  rw[hr] at hb
  simp only[Option.map_some,Option.some.injEq] at hb
  subst hb
  obtain⟨cs,h1,h2,_⟩:=hs.1 0 zero 329 someGlobals0 hr
  unfold Lib.TabIs World.var? at ht
  rw[g0Tab] at ht
  simp only[Option.bind_some,h1,Option.some.injEq] at ht
  refine⟨cs,(0,0),h1,by rw[ht];simp,fun k v hk=> ?_⟩
  rw[ht]
  simpa [tab32] using hk
theorem kept_but{w w':World}(k:Kept w w')(may:MemPlace→Prop):w.keptBut w' may:=by
 refine⟨k.os,k.output,fun i hi=> ?_⟩
 rw[k.old i hi]
 exact(World.keptBut_refl w may).2.2 i hi
theorem kept_same{W W':World}(k:Kept W W'){p:MemPlace}(hp:p.block<W.heap.size):W.sameAt W' p:=
 Below.same ⟨k.os,k.tape,k.output,k.size,k.old⟩ hp
theorem post_kept{H:Type}{enc:TypeId×Value→H}{P:Program}{f:Func}{s:ChangeSpec}{apart fresh handsOn again:Bool}{W W':World}{args:Array Value}{v:Value}{ds gs:List (DataW H)}{before pa pv:List MemPlace}
 (hW:DataW.Whole enc P f.params.toList s.vars apart W args.toList ds gs before)
 (hres:∀(b:Nat)(sp:Nat→Bool)(hd:Bool),DataW.TrodAll enc P W' b sp hd f.resultTypes.toList (v.resultList f.resultTypes.size) (s.fn H (ds++gs)).results [])
 (hargs:∀sp:Nat→Bool,(∀p∈before,sp p.block=true)→DataW.TrodAll enc P W' 0 sp true f.params.toList args.toList (s.fn H (ds++gs)).args pa)
 (hvars:∀sp:Nat→Bool,(∀p∈before,sp p.block=true)→DataW.TrodVars enc P W' sp s.vars (s.fn H (ds++gs)).vars pv)
 (hps:before=pa++pv)(k:Kept W W')
 (hok:∀(j:Nat)(t:TypeId)(r:Value),f.resultTypes[j]? =some t→(v.resultList f.resultTypes.size)[j]? =some r→Value.okWide P W' .any 0 t r):
 s.post enc P f apart fresh handsOn again W args v W':=by
 have hlt:=hW.lt
 have hold:∀p∈before,(fun b=>decide (b<W.heap.size)) p.block=true:=fun p hp=>by simpa using hlt p hp
 refine⟨ds,gs,before,[],pa,pv,hW,hres _ _ _,hargs _ hold,hvars _ hold,World.keptBut_mono (fun p hp=>⟨hp,?_⟩) (kept_but k (· ∈before)),fun _=> ?_⟩
 ·rw[hps,List.mem_append] at hp
  exact Or.inr hp
 ·obtain⟨_,_,_,_,_,hz,hn⟩:=hW
  refine⟨hok,_,_,([]++pa)++pv,⟨[]++pa,pv,trodAll_append (hargs _ (fun _ _=>rfl)) (hres _ _ _),hvars _ (fun _ _=>rfl),rfl,?_,?_⟩,?_⟩
  ·intro b off hp
   have hb:MemPlace.cell b off∈before:=by rw[hps];simpa using hp
   have hsz:b<W.heap.size:=hlt _ hb
   have he:=hz b off hb
   unfold World.frozen? at he⊢
   simp only at he⊢
   rw[k.old b hsz]
   exact he
  ·intro ha
   have:=hn ha
   rw[hps] at this
   simpa using this
  ·intro p hp _
   rw[hps]
   simpa using hp
theorem lay31:Tryz.prog.readableRec 31=true:=by kernel_rfl
theorem row31:31<Tryz.prog.types.size:=of_decide_eq_true (by kernel_rfl)
set_option maxRecDepth 100000 in
theorem contract3(hl:laidOutB Tryz.prog=true)(H:Type)(enc:TypeId×Value→H)(W:World)(base:Nat)(args:Array Value)(ds gs:List (DataW H))(before:List MemPlace)
 (hval:∀(j:Nat) t v,Tryz.f3.params[j]? =some t→args[j]? =some v→Value.okWide Tryz.prog W .any base t v)
 (hW:DataW.Whole enc Tryz.prog Tryz.f3.params.toList Rows.searchCandidatesSpec.vars false W args.toList ds gs before)(hk:Rows.uptoSmall H (ds++gs)=true)
 (hL:laidMetH Tryz.prog Rows.searchCandidatesUptoRow.laid W)(hs:W.ShapedOpen Tryz.prog):
 Calls Tryz.prog 3 args W fun e W'=>∃v,e= .returned v∧Rows.searchCandidatesSpec.post enc Tryz.prog Tryz.f3 false true false false W args v W':=by
 have hW':=hW
 obtain⟨p,q,hA0,hV,rfl,hfz,hnd⟩:=hW
 have hA:DataW.TrodAll enc Tryz.prog W 0 (fun _=>true) true Tryz.f3.params.toList args.toList ds p:=hA0
 rw[Tryz.params3] at hA hval
 obtain⟨v0,vs0,d0,ds0,p0,q0,hargs,rfl,rfl,h0,r0⟩:=trodAll_cons hA
 obtain⟨rfl,rfl,rfl⟩:=trodAll_nil r0
 obtain rfl:args=#[v0]:=by cases args;simp_all
 obtain⟨rfl,rfl⟩:=trodVars_none hV
 have hb:Rows.uptoBulk d0≤1048576:=by
  have h2:Rows.uptoBulkAll ([d0]++[])≤1048576:=of_decide_eq_true hk
  simp only[List.append_nil,Rows.uptoBulkAll] at h2
  omega
 have h0k:=h0
 obtain⟨cs,rfl,hsz⟩:=okWide_struct Tryz.underlying31 (hval 0 31 v0 rfl rfl)
 obtain⟨fuel,h3⟩:=h0
 obtain⟨f,c,hc⟩:=open_claim (B:=1048576) h3 hb (Nat.le_refl _)
 have hv0:Value.agg (Value.agg cs).cells.toList.toArray=Value.agg cs:=rfl
 rw[hv0] at hc
 clear hA0
 simp only[List.append_nil] at hW'
 have hlt0:∀x∈p0,x.block<W.heap.size:=fun x hx=>hW'.lt x hx
 refine(law3_calls hc (laid6At hL hs)).mono fun e W' ⟨he,hg⟩=> ?_
 subst he
 refine⟨_,rfl,post_kept (pa:=p0++[]) (pv:=[]) hW' (fun _ _ _=> ?_) (fun sp hsp=> ?_) (fun _ _=>rfl) (by simp) hg (ok_one (by kernel_rfl) rfl (okWide_bool_mk Tryz.underlying4 _))⟩
 ·exact trodAll_cons_mk (shut_bool Tryz.underlying4 _) trodAll_mk0
 ·exact trodAll_cons_mk (Go.WideElems.Trod_stays hl lay31 row31 h0k (fun x hx=>kept_same hg (hlt0 x hx)) hsp) trodAll_mk0
end
section
open Go Go.Proofs Go.Clo
set_option maxRecDepth 100000 in
theorem clo3_fuel:Nat.ble 2141 (1+(leadAll.map fun l=>l.length+1).sum)=true:=by kernel_rfl
set_option maxRecDepth 100000 in
theorem closure3:Tryz.prog.closure 3=clo3:=closure_eq leadsAll clo3_run clo3_fuel
end
section
open Go
theorem ownTie:Tryz.prog.laidByTextLater [("math/bits.deBruijn32tab",Rows.laid_math_bits_deBruijn32tab),("internal/strconv.uint64pow10",Rows.laid_internal_strconv_uint64pow10),("math/bits.deBruijn64tab",Rows.laid_math_bits_deBruijn64tab)] [.data,.data,.data] true:=
 Program.laidByTextLater_by_run 400 8 tie1 tie2 tie3 tie4 tie5 tie6 tie7 tie8 tie9
theorem row_tie:Rows.searchCandidatesUptoRow.laidByTextAt .later Tryz.pinned [.data,.data,.data] true:=
 OpenClaim.laidByTextAt_later rfl rfl ownTie tie0
end
end Go.Proofs.YtancebninmoipaaGreatDoor
