/- A part of the proof that ClaimFaces answers true for every input of bulk at most 1048576: conditions: the row's own. -/
import Derived.Test.YtbapfnpbamnmpaaGreatDoorGi
import Derived.Test.YtbapfnpbamnmpaaGreatDoorHc
import Derived.Test.YtbapfnpbamnmpaaGreatDoorSd
import Derived.WalkKit
import Derived.ProofKit
import Derived.OpenShut
import Derived.Carry
import Derived.ChangeMaps5
import Derived.Deep.DeepHandedRow
import Derived.JoinedCond
import Derived.Lib.LaidTab
namespace Go.Proofs.YtbapfnpbamnmpaaGreatDoor
open Go Go.ChangeShapes Go.WideShapes Go.ChangeAt Go.RowKit Go.Dig
open Go.Eng (Kept)
theorem g3Tab:Tryz.prog.globalNamed "math/bits.deBruijn32tab" =some 3:=by kernel_rfl
theorem g3TabType:(Tryz.prog.globals[3]?).map (·.type)=some 402:=by kernel_rfl
theorem under402:Tryz.prog.underlying 402=some (.array 32 5):=by kernel_rfl
theorem under5:Tryz.prog.underlying 5=some (.int .u8):=by kernel_rfl
theorem cells402:Tryz.prog.cellsOf 402=32:=by kernel_rfl
theorem cells5:Tryz.prog.cellsOf 5=1:=by kernel_rfl
theorem begun3:(((begin Tryz.prog (fun _ _=>0) default).world.heap[3]?).bind Obj.row?).map (·.2)=some 402:=by kernel_rfl
theorem someGlobals3:3<Tryz.prog.globals.size:=by
 have h:=g3TabType
 cases hs:Tryz.prog.globals[3]? with
 |none=>rw[hs] at h;cases h
 |some x=>exact(Array.getElem?_eq_some_iff.1 hs).1
theorem laid6At{W:World}(hL:laidMetH Tryz.prog Rows.claimFacesUptoRow.laid W)(hs:W.ShapedOpen Tryz.prog):Laid6 W:=by
 have ht:Lib.TabIs Tryz.prog W "math/bits.deBruijn32tab" .u8 [0,1,28,2,29,14,24,3,30,22,20,15,25,17,4,8,31,27,13,23,21,19,16,7,26,12,18,6,11,5,10,9]:=
  Lib.tabIs_of_head g3Tab g3TabType under402 under5 cells5 cells402 hL
 have hb:=begun3
 cases hr:((begin Tryz.prog (fun _ _=>0) default).world.heap[3]?).bind Obj.row? with
 |none=>rw[hr] at hb;cases hb
 |some q=>
  obtain⟨zero,t⟩:=q
  rw[hr] at hb
  simp only[Option.map_some,Option.some.injEq] at hb
  subst hb
  obtain⟨cs,h1,h2,_⟩:=hs.1 3 zero 402 someGlobals3 hr
  unfold Lib.TabIs World.var? at ht
  rw[g3Tab] at ht
  simp only[Option.bind_some,h1,Option.some.injEq] at ht
  refine⟨cs,(0,0),h1,by rw[ht];simp,fun k v hk=> ?_⟩
  rw[ht]
  simpa [tab32] using hk
theorem kept_but{w w':World}(k:Kept w w')(may:MemPlace→Prop):w.keptBut w' may:=by
 refine⟨k.os,k.output,fun i hi=> ?_⟩
 rw[k.old i hi]
 exact(World.keptBut_refl w may).2.2 i hi
theorem kept_same{W W':World}(k:Kept W W'){p:MemPlace}(hp:p.block<W.heap.size):W.sameAt W' p:=
 Below.same ⟨k.os,k.tape,k.output,k.size,k.old⟩ hp
theorem post_kept{H:Type}{enc:TypeId×Value→H}{P:Program}{f:Func}{s:ChangeSpec}{apart fresh handsOn again:Bool}{W W':World}{args:Array Value}{v:Value}{ds gs:List (DataW H)}{before pa pv:List MemPlace}
 (hW:DataW.Whole enc P f.params.toList s.vars apart W args.toList ds gs before)
 (hres:∀(b:Nat)(sp:Nat→Bool)(hd:Bool),DataW.TrodAll enc P W' b sp hd f.resultTypes.toList (v.resultList f.resultTypes.size) (s.fn H (ds++gs)).results [])
 (hargs:∀sp:Nat→Bool,(∀p∈before,sp p.block=true)→DataW.TrodAll enc P W' 0 sp true f.params.toList args.toList (s.fn H (ds++gs)).args pa)
 (hvars:∀sp:Nat→Bool,(∀p∈before,sp p.block=true)→DataW.TrodVars enc P W' sp s.vars (s.fn H (ds++gs)).vars pv)
 (hps:before=pa++pv)(k:Kept W W')
 (hok:∀(j:Nat)(t:TypeId)(r:Value),f.resultTypes[j]? =some t→(v.resultList f.resultTypes.size)[j]? =some r→Value.okWide P W' .any 0 t r):
 s.post enc P f apart fresh handsOn again W args v W':=by
 have hlt:=hW.lt
 have hold:∀p∈before,(fun b=>decide (b<W.heap.size)) p.block=true:=fun p hp=>by simpa using hlt p hp
 refine⟨ds,gs,before,[],pa,pv,hW,hres _ _ _,hargs _ hold,hvars _ hold,World.keptBut_mono (fun p hp=>⟨hp,?_⟩) (kept_but k (· ∈before)),fun _=> ?_⟩
 ·rw[hps,List.mem_append] at hp
  exact Or.inr hp
 ·obtain⟨_,_,_,_,_,hz,hn⟩:=hW
  refine⟨hok,_,_,([]++pa)++pv,⟨[]++pa,pv,trodAll_append (hargs _ (fun _ _=>rfl)) (hres _ _ _),hvars _ (fun _ _=>rfl),rfl,?_,?_⟩,?_⟩
  ·intro b off hp
   have hb:MemPlace.cell b off∈before:=by rw[hps];simpa using hp
   have hsz:b<W.heap.size:=hlt _ hb
   have he:=hz b off hb
   unfold World.frozen? at he⊢
   simp only at he⊢
   rw[k.old b hsz]
   exact he
  ·intro ha
   have:=hn ha
   rw[hps] at this
   simpa using this
  ·intro p hp _
   rw[hps]
   simpa using hp
theorem lay31:Tryz.prog.readableRec 31=true:=by kernel_rfl
theorem row31:31<Tryz.prog.types.size:=of_decide_eq_true (by kernel_rfl)
theorem lay4:Tryz.prog.readableRec 4=true:=by kernel_rfl
theorem row4:4<Tryz.prog.types.size:=of_decide_eq_true (by kernel_rfl)
theorem lay9:Tryz.prog.readableRec 9=true:=by kernel_rfl
theorem row9:9<Tryz.prog.types.size:=of_decide_eq_true (by kernel_rfl)
set_option maxRecDepth 100000 in
theorem contract9(hl:laidOutB Tryz.prog=true)(H:Type)(enc:TypeId×Value→H)(W:World)(base:Nat)(args:Array Value)(ds gs:List (DataW H))(before:List MemPlace)
 (hval:∀(j:Nat) t v,Tryz.f9.params[j]? =some t→args[j]? =some v→Value.okWide Tryz.prog W .any base t v)
 (hW:DataW.Whole enc Tryz.prog Tryz.f9.params.toList Rows.claimFacesSpec.vars false W args.toList ds gs before)(hk:Rows.uptoSmall H (ds++gs)=true)
 (hL:laidMetH Tryz.prog Rows.claimFacesUptoRow.laid W)(hs:W.ShapedOpen Tryz.prog):
 Calls Tryz.prog 9 args W fun e W'=>∃v,e= .returned v∧Rows.claimFacesSpec.post enc Tryz.prog Tryz.f9 false true false false W args v W':=by
 have hW':=hW
 obtain⟨p,q,hA0,hV,rfl,hfz,hnd⟩:=hW
 have hA:DataW.TrodAll enc Tryz.prog W 0 (fun _=>true) true Tryz.f9.params.toList args.toList ds p:=hA0
 rw[Tryz.params9] at hA hval
 obtain⟨v0,vs0,d0,ds0,p0,q0,hargs,rfl,rfl,h0,r0⟩:=trodAll_cons hA
 obtain⟨v1,vs1,d1,ds1,p1,q1,rfl,rfl,rfl,h1,r1⟩:=trodAll_cons r0
 obtain⟨v2,vs2,d2,ds2,p2,q2,rfl,rfl,rfl,h2,r2⟩:=trodAll_cons r1
 obtain⟨rfl,rfl,rfl⟩:=trodAll_nil r2
 obtain rfl:args=#[v0,v1,v2]:=by cases args;simp_all
 obtain⟨rfl,rfl⟩:=trodVars_none hV
 have hb:Rows.uptoBulk d0≤1048576:=by
  have h2:Rows.uptoBulkAll ([d0,d1,d2]++[])≤1048576:=of_decide_eq_true hk
  simp only[List.append_nil,Rows.uptoBulkAll] at h2
  omega
 have h0k:=h0
 have h1k:=h1
 have h2k:=h2
 obtain⟨st,rfl,rfl,rfl⟩:=Go.RowKit.open_bool Tryz.underlying4 (hval 2 4 v2 rfl rfl) h2
 obtain⟨nm,rfl,rfl,rfl,-⟩:=Go.ChangeMaps.open_string Tryz.underlying9 (hval 1 9 v1 rfl rfl) h1
 obtain⟨cs,rfl,hsz⟩:=okWide_struct Tryz.underlying31 (hval 0 31 v0 rfl rfl)
 obtain⟨fuel,h3⟩:=h0
 obtain⟨f,c,hc⟩:=open_claim (B:=1048576) h3 hb (Nat.le_refl _)
 have hv0:Value.agg (Value.agg cs).cells.toList.toArray=Value.agg cs:=rfl
 rw[hv0] at hc
 clear hA0
 simp only[List.append_nil] at hW'
 have hlt0:∀x∈p0,x.block<W.heap.size:=fun x hx=>hW'.lt x hx
 refine(claimFaces_of sane6_calls hc (laid6At hL hs) nm st).mono fun e W' ⟨he,hg⟩=> ?_
 subst he
 refine⟨_,rfl,post_kept (pa:=p0++([]++([]++[]))) (pv:=[]) hW' (fun _ _ _=> ?_) (fun sp hsp=> ?_) (fun _ _=>rfl) (by simp) hg (ok_one (by kernel_rfl) rfl (okWide_bool_mk Tryz.underlying4 _))⟩
 ·exact trodAll_cons_mk (shut_bool Tryz.underlying4 _) trodAll_mk0
 ·exact trodAll_cons_mk (Go.WideElems.Trod_stays hl lay31 row31 h0k (fun x hx=>kept_same hg (hlt0 x hx)) hsp) (trodAll_cons_mk (Go.WideElems.Trod_stays hl lay9 row9 h1k (fun _ hx=>by cases hx) (fun _ hx=>by cases hx)) (trodAll_cons_mk (Go.WideElems.Trod_stays hl lay4 row4 h2k (fun _ hx=>by cases hx) (fun _ hx=>by cases hx)) trodAll_mk0))
end Go.Proofs.YtbapfnpbamnmpaaGreatDoor
