/- A part of the proof that ClaimFaces answers true for every input of bulk at most 1048576: conditions: the row's own. -/
import Derived.Test.YtbapfnpbamnmpaaGreatDoorTd
import Derived.Test.YtbapfnpbamnmpaaGreatDoorGa
import Derived.Test.YtbapfnpbamnmpaaGreatDoorGd
import Derived.Test.YtbapfnpbamnmpaaGreatDoorGe
import Derived.Test.YtbapfnpbamnmpaaGreatDoorXa
import Derived.Test.YtbapfnpbamnmpaaGreatDoorXe
namespace Go.Proofs.YtbapfnpbamnmpaaGreatDoor
open Go Go.RowKit Go.Dig Go.Deep
open Go.Eng (Kept KW KeptB wp_region_kw kw_call)
theorem Ex.more{w:World}:∀(f:Nat){v:Value}{t:Tree},Ex w f v t→Ex w (f+1) v t
 |0,_,_,h=>h.elim
 |f+1,v,.node op arg s N D name kids,⟨x1,x2,x3,x4,x5,x6,a,cap,hv,hc,hr,hn,hk⟩=>by
  refine⟨x1,x2,x3,x4,x5,x6,a,cap,hv,hc,hr,hn,fun i h=> ?_⟩
  obtain⟨b,off,cs,ha,hs,hcell,he⟩:=hk i h
  exact⟨b,off,cs,ha,hs,hcell,Ex.more f he⟩
theorem Ex.up{w:World}{f:Nat}{v:Value}{t:Tree}(h:Ex w f v t):∀(k:Nat),Ex w (f+k) v t
 |0=>h
 |k+1=>Ex.more _ (h.up k)
theorem Ex.upTo{w:World}{f g:Nat}{v:Value}{t:Tree}(h:Ex w f v t)(hle:f≤g):Ex w g v t:=by
 have:=h.up (g-f)
 rwa [Nat.add_sub_cancel' hle] at this
section
theorem Clm.upTo{w:World}{f g:Nat}{v:Value}{c:ClaimD}(h:Clm w f v c)(hle:f≤g):Clm w g v c:=by
 obtain⟨o,gg,z,x1,x2,x3,x4,x5,x6,nm,a0,n0,cap0,a1,n1,cap1,a2,n2,cap2,rfl,h1,h2,hn,hc,hb,hi⟩:=h
 refine⟨o,gg,z,x1,x2,x3,x4,x5,x6,nm,a0,n0,cap0,a1,n1,cap1,a2,n2,cap2,rfl,h1.upTo hle,h2,hn,hc,hb,fun i hl=> ?_⟩
 obtain⟨b,off,o,g,z,x1,x2,x3,x4,x5,x6,nm,a',n',cap',ha,c0,c1,c2,c3,c4,c5,c6,c7,he⟩:=hi i hl
 exact⟨b,off,o,g,z,x1,x2,x3,x4,x5,x6,nm,a',n',cap',ha,c0,c1,c2,c3,c4,c5,c6,c7,he.upTo hle⟩
theorem Lk.fresh{lo hi N M:Nat}{S:Nat→Bool}{W W':World}(D:Lk lo hi W W')(hN:hi≤N)(hM:M≤N):Sub (onlyW W (ab N)) (onlyW W' (fun b=>S b||decide (M≤b))):=only_move fun b hb hs=>by
 unfold ab at hs
 simp only[decide_eq_true_eq] at hs
 exact⟨by simp only[Bool.or_eq_true,decide_eq_true_eq];omega,D.old b hb (.inr (by omega))⟩
theorem zret1b{n d:Nat}{l:Fm}{w:World}{fn:Func}{ty t1:TypeId}{p1:Tmp}{g1:Nat}{V1:Array Value}{v:Value}{R:Ending→World→Prop}(b1:Blk w g1 V1 t1)(v1:Own ty V1)(hR:R (.returned (.tuple #[.agg V1,v])) w)
 (h:fn.results=#[.cell p1 ty,.tmp d]:=by rfl)(hx1:opv n l (.tmp p1)=some (.pointer (some ⟨g1,0,none⟩)):=by rfl)(hv:opv n l (.tmp d)=some v:=by rfl)(hu:(Tryz.prog.underlying ty).map TypeDesc.isRow=some true:=by kernel_rfl):bodyPost Tryz.prog fn R .ret (frm n l) w:=by
 refine bodyPost_ret ?_ rfl hR
 have e0:=tmp_get hv
 have e1:=tmp_get hx1
 simp only[Array.getD_eq_getD_getElem?] at e0 e1
 simp[results,h,e0,e1,asAddr,b1.loadVar v1 hu]
set_option maxHeartbeats 8000000
set_option maxRecDepth 100000
end
def zeroC:Value:=.agg #[.int .i64 0,.int .i64 0,.bool false,.slice none 0 0,.slice none 0 0,.string ⟨#[]⟩,.slice none 0 0,.bool false,.slice none 0 0,.slice none 0 0]
set_option maxHeartbeats 4000000 in
set_option maxRecDepth 100000 in
theorem nothing_calls(w:World):Calls Tryz.prog 45 #[.agg #[.int .i64 0,.int .i64 0,.bool false,.slice none 0 0,.slice none 0 0,.string ⟨#[]⟩,.slice none 0 0,.bool false,.slice none 0 0,.slice none 0 0]] w fun e w'=>e= .returned (.bool true)∧Kept w w':=by
 go_enter Tryz.func45,Tryz.ntmps45
 go_wp2
 go_ret
 exact⟨rfl,((Kept.refl w).alloc _).alloc _⟩
section
set_option maxHeartbeats 16000000
set_option maxRecDepth 100000
end
end Go.Proofs.YtbapfnpbamnmpaaGreatDoor
