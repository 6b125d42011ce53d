/- A part of the proof that ClaimFaces answers true for every input of bulk at most 1048576: conditions: the row's own. -/
import Derived.Test.YtbapfnpbamnmpaaGreatDoorSb
import Derived.Test.YtbapfnpbamnmpaaGreatDoorEngE
import Derived.Test.YtbapfnpbamnmpaaGreatDoorWd
namespace Go.Proofs.YtbapfnpbamnmpaaGreatDoor
section
open Go Go.RowKit Go.Dig Go.Shelf Go.Eng
section
variable{gs:List Nat}{P:Program}{H:AHeap}{μ:Mu}{w w':World}
theorem rel_kept(h:Rel H μ w)(k:Kept w w'):Rel H μ w':=
 ⟨fun i b o hi=>by obtain⟨x,h1,h2⟩:=h.obj i b o hi;exact⟨x,h1,by rw[k.old b (h.lt hi)];exact h2⟩,h.dom,h.own,h.app,h.oth,
  fun i b o cs e ow hi hg arr e' fz hw=>h.cap i b o cs e ow hi hg arr e' fz (by rw[←k.old b (h.lt hi)];exact hw)⟩
theorem ext_kept(k:Kept w w'):Ext H μ w H μ w':=
 ⟨Mu.le.refl _,Nat.le_refl _,k.size,fun b hb _=>k.old b hb,fun i _ o h _ hl=>⟨i,o,h,hl⟩,fun _ _ h=>⟨h,rfl⟩,k.tape,k.os,k.output⟩
theorem post_kept6{v v':Value}(h:St gs P H μ w)(k:Kept w w')(hv:VRel μ v v'):CallPost gs P H μ w v H (.returned v') w':=
 ⟨v',μ,rfl,hv,⟨rel_kept h.rel k,h.sz,h.gl⟩,ext_kept k⟩
end
noncomputable def orTab(a b:Tab):Tab:=fun f args H=>orElse (a f args H) (b f args H)
theorem orTab_ok{gs:List Nat}{P:Program}{a b:Tab}(ha:TabOk gs P a)(hb:TabOk gs P b):TabOk gs P (orTab a b):=by
 intro f args H v H' h
 unfold orTab at h
 cases hx:a f args H with
 |some r=>
  rw[hx] at h
  simp only[orElse] at h
  cases h
  exact ha f args H v H' hx
 |none=>
  rw[hx] at h
  exact hb f args H v H' h
noncomputable def tabIx:Tab:=fun f args H=>bif Nat.beq f 263 then(match args with
 |[.string s,.int .u8 c]=>forceI (Lib.indexByte s.data.toList c.toNat.toUInt8) fun n=>some (.int .i64 n,H)
 |_=>none) else none
theorem tabIx_ok(gs:List Nat):TabOk gs Tryz.prog tabIx:=by
 intro f args H v H' h μ w args' n hs ha
 unfold tabIx at h
 obtain⟨hf,h⟩:=cond_some h
 rw[Nat.eq_of_beq_eq_true hf]
 split at h
 ·rw[forceI_eq] at h
  cases h
  obtain⟨la⟩:=args'
  change LRel μ _ la at ha
  cases ha with
  |cons h1 h2=>
   cases h2 with
   |cons h3 h4=>
    cases h4
    obtain rfl:=h1.inv_string
    obtain rfl:=h3.inv_int
    refine callsIn_wide.2 ((Tryz.stringslite_IndexByte _ _ w).mono ?_)
    rintro e w' ⟨rfl,rfl⟩
    exact post_kept6 hs (Kept.refl _) (.plain 4 rfl)
 ·cases h
noncomputable def tabGrow:Tab:=fun f args H=>bif Nat.beq f 287 then(match args with
 |[.slice none 0 0,.int .i64 (.ofNat 1)]=>H.newK (.cells [] 65 true true) fun i H=>some (.slice (some ⟨i,0,none⟩) 0 0,H)
 |_=>none) else none
theorem tabGrow_ok(gs:List Nat):TabOk gs Tryz.prog tabGrow:=by
 intro f args H v H' h μ w args' n hs ha
 unfold tabGrow at h
 obtain⟨hf,h⟩:=cond_some h
 rw[Nat.eq_of_beq_eq_true hf]
 split at h
 ·obtain⟨la⟩:=args'
  change LRel μ _ la at ha
  cases ha with
  |cons h1 h2=>
   cases h2 with
   |cons h3 h4=>
    cases h4
    obtain rfl:=h1.inv_slice_none
    obtain rfl:=h3.inv_int
    obtain⟨H1,hc,hn,hg⟩:=AHeap.newK_some h
    cases hc
    refine callsIn_wide.2 ((grow_calls w).mono ?_)
    rintro e w' ⟨cap,cs,rfl,rfl,hcap⟩
    have hsz:μ.sz 65=5:=hs.sz 65 5 (by kernel_rfl)
    obtain⟨hrel,hext⟩:=(hs.rel.drew (w.drawn+1)).new (ob:=.cells cs 65) hn hg cap ⟨rfl,by simp,fun k v hk=>by simp at hk,fun _=>rfl,(fun _ h=>by cases h),fun _=>rfl⟩
     (fun cs' e ow he arr e' fz ho=>by cases he;cases ho;rw[hsz];exact hcap)
    exact⟨.slice (some ⟨w.heap.size,0,none⟩) 0 cap,_,rfl,VRel.slc (b:=w.heap.size) (o:=0) (upd_same _ _ _ _) (Nat.zero_le _) (fun _=>by simp[Eng.upd]),⟨hrel,fun e n h=>hs.sz e n h,fun g hgg=>by
     exact(hext.mu.f _ _ (hs.gl g hgg))⟩,(Ext.drew H μ w (w.drawn+1)).trans hext⟩
 ·cases h
noncomputable def digitOf(H:AHeap)(a:Addr):Option (Value×AHeap):=
 match a,H.get a.block with
 |⟨_,off,none⟩,some (.cells cs _ _ _)=>match cs[off]? with
  |some (.int .u32 (.ofNat 1))=>some (.string ⟨#[49]⟩,H)
  |some (.int .u32 (.ofNat 2))=>some (.string ⟨#[50]⟩,H)
  |_=>none
 |_,_=>none
noncomputable def tabDec:Tab:=fun f args H=>bif Nat.beq f 221 then(match args with
 |[.slice (some a) 1 c]=>bif Nat.ble 1 c then digitOf H a else none
 |_=>none) else none
theorem cell_of_rel{H:AHeap}{μ:Mu}{w:World}(hr:Rel H μ w){i b o off:Nat}{cs:List Value}{e:TypeId}{ow ap:Bool}{u:Value}(hi:μ i=some (b,o))(hg:H.get i=some (.cells cs e ow ap))(hu:cs[off]? =some u):
 ∃u',w.cell? ⟨b,o+off,none⟩=some u'∧VRel μ u u':=by
 obtain⟨x,hx,ho⟩:=hr.obj i b o hi
 rw[hg] at hx
 cases hx
 have hsm:=ho.isSome
 revert ho hsm
 cases hw:w.heap[b]? with
 |none=>intro _ h;cases h
 |some ob=>
  intro ho _
  cases ob with
  |cells arr e' fz=>
   obtain⟨v',h1,h2⟩:=ho.2.2.1 off u hu
   exact⟨v',by simp[World.cell?,hw,h1],h2⟩
  |_=>exact ho.elim
theorem digitOf_some{H:AHeap}{a:Addr}{r:Value×AHeap}(h:digitOf H a=some r):∃i off cs e ow ap,a=⟨i,off,none⟩∧H.get i=some (.cells cs e ow ap)∧
 ((cs[off]? =some (.int .u32 (1:Nat))∧r=(.string ⟨#[49]⟩,H))∨(cs[off]? =some (.int .u32 (2:Nat))∧r=(.string ⟨#[50]⟩,H))):=by
 unfold digitOf at h
 split at h
 ·rename_i i off cs e ow ap hg
  refine⟨i,off,cs,e,ow,ap,rfl,hg,?_⟩
  split at h
  ·rename_i hx
   cases h
   exact .inl ⟨hx,rfl⟩
  ·rename_i hx
   cases h
   exact .inr ⟨hx,rfl⟩
  ·cases h
 ·cases h
theorem tabDec_ok(gs:List Nat):TabOk gs Tryz.prog tabDec:=by
 intro f args H v H' h μ w args' n hs ha
 unfold tabDec at h
 obtain⟨hf,h⟩:=cond_some h
 rw[Nat.eq_of_beq_eq_true hf]
 split at h
 ·obtain⟨hcb,h⟩:=cond_some h
  have hcb:=Nat.le_of_ble_eq_true hcb
  obtain⟨la⟩:=args'
  change LRel μ _ la at ha
  cases ha with
  |cons h1 h2=>
   cases h2
   obtain⟨i,off,cs,e,ow,ap,rfl,hg,hx⟩:=digitOf_some h
   obtain⟨b,o,cap',hi,hcap,hc0,rfl⟩:=h1.inv_slice
   have hc1:1≤cap':=Nat.le_trans hcb hcap
   have key:∀m:Nat,cs[off]? =some (Value.int .u32 (m:Int))→1≤m→m≤2→Nt 4294967296 w (.slice (some ⟨b,o+off,none⟩) 1 cap') m:=by
    intro m hm h1 h2
    obtain⟨u',hcell,hu⟩:=cell_of_rel hs.rel hi hg hm
    obtain rfl:=hu.inv_int
    exact⟨_,1,cap',fun _=>m,rfl,hc1,fun _ _=>by show m<4294967296;omega,.inr (by show m≠0;omega),by simp[val],fun j hj=>⟨b,o+off,rfl,by
     obtain rfl:j=0:=by omega
     exact hcell⟩⟩
   rcases hx with⟨hx,hr⟩|⟨hx,hr⟩
   ·cases hr
    refine callsIn_wide.2 ((decimal_1 (key 1 hx (by decide) (by decide))).mono ?_)
    rintro e w' ⟨rfl,hk⟩
    exact post_kept6 hs hk (.plain 4 rfl)
   ·cases hr
    refine callsIn_wide.2 ((decimal_2 (key 2 hx (by decide) (by decide))).mono ?_)
    rintro e w' ⟨rfl,hk⟩
    exact post_kept6 hs hk (.plain 4 rfl)
 ·cases h
noncomputable def builderOf(H:AHeap)(a:Addr):Option (Nat×Value×Value):=
 match a with
 |⟨i,0,none⟩=>match H.get i with
  |some (.cells [p,s] 109 true false)=>some (i,p,s)
  |_=>none
 |_=>none
theorem builderOf_some{H:AHeap}{a:Addr}{i:Nat}{p s:Value}(h:builderOf H a=some (i,p,s)):a=⟨i,0,none⟩∧H.get i=some (.cells [p,s] 109 true false):=by
 unfold builderOf at h
 split at h
 ·split at h
  ·rename_i hg
   cases h
   exact⟨rfl,hg⟩
  ·cases h
 ·cases h
theorem builder_rel{H:AHeap}{μ:Mu}{w:World}(hr:Rel H μ w){i b o:Nat}{p s:Value}(hi:μ i=some (b,o))(hg:H.get i=some (.cells [p,s] 109 true false)):
 o=0∧∃p' s',w.heap[b]? =some (.cells #[p',s'] 109 (0,0))∧VRel μ p p'∧VRel μ s s':=by
 obtain⟨x,hx,ho⟩:=hr.obj i b o hi
 rw[hg] at hx
 cases hx
 have hsm:=ho.isSome
 revert ho hsm
 cases hw:w.heap[b]? with
 |none=>intro _ h;cases h
 |some ob=>
  intro ho _
  cases ob with
  |cells arr e' fz=>
   obtain⟨rfl,h2,h3,h4,h5,-⟩:=ho
   obtain⟨rfl,h6⟩:=h5 rfl rfl
   obtain rfl:=h4 rfl
   obtain⟨p',q1,q2⟩:=h3 0 p rfl
   obtain⟨s',q3,q4⟩:=h3 1 s rfl
   refine⟨rfl,p',s',?_,q2,q4⟩
   have:arr=#[p',s']:=by
    have h5:arr.size=2:=h6
    apply Array.ext
    ·simpa using h5
    ·intro k hk1 hk2
     have:k=0∨k=1:=by omega
     rcases this with rfl|rfl
     ·rw[Array.getElem?_eq_getElem (by omega)] at q1
      simpa using q1
     ·rw[Array.getElem?_eq_getElem (by omega)] at q3
      simpa using q3
   rw[this]
  |_=>exact ho.elim
noncomputable def tabChk:Tab:=fun f args H=>bif Nat.beq f 129 then(match args with
 |[.pointer (some a)]=>match builderOf H a with
  |some (i,.pointer none,s)=>H.setK i (.cells [.pointer (some ⟨i,0,none⟩),s] 109 true false) fun H=>some (.tuple #[],H)
  |some (i,.pointer (some ⟨j,0,none⟩),_)=>bif Nat.beq i j then some (.tuple #[],H) else none
  |_=>none
 |_=>none) else none
theorem tabChk_ok(gs:List Nat):TabOk gs Tryz.prog tabChk:=by
 intro f args H v H' h μ w args' n hs ha
 unfold tabChk at h
 obtain⟨hf,h⟩:=cond_some h
 rw[Nat.eq_of_beq_eq_true hf]
 split at h
 ·rename_i a
  obtain⟨la⟩:=args'
  change LRel μ _ la at ha
  cases ha with
  |cons h1 h2=>
   cases h2
   split at h
   ·rename_i i s hbo
    obtain⟨rfl,hg⟩:=builderOf_some hbo
    obtain⟨_,b,o,hi,rfl⟩:=h1.inv_ptr
    obtain⟨rfl,p',s',hw,hp,hsv⟩:=builder_rel hs.rel hi hg
    obtain rfl:=hp.inv_ptr_none
    obtain⟨H1,hc,hn,hg1⟩:=AHeap.setK_some h
    cases hc
    have hlt:b<w.heap.size:=(Array.getElem?_eq_some_iff.1 hw).1
    refine callsIn_wide.2 ((copyCheck_fresh (b:=b) (by simp[World.cell?,hw]) (by simp[World.shape?,hw]) (by simp[World.frozen?,hw])).mono ?_)
    rintro e w' ⟨rfl,rfl⟩
    have hw':(w.setCell ⟨b,0,none⟩ (.pointer (some ⟨b,0,none⟩))).heap[b]? =some (.cells #[.pointer (some ⟨b,0,none⟩),s'] 109 (0,0)):=by
     simp[World.setCell,Array.getElem?_modify,hw]
    obtain⟨hrel,hext⟩:=hs.rel.put (w':=w.setCell ⟨b,0,none⟩ (.pointer (some ⟨b,0,none⟩))) hi hg rfl (hs.rel.own i b 0 _ _ _ hi hg) hn hg1
     (by show(w.heap.modify _ _).size=_;simp) (fun c hc=>by show(w.heap.modify _ _)[c]? =_;rw[Array.getElem?_modify,if_neg (by simpa using Ne.symm hc)])
     (by rw[hw'];exact⟨rfl,by simp,(fun k v hk=>by
          match k,hk with
          |0,hk=>exact⟨_,rfl,by cases hk;exact VRel.ptr (off:=0) hi⟩
          |1,hk=>exact⟨_,rfl,by cases hk;exact hsv⟩
          |k+2,hk=>simp at hk),fun _=>rfl,fun _ _=>⟨rfl,rfl⟩,fun h=>by cases h⟩)
     (fun cs e ow he=>by cases he) rfl rfl rfl
    exact⟨.tuple #[],μ,rfl,.plain 4 rfl,⟨hrel,hs.sz,hs.gl⟩,hext⟩
   ·rename_i i j s hbo
    obtain⟨hij,h⟩:=cond_some h
    cases h
    obtain rfl:=Nat.eq_of_beq_eq_true hij
    obtain⟨rfl,hg⟩:=builderOf_some hbo
    obtain⟨_,b,o,hi,rfl⟩:=h1.inv_ptr
    obtain⟨rfl,p',s',hw,hp,hsv⟩:=builder_rel hs.rel hi hg
    obtain⟨_,b2,o2,hi2,rfl⟩:=hp.inv_ptr
    rw[hi] at hi2
    cases hi2
    refine callsIn_wide.2 ((copyCheck_used (b:=b) (by simp[World.cell?,hw])).mono ?_)
    rintro e w' ⟨rfl,rfl⟩
    exact post_kept6 hs (Kept.refl _) (.plain 4 rfl)
   ·cases h
 ·cases h
end
section
open Go Go.RowKit Go.Dig Go.Shelf Go.Eng
theorem rel_freeze{H H':AHeap}{μ:Mu}{w w':World}{i b o:Nat}{cs:List Value}{e:TypeId}{ow ap:Bool}{arr:Array Value}{fz fz':Nat×Nat}(h:Rel H μ w)(hi:μ i=some (b,o))
 (hg:H.get i=some (.cells cs e ow ap))(hf:(ow||ap)=true)(hn:H'.next=H.next)(hg':∀j,H'.get j=if j=i then some (.cells cs e false false) else H.get j)
 (hw:w.heap[b]? =some (.cells arr e fz))(hw':w'.heap[b]? =some (.cells arr e fz'))(hs:w'.heap.size=w.heap.size)(hother:∀c,c≠b→w'.heap[c]? =w.heap[c]?)
 (ht:w'.tape=w.tape)(hos:w'.os=w.os)(hou:w'.output=w.output):Rel H' μ w'∧Ext H μ w H' μ w':=by
 have hgi:H'.get i=some (.cells cs e false false):=by rw[hg',if_pos rfl]
 have hgo:∀j,j≠i→H'.get j=H.get j:=fun j hj=>by rw[hg',if_neg hj]
 have hshare:∀j o',μ j=some (b,o')→j≠i→∃cs' e',H.get j=some (.cells cs' e' false false):=by
  intro j o' hj hne
  cases ap with
  |true=>
   obtain⟨cs',e',h1,_⟩:=h.app i b o cs e ow hi hg j o' hj hne
   exact⟨cs',e',h1⟩
  |false=>
   have:ow=true:=by simpa using hf
   subst this
   exact absurd (h.own i b o cs e false hi hg j o' hj) hne
 constructor
 ·refine⟨?_,?_,?_,?_,?_,?_⟩
  ·intro j b' o' hj
   obtain⟨x,h1,h2⟩:=h.obj j b' o' hj
   by_cases ej:j=i
   ·subst ej
    rw[hi] at hj
    cases hj
    rw[hg] at h1
    cases h1
    refine⟨_,hgi,?_⟩
    rw[hw] at h2
    rw[hw']
    exact⟨h2.1,h2.2.1,h2.2.2.1,(fun hh=>by cases hh),(fun hh=>by cases hh),fun hh=>by cases hh⟩
   ·refine⟨x,by rw[hgo j ej];exact h1,?_⟩
    by_cases eb:b'=b
    ·subst eb
     obtain⟨cs',e',h3⟩:=hshare j o' hj ej
     rw[h3] at h1
     cases h1
     rw[hw] at h2
     rw[hw']
     exact⟨h2.1,h2.2.1,h2.2.2.1,(fun hh=>by cases hh),(fun hh=>by cases hh),fun hh=>by cases hh⟩
    ·rw[hother b' eb];exact h2
  ·intro j p hj
   rw[hn];exact h.dom j p hj
  ·intro j b' o' cs' e' app hj hgj k o2 hk
   by_cases ej:j=i
   ·subst ej;rw[hgi] at hgj;cases hgj
   ·rw[hgo j ej] at hgj;exact h.own j b' o' cs' e' app hj hgj k o2 hk
  ·intro j b' o' cs' e' ow' hj hgj k o2 hk hne
   by_cases ej:j=i
   ·subst ej;rw[hgi] at hgj;cases hgj
   ·rw[hgo j ej] at hgj
    obtain⟨cs2,e2,h1,h2⟩:=h.app j b' o' cs' e' ow' hj hgj k o2 hk hne
    refine⟨cs2,e2,?_,h2⟩
    by_cases ek:k=i
    ·subst ek
     rw[hg] at h1
     cases h1
     cases hf
    ·rw[hgo k ek];exact h1
  ·intro j b' o' x hj hgj hno k o2 hk
   by_cases ej:j=i
   ·subst ej;rw[hgi] at hgj;cases hgj;exact absurd rfl (hno _ _ _ _)
   ·rw[hgo j ej] at hgj;exact h.oth j b' o' x hj hgj hno k o2 hk
  ·intro j b' o' cs' e' ow' hj hgj arr' e2 fz2 hw2
   by_cases ej:j=i
   ·subst ej;rw[hgi] at hgj;cases hgj
   ·rw[hgo j ej] at hgj
    by_cases eb:b'=b
    ·subst eb
     rw[hw'] at hw2
     cases hw2
     exact h.cap j b' o' cs' e' ow' hj hgj _ _ _ hw
    ·rw[hother b' eb] at hw2
     exact h.cap j b' o' cs' e' ow' hj hgj _ _ _ hw2
 ·refine⟨Mu.le.refl _,by omega,by omega,?_,?_,?_,ht,hos,hou⟩
  ·intro c hc hl
   by_cases eb:c=b
   ·subst eb
    obtain⟨x,h1,h2⟩:=hl i o hi
    rw[hg] at h1
    cases h1
    cases ow<;>cases ap<;>first|exact absurd hf (by decide)|exact absurd h2 (by simp[locked])
   ·exact hother c eb
  ·intro j b' o' hj _ hl
   refine⟨j,o',hj,fun hlk=>hl ?_⟩
   by_cases ej:j=i
   ·subst ej;exact⟨_,hgi,rfl⟩
   ·obtain⟨x,h1,h2⟩:=hlk
    exact⟨x,by rw[hgo j ej];exact h1,h2⟩
  ·intro j _ hm
   refine⟨hm,hgo j fun e=> ?_⟩
   subst e
   rw[hi] at hm;cases hm
noncomputable def bytesOf:List Value→Option (List UInt8)
 |[]=>some []
 | .int .u8 (.ofNat k)::r=>match bytesOf r with
   |some l=>bif Nat.blt k 256 then some (UInt8.ofNat k::l) else none
   |none=>none
 |_=>none
theorem bytesOf_some:∀{vs:List Value}{l:List UInt8},bytesOf vs=some l→l.length=vs.length∧∀(j:Nat)(x:UInt8),l[j]? =some x→vs[j]? =some (.int .u8 (x.toNat:Nat))
 |[],l,h=>by cases h;exact⟨rfl,fun j x hx=>by simp at hx⟩
 |v::r,l,h=>by
  unfold bytesOf at h
  split at h
  ·rename_i e;cases e
  ·rename_i k r' e
   cases e
   split at h
   ·rename_i l' hl
    obtain⟨hk,h⟩:=cond_some h
    cases h
    obtain⟨h1,h2⟩:=bytesOf_some hl
    refine⟨by simp[h1],fun j x hx=> ?_⟩
    cases j with
    |zero=>
     simp only[List.getElem?_cons_zero,Option.some.injEq] at hx⊢
     subst hx
     have hk':k<256:=Nat.le_of_ble_eq_true hk
     simp[Nat.mod_eq_of_lt hk']
    |succ j=>simpa using h2 j x (by simpa using hx)
   ·cases h
  ·cases h
noncomputable def tabStr:Tab:=fun f args H=>bif Nat.beq f 54 then(match args with
 |[.pointer (some a)]=>match builderOf H a with
  |some (_,_,.slice (some ⟨j,0,none⟩) n c)=>match H.get j with
   |some (.cells bs 5 ow ap)=>match takeN n bs with
    |some vs=>match bytesOf vs with
     |some l=>bif (ow||ap)&&Nat.ble 1 n&&Nat.ble n c&&Nat.ble n 1000 then H.setK j (.cells bs 5 false false) fun H=>some (.string ⟨⟨l⟩⟩,H) else none
     |none=>none
    |none=>none
   |_=>none
  |_=>none
 |_=>none) else none
theorem takeN_some:∀{n:Nat}{l r:List Value},takeN n l=some r→r=l.take n∧n≤l.length
 |0,l,r,h=>by unfold takeN at h;cases h;exact⟨by simp,Nat.zero_le _⟩
 |n+1,[],r,h=>by unfold takeN at h;cases h
 |n+1,x::xs,r,h=>by
  unfold takeN at h
  split at h
  ·rename_i l hl
   cases h
   obtain⟨h1,h2⟩:=takeN_some hl
   exact⟨by rw[h1];rfl,by simpa using h2⟩
  ·cases h
theorem tabStr_some{_args:List Value}{H:AHeap}{r:Value×AHeap}{a:Addr}(h:tabStr 54 [.pointer (some a)] H=some r):
 ∃i p j n c bs ow ap l,a=⟨i,0,none⟩∧H.get i=some (.cells [p,.slice (some ⟨j,0,none⟩) n c] 109 true false)∧H.get j=some (.cells bs 5 ow ap)∧bytesOf (bs.take n)=some l∧n≤bs.length∧
  (ow||ap)=true∧1≤n∧n≤c∧n≤1000∧∃H1:AHeap,r=(.string ⟨⟨l⟩⟩,H1)∧H1.next=H.next∧∀k,H1.get k=if k=j then some (.cells bs 5 false false) else H.get k:=by
 replace h:(match builderOf H a with
  |some (_,_,.slice (some ⟨j,0,none⟩) n c)=>match H.get j with
   |some (.cells bs 5 ow ap)=>match takeN n bs with
    |some vs=>match bytesOf vs with
     |some l=>bif (ow||ap)&&Nat.ble 1 n&&Nat.ble n c&&Nat.ble n 1000 then H.setK j (.cells bs 5 false false) fun H=>some (Value.string ⟨⟨l⟩⟩,H) else none
     |none=>none
    |none=>none
   |_=>none
  |_=>none)=some r:=h
 split at h
 ·rename_i i p j n c hbo
  obtain⟨rfl,hg⟩:=builderOf_some hbo
  split at h
  ·rename_i bs ow ap hgj
   split at h
   ·rename_i vs hvs
    split at h
    ·rename_i l hl
     obtain⟨hc,h⟩:=cond_some h
     obtain⟨rfl,hle⟩:=takeN_some hvs
     simp only[Bool.and_eq_true] at hc
     obtain⟨⟨⟨c1,c2⟩,c3⟩,c4⟩:=hc
     obtain⟨H1,e,hn,hg1⟩:=AHeap.setK_some h
     cases e
     exact⟨i,p,j,n,c,bs,ow,ap,l,rfl,hg,hgj,hl,hle,c1,Nat.le_of_ble_eq_true c2,Nat.le_of_ble_eq_true c3,Nat.le_of_ble_eq_true c4,H1,rfl,hn,hg1⟩
    ·cases h
   ·cases h
  ·cases h
 ·cases h
theorem tabStr_ok(gs:List Nat):TabOk gs Tryz.prog tabStr:=by
 intro f args H v H' h μ w args' n hs ha
 have hf:f=54:=by
  unfold tabStr at h
  obtain⟨hf,_⟩:=cond_some h
  exact Nat.eq_of_beq_eq_true hf
 subst hf
 have hargs:∃a,args=[.pointer (some a)]:=by
  unfold tabStr at h
  obtain⟨_,h⟩:=cond_some h
  split at h
  ·exact⟨_,rfl⟩
  ·cases h
 obtain⟨a,rfl⟩:=hargs
 obtain⟨i,p,j,n,c,bs,ow,ap,l,rfl,hg,hgj,hl,hle,hfl,h1,h2,h3,H1,e,hn,hg1⟩:=tabStr_some (_args:=[]) h
 cases e
 obtain⟨la⟩:=args'
 change LRel μ _ la at ha
 cases ha with
 |cons hp hr=>
  cases hr
  obtain⟨_,b,o,hi,rfl⟩:=hp.inv_ptr
  obtain⟨rfl,p',s',hw,_,hsv⟩:=builder_rel hs.rel hi hg
  obtain⟨g,og,cap',hj,hcap,_,rfl⟩:=hsv.inv_slice
  obtain⟨hll,hlb⟩:=bytesOf_some hl
  have hln:l.length=n:=by rw[hll,List.length_take];omega
  obtain⟨x,hx,ho⟩:=hs.rel.obj j g og hj
  rw[hgj] at hx
  cases hx
  have hsm:=ho.isSome
  revert ho hsm
  cases hwg:w.heap[g]? with
  |none=>intro _ h;cases h
  |some ob=>
   intro ho _
   cases ob with
   |cells arr e' fz=>
    obtain⟨rfl,q2,q3,q4,q5,q6⟩:=ho
    have hog:og=0:=by
     cases ap with
     |true=>exact q6 rfl
     |false=>exact(q5 (by simpa using hfl) rfl).1
    subst hog
    obtain rfl:=q4 hfl
    have hc:∀(k:Nat)(x:UInt8),l[k]? =some x→arr[k]? =some (Value.int .u8 x.toNat):=by
     intro k x hk
     have h1:=hlb k x hk
     have hkn:k<n:=by rw[←hln];exact(List.getElem?_eq_some_iff.1 hk).1
     rw[List.getElem?_take,if_pos hkn] at h1
     obtain⟨v',r1,r2⟩:=q3 k _ h1
     obtain rfl:=r2.inv_int
     rwa [Nat.zero_add] at r1
    have hcall:=bstring_calls (w:=w) (b:=b) (g:=g) (cap:=cap') (p:=p') (cur:=arr) (l:=l) (by rw[hln];exact hw) hwg (fun e=>by rw[e] at hln;simp at hln;omega) (by omega) (by omega) (by omega) hc
    refine callsIn_wide.2 (hcall.mono ?_)
    rintro e w' ⟨rfl,rfl⟩
    have hl0:l.length≠0:=by omega
    have hfr:(w.drew.freeze ⟨g,0,none⟩ l.length).heap[g]? =some (.cells arr 5 (0,0+l.length)):=by
     have hwg':w.drew.heap[g]? =some (.cells arr 5 (0,0)):=hwg
     unfold World.freeze
     rw[if_neg hl0]
     simp[Array.getElem?_modify,hwg']
    obtain⟨hrel,hext⟩:=rel_freeze (w':=w.drew.freeze ⟨g,0,none⟩ l.length) (hs.rel.drew (w.drawn+1)) hj hgj hfl hn hg1 hwg hfr
     (by unfold World.freeze;rw[if_neg hl0];simp) (fun k hk=>by unfold World.freeze;rw[if_neg hl0];show(Array.modify _ _ _)[k]? =_;rw[Array.getElem?_modify,if_neg (by simpa using Ne.symm hk)];rfl)
     (by unfold World.freeze;rw[if_neg hl0];rfl) (by unfold World.freeze;rw[if_neg hl0];rfl) (by unfold World.freeze;rw[if_neg hl0];rfl)
    exact⟨.string ⟨⟨l⟩⟩,μ,rfl,.plain 4 rfl,⟨hrel,hs.sz,hs.gl⟩,(Ext.drew H μ w (w.drawn+1)).trans hext⟩
   |_=>exact ho.elim
end
section
open Go Go.RowKit Go.Shelf Go.Eng
def tab32:List Value:=[0,1,28,2,29,14,24,3,30,22,20,15,25,17,4,8,31,27,13,23,21,19,16,7,26,12,18,6,11,5,10,9].map fun(n:Nat)=>.int .u8 (.ofNat n)
noncomputable def H0:AHeap:=⟨.node none (.node none (.node (some (.cells tab32 402 false false)) (Tr.full 9) (Tr.full 9)) (Tr.full 10)) (Tr.full 11),12⟩
def Laid6(w:World):Prop:=∃arr fz,w.heap[3]? =some (.cells arr 402 fz)∧32≤arr.size∧∀(k:Nat)(v:Value),tab32[k]? =some v→arr[k]? =some v
section
variable{P:Program}{w w':World}
noncomputable def mu0(P:Program):Mu:=⟨fun i=>if i=3 then some (3,0) else none,fun _=>0,fun e=>(size? P e).getD 0⟩
theorem H0_get:H0.get 3=some (.cells tab32 402 false false):=rfl
theorem mu0_some{i:Nat}{p:Nat×Nat}(h:mu0 P i=some p):i=3∧p=(3,0):=by
 simp only[mu0] at h
 split at h
 ·rename_i e;exact⟨e,by cases h;rfl⟩
 ·cases h
theorem tab32_len:tab32.length=32:=rfl
theorem tab32_plain:∀(k:Nat)(v:Value),tab32[k]? =some v→∃n,v= .int .u8 n:=by
 intro k v h
 have:=List.mem_of_getElem? h
 simp only[tab32,List.mem_map] at this
 obtain⟨n,_,rfl⟩:=this
 exact⟨_,rfl⟩
theorem start6(h:Laid6 w):St [3] P H0 (mu0 P) w:=by
 obtain⟨arr,fz,h1,h2,h3⟩:=h
 refine⟨⟨?_,?_,?_,?_,?_,?_⟩,?_,?_⟩
 ·intro i b o hi
  obtain⟨rfl,hp⟩:=mu0_some hi
  cases hp
  refine⟨_,H0_get,?_⟩
  rw[h1]
  refine⟨rfl,by rw[tab32_len];omega,fun k v hk=>⟨v,by rw[Nat.zero_add];exact h3 k v hk,?_⟩,(fun hf=>by cases hf),(fun hf=>by cases hf),fun hf=>by cases hf⟩
  obtain⟨n,rfl⟩:=tab32_plain k v hk
  exact .int _ _
 ·intro i p hi
  obtain⟨rfl,_⟩:=mu0_some hi
  show 3<12
  omega
 ·intro i b o cs e app hi hg
  obtain⟨rfl,_⟩:=mu0_some hi
  rw[H0_get] at hg
  cases hg
 ·intro i b o cs e ow hi hg
  obtain⟨rfl,_⟩:=mu0_some hi
  rw[H0_get] at hg
  cases hg
 ·intro i b o x hi hg hno
  obtain⟨rfl,_⟩:=mu0_some hi
  rw[H0_get] at hg
  cases hg
  exact absurd rfl (hno _ _ _ _)
 ·intro i b o cs e ow hi hg
  obtain⟨rfl,_⟩:=mu0_some hi
  rw[H0_get] at hg
  cases hg
 ·intro e n hn
  simp[mu0,hn]
 ·intro g hg
  simp only[List.any_cons,List.any_nil,Bool.or_false] at hg
  rw[Nat.eq_of_beq_eq_true hg]
  rfl
theorem kept_of6{H':AHeap}{μ':Mu}(h:Ext H0 (mu0 P) w H' μ' w'):Kept w w':=
 ⟨h.size,fun b hb=>h.keep b hb fun i o hi=>by
   obtain⟨rfl,_⟩:=mu0_some hi
   exact⟨_,H0_get,rfl⟩,h.tape,h.os,h.output⟩
noncomputable def isTrue6(r:Option (Value×AHeap)):Bool:=
 match r with
 |some (.bool b,_)=>b
 |_=>false
theorem isTrue6_some{r:Option (Value×AHeap)}(h:isTrue6 r=true):∃H',r=some (.bool true,H'):=by
 unfold isTrue6 at h
 split at h
 ·subst h;exact⟨_,rfl⟩
 ·cases h
theorem true_of6{ev:Ev}{f:FuncId}{args:List Value}(hev:EvOk [3] P ev)(h:isTrue6 (ev.call f args H0)=true)(hp:args.all (plainV 4)=true)(n:Nat)(hw:Laid6 w):
 CallsIn Fence.wide n P f args.toArray w (fun e w'=>e= .returned (.bool true)∧Kept w w'):=by
 obtain⟨H',hc⟩:=isTrue6_some h
 refine(hev.call f args H0 _ _ hc (mu0 P) w args.toArray n (start6 hw) (LRel.plain hp)).mono ?_
 intro e w' hq
 obtain⟨v',μ',rfl,hv,_,hx⟩:=hq
 rw[hv.inv_bool]
 exact⟨rfl,kept_of6 hx⟩
theorem Laid6.laid(h:Laid6 w):Laid w:=by
 obtain⟨arr,fz,h1,h2,h3⟩:=h
 intro j hj
 have hj':j<32:=hj
 have he:tab32[j]? =some (.int .u8 (Lib.deBruijn32tab.getD j 0)):=by
  show(List.map _ Lib.deBruijn32tab)[j]? =_
  rw[List.getElem?_map,List.getElem?_eq_getElem hj]
  simp[List.getD,List.getElem?_eq_getElem hj]
 have:=h3 j _ he
 simp[World.cell?,h1,this]
theorem Laid6.kept(h:Laid6 w)(k:Kept w w'):Laid6 w':=by
 obtain⟨arr,fz,h1,h2,h3⟩:=h
 exact⟨arr,fz,(k.old 3 (Array.getElem?_eq_some_iff.1 h1).1).trans h1,h2,h3⟩
end
noncomputable def tab6:Tab:=orTab tabIx (orTab tabGrow (orTab tabDec (orTab tabChk (orTab tabStr noTab))))
theorem tab6_ok:TabOk [3] Tryz.prog tab6:=orTab_ok (tabIx_ok _) (orTab_ok (tabGrow_ok _) (orTab_ok (tabDec_ok _) (orTab_ok (tabChk_ok _) (orTab_ok (tabStr_ok _) (noTab_ok _ _)))))
theorem mix6:Tryz.prog.follows .mixedOrders=true:=by kernel_rfl
end
end Go.Proofs.YtbapfnpbamnmpaaGreatDoor
