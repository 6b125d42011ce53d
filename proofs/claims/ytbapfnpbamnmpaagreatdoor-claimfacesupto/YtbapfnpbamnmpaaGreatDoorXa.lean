/- A part of the proof that ClaimFaces answers true for every input of bulk at most 1048576: conditions: the row's own. -/
import Derived.Test.YtbapfnpbamnmpaaGreatDoorVb
import Derived.WalkSpells
import Derived.Test.YtbapfnpbamnmpaaGreatDoorRf
namespace Go.Proofs.YtbapfnpbamnmpaaGreatDoor
open Go Go.RowKit Go.Dig
open Go.Eng (Kept KW KeptB wp_region_kw kw_call)
theorem Raw.keptB{w w':World}{v:Value}{m b:Nat}(h:Raw w v m)(k:KeptB w w' b)(hb:NoWords w b):Raw w' v m:=by
 obtain⟨a,n,cap,zs,e,h2,h3,h4,h5,h6⟩:=h
 refine⟨a,n,cap,zs,e,h2,h3,h4,h5,h6.keptB k fun i hi=> ?_⟩
 obtain⟨b',off,ha,hc⟩:=h6 i hi
 exact⟨b',off,ha,fun e=>hb (off+i) _ (e▸hc)⟩
theorem Blk.facts3{w:World}{b:Nat}{t:TypeId}{x0 x1 x2:Value}(h:Blk w b #[x0,x1,x2] t):w.cell? ⟨b,0,none⟩=some x0∧w.cell? ⟨b,1,none⟩=some x1∧w.cell? ⟨b,2,none⟩=some x2∧w.frozen? ⟨b,0,none⟩=false∧w.frozen? ⟨b,1,none⟩=false∧w.frozen? ⟨b,2,none⟩=false:=
 ⟨h.cell 0 rfl,h.cell 1 rfl,h.cell 2 rfl,h.frozen 0,h.frozen 1,h.frozen 2⟩
def numOk(N D:Nat):Prop:=N=0∨small N D=true
theorem rN_zero(D:Nat):rN 0 D=0:=by unfold rN;exact Nat.zero_div _
theorem rD_zero(D:Nat):rD 0 D=1:=by
 unfold rD
 rw[Nat.gcd_zero_left]
 exact Nat.div_self (dn_pos D)
theorem numOk.mid{N D:Nat}(h:numOk N D):N=0∨N<Mid∧D<Mid:=by
 rcases h with h|h
 ·exact .inl h
 ·exact .inr ⟨(small_bounds h).1,(small_bounds h).2.1⟩
theorem numOk.sm{N D:Nat}(h:numOk N D):rN N D<Sm∧rD N D<Sm:=by
 rcases h with rfl|h
 ·rw[rN_zero,rD_zero]
  exact⟨pwr_pos 7000,pwr_one 7000 (by decide)⟩
 ·exact⟨(small_bounds h).2.2.1,(small_bounds h).2.2.2.1⟩
def sameR(s:Bool)(N D:Nat)(s':Bool)(N' D':Nat):Bool:=qcmp (s&&decide (0<N)) (rN N D) (rD N D) (s'&&decide (0<N')) (rN N' D') (rD N' D')==0
set_option maxHeartbeats 2000000 in
set_option maxRecDepth 100000 in
theorem rsame_calls{w:World}{v u:Value}{s s':Bool}{N D N' D':Nat}(h:Rt w v s N D)(h':Rt w u s' N' D')(hb:numOk N D)(hb':numOk N' D'):
 Calls Tryz.prog 48 #[v,u] w fun e w'=>e= .returned (.bool (sameR s N D s' N' D'))∧Kept w w':=by
 have hh:=h
 have hh':=h'
 obtain⟨vn,vd,rfl,hn,hd⟩:=h
 obtain⟨vn',vd',rfl,hn',hd'⟩:=h'
 obtain⟨a,n,cap,xs,rfl,_⟩:=hn.shape'
 obtain⟨ad,nd,capd,ys,rfl,_⟩:=hd.shape'
 obtain⟨a',n',cap',xs',rfl,_⟩:=hn'.shape'
 obtain⟨ad',nd',capd',ys',rfl,_⟩:=hd'.shape'
 have hA:=Blk.new w #[.bool s,.slice a n cap,.slice ad nd capd] 24
 have hB:=Blk.new (w.alloc (.cells #[.bool s,.slice a n cap,.slice ad nd capd] 24)) #[.bool s',.slice a' n' cap',.slice ad' nd' capd'] 24
 rw[show(w.alloc (.cells #[.bool s,.slice a n cap,.slice ad nd capd] 24)).heap.size=w.heap.size+1 from Array.size_push _] at hB
 have hk1:Kept w (w.alloc (.cells #[.bool s,.slice a n cap,.slice ad nd capd] 24)):=(Kept.refl w).alloc _
 have hk2:Kept (w.alloc (.cells #[.bool s,.slice a n cap,.slice ad nd capd] 24)) ((w.alloc (.cells #[.bool s,.slice a n cap,.slice ad nd capd] 24)).alloc (.cells #[.bool s',.slice a' n' cap',.slice ad' nd' capd'] 24)):=(Kept.refl _).alloc _
 replace hA:=hA.kept hk2
 have hk:=hk1.trans hk2
 have H1:=Lib.hid (fun(w':World)(k:Kept w w')=>of_qcalls (hh.kept k) hb.mid)
 have H2:=Lib.hid (fun(w':World)(k:Kept w w')=>of_qcalls (hh'.kept k) hb'.mid)
 have H3:=Lib.hid (fun(w':World)(x y:Value)(q:Qv w' x (s&&decide (0<N)) (rN N D) (rD N D))(q':Qv w' y (s'&&decide (0<N')) (rN N' D') (rD N' D'))=>qcmp_calls q q' hb.sm.1 hb.sm.2 hb'.sm.1 hb'.sm.2)
 have HR:Hid (sameR s N D s' N' D'=(qcmp (s&&decide (0<N)) (rN N D) (rD N D) (s'&&decide (0<N')) (rN N' D') (rD N' D')==0)):=Lib.hid rfl
 clear hn hd hn' hd' hh hh' hb hb' hk1 hk2
 generalize sameR s N D s' N' D'=res at*
 generalize rN N D=p1 at*
 generalize rD N D=p2 at*
 generalize rN N' D'=p3 at*
 generalize rD N' D'=p4 at*
 generalize (s&&decide (0<N))=z1 at*
 generalize (s'&&decide (0<N'))=z2 at*
 generalize hW:(w.alloc (.cells #[.bool s,.slice a n cap,.slice ad nd capd] 24)).alloc (.cells #[.bool s',.slice a' n' cap',.slice ad' nd' capd'] 24)=w2 at*
 obtain⟨p0,p1',p2',-⟩:=hA.facts3
 obtain⟨q0,q1,q2,-⟩:=hB.facts3
 have hall:∀w',Kept w2 w'→Kept w2 w'∧w'.cell? ⟨w.heap.size,0,none⟩=some (.bool s)∧w'.cell? ⟨w.heap.size,1,none⟩=some (.slice a n cap)∧w'.cell? ⟨w.heap.size,2,none⟩=some (.slice ad nd capd)∧w'.cell? ⟨w.heap.size+1,0,none⟩=some (.bool s')∧w'.cell? ⟨w.heap.size+1,1,none⟩=some (.slice a' n' cap')∧w'.cell? ⟨w.heap.size+1,2,none⟩=some (.slice ad' nd' capd'):=
  fun w' k=>⟨k,k.cell p0,k.cell p1',k.cell p2',k.cell q0,k.cell q1,k.cell q2⟩
 have HALL:=Lib.hid hall;clear hall
 subst hW
 go_enter Tryz.func48,Tryz.ntmps48
 go_wp2
 go_region_held3 (fun w'=>Kept ((w.alloc (.cells #[.bool s,.slice a n cap,.slice ad nd capd] 24)).alloc (.cells #[.bool s',.slice a' n' cap',.slice ad' nd' capd'] 24)) w'∧w'.cell? ⟨w.heap.size,0,none⟩=some (.bool s)∧w'.cell? ⟨w.heap.size,1,none⟩=some (.slice a n cap)∧w'.cell? ⟨w.heap.size,2,none⟩=some (.slice ad nd capd)∧w'.cell? ⟨w.heap.size+1,0,none⟩=some (.bool s')∧w'.cell? ⟨w.heap.size+1,1,none⟩=some (.slice a' n' cap')∧w'.cell? ⟨w.heap.size+1,2,none⟩=some (.slice ad' nd' capd'))
  (first|exact HALL.out _ (Kept.refl _).drew|exact HALL.out _ hS3|exact HALL.out _ hS4|exact HALL.out _ hS5)
  (first|(go_at_call 126;refine(H3.out _ _ _ (hv3.kept hk4) hv4).mono ?_;rintro e w5 ⟨rfl,hk5⟩;have hS5:=hS4.trans hk5)|(go_at_call_of 125 (Value.agg #[.bool s,.slice a n cap,.slice ad nd capd]);refine(H1.out _ hk.drew).mono ?_;rintro e w3 ⟨v3,rfl,hv3,hk3⟩;have hS3:=(Kept.refl ((w.alloc (.cells #[.bool s,.slice a n cap,.slice ad nd capd] 24)).alloc (.cells #[.bool s',.slice a' n' cap',.slice ad' nd' capd'] 24))).drew.trans hk3)|(go_at_call_of 125 (Value.agg #[.bool s',.slice a' n' cap',.slice ad' nd' capd']);refine(H2.out _ (hk.trans hS3)).mono ?_;rintro e w4 ⟨v4,rfl,hv4,hk4⟩;have hS4:=hS3.trans hk4))
 go_wp2
 go_ret
 exact⟨by rw[HR.out];rfl,hk.trans hS5⟩
mutual
def sameT:Tree→Tree→Bool
 | .node op arg s N D name kids,.node op' arg' s' N' D' name' kids'=>(op==op')&&(arg==arg')&&(name.toList==name'.toList)&&((kids.length:Int)==(kids'.length:Int))&&sameR s N D s' N' D'&&sameTs kids kids'
def sameTs:List Tree→List Tree→Bool
 |[],_=>true
 |_::_,[]=>true
 |t::ts,u::us=>sameT t u&&sameTs ts us
end
mutual
def numsT:Tree→Prop
 | .node _ _ _ N D _ kids=>numOk N D∧numsTs kids
def numsTs:List Tree→Prop
 |[]=>True
 |t::ts=>numsT t∧numsTs ts
end
theorem numsTs_get{ts:List Tree}(h:numsTs ts):∀(i:Nat)(hi:i<ts.length),numsT ts[i]:=by
 induction ts with
 |nil=>intro i hi;exact absurd hi (Nat.not_lt_zero i)
 |cons t r ih=>
  intro i hi
  cases i with
  |zero=>exact h.1
  |succ i=>exact ih h.2 i (by simpa using hi)
theorem sameTs_drop{ts us:List Tree}{k:Nat}(h:k<ts.length)(h':k<us.length):sameTs (ts.drop k) (us.drop k)=(sameT ts[k] us[k]&&sameTs (ts.drop (k+1)) (us.drop (k+1))):=by
 rw[List.drop_eq_getElem_cons h,List.drop_eq_getElem_cons h',sameTs]
theorem sameTs_end{ts us:List Tree}{k:Nat}(h:ts.length≤k):sameTs (ts.drop k) (us.drop k)=true:=by
 rw[List.drop_of_length_le h,sameTs]
theorem nodeOk_num{op arg:Int}{s:Bool}{N D:Nat}{name:ByteArray}{n:Nat}(h:nodeOk op arg s N D name n=true):numOk N D:=by
 unfold nodeOk at h
 simp only[Bool.and_eq_true] at h
 have h2:=h.2
 split at h2
 ·simp only[Bool.and_eq_true] at h2
  exact .inr h2.1.1
 ·simp only[Bool.and_eq_true,decide_eq_true_eq] at h2
  exact .inl h2.1
mutual
theorem cnt_nums:∀(t:Tree)(d m m':Nat),cnt t d m=some m'→numsT t
 | .node op arg s N D name kids,d,m,m'=>by
   intro h
   rw[cnt] at h
   split at h
   ·cases h
   ·rename_i hc
    refine⟨nodeOk_num (op:=op) (arg:=arg) (s:=s) (name:=name) (n:=kids.length) ?_,cnts_nums kids (d+1) (m+1) m' h⟩
    cases hn:nodeOk op arg s N D name kids.length
    ·exact absurd (.inr (.inr hn)) hc
    ·rfl
theorem cnts_nums:∀(ts:List Tree)(d m m':Nat),cnts ts d m=some m'→numsTs ts
 |[],_,_,_=>fun _=>trivial
 |t::ts,d,m,m'=>by
  intro h
  rw[cnts] at h
  cases h1:cnt t d m with
  |none=>rw[h1] at h;cases h
  |some m1=>
   rw[h1] at h
   exact⟨cnt_nums t d m m1 h1,cnts_nums ts d m1 m' h⟩
end
theorem nums_of_ok{t:Tree}(h:t.ok=true):numsT t:=by
 unfold Tree.ok at h
 obtain⟨m,hm⟩:=Option.isSome_iff_exists.1 h
 exact cnt_nums t 1 0 m hm
theorem read_small{w:World}{v:Value}{neg:Bool}{N D:Nat}(h:Rt w v neg N D)(hT:Laid w)(hs:small N D=true):
 Calls Tryz.prog 155 #[v] w fun e w'=>∃a n c a' n' c',e= .returned (.tuple #[.agg #[.bool (neg&&decide (0<N)),.slice a n c,.slice a' n' c'],.bool true])∧
  Fr w' (.agg #[.bool (neg&&decide (0<N)),.slice a n c,.slice a' n' c']) (neg&&decide (0<N)) (rN N D) (rD N D)∧Kept w w':=by
 refine(read_calls h hT).mono ?_
 rintro e w' ⟨p,a,n,c,a',n',c',rfl,hk,hf⟩
 have hf:=hf hs
 obtain rfl:=fr_flag hf
 rw[hs]
 exact⟨a,n,c,a',n',c',rfl,hf,hk⟩
mutual
def wellT:Tree→Prop
 | .node op arg s N D name kids=>nodeOk op arg s N D name kids.length=true∧wellTs kids
def wellTs:List Tree→Prop
 |[]=>True
 |t::ts=>wellT t∧wellTs ts
end
theorem wellTs_get{ts:List Tree}(h:wellTs ts):∀(i:Nat)(hi:i<ts.length),wellT ts[i]:=by
 induction ts with
 |nil=>intro i hi;exact absurd hi (Nat.not_lt_zero i)
 |cons t r ih=>
  intro i hi
  cases i with
  |zero=>exact h.1
  |succ i=>exact ih h.2 i (by simpa using hi)
mutual
theorem cnt_well:∀(t:Tree)(d m m':Nat),cnt t d m=some m'→wellT t
 | .node op arg s N D name kids,d,m,m'=>by
   intro h
   rw[cnt] at h
   split at h
   ·cases h
   ·rename_i hc
    refine⟨?_,cnts_well kids (d+1) (m+1) m' h⟩
    cases hn:nodeOk op arg s N D name kids.length
    ·exact absurd (.inr (.inr hn)) hc
    ·rfl
theorem cnts_well:∀(ts:List Tree)(d m m':Nat),cnts ts d m=some m'→wellTs ts
 |[],_,_,_=>fun _=>trivial
 |t::ts,d,m,m'=>by
  intro h
  rw[cnts] at h
  cases h1:cnt t d m with
  |none=>rw[h1] at h;cases h
  |some m1=>
   rw[h1] at h
   exact⟨cnt_well t d m m1 h1,cnts_well ts d m1 m' h⟩
end
theorem well_of_ok{t:Tree}(h:t.ok=true):wellT t:=by
 unfold Tree.ok at h
 obtain⟨m,hm⟩:=Option.isSome_iff_exists.1 h
 exact cnt_well t 1 0 m hm
theorem node_num{op arg:Int}{s:Bool}{N D:Nat}{name:ByteArray}{n:Nat}(h:nodeOk op arg s N D name n=true)(h1:op=1):small N D=true∧n=0:=by
 subst h1
 unfold nodeOk kidsI at h
 simp at h
 exact⟨h.2.1.1,by omega⟩
end Go.Proofs.YtbapfnpbamnmpaaGreatDoor
