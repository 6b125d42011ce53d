/- A part of the proof that ClaimFaces answers true for every input of bulk at most 1048576: conditions: the row's own. -/
import Derived.Test.YtbapfnpbamnmpaaGreatDoorGf
import Derived.Test.YtbapfnpbamnmpaaGreatDoorKa
import Derived.Test.YtbapfnpbamnmpaaGreatDoorXc
import Derived.Test.YtbapfnpbamnmpaaGreatDoorKc
import Derived.Test.YtbapfnpbamnmpaaGreatDoorWf
import Derived.Test.YtbapfnpbamnmpaaGreatDoorXa
namespace Go.Proofs.YtbapfnpbamnmpaaGreatDoor
open Go Go.RowKit Go.Dig Go.Deep
open Go.Eng (Kept KW KeptB wp_region_kw kw_call)
section
set_option maxHeartbeats 8000000
set_option maxRecDepth 100000
def ZR:Array Value:=#[.bool false,.slice none 0 0,.slice none 0 0]
theorem noLt{b:Nat}:b<0∨0≤b:=.inr (Nat.zero_le _)
theorem eownRat_fresh{w:World}{s:Bool}{a1:Option Addr}{n1 c1:Nat}{a2:Option Addr}{n2 c2 N D:Nat}(h:Rt w (.agg #[.bool s,.slice a1 n1 c1,.slice a2 n2 c2]) s N D):
 Calls Tryz.prog 247 #[.agg #[.bool s,.slice a1 n1 c1,.slice a2 n2 c2]] w fun e w'=>∃v,e= .returned v∧(∃b1 m1 d1 b2 m2 d2,v= .agg #[.bool s,.slice b1 m1 d1,.slice b2 m2 d2]∧Rt (onlyW w' (ab w.heap.size)) v s N D)∧Kept w w':=by
 obtain⟨vn,vd,hv,hn,hd⟩:=h
 have hv':=Value.agg.inj hv
 simp only[Array.mk.injEq,List.cons.injEq,and_true,true_and] at hv'
 obtain⟨rfl,rfl⟩:=hv'
 refine ent1 11 Tryz.func247 rfl Tryz.ntmps247 ?_
 iterate 3 go_step
 refine zb fun w1 g1 e1 k1 p1 s1=> ?_
 refine za ZR 24 fun w2 g2 e2 k2 p2 s2=> ?_
 replace p1:=p1.kept k2
 iterate 4 go_step
 refine drawn g2 (g2+1) fun hS=> ?_
 have K:=(k1.trans k2).trans (Kept.refl w2).drew
 have hdz:w2.drew.heap.size=w2.heap.size:=rfl
 have hlt:g1<g2:=by omega
 refine yzg 0 hS ?_
 refine yl1g 1 (p1.cell 0 rfl) (.inl hlt) hS ?_
 refine yzg 2 hS ?_
 refine yl1g 3 (p1.cell 1 rfl) (.inl hlt) hS ?_
 refine yzg 5 hS ?_
 refine yl1g 6 (p1.cell 2 rfl) (.inl hlt) hS ?_
 refine yc 4 233 _ hS (clone_fresh (hn.kept K)) fun e w3 ⟨b1,m1,d1,he,r1,k3⟩=>⟨k3,_,he,fun hS=> ?_⟩
 refine yc 7 233 _ hS (clone_fresh (hd.kept (K.trans k3))) fun e w4 ⟨b2,m2,d2,he,r2,k4⟩=>⟨k4,_,he,fun hS=> ?_⟩
 refine yr 8 (.agg #[.bool s,.slice b1 m1 d1,.slice b2 m2 d2]) hS ?_
 refine yt 9 ((p2.kept (Kept.refl w2).drew).kept (k3.trans k4)) own3 own3 (.inl ⟨Nat.le_refl _,Nat.lt_succ_self _⟩) hS fun w5 k5 p2 hS=>yend ?_
 iterate 4 go_step
 have q3:=k3.size
 have h1:Sub (onlyW w3 (ab w2.drew.heap.size)) (onlyW w5 (ab w.heap.size)):=only_move fun b hb hs=>by
  unfold ab at hs⊢
  simp only[decide_eq_true_eq] at hs⊢
  exact⟨by omega,(k5.old b (by have:=k4.size;omega) (by omega)).trans (k4.old b hb)⟩
 have h2:Sub (onlyW w4 (ab w3.heap.size)) (onlyW w5 (ab w.heap.size)):=only_move fun b hb hs=>by
  unfold ab at hs⊢
  simp only[decide_eq_true_eq] at hs⊢
  exact⟨by omega,k5.old b hb (by omega)⟩
 exact zret1 p2 own3 ⟨_,rfl,⟨_,_,_,_,_,_,rfl,_,_,rfl,r1.sub h1,r2.sub h2⟩,(((K.trans k3).trans k4)).but k5 (by omega)⟩
theorem eown_calls{w:World}{v:Value}{i:IvD}(h:Ivl w v i):Calls Tryz.prog 154 #[v] w fun e w'=>∃v',e= .returned v'∧Ivl (onlyW w' (ab w.heap.size)) v' i∧Kept w w':=by
 obtain⟨a1,n1,c1,a2,n2,c2,a3,n3,c3,a4,n4,c4,rfl,r1,r2⟩:=h
 refine ent1 13 Tryz.func154 rfl Tryz.ntmps154 ?_
 iterate 3 go_step
 refine zb fun w1 g1 e1 k1 p1 s1=> ?_
 refine za ZI 39 fun w2 g2 e2 k2 p2 s2=> ?_
 replace p1:=p1.kept k2
 iterate 4 go_step
 refine drawn g2 (g2+1) fun hS=> ?_
 have K:=(k1.trans k2).trans (Kept.refl w2).drew
 have hdz:w2.drew.heap.size=w2.heap.size:=rfl
 have hlt:g1<g2:=by omega
 refine yzg 0 hS ?_
 refine ylg 1 (V:=#[_,_,_]) (p1.part 0) (.inl hlt) own3 hS ?_
 refine yzg 3 hS ?_
 refine ylg 4 (V:=#[_,_,_]) (p1.part 3) (.inl hlt) own3 hS ?_
 refine yzg 6 hS ?_
 refine yl1g 7 (p1.cell 6 rfl) (.inl hlt) hS ?_
 refine yzg 8 hS ?_
 refine yl1g 9 (p1.cell 7 rfl) (.inl hlt) hS ?_
 refine yc 2 247 _ hS (eownRat_fresh (r1.kept K)) fun e w3 ⟨v3,he,⟨b1,m1,d1,b2,m2,d2,hv3,x1⟩,k3⟩=>⟨k3,_,he,fun hS=> ?_⟩
 subst hv3
 refine yc 5 247 _ hS (eownRat_fresh (r2.kept (K.trans k3))) fun e w4 ⟨v4,he,⟨b3,m3,d3,b4,m4,d4,hv4,x2⟩,k4⟩=>⟨k4,_,he,fun hS=> ?_⟩
 subst hv4
 refine yr 10 (.agg #[.bool i.s1,.slice b1 m1 d1,.slice b2 m2 d2,.bool i.s2,.slice b3 m3 d3,.slice b4 m4 d4,.bool i.li,.bool i.hi]) hS ?_
 refine yt 11 ((p2.kept (Kept.refl w2).drew).kept (k3.trans k4)) own39 own39 (.inl ⟨Nat.le_refl _,Nat.lt_succ_self _⟩) hS fun w5 k5 p2 hS=>yend ?_
 iterate 4 go_step
 have q3:=k3.size
 have h1:Sub (onlyW w3 (ab w2.drew.heap.size)) (onlyW w5 (ab w.heap.size)):=only_move fun b hb hs=>by
  unfold ab at hs⊢
  simp only[decide_eq_true_eq] at hs⊢
  exact⟨by omega,(k5.old b (by have:=k4.size;omega) (by omega)).trans (k4.old b hb)⟩
 have h2:Sub (onlyW w4 (ab w3.heap.size)) (onlyW w5 (ab w.heap.size)):=only_move fun b hb hs=>by
  unfold ab at hs⊢
  simp only[decide_eq_true_eq] at hs⊢
  exact⟨by omega,k5.old b hb (by omega)⟩
 exact zret1 p2 own39 ⟨_,rfl,⟨_,_,_,_,_,_,_,_,_,_,_,_,rfl,x1.sub h1,x2.sub h2⟩,(((K.trans k3).trans k4)).but k5 (by omega)⟩
theorem eindex1_calls{w:World}{bx:Nat}{nm nk:ByteArray}(hb:w.cell? ⟨bx,0,none⟩=some (.string nm))(s1:Bool)(a1:Option Addr)(n1 c1:Nat)(a2:Option Addr)(n2 c2:Nat)(s2:Bool)(a3:Option Addr)(n3 c3:Nat)(a4:Option Addr)(n4 c4:Nat)(p q:Bool):
 Calls Tryz.prog 246 #[.agg #[.string nk,.bool s1,.slice a1 n1 c1,.slice a2 n2 c2,.bool s2,.slice a3 n3 c3,.slice a4 n4 c4,.bool p,.bool q],.pointer (some ⟨bx,0,none⟩)] w fun e w'=>e= .returned (.bool (nk.toList==nm.toList))∧Kept w w':=by
 have hk:Kept w (w.alloc (.cells #[.string nk,.bool s1,.slice a1 n1 c1,.slice a2 n2 c2,.bool s2,.slice a3 n3 c3,.slice a4 n4 c4,.bool p,.bool q] 41)):=(Kept.refl w).alloc _
 have h0:=hk.cell hb
 go_enter Tryz.func246,Tryz.ntmps246
 go_wp2
 go_ret
 exact⟨rfl,hk⟩
theorem eindexside_calls{w:World}{a:Option Addr}{n cap:Nat}{l:List SideD}(h:Bxm w a n cap l){bx:Nat}{nm:ByteArray}(hb:w.cell? ⟨bx,0,none⟩=some (.string nm)):
 Calls Tryz.prog 227 #[.slice a n cap,.func (.func 246) #[] #[.pointer (some ⟨bx,0,none⟩)]] w fun e w'=>e= .returned (.int .i64 (sideAt l 0 nm))∧Kept w w':=by
 obtain rfl:n=l.length:=h.1
 have hbd:l.length<4611686018427387904:=h.2.2.1
 refine entL [_,_] 19 Tryz.func227 rfl Tryz.ntmps227 (by simp) ?_
 iterate 3 go_step
 refine zz ?_
 iterate 6 go_step
 refine zz ?_
 refine zr (.int .i64 l.length) ?_
 refine zz ?_
 iterate 4 go_step
 refine zloop l.length (fun k=>[(0,.slice a l.length cap),(1,.func (.func 246) #[] #[.pointer (some ⟨bx,0,none⟩)]),(7,.int .i64 l.length),(8,.int .i64 k)]) (fun k W=>sideAt (l.drop k) k nm=sideAt l 0 nm∧Kept w W) ⟨rfl,rfl,rfl,rfl,trivial⟩ ⟨rfl,Kept.refl w⟩ fun fl wr k hk ⟨ht,K⟩=> ?_
 iterate 3 go_step
 refine z2 (.bool (decide ((k:Int)<(l.length:Int)))) ?_
 iterate 4 go_step
 cases hlt:decide ((k:Int)<(l.length:Int))
 case' false=>
  obtain rfl:k=l.length:=by have:=of_decide_eq_false hlt;omega
  refine zt_false ?_
  iterate 7 go_step
  refine zz ?_
  iterate 5 go_step
  exact zretT ⟨by rw[←ht,sideAt_end],K⟩
 have hlt:k<l.length:=by have:=of_decide_eq_true hlt;omega
 obtain⟨b,off,a1,n1,c1,a2,n2,c2,a3,n3,c3,a4,n4,c4,rfl,rV,-,-⟩:=h.row hlt
 refine zt_true ?_
 iterate 7 go_step
 refine zz ?_
 refine zz ?_
 iterate 5 go_step
 refine zz ?_
 refine zz ?_
 refine zz ?_
 refine zi (s:=9) k hlt ?_
 refine zl (V:=#[_,_,_,_,_,_,_,_,_]) ((Kept.sub K).range rV) own41 ?_
 refine zc 246 _ (eindex1_calls (nk:=l[k].name) (K.cell hb) l[k].iv.s1 a1 n1 c1 a2 n2 c2 l[k].iv.s2 a3 n3 c3 a4 n4 c4 l[k].iv.li l[k].iv.hi) ?_
 rintro e w1 ⟨rfl,k1⟩
 refine⟨_,rfl,?_⟩
 iterate 3 go_step
 have hs:=sideAt_drop hlt nm
 cases hq:(l[k].name.toList==nm.toList)
 case' true=>
  refine zt_true ?_
  iterate 2 go_step
  refine zz ?_
  refine zz ?_
  iterate 8 go_step
  exact zretT ⟨by rw[←ht,hs,hq,if_pos rfl],K.trans k1⟩
 refine zt_false ?_
 iterate 4 go_step
 refine z2 (.int .i64 ((k+1:Nat):Int)) (hrun:=run_inc (by omega)) ?_
 refine zz ?_
 iterate 3 go_step
 exact⟨_,rfl,hlt,⟨rfl,rfl,rfl,rfl,trivial⟩,by rw[←ht,hs,hq];rfl,K.trans k1⟩
theorem eindex_calls{w:World}{a:Option Addr}{n cap:Nat}{l:List SideD}(h:Bxm w a n cap l)(nm:ByteArray):Calls Tryz.prog 153 #[.slice a n cap,.string nm] w fun e w'=>e= .returned (.int .i64 (sideAt l 0 nm))∧Kept w w':=by
 have hk:Kept w (w.alloc (.cells #[.string nm] 9)):=(Kept.refl w).alloc _
 have hcl:=eindexside_calls (h.kept hk) (bx:=w.heap.size) (nm:=nm) (Blk.new w #[.string nm] 9).facts1.1
 have hmf:∀(fn:Fn)(first cap:Array Value)(w:World),(Instr.makeFunc fn first cap).run Tryz.prog w= .ok (.func fn first cap) w:=fun _ _ _ _=>rfl
 go_enter Tryz.func153,Tryz.ntmps153
 go_wp2_with(go_at_call 227;refine hcl.mono ?_;rintro e w1 ⟨rfl,hk1⟩)
 go_ret
 exact⟨rfl,hk.trans hk1⟩
theorem efind_calls{w:World}{a:Option Addr}{n cap:Nat}{l:List SideD}(h:Bxm w a n cap l)(nm:ByteArray){k:Nat}(hk:k<l.length)(hs:sideAt l 0 nm=(k:Int)):
 Calls Tryz.prog 79 #[.slice a n cap,.string nm] w fun e w'=>∃v',e= .returned (.tuple #[v',.bool true])∧Ivl (onlyW w' (ab w.heap.size)) v' l[k].iv∧Kept w w':=by
 obtain rfl:n=l.length:=h.1
 obtain⟨b,off,a1,n1,c1,a2,n2,c2,a3,n3,c3,a4,n4,c4,rfl,rV,r1,r2⟩:=h.row hk
 have hv:Ivl w (.agg #[.bool l[k].iv.s1,.slice a1 n1 c1,.slice a2 n2 c2,.bool l[k].iv.s2,.slice a3 n3 c3,.slice a4 n4 c4,.bool l[k].iv.li,.bool l[k].iv.hi]) l[k].iv:=⟨_,_,_,_,_,_,_,_,_,_,_,_,rfl,r1,r2⟩
 refine entL [_,_] 19 Tryz.func79 rfl Tryz.ntmps79 (by simp) ?_
 iterate 3 go_step
 refine za ZI 39 fun w1 g1 e1 k1 p1 s1=> ?_
 refine zz ?_
 iterate 5 go_step
 refine zz ?_
 refine zz ?_
 refine zc 153 _ (eindex_calls (h.kept k1) nm) ?_
 rintro e w2 ⟨rfl,k2⟩
 rw[hs]
 refine⟨_,rfl,?_⟩
 refine zz ?_
 iterate 6 go_step
 refine zz ?_
 refine z2 (.bool (decide ((k:Int)<0))) ?_
 iterate 3 go_step
 rw[show decide ((k:Int)<0)=false from decide_eq_false (by omega)]
 refine zt_false ?_
 iterate 5 go_step
 refine zz ?_
 refine zz ?_
 refine zi (s:=9) k hk ?_
 refine zz ?_
 have hr:(w2.rangeAt b (off+k*9+1) [.bool l[k].iv.s1,.slice a1 n1 c1,.slice a2 n2 c2,.bool l[k].iv.s2,.slice a3 n3 c3,.slice a4 n4 c4,.bool l[k].iv.li,.bool l[k].iv.hi]):=fun j v hv=>by
  have:=(k1.trans k2).cell (rV (j+1) v hv)
  rwa [show off+k*9+(j+1)=off+k*9+1+j by omega] at this
 refine zl (V:=#[_,_,_,_,_,_,_,_]) hr own39 ?_
 refine zc 154 _ (eown_calls (hv.kept (k1.trans k2))) ?_
 rintro e w3 ⟨v',rfl,hv',k3⟩
 refine⟨_,rfl,?_⟩
 obtain⟨b1,m1,d1,b2,m2,d2,b3,m3,d3,b4,m4,d4,rfl,x1,x2⟩:=hv'
 refine zt ((p1.kept k2).kept k3) own39 own39 fun w4 k4 p1=> ?_
 refine zz ?_
 iterate 5 go_step
 have q:=(k1.trans k2).size
 have q2:=k2.size
 have hm:Sub (onlyW w3 (ab w2.heap.size)) (onlyW w4 (ab w.heap.size)):=only_move fun b hb hs=>by
  unfold ab at hs⊢
  simp only[decide_eq_true_eq] at hs⊢
  exact⟨by omega,k4.old b hb (by omega)⟩
 exact zret1b (v:=.bool true) p1 own39 ⟨_,rfl,⟨_,_,_,_,_,_,_,_,_,_,_,_,rfl,x1.sub hm,x2.sub hm⟩,((k1.trans k2).trans k3).but k4 (by omega)⟩
end
section
set_option maxHeartbeats 8000000
set_option maxRecDepth 100000
def zpad(zs:Nat→Nat)(n:Nat):Nat→Nat:=fun i=>if i<n then zs i else 0
theorem val_zpad(zs:Nat→Nat)(n:Nat):∀d,val 65536 (zpad zs n) (n+d)=val 65536 zs n
 |0=>val_congr fun i hi=>by unfold zpad;rw[if_pos (by omega)]
 |d+1=>by
  show val 65536 (zpad zs n) (n+d)+zpad zs n (n+d)*65536^(n+d)=_
  rw[val_zpad zs n d]
  unfold zpad
  rw[if_neg (by omega)]
  omega
structure LsI(zs:Nat→Nat)(n k:Nat)(xs:Nat→Nat):Prop where
 lt:∀i,i<k→xs i<4294967296
 eq:val 4294967296 xs k=val 65536 (zpad zs n) (2*k)
theorem zpad_lt{zs:Nat→Nat}{n:Nat}(hz:∀i,i<n→zs i<65536)(i:Nat):zpad zs n i<65536:=by
 unfold zpad
 split
 ·exact hz i ‹_›
 ·decide
theorem LsI.step{zs xs:Nat→Nat}{n k:Nat}(h:LsI zs n k xs)(hz:∀i,i<n→zs i<65536):LsI zs n (k+1) (cat xs k fun _=>zpad zs n (2*k)+zpad zs n (2*k+1)*65536):=by
 have a:=zpad_lt hz (2*k)
 have b:=zpad_lt hz (2*k+1)
 have e:cat xs k (fun _=>zpad zs n (2*k)+zpad zs n (2*k+1)*65536) k=zpad zs n (2*k)+zpad zs n (2*k+1)*65536:=by simp[cat]
 refine⟨fun i hi=> ?_,?_⟩
 ·by_cases h1:i<k
  ·simp only[cat,if_pos h1];exact h.lt i h1
  ·rw[show i=k by omega,e];omega
 ·rw[show 2*(k+1)=2*k+1+1 by omega]
  simp only[val]
  rw[e,val_congr (ys:=xs) fun i hi=>by simp[cat,hi],h.eq,pow_two32,Nat.pow_succ]
  generalize zpad zs n (2*k)=x
  generalize zpad zs n (2*k+1)=y
  generalize 65536^(2*k)=P
  grind
section
variable{n:Nat}{l:Fm}{ops:Array Oper}{rest:List Oper}{Q:Exit→Act→World→Prop}{w w0:World}
theorem zword{st k x:Nat}{v:Value}{xs:Nat→Nat}{ob oa:Oper}{db da s:Tmp}(hst:Tryz.prog.underlying st=some (.slice 191))(hk:Kept w0 w)(hap:Ap w w0.heap.size v k xs)(hkb:k+1≤1099511627776)
 (hbs:(execOp (ev n l) ob).run Tryz.prog w= .ok (.value (.slice (some ⟨w.heap.size,0,none⟩) 1 1)) (w.alloc (.cells #[.int .u32 (x:Int)] 191)))
 (h:∀v' w',Ap w' w0.heap.size v' (k+1) (cat xs k fun _=>x)→Kept w0 w'→wpList Tryz.prog ops Q rest (frm n (upd (upd l db (.slice (some ⟨w.heap.size,0,none⟩) 1 1)) da v')) w')
 (hg1:ob.guard=none:=by rfl)(hd1:ob.dst=some db:=by rfl)
 (hop2:oa.op= .call {callee:=.builtin .append,args:=#[.tmp s,.tmp db],argTypes:=#[st,st]}∧oa.guard=none∧oa.dst=some da:=by exact⟨rfl,rfl,rfl⟩)
 (hs:opv n l (.tmp s)=some v:=by rfl)(hne:s≠db∧db<n:=by decide):wpList Tryz.prog ops Q (ob::oa::rest) (frm n l) w:=by
 obtain⟨n1,n4⟩:=hne
 refine zv _ (by rw[frm_eval];exact hbs) hg1 hd1 ?_
 have es:opv n (upd l db (.slice (some ⟨w.heap.size,0,none⟩) 1 1)) (.tmp s)=some v:=by
  rw[←hs];simp only[opv,upd,beq_no n1];rfl
 have eb:opv n (upd l db (.slice (some ⟨w.heap.size,0,none⟩) 1 1)) (.tmp db)=some (.slice (some ⟨w.heap.size,0,none⟩) 1 1):=by
  simp only[opv,upd,Nat.beq_refl,cond_true,show Nat.blt db n=true from Nat.ble_eq_true_of_le n4]
 have hws:Ws (w.alloc (.cells #[.int .u32 (x:Int)] 191)) (some ⟨w.heap.size,0,none⟩) 1 (fun _=>x):=fun i hi=>⟨w.heap.size,0,rfl,by
  obtain rfl:i=0:=by omega
  exact(Blk.new w #[.int .u32 (x:Int)] 191).cell 0 rfl⟩
 refine wpList_append_words hop2.2.1 (.tmp s) (.tmp db) st hop2.1 hst w0 (hk.alloc _) v k xs (opv_eval es) (hap.alloc _) ⟨w.heap.size,0,none⟩ 1 1 _ (opv_eval eb) hws hkb fun v' w' h1 h2=> ?_
 rw[hop2.2.2,frm_put]
 exact h v' w' h1 h2
end
theorem run_mul16{x:Nat}{xt:TypeId}{a b:Operand}{w:World}(h:x<65536):(do eqGuard .mul xt a b (.int .u32 (x:Int)) (.int .u32 65536);binOp .mul xt (.int .u32 (x:Int)) (.int .u32 65536):Sem Value).run Tryz.prog w= .ok (.int .u32 ((x*65536:Nat):Int)) w:=by
 go_simp
 rw[IntKind.wrap_u32]
 omega
theorem run_add32{x y:Nat}{xt:TypeId}{a b:Operand}{w:World}(h:x+y<4294967296):(do eqGuard .add xt a b (.int .u32 (x:Int)) (.int .u32 (y:Int));binOp .add xt (.int .u32 (x:Int)) (.int .u32 (y:Int)):Sem Value).run Tryz.prog w= .ok (.int .u32 ((x+y:Nat):Int)) w:=by
 go_simp
 rw[IntKind.wrap_u32]
 omega
theorem run_addN{j k:Nat}{xt:TypeId}{x y:Operand}{w:World}(h:j+k<4611686018427387904):(do eqGuard .add xt x y (.int .i64 (j:Int)) (.int .i64 (k:Int));binOp .add xt (.int .i64 (j:Int)) (.int .i64 (k:Int)):Sem Value).run Tryz.prog w= .ok (.int .i64 ((j+k:Nat):Int)) w:=by
 go_simp
 rw[IntKind.wrap_i64]
 omega
theorem list_calls{w:World}{v:Value}{m:Nat}(h:Nt 65536 w v m)(hm:m<Sm):Calls Tryz.prog 162 #[v] w fun e w'=>∃a n cap,e= .returned (.slice a n cap)∧Raw (onlyW w' (ab w.heap.size)) (.slice a n cap) m∧Kept w w':=by
 obtain⟨a0,n0,cap0,rfl⟩:∃a n cap,v= .slice a n cap:=by obtain⟨a,n,cap,_,e,_⟩:=h;exact⟨a,n,cap,e⟩
 have hn:n0≤500:=((nt_len h).2 500).2 (Nat.lt_of_lt_of_le hm (by rw[pwr16 500 8000 rfl];exact pwr_le 7000 8000 (by decide)))
 obtain⟨a,n,cap,zs,e,hc,hz,hnm,rfl,hw⟩:=h
 cases e
 clear hm hnm
 refine ent1 33 Tryz.func162 rfl Tryz.ntmps162 ?_
 iterate 3 go_step
 refine zz ?_
 iterate 5 go_step
 refine zz ?_
 iterate 6 go_step
 refine zz ?_
 iterate 4 go_step
 refine zloopG (σ:=Value×(Nat→Nat)) ((n0+1)/2) (fun k s=>[(0,.slice a0 n0 cap0),(3,s.1),(4,.int .i64 ((2*k:Nat):Int))]) (fun k s W=>LsI zs n0 k s.2∧Ap W w.heap.size s.1 k s.2∧Kept w W) (.slice none 0 0,fun _=>0) ⟨rfl,rfl,rfl,trivial⟩ ⟨⟨fun _ h=>absurd h (Nat.not_lt_zero _),rfl⟩,Ap.nil _ _ _,Kept.refl w⟩
  fun fl wr k ⟨ov,xs⟩ hk ⟨hL,hap,K⟩=> ?_
 iterate 4 go_step
 refine zz ?_
 refine zz ?_
 refine zr (.int .i64 n0) ?_
 refine z2 (.bool (decide (((2*k:Nat):Int)<(n0:Int)))) ?_
 iterate 3 go_step
 cases hlt:decide (((2*k:Nat):Int)<(n0:Int))
 case' false=>
  have hlt:n0≤2*k:=by have:=of_decide_eq_false hlt;omega
  refine zt_false ?_
  iterate 7 go_step
  refine zz ?_
  refine zz ?_
  iterate 5 go_step
  obtain⟨a',cap',rfl,hc',hw'⟩:=hap.wsAb
  refine zretT ⟨_,_,_,rfl,⟨_,_,_,xs,rfl,hc',by omega,hL.lt,?_,hw'⟩,K⟩
  rw[hL.eq,show 2*k=n0+(2*k-n0) by omega,val_zpad]
 have hlt:2*k<n0:=by have:=of_decide_eq_true hlt;omega
 obtain⟨b,off,rfl,h0⟩:=(hw.kept K) (2*k) hlt
 have y0':=hz _ hlt
 refine zt_true ?_
 iterate 7 go_step
 refine zz ?_
 refine zz ?_
 refine zi (s:=1) (2*k) hlt ?_
 refine zl1 (x:=.int .u32 (zs (2*k):Int)) (o:=off+2*k*1) (by rw[Nat.mul_one];exact h0) ?_
 refine zz ?_
 iterate 6 go_step
 refine zz ?_
 refine z2 (.int .i64 ((2*k+1:Nat):Int)) (hrun:=run_inc (by omega)) ?_
 refine zz ?_
 refine zr (.int .i64 n0) ?_
 refine z2 (.bool (decide (((2*k+1:Nat):Int)<(n0:Int)))) ?_
 iterate 3 go_step
 have hx0:zpad zs n0 (2*k)=zs (2*k):=if_pos hlt
 have y1:=zpad_lt hz (2*k+1)
 refine zif [(0,.slice (some ⟨b,off,none⟩) n0 cap0),(3,ov),(4,.int .i64 ((2*k:Nat):Int)),(5,.int .u32 ((zpad zs n0 (2*k)+zpad zs n0 (2*k+1)*65536:Nat):Int))] (fun Q' hQ=> ?_) (fun fl=> ?_)
 ·cases h1:decide (((2*k+1:Nat):Int)<(n0:Int))
  ·have h1:¬2*k+1<n0:=by have:=of_decide_eq_false h1;omega
   refine zt_false ?_
   iterate 2 go_step
   refine⟨rfl,rfl,rfl,?_,trivial⟩
   rw[hx0,show zpad zs n0 (2*k+1)=0 from if_neg h1]
   rfl
  ·have h1:2*k+1<n0:=by have:=of_decide_eq_true h1;omega
   obtain⟨b',off',e,h2⟩:=(hw.kept K) (2*k+1) h1
   cases e
   have y2:=hz _ h1
   refine zt_true ?_
   go_step
   refine zz ?_
   refine zz ?_
   refine zz ?_
   refine z2 (.int .i64 ((2*k+1:Nat):Int)) (hrun:=run_inc (by omega)) ?_
   refine zi (s:=1) (2*k+1) h1 ?_
   refine zl1 (x:=.int .u32 (zs (2*k+1):Int)) (o:=off+(2*k+1)*1) (by rw[Nat.mul_one];exact h2) ?_
   refine z2 (.int .u32 ((zs (2*k+1)*65536:Nat):Int)) (hrun:=run_mul16 y2) ?_
   refine z2 (.int .u32 ((zs (2*k)+zs (2*k+1)*65536:Nat):Int)) (hrun:=run_add32 (by omega)) ?_
   refine zz ?_
   iterate 2 go_step
   refine⟨rfl,rfl,rfl,?_,trivial⟩
   rw[hx0,show zpad zs n0 (2*k+1)=zs (2*k+1) from if_pos h1]
   rfl
 iterate 3 go_step
 refine zz ?_
 refine zz ?_
 refine zword (x:=zpad zs n0 (2*k)+zpad zs n0 (2*k+1)*65536) Tryz.underlying22 K hap (by omega) (by kernel_rfl) fun v' w' hap K=> ?_
 refine zz ?_
 iterate 4 go_step
 refine zz ?_
 refine z2 (.int .i64 ((2*(k+1):Nat):Int)) (hrun:=run_addN (j:=2*k) (k:=2) (by omega)) ?_
 refine zz ?_
 iterate 3 go_step
 exact⟨_,(v',_),rfl,by omega,⟨rfl,rfl,rfl,trivial⟩,hL.step hz,hap,K⟩
theorem nt_whole{w:World}{a:Option Addr}{n c d:Nat}(h:Nt 65536 w (.slice a n c) d):(n=0↔d=0)∧(n=1→∃b off,a=some ⟨b,off,none⟩∧w.cell? ⟨b,off,none⟩=some (.int .u32 (d:Int)))∧(2≤n→2≤d):=by
 have hl:=nt_len h
 obtain⟨a',n',c',zs,e,hc,hz,hnm,rfl,hw⟩:=h
 cases e
 refine⟨hl.1.symm,fun h1=> ?_,fun h2=> ?_⟩
 ·subst h1
  obtain⟨b,off,rfl,hcell⟩:=hw 0 (by omega)
  exact⟨b,off,rfl,by simpa [val] using hcell⟩
 ·have:=mt (hl.2 1).2 (by omega:¬n≤1)
  omega
theorem whole_calls{w:World}{v:Value}{neg:Bool}{n d:Nat}(h:Qv w v neg n d):Calls Tryz.prog 163 #[v] w fun e w'=>e= .returned (.bool (decide (d≤1)))∧Kept w w':=by
 obtain⟨vn,vd,rfl,hn,hd⟩:=h
 obtain⟨a,m,c,rfl⟩:∃a n cap,vn= .slice a n cap:=by obtain⟨a,n,cap,_,e,_⟩:=hn;exact⟨a,n,cap,e⟩
 obtain⟨a',m',c',rfl⟩:∃a n cap,vd= .slice a n cap:=by obtain⟨a,n,cap,_,e,_⟩:=hd;exact⟨a,n,cap,e⟩
 obtain⟨h0,h1,h2⟩:=nt_whole hd
 have hres:Hid ((m'=0→decide (d≤1)=true)∧(2≤m'→decide (d≤1)=false)∧(m'=1→decide (d≤1)=((d:Int)==1))):=by
  refine Lib.hid ⟨fun h=>decide_eq_true (by have:=h0.1 h;omega),fun h=>decide_eq_false (by have:=h2 h;omega),fun h=> ?_⟩
  have:d≠0:=fun e=>by have:=h0.2 e;omega
  rw[Bool.eq_iff_iff]
  simp only[beq_iff_eq,decide_eq_true_eq]
  omega
 have hk:Kept w (w.alloc (.cells #[.bool neg,.slice a m c,.slice a' m' c'] 97)):=(Kept.refl w).alloc _
 obtain⟨e0,e1,e2,-⟩:=(Blk.new w #[.bool neg,.slice a m c,.slice a' m' c'] 97).facts3
 have H1:=Lib.hid h1
 generalize decide (d≤1)=r at*
 clear hn hd h0 h2 h1
 by_cases t0:m'=0
 ·have t1:((m':Int)==0)=true:=by simp[t0]
  have HT:=Lib.hid t0
  clear t0
  go_enter Tryz.func163,Tryz.ntmps163
  go_wp2
  go_ret
  exact⟨by rw[hres.out.1 HT.out];first|done|rfl,hk⟩
 have t2:((m':Int)==0)=false:=by simp[t0]
 by_cases t1:m'=1
 ·have t3:((m':Int)==1)=true:=by simp[t1]
  obtain⟨b,off,rfl,hcell⟩:=H1.out t1
  replace hcell:=hk.cell hcell
  have HT:=Lib.hid t1
  have hlt:0<m':=by omega
  clear t1 t0
  go_enter Tryz.func163,Tryz.ntmps163
  go_wp2
  go_ret
  exact⟨by rw[hres.out.2.2 HT.out];first|done|rfl,hk⟩
 have t3:((m':Int)==1)=false:=by rw[beq_eq_false_iff_ne];omega
 have HL:=Lib.hid (show 2≤m' by omega)
 clear t0 t1
 go_enter Tryz.func163,Tryz.ntmps163
 go_wp2
 go_ret
 exact⟨by rw[hres.out.2.1 HL.out];first|done|rfl,hk⟩
end
section
set_option maxHeartbeats 8000000
set_option maxRecDepth 100000
theorem nt_slice{B:Nat}{w:World}{v:Value}{m:Nat}(h:Nt B w v m):∃a n c,v= .slice a n c:=by obtain⟨a,n,cap,_,e,_⟩:=h;exact⟨a,n,cap,e⟩
theorem raw_nil(W:World):Raw W (.slice none 0 0) 0:=⟨none,0,0,fun _=>0,rfl,Nat.le_refl _,by omega,fun _ h=>absurd h (Nat.not_lt_zero _),rfl,fun _ h=>absurd h (Nat.not_lt_zero _)⟩
theorem rat_calls{w:World}{v:Value}{neg:Bool}{n d:Nat}(h:Qv w v neg n d)(hn:n<Sm)(hd:d<Sm):
 Calls Tryz.prog 85 #[v] w fun e w'=>∃a1 n1 c1 a2 n2 c2,e= .returned (.agg #[.bool (neg&&decide (0<n)),.slice a1 n1 c1,.slice a2 n2 c2])∧Rt (onlyW w' (ab w.heap.size)) (.agg #[.bool (neg&&decide (0<n)),.slice a1 n1 c1,.slice a2 n2 c2]) (neg&&decide (0<n)) n (if d≤1 then 0 else d)∧Kept w w':=by
 have hwh:=fun(w':World)(k:Kept w w')=>whole_calls (h.kept k)
 obtain⟨vn,vd,rfl,qn,qd⟩:=h
 obtain⟨a,m,c,rfl⟩:=nt_slice qn
 obtain⟨a',m',c',rfl⟩:=nt_slice qd
 have hm:decide (0<(m:Int))=decide (0<n):=by
  have:=(nt_len qn).1
  rw[Bool.eq_iff_iff]
  simp only[decide_eq_true_eq]
  omega
 refine ent1 23 Tryz.func85 rfl Tryz.ntmps85 ?_
 iterate 3 go_step
 refine zb fun w1 g1 e1 k1 b1 s1=> ?_
 refine za ZR 24 fun w2 g2 e2 k2 b2 s2=> ?_
 replace b1:=b1.kept k2
 have K:=k1.trans k2
 have k12:=k1.trans k2
 clear k1 k2
 iterate 4 go_step
 refine zregJ (σ:=Nat×Option Addr×Nat×Nat) (fun s=>[(1,.pointer (some ⟨g1,0,none⟩)),(2,.pointer (some ⟨g2,0,none⟩)),(3,.pointer (some ⟨s.1,0,none⟩))])
  (fun s W=>Kept w W∧s.1<W.heap.size∧w2.heap.size≤s.1∧Raw (onlyW W (abx w2.heap.size s.1)) (.slice s.2.1 s.2.2.1 s.2.2.2) n∧Blk W g1 #[.bool neg,.slice a m c,.slice a' m' c'] 97∧Blk W g2 ZR 24∧Blk W s.1 #[.bool (neg&&decide (0<n)),.slice s.2.1 s.2.2.1 s.2.2.2,.slice none 0 0] 24)
  (fun Q hp hj=> ?_) (fun ⟨g3,x1,x2,x3⟩ fl W0 ⟨K,hlt,hg,hr,b1,b2,b3⟩=> ?_)
 ·refine drawn 0 0 fun hS=> ?_
  have kd:=K.trans (Kept.refl w2).drew
  have hdz:w2.drew.heap.size=w2.heap.size:=rfl
  have hb1:=b1.lt
  have hb2:=b2.lt
  have hq:=k12.size
  refine yzg 0 hS ?_ (hQ:=fun c a w=>hp c a _ w)
  refine yl1g 1 (b1.cell 0 rfl) noLt hS ?_ (hQ:=fun c a w=>hp c a _ w)
  refine yzg 2 hS ?_ (hQ:=fun c a w=>hp c a _ w)
  cases neg
  ·refine yzs [3,4,5,6,7,8] hS ?_ (hQ:=hp)
   refine yl1g 9 (b1.cell 1 rfl) noLt hS ?_ (hQ:=fun c a w=>hp c a _ w)
   refine yca1 10 12 11 (P:=fun S v W=>∃x1 x2 x3,v= .slice x1 x2 x3∧Raw (onlyW W S) (.slice x1 x2 x3) n) (fun v=>.agg #[.bool false,v,.slice none 0 0]) 162 _ ZR 24 hS (fun W k=>(list_calls (qn.kept (kd.trans k)) hn).mono ?_) (fun S S' v W W' h k=> ?_) (fun W g3 v hg hg' kW b3 hP lW=> ?_) ?_ (hQ:=fun c v a w=>hp c a _ w)
   ·rintro e w' ⟨x1,x2,x3,rfl,hr,hk⟩
    exact⟨_,rfl,⟨_,_,_,rfl,hr⟩,hk⟩
   ·obtain⟨x1,x2,x3,rfl,hr⟩:=h
    exact⟨_,_,_,rfl,hr.sub k⟩
   ·obtain⟨x1,x2,x3,rfl,hr⟩:=hP
    refine yt 13 b3 own3 own3 (.inr hg) lW fun W0 kb b3 _=>yend ?_
    exact hj (g3,x1,x2,x3) _ _ ⟨rfl,rfl,rfl,trivial⟩ ⟨(kd.trans kW).but kb (by omega),by have:=kb.size;show g3<_;omega,hg,hr.sub (abx_but (M:=w2.drew.heap.size) kb),(b1.kept ((Kept.refl w2).drew.trans kW)).keptB kb (by omega),(b2.kept ((Kept.refl w2).drew.trans kW)).keptB kb (by omega),b3⟩
   ·rintro S v W ⟨x1,x2,x3,rfl,-⟩ l' (rfl|⟨p,rfl⟩) W'<;>kernel_rfl
  ·refine yzg 3 hS ?_ (hQ:=fun c a w=>hp c a _ w)
   refine yl1g 4 (b1.cell 1 rfl) noLt hS ?_ (hQ:=fun c a w=>hp c a _ w)
   refine yrg 5 (.int .i64 m) hS ?_ (hrun:=fun _ _=>by kernel_rfl) (hQ:=fun c a w=>hp c a _ w)
   refine y2g 6 (.bool (decide (0<(m:Int)))) hS ?_ (hQ:=fun c a w=>hp c a _ w)
   rw[hm]
   refine yzs [7,8] hS ?_ (hQ:=hp)
   refine yl1g 9 (b1.cell 1 rfl) noLt hS ?_ (hQ:=fun c a w=>hp c a _ w)
   refine yca1 10 12 11 (P:=fun S v W=>∃x1 x2 x3,v= .slice x1 x2 x3∧Raw (onlyW W S) (.slice x1 x2 x3) n) (fun v=>.agg #[.bool (decide (0<n)),v,.slice none 0 0]) 162 _ ZR 24 hS (fun W k=>(list_calls (qn.kept (kd.trans k)) hn).mono ?_) (fun S S' v W W' h k=> ?_) (fun W g3 v hg hg' kW b3 hP lW=> ?_) ?_ (hQ:=fun c v a w=>hp c a _ w)
   ·rintro e w' ⟨x1,x2,x3,rfl,hr,hk⟩
    exact⟨_,rfl,⟨_,_,_,rfl,hr⟩,hk⟩
   ·obtain⟨x1,x2,x3,rfl,hr⟩:=h
    exact⟨_,_,_,rfl,hr.sub k⟩
   ·obtain⟨x1,x2,x3,rfl,hr⟩:=hP
    refine yt 13 b3 own3 own3 (.inr hg) lW fun W0 kb b3 _=>yend ?_
    exact hj (g3,x1,x2,x3) _ _ ⟨rfl,rfl,rfl,trivial⟩ ⟨(kd.trans kW).but kb (by omega),by have:=kb.size;show g3<_;omega,hg,hr.sub (abx_but (M:=w2.drew.heap.size) kb),(b1.kept ((Kept.refl w2).drew.trans kW)).keptB kb (by omega),(b2.kept ((Kept.refl w2).drew.trans kW)).keptB kb (by omega),b3⟩
   ·rintro S v W ⟨x1,x2,x3,rfl,-⟩ l' (rfl|⟨p,rfl⟩) W'<;>kernel_rfl
 simp only at hlt hg hr b3
 have kd:=K.size
 have kd2:=k12.size
 iterate 5 go_step
 refine zl b1.range own97 ?_
 refine zc 163 _ (hwh _ K) ?_
 rintro e w3 ⟨rfl,k3⟩
 have q3:=k3.size
 refine⟨_,rfl,?_⟩
 refine zz ?_
 iterate 3 go_step
 replace hr:=hr.sub (only_keep k3)
 replace b3:=b3.kept k3
 cases hd1:decide (d≤1)
 case' false=>
  have hd1:¬d≤1:=of_decide_eq_false hd1
  refine zt_true ?_
  go_step
  refine zz ?_
  refine zl1 ((b1.kept k3).cell 2 rfl) ?_
  refine zc 162 _ (list_calls (qd.kept (K.trans k3)) hd) ?_
  rintro e w4 ⟨y1,y2,y3,rfl,hy,k4⟩
  have q4:=k4.size
  refine⟨_,rfl,?_⟩
  refine zz ?_
  refine zt1 (i:=2) (b3.kept k4) (by simp) rfl fun w5 k5 b5=> ?_
  iterate 5 go_step
  have hR:Rt (onlyW w5 (abx w2.heap.size g3)) (.agg #[.bool (neg&&decide (0<n)),.slice x1 x2 x3,.slice y1 y2 y3]) (neg&&decide (0<n)) n (if d≤1 then 0 else d):=⟨_,_,rfl,hr.sub ((only_keep k4).trans (abx_but k5)),by
   rw[if_neg hd1]
   exact hy.sub (only_move fun b hb hs=>by
    unfold ab at hs
    unfold abx
    simp only[decide_eq_true_eq] at hs
    simp only[Bool.and_eq_true,decide_eq_true_eq,bne_iff_ne]
    exact⟨⟨by omega,by omega⟩,k5.old b hb (by omega)⟩)⟩
  replace K:=((K.trans k3).trans k4).but k5 (by omega)
  replace b2:=((b2.kept k3).kept k4).keptB k5 (by have:=b2.lt;omega)
 case' true=>
  have hd1:d≤1:=of_decide_eq_true hd1
  refine zt_false ?_
  iterate 5 go_step
  have b5:=b3
  have hR:Rt (onlyW w3 (abx w2.heap.size g3)) (.agg #[.bool (neg&&decide (0<n)),.slice x1 x2 x3,.slice none 0 0]) (neg&&decide (0<n)) n (if d≤1 then 0 else d):=⟨_,_,rfl,hr,by
   rw[if_pos hd1]
   exact raw_nil _⟩
  replace K:=K.trans k3
  replace b2:=b2.kept k3
 all_goals
  refine zl (V:=#[_,_,_]) b5.range own3 ?_
  refine zt b2 own3 own3 fun wz kz b2=> ?_
  iterate 5 go_step
  exact zret1 b2 own3 ⟨_,_,_,_,_,_,rfl,hR.sub (only_move fun b hb hs=>by
   unfold abx at hs
   unfold ab
   simp only[Bool.and_eq_true,decide_eq_true_eq,bne_iff_ne] at hs
   simp only[decide_eq_true_eq]
   exact⟨by omega,kz.old b hb (by omega)⟩),K.but kz (by omega)⟩
end
section
set_option maxHeartbeats 8000000
set_option maxRecDepth 100000
def cd1(d:Nat):Nat:=if d≤1 then 0 else d
theorem cd1_eq(d:Nat):cd1 d=if d=1 then 0 else d:=by unfold cd1;split<;>split<;>omega
theorem cd1_can(N D:Nat):cd1 (rD N D)=cD N D:=by rw[cd1_eq];rfl
def numT(n d:Nat):Tree:=.node 1 0 false n (cd1 d) ⟨#[]⟩ []
def litT(neg:Bool)(n d:Nat):Tree:=if neg then negT (numT n d) else numT n d
theorem Ex.num{W:World}{n d:Nat}{x1:Option Addr}{x2 x3:Nat}{x4:Option Addr}{x5 x6:Nat}(h:Rt W (.agg #[.bool false,.slice x1 x2 x3,.slice x4 x5 x6]) false n (cd1 d)):
 Ex W 1 (.agg #[.int .i64 1,.int .i64 0,.bool false,.slice x1 x2 x3,.slice x4 x5 x6,.string ⟨#[]⟩,.slice none 0 0]) (numT n d):=
 Ex.mk (kids:=[]) (cs:=[]) (Nat.le_refl _) h (by simp) (fun i hi=>absurd hi (Nat.not_lt_zero i)) (RowsIs.nil _ _)
theorem rnum_calls{w:World}{v:Value}{neg:Bool}{n d:Nat}(h:Qv w v neg n d)(hs:(neg&&decide (0<n))=false)(hn:n<Sm)(hd:d<Sm):
 Calls Tryz.prog 254 #[v] w fun e w'=>∃V,e= .returned V∧Ex (onlyW w' (ab w.heap.size)) 1 V (numT n d)∧Kept w w':=by
 have hr:=fun(w':World)(k:Kept w w')=>rat_calls (h.kept k) hn hd
 rw[hs] at hr
 obtain⟨vn,vd,rfl,qn,qd⟩:=h
 obtain⟨a,m,c,rfl⟩:=nt_slice qn
 obtain⟨a',m',c',rfl⟩:=nt_slice qd
 refine ent1 5 Tryz.func254 rfl Tryz.ntmps254 ?_
 iterate 3 go_step
 refine zb fun w1 g1 e1 k1 b1 s1=> ?_
 refine za Z7 27 fun w2 g2 e2 k2 b2 s2=> ?_
 have K:=k1.trans k2
 iterate 5 go_step
 refine zl (b1.kept k2).range own97 ?_
 refine zc 85 _ (hr _ K) ?_
 rintro e w3 ⟨x1,x2,x3,x4,x5,x6,rfl,hR,k3⟩
 refine⟨_,rfl,?_⟩
 refine zr (.agg #[.int .i64 1,.int .i64 0,.bool false,.slice x1 x2 x3,.slice x4 x5 x6,.string ⟨#[]⟩,.slice none 0 0]) ?_
 refine zt (b2.kept k3) ownZ own7 fun w4 k4 b2=> ?_
 iterate 5 go_step
 have q:=K.size
 exact zret1 b2 own7 ⟨_,rfl,Ex.num (hR.sub (only_move fun b hb hs=>by
  unfold ab at hs⊢
  simp only[decide_eq_true_eq] at hs⊢
  exact⟨by omega,k4.old b hb (by omega)⟩)),(K.trans k3).but k4 (by omega)⟩
theorem nxt_ab{w:World}{N M:Nat}(h:N≤M):Sub (onlyW w (nxt (ab N) M)) (onlyW w (ab N)):=only_mono fun b hs=>by
 unfold nxt ab at hs
 unfold ab
 simp only[Bool.or_eq_true,decide_eq_true_eq] at hs⊢
 omega
theorem ab_but{w W:World}{N M g:Nat}(k:KeptB w W g)(hg:g<N)(h:M≤N):Sub (onlyW w (ab N)) (onlyW W (ab M)):=only_move fun b hb hs=>by
 unfold ab at hs⊢
 simp only[decide_eq_true_eq] at hs⊢
 exact⟨by omega,k.old b hb (by omega)⟩
theorem rlit_calls{w:World}{v:Value}{neg:Bool}{n d:Nat}(h:Qv w v neg n d)(hz:neg=true→0<n)(hn:n<Sm)(hd:d<Sm):
 Calls Tryz.prog 161 #[v] w fun e w'=>∃V,e= .returned V∧Ex (onlyW w' (ab w.heap.size)) 2 V (litT neg n d)∧Kept w w':=by
 have hsg:=fun(w':World)(k:Kept w w')=>qsgn_calls (h.kept k)
 have hop:=fun(w':World)(k:Kept w w')=>opp_calls (h.kept k)
 have hnm:=fun(w':World)(k:Kept w w')(hs:(neg&&decide (0<n))=false)=>rnum_calls (h.kept k) hs hn hd
 obtain⟨vn,vd,rfl,qn,qd⟩:=h
 obtain⟨a,m,c,rfl⟩:=nt_slice qn
 obtain⟨a',m',c',rfl⟩:=nt_slice qd
 refine ent1 11 Tryz.func161 rfl Tryz.ntmps161 ?_
 iterate 3 go_step
 refine zb fun w1 g1 e1 k1 b1 s1=> ?_
 refine za Z7 27 fun w2 g2 e2 k2 b2 s2=> ?_
 have K:=k1.trans k2
 replace b1:=b1.kept k2
 have q:=K.size
 iterate 6 go_step
 refine zl b1.range own97 ?_
 refine zc 207 _ (hsg _ K) ?_
 rintro e w3 ⟨rfl,k3⟩
 refine⟨_,rfl,?_⟩
 cases neg
 case' true=>
  have hz:=hz rfl
  rw[show sgn true n= -1 by unfold sgn;rw[if_neg (by omega)];rfl]
  refine z2 (.bool true) ?_
  iterate 3 go_step
  refine zt_true ?_
  iterate 2 go_step
  refine zl (b1.kept k3).range own97 ?_
  refine zc 255 _ (hop _ (K.trans k3)) ?_
  rintro e w4 ⟨v4,rfl,h4,k4⟩
  refine⟨_,rfl,?_⟩
  refine zc 254 _ (rnum_calls h4 rfl hn hd) ?_
  rintro e w5 ⟨v5,rfl,h5,k5⟩
  refine⟨_,rfl,?_⟩
  refine zc 253 _ (rone_calls h5 4 0) ?_
  rintro e w6 ⟨v6,rfl,h6,k6⟩
  obtain⟨V,rfl,oV⟩:=h6.own
  refine⟨_,rfl,?_⟩
  refine zt ((((b2.kept k3).kept k4).kept k5).kept k6) ownZ oV fun w7 k7 b2=> ?_
  iterate 6 go_step
  have q3:=k3.size
  have q4:=k4.size
  have q5:=k5.size
  exact zret1 b2 oV ⟨_,rfl,h6.sub ((nxt_ab (by omega)).trans (ab_but k7 (by omega) (by omega))),((((K.trans k3).trans k4).trans k5).trans k6).but k7 (by omega)⟩
 refine z2 (.bool (decide (sgn false n<0))) ?_
 rw[show decide (sgn false n<0)=false from decide_eq_false (by unfold sgn;split<;>simp)]
 iterate 3 go_step
 refine zt_false ?_
 iterate 5 go_step
 refine zl (b1.kept k3).range own97 ?_
 refine zc 254 _ (hnm _ (K.trans k3) rfl) ?_
 rintro e w4 ⟨v4,rfl,h4,k4⟩
 obtain⟨V,rfl,oV⟩:=h4.own
 refine⟨_,rfl,?_⟩
 refine zt ((b2.kept k3).kept k4) ownZ oV fun w5 k5 b2=> ?_
 iterate 5 go_step
 have q3:=k3.size
 exact zret1 b2 oV ⟨_,rfl,(h4.sub (ab_but k5 (by omega) (by omega))).up 1,((K.trans k3).trans k4).but k5 (by omega)⟩
theorem rliteral_calls{w:World}{v:Value}{neg:Bool}{N D:Nat}(h:Rt w v neg (rN N D) (cD N D))(hz:neg=true→0<rN N D)(hs:small N D=true):
 Calls Tryz.prog 84 #[v] w fun e w'=>∃V,e= .returned (.tuple #[V,.int .i64 0])∧Ex (onlyW w' (ab w.heap.size)) 2 V (litT neg (rN N D) (rD N D))∧Kept w w':=by
 obtain⟨-,-,g1,g2,-,-⟩:=small_bounds hs
 have hlg:=fun(w':World)(k:Kept w w')=>large_calls (h.kept k)
 rw[small_can hs] at hlg
 obtain⟨m1,m2,-⟩:=small_bounds (small_can hs)
 have hof:=fun(w':World)(k:Kept w w')=>of_qcalls (h.kept k) (.inr ⟨m1,m2⟩)
 rw[rN_can,rD_can,show(neg&&decide (0<rN N D))=neg by cases neg;rfl;simp[hz rfl]] at hof
 obtain⟨vn,vd,rfl,⟨a1,n1,c1,zs1,rfl,-⟩,⟨a2,n2,c2,zs2,rfl,-⟩⟩:=h
 refine ent1 9 Tryz.func84 rfl Tryz.ntmps84 ?_
 iterate 3 go_step
 refine zb fun w1 g1 e1 k1 b1 s1=> ?_
 refine za Z7 27 fun w2 g2 e2 k2 b2 s2=> ?_
 refine zz ?_
 have K:=k1.trans k2
 replace b1:=b1.kept k2
 have q:=K.size
 iterate 6 go_step
 refine zl b1.range own3 ?_
 refine zc 120 _ (hlg _ K) ?_
 rintro e w3 ⟨rfl,k3⟩
 refine⟨_,rfl,?_⟩
 iterate 3 go_step
 refine zt_false ?_
 iterate 5 go_step
 refine zl (b1.kept k3).range own3 ?_
 refine zc 125 _ (hof _ (K.trans k3)) ?_
 rintro e w4 ⟨v4,rfl,h4,k4⟩
 refine⟨_,rfl,?_⟩
 refine zc 161 _ (rlit_calls h4 hz ‹_› ‹_›) ?_
 rintro e w5 ⟨v5,rfl,h5,k5⟩
 obtain⟨V,rfl,oV⟩:=h5.own
 refine⟨_,rfl,?_⟩
 refine zt (((b2.kept k3).kept k4).kept k5) ownZ oV fun w6 k6 b2=> ?_
 refine zz ?_
 iterate 5 go_step
 have q3:=k3.size
 have q4:=k4.size
 exact zret1b (v:=.int .i64 0) b2 oV ⟨_,rfl,h5.sub (ab_but k6 (by omega) (by omega)),(((K.trans k3).trans k4).trans k5).but k6 (by omega)⟩
end
section
set_option maxHeartbeats 8000000
set_option maxRecDepth 100000
theorem own217{z:Bool}{x1:Option Addr}{x2 x3:Nat}{x4:Option Addr}{x5 x6:Nat}:Own 217 #[.bool z,.slice x1 x2 x3,.slice x4 x5 x6]:=⟨by kernel_rfl,by simp[Value.oneCell']⟩
theorem zt1x{n:Nat}{l:Fm}{ops:Array Oper}{rest:List Oper}{Q:Exit→Act→World→Prop}{oi:Oper}{w:World}{p:Tmp}{y:Operand}{ty g i:Nat}{t:TypeId}{Y:Array Value}{x:Value}(hb:Blk w g Y t)(hi:i<Y.size)(hx1:x.oneCell'=true)(h:∀w',KeptB w w' g→Blk w' g (Y.setIfInBounds i x) t→wpList Tryz.prog ops Q rest (frm n l) w')
 (hg:oi.guard=none:=by rfl)(hd:oi.dst=none:=by rfl)(hop:oi.op= .store ty (.tmp p) y:=by rfl)(hx:opv n l (.tmp p)=some (.pointer (some ⟨g,i,none⟩)):=by rfl)(hq:opv n l y=some x:=by rfl)
 (hu:(Tryz.prog.info? ty).map (·.size)=some 1:=by kernel_rfl):wpList Tryz.prog ops Q (oi::rest) (frm n l) w:=
 wpList_plain hg fun K hK=>by
  have hst1:(storeVar ty ⟨g,i,none⟩ x).run Tryz.prog w= .ok () (w.setCell ⟨g,i,none⟩ x):=by
   have hcl:=hb.cell i (v:=Y[i]) (by simp[hi])
   have hrs:=run_store Tryz.prog w ⟨g,i,none⟩ x .plain hx1
   rw[hcl] at hrs
   simp only[hb.frozen i] at hrs
   cases hq2:Tryz.prog.info? ty with
   |none=>simp[hq2] at hu
   |some q=>
    have hs1:q.size=1:=by simpa [hq2] using hu
    cases x<;>first
     |(simp[Value.oneCell'] at hx1;done)
     |(simp[storeVar,sizeOf,typeInfo,hq2,hs1,Value.cells,storeCells,Addr.add_mid,hrs];done)
  unfold Oper.wp execOp
  simp only[hop,opv_eval hx,opv_eval hq,Instr.storeAt,Instr.sureAddr,Sem.run_bind,Sem.run_pure,Result.andThen_ok,hst1]
  show K ((frm n l).put oi.dst undef) _
  rw[hd]
  exact hK _ _ (h _ ((KeptB.refl w g).setCell rfl x) (hb.set i x))
theorem lit_calls{w:World}{v:Value}{neg:Bool}{n d:Nat}(h:Fr w v neg n d)(hn:fits32 n=true)(hd:fits32 d=true):
 Calls Tryz.prog 156 #[v] w fun e w'=>∃V,e= .returned (.tuple #[V,.bool true])∧Ex (onlyW w' (ab w.heap.size)) 2 V (litT neg n d)∧Kept w w':=by
 obtain⟨vn,vd,rfl,qn,qd⟩:=h
 obtain⟨a,m,c,rfl⟩:=nt_slice qn
 obtain⟨a',m',c',rfl⟩:=nt_slice qd
 refine ent1 24 Tryz.func156 rfl Tryz.ntmps156 ?_
 iterate 3 go_step
 refine zb fun w1 g1 e1 k1 b1 s1=> ?_
 refine za Z7 27 fun w2 g2 e2 k2 b2 s2=> ?_
 refine zz ?_
 replace b1:=b1.kept k2
 iterate 5 go_step
 refine zr (.pointer (some ⟨g1,0,none⟩)) ?_
 refine zl1 (b1.cell 0 rfl) ?_
 refine zz ?_
 iterate 5 go_step
 refine zr (.pointer (some ⟨g1,0,none⟩)) ?_
 refine zt1x (i:=0) b1 (by simp) rfl fun w3 k3 b1=> ?_
 iterate 5 go_step
 have K:=(k1.trans k2).but k3 (by omega)
 have q3:=k3.size
 replace b2:=b2.keptB k3 (by omega)
 refine zl (V:=#[.bool false,.slice a m c,.slice a' m' c']) b1.range own217 ?_
 refine zc 191 _ (give_calls (⟨_,_,rfl,qn.kept K,qd.kept K⟩:Fr w3 _ false n d) hn hd) ?_
 rintro e w4 ⟨x1,x2,x3,x4,x5,x6,rfl,hr,k4⟩
 have q4:=k4.size
 refine⟨_,rfl,?_⟩
 refine zz ?_
 refine zz ?_
 refine zz ?_
 refine za ZR 24 fun w5 g5 e5 k5 b5 s5=> ?_
 refine zt b5 own3 own3 fun w6 k6 b5=> ?_
 refine zz ?_
 have q6:=k6.size
 iterate 5 go_step
 refine zl b5.range own3 ?_
 refine zr (.agg #[.int .i64 1,.int .i64 0,.bool false,.slice x1 x2 x3,.slice x4 x5 x6,.string ⟨#[]⟩,.slice none 0 0]) ?_
 refine za Z7 27 fun w7 g7 e7 k7 b7 s7=> ?_
 refine zt b7 ownZ own7 fun w8 k8 b7=> ?_
 have q8:=k8.size
 have k48:Kept w4 w8:=((k5.but k6 (by omega)).trans k7).but k8 (by omega)
 replace K:=(K.trans k4).trans k48
 replace b2:=(b2.kept k4).kept k48
 have hE:Ex (onlyW w8 (ab w3.heap.size)) 1 (.agg #[.int .i64 1,.int .i64 0,.bool false,.slice x1 x2 x3,.slice x4 x5 x6,.string ⟨#[]⟩,.slice none 0 0]) (numT n d):=Ex.num (by
  rw[cd1_eq]
  exact hr.sub (only_keep k48))
 clear k5 k6 k7 k8 b5
 iterate 6 go_step
 refine zz ?_
 iterate 3 go_step
 cases neg
 ·refine zt_false ?_
  iterate 5 go_step
  refine zl b7.range own7 ?_
  refine zz ?_
  refine z2 (.bool true) ?_
  refine zt b2 ownZ own7 fun w9 k9 b2=> ?_
  refine zz ?_
  iterate 5 go_step
  exact zret1b (v:=.bool true) b2 own7 ⟨_,rfl,(hE.sub (ab_but k9 (by omega) (by omega))).up 1,K.but k9 (by omega)⟩
 ·refine zt_true ?_
  go_step
  refine zl b7.range own7 ?_
  refine z25 own7 fun w9 g9 e9 k9 b9 s9=> ?_
  refine zc 250 _ (node_calls' w9 4 0 (some ⟨g9,0,none⟩) 1 1) ?_
  rintro e wa ⟨rfl,ka⟩
  refine⟨_,rfl,?_⟩
  refine zt (V:=M7 g9) ((b7.kept k9).kept ka) own7 (ownM g9) fun wb kb b7=> ?_
  have qa:=ka.size
  have qb:=kb.size
  iterate 5 go_step
  refine zl b7.range (ownM g9) ?_
  refine zz ?_
  refine z2 (.bool true) ?_
  refine zt (((b2.kept k9).kept ka).keptB kb (by omega)) ownZ (ownM g9) fun wc kc b2=> ?_
  refine zz ?_
  iterate 5 go_step
  have q9:=k9.size
  have hm:Sub (onlyW w4 (ab w3.heap.size)) (onlyW wc (ab w.heap.size)):=only_move fun b hb hs=>by
   unfold ab at hs⊢
   simp only[decide_eq_true_eq] at hs⊢
   have:=k48.size
   exact⟨by omega,(kc.old b (by omega) (by omega)).trans ((kb.old b (by omega) (by omega)).trans ((ka.old b (by omega)).trans ((k9.old b (by omega)).trans (k48.old b hb))))⟩
  rw[←cd1_eq] at hr
  exact zret1b (v:=.bool true) b2 (ownM g9) ⟨_,rfl,(Ex.num (hr.sub hm)).neg own7 (by unfold ab;exact decide_eq_true (by omega)) (((b9.kept ka).keptB kb (by omega)).keptB kc (by omega)),(((K.trans k9).trans ka).but kb (by omega)).but kc (by omega)⟩
end
section
set_option maxHeartbeats 8000000
set_option maxRecDepth 100000
theorem literal_calls{w:World}{v:Value}{neg:Bool}{N D:Nat}(h:Rt w v neg N D)(hT:Laid w)(hs:small N D=true)(hn:fits32 (rN N D)=true)(hd:fits32 (rD N D)=true):
 Calls Tryz.prog 80 #[v] w fun e w'=>∃V,e= .returned (.tuple #[V,.int .i64 0])∧Ex (onlyW w' (ab w.heap.size)) 2 V (litT (neg&&decide (0<N)) (rN N D) (rD N D))∧Kept w w':=by
 have hrd:=fun(w':World)(k:Kept w w')=>read_small (h.kept k) (hT.kept k) hs
 generalize (neg&&decide (0<N))=p at hrd⊢
 generalize rN N D=P at*
 generalize rD N D=Q at*
 obtain⟨vn,vd,rfl,⟨a1,n1,c1,zs1,rfl,-⟩,⟨a2,n2,c2,zs2,rfl,-⟩⟩:=h
 refine ent1 21 Tryz.func80 rfl Tryz.ntmps80 ?_
 iterate 3 go_step
 refine zb fun w1 g1 e1 k1 b1 s1=> ?_
 refine za Z7 27 fun w2 g2 e2 k2 b2 s2=> ?_
 refine zz ?_
 have K:=k1.trans k2
 replace b1:=b1.kept k2
 have q:=K.size
 iterate 5 go_step
 refine zl b1.range own3 ?_
 refine zc 155 _ (hrd _ K) ?_
 rintro e w3 ⟨x1,x2,x3,x4,x5,x6,rfl,h3,k3⟩
 refine⟨_,rfl,?_⟩
 refine zz ?_
 refine zz ?_
 refine zz ?_
 refine za ZR 217 fun w4 g4 e4 k4 b4 s4=> ?_
 refine zt b4 own217 own217 fun w5 k5 b4=> ?_
 refine zz ?_
 have q3:=k3.size
 have q4:=k4.size
 have q5:=k5.size
 have K5:=(k4.but k5 (by omega))
 iterate 6 go_step
 refine zz ?_
 refine zz ?_
 iterate 3 go_step
 refine zt_false ?_
 iterate 5 go_step
 refine zl b4.range own217 ?_
 refine zc 156 _ (lit_calls (h3.kept K5) hn hd) ?_
 rintro e w6 ⟨v6,rfl,h6,k6⟩
 obtain⟨V,rfl,oV⟩:=h6.own
 refine⟨_,rfl,?_⟩
 refine zz ?_
 refine zz ?_
 refine zz ?_
 have q6:=k6.size
 refine za Z7 27 fun w7 g7 e7 k7 b7 s7=> ?_
 refine zt b7 ownZ oV fun w8 k8 b7=> ?_
 refine zz ?_
 have q7:=k7.size
 have q8:=k8.size
 iterate 5 go_step
 refine zl b7.range oV ?_
 have b2':=((((b2.kept k3).kept K5).kept k6).kept k7).keptB k8 (by omega)
 refine zt b2' ownZ oV fun w9 k9 b2=> ?_
 refine zz ?_
 iterate 5 go_step
 have K8:=(((K.trans k3).trans K5).trans k6).trans (k7.but k8 (by omega))
 exact zret1b (v:=.int .i64 0) b2 oV ⟨_,rfl,h6.sub ((only_keep (k7.but k8 (by omega))).trans (ab_but k9 (by omega) (by omega))),K8.but k9 (by omega)⟩
end
end Go.Proofs.YtbapfnpbamnmpaaGreatDoor
