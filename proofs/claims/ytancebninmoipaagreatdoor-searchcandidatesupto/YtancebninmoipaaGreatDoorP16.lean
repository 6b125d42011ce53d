/- A part of the proof that SearchCandidates answers true for every input of bulk at most 1048576: conditions: the row's own. -/
import Derived.Test.YtancebninmoipaaGreatDoorP15
namespace Go.Proofs.YtancebninmoipaaGreatDoor
open Go Go.RowKit Go.Dig
open Go.Eng (Kept KW KeptB)
section
set_option maxHeartbeats 4000000
set_option maxRecDepth 100000
theorem rcenter_calls{w:World}{v:Value}{i:IvD}(h:Iq w v (loS i) (loN i) (loD i) (hiS i) (hiN i) (hiD i) i.li i.hi false)(hf:i.fine=true):
 Calls Tryz.prog 70 #[v] w (RetQ (midF i).1 (midF i).2.1 (midF i).2.2 w):=by
 obtain⟨B1,B2,B3,B4⟩:=ends_sm hf
 obtain⟨a,n,c,a',n',c',b,m,e,b',m',e',rfl,hL,hH⟩:=h
 have HTT:= @mid_tt i
 have HTF:= @mid_tf i
 have HFT:= @mid_ft i
 have HFF:= @mid_ff i
 clear hf
 generalize midF i=M at*
 generalize loS i=S1 at*
 generalize loN i=N1 at*
 generalize loD i=D1 at*
 generalize hiS i=S2 at*
 generalize hiN i=N2 at*
 generalize hiD i=D2 at*
 generalize i.li=li at*
 generalize i.hi=hi at*
 refine ent1 29 Tryz.func70 rfl Tryz.ntmps70 ?_
 iterate 2 go_step
 refine zb fun w1 g1 e1 k1 b1 q1=> ?_
 refine za ZR 55 fun w2 g2 e2 k2 b2 q2=> ?_
 replace b1:=b1.kept k2
 have K:=k1.trans k2
 have hl:g1<g2:=by omega
 clear k1 k2
 iterate 7 go_step
 refine zr (.pointer (some ⟨g1,6,none⟩)) ?_
 refine zl1 (b1.cell 6 rfl) ?_
 refine zr (.bool li) ?_
 cases li
 case' true=>
  refine zwant ?_
  refine zr (.pointer (some ⟨g1,7,none⟩)) ?_
  refine zwant ?_
  refine zl1 (b1.cell 7 rfl) ?_
  refine zr (.bool hi) ?_
  refine zr (.bool hi) ?_
  iterate 3 go_step
  cases hi
  case' true=>
   refine zt_true ?_
   iterate 2 go_step
   refine zc 143 _ (rint0_calls w2) ?_
   rintro e w3 ⟨v3,rfl,hq,k3⟩
   refine⟨_,rfl,?_⟩
   obtain⟨q1,q2,q3,q4,q5,q6,rfl,h1,h2⟩:=qv_slices hq
   have b23:=b2.kept k3
   have hnw:NoWords w3 g2:=Blk.noWords b23 rfl
   refine zt b23 own97 own97 fun w5 k5 b5=> ?_
   iterate 5 go_step
   have HM:=HTT rfl rfl
   exact zret1 b5 own97 ⟨_,rfl,by rw[HM];exact⟨_,_,rfl,h1.keptB k5 hnw,h2.keptB k5 hnw⟩,(K.trans k3).but k5 (by omega)⟩
  refine zt_false ?_
  iterate 2 go_step
  refine zr (.pointer (some ⟨g1,7,none⟩)) ?_
  refine zl1 (b1.cell 7 rfl) ?_
  refine zr (.bool false) ?_
  iterate 3 go_step
  refine zt_false ?_
  iterate 2 go_step
  refine zr (.pointer (some ⟨g1,6,none⟩)) ?_
  refine zl1 (b1.cell 6 rfl) ?_
  refine zr (.bool true) ?_
  iterate 3 go_step
  refine zt_true ?_
  go_step
  refine drawn g2 (g2+1) fun hS=> ?_
  have kd:=(Kept.refl w2).drew
  refine yr 0 (.pointer (some ⟨g1,3,none⟩)) hS ?_
  refine yl 1 (V:=#[.bool S2,.slice b m e,.slice b' m' e']) (b1.part 3) (.inl hl) own97 hS ?_
  refine yc 2 143 _ hS (rint1_calls _) fun e w3 ⟨v3,he,x3,k3⟩=>⟨k3,_,he,fun hS=> ?_⟩
  refine yc 3 75 _ hS ((fun{W:World}(k:Kept w2 W){v1:Value}(q:Qv W v1 false 1 1)=>diff_calls (hH.kept (K.trans k)) q B3 B4 sm_one sm_one) (kd.trans k3) x3) fun e w4 ⟨v4,he,hq,k4⟩=>⟨k4,_,he,fun hS=> ?_⟩
  obtain⟨q1,q2,q3,q4,q5,q6,rfl,h1,h2⟩:=qv_slices hq
  have k24:=(kd.trans k3).trans k4
  have b24:=b2.kept k24
  have hnw:NoWords w4 g2:=Blk.noWords b24 rfl
  refine yt 4 b24 own97 own97 (.inl ⟨Nat.le_refl _,Nat.lt_succ_self _⟩) hS fun w5 k5 b5 hS=>yend ?_
  iterate 4 go_step
  have HM:=HTF rfl rfl
  exact zret1 b5 own97 ⟨_,rfl,by rw[HM];exact⟨_,_,rfl,h1.keptB k5 hnw,h2.keptB k5 hnw⟩,(K.trans k24).but k5 (by omega)⟩
 refine zskw ?_
 refine zskw ?_
 refine zr (.bool false) ?_
 refine zr (.bool false) ?_
 iterate 3 go_step
 refine zt_false ?_
 iterate 2 go_step
 refine zr (.pointer (some ⟨g1,7,none⟩)) ?_
 refine zl1 (b1.cell 7 rfl) ?_
 refine zr (.bool hi) ?_
 iterate 3 go_step
 cases hi
 case' true=>
  refine zt_true ?_
  go_step
  refine drawn g2 (g2+1) fun hS=> ?_
  have kd:=(Kept.refl w2).drew
  refine yr 0 (.pointer (some ⟨g1,0,none⟩)) hS ?_
  refine yl 1 (V:=#[.bool S1,.slice a n c,.slice a' n' c']) (b1.part 0) (.inl hl) own97 hS ?_
  refine yc 2 143 _ hS (rint1_calls _) fun e w3 ⟨v3,he,x3,k3⟩=>⟨k3,_,he,fun hS=> ?_⟩
  refine yc 3 144 _ hS ((fun{W:World}(k:Kept w2 W){v1:Value}(q:Qv W v1 false 1 1)=>sum_calls (hL.kept (K.trans k)) q B1 B2 sm_one sm_one) (kd.trans k3) x3) fun e w4 ⟨v4,he,hq,k4⟩=>⟨k4,_,he,fun hS=> ?_⟩
  obtain⟨q1,q2,q3,q4,q5,q6,rfl,h1,h2⟩:=qv_slices hq
  have k24:=(kd.trans k3).trans k4
  have b24:=b2.kept k24
  have hnw:NoWords w4 g2:=Blk.noWords b24 rfl
  refine yt 4 b24 own97 own97 (.inl ⟨Nat.le_refl _,Nat.lt_succ_self _⟩) hS fun w5 k5 b5 hS=>yend ?_
  iterate 4 go_step
  have HM:=HFT rfl rfl
  exact zret1 b5 own97 ⟨_,rfl,by rw[HM];exact⟨_,_,rfl,h1.keptB k5 hnw,h2.keptB k5 hnw⟩,(K.trans k24).but k5 (by omega)⟩
 refine zt_false ?_
 iterate 2 go_step
 refine zr (.pointer (some ⟨g1,6,none⟩)) ?_
 refine zl1 (b1.cell 6 rfl) ?_
 refine zr (.bool false) ?_
 iterate 3 go_step
 refine zt_false ?_
 iterate 5 go_step
 refine zr (.pointer (some ⟨g1,0,none⟩)) ?_
 refine zl (V:=#[.bool S1,.slice a n c,.slice a' n' c']) (b1.part 0) own97 ?_
 refine zr (.pointer (some ⟨g1,3,none⟩)) ?_
 refine zl (V:=#[.bool S2,.slice b m e,.slice b' m' e']) (b1.part 3) own97 ?_
 refine zc 145 _ (rhalf_calls (hL.kept K) (hH.kept K) B1 B2 B3 B4) ?_
 rintro e w3 ⟨v3,rfl,hq,k3⟩
 refine⟨_,rfl,?_⟩
 obtain⟨q1,q2,q3,q4,q5,q6,rfl,h1,h2⟩:=qv_slices hq
 have b23:=b2.kept k3
 have hnw:NoWords w3 g2:=Blk.noWords b23 rfl
 refine zt b23 own97 own97 fun w5 k5 b5=> ?_
 iterate 4 go_step
 have HM:=HFF rfl rfl
 exact zret1 b5 own97 ⟨_,rfl,by rw[HM];exact⟨_,_,rfl,h1.keptB k5 hnw,h2.keptB k5 hnw⟩,(K.trans k3).but k5 (by omega)⟩
end
section
set_option maxHeartbeats 4000000
set_option maxRecDepth 100000
theorem fits_sm{n:Nat}(h:fits32 n=true):n<Sm:=Nat.lt_of_lt_of_le (of_decide_eq_true h:n<pwr 2 2048) (pwr_le 2048 7000 (by decide))
theorem rt_but{W w':World}{n g:Nat}{v:Value}{s:Bool}{N D m:Nat}(h:Rt (onlyW W (ab m)) v s N D)(k:KeptB W w' g)(hg:g<m)(hn:n≤m):Rt (onlyW w' (ab n)) v s N D:=
 h.sub (only_move fun b hb hs=>by
  unfold ab at hs⊢
  simp only[decide_eq_true_eq] at hs⊢
  exact⟨by omega,k.old b hb (by omega)⟩)
def RetNum(ok s:Bool)(n D:Nat)(w:World)(e:Ending)(w':World):Prop:=Kept w w'∧((ok=true∧∃a1 n1 c1 a2 n2 c2,e= .returned (.tuple #[.agg #[.bool s,.slice a1 n1 c1,.slice a2 n2 c2],.int .i64 0])∧
 Rt (onlyW w' (ab w.heap.size)) (.agg #[.bool s,.slice a1 n1 c1,.slice a2 n2 c2]) s n D)∨(ok=false∧e= .returned (.tuple #[.agg ZR,.int .i64 1])))
theorem rdone_calls{w:World}{v:Value}{s:Bool}{n d:Nat}(h:Qv w v s n d):
 Calls Tryz.prog 69 #[v] w (RetNum (fits32 n&&fits32 d) (s&&decide (0<n)) n (if d≤1 then 0 else d) w):=by
 have hov:=fun(W:World)(k:Kept w W)=>over_calls (h.kept k)
 have hrat:=fun(hn:n<Sm)(hd:d<Sm)(W:World)(k:Kept w W)=>rat_calls (h.kept k) hn hd
 obtain⟨x1,x2,x3,x4,x5,x6,rfl,-,-⟩:=qv_slices h
 clear h
 unfold RetNum
 have hfs:(fits32 n&&fits32 d)=true→n<Sm∧d<Sm:=fun h=>by
  simp only[Bool.and_eq_true] at h
  exact⟨fits_sm h.1,fits_sm h.2⟩
 generalize (if d≤1 then 0 else d)=DD at*
 generalize (fits32 n&&fits32 d)=ok at*
 generalize (s&&decide (0<n))=S at*
 refine ent1 8 Tryz.func69 rfl Tryz.ntmps69 ?_
 iterate 3 go_step
 refine zb fun w1 g1 e1 k1 b1 q1=> ?_
 refine za ZR 24 fun w2 g2 e2 k2 b2 q2=> ?_
 refine zr (.int .i64 0) ?_
 iterate 6 go_step
 replace b1:=b1.kept k2
 have K:=k1.trans k2
 refine zl b1.range own97 ?_
 refine zc 142 _ (hov _ K) ?_
 rintro e w3 ⟨rfl,k3⟩
 refine⟨_,rfl,?_⟩
 iterate 3 go_step
 cases ok
 ·refine zt_true ?_
  iterate 2 go_step
  refine zr (.agg ZR) ?_
  refine zt (b2.kept k3) own24 own24 fun w4 k4 b4=> ?_
  refine zr (.int .i64 1) ?_
  iterate 6 go_step
  exact zret1b b4 own24 ⟨(K.trans k3).but k4 (by omega),.inr ⟨rfl,rfl⟩⟩
 ·obtain⟨hn,hd⟩:=hfs rfl
  refine zt_false ?_
  iterate 5 go_step
  refine zl (b1.kept k3).range own97 ?_
  refine zc 40 _ (hrat hn hd _ (K.trans k3)) ?_
  rintro e w4 ⟨a1,n1,c1,a2,n2,c2,rfl,hR,k4⟩
  refine⟨_,rfl,?_⟩
  refine zt ((b2.kept k3).kept k4) own24 own24 fun w5 k5 b5=> ?_
  refine zr (.int .i64 0) ?_
  iterate 5 go_step
  have:=k3.size
  exact zret1b b5 own24 ⟨((K.trans k3).trans k4).but k5 (by omega),.inl ⟨rfl,_,_,_,_,_,_,rfl,rt_but hR k5 (by omega) (by omega)⟩⟩
theorem iq_slices{w:World}{v:Value}{p1:Bool}{n1 d1:Nat}{p2:Bool}{n2 d2:Nat}{li hi em:Bool}(h:Iq w v p1 n1 d1 p2 n2 d2 li hi em):∃a n c a' n' c' b m e b' m' e',v= .agg #[.bool p1,.slice a n c,.slice a' n' c',.bool p2,.slice b m e,.slice b' m' e',.bool li,.bool hi,.bool em]:=by
 obtain⟨a,n,c,a',n',c',b,m,e,b',m',e',rfl,-,-⟩:=h
 exact⟨_,_,_,_,_,_,_,_,_,_,_,_,rfl⟩
theorem iq_keptB{w w':World}{g:Nat}{v:Value}{p1:Bool}{n1 d1:Nat}{p2:Bool}{n2 d2:Nat}{li hi em:Bool}(h:Iq w v p1 n1 d1 p2 n2 d2 li hi em)(k:KeptB w w' g)(hb:NoWords w g):Iq w' v p1 n1 d1 p2 n2 d2 li hi em:=by
 obtain⟨a,n,c,a',n',c',b,m,e,b',m',e',rfl,h1,h2⟩:=h
 exact⟨_,_,_,_,_,_,_,_,_,_,_,_,rfl,h1.keptB k hb,h2.keptB k hb⟩
theorem rone3_calls{w:World}{v:Value}{i:IvD}(h:Ivl w v i)(hf:i.fine=true)(hvd:i.void=false):
 Calls Tryz.prog 68 #[v,.int .i64 0] w fun e w'=>∃v',e= .returned (.tuple #[v',.int .i64 0])∧Iq w' v' (loS i) (loN i) (loD i) (hiS i) (hiN i) (hiD i) i.li i.hi false∧Kept w w':=by
 have hlg:=fun(W:World)(k:Kept w W)=>ilarge_calls (h.kept k)
 have hof:=fun(W:World)(k:Kept w W)=>iof_nv (h.kept k) hf hvd
 rw[hf] at hlg
 obtain⟨a,n,c,a2,n2,c2,a3,n3,c3,a4,n4,c4,rfl,-⟩:=h
 clear hf hvd
 refine entL [_,_] 18 Tryz.func68 rfl Tryz.ntmps68 (by simp) ?_
 iterate 3 go_step
 refine zb fun w1 g1 e1 k1 b1 q1=> ?_
 refine za ZQ 57 fun w2 g2 e2 k2 b2 q2=> ?_
 refine zr (.int .i64 0) ?_
 iterate 6 go_step
 replace b1:=b1.kept k2
 have K:=k1.trans k2
 refine zl b1.range own39 ?_
 refine zc 65 _ (hlg _ K) ?_
 rintro e w3 ⟨rfl,k3⟩
 refine⟨_,rfl,?_⟩
 iterate 3 go_step
 refine zt_false ?_
 iterate 6 go_step
 refine zr (.int .i64 0) ?_
 refine zr (.bool false) ?_
 refine zr (.bool false) ?_
 refine zwant ?_
 refine zr (.int .i64 0) ?_
 refine zwant ?_
 refine zr (.bool false) ?_
 refine zr (.bool false) ?_
 iterate 3 go_step
 refine zt_false ?_
 iterate 5 go_step
 refine zl (b1.kept k3).range own39 ?_
 refine zc 17 _ (hof _ (K.trans k3)) ?_
 rintro e w4 ⟨v4,rfl,hI,k4⟩
 refine⟨_,rfl,?_⟩
 have hI':=hI
 obtain⟨y1,y2,y3,y4,y5,y6,y7,y8,y9,ya,yb,yc,rfl⟩:=iq_slices hI'
 have b24:=(b2.kept k3).kept k4
 have hnw:NoWords w4 g2:=Blk.noWords b24 rfl
 refine zt b24 own99 own99 fun w5 k5 b5=> ?_
 refine zr (.int .i64 0) ?_
 iterate 5 go_step
 exact zret1b b5 own99 ⟨_,rfl,iq_keptB hI k5 hnw,((K.trans k3).trans k4).but k5 (by omega)⟩
end
section
set_option maxHeartbeats 4000000
set_option maxRecDepth 100000
theorem rmiddle_calls{w:World}{v:Value}{i:IvD}(h:Ivl w v i)(hf:i.fine=true)(hvd:i.void=false):
 Calls Tryz.prog 36 #[v] w (RetNum (midOk i) ((midF i).1&&decide (0<(midF i).2.1)) (midF i).2.1 (if (midF i).2.2≤1 then 0 else(midF i).2.2) w):=by
 have hone:=fun(W:World)(k:Kept w W)=>rone3_calls (h.kept k) hf hvd
 have hcen:=fun(W:World)(v:Value)(q:Iq W v (loS i) (loN i) (loD i) (hiS i) (hiN i) (hiD i) i.li i.hi false)=>rcenter_calls q hf
 have hdone:=fun(W:World)(v:Value)(q:Qv W v (midF i).1 (midF i).2.1 (midF i).2.2)=>rdone_calls q
 have HO:(fits32 (midF i).2.1&&fits32 (midF i).2.2)=midOk i:=rfl
 rw[HO] at hdone
 obtain⟨a,n,c,a2,n2,c2,a3,n3,c3,a4,n4,c4,rfl,-⟩:=h
 clear hf hvd HO
 unfold RetNum at*
 generalize ((midF i).1&&decide (0<(midF i).2.1))=S at*
 generalize (if (midF i).2.2≤1 then 0 else(midF i).2.2)=DD at*
 generalize midF i=M at*
 generalize midOk i=O at*
 refine ent1 22 Tryz.func36 rfl Tryz.ntmps36 ?_
 iterate 3 go_step
 refine zb fun w1 g1 e1 k1 b1 q1=> ?_
 refine za ZR 24 fun w2 g2 e2 k2 b2 q2=> ?_
 refine zr (.int .i64 0) ?_
 iterate 5 go_step
 replace b1:=b1.kept k2
 have K:=k1.trans k2
 refine zl b1.range own39 ?_
 refine zc 68 _ (hone _ K) ?_
 rintro e w3 ⟨v3,rfl,hI,k3⟩
 refine⟨_,rfl,?_⟩
 have hI':=hI
 obtain⟨y1,y2,y3,y4,y5,y6,y7,y8,y9,ya,yb,yc,rfl⟩:=iq_slices hI'
 clear hI'
 refine zr (.tuple #[.agg #[.bool (loS i),.slice y1 y2 y3,.slice y4 y5 y6,.bool (hiS i),.slice y7 y8 y9,.slice ya yb yc,.bool i.li,.bool i.hi,.bool false],.int .i64 0]) ?_
 refine zr (.agg #[.bool (loS i),.slice y1 y2 y3,.slice y4 y5 y6,.bool (hiS i),.slice y7 y8 y9,.slice ya yb yc,.bool i.li,.bool i.hi,.bool false]) ?_
 refine zr (.int .i64 0) ?_
 refine za ZQ 57 fun w4 g4 e4 k4 b4 q4=> ?_
 have b4z:=b4
 refine zt b4 own99 own99 fun w5 k5 b5=> ?_
 have hnw:NoWords w4 g4:=Blk.noWords b4z rfl
 replace hI:=iq_keptB (hI.kept k4) k5 hnw
 have s3:=k3.size
 have K5:=((K.trans k3).trans k4).but k5 (by omega)
 replace b2:=(((b2.kept k3).kept k4).keptB k5 (by omega))
 clear b4 b4z hnw k1 k2 k3 k4 k5 K b1 hone
 refine zr (.int .i64 0) ?_
 iterate 6 go_step
 refine zr (.int .i64 0) ?_
 refine zr (.bool false) ?_
 iterate 3 go_step
 refine zt_false ?_
 iterate 6 go_step
 refine zr (.pointer (some ⟨g4,8,none⟩)) ?_
 refine zl1 (b5.cell 8 rfl) ?_
 iterate 3 go_step
 refine zt_false ?_
 iterate 5 go_step
 refine zl b5.range own99 ?_
 refine zc 70 _ (hcen _ _ hI) ?_
 rintro e w6 ⟨v6,rfl,hq,k6⟩
 refine⟨_,rfl,?_⟩
 refine zc 69 _ (hdone _ _ hq) ?_
 have s5:=K5.size
 have s6:=k6.size
 have hb2:=b2.lt
 rintro e w7 ⟨k7,⟨ho,a1,n1,c1,a2,n2,c2,rfl,hR⟩|⟨ho,rfl⟩⟩
 ·refine⟨_,rfl,?_⟩
  refine zr (.agg #[.bool S,.slice a1 n1 c1,.slice a2 n2 c2]) ?_
  refine zr (.int .i64 0) ?_
  refine zt ((b2.kept k6).kept k7) own24 own24 fun w8 k8 b8=> ?_
  refine zr (.int .i64 0) ?_
  iterate 5 go_step
  exact zret1b b8 own24 ⟨((K5.trans k6).trans k7).but k8 (by omega),.inl ⟨ho,_,_,_,_,_,_,rfl,rt_but hR k8 (by omega) (by omega)⟩⟩
 ·refine⟨_,rfl,?_⟩
  refine zr (.agg ZR) ?_
  refine zr (.int .i64 1) ?_
  refine zt ((b2.kept k6).kept k7) own24 own24 fun w8 k8 b8=> ?_
  refine zr (.int .i64 1) ?_
  iterate 5 go_step
  exact zret1b b8 own24 ⟨((K5.trans k6).trans k7).but k8 (by omega),.inr ⟨ho,rfl⟩⟩
end
structure PtD where
 name:ByteArray
 s:Bool
 N:Nat
 D:Nat
def ptR:World→List Value→PtD→Prop:=fun W l d=>∃(a1:Option Addr)(n1 c1:Nat)(a2:Option Addr)(n2 c2:Nat),
 l=[.string d.name,.bool d.s,.slice a1 n1 c1,.slice a2 n2 c2]∧Rt W (.agg #[.bool d.s,.slice a1 n1 c1,.slice a2 n2 c2]) d.s d.N d.D
theorem ptR_sub:∀w w',Sub w w'→∀l t,ptR w l t→ptR w' l t:=by
 rintro w w' k l t ⟨a1,n1,c1,a2,n2,c2,e,h⟩
 exact⟨a1,n1,c1,a2,n2,c2,e,h.sub k⟩
theorem faddF_pos{n d n' d':Nat}(s s':Bool):0<(faddF s n d s' n' d').2.2:=
 Nat.div_pos (Nat.le_of_dvd (Nat.mul_pos (dn_pos d) (dn_pos d')) (Nat.gcd_dvd_right _ _)) (Nat.gcd_pos_of_pos_right _ (Nat.mul_pos (dn_pos d) (dn_pos d')))
theorem div_gcd_pos{n d:Nat}(h:0<n):0<n/Nat.gcd n d:=Nat.div_pos (Nat.le_of_dvd h (Nat.gcd_dvd_left _ _)) (Nat.gcd_pos_of_pos_left _ h)
theorem sign_red(s:Bool)(n d:Nat):((s&&decide (0<n))&&decide (0<n/Nat.gcd n d))=(s&&decide (0<n)):=by
 by_cases h:0<n
 ·rw[decide_eq_true (div_gcd_pos (d:=d) h),Bool.and_true]
 ·rw[decide_eq_false h];cases s<;>rfl
theorem mid_sign(i:IvD):((midF i).1&&decide (0<(midF i).2.1))=(midF i).1:=by
 unfold midF
 split
 ·split
  ·rfl
  ·exact sign_red _ _ _
 ·split
  ·exact sign_red _ _ _
  ·exact sign_red _ _ _
theorem mid_den(i:IvD):0<(midF i).2.2:=by
 unfold midF
 split
 ·split
  ·decide
  ·exact faddF_pos _ _
 ·split
  ·exact faddF_pos _ _
  ·have h:0<(faddF (i.s1&&decide (0<i.N1)) (rN i.N1 i.D1) (rD i.N1 i.D1) (i.s2&&decide (0<i.N2)) (rN i.N2 i.D2) (rD i.N2 i.D2)).2.2:=faddF_pos _ _
   exact Nat.div_pos (Nat.le_of_dvd (Nat.mul_pos h (by decide)) (Nat.gcd_dvd_right _ _)) (Nat.gcd_pos_of_pos_right _ (Nat.mul_pos h (by decide)))
theorem mid_if(i:IvD):(if (midF i).2.2≤1 then 0 else(midF i).2.2)=(if (midF i).2.2=1 then 0 else(midF i).2.2):=by
 have:=mid_den i
 by_cases h:(midF i).2.2=1
 ·rw[if_pos h,if_pos (by omega)]
 ·rw[if_neg h,if_neg (by omega)]
def ptOf(d:SideD):PtD:=⟨d.name,(midF d.iv).1,(midF d.iv).2.1,if (midF d.iv).2.2=1 then 0 else(midF d.iv).2.2⟩
theorem rmiddle_num{w:World}{v:Value}{i:IvD}(h:Ivl w v i)(hf:i.fine=true)(hvd:i.void=false):
 Calls Tryz.prog 36 #[v] w (RetNum (midOk i) (midF i).1 (midF i).2.1 (if (midF i).2.2=1 then 0 else(midF i).2.2) w):=by
 have:=rmiddle_calls h hf hvd
 rwa [mid_sign,mid_if] at this
section
set_option maxHeartbeats 4000000
set_option maxRecDepth 100000
def Ptm(w:World)(a:Option Addr)(n cap:Nat)(l:List PtD):Prop:=
 n=l.length∧n≤cap∧∃cs:List Value,(∀i,i<cs.length→∃b,a=some ⟨b,0,none⟩∧w.cell? ⟨b,i,none⟩=cs[i]?)∧RowsIs (ptR w) 4 cs l
theorem info47:InfoIs 47 (.agg #[.string ⟨#[]⟩,.bool false,.slice none 0 0,.slice none 0 0]) 4 72:=infoIs (by kernel_rfl)
theorem own47{nm:ByteArray}{s1:Bool}{a1:Option Addr}{n1 c1:Nat}{a2:Option Addr}{n2 c2:Nat}:Own 47 #[.string nm,.bool s1,.slice a1 n1 c1,.slice a2 n2 c2]:=⟨by kernel_rfl,by simp[Value.oneCell']⟩
def midsOk(l:List SideD):Bool:=l.all fun d=>midOk d.iv
theorem midsOk_false{l:List SideD}{k:Nat}(h:k<l.length)(e:midOk l[k].iv=false):midsOk l=false:=by
 unfold midsOk
 rw[List.all_eq_false]
 exact⟨l[k],List.getElem_mem h,by rw[e];decide⟩
def RetPts(l:List SideD)(w:World)(e:Ending)(w':World):Prop:=Kept w w'∧((midsOk l=true∧∃a' cap',e= .returned (.tuple #[.slice a' l.length cap',.int .i64 0])∧Ptm (onlyW w' (ab w.heap.size)) a' l.length cap' (l.map ptOf))∨
 (midsOk l=false∧e= .returned (.tuple #[.slice none 0 0,.int .i64 1])))
theorem zretTT{fn:Func}{n d1 d2:Nat}{l:Fm}{w:World}{v x:Value}{R:Ending→World→Prop}(hR:R (.returned (.tuple #[v,x])) w)(h:fn.results=#[.tmp d1,.tmp d2]:=by rfl)(h1:opv n l (.tmp d1)=some v:=by rfl)(h2:opv n l (.tmp d2)=some x:=by rfl):bodyPost Tryz.prog fn R .ret (frm n l) w:=
 bodyPost_ret (res2 h h1 h2) rfl hR
theorem r5center_calls{w:World}{a:Option Addr}{n cap:Nat}{l:List SideD}(h:Bxm w a n cap l)(hok:boxOk l=true)(hall:∀k(hk:k<l.length),l[k].iv.fine=true∧l[k].iv.void=false)(h6:l.length≤6):
 Calls Tryz.prog 15 #[.slice a n cap] w (RetPts l w):=by
 have hv:=r5valid_calls h
 rw[hok] at hv
 obtain rfl:n=l.length:=h.1
 have HR:=fun(i:Nat)(hi:i<l.length)=>h.row hi
 clear h hok
 refine ent1 35 Tryz.func15 rfl Tryz.ntmps15 ?_
 iterate 2 go_step
 refine zr (.slice none 0 0) ?_
 refine zr (.int .i64 0) ?_
 iterate 6 go_step
 refine zr (.slice a l.length cap) ?_
 refine zc 34 _ hv ?_
 rintro e w1 ⟨rfl,k1⟩
 refine⟨_,rfl,?_⟩
 refine zr (.bool false) ?_
 iterate 3 go_step
 refine zt_false ?_
 iterate 5 go_step
 refine zr (.slice none 0 0) ?_
 iterate 6 go_step
 refine zr (.slice a l.length cap) ?_
 refine zr (.int .i64 l.length) ?_
 refine zr (.int .i64 0) ?_
 iterate 4 go_step
 refine zloopG (σ:=Option Addr×Nat×List Value×Nat) l.length (fun k s=>[(4,.slice s.1 k s.2.1),(12,.slice a l.length cap),(13,.int .i64 l.length),(14,.int .i64 k)])
  (fun k s W=>Grow w1 W w1.heap.size 47 4 (.slice s.1 k s.2.1) k s.2.2.1 ptR (l.map ptOf)∧∀j(hj:j<l.length),j<k→midOk l[j].iv=true) (none,0,[],0) ⟨rfl,rfl,rfl,rfl,trivial⟩ ⟨Grow.start ..,fun j hj h0=>by omega⟩ fun fl wr k ⟨a3,cap3,cs,_⟩ hk ⟨G,hgood⟩=> ?_
 have kr1:Kept w1 wr:=⟨G.kb.size,fun b hb=>G.kb.old b hb (Nat.ne_of_lt hb),G.kb.tape,G.kb.os,G.kb.output⟩
 have own_lt:=fun g hg=>World.ownsRow.lt G.own g hg
 have hsz:=kr1.size
 have kr:=k1.trans kr1
 iterate 3 go_step
 refine z2 (.bool (decide ((k:Int)<(l.length:Int)))) ?_
 iterate 4 go_step
 cases hlt:decide ((k:Int)<(l.length:Int))
 case' true=>
  have hlt:k<l.length:=by have:=of_decide_eq_true hlt;omega
  obtain⟨b,off,a1,n1,c1,a2,n2,c2,a4,n4,c4,a5,n5,c5,rfl,rV,r1,r2⟩:=HR k hlt
  refine zt_true ?_
  iterate 7 go_step
  refine zi (s:=9) k hlt ?_
  refine zl (V:=#[_,_,_,_,_,_,_,_,_]) ((Kept.sub kr).range rV) own41 ?_
  refine za Z9 45 fun wa g5 e5 ka b5 sa=> ?_
  refine zt b5 own41 own41 fun wb kb b5=> ?_
  replace ka:=ka.but kb (by omega)
  clear kb sa
  iterate 5 go_step
  refine zr (.pointer (some ⟨g5,1,none⟩)) ?_
  refine zl (V:=#[_,_,_,_,_,_,_,_]) (b5.part 1) own39 ?_
  have hI:Ivl wb (.agg #[.bool l[k].iv.s1,.slice a1 n1 c1,.slice a2 n2 c2,.bool l[k].iv.s2,.slice a4 n4 c4,.slice a5 n5 c5,.bool l[k].iv.li,.bool l[k].iv.hi]) l[k].iv:=⟨_,_,_,_,_,_,_,_,_,_,_,_,rfl,r1.kept (kr.trans ka),r2.kept (kr.trans ka)⟩
  refine zc 36 _ (rmiddle_num hI (hall k hlt).1 (hall k hlt).2) ?_
  rintro e w5 ⟨k5,⟨ho,u1,u2,u3,u4,u5,u6,rfl,hR⟩|⟨ho,rfl⟩⟩
  ·refine⟨_,rfl,?_⟩
   refine zr (.tuple #[.agg #[.bool (midF l[k].iv).1,.slice u1 u2 u3,.slice u4 u5 u6],.int .i64 0]) ?_
   refine zr (.agg #[.bool (midF l[k].iv).1,.slice u1 u2 u3,.slice u4 u5 u6]) ?_
   refine zr (.int .i64 0) ?_
   refine za ZR 24 fun w6 g6 e6 k6 b6 q6=> ?_
   refine zt b6 own24 own24 fun w7 k7 b7=> ?_
   refine zr (.int .i64 0) ?_
   iterate 6 go_step
   refine zr (.int .i64 0) ?_
   refine zr (.bool false) ?_
   iterate 3 go_step
   refine zt_false ?_
   iterate 4 go_step
   have q1:=kr.size
   have q2:=ka.size
   have q5:=k5.size
   have hb5:=b5.lt
   have K57:=(k5.trans k6).but k7 (by omega)
   have hR7:Rt (onlyW w7 (ab wb.heap.size)) (.agg #[.bool (midF l[k].iv).1,.slice u1 u2 u3,.slice u4 u5 u6]) (midF l[k].iv).1 (midF l[k].iv).2.1 (if (midF l[k].iv).2.2=1 then 0 else(midF l[k].iv).2.2):=
    hR.sub (only_move fun b hb hs=>⟨hs,(k7.old b (by have:=k6.size;omega) (by omega)).trans (k6.old b hb)⟩)
   have hk':k<(l.map ptOf).length:=by rw[List.length_map];exact hlt
   have hpt:(l.map ptOf)[k]=ptOf l[k]:=List.getElem_map _
   refine zr (.slice a3 k cap3) ?_
   refine zr (.pointer (some ⟨g5,0,none⟩)) ?_
   refine zl1 ((b5.kept K57).cell 0 rfl) ?_
   refine zl b7.range own24 ?_
   refine zr (.agg #[.string l[k].name,.bool (midF l[k].iv).1,.slice u1 u2 u3,.slice u4 u5 u6]) ?_
   refine zgrow (V:=#[.string l[k].name,.bool (midF l[k].iv).1,.slice u1 u2 u3,.slice u4 u5 u6]) info47 rfl (by decide) (by decide) Tryz.underlying39 (G.kept ptR_sub (ka.trans K57)) ptR_sub own47.2 rfl hk' (by omega)
    (T:=ab wb.heap.size) (by rw[hpt];exact⟨_,_,_,_,_,_,rfl,hR7⟩) (fun b hb=> ?_) (by kernel_rfl) fun wc a' cap' G'=> ?_
   ·unfold ab at hb
    simp only[decide_eq_true_eq] at hb
    refine⟨by have:=kr1.size;omega,fun he=> ?_⟩
    have:=(own_lt b he.symm).2
    omega
   refine zr (.slice a' (k+1) cap') ?_
   iterate 4 go_step
   refine z2 (.int .i64 ((k+1:Nat):Int)) (hrun:=run_inc (by omega)) ?_
   refine zr (.int .i64 ((k+1:Nat):Int)) ?_
   iterate 3 go_step
   exact⟨_,(a',cap',_,0),rfl,hlt,⟨rfl,rfl,rfl,rfl,trivial⟩,G',fun j hj h0=>by
    by_cases he:j=k
    ·subst he;exact ho
    ·exact hgood j hj (by omega)⟩
  ·refine⟨_,rfl,?_⟩
   refine zr (.tuple #[.agg ZR,.int .i64 1]) ?_
   refine zr (.agg ZR) ?_
   refine zr (.int .i64 1) ?_
   refine za ZR 24 fun w6 g6 e6 k6 b6 q6=> ?_
   refine zt b6 own24 own24 fun w7 k7 b7=> ?_
   refine zr (.int .i64 1) ?_
   iterate 6 go_step
   refine zr (.int .i64 1) ?_
   refine zr (.bool true) ?_
   iterate 3 go_step
   refine zt_true ?_
   iterate 2 go_step
   refine zr (.int .i64 1) ?_
   refine zr (.slice none 0 0) ?_
   refine zr (.int .i64 1) ?_
   iterate 7 go_step
   have q1:=kr.size
   have q2:=ka.size
   have q5:=k5.size
   exact zretTT ⟨(((kr.trans ka).trans k5).trans k6).but k7 (by omega),.inr ⟨midsOk_false hlt ho,rfl⟩⟩
 case' false=>
  obtain rfl:k=l.length:=by have:=of_decide_eq_false hlt;omega
  refine zt_false ?_
  iterate 7 go_step
  refine zr (.slice a3 l.length cap3) ?_
  refine zr (.slice a3 l.length cap3) ?_
  refine zr (.int .i64 0) ?_
  iterate 4 go_step
  have hm:(l.map ptOf).length=l.length:=List.length_map _
  have G':Grow w1 wr w1.heap.size 47 4 (.slice a3 (l.map ptOf).length cap3) (l.map ptOf).length cs ptR (l.map ptOf):=by rw[hm];exact G
  obtain⟨hcap,hcell,hrows⟩:=G'.done ptR_sub (N:=w.heap.size) k1.size (fun b _ _=>rfl)
  have hall2:midsOk l=true:=by
   unfold midsOk
   rw[List.all_eq_true]
   intro d hd
   obtain⟨j,hj,rfl⟩:=List.getElem_of_mem hd
   exact hgood j hj hj
  exact zretTT ⟨kr,.inl ⟨hall2,a3,cap3,rfl,hm.symm,by rw[hm] at hcap;exact hcap,cs,hcell,hrows⟩⟩
end
section
set_option maxHeartbeats 4000000
set_option maxRecDepth 100000
def RetR(s:Bool)(N D:Nat)(w:World)(e:Ending)(w':World):Prop:=Kept w w'∧∃a1 n1 c1 a2 n2 c2,e= .returned (.agg #[.bool s,.slice a1 n1 c1,.slice a2 n2 c2])∧Rt (onlyW w' (ab w.heap.size)) (.agg #[.bool s,.slice a1 n1 c1,.slice a2 n2 c2]) s N D
theorem rt_slices{w:World}{v:Value}{s:Bool}{N D:Nat}(h:Rt w v s N D):∃a1 n1 c1 a2 n2 c2,v= .agg #[.bool s,.slice a1 n1 c1,.slice a2 n2 c2]:=by
 obtain⟨vn,vd,rfl,hn,hd⟩:=h
 obtain⟨p1,p2,p3,zs,rfl,-⟩:=hn
 obtain⟨q1,q2,q3,ys,rfl,-⟩:=hd
 exact⟨_,_,_,_,_,_,rfl⟩
theorem cloneRat_calls{w:World}{v:Value}{s:Bool}{N D:Nat}(h:Rt w v s N D)(hs:small N D=true)(hT:Laid w):
 Calls Tryz.prog 28 #[v] w (RetR (s&&decide (0<N)) (rN N D) (cD N D) w):=by
 have hc:=fun(W:World)(k:Kept w W)=>canon_calls (h.kept k) hs (hT.kept k)
 obtain⟨p1,p2,p3,p4,p5,p6,rfl⟩:=rt_slices h
 clear h hs hT
 unfold RetR
 generalize (s&&decide (0<N))=S at*
 generalize rN N D=N' at*
 generalize cD N D=D' at*
 refine ent1 8 Tryz.func28 rfl Tryz.ntmps28 ?_
 iterate 3 go_step
 refine zb fun w1 g1 e1 k1 b1 q1=> ?_
 refine za ZR 24 fun w2 g2 e2 k2 b2 q2=> ?_
 replace b1:=b1.kept k2
 have K:=k1.trans k2
 iterate 5 go_step
 refine zl b1.range own24 ?_
 refine zc 60 _ (hc _ K) ?_
 rintro e w3 ⟨a1,n1,c1,a2,n2,c2,rfl,hR,k3⟩
 refine⟨_,rfl,?_⟩
 refine zr (.tuple #[.agg #[.bool S,.slice a1 n1 c1,.slice a2 n2 c2],.int .i64 0]) ?_
 refine zr (.agg #[.bool S,.slice a1 n1 c1,.slice a2 n2 c2]) ?_
 refine zr (.int .i64 0) ?_
 refine zt (b1.kept k3) own24 own24 fun w4 k4 b4=> ?_
 iterate 5 go_step
 refine zl b4.range own24 ?_
 refine zt ((b2.kept k3).keptB k4 (by omega)) own24 own24 fun w5 k5 b5=> ?_
 iterate 5 go_step
 refine zret1 b5 own24 ⟨((K.trans k3).but k4 (by omega)).but k5 (by omega),_,_,_,_,_,_,rfl,hR.sub (only_move fun b hb hs=> ?_)⟩
 unfold ab at hs⊢
 simp only[decide_eq_true_eq] at hs⊢
 exact⟨by omega,(k5.old b (by have:=k4.size;omega) (by omega)).trans (k4.old b hb (by omega))⟩
def endS(d:SideD)(u:Bool):Bool:=if u then d.iv.s2&&decide (0<d.iv.N2) else d.iv.s1&&decide (0<d.iv.N1)
def endN(d:SideD)(u:Bool):Nat:=if u then rN d.iv.N2 d.iv.D2 else rN d.iv.N1 d.iv.D1
def endD(d:SideD)(u:Bool):Nat:=if u then cD d.iv.N2 d.iv.D2 else cD d.iv.N1 d.iv.D1
def cornP(d:SideD)(u:Bool):PtD:=⟨d.name,endS d u,endN d u,endD d u⟩
end
section
set_option maxHeartbeats 4000000
set_option maxRecDepth 100000
def RetV(p:PtD)(w:World)(e:Ending)(w':World):Prop:=Kept w w'∧∃a1 n1 c1 a2 n2 c2,e= .returned (.agg #[.string p.name,.bool p.s,.slice a1 n1 c1,.slice a2 n2 c2])∧Rt (onlyW w' (ab w.heap.size)) (.agg #[.bool p.s,.slice a1 n1 c1,.slice a2 n2 c2]) p.s p.N p.D
theorem dropped_calls{f:Nat}{w:World}{v:Value}{c:ClaimD}(h:Clm w f v c){k:Nat}(hk:k<c.box.length)(hs:sideAt c.box 0 c.box[k].name=(k:Int))(hf:c.box[k].iv.fine=true)(hT:Laid w)(u:Bool):
 Calls Tryz.prog 10 #[v,.string c.box[k].name,.bool u] w (RetV (cornP c.box[k] u) w):=by
 obtain⟨o,g,z,x1,x2,x3,x4,x5,x6,nm,a0,n0,cap0,a1,n1,cap1,a2,n2,cap2,rfl,hg,hb,hc⟩:=h
 have hfind:=fun(W:World)(q:Kept w W)=>efind_calls (hb.kept q) c.box[k].name hk hs
 have s1:small c.box[k].iv.N1 c.box[k].iv.D1=true:=by have hf:(small c.box[k].iv.N1 c.box[k].iv.D1&&small c.box[k].iv.N2 c.box[k].iv.D2)=true:=hf;simp only[Bool.and_eq_true] at hf;exact hf.1
 have s2:small c.box[k].iv.N2 c.box[k].iv.D2=true:=by have hf:(small c.box[k].iv.N1 c.box[k].iv.D1&&small c.box[k].iv.N2 c.box[k].iv.D2)=true:=hf;simp only[Bool.and_eq_true] at hf;exact hf.2
 clear hg hb hc hs hf
 obtain⟨P,hP⟩:∃P,P=cornP c.box[k] u:=⟨_,rfl⟩
 rw[←hP]
 refine entL [_,_,_] 26 Tryz.func10 rfl Tryz.ntmps10 (by simp) ?_
 iterate 2 go_step
 refine zb fun w1 g1 e1 k1 b1 q1=> ?_
 refine za #[.string ⟨#[]⟩,.bool false,.slice none 0 0,.slice none 0 0] 47 fun w2 g2 e2 k2 b2 q2=> ?_
 replace b1:=b1.kept k2
 have K:=k1.trans k2
 iterate 5 go_step
 refine zr (.pointer (some ⟨g1,8,none⟩)) ?_
 refine zl1 (b1.cell 8 rfl) ?_
 refine zr (.string c.box[k].name) ?_
 refine zc 27 _ (hfind _ K) ?_
 rintro e w3 ⟨v3,rfl,hI,k3⟩
 refine⟨_,rfl,?_⟩
 obtain⟨y1,y2,y3,y4,y5,y6,y7,y8,y9,ya,yb,yc,rfl,r1,r2⟩:=hI
 replace r1:=r1.sub (only_sub _ _)
 replace r2:=r2.sub (only_sub _ _)
 refine zr (.tuple #[.agg #[.bool c.box[k].iv.s1,.slice y1 y2 y3,.slice y4 y5 y6,.bool c.box[k].iv.s2,.slice y7 y8 y9,.slice ya yb yc,.bool c.box[k].iv.li,.bool c.box[k].iv.hi],.bool true]) ?_
 refine zr (.agg #[.bool c.box[k].iv.s1,.slice y1 y2 y3,.slice y4 y5 y6,.bool c.box[k].iv.s2,.slice y7 y8 y9,.slice ya yb yc,.bool c.box[k].iv.li,.bool c.box[k].iv.hi]) ?_
 refine zr (.bool true) ?_
 refine za ZI 43 fun w4 g4 e4 k4 b4 q4=> ?_
 refine zt b4 own39 own39 fun w5 k5 b5=> ?_
 refine zr (.bool true) ?_
 iterate 5 go_step
 refine zr (.pointer (some ⟨g4,0,none⟩)) ?_
 refine zl (V:=#[_,_,_]) (b5.part 0) own24 ?_
 refine za ZR 24 fun w6 g6 e6 k6 b6 q6=> ?_
 refine zt b6 own24 own24 fun w7 k7 b7=> ?_
 iterate 6 go_step
 have q3:=k3.size
 have q5:=k5.size
 have k35:Kept w3 w5:=k4.but k5 (by omega)
 have k57:Kept w5 w7:=k6.but k7 (by omega)
 have k37:=k35.trans k57
 replace r1:=r1.kept k37
 have r2o:=r2
 replace r2:=r2.kept k37
 replace b5:=b5.kept k57
 replace b2:=(b2.kept k3).kept k37
 replace K:=(K.trans k3).trans k37
 have hg6:w3.heap.size≤g6:=by have:=k4.size;omega
 have hg2:w.heap.size≤g2∧g2<g4∧g4<g6∧w.heap.size≤g4:=by have:=k1.size;omega
 clear k1 k2 k3 k4 k5 k6 k7 k35 k57 b1 b4 b6
 refine zr (.bool u) ?_
 iterate 3 go_step
 rename_i K2 hK2
 have rest:∀(fl:Fm)(W:World)(s:Bool)(N D:Nat)(p1:Option Addr)(p2 p3:Nat)(p4:Option Addr)(p5 p6:Nat),sees fl [(1,.string c.box[k].name),(6,.pointer (some ⟨g2,0,none⟩)),(9,.pointer (some ⟨g6,0,none⟩))]→
  Kept w W→Blk W g2 #[.string ⟨#[]⟩,.bool false,.slice none 0 0,.slice none 0 0] 47→Blk W g6 #[.bool s,.slice p1 p2 p3,.slice p4 p5 p6] 24→Rt W (.agg #[.bool s,.slice p1 p2 p3,.slice p4 p5 p6]) s N D→small N D=true→
  P=⟨c.box[k].name,s&&decide (0<N),rN N D,cD N D⟩→K2 (frm 26 fl) W:=by
  intro fl W s N D p1 p2 p3 p4 p5 p6 hse K b2 b6 hR hsm hM
  refine hK2 _ _ ?_
  rw[←look_eq hse]
  subst hM
  iterate 3 go_step
  refine zr (.string c.box[k].name) ?_
  refine zl b6.range own24 ?_
  refine zc 28 _ (cloneRat_calls hR hsm (hT.kept K)) ?_
  rintro e wa ⟨ka,d1,d2,d3,d4,d5,d6,rfl,hRa⟩
  refine⟨_,rfl,?_⟩
  refine zr (.agg #[.string c.box[k].name,.bool (s&&decide (0<N)),.slice d1 d2 d3,.slice d4 d5 d6]) ?_
  have hb2:=b2.lt
  have hK:=K.size
  refine zt (b2.kept ka) own47 own47 fun wb kb bb=> ?_
  iterate 5 go_step
  exact zret1 bb own47 ⟨(K.trans ka).but kb (by omega),_,_,_,_,_,_,rfl,rt_but hRa kb (by omega) (by omega)⟩
 cases u
 ·refine zt_false ?_
  iterate 2 go_step
  exact rest _ _ _ _ _ _ _ _ _ _ _ ⟨rfl,rfl,rfl,trivial⟩ K b2 b7 r1 s1 hP
 ·refine zt_true ?_
  go_step
  refine zr (.pointer (some ⟨g4,3,none⟩)) ?_
  refine zl (V:=#[_,_,_]) (b5.part 3) own24 ?_
  refine zt b7 own24 own24 fun w8 k8 b8=> ?_
  iterate 2 go_step
  exact rest _ _ _ _ _ _ _ _ _ _ _ ⟨rfl,rfl,rfl,trivial⟩ (K.but k8 (by omega)) (b2.keptB k8 (by omega)) b8 (r2o.kept (k37.but k8 hg6)) s2 hP
end
section
set_option maxHeartbeats 4000000
set_option maxRecDepth 100000
theorem rfinite_calls{w:World}{v:Value}{p1:Bool}{n1 d1:Nat}{p2:Bool}{n2 d2:Nat}{li hi:Bool}(h:Iq w v p1 n1 d1 p2 n2 d2 li hi false):
 Calls Tryz.prog 16 #[v] w fun e w'=>e= .returned (.bool (!li&& !hi))∧Kept w w':=by
 obtain⟨a,n,c,a',n',c',b,m,e,b',m',e',rfl⟩:=iq_slices h
 clear h
 refine ent1 14 Tryz.func16 rfl Tryz.ntmps16 ?_
 iterate 3 go_step
 refine zb fun w1 g1 e1 k1 b1 q1=> ?_
 refine zr (.bool false) ?_
 iterate 5 go_step
 refine zr (.pointer (some ⟨g1,8,none⟩)) ?_
 refine zl1 (b1.cell 8 rfl) ?_
 refine zr (.bool false) ?_
 refine zwant ?_
 refine zr (.pointer (some ⟨g1,6,none⟩)) ?_
 refine zwant ?_
 refine zl1 (b1.cell 6 rfl) ?_
 refine zwant ?_
 refine zr (.bool !li) ?_
 refine zwant ?_
 refine zr (.bool !li) ?_
 cases li
 ·refine zwant ?_
  refine zr (.pointer (some ⟨g1,7,none⟩)) ?_
  refine zwant ?_
  refine zl1 (b1.cell 7 rfl) ?_
  refine zwant ?_
  refine zr (.bool !hi) ?_
  refine zwant ?_
  refine zr (.bool !hi) ?_
  refine zr (.bool !hi) ?_
  refine zr (.bool !hi) ?_
  iterate 5 go_step
  exact zretT ⟨rfl,k1⟩
 ·refine zskw ?_
  refine zskw ?_
  refine zskw ?_
  refine zwant ?_
  refine zr (.bool false) ?_
  refine zr (.bool false) ?_
  refine zr (.bool false) ?_
  iterate 5 go_step
  exact zretT ⟨rfl,k1⟩
end
section
set_option maxHeartbeats 4000000
set_option maxRecDepth 100000
def Ptv(w:World)(v:Value)(p:PtD):Prop:=∃(a1:Option Addr)(n1 c1:Nat)(a2:Option Addr)(n2 c2:Nat),v= .agg #[.string p.name,.bool p.s,.slice a1 n1 c1,.slice a2 n2 c2]∧Rt w (.agg #[.bool p.s,.slice a1 n1 c1,.slice a2 n2 c2]) p.s p.N p.D
def ptCmp(p q:PtD):Int:=qcmp (p.s&&decide (0<p.N)) (rN p.N p.D) (rD p.N p.D) (q.s&&decide (0<q.N)) (rN q.N q.D) (rD q.N q.D)
def ptSame(p q:PtD):Bool:=(p.name.toList==q.name.toList)&&(ptCmp p q==0)
theorem same1_calls{w:World}{v u:Value}{p q:PtD}(h:Ptv w v p)(h':Ptv w u q)(hT:Laid w)(hs:small p.N p.D=true)(hs':small q.N q.D=true):
 Calls Tryz.prog 31 #[v,u] w fun e w'=>e= .returned (.bool (ptSame p q))∧Kept w w':=by
 obtain⟨a1,n1,c1,a2,n2,c2,rfl,r1⟩:=h
 obtain⟨b1,m1,d1,b2,m2,d2,rfl,r2⟩:=h'
 have hcmp:=fun(W:World)(k:Kept w W)=>compare_calls (r1.kept k) (r2.kept k) (hT.kept k) hs hs'
 have HR:Hid (ptSame p q=((p.name.toList==q.name.toList)&&(ptCmp p q==0))):=Lib.hid rfl
 change ∀(W:World)(k:Kept w W),Calls Tryz.prog 32 _ W fun e w'=>e= .returned (.tuple #[.int .i64 (ptCmp p q),.int .i64 0])∧Kept W w' at hcmp
 clear r1 r2 hT hs hs'
 generalize ptSame p q=res at*
 generalize ptCmp p q=cm at*
 refine entL [_,_] 28 Tryz.func31 rfl Tryz.ntmps31 (by simp) ?_
 iterate 3 go_step
 refine zb fun w1 g1 e1 k1 p1 s1=> ?_
 refine zb fun w2 g2 e2 k2 p2 s2=> ?_
 replace p1:=p1.kept k2
 have K:=k1.trans k2
 refine zr (.bool false) ?_
 iterate 5 go_step
 refine zr (.pointer (some ⟨g1,1,none⟩)) ?_
 refine zl (V:=#[_,_,_]) (p1.part 1) own24 ?_
 refine zr (.pointer (some ⟨g2,1,none⟩)) ?_
 refine zl (V:=#[_,_,_]) (p2.part 1) own24 ?_
 refine zc 32 _ (hcmp _ K) ?_
 rintro e w3 ⟨rfl,k3⟩
 refine⟨_,rfl,?_⟩
 refine zr (.tuple #[.int .i64 cm,.int .i64 0]) ?_
 refine zr (.int .i64 cm) ?_
 refine zr (.int .i64 0) ?_
 refine zr (.int .i64 cm) ?_
 refine zr (.int .i64 0) ?_
 iterate 5 go_step
 refine zr (.pointer (some ⟨g1,0,none⟩)) ?_
 refine zl1 ((p1.kept k3).cell 0 rfl) ?_
 refine zr (.pointer (some ⟨g2,0,none⟩)) ?_
 refine zl1 ((p2.kept k3).cell 0 rfl) ?_
 refine zr (.bool (p.name.toList==q.name.toList)) ?_
 refine zr (.bool (p.name.toList==q.name.toList)) ?_
 have K3:=K.trans k3
 clear hcmp p1 p2
 cases hn:(p.name.toList==q.name.toList)
 ·refine zskw ?_
  refine zskw ?_
  refine zr (.bool false) ?_
  refine zr (.bool false) ?_
  refine zskw ?_
  refine zskw ?_
  refine zr (.bool false) ?_
  refine zr (.bool false) ?_
  iterate 5 go_step
  exact zretT ⟨by rw[HR.out,hn,Bool.false_and],K3⟩
 ·refine zwant ?_
  refine zr (.int .i64 cm) ?_
  refine zwant ?_
  refine zr (.bool (cm==0)) ?_
  refine zr (.bool (cm==0)) ?_
  refine zr (.bool (cm==0)) ?_
  cases hc:(cm==0)
  ·refine zskw ?_
   refine zskw ?_
   refine zr (.bool false) ?_
   refine zr (.bool false) ?_
   iterate 5 go_step
   exact zretT ⟨by rw[HR.out,hn,hc];first|done|rfl,K3⟩
  ·refine zwant ?_
   refine zr (.int .i64 0) ?_
   refine zwant ?_
   refine zr (.bool true) ?_
   refine zr (.bool true) ?_
   refine zr (.bool true) ?_
   iterate 5 go_step
   exact zretT ⟨by rw[HR.out,hn,hc];first|done|rfl,K3⟩
end
section
set_option maxHeartbeats 4000000
set_option maxRecDepth 100000
theorem Ptm.row{w:World}{a:Option Addr}{n cap:Nat}{l:List PtD}(h:Ptm w a n cap l){i:Nat}(hi:i<l.length):∃b a1 n1 c1 a2 n2 c2,a=some ⟨b,0,none⟩∧
 w.rangeAt b (0+i*4) [.string l[i].name,.bool l[i].s,.slice a1 n1 c1,.slice a2 n2 c2]∧Rt w (.agg #[.bool l[i].s,.slice a1 n1 c1,.slice a2 n2 c2]) l[i].s l[i].N l[i].D:=by
 obtain⟨hn,hc,cs,hcell,hrows⟩:=h
 have hlen:i*4+4≤cs.length:=by rw[hrows.1];omega
 obtain⟨b,ha,-⟩:=hcell (i*4) (by omega)
 obtain⟨a1,n1,c1,a2,n2,c2,e,hR⟩:=hrows.2 i hi
 refine⟨b,a1,n1,c1,a2,n2,c2,ha,?_,hR⟩
 intro j v hj
 have hj4:j<4:=by
  rcases Nat.lt_or_ge j 4 with h|h
  ·exact h
  ·rw[List.getElem?_eq_none (by simpa using h)] at hj;cases hj
 obtain⟨b',ha',hc'⟩:=hcell (i*4+j) (by omega)
 rw[ha] at ha'
 cases ha'
 rw[Nat.zero_add,hc',←hj,←e]
 simp[hj4]
theorem Ptm.kept{w w':World}{a:Option Addr}{n cap:Nat}{l:List PtD}(h:Ptm w a n cap l)(k:Kept w w'):Ptm w' a n cap l:=by
 obtain⟨hn,hc,cs,hcell,hrows⟩:=h
 refine⟨hn,hc,cs,fun i hi=> ?_,hrows.mono (ptR_sub _ _ (Kept.sub k))⟩
 obtain⟨b,ha,hx⟩:=hcell i hi
 exact⟨b,ha,by rw[List.getElem?_eq_getElem hi] at hx⊢;exact k.cell hx⟩
def ptsSame:List PtD→List PtD→Bool
 |[],[]=>true
 |p::l,q::m=>ptSame p q&&ptsSame l m
 |_,_=>false
theorem ptsSame_len:∀{l m:List PtD},l.length≠m.length→ptsSame l m=false
 |[],[],h=>absurd rfl h
 |[],_::_,_=>rfl
 |_::_,[],_=>rfl
 |p::l,q::m,h=>by
  rw[ptsSame,ptsSame_len (by simpa using h),Bool.and_false]
theorem ptsSame_drop{l m:List PtD}{k:Nat}(h:k<l.length)(h':k<m.length):ptsSame (l.drop k) (m.drop k)=(ptSame l[k] m[k]&&ptsSame (l.drop (k+1)) (m.drop (k+1))):=by
 rw[List.drop_eq_getElem_cons h,List.drop_eq_getElem_cons h',ptsSame]
def ptsOk(l:List PtD):Prop:=∀i(hi:i<l.length),small l[i].N l[i].D=true
end
section
set_option maxHeartbeats 4000000
set_option maxRecDepth 100000
theorem eqpts_calls{w:World}{a:Option Addr}{n cap:Nat}{l:List PtD}{a':Option Addr}{n' cap':Nat}{m:List PtD}(h:Ptm w a n cap l)(h':Ptm w a' n' cap' m)(hT:Laid w)(ho:ptsOk l)(ho':ptsOk m)(hl:l.length≤1000000):
 Calls Tryz.prog 30 #[.slice a n cap,.slice a' n' cap',.func (.func 31) #[] #[]] w fun e w'=>e= .returned (.bool (ptsSame l m))∧Kept w w':=by
 obtain rfl:n=l.length:=h.1
 obtain rfl:n'=m.length:=h'.1
 have HR:=fun(i:Nat)(hi:i<l.length)=>h.row hi
 have HR':=fun(i:Nat)(hi:i<m.length)=>h'.row hi
 clear h h'
 refine entL [_,_,_] 32 Tryz.func30 rfl Tryz.ntmps30 (by simp) ?_
 iterate 3 go_step
 refine zr (.bool false) ?_
 iterate 6 go_step
 refine zr (.slice a l.length cap) ?_
 refine zr (.int .i64 l.length) ?_
 refine zr (.slice a' m.length cap') ?_
 refine zr (.int .i64 m.length) ?_
 refine zr (.bool ((l.length:Int) !=(m.length:Int))) ?_
 iterate 3 go_step
 cases hne:((l.length:Int) !=(m.length:Int))
 case' true=>
  refine zt_true ?_
  iterate 2 go_step
  refine zr (.bool false) ?_
  iterate 6 go_step
  exact zretT ⟨by rw[ptsSame_len (fun e=>by rw[e] at hne;simp at hne)],Kept.refl w⟩
 have hlen:l.length=m.length:=by simp at hne;omega
 refine zt_false ?_
 iterate 6 go_step
 refine zr (.slice a l.length cap) ?_
 refine zr (.int .i64 l.length) ?_
 refine zr (.int .i64 0) ?_
 iterate 4 go_step
 refine zloopG (σ:=Unit) l.length (fun k _=>[(1,.slice a' m.length cap'),(2,.func (.func 31) #[] #[]),(15,.slice a l.length cap),(16,.int .i64 l.length),(17,.int .i64 k)])
  (fun k _ W=>Kept w W∧ptsSame l m=ptsSame (l.drop k) (m.drop k)) () ⟨rfl,rfl,rfl,rfl,rfl,trivial⟩ ⟨Kept.refl w,rfl⟩ fun fl wr k _ hk ⟨kr,hsame⟩=> ?_
 iterate 3 go_step
 refine z2 (.bool (decide ((k:Int)<(l.length:Int)))) ?_
 iterate 4 go_step
 cases hlt:decide ((k:Int)<(l.length:Int))
 case' true=>
  have hlt:k<l.length:=by have:=of_decide_eq_true hlt;omega
  have hlt':k<m.length:=by omega
  obtain⟨b,a1,n1,c1,a2,n2,c2,rfl,rV,r1⟩:=HR k hlt
  obtain⟨b',u1,u2,u3,u4,u5,u6,rfl,rV',r2⟩:=HR' k hlt'
  rw[ptsSame_drop hlt hlt'] at hsame
  refine zt_true ?_
  iterate 7 go_step
  refine zr (.int .i64 k) ?_
  refine zi (s:=4) k hlt ?_
  refine zl (V:=#[_,_,_,_]) ((Kept.sub kr).range rV) own47 ?_
  refine za #[.string ⟨#[]⟩,.bool false,.slice none 0 0,.slice none 0 0] 47 fun w1 g1 e1 k1 b1 q1=> ?_
  refine zr (.int .i64 k) ?_
  refine zt b1 own47 own47 fun w2 k2 b2=> ?_
  iterate 5 go_step
  have K2:=kr.trans (k1.but k2 (by omega))
  refine zr (.slice (some ⟨b',0,none⟩) m.length cap') ?_
  refine zr (.int .i64 k) ?_
  refine zi (s:=4) k hlt' ?_
  refine zl (V:=#[_,_,_,_]) ((Kept.sub K2).range rV') own47 ?_
  refine za #[.string ⟨#[]⟩,.bool false,.slice none 0 0,.slice none 0 0] 47 fun w3 g3 e3 k3 b3 q3=> ?_
  refine zt b3 own47 own47 fun w4 k4 b4=> ?_
  iterate 5 go_step
  have k24:=k3.but k4 (by omega:w2.heap.size≤g3)
  have K4:=K2.trans k24
  refine zr (.func (.func 31) #[] #[]) ?_
  refine zl (b2.kept k24).range own47 ?_
  refine zl b4.range own47 ?_
  refine zc 31 _ (same1_calls ⟨_,_,_,_,_,_,rfl,r1.kept K4⟩ ⟨_,_,_,_,_,_,rfl,r2.kept K4⟩ (hT.kept K4) (ho k hlt) (ho' k hlt')) ?_
  rintro e w5 ⟨rfl,k5⟩
  refine⟨_,rfl,?_⟩
  refine zr (.bool !(ptSame l[k] m[k])) ?_
  iterate 3 go_step
  cases hp:ptSame l[k] m[k]
  ·refine zt_true ?_
   iterate 2 go_step
   refine zr (.bool false) ?_
   iterate 8 go_step
   exact zretT ⟨by rw[hsame,hp,Bool.false_and],K4.trans k5⟩
  ·refine zt_false ?_
   iterate 4 go_step
   refine z2 (.int .i64 ((k+1:Nat):Int)) (hrun:=run_inc (by omega)) ?_
   refine zr (.int .i64 ((k+1:Nat):Int)) ?_
   iterate 3 go_step
   exact⟨_,(),rfl,hlt,⟨rfl,rfl,rfl,rfl,rfl,trivial⟩,K4.trans k5,by rw[hsame,hp,Bool.true_and]⟩
 case' false=>
  obtain rfl:k=l.length:=by have:=of_decide_eq_false hlt;omega
  refine zt_false ?_
  iterate 7 go_step
  refine zr (.bool true) ?_
  iterate 5 go_step
  exact zretT ⟨by rw[hsame,List.drop_length,hlen,List.drop_length,ptsSame],kr⟩
theorem same_calls{w:World}{a:Option Addr}{n cap:Nat}{l:List PtD}{a':Option Addr}{n' cap':Nat}{m:List PtD}(h:Ptm w a n cap l)(h':Ptm w a' n' cap' m)(hT:Laid w)(ho:ptsOk l)(ho':ptsOk m)(hl:l.length≤1000000):
 Calls Tryz.prog 13 #[.slice a n cap,.slice a' n' cap'] w fun e w'=>e= .returned (.bool (ptsSame l m))∧Kept w w':=by
 have hc:=eqpts_calls h h' hT ho ho' hl
 refine entL [_,_] 8 Tryz.func13 rfl Tryz.ntmps13 (by simp) ?_
 iterate 3 go_step
 refine zr (.bool false) ?_
 iterate 5 go_step
 refine zr (.slice a n cap) ?_
 refine zr (.slice a' n' cap') ?_
 refine zc 30 _ hc ?_
 rintro e w1 ⟨rfl,k1⟩
 refine⟨_,rfl,?_⟩
 refine zr (.bool (ptsSame l m)) ?_
 iterate 5 go_step
 exact zretT ⟨rfl,k1⟩
end
section
set_option maxHeartbeats 4000000
set_option maxRecDepth 100000
theorem sides1s_calls{w:World}{gb L:Nat}{a:Option Addr}{n cap:Nat}{l:List SideD}{J:Nat→World→Prop}{Jx:World→Prop}
 (hc:∀k W,J k W→W.cell? ⟨gb,0,none⟩=some (.slice a n cap)∧Bxm W a n cap l)
 (hY:∀k(hk:k<l.length) W0 W V,J k W0→Kept W0 W→Own 45 V→sideR (onlyW W (ab W0.heap.size)) V.toList l[k]→YieldAt Fence.wide 0 Tryz.prog L #[.int .i64 k,.agg V] W fun e W'=>(e= .returned (.bool true)∧J (k+1) W')∨(e= .returned (.bool false)∧Jx W'))
 (h0:J 0 w):Calls Tryz.prog 116 #[.func (.yield L) #[] #[],.pointer (some ⟨gb,0,none⟩)] w fun e w'=>(∃v,e= .returned v)∧(J l.length w'∨Jx w'):=by
 obtain⟨hc0,hB0⟩:=hc 0 w h0
 obtain rfl:n=l.length:=hB0.1
 refine entL [_,_] 23 Tryz.func116 rfl Tryz.ntmps116 (by simp) ?_
 iterate 3 go_step
 refine zl1 hc0 ?_
 refine zr (.int .i64 l.length) ?_
 refine zz ?_
 iterate 4 go_step
 refine zloop l.length (fun k=>[(0,.func (.yield L) #[] #[]),(1,.pointer (some ⟨gb,0,none⟩)),(5,.slice a l.length cap),(6,.int .i64 l.length),(7,.int .i64 k)])
  (fun k W=>J k W) ⟨rfl,rfl,rfl,rfl,rfl,trivial⟩ h0 fun fl wr k hk hj=> ?_
 obtain⟨-,hB⟩:=hc k wr hj
 have hbd:l.length<4611686018427387904:=hB.2.2.1
 iterate 3 go_step
 refine z2 (.bool (decide ((k:Int)<(l.length:Int)))) ?_
 iterate 4 go_step
 cases hlt:decide ((k:Int)<(l.length:Int))
 case' false=>
  obtain rfl:k=l.length:=by have:=of_decide_eq_false hlt;omega
  refine zt_false ?_
  iterate 5 go_step
  exact zret0 fun v=>⟨⟨v,rfl⟩,.inl hj⟩
 have hlt:k<l.length:=by have:=of_decide_eq_true hlt;omega
 obtain⟨b,off,a1,n1,c1,a2,n2,c2,a3,n3,c3,a4,n4,c4,rfl,rV,r1,r2⟩:=hB.row hlt
 refine zt_true ?_
 iterate 7 go_step
 refine zz ?_
 refine zi (s:=9) k hlt ?_
 refine zl (V:=#[_,_,_,_,_,_,_,_,_]) rV own41 ?_
 refine za Z9 45 fun wa g4 ea ka b4 sa=> ?_
 refine zz ?_
 refine zt b4 own41 own41 fun wb kb b4=> ?_
 have kab:=ka.but kb (by omega)
 iterate 4 go_step
 refine(wpIn_wide (n:=1)).1 (wpIn_region_any (by kernel_rfl) ?_)
 have kd:Kept wr {wb with drawn:=wb.drawn+1}:=kab.trans ⟨Nat.le_refl _,fun _ _=>rfl,rfl,rfl,rfl⟩
 replace b4:Blk {wb with drawn:=wb.drawn+1} g4 _ 45:=b4
 generalize ({wb with drawn:=wb.drawn+1}:World)=w0 at kd b4⊢
 have q0:=kd.size
 have hv:∀W,Kept w0 W→Ivl W (.agg #[.bool l[k].iv.s1,.slice a1 n1 c1,.slice a2 n2 c2,.bool l[k].iv.s2,.slice a3 n3 c3,.slice a4 n4 c4,.bool l[k].iv.li,.bool l[k].iv.hi]) l[k].iv:=fun W K=>⟨_,_,_,_,_,_,_,_,_,_,_,_,rfl,r1.kept (kd.trans K),r2.kept (kd.trans K)⟩
 refine iz 0 ?_
 refine iz 1 ?_
 refine iz 2 ?_
 refine iz 4 ?_
 have hN:wr.heap.size≤w0.heap.size:=kd.size
 have hsub:∀W W':World,Kept W W'→w0.heap.size≤W.heap.size→∀v,Ivl (onlyW W' (ab W.heap.size)) v l[k].iv→Ivl (onlyW W' (ab wr.heap.size)) v l[k].iv:=fun W W' _ hW v hv=>hv.sub (only_mono fun b hb=>by
  unfold ab at hb⊢
  simp only[decide_eq_true_eq] at hb⊢
  omega)
 refine ia2 3 5 ?pa ?qa
 case' qa=>
  refine il (V:=#[.bool l[k].iv.s1,.slice a1 n1 c1,.slice a2 n2 c2,.bool l[k].iv.s2,.slice a3 n3 c3,.slice a4 n4 c4,.bool l[k].iv.li,.bool l[k].iv.hi]) (b4.part 1) own39 ?_
  refine ia2 3 6 ?ra ?sa
 case' pa=>
  refine il1 (b4.cell 0 rfl) ?_
  refine ia 5 ?_
  refine il (V:=#[.bool l[k].iv.s1,.slice a1 n1 c1,.slice a2 n2 c2,.bool l[k].iv.s2,.slice a3 n3 c3,.slice a4 n4 c4,.bool l[k].iv.li,.bool l[k].iv.hi]) (b4.part 1) own39 ?_
  refine ia 6 ?_
  refine ic 59 _ (eown_calls (hv _ (Kept.refl w0))) ?_
  rintro e w2 ⟨v',rfl,hv',k2⟩
  refine⟨_,rfl,?_⟩
 case' ra=>
  refine il1 (b4.cell 0 rfl) ?_
  refine ia 6 ?_
  refine ic 59 _ (eown_calls (hv _ (Kept.refl w0))) ?_
  rintro e w2 ⟨v',rfl,hv',k2⟩
  refine⟨_,rfl,?_⟩
 case' sa=>
  refine ic 59 _ (eown_calls (hv _ (Kept.refl w0))) ?_
  rintro e w2 ⟨v',rfl,hv',k2⟩
  refine⟨_,rfl,?_⟩
  refine ia 3 ?_
  refine il1 ((b4.kept k2).cell 0 rfl) ?_
 all_goals
  replace hv':=hsub _ _ k2 (Nat.le_refl _) _ hv'
  obtain⟨b1,m1,d1,b2,m2,d2,b3,m3,d3,b5,m5,d5,rfl,x1,x2⟩:=hv'
  refine ia 7 ?_
  refine iv (.agg #[.string l[k].name,.bool l[k].iv.s1,.slice b1 m1 d1,.slice b2 m2 d2,.bool l[k].iv.s2,.slice b3 m3 d3,.slice b5 m5 d5,.bool l[k].iv.li,.bool l[k].iv.hi]) ?_
  refine ia 8 ?_
  refine iy (hY k hlt wr w2 _ hj (kd.trans k2) own41 ⟨_,_,_,_,_,_,_,_,_,_,_,_,_,_,_,_,rfl,_,_,_,_,_,_,_,_,_,_,_,_,rfl,x1,x2⟩) ?_
  rintro e w3 (⟨rfl,hj3⟩|⟨rfl,hx⟩)
  ·refine⟨_,rfl,?_⟩
   refine ia 9 ?_
   refine iv (.bool false) ?_
   refine wpAnyIn_done (by kernel_rfl) ?_ _
   iterate 2 go_step
   refine zt_false ?_
   iterate 4 go_step
   refine z2 (.int .i64 ((k+1:Nat):Int)) (hrun:=run_inc (by omega)) ?_
   refine zz ?_
   iterate 3 go_step
   exact⟨_,rfl,hlt,⟨rfl,rfl,rfl,rfl,rfl,trivial⟩,hj3⟩
  ·refine⟨_,rfl,?_⟩
   refine ia 9 ?_
   refine iv (.bool true) ?_
   refine wpAnyIn_done (by kernel_rfl) ?_ _
   iterate 2 go_step
   refine zt_true ?_
   iterate 5 go_step
   exact bodyPost_ret (v:=.tuple #[]) (by simp[results,Tryz.results116]) rfl ⟨⟨_,rfl⟩,.inr hx⟩
end
section
set_option maxHeartbeats 4000000
set_option maxRecDepth 100000
def ptRef(p q:PtD):Bool:=(p.name.toList==q.name.toList)&&sameR p.s p.N p.D q.s q.N q.D
def ptsRef:List PtD→List PtD→Bool
 |[],[]=>true
 |p::l,q::m=>ptRef p q&&ptsRef l m
 |_,_=>false
theorem ptsRef_len:∀{l m:List PtD},l.length≠m.length→ptsRef l m=false
 |[],[],h=>absurd rfl h
 |[],_::_,_=>rfl
 |_::_,[],_=>rfl
 |p::l,q::m,h=>by
  rw[ptsRef,ptsRef_len (by simpa using h),Bool.and_false]
theorem ptsRef_drop{l m:List PtD}{k:Nat}(h:k<l.length)(h':k<m.length):ptsRef (l.drop k) (m.drop k)=(ptRef l[k] m[k]&&ptsRef (l.drop (k+1)) (m.drop (k+1))):=by
 rw[List.drop_eq_getElem_cons h,List.drop_eq_getElem_cons h',ptsRef]
def ptsNum(l:List PtD):Prop:=∀i(hi:i<l.length),numOk l[i].N l[i].D
theorem samePoint_calls{w:World}{a:Option Addr}{n cap:Nat}{l:List PtD}{a':Option Addr}{n' cap':Nat}{m:List PtD}(h:Ptm w a n cap l)(h':Ptm w a' n' cap' m)(ho:ptsNum l)(ho':ptsNum m)(hl:l.length≤1000000):
 Calls Tryz.prog 20 #[.slice a n cap,.slice a' n' cap'] w fun e w'=>e= .returned (.bool (ptsRef l m))∧Kept w w':=by
 obtain rfl:n=l.length:=h.1
 obtain rfl:n'=m.length:=h'.1
 have HR:=fun(i:Nat)(hi:i<l.length)=>h.row hi
 have HR':=fun(i:Nat)(hi:i<m.length)=>h'.row hi
 clear h h'
 refine entL [_,_] 42 Tryz.func20 rfl Tryz.ntmps20 (by simp) ?_
 iterate 3 go_step
 refine zr (.bool false) ?_
 iterate 6 go_step
 refine zr (.slice a l.length cap) ?_
 refine zr (.int .i64 l.length) ?_
 refine zr (.slice a' m.length cap') ?_
 refine zr (.int .i64 m.length) ?_
 refine zr (.bool ((l.length:Int) !=(m.length:Int))) ?_
 iterate 3 go_step
 cases hne:((l.length:Int) !=(m.length:Int))
 case' true=>
  refine zt_true ?_
  iterate 2 go_step
  refine zr (.bool false) ?_
  iterate 6 go_step
  exact zretT ⟨by rw[ptsRef_len (fun e=>by rw[e] at hne;simp at hne)],Kept.refl w⟩
 have hlen:l.length=m.length:=by simp at hne;omega
 refine zt_false ?_
 iterate 6 go_step
 refine zr (.int .i64 0) ?_
 iterate 4 go_step
 refine zloopG (σ:=Unit) l.length (fun k _=>[(0,.slice a l.length cap),(1,.slice a' m.length cap'),(5,.int .i64 k)])
  (fun k _ W=>Kept w W∧ptsRef l m=ptsRef (l.drop k) (m.drop k)) () ⟨rfl,rfl,rfl,trivial⟩ ⟨Kept.refl w,rfl⟩ fun fl wr k _ hk ⟨kr,hsame⟩=> ?_
 iterate 4 go_step
 refine zr (.int .i64 k) ?_
 refine zr (.slice a l.length cap) ?_
 refine zr (.int .i64 l.length) ?_
 refine z2 (.bool (decide ((k:Int)<(l.length:Int)))) ?_
 iterate 3 go_step
 cases hlt:decide ((k:Int)<(l.length:Int))
 case' true=>
  have hlt:k<l.length:=by have:=of_decide_eq_true hlt;omega
  have hlt':k<m.length:=by omega
  obtain⟨b,a1,n1,c1,a2,n2,c2,rfl,rV,r1⟩:=HR k hlt
  obtain⟨b',u1,u2,u3,u4,u5,u6,rfl,rV',r2⟩:=HR' k hlt'
  rw[ptsRef_drop hlt hlt'] at hsame
  refine zt_true ?_
  iterate 6 go_step
  refine drawn 0 0 fun hS=> ?_
  refine yr 0 (.slice (some ⟨b,0,none⟩) l.length cap) hS ?_
  refine yr 1 (.int .i64 k) hS ?_
  refine yi 2 4 k hlt hS ?_
  refine yr 3 (.pointer (some ⟨b,0+k*4,none⟩)) hS ?_
  refine yl1 4 (kr.cell (rV 0 _ rfl)) noLt hS ?_
  refine yr 5 (.slice (some ⟨b',0,none⟩) m.length cap') hS ?_
  refine yr 6 (.int .i64 k) hS ?_
  refine yi 7 4 k hlt' hS ?_
  refine yr 8 (.pointer (some ⟨b',0+k*4,none⟩)) hS ?_
  refine yl1 9 (kr.cell (rV' 0 _ rfl)) noLt hS ?_
  refine yr 10 (.bool (l[k].name.toList != m[k].name.toList)) hS ?_
  refine yr 11 (.bool (l[k].name.toList != m[k].name.toList)) hS ?_
  have hpt:ptRef l[k] m[k]=((l[k].name.toList==m[k].name.toList)&&sameR l[k].s l[k].N l[k].D m[k].s m[k].N m[k].D):=rfl
  have rW:wr.rangeAt b (0+k*4+1) #[Value.bool l[k].s,.slice a1 n1 c1,.slice a2 n2 c2].toList:=fun j v hj=>by
   rw[show 0+k*4+1+j=0+k*4+(j+1) by omega]
   exact kr.cell (rV (j+1) v (by simpa using hj))
  have rW':wr.rangeAt b' (0+k*4+1) #[Value.bool m[k].s,.slice u1 u2 u3,.slice u4 u5 u6].toList:=fun j v hj=>by
   rw[show 0+k*4+1+j=0+k*4+(j+1) by omega]
   exact kr.cell (rV' (j+1) v (by simpa using hj))
  cases hnm:(l[k].name.toList != m[k].name.toList)
  case' true=>
   have he:(l[k].name.toList==m[k].name.toList)=false:=by rw[←Bool.not_eq_true',←bne];exact hnm
   rw[he,Bool.false_and] at hpt
   refine y0 12 hS ?_
   refine y0 13 hS ?_
   refine y0 14 hS ?_
   refine y0 15 hS ?_
   refine y0 16 hS ?_
   refine y0 17 hS ?_
   refine y0 18 hS ?_
   refine y0 19 hS ?_
   refine y0 20 hS ?_
   refine y0 21 hS ?_
   refine y0 22 hS ?_
   refine y0 23 hS ?_
   refine yr 24 (.bool true) hS ?_
   refine yend ?_
   iterate 2 go_step
   refine zt_true ?_
   iterate 2 go_step
   refine zr (.bool false) ?_
   iterate 8 go_step
   exact zretT ⟨by rw[hsame,hpt,Bool.false_and],kr.drew⟩
  have he:(l[k].name.toList==m[k].name.toList)=true:=by rw[←Bool.not_eq_false',←bne];exact hnm
  rw[he,Bool.true_and] at hpt
  have hs41:=rsame_calls (r1.kept kr.drew) (r2.kept kr.drew) (ho k hlt) (ho' k hlt')
  rw[←hpt] at hs41
  refine yrg 12 (.slice (some ⟨b,0,none⟩) l.length cap) hS ?_
  refine yrg 13 (.int .i64 k) hS ?_
  refine yig (s:=4) 14 k hlt hS ?_
  refine yrg 15 (.pointer (some ⟨b,0+k*4+1,none⟩)) hS ?_
  refine ylg 16 (V:=#[_,_,_]) rW noLt own24 hS ?_
  refine yrg 17 (.slice (some ⟨b',0,none⟩) m.length cap') hS ?_
  refine yrg 18 (.int .i64 k) hS ?_
  refine yig (s:=4) 19 k hlt' hS ?_
  refine yrg 20 (.pointer (some ⟨b',0+k*4+1,none⟩)) hS ?_
  refine ylg 21 (V:=#[_,_,_]) rW' noLt own24 hS ?_
  refine ycg 22 41 _ hS hs41 fun e w2 ⟨he,k2⟩=>⟨k2,_,he,fun hS=> ?_⟩
  refine yrg 23 (.bool !(ptRef l[k] m[k])) hS ?_
  refine yr 24 (.bool !(ptRef l[k] m[k])) hS ?_
  refine yend ?_
  iterate 2 go_step
  have K2:=kr.drew.trans k2
  cases hp:ptRef l[k] m[k]
  ·refine zt_true ?_
   iterate 2 go_step
   refine zr (.bool false) ?_
   iterate 8 go_step
   exact zretT ⟨by rw[hsame,hp,Bool.false_and],K2⟩
  ·refine zt_false ?_
   iterate 4 go_step
   refine zr (.int .i64 k) ?_
   refine z2 (.int .i64 ((k+1:Nat):Int)) (hrun:=run_inc (by omega)) ?_
   refine zr (.int .i64 ((k+1:Nat):Int)) ?_
   iterate 3 go_step
   exact⟨_,(),rfl,hlt,⟨rfl,rfl,rfl,trivial⟩,K2,by rw[hsame,hp,Bool.true_and]⟩
 case' false=>
  obtain rfl:k=l.length:=by have:=of_decide_eq_false hlt;omega
  refine zt_false ?_
  iterate 7 go_step
  refine zr (.bool true) ?_
  iterate 5 go_step
  exact zretT ⟨by rw[hsame,List.drop_length,hlen,List.drop_length,ptsRef],kr⟩
end
section
set_option maxHeartbeats 4000000
set_option maxRecDepth 100000
def Ptl(w:World)(a:Option Addr)(n cap:Nat)(ls:List (List PtD)):Prop:=
 n=ls.length∧n≤cap∧∀i(_:i<ls.length),∃(b:Nat)(a1:Option Addr)(n1 c1:Nat),a=some ⟨b,0,none⟩∧w.cell? ⟨b,0+i*1,none⟩=some (.slice a1 n1 c1)∧Ptm w a1 n1 c1 ls[i]
theorem Ptl.kept{w w':World}{a:Option Addr}{n cap:Nat}{ls:List (List PtD)}(h:Ptl w a n cap ls)(k:Kept w w'):Ptl w' a n cap ls:=
 ⟨h.1,h.2.1,fun i hi=>by obtain⟨b,a1,n1,c1,e,hc,hp⟩:=h.2.2 i hi;exact⟨b,a1,n1,c1,e,k.cell hc,hp.kept k⟩⟩
def foundB(ls:List (List PtD))(m:List PtD):Bool:=ls.any fun l=>ptsRef l m
theorem foundB_drop{ls:List (List PtD)}{m:List PtD}{k:Nat}(h:k<ls.length):foundB (ls.drop k) m=(ptsRef ls[k] m||foundB (ls.drop (k+1)) m):=by
 rw[List.drop_eq_getElem_cons h];rfl
theorem found_calls{w:World}{a:Option Addr}{n cap:Nat}{ls:List (List PtD)}{a':Option Addr}{n' cap':Nat}{m:List PtD}(h:Ptl w a n cap ls)(h':Ptm w a' n' cap' m)(ho:∀i(hi:i<ls.length),ptsNum ls[i]∧ls[i].length≤1000000)(ho':ptsNum m)(hl:ls.length≤1000000):
 Calls Tryz.prog 19 #[.slice a n cap,.slice a' n' cap'] w fun e w'=>e= .returned (.bool (foundB ls m))∧Kept w w':=by
 obtain rfl:n=ls.length:=h.1
 have HR:=h.2.2
 clear h
 refine entL [_,_] 18 Tryz.func19 rfl Tryz.ntmps19 (by simp) ?_
 iterate 3 go_step
 refine zr (.bool false) ?_
 iterate 6 go_step
 refine zr (.int .i64 0) ?_
 iterate 4 go_step
 refine zloopG (σ:=Unit) ls.length (fun k _=>[(0,.slice a ls.length cap),(1,.slice a' n' cap'),(5,.int .i64 k)])
  (fun k _ W=>Kept w W∧foundB ls m=foundB (ls.drop k) m) () ⟨rfl,rfl,rfl,trivial⟩ ⟨Kept.refl w,rfl⟩ fun fl wr k _ hk ⟨kr,hsame⟩=> ?_
 iterate 4 go_step
 refine zr (.int .i64 k) ?_
 refine zr (.slice a ls.length cap) ?_
 refine zr (.int .i64 ls.length) ?_
 refine z2 (.bool (decide ((k:Int)<(ls.length:Int)))) ?_
 iterate 3 go_step
 cases hlt:decide ((k:Int)<(ls.length:Int))
 case' true=>
  have hlt:k<ls.length:=by have:=of_decide_eq_true hlt;omega
  obtain⟨b,a1,n1,c1,rfl,hc,hp⟩:=HR k hlt
  rw[foundB_drop hlt] at hsame
  refine zt_true ?_
  iterate 7 go_step
  refine zr (.slice (some ⟨b,0,none⟩) ls.length cap) ?_
  refine zr (.int .i64 k) ?_
  refine zi (s:=1) k hlt ?_
  refine zl1 (kr.cell hc) ?_
  refine zr (.slice a' n' cap') ?_
  refine zc 20 _ (samePoint_calls (hp.kept kr) (h'.kept kr) (ho k hlt).1 ho' (ho k hlt).2) ?_
  rintro e w5 ⟨rfl,k5⟩
  refine⟨_,rfl,?_⟩
  iterate 3 go_step
  cases hq:ptsRef ls[k] m
  ·refine zt_false ?_
   iterate 4 go_step
   refine zr (.int .i64 k) ?_
   refine z2 (.int .i64 ((k+1:Nat):Int)) (hrun:=run_inc (by omega)) ?_
   refine zr (.int .i64 ((k+1:Nat):Int)) ?_
   iterate 3 go_step
   exact⟨_,(),rfl,hlt,⟨rfl,rfl,rfl,trivial⟩,kr.trans k5,by rw[hsame,hq,Bool.false_or]⟩
  ·refine zt_true ?_
   iterate 2 go_step
   refine zr (.bool true) ?_
   iterate 8 go_step
   exact zretT ⟨by rw[hsame,hq,Bool.true_or],kr.trans k5⟩
 case' false=>
  obtain rfl:k=ls.length:=by have:=of_decide_eq_false hlt;omega
  refine zt_false ?_
  iterate 7 go_step
  refine zr (.bool false) ?_
  iterate 5 go_step
  exact zretT ⟨by rw[hsame,List.drop_length,foundB,List.any_nil],kr⟩
end
end Go.Proofs.YtancebninmoipaaGreatDoor
