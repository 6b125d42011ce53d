/- A part of the proof that SearchCandidates answers true for every input of bulk at most 1048576: conditions: the row's own. -/
import Derived.Test.YtancebninmoipaaGreatDoorP22
import Derived.RangeFuncLeaves
import Derived.RecoverIn
import Derived.LoopNIn
namespace Go.Eng
open Go
section
noncomputable def dval(P:Program)(ev:Ev)(cx:Ctx)(all:List Oper)(o:Oper)(s:DSt):Option (Value×AHeap):=
 match kindOf o.op o.type with
 | .alloc _=>match s.ids with
   |id::_=>some (bif wantedA all o s.T then ptr id 0 else undef,s.H)
   |[]=>none
 | .pure f=>bif wantedA all o s.T then(match f P (evT s.T) with|some v=>some (v,s.H)|none=>none) else some (undef,s.H)
 | .load t a=>bif wantedA all o s.T then(match loadF P t (evT s.T a) s.H with|some v=>some (v,s.H)|none=>none) else some (undef,s.H)
 | .heavy=>bif wantedA all o s.T then(match heavyOf o.op P (evT s.T) s.H (nextF ev cx) with|some (v,[],H)=>some (v,H)|_=>none) else some (undef,s.H)
structure Made(P:Program)(ev:Ev)(cx:Ctx)(all:List Oper)(o:Oper)(i ms:Nat)(s s':DSt)(v:Value):Prop where
 val:dval P ev cx all o s=some (v,s'.H)
 T:∀t,evTmp t s'.T=if o.dst=some t then v else evTmp t s.T
 lt:∀d,o.dst=some d→d<cx.nt
 hs:s'.hs=if isHeavy (kindOf o.op o.type) then⟨i,ms,s'.H⟩::s.hs else s.hs
 lds:∀l∈s.lds,l∈s'.lds
 ld:∀t a,kindOf o.op o.type= .load t a→wantedA all o s.T=true→⟨i,ms,t,evT s.T a,v⟩∈s'.lds
 ids:s'.ids=match kindOf o.op o.type with| .alloc _=>s.ids.tail|_=>s.ids
 same:isHeavy (kindOf o.op o.type)=false→s'.H=s.H
section
variable{P:Program}{ev:Ev}{cx:Ctx}{all:List Oper}{o:Oper}{i ms:Nat}{s s':DSt}
theorem drawPut_some{v:Value}{s₁:DSt}(h:drawPut cx o s₁ v=some s'):s'.H=s₁.H∧s'.hs=s₁.hs∧s'.lds=s₁.lds∧s'.ids=s₁.ids∧
 (∀t,evTmp t s'.T=if o.dst=some t then v else evTmp t s₁.T)∧∀d,o.dst=some d→d<cx.nt:=by
 unfold drawPut putK at h
 cases hd:o.dst with
 |none=>
  rw[hd] at h
  simp at h
  subst h
  exact⟨rfl,rfl,rfl,rfl,fun t=>by simp,(fun d hd=>by cases hd)⟩
 |some d=>
  rw[hd] at h
  obtain⟨h1,h2⟩:=cond_some h
  obtain⟨T',hc,hg⟩:=Tr.setK_some h2
  simp at hc
  subst hc
  refine⟨rfl,rfl,rfl,rfl,fun t=> ?_,(fun d' hd'=>by cases hd';exact Nat.le_of_ble_eq_true h1)⟩
  rw[evTmp_set hg]
  by_cases e:t=d
  ·subst e;simp
  ·rw[if_neg e,if_neg (by simpa using Ne.symm e)]
theorem drawOp_some(h:drawOp P ev cx all o i ms s=some s'):∃v,Made P ev cx all o i ms s s' v:=by
 unfold drawOp at h
 cases hk:kindOf o.op o.type with
 |alloc e=>
  rw[hk] at h
  simp only[drawAlloc] at h
  cases hi:s.ids with
  |nil=>rw[hi] at h;cases h
  |cons id ids=>
   rw[hi] at h
   simp only at h
   obtain⟨h1,h2,h3,h4,h5,h6⟩:=drawPut_some h
   refine⟨_,⟨by simp only[dval,hk,hi,h1],h5,h6,by rw[h2,hk];simp[isHeavy],fun l hl=>by rw[h3];exact hl,(fun t a hl=>by rw[hk] at hl;cases hl),by rw[h4,hk,hi];rfl,fun _=>h1⟩⟩
 |pure f=>
  rw[hk] at h
  simp only at h
  cases hw:wantedA all o s.T with
  |true=>
   rw[hw] at h
   simp only[cond_true,drawPure] at h
   cases hf:f P (evT s.T) with
   |none=>rw[hf] at h;cases h
   |some v=>
    rw[hf] at h
    simp only[forceV_eq] at h
    obtain⟨h1,h2,h3,h4,h5,h6⟩:=drawPut_some h
    exact⟨v,⟨by simp only[dval,hk,hw,hf,h1,cond_true],h5,h6,by rw[h2,hk];simp[isHeavy],fun l hl=>by rw[h3];exact hl,(fun t a hl=>by rw[hk] at hl;cases hl),by rw[h4,hk],fun _=>h1⟩⟩
  |false=>
   rw[hw] at h
   simp only[cond_false] at h
   obtain⟨h1,h2,h3,h4,h5,h6⟩:=drawPut_some h
   exact⟨undef,⟨by simp only[dval,hk,hw,h1,cond_false],h5,h6,by rw[h2,hk];simp[isHeavy],fun l hl=>by rw[h3];exact hl,(fun t a hl=>by rw[hk] at hl;cases hl),by rw[h4,hk],fun _=>h1⟩⟩
 |load t a=>
  rw[hk] at h
  simp only at h
  cases hw:wantedA all o s.T with
  |true=>
   rw[hw] at h
   simp only[cond_true,drawLoad] at h
   cases hf:loadF P t (evT s.T a) s.H with
   |none=>rw[hf] at h;cases h
   |some v=>
    rw[hf] at h
    simp only[forceV_eq] at h
    obtain⟨h1,h2,h3,h4,h5,h6⟩:=drawPut_some h
    refine⟨v,⟨by simp only[dval,hk,hw,hf,h1,cond_true],h5,h6,by rw[h2,hk];simp[isHeavy],fun l hl=>by rw[h3];exact .tail _ hl,fun t' a' hl _=> ?_,by rw[h4,hk],fun _=>h1⟩⟩
    rw[hk] at hl
    cases hl
    rw[h3]
    exact .head _
  |false=>
   rw[hw] at h
   simp only[cond_false] at h
   obtain⟨h1,h2,h3,h4,h5,h6⟩:=drawPut_some h
   exact⟨undef,⟨by simp only[dval,hk,hw,h1,cond_false],h5,h6,by rw[h2,hk];simp[isHeavy],fun l hl=>by rw[h3];exact hl,(fun t' a' _ hw'=>by rw[hw] at hw';cases hw'),by rw[h4,hk],fun _=>h1⟩⟩
 |heavy=>
  rw[hk] at h
  simp only at h
  cases hw:wantedA all o s.T with
  |true=>
   rw[hw] at h
   simp only[cond_true,drawHeavy] at h
   split at h
   ·rename_i v H1 hf
    obtain⟨h1,h2,h3,h4,h5,h6⟩:=drawPut_some h
    exact⟨v,⟨by simp only[dval,hk,hw,hf,h1,cond_true],h5,h6,by rw[h2,hk,h1];simp[isHeavy],fun l hl=>by rw[h3];exact hl,(fun t a hl=>by rw[hk] at hl;cases hl),by rw[h4,hk],(fun hh=>by rw[hk] at hh;cases hh)⟩⟩
   ·cases h
  |false=>
   rw[hw] at h
   simp only[cond_false] at h
   obtain⟨h1,h2,h3,h4,h5,h6⟩:=drawPut_some h
   exact⟨undef,⟨by simp only[dval,hk,hw,h1,cond_false],h5,h6,by rw[h2,hk,h1];simp[isHeavy],fun l hl=>by rw[h3];exact hl,(fun t a hl=>by rw[hk] at hl;cases hl),by rw[h4,hk],(fun hh=>by rw[hk] at hh;cases hh)⟩⟩
end
structure Trace(P:Program)(ev:Ev)(cx:Ctx)(all:List Oper)(is:List OpI)(s₀ s₁:DSt)(st:Nat→DSt)(val:Nat→Value):Prop where
 zero:st 0=s₀
 last:st all.length=s₁
 step:∀k o x,all[k]? =some o→is[k]? =some x→Made P ev cx all o k x.ms (st k) (st (k+1)) (val k)
theorem trace_of{P:Program}{ev:Ev}{cx:Ctx}{all:List Oper}:∀{ops:List Oper}{is:List OpI}{i:Nat}{s s':DSt},drawOps P ev cx all ops is i s=some s'→∃(st:Nat→DSt)(val:Nat→Value),
 st 0=s∧st ops.length=s'∧ops.length=is.length∧∀k o x,ops[k]? =some o→is[k]? =some x→Made P ev cx all o (i+k) x.ms (st k) (st (k+1)) (val k):=by
 intro ops
 induction ops with
 |nil=>
  intro is i s s' h
  cases is with
  |nil=>simp[drawOps] at h;subst h;exact⟨fun _=>s,fun _=>undef,rfl,rfl,rfl,fun k o x hk=>by simp at hk⟩
  |cons _ _=>cases h
 |cons o ops ih=>
  intro is i s s' h
  cases is with
  |nil=>cases h
  |cons x is=>
   simp only[drawOps] at h
   cases ho:drawOp P ev cx all o i x.ms s with
   |none=>rw[ho] at h;cases h
   |some s1=>
    rw[ho] at h
    simp only at h
    obtain⟨v,hv⟩:=drawOp_some ho
    obtain⟨st,val,h0,hl,hlen,hstep⟩:=ih h
    refine⟨fun k=>match k with|0=>s|k+1=>st k,fun k=>match k with|0=>v|k+1=>val k,rfl,by simpa using hl,by simp[hlen],?_⟩
    intro k o' x' hk hx
    cases k with
    |zero=>
     simp at hk hx
     subst hk hx
     simpa [h0] using hv
    |succ k=>
     have:=hstep k o' x' (by simpa using hk) (by simpa using hx)
     rw[show i+(k+1)=i+1+k from by omega]
     exact this
section
variable{P:Program}{ev:Ev}{cx:Ctx}{all:List Oper}{is:List OpI}{s₀ s₁:DSt}{st:Nat→DSt}{val:Nat→Value}
def hvy(all:List Oper)(k:Nat):Prop:=∃o,all[k]? =some o∧isHeavy (kindOf o.op o.type)=true
def wr(all:List Oper)(k t:Nat):Prop:=∃o,all[k]? =some o∧o.dst=some t
theorem op_at{k:Nat}(hlen:all.length=is.length)(hk:k<all.length):∃o x,all[k]? =some o∧is[k]? =some x:=
 ⟨all[k],is[k]'(by omega),by simp,by simp⟩
theorem heap_same(tr:Trace P ev cx all is s₀ s₁ st val)(hlen:all.length=is.length){m k:Nat}(hmk:m≤k)(hk:k≤all.length)(h:∀j,m≤j→j<k→¬hvy all j):(st k).H=(st m).H:=by
 induction k with
 |zero=>
  obtain rfl:m=0:=by omega
  rfl
 |succ k ih=>
  by_cases e:m=k+1
  ·subst e;rfl
  ·obtain⟨o,x,ho,hx⟩:=op_at (all:=all) (is:=is) hlen (show k<all.length by omega)
   have hm:=(tr.step k o x ho hx).same (by
    cases hh:isHeavy (kindOf o.op o.type) with
    |false=>rfl
    |true=>exact absurd ⟨o,ho,hh⟩ (h k (by omega) (by omega)))
   rw[hm]
   exact ih (by omega) (by omega) (fun j h1 h2=>h j h1 (by omega))
theorem tmp_at(tr:Trace P ev cx all is s₀ s₁ st val)(hlen:all.length=is.length)(t:Nat):∀k,k≤all.length→
 (∃j,j<k∧wr all j t∧(∀j',j'<k→wr all j' t→j'≤j)∧evTmp t (st k).T=val j)∨((∀j,j<k→¬wr all j t)∧evTmp t (st k).T=evTmp t s₀.T):=by
 intro k
 induction k with
 |zero=>intro _;right;exact⟨fun j hj=>by omega,by rw[tr.zero]⟩
 |succ k ih=>
  intro hk
  obtain⟨o,x,ho,hx⟩:=op_at (all:=all) (is:=is) hlen (show k<all.length by omega)
  have hT:=(tr.step k o x ho hx).T t
  by_cases hd:o.dst=some t
  ·left
   refine⟨k,by omega,⟨o,ho,hd⟩,fun j' hj' _=>by omega,?_⟩
   rw[hT,if_pos hd]
  ·rw[if_neg hd] at hT
   have hnw:¬wr all k t:=by
    rintro⟨o',ho',hd'⟩
    rw[ho] at ho'
    cases ho'
    exact hd hd'
   rcases ih (by omega) with⟨j,h1,h2,h3,h4⟩|⟨h1,h2⟩
   ·left
    refine⟨j,by omega,h2,fun j' hj' hw=> ?_,by rw[hT,h4]⟩
    by_cases e:j'=k
    ·subst e;exact absurd hw hnw
    ·exact h3 j' (by omega) hw
   ·right
    refine⟨fun j hj hw=> ?_,by rw[hT,h2]⟩
    by_cases e:j=k
    ·subst e;exact hnw hw
    ·exact h1 j (by omega) hw
theorem lds_mono(tr:Trace P ev cx all is s₀ s₁ st val)(hlen:all.length=is.length){k m:Nat}(hkm:k≤m)(hm:m≤all.length){l:Ld}(h:l∈(st k).lds):l∈(st m).lds:=by
 induction m with
 |zero=>
  obtain rfl:k=0:=by omega
  exact h
 |succ m ih=>
  by_cases e:k=m+1
  ·subst e;exact h
  ·obtain⟨o,x,ho,hx⟩:=op_at (all:=all) (is:=is) hlen (show m<all.length by omega)
   exact(tr.step m o x ho hx).lds l (ih (by omega) (by omega))
theorem hs_from(tr:Trace P ev cx all is s₀ s₁ st val)(hlen:all.length=is.length):∀(f k:Nat),k+f=all.length→∃L:List Hv,s₁.hs.reverse=(st k).hs.reverse++L∧
 (∀h∈L,∃j o x,k≤j∧all[j]? =some o∧is[j]? =some x∧isHeavy (kindOf o.op o.type)=true∧h=⟨j,x.ms,(st (j+1)).H⟩)∧
 (∀o x,all[k]? =some o→is[k]? =some x→isHeavy (kindOf o.op o.type)=true→∃L',L=⟨k,x.ms,(st (k+1)).H⟩::L'∧s₁.hs.reverse=(st (k+1)).hs.reverse++L')∧
 (∀o,all[k]? =some o→isHeavy (kindOf o.op o.type)=false→s₁.hs.reverse=(st (k+1)).hs.reverse++L):=by
 intro f
 induction f with
 |zero=>
  intro k hk
  obtain rfl:k=all.length:=by omega
  refine⟨[],by rw[tr.last];simp,(fun h hh=>by cases hh),fun o x ho=>by simp at ho,fun o ho=>by simp at ho⟩
 |succ f ih=>
  intro k hk
  obtain⟨L1,h1,h2,_,_⟩:=ih (k+1) (by omega)
  obtain⟨o,x,ho,hx⟩:=op_at (all:=all) (is:=is) hlen (show k<all.length by omega)
  have hhs:=(tr.step k o x ho hx).hs
  have h2':∀h∈L1,∃j o x,k≤j∧all[j]? =some o∧is[j]? =some x∧isHeavy (kindOf o.op o.type)=true∧h=⟨j,x.ms,(st (j+1)).H⟩:=fun h hh=>by
   obtain⟨j,o',x',a1,a2,a3,a4,a5⟩:=h2 h hh
   exact⟨j,o',x',by omega,a2,a3,a4,a5⟩
  cases hv:isHeavy (kindOf o.op o.type) with
  |true=>
   rw[hv] at hhs
   simp only[if_true] at hhs
   refine⟨⟨k,x.ms,(st (k+1)).H⟩::L1,by rw[h1,hhs];simp,fun h hh=> ?_,fun o' x' ho' hx' _=> ?_,(fun o' ho' hv'=>by rw[ho] at ho';cases ho';rw[hv] at hv';cases hv')⟩
   ·cases hh with
    |head=>exact⟨k,o,x,Nat.le_refl _,ho,hx,hv,rfl⟩
    |tail _ hh=>exact h2' h hh
   ·rw[hx] at hx'
    cases hx'
    exact⟨L1,rfl,h1⟩
  |false=>
   rw[hv] at hhs
   simp only[Bool.false_eq_true,if_false] at hhs
   exact⟨L1,by rw[h1,hhs],h2',(fun o' x' ho' _ hv'=>by rw[ho] at ho';cases ho';rw[hv] at hv';cases hv'),fun _ _ _=>h1⟩
theorem load_at(tr:Trace P ev cx all is s₀ s₁ st val)(hlen:all.length=is.length)(h0:s₀.hs=[]){l:Ld}(hc:chkLd P l s₀.H s₁.hs.reverse=true){m:Nat}(hm:m≤all.length)
 (hpast:∀j o x,j<m→all[j]? =some o→is[j]? =some x→isHeavy (kindOf o.op o.type)=true→hasBit x.ms l.i=false)
 (hfut:∀j o,m≤j→all[j]? =some o→isHeavy (kindOf o.op o.type)=true→hasBit l.ms j=false):loadOk P l (st m).H=true:=by
 have key:∀k,k≤m→∃L,s₁.hs.reverse=(st k).hs.reverse++L∧chkLd P l (st k).H L=true:=by
  intro k
  induction k with
  |zero=>
   intro _
   refine⟨s₁.hs.reverse,by rw[tr.zero,h0];simp,by rw[tr.zero];exact hc⟩
  |succ k ih=>
   intro hk
   obtain⟨L,h1,h2⟩:=ih (by omega)
   obtain⟨L1,a1,a2,a3,a4⟩:=hs_from tr hlen (all.length-k) k (by omega)
   obtain rfl:L=L1:=by rw[a1] at h1;exact(List.append_cancel_left h1).symm
   obtain⟨o,x,ho,hx⟩:=op_at (all:=all) (is:=is) hlen (show k<all.length by omega)
   cases hv:isHeavy (kindOf o.op o.type) with
   |true=>
    obtain⟨L',rfl,h3⟩:=a3 o x ho hx hv
    refine⟨L',h3,?_⟩
    simp only[chkLd,hpast k o x (by omega) ho hx hv,cond_false] at h2
    cases hb:hasBit l.ms k with
    |true=>rw[hb] at h2;exact h2
    |false=>rw[hb] at h2;simp only[cond_false,Bool.and_eq_true] at h2;exact h2.2
   |false=>
    refine⟨L,a4 o ho hv,?_⟩
    rw[(tr.step k o x ho hx).same hv]
    exact h2
 obtain⟨L,h1,h2⟩:=key m (Nat.le_refl _)
 obtain⟨L1,a1,a2,a3,a4⟩:=hs_from tr hlen (all.length-m) m (by omega)
 obtain rfl:L=L1:=by rw[a1] at h1;exact(List.append_cancel_left h1).symm
 cases L with
 |nil=>exact h2
 |cons h L=>
  obtain⟨j,o,x,b1,b2,b3,b4,rfl⟩:=a2 h (.head _)
  simp only[chkLd] at h2
  cases hb:hasBit x.ms l.i with
  |true=>rw[hb] at h2;exact h2
  |false=>
   rw[hb,hfut j o b1 b2 b4] at h2
   simp only[cond_false,Bool.and_eq_true] at h2
   exact h2.1
end
end
section
section
variable{gs:List Nat}{P:Program}{ev:Ev}{μ:Mu}{H:AHeap}{w:World}
theorem heavy_step{cx:Ctx}{o:Oper}{ρ:Env}{v:Value}{H':AHeap}{a:Act}{rb:Option Nat}{n:Nat}{K:Act→World→Prop}{Q:Exit→Act→World→Prop}
 (hev:EvOk gs P ev)(hst:St gs P H μ w)(hρ:∀x∈o.op.operands.toList,VRel μ (ρ x) (a.eval x))(h:heavyOf o.op P ρ H (nextF ev cx)=some (v,[],H'))
 (hsem:o.semAt rb a.eval=execOp a.eval o)
 (hK:∀w' v' μ',St gs P H' μ' w'→Ext H μ w H' μ' w'→VRel μ' v v'→K (a.put o.dst v') w'):
 o.wpIn (fence rb) n P a w K Q:=by
 refine⟨fun f _=>fence_fn rb f,?_⟩
 rw[fence_round]
 obtain⟨nx,H1,nx',w1,μ1,hc,hrun,hrel,hext,hnr⟩:=heavy_sound (P:=P) hst.sz hst.rel hρ h
 have hst1:=hst.ext hrel hext
 rw[hsem,hrun]
 cases nx with
 |value u=>
  cases nx'<;>first|exact hnr.elim|skip
  obtain⟨rfl,_,rfl⟩:=retV_some hc
  exact hK _ _ μ1 hst1 hext hnr
 |skip=>
  cases nx'<;>first|exact hnr.elim|skip
  simp only[nextF] at hc
  simp at hc
  obtain⟨rfl,rfl⟩:=hc
  exact hK _ _ μ1 hst1 hext .undef
 |defer d=>
  simp only[nextF] at hc
  obtain⟨_,hc⟩:=cond_some hc
  simp at hc
 |enter f args=>
  cases nx'<;>first|exact hnr.elim|skip
  rename_i f' args'
  obtain⟨rfl,hargs⟩:=hnr
  simp only[nextF,enterF] at hc
  cases hcall:ev.call f args H1 with
  |none=>rw[hcall] at hc;cases hc
  |some q=>
   obtain⟨u,H2⟩:=q
   rw[hcall] at hc
   obtain⟨rfl,_,rfl⟩:=retV_some hc
   refine⟨(fun hd=>by rw[fence_depth] at hd;cases hd),?_⟩
   refine(callsIn_fence (hev.call f args H1 v H' hcall μ1 w1 args' _ hst1 hargs)).mono ?_
   rintro e2 w2 ⟨v2,μ2,rfl,hv2,hst2,hext2⟩
   exact hK w2 v2 μ2 hst2 (hext.trans hext2) hv2
 |round l args=>
  cases nx'<;>first|exact hnr.elim|skip
  rename_i l' fn tmps assign body
  obtain⟨r,r',args',hm,hg,hw1,hlen,hargs,rfl,rfl,rfl,rfl⟩:=hnr
  simp only[nextF] at hc
  obtain⟨_,hround⟩:=round_sound (n:=n-1) hev hst1 hm hg hw1 hargs hc
  refine⟨(fun hd=>by rw[fence_depth] at hd;cases hd),?_⟩
  refine(roundIn_fence hround).mono ?_
  rintro e2 w2 ⟨v2,μ2,rfl,hv2,hst2,hext2⟩
  exact hK w2 v2 μ2 hst2 (hext.trans hext2) hv2
 |recover=>cases hc
theorem not_defer_of{cx:Ctx}{o:Oper}{ρ:Env}{v:Value}{H':AHeap}{rb:Option Nat}(h:heavyOf o.op P ρ H (nextF ev cx)=some (v,[],H')):rb=none∨∀c,o.op≠.defer c:=by
 right
 intro cl e
 rw[e] at h
 simp only[heavyOf,hDefer] at h
 split at h
 ·split at h
  ·simp only[nextF] at h
   obtain⟨_,h⟩:=cond_some h
   simp at h
  ·cases h
 ·cases h
theorem wanted_at{T:Tr Value}{a:Act}{ops:Array Oper}{o:Oper}(hv:∀j want d,o.guard=some (j,want)→(ops[j]?).bind (·.dst)=some d→VRel μ (evTmp d T) (a.tmps.getD d undef)):
 Region.wanted o (yielded ops a.tmps)=wantedA ops.toList o T:=by
 unfold Region.wanted wantedA
 cases hg:o.guard with
 |none=>rfl
 |some q=>
  obtain⟨j,want⟩:=q
  simp only[yielded,lget_eq]
  rw[show ops.toList[j]? =ops[j]? from by simp]
  cases hd:(ops[j]?).bind (·.dst) with
  |none=>simp
  |some d=>
   simp only[Option.bind_some]
   have hv:=hv j want d hg hd
   simp only[Array.getD_eq_getD_getElem?,evTmp] at hv
   cases hget:a.tmps[d]? with
   |none=>
    rw[hget] at hv
    cases hTd:T.get d with
    |none=>rfl
    |some u=>
     rw[hTd] at hv
     simp at hv
     cases u<;>first|rfl|(have:=hv.inv_bool;simp[undef] at this)
   |some u'=>
    rw[hget] at hv
    simp at hv
    cases hTd:T.get d with
    |none=>
     rw[hTd] at hv
     simp at hv
     obtain⟨a',e,_⟩:=VRel.inv_tuple (show VRel μ (.tuple #[]) u' from hv)
     subst e
     rfl
    |some u=>
     rw[hTd] at hv
     simp at hv
     cases u' with
     |bool b=>
      obtain rfl:=hv.to_bool
      simp[guardSays]
     |_=>
      cases u<;>first|rfl|(have:=hv.inv_bool;simp at this)
def allocsOk(P:Program)(H:AHeap):List Oper→List Nat→Nat→Prop
 |[],_,_=>True
 |o::rest,ids,lb=>match kindOf o.op o.type with
  | .alloc e=>∃id ids' z,ids=id::ids'∧lb≤id∧id<H.next∧zeroCells? P e=some z∧H.get id=some (.cells z e true false)∧allocsOk P H rest ids' (id+1)
  |_=>allocsOk P H rest ids lb
theorem preK_some{β:Type}{c:List Nat→AHeap→Option β}{r:β}:∀{ops:List Oper}{ids:List Nat}{H:AHeap},preK P c ops ids H=some r→
 ∃ids' H',c (ids++ids') H'=some r∧H.next≤H'.next∧(∀i,i<H.next→H'.get i=H.get i)∧allocsOk P H' ops ids' H.next:=by
 intro ops
 induction ops with
 |nil=>intro ids H h;exact⟨[],H,by simpa [preK] using h,Nat.le_refl _,fun _ _=>rfl,trivial⟩
 |cons o ops ih=>
  intro ids H h
  simp only[preK] at h
  cases hk:kindOf o.op o.type with
  |alloc e=>
   rw[hk] at h
   simp only at h
   cases hz:zeroCells? P e with
   |none=>rw[hz] at h;cases h
   |some z=>
    rw[hz] at h
    simp only[newCells,forceLV_eq] at h
    obtain⟨_,h⟩:=cond_some h
    obtain⟨H1,hc,hn,hg⟩:=AHeap.newK_some h
    obtain⟨ids',H',h1,h2,h3,h4⟩:=ih hc
    refine⟨H.next::ids',H',by simpa using h1,by omega,fun i hi=>by rw[h3 i (by omega),hg,if_neg (by omega)],?_⟩
    simp only[allocsOk,hk]
    exact⟨H.next,ids',z,rfl,Nat.le_refl _,by omega,hz,by rw[h3 _ (by omega),hg,if_pos rfl],by rw[←hn];exact h4⟩
  |_=>
   rw[hk] at h
   obtain⟨ids',H',h1,h2,h3,h4⟩:=ih h
   exact⟨ids',H',h1,h2,h3,by simp only[allocsOk,hk];exact h4⟩
variable{cx:Ctx}{all:List Oper}{is:List OpI}{s₀ s₁:DSt}{st:Nat→DSt}{val:Nat→Value}
def AllocAt(all:List Oper)(st:Nat→DSt)(k:Nat)(e:TypeId)(id:Nat):Prop:=∃o,all[k]? =some o∧kindOf o.op o.type= .alloc e∧(st k).ids.head? =some id
theorem ids_at(tr:Trace P ev cx all is s₀ s₁ st val)(hlen:all.length=is.length){H0:AHeap}{lb0:Nat}(h0:allocsOk P H0 all s₀.ids lb0):∀k,k≤all.length→
 ∃lb,lb0≤lb∧allocsOk P H0 (all.drop k) (st k).ids lb∧(∀j e id,j<k→AllocAt all st j e id→id<lb):=by
 intro k
 induction k with
 |zero=>intro _;exact⟨lb0,Nat.le_refl _,by rw[tr.zero];exact h0,fun j e id hj=>by omega⟩
 |succ k ih=>
  intro hk
  obtain⟨lb,h1,h2,h3⟩:=ih (by omega)
  obtain⟨o,x,ho,hx⟩:=op_at (all:=all) (is:=is) hlen (show k<all.length by omega)
  have hids:=(tr.step k o x ho hx).ids
  have hdrop:all.drop k=o::all.drop (k+1):=by
   rw[List.drop_eq_getElem_cons (by omega)]
   congr 1
   have:=(List.getElem?_eq_some_iff.1 ho).2
   exact this
  rw[hdrop] at h2
  simp only[allocsOk] at h2
  cases hkd:kindOf o.op o.type with
  |alloc e=>
   rw[hkd] at h2 hids
   simp only at h2 hids
   obtain⟨id,ids',z,e1,e2,e3,e4,e5,e6⟩:=h2
   rw[e1] at hids
   refine⟨id+1,by omega,by rw[hids];exact e6,fun j e' id' hj hal=> ?_⟩
   by_cases ej:j=k
   ·subst ej
    obtain⟨o',ho',_,hh⟩:=hal
    rw[e1] at hh
    simp at hh
    omega
   ·have:=h3 j e' id' (by omega) hal
    omega
  |_=>
   rw[hkd] at h2 hids
   simp only at h2 hids
   refine⟨lb,h1,by rw[hids];exact h2,fun j e' id' hj hal=> ?_⟩
   by_cases ej:j=k
   ·subst ej
    obtain⟨o',ho',hk',_⟩:=hal
    rw[ho] at ho'
    cases ho'
    rw[hkd] at hk'
    cases hk'
   ·exact h3 j e' id' (by omega) hal
theorem alloc_facts(tr:Trace P ev cx all is s₀ s₁ st val)(hlen:all.length=is.length){H0:AHeap}{lb0:Nat}(h0:allocsOk P H0 all s₀.ids lb0){k:Nat}{e:TypeId}{id:Nat}(h:AllocAt all st k e id):
 lb0≤id∧id<H0.next∧(∃z,zeroCells? P e=some z∧H0.get id=some (.cells z e true false))∧∀j e' id',j<k→AllocAt all st j e' id'→id'<id:=by
 obtain⟨o,ho,hk,hh⟩:=h
 have hlt:k<all.length:=(List.getElem?_eq_some_iff.1 ho).1
 obtain⟨lb,h1,h2,h3⟩:=ids_at tr hlen h0 k (by omega)
 have hdrop:all.drop k=o::all.drop (k+1):=by
  rw[List.drop_eq_getElem_cons (by omega)]
  congr 1
  exact(List.getElem?_eq_some_iff.1 ho).2
 rw[hdrop] at h2
 simp only[allocsOk,hk] at h2
 obtain⟨id',ids',z,e1,e2,e3,e4,e5,e6⟩:=h2
 rw[e1] at hh
 simp at hh
 subst hh
 exact⟨by omega,e3,⟨z,e4,e5⟩,fun j e' id'' hj hal=>by have:=h3 j e' id'' hj hal;omega⟩
theorem alloc_inj(tr:Trace P ev cx all is s₀ s₁ st val)(hlen:all.length=is.length){H0:AHeap}{lb0:Nat}(h0:allocsOk P H0 all s₀.ids lb0){j k:Nat}{e e':TypeId}{id:Nat}(h:AllocAt all st k e id)
 (h':AllocAt all st j e' id):j=k:=by
 rcases Nat.lt_trichotomy j k with hlt|heq|hgt
 ·have:=(alloc_facts tr hlen h0 h).2.2.2 j e' id hlt h';omega
 ·exact heq
 ·have:=(alloc_facts tr hlen h0 h').2.2.2 k e id hgt h;omega
end
end
section
structure DInv(gs:List Nat)(P:Program)(cx:Ctx)(all:List Oper)(st:Nat→DSt)(val:Nat→Value)(Hb:AHeap)(μb:Mu)(wb:World)(D:List Deferred)(rb:Option Nat)
 (S:Nat→Prop)(m:Nat)(μ:Mu)(w:World)(a:Act):Prop where
 lt:∀i,S i→i<all.length
 closed:∀i o e,S i→all[i]? =some o→e∈o.after.toList→Region.binds .any e=true→S e.on
 mle:m≤all.length
 hv:∀j,hvy all j→(S j↔j<m)
 sok:St gs P (st m).H μ w
 ext:Ext Hb μb wb (st m).H μ w
 tsz:a.tmps.size=cx.nt
 tmp:∀t,(∃i,S i∧wr all i t∧(∀j,S j→wr all j t→j≤i)∧VRel μ (val i) (a.tmps.getD t undef))∨
  ((∀j,S j→¬wr all j t)∧VRel μ (evTmp t (st 0).T) (a.tmps.getD t undef))
 al:∀k e id,¬S k→AllocAt all st k e id→Hb.next≤id∧id<(st m).H.next∧μ id=none∧∃z,zeroCells? P e=some z∧(st m).H.get id=some (.cells z e true false)
 dfr:DRels μ D a.defers
 rd:RdRel μ cx.rd rb
section
variable{gs:List Nat}{P:Program}{ev:Ev}{cx:Ctx}{all:List Oper}{is:List OpI}{s₀ s₁:DSt}{st:Nat→DSt}{val:Nat→Value}
 {Hb:AHeap}{μb:Mu}{wb:World}{D:List Deferred}{rb:Option Nat}{S:Nat→Prop}{m:Nat}{μ:Mu}{w:World}{a:Act}
theorem RdRel.mono{μ':Mu}(h:Mu.le μ μ'){x y:Option Nat}(k:RdRel μ x y):RdRel μ' x y:=by
 cases x<;>cases y<;>first|exact k|exact h.f _ _ k
theorem look_at(tr:Trace P ev cx all is s₀ s₁ st val)(hd:drawInfo all=some is)(inv:DInv gs P cx all st val Hb μb wb D rb S m μ w a){i:Nat}{o:Oper}{x:OpI}(hi:¬S i)
 (ho:all[i]? =some o)(hx:is[i]? =some x)(hpre:∀e∈o.after.toList,Region.binds .any e=true→S e.on){t:Nat}(ht:x.rm.testBit t=true):
 VRel μ (evTmp t (st i).T) (a.tmps.getD t undef):=by
 obtain⟨hlen,hpairs,hinfo⟩:=drawInfo_spec hd
 have hil:i<all.length:=(List.getElem?_eq_some_iff.1 ho).1
 have hW:∀j,wr all j t→(S j↔j<i):=by
  rintro j ⟨oj,hoj,hdj⟩
  obtain⟨xj,hxj,infoj⟩:=hinfo j oj hoj
  have hjb:xj.dm.testBit t=true:=by rw[infoj.dm,hdj];exact dstMask_of t
  constructor
  ·intro hSj
   rcases Nat.lt_trichotomy j i with h|h|h
   ·exact h
   ·subst h;exact absurd hSj hi
   ·have hcl:clash x xj=true:=by
     unfold clash
     rw[meets_of ht hjb]
     simp
    have hb:=pairsOk_spec hpairs i j x xj h hx hxj hcl
    rw[Nat.zero_add] at hb
    exact absurd (mask_closed hd inv.closed j oj xj hoj hxj (fun e he hbe=>inv.closed j oj e hSj hoj he hbe) i hb).1 hi
  ·intro h
   have hcl:clash xj x=true:=by
    unfold clash
    rw[meets_of (b:=x.rm ||| x.dm) hjb (by rw[Nat.testBit_or,ht];rfl)]
    simp
   have hb:=pairsOk_spec hpairs j i xj x h hxj hx hcl
   rw[Nat.zero_add] at hb
   exact(mask_closed hd inv.closed i o x ho hx hpre j hb).1
 rcases tmp_at tr hlen t i (by omega) with⟨j,h1,h2,h3,h4⟩|⟨h1,h2⟩
 ·rcases inv.tmp t with⟨k,k1,k2,k3,k4⟩|⟨k1,k2⟩
  ·obtain rfl:j=k:=by
    have ha:=k3 j ((hW j h2).2 h1) h2
    have hb:=h3 k ((hW k k2).1 k1) k2
    omega
   rw[h4]
   exact k4
  ·exact absurd h2 (k1 j ((hW j h2).2 h1))
 ·rcases inv.tmp t with⟨k,k1,k2,k3,k4⟩|⟨k1,k2⟩
  ·exact absurd k2 (h1 k ((hW k k2).1 k1))
  ·rw[h2,←tr.zero]
   exact k2
theorem DInv.done(tr:Trace P ev cx all is s₀ s₁ st val)(hd:drawInfo all=some is)(inv:DInv gs P cx all st val Hb μb wb D rb S m μ w a){i:Nat}{o:Oper}{x:OpI}(hi:¬S i)
 (ho:all[i]? =some o)(hx:is[i]? =some x)(hpre:∀e∈o.after.toList,Region.binds .any e=true→S e.on)
 {m':Nat}{μ':Mu}{w':World}{v':Value}(hle:Mu.le μ μ')(hv:VRel μ' (val i) v')(hmle:m'≤all.length)(hhv:∀j,hvy all j→((S j∨j=i)↔j<m'))
 (hst:St gs P (st m').H μ' w')(hext:Ext Hb μb wb (st m').H μ' w')
 (hal:∀k e id,¬(S k∨k=i)→AllocAt all st k e id→Hb.next≤id∧id<(st m').H.next∧μ' id=none∧∃z,zeroCells? P e=some z∧(st m').H.get id=some (.cells z e true false)):
 DInv gs P cx all st val Hb μb wb D rb (fun j=>S j∨j=i) m' μ' w' (a.put o.dst v'):=by
 obtain⟨hlen,hpairs,hinfo⟩:=drawInfo_spec hd
 have hil:i<all.length:=(List.getElem?_eq_some_iff.1 ho).1
 have hmade:=tr.step i o x ho hx
 refine⟨?_,?_,hmle,hhv,hst,hext,?_,?_,hal,by rw[put_defers];exact inv.dfr.mono hle,inv.rd.mono hle⟩
 ·rintro j (h|rfl)
  ·exact inv.lt j h
  ·exact hil
 ·rintro j oj e (h|rfl) hoj he hbe
  ·exact .inl (inv.closed j oj e h hoj he hbe)
  ·rw[ho] at hoj
   cases hoj
   exact .inl (hpre e he hbe)
 ·cases hdst:o.dst with
  |none=>exact inv.tsz
  |some d=>simp only[Act.put,Array.size_setIfInBounds];exact inv.tsz
 ·intro t
  by_cases hdt:o.dst=some t
  ·left
   refine⟨i,.inr rfl,⟨o,ho,hdt⟩,?_,?_⟩
   ·rintro j (hS|rfl) ⟨oj,hoj,hdj⟩
    ·rcases Nat.lt_trichotomy j i with h|h|h
     ·omega
     ·omega
     ·obtain⟨xj,hxj,infoj⟩:=hinfo j oj hoj
      obtain⟨x',hx',infoi⟩:=hinfo i o ho
      rw[hx] at hx'
      cases hx'
      have hcl:clash x xj=true:=by
       unfold clash
       rw[meets_of (t:=t) (a:=x.dm) (b:=xj.rm ||| xj.dm) (by rw[infoi.dm,hdt];exact dstMask_of t) (by rw[Nat.testBit_or,infoj.dm,hdj,dstMask_of];simp)]
       simp
      have hb:=pairsOk_spec hpairs i j x xj h hx hxj hcl
      rw[Nat.zero_add] at hb
      exact absurd (mask_closed hd inv.closed j oj xj hoj hxj (fun e he hbe=>inv.closed j oj e hS hoj he hbe) i hb).1 hi
    ·exact Nat.le_refl _
   ·have hlt:=hmade.lt t hdt
    rw[hdt]
    simp only[Act.put]
    rw[Array.getD_eq_getD_getElem?]
    simp[inv.tsz,hlt]
    exact hv
  ·have hget:(a.put o.dst v').tmps.getD t undef=a.tmps.getD t undef:=by
    cases hdst:o.dst with
    |none=>rfl
    |some d=>
     simp only[Act.put,Array.getD_eq_getD_getElem?]
     rw[Array.getElem?_setIfInBounds_ne]
     intro e
     exact hdt (by rw[hdst,e])
   rw[hget]
   have hnw:¬wr all i t:=by
    rintro⟨o',ho',hd'⟩
    rw[ho] at ho'
    cases ho'
    exact hdt hd'
   rcases inv.tmp t with⟨k,k1,k2,k3,k4⟩|⟨k1,k2⟩
   ·left
    refine⟨k,.inl k1,k2,?_,k4.mono hle⟩
    rintro j (hS|rfl) hw
    ·exact k3 j hS hw
    ·exact absurd hw hnw
   ·right
    refine⟨?_,k2.mono hle⟩
    rintro j (hS|rfl) hw
    ·exact k1 j hS hw
    ·exact hnw hw
theorem veqL_eq{f:Value→Value→Bool}(hf:∀a b,f a b=true→a=b):∀{a b:List Value},veqL f a b=true→a=b:=by
 intro a
 induction a with
 |nil=>intro b h;cases b<;>first|rfl|cases h
 |cons x xs ih=>
  intro b h
  cases b with
  |nil=>cases h
  |cons y ys=>
   simp only[veqL,Bool.and_eq_true] at h
   rw[hf x y h.1,ih h.2]
theorem arr_eq{a b:Array Value}(h:a.toList=b.toList):a=b:=by cases a;cases b;simp at h;simp[h]
theorem veq_eq:∀{n:Nat}{a b:Value},veq n a b=true→a=b:=by
 intro n
 induction n with
 |zero=>intro a b h;cases h
 |succ n ih=>
  intro a b h
  have hl:∀{a b:List Value},veqL (veq n) a b=true→a=b:=fun h=>veqL_eq (fun _ _=>ih) h
  cases a<;>cases b<;>simp only[veq,Bool.and_eq_true,beq_iff_eq,decide_eq_true_eq,aeq,Bool.false_eq_true] at h
  case bool.bool=>rw[h]
  case int.int=>rw[kEq_eq h.1,h.2]
  case string.string s s'=>
   cases s with|mk d=>cases s' with|mk d'=>
   cases d;cases d'
   simp at h
   rw[h]
  case pointer.pointer=>rw[h]
  case slice.slice=>rw[h.1.1,Nat.eq_of_beq_eq_true h.1.2,Nat.eq_of_beq_eq_true h.2]
  case map.map=>rw[h]
  case func.func=>rw[h.1.1,arr_eq (hl h.1.2),arr_eq (hl h.2)]
  case iface.iface=>rw[Nat.eq_of_beq_eq_true h.1,ih h.2]
  case agg.agg=>rw[arr_eq (hl h)]
  case tuple.tuple=>rw[arr_eq (hl h)]
  all_goals rfl
end
end
section
section
variable{gs:List Nat}{P:Program}{ev:Ev}{cx:Ctx}{is:List OpI}{s₀ s₁:DSt}{st:Nat→DSt}{val:Nat→Value}
 {Hb:AHeap}{μb:Mu}{wb:World}{D:List Deferred}{rb:Option Nat}{S:Nat→Prop}{m:Nat}{μ:Mu}{w:World}{a:Act}{ops:Array Oper}
theorem Ext.bind{H Hm:AHeap}{μ0:Mu}{w0:World}(h:Ext H μ0 w0 Hm μ w){id:Nat}(hid:H.next≤id)(hv:μ id=none)(ob:Obj)(cc:Nat):Ext H μ0 w0 Hm (upd μ id (w.heap.size,0) cc) (wNew w ob) where
 mu:=h.mu.trans (mono_virt hv _ _)
 next:=h.next
 size:=by simp;have:=h.size;omega
 keep b hb hl:=by rw[push_old w ob (Nat.lt_of_lt_of_le hb h.size)];exact h.keep b hb hl
 unl i b o hi hb hn:=by
  by_cases e:i=id
  ·subst e
   rw[upd_same] at hi
   cases hi
   have:=h.size
   omega
  ·rw[upd_ne _ _ _ e] at hi
   exact h.unl i b o hi hb hn
 virt i hi hm:=by
  obtain⟨h1,h2⟩:=h.virt i hi hm
  exact⟨by rw[upd_ne _ _ _ (by omega)];exact h1,h2⟩
 tape:=h.tape
 os:=h.os
 output:=h.output
theorem dval_unwanted{all:List Oper}{o:Oper}{s:DSt}{v:Value}{H':AHeap}(hw:wantedA all o s.T=false)(h:dval P ev cx all o s=some (v,H')):v=undef∧H'=s.H:=by
 unfold dval at h
 rw[hw] at h
 split at h
 ·split at h
  ·simp at h;exact⟨h.1.symm,h.2.symm⟩
  ·cases h
 all_goals (simp at h;exact⟨h.1.symm,h.2.symm⟩)
theorem draw_step{i n:Nat}{K:Act→World→Prop}{Q:Exit→Act→World→Prop}(hev:EvOk gs P ev)(hok:opsOk gs ops.toList=true)(tr:Trace P ev cx ops.toList is s₀ s₁ st val)(hd:drawInfo ops.toList=some is)
 (hhs:s₀.hs=[])(hchk:∀l∈s₁.lds,chkLd P l s₀.H s₁.hs.reverse=true)(hal0:allocsOk P s₀.H ops.toList s₀.ids Hb.next)
 (inv:DInv gs P cx ops.toList st val Hb μb wb D rb S m μ w a)(hil:i<ops.size)(hi:¬S i)(hpre:∀o,ops[i]? =some o→∀e∈o.after.toList,Region.binds .any e=true→S e.on)
 (hK:∀m' μ' w' a',DInv gs P cx ops.toList st val Hb μb wb D rb (fun j=>S j∨j=i) m' μ' w' a'→K a' w'):
 wpOpIn (fence rb) n P ops Q i K a w:=by
 obtain⟨hlen,hpairs,hinfo⟩:=drawInfo_spec hd
 obtain⟨o,x,ho,hx⟩:=op_at (all:=ops.toList) (is:=is) hlen (show i<ops.toList.length by simpa using hil)
 have ho':ops[i]? =some o:=by simpa using ho
 have hpre':=hpre o ho'
 obtain⟨x',hx',info⟩:=hinfo i o ho
 rw[hx] at hx'
 cases hx'
 have made:=tr.step i o x ho hx
 have hlook:∀{t:Nat},x.rm.testBit t=true→VRel μ (evTmp t (st i).T) (a.tmps.getD t undef):=fun ht=>look_at tr hd inv hi ho hx hpre' ht
 have hoko:o.op.operands.toList.all (operandOk gs)=true:=by
  unfold opsOk at hok
  exact List.all_eq_true.1 hok o (List.mem_of_getElem? ho)
 have hρ:∀y∈o.op.operands.toList,VRel μ (evT (st i).T y) (a.eval y):=by
  intro y hy
  have hyok:=List.all_eq_true.1 hoko y hy
  cases y with
  |tmp t=>exact hlook (by rw[info.rm];exact tmpMask_of (.inl hy))
  |const v=>exact .plain 4 hyok
  |global g=>exact VRel.ptr (off:=0) (inv.sok.gl g hyok)
  |func f=>exact .plain 2 rfl
 have hwant:Region.wanted o (yielded ops a.tmps)=wantedA ops.toList o (st i).T:=by
  refine wanted_at (μ:=μ) fun j want d hg hdj=>hlook ?_
  rw[info.rm]
  refine tmpMask_of (.inr ?_)
  cases hj:ops[j]? with
  |none=>rw[hj] at hdj;cases hdj
  |some g=>
   rw[hj] at hdj
   have hgd:g.dst=some d:=hdj
   unfold guardMask
   rw[hg]
   simp only[lget_eq]
   rw[show ops.toList[j]? =some g from by simpa using hj]
   simp only[hgd]
   exact dstMask_of d
 have hHeavy:hvy ops.toList i→∀j,hvy ops.toList j→(S j↔j<i):=by
  rintro⟨oi,hoi,hvi⟩ j ⟨oj,hoj,hvj⟩
  rw[ho] at hoi
  cases hoi
  obtain⟨xj,hxj,infoj⟩:=hinfo j oj hoj
  constructor
  ·intro hSj
   rcases Nat.lt_trichotomy j i with h|h|h
   ·exact h
   ·subst h;exact absurd hSj hi
   ·have hcl:clash x xj=true:=by unfold clash;rw[info.hv,infoj.hv,hvi,hvj];simp
    have hb:=pairsOk_spec hpairs i j x xj h hx hxj hcl
    rw[Nat.zero_add] at hb
    exact absurd (mask_closed hd inv.closed j oj xj hoj hxj (fun e he hbe=>inv.closed j oj e hSj hoj he hbe) i hb).1 hi
  ·intro h
   have hcl:clash xj x=true:=by unfold clash;rw[info.hv,infoj.hv,hvi,hvj];simp
   have hb:=pairsOk_spec hpairs j i xj x h hxj hx hcl
   rw[Nat.zero_add] at hb
   exact(mask_closed hd inv.closed i o x ho hx hpre' j hb).1
 have hil':i<ops.toList.length:=by simpa using hil
 have hsame:hvy ops.toList i→(st i).H=(st m).H:=by
  intro hh
  rcases Nat.le_total m i with hmi|him
  ·exact heap_same tr hlen hmi (by omega) fun j h1 h2 hj=>by
    have:=(inv.hv j hj).1 ((hHeavy hh j hj).2 h2)
    omega
  ·exact(heap_same tr hlen him inv.mle fun j h1 h2 hj=>by
    have:=(hHeavy hh j hj).1 ((inv.hv j hj).2 h2)
    omega).symm
 have light:¬hvy ops.toList i→∀j,hvy ops.toList j→((S j∨j=i)↔j<m):=by
  intro hn j hj
  rw[←inv.hv j hj]
  constructor
  ·rintro(h|rfl)
   ·exact h
   ·exact absurd hj hn
  ·exact .inl
 have notHvy:isHeavy (kindOf o.op o.type)=false→¬hvy ops.toList i:=by
  rintro h ⟨oi,hoi,hvi⟩
  rw[ho] at hoi
  cases hoi
  rw[h] at hvi
  cases hvi
 have keepAl:∀k e id,¬(S k∨k=i)→AllocAt ops.toList st k e id→Hb.next≤id∧id<(st m).H.next∧μ id=none∧∃z,zeroCells? P e=some z∧(st m).H.get id=some (.cells z e true false):=
  fun k e id hk h=>inv.al k e id (fun h'=>hk (.inl h')) h
 have quiet:isHeavy (kindOf o.op o.type)=false→∀v',VRel μ (val i) v'→K (a.put o.dst v') w:=by
  intro hnh v' hv'
  exact hK m μ w _ (inv.done tr hd hi ho hx hpre' (Mu.le.refl _) hv' inv.mle (light (notHvy hnh)) inv.sok inv.ext keepAl)
 unfold wpOpIn
 rw[ho']
 simp only
 rw[hwant]
 cases hw:wantedA ops.toList o (st i).T with
 |false=>
  simp only[Bool.false_eq_true,if_false]
  refine⟨fun f _=>fence_fn rb f,?_⟩
  obtain⟨hvu,hHu⟩:=dval_unwanted hw made.val
  cases hvy':isHeavy (kindOf o.op o.type) with
  |false=>exact quiet hvy' undef (by rw[hvu];exact .undef)
  |true=>
   have hh:hvy ops.toList i:=⟨o,ho,hvy'⟩
   have hH:(st (i+1)).H=(st m).H:=hHu.trans (hsame hh)
   refine hK (i+1) μ w _ (inv.done tr hd hi ho hx hpre' (Mu.le.refl _) (by rw[hvu];exact .undef) (by omega) ?_ (by rw[hH];exact inv.sok) (by rw[hH];exact inv.ext) (by rw[hH];exact keepAl))
   intro j hj
   rw[hHeavy hh j hj]
   omega
 |true=>
  simp only[if_true]
  have hval:=made.val
  unfold dval at hval
  rw[hw] at hval
  have semEq:(∀c,o.op≠.defer c)→o.semAt rb a.eval=execOp a.eval o:=fun h=>semAt_eq (.inr h)
  cases hk:kindOf o.op o.type with
  |pure f=>
   rw[hk] at hval
   simp only[cond_true] at hval
   cases hf:f P (evT (st i).T) with
   |none=>rw[hf] at hval;cases hval
   |some v=>
    rw[hf] at hval
    simp at hval
    obtain⟨v',hrun,hv'⟩:=pure_sound hk hρ hf w
    refine⟨fun f _=>fence_fn rb f,?_⟩
    rw[fence_round,semEq (fun c e=>by rw[e] at hk;cases hk),hrun]
    exact quiet (by rw[hk];rfl) v' (by rw[←hval.1];exact hv')
  |load t y=>
   rw[hk] at hval
   simp only[cond_true] at hval
   cases hf:loadF P t (evT (st i).T y) (st i).H with
   |none=>rw[hf] at hval;cases hval
   |some v=>
    rw[hf] at hval
    simp at hval
    have hmem:=made.ld t y hk hw
    have hmem':=lds_mono tr hlen (show i+1≤ops.toList.length by omega) (Nat.le_refl _) hmem
    rw[tr.last] at hmem'
    have hc:=hchk _ hmem'
    have hlo:=load_at tr hlen hhs hc inv.mle (by
     intro j oj xj hj hoj hxj hvj
     have hSj:=(inv.hv j ⟨oj,hoj,hvj⟩).2 hj
     cases hb:hasBit xj.ms i with
     |false=>rfl
     |true=>exact absurd (mask_closed hd inv.closed j oj xj hoj hxj (fun e he hbe=>inv.closed j oj e hSj hoj he hbe) i (hasBit_iff.1 hb)).1 hi) (by
     intro j oj hj hoj hvj
     have hSj:¬S j:=fun h=>by have:=(inv.hv j ⟨oj,hoj,hvj⟩).1 h;omega
     cases hb:hasBit x.ms j with
     |false=>rfl
     |true=>exact absurd (mask_closed hd inv.closed i o x ho hx hpre' j (hasBit_iff.1 hb)).1 hSj)
    unfold loadOk at hlo
    simp only at hlo
    cases hl2:loadF P t (evT (st i).T y) (st m).H with
    |none=>rw[hl2] at hlo;cases hlo
    |some v2=>
     rw[hl2] at hlo
     obtain rfl:=veq_eq hlo
     have hop:o.op= .load t y:=by
      clear hval hwant made info hρ hoko hlook hpre' ho ho' hHeavy hsame light notHvy keepAl quiet semEq
      obtain⟨dst,op,type,pos,after,guard⟩:=o
      cases op<;>simp only[kindOf,reduceCtorEq,Kind.load.injEq] at hk
      ·obtain⟨rfl,rfl⟩:=hk;rfl
      ·rename_i cl
       obtain⟨callee,args,ts⟩:=cl
       cases callee with
       |builtin b=>cases b<;>simp[callKind,builtinKind] at hk
       |_=>simp[callKind] at hk
     obtain⟨v',hrun,hv'⟩:=load_sound (P:=P) inv.sok.rel (hρ y (by rw[hop];simp[Op.operands])) hl2
     refine⟨fun f _=>fence_fn rb f,?_⟩
     rw[fence_round,semEq (fun c e=>by rw[e] at hk;cases hk)]
     have:(execOp a.eval o).run P w= .ok (.value v') w:=by
      unfold execOp
      rw[hop]
      exact run_v hrun
     rw[this]
     exact quiet (by rw[hk];rfl) v' hv'
  |alloc e=>
   rw[hk] at hval
   simp only[cond_true] at hval
   cases hids:(st i).ids with
   |nil=>rw[hids] at hval;cases hval
   |cons id idr=>
    rw[hids] at hval
    simp at hval
    have hat:AllocAt ops.toList st i e id:=⟨o,ho,hk,by rw[hids];rfl⟩
    obtain⟨hb1,hb2,hb3,z,hz,hgz⟩:=inv.al i e id hi hat
    have hop:o.op= .alloc e:=by
     clear hval hwant made info hρ hoko hlook hpre' ho ho' hHeavy hsame light notHvy keepAl quiet semEq hat
     obtain⟨dst,op,type,pos,after,guard⟩:=o
     cases op<;>simp only[kindOf,reduceCtorEq,Kind.alloc.injEq] at hk
     ·subst hk;rfl
     ·rename_i cl
      obtain⟨callee,args,ts⟩:=cl
      cases callee with
      |builtin b=>cases b<;>simp[callKind,builtinKind] at hk
      |_=>simp[callKind] at hk
    obtain⟨u,ti,hti,hzz,hp,rfl⟩:=zeroCells_some hz
    have hrun:(execOp a.eval o).run P w= .ok (.value (.pointer (some ⟨w.heap.size,0,none⟩))) (wNew w (.cells u.cells e)):=by
     unfold execOp
     rw[hop]
     refine run_v ?_
     unfold Instr.alloc newVar
     simp only[Sem.run_bind,run_zero hti hzz,Result.andThen_ok,newRow,newObj,Sem.run,pure]
    refine⟨fun f _=>fence_fn rb f,?_⟩
    rw[fence_round,semEq (fun c e=>by rw[e] at hk;cases hk),hrun]
    have hrel:=inv.sok.rel.bind hb2 hb3 hgz (.cells u.cells e) 0
     ⟨rfl,by simp,fun k v hkv=>⟨v,by simpa using hkv,by
       obtain⟨v'',h1,h2⟩:=(plain_cells (μ:=upd μ id (w.heap.size,0) 0) hp).at k v hkv
       rw[hkv] at h1
       cases h1
       exact h2⟩,fun _=>rfl,fun _ _=>⟨rfl,by simp⟩,fun h=>by cases h⟩ (fun cs e2 ow he=>by cases he)
    have hle:=mono_virt hb3 (w.heap.size,0) 0
    refine hK m (upd μ id (w.heap.size,0) 0) _ _ (inv.done tr hd hi ho hx hpre' hle (by rw[←hval.1];exact VRel.ptr (upd_same _ _ _ _)) inv.mle (light (notHvy (by rw[hk];rfl)))
     ⟨hrel,fun e n hn=>inv.sok.sz e n hn,fun g hg=>hle.f _ _ (inv.sok.gl g hg)⟩ (inv.ext.bind hb1 hb3 _ _) ?_)
    intro k e2 id2 hk2 hat2
    obtain⟨c1,c2,c3,c4⟩:=keepAl k e2 id2 hk2 hat2
    refine⟨c1,c2,?_,c4⟩
    rw[upd_ne]
    ·exact c3
    ·intro e3
     subst e3
     exact hk2 (.inr (alloc_inj tr hlen hal0 hat hat2))
  |heavy=>
   rw[hk] at hval
   simp only[cond_true] at hval
   have hh:hvy ops.toList i:=⟨o,ho,by rw[hk];rfl⟩
   split at hval
   ·rename_i v H1 hf
    simp at hval
    obtain⟨rfl,rfl⟩:=hval
    rw[hsame hh] at hf
    refine heavy_step hev inv.sok hρ hf (semAt_eq (not_defer_of hf)) ?_
    intro w' v' μ' hst' hext' hv'
    refine hK (i+1) μ' w' _ (inv.done tr hd hi ho hx hpre' hext'.mu hv' (by omega) ?_ hst' (inv.ext.trans hext') ?_)
    ·intro j hj
     rw[hHeavy hh j hj]
     omega
    ·intro k e2 id2 hk2 hat2
     obtain⟨c1,c2,c3,z,c4,c5⟩:=keepAl k e2 id2 hk2 hat2
     obtain⟨d1,d2⟩:=hext'.virt id2 c2 c3
     exact⟨c1,Nat.lt_of_lt_of_le c2 hext'.next,d1,z,c4,by rw[d2];exact c5⟩
   ·cases hval
end
end
section
def unl(p:Nat→Bool):Nat→Nat
 |0=>0
 |n+1=>unl p n+(if p n then 0 else 1)
theorem unl_le{p q:Nat→Bool}:∀n,(∀j,j<n→p j=true→q j=true)→unl q n≤unl p n:=by
 intro n
 induction n with
 |zero=>intro _;exact Nat.le_refl _
 |succ n ih=>
  intro h
  have h1:=ih fun j hj=>h j (by omega)
  simp only[unl]
  cases hp:p n with
  |true=>rw[h n (by omega) hp];simpa using h1
  |false=>cases q n<;>simp<;>omega
theorem unl_lt{p q:Nat→Bool}:∀n i,(∀j,j<n→p j=true→q j=true)→i<n→p i=false→q i=true→unl q n<unl p n:=by
 intro n
 induction n with
 |zero=>intro i _ hi;omega
 |succ n ih=>
  intro i h hi hp hq
  simp only[unl]
  by_cases e:i=n
  ·subst e
   have h1:=unl_le (p:=p) (q:=q) i fun j hj=>h j (by omega)
   rw[hp,hq]
   simp
   omega
  ·have h1:=ih i (fun j hj=>h j (by omega)) (by omega) hp hq
   cases hpn:p n with
   |true=>rw[h n (by omega) hpn];simpa using h1
   |false=>cases q n<;>simp<;>omega
theorem unl_zero{p:Nat→Bool}:∀n,unl p n=0→∀j,j<n→p j=true:=by
 intro n
 induction n with
 |zero=>intro _ j hj;omega
 |succ n ih=>
  intro h j hj
  simp only[unl] at h
  by_cases e:j=n
  ·subst e
   cases hp:p j with
   |true=>rfl
   |false=>rw[hp] at h;simp at h
  ·exact ih (by omega) j (by omega)
theorem unl_bound(p:Nat→Bool):∀n,unl p n≤n:=by
 intro n
 induction n with
 |zero=>exact Nat.le_refl _
 |succ n ih=>simp only[unl];split<;>omega
section
variable{gs:List Nat}{P:Program}{ev:Ev}{cx:Ctx}{is:List OpI}{s₀ s₁:DSt}{st:Nat→DSt}{val:Nat→Value}
 {Hb:AHeap}{μb:Mu}{wb:World}{D:List Deferred}{rb:Option Nat}{ops:Array Oper}
theorem ready_mem{listed:Array Bool}{i:Nat}(hsz:listed.size=ops.size)(h:i∈Region.ready .any ops listed):
 i<ops.size∧listed.getD i false=false∧∀o,ops[i]? =some o→∀e∈o.after.toList,Region.binds .any e=true→listed.getD e.on false=true:=by
 unfold Region.ready at h
 rw[List.mem_filter] at h
 obtain⟨h1,h2⟩:=h
 have hlt:i<ops.size:=by simpa using h1
 rw[Bool.and_eq_true] at h2
 refine⟨hlt,?_,fun o ho e he hb=> ?_⟩
 ·have h3:=h2.1
  simp only[Bool.not_eq_true',Array.getD_eq_getD_getElem?] at h3⊢
  have hl:i<listed.size:=by omega
  simp[hl] at h3⊢
  exact h3
 ·have h3:=h2.2
  rw[ho] at h3
  simp only[Option.map_some,Option.getD_some] at h3
  rw[Array.all_eq_true'] at h3
  have h4:=h3 e (by simpa using he)
  rw[hb] at h4
  simpa using h4
theorem ready_of{listed:Array Bool}{i:Nat}{o:Oper}(hsz:listed.size=ops.size)(ho:ops[i]? =some o)(hl:listed.getD i false=false)
 (he:∀e∈o.after.toList,Region.binds .any e=true→listed.getD e.on false=true):i∈Region.ready .any ops listed:=by
 have hlt:i<ops.size:=(Array.getElem?_eq_some_iff.1 ho).1
 unfold Region.ready
 rw[List.mem_filter]
 refine⟨by simpa using hlt,?_⟩
 rw[Bool.and_eq_true,ho]
 constructor
 ·have hl2:i<listed.size:=by omega
  simp only[Array.getD_eq_getD_getElem?] at hl⊢
  simp[hl2] at hl⊢
  exact hl
 ·simp only[Option.map_some,Option.getD_some]
  rw[Array.all_eq_true']
  intro e hem
  cases hb:Region.binds .any e with
  |false=>rfl
  |true=>simpa using he e (by simpa using hem) hb
theorem all_done{listed:Array Bool}(hd:drawInfo ops.toList=some is)(hsz:listed.size=ops.size)(h:Region.ready .any ops listed=[]):∀i,i<ops.size→listed.getD i false=true:=by
 obtain⟨_,_,hinfo⟩:=drawInfo_spec hd
 intro i
 induction i using Nat.strongRecOn with
 |_ i ih=>
  intro hi
  cases hl:listed.getD i false with
  |true=>rfl
  |false=>
   exfalso
   have ho:ops[i]? =some ops[i]:=by simp[hi]
   obtain⟨x,hx,info⟩:=hinfo i ops[i] (by simp[hi])
   have h1:=(edgeMask_spec info.ms).1
   have hmem:=ready_of hsz ho hl (fun e he hb=>ih e.on (h1 e he hb) (by have:=h1 e he hb;omega))
   rw[h] at hmem
   cases hmem
theorem any_sound{n:Nat}{Q:Exit→Act→World→Prop}(hev:EvOk gs P ev)(hok:opsOk gs ops.toList=true)(tr:Trace P ev cx ops.toList is s₀ s₁ st val)(hd:drawInfo ops.toList=some is)
 (hhs:s₀.hs=[])(hchk:∀l∈s₁.lds,chkLd P l s₀.H s₁.hs.reverse=true)(hal0:allocsOk P s₀.H ops.toList s₀.ids Hb.next)
 (hQ:∀μ' w' a',St gs P s₁.H μ' w'→Ext Hb μb wb s₁.H μ' w'→TRel μ' s₁.T a'.tmps cx.nt→DRels μ' D a'.defers→Q .normal a' w'):
 ∀(fuel:Nat)(listed:Array Bool)(m:Nat)(μ:Mu)(w:World)(a:Act),listed.size=ops.size→unl (fun j=>listed.getD j false) ops.size≤fuel→
  DInv gs P cx ops.toList st val Hb μb wb D rb (fun j=>listed.getD j false=true) m μ w a→wpAnyIn (fence rb) n P .any ops Q fuel listed a w:=by
 obtain⟨hlen,hpairs,hinfo⟩:=drawInfo_spec hd
 have fin:∀(listed:Array Bool)(m:Nat)(μ:Mu)(w:World)(a:Act),(∀i,i<ops.size→listed.getD i false=true)→
  DInv gs P cx ops.toList st val Hb μb wb D rb (fun j=>listed.getD j false=true) m μ w a→Q .normal a w:=by
  intro listed m μ w a hall inv
  have hH:s₁.H=(st m).H:=by
   rw[←tr.last]
   exact heap_same tr hlen inv.mle (Nat.le_refl _) fun j h1 h2 hj=>by
    have:=(inv.hv j hj).1 (hall j (by simpa using h2))
    omega
  refine hQ μ w a (by rw[hH];exact inv.sok) (by rw[hH];exact inv.ext) ⟨inv.tsz,fun t=> ?_⟩ inv.dfr
  have hin:∀j,j<ops.toList.length→listed.getD j false=true:=fun j hj=>hall j (by simpa using hj)
  rw[←tr.last]
  rcases tmp_at tr hlen t ops.toList.length (Nat.le_refl _) with⟨j,h1,h2,h3,h4⟩|⟨h1,h2⟩
  ·rcases inv.tmp t with⟨k,k1,k2,k3,k4⟩|⟨k1,k2⟩
   ·obtain rfl:j=k:=by
     have ha:=k3 j (hin j h1) h2
     have hb:=h3 k (inv.lt k k1) k2
     omega
    rw[h4]
    exact k4
   ·exact absurd h2 (k1 j (hin j h1))
  ·rcases inv.tmp t with⟨k,k1,k2,k3,k4⟩|⟨k1,k2⟩
   ·exact absurd k2 (h1 k (inv.lt k k1))
   ·rw[h2,←tr.zero]
    exact k2
 intro fuel
 induction fuel with
 |zero=>
  intro listed m μ w a hsz hc inv
  have hall:=unl_zero (p:=fun j=>listed.getD j false) ops.size (by omega)
  refine⟨?_,fin listed m μ w a hall inv⟩
  cases hr:Region.ready .any ops listed with
  |nil=>rfl
  |cons i l=>
   obtain⟨h1,h2,_⟩:=ready_mem hsz (show i∈Region.ready .any ops listed by rw[hr];exact .head _)
   have h3:listed.getD i false=true:=hall i h1
   rw[h2] at h3
   cases h3
 |succ fuel ih=>
  intro listed m μ w a hsz hc inv
  refine⟨fun hr=>fin listed m μ w a (all_done hd hsz hr) inv,fun i hi=> ?_⟩
  obtain⟨h1,h2,h3⟩:=ready_mem hsz hi
  refine draw_step hev hok tr hd hhs hchk hal0 inv h1 (by simp only[h2];simp) h3 ?_
  intro m' μ' w' a' inv'
  have hget:∀j,(listed.setIfInBounds i true).getD j false=true↔(listed.getD j false=true∨j=i):=by
   intro j
   simp only[Array.getD_eq_getD_getElem?]
   by_cases e:j=i
   ·subst e
    have:j<listed.size:=by omega
    simp[this]
   ·rw[Array.getElem?_setIfInBounds_ne (Ne.symm e)]
    simp[e]
  refine ih (listed.setIfInBounds i true) m' μ' w' a' (by simpa using hsz) ?_ ?_
  ·have hlt:=unl_lt (p:=fun j=>listed.getD j false) (q:=fun j=>(listed.setIfInBounds i true).getD j false) ops.size i (fun j _ hj=>(hget j).2 (.inl hj)) h1 h2 ((hget i).2 (.inr rfl))
   omega
  ·have:(fun j=>(listed.setIfInBounds i true).getD j false=true)=(fun j=>listed.getD j false=true∨j=i):=funext fun j=>propext (hget j)
   rw[this]
   exact inv'
theorem Ext.widen{H H':AHeap}{μ:Mu}{w:World}(h:Rel H μ w)(hn:H.next≤H'.next)(hg:∀i,i<H.next→H'.get i=H.get i):Ext H μ w H' μ w where
 mu:=Mu.le.refl _
 next:=hn
 size:=Nat.le_refl _
 keep _ _ _:=rfl
 unl i b o hi _ hl:=⟨i,o,hi,fun ⟨x,h1,h2⟩=>hl ⟨x,by rw[hg i (h.dom _ _ hi)];exact h1,h2⟩⟩
 virt i hi hm:=⟨hm,hg i hi⟩
 tape:=rfl
 os:=rfl
 output:=rfl
theorem draw_sound{H:AHeap}{μ:Mu}{w:World}{a:Act}{T T':Tr Value}{H':AHeap}{id n:Nat}{Q:Exit→Act→World→Prop}(hmix:P.follows .mixedOrders=true)(hev:EvOk gs P ev)
 (hok:opsOk gs ops.toList=true)(hst:St gs P H μ w)(hT:TRel μ T a.tmps cx.nt)(hD:DRels μ D a.defers)(hrd:RdRel μ cx.rd rb)(h:drawF P ev cx ops.toList T H=some (T',H'))
 (hQ:∀μ' w' a',St gs P H' μ' w'→Ext H μ w H' μ' w'→TRel μ' T' a'.tmps cx.nt→DRels μ' D a'.defers→Q .normal a' w'):(Code.region id ops true).wpIn (fence rb) n P Q a w:=by
 unfold drawF at h
 cases hd:drawInfo ops.toList with
 |none=>rw[hd] at h;cases h
 |some is=>
  rw[hd] at h
  simp only at h
  obtain⟨ids,H0,hc,hn,hg,hal⟩:=preK_some h
  rw[List.nil_append] at hc
  split at hc
  ·rename_i s₁ hops
   obtain⟨st,val,h0,hl,hlen,hstep⟩:=trace_of hops
   have tr:Trace P ev cx ops.toList is ⟨T,H0,[],[],ids⟩ s₁ st val:=⟨h0,hl,fun k o x ho hx=>by have:=hstep k o x ho hx;rwa [Nat.zero_add] at this⟩
   unfold drawDone at hc
   obtain⟨hchk,hc⟩:=cond_some hc
   simp at hc
   obtain⟨rfl,rfl⟩:=hc
   have hst':St gs P H0 μ {w with drawn:=w.drawn+1}:=⟨(hst.rel.widen hn hg).drew _,hst.sz,hst.gl⟩
   refine wpIn_region_any hmix ?_
   refine any_sound (Hb:=H) (μb:=μ) (wb:=w) (D:=D) hev hok tr hd rfl (fun l hl=>List.all_eq_true.1 hchk l hl) hal hQ ops.size (Array.replicate ops.size false) 0 μ _ a (by simp) (unl_bound _ _) ?_
   have hno:∀j,(Array.replicate ops.size false).getD j false=true→False:=by
    intro j hj
    simp only[Array.getD_eq_getD_getElem?] at hj
    by_cases hjl:j<ops.size
    ·simp[hjl] at hj
    ·simp[hjl] at hj
   refine⟨fun i hi=>(hno i hi).elim,fun i _ _ hi=>(hno i hi).elim,Nat.zero_le _,fun j _=>⟨fun hj=>(hno j hj).elim,fun hj=>by omega⟩,by rw[h0];exact hst',?_,hT.1,fun t=>.inr ⟨fun j hj=>(hno j hj).elim,by rw[h0];exact hT.2 t⟩,?_,hD,hrd⟩
   ·rw[h0]
    exact(Ext.widen hst.rel hn hg).trans (Ext.drew H0 μ w _)
   ·intro k e id2 _ hat
    obtain⟨c1,c2,c3,_⟩:=alloc_facts tr hlen hal hat
    refine⟨c1,by rw[h0];exact c2,?_,by rw[h0];exact c3⟩
    cases hm:μ id2 with
    |none=>rfl
    |some p=>have:=hst.rel.dom _ _ hm;omega
  ·cases hc
end
end
section
section
variable{gs:List Nat}{P:Program}{ev:Ev}{H:AHeap}{μ:Mu}{w:World}
def LoopOk(gs:List Nat)(P:Program)(m:Nat)(ev:Ev):Prop:=
 ∀cx c T D H e T' D' H',ev.code cx (.loop c) T D H=some (e,T',D',H')→∀μ w a rb n,St gs P H μ w→TRel μ T a.tmps cx.nt→DRels μ D a.defers→RdRel μ cx.rd rb→
  Code.roundsIn (fence rb) n P c (CPost gs P H μ w cx.nt e T' D' H') m a w
theorem CPost.from{H1:AHeap}{μ1:Mu}{w1:World}{nt:Nat}{e:XE}{T':Tr Value}{D':List Deferred}{H':AHeap}{e':Exit}{a':Act}{w':World}(hx:Ext H μ w H1 μ1 w1)
 (h:CPost gs P H1 μ1 w1 nt e T' D' H' e' a' w'):CPost gs P H μ w nt e T' D' H' e' a' w':=by
 obtain⟨h1,μ',h2,h3,h4,h5⟩:=h
 exact⟨h1,μ',h2,hx.trans h3,h4,h5⟩
theorem cond_codes{a b c:Code}{v:Value}(h:cCond' a b v=some c):∃t,v= .bool t∧c=if t then a else b:=by
 unfold cCond' at h
 split at h
 ·exact⟨true,rfl,by simpa using h.symm⟩
 ·exact⟨false,rfl,by simpa using h.symm⟩
 ·cases h
theorem loop_ok{m:Nat}(hev:EvOk gs P ev)(hl:LoopOk gs P m ev):LoopOk gs P (m+1) ⟨codeF gs P ev,callF gs P ev⟩:=by
 intro cx c T D H e T' D' H' h μ w a rb n hst hT hD hrd
 change cLoop ev c cx T D H=_ at h
 unfold cLoop at h
 rw[roundsIn_succ]
 cases hc:ev.code cx c T D H with
 |none=>rw[hc] at h;cases h
 |some q=>
  obtain⟨e1,T1,D1,H1⟩:=q
  have hw:=hev.code cx c T D H e1 T1 D1 H1 hc μ w a rb n hst hT hD hrd
  refine wpIn_mono hw ?_
  intro e' a' w' hp
  rw[hc] at h
  cases e1 with
  |normal=>
   simp only at h
   obtain⟨hx,μ1,hst1,hext,hT1,hD1⟩:=hp
   cases e'<;>first|exact hx.elim|skip
   have:=hl cx c T1 D1 H1 e T' D' H' h μ1 w' a' rb n hst1 hT1 hD1 (hrd.mono hext.mu)
   show Code.roundsIn (fence rb) n P c _ m a' w'
   revert this
   generalize ha:a'=a2
   generalize hw2:w'=w2
   intro this
   subst ha hw2
   exact rounds_mono this fun e a w h=>CPost.from hext h
  |exit i=>
   simp at h
   obtain⟨rfl,rfl,rfl,rfl⟩:=h
   cases e'<;>first|exact hp.1.elim|exact hp
  |ret=>
   simp at h
   obtain⟨rfl,rfl,rfl,rfl⟩:=h
   cases e'<;>first|exact hp.1.elim|exact hp
 where
 rounds_mono {F:Fence} {n:Nat} {P:Program} {c:Code} {Q Q':Exit→Act→World→Prop}:∀{m:Nat}{a:Act}{w:World},Code.roundsIn F n P c Q m a w→(∀e a w,Q e a w→Q' e a w)→Code.roundsIn F n P c Q' m a w
  |0,_,_,h,_=>h
  |m+1,_,_,h,hq=>wpIn_mono h fun e a w k=>by
    cases e with
    |normal=>exact rounds_mono k hq
    |_=>exact hq _ _ _ k
theorem seq_ok{x y:Code}{cx:Ctx}{T T':Tr Value}{D D':List Deferred}{H':AHeap}{e:XE}{a:Act}{rb:Option Nat}{n:Nat}(hev:EvOk gs P ev)(h:cSeq ev x y cx T D H=some (e,T',D',H'))
 (hst:St gs P H μ w)(hT:TRel μ T a.tmps cx.nt)(hD:DRels μ D a.defers)(hrd:RdRel μ cx.rd rb):(Code.seq x y).wpIn (fence rb) n P (CPost gs P H μ w cx.nt e T' D' H') a w:=by
 unfold cSeq at h
 refine wpIn_seq ?_
 cases hc:ev.code cx x T D H with
 |none=>rw[hc] at h;cases h
 |some q=>
  obtain⟨e1,T1,D1,H1⟩:=q
  have hw:=hev.code cx x T D H e1 T1 D1 H1 hc μ w a rb n hst hT hD hrd
  refine wpIn_mono hw ?_
  intro e' a' w' hp
  rw[hc] at h
  cases e1 with
  |normal=>
   simp only at h
   obtain⟨hx,μ1,hst1,hext,hT1,hD1⟩:=hp
   cases e'<;>first|exact hx.elim|skip
   exact wpIn_mono (hev.code cx y T1 D1 H1 e T' D' H' h μ1 w' a' rb n hst1 hT1 hD1 (hrd.mono hext.mu)) fun e a w h=>CPost.from hext h
  |exit i=>
   simp at h
   obtain⟨rfl,rfl,rfl,rfl⟩:=h
   cases e'<;>first|exact hp.1.elim|exact hp
  |ret=>
   simp at h
   obtain⟨rfl,rfl,rfl,rfl⟩:=h
   cases e'<;>first|exact hp.1.elim|exact hp
theorem block_ok{x:Code}{id:Nat}{cx:Ctx}{T T':Tr Value}{D D':List Deferred}{H':AHeap}{e:XE}{a:Act}{rb:Option Nat}{n:Nat}(hev:EvOk gs P ev)(h:cBlock ev id x cx T D H=some (e,T',D',H'))
 (hst:St gs P H μ w)(hT:TRel μ T a.tmps cx.nt)(hD:DRels μ D a.defers)(hrd:RdRel μ cx.rd rb):(Code.block id x).wpIn (fence rb) n P (CPost gs P H μ w cx.nt e T' D' H') a w:=by
 unfold cBlock at h
 refine wpIn_block ?_
 cases hc:ev.code cx x T D H with
 |none=>rw[hc] at h;cases h
 |some q=>
  obtain⟨e1,T1,D1,H1⟩:=q
  have hw:=hev.code cx x T D H e1 T1 D1 H1 hc μ w a rb n hst hT hD hrd
  refine wpIn_mono hw ?_
  intro e' a' w' hp
  rw[hc] at h
  cases e1 with
  |normal=>
   simp at h
   obtain⟨rfl,rfl,rfl,rfl⟩:=h
   cases e'<;>first|exact hp.1.elim|exact hp
  |exit i=>
   simp only[blockEnd] at h
   cases e'<;>first|exact hp.1.elim|skip
   rename_i j
   obtain⟨hx,hp⟩:=hp
   obtain rfl:i=j:=hx
   show if i=id then _ else _
   cases hb:Nat.beq i id with
   |true=>
    rw[hb] at h
    simp at h
    obtain⟨rfl,rfl,rfl,rfl⟩:=h
    rw[if_pos (Nat.eq_of_beq_eq_true hb)]
    exact⟨trivial,hp⟩
   |false=>
    rw[hb] at h
    simp at h
    obtain⟨rfl,rfl,rfl,rfl⟩:=h
    rw[if_neg (Nat.ne_of_beq_eq_false hb)]
    exact⟨rfl,hp⟩
  |ret=>
   simp at h
   obtain⟨rfl,rfl,rfl,rfl⟩:=h
   cases e'<;>first|exact hp.1.elim|exact hp
theorem region_ok{ops:Array Oper}{d:Bool}{id:Nat}{cx:Ctx}{T T':Tr Value}{D D':List Deferred}{H':AHeap}{e:XE}{a:Act}{rb:Option Nat}{n:Nat}(hmix:P.follows .mixedOrders=true)(hev:EvOk gs P ev)
 (h:cRegion gs P ev ops d cx T D H=some (e,T',D',H'))(hst:St gs P H μ w)(hT:TRel μ T a.tmps cx.nt)(hD:DRels μ D a.defers)(hrd:RdRel μ cx.rd rb):
 (Code.region id ops d).wpIn (fence rb) n P (CPost gs P H μ w cx.nt e T' D' H') a w:=by
 unfold cRegion at h
 obtain⟨hok,h⟩:=cond_some h
 cases d with
 |true=>
  simp only[cond_true] at h
  unfold regDraw at h
  split at h
  ·rename_i T1 H1 hd
   simp at h
   obtain⟨rfl,rfl,rfl,rfl⟩:=h
   exact draw_sound hmix hev hok hst hT hD hrd hd fun μ' w' a' h1 h2 h3 h4=>⟨trivial,μ',h1,h2,h3,h4⟩
  ·cases h
 |false=>
  simp only[cond_false] at h
  unfold regText at h
  split at h
  ·rename_i T1 D1 H1 hd
   simp at h
   obtain⟨rfl,rfl,rfl,rfl⟩:=h
   refine wpIn_region ?_
   rw[List.range_eq_range']
   exact ops_sound hev hok ops.toList 0 T D H μ w a T1 D1 H1 (by simp) hst hT hD hrd hd fun μ' w' a' h1 h2 h3 h4=>⟨trivial,μ',h1,h2,h3,h4⟩
  ·cases h
end
end
end Go.Eng
