/- A part of the proof that SearchCandidates answers true for every input of bulk at most 1048576: conditions: the row's own. -/
import Derived.Test.YtancebninmoipaaGreatDoorP21
namespace Go.Eng
open Go
section
section
variable{P:Program}{μ:Mu}{H:AHeap}{w:World}{β:Type}{r:β}{c:ANext→AHeap→Option β}
theorem run_append_room{st xt ty e:TypeId}{d:TypeDesc}{sz sLen sCap n:Nat}{base:Option Addr}{x':Value}{l':List Value}{w':World}(hu:P.underlying st=some (.slice e))
 (hxt:P.underlying xt=some d)(hd:∀k,d≠.int k)(hs:size? P e=some sz)(hroom:sLen+n≤sCap)
 (hlen:∀w1,(Builtin.lenOf x').run P w1= .ok n w1)(hnew:∀w1:World,w1.heap=w.heap→(Builtin.firstCells sz n x').run P w1= .ok l'.toArray w1)
 (hst:match base with|some a=>(storeCells (a.add (sLen*sz)) l').run P w= .ok () w'|none=>w'=w):
 (Builtin.append_ #[st,xt] ty #[.slice base sLen sCap,x']).run P w= .ok (.slice base (sLen+n) sCap) w':=by
 unfold Builtin.append_
 cases d with
 |int k=>exact absurd rfl (hd k)
 |_=>
  simp only[Sem.run_bind,run_und hu,run_und hxt,Result.andThen_ok,run_size hs,hlen,pure,Sem.run,List.getElem?_toArray,List.getElem?_cons_zero,List.getElem?_cons_succ,Bool.false_eq_true,if_false]
  simp only[if_pos hroom,Sem.run_bind,Bool.not_false,if_true,hnew w rfl,Result.andThen_ok]
  cases base with
  |none=>simp only at hst;subst hst;rfl
  |some a=>simp only[Sem.run_bind,hst,Result.andThen_ok,Sem.run]
theorem whole_row{i b o:Nat}{cs:List Value}{e:TypeId}{ow ap:Bool}{arr:Array Value}{e':TypeId}{fz:Nat×Nat}(hR:Rel H μ w)(hm:μ i=some (b,o))
 (hg:H.get i=some (.cells cs e ow ap))(hw:w.heap[b]? =some (.cells arr e' fz)):
 e=e'∧o+cs.length≤arr.size∧(∀(k:Nat)(v:Value),cs[k]? =some v→∃v',arr[o+k]? =some v'∧VRel μ v v')∧((ow||ap)=true→fz=(0,0)):=by
 obtain⟨x,hx,ho⟩:=hR.obj i b o hm
 rw[hg] at hx
 cases hx
 rw[hw] at ho
 exact⟨ho.1,ho.2.1,ho.2.2.1,ho.2.2.2.1⟩
theorem block_of{i b o:Nat}{cs:List Value}{e:TypeId}{ow ap:Bool}(hR:Rel H μ w)(hm:μ i=some (b,o))(hg:H.get i=some (.cells cs e ow ap)):
 ∃arr fz,w.heap[b]? =some (.cells arr e fz):=by
 obtain⟨x,hx,ho⟩:=hR.obj i b o hm
 rw[hg] at hx
 cases hx
 have hs:=ho.isSome
 revert ho hs
 cases hw:w.heap[b]? with
 |none=>intro _ h;cases h
 |some ob=>
  intro ho _
  cases ob with
  |cells arr e' fz=>obtain⟨rfl,_⟩:=ho;exact⟨arr,fz,rfl⟩
  |_=>exact ho.elim
theorem append_does{ts:Array TypeId}{ty:TypeId}{args args':List Value}(hS:∀e n,size? P e=some n→μ.sz e=n)(hR:Rel H μ w)(ha:LRel μ args args')
 (h:hAppend ts args P H c=some r):Does P H μ w (do pure (Next.value (←Builtin.append_ ts ty args'.toArray))) c r:=by
 unfold hAppend at h
 split at h
 ·rename_i st xt s x ets
  have ets':ts=#[st,xt]:=by cases ts;simp at ets;simp[ets]
  subst ets'
  cases ha with
  |cons hs ht=>
  cases ht with
  |cons hx ht2=>
  cases ht2
  rename_i s' x'
  cases hxt:P.underlying xt with
  |none=>rw[hxt] at h;cases h
  |some d=>
   rw[hxt] at h
   have hd:∀k,d≠.int k:=by rintro k rfl;cases h
   have h2:appendK P st s x H (fun v H=>c (.value v) H)=some r:=by
    cases d<;>first|exact h|exact absurd rfl (hd _)
   clear h
   unfold appendK at h2
   split at h2
   ·rename_i e base len cap hu
    cases hsz:size? P e with
    |none=>rw[hsz] at h2;cases h2
    |some sz=>
     rw[hsz] at h2
     simp only at h2
     cases hsrc:srcCells H sz x with
     |none=>rw[hsrc] at h2;cases h2
     |some q=>
      obtain⟨n,l⟩:=q
      rw[hsrc] at h2
      simp only at h2
      obtain⟨l',hl,hll,hlen,hnew⟩:=src_sound (P:=P) hR hx hsrc
      have hszE:=hS e sz hsz
      cases base with
      |none=>
       obtain⟨h0,h3⟩:=cond_some h2
       rw[Bool.and_eq_true] at h0
       obtain rfl:=Nat.eq_of_beq_eq_true h0.1
       obtain rfl:=Nat.eq_of_beq_eq_true h0.2
       obtain rfl:=hs.inv_slice_none
       unfold appendNil at h3
       split at h3
       ·have hrun:=run_append_room (P:=P) (w:=w) (ty:=ty) (base:=none) (w':=w) hu hxt hd hsz (Nat.le_refl 0) hlen hnew rfl
        exact⟨_,H,.value (.slice none 0 0),w,μ,h3,run_v hrun,hR,Ext.refl _ _ _,.plain 4 rfl⟩
       ·rename_i m
        obtain⟨hg,h4⟩:=cond_some h3
        rw[forceLV_eq] at h4
        obtain⟨H',hc,hn,hg'⟩:=AHeap.newK_some h4
        obtain⟨newCap,rest,hcap,hrest,hrun⟩:=run_append_grow (P:=P) (w:=w) (ty:=ty) (base:=none) (sLen:=0) (sCap:=0) (n:=m+1) (old':=[]) hu hxt hd hsz
         (by rw[Nat.zero_add];exact hg) (by omega) hlen hnew (fun w1 _=>by simp[Builtin.firstCells])
        obtain⟨hrel,hext⟩:=(hR.drew (w.drawn+1)).new hn hg' (.cells (([]:List Value).toArray++l'.toArray++rest) e) newCap
         ⟨rfl,by simp[hl.length],fun k v hk=>by
           obtain⟨v',h5,h6⟩:=hl.at k v hk
           have hlt:k<l'.length:=(List.getElem?_eq_some_iff.1 h5).1
           refine⟨v',?_,h6.mono ((hR.drew (w.drawn+1)).mono_new _ _)⟩
           have hlt':k<(l'.toArray).size:=by simpa using hlt
           simp[Array.getElem?_append_left hlt',h5],fun _=>rfl,(fun _ h=>by cases h),fun _=>rfl⟩
         (by
           intro cs2 e2 ow he arr e' fz ho
           cases he
           cases ho
           have:(([]:List Value).toArray++l'.toArray++rest).size=newCap*sz:=by
            simp[hrest,←hl.length,hll]
            rw[←Nat.add_mul]
            congr 1
            omega
           rw[this,hszE]
           exact Nat.le_refl _)
        refine⟨_,H',.value (.slice (some ⟨w.heap.size,0,none⟩) (m+1) newCap),_,_,hc,?_,hrel,(Ext.drew H μ w _).trans hext,?_⟩
        ·rw[Nat.zero_add] at hrun
         exact run_v hrun
        ·exact VRel.slc (upd_same _ _ _ _) (by omega) fun _=>(upd_c _ _ _ _).symm
      |some a=>
       obtain⟨i,off,sp⟩:=a
       unfold appendAt at h2
       cases sp with
       |some _=>cases h2
       |none=>
       cases hg:H.get i with
       |none=>simp only[hg] at h2;cases h2
       |some xo=>
       cases xo with
       |cells cs e' ow app=>
        simp only[hg] at h2
        obtain⟨b,o,cap',hm,hcc,h0,rfl⟩:=hs.inv_slice
        cases hzero:(Nat.beq n 0&&Nat.ble len cap) with
        |true=>
         rw[hzero] at h2
         simp only[cond_true] at h2
         rw[Bool.and_eq_true] at hzero
         obtain rfl:=Nat.eq_of_beq_eq_true hzero.1
         have hle:=Nat.le_of_ble_eq_true hzero.2
         have hl0:l'=[]:=by
          have:l'.length=0:=by rw[←hl.length,hll];simp
          exact List.eq_nil_of_length_eq_zero this
         subst hl0
         have hr:=run_append_room (P:=P) (w:=w) (ty:=ty) (base:=some ⟨b,o+off,none⟩) (sLen:=len) (sCap:=cap') (w':=w) hu hxt hd hsz (by omega) hlen hnew rfl
         exact⟨_,H,.value (.slice (some ⟨b,o+off,none⟩) len cap'),w,μ,h2,run_v hr,hR,Ext.refl _ _ _,.slc hm hcc h0⟩
        |false=>
        rw[hzero] at h2
        simp only[cond_false] at h2
        cases hble:Nat.ble (len+n) cap with
        |true=>
         rw[hble] at h2
         have hle:=Nat.le_of_ble_eq_true hble
         simp only[cond_true,add_addr] at h2
         obtain⟨H',hc,w',hrun,hrel,hext⟩:=storeCells_sound (P:=P) hR hm hl h2
         have hr:=run_append_room (P:=P) (w:=w) (ty:=ty) (base:=some ⟨b,o+off,none⟩) (sLen:=len) (sCap:=cap') (w':=w') hu hxt hd hsz (by omega) hlen hnew
          (by simp only[add_addr];rw[Nat.add_assoc];exact hrun)
         exact⟨_,H',.value (.slice (some ⟨b,o+off,none⟩) (len+n) cap'),w',μ,hc,run_v hr,hrel,hext,.slc hm hcc h0⟩
        |false=>
         rw[hble] at h2
         obtain⟨hall,h3⟩:=cond_some h2
         simp only[Bool.and_eq_true] at hall
         obtain⟨⟨⟨⟨⟨rfl,hee⟩,hoff⟩,hfull⟩,hflat⟩,hgo⟩:=hall
         obtain rfl:=Nat.eq_of_beq_eq_true hee
         obtain rfl:off=0:=Nat.eq_of_beq_eq_true hoff
         have hfull':=Nat.eq_of_beq_eq_true hfull
         unfold appendGrow at h3
         rw[forceLV_eq] at h3
         obtain⟨H₁,h4,hn₁,hg₁⟩:=AHeap.setK_some h3
         obtain⟨H₂,hc,hn₂,hg₂⟩:=AHeap.newK_some h4
         obtain⟨arr,fz,hw⟩:=block_of hR hm hg
         obtain⟨_,hle,hv,hfz⟩:=whole_row hR hm hg hw
         obtain rfl:=hfz (by simp)
         have hcapi:=h0 rfl
         have hfits:=hR.cap i b o cs e ow hm hg arr e _ hw
         rw[←hcapi,hszE] at hfits
         by_cases hroom:len+n≤cap'
         ·
          have hbound:(len+n)*sz≤cap'*sz:=Nat.mul_le_mul_right _ hroom
          rw[Nat.add_mul] at hbound
          obtain⟨w',arr',hrun,st⟩:=run_storeCells (P:=P) (b:=b) (off:=o+len*sz) (e:=e) l' 0 w arr (by rw[hl.flat];exact hflat) hw (by rw[←hl.length,hll];omega)
          have hr:=run_append_room (P:=P) (w:=w) (ty:=ty) (base:=some ⟨b,o+0,none⟩) (sLen:=len) (sCap:=cap') (w':=w') hu hxt hd hsz hroom hlen hnew
           (by simp only[add_addr,Nat.add_zero];exact hrun)
          have hll':l'.length=n*sz:=by rw[←hl.length,hll]
          obtain⟨hrel,hext⟩:=hR.inplace (w':=w') (arr:=arr') hm hg hn₁ hg₁ hn₂ hg₂ st.size st.other st.at_
           (fun k hk arr₀ e₀ fz₀ hw₀=>by rw[hw] at hw₀;cases hw₀;exact st.out k (.inl (by omega)))
           (fun arr₀ e₀ fz₀ hw₀=>by rw[hw] at hw₀;cases hw₀;exact st.len.symm) rfl (by simp) (by rw[st.len];simp;omega)
           (fun k v hk=>by
             by_cases hk2:k<cs.length
             ·rw[List.getElem?_append_left hk2] at hk
              obtain⟨v',h5,h6⟩:=hv k v hk
              exact⟨v',by rw[st.out (o+k) (.inl (by omega))];exact h5,h6⟩
             ·rw[List.getElem?_append_right (by omega)] at hk
              obtain⟨v',h5,h6⟩:=hl.at (k-cs.length) v hk
              have hlt:k-cs.length<l'.length:=(List.getElem?_eq_some_iff.1 h5).1
              refine⟨v',?_,h6⟩
              have:=st.in_ (k-cs.length) hlt
              rw[show o+k=o+len*sz+0+(k-cs.length) from by omega,this]
              exact h5)
           st.tape st.os st.output
          refine⟨_,H₂,.value (.slice (some ⟨b,o+0,none⟩) (len+n) cap'),w',_,hc,run_v hr,hrel,hext,?_⟩
          rw[hn₁]
          exact VRel.slc (upd_same _ _ _ _) (by omega) fun _=>by rw[upd_c];exact hcapi
         ·
          have hcut:cut 0 (len*sz) cs=some cs:=by
           have:∀(l:List Value),takeN l.length l=some l:=by
            intro l
            induction l with
            |nil=>rfl
            |cons x xs ih=>simp[takeN,ih]
           rw[hfull']
           exact this cs
          obtain⟨old',hol,horel,hoat⟩:=rows_of hcut hv
          obtain⟨newCap,rest,hcap,hrest,hrun⟩:=run_append_grow (P:=P) (w:=w) (ty:=ty) (base:=some ⟨b,o+0,none⟩) (sLen:=len) (sCap:=cap') (n:=n) (old':=old') hu hxt hd hsz hgo (by omega) hlen hnew
           (fun w1 hw1=>by
             have:=run_loadCells (P:=P) (w:=w1) (b:=b) (off:=o+0) old' (fun k v hk=>by rw[cell_of (by rw[hw1];exact hw)];exact hoat k v hk)
             rw[hol] at this
             exact this)
          have hboth:=horel.append hl
          obtain⟨hrel,hext⟩:=(hR.drew (w.drawn+1)).grow (ob:=.cells (old'.toArray++l'.toArray++rest) e) hm hg hn₁ hg₁ hn₂ hg₂ newCap
           ⟨rfl,by simp[horel.length,hl.length],fun k v hk=>by
             obtain⟨v',h5,h6⟩:=hboth.at k v hk
             have hlt:k<(old'++l').length:=(List.getElem?_eq_some_iff.1 h5).1
             refine⟨v',?_,h6.mono ((hR.drew (w.drawn+1)).mono_new _ _)⟩
             have hlt':k<(old'.toArray++l'.toArray).size:=by simpa using hlt
             rw[Nat.zero_add,Array.getElem?_append_left hlt']
             simpa using h5,fun _=>rfl,(fun h=>by cases h),fun _=>rfl⟩
           (by
             intro arr2 e2 fz2 ho
             cases ho
             have:(old'.toArray++l'.toArray++rest).size=newCap*sz:=by
              simp[hrest,←hl.length,hll,hol]
              rw[←Nat.add_mul,←Nat.add_mul]
              congr 1
              omega
             rw[this,hszE]
             exact Nat.le_refl _)
          refine⟨_,H₂,.value (.slice (some ⟨w.heap.size,0,none⟩) (len+n) newCap),_,_,hc,run_v hrun,hrel,(Ext.drew H μ w _).trans hext,?_⟩
          rw[hn₁]
          exact VRel.slc (upd_same _ _ _ _) (by omega) fun _=>(upd_c _ _ _ _).symm
       |_=>simp only[hg] at h2;cases h2
   ·cases h2
 ·cases h
theorem copy_does{ts:Array TypeId}{ty:TypeId}{args args':List Value}(hR:Rel H μ w)(ha:LRel μ args args')
 (h:hCopy ts args P H c=some r):Does P H μ w (do pure (Next.value (←Builtin.copy_ ts ty args'.toArray))) c r:=by
 unfold hCopy at h
 split at h
 ·rename_i st s x ets
  cases ha with
  |cons hs ht=>
  cases ht with
  |cons hx ht2=>
  cases ht2
  rename_i s' x'
  unfold copyK at h
  split at h
  ·rename_i e a n k1 b2 m k2 hu
   cases hsz:size? P e with
   |none=>rw[hsz] at h;cases h
   |some sz=>
    rw[hsz] at h
    split at h
    ·rename_i sz' cs e1 hsp hcs
     cases e1
     obtain⟨bi,boff,bsp⟩:=b2
     simp only at hsp hcs h
     subst hsp
     obtain⟨bb,bo,bcap,hbm,_,_,rfl⟩:=hx.inv_slice
     cases hcut:cut boff (min m n*sz) cs with
     |none=>rw[hcut] at h;cases h
     |some l=>
      rw[hcut] at h
      simp only at h
      obtain⟨arr,e2,fz,hw,hle,hv⟩:=load_cells hR hbm hcs
      obtain⟨l',hl',hrel',hat⟩:=rows_of hcut hv
      obtain⟨ai,aoff,asp⟩:=a
      have hasp:asp=none:=by
       cases asp with
       |none=>rfl
       |some _=>cases h
      subst hasp
      obtain⟨ab,ao,acap,ham,_,_,rfl⟩:=hs.inv_slice
      obtain⟨H',hc,w',hrun,hrel,hext⟩:=storeCells_sound (P:=P) hR ham hrel' h
      refine⟨_,H',.value (goInt ((min m n:Nat):Int)),w',μ,hc,run_v ?_,hrel,hext,?_⟩
      case refine_2=>exact VRel.int .i64 _
      have hload:=run_loadCells (P:=P) (w:=w) (b:=bb) (off:=bo+boff) l' (fun k v hk=>by rw[cell_of hw];exact hat k v hk)
      rw[hl'] at hload
      unfold Builtin.copy_
      simp only[List.getElem?_toArray,ets,List.getElem?_cons_zero,List.getElem?_cons_succ,Sem.run_bind,run_und hu,Result.andThen_ok,Builtin.lenOf,pure,Sem.run,run_size hsz,Builtin.firstCells]
      rw[show Nat.min m n=min m n from rfl,hload]
      simp only[Result.andThen_ok,hrun]
    ·cases h
  ·cases h
 ·cases h
end
end
section
section
variable{P:Program}{μ:Mu}{H:AHeap}{w:World}{β:Type}{r:β}{c:ANext→AHeap→Option β}
theorem obj_loop{l b o:Nat}{r:ALoop}(hR:Rel H μ w)(hm:μ l=some (b,o))(hg:H.get l=some (.loop r)):
 ∃r':Loop,w.heap[b]? =some (.loop r')∧o=0∧r'.state=r.state∧r'.pending=r.pending∧r'.params=r.params∧r'.assign=r.assign∧r'.body=r.body∧
  μ r.defers=some (r'.defers,0)∧TRel μ r.tmps r'.tmps r.nt:=by
 obtain⟨x,hx,ho⟩:=hR.obj l b o hm
 rw[hg] at hx
 cases hx
 have hs:=ho.isSome
 revert ho hs
 cases hw:w.heap[b]? with
 |none=>intro _ h;cases h
 |some ob=>
  intro ho _
  cases ob with
  |loop r'=>exact⟨r',rfl,ho.1,ho.2.1,ho.2.2.1,ho.2.2.2.1,ho.2.2.2.2.1,ho.2.2.2.2.2.1,ho.2.2.2.2.2.2.1,ho.2.2.2.2.2.2.2⟩
  |_=>exact ho.elim
theorem callValue_does{f f':Value}{args args':List Value}(hR:Rel H μ w)(hf:VRel μ f f')(ha:LRel μ args args')(h:callValue P f args H c=some r):
 Does P H μ w (do let d←Deferred.ofValue f' args'.toArray;invoke d.target d.args) c r:=by
 unfold callValue at h
 split at h
 ·rename_i g first cap
  obtain⟨first',cap',rfl,hfi,hca⟩:=hf.inv_func (by simp)
  unfold callFn at h
  cases hfn:P.funcs[g]? with
  |none=>rw[hfn] at h;cases h
  |some fn=>
   rw[hfn] at h
   simp only at h
   obtain⟨hb,h2⟩:=cond_some h
   rw[Bool.and_eq_true] at hb
   refine⟨_,H,.enter g (first'++args'.toArray++cap'),w,μ,h2,?_,hR,Ext.refl _ _ _,rfl,?_⟩
   ·have hname:(fn.name== "runtime.NumGoroutine")=false:=by simpa using hb.2
    have hbody:fn.body.isNone=false:=by
     cases hbb:fn.body with
     |none=>rw[hbb] at hb;simp at hb
     |some _=>rfl
    simp only[Deferred.ofValue,Sem.run_bind,pure,Sem.run,Result.andThen_ok,invoke,callFunc,program,hfn,hname,hbody,Bool.false_eq_true,if_false]
   ·simp only[Array.toList_append]
    exact(hfi.append ha).append hca
 ·rename_i l a b
  obtain⟨l',hm,rfl⟩:=hf.inv_yield
  split at h
  ·rename_i lr hg
   obtain⟨hlen,h2⟩:=cond_some h
   have hlen':=Nat.eq_of_beq_eq_true hlen
   obtain⟨r',hw,_,_,_,hpar,_⟩:=obj_loop hR hm hg
   refine⟨_,H,.round l' r'.fn ((r'.params.zip args'.toArray).foldl (fun(tmps:Array Value)(p:Tmp×Value)=>tmps.setIfInBounds p.1 p.2) r'.tmps) r'.assign r'.body,w,μ,h2,?_,hR,Ext.refl _ _ _,?_⟩
   ·have hsz:¬(args'.toArray.size≠r'.params.size):=by
     rw[hpar]
     simp[←ha.length,hlen']
    simp only[Deferred.ofValue,Sem.run_bind,pure,Sem.run,Result.andThen_ok,invoke,Instr.yield,Instr.getLoop,run_getObj hw (by simp)]
    simp only[List.append_toArray,List.nil_append]
    rw[if_neg (by simpa using hsz)]
    rfl
   ·exact⟨lr,r',args',hm,hg,hw,hlen',ha,rfl,rfl,rfl,rfl⟩
  ·cases h
 ·cases h
theorem args_rel{ρ ρ':Env}{args:Array Operand}(h:∀x∈args.toList,VRel μ (ρ x) (ρ' x)):LRel μ (args.toList.map ρ) (args.toList.map ρ'):=LRel.map h
theorem map_toArray(args:Array Operand)(ρ:Env):args.map ρ=(args.toList.map ρ).toArray:=by cases args;simp
theorem heavy_sound{o:Oper}{ρ ρ':Env}(hS:∀e n,size? P e=some n→μ.sz e=n)(hR:Rel H μ w)(hρ:∀x∈o.op.operands.toList,VRel μ (ρ x) (ρ' x))
 (h:heavyOf o.op P ρ H c=some r):Does P H μ w (execOp ρ' o) c r:=by
 obtain⟨dst,op,type,pos,after,guard⟩:=o
 cases op<;>simp only[heavyOf] at h
 case alloc e=>exact alloc_does hR h
 case box e x=>exact box_does hR (hρ x (by simp[Op.operands])) h
 case store t a x=>exact store_does hR (hρ a (by simp[Op.operands])) (hρ x (by simp[Op.operands])) h
 case buildSlice t len parts=>exact buildSlice_does hS hR (fun p hp=>hρ p.2 (by simp[Op.operands];exact⟨p.1,by simpa using hp⟩)) h
 case makeSlice t l m=>exact makeSlice_does hS hR (hρ l (by simp[Op.operands])) (hρ m (by simp[Op.operands])) h
 case makeMap t x=>exact makeMap_does hR h
 case mapUpdate t m k x=>exact mapUpdate_does hR (hρ m (by simp[Op.operands])) (hρ k (by simp[Op.operands])) (hρ x (by simp[Op.operands])) h
 case insert t m k x=>exact insert_does hR (hρ m (by simp[Op.operands])) (hρ k (by simp[Op.operands])) (hρ x (by simp[Op.operands])) h
 case lookup t m k ok=>exact lookup_does hR (hρ m (by simp[Op.operands])) (hρ k (by simp[Op.operands])) h
 case range t x=>exact range_does hR (hρ x (by simp[Op.operands])) h
 case next it s=>exact next_does hR (hρ it (by simp[Op.operands])) h
 case entry it=>exact entry_does hR (hρ it (by simp[Op.operands])) h
 case call cl=>
  obtain⟨callee,args,ts⟩:=cl
  simp only[hCall] at h
  have hargs:∀x∈args.toList,VRel μ (ρ x) (ρ' x):=fun x hx=>hρ x (by simp[Op.operands,Call.operands];right;simpa using hx)
  cases callee with
  |value f=>
   have hf:=hρ f (by simp[Op.operands,Call.operands])
   have:=callValue_does (P:=P) hR hf (args_rel hargs) h
   simp only[execOp,resolve]
   rw[map_toArray]
   exact this
  |invoke rv m=>cases h
  |builtin b=>
   cases b<;>simp only[reduceCtorEq] at h
   case append=>
    have:=append_does (P:=P) (ty:=type) hS hR (args_rel hargs) h
    simp only[execOp,resolve]
    rw[map_toArray]
    exact this
   case copy=>
    have:=copy_does (P:=P) (ty:=type) hR (args_rel hargs) h
    simp only[execOp,resolve]
    rw[map_toArray]
    exact this
   case recover=>exact⟨_,H,.recover,w,μ,h,rfl,hR,Ext.refl _ _ _,trivial⟩
 case defer cl=>
  obtain⟨callee,args,ts⟩:=cl
  simp only[hDefer] at h
  have hargs:∀x∈args.toList,VRel μ (ρ x) (ρ' x):=fun x hx=>hρ x (by simp[Op.operands,Call.operands];right;simpa using hx)
  cases callee with
  |value f=>
   have hf:=hρ f (by simp[Op.operands,Call.operands])
   simp only at h
   split at h
   ·rename_i g first cap e
    rw[e] at hf
    obtain⟨first',cap',he,hfi,hca⟩:=hf.inv_func (by simp)
    refine⟨_,H,.defer {target:=.fn (.func g) cap',args:=first'++args.map ρ'},w,μ,h,?_,hR,Ext.refl _ _ _,?_,rfl,hca⟩
    ·simp[execOp,resolve,he,Deferred.ofValue]
    ·simp only[Array.toList_append,Array.toList_map]
     exact hfi.append (args_rel hargs)
   ·cases h
  |invoke rv m=>cases h
  |builtin b=>cases h
 all_goals cases h
end
end
section
structure St(gs:List Nat)(P:Program)(H:AHeap)(μ:Mu)(w:World):Prop where
 rel:Rel H μ w
 sz:∀e n,size? P e=some n→μ.sz e=n
 gl:∀g,gs.any (Nat.beq g)=true→μ g=some (g,0)
inductive DRels(μ:Mu):List Deferred→List Deferred→Prop
 |nil:DRels μ [] []
 |cons {d d':Deferred} {l l':List Deferred} (h:DRel μ d d') (t:DRels μ l l'):DRels μ (d::l) (d'::l')
section
variable{gs:List Nat}{P:Program}{μ μ':Mu}{H H':AHeap}{w w':World}
theorem St.ext(h:St gs P H μ w)(hr:Rel H' μ' w')(he:Ext H μ w H' μ' w'):St gs P H' μ' w':=
 ⟨hr,fun e n hn=>by rw[he.mu.sz];exact h.sz e n hn,fun g hg=>he.mu.f _ _ (h.gl g hg)⟩
theorem DRel.mono(hm:Mu.le μ μ'){d d':Deferred}(h:DRel μ d d'):DRel μ' d d':=by
 obtain⟨h1,h2⟩:=h
 refine⟨h1.mono hm,?_⟩
 obtain⟨t,a⟩:=d
 obtain⟨t',a'⟩:=d'
 simp only at h2⊢
 match t,t',h2 with
 | .fn (.func f) cap,.fn (.func f') cap',h2=>exact⟨h2.1,h2.2.mono hm⟩
 | .collected r,.collected r',h2=>exact hm.f _ _ h2
theorem DRels.mono(hm:Mu.le μ μ'){l l':List Deferred}(h:DRels μ l l'):DRels μ' l l':=by
 induction h with
 |nil=>exact .nil
 |cons h _ ih=>exact .cons (h.mono hm) ih
theorem DRels.append{a a' b b':List Deferred}(h:DRels μ a a')(k:DRels μ b b'):DRels μ (a++b) (a'++b'):=by
 induction h with
 |nil=>exact k
 |cons h _ ih=>exact .cons h ih
theorem env_rel(h:St gs P H μ w){T:Tr Value}{a:Act}{nt:Nat}(hT:TRel μ T a.tmps nt){x:Operand}(hx:operandOk gs x=true):VRel μ (evT T x) (a.eval x):=by
 cases x with
 |tmp t=>exact hT.2 t
 |const v=>exact .plain 4 hx
 |global g=>exact VRel.ptr (off:=0) (h.gl g hx)
 |func f=>exact .plain 2 rfl
theorem env_all(h:St gs P H μ w){T:Tr Value}{a:Act}{nt:Nat}(hT:TRel μ T a.tmps nt){o:Oper}(ho:o.op.operands.toList.all (operandOk gs)=true):
 ∀x∈o.op.operands.toList,VRel μ (evT T x) (a.eval x):=fun x hx=>env_rel h hT (List.all_eq_true.1 ho x hx)
theorem evTmp_set{T T':Tr Value}{d:Nat}{v:Value}(h:∀j,T'.get j=if j=d then some v else T.get j)(t:Nat):evTmp t T'=if t=d then v else evTmp t T:=by
 unfold evTmp
 rw[h]
 by_cases e:t=d
 ·rw[if_pos e,if_pos e]
 ·rw[if_neg e,if_neg e]
theorem TRel.set{T T':Tr Value}{tm:Array Value}{nt d:Nat}{v v':Value}(hT:TRel μ T tm nt)(hd:d<nt)(hv:VRel μ v v')
 (h:∀j,T'.get j=if j=d then some v else T.get j):TRel μ T' (tm.setIfInBounds d v') nt:=by
 refine⟨by simp[hT.1],fun t=> ?_⟩
 rw[evTmp_set h]
 have hsz:=hT.1
 by_cases e:t=d
 ·subst e
  rw[if_pos rfl]
  simp[Array.getD_eq_getD_getElem?,hsz,hd]
  exact hv
 ·rw[if_neg e]
  have:=hT.2 t
  simp only[Array.getD_eq_getD_getElem?] at this⊢
  rw[Array.getElem?_setIfInBounds_ne (Ne.symm e)]
  exact this
theorem putK_some{β:Type}{nt:Nat}{T:Tr Value}{dst:Option Tmp}{v v':Value}{c:Tr Value→Option β}{r:β}{a:Act}(hT:TRel μ T a.tmps nt)(hv:VRel μ v v')
 (h:putK nt T dst v c=some r):∃T',c T'=some r∧TRel μ T' (a.put dst v').tmps nt:=by
 cases dst with
 |none=>exact⟨T,h,hT⟩
 |some d=>
  obtain⟨h1,h2⟩:=cond_some h
  obtain⟨T',hc,hg⟩:=Tr.setK_some h2
  exact⟨T',hc,hT.set (Nat.le_of_ble_eq_true h1) hv hg⟩
theorem put_defers(a:Act)(dst:Option Tmp)(v:Value):(a.put dst v).defers=a.defers:=by cases dst<;>rfl
theorem VRel.to_bool{v:Value}{b:Bool}(h:VRel μ v (.bool b)):v= .bool b:=by cases h;rfl
theorem wanted_eq{T:Tr Value}{a:Act}{nt:Nat}{ops:Array Oper}{o:Oper}(hT:TRel μ T a.tmps nt):Region.wanted o (yielded ops a.tmps)=wantedA ops.toList o T:=by
 unfold Region.wanted wantedA
 cases hg:o.guard with
 |none=>rfl
 |some q=>
  obtain⟨j,want⟩:=q
  simp only[yielded,lget_eq]
  rw[show ops.toList[j]? =ops[j]? from by simp]
  cases hd:(ops[j]?).bind (·.dst) with
  |none=>simp
  |some d=>
   simp only[Option.bind_some]
   have hv:=hT.2 d
   simp only[Array.getD_eq_getD_getElem?,evTmp] at hv
   cases hget:a.tmps[d]? with
   |none=>
    rw[hget] at hv
    cases hTd:T.get d with
    |none=>rfl
    |some u=>
     rw[hTd] at hv
     simp at hv
     cases u<;>first|rfl|(have:=hv.inv_bool;simp[undef] at this)
   |some u'=>
    rw[hget] at hv
    simp at hv
    cases hTd:T.get d with
    |none=>
     rw[hTd] at hv
     simp at hv
     obtain⟨a',e,_⟩:=VRel.inv_tuple (show VRel μ (.tuple #[]) u' from hv)
     subst e
     rfl
    |some u=>
     rw[hTd] at hv
     simp at hv
     cases u' with
     |bool b=>
      obtain rfl:=hv.to_bool
      simp[guardSays]
     |_=>
      cases u<;>first|rfl|(have:=hv.inv_bool;simp at this)
end
end
section
def fence:Option Nat→Fence
 |none=>Fence.wide
 |some b=>Fence.wide.inRound b
def RdRel(μ:Mu):Option Nat→Option Nat→Prop
 |none,none=>True
 |some l,some b=>μ l=some (b,0)
 |_,_=>False
def XRel:XE→Exit→Prop
 | .normal,.normal=>True
 | .exit i,.exit j=>i=j
 | .ret,.ret=>True
 |_,_=>False
def CPost(gs:List Nat)(P:Program)(H:AHeap)(μ:Mu)(w:World)(nt:Nat)(e:XE)(T':Tr Value)(D':List Deferred)(H':AHeap):Exit→Act→World→Prop:=
 fun e' a' w'=>XRel e e'∧∃μ',St gs P H' μ' w'∧Ext H μ w H' μ' w'∧TRel μ' T' a'.tmps nt∧DRels μ' D' a'.defers
def CallPost(gs:List Nat)(P:Program)(H:AHeap)(μ:Mu)(w:World)(v:Value)(H':AHeap):Ending→World→Prop:=
 fun e w'=>∃v' μ',e= .returned v'∧VRel μ' v v'∧St gs P H' μ' w'∧Ext H μ w H' μ' w'
structure EvOk(gs:List Nat)(P:Program)(ev:Ev):Prop where
 code:∀cx c T D H e T' D' H',ev.code cx c T D H=some (e,T',D',H')→∀μ w a rb n,St gs P H μ w→TRel μ T a.tmps cx.nt→DRels μ D a.defers→RdRel μ cx.rd rb→
  c.wpIn (fence rb) n P (CPost gs P H μ w cx.nt e T' D' H') a w
 call:∀f args H v H',ev.call f args H=some (v,H')→∀μ w(args':Array Value) n,St gs P H μ w→LRel μ args args'.toList→
  CallsIn Fence.wide n P f args' w (CallPost gs P H μ w v H')
theorem fence_fn(rb:Option Nat)(f:FuncId):(fence rb).fn f:=by cases rb<;>trivial
theorem fence_depth(rb:Option Nat):(fence rb).depth=none:=by cases rb<;>rfl
theorem fence_round(rb:Option Nat):(fence rb).round=rb:=by cases rb<;>rfl
theorem callsIn_fence{rb:Option Nat}{n:Nat}{P:Program}{f:FuncId}{args:Array Value}{w:World}{R:Ending→World→Prop}(h:CallsIn Fence.wide n P f args w R):CallsIn (fence rb) n P f args w R:=by
 cases rb with
 |none=>exact h
 |some b=>exact h
theorem roundIn_fence{rb:Option Nat}{n:Nat}{P:Program}{l:Nat}{f:FuncId}{tmps:Array Value}{assign body:Code}{w:World}{R:Ending→World→Prop}
 (h:RoundIn Fence.wide n P l f tmps assign body w R):RoundIn (fence rb) n P l f tmps assign body w R:=by
 cases rb with
 |none=>exact h
 |some b=>exact h
section
variable{gs:List Nat}{P:Program}{ev:Ev}{μ:Mu}{H:AHeap}{w:World}
theorem putParams_some{ts:List Tmp}{vs vs':List Value}{T T':Tr Value}{tm:Array Value}{nt:Nat}(hT:TRel μ T tm nt)(hv:LRel μ vs vs')(h:putParams ts vs T nt=some T'):
 TRel μ T' ((ts.zip vs').foldl (fun(tmps:Array Value)(p:Tmp×Value)=>tmps.setIfInBounds p.1 p.2) tm) nt:=by
 induction ts generalizing vs vs' T tm with
 |nil=>
  cases vs with
  |nil=>
   cases hv
   simp[putParams] at h
   subst h
   exact hT
  |cons _ _=>cases h
 |cons t ts ih=>
  cases vs with
  |nil=>cases h
  |cons v vs=>
   cases hv with
   |cons hv ht=>
    rename_i v' vs'
    simp only[putParams] at h
    obtain⟨T1,h1,hT1⟩:=putK_some (a:={tmps:=tm,defers:=[]}) hT hv h
    simp only[List.zip_cons_cons,List.foldl_cons]
    exact ih hT1 ht h1
theorem Ext.get_loop{H':AHeap}{μ':Mu}{w':World}(he:Ext H μ w H' μ' w'){l b:Nat}(h:μ l=some (b,0)):μ' l=some (b,0):=he.mu.f _ _ h
theorem roundEnd_sound{l l':Nat}{e:XE}{e':Exit}{a:Act}{v:Value}{D':List Deferred}{H':AHeap}{R:Ending→World→Prop}(hst:St gs P H μ w)(hm:μ l=some (l',0))(hx:XRel e e')
 (h:roundEnd l e H=some (v,D',H'))(hR:∀w' v',VRel μ v v'→St gs P H' μ w'→Ext H μ w H' μ w'→R (.returned v') w'):D'=[]∧roundPost P l' R e' a w:=by
 unfold roundEnd at h
 split at h
 ·rename_i r hg
  obtain⟨r',hw,_,hs,hp,hpar,has,hbo,hdf,htm⟩:=obj_loop hst.rel hm hg
  have key:∀(st:LoopState)(pend:Option Code)(b:Bool),(H.setK l (.loop {r with state:=st,pending:=pend}) fun H=>some (Value.bool b,([]:List Deferred),H))=some (v,D',H')→
   (∀w1:World,(Instr.endRound l' pend).run P w= .ok (.bool b) w1→w1={w with heap:=w.heap.setIfInBounds l' (.loop {r' with state:=st,pending:=pend})}→True)→
   (Instr.endRound l' pend).run P w= .ok (.bool b) {w with heap:=w.heap.setIfInBounds l' (.loop {r' with state:=st,pending:=pend})}→
   D'=[]∧∃v' w1,(Instr.endRound l' pend).run P w= .ok v' w1∧R (.returned v') w1:=by
   intro st pend b hk _ hrun
   obtain⟨H1,hc,hn,hg1⟩:=AHeap.setK_some hk
   simp at hc
   obtain⟨rfl,rfl,rfl⟩:=hc
   obtain⟨hrel,hext⟩:=hst.rel.putObj (ob':=.loop {r' with state:=st,pending:=pend}) hm hg (by simp) (by simp) hn hg1 ⟨rfl,rfl,rfl,hpar,has,hbo,hdf,htm⟩
   exact⟨rfl,_,_,hrun,hR _ _ (.bool b) (hst.ext hrel hext) hext⟩
  have hset:∀(st:LoopState)(pend:Option Code),(setObj l' (.loop {r' with state:=st,pending:=pend})).run P w= .ok () {w with heap:=w.heap.setIfInBounds l' (.loop {r' with state:=st,pending:=pend})}:=
   fun st pend=>run_setObj hw (by simp)
  cases e with
  |normal=>
   cases e'<;>first|exact hx.elim|skip
   exact key .ready none true h (fun _ _ _=>trivial) (by simp[Instr.endRound,Instr.getLoop,run_getObj hw,hset])
  |exit id=>
   cases e'<;>first|exact hx.elim|skip
   rename_i id'
   obtain rfl:id=id':=hx
   exact key .done (some (.exit id)) false h (fun _ _ _=>trivial) (by simp[Instr.endRound,Instr.getLoop,run_getObj hw,hset])
  |ret=>
   cases e'<;>first|exact hx.elim|skip
   exact key .done (some .ret) false h (fun _ _ _=>trivial) (by simp[Instr.endRound,Instr.getLoop,run_getObj hw,hset])
 ·cases h
theorem isReady_eq{s:LoopState}(h:isReady s=true):s= .ready:=by cases s<;>first|rfl|cases h
theorem round_sound{l l':Nat}{args args':List Value}{r:ALoop}{r':Loop}{v:Value}{D':List Deferred}{H':AHeap}{n:Nat}(hev:EvOk gs P ev)(hst:St gs P H μ w)(hm:μ l=some (l',0))
 (hg:H.get l=some (.loop r))(hw:w.heap[l']? =some (.loop r'))(ha:LRel μ args args')(h:roundF ev l args H=some (v,D',H')):
 D'=[]∧RoundIn Fence.wide n P l' r'.fn ((r'.params.zip args'.toArray).foldl (fun(tmps:Array Value)(p:Tmp×Value)=>tmps.setIfInBounds p.1 p.2) r'.tmps) r'.assign r'.body w (CallPost gs P H μ w v H'):=by
 obtain⟨r'',hw',_,hs,hp,hpar,has,hbo,hdf,htm⟩:=obj_loop hst.rel hm hg
 rw[hw] at hw'
 cases hw'
 unfold roundF at h
 rw[hg] at h
 simp only at h
 cases hpp:putParams r.params.toList args r.tmps r.nt with
 |none=>rw[hpp] at h;cases h
 |some T=>
  rw[hpp] at h
  simp only at h
  split at h
  ·rename_i T1 H1 hcode
   have hT:TRel μ T ((r'.params.zip args'.toArray).foldl (fun(tmps:Array Value)(p:Tmp×Value)=>tmps.setIfInBounds p.1 p.2) r'.tmps) r.nt:=by
    have:=putParams_some htm ha hpp
    rw[←hpar] at this
    rw[←Array.foldl_toList]
    simpa [Array.toList_zip] using this
   have hD:D'=[]:=by
    unfold roundBegin at h
    split at h
    ·obtain⟨_,h⟩:=cond_some h
     obtain⟨H2,hc,_⟩:=AHeap.setK_some h
     unfold roundBody at hc
     split at hc
     ·unfold roundEnd at hc
      split at hc
      ·split at hc<;>(obtain⟨_,hc,_⟩:=AHeap.setK_some hc;simp at hc;exact hc.2.1)
      ·cases hc
     ·cases hc
    ·cases h
   refine⟨hD,?_⟩
   have hassign:=hev.code ⟨r.nt,some l⟩ r.assign T [] H .normal T1 [] H1 hcode μ w
    {tmps:=(r'.params.zip args'.toArray).foldl (fun(tmps:Array Value)(p:Tmp×Value)=>tmps.setIfInBounds p.1 p.2) r'.tmps,defers:=[]} (some l') n hst hT .nil hm
   refine roundIn_of_wpIn trivial ?_
   rw[has]
   refine wpIn_mono hassign ?_
   intro e1 a1 w1 hpost
   obtain⟨hx,μ1,hst1,hext1,hT1,hD1⟩:=hpost
   cases e1<;>first|exact hx.elim|skip
   have hm1:=hext1.get_loop hm
   unfold roundBegin at h
   split at h
   ·rename_i r1 hg1
    obtain⟨hready,h⟩:=cond_some h
    obtain⟨H2,hc,hn2,hg2⟩:=AHeap.setK_some h
    obtain⟨r1',hw1,_,hs1,hp1,hpar1,has1,hbo1,hdf1,htm1⟩:=obj_loop hst1.rel hm1 hg1
    obtain⟨hrel2,hext2⟩:=hst1.rel.putObj (ob':=.loop {r1' with state:=.busy}) hm1 hg1 (by simp) (by simp) hn2 hg2 ⟨rfl,rfl,hp1,hpar1,has1,hbo1,hdf1,htm1⟩
    have hst2:=hst1.ext hrel2 hext2
    refine⟨{w1 with heap:=w1.heap.setIfInBounds l' (.loop {r1' with state:=.busy})},?_,?_⟩
    ·have hstate:r1'.state= .ready:=by rw[hs1];exact isReady_eq hready
     have hset:=run_setObj (P:=P) (w:=w1) (ob':=.loop {r1' with state:=.busy}) hw1 (by simp)
     simp[Instr.beginRound,Instr.getLoop,run_getObj hw1,hset,hstate]
    ·unfold roundBody at hc
     split at hc
     ·rename_i e3 T3 H3 hcode3
      have hbody:=hev.code ⟨r.nt,some l⟩ r.body T1 [] H2 e3 T3 [] H3 hcode3 μ1 _ a1 (some l') n hst2 hT1 hD1 hm1
      rw[hbo]
      refine wpIn_mono hbody ?_
      intro e4 a4 w4 hpost4
      obtain⟨hx4,μ4,hst4,hext4,hT4,hD4⟩:=hpost4
      have hm4:=hext4.get_loop hm1
      exact(roundEnd_sound (a:=a4) hst4 hm4 hx4 hc (fun w5 v5 hv5 hst5 hext5=>⟨v5,μ4,rfl,hv5,hst5,((hext1.trans hext2).trans hext4).trans hext5⟩)).2
     ·cases hc
   ·cases h
  ·cases h
end
end
section
section
variable{gs:List Nat}{P:Program}{ev:Ev}{μ:Mu}{H:AHeap}{w:World}
theorem semAt_eq{rb:Option Nat}{ρ:Env}{o:Oper}(h:rb=none∨∀c,o.op≠.defer c):o.semAt rb ρ=execOp ρ o:=by
 unfold Oper.semAt
 cases rb with
 |none=>rfl
 |some l=>
  rcases h with h|h
  ·cases h
  ·obtain⟨dst,op,type,pos,after,guard⟩:=o
   cases op<;>first|rfl|exact absurd rfl (h _)
theorem retV_some{H':AHeap}{v u:Value}{D':List Deferred}(h:retV H u=some (v,D',H')):v=u∧D'=[]∧H'=H:=by
 unfold retV at h
 rw[forceV_eq] at h
 simp at h
 exact⟨h.1.symm,h.2.1,h.2.2.symm⟩
theorem step_sound{cx:Ctx}{o:Oper}{T:Tr Value}{v:Value}{D':List Deferred}{H':AHeap}{a:Act}{rb:Option Nat}{n:Nat}{K:Act→World→Prop}{Q:Exit→Act→World→Prop}
 (hev:EvOk gs P ev)(hst:St gs P H μ w)(hT:TRel μ T a.tmps cx.nt)(hrd:RdRel μ cx.rd rb)(hok:o.op.operands.toList.all (operandOk gs)=true)
 (h:stepOp P ev cx o T H=some (v,D',H'))
 (hK:∀μ' w' v' D'',St gs P H' μ' w'→Ext H μ w H' μ' w'→VRel μ' v v'→DRels μ' D' D''→K (({a with defers:=D''++a.defers}:Act).put o.dst v') w'):
 o.wpIn (fence rb) n P a w K Q:=by
 have hρ:=env_all hst hT hok
 refine⟨fun f _=>fence_fn rb f,?_⟩
 rw[fence_round]
 have hK0:∀w' v' μ',St gs P H' μ' w'→Ext H μ w H' μ' w'→VRel μ' v v'→D'=[]→K (a.put o.dst v') w':=by
  intro w' v' μ' h1 h2 h3 h4
  have:=hK μ' w' v' [] h1 h2 h3 (by rw[h4];exact .nil)
  simpa using this
 have main:heavyOf o.op P (evT T) H (nextF ev cx)=some (v,D',H')→o.semAt rb a.eval=execOp a.eval o→o.uponIn (fence rb) n P a K Q ((o.semAt rb a.eval).run P w):=by
  intro h hsem
  obtain⟨nx,H1,nx',w1,μ1,hc,hrun,hrel,hext,hnr⟩:=heavy_sound (P:=P) hst.sz hst.rel hρ h
  have hst1:=hst.ext hrel hext
  rw[hsem,hrun]
  cases nx with
  |value u=>
   cases nx'<;>first|exact hnr.elim|skip
   obtain⟨rfl,rfl,rfl⟩:=retV_some hc
   exact hK0 _ _ μ1 hst1 hext hnr rfl
  |skip=>
   cases nx'<;>first|exact hnr.elim|skip
   simp only[nextF] at hc
   simp at hc
   obtain⟨rfl,rfl,rfl⟩:=hc
   exact hK0 _ _ μ1 hst1 hext .undef rfl
  |defer d=>
   cases nx'<;>first|exact hnr.elim|skip
   rename_i d'
   simp only[nextF] at hc
   obtain⟨_,hc⟩:=cond_some hc
   simp at hc
   obtain⟨rfl,rfl,rfl⟩:=hc
   exact hK μ1 w1 undef [d'] hst1 hext .undef (.cons hnr .nil)
  |enter f args=>
   cases nx'<;>first|exact hnr.elim|skip
   rename_i f' args'
   obtain⟨rfl,hargs⟩:=hnr
   simp only[nextF,enterF] at hc
   cases hcall:ev.call f args H1 with
   |none=>rw[hcall] at hc;cases hc
   |some q=>
    obtain⟨u,H2⟩:=q
    rw[hcall] at hc
    obtain⟨rfl,rfl,rfl⟩:=retV_some hc
    refine⟨(fun hd=>by rw[fence_depth] at hd;cases hd),?_⟩
    refine(callsIn_fence (hev.call f args H1 v H' hcall μ1 w1 args' _ hst1 hargs)).mono ?_
    rintro e2 w2 ⟨v2,μ2,rfl,hv2,hst2,hext2⟩
    exact hK0 w2 v2 μ2 hst2 (hext.trans hext2) hv2 rfl
  |round l args=>
   cases nx'<;>first|exact hnr.elim|skip
   rename_i l' fn tmps assign body
   obtain⟨r,r',args',hm,hg,hw1,hlen,hargs,rfl,rfl,rfl,rfl⟩:=hnr
   simp only[nextF] at hc
   obtain⟨rfl,hround⟩:=round_sound (n:=n-1) hev hst1 hm hg hw1 hargs hc
   refine⟨(fun hd=>by rw[fence_depth] at hd;cases hd),?_⟩
   refine(roundIn_fence hround).mono ?_
   rintro e2 w2 ⟨v2,μ2,rfl,hv2,hst2,hext2⟩
   exact hK0 w2 v2 μ2 hst2 (hext.trans hext2) hv2 rfl
  |recover=>cases hc
 unfold stepOp at h
 have notDefer:∀{k:Kind},kindOf o.op o.type=k→(k≠.heavy)→∀c,o.op≠.defer c:=by
  intro k hk hne c e
  rw[e] at hk
  exact hne hk.symm
 cases hk:kindOf o.op o.type with
 |pure f=>
  rw[hk] at h
  simp only[retO] at h
  cases hf:f P (evT T) with
  |none=>rw[hf] at h;cases h
  |some u=>
   rw[hf] at h
   obtain⟨rfl,rfl,rfl⟩:=retV_some h
   obtain⟨v',hrun,hv⟩:=pure_sound hk hρ hf w
   rw[semAt_eq (.inr (notDefer hk (by simp))),hrun]
   exact hK0 w v' μ hst (Ext.refl _ _ _) hv rfl
 |load t x=>
  rw[hk] at h
  simp only[retO] at h
  cases hf:loadF P t (evT T x) H with
  |none=>rw[hf] at h;cases h
  |some u=>
   rw[hf] at h
   obtain⟨rfl,rfl,rfl⟩:=retV_some h
   have hop:o.op= .load t x:=by
    obtain⟨dst,op,type,pos,after,guard⟩:=o
    cases op<;>simp only[kindOf,reduceCtorEq,Kind.load.injEq] at hk
    ·obtain⟨rfl,rfl⟩:=hk;rfl
    ·rename_i cl
     obtain⟨callee,args,ts⟩:=cl
     cases callee with
     |builtin b=>cases b<;>simp[callKind,builtinKind] at hk
     |_=>simp[callKind] at hk
   obtain⟨v',hrun,hv⟩:=load_sound (P:=P) hst.rel (hρ x (by rw[hop];simp[Op.operands])) hf
   rw[semAt_eq (.inr (notDefer hk (by simp)))]
   have:(execOp a.eval o).run P w= .ok (.value v') w:=by
    unfold execOp
    rw[hop]
    exact run_v hrun
   rw[this]
   exact hK0 w v' μ hst (Ext.refl _ _ _) hv rfl
 |alloc e=>
  rw[hk] at h
  exact main h (semAt_eq (.inr (notDefer hk (by simp))))
 |heavy=>
  rw[hk] at h
  refine main h ?_
  apply semAt_eq
  cases hrb:rb with
  |none=>exact .inl rfl
  |some b=>
   right
   intro cl e
   rw[hrb] at hrd
   have hcx:cx.rd.isNone=false:=by
    cases hr:cx.rd with
    |none=>rw[hr] at hrd;exact hrd.elim
    |some _=>rfl
   rw[e] at h
   simp only[heavyOf,hDefer] at h
   split at h
   ·split at h
    ·simp only[nextF,hcx] at h
     cases h
    ·cases h
   ·cases h
theorem ops_sound{cx:Ctx}{ops:Array Oper}{rb:Option Nat}{n:Nat}{Q:Exit→Act→World→Prop}(hev:EvOk gs P ev)(hok:opsOk gs ops.toList=true):
 ∀(rest:List Oper)(k:Nat)(T:Tr Value)(D:List Deferred)(H:AHeap)(μ:Mu)(w:World)(a:Act)(T':Tr Value)(D':List Deferred)(H':AHeap),ops.toList.drop k=rest→
  St gs P H μ w→TRel μ T a.tmps cx.nt→DRels μ D a.defers→RdRel μ cx.rd rb→opsF P ev cx ops.toList rest T D H=some (T',D',H')→
  (∀μ' w' a',St gs P H' μ' w'→Ext H μ w H' μ' w'→TRel μ' T' a'.tmps cx.nt→DRels μ' D' a'.defers→Q .normal a' w')→
  wpOpsIn (fence rb) n P ops Q (List.range' k (ops.size-k)) a w:=by
 intro rest
 induction rest with
 |nil=>
  intro k T D H μ w a T' D' H' hd hst hT hD hrd h hQ
  have hlen:ops.size≤k:=by
   have:=congrArg List.length hd
   simp at this
   omega
  rw[show ops.size-k=0 from by omega]
  simp[opsF] at h
  obtain⟨rfl,rfl,rfl⟩:=h
  exact hQ μ w a hst (Ext.refl _ _ _) hT hD
 |cons o rest ih=>
  intro k T D H μ w a T' D' H' hd hst hT hD hrd h hQ
  have hk:ops.toList[k]? =some o:=by
   have:=congrArg (·[0]?) hd
   simpa using this
  have hk':ops[k]? =some o:=by simpa using hk
  have hlt:k<ops.size:=(Array.getElem?_eq_some_iff.1 hk').1
  have hd':ops.toList.drop (k+1)=rest:=by
   have:=congrArg List.tail hd
   simpa [List.tail_drop] using this
  rw[show ops.size-k=(ops.size-(k+1))+1 from by omega,List.range'_succ]
  simp only[wpOpsIn,hk']
  have hoko:o.op.operands.toList.all (operandOk gs)=true:=by
   unfold opsOk at hok
   exact List.all_eq_true.1 hok o (List.mem_of_getElem? hk)
  rw[wanted_eq hT]
  simp only[opsF] at h
  cases hw:wantedA ops.toList o T with
  |true=>
   rw[hw] at h
   simp only[cond_true,if_true] at h⊢
   cases hs:stepOp P ev cx o T H with
   |none=>rw[hs] at h;cases h
   |some q=>
    obtain⟨v,D1,H1⟩:=q
    rw[hs] at h
    simp only at h
    refine step_sound hev hst hT hrd hoko hs ?_
    intro μ' w' v' D'' hst' hext' hv' hD''
    obtain⟨T1,hc,hT1⟩:=putK_some (a:={a with defers:=D''++a.defers}) (hT.mono hext'.mu) hv' h
    have hrd':RdRel μ' cx.rd rb:=by
     revert hrd
     cases cx.rd<;>cases rb<;>intro hrd<;>first|exact hrd|exact hext'.mu.f _ _ hrd
    refine ih (k+1) T1 (D1++D) H1 μ' w' _ T' D' H' hd' hst' hT1 ?_ hrd' hc ?_
    ·rw[put_defers]
     exact hD''.append (hD.mono hext'.mu)
    ·intro μ2 w2 a2 h1 h2 h3 h4
     exact hQ μ2 w2 a2 h1 (hext'.trans h2) h3 h4
  |false=>
   rw[hw] at h
   simp only[cond_false,Bool.false_eq_true,if_false] at h⊢
   refine⟨fun f _=>fence_fn rb f,?_⟩
   obtain⟨T1,hc,hT1⟩:=putK_some (a:=a) hT .undef h
   exact ih (k+1) T1 D H μ w _ T' D' H' hd' hst hT1 (by rw[put_defers];exact hD) hrd hc hQ
end
end
theorem subMask_bit{a m j:Nat}(h:subMask a m=true)(hj:a.testBit j=true):m.testBit j=true:=by
 have e:=Nat.eq_of_beq_eq_true h
 rw[←e,Nat.testBit_or,hj]
 rfl
theorem hasBit_iff{m i:Nat}:hasBit m i=true↔m.testBit i=true:=by
 constructor
 ·intro h
  exact subMask_bit h (by simp)
 ·intro h
  unfold hasBit subMask
  have:2^i ||| m=m:=by
   apply Nat.eq_of_testBit_eq
   intro j
   rw[Nat.testBit_or,Nat.testBit_two_pow]
   by_cases e:i=j
   ·subst e;simp[h]
   ·simp[e]
  rw[this]
  simp
theorem meets_of{a b t:Nat}(ha:a.testBit t=true)(hb:b.testBit t=true):meets a b=true:=by
 unfold meets
 have:a &&& b≠0:=by
  intro e
  have h:=congrArg (fun n=>n.testBit t) e
  simp[Nat.testBit_and,ha,hb] at h
 cases hh:Nat.beq (a &&& b) 0 with
 |false=>rfl
 |true=>exact absurd (Nat.eq_of_beq_eq_true hh) this
theorem tmpMask_of{t:Nat}:∀{xs:List Operand}{acc:Nat},(Operand.tmp t∈xs∨acc.testBit t=true)→(tmpMask xs acc).testBit t=true:=by
 intro xs
 induction xs with
 |nil=>
  intro acc h
  rcases h with h|h
  ·cases h
  ·exact h
 |cons x xs ih=>
  intro acc h
  cases x with
  |tmp u=>
   simp only[tmpMask]
   refine ih ?_
   rcases h with h|h
   ·cases h with
    |head=>right;simp[Nat.testBit_or]
    |tail _ h=>exact .inl h
   ·right;simp[Nat.testBit_or,h]
  |_=>
   simp only[tmpMask]
   refine ih ?_
   rcases h with h|h
   ·cases h with
    |tail _ h=>exact .inl h
   ·exact .inr h
theorem dstMask_of(d:Nat):(dstMask (some d)).testBit d=true:=by simp[dstMask]
theorem edgeMask_spec{ms:List Nat}{i:Nat}:∀{es:List Edge}{acc m:Nat},edgeMask ms i es acc=some m→
 (∀e∈es,Region.binds .any e=true→e.on<i)∧
 ∀b,m.testBit b=true→acc.testBit b=true∨∃e∈es,Region.binds .any e=true∧(b=e.on∨∃mm,ms[e.on]? =some mm∧mm.testBit b=true):=by
 intro es
 induction es with
 |nil=>
  intro acc m h
  simp[edgeMask] at h
  subst h
  exact⟨(fun e he=>by cases he),fun b hb=>.inl hb⟩
 |cons e es ih=>
  intro acc m h
  simp only[edgeMask] at h
  cases hb:Region.binds .any e with
  |false=>
   rw[hb] at h
   obtain⟨h1,h2⟩:=ih h
   refine⟨fun e' he' hbe=> ?_,fun b hbb=> ?_⟩
   ·cases he' with
    |head=>rw[hb] at hbe;cases hbe
    |tail _ he'=>exact h1 e' he' hbe
   ·rcases h2 b hbb with h3|⟨e',he',h3⟩
    ·exact .inl h3
    ·exact .inr ⟨e',.tail _ he',h3⟩
  |true=>
   rw[hb] at h
   simp only[cond_true] at h
   obtain⟨hlt,h⟩:=cond_some h
   rw[lget_eq] at h
   cases hm:ms[e.on]? with
   |none=>rw[hm] at h;cases h
   |some mm=>
    rw[hm] at h
    simp only at h
    obtain⟨h1,h2⟩:=ih h
    refine⟨fun e' he' hbe=> ?_,fun b hbb=> ?_⟩
    ·cases he' with
     |head=>exact Nat.le_of_ble_eq_true hlt
     |tail _ he'=>exact h1 e' he' hbe
    ·rcases h2 b hbb with h3|⟨e',he',h3⟩
     ·rw[Nat.testBit_or,Nat.testBit_or,Nat.testBit_two_pow] at h3
      simp only[Bool.or_eq_true,decide_eq_true_eq] at h3
      rcases h3 with(h3|h3)|h3
      ·exact .inl h3
      ·exact .inr ⟨e,.head _,hb,.inl h3.symm⟩
      ·exact .inr ⟨e,.head _,hb,.inr ⟨mm,hm,h3⟩⟩
     ·exact .inr ⟨e',.tail _ he',h3⟩
structure InfoAt(all:List Oper)(is:List OpI)(k:Nat)(o:Oper)(x:OpI):Prop where
 rm:x.rm=tmpMask o.op.operands.toList (guardMask all o)
 dm:x.dm=dstMask o.dst
 hv:x.hv=isHeavy (kindOf o.op o.type)
 ms:edgeMask ((is.take k).map (·.ms)) k o.after.toList 0=some x.ms
theorem infos_spec{all:List Oper}:∀{ops:List Oper}{i:Nat}{ms:List Nat}{l:List OpI},infos all ops i ms=some l→ops.length=l.length∧
 ∀k o,ops[k]? =some o→∃x,l[k]? =some x∧x.rm=tmpMask o.op.operands.toList (guardMask all o)∧x.dm=dstMask o.dst∧x.hv=isHeavy (kindOf o.op o.type)∧
  edgeMask (ms++(l.take k).map (·.ms)) (i+k) o.after.toList 0=some x.ms:=by
 intro ops
 induction ops with
 |nil=>
  intro i ms l h
  simp[infos] at h
  subst h
  exact⟨rfl,fun k o hk=>by simp at hk⟩
 |cons o ops ih=>
  intro i ms l h
  simp only[infos] at h
  cases he:edgeMask ms i o.after.toList 0 with
  |none=>rw[he] at h;cases h
  |some m=>
   rw[he] at h
   simp only at h
   cases hi:infos all ops (i+1) (ms++[m]) with
   |none=>rw[hi] at h;cases h
   |some l'=>
    rw[hi] at h
    simp at h
    subst h
    obtain⟨h1,h2⟩:=ih hi
    refine⟨by simp[h1],fun k o' hk=> ?_⟩
    cases k with
    |zero=>
     simp at hk
     subst hk
     exact⟨⟨tmpMask o.op.operands.toList (guardMask all o),dstMask o.dst,isHeavy (kindOf o.op o.type),m⟩,by simp,rfl,rfl,rfl,by simpa using he⟩
    |succ k=>
     obtain⟨x,hx,h3,h4,h5,h6⟩:=h2 k o' (by simpa using hk)
     refine⟨x,by simpa using hx,h3,h4,h5,?_⟩
     rw[show i+(k+1)=i+1+k from by omega]
     simpa using h6
theorem pairsOk_spec:∀{xs:List OpI}{i:Nat},pairsOk xs i=true→∀a b x y,a<b→xs[a]? =some x→xs[b]? =some y→clash x y=true→y.ms.testBit (i+a)=true:=by
 intro xs
 induction xs with
 |nil=>intro i _ a b x y _ hx;simp at hx
 |cons z zs ih=>
  intro i h a b x y hab hx hy hc
  simp only[pairsOk,Bool.and_eq_true] at h
  cases a with
  |zero=>
   simp at hx
   subst hx
   cases b with
   |zero=>omega
   |succ b=>
    have:=List.all_eq_true.1 h.1 y (List.mem_of_getElem? (by simpa using hy))
    rw[hc] at this
    simp at this
    exact hasBit_iff.1 this
  |succ a=>
   cases b with
   |zero=>omega
   |succ b=>
    have:=ih h.2 a b x y (by omega) (by simpa using hx) (by simpa using hy) hc
    rw[show i+(a+1)=i+1+a from by omega]
    exact this
theorem drawInfo_spec{all:List Oper}{is:List OpI}(h:drawInfo all=some is):all.length=is.length∧pairsOk is 0=true∧∀k o,all[k]? =some o→∃x,is[k]? =some x∧InfoAt all is k o x:=by
 unfold drawInfo at h
 cases hi:infos all all 0 [] with
 |none=>rw[hi] at h;cases h
 |some l=>
  rw[hi] at h
  obtain⟨h1,h2⟩:=cond_some h
  simp at h2
  subst h2
  obtain⟨h3,h4⟩:=infos_spec hi
  refine⟨h3,h1,fun k o hk=> ?_⟩
  obtain⟨x,hx,h5,h6,h7,h8⟩:=h4 k o hk
  exact⟨x,hx,h5,h6,h7,by simpa using h8⟩
theorem mask_closed{all:List Oper}{is:List OpI}(hd:drawInfo all=some is){S:Nat→Prop}
 (hS:∀i o e,S i→all[i]? =some o→e∈o.after.toList→Region.binds .any e=true→S e.on):
 ∀i o x,all[i]? =some o→is[i]? =some x→(∀e∈o.after.toList,Region.binds .any e=true→S e.on)→∀b,x.ms.testBit b=true→S b∧b<i:=by
 obtain⟨hlen,_,hinfo⟩:=drawInfo_spec hd
 intro i
 induction i using Nat.strongRecOn with
 |_ i ih=>
  intro o x ho hx hpre b hb
  obtain⟨x',hx',info⟩:=hinfo i o ho
  rw[hx] at hx'
  cases hx'
  obtain⟨h1,h2⟩:=edgeMask_spec info.ms
  rcases h2 b hb with h3|⟨e,he,hbe,h3⟩
  ·simp at h3
  ·have hlt:=h1 e he hbe
   have hSe:=hpre e he hbe
   rcases h3 with rfl|⟨mm,hm,hmb⟩
   ·exact⟨hSe,hlt⟩
   ·rw[List.getElem?_map,List.getElem?_take_of_lt hlt] at hm
    cases hxe:is[e.on]? with
    |none=>rw[hxe] at hm;simp at hm
    |some xe=>
     rw[hxe] at hm
     simp at hm
     subst hm
     have hle:e.on<all.length:=by
      rw[hlen]
      exact(List.getElem?_eq_some_iff.1 hxe).1
     obtain⟨h4,h5⟩:=ih e.on hlt all[e.on] xe (by simp[hle]) hxe (fun e' he' hbe'=>hS e.on _ e' hSe (by simp[hle]) he' hbe') b hmb
     exact⟨h4,by omega⟩
end Go.Eng
