/- A part of the proof that ClaimFaces answers true for every input of bulk at most 1048576: conditions: the row's own. -/
import Derived.Test.YtbapfnpbamnmpaaGreatDoorEngB
namespace Go.Eng
open Go
section
section
variable{P:Program}{μ:Mu}{H:AHeap}{w:World}
theorem cell_of{b off:Nat}{arr:Array Value}{e:TypeId}{fz:Nat×Nat}(h:w.heap[b]? =some (.cells arr e fz)):w.cell? ⟨b,off,none⟩=arr[off]? :=by
 simp[World.cell?,h]
theorem run_loadCellsFrom{b off:Nat}:∀(vs:List Value)(i:Nat)(acc:Array Value),(∀(k:Nat)(v:Value),vs[k]? =some v→w.cell? ⟨b,off+i+k,none⟩=some v)→
 (loadCellsFrom ⟨b,off,none⟩ i vs.length acc).run P w= .ok (acc++vs.toArray) w:=by
 intro vs
 induction vs with
 |nil=>intro i acc _;simp[loadCellsFrom]
 |cons v vs ih=>
  intro i acc h
  have h0:=h 0 v (by simp)
  simp only[List.length_cons,loadCellsFrom]
  rw[Sem.run_bind]
  simp only[load,add_addr,Sem.run]
  rw[show off+i=off+i+0 from rfl,h0]
  simp only[Result.andThen_ok]
  rw[ih (i+1) (acc.push v) (fun k u hk=>by
   have:=h (k+1) u (by simpa using hk)
   rw[show off+(i+1)+k=off+i+(k+1) from by omega]
   exact this)]
  simp
theorem run_loadCells{b off:Nat}(vs:List Value)(h:∀(k:Nat)(v:Value),vs[k]? =some v→w.cell? ⟨b,off+k,none⟩=some v):
 (loadCells ⟨b,off,none⟩ vs.length).run P w= .ok vs.toArray w:=by
 have:=run_loadCellsFrom (P:=P) (w:=w) (b:=b) (off:=off) vs 0 #[] (fun k v hk=>by simpa using h k v hk)
 simpa [loadCells] using this
theorem isAgg_run{t:TypeId}{x:Bool}(h:isAgg? P t=some x)(w:World):(isAgg t).run P w= .ok x w:=by
 unfold isAgg? at h
 cases hu:P.underlying t with
 |none=>rw[hu] at h;cases h
 |some d=>
  rw[hu] at h
  simp at h
  subst h
  unfold isAgg
  rw[Sem.run_bind,run_und hu]
  cases d<;>rfl
theorem rows_of{o off n:Nat}{cs l:List Value}{arr:Array Value}(hcut:cut off n cs=some l)
 (hv:∀(k:Nat)(v:Value),cs[k]? =some v→∃v',arr[o+k]? =some v'∧VRel μ v v'):
 ∃l':List Value,l'.length=n∧LRel μ l l'∧∀(k:Nat)(v:Value),l'[k]? =some v→arr[o+off+k]? =some v:=by
 obtain⟨hle,_⟩:=cut_some hcut
 have hlen:=cut_len hcut
 have hsz:∀k,k<n→∃v',arr[o+(off+k)]? =some v':=fun k hk=>by
  obtain⟨v',h1,_⟩:=hv (off+k) cs[off+k] (by simp)
  exact⟨v',h1⟩
 let l':=(List.range n).map fun k=>(arr[o+(off+k)]?).getD undef
 have hl':∀(k:Nat),k<n→l'[k]? =arr[o+(off+k)]? :=by
  intro k hk
  obtain⟨v',h1⟩:=hsz k hk
  simp[l',hk,h1]
 refine⟨l',by simp[l'],LRel.of (by simp[l',hlen]) ?_,?_⟩
 ·intro k v v' hk hk'
  have hkn:k<n:=by
   have:=(List.getElem?_eq_some_iff.1 hk).1
   omega
  rw[cut_at hcut k hkn] at hk
  obtain⟨u,h1,h2⟩:=hv (off+k) v hk
  rw[hl' k hkn,h1] at hk'
  cases hk'
  exact h2
 ·intro k v hk
  have hkn:k<n:=by
   have:=(List.getElem?_eq_some_iff.1 hk).1
   simp[l'] at this
   exact this
  rw[hl' k hkn] at hk
  rw[Nat.add_assoc]
  exact hk
theorem load_cells{i:Nat}{cs:List Value}{b o:Nat}(hR:Rel H μ w)(hm:μ i=some (b,o))(h:loadCells? H i=some cs):
 ∃arr e fz,w.heap[b]? =some (.cells arr e fz)∧o+cs.length≤arr.size∧∀(k:Nat)(v:Value),cs[k]? =some v→∃v',arr[o+k]? =some v'∧VRel μ v v':=by
 unfold loadCells? at h
 obtain⟨x,hx,ho⟩:=hR.obj i b o hm
 rw[hx] at h
 cases x with
 |cells cs' e own app=>
  simp at h
  subst h
  have hs:=ho.isSome
  revert ho hs
  cases hw:w.heap[b]? with
  |none=>intro _ h;cases h
  |some ob=>
   intro ho _
   cases ob with
   |cells arr e' fz=>exact⟨arr,e',fz,rfl,ho.2.1,ho.2.2.1⟩
   |_=>exact ho.elim
 |_=>cases h
theorem load_sound{t:TypeId}{a a' v:Value}(hR:Rel H μ w)(ha:VRel μ a a')(h:loadF P t a H=some v):
 ∃v',(Instr.loadAt t a').run P w= .ok v' w∧VRel μ v v':=by
 unfold loadF at h
 split at h
 ·rename_i ad
  obtain⟨i,off,sp⟩:=ad
  obtain⟨rfl,b,o,hm,rfl⟩:=ha.inv_ptr
  simp only[loadA] at h
  cases hc:loadCells? H i with
  |none=>rw[hc] at h;cases h
  |some cs=>
   rw[hc] at h
   simp only[loadIn] at h
   obtain⟨arr,e,fz,hw,hle,hv⟩:=load_cells hR hm hc
   cases hag:isAgg? P t with
   |none=>rw[hag] at h;cases h
   |some ag=>
    rw[hag] at h
    cases ag with
    |true=>
     simp only[loadAgg] at h
     cases hs:size? P t with
     |none=>rw[hs] at h;cases h
     |some n=>
      rw[hs] at h
      simp only at h
      cases hcut:cut off n cs with
      |none=>rw[hcut] at h;cases h
      |some l=>
       rw[hcut] at h
       simp at h
       subst h
       obtain⟨l',hl',hrel,hat⟩:=rows_of hcut hv
       refine⟨.agg l'.toArray,?_,.agg hrel⟩
       have hrun:=run_loadCells (P:=P) (w:=w) (b:=b) (off:=o+off) l' (fun k v hk=>by rw[cell_of hw];exact hat k v hk)
       rw[hl'] at hrun
       unfold Instr.loadAt Instr.sureAddr loadVar
       simp only[Sem.run_bind,Sem.run,pure,Result.andThen_ok,isAgg_run hag,if_true,run_size hs,hrun]
    |false=>
     simp only[lget_eq] at h
     obtain⟨v',h1,h2⟩:=hv off v h
     refine⟨v',?_,h2⟩
     unfold Instr.loadAt Instr.sureAddr loadVar
     simp only[Sem.run_bind,pure,Sem.run,Result.andThen_ok,isAgg_run hag,Bool.false_eq_true,if_false,load,cell_of hw,h1]
 ·cases h
theorem setCell_at{b off:Nat}{arr:Array Value}{e:TypeId}{fz:Nat×Nat}(h:w.heap[b]? =some (.cells arr e fz))(v:Value):
 (w.setCell ⟨b,off,none⟩ v).heap[b]? =some (.cells (arr.setIfInBounds off v) e fz):=by
 simp[World.setCell,Array.getElem?_modify,h]
theorem setCell_other{b off c:Nat}(hc:c≠b)(v:Value):(w.setCell ⟨b,off,none⟩ v).heap[c]? =w.heap[c]? :=by
 simp[World.setCell,Array.getElem?_modify,Ne.symm hc]
theorem setCell_size{b off:Nat}(v:Value):(w.setCell ⟨b,off,none⟩ v).heap.size=w.heap.size:=by simp[World.setCell]
theorem run_store_flat{b off:Nat}{arr:Array Value}{e:TypeId}(h:w.heap[b]? =some (.cells arr e (0,0)))(hlt:off<arr.size){v:Value}(hf:flat v=true):
 (store ⟨b,off,none⟩ v).run P w= .ok () (w.setCell ⟨b,off,none⟩ v):=by
 have h1:w.cell? ⟨b,off,none⟩=some arr[off]:=by rw[cell_of h];simp[hlt]
 have h2:w.frozen? ⟨b,off,none⟩=false:=by simp[World.frozen?,h]
 cases v<;>first|(simp[store,Sem.run,h1,h2];done)|cases hf
structure Stored(w w':World)(b off:Nat)(vs:List Value)(arr arr':Array Value)(e:TypeId):Prop where
 size:w'.heap.size=w.heap.size
 other:∀c,c≠b→w'.heap[c]? =w.heap[c]?
 at_:w'.heap[b]? =some (.cells arr' e (0,0))
 len:arr'.size=arr.size
 in_:∀k,k<vs.length→arr'[off+k]? =vs[k]?
 out:∀k,k<off∨off+vs.length≤k→arr'[k]? =arr[k]?
 tape:w'.tape=w.tape
 os:w'.os=w.os
 output:w'.output=w.output
theorem run_storeCells{b off:Nat}{e:TypeId}:∀(vs:List Value)(i:Nat)(w:World)(arr:Array Value),vs.all flat=true→w.heap[b]? =some (.cells arr e (0,0))→
 off+i+vs.length≤arr.size→∃w' arr',(storeCells ⟨b,off,none⟩ vs i).run P w= .ok () w'∧Stored w w' b (off+i) vs arr arr' e:=by
 intro vs
 induction vs with
 |nil=>
  intro i w arr _ h _
  exact⟨w,arr,rfl,rfl,fun _ _=>rfl,h,rfl,fun k hk=>by simp at hk,fun _ _=>rfl,rfl,rfl,rfl⟩
 |cons v vs ih=>
  intro i w arr hf h hle
  simp only[List.all_cons,Bool.and_eq_true,List.length_cons] at hf hle
  have hs:=run_store_flat (P:=P) h (show off+i<arr.size by omega) hf.1
  obtain⟨w',arr',hr,st⟩:=ih (i+1) (w.setCell ⟨b,off+i,none⟩ v) (arr.setIfInBounds (off+i) v) hf.2 (setCell_at h v) (by simp;omega)
  refine⟨w',arr',?_,?_⟩
  ·simp only[storeCells,Sem.run_bind,add_addr,hs,Result.andThen_ok,hr]
  ·refine⟨st.size.trans (setCell_size v),fun c hc=>(st.other c hc).trans (setCell_other hc v),st.at_,by rw[st.len];simp,?_,?_,st.tape,st.os,st.output⟩
   ·intro k hk
    cases k with
    |zero=>
     rw[st.out (off+i+0) (.inl (by omega))]
     simp[show off+i<arr.size from by omega]
    |succ k=>
     have:=st.in_ k (by simpa using hk)
     rw[show off+i+(k+1)=off+(i+1)+k from by omega,this]
     simp
   ·intro k hk
    rw[st.out k (by simp at hk;omega),Array.getElem?_setIfInBounds_ne (by simp at hk;omega)]
theorem storeCells_sound{β:Type}{i off:Nat}{sp:Option Nat}{vs vs':List Value}{b o:Nat}{c:AHeap→Option β}{r:β}(hR:Rel H μ w)(hm:μ i=some (b,o))(hvs:LRel μ vs vs')
 (h:storeCellsK H ⟨i,off,sp⟩ vs c=some r):
 ∃H',c H'=some r∧∃w',(storeCells ⟨b,o+off,none⟩ vs').run P w= .ok () w'∧Rel H' μ w'∧Ext H μ w H' μ w':=by
 unfold storeCellsK at h
 split at h
 ·rename_i cs e app hsp hg
  simp only at hsp hg
  split at h
  ·rename_i hflat
   unfold storeIn at h
   cases hsl:splice off vs cs with
   |none=>rw[hsl] at h;cases h
   |some cs'=>
    rw[hsl] at h
    simp only[forceLV_eq] at h
    obtain⟨H',hc,hn,hget⟩:=AHeap.setK_some h
    refine⟨H',hc,?_⟩
    obtain⟨x,hx,ho⟩:=hR.obj i b o hm
    rw[hg] at hx
    cases hx
    have hs:=ho.isSome
    revert ho hs
    cases hw:w.heap[b]? with
    |none=>intro _ h;cases h
    |some ob=>
     intro ho _
     cases ob with
     |cells arr e' fz=>
      obtain⟨he,hle,hv,hfz⟩:=ho
      subst he
      obtain⟨hfz,hown,happ⟩:=hfz
      obtain rfl:=hfz rfl
      obtain⟨hfit,_⟩:=splice_some hsl
      have hl:=hvs.length
      obtain⟨w',arr',hr,st⟩:=run_storeCells (P:=P) (b:=b) (off:=o+off) (e:=e) vs' 0 w arr (by rw[hvs.flat];exact hflat) hw (by omega)
      refine⟨w',hr,?_⟩
      refine hR.put hm hg rfl (hR.own i b o cs e app hm hg) hn hget st.size st.other ?_ ?_ st.tape st.os st.output
      case refine_2=>
       intro cs2 e2 ow he arr2 e3 fz2 hw2
       cases he
       rw[st.at_] at hw2
       cases hw2
       rw[st.len]
       exact hR.cap i b o cs e true hm hg arr e _ hw
      rw[st.at_]
      refine⟨rfl,by rw[st.len,splice_len hsl];exact hle,fun k v hk=> ?_,fun _=>rfl,fun _ ha=>⟨(hown rfl ha).1,by rw[st.len,splice_len hsl];exact(hown rfl ha).2⟩,happ⟩
      by_cases hin:off≤k∧k<off+vs.length
      ·obtain⟨j,rfl⟩:∃j,k=off+j:=⟨k-off,by omega⟩
       rw[splice_in hsl j (by omega)] at hk
       obtain⟨v',h1,h2⟩:=hvs.at j v hk
       refine⟨v',?_,h2⟩
       have:=st.in_ j (by omega)
       rw[show o+(off+j)=o+off+0+j from by omega,this,h1]
      ·rw[splice_out hsl k (by omega)] at hk
       obtain⟨v',h1,h2⟩:=hv k v hk
       exact⟨v',by rw[st.out (o+k) (by omega),h1],h2⟩
     |_=>exact ho.elim
  ·cases h
 ·cases h
theorem newCells_sound{β:Type}{l l':List Value}{e:TypeId}{app:Bool}{mk:Nat→Value}{c:ANext→AHeap→Option β}{r:β}(hR:Rel H μ w)(hl:LRel μ l l')(cc:Nat)(hcap:app=true→cc*μ.sz e≤l'.length)
 (h:newCells l e app mk H c=some r):
 ∃H':AHeap,c (.value (mk H.next)) H'=some r∧(newRow e l'.toArray).run P w= .ok ⟨w.heap.size,0,none⟩ (wNew w (.cells l'.toArray e))∧
  Rel H' (upd μ H.next (w.heap.size,0) cc) (wNew w (.cells l'.toArray e))∧Ext H μ w H' (upd μ H.next (w.heap.size,0) cc) (wNew w (.cells l'.toArray e)):=by
 unfold newCells at h
 rw[forceLV_eq] at h
 obtain⟨_,h⟩:=cond_some h
 obtain⟨H',hc,hn,hg⟩:=AHeap.newK_some h
 refine⟨H',hc,by simp[newRow,newObj,Sem.run],?_⟩
 refine hR.new hn hg _ cc ⟨rfl,by simp[hl.length],fun k v hk=> ?_,fun _=>rfl,fun _ _=>⟨rfl,by simp[hl.length]⟩,fun _=>rfl⟩ ?_
 ·obtain⟨v',h1,h2⟩:=hl.at k v hk
  exact⟨v',by simpa using h1,h2.mono (hR.mono_new _ _)⟩
 ·intro cs2 e2 ow he arr e' fz ho
  cases he
  cases ho
  simpa using hcap rfl
end
end
section
def DRel(μ:Mu)(d d':Deferred):Prop:=
 LRel μ d.args.toList d'.args.toList∧
 match d.target,d'.target with
 | .fn (.func f) cap,.fn (.func f') cap'=>f=f'∧LRel μ cap.toList cap'.toList
 | .collected r,.collected r'=>μ r=some (r',0)
 |_,_=>False
def NRel(μ:Mu)(H:AHeap)(w:World):ANext→Next→Prop
 | .value v,.value v'=>VRel μ v v'
 | .skip,.skip=>True
 | .defer d,.defer d'=>DRel μ d d'
 | .enter f args,.enter f' args'=>f=f'∧LRel μ args args'.toList
 | .round l args,.round l' fn tmps assign body=>∃(r:ALoop)(r':Loop)(args':List Value),μ l=some (l',0)∧H.get l=some (.loop r)∧w.heap[l']? =some (.loop r')∧
    args.length=r.params.size∧LRel μ args args'∧fn=r'.fn∧
    tmps=(r'.params.zip args'.toArray).foldl (fun(tmps:Array Value)(p:Tmp×Value)=>tmps.setIfInBounds p.1 p.2) r'.tmps∧assign=r'.assign∧body=r'.body
 | .recover,.recover=>True
 |_,_=>False
def Does{β:Type}(P:Program)(H:AHeap)(μ:Mu)(w:World)(s:Sem Next)(c:ANext→AHeap→Option β)(r:β):Prop:=
 ∃n H' n' w' μ',c n H'=some r∧s.run P w= .ok n' w'∧Rel H' μ' w'∧Ext H μ w H' μ' w'∧NRel μ' H' w' n n'
section
variable{P:Program}{μ:Mu}{H:AHeap}{w:World}{β:Type}{r:β}{c:ANext→AHeap→Option β}
theorem zeroCells_some{t:TypeId}{z:List Value}(h:zeroCells? P t=some z):∃v i,P.info? t=some i∧i.zero=some v∧plainV 4 v=true∧z=v.cells.toList:=by
 unfold zeroCells? at h
 cases hz:zero? P t with
 |none=>rw[hz] at h;cases h
 |some v=>
  rw[hz] at h
  obtain⟨i,h1,h2,h3⟩:=zero_some hz
  exact⟨v,i,h1,h2,h3,by simpa using h.symm⟩
theorem alloc_does{e:TypeId}{ρ:Env}(hR:Rel H μ w)(h:hAlloc e P ρ H c=some r):
 Does P H μ w (do pure (Next.value (←Instr.alloc e true (.tuple #[])))) c r:=by
 unfold hAlloc at h
 cases hz:zeroCells? P e with
 |none=>rw[hz] at h;cases h
 |some z=>
  rw[hz] at h
  obtain⟨v,i,hi,hzz,hp,rfl⟩:=zeroCells_some hz
  obtain⟨H',hc,hrun,hrel,hext⟩:=newCells_sound (P:=P) hR (plain_cells hp) 0 (by simp) h
  refine⟨_,H',.value (.pointer (some ⟨w.heap.size,0,none⟩)),_,_,hc,?_,hrel,hext,?_⟩
  ·refine run_v ?_
   have hrun':(newRow e v.cells).run P w= .ok ⟨w.heap.size,0,none⟩ (wNew w (.cells v.cells e)):=by simpa using hrun
   unfold Instr.alloc newVar
   simp only[Sem.run_bind,run_zero hi hzz,Result.andThen_ok,hrun']
   rfl
  ·exact VRel.ptr (upd_same _ _ _ _)
theorem box_does{e:TypeId}{x:Operand}{ρ:Env}{x':Value}(hR:Rel H μ w)(hx:VRel μ (ρ x) x')(h:hBox e x P ρ H c=some r):
 Does P H μ w (do pure (Next.value (←Instr.box e x'))) c r:=by
 unfold hBox at h
 obtain⟨H',hc,hrun,hrel,hext⟩:=newCells_sound (P:=P) hR hx.cells 0 (by simp) h
 refine⟨_,H',.value (.pointer (some ⟨w.heap.size,0,none⟩)),_,_,hc,?_,hrel,hext,?_⟩
 ·refine run_v ?_
  have hrun':(newRow e x'.cells).run P w= .ok ⟨w.heap.size,0,none⟩ (wNew w (.cells x'.cells e)):=by simpa using hrun
  unfold Instr.box newVar
  simp only[Sem.run_bind,hrun',Result.andThen_ok]
  simp
 ·exact VRel.ptr (upd_same _ _ _ _)
theorem store_does{t:TypeId}{a x:Operand}{ρ:Env}{a' x':Value}(hR:Rel H μ w)(ha:VRel μ (ρ a) a')(hx:VRel μ (ρ x) x')(h:hStore t a x P ρ H c=some r):
 Does P H μ w (do Instr.storeAt t a' x';pure .skip) c r:=by
 unfold hStore at h
 split at h
 ·rename_i ad n he hs
  rw[he] at ha
  obtain⟨i,off,sp⟩:=ad
  obtain⟨rfl,b,o,hm,rfl⟩:=ha.inv_ptr
  obtain⟨h1,h2⟩:=cond_some h
  obtain⟨H',hc,w',hrun,hrel,hext⟩:=storeCells_sound (P:=P) hR hm hx.cells h2
  refine⟨_,H',.skip,w',μ,hc,?_,hrel,hext,trivial⟩
  have hlen:x'.cells.size=n:=by
   have:=hx.cells.length
   have h1':=Nat.eq_of_beq_eq_true h1
   simp at this h1'
   omega
  unfold Instr.storeAt Instr.sureAddr storeVar
  simp only[Sem.run_bind,pure,Sem.run,Result.andThen_ok,run_size hs,hlen,ne_eq,not_true_eq_false,if_false,hrun]
 ·cases h
theorem zeros_eq{z:Array Value}{n s:Nat}(hs:z.size=s):((Array.range (n*s)).map fun i=>z[i%z.size]!)=(repl z.toList n).toArray:=by
 apply Array.ext_getElem?
 intro k
 by_cases hk:k<n*s
 ·have h1:0<s:=by
   rcases Nat.eq_zero_or_pos s with h|h
   ·subst h;simp at hk
   ·exact h
  have hm:k%z.size<z.size:=Nat.mod_lt _ (by omega)
  have h2:=repl_at z.toList n k (by simpa [hs] using hk)
  simp at h2
  simp[hk,h2,hm]
 ·have h2:(repl z.toList n).length≤k:=by rw[repl_len];simp[hs];omega
  simp[hk,List.getElem?_eq_none_iff.2 h2]
theorem fill_len{place:Nat→Option (Nat×Nat)}:∀{ps:List (Nat×Value)}{cs r:Array Value},Instr.fill place cs ps=some r→r.toList.length=cs.toList.length:=by
 intro ps
 induction ps with
 |nil=>intro cs r h;simp[Instr.fill] at h;subst h;rfl
 |cons p ps ih=>
  intro cs r h
  obtain⟨i,v⟩:=p
  simp only[Instr.fill] at h
  cases hp:place i with
  |none=>rw[hp] at h;cases h
  |some q=>
   obtain⟨off,size⟩:=q
   rw[hp] at h
   simp only at h
   split at h
   ·cases h
   ·rw[ih h]
    have key:∀(l:List (Value×Nat))(cs:Array Value),(l.foldl (fun(cs:Array Value)(p:Value×Nat)=>cs.setIfInBounds (off+p.2) p.1) cs).size=cs.size:=by
     intro l
     induction l with
     |nil=>intro cs;rfl
     |cons x xs ihx=>intro cs;rw[List.foldl_cons,ihx];simp
    rw[←Array.foldl_toList]
    simpa using key v.cells.zipIdx.toList cs
theorem repl_rel{z:List Value}(h:LRel μ z z)(n:Nat):LRel μ (repl z n) (repl z n):=by
 induction n with
 |zero=>exact .nil
 |succ n ih=>exact h.append ih
theorem buildSlice_does{t:TypeId}{len:Nat}{parts:Array (Nat×Operand)}{ρ ρ':Env}(hS:∀e n,size? P e=some n→μ.sz e=n)(hR:Rel H μ w)(hp:∀p∈parts.toList,VRel μ (ρ p.2) (ρ' p.2))
 (h:hBuildSlice t len parts P ρ H c=some r):Does P H μ w (do pure (Next.value (←Instr.buildSlice t len (parts.map fun p=>(p.1,ρ' p.2))))) c r:=by
 unfold hBuildSlice at h
 cases hu:P.underlying t with
 |none=>rw[hu] at h;cases h
 |some d=>
  rw[hu] at h
  cases d with
  |slice e=>
   simp only at h
   cases hs:size? P e with
   |none=>rw[hs] at h;cases h
   |some s=>
    rw[hs] at h
    cases hz:zeroCells? P e with
    |none=>rw[hz] at h;cases h
    |some z=>
     rw[hz] at h
     simp only at h
     split at h
     ·rename_i hcond
      obtain⟨v,i,hi,hzz,hpl,rfl⟩:=zeroCells_some hz
      cases hf:Instr.fill (fun i=>some (i*s,s)) ⟨repl v.cells.toList len⟩ (parts.toList.map fun p=>(p.1,ρ p.2)) with
      |none=>
       have hf':Instr.fill (fun i=>some (i*s,s)) ⟨repl v.cells.toList len⟩ (parts.toList.map fun(i,x)=>(i,ρ x))=none:=hf
       rw[hf'] at h;cases h
      |some cells=>
       have hf':Instr.fill (fun i=>some (i*s,s)) ⟨repl v.cells.toList len⟩ (parts.toList.map fun(i,x)=>(i,ρ x))=some cells:=hf
       rw[hf'] at h
       simp only at h
       obtain⟨cells',hfc,hl⟩:=fill_rel (μ:=μ) (fun i=>some (i*s,s)) (ps:=parts.toList.map fun p=>(p.1,ρ p.2)) (ps':=parts.toList.map fun p=>(p.1,ρ' p.2))
        (cs:=⟨repl v.cells.toList len⟩) (cs':=⟨repl v.cells.toList len⟩) (by simp) (by simp only[List.map_map];exact LRel.map fun p hp'=>hp p hp') (repl_rel (plain_cells hpl) len) hf
       have hsz:v.cells.size=s:=by simpa using hcond.2
       obtain⟨H',hc,hrun,hrel,hext⟩:=newCells_sound (P:=P) hR hl len (fun _=>by
        rw[hS e s hs,←hl.length,fill_len hf]
        simp[repl_len,hsz]) h
       refine⟨_,H',.value (.slice (some ⟨w.heap.size,0,none⟩) len len),_,_,hc,?_,hrel,hext,VRel.slc (upd_same _ _ _ _) (Nat.le_refl _) fun _=>(upd_c _ _ _ _).symm⟩
       refine run_v ?_
       have hrun':(newRow e cells').run P w= .ok ⟨w.heap.size,0,none⟩ (wNew w (.cells cells' e)):=by simpa using hrun
       unfold Instr.buildSlice
       simp only[Sem.run_bind,run_und hu,Result.andThen_ok,run_size hs,if_neg (Nat.not_lt.2 hcond.1)]
       have hparts:(parts.map fun p=>(p.1,ρ' p.2)).toList=parts.toList.map fun p=>(p.1,ρ' p.2):=by cases parts;simp
       rw[hparts]
       by_cases h0:len*s=0
       ·have hrl:repl v.cells.toList len=[]:=by
         apply List.eq_nil_of_length_eq_zero
         rw[repl_len];simpa [hsz] using h0
        have hrow:((Array.range (len*s)).map fun x=>(#[]:Array Value)[x%(#[]:Array Value).size]!)=⟨repl v.cells.toList len⟩:=by rw[h0,hrl];simp
        rw[if_pos h0]
        simp only[Sem.run_bind,pure,Sem.run,Result.andThen_ok]
        rw[hrow,hfc]
        simp only[Sem.run_bind,Sem.run,Result.andThen_ok,hrun']
       ·rw[if_neg h0]
        simp only[Sem.run_bind,pure,Sem.run,Result.andThen_ok,run_zero hi hzz]
        rw[zeros_eq hsz]
        have hfc':Instr.fill (fun i=>some (i*s,s)) (repl v.cells.toList len).toArray (parts.toList.map fun p=>(p.1,ρ' p.2))=some cells':=hfc
        rw[hfc']
        simp only[Sem.run_bind,Sem.run,Result.andThen_ok,hrun']
     ·cases h
  |_=>cases h
theorem wrap_small{n:Nat}(h:n≤2^40):IntKind.i64.wrap (n:Int)=n:=by
 have h1:((n:Int))%(2^64:Int)=n:=by omega
 unfold IntKind.wrap
 simp only[IntKind.bits,IntKind.signed,h1]
 rw[if_neg]
 simp
 omega
theorem makeSlice_does{t:TypeId}{l m:Operand}{ρ:Env}{l' m':Value}(hS:∀e n,size? P e=some n→μ.sz e=n)(hR:Rel H μ w)(hl:VRel μ (ρ l) l')(hm:VRel μ (ρ m) m')(h:hMakeSlice t l m P ρ H c=some r):
 Does P H μ w (do pure (Next.value (←Instr.makeSlice t l' m'))) c r:=by
 unfold hMakeSlice at h
 cases hu:P.underlying t with
 |none=>rw[hu] at h;cases h
 |some d=>
  rw[hu] at h
  cases d with
  |slice e=>
   split at h
   ·rename_i k1 ln k2 mn e0 e1 e2
    cases e0
    rw[e1] at hl
    rw[e2] at hm
    obtain rfl:=hl.inv_int
    obtain rfl:=hm.inv_int
    cases hs:size? P e with
    |none=>rw[hs] at h;cases h
    |some s=>
     rw[hs] at h
     cases hz:zeroCells? P e with
     |none=>rw[hz] at h;cases h
     |some z=>
      rw[hz] at h
      simp only at h
      split at h
      ·rename_i hcond
       obtain⟨v,i,hi,hzz,hpl,rfl⟩:=zeroCells_some hz
       obtain⟨hlm,hmm,hzl,hby⟩:=hcond
       rw[hi] at hby
       simp only[Option.map_some,Option.any_some,decide_eq_true_eq] at hby
       have hsz:v.cells.size=s:=by simpa using hzl
       obtain⟨H',hc,hrun,hrel,hext⟩:=newCells_sound (P:=P) hR (repl_rel (plain_cells hpl) mn) mn (fun _=>by
        rw[hS e s hs,repl_len]
        simp[hsz]) h
       refine⟨_,H',.value (.slice (some ⟨w.heap.size,0,none⟩) ln mn),_,_,hc,?_,hrel,hext,VRel.slc (upd_same _ _ _ _) (Nat.le_refl _) fun _=>(upd_c _ _ _ _).symm⟩
       refine run_v ?_
       have hw1:IntKind.i64.wrap (Int.ofNat ln)=(ln:Int):=wrap_small (by omega)
       have hw2:IntKind.i64.wrap (Int.ofNat mn)=(mn:Int):=wrap_small (by omega)
       have hb:i.bytes*mn≤2^20*2^20:=Nat.mul_le_mul hby hmm
       have hb':((i.bytes:Int)*(mn:Int))≤2^40:=by
        have:((i.bytes*mn:Nat):Int)≤((2^40:Nat):Int):=by exact_mod_cast hb
        simpa using this
       have hroom:(askRoom (mn*i.bytes)).run P w= .ok () w:=by
        unfold askRoom
        split<;>rfl
       have ht1:(decide ((mn:Int)<0)||decide ((i.bytes:Int)*(mn:Int)>2^48))=false:=by
        simp only[Bool.or_eq_false_iff,decide_eq_false_iff_not]
        constructor<;>omega
       have hti:(typeInfo e).run P w= .ok i w:=by simp[typeInfo,program,hi,Sem.run]
       unfold Instr.makeSlice
       simp only[Sem.run_bind,run_und hu,Result.andThen_ok,asInt,asIntOf,pure,Sem.run,hti,hw1,hw2,ht1]
       have hcnd:(false||decide ((ln:Int)<0)||decide ((ln:Int)>(mn:Int)))=false:=by
        simp only[Bool.or_eq_false_iff,decide_eq_false_iff_not]
        refine⟨⟨trivial,?_⟩,?_⟩<;>omega
       simp only[hcnd,Bool.false_eq_true,if_false,Sem.run_bind,Result.andThen_ok,run_size hs,Int.toNat_natCast,hroom]
       by_cases h0:mn*s=0
       ·have hrl:repl v.cells.toList mn=[]:=by
         apply List.eq_nil_of_length_eq_zero
         rw[repl_len];simpa [hsz] using h0
        have hrow:((Array.range (mn*s)).map fun x=>(#[]:Array Value)[x%(#[]:Array Value).size]!)=(repl v.cells.toList mn).toArray:=by rw[h0,hrl];simp
        rw[if_pos h0]
        simp only[Sem.run_bind,Sem.run,Result.andThen_ok]
        rw[hrow]
        simp only[hrun,Result.andThen_ok]
       ·rw[if_neg h0]
        simp only[Sem.run_bind,Sem.run,Result.andThen_ok,run_zero hi hzz]
        rw[zeros_eq hsz]
        simp only[hrun,Result.andThen_ok]
      ·cases h
   ·cases h
  |_=>cases h
end
end
section
section
variable{P:Program}{μ:Mu}{H:AHeap}{w:World}{β:Type}{r:β}{c:ANext→AHeap→Option β}
theorem makeMap_does{t:TypeId}{x:Option Operand}{ρ ρ':Env}(hR:Rel H μ w)(h:hMakeMap t x P ρ H c=some r):
 Does P H μ w (do pure (Next.value (←Instr.makeMap t (x.map ρ')))) c r:=by
 unfold hMakeMap at h
 split at h
 ·rename_i kt et hu
  split at h
  ·obtain⟨H',hc,hn,hg⟩:=AHeap.newK_some h
   obtain⟨hrel,hext⟩:=hR.new hn hg (.map #[] 0) 0 ⟨rfl,rfl,rfl⟩ (by simp)
   refine⟨_,H',.value (.map (some w.heap.size)),_,_,hc,?_,hrel,hext,VRel.map (upd_same _ _ _ _)⟩
   simp[Instr.makeMap,newObj,Sem.run]
  ·obtain⟨H',hc,hn,hg⟩:=AHeap.newK_some h
   obtain⟨hrel,hext⟩:=hR.new hn hg (.map #[] 0) 0 ⟨rfl,.inl ⟨rfl,rfl,rfl⟩⟩ (by simp)
   refine⟨_,H',.value (.map (some w.heap.size)),_,_,hc,?_,hrel,hext,VRel.map (upd_same _ _ _ _)⟩
   simp[Instr.makeMap,newObj,Sem.run]
 ·cases h
theorem obj_map{i b o:Nat}{es:List (Value×Value)}(hR:Rel H μ w)(hm:μ i=some (b,o))(hg:H.get i=some (.map es)):
 ∃arr clock,w.heap[b]? =some (.map arr clock)∧((es=[]∧arr=#[]∧clock=0)∨∃s v,es=[(.string s,v)]∧plain4 v=true∧arr=#[⟨.string s,v,0⟩]∧clock=1):=by
 obtain⟨x,hx,ho⟩:=hR.obj i b o hm
 rw[hg] at hx
 cases hx
 have hs:=ho.isSome
 revert ho hs
 cases hw:w.heap[b]? with
 |none=>intro _ h;cases h
 |some ob=>
  intro ho _
  cases ob with
  |map arr clock=>exact⟨arr,clock,rfl,ho.2⟩
  |_=>exact ho.elim
theorem run_setObj{b:Nat}{ob ob':Obj}(h:w.heap[b]? =some ob)(hc:∀cs e f,ob≠.cells cs e f):
 (setObj b ob').run P w= .ok () {w with heap:=w.heap.setIfInBounds b ob'}:=by
 cases ob with
 |cells cs e f=>exact absurd rfl (hc cs e f)
 |_=>simp[setObj,Sem.run,h]
theorem run_getObj{b:Nat}{ob:Obj}(h:w.heap[b]? =some ob)(hc:∀cs e f,ob≠.cells cs e f):(getObj b).run P w= .ok ob w:=by
 cases ob with
 |cells cs e f=>exact absurd rfl (hc cs e f)
 |_=>simp[getObj,Sem.run,h]
theorem Rel.putObj{x x':AObj}{i b:Nat}{H':AHeap}{ob':Obj}(hR:Rel H μ w)(hm:μ i=some (b,0))(hg:H.get i=some x)(hx:∀cs e ow ap,x≠.cells cs e ow ap)(hx':∀cs e ow ap,x'≠.cells cs e ow ap)
 (hn:H'.next=H.next)(hg':∀j,H'.get j=if j=i then some x' else H.get j)(ho:ORel μ x' 0 (some ob')):
 Rel H' μ {w with heap:=w.heap.setIfInBounds b ob'}∧Ext H μ w H' μ {w with heap:=w.heap.setIfInBounds b ob'}:=by
 have hlt:=hR.lt hm
 refine hR.put (x':=x') hm hg ?_ (hR.oth i b 0 x hm hg hx) hn hg' (by simp) (fun c' hc'=>by simp[Array.getElem?_setIfInBounds_ne (Ne.symm hc')]) ?_ (fun cs e ow he=>absurd he (hx' _ _ _ _)) rfl rfl rfl
 ·cases x<;>first|rfl|exact absurd rfl (hx _ _ _ _)
 ·simp[hlt]
  exact ho
theorem mapUpdate_does{t:TypeId}{m k x:Operand}{ρ:Env}{m' k' x':Value}(hR:Rel H μ w)(hm:VRel μ (ρ m) m')(hk:VRel μ (ρ k) k')(hx:VRel μ (ρ x) x')
 (h:hMapUpdate t m k x P ρ H c=some r):Does P H μ w (do Instr.mapUpdate t m' k' x';pure .skip) c r:=by
 unfold hMapUpdate at h
 split at h
 ·rename_i kt et i s hu e1 e2
  rw[e1] at hm
  rw[e2] at hk
  obtain⟨b,hmi,rfl⟩:=hm.inv_map
  obtain rfl:=hk.inv_string
  split at h
  ·rename_i es hkt hg
   unfold mapPut at h
   split at h
   ·obtain⟨hp,h⟩:=cond_some h
    obtain rfl:=plain4_eq hp hx
    obtain⟨H',hc,hn,hg'⟩:=AHeap.setK_some h
    obtain⟨arr,clock,hw,hor⟩:=obj_map hR hmi hg
    obtain⟨rfl,rfl⟩:arr=#[]∧clock=0:=by
     rcases hor with⟨_,h1,h2⟩|⟨_,_,h1,_⟩
     ·exact⟨h1,h2⟩
     ·cases h1
    obtain⟨hrel,hext⟩:=hR.putObj (ob':=.map #[⟨.string s,ρ x,0⟩] 1) hmi hg (by simp) (by simp) hn hg' ⟨rfl,.inr ⟨s,ρ x,rfl,hp,rfl,rfl⟩⟩
    refine⟨_,H',.skip,_,μ,hc,?_,hrel,hext,trivial⟩
    have hck:(Instr.checkKey false 10000 kt (.string s)).run P w= .ok () w:=by
     have:∀n:Nat,(Instr.checkKey false (n+1) kt (.string s)).run P w= .ok () w:=fun n=>by simp[Instr.checkKey,run_und hkt]
     exact this 9999
    have hfk:(Instr.findKey kt (.string s) ([]:List MapEntry)).run P w= .ok none w:=by
     simp[Instr.findKey,run_und hkt,Instr.findNow]
    have hso:=run_setObj (P:=P) (ob':=.map #[⟨.string s,ρ x,0⟩] 1) hw (by simp)
    unfold Instr.mapUpdate
    simp only[Sem.run_bind,run_und hu,Result.andThen_ok,run_getObj hw (by simp),hck,hfk,pure,Sem.run]
    simp only[List.push_toArray,List.nil_append,Nat.zero_add]
    rw[hso]
    rfl
   ·cases h
  ·cases h
 ·cases h
theorem obj_imap{i b o:Nat}{es:List (Int×Value)}(hR:Rel H μ w)(hm:μ i=some (b,o))(hg:H.get i=some (.imap es)):
 ∃arr,w.heap[b]? =some (.map arr es.length)∧arr.toList=ents 0 es:=by
 obtain⟨x,hx,ho⟩:=hR.obj i b o hm
 rw[hg] at hx
 cases hx
 have hs:=ho.isSome
 revert ho hs
 cases hw:w.heap[b]? with
 |none=>intro _ h;cases h
 |some ob=>
  intro ho _
  cases ob with
  |map arr clock=>
   obtain⟨_,h1,h2⟩:=ho
   subst h1
   exact⟨arr,rfl,h2⟩
  |_=>exact ho.elim
theorem find_none{kd:IntKind}{n:Int}:∀{es:List (Int×Value)}(j i:Nat),ilook n es=none→Instr.findNow (.int kd) (.int .i64 n) (ents j es) i=some none
 |[],_,_,_=>rfl
 |(k,v)::es,j,i,h=>by
  rw[ilook] at h
  cases hk:(n==k) with
  |true=>rw[hk] at h;cases h
  |false=>
   rw[hk] at h
   simp only[ents,Instr.findNow,Instr.sameNow,hk,if_true]
   exact find_none (j+1) (i+1) h
theorem find_some{kd:IntKind}{n:Int}{u:Value}:∀{es:List (Int×Value)}(j i:Nat),ilook n es=some u→∃i',Instr.findNow (.int kd) (.int .i64 n) (ents j es) i=some (some (i',u))
 |[],_,_,h=>by cases h
 |(k,v)::es,j,i,h=>by
  rw[ilook] at h
  cases hk:(n==k) with
  |true=>
   rw[hk] at h
   simp only[cond_true,Option.some.injEq] at h
   subst h
   exact⟨i,by simp only[ents,Instr.findNow,Instr.sameNow,hk,if_true]⟩
  |false=>
   rw[hk] at h
   simp only[ents,Instr.findNow,Instr.sameNow,hk,if_true]
   exact find_some (j+1) (i+1) h
theorem ents_snoc(n:Int)(v:Value):∀(es:List (Int×Value))(j:Nat),ents j (es++[(n,v)])=ents j es++[⟨.int .i64 n,v,j+es.length⟩]
 |[],j=>by simp[ents]
 |(k,u)::es,j=>by
  rw[List.cons_append,ents,ents,ents_snoc n v es (j+1),List.cons_append]
  rw[show j+1+es.length=j+((k,u)::es).length by simp;omega]
theorem key_int{kt:TypeId}{kd:IntKind}(hkt:P.underlying kt=some (.int kd))(e:Bool)(n:Int):(Instr.checkKey e 10000 kt (.int .i64 n)).run P w= .ok () w:=by
 have:∀m:Nat,(Instr.checkKey e (m+1) kt (.int .i64 n)).run P w= .ok () w:=fun m=>by simp[Instr.checkKey,run_und hkt]
 exact this 9999
theorem insert_does{t:TypeId}{m k x:Operand}{ρ:Env}{m' k' x':Value}(hR:Rel H μ w)(hm:VRel μ (ρ m) m')(hk:VRel μ (ρ k) k')(hx:VRel μ (ρ x) x')
 (h:hInsert t m k x P ρ H c=some r):Does P H μ w (do Instr.mapUpdate t m' k' x';pure .skip) c r:=by
 unfold hInsert at h
 split at h
 ·rename_i kt et i n hu e1 e2
  rw[e1] at hm
  rw[e2] at hk
  obtain⟨b,hmi,rfl⟩:=hm.inv_map
  obtain rfl:=hk.inv_int
  split at h
  ·rename_i kd es hkt hg
   unfold imapPut at h
   split at h
   ·rename_i hl
    obtain⟨hp,h⟩:=cond_some h
    obtain rfl:=plain4_eq hp hx
    obtain⟨H',hc,hn,hg'⟩:=AHeap.setK_some h
    obtain⟨arr,hw,harr⟩:=obj_imap hR hmi hg
    obtain⟨hrel,hext⟩:=hR.putObj (ob':=.map (arr.push ⟨.int .i64 n,ρ x,es.length⟩) (es.length+1)) hmi hg (by simp) (by simp) hn hg' ⟨rfl,by simp,by rw[Array.toList_push,harr,ents_snoc,Nat.zero_add]⟩
    refine⟨_,H',.skip,_,μ,hc,?_,hrel,hext,trivial⟩
    have hck:=key_int (w:=w) hkt false n
    have hfk:(Instr.findKey kt (.int .i64 n) arr.toList).run P w= .ok none w:=by
     simp[Instr.findKey,run_und hkt,harr,find_none 0 0 hl]
    have hso:=run_setObj (P:=P) (ob':=.map (arr.push ⟨.int .i64 n,ρ x,es.length⟩) (es.length+1)) hw (by simp)
    unfold Instr.mapUpdate
    simp only[Sem.run_bind,run_und hu,Result.andThen_ok,run_getObj hw (by simp),hck,hfk,pure,Sem.run]
    rw[hso]
    rfl
   ·cases h
  ·cases h
 ·cases h
theorem lookup_does{t:TypeId}{m k:Operand}{ok:Bool}{ρ:Env}{m' k':Value}(hR:Rel H μ w)(hm:VRel μ (ρ m) m')(hk:VRel μ (ρ k) k')
 (h:hLookup t m k ok P ρ H c=some r):Does P H μ w (do pure (Next.value (←Instr.lookup t m' k' ok))) c r:=by
 unfold hLookup at h
 split at h
 ·rename_i kt et i n hu e1 e2
  rw[e1] at hm
  rw[e2] at hk
  obtain⟨b,hmi,rfl⟩:=hm.inv_map
  obtain rfl:=hk.inv_int
  split at h
  ·rename_i kd es hkt hg
   split at h
   ·rename_i v hl
    obtain⟨hp,h⟩:=cond_some h
    obtain⟨arr,hw,harr⟩:=obj_imap hR hmi hg
    refine⟨_,H,.value v,w,μ,h,?_,hR,Ext.refl _ _ _,VRel.plain 4 hp⟩
    refine run_v ?_
    have hck:=key_int (w:=w) hkt arr.isEmpty n
    obtain⟨i',hf⟩:=find_some (kd:=kd) 0 0 hl
    have hfk:(Instr.findKey kt (.int .i64 n) arr.toList).run P w= .ok (some (i',v)) w:=by
     simp[Instr.findKey,run_und hkt,harr,hf]
    unfold Instr.lookup
    simp only[Sem.run_bind,run_und hu,Result.andThen_ok,run_getObj hw (by simp),hck,hfk,pure,Sem.run]
    rfl
   ·cases h
  ·cases h
 ·cases h
theorem range_does{t:TypeId}{x:Operand}{ρ:Env}{x':Value}(hR:Rel H μ w)(hx:VRel μ (ρ x) x')(h:hRange t x P ρ H c=some r):
 Does P H μ w (do pure (Next.value (←Instr.range t x'))) c r:=by
 unfold hRange at h
 split at h
 ·rename_i kt et i hu e1
  rw[e1] at hx
  obtain⟨b,hmi,rfl⟩:=hx.inv_map
  split at h
  ·rename_i es hg
   obtain⟨arr,clock,hw,hor⟩:=obj_map hR hmi hg
   have hcl:clock=es.length:=by
    rcases hor with⟨rfl,_,rfl⟩|⟨_,_,rfl,_,_,rfl⟩<;>rfl
   obtain⟨H',hc,hn,hg'⟩:=AHeap.newK_some h
   obtain⟨hrel,hext⟩:=hR.new hn hg' (.mapIter (some b) clock #[] clock) 0 ⟨rfl,(hR.mono_new _ _).f _ _ hmi,hcl,hcl,.inl ⟨rfl,rfl⟩⟩ (by simp)
   refine⟨_,H',.value (.pointer (some ⟨w.heap.size,0,none⟩)),_,_,hc,?_,hrel,hext,VRel.ptr (upd_same _ _ _ _)⟩
   refine run_v ?_
   unfold Instr.range
   simp only[Sem.run_bind,run_und hu,Result.andThen_ok,run_getObj hw (by simp),pure,Sem.run,newObj]
  ·cases h
 ·cases h
theorem obj_iter{i b o m since n:Nat}(hR:Rel H μ w)(hm:μ i=some (b,o))(hg:H.get i=some (.iter m since n)):
 ∃bm seen,w.heap[b]? =some (.mapIter (some bm) since seen since)∧o=0∧μ m=some (bm,0)∧((n=0∧seen=#[])∨(n=1∧since=1∧seen=#[0])):=by
 obtain⟨x,hx,ho⟩:=hR.obj i b o hm
 rw[hg] at hx
 cases hx
 have hs:=ho.isSome
 revert ho hs
 cases hw:w.heap[b]? with
 |none=>intro _ h;cases h
 |some ob=>
  intro ho _
  cases ob with
  |mapIter mp si seen st=>
   cases mp with
   |none=>exact ho.elim
   |some bm=>
    obtain⟨h1,h2,h3,h4,h5⟩:=ho
    subst h3 h4
    exact⟨bm,seen,rfl,h1,h2,h5⟩
  |_=>exact ho.elim
theorem next_does{it:Operand}{s:Bool}{ty:TypeId}{ρ:Env}{it':Value}(hR:Rel H μ w)(hx:VRel μ (ρ it) it')(h:hNext it s P ρ H c=some r):
 Does P H μ w (do pure (Next.value (←Instr.next it' s ty))) c r:=by
 unfold hNext at h
 split at h
 ·rename_i i e1
  rw[e1] at hx
  obtain⟨_,b,o,hmi,rfl⟩:=hx.inv_ptr
  split at h
  ·rename_i m since n hg
   obtain⟨bm,seen,hw,rfl,hmm,hor⟩:=obj_iter hR hmi hg
   unfold iterNext at h
   split at h
   ·rename_i es hgm
    obtain⟨arr,clock,hwm,horm⟩:=obj_map hR hmm hgm
    have hforced:∀k:Nat→Sem Value,(Sem.choose (.mapNext 1) k).run P w=(k 0).run P w:=fun k=>by simp[Sem.run,Question.forced]
    split at h
    ·
     obtain⟨rfl,rfl⟩:arr=#[]∧clock=0:=by
      rcases horm with⟨_,h1,h2⟩|⟨_,_,h1,_⟩
      ·exact⟨h1,h2⟩
      ·cases h1
     obtain rfl:seen=#[]:=by
      rcases hor with⟨_,h1⟩|⟨h1,_⟩
      ·exact h1
      ·cases h1
     refine⟨_,H,.value (.tuple #[.bool false]),w,μ,h,?_,hR,Ext.refl _ _ _,VRel.plain 4 rfl⟩
     refine run_v ?_
     unfold Instr.next
     simp[run_getObj hw,run_getObj hwm,choose,Sem.run,Question.forced]
    ·
     rename_i k v
     obtain⟨ss,rfl,hp,rfl,rfl⟩:∃ss,k= .string ss∧plain4 v=true∧arr=#[⟨.string ss,v,0⟩]∧clock=1:=by
      rcases horm with⟨h1,_⟩|⟨s',v',h1,h2,h3,h4⟩
      ·cases h1
      ·cases h1;exact⟨s',rfl,h2,h3,h4⟩
     obtain rfl:seen=#[]:=by
      rcases hor with⟨_,h1⟩|⟨h1,_⟩
      ·exact h1
      ·cases h1
     obtain⟨H',hc,hn,hg'⟩:=AHeap.setK_some h
     obtain⟨hrel,hext⟩:=hR.putObj (ob':=.mapIter (some bm) 1 #[0] 1) hmi hg (by simp) (by simp) hn hg' ⟨rfl,hmm,rfl,rfl,.inr ⟨rfl,rfl,rfl⟩⟩
     refine⟨_,H',.value (.tuple #[.bool true,.string ss,v]),_,μ,hc,?_,hrel,hext,.tuple (.cons (.bool _) (.cons (.plain 4 rfl) (.cons (.plain 4 hp) .nil)))⟩
     refine run_v ?_
     have hso:=run_setObj (P:=P) (ob':=.mapIter (some bm) 1 #[0] 1) hw (by simp)
     unfold Instr.next
     simp[run_getObj hw,run_getObj hwm,choose,Sem.run,Question.forced,hso]
    ·
     rename_i kv
     obtain⟨ss,v,rfl,rfl⟩:∃ss v,arr=#[⟨.string ss,v,0⟩]∧clock=1:=by
      rcases horm with⟨h1,_⟩|⟨s',v',h1,h2,h3,h4⟩
      ·cases h1
      ·exact⟨s',v',h3,h4⟩
     obtain rfl:seen=#[0]:=by
      rcases hor with⟨h1,_⟩|⟨_,_,h1⟩
      ·cases h1
      ·exact h1
     refine⟨_,H,.value (.tuple #[.bool false]),w,μ,h,?_,hR,Ext.refl _ _ _,VRel.plain 4 rfl⟩
     refine run_v ?_
     unfold Instr.next
     simp[run_getObj hw,run_getObj hwm,choose,Sem.run,Question.forced]
    ·cases h
   ·cases h
  ·cases h
 ·cases h
theorem entry_does{it:Operand}{ρ:Env}{it':Value}(hR:Rel H μ w)(hx:VRel μ (ρ it) it')(h:hEntry it P ρ H c=some r):
 Does P H μ w (do pure (Next.value (←Instr.entry it'))) c r:=by
 unfold hEntry at h
 split at h
 ·rename_i i e1
  rw[e1] at hx
  obtain⟨_,b,o,hmi,rfl⟩:=hx.inv_ptr
  split at h
  ·rename_i m hg
   obtain⟨bm,seen,hw,rfl,hmm,hor⟩:=obj_iter hR hmi hg
   obtain rfl:seen=#[0]:=by
    rcases hor with⟨h1,_⟩|⟨_,_,h1⟩
    ·cases h1
    ·exact h1
   split at h
   ·rename_i k v hgm
    obtain⟨arr,clock,hwm,horm⟩:=obj_map hR hmm hgm
    obtain⟨ss,rfl,hp,rfl,rfl⟩:∃ss,k= .string ss∧plain4 v=true∧arr=#[⟨.string ss,v,0⟩]∧clock=1:=by
     rcases horm with⟨h1,_⟩|⟨s',v',h1,h2,h3,h4⟩
     ·cases h1
     ·cases h1;exact⟨s',rfl,h2,h3,h4⟩
    refine⟨_,H,.value (.tuple #[.string ss,v]),w,μ,h,?_,hR,Ext.refl _ _ _,.tuple (.cons (.plain 4 rfl) (.cons (.plain 4 hp) .nil))⟩
    refine run_v ?_
    unfold Instr.entry
    simp[run_getObj hw,run_getObj hwm]
   ·cases h
  ·cases h
 ·cases h
end
end
section
section
variable{P:Program}{μ:Mu}{H:AHeap}{w:World}{β:Type}{r:β}{c:ANext→AHeap→Option β}
theorem src_sound{sz n:Nat}{x x':Value}{l:List Value}(hR:Rel H μ w)(hx:VRel μ x x')(h:srcCells H sz x=some (n,l)):
 ∃l':List Value,LRel μ l l'∧l.length=n*sz∧(∀w1,(Builtin.lenOf x').run P w1= .ok n w1)∧
  ∀w1:World,w1.heap=w.heap→(Builtin.firstCells sz n x').run P w1= .ok l'.toArray w1:=by
 unfold srcCells at h
 split at h
 ·rename_i m
  simp at h
  obtain⟨rfl,rfl⟩:=h
  obtain rfl:=hx.inv_slice_none
  exact⟨[],.nil,by simp,fun w1=>rfl,fun w1 _=>rfl⟩
 ·rename_i a m cap
  unfold srcSlice at h
  split at h
  ·simp at h
   obtain⟨rfl,rfl⟩:=h
   obtain⟨a',m',rfl⟩:=hx.inv_slice_some
   refine⟨[],.nil,by simp,fun w1=>rfl,fun w1 _=> ?_⟩
   simp[Builtin.firstCells,loadCells,loadCellsFrom]
  ·rename_i m hsp
   obtain⟨i,off,sp⟩:=a
   simp only at hsp h
   subst hsp
   obtain⟨b,o,cap',hm,_,_,rfl⟩:=hx.inv_slice
   cases hc:loadCells? H i with
   |none=>rw[hc] at h;cases h
   |some cs=>
    rw[hc] at h
    simp only at h
    cases hcut:cut off ((m+1)*sz) cs with
    |none=>rw[hcut] at h;cases h
    |some l0=>
     rw[hcut] at h
     simp at h
     obtain⟨rfl,rfl⟩:=h
     obtain⟨arr,e,fz,hw,hle,hv⟩:=load_cells hR hm hc
     obtain⟨l',hl',hrel,hat⟩:=rows_of hcut hv
     refine⟨l',hrel,cut_len hcut,fun w1=>rfl,fun w1 hw1=> ?_⟩
     have:=run_loadCells (P:=P) (w:=w1) (b:=b) (off:=o+off) l' (fun k v hk=>by rw[cell_of (by rw[hw1];exact hw)];exact hat k v hk)
     rw[hl'] at this
     exact this
  ·cases h
 ·rename_i s
  obtain⟨h1,h2⟩:=cond_some h
  obtain rfl:=Nat.eq_of_beq_eq_true h1
  simp at h2
  obtain⟨rfl,rfl⟩:=h2
  obtain rfl:=hx.inv_string
  refine⟨_,LRel.map (f:=fun b:UInt8=>Value.int .u8 b.toNat) fun b _=>.int _ _,by rw[List.length_map,Nat.mul_one];rfl,fun w1=>rfl,fun w1 _=> ?_⟩
  have:s.extract 0 s.size=s:=by simp
  simp[Builtin.firstCells,this]
  cases s.data
  simp
 ·cases h
theorem growBy_le(newLen:Nat):∀(k c:Nat),c≤2*newLen+192→Builtin.growBy newLen k c≤2*newLen+192:=by
 intro k
 induction k with
 |zero=>intro c h;exact h
 |succ k ih=>
  intro c h
  simp only[Builtin.growBy]
  split
  ·exact h
  ·exact ih _ (by omega)
theorem nextslicecap_le{need cap:Nat}(h:cap<need):Builtin.nextslicecap need cap≤2*need+192:=by
 unfold Builtin.nextslicecap
 split
 ·omega
 ·split
  ·omega
  ·exact growBy_le _ _ _ (by omega)
theorem growOk_some{e:TypeId}{sz need:Nat}(h:growOk P e sz need=true):
 need≤2^20∧∃i v,P.info? e=some i∧i.bytes≤2^20∧i.zero=some v∧v.cells.size=sz:=by
 unfold growOk at h
 simp only[Bool.and_eq_true] at h
 obtain⟨⟨h1,h2⟩,h3⟩:=h
 cases hz:zeroCells? P e with
 |none=>rw[hz] at h3;cases h3
 |some z=>
  rw[hz] at h3
  obtain⟨v,i,hi,hzz,hp,rfl⟩:=zeroCells_some hz
  rw[hi] at h2
  refine⟨Nat.le_of_ble_eq_true h1,i,v,hi,Nat.le_of_ble_eq_true (by simpa using h2),hzz,?_⟩
  have:=Nat.eq_of_beq_eq_true (show Nat.beq v.cells.toList.length sz=true by simpa using h3)
  simpa using this
theorem zeroCells_size(z:Array Value)(n:Nat):(Builtin.zeroCells z n).size=n*z.size:=by simp[Builtin.zeroCells]
theorem run_append_grow{st xt ty e:TypeId}{d:TypeDesc}{sz sLen sCap n:Nat}{base:Option Addr}{x':Value}{old' l':List Value}(hu:P.underlying st=some (.slice e))
 (hxt:P.underlying xt=some d)(hd:∀k,d≠.int k)(hs:size? P e=some sz)(hg:growOk P e sz (sLen+n)=true)(hno:sCap<sLen+n)
 (hlen:∀w1,(Builtin.lenOf x').run P w1= .ok n w1)(hnew:∀w1:World,w1.heap=w.heap→(Builtin.firstCells sz n x').run P w1= .ok l'.toArray w1)
 (hold:∀w1:World,w1.heap=w.heap→(Builtin.firstCells sz sLen (.slice base sLen sCap)).run P w1= .ok old'.toArray w1):
 ∃newCap rest,sLen+n≤newCap∧rest.size=(newCap-(sLen+n))*sz∧
  (Builtin.append_ #[st,xt] ty #[.slice base sLen sCap,x']).run P w=
    .ok (.slice (some ⟨w.heap.size,0,none⟩) (sLen+n) newCap) (wNew {w with drawn:=w.drawn+1} (.cells (old'.toArray++l'.toArray++rest) e)):=by
 obtain⟨hneed,i,v,hi,hb,hz,hvs⟩:=growOk_some hg
 let q:Question:=.appendCap (sLen+n) sCap e
 let newCap:=q.cut (w.tape w.drawn q)
 have hcap:sLen+n≤newCap:=by
  show sLen+n≤sLen+n+_
  omega
 refine⟨newCap,Builtin.zeroCells v.cells (newCap-(sLen+n)),hcap,by rw[zeroCells_size,hvs],?_⟩
 have hti:∀w1:World,(typeInfo e).run P w1= .ok i w1:=fun w1=>by simp[typeInfo,program,hi,Sem.run]
 have hroom:∀(k:Nat)(w1:World),(askRoom k).run P w1= .ok () w1:=fun k w1=>by unfold askRoom;split<;>rfl
 have hcond1:¬(((sLen+n:Nat):Int)>IntKind.i64.max∧(False∨i.bytes=0)):=by
  rintro⟨h1,_⟩
  have:IntKind.i64.max=9223372036854775807:=by decide
  rw[this] at h1
  omega
 have hcond2:¬(Builtin.nextslicecap (sLen+n) sCap*i.bytes>2^48):=by
  have h1:=nextslicecap_le hno
  have h2:Builtin.nextslicecap (sLen+n) sCap*i.bytes≤(2*2^20+192)*2^20:=Nat.mul_le_mul (by omega) hb
  omega
 have hq:q.forced=false:=rfl
 have hnr:∀(row:Array Value)(w1:World),(newRow e row).run P w1= .ok ⟨w1.heap.size,0,none⟩ (wNew w1 (.cells row e)):=fun row w1=>by simp[newRow,newObj,Sem.run]
 unfold Builtin.append_
 cases d with
 |int k=>exact absurd rfl (hd k)
 |_=>
  simp only[Sem.run_bind,run_und hu,run_und hxt,Result.andThen_ok,run_size hs,hlen,pure,Sem.run,List.getElem?_toArray,List.getElem?_cons_zero,List.getElem?_cons_succ,Bool.false_eq_true,if_false]
  simp only[if_neg (Nat.not_le.2 hno),hti,Sem.run_bind,Result.andThen_ok,if_neg hcond1,if_neg hcond2,choose]
  rw[show(Question.appendCap (sLen+n) sCap e)=q from rfl]
  simp only[Result.andThen_ok,hroom,run_zero hi hz,hnr,Sem.run,Bool.not_false,if_true,hq,Bool.false_eq_true,if_false,hold {w with drawn:=w.drawn+1} rfl,hnew {w with drawn:=w.drawn+1} rfl]
  rfl
end
end
section
section
variable{P:Program}{μ:Mu}{H:AHeap}{w:World}{β:Type}{r:β}{c:ANext→AHeap→Option β}
theorem run_append_room{st xt ty e:TypeId}{d:TypeDesc}{sz sLen sCap n:Nat}{base:Option Addr}{x':Value}{l':List Value}{w':World}(hu:P.underlying st=some (.slice e))
 (hxt:P.underlying xt=some d)(hd:∀k,d≠.int k)(hs:size? P e=some sz)(hroom:sLen+n≤sCap)
 (hlen:∀w1,(Builtin.lenOf x').run P w1= .ok n w1)(hnew:∀w1:World,w1.heap=w.heap→(Builtin.firstCells sz n x').run P w1= .ok l'.toArray w1)
 (hst:match base with|some a=>(storeCells (a.add (sLen*sz)) l').run P w= .ok () w'|none=>w'=w):
 (Builtin.append_ #[st,xt] ty #[.slice base sLen sCap,x']).run P w= .ok (.slice base (sLen+n) sCap) w':=by
 unfold Builtin.append_
 cases d with
 |int k=>exact absurd rfl (hd k)
 |_=>
  simp only[Sem.run_bind,run_und hu,run_und hxt,Result.andThen_ok,run_size hs,hlen,pure,Sem.run,List.getElem?_toArray,List.getElem?_cons_zero,List.getElem?_cons_succ,Bool.false_eq_true,if_false]
  simp only[if_pos hroom,Sem.run_bind,Bool.not_false,if_true,hnew w rfl,Result.andThen_ok]
  cases base with
  |none=>simp only at hst;subst hst;rfl
  |some a=>simp only[Sem.run_bind,hst,Result.andThen_ok,Sem.run]
theorem whole_row{i b o:Nat}{cs:List Value}{e:TypeId}{ow ap:Bool}{arr:Array Value}{e':TypeId}{fz:Nat×Nat}(hR:Rel H μ w)(hm:μ i=some (b,o))
 (hg:H.get i=some (.cells cs e ow ap))(hw:w.heap[b]? =some (.cells arr e' fz)):
 e=e'∧o+cs.length≤arr.size∧(∀(k:Nat)(v:Value),cs[k]? =some v→∃v',arr[o+k]? =some v'∧VRel μ v v')∧((ow||ap)=true→fz=(0,0)):=by
 obtain⟨x,hx,ho⟩:=hR.obj i b o hm
 rw[hg] at hx
 cases hx
 rw[hw] at ho
 exact⟨ho.1,ho.2.1,ho.2.2.1,ho.2.2.2.1⟩
theorem block_of{i b o:Nat}{cs:List Value}{e:TypeId}{ow ap:Bool}(hR:Rel H μ w)(hm:μ i=some (b,o))(hg:H.get i=some (.cells cs e ow ap)):
 ∃arr fz,w.heap[b]? =some (.cells arr e fz):=by
 obtain⟨x,hx,ho⟩:=hR.obj i b o hm
 rw[hg] at hx
 cases hx
 have hs:=ho.isSome
 revert ho hs
 cases hw:w.heap[b]? with
 |none=>intro _ h;cases h
 |some ob=>
  intro ho _
  cases ob with
  |cells arr e' fz=>obtain⟨rfl,_⟩:=ho;exact⟨arr,fz,rfl⟩
  |_=>exact ho.elim
theorem append_does{ts:Array TypeId}{ty:TypeId}{args args':List Value}(hS:∀e n,size? P e=some n→μ.sz e=n)(hR:Rel H μ w)(ha:LRel μ args args')
 (h:hAppend ts args P H c=some r):Does P H μ w (do pure (Next.value (←Builtin.append_ ts ty args'.toArray))) c r:=by
 unfold hAppend at h
 split at h
 ·rename_i st xt s x ets
  have ets':ts=#[st,xt]:=by cases ts;simp at ets;simp[ets]
  subst ets'
  cases ha with
  |cons hs ht=>
  cases ht with
  |cons hx ht2=>
  cases ht2
  rename_i s' x'
  cases hxt:P.underlying xt with
  |none=>rw[hxt] at h;cases h
  |some d=>
   rw[hxt] at h
   have hd:∀k,d≠.int k:=by rintro k rfl;cases h
   have h2:appendK P st s x H (fun v H=>c (.value v) H)=some r:=by
    cases d<;>first|exact h|exact absurd rfl (hd _)
   clear h
   unfold appendK at h2
   split at h2
   ·rename_i e base len cap hu
    cases hsz:size? P e with
    |none=>rw[hsz] at h2;cases h2
    |some sz=>
     rw[hsz] at h2
     simp only at h2
     cases hsrc:srcCells H sz x with
     |none=>rw[hsrc] at h2;cases h2
     |some q=>
      obtain⟨n,l⟩:=q
      rw[hsrc] at h2
      simp only at h2
      obtain⟨l',hl,hll,hlen,hnew⟩:=src_sound (P:=P) hR hx hsrc
      have hszE:=hS e sz hsz
      cases base with
      |none=>
       obtain⟨h0,h3⟩:=cond_some h2
       rw[Bool.and_eq_true] at h0
       obtain rfl:=Nat.eq_of_beq_eq_true h0.1
       obtain rfl:=Nat.eq_of_beq_eq_true h0.2
       obtain rfl:=hs.inv_slice_none
       unfold appendNil at h3
       split at h3
       ·have hrun:=run_append_room (P:=P) (w:=w) (ty:=ty) (base:=none) (w':=w) hu hxt hd hsz (Nat.le_refl 0) hlen hnew rfl
        exact⟨_,H,.value (.slice none 0 0),w,μ,h3,run_v hrun,hR,Ext.refl _ _ _,.plain 4 rfl⟩
       ·rename_i m
        obtain⟨hg,h4⟩:=cond_some h3
        rw[forceLV_eq] at h4
        obtain⟨H',hc,hn,hg'⟩:=AHeap.newK_some h4
        obtain⟨newCap,rest,hcap,hrest,hrun⟩:=run_append_grow (P:=P) (w:=w) (ty:=ty) (base:=none) (sLen:=0) (sCap:=0) (n:=m+1) (old':=[]) hu hxt hd hsz
         (by rw[Nat.zero_add];exact hg) (by omega) hlen hnew (fun w1 _=>by simp[Builtin.firstCells])
        obtain⟨hrel,hext⟩:=(hR.drew (w.drawn+1)).new hn hg' (.cells (([]:List Value).toArray++l'.toArray++rest) e) newCap
         ⟨rfl,by simp[hl.length],fun k v hk=>by
           obtain⟨v',h5,h6⟩:=hl.at k v hk
           have hlt:k<l'.length:=(List.getElem?_eq_some_iff.1 h5).1
           refine⟨v',?_,h6.mono ((hR.drew (w.drawn+1)).mono_new _ _)⟩
           have hlt':k<(l'.toArray).size:=by simpa using hlt
           simp[Array.getElem?_append_left hlt',h5],fun _=>rfl,(fun _ h=>by cases h),fun _=>rfl⟩
         (by
           intro cs2 e2 ow he arr e' fz ho
           cases he
           cases ho
           have:(([]:List Value).toArray++l'.toArray++rest).size=newCap*sz:=by
            simp[hrest,←hl.length,hll]
            rw[←Nat.add_mul]
            congr 1
            omega
           rw[this,hszE]
           exact Nat.le_refl _)
        refine⟨_,H',.value (.slice (some ⟨w.heap.size,0,none⟩) (m+1) newCap),_,_,hc,?_,hrel,(Ext.drew H μ w _).trans hext,?_⟩
        ·rw[Nat.zero_add] at hrun
         exact run_v hrun
        ·exact VRel.slc (upd_same _ _ _ _) (by omega) fun _=>(upd_c _ _ _ _).symm
      |some a=>
       obtain⟨i,off,sp⟩:=a
       unfold appendAt at h2
       cases sp with
       |some _=>cases h2
       |none=>
       cases hg:H.get i with
       |none=>simp only[hg] at h2;cases h2
       |some xo=>
       cases xo with
       |cells cs e' ow app=>
        simp only[hg] at h2
        obtain⟨b,o,cap',hm,hcc,h0,rfl⟩:=hs.inv_slice
        cases hzero:(Nat.beq n 0&&Nat.ble len cap) with
        |true=>
         rw[hzero] at h2
         simp only[cond_true] at h2
         rw[Bool.and_eq_true] at hzero
         obtain rfl:=Nat.eq_of_beq_eq_true hzero.1
         have hle:=Nat.le_of_ble_eq_true hzero.2
         have hl0:l'=[]:=by
          have:l'.length=0:=by rw[←hl.length,hll];simp
          exact List.eq_nil_of_length_eq_zero this
         subst hl0
         have hr:=run_append_room (P:=P) (w:=w) (ty:=ty) (base:=some ⟨b,o+off,none⟩) (sLen:=len) (sCap:=cap') (w':=w) hu hxt hd hsz (by omega) hlen hnew rfl
         exact⟨_,H,.value (.slice (some ⟨b,o+off,none⟩) len cap'),w,μ,h2,run_v hr,hR,Ext.refl _ _ _,.slc hm hcc h0⟩
        |false=>
        rw[hzero] at h2
        simp only[cond_false] at h2
        cases hble:Nat.ble (len+n) cap with
        |true=>
         rw[hble] at h2
         have hle:=Nat.le_of_ble_eq_true hble
         simp only[cond_true,add_addr] at h2
         obtain⟨H',hc,w',hrun,hrel,hext⟩:=storeCells_sound (P:=P) hR hm hl h2
         have hr:=run_append_room (P:=P) (w:=w) (ty:=ty) (base:=some ⟨b,o+off,none⟩) (sLen:=len) (sCap:=cap') (w':=w') hu hxt hd hsz (by omega) hlen hnew
          (by simp only[add_addr];rw[Nat.add_assoc];exact hrun)
         exact⟨_,H',.value (.slice (some ⟨b,o+off,none⟩) (len+n) cap'),w',μ,hc,run_v hr,hrel,hext,.slc hm hcc h0⟩
        |false=>
         rw[hble] at h2
         obtain⟨hall,h3⟩:=cond_some h2
         simp only[Bool.and_eq_true] at hall
         obtain⟨⟨⟨⟨⟨rfl,hee⟩,hoff⟩,hfull⟩,hflat⟩,hgo⟩:=hall
         obtain rfl:=Nat.eq_of_beq_eq_true hee
         obtain rfl:off=0:=Nat.eq_of_beq_eq_true hoff
         have hfull':=Nat.eq_of_beq_eq_true hfull
         unfold appendGrow at h3
         rw[forceLV_eq] at h3
         obtain⟨H₁,h4,hn₁,hg₁⟩:=AHeap.setK_some h3
         obtain⟨H₂,hc,hn₂,hg₂⟩:=AHeap.newK_some h4
         obtain⟨arr,fz,hw⟩:=block_of hR hm hg
         obtain⟨_,hle,hv,hfz⟩:=whole_row hR hm hg hw
         obtain rfl:=hfz (by simp)
         have hcapi:=h0 rfl
         have hfits:=hR.cap i b o cs e ow hm hg arr e _ hw
         rw[←hcapi,hszE] at hfits
         by_cases hroom:len+n≤cap'
         ·
          have hbound:(len+n)*sz≤cap'*sz:=Nat.mul_le_mul_right _ hroom
          rw[Nat.add_mul] at hbound
          obtain⟨w',arr',hrun,st⟩:=run_storeCells (P:=P) (b:=b) (off:=o+len*sz) (e:=e) l' 0 w arr (by rw[hl.flat];exact hflat) hw (by rw[←hl.length,hll];omega)
          have hr:=run_append_room (P:=P) (w:=w) (ty:=ty) (base:=some ⟨b,o+0,none⟩) (sLen:=len) (sCap:=cap') (w':=w') hu hxt hd hsz hroom hlen hnew
           (by simp only[add_addr,Nat.add_zero];exact hrun)
          have hll':l'.length=n*sz:=by rw[←hl.length,hll]
          obtain⟨hrel,hext⟩:=hR.inplace (w':=w') (arr:=arr') hm hg hn₁ hg₁ hn₂ hg₂ st.size st.other st.at_
           (fun k hk arr₀ e₀ fz₀ hw₀=>by rw[hw] at hw₀;cases hw₀;exact st.out k (.inl (by omega)))
           (fun arr₀ e₀ fz₀ hw₀=>by rw[hw] at hw₀;cases hw₀;exact st.len.symm) rfl (by simp) (by rw[st.len];simp;omega)
           (fun k v hk=>by
             by_cases hk2:k<cs.length
             ·rw[List.getElem?_append_left hk2] at hk
              obtain⟨v',h5,h6⟩:=hv k v hk
              exact⟨v',by rw[st.out (o+k) (.inl (by omega))];exact h5,h6⟩
             ·rw[List.getElem?_append_right (by omega)] at hk
              obtain⟨v',h5,h6⟩:=hl.at (k-cs.length) v hk
              have hlt:k-cs.length<l'.length:=(List.getElem?_eq_some_iff.1 h5).1
              refine⟨v',?_,h6⟩
              have:=st.in_ (k-cs.length) hlt
              rw[show o+k=o+len*sz+0+(k-cs.length) from by omega,this]
              exact h5)
           st.tape st.os st.output
          refine⟨_,H₂,.value (.slice (some ⟨b,o+0,none⟩) (len+n) cap'),w',_,hc,run_v hr,hrel,hext,?_⟩
          rw[hn₁]
          exact VRel.slc (upd_same _ _ _ _) (by omega) fun _=>by rw[upd_c];exact hcapi
         ·
          have hcut:cut 0 (len*sz) cs=some cs:=by
           have:∀(l:List Value),takeN l.length l=some l:=by
            intro l
            induction l with
            |nil=>rfl
            |cons x xs ih=>simp[takeN,ih]
           rw[hfull']
           exact this cs
          obtain⟨old',hol,horel,hoat⟩:=rows_of hcut hv
          obtain⟨newCap,rest,hcap,hrest,hrun⟩:=run_append_grow (P:=P) (w:=w) (ty:=ty) (base:=some ⟨b,o+0,none⟩) (sLen:=len) (sCap:=cap') (n:=n) (old':=old') hu hxt hd hsz hgo (by omega) hlen hnew
           (fun w1 hw1=>by
             have:=run_loadCells (P:=P) (w:=w1) (b:=b) (off:=o+0) old' (fun k v hk=>by rw[cell_of (by rw[hw1];exact hw)];exact hoat k v hk)
             rw[hol] at this
             exact this)
          have hboth:=horel.append hl
          obtain⟨hrel,hext⟩:=(hR.drew (w.drawn+1)).grow (ob:=.cells (old'.toArray++l'.toArray++rest) e) hm hg hn₁ hg₁ hn₂ hg₂ newCap
           ⟨rfl,by simp[horel.length,hl.length],fun k v hk=>by
             obtain⟨v',h5,h6⟩:=hboth.at k v hk
             have hlt:k<(old'++l').length:=(List.getElem?_eq_some_iff.1 h5).1
             refine⟨v',?_,h6.mono ((hR.drew (w.drawn+1)).mono_new _ _)⟩
             have hlt':k<(old'.toArray++l'.toArray).size:=by simpa using hlt
             rw[Nat.zero_add,Array.getElem?_append_left hlt']
             simpa using h5,fun _=>rfl,(fun h=>by cases h),fun _=>rfl⟩
           (by
             intro arr2 e2 fz2 ho
             cases ho
             have:(old'.toArray++l'.toArray++rest).size=newCap*sz:=by
              simp[hrest,←hl.length,hll,hol]
              rw[←Nat.add_mul,←Nat.add_mul]
              congr 1
              omega
             rw[this,hszE]
             exact Nat.le_refl _)
          refine⟨_,H₂,.value (.slice (some ⟨w.heap.size,0,none⟩) (len+n) newCap),_,_,hc,run_v hrun,hrel,(Ext.drew H μ w _).trans hext,?_⟩
          rw[hn₁]
          exact VRel.slc (upd_same _ _ _ _) (by omega) fun _=>(upd_c _ _ _ _).symm
       |_=>simp only[hg] at h2;cases h2
   ·cases h2
 ·cases h
theorem copy_does{ts:Array TypeId}{ty:TypeId}{args args':List Value}(hR:Rel H μ w)(ha:LRel μ args args')
 (h:hCopy ts args P H c=some r):Does P H μ w (do pure (Next.value (←Builtin.copy_ ts ty args'.toArray))) c r:=by
 unfold hCopy at h
 split at h
 ·rename_i st s x ets
  cases ha with
  |cons hs ht=>
  cases ht with
  |cons hx ht2=>
  cases ht2
  rename_i s' x'
  unfold copyK at h
  split at h
  ·rename_i e a n k1 b2 m k2 hu
   cases hsz:size? P e with
   |none=>rw[hsz] at h;cases h
   |some sz=>
    rw[hsz] at h
    split at h
    ·rename_i sz' cs e1 hsp hcs
     cases e1
     obtain⟨bi,boff,bsp⟩:=b2
     simp only at hsp hcs h
     subst hsp
     obtain⟨bb,bo,bcap,hbm,_,_,rfl⟩:=hx.inv_slice
     cases hcut:cut boff (min m n*sz) cs with
     |none=>rw[hcut] at h;cases h
     |some l=>
      rw[hcut] at h
      simp only at h
      obtain⟨arr,e2,fz,hw,hle,hv⟩:=load_cells hR hbm hcs
      obtain⟨l',hl',hrel',hat⟩:=rows_of hcut hv
      obtain⟨ai,aoff,asp⟩:=a
      have hasp:asp=none:=by
       cases asp with
       |none=>rfl
       |some _=>cases h
      subst hasp
      obtain⟨ab,ao,acap,ham,_,_,rfl⟩:=hs.inv_slice
      obtain⟨H',hc,w',hrun,hrel,hext⟩:=storeCells_sound (P:=P) hR ham hrel' h
      refine⟨_,H',.value (goInt ((min m n:Nat):Int)),w',μ,hc,run_v ?_,hrel,hext,?_⟩
      case refine_2=>exact VRel.int .i64 _
      have hload:=run_loadCells (P:=P) (w:=w) (b:=bb) (off:=bo+boff) l' (fun k v hk=>by rw[cell_of hw];exact hat k v hk)
      rw[hl'] at hload
      unfold Builtin.copy_
      simp only[List.getElem?_toArray,ets,List.getElem?_cons_zero,List.getElem?_cons_succ,Sem.run_bind,run_und hu,Result.andThen_ok,Builtin.lenOf,pure,Sem.run,run_size hsz,Builtin.firstCells]
      rw[show Nat.min m n=min m n from rfl,hload]
      simp only[Result.andThen_ok,hrun]
    ·cases h
  ·cases h
 ·cases h
end
end
section
section
variable{P:Program}{μ:Mu}{H:AHeap}{w:World}{β:Type}{r:β}{c:ANext→AHeap→Option β}
theorem obj_loop{l b o:Nat}{r:ALoop}(hR:Rel H μ w)(hm:μ l=some (b,o))(hg:H.get l=some (.loop r)):
 ∃r':Loop,w.heap[b]? =some (.loop r')∧o=0∧r'.state=r.state∧r'.pending=r.pending∧r'.params=r.params∧r'.assign=r.assign∧r'.body=r.body∧
  μ r.defers=some (r'.defers,0)∧TRel μ r.tmps r'.tmps r.nt:=by
 obtain⟨x,hx,ho⟩:=hR.obj l b o hm
 rw[hg] at hx
 cases hx
 have hs:=ho.isSome
 revert ho hs
 cases hw:w.heap[b]? with
 |none=>intro _ h;cases h
 |some ob=>
  intro ho _
  cases ob with
  |loop r'=>exact⟨r',rfl,ho.1,ho.2.1,ho.2.2.1,ho.2.2.2.1,ho.2.2.2.2.1,ho.2.2.2.2.2.1,ho.2.2.2.2.2.2.1,ho.2.2.2.2.2.2.2⟩
  |_=>exact ho.elim
theorem callValue_does{f f':Value}{args args':List Value}(hR:Rel H μ w)(hf:VRel μ f f')(ha:LRel μ args args')(h:callValue P f args H c=some r):
 Does P H μ w (do let d←Deferred.ofValue f' args'.toArray;invoke d.target d.args) c r:=by
 unfold callValue at h
 split at h
 ·rename_i g first cap
  obtain⟨first',cap',rfl,hfi,hca⟩:=hf.inv_func (by simp)
  unfold callFn at h
  cases hfn:P.funcs[g]? with
  |none=>rw[hfn] at h;cases h
  |some fn=>
   rw[hfn] at h
   simp only at h
   obtain⟨hb,h2⟩:=cond_some h
   rw[Bool.and_eq_true] at hb
   refine⟨_,H,.enter g (first'++args'.toArray++cap'),w,μ,h2,?_,hR,Ext.refl _ _ _,rfl,?_⟩
   ·have hname:(fn.name== "runtime.NumGoroutine")=false:=by simpa using hb.2
    have hbody:fn.body.isNone=false:=by
     cases hbb:fn.body with
     |none=>rw[hbb] at hb;simp at hb
     |some _=>rfl
    simp only[Deferred.ofValue,Sem.run_bind,pure,Sem.run,Result.andThen_ok,invoke,callFunc,program,hfn,hname,hbody,Bool.false_eq_true,if_false]
   ·simp only[Array.toList_append]
    exact(hfi.append ha).append hca
 ·rename_i l a b
  obtain⟨l',hm,rfl⟩:=hf.inv_yield
  split at h
  ·rename_i lr hg
   obtain⟨hlen,h2⟩:=cond_some h
   have hlen':=Nat.eq_of_beq_eq_true hlen
   obtain⟨r',hw,_,_,_,hpar,_⟩:=obj_loop hR hm hg
   refine⟨_,H,.round l' r'.fn ((r'.params.zip args'.toArray).foldl (fun(tmps:Array Value)(p:Tmp×Value)=>tmps.setIfInBounds p.1 p.2) r'.tmps) r'.assign r'.body,w,μ,h2,?_,hR,Ext.refl _ _ _,?_⟩
   ·have hsz:¬(args'.toArray.size≠r'.params.size):=by
     rw[hpar]
     simp[←ha.length,hlen']
    simp only[Deferred.ofValue,Sem.run_bind,pure,Sem.run,Result.andThen_ok,invoke,Instr.yield,Instr.getLoop,run_getObj hw (by simp)]
    simp only[List.append_toArray,List.nil_append]
    rw[if_neg (by simpa using hsz)]
    rfl
   ·exact⟨lr,r',args',hm,hg,hw,hlen',ha,rfl,rfl,rfl,rfl⟩
  ·cases h
 ·cases h
theorem args_rel{ρ ρ':Env}{args:Array Operand}(h:∀x∈args.toList,VRel μ (ρ x) (ρ' x)):LRel μ (args.toList.map ρ) (args.toList.map ρ'):=LRel.map h
theorem map_toArray(args:Array Operand)(ρ:Env):args.map ρ=(args.toList.map ρ).toArray:=by cases args;simp
theorem heavy_sound{o:Oper}{ρ ρ':Env}(hS:∀e n,size? P e=some n→μ.sz e=n)(hR:Rel H μ w)(hρ:∀x∈o.op.operands.toList,VRel μ (ρ x) (ρ' x))
 (h:heavyOf o.op P ρ H c=some r):Does P H μ w (execOp ρ' o) c r:=by
 obtain⟨dst,op,type,pos,after,guard⟩:=o
 cases op<;>simp only[heavyOf] at h
 case alloc e=>exact alloc_does hR h
 case box e x=>exact box_does hR (hρ x (by simp[Op.operands])) h
 case store t a x=>exact store_does hR (hρ a (by simp[Op.operands])) (hρ x (by simp[Op.operands])) h
 case buildSlice t len parts=>exact buildSlice_does hS hR (fun p hp=>hρ p.2 (by simp[Op.operands];exact⟨p.1,by simpa using hp⟩)) h
 case makeSlice t l m=>exact makeSlice_does hS hR (hρ l (by simp[Op.operands])) (hρ m (by simp[Op.operands])) h
 case makeMap t x=>exact makeMap_does hR h
 case mapUpdate t m k x=>exact mapUpdate_does hR (hρ m (by simp[Op.operands])) (hρ k (by simp[Op.operands])) (hρ x (by simp[Op.operands])) h
 case insert t m k x=>exact insert_does hR (hρ m (by simp[Op.operands])) (hρ k (by simp[Op.operands])) (hρ x (by simp[Op.operands])) h
 case lookup t m k ok=>exact lookup_does hR (hρ m (by simp[Op.operands])) (hρ k (by simp[Op.operands])) h
 case range t x=>exact range_does hR (hρ x (by simp[Op.operands])) h
 case next it s=>exact next_does hR (hρ it (by simp[Op.operands])) h
 case entry it=>exact entry_does hR (hρ it (by simp[Op.operands])) h
 case call cl=>
  obtain⟨callee,args,ts⟩:=cl
  simp only[hCall] at h
  have hargs:∀x∈args.toList,VRel μ (ρ x) (ρ' x):=fun x hx=>hρ x (by simp[Op.operands,Call.operands];right;simpa using hx)
  cases callee with
  |value f=>
   have hf:=hρ f (by simp[Op.operands,Call.operands])
   have:=callValue_does (P:=P) hR hf (args_rel hargs) h
   simp only[execOp,resolve]
   rw[map_toArray]
   exact this
  |invoke rv m=>cases h
  |builtin b=>
   cases b<;>simp only[reduceCtorEq] at h
   case append=>
    have:=append_does (P:=P) (ty:=type) hS hR (args_rel hargs) h
    simp only[execOp,resolve]
    rw[map_toArray]
    exact this
   case copy=>
    have:=copy_does (P:=P) (ty:=type) hR (args_rel hargs) h
    simp only[execOp,resolve]
    rw[map_toArray]
    exact this
   case recover=>exact⟨_,H,.recover,w,μ,h,rfl,hR,Ext.refl _ _ _,trivial⟩
 case defer cl=>
  obtain⟨callee,args,ts⟩:=cl
  simp only[hDefer] at h
  have hargs:∀x∈args.toList,VRel μ (ρ x) (ρ' x):=fun x hx=>hρ x (by simp[Op.operands,Call.operands];right;simpa using hx)
  cases callee with
  |value f=>
   have hf:=hρ f (by simp[Op.operands,Call.operands])
   simp only at h
   split at h
   ·rename_i g first cap e
    rw[e] at hf
    obtain⟨first',cap',he,hfi,hca⟩:=hf.inv_func (by simp)
    refine⟨_,H,.defer {target:=.fn (.func g) cap',args:=first'++args.map ρ'},w,μ,h,?_,hR,Ext.refl _ _ _,?_,rfl,hca⟩
    ·simp[execOp,resolve,he,Deferred.ofValue]
    ·simp only[Array.toList_append,Array.toList_map]
     exact hfi.append (args_rel hargs)
   ·cases h
  |invoke rv m=>cases h
  |builtin b=>cases h
 all_goals cases h
end
end
section
structure St(gs:List Nat)(P:Program)(H:AHeap)(μ:Mu)(w:World):Prop where
 rel:Rel H μ w
 sz:∀e n,size? P e=some n→μ.sz e=n
 gl:∀g,gs.any (Nat.beq g)=true→μ g=some (g,0)
inductive DRels(μ:Mu):List Deferred→List Deferred→Prop
 |nil:DRels μ [] []
 |cons {d d':Deferred} {l l':List Deferred} (h:DRel μ d d') (t:DRels μ l l'):DRels μ (d::l) (d'::l')
section
variable{gs:List Nat}{P:Program}{μ μ':Mu}{H H':AHeap}{w w':World}
theorem St.ext(h:St gs P H μ w)(hr:Rel H' μ' w')(he:Ext H μ w H' μ' w'):St gs P H' μ' w':=
 ⟨hr,fun e n hn=>by rw[he.mu.sz];exact h.sz e n hn,fun g hg=>he.mu.f _ _ (h.gl g hg)⟩
theorem DRel.mono(hm:Mu.le μ μ'){d d':Deferred}(h:DRel μ d d'):DRel μ' d d':=by
 obtain⟨h1,h2⟩:=h
 refine⟨h1.mono hm,?_⟩
 obtain⟨t,a⟩:=d
 obtain⟨t',a'⟩:=d'
 simp only at h2⊢
 match t,t',h2 with
 | .fn (.func f) cap,.fn (.func f') cap',h2=>exact⟨h2.1,h2.2.mono hm⟩
 | .collected r,.collected r',h2=>exact hm.f _ _ h2
theorem DRels.mono(hm:Mu.le μ μ'){l l':List Deferred}(h:DRels μ l l'):DRels μ' l l':=by
 induction h with
 |nil=>exact .nil
 |cons h _ ih=>exact .cons (h.mono hm) ih
theorem DRels.append{a a' b b':List Deferred}(h:DRels μ a a')(k:DRels μ b b'):DRels μ (a++b) (a'++b'):=by
 induction h with
 |nil=>exact k
 |cons h _ ih=>exact .cons h ih
theorem env_rel(h:St gs P H μ w){T:Tr Value}{a:Act}{nt:Nat}(hT:TRel μ T a.tmps nt){x:Operand}(hx:operandOk gs x=true):VRel μ (evT T x) (a.eval x):=by
 cases x with
 |tmp t=>exact hT.2 t
 |const v=>exact .plain 4 hx
 |global g=>exact VRel.ptr (off:=0) (h.gl g hx)
 |func f=>exact .plain 2 rfl
theorem env_all(h:St gs P H μ w){T:Tr Value}{a:Act}{nt:Nat}(hT:TRel μ T a.tmps nt){o:Oper}(ho:o.op.operands.toList.all (operandOk gs)=true):
 ∀x∈o.op.operands.toList,VRel μ (evT T x) (a.eval x):=fun x hx=>env_rel h hT (List.all_eq_true.1 ho x hx)
theorem evTmp_set{T T':Tr Value}{d:Nat}{v:Value}(h:∀j,T'.get j=if j=d then some v else T.get j)(t:Nat):evTmp t T'=if t=d then v else evTmp t T:=by
 unfold evTmp
 rw[h]
 by_cases e:t=d
 ·rw[if_pos e,if_pos e]
 ·rw[if_neg e,if_neg e]
theorem TRel.set{T T':Tr Value}{tm:Array Value}{nt d:Nat}{v v':Value}(hT:TRel μ T tm nt)(hd:d<nt)(hv:VRel μ v v')
 (h:∀j,T'.get j=if j=d then some v else T.get j):TRel μ T' (tm.setIfInBounds d v') nt:=by
 refine⟨by simp[hT.1],fun t=> ?_⟩
 rw[evTmp_set h]
 have hsz:=hT.1
 by_cases e:t=d
 ·subst e
  rw[if_pos rfl]
  simp[Array.getD_eq_getD_getElem?,hsz,hd]
  exact hv
 ·rw[if_neg e]
  have:=hT.2 t
  simp only[Array.getD_eq_getD_getElem?] at this⊢
  rw[Array.getElem?_setIfInBounds_ne (Ne.symm e)]
  exact this
theorem putK_some{β:Type}{nt:Nat}{T:Tr Value}{dst:Option Tmp}{v v':Value}{c:Tr Value→Option β}{r:β}{a:Act}(hT:TRel μ T a.tmps nt)(hv:VRel μ v v')
 (h:putK nt T dst v c=some r):∃T',c T'=some r∧TRel μ T' (a.put dst v').tmps nt:=by
 cases dst with
 |none=>exact⟨T,h,hT⟩
 |some d=>
  obtain⟨h1,h2⟩:=cond_some h
  obtain⟨T',hc,hg⟩:=Tr.setK_some h2
  exact⟨T',hc,hT.set (Nat.le_of_ble_eq_true h1) hv hg⟩
theorem put_defers(a:Act)(dst:Option Tmp)(v:Value):(a.put dst v).defers=a.defers:=by cases dst<;>rfl
theorem VRel.to_bool{v:Value}{b:Bool}(h:VRel μ v (.bool b)):v= .bool b:=by cases h;rfl
theorem wanted_eq{T:Tr Value}{a:Act}{nt:Nat}{ops:Array Oper}{o:Oper}(hT:TRel μ T a.tmps nt):Region.wanted o (yielded ops a.tmps)=wantedA ops.toList o T:=by
 unfold Region.wanted wantedA
 cases hg:o.guard with
 |none=>rfl
 |some q=>
  obtain⟨j,want⟩:=q
  simp only[yielded,lget_eq]
  rw[show ops.toList[j]? =ops[j]? from by simp]
  cases hd:(ops[j]?).bind (·.dst) with
  |none=>simp
  |some d=>
   simp only[Option.bind_some]
   have hv:=hT.2 d
   simp only[Array.getD_eq_getD_getElem?,evTmp] at hv
   cases hget:a.tmps[d]? with
   |none=>
    rw[hget] at hv
    cases hTd:T.get d with
    |none=>rfl
    |some u=>
     rw[hTd] at hv
     simp at hv
     cases u<;>first|rfl|(have:=hv.inv_bool;simp[undef] at this)
   |some u'=>
    rw[hget] at hv
    simp at hv
    cases hTd:T.get d with
    |none=>
     rw[hTd] at hv
     simp at hv
     obtain⟨a',e,_⟩:=VRel.inv_tuple (show VRel μ (.tuple #[]) u' from hv)
     subst e
     rfl
    |some u=>
     rw[hTd] at hv
     simp at hv
     cases u' with
     |bool b=>
      obtain rfl:=hv.to_bool
      simp[guardSays]
     |_=>
      cases u<;>first|rfl|(have:=hv.inv_bool;simp at this)
end
end
section
def fence:Option Nat→Fence
 |none=>Fence.wide
 |some b=>Fence.wide.inRound b
def RdRel(μ:Mu):Option Nat→Option Nat→Prop
 |none,none=>True
 |some l,some b=>μ l=some (b,0)
 |_,_=>False
def XRel:XE→Exit→Prop
 | .normal,.normal=>True
 | .exit i,.exit j=>i=j
 | .ret,.ret=>True
 |_,_=>False
def CPost(gs:List Nat)(P:Program)(H:AHeap)(μ:Mu)(w:World)(nt:Nat)(e:XE)(T':Tr Value)(D':List Deferred)(H':AHeap):Exit→Act→World→Prop:=
 fun e' a' w'=>XRel e e'∧∃μ',St gs P H' μ' w'∧Ext H μ w H' μ' w'∧TRel μ' T' a'.tmps nt∧DRels μ' D' a'.defers
def CallPost(gs:List Nat)(P:Program)(H:AHeap)(μ:Mu)(w:World)(v:Value)(H':AHeap):Ending→World→Prop:=
 fun e w'=>∃v' μ',e= .returned v'∧VRel μ' v v'∧St gs P H' μ' w'∧Ext H μ w H' μ' w'
structure EvOk(gs:List Nat)(P:Program)(ev:Ev):Prop where
 code:∀cx c T D H e T' D' H',ev.code cx c T D H=some (e,T',D',H')→∀μ w a rb n,St gs P H μ w→TRel μ T a.tmps cx.nt→DRels μ D a.defers→RdRel μ cx.rd rb→
  c.wpIn (fence rb) n P (CPost gs P H μ w cx.nt e T' D' H') a w
 call:∀f args H v H',ev.call f args H=some (v,H')→∀μ w(args':Array Value) n,St gs P H μ w→LRel μ args args'.toList→
  CallsIn Fence.wide n P f args' w (CallPost gs P H μ w v H')
theorem fence_fn(rb:Option Nat)(f:FuncId):(fence rb).fn f:=by cases rb<;>trivial
theorem fence_depth(rb:Option Nat):(fence rb).depth=none:=by cases rb<;>rfl
theorem fence_round(rb:Option Nat):(fence rb).round=rb:=by cases rb<;>rfl
theorem callsIn_fence{rb:Option Nat}{n:Nat}{P:Program}{f:FuncId}{args:Array Value}{w:World}{R:Ending→World→Prop}(h:CallsIn Fence.wide n P f args w R):CallsIn (fence rb) n P f args w R:=by
 cases rb with
 |none=>exact h
 |some b=>exact h
theorem roundIn_fence{rb:Option Nat}{n:Nat}{P:Program}{l:Nat}{f:FuncId}{tmps:Array Value}{assign body:Code}{w:World}{R:Ending→World→Prop}
 (h:RoundIn Fence.wide n P l f tmps assign body w R):RoundIn (fence rb) n P l f tmps assign body w R:=by
 cases rb with
 |none=>exact h
 |some b=>exact h
section
variable{gs:List Nat}{P:Program}{ev:Ev}{μ:Mu}{H:AHeap}{w:World}
theorem putParams_some{ts:List Tmp}{vs vs':List Value}{T T':Tr Value}{tm:Array Value}{nt:Nat}(hT:TRel μ T tm nt)(hv:LRel μ vs vs')(h:putParams ts vs T nt=some T'):
 TRel μ T' ((ts.zip vs').foldl (fun(tmps:Array Value)(p:Tmp×Value)=>tmps.setIfInBounds p.1 p.2) tm) nt:=by
 induction ts generalizing vs vs' T tm with
 |nil=>
  cases vs with
  |nil=>
   cases hv
   simp[putParams] at h
   subst h
   exact hT
  |cons _ _=>cases h
 |cons t ts ih=>
  cases vs with
  |nil=>cases h
  |cons v vs=>
   cases hv with
   |cons hv ht=>
    rename_i v' vs'
    simp only[putParams] at h
    obtain⟨T1,h1,hT1⟩:=putK_some (a:={tmps:=tm,defers:=[]}) hT hv h
    simp only[List.zip_cons_cons,List.foldl_cons]
    exact ih hT1 ht h1
theorem Ext.get_loop{H':AHeap}{μ':Mu}{w':World}(he:Ext H μ w H' μ' w'){l b:Nat}(h:μ l=some (b,0)):μ' l=some (b,0):=he.mu.f _ _ h
theorem roundEnd_sound{l l':Nat}{e:XE}{e':Exit}{a:Act}{v:Value}{D':List Deferred}{H':AHeap}{R:Ending→World→Prop}(hst:St gs P H μ w)(hm:μ l=some (l',0))(hx:XRel e e')
 (h:roundEnd l e H=some (v,D',H'))(hR:∀w' v',VRel μ v v'→St gs P H' μ w'→Ext H μ w H' μ w'→R (.returned v') w'):D'=[]∧roundPost P l' R e' a w:=by
 unfold roundEnd at h
 split at h
 ·rename_i r hg
  obtain⟨r',hw,_,hs,hp,hpar,has,hbo,hdf,htm⟩:=obj_loop hst.rel hm hg
  have key:∀(st:LoopState)(pend:Option Code)(b:Bool),(H.setK l (.loop {r with state:=st,pending:=pend}) fun H=>some (Value.bool b,([]:List Deferred),H))=some (v,D',H')→
   (∀w1:World,(Instr.endRound l' pend).run P w= .ok (.bool b) w1→w1={w with heap:=w.heap.setIfInBounds l' (.loop {r' with state:=st,pending:=pend})}→True)→
   (Instr.endRound l' pend).run P w= .ok (.bool b) {w with heap:=w.heap.setIfInBounds l' (.loop {r' with state:=st,pending:=pend})}→
   D'=[]∧∃v' w1,(Instr.endRound l' pend).run P w= .ok v' w1∧R (.returned v') w1:=by
   intro st pend b hk _ hrun
   obtain⟨H1,hc,hn,hg1⟩:=AHeap.setK_some hk
   simp at hc
   obtain⟨rfl,rfl,rfl⟩:=hc
   obtain⟨hrel,hext⟩:=hst.rel.putObj (ob':=.loop {r' with state:=st,pending:=pend}) hm hg (by simp) (by simp) hn hg1 ⟨rfl,rfl,rfl,hpar,has,hbo,hdf,htm⟩
   exact⟨rfl,_,_,hrun,hR _ _ (.bool b) (hst.ext hrel hext) hext⟩
  have hset:∀(st:LoopState)(pend:Option Code),(setObj l' (.loop {r' with state:=st,pending:=pend})).run P w= .ok () {w with heap:=w.heap.setIfInBounds l' (.loop {r' with state:=st,pending:=pend})}:=
   fun st pend=>run_setObj hw (by simp)
  cases e with
  |normal=>
   cases e'<;>first|exact hx.elim|skip
   exact key .ready none true h (fun _ _ _=>trivial) (by simp[Instr.endRound,Instr.getLoop,run_getObj hw,hset])
  |exit id=>
   cases e'<;>first|exact hx.elim|skip
   rename_i id'
   obtain rfl:id=id':=hx
   exact key .done (some (.exit id)) false h (fun _ _ _=>trivial) (by simp[Instr.endRound,Instr.getLoop,run_getObj hw,hset])
  |ret=>
   cases e'<;>first|exact hx.elim|skip
   exact key .done (some .ret) false h (fun _ _ _=>trivial) (by simp[Instr.endRound,Instr.getLoop,run_getObj hw,hset])
 ·cases h
theorem isReady_eq{s:LoopState}(h:isReady s=true):s= .ready:=by cases s<;>first|rfl|cases h
theorem round_sound{l l':Nat}{args args':List Value}{r:ALoop}{r':Loop}{v:Value}{D':List Deferred}{H':AHeap}{n:Nat}(hev:EvOk gs P ev)(hst:St gs P H μ w)(hm:μ l=some (l',0))
 (hg:H.get l=some (.loop r))(hw:w.heap[l']? =some (.loop r'))(ha:LRel μ args args')(h:roundF ev l args H=some (v,D',H')):
 D'=[]∧RoundIn Fence.wide n P l' r'.fn ((r'.params.zip args'.toArray).foldl (fun(tmps:Array Value)(p:Tmp×Value)=>tmps.setIfInBounds p.1 p.2) r'.tmps) r'.assign r'.body w (CallPost gs P H μ w v H'):=by
 obtain⟨r'',hw',_,hs,hp,hpar,has,hbo,hdf,htm⟩:=obj_loop hst.rel hm hg
 rw[hw] at hw'
 cases hw'
 unfold roundF at h
 rw[hg] at h
 simp only at h
 cases hpp:putParams r.params.toList args r.tmps r.nt with
 |none=>rw[hpp] at h;cases h
 |some T=>
  rw[hpp] at h
  simp only at h
  split at h
  ·rename_i T1 H1 hcode
   have hT:TRel μ T ((r'.params.zip args'.toArray).foldl (fun(tmps:Array Value)(p:Tmp×Value)=>tmps.setIfInBounds p.1 p.2) r'.tmps) r.nt:=by
    have:=putParams_some htm ha hpp
    rw[←hpar] at this
    rw[←Array.foldl_toList]
    simpa [Array.toList_zip] using this
   have hD:D'=[]:=by
    unfold roundBegin at h
    split at h
    ·obtain⟨_,h⟩:=cond_some h
     obtain⟨H2,hc,_⟩:=AHeap.setK_some h
     unfold roundBody at hc
     split at hc
     ·unfold roundEnd at hc
      split at hc
      ·split at hc<;>(obtain⟨_,hc,_⟩:=AHeap.setK_some hc;simp at hc;exact hc.2.1)
      ·cases hc
     ·cases hc
    ·cases h
   refine⟨hD,?_⟩
   have hassign:=hev.code ⟨r.nt,some l⟩ r.assign T [] H .normal T1 [] H1 hcode μ w
    {tmps:=(r'.params.zip args'.toArray).foldl (fun(tmps:Array Value)(p:Tmp×Value)=>tmps.setIfInBounds p.1 p.2) r'.tmps,defers:=[]} (some l') n hst hT .nil hm
   refine roundIn_of_wpIn trivial ?_
   rw[has]
   refine wpIn_mono hassign ?_
   intro e1 a1 w1 hpost
   obtain⟨hx,μ1,hst1,hext1,hT1,hD1⟩:=hpost
   cases e1<;>first|exact hx.elim|skip
   have hm1:=hext1.get_loop hm
   unfold roundBegin at h
   split at h
   ·rename_i r1 hg1
    obtain⟨hready,h⟩:=cond_some h
    obtain⟨H2,hc,hn2,hg2⟩:=AHeap.setK_some h
    obtain⟨r1',hw1,_,hs1,hp1,hpar1,has1,hbo1,hdf1,htm1⟩:=obj_loop hst1.rel hm1 hg1
    obtain⟨hrel2,hext2⟩:=hst1.rel.putObj (ob':=.loop {r1' with state:=.busy}) hm1 hg1 (by simp) (by simp) hn2 hg2 ⟨rfl,rfl,hp1,hpar1,has1,hbo1,hdf1,htm1⟩
    have hst2:=hst1.ext hrel2 hext2
    refine⟨{w1 with heap:=w1.heap.setIfInBounds l' (.loop {r1' with state:=.busy})},?_,?_⟩
    ·have hstate:r1'.state= .ready:=by rw[hs1];exact isReady_eq hready
     have hset:=run_setObj (P:=P) (w:=w1) (ob':=.loop {r1' with state:=.busy}) hw1 (by simp)
     simp[Instr.beginRound,Instr.getLoop,run_getObj hw1,hset,hstate]
    ·unfold roundBody at hc
     split at hc
     ·rename_i e3 T3 H3 hcode3
      have hbody:=hev.code ⟨r.nt,some l⟩ r.body T1 [] H2 e3 T3 [] H3 hcode3 μ1 _ a1 (some l') n hst2 hT1 hD1 hm1
      rw[hbo]
      refine wpIn_mono hbody ?_
      intro e4 a4 w4 hpost4
      obtain⟨hx4,μ4,hst4,hext4,hT4,hD4⟩:=hpost4
      have hm4:=hext4.get_loop hm1
      exact(roundEnd_sound (a:=a4) hst4 hm4 hx4 hc (fun w5 v5 hv5 hst5 hext5=>⟨v5,μ4,rfl,hv5,hst5,((hext1.trans hext2).trans hext4).trans hext5⟩)).2
     ·cases hc
   ·cases h
  ·cases h
end
end
section
section
variable{gs:List Nat}{P:Program}{ev:Ev}{μ:Mu}{H:AHeap}{w:World}
theorem semAt_eq{rb:Option Nat}{ρ:Env}{o:Oper}(h:rb=none∨∀c,o.op≠.defer c):o.semAt rb ρ=execOp ρ o:=by
 unfold Oper.semAt
 cases rb with
 |none=>rfl
 |some l=>
  rcases h with h|h
  ·cases h
  ·obtain⟨dst,op,type,pos,after,guard⟩:=o
   cases op<;>first|rfl|exact absurd rfl (h _)
theorem retV_some{H':AHeap}{v u:Value}{D':List Deferred}(h:retV H u=some (v,D',H')):v=u∧D'=[]∧H'=H:=by
 unfold retV at h
 rw[forceV_eq] at h
 simp at h
 exact⟨h.1.symm,h.2.1,h.2.2.symm⟩
theorem step_sound{cx:Ctx}{o:Oper}{T:Tr Value}{v:Value}{D':List Deferred}{H':AHeap}{a:Act}{rb:Option Nat}{n:Nat}{K:Act→World→Prop}{Q:Exit→Act→World→Prop}
 (hev:EvOk gs P ev)(hst:St gs P H μ w)(hT:TRel μ T a.tmps cx.nt)(hrd:RdRel μ cx.rd rb)(hok:o.op.operands.toList.all (operandOk gs)=true)
 (h:stepOp P ev cx o T H=some (v,D',H'))
 (hK:∀μ' w' v' D'',St gs P H' μ' w'→Ext H μ w H' μ' w'→VRel μ' v v'→DRels μ' D' D''→K (({a with defers:=D''++a.defers}:Act).put o.dst v') w'):
 o.wpIn (fence rb) n P a w K Q:=by
 have hρ:=env_all hst hT hok
 refine⟨fun f _=>fence_fn rb f,?_⟩
 rw[fence_round]
 have hK0:∀w' v' μ',St gs P H' μ' w'→Ext H μ w H' μ' w'→VRel μ' v v'→D'=[]→K (a.put o.dst v') w':=by
  intro w' v' μ' h1 h2 h3 h4
  have:=hK μ' w' v' [] h1 h2 h3 (by rw[h4];exact .nil)
  simpa using this
 have main:heavyOf o.op P (evT T) H (nextF ev cx)=some (v,D',H')→o.semAt rb a.eval=execOp a.eval o→o.uponIn (fence rb) n P a K Q ((o.semAt rb a.eval).run P w):=by
  intro h hsem
  obtain⟨nx,H1,nx',w1,μ1,hc,hrun,hrel,hext,hnr⟩:=heavy_sound (P:=P) hst.sz hst.rel hρ h
  have hst1:=hst.ext hrel hext
  rw[hsem,hrun]
  cases nx with
  |value u=>
   cases nx'<;>first|exact hnr.elim|skip
   obtain⟨rfl,rfl,rfl⟩:=retV_some hc
   exact hK0 _ _ μ1 hst1 hext hnr rfl
  |skip=>
   cases nx'<;>first|exact hnr.elim|skip
   simp only[nextF] at hc
   simp at hc
   obtain⟨rfl,rfl,rfl⟩:=hc
   exact hK0 _ _ μ1 hst1 hext .undef rfl
  |defer d=>
   cases nx'<;>first|exact hnr.elim|skip
   rename_i d'
   simp only[nextF] at hc
   obtain⟨_,hc⟩:=cond_some hc
   simp at hc
   obtain⟨rfl,rfl,rfl⟩:=hc
   exact hK μ1 w1 undef [d'] hst1 hext .undef (.cons hnr .nil)
  |enter f args=>
   cases nx'<;>first|exact hnr.elim|skip
   rename_i f' args'
   obtain⟨rfl,hargs⟩:=hnr
   simp only[nextF,enterF] at hc
   cases hcall:ev.call f args H1 with
   |none=>rw[hcall] at hc;cases hc
   |some q=>
    obtain⟨u,H2⟩:=q
    rw[hcall] at hc
    obtain⟨rfl,rfl,rfl⟩:=retV_some hc
    refine⟨(fun hd=>by rw[fence_depth] at hd;cases hd),?_⟩
    refine(callsIn_fence (hev.call f args H1 v H' hcall μ1 w1 args' _ hst1 hargs)).mono ?_
    rintro e2 w2 ⟨v2,μ2,rfl,hv2,hst2,hext2⟩
    exact hK0 w2 v2 μ2 hst2 (hext.trans hext2) hv2 rfl
  |round l args=>
   cases nx'<;>first|exact hnr.elim|skip
   rename_i l' fn tmps assign body
   obtain⟨r,r',args',hm,hg,hw1,hlen,hargs,rfl,rfl,rfl,rfl⟩:=hnr
   simp only[nextF] at hc
   obtain⟨rfl,hround⟩:=round_sound (n:=n-1) hev hst1 hm hg hw1 hargs hc
   refine⟨(fun hd=>by rw[fence_depth] at hd;cases hd),?_⟩
   refine(roundIn_fence hround).mono ?_
   rintro e2 w2 ⟨v2,μ2,rfl,hv2,hst2,hext2⟩
   exact hK0 w2 v2 μ2 hst2 (hext.trans hext2) hv2 rfl
  |recover=>cases hc
 unfold stepOp at h
 have notDefer:∀{k:Kind},kindOf o.op o.type=k→(k≠.heavy)→∀c,o.op≠.defer c:=by
  intro k hk hne c e
  rw[e] at hk
  exact hne hk.symm
 cases hk:kindOf o.op o.type with
 |pure f=>
  rw[hk] at h
  simp only[retO] at h
  cases hf:f P (evT T) with
  |none=>rw[hf] at h;cases h
  |some u=>
   rw[hf] at h
   obtain⟨rfl,rfl,rfl⟩:=retV_some h
   obtain⟨v',hrun,hv⟩:=pure_sound hk hρ hf w
   rw[semAt_eq (.inr (notDefer hk (by simp))),hrun]
   exact hK0 w v' μ hst (Ext.refl _ _ _) hv rfl
 |load t x=>
  rw[hk] at h
  simp only[retO] at h
  cases hf:loadF P t (evT T x) H with
  |none=>rw[hf] at h;cases h
  |some u=>
   rw[hf] at h
   obtain⟨rfl,rfl,rfl⟩:=retV_some h
   have hop:o.op= .load t x:=by
    obtain⟨dst,op,type,pos,after,guard⟩:=o
    cases op<;>simp only[kindOf,reduceCtorEq,Kind.load.injEq] at hk
    ·obtain⟨rfl,rfl⟩:=hk;rfl
    ·rename_i cl
     obtain⟨callee,args,ts⟩:=cl
     cases callee with
     |builtin b=>cases b<;>simp[callKind,builtinKind] at hk
     |_=>simp[callKind] at hk
   obtain⟨v',hrun,hv⟩:=load_sound (P:=P) hst.rel (hρ x (by rw[hop];simp[Op.operands])) hf
   rw[semAt_eq (.inr (notDefer hk (by simp)))]
   have:(execOp a.eval o).run P w= .ok (.value v') w:=by
    unfold execOp
    rw[hop]
    exact run_v hrun
   rw[this]
   exact hK0 w v' μ hst (Ext.refl _ _ _) hv rfl
 |alloc e=>
  rw[hk] at h
  exact main h (semAt_eq (.inr (notDefer hk (by simp))))
 |heavy=>
  rw[hk] at h
  refine main h ?_
  apply semAt_eq
  cases hrb:rb with
  |none=>exact .inl rfl
  |some b=>
   right
   intro cl e
   rw[hrb] at hrd
   have hcx:cx.rd.isNone=false:=by
    cases hr:cx.rd with
    |none=>rw[hr] at hrd;exact hrd.elim
    |some _=>rfl
   rw[e] at h
   simp only[heavyOf,hDefer] at h
   split at h
   ·split at h
    ·simp only[nextF,hcx] at h
     cases h
    ·cases h
   ·cases h
theorem ops_sound{cx:Ctx}{ops:Array Oper}{rb:Option Nat}{n:Nat}{Q:Exit→Act→World→Prop}(hev:EvOk gs P ev)(hok:opsOk gs ops.toList=true):
 ∀(rest:List Oper)(k:Nat)(T:Tr Value)(D:List Deferred)(H:AHeap)(μ:Mu)(w:World)(a:Act)(T':Tr Value)(D':List Deferred)(H':AHeap),ops.toList.drop k=rest→
  St gs P H μ w→TRel μ T a.tmps cx.nt→DRels μ D a.defers→RdRel μ cx.rd rb→opsF P ev cx ops.toList rest T D H=some (T',D',H')→
  (∀μ' w' a',St gs P H' μ' w'→Ext H μ w H' μ' w'→TRel μ' T' a'.tmps cx.nt→DRels μ' D' a'.defers→Q .normal a' w')→
  wpOpsIn (fence rb) n P ops Q (List.range' k (ops.size-k)) a w:=by
 intro rest
 induction rest with
 |nil=>
  intro k T D H μ w a T' D' H' hd hst hT hD hrd h hQ
  have hlen:ops.size≤k:=by
   have:=congrArg List.length hd
   simp at this
   omega
  rw[show ops.size-k=0 from by omega]
  simp[opsF] at h
  obtain⟨rfl,rfl,rfl⟩:=h
  exact hQ μ w a hst (Ext.refl _ _ _) hT hD
 |cons o rest ih=>
  intro k T D H μ w a T' D' H' hd hst hT hD hrd h hQ
  have hk:ops.toList[k]? =some o:=by
   have:=congrArg (·[0]?) hd
   simpa using this
  have hk':ops[k]? =some o:=by simpa using hk
  have hlt:k<ops.size:=(Array.getElem?_eq_some_iff.1 hk').1
  have hd':ops.toList.drop (k+1)=rest:=by
   have:=congrArg List.tail hd
   simpa [List.tail_drop] using this
  rw[show ops.size-k=(ops.size-(k+1))+1 from by omega,List.range'_succ]
  simp only[wpOpsIn,hk']
  have hoko:o.op.operands.toList.all (operandOk gs)=true:=by
   unfold opsOk at hok
   exact List.all_eq_true.1 hok o (List.mem_of_getElem? hk)
  rw[wanted_eq hT]
  simp only[opsF] at h
  cases hw:wantedA ops.toList o T with
  |true=>
   rw[hw] at h
   simp only[cond_true,if_true] at h⊢
   cases hs:stepOp P ev cx o T H with
   |none=>rw[hs] at h;cases h
   |some q=>
    obtain⟨v,D1,H1⟩:=q
    rw[hs] at h
    simp only at h
    refine step_sound hev hst hT hrd hoko hs ?_
    intro μ' w' v' D'' hst' hext' hv' hD''
    obtain⟨T1,hc,hT1⟩:=putK_some (a:={a with defers:=D''++a.defers}) (hT.mono hext'.mu) hv' h
    have hrd':RdRel μ' cx.rd rb:=by
     revert hrd
     cases cx.rd<;>cases rb<;>intro hrd<;>first|exact hrd|exact hext'.mu.f _ _ hrd
    refine ih (k+1) T1 (D1++D) H1 μ' w' _ T' D' H' hd' hst' hT1 ?_ hrd' hc ?_
    ·rw[put_defers]
     exact hD''.append (hD.mono hext'.mu)
    ·intro μ2 w2 a2 h1 h2 h3 h4
     exact hQ μ2 w2 a2 h1 (hext'.trans h2) h3 h4
  |false=>
   rw[hw] at h
   simp only[cond_false,Bool.false_eq_true,if_false] at h⊢
   refine⟨fun f _=>fence_fn rb f,?_⟩
   obtain⟨T1,hc,hT1⟩:=putK_some (a:=a) hT .undef h
   exact ih (k+1) T1 D H μ w _ T' D' H' hd' hst hT1 (by rw[put_defers];exact hD) hrd hc hQ
end
end
end Go.Eng
