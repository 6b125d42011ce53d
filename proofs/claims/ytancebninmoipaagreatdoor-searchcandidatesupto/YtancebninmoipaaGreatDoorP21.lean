/- A part of the proof that SearchCandidates answers true for every input of bulk at most 1048576: conditions: the row's own. -/
import Derived.Test.YtancebninmoipaaGreatDoorP20
namespace Go.Eng
open Go
section
section
variable{P:Program}{μ:Mu}
theorem size_some{t:TypeId}{n:Nat}(h:size? P t=some n):∃i,P.info? t=some i∧i.size=n:=by
 unfold size? at h
 cases hi:P.info? t with
 |none=>rw[hi] at h;cases h
 |some i=>rw[hi] at h;simp at h;exact⟨i,rfl,h⟩
theorem prun_size{t:TypeId}{n:Nat}(h:size? P t=some n):prun P (sizeOf t)=some n:=by
 obtain⟨i,hi,rfl⟩:=size_some h
 simp[sizeOf,typeInfo,program,hi,Bind.bind,Sem.bind,prun,pure]
theorem run_size{t:TypeId}{n:Nat}(h:size? P t=some n)(w:World):(sizeOf t).run P w= .ok n w:=prun_run (prun_size h) w
theorem add_addr(b off n:Nat):(⟨b,off,none⟩:Addr).add n=⟨b,off+n,none⟩:=by
 unfold Addr.add
 split
 ·rename_i h;subst h;rfl
 ·rfl
theorem upTo_some{n i:Nat}{v:Value}(h:upTo n v=some i):∃k,v= .int k (i:Int)∧i≤n:=by
 unfold upTo at h
 split at h
 ·rename_i k j
  split at h
  ·rename_i hle
   simp at h
   subst h
   exact⟨k,rfl,hle⟩
  ·cases h
 ·cases h
theorem prun_bound{n i:Nat}{k:IntKind}(code:BoundsCode)(h:i≤n):prun P (Instr.sliceBound (.int k (i:Int)) n code)=some i:=by
 have h1:(0:Int)≤(i:Int)∧(i:Int)≤(n:Int):=by omega
 simp[Instr.sliceBound,asIntOf,prun_pure,h1]
theorem opt_rel{ρ ρ':Env}{x:Option Operand}(hp:optAll ρ x=true)(hx:∀y,x=some y→VRel μ (ρ y) (ρ' y)):x.map ρ'=x.map ρ:=by
 cases x with
 |none=>rfl
 |some y=>simp[plain4_eq (show plain4 (ρ y)=true from hp) (hx y rfl)]
theorem slice_gives{t:TypeId}{e:TypeId}{i off len cap:Nat}{sp:Option Nat}{lo hi:Option Value}{x' v:Value}(hu:P.underlying t=some (.slice e))
 (hx:VRel μ (.slice (some ⟨i,off,sp⟩) len cap) x')(h:sliceAt' P e ⟨i,off,sp⟩ len cap lo hi=some v):
 ∃v',prun P (Instr.sliceAt t x' lo hi none)=some v'∧VRel μ v v':=by
 unfold sliceAt' at h
 cases hh:sliceHigh len cap hi with
 |none=>rw[hh] at h;cases h
 |some hgh=>
  rw[hh] at h
  simp only at h
  cases hl:sliceLow hgh lo with
  |none=>rw[hl] at h;cases h
  |some l=>
   rw[hl] at h
   simp only at h
   cases hs:size? P e with
   |none=>rw[hs] at h;cases h
   |some s=>
    rw[hs] at h
    cases sp with
    |some _=>cases s<;>cases h
    |none=>
    cases s with
    |zero=>cases h
    |succ s=>
     simp only at h
     obtain⟨b,o,cap',hm,hc,h0,rfl⟩:=hx.inv_slice
     have hb:prun P (Instr.sliceBounds true len cap' lo hi none)=some (l,hgh,cap')∧hgh≤cap∧l≤hgh:=by
      have h1:(∃code,hi=none∧hgh=len∧len≤cap∧code=())∨∃k,hi=some (.int k (hgh:Int))∧hgh≤cap:=by
       unfold sliceHigh at hh
       cases hi with
       |none=>
        obtain⟨h1,h2⟩:=cond_some hh
        simp at h2
        exact .inl ⟨(),rfl,h2.symm,Nat.le_of_ble_eq_true h1,rfl⟩
       |some y=>obtain⟨k,rfl,hle⟩:=upTo_some hh;exact .inr ⟨k,rfl,hle⟩
      have h2:(lo=none∧l=0)∨∃k,lo=some (.int k (l:Int))∧l≤hgh:=by
       unfold sliceLow at hl
       cases lo with
       |none=>simp at hl;exact .inl ⟨rfl,hl.symm⟩
       |some y=>obtain⟨k,rfl,hle⟩:=upTo_some hl;exact .inr ⟨k,rfl,hle⟩
      unfold Instr.sliceBounds
      rcases h1 with⟨_,rfl,rfl,hle,_⟩|⟨k,rfl,hle⟩<;>rcases h2 with⟨rfl,rfl⟩|⟨k',rfl,hle'⟩
      ·exact⟨by simp[prun_pure],hle,Nat.zero_le _⟩
      ·exact⟨by simp[prun_map,prun_bound _ hle'],hle,hle'⟩
      ·exact⟨by simp[prun_map,prun_bound _ (Nat.le_trans hle hc)],hle,Nat.zero_le _⟩
      ·exact⟨by simp[prun_bind,prun_map,prun_bound _ (Nat.le_trans hle hc),prun_bound _ hle'],hle,hle'⟩
     obtain⟨hb1,hb2,hb3⟩:=hb
     have hrun:prun P (Instr.sliceAt t (.slice (some ⟨b,o+off,none⟩) len cap') lo hi none)=
      some (.slice (if cap'=l then some ⟨b,o+off,none⟩ else some ((⟨b,o+off,none⟩:Addr).add (l*(s+1)))) (hgh-l) (cap'-l)):=by
      simp[Instr.sliceAt,Instr.slice,prun_bind,prun_map,prun_und,hu,hb1,prun_size hs]
     refine⟨_,hrun,?_⟩
     split at h
     ·rename_i e
      subst e
      simp at h
      subst h
      rw[Nat.sub_self]
      split<;>exact .slc0
     ·rename_i hne
      simp at h
      subst h
      rw[if_neg (by omega),add_addr,add_addr,Nat.add_assoc]
      refine .slc hm (by omega) fun e=> ?_
      have hl0:l=0:=by
       have h1:l*(s+1)=0:=by omega
       rcases Nat.mul_eq_zero.1 h1 with h2|h2
       ·exact h2
       ·omega
      subst hl0
      rw[Nat.sub_zero]
      exact h0 (by omega)
theorem pslice_gives{t:TypeId}{x x' v:Value}{lo hi mx:Option Value}(hx:VRel μ x x')(h:pSlice' P t x lo hi mx=some v):
 ∃v',prun P (Instr.sliceAt t x' lo hi mx)=some v'∧VRel μ v v':=by
 have plainCase:plain4 x=true→ifPlain (prun P (Instr.sliceAt t x lo hi mx))=some v→∃v',prun P (Instr.sliceAt t x' lo hi mx)=some v'∧VRel μ v v':=by
  intro hp h
  rw[plain4_eq hp hx]
  obtain⟨h1,h2⟩:=ifPlain_some h
  exact⟨v,h1,.plain 4 h2⟩
 unfold pSlice' at h
 split at h
 ·rename_i a len cap
  obtain⟨i,off,sp⟩:=a
  cases hu:P.underlying t with
  |none=>rw[hu] at h;cases h
  |some d=>
   rw[hu] at h
   cases d with
   |slice e=>
    cases mx with
    |none=>exact slice_gives hu hx h
    |some _=>cases h
   |_=>cases h
 ·obtain⟨h1,h2⟩:=cond_some h
  exact plainCase h1 h2
theorem fieldAddr_gives'{s:TypeId}{fs:Array Field}{f:Nat}{a:Addr}{x' v:Value}(hu:P.underlying s=some (.struct fs))(hx:VRel μ (.pointer (some a)) x')
 (h:pFieldAddr' P fs[f]? a=some v):∃v',prun P (Instr.fieldAt s x' f)=some v'∧VRel μ v v':=by
 unfold pFieldAddr' at h
 cases hf:fs[f]? with
 |none=>rw[hf] at h;cases h
 |some fd=>
  rw[hf] at h
  simp only at h
  obtain⟨i,off,sp⟩:=a
  obtain⟨rfl,b,o,hm,rfl⟩:=hx.inv_ptr
  cases hs:size? P fd.type with
  |none=>rw[hs] at h;cases h
  |some n=>
   rw[hs] at h
   cases n with
   |zero=>cases h
   |succ n=>
    simp at h
    subst h
    refine⟨.pointer (some ((⟨b,o+off,none⟩:Addr).add fd.offset)),?_,?_⟩
    ·simp[Instr.fieldAt,prun_bind,prun_map,prun_und,hu,hf,Instr.sureAddr,prun_pure,fieldPlace,prun_size hs]
    ·rw[add_addr,add_addr,Nat.add_assoc]
     exact .ptr hm
theorem fieldAddr_gives{s:TypeId}{f:Nat}{x x' v:Value}(hx:VRel μ x x')(h:fldOf P s x f=some v):
 ∃v',prun P (Instr.fieldAt s x' f)=some v'∧VRel μ v v':=by
 unfold fldOf at h
 cases hu:P.underlying s with
 |none=>rw[hu] at h;cases h
 |some d=>
  rw[hu] at h
  cases d with
  |struct fs=>
   cases x with
   |pointer a=>
    cases a with
    |none=>cases h
    |some a=>exact fieldAddr_gives' hu hx h
   |_=>cases h
  |_=>cases h
theorem idx_some{e:TypeId}{a:Addr}{len:Nat}{i v:Value}(h:idxAddr P e a len i=some v):
 ∃k j s,i= .int k ((j:Nat):Int)∧j<len∧size? P e=some s∧a.spot=none∧v= .pointer (some (a.add (j*s))):=by
 unfold idxAddr at h
 split at h
 ·rename_i k j
  obtain⟨h1,h2⟩:=cond_some h
  split at h2
  ·rename_i s hs hsp
   simp at h2
   exact⟨k,j,s,rfl,Nat.le_of_ble_eq_true h1,hs,hsp,h2.symm⟩
  ·cases h2
 ·cases h
theorem indexAddr_gives{t:TypeId}{x x' i i' v:Value}(hx:VRel μ x x')(hi:VRel μ i i')
 (h:idxOf P t x i=some v):∃v',prun P (Instr.indexAt t x' i')=some v'∧VRel μ v v':=by
 unfold idxOf at h
 cases hu:P.underlying t with
 |none=>rw[hu] at h;cases h
 |some d=>
  rw[hu] at h
  cases d with
  |slice e=>
   cases x with
   |slice a len cap=>
    cases a with
    |none=>cases h
    |some a=>
     obtain⟨b,off,sp⟩:=a
     obtain⟨k,j,s,rfl,hj,hs,hsp,rfl⟩:=idx_some h
     obtain rfl:=hi.inv_int
     obtain rfl:sp=none:=hsp
     obtain⟨b',o,cap',hm,_,_,rfl⟩:=hx.inv_slice
     refine⟨.pointer (some ((⟨b',o+off,none⟩:Addr).add (j*s))),?_,?_⟩
     ·simp[Instr.indexAt,asIntOf,prun_bind,prun_map,prun_und,hu,prun_size hs,hj]
     ·rw[add_addr,add_addr,Nat.add_assoc]
      exact .ptr hm
   |_=>cases h
  |array len e=>
   cases x with
   |pointer a=>
    cases a with
    |none=>cases h
    |some a=>
     obtain⟨b,off,sp⟩:=a
     obtain⟨k,j,s,rfl,hj,hs,hsp,rfl⟩:=idx_some h
     obtain rfl:=hi.inv_int
     obtain⟨rfl,b',o,hm,rfl⟩:=hx.inv_ptr
     refine⟨.pointer (some ((⟨b',o+off,none⟩:Addr).add (j*s))),?_,?_⟩
     ·simp[Instr.indexAt,asIntOf,prun_bind,prun_map,prun_und,hu,prun_size hs,hj,Instr.sureAddr]
     ·rw[add_addr,add_addr,Nat.add_assoc]
      exact .ptr hm
   |_=>cases h
  |_=>cases h
theorem len_gives{ts:Array TypeId}{ty:TypeId}{x x' v:Value}(hx:VRel μ x x')(h:pLen' P ts ty x=some v):
 ∃v',prun P (Builtin.len_ ts ty #[x'])=some v'∧VRel μ v v':=by
 unfold pLen' at h
 split at h
 ·rename_i a n m
  obtain⟨a',m',rfl⟩:=hx.inv_slice_any
  split at h
  ·rename_i e hu
   simp at h
   subst h
   cases ht:ts[0]? with
   |none=>rw[ht] at hu;cases hu
   |some t=>
    rw[ht] at hu
    refine⟨_,?_,.int _ _⟩
    simp[Builtin.len_,ht,prun_bind,prun_und,show P.underlying t=_ from hu,prun_pure,goInt]
  ·cases h
 ·obtain⟨h1,h2⟩:=cond_some h
  rw[plain4_eq h1 hx]
  obtain⟨h3,h4⟩:=ifPlain_some h2
  exact⟨v,h3,.plain 4 h4⟩
theorem pure_sound{o:Oper}{f:PFn}{ρ ρ':Env}{v:Value}(hk:kindOf o.op o.type= .pure f)(hρ:∀x∈o.op.operands.toList,VRel μ (ρ x) (ρ' x))
 (hf:f P ρ=some v):Gives P μ (execOp ρ' o) v:=by
 have lift:∀{s:Sem Value},(∃v',prun P s=some v'∧VRel μ v v')→Gives P μ (do pure (Next.value (←s))) v:=
  fun ⟨v',h1,h2⟩ w=>⟨v',run_v (prun_run h1 w),h2⟩
 have same:∀{s s':Sem Value},ifPlain (prun P s)=some v→s'=s→∃v',prun P s'=some v'∧VRel μ v v':=by
  intro s s' h e
  obtain⟨h1,h2⟩:=ifPlain_some h
  exact⟨v,by rw[e];exact h1,.plain 4 h2⟩
 obtain⟨dst,op,type,pos,after,guard⟩:=o
 cases op<;>simp only[kindOf,reduceCtorEq,Kind.pure.injEq] at hk
 case move x=>
  subst hk
  simp[pMove] at hf
  subst hf
  exact fun w=>⟨_,rfl,hρ x (by simp[Op.operands])⟩
 case assign x=>
  subst hk
  simp[pMove] at hf
  subst hf
  exact fun w=>⟨_,rfl,hρ x (by simp[Op.operands])⟩
 case pick c a b=>
  subst hk
  have hc:=hρ c (by simp[Op.operands])
  have ha:=hρ a (by simp[Op.operands])
  have hb:=hρ b (by simp[Op.operands])
  simp only[pPick,pPick'] at hf
  intro w
  split at hf
  ·rename_i e
   rw[e] at hc
   simp at hf
   subst hf
   exact⟨ρ' a,by simp[execOp,hc.inv_bool,asBool],ha⟩
  ·rename_i e
   rw[e] at hc
   simp at hf
   subst hf
   exact⟨ρ' b,by simp[execOp,hc.inv_bool,asBool],hb⟩
  ·cases hf
 case build t parts=>
  subst hk
  obtain⟨h1,h2⟩:=cond_some hf
  refine lift ?_
  have e:∀g:Env,(parts.map fun(p:Nat×Operand)=>(p.1,g p.2))=(parts.toList.map fun p=>(p.1,g p.2)).toArray:=fun g=>by
   cases parts;simp
  have:=build_rel (P:=P) (μ:=μ) (t:=t) (ps:=parts.toList.map fun p=>(p.1,ρ p.2)) (ps':=parts.toList.map fun p=>(p.1,ρ' p.2)) (v:=v)
   (by simp) (by
     simp only[List.map_map]
     exact LRel.map fun p hp=>hρ p.2 (by simp[Op.operands];exact⟨p.1,by simpa using hp⟩)) h1 (by rw[←e];exact h2)
  rw[←e] at this
  exact this
 case nilCheck x=>
  subst hk
  have hx:=hρ x (by simp[Op.operands])
  simp only[pNilCheck,pNilCheck'] at hf
  intro w
  split at hf
  ·rename_i a e
   rw[e] at hx
   simp at hf
   subst hf
   obtain⟨i,off,sp⟩:=a
   obtain⟨rfl,b,o,hm,he⟩:=hx.inv_ptr
   exact⟨_,by simp only[execOp,he];rfl,.ptr hm⟩
  ·rename_i g a b e
   rw[e] at hx
   simp at hf
   subst hf
   obtain⟨a',c',he,h1,h2⟩:=hx.inv_func (by simp)
   rw[he] at hx
   exact⟨_,by simp only[execOp,he];rfl,hx⟩
  ·rename_i g a b e
   rw[e] at hx
   simp at hf
   subst hf
   obtain⟨b',hm,he⟩:=hx.inv_yield
   rw[he] at hx
   exact⟨_,by simp only[execOp,he];rfl,hx⟩
  ·cases hf
 case binOp op t x y t'=>
  subst hk
  exact valBin_gives (hρ x (by simp[Op.operands])) (hρ y (by simp[Op.operands])) hf
 case unOp op t x=>
  subst hk
  obtain⟨h1,h2⟩:=cond_some hf
  exact lift (same h2 (by rw[plain4_eq h1 (hρ x (by simp[Op.operands]))]))
 case convert s d x=>
  subst hk
  obtain⟨h1,h2⟩:=cond_some hf
  exact lift (same h2 (by rw[plain4_eq h1 (hρ x (by simp[Op.operands]))]))
 case makeInterface t x=>
  subst hk
  obtain⟨h1,h2⟩:=cond_some hf
  exact lift (same h2 (by rw[plain4_eq h1 (hρ x (by simp[Op.operands]))]))
 case makeFunc fn first cap=>
  subst hk
  unfold pMakeFunc at hf
  have hfn:∀l,fn≠.yield l:=by rintro l rfl;cases hf
  have hv:v= .func fn (first.map ρ) (cap.map ρ):=by
   cases fn<;>first|exact(by simpa using hf.symm)|exact absurd rfl (hfn _)
  subst hv
  refine fun w=>⟨.func fn (first.map ρ') (cap.map ρ'),rfl,?_⟩
  have h1:LRel μ (first.toList.map ρ) (first.toList.map ρ'):=LRel.map fun x hx=>hρ x (by simp[Op.operands];left;simpa using hx)
  have h2:LRel μ (cap.toList.map ρ) (cap.toList.map ρ'):=LRel.map fun x hx=>hρ x (by simp[Op.operands];right;simpa using hx)
  have e:∀(g:Env)(l:Array Operand),l.map g=⟨l.toList.map g⟩:=fun g l=>by cases l;simp
  rw[e ρ,e ρ,e ρ',e ρ']
  exact .func hfn h1 h2
 case slice t x lo hi mx=>
  subst hk
  obtain⟨h1,h2⟩:=cond_some hf
  simp only[Bool.and_eq_true] at h1
  refine lift ?_
  have hx:=hρ x (by simp[Op.operands])
  rw[opt_rel h1.1.1 (fun y hy=>hρ y (by simp[Op.operands,hy])),opt_rel h1.1.2 (fun y hy=>hρ y (by simp[Op.operands,hy])),opt_rel h1.2 (fun y hy=>hρ y (by simp[Op.operands,hy]))]
  exact pslice_gives hx h2
 case fieldAddr s x f=>
  subst hk
  exact lift (fieldAddr_gives (hρ x (by simp[Op.operands])) hf)
 case field t x f=>
  subst hk
  exact lift (field_rel (hρ x (by simp[Op.operands])) hf)
 case indexAddr t x i=>
  subst hk
  exact lift (indexAddr_gives (hρ x (by simp[Op.operands])) (hρ i (by simp[Op.operands])) hf)
 case index t x i=>
  subst hk
  obtain⟨h1,h2⟩:=cond_some hf
  rw[Bool.and_eq_true] at h1
  exact lift (same h2 (by rw[plain4_eq h1.1 (hρ x (by simp[Op.operands])),plain4_eq h1.2 (hρ i (by simp[Op.operands]))]))
 case typeAssert x t u ok=>
  subst hk
  obtain⟨h1,h2⟩:=cond_some hf
  exact lift (same h2 (by rw[plain4_eq h1 (hρ x (by simp[Op.operands]))]))
 case extract x i=>
  subst hk
  exact lift (extract_rel (hρ x (by simp[Op.operands])) hf)
 case call c=>
  obtain⟨callee,args,ts⟩:=c
  simp only[callKind] at hk
  cases callee with
  |value f=>cases hk
  |invoke r m=>cases hk
  |builtin b=>
   simp only[builtinKind] at hk
   have hargs:∀x∈args.toList,VRel μ (ρ x) (ρ' x):=fun x hx=>hρ x (by simp[Op.operands,Call.operands];simpa using hx)
   have eqargs:args.toList.all (fun x=>plain4 (ρ x))=true→args.map ρ'=args.map ρ:=by
    intro h
    apply Array.map_congr_left
    intro x hx
    exact plain4_eq (List.all_eq_true.1 h x (by simpa using hx)) (hargs x (by simpa using hx))
   have reduce:∀s:Sem Value,Gives P μ (do pure (Next.value (←s))) v→∀s',s'=s→Gives P μ (do pure (Next.value (←s'))) v:=fun s h s' e=>e▸h
   cases b<;>simp only[reduceCtorEq,Kind.pure.injEq] at hk
   case len=>
    subst hk
    simp only[pLen] at hf
    split at hf
    ·rename_i x e
     have e':args=#[x]:=by cases args;simp at e;simp[e]
     subst e'
     have hx:=hargs x (by simp)
     obtain⟨v',h1,h2⟩:=len_gives hx hf
     refine fun w=>⟨v',?_,h2⟩
     have:=run_v (prun_run h1 w)
     simpa [execOp,resolve,invoke,builtin] using this
    ·cases hf
   case max=>
    subst hk
    obtain⟨h1,h2⟩:=cond_some hf
    obtain⟨h3,h4⟩:=ifPlain_some h2
    refine fun w=>⟨v,?_,.plain 4 h4⟩
    have:=run_v (prun_run h3 w)
    rw[←eqargs h1] at this
    simpa [execOp,resolve,invoke,builtin] using this
   case min=>
    subst hk
    obtain⟨h1,h2⟩:=cond_some hf
    obtain⟨h3,h4⟩:=ifPlain_some h2
    refine fun w=>⟨v,?_,.plain 4 h4⟩
    have:=run_v (prun_run h3 w)
    rw[←eqargs h1] at this
    simpa [execOp,resolve,invoke,builtin] using this
end
end
section
section
variable{P:Program}{μ:Mu}{H:AHeap}{w:World}
theorem cell_of{b off:Nat}{arr:Array Value}{e:TypeId}{fz:Nat×Nat}(h:w.heap[b]? =some (.cells arr e fz)):w.cell? ⟨b,off,none⟩=arr[off]? :=by
 simp[World.cell?,h]
theorem run_loadCellsFrom{b off:Nat}:∀(vs:List Value)(i:Nat)(acc:Array Value),(∀(k:Nat)(v:Value),vs[k]? =some v→w.cell? ⟨b,off+i+k,none⟩=some v)→
 (loadCellsFrom ⟨b,off,none⟩ i vs.length acc).run P w= .ok (acc++vs.toArray) w:=by
 intro vs
 induction vs with
 |nil=>intro i acc _;simp[loadCellsFrom]
 |cons v vs ih=>
  intro i acc h
  have h0:=h 0 v (by simp)
  simp only[List.length_cons,loadCellsFrom]
  rw[Sem.run_bind]
  simp only[load,add_addr,Sem.run]
  rw[show off+i=off+i+0 from rfl,h0]
  simp only[Result.andThen_ok]
  rw[ih (i+1) (acc.push v) (fun k u hk=>by
   have:=h (k+1) u (by simpa using hk)
   rw[show off+(i+1)+k=off+i+(k+1) from by omega]
   exact this)]
  simp
theorem run_loadCells{b off:Nat}(vs:List Value)(h:∀(k:Nat)(v:Value),vs[k]? =some v→w.cell? ⟨b,off+k,none⟩=some v):
 (loadCells ⟨b,off,none⟩ vs.length).run P w= .ok vs.toArray w:=by
 have:=run_loadCellsFrom (P:=P) (w:=w) (b:=b) (off:=off) vs 0 #[] (fun k v hk=>by simpa using h k v hk)
 simpa [loadCells] using this
theorem isAgg_run{t:TypeId}{x:Bool}(h:isAgg? P t=some x)(w:World):(isAgg t).run P w= .ok x w:=by
 unfold isAgg? at h
 cases hu:P.underlying t with
 |none=>rw[hu] at h;cases h
 |some d=>
  rw[hu] at h
  simp at h
  subst h
  unfold isAgg
  rw[Sem.run_bind,run_und hu]
  cases d<;>rfl
theorem rows_of{o off n:Nat}{cs l:List Value}{arr:Array Value}(hcut:cut off n cs=some l)
 (hv:∀(k:Nat)(v:Value),cs[k]? =some v→∃v',arr[o+k]? =some v'∧VRel μ v v'):
 ∃l':List Value,l'.length=n∧LRel μ l l'∧∀(k:Nat)(v:Value),l'[k]? =some v→arr[o+off+k]? =some v:=by
 obtain⟨hle,_⟩:=cut_some hcut
 have hlen:=cut_len hcut
 have hsz:∀k,k<n→∃v',arr[o+(off+k)]? =some v':=fun k hk=>by
  obtain⟨v',h1,_⟩:=hv (off+k) cs[off+k] (by simp)
  exact⟨v',h1⟩
 let l':=(List.range n).map fun k=>(arr[o+(off+k)]?).getD undef
 have hl':∀(k:Nat),k<n→l'[k]? =arr[o+(off+k)]? :=by
  intro k hk
  obtain⟨v',h1⟩:=hsz k hk
  simp[l',hk,h1]
 refine⟨l',by simp[l'],LRel.of (by simp[l',hlen]) ?_,?_⟩
 ·intro k v v' hk hk'
  have hkn:k<n:=by
   have:=(List.getElem?_eq_some_iff.1 hk).1
   omega
  rw[cut_at hcut k hkn] at hk
  obtain⟨u,h1,h2⟩:=hv (off+k) v hk
  rw[hl' k hkn,h1] at hk'
  cases hk'
  exact h2
 ·intro k v hk
  have hkn:k<n:=by
   have:=(List.getElem?_eq_some_iff.1 hk).1
   simp[l'] at this
   exact this
  rw[hl' k hkn] at hk
  rw[Nat.add_assoc]
  exact hk
theorem load_cells{i:Nat}{cs:List Value}{b o:Nat}(hR:Rel H μ w)(hm:μ i=some (b,o))(h:loadCells? H i=some cs):
 ∃arr e fz,w.heap[b]? =some (.cells arr e fz)∧o+cs.length≤arr.size∧∀(k:Nat)(v:Value),cs[k]? =some v→∃v',arr[o+k]? =some v'∧VRel μ v v':=by
 unfold loadCells? at h
 obtain⟨x,hx,ho⟩:=hR.obj i b o hm
 rw[hx] at h
 cases x with
 |cells cs' e own app=>
  simp at h
  subst h
  have hs:=ho.isSome
  revert ho hs
  cases hw:w.heap[b]? with
  |none=>intro _ h;cases h
  |some ob=>
   intro ho _
   cases ob with
   |cells arr e' fz=>exact⟨arr,e',fz,rfl,ho.2.1,ho.2.2.1⟩
   |_=>exact ho.elim
 |_=>cases h
theorem load_sound{t:TypeId}{a a' v:Value}(hR:Rel H μ w)(ha:VRel μ a a')(h:loadF P t a H=some v):
 ∃v',(Instr.loadAt t a').run P w= .ok v' w∧VRel μ v v':=by
 unfold loadF at h
 split at h
 ·rename_i ad
  obtain⟨i,off,sp⟩:=ad
  obtain⟨rfl,b,o,hm,rfl⟩:=ha.inv_ptr
  simp only[loadA] at h
  cases hc:loadCells? H i with
  |none=>rw[hc] at h;cases h
  |some cs=>
   rw[hc] at h
   simp only[loadIn] at h
   obtain⟨arr,e,fz,hw,hle,hv⟩:=load_cells hR hm hc
   cases hag:isAgg? P t with
   |none=>rw[hag] at h;cases h
   |some ag=>
    rw[hag] at h
    cases ag with
    |true=>
     simp only[loadAgg] at h
     cases hs:size? P t with
     |none=>rw[hs] at h;cases h
     |some n=>
      rw[hs] at h
      simp only at h
      cases hcut:cut off n cs with
      |none=>rw[hcut] at h;cases h
      |some l=>
       rw[hcut] at h
       simp at h
       subst h
       obtain⟨l',hl',hrel,hat⟩:=rows_of hcut hv
       refine⟨.agg l'.toArray,?_,.agg hrel⟩
       have hrun:=run_loadCells (P:=P) (w:=w) (b:=b) (off:=o+off) l' (fun k v hk=>by rw[cell_of hw];exact hat k v hk)
       rw[hl'] at hrun
       unfold Instr.loadAt Instr.sureAddr loadVar
       simp only[Sem.run_bind,Sem.run,pure,Result.andThen_ok,isAgg_run hag,if_true,run_size hs,hrun]
    |false=>
     simp only[lget_eq] at h
     obtain⟨v',h1,h2⟩:=hv off v h
     refine⟨v',?_,h2⟩
     unfold Instr.loadAt Instr.sureAddr loadVar
     simp only[Sem.run_bind,pure,Sem.run,Result.andThen_ok,isAgg_run hag,Bool.false_eq_true,if_false,load,cell_of hw,h1]
 ·cases h
theorem setCell_at{b off:Nat}{arr:Array Value}{e:TypeId}{fz:Nat×Nat}(h:w.heap[b]? =some (.cells arr e fz))(v:Value):
 (w.setCell ⟨b,off,none⟩ v).heap[b]? =some (.cells (arr.setIfInBounds off v) e fz):=by
 simp[World.setCell,Array.getElem?_modify,h]
theorem setCell_other{b off c:Nat}(hc:c≠b)(v:Value):(w.setCell ⟨b,off,none⟩ v).heap[c]? =w.heap[c]? :=by
 simp[World.setCell,Array.getElem?_modify,Ne.symm hc]
theorem setCell_size{b off:Nat}(v:Value):(w.setCell ⟨b,off,none⟩ v).heap.size=w.heap.size:=by simp[World.setCell]
theorem run_store_flat{b off:Nat}{arr:Array Value}{e:TypeId}(h:w.heap[b]? =some (.cells arr e (0,0)))(hlt:off<arr.size){v:Value}(hf:flat v=true):
 (store ⟨b,off,none⟩ v).run P w= .ok () (w.setCell ⟨b,off,none⟩ v):=by
 have h1:w.cell? ⟨b,off,none⟩=some arr[off]:=by rw[cell_of h];simp[hlt]
 have h2:w.frozen? ⟨b,off,none⟩=false:=by simp[World.frozen?,h]
 cases v<;>first|(simp[store,Sem.run,h1,h2];done)|cases hf
structure Stored(w w':World)(b off:Nat)(vs:List Value)(arr arr':Array Value)(e:TypeId):Prop where
 size:w'.heap.size=w.heap.size
 other:∀c,c≠b→w'.heap[c]? =w.heap[c]?
 at_:w'.heap[b]? =some (.cells arr' e (0,0))
 len:arr'.size=arr.size
 in_:∀k,k<vs.length→arr'[off+k]? =vs[k]?
 out:∀k,k<off∨off+vs.length≤k→arr'[k]? =arr[k]?
 tape:w'.tape=w.tape
 os:w'.os=w.os
 output:w'.output=w.output
theorem run_storeCells{b off:Nat}{e:TypeId}:∀(vs:List Value)(i:Nat)(w:World)(arr:Array Value),vs.all flat=true→w.heap[b]? =some (.cells arr e (0,0))→
 off+i+vs.length≤arr.size→∃w' arr',(storeCells ⟨b,off,none⟩ vs i).run P w= .ok () w'∧Stored w w' b (off+i) vs arr arr' e:=by
 intro vs
 induction vs with
 |nil=>
  intro i w arr _ h _
  exact⟨w,arr,rfl,rfl,fun _ _=>rfl,h,rfl,fun k hk=>by simp at hk,fun _ _=>rfl,rfl,rfl,rfl⟩
 |cons v vs ih=>
  intro i w arr hf h hle
  simp only[List.all_cons,Bool.and_eq_true,List.length_cons] at hf hle
  have hs:=run_store_flat (P:=P) h (show off+i<arr.size by omega) hf.1
  obtain⟨w',arr',hr,st⟩:=ih (i+1) (w.setCell ⟨b,off+i,none⟩ v) (arr.setIfInBounds (off+i) v) hf.2 (setCell_at h v) (by simp;omega)
  refine⟨w',arr',?_,?_⟩
  ·simp only[storeCells,Sem.run_bind,add_addr,hs,Result.andThen_ok,hr]
  ·refine⟨st.size.trans (setCell_size v),fun c hc=>(st.other c hc).trans (setCell_other hc v),st.at_,by rw[st.len];simp,?_,?_,st.tape,st.os,st.output⟩
   ·intro k hk
    cases k with
    |zero=>
     rw[st.out (off+i+0) (.inl (by omega))]
     simp[show off+i<arr.size from by omega]
    |succ k=>
     have:=st.in_ k (by simpa using hk)
     rw[show off+i+(k+1)=off+(i+1)+k from by omega,this]
     simp
   ·intro k hk
    rw[st.out k (by simp at hk;omega),Array.getElem?_setIfInBounds_ne (by simp at hk;omega)]
theorem storeCells_sound{β:Type}{i off:Nat}{sp:Option Nat}{vs vs':List Value}{b o:Nat}{c:AHeap→Option β}{r:β}(hR:Rel H μ w)(hm:μ i=some (b,o))(hvs:LRel μ vs vs')
 (h:storeCellsK H ⟨i,off,sp⟩ vs c=some r):
 ∃H',c H'=some r∧∃w',(storeCells ⟨b,o+off,none⟩ vs').run P w= .ok () w'∧Rel H' μ w'∧Ext H μ w H' μ w':=by
 unfold storeCellsK at h
 split at h
 ·rename_i cs e app hsp hg
  simp only at hsp hg
  split at h
  ·rename_i hflat
   unfold storeIn at h
   cases hsl:splice off vs cs with
   |none=>rw[hsl] at h;cases h
   |some cs'=>
    rw[hsl] at h
    simp only[forceLV_eq] at h
    obtain⟨H',hc,hn,hget⟩:=AHeap.setK_some h
    refine⟨H',hc,?_⟩
    obtain⟨x,hx,ho⟩:=hR.obj i b o hm
    rw[hg] at hx
    cases hx
    have hs:=ho.isSome
    revert ho hs
    cases hw:w.heap[b]? with
    |none=>intro _ h;cases h
    |some ob=>
     intro ho _
     cases ob with
     |cells arr e' fz=>
      obtain⟨he,hle,hv,hfz⟩:=ho
      subst he
      obtain⟨hfz,hown,happ⟩:=hfz
      obtain rfl:=hfz rfl
      obtain⟨hfit,_⟩:=splice_some hsl
      have hl:=hvs.length
      obtain⟨w',arr',hr,st⟩:=run_storeCells (P:=P) (b:=b) (off:=o+off) (e:=e) vs' 0 w arr (by rw[hvs.flat];exact hflat) hw (by omega)
      refine⟨w',hr,?_⟩
      refine hR.put hm hg rfl (hR.own i b o cs e app hm hg) hn hget st.size st.other ?_ ?_ st.tape st.os st.output
      case refine_2=>
       intro cs2 e2 ow he arr2 e3 fz2 hw2
       cases he
       rw[st.at_] at hw2
       cases hw2
       rw[st.len]
       exact hR.cap i b o cs e true hm hg arr e _ hw
      rw[st.at_]
      refine⟨rfl,by rw[st.len,splice_len hsl];exact hle,fun k v hk=> ?_,fun _=>rfl,fun _ ha=>⟨(hown rfl ha).1,by rw[st.len,splice_len hsl];exact(hown rfl ha).2⟩,happ⟩
      by_cases hin:off≤k∧k<off+vs.length
      ·obtain⟨j,rfl⟩:∃j,k=off+j:=⟨k-off,by omega⟩
       rw[splice_in hsl j (by omega)] at hk
       obtain⟨v',h1,h2⟩:=hvs.at j v hk
       refine⟨v',?_,h2⟩
       have:=st.in_ j (by omega)
       rw[show o+(off+j)=o+off+0+j from by omega,this,h1]
      ·rw[splice_out hsl k (by omega)] at hk
       obtain⟨v',h1,h2⟩:=hv k v hk
       exact⟨v',by rw[st.out (o+k) (by omega),h1],h2⟩
     |_=>exact ho.elim
  ·cases h
 ·cases h
theorem newCells_sound{β:Type}{l l':List Value}{e:TypeId}{app:Bool}{mk:Nat→Value}{c:ANext→AHeap→Option β}{r:β}(hR:Rel H μ w)(hl:LRel μ l l')(cc:Nat)(hcap:app=true→cc*μ.sz e≤l'.length)
 (h:newCells l e app mk H c=some r):
 ∃H':AHeap,c (.value (mk H.next)) H'=some r∧(newRow e l'.toArray).run P w= .ok ⟨w.heap.size,0,none⟩ (wNew w (.cells l'.toArray e))∧
  Rel H' (upd μ H.next (w.heap.size,0) cc) (wNew w (.cells l'.toArray e))∧Ext H μ w H' (upd μ H.next (w.heap.size,0) cc) (wNew w (.cells l'.toArray e)):=by
 unfold newCells at h
 rw[forceLV_eq] at h
 obtain⟨_,h⟩:=cond_some h
 obtain⟨H',hc,hn,hg⟩:=AHeap.newK_some h
 refine⟨H',hc,by simp[newRow,newObj,Sem.run],?_⟩
 refine hR.new hn hg _ cc ⟨rfl,by simp[hl.length],fun k v hk=> ?_,fun _=>rfl,fun _ _=>⟨rfl,by simp[hl.length]⟩,fun _=>rfl⟩ ?_
 ·obtain⟨v',h1,h2⟩:=hl.at k v hk
  exact⟨v',by simpa using h1,h2.mono (hR.mono_new _ _)⟩
 ·intro cs2 e2 ow he arr e' fz ho
  cases he
  cases ho
  simpa using hcap rfl
end
end
section
def DRel(μ:Mu)(d d':Deferred):Prop:=
 LRel μ d.args.toList d'.args.toList∧
 match d.target,d'.target with
 | .fn (.func f) cap,.fn (.func f') cap'=>f=f'∧LRel μ cap.toList cap'.toList
 | .collected r,.collected r'=>μ r=some (r',0)
 |_,_=>False
def NRel(μ:Mu)(H:AHeap)(w:World):ANext→Next→Prop
 | .value v,.value v'=>VRel μ v v'
 | .skip,.skip=>True
 | .defer d,.defer d'=>DRel μ d d'
 | .enter f args,.enter f' args'=>f=f'∧LRel μ args args'.toList
 | .round l args,.round l' fn tmps assign body=>∃(r:ALoop)(r':Loop)(args':List Value),μ l=some (l',0)∧H.get l=some (.loop r)∧w.heap[l']? =some (.loop r')∧
    args.length=r.params.size∧LRel μ args args'∧fn=r'.fn∧
    tmps=(r'.params.zip args'.toArray).foldl (fun(tmps:Array Value)(p:Tmp×Value)=>tmps.setIfInBounds p.1 p.2) r'.tmps∧assign=r'.assign∧body=r'.body
 | .recover,.recover=>True
 |_,_=>False
def Does{β:Type}(P:Program)(H:AHeap)(μ:Mu)(w:World)(s:Sem Next)(c:ANext→AHeap→Option β)(r:β):Prop:=
 ∃n H' n' w' μ',c n H'=some r∧s.run P w= .ok n' w'∧Rel H' μ' w'∧Ext H μ w H' μ' w'∧NRel μ' H' w' n n'
section
variable{P:Program}{μ:Mu}{H:AHeap}{w:World}{β:Type}{r:β}{c:ANext→AHeap→Option β}
theorem zeroCells_some{t:TypeId}{z:List Value}(h:zeroCells? P t=some z):∃v i,P.info? t=some i∧i.zero=some v∧plainV 4 v=true∧z=v.cells.toList:=by
 unfold zeroCells? at h
 cases hz:zero? P t with
 |none=>rw[hz] at h;cases h
 |some v=>
  rw[hz] at h
  obtain⟨i,h1,h2,h3⟩:=zero_some hz
  exact⟨v,i,h1,h2,h3,by simpa using h.symm⟩
theorem alloc_does{e:TypeId}{ρ:Env}(hR:Rel H μ w)(h:hAlloc e P ρ H c=some r):
 Does P H μ w (do pure (Next.value (←Instr.alloc e true (.tuple #[])))) c r:=by
 unfold hAlloc at h
 cases hz:zeroCells? P e with
 |none=>rw[hz] at h;cases h
 |some z=>
  rw[hz] at h
  obtain⟨v,i,hi,hzz,hp,rfl⟩:=zeroCells_some hz
  obtain⟨H',hc,hrun,hrel,hext⟩:=newCells_sound (P:=P) hR (plain_cells hp) 0 (by simp) h
  refine⟨_,H',.value (.pointer (some ⟨w.heap.size,0,none⟩)),_,_,hc,?_,hrel,hext,?_⟩
  ·refine run_v ?_
   have hrun':(newRow e v.cells).run P w= .ok ⟨w.heap.size,0,none⟩ (wNew w (.cells v.cells e)):=by simpa using hrun
   unfold Instr.alloc newVar
   simp only[Sem.run_bind,run_zero hi hzz,Result.andThen_ok,hrun']
   rfl
  ·exact VRel.ptr (upd_same _ _ _ _)
theorem box_does{e:TypeId}{x:Operand}{ρ:Env}{x':Value}(hR:Rel H μ w)(hx:VRel μ (ρ x) x')(h:hBox e x P ρ H c=some r):
 Does P H μ w (do pure (Next.value (←Instr.box e x'))) c r:=by
 unfold hBox at h
 obtain⟨H',hc,hrun,hrel,hext⟩:=newCells_sound (P:=P) hR hx.cells 0 (by simp) h
 refine⟨_,H',.value (.pointer (some ⟨w.heap.size,0,none⟩)),_,_,hc,?_,hrel,hext,?_⟩
 ·refine run_v ?_
  have hrun':(newRow e x'.cells).run P w= .ok ⟨w.heap.size,0,none⟩ (wNew w (.cells x'.cells e)):=by simpa using hrun
  unfold Instr.box newVar
  simp only[Sem.run_bind,hrun',Result.andThen_ok]
  simp
 ·exact VRel.ptr (upd_same _ _ _ _)
theorem store_does{t:TypeId}{a x:Operand}{ρ:Env}{a' x':Value}(hR:Rel H μ w)(ha:VRel μ (ρ a) a')(hx:VRel μ (ρ x) x')(h:hStore t a x P ρ H c=some r):
 Does P H μ w (do Instr.storeAt t a' x';pure .skip) c r:=by
 unfold hStore at h
 split at h
 ·rename_i ad n he hs
  rw[he] at ha
  obtain⟨i,off,sp⟩:=ad
  obtain⟨rfl,b,o,hm,rfl⟩:=ha.inv_ptr
  obtain⟨h1,h2⟩:=cond_some h
  obtain⟨H',hc,w',hrun,hrel,hext⟩:=storeCells_sound (P:=P) hR hm hx.cells h2
  refine⟨_,H',.skip,w',μ,hc,?_,hrel,hext,trivial⟩
  have hlen:x'.cells.size=n:=by
   have:=hx.cells.length
   have h1':=Nat.eq_of_beq_eq_true h1
   simp at this h1'
   omega
  unfold Instr.storeAt Instr.sureAddr storeVar
  simp only[Sem.run_bind,pure,Sem.run,Result.andThen_ok,run_size hs,hlen,ne_eq,not_true_eq_false,if_false,hrun]
 ·cases h
theorem zeros_eq{z:Array Value}{n s:Nat}(hs:z.size=s):((Array.range (n*s)).map fun i=>z[i%z.size]!)=(repl z.toList n).toArray:=by
 apply Array.ext_getElem?
 intro k
 by_cases hk:k<n*s
 ·have h1:0<s:=by
   rcases Nat.eq_zero_or_pos s with h|h
   ·subst h;simp at hk
   ·exact h
  have hm:k%z.size<z.size:=Nat.mod_lt _ (by omega)
  have h2:=repl_at z.toList n k (by simpa [hs] using hk)
  simp at h2
  simp[hk,h2,hm]
 ·have h2:(repl z.toList n).length≤k:=by rw[repl_len];simp[hs];omega
  simp[hk,List.getElem?_eq_none_iff.2 h2]
theorem fill_len{place:Nat→Option (Nat×Nat)}:∀{ps:List (Nat×Value)}{cs r:Array Value},Instr.fill place cs ps=some r→r.toList.length=cs.toList.length:=by
 intro ps
 induction ps with
 |nil=>intro cs r h;simp[Instr.fill] at h;subst h;rfl
 |cons p ps ih=>
  intro cs r h
  obtain⟨i,v⟩:=p
  simp only[Instr.fill] at h
  cases hp:place i with
  |none=>rw[hp] at h;cases h
  |some q=>
   obtain⟨off,size⟩:=q
   rw[hp] at h
   simp only at h
   split at h
   ·cases h
   ·rw[ih h]
    have key:∀(l:List (Value×Nat))(cs:Array Value),(l.foldl (fun(cs:Array Value)(p:Value×Nat)=>cs.setIfInBounds (off+p.2) p.1) cs).size=cs.size:=by
     intro l
     induction l with
     |nil=>intro cs;rfl
     |cons x xs ihx=>intro cs;rw[List.foldl_cons,ihx];simp
    rw[←Array.foldl_toList]
    simpa using key v.cells.zipIdx.toList cs
theorem repl_rel{z:List Value}(h:LRel μ z z)(n:Nat):LRel μ (repl z n) (repl z n):=by
 induction n with
 |zero=>exact .nil
 |succ n ih=>exact h.append ih
theorem buildSlice_does{t:TypeId}{len:Nat}{parts:Array (Nat×Operand)}{ρ ρ':Env}(hS:∀e n,size? P e=some n→μ.sz e=n)(hR:Rel H μ w)(hp:∀p∈parts.toList,VRel μ (ρ p.2) (ρ' p.2))
 (h:hBuildSlice t len parts P ρ H c=some r):Does P H μ w (do pure (Next.value (←Instr.buildSlice t len (parts.map fun p=>(p.1,ρ' p.2))))) c r:=by
 unfold hBuildSlice at h
 cases hu:P.underlying t with
 |none=>rw[hu] at h;cases h
 |some d=>
  rw[hu] at h
  cases d with
  |slice e=>
   simp only at h
   cases hs:size? P e with
   |none=>rw[hs] at h;cases h
   |some s=>
    rw[hs] at h
    cases hz:zeroCells? P e with
    |none=>rw[hz] at h;cases h
    |some z=>
     rw[hz] at h
     simp only at h
     split at h
     ·rename_i hcond
      obtain⟨v,i,hi,hzz,hpl,rfl⟩:=zeroCells_some hz
      cases hf:Instr.fill (fun i=>some (i*s,s)) ⟨repl v.cells.toList len⟩ (parts.toList.map fun p=>(p.1,ρ p.2)) with
      |none=>
       have hf':Instr.fill (fun i=>some (i*s,s)) ⟨repl v.cells.toList len⟩ (parts.toList.map fun(i,x)=>(i,ρ x))=none:=hf
       rw[hf'] at h;cases h
      |some cells=>
       have hf':Instr.fill (fun i=>some (i*s,s)) ⟨repl v.cells.toList len⟩ (parts.toList.map fun(i,x)=>(i,ρ x))=some cells:=hf
       rw[hf'] at h
       simp only at h
       obtain⟨cells',hfc,hl⟩:=fill_rel (μ:=μ) (fun i=>some (i*s,s)) (ps:=parts.toList.map fun p=>(p.1,ρ p.2)) (ps':=parts.toList.map fun p=>(p.1,ρ' p.2))
        (cs:=⟨repl v.cells.toList len⟩) (cs':=⟨repl v.cells.toList len⟩) (by simp) (by simp only[List.map_map];exact LRel.map fun p hp'=>hp p hp') (repl_rel (plain_cells hpl) len) hf
       have hsz:v.cells.size=s:=by simpa using hcond.2
       obtain⟨H',hc,hrun,hrel,hext⟩:=newCells_sound (P:=P) hR hl len (fun _=>by
        rw[hS e s hs,←hl.length,fill_len hf]
        simp[repl_len,hsz]) h
       refine⟨_,H',.value (.slice (some ⟨w.heap.size,0,none⟩) len len),_,_,hc,?_,hrel,hext,VRel.slc (upd_same _ _ _ _) (Nat.le_refl _) fun _=>(upd_c _ _ _ _).symm⟩
       refine run_v ?_
       have hrun':(newRow e cells').run P w= .ok ⟨w.heap.size,0,none⟩ (wNew w (.cells cells' e)):=by simpa using hrun
       unfold Instr.buildSlice
       simp only[Sem.run_bind,run_und hu,Result.andThen_ok,run_size hs,if_neg (Nat.not_lt.2 hcond.1)]
       have hparts:(parts.map fun p=>(p.1,ρ' p.2)).toList=parts.toList.map fun p=>(p.1,ρ' p.2):=by cases parts;simp
       rw[hparts]
       by_cases h0:len*s=0
       ·have hrl:repl v.cells.toList len=[]:=by
         apply List.eq_nil_of_length_eq_zero
         rw[repl_len];simpa [hsz] using h0
        have hrow:((Array.range (len*s)).map fun x=>(#[]:Array Value)[x%(#[]:Array Value).size]!)=⟨repl v.cells.toList len⟩:=by rw[h0,hrl];simp
        rw[if_pos h0]
        simp only[Sem.run_bind,pure,Sem.run,Result.andThen_ok]
        rw[hrow,hfc]
        simp only[Sem.run_bind,Sem.run,Result.andThen_ok,hrun']
       ·rw[if_neg h0]
        simp only[Sem.run_bind,pure,Sem.run,Result.andThen_ok,run_zero hi hzz]
        rw[zeros_eq hsz]
        have hfc':Instr.fill (fun i=>some (i*s,s)) (repl v.cells.toList len).toArray (parts.toList.map fun p=>(p.1,ρ' p.2))=some cells':=hfc
        rw[hfc']
        simp only[Sem.run_bind,Sem.run,Result.andThen_ok,hrun']
     ·cases h
  |_=>cases h
theorem wrap_small{n:Nat}(h:n≤2^40):IntKind.i64.wrap (n:Int)=n:=by
 have h1:((n:Int))%(2^64:Int)=n:=by omega
 unfold IntKind.wrap
 simp only[IntKind.bits,IntKind.signed,h1]
 rw[if_neg]
 simp
 omega
theorem makeSlice_does{t:TypeId}{l m:Operand}{ρ:Env}{l' m':Value}(hS:∀e n,size? P e=some n→μ.sz e=n)(hR:Rel H μ w)(hl:VRel μ (ρ l) l')(hm:VRel μ (ρ m) m')(h:hMakeSlice t l m P ρ H c=some r):
 Does P H μ w (do pure (Next.value (←Instr.makeSlice t l' m'))) c r:=by
 unfold hMakeSlice at h
 cases hu:P.underlying t with
 |none=>rw[hu] at h;cases h
 |some d=>
  rw[hu] at h
  cases d with
  |slice e=>
   split at h
   ·rename_i k1 ln k2 mn e0 e1 e2
    cases e0
    rw[e1] at hl
    rw[e2] at hm
    obtain rfl:=hl.inv_int
    obtain rfl:=hm.inv_int
    cases hs:size? P e with
    |none=>rw[hs] at h;cases h
    |some s=>
     rw[hs] at h
     cases hz:zeroCells? P e with
     |none=>rw[hz] at h;cases h
     |some z=>
      rw[hz] at h
      simp only at h
      split at h
      ·rename_i hcond
       obtain⟨v,i,hi,hzz,hpl,rfl⟩:=zeroCells_some hz
       obtain⟨hlm,hmm,hzl,hby⟩:=hcond
       rw[hi] at hby
       simp only[Option.map_some,Option.any_some,decide_eq_true_eq] at hby
       have hsz:v.cells.size=s:=by simpa using hzl
       obtain⟨H',hc,hrun,hrel,hext⟩:=newCells_sound (P:=P) hR (repl_rel (plain_cells hpl) mn) mn (fun _=>by
        rw[hS e s hs,repl_len]
        simp[hsz]) h
       refine⟨_,H',.value (.slice (some ⟨w.heap.size,0,none⟩) ln mn),_,_,hc,?_,hrel,hext,VRel.slc (upd_same _ _ _ _) (Nat.le_refl _) fun _=>(upd_c _ _ _ _).symm⟩
       refine run_v ?_
       have hw1:IntKind.i64.wrap (Int.ofNat ln)=(ln:Int):=wrap_small (by omega)
       have hw2:IntKind.i64.wrap (Int.ofNat mn)=(mn:Int):=wrap_small (by omega)
       have hb:i.bytes*mn≤2^20*2^20:=Nat.mul_le_mul hby hmm
       have hb':((i.bytes:Int)*(mn:Int))≤2^40:=by
        have:((i.bytes*mn:Nat):Int)≤((2^40:Nat):Int):=by exact_mod_cast hb
        simpa using this
       have hroom:(askRoom (mn*i.bytes)).run P w= .ok () w:=by
        unfold askRoom
        split<;>rfl
       have ht1:(decide ((mn:Int)<0)||decide ((i.bytes:Int)*(mn:Int)>2^48))=false:=by
        simp only[Bool.or_eq_false_iff,decide_eq_false_iff_not]
        constructor<;>omega
       have hti:(typeInfo e).run P w= .ok i w:=by simp[typeInfo,program,hi,Sem.run]
       unfold Instr.makeSlice
       simp only[Sem.run_bind,run_und hu,Result.andThen_ok,asInt,asIntOf,pure,Sem.run,hti,hw1,hw2,ht1]
       have hcnd:(false||decide ((ln:Int)<0)||decide ((ln:Int)>(mn:Int)))=false:=by
        simp only[Bool.or_eq_false_iff,decide_eq_false_iff_not]
        refine⟨⟨trivial,?_⟩,?_⟩<;>omega
       simp only[hcnd,Bool.false_eq_true,if_false,Sem.run_bind,Result.andThen_ok,run_size hs,Int.toNat_natCast,hroom]
       by_cases h0:mn*s=0
       ·have hrl:repl v.cells.toList mn=[]:=by
         apply List.eq_nil_of_length_eq_zero
         rw[repl_len];simpa [hsz] using h0
        have hrow:((Array.range (mn*s)).map fun x=>(#[]:Array Value)[x%(#[]:Array Value).size]!)=(repl v.cells.toList mn).toArray:=by rw[h0,hrl];simp
        rw[if_pos h0]
        simp only[Sem.run_bind,Sem.run,Result.andThen_ok]
        rw[hrow]
        simp only[hrun,Result.andThen_ok]
       ·rw[if_neg h0]
        simp only[Sem.run_bind,Sem.run,Result.andThen_ok,run_zero hi hzz]
        rw[zeros_eq hsz]
        simp only[hrun,Result.andThen_ok]
      ·cases h
   ·cases h
  |_=>cases h
end
end
section
section
variable{P:Program}{μ:Mu}{H:AHeap}{w:World}{β:Type}{r:β}{c:ANext→AHeap→Option β}
theorem makeMap_does{t:TypeId}{x:Option Operand}{ρ ρ':Env}(hR:Rel H μ w)(h:hMakeMap t x P ρ H c=some r):
 Does P H μ w (do pure (Next.value (←Instr.makeMap t (x.map ρ')))) c r:=by
 unfold hMakeMap at h
 split at h
 ·rename_i kt et hu
  split at h
  ·obtain⟨H',hc,hn,hg⟩:=AHeap.newK_some h
   obtain⟨hrel,hext⟩:=hR.new hn hg (.map #[] 0) 0 ⟨rfl,rfl,rfl⟩ (by simp)
   refine⟨_,H',.value (.map (some w.heap.size)),_,_,hc,?_,hrel,hext,VRel.map (upd_same _ _ _ _)⟩
   simp[Instr.makeMap,newObj,Sem.run]
  ·obtain⟨H',hc,hn,hg⟩:=AHeap.newK_some h
   obtain⟨hrel,hext⟩:=hR.new hn hg (.map #[] 0) 0 ⟨rfl,.inl ⟨rfl,rfl,rfl⟩⟩ (by simp)
   refine⟨_,H',.value (.map (some w.heap.size)),_,_,hc,?_,hrel,hext,VRel.map (upd_same _ _ _ _)⟩
   simp[Instr.makeMap,newObj,Sem.run]
 ·cases h
theorem obj_map{i b o:Nat}{es:List (Value×Value)}(hR:Rel H μ w)(hm:μ i=some (b,o))(hg:H.get i=some (.map es)):
 ∃arr clock,w.heap[b]? =some (.map arr clock)∧((es=[]∧arr=#[]∧clock=0)∨∃s v,es=[(.string s,v)]∧plain4 v=true∧arr=#[⟨.string s,v,0⟩]∧clock=1):=by
 obtain⟨x,hx,ho⟩:=hR.obj i b o hm
 rw[hg] at hx
 cases hx
 have hs:=ho.isSome
 revert ho hs
 cases hw:w.heap[b]? with
 |none=>intro _ h;cases h
 |some ob=>
  intro ho _
  cases ob with
  |map arr clock=>exact⟨arr,clock,rfl,ho.2⟩
  |_=>exact ho.elim
theorem run_setObj{b:Nat}{ob ob':Obj}(h:w.heap[b]? =some ob)(hc:∀cs e f,ob≠.cells cs e f):
 (setObj b ob').run P w= .ok () {w with heap:=w.heap.setIfInBounds b ob'}:=by
 cases ob with
 |cells cs e f=>exact absurd rfl (hc cs e f)
 |_=>simp[setObj,Sem.run,h]
theorem run_getObj{b:Nat}{ob:Obj}(h:w.heap[b]? =some ob)(hc:∀cs e f,ob≠.cells cs e f):(getObj b).run P w= .ok ob w:=by
 cases ob with
 |cells cs e f=>exact absurd rfl (hc cs e f)
 |_=>simp[getObj,Sem.run,h]
theorem Rel.putObj{x x':AObj}{i b:Nat}{H':AHeap}{ob':Obj}(hR:Rel H μ w)(hm:μ i=some (b,0))(hg:H.get i=some x)(hx:∀cs e ow ap,x≠.cells cs e ow ap)(hx':∀cs e ow ap,x'≠.cells cs e ow ap)
 (hn:H'.next=H.next)(hg':∀j,H'.get j=if j=i then some x' else H.get j)(ho:ORel μ x' 0 (some ob')):
 Rel H' μ {w with heap:=w.heap.setIfInBounds b ob'}∧Ext H μ w H' μ {w with heap:=w.heap.setIfInBounds b ob'}:=by
 have hlt:=hR.lt hm
 refine hR.put (x':=x') hm hg ?_ (hR.oth i b 0 x hm hg hx) hn hg' (by simp) (fun c' hc'=>by simp[Array.getElem?_setIfInBounds_ne (Ne.symm hc')]) ?_ (fun cs e ow he=>absurd he (hx' _ _ _ _)) rfl rfl rfl
 ·cases x<;>first|rfl|exact absurd rfl (hx _ _ _ _)
 ·simp[hlt]
  exact ho
theorem mapUpdate_does{t:TypeId}{m k x:Operand}{ρ:Env}{m' k' x':Value}(hR:Rel H μ w)(hm:VRel μ (ρ m) m')(hk:VRel μ (ρ k) k')(hx:VRel μ (ρ x) x')
 (h:hMapUpdate t m k x P ρ H c=some r):Does P H μ w (do Instr.mapUpdate t m' k' x';pure .skip) c r:=by
 unfold hMapUpdate at h
 split at h
 ·rename_i kt et i s hu e1 e2
  rw[e1] at hm
  rw[e2] at hk
  obtain⟨b,hmi,rfl⟩:=hm.inv_map
  obtain rfl:=hk.inv_string
  split at h
  ·rename_i es hkt hg
   unfold mapPut at h
   split at h
   ·obtain⟨hp,h⟩:=cond_some h
    obtain rfl:=plain4_eq hp hx
    obtain⟨H',hc,hn,hg'⟩:=AHeap.setK_some h
    obtain⟨arr,clock,hw,hor⟩:=obj_map hR hmi hg
    obtain⟨rfl,rfl⟩:arr=#[]∧clock=0:=by
     rcases hor with⟨_,h1,h2⟩|⟨_,_,h1,_⟩
     ·exact⟨h1,h2⟩
     ·cases h1
    obtain⟨hrel,hext⟩:=hR.putObj (ob':=.map #[⟨.string s,ρ x,0⟩] 1) hmi hg (by simp) (by simp) hn hg' ⟨rfl,.inr ⟨s,ρ x,rfl,hp,rfl,rfl⟩⟩
    refine⟨_,H',.skip,_,μ,hc,?_,hrel,hext,trivial⟩
    have hck:(Instr.checkKey false 10000 kt (.string s)).run P w= .ok () w:=by
     have:∀n:Nat,(Instr.checkKey false (n+1) kt (.string s)).run P w= .ok () w:=fun n=>by simp[Instr.checkKey,run_und hkt]
     exact this 9999
    have hfk:(Instr.findKey kt (.string s) ([]:List MapEntry)).run P w= .ok none w:=by
     simp[Instr.findKey,run_und hkt,Instr.findNow]
    have hso:=run_setObj (P:=P) (ob':=.map #[⟨.string s,ρ x,0⟩] 1) hw (by simp)
    unfold Instr.mapUpdate
    simp only[Sem.run_bind,run_und hu,Result.andThen_ok,run_getObj hw (by simp),hck,hfk,pure,Sem.run]
    simp only[List.push_toArray,List.nil_append,Nat.zero_add]
    rw[hso]
    rfl
   ·cases h
  ·cases h
 ·cases h
theorem obj_imap{i b o:Nat}{es:List (Int×Value)}(hR:Rel H μ w)(hm:μ i=some (b,o))(hg:H.get i=some (.imap es)):
 ∃arr,w.heap[b]? =some (.map arr es.length)∧arr.toList=ents 0 es:=by
 obtain⟨x,hx,ho⟩:=hR.obj i b o hm
 rw[hg] at hx
 cases hx
 have hs:=ho.isSome
 revert ho hs
 cases hw:w.heap[b]? with
 |none=>intro _ h;cases h
 |some ob=>
  intro ho _
  cases ob with
  |map arr clock=>
   obtain⟨_,h1,h2⟩:=ho
   subst h1
   exact⟨arr,rfl,h2⟩
  |_=>exact ho.elim
theorem find_none{kd:IntKind}{n:Int}:∀{es:List (Int×Value)}(j i:Nat),ilook n es=none→Instr.findNow (.int kd) (.int .i64 n) (ents j es) i=some none
 |[],_,_,_=>rfl
 |(k,v)::es,j,i,h=>by
  rw[ilook] at h
  cases hk:(n==k) with
  |true=>rw[hk] at h;cases h
  |false=>
   rw[hk] at h
   simp only[ents,Instr.findNow,Instr.sameNow,hk,if_true]
   exact find_none (j+1) (i+1) h
theorem find_some{kd:IntKind}{n:Int}{u:Value}:∀{es:List (Int×Value)}(j i:Nat),ilook n es=some u→∃i',Instr.findNow (.int kd) (.int .i64 n) (ents j es) i=some (some (i',u))
 |[],_,_,h=>by cases h
 |(k,v)::es,j,i,h=>by
  rw[ilook] at h
  cases hk:(n==k) with
  |true=>
   rw[hk] at h
   simp only[cond_true,Option.some.injEq] at h
   subst h
   exact⟨i,by simp only[ents,Instr.findNow,Instr.sameNow,hk,if_true]⟩
  |false=>
   rw[hk] at h
   simp only[ents,Instr.findNow,Instr.sameNow,hk,if_true]
   exact find_some (j+1) (i+1) h
theorem ents_snoc(n:Int)(v:Value):∀(es:List (Int×Value))(j:Nat),ents j (es++[(n,v)])=ents j es++[⟨.int .i64 n,v,j+es.length⟩]
 |[],j=>by simp[ents]
 |(k,u)::es,j=>by
  rw[List.cons_append,ents,ents,ents_snoc n v es (j+1),List.cons_append]
  rw[show j+1+es.length=j+((k,u)::es).length by simp;omega]
theorem key_int{kt:TypeId}{kd:IntKind}(hkt:P.underlying kt=some (.int kd))(e:Bool)(n:Int):(Instr.checkKey e 10000 kt (.int .i64 n)).run P w= .ok () w:=by
 have:∀m:Nat,(Instr.checkKey e (m+1) kt (.int .i64 n)).run P w= .ok () w:=fun m=>by simp[Instr.checkKey,run_und hkt]
 exact this 9999
theorem insert_does{t:TypeId}{m k x:Operand}{ρ:Env}{m' k' x':Value}(hR:Rel H μ w)(hm:VRel μ (ρ m) m')(hk:VRel μ (ρ k) k')(hx:VRel μ (ρ x) x')
 (h:hInsert t m k x P ρ H c=some r):Does P H μ w (do Instr.mapUpdate t m' k' x';pure .skip) c r:=by
 unfold hInsert at h
 split at h
 ·rename_i kt et i n hu e1 e2
  rw[e1] at hm
  rw[e2] at hk
  obtain⟨b,hmi,rfl⟩:=hm.inv_map
  obtain rfl:=hk.inv_int
  split at h
  ·rename_i kd es hkt hg
   unfold imapPut at h
   split at h
   ·rename_i hl
    obtain⟨hp,h⟩:=cond_some h
    obtain rfl:=plain4_eq hp hx
    obtain⟨H',hc,hn,hg'⟩:=AHeap.setK_some h
    obtain⟨arr,hw,harr⟩:=obj_imap hR hmi hg
    obtain⟨hrel,hext⟩:=hR.putObj (ob':=.map (arr.push ⟨.int .i64 n,ρ x,es.length⟩) (es.length+1)) hmi hg (by simp) (by simp) hn hg' ⟨rfl,by simp,by rw[Array.toList_push,harr,ents_snoc,Nat.zero_add]⟩
    refine⟨_,H',.skip,_,μ,hc,?_,hrel,hext,trivial⟩
    have hck:=key_int (w:=w) hkt false n
    have hfk:(Instr.findKey kt (.int .i64 n) arr.toList).run P w= .ok none w:=by
     simp[Instr.findKey,run_und hkt,harr,find_none 0 0 hl]
    have hso:=run_setObj (P:=P) (ob':=.map (arr.push ⟨.int .i64 n,ρ x,es.length⟩) (es.length+1)) hw (by simp)
    unfold Instr.mapUpdate
    simp only[Sem.run_bind,run_und hu,Result.andThen_ok,run_getObj hw (by simp),hck,hfk,pure,Sem.run]
    rw[hso]
    rfl
   ·cases h
  ·cases h
 ·cases h
theorem lookup_does{t:TypeId}{m k:Operand}{ok:Bool}{ρ:Env}{m' k':Value}(hR:Rel H μ w)(hm:VRel μ (ρ m) m')(hk:VRel μ (ρ k) k')
 (h:hLookup t m k ok P ρ H c=some r):Does P H μ w (do pure (Next.value (←Instr.lookup t m' k' ok))) c r:=by
 unfold hLookup at h
 split at h
 ·rename_i kt et i n hu e1 e2
  rw[e1] at hm
  rw[e2] at hk
  obtain⟨b,hmi,rfl⟩:=hm.inv_map
  obtain rfl:=hk.inv_int
  split at h
  ·rename_i kd es hkt hg
   split at h
   ·rename_i v hl
    obtain⟨hp,h⟩:=cond_some h
    obtain⟨arr,hw,harr⟩:=obj_imap hR hmi hg
    refine⟨_,H,.value v,w,μ,h,?_,hR,Ext.refl _ _ _,VRel.plain 4 hp⟩
    refine run_v ?_
    have hck:=key_int (w:=w) hkt arr.isEmpty n
    obtain⟨i',hf⟩:=find_some (kd:=kd) 0 0 hl
    have hfk:(Instr.findKey kt (.int .i64 n) arr.toList).run P w= .ok (some (i',v)) w:=by
     simp[Instr.findKey,run_und hkt,harr,hf]
    unfold Instr.lookup
    simp only[Sem.run_bind,run_und hu,Result.andThen_ok,run_getObj hw (by simp),hck,hfk,pure,Sem.run]
    rfl
   ·cases h
  ·cases h
 ·cases h
theorem range_does{t:TypeId}{x:Operand}{ρ:Env}{x':Value}(hR:Rel H μ w)(hx:VRel μ (ρ x) x')(h:hRange t x P ρ H c=some r):
 Does P H μ w (do pure (Next.value (←Instr.range t x'))) c r:=by
 unfold hRange at h
 split at h
 ·rename_i kt et i hu e1
  rw[e1] at hx
  obtain⟨b,hmi,rfl⟩:=hx.inv_map
  split at h
  ·rename_i es hg
   obtain⟨arr,clock,hw,hor⟩:=obj_map hR hmi hg
   have hcl:clock=es.length:=by
    rcases hor with⟨rfl,_,rfl⟩|⟨_,_,rfl,_,_,rfl⟩<;>rfl
   obtain⟨H',hc,hn,hg'⟩:=AHeap.newK_some h
   obtain⟨hrel,hext⟩:=hR.new hn hg' (.mapIter (some b) clock #[] clock) 0 ⟨rfl,(hR.mono_new _ _).f _ _ hmi,hcl,hcl,.inl ⟨rfl,rfl⟩⟩ (by simp)
   refine⟨_,H',.value (.pointer (some ⟨w.heap.size,0,none⟩)),_,_,hc,?_,hrel,hext,VRel.ptr (upd_same _ _ _ _)⟩
   refine run_v ?_
   unfold Instr.range
   simp only[Sem.run_bind,run_und hu,Result.andThen_ok,run_getObj hw (by simp),pure,Sem.run,newObj]
  ·cases h
 ·cases h
theorem obj_iter{i b o m since n:Nat}(hR:Rel H μ w)(hm:μ i=some (b,o))(hg:H.get i=some (.iter m since n)):
 ∃bm seen,w.heap[b]? =some (.mapIter (some bm) since seen since)∧o=0∧μ m=some (bm,0)∧((n=0∧seen=#[])∨(n=1∧since=1∧seen=#[0])):=by
 obtain⟨x,hx,ho⟩:=hR.obj i b o hm
 rw[hg] at hx
 cases hx
 have hs:=ho.isSome
 revert ho hs
 cases hw:w.heap[b]? with
 |none=>intro _ h;cases h
 |some ob=>
  intro ho _
  cases ob with
  |mapIter mp si seen st=>
   cases mp with
   |none=>exact ho.elim
   |some bm=>
    obtain⟨h1,h2,h3,h4,h5⟩:=ho
    subst h3 h4
    exact⟨bm,seen,rfl,h1,h2,h5⟩
  |_=>exact ho.elim
theorem next_does{it:Operand}{s:Bool}{ty:TypeId}{ρ:Env}{it':Value}(hR:Rel H μ w)(hx:VRel μ (ρ it) it')(h:hNext it s P ρ H c=some r):
 Does P H μ w (do pure (Next.value (←Instr.next it' s ty))) c r:=by
 unfold hNext at h
 split at h
 ·rename_i i e1
  rw[e1] at hx
  obtain⟨_,b,o,hmi,rfl⟩:=hx.inv_ptr
  split at h
  ·rename_i m since n hg
   obtain⟨bm,seen,hw,rfl,hmm,hor⟩:=obj_iter hR hmi hg
   unfold iterNext at h
   split at h
   ·rename_i es hgm
    obtain⟨arr,clock,hwm,horm⟩:=obj_map hR hmm hgm
    have hforced:∀k:Nat→Sem Value,(Sem.choose (.mapNext 1) k).run P w=(k 0).run P w:=fun k=>by simp[Sem.run,Question.forced]
    split at h
    ·
     obtain⟨rfl,rfl⟩:arr=#[]∧clock=0:=by
      rcases horm with⟨_,h1,h2⟩|⟨_,_,h1,_⟩
      ·exact⟨h1,h2⟩
      ·cases h1
     obtain rfl:seen=#[]:=by
      rcases hor with⟨_,h1⟩|⟨h1,_⟩
      ·exact h1
      ·cases h1
     refine⟨_,H,.value (.tuple #[.bool false]),w,μ,h,?_,hR,Ext.refl _ _ _,VRel.plain 4 rfl⟩
     refine run_v ?_
     unfold Instr.next
     simp[run_getObj hw,run_getObj hwm,choose,Sem.run,Question.forced]
    ·
     rename_i k v
     obtain⟨ss,rfl,hp,rfl,rfl⟩:∃ss,k= .string ss∧plain4 v=true∧arr=#[⟨.string ss,v,0⟩]∧clock=1:=by
      rcases horm with⟨h1,_⟩|⟨s',v',h1,h2,h3,h4⟩
      ·cases h1
      ·cases h1;exact⟨s',rfl,h2,h3,h4⟩
     obtain rfl:seen=#[]:=by
      rcases hor with⟨_,h1⟩|⟨h1,_⟩
      ·exact h1
      ·cases h1
     obtain⟨H',hc,hn,hg'⟩:=AHeap.setK_some h
     obtain⟨hrel,hext⟩:=hR.putObj (ob':=.mapIter (some bm) 1 #[0] 1) hmi hg (by simp) (by simp) hn hg' ⟨rfl,hmm,rfl,rfl,.inr ⟨rfl,rfl,rfl⟩⟩
     refine⟨_,H',.value (.tuple #[.bool true,.string ss,v]),_,μ,hc,?_,hrel,hext,.tuple (.cons (.bool _) (.cons (.plain 4 rfl) (.cons (.plain 4 hp) .nil)))⟩
     refine run_v ?_
     have hso:=run_setObj (P:=P) (ob':=.mapIter (some bm) 1 #[0] 1) hw (by simp)
     unfold Instr.next
     simp[run_getObj hw,run_getObj hwm,choose,Sem.run,Question.forced,hso]
    ·
     rename_i kv
     obtain⟨ss,v,rfl,rfl⟩:∃ss v,arr=#[⟨.string ss,v,0⟩]∧clock=1:=by
      rcases horm with⟨h1,_⟩|⟨s',v',h1,h2,h3,h4⟩
      ·cases h1
      ·exact⟨s',v',h3,h4⟩
     obtain rfl:seen=#[0]:=by
      rcases hor with⟨h1,_⟩|⟨_,_,h1⟩
      ·cases h1
      ·exact h1
     refine⟨_,H,.value (.tuple #[.bool false]),w,μ,h,?_,hR,Ext.refl _ _ _,VRel.plain 4 rfl⟩
     refine run_v ?_
     unfold Instr.next
     simp[run_getObj hw,run_getObj hwm,choose,Sem.run,Question.forced]
    ·cases h
   ·cases h
  ·cases h
 ·cases h
theorem entry_does{it:Operand}{ρ:Env}{it':Value}(hR:Rel H μ w)(hx:VRel μ (ρ it) it')(h:hEntry it P ρ H c=some r):
 Does P H μ w (do pure (Next.value (←Instr.entry it'))) c r:=by
 unfold hEntry at h
 split at h
 ·rename_i i e1
  rw[e1] at hx
  obtain⟨_,b,o,hmi,rfl⟩:=hx.inv_ptr
  split at h
  ·rename_i m hg
   obtain⟨bm,seen,hw,rfl,hmm,hor⟩:=obj_iter hR hmi hg
   obtain rfl:seen=#[0]:=by
    rcases hor with⟨h1,_⟩|⟨_,_,h1⟩
    ·cases h1
    ·exact h1
   split at h
   ·rename_i k v hgm
    obtain⟨arr,clock,hwm,horm⟩:=obj_map hR hmm hgm
    obtain⟨ss,rfl,hp,rfl,rfl⟩:∃ss,k= .string ss∧plain4 v=true∧arr=#[⟨.string ss,v,0⟩]∧clock=1:=by
     rcases horm with⟨h1,_⟩|⟨s',v',h1,h2,h3,h4⟩
     ·cases h1
     ·cases h1;exact⟨s',rfl,h2,h3,h4⟩
    refine⟨_,H,.value (.tuple #[.string ss,v]),w,μ,h,?_,hR,Ext.refl _ _ _,.tuple (.cons (.plain 4 rfl) (.cons (.plain 4 hp) .nil))⟩
    refine run_v ?_
    unfold Instr.entry
    simp[run_getObj hw,run_getObj hwm]
   ·cases h
  ·cases h
 ·cases h
end
end
section
section
variable{P:Program}{μ:Mu}{H:AHeap}{w:World}{β:Type}{r:β}{c:ANext→AHeap→Option β}
theorem src_sound{sz n:Nat}{x x':Value}{l:List Value}(hR:Rel H μ w)(hx:VRel μ x x')(h:srcCells H sz x=some (n,l)):
 ∃l':List Value,LRel μ l l'∧l.length=n*sz∧(∀w1,(Builtin.lenOf x').run P w1= .ok n w1)∧
  ∀w1:World,w1.heap=w.heap→(Builtin.firstCells sz n x').run P w1= .ok l'.toArray w1:=by
 unfold srcCells at h
 split at h
 ·rename_i m
  simp at h
  obtain⟨rfl,rfl⟩:=h
  obtain rfl:=hx.inv_slice_none
  exact⟨[],.nil,by simp,fun w1=>rfl,fun w1 _=>rfl⟩
 ·rename_i a m cap
  unfold srcSlice at h
  split at h
  ·simp at h
   obtain⟨rfl,rfl⟩:=h
   obtain⟨a',m',rfl⟩:=hx.inv_slice_some
   refine⟨[],.nil,by simp,fun w1=>rfl,fun w1 _=> ?_⟩
   simp[Builtin.firstCells,loadCells,loadCellsFrom]
  ·rename_i m hsp
   obtain⟨i,off,sp⟩:=a
   simp only at hsp h
   subst hsp
   obtain⟨b,o,cap',hm,_,_,rfl⟩:=hx.inv_slice
   cases hc:loadCells? H i with
   |none=>rw[hc] at h;cases h
   |some cs=>
    rw[hc] at h
    simp only at h
    cases hcut:cut off ((m+1)*sz) cs with
    |none=>rw[hcut] at h;cases h
    |some l0=>
     rw[hcut] at h
     simp at h
     obtain⟨rfl,rfl⟩:=h
     obtain⟨arr,e,fz,hw,hle,hv⟩:=load_cells hR hm hc
     obtain⟨l',hl',hrel,hat⟩:=rows_of hcut hv
     refine⟨l',hrel,cut_len hcut,fun w1=>rfl,fun w1 hw1=> ?_⟩
     have:=run_loadCells (P:=P) (w:=w1) (b:=b) (off:=o+off) l' (fun k v hk=>by rw[cell_of (by rw[hw1];exact hw)];exact hat k v hk)
     rw[hl'] at this
     exact this
  ·cases h
 ·rename_i s
  obtain⟨h1,h2⟩:=cond_some h
  obtain rfl:=Nat.eq_of_beq_eq_true h1
  simp at h2
  obtain⟨rfl,rfl⟩:=h2
  obtain rfl:=hx.inv_string
  refine⟨_,LRel.map (f:=fun b:UInt8=>Value.int .u8 b.toNat) fun b _=>.int _ _,by rw[List.length_map,Nat.mul_one];rfl,fun w1=>rfl,fun w1 _=> ?_⟩
  have:s.extract 0 s.size=s:=by simp
  simp[Builtin.firstCells,this]
  cases s.data
  simp
 ·cases h
theorem growBy_le(newLen:Nat):∀(k c:Nat),c≤2*newLen+192→Builtin.growBy newLen k c≤2*newLen+192:=by
 intro k
 induction k with
 |zero=>intro c h;exact h
 |succ k ih=>
  intro c h
  simp only[Builtin.growBy]
  split
  ·exact h
  ·exact ih _ (by omega)
theorem nextslicecap_le{need cap:Nat}(h:cap<need):Builtin.nextslicecap need cap≤2*need+192:=by
 unfold Builtin.nextslicecap
 split
 ·omega
 ·split
  ·omega
  ·exact growBy_le _ _ _ (by omega)
theorem growOk_some{e:TypeId}{sz need:Nat}(h:growOk P e sz need=true):
 need≤2^20∧∃i v,P.info? e=some i∧i.bytes≤2^20∧i.zero=some v∧v.cells.size=sz:=by
 unfold growOk at h
 simp only[Bool.and_eq_true] at h
 obtain⟨⟨h1,h2⟩,h3⟩:=h
 cases hz:zeroCells? P e with
 |none=>rw[hz] at h3;cases h3
 |some z=>
  rw[hz] at h3
  obtain⟨v,i,hi,hzz,hp,rfl⟩:=zeroCells_some hz
  rw[hi] at h2
  refine⟨Nat.le_of_ble_eq_true h1,i,v,hi,Nat.le_of_ble_eq_true (by simpa using h2),hzz,?_⟩
  have:=Nat.eq_of_beq_eq_true (show Nat.beq v.cells.toList.length sz=true by simpa using h3)
  simpa using this
theorem zeroCells_size(z:Array Value)(n:Nat):(Builtin.zeroCells z n).size=n*z.size:=by simp[Builtin.zeroCells]
theorem run_append_grow{st xt ty e:TypeId}{d:TypeDesc}{sz sLen sCap n:Nat}{base:Option Addr}{x':Value}{old' l':List Value}(hu:P.underlying st=some (.slice e))
 (hxt:P.underlying xt=some d)(hd:∀k,d≠.int k)(hs:size? P e=some sz)(hg:growOk P e sz (sLen+n)=true)(hno:sCap<sLen+n)
 (hlen:∀w1,(Builtin.lenOf x').run P w1= .ok n w1)(hnew:∀w1:World,w1.heap=w.heap→(Builtin.firstCells sz n x').run P w1= .ok l'.toArray w1)
 (hold:∀w1:World,w1.heap=w.heap→(Builtin.firstCells sz sLen (.slice base sLen sCap)).run P w1= .ok old'.toArray w1):
 ∃newCap rest,sLen+n≤newCap∧rest.size=(newCap-(sLen+n))*sz∧
  (Builtin.append_ #[st,xt] ty #[.slice base sLen sCap,x']).run P w=
    .ok (.slice (some ⟨w.heap.size,0,none⟩) (sLen+n) newCap) (wNew {w with drawn:=w.drawn+1} (.cells (old'.toArray++l'.toArray++rest) e)):=by
 obtain⟨hneed,i,v,hi,hb,hz,hvs⟩:=growOk_some hg
 let q:Question:=.appendCap (sLen+n) sCap e
 let newCap:=q.cut (w.tape w.drawn q)
 have hcap:sLen+n≤newCap:=by
  show sLen+n≤sLen+n+_
  omega
 refine⟨newCap,Builtin.zeroCells v.cells (newCap-(sLen+n)),hcap,by rw[zeroCells_size,hvs],?_⟩
 have hti:∀w1:World,(typeInfo e).run P w1= .ok i w1:=fun w1=>by simp[typeInfo,program,hi,Sem.run]
 have hroom:∀(k:Nat)(w1:World),(askRoom k).run P w1= .ok () w1:=fun k w1=>by unfold askRoom;split<;>rfl
 have hcond1:¬(((sLen+n:Nat):Int)>IntKind.i64.max∧(False∨i.bytes=0)):=by
  rintro⟨h1,_⟩
  have:IntKind.i64.max=9223372036854775807:=by decide
  rw[this] at h1
  omega
 have hcond2:¬(Builtin.nextslicecap (sLen+n) sCap*i.bytes>2^48):=by
  have h1:=nextslicecap_le hno
  have h2:Builtin.nextslicecap (sLen+n) sCap*i.bytes≤(2*2^20+192)*2^20:=Nat.mul_le_mul (by omega) hb
  omega
 have hq:q.forced=false:=rfl
 have hnr:∀(row:Array Value)(w1:World),(newRow e row).run P w1= .ok ⟨w1.heap.size,0,none⟩ (wNew w1 (.cells row e)):=fun row w1=>by simp[newRow,newObj,Sem.run]
 unfold Builtin.append_
 cases d with
 |int k=>exact absurd rfl (hd k)
 |_=>
  simp only[Sem.run_bind,run_und hu,run_und hxt,Result.andThen_ok,run_size hs,hlen,pure,Sem.run,List.getElem?_toArray,List.getElem?_cons_zero,List.getElem?_cons_succ,Bool.false_eq_true,if_false]
  simp only[if_neg (Nat.not_le.2 hno),hti,Sem.run_bind,Result.andThen_ok,if_neg hcond1,if_neg hcond2,choose]
  rw[show(Question.appendCap (sLen+n) sCap e)=q from rfl]
  simp only[Result.andThen_ok,hroom,run_zero hi hz,hnr,Sem.run,Bool.not_false,if_true,hq,Bool.false_eq_true,if_false,hold {w with drawn:=w.drawn+1} rfl,hnew {w with drawn:=w.drawn+1} rfl]
  rfl
end
end
end Go.Eng
