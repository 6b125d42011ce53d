/- A part of the proof that ClaimFaces answers true for every input of bulk at most 1048576: conditions: the row's own. -/
import Derived.Test.YtbapfnpbamnmpaaGreatDoorEngA
import Derived.OrdersIn
import Derived.RangeFuncLeaves
import Derived.RecoverIn
namespace Go.Eng
open Go
section
section
variable{P:Program}{μ:Mu}
theorem prun_run{α:Type}{s:Sem α}{a:α}(h:prun P s=some a)(w:World):s.run P w= .ok a w:=by
 induction s with
 |pure b=>simp[prun] at h;simp[h]
 |program k ih=>simp only[prun] at h;simpa [Sem.run] using ih P h
 |mark m k ih=>simp only[prun] at h;simpa [Sem.run] using ih h
 |choose q k ih=>
  simp only[prun] at h
  split at h
  ·rename_i hq
   simp only[Sem.run,hq,if_true]
   exact ih 0 h
  ·cases h
 |_=>simp[prun] at h
theorem run_v{s:Sem Value}{a:Value}{w w':World}(h:s.run P w= .ok a w'):(do pure (Next.value (←s)):Sem Next).run P w= .ok (.value a) w':=by
 simp[h,Result.andThen]
theorem run_und{t:TypeId}{d:TypeDesc}(h:P.underlying t=some d)(w:World):(underlying t).run P w= .ok d w:=by
 simp[underlying,program,h,Sem.run]
theorem prun_bind{α β:Type}(s:Sem α)(f:α→Sem β):prun P (s>>=f)=(prun P s).bind fun a=>prun P (f a):=by
 induction s with
 |pure a=>rfl
 |program k ih=>exact ih P
 |mark m k ih=>exact ih
 |choose q k ih=>
  show(if q.forced then prun P (k 0>>=f) else none)=_
  simp only[prun]
  split
  ·exact ih 0
  ·rfl
 |_=>rfl
theorem prun_map{α β:Type}(f:α→β)(s:Sem α):prun P (Functor.map f s)=(prun P s).map f:=by
 show prun P (s>>=fun a=>pure (f a))=_
 rw[prun_bind]
 cases prun P s<;>rfl
theorem prun_und(t:TypeId):prun P (underlying t)=P.underlying t:=by
 show prun P (underlying t)=_
 unfold underlying program
 simp only[Bind.bind,Sem.bind,prun]
 cases P.underlying t<;>rfl
theorem prun_pure{α:Type}(a:α):prun P (pure a:Sem α)=some a:=rfl
theorem ifPlain_some{r:Option Value}{v:Value}(h:ifPlain r=some v):r=some v∧plainV 4 v=true:=by
 cases r with
 |none=>cases h
 |some u=>
  simp only[ifPlain] at h
  cases hp:plainV 4 u with
  |true=>rw[hp] at h;simp at h;subst h;exact⟨rfl,hp⟩
  |false=>rw[hp] at h;simp at h
abbrev Gives(P:Program)(μ:Mu)(s:Sem Next)(v:Value):Prop:=∀w,∃v',s.run P w= .ok (.value v') w∧VRel μ v v'
theorem gives_plain{s s':Sem Value}{v:Value}(h:ifPlain (prun P s)=some v)(e:s'=s):Gives P μ (do pure (Next.value (←s'))) v:=by
 subst e
 obtain⟨h1,h2⟩:=ifPlain_some h
 exact fun w=>⟨v,run_v (prun_run h1 w),.plain 4 h2⟩
theorem cond_some{α:Type}{b:Bool}{r:Option α}{v:α}(h:(bif b then r else none)=some v):b=true∧r=some v:=by
 cases b with
 |true=>exact⟨rfl,h⟩
 |false=>cases h
theorem plain4_eq{v v':Value}(hp:plain4 v=true)(h:VRel μ v v'):v'=v:=h.inv_plain hp
theorem LRel.set{l l':List Value}(h:LRel μ l l')(k:Nat){v v':Value}(hv:VRel μ v v'):LRel μ (l.set k v) (l'.set k v'):=by
 induction l generalizing l' k with
 |nil=>cases h;exact .nil
 |cons x xs ih=>
  cases h with
  |cons hx t=>
   cases k with
   |zero=>exact .cons hv t
   |succ k=>exact .cons hx (ih t k)
theorem fold_set_rel(off:Nat):∀{l l':List Value}(j:Nat){cs cs':Array Value},LRel μ l l'→LRel μ cs.toList cs'.toList→
 LRel μ ((l.zipIdx j).foldl (fun(cs:Array Value)(p:Value×Nat)=>cs.setIfInBounds (off+p.2) p.1) cs).toList
  ((l'.zipIdx j).foldl (fun(cs:Array Value)(p:Value×Nat)=>cs.setIfInBounds (off+p.2) p.1) cs').toList:=by
 intro l
 induction l with
 |nil=>intro l' j cs cs' h hc;cases h;exact hc
 |cons x xs ih=>
  intro l' j cs cs' h hc
  cases h with
  |cons hv t=>
   simp only[List.zipIdx_cons,List.foldl_cons]
   refine ih (j+1) t ?_
   simp only[Array.toList_setIfInBounds]
   exact hc.set _ hv
theorem fill_rel(place:Nat→Option (Nat×Nat)):∀{ps ps':List (Nat×Value)}{cs cs':Array Value}{r:Array Value},
 ps.map (·.1)=ps'.map (·.1)→LRel μ (ps.map (·.2)) (ps'.map (·.2))→LRel μ cs.toList cs'.toList→Instr.fill place cs ps=some r→
 ∃r',Instr.fill place cs' ps'=some r'∧LRel μ r.toList r'.toList:=by
 intro ps
 induction ps with
 |nil=>
  intro ps' cs cs' r h1 h2 h3 h
  cases ps' with
  |nil=>simp[Instr.fill] at h;subst h;exact⟨cs',rfl,h3⟩
  |cons _ _=>simp at h1
 |cons p ps ih=>
  intro ps' cs cs' r h1 h2 h3 h
  cases ps' with
  |nil=>simp at h1
  |cons p' ps'=>
   obtain⟨i,v⟩:=p
   obtain⟨i',v'⟩:=p'
   simp at h1
   obtain⟨rfl,h1⟩:=h1
   cases h2 with
   |cons hv ht=>
    simp only[Instr.fill] at h⊢
    cases hp:place i with
    |none=>rw[hp] at h;cases h
    |some q=>
     obtain⟨off,size⟩:=q
     rw[hp] at h
     simp only at h⊢
     have hc:=hv.cells
     have e1:v'.cells.size=v.cells.size:=by have:=hc.length;simpa using this.symm
     have e2:cs'.size=cs.size:=by have:=h3.length;simpa using this.symm
     rw[e1,e2]
     split at h
     ·cases h
     ·rename_i hcond
      rw[if_neg hcond]
      refine ih h1 ht ?_ h
      have:=fold_set_rel (μ:=μ) off (l:=v.cells.toList) (l':=v'.cells.toList) 0 hc h3
      rw[←Array.foldl_toList,←Array.foldl_toList]
      simpa [Array.toList_zipIdx] using this
theorem zero_some{t:TypeId}{v:Value}(h:zero? P t=some v):∃i,P.info? t=some i∧i.zero=some v∧plainV 4 v=true:=by
 unfold zero? at h
 split at h
 ·rename_i i hi
  split at h
  ·rename_i v' hz
   cases hp:plainV 4 v' with
   |true=>rw[hp] at h;simp at h;subst h;exact⟨i,hi,hz,hp⟩
   |false=>rw[hp] at h;simp at h
  ·cases h
 ·cases h
theorem prun_zero{t:TypeId}{i:TypeInfo}{v:Value}(hi:P.info? t=some i)(hz:i.zero=some v):prun P (zeroValue t)=some v:=by
 simp[zeroValue,typeInfo,program,hi,hz,Bind.bind,Sem.bind,prun,pure]
theorem run_zero{t:TypeId}{i:TypeInfo}{v:Value}(hi:P.info? t=some i)(hz:i.zero=some v)(w:World):(zeroValue t).run P w= .ok v w:=
 prun_run (prun_zero hi hz) w
theorem plain_cells{v:Value}{n:Nat}(h:plainV n v=true):LRel μ v.cells.toList v.cells.toList:=(VRel.plain n h).cells
theorem build_rel{t:TypeId}{ps ps':List (Nat×Value)}{v:Value}(h1:ps.map (·.1)=ps'.map (·.1))(h2:LRel μ (ps.map (·.2)) (ps'.map (·.2)))
 (hz:(zero? P t).isSome=true)(h:prun P (Instr.build t ps.toArray)=some v):∃v',prun P (Instr.build t ps'.toArray)=some v'∧VRel μ v v':=by
 obtain⟨z,hz⟩:=Option.isSome_iff_exists.1 hz
 obtain⟨i,hi,hzz,hp⟩:=zero_some hz
 unfold Instr.build at h⊢
 simp only[prun_bind,prun_zero hi hzz,Option.bind_some,prun_und] at h⊢
 cases hu:P.underlying t with
 |none=>rw[hu] at h;cases h
 |some d=>
  rw[hu] at h
  simp only[Option.bind_some] at h⊢
  cases d with
  |struct fields=>
   simp only[prun_bind] at h⊢
   cases hpl:prun P (fields.mapM fun f=>do pure (f.offset,←sizeOf f.type)) with
   |none=>rw[hpl] at h;cases h
   |some places=>
    rw[hpl] at h
    simp only[Option.bind_some] at h⊢
    cases hf:Instr.fill (fun x=>places[x]?) z.cells ps with
    |none=>rw[hf] at h;cases h
    |some r=>
     rw[hf] at h
     obtain⟨r',hr',hl⟩:=fill_rel _ h1 h2 (plain_cells hp) hf
     rw[hr']
     simp[prun_pure] at h
     subst h
     exact⟨_,rfl,.agg hl⟩
  |array len elem=>
   simp only[prun_bind] at h⊢
   cases hs:prun P (sizeOf elem) with
   |none=>rw[hs] at h;cases h
   |some size=>
    rw[hs] at h
    simp only[Option.bind_some] at h⊢
    cases hf:Instr.fill (fun i=>some (i*size,size)) z.cells ps with
    |none=>rw[hf] at h;cases h
    |some r=>
     rw[hf] at h
     obtain⟨r',hr',hl⟩:=fill_rel _ h1 h2 (plain_cells hp) hf
     rw[hr']
     simp[prun_pure] at h
     subst h
     exact⟨_,rfl,.agg hl⟩
  |_=>cases h
end
end
section
section
variable{P:Program}{μ:Mu}
theorem prun_part{t:TypeId}{cs cs':Array Value}{off:Nat}{v:Value}(hc:LRel μ cs.toList cs'.toList)(h:prun P (part t cs off)=some v):
 ∃v',prun P (part t cs' off)=some v'∧VRel μ v v':=by
 unfold part at h⊢
 simp only[prun_bind] at h⊢
 cases ha:prun P (isAgg t) with
 |none=>rw[ha] at h;cases h
 |some b=>
  rw[ha] at h
  simp only[Option.bind_some] at h⊢
  cases b with
  |true=>
   simp only[if_true,prun_bind] at h⊢
   cases hs:prun P (sizeOf t) with
   |none=>rw[hs] at h;cases h
   |some n=>
    rw[hs] at h
    simp[prun_pure] at h⊢
    subst h
    have:LRel μ (cs.extract off (off+n)).toList (cs'.extract off (off+n)).toList:=by
     simp only[Array.toList_extract,List.extract_eq_take_drop]
     exact(hc.drop _).take _
    exact .agg this
  |false=>
   simp only[Bool.false_eq_true,if_false] at h⊢
   cases hg:cs[off]? with
   |none=>rw[hg] at h;cases h
   |some u=>
    rw[hg] at h
    simp[prun_pure] at h
    subst h
    obtain⟨u',hu',hv⟩:=hc.at off u (by simpa using hg)
    rw[show cs'[off]? =some u' from by simpa using hu']
    exact⟨u',rfl,hv⟩
theorem field_rel{t:TypeId}{x x' v:Value}{f:Nat}(hx:VRel μ x x')(h:prun P (Instr.field t x f)=some v):
 ∃v',prun P (Instr.field t x' f)=some v'∧VRel μ v v':=by
 unfold Instr.field at h⊢
 simp only[prun_bind,prun_und] at h⊢
 cases hu:P.underlying t with
 |none=>rw[hu] at h;cases h
 |some d=>
  rw[hu] at h
  simp only[Option.bind_some] at h⊢
  cases d with
  |struct fields=>
   simp only at h⊢
   cases hf:fields[f]? with
   |none=>rw[hf] at h;cases h
   |some fd=>
    rw[hf] at h
    simp only[prun_bind] at h⊢
    cases x with
    |agg cs=>
     obtain⟨cs',rfl,hl⟩:=hx.inv_agg
     exact prun_part hl (by simpa [asAgg,prun_pure] using h)
    |_=>cases h
  |_=>cases h
theorem extract_rel{x x' v:Value}{i:Nat}(hx:VRel μ x x')(h:prun P (Instr.extract x i)=some v):
 ∃v',prun P (Instr.extract x' i)=some v'∧VRel μ v v':=by
 unfold Instr.extract at h⊢
 cases x with
 |tuple cs=>
  obtain⟨cs',rfl,hl⟩:=hx.inv_tuple
  simp only at h⊢
  cases hg:cs[i]? with
  |none=>rw[hg] at h;cases h
  |some u=>
   rw[hg] at h
   simp[prun_pure] at h
   subst h
   obtain⟨u',hu',hv⟩:=hl.at i u (by simpa using hg)
   rw[show cs'[i]? =some u' from by simpa using hu']
   exact⟨u',rfl,hv⟩
 |_=>cases h
theorem kEq_eq{k k':IntKind}(h:kEq k k'=true):k=k':=by cases k<;>cases k'<;>first|rfl|cases h
theorem fInt_run{op:BinOp}{f:IntKind→Int→IntKind→Int→Option Value}{k k':IntKind}{n m:Int}{v:Value}(hf:fInt op=some f)
 (h:f k n k' m=some v)(t:TypeId):prun P (binOp op t (.int k n) (.int k' m))=some v∧plainV 4 v=true:=by
 have key:∀r:Value,(bif kEq k k' then some r else none)=some v→k=k'∧v=r:=by
  intro r hr
  obtain⟨h1,h2⟩:=cond_some hr
  exact⟨kEq_eq h1,by simpa using h2.symm⟩
 cases op<;>simp[fInt] at hf<;>subst hf<;>
  (obtain⟨rfl,rfl⟩:=key _ h;exact⟨by simp[binOp,Op.intArith,Op.intCmp,prun_pure],rfl⟩)
theorem eqGuard_int(op:BinOp)(t:TypeId)(x y:Operand)(k k':IntKind)(n m:Int):prun P (eqGuard op t x y (.int k n) (.int k' m))=some ():=by
 unfold eqGuard
 split<;>rfl
theorem bin_of_plain{op:BinOp}{t:TypeId}{x y:Operand}{a b a' b' v:Value}(hpa:plain4 a=true)(hpb:plain4 b=true)(ha:VRel μ a a')(hb:VRel μ b b')
 (h:ifPlain (prun P (do eqGuard op t x y a b;binOp op t a b))=some v):Gives P μ (do pure (Next.value (←(do eqGuard op t x y a' b';binOp op t a' b')))) v:=by
 rw[plain4_eq hpa ha,plain4_eq hpb hb]
 exact gives_plain h rfl
section
variable{t:TypeId}{w:World}
theorem eqn_ptr1{e:TypeId}(hu:P.underlying t=some (.pointer e))(a:Addr):(Op.equal t (.pointer (some a)) (.pointer none)).run P w= .ok false w:=by
 have h:∀d:Nat,(Op.equalIn (d+1) t (.pointer (some a)) (.pointer none)).run P w= .ok false w:=fun d=>by simp[Op.equalIn,run_und hu]
 exact h 9999
theorem eqn_ptr2{e:TypeId}(hu:P.underlying t=some (.pointer e))(a:Addr):(Op.equal t (.pointer none) (.pointer (some a))).run P w= .ok false w:=by
 have h:∀d:Nat,(Op.equalIn (d+1) t (.pointer none) (.pointer (some a))).run P w= .ok false w:=fun d=>by simp[Op.equalIn,run_und hu]
 exact h 9999
theorem eqn_slice1{e:TypeId}(hu:P.underlying t=some (.slice e))(a:Addr)(n m n' m':Nat):(Op.equal t (.slice (some a) n m) (.slice none n' m')).run P w= .ok false w:=by
 have h:∀d:Nat,(Op.equalIn (d+1) t (.slice (some a) n m) (.slice none n' m')).run P w= .ok false w:=fun d=>by simp[Op.equalIn,run_und hu]
 exact h 9999
theorem eqn_slice2{e:TypeId}(hu:P.underlying t=some (.slice e))(a:Addr)(n m n' m':Nat):(Op.equal t (.slice none n' m') (.slice (some a) n m)).run P w= .ok false w:=by
 have h:∀d:Nat,(Op.equalIn (d+1) t (.slice none n' m') (.slice (some a) n m)).run P w= .ok false w:=fun d=>by simp[Op.equalIn,run_und hu]
 exact h 9999
theorem eqn_func1{p r:Array TypeId}{vr:Bool}(hu:P.underlying t=some (.func p r vr))(f:Fn)(a b:Array Value):(Op.equal t (.func f a b) .nilFunc).run P w= .ok false w:=by
 have h:∀d:Nat,(Op.equalIn (d+1) t (.func f a b) .nilFunc).run P w= .ok false w:=fun d=>by simp[Op.equalIn,run_und hu]
 exact h 9999
theorem eqn_func2{p r:Array TypeId}{vr:Bool}(hu:P.underlying t=some (.func p r vr))(f:Fn)(a b:Array Value):(Op.equal t .nilFunc (.func f a b)).run P w= .ok false w:=by
 have h:∀d:Nat,(Op.equalIn (d+1) t .nilFunc (.func f a b)).run P w= .ok false w:=fun d=>by simp[Op.equalIn,run_und hu]
 exact h 9999
end
theorem eql_gives{t:TypeId}{x y:Operand}{a b:Value}{w:World}(he:(Op.equal t a b).run P w= .ok false w)(hg:∀op,prun P (eqGuard op t x y a b)=some ())
 (hb:binOp .eql t a b=(do pure (.bool (←Op.equal t a b))))(hb':binOp .neq t a b=(do pure (.bool (!(←Op.equal t a b))))):
 (do pure (Next.value (←(do eqGuard .eql t x y a b;binOp .eql t a b))):Sem Next).run P w= .ok (.value (.bool false)) w∧
 (do pure (Next.value (←(do eqGuard .neq t x y a b;binOp .neq t a b))):Sem Next).run P w= .ok (.value (.bool true)) w:=by
 constructor
 ·refine run_v ?_
  rw[Sem.run_bind,prun_run (hg .eql) w,Result.andThen_ok,hb,Sem.run_bind,he,Result.andThen_ok]
  rfl
 ·refine run_v ?_
  rw[Sem.run_bind,prun_run (hg .neq) w,Result.andThen_ok,hb',Sem.run_bind,he,Result.andThen_ok]
  rfl
theorem nilCmp_gives{op:BinOp}{t:TypeId}{x y:Operand}{a b a' b' v:Value}(ha:VRel μ a a')(hb:VRel μ b b')(h:nilCmp P op t a b=some v):
 Gives P μ (do pure (Next.value (←(do eqGuard op t x y a' b';binOp op t a' b')))) v:=by
 have hg:∀(a b:Value),(a≠.nilIface)→(∀c,a≠.agg c)→∀op,prun P (eqGuard op t x y a b)=some ():=by
  intro a b h1 h2 op
  cases a<;>first|exact absurd rfl h1|exact absurd rfl (h2 _)|(unfold eqGuard;cases op<;>rfl)
 unfold nilCmp at h
 split at h<;>simp only[Option.some.injEq,reduceCtorEq] at h<;>subst h<;>rename_i hu<;>intro w<;>refine⟨_,?_,.bool _⟩
 case h_1=>obtain⟨_,_,_,_,rfl⟩:=VRel.inv_ptr ha;obtain rfl:=VRel.inv_ptr_none hb;exact(eql_gives (eqn_ptr1 hu _) (hg _ _ (by simp) (by simp)) rfl rfl).1
 case h_2=>obtain⟨_,_,_,_,rfl⟩:=VRel.inv_ptr hb;obtain rfl:=VRel.inv_ptr_none ha;exact(eql_gives (eqn_ptr2 hu _) (hg _ _ (by simp) (by simp)) rfl rfl).1
 case h_3=>obtain⟨_,_,rfl⟩:=VRel.inv_slice_some ha;obtain rfl:=VRel.inv_slice_none hb;exact(eql_gives (eqn_slice1 hu _ _ _ _ _) (hg _ _ (by simp) (by simp)) rfl rfl).1
 case h_4=>obtain⟨_,_,rfl⟩:=VRel.inv_slice_some hb;obtain rfl:=VRel.inv_slice_none ha;exact(eql_gives (eqn_slice2 hu _ _ _ _ _) (hg _ _ (by simp) (by simp)) rfl rfl).1
 case h_5=>obtain rfl:=VRel.inv_nilFunc hb;cases ha<;>exact(eql_gives (eqn_func1 hu _ _ _) (hg _ _ (by simp) (by simp)) rfl rfl).1
 case h_6=>obtain rfl:=VRel.inv_nilFunc ha;cases hb<;>exact(eql_gives (eqn_func2 hu _ _ _) (hg _ _ (by simp) (by simp)) rfl rfl).1
 case h_7=>obtain⟨_,_,_,_,rfl⟩:=VRel.inv_ptr ha;obtain rfl:=VRel.inv_ptr_none hb;exact(eql_gives (eqn_ptr1 hu _) (hg _ _ (by simp) (by simp)) rfl rfl).2
 case h_8=>obtain⟨_,_,_,_,rfl⟩:=VRel.inv_ptr hb;obtain rfl:=VRel.inv_ptr_none ha;exact(eql_gives (eqn_ptr2 hu _) (hg _ _ (by simp) (by simp)) rfl rfl).2
 case h_9=>obtain⟨_,_,rfl⟩:=VRel.inv_slice_some ha;obtain rfl:=VRel.inv_slice_none hb;exact(eql_gives (eqn_slice1 hu _ _ _ _ _) (hg _ _ (by simp) (by simp)) rfl rfl).2
 case h_10=>obtain⟨_,_,rfl⟩:=VRel.inv_slice_some hb;obtain rfl:=VRel.inv_slice_none ha;exact(eql_gives (eqn_slice2 hu _ _ _ _ _) (hg _ _ (by simp) (by simp)) rfl rfl).2
 case h_11=>obtain rfl:=VRel.inv_nilFunc hb;cases ha<;>exact(eql_gives (eqn_func1 hu _ _ _) (hg _ _ (by simp) (by simp)) rfl rfl).2
 case h_12=>obtain rfl:=VRel.inv_nilFunc ha;cases hb<;>exact(eql_gives (eqn_func2 hu _ _ _) (hg _ _ (by simp) (by simp)) rfl rfl).2
theorem valBin_gives{op:BinOp}{t:TypeId}{x y:Operand}{a b a' b' v:Value}(ha:VRel μ a a')(hb:VRel μ b b')(h:valBin P op t x y a b=some v):
 Gives P μ (do pure (Next.value (←(do eqGuard op t x y a' b';binOp op t a' b')))) v:=by
 have slow:∀a b,VRel μ a a'→VRel μ b b'→slowBin P op t x y a b=some v→
  Gives P μ (do pure (Next.value (←(do eqGuard op t x y a' b';binOp op t a' b')))) v:=by
  intro a b ha hb h
  unfold slowBin at h
  cases hp:(plain4 a&&plain4 b) with
  |true=>
   rw[hp] at h
   rw[Bool.and_eq_true] at hp
   exact bin_of_plain hp.1 hp.2 ha hb h
  |false=>
   rw[hp] at h
   exact nilCmp_gives ha hb h
 cases a with
 |int k n=>
  simp only[valBin] at h
  cases b with
  |int k' m=>
   simp only[intBin] at h
   cases hf:fInt op with
   |none=>rw[hf] at h;exact slow _ _ ha hb h
   |some f=>
    rw[hf] at h
    obtain rfl:=ha.inv_int
    obtain rfl:=hb.inv_int
    obtain⟨h1,h2⟩:=fInt_run (P:=P) hf h t
    refine fun w=>⟨v,run_v (prun_run ?_ w),.plain 4 h2⟩
    rw[prun_bind,eqGuard_int]
    exact h1
  |_=>exact slow _ _ ha hb h
 |_=>exact slow _ _ ha hb h
end
end
section
section
variable{P:Program}{μ:Mu}
theorem size_some{t:TypeId}{n:Nat}(h:size? P t=some n):∃i,P.info? t=some i∧i.size=n:=by
 unfold size? at h
 cases hi:P.info? t with
 |none=>rw[hi] at h;cases h
 |some i=>rw[hi] at h;simp at h;exact⟨i,rfl,h⟩
theorem prun_size{t:TypeId}{n:Nat}(h:size? P t=some n):prun P (sizeOf t)=some n:=by
 obtain⟨i,hi,rfl⟩:=size_some h
 simp[sizeOf,typeInfo,program,hi,Bind.bind,Sem.bind,prun,pure]
theorem run_size{t:TypeId}{n:Nat}(h:size? P t=some n)(w:World):(sizeOf t).run P w= .ok n w:=prun_run (prun_size h) w
theorem add_addr(b off n:Nat):(⟨b,off,none⟩:Addr).add n=⟨b,off+n,none⟩:=by
 unfold Addr.add
 split
 ·rename_i h;subst h;rfl
 ·rfl
theorem upTo_some{n i:Nat}{v:Value}(h:upTo n v=some i):∃k,v= .int k (i:Int)∧i≤n:=by
 unfold upTo at h
 split at h
 ·rename_i k j
  split at h
  ·rename_i hle
   simp at h
   subst h
   exact⟨k,rfl,hle⟩
  ·cases h
 ·cases h
theorem prun_bound{n i:Nat}{k:IntKind}(code:BoundsCode)(h:i≤n):prun P (Instr.sliceBound (.int k (i:Int)) n code)=some i:=by
 have h1:(0:Int)≤(i:Int)∧(i:Int)≤(n:Int):=by omega
 simp[Instr.sliceBound,asIntOf,prun_pure,h1]
theorem opt_rel{ρ ρ':Env}{x:Option Operand}(hp:optAll ρ x=true)(hx:∀y,x=some y→VRel μ (ρ y) (ρ' y)):x.map ρ'=x.map ρ:=by
 cases x with
 |none=>rfl
 |some y=>simp[plain4_eq (show plain4 (ρ y)=true from hp) (hx y rfl)]
theorem slice_gives{t:TypeId}{e:TypeId}{i off len cap:Nat}{sp:Option Nat}{lo hi:Option Value}{x' v:Value}(hu:P.underlying t=some (.slice e))
 (hx:VRel μ (.slice (some ⟨i,off,sp⟩) len cap) x')(h:sliceAt' P e ⟨i,off,sp⟩ len cap lo hi=some v):
 ∃v',prun P (Instr.sliceAt t x' lo hi none)=some v'∧VRel μ v v':=by
 unfold sliceAt' at h
 cases hh:sliceHigh len cap hi with
 |none=>rw[hh] at h;cases h
 |some hgh=>
  rw[hh] at h
  simp only at h
  cases hl:sliceLow hgh lo with
  |none=>rw[hl] at h;cases h
  |some l=>
   rw[hl] at h
   simp only at h
   cases hs:size? P e with
   |none=>rw[hs] at h;cases h
   |some s=>
    rw[hs] at h
    cases sp with
    |some _=>cases s<;>cases h
    |none=>
    cases s with
    |zero=>cases h
    |succ s=>
     simp only at h
     obtain⟨b,o,cap',hm,hc,h0,rfl⟩:=hx.inv_slice
     have hb:prun P (Instr.sliceBounds true len cap' lo hi none)=some (l,hgh,cap')∧hgh≤cap∧l≤hgh:=by
      have h1:(∃code,hi=none∧hgh=len∧len≤cap∧code=())∨∃k,hi=some (.int k (hgh:Int))∧hgh≤cap:=by
       unfold sliceHigh at hh
       cases hi with
       |none=>
        obtain⟨h1,h2⟩:=cond_some hh
        simp at h2
        exact .inl ⟨(),rfl,h2.symm,Nat.le_of_ble_eq_true h1,rfl⟩
       |some y=>obtain⟨k,rfl,hle⟩:=upTo_some hh;exact .inr ⟨k,rfl,hle⟩
      have h2:(lo=none∧l=0)∨∃k,lo=some (.int k (l:Int))∧l≤hgh:=by
       unfold sliceLow at hl
       cases lo with
       |none=>simp at hl;exact .inl ⟨rfl,hl.symm⟩
       |some y=>obtain⟨k,rfl,hle⟩:=upTo_some hl;exact .inr ⟨k,rfl,hle⟩
      unfold Instr.sliceBounds
      rcases h1 with⟨_,rfl,rfl,hle,_⟩|⟨k,rfl,hle⟩<;>rcases h2 with⟨rfl,rfl⟩|⟨k',rfl,hle'⟩
      ·exact⟨by simp[prun_pure],hle,Nat.zero_le _⟩
      ·exact⟨by simp[prun_map,prun_bound _ hle'],hle,hle'⟩
      ·exact⟨by simp[prun_map,prun_bound _ (Nat.le_trans hle hc)],hle,Nat.zero_le _⟩
      ·exact⟨by simp[prun_bind,prun_map,prun_bound _ (Nat.le_trans hle hc),prun_bound _ hle'],hle,hle'⟩
     obtain⟨hb1,hb2,hb3⟩:=hb
     have hrun:prun P (Instr.sliceAt t (.slice (some ⟨b,o+off,none⟩) len cap') lo hi none)=
      some (.slice (if cap'=l then some ⟨b,o+off,none⟩ else some ((⟨b,o+off,none⟩:Addr).add (l*(s+1)))) (hgh-l) (cap'-l)):=by
      simp[Instr.sliceAt,Instr.slice,prun_bind,prun_map,prun_und,hu,hb1,prun_size hs]
     refine⟨_,hrun,?_⟩
     split at h
     ·rename_i e
      subst e
      simp at h
      subst h
      rw[Nat.sub_self]
      split<;>exact .slc0
     ·rename_i hne
      simp at h
      subst h
      rw[if_neg (by omega),add_addr,add_addr,Nat.add_assoc]
      refine .slc hm (by omega) fun e=> ?_
      have hl0:l=0:=by
       have h1:l*(s+1)=0:=by omega
       rcases Nat.mul_eq_zero.1 h1 with h2|h2
       ·exact h2
       ·omega
      subst hl0
      rw[Nat.sub_zero]
      exact h0 (by omega)
theorem pslice_gives{t:TypeId}{x x' v:Value}{lo hi mx:Option Value}(hx:VRel μ x x')(h:pSlice' P t x lo hi mx=some v):
 ∃v',prun P (Instr.sliceAt t x' lo hi mx)=some v'∧VRel μ v v':=by
 have plainCase:plain4 x=true→ifPlain (prun P (Instr.sliceAt t x lo hi mx))=some v→∃v',prun P (Instr.sliceAt t x' lo hi mx)=some v'∧VRel μ v v':=by
  intro hp h
  rw[plain4_eq hp hx]
  obtain⟨h1,h2⟩:=ifPlain_some h
  exact⟨v,h1,.plain 4 h2⟩
 unfold pSlice' at h
 split at h
 ·rename_i a len cap
  obtain⟨i,off,sp⟩:=a
  cases hu:P.underlying t with
  |none=>rw[hu] at h;cases h
  |some d=>
   rw[hu] at h
   cases d with
   |slice e=>
    cases mx with
    |none=>exact slice_gives hu hx h
    |some _=>cases h
   |_=>cases h
 ·obtain⟨h1,h2⟩:=cond_some h
  exact plainCase h1 h2
theorem fieldAddr_gives'{s:TypeId}{fs:Array Field}{f:Nat}{a:Addr}{x' v:Value}(hu:P.underlying s=some (.struct fs))(hx:VRel μ (.pointer (some a)) x')
 (h:pFieldAddr' P fs[f]? a=some v):∃v',prun P (Instr.fieldAt s x' f)=some v'∧VRel μ v v':=by
 unfold pFieldAddr' at h
 cases hf:fs[f]? with
 |none=>rw[hf] at h;cases h
 |some fd=>
  rw[hf] at h
  simp only at h
  obtain⟨i,off,sp⟩:=a
  obtain⟨rfl,b,o,hm,rfl⟩:=hx.inv_ptr
  cases hs:size? P fd.type with
  |none=>rw[hs] at h;cases h
  |some n=>
   rw[hs] at h
   cases n with
   |zero=>cases h
   |succ n=>
    simp at h
    subst h
    refine⟨.pointer (some ((⟨b,o+off,none⟩:Addr).add fd.offset)),?_,?_⟩
    ·simp[Instr.fieldAt,prun_bind,prun_map,prun_und,hu,hf,Instr.sureAddr,prun_pure,fieldPlace,prun_size hs]
    ·rw[add_addr,add_addr,Nat.add_assoc]
     exact .ptr hm
theorem fieldAddr_gives{s:TypeId}{f:Nat}{x x' v:Value}(hx:VRel μ x x')(h:fldOf P s x f=some v):
 ∃v',prun P (Instr.fieldAt s x' f)=some v'∧VRel μ v v':=by
 unfold fldOf at h
 cases hu:P.underlying s with
 |none=>rw[hu] at h;cases h
 |some d=>
  rw[hu] at h
  cases d with
  |struct fs=>
   cases x with
   |pointer a=>
    cases a with
    |none=>cases h
    |some a=>exact fieldAddr_gives' hu hx h
   |_=>cases h
  |_=>cases h
theorem idx_some{e:TypeId}{a:Addr}{len:Nat}{i v:Value}(h:idxAddr P e a len i=some v):
 ∃k j s,i= .int k ((j:Nat):Int)∧j<len∧size? P e=some s∧a.spot=none∧v= .pointer (some (a.add (j*s))):=by
 unfold idxAddr at h
 split at h
 ·rename_i k j
  obtain⟨h1,h2⟩:=cond_some h
  split at h2
  ·rename_i s hs hsp
   simp at h2
   exact⟨k,j,s,rfl,Nat.le_of_ble_eq_true h1,hs,hsp,h2.symm⟩
  ·cases h2
 ·cases h
theorem indexAddr_gives{t:TypeId}{x x' i i' v:Value}(hx:VRel μ x x')(hi:VRel μ i i')
 (h:idxOf P t x i=some v):∃v',prun P (Instr.indexAt t x' i')=some v'∧VRel μ v v':=by
 unfold idxOf at h
 cases hu:P.underlying t with
 |none=>rw[hu] at h;cases h
 |some d=>
  rw[hu] at h
  cases d with
  |slice e=>
   cases x with
   |slice a len cap=>
    cases a with
    |none=>cases h
    |some a=>
     obtain⟨b,off,sp⟩:=a
     obtain⟨k,j,s,rfl,hj,hs,hsp,rfl⟩:=idx_some h
     obtain rfl:=hi.inv_int
     obtain rfl:sp=none:=hsp
     obtain⟨b',o,cap',hm,_,_,rfl⟩:=hx.inv_slice
     refine⟨.pointer (some ((⟨b',o+off,none⟩:Addr).add (j*s))),?_,?_⟩
     ·simp[Instr.indexAt,asIntOf,prun_bind,prun_map,prun_und,hu,prun_size hs,hj]
     ·rw[add_addr,add_addr,Nat.add_assoc]
      exact .ptr hm
   |_=>cases h
  |array len e=>
   cases x with
   |pointer a=>
    cases a with
    |none=>cases h
    |some a=>
     obtain⟨b,off,sp⟩:=a
     obtain⟨k,j,s,rfl,hj,hs,hsp,rfl⟩:=idx_some h
     obtain rfl:=hi.inv_int
     obtain⟨rfl,b',o,hm,rfl⟩:=hx.inv_ptr
     refine⟨.pointer (some ((⟨b',o+off,none⟩:Addr).add (j*s))),?_,?_⟩
     ·simp[Instr.indexAt,asIntOf,prun_bind,prun_map,prun_und,hu,prun_size hs,hj,Instr.sureAddr]
     ·rw[add_addr,add_addr,Nat.add_assoc]
      exact .ptr hm
   |_=>cases h
  |_=>cases h
theorem len_gives{ts:Array TypeId}{ty:TypeId}{x x' v:Value}(hx:VRel μ x x')(h:pLen' P ts ty x=some v):
 ∃v',prun P (Builtin.len_ ts ty #[x'])=some v'∧VRel μ v v':=by
 unfold pLen' at h
 split at h
 ·rename_i a n m
  obtain⟨a',m',rfl⟩:=hx.inv_slice_any
  split at h
  ·rename_i e hu
   simp at h
   subst h
   cases ht:ts[0]? with
   |none=>rw[ht] at hu;cases hu
   |some t=>
    rw[ht] at hu
    refine⟨_,?_,.int _ _⟩
    simp[Builtin.len_,ht,prun_bind,prun_und,show P.underlying t=_ from hu,prun_pure,goInt]
  ·cases h
 ·obtain⟨h1,h2⟩:=cond_some h
  rw[plain4_eq h1 hx]
  obtain⟨h3,h4⟩:=ifPlain_some h2
  exact⟨v,h3,.plain 4 h4⟩
theorem pure_sound{o:Oper}{f:PFn}{ρ ρ':Env}{v:Value}(hk:kindOf o.op o.type= .pure f)(hρ:∀x∈o.op.operands.toList,VRel μ (ρ x) (ρ' x))
 (hf:f P ρ=some v):Gives P μ (execOp ρ' o) v:=by
 have lift:∀{s:Sem Value},(∃v',prun P s=some v'∧VRel μ v v')→Gives P μ (do pure (Next.value (←s))) v:=
  fun ⟨v',h1,h2⟩ w=>⟨v',run_v (prun_run h1 w),h2⟩
 have same:∀{s s':Sem Value},ifPlain (prun P s)=some v→s'=s→∃v',prun P s'=some v'∧VRel μ v v':=by
  intro s s' h e
  obtain⟨h1,h2⟩:=ifPlain_some h
  exact⟨v,by rw[e];exact h1,.plain 4 h2⟩
 obtain⟨dst,op,type,pos,after,guard⟩:=o
 cases op<;>simp only[kindOf,reduceCtorEq,Kind.pure.injEq] at hk
 case move x=>
  subst hk
  simp[pMove] at hf
  subst hf
  exact fun w=>⟨_,rfl,hρ x (by simp[Op.operands])⟩
 case assign x=>
  subst hk
  simp[pMove] at hf
  subst hf
  exact fun w=>⟨_,rfl,hρ x (by simp[Op.operands])⟩
 case pick c a b=>
  subst hk
  have hc:=hρ c (by simp[Op.operands])
  have ha:=hρ a (by simp[Op.operands])
  have hb:=hρ b (by simp[Op.operands])
  simp only[pPick,pPick'] at hf
  intro w
  split at hf
  ·rename_i e
   rw[e] at hc
   simp at hf
   subst hf
   exact⟨ρ' a,by simp[execOp,hc.inv_bool,asBool],ha⟩
  ·rename_i e
   rw[e] at hc
   simp at hf
   subst hf
   exact⟨ρ' b,by simp[execOp,hc.inv_bool,asBool],hb⟩
  ·cases hf
 case build t parts=>
  subst hk
  obtain⟨h1,h2⟩:=cond_some hf
  refine lift ?_
  have e:∀g:Env,(parts.map fun(p:Nat×Operand)=>(p.1,g p.2))=(parts.toList.map fun p=>(p.1,g p.2)).toArray:=fun g=>by
   cases parts;simp
  have:=build_rel (P:=P) (μ:=μ) (t:=t) (ps:=parts.toList.map fun p=>(p.1,ρ p.2)) (ps':=parts.toList.map fun p=>(p.1,ρ' p.2)) (v:=v)
   (by simp) (by
     simp only[List.map_map]
     exact LRel.map fun p hp=>hρ p.2 (by simp[Op.operands];exact⟨p.1,by simpa using hp⟩)) h1 (by rw[←e];exact h2)
  rw[←e] at this
  exact this
 case nilCheck x=>
  subst hk
  have hx:=hρ x (by simp[Op.operands])
  simp only[pNilCheck,pNilCheck'] at hf
  intro w
  split at hf
  ·rename_i a e
   rw[e] at hx
   simp at hf
   subst hf
   obtain⟨i,off,sp⟩:=a
   obtain⟨rfl,b,o,hm,he⟩:=hx.inv_ptr
   exact⟨_,by simp only[execOp,he];rfl,.ptr hm⟩
  ·rename_i g a b e
   rw[e] at hx
   simp at hf
   subst hf
   obtain⟨a',c',he,h1,h2⟩:=hx.inv_func (by simp)
   rw[he] at hx
   exact⟨_,by simp only[execOp,he];rfl,hx⟩
  ·rename_i g a b e
   rw[e] at hx
   simp at hf
   subst hf
   obtain⟨b',hm,he⟩:=hx.inv_yield
   rw[he] at hx
   exact⟨_,by simp only[execOp,he];rfl,hx⟩
  ·cases hf
 case binOp op t x y t'=>
  subst hk
  exact valBin_gives (hρ x (by simp[Op.operands])) (hρ y (by simp[Op.operands])) hf
 case unOp op t x=>
  subst hk
  obtain⟨h1,h2⟩:=cond_some hf
  exact lift (same h2 (by rw[plain4_eq h1 (hρ x (by simp[Op.operands]))]))
 case convert s d x=>
  subst hk
  obtain⟨h1,h2⟩:=cond_some hf
  exact lift (same h2 (by rw[plain4_eq h1 (hρ x (by simp[Op.operands]))]))
 case makeInterface t x=>
  subst hk
  obtain⟨h1,h2⟩:=cond_some hf
  exact lift (same h2 (by rw[plain4_eq h1 (hρ x (by simp[Op.operands]))]))
 case makeFunc fn first cap=>
  subst hk
  unfold pMakeFunc at hf
  have hfn:∀l,fn≠.yield l:=by rintro l rfl;cases hf
  have hv:v= .func fn (first.map ρ) (cap.map ρ):=by
   cases fn<;>first|exact(by simpa using hf.symm)|exact absurd rfl (hfn _)
  subst hv
  refine fun w=>⟨.func fn (first.map ρ') (cap.map ρ'),rfl,?_⟩
  have h1:LRel μ (first.toList.map ρ) (first.toList.map ρ'):=LRel.map fun x hx=>hρ x (by simp[Op.operands];left;simpa using hx)
  have h2:LRel μ (cap.toList.map ρ) (cap.toList.map ρ'):=LRel.map fun x hx=>hρ x (by simp[Op.operands];right;simpa using hx)
  have e:∀(g:Env)(l:Array Operand),l.map g=⟨l.toList.map g⟩:=fun g l=>by cases l;simp
  rw[e ρ,e ρ,e ρ',e ρ']
  exact .func hfn h1 h2
 case slice t x lo hi mx=>
  subst hk
  obtain⟨h1,h2⟩:=cond_some hf
  simp only[Bool.and_eq_true] at h1
  refine lift ?_
  have hx:=hρ x (by simp[Op.operands])
  rw[opt_rel h1.1.1 (fun y hy=>hρ y (by simp[Op.operands,hy])),opt_rel h1.1.2 (fun y hy=>hρ y (by simp[Op.operands,hy])),opt_rel h1.2 (fun y hy=>hρ y (by simp[Op.operands,hy]))]
  exact pslice_gives hx h2
 case fieldAddr s x f=>
  subst hk
  exact lift (fieldAddr_gives (hρ x (by simp[Op.operands])) hf)
 case field t x f=>
  subst hk
  exact lift (field_rel (hρ x (by simp[Op.operands])) hf)
 case indexAddr t x i=>
  subst hk
  exact lift (indexAddr_gives (hρ x (by simp[Op.operands])) (hρ i (by simp[Op.operands])) hf)
 case index t x i=>
  subst hk
  obtain⟨h1,h2⟩:=cond_some hf
  rw[Bool.and_eq_true] at h1
  exact lift (same h2 (by rw[plain4_eq h1.1 (hρ x (by simp[Op.operands])),plain4_eq h1.2 (hρ i (by simp[Op.operands]))]))
 case typeAssert x t u ok=>
  subst hk
  obtain⟨h1,h2⟩:=cond_some hf
  exact lift (same h2 (by rw[plain4_eq h1 (hρ x (by simp[Op.operands]))]))
 case extract x i=>
  subst hk
  exact lift (extract_rel (hρ x (by simp[Op.operands])) hf)
 case call c=>
  obtain⟨callee,args,ts⟩:=c
  simp only[callKind] at hk
  cases callee with
  |value f=>cases hk
  |invoke r m=>cases hk
  |builtin b=>
   simp only[builtinKind] at hk
   have hargs:∀x∈args.toList,VRel μ (ρ x) (ρ' x):=fun x hx=>hρ x (by simp[Op.operands,Call.operands];simpa using hx)
   have eqargs:args.toList.all (fun x=>plain4 (ρ x))=true→args.map ρ'=args.map ρ:=by
    intro h
    apply Array.map_congr_left
    intro x hx
    exact plain4_eq (List.all_eq_true.1 h x (by simpa using hx)) (hargs x (by simpa using hx))
   have reduce:∀s:Sem Value,Gives P μ (do pure (Next.value (←s))) v→∀s',s'=s→Gives P μ (do pure (Next.value (←s'))) v:=fun s h s' e=>e▸h
   cases b<;>simp only[reduceCtorEq,Kind.pure.injEq] at hk
   case len=>
    subst hk
    simp only[pLen] at hf
    split at hf
    ·rename_i x e
     have e':args=#[x]:=by cases args;simp at e;simp[e]
     subst e'
     have hx:=hargs x (by simp)
     obtain⟨v',h1,h2⟩:=len_gives hx hf
     refine fun w=>⟨v',?_,h2⟩
     have:=run_v (prun_run h1 w)
     simpa [execOp,resolve,invoke,builtin] using this
    ·cases hf
   case max=>
    subst hk
    obtain⟨h1,h2⟩:=cond_some hf
    obtain⟨h3,h4⟩:=ifPlain_some h2
    refine fun w=>⟨v,?_,.plain 4 h4⟩
    have:=run_v (prun_run h3 w)
    rw[←eqargs h1] at this
    simpa [execOp,resolve,invoke,builtin] using this
   case min=>
    subst hk
    obtain⟨h1,h2⟩:=cond_some hf
    obtain⟨h3,h4⟩:=ifPlain_some h2
    refine fun w=>⟨v,?_,.plain 4 h4⟩
    have:=run_v (prun_run h3 w)
    rw[←eqargs h1] at this
    simpa [execOp,resolve,invoke,builtin] using this
end
end
end Go.Eng
