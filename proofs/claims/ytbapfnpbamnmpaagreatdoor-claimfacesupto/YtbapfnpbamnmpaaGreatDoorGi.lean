/- A part of the proof that ClaimFaces answers true for every input of bulk at most 1048576: conditions: the row's own. -/
import Derived.Test.YtbapfnpbamnmpaaGreatDoorGf
import Derived.Test.YtbapfnpbamnmpaaGreatDoorSc
import Derived.Test.YtbapfnpbamnmpaaGreatDoorVb
import Derived.ChangeArms
import Derived.Test.YtbapfnpbamnmpaaGreatDoorRows
namespace Go.Proofs.YtbapfnpbamnmpaaGreatDoor
section
open Go Go.RowKit Go.Dig Go.Deep
open Go.Eng (Kept KW KeptB wp_region_kw kw_call)
end
section
open Go Go.RowKit Go.Dig
open Go.Eng (Kept)
theorem bulk_one{H:Type}(d:DataW H):1≤Rows.uptoBulk d:=by
 cases d with
 |lit l=>cases l<;>simp[Rows.uptoBulk]
 |nil=>simp[Rows.uptoBulk]
 |ptr d=>simp[Rows.uptoBulk]
 |slice elems spare=>simp[Rows.uptoBulk]
 |agg parts=>simp[Rows.uptoBulk]
 |iface t d=>simp[Rows.uptoBulk]
 |map entries=>simp[Rows.uptoBulk]
 |held h=>simp[Rows.uptoBulk]
theorem bulk_part{H:Type}{d:DataW H}{l:List (DataW H)}(h:d∈l):Rows.uptoBulk d≤Rows.uptoBulkAll l:=by
 induction l with
 |nil=>cases h
 |cons x r ih=>
  simp only[Rows.uptoBulkAll]
  cases List.mem_cons.1 h with
  |inl e=>subst e;omega
  |inr e=>have:=ih e;omega
theorem bulk_length{H:Type}(l:List (DataW H)):l.length≤Rows.uptoBulkAll l:=by
 induction l with
 |nil=>simp[Rows.uptoBulkAll]
 |cons x r ih=>have:=bulk_one x;simp only[Rows.uptoBulkAll,List.length_cons];omega
theorem addr_add(b off n:Nat):Addr.add ⟨b,off,none⟩ n=⟨b,off+n,none⟩:=by
 unfold Addr.add
 split<;>simp_all
section
variable{H:Type}{enc:TypeId×Value→H}{w:World}{sp:Nat→Bool}{hd:Bool}
noncomputable abbrev trO(enc:TypeId×Value→H)(w:World)(sp:Nat→Bool)(hd:Bool):=DataW.trod enc Tryz.prog w 0 sp hd
theorem open_sl{t e C fuel:Nat}{cs:List Value}{y:DataW H×List MemPlace}(ht:Tryz.prog.underlying t=some (.slice e))(hC:Tryz.prog.cellsOf e=C)(hpos:0<C)(h:trO enc w sp hd fuel t cs=some y):
 ∃(a:Option Addr)(len cap:Nat)(xs:List (DataW H×List MemPlace)),cs=[.slice a len cap]∧len≤cap∧cap≤maxLen∧xs.length=len∧Rows.uptoBulkAll (xs.map (·.1))+1≤Rows.uptoBulk y.1∧
  ∀i(hi:i<xs.length),∃(b off n:Nat)(cs':List Value),a=some ⟨b,off,none⟩∧cs'.length=C∧(∀j,j<C→w.cell? ⟨b,off+i*C+j,none⟩=cs'[j]?)∧fuel=n+1∧trO enc w sp hd n e cs'=some xs[i]:=by
 rcases DataW.trod_slice ht h with⟨rfl,rfl⟩|⟨a,len,cap,elems,rest,n,hf,rfl,rfl,hb,hl,hm,hlen,hel,-,-⟩
 ·exact⟨none,0,0,[],rfl,Nat.le_refl _,Nat.zero_le _,rfl,by simp[Rows.uptoBulkAll,Rows.uptoBulk],fun i hi=>absurd hi (Nat.not_lt_zero i)⟩
 ·refine⟨some a,len,cap,elems,rfl,hl,hm,hlen,by simp only[Rows.uptoBulk];omega,fun i hi=> ?_⟩
  have h1:=hel i (by omega)
  rw[List.getElem?_eq_getElem hi,hC] at h1
  obtain⟨cs',hcs,htr⟩:=Option.bind_eq_some_iff.1 h1
  obtain⟨_,hl',hc⟩:=World.cells?_some hcs
  have hsp:(a.add (i*C)).spot=none:=by
   have h0:=hc 0 hpos
   rw[List.getElem?_eq_getElem (by omega)] at h0
   have:=World.cell?_spot h0
   simpa [Addr.add] using this
  have hsa:a.spot=none:=by
   have h00:=hel 0 (by omega)
   rw[List.getElem?_eq_getElem (by omega)] at h00
   obtain⟨c0,hc0,_⟩:=Option.bind_eq_some_iff.1 h00
   rw[hC] at hc0
   obtain⟨_,hl0,hcc⟩:=World.cells?_some hc0
   have h0:=hcc 0 hpos
   rw[List.getElem?_eq_getElem (by omega)] at h0
   have:=World.cell?_spot h0
   simpa [Addr.add] using this
  obtain⟨b,off,s⟩:=a
  obtain rfl:s=none:=hsa
  refine⟨b,off,n,cs',rfl,hl',fun j hj=> ?_,hf,htr⟩
  have:=hc j hj
  rwa [addr_add,addr_add] at this
end
end
section
open Go Go.RowKit Go.Dig
open Go.Eng (Kept)
theorem len2{α:Type}{l:List α}(h:l.length=2):∃a b,l=[a,b]:=by
 match l,h with
 |[a,b],_=>exact⟨a,b,rfl⟩
theorem len3{α:Type}{l:List α}(h:l.length=3):∃a b c,l=[a,b,c]:=by
 match l,h with
 |[a,b,c],_=>exact⟨a,b,c,rfl⟩
theorem len4{α:Type}{l:List α}(h:l.length=4):∃a b c d,l=[a,b,c,d]:=by
 match l,h with
 |[a,b,c,d],_=>exact⟨a,b,c,d,rfl⟩
theorem len5{α:Type}{l:List α}(h:l.length=5):∃a b c d e,l=[a,b,c,d,e]:=by
 match l,h with
 |[a,b,c,d,e],_=>exact⟨a,b,c,d,e,rfl⟩
theorem len7{α:Type}{l:List α}(h:l.length=7):∃a b c d e f g,l=[a,b,c,d,e,f,g]:=by
 match l,h with
 |[a,b,c,d,e,f,g],_=>exact⟨a,b,c,d,e,f,g,rfl⟩
theorem len8{α:Type}{l:List α}(h:l.length=8):∃a b c d e f g i,l=[a,b,c,d,e,f,g,i]:=by
 match l,h with
 |[a,b,c,d,e,f,g,i],_=>exact⟨a,b,c,d,e,f,g,i,rfl⟩
theorem len9{α:Type}{l:List α}(h:l.length=9):∃a b c d e f g i j,l=[a,b,c,d,e,f,g,i,j]:=by
 match l,h with
 |[a,b,c,d,e,f,g,i,j],_=>exact⟨a,b,c,d,e,f,g,i,j,rfl⟩
theorem len10{α:Type}{l:List α}(h:l.length=10):∃a b c d e f g i j k,l=[a,b,c,d,e,f,g,i,j,k]:=by
 match l,h with
 |[a,b,c,d,e,f,g,i,j,k],_=>exact⟨a,b,c,d,e,f,g,i,j,k,rfl⟩
theorem c3:Tryz.prog.cellsOf 3=1:=by kernel_rfl
theorem c4:Tryz.prog.cellsOf 4=1:=by kernel_rfl
theorem c9:Tryz.prog.cellsOf 9=1:=by kernel_rfl
theorem c22:Tryz.prog.cellsOf 22=1:=by kernel_rfl
theorem c24:Tryz.prog.cellsOf 24=3:=by kernel_rfl
theorem c25:Tryz.prog.cellsOf 25=1:=by kernel_rfl
theorem c27:Tryz.prog.cellsOf 27=7:=by kernel_rfl
theorem c28:Tryz.prog.cellsOf 28=1:=by kernel_rfl
theorem c29:Tryz.prog.cellsOf 29=1:=by kernel_rfl
theorem c31:Tryz.prog.cellsOf 31=10:=by kernel_rfl
theorem c39:Tryz.prog.cellsOf 39=8:=by kernel_rfl
theorem c41:Tryz.prog.cellsOf 41=9:=by kernel_rfl
theorem c93:Tryz.prog.cellsOf 93=8:=by kernel_rfl
theorem c191:Tryz.prog.cellsOf 191=1:=by kernel_rfl
section
variable{H:Type}{enc:TypeId×Value→H}{w:World}{sp:Nat→Bool}{hd:Bool}{B:Nat}
theorem bulk_at{x:DataW H×List MemPlace}{xs:List (DataW H×List MemPlace)}{q:List MemPlace}(h:Rows.uptoBulk ((DataW.agg (xs.map (·.1)),q):DataW H×List MemPlace).1≤B)(hm:x∈xs):Rows.uptoBulk x.1≤B:=by
 have h1:=bulk_part (List.mem_map_of_mem (f:=(·.1)) hm)
 have h2:1+Rows.uptoBulkAll (xs.map (·.1))≤B:=by
  have h3:Rows.uptoBulk (DataW.agg (xs.map (·.1)))≤B:=h
  simp only[Rows.uptoBulk] at h3
  omega
 exact Nat.le_trans h1 (by omega)
theorem fld{m:Nat}{fs:Array Field}{cs:List Value}{xs:List (DataW H×List MemPlace)}
 (hf:∀(i:Nat)(f:Field),fs[i]? =some f→DataW.trod enc Tryz.prog w 0 sp hd m f.type ((cs.drop f.offset).take (Tryz.prog.cellsOf f.type))=xs[i]?)
 (i:Nat){f:Field}{C:Nat}(hi:fs[i]? =some f)(hC:Tryz.prog.cellsOf f.type=C):trO enc w sp hd m f.type ((cs.drop f.offset).take C)=xs[i]? :=by
 subst hC
 exact hf i f hi
theorem open_raw{fuel:Nat}{cs:List Value}{y:DataW H×List MemPlace}(h:trO enc w sp hd fuel 22 cs=some y)(hb:Rows.uptoBulk y.1≤B)(hB:B≤1048576):
 ∃(a:Option Addr)(n cap m:Nat),cs=[.slice a n cap]∧Raw w (.slice a n cap) m:=by
 obtain⟨a,len,cap,xs,rfl,hl,hm,hx,hbk,hel⟩:=open_sl (C:=1) Tryz.underlying22 c191 (by decide) h
 have hlen:=bulk_length (xs.map (·.1))
 rw[List.length_map] at hlen
 have hc:∀i:Nat,∃k:Nat,i<len→k<4294967296∧∃b off,a=some ⟨b,off,none⟩∧w.cell? ⟨b,off+i,none⟩=some (.int .u32 (k:Nat)):=by
  intro i
  by_cases hi:i<len
  ·obtain⟨b,off,n,cs',ha,hl',hcell,-,htr⟩:=hel i (by omega)
   obtain⟨k,rfl,-,hwf⟩:=DataW.trod_int (k:=.u32) Tryz.underlying191 htr
   have hc0:=hcell 0 (by decide)
   have h2:0≤k∧k≤4294967295:=by
    have h3:(decide (IntKind.min .u32≤k)&&decide (k≤IntKind.max .u32))=true:=hwf
    simp only[Bool.and_eq_true,decide_eq_true_eq] at h3
    have e1:IntKind.min .u32=0:=by decide
    have e2:IntKind.max .u32=4294967295:=by decide
    omega
   refine⟨k.toNat,fun _=>⟨by omega,b,off,ha,?_⟩⟩
   have e3:((k.toNat:Nat):Int)=k:=by omega
   rw[e3]
   simpa using hc0
  ·exact⟨0,fun h=>absurd h hi⟩
 obtain⟨zs,hzs⟩:=Classical.axiomOfChoice hc
 exact⟨a,len,cap,val 4294967296 zs len,rfl,a,len,cap,zs,rfl,hl,by omega,fun i hi=>(hzs i hi).1,rfl,fun i hi=>(hzs i hi).2⟩
theorem open_rat{fuel:Nat}{cs:List Value}{y:DataW H×List MemPlace}(h:trO enc w sp hd fuel 24 cs=some y)(hb:Rows.uptoBulk y.1≤B)(hB:B≤1048576):
 ∃(s:Bool)(a:Option Addr)(n c:Nat)(a':Option Addr)(n' c' N D:Nat),cs=[.bool s,.slice a n c,.slice a' n' c']∧Rt w (.agg #[.bool s,.slice a n c,.slice a' n' c']) s N D:=by
 obtain⟨xs,m,rfl,rfl,hl,hx,hf⟩:=DataW.trod_struct Tryz.underlying24 h
 rw[c24] at hl
 obtain⟨u0,u1,u2,rfl⟩:=len3 hl
 obtain⟨x0,x1,x2,rfl⟩:=len3 (l:=xs) hx
 have h0:trO enc w sp hd m 4 [u0]=some x0:=by have q:=fld hf 0 rfl c4;exact q
 have h1:trO enc w sp hd m 22 [u1]=some x1:=by have q:=fld hf 1 rfl c22;exact q
 have h2:trO enc w sp hd m 22 [u2]=some x2:=by have q:=fld hf 2 rfl c22;exact q
 obtain⟨s,e0,-⟩:=DataW.trod_bool Tryz.underlying4 h0
 obtain⟨a,n,c,N,e1,r1⟩:=open_raw h1 (bulk_at hb (by simp)) hB
 obtain⟨a',n',c',D,e2,r2⟩:=open_raw h2 (bulk_at hb (by simp)) hB
 simp only[List.cons.injEq,and_true] at e0 e1 e2
 subst e0 e1 e2
 exact⟨s,a,n,c,a',n',c',N,D,rfl,_,_,rfl,r1,r2⟩
theorem Ex.mono:∀(f:Nat){v:Value}{t:Tree},Ex w f v t→Ex w (f+1) v t
 |0,_,_,h=>h.elim
 |f+1,v,.node op arg s N D name kids,⟨x1,x2,x3,x4,x5,x6,a,cap,hv,hc,hr,hn,hk⟩=>by
  refine⟨x1,x2,x3,x4,x5,x6,a,cap,hv,hc,hr,hn,fun i h=> ?_⟩
  obtain⟨b,off,cs,ha,hs,hcell,he⟩:=hk i h
  exact⟨b,off,cs,ha,hs,hcell,Ex.mono f he⟩
theorem Ex.le{f f':Nat}{v:Value}{t:Tree}(hle:f≤f')(h:Ex w f v t):Ex w f' v t:=by
 induction hle with
 |refl=>exact h
 |step _ ih=>exact ih.mono _
theorem open_expr:∀(fuel:Nat){cs:List Value}{y:DataW H×List MemPlace},trO enc w sp hd fuel 27 cs=some y→Rows.uptoBulk y.1≤B→B≤1048576→
 cs.length=7∧∃t,Ex w fuel (.agg cs.toArray) t:=by
 intro fuel
 induction fuel using Nat.strongRecOn with
 |ind fuel ih=>
 intro cs y h hb hB
 obtain⟨xs,m,rfl,rfl,hl,hx,hf⟩:=DataW.trod_struct Tryz.underlying27 h
 rw[c27] at hl
 refine⟨hl,?_⟩
 obtain⟨u0,u1,u2,u3,u4,u5,u6,rfl⟩:=len7 hl
 obtain⟨z0,z1,z2,z3,z4,rfl⟩:=len5 (l:=xs) hx
 have h0:trO enc w sp hd m 3 [u0]=some z0:=by have q:=fld hf 0 rfl c3;exact q
 have h1:trO enc w sp hd m 3 [u1]=some z1:=by have q:=fld hf 1 rfl c3;exact q
 have h2:trO enc w sp hd m 24 [u2,u3,u4]=some z2:=by have q:=fld hf 2 rfl c24;exact q
 have h3:trO enc w sp hd m 9 [u5]=some z3:=by have q:=fld hf 3 rfl c9;exact q
 have h4:trO enc w sp hd m 25 [u6]=some z4:=by have q:=fld hf 4 rfl c25;exact q
 obtain⟨op,e0,-,-⟩:=DataW.trod_int Tryz.underlying3 h0
 obtain⟨arg,e1,-,-⟩:=DataW.trod_int Tryz.underlying3 h1
 obtain⟨s,a1,n1,k1,a2,n2,k2,N,D,e2,hrt⟩:=open_rat h2 (bulk_at hb (by simp)) hB
 obtain⟨nm,e3,-,-⟩:=DataW.trod_string Tryz.underlying9 h3
 have hbz:Rows.uptoBulk z4.1≤B:=bulk_at hb (by simp)
 obtain⟨a,len,cap,ks,e4,hlc,hcm,hks,hbk,hel⟩:=open_sl (C:=7) Tryz.underlying25 c27 (by decide) h4
 simp only[List.cons.injEq,and_true] at e0 e1 e2 e3 e4
 obtain⟨e2,e2',e2''⟩:=e2
 subst e0 e1 e2 e2' e2'' e3 e4
 have hc:∀i:Nat,∃t:Tree,i<len→∃(b off:Nat)(cs:Array Value),a=some ⟨b,off,none⟩∧cs.size=7∧(∀j,j<7→w.cell? ⟨b,off+7*i+j,none⟩=cs[j]?)∧Ex w m (.agg cs) t:=by
  intro i
  by_cases hi:i<len
  ·obtain⟨b,off,n,cs',ha,hl',hcell,rfl,htr⟩:=hel i (by omega)
   have hbx:Rows.uptoBulk (ks[i]'(by omega)).1≤B:=by
    have:=bulk_part (d:=(ks[i]'(by omega)).1) (l:=ks.map (·.1)) (List.mem_map_of_mem (List.getElem_mem _))
    omega
   obtain⟨-,t,ht⟩:=ih n (by omega) htr hbx hB
   refine⟨t,fun _=>⟨b,off,cs'.toArray,ha,by simpa using hl',fun j hj=> ?_,ht.mono _⟩⟩
   rw[Nat.mul_comm 7 i]
   have q:=hcell j hj
   rw[←List.getElem?_toArray] at q
   exact q
  ·exact⟨.node 0 0 false 0 0 nm [],fun h=>absurd h hi⟩
 obtain⟨ts,hts⟩:=Classical.axiomOfChoice hc
 have hlen:=bulk_length (ks.map (·.1))
 rw[List.length_map] at hlen
 refine⟨.node op arg s N D nm ((List.range len).map ts),a1,n1,k1,a2,n2,k2,a,cap,by simp,by simpa using hlc,hrt,by simp only[List.length_map,List.length_range];omega,fun i hi=> ?_⟩
 simp only[List.length_map,List.length_range] at hi
 simp only[List.getElem_map,List.getElem_range]
 exact hts i hi
theorem Ex.cells{f:Nat}{cs:List Value}{t:Tree}(h:Ex w f (.agg cs.toArray) t):∃(o g:Int)(z:Bool)(x1:Option Addr)(x2 x3:Nat)(x4:Option Addr)(x5 x6:Nat)(nm:ByteArray)(a':Option Addr)(n' cap':Nat),
 cs=[.int .i64 o,.int .i64 g,.bool z,.slice x1 x2 x3,.slice x4 x5 x6,.string nm,.slice a' n' cap']:=by
 cases f with
 |zero=>exact h.elim
 |succ f=>
  cases t with
  |node op arg s N D name kids=>
   obtain⟨x1,x2,x3,x4,x5,x6,a,cap,hv,-⟩:=h
   refine⟨op,arg,s,x1,x2,x3,x4,x5,x6,name,a,kids.length,cap,?_⟩
   have:=Value.agg.inj hv
   simpa using this
theorem open_ivl{fuel:Nat}{cs:List Value}{y:DataW H×List MemPlace}(h:trO enc w sp hd fuel 39 cs=some y)(hb:Rows.uptoBulk y.1≤B)(hB:B≤1048576):
 ∃(d:IvD)(s1:Bool)(a1:Option Addr)(n1 c1:Nat)(a2:Option Addr)(n2 c2:Nat)(s2:Bool)(a3:Option Addr)(n3 c3:Nat)(a4:Option Addr)(n4 c4:Nat)(p q:Bool),
  cs=[.bool s1,.slice a1 n1 c1,.slice a2 n2 c2,.bool s2,.slice a3 n3 c3,.slice a4 n4 c4,.bool p,.bool q]∧
  Ivl w (.agg #[.bool s1,.slice a1 n1 c1,.slice a2 n2 c2,.bool s2,.slice a3 n3 c3,.slice a4 n4 c4,.bool p,.bool q]) d:=by
 obtain⟨xs,m,rfl,rfl,hl,hx,hf⟩:=DataW.trod_struct Tryz.underlying39 h
 rw[c39] at hl
 obtain⟨u0,u1,u2,u3,u4,u5,u6,u7,rfl⟩:=len8 hl
 obtain⟨z0,z1,z2,z3,rfl⟩:=len4 (l:=xs) hx
 have h0:trO enc w sp hd m 24 [u0,u1,u2]=some z0:=by have q:=fld hf 0 rfl c24;exact q
 have h1:trO enc w sp hd m 24 [u3,u4,u5]=some z1:=by have q:=fld hf 1 rfl c24;exact q
 have h2:trO enc w sp hd m 4 [u6]=some z2:=by have q:=fld hf 2 rfl c4;exact q
 have h3:trO enc w sp hd m 4 [u7]=some z3:=by have q:=fld hf 3 rfl c4;exact q
 obtain⟨s,a1,n1,k1,a2,n2,k2,N,D,e0,r0⟩:=open_rat h0 (bulk_at hb (by simp)) hB
 obtain⟨s',a3,n3,k3,a4,n4,k4,N',D',e1,r1⟩:=open_rat h1 (bulk_at hb (by simp)) hB
 obtain⟨p,e2,-⟩:=DataW.trod_bool Tryz.underlying4 h2
 obtain⟨q,e3,-⟩:=DataW.trod_bool Tryz.underlying4 h3
 simp only[List.cons.injEq,and_true] at e0 e1 e2 e3
 obtain⟨e0,e0',e0''⟩:=e0
 obtain⟨e1,e1',e1''⟩:=e1
 subst e0 e0' e0'' e1 e1' e1'' e2 e3
 exact⟨⟨s,N,D,s',N',D',p,q⟩,s,a1,n1,k1,a2,n2,k2,s',a3,n3,k3,a4,n4,k4,p,q,rfl,a1,n1,k1,a2,n2,k2,a3,n3,k3,a4,n4,k4,rfl,r0,r1⟩
theorem open_box{fuel:Nat}{cs:List Value}{y:DataW H×List MemPlace}(h:trO enc w sp hd fuel 28 cs=some y)(hb:Rows.uptoBulk y.1≤B)(hB:B≤1048576):
 ∃(a:Option Addr)(n cap:Nat)(l:List SideD),cs=[.slice a n cap]∧Bxm w a n cap l:=by
 obtain⟨a,len,cap,xs,rfl,hl,hm,hx,hbk,hel⟩:=open_sl (C:=9) Tryz.underlying28 c41 (by decide) h
 have hc:∀i:Nat,∃d:SideD,i<len→∃(b off:Nat)(s1:Bool)(a1:Option Addr)(n1 c1:Nat)(a2:Option Addr)(n2 c2:Nat)(s2:Bool)(a3:Option Addr)(n3 c3:Nat)(a4:Option Addr)(n4 c4:Nat)(p q:Bool),
  a=some ⟨b,off,none⟩∧w.cell? ⟨b,off+i*9,none⟩=some (.string d.name)∧
  w.cell? ⟨b,off+i*9+1,none⟩=some (.bool s1)∧w.cell? ⟨b,off+i*9+2,none⟩=some (.slice a1 n1 c1)∧w.cell? ⟨b,off+i*9+3,none⟩=some (.slice a2 n2 c2)∧
  w.cell? ⟨b,off+i*9+4,none⟩=some (.bool s2)∧w.cell? ⟨b,off+i*9+5,none⟩=some (.slice a3 n3 c3)∧w.cell? ⟨b,off+i*9+6,none⟩=some (.slice a4 n4 c4)∧
  w.cell? ⟨b,off+i*9+7,none⟩=some (.bool p)∧w.cell? ⟨b,off+i*9+8,none⟩=some (.bool q)∧
  Ivl w (.agg #[.bool s1,.slice a1 n1 c1,.slice a2 n2 c2,.bool s2,.slice a3 n3 c3,.slice a4 n4 c4,.bool p,.bool q]) d.iv:=by
  intro i
  by_cases hi:i<len
  ·obtain⟨b,off,n,cs',ha,hl',hcell,rfl,htr⟩:=hel i (by omega)
   have hbx:Rows.uptoBulk (xs[i]'(by omega)).1≤B:=by
    have:=bulk_part (d:=(xs[i]'(by omega)).1) (l:=xs.map (·.1)) (List.mem_map_of_mem (List.getElem_mem _))
    omega
   generalize (xs[i]'(by omega))=xi at htr hbx
   obtain⟨zs,m,rfl,rfl,hl2,hx2,hf⟩:=DataW.trod_struct Tryz.underlying41 htr
   rw[c41] at hl2
   obtain⟨u0,u1,u2,u3,u4,u5,u6,u7,u8,rfl⟩:=len9 hl2
   obtain⟨z0,z1,rfl⟩:=len2 (l:=zs) hx2
   have h0:trO enc w sp hd m 9 [u0]=some z0:=by have q:=fld hf 0 rfl c9;exact q
   have h1:trO enc w sp hd m 39 [u1,u2,u3,u4,u5,u6,u7,u8]=some z1:=by have q:=fld hf 1 rfl c39;exact q
   obtain⟨nm,e0,-,-⟩:=DataW.trod_string Tryz.underlying9 h0
   obtain⟨d,s1,a1,n1,c1,a2,n2,c2,s2,a3,n3,c3,a4,n4,c4,p,q,e1,hiv⟩:=open_ivl h1 (bulk_at hbx (by simp)) hB
   simp only[List.cons.injEq,and_true] at e0 e1
   obtain⟨e1,e2,e3,e4,e5,e6,e7,e8⟩:=e1
   subst e0 e1 e2 e3 e4 e5 e6 e7 e8
   exact⟨⟨nm,d⟩,fun _=>⟨b,off,s1,a1,n1,c1,a2,n2,c2,s2,a3,n3,c3,a4,n4,c4,p,q,ha,hcell 0 (by decide),hcell 1 (by decide),hcell 2 (by decide),hcell 3 (by decide),hcell 4 (by decide),hcell 5 (by decide),hcell 6 (by decide),hcell 7 (by decide),hcell 8 (by decide),hiv⟩⟩
  ·exact⟨⟨⟨#[]⟩,⟨false,0,0,false,0,0,false,false⟩⟩,fun h=>absurd h hi⟩
 obtain⟨ts,hts⟩:=Classical.axiomOfChoice hc
 have hlen:=bulk_length (xs.map (·.1))
 rw[List.length_map] at hlen
 refine⟨a,len,cap,(List.range len).map ts,rfl,by simp,hl,by omega,fun i hi=> ?_⟩
 simp only[List.length_map,List.length_range] at hi
 simp only[List.getElem_map,List.getElem_range]
 exact hts i hi
theorem open_conds{fuel:Nat}{cs:List Value}{y:DataW H×List MemPlace}(h:trO enc w sp hd fuel 29 cs=some y)(hb:Rows.uptoBulk y.1≤B)(hB:B≤1048576):
 ∃(a:Option Addr)(n cap:Nat)(l:List CondD),cs=[.slice a n cap]∧Cnm w fuel a n cap l:=by
 obtain⟨a,len,cap,xs,rfl,hl,hm,hx,hbk,hel⟩:=open_sl (C:=8) Tryz.underlying29 c93 (by decide) h
 have hc:∀i:Nat,∃d:CondD,i<len→∃(b off:Nat)(o g:Int)(z:Bool)(x1:Option Addr)(x2 x3:Nat)(x4:Option Addr)(x5 x6:Nat)(nm:ByteArray)(a':Option Addr)(n' cap':Nat),
  a=some ⟨b,off,none⟩∧
  w.cell? ⟨b,off+i*8,none⟩=some (.int .i64 o)∧w.cell? ⟨b,off+i*8+1,none⟩=some (.int .i64 g)∧w.cell? ⟨b,off+i*8+2,none⟩=some (.bool z)∧
  w.cell? ⟨b,off+i*8+3,none⟩=some (.slice x1 x2 x3)∧w.cell? ⟨b,off+i*8+4,none⟩=some (.slice x4 x5 x6)∧w.cell? ⟨b,off+i*8+5,none⟩=some (.string nm)∧
  w.cell? ⟨b,off+i*8+6,none⟩=some (.slice a' n' cap')∧w.cell? ⟨b,off+i*8+7,none⟩=some (.bool d.strict)∧
  Ex w fuel (.agg #[.int .i64 o,.int .i64 g,.bool z,.slice x1 x2 x3,.slice x4 x5 x6,.string nm,.slice a' n' cap']) d.t:=by
  intro i
  by_cases hi:i<len
  ·obtain⟨b,off,n,cs',ha,hl',hcell,rfl,htr⟩:=hel i (by omega)
   have hbx:Rows.uptoBulk (xs[i]'(by omega)).1≤B:=by
    have:=bulk_part (d:=(xs[i]'(by omega)).1) (l:=xs.map (·.1)) (List.mem_map_of_mem (List.getElem_mem _))
    omega
   generalize (xs[i]'(by omega))=xi at htr hbx
   obtain⟨zs,m,rfl,rfl,hl2,hx2,hf⟩:=DataW.trod_struct Tryz.underlying93 htr
   rw[c93] at hl2
   obtain⟨u0,u1,u2,u3,u4,u5,u6,u7,rfl⟩:=len8 hl2
   obtain⟨z0,z1,rfl⟩:=len2 (l:=zs) hx2
   have h0:trO enc w sp hd m 27 [u0,u1,u2,u3,u4,u5,u6]=some z0:=by have q:=fld hf 0 rfl c27;exact q
   have h1:trO enc w sp hd m 4 [u7]=some z1:=by have q:=fld hf 1 rfl c4;exact q
   obtain⟨-,t,ht⟩:=open_expr m h0 (bulk_at hbx (by simp)) hB
   obtain⟨st,e1,-⟩:=DataW.trod_bool Tryz.underlying4 h1
   obtain⟨o,g,z,x1,x2,x3,x4,x5,x6,nm,a',n',cap',e0⟩:=ht.cells
   simp only[List.cons.injEq,and_true] at e0 e1
   obtain⟨e2,e3,e4,e5,e6,e7,e8⟩:=e0
   subst e1 e2 e3 e4 e5 e6 e7 e8
   exact⟨⟨t,st⟩,fun _=>⟨b,off,o,g,z,x1,x2,x3,x4,x5,x6,nm,a',n',cap',ha,hcell 0 (by decide),hcell 1 (by decide),hcell 2 (by decide),hcell 3 (by decide),hcell 4 (by decide),hcell 5 (by decide),hcell 6 (by decide),hcell 7 (by decide),(ht.mono _).mono _⟩⟩
  ·exact⟨⟨.node 0 0 false 0 0 ⟨#[]⟩ [],false⟩,fun h=>absurd h hi⟩
 obtain⟨ts,hts⟩:=Classical.axiomOfChoice hc
 have hlen:=bulk_length (xs.map (·.1))
 rw[List.length_map] at hlen
 refine⟨a,len,cap,(List.range len).map ts,rfl,by simp,hl,by omega,fun i hi=> ?_⟩
 simp only[List.length_map,List.length_range] at hi
 simp only[List.getElem_map,List.getElem_range]
 exact hts i hi
theorem Cnm.mono{f:Nat}{a:Option Addr}{n cap:Nat}{l:List CondD}(h:Cnm w f a n cap l):Cnm w (f+1) a n cap l:=by
 obtain⟨hn,hc,hb,hi⟩:=h
 refine⟨hn,hc,hb,fun i h=> ?_⟩
 obtain⟨b,off,o,g,z,x1,x2,x3,x4,x5,x6,nm,a',n',cap',ha,h0,h1,h2,h3,h4,h5,h6,h7,he⟩:=hi i h
 exact⟨b,off,o,g,z,x1,x2,x3,x4,x5,x6,nm,a',n',cap',ha,h0,h1,h2,h3,h4,h5,h6,h7,he.mono _⟩
theorem open_claim{fuel:Nat}{cs:List Value}{y:DataW H×List MemPlace}(h:trO enc w sp hd fuel 31 cs=some y)(hb:Rows.uptoBulk y.1≤B)(hB:B≤1048576):
 ∃f c,Clm w f (.agg cs.toArray) c:=by
 obtain⟨zs,m,rfl,rfl,hl2,hx2,hf⟩:=DataW.trod_struct Tryz.underlying31 h
 rw[c31] at hl2
 obtain⟨u0,u1,u2,u3,u4,u5,u6,u7,u8,u9,rfl⟩:=len10 hl2
 obtain⟨z0,z1,z2,z3,rfl⟩:=len4 (l:=zs) hx2
 have h0:trO enc w sp hd m 27 [u0,u1,u2,u3,u4,u5,u6]=some z0:=by have q:=fld hf 0 rfl c27;exact q
 have h1:trO enc w sp hd m 4 [u7]=some z1:=by have q:=fld hf 1 rfl c4;exact q
 have h2:trO enc w sp hd m 28 [u8]=some z2:=by have q:=fld hf 2 rfl c28;exact q
 have h3:trO enc w sp hd m 29 [u9]=some z3:=by have q:=fld hf 3 rfl c29;exact q
 obtain⟨-,t,ht⟩:=open_expr m h0 (bulk_at hb (by simp)) hB
 obtain⟨st,e1,-⟩:=DataW.trod_bool Tryz.underlying4 h1
 obtain⟨a1,n1,c1,l1,e2,hbx⟩:=open_box h2 (bulk_at hb (by simp)) hB
 obtain⟨a2,n2,c2,l2,e3,hcn⟩:=open_conds h3 (bulk_at hb (by simp)) hB
 obtain⟨o,g,z,x1,x2,x3,x4,x5,x6,nm,a',n',cap',e0⟩:=ht.cells
 simp only[List.cons.injEq,and_true] at e0 e1 e2 e3
 obtain⟨e4,e5,e6,e7,e8,e9,e10⟩:=e0
 subst e1 e2 e3 e4 e5 e6 e7 e8 e9 e10
 exact⟨m,⟨t,st,l1,l2⟩,o,g,z,x1,x2,x3,x4,x5,x6,nm,a',n',cap',a1,n1,c1,a2,n2,c2,rfl,ht,hbx,hcn⟩
end
end
end Go.Proofs.YtbapfnpbamnmpaaGreatDoor
