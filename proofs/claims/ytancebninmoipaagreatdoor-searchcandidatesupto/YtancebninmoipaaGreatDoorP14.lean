/- A part of the proof that SearchCandidates answers true for every input of bulk at most 1048576: conditions: the row's own. -/
import Derived.Test.YtancebninmoipaaGreatDoorP13
import Derived.Test.YtancebninmoipaaGreatDoorP12
import Derived.Test.YtancebninmoipaaGreatDoorP10
namespace Go.Proofs.YtancebninmoipaaGreatDoor
section
open Go Go.RowKit Go.Dig Go.Deep
open Go.Eng (Kept KW KeptB wp_region_kw kw_call)
theorem rt_zero(W:World):Rt W (.agg #[.bool false,.slice none 0 0,.slice none 0 0]) false 0 0:=
 ⟨_,_,rfl,⟨none,0,0,fun _=>0,rfl,Nat.le_refl _,by omega,fun i h=>absurd h (Nat.not_lt_zero i),rfl,fun i h=>absurd h (Nat.not_lt_zero i)⟩,⟨none,0,0,fun _=>0,rfl,Nat.le_refl _,by omega,fun i h=>absurd h (Nat.not_lt_zero i),rfl,fun i h=>absurd h (Nat.not_lt_zero i)⟩⟩
theorem rows_one{α:Type}{R:List Value→α→Prop}{sz:Nat}{l:List Value}{t:α}(hl:l.length=sz)(hr:R l t):RowsIs R sz l [t]:=by
 have h:=(RowsIs.nil R sz).snoc hl hr
 simpa using h
theorem rows_two{α:Type}{R:List Value→α→Prop}{sz:Nat}{l l':List Value}{t t':α}(hl:l.length=sz)(hr:R l t)(hl':l'.length=sz)(hr':R l' t'):RowsIs R sz (l++l') [t,t']:=by
 have h:=(rows_one hl hr).snoc hl' hr'
 simpa using h
theorem Ex.blk{W:World}{f b:Nat}{op arg:Int}{cs:List Value}{kids:List Tree}{t:TypeId}{w':World}{S:Nat→Bool}(hW:W=onlyW w' S)(hs:S b=true)(hb:Blk w' b cs.toArray t)
 (hk:RowsIs (fun l t=>Ex W f (.agg l.toArray) t) 7 cs kids)(hn:kids.length<1000):
 Ex W (f+1) (.agg #[.int .i64 op,.int .i64 arg,.bool false,.slice none 0 0,.slice none 0 0,.string ⟨#[]⟩,.slice (some ⟨b,0,none⟩) kids.length kids.length]) (.node op arg false 0 0 ⟨#[]⟩ kids):=by
 refine Ex.mk (Nat.le_refl _) (rt_zero W) (by omega) (fun i hi=>⟨b,rfl,?_⟩) hk
 subst hW
 rw[cell_only,if_pos hs,List.getElem?_eq_getElem hi]
 exact hb.cell i (by simp[hi])
theorem al1{w W:World}{A:Array Value}{t:TypeId}(h:w.alloc (.cells A t)=W):Blk W w.heap.size A t∧Kept w W∧W.heap.size=w.heap.size+1:=by
 subst h
 exact⟨Blk.new ..,(Kept.refl _).alloc _,Array.size_push _⟩
theorem al2{w W:World}{A B:Array Value}{t u:TypeId}(h:(w.alloc (.cells A t)).alloc (.cells B u)=W):Blk W w.heap.size A t∧Blk W (w.heap.size+1) B u∧Kept w W∧W.heap.size=w.heap.size+2:=by
 obtain⟨h1,h2,h3⟩:=al1 (W:=w.alloc (.cells A t)) rfl
 obtain⟨g1,g2,g3⟩:=al1 h
 rw[h3] at g1 g3
 exact⟨h1.kept g2,g1,h2.trans g2,g3⟩
theorem al2k{w w5:World}{A B:Array Value}{t u:TypeId}(k:Kept ((w.alloc (.cells A t)).alloc (.cells B u)) w5):Blk w5 w.heap.size A t∧Blk w5 (w.heap.size+1) B u∧Kept w w5∧w.heap.size+2≤w5.heap.size:=by
 obtain⟨h1,h2,h3,h4⟩:=al2 (w:=w) (A:=A) (t:=t) (B:=B) (u:=u) rfl
 exact⟨h1.kept k,h2.kept k,h3.trans k,by have:=k.size;omega⟩
set_option maxHeartbeats 4000000
set_option maxRecDepth 100000
end
section
open Go Go.RowKit Go.Dig Go.Deep
open Go.Eng (Kept KW KeptB wp_region_kw kw_call)
set_option maxHeartbeats 8000000
set_option maxRecDepth 100000
def zpad(zs:Nat→Nat)(n:Nat):Nat→Nat:=fun i=>if i<n then zs i else 0
theorem val_zpad(zs:Nat→Nat)(n:Nat):∀d,val 65536 (zpad zs n) (n+d)=val 65536 zs n
 |0=>val_congr fun i hi=>by unfold zpad;rw[if_pos (by omega)]
 |d+1=>by
  show val 65536 (zpad zs n) (n+d)+zpad zs n (n+d)*65536^(n+d)=_
  rw[val_zpad zs n d]
  unfold zpad
  rw[if_neg (by omega)]
  omega
structure LsI(zs:Nat→Nat)(n k:Nat)(xs:Nat→Nat):Prop where
 lt:∀i,i<k→xs i<4294967296
 eq:val 4294967296 xs k=val 65536 (zpad zs n) (2*k)
theorem zpad_lt{zs:Nat→Nat}{n:Nat}(hz:∀i,i<n→zs i<65536)(i:Nat):zpad zs n i<65536:=by
 unfold zpad
 split
 ·exact hz i ‹_›
 ·decide
theorem LsI.step{zs xs:Nat→Nat}{n k:Nat}(h:LsI zs n k xs)(hz:∀i,i<n→zs i<65536):LsI zs n (k+1) (cat xs k fun _=>zpad zs n (2*k)+zpad zs n (2*k+1)*65536):=by
 have a:=zpad_lt hz (2*k)
 have b:=zpad_lt hz (2*k+1)
 have e:cat xs k (fun _=>zpad zs n (2*k)+zpad zs n (2*k+1)*65536) k=zpad zs n (2*k)+zpad zs n (2*k+1)*65536:=by simp[cat]
 refine⟨fun i hi=> ?_,?_⟩
 ·by_cases h1:i<k
  ·simp only[cat,if_pos h1];exact h.lt i h1
  ·rw[show i=k by omega,e];omega
 ·rw[show 2*(k+1)=2*k+1+1 by omega]
  simp only[val]
  rw[e,val_congr (ys:=xs) fun i hi=>by simp[cat,hi],h.eq,pow_two32,Nat.pow_succ]
  generalize zpad zs n (2*k)=x
  generalize zpad zs n (2*k+1)=y
  generalize 65536^(2*k)=P
  grind
section
variable{n:Nat}{l:Fm}{ops:Array Oper}{rest:List Oper}{Q:Exit→Act→World→Prop}{w w0:World}
theorem zword{st k x:Nat}{v:Value}{xs:Nat→Nat}{ob oa:Oper}{db da s:Tmp}(hst:Tryz.prog.underlying st=some (.slice 212))(hk:Kept w0 w)(hap:Ap w w0.heap.size v k xs)(hkb:k+1≤1099511627776)
 (hbs:(execOp (ev n l) ob).run Tryz.prog w= .ok (.value (.slice (some ⟨w.heap.size,0,none⟩) 1 1)) (w.alloc (.cells #[.int .u32 (x:Int)] 212)))
 (h:∀v' w',Ap w' w0.heap.size v' (k+1) (cat xs k fun _=>x)→Kept w0 w'→wpList Tryz.prog ops Q rest (frm n (upd (upd l db (.slice (some ⟨w.heap.size,0,none⟩) 1 1)) da v')) w')
 (hg1:ob.guard=none:=by rfl)(hd1:ob.dst=some db:=by rfl)
 (hop2:oa.op= .call {callee:=.builtin .append,args:=#[.tmp s,.tmp db],argTypes:=#[st,st]}∧oa.guard=none∧oa.dst=some da:=by exact⟨rfl,rfl,rfl⟩)
 (hs:opv n l (.tmp s)=some v:=by rfl)(hne:s≠db∧db<n:=by decide):wpList Tryz.prog ops Q (ob::oa::rest) (frm n l) w:=by
 obtain⟨n1,n4⟩:=hne
 refine zv _ (by rw[frm_eval];exact hbs) hg1 hd1 ?_
 have es:opv n (upd l db (.slice (some ⟨w.heap.size,0,none⟩) 1 1)) (.tmp s)=some v:=by
  rw[←hs];simp only[opv,upd,beq_no n1];rfl
 have eb:opv n (upd l db (.slice (some ⟨w.heap.size,0,none⟩) 1 1)) (.tmp db)=some (.slice (some ⟨w.heap.size,0,none⟩) 1 1):=by
  simp only[opv,upd,Nat.beq_refl,cond_true,show Nat.blt db n=true from Nat.ble_eq_true_of_le n4]
 have hws:Ws (w.alloc (.cells #[.int .u32 (x:Int)] 212)) (some ⟨w.heap.size,0,none⟩) 1 (fun _=>x):=fun i hi=>⟨w.heap.size,0,rfl,by
  obtain rfl:i=0:=by omega
  exact(Blk.new w #[.int .u32 (x:Int)] 212).cell 0 rfl⟩
 refine wpList_append_words hop2.2.1 (.tmp s) (.tmp db) st hop2.1 hst w0 (hk.alloc _) v k xs (opv_eval es) (hap.alloc _) ⟨w.heap.size,0,none⟩ 1 1 _ (opv_eval eb) hws hkb fun v' w' h1 h2=> ?_
 rw[hop2.2.2,frm_put]
 exact h v' w' h1 h2
end
theorem run_mul16{x:Nat}{xt:TypeId}{a b:Operand}{w:World}(h:x<65536):(do eqGuard .mul xt a b (.int .u32 (x:Int)) (.int .u32 65536);binOp .mul xt (.int .u32 (x:Int)) (.int .u32 65536):Sem Value).run Tryz.prog w= .ok (.int .u32 ((x*65536:Nat):Int)) w:=by
 go_simp
 rw[IntKind.wrap_u32]
 omega
theorem run_add32{x y:Nat}{xt:TypeId}{a b:Operand}{w:World}(h:x+y<4294967296):(do eqGuard .add xt a b (.int .u32 (x:Int)) (.int .u32 (y:Int));binOp .add xt (.int .u32 (x:Int)) (.int .u32 (y:Int)):Sem Value).run Tryz.prog w= .ok (.int .u32 ((x+y:Nat):Int)) w:=by
 go_simp
 rw[IntKind.wrap_u32]
 omega
theorem run_addN{j k:Nat}{xt:TypeId}{x y:Operand}{w:World}(h:j+k<4611686018427387904):(do eqGuard .add xt x y (.int .i64 (j:Int)) (.int .i64 (k:Int));binOp .add xt (.int .i64 (j:Int)) (.int .i64 (k:Int)):Sem Value).run Tryz.prog w= .ok (.int .i64 ((j+k:Nat):Int)) w:=by
 go_simp
 rw[IntKind.wrap_i64]
 omega
theorem list_calls{w:World}{v:Value}{m:Nat}(h:Nt 65536 w v m)(hm:m<Sm):Calls Tryz.prog 76 #[v] w fun e w'=>∃a n cap,e= .returned (.slice a n cap)∧Raw (onlyW w' (ab w.heap.size)) (.slice a n cap) m∧Kept w w':=by
 obtain⟨a0,n0,cap0,rfl⟩:∃a n cap,v= .slice a n cap:=by obtain⟨a,n,cap,_,e,_⟩:=h;exact⟨a,n,cap,e⟩
 have hn:n0≤500:=((nt_len h).2 500).2 (Nat.lt_of_lt_of_le hm (by rw[pwr16 500 8000 rfl];exact pwr_le 7000 8000 (by decide)))
 obtain⟨a,n,cap,zs,e,hc,hz,hnm,rfl,hw⟩:=h
 cases e
 clear hm hnm
 refine ent1 33 Tryz.func76 rfl Tryz.ntmps76 ?_
 iterate 3 go_step
 refine zz ?_
 iterate 5 go_step
 refine zz ?_
 iterate 6 go_step
 refine zz ?_
 iterate 4 go_step
 refine zloopG (σ:=Value×(Nat→Nat)) ((n0+1)/2) (fun k s=>[(0,.slice a0 n0 cap0),(3,s.1),(4,.int .i64 ((2*k:Nat):Int))]) (fun k s W=>LsI zs n0 k s.2∧Ap W w.heap.size s.1 k s.2∧Kept w W) (.slice none 0 0,fun _=>0) ⟨rfl,rfl,rfl,trivial⟩ ⟨⟨fun _ h=>absurd h (Nat.not_lt_zero _),rfl⟩,Ap.nil _ _ _,Kept.refl w⟩
  fun fl wr k ⟨ov,xs⟩ hk ⟨hL,hap,K⟩=> ?_
 iterate 4 go_step
 refine zz ?_
 refine zz ?_
 refine zr (.int .i64 n0) ?_
 refine z2 (.bool (decide (((2*k:Nat):Int)<(n0:Int)))) ?_
 iterate 3 go_step
 cases hlt:decide (((2*k:Nat):Int)<(n0:Int))
 case' false=>
  have hlt:n0≤2*k:=by have:=of_decide_eq_false hlt;omega
  refine zt_false ?_
  iterate 7 go_step
  refine zz ?_
  refine zz ?_
  iterate 5 go_step
  obtain⟨a',cap',rfl,hc',hw'⟩:=hap.wsAb
  refine zretT ⟨_,_,_,rfl,⟨_,_,_,xs,rfl,hc',by omega,hL.lt,?_,hw'⟩,K⟩
  rw[hL.eq,show 2*k=n0+(2*k-n0) by omega,val_zpad]
 have hlt:2*k<n0:=by have:=of_decide_eq_true hlt;omega
 obtain⟨b,off,rfl,h0⟩:=(hw.kept K) (2*k) hlt
 have y0':=hz _ hlt
 refine zt_true ?_
 iterate 7 go_step
 refine zz ?_
 refine zz ?_
 refine zi (s:=1) (2*k) hlt ?_
 refine zl1 (x:=.int .u32 (zs (2*k):Int)) (o:=off+2*k*1) (by rw[Nat.mul_one];exact h0) ?_
 refine zz ?_
 iterate 6 go_step
 refine zz ?_
 refine z2 (.int .i64 ((2*k+1:Nat):Int)) (hrun:=run_inc (by omega)) ?_
 refine zz ?_
 refine zr (.int .i64 n0) ?_
 refine z2 (.bool (decide (((2*k+1:Nat):Int)<(n0:Int)))) ?_
 iterate 3 go_step
 have hx0:zpad zs n0 (2*k)=zs (2*k):=if_pos hlt
 have y1:=zpad_lt hz (2*k+1)
 refine zif [(0,.slice (some ⟨b,off,none⟩) n0 cap0),(3,ov),(4,.int .i64 ((2*k:Nat):Int)),(5,.int .u32 ((zpad zs n0 (2*k)+zpad zs n0 (2*k+1)*65536:Nat):Int))] (fun Q' hQ=> ?_) (fun fl=> ?_)
 ·cases h1:decide (((2*k+1:Nat):Int)<(n0:Int))
  ·have h1:¬2*k+1<n0:=by have:=of_decide_eq_false h1;omega
   refine zt_false ?_
   iterate 2 go_step
   refine⟨rfl,rfl,rfl,?_,trivial⟩
   rw[hx0,show zpad zs n0 (2*k+1)=0 from if_neg h1]
   rfl
  ·have h1:2*k+1<n0:=by have:=of_decide_eq_true h1;omega
   obtain⟨b',off',e,h2⟩:=(hw.kept K) (2*k+1) h1
   cases e
   have y2:=hz _ h1
   refine zt_true ?_
   go_step
   refine zz ?_
   refine zz ?_
   refine zz ?_
   refine z2 (.int .i64 ((2*k+1:Nat):Int)) (hrun:=run_inc (by omega)) ?_
   refine zi (s:=1) (2*k+1) h1 ?_
   refine zl1 (x:=.int .u32 (zs (2*k+1):Int)) (o:=off+(2*k+1)*1) (by rw[Nat.mul_one];exact h2) ?_
   refine z2 (.int .u32 ((zs (2*k+1)*65536:Nat):Int)) (hrun:=run_mul16 y2) ?_
   refine z2 (.int .u32 ((zs (2*k)+zs (2*k+1)*65536:Nat):Int)) (hrun:=run_add32 (by omega)) ?_
   refine zz ?_
   iterate 2 go_step
   refine⟨rfl,rfl,rfl,?_,trivial⟩
   rw[hx0,show zpad zs n0 (2*k+1)=zs (2*k+1) from if_pos h1]
   rfl
 iterate 3 go_step
 refine zz ?_
 refine zz ?_
 refine zword (x:=zpad zs n0 (2*k)+zpad zs n0 (2*k+1)*65536) Tryz.underlying22 K hap (by omega) (by kernel_rfl) fun v' w' hap K=> ?_
 refine zz ?_
 iterate 4 go_step
 refine zz ?_
 refine z2 (.int .i64 ((2*(k+1):Nat):Int)) (hrun:=run_addN (j:=2*k) (k:=2) (by omega)) ?_
 refine zz ?_
 iterate 3 go_step
 exact⟨_,(v',_),rfl,by omega,⟨rfl,rfl,rfl,trivial⟩,hL.step hz,hap,K⟩
theorem nt_whole{w:World}{a:Option Addr}{n c d:Nat}(h:Nt 65536 w (.slice a n c) d):(n=0↔d=0)∧(n=1→∃b off,a=some ⟨b,off,none⟩∧w.cell? ⟨b,off,none⟩=some (.int .u32 (d:Int)))∧(2≤n→2≤d):=by
 have hl:=nt_len h
 obtain⟨a',n',c',zs,e,hc,hz,hnm,rfl,hw⟩:=h
 cases e
 refine⟨hl.1.symm,fun h1=> ?_,fun h2=> ?_⟩
 ·subst h1
  obtain⟨b,off,rfl,hcell⟩:=hw 0 (by omega)
  exact⟨b,off,rfl,by simpa [val] using hcell⟩
 ·have:=mt (hl.2 1).2 (by omega:¬n≤1)
  omega
theorem zskw{n d:Nat}{l:Fm}{ops:Array Oper}{rest:List Oper}{Q:Exit→Act→World→Prop}{oi:Oper}{w:World}(h:wpList Tryz.prog ops Q rest (frm n (upd l d undef)) w)(hw:wantv n l ops oi=some false:=by kernel_rfl)(hd:oi.dst=some d:=by rfl):
 wpList Tryz.prog ops Q (oi::rest) (frm n l) w:=wpList_skip (want_of hw) (by rw[hd,frm_put];exact h)
theorem whole_calls{w:World}{v:Value}{neg:Bool}{n d:Nat}(h:Qv w v neg n d):Calls Tryz.prog 77 #[v] w fun e w'=>e= .returned (.bool (decide (d≤1)))∧Kept w w':=by
 obtain⟨vn,vd,rfl,hn,hd⟩:=h
 obtain⟨a,m,c,rfl⟩:∃a n cap,vn= .slice a n cap:=by obtain⟨a,n,cap,_,e,_⟩:=hn;exact⟨a,n,cap,e⟩
 obtain⟨a',m',c',rfl⟩:∃a n cap,vd= .slice a n cap:=by obtain⟨a,n,cap,_,e,_⟩:=hd;exact⟨a,n,cap,e⟩
 obtain⟨h0,h1,h2⟩:=nt_whole hd
 have hres:Hid ((m'=0→decide (d≤1)=true)∧(2≤m'→decide (d≤1)=false)∧(m'=1→decide (d≤1)=((d:Int)==1))):=by
  refine Lib.hid ⟨fun h=>decide_eq_true (by have:=h0.1 h;omega),fun h=>decide_eq_false (by have:=h2 h;omega),fun h=> ?_⟩
  have:d≠0:=fun e=>by have:=h0.2 e;omega
  rw[Bool.eq_iff_iff]
  simp only[beq_iff_eq,decide_eq_true_eq]
  omega
 have hk:Kept w (w.alloc (.cells #[.bool neg,.slice a m c,.slice a' m' c'] 55)):=(Kept.refl w).alloc _
 obtain⟨e0,e1,e2,-⟩:=(Blk.new w #[.bool neg,.slice a m c,.slice a' m' c'] 55).facts3
 have H1:=Lib.hid h1
 generalize decide (d≤1)=r at*
 clear hn hd h0 h2 h1
 by_cases t0:m'=0
 ·have t1:((m':Int)==0)=true:=by simp[t0]
  have HT:=Lib.hid t0
  clear t0
  go_enter Tryz.func77,Tryz.ntmps77
  go_wp2
  go_ret
  exact⟨by rw[hres.out.1 HT.out];first|done|rfl,hk⟩
 have t2:((m':Int)==0)=false:=by simp[t0]
 by_cases t1:m'=1
 ·have t3:((m':Int)==1)=true:=by simp[t1]
  obtain⟨b,off,rfl,hcell⟩:=H1.out t1
  replace hcell:=hk.cell hcell
  have HT:=Lib.hid t1
  have hlt:0<m':=by omega
  clear t1 t0
  go_enter Tryz.func77,Tryz.ntmps77
  go_wp2
  go_ret
  exact⟨by rw[hres.out.2.2 HT.out];first|done|rfl,hk⟩
 have t3:((m':Int)==1)=false:=by rw[beq_eq_false_iff_ne];omega
 have HL:=Lib.hid (show 2≤m' by omega)
 clear t0 t1
 go_enter Tryz.func77,Tryz.ntmps77
 go_wp2
 go_ret
 exact⟨by rw[hres.out.2.1 HL.out];first|done|rfl,hk⟩
end
section
open Go Go.RowKit Go.Dig Go.Deep
open Go.Eng (Kept KW KeptB wp_region_kw kw_call)
set_option maxHeartbeats 8000000
set_option maxRecDepth 100000
theorem nt_slice{B:Nat}{w:World}{v:Value}{m:Nat}(h:Nt B w v m):∃a n c,v= .slice a n c:=by obtain⟨a,n,cap,_,e,_⟩:=h;exact⟨a,n,cap,e⟩
theorem raw_nil(W:World):Raw W (.slice none 0 0) 0:=⟨none,0,0,fun _=>0,rfl,Nat.le_refl _,by omega,fun _ h=>absurd h (Nat.not_lt_zero _),rfl,fun _ h=>absurd h (Nat.not_lt_zero _)⟩
theorem rat_calls{w:World}{v:Value}{neg:Bool}{n d:Nat}(h:Qv w v neg n d)(hn:n<Sm)(hd:d<Sm):
 Calls Tryz.prog 40 #[v] w fun e w'=>∃a1 n1 c1 a2 n2 c2,e= .returned (.agg #[.bool (neg&&decide (0<n)),.slice a1 n1 c1,.slice a2 n2 c2])∧Rt (onlyW w' (ab w.heap.size)) (.agg #[.bool (neg&&decide (0<n)),.slice a1 n1 c1,.slice a2 n2 c2]) (neg&&decide (0<n)) n (if d≤1 then 0 else d)∧Kept w w':=by
 have hwh:=fun(w':World)(k:Kept w w')=>whole_calls (h.kept k)
 obtain⟨vn,vd,rfl,qn,qd⟩:=h
 obtain⟨a,m,c,rfl⟩:=nt_slice qn
 obtain⟨a',m',c',rfl⟩:=nt_slice qd
 have hm:decide (0<(m:Int))=decide (0<n):=by
  have:=(nt_len qn).1
  rw[Bool.eq_iff_iff]
  simp only[decide_eq_true_eq]
  omega
 refine ent1 23 Tryz.func40 rfl Tryz.ntmps40 ?_
 iterate 3 go_step
 refine zb fun w1 g1 e1 k1 b1 s1=> ?_
 refine za ZR 24 fun w2 g2 e2 k2 b2 s2=> ?_
 replace b1:=b1.kept k2
 have K:=k1.trans k2
 have k12:=k1.trans k2
 clear k1 k2
 iterate 4 go_step
 refine zregJ (σ:=Nat×Option Addr×Nat×Nat) (fun s=>[(1,.pointer (some ⟨g1,0,none⟩)),(2,.pointer (some ⟨g2,0,none⟩)),(3,.pointer (some ⟨s.1,0,none⟩))])
  (fun s W=>Kept w W∧s.1<W.heap.size∧w2.heap.size≤s.1∧Raw (onlyW W (abx w2.heap.size s.1)) (.slice s.2.1 s.2.2.1 s.2.2.2) n∧Blk W g1 #[.bool neg,.slice a m c,.slice a' m' c'] 55∧Blk W g2 ZR 24∧Blk W s.1 #[.bool (neg&&decide (0<n)),.slice s.2.1 s.2.2.1 s.2.2.2,.slice none 0 0] 24)
  (fun Q hp hj=> ?_) (fun ⟨g3,x1,x2,x3⟩ fl W0 ⟨K,hlt,hg,hr,b1,b2,b3⟩=> ?_)
 ·refine drawn 0 0 fun hS=> ?_
  have kd:=K.trans (Kept.refl w2).drew
  have hdz:w2.drew.heap.size=w2.heap.size:=rfl
  have hb1:=b1.lt
  have hb2:=b2.lt
  have hq:=k12.size
  refine yzg 0 hS ?_ (hQ:=fun c a w=>hp c a _ w)
  refine yl1g 1 (b1.cell 0 rfl) noLt hS ?_ (hQ:=fun c a w=>hp c a _ w)
  refine yzg 2 hS ?_ (hQ:=fun c a w=>hp c a _ w)
  cases neg
  ·refine yzs [3,4,5,6,7,8] hS ?_ (hQ:=hp)
   refine yl1g 9 (b1.cell 1 rfl) noLt hS ?_ (hQ:=fun c a w=>hp c a _ w)
   refine yca1 10 12 11 (P:=fun S v W=>∃x1 x2 x3,v= .slice x1 x2 x3∧Raw (onlyW W S) (.slice x1 x2 x3) n) (fun v=>.agg #[.bool false,v,.slice none 0 0]) 76 _ ZR 24 hS (fun W k=>(list_calls (qn.kept (kd.trans k)) hn).mono ?_) (fun S S' v W W' h k=> ?_) (fun W g3 v hg hg' kW b3 hP lW=> ?_) ?_ (hQ:=fun c v a w=>hp c a _ w)
   ·rintro e w' ⟨x1,x2,x3,rfl,hr,hk⟩
    exact⟨_,rfl,⟨_,_,_,rfl,hr⟩,hk⟩
   ·obtain⟨x1,x2,x3,rfl,hr⟩:=h
    exact⟨_,_,_,rfl,hr.sub k⟩
   ·obtain⟨x1,x2,x3,rfl,hr⟩:=hP
    refine yt 13 b3 own3 own3 (.inr hg) lW fun W0 kb b3 _=>yend ?_
    exact hj (g3,x1,x2,x3) _ _ ⟨rfl,rfl,rfl,trivial⟩ ⟨(kd.trans kW).but kb (by omega),by have:=kb.size;show g3<_;omega,hg,hr.sub (abx_but (M:=w2.drew.heap.size) kb),(b1.kept ((Kept.refl w2).drew.trans kW)).keptB kb (by omega),(b2.kept ((Kept.refl w2).drew.trans kW)).keptB kb (by omega),b3⟩
   ·rintro S v W ⟨x1,x2,x3,rfl,-⟩ l' (rfl|⟨p,rfl⟩) W'<;>kernel_rfl
  ·refine yzg 3 hS ?_ (hQ:=fun c a w=>hp c a _ w)
   refine yl1g 4 (b1.cell 1 rfl) noLt hS ?_ (hQ:=fun c a w=>hp c a _ w)
   refine yrg 5 (.int .i64 m) hS ?_ (hrun:=fun _ _=>by kernel_rfl) (hQ:=fun c a w=>hp c a _ w)
   refine y2g 6 (.bool (decide (0<(m:Int)))) hS ?_ (hQ:=fun c a w=>hp c a _ w)
   rw[hm]
   refine yzs [7,8] hS ?_ (hQ:=hp)
   refine yl1g 9 (b1.cell 1 rfl) noLt hS ?_ (hQ:=fun c a w=>hp c a _ w)
   refine yca1 10 12 11 (P:=fun S v W=>∃x1 x2 x3,v= .slice x1 x2 x3∧Raw (onlyW W S) (.slice x1 x2 x3) n) (fun v=>.agg #[.bool (decide (0<n)),v,.slice none 0 0]) 76 _ ZR 24 hS (fun W k=>(list_calls (qn.kept (kd.trans k)) hn).mono ?_) (fun S S' v W W' h k=> ?_) (fun W g3 v hg hg' kW b3 hP lW=> ?_) ?_ (hQ:=fun c v a w=>hp c a _ w)
   ·rintro e w' ⟨x1,x2,x3,rfl,hr,hk⟩
    exact⟨_,rfl,⟨_,_,_,rfl,hr⟩,hk⟩
   ·obtain⟨x1,x2,x3,rfl,hr⟩:=h
    exact⟨_,_,_,rfl,hr.sub k⟩
   ·obtain⟨x1,x2,x3,rfl,hr⟩:=hP
    refine yt 13 b3 own3 own3 (.inr hg) lW fun W0 kb b3 _=>yend ?_
    exact hj (g3,x1,x2,x3) _ _ ⟨rfl,rfl,rfl,trivial⟩ ⟨(kd.trans kW).but kb (by omega),by have:=kb.size;show g3<_;omega,hg,hr.sub (abx_but (M:=w2.drew.heap.size) kb),(b1.kept ((Kept.refl w2).drew.trans kW)).keptB kb (by omega),(b2.kept ((Kept.refl w2).drew.trans kW)).keptB kb (by omega),b3⟩
   ·rintro S v W ⟨x1,x2,x3,rfl,-⟩ l' (rfl|⟨p,rfl⟩) W'<;>kernel_rfl
 simp only at hlt hg hr b3
 have kd:=K.size
 have kd2:=k12.size
 iterate 5 go_step
 refine zl b1.range own97 ?_
 refine zc 77 _ (hwh _ K) ?_
 rintro e w3 ⟨rfl,k3⟩
 have q3:=k3.size
 refine⟨_,rfl,?_⟩
 refine zz ?_
 iterate 3 go_step
 replace hr:=hr.sub (only_keep k3)
 replace b3:=b3.kept k3
 cases hd1:decide (d≤1)
 case' false=>
  have hd1:¬d≤1:=of_decide_eq_false hd1
  refine zt_true ?_
  go_step
  refine zz ?_
  refine zl1 ((b1.kept k3).cell 2 rfl) ?_
  refine zc 76 _ (list_calls (qd.kept (K.trans k3)) hd) ?_
  rintro e w4 ⟨y1,y2,y3,rfl,hy,k4⟩
  have q4:=k4.size
  refine⟨_,rfl,?_⟩
  refine zz ?_
  refine zt1 (i:=2) (b3.kept k4) (by simp) rfl fun w5 k5 b5=> ?_
  iterate 5 go_step
  have hR:Rt (onlyW w5 (abx w2.heap.size g3)) (.agg #[.bool (neg&&decide (0<n)),.slice x1 x2 x3,.slice y1 y2 y3]) (neg&&decide (0<n)) n (if d≤1 then 0 else d):=⟨_,_,rfl,hr.sub ((only_keep k4).trans (abx_but k5)),by
   rw[if_neg hd1]
   exact hy.sub (only_move fun b hb hs=>by
    unfold ab at hs
    unfold abx
    simp only[decide_eq_true_eq] at hs
    simp only[Bool.and_eq_true,decide_eq_true_eq,bne_iff_ne]
    exact⟨⟨by omega,by omega⟩,k5.old b hb (by omega)⟩)⟩
  replace K:=((K.trans k3).trans k4).but k5 (by omega)
  replace b2:=((b2.kept k3).kept k4).keptB k5 (by have:=b2.lt;omega)
 case' true=>
  have hd1:d≤1:=of_decide_eq_true hd1
  refine zt_false ?_
  iterate 5 go_step
  have b5:=b3
  have hR:Rt (onlyW w3 (abx w2.heap.size g3)) (.agg #[.bool (neg&&decide (0<n)),.slice x1 x2 x3,.slice none 0 0]) (neg&&decide (0<n)) n (if d≤1 then 0 else d):=⟨_,_,rfl,hr,by
   rw[if_pos hd1]
   exact raw_nil _⟩
  replace K:=K.trans k3
  replace b2:=b2.kept k3
 all_goals
  refine zl (V:=#[_,_,_]) b5.range own3 ?_
  refine zt b2 own3 own3 fun wz kz b2=> ?_
  iterate 5 go_step
  exact zret1 b2 own3 ⟨_,_,_,_,_,_,rfl,hR.sub (only_move fun b hb hs=>by
   unfold abx at hs
   unfold ab
   simp only[Bool.and_eq_true,decide_eq_true_eq,bne_iff_ne] at hs
   simp only[decide_eq_true_eq]
   exact⟨by omega,kz.old b hb (by omega)⟩),K.but kz (by omega)⟩
end
section
open Go Go.RowKit Go.Dig Go.Deep
open Go.Eng (Kept KW KeptB wp_region_kw kw_call)
def Kd(W:World)(f:Nat)(a:Option Addr)(l:List Tree):Prop:=∀(i:Nat)(h:i<l.length),∃(b off:Nat)(cs:List Value),a=some ⟨b,off,none⟩∧cs.length=7∧(∀u∈cs,u.oneCell'=true)∧
 (∀j u,cs[j]? =some u→W.cell? ⟨b,off+7*i+j,none⟩=some u)∧Ex W f (.agg cs.toArray) l[i]
theorem Ex.kd{W:World}{f:Nat}{op arg:Int}{s:Bool}{N D:Nat}{name:ByteArray}{kids:List Tree}{y1 y2 y3 y4 y5 name':Value}{a:Option Addr}{n cap:Nat}
 (h:Ex W (f+1) (.agg #[y1,y2,y3,y4,y5,name',.slice a n cap]) (.node op arg s N D name kids)):Kd W f a kids:=by
 intro i hi
 obtain⟨b,off,o,g,z,x1,x2,x3,x4,x5,x6,nm,a',n',cap',ha,c0,c1,c2,c3,c4,c5,c6,hex⟩:=h.kid hi
 refine⟨b,off,[.int .i64 o,.int .i64 g,.bool z,.slice x1 x2 x3,.slice x4 x5 x6,.string nm,.slice a' n' cap'],ha,rfl,?_,?_,hex⟩
 ·intro u hu
  simp only[List.mem_cons,List.mem_nil_iff,or_false] at hu
  rcases hu with rfl|rfl|rfl|rfl|rfl|rfl|rfl<;>rfl
 ·intro j u hu
  have hj:=(List.getElem?_eq_some_iff.1 hu).1
  rw[Nat.mul_comm 7 i]
  match j,hj with
  |0,_=>cases hu;exact c0
  |1,_=>cases hu;exact c1
  |2,_=>cases hu;exact c2
  |3,_=>cases hu;exact c3
  |4,_=>cases hu;exact c4
  |5,_=>cases hu;exact c5
  |6,_=>cases hu;exact c6
theorem Kd.sub{W W':World}{f:Nat}{a:Option Addr}{l:List Tree}(h:Kd W f a l)(k:Sub W W'):Kd W' f a l:=fun i hi=>by
 obtain⟨b,off,cs,ha,hl,h1,hc,he⟩:=h i hi
 exact⟨b,off,cs,ha,hl,h1,fun j u hu=>k _ _ (hc j u hu),he.sub k⟩
theorem Kd.take{W:World}{f:Nat}{a:Option Addr}{l:List Tree}(h:Kd W f a l)(k:Nat):Kd W f a (l.take k):=fun i hi=>by
 have hi':i<l.length:=by rw[List.length_take] at hi;omega
 obtain⟨b,off,cs,ha,hl,h1,hc,he⟩:=h i hi'
 exact⟨b,off,cs,ha,hl,h1,hc,by rw[List.getElem_take];exact he⟩
theorem Kd.drop{W:World}{f:Nat}{b off:Nat}{l:List Tree}(h:Kd W f (some ⟨b,off,none⟩) l)(k:Nat):Kd W f (some ⟨b,off+k*7,none⟩) (l.drop k):=fun i hi=>by
 have hi':k+i<l.length:=by rw[List.length_drop] at hi;omega
 obtain⟨b',off',cs,ha,hl,h1,hc,he⟩:=h (k+i) hi'
 cases ha
 refine⟨b,off+k*7,cs,rfl,hl,h1,fun j u hu=> ?_,by rw[List.getElem_drop];exact he⟩
 rw[←hc j u hu]
 congr 2
 omega
theorem Kd.cells{W:World}{f b off:Nat}{l:List Tree}(h:Kd W f (some ⟨b,off,none⟩) l):
 ∃cs:List Value,RowsIs (kidR f W) 7 cs l∧(∀(j:Nat)(u:Value),cs[j]? =some u→W.cell? ⟨b,off+j,none⟩=some u)∧∀u∈cs,u.oneCell'=true:=by
 have key:∀k,k≤l.length→∃cs:List Value,RowsIs (kidR f W) 7 cs (l.take k)∧(∀(j:Nat)(u:Value),cs[j]? =some u→W.cell? ⟨b,off+j,none⟩=some u)∧∀u∈cs,u.oneCell'=true:=by
  intro k
  induction k with
  |zero=>exact fun _=>⟨[],RowsIs.nil _ _,fun j u h=>by simp at h,fun u h=>by cases h⟩
  |succ k ih=>
   intro hk
   obtain⟨cs,h1,h2,h3⟩:=ih (by omega)
   obtain⟨b',off',c7,ha,hl7,ho7,hc7,he⟩:=h k (by omega)
   cases ha
   have hlen:cs.length=k*7:=by rw[h1.1,List.length_take];omega
   refine⟨cs++c7,h1.take_succ (by omega) hl7 he,?_,?_⟩
   ·intro j u hu
    by_cases hj:j<cs.length
    ·rw[List.getElem?_append_left hj] at hu
     exact h2 j u hu
    ·rw[List.getElem?_append_right (by omega)] at hu
     have h9:=hc7 _ u hu
     rw[←h9]
     congr 2
     omega
   ·intro u hu
    rcases List.mem_append.1 hu with hu|hu
    ·exact h3 u hu
    ·exact ho7 u hu
 obtain⟨cs,h1,h2,h3⟩:=key l.length (Nat.le_refl _)
 rw[List.take_length] at h1
 exact⟨cs,h1,h2,h3⟩
theorem Ex.row{W w':World}{S:Nat→Bool}{f base:Nat}{op arg:Int}{s:Bool}{N D:Nat}{name:ByteArray}{kids:List Tree}{x1:Option Addr}{x2 x3:Nat}{x4:Option Addr}{x5 x6:Nat}{a:Option Addr}{n cap:Nat}{cs:List Value}
 (hW:W=onlyW w' S)(hS:∀b,base≤b→S b=true)(hr:Rt W (.agg #[.bool s,.slice x1 x2 x3,.slice x4 x5 x6]) s N D)(ho:w'.ownsRow base 27 7 (.slice a n cap) n cs)(hk:RowsIs (Go.Proofs.YtancebninmoipaaGreatDoor.kidR f W) 7 cs kids)(hn:n≤1000)(hl:n=kids.length):
 Ex W (f+1) (.agg #[.int .i64 op,.int .i64 arg,.bool s,.slice x1 x2 x3,.slice x4 x5 x6,.string name,.slice a n cap]) (.node op arg s N D name kids):=by
 subst hl
 obtain⟨a',cap',e,hc,-,hcell⟩:=own_open ho
 cases e
 refine Ex.mk hc hr (by omega) (fun i hi=> ?_) hk
 obtain⟨b,hb,ha,hcl⟩:=hcell i hi
 refine⟨b,ha,?_⟩
 subst hW
 rw[List.getElem?_eq_getElem hi] at hcl⊢
 rw[cell_only,if_pos (hS b hb)]
 exact hcl
set_option maxHeartbeats 4000000
set_option maxRecDepth 100000
end
section
open Go Go.RowKit Go.Dig Go.Deep
open Go.Eng (Kept KW KeptB wp_region_kw kw_call)
set_option maxHeartbeats 4000000
set_option maxRecDepth 100000
end
section
open Go Go.RowKit Go.Dig Go.Deep
open Go.Eng (Kept KW KeptB wp_region_kw kw_call)
def M7(b:Nat):Array Value:=#[.int .i64 4,.int .i64 0,.bool false,.slice none 0 0,.slice none 0 0,.string ⟨#[]⟩,.slice (some ⟨b,0,none⟩) 1 1]
theorem Ex.neg{w:World}{S:Nat→Bool}{f b:Nat}{C:Array Value}{t:Tree}{ty:TypeId}(h:Ex (onlyW w S) f (.agg C) t)(oC:Own 27 C)(hs:S b=true)(hb:Blk w b C ty):Ex (onlyW w S) (f+1) (.agg (M7 b)) (negT t):=by
 obtain⟨C⟩:=C
 exact Ex.blk (kids:=[t]) rfl hs hb (rows_one oC.size7 h) (by simp)
def S7(b:Nat):Array Value:=#[.int .i64 6,.int .i64 0,.bool false,.slice none 0 0,.slice none 0 0,.string ⟨#[]⟩,.slice (some ⟨b,0,none⟩) 2 2]
theorem Ex.two{w:World}{S:Nat→Bool}{f b:Nat}{C D:Array Value}{t u:Tree}{ty:TypeId}(h:Ex (onlyW w S) f (.agg C) t)(oC:Own 27 C)(oD:Own 27 D)(k:Ex (onlyW w S) f (.agg D) u)(hs:S b=true)(hb:Blk w b (C++D) ty):Ex (onlyW w S) (f+1) (.agg (S7 b)) (subT t u):=by
 obtain⟨C⟩:=C
 obtain⟨D⟩:=D
 refine Ex.blk (t:=ty) (kids:=[t,u]) (cs:=C++D) rfl hs ?_ (rows_two oC.size7 h oD.size7 k) (by simp)
 simpa using hb
end
section
open Go Go.RowKit Go.Dig Go.Deep
open Go.Eng (Kept KW KeptB wp_region_kw kw_call)
theorem nt_raw{w:World}{a:Option Addr}{n c m:Nat}(h:Nt 4294967296 w (.slice a n c) m)(hf:fits32 m=true):Raw w (.slice a n c) m:=by
 obtain⟨a',n',cap,zs,e,h1,h2,h3,h4,h5⟩:=h
 cases e
 refine⟨a,n,c,zs,rfl,h1,?_,h2,h4,h5⟩
 have h6:m<pwr 2 2048:=of_decide_eq_true hf
 rw[←p2048,←h4] at h6
 have:=(len_le_iff h2 h3 (L:=64)).2 h6
 omega
theorem al1e{w W:World}{A:Array Value}{t:TypeId}(h:World.drew (World.alloc w (.cells A t))=W):Blk W w.heap.size A t∧Kept w W∧W.heap.size=w.heap.size+1:=by
 subst h
 obtain⟨h1,h2,h3⟩:=al1 (w:=w) (A:=A) (t:=t) rfl
 exact⟨h1.kept (Kept.refl _).drew,h2.trans (Kept.refl _).drew,h3⟩
def C3(w:World)(b:Nat)(x0 x1 x2:Value):Prop:=w.cell? ⟨b,0,none⟩=some x0∧w.cell? ⟨b,1,none⟩=some x1∧w.cell? ⟨b,2,none⟩=some x2
theorem Blk.c3{w:World}{b:Nat}{t:TypeId}{x0 x1 x2:Value}(h:Blk w b #[x0,x1,x2] t):C3 w b x0 x1 x2:=by
 obtain⟨h0,h1,h2,-⟩:=h.facts3
 exact⟨h0,h1,h2⟩
theorem Blk.all3{w:World}{b:Nat}{t:TypeId}{y0 y1 y2:Value}(h:Blk w b #[y0,y1,y2] t)(x0 x1 x2:Value):
 Blk (((w.setCell ⟨b,0,none⟩ x0).setCell ⟨b,1,none⟩ x1).setCell ⟨b,2,none⟩ x2) b #[x0,x1,x2] t:=by
 have h9:=((h.set 0 x0).set 1 x1).set 2 x2
 simpa using h9
theorem st3_step{K:Act→World→Prop}{act:Act}{w:World}{g:Nat}{t:TypeId}{y0 y1 y2 x0 x1 x2:Value}(hb:Blk w g #[y0,y1,y2] t)(h:∀w',KeptB w w' g→Blk w' g #[x0,x1,x2] t→K act w'):
 K act (((w.setCell ⟨g,0,none⟩ x0).setCell ⟨g,1,none⟩ x1).setCell ⟨g,2,none⟩ x2):=h _ (KeptB.store3 ..) (hb.all3 ..)
set_option maxHeartbeats 4000000
set_option maxRecDepth 100000
theorem give_calls{w:World}{v:Value}{neg:Bool}{n d:Nat}(h:Fr w v neg n d)(hn:fits32 n=true)(hd:fits32 d=true):
 Calls Tryz.prog 125 #[v] w fun e w'=>∃a1 n1 c1 a2 n2 c2,e= .returned (.tuple #[.agg #[.bool neg,.slice a1 n1 c1,.slice a2 n2 c2],.int .i64 0])∧Rt (onlyW w' (ab w.heap.size)) (.agg #[.bool neg,.slice a1 n1 c1,.slice a2 n2 c2]) neg n (if d=1 then 0 else d)∧Kept w w':=by
 have hft:=fun(w':World)(k:Kept w w')=>fits_calls (h.kept k)
 rw[hn,hd] at hft
 obtain⟨vn,vd,rfl,hvn,hvd⟩:=h
 obtain⟨p1,p2,p3,rfl,-⟩:=hvn.shape
 obtain⟨q1,q2,q3,rfl,-⟩:=hvd.shape
 have hcn:=fun(w':World)(k:Kept w w')=>clone_fresh (nt_raw (hvn.kept k) hn)
 have hcd:=fun(w':World)(k:Kept w w')=>clone_fresh (nt_raw (hvd.kept k) hd)
 have hon:=fun(w':World)(k:Kept w w')=>one_calls (hvd.kept k)
 clear hvn hvd
 generalize hdd:(if d=1 then 0 else d)=dd
 have HDD:=Lib.hid hdd
 clear hdd
 go_enter Tryz.func125,Tryz.ntmps125
 go_wp2_with(first|(go_at_call 133;refine(hft _ (((Kept.refl w).alloc _).alloc _)).mono ?_;rintro e w1 ⟨rfl,hk1⟩))
 obtain⟨hA,hB,hk0,hs0⟩:=al2k hk1
 have HS:Hid (∀w',Kept w1 w'→w'.cell? ⟨w.heap.size,0,none⟩=some (.bool neg)∧w'.cell? ⟨w.heap.size,1,none⟩=some (.slice p1 p2 p3)∧w'.cell? ⟨w.heap.size,2,none⟩=some (.slice q1 q2 q3)):=Lib.hid fun w' k=>(hA.kept k).c3
 have HN0:=Lib.hid hs0
 refine wp_region_held_drew (S:=fun w'=>w'.cell? ⟨w.heap.size,0,none⟩=some (.bool neg)∧w'.cell? ⟨w.heap.size,1,none⟩=some (.slice p1 p2 p3)∧w'.cell? ⟨w.heap.size,2,none⟩=some (.slice q1 q2 q3)) (by kernel_rfl) (HS.out _ (Kept.refl w1).drew) (fun hHeld=> ?_)
 refine tk 0 ?_
 try simp only[Act.put,List.setIfInBounds_toArray]
 refine tk 1 ?_
 try simp only[Act.put]
 refine tk 2 ?_
 try simp only[Act.put]
 refine tk 3 ?_
 try simp only[Act.put]
 refine rd2 4 6 (fun K hK=> ?ga) (fun K hK=> ?gb)
 case' ga=>
  go_simp
  go_at_call 200
  refine(hcn _ hk0.drew).mono ?_
  rintro e wb ⟨b1,m1,d1,rfl,hr1,hkb⟩
  have hkb1:Kept w1 wb:=(Kept.refl w1).drew.trans hkb
  refine hK.out _ _ (HS.out _ hkb1) (fun hHeld=> ?_)
  clear hK K
  try simp only[Act.put,List.setIfInBounds_toArray,List.set_cons_zero,List.set_cons_succ]
  refine tk 5 ?_
  try simp only[Act.put]
  refine rd1 6 fun K hK=> ?_
  go_simp
  refine hK.out _ _ (HS.out _ (hkb1.alloc _)) (fun hHeld=> ?_)
  clear hK K
  try simp only[Act.put,List.setIfInBounds_toArray,List.set_cons_zero,List.set_cons_succ]
  generalize hWx:World.alloc wb _=wx
  obtain⟨h4,hkx,hsx⟩:=al1 hWx
  have hszb:=hkb1.size
  have hrx:Raw (onlyW wx (fun b=>decide (w.heap.size+2≤b)&&(b != wb.heap.size))) (.slice b1 m1 d1) n:=hr1.sub (only_move fun b hb hs=>⟨by
   have h0:_≤b:=of_decide_eq_true hs
   have h1:w1.heap.size≤b:=h0
   simp;omega,hkx.old b hb⟩)
  have hkx1:Kept w1 wx:=hkb1.trans hkx
  generalize hb4:wb.heap.size=b4 at h4 hrx⊢
 case' gb=>
  go_simp
  refine hK.out _ _ (HS.out _ ((Kept.refl w1).alloc _).drew) (fun hHeld=> ?_)
  clear hK K
  try simp only[Act.put,List.setIfInBounds_toArray,List.set_cons_zero,List.set_cons_succ]
  generalize hWx:World.drew (World.alloc w1 _)=wy
  obtain⟨h4,hkx,hsx⟩:=al1e hWx
  refine rd1 4 fun K hK=> ?_
  go_simp
  go_at_call 200
  refine(hcn _ (hk0.trans hkx)).mono ?_
  rintro e wx ⟨b1,m1,d1,rfl,hr1,hkb⟩
  have hkx1:Kept w1 wx:=hkx.trans hkb
  have hszb:=hkb.size
  replace h4:=h4.kept hkb
  have hrx:Raw (onlyW wx (fun b=>decide (w.heap.size+2≤b)&&(b != w1.heap.size))) (.slice b1 m1 d1) n:=hr1.sub (only_move fun b hb hs=>⟨by
   have h0:_≤b:=of_decide_eq_true hs
   have h1:wy.heap.size≤b:=h0
   simp;omega,rfl⟩)
  refine hK.out _ _ (HS.out _ hkx1) (fun hHeld=> ?_)
  clear hK K
  try simp only[Act.put,List.setIfInBounds_toArray,List.set_cons_zero,List.set_cons_succ]
  refine tk 5 ?_
  try simp only[Act.put]
  generalize hb4:w1.heap.size=b4 at h4 hrx⊢
 all_goals
  have hb4ge:w1.heap.size≤b4:=by omega
  have hne:b4≠w.heap.size+1:=by omega
  have hne':w.heap.size+1≠b4:=by omega
  refine rd1 7 fun K hK=> ?_
  obtain⟨l0,l1,l2,j0,j1,j2⟩:=h4.facts3
  go_simp
  refine st3_step (K:=K) h4 fun wd kd hn4=> ?_
  clear l0 l1 l2 j0 j1 j2
  have hkd1:Kept w1 wd:=hkx1.but kd (by omega)
  have hrd:Raw (onlyW wd (fun b=>decide (w.heap.size+2≤b)&&(b != b4))) (.slice b1 m1 d1) n:=hrx.sub (only_move fun b hb hs=>⟨hs,kd.old b hb (by
   simp at hs;exact hs.2)⟩)
  refine hK.out _ _ (HS.out _ hkd1) (fun hHeld=> ?_)
  clear hK K
  try simp only[Act.put,List.setIfInBounds_toArray,List.set_cons_zero,List.set_cons_succ]
  refine wpAnyH_done (by kernel_rfl) ?_ _
  have hAd:=hA.kept hkd1
  have hBd:=hB.kept hkd1
  have hkw:=hk0.trans hkd1
  obtain⟨e0,e1,e2,-⟩:=hAd.facts3
  have ho:=hon _ hkw
  by_cases hd1:d=1
  ·rw[decide_eq_true hd1] at ho
   obtain⟨i0,i1,i2,-⟩:=hn4.facts3
   obtain⟨k0,k1,k2,l0,l1,l2⟩:=hBd.facts3
   go_wp2_with(first|(go_at_call 198;refine ho.mono ?_;rintro e we ⟨rfl,rfl⟩))
   have hend:=KeptB.store3 wd (w.heap.size+1) (.bool neg) (.slice b1 m1 d1) (.slice none 0 0)
   have key:∀W3,KeptB wd W3 (w.heap.size+1)→Rt (onlyW W3 (ab w.heap.size)) (.agg #[.bool neg,.slice b1 m1 d1,.slice none 0 0]) neg n dd∧Kept w W3:=by
    intro W3 hk
    rw[←HDD.out,if_pos hd1]
    refine⟨⟨_,_,rfl,hrd.sub (only_move fun b hb hs=>⟨?_,hk.old b hb ?_⟩),⟨none,0,0,fun _=>0,rfl,Nat.le_refl _,by omega,fun i h=>absurd h (Nat.not_lt_zero i),rfl,fun i h=>absurd h (Nat.not_lt_zero i)⟩⟩,hkw.but hk (by omega)⟩
    ·simp[ab] at hs⊢;omega
    ·simp at hs;omega
   exact bodyPost_ret (v:=.tuple #[.agg #[.bool neg,.slice b1 m1 d1,.slice none 0 0],.int .i64 0]) (by simp[results,Tryz.results125,go_sem,k0,k1,k2]) rfl ⟨_,_,_,_,_,_,rfl,(key _ hend).1,(key _ hend).2⟩
  ·rw[decide_eq_false hd1] at ho
   obtain⟨i0,i1,i2,f0,f1,f2⟩:=hn4.facts3
   go_wp2_with(first
    |(go_at_call 198;refine ho.mono ?_;rintro e we ⟨rfl,rfl⟩)
    |(go_at_call 200;refine(hcd _ hkw).mono ?_;rintro e we ⟨b2,m2,d2,rfl,hr2,hke⟩
      have hn5:=hn4.kept hke
      have hBe:=hBd.kept hke
      clear i0 i1 i2 f0 f1 f2 e0 e1 e2
      obtain⟨i0,i1,i2,f0,f1,f2⟩:=hn5.facts3
      obtain⟨k0,k1,k2,l0,l1,l2⟩:=hBe.facts3))
   have hend:=KeptB.store3 (we.setCell ⟨b4,2,none⟩ (.slice b2 m2 d2)) (w.heap.size+1) (.bool neg) (.slice b1 m1 d1) (.slice b2 m2 d2)
   have hmid:KeptB we (we.setCell ⟨b4,2,none⟩ (.slice b2 m2 d2)) b4:=(KeptB.refl _ _).setCell rfl _
   have hsd:=hkd1.size
   have key:∀W3,KeptB (we.setCell ⟨b4,2,none⟩ (.slice b2 m2 d2)) W3 (w.heap.size+1)→Rt (onlyW W3 (ab w.heap.size)) (.agg #[.bool neg,.slice b1 m1 d1,.slice b2 m2 d2]) neg n dd∧Kept w W3:=by
    intro W3 hk
    rw[←HDD.out,if_neg hd1]
    have hsz:=hke.size
    have hszm:=hmid.size
    refine⟨⟨_,_,rfl,hrd.sub (only_move fun b hb hs=>⟨?_,?_⟩),hr2.sub (only_move fun b hb hs=>⟨?_,?_⟩)⟩,((hkw.trans hke).but hmid (by omega)).but hk (by omega)⟩
    ·simp[ab] at hs⊢;omega
    ·simp at hs
     exact((hk.old b (by omega) (by omega)).trans (hmid.old b (by omega) hs.2)).trans (hke.old b hb)
    ·have h0:_≤b:=of_decide_eq_true hs
     have h1:wd.heap.size≤b:=h0
     simp[ab];omega
    ·have h0:_≤b:=of_decide_eq_true hs
     have h1:wd.heap.size≤b:=h0
     have h2:=hn4.lt
     exact(hk.old b (by omega) (by omega)).trans (hmid.old b (by omega) (by omega))
   exact bodyPost_ret (v:=.tuple #[.agg #[.bool neg,.slice b1 m1 d1,.slice b2 m2 d2],.int .i64 0]) (by simp[results,Tryz.results125,go_sem,k0,k1,k2]) rfl ⟨_,_,_,_,_,_,rfl,(key _ hend).1,(key _ hend).2⟩
end
section
open Go Go.RowKit Go.Dig Go.Deep
open Go.Eng (Kept KW KeptB wp_region_kw kw_call)
set_option maxHeartbeats 4000000
set_option maxRecDepth 100000
theorem canon1_calls(w:World)(p:Bool)(a:Option Addr)(n c:Nat)(a':Option Addr)(n' c':Nat):
 Calls Tryz.prog 129 #[.agg #[.bool p,.slice a n c,.slice a' n' c']] w fun e w'=>e= .returned (.agg #[.bool p,.slice a n c,.slice a' n' c'])∧Kept w w':=by
 go_enter Tryz.func129,Tryz.ntmps129
 go_wp2
 generalize hW:World.alloc (World.alloc w _) _=W
 obtain⟨-,hB,hk,-⟩:=al2 hW
 obtain⟨k0,k1,k2,-⟩:=hB.facts3
 exact bodyPost_ret (v:=.agg #[.bool p,.slice a n c,.slice a' n' c']) (by simp[results,Tryz.results129,go_sem,k0,k1,k2]) rfl ⟨rfl,hk⟩
theorem canon_one{w:World}{v:Value}{s:Bool}{N D:Nat}(h:Rt w v s N D)(hs:small N D=true)(hT:Laid w):
 Calls Tryz.prog 128 #[v,.func (.func 129) #[] #[]] w fun e w'=>∃a1 n1 c1 a2 n2 c2,e= .returned (.tuple #[.agg #[.bool (s&&decide (0<N)),.slice a1 n1 c1,.slice a2 n2 c2],.int .i64 0])∧Rt (onlyW w' (ab w.heap.size)) (.agg #[.bool (s&&decide (0<N)),.slice a1 n1 c1,.slice a2 n2 c2]) (s&&decide (0<N)) (rN N D) (cD N D)∧Kept w w':=by
 have hr:=fun(w':World)(k:Kept w w')=>read_calls (h.kept k) (hT.kept k)
 unfold RetRead at hr
 rw[hs] at hr
 obtain⟨vn,vd,rfl,hn,hd⟩:=h
 obtain⟨p1,p2,p3,zs,rfl,-⟩:=hn
 obtain⟨q1,q2,q3,zs',rfl,-⟩:=hd
 have hf:fits32 (rN N D)=true∧fits32 (rD N D)=true:=by
  unfold small at hs
  simp only[Bool.and_eq_true] at hs
  exact⟨hs.1.2,hs.2⟩
 have hgv:=fun(w':World)(v:Value)(q:Fr w' v (s&&decide (0<N)) (rN N D) (rD N D))=>give_calls q hf.1 hf.2
 have e1:(if rD N D=1 then 0 else rD N D)=cD N D:=rfl
 rw[e1] at hgv
 generalize (s&&decide (0<N))=sg at*
 generalize rN N D=rn at*
 generalize rD N D=rd at*
 generalize cD N D=cd at*
 clear hT hs hf e1
 go_enter Tryz.func128,Tryz.ntmps128
 go_wp2_with(first
  |(go_at_call 61;refine(hr _ (((Kept.refl w).alloc _).alloc _)).mono ?_;rintro e w1 ⟨p,a,n,c,a',n',c',rfl,hk1,hfr⟩
    obtain⟨hA,hB,hk0,hs0⟩:=al2k hk1
    have HF:=Lib.hid (hfr rfl)
    obtain rfl:p=sg:=by
     obtain⟨_,_,e,-⟩:=hfr rfl
     have e2:=Value.agg.inj e
     simp only[Array.mk.injEq,List.cons.injEq,Value.bool.injEq] at e2
     exact e2.1
    clear hfr)
  |(go_at_call 129;refine(canon1_calls _ _ _ _ _ _ _ _).mono ?_;rintro e w2 ⟨rfl,hk2⟩
    have hk12:Kept w1 w2:=((Kept.refl w1).alloc _).trans hk2)
  |(go_at_call 125;refine(hgv _ _ (HF.out.kept hk12)).mono ?_;rintro e w3 ⟨a1,n1,c1,a2,n2,c2,rfl,hr3,hk3⟩
    have hk13:=hk12.trans hk3
    obtain⟨k0,k1,k2,l0,l1,l2⟩:=(hB.kept hk13).facts3))
 have hend:=KeptB.store3 w3 (w.heap.size+1) (.bool p) (.slice a1 n1 c1) (.slice a2 n2 c2)
 have hs2:=hk12.size
 have key:∀W3,KeptB w3 W3 (w.heap.size+1)→Rt (onlyW W3 (ab w.heap.size)) (.agg #[.bool p,.slice a1 n1 c1,.slice a2 n2 c2]) p rn cd∧Kept w W3:=fun W3 hk=>
  ⟨hr3.sub (only_move fun b hb hs=>⟨by
    have h0:_≤b:=of_decide_eq_true hs
    have h1:w2.heap.size≤b:=h0
    simp[ab];omega,hk.old b hb (by
    have h0:_≤b:=of_decide_eq_true hs
    have h1:w2.heap.size≤b:=h0
    omega)⟩),(hk0.trans hk13).but hk (by omega)⟩
 exact bodyPost_ret (v:=.tuple #[.agg #[.bool p,.slice a1 n1 c1,.slice a2 n2 c2],.int .i64 0]) (by simp[results,Tryz.results128,go_sem,k0,k1,k2]) rfl ⟨_,_,_,_,_,_,rfl,(key _ hend).1,(key _ hend).2⟩
theorem canon_calls{w:World}{v:Value}{s:Bool}{N D:Nat}(h:Rt w v s N D)(hs:small N D=true)(hT:Laid w):
 Calls Tryz.prog 60 #[v] w fun e w'=>∃a1 n1 c1 a2 n2 c2,e= .returned (.tuple #[.agg #[.bool (s&&decide (0<N)),.slice a1 n1 c1,.slice a2 n2 c2],.int .i64 0])∧Rt (onlyW w' (ab w.heap.size)) (.agg #[.bool (s&&decide (0<N)),.slice a1 n1 c1,.slice a2 n2 c2]) (s&&decide (0<N)) (rN N D) (cD N D)∧Kept w w':=by
 have hc:=fun(w':World)(k:Kept w w')=>canon_one (h.kept k) hs (hT.kept k)
 obtain⟨vn,vd,rfl,hn,hd⟩:=h
 obtain⟨p1,p2,p3,zs,rfl,-⟩:=hn
 obtain⟨q1,q2,q3,zs',rfl,-⟩:=hd
 generalize (s&&decide (0<N))=sg at*
 generalize rN N D=rn at*
 generalize cD N D=cd at*
 clear hT hs
 go_enter Tryz.func60,Tryz.ntmps60
 go_wp2_with(first
  |(go_at_call 128;refine(hc _ (((Kept.refl w).alloc _).alloc _)).mono ?_;rintro e w3 ⟨a1,n1,c1,a2,n2,c2,rfl,hr3,hk3⟩
    obtain⟨-,hB,hk0,hs0⟩:=al2k hk3
    obtain⟨k0,k1,k2,l0,l1,l2⟩:=hB.facts3))
 have hend:=KeptB.store3 w3 (w.heap.size+1) (.bool sg) (.slice a1 n1 c1) (.slice a2 n2 c2)
 have key:∀W3,KeptB w3 W3 (w.heap.size+1)→Rt (onlyW W3 (ab w.heap.size)) (.agg #[.bool sg,.slice a1 n1 c1,.slice a2 n2 c2]) sg rn cd∧Kept w W3:=fun W3 hk=>
  ⟨hr3.sub (only_move fun b hb hs=>⟨by
    have h0:_≤b:=of_decide_eq_true hs
    simp[go_sem] at h0
    simp[ab];omega,hk.old b hb (by
    have h0:_≤b:=of_decide_eq_true hs
    simp[go_sem] at h0
    omega)⟩),hk0.but hk (by omega)⟩
 exact bodyPost_ret (v:=.tuple #[.agg #[.bool sg,.slice a1 n1 c1,.slice a2 n2 c2],.int .i64 0]) (by simp[results,Tryz.results60,go_sem,k0,k1,k2]) rfl ⟨_,_,_,_,_,_,rfl,(key _ hend).1,(key _ hend).2⟩
end
section
open Go Go.RowKit Go.Dig
open Go.Eng (Kept KW KeptB wp_region_kw kw_call)
theorem iread_nv{w:World}{v:Value}{i:IvD}(h:Ivl w v i)(hT:Laid w)(hf:i.fine=true)(hv:i.void=false):
 Calls Tryz.prog 108 #[v] w fun e w'=>∃x1 x2 x3 x4 x5 x6 x7 x8 x9 xa xb xc,e= .returned (.agg #[.bool (i.s1&&decide (0<i.N1)),.slice x1 x2 x3,.slice x4 x5 x6,.bool (i.s2&&decide (0<i.N2)),.slice x7 x8 x9,.slice xa xb xc,.bool i.li,.bool i.hi,.bool false])∧
  Fr w' (.agg #[.bool (i.s1&&decide (0<i.N1)),.slice x1 x2 x3,.slice x4 x5 x6]) (i.s1&&decide (0<i.N1)) (rN i.N1 i.D1) (rD i.N1 i.D1)∧Fr w' (.agg #[.bool (i.s2&&decide (0<i.N2)),.slice x7 x8 x9,.slice xa xb xc]) (i.s2&&decide (0<i.N2)) (rN i.N2 i.D2) (rD i.N2 i.D2)∧Kept w w':=by
 refine(iread_good h hT hf).mono ?_
 rintro e w' ⟨v',rfl,⟨x1,x2,x3,x4,x5,x6,x7,x8,x9,xa,xb,xc,rfl,h1,h2⟩,hk⟩
 rw[hv]
 exact⟨x1,x2,x3,x4,x5,x6,x7,x8,x9,xa,xb,xc,rfl,h1,h2,hk⟩
end
section
open Go Go.RowKit Go.Dig
open Go.Eng (Kept KW KeptB)
structure AcI(xs ys:Nat→Nat)(i:Nat)(zs:Nat→Nat)(c:Nat):Prop where
 lt:∀k,zs k<4294967296
 clt:c≤1
 eq:val 4294967296 zs i+c*4294967296^i=val 4294967296 xs i+val 4294967296 ys i
theorem val_put(B:Nat)(zs:Nat→Nat)(n x:Nat):val B (Dig.upd zs n x) (n+1)=val B zs n+x*B^n:=by
 simp only[val]
 rw[val_congr (ys:=zs) fun i hi=>by simp[Dig.upd];omega]
 simp[Dig.upd]
theorem AcI.step{xs ys zs:Nat→Nat}{i c:Nat}(h:AcI xs ys i zs c)(hx:xs i<4294967296)(hy:ys i<4294967296):
 AcI xs ys (i+1) (Dig.upd zs i ((xs i+c+ys i)%4294967296)) ((xs i+c+ys i)/4294967296):=by
 have hc:=h.clt
 refine⟨fun k=>by unfold Dig.upd;split;exact Nat.mod_lt _ (by decide);exact h.lt k,by omega,?_⟩
 have e:=h.eq
 have hm:=Nat.mod_add_div (xs i+c+ys i) 4294967296
 rw[val_put]
 simp only[val]
 rw[Nat.pow_succ]
 generalize (xs i+c+ys i)/4294967296=c' at*
 generalize (xs i+c+ys i)%4294967296=l at*
 generalize 4294967296^i=P at*
 have e2:(xs i+c+ys i)*P=(l+4294967296*c')*P:=by rw[hm]
 grind
theorem AcI.start(xs ys:Nat→Nat):AcI xs ys 0 (fun _=>0) 0:=⟨fun _=>by decide,by omega,by simp[val]⟩
theorem AcI.last{xs ys zs:Nat→Nat}{i c:Nat}(h:AcI xs ys i zs c):(∀k,Dig.upd zs i c k<4294967296)∧val 4294967296 (Dig.upd zs i c) (i+1)=val 4294967296 xs i+val 4294967296 ys i:=
 ⟨fun k=>by unfold Dig.upd;split;have:=h.clt;omega;exact h.lt k,by rw[val_put];exact h.eq⟩
set_option maxHeartbeats 4000000 in
set_option maxRecDepth 100000 in
theorem wadd_ge(w:World)(a a':Option Addr)(n n' cap cap':Nat)(xs ys:Nat→Nat)(hn:n≤2000)(hnn:n'≤n)
 (hxl:∀i,i<n→xs i<4294967296)(hyl:∀i,i<n'→ys i<4294967296)(hx:Ws w a n xs)(hy:Ws w a' n' ys)(v u:Value)
 (hcase:(v= .slice a n cap∧u= .slice a' n' cap')∨(n'<n∧v= .slice a' n' cap'∧u= .slice a n cap)):
 Calls Tryz.prog 192 #[v,u] w (RetNt 4294967296 (val 4294967296 xs n+val 4294967296 ys n') w):=by
 have hmk:=fun w=>run_make_row' (P:=Tryz.prog) 22 212 (.int .u32 0) 4 Tryz.underlying22 info191 rfl .i64 .i64 (n+1) (by omega) (by omega) w
 have ec:((n+1:Nat):Int)=(n:Int)+1:=by omega
 rw[ec] at hmk
 clear ec
 have HXL:=Lib.hid hxl;clear hxl
 have HYL:=Lib.hid hyl;clear hyl
 have HX:=Lib.hid hx;clear hx
 have HY:=Lib.hid hy;clear hy
 rcases hcase with⟨rfl,rfl⟩|⟨hlt0,rfl,rfl⟩
 ·have tlt:decide (n<n')=false:=by simp;omega
  go_enter Tryz.func192,Tryz.ntmps192
  go_wp2
  clear hmk
  go_loopw [6,23] (fun cv iv wr=>∃(k c:Nat)(zs:Nat→Nat),k≤n∧iv= .int .i64 (k:Int)∧cv= .int .u64 (c:Int)∧AcI xs (ext ys n') k zs c∧Row wr w.heap.size (n+1) zs∧Kept w wr) (fun _ iv _=>n-(intOf iv).toNat)
  case atStart=>exact⟨0,0,fun _=>0,Nat.zero_le _,rfl,rfl,AcI.start _ _,Row.made _ _,(Kept.refl _).alloc _⟩
  case round=>
   obtain⟨k,c,zs,hk,rfl,rfl,hai,hrow,hkw⟩:=hrel
   have hcl:=hai.clt
   by_cases hlt:k<n
   ·obtain⟨b,off,rfl,hcx⟩:=(HX.out.kept hkw) k hlt
    have hxk:=HXL.out k hlt
    have h3:=hrow.cell (i:=k) (by omega)
    have h4:=hrow.frozen k
    by_cases hlt2:k<n'
    ·obtain⟨b',off',rfl,hcy⟩:=(HY.out.kept hkw) k hlt2
     have hyk:=HYL.out k hlt2
     have hst:=Lib.hid (hai.step hxk (by simp only[ext,if_pos hlt2];exact hyk))
     simp only[ext,if_pos hlt2] at hst
     clear hai
     go_wp2
     go_roundw
     case rel=>
      refine⟨k+1,(xs k+c+ys k)/4294967296,_,by omega,by go_num,by go_num,hst.out,?_,hkw.setCell (Nat.le_refl _) _⟩
      have e1:(((xs k:Int)+(c:Int)+(ys k:Int))%4294967296)=(((xs k+c+ys k)%4294967296:Nat):Int):=by omega
      rw[e1]
      exact hrow.set _ _
     case measure=>simp[intOf];omega
    ·have hst:=Lib.hid (hai.step hxk (by simp only[ext,if_neg hlt2];decide))
     simp only[ext,if_neg hlt2,Nat.add_zero] at hst
     clear hai
     go_wp2
     go_roundw
     case rel=>
      refine⟨k+1,(xs k+c)/4294967296,_,by omega,by go_num,by go_num,hst.out,?_,hkw.setCell (Nat.le_refl _) _⟩
      have e1:(((xs k:Int)+(c:Int))%4294967296)=(((xs k+c)%4294967296:Nat):Int):=by omega
      rw[e1]
      exact hrow.set _ _
     case measure=>simp[intOf];omega
   ·obtain rfl:n=k:=by omega
    have h3:=hrow.cell (i:=n) (by omega)
    have h4:=hrow.frozen n
    have hl:=hai.last
    rw[val_ext hnn] at hl
    have HL:=Lib.hid hl;clear hl hai
    have ec:(c:Int)%4294967296=(c:Nat):=by omega
    go_wp2_with(go_at_call 130;first|rw[ec]|skip;refine(of_calls _ _ _ _ (Dig.upd zs n c) (by omega) (Nat.le_refl _) ((hrow.set n c).ws (Nat.le_refl _))).mono ?_;rintro e w' ⟨rfl,rfl⟩)
    go_ret
    refine⟨_,rfl,?_,hkw.setCell (Nat.le_refl _) _⟩
    have:=nt_of (B:=4294967296) (cap:=n+1) (Nat.le_refl _) (fun i _=>HL.out.1 i) ((hrow.set n c).ws (Nat.le_refl _))
    rw[HL.out.2] at this
    exact this
 ·have tlt:decide (n'<n)=true:=by simp;omega
  go_enter Tryz.func192,Tryz.ntmps192
  go_wp2
  clear hmk
  go_loopw [6,23] (fun cv iv wr=>∃(k c:Nat)(zs:Nat→Nat),k≤n∧iv= .int .i64 (k:Int)∧cv= .int .u64 (c:Int)∧AcI xs (ext ys n') k zs c∧Row wr w.heap.size (n+1) zs∧Kept w wr) (fun _ iv _=>n-(intOf iv).toNat)
  case atStart=>exact⟨0,0,fun _=>0,Nat.zero_le _,rfl,rfl,AcI.start _ _,Row.made _ _,(Kept.refl _).alloc _⟩
  case round=>
   obtain⟨k,c,zs,hk,rfl,rfl,hai,hrow,hkw⟩:=hrel
   have hcl:=hai.clt
   by_cases hlt:k<n
   ·obtain⟨b,off,rfl,hcx⟩:=(HX.out.kept hkw) k hlt
    have hxk:=HXL.out k hlt
    have h3:=hrow.cell (i:=k) (by omega)
    have h4:=hrow.frozen k
    by_cases hlt2:k<n'
    ·obtain⟨b',off',rfl,hcy⟩:=(HY.out.kept hkw) k hlt2
     have hyk:=HYL.out k hlt2
     have hst:=Lib.hid (hai.step hxk (by simp only[ext,if_pos hlt2];exact hyk))
     simp only[ext,if_pos hlt2] at hst
     clear hai
     go_wp2
     go_roundw
     case rel=>
      refine⟨k+1,(xs k+c+ys k)/4294967296,_,by omega,by go_num,by go_num,hst.out,?_,hkw.setCell (Nat.le_refl _) _⟩
      have e1:(((xs k:Int)+(c:Int)+(ys k:Int))%4294967296)=(((xs k+c+ys k)%4294967296:Nat):Int):=by omega
      rw[e1]
      exact hrow.set _ _
     case measure=>simp[intOf];omega
    ·have hst:=Lib.hid (hai.step hxk (by simp only[ext,if_neg hlt2];decide))
     simp only[ext,if_neg hlt2,Nat.add_zero] at hst
     clear hai
     go_wp2
     go_roundw
     case rel=>
      refine⟨k+1,(xs k+c)/4294967296,_,by omega,by go_num,by go_num,hst.out,?_,hkw.setCell (Nat.le_refl _) _⟩
      have e1:(((xs k:Int)+(c:Int))%4294967296)=(((xs k+c)%4294967296:Nat):Int):=by omega
      rw[e1]
      exact hrow.set _ _
     case measure=>simp[intOf];omega
   ·obtain rfl:n=k:=by omega
    have h3:=hrow.cell (i:=n) (by omega)
    have h4:=hrow.frozen n
    have hl:=hai.last
    rw[val_ext hnn] at hl
    have HL:=Lib.hid hl;clear hl hai
    have ec:(c:Int)%4294967296=(c:Nat):=by omega
    go_wp2_with(go_at_call 130;first|rw[ec]|skip;refine(of_calls _ _ _ _ (Dig.upd zs n c) (by omega) (Nat.le_refl _) ((hrow.set n c).ws (Nat.le_refl _))).mono ?_;rintro e w' ⟨rfl,rfl⟩)
    go_ret
    refine⟨_,rfl,?_,hkw.setCell (Nat.le_refl _) _⟩
    have:=nt_of (B:=4294967296) (cap:=n+1) (Nat.le_refl _) (fun i _=>HL.out.1 i) ((hrow.set n c).ws (Nat.le_refl _))
    rw[HL.out.2] at this
    exact this
theorem wadd_calls{w:World}{v u:Value}{m k:Nat}(hv:Nt 4294967296 w v m)(hu:Nt 4294967296 w u k)(hm:m<Big)(hk:k<Big):
 Calls Tryz.prog 192 #[v,u] w (RetNt 4294967296 (m+k) w):=by
 obtain⟨a,n,cap,xs,rfl,hc,hd,hn,rfl,hw⟩:=hv
 obtain⟨a',n',cap',ys,rfl,hc',hd',hn',rfl,hw'⟩:=hu
 have hl:=len_big (.inr rfl) hn hm
 have hl':=len_big (.inr rfl) hn' hk
 by_cases h:n<n'
 ·rw[Nat.add_comm]
  exact wadd_ge w a' a n' n cap' cap ys xs (by omega) (by omega) hd' hd hw' hw _ _ (.inr ⟨h,rfl,rfl⟩)
 ·exact wadd_ge w a a' n n' cap cap' xs ys (by omega) (by omega) hd hd' hw hw' _ _ (.inl ⟨rfl,rfl⟩)
end
section
open Go Go.RowKit Go.Dig
open Go.Eng (Kept KW KeptB)
structure SbJ(xs ys:Nat→Nat)(i:Nat)(zs:Nat→Nat)(c:Nat):Prop where
 lt:∀k,zs k<4294967296
 clt:c≤1
 eq:val 4294967296 zs i+val 4294967296 ys i=val 4294967296 xs i+c*4294967296^i
def sbD(x c y:Nat):Nat:=(x+4294967296-c-y)%4294967296
def sbB(x c y:Nat):Nat:=if x<c+y then 1 else 0
theorem SbJ.step{xs ys zs:Nat→Nat}{i c:Nat}(h:SbJ xs ys i zs c)(hx:xs i<4294967296)(hy:ys i<4294967296):
 SbJ xs ys (i+1) (Dig.upd zs i (sbD (xs i) c (ys i))) (sbB (xs i) c (ys i)):=by
 have hc:=h.clt
 refine⟨fun k=>by unfold Dig.upd;split;exact Nat.mod_lt _ (by decide);exact h.lt k,by unfold sbB;split<;>omega,?_⟩
 have e:=h.eq
 have hm:sbD (xs i) c (ys i)+c+ys i=xs i+4294967296*sbB (xs i) c (ys i):=by
  unfold sbD sbB;split<;>omega
 rw[val_put]
 simp only[val]
 rw[Nat.pow_succ]
 generalize sbD (xs i) c (ys i)=l at*
 generalize sbB (xs i) c (ys i)=c' at*
 generalize 4294967296^i=P at*
 have e2:(l+c+ys i)*P=(xs i+4294967296*c')*P:=by rw[hm]
 grind
theorem SbJ.start(xs ys:Nat→Nat):SbJ xs ys 0 (fun _=>0) 0:=⟨fun _=>by decide,by omega,by simp[val]⟩
theorem sb_b{x c y:Nat}(hx:x<4294967296)(hc:c≤1)(hy:y<4294967296):IntKind.u64.wrap (IntKind.u64.wrap ((x:Int)-(c:Int))-(y:Int))/9223372036854775808=((sbB x c y:Nat):Int):=by
 rw[IntKind.wrap_u64,IntKind.wrap_u64];unfold sbB;split<;>omega
theorem sb_d{x c y:Nat}(hx:x<4294967296)(hc:c≤1)(hy:y<4294967296):IntKind.u64.wrap (IntKind.u64.wrap ((x:Int)-(c:Int))-(y:Int))%4294967296=((sbD x c y:Nat):Int):=by
 rw[IntKind.wrap_u64,IntKind.wrap_u64];unfold sbD;omega
theorem sb_b0{x c:Nat}(hx:x<4294967296)(hc:c≤1):IntKind.u64.wrap ((x:Int)-(c:Int))/9223372036854775808=((sbB x c 0:Nat):Int):=by
 rw[IntKind.wrap_u64];unfold sbB;split<;>omega
theorem sb_d0{x c:Nat}(hx:x<4294967296)(hc:c≤1):IntKind.u64.wrap ((x:Int)-(c:Int))%4294967296=((sbD x c 0:Nat):Int):=by
 rw[IntKind.wrap_u64];unfold sbD;omega
set_option maxHeartbeats 4000000 in
set_option maxRecDepth 100000 in
theorem wsub_ge(w:World)(a a':Option Addr)(n n' cap cap':Nat)(xs ys:Nat→Nat)(hn:n≤2000)(hnn:n'≤n)
 (hxl:∀i,i<n→xs i<4294967296)(hyl:∀i,i<n'→ys i<4294967296)(hx:Ws w a n xs)(hy:Ws w a' n' ys)(hge:val 4294967296 ys n'≤val 4294967296 xs n):
 Calls Tryz.prog 193 #[.slice a n cap,.slice a' n' cap'] w (RetNt 4294967296 (val 4294967296 xs n-val 4294967296 ys n') w):=by
 have hmk:=fun w=>run_make_row' (P:=Tryz.prog) 22 212 (.int .u32 0) 4 Tryz.underlying22 info191 rfl .i64 .i64 n (by omega) (by omega) w
 have HXL:=Lib.hid hxl;clear hxl
 have HYL:=Lib.hid hyl;clear hyl
 have HX:=Lib.hid hx;clear hx
 have HY:=Lib.hid hy;clear hy
 have HG:=Lib.hid hge;clear hge
 go_enter Tryz.func193,Tryz.ntmps193
 go_wp2
 clear hmk
 go_loopw [6,15] (fun cv iv wr=>∃(k c:Nat)(zs:Nat→Nat),k≤n∧iv= .int .i64 (k:Int)∧cv= .int .u64 (c:Int)∧SbJ xs (ext ys n') k zs c∧Row wr w.heap.size n zs∧Kept w wr) (fun _ iv _=>n-(intOf iv).toNat)
 case atStart=>exact⟨0,0,fun _=>0,Nat.zero_le _,rfl,rfl,SbJ.start _ _,Row.made _ _,(Kept.refl _).alloc _⟩
 case round=>
  obtain⟨k,c,zs,hk,rfl,rfl,hai,hrow,hkw⟩:=hrel
  have hcl:=hai.clt
  by_cases hlt:k<n
  ·obtain⟨b,off,rfl,hcx⟩:=(HX.out.kept hkw) k hlt
   have hxk:=HXL.out k hlt
   have h3:=hrow.cell (i:=k) (by omega)
   have h4:=hrow.frozen k
   by_cases hlt2:k<n'
   ·obtain⟨b',off',rfl,hcy⟩:=(HY.out.kept hkw) k hlt2
    have hyk:=HYL.out k hlt2
    have hst:=Lib.hid (hai.step hxk (by simp only[ext,if_pos hlt2];exact hyk))
    simp only[ext,if_pos hlt2] at hst
    clear hai
    go_wp2
    go_roundw
    case rel=>
     rw[sb_b hxk hcl hyk,sb_d hxk hcl hyk]
     exact⟨k+1,sbB (xs k) c (ys k),_,by omega,by go_num,rfl,hst.out,hrow.set _ _,hkw.setCell (Nat.le_refl _) _⟩
    case measure=>simp[intOf];omega
   ·have hst:=Lib.hid (hai.step hxk (by simp only[ext,if_neg hlt2];decide))
    simp only[ext,if_neg hlt2] at hst
    clear hai
    go_wp2
    go_roundw
    case rel=>
     rw[sb_b0 hxk hcl,sb_d0 hxk hcl]
     exact⟨k+1,sbB (xs k) c 0,_,by omega,by go_num,rfl,hst.out,hrow.set _ _,hkw.setCell (Nat.le_refl _) _⟩
    case measure=>simp[intOf];omega
  ·obtain rfl:n=k:=by omega
   have hl:c=0∧val 4294967296 zs n=val 4294967296 xs n-val 4294967296 ys n':=by
    have h1:=hai.eq
    rw[val_ext hnn] at h1
    have h2:=HG.out
    have h5:val 4294967296 zs n<4294967296^n:=val_lt (B:=4294967296) fun i _=>hai.lt i
    have hcz:c=0:=by
     rcases Nat.eq_zero_or_pos c with h|h
     ·exact h
     ·obtain rfl:c=1:=by omega
      omega
    subst hcz
    exact⟨rfl,by omega⟩
   have HL:=Lib.hid hl.2
   have HT:=Lib.hid hai.lt
   obtain⟨rfl,-⟩:=hl
   clear hai
   go_wp2_with(go_at_call 130;refine(of_calls _ _ _ _ zs (by omega) (Nat.le_refl _) (hrow.ws (Nat.le_refl _))).mono ?_;rintro e w' ⟨rfl,rfl⟩)
   go_ret
   refine⟨_,rfl,?_,hkw⟩
   have:=nt_of (B:=4294967296) (cap:=n) (Nat.le_refl _) (fun i _=>HT.out i) (hrow.ws (Nat.le_refl _))
   rw[HL.out] at this
   exact this
theorem wsub_calls{w:World}{v u:Value}{m k:Nat}(hv:Nt 4294967296 w v m)(hu:Nt 4294967296 w u k)(hm:m<Big)(hkm:k≤m):
 Calls Tryz.prog 193 #[v,u] w (RetNt 4294967296 (m-k) w):=by
 obtain⟨a,n,cap,xs,rfl,hc,hd,hn,rfl,hw⟩:=hv
 obtain⟨a',n',cap',ys,rfl,hc',hd',hn',rfl,hw'⟩:=hu
 have hl:=len_big (.inr rfl) hn hm
 refine wsub_ge w a a' n n' cap cap' xs ys (by omega) ?_ hd hd' hw hw' hkm
 refine(len_le_of_lt (B:=4294967296) (by decide) hn' (Nat.lt_of_le_of_lt hkm (val_lt (B:=4294967296) hd)))
end
end Go.Proofs.YtancebninmoipaaGreatDoor
