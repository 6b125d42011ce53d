/- A part of the proof that ClaimFaces answers true for every input of bulk at most 1048576: conditions: the row's own. -/
import Derived.Test.YtbapfnpbamnmpaaGreatDoorTa
import Derived.Test.YtbapfnpbamnmpaaGreatDoorRa
import Derived.Deep.Upon
import Derived.Test.YtbapfnpbamnmpaaGreatDoorTd
namespace Go.Proofs.YtbapfnpbamnmpaaGreatDoor
open Go Go.RowKit Go.Dig Go.Deep
open Go.Eng (Kept KW KeptB)
section
def InfoIs(e:TypeId)(z:Value)(sz by_:Nat):Prop:=∃i,Tryz.prog.info? e=some i∧i.zero=some z∧i.size=sz∧i.bytes=by_
theorem infoIs{e:TypeId}{z:Value}{sz by_:Nat}(h:(Tryz.prog.info? e).map (fun i=>(i.zero,i.size,i.bytes))=some (some z,sz,by_)):InfoIs e z sz by_:=by
 obtain⟨i,hi,hzz⟩:=Option.map_eq_some_iff.1 h
 simp only[Prod.mk.injEq] at hzz
 exact⟨i,hi,hzz.1,hzz.2.1,hzz.2.2⟩
section
variable{w:World}{base e sz:Nat}{v:Value}{n:Nat}{cs:List Value}
theorem own_kept{w':World}(h:w.ownsRow base e sz v n cs)(k:Kept w w'):w'.ownsRow base e sz v n cs:=by
 refine World.ownsRow.kept (row:=none) h ⟨k.os,k.tape,k.output,k.size,fun b hb _=>k.old b hb⟩ ?_
 cases hv:v.ownBlock with
 |none=>exact .inl rfl
 |some _=>exact .inr (by simp)
theorem own_open(h:w.ownsRow base e sz v n cs):∃a cap,v= .slice a n cap∧n≤cap∧cs.length=n*sz∧∀i,i<cs.length→∃b,base≤b∧a=some ⟨b,0,none⟩∧w.cell? ⟨b,i,none⟩=cs[i]? :=by
 obtain⟨hl,⟨rfl,rfl⟩|⟨g,cap,cur,rfl,hb,hg,hn,_,hcs,ht⟩⟩:=h
 ·exact⟨none,0,rfl,Nat.le_refl _,hl,fun i hi=>by rw[hl,Nat.zero_mul] at hi;exact absurd hi (Nat.not_lt_zero i)⟩
 ·refine⟨_,cap,rfl,hn,hl,fun i hi=>⟨g,hb,rfl,?_⟩⟩
  rw[←ht,List.getElem?_take,if_pos (by omega),Array.getElem?_toList]
  simp[World.cell?,hg]
end
theorem wpList_append_kept{w:World}{ops:Array Oper}{rest:List Oper}{o:Oper}{act:Act}{Q:Exit→Act→World→Prop}(hgd:o.guard=none)(s x:Operand)(t:TypeId)
 (ho:o.op= .call {callee:=.builtin .append,args:=#[s,x],argTypes:=#[t,t]}){e:TypeId}{z:Value}{sz by_:Nat}(hi:InfoIs e z sz by_)(ht:Tryz.prog.underlying t=some (.slice e))(hz:z.cells.size=sz)(hsz:0<sz)(hby:by_≤1024)
 (w0:World)(hk:Kept w0 w)(v:Value)(n:Nat)(cs:List Value)(hs:act.eval s=v)(hown:w.ownsRow w0.heap.size e sz v n cs)
 (ad:Addr)(m c:Nat)(news:List Value)(hx:act.eval x= .slice (some ad) m c)(hl:news.length=m*sz)(hnews:∀j u,news[j]? =some u→w.cell? (ad.add j)=some u)(h1:∀u∈news,u.oneCell'=true)(hb:n+m≤1099511627)
 (h:∀v' w',w'.ownsRow w0.heap.size e sz v' (n+m) (cs++news)→Kept w0 w'→wpList Tryz.prog ops Q rest (act.put o.dst v') w'):wpList Tryz.prog ops Q (o::rest) act w:=by
 obtain⟨i0,hi,hz0,hz1,hz2⟩:=hi
 refine wpList_append_own w hgd s x t ho w0.heap.size e i0 z sz by_ ht hi hz0 hz1 hz2 hz hsz v n _ hs hown ad m c news hx hl hnews h1 (by unfold maxLen;omega) (Nat.le_trans (Nat.mul_le_mul hb hby) (by decide)) hk.size ?_
 intro v' w' h1 h2 _
 refine h v' w' h1 ?_
 refine⟨Nat.le_trans hk.size h2.size,fun b hbk=> ?_,h2.tape.trans hk.tape,h2.os.trans hk.os,h2.output.trans hk.output⟩
 rw[h2.block b (Nat.lt_of_lt_of_le hbk hk.size) (fun e=> ?_)]
 ·exact hk.old b hbk
 ·have:=(World.ownsRow.lt hown b e.symm).1
  omega
theorem wpList_append_nothing{w:World}{ops:Array Oper}{rest:List Oper}{o:Oper}{act:Act}{Q:Exit→Act→World→Prop}(hgd:o.guard=none)(s x:Operand)(t:TypeId)
 (ho:o.op= .call {callee:=.builtin .append,args:=#[s,x],argTypes:=#[t,t]}){e:TypeId}{z:Value}{sz by_:Nat}(hi:InfoIs e z sz by_)(ht:Tryz.prog.underlying t=some (.slice e))
 (base:Option Addr)(n cap c:Nat)(a:Option Addr)(hs:act.eval s= .slice base n cap)(hn:n≤cap)(hx:act.eval x= .slice a 0 c)
 (h:wpList Tryz.prog ops Q rest (act.put o.dst (.slice base n cap)) w):wpList Tryz.prog ops Q (o::rest) act w:=by
 obtain⟨i0,hi,hz0,hz1,hz2⟩:=hi
 have hsrc:Src Tryz.prog i0.size t (.slice a 0 c) 0 [] w:=by
  cases a with
  |none=>exact Src.ofNil w ht c
  |some a=>exact Src.ofSlice w ht a 0 c [] (by simp) (fun j u h=>by simp at h) (fun _ h=>by cases h)
 have hrun:=run_append_nothing (P:=Tryz.prog) w t t o.type e i0 ht hi base n cap hn (.slice a 0 c) hsrc
 refine wpList_plain hgd fun K hK=> ?_
 unfold Oper.wp
 simp[execOp,ho,resolve,invoke,builtin,hs,hx,hrun,Result.andThen]
 exact hK _ _ h
def SL(w:World)(a:Option Addr)(n:Nat)(ss:List ByteArray):Prop:=n=ss.length∧((a=none∧n=0)∨∃b off,a=some ⟨b,off,none⟩∧∀(i:Nat)(h:i<ss.length),w.cell? ⟨b,off+i,none⟩=some (.string ss[i]))
theorem SL.kept{w w':World}{a:Option Addr}{n:Nat}{ss:List ByteArray}(h:SL w a n ss)(k:Kept w w'):SL w' a n ss:=
 ⟨h.1,h.2.imp id fun ⟨b,off,e,hc⟩=>⟨b,off,e,fun i hi=>k.cell (hc i hi)⟩⟩
def Sp(w:World)(base:Nat)(v:Value)(n:Nat)(ss:List ByteArray):Prop:=w.ownsRow base 9 1 v n (ss.map Value.string)
theorem info9:InfoIs 9 (.string .empty) 1 16:=infoIs (by kernel_rfl)
theorem Sp.open{w:World}{base n:Nat}{v:Value}{ss:List ByteArray}(h:Sp w base v n ss):∃a cap,v= .slice a n cap∧n≤cap∧SL w a n ss:=by
 obtain⟨hl,⟨rfl,rfl⟩|⟨g,cap,cur,rfl,hb,hg,hn,_,hcs,ht⟩⟩:=h
 ·exact⟨none,0,rfl,Nat.le_refl _,by simpa using hl.symm,.inl ⟨rfl,rfl⟩⟩
 ·have hl:n=ss.length:=by simp at hl;exact hl.symm
  refine⟨_,cap,rfl,hn,hl,.inr ⟨g,0,rfl,fun i hi=> ?_⟩⟩
  have hh:(cur.toList.take (n*1))[i]? =some (.string ss[i]):=by rw[ht];simp[hi]
  rw[Nat.mul_one,List.getElem?_take,if_pos (by omega),Array.getElem?_toList] at hh
  rw[Nat.zero_add]
  simp[World.cell?,hg,hh]
theorem Sp.nil(w:World)(base:Nat):Sp w base (.slice none 0 0) 0 []:=World.ownsRow_nil w base 9 1
theorem Sp.kept{w w':World}{base n:Nat}{v:Value}{ss:List ByteArray}(h:Sp w base v n ss)(k:Kept w w'):Sp w' base v n ss:=own_kept h k
theorem Sp.lt{w:World}{base n:Nat}{v:Value}{ss:List ByteArray}(h:Sp w base v n ss):n=ss.length:=by
 have:=h.1;simp at this;exact this.symm
theorem wpList_append_strs{w:World}{ops:Array Oper}{rest:List Oper}{o:Oper}{act:Act}{Q:Exit→Act→World→Prop}(hgd:o.guard=none)(s x:Operand)
 (ho:o.op= .call {callee:=.builtin .append,args:=#[s,x],argTypes:=#[199,199]})
 (w0:World)(hk:Kept w0 w)(v:Value)(n:Nat)(ss:List ByteArray)(hs:act.eval s=v)(hown:Sp w w0.heap.size v n ss)
 (a:Option Addr)(m c:Nat)(ts:List ByteArray)(hx:act.eval x= .slice a m c)(hsl:SL w a m ts)(hb:n+m≤1099511627)
 (h:∀v' w',Sp w' w0.heap.size v' (n+m) (ss++ts)→Kept w0 w'→wpList Tryz.prog ops Q rest (act.put o.dst v') w'):wpList Tryz.prog ops Q (o::rest) act w:=by
 obtain⟨hm,⟨rfl,rfl⟩|⟨b,off,rfl,hc⟩⟩:=hsl
 ·have ht:ts=[]:=List.eq_nil_of_length_eq_zero hm.symm
  subst ht
  obtain⟨a',cap',rfl,hcap,_⟩:=hown.open
  refine wpList_append_nothing hgd s x 199 ho info9 Tryz.underlying199 a' n cap' c none hs hcap hx (h _ w ?_ hk)
  simpa using hown
 ·refine wpList_append_kept hgd s x 199 ho info9 Tryz.underlying199 rfl (by decide) (by decide) w0 hk v n _ hs hown ⟨b,off,none⟩ m c (ts.map Value.string) hx (by simp[hm]) ?_ ?_ hb ?_
  ·intro j u hu
   rw[List.getElem?_map] at hu
   obtain⟨s,hs',rfl⟩:=Option.map_eq_some_iff.1 hu
   obtain⟨hj,rfl⟩:=List.getElem?_eq_some_iff.1 hs'
   rw[show(Addr.add ⟨b,off,none⟩ j)=⟨b,off+j,none⟩ by unfold Addr.add;split<;>simp_all]
   exact hc j hj
  ·intro u hu
   obtain⟨_,_,rfl⟩:=List.mem_map.1 hu
   rfl
  ·intro v' w' h1 h2
   rw[←List.map_append] at h1
   exact h v' w' h1 h2
end
theorem SL.one(w:World)(s:ByteArray)(t:TypeId):SL (w.alloc (.cells #[.string s] t)) (some ⟨w.heap.size,0,none⟩) 1 [s]:=
 ⟨rfl,.inr ⟨_,_,rfl,fun i hi=>by
   obtain rfl:i=0:=by simp at hi;exact hi
   exact(Blk.new w #[.string s] t).facts1.1⟩⟩
def RetPut(ss:List ByteArray)(s:ByteArray)(n:Nat)(w:World)(e:Ending)(w':World):Prop:=
 ∃(a:Option Addr)(n' cap:Nat)(ts:List ByteArray),e= .returned (.slice a n' cap)∧SL w' a n' ts∧n'≤cap∧n'≤n+1∧(∀x,x∈ts↔x∈ss∨x=s)∧Kept w w'
theorem bytes_eq{s t:ByteArray}(h:(s.toList==t.toList)=true):s=t:=by
 have h:=eq_of_beq h
 rw[ByteArray.toList_eq,ByteArray.toList_eq] at h
 exact ByteArray.ext (Array.toList_inj.1 h)
theorem put_mem{ss:List ByteArray}{s:ByteArray}(k:Nat)(x:ByteArray):x∈ss.take k++[s]++ss.drop k↔x∈ss∨x=s:=by
 have h:x∈ss↔x∈ss.take k∨x∈ss.drop k:=by rw[←List.mem_append,List.take_append_drop]
 rw[h];simp only[List.mem_append,List.mem_singleton]
 constructor<;>(intro h;rcases h with(h|h)|h<;>simp[h])
theorem put_end{ss:List ByteArray}{s:ByteArray}{n:Nat}(hn:n=ss.length)(x:ByteArray):x∈ss.take n++[s]++[]↔x∈ss∨x=s:=by
 rw[List.take_of_length_le (by omega)];simp
theorem SL.zero(w:World)(b off:Nat):SL w (some ⟨b,off,none⟩) 0 []:=⟨rfl,.inr ⟨b,off,rfl,fun i h=>absurd h (Nat.not_lt_zero i)⟩⟩
set_option maxHeartbeats 1000000 in
theorem put_nil(w:World)(s:ByteArray)(cap:Nat):Calls Tryz.prog 241 #[.slice none 0 cap,.string s] w (RetPut [] s 0 w):=by
 go_enter Tryz.func241,Tryz.ntmps241
 go_wp2
 go_loop [5] (fun i=>i= .int .i64 0) (fun _=>0)
 case atStart=>rfl
 case round=>
  subst hrel
  go_wp2_with(first
   |(at_builtin;refine wpList_append_strs rfl (.tmp 34) (.tmp 37) rfl w (Kept.refl w) _ 0 [] rfl (Sp.nil w _) none 0 _ [] rfl ⟨rfl,.inl ⟨rfl,rfl⟩⟩ (by decide) ?_;intro v1 w1 hp1 hk1;obtain⟨p1,q1,rfl,hq1,hsl1⟩:=hp1.open)
   |(at_builtin;refine wpList_append_strs rfl (.tmp 39) (.tmp 41) rfl w (hk1.alloc _) _ _ _ rfl (hp1.kept ((Kept.refl w1).alloc _)) (some ⟨w1.heap.size,0,none⟩) 1 1 [s] rfl (SL.one _ _ _) (by decide) ?_;intro v2 w2 hp2 hk2;obtain⟨p2,q2,rfl,hq2,hsl2⟩:=hp2.open)
   |(at_builtin;refine wpList_append_strs rfl (.tmp 43) (.tmp 46) rfl w hk2 _ _ _ rfl hp2 none 0 _ [] rfl ⟨rfl,.inl ⟨rfl,rfl⟩⟩ (by decide) ?_;intro v3 w3 hp3 hk3;obtain⟨p3,q3,rfl,hq3,hsl3⟩:=hp3.open))
  go_ret
  exact⟨p3,_,q3,_,rfl,hsl3,hq3,by omega,fun x=>by simp,hk3⟩
theorem slice_take{w:World}{b off n:Nat}{ss:List ByteArray}(hn:n=ss.length)(hc:∀(i:Nat)(h:i<ss.length),w.cell? ⟨b,off+i,none⟩=some (.string ss[i])){k:Nat}(hk:k≤n):SL w (some ⟨b,off,none⟩) k (ss.take k):=
 ⟨by simp;omega,.inr ⟨b,off,rfl,fun i hi=>by
   have hi':i<ss.length:=by simp at hi;omega
   rw[hc i hi'];simp⟩⟩
theorem slice_drop{w:World}{b off n:Nat}{ss:List ByteArray}(hn:n=ss.length)(hc:∀(i:Nat)(h:i<ss.length),w.cell? ⟨b,off+i,none⟩=some (.string ss[i])){k:Nat}(hk:k≤n):SL w (some ⟨b,off+k,none⟩) (n-k) (ss.drop k):=
 ⟨by simp;omega,.inr ⟨b,off+k,rfl,fun i hi=>by
   have hi':k+i<ss.length:=by simp at hi;omega
   rw[Nat.add_assoc,hc (k+i) hi'];simp⟩⟩
set_option maxHeartbeats 4000000 in
theorem put_some{w:World}{b off n cap:Nat}{ss:List ByteArray}(hn:n=ss.length)(hc:∀(i:Nat)(h:i<ss.length),w.cell? ⟨b,off+i,none⟩=some (.string ss[i]))(hcap:n≤cap)(hb:n≤100000)(s:ByteArray):
 Calls Tryz.prog 241 #[.slice (some ⟨b,off,none⟩) n cap,.string s] w (RetPut ss s n w):=by
 have HC:=Lib.hid hc
 have HN:=Lib.hid hn
 have hlen:∀k,k<n→k<ss.length:=fun k h=>by omega
 clear hn
 have HLEN:=Lib.hid hlen;clear hlen
 go_enter Tryz.func241,Tryz.ntmps241
 go_wp2
 go_loop [5] (fun i=>∃k:Nat,k≤n∧i= .int .i64 (k:Int)) (fun i=>n-(intOf i).toNat)
 case atStart=>exact⟨0,Nat.zero_le _,rfl⟩
 case round=>
  obtain⟨k,hk,rfl⟩:=hrel
  by_cases hlt:k<n
  ·have h0:=hc k (HLEN.out k hlt)
   have HX:Hid (ss[k]'(HLEN.out k hlt)∈ss):=Lib.hid (List.getElem_mem _)
   generalize ss[k]'(HLEN.out k hlt)=nk at*
   clear hc
   cases hlo:Op.bytesLess nk.toList s.toList
   ·cases heq:(nk.toList==s.toList)
    ·have HSL1:=Lib.hid (slice_take HN.out HC.out hk)
     have HSL3:=Lib.hid (slice_drop HN.out HC.out hk)
     go_wp2_with(first
      |(at_builtin;refine wpList_append_strs rfl (.tmp 34) (.tmp 37) rfl w (Kept.refl w) _ 0 [] rfl (Sp.nil w _) _ k _ (ss.take k) rfl HSL1.out (by omega) ?_;intro v1 w1 hp1 hk1;rw[Nat.zero_add,List.nil_append] at hp1;obtain⟨p1,q1,rfl,hq1,hsl1⟩:=hp1.open)
      |(at_builtin;refine wpList_append_strs rfl (.tmp 39) (.tmp 41) rfl w (hk1.alloc _) _ _ _ rfl (hp1.kept ((Kept.refl w1).alloc _)) (some ⟨w1.heap.size,0,none⟩) 1 1 [s] rfl (SL.one _ _ _) (by omega) ?_;intro v2 w2 hp2 hk2;obtain⟨p2,q2,rfl,hq2,hsl2⟩:=hp2.open)
      |(at_builtin;refine wpList_append_strs rfl (.tmp 43) (.tmp 46) rfl w hk2 _ _ _ rfl hp2 _ (n-k) _ (ss.drop k) rfl (HSL3.out.kept hk2) (by omega) ?_;intro v3 w3 hp3 hk3;obtain⟨p3,q3,rfl,hq3,hsl3⟩:=hp3.open))
     go_ret
     exact⟨p3,_,q3,_,rfl,hsl3,hq3,by omega,put_mem k,hk3⟩
    ·go_wp2
     go_ret
     refine⟨some ⟨b,off,none⟩,n,cap,ss,rfl,⟨HN.out,.inr ⟨b,off,rfl,HC.out⟩⟩,hcap,by omega,fun x=>⟨.inl,fun h=>h.elim id fun h=> ?_⟩,Kept.refl w⟩
     rw[h,←bytes_eq heq];exact HX.out
   ·go_wp2
    go_round
    case rel=>exact⟨k+1,by omega,by go_num⟩
    case measure=>simp[intOf];omega
  ·obtain rfl:n=k:=by omega
   have HSL1:=Lib.hid (slice_take HN.out HC.out hk)
   clear hc
   by_cases hnc:n=cap
   ·subst hnc
    go_wp2_with(first
     |(at_builtin;refine wpList_append_strs rfl (.tmp 34) (.tmp 37) rfl w (Kept.refl w) _ 0 [] rfl (Sp.nil w _) _ n _ (ss.take n) rfl HSL1.out (by omega) ?_;intro v1 w1 hp1 hk1;rw[Nat.zero_add,List.nil_append] at hp1;obtain⟨p1,q1,rfl,hq1,hsl1⟩:=hp1.open)
     |(at_builtin;refine wpList_append_strs rfl (.tmp 39) (.tmp 41) rfl w (hk1.alloc _) _ _ _ rfl (hp1.kept ((Kept.refl w1).alloc _)) (some ⟨w1.heap.size,0,none⟩) 1 1 [s] rfl (SL.one _ _ _) (by omega) ?_;intro v2 w2 hp2 hk2;obtain⟨p2,q2,rfl,hq2,hsl2⟩:=hp2.open)
     |(at_builtin;refine wpList_append_strs rfl (.tmp 43) (.tmp 46) rfl w hk2 _ _ _ rfl hp2 _ 0 _ [] rfl (SL.zero _ _ _) (by omega) ?_;intro v3 w3 hp3 hk3;obtain⟨p3,q3,rfl,hq3,hsl3⟩:=hp3.open))
    go_ret
    exact⟨p3,_,q3,_,rfl,hsl3,hq3,by omega,put_end HN.out,hk3⟩
   ·have hnc':n<cap:=by omega
    go_wp2_with(first
     |(at_builtin;refine wpList_append_strs rfl (.tmp 34) (.tmp 37) rfl w (Kept.refl w) _ 0 [] rfl (Sp.nil w _) _ n _ (ss.take n) rfl HSL1.out (by omega) ?_;intro v1 w1 hp1 hk1;rw[Nat.zero_add,List.nil_append] at hp1;obtain⟨p1,q1,rfl,hq1,hsl1⟩:=hp1.open)
     |(at_builtin;refine wpList_append_strs rfl (.tmp 39) (.tmp 41) rfl w (hk1.alloc _) _ _ _ rfl (hp1.kept ((Kept.refl w1).alloc _)) (some ⟨w1.heap.size,0,none⟩) 1 1 [s] rfl (SL.one _ _ _) (by omega) ?_;intro v2 w2 hp2 hk2;obtain⟨p2,q2,rfl,hq2,hsl2⟩:=hp2.open)
     |(at_builtin;refine wpList_append_strs rfl (.tmp 43) (.tmp 46) rfl w hk2 _ _ _ rfl hp2 _ 0 _ [] rfl (SL.zero _ _ _) (by omega) ?_;intro v3 w3 hp3 hk3;obtain⟨p3,q3,rfl,hq3,hsl3⟩:=hp3.open))
    go_ret
    exact⟨p3,_,q3,_,rfl,hsl3,hq3,by omega,put_end HN.out,hk3⟩
theorem put_calls{w:World}{a:Option Addr}{n cap:Nat}{ss:List ByteArray}(h:SL w a n ss)(hcap:n≤cap)(hb:n≤100000)(s:ByteArray):
 Calls Tryz.prog 241 #[.slice a n cap,.string s] w (RetPut ss s n w):=by
 obtain⟨hn,⟨rfl,rfl⟩|⟨b,off,rfl,hc⟩⟩:=h
 ·obtain rfl:ss=[]:=List.eq_nil_of_length_eq_zero hn.symm
  exact put_nil w s cap
 ·exact put_some hn hc hcap hb s
mutual
def nodesT:Tree→Nat
 | .node _ _ _ _ _ _ kids=>nodesL kids+1
def nodesL:List Tree→Nat
 |[]=>0
 |t::ts=>nodesT t+nodesL ts
end
mutual
def varsT:Tree→List ByteArray
 | .node op _ _ _ _ name kids=>if op=2 then [name] else varsL kids
def varsL:List Tree→List ByteArray
 |[]=>[]
 |t::ts=>varsT t++varsL ts
end
mutual
theorem cnt_nodes:∀(t:Tree)(d m m':Nat),cnt t d m=some m'→m'=m+nodesT t
 | .node op arg s N D name kids,d,m,m'=>by
   intro h
   rw[cnt] at h
   split at h
   ·cases h
   ·have:=cnts_nodes kids (d+1) (m+1) m' h
    rw[nodesT];omega
theorem cnts_nodes:∀(ts:List Tree)(d m m':Nat),cnts ts d m=some m'→m'=m+nodesL ts
 |[],d,m,m'=>by
  intro h
  rw[cnts] at h
  cases h
  simp[nodesL]
 |t::ts,d,m,m'=>by
  intro h
  rw[cnts] at h
  cases h1:cnt t d m with
  |none=>rw[h1] at h;cases h
  |some m1=>
   rw[h1] at h
   have h2:=cnt_nodes t d m m1 h1
   have h3:=cnts_nodes ts d m1 m' h
   rw[nodesL];omega
end
theorem Tree.ok_nodes{t:Tree}(h:t.ok=true):nodesT t≤300:=by
 unfold Tree.ok at h
 obtain⟨m,hm⟩:=Option.isSome_iff_exists.1 h
 have h1:=cnt_nodes _ _ _ _ hm
 have h2:=cnt_le _ _ _ _ hm
 omega
def RetNames(ss vs:List ByteArray)(n:Nat)(w:World)(e:Ending)(w':World):Prop:=
 ∃(a:Option Addr)(n' cap:Nat)(ts:List ByteArray),e= .returned (.slice a n' cap)∧SL w' a n' ts∧n'≤cap∧n'≤n∧(∀x,x∈ts↔x∈ss∨x∈vs)∧Kept w w'
theorem varsL_take{kids:List Tree}{k:Nat}(h:k<kids.length)(x:ByteArray):x∈varsL (kids.take (k+1))↔x∈varsL (kids.take k)∨x∈varsT kids[k]:=by
 have app:∀(a b:List Tree),varsL (a++b)=varsL a++varsL b:=by
  intro a b
  induction a with
  |nil=>simp[varsL]
  |cons t ts ih=>simp[varsL,ih]
 rw[List.take_succ_eq_append_getElem h,app]
 simp[varsL]
theorem nodesL_drop{kids:List Tree}{k:Nat}(h:k<kids.length):nodesL (kids.drop k)=nodesT kids[k]+nodesL (kids.drop (k+1)):=by
 rw[List.drop_eq_getElem_cons h,nodesL]
set_option maxHeartbeats 2000000 in
set_option maxRecDepth 100000 in
theorem names04_calls:∀(f:Nat){w:World}{v:Value}{t:Tree},Ex w f v t→∀(a:Option Addr)(n cap:Nat)(ss:List ByteArray),SL w a n ss→n≤cap→n+nodesT t≤100000→
 Calls Tryz.prog 147 #[v,.slice a n cap] w (RetNames ss (varsT t) (n+nodesT t) w)
 |0,_,_,_,h=>h.elim
 |f+1,w,v,.node op arg s N D name kids,h=>by
  intro a n cap ss hsl hcap hb
  obtain⟨x1,x2,x3,x4,x5,x6,a0,cap0,rfl,hc,hn,hr⟩:=h.shape
  have hkid:=fun(i:Nat)(hi:i<kids.length)=>h.kid hi
  clear h hr
  have hk:Kept w (w.alloc (.cells #[.int .i64 op,.int .i64 arg,.bool s,.slice x1 x2 x3,.slice x4 x5 x6,.string name,.slice a0 kids.length cap0] 27)):=(Kept.refl w).alloc _
  have hbx:=Blk.new w #[.int .i64 op,.int .i64 arg,.bool s,.slice x1 x2 x3,.slice x4 x5 x6,.string name,.slice a0 kids.length cap0] 27
  have HNT:Hid (nodesT (.node op arg s N D name kids)=nodesL kids+1):=Lib.hid (by rw[nodesT])
  have HB:=Lib.hid hb;clear hb
  by_cases h2:op=2
  ·subst h2
   have HV:Hid (varsT (.node 2 arg s N D name kids)=[name]):=Lib.hid (by rw[varsT,if_pos rfl])
   have hp:=put_calls (hsl.kept hk) hcap (by have:=HB.out;omega) name
   clear hkid
   go_enter Tryz.func147,Tryz.ntmps147
   go_wp2_with(first|(go_at_call 241;refine hp.mono ?_;rintro e w1 ⟨a1,n1,c1,ts,rfl,hsl1,hc1,hn1,hm1,hk1⟩))
   go_ret
   exact⟨a1,n1,c1,ts,rfl,hsl1,hc1,by rw[HNT.out];omega,fun x=>by rw[hm1,HV.out];simp,hk.trans hk1⟩
  have t2:(op==2)=false:=by simpa using h2
  have HV:Hid (varsT (.node op arg s N D name kids)=varsL kids):=Lib.hid (by rw[varsT,if_neg h2])
  go_enter Tryz.func147,Tryz.ntmps147
  go_wp2
  go_loopw [1,5] (fun c i wr=>∃(k n':Nat)(a':Option Addr)(cap':Nat)(ts:List ByteArray),k≤kids.length∧i= .int .i64 (k:Int)∧c= .slice a' n' cap'∧n'≤cap'∧SL wr a' n' ts∧
   n'+nodesL (kids.drop k)≤n+nodesL kids∧(∀x,x∈ts↔x∈ss∨x∈varsL (kids.take k))∧Kept w wr∧
   Kept (w.alloc (.cells #[.int .i64 op,.int .i64 arg,.bool s,.slice x1 x2 x3,.slice x4 x5 x6,.string name,.slice a0 kids.length cap0] 27)) wr) (fun _ i _=>kids.length-(intOf i).toNat)
  case atStart=>exact⟨0,n,a,cap,ss,Nat.zero_le _,rfl,rfl,hcap,hsl.kept hk,by simp,fun x=>by simp[varsL],hk,Kept.refl _⟩
  case round=>
   obtain⟨k,n',a',cap',ts,hkl,rfl,rfl,hcap',hsl',hnn,hmem,hkw,hkb⟩:=hrel
   have HM:=Lib.hid hmem;clear hmem
   have HNN:=Lib.hid hnn;clear hnn
   obtain⟨-,-,-,-,-,-,e6,-⟩:=(hbx.kept hkb).facts7
   by_cases hlt:k<kids.length
   ·obtain⟨b,off,o,g,z,u1,u2,u3,u4,u5,u6,nm,a',n',cap',rfl,c0,c1,c2,c3,c4,c5,c6,hex⟩:=hkid k hlt
    replace c0:=hkw.cell c0
    replace c1:=hkw.cell c1
    replace c2:=hkw.cell c2
    replace c3:=hkw.cell c3
    replace c4:=hkw.cell c4
    replace c5:=hkw.cell c5
    replace c6:=hkw.cell c6
    have hnd:=nodesL_drop hlt
    have hih:=names04_calls f (hex.kept hkw) _ _ _ _ hsl' hcap' (by have:=HB.out;have:=HNN.out;have:=HNT.out;omega)
    have HND:=Lib.hid hnd;clear hnd
    clear hkid hex
    go_wp2_with(first|(go_at_call 147;refine hih.mono ?_;rintro e w2 ⟨a2,n2,c2',ts2,rfl,hsl2,hc2,hn2,hm2,hk2⟩))
    go_roundw
    case rel=>exact⟨k+1,n2,a2,c2',ts2,by omega,by go_num,rfl,hc2,hsl2,by have:=HND.out;have:=HNN.out;omega,fun x=>by rw[hm2,HM.out,varsL_take hlt,or_assoc],hkw.trans hk2,hkb.trans hk2⟩
    case measure=>simp[intOf];omega
   ·obtain rfl:kids.length=k:=by omega
    clear hkid
    go_wp2
    go_ret
    exact⟨a',n',cap',ts,rfl,hsl',hcap',by have h1:=HNN.out;rw[List.drop_length,nodesL] at h1;have:=HNT.out;omega,fun x=>by rw[HM.out,HV.out,List.take_length],hkw⟩
end Go.Proofs.YtbapfnpbamnmpaaGreatDoor
