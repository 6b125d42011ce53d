/- A part of the proof that ClaimBranches answers true for every input of bulk at most 1048576: conditions: the row's own. -/
import Derived.Test.YtbapfnpbamnmpaaGreatDoorGz
import Derived.Lib.AppendZeros
import Derived.Test.YtbapfnpbamnmpaaGreatDoorGd
namespace Go.Proofs.YtbapfnpbamnmpaaGreatDoor
open Go Go.RowKit Go.Dig Go.Deep
open Go.Eng (Kept KW KeptB wp_region_kw kw_call)
theorem RowsIs.append{α:Type}{R:List Value→α→Prop}{sz:Nat}{cs cs':List Value}{ts ts':List α}(h:RowsIs R sz cs ts)(h':RowsIs R sz cs' ts'):RowsIs R sz (cs++cs') (ts++ts'):=by
 refine⟨by rw[List.length_append,List.length_append,h.1,h'.1,Nat.add_mul],fun i hi=> ?_⟩
 by_cases hlt:i<ts.length
 ·rw[List.getElem_append_left hlt]
  have hle:i*sz+sz≤cs.length:=by
   rw[h.1,←Nat.succ_mul]
   exact Nat.mul_le_mul_right sz hlt
  rw[List.drop_append_of_le_length (by omega),List.take_append_of_le_length (by rw[List.length_drop];omega)]
  exact h.2 i hlt
 ·obtain⟨j,rfl⟩:∃j,i=ts.length+j:=⟨i-ts.length,by omega⟩
  have hj:j<ts'.length:=by simp at hi;omega
  rw[List.getElem_append_right (by omega)]
  simp only[Nat.add_sub_cancel_left]
  rw[show(ts.length+j)*sz=cs.length+j*sz by rw[h.1,Nat.add_mul],List.drop_append]
  rw[List.drop_of_length_le (by omega),List.nil_append,show cs.length+j*sz-cs.length=j*sz by omega]
  exact h'.2 j hj
theorem Cnm.cells{w:World}{f:Nat}{a:Option Addr}{n cap:Nat}{l:List CondD}(h:Cnm w f a n cap l)(hp:0<l.length):
 ∃(b off:Nat)(cs:List Value),a=some ⟨b,off,none⟩∧RowsIs (condR f w) 8 cs l∧(∀(j:Nat)(u:Value),cs[j]? =some u→w.cell? ⟨b,off+j,none⟩=some u)∧∀u∈cs,u.oneCell'=true:=by
 obtain⟨-,-,-,hi⟩:=h
 obtain⟨b,off,-,-,-,-,-,-,-,-,-,-,-,-,-,ha,-⟩:=hi 0 hp
 subst ha
 have key:∀k,k≤l.length→∃cs:List Value,RowsIs (condR f w) 8 cs (l.take k)∧(∀(j:Nat)(u:Value),cs[j]? =some u→w.cell? ⟨b,off+j,none⟩=some u)∧∀u∈cs,u.oneCell'=true:=by
  intro k
  induction k with
  |zero=>exact fun _=>⟨[],RowsIs.nil _ _,fun j u h=>by simp at h,fun u h=>by cases h⟩
  |succ k ih=>
   intro hk
   obtain⟨cs,h1,h2,h3⟩:=ih (by omega)
   obtain⟨b',off',o,g,z,x1,x2,x3,x4,x5,x6,nm,a',n',cap',ha,c0,c1,c2,c3,c4,c5,c6,c7,he⟩:=hi k (by omega)
   cases ha
   have hlen:cs.length=k*8:=by rw[h1.1,List.length_take];omega
   refine⟨cs++[.int .i64 o,.int .i64 g,.bool z,.slice x1 x2 x3,.slice x4 x5 x6,.string nm,.slice a' n' cap',.bool l[k].strict],h1.take_succ (by omega) rfl ⟨o,g,z,x1,x2,x3,x4,x5,x6,nm,a',n',cap',rfl,he⟩,?_,?_⟩
   ·intro j u hu
    by_cases hj:j<cs.length
    ·rw[List.getElem?_append_left hj] at hu
     exact h2 j u hu
    ·rw[List.getElem?_append_right (by omega)] at hu
     obtain⟨i,rfl⟩:∃i,j=k*8+i:=⟨j-k*8,by omega⟩
     rw[show k*8+i-cs.length=i by omega] at hu
     have hi8:i<8:=by
      have:=(List.getElem?_eq_some_iff.1 hu).1
      simpa using this
     rw[←Nat.add_assoc]
     match i,hi8 with
     |0,_=>cases hu;exact c0
     |1,_=>cases hu;exact c1
     |2,_=>cases hu;exact c2
     |3,_=>cases hu;exact c3
     |4,_=>cases hu;exact c4
     |5,_=>cases hu;exact c5
     |6,_=>cases hu;exact c6
     |7,_=>cases hu;exact c7
   ·intro u hu
    rcases List.mem_append.1 hu with hu|hu
    ·exact h3 u hu
    ·simp only[List.mem_cons,List.mem_nil_iff,or_false] at hu
     rcases hu with rfl|rfl|rfl|rfl|rfl|rfl|rfl|rfl<;>rfl
 obtain⟨cs,h1,h2,h3⟩:=key l.length (Nat.le_refl _)
 rw[List.take_length] at h1
 exact⟨b,off,cs,rfl,h1,h2,h3⟩
set_option maxHeartbeats 2000000 in
set_option maxRecDepth 100000 in
theorem growc_calls(w:World)(m:Nat)(h0:0<m)(hm:m≤1000):Calls Tryz.prog 141 #[.slice none 0 0,.int .i64 (m:Int)] w fun e w'=>
 ∃cap,e= .returned (.slice (some ⟨w.heap.size,0,none⟩) 0 cap)∧w'.ownsRow w.heap.size 93 8 (.slice (some ⟨w.heap.size,0,none⟩) 0 cap) 0 []∧Kept w w':=by
 obtain⟨i,hi,hz,hs,hby⟩:=info93
 have hrun:=Lib.run_append_nil_zeros w 29 3 29 93 i _ .i64 .i64 Tryz.underlying29 Tryz.underlying3 hi hz m h0 (by rw[hs];decide) (by omega) (by rw[hby];omega)
 have t1:decide ((m:Int)<0)=false:=by simp
 have t2:decide (0<(m:Int))=true:=by simp;omega
 have hge:=grownCap_ge w m 0 93
 have hle:=grownCap_le_maxLen w m 0 93 (by unfold maxLen;omega)
 generalize grownCap w m 0 93=cap at*
 have HGE:=Lib.hid (And.intro hge hle);clear hge hle
 go_enter Tryz.func141,Tryz.ntmps141
 go_wp2_with(at_builtin;refine Lib.wpList_append_run _ rfl (.tmp 20) (.tmp 21) 29 3 rfl _ _ rfl rfl _ _ hrun ?_)
 go_ret
 refine⟨cap,rfl,World.ownsRow_made w.drew _ cap (Nat.le_refl _) HGE.out.2 ?_,(Kept.refl w).drew.alloc _⟩
 rw[Array.size_append,size_zeroCells,size_zeroCells]
 have:=HGE.out.1
 simp only[List.size_toArray,List.length_cons,List.length_nil]
 omega
theorem add0(b off j:Nat):Addr.add ⟨b,off,none⟩ j=⟨b,off+j,none⟩:=by unfold Addr.add;split<;>simp_all
theorem append_conds{w V:World}{ops:Array Oper}{rest:List Oper}{o:Oper}{act:Act}{Q:Exit→Act→World→Prop}(hgd:o.guard=none)(s x:Operand)
 (ho:o.op= .call {callee:=.builtin .append,args:=#[s,x],argTypes:=#[29,29]})
 (w0:World)(hk:Kept w0 w)(v:Value)(n:Nat)(cs:List Value)(hs:act.eval s=v)(hown:w.ownsRow w0.heap.size 93 8 v n cs){f:Nat}{ts:List CondD}(hts:RowsIs (condR f V) 8 cs ts)(hn:n≤1000)
 {a:Option Addr}{m c:Nat}{l:List CondD}(hx:act.eval x= .slice a m c)(hl:Cnm V f a m c l)(hV:Sub V w)(hm:m≤1000)
 (h:∀a' cap' cs' w',w'.ownsRow w0.heap.size 93 8 (.slice a' (n+m) cap') (n+m) cs'→RowsIs (condR f V) 8 cs' (ts++l)→Kept w0 w'→wpList Tryz.prog ops Q rest (act.put o.dst (.slice a' (n+m) cap')) w'):
 wpList Tryz.prog ops Q (o::rest) act w:=by
 obtain rfl:m=l.length:=hl.1
 rcases Nat.eq_zero_or_pos l.length with h0|h0
 ·have hl0:l=[]:=List.eq_nil_of_length_eq_zero h0
  subst hl0
  obtain⟨a',cap',rfl,hcap,-,-⟩:=own_open hown
  refine wpList_append_nothing hgd s x 29 ho info93 Tryz.underlying29 a' n cap' c a hs hcap hx (h a' cap' cs w ?_ ?_ hk)
  ·simpa using hown
  ·simpa using hts
 ·obtain⟨b,off,cs',rfl,h1,h2,h3⟩:=hl.cells h0
  refine wpList_append_kept hgd s x 29 ho info93 Tryz.underlying29 rfl (by decide) (by decide) w0 hk v n cs hs hown ⟨b,off,none⟩ l.length c cs' hx h1.1 (fun j u hu=>by rw[add0];exact hV _ _ (h2 j u hu)) h3 (by omega) ?_
  intro v' w' g1 g2
  obtain⟨a',cap',rfl,-,-,-⟩:=own_open g1
  exact h a' cap' _ w' g1 (hts.append h1) g2
set_option maxHeartbeats 4000000 in
set_option maxRecDepth 100000 in
theorem concat_calls{w V:World}{f:Nat}{bl:Nat}{a:Option Addr}{cap:Nat}{l:List CondD}{ac:Option Addr}{cc:Nat}{d:CondD}(hV:Sub V w)(hl:Cnm V f a l.length cap l)(hd:Cnm V f ac 1 cc [d])(h12:l.length≤12)
 (c0:w.cell? ⟨bl,0,none⟩=some (.slice a l.length cap))(c1:w.cell? ⟨bl,1,none⟩=some (.slice ac 1 cc)):
 Calls Tryz.prog 69 #[.slice (some ⟨bl,0,none⟩) 2 2] w fun e w'=>∃a' cap' cs,e= .returned (.slice a' (l.length+1) cap')∧w'.ownsRow w.heap.size 93 8 (.slice a' (l.length+1) cap') (l.length+1) cs∧RowsIs (condR f V) 8 cs (l++[d])∧Kept w w':=by
 have hgc:=growc_calls w (l.length+1) (by omega) (by omega)
 rw[show((l.length+1:Nat):Int)=(l.length:Int)+1 by omega] at hgc
 have HV:=Lib.hid hV;clear hV
 have HL:=Lib.hid hl;clear hl
 have HD:=Lib.hid hd;clear hd
 generalize hn:l.length=n at*
 have HN:=Lib.hid hn;clear hn
 go_enter Tryz.func69,Tryz.ntmps69
 go_wp2
 go_loop [3,11] (fun s i=>(s= .int .i64 0∧i= .int .i64 0)∨(s= .int .i64 (n:Int)∧i= .int .i64 1)∨(s= .int .i64 ((n:Int)+1)∧i= .int .i64 2)) (fun _ i=>2-(intOf i).toNat)
 case atStart=>exact .inl ⟨rfl,rfl⟩
 case round=>
  rcases hrel with⟨rfl,rfl⟩|⟨rfl,rfl⟩|⟨rfl,rfl⟩
  ·have t1:decide ((n:Int)<0)=false:=by simp
   go_wp2
   go_round
   case rel=>exact .inr (.inl ⟨by go_num,by go_num⟩)
   case measure=>simp[intOf]
  ·have t1:decide ((n:Int)+1<0)=false:=by simp;omega
   go_wp2
   go_round
   case rel=>exact .inr (.inr ⟨by go_num,by go_num⟩)
   case measure=>simp[intOf]
  ·go_wp2_with(first|(go_at_call 141;refine hgc.mono ?_;rintro e w1 ⟨capg,rfl,ho1,hk1⟩))
   have HO1:=Lib.hid ho1;clear ho1
   have HK1:=Lib.hid hk1
   go_loopw [6,27] (fun v i wr=>Hid (Kept w wr)∧((i= .int .i64 0∧∃a' cap',v= .slice a' 0 cap'∧Hid (wr.ownsRow w.heap.size 93 8 (.slice a' 0 cap') 0 []))∨
    (i= .int .i64 1∧∃a' cap' cs,v= .slice a' n cap'∧Hid (wr.ownsRow w.heap.size 93 8 (.slice a' n cap') n cs)∧Hid (RowsIs (condR f V) 8 cs l))∨
    (i= .int .i64 2∧∃a' cap' cs,v= .slice a' (n+1) cap'∧Hid (wr.ownsRow w.heap.size 93 8 (.slice a' (n+1) cap') (n+1) cs)∧Hid (RowsIs (condR f V) 8 cs (l++[d]))))) (fun _ i _=>2-(intOf i).toNat)
   case atStart=>exact⟨HK1,.inl ⟨rfl,_,_,rfl,HO1⟩⟩
   case round=>
    obtain⟨HKW,⟨rfl,a',cap',rfl,HO⟩|⟨rfl,a',cap',cs,rfl,HO,HR⟩|⟨rfl,a',cap',cs,rfl,HO,HR⟩⟩:=hrel
    ·have c0':=HKW.out.cell c0
     go_wp2_with(at_builtin;refine append_conds (w:=wr) (V:=V) (f:=f) (l:=l) (ts:=[]) rfl (.tmp 31) (.tmp 32) rfl w HKW.out _ 0 [] rfl HO.out (RowsIs.nil _ _) (by decide) rfl HL.out (HV.out.trans (Kept.sub HKW.out)) (by omega) ?_;intro a5 cap5 cs5 w5 ho5 hr5 hk5)
     have HO5:=Lib.hid ho5;clear ho5
     have HR5:=Lib.hid hr5;clear hr5
     have HK5:=Lib.hid hk5
     rw[Nat.zero_add] at HO5
     go_roundw
     case rel=>exact⟨HK5,.inr (.inl ⟨by go_num,a5,cap5,cs5,rfl,HO5,HR5⟩)⟩
     case measure=>simp[intOf]
    ·have c1':=HKW.out.cell c1
     go_wp2_with(at_builtin;refine append_conds (w:=wr) (V:=V) (f:=f) (l:=[d]) (ts:=l) rfl (.tmp 31) (.tmp 32) rfl w HKW.out _ n cs rfl HO.out HR.out (by omega) rfl HD.out (HV.out.trans (Kept.sub HKW.out)) (by omega) ?_;intro a5 cap5 cs5 w5 ho5 hr5 hk5)
     have HO5:=Lib.hid ho5;clear ho5
     have HR5:=Lib.hid hr5;clear hr5
     have HK5:=Lib.hid hk5
     go_roundw
     case rel=>exact⟨HK5,.inr (.inr ⟨by go_num,a5,cap5,cs5,rfl,HO5,HR5⟩)⟩
     case measure=>simp[intOf]
    ·go_wp2
     go_ret
     exact⟨a',cap',cs,rfl,HO.out,HR.out,HKW.out⟩
set_option maxHeartbeats 4000000 in
set_option maxRecDepth 100000 in
theorem more_calls{w V:World}{f:Nat}{a:Option Addr}{cap:Nat}{l:List CondD}{v:Value}{t:Tree}(hV:Sub V w)(hl:Cnm V f a l.length cap l)(he:Ex V f v t)(st:Bool)(h12:l.length≤12):
 Calls Tryz.prog 70 #[.slice a l.length cap,v,.bool st] w fun e w'=>∃a' cap' cs,e= .returned (.slice a' (l.length+1) cap')∧(∃base,w.heap.size≤base∧w'.ownsRow base 93 8 (.slice a' (l.length+1) cap') (l.length+1) cs)∧RowsIs (condR f V) 8 cs (l++[⟨t,st⟩])∧Kept w w':=by
 have HV:=Lib.hid hV;clear hV
 obtain⟨o,g,z,x1,x2,x3,x4,x5,x6,nm,a0,n0,cap0,rfl⟩:=he.agg7
 have hA:=Blk.new w #[.int .i64 o,.int .i64 g,.bool z,.slice x1 x2 x3,.slice x4 x5 x6,.string nm,.slice a0 n0 cap0] 27
 have hk:Kept w (w.alloc (.cells #[.int .i64 o,.int .i64 g,.bool z,.slice x1 x2 x3,.slice x4 x5 x6,.string nm,.slice a0 n0 cap0] 27)):=(Kept.refl w).alloc _
 have HL:=Lib.hid hl;clear hl
 have HE:=Lib.hid he;clear he
 generalize hn:l.length=n at*
 have HN:=Lib.hid hn;clear hn
 have HA:=Lib.hid hA;clear hA
 go_enter Tryz.func70,Tryz.ntmps70
 go_wp2_with(first
  |(at_builtin;refine append_conds (V:=V) (f:=f) (l:=l) (ts:=[]) rfl (.tmp 8) (.tmp 9) rfl (w.alloc (.cells #[.int .i64 o,.int .i64 g,.bool z,.slice x1 x2 x3,.slice x4 x5 x6,.string nm,.slice a0 n0 cap0] 27)) (Kept.refl _) _ 0 [] rfl (World.ownsRow_nil _ _ _ _) (RowsIs.nil _ _) (by decide) rfl HL.out (HV.out.trans (Kept.sub hk)) (by omega) ?_;intro a5 cap5 cs5 w5 ho5 hr5 hk5
    have HO5:=Lib.hid ho5
    have HR5:=Lib.hid hr5
    have HK5:=Lib.hid hk5
    clear ho5 hr5
    obtain⟨e0,e1,e2,e3,e4,e5,e6,-⟩:=(HA.out.kept hk5).facts7
    rw[Nat.zero_add] at HO5)
  |(at_builtin;have hg:=HO5;refine wpList_append_kept rfl (.tmp 11) (.tmp 15) 29 rfl info93 Tryz.underlying29 rfl (by decide) (by decide) (w.alloc (.cells #[.int .i64 o,.int .i64 g,.bool z,.slice x1 x2 x3,.slice x4 x5 x6,.string nm,.slice a0 n0 cap0] 27)) (HK5.out.alloc _) _ n cs5 rfl (own_kept HO5.out ((Kept.refl w5).alloc _)) ⟨w5.heap.size,0,none⟩ 1 1 [.int .i64 o,.int .i64 g,.bool z,.slice x1 x2 x3,.slice x4 x5 x6,.string nm,.slice a0 n0 cap0,.bool st] rfl rfl (blk_news (Blk.new w5 #[.int .i64 o,.int .i64 g,.bool z,.slice x1 x2 x3,.slice x4 x5 x6,.string nm,.slice a0 n0 cap0,.bool st] 93)) (by intro u hu;simp only[List.mem_cons,List.mem_nil_iff,or_false] at hu;rcases hu with rfl|rfl|rfl|rfl|rfl|rfl|rfl|rfl<;>rfl) (by omega) ?_;intro v6 w6 ho6 hk6;obtain⟨a6,cap6,rfl,-,-,-⟩:=own_open ho6))
 go_ret
 have hkz:=hk.trans hk6
 exact⟨a6,cap6,_,rfl,⟨_,by simp[go_sem],ho6⟩,RowsIs.snoc (by have h:=HR5.out;rwa [List.nil_append] at h) rfl ⟨o,g,z,x1,x2,x3,x4,x5,x6,nm,a0,n0,cap0,rfl,HE.out⟩,hkz⟩
end Go.Proofs.YtbapfnpbamnmpaaGreatDoor
