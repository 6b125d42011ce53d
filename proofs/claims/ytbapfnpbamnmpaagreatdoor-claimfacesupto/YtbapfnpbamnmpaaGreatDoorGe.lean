/- A part of the proof that ClaimFaces answers true for every input of bulk at most 1048576: conditions: the row's own. -/
import Derived.Test.YtbapfnpbamnmpaaGreatDoorGz
import Derived.Lib.AppendZeros
import Derived.Test.YtbapfnpbamnmpaaGreatDoorGd
namespace Go.Proofs.YtbapfnpbamnmpaaGreatDoor
open Go Go.RowKit Go.Dig Go.Deep
open Go.Eng (Kept KW KeptB wp_region_kw kw_call)
theorem RowsIs.append{α:Type}{R:List Value→α→Prop}{sz:Nat}{cs cs':List Value}{ts ts':List α}(h:RowsIs R sz cs ts)(h':RowsIs R sz cs' ts'):RowsIs R sz (cs++cs') (ts++ts'):=by
 refine⟨by rw[List.length_append,List.length_append,h.1,h'.1,Nat.add_mul],fun i hi=> ?_⟩
 by_cases hlt:i<ts.length
 ·rw[List.getElem_append_left hlt]
  have hle:i*sz+sz≤cs.length:=by
   rw[h.1,←Nat.succ_mul]
   exact Nat.mul_le_mul_right sz hlt
  rw[List.drop_append_of_le_length (by omega),List.take_append_of_le_length (by rw[List.length_drop];omega)]
  exact h.2 i hlt
 ·obtain⟨j,rfl⟩:∃j,i=ts.length+j:=⟨i-ts.length,by omega⟩
  have hj:j<ts'.length:=by simp at hi;omega
  rw[List.getElem_append_right (by omega)]
  simp only[Nat.add_sub_cancel_left]
  rw[show(ts.length+j)*sz=cs.length+j*sz by rw[h.1,Nat.add_mul],List.drop_append]
  rw[List.drop_of_length_le (by omega),List.nil_append,show cs.length+j*sz-cs.length=j*sz by omega]
  exact h'.2 j hj
theorem Cnm.cells{w:World}{f:Nat}{a:Option Addr}{n cap:Nat}{l:List CondD}(h:Cnm w f a n cap l)(hp:0<l.length):
 ∃(b off:Nat)(cs:List Value),a=some ⟨b,off,none⟩∧RowsIs (condR f w) 8 cs l∧(∀(j:Nat)(u:Value),cs[j]? =some u→w.cell? ⟨b,off+j,none⟩=some u)∧∀u∈cs,u.oneCell'=true:=by
 obtain⟨-,-,-,hi⟩:=h
 obtain⟨b,off,-,-,-,-,-,-,-,-,-,-,-,-,-,ha,-⟩:=hi 0 hp
 subst ha
 have key:∀k,k≤l.length→∃cs:List Value,RowsIs (condR f w) 8 cs (l.take k)∧(∀(j:Nat)(u:Value),cs[j]? =some u→w.cell? ⟨b,off+j,none⟩=some u)∧∀u∈cs,u.oneCell'=true:=by
  intro k
  induction k with
  |zero=>exact fun _=>⟨[],RowsIs.nil _ _,fun j u h=>by simp at h,fun u h=>by cases h⟩
  |succ k ih=>
   intro hk
   obtain⟨cs,h1,h2,h3⟩:=ih (by omega)
   obtain⟨b',off',o,g,z,x1,x2,x3,x4,x5,x6,nm,a',n',cap',ha,c0,c1,c2,c3,c4,c5,c6,c7,he⟩:=hi k (by omega)
   cases ha
   have hlen:cs.length=k*8:=by rw[h1.1,List.length_take];omega
   refine⟨cs++[.int .i64 o,.int .i64 g,.bool z,.slice x1 x2 x3,.slice x4 x5 x6,.string nm,.slice a' n' cap',.bool l[k].strict],h1.take_succ (by omega) rfl ⟨o,g,z,x1,x2,x3,x4,x5,x6,nm,a',n',cap',rfl,he⟩,?_,?_⟩
   ·intro j u hu
    by_cases hj:j<cs.length
    ·rw[List.getElem?_append_left hj] at hu
     exact h2 j u hu
    ·rw[List.getElem?_append_right (by omega)] at hu
     obtain⟨i,rfl⟩:∃i,j=k*8+i:=⟨j-k*8,by omega⟩
     rw[show k*8+i-cs.length=i by omega] at hu
     have hi8:i<8:=by
      have:=(List.getElem?_eq_some_iff.1 hu).1
      simpa using this
     rw[←Nat.add_assoc]
     match i,hi8 with
     |0,_=>cases hu;exact c0
     |1,_=>cases hu;exact c1
     |2,_=>cases hu;exact c2
     |3,_=>cases hu;exact c3
     |4,_=>cases hu;exact c4
     |5,_=>cases hu;exact c5
     |6,_=>cases hu;exact c6
     |7,_=>cases hu;exact c7
   ·intro u hu
    rcases List.mem_append.1 hu with hu|hu
    ·exact h3 u hu
    ·simp only[List.mem_cons,List.mem_nil_iff,or_false] at hu
     rcases hu with rfl|rfl|rfl|rfl|rfl|rfl|rfl|rfl<;>rfl
 obtain⟨cs,h1,h2,h3⟩:=key l.length (Nat.le_refl _)
 rw[List.take_length] at h1
 exact⟨b,off,cs,rfl,h1,h2,h3⟩
theorem add0(b off j:Nat):Addr.add ⟨b,off,none⟩ j=⟨b,off+j,none⟩:=by unfold Addr.add;split<;>simp_all
end Go.Proofs.YtbapfnpbamnmpaaGreatDoor
