/- A part of the proof that ClaimFaces answers true for every input of bulk at most 1048576: conditions: the row's own. -/
import Derived.Test.YtbapfnpbamnmpaaGreatDoorRk
namespace Go.Proofs.YtbapfnpbamnmpaaGreatDoor
open Go Go.RowKit Go.Dig
open Go.Eng (Kept KW KeptB)
structure SideD where
 name:ByteArray
 iv:IvD
def Bxm(w:World)(a:Option Addr)(n cap:Nat)(l:List SideD):Prop:=
 n=l.length∧n≤cap∧n<4611686018427387904∧∀(i:Nat)(h:i<l.length),∃(b off:Nat)(s1:Bool)(a1:Option Addr)(n1 c1:Nat)(a2:Option Addr)(n2 c2:Nat)(s2:Bool)(a3:Option Addr)(n3 c3:Nat)(a4:Option Addr)(n4 c4:Nat)(p q:Bool),
  a=some ⟨b,off,none⟩∧w.cell? ⟨b,off+i*9,none⟩=some (.string l[i].name)∧
  w.cell? ⟨b,off+i*9+1,none⟩=some (.bool s1)∧w.cell? ⟨b,off+i*9+2,none⟩=some (.slice a1 n1 c1)∧w.cell? ⟨b,off+i*9+3,none⟩=some (.slice a2 n2 c2)∧
  w.cell? ⟨b,off+i*9+4,none⟩=some (.bool s2)∧w.cell? ⟨b,off+i*9+5,none⟩=some (.slice a3 n3 c3)∧w.cell? ⟨b,off+i*9+6,none⟩=some (.slice a4 n4 c4)∧
  w.cell? ⟨b,off+i*9+7,none⟩=some (.bool p)∧w.cell? ⟨b,off+i*9+8,none⟩=some (.bool q)∧
  Ivl w (.agg #[.bool s1,.slice a1 n1 c1,.slice a2 n2 c2,.bool s2,.slice a3 n3 c3,.slice a4 n4 c4,.bool p,.bool q]) l[i].iv
theorem Bxm.kept{w w':World}{a:Option Addr}{n cap:Nat}{l:List SideD}(h:Bxm w a n cap l)(k:Kept w w'):Bxm w' a n cap l:=by
 obtain⟨hn,hc,hb,hi⟩:=h
 refine⟨hn,hc,hb,fun i h=> ?_⟩
 obtain⟨b,off,s1,a1,n1,c1,a2,n2,c2,s2,a3,n3,c3,a4,n4,c4,p,q,ha,h0,h1,h2,h3,h4,h5,h6,h7,h8,hv⟩:=hi i h
 exact⟨b,off,s1,a1,n1,c1,a2,n2,c2,s2,a3,n3,c3,a4,n4,c4,p,q,ha,k.cell h0,k.cell h1,k.cell h2,k.cell h3,k.cell h4,k.cell h5,k.cell h6,k.cell h7,k.cell h8,hv.kept k⟩
def sideAt:List SideD→Nat→ByteArray→Int
 |[],_,_=> -1
 |s::r,k,nm=>if (s.name.toList==nm.toList)=true then(k:Int) else sideAt r (k+1) nm
theorem sideAt_drop{l:List SideD}{k:Nat}(h:k<l.length)(nm:ByteArray):sideAt (l.drop k) k nm=if (l[k].name.toList==nm.toList)=true then(k:Int) else sideAt (l.drop (k+1)) (k+1) nm:=by
 rw[List.drop_eq_getElem_cons h,sideAt]
theorem sideAt_end{l:List SideD}(nm:ByteArray):sideAt (l.drop l.length) l.length nm= -1:=by simp[sideAt]
set_option maxHeartbeats 1000000 in
set_option maxRecDepth 100000 in
theorem rside_calls{w:World}{a:Option Addr}{n cap:Nat}{l:List SideD}(h:Bxm w a n cap l)(nm:ByteArray):
 Calls Tryz.prog 83 #[.slice a n cap,.string nm] w fun e w'=>e= .returned (.int .i64 (sideAt l 0 nm))∧w=w':=by
 obtain⟨rfl,hc,hb,hi⟩:=h
 go_enter Tryz.func83,Tryz.ntmps83
 go_wp2
 go_loop [5] (fun s=>∃k:Nat,k≤l.length∧s= .int .i64 (k:Int)∧sideAt (l.drop k) k nm=sideAt l 0 nm) (fun s=>l.length-(intOf s).toNat)
 case atStart=>exact⟨0,Nat.zero_le _,rfl,rfl⟩
 case round=>
  obtain⟨k,hk,rfl,ht⟩:=hrel
  by_cases hlt:k<l.length
  ·obtain⟨b,off,s1,a1,n1,c1,a2,n2,c2,s2,a3,n3,c3,a4,n4,c4,p,q,rfl,h0,-⟩:=hi k hlt
   clear hi
   have hs:=Lib.hid (sideAt_drop hlt nm)
   have HT:=Lib.hid ht;clear ht
   generalize hnk:l[k].name=nk at*
   have HNK:=Lib.hid hnk;clear hnk
   cases hq:(nk.toList==nm.toList)
   ·go_wp2
    go_round
    case rel=>exact⟨k+1,by omega,by go_num,by rw[←HT.out,hs.out,hq];rfl⟩
    case measure=>simp[intOf];omega
   ·go_wp2
    go_ret
    exact⟨by rw[←HT.out,hs.out,hq];rfl,rfl⟩
  ·obtain rfl:l.length=k:=by omega
   have HT:=Lib.hid ht;clear ht
   clear hi
   go_wp2
   go_ret
   exact⟨by rw[←HT.out,sideAt_end];rfl,rfl⟩
set_option maxHeartbeats 1000000 in
set_option maxRecDepth 100000 in
theorem side1_calls{w:World}{bx:Nat}{nm nk:ByteArray}(hb:w.cell? ⟨bx,0,none⟩=some (.string nm))(s1:Bool)(a1:Option Addr)(n1 c1:Nat)(a2:Option Addr)(n2 c2:Nat)(s2:Bool)(a3:Option Addr)(n3 c3:Nat)(a4:Option Addr)(n4 c4:Nat)(p q:Bool):
 Calls Tryz.prog 228 #[.agg #[.string nk,.bool s1,.slice a1 n1 c1,.slice a2 n2 c2,.bool s2,.slice a3 n3 c3,.slice a4 n4 c4,.bool p,.bool q],.pointer (some ⟨bx,0,none⟩)] w fun e w'=>e= .returned (.bool (nk.toList==nm.toList))∧Kept w w':=by
 have hk:Kept w (w.alloc (.cells #[.string nk,.bool s1,.slice a1 n1 c1,.slice a2 n2 c2,.bool s2,.slice a3 n3 c3,.slice a4 n4 c4,.bool p,.bool q] 41)):=(Kept.refl w).alloc _
 have h0:=hk.cell hb
 go_enter Tryz.func228,Tryz.ntmps228
 go_wp2
 go_ret
 exact⟨rfl,hk⟩
set_option maxHeartbeats 1000000 in
set_option maxRecDepth 100000 in
theorem indexside_calls{w:World}{a:Option Addr}{n cap:Nat}{l:List SideD}(h:Bxm w a n cap l){bx:Nat}{nm:ByteArray}(hb:w.cell? ⟨bx,0,none⟩=some (.string nm)):
 Calls Tryz.prog 227 #[.slice a n cap,.func (.func 228) #[] #[.pointer (some ⟨bx,0,none⟩)]] w fun e w'=>e= .returned (.int .i64 (sideAt l 0 nm))∧Kept w w':=by
 obtain⟨rfl,hc,hbd,hi⟩:=h
 go_enter Tryz.func227,Tryz.ntmps227
 go_wp2
 go_loopw [8] (fun s wr=>∃k:Nat,k≤l.length∧s= .int .i64 (k:Int)∧sideAt (l.drop k) k nm=sideAt l 0 nm∧Kept w wr) (fun s _=>l.length-(intOf s).toNat)
 case atStart=>exact⟨0,Nat.zero_le _,rfl,rfl,Kept.refl w⟩
 case round=>
  obtain⟨k,hk,rfl,ht,hkw⟩:=hrel
  have HT:=Lib.hid ht;clear ht
  by_cases hlt:k<l.length
  ·obtain⟨b,off,s1,a1,n1,c1,a2,n2,c2,s2,a3,n3,c3,a4,n4,c4,p,q,rfl,h0,h1,h2,h3,h4,h5,h6,h7,h8,-⟩:=hi k hlt
   clear hi
   have hs:=Lib.hid (sideAt_drop hlt nm)
   generalize hnk:l[k].name=nk at*
   have HNK:=Lib.hid hnk;clear hnk
   replace h0:=hkw.cell h0
   replace h1:=hkw.cell h1
   replace h2:=hkw.cell h2
   replace h3:=hkw.cell h3
   replace h4:=hkw.cell h4
   replace h5:=hkw.cell h5
   replace h6:=hkw.cell h6
   replace h7:=hkw.cell h7
   replace h8:=hkw.cell h8
   have hcl:=side1_calls (nk:=nk) (hkw.cell hb) s1 a1 n1 c1 a2 n2 c2 s2 a3 n3 c3 a4 n4 c4 p q
   cases hq:(nk.toList==nm.toList)
   ·rw[hq] at hcl
    go_wp2_with(go_at_call 228;refine hcl.mono ?_;rintro e w1 ⟨rfl,hk1⟩)
    go_roundw
    case rel=>exact⟨k+1,by omega,by go_num,by rw[←HT.out,hs.out,hq];rfl,hkw.trans hk1⟩
    case measure=>simp[intOf];omega
   ·rw[hq] at hcl
    go_wp2_with(go_at_call 228;refine hcl.mono ?_;rintro e w1 ⟨rfl,hk1⟩)
    go_ret
    exact⟨by rw[←HT.out,hs.out,hq];rfl,hkw.trans hk1⟩
  ·obtain rfl:l.length=k:=by omega
   clear hi
   go_wp2
   go_ret
   exact⟨by rw[←HT.out,sideAt_end];rfl,hkw⟩
set_option maxHeartbeats 1000000 in
set_option maxRecDepth 100000 in
theorem side_calls{w:World}{a:Option Addr}{n cap:Nat}{l:List SideD}(h:Bxm w a n cap l)(nm:ByteArray):
 Calls Tryz.prog 134 #[.slice a n cap,.string nm] w fun e w'=>e= .returned (.int .i64 (sideAt l 0 nm))∧Kept w w':=by
 have hk:Kept w (w.alloc (.cells #[.string nm] 9)):=(Kept.refl w).alloc _
 have hcl:=indexside_calls (h.kept hk) (bx:=w.heap.size) (nm:=nm) (Blk.new w #[.string nm] 9).facts1.1
 have hmf:∀(fn:Fn)(first cap:Array Value)(w:World),(Instr.makeFunc fn first cap).run Tryz.prog w= .ok (.func fn first cap) w:=fun _ _ _ _=>rfl
 go_enter Tryz.func134,Tryz.ntmps134
 go_wp2_with(go_at_call 227;refine hcl.mono ?_;rintro e w1 ⟨rfl,hk1⟩)
 go_ret
 exact⟨rfl,hk.trans hk1⟩
end Go.Proofs.YtbapfnpbamnmpaaGreatDoor
