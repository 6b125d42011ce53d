/- A part of the proof that ClaimFaces answers true for every input of bulk at most 1048576: conditions: the row's own. -/
import Derived.Test.YtbapfnpbamnmpaaGreatDoorBase
import Derived.Deep.OwnRows
import Derived.Laws.AppendOwn
namespace Go.Proofs.YtbapfnpbamnmpaaGreatDoor
open Go Go.RowKit Go.Dig
open Go.Eng (Kept KW)
def Ws(w:World)(a:Option Addr)(n:Nat)(zs:Nat→Nat):Prop:=
 ∀i,i<n→∃b off,a=some ⟨b,off,none⟩∧w.cell? ⟨b,off+i,none⟩=some (.int .u32 (zs i:Nat))
theorem Ws.kept{w w':World}{a:Option Addr}{n:Nat}{zs:Nat→Nat}(h:Ws w a n zs)(k:Kept w w'):Ws w' a n zs:=fun i hi=>by
 obtain⟨b,off,e,hc⟩:=h i hi
 exact⟨b,off,e,k.cell hc⟩
theorem Ws.open{w:World}{a:Option Addr}{n:Nat}{zs:Nat→Nat}(h:Ws w a n zs):n=0∨0<n∧∃b off,a=some ⟨b,off,none⟩∧∀i,i<n→w.cell? ⟨b,off+i,none⟩=some (.int .u32 (zs i:Nat)):=by
 by_cases h0:n=0
 ·exact .inl h0
 ·obtain⟨b,off,rfl,_⟩:=h 0 (by omega)
  refine .inr ⟨by omega,b,off,rfl,fun i hi=> ?_⟩
  obtain⟨b',off',e,hc⟩:=h i hi
  cases e
  exact hc
def Nt(B:Nat)(w:World)(v:Value)(m:Nat):Prop:=
 ∃(a:Option Addr)(n cap:Nat)(zs:Nat→Nat),v= .slice a n cap∧n≤cap∧(∀i,i<n→zs i<B)∧norm zs n∧val B zs n=m∧Ws w a n zs
theorem Nt.kept{B:Nat}{w w':World}{v:Value}{m:Nat}(h:Nt B w v m)(k:Kept w w'):Nt B w' v m:=by
 obtain⟨a,n,cap,zs,h1,h2,h3,h4,h5,h6⟩:=h
 exact⟨a,n,cap,zs,h1,h2,h3,h4,h5,h6.kept k⟩
theorem ret_int{k:IntKind}{a b:Int}(h:a=b):Ending.returned (.int k a)= .returned (.int k b):=by rw[h]
theorem ret_bool{a b:Bool}(h:a=b):Ending.returned (.bool a)= .returned (.bool b):=by rw[h]
set_option maxHeartbeats 1000000 in
theorem cmp_eq(w:World)(b off cap b' off' cap' n:Nat)(xs ys:Nat→Nat)(hn:n≤4611686018427387904)
 (hx:∀i,i<n→w.cell? ⟨b,off+i,none⟩=some (.int .u32 (xs i:Nat)))
 (hy:∀i,i<n→w.cell? ⟨b',off'+i,none⟩=some (.int .u32 (ys i:Nat))):
 Calls Tryz.prog 320 #[.slice (some ⟨b,off,none⟩) n cap,.slice (some ⟨b',off',none⟩) n cap'] w fun e w'=>e= .returned (.int .i64 (cmpFrom xs ys n))∧Kept w w':=by
 go_enter Tryz.func320,Tryz.ntmps320
 go_wp2
 go_loopw [5] (fun i wr=>∃k:Nat,k≤n∧i= .int .i64 ((k:Int)-1)∧cmpFrom xs ys k=cmpFrom xs ys n∧Kept w wr) (fun i _=>(intOf i+1).toNat)
 case atStart=>exact⟨n,Nat.le_refl _,rfl,rfl,Kept.refl _⟩
 case round=>
  obtain⟨k,hk,rfl,ht,hkw⟩:=hrel
  have HT:=Lib.hid ht;clear ht
  cases k with
  |zero=>
   go_wp2
   go_ret
   exact⟨by rw[←HT.out];rfl,hkw⟩
  |succ k=>
   have h1:=hkw.cell (hx k (by omega))
   have h2:=hkw.cell (hy k (by omega))
   have HX:=Lib.hid hx;clear hx
   have HY:=Lib.hid hy;clear hy
   by_cases hlt:xs k<ys k
   ·go_wp2
    go_quiet (fail)
    go_wp2
    go_ret
    exact⟨by rw[←HT.out];simp[cmpFrom,hlt],hkw.drewN _⟩
   ·by_cases hgt:ys k<xs k
    ·go_wp2
     go_quiet (fail)
     go_wp2
     go_quiet (fail)
     go_wp2
     go_ret
     exact⟨by rw[←HT.out];simp[cmpFrom,hlt,hgt],by first|exact(hkw.drewN _).drewN _|exact hkw.drewN _⟩
    ·go_wp2
     go_quiet (fail)
     go_wp2
     go_quiet (fail)
     go_wp2
     go_roundw
     case rel=>exact⟨k,by omega,by go_num,by rw[←HT.out];simp[cmpFrom,hlt,hgt],by first|exact(hkw.drewN _).drewN _|exact hkw.drewN _⟩
     case measure=>simp[intOf]
theorem cmp_zero(w:World)(a a':Option Addr)(cap cap':Nat):
 Calls Tryz.prog 320 #[.slice a 0 cap,.slice a' 0 cap'] w fun e w'=>e= .returned (.int .i64 0)∧w=w':=by
 go_enter Tryz.func320,Tryz.ntmps320
 go_wp2
 go_loop [5] (fun i=>i= .int .i64 (-1)) (fun _=>0)
 case atStart=>rfl
 case round=>
  subst hrel
  go_wp2
  go_ret
  exact⟨rfl,rfl⟩
theorem cmp_ne(w:World)(a a':Option Addr)(n n' cap cap':Nat)(h:n<n'∨n'<n):
 Calls Tryz.prog 320 #[.slice a n cap,.slice a' n' cap'] w fun e w'=>e= .returned (.int .i64 (if n<n' then -1 else 1))∧w=w':=by
 by_cases h1:n<n'
 ·have h2:n≠n':=by omega
  go_enter Tryz.func320,Tryz.ntmps320
  go_wp2
  go_ret
  simp
 ·have h2:n≠n':=by omega
  go_enter Tryz.func320,Tryz.ntmps320
  go_wp2
  go_ret
  simp
theorem cmp_calls{B:Nat}(hB:Bs B){w:World}{v u:Value}{m k:Nat}(hv:Nt B w v m)(hu:Nt B w u k)(hm:m<Big):
 Calls Tryz.prog 320 #[v,u] w fun e w'=>e= .returned (.int .i64 (cmpInt m k))∧Kept w w':=by
 obtain⟨a,n,cap,xs,rfl,hc,hd,hn,rfl,hw⟩:=hv
 obtain⟨a',n',cap',ys,rfl,hc',hd',hn',rfl,hw'⟩:=hu
 have hl:=len_big hB hn hm
 by_cases h1:n<n'
 ·refine(cmp_ne w a a' n n' cap cap' (.inl h1)).mono fun e w' ⟨he,hk⟩=> ?_
  have:=val_len_lt hB.pos hd hn' h1
  subst hk
  exact⟨by rw[he,if_pos h1,cmpInt,if_pos this],Kept.refl _⟩
 ·by_cases h2:n'<n
  ·refine(cmp_ne w a a' n n' cap cap' (.inr h2)).mono fun e w' ⟨he,hk⟩=> ?_
   have:=val_len_lt hB.pos hd' hn h2
   subst hk
   exact⟨by rw[he,if_neg h1,cmpInt,if_neg (by omega),if_pos this],Kept.refl _⟩
  ·obtain rfl:n=n':=by omega
   rw[←cmpFrom_val hd hd']
   rcases hw.open with rfl|⟨h0,b,off,rfl,hx⟩
   ·refine(cmp_zero w a a' cap cap').mono fun e w' ⟨he,hk⟩=> ?_
    subst hk
    exact⟨he,Kept.refl _⟩
   ·rcases hw'.open with rfl|⟨_,b',off',rfl,hy⟩
    ·omega
    ·exact cmp_eq w b off cap b' off' cap' n xs ys (by omega) hx hy
end Go.Proofs.YtbapfnpbamnmpaaGreatDoor
namespace Go.Dig
def upd(zs:Nat→Nat)(p x:Nat):Nat→Nat:=fun j=>if j=p then x else zs j
theorem upd_same(zs:Nat→Nat)(p x:Nat):upd zs p x p=x:=by simp[upd]
theorem upd_other(zs:Nat→Nat){p x j:Nat}(h:j≠p):upd zs p x j=zs j:=by simp[upd,h]
theorem val_upd{B:Nat}{zs:Nat→Nat}{p x n:Nat}(h:n≤p):val B (upd zs p x) n=val B zs n:=
 val_congr fun i hi=>upd_other zs (by omega)
theorem val_upd_top{B:Nat}{zs:Nat→Nat}{p x:Nat}:val B (upd zs p x) (p+1)=val B zs p+x*B^p:=by
 simp only[val];rw[val_upd (Nat.le_refl _),upd_same]
structure MulIn(B:Nat)(xs ys zs0:Nat→Nat)(i j:Nat)(zs:Nat→Nat)(c:Nat):Prop where
 lt:∀k,zs k<B
 clt:c<B
 same:∀k,i+j≤k→zs k=zs0 k
 eq:val B zs (i+j)+c*B^(i+j)=val B zs0 (i+j)+xs i*val B ys j*B^i
theorem mul_bound{B x y z c:Nat}(hx:x<B)(hy:y<B)(hz:z<B)(hc:c<B):x*y+z+c<B*B:=by
 obtain⟨b,rfl⟩:∃b,B=b+1:=⟨B-1,by omega⟩
 have h1:x*y≤b*b:=Nat.mul_le_mul (by omega) (by omega)
 have h2:(b+1)*(b+1)=b*b+2*b+1:=by grind
 omega
theorem MulIn.start{B:Nat}{xs ys zs0:Nat→Nat}{i:Nat}(hB:0<B)(h:∀k,zs0 k<B):MulIn B xs ys zs0 i 0 zs0 0:=
 ⟨h,hB,fun _ _=>rfl,by simp[val]⟩
theorem MulIn.step{B:Nat}{xs ys zs0 zs:Nat→Nat}{i j c:Nat}(h:MulIn B xs ys zs0 i j zs c)(hx:xs i<B)(hy:ys j<B):
 MulIn B xs ys zs0 i (j+1) (upd zs (i+j) ((xs i*ys j+zs (i+j)+c)%B)) ((xs i*ys j+zs (i+j)+c)/B):=by
 have hb:=mul_bound hx hy (h.lt (i+j)) h.clt
 have hB:0<B:=by omega
 refine⟨fun k=> ?_,Nat.div_lt_of_lt_mul hb,fun k hk=> ?_,?_⟩
 ·unfold upd;split
  ·exact Nat.mod_lt _ hB
  ·exact h.lt k
 ·rw[upd_other _ (by omega)];exact h.same k (by omega)
 ·have e:=h.eq
  have es:=h.same (i+j) (Nat.le_refl _)
  generalize hs:xs i*ys j+zs (i+j)+c=s at*
  have hd:=Nat.mod_add_div s B
  rw[show i+(j+1)=i+j+1 by omega,val_upd_top]
  simp only[val]
  rw[Nat.pow_succ,←es]
  rw[Nat.pow_add] at*
  generalize val B zs (i+j)=V at*
  generalize val B zs0 (i+j)=V0 at*
  generalize val B ys j=Y at*
  generalize B^i=P at*
  generalize B^j=Q at*
  generalize s%B=r at*
  generalize s/B=d at*
  have:V+r*(P*Q)+d*(P*Q*B)=V+s*(P*Q):=by rw[←hd];grind
  rw[this,←hs]
  grind
structure MulOut(B:Nat)(xs ys:Nat→Nat)(n i:Nat)(zs:Nat→Nat):Prop where
 lt:∀k,zs k<B
 zero:∀k,i+n≤k→zs k=0
 eq:val B zs (i+n)=val B xs i*val B ys n
theorem val_zeros(B:Nat)(zs:Nat→Nat)(n:Nat)(h:∀k,k<n→zs k=0):val B zs n=0:=by
 induction n with
 |zero=>rfl
 |succ n ih=>simp only[val];rw[ih (fun k hk=>h k (by omega)),h n (by omega)];simp
theorem MulOut.start{B:Nat}{xs ys:Nat→Nat}{n:Nat}(hB:0<B):MulOut B xs ys n 0 (fun _=>0):=
 ⟨fun _=>hB,fun _ _=>rfl,by rw[val_zeros _ _ _ (fun _ _=>rfl)];simp[val]⟩
theorem MulOut.step{B:Nat}{xs ys zs0 zs:Nat→Nat}{n i c:Nat}(h0:MulOut B xs ys n i zs0)(h:MulIn B xs ys zs0 i n zs c):MulOut B xs ys n (i+1) (upd zs (i+n) c):=by
 refine⟨fun k=> ?_,fun k hk=> ?_,?_⟩
 ·unfold upd;split
  ·exact h.clt
  ·exact h.lt k
 ·rw[upd_other _ (by omega),h.same k (by omega)];exact h0.zero k (by omega)
 ·rw[show i+1+n=i+n+1 by omega,val_upd_top,h.eq,h0.eq]
  simp only[val]
  grind
end Go.Dig
namespace Go.Proofs.YtbapfnpbamnmpaaGreatDoor
open Go Go.RowKit Go.Dig
open Go.Eng (Kept KW)
theorem info191:(Tryz.prog.info? 191).map (fun i=>(i.zero,i.size,i.bytes))=some (some (.int .u32 0),1,4):=by kernel_rfl
def Row(w:World)(b n:Nat)(zs:Nat→Nat):Prop:=w.rowIs b 191 n (fun j=>.int .u32 (zs j:Nat))
theorem Row.set{w:World}{b n:Nat}{zs:Nat→Nat}(h:Row w b n zs)(p x:Nat):Row (w.setCell ⟨b,p,none⟩ (.int .u32 (x:Nat))) b n (upd zs p x):=
 (World.rowIs.set h p _).congr fun i _=>by simp only[upd];split<;>rfl
theorem Row.made(w:World)(n:Nat):Row (w.alloc (.cells (madeCells #[.int .u32 0] n) 191)) w.heap.size n (fun _=>0):=World.rowIs_made w _ n 191
theorem Row.kept{w w':World}{b n:Nat}{zs:Nat→Nat}(h:Row w b n zs)(k:Kept w w'):Row w' b n zs:=World.rowIs.of_block h (k.old b (World.rowIs.lt h))
theorem Row.drewN{w:World}{b n:Nat}{zs:Nat→Nat}(h:Row w b n zs)(k:Nat):Row (w.drewN k) b n zs:=h
theorem Row.cell{w:World}{b n:Nat}{zs:Nat→Nat}(h:Row w b n zs){i:Nat}(hi:i<n):w.cell? ⟨b,i,none⟩=some (.int .u32 (zs i:Nat)):=World.rowIs.cell h hi
theorem Row.frozen{w:World}{b n:Nat}{zs:Nat→Nat}(h:Row w b n zs)(i:Nat):w.frozen? ⟨b,i,none⟩=false:=World.rowIs.frozen h i
theorem Row.ws{w:World}{b n k:Nat}{zs:Nat→Nat}(h:Row w b n zs)(hk:k≤n):Ws w (some ⟨b,0,none⟩) k zs:=fun i hi=>⟨b,0,rfl,by rw[Nat.zero_add];exact h.cell (by omega)⟩
set_option maxHeartbeats 400000 in
theorem of_some(w:World)(b off n cap:Nat)(zs:Nat→Nat)(hn:n≤4611686018427387904)(hcap:n≤cap)
 (hc:∀i,i<n→w.cell? ⟨b,off+i,none⟩=some (.int .u32 (zs i:Nat))):
 Calls Tryz.prog 248 #[.slice (some ⟨b,off,none⟩) n cap] w fun e w'=>e= .returned (.slice (some ⟨b,off,none⟩) (trimN zs n) cap)∧w=w':=by
 go_enter Tryz.func248,Tryz.ntmps248
 go_wp2
 go_loop [0] (fun s=>∃k:Nat,k≤n∧s= .slice (some ⟨b,off,none⟩) k cap∧trimN zs k=trimN zs n) (fun s=>match s with| .slice _ k _=>k|_=>0)
 case atStart=>exact⟨n,Nat.le_refl _,rfl,rfl⟩
 case round=>
  obtain⟨k,hk,rfl,ht⟩:=hrel
  have HT:=Lib.hid ht;clear ht
  cases k with
  |zero=>
   go_wp2
   go_ret
   exact⟨by rw[←HT.out];rfl,rfl⟩
  |succ k=>
   have h1:=hc k (by omega)
   have HC:=Lib.hid hc;clear hc
   by_cases h0:zs k=0
   ·have HH:=Lib.hid h0
    rw[h0] at h1
    clear h0
    go_wp2
    go_round
    case rel=>exact⟨k,by omega,by go_num,by rw[←HT.out];simp[trimN,HH.out]⟩
    case measure=>simp
   ·have h0':((zs k:Int)==0)=false:=by simpa using h0
    have HH:=Lib.hid h0;clear h0
    go_wp2
    go_ret
    exact⟨by rw[←HT.out];simp[trimN,HH.out],rfl⟩
set_option maxHeartbeats 400000 in
theorem of_zero(w:World)(a:Option Addr)(cap:Nat):
 Calls Tryz.prog 248 #[.slice a 0 cap] w fun e w'=>e= .returned (.slice a 0 cap)∧w=w':=by
 go_enter Tryz.func248,Tryz.ntmps248
 go_wp2
 go_loop [0] (fun s=>s= .slice a 0 cap) (fun s=>0)
 case atStart=>rfl
 case round=>
  subst hrel
  go_wp2
  go_ret
  exact⟨rfl,rfl⟩
theorem of_calls(w:World)(a:Option Addr)(n cap:Nat)(zs:Nat→Nat)(hn:n≤4611686018427387904)(hcap:n≤cap)(h:Ws w a n zs):
 Calls Tryz.prog 248 #[.slice a n cap] w fun e w'=>e= .returned (.slice a (trimN zs n) cap)∧w=w':=by
 rcases h.open with rfl|⟨_,b,off,rfl,hc⟩
 ·exact of_zero w a cap
 ·exact of_some w b off n cap zs hn hcap hc
theorem nt_of{B:Nat}{w:World}{a:Option Addr}{n cap:Nat}{zs:Nat→Nat}(hcap:n≤cap)(hz:∀i,i<n→zs i<B)(h:Ws w a n zs):Nt B w (.slice a (trimN zs n) cap) (val B zs n):=
 ⟨a,trimN zs n,cap,zs,rfl,Nat.le_trans (trimN_le zs n) hcap,fun i hi=>hz i (Nat.lt_of_lt_of_le hi (trimN_le zs n)),trimN_norm zs n,trimN_val B zs n,fun i hi=>h i (Nat.lt_of_lt_of_le hi (trimN_le zs n))⟩
def RetNt(B m:Nat)(w:World)(e:Ending)(w':World):Prop:=∃v,e= .returned v∧Nt B w' v m∧Kept w w'
set_option maxHeartbeats 4000000 in
set_option maxRecDepth 100000 in
theorem mul_some(w:World)(b off cap b' off' cap' n n':Nat)(xs ys:Nat→Nat)(hn:n≤1024)(hn':n'≤1024)(h0:0<n)(h0':0<n')
 (hxl:∀i,i<n→xs i<4294967296)(hyl:∀i,i<n'→ys i<4294967296)
 (hx:∀i,i<n→w.cell? ⟨b,off+i,none⟩=some (.int .u32 (xs i:Nat)))
 (hy:∀i,i<n'→w.cell? ⟨b',off'+i,none⟩=some (.int .u32 (ys i:Nat))):
 Calls Tryz.prog 278 #[.slice (some ⟨b,off,none⟩) n cap,.slice (some ⟨b',off',none⟩) n' cap'] w (RetNt 4294967296 (val 4294967296 xs n*val 4294967296 ys n') w):=by
 have hmk:=fun w=>run_make_row' (P:=Tryz.prog) 22 191 (.int .u32 0) 4 Tryz.underlying22 info191 rfl .i64 .i64 (n+n') (by omega) (by omega) w
 have ec:((n+n':Nat):Int)=(n:Int)+(n':Int):=by omega
 rw[ec] at hmk
 clear ec
 have HXL:=Lib.hid hxl;clear hxl
 have HYL:=Lib.hid hyl;clear hyl
 have HX:=Lib.hid hx;clear hx
 have HY:=Lib.hid hy;clear hy
 have q1:((n:Int)==0)=false:=by simp;omega
 have q2:((n':Int)==0)=false:=by simp;omega
 go_enter Tryz.func278,Tryz.ntmps278
 go_wp2
 clear hmk
 go_loopw [28] (fun i wr=>∃(k:Nat)(zs:Nat→Nat),k≤n∧i= .int .i64 (k:Int)∧MulOut 4294967296 xs ys n' k zs∧Row wr w.heap.size (n+n') zs∧Kept w wr) (fun i _=>n-(intOf i).toNat)
 case atStart=>exact⟨0,fun _=>0,Nat.zero_le _,rfl,MulOut.start (by decide),Row.made _ _,(Kept.refl _).alloc _⟩
 case round=>
  obtain⟨k,zs0,hk,rfl,hmo,hrow,hkw⟩:=hrel
  by_cases hlt:k<n
  ·have h1:=hkw.cell (HX.out k hlt)
   have hxk:=HXL.out k hlt
   go_wp2
   obtain⟨wo,rfl⟩:∃wo:World,wo=wr:=⟨_,rfl⟩
   go_loopw [8,35] (fun c j wr=>∃(l cn:Nat)(zs:Nat→Nat),l≤n'∧j= .int .i64 (l:Int)∧c= .int .u64 (cn:Int)∧MulIn 4294967296 xs ys zs0 k l zs cn∧Row wr w.heap.size (n+n') zs∧Kept w wr) (fun _ j _=>n'-(intOf j).toNat)
   case atStart=>exact⟨0,0,zs0,Nat.zero_le _,rfl,rfl,MulIn.start (by decide) hmo.lt,hrow,hkw⟩
   case round=>
    obtain⟨l,cn,zs,hl,rfl,rfl,hmi,hrow1,hkw1⟩:=hrel
    by_cases hlt2:l<n'
    ·have h2:=hkw1.cell (HY.out l hlt2)
     have hyl:=HYL.out l hlt2
     have h3:=hrow1.cell (i:=k+l) (by omega)
     have h4:=hrow1.frozen (k+l)
     have hzl:=hmi.lt (k+l)
     have hcl:=hmi.clt
     have hbd:=mul_bound hxk hyl hzl hcl
     have hst:=Lib.hid (hmi.step hxk hyl)
     clear hmi
     go_wp2
     go_roundw
     case rel=>
      refine⟨l+1,(xs k*ys l+zs (k+l)+cn)/4294967296,upd zs (k+l) ((xs k*ys l+zs (k+l)+cn)%4294967296),by omega,by go_num,by simp,hst.out,?_,hkw1.setCell (Nat.le_refl _) _⟩
      have:=hrow1.set (k+l) ((xs k*ys l+zs (k+l)+cn)%4294967296)
      simpa using this
     case measure=>simp[intOf];omega
    ·obtain rfl:n'=l:=by omega
     have h4:=hrow1.frozen (k+n')
     have h3:=hrow1.cell (i:=k+n') (by omega)
     have hcl:=hmi.clt
     have hst:=Lib.hid (hmo.step hmi)
     clear hmi hmo
     go_wp2
     go_roundw
     case rel=>
      refine⟨k+1,upd zs (k+n') cn,by omega,by go_num,hst.out,?_,hkw1.setCell (Nat.le_refl _) _⟩
      exact hrow1.set (k+n') cn
     case measure=>simp[intOf];omega
  ·obtain rfl:n=k:=by omega
   go_wp2_with(go_at_call 248;refine(of_calls _ _ _ _ zs0 (by omega) (Nat.le_refl _) (hrow.ws (Nat.le_refl _))).mono ?_;rintro e w' ⟨rfl,rfl⟩)
   go_ret
   refine⟨_,rfl,?_,hkw⟩
   have:=nt_of (B:=4294967296) (cap:=n+n') (Nat.le_refl _) (fun i _=>hmo.lt i) (hrow.ws (Nat.le_refl _))
   rw[hmo.eq] at this
   exact this
theorem mul_zero(w:World)(a a':Option Addr)(n n' cap cap':Nat)(h:n=0∨n'=0):
 Calls Tryz.prog 278 #[.slice a n cap,.slice a' n' cap'] w (RetNt 4294967296 0 w):=by
 by_cases h1:n=0
 ·subst h1
  go_enter Tryz.func278,Tryz.ntmps278
  go_wp2
  go_ret
  exact⟨_,rfl,⟨none,0,0,fun _=>0,rfl,Nat.le_refl _,fun _ h=>by omega,.inl rfl,rfl,fun _ h=>by omega⟩,Kept.refl _⟩
 ·obtain rfl:n'=0:=by omega
  have q1:((n:Int)==0)=false:=by simp;omega
  go_enter Tryz.func278,Tryz.ntmps278
  go_wp2
  go_ret
  exact⟨_,rfl,⟨none,0,0,fun _=>0,rfl,Nat.le_refl _,fun _ h=>by omega,.inl rfl,rfl,fun _ h=>by omega⟩,Kept.refl _⟩
theorem mul_calls{w:World}{v u:Value}{m k:Nat}(hv:Nt 4294967296 w v m)(hu:Nt 4294967296 w u k)(hm:m<Big)(hk:k<Big):
 Calls Tryz.prog 278 #[v,u] w (RetNt 4294967296 (m*k) w):=by
 obtain⟨a,n,cap,xs,rfl,hc,hd,hn,rfl,hw⟩:=hv
 obtain⟨a',n',cap',ys,rfl,hc',hd',hn',rfl,hw'⟩:=hu
 have hl:=len_big (.inr rfl) hn hm
 have hl':=len_big (.inr rfl) hn' hk
 rcases hw.open with rfl|⟨h0,b,off,rfl,hx⟩
 ·have:=mul_zero w a a' 0 n' cap cap' (.inl rfl)
  simpa [val] using this
 ·rcases hw'.open with rfl|⟨h0',b',off',rfl,hy⟩
  ·have:=mul_zero w (some ⟨b,off,none⟩) a' n 0 cap cap' (.inr rfl)
   simpa [val] using this
  ·exact mul_some w b off cap b' off' cap' n n' xs ys hl hl' h0 h0' hd hd' hx hy
def Ap(w:World)(base:Nat)(v:Value)(n:Nat)(zs:Nat→Nat):Prop:=w.ownsRow base 191 1 v n ((List.range n).map fun i=>Value.int .u32 (zs i:Nat))
def cat(zs:Nat→Nat)(n:Nat)(xs:Nat→Nat):Nat→Nat:=fun i=>if i<n then zs i else xs (i-n)
theorem cat_list(zs xs:Nat→Nat)(n m:Nat):
 ((List.range n).map fun i=>Value.int .u32 (zs i:Nat))++((List.range m).map fun i=>Value.int .u32 (xs i:Nat))=(List.range (n+m)).map fun i=>Value.int .u32 (cat zs n xs i:Nat):=by
 refine List.ext_getElem? fun i=> ?_
 by_cases h:i<n
 ·rw[List.getElem?_append_left (by simpa using h)]
  simp[cat,h,show i<n+m by omega]
 ·rw[List.getElem?_append_right (by simpa using Nat.le_of_not_lt h)]
  by_cases h2:i<n+m
  ·simp[cat,h,h2,show i-n<m by omega]
  ·simp[h2,show ¬i-n<m by omega]
theorem Ap.nil(w:World)(base:Nat)(zs:Nat→Nat):Ap w base (.slice none 0 0) 0 zs:=World.ownsRow_nil w base 191 1
theorem Ap.alloc{w:World}{base:Nat}{v:Value}{n:Nat}{zs:Nat→Nat}(h:Ap w base v n zs)(o:Obj):Ap (w.alloc o) base v n zs:=World.ownsRow.alloc h o
theorem Ap.congr{w:World}{base:Nat}{v:Value}{n:Nat}{zs ys:Nat→Nat}(h:Ap w base v n zs)(e:∀i,i<n→zs i=ys i):Ap w base v n ys:=by
 unfold Ap at*
 have:((List.range n).map fun i=>Value.int .u32 (zs i:Nat))=(List.range n).map fun i=>Value.int .u32 (ys i:Nat):=List.map_congr_left fun i hi=>by rw[e i (List.mem_range.1 hi)]
 rw[←this];exact h
theorem Ap.ws{w:World}{base:Nat}{v:Value}{n:Nat}{zs:Nat→Nat}(h:Ap w base v n zs):∃a cap,v= .slice a n cap∧n≤cap∧Ws w a n zs:=by
 obtain⟨hl,⟨rfl,rfl⟩|⟨g,cap,cur,rfl,hb,hg,hn,_,hcs,ht⟩⟩:=h
 ·exact⟨none,0,rfl,Nat.le_refl _,fun i hi=>by omega⟩
 ·refine⟨_,cap,rfl,hn,fun i hi=>⟨g,0,rfl,?_⟩⟩
  rw[Nat.zero_add]
  have hh:(cur.toList.take (n*1))[i]? =some (.int .u32 (zs i:Nat)):=by rw[ht];simp[hi]
  rw[Nat.mul_one,List.getElem?_take,if_pos hi,Array.getElem?_toList] at hh
  simp[World.cell?,hg,hh]
theorem Ap.kept{w w':World}{base:Nat}{v:Value}{n:Nat}{zs:Nat→Nat}(h:Ap w base v n zs)(k:Kept w w'):Ap w' base v n zs:=by
 refine World.ownsRow.kept (row:=none) h ⟨k.os,k.tape,k.output,k.size,fun b hb _=>k.old b hb⟩ ?_
 cases hv:v.ownBlock with
 |none=>exact .inl rfl
 |some _=>exact .inr (by simp)
theorem info_parts':∃i0,Tryz.prog.info? 191=some i0∧i0.zero=some (.int .u32 0)∧i0.size=1∧i0.bytes=4:=by
 obtain⟨i,hi,hzz⟩:=Option.map_eq_some_iff.1 info191
 simp only[Prod.mk.injEq] at hzz
 exact⟨i,hi,hzz.1,hzz.2.1,hzz.2.2⟩
theorem wpList_append_words{w:World}{ops:Array Oper}{rest:List Oper}{o:Oper}{act:Act}{Q:Exit→Act→World→Prop}(hgd:o.guard=none)(s x:Operand)(t:TypeId)
 (ho:o.op= .call {callee:=.builtin .append,args:=#[s,x],argTypes:=#[t,t]})(ht:Tryz.prog.underlying t=some (.slice 191))
 (w0:World)(hk:Kept w0 w)(v:Value)(n:Nat)(zs:Nat→Nat)(hs:act.eval s=v)(hown:Ap w w0.heap.size v n zs)
 (ad:Addr)(m c:Nat)(xs:Nat→Nat)(hx:act.eval x= .slice (some ad) m c)(hws:Ws w (some ad) m xs)(hb:n+m≤1099511627776)
 (h:∀v' w',Ap w' w0.heap.size v' (n+m) (cat zs n xs)→Kept w0 w'→wpList Tryz.prog ops Q rest (act.put o.dst v') w'):wpList Tryz.prog ops Q (o::rest) act w:=by
 obtain⟨i0,hi,hz0,hz1,hz2⟩:=info_parts'
 refine wpList_append_own w hgd s x t ho w0.heap.size 191 i0 (.int .u32 0) 1 4 ht hi hz0 hz1 hz2 rfl (by decide) v n _ hs hown ad m c ((List.range m).map fun i=>Value.int .u32 (xs i:Nat)) hx (by simp) ?_ ?_ (by unfold maxLen;omega) (by omega) hk.size ?_
 ·intro j u hu
  rw[List.getElem?_map] at hu
  obtain⟨i,hi,rfl⟩:=Option.map_eq_some_iff.1 hu
  obtain⟨hj,rfl⟩:=List.getElem?_eq_some_iff.1 hi
  rw[List.getElem_range]
  obtain⟨b,off,e,hc⟩:=hws j (by simpa using hj)
  cases e
  rw[show(Addr.add ⟨b,off,none⟩ j)=⟨b,off+j,none⟩ by unfold Addr.add;split<;>simp_all]
  exact hc
 ·intro u hu
  obtain⟨i,_,rfl⟩:=List.mem_map.1 hu
  rfl
 ·intro v' w' h1 h2 _
  rw[cat_list] at h1
  refine h v' w' h1 ?_
  refine⟨Nat.le_trans hk.size h2.size,fun b hbk=> ?_,h2.tape.trans hk.tape,h2.os.trans hk.os,h2.output.trans hk.output⟩
  rw[h2.block b (Nat.lt_of_lt_of_le hbk hk.size) (fun e=> ?_)]
  ·exact hk.old b hbk
  ·have:=(World.ownsRow.lt hown b e.symm).1
   omega
end Go.Proofs.YtbapfnpbamnmpaaGreatDoor
