/- A part of the proof that SearchCandidates answers true for every input of bulk at most 1048576: conditions: the row's own. -/
import Derived.Test.YtancebninmoipaaGreatDoorP25
import Derived.Test.YtancebninmoipaaGreatDoorP02
import GoSem.ClaimFn
import GoSem.ClaimGoes
import Derived.Test.YtancebninmoipaaGreatDoorProg
import Derived.KernelRfl
import Derived.Test.YtancebninmoipaaGreatDoorCards
import Derived.ProofKit
import Derived.LaidMore
import Derived.Lay
import Derived.JoinedCond
import Derived.Deep.DeepHandedRow
namespace Go.Proofs.YtancebninmoipaaGreatDoor
open Go Go.RowKit Go.Shelf Go.Eng
def tab32:List Value:=[0,1,28,2,29,14,24,3,30,22,20,15,25,17,4,8,31,27,13,23,21,19,16,7,26,12,18,6,11,5,10,9].map fun(n:Nat)=>.int .u8 (.ofNat n)
noncomputable def H0:AHeap:=⟨.node (some (.cells tab32 329 false false)) (Tr.full 11) (Tr.full 11),8⟩
def Laid6(w:World):Prop:=∃arr fz,w.heap[0]? =some (.cells arr 329 fz)∧32≤arr.size∧∀(k:Nat)(v:Value),tab32[k]? =some v→arr[k]? =some v
section
variable{P:Program}{w w':World}
noncomputable def mu0(P:Program):Mu:=⟨fun i=>if i=0 then some (0,0) else none,fun _=>0,fun e=>(size? P e).getD 0⟩
theorem H0_get:H0.get 0=some (.cells tab32 329 false false):=rfl
theorem mu0_some{i:Nat}{p:Nat×Nat}(h:mu0 P i=some p):i=0∧p=(0,0):=by
 simp only[mu0] at h
 split at h
 ·rename_i e;exact⟨e,by cases h;rfl⟩
 ·cases h
theorem tab32_len:tab32.length=32:=rfl
theorem tab32_plain:∀(k:Nat)(v:Value),tab32[k]? =some v→∃n,v= .int .u8 n:=by
 intro k v h
 have:=List.mem_of_getElem? h
 simp only[tab32,List.mem_map] at this
 obtain⟨n,_,rfl⟩:=this
 exact⟨_,rfl⟩
theorem start6(h:Laid6 w):St [0] P H0 (mu0 P) w:=by
 obtain⟨arr,fz,h1,h2,h3⟩:=h
 refine⟨⟨?_,?_,?_,?_,?_,?_⟩,?_,?_⟩
 ·intro i b o hi
  obtain⟨rfl,hp⟩:=mu0_some hi
  cases hp
  refine⟨_,H0_get,?_⟩
  rw[h1]
  refine⟨rfl,by rw[tab32_len];omega,fun k v hk=>⟨v,by rw[Nat.zero_add];exact h3 k v hk,?_⟩,(fun hf=>by cases hf),(fun hf=>by cases hf),fun hf=>by cases hf⟩
  obtain⟨n,rfl⟩:=tab32_plain k v hk
  exact .int _ _
 ·intro i p hi
  obtain⟨rfl,_⟩:=mu0_some hi
  show 0<8
  omega
 ·intro i b o cs e app hi hg
  obtain⟨rfl,_⟩:=mu0_some hi
  rw[H0_get] at hg
  cases hg
 ·intro i b o cs e ow hi hg
  obtain⟨rfl,_⟩:=mu0_some hi
  rw[H0_get] at hg
  cases hg
 ·intro i b o x hi hg hno
  obtain⟨rfl,_⟩:=mu0_some hi
  rw[H0_get] at hg
  cases hg
  exact absurd rfl (hno _ _ _ _)
 ·intro i b o cs e ow hi hg
  obtain⟨rfl,_⟩:=mu0_some hi
  rw[H0_get] at hg
  cases hg
 ·intro e n hn
  simp[mu0,hn]
 ·intro g hg
  simp only[List.any_cons,List.any_nil,Bool.or_false] at hg
  rw[Nat.eq_of_beq_eq_true hg]
  rfl
theorem kept_of6{H':AHeap}{μ':Mu}(h:Ext H0 (mu0 P) w H' μ' w'):Kept w w':=
 ⟨h.size,fun b hb=>h.keep b hb fun i o hi=>by
   obtain⟨rfl,_⟩:=mu0_some hi
   exact⟨_,H0_get,rfl⟩,h.tape,h.os,h.output⟩
noncomputable def isTrue6(r:Option (Value×AHeap)):Bool:=
 match r with
 |some (.bool b,_)=>b
 |_=>false
theorem isTrue6_some{r:Option (Value×AHeap)}(h:isTrue6 r=true):∃H',r=some (.bool true,H'):=by
 unfold isTrue6 at h
 split at h
 ·subst h;exact⟨_,rfl⟩
 ·cases h
theorem true_of6{ev:Ev}{f:FuncId}{args:List Value}(hev:EvOk [0] P ev)(h:isTrue6 (ev.call f args H0)=true)(hp:args.all (plainV 4)=true)(n:Nat)(hw:Laid6 w):
 CallsIn Fence.wide n P f args.toArray w (fun e w'=>e= .returned (.bool true)∧Kept w w'):=by
 obtain⟨H',hc⟩:=isTrue6_some h
 refine(hev.call f args H0 _ _ hc (mu0 P) w args.toArray n (start6 hw) (LRel.plain hp)).mono ?_
 intro e w' hq
 obtain⟨v',μ',rfl,hv,_,hx⟩:=hq
 rw[hv.inv_bool]
 exact⟨rfl,kept_of6 hx⟩
theorem Laid6.laid(h:Laid6 w):Laid w:=by
 obtain⟨arr,fz,h1,h2,h3⟩:=h
 intro j hj
 have hj':j<32:=hj
 have he:tab32[j]? =some (.int .u8 (Lib.deBruijn32tab.getD j 0)):=by
  show(List.map _ Lib.deBruijn32tab)[j]? =_
  rw[List.getElem?_map,List.getElem?_eq_getElem hj]
  simp[List.getD,List.getElem?_eq_getElem hj]
 have:=h3 j _ he
 simp[World.cell?,h1,this]
theorem Laid6.kept(h:Laid6 w)(k:Kept w w'):Laid6 w':=by
 obtain⟨arr,fz,h1,h2,h3⟩:=h
 exact⟨arr,fz,(k.old 0 (Array.getElem?_eq_some_iff.1 h1).1).trans h1,h2,h3⟩
end
theorem mix6:Tryz.prog.follows .mixedOrders=true:=by kernel_rfl
end Go.Proofs.YtancebninmoipaaGreatDoor
namespace Go.Clo
open Go
theorem map_two{α β:Type}{f:α→β}{l:List α}{A B:List β}(n:Nat)(h1:(l.take n).map f=A)(h2:(l.drop n).map f=B):l.map f=A++B:=by
 rw[←h1,←h2,←List.map_append,List.take_append_drop]
noncomputable def cloT(T:List (List Nat)):Nat→List Nat→List Nat→Option (List Nat)
 |_,[],seen=>some seen.reverse
 |0,_::_,_=>none
 |n+1,f::todo,seen=>if seen.contains f then cloT T n todo seen else cloT T n ((T[f]?).getD []++todo) (f::seen)
theorem closure_of{P:Program}{T:List (List Nat)}(h:P.funcs.toList.map P.leadsTo=T):∀{m:Nat}{todo seen r:List Nat},cloT T m todo seen=some r→∀n,m≤n→P.closureVia n todo seen=r:=by
 have hl:∀g:Nat,(P.funcs[g]?).elim [] P.leadsTo=(T[g]?).getD []:=by
  intro g
  rw[←h,List.getElem?_map]
  simp only[Array.getElem?_toList]
  cases P.funcs[g]? <;>rfl
 intro m
 induction m with
 |zero=>
  intro todo seen r hc n hn
  cases todo with
  |nil=>
   simp only[cloT,Option.some.injEq] at hc
   subst hc
   cases n<;>rfl
  |cons _ _=>simp[cloT] at hc
 |succ m ih=>
  intro todo seen r hc n hn
  cases todo with
  |nil=>
   simp only[cloT,Option.some.injEq] at hc
   subst hc
   cases n<;>rfl
  |cons f todo=>
   obtain⟨n,rfl⟩:∃k,n=k+1:=⟨n-1,by omega⟩
   simp only[cloT] at hc
   simp only[Program.closureVia]
   split at hc
   ·rename_i hs
    rw[if_pos hs]
    exact ih hc n (by omega)
   ·rename_i hs
    rw[if_neg hs,hl f]
    exact ih hc n (by omega)
theorem closure_eq{P:Program}{T:List (List Nat)}(h:P.funcs.toList.map P.leadsTo=T){m f:Nat}{r:List Nat}(hc:cloT T m [f] []=some r)(hm:Nat.ble m (1+(T.map fun l=>l.length+1).sum)=true):P.closure f=r:=by
 unfold Program.closure
 refine closure_of h hc _ ?_
 have:=Nat.le_of_ble_eq_true hm
 rw[←h,List.map_map] at this
 exact this
theorem goes_false{P:Program}(h:P.funcs.any Func.goes=false)(f:FuncId):P.goes f=false:=by
 unfold Program.goes
 rw[h,Bool.and_false,Bool.or_false]
 rw[List.any_eq_false]
 intro g _
 cases hg:P.funcs[g]? with
 |none=>simp
 |some fn=>
  have:=Array.any_eq_false'.1 h fn (Array.mem_of_getElem? hg)
  simpa using this
end Go.Clo
namespace Go.Proofs.YtancebninmoipaaGreatDoor
section
open Go Go.Proofs
def lead0:List (List FuncId):=[[],
 [],
 [1],
 [4,5,6,7],
 [8,9,10,12,11],
 [14,15,17,16,18,19],
 [20],
 [22,21],
 [23,24,25,24,25],
 [23,26],
 [27,28],
 [29],
 [13],
 [30,31],
 [33,34,35,33,35],
 [34,36],
 [],
 [37,37,38,39],
 [17,40],
 [20],
 [41],
 [42,43,44,45,46,47],
 [48],
 [49,50],
 [51],
 [52,54,53],
 [56,57],
 [58,59],
 [60],
 [],
 [],
 [32],
 [61,61,62],
 [63],
 [64,65,17],
 [66,67],
 [68,70,69],
 [71,72,71,73],
 [75,74],
 [],
 [76,77,76],
 [37,37,38],
 [78,79],
 [80],
 [80,81],
 [78,79,82,83,84,85,86,87,88,89,90,91,92],
 [80,81,93,94],
 [80,95,96,97],
 [98,99,100,101,102,104,103],
 [105],
 [107,106],
 [109,51],
 [24,110,112,111],
 [113],
 [55],
 [115,114],
 [116],
 [118,117],
 [126,114],
 [127,127]]
theorem leads0:((Tryz.prog.funcs.toList.drop 0).take 60).map Tryz.prog.leadsTo=lead0:=by kernel_rfl
end
section
open Go Go.Proofs
def lead1:List (List FuncId):=[[128,129],
 [130,130,131,132,122,133],
 [134,134,134,134,135,135,136],
 [137,63],
 [138,139],
 [140,140],
 [141,66],
 [],
 [65,17],
 [142,40],
 [143,143,144,143,75,145],
 [146],
 [],
 [72,72,147,148,148],
 [],
 [149,144],
 [],
 [],
 [8,150],
 [151,152,151],
 [],
 [154,153],
 [156],
 [156],
 [4,157,158,156],
 [156],
 [159],
 [156],
 [156],
 [156],
 [156],
 [156],
 [160,27,161,156],
 [162,163,79],
 [81,155,96,164,79],
 [163,10,165,166],
 [],
 [162,97],
 [167,168,169,170],
 [],
 [171,172,173,172,173,172,171,172,171,174,175],
 [176,177,140,178],
 [179,180],
 [],
 [143,40,40,40],
 [181,182],
 [183],
 [108],
 [184,184,62],
 [185,49,130,131,61,134],
 [186],
 [188,189],
 [190],
 [],
 [],
 [],
 [59],
 [191],
 [108,119,120,120,121,120,121,121,123,122,125,124],
 []]
theorem leads1:((Tryz.prog.funcs.toList.drop 60).take 60).map Tryz.prog.leadsTo=lead1:=by kernel_rfl
end
section
open Go Go.Proofs
def lead2:List (List FuncId):=[[132,132],
 [135,135,135,192,122,136,193,122,193,122],
 [131,132,194,194,195,195,194,196,197,198,199,199],
 [130],
 [119],
 [133,200,198,200],
 [],
 [200,200],
 [61,125],
 [],
 [],
 [],
 [130],
 [],
 [131],
 [130],
 [],
 [201,202,140,37,74,203,64],
 [],
 [],
 [71,71,37,142],
 [],
 [],
 [72,72,73,72,72,73],
 [205,204,205,204,205,205,204,206,73,207,208,73,208,73],
 [144,143,209],
 [],
 [148],
 [207,210,72,211,211,212,146,146,213],
 [],
 [],
 [28,151],
 [214,215],
 [],
 [155],
 [],
 [216,162],
 [49,60,24,217,60],
 [61,134],
 [78,4,218],
 [23,219,220,32],
 [219,32,221,219,32,221,57],
 [28,151,163,151,162],
 [28],
 [],
 [223,222],
 [],
 [],
 [224,64,139],
 [225,225],
 [],
 [226,174,172,172,172,172,175,226,37,74],
 [174],
 [174,175,227,172,227,227,227,228,227,172,227,228,227,38],
 [],
 [174],
 [225],
 [229,230,72,73,69,229,230,72,231,73,69,230,230,73,69],
 [],
 [63]]
theorem leads2:((Tryz.prog.funcs.toList.drop 120).take 60).map Tryz.prog.leadsTo=lead2:=by kernel_rfl
end
section
open Go Go.Proofs
def lead3:List (List FuncId):=[[],
 [232,232,233],
 [234],
 [],
 [61,119],
 [],
 [187],
 [187],
 [235],
 [223,236],
 [],
 [],
 [130],
 [130],
 [237],
 [130],
 [238],
 [199],
 [],
 [136,239,132,240,123,123,241,130,130,195],
 [],
 [],
 [],
 [71],
 [146],
 [72],
 [],
 [],
 [146],
 [205,204,205,204,73],
 [146],
 [146],
 [242],
 [146],
 [244,243],
 [],
 [8,246,247,8,248],
 [217,158,217,217,217,249,250],
 [251,252,253],
 [120,125],
 [254,255],
 [254,121],
 [257,258,259,260,261,262,263,264,222,222],
 [238,265],
 [266],
 [],
 [267,172,172,172,267,268],
 [172,175],
 [172,174,175,177,37,149,37],
 [],
 [72,204,72,206],
 [72,204],
 [],
 [],
 [269],
 [],
 [270,271,272,273,274,275,276,277,278,236,236],
 [],
 [],
 [130]]
theorem leads3:((Tryz.prog.funcs.toList.drop 180).take 60).map Tryz.prog.leadsTo=lead3:=by kernel_rfl
end
section
open Go Go.Proofs
def lead4:List (List FuncId):=[[238],
 [],
 [72,204,146,207],
 [279],
 [108,245],
 [120,125,124,125,124,125,124],
 [280,281,282,283,284],
 [286,285],
 [287,280],
 [289,288,290,288,291,288,292,293],
 [221,288,220,288,294,288,295,288,32],
 [8,296,297],
 [253],
 [298,299],
 [61,61,125],
 [256,121],
 [131],
 [],
 [300,300],
 [301,302],
 [303,303,303,304],
 [],
 [],
 [],
 [],
 [],
 [],
 [305,172,172,172,305,268],
 [],
 [],
 [276],
 [306,306],
 [301,302],
 [307,307,307,308],
 [],
 [276,276,276],
 [309,309],
 [276,276],
 [276,276,276,276],
 [],
 [310],
 [158],
 [311],
 [],
 [312,283,24,312,24],
 [],
 [],
 [],
 [],
 [128,256],
 [61,131,313,314,125],
 [128,315],
 [61,316,316,125],
 [317,318],
 [254,319],
 [61,61,131,313,319,125],
 [23,320,321],
 [23,320,321,322],
 [323,324,325],
 [327,326]]
theorem leads4:((Tryz.prog.funcs.toList.drop 240).take 60).map Tryz.prog.leadsTo=lead4:=by kernel_rfl
end
section
open Go Go.Proofs
def lead5:List (List FuncId):=[[],
 [223],
 [],
 [304],
 [329,329,329],
 [172,305,330,331,172,172,332,330],
 [276,276],
 [308],
 [333,333,333],
 [],
 [334,335,336,337,338,339,340,341,342,343,344,345,346,347,348,349,350,351,352,353,354],
 [],
 [158],
 [],
 [355,355],
 [],
 [132,196,123,355,199,132,135,192,239,136,355,136],
 [60],
 [219,356],
 [135,135,122],
 [49,158],
 [357],
 [358],
 [24,23,52,58],
 [359,361,360],
 [],
 [362],
 [108,328],
 [134,134],
 [],
 [],
 [174,175,177,224,363,364],
 [174,225,175,178],
 [276],
 [366,365],
 [367,369,368,365],
 [367,370,368,365],
 [367,372,371,373,368,365],
 [374,375,377,376],
 [378,376],
 [380,375,379,376,381],
 [380,375,377,376,381],
 [380,383,382,375,377,376,381,381],
 [384,376],
 [385,376,366,386,376],
 [388,387],
 [390,389,376,367,392,392,391,393,387],
 [394,296,389,395,376,297,396,383,382,395,298,368,299,397,379,398,377,398,376,401,400,399,389,376],
 [376,394,357,389,376,395,376,383,382,375,379,398,377,398,376],
 [402,387,403,389,376,367],
 [391,402,387,402,387],
 [402,387,391,402,387],
 [374,158,397,376,404,382,391,391,402,387],
 [376,376,366,405,389,376,406,382,407,376,406,382,393,387],
 [27,158,397,376,408,389,376,367,402,387,392,219,391,406,382,391,403,389,376,219,295,409,219,411,368,410,396],
 [132,135,135],
 [130,198],
 [412,106],
 [411],
 [415,27,416,417,411]]
theorem leads5:((Tryz.prog.funcs.toList.drop 300).take 60).map Tryz.prog.leadsTo=lead5:=by kernel_rfl
end
section
open Go Go.Proofs
def lead6:List (List FuncId):=[[418,419,420,421,422,423,424,425,426,427,428,429],
 [324],
 [],
 [227,227,226,227],
 [226,227,363,363,363,363,363,227,332,227,226,227,330,175],
 [299,397,379,376],
 [298,368],
 [366],
 [376],
 [430,431,432,325,433,325,324,434,435],
 [430,431,436,432,325,433,325,437,325,324,434,438,435],
 [376],
 [323,439,440,325,441,325],
 [23,50,158,439,440,325,442,325],
 [376],
 [366,299,397],
 [],
 [],
 [443,444,27,445,446,446],
 [],
 [408,389,376,367,383,382],
 [447,387],
 [376],
 [24,49,448,451,450,449],
 [443,27,452,453,446,454],
 [24,448,455,449,449,449],
 [8,385,24,456,456],
 [376],
 [443,444,27,457,458,219,221,446],
 [376],
 [443,27,27,459,454,460,461],
 [],
 [],
 [462,463,465,464],
 [466,389,376,367],
 [157,281],
 [376],
 [376],
 [32],
 [50,59,299,467],
 [376],
 [323,468,436,437,325],
 [462,463,465],
 [24,24,469,469,470,471],
 [61,473],
 [474,106],
 [24,24,49,476,475,449],
 [478,477],
 [443,480,477],
 [376],
 [49,50,23,58,152,56],
 [152],
 [108,184,414,413],
 [482,483,62],
 [],
 [358,416],
 [484,214],
 [487,488],
 [299,489],
 [214,490]]
theorem leads6:((Tryz.prog.funcs.toList.drop 360).take 60).map Tryz.prog.leadsTo=lead6:=by kernel_rfl
end
section
open Go Go.Proofs
def lead7:List (List FuncId):=[[214,491],
 [492,493],
 [492,494],
 [495,496],
 [495,497],
 [495,498],
 [495,499],
 [502,214],
 [504,214],
 [507,214],
 [323,468,439],
 [383],
 [26,512,322],
 [324],
 [425,513],
 [325],
 [383,431],
 [324,59],
 [514,358,427,515,358,425,425,434],
 [],
 [26,512],
 [359,516,517,518,441,441,519,520,521,360,516],
 [416,358,434],
 [8,55],
 [158],
 [32,32],
 [410,463],
 [443,27,404,406,406,522],
 [110,523],
 [24,524],
 [450,525,526,527],
 [528,528,528,451,529,530,528,529,529,529,531,451,529,529,529,529,529,529,529],
 [220,219,219,295,294,221],
 [410,253],
 [405,405],
 [455,532,532,529,529,529],
 [402,393],
 [533,405],
 [534,534],
 [24,49,49,535,475,449],
 [403],
 [459,536,537,537,460],
 [8,24,25],
 [465,538,465],
 [539],
 [540,465],
 [24,448],
 [425,426,424],
 [466],
 [24,541,125,542],
 [],
 [32,472],
 [],
 [125,529],
 [108,108,62,62],
 [475],
 [],
 [543],
 [479,389],
 [24,24,544]]
theorem leads7:((Tryz.prog.funcs.toList.drop 420).take 60).map Tryz.prog.leadsTo=lead7:=by kernel_rfl
end
section
open Go Go.Proofs
def lead8:List (List FuncId):=[[481],
 [52,545],
 [62],
 [62],
 [485,486],
 [119],
 [546,546],
 [547,551,551,193,193],
 [195,552,553,552],
 [492,554],
 [256,256],
 [328,490,120,256,482],
 [555,243],
 [483,483],
 [490,490,493,490],
 [556,492],
 [121,121],
 [490,496],
 [557,557,558,414,554],
 [500,119,501,498],
 [328],
 [120,120,313,313],
 [485,485,500,119,501,503,486,503,486],
 [120,414,328,490,120,256,482,314,314,314],
 [485,485,328,119,125,124,505,124,184,125,124,506,124,184],
 [559],
 [559],
 [485,485,508,509,509,510,511],
 [219,184,219,184,328,62,62,119],
 [219,184,219,184,560,483,482,561,561],
 [560,561,561,119],
 [560,417,562,184,123,414,486,256,184],
 [56,563],
 [423],
 [219,219,295],
 [219],
 [219],
 [58,415,516,515],
 [441,419,289],
 [564,564,565,425,566,567],
 [423,221,424,220],
 [441,442],
 [49,23,58,56],
 [],
 [60,524],
 [568,256,473],
 [568,134,313,314,473,528],
 [569,569,134,570,473,571,572,573,574,528,574],
 [120,473],
 [],
 [528,529,529,528,529,529],
 [528,529,529,529,529,529,529,529,529,529,529,529,529,529,529,529,529,529,529,529],
 [],
 [],
 [24,49,575],
 [],
 [479],
 [537],
 [540,540],
 []]
theorem leads8:((Tryz.prog.funcs.toList.drop 480).take 60).map Tryz.prog.leadsTo=lead8:=by kernel_rfl
end
section
open Go Go.Proofs
def lead9:List (List FuncId):=[[200,200],
 [576,577],
 [],
 [],
 [32,578,544],
 [579],
 [123,199,131,132,192,132,123,122],
 [550,132,549,550,132,549,548],
 [580,132,550,132,135,135,193,132,549,550,549,132,550,135,135,193,550,135,135,193,123,549,123,549,135,195,135,553],
 [199,131,132,192],
 [132,123],
 [123,123],
 [550,60],
 [195,581,132,192],
 [483,482],
 [108,108,245],
 [485,486],
 [],
 [134,134,120,319],
 [61,123,199,316,131,132,192,132,123,122,125],
 [582,125,124,125,124],
 [125,124,125,124,585,584],
 [119],
 [358,424],
 [57,586],
 [294,294,221,586],
 [587,587,513,358,424,434],
 [588,588,434],
 [61,256],
 [568],
 [121,256,121,319,313,319],
 [574,574,529],
 [574,574,529,525,529],
 [574,574,528,574,574,574,529,525],
 [120,62],
 [589,575],
 [],
 [61,590,577,591,577,577,591,577,577,591,577,577,592,577,577,593,592,577,593,120,590,592,595,594],
 [],
 [],
 [135,195,135,553],
 [194],
 [583,562,184,184],
 [596,597,598,599,600,601,602,603,317,604],
 [119],
 [60,60,605,605,606,606,32,487,552,552,607,607,608,607,607,608],
 [609],
 [358,425],
 [219,358,358,434],
 [589,589,610,568,198,589],
 [611],
 [612,120,319,611],
 [319,613,611],
 [313,590,595,614,594],
 [120,611],
 [615,616],
 [617,550,550,123,135,195,239,550,192,550,135,553,132,549,192,135,195,135,553,488,550,549,552,549,552],
 [130,618,196,196,123,123,136,123,123,193,123,192,549,549,619,550,132,549,550,132,549,619,132,135,192,135,192,488,132,135,135,620],
 [621,622],
 [621,622]]
theorem leads9:((Tryz.prog.funcs.toList.drop 540).take 60).map Tryz.prog.leadsTo=lead9:=by kernel_rfl
end
section
open Go Go.Proofs
def lead10:List (List FuncId):=[[621,295,295,32,32,622],
 [623,488],
 [487,488,623,551,192,192,488,620],
 [606,617,624,488,618,617,624,487,123,193,123,193,488],
 [625,318,60],
 [130,196,618,196],
 [130,618,132,135,136],
 [295,626,627],
 [],
 [61,546,125],
 [110],
 [628,629,630,121,631,632,133],
 [],
 [49,49,633,634],
 [],
 [636,637,637,637,637,638,639,639,638,640,637,641],
 [],
 [130,131,132,130,123,199,131,132,192],
 [132],
 [580,132,550,549,550,132,135,135,192,132,549,132,550,135,135,192,550,135,135,192,123,549,123,549,135,123,195,135,123,553],
 [552,552,220,552,552,220,622],
 [642,643,644,645,645,645,645],
 [586,646],
 [294,219,220,506,505,647,617,617,624,551],
 [648,648,548,551],
 [317,649,605,606,606],
 [128,650],
 [128,651],
 [652],
 [630],
 [653,654],
 [657],
 [134],
 [223,658],
 [635],
 [309,309],
 [61,659,198,659],
 [660],
 [614,615,637,615,637],
 [638,637,638],
 [661],
 [640,662,637,637,615,637],
 [487,552,552,295,221,627,663,586,646,664],
 [665],
 [666,666,136,667,552,667,552],
 [289,289],
 [609],
 [219,221,295],
 [550,135,192,316,132,192,550,135,192,316,123,550,192,549,123,550,192,549],
 [130,618,136],
 [546],
 [546],
 [668,668,669,669],
 [],
 [635,656,655],
 [],
 [670,670],
 [],
 [671,672,673,674,675,676,677,678,658,658],
 [131,239,131,679]]
theorem leads10:((Tryz.prog.funcs.toList.drop 600).take 60).map Tryz.prog.leadsTo=lead10:=by kernel_rfl
end
section
open Go Go.Proofs
def lead11:List (List FuncId):=[[680],
 [681],
 [269],
 [294,220],
 [],
 [666,667,135,195,552,135,553,552],
 [617],
 [580,550,132,550,135,135,193,135,193,123,549,123,549],
 [],
 [682,669,669],
 [],
 [],
 [683,683],
 [301,302],
 [684,684,684,685],
 [],
 [],
 [],
 [],
 [],
 [],
 [686,687,688,689],
 [690,690,690],
 [],
 [685],
 [691,691,691],
 [],
 [265,692,693],
 [],
 [694,695],
 [],
 [],
 [],
 [],
 [],
 [237,696],
 [],
 [],
 [],
 [],
 [],
 [],
 [],
 [],
 [],
 [],
 [],
 [],
 [],
 [],
 [],
 [],
 [],
 [],
 [],
 [],
 [],
 [],
 [],
 []]
theorem leads11:((Tryz.prog.funcs.toList.drop 660).take 60).map Tryz.prog.leadsTo=lead11:=by kernel_rfl
end
section
open Go Go.Proofs Go.Clo
def leadAll:List (List FuncId):=lead0++(lead1++(lead2++(lead3++(lead4++(lead5++(lead6++(lead7++(lead8++(lead9++(lead10++(lead11)))))))))))
theorem leadsAll:Tryz.prog.funcs.toList.map Tryz.prog.leadsTo=leadAll:=by
 refine map_two 60 (by have h:=leads0;rwa [List.drop_zero] at h) ?_
 refine map_two 60 leads1 ?_
 rw[List.drop_drop]
 refine map_two 60 leads2 ?_
 rw[List.drop_drop]
 refine map_two 60 leads3 ?_
 rw[List.drop_drop]
 refine map_two 60 leads4 ?_
 rw[List.drop_drop]
 refine map_two 60 leads5 ?_
 rw[List.drop_drop]
 refine map_two 60 leads6 ?_
 rw[List.drop_drop]
 refine map_two 60 leads7 ?_
 rw[List.drop_drop]
 refine map_two 60 leads8 ?_
 rw[List.drop_drop]
 refine map_two 60 leads9 ?_
 rw[List.drop_drop]
 refine map_two 60 leads10 ?_
 rw[List.drop_drop]
 have h:=leads11
 rw[List.take_of_length_le] at h
 ·exact h
 ·simp only[List.length_drop]
  have hs:Tryz.prog.funcs.toList.length=720:=by kernel_rfl
  rw[hs]
  decide
end
section
open Go.ChangeShapes Go.WideShapes Go.ChangeAt Go.RowKit
def zeroClaim:Value:=.agg #[.int .i64 0,.int .i64 0,.bool false,.slice none 0 0,.slice none 0 0,.string ⟨#[]⟩,.slice none 0 0,.bool false,.slice none 0 0,.slice none 0 0]
def zeroArgs6:Array Value:=#[zeroClaim]
noncomputable def witW(os:Os):World:=World.laidAll Tryz.prog os Rows.searchCandidatesUptoRow.laid
noncomputable def witC(os:Os):World:=(witW os).forCall (fun _ _=>0) ⟨#[],zeroArgs6,[]⟩
theorem wShape(os:Os):(witC os).Shaped Tryz.prog:=World.shaped_of_ZipB (by kernel_rfl) (by kernel_rfl)
theorem wOk(os:Os):Input.okWideB Tryz.prog (witC os) 3 ⟨#[],zeroArgs6,[]⟩=true:=by kernel_rfl
theorem wLaid(os:Os):laidMetH Tryz.prog Rows.searchCandidatesUptoRow.laid (witC os).memory:=by
 rw[MakeChecks.laidMetH_plain _ _ _ (by kernel_rfl)]
 exact laidMet_laidAll _ (by kernel_rfl) (by kernel_rfl)
theorem wReads(os:Os){H:Type}(enc:TypeId×Value→H):∃places,DataW.whole enc Tryz.prog (witC os).memory Tryz.f3.params.toList (Rows.OpenSpec.upto Rows.searchCandidatesSpec).vars false zeroArgs6.toList 8=
 some ([.agg [.agg [.lit (.int .i64 0),.lit (.int .i64 0),.agg [.lit (.bool false),.nil,.nil],.lit (.string []),.nil],.lit (.bool false),.nil,.nil]],[],places):=
 ⟨[],by kernel_rfl⟩
theorem wSized(os:Os){H:Type}(enc:TypeId×Value→H):(Rows.OpenSpec.upto Rows.searchCandidatesSpec).bare.sizedB enc Tryz.prog Tryz.f3 false (witC os).memory zeroArgs6 8=true:=by kernel_rfl
theorem wPre(os:Os){H:Type}(enc:TypeId×Value→H):(Rows.OpenSpec.upto Rows.searchCandidatesSpec).preRow enc Tryz.prog Tryz.f3 Rows.searchCandidatesUptoRow.domain false Rows.searchCandidatesUptoRow.laid (witC os).memory zeroArgs6:=by
 obtain⟨places,hx⟩:=wReads os enc
 exact OpenSpec.preRow_of_cond 8 hx (by kernel_rfl) (fun k hk=>by cases hk;kernel_rfl) (wSized os enc) (wLaid os)
theorem witness6(os:Os){H:Type}(enc:TypeId×Value→H):∃(w:World)(tape:Tape)(i:Input),w.os=os∧(w.forCall tape i).Shaped Tryz.checked.prog∧i.vars=[]∧Input.okWide Tryz.checked.prog (w.forCall tape i) .any w.heap.size 3 i∧
 (Rows.OpenSpec.upto Rows.searchCandidatesSpec).preRow enc Tryz.checked.prog Tryz.f3 Rows.searchCandidatesUptoRow.domain false Rows.searchCandidatesUptoRow.laid (w.forCall tape i).memory i.args∧({}:Assume).holds Tryz.checked.prog (lone (Frame.enter Tryz.checked.prog 3 i.args .normal) [] (w.forCall tape i)):=
 ⟨witW os,fun _ _=>0,⟨#[],zeroArgs6,[]⟩,World.laidAll_os _ _ _,wShape os,(Input.okWide_of_okWideB (base:=0) (wOk os)).1,(Input.okWide_of_okWideB (wOk os)).2,wPre os enc,by
   simp only[Assume.holds]
   exact⟨by simp,by simp,fun _=>Modest.zero,by simp,by simp⟩⟩
theorem noInit6:Tryz.prog.inits.idxOf? 3=none:=by kernel_rfl
theorem own6:ownKnob Tryz.prog.godebug=none:=by kernel_rfl
end
end Go.Proofs.YtancebninmoipaaGreatDoor
