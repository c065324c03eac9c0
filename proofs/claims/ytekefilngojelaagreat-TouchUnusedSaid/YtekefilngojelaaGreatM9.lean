/-
  A part of the proof: GabsU, Cfg3t, GabsRen, GabsUnr, GabsLit, GabsHZ, GabsLz, TcA3t, GabsFor, MDig, RefA3t, MCmp, RefB3t, MArith, RefC3t, RefD3t, IntU, RefE3t, MKnuth, MWds, RefF3t, RefG3t, MDiv, RefH3t, RefI3t, MEdiv, RefJ3t, RefK3t, RatU, RefL3t, GabsB, IntA3t, IntB3t, IntC3t, IntD3t, IntF3t, MQw.
-/
import Derived.Laws.BitsLemmas
import Derived.Test.YtekefilngojelaaGreatProg
import Derived.Test.YtekefilngojelaaGreatM8
set_option maxHeartbeats 0
set_option maxRecDepth 100000
set_option linter.unusedVariables false
set_option linter.unusedSimpArgs false
set_option linter.unusedSectionVars false
section
namespace Go.Abs
inductive BT (α:Type) where
 | leaf
 | node (k:Nat) (v:α) (l r:BT α)
def BT.find {α:Type}:BT α->Nat->Option α
 | .leaf,_=>none
 | .node k v l r,i=>if i=k then some v else if i<k then l.find i else r.find i
def BT.all {α:Type} (p:Nat->α->Bool):BT α->Bool
 | .leaf=>true
 | .node k v l r=>p k v&&l.all p&&r.all p
theorem BT.vV {α:Type} {p:Nat->α->Bool} {i:Nat} {v:α}:∀ {t:BT α},t.all p=true->t.find i=some v->p i v=true
 | .leaf,_,h=>by cases h
 | .node k w l r,ha,h=>by
  simp only[BT.all,Bool.and_eq_true]at ha;simp only[BT.find]at h;split at h
  ·rename_i e;cases h;rw[e];exact ha.1.1
  ·split at h
   ·exact BT.vV ha.1.2 h
   ·exact BT.vV ha.2 h
theorem Tm {P:Program} {t:BT TI} {md:FuncId->List Mode} {cs:TypeId->Bool} (h:t.all (fun i ti=>RX P i ti)=true):bt P ⟨t.find,md,cs⟩:=
 fun i ti hi=>BT.vV h hi
def XX (t:BT (List Mode)) (f:FuncId):List Mode:=(t.find f).getD []
def aC (n:Nat) (l:List AV) (h:bM):St:=⟨l++List.replicate (n-l.length) .aj,h⟩
def vi (k:IntKind) (n:Int):AV:=.c (.t (.v (.int k n)))
def vb (b:Bool):AV:=.c (.t (.v (.bool b)))
def ti (k:IntKind) (n:Int):TV:=.c (.v (.int k n))
def tb (b:Bool):TV:=.c (.v (.bool b))
theorem wrap_i64 {x:Int} (h0:-9223372036854775808<=x) (h1:x<9223372036854775808):IntKind.wrap .i64 x=x:=by
 rw[IntKind.wrap_i64];omega
theorem Ja {x:Int} (h0:0<=x) (h1:x<2^32):IntKind.wrap .u32 x=x:=by
 have:IntKind.wrap .u32 x=x%2^32:=rfl;rw[this,Int.emod_eq_of_lt h0 h1]
theorem yl (x:Int):IntKind.wrap .u32 x=x%4294967296:=rfl
theorem ym (x:Int):IntKind.wrap .u64 x=x%18446744073709551616:=rfl
theorem wrap_u8 {x:Int} (h0:0<=x) (h1:x<256):IntKind.wrap .u8 x=x:=by
 have:IntKind.wrap .u8 x=x%256:=rfl;rw[this,Int.emod_eq_of_lt h0 h1]
def vl (r:Rows):AV:=.c (.t (.aa false r))
def tl (r:Rows):TV:=.c (.aa false r)
def eW:AV:=.c (.t (.aa true []))
def iT (s:Bool) (r:Rows):List Tree:=[.v (.bool s),.aa false r]
theorem iZ (k:IntKind) (l:List Int):(W k l).length=l.length:=by simp[W]
theorem N3 (k:IntKind) (l:List Int) (i:Nat):(W k l)[i]?=(l[i]?).map fun x=>[Tree.v (.int k x)]:=by simp[W]
theorem lS (k:IntKind) (l:List Int) (i:Nat):ZI.b9.gJ k (W k l) i=decide (i<l.length):=by
 simp only[ZI.b9,N3];rcases Nat.lt_or_ge i l.length with h|h
 ·simp[h]
 ·simp[h,Nat.not_lt.2 h]
theorem ph (k:IntKind) (l:List Int) (i:Nat):ZI.b9.dL (W k l) i=l.getD i 0:=by
 simp only[ZI.b9,N3,List.getD_eq_getElem?_getD];cases l[i]? <;> rfl
theorem oo (k:IntKind) (l:List Int) (i:Nat) (x:Int):(W k l).set i [.v (.int k x)]=W k (l.set i x):=by simp[W,List.map_set]
theorem jH (k:IntKind) (l:List Int) (a n:Nat):((W k l).drop a).take n=W k ((l.drop a).take n):=by simp[W,List.map_drop,List.map_take]
theorem Kl (k:IntKind) (l m:List Int) (a:Nat):bG (W k l) a (W k m)=W k (bG l a m):=by simp[W,bG,List.map_drop,List.map_take]
theorem vW (k:IntKind) (n:Nat) (x:Int):List.replicate n [Tree.v (.int k x)]=W k (List.replicate n x):=by simp[W]
theorem Fo (k:IntKind) (l:List Int):((W k l).all fun r=>r.length==1)=true:=by simp[W]
theorem bT {b:Bool} {p q:Prop} (h:b=true) (hp:p):Br b p q:=⟨fun _=>hp,fun h'=>absurd (h.symm.trans h') (by decide)⟩
theorem bF {b:Bool} {p q:Prop} (h:b=false) (hq:q):Br b p q:=⟨fun h'=>absurd (h.symm.trans h') (by decide),fun _=>hq⟩
theorem nd {c:Bool} {p:Prop} (h:c=true) (hp:p):Tg c p:=⟨h,hp⟩
theorem bX {F:lJ->Prop} {y:TV} {o:List (Option aU)} (hF:∀r,aS r ⟨[.val y],o⟩->F r) {x:TV} (h:x=y):F ⟨[.val x],o⟩:=by subst h;exact hF _ (aS.refl _)
theorem MN {F:lJ->Prop} {y y':TV} {o:List (Option aU)} (hF:∀r,aS r ⟨[.val y,.val y'],o⟩->F r) {x x':TV} (h:x=y) (h':x'=y'):F ⟨[.val x,.val x'],o⟩:=by subst h h';exact hF _ (aS.refl _)
theorem bE {F:lJ->Prop} {y:TV} {o:List (Option aU)} (hF:∀r,aS r ⟨[.val y],o⟩->F r) {x:TV} (h:iI x y):F ⟨[.val x],o⟩:=hF _ ⟨⟨h,trivial⟩,rfl⟩
theorem Dl {F:lJ->Prop} {y y':TV} {o:List (Option aU)} (hF:∀r,aS r ⟨[.val y,.val y'],o⟩->F r) {x x':TV} (h:iI x y) (h':iI x' y'):F ⟨[.val x,.val x'],o⟩:=hF _ ⟨⟨h,h',trivial⟩,rfl⟩
theorem lh {k:IntKind} {a b:Int} (h:a=b):TV.c (.v (.int k a))=.c (.v (.int k b)):=by rw[h]
theorem tJ {a b:Bool} (h:a=b):TV.c (.v (.bool a))=.c (.v (.bool b)):=by rw[h]
theorem again {s s':St} {n0 n m:Nat} {I:Nat->St->Prop} (h1:eC s.tmps s'.tmps) (h2:eF s.heap s'.heap) (h3:s'.a9=true) (h4:n0<=s'.heap.length) (hm:m<n) (hI:I m s') :
  ∃s',s.Le s'/\s'.a9=true/\n0<=s'.heap.length/\∃m,m<n/\I m s':=⟨s',iY h1 h2,h3,h4,m,hm,hI⟩
end Go.Abs
end
section
namespace Go.Proofs.YtekefilngojelaaGreat
open Go Go.Abs Go.Proofs
def tab:BT TI:=(.node 53 ⟨.struct [(0,3),(1,31),(2,31),(3,37),(4,42),(5,42),(6,42),(7,48),(24,49),(25,50),(26,51),(27,39)],28,528,[.v (.int .i64 0),.aa true [],.aa
 true [],.aa true [],.aa true [],.aa true [],.aa true [],.v (.int .i64 0),.v (.int .i64 0),.v (.int .i64 0),.v (.int .i64 0),.v (.int .i64 0),.v (.int .i64 0),.v
 (.int .i64 0),.v (.int .i64 0),.aa true [],.aa true [],.aa true [],.aa true [],.aa true [],.aa true [],.aa true [],.aa true [],.aa true [],.aa true [],.aa
 true [],.aa true [],.aa true []]⟩ (.node 29 ⟨.struct [(0,27)],1,24,[.aa true []]⟩ (.node 13 ⟨.struct [(0,9),(1,12)],2,24,[.v (.string ⟨#[]⟩),.v (.int .u64 0)]⟩
 (.node 7 ⟨.struct [(0,2),(1,3),(2,4),(3,6)],4,24,[.v (.int .i64 0),.v (.int .i64 0),.v (.bool false),.v (.int .u8 0)]⟩ (.node 4 ⟨.bool,1,1,[.v (.bool false)]⟩
 (.node 3 ⟨.int .i64,1,8,[.v (.int .i64 0)]⟩ (.node 2 ⟨.int .i64,1,8,[.v (.int .i64 0)]⟩ .leaf .leaf) .leaf) (.node 6 ⟨.int .u8,1,1,[.v (.int .u8 0)]⟩ (.node 5 ⟨.int .u8,
 1,1,[.v (.int .u8 0)]⟩ .leaf .leaf) .leaf)) (.node 10 ⟨.string,1,16,[.v (.string ⟨#[]⟩)]⟩ (.node 9 ⟨.string,1,16,[.v (.string ⟨#[]⟩)]⟩ (.node 8 ⟨.struct [(0,2),(1,3),
 (2,4),(3,6)],4,24,[.v (.int .i64 0),.v (.int .i64 0),.v (.bool false),.v (.int .u8 0)]⟩ .leaf .leaf) .leaf) (.node 12 ⟨.int .u64,1,8,[.v (.int .u64 0)]⟩ (.node 11
 ⟨.string,1,16,[.v (.string ⟨#[]⟩)]⟩ .leaf .leaf) .leaf))) (.node 23 ⟨.slice 86,1,24,[.aa true []]⟩ (.node 19 ⟨.struct [(0,17)],1,8,[.v (.pointer none)]⟩ (.node 18
 ⟨.struct [(0,17)],1,8,[.v (.pointer none)]⟩ (.node 14 ⟨.struct [(0,9),(1,12)],2,24,[.v (.string ⟨#[]⟩),.v (.int .u64 0)]⟩ .leaf .leaf) .leaf) (.node 22 ⟨.slice 29,1,
 24,[.aa true []]⟩ (.node 21 ⟨.int .i32,1,4,[.v (.int .i32 0)]⟩ .leaf .leaf) .leaf)) (.node 26 ⟨.array 3 5,3,3,[.v (.int .u8 0),.v (.int .u8 0),.v (.int .u8 0)]⟩ (.node 25
 ⟨.struct [(0,5),(1,22),(2,23)],3,56,[.v (.int .u8 0),.aa true [],.aa true []]⟩ (.node 24 ⟨.struct [(0,5),(1,22),(2,23)],3,56,[.v (.int .u8 0),.aa true [],
 .aa true []]⟩ .leaf .leaf) .leaf) (.node 28 ⟨.struct [(0,27)],1,24,[.aa true []]⟩ (.node 27 ⟨.slice 87,1,24,[.aa true []]⟩ .leaf .leaf) .leaf)))) (.node 42 ⟨.slice 31,1,
 24,[.aa true []]⟩ (.node 36 ⟨.slice 43,1,24,[.aa true []]⟩ (.node 33 ⟨.struct [(0,3),(1,31),(2,31)],3,56,[.v (.int .i64 0),.aa true [],.aa true []]⟩ (.node 32
 ⟨.struct [(0,3),(1,31),(2,31)],3,56,[.v (.int .i64 0),.aa true [],.aa true []]⟩ (.node 31 ⟨.slice 35,1,24,[.aa true []]⟩ .leaf .leaf) .leaf) (.node 35 ⟨.slice 96,
 1,24,[.aa true []]⟩ (.node 34 ⟨.slice 96,1,24,[.aa true []]⟩ .leaf .leaf) .leaf)) (.node 39 ⟨.slice 128,1,24,[.aa true []]⟩ (.node 38 ⟨.slice 3,1,24,[.aa true []]⟩
 (.node 37 ⟨.slice 43,1,24,[.aa true []]⟩ .leaf .leaf) .leaf) (.node 41 ⟨.struct [(0,3),(1,35),(2,3),(3,3),(4,3),(5,37),(6,31),(7,38),(8,39)],9,152,[.v (.int
 .i64 0),.aa true [],.v (.int .i64 0),.v (.int .i64 0),.v (.int .i64 0),.aa true [],.aa true [],.aa true [],.aa true []]⟩ (.node 40 ⟨.struct [(0,3),(1,35),(2,3),
 (3,3),(4,3),(5,37),(6,31),(7,38),(8,39)],9,152,[.v (.int .i64 0),.aa true [],.v (.int .i64 0),.v (.int .i64 0),.v (.int .i64 0),.aa true [],.aa true [],.aa
 true [],.aa true []]⟩ .leaf .leaf) .leaf))) (.node 48 ⟨.struct [(0,43),(8,45),(9,46)],17,280,[.v (.int .i64 0),.v (.int .i64 0),.v (.int .i64 0),.v (.int .i64 0),.v
 (.int .i64 0),.v (.int .i64 0),.v (.int .i64 0),.v (.int .i64 0),.aa true [],.aa true [],.aa true [],.aa true [],.aa true [],.aa true [],.aa true [],.aa true [],
 .aa true []]⟩ (.node 45 ⟨.slice 93,1,24,[.aa true []]⟩ (.node 44 ⟨.slice 93,1,24,[.aa true []]⟩ (.node 43 ⟨.array 8 3,8,64,[.v (.int .i64 0),.v (.int .i64 0),.v (.int
 .i64 0),.v (.int .i64 0),.v (.int .i64 0),.v (.int .i64 0),.v (.int .i64 0),.v (.int .i64 0)]⟩ .leaf .leaf) .leaf) (.node 47 ⟨.struct [(0,43),(8,45),(9,46)],17,280,[.v
 (.int .i64 0),.v (.int .i64 0),.v (.int .i64 0),.v (.int .i64 0),.v (.int .i64 0),.v (.int .i64 0),.v (.int .i64 0),.v (.int .i64 0),.aa true [],.aa true [],.aa true
 [],.aa true [],.aa true [],.aa true [],.aa true [],.aa true [],.aa true []]⟩ (.node 46 ⟨.array 8 45,8,192,[.aa true [],.aa true [],.aa true [],.aa true [],
 .aa true [],.aa true [],.aa true [],.aa true []]⟩ .leaf .leaf) .leaf)) (.node 51 ⟨.slice 137,1,24,[.aa true []]⟩ (.node 50 ⟨.slice 134,1,24,[.aa true []]⟩ (.node 49
 ⟨.slice 126,1,24,[.aa true []]⟩ .leaf .leaf) .leaf) (.node 52 ⟨.struct [(0,3),(1,31),(2,31),(3,37),(4,42),(5,42),(6,42),(7,48),(24,49),(25,50),(26,51),
 (27,39)],28,528,[.v (.int .i64 0),.aa true [],.aa true [],.aa true [],.aa true [],.aa true [],.aa true [],.v (.int .i64 0),.v (.int .i64 0),.v (.int .i64 0),.v
 (.int .i64 0),.v (.int .i64 0),.v (.int .i64 0),.v (.int .i64 0),.v (.int .i64 0),.aa true [],.aa true [],.aa true [],.aa true [],.aa true [],.aa true [],.aa true
 [],.aa true [],.aa true [],.aa true [],.aa true [],.aa true [],.aa true []]⟩ .leaf .leaf))))) (.node 134 ⟨.struct [(0,93),(4,35)],5,88,[.v (.bool false),.aa
 true [],.v (.bool false),.aa true [],.aa true []]⟩ (.node 93 ⟨.struct [(0,91),(2,91)],4,64,[.v (.bool false),.aa true [],.v (.bool false),.aa true []]⟩ (.node 86
 ⟨.int .i8,1,1,[.v (.int .i8 0)]⟩ (.node 66 ⟨.array 4 5,4,4,[.v (.int .u8 0),.v (.int .u8 0),.v (.int .u8 0),.v (.int .u8 0)]⟩ (.node 55 ⟨.struct [(0,33),(3,41),(12,
 53)],40,736,[.v (.int .i64 0),.aa true [],.aa true [],.v (.int .i64 0),.aa true [],.v (.int .i64 0),.v (.int .i64 0),.v (.int .i64 0),.aa true [],.aa true [],.aa
 true [],.aa true [],.v (.int .i64 0),.aa true [],.aa true [],.aa true [],.aa true [],.aa true [],.aa true [],.v (.int .i64 0),.v (.int .i64 0),.v (.int .i64 0),
 .v (.int .i64 0),.v (.int .i64 0),.v (.int .i64 0),.v (.int .i64 0),.v (.int .i64 0),.aa true [],.aa true [],.aa true [],.aa true [],.aa true [],.aa true [],.aa
 true [],.aa true [],.aa true [],.aa true [],.aa true [],.aa true [],.aa true []]⟩ (.node 54 ⟨.struct [(0,33),(3,41),(12,53)],40,736,[.v (.int .i64 0),.aa true
 [],.aa true [],.v (.int .i64 0),.aa true [],.v (.int .i64 0),.v (.int .i64 0),.v (.int .i64 0),.aa true [],.aa true [],.aa true [],.aa true [],.v (.int .i64 0),
 .aa true [],.aa true [],.aa true [],.aa true [],.aa true [],.aa true [],.v (.int .i64 0),.v (.int .i64 0),.v (.int .i64 0),.v (.int .i64 0),.v (.int .i64 0),.v
 (.int .i64 0),.v (.int .i64 0),.v (.int .i64 0),.aa true [],.aa true [],.aa true [],.aa true [],.aa true [],.aa true [],.aa true [],.aa true [],.aa true [],
 .aa true [],.aa true [],.aa true [],.aa true []]⟩ .leaf .leaf) .leaf) (.node 84 ⟨.array 8 3,8,64,[.v (.int .i64 0),.v (.int .i64 0),.v (.int .i64 0),.v (.int .i64 0),
 .v (.int .i64 0),.v (.int .i64 0),.v (.int .i64 0),.v (.int .i64 0)]⟩ (.node 70 ⟨.slice 5,1,24,[.aa true []]⟩ .leaf .leaf) .leaf)) (.node 90 ⟨.struct [(0,4),(1,89)],2,
 32,[.v (.bool false),.aa true []]⟩ (.node 89 ⟨.slice 195,1,24,[.aa true []]⟩ (.node 87 ⟨.array 5 86,5,5,[.v (.int .i8 0),.v (.int .i8 0),.v (.int .i8 0),.v (.int .i8
 0),.v (.int .i8 0)]⟩ .leaf .leaf) .leaf) (.node 92 ⟨.struct [(0,91),(2,91)],4,64,[.v (.bool false),.aa true [],.v (.bool false),.aa true []]⟩ (.node 91 ⟨.struct [(0,
 4),(1,89)],2,32,[.v (.bool false),.aa true []]⟩ .leaf .leaf) .leaf))) (.node 126 ⟨.struct [(0,93),(4,93)],8,128,[.v (.bool false),.aa true [],.v (.bool false),.aa
 true [],.v (.bool false),.aa true [],.v (.bool false),.aa true []]⟩ (.node 101 ⟨.int .i64,1,8,[.v (.int .i64 0)]⟩ (.node 96 ⟨.struct [(0,93),(4,84)],12,128,[.v
 (.bool false),.aa true [],.v (.bool false),.aa true [],.v (.int .i64 0),.v (.int .i64 0),.v (.int .i64 0),.v (.int .i64 0),.v (.int .i64 0),.v (.int .i64 0),.v (.int
 .i64 0),.v (.int .i64 0)]⟩ (.node 95 ⟨.struct [(0,93),(4,84)],12,128,[.v (.bool false),.aa true [],.v (.bool false),.aa true [],.v (.int .i64 0),.v (.int .i64 0),.v
 (.int .i64 0),.v (.int .i64 0),.v (.int .i64 0),.v (.int .i64 0),.v (.int .i64 0),.v (.int .i64 0)]⟩ .leaf .leaf) .leaf) (.node 125 ⟨.struct [(0,93),(4,93)],8,128,[.v
 (.bool false),.aa true [],.v (.bool false),.aa true [],.v (.bool false),.aa true [],.v (.bool false),.aa true []]⟩ (.node 111 ⟨.int .u64,1,8,[.v (.int .u64 0)]⟩ .leaf
 .leaf) .leaf)) (.node 131 ⟨.struct [(0,86),(1,86),(2,5)],3,3,[.v (.int .i8 0),.v (.int .i8 0),.v (.int .u8 0)]⟩ (.node 128 ⟨.array 8 126,64,1024,[.v (.bool false),
 .aa true [],.v (.bool false),.aa true [],.v (.bool false),.aa true [],.v (.bool false),.aa true [],.v (.bool false),.aa true [],.v (.bool false),.aa true [],.v
 (.bool false),.aa true [],.v (.bool false),.aa true [],.v (.bool false),.aa true [],.v (.bool false),.aa true [],.v (.bool false),.aa true [],.v (.bool false),.aa
 true [],.v (.bool false),.aa true [],.v (.bool false),.aa true [],.v (.bool false),.aa true [],.v (.bool false),.aa true [],.v (.bool false),.aa true [],.v (.bool
 false),.aa true [],.v (.bool false),.aa true [],.v (.bool false),.aa true [],.v (.bool false),.aa true [],.v (.bool false),.aa true [],.v (.bool false),.aa true
 [],.v (.bool false),.aa true [],.v (.bool false),.aa true [],.v (.bool false),.aa true [],.v (.bool false),.aa true [],.v (.bool false),.aa true [],.v (.bool
 false),.aa true [],.v (.bool false),.aa true [],.v (.bool false),.aa true [],.v (.bool false),.aa true []]⟩ (.node 127 ⟨.array 8 126,64,1024,[.v (.bool false),.aa
 true [],.v (.bool false),.aa true [],.v (.bool false),.aa true [],.v (.bool false),.aa true [],.v (.bool false),.aa true [],.v (.bool false),.aa true [],.v (.bool
 false),.aa true [],.v (.bool false),.aa true [],.v (.bool false),.aa true [],.v (.bool false),.aa true [],.v (.bool false),.aa true [],.v (.bool false),.aa true
 [],.v (.bool false),.aa true [],.v (.bool false),.aa true [],.v (.bool false),.aa true [],.v (.bool false),.aa true [],.v (.bool false),.aa true [],.v (.bool
 false),.aa true [],.v (.bool false),.aa true [],.v (.bool false),.aa true [],.v (.bool false),.aa true [],.v (.bool false),.aa true [],.v (.bool false),.aa true
 [],.v (.bool false),.aa true [],.v (.bool false),.aa true [],.v (.bool false),.aa true [],.v (.bool false),.aa true [],.v (.bool false),.aa true [],.v (.bool
 false),.aa true [],.v (.bool false),.aa true [],.v (.bool false),.aa true [],.v (.bool false),.aa true []]⟩ .leaf .leaf) .leaf) (.node 133 ⟨.struct [(0,93),(4,35)],
 5,88,[.v (.bool false),.aa true [],.v (.bool false),.aa true [],.aa true []]⟩ (.node 132 ⟨.struct [(0,86),(1,86),(2,5)],3,3,[.v (.int .i8 0),.v (.int .i8 0),.v
 (.int .u8 0)]⟩ .leaf .leaf) .leaf)))) (.node 237 ⟨.struct [(0,17),(1,17),(2,17),(3,9)],4,40,[.v (.pointer none),.v (.pointer none),.v (.pointer none),.v (.string
 ⟨#[]⟩)]⟩ (.node 181 ⟨.struct [(0,3),(1,35),(2,37)],3,56,[.v (.int .i64 0),.aa true [],.aa true []]⟩ (.node 148 ⟨.struct [(0,4),(1,4),(2,4),(3,4),(4,4),(5,4),
 (6,4),(7,4),(8,4),(9,4),(10,4),(11,4)],12,12,[.v (.bool false),.v (.bool false),.v (.bool false),.v (.bool false),.v (.bool false),.v (.bool false),.v (.bool
 false),.v (.bool false),.v (.bool false),.v (.bool false),.v (.bool false),.v (.bool false)]⟩ (.node 142 ⟨.map 9 3,1,8,[.v (.map none)]⟩ (.node 137 ⟨.array 8 93,32,512,
 [.v (.bool false),.aa true [],.v (.bool false),.aa true [],.v (.bool false),.aa true [],.v (.bool false),.aa true [],.v (.bool false),.aa true [],.v (.bool false),
 .aa true [],.v (.bool false),.aa true [],.v (.bool false),.aa true [],.v (.bool false),.aa true [],.v (.bool false),.aa true [],.v (.bool false),.aa true [],.v
 (.bool false),.aa true [],.v (.bool false),.aa true [],.v (.bool false),.aa true [],.v (.bool false),.aa true [],.v (.bool false),.aa true []]⟩ .leaf .leaf) .leaf)
 (.node 180 ⟨.struct [(0,3),(1,35),(2,37)],3,56,[.v (.int .i64 0),.aa true [],.aa true []]⟩ (.node 149 ⟨.struct [(0,4),(1,4),(2,4),(3,4),(4,4),(5,4),(6,4),
 (7,4),(8,4),(9,4),(10,4),(11,4)],12,12,[.v (.bool false),.v (.bool false),.v (.bool false),.v (.bool false),.v (.bool false),.v (.bool false),.v (.bool false),.v
 (.bool false),.v (.bool false),.v (.bool false),.v (.bool false),.v (.bool false)]⟩ .leaf .leaf) .leaf)) (.node 207 ⟨.struct [(0,70)],1,24,[.aa true []]⟩ (.node 203 ⟨.int
 .u64,1,8,[.v (.int .u64 0)]⟩ (.node 195 ⟨.int .u32,1,4,[.v (.int .u32 0)]⟩ .leaf .leaf) .leaf) (.node 233 ⟨.slice 91,1,24,[.aa true []]⟩ (.node 208 ⟨.struct [(0,70)],1,
 24,[.aa true []]⟩ .leaf .leaf) .leaf))) (.node 244 ⟨.int .u8,1,1,[.v (.int .u8 0)]⟩ (.node 240 ⟨.struct [(0,239)],0,0,[]⟩ (.node 239 ⟨.array 0 16,0,0,[]⟩ (.node 238
 ⟨.struct [(0,17),(1,17),(2,17),(3,9)],4,40,[.v (.pointer none),.v (.pointer none),.v (.pointer none),.v (.string ⟨#[]⟩)]⟩ .leaf .leaf) .leaf) (.node 243 ⟨.int .u8,1,
 1,[.v (.int .u8 0)]⟩ (.node 241 ⟨.struct [(0,239)],0,0,[]⟩ .leaf .leaf) .leaf)) (.node 249 ⟨.struct [(0,12),(1,12),(2,195),(3,243),(4,5),(5,5),(6,244),(7,245),
 (8,246),(9,247),(10,248)],11,48,[.v (.int .u64 0),.v (.int .u64 0),.v (.int .u32 0),.v (.int .u8 0),.v (.int .u8 0),.v (.int .u8 0),.v (.int .u8 0),.v .nilFunc,.v
 (.pointer none),.v (.int .i32 0),.v (.int .i32 0)]⟩ (.node 248 ⟨.int .i32,1,4,[.v (.int .i32 0)]⟩ (.node 247 ⟨.int .i32,1,4,[.v (.int .i32 0)]⟩ .leaf .leaf) .leaf) (.node
 250 ⟨.struct [(0,12),(1,12),(2,195),(3,243),(4,5),(5,5),(6,244),(7,245),(8,246),(9,247),(10,248)],11,48,[.v (.int .u64 0),.v (.int .u64 0),.v (.int .u32
 0),.v (.int .u8 0),.v (.int .u8 0),.v (.int .u8 0),.v (.int .u8 0),.v .nilFunc,.v (.pointer none),.v (.int .i32 0),.v (.int .i32 0)]⟩ .leaf .leaf))))))
theorem XZ:(tab.all fun i ti=>RX Tryz.prog i ti)=true:=by kernel_rfl
theorem mixed:Tryz.prog.follows .mixedOrders=true:=by kernel_rfl
def mdt:BT (List Abs.Mode):=(.node 100 [.val] (.node 52 [.own 1,.val] (.node 27 [.val,.val] (.node 15 [.val,.val] (.node 9 [.val] (.node 5 [.val,.val,.val] (.node 4 [.val,.val,.val] (.node 3 [.val,
 .val,.val] .leaf .leaf) .leaf) (.node 8 [.val,.val] (.node 6 [.val,.val,.val] .leaf .leaf) .leaf)) (.node 12 [.val] (.node 11 [.val,.val,.val,.val] (.node 10 [.val,.val,
 .val,.val] .leaf .leaf) .leaf) (.node 14 [.val,.val] (.node 13 [.val] .leaf .leaf) .leaf))) (.node 21 [.val] (.node 18 [.val,.val] (.node 17 [.val,.val] (.node 16 [.val,.val]
 .leaf .leaf) .leaf) (.node 20 [.val] (.node 19 [.val] .leaf .leaf) .leaf)) (.node 24 [.val,.val] (.node 23 [.own 1,.val] (.node 22 [.own 1,.val] .leaf .leaf) .leaf) (.node 26
 [.val,.val] (.node 25 [.val] .leaf .leaf) .leaf)))) (.node 40 [.val,.val] (.node 34 [.val] (.node 31 [.val] (.node 30 [.val,.val] (.node 28 [.val] .leaf .leaf) .leaf) (.node 33
 [.val,.val,.val] (.node 32 [.val] .leaf .leaf) .leaf)) (.node 37 [.val] (.node 36 [.val,.val] (.node 35 [.val] .leaf .leaf) .leaf) (.node 39 [.val,.val] (.node 38 [.val,.val]
 .leaf .leaf) .leaf))) (.node 46 [.val,.val] (.node 43 [.val,.val] (.node 42 [.val,.val,.val] (.node 41 [.val,.val] .leaf .leaf) .leaf) (.node 45 [.val,.val,.val] (.node 44
 [.val] .leaf .leaf) .leaf)) (.node 49 [.val,.val] (.node 48 [.val,.val,.val] (.node 47 [.val] .leaf .leaf) .leaf) (.node 51 [.own 1,.val] (.node 50 [.own 1,.val] .leaf .leaf)
 .leaf))))) (.node 76 [.val] (.node 64 [.val,.val] (.node 58 [.val,.val] (.node 55 [.own 1,.val] (.node 54 [.own 1,.val] (.node 53 [.own 1,.val] .leaf .leaf) .leaf) (.node 57
 [.val] (.node 56 [.val,.val] .leaf .leaf) .leaf)) (.node 61 [.val,.val] (.node 60 [.val,.val] (.node 59 [.val] .leaf .leaf) .leaf) (.node 63 [.val] (.node 62 [.val] .leaf .leaf)
 .leaf))) (.node 70 [.val] (.node 67 [.val,.val,.val] (.node 66 [.val,.val] (.node 65 [.val,.val,.val,.val,.val] .leaf .leaf) .leaf) (.node 69 [.val,.val] (.node 68 [.val]
 .leaf .leaf) .leaf)) (.node 73 [.val,.val] (.node 72 [.val,.val,.val,.val,.val] (.node 71 [.val,.val,.val] .leaf .leaf) .leaf) (.node 75 [.val,.val,.val] (.node 74 [.val,
 .val] .leaf .leaf) .leaf)))) (.node 88 [.val,.val,.val] (.node 82 [.val] (.node 79 [.val,.val] (.node 78 [.val] (.node 77 [.val,.val] .leaf .leaf) .leaf) (.node 81 [.val,.val]
 (.node 80 [.val] .leaf .leaf) .leaf)) (.node 85 [.val,.val,.val,.val] (.node 84 [.val,.val] (.node 83 [.val,.val] .leaf .leaf) .leaf) (.node 87 [.val,.val] (.node 86 [.val,
 .val] .leaf .leaf) .leaf))) (.node 94 [.val,.val] (.node 91 [.val,.val] (.node 90 [.val] (.node 89 [.val,.val] .leaf .leaf) .leaf) (.node 93 [.val,.val] (.node 92 [.own 1,
 .val] .leaf .leaf) .leaf)) (.node 97 [.val,.val] (.node 96 [.val,.val] (.node 95 [.val,.val] .leaf .leaf) .leaf) (.node 99 [.val,.val] (.node 98 [.val] .leaf .leaf) .leaf))))))
 (.node 151 [.val] (.node 127 [.val,.val] (.node 115 [.val,.val] (.node 109 [.val,.val,.val] (.node 103 [.val] (.node 102 [.val,.val] (.node 101 [.val,.val] .leaf .leaf)
 .leaf) (.node 108 [.val] (.node 107 [.val] .leaf .leaf) .leaf)) (.node 112 [.val,.val] (.node 111 [.val,.val] (.node 110 [.val,.val] .leaf .leaf) .leaf) (.node 114 [.val,.val,
 .val] (.node 113 [.val] .leaf .leaf) .leaf))) (.node 121 [.val] (.node 118 [.val] (.node 117 [.own 1,.val] (.node 116 [.val] .leaf .leaf) .leaf) (.node 120 [.val] (.node 119
 [.val] .leaf .leaf) .leaf)) (.node 124 [.val] (.node 123 [.val] (.node 122 [.val] .leaf .leaf) .leaf) (.node 126 [.own 1,.val] (.node 125 [.val] .leaf .leaf) .leaf)))) (.node 139
 [.val] (.node 133 [.val] (.node 130 [.val,.val] (.node 129 [.val,.val] (.node 128 [.val,.val] .leaf .leaf) .leaf) (.node 132 [.val,.val] (.node 131 [.val,.val] .leaf .leaf)
 .leaf)) (.node 136 [.val,.val] (.node 135 [.val,.val] (.node 134 [.val,.val] .leaf .leaf) .leaf) (.node 138 [.val,.val] (.node 137 [.val,.val] .leaf .leaf) .leaf))) (.node 145
 [.val,.val] (.node 142 [.val] (.node 141 [.val] (.node 140 [.val] .leaf .leaf) .leaf) (.node 144 [.val,.val] (.node 143 [.val,.val,.val] .leaf .leaf) .leaf)) (.node 148 [.sh 4]
 (.node 147 [.sh 4] (.node 146 [.sh 4] .leaf .leaf) .leaf) (.node 150 [.own 1,.val] (.node 149 [.own 1,.val] .leaf .leaf) .leaf))))) (.node 175 [.sh 4] (.node 163 [.val] (.node
 157 [.val,.val] (.node 154 [.eP,.val] (.node 153 [.val,.val] (.node 152 [.val,.val] .leaf .leaf) .leaf) (.node 156 [.eP,.val] (.node 155 [.eP,.val,.val] .leaf .leaf)
 .leaf)) (.node 160 [.val] (.node 159 [.val] (.node 158 [.val,.val] .leaf .leaf) .leaf) (.node 162 [.val,.val] (.node 161 [.val] .leaf .leaf) .leaf))) (.node 169 [.val] (.node 166
 [.sh 4] (.node 165 [.sh 4] (.node 164 [.sh 4] .leaf .leaf) .leaf) (.node 168 [.sh 4] (.node 167 [.sh 4] .leaf .leaf) .leaf)) (.node 172 [.val] (.node 171 [.val,.val] (.node 170
 [.val] .leaf .leaf) .leaf) (.node 174 [.val,.val] (.node 173 [.val] .leaf .leaf) .leaf)))) (.node 187 [.val] (.node 181 [.val] (.node 178 [.val,.val] (.node 177 [.val] (.node 176
 [.val,.val] .leaf .leaf) .leaf) (.node 180 [.val] (.node 179 [.sh 4] .leaf .leaf) .leaf)) (.node 184 [.val] (.node 183 [.val] (.node 182 [.val] .leaf .leaf) .leaf) (.node 186
 [.val] (.node 185 [.val] .leaf .leaf) .leaf))) (.node 193 [.val] (.node 190 [.val] (.node 189 [.val] (.node 188 [.val] .leaf .leaf) .leaf) (.node 192 [.val] (.node 191 [.val] .leaf
 .leaf) .leaf)) (.node 196 [.val] (.node 195 [.val] (.node 194 [.val] .leaf .leaf) .leaf) (.node 197 [.val] .leaf .leaf)))))))
def CC:dP:=⟨tab.find,XX mdt,fun t=>false⟩
theorem aD:bt Tryz.prog CC:=Tm XZ
end Go.Proofs.YtekefilngojelaaGreat
end
section
namespace Go.Abs
theorem qL.Km {P:Program} {C:dP} {n0:Nat} {st:St} (hC:bt P C) (ek:P.follows .mixedOrders=true) {c:Code} {Q:bC->St->Prop} (I:Nat->St->Prop) {n:Nat} {s0:St} (hl:st.Le s0) (hb:s0.a9=true) (hk:n0<=s0.heap.length) (h0:I n s0)
  (round:∀n s,I n s->eV P C n0 c s fun e s=>match e with
   | .normal=>∃ρ s',s.Ck n0 ρ s'/\s'.a9=true/\n0<=s'.heap.length/\∃m,m<n/\I m s'
   | .exit id=>Q (.exit id) s
   | .ret=>Q .ret s):qL P n0 c st Q:=by
 refine dy.weaken hl hb hk (dy.loop I (fun n s hI=>dy.MG ((eV.run hC ek c s _ (round n s hI)).mono fun e s1 h1=>?_)) h0);cases e with
 | normal=>
  obtain⟨ρ,s',h2,h3,h4,m,h5,h6⟩:=h1;exact .inr ⟨ρ,s',h2,h3,h4,m,h5,h6⟩
 | exit id=>exact .inl h1
 | ret=>exact .inl h1
theorem sw {s s':St} {n0 n k:Nat} {I:Nat->St->Prop} (m:List (Nat×Nat)) (h1:bV (aT m) s.tmps s'.tmps) (h2:bW (aT m) s.heap 0 s'.heap) (h3:(bf (aT m) 0 s'.heap).Nodup) (h4:∀p∈m,n0<=p.1)
  (h5:s'.a9=true) (h6:n0<=s'.heap.length) (hm:k<n) (hI:I k s'):∃ρ s',s.Ck n0 ρ s'/\s'.a9=true/\n0<=s'.heap.length/\∃m,m<n/\I m s':=⟨_,s',Fc m h1 h2 h3 h4,h5,h6,k,hm,hI⟩
section
variable {P:Program} {C:dP} {n0:Nat} {zD:IntKind->Int->Int} {zE:Int->Int->Int} {zG:Int->Int->Int} {zH:Int->Int->Int} {zI:Int->Int->Int} {zJ:Int->Int->Int} {zK:IntKind->Int->Int->Int} {zL:IntKind->Int->Int->Int} {zM:IntKind->Int->Int->Int} {zN:IntKind->Int->Int->Int} {zO:IntKind->Int->Int->Int} {zR:IntKind->Int->Int->Int} {zS:Int->Int->Bool} {zT:Int->Int->Bool} {zU:Int->Int->Bool} {zV:Int->Int->Bool} {zX:Bool->Bool} {zY:Bool->Bool->Bool} {zZ:Bool->Bool->Bool} {zg:Int->Int->Int} {zh:Int->Int->Int} {zj:Int->Nat} {zu:Int->Nat->Bool} {zy:Nat->Int} {zz:Nat->Int->Nat} {aK:Nat->Nat->Bool} {ah:Nat->Nat->Nat} {aI:Int->Int->Nat} {aH:Int->Int->Nat->Bool} {ak:Nat->Nat->Nat->Bool} {aq:Int->Int->Nat->Bool} {ae:Rows->Nat} {aE:Rows->Nat->Option (List Tree)} {aB:Rows->Nat->List Tree->Rows} {aG:IntKind->Rows->Nat->Bool} {ao:Rows->Nat->Int} {az:IntKind->Rows->Nat->Int->Rows} {aJ:Nat->Nat->Rows->Bool} {an:Rows->Nat->Nat->Rows} {aO:Rows->Nat->Rows->Rows} {au:Rows->Nat->Rows->Rows} {aP:Nat->List Tree->Rows} {ai:Nat->Rows->Bool} {aM:List Bool->Bool} {aN:List (Value×Tree)->Value->Bool} {ay:List (Value×Tree)->Value->Bool} {aw:List (Value×Tree)->Value->Tree->List (Value×Tree)} {aL:Rows->Option ByteArray} {ar:List (Value×Tree)->Value->Option (Option Tree)} {zW:IntKind->List Int->Rows} {bc:(α:Type)->(Unit->α)->α} {A:FuncId->Ask->pc->Prop} {L:Code->St->(bC->ST->Prop)->Prop}
theorem PD (hC:bt P C) (ek:P.follows .mixedOrders=true) (hS:Std P n0 zD zE zG zH zI zJ zK zL zM zN zO zR zS zT zU zV zX zY zZ zg zh zj zu zy zz aK ah aI aH ak aq ae aE aB aG ao az aJ an aO au aP ai aM aN ay aw aL ar zW bc A L) {c:Code} {st:St} {Q:bC->ST->Prop} (I:Nat->St->Prop) {n:Nat} {s0:St} (hl:st.Le s0) (hb:s0.a9=true) (hk:n0<=s0.heap.length) (h0:I n s0)
  (round:∀n s,I n s->dz (ZI.mk zD zE zG zH zI zJ zK zL zM zN zO zR zS zT zU zV zX zY zZ zg zh zj zu zy zz aK ah aI aH ak aq ae aE aB aG ao az aJ an aO au aP ai aM aN ay aw aL ar) C A L c (ST.kv s) fun e s=>match e with
   | .normal=>match s.fe with
    | ⟨t,h⟩=>∃ρ s',(St.mk t h).Ck n0 ρ s'/\s'.a9=true/\n0<=s'.heap.length/\∃m,m<n/\I m s'
   | .exit id=>Q (.exit id) s
   | .ret=>Q .ret s):L c st Q:=by
 rw[hS.z,hS.a,hS.l]at round;rw[hS.l];refine fun hT=>qL.Km hC ek I hl hb hk h0 fun n s hI=>?_
 have:=fw c _ (ST.kx s) hT (round n s hI);rw[ST.gK]at this;refine N2 c s this fun e s1 h1=>?_
 obtain⟨s',ho,rfl,h2⟩:=h1;cases e with
 | normal=>exact h2
 | exit id=>exact⟨s',ho,rfl,h2⟩
 | ret=>exact⟨s',ho,rfl,h2⟩
end
def nr (Z:ZI) (C:dP) (A:FuncId->Ask->pc->Prop) (L:Code->St->(bC->ST->Prop)->Prop) (c:Code) (Q:bC->ST->Prop):Nat->ST->Prop
 | 0,_=>False
 | n+1,st=>dz Z C A L c st fun e s=>match e with
  | .normal=>nr Z C A L c Q n (ST.kv s.fe)
  | .exit id=>Q (.exit id) s
  | .ret=>Q .ret s
section
variable {P:Program} {C:dP} {n0:Nat} {zD:IntKind->Int->Int} {zE:Int->Int->Int} {zG:Int->Int->Int} {zH:Int->Int->Int} {zI:Int->Int->Int} {zJ:Int->Int->Int} {zK:IntKind->Int->Int->Int} {zL:IntKind->Int->Int->Int} {zM:IntKind->Int->Int->Int} {zN:IntKind->Int->Int->Int} {zO:IntKind->Int->Int->Int} {zR:IntKind->Int->Int->Int} {zS:Int->Int->Bool} {zT:Int->Int->Bool} {zU:Int->Int->Bool} {zV:Int->Int->Bool} {zX:Bool->Bool} {zY:Bool->Bool->Bool} {zZ:Bool->Bool->Bool} {zg:Int->Int->Int} {zh:Int->Int->Int} {zj:Int->Nat} {zu:Int->Nat->Bool} {zy:Nat->Int} {zz:Nat->Int->Nat} {aK:Nat->Nat->Bool} {ah:Nat->Nat->Nat} {aI:Int->Int->Nat} {aH:Int->Int->Nat->Bool} {ak:Nat->Nat->Nat->Bool} {aq:Int->Int->Nat->Bool} {ae:Rows->Nat} {aE:Rows->Nat->Option (List Tree)} {aB:Rows->Nat->List Tree->Rows} {aG:IntKind->Rows->Nat->Bool} {ao:Rows->Nat->Int} {az:IntKind->Rows->Nat->Int->Rows} {aJ:Nat->Nat->Rows->Bool} {an:Rows->Nat->Nat->Rows} {aO:Rows->Nat->Rows->Rows} {au:Rows->Nat->Rows->Rows} {aP:Nat->List Tree->Rows} {ai:Nat->Rows->Bool} {aM:List Bool->Bool} {aN:List (Value×Tree)->Value->Bool} {ay:List (Value×Tree)->Value->Bool} {aw:List (Value×Tree)->Value->Tree->List (Value×Tree)} {aL:Rows->Option ByteArray} {ar:List (Value×Tree)->Value->Option (Option Tree)} {zW:IntKind->List Int->Rows} {bc:(α:Type)->(Unit->α)->α} {A:FuncId->Ask->pc->Prop} {L:Code->St->(bC->ST->Prop)->Prop}
theorem ba (hC:bt P C) (ek:P.follows .mixedOrders=true) (hS:Std P n0 zD zE zG zH zI zJ zK zL zM zN zO zR zS zT zU zV zX zY zZ zg zh zj zu zy zz aK ah aI aH ak aq ae aE aB aG ao az aJ an aO au aP ai aM aN ay aw aL ar zW bc A L) {c:Code} {st:St} {Q:bC->ST->Prop} (n:Nat)
  (h:nr (ZI.mk zD zE zG zH zI zJ zK zL zM zN zO zR zS zT zU zV zX zY zZ zg zh zj zu zy zz aK ah aI aH ak aq ae aE aB aG ao az aJ an aO au aP ai aM aN ay aw aL ar) C A L c Q n (ST.kv st)):L c st Q:=by
 rw[hS.z,hS.a,hS.l]at h;rw[hS.l];refine fun hT=>dy.loop (fun n s=>nr ZI.b9 C (jV P) (Dj P n0) c Q n (ST.kv s)) (fun n s hI=>?_) h
 cases n with
 | zero=>exact hI.elim
 | succ n=>
  have:=fw c _ (ST.kx s) hT hI;rw[ST.gK]at this;refine(eV.run hC ek c s _ this).mono fun e s1 h1=>?_
  obtain⟨s',ho,rfl,h2⟩:=h1;cases e with
  | normal=>exact⟨n,Nat.lt_succ_self n,h2⟩
  | exit id=>exact⟨s',ho,rfl,h2⟩
  | ret=>exact⟨s',ho,rfl,h2⟩
end
def eZ (z:Int->Int->Int) (a b:Int):Int:=match a,b with
 | .ofNat n,.ofNat m=>.ofNat (n+m)
 | a,b=>z a b
def jk (z:Int->Int->Int) (a b:Int):Int:=match a,b with
 | .ofNat n,.ofNat m=>(match Nat.ble m n with|true=>.ofNat (n-m)|false=>.negSucc (m-n-1))
 | a,b=>z a b
def aZ (z:IntKind->Int->Int) (k:IntKind) (a:Int):Int:=match k,a with
 | .i64,.ofNat n=>(match Nat.blt n 1000000 with|true=>.ofNat n|false=>z .i64 (.ofNat n))
 | .i64,.negSucc n=>(match Nat.blt n 1000000 with|true=>.negSucc n|false=>z .i64 (.negSucc n))
 | .u64,.ofNat n=>(match Nat.blt n 1000000 with|true=>.ofNat n|false=>z .u64 (.ofNat n))
 | .u8,.ofNat n=>(match Nat.blt n 256 with|true=>.ofNat n|false=>z .u8 (.ofNat n))
 | k,a=>z k a
def nM (z:Int->Int->Int) (a b:Int):Int:=match a,b with
 | .ofNat n,.ofNat m=>.ofNat (n*m)
 | a,b=>z a b
def pk (z:Int->Int->Bool) (a b:Int):Bool:=match a,b with
 | .ofNat n,.ofNat m=>Nat.blt n m
 | .negSucc n,.ofNat m=>true
 | a,b=>z a b
def GJ (z:Int->Int->Bool) (a b:Int):Bool:=match a,b with
 | .ofNat n,.ofNat m=>Nat.ble n m
 | .negSucc n,.ofNat m=>true
 | a,b=>z a b
def Bd (z:Int->Int->Bool) (a b:Int):Bool:=match a,b with
 | .ofNat n,.ofNat m=>Nat.beq n m
 | .negSucc n,.ofNat m=>false
 | a,b=>z a b
def GK (z:Int->Int->Bool) (a b:Int):Bool:=match a,b with
 | .ofNat n,.ofNat m=>!(Nat.beq n m)
 | .negSucc n,.ofNat m=>true
 | a,b=>z a b
def qM (z:Int->Nat) (a:Int):Nat:=match a with
 | .ofNat n=>n
 | a=>z a
def qN (z:Int->Nat->Bool) (a:Int) (b:Nat):Bool:=match a,b with
 | .ofNat n,m+1=>Nat.ble n m
 | a,b=>z a b
def qO (z:Nat->Int->Nat) (a:Nat) (b:Int):Nat:=match b with
 | .ofNat n=>a+n
 | b=>z a b
def qP (z:Bool->Bool) (a:Bool):Bool:=match a with
 | true=>false
 | false=>true
section
variable {P:Program} {C:dP} {n0:Nat} {zD:IntKind->Int->Int} {zE:Int->Int->Int} {zG:Int->Int->Int} {zH:Int->Int->Int} {zI:Int->Int->Int} {zJ:Int->Int->Int} {zK:IntKind->Int->Int->Int} {zL:IntKind->Int->Int->Int} {zM:IntKind->Int->Int->Int} {zN:IntKind->Int->Int->Int} {zO:IntKind->Int->Int->Int} {zR:IntKind->Int->Int->Int} {zS:Int->Int->Bool} {zT:Int->Int->Bool} {zU:Int->Int->Bool} {zV:Int->Int->Bool} {zX:Bool->Bool} {zY:Bool->Bool->Bool} {zZ:Bool->Bool->Bool} {zg:Int->Int->Int} {zh:Int->Int->Int} {zj:Int->Nat} {zu:Int->Nat->Bool} {zy:Nat->Int} {zz:Nat->Int->Nat} {aK:Nat->Nat->Bool} {ah:Nat->Nat->Nat} {aI:Int->Int->Nat} {aH:Int->Int->Nat->Bool} {ak:Nat->Nat->Nat->Bool} {aq:Int->Int->Nat->Bool} {ae:Rows->Nat} {aE:Rows->Nat->Option (List Tree)} {aB:Rows->Nat->List Tree->Rows} {aG:IntKind->Rows->Nat->Bool} {ao:Rows->Nat->Int} {az:IntKind->Rows->Nat->Int->Rows} {aJ:Nat->Nat->Rows->Bool} {an:Rows->Nat->Nat->Rows} {aO:Rows->Nat->Rows->Rows} {au:Rows->Nat->Rows->Rows} {aP:Nat->List Tree->Rows} {ai:Nat->Rows->Bool} {aM:List Bool->Bool} {aN:List (Value×Tree)->Value->Bool} {ay:List (Value×Tree)->Value->Bool} {aw:List (Value×Tree)->Value->Tree->List (Value×Tree)} {aL:Rows->Option ByteArray} {ar:List (Value×Tree)->Value->Option (Option Tree)} {zW:IntKind->List Int->Rows} {bc:(α:Type)->(Unit->α)->α} {A:FuncId->Ask->pc->Prop} {L:Code->St->(bC->ST->Prop)->Prop}
theorem Std.lit (h:Std P n0 zD zE zG zH zI zJ zK zL zM zN zO zR zS zT zU zV zX zY zZ zg zh zj zu zy zz aK ah aI aH ak aq ae aE aB aG ao az aJ an aO au aP ai aM aN ay aw aL ar zW bc A L):∃zo zm za zs zw zl zk ze zn zt zi zx,zX=qP zo/\zH=nM zm/\zE=eZ za/\zG=jk zs/\zD=aZ zw/\zU=pk zl/\zV=GJ zk/\zS=Bd ze/\zT=GK zn/\zj=qM zt/\zu=qN zi/\zz=qO zx:=by
 refine⟨zX,zH,zE,zG,zD,zU,zV,zS,zT,zj,zu,zz,?_,?_,?_,?_,?_,?_,?_,?_,?_,?_,?_,?_⟩
 ·funext a
  unfold qP;split<;>rw[h.not]<;>rfl
 ·funext a b
  unfold nM;split
  ·rw[h.mul];rfl
  ·rfl
 ·funext a b
  unfold eZ;split
  ·rw[h.add];rfl
  ·rfl
 ·funext a b
  unfold jk;split
  ·rename_i n m
   rw[h.sub];split
   ·rename_i e
    have e:m<=n:=by simpa using e
    show(n:Int)-m=((n-m:Nat):Int)
    omega
   ·rename_i e
    have e:¬m<=n:=fun hh=>by rw[Nat.ble_eq_true_of_le hh]at e;cases e
    show(n:Int)-m=Int.negSucc (m-n-1)
    omega
  ·rfl
 ·funext k a
  unfold aZ;split
  ·rename_i n
   split
   ·rename_i hn
    have:n<1000000:=Nat.le_of_ble_eq_true hn;rw[h.wrap];exact wrap_i64 (by show -9223372036854775808<=(n:Int);omega) (by show(n:Int)<9223372036854775808;omega)
   ·rfl
  ·rename_i n
   split
   ·rename_i hn
    have:n<1000000:=Nat.le_of_ble_eq_true hn;rw[h.wrap];exact wrap_i64 (by omega) (by omega)
   ·rfl
  ·rename_i n
   split
   ·rename_i hn
    have:n<1000000:=Nat.le_of_ble_eq_true hn;rw[h.wrap];exact fg (by show 0<=(n:Int);omega) (by show(n:Int)<2^64;omega)
   ·rfl
  ·rename_i n
   split
   ·rename_i hn
    have:n<256:=Nat.le_of_ble_eq_true hn;rw[h.wrap];exact wrap_u8 (by show 0<=(n:Int);omega) (by show(n:Int)<256;omega)
   ·rfl
  ·rfl
 ·funext a b
  unfold pk;split
  ·rename_i n m
   rw[h.lt];show decide ((n:Int)<(m:Int))=Nat.blt n m
   rw[Bool.eq_iff_iff];simp
  ·rename_i n m
   rw[h.lt];exact decide_eq_true (show Int.negSucc n<(m:Int) by omega)
  ·rfl
 ·funext a b
  unfold GJ;split
  ·rename_i n m
   rw[h.le];show decide ((n:Int)<=(m:Int))=Nat.ble n m
   rw[Bool.eq_iff_iff];simp
  ·rename_i n m
   rw[h.le];exact decide_eq_true (show Int.negSucc n<=(m:Int) by omega)
  ·rfl
 ·funext a b
  unfold Bd;split
  ·rename_i n m
   rw[h.eq];show decide ((n:Int)=(m:Int))=Nat.beq n m
   rw[Bool.eq_iff_iff];simp;omega
  ·rename_i n m
   rw[h.eq];exact decide_eq_false (show ¬Int.negSucc n=(m:Int) by omega)
  ·rfl
 ·funext a b
  unfold GK;split
  ·rename_i n m
   rw[h.ne];show decide (¬(n:Int)=(m:Int))=!(Nat.beq n m)
   by_cases e:n=m
   ·subst e;simp
   ·rw[decide_eq_true (show ¬(n:Int)=m by omega),show Nat.beq n m=false from by rw[Bool.eq_false_iff];simpa using e];rfl
  ·rename_i n m
   rw[h.ne];exact decide_eq_true (show ¬Int.negSucc n=(m:Int) by omega)
  ·rfl
 ·funext a
  unfold qM;split
  ·rw[h.nat];rfl
  ·rfl
 ·funext a b
  unfold qN;split
  ·rename_i n m
   rw[h.xo];show decide (0<=(n:Int)/\(n:Int)<((m+1:Nat):Int))=Nat.ble n m
   exact Bool.eq_iff_iff.2 ⟨fun e=>Nat.ble_eq_true_of_le (by have:=of_decide_eq_true e;omega),fun e=>decide_eq_true (by have:=Nat.le_of_ble_eq_true e;omega)⟩
  ·rfl
 ·funext a b
  unfold qO;split
  ·rw[h.idx];rfl
  ·rfl
end
open Go
section
variable {P:Program} {C:dP}
def HK (C:dP) (st:ST) (I8:List ResultVar) (G:List AV->bM->Prop):Prop:=
 match I8.mapM (pg C st) with
 | none=>False
 | some bJ=>G bJ st.heap
theorem sA (hC:bt P C) (ek:P.follows .mixedOrders=true) {f:FuncId} {fn:Func} {c:Code} {s s':St} (iN:P.funcs[f]?=some fn) (ez:(fn.name == "runtime.NumGoroutine")=false) (dn:fn.body=some c) (hT:iC c=true) (hr:s'.a9=true) (hl:s.heap.length<=s'.heap.length)
  (h:∀(zD:IntKind->Int->Int) (zE:Int->Int->Int) (zG:Int->Int->Int) (zH:Int->Int->Int) (zI:Int->Int->Int) (zJ:Int->Int->Int) (zK:IntKind->Int->Int->Int) (zL:IntKind->Int->Int->Int) (zM:IntKind->Int->Int->Int) (zN:IntKind->Int->Int->Int) (zO:IntKind->Int->Int->Int) (zR:IntKind->Int->Int->Int) (zS:Int->Int->Bool) (zT:Int->Int->Bool) (zU:Int->Int->Bool) (zV:Int->Int->Bool) (zX:Bool->Bool) (zY:Bool->Bool->Bool) (zZ:Bool->Bool->Bool) (zg:Int->Int->Int) (zh:Int->Int->Int) (zj:Int->Nat) (zu:Int->Nat->Bool) (zy:Nat->Int) (zz:Nat->Int->Nat) (aK:Nat->Nat->Bool) (ah:Nat->Nat->Nat) (aI:Int->Int->Nat) (aH:Int->Int->Nat->Bool) (ak:Nat->Nat->Nat->Bool) (aq:Int->Int->Nat->Bool) (ae:Rows->Nat) (aE:Rows->Nat->Option (List Tree)) (aB:Rows->Nat->List Tree->Rows) (aG:IntKind->Rows->Nat->Bool) (ao:Rows->Nat->Int) (az:IntKind->Rows->Nat->Int->Rows) (aJ:Nat->Nat->Rows->Bool) (an:Rows->Nat->Nat->Rows) (aO:Rows->Nat->Rows->Rows) (au:Rows->Nat->Rows->Rows) (aP:Nat->List Tree->Rows) (ai:Nat->Rows->Bool) (aM:List Bool->Bool) (aN:List (Value×Tree)->Value->Bool) (ay:List (Value×Tree)->Value->Bool) (aw:List (Value×Tree)->Value->Tree->List (Value×Tree)) (aL:Rows->Option ByteArray) (ar:List (Value×Tree)->Value->Option (Option Tree)) (zW:IntKind->List Int->Rows) (bc:(α:Type)->(Unit->α)->α) A L (G:List AV->bM->Prop),Std P s.heap.length zD zE zG zH zI zJ zK zL zM zN zO zR zS zT zU zV zX zY zZ zg zh zj zu zy zz aK ah aI aH ak aq ae aE aB aG ao az aJ an aO au aP ai aM aN ay aw aL ar zW bc A L->(∀bJ hp ρ,(St.mk bJ hp).Ck s.heap.length ρ s'->G bJ hp)->dz (ZI.mk zD zE zG zH zI zJ zK zL zM zN zO zR zS zT zU zV zX zY zZ zg zh zj zu zy zz aK ah aI aH ak aq ae aE aB aG ao az aJ an aO au aP ai aM aN ay aw aL ar) C A L c (ST.kv ⟨s.tmps++List.replicate (fn.ntmps-s.tmps.length) .aj,s.heap⟩) fun e st=>match e with
   | .exit _=>False
   | .normal=>HK C st fn.results.toList G
   | .ret=>HK C st fn.results.toList G):ep P f s s':=by
 have key:=h (fun(a:IntKind) (b:Int)=>a.wrap b) (fun(a:Int) (b:Int)=>a+b) (fun(a:Int) (b:Int)=>a-b) (fun(a:Int) (b:Int)=>a*b) (fun(a:Int) (b:Int)=>a.tdiv b) (fun(a:Int) (b:Int)=>a.tmod b) (fun(a:IntKind) (b:Int) (c:Int)=>a.wrap (b*2^(Min.min c.toNat a.bits))) (fun(a:IntKind) (b:Int) (c:Int)=>b.fdiv (2^(Min.min c.toNat a.bits))) (fun(a:IntKind) (b:Int) (c:Int)=>a.wrap ((BitVec.ofInt a.bits b &&& BitVec.ofInt a.bits c).toNat)) (fun(a:IntKind) (b:Int) (c:Int)=>a.wrap ((BitVec.ofInt a.bits b ||| BitVec.ofInt a.bits c).toNat)) (fun(a:IntKind) (b:Int) (c:Int)=>a.wrap ((BitVec.ofInt a.bits b ^^^ BitVec.ofInt a.bits c).toNat)) (fun(a:IntKind) (b:Int) (c:Int)=>a.wrap ((BitVec.ofInt a.bits b &&& ~~~ BitVec.ofInt a.bits c).toNat)) (fun(a:Int) (b:Int)=>decide (a=b)) (fun(a:Int) (b:Int)=>decide (a≠b)) (fun(a:Int) (b:Int)=>decide (a<b)) (fun(a:Int) (b:Int)=>decide (a<=b)) (fun(a:Bool)=>!a) (fun(a:Bool) (b:Bool)=>(a==b)) (fun(a:Bool) (b:Bool)=>!(a==b)) (fun(a:Int) (b:Int)=>if b>a then b else a) (fun(a:Int) (b:Int)=>if b<a then b else a) (fun(a:Int)=>a.toNat) (fun(a:Int) (b:Nat)=>decide (0<=a/\a<b)) (fun(a:Nat)=>(a:Int)) (fun(a:Nat) (b:Int)=>a+b.toNat) (fun(a:Nat) (b:Nat)=>decide (a=b)) (fun(a:Nat) (b:Nat)=>a+b) (fun(a:Int) (b:Int)=>a.toNat-b.toNat) (fun(a:Int) (b:Int) (c:Nat)=>decide (0<=a/\a<=b/\b<=c)) (fun(a:Nat) (b:Nat) (c:Nat)=>decide ((a+b)*c<=aF)) (fun(a:Int) (b:Int) (c:Nat)=>decide (0<=a/\a<=b/\b*c<=aF)) (fun(a:Rows)=>a.length) (fun(a:Rows) (b:Nat)=>a[b]?) (fun(a:Rows) (b:Nat) (c:List Tree)=>a.set b c) (fun(a:IntKind) (b:Rows) (c:Nat)=>ZI.b9.gJ a b c) (fun(a:Rows) (b:Nat)=>ZI.b9.dL a b) (fun(a:IntKind) (b:Rows) (c:Nat) (d:Int)=>b.set c [.v (.int a d)]) (fun(a:Nat) (b:Nat) (c:Rows)=>decide (a+b<=c.length)) (fun(a:Rows) (b:Nat) (c:Nat)=>(a.drop b).take c) (fun(a:Rows) (b:Nat) (c:Rows)=>a.drop b++c) (fun(a:Rows) (b:Nat) (c:Rows)=>bG a b c) (fun(a:Nat) (b:List Tree)=>List.replicate a b) (fun(a:Nat) (b:Rows)=>b.all fun r=>r.length==a) (fun(a:List Bool)=>a.all id) (fun(a:List (Value×Tree)) (b:Value)=>ZI.b9.MI a b) (fun(a:List (Value×Tree)) (b:Value)=>ZI.b9.Dd a b) (fun(a:List (Value×Tree)) (b:Value) (c:Tree)=>(fq b c a).getD a) (fun(a:Rows)=>ZI.b9.str a) (fun(a:List (Value×Tree)) (b:Value)=>cJ b a) W (fun(α:Type) (f:Unit->α)=>f ()) (jV P) (Dj P s.heap.length) (fun bJ hp=>∃ρ,(St.mk bJ hp).Ck s.heap.length ρ s') ⟨fun _ _=>rfl,fun _ _=>rfl,fun _ _=>rfl,fun _ _=>rfl,fun _ _=>rfl,fun _ _=>rfl,fun _ _ _=>rfl,fun _ _ _=>rfl,fun _ _ _=>rfl,fun _ _ _=>rfl,fun _ _ _=>rfl,fun _ _ _=>rfl,fun _ _=>rfl,fun _ _=>rfl,fun _ _=>rfl,fun _ _=>rfl,fun _=>rfl,fun _ _=>rfl,fun _ _=>rfl,fun _ _=>rfl,fun _ _=>rfl,fun _=>rfl,fun _ _=>rfl,fun _=>rfl,fun _ _=>rfl,fun _ _=>rfl,fun _ _=>rfl,fun _ _=>rfl,fun _ _ _=>rfl,fun _ _ _=>rfl,fun _ _ _=>rfl,fun _=>rfl,fun _ _=>rfl,fun _ _ _=>rfl,fun _ _ _=>rfl,fun _ _=>rfl,fun _ _ _ _=>rfl,fun _ _ _=>rfl,fun _ _ _=>rfl,fun _ _ _=>rfl,fun _ _ _=>rfl,fun _ _=>rfl,fun _ _=>rfl,fun _=>rfl,fun _ _=>rfl,fun _ _=>rfl,fun _ _ _=>rfl,fun _=>rfl,fun _ _=>rfl,rfl,fun _ _=>rfl,rfl,rfl⟩ (fun bJ hp ρ h=>⟨ρ,h⟩)
 have k0:=fw c _ (ST.kx _) hT key;rw[ST.gK]at k0;have PC:=N2 c _ k0 (Q':=fun e s2=>(e=.normal∨e=.ret)/\∃bJ ρ,fn.results.toList.mapM (fF C s2)=some bJ/\(St.mk bJ s2.heap).Ck s.heap.length ρ s'/\s'.a9=true/\s.heap.length<=s'.heap.length) fun e s2 hs=>by
  obtain⟨st,h1,rfl,hs⟩:=hs;have fin:HK C st fn.results.toList (fun bJ hp=>∃ρ,(St.mk bJ hp).Ck s.heap.length ρ s')->∃bJ ρ,fn.results.toList.mapM (fF C st.fe)=some bJ/\(St.mk bJ st.fe.heap).Ck s.heap.length ρ s'/\s'.a9=true/\s.heap.length<=s'.heap.length:=fun hf=>by
   unfold HK at hf;rw[show pg C st=fF C st.fe from funext fun r=>vU h1 r]at hf;split at hf
   ·exact hf.elim
   ·rename_i bJ E8
    obtain⟨ρ,hρ⟩:=hf;exact⟨bJ,ρ,E8,by rw[ST.np];exact hρ,hr,hl⟩
  cases e with
  | normal=>exact⟨.inl rfl,fin hs⟩
  | exit id=>exact hs.elim
  | ret=>exact⟨.inr rfl,fin hs⟩
 exact ep.qA hC iN ez dn (eV.run hC ek c _ _ PC)
def Ko (heap:bM):AV->Option (AV×bM)
 | .c (.sl b off len cp)=>match look heap b with
  | some (.var cells)=>MH heap (.c (.sl b off len cp))
  | _=>match toTree (look heap) (.sl b off len cp) with
   | some (t,m)=>some (.c (.t t),dZ heap m)
   | none=>none
 | x=>some (x,heap)
def Dm:bM->List AV->Option (List AV×bM)
 | h,[]=>some ([],h)
 | h,x::xs=>match Ko h x with
  | some (y,h1)=>match Dm h1 xs with
   | some (ys,h2)=>some (y::ys,h2)
   | none=>none
  | none=>none
theorem HL {K:Ctx} {β:Nat->Option bS} {S:Place} {a:Act} {w:World} {tm:List AV} {heap ee:bM} (h:Sat K β S ⟨tm,heap⟩ a w) {x x':AV} {v:Value} (hx:aY β S w x v) (hf:Ko heap x=some (x',ee)) :
  ∃S',(∀c o,S c o->S' c o)/\Sat K β S' ⟨tm,ee⟩ a w/\aY β S' w x' v:=by
 unfold Ko at hf;split at hf
 ·split at hf
  ·exact C2 h hx hf
  ·split at hf
   ·rename_i t m ht
    cases hf;cases hx with|c hx=>
    obtain⟨S',e1,e2,e3,e4⟩:=oM (st:=⟨tm,heap⟩) h (dT.refl _) hx ht;exact⟨S',e1,e2,.c (.t e4)⟩
   ·cases hf
 ·cases hf;exact⟨S,fun _ _ hs=>hs,h,hx⟩
theorem yn {K:Ctx} {β:Nat->Option bS} {a:Act} {w:World} {tm:List AV}:∀(bJ:List AV) (vs:List Value) (heap ee:bM) (S:Place) (pb:List AV),Sat K β S ⟨tm,heap⟩ a w->vs.length=bJ.length->(∀(i:Nat) (x:AV),bJ[i]?=some x->∃v,vs[i]?=some v/\aY β S w x v)->Dm heap bJ=some (pb,ee) ->
  ∃S',(∀c o,S c o->S' c o)/\Sat K β S' ⟨tm,ee⟩ a w/\vs.length=pb.length/\∀(i:Nat) (x:AV),pb[i]?=some x->∃v,vs[i]?=some v/\aY β S' w x v
 | [],vs,heap,ee,S,pb,h,hl,hr,hf=>by
  simp[Dm]at hf;obtain⟨rfl,rfl⟩:=hf;exact⟨S,fun _ _ hs=>hs,h,hl,by simp⟩
 | x::xs,[],_,_,_,_,_,hl,_,_=>by simp at hl
 | x::xs,v::vs,heap,ee,S,pb,h,hl,hr,hf=>by
  unfold Dm at hf;split at hf
  ·rename_i y h1 hy
   split at hf
   ·rename_i ys h2 Xk
    cases hf;obtain⟨v',rK,hx⟩:=hr 0 x rfl;simp at rK;subst rK;obtain⟨S1,e1,e2,e3⟩:=HL h hx hy;obtain⟨S2,f1,f2,f3,f4⟩:=yn xs vs h1 ee S1 ys e2 (by simpa using hl) (fun i z hz=>by
     obtain⟨u,q1,q2⟩:=hr (i+1) z (by simpa using hz);exact⟨u,by simpa using q1,q2.mono (fun _ _ hx=>hx) e1 fun _ _ _=>rfl⟩) Xk
    refine⟨S2,fun c o hs=>f1 _ _ (e1 _ _ hs),f2,by simp[f3],fun i z hz=>?_⟩;cases i with
    | zero=>simp at hz;subst hz;exact⟨v,rfl,e3.mono (fun _ _ hx=>hx) f1 fun _ _ _=>rfl⟩
    | succ i=>simpa using f4 i z (by simpa using hz)
   ·cases hf
  ·cases hf
theorem ep.vH {f:FuncId} (hC:bt P C) {fn:Func} {c:Code} {s s':St} (iN:P.funcs[f]?=some fn) (ez:(fn.name == "runtime.NumGoroutine")=false) (dn:fn.body=some c)
  (cL:dy P s.heap.length c ⟨s.tmps++List.replicate (fn.ntmps-s.tmps.length) .aj,s.heap⟩ fun e s2=>(e=.normal∨e=.ret)/\∃MO bJ heap ρ,fn.results.toList.mapM (fF C s2)=some MO/\Dm s2.heap MO=some (bJ,heap)/\(St.mk bJ heap).Ck s.heap.length ρ s'/\s'.a9=true/\s.heap.length<=s'.heap.length):ep P f s s':=by
 refine⟨⟨fn,iN,by rw[dn];rfl,ez⟩,fun K β S a w hK hs=>?_⟩;refine calls_of_wp iN dn ?_;refine wp_mono (cL K hK β S _ w ?_) fun e a' w' ⟨x,s2,hx,⟨Ps,MO,bJ,heap,ρ,dW,Ep,hle,Pw,hlen⟩,β',S1,yf⟩=>?_
 ·refine⟨by simp[hs.len],rfl,fun t x ht=>?_,hs.top,hs.aR,hs.kX,hs.rH,hs.sin,hs.sub,hs.jh,hs.arg⟩
  simp only at ht;rw[List.getElem?_append]at ht;split at ht
  ·rename_i bH
   have:=hs.tmps t x ht;rw[Array.getD_eq_getD_getElem?]at this ⊢;rw[Array.getElem?_append,if_pos (by rw[hs.len];exact bH)];exact this
  ·rw[List.getElem?_replicate]at ht
   split at ht
   ·cases ht;exact .aj _
   ·cases ht
 ·obtain⟨vs,r1,r2',r3'⟩:=jr (P:=P) hC yf dW
  obtain⟨S2,q1,Dn,r2,r3⟩:=yn (tm:=s2.tmps) MO vs s2.heap heap S1 bJ yf r2' r3' Ep;have Xh:Sat K β' S2 ⟨bJ,heap⟩ { a with tmps:=vs.toArray } w':=by
   refine⟨by simp[r2],hs.defers,fun t x ht=>?_,Dn.top,Dn.aR,Dn.kX,Dn.rH,Dn.sin,Dn.sub,Dn.jh,Dn.arg⟩;obtain⟨v,e1,e2⟩:=r3 t x ht;have:({ a with tmps:=vs.toArray }:Act).tmps.getD t undef=v:=by simp[e1]
   rw[this];exact e2
  have Xi:=Xh.aX hle Pw hK hlen;have eQ:∃v,(results fn a'.tmps).run P w'=.ok v w'/\∃(us:List Value) (β':Nat->Option bS) (S':Place),Ending.returned v=.returned (if us.length=1 then us.getD 0 undef else .tuple us.toArray)/\us.length=s'.tmps.length/\Sat K β' S' s' { a with tmps:=us.toArray } w':=
   ⟨_,r1,vs,_,S2,rfl,by rw[r2,hle.len],Xi⟩
  cases e with
  | normal=>exact⟨yf.defers,eQ⟩
  | ret=>exact⟨yf.defers,eQ⟩
  | exit id=>cases hx;rcases Ps with h|h<;>cases h
  | goto=>cases hx
  | panic=>cases hx
  | outgrown=>cases hx
theorem vX {n0:Nat} {s':St} {G:List AV->bM->Prop} (hG:∀bJ hp ρ,(St.mk bJ hp).Ck n0 ρ s'->G bJ hp) {bJ:List AV} {hp:bM} (m:List (Nat×Nat)) (h1:bV (aT m) bJ s'.tmps) (h2:bW (aT m) hp 0 s'.heap) (h3:(bf (aT m) 0 s'.heap).Nodup) (h4:∀p∈m,n0<=p.1):G bJ hp:=
 hG _ _ _ (Fc m h1 h2 h3 h4)
end
section
variable {P:Program} {C:dP}
theorem bz (hC:bt P C) (ek:P.follows .mixedOrders=true) {f:FuncId} {fn:Func} {c:Code} {args:List Arg} {res:lJ} (om:List Mode) (iN:P.funcs[f]?=some fn) (ez:(fn.name == "runtime.NumGoroutine")=false) (dn:fn.body=some c) (hT:iC c=true)
  (h:∀(zD:IntKind->Int->Int) (zE:Int->Int->Int) (zG:Int->Int->Int) (zH:Int->Int->Int) (zI:Int->Int->Int) (zJ:Int->Int->Int) (zK:IntKind->Int->Int->Int) (zL:IntKind->Int->Int->Int) (zM:IntKind->Int->Int->Int) (zN:IntKind->Int->Int->Int) (zO:IntKind->Int->Int->Int) (zR:IntKind->Int->Int->Int) (zS:Int->Int->Bool) (zT:Int->Int->Bool) (zU:Int->Int->Bool) (zV:Int->Int->Bool) (zX:Bool->Bool) (zY:Bool->Bool->Bool) (zZ:Bool->Bool->Bool) (zg:Int->Int->Int) (zh:Int->Int->Int) (zj:Int->Nat) (zu:Int->Nat->Bool) (zy:Nat->Int) (zz:Nat->Int->Nat) (aK:Nat->Nat->Bool) (ah:Nat->Nat->Nat) (aI:Int->Int->Nat) (aH:Int->Int->Nat->Bool) (ak:Nat->Nat->Nat->Bool) (aq:Int->Int->Nat->Bool) (ae:Rows->Nat) (aE:Rows->Nat->Option (List Tree)) (aB:Rows->Nat->List Tree->Rows) (aG:IntKind->Rows->Nat->Bool) (ao:Rows->Nat->Int) (az:IntKind->Rows->Nat->Int->Rows) (aJ:Nat->Nat->Rows->Bool) (an:Rows->Nat->Nat->Rows) (aO:Rows->Nat->Rows->Rows) (au:Rows->Nat->Rows->Rows) (aP:Nat->List Tree->Rows) (ai:Nat->Rows->Bool) (aM:List Bool->Bool) (aN:List (Value×Tree)->Value->Bool) (ay:List (Value×Tree)->Value->Bool) (aw:List (Value×Tree)->Value->Tree->List (Value×Tree)) (aL:Rows->Option ByteArray) (ar:List (Value×Tree)->Value->Option (Option Tree)) (zW:IntKind->List Int->Rows) (bc:(α:Type)->(Unit->α)->α) A L (F:lJ->Prop),Std P args.length (aZ zD) (eZ zE) (jk zG) (nM zH) zI zJ zK zL zM zN zO zR (Bd zS) (GK zT) (pk zU) (GJ zV) (qP zX) zY zZ zg zh (qM zj) (qN zu) zy (qO zz) aK ah aI aH ak aq ae aE aB aG ao az aJ an aO au aP ai aM aN ay aw aL ar zW bc A L->(∀r,aS r res->F r)->dz (ZI.mk (aZ zD) (eZ zE) (jk zG) (nM zH) zI zJ zK zL zM zN zO zR (Bd zS) (GK zT) (pk zU) (GJ zV) (qP zX) zY zZ zg zh (qM zj) (qN zu) zy (qO zz) aK ah aI aH ak aq ae aE aB aG ao az aJ an aO au aP ai aM aN ay aw aL ar) C A L c (ST.kv (jZ (ZI.mk (aZ zD) (eZ zE) (jk zG) (nM zH) zI zJ zK zL zM zN zO zR (Bd zS) (GK zT) (pk zU) (GJ zV) (qP zX) zY zZ zg zh (qM zj) (qN zu) zy (qO zz) aK ah aI aH ak aq ae aE aB aG ao az aJ an aO au aP ai aM aN ay aw aL ar) args fn.ntmps)) fun e s=>match e with
   | .exit _=>False
   | .normal=>xr (ZI.mk (aZ zD) (eZ zE) (jk zG) (nM zH) zI zJ zK zL zM zN zO zR (Bd zS) (GK zT) (pk zU) (GJ zV) (qP zX) zY zZ zg zh (qM zj) (qN zu) zy (qO zz) aK ah aI aH ak aq ae aE aB aG ao az aJ an aO au aP ai aM aN ay aw aL ar) C s args fn.results.toList om F
   | .ret=>xr (ZI.mk (aZ zD) (eZ zE) (jk zG) (nM zH) zI zJ zK zL zM zN zO zR (Bd zS) (GK zT) (pk zU) (GJ zV) (qP zX) zY zZ zg zh (qM zj) (qN zu) zy (qO zz) aK ah aI aH ak aq ae aE aB aG ao az aJ an aO au aP ai aM aN ay aw aL ar) C s args fn.results.toList om F):aA P f args res:=by
 refine aV hC ek om iN ez dn hT fun zD zE zG zH zI zJ zK zL zM zN zO zR zS zT zU zV zX zY zZ zg zh zj zu zy zz aK ah aI aH ak aq ae aE aB aG ao az aJ an aO au aP ai aM aN ay aw aL ar zW bc A L F hS hF=>?_
 obtain⟨zo,zm,za,zs,zw,zl,zk,ze,zn,zt,zi,zx,rfl,rfl,rfl,rfl,rfl,rfl,rfl,rfl,rfl,rfl,rfl,rfl⟩:=hS.lit;exact h _ _ _ _ _ _ _ _ _ _ _ _ _ _ _ _ _ _ _ _ _ _ _ _ _ _ _ _ _ _ _ _ _ _ _ _ _ _ _ _ _ _ _ _ _ _ _ _ _ _ _ _ _ _ hS hF
theorem sB (hC:bt P C) (ek:P.follows .mixedOrders=true) {f:FuncId} {fn:Func} {c:Code} {s s':St} (iN:P.funcs[f]?=some fn) (ez:(fn.name == "runtime.NumGoroutine")=false) (dn:fn.body=some c) (hT:iC c=true) (hr:s'.a9=true) (hl:s.heap.length<=s'.heap.length)
  (h:∀(zD:IntKind->Int->Int) (zE:Int->Int->Int) (zG:Int->Int->Int) (zH:Int->Int->Int) (zI:Int->Int->Int) (zJ:Int->Int->Int) (zK:IntKind->Int->Int->Int) (zL:IntKind->Int->Int->Int) (zM:IntKind->Int->Int->Int) (zN:IntKind->Int->Int->Int) (zO:IntKind->Int->Int->Int) (zR:IntKind->Int->Int->Int) (zS:Int->Int->Bool) (zT:Int->Int->Bool) (zU:Int->Int->Bool) (zV:Int->Int->Bool) (zX:Bool->Bool) (zY:Bool->Bool->Bool) (zZ:Bool->Bool->Bool) (zg:Int->Int->Int) (zh:Int->Int->Int) (zj:Int->Nat) (zu:Int->Nat->Bool) (zy:Nat->Int) (zz:Nat->Int->Nat) (aK:Nat->Nat->Bool) (ah:Nat->Nat->Nat) (aI:Int->Int->Nat) (aH:Int->Int->Nat->Bool) (ak:Nat->Nat->Nat->Bool) (aq:Int->Int->Nat->Bool) (ae:Rows->Nat) (aE:Rows->Nat->Option (List Tree)) (aB:Rows->Nat->List Tree->Rows) (aG:IntKind->Rows->Nat->Bool) (ao:Rows->Nat->Int) (az:IntKind->Rows->Nat->Int->Rows) (aJ:Nat->Nat->Rows->Bool) (an:Rows->Nat->Nat->Rows) (aO:Rows->Nat->Rows->Rows) (au:Rows->Nat->Rows->Rows) (aP:Nat->List Tree->Rows) (ai:Nat->Rows->Bool) (aM:List Bool->Bool) (aN:List (Value×Tree)->Value->Bool) (ay:List (Value×Tree)->Value->Bool) (aw:List (Value×Tree)->Value->Tree->List (Value×Tree)) (aL:Rows->Option ByteArray) (ar:List (Value×Tree)->Value->Option (Option Tree)) (zW:IntKind->List Int->Rows) (bc:(α:Type)->(Unit->α)->α) A L (G:List AV->bM->Prop),Std P s.heap.length (aZ zD) (eZ zE) (jk zG) (nM zH) zI zJ zK zL zM zN zO zR (Bd zS) (GK zT) (pk zU) (GJ zV) (qP zX) zY zZ zg zh (qM zj) (qN zu) zy (qO zz) aK ah aI aH ak aq ae aE aB aG ao az aJ an aO au aP ai aM aN ay aw aL ar zW bc A L->(∀bJ hp ρ,(St.mk bJ hp).Ck s.heap.length ρ s'->G bJ hp)->dz (ZI.mk (aZ zD) (eZ zE) (jk zG) (nM zH) zI zJ zK zL zM zN zO zR (Bd zS) (GK zT) (pk zU) (GJ zV) (qP zX) zY zZ zg zh (qM zj) (qN zu) zy (qO zz) aK ah aI aH ak aq ae aE aB aG ao az aJ an aO au aP ai aM aN ay aw aL ar) C A L c (ST.kv ⟨s.tmps++List.replicate (fn.ntmps-s.tmps.length) .aj,s.heap⟩) fun e st=>match e with
   | .exit _=>False
   | .normal=>HK C st fn.results.toList G
   | .ret=>HK C st fn.results.toList G):ep P f s s':=by
 refine sA hC ek iN ez dn hT hr hl fun zD zE zG zH zI zJ zK zL zM zN zO zR zS zT zU zV zX zY zZ zg zh zj zu zy zz aK ah aI aH ak aq ae aE aB aG ao az aJ an aO au aP ai aM aN ay aw aL ar zW bc A L G hS hG=>?_
 obtain⟨zo,zm,za,zs,zw,zl,zk,ze,zn,zt,zi,zx,rfl,rfl,rfl,rfl,rfl,rfl,rfl,rfl,rfl,rfl,rfl,rfl⟩:=hS.lit;exact h _ _ _ _ _ _ _ _ _ _ _ _ _ _ _ _ _ _ _ _ _ _ _ _ _ _ _ _ _ _ _ _ _ _ _ _ _ _ _ _ _ _ _ _ _ _ _ _ _ _ _ _ _ _ hS hG
end
end Go.Abs
end
section
namespace Go.Proofs.YtekefilngojelaaGreat
open Go Go.Abs Go.Proofs
def m2 (a b:Int):List Tree:=[.v (.int .i64 a),.v (.int .i64 b),.v (.int .i64 0),.v (.int .i64 0),.v (.int .i64 0),.v (.int .i64 0),.v (.int .i64 0),.v (.int .i64 0)]
theorem HM (a b:Int) (h0:0<=a/\a<=65535) (h1:0<=b/\b<=65535):aA Tryz.prog 100 [.val (.agg (m2 a b))] ⟨[.val (ti .i64 (a+b))],[none]⟩:=by
 unfold m2;refine bz aD mixed [.val] Tryz.func100 rfl rfl (by kernel_rfl) fun zD zE zG zH zI zJ zK zL zM zN zO zR zS zT zU zV zX zY zZ zg zh zj zu zy zz aK ah aI aH ak aq ae aE aB aG ao az aJ an aO au aP ai aM aN ay aw aL ar zW bc A L F hS hF=>?_
 have e1:aZ zD .i64 (eZ zE 0 a)=a:=by rw[hS.add,hS.wrap,wrap_i64 (by omega) (by omega)];omega
 have e2:aZ zD .i64 (eZ zE a b)=a+b:=by rw[hS.add,hS.wrap,wrap_i64 (by omega) (by omega)]
 have e3:aZ zD .i64 (eZ zE (a+b) 0)=a+b:=by rw[hS.add,hS.wrap,wrap_i64 (by omega) (by omega)];omega
 cbv;refine ba aD mixed hS (9) ?_;cbv;repeat (first|refine bT rfl ?_|refine bF rfl ?_|refine nd rfl ?_)
 refine bX hF (lh (a:=aZ zD .i64 (eZ zE (aZ zD .i64 (eZ zE (aZ zD .i64 (eZ zE (aZ zD .i64 (eZ zE (aZ zD .i64 (eZ zE (aZ zD .i64 (eZ zE (aZ zD .i64 (eZ zE (aZ zD .i64 (eZ zE 0 a)) b)) 0)) 0)) 0)) 0)) 0)) 0)) ?_);simp only[e1,e2,e3]
theorem HN (a b:Int) (h0:0<=a/\a<=65535) (h1:0<=b/\b<=65535):aA Tryz.prog 141 [.val (.agg (m2 a b))] ⟨[.val (tb true)],[none]⟩:=by
 unfold m2;refine bz aD mixed [.val] Tryz.func141 rfl rfl (by kernel_rfl) fun zD zE zG zH zI zJ zK zL zM zN zO zR zS zT zU zV zX zY zZ zg zh zj zu zy zz aK ah aI aH ak aq ae aE aB aG ao az aJ an aO au aP ai aM aN ay aw aL ar zW bc A L F hS hF=>?_
 cbv;refine ba aD mixed hS (9) ?_;cbv;repeat (first|refine bT rfl ?_|refine bF rfl ?_|refine nd rfl ?_)
 refine bF ((hS.lt a 0).trans (decide_eq_false (by omega))) (bF ((hS.lt 65535 a).trans (decide_eq_false (by omega))) ?_);repeat (first|refine bT rfl ?_|refine bF rfl ?_|refine nd rfl ?_)
 refine bF ((hS.lt b 0).trans (decide_eq_false (by omega))) (bF ((hS.lt 65535 b).trans (decide_eq_false (by omega))) ?_);repeat (first|refine bT rfl ?_|refine bF rfl ?_|refine nd rfl ?_)
 exact hF _ (aS.refl _)
def mD (a b c d:Int):Int:=if a<c then -1 else if c<a then 1 else if b<d then -1 else if d<b then 1 else 0
theorem yo (a b c d:Int):aA Tryz.prog 60 [.val (.agg (m2 a b)),.val (.agg (m2 c d))] ⟨[.val (ti .i64 (mD a b c d))],[none,none]⟩:=by
 unfold m2 mD;refine bz aD mixed [.val] Tryz.func60 rfl rfl (by kernel_rfl) fun zD zE zG zH zI zJ zK zL zM zN zO zR zS zT zU zV zX zY zZ zg zh zj zu zy zz aK ah aI aH ak aq ae aE aB aG ao az aJ an aO au aP ai aM aN ay aw aL ar zW bc A L F hS hF=>?_
 cbv;refine ba aD mixed hS (9) ?_;cbv;repeat (first|refine bT rfl ?_|refine bF rfl ?_|refine nd rfl ?_)
 by_cases h0:a<c
 ·refine bT ((hS.lt a c).trans (decide_eq_true h0)) (bX hF (lh ?_))
  rw[if_pos h0]
 refine bF ((hS.lt a c).trans (decide_eq_false h0)) ?_
 by_cases h1:c<a
 ·refine bT ((hS.lt c a).trans (decide_eq_true h1)) (bX hF (lh ?_))
  rw[if_neg h0,if_pos h1]
 refine bF ((hS.lt c a).trans (decide_eq_false h1)) ?_;repeat (first|refine bT rfl ?_|refine bF rfl ?_|refine nd rfl ?_)
 by_cases h2:b<d
 ·refine bT ((hS.lt b d).trans (decide_eq_true h2)) (bX hF (lh ?_))
  rw[if_neg h0,if_neg h1,if_pos h2]
 refine bF ((hS.lt b d).trans (decide_eq_false h2)) ?_
 by_cases h3:d<b
 ·refine bT ((hS.lt d b).trans (decide_eq_true h3)) (bX hF (lh ?_))
  rw[if_neg h0,if_neg h1,if_neg h2,if_pos h3]
 refine bF ((hS.lt d b).trans (decide_eq_false h3)) ?_;repeat (first|refine bT rfl ?_|refine bF rfl ?_|refine nd rfl ?_)
 refine bX hF (lh ?_);rw[if_neg h0,if_neg h1,if_neg h2,if_neg h3]
theorem HO (a b c d:Int) (h0:0<=a/\a<=30000) (h1:0<=b/\b<=30000) (h2:0<=c/\c<=30000) (h3:0<=d/\d<=30000) :
  aA Tryz.prog 110 [.val (.agg (m2 a b)),.val (.agg (m2 c d))] ⟨[.val (.agg (m2 (a+c) (b+d))),.val (ti .i64 0)],[none,none]⟩:=by
 have cv:=HN (a+c) (b+d) (by omega) (by omega);unfold m2 at cv ⊢;obtain⟨x,hx⟩:∃x,x=a+c:=⟨_,rfl⟩;obtain⟨y,hy⟩:∃y,y=b+d:=⟨_,rfl⟩;rw[<-hx,<-hy]at cv ⊢;refine bz aD mixed [.val,.val] Tryz.func110 rfl rfl (by kernel_rfl) fun zD zE zG zH zI zJ zK zL zM zN zO zR zS zT zU zV zX zY zZ zg zh zj zu zy zz aK ah aI aH ak aq ae aE aB aG ao az aJ an aO au aP ai aM aN ay aw aL ar zW bc A L F hS hF=>?_
 have e1:aZ zD .i64 (eZ zE a c)=x:=by rw[hS.add,hS.wrap,wrap_i64 (by omega) (by omega),hx]
 have e2:aZ zD .i64 (eZ zE b d)=y:=by rw[hS.add,hS.wrap,wrap_i64 (by omega) (by omega),hy]
 cbv at e1 e2;cbv;refine ba aD mixed hS (9) ?_;cbv;repeat (first|refine bT rfl ?_|refine bF rfl ?_|refine nd rfl ?_)
 simp only[e1,e2];refine⟨_,hS.call (cv),?_⟩;cbv;repeat (first|refine bT rfl ?_|refine bF rfl ?_|refine nd rfl ?_)
 exact hF _ (aS.refl _)
end Go.Proofs.YtekefilngojelaaGreat
end
section
namespace Go.Abs
structure PE {α:Type} (n0:Nat) (S:Nat->α->St) (R:Nat->α->Prop) (i:Nat) (s:St):Prop where
 ex:∃(ρ:Nat->Nat) (a:α),s.Ck n0 ρ (S i a)/\(S i a).a9=true/\n0<=(S i a).heap.length/\R i a
theorem bR {α:Type} {n0:Nat} {S:Nat->α->St} {R:Nat->α->Prop} {i:Nat} {s:St} (m:List (Nat×Nat)) (a:α) (h1:bV (aT m) s.tmps (S i a).tmps) (h2:bW (aT m) s.heap 0 (S i a).heap) (h3:(bf (aT m) 0 (S i a).heap).Nodup) (h4:∀p∈m,n0<=p.1)
  (h5:(S i a).a9=true) (h6:n0<=(S i a).heap.length) (hR:R i a):PE n0 S R i s:=⟨_,a,Fc m h1 h2 h3 h4,h5,h6,hR⟩
structure Hid (p:Prop):Prop where
 h:p
section
variable {P:Program} {C:dP} {n0:Nat} {zD:IntKind->Int->Int} {zE:Int->Int->Int} {zG:Int->Int->Int} {zH:Int->Int->Int} {zI:Int->Int->Int} {zJ:Int->Int->Int} {zK:IntKind->Int->Int->Int} {zL:IntKind->Int->Int->Int} {zM:IntKind->Int->Int->Int} {zN:IntKind->Int->Int->Int} {zO:IntKind->Int->Int->Int} {zR:IntKind->Int->Int->Int} {zS:Int->Int->Bool} {zT:Int->Int->Bool} {zU:Int->Int->Bool} {zV:Int->Int->Bool} {zX:Bool->Bool} {zY:Bool->Bool->Bool} {zZ:Bool->Bool->Bool} {zg:Int->Int->Int} {zh:Int->Int->Int} {zj:Int->Nat} {zu:Int->Nat->Bool} {zy:Nat->Int} {zz:Nat->Int->Nat} {aK:Nat->Nat->Bool} {ah:Nat->Nat->Nat} {aI:Int->Int->Nat} {aH:Int->Int->Nat->Bool} {ak:Nat->Nat->Nat->Bool} {aq:Int->Int->Nat->Bool} {ae:Rows->Nat} {aE:Rows->Nat->Option (List Tree)} {aB:Rows->Nat->List Tree->Rows} {aG:IntKind->Rows->Nat->Bool} {ao:Rows->Nat->Int} {az:IntKind->Rows->Nat->Int->Rows} {aJ:Nat->Nat->Rows->Bool} {an:Rows->Nat->Nat->Rows} {aO:Rows->Nat->Rows->Rows} {au:Rows->Nat->Rows->Rows} {aP:Nat->List Tree->Rows} {ai:Nat->Rows->Bool} {aM:List Bool->Bool} {aN:List (Value×Tree)->Value->Bool} {ay:List (Value×Tree)->Value->Bool} {aw:List (Value×Tree)->Value->Tree->List (Value×Tree)} {aL:Rows->Option ByteArray} {ar:List (Value×Tree)->Value->Option (Option Tree)} {zW:IntKind->List Int->Rows} {bc:(α:Type)->(Unit->α)->α} {A:FuncId->Ask->pc->Prop} {L:Code->St->(bC->ST->Prop)->Prop}
theorem nN {α:Type} (hC:bt P C) (ek:P.follows .mixedOrders=true) (hS:Std P n0 zD zE zG zH zI zJ zK zL zM zN zO zR zS zT zU zV zX zY zZ zg zh zj zu zy zz aK ah aI aH ak aq ae aE aB aG ao az aJ an aO au aP ai aM aN ay aw aL ar zW bc A L) {c:Code} {st:St} {Q:bC->ST->Prop} (S:Nat->α->St) (R:Nat->α->Prop) {n:Nat} {a0:α} (hl:st.Le (S 0 a0)) (hb:(S 0 a0).a9=true) (hk:n0<=(S 0 a0).heap.length) (h0:R 0 a0)
  (round:∀i a,i<n->R i a->dz (ZI.mk zD zE zG zH zI zJ zK zL zM zN zO zR zS zT zU zV zX zY zZ zg zh zj zu zy zz aK ah aI aH ak aq ae aE aB aG ao az aJ an aO au aP ai aM aN ay aw aL ar) C A L c (ST.kv (S i a)) fun e s=>match e with
   | .normal=>match s.fe with
    | ⟨t,h⟩=>PE n0 S R (i+1) (St.mk t h)
   | .exit id=>Q (.exit id) s
   | .ret=>Q .ret s)
  (last:∀a,R n a->dz (ZI.mk zD zE zG zH zI zJ zK zL zM zN zO zR zS zT zU zV zX zY zZ zg zh zj zu zy zz aK ah aI aH ak aq ae aE aB aG ao az aJ an aO au aP ai aM aN ay aw aL ar) C A L c (ST.kv (S n a)) fun e s=>match e with
   | .normal=>False
   | .exit id=>Q (.exit id) s
   | .ret=>Q .ret s):L c st Q:=by
 rw[hS.z,hS.a,hS.l]at round last;rw[hS.l];refine fun hT=>qL.Km hC ek (fun m s=>∃i a,m+i=n/\R i a/\s=S i a) hl hb hk ⟨0,a0,rfl,h0,rfl⟩ fun m s hI=>?_
 obtain⟨i,a,hm,hR,rfl⟩:=hI;cases m with
 | zero=>
  obtain rfl:i=n:=by omega
  have:=fw c _ (ST.kx _) hT (last a hR);rw[ST.gK]at this;refine N2 c _ this fun e s1 h1=>?_
  obtain⟨s',ho,rfl,h2⟩:=h1;cases e with
  | normal=>exact h2.elim
  | exit id=>exact⟨s',ho,rfl,h2⟩
  | ret=>exact⟨s',ho,rfl,h2⟩
 | succ m=>
  have:=fw c _ (ST.kx _) hT (round i a (by omega) hR);rw[ST.gK]at this;refine N2 c _ this fun e s1 h1=>?_
  obtain⟨s',ho,rfl,h2⟩:=h1;cases e with
  | normal=>
   obtain⟨ρ,a',h3,h4,h5,h6⟩:=h2.ex;exact⟨ρ,_,h3,h4,h5,m,Nat.lt_succ_self m,i+1,a',by omega,h6,rfl⟩
  | exit id=>exact⟨s',ho,rfl,h2⟩
  | ret=>exact⟨s',ho,rfl,h2⟩
theorem Be {α:Type} (hC:bt P C) (ek:P.follows .mixedOrders=true) (hS:Std P n0 zD zE zG zH zI zJ zK zL zM zN zO zR zS zT zU zV zX zY zZ zg zh zj zu zy zz aK ah aI aH ak aq ae aE aB aG ao az aJ an aO au aP ai aM aN ay aw aL ar zW bc A L) {c:Code} {st:St} {Q:bC->ST->Prop} (S:Nat->α->St) (R:Nat->α->Prop) {n:Nat} {a0:α} (hl:st.Le (S 0 a0)) (hb:(S 0 a0).a9=true) (hk:n0<=(S 0 a0).heap.length) (h0:R 0 a0)
  (round:∀i a,i<n->R i a->Hid (dz (ZI.mk zD zE zG zH zI zJ zK zL zM zN zO zR zS zT zU zV zX zY zZ zg zh zj zu zy zz aK ah aI aH ak aq ae aE aB aG ao az aJ an aO au aP ai aM aN ay aw aL ar) C A L c (ST.kv (S i a)) fun e s=>match e with
   | .normal=>match s.fe with
    | ⟨t,h⟩=>PE n0 S R (i+1) (St.mk t h)
   | .exit id=>Q (.exit id) s
   | .ret=>Q .ret s))
  (last:∀a,R n a->Hid (dz (ZI.mk zD zE zG zH zI zJ zK zL zM zN zO zR zS zT zU zV zX zY zZ zg zh zj zu zy zz aK ah aI aH ak aq ae aE aB aG ao az aJ an aO au aP ai aM aN ay aw aL ar) C A L c (ST.kv (S n a)) fun e s=>match e with
   | .normal=>False
   | .exit id=>Q (.exit id) s
   | .ret=>Q .ret s)):L c st Q:=nN hC ek hS S R hl hb hk h0 (fun i a h1 h2=>(round i a h1 h2).h) (fun a h=>(last a h).h)
theorem Std.xt (hS:Std P n0 zD zE zG zH zI zJ zK zL zM zN zO zR zS zT zU zV zX zY zZ zg zh zj zu zy zz aK ah aI aH ak aq ae aE aB aG ao az aJ an aO au aP ai aM aN ay aw aL ar zW bc A L) {i n:Nat} {X:Rows} (hX:X.length=n) (hi:i<n) (hn:n<4611686018427387904):zU (Int.ofNat i) (zy (ae X))=true/\zD .i64 (zE (i:Int) 1)=(i:Int)+1/\zj (Int.ofNat i)=i/\zV 0 (Int.ofNat i)=true:=by
 refine⟨?_,?_,?_,?_⟩
 ·rw[hS.lt,hS.aW,hS.len,hX];exact decide_eq_true (show(i:Int)<(n:Int) by omega)
 ·rw[hS.add,hS.wrap];exact wrap_i64 (by omega) (by omega)
 ·rw[hS.nat];rfl
 ·rw[hS.le];exact decide_eq_true (show(0:Int)<=(i:Int) by omega)
theorem Std.qQ (hS:Std P n0 zD zE zG zH zI zJ zK zL zM zN zO zR zS zT zU zV zX zY zZ zg zh zj zu zy zz aK ah aI aH ak aq ae aE aB aG ao az aJ an aO au aP ai aM aN ay aw aL ar zW bc A L) {n:Nat} {X:Rows} (hX:X.length=n):zU (Int.ofNat n) (zy (ae X))=false:=by
 rw[hS.lt,hS.aW,hS.len,hX];exact decide_eq_false (show ¬(n:Int)<(n:Int) by omega)
theorem Std.dD (hS:Std P n0 zD zE zG zH zI zJ zK zL zM zN zO zR zS zT zU zV zX zY zZ zg zh zj zu zy zz aK ah aI aH ak aq ae aE aB aG ao az aJ an aO au aP ai aM aN ay aw aL ar zW bc A L) {row:List Tree} {w:Nat} (hw:row.length=w) {r:Rows} {len b:Nat} (hl:len=r.length) (hb:(len+1)*b<=aF) :
  an [row] 0 1=[row]/\aJ 0 1 [row]=true/\zX (aK (ae [row]) 0)=true/\ai w [row]=true/\ak len (ae [row]) b=true/\aK (ah 0 len) (ae r)=true/\ah len (ae [row])=len+1/\aO r 0 [row]=r ++ [row]:=by
 refine⟨?_,?_,?_,?_,?_,?_,?_,?_⟩
 ·rw[hS.part];rfl
 ·rw[hS.fit];rfl
 ·rw[hS.len,hS.neq,hS.not];rfl
 ·rw[hS.wide];simp[hw]
 ·rw[hS.len,hS.room];exact decide_eq_true (by simpa using hb)
 ·rw[hS.fc,hS.neq,hS.len,hl,Nat.zero_add];exact decide_eq_true rfl
 ·rw[hS.len,hS.fc];rfl
 ·rw[hS.ext,List.drop_zero]
theorem Std.Tn (hS:Std P n0 zD zE zG zH zI zJ zK zL zM zN zO zR zS zT zU zV zX zY zZ zg zh zj zu zy zz aK ah aI aH ak aq ae aE aB aG ao az aJ an aO au aP ai aM aN ay aw aL ar zW bc A L) {new:Rows} {m w:Nat} (hm:new.length=m) (h0:0<m) (hw:(new.all fun r=>r.length==w)=true) {r:Rows} {len b:Nat} (hl:len=r.length) (hb:(len+m)*b<=aF) :
  an new 0 m=new/\aJ 0 m new=true/\zX (aK (ae new) 0)=true/\ai w new=true/\ak len (ae new) b=true/\aK (ah 0 len) (ae r)=true/\ah len (ae new)=len+m/\aO r 0 new=r++new:=by
 refine⟨?_,?_,?_,?_,?_,?_,?_,?_⟩
 ·rw[hS.part,List.drop_zero,List.take_of_length_le (by omega)]
 ·rw[hS.fit];exact decide_eq_true (by omega)
 ·rw[hS.len,hS.neq,hS.not,decide_eq_false (by omega)];rfl
 ·rw[hS.wide];exact hw
 ·rw[hS.len,hS.room,hm];exact decide_eq_true hb
 ·rw[hS.fc,hS.neq,hS.len,hl,Nat.zero_add];exact decide_eq_true rfl
 ·rw[hS.len,hS.fc,hm]
 ·rw[hS.ext,List.drop_zero]
theorem Std.whole (hS:Std P n0 zD zE zG zH zI zJ zK zL zM zN zO zR zS zT zU zV zX zY zZ zg zh zj zu zy zz aK ah aI aH ak aq ae aE aB aG ao az aJ an aO au aP ai aM aN ay aw aL ar zW bc A L) {r:Rows} {len:Nat} (hl:len=r.length):aJ 0 len r=true/\an r 0 len=r:=⟨by rw[hS.fit,hl];exact decide_eq_true (by omega),by rw[hS.part,List.drop_zero,List.take_of_length_le (by omega)]⟩
end
end Go.Abs
end
section
namespace Go.Abs.M
def val:List Int->Int
 | []=>0
 | x::l=>x+4294967296*val l
def Wd (l:List Int):Prop:=∀x∈l,0<=x/\x<4294967296
def LX:Nat->Nat->List Int
 | 0,_=>[]
 | f+1,n=>if n=0 then [] else((n%4294967296:Nat):Int)::LX f (n/4294967296)
def dg (n:Nat):List Int:=LX n n
theorem Fp:∀(f g n:Nat),n<=f->n<=g->LX f n=LX g n
 | 0,g,n,h,_=>by
  have:n=0:=by omega
  subst this;cases g<;>simp[LX]
 | f+1,0,n,_,h=>by
  have:n=0:=by omega
  subst this;simp[LX]
 | f+1,g+1,n,h1,h2=>by
  simp only[LX];split
  ·rfl
  ·rw[Fp f g (n/4294967296) (by omega) (by omega)]
theorem qR:dg 0=[]:=rfl
theorem pq {n:Nat} (h:n≠0):dg n=((n%4294967296:Nat):Int)::dg (n/4294967296):=by
 unfold dg;obtain⟨m,rfl⟩:∃m,n=m+1:=⟨n-1,by omega⟩;simp only[LX];rw[if_neg h,Fp m ((m+1)/4294967296) _ (by omega) (Nat.le_refl _)]
theorem jI (n:Nat):val (dg n)=n:=by
 induction n using Nat.strongRecOn with
 | _ n ih=>
  by_cases h:n=0
  ·subst h;rfl
  ·rw[pq h,val,ih (n/4294967296) (by omega)]
   omega
theorem ju (n:Nat):Wd (dg n):=by
 induction n using Nat.strongRecOn with
 | _ n ih=>
  by_cases h:n=0
  ·subst h;intro x hx;cases hx
  ·rw[pq h]
   intro x hx;rcases List.mem_cons.1 hx with rfl|hx
   ·omega
   ·exact ih (n/4294967296) (by omega) x hx
theorem iP {n:Nat}:dg n=[]↔n=0:=by
 by_cases h:n=0
 ·simp[h,qR]
 ·simp[h,pq h]
theorem fx:∀(a b:List Int),val (a++b)=val a+4294967296^a.length*val b
 | [],b=>by simp[val]
 | x::a,b=>by
  simp only[List.cons_append,val,fx a b,List.length_cons,Int.pow_succ];grind
theorem Wd.tail {x:Int} {l:List Int} (h:Wd (x::l)):Wd l:=fun y hy=>h y (List.mem_cons_of_mem _ hy)
theorem Wd.head {x:Int} {l:List Int} (h:Wd (x::l)):0<=x/\x<4294967296:=h x (List.mem_cons_self ..)
theorem Wd.cons {x:Int} {l:List Int} (h0:0<=x) (h1:x<4294967296) (h:Wd l):Wd (x::l):=by
 intro y hy;rcases List.mem_cons.1 hy with rfl|hy
 ·exact⟨h0,h1⟩
 ·exact h y hy
theorem Wd.append {a b:List Int} (ha:Wd a) (hb:Wd b):Wd (a++b):=by
 intro x hx;rcases List.mem_append.1 hx with h|h
 ·exact ha x h
 ·exact hb x h
theorem Wd.take {l:List Int} (h:Wd l) (n:Nat):Wd (l.take n):=fun x hx=>h x (List.mem_of_mem_take hx)
theorem Wd.drop {l:List Int} (h:Wd l) (n:Nat):Wd (l.drop n):=fun x hx=>h x (List.mem_of_mem_drop hx)
theorem Wd.rep (n:Nat):Wd (List.replicate n 0):=fun x hx=>by
 rw[List.eq_of_mem_replicate hx];omega
theorem Wd.get {l:List Int} (h:Wd l) (i:Nat):0<=l.getD i 0/\l.getD i 0<4294967296:=by
 rw[List.getD_eq_getElem?_getD];rcases Nat.lt_or_ge i l.length with h1|h1
 ·rw[List.getElem?_eq_getElem h1];exact h _ (List.getElem_mem h1)
 ·rw[List.getElem?_eq_none h1];simp
theorem Wd.set {l:List Int} (h:Wd l) (i:Nat) {x:Int} (h0:0<=x) (h1:x<4294967296):Wd (l.set i x):=by
 intro y hy;rcases List.mem_or_eq_of_mem_set hy with h'|rfl
 ·exact h y h'
 ·exact⟨h0,h1⟩
theorem Wd.nil:Wd []:=fun x hx=>by cases hx
theorem sC:∀ {l:List Int},Wd l->0<=val l
 | [],_=>Int.le_refl 0
 | x::l,h=>by
  have:=sC h.tail;have:=h.head;simp only[val];omega
theorem xb (n:Nat):(0:Int)<4294967296^n:=Int.pow_pos (by omega)
theorem Bf:∀ {l:List Int},Wd l->val l<4294967296^l.length
 | [],_=>by simp[val]
 | x::l,h=>by
  have:=Bf h.tail;have:=h.head;simp only[val,List.length_cons,Int.pow_succ];omega
theorem Bg (n:Nat):val (List.replicate n 0)=0:=by
 induction n with
 | zero=>rfl
 | succ n ih=>simp only[List.replicate_succ,val,ih];rfl
theorem MQ (l:List Int) (k:Nat) (h:k<=l.length):val l=val (l.take k)+4294967296^k*val (l.drop k):=by
 have:=fx (l.take k) (l.drop k);rw[List.take_append_drop,List.length_take,Nat.min_eq_left h]at this;exact this
theorem Bh:∀(l:List Int) (i:Nat) (x:Int),i<l.length->val (l.set i x)=val l+(x-l.getD i 0)*4294967296^i
 | [],i,x,h=>by simp at h
 | y::l,0,x,_=>by simp[val,List.set];omega
 | y::l,i+1,x,h=>by
  have:=Bh l i x (by simpa using h);simp only[List.set_cons_succ,val,List.getD_cons_succ,Int.pow_succ,this];grind
theorem mE {l:List Int} {k:Nat} (h:k<l.length):l.take (k+1)=l.take k ++ [l.getD k 0]:=by
 rw[List.take_succ_eq_append_getElem h,List.getD_eq_getElem?_getD,List.getElem?_eq_getElem h];rfl
theorem jJ {l:List Int} {k:Nat} (h:k<l.length):val (l.take (k+1))=val (l.take k)+4294967296^k*l.getD k 0:=by
 rw[mE h,fx,List.length_take,Nat.min_eq_left (Nat.le_of_lt h)];simp[val]
theorem j5 {l:List Int} {k:Nat} (h:k<l.length):l.drop k=l.getD k 0::l.drop (k+1):=by
 rw[List.drop_eq_getElem_cons h,List.getD_eq_getElem?_getD,List.getElem?_eq_getElem h];rfl
theorem HP {l:List Int} {k:Nat} (h:k<l.length):val (l.drop k)=l.getD k 0+4294967296*val (l.drop (k+1)):=by
 rw[j5 h];rfl
def Tr (l:List Int):Prop:=l=[]∨l.getD (l.length-1) 0≠0
theorem Tr.tail {x:Int} {l:List Int} (h:Tr (x::l)):Tr l:=by
 rcases h with h|h
 ·cases h
 ·cases l with
  | nil=>exact .inl rfl
  | cons y l=>right;simpa using h
theorem sD:∀ {l:List Int},Wd l->Tr l->dg (val l).toNat=l
 | [],_,_=>rfl
 | x::l,hw,ht=>by
  have hv:=sC hw.tail;have hx:=hw.head;have ih:=sD hw.tail ht.tail;have cY:(val (x::l)).toNat≠0:=by
   simp only[val];cases l with
   | nil=>
    rcases ht with h|h
    ·cases h
    ·simp at h;simp only[val];omega
   | cons y l=>
    intro h0;have h1:val (y::l)=0:=by omega
    rw[h1]at ih;cases ih
  rw[pq cY];have e1:(val (x::l)).toNat%4294967296=x.toNat:=by simp only[val];omega
  have e2:(val (x::l)).toNat/4294967296=(val l).toNat:=by simp only[val];omega
  rw[e1,e2,ih];congr 1;omega
theorem ja (n:Nat):Tr (dg n):=by
 induction n using Nat.strongRecOn with
 | _ n ih=>
  by_cases h:n=0
  ·subst h;exact .inl rfl
  ·rw[pq h]
   have:=ih (n/4294967296) (by omega)
   by_cases h2:n/4294967296=0
   ·right;rw[h2,qR];simp;omega
   ·right
    rcases this with h3|h3
    ·exact absurd (iP.1 h3) h2
    ·have hl:dg (n/4294967296)≠[]:=fun hh=>h2 (iP.1 hh)
     cases hd:dg (n/4294967296) with
     | nil=>exact absurd hd hl
     | cons y l=>rw[hd]at h3;simpa using h3
theorem jv {a b:Nat} (h:a<=b):(4294967296:Int)^a<=4294967296^b:=by
 obtain⟨k,rfl⟩:∃k,b=a+k:=⟨b-a,by omega⟩;rw[Int.pow_add];have h1:=xb a;have h2:=xb k;have:4294967296^a*1<=4294967296^a*(4294967296:Int)^k:=Int.mul_le_mul_of_nonneg_left (by omega) (by omega);omega
def nl (n:Nat):Nat:=(dg n).length
theorem mF (n:Nat):(n:Int)<4294967296^nl n:=by
 have:=Bf (ju n);rwa[jI]at this
theorem tK {n k:Nat} (h:(n:Int)<4294967296^k):nl n<=k:=by
 induction k generalizing n with
 | zero=>
  have:n=0:=by rw[Int.pow_zero]at h;omega
  subst this;exact Nat.le_refl _
 | succ k ih=>
  by_cases h0:n=0
  ·subst h0;exact Nat.zero_le _
  ·unfold nl
   rw[pq h0,List.length_cons];have:nl (n/4294967296)<=k:=ih (by
    rw[Int.pow_succ]at h;omega)
   unfold nl at this;omega
theorem Ev {a b:Nat} (h:a<=b):nl a<=nl b:=tK (by have:=mF b;omega)
theorem To {l:List Int} (h:Wd l):nl (val l).toNat<=l.length:=tK (by have:=Bf h;have:=sC h;omega)
theorem Tp {n:Nat} (h:n≠0):4294967296^(nl n-1)<=(n:Int):=by
 rcases Int.lt_or_le (n:Int) (4294967296^(nl n-1)) with h1|h1
 ·have h2:=tK h1
  have:nl n≠0:=fun hh=>h (iP.1 (List.length_eq_zero_iff.1 hh))
  omega
 ·exact h1
theorem jw {n:Nat}:nl n=0↔n=0:=by unfold nl;rw[List.length_eq_zero_iff,iP]
theorem vY (a b:Nat):nl (a+b)<=max (nl a) (nl b)+1:=by
 refine tK ?_;have h1:=mF a;have h2:=mF b;have h3:(4294967296:Int)^nl a<=4294967296^max (nl a) (nl b):=jv (Nat.le_max_left ..);have h4:(4294967296:Int)^nl b<=4294967296^max (nl a) (nl b):=jv (Nat.le_max_right ..);rw[Int.pow_succ];omega
theorem uD (a b:Nat):nl (a*b)<=nl a+nl b:=by
 refine tK ?_;have h1:=mF a;have h2:=mF b;rw[Int.pow_add];have h3:(a:Int)*b<=4294967296^nl a*b:=Int.mul_le_mul_of_nonneg_right (by omega) (by omega);have h4:4294967296^nl a*(b:Int)<4294967296^nl a*4294967296^nl b:=Int.mul_lt_mul_of_pos_left h2 (xb _)
 push_cast
 omega
end Go.Abs.M
end
section
namespace Go.Proofs.YtekefilngojelaaGreat
open Go Go.Abs Go.Abs.M Go.Proofs
def ky (r:Abs.Rows) (n:Int):St:=aC 21 [vl r,.aj,eW,vi .i64 n] [none]
theorem GL {l:List Int} {n:Nat} (hw:Wd l) (hn:n<=l.length) (hv:val (l.take n)=val l) (h0:n=0∨l.getD (n-1) 0≠0):l.take n=dg (val l).toNat:=by
 rw[<-hv];refine(sD (hw.take n) ?_).symm;rcases h0 with rfl|h0
 ·exact .inl (by simp)
 ·by_cases hz:n=0
  ·subst hz;exact .inl (by simp)
  ·right
   rw[List.length_take,Nat.min_eq_left hn];simp only[List.getD_eq_getElem?_getD,List.getElem?_take]at h0 ⊢;rw[if_pos (by omega)];exact h0
theorem N4 {r:Abs.Rows} {l:List Int} (hr:r=W .u32 l) (hl:l.length<=2199023255552) (hw:Wd l):aA Tryz.prog 142 [.val (.c (.aa false r))] ⟨[.val (.c (.aa false (W .u32 (dg (val l).toNat))))],[none]⟩:=by
 refine aV aD mixed [.val] Tryz.func142 rfl rfl (by kernel_rfl) fun zD zE zG zH zI zJ zK zL zM zN zO zR zS zT zU zV zX zY zZ zg zh zj zu zy zz aK ah aI aH ak aq ae aE aB aG ao az aJ an aO au aP ai aM aN ay aw aL ar zW bc A L F hS hF=>?_
 have hlen:ae r=l.length:=by rw[hS.len,hr,iZ]
 cbv;refine fH aD mixed hS (fun m s=>∃n:Nat,n=m/\n<=l.length/\val (l.take n)=val l/\s=ky r (zy n)) (n:=l.length) (s0:=ky r (zy l.length)) (iY ?_ ?_) rfl (Nat.le_refl 1) ?_ ?_
 ·simp[eC,ky,aC,eW,vi,vl,hlen]
 ·simp[eF,ky,aC]
 ·exact⟨_,rfl,Nat.le_refl _,by rw[List.take_length],rfl⟩
 ·rintro m _ ⟨n,rfl,hn,hv,rfl⟩
  have hp:0<n->zD .i64 (zG (zy n) 1)=zy (n-1):=fun h=>by rw[hS.wrap,hS.sub,hS.aW,hS.aW,wrap_i64 (by omega) (by omega)];omega
  have hg:0<n->ao r (zj (zy (n-1)))=l.getD (n-1) 0:=fun h=>by rw[hS.dL,hS.nat,hS.aW,hr,ph,Int.toNat_natCast]
  have hc:aH 0 (zy n) (ae r)=true:=by rw[hS.cut,hlen,hS.aW];exact decide_eq_true (by omega)
  have PF:ai 1 r=true:=by rw[hS.wide,hr];exact Fo _ _
  have Tq:n=0∨l.getD (n-1) 0≠0->F ⟨[.val (.c (.aa false (an r 0 (zj (zy n)))))],[none]⟩:=fun h=>bX hF (by
   rw[hS.part,hS.nat,hS.aW,hr,jH,Int.toNat_natCast,List.drop_zero,GL hw hn hv h])
  cbv;refine⟨fun h=>?_,fun h=>nd hc (nd PF (Tq ?_))⟩
  all_goals rw[hS.lt,hS.aW]at h
  ·have h:0<n:=by simpa using h
   rw[hp h,hg h];refine nd (by rw[hS.le,hS.aW];exact decide_eq_true (by omega)) (nd (by rw[hS.gJ,hS.nat,hS.aW,hr,lS];exact decide_eq_true (by omega)) ⟨fun h2=>?_,fun h2=>nd hc (nd PF (Tq (.inr ?_)))⟩)
   all_goals rw[hS.eq]at h2
   ·refine again (s':=ky r (zy (n-1))) (m:=n-1) (by simp[eC,ky,aC,eW,vi,vl]) (by simp[eF,ky,aC]) rfl (Nat.le_refl 1) (by omega) ⟨_,rfl,by omega,?_,rfl⟩
    have:=jJ (l:=l) (k:=n-1) (by omega);rw[show n-1+1=n by omega,of_decide_eq_true h2]at this;omega
   ·exact of_decide_eq_false h2
  ·exact .inl (by simpa using h)
end Go.Proofs.YtekefilngojelaaGreat
end
section
namespace Go.Abs.M
def bO (a b:Int):Int:=if a<b then -1 else if b<a then 1 else 0
theorem PG {l:List Int} (hw:Wd l) (ht:Tr l) (hl:0<l.length):4294967296^(l.length-1)<=val l:=by
 have h1:=sD hw ht;have hv:=sC hw;have cY:(val l).toNat≠0:=fun h0=>by
  rw[h0,qR]at h1;rw[<-h1]at hl;simp at hl
 have:=Tp cY;unfold nl at this;rw[h1]at this;omega
theorem gR {l m:List Int} (hl:Wd l) (hm:Wd m) (ht:Tr m) (h:l.length<m.length):val l<val m:=by
 have h1:=Bf hl;have h2:=PG hm ht (by omega);have h3:=jv (show l.length<=m.length-1 by omega);omega
theorem gd {l m:List Int} {i:Nat} (hl:Wd l) (hm:Wd m) (hlen:l.length=m.length) (hi:i<l.length) (he:l.drop (i+1)=m.drop (i+1)) (h:l.getD i 0<m.getD i 0):val l<val m:=by
 rw[MQ l i (by omega),MQ m i (by omega),HP hi,HP (l:=m) (by omega),he];have a1:=Bf (hl.take i);have a2:=sC (hm.take i);rw[List.length_take,Nat.min_eq_left (by omega)]at a1;have hp:=xb i;have:4294967296^i*(l.getD i 0+1)<=4294967296^i*m.getD i 0:=Int.mul_le_mul_of_nonneg_left (by omega) (by omega);generalize val (m.drop (i+1))=y at *;generalize val (l.take i)=x at *;generalize val (m.take i)=z at *
 generalize l.getD i 0=a at *;generalize m.getD i 0=b at *;generalize (4294967296:Int)^i=p at *;have e1:p*(a+4294967296*y)=p*a+p*(4294967296*y):=Int.mul_add ..;have e2:p*(b+4294967296*y)=p*b+p*(4294967296*y):=Int.mul_add ..;have e3:p*(a+1)=p*a+p:=by rw[Int.mul_add,Int.mul_one]
 omega
theorem fp {a b:Int} (h:a<b):bO a b=-1:=if_pos h
theorem gS {a b:Int} (h:b<a):bO a b=1:=by unfold bO;rw[if_neg (by omega),if_pos h]
theorem GM (a:Int):bO a a=0:=by unfold bO;rw[if_neg (by omega),if_neg (by omega)]
end Go.Abs.M
end
section
namespace Go.Proofs.YtekefilngojelaaGreat
open Go Go.Abs Go.Abs.M Go.Proofs
theorem fy {r:Abs.Rows} {l:List Int} (i:Int) (hr:r=W .u32 l) (hl:l.length<=2199023255552) (hw:Wd l) (hi:0<=i):aA Tryz.prog 157 [.val (tl r),.val (ti .i64 i)] ⟨[.val (ti .u64 (l.getD i.toNat 0))],[none,none]⟩:=by
 refine aV aD mixed [.val] Tryz.func157 rfl rfl (by kernel_rfl) fun zD zE zG zH zI zJ zK zL zM zN zO zR zS zT zU zV zX zY zZ zg zh zj zu zy zz aK ah aI aH ak aq ae aE aB aG ao az aJ an aO au aP ai aM aN ay aw aL ar zW bc A L F hS hF=>?_
 have hg:=hw.get i.toNat;cbv;simp only[hS.wrap,hS.add,hS.sub,hS.mul,hS.quo,hS.rem,hS.shl,hS.shr,hS.bP,hS.eP,hS.Kf,hS.Db,hS.eq,hS.ne,hS.lt,hS.le,hS.not,hS.beq,hS.bne,hS.max,hS.min,hS.nat,hS.xo,hS.aW,hS.idx,hS.neq,hS.fc,hS.HF,hS.cut,hS.room,hS.my,hS.len,hS.nth,hS.Dc,hS.gJ,hS.dL,hS.nK,hS.fit,hS.part,hS.ext,hS.AU,hS.rep,hS.wide,hS.all,hr,iZ,lS,ph];refine⟨fun h=>nd (decide_eq_true hi) (nd ?_ (bX hF (lh (fg hg.1 (by omega))))),fun h=>bX hF (lh ?_)⟩
 ·have:=of_decide_eq_true h;exact decide_eq_true (by omega)
 ·have:=of_decide_eq_false h
  rw[List.getD_eq_getElem?_getD,List.getElem?_eq_none (by omega)];rfl
theorem jx (n:Int) (hn:0<=n) (tH:n<2^64):aA Tryz.prog 113 [.val (ti .u64 n)] ⟨[.val (tl (W .u32 (dg n.toNat)))],[none]⟩:=by
 refine aV aD mixed [.val] Tryz.func113 rfl rfl (by kernel_rfl) fun zD zE zG zH zI zJ zK zL zM zN zO zR zS zT zU zV zX zY zZ zg zh zj zu zy zz aK ah aI aH ak aq ae aE aB aG ao az aJ an aO au aP ai aM aN ay aw aL ar zW bc A L F hS hF=>?_
 have e1:zD .u32 (zJ n 4294967296)=n%4294967296:=by rw[hS.wrap,hS.rem,Int.tmod_eq_emod_of_nonneg hn];exact Ja (by omega) (by omega)
 have e2:zD .u32 (zD .u64 (zI n 4294967296))=n/4294967296:=by rw[hS.wrap,hS.wrap,hS.quo,Int.tdiv_eq_ediv_of_nonneg hn,fg (by omega) (by omega)];exact Ja (by omega) (by omega)
 have hT:=N4 (r:=W .u32 [n%4294967296,n/4294967296]) rfl (by simp) (Wd.cons (by omega) (by omega) (Wd.cons (by omega) (by omega) Wd.nil));cbv;rw[e1,e2];refine nd (by rw[hS.fit];rfl) ?_;rw[hS.part];refine⟨_,hS.call hT,?_⟩;rw[show val [n%4294967296,n/4294967296]=n by simp only[val];omega];generalize W .u32 (dg n.toNat)=x at *;cbv;exact hF _ (aS.refl _)
theorem Fq {r:Abs.Rows} {l:List Int} (s t:Bool) (hr:r=W .u32 l) (hl:l.length<=2199023255552) (hw:Wd l) (ht:t=(s&&decide (0<val l))):aA Tryz.prog 112 [.val (tb s),.val (tl r)] ⟨[.val (.agg (iT t (W .u32 (dg (val l).toNat))))],[none,none]⟩:=by
 refine aV aD mixed [.val] Tryz.func112 rfl rfl (by kernel_rfl) fun zD zE zG zH zI zJ zK zL zM zN zO zR zS zT zU zV zX zY zZ zg zh zj zu zy zz aK ah aI aH ak aq ae aE aB aG ao az aJ an aO au aP ai aM aN ay aw aL ar zW bc A L F hS hF=>?_
 have hT:=N4 hr hl hw;have hz:zU 0 (zy (ae (W .u32 (dg (val l).toNat))))=decide (0<val l):=by
  rw[hS.lt,hS.aW,hS.len,iZ];have:=sC hw;have h2:=@jw (val l).toNat;unfold nl at h2
  by_cases h:0<val l
  ·rw[decide_eq_true h];exact decide_eq_true (by omega)
  ·rw[decide_eq_false h];exact decide_eq_false (by omega)
 generalize W .u32 (dg (val l).toNat)=x at *;generalize decide (0<val l)=y at *;cbv;refine⟨_,hS.call hT,?_⟩;cbv;rw[hz];refine⟨fun h=>bX hF ?_,fun h=>bX hF ?_⟩
 ·rw[ht,h];rfl
 ·rw[ht,h];rfl
def pt (r s:Abs.Rows) (i:Int):St:=aC 41 [vl r,vl s,.aj,.aj,vi .i64 0,vi .i64 i] [none,none]
theorem Ts {r s:Abs.Rows} {l m:List Int} (c:Int) (hr:r=W .u32 l) (hs:s=W .u32 m) (hl:l.length<=2199023255552) (hm:m.length<=2199023255552) (ua:Wd l) (uE:Wd m) (bH:Tr l) (X0:Tr m) (hc:c=bO (val l) (val m)) :
  aA Tryz.prog 136 [.val (tl r),.val (tl s)] ⟨[.val (ti .i64 c)],[none,none]⟩:=by
 refine aV aD mixed [.val] Tryz.func136 rfl rfl (by kernel_rfl) fun zD zE zG zH zI zJ zK zL zM zN zO zR zS zT zU zV zX zY zZ zg zh zj zu zy zz aK ah aI aH ak aq ae aE aB aG ao az aJ an aO au aP ai aM aN ay aw aL ar zW bc A L F hS hF=>?_
 have h1:ae r=l.length:=by rw[hS.len,hr,iZ]
 have h2:ae s=m.length:=by rw[hS.len,hs,iZ]
 cbv;rw[h1,h2];refine⟨fun h=>?_,fun h=>⟨fun h'=>?_,fun h'=>?_⟩⟩
 all_goals rw[hS.lt,hS.aW,hS.aW]at h
 ·have h:(l.length:Int)<m.length:=of_decide_eq_true h
  exact bX hF (lh (by rw[hc,fp (gR ua uE X0 (by omega))]))
 all_goals rw[hS.lt,hS.aW,hS.aW]at h'
 ·have h':(m.length:Int)<l.length:=of_decide_eq_true h'
  exact bX hF (lh (by rw[hc,gS (gR uE ua bH (by omega))]))
 ·have h:=of_decide_eq_false h
  have h':=of_decide_eq_false h';have hlen:l.length=m.length:=by omega
  have Tt:zD .i64 (zG (zy l.length) 1)=zG (zy l.length) 1:=by rw[hS.wrap,hS.sub,hS.aW];exact wrap_i64 (by omega) (by omega)
  rw[Tt];refine fH aD mixed hS (fun(k:Nat) s'=>k<=l.length/\l.drop k=m.drop k/\s'=pt r s (zG (zy k) 1)) (n:=l.length) (s0:=pt r s (zG (zy l.length) 1)) (iY ?_ ?_) rfl (Nat.le_refl 2) ?_ ?_
  ·simp[eC,pt,aC,vi,vl]
  ·simp[eF,pt,aC]
  ·refine⟨Nat.le_refl _,?_,rfl⟩
   rw[List.drop_length,hlen,List.drop_length]
  ·rintro k _ ⟨hk,he,rfl⟩
   have hi:zG (zy k) 1=(k:Int)-1:=by rw[hS.sub,hS.aW]
   have hz:zV 0 (zG (zy k) 1)=decide (1<=k):=by
    rw[hS.le,hi]
    by_cases h:1<=k
    ·rw[decide_eq_true h];exact decide_eq_true (by omega)
    ·rw[decide_eq_false h];exact decide_eq_false (by omega)
   have Gw:1<=k->zj (zG (zy k) 1)=k-1:=fun h=>by rw[hS.nat,hi];omega
   have g1:1<=k->ao r (zj (zG (zy k) 1))=l.getD (k-1) 0:=fun h=>by rw[Gw h,hS.dL,hr,ph]
   have g2:1<=k->ao s (zj (zG (zy k) 1))=m.getD (k-1) 0:=fun h=>by rw[Gw h,hS.dL,hs,ph]
   have PH:∀x:Int,x=c->F ⟨[.val (.c (.v (.int .i64 x)))],[none,none]⟩:=fun x hx=>bX hF (lh hx)
   have tH:1<=k->aG .u32 r (zj (zG (zy k) 1))=true:=fun h=>by rw[Gw h,hS.gJ,hr,lS];exact decide_eq_true (by omega)
   have X7:1<=k->aG .u32 s (zj (zG (zy k) 1))=true:=fun h=>by rw[Gw h,hS.gJ,hs,lS];exact decide_eq_true (by omega)
   have Jb:1<=k->zD .i64 (zG (zG (zy k) 1) 1)=zG (zy (k-1)) 1:=fun h=>by rw[hi,hS.wrap,hS.sub,hS.sub,hS.aW,wrap_i64 (by omega) (by omega)];omega
   cbv;refine⟨fun h=>?_,fun h=>PH _ ?_⟩
   ·have a1:=h
    rw[hz]at h;have h:=of_decide_eq_true h;have a2:=tH h;have a3:=X7 h;rw[Jb h,g1 h,g2 h];refine nd a1 (nd a2 (nd a1 (nd a3 ⟨fun h3=>PH _ ?_,fun h3=>nd a1 (nd a2 (nd a1 (nd a3 ⟨fun h4=>PH _ ?_,fun h4=>?_⟩)))⟩)))
    all_goals rw[hS.lt]at h3
    ·rw[hc,fp (gd (i:=k-1) ua uE hlen (by omega) (by rw[show k-1+1=k by omega];exact he) (of_decide_eq_true h3))]
    all_goals rw[hS.lt]at h4
    ·rw[hc,gS (gd (i:=k-1) uE ua hlen.symm (by omega) (by rw[show k-1+1=k by omega];exact he.symm) (of_decide_eq_true h4))]
    ·refine again (s':=pt r s (zG (zy (k-1)) 1)) (m:=k-1) (by simp[eC,pt,aC,vi,vl]) (by simp[eF,pt,aC]) rfl (Nat.le_refl 2) (by omega) ⟨by omega,?_,rfl⟩
     have e3:=of_decide_eq_false h3;have e4:=of_decide_eq_false h4;rw[j5 (show k-1<l.length by omega),j5 (show k-1<m.length by omega),show k-1+1=k by omega,he,show l.getD (k-1) 0=m.getD (k-1) 0 by omega]
   ·rw[hz]at h
    have h:=of_decide_eq_false h;obtain rfl:k=0:=by omega
    simp only[List.drop_zero]at he;rw[hc,he,GM]
end Go.Proofs.YtekefilngojelaaGreat
end
section
namespace Go.Abs.M
theorem Cm (l:List Int) (k:Nat):val (l.take (k+1))=val (l.take k)+4294967296^k*l.getD k 0:=by
 rcases Nat.lt_or_ge k l.length with h|h
 ·exact jJ h
 ·rw[List.take_of_length_le (by omega),List.take_of_length_le h,List.getD_eq_getElem?_getD,List.getElem?_eq_none h];simp
theorem xu {l:List Int} {k:Nat} (x:Int) (h:k<l.length):(l.set k x).take (k+1)=l.take k ++ [x]:=by
 rw[mE (by simpa using h)];congr 1
 ·rw[List.take_set_of_le (Nat.le_refl _)]
 ·simp[List.getD_eq_getElem?_getD,h]
theorem N5 {l:List Int} {k:Nat} (x:Int) (h:k<l.length):val ((l.set k x).take (k+1))=val (l.take k)+4294967296^k*x:=by
 rw[xu x h,fx,List.length_take,Nat.min_eq_left (Nat.le_of_lt h)];simp[val]
theorem PI {l:List Int} {k:Nat} (x:Int):(l.set k x).drop (k+1)=l.drop (k+1):=List.drop_set_of_lt (Nat.lt_succ_self k)
theorem oq {l:List Int} {k:Nat} (x:Int) (h:k<l.length):(l.set k x).getD k 0=x:=by simp[List.getD_eq_getElem?_getD,h]
theorem vZ {p t vo vl vm a b c:Int} (h:vo+c*p=vl+vm) (ht:t=a+b+c):vo+p*(t%4294967296)+t/4294967296*(p*4294967296)=(vl+p*a)+(vm+p*b):=by
 have:t%4294967296+4294967296*(t/4294967296)=t:=Int.emod_add_mul_ediv t 4294967296;generalize t%4294967296=r at *;generalize t/4294967296=q at *;grind
theorem Kp {p t vo vl vm a b c:Int} (h:vo=vl-vm+c*p) (ht:t=4294967296+a-b-c):vo+p*(t%4294967296)=(vl+p*a)-(vm+p*b)+(1-t/4294967296)*(p*4294967296):=by
 have:t%4294967296+4294967296*(t/4294967296)=t:=Int.emod_add_mul_ediv t 4294967296;generalize t%4294967296=r at *;generalize t/4294967296=q at *;grind
theorem Dp {p t vo v0 x m w c q pi:Int} (h:vo+c*p=v0+x*pi*q) (ht:t=x*m+w+c) {pj:Int} (hp:p=pi*pj):vo+(t%4294967296-w)*p+t/4294967296*(p*4294967296)=v0+x*pi*(q+pj*m):=by
 have:t%4294967296+4294967296*(t/4294967296)=t:=Int.emod_add_mul_ediv t 4294967296;generalize t%4294967296=r at *;generalize t/4294967296=q' at *;subst hp;grind
theorem yp {x m w c:Int} (hx:0<=x/\x<4294967296) (hm:0<=m/\m<4294967296) (hw:0<=w/\w<4294967296) (hc:0<=c/\c<4294967296):0<=x*m/\x*m+w+c<18446744073709551616:=by
 have h1:x*m<=4294967295*4294967295:=Int.mul_le_mul (by omega) (by omega) hm.1 (by omega);exact⟨Int.mul_nonneg hx.1 hm.1,by omega⟩
theorem Dq {o:List Int} {k:Nat} (hw:Wd o) (hk:k<o.length) (h:val o<4294967296^k):o.getD k 0=0:=by
 have h1:=MQ o k (by omega);rw[HP hk]at h1;have h2:=sC (hw.take k);have h3:=sC (hw.drop (k+1));have h4:=hw.get k;have hp:=xb k;rcases Int.lt_or_le 0 (o.getD k 0) with h5|h5
 ·exfalso
  have:4294967296^k*1<=4294967296^k*(o.getD k 0+4294967296*val (o.drop (k+1))):=Int.mul_le_mul_of_nonneg_left (by omega) (by omega);omega
 ·omega
theorem v8 {a b:Int} {i j:Nat} (ha:0<=a) (hb:0<=b) (h1:a<4294967296^i) (h2:b<4294967296^j):a*b<4294967296^(i+j):=by
 rw[Int.pow_add];have hp:=xb i;have hq:=xb j;have e1:a*b<=a*4294967296^j:=Int.mul_le_mul_of_nonneg_left (by omega) ha;have e2:a*4294967296^j<4294967296^i*4294967296^j:=Int.mul_lt_mul_of_pos_right h1 hq;omega
theorem Fs {d t r a q vo:Int} (h:q=d*vo+r) (ht:t=r*4294967296+a):a+4294967296*q=d*(t/d+4294967296*vo)+t%d:=by
 have:t%d+d*(t/d)=t:=Int.emod_add_mul_ediv t d;generalize t%d=r' at *;generalize t/d=q' at *;grind
theorem Dr {d r a:Int} (hd:0<d) (hr:0<=r/\r<d) (ha:0<=a/\a<4294967296):0<=(r*4294967296+a)/d/\(r*4294967296+a)/d<4294967296:=by
 refine⟨Int.ediv_nonneg (by omega) (by omega),Int.ediv_lt_of_lt_mul hd ?_⟩;have:(r+1)*4294967296<=d*4294967296:=Int.mul_le_mul_of_nonneg_right (by omega) (by omega);have e:(r+1)*4294967296=r*4294967296+4294967296:=by omega
 have e2:4294967296*d=d*4294967296:=Int.mul_comm ..;omega
end Go.Abs.M
end
section
namespace Go.Proofs.YtekefilngojelaaGreat
open Go Go.Abs Go.Abs.M Go.Proofs
def px (r s R:Abs.Rows) (n:Int) (len:Nat) (c i:Int):St:=aC 42 [vl r,vl s,.aj,.aj,eW,vi .i64 n,.c (.sl 2 0 len false),vi .u64 c,vi .i64 i] [none,none,some (.rows 1 R true false)]
theorem tM {r s:Abs.Rows} {l m:List Int} (hr:r=W .u32 l) (hs:s=W .u32 m) (hl:l.length<=1099511627776) (hm:m.length<=1099511627776) (ua:Wd l) (uE:Wd m) :
  aA Tryz.prog 129 [.val (tl r),.val (tl s)] ⟨[.val (tl (W .u32 (dg (val l+val m).toNat)))],[none,none]⟩:=by
 obtain⟨n,hn⟩:∃n:Nat,n=max l.length m.length+1:=⟨_,rfl⟩;refine aV aD mixed [.val] Tryz.func129 rfl rfl (by kernel_rfl) fun zD zE zG zH zI zJ zK zL zM zN zO zR zS zT zU zV zX zY zZ zg zh zj zu zy zz aK ah aI aH ak aq ae aE aB aG ao az aJ an aO au aP ai aM aN ay aw aL ar zW bc A L F hS hF=>?_
 have h1:ae r=l.length:=by rw[hS.len,hr,iZ]
 have h2:ae s=m.length:=by rw[hS.len,hs,iZ]
 have hN:zD .i64 (zE (zg (zy (ae r)) (zy (ae s))) 1)=zy n:=by
  rw[h1,h2,hS.wrap,hS.add,hS.max,hS.aW,hS.aW,hS.aW,hn];split
  ·rw[wrap_i64 (by omega) (by omega)];omega
  ·rw[wrap_i64 (by omega) (by omega)];omega
 have Ft:zj (zy n)=n:=by rw[hS.nat,hS.aW];omega
 have iR:aP n [.v (.int .u32 0)]=zW .u32 (List.replicate n 0):=by rw[hS.rep,hS.W];exact vW ..
 cbv;rw[hN,Ft,iR];refine nd (by rw[hS.my,hS.aW];exact decide_eq_true (by unfold aF;omega)) ?_;refine fH aD mixed hS (fun(j:Nat) s'=>∃(k:Nat) (o:List Int) (c:Int),k+j=n/\o.length=n/\Wd o/\(0<=c/\c<=1)/\val (o.take k)+c*4294967296^k=val (l.take k)+val (m.take k)/\s'=px r s (zW .u32 o) (zy n) n c (zy k)) (n:=n)
  (s0:=px r s (zW .u32 (List.replicate n 0)) (zy n) n 0 (zy 0)) (iY ?_ ?_) rfl (Nat.le_succ 2) ?_ ?_
 ·simp[eC,px,aC,vi,vl,eW,hS.aW]
 ·simp[eF,px,aC]
 ·exact⟨0,_,0,by omega,by simp,Wd.rep _,by omega,by simp[val],rfl⟩
 ·rintro j _ ⟨k,o,c,hk,ho,hw,hc,hv,rfl⟩
  have ga:=ua.get k;have gb:=uE.get k;have hwa:=fy (zy k) hr (by omega) ua (by rw[hS.aW];omega);have Kq:=fy (zy k) hs (by omega) uE (by rw[hS.aW];omega);rw[show(zy k).toNat=k by rw[hS.aW];omega]at hwa Kq;obtain⟨t,ht⟩:∃t,t=l.getD k 0+m.getD k 0+c:=⟨_,rfl⟩;have dC:=vZ hv ht;have e1:zD .u64 (zE (zD .u64 (zE (l.getD k 0) (m.getD k 0))) c)=t:=by
   rw[hS.wrap,hS.add,hS.wrap,hS.add,fg (x:=l.getD k 0+m.getD k 0) (by omega) (by omega),fg (by omega) (by omega),ht]
  have e2:zD .u32 (zJ t 4294967296)=t%4294967296:=by rw[hS.rem,Int.tmod_eq_emod_of_nonneg (by omega),hS.wrap];exact Ja (by omega) (by omega)
  have e3:zD .u64 (zI t 4294967296)=t/4294967296:=by rw[hS.quo,Int.tdiv_eq_ediv_of_nonneg (by omega),hS.wrap];exact fg (by omega) (by omega)
  have e4:zD .i64 (zE (zy k) 1)=zy (k+1):=by rw[hS.wrap,hS.add,hS.aW,hS.aW,wrap_i64 (by omega) (by omega)];omega
  have e5:zz 0 (zy k)=k:=by rw[hS.idx,hS.aW];omega
  have e6:zU (zy k) (zy n)=decide (k<n):=by
   rw[hS.lt,hS.aW,hS.aW]
   by_cases h:k<n
   ·rw[decide_eq_true h];exact decide_eq_true (by omega)
   ·rw[decide_eq_false h];exact decide_eq_false (by omega)
  have e7:∀x,az .u32 (zW .u32 o) k x=zW .u32 (o.set k x):=fun x=>by rw[hS.nK,hS.W,oo]
  have e8:k<n->zu (zy k) n=true:=fun h=>by rw[hS.xo,hS.aW];exact decide_eq_true (by omega)
  have e9:k<n->aG .u32 (zW .u32 o) k=true:=fun h=>by rw[hS.gJ,hS.W,lS];exact decide_eq_true (by omega)
  have Bi:aJ 0 n (zW .u32 o)=true:=by rw[hS.fit,hS.W,iZ];exact decide_eq_true (by omega)
  have Kr:an (zW .u32 o) 0 n=W .u32 o:=by rw[hS.part,hS.W,jH,List.drop_zero,List.take_of_length_le (by omega)]
  have hT:=N4 (r:=W .u32 o) rfl (by omega) hw;have eQ:k=n->val o=val l+val m:=fun h=>by
   subst h;rw[List.take_of_length_le (by omega),List.take_of_length_le (by omega),List.take_of_length_le (by omega)]at hv;have b1:=Bf ua;have b2:=Bf uE;have b3:=jv (show l.length<=max l.length m.length by omega);have b4:=jv (show m.length<=max l.length m.length by omega);have b5:(4294967296:Int)^k=4294967296^max l.length m.length*4294967296:=by rw[hn,Int.pow_succ]
   have b6:=sC hw;have b7:=xb (max l.length m.length);rcases(show c=0∨c=1 by omega) with rfl|rfl
   ·omega
   ·omega
  have jj:k<n->val ((o.set k (t%4294967296)).take (k+1))=val (o.take k)+4294967296^k*(t%4294967296):=fun h=>N5 _ (by omega)
  generalize LY:l.getD k 0=a at *;generalize GN:m.getD k 0=b at *;cbv;refine⟨fun h=>?_,fun h=>?_⟩
  all_goals rw[e6]at h
  ·have h:=of_decide_eq_true h
   refine⟨_,hS.call hwa,?_⟩;cbv;refine⟨_,hS.call Kq,?_⟩;cbv;rw[e1,e2,e3,e4,e5,e7];refine nd (e8 h) (nd (e9 h) ?_);refine again (s':=px r s (zW .u32 (o.set k (t%4294967296))) (zy n) n (t/4294967296) (zy (k+1))) (m:=j-1) (by simp[eC,px,aC,vi,vl,eW]) (by simp[eF,px,aC]) rfl (Nat.le_succ 2) (by omega) ⟨_,_,_,by omega,by simpa using ho,hw.set _ (by omega) (by omega),by omega,?_,rfl⟩
   rw[jj h,Cm l,Cm m,Int.pow_succ,LY,GN];exact dC
  ·have h:=of_decide_eq_false h
   rw[Kr];refine nd Bi ⟨_,hS.call hT,?_⟩;rw[eQ (by omega)];generalize W .u32 (dg (val l+val m).toNat)=x at *;cbv;exact hF _ (aS.refl _)
theorem kA {zU:Int->Int->Bool} {zy:Nat->Int} (h1:∀a b,zU a b=decide (a<b)) (h2:∀n:Nat,zy n=(n:Int)) (k n:Nat):zU (zy k) (zy n)=decide (k<n):=by
 rw[h1,h2,h2]
 by_cases h:k<n
 ·rw[decide_eq_true h];exact decide_eq_true (by omega)
 ·rw[decide_eq_false h];exact decide_eq_false (by omega)
def py (r s R:Abs.Rows) (len:Nat) (c i:Int):St:=aC 41 [vl r,vl s,.aj,.aj,eW,.c (.sl 2 0 len false),vi .u64 c,vi .i64 i] [none,none,some (.rows 1 R true false)]
theorem mG {r s:Abs.Rows} {l m:List Int} (hr:r=W .u32 l) (hs:s=W .u32 m) (hl:l.length<=1099511627776) (hm:m.length<=l.length) (ua:Wd l) (uE:Wd m) (Ef:val m<=val l) :
  aA Tryz.prog 130 [.val (tl r),.val (tl s)] ⟨[.val (tl (W .u32 (dg (val l-val m).toNat)))],[none,none]⟩:=by
 obtain⟨n,hn⟩:∃n:Nat,n=l.length:=⟨_,rfl⟩;refine aV aD mixed [.val] Tryz.func130 rfl rfl (by kernel_rfl) fun zD zE zG zH zI zJ zK zL zM zN zO zR zS zT zU zV zX zY zZ zg zh zj zu zy zz aK ah aI aH ak aq ae aE aB aG ao az aJ an aO au aP ai aM aN ay aw aL ar zW bc A L F hS hF=>?_
 have h1:ae r=n:=by rw[hS.len,hr,iZ,hn]
 have Ft:zj (zy n)=n:=by rw[hS.nat,hS.aW];omega
 have iR:aP n [.v (.int .u32 0)]=zW .u32 (List.replicate n 0):=by rw[hS.rep,hS.W];exact vW ..
 cbv;rw[h1,Ft,iR];refine nd (by rw[hS.my,hS.aW];exact decide_eq_true (by unfold aF;omega)) ?_;refine fH aD mixed hS (fun(j:Nat) s'=>∃(k:Nat) (o:List Int) (c:Int),k+j=n/\o.length=n/\Wd o/\(0<=c/\c<=1)/\val (o.take k)=val (l.take k)-val (m.take k)+c*4294967296^k/\s'=py r s (zW .u32 o) n c (zy k)) (n:=n)
  (s0:=py r s (zW .u32 (List.replicate n 0)) n 0 (zy 0)) (iY ?_ ?_) rfl (Nat.le_succ 2) ?_ ?_
 ·simp[eC,py,aC,vi,vl,eW,hS.aW]
 ·simp[eF,py,aC]
 ·exact⟨0,_,0,by omega,by simp,Wd.rep _,by omega,by simp[val],rfl⟩
 ·rintro j _ ⟨k,o,c,hk,ho,hw,hc,hv,rfl⟩
  have ga:=ua.get k;have gb:=uE.get k;have Kq:=fy (zy k) hs (by omega) uE (by rw[hS.aW];omega);rw[show(zy k).toNat=k by rw[hS.aW];omega]at Kq;obtain⟨t,ht⟩:∃t,t=4294967296+l.getD k 0-m.getD k 0-c:=⟨_,rfl⟩;have dC:=Kp hv ht;have e0:ao r (zj (zy k))=l.getD k 0:=by rw[hS.dL,hS.nat,hS.aW,hr,ph,Int.toNat_natCast]
  have e1:zD .u64 (zG (zD .u64 (zG (zD .u64 (zE 4294967296 (zD .u64 (l.getD k 0)))) (m.getD k 0))) c)=t:=by
   rw[hS.wrap,hS.wrap,hS.wrap,hS.wrap,hS.add,hS.sub,hS.sub,fg (x:=l.getD k 0) (by omega) (by omega),fg (x:=4294967296+l.getD k 0) (by omega) (by omega),fg (x:=4294967296+l.getD k 0-m.getD k 0) (by omega) (by omega),fg (by omega) (by omega),ht]
  have e2:zD .u32 (zJ t 4294967296)=t%4294967296:=by rw[hS.rem,Int.tmod_eq_emod_of_nonneg (by omega),hS.wrap];exact Ja (by omega) (by omega)
  have e3:zD .u64 (zG 1 (zD .u64 (zI t 4294967296)))=1-t/4294967296:=by rw[hS.quo,Int.tdiv_eq_ediv_of_nonneg (by omega),hS.wrap,hS.wrap,fg (x:=t/4294967296) (by omega) (by omega),hS.sub];exact fg (by omega) (by omega)
  have e4:k<n->zD .i64 (zE (zy k) 1)=zy (k+1):=fun h=>by rw[hS.wrap,hS.add,hS.aW,hS.aW,wrap_i64 (by omega) (by omega)];omega
  have e5:zz 0 (zy k)=k:=by rw[hS.idx,hS.aW];omega
  have e6:=kA hS.lt hS.aW k n;have e7:∀x,az .u32 (zW .u32 o) k x=zW .u32 (o.set k x):=fun x=>by rw[hS.nK,hS.W,oo]
  have e8:k<n->zu (zy k) n=true:=fun h=>by rw[hS.xo,hS.aW];exact decide_eq_true (by omega)
  have e9:k<n->aG .u32 (zW .u32 o) k=true:=fun h=>by rw[hS.gJ,hS.W,lS];exact decide_eq_true (by omega)
  have PJ:k<n->aG .u32 r (zj (zy k))=true:=fun h=>by rw[hS.gJ,hr,hS.nat,hS.aW,lS];exact decide_eq_true (by omega)
  have Ks:zV 0 (zy k)=true:=by rw[hS.le,hS.aW];exact decide_eq_true (by omega)
  have Bi:aJ 0 n (zW .u32 o)=true:=by rw[hS.fit,hS.W,iZ];exact decide_eq_true (by omega)
  have Kr:an (zW .u32 o) 0 n=W .u32 o:=by rw[hS.part,hS.W,jH,List.drop_zero,List.take_of_length_le (by omega)]
  have hT:=N4 (r:=W .u32 o) rfl (by omega) hw;have eQ:k=n->val o=val l-val m:=fun h=>by
   subst h;rw[List.take_of_length_le (by omega),List.take_of_length_le (by omega),List.take_of_length_le (by omega)]at hv;have b1:=Bf hw;rw[ho]at b1;have b7:=xb k;rcases(show c=0∨c=1 by omega) with rfl|rfl
   ·omega
   ·omega
  have jj:k<n->val ((o.set k (t%4294967296)).take (k+1))=val (o.take k)+4294967296^k*(t%4294967296):=fun h=>N5 _ (by omega)
  generalize LY:l.getD k 0=a at *;generalize GN:m.getD k 0=b at *;cbv;refine⟨fun h=>?_,fun h=>?_⟩
  all_goals rw[h1]at h
  all_goals rw[e6]at h
  ·have h:=of_decide_eq_true h
   refine nd Ks (nd (PJ h) ?_);rw[e0];refine⟨_,hS.call Kq,?_⟩;cbv;rw[e1,e2,e3,e4 h,e5,e7];refine nd (e8 h) (nd (e9 h) ?_);refine again (s':=py r s (zW .u32 (o.set k (t%4294967296))) n (1-t/4294967296) (zy (k+1))) (m:=j-1) (by simp[eC,py,aC,vi,vl,eW]) (by simp[eF,py,aC]) rfl (Nat.le_succ 2) (by omega) ⟨_,_,_,by omega,by simpa using ho,hw.set _ (by omega) (by omega),by omega,?_,rfl⟩
   rw[jj h,Cm l,Cm m,Int.pow_succ,LY,GN];exact dC
  ·have h:=of_decide_eq_false h
   rw[Kr];refine nd Bi ⟨_,hS.call hT,?_⟩;rw[eQ (by omega)];generalize W .u32 (dg (val l-val m).toNat)=x at *;cbv;exact hF _ (aS.refl _)
open Go Go.Abs Go.Abs.M Go.Proofs
def pz (r R:Abs.Rows) (d:Int) (len:Nat) (c i:Int):St:=aC 41 [vl r,vi .u64 d,.aj,.aj,eW,vi .u64 0,.c (.sl 2 0 len false),vi .u64 c,vi .i64 i] [none,none,some (.rows 1 R true false)]
theorem ou {r:Abs.Rows} {l:List Int} (d q e:Int) (hr:r=W .u32 l) (hl:l.length<=1099511627776) (ua:Wd l) (hd:0<d) (Vx:d<4294967296) (hq:q=val l/d) (he:e=val l%d) :
  aA Tryz.prog 153 [.val (tl r),.val (ti .u64 d)] ⟨[.val (tl (W .u32 (dg q.toNat))),.val (ti .u64 e)],[none,none]⟩:=by
 obtain⟨n,hn⟩:∃n:Nat,n=l.length:=⟨_,rfl⟩;refine aV aD mixed [.val,.val] Tryz.func153 rfl rfl (by kernel_rfl) fun zD zE zG zH zI zJ zK zL zM zN zO zR zS zT zU zV zX zY zZ zg zh zj zu zy zz aK ah aI aH ak aq ae aE aB aG ao az aJ an aO au aP ai aM aN ay aw aL ar zW bc A L F hS hF=>?_
 have h1:ae r=n:=by rw[hS.len,hr,iZ,hn]
 have Ft:zj (zy n)=n:=by rw[hS.nat,hS.aW];omega
 have iR:aP n [.v (.int .u32 0)]=zW .u32 (List.replicate n 0):=by rw[hS.rep,hS.W];exact vW ..
 have Tt:zD .i64 (zG (zy n) 1)=zG (zy n) 1:=by rw[hS.wrap,hS.sub,hS.aW];exact wrap_i64 (by omega) (by omega)
 have hdz:zT d 0=true:=by rw[hS.ne];exact decide_eq_true (by omega)
 cbv;rw[h1,Ft,iR,Tt];refine nd (by rw[hS.my,hS.aW];exact decide_eq_true (by unfold aF;omega)) ?_;refine fH aD mixed hS (fun(k:Nat) s'=>∃(o:List Int) (c:Int),k<=n/\o.length=n/\Wd o/\(0<=c/\c<d)/\val (l.drop k)=d*val (o.drop k)+c/\s'=pz r (zW .u32 o) d n c (zG (zy k) 1)) (n:=n)
  (s0:=pz r (zW .u32 (List.replicate n 0)) d n 0 (zG (zy n) 1)) (iY ?_ ?_) rfl (Nat.le_succ 2) ?_ ?_
 ·simp[eC,pz,aC,vi,vl,eW,hS.aW]
 ·simp[eF,pz,aC]
 ·refine⟨_,0,Nat.le_refl _,by simp,Wd.rep _,by omega,?_,rfl⟩
  rw[List.drop_of_length_le (by omega),List.drop_of_length_le (by simp)];simp[val]
 ·rintro k _ ⟨o,c,hk,ho,hw,hc,hv,rfl⟩
  have ga:=ua.get (k-1);obtain⟨t,ht⟩:∃t,t=c*4294967296+l.getD (k-1) 0:=⟨_,rfl⟩;have dC:=Fs hv ht;have hb:=Dr hd hc ga;rw[<-ht]at hb;have hcm:0<=c*4294967296/\c*4294967296<=4294967294*4294967296:=by omega
  have O8:=Int.emod_nonneg t (show d≠0 by omega);have aa1:=Int.emod_lt_of_pos t hd;have hi:zG (zy k) 1=(k:Int)-1:=by rw[hS.sub,hS.aW]
  have hz:zV 0 (zG (zy k) 1)=decide (1<=k):=by
   rw[hS.le,hi]
   by_cases h:1<=k
   ·rw[decide_eq_true h];exact decide_eq_true (by omega)
   ·rw[decide_eq_false h];exact decide_eq_false (by omega)
  have Gw:1<=k->zj (zG (zy k) 1)=k-1:=fun h=>by rw[hS.nat,hi];omega
  have e0:1<=k->ao r (zj (zG (zy k) 1))=l.getD (k-1) 0:=fun h=>by rw[hS.dL,Gw h,hr,ph]
  have e1:zD .u64 (zE (zD .u64 (zH c 4294967296)) (zD .u64 (l.getD (k-1) 0)))=t:=by
   rw[hS.wrap,hS.wrap,hS.wrap,hS.mul,hS.add,fg (x:=l.getD (k-1) 0) (by omega) (by omega),fg (x:=c*4294967296) (by omega) (by omega),fg (by omega) (by omega),ht]
  have e2:zD .u32 (zD .u64 (zI t d))=t/d:=by rw[hS.quo,Int.tdiv_eq_ediv_of_nonneg (by omega),hS.wrap,hS.wrap,fg (x:=t/d) (by omega) (by omega)];exact Ja (by omega) (by omega)
  have e3:zJ t d=t%d:=by rw[hS.rem,Int.tmod_eq_emod_of_nonneg (by omega)]
  have e4:1<=k->zD .i64 (zG (zG (zy k) 1) 1)=zG (zy (k-1)) 1:=fun h=>by rw[hi,hS.wrap,hS.sub,hS.sub,hS.aW,wrap_i64 (by omega) (by omega)];omega
  have e5:1<=k->zz 0 (zG (zy k) 1)=k-1:=fun h=>by rw[hS.idx,hi];omega
  have e7:∀x,az .u32 (zW .u32 o) (k-1) x=zW .u32 (o.set (k-1) x):=fun x=>by rw[hS.nK,hS.W,oo]
  have e8:1<=k->zu (zG (zy k) 1) n=true:=fun h=>by rw[hS.xo,hi];exact decide_eq_true (by omega)
  have e9:1<=k->aG .u32 (zW .u32 o) (k-1)=true:=fun h=>by rw[hS.gJ,hS.W,lS];exact decide_eq_true (by omega)
  have PJ:1<=k->aG .u32 r (zj (zG (zy k) 1))=true:=fun h=>by rw[hS.gJ,hr,Gw h,lS];exact decide_eq_true (by omega)
  have Bi:aJ 0 n (zW .u32 o)=true:=by rw[hS.fit,hS.W,iZ];exact decide_eq_true (by omega)
  have Kr:an (zW .u32 o) 0 n=W .u32 o:=by rw[hS.part,hS.W,jH,List.drop_zero,List.take_of_length_le (by omega)]
  have hT:=N4 (r:=W .u32 o) rfl (by omega) hw;have eQ:k=0->val o=q/\c=e:=fun h=>by
   subst h;simp only[List.drop_zero]at hv;rw[hq,he,hv];exact⟨by rw[Int.add_comm,Int.add_mul_ediv_left _ _ (by omega),Int.ediv_eq_zero_of_lt hc.1 hc.2,Int.zero_add],by rw[Int.add_comm,Int.add_mul_emod_self_left,Int.emod_eq_of_lt hc.1 hc.2]⟩
  have jj:1<=k->val (l.drop (k-1))=d*val ((o.set (k-1) (t/d)).drop (k-1))+t%d:=fun h=>by
   rw[HP (l:=l) (by omega),HP (l:=o.set (k-1) (t/d)) (by simp;omega),oq _ (by omega),PI,show k-1+1=k by omega];exact dC
  generalize LY:l.getD (k-1) 0=a at *;cbv;refine⟨fun h=>?_,fun h=>?_⟩
  ·have a1:=h
   rw[hz]at h;have h:=of_decide_eq_true h;refine nd a1 (nd (PJ h) ?_);rw[e0 h,e1,e2,e3,e4 h,e5 h,e7];refine nd hdz (nd (e8 h) (nd (e9 h) (nd hdz ?_)));refine again (s':=pz r (zW .u32 (o.set (k-1) (t/d))) d n (t%d) (zG (zy (k-1)) 1)) (m:=k-1) (by simp[eC,pz,aC,vi,vl,eW]) (by simp[eF,pz,aC]) rfl (Nat.le_succ 2) (by omega) ⟨_,_,by omega,by simpa using ho,hw.set _ (by omega) (by omega),by omega,jj h,rfl⟩
  ·rw[hz]at h
   have h:=of_decide_eq_false h;rw[Kr];obtain⟨z1,z2⟩:=eQ (by omega);refine nd Bi ⟨_,hS.call hT,?_⟩;rw[z1];generalize W .u32 (dg q.toNat)=x at *;cbv;exact MN hF rfl (lh z2)
def pA (r s R:Abs.Rows) (len:Nat) (i:Int):St:=aC 69 [vl r,vl s,.aj,.aj,eW,.c (.sl 2 0 len false),vi .i64 i] [none,none,some (.rows 1 R true false)]
def kC (r s R:Abs.Rows) (len:Nat) (i c j:Int):St:=aC 69 [vl r,vl s,.aj,.aj,eW,.c (.sl 2 0 len false),vi .i64 i,vi .u64 c,vi .i64 j] [none,none,some (.rows 1 R true false)]
theorem mH {r s:Abs.Rows} {l m:List Int} (hr:r=W .u32 l) (hs:s=W .u32 m) (hl:l.length<=1099511627776) (hm:m.length<=1099511627776) (ua:Wd l) (uE:Wd m) :
  aA Tryz.prog 132 [.val (tl r),.val (tl s)] ⟨[.val (tl (W .u32 (dg (val l*val m).toNat)))],[none,none]⟩:=by
 obtain⟨n,hn⟩:∃n:Nat,n=l.length+m.length:=⟨_,rfl⟩;refine aV aD mixed [.val] Tryz.func132 rfl rfl (by kernel_rfl) fun zD zE zG zH zI zJ zK zL zM zN zO zR zS zT zU zV zX zY zZ zg zh zj zu zy zz aK ah aI aH ak aq ae aE aB aG ao az aJ an aO au aP ai aM aN ay aw aL ar zW bc A L F hS hF=>?_
 have h1:ae r=l.length:=by rw[hS.len,hr,iZ]
 have h2:ae s=m.length:=by rw[hS.len,hs,iZ]
 have hN:zD .i64 (zE (zy (ae r)) (zy (ae s)))=zy n:=by
  rw[h1,h2,hS.wrap,hS.add,hS.aW,hS.aW,hS.aW,hn,wrap_i64 (by omega) (by omega)];omega
 have Ft:zj (zy n)=n:=by rw[hS.nat,hS.aW];omega
 have iR:aP n [.v (.int .u32 0)]=zW .u32 (List.replicate n 0):=by rw[hS.rep,hS.W];exact vW ..
 cbv;rw[hN,Ft,iR];refine nd (by rw[hS.my,hS.aW];exact decide_eq_true (by unfold aF;omega)) ?_;refine fH aD mixed hS (fun(u:Nat) s'=>∃(k:Nat) (o:List Int),k+u=l.length/\o.length=n/\Wd o/\val o=val (l.take k)*val m/\s'=pA r s (zW .u32 o) n (zy k)) (n:=l.length)
  (s0:=pA r s (zW .u32 (List.replicate n 0)) n (zy 0)) (iY ?_ ?_) rfl (Nat.le_succ 2) ?_ ?_
 ·simp[eC,pA,aC,vi,vl,eW,hS.aW]
 ·simp[eF,pA,aC]
 ·exact⟨0,_,by omega,by simp,Wd.rep _,by rw[Bg];simp[val],rfl⟩
 ·rintro u _ ⟨k,o,hk,ho,hw,hv,rfl⟩
  have gx:=ua.get k;have Bi:aJ 0 n (zW .u32 o)=true:=by rw[hS.fit,hS.W,iZ];exact decide_eq_true (by omega)
  have Kr:an (zW .u32 o) 0 n=W .u32 o:=by rw[hS.part,hS.W,jH,List.drop_zero,List.take_of_length_le (by omega)]
  have hT:=N4 (r:=W .u32 o) rfl (by omega) hw;have e6:=kA hS.lt hS.aW k l.length;have PJ:k<l.length->aG .u32 r (zj (zy k))=true:=fun h=>by rw[hS.gJ,hr,hS.nat,hS.aW,lS];exact decide_eq_true (by omega)
  have Ks:zV 0 (zy k)=true:=by rw[hS.le,hS.aW];exact decide_eq_true (by omega)
  have e0:ao r (zj (zy k))=l.getD k 0:=by rw[hS.dL,hS.nat,hS.aW,hr,ph,Int.toNat_natCast]
  have ew:zD .u64 (l.getD k 0)=l.getD k 0:=by rw[hS.wrap,fg (by omega) (by omega)]
  have X8:=Cm l k;have eQ:k=l.length->val o=val l*val m:=fun h=>by
   subst h;rw[List.take_of_length_le (Nat.le_refl _)]at hv;exact hv
  have lV:val o<4294967296^(k+m.length):=by
   rw[hv];have b:=Bf (ua.take k);rw[List.length_take,Nat.min_eq_left (by omega)]at b;exact v8 (sC (ua.take k)) (sC uE) b (Bf uE)
  generalize LY:l.getD k 0=x at *;cbv;refine⟨fun h=>?_,fun h=>?_⟩
  all_goals rw[h1]at h
  all_goals rw[e6]at h
  ·have h:=of_decide_eq_true h
   refine fH aD mixed hS (fun(u':Nat) s'=>∃(j:Nat) (o':List Int) (c:Int),j+u'=m.length/\o'.length=n/\Wd o'/\(0<=c/\c<4294967296)/\o'.drop (k+j)=o.drop (k+j)/\val o'+c*4294967296^(k+j)=val o+x*4294967296^k*val (m.take j)/\s'=kC r s (zW .u32 o') n (zy k) c (zy j)) (n:=m.length)
    (s0:=kC r s (zW .u32 o) n (zy k) 0 (zy 0)) (iY ?_ ?_) rfl (Nat.le_succ 2) ?_ ?_
   ·simp[eC,kC,aC,vi,vl,eW,hS.aW]
   ·simp[eF,kC,aC]
   ·exact⟨0,_,0,by omega,ho,hw,by omega,rfl,by simp[val],rfl⟩
   ·rintro u' _ ⟨j,o',c,hj,Tu,PK,hc,GO,rK,rfl⟩
    have gm:=uE.get j;have gw:=PK.get (k+j);have hb:=yp gx gm gw hc;obtain⟨t,ht⟩:∃t,t=x*m.getD j 0+o'.getD (k+j) 0+c:=⟨_,rfl⟩;have dC:=Dp rK ht (Int.pow_add 4294967296 k j);have f6:=kA hS.lt hS.aW j m.length;have f9:j<m.length->aG .u32 s (zj (zy j))=true:=fun h=>by rw[hS.gJ,hs,hS.nat,hS.aW,lS];exact decide_eq_true (by omega)
    have PM:zV 0 (zy j)=true:=by rw[hS.le,hS.aW];exact decide_eq_true (by omega)
    have f0:ao s (zj (zy j))=m.getD j 0:=by rw[hS.dL,hS.nat,hS.aW,hs,ph,Int.toNat_natCast]
    have f1:j<=m.length->zD .i64 (zE (zy k) (zy j))=zy (k+j):=fun h=>by rw[hS.wrap,hS.add,hS.aW,hS.aW,hS.aW,wrap_i64 (by omega) (by omega)];omega
    have Rd:zD .i64 (zE (zy k) (zy m.length))=zy (k+m.length):=by rw[hS.wrap,hS.add,hS.aW,hS.aW,hS.aW,wrap_i64 (by omega) (by omega)];omega
    have f2:∀q,zz 0 (zy q)=q:=fun q=>by rw[hS.idx,hS.aW];omega
    have f3:∀q,q<n->zu (zy q) n=true:=fun q hq=>by rw[hS.xo,hS.aW];exact decide_eq_true (by omega)
    have f4:∀q,q<n->aG .u32 (zW .u32 o') q=true:=fun q hq=>by rw[hS.gJ,hS.W,lS];exact decide_eq_true (by omega)
    have f5:∀q,ao (zW .u32 o') q=o'.getD q 0:=fun q=>by rw[hS.dL,hS.W,ph]
    have f7:∀q y,az .u32 (zW .u32 o') q y=zW .u32 (o'.set q y):=fun q y=>by rw[hS.nK,hS.W,oo]
    have X9:zD .u64 (m.getD j 0)=m.getD j 0:=by rw[hS.wrap,fg (by omega) (by omega)]
    have Ya:zD .u64 (o'.getD (k+j) 0)=o'.getD (k+j) 0:=by rw[hS.wrap,fg (by omega) (by omega)]
    have f8:zD .u64 (zE (zD .u64 (zE (zD .u64 (zH x (m.getD j 0))) (o'.getD (k+j) 0))) c)=t:=by
     rw[hS.wrap,hS.wrap,hS.wrap,hS.mul,hS.add,hS.add,fg (x:=x*m.getD j 0) (by omega) (by omega),fg (x:=x*m.getD j 0+o'.getD (k+j) 0) (by omega) (by omega),fg (by omega) (by omega),ht]
    have e2:zD .u32 (zJ t 4294967296)=t%4294967296:=by rw[hS.rem,Int.tmod_eq_emod_of_nonneg (by omega),hS.wrap];exact Ja (by omega) (by omega)
    have e3:zD .u64 (zI t 4294967296)=t/4294967296:=by rw[hS.quo,Int.tdiv_eq_ediv_of_nonneg (by omega),hS.wrap];exact fg (by omega) (by omega)
    have Yb:zD .u32 c=c:=by rw[hS.wrap];exact Ja (by omega) (by omega)
    have e4:j<m.length->zD .i64 (zE (zy j) 1)=zy (j+1):=fun h=>by rw[hS.wrap,hS.add,hS.aW,hS.aW,wrap_i64 (by omega) (by omega)];omega
    have SB:zD .i64 (zE (zy k) 1)=zy (k+1):=by rw[hS.wrap,hS.add,hS.aW,hS.aW,wrap_i64 (by omega) (by omega)];omega
    have jj:∀q y,q<n->val (o'.set q y)=val o'+(y-o'.getD q 0)*4294967296^q:=fun q y hq=>Bh _ _ _ (by omega)
    have Yc:j=m.length->o'.getD (k+j) 0=0:=fun hj=>by
     have e:o'.getD (k+j) 0=o.getD (k+j) 0:=by
      have:=congrArg (fun y=>List.getD y 0 0) GO;simpa[List.getD_eq_getElem?_getD]using this
     rw[e,hj];exact Dq hw (by omega) lV
    have htt:0<=t:=by omega
    have Rn:t<18446744073709551616:=by omega
    have Yd:=Cm m j;have Ew:j=m.length->m.take j=m:=fun h=>List.take_of_length_le (by omega)
    clear ht hb;generalize GN:m.getD j 0=y at *;generalize Bj:o'.getD (k+j) 0=w at *;cbv;refine⟨fun h'=>?_,fun h'=>?_⟩
    all_goals rw[h2]at h'
    all_goals rw[f6]at h'
    ·have h':=of_decide_eq_true h'
     rw[f1 (by omega),f2,f0,e0,ew,X9,f5,Bj,Ya,f8,e2,e3,e4 h',f7];refine nd Ks (nd (PJ h) (nd PM (nd (f9 h') (nd (f3 _ (by omega)) (nd (f4 _ (by omega)) (nd (f3 _ (by omega)) (nd (f4 _ (by omega)) ?_)))))));refine again (s':=kC r s (zW .u32 (o'.set (k+j) (t%4294967296))) n (zy k) (t/4294967296) (zy (j+1))) (m:=u'-1) (by simp[eC,kC,aC,vi,vl,eW]) (by simp[eF,kC,aC]) rfl (Nat.le_succ 2) (by omega)
      ⟨_,_,_,by omega,by simpa using Tu,PK.set _ (by omega) (by omega),by omega,?_,?_,rfl⟩
     ·rw[show k+(j+1)=k+j+1 by omega,PI]
      have:=congrArg (List.drop 1) GO;simpa[List.drop_drop]using this
     ·rw[jj _ _ (by omega),Bj,show k+(j+1)=k+j+1 by omega,Int.pow_succ,Yd]
      exact dC
    ·have h':=of_decide_eq_false h'
     have N6:j=m.length:=by omega
     rw[h2,Rd,f2,Yb,SB,f7];refine nd (f3 _ (by omega)) (nd (f4 _ (by omega)) ?_);refine again (s':=pA r s (zW .u32 (o'.set (k+m.length) c)) n (zy (k+1))) (m:=u-1) (by simp[eC,pA,aC,vi,vl,eW]) (by simp[eF,pA,aC]) rfl (Nat.le_succ 2) (by omega)
      ⟨_,_,by omega,by simpa using Tu,PK.set _ (by omega) (by omega),?_,rfl⟩
     have e:=jj (k+j) c (by omega);rw[Bj,Yc N6]at e;rw[Ew N6,hv]at rK;rw[<-N6,e,X8];clear e Bj;generalize val (List.take k l)=p1 at *;generalize val m=p2 at *;generalize val o'=p3 at *;generalize (4294967296:Int)^k=p4 at *;generalize (4294967296:Int)^(k+j)=p5 at *;grind
  ·have h:=of_decide_eq_false h
   rw[Kr];refine nd Bi ⟨_,hS.call hT,?_⟩;rw[eQ (by omega)];generalize W .u32 (dg (val l*val m).toNat)=z at *;cbv;exact hF _ (aS.refl _)
end Go.Proofs.YtekefilngojelaaGreat
end
section
namespace Go.Abs
open Go.Abs.M
def lU (n:Nat) (r:Rows):Prop:=r=W .u32 (dg n)
structure eG (x:Int) (s:Bool) (r:Rows):Prop where
 s:s=decide (x<0)
 m:lU x.natAbs r
theorem eG.mk' (x:Int):eG x (decide (x<0)) (W .u32 (dg x.natAbs)):=⟨rfl,rfl⟩
theorem eG.of {x y:Int} {s:Bool} {r:Rows} (h:eG x s r) (e:x=y):eG y s r:=e▸h
theorem eG.inj {x:Int} {s t:Bool} {r q:Rows} (h:eG x s r) (h':eG x t q):s=t/\r=q:=⟨h.s.trans h'.s.symm,h.m.trans h'.m.symm⟩
theorem lU.len {n:Nat} {r:Rows} (h:lU n r):r.length=nl n:=by rw[h,iZ];rfl
end Go.Abs
end
section
namespace Go.Proofs.YtekefilngojelaaGreat
open Go Go.Abs Go.Abs.M Go.Proofs
theorem mJ {n:Nat} {r:Abs.Rows} (s t:Bool) (hr:lU n r) (hl:nl n<=2199023255552) (ht:t=(s&&decide (n≠0))):aA Tryz.prog 112 [.val (tb s),.val (tl r)] ⟨[.val (.agg (iT t r))],[none,none]⟩:=by
 have h:=Fq s t hr hl (ju n) (by
  rw[jI,ht]
  by_cases h:n=0
  ·subst h;rfl
  ·rw[decide_eq_true h,decide_eq_true (by omega)])
 rw[jI,Int.toNat_natCast,<-hr]at h;exact h
theorem eG.made {x:Int} {r:Abs.Rows} (hr:lU x.natAbs r) (t:Bool) (ht:t=decide (x<0)):eG x t r:=⟨ht,hr⟩
theorem gf (n:Int) (h1:-9223372036854775808<=n) (h2:n<9223372036854775808):∃u w,eG n u w/\aA Tryz.prog 76 [.val (ti .i64 n)] ⟨[.val (.agg (iT u w))],[none]⟩:=by
 obtain⟨w,hw⟩:∃w,lU n.natAbs w:=⟨_,rfl⟩;have hl:nl n.natAbs<=2:=tK (by omega);have mK:=jx n.natAbs (by omega) (by omega);rw[Int.toNat_natCast,show W .u32 (dg n.natAbs)=w from hw.symm]at mK;refine⟨_,w,⟨rfl,hw⟩,?_⟩;refine aV aD mixed [.val] Tryz.func76 rfl rfl (by kernel_rfl) fun zD zE zG zH zI zJ zK zL zM zN zO zR zS zT zU zV zX zY zZ zg zh zj zu zy zz aK ah aI aH ak aq ae aE aB aG ao az aJ an aO au aP ai aM aN ay aw aL ar zW bc A L F hS hF=>?_
 have e1:n<0->zD .u64 (zE (zD .u64 (zD .i64 (zG 0 (zD .i64 (zE n 1))))) 1)=n.natAbs:=fun h=>by
  rw[hS.wrap,hS.wrap,hS.wrap,hS.wrap,hS.add,hS.sub,hS.add,wrap_i64 (x:=n+1) (by omega) (by omega),wrap_i64 (by omega) (by omega),fg (x:=0-(n+1)) (by omega) (by omega),fg (by omega) (by omega)];omega
 have e2:¬n<0->zD .u64 n=n.natAbs:=fun h=>by rw[hS.wrap,fg (by omega) (by omega)];omega
 have m1:=fun h=>mJ true (decide (n<0)) hw (by omega) h
 have m2:=fun h=>mJ false (decide (n<0)) hw (by omega) h
 cbv;refine⟨fun h=>?_,fun h=>?_⟩
 all_goals rw[hS.lt]at h
 ·have h':=of_decide_eq_true h
  rw[e1 h'];refine⟨_,hS.call mK,?_⟩;have m:=m1 (by rw[h,decide_eq_true (by omega)];rfl);rw[h]at m hF;cbv;refine⟨_,hS.call m,?_⟩;cbv;exact hF _ (aS.refl _)
 ·have h':=of_decide_eq_false h
  rw[e2 h'];refine⟨_,hS.call mK,?_⟩;have m:=m2 (by rw[h];rfl);rw[h]at m hF;cbv;refine⟨_,hS.call m,?_⟩;cbv;exact hF _ (aS.refl _)
theorem pC {x:Int} {s:Bool} {r:Abs.Rows} (c:Int) (hx:eG x s r) (hc:c=bO x 0):aA Tryz.prog 103 [.val (.agg (iT s r))] ⟨[.val (ti .i64 c)],[none]⟩:=by
 have hl:r.length=nl x.natAbs:=hx.m.len;have hz:=@jw x.natAbs;refine aV aD mixed [.val] Tryz.func103 rfl rfl (by kernel_rfl) fun zD zE zG zH zI zJ zK zL zM zN zO zR zS zT zU zV zX zY zZ zg zh zj zu zy zz aK ah aI aH ak aq ae aE aB aG ao az aJ an aO au aP ai aM aN ay aw aL ar zW bc A L F hS hF=>?_
 cbv;rw[hx.s,hS.min,hS.aW,hS.len,hl];refine⟨fun h=>bX hF (lh ?_),fun h=>bX hF (lh ?_)⟩
 ·rw[hc,fp (of_decide_eq_true h)]
 ·have:=of_decide_eq_false h
  by_cases h0:x=0
  ·subst h0;rw[hc];rfl
  ·rw[hc,gS (by omega)];split<;>omega
theorem Ds {x y:Int}:bO (-x) (-y)=bO y x:=by
 unfold bO
 by_cases h:x<y
 ·rw[if_neg (by omega),if_pos (by omega),if_neg (by omega),if_pos h]
 ·by_cases h':y<x
  ·rw[if_pos (by omega),if_pos h']
  ·rw[if_neg (by omega),if_neg (by omega),if_neg h',if_neg h]
theorem HQ {x y:Int} {s t:Bool} {r q:Abs.Rows} (c:Int) (hx:eG x s r) (hy:eG y t q) (hc:c=bO x y) (h1:nl x.natAbs<=2199023255552) (h2:nl y.natAbs<=2199023255552) :
  aA Tryz.prog 134 [.val (.agg (iT s r)),.val (.agg (iT t q))] ⟨[.val (ti .i64 c)],[none,none]⟩:=by
 have c1:=Ts (bO x.natAbs y.natAbs) hx.m hy.m h1 h2 (ju _) (ju _) (ja _) (ja _) (by rw[jI,jI]);have c2:=Ts (bO y.natAbs x.natAbs) hy.m hx.m h2 h1 (ju _) (ju _) (ja _) (ja _) (by rw[jI,jI]);have n1:x<0->y<0->bO y.natAbs x.natAbs=c:=fun h h'=>by rw[show(y.natAbs:Int)=-y by omega,show(x.natAbs:Int)=-x by omega,Ds,hc]
 have n2:¬x<0->¬y<0->bO x.natAbs y.natAbs=c:=fun h h'=>by rw[show(y.natAbs:Int)=y by omega,show(x.natAbs:Int)=x by omega,hc]
 have n3:x<0->¬y<0->-1=c:=fun h h'=>by rw[hc,fp (by omega)]
 have n4:¬x<0->y<0->1=c:=fun h h'=>by rw[hc,gS (by omega)]
 have hs:=hx.s;have ht:=hy.s;generalize bO x.natAbs y.natAbs=u at *;generalize bO y.natAbs x.natAbs=v at *
 by_cases HE:x<0
 ·rw[decide_eq_true HE]at hs
  subst hs
  by_cases pF:y<0
  ·rw[decide_eq_true pF]at ht
   subst ht;refine aV aD mixed [.val] Tryz.func134 rfl rfl (by kernel_rfl) fun zD zE zG zH zI zJ zK zL zM zN zO zR zS zT zU zV zX zY zZ zg zh zj zu zy zz aK ah aI aH ak aq ae aE aB aG ao az aJ an aO au aP ai aM aN ay aw aL ar zW bc A L F hS hF=>?_
   cbv;refine bT rfl (bF (hS.not _) (bF (hS.not _) (bT rfl ⟨_,hS.call c2,?_⟩)));cbv;exact bX hF (lh (n1 HE pF))
  ·rw[decide_eq_false pF]at ht
   subst ht;refine aV aD mixed [.val] Tryz.func134 rfl rfl (by kernel_rfl) fun zD zE zG zH zI zJ zK zL zM zN zO zR zS zT zU zV zX zY zZ zg zh zj zu zy zz aK ah aI aH ak aq ae aE aB aG ao az aJ an aO au aP ai aM aN ay aw aL ar zW bc A L F hS hF=>?_
   cbv;exact bT rfl (bT (hS.not _) (bX hF (lh (n3 HE pF))))
 ·rw[decide_eq_false HE]at hs
  subst hs
  by_cases pF:y<0
  ·rw[decide_eq_true pF]at ht
   subst ht;refine aV aD mixed [.val] Tryz.func134 rfl rfl (by kernel_rfl) fun zD zE zG zH zI zJ zK zL zM zN zO zR zS zT zU zV zX zY zZ zg zh zj zu zy zz aK ah aI aH ak aq ae aE aB aG ao az aJ an aO au aP ai aM aN ay aw aL ar zW bc A L F hS hF=>?_
   cbv;exact bF rfl (bT (hS.not _) (bT rfl (bX hF (lh (n4 HE pF)))))
  ·rw[decide_eq_false pF]at ht
   subst ht;refine aV aD mixed [.val] Tryz.func134 rfl rfl (by kernel_rfl) fun zD zE zG zH zI zJ zK zL zM zN zO zR zS zT zU zV zX zY zZ zg zh zj zu zy zz aK ah aI aH ak aq ae aE aB aG ao az aJ an aO au aP ai aM aN ay aw aL ar zW bc A L F hS hF=>?_
   cbv;refine bF rfl (bT (hS.not _) (bF rfl (bF rfl ⟨_,hS.call c1,?_⟩)));cbv;exact bX hF (lh (n2 HE pF))
theorem yq {x:Int} {s:Bool} {r:Abs.Rows} (hx:eG x s r) (h1:nl x.natAbs<=2199023255552):∃u w,eG (-x) u w/\aA Tryz.prog 133 [.val (.agg (iT s r))] ⟨[.val (.agg (iT u w))],[none]⟩:=by
 obtain⟨u,hu⟩:∃u,u=decide (-x<0):=⟨_,rfl⟩;refine⟨u,r,⟨hu,by rw[Int.natAbs_neg];exact hx.m⟩,?_⟩;have m:=mJ (!s) u hx.m h1 (by
  rw[hu,hx.s];rcases Int.lt_trichotomy x 0 with h|h|h
  ·rw[decide_eq_true h,decide_eq_false (by omega)];rfl
  ·subst h;rfl
  ·rw[decide_eq_true (show -x<0 by omega),decide_eq_false (show ¬x<0 by omega),decide_eq_true (show x.natAbs≠0 by omega)];rfl)
 refine aV aD mixed [.val] Tryz.func133 rfl rfl (by kernel_rfl) fun zD zE zG zH zI zJ zK zL zM zN zO zR zS zT zU zV zX zY zZ zg zh zj zu zy zz aK ah aI aH ak aq ae aE aB aG ao az aJ an aO au aP ai aM aN ay aw aL ar zW bc A L F hS hF=>?_
 cbv;rw[hS.not];refine⟨_,hS.call m,?_⟩;cbv;exact hF _ (aS.refl _)
theorem yr {x y:Int} {s t:Bool} {r q:Abs.Rows} (hx:eG x s r) (hy:eG y t q) (h1:nl x.natAbs<=549755813888) (h2:nl y.natAbs<=549755813888) :
  ∃u w,eG (x+y) u w/\aA Tryz.prog 102 [.val (.agg (iT s r)),.val (.agg (iT t q))] ⟨[.val (.agg (iT u w))],[none,none]⟩:=by
 obtain⟨u,hu⟩:∃u,u=decide (x+y<0):=⟨_,rfl⟩;obtain⟨w,hw⟩:∃w,lU (x+y).natAbs w:=⟨_,rfl⟩;refine⟨u,w,⟨hu,hw⟩,?_⟩;have hb:nl (x+y).natAbs<=1099511627776:=by
  have a:=Ev (show(x+y).natAbs<=x.natAbs+y.natAbs by omega);have b:=vY x.natAbs y.natAbs;omega
 have hs:=hx.s;have ht:=hy.s;have cc:=Ts (bO x.natAbs y.natAbs) hx.m hy.m (by unfold nl at h1;omega) (by unfold nl at h2;omega) (ju _) (ju _) (ja _) (ja _) (by rw[jI,jI]);have ca:=tM hx.m hy.m (by unfold nl at h1;omega) (by unfold nl at h2;omega) (ju _) (ju _);have t1:=fun h h'=>mG hx.m hy.m (by unfold nl at h1;omega) h (ju _) (ju _) h'
 have t2:=fun h h'=>mG hy.m hx.m (by unfold nl at h2;omega) h (ju _) (ju _) h'
 simp only[jI]at ca t1 t2;have m:∀s',u=(s'&&decide ((x+y).natAbs≠0))->_:=fun s' h=>mJ s' u hw (by omega) h
 by_cases dC:s=t
 ·have e1:W .u32 (dg ((x.natAbs:Int)+y.natAbs).toNat)=w:=by
   rw[hw];congr 2;rw[hs,ht]at dC
   by_cases h:x<0
   ·rw[decide_eq_true h]at dC;have:=of_decide_eq_true dC.symm;omega
   ·rw[decide_eq_false h]at dC;have:=of_decide_eq_false dC.symm;omega
  have ms:=m s (by
   rw[hs,hu];rw[hs,ht]at dC
   by_cases h:x<0
   ·rw[decide_eq_true h]at dC ⊢;have:=of_decide_eq_true dC.symm;rw[decide_eq_true (by omega),decide_eq_true (by omega)];rfl
   ·rw[decide_eq_false h]at dC ⊢;have:=of_decide_eq_false dC.symm;rw[decide_eq_false (by omega)];rfl)
  rw[e1]at ca;clear t1 t2 m cc;refine aV aD mixed [.val] Tryz.func102 rfl rfl (by kernel_rfl) fun zD zE zG zH zI zJ zK zL zM zN zO zR zS zT zU zV zX zY zZ zg zh zj zu zy zz aK ah aI aH ak aq ae aE aB aG ao az aJ an aO au aP ai aM aN ay aw aL ar zW bc A L F hS hF=>?_
  cbv;refine bT (by rw[hS.beq];simpa using dC) ⟨_,hS.call ca,?_⟩;cbv;refine⟨_,hS.call ms,?_⟩;cbv;exact hF _ (aS.refl _)
 ·have MR:(decide (x<0))≠decide (y<0):=by rw[<-hs,<-ht];exact dC
  by_cases bH:x.natAbs<y.natAbs
  ·have e1:W .u32 (dg ((y.natAbs:Int)-x.natAbs).toNat)=w:=by
    rw[hw];congr 2
    by_cases h:x<0<;>by_cases h':y<0<;>simp[h,h']at MR<;>omega
   have c:=t2 (show nl x.natAbs<=nl y.natAbs from Ev (by omega)) (by omega);rw[e1]at c;have ms:=m t (by
    rw[ht,hu];rw[Bool.eq_iff_iff]
    by_cases h:x<0<;>by_cases h':y<0<;>simp[h,h']at MR<;>simp[h']<;>omega)
   have W4:bO (x.natAbs:Int) y.natAbs=-1:=fp (by omega);rw[W4]at cc;clear t1 t2 m ca;refine aV aD mixed [.val] Tryz.func102 rfl rfl (by kernel_rfl) fun zD zE zG zH zI zJ zK zL zM zN zO zR zS zT zU zV zX zY zZ zg zh zj zu zy zz aK ah aI aH ak aq ae aE aB aG ao az aJ an aO au aP ai aM aN ay aw aL ar zW bc A L F hS hF=>?_
   cbv;refine bF (by rw[hS.beq];simpa using dC) ⟨_,hS.call cc,?_⟩;cbv;refine bT (by rw[hS.lt];rfl) ⟨_,hS.call c,?_⟩;cbv;refine⟨_,hS.call ms,?_⟩;cbv;exact hF _ (aS.refl _)
  ·have e1:W .u32 (dg ((x.natAbs:Int)-y.natAbs).toNat)=w:=by
    rw[hw];congr 2
    by_cases h:x<0<;>by_cases h':y<0<;>simp[h,h']at MR<;>omega
   have c:=t1 (show nl y.natAbs<=nl x.natAbs from Ev (by omega)) (by omega);rw[e1]at c;have ms:=m s (by
    rw[hs,hu];rw[Bool.eq_iff_iff]
    by_cases h:x<0<;>by_cases h':y<0<;>simp[h,h']at MR<;>simp[h]<;>omega)
   obtain⟨v,hv,OY⟩:∃v,bO (x.natAbs:Int) y.natAbs=v/\¬v<0:=⟨_,rfl,by
    unfold bO;rw[if_neg (by omega)];split<;>omega⟩
   rw[hv]at cc;clear t1 t2 m ca;refine aV aD mixed [.val] Tryz.func102 rfl rfl (by kernel_rfl) fun zD zE zG zH zI zJ zK zL zM zN zO zR zS zT zU zV zX zY zZ zg zh zj zu zy zz aK ah aI aH ak aq ae aE aB aG ao az aJ an aO au aP ai aM aN ay aw aL ar zW bc A L F hS hF=>?_
   cbv;refine bF (by rw[hS.beq];simpa using dC) ⟨_,hS.call cc,?_⟩;cbv;refine bF (by rw[hS.lt];exact decide_eq_false OY) ⟨_,hS.call c,?_⟩;cbv;refine⟨_,hS.call ms,?_⟩;cbv;exact hF _ (aS.refl _)
theorem HR {x y:Int} {s t:Bool} {r q:Abs.Rows} (hx:eG x s r) (hy:eG y t q) (h1:nl x.natAbs<=549755813888) (h2:nl y.natAbs<=549755813888) :
  ∃u w,eG (x*y) u w/\aA Tryz.prog 96 [.val (.agg (iT s r)),.val (.agg (iT t q))] ⟨[.val (.agg (iT u w))],[none,none]⟩:=by
 obtain⟨u,hu⟩:∃u,u=decide (x*y<0):=⟨_,rfl⟩;obtain⟨w,hw⟩:∃w,lU (x*y).natAbs w:=⟨_,rfl⟩;refine⟨u,w,⟨hu,hw⟩,?_⟩;have hb:nl (x*y).natAbs<=1099511627776:=by
  rw[Int.natAbs_mul];have b:=uD x.natAbs y.natAbs;omega
 have hs:=hx.s;have ht:=hy.s;have c:=mH hx.m hy.m (by unfold nl at h1;omega) (by unfold nl at h2;omega) (ju _) (ju _);simp only[jI]at c;have e1:W .u32 (dg ((x.natAbs:Int)*y.natAbs).toNat)=w:=by
  rw[hw];congr 2;rw[Int.natAbs_mul];have:((x.natAbs:Int)*y.natAbs)=((x.natAbs*y.natAbs:Nat):Int):=by push_cast;rfl
  omega
 rw[e1]at c;have ms:=mJ (!(s==t)) u hw (by omega) (by
  rw[hu,hs,ht];rcases Int.lt_trichotomy x 0 with h|h|h
  ·rcases Int.lt_trichotomy y 0 with h'|h'|h'
   ·have:=Int.mul_pos_of_neg_of_neg h h'
    simp[h,h'];omega
   ·subst h';simp
   ·have:=Int.mul_neg_of_neg_of_pos h h'
    have h2:¬y<0:=by omega
    simp[h,h2,this];omega
  ·subst h;simp
  ·rcases Int.lt_trichotomy y 0 with h'|h'|h'
   ·have:=Int.mul_neg_of_pos_of_neg h h'
    have h2:¬x<0:=by omega
    simp[h',h2,this];omega
   ·subst h';simp
   ·have:=Int.mul_pos h h'
    have h2:¬x<0:=by omega
    have h3:¬y<0:=by omega
    have h4:¬x*y<0:=by omega
    simp[h2,h3,h4])
 refine aV aD mixed [.val] Tryz.func96 rfl rfl (by kernel_rfl) fun zD zE zG zH zI zJ zK zL zM zN zO zR zS zT zU zV zX zY zZ zg zh zj zu zy zz aK ah aI aH ak aq ae aE aB aG ao az aJ an aO au aP ai aM aN ay aw aL ar zW bc A L F hS hF=>?_
 cbv;refine⟨_,hS.call c,?_⟩;cbv;rw[hS.bne];refine⟨_,hS.call ms,?_⟩;cbv;exact hF _ (aS.refl _)
end Go.Proofs.YtekefilngojelaaGreat
end
section
namespace Go.Abs.M
structure Kn (U V t u2 v1 v2 P lo lv:Int):Prop where
 hP:0<P
 hU:U=(t*4294967296+u2)*P+lo
 hV:V=(v1*4294967296+v2)*P+lv
 LQ:0<=lo/\lo<P
 MS:0<=lv/\lv<P
 Bk:0<=u2/\u2<4294967296
 I6:0<=v2/\v2<4294967296
 ES:2147483648<=v1/\v1<4294967296
 ht:0<=t
 bH:U<V*4294967296
section
variable {U V t u2 v1 v2 P lo lv q g:Int}
theorem Kn.Ye (h:Kn U V t u2 v1 v2 P lo lv):t<(v1+1)*4294967296:=by
 obtain⟨hP,hU,hV,LQ,MS,Bk,I6,ES,ht,bH⟩:=h;rcases Int.lt_or_le t ((v1+1)*4294967296) with h|h
 ·exact h
 ·exfalso
  have e1:(v1+1)*4294967296*4294967296*P<=(t*4294967296+u2)*P:=Int.mul_le_mul_of_nonneg_right (by omega) (by omega);have e2:(v1*4294967296+v2+1)*P<=(v1+1)*4294967296*P:=Int.mul_le_mul_of_nonneg_right (by omega) (by omega);have e3:(v1*4294967296+v2+1)*P=(v1*4294967296+v2)*P+P:=by grind
  have e4:(v1+1)*4294967296*4294967296*P=(v1+1)*4294967296*P*4294967296:=by grind
  omega
theorem Kn.first (h:Kn U V t u2 v1 v2 P lo lv) (hq:q*V<=U) (HS:0<=q):q<=t/v1:=by
 obtain⟨hP,hU,hV,LQ,MS,Bk,I6,ES,ht,bH⟩:=h;refine Int.le_ediv_of_mul_le (by omega) ?_;rcases Int.lt_or_le t (q*v1) with h|h
 ·exfalso
  have e1:(t+1)*(4294967296*P)<=q*v1*(4294967296*P):=Int.mul_le_mul_of_nonneg_right (by omega) (by omega);have e2:q*(v1*4294967296*P)<=q*V:=Int.mul_le_mul_of_nonneg_left (by
   have:0<=v2*P:=Int.mul_nonneg (by omega) (by omega);have e:(v1*4294967296+v2)*P=v1*4294967296*P+v2*P:=by grind
   omega) HS
  have e3:q*v1*(4294967296*P)=q*(v1*4294967296*P):=by grind
  have e4:(t+1)*(4294967296*P)=t*4294967296*P+4294967296*P:=by grind
  have e5:(t*4294967296+u2)*P=t*4294967296*P+u2*P:=by grind
  have e6:(u2+1)*P<=4294967296*P:=Int.mul_le_mul_of_nonneg_right (by omega) (by omega);have e7:(u2+1)*P=u2*P+P:=by grind
  omega
 ·exact h
theorem Kn.down (h:Kn U V t u2 v1 v2 P lo lv) (hq:q*V<=U) (hg:0<=g) (hqg:q<=g) (MT:(t-g*v1)*4294967296+u2<g*v2):q<=g-1:=by
 obtain⟨hP,hU,hV,LQ,MS,Bk,I6,ES,ht,bH⟩:=h;rcases Int.lt_or_le q g with h|h
 ·omega
 ·exfalso
  obtain rfl:q=g:=by omega
  have e1:(t*4294967296+u2+1)*P<=(q*(v1*4294967296+v2))*P:=Int.mul_le_mul_of_nonneg_right (by grind) (by omega);have e2:q*((v1*4294967296+v2)*P)<=q*V:=Int.mul_le_mul_of_nonneg_left (by omega) hg;have e3:(q*(v1*4294967296+v2))*P=q*((v1*4294967296+v2)*P):=by grind
  have e4:(t*4294967296+u2+1)*P=(t*4294967296+u2)*P+P:=by grind
  omega
theorem Kn.Tv (h:Kn U V t u2 v1 v2 P lo lv) (yt:0<=g) (hg:g<=4294967296) (aa2:g*v2<=(t-g*v1)*4294967296+u2):(g-1)*V<=U:=by
 obtain⟨hP,hU,hV,LQ,MS,Bk,I6,ES,ht,bH⟩:=h;rcases Int.lt_or_le 0 g with h0|h0
 ·have e1:(g*(v1*4294967296+v2))*P<=(t*4294967296+u2)*P:=Int.mul_le_mul_of_nonneg_right (by grind) (by omega)
  have e2:(g-1)*V<=(g-1)*((v1*4294967296+v2+1)*P):=Int.mul_le_mul_of_nonneg_left (by
   have:(v1*4294967296+v2+1)*P=(v1*4294967296+v2)*P+P:=by grind
   omega) (by omega)
  have e3:(g-1)*((v1*4294967296+v2+1)*P)=(g*(v1*4294967296+v2))*P-(v1*4294967296+v2+1-g)*P:=by grind
  have e4:0<=(v1*4294967296+v2+1-g)*P:=Int.mul_nonneg (by omega) (by omega);omega
 ·obtain rfl:g=0:=by omega
  have PN:0<=V:=by
   have:0<=(v1*4294967296+v2)*P:=Int.mul_nonneg (by omega) (by omega);omega
  have:0<=(t*4294967296+u2)*P:=Int.mul_nonneg (by omega) (by omega);omega
end
theorem Tw {u v:List Int} {n:Nat} (hn:2<=n) (hu:u.length=n+1) (hv:v.length=n) (uF:Wd u) (xw:Wd v) (lV:2147483648<=v.getD (n-1) 0) (bH:val u<val v*4294967296) :
  Kn (val u) (val v) (u.getD n 0*4294967296+u.getD (n-1) 0) (u.getD (n-2) 0) (v.getD (n-1) 0) (v.getD (n-2) 0) (4294967296^(n-2)) (val (u.take (n-2))) (val (v.take (n-2))):=by
 have a:=MQ u (n-2) (by omega);rw[HP (by omega),HP (by omega),HP (by omega),show n-2+1=n-1 by omega,show n-1+1=n by omega,List.drop_of_length_le (by omega)]at a;have b:=MQ v (n-2) (by omega);rw[HP (by omega),HP (by omega),show n-2+1=n-1 by omega,show n-1+1=n by omega,List.drop_of_length_le (by omega)]at b;have l1:=Bf (uF.take (n-2));have l2:=Bf (xw.take (n-2));rw[List.length_take,Nat.min_eq_left (by omega)]at l1 l2
 have g1:=uF.get n;have g2:=uF.get (n-1);have g3:=uF.get (n-2);have g4:=xw.get (n-1);have g5:=xw.get (n-2);simp only[val]at a b;refine⟨xb _,?_,?_,⟨sC (uF.take _),l1⟩,⟨sC (xw.take _),l2⟩,g3,g5,⟨lV,g4.2⟩,by omega,bH⟩
 ·rw[a];grind
 ·rw[b];grind
theorem tO {p t vo vu qv a m c br q pr:Int} (h:vo=vu-qv+(br+c)*p) (hp:pr=q*m+c) (ht:t=4294967296+a-pr%4294967296-br) :
  vo+p*(t%4294967296)=(vu+p*a)-(qv+q*(p*m))+(1-t/4294967296+pr/4294967296)*(p*4294967296):=by
 have e1:t%4294967296+4294967296*(t/4294967296)=t:=Int.emod_add_mul_ediv t 4294967296;have e2:pr%4294967296+4294967296*(pr/4294967296)=pr:=Int.emod_add_mul_ediv pr 4294967296;generalize t%4294967296=r at *;generalize t/4294967296=k at *;generalize pr%4294967296=r' at *;generalize pr/4294967296=k' at *;grind
def xx:Nat->Int->List Int
 | 0,_=>[]
 | n+1,x=>x%4294967296::xx n (x/4294967296)
theorem MU:∀(n:Nat) (x:Int),(xx n x).length=n
 | 0,_=>rfl
 | n+1,x=>by simp[xx,MU n]
theorem sE:∀(n:Nat) (x:Int),Wd (xx n x)
 | 0,_=>Wd.nil
 | n+1,x=>Wd.cons (by omega) (by omega) (sE n _)
theorem Fu (x p:Int) (hp:0<p):x%(p*4294967296)=x%4294967296+4294967296*(x/4294967296%p):=by
 have e1:=Int.emod_add_mul_ediv x 4294967296;have e2:=Int.emod_add_mul_ediv (x/4294967296) p;have b1:=Int.emod_nonneg x (show(4294967296:Int)≠0 by omega);have b2:=Int.emod_lt_of_pos x (show(0:Int)<4294967296 by omega);have b3:=Int.emod_nonneg (x/4294967296) (show p≠0 by omega);have b4:=Int.emod_lt_of_pos (x/4294967296) hp;generalize x%4294967296=r at *;generalize x/4294967296%p=s at *;generalize x/4294967296/p=k at *
 generalize x/4294967296=y at *;have hx:x=(r+4294967296*s)+p*4294967296*k:=by grind
 rw[hx,Int.add_mul_emod_self_left,Int.emod_eq_of_lt (by omega) (by
  have:4294967296*(s+1)<=4294967296*p:=Int.mul_le_mul_of_nonneg_left (by omega) (by omega);have e:4294967296*(s+1)=4294967296*s+4294967296:=by omega
  have e':p*4294967296=4294967296*p:=Int.mul_comm ..;omega)]
theorem nt:∀(n:Nat) (x:Int),val (xx n x)=x%4294967296^n
 | 0,x=>by simp[xx,val,Int.emod_one]
 | n+1,x=>by
  rw[xx,val,nt n,Int.pow_succ,Fu x _ (xb n)]
theorem val_inj:∀ {l m:List Int},Wd l->Wd m->l.length=m.length->val l=val m->l=m
 | [],[],_,_,_,_=>rfl
 | [],_::_,_,_,h,_=>by simp at h
 | _::_,[],_,_,h,_=>by simp at h
 | x::l,y::m,hl,hm,h,hv=>by
  have a:=hl.head;have b:=hm.head;simp only[val]at hv;obtain⟨rfl,rK⟩:x=y/\val l=val m:=by omega
  rw[val_inj hl.tail hm.tail (by simpa using h) rK]
theorem Bl {l:List Int} {n:Nat} {x b:Int} (hw:Wd l) (hl:l.length=n) (hv:val l=x+b*4294967296^n):l=xx n x:=by
 refine val_inj hw (sE _ _) (by rw[hl,MU]) ?_;rw[nt];have h1:=sC hw;have h2:=Bf hw;rw[hl]at h2;have:x=val l+4294967296^n*(-b):=by grind
 rw[this,Int.add_mul_emod_self_left,Int.emod_eq_of_lt h1 h2]
theorem PO {n:Nat} {x:Int} (h0:0<=x) (h1:x<4294967296^n):val (xx n x)=x:=by rw[nt,Int.emod_eq_of_lt h0 h1]
def jK (v1 v2 u2:Int):Nat->Int->Int->Int
 | 0,q,_=>q
 | f+1,q,e=>if 4294967296<=q∨e*4294967296+u2<q*v2 then(if 4294967296<=e+v1 then q-1 else jK v1 v2 u2 f (q-1) (e+v1)) else q
theorem tP {U V t u2 v1 v2 P lo lv q:Int} (h:Kn U V t u2 v1 v2 P lo lv) (hq:q*V<=U) (HS:0<=q) (Yf:q<4294967296) :
  ∀(f:Nat) (g e:Int),e=t-g*v1->0<=e->e<4294967296->4294967296<=e+f*v1->q<=g->g<=4294967297 ->
   q<=jK v1 v2 u2 f g e/\jK v1 v2 u2 f g e<=4294967296/\(jK v1 v2 u2 f g e-1)*V<=U
 | 0,g,e,he,h0,h1,h2,h3,h4=>by simp at h2;omega
 | f+1,g,e,he,h0,h1,h2,h3,h4=>by
  have ES:=h.ES;have Bk:=h.Bk;have I6:=h.I6;simp only[jK]
  by_cases MT:4294967296<=g∨e*4294967296+u2<g*v2
  ·rw[if_pos MT]
   have Vs:q<=g-1:=by
    rcases MT with hb|hb
    ·omega
    ·exact h.down hq (by omega) h3 (by rw[<-he];exact hb)
   by_cases Tx:4294967296<=e+v1
   ·rw[if_pos Tx]
    refine⟨Vs,by omega,h.Tv (by omega) (by omega) ?_⟩;have e1:t-(g-1)*v1=e+v1:=by grind
    rw[e1];have:(g-1)*v2<=4294967296*v2:=Int.mul_le_mul_of_nonneg_right (by omega) I6.1;omega
   ·rw[if_neg Tx]
    exact tP h hq HS Yf f (g-1) (e+v1) (by grind) (by omega) (by omega) (by
     have:((f+1:Nat):Int)*v1=f*v1+v1:=by push_cast;grind
     omega) Vs (by omega)
  ·rw[if_neg MT]
   have tX:g<4294967296:=by omega
   have mc:g*v2<=e*4294967296+u2:=by omega
   exact⟨h3,by omega,h.Tv (by omega) (by omega) (by rw[<-he];exact mc)⟩
def sF (v1 v2 u2 t:Int):Int:=jK v1 v2 u2 3 (t/v1) (t%v1)
theorem Dt {U V t u2 v1 v2 P lo lv q:Int} (h:Kn U V t u2 v1 v2 P lo lv) (hq:q*V<=U) (HS:0<=q) (Yf:q<4294967296) :
  q<=sF v1 v2 u2 t/\sF v1 v2 u2 t<=4294967296/\(sF v1 v2 u2 t-1)*V<=U:=by
 have ES:=h.ES;have e:=Int.emod_add_mul_ediv t v1;have b1:=Int.emod_nonneg t (show v1≠0 by omega);have b2:=Int.emod_lt_of_pos t (show 0<v1 by omega);refine tP h hq HS Yf 3 (t/v1) (t%v1) (by grind) b1 (by omega) (by push_cast;omega) (h.first hq HS) ?_;have:=h.Ye;have:t/v1<4294967298:=Int.ediv_lt_of_lt_mul (by omega) (by omega);omega
end Go.Abs.M
end
section
namespace Go.Proofs.YtekefilngojelaaGreat
open Go Go.Abs Go.Abs.M Go.Proofs
def pG (r s:Abs.Rows) (len:Nat) (g c b i:Int):St:=aC 49 [.c (.sl 0 0 len false),vl s,vi .u64 g,.aj,.aj,.aj,vb false,vi .u64 c,vi .u64 b,vi .i64 i] [some (.rows 1 r false false),none,none]
theorem Bm {r s r':Abs.Rows} {u v:List Int} (g:Int) (b:Bool) (hr:r=W .u32 u) (hs:s=W .u32 v) (Et:u.length<=1099511627776) (Vi:v.length<u.length) (uF:Wd u) (xw:Wd v) (yt:0<=g) (hg:g<=4294967296)
  (EL:r'=W .u32 (xx u.length (val u-g*val v))) (hb:b=decide (val u-g*val v<0)) :
  aA Tryz.prog 155 [.eP 1 r,.val (tl s),.val (ti .u64 g)] ⟨[.val (tb b)],[some (.rows 1 r' false false),none,none]⟩:=by
 obtain⟨n,hn⟩:∃n:Nat,n=u.length:=⟨_,rfl⟩;refine aV aD mixed [.val] Tryz.func155 rfl rfl (by kernel_rfl) fun zD zE zG zH zI zJ zK zL zM zN zO zR zS zT zU zV zX zY zZ zg zh zj zu zy zz aK ah aI aH ak aq ae aE aB aG ao az aJ an aO au aP ai aM aN ay aw aL ar zW bc A L F hS hF=>?_
 have h1:ae r=n:=by rw[hS.len,hr,iZ,hn]
 have Vy:r=zW .u32 u:=by rw[hS.W];exact hr
 cbv;rw[h1];refine fH aD mixed hS (fun(j:Nat) s'=>∃(k:Nat) (o:List Int) (c b:Int),k+j=n/\o.length=n/\Wd o/\(0<=c/\c<4294967296)/\(0<=b/\b<=1)/\(k=n->c=0)/\o.drop k=u.drop k/\val (o.take k)=val (u.take k)-g*val (v.take k)+(b+c)*4294967296^k/\s'=pG (zW .u32 o) s n g c b (zy k)) (n:=n)
  (s0:=pG (zW .u32 u) s n g 0 0 (zy 0)) (iY ?_ ?_) rfl (Nat.le_refl 3) ?_ ?_
 ·simp[eC,pG,aC,vi,vl,vb,hS.aW]
 ·simp[eF,pG,aC,Vy]
 ·exact⟨0,u,0,0,by omega,hn.symm,uF,by omega,by omega,fun _=>rfl,rfl,by simp[val],rfl⟩
 ·rintro j _ ⟨k,o,c,b',hk,ho,hw,hc,bK,hcz,GO,hv,rfl⟩
  have ga:=uF.get k;have gv:=xw.get k;have Kq:=fy (zy k) hs (by omega) xw (by rw[hS.aW];omega);rw[show(zy k).toNat=k by rw[hS.aW];omega]at Kq;have SJ:0<=g*v.getD k 0/\g*v.getD k 0<=4294967296*4294967295:=⟨Int.mul_nonneg yt gv.1,Int.mul_le_mul hg (by omega) gv.1 (by omega)⟩;obtain⟨pr,Ro⟩:∃pr,pr=g*v.getD k 0+c:=⟨_,rfl⟩;obtain⟨t,ht⟩:∃t,t=4294967296+u.getD k 0-pr%4294967296-b':=⟨_,rfl⟩
  have dC:=tO hv Ro ht;have e5:zz 0 (zy k)=k:=by rw[hS.idx,hS.aW];omega
  have im:k<n->o.getD k 0=u.getD k 0:=fun h=>by
   have:=congrArg (fun y=>List.getD y 0 0) GO;simpa[List.getD_eq_getElem?_getD]using this
  have e0:k<n->ao (zW .u32 o) k=u.getD k 0:=fun h=>by rw[hS.dL,hS.W,ph,im h]
  have eu:zD .u64 (u.getD k 0)=u.getD k 0:=by rw[hS.wrap,fg (by omega) (by omega)]
  have f1:zD .u64 (zE (zD .u64 (zH g (v.getD k 0))) c)=pr:=by
   rw[hS.wrap,hS.wrap,hS.mul,hS.add,fg (x:=g*v.getD k 0) (by omega) (by omega),fg (by omega) (by omega),Ro]
  have f2:zJ pr 4294967296=pr%4294967296:=by rw[hS.rem,Int.tmod_eq_emod_of_nonneg (by omega)]
  have f3:zD .u64 (zI pr 4294967296)=pr/4294967296:=by rw[hS.quo,Int.tdiv_eq_ediv_of_nonneg (by omega),hS.wrap];exact fg (by omega) (by omega)
  have e1:zD .u64 (zG (zD .u64 (zG (zD .u64 (zE 4294967296 (u.getD k 0))) (zJ pr 4294967296))) b')=t:=by
   rw[f2,hS.wrap,hS.wrap,hS.wrap,hS.add,hS.sub,hS.sub,fg (x:=4294967296+u.getD k 0) (by omega) (by omega),fg (x:=4294967296+u.getD k 0-pr%4294967296) (by omega) (by omega),fg (by omega) (by omega),ht]
  have e2:zD .u32 (zJ t 4294967296)=t%4294967296:=by rw[hS.rem,Int.tmod_eq_emod_of_nonneg (by omega),hS.wrap];exact Ja (by omega) (by omega)
  have e3:zD .u64 (zG 1 (zD .u64 (zI t 4294967296)))=1-t/4294967296:=by rw[hS.quo,Int.tdiv_eq_ediv_of_nonneg (by omega),hS.wrap,hS.wrap,fg (x:=t/4294967296) (by omega) (by omega),hS.sub];exact fg (by omega) (by omega)
  have e4:k<n->zD .i64 (zE (zy k) 1)=zy (k+1):=fun h=>by rw[hS.wrap,hS.add,hS.aW,hS.aW,wrap_i64 (by omega) (by omega)];omega
  have e6:=kA hS.lt hS.aW k n;have e7:∀x,az .u32 (zW .u32 o) k x=zW .u32 (o.set k x):=fun x=>by rw[hS.nK,hS.W,oo]
  have e8:k<n->zu (zy k) n=true:=fun h=>by rw[hS.xo,hS.aW];exact decide_eq_true (by omega)
  have e9:k<n->aG .u32 (zW .u32 o) k=true:=fun h=>by rw[hS.gJ,hS.W,lS];exact decide_eq_true (by omega)
  have Bi:aK (ae (zW .u32 o)) (ae r)=true:=by rw[h1,hS.neq,hS.len,hS.W,iZ];exact decide_eq_true (by omega)
  have eQ:k=n->W .u32 o=r'/\zS b' 1=b:=fun h=>by
   subst h;rw[List.take_of_length_le (by omega),List.take_of_length_le (by omega),List.take_of_length_le (by omega),hcz rfl,Int.add_zero]at hv;refine⟨?_,?_⟩
   ·rw[EL,<-hn,Bl hw ho hv]
   ·rw[hb,hS.eq]
    have b1:=Bf hw;rw[ho]at b1;have b2:=sC hw;rcases(show b'=0∨b'=1 by omega) with rfl|rfl
    ·rw[decide_eq_false (by omega),decide_eq_false (by omega)]
    ·rw[decide_eq_true rfl,decide_eq_true (by omega)]
  have jj:k<n->val ((o.set k (t%4294967296)).take (k+1))=val (o.take k)+4294967296^k*(t%4294967296):=fun h=>N5 _ (by omega)
  have Kt:k+1=n->pr/4294967296=0:=fun h=>by
   rw[Ro,List.getD_eq_getElem?_getD,List.getElem?_eq_none (by omega)];simp only[Option.getD_none,Int.mul_zero];omega
  have Yg:0<=pr/4294967296/\pr/4294967296<4294967296:=by omega
  have Rn:0<=1-t/4294967296/\1-t/4294967296<=1:=by omega
  clear SJ Ro ht;generalize LY:u.getD k 0=a at *;generalize GN:v.getD k 0=m at *;cbv;refine⟨fun h=>?_,fun h=>nd Bi ?_⟩
  all_goals rw[e6]at h
  ·have h:=of_decide_eq_true h
   refine⟨_,hS.call Kq,?_⟩;cbv;rw[e5,e0 h,eu,f1,f3,e1,e2,e3,e4 h,e7];refine nd (e8 h) (nd (e9 h) (nd (e8 h) (nd (e9 h) ?_)));refine again (s':=pG (zW .u32 (o.set k (t%4294967296))) s n g (pr/4294967296) (1-t/4294967296) (zy (k+1))) (m:=j-1) (by simp[eC,pG,aC,vi,vl,vb]) (by simp[eF,pG,aC]) rfl (Nat.le_refl 3) (by omega)
    ⟨_,_,_,_,by omega,by simpa using ho,hw.set _ (by omega) (by omega),Yg,Rn,Kt,?_,?_,rfl⟩
   ·rw[PI]
    have:=congrArg (List.drop 1) GO;simpa[List.drop_drop]using this
   ·rw[jj h,Cm u,Cm v,Int.pow_succ,LY,GN,dC,Int.mul_add]
  ·have h:=of_decide_eq_false h
   obtain⟨z1,z2⟩:=eQ (by omega);rw[z2,hS.W,z1];exact hF _ (aS.refl _)
def pH (r s:Abs.Rows) (len:Nat) (c i:Int):St:=aC 32 [.c (.sl 0 0 len false),vl s,.aj,.aj,vi .u64 c,vi .i64 i] [some (.rows 1 r false false),none]
theorem xy {r s r':Abs.Rows} {u v:List Int} (hr:r=W .u32 u) (hs:s=W .u32 v) (Et:u.length<=1099511627776) (Vi:v.length<=u.length) (uF:Wd u) (xw:Wd v)
  (EL:r'=W .u32 (xx u.length (val u+val v))) :
  aA Tryz.prog 156 [.eP 1 r,.val (tl s)] ⟨[],[some (.rows 1 r' false false),none]⟩:=by
 obtain⟨n,hn⟩:∃n:Nat,n=u.length:=⟨_,rfl⟩;refine aV aD mixed [] Tryz.func156 rfl rfl (by kernel_rfl) fun zD zE zG zH zI zJ zK zL zM zN zO zR zS zT zU zV zX zY zZ zg zh zj zu zy zz aK ah aI aH ak aq ae aE aB aG ao az aJ an aO au aP ai aM aN ay aw aL ar zW bc A L F hS hF=>?_
 have h1:ae r=n:=by rw[hS.len,hr,iZ,hn]
 have Vy:r=zW .u32 u:=by rw[hS.W];exact hr
 cbv;rw[h1];refine fH aD mixed hS (fun(j:Nat) s'=>∃(k:Nat) (o:List Int) (c:Int),k+j=n/\o.length=n/\Wd o/\(0<=c/\c<=1)/\o.drop k=u.drop k/\val (o.take k)+c*4294967296^k=val (u.take k)+val (v.take k)/\s'=pH (zW .u32 o) s n c (zy k)) (n:=n)
  (s0:=pH (zW .u32 u) s n 0 (zy 0)) (iY ?_ ?_) rfl (Nat.le_refl 2) ?_ ?_
 ·simp[eC,pH,aC,vi,vl,vb,hS.aW]
 ·simp[eF,pH,aC,Vy]
 ·exact⟨0,u,0,by omega,hn.symm,uF,by omega,rfl,by simp[val],rfl⟩
 ·rintro j _ ⟨k,o,c,hk,ho,hw,hc,GO,hv,rfl⟩
  have ga:=uF.get k;have gv:=xw.get k;have Kq:=fy (zy k) hs (by omega) xw (by rw[hS.aW];omega);rw[show(zy k).toNat=k by rw[hS.aW];omega]at Kq;obtain⟨t,ht⟩:∃t,t=u.getD k 0+v.getD k 0+c:=⟨_,rfl⟩;have dC:=vZ hv ht;have e5:zz 0 (zy k)=k:=by rw[hS.idx,hS.aW];omega
  have im:k<n->o.getD k 0=u.getD k 0:=fun h=>by
   have:=congrArg (fun y=>List.getD y 0 0) GO;simpa[List.getD_eq_getElem?_getD]using this
  have e0:k<n->ao (zW .u32 o) k=u.getD k 0:=fun h=>by rw[hS.dL,hS.W,ph,im h]
  have eu:zD .u64 (u.getD k 0)=u.getD k 0:=by rw[hS.wrap,fg (by omega) (by omega)]
  have e1:zD .u64 (zE (zD .u64 (zE (u.getD k 0) (v.getD k 0))) c)=t:=by
   rw[hS.wrap,hS.add,hS.wrap,hS.add,fg (x:=u.getD k 0+v.getD k 0) (by omega) (by omega),fg (by omega) (by omega),ht]
  have e2:zD .u32 (zJ t 4294967296)=t%4294967296:=by rw[hS.rem,Int.tmod_eq_emod_of_nonneg (by omega),hS.wrap];exact Ja (by omega) (by omega)
  have e3:zD .u64 (zI t 4294967296)=t/4294967296:=by rw[hS.quo,Int.tdiv_eq_ediv_of_nonneg (by omega),hS.wrap];exact fg (by omega) (by omega)
  have e4:k<n->zD .i64 (zE (zy k) 1)=zy (k+1):=fun h=>by rw[hS.wrap,hS.add,hS.aW,hS.aW,wrap_i64 (by omega) (by omega)];omega
  have e6:=kA hS.lt hS.aW k n;have e7:∀x,az .u32 (zW .u32 o) k x=zW .u32 (o.set k x):=fun x=>by rw[hS.nK,hS.W,oo]
  have e8:k<n->zu (zy k) n=true:=fun h=>by rw[hS.xo,hS.aW];exact decide_eq_true (by omega)
  have e9:k<n->aG .u32 (zW .u32 o) k=true:=fun h=>by rw[hS.gJ,hS.W,lS];exact decide_eq_true (by omega)
  have Bi:aK (ae (zW .u32 o)) (ae r)=true:=by rw[h1,hS.neq,hS.len,hS.W,iZ];exact decide_eq_true (by omega)
  have eQ:k=n->W .u32 o=r':=fun h=>by
   subst h;rw[List.take_of_length_le (by omega),List.take_of_length_le (by omega),List.take_of_length_le (by omega)]at hv;rw[EL,<-hn,Bl (x:=val u+val v) (b:=-c) hw ho (by rw[Int.neg_mul];omega)]
  have jj:k<n->val ((o.set k (t%4294967296)).take (k+1))=val (o.take k)+4294967296^k*(t%4294967296):=fun h=>N5 _ (by omega)
  have Rn:0<=t/4294967296/\t/4294967296<=1:=by omega
  clear ht;generalize LY:u.getD k 0=a at *;generalize GN:v.getD k 0=m at *;cbv;refine⟨fun h=>?_,fun h=>nd Bi ?_⟩
  all_goals rw[e6]at h
  ·have h:=of_decide_eq_true h
   rw[e5];refine nd (e8 h) (nd (e9 h) ⟨_,hS.call Kq,?_⟩);cbv;rw[e5,e0 h,eu,e1,e2,e3,e4 h,e7];refine nd (e8 h) (nd (e9 h) ?_);refine again (s':=pH (zW .u32 (o.set k (t%4294967296))) s n (t/4294967296) (zy (k+1))) (m:=j-1) (by simp[eC,pH,aC,vi,vl,vb]) (by simp[eF,pH,aC]) rfl (Nat.le_refl 2) (by omega)
    ⟨_,_,_,by omega,by simpa using ho,hw.set _ (by omega) (by omega),Rn,?_,?_,rfl⟩
   ·rw[PI]
    have:=congrArg (List.drop 1) GO;simpa[List.drop_drop]using this
   ·rw[jj h,Cm u,Cm v,Int.pow_succ,LY,GN]
    exact dC
  ·have h:=of_decide_eq_false h
   rw[hS.W,eQ (by omega)];exact hF _ (aS.refl _)
open Go Go.Abs Go.Abs.M Go.Proofs
def jb (r s:Abs.Rows) (len:Nat) (n t q e:Int):St:=aC 75 [.c (.sl 0 0 len false),vl s,.aj,.aj,vi .u64 0,vi .i64 n,vi .u64 t,vi .u64 q,vi .u64 e] [some (.rows 1 r false false),none]
theorem Du {r s:Abs.Rows} {u v:List Int} {n:Nat} (g:Int) (hr:r=W .u32 u) (hs:s=W .u32 v) (hu:u.length=n+1) (hv:v.length=n) (hn:2<=n) (tH:n<=1099511627776) (uF:Wd u) (xw:Wd v) (lV:2147483648<=v.getD (n-1) 0)
  (hg:g=sF (v.getD (n-1) 0) (v.getD (n-2) 0) (u.getD (n-2) 0) (u.getD n 0*4294967296+u.getD (n-1) 0)) :
  aA Tryz.prog 154 [.eP 1 r,.val (tl s)] ⟨[.val (ti .u64 g)],[some (.rows 1 r false false),none]⟩:=by
 have g1:=uF.get n;have g2:=uF.get (n-1);have g3:=uF.get (n-2);have g4:=xw.get (n-1);have g5:=xw.get (n-2);obtain⟨t,ht⟩:∃t,t=u.getD n 0*4294967296+u.getD (n-1) 0:=⟨_,rfl⟩;rw[<-ht]at hg;refine aV aD mixed [.val] Tryz.func154 rfl rfl (by kernel_rfl) fun zD zE zG zH zI zJ zK zL zM zN zO zR zS zT zU zV zX zY zZ zg zh zj zu zy zz aK ah aI aH ak aq ae aE aB aG ao az aJ an aO au aP ai aM aN ay aw aL ar zW bc A L F hS hF=>?_
 have h1:ae r=n+1:=by rw[hS.len,hr,iZ,hu]
 have h2:ae s=n:=by rw[hS.len,hs,iZ,hv]
 have Vy:r=zW .u32 u:=by rw[hS.W];exact hr
 have w1:zD .i64 (zG (zy n) 1)=zy (n-1):=by rw[hS.wrap,hS.sub,hS.aW,hS.aW,wrap_i64 (by omega) (by omega)];omega
 have w2:zD .i64 (zG (zy n) 2)=zy (n-2):=by rw[hS.wrap,hS.sub,hS.aW,hS.aW,wrap_i64 (by omega) (by omega)];omega
 have f2:∀q,zz 0 (zy q)=q:=fun q=>by rw[hS.idx,hS.aW];omega
 have f3:∀q,q<n+1->zu (zy q) (ae r)=true:=fun q hq=>by rw[h1,hS.xo,hS.aW];exact decide_eq_true (by omega)
 have f4:∀q,q<n+1->aG .u32 r q=true:=fun q hq=>by rw[hS.gJ,hr,lS];exact decide_eq_true (by omega)
 have f5:∀q,ao r q=u.getD q 0:=fun q=>by rw[hS.dL,hr,ph]
 have f6:∀q,zV 0 (zy q)=true:=fun q=>by rw[hS.le,hS.aW];exact decide_eq_true (by omega)
 have f7:∀q,q<n->aG .u32 s (zj (zy q))=true:=fun q hq=>by rw[hS.gJ,hs,hS.nat,hS.aW,lS];exact decide_eq_true (by omega)
 have f8:∀q,ao s (zj (zy q))=v.getD q 0:=fun q=>by rw[hS.dL,hS.nat,hS.aW,hs,ph,Int.toNat_natCast]
 have eu:∀q,zD .u64 (u.getD q 0)=u.getD q 0:=fun q=>by have:=uF.get q;rw[hS.wrap,fg (by omega) (by omega)]
 have ev:∀q,zD .u64 (v.getD q 0)=v.getD q 0:=fun q=>by have:=xw.get q;rw[hS.wrap,fg (by omega) (by omega)]
 have et:zD .u64 (zE (zD .u64 (zH (u.getD n 0) 4294967296)) (u.getD (n-1) 0))=t:=by
  rw[hS.wrap,hS.wrap,hS.mul,hS.add,fg (x:=u.getD n 0*4294967296) (by omega) (by omega),fg (by omega) (by omega),ht]
 have Rn:0<=t/\t<18446744073709551616:=by omega
 have Vz:zT (v.getD (n-1) 0) 0=true:=by rw[hS.ne];exact decide_eq_true (by omega)
 have HS:0<=t/v.getD (n-1) 0:=Int.ediv_nonneg (by omega) (by omega);have Ty:t/v.getD (n-1) 0<8589934592:=Int.ediv_lt_of_lt_mul (by omega) (by omega);have xh:=Int.emod_nonneg t (show v.getD (n-1) 0≠0 by omega);have xL:=Int.emod_lt_of_pos t (show 0<v.getD (n-1) 0 by omega);have eq:zD .u64 (zI t (v.getD (n-1) 0))=t/v.getD (n-1) 0:=by rw[hS.quo,Int.tdiv_eq_ediv_of_nonneg (by omega),hS.wrap];exact fg (by omega) (by omega)
 have er:zJ t (v.getD (n-1) 0)=t%v.getD (n-1) 0:=by rw[hS.rem,Int.tmod_eq_emod_of_nonneg (by omega)]
 have sG:jK (v.getD (n-1) 0) (v.getD (n-2) 0) (u.getD (n-2) 0) 3 (t/v.getD (n-1) 0) (t%v.getD (n-1) 0)=g:=hg.symm;have Bi:aK (ae r) (ae r)=true:=by rw[hS.neq];exact decide_eq_true rfl
 clear hg ht;generalize Rp:v.getD (n-1) 0=v1 at *;generalize I5:v.getD (n-2) 0=v2 at *;generalize ha3:u.getD (n-2) 0=u2 at *;generalize ha4:u.getD n 0=u0 at *;generalize ha5:u.getD (n-1) 0=u1 at *;have eu0:=eu n;have eu1:=eu (n-1);have eu2:=eu (n-2);have Yh:=ev (n-1);have ev2:=ev (n-2);rw[ha4]at eu0;rw[ha5]at eu1;rw[ha3]at eu2;rw[Rp]at Yh;rw[I5]at ev2;cbv;rw[h2,w1,f2,f2,f5,f5,f8,Rp,ha4,ha5,eu0,eu1,Yh,et,eq,er]
 refine nd (f3 _ (by omega)) (nd (f4 _ (by omega)) (nd (f3 _ (by omega)) (nd (f4 _ (by omega)) (nd (f6 _) (nd (f7 _ (by omega)) (nd Vz (nd (f6 _) (nd (f7 _ (by omega)) (nd Vz ?_)))))))));generalize t/v1=q0 at *;generalize t%v1=m0 at *;refine fH aD mixed hS (fun(j:Nat) s'=>∃(q e:Int),0<=q/\q<8589934592/\0<=e/\e<4294967296/\jK v1 v2 u2 j q e=g/\4294967296<=e+j*v1/\s'=jb r s (ae r) (zy n) t q e) (n:=3)
  (s0:=jb r s (ae r) (zy n) t q0 m0) (iY ?_ ?_) rfl (Nat.le_refl 2) ?_ ?_
 ·simp[eC,jb,aC,vi,vl,vb,hS.aW]
 ·simp[eF,jb,aC]
 ·exact⟨q0,m0,HS,Ty,xh,by omega,sG,by push_cast;omega,rfl⟩
 ·rintro j _ ⟨q,e,b1,b2,b3,b4,MV,Yi,rfl⟩
  have j0:j≠0:=by
   rintro rfl
   simp at Yi;omega
  obtain⟨j,rfl⟩:∃i,j=i+1:=⟨j-1,by omega⟩;have Yj:4294967296<=(e+v1)+j*v1:=by
   have:((j+1:Nat):Int)*v1=j*v1+v1:=by push_cast;grind
   omega
  simp only[jK]at MV;have x1:zV 4294967296 q=decide (4294967296<=q):=by rw[hS.le]
  have x2:zD .u64 (zE e v1)=e+v1:=by rw[hS.wrap,hS.add];exact fg (by omega) (by omega)
  have x3:zV 4294967296 (e+v1)=decide (4294967296<=e+v1):=by rw[hS.le]
  have x4:0<q->zD .u64 (zG q 1)=q-1:=fun h=>by rw[hS.wrap,hS.sub];exact fg (by omega) (by omega)
  have N7:q<4294967296->0<=q*v2/\q*v2<=4294967295*4294967295:=fun h=>⟨Int.mul_nonneg b1 g5.1,Int.mul_le_mul (by omega) (by omega) g5.1 (by omega)⟩
  have x5:q<4294967296->zU (zD .u64 (zE (zD .u64 (zH e 4294967296)) u2)) (zD .u64 (zH q v2))=decide (e*4294967296+u2<q*v2):=fun h=>by
   have:=N7 h;rw[hS.lt,hS.wrap,hS.wrap,hS.wrap,hS.mul,hS.mul,hS.add,fg (x:=e*4294967296) (by omega) (by omega),fg (x:=e*4294967296+u2) (by omega) (by omega),fg (x:=q*v2) (by omega) (by omega)]
  have qf:e*4294967296+u2<q*v2->0<q:=fun h=>by
   rcases Int.lt_or_le 0 q with h'|h'
   ·exact h'
   ·obtain rfl:q=0:=by omega
    omega
  have fin:∀x:Int,x=g->F ⟨[.val (.c (.v (.int .u64 x)))],[some (.rows 1 r false false),none]⟩:=fun x hx=>by rw[hx];exact hF _ (aS.refl _)
  have step:(4294967296<=q∨e*4294967296+u2<q*v2)->¬4294967296<=e+v1->0<q->∀(T:List AV) (H:bM),eC T (jb r s (ae r) (zy n) t (q-1) (e+v1)).tmps->eF H (jb r s (ae r) (zy n) t (q-1) (e+v1)).heap->∃s':St,(St.mk T H).Le s'/\s'.a9=true/\[Arg.eP 1 r,Arg.val (tl s)].length<=s'.heap.length/\∃m,m<j+1/\∃(q e:Int),0<=q/\q<8589934592/\0<=e/\e<4294967296/\jK v1 v2 u2 m q e=g/\4294967296<=e+m*v1/\s'=jb r s (ae r) (zy n) t q e:=fun hb hc hp T H hT hH=>by
   rw[if_pos hb,if_neg hc]at MV;exact⟨_,iY hT hH,rfl,Nat.le_refl 2,j,by omega,q-1,e+v1,by omega,by omega,by omega,by omega,MV,Yj,rfl⟩
  cbv;rw[w1,w2,f2,f8,f8,f5,Rp,I5,ha3,Yh,ev2,eu2,x2];refine⟨fun h=>?_,fun h=>?_⟩
  all_goals rw[x1]at h
  ·have h:=of_decide_eq_true h
   rw[x4 (by omega)];refine nd (f6 _) (nd (f7 _ (by omega)) ⟨fun h'=>nd Bi (fin _ ?_),fun h'=>?_⟩)
   all_goals rw[x3]at h'
   ·rw[if_pos (.inl h),if_pos (of_decide_eq_true h')]at MV
    exact MV
   ·exact step (.inl h) (of_decide_eq_false h') (by omega) _ _ (by simp[eC,jb,aC,vi,vl,vb]) (by simp[eF,jb,aC])
  ·have h:=of_decide_eq_false h
   refine nd (f6 _) (nd (f7 _ (by omega)) (nd (f3 _ (by omega)) (nd (f4 _ (by omega)) ⟨fun E4=>?_,fun E4=>nd Bi (fin _ ?_)⟩)))
   all_goals rw[x5 (by omega)]at E4
   ·have E4:=of_decide_eq_true E4
    have hp:=qf E4;rw[x4 hp];refine nd (f6 _) (nd (f7 _ (by omega)) ⟨fun h'=>nd Bi (fin _ ?_),fun h'=>?_⟩)
    all_goals rw[x3]at h'
    ·rw[if_pos (.inr E4),if_pos (of_decide_eq_true h')]at MV
     exact MV
    ·exact step (.inr E4) (of_decide_eq_false h') hp _ _ (by simp[eC,jb,aC,vi,vl,vb]) (by simp[eF,jb,aC])
   ·have E4:=of_decide_eq_false E4
    rw[if_neg (by omega)]at MV;exact MV
end Go.Proofs.YtekefilngojelaaGreat
end
section
namespace Go.Abs.M
def dA (l:List Int) (c:Nat) (xs:List Int):List Int:=l.take c++xs++l.drop (c+xs.length)
theorem Dw {l:List Int} {p:Nat} (hw:Wd l) (h:val l<4294967296^p):val (l.take p)=val l/\val (l.drop p)=0:=by
 rcases Nat.lt_or_ge l.length p with hp|hp
 ·rw[List.take_of_length_le (by omega),List.drop_of_length_le (by omega)];exact⟨rfl,rfl⟩
 ·have e:=MQ l p hp
  have a:=sC (hw.take p);have b:=sC (hw.drop p);have hq:=xb p;rcases Int.lt_or_le 0 (val (l.drop p)) with h0|h0
  ·exfalso
   have:4294967296^p*1<=4294967296^p*val (l.drop p):=Int.mul_le_mul_of_nonneg_left (by omega) (by omega);omega
  ·have hz:val (l.drop p)=0:=by omega
   rw[hz]at e;exact⟨by omega,hz⟩
structure nO (U V:Int) (n m k:Nat) (u q:List Int):Prop where
 ul:u.length=n+m+1
 ql:q.length=m+1
 uw:Wd u
 qw:Wd q
 hk:k<=m+1
 eq:U=val u+V*4294967296^k*val (q.drop k)
 lt:val (u.drop k)<V
def dq (n j:Nat) (u:List Int):List Int:=(u.drop j).take (n+1)
section
variable {U V:Int} {n m j:Nat} {u q v:List Int}
theorem nO.Dx (h:nO U V n m (j+1) u q) (hV:V<4294967296^n):val (dq n j u)=val (u.drop j)/\val (u.drop (j+(n+1)))=0/\val (dq n j u)<V*4294967296:=by
 have hj:=h.hk;have Et:=h.ul;have bH:=h.lt;have e:=HP (l:=u) (k:=j) (by omega);have hw:=h.uw.get j;have hb:val (u.drop j)<V*4294967296:=by omega
 have mc:val (u.drop j)<4294967296^(n+1):=by rw[Int.pow_succ];omega
 obtain⟨a,b⟩:=Dw (h.uw.drop j) mc;refine⟨a,?_,by unfold dq;omega⟩;rw[List.drop_drop]at b;exact b
theorem Bn (hu:u.length=n+m+1) (hj:j<=m):(dq n j u).length=n+1:=by unfold dq;simp;omega
theorem kD {c:Nat} {xs l:List Int} (h:c+xs.length<=l.length):(dA l c xs).length=l.length:=by unfold dA;simp;omega
theorem Dy {c:Nat} {xs l:List Int} (hl:Wd l) (hx:Wd xs):Wd (dA l c xs):=((hl.take c).append hx).append (hl.drop _)
theorem yu {c:Nat} {xs l:List Int} (h:c+xs.length<=l.length):val (dA l c xs)=val (l.take c)+4294967296^c*(val xs+4294967296^xs.length*val (l.drop (c+xs.length))):=by
 unfold dA;rw[List.append_assoc,fx,fx,List.length_take,Nat.min_eq_left (by omega)]
theorem pI {c:Nat} {xs l:List Int} (h:c+xs.length<=l.length):(dA l c xs).drop c=xs++l.drop (c+xs.length):=by
 unfold dA;rw[List.append_assoc,List.drop_append_of_le_length (by simp;omega),List.drop_of_length_le (by simp;omega)];rfl
theorem nO.step (h:nO U V n m (j+1) u q) (hV:V<4294967296^n) (PN:0<V) {d:Int} (hd:d=val (dq n j u)/V) :
  0<=d/\d<4294967296/\nO U V n m j (dA u j (xx (n+1) (val (dq n j u)-d*V))) (q.set j d):=by
 obtain⟨p1,p2,p3⟩:=h.Dx hV;have hj:=h.hk;have Et:=h.ul;have SR:Wd (dq n j u):=(h.uw.drop j).take _;have Ex:=sC SR;have Rq:0<=d:=by rw[hd];exact Int.ediv_nonneg Ex (by omega)
 have hd1:d<4294967296:=by rw[hd];exact Int.ediv_lt_of_lt_mul PN (by rw[Int.mul_comm];exact p3)
 have xh:=Int.emod_nonneg (val (dq n j u)) (show V≠0 by omega);have xL:=Int.emod_lt_of_pos (val (dq n j u)) PN;have Yi:=Int.emod_add_mul_ediv (val (dq n j u)) V;rw[<-hd]at Yi;have Tz:(4294967296:Int)^(n+1)=4294967296^n*4294967296:=Int.pow_succ ..;have hpp:=xb n;have hx:val (xx (n+1) (val (dq n j u)-d*V))=val (dq n j u)-d*V:=PO (by
  have:d*V=V*d:=Int.mul_comm ..;omega) (by
  have:d*V=V*d:=Int.mul_comm ..;omega)
 have Yk:=MU (n+1) (val (dq n j u)-d*V);have jP:j+(xx (n+1) (val (dq n j u)-d*V)).length<=u.length:=by rw[Yk];omega
 refine⟨Rq,hd1,⟨by rw[kD jP];exact Et,by simpa using h.ql,Dy h.uw (sE _ _),h.qw.set _ Rq hd1,by omega,?_,?_⟩⟩
 ·have e1:=yu jP
  rw[Yk,hx,p2,Int.mul_zero,Int.add_zero]at e1;have e2:=MQ u j (by omega);rw[<-p1]at e2;have e3:val ((q.set j d).drop j)=d+4294967296*val (q.drop (j+1)):=by
   have Rt:=h.ql;rw[HP (by simp;omega),oq _ (by omega),PI]
  rw[e1,e3,h.eq,e2,Int.pow_succ];grind
 ·rw[pI jP,fx,Yk,hx,p2]
  have:d*V=V*d:=Int.mul_comm ..;omega
end
theorem Ku {X V g d:Int} (hV:0<V) (hd:d=X/V) (h1:d<=g) (h2:(g-1)*V<=X):(X-g*V<0->g-1=d)/\(¬X-g*V<0->g=d):=by
 have e:=Int.emod_add_mul_ediv X V;have b1:=Int.emod_nonneg X (show V≠0 by omega);have b2:=Int.emod_lt_of_pos X hV;rw[<-hd]at e;have hg:g<=d+1:=by
  rcases Int.lt_or_le (d+1) g with h|h
  ·exfalso
   have:(d+1)*V<=(g-1)*V:=Int.mul_le_mul_of_nonneg_right (by omega) (by omega);have e2:(d+1)*V=V*d+V:=by grind
   omega
  ·exact h
 refine⟨fun h=>?_,fun h=>?_⟩
 ·rcases(show g=d∨g=d+1 by omega) with rfl|rfl
  ·have:g*V=V*g:=Int.mul_comm ..
   omega
  ·omega
 ·rcases(show g=d∨g=d+1 by omega) with rfl|rfl
  ·rfl
  ·have e2:(d+1)*V=V*d+V:=by grind
   omega
theorem Kv {n:Nat} {x y:Int}:xx n (val (xx n x)+y)=xx n (x+y):=by
 refine val_inj (sE _ _) (sE _ _) (by rw[MU,MU]) ?_;rw[nt,nt,nt,Int.emod_add_emod]
theorem nO.start {U V:Int} {n m:Nat} {u:List Int} (hu:u.length=n+m+1) (hw:Wd u) (hU:val u=U) (bH:U<V*4294967296^(m+1)):nO U V n m (m+1) u (List.replicate (m+1) 0):=by
 refine⟨hu,by simp,hw,Wd.rep _,Nat.le_refl _,?_,?_⟩
 ·rw[List.drop_of_length_le (by simp)];simp[val,hU]
 ·have e:=MQ u (m+1) (by omega)
  have a:=sC (hw.take (m+1));rcases Int.lt_or_le (val (u.drop (m+1))) V with h|h
  ·exact h
  ·exfalso
   have:4294967296^(m+1)*V<=4294967296^(m+1)*val (u.drop (m+1)):=Int.mul_le_mul_of_nonneg_left h (by have:=xb (m+1);omega);have e2:V*4294967296^(m+1)=4294967296^(m+1)*V:=Int.mul_comm ..;omega
theorem nO.last {a b d:Int} {n m:Nat} {u q:List Int} (h:nO (d*a) (d*b) n m 0 u q) (hd:0<d) (hb:0<b):val q=a/b/\val u/d=a%b:=by
 have e:=h.eq;have l:=h.lt;simp only[List.drop_zero,Int.pow_zero,Int.mul_one]at e l;have hu:=sC h.uw;have e1:val u=d*(a-b*val q):=by grind
 have r0:0<=a-b*val q:=by
  rcases Int.lt_or_le (a-b*val q) 0 with h|h
  ·have:=Int.mul_neg_of_pos_of_neg hd h;omega
  ·exact h
 have r1:a-b*val q<b:=by
  rcases Int.lt_or_le (a-b*val q) b with h|h
  ·exact h
  ·have:=Int.mul_le_mul_of_nonneg_left h (show 0<=d by omega)
   omega
 have hq:a/b=val q/\a%b=a-b*val q:=by
  have e2:a=(a-b*val q)+b*val q:=by omega
  refine⟨?_,?_⟩
  ·conv=>lhs;rw[e2]
   rw[Int.add_mul_ediv_left _ _ (by omega),Int.ediv_eq_zero_of_lt r0 r1,Int.zero_add]
  ·conv=>lhs;rw[e2]
   rw[Int.add_mul_emod_self_left,Int.emod_eq_of_lt r0 r1]
 refine⟨hq.1.symm,?_⟩;rw[hq.2,e1,Int.mul_ediv_cancel_left _ (by omega)]
theorem MW {b w d:Int} {n:Nat} (hw0:1<=w) (Jb:w<4294967296) (hd:d=4294967296/(w+1)) (h1:w*4294967296^n<=b) (h2:b<(w+1)*4294967296^n) :
  1<=d/\d<4294967296/\2147483648*4294967296^n<=d*b/\d*b<4294967296*4294967296^n:=by
 have e:=Int.emod_add_mul_ediv 4294967296 (w+1);have b1:=Int.emod_nonneg 4294967296 (show w+1≠0 by omega);have b2:=Int.emod_lt_of_pos 4294967296 (show 0<w+1 by omega);rw[<-hd]at e;have hp:=xb n;have d1:1<=d:=by
  rw[hd];exact Int.le_ediv_of_mul_le (by omega) (by omega)
 have d2:d<4294967296:=by
  rw[hd];exact Int.ediv_lt_of_lt_mul (by omega) (by omega)
 have v9:2147483648<=d*w:=by
  rcases(show d=1∨2<=d by omega) with h|h
  ·rw[h]at e ⊢;omega
  ·rcases(show w=1∨2<=w by omega) with h'|h'
   ·subst h';omega
   ·have:2*(w-1)<=d*(w-1):=Int.mul_le_mul_of_nonneg_right h (by omega)
    have e1:d*(w-1)=d*w-d:=by grind
    have e2:(w+1)*d=d*w+d:=by grind
    omega
 refine⟨d1,d2,?_,?_⟩
 ·have x1:d*(w*4294967296^n)<=d*b:=Int.mul_le_mul_of_nonneg_left h1 (by omega)
  have x2:2147483648*4294967296^n<=d*w*4294967296^n:=Int.mul_le_mul_of_nonneg_right v9 (by omega);have x3:d*w*4294967296^n=d*(w*4294967296^n):=by grind
  omega
 ·have x1:d*b<d*((w+1)*4294967296^n):=Int.mul_lt_mul_of_pos_left h2 (by omega)
  have x2:(w+1)*d*4294967296^n<=4294967296*4294967296^n:=Int.mul_le_mul_of_nonneg_right (by omega) (by omega);have x3:(w+1)*d*4294967296^n=d*((w+1)*4294967296^n):=by grind
  omega
theorem wa {l:List Int} {n:Nat} (hw:Wd l) (hl:l.length=n+1):l.getD n 0*4294967296^n<=val l/\val l<(l.getD n 0+1)*4294967296^n:=by
 have e:=MQ l n (by omega);rw[HP (by omega),List.drop_of_length_le (by omega)]at e;have a:=sC (hw.take n);have b:=Bf (hw.take n);rw[List.length_take,Nat.min_eq_left (by omega)]at b;simp only[val]at e;have x1:(l.getD n 0+1)*4294967296^n=l.getD n 0*4294967296^n+4294967296^n:=by grind
 have x2:4294967296^n*(l.getD n 0+4294967296*0)=l.getD n 0*4294967296^n:=by grind
 omega
theorem Dz {n j:Nat} {u x:List Int} (hx:x.length=n+1) (h:j+(n+1)<=u.length):dq n j (dA u j x)=x:=by
 unfold dq;rw[pI (by omega),List.take_append_of_le_length (by omega),List.take_of_length_le (by omega)]
theorem Fv {n j:Nat} {u:List Int} (h:j+(n+1)<=u.length):dA u j (dq n j u)=u:=by
 unfold dA dq;rw[List.length_take,List.length_drop,Nat.min_eq_left (by omega)];have e:List.drop (j+(n+1)) u=List.drop (n+1) (List.drop j u):=by rw[List.drop_drop]
 rw[e,List.append_assoc,List.take_append_drop,List.take_append_drop]
theorem DA {j:Nat} {u x y:List Int} (hxy:x.length=y.length) (h:j+x.length<=u.length):dA (dA u j x) j y=dA u j y:=by
 have e1:(dA u j x).take j=u.take j:=by
  unfold dA;rw[List.append_assoc,List.take_append_of_le_length (by simp;omega),List.take_of_length_le (by simp;omega)]
 have e2:(dA u j x).drop (j+y.length)=u.drop (j+y.length):=by
  have:=pI h;rw[<-List.drop_drop,this,List.drop_append_of_le_length (by omega),List.drop_of_length_le (by omega),hxy];rfl
 show(dA u j x).take j++y++(dA u j x).drop (j+y.length)=dA u j y
 rw[e1,e2];rfl
theorem Kw {n:Nat} {x:List Int} (h:x.length<=n) (hw:Wd x):val (dA (List.replicate n 0) 0 x)=val x/\(dA (List.replicate n 0) 0 x).length=n/\Wd (dA (List.replicate n 0) 0 x):=by
 refine⟨?_,by rw[kD (by simp;omega)];simp,Dy (Wd.rep _) hw⟩;rw[yu (by simp;omega)];simp[val,Bg]
end Go.Abs.M
namespace Go.Abs.M
theorem HT {U V:Int} {n m j:Nat} {u q lv:List Int} (hI:nO U V n m (j+1) u q) (hn:2<=n) (PQ:lv.length=n) (Kx:Wd lv) (GP:val lv=V) (lV:2147483648<=lv.getD (n-1) 0) :
  ∃(g qd:Int) (b:Bool) (x1:List Int),g=sF (lv.getD (n-1) 0) (lv.getD (n-2) 0) ((dq n j u).getD (n-2) 0) ((dq n j u).getD n 0*4294967296+(dq n j u).getD (n-1) 0)/\0<=g/\g<=4294967296/\0<=qd/\qd<4294967296 /\
   b=decide (val (dq n j u)-g*val lv<0)/\x1=xx (n+1) (val (dq n j u)-g*val lv)/\x1.length=n+1/\Wd x1/\j<=m/\u.length=n+m+1/\q.length=m+1/\(dq n j u).length=n+1/\Wd (dq n j u) /\
   (b=true->g-1=qd/\∃x2,x2=xx x1.length (val x1+val lv)/\x2.length=n+1/\nO U V n m j (dA u j x2) (q.set j qd)) /\
   (b=false->g=qd/\nO U V n m j (dA u j x1) (q.set j qd)):=by
 have PR:V<4294967296^n:=by rw[<-GP,<-PQ];exact Bf Kx
 have PN:0<V:=by
  have h1:=(wa Kx (n:=n-1) (by omega)).1;rw[GP]at h1;have h2:=Int.mul_pos (show 0<lv.getD (n-1) 0 by omega) (xb (n-1));omega
 have hj:=hI.hk;have Et:=hI.ul;obtain⟨p1,p2,p3⟩:=hI.Dx PR;obtain⟨X,hX⟩:∃X,X=val (dq n j u):=⟨_,rfl⟩;obtain⟨qd,Yl⟩:∃qd,qd=X/V:=⟨_,rfl⟩;obtain⟨s1,s2,s3⟩:=hI.step PR PN (hX▸Yl);have pl:=Bn (n:=n) Et (show j<=m by omega);have pw:Wd (dq n j u):=(hI.uw.drop j).take _;have Ym:=sC pw;rw[<-hX]at Ym p3 s3;have Rg:=Tw hn pl PQ pw Kx lV (by rw[GP,<-hX];exact p3)
 obtain⟨g,hg⟩:∃g,g=sF (lv.getD (n-1) 0) (lv.getD (n-2) 0) ((dq n j u).getD (n-2) 0) ((dq n j u).getD n 0*4294967296+(dq n j u).getD (n-1) 0):=⟨_,rfl⟩;obtain⟨k1,k2,k3⟩:=Dt (q:=qd) Rg (by rw[GP,<-hX,Yl];exact Int.ediv_mul_le _ (by omega)) s1 s2;rw[<-hg]at k1 k2 k3;rw[GP,<-hX]at k3;obtain⟨d1,d2⟩:=Ku PN Yl k1 k3;refine⟨g,qd,_,_,hg,by omega,k2,s1,s2,rfl,rfl,MU _ _,sE _ _,by omega,Et,hI.ql,pl,pw,fun h=>?_,fun h=>?_⟩
 ·rw[GP,<-hX]at h
  have hq:=d1 (of_decide_eq_true h);refine⟨hq,_,rfl,by rw[MU,MU],?_⟩;rw[MU,Kv,GP,<-hX,show X-g*V+V=X-qd*V by rw[show g=qd+1 by omega];grind];exact s3
 ·rw[GP,<-hX]at h
  have hq:=d2 (of_decide_eq_false h);refine⟨hq,?_⟩;rw[GP,<-hX,hq];exact s3
end Go.Abs.M
end
section
namespace Go.Proofs.YtekefilngojelaaGreat
open Go Go.Abs Go.Abs.M Go.Proofs
def jL (r s v U Q:Abs.Rows) (ul ql:Nat) (n d j:Int):St:=aC 110 [vl r,vl s,.aj,.aj,eW,eW,.aj,.aj,vi .i64 n,vi .u64 d,vl v,.c (.sl 8 0 ul false),.c (.sl 13 0 ql false),vi .i64 j] [none,none,none,none,none,none,none,none,some (.rows 1 U true false),none,none,none,none,some (.rows 1 Q true false)]
theorem xz {r s w v y A2 A3:Abs.Rows} {U V w1 d c:Int} {n la m l1 m1 n1 n':Nat} {lr ls lv lu u0:List Int}
  (hr:r=W .u32 lr) (hs:s=W .u32 ls) (hv:v=W .u32 lv) (hy:y=W .u32 lu) (lrl:lr.length=la) (lsl:ls.length=n) (dG:la<=549755813888) (hn:2<=n) (hm:la=n+m) (JD:l1=la+1) (xL:m1=m+1) (N0:n1=n+1) (TA:n=n'+1)
  (Jb:ls.getD n' 0=w1) (Ky:1<=w1/\w1<4294967296) (hd:4294967296/(w1+1)=d) (hdb:1<=d/\d<4294967296) (hc:¬c<0) (VA:lu.length<=l1) (wb:dA (List.replicate l1 0) 0 lu=u0)
  (PQ:lv.length=n) (Kx:Wd lv) (GP:val lv=V) (lV:2147483648<=lv.getD (n-1) 0)
  (sG:nO U V n m (m+1) u0 (List.replicate m1 0))
  (cc:aA Tryz.prog 136 [.val (tl r),.val (tl s)] ⟨[.val (ti .i64 c)],[none,none]⟩)
  (c1:aA Tryz.prog 113 [.val (ti .u64 d)] ⟨[.val (tl w)],[none]⟩)
  (c2:aA Tryz.prog 132 [.val (tl s),.val (tl w)] ⟨[.val (tl v)],[none,none]⟩)
  (c3:aA Tryz.prog 132 [.val (tl r),.val (tl w)] ⟨[.val (tl y)],[none,none]⟩)
  (Kt:∀u q,nO U V n m 0 u q->∃(A1:Abs.Rows) (A4:Int),aA Tryz.prog 142 [.val (tl (W .u32 u))] ⟨[.val (tl A1)],[none]⟩/\aA Tryz.prog 142 [.val (tl (W .u32 q))] ⟨[.val (tl A2)],[none]⟩ /\
   aA Tryz.prog 153 [.val (tl A1),.val (ti .u64 d)] ⟨[.val (tl A3),.val (ti .u64 A4)],[none,none]⟩) :
  aA Tryz.prog 128 [.val (tl r),.val (tl s)] ⟨[.val (tl A2),.val (tl A3)],[none,none]⟩:=by
 refine aV aD mixed [.val,.val] Tryz.func128 rfl rfl (by kernel_rfl) fun zD zE zG zH zI zJ zK zL zM zN zO zR zS zT zU zV zX zY zZ zg zh zj zu zy zz aK ah aI aH ak aq ae aE aB aG ao az aJ an aO au aP ai aM aN ay aw aL ar zW bc A L F hS hF=>?_
 have z1:ae r=la:=by rw[hS.len,hr,iZ,lrl]
 have z2:ae s=n:=by rw[hS.len,hs,iZ,lsl]
 have z3:zD .i64 (zG (zy n) 1)=zy n':=by rw[hS.wrap,hS.sub,hS.aW,hS.aW,wrap_i64 (by omega) (by omega)];omega
 have z4:ao s (zj (zy n'))=w1:=by rw[hS.dL,hS.nat,hS.aW,hs,ph,Int.toNat_natCast,Jb]
 have z5:zD .u64 (zE (zD .u64 w1) 1)=w1+1:=by rw[hS.wrap,hS.wrap,fg (x:=w1) (by omega) (by omega),hS.add];exact fg (by omega) (by omega)
 have z6:zD .u64 (zI 4294967296 (w1+1))=d:=by rw[hS.quo,Int.tdiv_eq_ediv_of_nonneg (by omega),hd,hS.wrap];exact fg (by omega) (by omega)
 have z7:zD .i64 (zE (zy la) 1)=zy l1:=by rw[hS.wrap,hS.add,hS.aW,hS.aW,wrap_i64 (by omega) (by omega)];omega
 have z8:zD .i64 (zG (zy la) (zy n))=zG (zy (m+1)) 1:=by rw[hS.wrap,hS.sub,hS.aW,hS.aW,hS.sub,hS.aW,wrap_i64 (by omega) (by omega)];omega
 have z9:zD .i64 (zE (zG (zy (m+1)) 1) 1)=zy m1:=by rw[hS.wrap,hS.add,hS.sub,hS.aW,hS.aW,wrap_i64 (by omega) (by omega)];omega
 have Yn:∀k,zj (zy k)=k:=fun k=>by rw[hS.nat,hS.aW];omega
 have iR:∀k,aP k [.v (.int .u32 0)]=zW .u32 (List.replicate k 0):=fun k=>by rw[hS.rep,hS.W];exact vW ..
 have pF:au (zW .u32 (List.replicate l1 0)) 0 y=zW .u32 u0:=by rw[hS.AU,hS.W,hy,Kl,<-wb];rfl
 have zyl:ae y=lu.length:=by rw[hS.len,hy,iZ]
 have o1:zU c 0=false:=by rw[hS.lt];exact decide_eq_false hc
 have o2:zS (zy n) 1=false:=by rw[hS.eq,hS.aW];exact decide_eq_false (by omega)
 have o3:zV 0 (zy n')=true:=by rw[hS.le,hS.aW];exact decide_eq_true (by omega)
 have o4:aG .u32 s (zj (zy n'))=true:=by rw[hS.gJ,Yn,hs,lS];exact decide_eq_true (by omega)
 have o5:zT (w1+1) 0=true:=by rw[hS.ne];exact decide_eq_true (by omega)
 have o6:aq (zy l1) (zy l1) 4=true:=by rw[hS.my,hS.aW];exact decide_eq_true (by unfold aF;omega)
 have o7:aJ 0 l1 (zW .u32 (List.replicate l1 0))=true:=by rw[hS.fit,hS.W,iZ];exact decide_eq_true (by simp)
 have o8:ai 1 y=true:=by rw[hS.wide,hy];exact Fo _ _
 have o9:zV (zy (ae y)) (zy l1)=true:=by rw[hS.le,hS.aW,hS.aW,zyl];exact decide_eq_true (by omega)
 have o10:aq (zy m1) (zy m1) 4=true:=by rw[hS.my,hS.aW];exact decide_eq_true (by unfold aF;omega)
 clear hr hs lrl lsl Jb Ky hd hc VA wb hy zyl;cbv;refine⟨_,hS.call cc,?_⟩;cbv;rw[z2,z3,z4,z5];refine bF o1 (bF o2 (nd o3 (nd o4 (nd o5 ?_))));rw[z6];refine⟨_,hS.call c1,?_⟩;cbv;refine⟨_,hS.call c2,?_⟩;cbv;rw[z1,z7,Yn,iR];refine nd o6 ?_;refine⟨_,hS.call c1,?_⟩;cbv;refine⟨_,hS.call c3,?_⟩;cbv;rw[pF,z1,z8,z9,Yn,iR];refine nd o7 (nd o8 (nd o9 (nd o10 ?_)));clear z2 z3 z4 z5 z6 z7 z8 z9 o1 o2 o3 o4 o5 o6 o7 o8 o9 o10 cc c1 c2 c3 pF
 refine fH aD mixed hS (fun(k:Nat) s'=>∃(u q:List Int),nO U V n m k u q/\s'=jL r s v (zW .u32 u) (zW .u32 q) l1 m1 (zy n) d (zG (zy k) 1)) (n:=m+1)
  (s0:=jL r s v (zW .u32 u0) (zW .u32 (List.replicate m1 0)) l1 m1 (zy n) d (zG (zy (m+1)) 1)) (iY ?_ ?_) rfl (by show 2<=14;omega) ?_ ?_
 ·simp[eC,jL,aC,vi,vl,eW]
 ·simp[eF,jL,aC]
 ·exact⟨u0,_,sG,rfl⟩
 ·clear sG
  rintro k _ ⟨u,q,hI,rfl⟩
  cases k with
  | zero=>
   obtain⟨A1,A4,t1,t2,t3⟩:=Kt u q hI;have Et:=hI.ul;have Rt:=hI.ql;have hz:zV 0 (zG (zy 0) 1)=false:=by rw[hS.le,hS.sub,hS.aW];rfl
   have Bi:aJ 0 l1 (zW .u32 u)=true:=by rw[hS.fit,hS.W,iZ];exact decide_eq_true (by omega)
   have Kr:an (zW .u32 u) 0 l1=W .u32 u:=by rw[hS.part,hS.W,jH,List.drop_zero,List.take_of_length_le (by omega)]
   have e12:aJ 0 m1 (zW .u32 q)=true:=by rw[hS.fit,hS.W,iZ];exact decide_eq_true (by omega)
   have kE:an (zW .u32 q) 0 m1=W .u32 q:=by rw[hS.part,hS.W,jH,List.drop_zero,List.take_of_length_le (by omega)]
   cbv;refine bF hz ?_;rw[Kr];refine nd Bi ⟨_,hS.call t1,?_⟩;cbv;refine⟨_,hS.call t3,?_⟩;cbv;rw[kE];refine nd e12 ⟨_,hS.call t2,?_⟩;cbv;exact hF _ (aS.refl _)
  | succ j=>
   obtain⟨g,qd,b,x1,hg,g0,g1,q0,q1,hb,EM,Yo,wx1,N6,Et,Rt,pl,pw,ht,hf⟩:=HT hI hn PQ Kx GP lV;have cg:=Du (r:=zW .u32 (dq n j u)) g (by rw[hS.W]) hv pl PQ hn (by omega) pw Kx lV hg;have cl:=Bm (r:=zW .u32 (dq n j u)) (r':=zW .u32 x1) g b (by rw[hS.W]) hv (by omega) (by omega) pw Kx g0 g1 (by rw[hS.W,pl,EM]) hb;have cr:=fun x2 h=>xy (r:=zW .u32 x1) (r':=zW .u32 x2) (s:=v) (u:=x1) (by rw[hS.W]) hv (by omega) (by omega) wx1 Kx h
   clear hg hb EM;have hi:zG (zy (j+1)) 1=(j:Int):=by rw[hS.sub,hS.aW];omega
   have hz:zV 0 (zG (zy (j+1)) 1)=true:=by rw[hS.le,hi];exact decide_eq_true (by omega)
   have TB:zD .i64 (zG (zG (zy (j+1)) 1) 1)=zG (zy j) 1:=by rw[hi,hS.wrap,hS.sub,hS.sub,hS.aW,wrap_i64 (by omega) (by omega)]
   have y1:zD .i64 (zE (zD .i64 (zE (zG (zy (j+1)) 1) (zy n))) 1)=zy (j+n1):=by
    rw[hi,hS.wrap,hS.wrap,hS.add,hS.add,hS.aW,hS.aW,wrap_i64 (x:=(j:Int)+n) (by omega) (by omega),wrap_i64 (by omega) (by omega)];omega
   have y2:zz 0 (zG (zy (j+1)) 1)=j:=by rw[hS.idx,hi];omega
   have y3:aI (zy (j+n1)) (zG (zy (j+1)) 1)=n1:=by rw[hS.HF,hi,hS.aW];omega
   have y4:∀u':List Int,an (zW .u32 u') j n1=zW .u32 (dq n j u'):=fun u'=>by rw[hS.part,hS.W,jH,N0];rfl
   have y5:∀u' x:List Int,au (zW .u32 u') j (zW .u32 x)=zW .u32 (dA u' j x):=fun u' x=>by rw[hS.AU,hS.W,Kl];rfl
   have y6:aH (zG (zy (j+1)) 1) (zy (j+n1)) l1=true:=by rw[hS.cut,hi,hS.aW];exact decide_eq_true (by omega)
   have y7:∀u':List Int,u'.length=n+m+1->aJ j n1 (zW .u32 u')=true:=fun u' h=>by rw[hS.fit,hS.W,iZ];exact decide_eq_true (by omega)
   have y8:∀x:List Int,x.length=n+1->aK (ae (zW .u32 x)) n1=true:=fun x h=>by rw[hS.neq,hS.len,hS.W,iZ,N0];exact decide_eq_true h
   have y9:dA u j (dq n j u)=u:=Fv (by omega);have y10:dq n j (dA u j x1)=x1:=Dz Yo (by omega);have y11:(dA u j x1).length=n+m+1:=by rw[kD (by omega)];exact Et
   have y12:∀x2:List Int,x2.length=n+1->dA (dA u j x1) j x2=dA u j x2:=fun x2 h=>DA (by omega) (by omega)
   have y13:zu (zG (zy (j+1)) 1) m1=true:=by rw[hS.xo,hi];exact decide_eq_true (by omega)
   have y14:aG .u32 (zW .u32 q) j=true:=by rw[hS.gJ,hS.W,lS];exact decide_eq_true (by omega)
   have y15:∀x,az .u32 (zW .u32 q) j x=zW .u32 (q.set j x):=fun x=>by rw[hS.nK,hS.W,oo]
   have y16:zD .u32 qd=qd:=by rw[hS.wrap];exact Ja (by omega) (by omega)
   have y18:g-1=qd->zD .u64 (zG g 1)=qd:=fun h=>by rw[hS.wrap,hS.sub,fg (by omega) (by omega),h]
   clear hI hi;cbv;refine bT hz ?_;rw[y1,y2,y3,y4];refine nd y6 (nd (y7 _ Et) ⟨_,hS.call cg,?_⟩);cbv;rw[y5,y9,y4];refine nd (y8 _ pl) (nd (y7 _ Et) ?_);cases b with
   | true=>
    obtain⟨TC,x2,OQ,lx2,Yp⟩:=ht rfl;refine⟨_,hS.call cl,?_⟩;cbv;rw[y5,y4,y10];refine nd (y8 _ Yo) (bT rfl (nd (y7 _ y11) ⟨_,hS.call (cr x2 (by rw[hS.W,OQ])),?_⟩));cbv;rw[y2,y5,y12 _ lx2,y18 TC,y16,y15,TB];refine nd (y8 _ lx2) (nd y13 (nd y14 ?_));exact again (s':=jL r s v (zW .u32 (dA u j x2)) (zW .u32 (q.set j qd)) l1 m1 (zy n) d (zG (zy j) 1)) (m:=j) (by simp[eC,jL,aC,vi,vl,eW]) (by simp[eF,jL,aC]) rfl (by show 2<=14;omega) (by omega) ⟨_,_,Yp,rfl⟩
   | false=>
    obtain⟨TC,Yp⟩:=hf rfl;refine⟨_,hS.call cl,?_⟩;cbv;rw[y2,y5,TC,y16,y15,TB];refine nd (y8 _ Yo) (bF rfl (nd y13 (nd y14 ?_)));exact again (s':=jL r s v (zW .u32 (dA u j x1)) (zW .u32 (q.set j qd)) l1 m1 (zy n) d (zG (zy j) 1)) (m:=j) (by simp[eC,jL,aC,vi,vl,eW]) (by simp[eF,jL,aC]) rfl (by show 2<=14;omega) (by omega) ⟨_,_,Yp,rfl⟩
open Go Go.Abs Go.Abs.M Go.Proofs
theorem xA {r s:Abs.Rows} {a b:Nat} (hr:lU a r) (hs:lU b s) (h2:2<=nl b) (Ei:b<=a) (dG:nl a<=549755813888) :
  aA Tryz.prog 128 [.val (tl r),.val (tl s)] ⟨[.val (tl (W .u32 (dg (a/b)))),.val (tl (W .u32 (dg (a%b))))],[none,none]⟩:=by
 obtain⟨n,hn⟩:∃n,n=nl b:=⟨_,rfl⟩;obtain⟨la,Yq⟩:∃la,la=nl a:=⟨_,rfl⟩;have Gn:=Ev Ei;obtain⟨m,hm⟩:∃m,la=n+m:=⟨la-n,by omega⟩;obtain⟨n',TA⟩:∃n',n=n'+1:=⟨n-1,by omega⟩;have lb:(dg b).length=n:=hn.symm;have laa:(dg a).length=la:=Yq.symm;obtain⟨w1,Jb⟩:∃w1,w1=(dg b).getD n' 0:=⟨_,rfl⟩;have Ky:=(ju b).get n';rw[<-Jb]at Ky;have VB:=wa (ju b) (n:=n') (by omega);rw[<-Jb,jI]at VB
 have PS:1<=w1:=by
  rcases ja b with h|h
  ·rw[h]at lb;simp at lb;omega
  ·rw[lb,TA,Nat.add_sub_cancel,<-Jb]at h;omega
 obtain⟨d,hd⟩:∃d,d=4294967296/(w1+1):=⟨_,rfl⟩;obtain⟨d1,d2,d3,d4⟩:=MW PS Ky.2 hd VB.1 VB.2;have N8:0<(b:Int):=by
  rcases Nat.eq_zero_or_pos b with h|h
  ·subst h;simp[qR]at lb;omega
  ·omega
 obtain⟨V,hV⟩:∃V,V=d*b:=⟨_,rfl⟩;have PN:0<V:=by rw[hV];exact Int.mul_pos (by omega) N8
 have Tz:(4294967296:Int)^n=4294967296^n'*4294967296:=by rw[TA,Int.pow_succ]
 have PR:V<4294967296^n:=by rw[Tz,hV];omega
 have aeS:2147483648*4294967296^n'<=V:=by rw[hV];exact d3
 obtain⟨lv,MS⟩:∃lv,lv=dg V.toNat:=⟨_,rfl⟩;have GP:val lv=V:=by rw[MS,jI];omega
 have Kx:Wd lv:=by rw[MS];exact ju _
 have PQ:lv.length=n:=by
  have a1:nl V.toNat<=n:=tK (by omega);have a2:n'<nl V.toNat:=by
   rcases Nat.lt_or_ge n' (nl V.toNat) with h|h
   ·exact h
   ·have x1:=mF V.toNat
    have x2:=jv h;have x3:=xb n';omega
  rw[MS];show nl V.toNat=n
  omega
 have lV:2147483648<=lv.getD (n-1) 0:=by
  have t:=(wa Kx (n:=n') (by omega)).2;rw[GP]at t;rw[TA,Nat.add_sub_cancel];rcases Int.lt_or_le (lv.getD n' 0) 2147483648 with h|h
  ·exfalso
   have:=Int.mul_le_mul_of_nonneg_right (show lv.getD n' 0+1<=2147483648 by omega) (show(0:Int)<=4294967296^n' by have:=xb n';omega);omega
  ·exact h
 obtain⟨lu,VC⟩:∃lu,lu=dg (d*a).toNat:=⟨_,rfl⟩;have hda:0<=d*(a:Int):=Int.mul_nonneg (by omega) (by omega);have vlu:val lu=d*a:=by rw[VC,jI];omega
 have VA:lu.length<=la+1:=by
  rw[VC];refine tK (k:=la+1) ?_;have x1:=mF a;rw[<-Yq]at x1;have x2:d*(a:Int)<=4294967296*a:=Int.mul_le_mul_of_nonneg_right (by omega) (by omega);rw[Int.pow_succ];omega
 obtain⟨f1,f2,f3⟩:=Kw VA (by rw[VC];exact ju _);obtain⟨w,hw⟩:∃w,w=W .u32 (dg d.toNat):=⟨_,rfl⟩;have ld:(dg d.toNat).length<=1:=tK (k:=1) (by rw[Int.pow_succ,Int.pow_zero];omega);have cc:=Ts (bO a b) hr hs (by omega) (by omega) (ju _) (ju _) (ja _) (ja _) (by rw[jI,jI]);have c1:=jx d (by omega) (by omega);rw[<-hw]at c1;have c2:=mH hs hw (by omega) (by omega) (ju _) (ju _)
 rw[jI,jI,show((b:Int)*(d.toNat:Int)).toNat=V.toNat by rw[hV,Int.mul_comm];congr 2;omega,<-MS]at c2;have c3:=mH hr hw (by omega) (by omega) (ju _) (ju _);rw[jI,jI,show((a:Int)*(d.toNat:Int)).toNat=(d*a).toNat by rw[Int.mul_comm];congr 2;omega,<-VC]at c3;have Yr:d*(a:Int)<V*4294967296^(m+1):=by
  have x1:=mF a;rw[<-Yq,hm]at x1;have x2:(4294967296:Int)^(n+m)=4294967296^n'*4294967296^(m+1):=by rw[<-Int.pow_add];congr 1;omega
  have x3:w1*4294967296^n'*4294967296^(m+1)<=(b:Int)*4294967296^(m+1):=Int.mul_le_mul_of_nonneg_right VB.1 (by have:=xb (m+1);omega);have x4:1*(4294967296^n'*4294967296^(m+1))<=w1*(4294967296^n'*(4294967296:Int)^(m+1)):=Int.mul_le_mul_of_nonneg_right PS (by have:=Int.mul_pos (xb n') (xb (m+1));omega);have x5:w1*4294967296^n'*4294967296^(m+1)=w1*(4294967296^n'*(4294967296:Int)^(m+1)):=by grind
  have x6:d*(a:Int)<d*(b*4294967296^(m+1)):=Int.mul_lt_mul_of_pos_left (by omega) (by omega);have x7:d*((b:Int)*4294967296^(m+1))=d*b*4294967296^(m+1):=by grind
  rw[hV];omega
 have sG:=nO.start (n:=n) (m:=m) (by rw[f2,hm]) f3 (f1.trans vlu) Yr;refine xz hr hs rfl rfl laa lb (by omega) (by omega) hm rfl rfl rfl TA Jb.symm ⟨PS,Ky.2⟩ hd.symm ⟨d1,d2⟩ (c:=bO a b) (by unfold bO;rw[if_neg (by omega)];split<;>omega) VA rfl PQ Kx GP lV sG cc c1 c2 c3 fun u q hI=>?_
 rw[hV]at hI;obtain⟨l1,l2⟩:=hI.last (by omega) N8;have vu0:=sC hI.uw;have Et:=hI.ul;have Rt:=hI.ql;have t1:=N4 (r:=W .u32 u) rfl (by omega) hI.uw;have t2:=N4 (r:=W .u32 q) rfl (by omega) hI.qw;have lt1:(dg (val u).toNat).length<=la+1:=by have:=To hI.uw;unfold nl at this;omega
 have t3:=ou (r:=W .u32 (dg (val u).toNat)) d ((a:Int)%b) (val u%d) rfl (by omega) (ju _) (by omega) d2 (by rw[jI,Int.toNat_of_nonneg vu0,l2]) (by rw[jI,Int.toNat_of_nonneg vu0]);rw[l1]at t2;exact⟨_,_,t1,t2,t3⟩
theorem ox {r s:Abs.Rows} {a b:Nat} (hr:lU a r) (hs:lU b s) (hb:b≠0) (dG:nl a<=549755813888) (Ys:nl b<=549755813888) :
  ∃x y,lU (a/b) x/\lU (a%b) y/\aA Tryz.prog 128 [.val (tl r),.val (tl s)] ⟨[.val (tl x),.val (tl y)],[none,none]⟩:=by
 have cc:=Ts (bO a b) hr hs (by unfold nl at dG;omega) (by unfold nl at Ys;omega) (ju _) (ju _) (ja _) (ja _) (by rw[jI,jI])
 by_cases Ei:a<b
 ·refine⟨[],r,by rw[Nat.div_eq_of_lt Ei];rfl,by rw[Nat.mod_eq_of_lt Ei];exact hr,?_⟩
  rw[fp (by omega)]at cc;refine aV aD mixed [.val,.val] Tryz.func128 rfl rfl (by kernel_rfl) fun zD zE zG zH zI zJ zK zL zM zN zO zR zS zT zU zV zX zY zZ zg zh zj zu zy zz aK ah aI aH ak aq ae aE aB aG ao az aJ an aO au aP ai aM aN ay aw aL ar zW bc A L F hS hF=>?_
  cbv;refine⟨_,hS.call cc,?_⟩;cbv;exact bT (by rw[hS.lt];rfl) (Dl hF (ab.drop _ _) (iI.refl _))
 ·by_cases h1:nl b=1
  ·obtain⟨x,hx⟩:∃x,lU (a/b) x:=⟨_,rfl⟩
   obtain⟨y,hy⟩:∃y,lU (a%b) y:=⟨_,rfl⟩;refine⟨x,y,hx,hy,?_⟩;have E6:(b:Int)<4294967296:=by have:=mF b;rw[h1]at this;omega
   have PT:dg b=[(b:Int)]:=by
    rw[pq hb,show b%4294967296=b by omega,show b/4294967296=0 by omega,qR]
   have O8:(a:Int)%b<b:=Int.emod_lt_of_pos _ (by omega);have N9:0<=(a:Int)%b:=Int.emod_nonneg _ (by omega);have c1:=ou b ((a:Int)/b) ((a:Int)%b) hr (by unfold nl at dG;omega) (ju _) (by omega) E6 (by rw[jI]) (by rw[jI]);have c2:=jx ((a:Int)%b) N9 (by omega);have q1:W .u32 (dg ((a:Int)/b).toNat)=x:=hx.symm;have q2:W .u32 (dg ((a:Int)%b).toNat)=y:=hy.symm;rw[q1]at c1
   rw[q2]at c2;obtain⟨c,hc,Tf⟩:∃c,bO (a:Int) b=c/\¬c<0:=⟨_,rfl,by
    unfold bO;rw[if_neg (by omega)];split<;>omega⟩
   rw[hc]at cc;generalize (a:Int)%b=e at *;generalize hbv:(b:Int)=d at *;refine aV aD mixed [.val,.val] Tryz.func128 rfl rfl (by kernel_rfl) fun zD zE zG zH zI zJ zK zL zM zN zO zR zS zT zU zV zX zY zZ zg zh zj zu zy zz aK ah aI aH ak aq ae aE aB aG ao az aJ an aO au aP ai aM aN ay aw aL ar zW bc A L F hS hF=>?_
   have z2:zS (zy (ae s)) 1=true:=by rw[hS.len,hs,iZ,PT,hS.aW,hS.eq];rfl
   have z3:aG .u32 s (zj 0)=true:=by rw[hS.gJ,hs,hS.nat,PT];rfl
   have z4:zD .u64 (ao s (zj 0))=d:=by rw[hS.dL,hs,hS.nat,ph,PT,hS.wrap];exact fg (by show 0<=d;omega) (by show d<_;omega)
   cbv;refine⟨_,hS.call cc,?_⟩;cbv;rw[z4];refine bF (by rw[hS.lt];exact decide_eq_false Tf) (bT z2 (nd (by rw[hS.le];rfl) (nd z3 ⟨_,hS.call c1,?_⟩)));cbv;refine⟨_,hS.call c2,?_⟩;cbv;exact hF _ (aS.refl _)
  ·have h0:nl b≠0:=fun h=>hb (jw.1 h)
   exact⟨_,_,rfl,rfl,xA hr hs (by omega) (by omega) dG⟩
end Go.Proofs.YtekefilngojelaaGreat
end
section
namespace Go.Abs.M
theorem fI {x y q r:Int} (hy:y≠0) (h:x=y*q+r) (h0:0<=r) (h1:r<y.natAbs):x/y=q/\x%y=r:=by
 rcases Int.lt_or_lt_of_ne hy with Bo|qf
 ·have e:x=r+(-y)*(-q):=by rw[Int.neg_mul_neg];omega
  have a:x/(-y)=-q:=by rw[e,Int.add_mul_ediv_left _ _ (by omega),Int.ediv_eq_zero_of_lt h0 (by omega)];omega
  have b:x%(-y)=r:=by rw[e,Int.add_mul_emod_self_left,Int.emod_eq_of_lt h0 (by omega)]
  rw[Int.ediv_neg]at a;rw[Int.emod_neg]at b;exact⟨by omega,b⟩
 ·have e:x=r+y*q:=by omega
  refine⟨?_,?_⟩
  ·rw[e,Int.add_mul_ediv_left _ _ (by omega),Int.ediv_eq_zero_of_lt h0 (by omega)];omega
  ·rw[e,Int.add_mul_emod_self_left,Int.emod_eq_of_lt h0 (by omega)]
theorem Fw {x y:Int} (hy:y≠0) :
  (¬(x<0/\x.natAbs%y.natAbs≠0)->(x/y).natAbs=x.natAbs/y.natAbs/\(x%y)=(x.natAbs%y.natAbs:Nat)) /\
  (x<0/\x.natAbs%y.natAbs≠0->(x/y).natAbs=x.natAbs/y.natAbs+1/\(x%y)=(y.natAbs-x.natAbs%y.natAbs:Nat)) /\
  (x/y<0↔((x<0↔¬y<0)/\x/y≠0)):=by
 have hya:y.natAbs≠0:=by omega
 have hdm:=Nat.div_add_mod x.natAbs y.natAbs;have bH:=Nat.mod_lt x.natAbs (show 0<y.natAbs by omega);generalize hk:x.natAbs/y.natAbs=k at *;generalize hr:x.natAbs%y.natAbs=r at *;have KA:(y.natAbs:Int)*k+r=x.natAbs:=by exact_mod_cast hdm
 rcases Int.lt_or_le x 0 with hx|hx<;>rcases Int.lt_or_lt_of_ne hy with hy'|hy'
 ·have ey:(y.natAbs:Int)=-y:=by omega
  have ex:(x.natAbs:Int)=-x:=by omega
  rw[ey,ex]at KA
  by_cases h0:r=0
  ·obtain⟨a,b⟩:=fI (x:=x) (q:=k) (r:=0) hy (by rw[h0]at KA;simp at KA;rw[Int.neg_mul]at KA;omega) (by omega) (by omega)
   refine⟨fun _=>⟨by rw[a];rfl,by rw[b,h0];rfl⟩,fun h=>absurd h0 h.2,by rw[a];omega⟩
  ·obtain⟨a,b⟩:=fI (x:=x) (q:=k+1) (r:=y.natAbs-r) hy (by rw[ey,Int.mul_add];rw[Int.neg_mul]at KA;omega) (by omega) (by omega)
   refine⟨fun h=>absurd ⟨hx,h0⟩ h,fun _=>⟨by rw[a];omega,by rw[b];omega⟩,by rw[a];omega⟩
 ·have ey:(y.natAbs:Int)=y:=by omega
  have ex:(x.natAbs:Int)=-x:=by omega
  rw[ey,ex]at KA
  by_cases h0:r=0
  ·obtain⟨a,b⟩:=fI (x:=x) (q:=-k) (r:=0) hy (by rw[h0]at KA;simp at KA;rw[Int.mul_neg];omega) (by omega) (by omega)
   refine⟨fun _=>⟨by rw[a];omega,by rw[b,h0];rfl⟩,fun h=>absurd h0 h.2,by rw[a];omega⟩
  ·obtain⟨a,b⟩:=fI (x:=x) (q:=-k-1) (r:=y.natAbs-r) hy (by rw[ey,Int.mul_sub,Int.mul_neg];omega) (by omega) (by omega)
   refine⟨fun h=>absurd ⟨hx,h0⟩ h,fun _=>⟨by rw[a];omega,by rw[b];omega⟩,by rw[a];omega⟩
 ·have ey:(y.natAbs:Int)=-y:=by omega
  have ex:(x.natAbs:Int)=x:=by omega
  rw[ey,ex]at KA;obtain⟨a,b⟩:=fI (x:=x) (q:=-k) (r:=r) hy (by rw[Int.mul_neg];rw[Int.neg_mul]at KA;omega) (by omega) (by omega);refine⟨fun _=>⟨by rw[a];omega,b⟩,fun h=>absurd h.1 (by omega),by rw[a];omega⟩
 ·have ey:(y.natAbs:Int)=y:=by omega
  have ex:(x.natAbs:Int)=x:=by omega
  rw[ey,ex]at KA;obtain⟨a,b⟩:=fI (x:=x) (q:=k) (r:=r) hy (by omega) (by omega) (by omega);refine⟨fun _=>⟨by rw[a];omega,b⟩,fun h=>absurd h.1 (by omega),by rw[a];omega⟩
end Go.Abs.M
end
section
namespace Go.Proofs.YtekefilngojelaaGreat
open Go Go.Abs Go.Abs.M Go.Proofs
theorem kF {x y:Int} {s t:Bool} {r q:Abs.Rows} (hx:eG x s r) (hy:eG y t q) (pF:y≠0) (h1:nl x.natAbs<=274877906944) (h2:nl y.natAbs<=274877906944) :
  ∃u w p,eG (x/y) u w/\eG (x%y) false p/\aA Tryz.prog 94 [.val (.agg (iT s r)),.val (.agg (iT t q))] ⟨[.val (.agg (iT u w)),.val (.agg (iT false p)),.val (ti .i64 0)],[none,none]⟩:=by
 obtain⟨a1,a2,Rp,I5,cd⟩:=ox hx.m hy.m (by omega) (by omega) (by omega);obtain⟨m1,m2,m3⟩:=Fw (x:=x) pF;obtain⟨u,hu⟩:∃u,u=decide (x/y<0):=⟨_,rfl⟩;obtain⟨w,hw⟩:∃w,lU (x/y).natAbs w:=⟨_,rfl⟩;obtain⟨p,hp⟩:∃p,lU (x%y).natAbs p:=⟨_,rfl⟩;have N9:=Int.emod_nonneg x pF;have hyn:y.natAbs≠0:=by omega
 have Yt:x.natAbs/y.natAbs<=x.natAbs:=Nat.div_le_self ..;have PU:x.natAbs%y.natAbs<y.natAbs:=Nat.mod_lt _ (by omega);have hs:=hx.s;have ht:=hy.s;have hbq:nl (x/y).natAbs<=549755813888:=by
  have a:=Ev (show(x/y).natAbs<=x.natAbs+1 by
   by_cases h:x<0/\x.natAbs%y.natAbs≠0
   ·have:=(m2 h).1;omega
   ·have:=(m1 h).1;omega)
  have b:=vY x.natAbs 1;have c:nl 1<=1:=tK (by omega);omega
 have Tx:nl (x%y).natAbs<=549755813888:=by
  have a:=Ev (show(x%y).natAbs<=y.natAbs by
   by_cases h:x<0/\x.natAbs%y.natAbs≠0
   ·have:=(m2 h).2;omega
   ·have:=(m1 h).2;omega)
  omega
 have Ey:=mJ (!(s==t)) u hw (by omega) (by
  rw[hu,hs,ht,Bool.eq_iff_iff]
  by_cases h:x<0<;>by_cases h':y<0<;>simp[h,h']at m3 ⊢ <;> omega)
 have LZ:=mJ false false hp (by omega) rfl;have Rt:q.length=nl y.natAbs:=hy.m.len;have aeX:nl y.natAbs≠0:=fun h=>hyn (jw.1 h)
 have TD:a2.length=nl (x.natAbs%y.natAbs):=I5.len;have aeY:=@jw (x.natAbs%y.natAbs);refine⟨u,w,p,⟨hu,hw⟩,⟨(decide_eq_false (by omega)).symm,hp⟩,?_⟩
 by_cases hc:x<0/\x.natAbs%y.natAbs≠0
 ·obtain⟨n1,n2⟩:=m2 hc
  have ca:=tM (s:=W .u32 [1]) Rp rfl (by have:=Ev Yt;unfold nl at *;omega) (by simp) (ju _) (Wd.cons (by omega) (by omega) Wd.nil);have ct:=mG hy.m I5 (by unfold nl at *;omega) (by have:=Ev (Nat.le_of_lt PU);unfold nl at *;omega) (ju _) (ju _) (by rw[jI,jI];omega);rw[jI,jI]at ct;rw[jI,show val [1]=1 from rfl]at ca;have e1:W .u32 (dg (((x.natAbs/y.natAbs:Nat):Int)+1).toNat)=w:=by rw[hw];congr 2;omega
  have e2:W .u32 (dg ((y.natAbs:Int)-((x.natAbs%y.natAbs:Nat):Int)).toNat)=p:=by rw[hp];congr 2;omega
  rw[e1]at ca;rw[e2]at ct;have rM:s=true:=by rw[hs];exact decide_eq_true hc.1
  subst rM;clear m1 m2 m3 hbq Tx;refine aV aD mixed [.val,.val,.val] Tryz.func94 rfl rfl (by kernel_rfl) fun zD zE zG zH zI zJ zK zL zM zN zO zR zS zT zU zV zX zY zZ zg zh zj zu zy zz aK ah aI aH ak aq ae aE aB aG ao az aJ an aO au aP ai aM aN ay aw aL ar zW bc A L F hS hF=>?_
  have z1:zS (zy (ae q)) 0=false:=by rw[hS.len,Rt,hS.aW,hS.eq];exact decide_eq_false (by omega)
  have z2:zU 0 (zy (ae a2))=true:=by rw[hS.len,TD,hS.aW,hS.lt];exact decide_eq_true (by omega)
  have z3:an [[.v (.int .u32 1)]] 0 1=W .u32 [1]:=by rw[hS.part];rfl
  have z4:aJ 0 1 [[.v (.int .u32 1)]]=true:=by rw[hS.fit];rfl
  cbv;refine bF z1 ⟨_,hS.call cd,?_⟩;cbv;refine bT rfl (bT z2 (nd z4 ?_));rw[z3];refine⟨_,hS.call ca,?_⟩;cbv;refine⟨_,hS.call ct,?_⟩;cbv;rw[hS.bne];refine⟨_,hS.call Ey,?_⟩;cbv;refine⟨_,hS.call LZ,?_⟩;cbv;exact hF _ (aS.refl _)
 ·obtain⟨n1,n2⟩:=m1 hc
  obtain rfl:w=a1:=by rw[hw,Rp,n1]
  obtain rfl:p=a2:=by rw[hp,I5,n2];rfl
  clear m1 m2 m3 hbq Tx;refine aV aD mixed [.val,.val,.val] Tryz.func94 rfl rfl (by kernel_rfl) fun zD zE zG zH zI zJ zK zL zM zN zO zR zS zT zU zV zX zY zZ zg zh zj zu zy zz aK ah aI aH ak aq ae aE aB aG ao az aJ an aO au aP ai aM aN ay aw aL ar zW bc A L F hS hF=>?_
  have z1:zS (zy (ae q)) 0=false:=by rw[hS.len,Rt,hS.aW,hS.eq];exact decide_eq_false (by omega)
  have z2:s=true->zU 0 (zy (ae p))=false:=fun h=>by
   rw[hS.len,TD,hS.aW,hS.lt];rw[h]at hs;have:=of_decide_eq_true hs.symm;exact decide_eq_false (by omega)
  have fin:=hS.call Ey;cbv;refine bF z1 ⟨_,hS.call cd,?_⟩;cbv;refine⟨fun h=>bF (z2 h) ?_,fun h=>?_⟩
  all_goals
   rw[hS.bne];refine⟨_,fin,?_⟩;cbv;refine⟨_,hS.call LZ,?_⟩;cbv;exact hF _ (aS.refl _)
open Go Go.Abs Go.Abs.M Go.Proofs
theorem qS {l:List Int} {r:Abs.Rows} (n:Int) (hr:r=W .u32 l) (hl:l.length<=2) (hw:Wd l) (hn:n=val l):aA Tryz.prog 159 [.val (tl r)] ⟨[.val (ti .u64 n)],[none]⟩:=by
 have a:=hw.get 0;have b:=hw.get 1;have c1:=fy 1 hr (by omega) hw (by omega);have c0:=fy 0 hr (by omega) hw (by omega);have hv:val l=l.getD 0 0+4294967296*l.getD 1 0:=by
  match l,hl with
  | [],_=>rfl
  | [x],_=>simp[val]
  | [x,y],_=>simp[val]
 rw[show(1:Int).toNat=1 from rfl]at c1;rw[show(0:Int).toNat=0 from rfl]at c0;generalize l.getD 0 0=x at *;generalize l.getD 1 0=y at *;refine aV aD mixed [.val] Tryz.func159 rfl rfl (by kernel_rfl) fun zD zE zG zH zI zJ zK zL zM zN zO zR zS zT zU zV zX zY zZ zg zh zj zu zy zz aK ah aI aH ak aq ae aE aB aG ao az aJ an aO au aP ai aM aN ay aw aL ar zW bc A L F hS hF=>?_
 cbv;refine⟨_,hS.call c1,?_⟩;cbv;refine⟨_,hS.call c0,?_⟩;cbv;refine bX hF (lh ?_);rw[hn,hv,hS.wrap,hS.wrap,hS.mul,hS.add,fg (x:=y*4294967296) (by omega) (by omega),fg (by omega) (by omega)];omega
def pJ (a b:Int):St:=aC 14 [vi .u64 a,vi .u64 b] [none,none]
theorem Bp (a b:Nat) (g:Int) (ha:a<18446744073709551616) (hb:b<18446744073709551616) (hg:g=Nat.gcd a b):aA Tryz.prog 158 [.val (ti .u64 a),.val (ti .u64 b)] ⟨[.val (ti .u64 g)],[none,none]⟩:=by
 obtain⟨x,hx⟩:∃x:Int,x=a:=⟨_,rfl⟩;obtain⟨y,hy⟩:∃y:Int,y=b:=⟨_,rfl⟩;rw[<-hx,<-hy];refine aV aD mixed [.val] Tryz.func158 rfl rfl (by kernel_rfl) fun zD zE zG zH zI zJ zK zL zM zN zO zR zS zT zU zV zX zY zZ zg zh zj zu zy zz aK ah aI aH ak aq ae aE aB aG ao az aJ an aO au aP ai aM aN ay aw aL ar zW bc A L F hS hF=>?_
 cbv;refine fH aD mixed hS (fun(m:Nat) s=>∃c:Nat,c<18446744073709551616/\m<18446744073709551616/\Nat.gcd c m=Nat.gcd a b/\s=pJ (zy c) (zy m)) (n:=b) (s0:=pJ (zy a) (zy b)) (iY ?_ ?_) rfl (Nat.le_refl 2) ?_ ?_
 ·simp[eC,pJ,aC,vi,hS.aW,hx,hy]
 ·simp[eF,pJ,aC]
 ·exact⟨a,ha,hb,rfl,rfl⟩
 ·rintro m _ ⟨c,hc,hm,Bj,rfl⟩
  have e1:0<m->zJ (zy c) (zy m)=zy (c%m):=fun h=>by rw[hS.rem,hS.aW,hS.aW,hS.aW,Int.tmod_eq_emod_of_nonneg (by omega)];rfl
  have e2:zU 0 (zy m)=decide (0<m):=by
   rw[hS.lt,hS.aW]
   by_cases h:0<m
   ·rw[decide_eq_true h];exact decide_eq_true (by omega)
   ·rw[decide_eq_false h];exact decide_eq_false (by omega)
  have e3:0<m->zT (zy m) 0=true:=fun h=>by rw[hS.ne,hS.aW];exact decide_eq_true (by omega)
  have e4:m=0->zy c=g:=fun h=>by subst h;rw[Nat.gcd_zero_right]at Bj;rw[hS.aW,hg,Bj]
  cbv;refine⟨fun h=>?_,fun h=>?_⟩
  all_goals rw[e2]at h
  ·have h:=of_decide_eq_true h
   rw[e1 h];refine nd (e3 h) ?_;refine again (s':=pJ (zy m) (zy (c%m))) (m:=c%m) (by simp[eC,pJ,aC,vi]) (by simp[eF,pJ,aC]) rfl (Nat.le_refl 2) (Nat.mod_lt _ h) ⟨m,hm,?_,?_,rfl⟩
   ·have:=Nat.mod_lt c h;omega
   ·rw[<-Bj,Nat.gcd_comm c m,Nat.gcd_rec m c,Nat.gcd_comm]
  ·have h:=of_decide_eq_false h
   exact bX hF (lh (e4 (by omega)))
def kG (r s:Abs.Rows):St:=aC 33 [vl r,vl s,.aj,.aj,eW] [none,none]
theorem Bq {r s w:Abs.Rows} {a b:Nat} (hr:lU a r) (hs:lU b s) (h1:nl a<=274877906944) (h2:nl b<=274877906944) (hg:lU (Nat.gcd a b) w):aA Tryz.prog 131 [.val (tl r),.val (tl s)] ⟨[.val (tl w)],[none,none]⟩:=by
 refine aV aD mixed [.val] Tryz.func131 rfl rfl (by kernel_rfl) fun zD zE zG zH zI zJ zK zL zM zN zO zR zS zT zU zV zX zY zZ zg zh zj zu zy zz aK ah aI aH ak aq ae aE aB aG ao az aJ an aO au aP ai aM aN ay aw aL ar zW bc A L F hS hF=>?_
 cbv;refine fH aD mixed hS (fun(m:Nat) s=>∃(c:Nat) (x y:Abs.Rows),lU c x/\lU m y/\nl c<=274877906944/\nl m<=274877906944/\Nat.gcd c m=Nat.gcd a b/\s=kG x y) (n:=b) (s0:=kG r s) (iY ?_ ?_) rfl (Nat.le_refl 2) ?_ ?_
 ·simp[eC,kG,aC,vl,eW]
 ·simp[eF,kG,aC]
 ·exact⟨a,r,s,hr,hs,h1,h2,rfl,rfl⟩
 ·rintro m _ ⟨c,x,y,hx,hy,l1,l2,Bj,rfl⟩
  have hmz:=@jw m;have TE:ae x=nl c:=by rw[hS.len,hx.len]
  have hyl:ae y=nl m:=by rw[hS.len,hy.len]
  have e1:zU 0 (zy (ae y))=decide (m≠0):=by
   rw[hyl,hS.lt,hS.aW]
   by_cases h:m=0
   ·rw[decide_eq_false (show ¬m≠0 by omega)];exact decide_eq_false (by omega)
   ·rw[decide_eq_true h];exact decide_eq_true (by omega)
  have e2:zV (zy (ae x)) 2=decide (nl c<=2):=by
   rw[TE,hS.le,hS.aW]
   by_cases h:nl c<=2
   ·rw[decide_eq_true h];exact decide_eq_true (by omega)
   ·rw[decide_eq_false h];exact decide_eq_false (by omega)
  have e3:zV (zy (ae y)) 2=decide (nl m<=2):=by
   rw[hyl,hS.le,hS.aW]
   by_cases h:nl m<=2
   ·rw[decide_eq_true h];exact decide_eq_true (by omega)
   ·rw[decide_eq_false h];exact decide_eq_false (by omega)
  have hdiv:m≠0->∃p q,lU (c/m) p/\lU (c%m) q/\aA Tryz.prog 128 [.val (tl x),.val (tl y)] ⟨[.val (tl p),.val (tl q)],[none,none]⟩:=fun h=>ox hx hy h (by omega) (by omega)
  have PV:nl c<=2->nl m<=2->∃(c' m' g:Int),aA Tryz.prog 159 [.val (tl x)] ⟨[.val (ti .u64 c')],[none]⟩/\aA Tryz.prog 159 [.val (tl y)] ⟨[.val (ti .u64 m')],[none]⟩ /\
    aA Tryz.prog 158 [.val (ti .u64 c'),.val (ti .u64 m')] ⟨[.val (ti .u64 g)],[none,none]⟩/\aA Tryz.prog 113 [.val (ti .u64 g)] ⟨[.val (tl w)],[none]⟩:=fun k1 k2=>by
   have b1:=mF c;have b2:=mF m;have b3:=jv k1;have b4:=jv k2;have n1:=qS (c:Int) hx k1 (ju _) (by rw[jI]);have n2:=qS (m:Int) hy k2 (ju _) (by rw[jI]);have GN:Nat.gcd c m<18446744073709551616:=by
    by_cases h:m=0
    ·subst h;rw[Nat.gcd_zero_right];omega
    ·have:=Nat.gcd_le_right c (Nat.pos_of_ne_zero h);omega
   have n4:=jx (Nat.gcd c m:Int) (by omega) (by omega);rw[Int.toNat_natCast,Bj,<-show w=W .u32 (dg (Nat.gcd a b)) from hg,<-Bj]at n4;exact⟨_,_,_,n1,n2,Bp c m _ (by omega) (by omega) rfl,n4⟩
  have eQ:m=0->x=w:=fun h=>by
   subst h;rw[Nat.gcd_zero_right]at Bj;rw[hx,hg,Bj]
  cbv;refine⟨fun h=>?_,fun h=>?_⟩
  all_goals rw[e1]at h
  ·have h:=of_decide_eq_true h
   have go:∀(H:Prop),(∀p q,lU (c%m) q->aA Tryz.prog 128 [.val (tl x),.val (tl y)] ⟨[.val (tl p),.val (tl q)],[none,none]⟩->H)->H:=fun H k=>by
    obtain⟨p,q,_,hq,cd⟩:=hdiv h;exact k p q hq cd
   have nx:∀q,lU (c%m) q->∃(c':Nat) (x' y':Abs.Rows),lU c' x'/\lU (c%m) y'/\nl c'<=274877906944/\nl (c%m)<=274877906944/\Nat.gcd c' (c%m)=Nat.gcd a b/\kG y q=kG x' y':=fun q hq=>
    ⟨m,y,q,hy,hq,l2,Nat.le_trans (Ev (Nat.le_of_lt (Nat.mod_lt _ (Nat.pos_of_ne_zero h)))) l2,by rw[<-Bj,Nat.gcd_comm c m,Nat.gcd_rec m c,Nat.gcd_comm],rfl⟩
   refine⟨fun h2=>⟨fun h3=>?_,fun h3=>?_⟩,fun h2=>?_⟩
   ·rw[e2]at h2
    rw[e3]at h3;obtain⟨c',m',g,n1,n2,n3,n4⟩:=PV (of_decide_eq_true h2) (of_decide_eq_true h3);refine⟨_,hS.call n1,?_⟩;cbv;refine⟨_,hS.call n2,?_⟩;cbv;refine⟨_,hS.call n3,?_⟩;cbv;refine⟨_,hS.call n4,?_⟩;cbv;exact hF _ (aS.refl _)
   all_goals
    refine go _ fun p q hq cd=>?_
    refine⟨_,hS.call cd,?_⟩;cbv;exact again (s':=kG y q) (m:=c%m) (by simp[eC,kG,aC,vl,eW]) (by simp[eF,kG,aC]) rfl (Nat.le_refl 2) (Nat.mod_lt _ (Nat.pos_of_ne_zero h)) (nx q hq)
  ·have h:=of_decide_eq_false h
   rw[eQ (by omega)];exact hF _ (aS.refl _)
theorem sH {x y:Int} {s t:Bool} {r q:Abs.Rows} (hx:eG x s r) (hy:eG y t q) (h1:nl x.natAbs<=274877906944) (h2:nl y.natAbs<=274877906944) :
  ∃w,eG (Int.gcd x y) false w/\aA Tryz.prog 95 [.val (.agg (iT s r)),.val (.agg (iT t q))] ⟨[.val (.agg (iT false w))],[none,none]⟩:=by
 obtain⟨w,hw⟩:∃w,lU (Int.gcd x y) w:=⟨_,rfl⟩;have c1:=Bq (w:=w) hx.m hy.m h1 h2 hw;have hb:nl (Int.gcd x y)<=2199023255552:=by
  by_cases h:x=0
  ·subst h
   have:Int.gcd 0 y=y.natAbs:=by simp[Int.gcd]
   rw[this];omega
  ·have:Int.gcd x y<=x.natAbs:=Nat.gcd_le_left _ (by omega)
   have:=Ev this;omega
 have c2:=mJ false false hw hb rfl;refine⟨w,⟨(decide_eq_false (by omega)).symm,hw⟩,?_⟩;refine aV aD mixed [.val] Tryz.func95 rfl rfl (by kernel_rfl) fun zD zE zG zH zI zJ zK zL zM zN zO zR zS zT zU zV zX zY zZ zg zh zj zu zy zz aK ah aI aH ak aq ae aE aB aG ao az aJ an aO au aP ai aM aN ay aw aL ar zW bc A L F hS hF=>?_
 cbv;refine⟨_,hS.call c1,?_⟩;cbv;refine⟨_,hS.call c2,?_⟩;cbv;exact hF _ (aS.refl _)
end Go.Proofs.YtekefilngojelaaGreat
end
section
namespace Go.Abs
open Go.Abs.M
structure wc (x:Rat) (s:Bool) (r:Rows) (t:Bool) (q:Rows):Prop where
 n:eG x.num s r
 d:eG (x.den:Int) t q
theorem kH {n d:Int} (hd:d≠0):n/(if d<0 then -(Int.gcd n d:Int) else(Int.gcd n d:Int))=(Rat.divInt n d).num:=by
 rw[Rat.num_divInt,Int.gcd_comm d n];have PW:((Int.gcd n d:Nat):Int)∣n:=Int.gcd_dvd_left ..
 by_cases h:d<0
 ·rw[if_pos h,Int.ediv_neg,Int.sign_eq_neg_one_of_neg h,Int.neg_one_mul,Int.neg_ediv_of_dvd PW]
 ·rw[if_neg h,Int.sign_eq_one_of_pos (by omega),Int.one_mul]
theorem kI {n d:Int} (hd:d≠0):d/(if d<0 then -(Int.gcd n d:Int) else(Int.gcd n d:Int))=((Rat.divInt n d).den:Int):=by
 rw[Rat.den_divInt,if_neg hd,Int.gcd_comm d n];have PW:((Int.gcd n d:Nat):Int)∣d:=Int.gcd_dvd_right ..
 by_cases h:d<0
 ·rw[if_pos h,Int.ediv_neg,<-Int.neg_ediv_of_dvd PW,show -d=(d.natAbs:Int) by omega];rfl
 ·rw[if_neg h]
  conv=>lhs;rw[show d=(d.natAbs:Int) by omega]
  rfl
end Go.Abs
end
section
namespace Go.Proofs.YtekefilngojelaaGreat
open Go Go.Abs Go.Abs.M Go.Proofs
theorem jy {x y:Int} {s t:Bool} {r q:Abs.Rows} (hx:eG x s r) (hy:eG y t q) (pF:y≠0) (h1:nl x.natAbs<=274877906944) (h2:nl y.natAbs<=274877906944) :
  ∃u w,eG (x/y) u w/\aA Tryz.prog 135 [.val (.agg (iT s r)),.val (.agg (iT t q))] ⟨[.val (.agg (iT u w))],[none,none]⟩:=by
 obtain⟨u,w,p,hu,hp,cd⟩:=kF hx hy pF h1 h2;refine⟨u,w,hu,?_⟩;refine aV aD mixed [.val] Tryz.func135 rfl rfl (by kernel_rfl) fun zD zE zG zH zI zJ zK zL zM zN zO zR zS zT zU zV zX zY zZ zg zh zj zu zy zz aK ah aI aH ak aq ae aE aB aG ao az aJ an aO au aP ai aM aN ay aw aL ar zW bc A L F hS hF=>?_
 cbv;refine⟨_,hS.call cd,?_⟩;cbv;exact hF _ (aS.refl _)
theorem Ru {x y:Int} {s t:Bool} {r q:Abs.Rows} (hx:eG x s r) (hy:eG y t q) (pF:y≠0) (h1:nl x.natAbs<=274877906944) (h2:nl y.natAbs<=274877906944) :
  ∃u w v p,wc (Rat.divInt x y) u w v p/\aA Tryz.prog 101 [.val (.agg (iT s r)),.val (.agg (iT t q))] ⟨[.val (.agg (iT u w++iT v p))],[none,none]⟩:=by
 obtain⟨g,hg,cg⟩:=sH hx hy h1 h2;have hgp:Int.gcd x y≠0:=by
  intro h;rw[Int.gcd_eq_zero_iff]at h;exact pF h.2
 have MX:nl (Int.gcd x y)<=274877906944:=by
  have:Int.gcd x y<=y.natAbs:=Nat.gcd_le_right _ (by omega);have:=Ev this;omega
 have cs:=pC (bO y 0) hy rfl;obtain⟨a,b,hn,cn⟩:=yq hg (by rw[Int.natAbs_natCast];omega)
 by_cases Bo:y<0
 ·obtain⟨u,w,hu,c1⟩:=jy hx hn (by omega) h1 (by rw[Int.natAbs_neg,Int.natAbs_natCast];exact MX)
  obtain⟨v,p,hv,c2⟩:=jy hy hn (by omega) h2 (by rw[Int.natAbs_neg,Int.natAbs_natCast];exact MX);have e1:=kH (n:=x) pF;have e2:=kI (n:=x) pF;rw[if_pos Bo]at e1 e2;refine⟨u,w,v,p,⟨hu.of e1,hv.of e2⟩,?_⟩;rw[fp Bo]at cs;refine aV aD mixed [.val] Tryz.func101 rfl rfl (by kernel_rfl) fun zD zE zG zH zI zJ zK zL zM zN zO zR zS zT zU zV zX zY zZ zg zh zj zu zy zz aK ah aI aH ak aq ae aE aB aG ao az aJ an aO au aP ai aM aN ay aw aL ar zW bc A L F hS hF=>?_
  cbv;refine⟨_,hS.call cg,?_⟩;cbv;refine⟨_,hS.call cs,?_⟩;cbv;refine bT (by rw[hS.lt];rfl) ⟨_,hS.call cn,?_⟩;cbv;refine⟨_,hS.call c1,?_⟩;cbv;refine⟨_,hS.call c2,?_⟩;cbv;exact hF _ (aS.refl _)
 ·obtain⟨u,w,hu,c1⟩:=jy hx hg (by omega) h1 (by rw[Int.natAbs_natCast];exact MX)
  obtain⟨v,p,hv,c2⟩:=jy hy hg (by omega) h2 (by rw[Int.natAbs_natCast];exact MX);have e1:=kH (n:=x) pF;have e2:=kI (n:=x) pF;rw[if_neg Bo]at e1 e2;refine⟨u,w,v,p,⟨hu.of e1,hv.of e2⟩,?_⟩;rw[gS (by omega)]at cs;refine aV aD mixed [.val] Tryz.func101 rfl rfl (by kernel_rfl) fun zD zE zG zH zI zJ zK zL zM zN zO zR zS zT zU zV zX zY zZ zg zh zj zu zy zz aK ah aI aH ak aq ae aE aB aG ao az aJ an aO au aP ai aM aN ay aw aL ar zW bc A L F hS hF=>?_
  cbv;refine⟨_,hS.call cg,?_⟩;cbv;refine⟨_,hS.call cs,?_⟩;cbv;refine bF (by rw[hS.lt];rfl) ⟨_,hS.call c1,?_⟩;cbv;refine⟨_,hS.call c2,?_⟩;cbv;exact hF _ (aS.refl _)
end Go.Proofs.YtekefilngojelaaGreat
end
section
namespace Go.Abs
theorem MY {k:IntKind} {a b:Int} (n:Nat) (hb:b=n) (hn:n<=k.bits) (ha:0<=a):ZI.b9.shr k a b=a/2^n:=by
 rw[hb];show a.fdiv (2^(Min.min ((n:Int).toNat) k.bits))=_
 rw[Int.toNat_natCast,Nat.min_eq_left hn,Int.fdiv_eq_ediv_of_nonneg _ (Int.le_of_lt (Int.pow_pos (by omega)))]
theorem Oa {a:Int} (h0:0<=a):ZI.b9.shr .u64 a 32=a/4294967296:=by
 rw[MY (b:=32) 32 rfl (by decide) h0];rfl
end Go.Abs
end
section
namespace Go.Proofs.YtekefilngojelaaGreat
open Go Go.Abs Go.Abs.M Go.Proofs
def kJ (r:Abs.Rows) (n:Int):St:=aC 21 [vl r,.aj,eW,vi .i64 n] [none]
theorem pK {r:Abs.Rows} {l:List Int} (hr:r=W .u32 l) (hl:l.length<=2199023255552) (hw:Wd l):aA Tryz.prog 180 [.val (.c (.aa false r))] ⟨[.val (.c (.aa false (W .u32 (dg (val l).toNat))))],[none]⟩:=by
 refine aV aD mixed [.val] Tryz.func180 rfl rfl (by kernel_rfl) fun zD zE zG zH zI zJ zK zL zM zN zO zR zS zT zU zV zX zY zZ zg zh zj zu zy zz aK ah aI aH ak aq ae aE aB aG ao az aJ an aO au aP ai aM aN ay aw aL ar zW bc A L F hS hF=>?_
 have hlen:ae r=l.length:=by rw[hS.len,hr,iZ]
 cbv;refine fH aD mixed hS (fun m s=>∃n:Nat,n=m/\n<=l.length/\val (l.take n)=val l/\s=kJ r (zy n)) (n:=l.length) (s0:=kJ r (zy l.length)) (iY ?_ ?_) rfl (Nat.le_refl 1) ?_ ?_
 ·simp[eC,kJ,aC,eW,vi,vl,hlen]
 ·simp[eF,kJ,aC]
 ·exact⟨_,rfl,Nat.le_refl _,by rw[List.take_length],rfl⟩
 ·rintro m _ ⟨n,rfl,hn,hv,rfl⟩
  have hp:0<n->zD .i64 (zG (zy n) 1)=zy (n-1):=fun h=>by rw[hS.wrap,hS.sub,hS.aW,hS.aW,wrap_i64 (by omega) (by omega)];omega
  have hg:0<n->ao r (zj (zy (n-1)))=l.getD (n-1) 0:=fun h=>by rw[hS.dL,hS.nat,hS.aW,hr,ph,Int.toNat_natCast]
  have hc:aH 0 (zy n) (ae r)=true:=by rw[hS.cut,hlen,hS.aW];exact decide_eq_true (by omega)
  have PF:ai 1 r=true:=by rw[hS.wide,hr];exact Fo _ _
  have Tq:n=0∨l.getD (n-1) 0≠0->F ⟨[.val (.c (.aa false (an r 0 (zj (zy n)))))],[none]⟩:=fun h=>bX hF (by
   rw[hS.part,hS.nat,hS.aW,hr,jH,Int.toNat_natCast,List.drop_zero,GL hw hn hv h])
  cbv;refine⟨fun h=>?_,fun h=>nd hc (nd PF (Tq ?_))⟩
  all_goals rw[hS.lt,hS.aW]at h
  ·have h:0<n:=by simpa using h
   rw[hp h,hg h];refine nd (by rw[hS.le,hS.aW];exact decide_eq_true (by omega)) (nd (by rw[hS.gJ,hS.nat,hS.aW,hr,lS];exact decide_eq_true (by omega)) ⟨fun h2=>?_,fun h2=>nd hc (nd PF (Tq (.inr ?_)))⟩)
   all_goals rw[hS.eq]at h2
   ·refine again (s':=kJ r (zy (n-1))) (m:=n-1) (by simp[eC,kJ,aC,eW,vi,vl]) (by simp[eF,kJ,aC]) rfl (Nat.le_refl 1) (by omega) ⟨_,rfl,by omega,?_,rfl⟩
    have:=jJ (l:=l) (k:=n-1) (by omega);rw[show n-1+1=n by omega,of_decide_eq_true h2]at this;omega
   ·exact of_decide_eq_false h2
  ·exact .inl (by simpa using h)
theorem DB (n:Int) (hn:0<=n) (tH:n<18446744073709551616):aA Tryz.prog 177 [.val (ti .u64 n)] ⟨[.val (tl (W .u32 (dg n.toNat)))],[none]⟩:=by
 refine aV aD mixed [.val] Tryz.func177 rfl rfl (by kernel_rfl) fun zD zE zG zH zI zJ zK zL zM zN zO zR zS zT zU zV zX zY zZ zg zh zj zu zy zz aK ah aI aH ak aq ae aE aB aG ao az aJ an aO au aP ai aM aN ay aw aL ar zW bc A L F hS hF=>?_
 have e1:zD .u32 n=n%4294967296:=by rw[hS.wrap];exact yl _
 have e2:zD .u32 (zL .u64 n 32)=n/4294967296:=by
  rw[show zL .u64 n 32=ZI.b9.shr .u64 n 32 from hS.shr ..,Oa hn,hS.wrap];exact Ja (by omega) (by omega)
 have hT:=pK (r:=W .u32 [n%4294967296,n/4294967296]) rfl (by simp) (Wd.cons (by omega) (by omega) (Wd.cons (by omega) (by omega) Wd.nil));cbv;rw[e1,e2];refine nd (by rw[hS.fit];rfl) ?_;rw[hS.part];refine⟨_,hS.call hT,?_⟩;rw[show val [n%4294967296,n/4294967296]=n by simp only[val];omega];generalize W .u32 (dg n.toNat)=x at *;cbv;exact hF _ (aS.refl _)
theorem Bt {r:Abs.Rows} {l:List Int} (s t:Bool) (hr:r=W .u32 l) (hl:l.length<=2199023255552) (hw:Wd l) (ht:t=(s&&decide (0<val l))):aA Tryz.prog 176 [.val (tb s),.val (tl r)] ⟨[.val (.agg (iT t (W .u32 (dg (val l).toNat))))],[none,none]⟩:=by
 refine aV aD mixed [.val] Tryz.func176 rfl rfl (by kernel_rfl) fun zD zE zG zH zI zJ zK zL zM zN zO zR zS zT zU zV zX zY zZ zg zh zj zu zy zz aK ah aI aH ak aq ae aE aB aG ao az aJ an aO au aP ai aM aN ay aw aL ar zW bc A L F hS hF=>?_
 have hT:=pK hr hl hw;have hz:zS (zy (ae (W .u32 (dg (val l).toNat)))) 0=decide (¬0<val l):=by
  rw[hS.eq,hS.aW,hS.len,iZ];have:=sC hw;have h2:=@jw (val l).toNat;unfold nl at h2
  by_cases h:0<val l
  ·rw[decide_eq_false (show ¬ ¬0<val l by omega)];exact decide_eq_false (by omega)
  ·rw[decide_eq_true h];exact decide_eq_true (by omega)
 have h0:¬0<val l->W .u32 (dg (val l).toNat)=[]:=fun h=>by rw[show(val l).toNat=0 by omega];rfl
 generalize W .u32 (dg (val l).toNat)=x at *;cbv;refine⟨_,hS.call hT,?_⟩;cbv;rw[hz];refine⟨fun h=>bE hF ?_,fun h=>bE hF ?_⟩
 ·have h':=of_decide_eq_true h
  rw[ht,decide_eq_false h',Bool.and_false,h0 h'];exact⟨.v _,ab.drop _ _,trivial⟩
 ·have h':=of_decide_eq_false h
  rw[ht,decide_eq_true (by omega),Bool.and_true];exact iI.refl _
theorem KB {n:Nat} {r:Abs.Rows} (s t:Bool) (hr:lU n r) (hl:nl n<=2199023255552) (ht:t=(s&&decide (n≠0))):aA Tryz.prog 176 [.val (tb s),.val (tl r)] ⟨[.val (.agg (iT t r))],[none,none]⟩:=by
 have h:=Bt s t hr hl (ju n) (by
  rw[jI,ht]
  by_cases h:n=0
  ·subst h;rfl
  ·rw[decide_eq_true h,decide_eq_true (by omega)])
 rw[jI,Int.toNat_natCast,<-hr]at h;exact h
def pL (r s:Abs.Rows) (i:Int):St:=aC 41 [vl r,vl s,.aj,.aj,vi .i64 0,vi .i64 i] [none,none]
theorem oy {r s:Abs.Rows} {l m:List Int} (c:Int) (hr:r=W .u32 l) (hs:s=W .u32 m) (hl:l.length<=2199023255552) (hm:m.length<=2199023255552) (ua:Wd l) (uE:Wd m) (bH:Tr l) (X0:Tr m) (hc:c=bO (val l) (val m)) :
  aA Tryz.prog 171 [.val (tl r),.val (tl s)] ⟨[.val (ti .i64 c)],[none,none]⟩:=by
 refine aV aD mixed [.val] Tryz.func171 rfl rfl (by kernel_rfl) fun zD zE zG zH zI zJ zK zL zM zN zO zR zS zT zU zV zX zY zZ zg zh zj zu zy zz aK ah aI aH ak aq ae aE aB aG ao az aJ an aO au aP ai aM aN ay aw aL ar zW bc A L F hS hF=>?_
 have h1:ae r=l.length:=by rw[hS.len,hr,iZ]
 have h2:ae s=m.length:=by rw[hS.len,hs,iZ]
 cbv;rw[h1,h2];refine⟨fun h=>⟨fun h'=>?_,fun h'=>?_⟩,fun h=>?_⟩
 all_goals rw[hS.ne,hS.aW,hS.aW]at h
 ·rw[hS.lt,hS.aW,hS.aW]at h'
  have h':(l.length:Int)<m.length:=of_decide_eq_true h';exact bX hF (lh (by rw[hc,fp (gR ua uE X0 (by omega))]))
 ·rw[hS.lt,hS.aW,hS.aW]at h'
  have h':=of_decide_eq_false h';have h:=of_decide_eq_true h;exact bX hF (lh (by rw[hc,gS (gR uE ua bH (by omega))]))
 ·have h:=of_decide_eq_false h
  have hlen:l.length=m.length:=by omega
  have Tt:zD .i64 (zG (zy l.length) 1)=zG (zy l.length) 1:=by rw[hS.wrap,hS.sub,hS.aW];exact wrap_i64 (by omega) (by omega)
  rw[Tt];refine fH aD mixed hS (fun(k:Nat) s'=>k<=l.length/\l.drop k=m.drop k/\s'=pL r s (zG (zy k) 1)) (n:=l.length) (s0:=pL r s (zG (zy l.length) 1)) (iY ?_ ?_) rfl (Nat.le_refl 2) ?_ ?_
  ·simp[eC,pL,aC,vi,vl]
  ·simp[eF,pL,aC]
  ·refine⟨Nat.le_refl _,?_,rfl⟩
   rw[List.drop_length,hlen,List.drop_length]
  ·rintro k _ ⟨hk,he,rfl⟩
   have hi:zG (zy k) 1=(k:Int)-1:=by rw[hS.sub,hS.aW]
   have hz:zV 0 (zG (zy k) 1)=decide (1<=k):=by
    rw[hS.le,hi]
    by_cases h:1<=k
    ·rw[decide_eq_true h];exact decide_eq_true (by omega)
    ·rw[decide_eq_false h];exact decide_eq_false (by omega)
   have Gw:1<=k->zj (zG (zy k) 1)=k-1:=fun h=>by rw[hS.nat,hi];omega
   have g1:1<=k->ao r (zj (zG (zy k) 1))=l.getD (k-1) 0:=fun h=>by rw[Gw h,hS.dL,hr,ph]
   have g2:1<=k->ao s (zj (zG (zy k) 1))=m.getD (k-1) 0:=fun h=>by rw[Gw h,hS.dL,hs,ph]
   have PH:∀x:Int,x=c->F ⟨[.val (.c (.v (.int .i64 x)))],[none,none]⟩:=fun x hx=>bX hF (lh hx)
   have tH:1<=k->aG .u32 r (zj (zG (zy k) 1))=true:=fun h=>by rw[Gw h,hS.gJ,hr,lS];exact decide_eq_true (by omega)
   have X7:1<=k->aG .u32 s (zj (zG (zy k) 1))=true:=fun h=>by rw[Gw h,hS.gJ,hs,lS];exact decide_eq_true (by omega)
   have Jb:1<=k->zD .i64 (zG (zG (zy k) 1) 1)=zG (zy (k-1)) 1:=fun h=>by rw[hi,hS.wrap,hS.sub,hS.sub,hS.aW,wrap_i64 (by omega) (by omega)];omega
   cbv;refine⟨fun h=>?_,fun h=>PH _ ?_⟩
   ·have a1:=h
    rw[hz]at h;have h:=of_decide_eq_true h;have a2:=tH h;have a3:=X7 h;rw[Jb h,g1 h,g2 h];refine nd a1 (nd a2 (nd a1 (nd a3 ⟨fun h3=>nd a1 (nd a2 (nd a1 (nd a3 ⟨fun h4=>PH _ ?_,fun h4=>PH _ ?_⟩))),fun h3=>?_⟩)))
    all_goals rw[hS.ne]at h3
    ·rw[hS.lt]at h4
     rw[hc,fp (gd (i:=k-1) ua uE hlen (by omega) (by rw[show k-1+1=k by omega];exact he) (of_decide_eq_true h4))]
    ·rw[hS.lt]at h4
     have e3:=of_decide_eq_true h3;have e4:=of_decide_eq_false h4;rw[hc,gS (gd (i:=k-1) uE ua hlen.symm (by omega) (by rw[show k-1+1=k by omega];exact he.symm) (by omega))]
    ·refine again (s':=pL r s (zG (zy (k-1)) 1)) (m:=k-1) (by simp[eC,pL,aC,vi,vl]) (by simp[eF,pL,aC]) rfl (Nat.le_refl 2) (by omega) ⟨by omega,?_,rfl⟩
     have e3:=of_decide_eq_false h3;rw[j5 (show k-1<l.length by omega),j5 (show k-1<m.length by omega),show k-1+1=k by omega,he,show l.getD (k-1) 0=m.getD (k-1) 0 by omega]
   ·rw[hz]at h
    have h:=of_decide_eq_false h;obtain rfl:k=0:=by omega
    simp only[List.drop_zero]at he;rw[hc,he,GM]
open Go Go.Abs Go.Abs.M Go.Proofs
open Go Go.Abs Go.Abs.M Go.Proofs
open Go Go.Abs Go.Abs.M Go.Proofs
def pM (r s R:Abs.Rows) (n:Nat) (len i:Int):St:=aC 70 [vl r,vl s,.aj,.aj,eW,.c (.sl 2 0 n false),.aj,.aj,.aj,.aj,.aj,.aj,.aj,.aj,.aj,.aj,.aj,.aj,vi .i64 len,vi .i64 i] [none,none,some (.rows 1 R true false)]
def kK (r s R:Abs.Rows) (n:Nat) (len i x c Yu j:Int):St:=aC 70 [vl r,vl s,.aj,.aj,eW,.c (.sl 2 0 n false),vi .i64 i,vi .u64 c,vi .u64 x,.aj,.aj,.aj,.aj,.aj,.aj,.aj,.aj,.aj,vi .i64 len,vi .i64 i,.aj,.aj,.aj,.aj,.aj,.aj,.aj,.aj,vi .i64 Yu,vi .i64 j] [none,none,some (.rows 1 R true false)]
theorem xB {r s:Abs.Rows} {l m:List Int} (hr:r=W .u32 l) (hs:s=W .u32 m) (hl:l.length<=1099511627776) (hm:m.length<=1099511627776) (ua:Wd l) (uE:Wd m) :
  aA Tryz.prog 178 [.val (tl r),.val (tl s)] ⟨[.val (tl (W .u32 (dg (val l*val m).toNat)))],[none,none]⟩:=by
 obtain⟨n,hn⟩:∃n:Nat,n=l.length+m.length:=⟨_,rfl⟩;refine aV aD mixed [.val] Tryz.func178 rfl rfl (by kernel_rfl) fun zD zE zG zH zI zJ zK zL zM zN zO zR zS zT zU zV zX zY zZ zg zh zj zu zy zz aK ah aI aH ak aq ae aE aB aG ao az aJ an aO au aP ai aM aN ay aw aL ar zW bc A L F hS hF=>?_
 have h1:ae r=l.length:=by rw[hS.len,hr,iZ]
 have h2:ae s=m.length:=by rw[hS.len,hs,iZ]
 have hN:zD .i64 (zE (zy (ae r)) (zy (ae s)))=zy n:=by
  rw[h1,h2,hS.wrap,hS.add,hS.aW,hS.aW,hS.aW,hn,wrap_i64 (by omega) (by omega)];omega
 have Ft:zj (zy n)=n:=by rw[hS.nat,hS.aW];omega
 have iR:aP n [.v (.int .u32 0)]=zW .u32 (List.replicate n 0):=by rw[hS.rep,hS.W];exact vW ..
 cbv;rw[hN,Ft,iR];refine nd (by rw[hS.my,hS.aW];exact decide_eq_true (by unfold aF;omega)) ?_;refine fH aD mixed hS (fun(u:Nat) s'=>∃(k:Nat) (o:List Int),k+u=l.length/\o.length=n/\Wd o/\val o=val (l.take k)*val m/\s'=pM r s (zW .u32 o) n (zy l.length) (zy k)) (n:=l.length)
  (s0:=pM r s (zW .u32 (List.replicate n 0)) n (zy l.length) (zy 0)) (iY ?_ ?_) rfl (Nat.le_succ 2) ?_ ?_
 ·simp[eC,pM,aC,vi,vl,eW,hS.aW,h1]
 ·simp[eF,pM,aC]
 ·exact⟨0,_,by omega,by simp,Wd.rep _,by rw[Bg];simp[val],rfl⟩
 ·rintro u _ ⟨k,o,hk,ho,hw,hv,rfl⟩
  have gx:=ua.get k;have Bi:aJ 0 n (zW .u32 o)=true:=by rw[hS.fit,hS.W,iZ];exact decide_eq_true (by omega)
  have Kr:an (zW .u32 o) 0 n=W .u32 o:=by rw[hS.part,hS.W,jH,List.drop_zero,List.take_of_length_le (by omega)]
  have hT:=pK (r:=W .u32 o) rfl (by omega) hw;have e6:=kA hS.lt hS.aW k l.length;have PJ:k<l.length->aG .u32 r (zj (zy k))=true:=fun h=>by rw[hS.gJ,hr,hS.nat,hS.aW,lS];exact decide_eq_true (by omega)
  have Ks:zV 0 (zy k)=true:=by rw[hS.le,hS.aW];exact decide_eq_true (by omega)
  have e0:ao r (zj (zy k))=l.getD k 0:=by rw[hS.dL,hS.nat,hS.aW,hr,ph,Int.toNat_natCast]
  have ew:zD .u64 (l.getD k 0)=l.getD k 0:=by rw[hS.wrap,fg (by omega) (by omega)]
  have X8:=Cm l k;have eQ:k=l.length->val o=val l*val m:=fun h=>by
   subst h;rw[List.take_of_length_le (Nat.le_refl _)]at hv;exact hv
  have lV:val o<4294967296^(k+m.length):=by
   rw[hv];have b:=Bf (ua.take k);rw[List.length_take,Nat.min_eq_left (by omega)]at b;exact v8 (sC (ua.take k)) (sC uE) b (Bf uE)
  generalize LY:l.getD k 0=x at *;cbv;refine⟨fun h=>?_,fun h=>?_⟩
  all_goals rw[e6]at h
  ·have h:=of_decide_eq_true h
   refine nd Ks (nd (PJ h) ?_);refine fH aD mixed hS (fun(u':Nat) s'=>∃(j:Nat) (o':List Int) (c:Int),j+u'=m.length/\o'.length=n/\Wd o'/\(0<=c/\c<4294967296)/\o'.drop (k+j)=o.drop (k+j)/\val o'+c*4294967296^(k+j)=val o+x*4294967296^k*val (m.take j)/\s'=kK r s (zW .u32 o') n (zy l.length) (zy k) x c (zy m.length) (zy j)) (n:=m.length)
    (s0:=kK r s (zW .u32 o) n (zy l.length) (zy k) x 0 (zy m.length) (zy 0)) (iY ?_ ?_) rfl (Nat.le_succ 2) ?_ ?_
   ·have SO:=e0
    rw[hS.aW]at SO;simp[eC,kK,aC,vi,vl,eW,hS.aW,h2,SO,ew]
   ·simp[eF,kK,aC]
   ·exact⟨0,_,0,by omega,ho,hw,by omega,rfl,by simp[val],rfl⟩
   ·rintro u' _ ⟨j,o',c,hj,Tu,PK,hc,GO,rK,rfl⟩
    have gm:=uE.get j;have gw:=PK.get (k+j);have hb:=yp gx gm gw hc;obtain⟨t,ht⟩:∃t,t=x*m.getD j 0+o'.getD (k+j) 0+c:=⟨_,rfl⟩;have dC:=Dp rK ht (Int.pow_add 4294967296 k j);have f6:=kA hS.lt hS.aW j m.length;have f9:j<m.length->aG .u32 s (zj (zy j))=true:=fun h=>by rw[hS.gJ,hs,hS.nat,hS.aW,lS];exact decide_eq_true (by omega)
    have PM:zV 0 (zy j)=true:=by rw[hS.le,hS.aW];exact decide_eq_true (by omega)
    have f0:ao s (zj (zy j))=m.getD j 0:=by rw[hS.dL,hS.nat,hS.aW,hs,ph,Int.toNat_natCast]
    have f1:j<=m.length->zD .i64 (zE (zy k) (zy j))=zy (k+j):=fun h=>by rw[hS.wrap,hS.add,hS.aW,hS.aW,hS.aW,wrap_i64 (by omega) (by omega)];omega
    have Rd:zD .i64 (zE (zy k) (zy m.length))=zy (k+m.length):=by rw[hS.wrap,hS.add,hS.aW,hS.aW,hS.aW,wrap_i64 (by omega) (by omega)];omega
    have f2:∀q,zz 0 (zy q)=q:=fun q=>by rw[hS.idx,hS.aW];omega
    have f3:∀q,q<n->zu (zy q) n=true:=fun q hq=>by rw[hS.xo,hS.aW];exact decide_eq_true (by omega)
    have f4:∀q,q<n->aG .u32 (zW .u32 o') q=true:=fun q hq=>by rw[hS.gJ,hS.W,lS];exact decide_eq_true (by omega)
    have f5:∀q,ao (zW .u32 o') q=o'.getD q 0:=fun q=>by rw[hS.dL,hS.W,ph]
    have f7:∀q y,az .u32 (zW .u32 o') q y=zW .u32 (o'.set q y):=fun q y=>by rw[hS.nK,hS.W,oo]
    have X9:zD .u64 (m.getD j 0)=m.getD j 0:=by rw[hS.wrap,fg (by omega) (by omega)]
    have Ya:zD .u64 (o'.getD (k+j) 0)=o'.getD (k+j) 0:=by rw[hS.wrap,fg (by omega) (by omega)]
    have f8:zD .u64 (zE (zD .u64 (zE (zD .u64 (zH x (m.getD j 0))) (o'.getD (k+j) 0))) c)=t:=by
     rw[hS.wrap,hS.wrap,hS.wrap,hS.mul,hS.add,hS.add,fg (x:=x*m.getD j 0) (by omega) (by omega),fg (x:=x*m.getD j 0+o'.getD (k+j) 0) (by omega) (by omega),fg (by omega) (by omega),ht]
    have e2:zD .u32 t=t%4294967296:=by rw[hS.wrap];exact yl _
    have e3:zL .u64 t 32=t/4294967296:=by rw[show zL .u64 t 32=ZI.b9.shr .u64 t 32 from hS.shr ..];exact Oa (by omega)
    have Yb:zD .u32 c=c:=by rw[hS.wrap];exact Ja (by omega) (by omega)
    have e4:j<m.length->zD .i64 (zE (zy j) 1)=zy (j+1):=fun h=>by rw[hS.wrap,hS.add,hS.aW,hS.aW,wrap_i64 (by omega) (by omega)];omega
    have SB:zD .i64 (zE (zy k) 1)=zy (k+1):=by rw[hS.wrap,hS.add,hS.aW,hS.aW,wrap_i64 (by omega) (by omega)];omega
    have jj:∀q y,q<n->val (o'.set q y)=val o'+(y-o'.getD q 0)*4294967296^q:=fun q y hq=>Bh _ _ _ (by omega)
    have Yc:j=m.length->o'.getD (k+j) 0=0:=fun hj=>by
     have e:o'.getD (k+j) 0=o.getD (k+j) 0:=by
      have:=congrArg (fun y=>List.getD y 0 0) GO;simpa[List.getD_eq_getElem?_getD]using this
     rw[e,hj];exact Dq hw (by omega) lV
    have htt:0<=t:=by omega
    have Rn:t<18446744073709551616:=by omega
    have Yd:=Cm m j;have Ew:j=m.length->m.take j=m:=fun h=>List.take_of_length_le (by omega)
    clear ht hb;generalize GN:m.getD j 0=y at *;generalize Bj:o'.getD (k+j) 0=w at *;cbv;refine⟨fun h'=>?_,fun h'=>?_⟩
    all_goals rw[f6]at h'
    ·have h':=of_decide_eq_true h'
     rw[f1 (by omega),f2,f0,X9,f5,Bj,Ya,f8,e2,e3,e4 h',f7];refine nd PM (nd (f9 h') (nd (f3 _ (by omega)) (nd (f4 _ (by omega)) (nd (f3 _ (by omega)) (nd (f4 _ (by omega)) ?_)))));refine again (s':=kK r s (zW .u32 (o'.set (k+j) (t%4294967296))) n (zy l.length) (zy k) x (t/4294967296) (zy m.length) (zy (j+1))) (m:=u'-1) (by simp[eC,kK,aC,vi,vl,eW]) (by simp[eF,kK,aC]) rfl (Nat.le_succ 2) (by omega)
      ⟨_,_,_,by omega,by simpa using Tu,PK.set _ (by omega) (by omega),by omega,?_,?_,rfl⟩
     ·rw[show k+(j+1)=k+j+1 by omega,PI]
      have:=congrArg (List.drop 1) GO;simpa[List.drop_drop]using this
     ·rw[jj _ _ (by omega),Bj,show k+(j+1)=k+j+1 by omega,Int.pow_succ,Yd]
      exact dC
    ·have h':=of_decide_eq_false h'
     have N6:j=m.length:=by omega
     rw[h2,Rd,f2,Yb,SB,f7];refine nd (f3 _ (by omega)) (nd (f4 _ (by omega)) ?_);refine again (s':=pM r s (zW .u32 (o'.set (k+m.length) c)) n (zy l.length) (zy (k+1))) (m:=u-1) (by simp[eC,pM,aC,vi,vl,eW]) (by simp[eF,pM,aC]) rfl (Nat.le_succ 2) (by omega)
      ⟨_,_,by omega,by simpa using Tu,PK.set _ (by omega) (by omega),?_,rfl⟩
     have e:=jj (k+j) c (by omega);rw[Bj,Yc N6]at e;rw[Ew N6,hv]at rK;rw[<-N6,e,X8];clear e Bj;generalize val (List.take k l)=p1 at *;generalize val m=p2 at *;generalize val o'=p3 at *;generalize (4294967296:Int)^k=p4 at *;generalize (4294967296:Int)^(k+j)=p5 at *;grind
  ·have h:=of_decide_eq_false h
   rw[Kr];refine nd Bi ⟨_,hS.call hT,?_⟩;rw[eQ (by omega)];generalize W .u32 (dg (val l*val m).toNat)=z at *;cbv;exact hF _ (aS.refl _)
open Go Go.Abs Go.Abs.M Go.Proofs
end Go.Proofs.YtekefilngojelaaGreat
end
section
namespace Go.Abs.M
theorem yv {a b c d:Int} (ha:0<=a/\a<4294967296) (hb:0<=b/\b<4294967296) (hc:0<=c/\c<=1) (hd:d=((a-b)%18446744073709551616-c)%18446744073709551616) :
  d%4294967296=(4294967296+a-b-c)%4294967296/\d/9223372036854775808=1-(4294967296+a-b-c)/4294967296/\0<=d:=by omega
structure PX (u v:List Int) (n:Nat) (g:Int) (k:Nat) (o:List Int) (c b:Int):Prop where
 lo:o.length=n+1
 wo:Wd o
 hc:0<=c/\c<4294967296
 hb:0<=b/\b<=1
 dr:o.drop k=u.drop k
 eq:val (o.take k)=val (u.take k)-g*val (v.take k)+(b+c)*4294967296^k
theorem iJ {o u:List Int} {k:Nat} (h:o.drop k=u.drop k):o.getD k 0=u.getD k 0:=by
 have:=congrArg (fun y=>List.getD y 0 0) h;simpa[List.getD_eq_getElem?_getD]using this
theorem tQ {o u:List Int} {k:Nat} (x:Int) (h:o.drop k=u.drop k):(o.set k x).drop (k+1)=u.drop (k+1):=by
 rw[PI];have:=congrArg (List.drop 1) h;simpa[List.drop_drop]using this
section
variable {u v o:List Int} {n k:Nat} {g c b pr d:Int}
theorem PX.start (hu:u.length=n+1) (hw:Wd u):PX u v n g 0 u 0 0:=⟨hu,hw,by omega,by omega,rfl,by simp[val]⟩
theorem PX.step (h:PX u v n g k o c b) (uF:Wd u) (xw:Wd v) (yt:0<=g) (Rv:g<=4294967296) (hk:k<n) (Ro:pr=g*v.getD k 0+c) (hd:d=((u.getD k 0-pr%4294967296)%18446744073709551616-b)%18446744073709551616) :
  (0<=g*v.getD k 0/\g*v.getD k 0<18446744073709551616)/\(0<=pr/\pr<18446744073709551616)/\0<=d/\o.getD k 0=u.getD k 0/\PX u v n g (k+1) (o.set k (d%4294967296)) (pr/4294967296) (d/9223372036854775808):=by
 obtain⟨lo,wo,hc,hb,dr,eq⟩:=h;have ga:=uF.get k;have gv:=xw.get k;have SJ:0<=g*v.getD k 0/\g*v.getD k 0<=4294967296*4294967295:=⟨Int.mul_nonneg yt gv.1,Int.mul_le_mul Rv (by omega) gv.1 (by omega)⟩;obtain⟨t,ht⟩:∃t,t=4294967296+u.getD k 0-pr%4294967296-b:=⟨_,rfl⟩;have dC:=tO eq Ro ht;obtain⟨d1,d2,d3⟩:=yv ga (show 0<=pr%4294967296/\pr%4294967296<4294967296 by omega) hb hd
 rw[<-ht]at d1 d2;refine⟨by omega,by omega,d3,iJ dr,?_⟩;rw[d1,d2];refine⟨by simpa using lo,wo.set _ (by omega) (by omega),by omega,by omega,tQ _ dr,?_⟩;rw[N5 _ (by omega),Cm u,Cm v,Int.pow_succ,dC,Int.mul_add]
theorem PX.last (h:PX u v n g n o c b) (hu:u.length=n+1) (hv:v.length=n) (uF:Wd u) (hd:d=((u.getD n 0-c)%18446744073709551616-b)%18446744073709551616) :
  0<=d/\o.getD n 0=u.getD n 0/\(d/9223372036854775808=0↔¬val u-g*val v<0)/\o.set n (d%4294967296)=xx (n+1) (val u-g*val v)/\(o.set n (d%4294967296)).length=n+1:=by
 obtain⟨lo,wo,hc,hb,dr,eq⟩:=h;have gun:=uF.get n;obtain⟨n1,n2,n3⟩:=yv gun hc hb hd;obtain⟨y,hy⟩:∃y,y=4294967296+u.getD n 0-c-b:=⟨_,rfl⟩;rw[<-hy]at n1 n2;rw[n1,n2];have PY:Wd (o.set n (y%4294967296)):=wo.set _ (by omega) (by omega);have Ob:(o.set n (y%4294967296)).length=n+1:=by simpa using lo
 have PZ:val (o.set n (y%4294967296))=(val u-g*val v)+(1-y/4294967296)*4294967296^(n+1):=by
  have a1:=N5 (l:=o) (k:=n) (y%4294967296) (by omega);rw[List.take_of_length_le (by omega)]at a1;have a2:=Cm u n;rw[List.take_of_length_le (by omega)]at a2;rw[List.take_of_length_le (l:=v) (by omega)]at eq;have a3:=Int.emod_add_mul_ediv y 4294967296;have a4:y%4294967296=4294967296+u.getD n 0-c-b-4294967296*(y/4294967296):=by omega
  rw[a1,a2,eq,Int.pow_succ,a4];generalize y/4294967296=z at *;generalize (4294967296:Int)^n=p at *;generalize val v=vv at *;generalize val (u.take n)=uu at *;generalize u.getD n 0=w at *;clear a1 a2 a3 a4 eq n1 n2 hd hy PY Ob dr;grind
 refine⟨n3,iJ dr,?_,Bl PY Ob PZ,Ob⟩;have a2:=Bf PY;have a3:=sC PY;rw[Ob]at a2;have a4:=xb (n+1);rcases(show 1-y/4294967296=0∨1-y/4294967296=1 by omega) with h1|h1
 ·rw[h1]at PZ ⊢;constructor<;>intro<;>omega
 ·rw[h1]at PZ ⊢;constructor<;>intro<;>omega
structure P3 (u v:List Int) (n:Nat) (k:Nat) (o:List Int) (c:Int):Prop where
 lo:o.length=n+1
 wo:Wd o
 hc:0<=c/\c<=1
 dr:o.drop k=u.drop k
 eq:val (o.take k)+c*4294967296^k=val (u.take k)+val (v.take k)
theorem P3.start (hu:u.length=n+1) (hw:Wd u):P3 u v n 0 u 0:=⟨hu,hw,by omega,rfl,by simp[val]⟩
theorem P3.step {t:Int} (h:P3 u v n k o c) (uF:Wd u) (xw:Wd v) (hk:k<n) (ht:t=u.getD k 0+v.getD k 0+c) :
  (0<=t/\t<18446744073709551616)/\o.getD k 0=u.getD k 0/\P3 u v n (k+1) (o.set k (t%4294967296)) (t/4294967296):=by
 obtain⟨lo,wo,hc,dr,eq⟩:=h;have ga:=uF.get k;have gv:=xw.get k;have dC:=vZ eq ht;refine⟨by omega,iJ dr,by simpa using lo,wo.set _ (by omega) (by omega),by omega,tQ _ dr,?_⟩;rw[N5 _ (by omega),Cm u,Cm v,Int.pow_succ];exact dC
theorem P3.last (h:P3 u v n n o c) (hu:u.length=n+1) (hv:v.length=n) (uF:Wd u):o.getD n 0=u.getD n 0/\o.set n ((u.getD n 0+c)%4294967296)=xx (n+1) (val u+val v)/\(o.set n ((u.getD n 0+c)%4294967296)).length=n+1:=by
 obtain⟨lo,wo,hc,dr,eq⟩:=h;have gun:=uF.get n;obtain⟨y,hy⟩:∃y,y=u.getD n 0+c:=⟨_,rfl⟩;rw[<-hy];have PY:Wd (o.set n (y%4294967296)):=wo.set _ (by omega) (by omega);have Ob:(o.set n (y%4294967296)).length=n+1:=by simpa using lo
 refine⟨iJ dr,Bl (b:=-(y/4294967296)) PY Ob ?_,Ob⟩;have a1:=N5 (l:=o) (k:=n) (y%4294967296) (by omega);rw[List.take_of_length_le (by omega)]at a1;have a2:=Cm u n;rw[List.take_of_length_le (by omega)]at a2;rw[List.take_of_length_le (l:=v) (by omega)]at eq;have a3:=Int.emod_add_mul_ediv y 4294967296;have a4:y%4294967296=u.getD n 0+c-4294967296*(y/4294967296):=by omega
 have a5:val (o.take n)=val (u.take n)+val v-c*4294967296^n:=by omega
 rw[a1,a2,a5,Int.pow_succ,a4];generalize y/4294967296=z at *;generalize (4294967296:Int)^n=p at *;generalize val v=vv at *;generalize val (u.take n)=uu at *;generalize u.getD n 0=w at *;clear a1 a2 a3 a4 a5 eq hy PY Ob dr;grind
end
end Go.Abs.M
end
