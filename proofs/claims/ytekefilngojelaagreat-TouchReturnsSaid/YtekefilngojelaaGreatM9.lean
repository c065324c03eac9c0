/- A part of the proof. -/
import Derived.Laws.BitsLemmas
import Derived.Test.YtekefilngojelaaGreatProg
import Derived.Test.YtekefilngojelaaGreatM8
set_option maxHeartbeats 0
set_option maxRecDepth 100000
set_option linter.unusedVariables false
set_option linter.unusedSimpArgs false
set_option linter.unusedSectionVars false
section
namespace Go.Abs
inductive BT (α:Type) where
 | leaf
 | node (k:Nat) (v:α) (l r:BT α)
def BT.find {α:Type}:BT α->Nat->Option α
 | .leaf,_=>none
 | .node k v l r,i=>if i=k then some v else if i<k then l.find i else r.find i
def BT.all {α:Type} (p:Nat->α->Bool):BT α->Bool
 | .leaf=>true
 | .node k v l r=>p k v&&l.all p&&r.all p
theorem BT.xm {α:Type} {p:Nat->α->Bool} {i:Nat} {v:α}:∀ {t:BT α},t.all p=true->t.find i=some v->p i v=true
 | .leaf,_,h=>by cases h
 | .node k w l r,ha,h=>by
  simp only[BT.all,Bool.and_eq_true]at ha;simp only[BT.find]at h;split at h
  ·rename_i e;cases h;rw[e];exact ha.1.1
  ·split at h
   ·exact BT.xm ha.1.2 h
   ·exact BT.xm ha.2 h
theorem Wu {P:Program} {t:BT TI} {md:FuncId->List Mode} {cs:TypeId->Bool} (h:t.all (fun i ti=>Vr P i ti)=true):bq P ⟨t.find,md,cs⟩:=
 fun i ti hi=>BT.xm h hi
def abi (t:BT (List Mode)) (f:FuncId):List Mode:=(t.find f).getD []
def ae (n:Nat) (l:List AV) (h:bM):St:=⟨l++List.replicate (n-l.length) .af,h⟩
def vi (k:IntKind) (n:Int):AV:=.c (.t (.v (.int k n)))
def vb (b:Bool):AV:=.c (.t (.v (.bool b)))
def ti (k:IntKind) (n:Int):TV:=.c (.v (.int k n))
def tb (b:Bool):TV:=.c (.v (.bool b))
theorem wrap_i64 {x:Int} (h0:-9223372036854775808<=x) (h1:x<9223372036854775808):IntKind.wrap .i64 x=x:=by
 rw[IntKind.wrap_i64];omega
theorem LX {x:Int} (h0:0<=x) (h1:x<2^32):IntKind.wrap .u32 x=x:=by
 have:IntKind.wrap .u32 x=x%2^32:=rfl;rw[this,Int.emod_eq_of_lt h0 h1]
theorem AS (x:Int):IntKind.wrap .u32 x=x%4294967296:=rfl
theorem AT (x:Int):IntKind.wrap .u64 x=x%18446744073709551616:=rfl
theorem wrap_u8 {x:Int} (h0:0<=x) (h1:x<256):IntKind.wrap .u8 x=x:=by
 have:IntKind.wrap .u8 x=x%256:=rfl;rw[this,Int.emod_eq_of_lt h0 h1]
def vl (r:Rows):AV:=.c (.t (.aa false r))
def tl (r:Rows):TV:=.c (.aa false r)
def fy:AV:=.c (.t (.aa true []))
def iT (s:Bool) (r:Rows):List Tree:=[.v (.bool s),.aa false r]
theorem jf (k:IntKind) (l:List Int):(W k l).length=l.length:=by simp[W]
theorem Rt (k:IntKind) (l:List Int) (i:Nat):(W k l)[i]?=(l[i]?).map fun x=>[Tree.v (.int k x)]:=by simp[W]
theorem kM (k:IntKind) (l:List Int) (i:Nat):ZI.bV.gE k (W k l) i=decide (i<l.length):=by
 simp only[ZI.bV,Rt];rcases Nat.lt_or_ge i l.length with h|h
 ·simp[h]
 ·simp[h,Nat.not_lt.2 h]
theorem mP (k:IntKind) (l:List Int) (i:Nat):ZI.bV.dF (W k l) i=l.getD i 0:=by
 simp only[ZI.bV,Rt,List.getD_eq_getElem?_getD];cases l[i]? <;> rfl
theorem pq (k:IntKind) (l:List Int) (i:Nat) (x:Int):(W k l).set i [.v (.int k x)]=W k (l.set i x):=by simp[W,List.map_set]
theorem kj (k:IntKind) (l:List Int) (a n:Nat):((W k l).drop a).take n=W k ((l.drop a).take n):=by simp[W,List.map_drop,List.map_take]
theorem M1 (k:IntKind) (l m:List Int) (a:Nat):aX (W k l) a (W k m)=W k (aX l a m):=by simp[W,aX,List.map_drop,List.map_take]
theorem xn (k:IntKind) (n:Nat) (x:Int):List.replicate n [Tree.v (.int k x)]=W k (List.replicate n x):=by simp[W]
theorem HK (k:IntKind) (l:List Int):((W k l).all fun r=>r.length==1)=true:=by simp[W]
theorem bT {b:Bool} {p q:Prop} (h:b=true) (hp:p):Br b p q:=⟨fun _=>hp,fun h'=>absurd (h.symm.trans h') (by decide)⟩
theorem bF {b:Bool} {p q:Prop} (h:b=false) (hq:q):Br b p q:=⟨fun h'=>absurd (h.symm.trans h') (by decide),fun _=>hq⟩
theorem nd {c:Bool} {p:Prop} (h:c=true) (hp:p):Wm c p:=⟨h,hp⟩
theorem bn {F:mB->Prop} {y:TV} {o:List (Option aC)} (hF:∀r,ak r ⟨[.val y],o⟩->F r) {x:TV} (h:x=y):F ⟨[.val x],o⟩:=by subst h;exact hF _ (ak.refl _)
theorem PE {F:mB->Prop} {y y':TV} {o:List (Option aC)} (hF:∀r,ak r ⟨[.val y,.val y'],o⟩->F r) {x x':TV} (h:x=y) (h':x'=y'):F ⟨[.val x,.val x'],o⟩:=by subst h h';exact hF _ (ak.refl _)
theorem gX {F:mB->Prop} {y:TV} {o:List (Option aC)} (hF:∀r,ak r ⟨[.val y],o⟩->F r) {x:TV} (h:je x y):F ⟨[.val x],o⟩:=hF _ ⟨⟨h,trivial⟩,rfl⟩
theorem Fy {F:mB->Prop} {y y':TV} {o:List (Option aC)} (hF:∀r,ak r ⟨[.val y,.val y'],o⟩->F r) {x x':TV} (h:je x y) (h':je x' y'):F ⟨[.val x,.val x'],o⟩:=hF _ ⟨⟨h,h',trivial⟩,rfl⟩
theorem kl {k:IntKind} {a b:Int} (h:a=b):TV.c (.v (.int k a))=.c (.v (.int k b)):=by rw[h]
theorem jz {a b:Bool} (h:a=b):TV.c (.v (.bool a))=.c (.v (.bool b)):=by rw[h]
theorem again {s s':St} {n0 n m:Nat} {I:Nat->St->Prop} (h1:dO s.tmps s'.tmps) (h2:dP s.heap s'.heap) (h3:s'.aM=true) (h4:n0<=s'.heap.length) (hm:m<n) (hI:I m s') :
  ∃s',s.Le s'/\s'.aM=true/\n0<=s'.heap.length/\∃m,m<n/\I m s':=⟨s',fi h1 h2,h3,h4,m,hm,hI⟩
end Go.Abs
end
section
namespace Go.Proofs.YtekefilngojelaaGreat
open Go Go.Abs Go.Proofs
def tab:BT TI:=(.node 53 ⟨.struct [(0,3),(1,31),(2,31),(3,37),(4,42),(5,42),(6,42),(7,48),(24,49),(25,50),(26,51),(27,39)],28,528,[.v (.int .i64 0),.aa true [],.aa
 true [],.aa true [],.aa true [],.aa true [],.aa true [],.v (.int .i64 0),.v (.int .i64 0),.v (.int .i64 0),.v (.int .i64 0),.v (.int .i64 0),.v (.int .i64 0),.v
 (.int .i64 0),.v (.int .i64 0),.aa true [],.aa true [],.aa true [],.aa true [],.aa true [],.aa true [],.aa true [],.aa true [],.aa true [],.aa true [],.aa
 true [],.aa true [],.aa true []]⟩ (.node 29 ⟨.struct [(0,27)],1,24,[.aa true []]⟩ (.node 13 ⟨.struct [(0,9),(1,12)],2,24,[.v (.string ⟨#[]⟩),.v (.int .u64 0)]⟩
 (.node 7 ⟨.struct [(0,2),(1,3),(2,4),(3,6)],4,24,[.v (.int .i64 0),.v (.int .i64 0),.v (.bool false),.v (.int .u8 0)]⟩ (.node 4 ⟨.bool,1,1,[.v (.bool false)]⟩
 (.node 3 ⟨.int .i64,1,8,[.v (.int .i64 0)]⟩ (.node 2 ⟨.int .i64,1,8,[.v (.int .i64 0)]⟩ .leaf .leaf) .leaf) (.node 6 ⟨.int .u8,1,1,[.v (.int .u8 0)]⟩ (.node 5 ⟨.int .u8,
 1,1,[.v (.int .u8 0)]⟩ .leaf .leaf) .leaf)) (.node 10 ⟨.string,1,16,[.v (.string ⟨#[]⟩)]⟩ (.node 9 ⟨.string,1,16,[.v (.string ⟨#[]⟩)]⟩ (.node 8 ⟨.struct [(0,2),(1,3),
 (2,4),(3,6)],4,24,[.v (.int .i64 0),.v (.int .i64 0),.v (.bool false),.v (.int .u8 0)]⟩ .leaf .leaf) .leaf) (.node 12 ⟨.int .u64,1,8,[.v (.int .u64 0)]⟩ (.node 11
 ⟨.string,1,16,[.v (.string ⟨#[]⟩)]⟩ .leaf .leaf) .leaf))) (.node 23 ⟨.slice 86,1,24,[.aa true []]⟩ (.node 19 ⟨.struct [(0,17)],1,8,[.v (.pointer none)]⟩ (.node 18
 ⟨.struct [(0,17)],1,8,[.v (.pointer none)]⟩ (.node 14 ⟨.struct [(0,9),(1,12)],2,24,[.v (.string ⟨#[]⟩),.v (.int .u64 0)]⟩ .leaf .leaf) .leaf) (.node 22 ⟨.slice 29,1,
 24,[.aa true []]⟩ (.node 21 ⟨.int .i32,1,4,[.v (.int .i32 0)]⟩ .leaf .leaf) .leaf)) (.node 26 ⟨.array 3 5,3,3,[.v (.int .u8 0),.v (.int .u8 0),.v (.int .u8 0)]⟩ (.node 25
 ⟨.struct [(0,5),(1,22),(2,23)],3,56,[.v (.int .u8 0),.aa true [],.aa true []]⟩ (.node 24 ⟨.struct [(0,5),(1,22),(2,23)],3,56,[.v (.int .u8 0),.aa true [],
 .aa true []]⟩ .leaf .leaf) .leaf) (.node 28 ⟨.struct [(0,27)],1,24,[.aa true []]⟩ (.node 27 ⟨.slice 87,1,24,[.aa true []]⟩ .leaf .leaf) .leaf)))) (.node 42 ⟨.slice 31,1,
 24,[.aa true []]⟩ (.node 36 ⟨.slice 43,1,24,[.aa true []]⟩ (.node 33 ⟨.struct [(0,3),(1,31),(2,31)],3,56,[.v (.int .i64 0),.aa true [],.aa true []]⟩ (.node 32
 ⟨.struct [(0,3),(1,31),(2,31)],3,56,[.v (.int .i64 0),.aa true [],.aa true []]⟩ (.node 31 ⟨.slice 35,1,24,[.aa true []]⟩ .leaf .leaf) .leaf) (.node 35 ⟨.slice 96,
 1,24,[.aa true []]⟩ (.node 34 ⟨.slice 96,1,24,[.aa true []]⟩ .leaf .leaf) .leaf)) (.node 39 ⟨.slice 128,1,24,[.aa true []]⟩ (.node 38 ⟨.slice 3,1,24,[.aa true []]⟩
 (.node 37 ⟨.slice 43,1,24,[.aa true []]⟩ .leaf .leaf) .leaf) (.node 41 ⟨.struct [(0,3),(1,35),(2,3),(3,3),(4,3),(5,37),(6,31),(7,38),(8,39)],9,152,[.v (.int
 .i64 0),.aa true [],.v (.int .i64 0),.v (.int .i64 0),.v (.int .i64 0),.aa true [],.aa true [],.aa true [],.aa true []]⟩ (.node 40 ⟨.struct [(0,3),(1,35),(2,3),
 (3,3),(4,3),(5,37),(6,31),(7,38),(8,39)],9,152,[.v (.int .i64 0),.aa true [],.v (.int .i64 0),.v (.int .i64 0),.v (.int .i64 0),.aa true [],.aa true [],.aa
 true [],.aa true []]⟩ .leaf .leaf) .leaf))) (.node 48 ⟨.struct [(0,43),(8,45),(9,46)],17,280,[.v (.int .i64 0),.v (.int .i64 0),.v (.int .i64 0),.v (.int .i64 0),.v
 (.int .i64 0),.v (.int .i64 0),.v (.int .i64 0),.v (.int .i64 0),.aa true [],.aa true [],.aa true [],.aa true [],.aa true [],.aa true [],.aa true [],.aa true [],
 .aa true []]⟩ (.node 45 ⟨.slice 93,1,24,[.aa true []]⟩ (.node 44 ⟨.slice 93,1,24,[.aa true []]⟩ (.node 43 ⟨.array 8 3,8,64,[.v (.int .i64 0),.v (.int .i64 0),.v (.int
 .i64 0),.v (.int .i64 0),.v (.int .i64 0),.v (.int .i64 0),.v (.int .i64 0),.v (.int .i64 0)]⟩ .leaf .leaf) .leaf) (.node 47 ⟨.struct [(0,43),(8,45),(9,46)],17,280,[.v
 (.int .i64 0),.v (.int .i64 0),.v (.int .i64 0),.v (.int .i64 0),.v (.int .i64 0),.v (.int .i64 0),.v (.int .i64 0),.v (.int .i64 0),.aa true [],.aa true [],.aa true
 [],.aa true [],.aa true [],.aa true [],.aa true [],.aa true [],.aa true []]⟩ (.node 46 ⟨.array 8 45,8,192,[.aa true [],.aa true [],.aa true [],.aa true [],
 .aa true [],.aa true [],.aa true [],.aa true []]⟩ .leaf .leaf) .leaf)) (.node 51 ⟨.slice 137,1,24,[.aa true []]⟩ (.node 50 ⟨.slice 134,1,24,[.aa true []]⟩ (.node 49
 ⟨.slice 126,1,24,[.aa true []]⟩ .leaf .leaf) .leaf) (.node 52 ⟨.struct [(0,3),(1,31),(2,31),(3,37),(4,42),(5,42),(6,42),(7,48),(24,49),(25,50),(26,51),
 (27,39)],28,528,[.v (.int .i64 0),.aa true [],.aa true [],.aa true [],.aa true [],.aa true [],.aa true [],.v (.int .i64 0),.v (.int .i64 0),.v (.int .i64 0),.v
 (.int .i64 0),.v (.int .i64 0),.v (.int .i64 0),.v (.int .i64 0),.v (.int .i64 0),.aa true [],.aa true [],.aa true [],.aa true [],.aa true [],.aa true [],.aa true
 [],.aa true [],.aa true [],.aa true [],.aa true [],.aa true [],.aa true []]⟩ .leaf .leaf))))) (.node 134 ⟨.struct [(0,93),(4,35)],5,88,[.v (.bool false),.aa
 true [],.v (.bool false),.aa true [],.aa true []]⟩ (.node 93 ⟨.struct [(0,91),(2,91)],4,64,[.v (.bool false),.aa true [],.v (.bool false),.aa true []]⟩ (.node 86
 ⟨.int .i8,1,1,[.v (.int .i8 0)]⟩ (.node 66 ⟨.array 4 5,4,4,[.v (.int .u8 0),.v (.int .u8 0),.v (.int .u8 0),.v (.int .u8 0)]⟩ (.node 55 ⟨.struct [(0,33),(3,41),(12,
 53)],40,736,[.v (.int .i64 0),.aa true [],.aa true [],.v (.int .i64 0),.aa true [],.v (.int .i64 0),.v (.int .i64 0),.v (.int .i64 0),.aa true [],.aa true [],.aa
 true [],.aa true [],.v (.int .i64 0),.aa true [],.aa true [],.aa true [],.aa true [],.aa true [],.aa true [],.v (.int .i64 0),.v (.int .i64 0),.v (.int .i64 0),
 .v (.int .i64 0),.v (.int .i64 0),.v (.int .i64 0),.v (.int .i64 0),.v (.int .i64 0),.aa true [],.aa true [],.aa true [],.aa true [],.aa true [],.aa true [],.aa
 true [],.aa true [],.aa true [],.aa true [],.aa true [],.aa true [],.aa true []]⟩ (.node 54 ⟨.struct [(0,33),(3,41),(12,53)],40,736,[.v (.int .i64 0),.aa true
 [],.aa true [],.v (.int .i64 0),.aa true [],.v (.int .i64 0),.v (.int .i64 0),.v (.int .i64 0),.aa true [],.aa true [],.aa true [],.aa true [],.v (.int .i64 0),
 .aa true [],.aa true [],.aa true [],.aa true [],.aa true [],.aa true [],.v (.int .i64 0),.v (.int .i64 0),.v (.int .i64 0),.v (.int .i64 0),.v (.int .i64 0),.v
 (.int .i64 0),.v (.int .i64 0),.v (.int .i64 0),.aa true [],.aa true [],.aa true [],.aa true [],.aa true [],.aa true [],.aa true [],.aa true [],.aa true [],
 .aa true [],.aa true [],.aa true [],.aa true []]⟩ .leaf .leaf) .leaf) (.node 84 ⟨.array 8 3,8,64,[.v (.int .i64 0),.v (.int .i64 0),.v (.int .i64 0),.v (.int .i64 0),
 .v (.int .i64 0),.v (.int .i64 0),.v (.int .i64 0),.v (.int .i64 0)]⟩ (.node 70 ⟨.slice 5,1,24,[.aa true []]⟩ .leaf .leaf) .leaf)) (.node 90 ⟨.struct [(0,4),(1,89)],2,
 32,[.v (.bool false),.aa true []]⟩ (.node 89 ⟨.slice 195,1,24,[.aa true []]⟩ (.node 87 ⟨.array 5 86,5,5,[.v (.int .i8 0),.v (.int .i8 0),.v (.int .i8 0),.v (.int .i8
 0),.v (.int .i8 0)]⟩ .leaf .leaf) .leaf) (.node 92 ⟨.struct [(0,91),(2,91)],4,64,[.v (.bool false),.aa true [],.v (.bool false),.aa true []]⟩ (.node 91 ⟨.struct [(0,
 4),(1,89)],2,32,[.v (.bool false),.aa true []]⟩ .leaf .leaf) .leaf))) (.node 126 ⟨.struct [(0,93),(4,93)],8,128,[.v (.bool false),.aa true [],.v (.bool false),.aa
 true [],.v (.bool false),.aa true [],.v (.bool false),.aa true []]⟩ (.node 101 ⟨.int .i64,1,8,[.v (.int .i64 0)]⟩ (.node 96 ⟨.struct [(0,93),(4,84)],12,128,[.v
 (.bool false),.aa true [],.v (.bool false),.aa true [],.v (.int .i64 0),.v (.int .i64 0),.v (.int .i64 0),.v (.int .i64 0),.v (.int .i64 0),.v (.int .i64 0),.v (.int
 .i64 0),.v (.int .i64 0)]⟩ (.node 95 ⟨.struct [(0,93),(4,84)],12,128,[.v (.bool false),.aa true [],.v (.bool false),.aa true [],.v (.int .i64 0),.v (.int .i64 0),.v
 (.int .i64 0),.v (.int .i64 0),.v (.int .i64 0),.v (.int .i64 0),.v (.int .i64 0),.v (.int .i64 0)]⟩ .leaf .leaf) .leaf) (.node 125 ⟨.struct [(0,93),(4,93)],8,128,[.v
 (.bool false),.aa true [],.v (.bool false),.aa true [],.v (.bool false),.aa true [],.v (.bool false),.aa true []]⟩ (.node 111 ⟨.int .u64,1,8,[.v (.int .u64 0)]⟩ .leaf
 .leaf) .leaf)) (.node 131 ⟨.struct [(0,86),(1,86),(2,5)],3,3,[.v (.int .i8 0),.v (.int .i8 0),.v (.int .u8 0)]⟩ (.node 128 ⟨.array 8 126,64,1024,[.v (.bool false),
 .aa true [],.v (.bool false),.aa true [],.v (.bool false),.aa true [],.v (.bool false),.aa true [],.v (.bool false),.aa true [],.v (.bool false),.aa true [],.v
 (.bool false),.aa true [],.v (.bool false),.aa true [],.v (.bool false),.aa true [],.v (.bool false),.aa true [],.v (.bool false),.aa true [],.v (.bool false),.aa
 true [],.v (.bool false),.aa true [],.v (.bool false),.aa true [],.v (.bool false),.aa true [],.v (.bool false),.aa true [],.v (.bool false),.aa true [],.v (.bool
 false),.aa true [],.v (.bool false),.aa true [],.v (.bool false),.aa true [],.v (.bool false),.aa true [],.v (.bool false),.aa true [],.v (.bool false),.aa true
 [],.v (.bool false),.aa true [],.v (.bool false),.aa true [],.v (.bool false),.aa true [],.v (.bool false),.aa true [],.v (.bool false),.aa true [],.v (.bool
 false),.aa true [],.v (.bool false),.aa true [],.v (.bool false),.aa true [],.v (.bool false),.aa true []]⟩ (.node 127 ⟨.array 8 126,64,1024,[.v (.bool false),.aa
 true [],.v (.bool false),.aa true [],.v (.bool false),.aa true [],.v (.bool false),.aa true [],.v (.bool false),.aa true [],.v (.bool false),.aa true [],.v (.bool
 false),.aa true [],.v (.bool false),.aa true [],.v (.bool false),.aa true [],.v (.bool false),.aa true [],.v (.bool false),.aa true [],.v (.bool false),.aa true
 [],.v (.bool false),.aa true [],.v (.bool false),.aa true [],.v (.bool false),.aa true [],.v (.bool false),.aa true [],.v (.bool false),.aa true [],.v (.bool
 false),.aa true [],.v (.bool false),.aa true [],.v (.bool false),.aa true [],.v (.bool false),.aa true [],.v (.bool false),.aa true [],.v (.bool false),.aa true
 [],.v (.bool false),.aa true [],.v (.bool false),.aa true [],.v (.bool false),.aa true [],.v (.bool false),.aa true [],.v (.bool false),.aa true [],.v (.bool
 false),.aa true [],.v (.bool false),.aa true [],.v (.bool false),.aa true [],.v (.bool false),.aa true []]⟩ .leaf .leaf) .leaf) (.node 133 ⟨.struct [(0,93),(4,35)],
 5,88,[.v (.bool false),.aa true [],.v (.bool false),.aa true [],.aa true []]⟩ (.node 132 ⟨.struct [(0,86),(1,86),(2,5)],3,3,[.v (.int .i8 0),.v (.int .i8 0),.v
 (.int .u8 0)]⟩ .leaf .leaf) .leaf)))) (.node 237 ⟨.struct [(0,17),(1,17),(2,17),(3,9)],4,40,[.v (.pointer none),.v (.pointer none),.v (.pointer none),.v (.string
 ⟨#[]⟩)]⟩ (.node 181 ⟨.struct [(0,3),(1,35),(2,37)],3,56,[.v (.int .i64 0),.aa true [],.aa true []]⟩ (.node 148 ⟨.struct [(0,4),(1,4),(2,4),(3,4),(4,4),(5,4),
 (6,4),(7,4),(8,4),(9,4),(10,4),(11,4)],12,12,[.v (.bool false),.v (.bool false),.v (.bool false),.v (.bool false),.v (.bool false),.v (.bool false),.v (.bool
 false),.v (.bool false),.v (.bool false),.v (.bool false),.v (.bool false),.v (.bool false)]⟩ (.node 142 ⟨.map 9 3,1,8,[.v (.map none)]⟩ (.node 137 ⟨.array 8 93,32,512,
 [.v (.bool false),.aa true [],.v (.bool false),.aa true [],.v (.bool false),.aa true [],.v (.bool false),.aa true [],.v (.bool false),.aa true [],.v (.bool false),
 .aa true [],.v (.bool false),.aa true [],.v (.bool false),.aa true [],.v (.bool false),.aa true [],.v (.bool false),.aa true [],.v (.bool false),.aa true [],.v
 (.bool false),.aa true [],.v (.bool false),.aa true [],.v (.bool false),.aa true [],.v (.bool false),.aa true [],.v (.bool false),.aa true []]⟩ .leaf .leaf) .leaf)
 (.node 180 ⟨.struct [(0,3),(1,35),(2,37)],3,56,[.v (.int .i64 0),.aa true [],.aa true []]⟩ (.node 149 ⟨.struct [(0,4),(1,4),(2,4),(3,4),(4,4),(5,4),(6,4),
 (7,4),(8,4),(9,4),(10,4),(11,4)],12,12,[.v (.bool false),.v (.bool false),.v (.bool false),.v (.bool false),.v (.bool false),.v (.bool false),.v (.bool false),.v
 (.bool false),.v (.bool false),.v (.bool false),.v (.bool false),.v (.bool false)]⟩ .leaf .leaf) .leaf)) (.node 207 ⟨.struct [(0,70)],1,24,[.aa true []]⟩ (.node 203 ⟨.int
 .u64,1,8,[.v (.int .u64 0)]⟩ (.node 195 ⟨.int .u32,1,4,[.v (.int .u32 0)]⟩ .leaf .leaf) .leaf) (.node 233 ⟨.slice 91,1,24,[.aa true []]⟩ (.node 208 ⟨.struct [(0,70)],1,
 24,[.aa true []]⟩ .leaf .leaf) .leaf))) (.node 244 ⟨.int .u8,1,1,[.v (.int .u8 0)]⟩ (.node 240 ⟨.struct [(0,239)],0,0,[]⟩ (.node 239 ⟨.array 0 16,0,0,[]⟩ (.node 238
 ⟨.struct [(0,17),(1,17),(2,17),(3,9)],4,40,[.v (.pointer none),.v (.pointer none),.v (.pointer none),.v (.string ⟨#[]⟩)]⟩ .leaf .leaf) .leaf) (.node 243 ⟨.int .u8,1,
 1,[.v (.int .u8 0)]⟩ (.node 241 ⟨.struct [(0,239)],0,0,[]⟩ .leaf .leaf) .leaf)) (.node 249 ⟨.struct [(0,12),(1,12),(2,195),(3,243),(4,5),(5,5),(6,244),(7,245),
 (8,246),(9,247),(10,248)],11,48,[.v (.int .u64 0),.v (.int .u64 0),.v (.int .u32 0),.v (.int .u8 0),.v (.int .u8 0),.v (.int .u8 0),.v (.int .u8 0),.v .nilFunc,.v
 (.pointer none),.v (.int .i32 0),.v (.int .i32 0)]⟩ (.node 248 ⟨.int .i32,1,4,[.v (.int .i32 0)]⟩ (.node 247 ⟨.int .i32,1,4,[.v (.int .i32 0)]⟩ .leaf .leaf) .leaf) (.node
 250 ⟨.struct [(0,12),(1,12),(2,195),(3,243),(4,5),(5,5),(6,244),(7,245),(8,246),(9,247),(10,248)],11,48,[.v (.int .u64 0),.v (.int .u64 0),.v (.int .u32
 0),.v (.int .u8 0),.v (.int .u8 0),.v (.int .u8 0),.v (.int .u8 0),.v .nilFunc,.v (.pointer none),.v (.int .i32 0),.v (.int .i32 0)]⟩ .leaf .leaf))))))
theorem abj:(tab.all fun i ti=>Vr Tryz.prog i ti)=true:=by kernel_rfl
theorem mixed:Tryz.prog.follows .mixedOrders=true:=by kernel_rfl
def mdt:BT (List Abs.Mode):=(.node 100 [.val] (.node 52 [.own 1,.val] (.node 27 [.val,.val] (.node 15 [.val,.val] (.node 9 [.val] (.node 5 [.val,.val,.val] (.node 4 [.val,.val,.val] (.node 3 [.val,
 .val,.val] .leaf .leaf) .leaf) (.node 8 [.val,.val] (.node 6 [.val,.val,.val] .leaf .leaf) .leaf)) (.node 12 [.val] (.node 11 [.val,.val,.val,.val] (.node 10 [.val,.val,
 .val,.val] .leaf .leaf) .leaf) (.node 14 [.val,.val] (.node 13 [.val] .leaf .leaf) .leaf))) (.node 21 [.val] (.node 18 [.val,.val] (.node 17 [.val,.val] (.node 16 [.val,.val]
 .leaf .leaf) .leaf) (.node 20 [.val] (.node 19 [.val] .leaf .leaf) .leaf)) (.node 24 [.val,.val] (.node 23 [.own 1,.val] (.node 22 [.own 1,.val] .leaf .leaf) .leaf) (.node 26
 [.val,.val] (.node 25 [.val] .leaf .leaf) .leaf)))) (.node 40 [.val,.val] (.node 34 [.val] (.node 31 [.val] (.node 30 [.val,.val] (.node 28 [.val] .leaf .leaf) .leaf) (.node 33
 [.val,.val,.val] (.node 32 [.val] .leaf .leaf) .leaf)) (.node 37 [.val] (.node 36 [.val,.val] (.node 35 [.val] .leaf .leaf) .leaf) (.node 39 [.val,.val] (.node 38 [.val,.val]
 .leaf .leaf) .leaf))) (.node 46 [.val,.val] (.node 43 [.val,.val] (.node 42 [.val,.val,.val] (.node 41 [.val,.val] .leaf .leaf) .leaf) (.node 45 [.val,.val,.val] (.node 44
 [.val] .leaf .leaf) .leaf)) (.node 49 [.val,.val] (.node 48 [.val,.val,.val] (.node 47 [.val] .leaf .leaf) .leaf) (.node 51 [.own 1,.val] (.node 50 [.own 1,.val] .leaf .leaf)
 .leaf))))) (.node 76 [.val] (.node 64 [.val,.val] (.node 58 [.val,.val] (.node 55 [.own 1,.val] (.node 54 [.own 1,.val] (.node 53 [.own 1,.val] .leaf .leaf) .leaf) (.node 57
 [.val] (.node 56 [.val,.val] .leaf .leaf) .leaf)) (.node 61 [.val,.val] (.node 60 [.val,.val] (.node 59 [.val] .leaf .leaf) .leaf) (.node 63 [.val] (.node 62 [.val] .leaf .leaf)
 .leaf))) (.node 70 [.val] (.node 67 [.val,.val,.val] (.node 66 [.val,.val] (.node 65 [.val,.val,.val,.val,.val] .leaf .leaf) .leaf) (.node 69 [.val,.val] (.node 68 [.val]
 .leaf .leaf) .leaf)) (.node 73 [.val,.val] (.node 72 [.val,.val,.val,.val,.val] (.node 71 [.val,.val,.val] .leaf .leaf) .leaf) (.node 75 [.val,.val,.val] (.node 74 [.val,
 .val] .leaf .leaf) .leaf)))) (.node 88 [.val,.val,.val] (.node 82 [.val] (.node 79 [.val,.val] (.node 78 [.val] (.node 77 [.val,.val] .leaf .leaf) .leaf) (.node 81 [.val,.val]
 (.node 80 [.val] .leaf .leaf) .leaf)) (.node 85 [.val,.val,.val,.val] (.node 84 [.val,.val] (.node 83 [.val,.val] .leaf .leaf) .leaf) (.node 87 [.val,.val] (.node 86 [.val,
 .val] .leaf .leaf) .leaf))) (.node 94 [.val,.val] (.node 91 [.val,.val] (.node 90 [.val] (.node 89 [.val,.val] .leaf .leaf) .leaf) (.node 93 [.val,.val] (.node 92 [.own 1,
 .val] .leaf .leaf) .leaf)) (.node 97 [.val,.val] (.node 96 [.val,.val] (.node 95 [.val,.val] .leaf .leaf) .leaf) (.node 99 [.val,.val] (.node 98 [.val] .leaf .leaf) .leaf))))))
 (.node 151 [.val] (.node 127 [.val,.val] (.node 115 [.val,.val] (.node 109 [.val,.val,.val] (.node 103 [.val] (.node 102 [.val,.val] (.node 101 [.val,.val] .leaf .leaf)
 .leaf) (.node 108 [.val] (.node 107 [.val] .leaf .leaf) .leaf)) (.node 112 [.val,.val] (.node 111 [.val,.val] (.node 110 [.val,.val] .leaf .leaf) .leaf) (.node 114 [.val,.val,
 .val] (.node 113 [.val] .leaf .leaf) .leaf))) (.node 121 [.val] (.node 118 [.val] (.node 117 [.own 1,.val] (.node 116 [.val] .leaf .leaf) .leaf) (.node 120 [.val] (.node 119
 [.val] .leaf .leaf) .leaf)) (.node 124 [.val] (.node 123 [.val] (.node 122 [.val] .leaf .leaf) .leaf) (.node 126 [.own 1,.val] (.node 125 [.val] .leaf .leaf) .leaf)))) (.node 139
 [.val] (.node 133 [.val] (.node 130 [.val,.val] (.node 129 [.val,.val] (.node 128 [.val,.val] .leaf .leaf) .leaf) (.node 132 [.val,.val] (.node 131 [.val,.val] .leaf .leaf)
 .leaf)) (.node 136 [.val,.val] (.node 135 [.val,.val] (.node 134 [.val,.val] .leaf .leaf) .leaf) (.node 138 [.val,.val] (.node 137 [.val,.val] .leaf .leaf) .leaf))) (.node 145
 [.val,.val] (.node 142 [.val] (.node 141 [.val] (.node 140 [.val] .leaf .leaf) .leaf) (.node 144 [.val,.val] (.node 143 [.val,.val,.val] .leaf .leaf) .leaf)) (.node 148 [.sh 4]
 (.node 147 [.sh 4] (.node 146 [.sh 4] .leaf .leaf) .leaf) (.node 150 [.own 1,.val] (.node 149 [.own 1,.val] .leaf .leaf) .leaf))))) (.node 175 [.sh 4] (.node 163 [.val] (.node
 157 [.val,.val] (.node 154 [.fj,.val] (.node 153 [.val,.val] (.node 152 [.val,.val] .leaf .leaf) .leaf) (.node 156 [.fj,.val] (.node 155 [.fj,.val,.val] .leaf .leaf)
 .leaf)) (.node 160 [.val] (.node 159 [.val] (.node 158 [.val,.val] .leaf .leaf) .leaf) (.node 162 [.val,.val] (.node 161 [.val] .leaf .leaf) .leaf))) (.node 169 [.val] (.node 166
 [.sh 4] (.node 165 [.sh 4] (.node 164 [.sh 4] .leaf .leaf) .leaf) (.node 168 [.sh 4] (.node 167 [.sh 4] .leaf .leaf) .leaf)) (.node 172 [.val] (.node 171 [.val,.val] (.node 170
 [.val] .leaf .leaf) .leaf) (.node 174 [.val,.val] (.node 173 [.val] .leaf .leaf) .leaf)))) (.node 187 [.val] (.node 181 [.val] (.node 178 [.val,.val] (.node 177 [.val] (.node 176
 [.val,.val] .leaf .leaf) .leaf) (.node 180 [.val] (.node 179 [.sh 4] .leaf .leaf) .leaf)) (.node 184 [.val] (.node 183 [.val] (.node 182 [.val] .leaf .leaf) .leaf) (.node 186
 [.val] (.node 185 [.val] .leaf .leaf) .leaf))) (.node 193 [.val] (.node 190 [.val] (.node 189 [.val] (.node 188 [.val] .leaf .leaf) .leaf) (.node 192 [.val] (.node 191 [.val] .leaf
 .leaf) .leaf)) (.node 196 [.val] (.node 195 [.val] (.node 194 [.val] .leaf .leaf) .leaf) (.node 197 [.val] .leaf .leaf)))))))
def CC:eh:=⟨tab.find,abi mdt,fun t=>false⟩
theorem aj:bq Tryz.prog CC:=Wu abj
end Go.Proofs.YtekefilngojelaaGreat
end
section
namespace Go.Abs
theorem rD.M3 {P:Program} {C:eh} {n0:Nat} {st:St} (hC:bq P C) (eS:P.follows .mixedOrders=true) {c:Code} {Q:bf->St->Prop} (I:Nat->St->Prop) {n:Nat} {s0:St} (hl:st.Le s0) (hb:s0.aM=true) (hk:n0<=s0.heap.length) (h0:I n s0)
  (round:∀n s,I n s->fx P C n0 c s fun e s=>match e with
   | .normal=>∃ρ s',s.Ek n0 ρ s'/\s'.aM=true/\n0<=s'.heap.length/\∃m,m<n/\I m s'
   | .exit id=>Q (.exit id) s
   | .ret=>Q .ret s):rD P n0 c st Q:=by
 refine dH.weaken hl hb hk (dH.loop I (fun n s hI=>dH.Pw ((fx.run hC eS c s _ (round n s hI)).mono fun e s1 h1=>?_)) h0);cases e with
 | normal=>
  obtain⟨ρ,s',h2,h3,h4,m,h5,h6⟩:=h1;exact .inr ⟨ρ,s',h2,h3,h4,m,h5,h6⟩
 | exit id=>exact .inl h1
 | ret=>exact .inl h1
theorem tH {s s':St} {n0 n k:Nat} {I:Nat->St->Prop} (m:List (Nat×Nat)) (h1:aZ (aq m) s.tmps s'.tmps) (h2:a8 (aq m) s.heap 0 s'.heap) (h3:(aF (aq m) 0 s'.heap).Nodup) (h4:∀p∈m,n0<=p.1)
  (h5:s'.aM=true) (h6:n0<=s'.heap.length) (hm:k<n) (hI:I k s'):∃ρ s',s.Ek n0 ρ s'/\s'.aM=true/\n0<=s'.heap.length/\∃m,m<n/\I m s':=⟨_,s',HB m h1 h2 h3 h4,h5,h6,k,hm,hI⟩
section
variable {P:Program} {C:eh} {n0:Nat} {zD:IntKind->Int->Int} {zE zG zH zI zJ:Int->Int->Int} {zK zM zN zO zR zS:IntKind->Int->Int->Int} {zT zU zV zX:Int->Int->Bool} {zY:Bool->Bool} {zZ zg:Bool->Bool->Bool} {zh zj:Int->Int->Int} {zu:Int->Nat} {zy:Int->Nat->Bool} {zz:Nat->Int} {bd:Nat->Int->Nat} {ao:Nat->Nat->Bool} {aJ:Nat->Nat->Nat} {bN:Int->Int->Nat} {bE:Int->Int->Nat->Bool} {aO:Nat->Nat->Nat->Bool} {aR:Int->Int->Nat->Bool} {ab:Rows->Nat} {aD:Rows->Nat->Option (List Tree)} {bz:Rows->Nat->List Tree->Rows} {aL:IntKind->Rows->Nat->Bool} {aw:Rows->Nat->Int} {aP:IntKind->Rows->Nat->Int->Rows} {a9:Nat->Nat->Rows->Bool} {aE:Rows->Nat->Nat->Rows} {bQ bA:Rows->Nat->Rows->Rows} {bO:Nat->List Tree->Rows} {aN:Nat->Rows->Bool} {dc:List Bool->Bool} {de bg:List (Value×Tree)->Value->Bool} {bc:List (Value×Tree)->Value->Tree->List (Value×Tree)} {bX:Rows->Option ByteArray} {aY:List (Value×Tree)->Value->Option (Option Tree)} {zW:IntKind->List Int->Rows} {lK:(α:Type)->(Unit->α)->α} {A:FuncId->Ask->pf->Prop} {L:Code->St->(bf->ST->Prop)->Prop}
theorem S9 (hC:bq P C) (eS:P.follows .mixedOrders=true) (hS:Std P n0 zD zE zG zH zI zJ zK zM zN zO zR zS zT zU zV zX zY zZ zg zh zj zu zy zz bd ao aJ bN bE aO aR ab aD bz aL aw aP a9 aE bQ bA bO aN dc de bg bc bX aY zW lK A L) {c:Code} {st:St} {Q:bf->ST->Prop} (I:Nat->St->Prop) {n:Nat} {s0:St} (hl:st.Le s0) (hb:s0.aM=true) (hk:n0<=s0.heap.length) (h0:I n s0)
  (round:∀n s,I n s->dJ (ZI.mk zD zE zG zH zI zJ zK zM zN zO zR zS zT zU zV zX zY zZ zg zh zj zu zy zz bd ao aJ bN bE aO aR ab aD bz aL aw aP a9 aE bQ bA bO aN dc de bg bc bX aY) C A L c (ST.lI s) fun e s=>match e with
   | .normal=>match s.fI with
    | ⟨t,h⟩=>∃ρ s',(St.mk t h).Ek n0 ρ s'/\s'.aM=true/\n0<=s'.heap.length/\∃m,m<n/\I m s'
   | .exit id=>Q (.exit id) s
   | .ret=>Q .ret s):L c st Q:=by
 rw[hS.z,hS.a,hS.l]at round;rw[hS.l];refine fun hT=>rD.M3 hC eS I hl hb hk h0 fun n s hI=>?_
 have:=fZ c _ (ST.lJ s) hT (round n s hI);rw[ST.ib]at this;refine Rp c s this fun e s1 h1=>?_
 obtain⟨s',ho,rfl,h2⟩:=h1;cases e with
 | normal=>exact h2
 | exit id=>exact⟨s',ho,rfl,h2⟩
 | ret=>exact⟨s',ho,rfl,h2⟩
end
def oB (Z:ZI) (C:eh) (A:FuncId->Ask->pf->Prop) (L:Code->St->(bf->ST->Prop)->Prop) (c:Code) (Q:bf->ST->Prop):Nat->ST->Prop
 | 0,_=>False
 | n+1,st=>dJ Z C A L c st fun e s=>match e with
  | .normal=>oB Z C A L c Q n (ST.lI s.fI)
  | .exit id=>Q (.exit id) s
  | .ret=>Q .ret s
section
variable {P:Program} {C:eh} {n0:Nat} {zD:IntKind->Int->Int} {zE zG zH zI zJ:Int->Int->Int} {zK zM zN zO zR zS:IntKind->Int->Int->Int} {zT zU zV zX:Int->Int->Bool} {zY:Bool->Bool} {zZ zg:Bool->Bool->Bool} {zh zj:Int->Int->Int} {zu:Int->Nat} {zy:Int->Nat->Bool} {zz:Nat->Int} {bd:Nat->Int->Nat} {ao:Nat->Nat->Bool} {aJ:Nat->Nat->Nat} {bN:Int->Int->Nat} {bE:Int->Int->Nat->Bool} {aO:Nat->Nat->Nat->Bool} {aR:Int->Int->Nat->Bool} {ab:Rows->Nat} {aD:Rows->Nat->Option (List Tree)} {bz:Rows->Nat->List Tree->Rows} {aL:IntKind->Rows->Nat->Bool} {aw:Rows->Nat->Int} {aP:IntKind->Rows->Nat->Int->Rows} {a9:Nat->Nat->Rows->Bool} {aE:Rows->Nat->Nat->Rows} {bQ bA:Rows->Nat->Rows->Rows} {bO:Nat->List Tree->Rows} {aN:Nat->Rows->Bool} {dc:List Bool->Bool} {de bg:List (Value×Tree)->Value->Bool} {bc:List (Value×Tree)->Value->Tree->List (Value×Tree)} {bX:Rows->Option ByteArray} {aY:List (Value×Tree)->Value->Option (Option Tree)} {zW:IntKind->List Int->Rows} {lK:(α:Type)->(Unit->α)->α} {A:FuncId->Ask->pf->Prop} {L:Code->St->(bf->ST->Prop)->Prop}
theorem aU (hC:bq P C) (eS:P.follows .mixedOrders=true) (hS:Std P n0 zD zE zG zH zI zJ zK zM zN zO zR zS zT zU zV zX zY zZ zg zh zj zu zy zz bd ao aJ bN bE aO aR ab aD bz aL aw aP a9 aE bQ bA bO aN dc de bg bc bX aY zW lK A L) {c:Code} {st:St} {Q:bf->ST->Prop} (n:Nat)
  (h:oB (ZI.mk zD zE zG zH zI zJ zK zM zN zO zR zS zT zU zV zX zY zZ zg zh zj zu zy zz bd ao aJ bN bE aO aR ab aD bz aL aw aP a9 aE bQ bA bO aN dc de bg bc bX aY) C A L c Q n (ST.lI st)):L c st Q:=by
 rw[hS.z,hS.a,hS.l]at h;rw[hS.l];refine fun hT=>dH.loop (fun n s=>oB ZI.bV C (kH P) (Fv P n0) c Q n (ST.lI s)) (fun n s hI=>?_) h
 cases n with
 | zero=>exact hI.elim
 | succ n=>
  have:=fZ c _ (ST.lJ s) hT hI;rw[ST.ib]at this;refine(fx.run hC eS c s _ this).mono fun e s1 h1=>?_
  obtain⟨s',ho,rfl,h2⟩:=h1;cases e with
  | normal=>exact⟨n,Nat.lt_succ_self n,h2⟩
  | exit id=>exact⟨s',ho,rfl,h2⟩
  | ret=>exact⟨s',ho,rfl,h2⟩
end
def dU (z:Int->Int->Int) (a b:Int):Int:=match a,b with
 | .ofNat n,.ofNat m=>.ofNat (n+m)
 | a,b=>z a b
def mK (z:Int->Int->Int) (a b:Int):Int:=match a,b with
 | .ofNat n,.ofNat m=>(match Nat.ble m n with|true=>.ofNat (n-m)|false=>.negSucc (m-n-1))
 | a,b=>z a b
def aA (z:IntKind->Int->Int) (k:IntKind) (a:Int):Int:=match k,a with
 | .i64,.ofNat n=>(match Nat.blt n 1000000 with|true=>.ofNat n|false=>z .i64 (.ofNat n))
 | .i64,.negSucc n=>(match Nat.blt n 1000000 with|true=>.negSucc n|false=>z .i64 (.negSucc n))
 | .u64,.ofNat n=>(match Nat.blt n 1000000 with|true=>.ofNat n|false=>z .u64 (.ofNat n))
 | .u8,.ofNat n=>(match Nat.blt n 256 with|true=>.ofNat n|false=>z .u8 (.ofNat n))
 | k,a=>z k a
def ny (z:Int->Int->Int) (a b:Int):Int:=match a,b with
 | .ofNat n,.ofNat m=>.ofNat (n*m)
 | a,b=>z a b
def mD (z:Int->Int->Bool) (a b:Int):Bool:=match a,b with
 | .ofNat n,.ofNat m=>Nat.blt n m
 | .negSucc n,.ofNat m=>true
 | a,b=>z a b
def sT (z:Int->Int->Bool) (a b:Int):Bool:=match a,b with
 | .ofNat n,.ofNat m=>Nat.ble n m
 | .negSucc n,.ofNat m=>true
 | a,b=>z a b
def fo (z:Int->Int->Bool) (a b:Int):Bool:=match a,b with
 | .ofNat n,.ofNat m=>Nat.beq n m
 | .negSucc n,.ofNat m=>false
 | a,b=>z a b
def Jm (z:Int->Int->Bool) (a b:Int):Bool:=match a,b with
 | .ofNat n,.ofNat m=>!(Nat.beq n m)
 | .negSucc n,.ofNat m=>true
 | a,b=>z a b
def rE (z:Int->Nat) (a:Int):Nat:=match a with
 | .ofNat n=>n
 | a=>z a
def rF (z:Int->Nat->Bool) (a:Int) (b:Nat):Bool:=match a,b with
 | .ofNat n,m+1=>Nat.ble n m
 | a,b=>z a b
def rG (z:Nat->Int->Nat) (a:Nat) (b:Int):Nat:=match b with
 | .ofNat n=>a+n
 | b=>z a b
def rH (z:Bool->Bool) (a:Bool):Bool:=match a with
 | true=>false
 | false=>true
section
variable {P:Program} {C:eh} {n0:Nat} {zD:IntKind->Int->Int} {zE zG zH zI zJ:Int->Int->Int} {zK zM zN zO zR zS:IntKind->Int->Int->Int} {zT zU zV zX:Int->Int->Bool} {zY:Bool->Bool} {zZ zg:Bool->Bool->Bool} {zh zj:Int->Int->Int} {zu:Int->Nat} {zy:Int->Nat->Bool} {zz:Nat->Int} {bd:Nat->Int->Nat} {ao:Nat->Nat->Bool} {aJ:Nat->Nat->Nat} {bN:Int->Int->Nat} {bE:Int->Int->Nat->Bool} {aO:Nat->Nat->Nat->Bool} {aR:Int->Int->Nat->Bool} {ab:Rows->Nat} {aD:Rows->Nat->Option (List Tree)} {bz:Rows->Nat->List Tree->Rows} {aL:IntKind->Rows->Nat->Bool} {aw:Rows->Nat->Int} {aP:IntKind->Rows->Nat->Int->Rows} {a9:Nat->Nat->Rows->Bool} {aE:Rows->Nat->Nat->Rows} {bQ bA:Rows->Nat->Rows->Rows} {bO:Nat->List Tree->Rows} {aN:Nat->Rows->Bool} {dc:List Bool->Bool} {de bg:List (Value×Tree)->Value->Bool} {bc:List (Value×Tree)->Value->Tree->List (Value×Tree)} {bX:Rows->Option ByteArray} {aY:List (Value×Tree)->Value->Option (Option Tree)} {zW:IntKind->List Int->Rows} {lK:(α:Type)->(Unit->α)->α} {A:FuncId->Ask->pf->Prop} {L:Code->St->(bf->ST->Prop)->Prop}
theorem Std.lit (h:Std P n0 zD zE zG zH zI zJ zK zM zN zO zR zS zT zU zV zX zY zZ zg zh zj zu zy zz bd ao aJ bN bE aO aR ab aD bz aL aw aP a9 aE bQ bA bO aN dc de bg bc bX aY zW lK A L):∃zo zm za zs zw zl zk ze zn zt zi zx,zY=rH zo/\zH=ny zm/\zE=dU za/\zG=mK zs/\zD=aA zw/\zV=mD zl/\zX=sT zk/\zT=fo ze/\zU=Jm zn/\zu=rE zt/\zy=rF zi/\bd=rG zx:=by
 refine⟨zY,zH,zE,zG,zD,zV,zX,zT,zU,zu,zy,bd,?_,?_,?_,?_,?_,?_,?_,?_,?_,?_,?_,?_⟩
 ·funext a
  unfold rH;split<;>rw[h.not]<;>rfl
 ·funext a b
  unfold ny;split
  ·rw[h.mul];rfl
  ·rfl
 ·funext a b
  unfold dU;split
  ·rw[h.add];rfl
  ·rfl
 ·funext a b
  unfold mK;split
  ·rename_i n m
   rw[h.sub];split
   ·rename_i e
    have e:m<=n:=by simpa using e
    show(n:Int)-m=((n-m:Nat):Int)
    omega
   ·rename_i e
    have e:¬m<=n:=fun hh=>by rw[Nat.ble_eq_true_of_le hh]at e;cases e
    show(n:Int)-m=Int.negSucc (m-n-1)
    omega
  ·rfl
 ·funext k a
  unfold aA;split
  ·rename_i n
   split
   ·rename_i hn
    have:n<1000000:=Nat.le_of_ble_eq_true hn;rw[h.wrap];exact wrap_i64 (by show -9223372036854775808<=(n:Int);omega) (by show(n:Int)<9223372036854775808;omega)
   ·rfl
  ·rename_i n
   split
   ·rename_i hn
    have:n<1000000:=Nat.le_of_ble_eq_true hn;rw[h.wrap];exact wrap_i64 (by omega) (by omega)
   ·rfl
  ·rename_i n
   split
   ·rename_i hn
    have:n<1000000:=Nat.le_of_ble_eq_true hn;rw[h.wrap];exact eG (by show 0<=(n:Int);omega) (by show(n:Int)<2^64;omega)
   ·rfl
  ·rename_i n
   split
   ·rename_i hn
    have:n<256:=Nat.le_of_ble_eq_true hn;rw[h.wrap];exact wrap_u8 (by show 0<=(n:Int);omega) (by show(n:Int)<256;omega)
   ·rfl
  ·rfl
 ·funext a b
  unfold mD;split
  ·rename_i n m
   rw[h.lt];show decide ((n:Int)<(m:Int))=Nat.blt n m
   rw[Bool.eq_iff_iff];simp
  ·rename_i n m
   rw[h.lt];exact decide_eq_true (show Int.negSucc n<(m:Int) by omega)
  ·rfl
 ·funext a b
  unfold sT;split
  ·rename_i n m
   rw[h.le];show decide ((n:Int)<=(m:Int))=Nat.ble n m
   rw[Bool.eq_iff_iff];simp
  ·rename_i n m
   rw[h.le];exact decide_eq_true (show Int.negSucc n<=(m:Int) by omega)
  ·rfl
 ·funext a b
  unfold fo;split
  ·rename_i n m
   rw[h.eq];show decide ((n:Int)=(m:Int))=Nat.beq n m
   rw[Bool.eq_iff_iff];simp;omega
  ·rename_i n m
   rw[h.eq];exact decide_eq_false (show ¬Int.negSucc n=(m:Int) by omega)
  ·rfl
 ·funext a b
  unfold Jm;split
  ·rename_i n m
   rw[h.ne];show decide (¬(n:Int)=(m:Int))=!(Nat.beq n m)
   by_cases e:n=m
   ·subst e;simp
   ·rw[decide_eq_true (show ¬(n:Int)=m by omega),show Nat.beq n m=false from by rw[Bool.eq_false_iff];simpa using e];rfl
  ·rename_i n m
   rw[h.ne];exact decide_eq_true (show ¬Int.negSucc n=(m:Int) by omega)
  ·rfl
 ·funext a
  unfold rE;split
  ·rw[h.nat];rfl
  ·rfl
 ·funext a b
  unfold rF;split
  ·rename_i n m
   rw[h.yF];show decide (0<=(n:Int)/\(n:Int)<((m+1:Nat):Int))=Nat.ble n m
   exact Bool.eq_iff_iff.2 ⟨fun e=>Nat.ble_eq_true_of_le (by have:=of_decide_eq_true e;omega),fun e=>decide_eq_true (by have:=Nat.le_of_ble_eq_true e;omega)⟩
  ·rfl
 ·funext a b
  unfold rG;split
  ·rw[h.idx];rfl
  ·rfl
end
open Go
section
variable {P:Program} {C:eh}
def KB (C:eh) (st:ST) (LU:List ResultVar) (G:List AV->bM->Prop):Prop:=
 match LU.mapM (qe C st) with
 | none=>False
 | some bI=>G bI st.heap
theorem tI (hC:bq P C) (eS:P.follows .mixedOrders=true) {f:FuncId} {fn:Func} {c:Code} {s s':St} (jm:P.funcs[f]?=some fn) (fb:(fn.name == "runtime.NumGoroutine")=false) (dB:fn.body=some c) (hT:iY c=true) (hr:s'.aM=true) (hl:s.heap.length<=s'.heap.length)
  (h:∀(zD:IntKind->Int->Int) (zE zG zH zI zJ:Int->Int->Int) (zK zM zN zO zR zS:IntKind->Int->Int->Int) (zT zU zV zX:Int->Int->Bool) (zY:Bool->Bool) (zZ zg:Bool->Bool->Bool) (zh zj:Int->Int->Int) (zu:Int->Nat) (zy:Int->Nat->Bool) (zz:Nat->Int) (bd:Nat->Int->Nat) (ao:Nat->Nat->Bool) (aJ:Nat->Nat->Nat) (bN:Int->Int->Nat) (bE:Int->Int->Nat->Bool) (aO:Nat->Nat->Nat->Bool) (aR:Int->Int->Nat->Bool) (ab:Rows->Nat) (aD:Rows->Nat->Option (List Tree)) (bz:Rows->Nat->List Tree->Rows) (aL:IntKind->Rows->Nat->Bool) (aw:Rows->Nat->Int) (aP:IntKind->Rows->Nat->Int->Rows) (a9:Nat->Nat->Rows->Bool) (aE:Rows->Nat->Nat->Rows) (bQ bA:Rows->Nat->Rows->Rows) (bO:Nat->List Tree->Rows) (aN:Nat->Rows->Bool) (dc:List Bool->Bool) (de bg:List (Value×Tree)->Value->Bool) (bc:List (Value×Tree)->Value->Tree->List (Value×Tree)) (bX:Rows->Option ByteArray) (aY:List (Value×Tree)->Value->Option (Option Tree)) (zW:IntKind->List Int->Rows) (lK:(α:Type)->(Unit->α)->α) A L (G:List AV->bM->Prop),Std P s.heap.length zD zE zG zH zI zJ zK zM zN zO zR zS zT zU zV zX zY zZ zg zh zj zu zy zz bd ao aJ bN bE aO aR ab aD bz aL aw aP a9 aE bQ bA bO aN dc de bg bc bX aY zW lK A L->(∀bI hp ρ,(St.mk bI hp).Ek s.heap.length ρ s'->G bI hp)->dJ (ZI.mk zD zE zG zH zI zJ zK zM zN zO zR zS zT zU zV zX zY zZ zg zh zj zu zy zz bd ao aJ bN bE aO aR ab aD bz aL aw aP a9 aE bQ bA bO aN dc de bg bc bX aY) C A L c (ST.lI ⟨s.tmps++List.replicate (fn.ntmps-s.tmps.length) .af,s.heap⟩) fun e st=>match e with
   | .exit _=>False
   | .normal=>KB C st fn.results.toList G
   | .ret=>KB C st fn.results.toList G):eY P f s s':=by
 have key:=h (fun(a:IntKind) (b:Int)=>a.wrap b) (fun(a:Int) (b:Int)=>a+b) (fun(a:Int) (b:Int)=>a-b) (fun(a:Int) (b:Int)=>a*b) (fun(a:Int) (b:Int)=>a.tdiv b) (fun(a:Int) (b:Int)=>a.tmod b) (fun(a:IntKind) (b:Int) (c:Int)=>a.wrap (b*2^(Min.min c.toNat a.bits))) (fun(a:IntKind) (b:Int) (c:Int)=>b.fdiv (2^(Min.min c.toNat a.bits))) (fun(a:IntKind) (b:Int) (c:Int)=>a.wrap ((BitVec.ofInt a.bits b &&& BitVec.ofInt a.bits c).toNat)) (fun(a:IntKind) (b:Int) (c:Int)=>a.wrap ((BitVec.ofInt a.bits b ||| BitVec.ofInt a.bits c).toNat)) (fun(a:IntKind) (b:Int) (c:Int)=>a.wrap ((BitVec.ofInt a.bits b ^^^ BitVec.ofInt a.bits c).toNat)) (fun(a:IntKind) (b:Int) (c:Int)=>a.wrap ((BitVec.ofInt a.bits b &&& ~~~ BitVec.ofInt a.bits c).toNat)) (fun(a:Int) (b:Int)=>decide (a=b)) (fun(a:Int) (b:Int)=>decide (a≠b)) (fun(a:Int) (b:Int)=>decide (a<b)) (fun(a:Int) (b:Int)=>decide (a<=b)) (fun(a:Bool)=>!a) (fun(a:Bool) (b:Bool)=>(a==b)) (fun(a:Bool) (b:Bool)=>!(a==b)) (fun(a:Int) (b:Int)=>if b>a then b else a) (fun(a:Int) (b:Int)=>if b<a then b else a) (fun(a:Int)=>a.toNat) (fun(a:Int) (b:Nat)=>decide (0<=a/\a<b)) (fun(a:Nat)=>(a:Int)) (fun(a:Nat) (b:Int)=>a+b.toNat) (fun(a:Nat) (b:Nat)=>decide (a=b)) (fun(a:Nat) (b:Nat)=>a+b) (fun(a:Int) (b:Int)=>a.toNat-b.toNat) (fun(a:Int) (b:Int) (c:Nat)=>decide (0<=a/\a<=b/\b<=c)) (fun(a:Nat) (b:Nat) (c:Nat)=>decide ((a+b)*c<=az)) (fun(a:Int) (b:Int) (c:Nat)=>decide (0<=a/\a<=b/\b*c<=az)) (fun(a:Rows)=>a.length) (fun(a:Rows) (b:Nat)=>a[b]?) (fun(a:Rows) (b:Nat) (c:List Tree)=>a.set b c) (fun(a:IntKind) (b:Rows) (c:Nat)=>ZI.bV.gE a b c) (fun(a:Rows) (b:Nat)=>ZI.bV.dF a b) (fun(a:IntKind) (b:Rows) (c:Nat) (d:Int)=>b.set c [.v (.int a d)]) (fun(a:Nat) (b:Nat) (c:Rows)=>decide (a+b<=c.length)) (fun(a:Rows) (b:Nat) (c:Nat)=>(a.drop b).take c) (fun(a:Rows) (b:Nat) (c:Rows)=>a.drop b++c) (fun(a:Rows) (b:Nat) (c:Rows)=>aX a b c) (fun(a:Nat) (b:List Tree)=>List.replicate a b) (fun(a:Nat) (b:Rows)=>b.all fun r=>r.length==a) (fun(a:List Bool)=>a.all id) (fun(a:List (Value×Tree)) (b:Value)=>ZI.bV.Py a b) (fun(a:List (Value×Tree)) (b:Value)=>ZI.bV.Fm a b) (fun(a:List (Value×Tree)) (b:Value) (c:Tree)=>(fV b c a).getD a) (fun(a:Rows)=>ZI.bV.str a) (fun(a:List (Value×Tree)) (b:Value)=>cX b a) W (fun(α:Type) (f:Unit->α)=>f ()) (kH P) (Fv P s.heap.length) (fun bI hp=>∃ρ,(St.mk bI hp).Ek s.heap.length ρ s') ⟨fun _ _=>rfl,fun _ _=>rfl,fun _ _=>rfl,fun _ _=>rfl,fun _ _=>rfl,fun _ _=>rfl,fun _ _ _=>rfl,fun _ _ _=>rfl,fun _ _ _=>rfl,fun _ _ _=>rfl,fun _ _ _=>rfl,fun _ _ _=>rfl,fun _ _=>rfl,fun _ _=>rfl,fun _ _=>rfl,fun _ _=>rfl,fun _=>rfl,fun _ _=>rfl,fun _ _=>rfl,fun _ _=>rfl,fun _ _=>rfl,fun _=>rfl,fun _ _=>rfl,fun _=>rfl,fun _ _=>rfl,fun _ _=>rfl,fun _ _=>rfl,fun _ _=>rfl,fun _ _ _=>rfl,fun _ _ _=>rfl,fun _ _ _=>rfl,fun _=>rfl,fun _ _=>rfl,fun _ _ _=>rfl,fun _ _ _=>rfl,fun _ _=>rfl,fun _ _ _ _=>rfl,fun _ _ _=>rfl,fun _ _ _=>rfl,fun _ _ _=>rfl,fun _ _ _=>rfl,fun _ _=>rfl,fun _ _=>rfl,fun _=>rfl,fun _ _=>rfl,fun _ _=>rfl,fun _ _ _=>rfl,fun _=>rfl,fun _ _=>rfl,rfl,fun _ _=>rfl,rfl,rfl⟩ (fun bI hp ρ h=>⟨ρ,h⟩)
 have k0:=fZ c _ (ST.lJ _) hT key;rw[ST.ib]at k0;have S8:=Rp c _ k0 (Q':=fun e s2=>(e=.normal∨e=.ret)/\∃bI ρ,fn.results.toList.mapM (gn C s2)=some bI/\(St.mk bI s2.heap).Ek s.heap.length ρ s'/\s'.aM=true/\s.heap.length<=s'.heap.length) fun e s2 hs=>by
  obtain⟨st,h1,rfl,hs⟩:=hs;have fin:KB C st fn.results.toList (fun bI hp=>∃ρ,(St.mk bI hp).Ek s.heap.length ρ s')->∃bI ρ,fn.results.toList.mapM (gn C st.fI)=some bI/\(St.mk bI st.fI.heap).Ek s.heap.length ρ s'/\s'.aM=true/\s.heap.length<=s'.heap.length:=fun hf=>by
   unfold KB at hf;rw[show qe C st=gn C st.fI from funext fun r=>xl h1 r]at hf;split at hf
   ·exact hf.elim
   ·rename_i bI Hy
    obtain⟨ρ,hρ⟩:=hf;exact⟨bI,ρ,Hy,by rw[ST.oz];exact hρ,hr,hl⟩
  cases e with
  | normal=>exact⟨.inl rfl,fin hs⟩
  | exit id=>exact hs.elim
  | ret=>exact⟨.inr rfl,fin hs⟩
 exact eY.rk hC jm fb dB (fx.run hC eS c _ _ S8)
def M4 (heap:bM):AV->Option (AV×bM)
 | .c (.sl b off len cp)=>match look heap b with
  | some (.var cells)=>Px heap (.c (.sl b off len cp))
  | _=>match toTree (look heap) (.sl b off len cp) with
   | some (t,m)=>some (.c (.t t),eK heap m)
   | none=>none
 | x=>some (x,heap)
def Fz:bM->List AV->Option (List AV×bM)
 | h,[]=>some ([],h)
 | h,x::xs=>match M4 h x with
  | some (y,h1)=>match Fz h1 xs with
   | some (ys,h2)=>some (y::ys,h2)
   | none=>none
  | none=>none
theorem KC {K:Ctx} {β:Nat->Option bR} {S:Place} {a:Act} {w:World} {tm:List AV} {heap eP:bM} (h:Sat K β S ⟨tm,heap⟩ a w) {x x':AV} {v:Value} (hx:aH β S w x v) (hf:M4 heap x=some (x',eP)) :
  ∃S',(∀c o,S c o->S' c o)/\Sat K β S' ⟨tm,eP⟩ a w/\aH β S' w x' v:=by
 unfold M4 at hf;split at hf
 ·split at hf
  ·exact E9 h hx hf
  ·split at hf
   ·rename_i t m ht
    cases hf;cases hx with|c hx=>
    obtain⟨S',e1,e2,e3,e4⟩:=pL (st:=⟨tm,heap⟩) h (eF.refl _) hx ht;exact⟨S',e1,e2,.c (.t e4)⟩
   ·cases hf
 ·cases hf;exact⟨S,fun _ _ hs=>hs,h,hx⟩
theorem AU {K:Ctx} {β:Nat->Option bR} {a:Act} {w:World} {tm:List AV}:∀(bI:List AV) (vs:List Value) (heap eP:bM) (S:Place) (pZ:List AV),Sat K β S ⟨tm,heap⟩ a w->vs.length=bI.length->(∀(i:Nat) (x:AV),bI[i]?=some x->∃v,vs[i]?=some v/\aH β S w x v)->Fz heap bI=some (pZ,eP) ->
  ∃S',(∀c o,S c o->S' c o)/\Sat K β S' ⟨tm,eP⟩ a w/\vs.length=pZ.length/\∀(i:Nat) (x:AV),pZ[i]?=some x->∃v,vs[i]?=some v/\aH β S' w x v
 | [],vs,heap,eP,S,pZ,h,hl,hr,hf=>by
  simp[Fz]at hf;obtain⟨rfl,rfl⟩:=hf;exact⟨S,fun _ _ hs=>hs,h,hl,by simp⟩
 | x::xs,[],_,_,_,_,_,hl,_,_=>by simp at hl
 | x::xs,v::vs,heap,eP,S,pZ,h,hl,hr,hf=>by
  unfold Fz at hf;split at hf
  ·rename_i y h1 hy
   split at hf
   ·rename_i ys h2 hys
    cases hf;obtain⟨v',sQ,hx⟩:=hr 0 x rfl;simp at sQ;subst sQ;obtain⟨S1,e1,e2,e3⟩:=KC h hx hy;obtain⟨S2,f1,f2,f3,f4⟩:=AU xs vs h1 eP S1 ys e2 (by simpa using hl) (fun i z hz=>by
     obtain⟨u,q1,q2⟩:=hr (i+1) z (by simpa using hz);exact⟨u,by simpa using q1,q2.mono (fun _ _ hx=>hx) e1 fun _ _ _=>rfl⟩) hys
    refine⟨S2,fun c o hs=>f1 _ _ (e1 _ _ hs),f2,by simp[f3],fun i z hz=>?_⟩;cases i with
    | zero=>simp at hz;subst hz;exact⟨v,rfl,e3.mono (fun _ _ hx=>hx) f1 fun _ _ _=>rfl⟩
    | succ i=>simpa using f4 i z (by simpa using hz)
   ·cases hf
  ·cases hf
theorem eY.wZ {f:FuncId} (hC:bq P C) {fn:Func} {c:Code} {s s':St} (jm:P.funcs[f]?=some fn) (fb:(fn.name == "runtime.NumGoroutine")=false) (dB:fn.body=some c)
  (cZ:dH P s.heap.length c ⟨s.tmps++List.replicate (fn.ntmps-s.tmps.length) .af,s.heap⟩ fun e s2=>(e=.normal∨e=.ret)/\∃PF bI heap ρ,fn.results.toList.mapM (gn C s2)=some PF/\Fz s2.heap PF=some (bI,heap)/\(St.mk bI heap).Ek s.heap.length ρ s'/\s'.aM=true/\s.heap.length<=s'.heap.length):eY P f s s':=by
 refine⟨⟨fn,jm,by rw[dB];rfl,fb⟩,fun K β S a w hK hs=>?_⟩;refine calls_of_wp jm dB ?_;refine wp_mono (cZ K hK β S _ w ?_) fun e a' w' ⟨x,s2,hx,⟨SX,PF,bI,heap,ρ,eI,GW,hle,S3,hlen⟩,β',S1,AM⟩=>?_
 ·refine⟨by simp[hs.len],rfl,fun t x ht=>?_,hs.top,hs.au,hs.mz,hs.sN,hs.sin,hs.sub,hs.jF,hs.arg⟩
  simp only at ht;rw[List.getElem?_append]at ht;split at ht
  ·rename_i bG
   have:=hs.tmps t x ht;rw[Array.getD_eq_getD_getElem?]at this ⊢;rw[Array.getElem?_append,if_pos (by rw[hs.len];exact bG)];exact this
  ·rw[List.getElem?_replicate]at ht
   split at ht
   ·cases ht;exact .af _
   ·cases ht
 ·obtain⟨vs,r1,r2',r3'⟩:=jO (P:=P) hC AM eI
  obtain⟨S2,q1,FA,r2,r3⟩:=AU (tm:=s2.tmps) PF vs s2.heap heap S1 bI AM r2' r3' GW;have hs3:Sat K β' S2 ⟨bI,heap⟩ { a with tmps:=vs.toArray } w':=by
   refine⟨by simp[r2],hs.defers,fun t x ht=>?_,FA.top,FA.au,FA.mz,FA.sN,FA.sin,FA.sub,FA.jF,FA.arg⟩;obtain⟨v,e1,e2⟩:=r3 t x ht;have:({ a with tmps:=vs.toArray }:Act).tmps.getD t undef=v:=by simp[e1]
   rw[this];exact e2
  have hs4:=hs3.ay hle S3 hK hlen;have eL:∃v,(results fn a'.tmps).run P w'=.ok v w'/\∃(us:List Value) (β':Nat->Option bR) (S':Place),Ending.returned v=.returned (if us.length=1 then us.getD 0 undef else .tuple us.toArray)/\us.length=s'.tmps.length/\Sat K β' S' s' { a with tmps:=us.toArray } w':=
   ⟨_,r1,vs,_,S2,rfl,by rw[r2,hle.len],hs4⟩
  cases e with
  | normal=>exact⟨AM.defers,eL⟩
  | ret=>exact⟨AM.defers,eL⟩
  | exit id=>cases hx;rcases SX with h|h<;>cases h
  | goto=>cases hx
  | panic=>cases hx
  | outgrown=>cases hx
theorem xo {n0:Nat} {s':St} {G:List AV->bM->Prop} (hG:∀bI hp ρ,(St.mk bI hp).Ek n0 ρ s'->G bI hp) {bI:List AV} {hp:bM} (m:List (Nat×Nat)) (h1:aZ (aq m) bI s'.tmps) (h2:a8 (aq m) hp 0 s'.heap) (h3:(aF (aq m) 0 s'.heap).Nodup) (h4:∀p∈m,n0<=p.1):G bI hp:=
 hG _ _ _ (HB m h1 h2 h3 h4)
end
section
variable {P:Program} {C:eh}
theorem dC (hC:bq P C) (eS:P.follows .mixedOrders=true) {f:FuncId} {fn:Func} {c:Code} {args:List Arg} {res:mB} (om:List Mode) (jm:P.funcs[f]?=some fn) (fb:(fn.name == "runtime.NumGoroutine")=false) (dB:fn.body=some c) (hT:iY c=true)
  (h:∀(zD:IntKind->Int->Int) (zE zG zH zI zJ:Int->Int->Int) (zK zM zN zO zR zS:IntKind->Int->Int->Int) (zT zU zV zX:Int->Int->Bool) (zY:Bool->Bool) (zZ zg:Bool->Bool->Bool) (zh zj:Int->Int->Int) (zu:Int->Nat) (zy:Int->Nat->Bool) (zz:Nat->Int) (bd:Nat->Int->Nat) (ao:Nat->Nat->Bool) (aJ:Nat->Nat->Nat) (bN:Int->Int->Nat) (bE:Int->Int->Nat->Bool) (aO:Nat->Nat->Nat->Bool) (aR:Int->Int->Nat->Bool) (ab:Rows->Nat) (aD:Rows->Nat->Option (List Tree)) (bz:Rows->Nat->List Tree->Rows) (aL:IntKind->Rows->Nat->Bool) (aw:Rows->Nat->Int) (aP:IntKind->Rows->Nat->Int->Rows) (a9:Nat->Nat->Rows->Bool) (aE:Rows->Nat->Nat->Rows) (bQ bA:Rows->Nat->Rows->Rows) (bO:Nat->List Tree->Rows) (aN:Nat->Rows->Bool) (dc:List Bool->Bool) (de bg:List (Value×Tree)->Value->Bool) (bc:List (Value×Tree)->Value->Tree->List (Value×Tree)) (bX:Rows->Option ByteArray) (aY:List (Value×Tree)->Value->Option (Option Tree)) (zW:IntKind->List Int->Rows) (lK:(α:Type)->(Unit->α)->α) A L (F:mB->Prop),Std P args.length (aA zD) (dU zE) (mK zG) (ny zH) zI zJ zK zM zN zO zR zS (fo zT) (Jm zU) (mD zV) (sT zX) (rH zY) zZ zg zh zj (rE zu) (rF zy) zz (rG bd) ao aJ bN bE aO aR ab aD bz aL aw aP a9 aE bQ bA bO aN dc de bg bc bX aY zW lK A L->(∀r,ak r res->F r)->dJ (ZI.mk (aA zD) (dU zE) (mK zG) (ny zH) zI zJ zK zM zN zO zR zS (fo zT) (Jm zU) (mD zV) (sT zX) (rH zY) zZ zg zh zj (rE zu) (rF zy) zz (rG bd) ao aJ bN bE aO aR ab aD bz aL aw aP a9 aE bQ bA bO aN dc de bg bc bX aY) C A L c (ST.lI (kL (ZI.mk (aA zD) (dU zE) (mK zG) (ny zH) zI zJ zK zM zN zO zR zS (fo zT) (Jm zU) (mD zV) (sT zX) (rH zY) zZ zg zh zj (rE zu) (rF zy) zz (rG bd) ao aJ bN bE aO aR ab aD bz aL aw aP a9 aE bQ bA bO aN dc de bg bc bX aY) args fn.ntmps)) fun e s=>match e with
   | .exit _=>False
   | .normal=>yK (ZI.mk (aA zD) (dU zE) (mK zG) (ny zH) zI zJ zK zM zN zO zR zS (fo zT) (Jm zU) (mD zV) (sT zX) (rH zY) zZ zg zh zj (rE zu) (rF zy) zz (rG bd) ao aJ bN bE aO aR ab aD bz aL aw aP a9 aE bQ bA bO aN dc de bg bc bX aY) C s args fn.results.toList om F
   | .ret=>yK (ZI.mk (aA zD) (dU zE) (mK zG) (ny zH) zI zJ zK zM zN zO zR zS (fo zT) (Jm zU) (mD zV) (sT zX) (rH zY) zZ zg zh zj (rE zu) (rF zy) zz (rG bd) ao aJ bN bE aO aR ab aD bz aL aw aP a9 aE bQ bA bO aN dc de bg bc bX aY) C s args fn.results.toList om F):ah P f args res:=by
 refine ar hC eS om jm fb dB hT fun zD zE zG zH zI zJ zK zM zN zO zR zS zT zU zV zX zY zZ zg zh zj zu zy zz bd ao aJ bN bE aO aR ab aD bz aL aw aP a9 aE bQ bA bO aN dc de bg bc bX aY zW lK A L F hS hF=>?_
 obtain⟨zo,zm,za,zs,zw,zl,zk,ze,zn,zt,zi,zx,rfl,rfl,rfl,rfl,rfl,rfl,rfl,rfl,rfl,rfl,rfl,rfl⟩:=hS.lit;exact h _ _ _ _ _ _ _ _ _ _ _ _ _ _ _ _ _ _ _ _ _ _ _ _ _ _ _ _ _ _ _ _ _ _ _ _ _ _ _ _ _ _ _ _ _ _ _ _ _ _ _ _ _ _ hS hF
theorem tJ (hC:bq P C) (eS:P.follows .mixedOrders=true) {f:FuncId} {fn:Func} {c:Code} {s s':St} (jm:P.funcs[f]?=some fn) (fb:(fn.name == "runtime.NumGoroutine")=false) (dB:fn.body=some c) (hT:iY c=true) (hr:s'.aM=true) (hl:s.heap.length<=s'.heap.length)
  (h:∀(zD:IntKind->Int->Int) (zE zG zH zI zJ:Int->Int->Int) (zK zM zN zO zR zS:IntKind->Int->Int->Int) (zT zU zV zX:Int->Int->Bool) (zY:Bool->Bool) (zZ zg:Bool->Bool->Bool) (zh zj:Int->Int->Int) (zu:Int->Nat) (zy:Int->Nat->Bool) (zz:Nat->Int) (bd:Nat->Int->Nat) (ao:Nat->Nat->Bool) (aJ:Nat->Nat->Nat) (bN:Int->Int->Nat) (bE:Int->Int->Nat->Bool) (aO:Nat->Nat->Nat->Bool) (aR:Int->Int->Nat->Bool) (ab:Rows->Nat) (aD:Rows->Nat->Option (List Tree)) (bz:Rows->Nat->List Tree->Rows) (aL:IntKind->Rows->Nat->Bool) (aw:Rows->Nat->Int) (aP:IntKind->Rows->Nat->Int->Rows) (a9:Nat->Nat->Rows->Bool) (aE:Rows->Nat->Nat->Rows) (bQ bA:Rows->Nat->Rows->Rows) (bO:Nat->List Tree->Rows) (aN:Nat->Rows->Bool) (dc:List Bool->Bool) (de bg:List (Value×Tree)->Value->Bool) (bc:List (Value×Tree)->Value->Tree->List (Value×Tree)) (bX:Rows->Option ByteArray) (aY:List (Value×Tree)->Value->Option (Option Tree)) (zW:IntKind->List Int->Rows) (lK:(α:Type)->(Unit->α)->α) A L (G:List AV->bM->Prop),Std P s.heap.length (aA zD) (dU zE) (mK zG) (ny zH) zI zJ zK zM zN zO zR zS (fo zT) (Jm zU) (mD zV) (sT zX) (rH zY) zZ zg zh zj (rE zu) (rF zy) zz (rG bd) ao aJ bN bE aO aR ab aD bz aL aw aP a9 aE bQ bA bO aN dc de bg bc bX aY zW lK A L->(∀bI hp ρ,(St.mk bI hp).Ek s.heap.length ρ s'->G bI hp)->dJ (ZI.mk (aA zD) (dU zE) (mK zG) (ny zH) zI zJ zK zM zN zO zR zS (fo zT) (Jm zU) (mD zV) (sT zX) (rH zY) zZ zg zh zj (rE zu) (rF zy) zz (rG bd) ao aJ bN bE aO aR ab aD bz aL aw aP a9 aE bQ bA bO aN dc de bg bc bX aY) C A L c (ST.lI ⟨s.tmps++List.replicate (fn.ntmps-s.tmps.length) .af,s.heap⟩) fun e st=>match e with
   | .exit _=>False
   | .normal=>KB C st fn.results.toList G
   | .ret=>KB C st fn.results.toList G):eY P f s s':=by
 refine tI hC eS jm fb dB hT hr hl fun zD zE zG zH zI zJ zK zM zN zO zR zS zT zU zV zX zY zZ zg zh zj zu zy zz bd ao aJ bN bE aO aR ab aD bz aL aw aP a9 aE bQ bA bO aN dc de bg bc bX aY zW lK A L G hS hG=>?_
 obtain⟨zo,zm,za,zs,zw,zl,zk,ze,zn,zt,zi,zx,rfl,rfl,rfl,rfl,rfl,rfl,rfl,rfl,rfl,rfl,rfl,rfl⟩:=hS.lit;exact h _ _ _ _ _ _ _ _ _ _ _ _ _ _ _ _ _ _ _ _ _ _ _ _ _ _ _ _ _ _ _ _ _ _ _ _ _ _ _ _ _ _ _ _ _ _ _ _ _ _ _ _ _ _ hS hG
end
end Go.Abs
end
section
namespace Go.Proofs.YtekefilngojelaaGreat
open Go Go.Abs Go.Proofs
def m2 (a b:Int):List Tree:=[.v (.int .i64 a),.v (.int .i64 b),.v (.int .i64 0),.v (.int .i64 0),.v (.int .i64 0),.v (.int .i64 0),.v (.int .i64 0),.v (.int .i64 0)]
theorem KD (a b:Int) (h0:0<=a/\a<=65535) (h1:0<=b/\b<=65535):ah Tryz.prog 100 [.val (.agg (m2 a b))] ⟨[.val (ti .i64 (a+b))],[none]⟩:=by
 unfold m2;refine dC aj mixed [.val] Tryz.func100 rfl rfl (by kernel_rfl) fun zD zE _ _ _ _ _ _ _ _ _ _ _ _ _ _ _ _ _ _ _ _ _ _ _ _ _ _ _ _ _ _ _ _ _ _ _ _ _ _ _ _ _ _ _ _ _ _ _ _ _ A L F hS hF=>?_
 have e1:aA zD .i64 (dU zE 0 a)=a:=by rw[hS.add,hS.wrap,wrap_i64 (by omega) (by omega)];omega
 have e2:aA zD .i64 (dU zE a b)=a+b:=by rw[hS.add,hS.wrap,wrap_i64 (by omega) (by omega)]
 have e3:aA zD .i64 (dU zE (a+b) 0)=a+b:=by rw[hS.add,hS.wrap,wrap_i64 (by omega) (by omega)];omega
 cbv;refine aU aj mixed hS (9) ?_;cbv;repeat (first|apply bT rfl|apply bF rfl|apply nd rfl)
 refine bn hF (kl (a:=aA zD .i64 (dU zE (aA zD .i64 (dU zE (aA zD .i64 (dU zE (aA zD .i64 (dU zE (aA zD .i64 (dU zE (aA zD .i64 (dU zE (aA zD .i64 (dU zE (aA zD .i64 (dU zE 0 a)) b)) 0)) 0)) 0)) 0)) 0)) 0)) ?_);simp only[e1,e2,e3]
theorem AW (i r:Int) (h:(i=0/\r=1)∨(i=1/\r=2)):ah Tryz.prog 169 [.val (ti .i64 i)] ⟨[.val (ti .u8 r)],[none]⟩:=by
 rcases h with⟨rfl,rfl⟩|⟨rfl,rfl⟩
 ·refine dC aj mixed [.val] Tryz.func169 rfl rfl (by kernel_rfl) ?_;intros;rename_i A L F hS hF
  cbv;refine aU aj mixed hS (1) ?_;cbv;repeat (first|apply bT rfl|apply bF rfl|apply nd rfl)
  exact hF _ (ak.refl _)
 ·refine dC aj mixed [.val] Tryz.func169 rfl rfl (by kernel_rfl) ?_;intros;rename_i A L F hS hF
  cbv;refine aU aj mixed hS (2) ?_;cbv;repeat (first|apply bT rfl|apply bF rfl|apply nd rfl)
  exact hF _ (ak.refl _)
def vc (a b:Int):Int:=(if 0<a then 1 else 0)+(if 0<b then 2 else 0)
theorem KE (a b:Int):ah Tryz.prog 160 [.val (.agg (m2 a b))] ⟨[.val (ti .u8 (vc a b))],[none]⟩:=by
 have c0:=AW 0 1 (.inl ⟨rfl,rfl⟩);have c1:=AW 1 2 (.inr ⟨rfl,rfl⟩);unfold m2 vc;refine dC aj mixed [.val] Tryz.func160 rfl rfl (by kernel_rfl) ?_;intros;rename_i A L F hS hF;cbv;refine aU aj mixed hS (9) ?_;cbv;repeat (first|apply bT rfl|apply bF rfl|apply nd rfl)
 by_cases h0:0<a
 ·refine bT ((hS.lt 0 a).trans (decide_eq_true h0)) ?_
  refine⟨_,hS.call c0,?_⟩;cbv;repeat (first|apply bT rfl|apply bF rfl|apply nd rfl)
  by_cases h1:0<b
  ·refine bT ((hS.lt 0 b).trans (decide_eq_true h1)) ?_
   refine⟨_,hS.call c1,?_⟩;cbv;repeat (first|apply bT rfl|apply bF rfl|apply nd rfl)
   refine bn hF (kl ?_);rw[if_pos h0,if_pos h1];rfl
  ·refine bF ((hS.lt 0 b).trans (decide_eq_false h1)) ?_
   repeat (first|apply bT rfl|apply bF rfl|apply nd rfl)
   refine bn hF (kl ?_);rw[if_pos h0,if_neg h1];rfl
 ·refine bF ((hS.lt 0 a).trans (decide_eq_false h0)) ?_
  repeat (first|apply bT rfl|apply bF rfl|apply nd rfl)
  by_cases h1:0<b
  ·refine bT ((hS.lt 0 b).trans (decide_eq_true h1)) ?_
   refine⟨_,hS.call c1,?_⟩;cbv;repeat (first|apply bT rfl|apply bF rfl|apply nd rfl)
   refine bn hF (kl ?_);rw[if_neg h0,if_pos h1];rfl
  ·refine bF ((hS.lt 0 b).trans (decide_eq_false h1)) ?_
   repeat (first|apply bT rfl|apply bF rfl|apply nd rfl)
   refine bn hF (kl ?_);rw[if_neg h0,if_neg h1];rfl
theorem AX (a b:Int) (h0:0<=a/\a<=65535) (h1:0<=b/\b<=65535):ah Tryz.prog 141 [.val (.agg (m2 a b))] ⟨[.val (tb true)],[none]⟩:=by
 unfold m2;refine dC aj mixed [.val] Tryz.func141 rfl rfl (by kernel_rfl) ?_;intros;rename_i A L F hS hF;cbv;refine aU aj mixed hS (9) ?_;cbv;repeat (first|apply bT rfl|apply bF rfl|apply nd rfl)
 refine bF ((hS.lt a 0).trans (decide_eq_false (by omega))) (bF ((hS.lt 65535 a).trans (decide_eq_false (by omega))) ?_);repeat (first|apply bT rfl|apply bF rfl|apply nd rfl)
 refine bF ((hS.lt b 0).trans (decide_eq_false (by omega))) (bF ((hS.lt 65535 b).trans (decide_eq_false (by omega))) ?_);repeat (first|apply bT rfl|apply bF rfl|apply nd rfl)
 exact hF _ (ak.refl _)
def mL (a b c d:Int):Int:=if a<c then -1 else if c<a then 1 else if b<d then -1 else if d<b then 1 else 0
theorem tK (a b c d:Int):ah Tryz.prog 60 [.val (.agg (m2 a b)),.val (.agg (m2 c d))] ⟨[.val (ti .i64 (mL a b c d))],[none,none]⟩:=by
 unfold m2 mL;refine dC aj mixed [.val] Tryz.func60 rfl rfl (by kernel_rfl) ?_;intros;rename_i A L F hS hF;cbv;refine aU aj mixed hS (9) ?_;cbv;repeat (first|apply bT rfl|apply bF rfl|apply nd rfl)
 by_cases h0:a<c
 ·refine bT ((hS.lt a c).trans (decide_eq_true h0)) (bn hF (kl ?_))
  rw[if_pos h0]
 refine bF ((hS.lt a c).trans (decide_eq_false h0)) ?_
 by_cases h1:c<a
 ·refine bT ((hS.lt c a).trans (decide_eq_true h1)) (bn hF (kl ?_))
  rw[if_neg h0,if_pos h1]
 refine bF ((hS.lt c a).trans (decide_eq_false h1)) ?_;repeat (first|apply bT rfl|apply bF rfl|apply nd rfl)
 by_cases h2:b<d
 ·refine bT ((hS.lt b d).trans (decide_eq_true h2)) (bn hF (kl ?_))
  rw[if_neg h0,if_neg h1,if_pos h2]
 refine bF ((hS.lt b d).trans (decide_eq_false h2)) ?_
 by_cases h3:d<b
 ·refine bT ((hS.lt d b).trans (decide_eq_true h3)) (bn hF (kl ?_))
  rw[if_neg h0,if_neg h1,if_neg h2,if_pos h3]
 refine bF ((hS.lt d b).trans (decide_eq_false h3)) ?_;repeat (first|apply bT rfl|apply bF rfl|apply nd rfl)
 refine bn hF (kl ?_);rw[if_neg h0,if_neg h1,if_neg h2,if_neg h3]
theorem KF (a b c d:Int) (h0:0<=a/\a<=30000) (h1:0<=b/\b<=30000) (h2:0<=c/\c<=30000) (h3:0<=d/\d<=30000) :
  ah Tryz.prog 110 [.val (.agg (m2 a b)),.val (.agg (m2 c d))] ⟨[.val (.agg (m2 (a+c) (b+d))),.val (ti .i64 0)],[none,none]⟩:=by
 have cv:=AX (a+c) (b+d) (by omega) (by omega);unfold m2 at cv ⊢;obtain⟨x,hx⟩:∃x,x=a+c:=⟨_,rfl⟩;obtain⟨y,hy⟩:∃y,y=b+d:=⟨_,rfl⟩;rw[<-hx,<-hy]at cv ⊢;refine dC aj mixed [.val,.val] Tryz.func110 rfl rfl (by kernel_rfl) fun zD zE _ _ _ _ _ _ _ _ _ _ _ _ _ _ _ _ _ _ _ _ _ _ _ _ _ _ _ _ _ _ _ _ _ _ _ _ _ _ _ _ _ _ _ _ _ _ _ _ _ A L F hS hF=>?_
 have e1:aA zD .i64 (dU zE a c)=x:=by rw[hS.add,hS.wrap,wrap_i64 (by omega) (by omega),hx]
 have e2:aA zD .i64 (dU zE b d)=y:=by rw[hS.add,hS.wrap,wrap_i64 (by omega) (by omega),hy]
 cbv at e1 e2;cbv;refine aU aj mixed hS (9) ?_;cbv;repeat (first|apply bT rfl|apply bF rfl|apply nd rfl)
 simp only[e1,e2];refine⟨_,hS.call cv,?_⟩;cbv;repeat (first|apply bT rfl|apply bF rfl|apply nd rfl)
 exact hF _ (ak.refl _)
end Go.Proofs.YtekefilngojelaaGreat
end
section
namespace Go.Abs
structure Ta {α:Type} (n0:Nat) (S:Nat->α->St) (R:Nat->α->Prop) (i:Nat) (s:St):Prop where
 ex:∃(ρ:Nat->Nat) (a:α),s.Ek n0 ρ (S i a)/\(S i a).aM=true/\n0<=(S i a).heap.length/\R i a
theorem aQ {α:Type} {n0:Nat} {S:Nat->α->St} {R:Nat->α->Prop} {i:Nat} {s:St} (m:List (Nat×Nat)) (a:α) (h1:aZ (aq m) s.tmps (S i a).tmps) (h2:a8 (aq m) s.heap 0 (S i a).heap) (h3:(aF (aq m) 0 (S i a).heap).Nodup) (h4:∀p∈m,n0<=p.1)
  (h5:(S i a).aM=true) (h6:n0<=(S i a).heap.length) (hR:R i a):Ta n0 S R i s:=⟨_,a,HB m h1 h2 h3 h4,h5,h6,hR⟩
structure Hid (p:Prop):Prop where
 h:p
section
variable {P:Program} {C:eh} {n0:Nat} {zD:IntKind->Int->Int} {zE zG zH zI zJ:Int->Int->Int} {zK zM zN zO zR zS:IntKind->Int->Int->Int} {zT zU zV zX:Int->Int->Bool} {zY:Bool->Bool} {zZ zg:Bool->Bool->Bool} {zh zj:Int->Int->Int} {zu:Int->Nat} {zy:Int->Nat->Bool} {zz:Nat->Int} {bd:Nat->Int->Nat} {ao:Nat->Nat->Bool} {aJ:Nat->Nat->Nat} {bN:Int->Int->Nat} {bE:Int->Int->Nat->Bool} {aO:Nat->Nat->Nat->Bool} {aR:Int->Int->Nat->Bool} {ab:Rows->Nat} {aD:Rows->Nat->Option (List Tree)} {bz:Rows->Nat->List Tree->Rows} {aL:IntKind->Rows->Nat->Bool} {aw:Rows->Nat->Int} {aP:IntKind->Rows->Nat->Int->Rows} {a9:Nat->Nat->Rows->Bool} {aE:Rows->Nat->Nat->Rows} {bQ bA:Rows->Nat->Rows->Rows} {bO:Nat->List Tree->Rows} {aN:Nat->Rows->Bool} {dc:List Bool->Bool} {de bg:List (Value×Tree)->Value->Bool} {bc:List (Value×Tree)->Value->Tree->List (Value×Tree)} {bX:Rows->Option ByteArray} {aY:List (Value×Tree)->Value->Option (Option Tree)} {zW:IntKind->List Int->Rows} {lK:(α:Type)->(Unit->α)->α} {A:FuncId->Ask->pf->Prop} {L:Code->St->(bf->ST->Prop)->Prop}
theorem nA {α:Type} (hC:bq P C) (eS:P.follows .mixedOrders=true) (hS:Std P n0 zD zE zG zH zI zJ zK zM zN zO zR zS zT zU zV zX zY zZ zg zh zj zu zy zz bd ao aJ bN bE aO aR ab aD bz aL aw aP a9 aE bQ bA bO aN dc de bg bc bX aY zW lK A L) {c:Code} {st:St} {Q:bf->ST->Prop} (S:Nat->α->St) (R:Nat->α->Prop) {n:Nat} {a0:α} (hl:st.Le (S 0 a0)) (hb:(S 0 a0).aM=true) (hk:n0<=(S 0 a0).heap.length) (h0:R 0 a0)
  (round:∀i a,i<n->R i a->dJ (ZI.mk zD zE zG zH zI zJ zK zM zN zO zR zS zT zU zV zX zY zZ zg zh zj zu zy zz bd ao aJ bN bE aO aR ab aD bz aL aw aP a9 aE bQ bA bO aN dc de bg bc bX aY) C A L c (ST.lI (S i a)) fun e s=>match e with
   | .normal=>match s.fI with
    | ⟨t,h⟩=>Ta n0 S R (i+1) (St.mk t h)
   | .exit id=>Q (.exit id) s
   | .ret=>Q .ret s)
  (last:∀a,R n a->dJ (ZI.mk zD zE zG zH zI zJ zK zM zN zO zR zS zT zU zV zX zY zZ zg zh zj zu zy zz bd ao aJ bN bE aO aR ab aD bz aL aw aP a9 aE bQ bA bO aN dc de bg bc bX aY) C A L c (ST.lI (S n a)) fun e s=>match e with
   | .normal=>False
   | .exit id=>Q (.exit id) s
   | .ret=>Q .ret s):L c st Q:=by
 rw[hS.z,hS.a,hS.l]at round last;rw[hS.l];refine fun hT=>rD.M3 hC eS (fun m s=>∃i a,m+i=n/\R i a/\s=S i a) hl hb hk ⟨0,a0,rfl,h0,rfl⟩ fun m s hI=>?_
 obtain⟨i,a,hm,hR,rfl⟩:=hI;cases m with
 | zero=>
  obtain rfl:i=n:=by omega
  have:=fZ c _ (ST.lJ _) hT (last a hR);rw[ST.ib]at this;refine Rp c _ this fun e s1 h1=>?_
  obtain⟨s',ho,rfl,h2⟩:=h1;cases e with
  | normal=>exact h2.elim
  | exit id=>exact⟨s',ho,rfl,h2⟩
  | ret=>exact⟨s',ho,rfl,h2⟩
 | succ m=>
  have:=fZ c _ (ST.lJ _) hT (round i a (by omega) hR);rw[ST.ib]at this;refine Rp c _ this fun e s1 h1=>?_
  obtain⟨s',ho,rfl,h2⟩:=h1;cases e with
  | normal=>
   obtain⟨ρ,a',h3,h4,h5,h6⟩:=h2.ex;exact⟨ρ,_,h3,h4,h5,m,Nat.lt_succ_self m,i+1,a',by omega,h6,rfl⟩
  | exit id=>exact⟨s',ho,rfl,h2⟩
  | ret=>exact⟨s',ho,rfl,h2⟩
theorem fA {α:Type} (hC:bq P C) (eS:P.follows .mixedOrders=true) (hS:Std P n0 zD zE zG zH zI zJ zK zM zN zO zR zS zT zU zV zX zY zZ zg zh zj zu zy zz bd ao aJ bN bE aO aR ab aD bz aL aw aP a9 aE bQ bA bO aN dc de bg bc bX aY zW lK A L) {c:Code} {st:St} {Q:bf->ST->Prop} (S:Nat->α->St) (R:Nat->α->Prop) {n:Nat} {a0:α} (hl:st.Le (S 0 a0)) (hb:(S 0 a0).aM=true) (hk:n0<=(S 0 a0).heap.length) (h0:R 0 a0)
  (round:∀i a,i<n->R i a->Hid (dJ (ZI.mk zD zE zG zH zI zJ zK zM zN zO zR zS zT zU zV zX zY zZ zg zh zj zu zy zz bd ao aJ bN bE aO aR ab aD bz aL aw aP a9 aE bQ bA bO aN dc de bg bc bX aY) C A L c (ST.lI (S i a)) fun e s=>match e with
   | .normal=>match s.fI with
    | ⟨t,h⟩=>Ta n0 S R (i+1) (St.mk t h)
   | .exit id=>Q (.exit id) s
   | .ret=>Q .ret s))
  (last:∀a,R n a->Hid (dJ (ZI.mk zD zE zG zH zI zJ zK zM zN zO zR zS zT zU zV zX zY zZ zg zh zj zu zy zz bd ao aJ bN bE aO aR ab aD bz aL aw aP a9 aE bQ bA bO aN dc de bg bc bX aY) C A L c (ST.lI (S n a)) fun e s=>match e with
   | .normal=>False
   | .exit id=>Q (.exit id) s
   | .ret=>Q .ret s)):L c st Q:=nA hC eS hS S R hl hb hk h0 (fun i a h1 h2=>(round i a h1 h2).h) (fun a h=>(last a h).h)
theorem Std.gC (hS:Std P n0 zD zE zG zH zI zJ zK zM zN zO zR zS zT zU zV zX zY zZ zg zh zj zu zy zz bd ao aJ bN bE aO aR ab aD bz aL aw aP a9 aE bQ bA bO aN dc de bg bc bX aY zW lK A L) {i n:Nat} {X:Rows} (hX:X.length=n) (hi:i<n) (hn:n<4611686018427387904):zV (Int.ofNat i) (zz (ab X))=true/\zD .i64 (zE (i:Int) 1)=(i:Int)+1/\zu (Int.ofNat i)=i/\zX 0 (Int.ofNat i)=true:=by
 refine⟨?_,?_,?_,?_⟩
 ·rw[hS.lt,hS.aB,hS.len,hX];exact decide_eq_true (show(i:Int)<(n:Int) by omega)
 ·rw[hS.add,hS.wrap];exact wrap_i64 (by omega) (by omega)
 ·rw[hS.nat];rfl
 ·rw[hS.le];exact decide_eq_true (show(0:Int)<=(i:Int) by omega)
theorem Std.eU (hS:Std P n0 zD zE zG zH zI zJ zK zM zN zO zR zS zT zU zV zX zY zZ zg zh zj zu zy zz bd ao aJ bN bE aO aR ab aD bz aL aw aP a9 aE bQ bA bO aN dc de bg bc bX aY zW lK A L) {n:Nat} {X:Rows} (hX:X.length=n):zV (Int.ofNat n) (zz (ab X))=false:=by
 rw[hS.lt,hS.aB,hS.len,hX];exact decide_eq_false (show ¬(n:Int)<(n:Int) by omega)
theorem Std.ve (hS:Std P n0 zD zE zG zH zI zJ zK zM zN zO zR zS zT zU zV zX zY zZ zg zh zj zu zy zz bd ao aJ bN bE aO aR ab aD bz aL aw aP a9 aE bQ bA bO aN dc de bg bc bX aY zW lK A L) {row:List Tree} {w:Nat} (hw:row.length=w) {r:Rows} {len b:Nat} (hl:len=r.length) (hb:(len+1)*b<=az) :
  aE [row] 0 1=[row]/\a9 0 1 [row]=true/\zY (ao (ab [row]) 0)=true/\aN w [row]=true/\aO len (ab [row]) b=true/\ao (aJ 0 len) (ab r)=true/\aJ len (ab [row])=len+1/\bQ r 0 [row]=r ++ [row]:=by
 refine⟨?_,?_,?_,?_,?_,?_,?_,?_⟩
 ·rw[hS.part];rfl
 ·rw[hS.fit];rfl
 ·rw[hS.len,hS.neq,hS.not];rfl
 ·rw[hS.wide];simp[hw]
 ·rw[hS.len,hS.room];exact decide_eq_true (by simpa using hb)
 ·rw[hS.fH,hS.neq,hS.len,hl,Nat.zero_add];exact decide_eq_true rfl
 ·rw[hS.len,hS.fH];rfl
 ·rw[hS.ext,List.drop_zero]
theorem Std.PG (hS:Std P n0 zD zE zG zH zI zJ zK zM zN zO zR zS zT zU zV zX zY zZ zg zh zj zu zy zz bd ao aJ bN bE aO aR ab aD bz aL aw aP a9 aE bQ bA bO aN dc de bg bc bX aY zW lK A L) {new:Rows} {m w:Nat} (hm:new.length=m) (h0:0<m) (hw:(new.all fun r=>r.length==w)=true) {r:Rows} {len b:Nat} (hl:len=r.length) (hb:(len+m)*b<=az) :
  aE new 0 m=new/\a9 0 m new=true/\zY (ao (ab new) 0)=true/\aN w new=true/\aO len (ab new) b=true/\ao (aJ 0 len) (ab r)=true/\aJ len (ab new)=len+m/\bQ r 0 new=r++new:=by
 refine⟨?_,?_,?_,?_,?_,?_,?_,?_⟩
 ·rw[hS.part,List.drop_zero,List.take_of_length_le (by omega)]
 ·rw[hS.fit];exact decide_eq_true (by omega)
 ·rw[hS.len,hS.neq,hS.not,decide_eq_false (by omega)];rfl
 ·rw[hS.wide];exact hw
 ·rw[hS.len,hS.room,hm];exact decide_eq_true hb
 ·rw[hS.fH,hS.neq,hS.len,hl,Nat.zero_add];exact decide_eq_true rfl
 ·rw[hS.len,hS.fH,hm]
 ·rw[hS.ext,List.drop_zero]
theorem Std.whole (hS:Std P n0 zD zE zG zH zI zJ zK zM zN zO zR zS zT zU zV zX zY zZ zg zh zj zu zy zz bd ao aJ bN bE aO aR ab aD bz aL aw aP a9 aE bQ bA bO aN dc de bg bc bX aY zW lK A L) {r:Rows} {len:Nat} (hl:len=r.length):a9 0 len r=true/\aE r 0 len=r:=⟨by rw[hS.fit,hl];exact decide_eq_true (by omega),by rw[hS.part,List.drop_zero,List.take_of_length_le (by omega)]⟩
end
end Go.Abs
end
section
namespace Go.Abs.M
def val:List Int->Int
 | []=>0
 | x::l=>x+4294967296*val l
def Wd (l:List Int):Prop:=∀x∈l,0<=x/\x<4294967296
def OL:Nat->Nat->List Int
 | 0,_=>[]
 | f+1,n=>if n=0 then [] else((n%4294967296:Nat):Int)::OL f (n/4294967296)
def dg (n:Nat):List Int:=OL n n
theorem HL:∀(f g n:Nat),n<=f->n<=g->OL f n=OL g n
 | 0,g,n,h,_=>by
  have:n=0:=by omega
  subst this;cases g<;>simp[OL]
 | f+1,0,n,_,h=>by
  have:n=0:=by omega
  subst this;simp[OL]
 | f+1,g+1,n,h1,h2=>by
  simp only[OL];split
  ·rfl
  ·rw[HL f g (n/4294967296) (by omega) (by omega)]
theorem rJ:dg 0=[]:=rfl
theorem qf {n:Nat} (h:n≠0):dg n=((n%4294967296:Nat):Int)::dg (n/4294967296):=by
 unfold dg;obtain⟨m,rfl⟩:∃m,n=m+1:=⟨n-1,by omega⟩;simp only[OL];rw[if_neg h,HL m ((m+1)/4294967296) _ (by omega) (Nat.le_refl _)]
theorem jA (n:Nat):val (dg n)=n:=by
 induction n using Nat.strongRecOn with
 | _ n ih=>
  by_cases h:n=0
  ·subst h;rfl
  ·rw[qf h,val,ih (n/4294967296) (by omega)]
   omega
theorem jo (n:Nat):Wd (dg n):=by
 induction n using Nat.strongRecOn with
 | _ n ih=>
  by_cases h:n=0
  ·subst h;intro x hx;cases hx
  ·rw[qf h]
   intro x hx;rcases List.mem_cons.1 hx with rfl|hx
   ·omega
   ·exact ih (n/4294967296) (by omega) x hx
theorem ic {n:Nat}:dg n=[]↔n=0:=by
 by_cases h:n=0
 ·simp[h,rJ]
 ·simp[h,qf h]
theorem gd:∀(a b:List Int),val (a++b)=val a+4294967296^a.length*val b
 | [],b=>by simp[val]
 | x::a,b=>by
  simp only[List.cons_append,val,gd a b,List.length_cons,Int.pow_succ];grind
theorem Wd.tail {x:Int} {l:List Int} (h:Wd (x::l)):Wd l:=fun y hy=>h y (List.mem_cons_of_mem _ hy)
theorem Wd.head {x:Int} {l:List Int} (h:Wd (x::l)):0<=x/\x<4294967296:=h x (List.mem_cons_self ..)
theorem Wd.cons {x:Int} {l:List Int} (h0:0<=x) (h1:x<4294967296) (h:Wd l):Wd (x::l):=by
 intro y hy;rcases List.mem_cons.1 hy with rfl|hy
 ·exact⟨h0,h1⟩
 ·exact h y hy
theorem Wd.append {a b:List Int} (ha:Wd a) (hb:Wd b):Wd (a++b):=by
 intro x hx;rcases List.mem_append.1 hx with h|h
 ·exact ha x h
 ·exact hb x h
theorem Wd.take {l:List Int} (h:Wd l) (n:Nat):Wd (l.take n):=fun x hx=>h x (List.mem_of_mem_take hx)
theorem Wd.drop {l:List Int} (h:Wd l) (n:Nat):Wd (l.drop n):=fun x hx=>h x (List.mem_of_mem_drop hx)
theorem Wd.rep (n:Nat):Wd (List.replicate n 0):=fun x hx=>by
 rw[List.eq_of_mem_replicate hx];omega
theorem Wd.get {l:List Int} (h:Wd l) (i:Nat):0<=l.getD i 0/\l.getD i 0<4294967296:=by
 rw[List.getD_eq_getElem?_getD];rcases Nat.lt_or_ge i l.length with h1|h1
 ·rw[List.getElem?_eq_getElem h1];exact h _ (List.getElem_mem h1)
 ·rw[List.getElem?_eq_none h1];simp
theorem Wd.set {l:List Int} (h:Wd l) (i:Nat) {x:Int} (h0:0<=x) (h1:x<4294967296):Wd (l.set i x):=by
 intro y hy;rcases List.mem_or_eq_of_mem_set hy with h'|rfl
 ·exact h y h'
 ·exact⟨h0,h1⟩
theorem Wd.nil:Wd []:=fun x hx=>by cases hx
theorem sU:∀ {l:List Int},Wd l->0<=val l
 | [],_=>Int.le_refl 0
 | x::l,h=>by
  have:=sU h.tail;have:=h.head;simp only[val];omega
theorem yo (n:Nat):(0:Int)<4294967296^n:=Int.pow_pos (by omega)
theorem Dk:∀ {l:List Int},Wd l->val l<4294967296^l.length
 | [],_=>by simp[val]
 | x::l,h=>by
  have:=Dk h.tail;have:=h.head;simp only[val,List.length_cons,Int.pow_succ];omega
theorem Dl (n:Nat):val (List.replicate n 0)=0:=by
 induction n with
 | zero=>rfl
 | succ n ih=>simp only[List.replicate_succ,val,ih];rfl
theorem PH (l:List Int) (k:Nat) (h:k<=l.length):val l=val (l.take k)+4294967296^k*val (l.drop k):=by
 have:=gd (l.take k) (l.drop k);rw[List.take_append_drop,List.length_take,Nat.min_eq_left h]at this;exact this
theorem Dm:∀(l:List Int) (i:Nat) (x:Int),i<l.length->val (l.set i x)=val l+(x-l.getD i 0)*4294967296^i
 | [],i,x,h=>by simp at h
 | y::l,0,x,_=>by simp[val,List.set];omega
 | y::l,i+1,x,h=>by
  have:=Dm l i x (by simpa using h);simp only[List.set_cons_succ,val,List.getD_cons_succ,Int.pow_succ,this];grind
theorem nC {l:List Int} {k:Nat} (h:k<l.length):l.take (k+1)=l.take k ++ [l.getD k 0]:=by
 rw[List.take_succ_eq_append_getElem h,List.getD_eq_getElem?_getD,List.getElem?_eq_getElem h];rfl
theorem kn {l:List Int} {k:Nat} (h:k<l.length):val (l.take (k+1))=val (l.take k)+4294967296^k*l.getD k 0:=by
 rw[nC h,gd,List.length_take,Nat.min_eq_left (Nat.le_of_lt h)];simp[val]
theorem kN {l:List Int} {k:Nat} (h:k<l.length):l.drop k=l.getD k 0::l.drop (k+1):=by
 rw[List.drop_eq_getElem_cons h,List.getD_eq_getElem?_getD,List.getElem?_eq_getElem h];rfl
theorem KG {l:List Int} {k:Nat} (h:k<l.length):val (l.drop k)=l.getD k 0+4294967296*val (l.drop (k+1)):=by
 rw[kN h];rfl
def Tr (l:List Int):Prop:=l=[]∨l.getD (l.length-1) 0≠0
theorem Tr.tail {x:Int} {l:List Int} (h:Tr (x::l)):Tr l:=by
 rcases h with h|h
 ·cases h
 ·cases l with
  | nil=>exact .inl rfl
  | cons y l=>right;simpa using h
theorem oC:∀ {l:List Int},Wd l->Tr l->dg (val l).toNat=l
 | [],_,_=>rfl
 | x::l,hw,ht=>by
  have hv:=sU hw.tail;have hx:=hw.head;have ih:=oC hw.tail ht.tail;have cY:(val (x::l)).toNat≠0:=by
   simp only[val];cases l with
   | nil=>
    rcases ht with h|h
    ·cases h
    ·simp at h;simp only[val];omega
   | cons y l=>
    intro h0;have h1:val (y::l)=0:=by omega
    rw[h1]at ih;cases ih
  rw[qf cY];have e1:(val (x::l)).toNat%4294967296=x.toNat:=by simp only[val];omega
  have e2:(val (x::l)).toNat/4294967296=(val l).toNat:=by simp only[val];omega
  rw[e1,e2,ih];congr 1;omega
theorem iZ (n:Nat):Tr (dg n):=by
 induction n using Nat.strongRecOn with
 | _ n ih=>
  by_cases h:n=0
  ·subst h;exact .inl rfl
  ·rw[qf h]
   have:=ih (n/4294967296) (by omega)
   by_cases h2:n/4294967296=0
   ·right;rw[h2,rJ];simp;omega
   ·right
    rcases this with h3|h3
    ·exact absurd (ic.1 h3) h2
    ·have hl:dg (n/4294967296)≠[]:=fun hh=>h2 (ic.1 hh)
     cases hd:dg (n/4294967296) with
     | nil=>exact absurd hd hl
     | cons y l=>rw[hd]at h3;simpa using h3
theorem jR {a b:Nat} (h:a<=b):(4294967296:Int)^a<=4294967296^b:=by
 obtain⟨k,rfl⟩:∃k,b=a+k:=⟨b-a,by omega⟩;rw[Int.pow_add];have h1:=yo a;have h2:=yo k;have:4294967296^a*1<=4294967296^a*(4294967296:Int)^k:=Int.mul_le_mul_of_nonneg_left (by omega) (by omega);omega
def nl (n:Nat):Nat:=(dg n).length
theorem nD (n:Nat):(n:Int)<4294967296^nl n:=by
 have:=Dk (jo n);rwa[jA]at this
theorem tL {n k:Nat} (h:(n:Int)<4294967296^k):nl n<=k:=by
 induction k generalizing n with
 | zero=>
  have:n=0:=by rw[Int.pow_zero]at h;omega
  subst this;exact Nat.le_refl _
 | succ k ih=>
  by_cases h0:n=0
  ·subst h0;exact Nat.zero_le _
  ·unfold nl
   rw[qf h0,List.length_cons];have:nl (n/4294967296)<=k:=ih (by
    rw[Int.pow_succ]at h;omega)
   unfold nl at this;omega
theorem FB {a b:Nat} (h:a<=b):nl a<=nl b:=tL (by have:=nD b;omega)
theorem Wv {l:List Int} (h:Wd l):nl (val l).toNat<=l.length:=tL (by have:=Dk h;have:=sU h;omega)
theorem Ww {n:Nat} (h:n≠0):4294967296^(nl n-1)<=(n:Int):=by
 rcases Int.lt_or_le (n:Int) (4294967296^(nl n-1)) with h1|h1
 ·have h2:=tL h1
  have:nl n≠0:=fun hh=>h (ic.1 (List.length_eq_zero_iff.1 hh))
  omega
 ·exact h1
theorem jS {n:Nat}:nl n=0↔n=0:=by unfold nl;rw[List.length_eq_zero_iff,ic]
theorem xp (a b:Nat):nl (a+b)<=max (nl a) (nl b)+1:=by
 refine tL ?_;have h1:=nD a;have h2:=nD b;have h3:(4294967296:Int)^nl a<=4294967296^max (nl a) (nl b):=jR (Nat.le_max_left ..);have h4:(4294967296:Int)^nl b<=4294967296^max (nl a) (nl b):=jR (Nat.le_max_right ..);rw[Int.pow_succ];omega
theorem vO (a b:Nat):nl (a*b)<=nl a+nl b:=by
 refine tL ?_;have h1:=nD a;have h2:=nD b;rw[Int.pow_add];have h3:(a:Int)*b<=4294967296^nl a*b:=Int.mul_le_mul_of_nonneg_right (by omega) (by omega);have h4:4294967296^nl a*(b:Int)<4294967296^nl a*4294967296^nl b:=Int.mul_lt_mul_of_pos_left h2 (yo _)
 push_cast
 omega
end Go.Abs.M
end
section
namespace Go.Proofs.YtekefilngojelaaGreat
open Go Go.Abs Go.Abs.M Go.Proofs
def lM (r:Abs.Rows) (n:Int):St:=ae 21 [vl r,.af,fy,vi .i64 n] [none]
theorem Jn {l:List Int} {n:Nat} (hw:Wd l) (hn:n<=l.length) (hv:val (l.take n)=val l) (h0:n=0∨l.getD (n-1) 0≠0):l.take n=dg (val l).toNat:=by
 rw[<-hv];refine(oC (hw.take n) ?_).symm;rcases h0 with rfl|h0
 ·exact .inl (by simp)
 ·by_cases hz:n=0
  ·subst hz;exact .inl (by simp)
  ·right
   rw[List.length_take,Nat.min_eq_left hn];simp only[List.getD_eq_getElem?_getD,List.getElem?_take]at h0 ⊢;rw[if_pos (by omega)];exact h0
theorem Ru {r:Abs.Rows} {l:List Int} (hr:r=W .u32 l) (hl:l.length<=2199023255552) (hw:Wd l):ah Tryz.prog 142 [.val (.c (.aa false r))] ⟨[.val (.c (.aa false (W .u32 (dg (val l).toNat))))],[none]⟩:=by
 refine ar aj mixed [.val] Tryz.func142 rfl rfl (by kernel_rfl) fun zD _ zG _ _ _ _ _ _ _ _ _ _ _ _ _ _ _ _ _ _ zu _ zz _ _ _ _ bE _ _ ab _ _ _ aw _ _ aE _ _ _ aN _ _ _ _ _ _ _ _ A L F hS hF=>?_
 have hlen:ab r=l.length:=by rw[hS.len,hr,jf]
 cbv;refine fN aj mixed hS (fun m s=>∃n:Nat,n=m/\n<=l.length/\val (l.take n)=val l/\s=lM r (zz n)) (n:=l.length) (s0:=lM r (zz l.length)) (fi ?_ ?_) rfl (Nat.le_refl 1) ?_ ?_
 ·simp[dO,lM,ae,fy,vi,vl,hlen]
 ·simp[dP,lM,ae]
 ·exact⟨_,rfl,Nat.le_refl _,by rw[List.take_length],rfl⟩
 ·rintro m _ ⟨n,rfl,hn,hv,rfl⟩
  have hp:0<n->zD .i64 (zG (zz n) 1)=zz (n-1):=fun h=>by rw[hS.wrap,hS.sub,hS.aB,hS.aB,wrap_i64 (by omega) (by omega)];omega
  have hg:0<n->aw r (zu (zz (n-1)))=l.getD (n-1) 0:=fun h=>by rw[hS.dF,hS.nat,hS.aB,hr,mP,Int.toNat_natCast]
  have hc:bE 0 (zz n) (ab r)=true:=by rw[hS.cut,hlen,hS.aB];exact decide_eq_true (by omega)
  have Tb:aN 1 r=true:=by rw[hS.wide,hr];exact HK _ _
  have Wx:n=0∨l.getD (n-1) 0≠0->F ⟨[.val (.c (.aa false (aE r 0 (zu (zz n)))))],[none]⟩:=fun h=>bn hF (by
   rw[hS.part,hS.nat,hS.aB,hr,kj,Int.toNat_natCast,List.drop_zero,Jn hw hn hv h])
  cbv;refine⟨fun h=>?_,fun h=>nd hc (nd Tb (Wx ?_))⟩
  all_goals rw[hS.lt,hS.aB]at h
  ·have h:0<n:=by simpa using h
   rw[hp h,hg h];refine nd (by rw[hS.le,hS.aB];exact decide_eq_true (by omega)) (nd (by rw[hS.gE,hS.nat,hS.aB,hr,kM];exact decide_eq_true (by omega)) ⟨fun h2=>?_,fun h2=>nd hc (nd Tb (Wx (.inr ?_)))⟩)
   all_goals rw[hS.eq]at h2
   ·refine again (s':=lM r (zz (n-1))) (m:=n-1) (by simp[dO,lM,ae,fy,vi,vl]) (by simp[dP,lM,ae]) rfl (Nat.le_refl 1) (by omega) ⟨_,rfl,by omega,?_,rfl⟩
    have:=kn (l:=l) (k:=n-1) (by omega);rw[show n-1+1=n by omega,of_decide_eq_true h2]at this;omega
   ·exact of_decide_eq_false h2
  ·exact .inl (by simpa using h)
end Go.Proofs.YtekefilngojelaaGreat
end
section
namespace Go.Abs.M
def bC (a b:Int):Int:=if a<b then -1 else if b<a then 1 else 0
theorem Tc {l:List Int} (hw:Wd l) (ht:Tr l) (hl:0<l.length):4294967296^(l.length-1)<=val l:=by
 have h1:=oC hw ht;have hv:=sU hw;have cY:(val l).toNat≠0:=fun h0=>by
  rw[h0,rJ]at h1;rw[<-h1]at hl;simp at hl
 have:=Ww cY;unfold nl at this;rw[h1]at this;omega
theorem iA {l m:List Int} (hl:Wd l) (hm:Wd m) (ht:Tr m) (h:l.length<m.length):val l<val m:=by
 have h1:=Dk hl;have h2:=Tc hm ht (by omega);have h3:=jR (show l.length<=m.length-1 by omega);omega
theorem gN {l m:List Int} {i:Nat} (hl:Wd l) (hm:Wd m) (hlen:l.length=m.length) (hi:i<l.length) (he:l.drop (i+1)=m.drop (i+1)) (h:l.getD i 0<m.getD i 0):val l<val m:=by
 rw[PH l i (by omega),PH m i (by omega),KG hi,KG (l:=m) (by omega),he];have a1:=Dk (hl.take i);have a2:=sU (hm.take i);rw[List.length_take,Nat.min_eq_left (by omega)]at a1;have hp:=yo i;have:4294967296^i*(l.getD i 0+1)<=4294967296^i*m.getD i 0:=Int.mul_le_mul_of_nonneg_left (by omega) (by omega);generalize val (m.drop (i+1))=y,val (l.take i)=x,val (m.take i)=z,l.getD i 0=a,m.getD i 0=b at *
 generalize (4294967296:Int)^i=p at *;have e1:p*(a+4294967296*y)=p*a+p*(4294967296*y):=Int.mul_add ..;have e2:p*(b+4294967296*y)=p*b+p*(4294967296*y):=Int.mul_add ..;have e3:p*(a+1)=p*a+p:=by rw[Int.mul_add,Int.mul_one]
 omega
theorem fS {a b:Int} (h:a<b):bC a b=-1:=if_pos h
theorem iC {a b:Int} (h:b<a):bC a b=1:=by unfold bC;rw[if_neg (by omega),if_pos h]
theorem Jo (a:Int):bC a a=0:=by unfold bC;rw[if_neg (by omega),if_neg (by omega)]
end Go.Abs.M
end
section
namespace Go.Proofs.YtekefilngojelaaGreat
open Go Go.Abs Go.Abs.M Go.Proofs
theorem gf {r:Abs.Rows} {l:List Int} (i:Int) (hr:r=W .u32 l) (hl:l.length<=2199023255552) (hw:Wd l) (hi:0<=i):ah Tryz.prog 157 [.val (tl r),.val (ti .i64 i)] ⟨[.val (ti .u64 (l.getD i.toNat 0))],[none,none]⟩:=by
 refine ar aj mixed [.val] Tryz.func157 rfl rfl (by kernel_rfl) ?_;intros;rename_i A L F hS hF;have hg:=hw.get i.toNat;cbv;simp only[hS.wrap,hS.add,hS.sub,hS.mul,hS.quo,hS.rem,hS.shl,hS.shr,hS.kI,hS.fj,hS.MV,hS.Fk,hS.eq,hS.ne,hS.lt,hS.le,hS.not,hS.beq,hS.bne,hS.max,hS.min,hS.nat,hS.yF,hS.aB,hS.idx,hS.neq,hS.fH,hS.Kv,hS.cut,hS.room,hS.nq,hS.len,hS.nth,hS.Fl,hS.gE,hS.dF,hS.oP,hS.fit,hS.part,hS.ext,hS.yG,hS.rep,hS.wide,hS.all,hr,jf,kM,mP]
 refine⟨fun h=>nd (decide_eq_true hi) (nd ?_ (bn hF (kl (eG hg.1 (by omega))))),fun h=>bn hF (kl ?_)⟩
 ·have:=of_decide_eq_true h;exact decide_eq_true (by omega)
 ·have:=of_decide_eq_false h
  rw[List.getD_eq_getElem?_getD,List.getElem?_eq_none (by omega)];rfl
theorem jT (n:Int) (hn:0<=n) (Ft:n<2^64):ah Tryz.prog 113 [.val (ti .u64 n)] ⟨[.val (tl (W .u32 (dg n.toNat)))],[none]⟩:=by
 refine ar aj mixed [.val] Tryz.func113 rfl rfl (by kernel_rfl) fun zD _ _ _ zI zJ _ _ _ _ _ _ _ _ _ _ _ _ _ _ _ _ _ _ _ _ _ _ _ _ _ _ _ _ _ _ _ _ _ _ _ _ _ _ _ _ _ _ _ _ _ A L F hS hF=>?_
 have e1:zD .u32 (zJ n 4294967296)=n%4294967296:=by rw[hS.wrap,hS.rem,Int.tmod_eq_emod_of_nonneg hn];exact LX (by omega) (by omega)
 have e2:zD .u32 (zD .u64 (zI n 4294967296))=n/4294967296:=by rw[hS.wrap,hS.wrap,hS.quo,Int.tdiv_eq_ediv_of_nonneg hn,eG (by omega) (by omega)];exact LX (by omega) (by omega)
 have hT:=Ru (r:=W .u32 [n%4294967296,n/4294967296]) rfl (by simp) (Wd.cons (by omega) (by omega) (Wd.cons (by omega) (by omega) Wd.nil));cbv;rw[e1,e2];refine nd (by rw[hS.fit];rfl) ?_;rw[hS.part];refine⟨_,hS.call hT,?_⟩;rw[show val [n%4294967296,n/4294967296]=n by simp only[val];omega];generalize W .u32 (dg n.toNat)=x at *;cbv;exact hF _ (ak.refl _)
theorem HM {r:Abs.Rows} {l:List Int} (s t:Bool) (hr:r=W .u32 l) (hl:l.length<=2199023255552) (hw:Wd l) (ht:t=(s&&decide (0<val l))):ah Tryz.prog 112 [.val (tb s),.val (tl r)] ⟨[.val (.agg (iT t (W .u32 (dg (val l).toNat))))],[none,none]⟩:=by
 refine ar aj mixed [.val] Tryz.func112 rfl rfl (by kernel_rfl) ?_;intros;rename_i zV _ _ _ _ _ _ _ _ zz _ _ _ _ _ _ _ ab _ _ _ _ _ _ _ _ _ _ _ _ _ _ _ _ _ _ _ A L F hS hF;have hT:=Ru hr hl hw;have hz:zV 0 (zz (ab (W .u32 (dg (val l).toNat))))=decide (0<val l):=by
  rw[hS.lt,hS.aB,hS.len,jf];have:=sU hw;have h2:=@jS (val l).toNat;unfold nl at h2
  by_cases h:0<val l
  ·rw[decide_eq_true h];exact decide_eq_true (by omega)
  ·rw[decide_eq_false h];exact decide_eq_false (by omega)
 generalize W .u32 (dg (val l).toNat)=x,decide (0<val l)=y at *;cbv;refine⟨_,hS.call hT,?_⟩;cbv;rw[hz];refine⟨fun h=>bn hF ?_,fun h=>bn hF ?_⟩
 ·rw[ht,h];rfl
 ·rw[ht,h];rfl
def qg (r s:Abs.Rows) (i:Int):St:=ae 41 [vl r,vl s,.af,.af,vi .i64 0,vi .i64 i] [none,none]
theorem Wy {r s:Abs.Rows} {l m:List Int} (c:Int) (hr:r=W .u32 l) (hs:s=W .u32 m) (hl:l.length<=2199023255552) (hm:m.length<=2199023255552) (vg:Wd l) (vR:Wd m) (bG:Tr l) (hmt:Tr m) (hc:c=bC (val l) (val m)) :
  ah Tryz.prog 136 [.val (tl r),.val (tl s)] ⟨[.val (ti .i64 c)],[none,none]⟩:=by
 refine ar aj mixed [.val] Tryz.func136 rfl rfl (by kernel_rfl) fun zD _ zG _ _ _ _ _ _ _ _ _ _ _ _ zX _ _ _ _ _ zu _ zz _ _ _ _ _ _ _ ab _ _ aL aw _ _ _ _ _ _ _ _ _ _ _ _ _ _ _ A L F hS hF=>?_
 have h1:ab r=l.length:=by rw[hS.len,hr,jf]
 have h2:ab s=m.length:=by rw[hS.len,hs,jf]
 cbv;rw[h1,h2];refine⟨fun h=>?_,fun h=>⟨fun h'=>?_,fun h'=>?_⟩⟩
 all_goals rw[hS.lt,hS.aB,hS.aB]at h
 ·have h:(l.length:Int)<m.length:=of_decide_eq_true h
  exact bn hF (kl (by rw[hc,fS (iA vg vR hmt (by omega))]))
 all_goals rw[hS.lt,hS.aB,hS.aB]at h'
 ·have h':(m.length:Int)<l.length:=of_decide_eq_true h'
  exact bn hF (kl (by rw[hc,iC (iA vR vg bG (by omega))]))
 ·have h:=of_decide_eq_false h
  have h':=of_decide_eq_false h';have hlen:l.length=m.length:=by omega
  have Wz:zD .i64 (zG (zz l.length) 1)=zG (zz l.length) 1:=by rw[hS.wrap,hS.sub,hS.aB];exact wrap_i64 (by omega) (by omega)
  rw[Wz];refine fN aj mixed hS (fun(k:Nat) s'=>k<=l.length/\l.drop k=m.drop k/\s'=qg r s (zG (zz k) 1)) (n:=l.length) (s0:=qg r s (zG (zz l.length) 1)) (fi ?_ ?_) rfl (Nat.le_refl 2) ?_ ?_
  ·simp[dO,qg,ae,vi,vl]
  ·simp[dP,qg,ae]
  ·refine⟨Nat.le_refl _,?_,rfl⟩
   rw[List.drop_length,hlen,List.drop_length]
  ·rintro k _ ⟨hk,he,rfl⟩
   have hi:zG (zz k) 1=(k:Int)-1:=by rw[hS.sub,hS.aB]
   have hz:zX 0 (zG (zz k) 1)=decide (1<=k):=by
    rw[hS.le,hi]
    by_cases h:1<=k
    ·rw[decide_eq_true h];exact decide_eq_true (by omega)
    ·rw[decide_eq_false h];exact decide_eq_false (by omega)
   have Jb:1<=k->zu (zG (zz k) 1)=k-1:=fun h=>by rw[hS.nat,hi];omega
   have g1:1<=k->aw r (zu (zG (zz k) 1))=l.getD (k-1) 0:=fun h=>by rw[Jb h,hS.dF,hr,mP]
   have g2:1<=k->aw s (zu (zG (zz k) 1))=m.getD (k-1) 0:=fun h=>by rw[Jb h,hS.dF,hs,mP]
   have M5:∀x:Int,x=c->F ⟨[.val (.c (.v (.int .i64 x)))],[none,none]⟩:=fun x hx=>bn hF (kl hx)
   have Ft:1<=k->aL .u32 r (zu (zG (zz k) 1))=true:=fun h=>by rw[Jb h,hS.gE,hr,kM];exact decide_eq_true (by omega)
   have PI:1<=k->aL .u32 s (zu (zG (zz k) 1))=true:=fun h=>by rw[Jb h,hS.gE,hs,kM];exact decide_eq_true (by omega)
   have LY:1<=k->zD .i64 (zG (zG (zz k) 1) 1)=zG (zz (k-1)) 1:=fun h=>by rw[hi,hS.wrap,hS.sub,hS.sub,hS.aB,wrap_i64 (by omega) (by omega)];omega
   cbv;refine⟨fun h=>?_,fun h=>M5 _ ?_⟩
   ·have a1:=h
    rw[hz]at h;have h:=of_decide_eq_true h;have a2:=Ft h;have a3:=PI h;rw[LY h,g1 h,g2 h];refine nd a1 (nd a2 (nd a1 (nd a3 ⟨fun h3=>M5 _ ?_,fun h3=>nd a1 (nd a2 (nd a1 (nd a3 ⟨fun h4=>M5 _ ?_,fun h4=>?_⟩)))⟩)))
    all_goals rw[hS.lt]at h3
    ·rw[hc,fS (gN (i:=k-1) vg vR hlen (by omega) (by rw[show k-1+1=k by omega];exact he) (of_decide_eq_true h3))]
    all_goals rw[hS.lt]at h4
    ·rw[hc,iC (gN (i:=k-1) vR vg hlen.symm (by omega) (by rw[show k-1+1=k by omega];exact he.symm) (of_decide_eq_true h4))]
    ·refine again (s':=qg r s (zG (zz (k-1)) 1)) (m:=k-1) (by simp[dO,qg,ae,vi,vl]) (by simp[dP,qg,ae]) rfl (Nat.le_refl 2) (by omega) ⟨by omega,?_,rfl⟩
     have e3:=of_decide_eq_false h3;have e4:=of_decide_eq_false h4;rw[kN (show k-1<l.length by omega),kN (show k-1<m.length by omega),show k-1+1=k by omega,he,show l.getD (k-1) 0=m.getD (k-1) 0 by omega]
   ·rw[hz]at h
    have h:=of_decide_eq_false h;obtain rfl:k=0:=by omega
    simp only[List.drop_zero]at he;rw[hc,he,Jo]
end Go.Proofs.YtekefilngojelaaGreat
end
section
namespace Go.Abs.M
theorem El (l:List Int) (k:Nat):val (l.take (k+1))=val (l.take k)+4294967296^k*l.getD k 0:=by
 rcases Nat.lt_or_ge k l.length with h|h
 ·exact kn h
 ·rw[List.take_of_length_le (by omega),List.take_of_length_le h,List.getD_eq_getElem?_getD,List.getElem?_eq_none h];simp
theorem yL {l:List Int} {k:Nat} (x:Int) (h:k<l.length):(l.set k x).take (k+1)=l.take k ++ [x]:=by
 rw[nC (by simpa using h)];congr 1
 ·rw[List.take_set_of_le (Nat.le_refl _)]
 ·simp[List.getD_eq_getElem?_getD,h]
theorem Rv {l:List Int} {k:Nat} (x:Int) (h:k<l.length):val ((l.set k x).take (k+1))=val (l.take k)+4294967296^k*x:=by
 rw[yL x h,gd,List.length_take,Nat.min_eq_left (Nat.le_of_lt h)];simp[val]
theorem Td {l:List Int} {k:Nat} (x:Int):(l.set k x).drop (k+1)=l.drop (k+1):=List.drop_set_of_lt (Nat.lt_succ_self k)
theorem pt {l:List Int} {k:Nat} (x:Int) (h:k<l.length):(l.set k x).getD k 0=x:=by simp[List.getD_eq_getElem?_getD,h]
theorem xq {p t vo vl vm a b c:Int} (h:vo+c*p=vl+vm) (ht:t=a+b+c):vo+p*(t%4294967296)+t/4294967296*(p*4294967296)=(vl+p*a)+(vm+p*b):=by
 have:t%4294967296+4294967296*(t/4294967296)=t:=Int.emod_add_mul_ediv t 4294967296;generalize t%4294967296=r,t/4294967296=q at *;grind
theorem M6 {p t vo vl vm a b c:Int} (h:vo=vl-vm+c*p) (ht:t=4294967296+a-b-c):vo+p*(t%4294967296)=(vl+p*a)-(vm+p*b)+(1-t/4294967296)*(p*4294967296):=by
 have:t%4294967296+4294967296*(t/4294967296)=t:=Int.emod_add_mul_ediv t 4294967296;generalize t%4294967296=r,t/4294967296=q at *;grind
theorem FC {p t vo v0 x m w c q pi:Int} (h:vo+c*p=v0+x*pi*q) (ht:t=x*m+w+c) {pj:Int} (hp:p=pi*pj):vo+(t%4294967296-w)*p+t/4294967296*(p*4294967296)=v0+x*pi*(q+pj*m):=by
 have:t%4294967296+4294967296*(t/4294967296)=t:=Int.emod_add_mul_ediv t 4294967296;generalize t%4294967296=r,t/4294967296=q' at *;subst hp;grind
theorem AY {x m w c:Int} (hx:0<=x/\x<4294967296) (hm:0<=m/\m<4294967296) (hw:0<=w/\w<4294967296) (hc:0<=c/\c<4294967296):0<=x*m/\x*m+w+c<18446744073709551616:=by
 have h1:x*m<=4294967295*4294967295:=Int.mul_le_mul (by omega) (by omega) hm.1 (by omega);exact⟨Int.mul_nonneg hx.1 hm.1,by omega⟩
theorem FD {o:List Int} {k:Nat} (hw:Wd o) (hk:k<o.length) (h:val o<4294967296^k):o.getD k 0=0:=by
 have h1:=PH o k (by omega);rw[KG hk]at h1;have h2:=sU (hw.take k);have h3:=sU (hw.drop (k+1));have h4:=hw.get k;have hp:=yo k;rcases Int.lt_or_le 0 (o.getD k 0) with h5|h5
 ·exfalso
  have:4294967296^k*1<=4294967296^k*(o.getD k 0+4294967296*val (o.drop (k+1))):=Int.mul_le_mul_of_nonneg_left (by omega) (by omega);omega
 ·omega
theorem xr {a b:Int} {i j:Nat} (ha:0<=a) (hb:0<=b) (h1:a<4294967296^i) (h2:b<4294967296^j):a*b<4294967296^(i+j):=by
 rw[Int.pow_add];have hp:=yo i;have hq:=yo j;have e1:a*b<=a*4294967296^j:=Int.mul_le_mul_of_nonneg_left (by omega) ha;have e2:a*4294967296^j<4294967296^i*4294967296^j:=Int.mul_lt_mul_of_pos_right h1 hq;omega
theorem HN {d t r a q vo:Int} (h:q=d*vo+r) (ht:t=r*4294967296+a):a+4294967296*q=d*(t/d+4294967296*vo)+t%d:=by
 have:t%d+d*(t/d)=t:=Int.emod_add_mul_ediv t d;generalize t%d=r',t/d=q' at *;grind
theorem FF {d r a:Int} (hd:0<d) (hr:0<=r/\r<d) (ha:0<=a/\a<4294967296):0<=(r*4294967296+a)/d/\(r*4294967296+a)/d<4294967296:=by
 refine⟨Int.ediv_nonneg (by omega) (by omega),Int.ediv_lt_of_lt_mul hd ?_⟩;have:(r+1)*4294967296<=d*4294967296:=Int.mul_le_mul_of_nonneg_right (by omega) (by omega);have e:(r+1)*4294967296=r*4294967296+4294967296:=by omega
 have e2:4294967296*d=d*4294967296:=Int.mul_comm ..;omega
end Go.Abs.M
end
section
namespace Go.Proofs.YtekefilngojelaaGreat
open Go Go.Abs Go.Abs.M Go.Proofs
def qh (r s R:Abs.Rows) (n:Int) (len:Nat) (c i:Int):St:=ae 42 [vl r,vl s,.af,.af,fy,vi .i64 n,.c (.sl 2 0 len false),vi .u64 c,vi .i64 i] [none,none,some (.rows 1 R true false)]
theorem uL {r s:Abs.Rows} {l m:List Int} (hr:r=W .u32 l) (hs:s=W .u32 m) (hl:l.length<=1099511627776) (hm:m.length<=1099511627776) (vg:Wd l) (vR:Wd m) :
  ah Tryz.prog 129 [.val (tl r),.val (tl s)] ⟨[.val (tl (W .u32 (dg (val l+val m).toNat)))],[none,none]⟩:=by
 obtain⟨n,hn⟩:∃n:Nat,n=max l.length m.length+1:=⟨_,rfl⟩;refine ar aj mixed [.val] Tryz.func129 rfl rfl (by kernel_rfl) fun zD zE _ _ zI zJ _ _ _ _ _ _ _ _ zV _ _ _ _ zh _ zu zy zz bd _ _ _ _ _ _ ab _ _ aL _ aP a9 aE _ _ bO _ _ _ _ _ _ _ zW _ A L F hS hF=>?_
 have h1:ab r=l.length:=by rw[hS.len,hr,jf]
 have h2:ab s=m.length:=by rw[hS.len,hs,jf]
 have hN:zD .i64 (zE (zh (zz (ab r)) (zz (ab s))) 1)=zz n:=by
  rw[h1,h2,hS.wrap,hS.add,hS.max,hS.aB,hS.aB,hS.aB,hn];split
  ·rw[wrap_i64 (by omega) (by omega)];omega
  ·rw[wrap_i64 (by omega) (by omega)];omega
 have HO:zu (zz n)=n:=by rw[hS.nat,hS.aB];omega
 have jt:bO n [.v (.int .u32 0)]=zW .u32 (List.replicate n 0):=by rw[hS.rep,hS.W];exact xn ..
 cbv;rw[hN,HO,jt];refine nd (by rw[hS.nq,hS.aB];exact decide_eq_true (by unfold az;omega)) ?_;refine fN aj mixed hS (fun(j:Nat) s'=>∃(k:Nat) (o:List Int) (c:Int),k+j=n/\o.length=n/\Wd o/\(0<=c/\c<=1)/\val (o.take k)+c*4294967296^k=val (l.take k)+val (m.take k)/\s'=qh r s (zW .u32 o) (zz n) n c (zz k)) (n:=n)
  (s0:=qh r s (zW .u32 (List.replicate n 0)) (zz n) n 0 (zz 0)) (fi ?_ ?_) rfl (Nat.le_succ 2) ?_ ?_
 ·simp[dO,qh,ae,vi,vl,fy,hS.aB]
 ·simp[dP,qh,ae]
 ·exact⟨0,_,0,by omega,by simp,Wd.rep _,by omega,by simp[val],rfl⟩
 ·rintro j _ ⟨k,o,c,hk,ho,hw,hc,hv,rfl⟩
  have ga:=vg.get k;have gb:=vR.get k;have hwa:=gf (zz k) hr (by omega) vg (by rw[hS.aB];omega);have M7:=gf (zz k) hs (by omega) vR (by rw[hS.aB];omega);rw[show(zz k).toNat=k by rw[hS.aB];omega]at hwa M7;obtain⟨t,ht⟩:∃t,t=l.getD k 0+m.getD k 0+c:=⟨_,rfl⟩;have dN:=xq hv ht;have e1:zD .u64 (zE (zD .u64 (zE (l.getD k 0) (m.getD k 0))) c)=t:=by
   rw[hS.wrap,hS.add,hS.wrap,hS.add,eG (x:=l.getD k 0+m.getD k 0) (by omega) (by omega),eG (by omega) (by omega),ht]
  have e2:zD .u32 (zJ t 4294967296)=t%4294967296:=by rw[hS.rem,Int.tmod_eq_emod_of_nonneg (by omega),hS.wrap];exact LX (by omega) (by omega)
  have e3:zD .u64 (zI t 4294967296)=t/4294967296:=by rw[hS.quo,Int.tdiv_eq_ediv_of_nonneg (by omega),hS.wrap];exact eG (by omega) (by omega)
  have e4:zD .i64 (zE (zz k) 1)=zz (k+1):=by rw[hS.wrap,hS.add,hS.aB,hS.aB,wrap_i64 (by omega) (by omega)];omega
  have e5:bd 0 (zz k)=k:=by rw[hS.idx,hS.aB];omega
  have e6:zV (zz k) (zz n)=decide (k<n):=by
   rw[hS.lt,hS.aB,hS.aB]
   by_cases h:k<n
   ·rw[decide_eq_true h];exact decide_eq_true (by omega)
   ·rw[decide_eq_false h];exact decide_eq_false (by omega)
  have e7:∀x,aP .u32 (zW .u32 o) k x=zW .u32 (o.set k x):=fun x=>by rw[hS.oP,hS.W,pq]
  have e8:k<n->zy (zz k) n=true:=fun h=>by rw[hS.yF,hS.aB];exact decide_eq_true (by omega)
  have e9:k<n->aL .u32 (zW .u32 o) k=true:=fun h=>by rw[hS.gE,hS.W,kM];exact decide_eq_true (by omega)
  have yO:a9 0 n (zW .u32 o)=true:=by rw[hS.fit,hS.W,jf];exact decide_eq_true (by omega)
  have KH:aE (zW .u32 o) 0 n=W .u32 o:=by rw[hS.part,hS.W,kj,List.drop_zero,List.take_of_length_le (by omega)]
  have hT:=Ru (r:=W .u32 o) rfl (by omega) hw;have eL:k=n->val o=val l+val m:=fun h=>by
   subst h;rw[List.take_of_length_le (by omega),List.take_of_length_le (by omega),List.take_of_length_le (by omega)]at hv;have b1:=Dk vg;have b2:=Dk vR;have b3:=jR (show l.length<=max l.length m.length by omega);have b4:=jR (show m.length<=max l.length m.length by omega);have b5:(4294967296:Int)^k=4294967296^max l.length m.length*4294967296:=by rw[hn,Int.pow_succ]
   have b6:=sU hw;have b7:=yo (max l.length m.length);rcases(show c=0∨c=1 by omega) with rfl|rfl
   ·omega
   ·omega
  have jG:k<n->val ((o.set k (t%4294967296)).take (k+1))=val (o.take k)+4294967296^k*(t%4294967296):=fun h=>Rv _ (by omega)
  generalize OM:l.getD k 0=a at *;generalize Jp:m.getD k 0=b at *;cbv;refine⟨fun h=>?_,fun h=>?_⟩
  all_goals rw[e6]at h
  ·have h:=of_decide_eq_true h
   refine⟨_,hS.call hwa,?_⟩;cbv;refine⟨_,hS.call M7,?_⟩;cbv;rw[e1,e2,e3,e4,e5,e7];refine nd (e8 h) (nd (e9 h) ?_);refine again (s':=qh r s (zW .u32 (o.set k (t%4294967296))) (zz n) n (t/4294967296) (zz (k+1))) (m:=j-1) (by simp[dO,qh,ae,vi,vl,fy]) (by simp[dP,qh,ae]) rfl (Nat.le_succ 2) (by omega) ⟨_,_,_,by omega,by simpa using ho,hw.set _ (by omega) (by omega),by omega,?_,rfl⟩
   rw[jG h,El l,El m,Int.pow_succ,OM,Jp];exact dN
  ·have h:=of_decide_eq_false h
   rw[KH];refine nd yO ⟨_,hS.call hT,?_⟩;rw[eL (by omega)];generalize W .u32 (dg (val l+val m).toNat)=x at *;cbv;exact hF _ (ak.refl _)
theorem lQ {zV:Int->Int->Bool} {zz:Nat->Int} (h1:∀a b,zV a b=decide (a<b)) (h2:∀n:Nat,zz n=(n:Int)) (k n:Nat):zV (zz k) (zz n)=decide (k<n):=by
 rw[h1,h2,h2]
 by_cases h:k<n
 ·rw[decide_eq_true h];exact decide_eq_true (by omega)
 ·rw[decide_eq_false h];exact decide_eq_false (by omega)
def qi (r s R:Abs.Rows) (len:Nat) (c i:Int):St:=ae 41 [vl r,vl s,.af,.af,fy,.c (.sl 2 0 len false),vi .u64 c,vi .i64 i] [none,none,some (.rows 1 R true false)]
theorem nF {r s:Abs.Rows} {l m:List Int} (hr:r=W .u32 l) (hs:s=W .u32 m) (hl:l.length<=1099511627776) (hm:m.length<=l.length) (vg:Wd l) (vR:Wd m) (GL:val m<=val l) :
  ah Tryz.prog 130 [.val (tl r),.val (tl s)] ⟨[.val (tl (W .u32 (dg (val l-val m).toNat)))],[none,none]⟩:=by
 obtain⟨n,hn⟩:∃n:Nat,n=l.length:=⟨_,rfl⟩;refine ar aj mixed [.val] Tryz.func130 rfl rfl (by kernel_rfl) fun zD zE zG _ zI zJ _ _ _ _ _ _ _ _ _ zX _ _ _ _ _ zu zy zz bd _ _ _ _ _ _ ab _ _ aL aw aP a9 aE _ _ bO _ _ _ _ _ _ _ zW _ A L F hS hF=>?_
 have h1:ab r=n:=by rw[hS.len,hr,jf,hn]
 have HO:zu (zz n)=n:=by rw[hS.nat,hS.aB];omega
 have jt:bO n [.v (.int .u32 0)]=zW .u32 (List.replicate n 0):=by rw[hS.rep,hS.W];exact xn ..
 cbv;rw[h1,HO,jt];refine nd (by rw[hS.nq,hS.aB];exact decide_eq_true (by unfold az;omega)) ?_;refine fN aj mixed hS (fun(j:Nat) s'=>∃(k:Nat) (o:List Int) (c:Int),k+j=n/\o.length=n/\Wd o/\(0<=c/\c<=1)/\val (o.take k)=val (l.take k)-val (m.take k)+c*4294967296^k/\s'=qi r s (zW .u32 o) n c (zz k)) (n:=n)
  (s0:=qi r s (zW .u32 (List.replicate n 0)) n 0 (zz 0)) (fi ?_ ?_) rfl (Nat.le_succ 2) ?_ ?_
 ·simp[dO,qi,ae,vi,vl,fy,hS.aB]
 ·simp[dP,qi,ae]
 ·exact⟨0,_,0,by omega,by simp,Wd.rep _,by omega,by simp[val],rfl⟩
 ·rintro j _ ⟨k,o,c,hk,ho,hw,hc,hv,rfl⟩
  have ga:=vg.get k;have gb:=vR.get k;have M7:=gf (zz k) hs (by omega) vR (by rw[hS.aB];omega);rw[show(zz k).toNat=k by rw[hS.aB];omega]at M7;obtain⟨t,ht⟩:∃t,t=4294967296+l.getD k 0-m.getD k 0-c:=⟨_,rfl⟩;have dN:=M6 hv ht;have e0:aw r (zu (zz k))=l.getD k 0:=by rw[hS.dF,hS.nat,hS.aB,hr,mP,Int.toNat_natCast]
  have e1:zD .u64 (zG (zD .u64 (zG (zD .u64 (zE 4294967296 (zD .u64 (l.getD k 0)))) (m.getD k 0))) c)=t:=by
   rw[hS.wrap,hS.wrap,hS.wrap,hS.wrap,hS.add,hS.sub,hS.sub,eG (x:=l.getD k 0) (by omega) (by omega),eG (x:=4294967296+l.getD k 0) (by omega) (by omega),eG (x:=4294967296+l.getD k 0-m.getD k 0) (by omega) (by omega),eG (by omega) (by omega),ht]
  have e2:zD .u32 (zJ t 4294967296)=t%4294967296:=by rw[hS.rem,Int.tmod_eq_emod_of_nonneg (by omega),hS.wrap];exact LX (by omega) (by omega)
  have e3:zD .u64 (zG 1 (zD .u64 (zI t 4294967296)))=1-t/4294967296:=by rw[hS.quo,Int.tdiv_eq_ediv_of_nonneg (by omega),hS.wrap,hS.wrap,eG (x:=t/4294967296) (by omega) (by omega),hS.sub];exact eG (by omega) (by omega)
  have e4:k<n->zD .i64 (zE (zz k) 1)=zz (k+1):=fun h=>by rw[hS.wrap,hS.add,hS.aB,hS.aB,wrap_i64 (by omega) (by omega)];omega
  have e5:bd 0 (zz k)=k:=by rw[hS.idx,hS.aB];omega
  have e6:=lQ hS.lt hS.aB k n;have e7:∀x,aP .u32 (zW .u32 o) k x=zW .u32 (o.set k x):=fun x=>by rw[hS.oP,hS.W,pq]
  have e8:k<n->zy (zz k) n=true:=fun h=>by rw[hS.yF,hS.aB];exact decide_eq_true (by omega)
  have e9:k<n->aL .u32 (zW .u32 o) k=true:=fun h=>by rw[hS.gE,hS.W,kM];exact decide_eq_true (by omega)
  have Te:k<n->aL .u32 r (zu (zz k))=true:=fun h=>by rw[hS.gE,hr,hS.nat,hS.aB,kM];exact decide_eq_true (by omega)
  have M8:zX 0 (zz k)=true:=by rw[hS.le,hS.aB];exact decide_eq_true (by omega)
  have yO:a9 0 n (zW .u32 o)=true:=by rw[hS.fit,hS.W,jf];exact decide_eq_true (by omega)
  have KH:aE (zW .u32 o) 0 n=W .u32 o:=by rw[hS.part,hS.W,kj,List.drop_zero,List.take_of_length_le (by omega)]
  have hT:=Ru (r:=W .u32 o) rfl (by omega) hw;have eL:k=n->val o=val l-val m:=fun h=>by
   subst h;rw[List.take_of_length_le (by omega),List.take_of_length_le (by omega),List.take_of_length_le (by omega)]at hv;have b1:=Dk hw;rw[ho]at b1;have b7:=yo k;rcases(show c=0∨c=1 by omega) with rfl|rfl
   ·omega
   ·omega
  have jG:k<n->val ((o.set k (t%4294967296)).take (k+1))=val (o.take k)+4294967296^k*(t%4294967296):=fun h=>Rv _ (by omega)
  generalize OM:l.getD k 0=a at *;generalize Jp:m.getD k 0=b at *;cbv;refine⟨fun h=>?_,fun h=>?_⟩
  all_goals rw[h1]at h
  all_goals rw[e6]at h
  ·have h:=of_decide_eq_true h
   refine nd M8 (nd (Te h) ?_);rw[e0];refine⟨_,hS.call M7,?_⟩;cbv;rw[e1,e2,e3,e4 h,e5,e7];refine nd (e8 h) (nd (e9 h) ?_);refine again (s':=qi r s (zW .u32 (o.set k (t%4294967296))) n (1-t/4294967296) (zz (k+1))) (m:=j-1) (by simp[dO,qi,ae,vi,vl,fy]) (by simp[dP,qi,ae]) rfl (Nat.le_succ 2) (by omega) ⟨_,_,_,by omega,by simpa using ho,hw.set _ (by omega) (by omega),by omega,?_,rfl⟩
   rw[jG h,El l,El m,Int.pow_succ,OM,Jp];exact dN
  ·have h:=of_decide_eq_false h
   rw[KH];refine nd yO ⟨_,hS.call hT,?_⟩;rw[eL (by omega)];generalize W .u32 (dg (val l-val m).toNat)=x at *;cbv;exact hF _ (ak.refl _)
open Go Go.Abs Go.Abs.M Go.Proofs
def qj (r R:Abs.Rows) (d:Int) (len:Nat) (c i:Int):St:=ae 41 [vl r,vi .u64 d,.af,.af,fy,vi .u64 0,.c (.sl 2 0 len false),vi .u64 c,vi .i64 i] [none,none,some (.rows 1 R true false)]
theorem px {r:Abs.Rows} {l:List Int} (d q e:Int) (hr:r=W .u32 l) (hl:l.length<=1099511627776) (vg:Wd l) (hd:0<d) (Rw:d<4294967296) (hq:q=val l/d) (he:e=val l%d) :
  ah Tryz.prog 153 [.val (tl r),.val (ti .u64 d)] ⟨[.val (tl (W .u32 (dg q.toNat))),.val (ti .u64 e)],[none,none]⟩:=by
 obtain⟨n,hn⟩:∃n:Nat,n=l.length:=⟨_,rfl⟩;refine ar aj mixed [.val,.val] Tryz.func153 rfl rfl (by kernel_rfl) fun zD zE zG zH zI zJ _ _ _ _ _ _ _ zU _ zX _ _ _ _ _ zu zy zz bd _ _ _ _ _ _ ab _ _ aL aw aP a9 aE _ _ bO _ _ _ _ _ _ _ zW _ A L F hS hF=>?_
 have h1:ab r=n:=by rw[hS.len,hr,jf,hn]
 have HO:zu (zz n)=n:=by rw[hS.nat,hS.aB];omega
 have jt:bO n [.v (.int .u32 0)]=zW .u32 (List.replicate n 0):=by rw[hS.rep,hS.W];exact xn ..
 have Wz:zD .i64 (zG (zz n) 1)=zG (zz n) 1:=by rw[hS.wrap,hS.sub,hS.aB];exact wrap_i64 (by omega) (by omega)
 have hdz:zU d 0=true:=by rw[hS.ne];exact decide_eq_true (by omega)
 cbv;rw[h1,HO,jt,Wz];refine nd (by rw[hS.nq,hS.aB];exact decide_eq_true (by unfold az;omega)) ?_;refine fN aj mixed hS (fun(k:Nat) s'=>∃(o:List Int) (c:Int),k<=n/\o.length=n/\Wd o/\(0<=c/\c<d)/\val (l.drop k)=d*val (o.drop k)+c/\s'=qj r (zW .u32 o) d n c (zG (zz k) 1)) (n:=n)
  (s0:=qj r (zW .u32 (List.replicate n 0)) d n 0 (zG (zz n) 1)) (fi ?_ ?_) rfl (Nat.le_succ 2) ?_ ?_
 ·simp[dO,qj,ae,vi,vl,fy,hS.aB]
 ·simp[dP,qj,ae]
 ·refine⟨_,0,Nat.le_refl _,by simp,Wd.rep _,by omega,?_,rfl⟩
  rw[List.drop_of_length_le (by omega),List.drop_of_length_le (by simp)];simp[val]
 ·rintro k _ ⟨o,c,hk,ho,hw,hc,hv,rfl⟩
  have ga:=vg.get (k-1);obtain⟨t,ht⟩:∃t,t=c*4294967296+l.getD (k-1) 0:=⟨_,rfl⟩;have dN:=HN hv ht;have hb:=FF hd hc ga;rw[<-ht]at hb;have hcm:0<=c*4294967296/\c*4294967296<=4294967294*4294967296:=by omega
  have SE:=Int.emod_nonneg t (show d≠0 by omega);have adM:=Int.emod_lt_of_pos t hd;have hi:zG (zz k) 1=(k:Int)-1:=by rw[hS.sub,hS.aB]
  have hz:zX 0 (zG (zz k) 1)=decide (1<=k):=by
   rw[hS.le,hi]
   by_cases h:1<=k
   ·rw[decide_eq_true h];exact decide_eq_true (by omega)
   ·rw[decide_eq_false h];exact decide_eq_false (by omega)
  have Jb:1<=k->zu (zG (zz k) 1)=k-1:=fun h=>by rw[hS.nat,hi];omega
  have e0:1<=k->aw r (zu (zG (zz k) 1))=l.getD (k-1) 0:=fun h=>by rw[hS.dF,Jb h,hr,mP]
  have e1:zD .u64 (zE (zD .u64 (zH c 4294967296)) (zD .u64 (l.getD (k-1) 0)))=t:=by
   rw[hS.wrap,hS.wrap,hS.wrap,hS.mul,hS.add,eG (x:=l.getD (k-1) 0) (by omega) (by omega),eG (x:=c*4294967296) (by omega) (by omega),eG (by omega) (by omega),ht]
  have e2:zD .u32 (zD .u64 (zI t d))=t/d:=by rw[hS.quo,Int.tdiv_eq_ediv_of_nonneg (by omega),hS.wrap,hS.wrap,eG (x:=t/d) (by omega) (by omega)];exact LX (by omega) (by omega)
  have e3:zJ t d=t%d:=by rw[hS.rem,Int.tmod_eq_emod_of_nonneg (by omega)]
  have e4:1<=k->zD .i64 (zG (zG (zz k) 1) 1)=zG (zz (k-1)) 1:=fun h=>by rw[hi,hS.wrap,hS.sub,hS.sub,hS.aB,wrap_i64 (by omega) (by omega)];omega
  have e5:1<=k->bd 0 (zG (zz k) 1)=k-1:=fun h=>by rw[hS.idx,hi];omega
  have e7:∀x,aP .u32 (zW .u32 o) (k-1) x=zW .u32 (o.set (k-1) x):=fun x=>by rw[hS.oP,hS.W,pq]
  have e8:1<=k->zy (zG (zz k) 1) n=true:=fun h=>by rw[hS.yF,hi];exact decide_eq_true (by omega)
  have e9:1<=k->aL .u32 (zW .u32 o) (k-1)=true:=fun h=>by rw[hS.gE,hS.W,kM];exact decide_eq_true (by omega)
  have Te:1<=k->aL .u32 r (zu (zG (zz k) 1))=true:=fun h=>by rw[hS.gE,hr,Jb h,kM];exact decide_eq_true (by omega)
  have yO:a9 0 n (zW .u32 o)=true:=by rw[hS.fit,hS.W,jf];exact decide_eq_true (by omega)
  have KH:aE (zW .u32 o) 0 n=W .u32 o:=by rw[hS.part,hS.W,kj,List.drop_zero,List.take_of_length_le (by omega)]
  have hT:=Ru (r:=W .u32 o) rfl (by omega) hw;have eL:k=0->val o=q/\c=e:=fun h=>by
   subst h;simp only[List.drop_zero]at hv;rw[hq,he,hv];exact⟨by rw[Int.add_comm,Int.add_mul_ediv_left _ _ (by omega),Int.ediv_eq_zero_of_lt hc.1 hc.2,Int.zero_add],by rw[Int.add_comm,Int.add_mul_emod_self_left,Int.emod_eq_of_lt hc.1 hc.2]⟩
  have jG:1<=k->val (l.drop (k-1))=d*val ((o.set (k-1) (t/d)).drop (k-1))+t%d:=fun h=>by
   rw[KG (l:=l) (by omega),KG (l:=o.set (k-1) (t/d)) (by simp;omega),pt _ (by omega),Td,show k-1+1=k by omega];exact dN
  generalize OM:l.getD (k-1) 0=a at *;cbv;refine⟨fun h=>?_,fun h=>?_⟩
  ·have a1:=h
   rw[hz]at h;have h:=of_decide_eq_true h;refine nd a1 (nd (Te h) ?_);rw[e0 h,e1,e2,e3,e4 h,e5 h,e7];refine nd hdz (nd (e8 h) (nd (e9 h) (nd hdz ?_)));refine again (s':=qj r (zW .u32 (o.set (k-1) (t/d))) d n (t%d) (zG (zz (k-1)) 1)) (m:=k-1) (by simp[dO,qj,ae,vi,vl,fy]) (by simp[dP,qj,ae]) rfl (Nat.le_succ 2) (by omega) ⟨_,_,by omega,by simpa using ho,hw.set _ (by omega) (by omega),by omega,jG h,rfl⟩
  ·rw[hz]at h
   have h:=of_decide_eq_false h;rw[KH];obtain⟨z1,z2⟩:=eL (by omega);refine nd yO ⟨_,hS.call hT,?_⟩;rw[z1];generalize W .u32 (dg q.toNat)=x at *;cbv;exact PE hF rfl (kl z2)
def qk (r s R:Abs.Rows) (len:Nat) (i:Int):St:=ae 69 [vl r,vl s,.af,.af,fy,.c (.sl 2 0 len false),vi .i64 i] [none,none,some (.rows 1 R true false)]
def lV (r s R:Abs.Rows) (len:Nat) (i c j:Int):St:=ae 69 [vl r,vl s,.af,.af,fy,.c (.sl 2 0 len false),vi .i64 i,vi .u64 c,vi .i64 j] [none,none,some (.rows 1 R true false)]
theorem nG {r s:Abs.Rows} {l m:List Int} (hr:r=W .u32 l) (hs:s=W .u32 m) (hl:l.length<=1099511627776) (hm:m.length<=1099511627776) (vg:Wd l) (vR:Wd m) :
  ah Tryz.prog 132 [.val (tl r),.val (tl s)] ⟨[.val (tl (W .u32 (dg (val l*val m).toNat)))],[none,none]⟩:=by
 obtain⟨n,hn⟩:∃n:Nat,n=l.length+m.length:=⟨_,rfl⟩;refine ar aj mixed [.val] Tryz.func132 rfl rfl (by kernel_rfl) fun zD zE _ zH zI zJ _ _ _ _ _ _ _ _ _ zX _ _ _ _ _ zu zy zz bd _ _ _ _ _ _ ab _ _ aL aw aP a9 aE _ _ bO _ _ _ _ _ _ _ zW _ A L F hS hF=>?_
 have h1:ab r=l.length:=by rw[hS.len,hr,jf]
 have h2:ab s=m.length:=by rw[hS.len,hs,jf]
 have hN:zD .i64 (zE (zz (ab r)) (zz (ab s)))=zz n:=by
  rw[h1,h2,hS.wrap,hS.add,hS.aB,hS.aB,hS.aB,hn,wrap_i64 (by omega) (by omega)];omega
 have HO:zu (zz n)=n:=by rw[hS.nat,hS.aB];omega
 have jt:bO n [.v (.int .u32 0)]=zW .u32 (List.replicate n 0):=by rw[hS.rep,hS.W];exact xn ..
 cbv;rw[hN,HO,jt];refine nd (by rw[hS.nq,hS.aB];exact decide_eq_true (by unfold az;omega)) ?_;refine fN aj mixed hS (fun(u:Nat) s'=>∃(k:Nat) (o:List Int),k+u=l.length/\o.length=n/\Wd o/\val o=val (l.take k)*val m/\s'=qk r s (zW .u32 o) n (zz k)) (n:=l.length)
  (s0:=qk r s (zW .u32 (List.replicate n 0)) n (zz 0)) (fi ?_ ?_) rfl (Nat.le_succ 2) ?_ ?_
 ·simp[dO,qk,ae,vi,vl,fy,hS.aB]
 ·simp[dP,qk,ae]
 ·exact⟨0,_,by omega,by simp,Wd.rep _,by rw[Dl];simp[val],rfl⟩
 ·rintro u _ ⟨k,o,hk,ho,hw,hv,rfl⟩
  have gx:=vg.get k;have yO:a9 0 n (zW .u32 o)=true:=by rw[hS.fit,hS.W,jf];exact decide_eq_true (by omega)
  have KH:aE (zW .u32 o) 0 n=W .u32 o:=by rw[hS.part,hS.W,kj,List.drop_zero,List.take_of_length_le (by omega)]
  have hT:=Ru (r:=W .u32 o) rfl (by omega) hw;have e6:=lQ hS.lt hS.aB k l.length;have Te:k<l.length->aL .u32 r (zu (zz k))=true:=fun h=>by rw[hS.gE,hr,hS.nat,hS.aB,kM];exact decide_eq_true (by omega)
  have M8:zX 0 (zz k)=true:=by rw[hS.le,hS.aB];exact decide_eq_true (by omega)
  have e0:aw r (zu (zz k))=l.getD k 0:=by rw[hS.dF,hS.nat,hS.aB,hr,mP,Int.toNat_natCast]
  have ew:zD .u64 (l.getD k 0)=l.getD k 0:=by rw[hS.wrap,eG (by omega) (by omega)]
  have hvk:=El l k;have eL:k=l.length->val o=val l*val m:=fun h=>by
   subst h;rw[List.take_of_length_le (Nat.le_refl _)]at hv;exact hv
  have ky:val o<4294967296^(k+m.length):=by
   rw[hv];have b:=Dk (vg.take k);rw[List.length_take,Nat.min_eq_left (by omega)]at b;exact xr (sU (vg.take k)) (sU vR) b (Dk vR)
  generalize OM:l.getD k 0=x at *;cbv;refine⟨fun h=>?_,fun h=>?_⟩
  all_goals rw[h1]at h
  all_goals rw[e6]at h
  ·have h:=of_decide_eq_true h
   refine fN aj mixed hS (fun(u':Nat) s'=>∃(j:Nat) (o':List Int) (c:Int),j+u'=m.length/\o'.length=n/\Wd o'/\(0<=c/\c<4294967296)/\o'.drop (k+j)=o.drop (k+j)/\val o'+c*4294967296^(k+j)=val o+x*4294967296^k*val (m.take j)/\s'=lV r s (zW .u32 o') n (zz k) c (zz j)) (n:=m.length)
    (s0:=lV r s (zW .u32 o) n (zz k) 0 (zz 0)) (fi ?_ ?_) rfl (Nat.le_succ 2) ?_ ?_
   ·simp[dO,lV,ae,vi,vl,fy,hS.aB]
   ·simp[dP,lV,ae]
   ·exact⟨0,_,0,by omega,ho,hw,by omega,rfl,by simp[val],rfl⟩
   ·rintro u' _ ⟨j,o',c,hj,WA,KI,hc,Jq,sQ,rfl⟩
    have gm:=vR.get j;have gw:=KI.get (k+j);have hb:=AY gx gm gw hc;obtain⟨t,ht⟩:∃t,t=x*m.getD j 0+o'.getD (k+j) 0+c:=⟨_,rfl⟩;have dN:=FC sQ ht (Int.pow_add 4294967296 k j);have f6:=lQ hS.lt hS.aB j m.length;have f9:j<m.length->aL .u32 s (zu (zz j))=true:=fun h=>by rw[hS.gE,hs,hS.nat,hS.aB,kM];exact decide_eq_true (by omega)
    have Tf:zX 0 (zz j)=true:=by rw[hS.le,hS.aB];exact decide_eq_true (by omega)
    have f0:aw s (zu (zz j))=m.getD j 0:=by rw[hS.dF,hS.nat,hS.aB,hs,mP,Int.toNat_natCast]
    have f1:j<=m.length->zD .i64 (zE (zz k) (zz j))=zz (k+j):=fun h=>by rw[hS.wrap,hS.add,hS.aB,hS.aB,hS.aB,wrap_i64 (by omega) (by omega)];omega
    have UK:zD .i64 (zE (zz k) (zz m.length))=zz (k+m.length):=by rw[hS.wrap,hS.add,hS.aB,hS.aB,hS.aB,wrap_i64 (by omega) (by omega)];omega
    have f2:∀q,bd 0 (zz q)=q:=fun q=>by rw[hS.idx,hS.aB];omega
    have f3:∀q,q<n->zy (zz q) n=true:=fun q hq=>by rw[hS.yF,hS.aB];exact decide_eq_true (by omega)
    have f4:∀q,q<n->aL .u32 (zW .u32 o') q=true:=fun q hq=>by rw[hS.gE,hS.W,kM];exact decide_eq_true (by omega)
    have f5:∀q,aw (zW .u32 o') q=o'.getD q 0:=fun q=>by rw[hS.dF,hS.W,mP]
    have f7:∀q y,aP .u32 (zW .u32 o') q y=zW .u32 (o'.set q y):=fun q y=>by rw[hS.oP,hS.W,pq]
    have fw1:zD .u64 (m.getD j 0)=m.getD j 0:=by rw[hS.wrap,eG (by omega) (by omega)]
    have fw2:zD .u64 (o'.getD (k+j) 0)=o'.getD (k+j) 0:=by rw[hS.wrap,eG (by omega) (by omega)]
    have f8:zD .u64 (zE (zD .u64 (zE (zD .u64 (zH x (m.getD j 0))) (o'.getD (k+j) 0))) c)=t:=by
     rw[hS.wrap,hS.wrap,hS.wrap,hS.mul,hS.add,hS.add,eG (x:=x*m.getD j 0) (by omega) (by omega),eG (x:=x*m.getD j 0+o'.getD (k+j) 0) (by omega) (by omega),eG (by omega) (by omega),ht]
    have e2:zD .u32 (zJ t 4294967296)=t%4294967296:=by rw[hS.rem,Int.tmod_eq_emod_of_nonneg (by omega),hS.wrap];exact LX (by omega) (by omega)
    have e3:zD .u64 (zI t 4294967296)=t/4294967296:=by rw[hS.quo,Int.tdiv_eq_ediv_of_nonneg (by omega),hS.wrap];exact eG (by omega) (by omega)
    have e3':zD .u32 c=c:=by rw[hS.wrap];exact LX (by omega) (by omega)
    have e4:j<m.length->zD .i64 (zE (zz j) 1)=zz (j+1):=fun h=>by rw[hS.wrap,hS.add,hS.aB,hS.aB,wrap_i64 (by omega) (by omega)];omega
    have VG:zD .i64 (zE (zz k) 1)=zz (k+1):=by rw[hS.wrap,hS.add,hS.aB,hS.aB,wrap_i64 (by omega) (by omega)];omega
    have jG:∀q y,q<n->val (o'.set q y)=val o'+(y-o'.getD q 0)*4294967296^q:=fun q y hq=>Dm _ _ _ (by omega)
    have htz:j=m.length->o'.getD (k+j) 0=0:=fun hj=>by
     have e:o'.getD (k+j) 0=o.getD (k+j) 0:=by
      have:=congrArg (fun y=>List.getD y 0 0) Jq;simpa[List.getD_eq_getElem?_getD]using this
     rw[e,hj];exact FD hw (by omega) ky
    have htt:0<=t:=by omega
    have UQ:t<18446744073709551616:=by omega
    have hmj:=El m j;have G2:j=m.length->m.take j=m:=fun h=>List.take_of_length_le (by omega)
    clear ht hb;generalize Jp:m.getD j 0=y at *;generalize Dn:o'.getD (k+j) 0=w at *;cbv;refine⟨fun h'=>?_,fun h'=>?_⟩
    all_goals rw[h2]at h'
    all_goals rw[f6]at h'
    ·have h':=of_decide_eq_true h'
     rw[f1 (by omega),f2,f0,e0,ew,fw1,f5,Dn,fw2,f8,e2,e3,e4 h',f7];refine nd M8 (nd (Te h) (nd Tf (nd (f9 h') (nd (f3 _ (by omega)) (nd (f4 _ (by omega)) (nd (f3 _ (by omega)) (nd (f4 _ (by omega)) ?_)))))));refine again (s':=lV r s (zW .u32 (o'.set (k+j) (t%4294967296))) n (zz k) (t/4294967296) (zz (j+1))) (m:=u'-1) (by simp[dO,lV,ae,vi,vl,fy]) (by simp[dP,lV,ae]) rfl (Nat.le_succ 2) (by omega)
      ⟨_,_,_,by omega,by simpa using WA,KI.set _ (by omega) (by omega),by omega,?_,?_,rfl⟩
     ·rw[show k+(j+1)=k+j+1 by omega,Td]
      have:=congrArg (List.drop 1) Jq;simpa[List.drop_drop]using this
     ·rw[jG _ _ (by omega),Dn,show k+(j+1)=k+j+1 by omega,Int.pow_succ,hmj]
      exact dN
    ·have h':=of_decide_eq_false h'
     have Rx:j=m.length:=by omega
     rw[h2,UK,f2,e3',VG,f7];refine nd (f3 _ (by omega)) (nd (f4 _ (by omega)) ?_);refine again (s':=qk r s (zW .u32 (o'.set (k+m.length) c)) n (zz (k+1))) (m:=u-1) (by simp[dO,qk,ae,vi,vl,fy]) (by simp[dP,qk,ae]) rfl (Nat.le_succ 2) (by omega)
      ⟨_,_,by omega,by simpa using WA,KI.set _ (by omega) (by omega),?_,rfl⟩
     have e:=jG (k+j) c (by omega);rw[Dn,htz Rx]at e;rw[G2 Rx,hv]at sQ;rw[<-Rx,e,hvk];clear e Dn;generalize val (List.take k l)=p1,val m=p2,val o'=p3 at *;generalize (4294967296:Int)^k=p4 at *;generalize (4294967296:Int)^(k+j)=p5 at *;grind
  ·have h:=of_decide_eq_false h
   rw[KH];refine nd yO ⟨_,hS.call hT,?_⟩;rw[eL (by omega)];generalize W .u32 (dg (val l*val m).toNat)=z at *;cbv;exact hF _ (ak.refl _)
end Go.Proofs.YtekefilngojelaaGreat
end
section
namespace Go.Abs
open Go.Abs.M
def mE (n:Nat) (r:Rows):Prop:=r=W .u32 (dg n)
structure eV (x:Int) (s:Bool) (r:Rows):Prop where
 s:s=decide (x<0)
 m:mE x.natAbs r
theorem eV.mk' (x:Int):eV x (decide (x<0)) (W .u32 (dg x.natAbs)):=⟨rfl,rfl⟩
theorem eV.of {x y:Int} {s:Bool} {r:Rows} (h:eV x s r) (e:x=y):eV y s r:=e▸h
theorem eV.inj {x:Int} {s t:Bool} {r q:Rows} (h:eV x s r) (h':eV x t q):s=t/\r=q:=⟨h.s.trans h'.s.symm,h.m.trans h'.m.symm⟩
theorem mE.len {n:Nat} {r:Rows} (h:mE n r):r.length=nl n:=by rw[h,jf];rfl
end Go.Abs
end
section
namespace Go.Proofs.YtekefilngojelaaGreat
open Go Go.Abs Go.Abs.M Go.Proofs
theorem nH {n:Nat} {r:Abs.Rows} (s t:Bool) (hr:mE n r) (hl:nl n<=2199023255552) (ht:t=(s&&decide (n≠0))):ah Tryz.prog 112 [.val (tb s),.val (tl r)] ⟨[.val (.agg (iT t r))],[none,none]⟩:=by
 have h:=HM s t hr hl (jo n) (by
  rw[jA,ht]
  by_cases h:n=0
  ·subst h;rfl
  ·rw[decide_eq_true h,decide_eq_true (by omega)])
 rw[jA,Int.toNat_natCast,<-hr]at h;exact h
theorem eV.made {x:Int} {r:Abs.Rows} (hr:mE x.natAbs r) (t:Bool) (ht:t=decide (x<0)):eV x t r:=⟨ht,hr⟩
theorem fO (n:Int) (h1:-9223372036854775808<=n) (h2:n<9223372036854775808):∃u w,eV n u w/\ah Tryz.prog 76 [.val (ti .i64 n)] ⟨[.val (.agg (iT u w))],[none]⟩:=by
 obtain⟨w,hw⟩:∃w,mE n.natAbs w:=⟨_,rfl⟩;have hl:nl n.natAbs<=2:=tL (by omega);have nJ:=jT n.natAbs (by omega) (by omega);rw[Int.toNat_natCast,show W .u32 (dg n.natAbs)=w from hw.symm]at nJ;refine⟨_,w,⟨rfl,hw⟩,?_⟩;refine ar aj mixed [.val] Tryz.func76 rfl rfl (by kernel_rfl) fun zD zE zG _ _ _ _ _ _ _ _ _ _ _ _ _ _ _ _ _ _ _ _ _ _ _ _ _ _ _ _ _ _ _ _ _ _ _ _ _ _ _ _ _ _ _ _ _ _ _ _ A L F hS hF=>?_
 have e1:n<0->zD .u64 (zE (zD .u64 (zD .i64 (zG 0 (zD .i64 (zE n 1))))) 1)=n.natAbs:=fun h=>by
  rw[hS.wrap,hS.wrap,hS.wrap,hS.wrap,hS.add,hS.sub,hS.add,wrap_i64 (x:=n+1) (by omega) (by omega),wrap_i64 (by omega) (by omega),eG (x:=0-(n+1)) (by omega) (by omega),eG (by omega) (by omega)];omega
 have e2:¬n<0->zD .u64 n=n.natAbs:=fun h=>by rw[hS.wrap,eG (by omega) (by omega)];omega
 have m1:=fun h=>nH true (decide (n<0)) hw (by omega) h
 have m2:=fun h=>nH false (decide (n<0)) hw (by omega) h
 cbv;refine⟨fun h=>?_,fun h=>?_⟩
 all_goals rw[hS.lt]at h
 ·have h':=of_decide_eq_true h
  rw[e1 h'];refine⟨_,hS.call nJ,?_⟩;have m:=m1 (by rw[h,decide_eq_true (by omega)];rfl);rw[h]at m hF;cbv;refine⟨_,hS.call m,?_⟩;cbv;exact hF _ (ak.refl _)
 ·have h':=of_decide_eq_false h
  rw[e2 h'];refine⟨_,hS.call nJ,?_⟩;have m:=m2 (by rw[h];rfl);rw[h]at m hF;cbv;refine⟨_,hS.call m,?_⟩;cbv;exact hF _ (ak.refl _)
theorem lW {x:Int} {s:Bool} {r:Abs.Rows} (c:Int) (hx:eV x s r) (hc:c=bC x 0):ah Tryz.prog 103 [.val (.agg (iT s r))] ⟨[.val (ti .i64 c)],[none]⟩:=by
 have hl:r.length=nl x.natAbs:=hx.m.len;have hz:=@jS x.natAbs;refine ar aj mixed [.val] Tryz.func103 rfl rfl (by kernel_rfl) ?_;intros;rename_i A L F hS hF;cbv;rw[hx.s,hS.min,hS.aB,hS.len,hl];refine⟨fun h=>bn hF (kl ?_),fun h=>bn hF (kl ?_)⟩
 ·rw[hc,fS (of_decide_eq_true h)]
 ·have:=of_decide_eq_false h
  by_cases h0:x=0
  ·subst h0;rw[hc];rfl
  ·rw[hc,iC (by omega)];split<;>omega
theorem FG {x y:Int}:bC (-x) (-y)=bC y x:=by
 unfold bC
 by_cases h:x<y
 ·rw[if_neg (by omega),if_pos (by omega),if_neg (by omega),if_pos h]
 ·by_cases h':y<x
  ·rw[if_pos (by omega),if_pos h']
  ·rw[if_neg (by omega),if_neg (by omega),if_neg h',if_neg h]
theorem AZ {x y:Int} {s t:Bool} {r q:Abs.Rows} (c:Int) (hx:eV x s r) (hy:eV y t q) (hc:c=bC x y) (h1:nl x.natAbs<=2199023255552) (h2:nl y.natAbs<=2199023255552) :
  ah Tryz.prog 134 [.val (.agg (iT s r)),.val (.agg (iT t q))] ⟨[.val (ti .i64 c)],[none,none]⟩:=by
 have c1:=Wy (bC x.natAbs y.natAbs) hx.m hy.m h1 h2 (jo _) (jo _) (iZ _) (iZ _) (by rw[jA,jA]);have c2:=Wy (bC y.natAbs x.natAbs) hy.m hx.m h2 h1 (jo _) (jo _) (iZ _) (iZ _) (by rw[jA,jA]);have n1:x<0->y<0->bC y.natAbs x.natAbs=c:=fun h h'=>by rw[show(y.natAbs:Int)=-y by omega,show(x.natAbs:Int)=-x by omega,FG,hc]
 have n2:¬x<0->¬y<0->bC x.natAbs y.natAbs=c:=fun h h'=>by rw[show(y.natAbs:Int)=y by omega,show(x.natAbs:Int)=x by omega,hc]
 have n3:x<0->¬y<0->-1=c:=fun h h'=>by rw[hc,fS (by omega)]
 have n4:¬x<0->y<0->1=c:=fun h h'=>by rw[hc,iC (by omega)]
 have hs:=hx.s;have ht:=hy.s;generalize bC x.natAbs y.natAbs=u,bC y.natAbs x.natAbs=v at *
 by_cases Ku:x<0
 ·rw[decide_eq_true Ku]at hs
  subst hs
  by_cases qo:y<0
  ·rw[decide_eq_true qo]at ht
   subst ht;refine ar aj mixed [.val] Tryz.func134 rfl rfl (by kernel_rfl) ?_;intros;rename_i A L F hS hF;cbv;refine bT rfl (bF (hS.not _) (bF (hS.not _) (bT rfl ⟨_,hS.call c2,?_⟩)));cbv;exact bn hF (kl (n1 Ku qo))
  ·rw[decide_eq_false qo]at ht
   subst ht;refine ar aj mixed [.val] Tryz.func134 rfl rfl (by kernel_rfl) ?_;intros;rename_i A L F hS hF;cbv;exact bT rfl (bT (hS.not _) (bn hF (kl (n3 Ku qo))))
 ·rw[decide_eq_false Ku]at hs
  subst hs
  by_cases qo:y<0
  ·rw[decide_eq_true qo]at ht
   subst ht;refine ar aj mixed [.val] Tryz.func134 rfl rfl (by kernel_rfl) ?_;intros;rename_i A L F hS hF;cbv;exact bF rfl (bT (hS.not _) (bT rfl (bn hF (kl (n4 Ku qo)))))
  ·rw[decide_eq_false qo]at ht
   subst ht;refine ar aj mixed [.val] Tryz.func134 rfl rfl (by kernel_rfl) ?_;intros;rename_i A L F hS hF;cbv;refine bF rfl (bT (hS.not _) (bF rfl (bF rfl ⟨_,hS.call c1,?_⟩)));cbv;exact bn hF (kl (n2 Ku qo))
theorem A5 {x:Int} {s:Bool} {r:Abs.Rows} (hx:eV x s r) (h1:nl x.natAbs<=2199023255552):∃u w,eV (-x) u w/\ah Tryz.prog 133 [.val (.agg (iT s r))] ⟨[.val (.agg (iT u w))],[none]⟩:=by
 obtain⟨u,hu⟩:∃u,u=decide (-x<0):=⟨_,rfl⟩;refine⟨u,r,⟨hu,by rw[Int.natAbs_neg];exact hx.m⟩,?_⟩;have m:=nH (!s) u hx.m h1 (by
  rw[hu,hx.s];rcases Int.lt_trichotomy x 0 with h|h|h
  ·rw[decide_eq_true h,decide_eq_false (by omega)];rfl
  ·subst h;rfl
  ·rw[decide_eq_true (show -x<0 by omega),decide_eq_false (show ¬x<0 by omega),decide_eq_true (show x.natAbs≠0 by omega)];rfl)
 refine ar aj mixed [.val] Tryz.func133 rfl rfl (by kernel_rfl) ?_;intros;rename_i A L F hS hF;cbv;rw[hS.not];refine⟨_,hS.call m,?_⟩;cbv;exact hF _ (ak.refl _)
theorem A6 {x y:Int} {s t:Bool} {r q:Abs.Rows} (hx:eV x s r) (hy:eV y t q) (h1:nl x.natAbs<=549755813888) (h2:nl y.natAbs<=549755813888) :
  ∃u w,eV (x+y) u w/\ah Tryz.prog 102 [.val (.agg (iT s r)),.val (.agg (iT t q))] ⟨[.val (.agg (iT u w))],[none,none]⟩:=by
 obtain⟨u,hu⟩:∃u,u=decide (x+y<0):=⟨_,rfl⟩;obtain⟨w,hw⟩:∃w,mE (x+y).natAbs w:=⟨_,rfl⟩;refine⟨u,w,⟨hu,hw⟩,?_⟩;have hb:nl (x+y).natAbs<=1099511627776:=by
  have a:=FB (show(x+y).natAbs<=x.natAbs+y.natAbs by omega);have b:=xp x.natAbs y.natAbs;omega
 have hs:=hx.s;have ht:=hy.s;have cc:=Wy (bC x.natAbs y.natAbs) hx.m hy.m (by unfold nl at h1;omega) (by unfold nl at h2;omega) (jo _) (jo _) (iZ _) (iZ _) (by rw[jA,jA]);have ca:=uL hx.m hy.m (by unfold nl at h1;omega) (by unfold nl at h2;omega) (jo _) (jo _);have t1:=fun h h'=>nF hx.m hy.m (by unfold nl at h1;omega) h (jo _) (jo _) h'
 have t2:=fun h h'=>nF hy.m hx.m (by unfold nl at h2;omega) h (jo _) (jo _) h'
 simp only[jA]at ca t1 t2;have m:∀s',u=(s'&&decide ((x+y).natAbs≠0))->_:=fun s' h=>nH s' u hw (by omega) h
 by_cases dN:s=t
 ·have e1:W .u32 (dg ((x.natAbs:Int)+y.natAbs).toNat)=w:=by
   rw[hw];congr 2;rw[hs,ht]at dN
   by_cases h:x<0
   ·rw[decide_eq_true h]at dN;have:=of_decide_eq_true dN.symm;omega
   ·rw[decide_eq_false h]at dN;have:=of_decide_eq_false dN.symm;omega
  have ms:=m s (by
   rw[hs,hu];rw[hs,ht]at dN
   by_cases h:x<0
   ·rw[decide_eq_true h]at dN ⊢;have:=of_decide_eq_true dN.symm;rw[decide_eq_true (by omega),decide_eq_true (by omega)];rfl
   ·rw[decide_eq_false h]at dN ⊢;have:=of_decide_eq_false dN.symm;rw[decide_eq_false (by omega)];rfl)
  rw[e1]at ca;clear t1 t2 m cc;refine ar aj mixed [.val] Tryz.func102 rfl rfl (by kernel_rfl) ?_;intros;rename_i A L F hS hF;cbv;refine bT (by rw[hS.beq];simpa using dN) ⟨_,hS.call ca,?_⟩;cbv;refine⟨_,hS.call ms,?_⟩;cbv;exact hF _ (ak.refl _)
 ·have PJ:(decide (x<0))≠decide (y<0):=by rw[<-hs,<-ht];exact dN
  by_cases bG:x.natAbs<y.natAbs
  ·have e1:W .u32 (dg ((y.natAbs:Int)-x.natAbs).toNat)=w:=by
    rw[hw];congr 2
    by_cases h:x<0<;>by_cases h':y<0<;>simp[h,h']at PJ<;>omega
   have c:=t2 (show nl x.natAbs<=nl y.natAbs from FB (by omega)) (by omega);rw[e1]at c;have ms:=m t (by
    rw[ht,hu];rw[Bool.eq_iff_iff]
    by_cases h:x<0<;>by_cases h':y<0<;>simp[h,h']at PJ<;>simp[h']<;>omega)
   have hcv:bC (x.natAbs:Int) y.natAbs=-1:=fS (by omega);rw[hcv]at cc;clear t1 t2 m ca;refine ar aj mixed [.val] Tryz.func102 rfl rfl (by kernel_rfl) ?_;intros;rename_i A L F hS hF;cbv;refine bF (by rw[hS.beq];simpa using dN) ⟨_,hS.call cc,?_⟩;cbv;refine bT (by rw[hS.lt];rfl) ⟨_,hS.call c,?_⟩;cbv;refine⟨_,hS.call ms,?_⟩;cbv;exact hF _ (ak.refl _)
  ·have e1:W .u32 (dg ((x.natAbs:Int)-y.natAbs).toNat)=w:=by
    rw[hw];congr 2
    by_cases h:x<0<;>by_cases h':y<0<;>simp[h,h']at PJ<;>omega
   have c:=t1 (show nl y.natAbs<=nl x.natAbs from FB (by omega)) (by omega);rw[e1]at c;have ms:=m s (by
    rw[hs,hu];rw[Bool.eq_iff_iff]
    by_cases h:x<0<;>by_cases h':y<0<;>simp[h,h']at PJ<;>simp[h]<;>omega)
   obtain⟨v,hv,Pb⟩:∃v,bC (x.natAbs:Int) y.natAbs=v/\¬v<0:=⟨_,rfl,by
    unfold bC;rw[if_neg (by omega)];split<;>omega⟩
   rw[hv]at cc;clear t1 t2 m ca;refine ar aj mixed [.val] Tryz.func102 rfl rfl (by kernel_rfl) ?_;intros;rename_i A L F hS hF;cbv;refine bF (by rw[hS.beq];simpa using dN) ⟨_,hS.call cc,?_⟩;cbv;refine bF (by rw[hS.lt];exact decide_eq_false Pb) ⟨_,hS.call c,?_⟩;cbv;refine⟨_,hS.call ms,?_⟩;cbv;exact hF _ (ak.refl _)
theorem KJ {x y:Int} {s t:Bool} {r q:Abs.Rows} (hx:eV x s r) (hy:eV y t q) (h1:nl x.natAbs<=549755813888) (h2:nl y.natAbs<=549755813888) :
  ∃u w,eV (x*y) u w/\ah Tryz.prog 96 [.val (.agg (iT s r)),.val (.agg (iT t q))] ⟨[.val (.agg (iT u w))],[none,none]⟩:=by
 obtain⟨u,hu⟩:∃u,u=decide (x*y<0):=⟨_,rfl⟩;obtain⟨w,hw⟩:∃w,mE (x*y).natAbs w:=⟨_,rfl⟩;refine⟨u,w,⟨hu,hw⟩,?_⟩;have hb:nl (x*y).natAbs<=1099511627776:=by
  rw[Int.natAbs_mul];have b:=vO x.natAbs y.natAbs;omega
 have hs:=hx.s;have ht:=hy.s;have c:=nG hx.m hy.m (by unfold nl at h1;omega) (by unfold nl at h2;omega) (jo _) (jo _);simp only[jA]at c;have e1:W .u32 (dg ((x.natAbs:Int)*y.natAbs).toNat)=w:=by
  rw[hw];congr 2;rw[Int.natAbs_mul];have:((x.natAbs:Int)*y.natAbs)=((x.natAbs*y.natAbs:Nat):Int):=by push_cast;rfl
  omega
 rw[e1]at c;have ms:=nH (!(s==t)) u hw (by omega) (by
  rw[hu,hs,ht];rcases Int.lt_trichotomy x 0 with h|h|h
  ·rcases Int.lt_trichotomy y 0 with h'|h'|h'
   ·have:=Int.mul_pos_of_neg_of_neg h h'
    simp[h,h'];omega
   ·subst h';simp
   ·have:=Int.mul_neg_of_neg_of_pos h h'
    have h2:¬y<0:=by omega
    simp[h,h2,this];omega
  ·subst h;simp
  ·rcases Int.lt_trichotomy y 0 with h'|h'|h'
   ·have:=Int.mul_neg_of_pos_of_neg h h'
    have h2:¬x<0:=by omega
    simp[h',h2,this];omega
   ·subst h';simp
   ·have:=Int.mul_pos h h'
    have h2:¬x<0:=by omega
    have h3:¬y<0:=by omega
    have h4:¬x*y<0:=by omega
    simp[h2,h3,h4])
 refine ar aj mixed [.val] Tryz.func96 rfl rfl (by kernel_rfl) ?_;intros;rename_i A L F hS hF;cbv;refine⟨_,hS.call c,?_⟩;cbv;rw[hS.bne];refine⟨_,hS.call ms,?_⟩;cbv;exact hF _ (ak.refl _)
end Go.Proofs.YtekefilngojelaaGreat
end
section
namespace Go.Abs.M
structure Kn (U V t u2 v1 v2 P lo lv:Int):Prop where
 hP:0<P
 hU:U=(t*4294967296+u2)*P+lo
 hV:V=(v1*4294967296+v2)*P+lv
 OE:0<=lo/\lo<P
 PK:0<=lv/\lv<P
 yP:0<=u2/\u2<4294967296
 I7:0<=v2/\v2<4294967296
 EF:2147483648<=v1/\v1<4294967296
 ht:0<=t
 bG:U<V*4294967296
section
variable {U V t u2 v1 v2 P lo lv q g:Int}
theorem Kn.abr (h:Kn U V t u2 v1 v2 P lo lv):t<(v1+1)*4294967296:=by
 obtain⟨hP,hU,hV,OE,PK,yP,I7,EF,ht,bG⟩:=h;rcases Int.lt_or_le t ((v1+1)*4294967296) with h|h
 ·exact h
 ·exfalso
  have e1:(v1+1)*4294967296*4294967296*P<=(t*4294967296+u2)*P:=Int.mul_le_mul_of_nonneg_right (by omega) (by omega);have e2:(v1*4294967296+v2+1)*P<=(v1+1)*4294967296*P:=Int.mul_le_mul_of_nonneg_right (by omega) (by omega);have e3:(v1*4294967296+v2+1)*P=(v1*4294967296+v2)*P+P:=by grind
  have e4:(v1+1)*4294967296*4294967296*P=(v1+1)*4294967296*P*4294967296:=by grind
  omega
theorem Kn.first (h:Kn U V t u2 v1 v2 P lo lv) (hq:q*V<=U) (KK:0<=q):q<=t/v1:=by
 obtain⟨hP,hU,hV,OE,PK,yP,I7,EF,ht,bG⟩:=h;refine Int.le_ediv_of_mul_le (by omega) ?_;rcases Int.lt_or_le t (q*v1) with h|h
 ·exfalso
  have e1:(t+1)*(4294967296*P)<=q*v1*(4294967296*P):=Int.mul_le_mul_of_nonneg_right (by omega) (by omega);have e2:q*(v1*4294967296*P)<=q*V:=Int.mul_le_mul_of_nonneg_left (by
   have:0<=v2*P:=Int.mul_nonneg (by omega) (by omega);have e:(v1*4294967296+v2)*P=v1*4294967296*P+v2*P:=by grind
   omega) KK
  have e3:q*v1*(4294967296*P)=q*(v1*4294967296*P):=by grind
  have e4:(t+1)*(4294967296*P)=t*4294967296*P+4294967296*P:=by grind
  have e5:(t*4294967296+u2)*P=t*4294967296*P+u2*P:=by grind
  have e6:(u2+1)*P<=4294967296*P:=Int.mul_le_mul_of_nonneg_right (by omega) (by omega);have e7:(u2+1)*P=u2*P+P:=by grind
  omega
 ·exact h
theorem Kn.down (h:Kn U V t u2 v1 v2 P lo lv) (hq:q*V<=U) (hg:0<=g) (hqg:q<=g) (PM:(t-g*v1)*4294967296+u2<g*v2):q<=g-1:=by
 obtain⟨hP,hU,hV,OE,PK,yP,I7,EF,ht,bG⟩:=h;rcases Int.lt_or_le q g with h|h
 ·omega
 ·exfalso
  obtain rfl:q=g:=by omega
  have e1:(t*4294967296+u2+1)*P<=(q*(v1*4294967296+v2))*P:=Int.mul_le_mul_of_nonneg_right (by grind) (by omega);have e2:q*((v1*4294967296+v2)*P)<=q*V:=Int.mul_le_mul_of_nonneg_left (by omega) hg;have e3:(q*(v1*4294967296+v2))*P=q*((v1*4294967296+v2)*P):=by grind
  have e4:(t*4294967296+u2+1)*P=(t*4294967296+u2)*P+P:=by grind
  omega
theorem Kn.WB (h:Kn U V t u2 v1 v2 P lo lv) (FH:0<=g) (hg:g<=4294967296) (adN:g*v2<=(t-g*v1)*4294967296+u2):(g-1)*V<=U:=by
 obtain⟨hP,hU,hV,OE,PK,yP,I7,EF,ht,bG⟩:=h;rcases Int.lt_or_le 0 g with h0|h0
 ·have e1:(g*(v1*4294967296+v2))*P<=(t*4294967296+u2)*P:=Int.mul_le_mul_of_nonneg_right (by grind) (by omega)
  have e2:(g-1)*V<=(g-1)*((v1*4294967296+v2+1)*P):=Int.mul_le_mul_of_nonneg_left (by
   have:(v1*4294967296+v2+1)*P=(v1*4294967296+v2)*P+P:=by grind
   omega) (by omega)
  have e3:(g-1)*((v1*4294967296+v2+1)*P)=(g*(v1*4294967296+v2))*P-(v1*4294967296+v2+1-g)*P:=by grind
  have e4:0<=(v1*4294967296+v2+1-g)*P:=Int.mul_nonneg (by omega) (by omega);omega
 ·obtain rfl:g=0:=by omega
  have Tg:0<=V:=by
   have:0<=(v1*4294967296+v2)*P:=Int.mul_nonneg (by omega) (by omega);omega
  have:0<=(t*4294967296+u2)*P:=Int.mul_nonneg (by omega) (by omega);omega
end
theorem WC {u v:List Int} {n:Nat} (hn:2<=n) (hu:u.length=n+1) (hv:v.length=n) (vS:Wd u) (yQ:Wd v) (ky:2147483648<=v.getD (n-1) 0) (bG:val u<val v*4294967296) :
  Kn (val u) (val v) (u.getD n 0*4294967296+u.getD (n-1) 0) (u.getD (n-2) 0) (v.getD (n-1) 0) (v.getD (n-2) 0) (4294967296^(n-2)) (val (u.take (n-2))) (val (v.take (n-2))):=by
 have a:=PH u (n-2) (by omega);rw[KG (by omega),KG (by omega),KG (by omega),show n-2+1=n-1 by omega,show n-1+1=n by omega,List.drop_of_length_le (by omega)]at a;have b:=PH v (n-2) (by omega);rw[KG (by omega),KG (by omega),show n-2+1=n-1 by omega,show n-1+1=n by omega,List.drop_of_length_le (by omega)]at b;have l1:=Dk (vS.take (n-2));have l2:=Dk (yQ.take (n-2));rw[List.length_take,Nat.min_eq_left (by omega)]at l1 l2
 have g1:=vS.get n;have g2:=vS.get (n-1);have g3:=vS.get (n-2);have g4:=yQ.get (n-1);have g5:=yQ.get (n-2);simp only[val]at a b;refine⟨yo _,?_,?_,⟨sU (vS.take _),l1⟩,⟨sU (yQ.take _),l2⟩,g3,g5,⟨ky,g4.2⟩,by omega,bG⟩
 ·rw[a];grind
 ·rw[b];grind
theorem uM {p t vo vu qv a m c br q pr:Int} (h:vo=vu-qv+(br+c)*p) (hp:pr=q*m+c) (ht:t=4294967296+a-pr%4294967296-br) :
  vo+p*(t%4294967296)=(vu+p*a)-(qv+q*(p*m))+(1-t/4294967296+pr/4294967296)*(p*4294967296):=by
 have e1:t%4294967296+4294967296*(t/4294967296)=t:=Int.emod_add_mul_ediv t 4294967296;have e2:pr%4294967296+4294967296*(pr/4294967296)=pr:=Int.emod_add_mul_ediv pr 4294967296;generalize t%4294967296=r,t/4294967296=k,pr%4294967296=r',pr/4294967296=k' at *;grind
def yR:Nat->Int->List Int
 | 0,_=>[]
 | n+1,x=>x%4294967296::yR n (x/4294967296)
theorem PN:∀(n:Nat) (x:Int),(yR n x).length=n
 | 0,_=>rfl
 | n+1,x=>by simp[yR,PN n]
theorem tM:∀(n:Nat) (x:Int),Wd (yR n x)
 | 0,_=>Wd.nil
 | n+1,x=>Wd.cons (by omega) (by omega) (tM n _)
theorem HP (x p:Int) (hp:0<p):x%(p*4294967296)=x%4294967296+4294967296*(x/4294967296%p):=by
 have e1:=Int.emod_add_mul_ediv x 4294967296;have e2:=Int.emod_add_mul_ediv (x/4294967296) p;have b1:=Int.emod_nonneg x (show(4294967296:Int)≠0 by omega);have b2:=Int.emod_lt_of_pos x (show(0:Int)<4294967296 by omega);have b3:=Int.emod_nonneg (x/4294967296) (show p≠0 by omega);have b4:=Int.emod_lt_of_pos (x/4294967296) hp;generalize x%4294967296=r at *;generalize x/4294967296%p=s at *;generalize x/4294967296/p=k at *;generalize x/4294967296=y at *
 have hx:x=(r+4294967296*s)+p*4294967296*k:=by grind
 rw[hx,Int.add_mul_emod_self_left,Int.emod_eq_of_lt (by omega) (by
  have:4294967296*(s+1)<=4294967296*p:=Int.mul_le_mul_of_nonneg_left (by omega) (by omega);have e:4294967296*(s+1)=4294967296*s+4294967296:=by omega
  have e':p*4294967296=4294967296*p:=Int.mul_comm ..;omega)]
theorem oD:∀(n:Nat) (x:Int),val (yR n x)=x%4294967296^n
 | 0,x=>by simp[yR,val,Int.emod_one]
 | n+1,x=>by
  rw[yR,val,oD n,Int.pow_succ,HP x _ (yo n)]
theorem val_inj:∀ {l m:List Int},Wd l->Wd m->l.length=m.length->val l=val m->l=m
 | [],[],_,_,_,_=>rfl
 | [],_::_,_,_,h,_=>by simp at h
 | _::_,[],_,_,h,_=>by simp at h
 | x::l,y::m,hl,hm,h,hv=>by
  have a:=hl.head;have b:=hm.head;simp only[val]at hv;obtain⟨rfl,sQ⟩:x=y/\val l=val m:=by omega
  rw[val_inj hl.tail hm.tail (by simpa using h) sQ]
theorem Dp {l:List Int} {n:Nat} {x b:Int} (hw:Wd l) (hl:l.length=n) (hv:val l=x+b*4294967296^n):l=yR n x:=by
 refine val_inj hw (tM _ _) (by rw[hl,PN]) ?_;rw[oD];have h1:=sU hw;have h2:=Dk hw;rw[hl]at h2;have:x=val l+4294967296^n*(-b):=by grind
 rw[this,Int.add_mul_emod_self_left,Int.emod_eq_of_lt h1 h2]
theorem Th {n:Nat} {x:Int} (h0:0<=x) (h1:x<4294967296^n):val (yR n x)=x:=by rw[oD,Int.emod_eq_of_lt h0 h1]
def ko (v1 v2 u2:Int):Nat->Int->Int->Int
 | 0,q,_=>q
 | f+1,q,e=>if 4294967296<=q∨e*4294967296+u2<q*v2 then(if 4294967296<=e+v1 then q-1 else ko v1 v2 u2 f (q-1) (e+v1)) else q
theorem uN {U V t u2 v1 v2 P lo lv q:Int} (h:Kn U V t u2 v1 v2 P lo lv) (hq:q*V<=U) (KK:0<=q) (hqB:q<4294967296) :
  ∀(f:Nat) (g e:Int),e=t-g*v1->0<=e->e<4294967296->4294967296<=e+f*v1->q<=g->g<=4294967297 ->
   q<=ko v1 v2 u2 f g e/\ko v1 v2 u2 f g e<=4294967296/\(ko v1 v2 u2 f g e-1)*V<=U
 | 0,g,e,he,h0,h1,h2,h3,h4=>by simp at h2;omega
 | f+1,g,e,he,h0,h1,h2,h3,h4=>by
  have EF:=h.EF;have yP:=h.yP;have I7:=h.I7;simp only[ko]
  by_cases PM:4294967296<=g∨e*4294967296+u2<g*v2
  ·rw[if_pos PM]
   have Ws:q<=g-1:=by
    rcases PM with hb|hb
    ·omega
    ·exact h.down hq (by omega) h3 (by rw[<-he];exact hb)
   by_cases WD:4294967296<=e+v1
   ·rw[if_pos WD]
    refine⟨Ws,by omega,h.WB (by omega) (by omega) ?_⟩;have e1:t-(g-1)*v1=e+v1:=by grind
    rw[e1];have:(g-1)*v2<=4294967296*v2:=Int.mul_le_mul_of_nonneg_right (by omega) I7.1;omega
   ·rw[if_neg WD]
    exact uN h hq KK hqB f (g-1) (e+v1) (by grind) (by omega) (by omega) (by
     have:((f+1:Nat):Int)*v1=f*v1+v1:=by push_cast;grind
     omega) Ws (by omega)
  ·rw[if_neg PM]
   have mO:g<4294967296:=by omega
   have mX:g*v2<=e*4294967296+u2:=by omega
   exact⟨h3,by omega,h.WB (by omega) (by omega) (by rw[<-he];exact mX)⟩
def tO (v1 v2 u2 t:Int):Int:=ko v1 v2 u2 3 (t/v1) (t%v1)
theorem FI {U V t u2 v1 v2 P lo lv q:Int} (h:Kn U V t u2 v1 v2 P lo lv) (hq:q*V<=U) (KK:0<=q) (hqB:q<4294967296) :
  q<=tO v1 v2 u2 t/\tO v1 v2 u2 t<=4294967296/\(tO v1 v2 u2 t-1)*V<=U:=by
 have EF:=h.EF;have e:=Int.emod_add_mul_ediv t v1;have b1:=Int.emod_nonneg t (show v1≠0 by omega);have b2:=Int.emod_lt_of_pos t (show 0<v1 by omega);refine uN h hq KK hqB 3 (t/v1) (t%v1) (by grind) b1 (by omega) (by push_cast;omega) (h.first hq KK) ?_;have:=h.abr;have:t/v1<4294967298:=Int.ediv_lt_of_lt_mul (by omega) (by omega);omega
end Go.Abs.M
end
section
namespace Go.Proofs.YtekefilngojelaaGreat
open Go Go.Abs Go.Abs.M Go.Proofs
def qp (r s:Abs.Rows) (len:Nat) (g c b i:Int):St:=ae 49 [.c (.sl 0 0 len false),vl s,vi .u64 g,.af,.af,.af,vb false,vi .u64 c,vi .u64 b,vi .i64 i] [some (.rows 1 r false false),none,none]
theorem Dq {r s r':Abs.Rows} {u v:List Int} (g:Int) (b:Bool) (hr:r=W .u32 u) (hs:s=W .u32 v) (GZ:u.length<=1099511627776) (YH:v.length<u.length) (vS:Wd u) (yQ:Wd v) (FH:0<=g) (hg:g<=4294967296)
  (ym:r'=W .u32 (yR u.length (val u-g*val v))) (hb:b=decide (val u-g*val v<0)) :
  ah Tryz.prog 155 [.fj 1 r,.val (tl s),.val (ti .u64 g)] ⟨[.val (tb b)],[some (.rows 1 r' false false),none,none]⟩:=by
 obtain⟨n,hn⟩:∃n:Nat,n=u.length:=⟨_,rfl⟩;refine ar aj mixed [.val] Tryz.func155 rfl rfl (by kernel_rfl) fun zD zE zG zH zI zJ _ _ _ _ _ _ zT _ _ _ _ _ _ _ _ _ zy zz bd ao _ _ _ _ _ ab _ _ aL aw aP _ _ _ _ _ _ _ _ _ _ _ _ zW _ A L F hS hF=>?_
 have h1:ab r=n:=by rw[hS.len,hr,jf,hn]
 have YR:r=zW .u32 u:=by rw[hS.W];exact hr
 cbv;rw[h1];refine fN aj mixed hS (fun(j:Nat) s'=>∃(k:Nat) (o:List Int) (c b:Int),k+j=n/\o.length=n/\Wd o/\(0<=c/\c<4294967296)/\(0<=b/\b<=1)/\(k=n->c=0)/\o.drop k=u.drop k/\val (o.take k)=val (u.take k)-g*val (v.take k)+(b+c)*4294967296^k/\s'=qp (zW .u32 o) s n g c b (zz k)) (n:=n)
  (s0:=qp (zW .u32 u) s n g 0 0 (zz 0)) (fi ?_ ?_) rfl (Nat.le_refl 3) ?_ ?_
 ·simp[dO,qp,ae,vi,vl,vb,hS.aB]
 ·simp[dP,qp,ae,YR]
 ·exact⟨0,u,0,0,by omega,hn.symm,vS,by omega,by omega,fun _=>rfl,rfl,by simp[val],rfl⟩
 ·rintro j _ ⟨k,o,c,b',hk,ho,hw,hc,bK,hcz,Jq,hv,rfl⟩
  have ga:=vS.get k;have gv:=yQ.get k;have M7:=gf (zz k) hs (by omega) yQ (by rw[hS.aB];omega);rw[show(zz k).toNat=k by rw[hS.aB];omega]at M7;have VN:0<=g*v.getD k 0/\g*v.getD k 0<=4294967296*4294967295:=⟨Int.mul_nonneg FH gv.1,Int.mul_le_mul hg (by omega) gv.1 (by omega)⟩;obtain⟨pr,UR⟩:∃pr,pr=g*v.getD k 0+c:=⟨_,rfl⟩;obtain⟨t,ht⟩:∃t,t=4294967296+u.getD k 0-pr%4294967296-b':=⟨_,rfl⟩
  have dN:=uM hv UR ht;have e5:bd 0 (zz k)=k:=by rw[hS.idx,hS.aB];omega
  have iU:k<n->o.getD k 0=u.getD k 0:=fun h=>by
   have:=congrArg (fun y=>List.getD y 0 0) Jq;simpa[List.getD_eq_getElem?_getD]using this
  have e0:k<n->aw (zW .u32 o) k=u.getD k 0:=fun h=>by rw[hS.dF,hS.W,mP,iU h]
  have eu:zD .u64 (u.getD k 0)=u.getD k 0:=by rw[hS.wrap,eG (by omega) (by omega)]
  have f1:zD .u64 (zE (zD .u64 (zH g (v.getD k 0))) c)=pr:=by
   rw[hS.wrap,hS.wrap,hS.mul,hS.add,eG (x:=g*v.getD k 0) (by omega) (by omega),eG (by omega) (by omega),UR]
  have f2:zJ pr 4294967296=pr%4294967296:=by rw[hS.rem,Int.tmod_eq_emod_of_nonneg (by omega)]
  have f3:zD .u64 (zI pr 4294967296)=pr/4294967296:=by rw[hS.quo,Int.tdiv_eq_ediv_of_nonneg (by omega),hS.wrap];exact eG (by omega) (by omega)
  have e1:zD .u64 (zG (zD .u64 (zG (zD .u64 (zE 4294967296 (u.getD k 0))) (zJ pr 4294967296))) b')=t:=by
   rw[f2,hS.wrap,hS.wrap,hS.wrap,hS.add,hS.sub,hS.sub,eG (x:=4294967296+u.getD k 0) (by omega) (by omega),eG (x:=4294967296+u.getD k 0-pr%4294967296) (by omega) (by omega),eG (by omega) (by omega),ht]
  have e2:zD .u32 (zJ t 4294967296)=t%4294967296:=by rw[hS.rem,Int.tmod_eq_emod_of_nonneg (by omega),hS.wrap];exact LX (by omega) (by omega)
  have e3:zD .u64 (zG 1 (zD .u64 (zI t 4294967296)))=1-t/4294967296:=by rw[hS.quo,Int.tdiv_eq_ediv_of_nonneg (by omega),hS.wrap,hS.wrap,eG (x:=t/4294967296) (by omega) (by omega),hS.sub];exact eG (by omega) (by omega)
  have e4:k<n->zD .i64 (zE (zz k) 1)=zz (k+1):=fun h=>by rw[hS.wrap,hS.add,hS.aB,hS.aB,wrap_i64 (by omega) (by omega)];omega
  have e6:=lQ hS.lt hS.aB k n;have e7:∀x,aP .u32 (zW .u32 o) k x=zW .u32 (o.set k x):=fun x=>by rw[hS.oP,hS.W,pq]
  have e8:k<n->zy (zz k) n=true:=fun h=>by rw[hS.yF,hS.aB];exact decide_eq_true (by omega)
  have e9:k<n->aL .u32 (zW .u32 o) k=true:=fun h=>by rw[hS.gE,hS.W,kM];exact decide_eq_true (by omega)
  have yO:ao (ab (zW .u32 o)) (ab r)=true:=by rw[h1,hS.neq,hS.len,hS.W,jf];exact decide_eq_true (by omega)
  have eL:k=n->W .u32 o=r'/\zT b' 1=b:=fun h=>by
   subst h;rw[List.take_of_length_le (by omega),List.take_of_length_le (by omega),List.take_of_length_le (by omega),hcz rfl,Int.add_zero]at hv;refine⟨?_,?_⟩
   ·rw[ym,<-hn,Dp hw ho hv]
   ·rw[hb,hS.eq]
    have b1:=Dk hw;rw[ho]at b1;have b2:=sU hw;rcases(show b'=0∨b'=1 by omega) with rfl|rfl
    ·rw[decide_eq_false (by omega),decide_eq_false (by omega)]
    ·rw[decide_eq_true rfl,decide_eq_true (by omega)]
  have jG:k<n->val ((o.set k (t%4294967296)).take (k+1))=val (o.take k)+4294967296^k*(t%4294967296):=fun h=>Rv _ (by omega)
  have A7:k+1=n->pr/4294967296=0:=fun h=>by
   rw[UR,List.getD_eq_getElem?_getD,List.getElem?_eq_none (by omega)];simp only[Option.getD_none,Int.mul_zero];omega
  have abu:0<=pr/4294967296/\pr/4294967296<4294967296:=by omega
  have UQ:0<=1-t/4294967296/\1-t/4294967296<=1:=by omega
  clear VN UR ht;generalize OM:u.getD k 0=a at *;generalize Jp:v.getD k 0=m at *;cbv;refine⟨fun h=>?_,fun h=>nd yO ?_⟩
  all_goals rw[e6]at h
  ·have h:=of_decide_eq_true h
   refine⟨_,hS.call M7,?_⟩;cbv;rw[e5,e0 h,eu,f1,f3,e1,e2,e3,e4 h,e7];refine nd (e8 h) (nd (e9 h) (nd (e8 h) (nd (e9 h) ?_)));refine again (s':=qp (zW .u32 (o.set k (t%4294967296))) s n g (pr/4294967296) (1-t/4294967296) (zz (k+1))) (m:=j-1) (by simp[dO,qp,ae,vi,vl,vb]) (by simp[dP,qp,ae]) rfl (Nat.le_refl 3) (by omega)
    ⟨_,_,_,_,by omega,by simpa using ho,hw.set _ (by omega) (by omega),abu,UQ,A7,?_,?_,rfl⟩
   ·rw[Td]
    have:=congrArg (List.drop 1) Jq;simpa[List.drop_drop]using this
   ·rw[jG h,El u,El v,Int.pow_succ,OM,Jp,dN,Int.mul_add]
  ·have h:=of_decide_eq_false h
   obtain⟨z1,z2⟩:=eL (by omega);rw[z2,hS.W,z1];exact hF _ (ak.refl _)
def qq (r s:Abs.Rows) (len:Nat) (c i:Int):St:=ae 32 [.c (.sl 0 0 len false),vl s,.af,.af,vi .u64 c,vi .i64 i] [some (.rows 1 r false false),none]
theorem yS {r s r':Abs.Rows} {u v:List Int} (hr:r=W .u32 u) (hs:s=W .u32 v) (GZ:u.length<=1099511627776) (YH:v.length<=u.length) (vS:Wd u) (yQ:Wd v)
  (ym:r'=W .u32 (yR u.length (val u+val v))) :
  ah Tryz.prog 156 [.fj 1 r,.val (tl s)] ⟨[],[some (.rows 1 r' false false),none]⟩:=by
 obtain⟨n,hn⟩:∃n:Nat,n=u.length:=⟨_,rfl⟩;refine ar aj mixed [] Tryz.func156 rfl rfl (by kernel_rfl) fun zD zE _ _ zI zJ _ _ _ _ _ _ _ _ _ _ _ _ _ _ _ _ zy zz bd ao _ _ _ _ _ ab _ _ aL aw aP _ _ _ _ _ _ _ _ _ _ _ _ zW _ A L F hS hF=>?_
 have h1:ab r=n:=by rw[hS.len,hr,jf,hn]
 have YR:r=zW .u32 u:=by rw[hS.W];exact hr
 cbv;rw[h1];refine fN aj mixed hS (fun(j:Nat) s'=>∃(k:Nat) (o:List Int) (c:Int),k+j=n/\o.length=n/\Wd o/\(0<=c/\c<=1)/\o.drop k=u.drop k/\val (o.take k)+c*4294967296^k=val (u.take k)+val (v.take k)/\s'=qq (zW .u32 o) s n c (zz k)) (n:=n)
  (s0:=qq (zW .u32 u) s n 0 (zz 0)) (fi ?_ ?_) rfl (Nat.le_refl 2) ?_ ?_
 ·simp[dO,qq,ae,vi,vl,vb,hS.aB]
 ·simp[dP,qq,ae,YR]
 ·exact⟨0,u,0,by omega,hn.symm,vS,by omega,rfl,by simp[val],rfl⟩
 ·rintro j _ ⟨k,o,c,hk,ho,hw,hc,Jq,hv,rfl⟩
  have ga:=vS.get k;have gv:=yQ.get k;have M7:=gf (zz k) hs (by omega) yQ (by rw[hS.aB];omega);rw[show(zz k).toNat=k by rw[hS.aB];omega]at M7;obtain⟨t,ht⟩:∃t,t=u.getD k 0+v.getD k 0+c:=⟨_,rfl⟩;have dN:=xq hv ht;have e5:bd 0 (zz k)=k:=by rw[hS.idx,hS.aB];omega
  have iU:k<n->o.getD k 0=u.getD k 0:=fun h=>by
   have:=congrArg (fun y=>List.getD y 0 0) Jq;simpa[List.getD_eq_getElem?_getD]using this
  have e0:k<n->aw (zW .u32 o) k=u.getD k 0:=fun h=>by rw[hS.dF,hS.W,mP,iU h]
  have eu:zD .u64 (u.getD k 0)=u.getD k 0:=by rw[hS.wrap,eG (by omega) (by omega)]
  have e1:zD .u64 (zE (zD .u64 (zE (u.getD k 0) (v.getD k 0))) c)=t:=by
   rw[hS.wrap,hS.add,hS.wrap,hS.add,eG (x:=u.getD k 0+v.getD k 0) (by omega) (by omega),eG (by omega) (by omega),ht]
  have e2:zD .u32 (zJ t 4294967296)=t%4294967296:=by rw[hS.rem,Int.tmod_eq_emod_of_nonneg (by omega),hS.wrap];exact LX (by omega) (by omega)
  have e3:zD .u64 (zI t 4294967296)=t/4294967296:=by rw[hS.quo,Int.tdiv_eq_ediv_of_nonneg (by omega),hS.wrap];exact eG (by omega) (by omega)
  have e4:k<n->zD .i64 (zE (zz k) 1)=zz (k+1):=fun h=>by rw[hS.wrap,hS.add,hS.aB,hS.aB,wrap_i64 (by omega) (by omega)];omega
  have e6:=lQ hS.lt hS.aB k n;have e7:∀x,aP .u32 (zW .u32 o) k x=zW .u32 (o.set k x):=fun x=>by rw[hS.oP,hS.W,pq]
  have e8:k<n->zy (zz k) n=true:=fun h=>by rw[hS.yF,hS.aB];exact decide_eq_true (by omega)
  have e9:k<n->aL .u32 (zW .u32 o) k=true:=fun h=>by rw[hS.gE,hS.W,kM];exact decide_eq_true (by omega)
  have yO:ao (ab (zW .u32 o)) (ab r)=true:=by rw[h1,hS.neq,hS.len,hS.W,jf];exact decide_eq_true (by omega)
  have eL:k=n->W .u32 o=r':=fun h=>by
   subst h;rw[List.take_of_length_le (by omega),List.take_of_length_le (by omega),List.take_of_length_le (by omega)]at hv;rw[ym,<-hn,Dp (x:=val u+val v) (b:=-c) hw ho (by rw[Int.neg_mul];omega)]
  have jG:k<n->val ((o.set k (t%4294967296)).take (k+1))=val (o.take k)+4294967296^k*(t%4294967296):=fun h=>Rv _ (by omega)
  have UQ:0<=t/4294967296/\t/4294967296<=1:=by omega
  clear ht;generalize OM:u.getD k 0=a at *;generalize Jp:v.getD k 0=m at *;cbv;refine⟨fun h=>?_,fun h=>nd yO ?_⟩
  all_goals rw[e6]at h
  ·have h:=of_decide_eq_true h
   rw[e5];refine nd (e8 h) (nd (e9 h) ⟨_,hS.call M7,?_⟩);cbv;rw[e5,e0 h,eu,e1,e2,e3,e4 h,e7];refine nd (e8 h) (nd (e9 h) ?_);refine again (s':=qq (zW .u32 (o.set k (t%4294967296))) s n (t/4294967296) (zz (k+1))) (m:=j-1) (by simp[dO,qq,ae,vi,vl,vb]) (by simp[dP,qq,ae]) rfl (Nat.le_refl 2) (by omega)
    ⟨_,_,_,by omega,by simpa using ho,hw.set _ (by omega) (by omega),UQ,?_,?_,rfl⟩
   ·rw[Td]
    have:=congrArg (List.drop 1) Jq;simpa[List.drop_drop]using this
   ·rw[jG h,El u,El v,Int.pow_succ,OM,Jp]
    exact dN
  ·have h:=of_decide_eq_false h
   rw[hS.W,eL (by omega)];exact hF _ (ak.refl _)
open Go Go.Abs Go.Abs.M Go.Proofs
def jB (r s:Abs.Rows) (len:Nat) (n t q e:Int):St:=ae 75 [.c (.sl 0 0 len false),vl s,.af,.af,vi .u64 0,vi .i64 n,vi .u64 t,vi .u64 q,vi .u64 e] [some (.rows 1 r false false),none]
theorem FJ {r s:Abs.Rows} {u v:List Int} {n:Nat} (g:Int) (hr:r=W .u32 u) (hs:s=W .u32 v) (hu:u.length=n+1) (hv:v.length=n) (hn:2<=n) (Ft:n<=1099511627776) (vS:Wd u) (yQ:Wd v) (ky:2147483648<=v.getD (n-1) 0)
  (hg:g=tO (v.getD (n-1) 0) (v.getD (n-2) 0) (u.getD (n-2) 0) (u.getD n 0*4294967296+u.getD (n-1) 0)) :
  ah Tryz.prog 154 [.fj 1 r,.val (tl s)] ⟨[.val (ti .u64 g)],[some (.rows 1 r false false),none]⟩:=by
 have g1:=vS.get n;have g2:=vS.get (n-1);have g3:=vS.get (n-2);have g4:=yQ.get (n-1);have g5:=yQ.get (n-2);obtain⟨t,ht⟩:∃t,t=u.getD n 0*4294967296+u.getD (n-1) 0:=⟨_,rfl⟩;rw[<-ht]at hg;refine ar aj mixed [.val] Tryz.func154 rfl rfl (by kernel_rfl) fun zD zE zG zH zI zJ _ _ _ _ _ _ _ zU zV zX _ _ _ _ _ zu zy zz bd ao _ _ _ _ _ ab _ _ aL aw _ _ _ _ _ _ _ _ _ _ _ _ _ zW _ A L F hS hF=>?_
 have h1:ab r=n+1:=by rw[hS.len,hr,jf,hu]
 have h2:ab s=n:=by rw[hS.len,hs,jf,hv]
 have YR:r=zW .u32 u:=by rw[hS.W];exact hr
 have w1:zD .i64 (zG (zz n) 1)=zz (n-1):=by rw[hS.wrap,hS.sub,hS.aB,hS.aB,wrap_i64 (by omega) (by omega)];omega
 have w2:zD .i64 (zG (zz n) 2)=zz (n-2):=by rw[hS.wrap,hS.sub,hS.aB,hS.aB,wrap_i64 (by omega) (by omega)];omega
 have f2:∀q,bd 0 (zz q)=q:=fun q=>by rw[hS.idx,hS.aB];omega
 have f3:∀q,q<n+1->zy (zz q) (ab r)=true:=fun q hq=>by rw[h1,hS.yF,hS.aB];exact decide_eq_true (by omega)
 have f4:∀q,q<n+1->aL .u32 r q=true:=fun q hq=>by rw[hS.gE,hr,kM];exact decide_eq_true (by omega)
 have f5:∀q,aw r q=u.getD q 0:=fun q=>by rw[hS.dF,hr,mP]
 have f6:∀q,zX 0 (zz q)=true:=fun q=>by rw[hS.le,hS.aB];exact decide_eq_true (by omega)
 have f7:∀q,q<n->aL .u32 s (zu (zz q))=true:=fun q hq=>by rw[hS.gE,hs,hS.nat,hS.aB,kM];exact decide_eq_true (by omega)
 have f8:∀q,aw s (zu (zz q))=v.getD q 0:=fun q=>by rw[hS.dF,hS.nat,hS.aB,hs,mP,Int.toNat_natCast]
 have eu:∀q,zD .u64 (u.getD q 0)=u.getD q 0:=fun q=>by have:=vS.get q;rw[hS.wrap,eG (by omega) (by omega)]
 have ev:∀q,zD .u64 (v.getD q 0)=v.getD q 0:=fun q=>by have:=yQ.get q;rw[hS.wrap,eG (by omega) (by omega)]
 have et:zD .u64 (zE (zD .u64 (zH (u.getD n 0) 4294967296)) (u.getD (n-1) 0))=t:=by
  rw[hS.wrap,hS.wrap,hS.mul,hS.add,eG (x:=u.getD n 0*4294967296) (by omega) (by omega),eG (by omega) (by omega),ht]
 have UQ:0<=t/\t<18446744073709551616:=by omega
 have YS:zU (v.getD (n-1) 0) 0=true:=by rw[hS.ne];exact decide_eq_true (by omega)
 have KK:0<=t/v.getD (n-1) 0:=Int.ediv_nonneg (by omega) (by omega);have WE:t/v.getD (n-1) 0<8589934592:=Int.ediv_lt_of_lt_mul (by omega) (by omega);have yw:=Int.emod_nonneg t (show v.getD (n-1) 0≠0 by omega);have An:=Int.emod_lt_of_pos t (show 0<v.getD (n-1) 0 by omega);have eq:zD .u64 (zI t (v.getD (n-1) 0))=t/v.getD (n-1) 0:=by rw[hS.quo,Int.tdiv_eq_ediv_of_nonneg (by omega),hS.wrap];exact eG (by omega) (by omega)
 have er:zJ t (v.getD (n-1) 0)=t%v.getD (n-1) 0:=by rw[hS.rem,Int.tmod_eq_emod_of_nonneg (by omega)]
 have tP:ko (v.getD (n-1) 0) (v.getD (n-2) 0) (u.getD (n-2) 0) 3 (t/v.getD (n-1) 0) (t%v.getD (n-1) 0)=g:=hg.symm;have yO:ao (ab r) (ab r)=true:=by rw[hS.neq];exact decide_eq_true rfl
 clear hg ht;generalize US:v.getD (n-1) 0=v1 at *;generalize LQ:v.getD (n-2) 0=v2 at *;generalize ha3:u.getD (n-2) 0=u2 at *;generalize ha4:u.getD n 0=u0 at *;generalize ha5:u.getD (n-1) 0=u1 at *;have eu0:=eu n;have eu1:=eu (n-1);have eu2:=eu (n-2);have ev1:=ev (n-1);have ev2:=ev (n-2);rw[ha4]at eu0;rw[ha5]at eu1;rw[ha3]at eu2;rw[US]at ev1;rw[LQ]at ev2;cbv;rw[h2,w1,f2,f2,f5,f5,f8,US,ha4,ha5,eu0,eu1,ev1,et,eq,er]
 refine nd (f3 _ (by omega)) (nd (f4 _ (by omega)) (nd (f3 _ (by omega)) (nd (f4 _ (by omega)) (nd (f6 _) (nd (f7 _ (by omega)) (nd YS (nd (f6 _) (nd (f7 _ (by omega)) (nd YS ?_)))))))));generalize t/v1=q0,t%v1=m0 at *;refine fN aj mixed hS (fun(j:Nat) s'=>∃(q e:Int),0<=q/\q<8589934592/\0<=e/\e<4294967296/\ko v1 v2 u2 j q e=g/\4294967296<=e+j*v1/\s'=jB r s (ab r) (zz n) t q e) (n:=3)
  (s0:=jB r s (ab r) (zz n) t q0 m0) (fi ?_ ?_) rfl (Nat.le_refl 2) ?_ ?_
 ·simp[dO,jB,ae,vi,vl,vb,hS.aB]
 ·simp[dP,jB,ae]
 ·exact⟨q0,m0,KK,WE,yw,by omega,tP,by push_cast;omega,rfl⟩
 ·rintro j _ ⟨q,e,b1,b2,b3,b4,PO,hme,rfl⟩
  have j0:j≠0:=by
   rintro rfl
   simp at hme;omega
  obtain⟨j,rfl⟩:∃i,j=i+1:=⟨j-1,by omega⟩;have abx:4294967296<=(e+v1)+j*v1:=by
   have:((j+1:Nat):Int)*v1=j*v1+v1:=by push_cast;grind
   omega
  simp only[ko]at PO;have x1:zX 4294967296 q=decide (4294967296<=q):=by rw[hS.le]
  have x2:zD .u64 (zE e v1)=e+v1:=by rw[hS.wrap,hS.add];exact eG (by omega) (by omega)
  have x3:zX 4294967296 (e+v1)=decide (4294967296<=e+v1):=by rw[hS.le]
  have x4:0<q->zD .u64 (zG q 1)=q-1:=fun h=>by rw[hS.wrap,hS.sub];exact eG (by omega) (by omega)
  have YT:q<4294967296->0<=q*v2/\q*v2<=4294967295*4294967295:=fun h=>⟨Int.mul_nonneg b1 g5.1,Int.mul_le_mul (by omega) (by omega) g5.1 (by omega)⟩
  have x5:q<4294967296->zV (zD .u64 (zE (zD .u64 (zH e 4294967296)) u2)) (zD .u64 (zH q v2))=decide (e*4294967296+u2<q*v2):=fun h=>by
   have:=YT h;rw[hS.lt,hS.wrap,hS.wrap,hS.wrap,hS.mul,hS.mul,hS.add,eG (x:=e*4294967296) (by omega) (by omega),eG (x:=e*4294967296+u2) (by omega) (by omega),eG (x:=q*v2) (by omega) (by omega)]
  have mT:e*4294967296+u2<q*v2->0<q:=fun h=>by
   rcases Int.lt_or_le 0 q with h'|h'
   ·exact h'
   ·obtain rfl:q=0:=by omega
    omega
  have fin:∀x:Int,x=g->F ⟨[.val (.c (.v (.int .u64 x)))],[some (.rows 1 r false false),none]⟩:=fun x hx=>by rw[hx];exact hF _ (ak.refl _)
  have step:(4294967296<=q∨e*4294967296+u2<q*v2)->¬4294967296<=e+v1->0<q->∀(T:List AV) (H:bM),dO T (jB r s (ab r) (zz n) t (q-1) (e+v1)).tmps->dP H (jB r s (ab r) (zz n) t (q-1) (e+v1)).heap->∃s':St,(St.mk T H).Le s'/\s'.aM=true/\[Arg.fj 1 r,Arg.val (tl s)].length<=s'.heap.length/\∃m,m<j+1/\∃(q e:Int),0<=q/\q<8589934592/\0<=e/\e<4294967296/\ko v1 v2 u2 m q e=g/\4294967296<=e+m*v1/\s'=jB r s (ab r) (zz n) t q e:=fun hb hc hp T H hT hH=>by
   rw[if_pos hb,if_neg hc]at PO;exact⟨_,fi hT hH,rfl,Nat.le_refl 2,j,by omega,q-1,e+v1,by omega,by omega,by omega,by omega,PO,abx,rfl⟩
  cbv;rw[w1,w2,f2,f8,f8,f5,US,LQ,ha3,ev1,ev2,eu2,x2];refine⟨fun h=>?_,fun h=>?_⟩
  all_goals rw[x1]at h
  ·have h:=of_decide_eq_true h
   rw[x4 (by omega)];refine nd (f6 _) (nd (f7 _ (by omega)) ⟨fun h'=>nd yO (fin _ ?_),fun h'=>?_⟩)
   all_goals rw[x3]at h'
   ·rw[if_pos (.inl h),if_pos (of_decide_eq_true h')]at PO
    exact PO
   ·exact step (.inl h) (of_decide_eq_false h') (by omega) _ _ (by simp[dO,jB,ae,vi,vl,vb]) (by simp[dP,jB,ae])
  ·have h:=of_decide_eq_false h
   refine nd (f6 _) (nd (f7 _ (by omega)) (nd (f3 _ (by omega)) (nd (f4 _ (by omega)) ⟨fun Hu=>?_,fun Hu=>nd yO (fin _ ?_)⟩)))
   all_goals rw[x5 (by omega)]at Hu
   ·have Hu:=of_decide_eq_true Hu
    have hp:=mT Hu;rw[x4 hp];refine nd (f6 _) (nd (f7 _ (by omega)) ⟨fun h'=>nd yO (fin _ ?_),fun h'=>?_⟩)
    all_goals rw[x3]at h'
    ·rw[if_pos (.inr Hu),if_pos (of_decide_eq_true h')]at PO
     exact PO
    ·exact step (.inr Hu) (of_decide_eq_false h') hp _ _ (by simp[dO,jB,ae,vi,vl,vb]) (by simp[dP,jB,ae])
   ·have Hu:=of_decide_eq_false Hu
    rw[if_neg (by omega)]at PO;exact PO
end Go.Proofs.YtekefilngojelaaGreat
end
section
namespace Go.Abs.M
def dK (l:List Int) (c:Nat) (xs:List Int):List Int:=l.take c++xs++l.drop (c+xs.length)
theorem FK {l:List Int} {p:Nat} (hw:Wd l) (h:val l<4294967296^p):val (l.take p)=val l/\val (l.drop p)=0:=by
 rcases Nat.lt_or_ge l.length p with hp|hp
 ·rw[List.take_of_length_le (by omega),List.drop_of_length_le (by omega)];exact⟨rfl,rfl⟩
 ·have e:=PH l p hp
  have a:=sU (hw.take p);have b:=sU (hw.drop p);have hq:=yo p;rcases Int.lt_or_le 0 (val (l.drop p)) with h0|h0
  ·exfalso
   have:4294967296^p*1<=4294967296^p*val (l.drop p):=Int.mul_le_mul_of_nonneg_left (by omega) (by omega);omega
  ·have hz:val (l.drop p)=0:=by omega
   rw[hz]at e;exact⟨by omega,hz⟩
structure oR (U V:Int) (n m k:Nat) (u q:List Int):Prop where
 ul:u.length=n+m+1
 ql:q.length=m+1
 uw:Wd u
 qw:Wd q
 hk:k<=m+1
 eq:U=val u+V*4294967296^k*val (q.drop k)
 lt:val (u.drop k)<V
def dD (n j:Nat) (u:List Int):List Int:=(u.drop j).take (n+1)
section
variable {U V:Int} {n m j:Nat} {u q v:List Int}
theorem oR.FL (h:oR U V n m (j+1) u q) (hV:V<4294967296^n):val (dD n j u)=val (u.drop j)/\val (u.drop (j+(n+1)))=0/\val (dD n j u)<V*4294967296:=by
 have hj:=h.hk;have GZ:=h.ul;have bG:=h.lt;have e:=KG (l:=u) (k:=j) (by omega);have hw:=h.uw.get j;have hb:val (u.drop j)<V*4294967296:=by omega
 have mX:val (u.drop j)<4294967296^(n+1):=by rw[Int.pow_succ];omega
 obtain⟨a,b⟩:=FK (h.uw.drop j) mX;refine⟨a,?_,by unfold dD;omega⟩;rw[List.drop_drop]at b;exact b
theorem Dr (hu:u.length=n+m+1) (hj:j<=m):(dD n j u).length=n+1:=by unfold dD;simp;omega
theorem l9 {c:Nat} {xs l:List Int} (h:c+xs.length<=l.length):(dK l c xs).length=l.length:=by unfold dK;simp;omega
theorem FM {c:Nat} {xs l:List Int} (hl:Wd l) (hx:Wd xs):Wd (dK l c xs):=((hl.take c).append hx).append (hl.drop _)
theorem A8 {c:Nat} {xs l:List Int} (h:c+xs.length<=l.length):val (dK l c xs)=val (l.take c)+4294967296^c*(val xs+4294967296^xs.length*val (l.drop (c+xs.length))):=by
 unfold dK;rw[List.append_assoc,gd,gd,List.length_take,Nat.min_eq_left (by omega)]
theorem qx {c:Nat} {xs l:List Int} (h:c+xs.length<=l.length):(dK l c xs).drop c=xs++l.drop (c+xs.length):=by
 unfold dK;rw[List.append_assoc,List.drop_append_of_le_length (by simp;omega),List.drop_of_length_le (by simp;omega)];rfl
theorem oR.step (h:oR U V n m (j+1) u q) (hV:V<4294967296^n) (Tg:0<V) {d:Int} (hd:d=val (dD n j u)/V) :
  0<=d/\d<4294967296/\oR U V n m j (dK u j (yR (n+1) (val (dD n j u)-d*V))) (q.set j d):=by
 obtain⟨p1,p2,p3⟩:=h.FL hV;have hj:=h.hk;have GZ:=h.ul;have VV:Wd (dD n j u):=(h.uw.drop j).take _;have G4:=sU VV;have UT:0<=d:=by rw[hd];exact Int.ediv_nonneg G4 (by omega)
 have hd1:d<4294967296:=by rw[hd];exact Int.ediv_lt_of_lt_mul Tg (by rw[Int.mul_comm];exact p3)
 have yw:=Int.emod_nonneg (val (dD n j u)) (show V≠0 by omega);have An:=Int.emod_lt_of_pos (val (dD n j u)) Tg;have hme:=Int.emod_add_mul_ediv (val (dD n j u)) V;rw[<-hd]at hme;have WG:(4294967296:Int)^(n+1)=4294967296^n*4294967296:=Int.pow_succ ..;have hpp:=yo n;have hx:val (yR (n+1) (val (dD n j u)-d*V))=val (dD n j u)-d*V:=Th (by
  have:d*V=V*d:=Int.mul_comm ..;omega) (by
  have:d*V=V*d:=Int.mul_comm ..;omega)
 have hwl:=PN (n+1) (val (dD n j u)-d*V);have kA:j+(yR (n+1) (val (dD n j u)-d*V)).length<=u.length:=by rw[hwl];omega
 refine⟨UT,hd1,⟨by rw[l9 kA];exact GZ,by simpa using h.ql,FM h.uw (tM _ _),h.qw.set _ UT hd1,by omega,?_,?_⟩⟩
 ·have e1:=A8 kA
  rw[hwl,hx,p2,Int.mul_zero,Int.add_zero]at e1;have e2:=PH u j (by omega);rw[<-p1]at e2;have e3:val ((q.set j d).drop j)=d+4294967296*val (q.drop (j+1)):=by
   have UW:=h.ql;rw[KG (by simp;omega),pt _ (by omega),Td]
  rw[e1,e3,h.eq,e2,Int.pow_succ];grind
 ·rw[qx kA,gd,hwl,hx,p2]
  have:d*V=V*d:=Int.mul_comm ..;omega
end
theorem M9 {X V g d:Int} (hV:0<V) (hd:d=X/V) (h1:d<=g) (h2:(g-1)*V<=X):(X-g*V<0->g-1=d)/\(¬X-g*V<0->g=d):=by
 have e:=Int.emod_add_mul_ediv X V;have b1:=Int.emod_nonneg X (show V≠0 by omega);have b2:=Int.emod_lt_of_pos X hV;rw[<-hd]at e;have hg:g<=d+1:=by
  rcases Int.lt_or_le (d+1) g with h|h
  ·exfalso
   have:(d+1)*V<=(g-1)*V:=Int.mul_le_mul_of_nonneg_right (by omega) (by omega);have e2:(d+1)*V=V*d+V:=by grind
   omega
  ·exact h
 refine⟨fun h=>?_,fun h=>?_⟩
 ·rcases(show g=d∨g=d+1 by omega) with rfl|rfl
  ·have:g*V=V*g:=Int.mul_comm ..
   omega
  ·omega
 ·rcases(show g=d∨g=d+1 by omega) with rfl|rfl
  ·rfl
  ·have e2:(d+1)*V=V*d+V:=by grind
   omega
theorem Na {n:Nat} {x y:Int}:yR n (val (yR n x)+y)=yR n (x+y):=by
 refine val_inj (tM _ _) (tM _ _) (by rw[PN,PN]) ?_;rw[oD,oD,oD,Int.emod_add_emod]
theorem oR.start {U V:Int} {n m:Nat} {u:List Int} (hu:u.length=n+m+1) (hw:Wd u) (hU:val u=U) (bG:U<V*4294967296^(m+1)):oR U V n m (m+1) u (List.replicate (m+1) 0):=by
 refine⟨hu,by simp,hw,Wd.rep _,Nat.le_refl _,?_,?_⟩
 ·rw[List.drop_of_length_le (by simp)];simp[val,hU]
 ·have e:=PH u (m+1) (by omega)
  have a:=sU (hw.take (m+1));rcases Int.lt_or_le (val (u.drop (m+1))) V with h|h
  ·exact h
  ·exfalso
   have:4294967296^(m+1)*V<=4294967296^(m+1)*val (u.drop (m+1)):=Int.mul_le_mul_of_nonneg_left h (by have:=yo (m+1);omega);have e2:V*4294967296^(m+1)=4294967296^(m+1)*V:=Int.mul_comm ..;omega
theorem oR.last {a b d:Int} {n m:Nat} {u q:List Int} (h:oR (d*a) (d*b) n m 0 u q) (hd:0<d) (hb:0<b):val q=a/b/\val u/d=a%b:=by
 have e:=h.eq;have l:=h.lt;simp only[List.drop_zero,Int.pow_zero,Int.mul_one]at e l;have hu:=sU h.uw;have e1:val u=d*(a-b*val q):=by grind
 have r0:0<=a-b*val q:=by
  rcases Int.lt_or_le (a-b*val q) 0 with h|h
  ·have:=Int.mul_neg_of_pos_of_neg hd h;omega
  ·exact h
 have r1:a-b*val q<b:=by
  rcases Int.lt_or_le (a-b*val q) b with h|h
  ·exact h
  ·have:=Int.mul_le_mul_of_nonneg_left h (show 0<=d by omega)
   omega
 have hq:a/b=val q/\a%b=a-b*val q:=by
  have e2:a=(a-b*val q)+b*val q:=by omega
  refine⟨?_,?_⟩
  ·conv=>lhs;rw[e2]
   rw[Int.add_mul_ediv_left _ _ (by omega),Int.ediv_eq_zero_of_lt r0 r1,Int.zero_add]
  ·conv=>lhs;rw[e2]
   rw[Int.add_mul_emod_self_left,Int.emod_eq_of_lt r0 r1]
 refine⟨hq.1.symm,?_⟩;rw[hq.2,e1,Int.mul_ediv_cancel_left _ (by omega)]
theorem PQ {b w d:Int} {n:Nat} (hw0:1<=w) (LY:w<4294967296) (hd:d=4294967296/(w+1)) (h1:w*4294967296^n<=b) (h2:b<(w+1)*4294967296^n) :
  1<=d/\d<4294967296/\2147483648*4294967296^n<=d*b/\d*b<4294967296*4294967296^n:=by
 have e:=Int.emod_add_mul_ediv 4294967296 (w+1);have b1:=Int.emod_nonneg 4294967296 (show w+1≠0 by omega);have b2:=Int.emod_lt_of_pos 4294967296 (show 0<w+1 by omega);rw[<-hd]at e;have hp:=yo n;have d1:1<=d:=by
  rw[hd];exact Int.le_ediv_of_mul_le (by omega) (by omega)
 have d2:d<4294967296:=by
  rw[hd];exact Int.ediv_lt_of_lt_mul (by omega) (by omega)
 have rK:2147483648<=d*w:=by
  rcases(show d=1∨2<=d by omega) with h|h
  ·rw[h]at e ⊢;omega
  ·rcases(show w=1∨2<=w by omega) with h'|h'
   ·subst h';omega
   ·have:2*(w-1)<=d*(w-1):=Int.mul_le_mul_of_nonneg_right h (by omega)
    have e1:d*(w-1)=d*w-d:=by grind
    have e2:(w+1)*d=d*w+d:=by grind
    omega
 refine⟨d1,d2,?_,?_⟩
 ·have x1:d*(w*4294967296^n)<=d*b:=Int.mul_le_mul_of_nonneg_left h1 (by omega)
  have x2:2147483648*4294967296^n<=d*w*4294967296^n:=Int.mul_le_mul_of_nonneg_right rK (by omega);have x3:d*w*4294967296^n=d*(w*4294967296^n):=by grind
  omega
 ·have x1:d*b<d*((w+1)*4294967296^n):=Int.mul_lt_mul_of_pos_left h2 (by omega)
  have x2:(w+1)*d*4294967296^n<=4294967296*4294967296^n:=Int.mul_le_mul_of_nonneg_right (by omega) (by omega);have x3:(w+1)*d*4294967296^n=d*((w+1)*4294967296^n):=by grind
  omega
theorem xt {l:List Int} {n:Nat} (hw:Wd l) (hl:l.length=n+1):l.getD n 0*4294967296^n<=val l/\val l<(l.getD n 0+1)*4294967296^n:=by
 have e:=PH l n (by omega);rw[KG (by omega),List.drop_of_length_le (by omega)]at e;have a:=sU (hw.take n);have b:=Dk (hw.take n);rw[List.length_take,Nat.min_eq_left (by omega)]at b;simp only[val]at e;have x1:(l.getD n 0+1)*4294967296^n=l.getD n 0*4294967296^n+4294967296^n:=by grind
 have x2:4294967296^n*(l.getD n 0+4294967296*0)=l.getD n 0*4294967296^n:=by grind
 omega
theorem FN {n j:Nat} {u x:List Int} (hx:x.length=n+1) (h:j+(n+1)<=u.length):dD n j (dK u j x)=x:=by
 unfold dD;rw[qx (by omega),List.take_append_of_le_length (by omega),List.take_of_length_le (by omega)]
theorem HQ {n j:Nat} {u:List Int} (h:j+(n+1)<=u.length):dK u j (dD n j u)=u:=by
 unfold dK dD;rw[List.length_take,List.length_drop,Nat.min_eq_left (by omega)];have e:List.drop (j+(n+1)) u=List.drop (n+1) (List.drop j u):=by rw[List.drop_drop]
 rw[e,List.append_assoc,List.take_append_drop,List.take_append_drop]
theorem FO {j:Nat} {u x y:List Int} (hxy:x.length=y.length) (h:j+x.length<=u.length):dK (dK u j x) j y=dK u j y:=by
 have e1:(dK u j x).take j=u.take j:=by
  unfold dK;rw[List.append_assoc,List.take_append_of_le_length (by simp;omega),List.take_of_length_le (by simp;omega)]
 have e2:(dK u j x).drop (j+y.length)=u.drop (j+y.length):=by
  have:=qx h;rw[<-List.drop_drop,this,List.drop_append_of_le_length (by omega),List.drop_of_length_le (by omega),hxy];rfl
 show(dK u j x).take j++y++(dK u j x).drop (j+y.length)=dK u j y
 rw[e1,e2];rfl
theorem Nb {n:Nat} {x:List Int} (h:x.length<=n) (hw:Wd x):val (dK (List.replicate n 0) 0 x)=val x/\(dK (List.replicate n 0) 0 x).length=n/\Wd (dK (List.replicate n 0) 0 x):=by
 refine⟨?_,by rw[l9 (by simp;omega)];simp,FM (Wd.rep _) hw⟩;rw[A8 (by simp;omega)];simp[val,Dl]
end Go.Abs.M
namespace Go.Abs.M
theorem KL {U V:Int} {n m j:Nat} {u q lv:List Int} (hI:oR U V n m (j+1) u q) (hn:2<=n) (Ti:lv.length=n) (Nc:Wd lv) (Jr:val lv=V) (ky:2147483648<=lv.getD (n-1) 0) :
  ∃(g qd:Int) (b:Bool) (x1:List Int),g=tO (lv.getD (n-1) 0) (lv.getD (n-2) 0) ((dD n j u).getD (n-2) 0) ((dD n j u).getD n 0*4294967296+(dD n j u).getD (n-1) 0)/\0<=g/\g<=4294967296/\0<=qd/\qd<4294967296 /\
   b=decide (val (dD n j u)-g*val lv<0)/\x1=yR (n+1) (val (dD n j u)-g*val lv)/\x1.length=n+1/\Wd x1/\j<=m/\u.length=n+m+1/\q.length=m+1/\(dD n j u).length=n+1/\Wd (dD n j u) /\
   (b=true->g-1=qd/\∃x2,x2=yR x1.length (val x1+val lv)/\x2.length=n+1/\oR U V n m j (dK u j x2) (q.set j qd)) /\
   (b=false->g=qd/\oR U V n m j (dK u j x1) (q.set j qd)):=by
 have Tj:V<4294967296^n:=by rw[<-Jr,<-Ti];exact Dk Nc
 have Tg:0<V:=by
  have h1:=(xt Nc (n:=n-1) (by omega)).1;rw[Jr]at h1;have h2:=Int.mul_pos (show 0<lv.getD (n-1) 0 by omega) (yo (n-1));omega
 have hj:=hI.hk;have GZ:=hI.ul;obtain⟨p1,p2,p3⟩:=hI.FL Tj;obtain⟨X,hX⟩:∃X,X=val (dD n j u):=⟨_,rfl⟩;obtain⟨qd,hqd⟩:∃qd,qd=X/V:=⟨_,rfl⟩;obtain⟨s1,s2,s3⟩:=hI.step Tj Tg (hX▸hqd);have pl:=Dr (n:=n) GZ (show j<=m by omega);have pw:Wd (dD n j u):=(hI.uw.drop j).take _;have hX0:=sU pw;rw[<-hX]at hX0 p3 s3;have UN:=WC hn pl Ti pw Nc ky (by rw[Jr,<-hX];exact p3)
 obtain⟨g,hg⟩:∃g,g=tO (lv.getD (n-1) 0) (lv.getD (n-2) 0) ((dD n j u).getD (n-2) 0) ((dD n j u).getD n 0*4294967296+(dD n j u).getD (n-1) 0):=⟨_,rfl⟩;obtain⟨k1,k2,k3⟩:=FI (q:=qd) UN (by rw[Jr,<-hX,hqd];exact Int.ediv_mul_le _ (by omega)) s1 s2;rw[<-hg]at k1 k2 k3;rw[Jr,<-hX]at k3;obtain⟨d1,d2⟩:=M9 Tg hqd k1 k3;refine⟨g,qd,_,_,hg,by omega,k2,s1,s2,rfl,rfl,PN _ _,tM _ _,by omega,GZ,hI.ql,pl,pw,fun h=>?_,fun h=>?_⟩
 ·rw[Jr,<-hX]at h
  have hq:=d1 (of_decide_eq_true h);refine⟨hq,_,rfl,by rw[PN,PN],?_⟩;rw[PN,Na,Jr,<-hX,show X-g*V+V=X-qd*V by rw[show g=qd+1 by omega];grind];exact s3
 ·rw[Jr,<-hX]at h
  have hq:=d2 (of_decide_eq_false h);refine⟨hq,?_⟩;rw[Jr,<-hX,hq];exact s3
end Go.Abs.M
end
section
namespace Go.Proofs.YtekefilngojelaaGreat
open Go Go.Abs Go.Abs.M Go.Proofs
def kr (r s v U Q:Abs.Rows) (ul ql:Nat) (n d j:Int):St:=ae 110 [vl r,vl s,.af,.af,fy,fy,.af,.af,vi .i64 n,vi .u64 d,vl v,.c (.sl 8 0 ul false),.c (.sl 13 0 ql false),vi .i64 j] [none,none,none,none,none,none,none,none,some (.rows 1 U true false),none,none,none,none,some (.rows 1 Q true false)]
theorem yT {r s w v y A2 A3:Abs.Rows} {U V w1 d c:Int} {n la m l1 m1 n1 n':Nat} {lr ls lv lu u0:List Int}
  (hr:r=W .u32 lr) (hs:s=W .u32 ls) (hv:v=W .u32 lv) (hy:y=W .u32 lu) (lrl:lr.length=la) (lsl:ls.length=n) (dS:la<=549755813888) (hn:2<=n) (hm:la=n+m) (kv:l1=la+1) (An:m1=m+1) (LW:n1=n+1) (uO:n=n'+1)
  (LY:ls.getD n' 0=w1) (Nd:1<=w1/\w1<4294967296) (hd:4294967296/(w1+1)=d) (hdb:1<=d/\d<4294967296) (hc:¬c<0) (YU:lu.length<=l1) (YV:dK (List.replicate l1 0) 0 lu=u0)
  (Ti:lv.length=n) (Nc:Wd lv) (Jr:val lv=V) (ky:2147483648<=lv.getD (n-1) 0)
  (tP:oR U V n m (m+1) u0 (List.replicate m1 0))
  (cc:ah Tryz.prog 136 [.val (tl r),.val (tl s)] ⟨[.val (ti .i64 c)],[none,none]⟩)
  (c1:ah Tryz.prog 113 [.val (ti .u64 d)] ⟨[.val (tl w)],[none]⟩)
  (c2:ah Tryz.prog 132 [.val (tl s),.val (tl w)] ⟨[.val (tl v)],[none,none]⟩)
  (c3:ah Tryz.prog 132 [.val (tl r),.val (tl w)] ⟨[.val (tl y)],[none,none]⟩)
  (A7:∀u q,oR U V n m 0 u q->∃(A1:Abs.Rows) (A4:Int),ah Tryz.prog 142 [.val (tl (W .u32 u))] ⟨[.val (tl A1)],[none]⟩/\ah Tryz.prog 142 [.val (tl (W .u32 q))] ⟨[.val (tl A2)],[none]⟩ /\
   ah Tryz.prog 153 [.val (tl A1),.val (ti .u64 d)] ⟨[.val (tl A3),.val (ti .u64 A4)],[none,none]⟩) :
  ah Tryz.prog 128 [.val (tl r),.val (tl s)] ⟨[.val (tl A2),.val (tl A3)],[none,none]⟩:=by
 refine ar aj mixed [.val,.val] Tryz.func128 rfl rfl (by kernel_rfl) fun zD zE zG _ zI _ _ _ _ _ _ _ zT zU zV zX _ _ _ _ _ zu zy zz bd ao _ bN bE _ aR ab _ _ aL aw aP a9 aE _ bA bO aN _ _ _ _ _ _ zW _ A L F hS hF=>?_
 have z1:ab r=la:=by rw[hS.len,hr,jf,lrl]
 have z2:ab s=n:=by rw[hS.len,hs,jf,lsl]
 have z3:zD .i64 (zG (zz n) 1)=zz n':=by rw[hS.wrap,hS.sub,hS.aB,hS.aB,wrap_i64 (by omega) (by omega)];omega
 have z4:aw s (zu (zz n'))=w1:=by rw[hS.dF,hS.nat,hS.aB,hs,mP,Int.toNat_natCast,LY]
 have z5:zD .u64 (zE (zD .u64 w1) 1)=w1+1:=by rw[hS.wrap,hS.wrap,eG (x:=w1) (by omega) (by omega),hS.add];exact eG (by omega) (by omega)
 have z6:zD .u64 (zI 4294967296 (w1+1))=d:=by rw[hS.quo,Int.tdiv_eq_ediv_of_nonneg (by omega),hd,hS.wrap];exact eG (by omega) (by omega)
 have z7:zD .i64 (zE (zz la) 1)=zz l1:=by rw[hS.wrap,hS.add,hS.aB,hS.aB,wrap_i64 (by omega) (by omega)];omega
 have z8:zD .i64 (zG (zz la) (zz n))=zG (zz (m+1)) 1:=by rw[hS.wrap,hS.sub,hS.aB,hS.aB,hS.sub,hS.aB,wrap_i64 (by omega) (by omega)];omega
 have z9:zD .i64 (zE (zG (zz (m+1)) 1) 1)=zz m1:=by rw[hS.wrap,hS.add,hS.sub,hS.aB,hS.aB,wrap_i64 (by omega) (by omega)];omega
 have znt:∀k,zu (zz k)=k:=fun k=>by rw[hS.nat,hS.aB];omega
 have jt:∀k,bO k [.v (.int .u32 0)]=zW .u32 (List.replicate k 0):=fun k=>by rw[hS.rep,hS.W];exact xn ..
 have qo:bA (zW .u32 (List.replicate l1 0)) 0 y=zW .u32 u0:=by rw[hS.yG,hS.W,hy,M1,<-YV];rfl
 have zyl:ab y=lu.length:=by rw[hS.len,hy,jf]
 have o1:zV c 0=false:=by rw[hS.lt];exact decide_eq_false hc
 have o2:zT (zz n) 1=false:=by rw[hS.eq,hS.aB];exact decide_eq_false (by omega)
 have o3:zX 0 (zz n')=true:=by rw[hS.le,hS.aB];exact decide_eq_true (by omega)
 have o4:aL .u32 s (zu (zz n'))=true:=by rw[hS.gE,znt,hs,kM];exact decide_eq_true (by omega)
 have o5:zU (w1+1) 0=true:=by rw[hS.ne];exact decide_eq_true (by omega)
 have o6:aR (zz l1) (zz l1) 4=true:=by rw[hS.nq,hS.aB];exact decide_eq_true (by unfold az;omega)
 have o7:a9 0 l1 (zW .u32 (List.replicate l1 0))=true:=by rw[hS.fit,hS.W,jf];exact decide_eq_true (by simp)
 have o8:aN 1 y=true:=by rw[hS.wide,hy];exact HK _ _
 have o9:zX (zz (ab y)) (zz l1)=true:=by rw[hS.le,hS.aB,hS.aB,zyl];exact decide_eq_true (by omega)
 have o10:aR (zz m1) (zz m1) 4=true:=by rw[hS.nq,hS.aB];exact decide_eq_true (by unfold az;omega)
 clear hr hs lrl lsl LY Nd hd hc YU YV hy zyl;cbv;refine⟨_,hS.call cc,?_⟩;cbv;rw[z2,z3,z4,z5];refine bF o1 (bF o2 (nd o3 (nd o4 (nd o5 ?_))));rw[z6];refine⟨_,hS.call c1,?_⟩;cbv;refine⟨_,hS.call c2,?_⟩;cbv;rw[z1,z7,znt,jt];refine nd o6 ?_;refine⟨_,hS.call c1,?_⟩;cbv;refine⟨_,hS.call c3,?_⟩;cbv;rw[qo,z1,z8,z9,znt,jt];refine nd o7 (nd o8 (nd o9 (nd o10 ?_)));clear z2 z3 z4 z5 z6 z7 z8 z9 o1 o2 o3 o4 o5 o6 o7 o8 o9 o10 cc c1 c2 c3 qo
 refine fN aj mixed hS (fun(k:Nat) s'=>∃(u q:List Int),oR U V n m k u q/\s'=kr r s v (zW .u32 u) (zW .u32 q) l1 m1 (zz n) d (zG (zz k) 1)) (n:=m+1)
  (s0:=kr r s v (zW .u32 u0) (zW .u32 (List.replicate m1 0)) l1 m1 (zz n) d (zG (zz (m+1)) 1)) (fi ?_ ?_) rfl (by show 2<=14;omega) ?_ ?_
 ·simp[dO,kr,ae,vi,vl,fy]
 ·simp[dP,kr,ae]
 ·exact⟨u0,_,tP,rfl⟩
 ·clear tP
  rintro k _ ⟨u,q,hI,rfl⟩
  cases k with
  | zero=>
   obtain⟨A1,A4,t1,t2,t3⟩:=A7 u q hI;have GZ:=hI.ul;have UW:=hI.ql;have hz:zX 0 (zG (zz 0) 1)=false:=by rw[hS.le,hS.sub,hS.aB];rfl
   have yO:a9 0 l1 (zW .u32 u)=true:=by rw[hS.fit,hS.W,jf];exact decide_eq_true (by omega)
   have KH:aE (zW .u32 u) 0 l1=W .u32 u:=by rw[hS.part,hS.W,kj,List.drop_zero,List.take_of_length_le (by omega)]
   have e12:a9 0 m1 (zW .u32 q)=true:=by rw[hS.fit,hS.W,jf];exact decide_eq_true (by omega)
   have Tk:aE (zW .u32 q) 0 m1=W .u32 q:=by rw[hS.part,hS.W,kj,List.drop_zero,List.take_of_length_le (by omega)]
   cbv;refine bF hz ?_;rw[KH];refine nd yO ⟨_,hS.call t1,?_⟩;cbv;refine⟨_,hS.call t3,?_⟩;cbv;rw[Tk];refine nd e12 ⟨_,hS.call t2,?_⟩;cbv;exact hF _ (ak.refl _)
  | succ j=>
   obtain⟨g,qd,b,x1,hg,g0,g1,q0,q1,hb,He,lx1,wx1,Rx,GZ,UW,pl,pw,ht,hf⟩:=KL hI hn Ti Nc Jr ky;have cg:=FJ (r:=zW .u32 (dD n j u)) g (by rw[hS.W]) hv pl Ti hn (by omega) pw Nc ky hg;have cl:=Dq (r:=zW .u32 (dD n j u)) (r':=zW .u32 x1) g b (by rw[hS.W]) hv (by omega) (by omega) pw Nc g0 g1 (by rw[hS.W,pl,He]) hb;have cr:=fun x2 h=>yS (r:=zW .u32 x1) (r':=zW .u32 x2) (s:=v) (u:=x1) (by rw[hS.W]) hv (by omega) (by omega) wx1 Nc h
   clear hg hb He;have hi:zG (zz (j+1)) 1=(j:Int):=by rw[hS.sub,hS.aB];omega
   have hz:zX 0 (zG (zz (j+1)) 1)=true:=by rw[hS.le,hi];exact decide_eq_true (by omega)
   have WH:zD .i64 (zG (zG (zz (j+1)) 1) 1)=zG (zz j) 1:=by rw[hi,hS.wrap,hS.sub,hS.sub,hS.aB,wrap_i64 (by omega) (by omega)]
   have y1:zD .i64 (zE (zD .i64 (zE (zG (zz (j+1)) 1) (zz n))) 1)=zz (j+n1):=by
    rw[hi,hS.wrap,hS.wrap,hS.add,hS.add,hS.aB,hS.aB,wrap_i64 (x:=(j:Int)+n) (by omega) (by omega),wrap_i64 (by omega) (by omega)];omega
   have y2:bd 0 (zG (zz (j+1)) 1)=j:=by rw[hS.idx,hi];omega
   have y3:bN (zz (j+n1)) (zG (zz (j+1)) 1)=n1:=by rw[hS.Kv,hi,hS.aB];omega
   have y4:∀u':List Int,aE (zW .u32 u') j n1=zW .u32 (dD n j u'):=fun u'=>by rw[hS.part,hS.W,kj,LW];rfl
   have y5:∀u' x:List Int,bA (zW .u32 u') j (zW .u32 x)=zW .u32 (dK u' j x):=fun u' x=>by rw[hS.yG,hS.W,M1];rfl
   have y6:bE (zG (zz (j+1)) 1) (zz (j+n1)) l1=true:=by rw[hS.cut,hi,hS.aB];exact decide_eq_true (by omega)
   have y7:∀u':List Int,u'.length=n+m+1->a9 j n1 (zW .u32 u')=true:=fun u' h=>by rw[hS.fit,hS.W,jf];exact decide_eq_true (by omega)
   have y8:∀x:List Int,x.length=n+1->ao (ab (zW .u32 x)) n1=true:=fun x h=>by rw[hS.neq,hS.len,hS.W,jf,LW];exact decide_eq_true h
   have y9:dK u j (dD n j u)=u:=HQ (by omega);have WI:dD n j (dK u j x1)=x1:=FN lx1 (by omega);have y11:(dK u j x1).length=n+m+1:=by rw[l9 (by omega)];exact GZ
   have y12:∀x2:List Int,x2.length=n+1->dK (dK u j x1) j x2=dK u j x2:=fun x2 h=>FO (by omega) (by omega)
   have YW:zy (zG (zz (j+1)) 1) m1=true:=by rw[hS.yF,hi];exact decide_eq_true (by omega)
   have YX:aL .u32 (zW .u32 q) j=true:=by rw[hS.gE,hS.W,kM];exact decide_eq_true (by omega)
   have YY:∀x,aP .u32 (zW .u32 q) j x=zW .u32 (q.set j x):=fun x=>by rw[hS.oP,hS.W,pq]
   have YZ:zD .u32 qd=qd:=by rw[hS.wrap];exact LX (by omega) (by omega)
   have y18:g-1=qd->zD .u64 (zG g 1)=qd:=fun h=>by rw[hS.wrap,hS.sub,eG (by omega) (by omega),h]
   clear hI hi;cbv;refine bT hz ?_;rw[y1,y2,y3,y4];refine nd y6 (nd (y7 _ GZ) ⟨_,hS.call cg,?_⟩);cbv;rw[y5,y9,y4];refine nd (y8 _ pl) (nd (y7 _ GZ) ?_);cases b with
   | true=>
    obtain⟨WJ,x2,So,lx2,hI2⟩:=ht rfl;refine⟨_,hS.call cl,?_⟩;cbv;rw[y5,y4,WI];refine nd (y8 _ lx1) (bT rfl (nd (y7 _ y11) ⟨_,hS.call (cr x2 (by rw[hS.W,So])),?_⟩));cbv;rw[y2,y5,y12 _ lx2,y18 WJ,YZ,YY,WH];refine nd (y8 _ lx2) (nd YW (nd YX ?_));exact again (s':=kr r s v (zW .u32 (dK u j x2)) (zW .u32 (q.set j qd)) l1 m1 (zz n) d (zG (zz j) 1)) (m:=j) (by simp[dO,kr,ae,vi,vl,fy]) (by simp[dP,kr,ae]) rfl (by show 2<=14;omega) (by omega) ⟨_,_,hI2,rfl⟩
   | false=>
    obtain⟨WJ,hI2⟩:=hf rfl;refine⟨_,hS.call cl,?_⟩;cbv;rw[y2,y5,WJ,YZ,YY,WH];refine nd (y8 _ lx1) (bF rfl (nd YW (nd YX ?_)));exact again (s':=kr r s v (zW .u32 (dK u j x1)) (zW .u32 (q.set j qd)) l1 m1 (zz n) d (zG (zz j) 1)) (m:=j) (by simp[dO,kr,ae,vi,vl,fy]) (by simp[dP,kr,ae]) rfl (by show 2<=14;omega) (by omega) ⟨_,_,hI2,rfl⟩
open Go Go.Abs Go.Abs.M Go.Proofs
theorem yU {r s:Abs.Rows} {a b:Nat} (hr:mE a r) (hs:mE b s) (h2:2<=nl b) (GO:b<=a) (dS:nl a<=549755813888) :
  ah Tryz.prog 128 [.val (tl r),.val (tl s)] ⟨[.val (tl (W .u32 (dg (a/b)))),.val (tl (W .u32 (dg (a%b))))],[none,none]⟩:=by
 obtain⟨n,hn⟩:∃n,n=nl b:=⟨_,rfl⟩;obtain⟨la,hla⟩:∃la,la=nl a:=⟨_,rfl⟩;have I3:=FB GO;obtain⟨m,hm⟩:∃m,la=n+m:=⟨la-n,by omega⟩;obtain⟨n',uO⟩:∃n',n=n'+1:=⟨n-1,by omega⟩;have lb:(dg b).length=n:=hn.symm;have laa:(dg a).length=la:=hla.symm;obtain⟨w1,LY⟩:∃w1,w1=(dg b).getD n' 0:=⟨_,rfl⟩;have Nd:=(jo b).get n';rw[<-LY]at Nd;have Za:=xt (jo b) (n:=n') (by omega);rw[<-LY,jA]at Za
 have Tl:1<=w1:=by
  rcases iZ b with h|h
  ·rw[h]at lb;simp at lb;omega
  ·rw[lb,uO,Nat.add_sub_cancel,<-LY]at h;omega
 obtain⟨d,hd⟩:∃d,d=4294967296/(w1+1):=⟨_,rfl⟩;obtain⟨d1,d2,d3,d4⟩:=PQ Tl Nd.2 hd Za.1 Za.2;have Ry:0<(b:Int):=by
  rcases Nat.eq_zero_or_pos b with h|h
  ·subst h;simp[rJ]at lb;omega
  ·omega
 obtain⟨V,hV⟩:∃V,V=d*b:=⟨_,rfl⟩;have Tg:0<V:=by rw[hV];exact Int.mul_pos (by omega) Ry
 have WG:(4294967296:Int)^n=4294967296^n'*4294967296:=by rw[uO,Int.pow_succ]
 have Tj:V<4294967296^n:=by rw[WG,hV];omega
 have agU:2147483648*4294967296^n'<=V:=by rw[hV];exact d3
 obtain⟨lv,PK⟩:∃lv,lv=dg V.toNat:=⟨_,rfl⟩;have Jr:val lv=V:=by rw[PK,jA];omega
 have Nc:Wd lv:=by rw[PK];exact jo _
 have Ti:lv.length=n:=by
  have a1:nl V.toNat<=n:=tL (by omega);have a2:n'<nl V.toNat:=by
   rcases Nat.lt_or_ge n' (nl V.toNat) with h|h
   ·exact h
   ·have x1:=nD V.toNat
    have x2:=jR h;have x3:=yo n';omega
  rw[PK];show nl V.toNat=n
  omega
 have ky:2147483648<=lv.getD (n-1) 0:=by
  have t:=(xt Nc (n:=n') (by omega)).2;rw[Jr]at t;rw[uO,Nat.add_sub_cancel];rcases Int.lt_or_le (lv.getD n' 0) 2147483648 with h|h
  ·exfalso
   have:=Int.mul_le_mul_of_nonneg_right (show lv.getD n' 0+1<=2147483648 by omega) (show(0:Int)<=4294967296^n' by have:=yo n';omega);omega
  ·exact h
 obtain⟨lu,Zc⟩:∃lu,lu=dg (d*a).toNat:=⟨_,rfl⟩;have hda:0<=d*(a:Int):=Int.mul_nonneg (by omega) (by omega);have vlu:val lu=d*a:=by rw[Zc,jA];omega
 have YU:lu.length<=la+1:=by
  rw[Zc];refine tL (k:=la+1) ?_;have x1:=nD a;rw[<-hla]at x1;have x2:d*(a:Int)<=4294967296*a:=Int.mul_le_mul_of_nonneg_right (by omega) (by omega);rw[Int.pow_succ];omega
 obtain⟨f1,f2,f3⟩:=Nb YU (by rw[Zc];exact jo _);obtain⟨w,hw⟩:∃w,w=W .u32 (dg d.toNat):=⟨_,rfl⟩;have ld:(dg d.toNat).length<=1:=tL (k:=1) (by rw[Int.pow_succ,Int.pow_zero];omega);have cc:=Wy (bC a b) hr hs (by omega) (by omega) (jo _) (jo _) (iZ _) (iZ _) (by rw[jA,jA]);have c1:=jT d (by omega) (by omega);rw[<-hw]at c1;have c2:=nG hs hw (by omega) (by omega) (jo _) (jo _)
 rw[jA,jA,show((b:Int)*(d.toNat:Int)).toNat=V.toNat by rw[hV,Int.mul_comm];congr 2;omega,<-PK]at c2;have c3:=nG hr hw (by omega) (by omega) (jo _) (jo _);rw[jA,jA,show((a:Int)*(d.toNat:Int)).toNat=(d*a).toNat by rw[Int.mul_comm];congr 2;omega,<-Zc]at c3;have abH:d*(a:Int)<V*4294967296^(m+1):=by
  have x1:=nD a;rw[<-hla,hm]at x1;have x2:(4294967296:Int)^(n+m)=4294967296^n'*4294967296^(m+1):=by rw[<-Int.pow_add];congr 1;omega
  have x3:w1*4294967296^n'*4294967296^(m+1)<=(b:Int)*4294967296^(m+1):=Int.mul_le_mul_of_nonneg_right Za.1 (by have:=yo (m+1);omega);have x4:1*(4294967296^n'*4294967296^(m+1))<=w1*(4294967296^n'*(4294967296:Int)^(m+1)):=Int.mul_le_mul_of_nonneg_right Tl (by have:=Int.mul_pos (yo n') (yo (m+1));omega);have x5:w1*4294967296^n'*4294967296^(m+1)=w1*(4294967296^n'*(4294967296:Int)^(m+1)):=by grind
  have x6:d*(a:Int)<d*(b*4294967296^(m+1)):=Int.mul_lt_mul_of_pos_left (by omega) (by omega);have x7:d*((b:Int)*4294967296^(m+1))=d*b*4294967296^(m+1):=by grind
  rw[hV];omega
 have tP:=oR.start (n:=n) (m:=m) (by rw[f2,hm]) f3 (f1.trans vlu) abH;refine yT hr hs rfl rfl laa lb (by omega) (by omega) hm rfl rfl rfl uO LY.symm ⟨Tl,Nd.2⟩ hd.symm ⟨d1,d2⟩ (c:=bC a b) (by unfold bC;rw[if_neg (by omega)];split<;>omega) YU rfl Ti Nc Jr ky tP cc c1 c2 c3 fun u q hI=>?_
 rw[hV]at hI;obtain⟨l1,l2⟩:=hI.last (by omega) Ry;have vu0:=sU hI.uw;have GZ:=hI.ul;have UW:=hI.ql;have t1:=Ru (r:=W .u32 u) rfl (by omega) hI.uw;have t2:=Ru (r:=W .u32 q) rfl (by omega) hI.qw;have lt1:(dg (val u).toNat).length<=la+1:=by have:=Wv hI.uw;unfold nl at this;omega
 have t3:=px (r:=W .u32 (dg (val u).toNat)) d ((a:Int)%b) (val u%d) rfl (by omega) (jo _) (by omega) d2 (by rw[jA,Int.toNat_of_nonneg vu0,l2]) (by rw[jA,Int.toNat_of_nonneg vu0]);rw[l1]at t2;exact⟨_,_,t1,t2,t3⟩
theorem py {r s:Abs.Rows} {a b:Nat} (hr:mE a r) (hs:mE b s) (hb:b≠0) (dS:nl a<=549755813888) (abI:nl b<=549755813888) :
  ∃x y,mE (a/b) x/\mE (a%b) y/\ah Tryz.prog 128 [.val (tl r),.val (tl s)] ⟨[.val (tl x),.val (tl y)],[none,none]⟩:=by
 have cc:=Wy (bC a b) hr hs (by unfold nl at dS;omega) (by unfold nl at abI;omega) (jo _) (jo _) (iZ _) (iZ _) (by rw[jA,jA])
 by_cases GO:a<b
 ·refine⟨[],r,by rw[Nat.div_eq_of_lt GO];rfl,by rw[Nat.mod_eq_of_lt GO];exact hr,?_⟩
  rw[fS (by omega)]at cc;refine ar aj mixed [.val,.val] Tryz.func128 rfl rfl (by kernel_rfl) fun zD _ _ _ _ _ _ _ _ _ _ _ zT _ _ _ _ _ _ _ _ zu _ zz _ _ _ _ _ _ _ ab _ _ aL aw _ _ _ _ _ _ _ _ _ _ _ _ _ _ _ A L F hS hF=>?_
  cbv;refine⟨_,hS.call cc,?_⟩;cbv;exact bT (by rw[hS.lt];rfl) (Fy hF (aW.drop _ _) (je.refl _))
 ·by_cases h1:nl b=1
  ·obtain⟨x,hx⟩:∃x,mE (a/b) x:=⟨_,rfl⟩
   obtain⟨y,hy⟩:∃y,mE (a%b) y:=⟨_,rfl⟩;refine⟨x,y,hx,hy,?_⟩;have Hw:(b:Int)<4294967296:=by have:=nD b;rw[h1]at this;omega
   have Tm:dg b=[(b:Int)]:=by
    rw[qf hb,show b%4294967296=b by omega,show b/4294967296=0 by omega,rJ]
   have SE:(a:Int)%b<b:=Int.emod_lt_of_pos _ (by omega);have Rz:0<=(a:Int)%b:=Int.emod_nonneg _ (by omega);have c1:=px b ((a:Int)/b) ((a:Int)%b) hr (by unfold nl at dS;omega) (jo _) (by omega) Hw (by rw[jA]) (by rw[jA]);have c2:=jT ((a:Int)%b) Rz (by omega);have q1:W .u32 (dg ((a:Int)/b).toNat)=x:=hx.symm;have q2:W .u32 (dg ((a:Int)%b).toNat)=y:=hy.symm;rw[q1]at c1
   rw[q2]at c2;obtain⟨c,hc,Wl⟩:∃c,bC (a:Int) b=c/\¬c<0:=⟨_,rfl,by
    unfold bC;rw[if_neg (by omega)];split<;>omega⟩
   rw[hc]at cc;generalize (a:Int)%b=e at *;generalize hbv:(b:Int)=d at *;refine ar aj mixed [.val,.val] Tryz.func128 rfl rfl (by kernel_rfl) fun zD _ _ _ _ _ _ _ _ _ _ _ zT _ _ _ _ _ _ _ _ zu _ zz _ _ _ _ _ _ _ ab _ _ aL aw _ _ _ _ _ _ _ _ _ _ _ _ _ _ _ A L F hS hF=>?_
   have z2:zT (zz (ab s)) 1=true:=by rw[hS.len,hs,jf,Tm,hS.aB,hS.eq];rfl
   have z3:aL .u32 s (zu 0)=true:=by rw[hS.gE,hs,hS.nat,Tm];rfl
   have z4:zD .u64 (aw s (zu 0))=d:=by rw[hS.dF,hs,hS.nat,mP,Tm,hS.wrap];exact eG (by show 0<=d;omega) (by show d<_;omega)
   cbv;refine⟨_,hS.call cc,?_⟩;cbv;rw[z4];refine bF (by rw[hS.lt];exact decide_eq_false Wl) (bT z2 (nd (by rw[hS.le];rfl) (nd z3 ⟨_,hS.call c1,?_⟩)));cbv;refine⟨_,hS.call c2,?_⟩;cbv;exact hF _ (ak.refl _)
  ·have h0:nl b≠0:=fun h=>hb (jS.1 h)
   exact⟨_,_,rfl,rfl,yU hr hs (by omega) (by omega) dS⟩
end Go.Proofs.YtekefilngojelaaGreat
end
section
namespace Go.Abs.M
theorem gA {x y q r:Int} (hy:y≠0) (h:x=y*q+r) (h0:0<=r) (h1:r<y.natAbs):x/y=q/\x%y=r:=by
 rcases Int.lt_or_lt_of_ne hy with Ds|mT
 ·have e:x=r+(-y)*(-q):=by rw[Int.neg_mul_neg];omega
  have a:x/(-y)=-q:=by rw[e,Int.add_mul_ediv_left _ _ (by omega),Int.ediv_eq_zero_of_lt h0 (by omega)];omega
  have b:x%(-y)=r:=by rw[e,Int.add_mul_emod_self_left,Int.emod_eq_of_lt h0 (by omega)]
  rw[Int.ediv_neg]at a;rw[Int.emod_neg]at b;exact⟨by omega,b⟩
 ·have e:x=r+y*q:=by omega
  refine⟨?_,?_⟩
  ·rw[e,Int.add_mul_ediv_left _ _ (by omega),Int.ediv_eq_zero_of_lt h0 (by omega)];omega
  ·rw[e,Int.add_mul_emod_self_left,Int.emod_eq_of_lt h0 (by omega)]
theorem HR {x y:Int} (hy:y≠0) :
  (¬(x<0/\x.natAbs%y.natAbs≠0)->(x/y).natAbs=x.natAbs/y.natAbs/\(x%y)=(x.natAbs%y.natAbs:Nat)) /\
  (x<0/\x.natAbs%y.natAbs≠0->(x/y).natAbs=x.natAbs/y.natAbs+1/\(x%y)=(y.natAbs-x.natAbs%y.natAbs:Nat)) /\
  (x/y<0↔((x<0↔¬y<0)/\x/y≠0)):=by
 have hya:y.natAbs≠0:=by omega
 have hdm:=Nat.div_add_mod x.natAbs y.natAbs;have bG:=Nat.mod_lt x.natAbs (show 0<y.natAbs by omega);generalize hk:x.natAbs/y.natAbs=k at *;generalize hr:x.natAbs%y.natAbs=r at *;have Nf:(y.natAbs:Int)*k+r=x.natAbs:=by exact_mod_cast hdm
 rcases Int.lt_or_le x 0 with hx|hx<;>rcases Int.lt_or_lt_of_ne hy with hy'|hy'
 ·have ey:(y.natAbs:Int)=-y:=by omega
  have ex:(x.natAbs:Int)=-x:=by omega
  rw[ey,ex]at Nf
  by_cases h0:r=0
  ·obtain⟨a,b⟩:=gA (x:=x) (q:=k) (r:=0) hy (by rw[h0]at Nf;simp at Nf;rw[Int.neg_mul]at Nf;omega) (by omega) (by omega)
   refine⟨fun _=>⟨by rw[a];rfl,by rw[b,h0];rfl⟩,fun h=>absurd h0 h.2,by rw[a];omega⟩
  ·obtain⟨a,b⟩:=gA (x:=x) (q:=k+1) (r:=y.natAbs-r) hy (by rw[ey,Int.mul_add];rw[Int.neg_mul]at Nf;omega) (by omega) (by omega)
   refine⟨fun h=>absurd ⟨hx,h0⟩ h,fun _=>⟨by rw[a];omega,by rw[b];omega⟩,by rw[a];omega⟩
 ·have ey:(y.natAbs:Int)=y:=by omega
  have ex:(x.natAbs:Int)=-x:=by omega
  rw[ey,ex]at Nf
  by_cases h0:r=0
  ·obtain⟨a,b⟩:=gA (x:=x) (q:=-k) (r:=0) hy (by rw[h0]at Nf;simp at Nf;rw[Int.mul_neg];omega) (by omega) (by omega)
   refine⟨fun _=>⟨by rw[a];omega,by rw[b,h0];rfl⟩,fun h=>absurd h0 h.2,by rw[a];omega⟩
  ·obtain⟨a,b⟩:=gA (x:=x) (q:=-k-1) (r:=y.natAbs-r) hy (by rw[ey,Int.mul_sub,Int.mul_neg];omega) (by omega) (by omega)
   refine⟨fun h=>absurd ⟨hx,h0⟩ h,fun _=>⟨by rw[a];omega,by rw[b];omega⟩,by rw[a];omega⟩
 ·have ey:(y.natAbs:Int)=-y:=by omega
  have ex:(x.natAbs:Int)=x:=by omega
  rw[ey,ex]at Nf;obtain⟨a,b⟩:=gA (x:=x) (q:=-k) (r:=r) hy (by rw[Int.mul_neg];rw[Int.neg_mul]at Nf;omega) (by omega) (by omega);refine⟨fun _=>⟨by rw[a];omega,b⟩,fun h=>absurd h.1 (by omega),by rw[a];omega⟩
 ·have ey:(y.natAbs:Int)=y:=by omega
  have ex:(x.natAbs:Int)=x:=by omega
  rw[ey,ex]at Nf;obtain⟨a,b⟩:=gA (x:=x) (q:=k) (r:=r) hy (by omega) (by omega) (by omega);refine⟨fun _=>⟨by rw[a];omega,b⟩,fun h=>absurd h.1 (by omega),by rw[a];omega⟩
end Go.Abs.M
end
section
namespace Go.Proofs.YtekefilngojelaaGreat
open Go Go.Abs Go.Abs.M Go.Proofs
theorem ma {x y:Int} {s t:Bool} {r q:Abs.Rows} (hx:eV x s r) (hy:eV y t q) (qo:y≠0) (h1:nl x.natAbs<=274877906944) (h2:nl y.natAbs<=274877906944) :
  ∃u w p,eV (x/y) u w/\eV (x%y) false p/\ah Tryz.prog 94 [.val (.agg (iT s r)),.val (.agg (iT t q))] ⟨[.val (.agg (iT u w)),.val (.agg (iT false p)),.val (ti .i64 0)],[none,none]⟩:=by
 obtain⟨a1,a2,US,LQ,cd⟩:=py hx.m hy.m (by omega) (by omega) (by omega);obtain⟨m1,m2,m3⟩:=HR (x:=x) qo;obtain⟨u,hu⟩:∃u,u=decide (x/y<0):=⟨_,rfl⟩;obtain⟨w,hw⟩:∃w,mE (x/y).natAbs w:=⟨_,rfl⟩;obtain⟨p,hp⟩:∃p,mE (x%y).natAbs p:=⟨_,rfl⟩;have Rz:=Int.emod_nonneg x qo;have hyn:y.natAbs≠0:=by omega
 have abJ:x.natAbs/y.natAbs<=x.natAbs:=Nat.div_le_self ..;have Tn:x.natAbs%y.natAbs<y.natAbs:=Nat.mod_lt _ (by omega);have hs:=hx.s;have ht:=hy.s;have hbq:nl (x/y).natAbs<=549755813888:=by
  have a:=FB (show(x/y).natAbs<=x.natAbs+1 by
   by_cases h:x<0/\x.natAbs%y.natAbs≠0
   ·have:=(m2 h).1;omega
   ·have:=(m1 h).1;omega)
  have b:=xp x.natAbs 1;have c:nl 1<=1:=tL (by omega);omega
 have WD:nl (x%y).natAbs<=549755813888:=by
  have a:=FB (show(x%y).natAbs<=y.natAbs by
   by_cases h:x<0/\x.natAbs%y.natAbs≠0
   ·have:=(m2 h).2;omega
   ·have:=(m1 h).2;omega)
  omega
 have WK:=nH (!(s==t)) u hw (by omega) (by
  rw[hu,hs,ht,Bool.eq_iff_iff]
  by_cases h:x<0<;>by_cases h':y<0<;>simp[h,h']at m3 ⊢ <;> omega)
 have WL:=nH false false hp (by omega) rfl;have UW:q.length=nl y.natAbs:=hy.m.len;have agZ:nl y.natAbs≠0:=fun h=>hyn (jS.1 h)
 have WM:a2.length=nl (x.natAbs%y.natAbs):=LQ.len;have ag0:=@jS (x.natAbs%y.natAbs);refine⟨u,w,p,⟨hu,hw⟩,⟨(decide_eq_false (by omega)).symm,hp⟩,?_⟩
 by_cases hc:x<0/\x.natAbs%y.natAbs≠0
 ·obtain⟨n1,n2⟩:=m2 hc
  have ca:=uL (s:=W .u32 [1]) US rfl (by have:=FB abJ;unfold nl at *;omega) (by simp) (jo _) (Wd.cons (by omega) (by omega) Wd.nil);have ct:=nF hy.m LQ (by unfold nl at *;omega) (by have:=FB (Nat.le_of_lt Tn);unfold nl at *;omega) (jo _) (jo _) (by rw[jA,jA];omega);rw[jA,jA]at ct;rw[jA,show val [1]=1 from rfl]at ca;have e1:W .u32 (dg (((x.natAbs/y.natAbs:Nat):Int)+1).toNat)=w:=by rw[hw];congr 2;omega
  have e2:W .u32 (dg ((y.natAbs:Int)-((x.natAbs%y.natAbs:Nat):Int)).toNat)=p:=by rw[hp];congr 2;omega
  rw[e1]at ca;rw[e2]at ct;have sR:s=true:=by rw[hs];exact decide_eq_true hc.1
  subst sR;clear m1 m2 m3 hbq WD;refine ar aj mixed [.val,.val,.val] Tryz.func94 rfl rfl (by kernel_rfl) ?_;intros;rename_i zT _ zV _ _ _ _ _ _ _ _ zz _ _ _ _ _ _ _ ab _ _ _ _ _ a9 aE _ _ _ _ _ _ _ _ _ _ _ _ A L F hS hF;have z1:zT (zz (ab q)) 0=false:=by rw[hS.len,UW,hS.aB,hS.eq];exact decide_eq_false (by omega)
  have z2:zV 0 (zz (ab a2))=true:=by rw[hS.len,WM,hS.aB,hS.lt];exact decide_eq_true (by omega)
  have z3:aE [[.v (.int .u32 1)]] 0 1=W .u32 [1]:=by rw[hS.part];rfl
  have z4:a9 0 1 [[.v (.int .u32 1)]]=true:=by rw[hS.fit];rfl
  cbv;refine bF z1 ⟨_,hS.call cd,?_⟩;cbv;refine bT rfl (bT z2 (nd z4 ?_));rw[z3];refine⟨_,hS.call ca,?_⟩;cbv;refine⟨_,hS.call ct,?_⟩;cbv;rw[hS.bne];refine⟨_,hS.call WK,?_⟩;cbv;refine⟨_,hS.call WL,?_⟩;cbv;exact hF _ (ak.refl _)
 ·obtain⟨n1,n2⟩:=m1 hc
  obtain rfl:w=a1:=by rw[hw,US,n1]
  obtain rfl:p=a2:=by rw[hp,LQ,n2];rfl
  clear m1 m2 m3 hbq WD;refine ar aj mixed [.val,.val,.val] Tryz.func94 rfl rfl (by kernel_rfl) ?_;intros;rename_i zT _ zV _ _ _ _ _ _ _ _ zz _ _ _ _ _ _ _ ab _ _ _ _ _ a9 aE _ _ _ _ _ _ _ _ _ _ _ _ A L F hS hF;have z1:zT (zz (ab q)) 0=false:=by rw[hS.len,UW,hS.aB,hS.eq];exact decide_eq_false (by omega)
  have z2:s=true->zV 0 (zz (ab p))=false:=fun h=>by
   rw[hS.len,WM,hS.aB,hS.lt];rw[h]at hs;have:=of_decide_eq_true hs.symm;exact decide_eq_false (by omega)
  have fin:=hS.call WK;cbv;refine bF z1 ⟨_,hS.call cd,?_⟩;cbv;refine⟨fun h=>bF (z2 h) ?_,fun h=>?_⟩
  all_goals
   rw[hS.bne];refine⟨_,fin,?_⟩;cbv;refine⟨_,hS.call WL,?_⟩;cbv;exact hF _ (ak.refl _)
open Go Go.Abs Go.Abs.M Go.Proofs
theorem rL {l:List Int} {r:Abs.Rows} (n:Int) (hr:r=W .u32 l) (hl:l.length<=2) (hw:Wd l) (hn:n=val l):ah Tryz.prog 159 [.val (tl r)] ⟨[.val (ti .u64 n)],[none]⟩:=by
 have a:=hw.get 0;have b:=hw.get 1;have c1:=gf 1 hr (by omega) hw (by omega);have c0:=gf 0 hr (by omega) hw (by omega);have hv:val l=l.getD 0 0+4294967296*l.getD 1 0:=by
  match l,hl with
  | [],_=>rfl
  | [x],_=>simp[val]
  | [x,y],_=>simp[val]
 rw[show(1:Int).toNat=1 from rfl]at c1;rw[show(0:Int).toNat=0 from rfl]at c0;generalize l.getD 0 0=x,l.getD 1 0=y at *;refine ar aj mixed [.val] Tryz.func159 rfl rfl (by kernel_rfl) ?_;intros;rename_i A L F hS hF;cbv;refine⟨_,hS.call c1,?_⟩;cbv;refine⟨_,hS.call c0,?_⟩;cbv;refine bn hF (kl ?_);rw[hn,hv,hS.wrap,hS.wrap,hS.mul,hS.add,eG (x:=y*4294967296) (by omega) (by omega),eG (by omega) (by omega)]
 omega
def qy (a b:Int):St:=ae 14 [vi .u64 a,vi .u64 b] [none,none]
theorem Dt (a b:Nat) (g:Int) (ha:a<18446744073709551616) (hb:b<18446744073709551616) (hg:g=Nat.gcd a b):ah Tryz.prog 158 [.val (ti .u64 a),.val (ti .u64 b)] ⟨[.val (ti .u64 g)],[none,none]⟩:=by
 obtain⟨x,hx⟩:∃x:Int,x=a:=⟨_,rfl⟩;obtain⟨y,hy⟩:∃y:Int,y=b:=⟨_,rfl⟩;rw[<-hx,<-hy];refine ar aj mixed [.val] Tryz.func158 rfl rfl (by kernel_rfl) fun _ _ _ _ _ zJ _ _ _ _ _ _ _ zU zV _ _ _ _ _ _ _ _ zz _ _ _ _ _ _ _ _ _ _ _ _ _ _ _ _ _ _ _ _ _ _ _ _ _ _ _ A L F hS hF=>?_
 cbv;refine fN aj mixed hS (fun(m:Nat) s=>∃c:Nat,c<18446744073709551616/\m<18446744073709551616/\Nat.gcd c m=Nat.gcd a b/\s=qy (zz c) (zz m)) (n:=b) (s0:=qy (zz a) (zz b)) (fi ?_ ?_) rfl (Nat.le_refl 2) ?_ ?_
 ·simp[dO,qy,ae,vi,hS.aB,hx,hy]
 ·simp[dP,qy,ae]
 ·exact⟨a,ha,hb,rfl,rfl⟩
 ·rintro m _ ⟨c,hc,hm,Dn,rfl⟩
  have e1:0<m->zJ (zz c) (zz m)=zz (c%m):=fun h=>by rw[hS.rem,hS.aB,hS.aB,hS.aB,Int.tmod_eq_emod_of_nonneg (by omega)];rfl
  have e2:zV 0 (zz m)=decide (0<m):=by
   rw[hS.lt,hS.aB]
   by_cases h:0<m
   ·rw[decide_eq_true h];exact decide_eq_true (by omega)
   ·rw[decide_eq_false h];exact decide_eq_false (by omega)
  have e3:0<m->zU (zz m) 0=true:=fun h=>by rw[hS.ne,hS.aB];exact decide_eq_true (by omega)
  have e4:m=0->zz c=g:=fun h=>by subst h;rw[Nat.gcd_zero_right]at Dn;rw[hS.aB,hg,Dn]
  cbv;refine⟨fun h=>?_,fun h=>?_⟩
  all_goals rw[e2]at h
  ·have h:=of_decide_eq_true h
   rw[e1 h];refine nd (e3 h) ?_;refine again (s':=qy (zz m) (zz (c%m))) (m:=c%m) (by simp[dO,qy,ae,vi]) (by simp[dP,qy,ae]) rfl (Nat.le_refl 2) (Nat.mod_lt _ h) ⟨m,hm,?_,?_,rfl⟩
   ·have:=Nat.mod_lt c h;omega
   ·rw[<-Dn,Nat.gcd_comm c m,Nat.gcd_rec m c,Nat.gcd_comm]
  ·have h:=of_decide_eq_false h
   exact bn hF (kl (e4 (by omega)))
def mb (r s:Abs.Rows):St:=ae 33 [vl r,vl s,.af,.af,fy] [none,none]
theorem Du {r s w:Abs.Rows} {a b:Nat} (hr:mE a r) (hs:mE b s) (h1:nl a<=274877906944) (h2:nl b<=274877906944) (hg:mE (Nat.gcd a b) w):ah Tryz.prog 131 [.val (tl r),.val (tl s)] ⟨[.val (tl w)],[none,none]⟩:=by
 refine ar aj mixed [.val] Tryz.func131 rfl rfl (by kernel_rfl) ?_;intros;rename_i zV zX _ _ _ _ _ _ _ zz _ _ _ _ _ _ _ ab _ _ _ _ _ _ _ _ _ _ _ _ _ _ _ _ _ _ _ A L F hS hF;cbv;refine fN aj mixed hS (fun(m:Nat) s=>∃(c:Nat) (x y:Abs.Rows),mE c x/\mE m y/\nl c<=274877906944/\nl m<=274877906944/\Nat.gcd c m=Nat.gcd a b/\s=mb x y) (n:=b) (s0:=mb r s) (fi ?_ ?_) rfl (Nat.le_refl 2) ?_ ?_
 ·simp[dO,mb,ae,vl,fy]
 ·simp[dP,mb,ae]
 ·exact⟨a,r,s,hr,hs,h1,h2,rfl,rfl⟩
 ·rintro m _ ⟨c,x,y,hx,hy,l1,l2,Dn,rfl⟩
  have hmz:=@jS m;have WN:ab x=nl c:=by rw[hS.len,hx.len]
  have hyl:ab y=nl m:=by rw[hS.len,hy.len]
  have e1:zV 0 (zz (ab y))=decide (m≠0):=by
   rw[hyl,hS.lt,hS.aB]
   by_cases h:m=0
   ·rw[decide_eq_false (show ¬m≠0 by omega)];exact decide_eq_false (by omega)
   ·rw[decide_eq_true h];exact decide_eq_true (by omega)
  have e2:zX (zz (ab x)) 2=decide (nl c<=2):=by
   rw[WN,hS.le,hS.aB]
   by_cases h:nl c<=2
   ·rw[decide_eq_true h];exact decide_eq_true (by omega)
   ·rw[decide_eq_false h];exact decide_eq_false (by omega)
  have e3:zX (zz (ab y)) 2=decide (nl m<=2):=by
   rw[hyl,hS.le,hS.aB]
   by_cases h:nl m<=2
   ·rw[decide_eq_true h];exact decide_eq_true (by omega)
   ·rw[decide_eq_false h];exact decide_eq_false (by omega)
  have hdiv:m≠0->∃p q,mE (c/m) p/\mE (c%m) q/\ah Tryz.prog 128 [.val (tl x),.val (tl y)] ⟨[.val (tl p),.val (tl q)],[none,none]⟩:=fun h=>py hx hy h (by omega) (by omega)
  have To:nl c<=2->nl m<=2->∃(c' m' g:Int),ah Tryz.prog 159 [.val (tl x)] ⟨[.val (ti .u64 c')],[none]⟩/\ah Tryz.prog 159 [.val (tl y)] ⟨[.val (ti .u64 m')],[none]⟩ /\
    ah Tryz.prog 158 [.val (ti .u64 c'),.val (ti .u64 m')] ⟨[.val (ti .u64 g)],[none,none]⟩/\ah Tryz.prog 113 [.val (ti .u64 g)] ⟨[.val (tl w)],[none]⟩:=fun k1 k2=>by
   have b1:=nD c;have b2:=nD m;have b3:=jR k1;have b4:=jR k2;have n1:=rL (c:Int) hx k1 (jo _) (by rw[jA]);have n2:=rL (m:Int) hy k2 (jo _) (by rw[jA]);have Jp:Nat.gcd c m<18446744073709551616:=by
    by_cases h:m=0
    ·subst h;rw[Nat.gcd_zero_right];omega
    ·have:=Nat.gcd_le_right c (Nat.pos_of_ne_zero h);omega
   have n4:=jT (Nat.gcd c m:Int) (by omega) (by omega);rw[Int.toNat_natCast,Dn,<-show w=W .u32 (dg (Nat.gcd a b)) from hg,<-Dn]at n4;exact⟨_,_,_,n1,n2,Dt c m _ (by omega) (by omega) rfl,n4⟩
  have eL:m=0->x=w:=fun h=>by
   subst h;rw[Nat.gcd_zero_right]at Dn;rw[hx,hg,Dn]
  cbv;refine⟨fun h=>?_,fun h=>?_⟩
  all_goals rw[e1]at h
  ·have h:=of_decide_eq_true h
   have go:∀(H:Prop),(∀p q,mE (c%m) q->ah Tryz.prog 128 [.val (tl x),.val (tl y)] ⟨[.val (tl p),.val (tl q)],[none,none]⟩->H)->H:=fun H k=>by
    obtain⟨p,q,_,hq,cd⟩:=hdiv h;exact k p q hq cd
   have nx:∀q,mE (c%m) q->∃(c':Nat) (x' y':Abs.Rows),mE c' x'/\mE (c%m) y'/\nl c'<=274877906944/\nl (c%m)<=274877906944/\Nat.gcd c' (c%m)=Nat.gcd a b/\mb y q=mb x' y':=fun q hq=>
    ⟨m,y,q,hy,hq,l2,Nat.le_trans (FB (Nat.le_of_lt (Nat.mod_lt _ (Nat.pos_of_ne_zero h)))) l2,by rw[<-Dn,Nat.gcd_comm c m,Nat.gcd_rec m c,Nat.gcd_comm],rfl⟩
   refine⟨fun h2=>⟨fun h3=>?_,fun h3=>?_⟩,fun h2=>?_⟩
   ·rw[e2]at h2
    rw[e3]at h3;obtain⟨c',m',g,n1,n2,n3,n4⟩:=To (of_decide_eq_true h2) (of_decide_eq_true h3);refine⟨_,hS.call n1,?_⟩;cbv;refine⟨_,hS.call n2,?_⟩;cbv;refine⟨_,hS.call n3,?_⟩;cbv;refine⟨_,hS.call n4,?_⟩;cbv;exact hF _ (ak.refl _)
   all_goals
    refine go _ fun p q hq cd=>?_
    refine⟨_,hS.call cd,?_⟩;cbv;exact again (s':=mb y q) (m:=c%m) (by simp[dO,mb,ae,vl,fy]) (by simp[dP,mb,ae]) rfl (Nat.le_refl 2) (Nat.mod_lt _ (Nat.pos_of_ne_zero h)) (nx q hq)
  ·have h:=of_decide_eq_false h
   rw[eL (by omega)];exact hF _ (ak.refl _)
theorem oE {x y:Int} {s t:Bool} {r q:Abs.Rows} (hx:eV x s r) (hy:eV y t q) (h1:nl x.natAbs<=274877906944) (h2:nl y.natAbs<=274877906944) :
  ∃w,eV (Int.gcd x y) false w/\ah Tryz.prog 95 [.val (.agg (iT s r)),.val (.agg (iT t q))] ⟨[.val (.agg (iT false w))],[none,none]⟩:=by
 obtain⟨w,hw⟩:∃w,mE (Int.gcd x y) w:=⟨_,rfl⟩;have c1:=Du (w:=w) hx.m hy.m h1 h2 hw;have hb:nl (Int.gcd x y)<=2199023255552:=by
  by_cases h:x=0
  ·subst h
   have:Int.gcd 0 y=y.natAbs:=by simp[Int.gcd]
   rw[this];omega
  ·have:Int.gcd x y<=x.natAbs:=Nat.gcd_le_left _ (by omega)
   have:=FB this;omega
 have c2:=nH false false hw hb rfl;refine⟨w,⟨(decide_eq_false (by omega)).symm,hw⟩,?_⟩;refine ar aj mixed [.val] Tryz.func95 rfl rfl (by kernel_rfl) ?_;intros;rename_i A L F hS hF;cbv;refine⟨_,hS.call c1,?_⟩;cbv;refine⟨_,hS.call c2,?_⟩;cbv;exact hF _ (ak.refl _)
end Go.Proofs.YtekefilngojelaaGreat
end
section
namespace Go.Abs
open Go.Abs.M
structure xu (x:Rat) (s:Bool) (r:Rows) (t:Bool) (q:Rows):Prop where
 n:eV x.num s r
 d:eV (x.den:Int) t q
theorem mc {n d:Int} (hd:d≠0):n/(if d<0 then -(Int.gcd n d:Int) else(Int.gcd n d:Int))=(Rat.divInt n d).num:=by
 rw[Rat.num_divInt,Int.gcd_comm d n];have Tp:((Int.gcd n d:Nat):Int)∣n:=Int.gcd_dvd_left ..
 by_cases h:d<0
 ·rw[if_pos h,Int.ediv_neg,Int.sign_eq_neg_one_of_neg h,Int.neg_one_mul,Int.neg_ediv_of_dvd Tp]
 ·rw[if_neg h,Int.sign_eq_one_of_pos (by omega),Int.one_mul]
theorem me {n d:Int} (hd:d≠0):d/(if d<0 then -(Int.gcd n d:Int) else(Int.gcd n d:Int))=((Rat.divInt n d).den:Int):=by
 rw[Rat.den_divInt,if_neg hd,Int.gcd_comm d n];have Tp:((Int.gcd n d:Nat):Int)∣d:=Int.gcd_dvd_right ..
 by_cases h:d<0
 ·rw[if_pos h,Int.ediv_neg,<-Int.neg_ediv_of_dvd Tp,show -d=(d.natAbs:Int) by omega];rfl
 ·rw[if_neg h]
  conv=>lhs;rw[show d=(d.natAbs:Int) by omega]
  rfl
end Go.Abs
end
section
namespace Go.Proofs.YtekefilngojelaaGreat
open Go Go.Abs Go.Abs.M Go.Proofs
theorem jU {x y:Int} {s t:Bool} {r q:Abs.Rows} (hx:eV x s r) (hy:eV y t q) (qo:y≠0) (h1:nl x.natAbs<=274877906944) (h2:nl y.natAbs<=274877906944) :
  ∃u w,eV (x/y) u w/\ah Tryz.prog 135 [.val (.agg (iT s r)),.val (.agg (iT t q))] ⟨[.val (.agg (iT u w))],[none,none]⟩:=by
 obtain⟨u,w,p,hu,hp,cd⟩:=ma hx hy qo h1 h2;refine⟨u,w,hu,?_⟩;refine ar aj mixed [.val] Tryz.func135 rfl rfl (by kernel_rfl) ?_;intros;rename_i A L F hS hF;cbv;refine⟨_,hS.call cd,?_⟩;cbv;exact hF _ (ak.refl _)
theorem UX {x y:Int} {s t:Bool} {r q:Abs.Rows} (hx:eV x s r) (hy:eV y t q) (qo:y≠0) (h1:nl x.natAbs<=274877906944) (h2:nl y.natAbs<=274877906944) :
  ∃u w v p,xu (Rat.divInt x y) u w v p/\ah Tryz.prog 101 [.val (.agg (iT s r)),.val (.agg (iT t q))] ⟨[.val (.agg (iT u w++iT v p))],[none,none]⟩:=by
 obtain⟨g,hg,cg⟩:=oE hx hy h1 h2;have hgp:Int.gcd x y≠0:=by
  intro h;rw[Int.gcd_eq_zero_iff]at h;exact qo h.2
 have PR:nl (Int.gcd x y)<=274877906944:=by
  have:Int.gcd x y<=y.natAbs:=Nat.gcd_le_right _ (by omega);have:=FB this;omega
 have cs:=lW (bC y 0) hy rfl;obtain⟨a,b,hn,cn⟩:=A5 hg (by rw[Int.natAbs_natCast];omega)
 by_cases Ds:y<0
 ·obtain⟨u,w,hu,c1⟩:=jU hx hn (by omega) h1 (by rw[Int.natAbs_neg,Int.natAbs_natCast];exact PR)
  obtain⟨v,p,hv,c2⟩:=jU hy hn (by omega) h2 (by rw[Int.natAbs_neg,Int.natAbs_natCast];exact PR);have e1:=mc (n:=x) qo;have e2:=me (n:=x) qo;rw[if_pos Ds]at e1 e2;refine⟨u,w,v,p,⟨hu.of e1,hv.of e2⟩,?_⟩;rw[fS Ds]at cs;refine ar aj mixed [.val] Tryz.func101 rfl rfl (by kernel_rfl) ?_;intros;rename_i A L F hS hF;cbv;refine⟨_,hS.call cg,?_⟩;cbv;refine⟨_,hS.call cs,?_⟩
  cbv;refine bT (by rw[hS.lt];rfl) ⟨_,hS.call cn,?_⟩;cbv;refine⟨_,hS.call c1,?_⟩;cbv;refine⟨_,hS.call c2,?_⟩;cbv;exact hF _ (ak.refl _)
 ·obtain⟨u,w,hu,c1⟩:=jU hx hg (by omega) h1 (by rw[Int.natAbs_natCast];exact PR)
  obtain⟨v,p,hv,c2⟩:=jU hy hg (by omega) h2 (by rw[Int.natAbs_natCast];exact PR);have e1:=mc (n:=x) qo;have e2:=me (n:=x) qo;rw[if_neg Ds]at e1 e2;refine⟨u,w,v,p,⟨hu.of e1,hv.of e2⟩,?_⟩;rw[iC (by omega)]at cs;refine ar aj mixed [.val] Tryz.func101 rfl rfl (by kernel_rfl) ?_;intros;rename_i A L F hS hF;cbv;refine⟨_,hS.call cg,?_⟩;cbv;refine⟨_,hS.call cs,?_⟩
  cbv;refine bF (by rw[hS.lt];rfl) ⟨_,hS.call c1,?_⟩;cbv;refine⟨_,hS.call c2,?_⟩;cbv;exact hF _ (ak.refl _)
end Go.Proofs.YtekefilngojelaaGreat
end
section
namespace Go.Abs
theorem PS {k:IntKind} {a b:Int} (n:Nat) (hb:b=n) (hn:n<=k.bits) (ha:0<=a):ZI.bV.shr k a b=a/2^n:=by
 rw[hb];show a.fdiv (2^(Min.min ((n:Int).toNat) k.bits))=_
 rw[Int.toNat_natCast,Nat.min_eq_left hn,Int.fdiv_eq_ediv_of_nonneg _ (Int.le_of_lt (Int.pow_pos (by omega)))]
theorem RA {a:Int} (h0:0<=a):ZI.bV.shr .u64 a 32=a/4294967296:=by
 rw[PS (b:=32) 32 rfl (by decide) h0];rfl
end Go.Abs
end
section
namespace Go.Proofs.YtekefilngojelaaGreat
open Go Go.Abs Go.Abs.M Go.Proofs
def mf (r:Abs.Rows) (n:Int):St:=ae 21 [vl r,.af,fy,vi .i64 n] [none]
theorem qz {r:Abs.Rows} {l:List Int} (hr:r=W .u32 l) (hl:l.length<=2199023255552) (hw:Wd l):ah Tryz.prog 180 [.val (.c (.aa false r))] ⟨[.val (.c (.aa false (W .u32 (dg (val l).toNat))))],[none]⟩:=by
 refine ar aj mixed [.val] Tryz.func180 rfl rfl (by kernel_rfl) fun zD _ zG _ _ _ _ _ _ _ _ _ _ _ _ _ _ _ _ _ _ zu _ zz _ _ _ _ bE _ _ ab _ _ _ aw _ _ aE _ _ _ aN _ _ _ _ _ _ _ _ A L F hS hF=>?_
 have hlen:ab r=l.length:=by rw[hS.len,hr,jf]
 cbv;refine fN aj mixed hS (fun m s=>∃n:Nat,n=m/\n<=l.length/\val (l.take n)=val l/\s=mf r (zz n)) (n:=l.length) (s0:=mf r (zz l.length)) (fi ?_ ?_) rfl (Nat.le_refl 1) ?_ ?_
 ·simp[dO,mf,ae,fy,vi,vl,hlen]
 ·simp[dP,mf,ae]
 ·exact⟨_,rfl,Nat.le_refl _,by rw[List.take_length],rfl⟩
 ·rintro m _ ⟨n,rfl,hn,hv,rfl⟩
  have hp:0<n->zD .i64 (zG (zz n) 1)=zz (n-1):=fun h=>by rw[hS.wrap,hS.sub,hS.aB,hS.aB,wrap_i64 (by omega) (by omega)];omega
  have hg:0<n->aw r (zu (zz (n-1)))=l.getD (n-1) 0:=fun h=>by rw[hS.dF,hS.nat,hS.aB,hr,mP,Int.toNat_natCast]
  have hc:bE 0 (zz n) (ab r)=true:=by rw[hS.cut,hlen,hS.aB];exact decide_eq_true (by omega)
  have Tb:aN 1 r=true:=by rw[hS.wide,hr];exact HK _ _
  have Wx:n=0∨l.getD (n-1) 0≠0->F ⟨[.val (.c (.aa false (aE r 0 (zu (zz n)))))],[none]⟩:=fun h=>bn hF (by
   rw[hS.part,hS.nat,hS.aB,hr,kj,Int.toNat_natCast,List.drop_zero,Jn hw hn hv h])
  cbv;refine⟨fun h=>?_,fun h=>nd hc (nd Tb (Wx ?_))⟩
  all_goals rw[hS.lt,hS.aB]at h
  ·have h:0<n:=by simpa using h
   rw[hp h,hg h];refine nd (by rw[hS.le,hS.aB];exact decide_eq_true (by omega)) (nd (by rw[hS.gE,hS.nat,hS.aB,hr,kM];exact decide_eq_true (by omega)) ⟨fun h2=>?_,fun h2=>nd hc (nd Tb (Wx (.inr ?_)))⟩)
   all_goals rw[hS.eq]at h2
   ·refine again (s':=mf r (zz (n-1))) (m:=n-1) (by simp[dO,mf,ae,fy,vi,vl]) (by simp[dP,mf,ae]) rfl (Nat.le_refl 1) (by omega) ⟨_,rfl,by omega,?_,rfl⟩
    have:=kn (l:=l) (k:=n-1) (by omega);rw[show n-1+1=n by omega,of_decide_eq_true h2]at this;omega
   ·exact of_decide_eq_false h2
  ·exact .inl (by simpa using h)
theorem FP (n:Int) (hn:0<=n) (Ft:n<18446744073709551616):ah Tryz.prog 177 [.val (ti .u64 n)] ⟨[.val (tl (W .u32 (dg n.toNat)))],[none]⟩:=by
 refine ar aj mixed [.val] Tryz.func177 rfl rfl (by kernel_rfl) fun zD _ _ _ _ _ _ zM _ _ _ _ _ _ _ _ _ _ _ _ _ _ _ _ _ _ _ _ _ _ _ _ _ _ _ _ _ _ _ _ _ _ _ _ _ _ _ _ _ _ _ A L F hS hF=>?_
 have e1:zD .u32 n=n%4294967296:=by rw[hS.wrap];exact AS _
 have e2:zD .u32 (zM .u64 n 32)=n/4294967296:=by
  rw[show zM .u64 n 32=ZI.bV.shr .u64 n 32 from hS.shr ..,RA hn,hS.wrap];exact LX (by omega) (by omega)
 have hT:=qz (r:=W .u32 [n%4294967296,n/4294967296]) rfl (by simp) (Wd.cons (by omega) (by omega) (Wd.cons (by omega) (by omega) Wd.nil));cbv;rw[e1,e2];refine nd (by rw[hS.fit];rfl) ?_;rw[hS.part];refine⟨_,hS.call hT,?_⟩;rw[show val [n%4294967296,n/4294967296]=n by simp only[val];omega];generalize W .u32 (dg n.toNat)=x at *;cbv;exact hF _ (ak.refl _)
theorem Dw {r:Abs.Rows} {l:List Int} (s t:Bool) (hr:r=W .u32 l) (hl:l.length<=2199023255552) (hw:Wd l) (ht:t=(s&&decide (0<val l))):ah Tryz.prog 176 [.val (tb s),.val (tl r)] ⟨[.val (.agg (iT t (W .u32 (dg (val l).toNat))))],[none,none]⟩:=by
 refine ar aj mixed [.val] Tryz.func176 rfl rfl (by kernel_rfl) ?_;intros;rename_i zT _ _ _ _ _ _ _ _ _ _ zz _ _ _ _ _ _ _ ab _ _ _ _ _ _ _ _ _ _ _ _ _ _ _ _ _ _ _ A L F hS hF;have hT:=qz hr hl hw;have hz:zT (zz (ab (W .u32 (dg (val l).toNat)))) 0=decide (¬0<val l):=by
  rw[hS.eq,hS.aB,hS.len,jf];have:=sU hw;have h2:=@jS (val l).toNat;unfold nl at h2
  by_cases h:0<val l
  ·rw[decide_eq_false (show ¬ ¬0<val l by omega)];exact decide_eq_false (by omega)
  ·rw[decide_eq_true h];exact decide_eq_true (by omega)
 have h0:¬0<val l->W .u32 (dg (val l).toNat)=[]:=fun h=>by rw[show(val l).toNat=0 by omega];rfl
 generalize W .u32 (dg (val l).toNat)=x at *;cbv;refine⟨_,hS.call hT,?_⟩;cbv;rw[hz];refine⟨fun h=>gX hF ?_,fun h=>gX hF ?_⟩
 ·have h':=of_decide_eq_true h
  rw[ht,decide_eq_false h',Bool.and_false,h0 h'];exact⟨.v _,aW.drop _ _,trivial⟩
 ·have h':=of_decide_eq_false h
  rw[ht,decide_eq_true (by omega),Bool.and_true];exact je.refl _
theorem Ng {n:Nat} {r:Abs.Rows} (s t:Bool) (hr:mE n r) (hl:nl n<=2199023255552) (ht:t=(s&&decide (n≠0))):ah Tryz.prog 176 [.val (tb s),.val (tl r)] ⟨[.val (.agg (iT t r))],[none,none]⟩:=by
 have h:=Dw s t hr hl (jo n) (by
  rw[jA,ht]
  by_cases h:n=0
  ·subst h;rfl
  ·rw[decide_eq_true h,decide_eq_true (by omega)])
 rw[jA,Int.toNat_natCast,<-hr]at h;exact h
def qA (r s:Abs.Rows) (i:Int):St:=ae 41 [vl r,vl s,.af,.af,vi .i64 0,vi .i64 i] [none,none]
theorem pz {r s:Abs.Rows} {l m:List Int} (c:Int) (hr:r=W .u32 l) (hs:s=W .u32 m) (hl:l.length<=2199023255552) (hm:m.length<=2199023255552) (vg:Wd l) (vR:Wd m) (bG:Tr l) (hmt:Tr m) (hc:c=bC (val l) (val m)) :
  ah Tryz.prog 171 [.val (tl r),.val (tl s)] ⟨[.val (ti .i64 c)],[none,none]⟩:=by
 refine ar aj mixed [.val] Tryz.func171 rfl rfl (by kernel_rfl) fun zD _ zG _ _ _ _ _ _ _ _ _ _ _ _ zX _ _ _ _ _ zu _ zz _ _ _ _ _ _ _ ab _ _ aL aw _ _ _ _ _ _ _ _ _ _ _ _ _ _ _ A L F hS hF=>?_
 have h1:ab r=l.length:=by rw[hS.len,hr,jf]
 have h2:ab s=m.length:=by rw[hS.len,hs,jf]
 cbv;rw[h1,h2];refine⟨fun h=>⟨fun h'=>?_,fun h'=>?_⟩,fun h=>?_⟩
 all_goals rw[hS.ne,hS.aB,hS.aB]at h
 ·rw[hS.lt,hS.aB,hS.aB]at h'
  have h':(l.length:Int)<m.length:=of_decide_eq_true h';exact bn hF (kl (by rw[hc,fS (iA vg vR hmt (by omega))]))
 ·rw[hS.lt,hS.aB,hS.aB]at h'
  have h':=of_decide_eq_false h';have h:=of_decide_eq_true h;exact bn hF (kl (by rw[hc,iC (iA vR vg bG (by omega))]))
 ·have h:=of_decide_eq_false h
  have hlen:l.length=m.length:=by omega
  have Wz:zD .i64 (zG (zz l.length) 1)=zG (zz l.length) 1:=by rw[hS.wrap,hS.sub,hS.aB];exact wrap_i64 (by omega) (by omega)
  rw[Wz];refine fN aj mixed hS (fun(k:Nat) s'=>k<=l.length/\l.drop k=m.drop k/\s'=qA r s (zG (zz k) 1)) (n:=l.length) (s0:=qA r s (zG (zz l.length) 1)) (fi ?_ ?_) rfl (Nat.le_refl 2) ?_ ?_
  ·simp[dO,qA,ae,vi,vl]
  ·simp[dP,qA,ae]
  ·refine⟨Nat.le_refl _,?_,rfl⟩
   rw[List.drop_length,hlen,List.drop_length]
  ·rintro k _ ⟨hk,he,rfl⟩
   have hi:zG (zz k) 1=(k:Int)-1:=by rw[hS.sub,hS.aB]
   have hz:zX 0 (zG (zz k) 1)=decide (1<=k):=by
    rw[hS.le,hi]
    by_cases h:1<=k
    ·rw[decide_eq_true h];exact decide_eq_true (by omega)
    ·rw[decide_eq_false h];exact decide_eq_false (by omega)
   have Jb:1<=k->zu (zG (zz k) 1)=k-1:=fun h=>by rw[hS.nat,hi];omega
   have g1:1<=k->aw r (zu (zG (zz k) 1))=l.getD (k-1) 0:=fun h=>by rw[Jb h,hS.dF,hr,mP]
   have g2:1<=k->aw s (zu (zG (zz k) 1))=m.getD (k-1) 0:=fun h=>by rw[Jb h,hS.dF,hs,mP]
   have M5:∀x:Int,x=c->F ⟨[.val (.c (.v (.int .i64 x)))],[none,none]⟩:=fun x hx=>bn hF (kl hx)
   have Ft:1<=k->aL .u32 r (zu (zG (zz k) 1))=true:=fun h=>by rw[Jb h,hS.gE,hr,kM];exact decide_eq_true (by omega)
   have PI:1<=k->aL .u32 s (zu (zG (zz k) 1))=true:=fun h=>by rw[Jb h,hS.gE,hs,kM];exact decide_eq_true (by omega)
   have LY:1<=k->zD .i64 (zG (zG (zz k) 1) 1)=zG (zz (k-1)) 1:=fun h=>by rw[hi,hS.wrap,hS.sub,hS.sub,hS.aB,wrap_i64 (by omega) (by omega)];omega
   cbv;refine⟨fun h=>?_,fun h=>M5 _ ?_⟩
   ·have a1:=h
    rw[hz]at h;have h:=of_decide_eq_true h;have a2:=Ft h;have a3:=PI h;rw[LY h,g1 h,g2 h];refine nd a1 (nd a2 (nd a1 (nd a3 ⟨fun h3=>nd a1 (nd a2 (nd a1 (nd a3 ⟨fun h4=>M5 _ ?_,fun h4=>M5 _ ?_⟩))),fun h3=>?_⟩)))
    all_goals rw[hS.ne]at h3
    ·rw[hS.lt]at h4
     rw[hc,fS (gN (i:=k-1) vg vR hlen (by omega) (by rw[show k-1+1=k by omega];exact he) (of_decide_eq_true h4))]
    ·rw[hS.lt]at h4
     have e3:=of_decide_eq_true h3;have e4:=of_decide_eq_false h4;rw[hc,iC (gN (i:=k-1) vR vg hlen.symm (by omega) (by rw[show k-1+1=k by omega];exact he.symm) (by omega))]
    ·refine again (s':=qA r s (zG (zz (k-1)) 1)) (m:=k-1) (by simp[dO,qA,ae,vi,vl]) (by simp[dP,qA,ae]) rfl (Nat.le_refl 2) (by omega) ⟨by omega,?_,rfl⟩
     have e3:=of_decide_eq_false h3;rw[kN (show k-1<l.length by omega),kN (show k-1<m.length by omega),show k-1+1=k by omega,he,show l.getD (k-1) 0=m.getD (k-1) 0 by omega]
   ·rw[hz]at h
    have h:=of_decide_eq_false h;obtain rfl:k=0:=by omega
    simp only[List.drop_zero]at he;rw[hc,he,Jo]
open Go Go.Abs Go.Abs.M Go.Proofs
open Go Go.Abs Go.Abs.M Go.Proofs
open Go Go.Abs Go.Abs.M Go.Proofs
def qC (r s R:Abs.Rows) (n:Nat) (len i:Int):St:=ae 70 [vl r,vl s,.af,.af,fy,.c (.sl 2 0 n false),.af,.af,.af,.af,.af,.af,.af,.af,.af,.af,.af,.af,vi .i64 len,vi .i64 i] [none,none,some (.rows 1 R true false)]
def mg (r s R:Abs.Rows) (n:Nat) (len i x c abK j:Int):St:=ae 70 [vl r,vl s,.af,.af,fy,.c (.sl 2 0 n false),vi .i64 i,vi .u64 c,vi .u64 x,.af,.af,.af,.af,.af,.af,.af,.af,.af,vi .i64 len,vi .i64 i,.af,.af,.af,.af,.af,.af,.af,.af,vi .i64 abK,vi .i64 j] [none,none,some (.rows 1 R true false)]
theorem yV {r s:Abs.Rows} {l m:List Int} (hr:r=W .u32 l) (hs:s=W .u32 m) (hl:l.length<=1099511627776) (hm:m.length<=1099511627776) (vg:Wd l) (vR:Wd m) :
  ah Tryz.prog 178 [.val (tl r),.val (tl s)] ⟨[.val (tl (W .u32 (dg (val l*val m).toNat)))],[none,none]⟩:=by
 obtain⟨n,hn⟩:∃n:Nat,n=l.length+m.length:=⟨_,rfl⟩;refine ar aj mixed [.val] Tryz.func178 rfl rfl (by kernel_rfl) fun zD zE _ zH _ _ _ zM _ _ _ _ _ _ _ zX _ _ _ _ _ zu zy zz bd _ _ _ _ _ _ ab _ _ aL aw aP a9 aE _ _ bO _ _ _ _ _ _ _ zW _ A L F hS hF=>?_
 have h1:ab r=l.length:=by rw[hS.len,hr,jf]
 have h2:ab s=m.length:=by rw[hS.len,hs,jf]
 have hN:zD .i64 (zE (zz (ab r)) (zz (ab s)))=zz n:=by
  rw[h1,h2,hS.wrap,hS.add,hS.aB,hS.aB,hS.aB,hn,wrap_i64 (by omega) (by omega)];omega
 have HO:zu (zz n)=n:=by rw[hS.nat,hS.aB];omega
 have jt:bO n [.v (.int .u32 0)]=zW .u32 (List.replicate n 0):=by rw[hS.rep,hS.W];exact xn ..
 cbv;rw[hN,HO,jt];refine nd (by rw[hS.nq,hS.aB];exact decide_eq_true (by unfold az;omega)) ?_;refine fN aj mixed hS (fun(u:Nat) s'=>∃(k:Nat) (o:List Int),k+u=l.length/\o.length=n/\Wd o/\val o=val (l.take k)*val m/\s'=qC r s (zW .u32 o) n (zz l.length) (zz k)) (n:=l.length)
  (s0:=qC r s (zW .u32 (List.replicate n 0)) n (zz l.length) (zz 0)) (fi ?_ ?_) rfl (Nat.le_succ 2) ?_ ?_
 ·simp[dO,qC,ae,vi,vl,fy,hS.aB,h1]
 ·simp[dP,qC,ae]
 ·exact⟨0,_,by omega,by simp,Wd.rep _,by rw[Dl];simp[val],rfl⟩
 ·rintro u _ ⟨k,o,hk,ho,hw,hv,rfl⟩
  have gx:=vg.get k;have yO:a9 0 n (zW .u32 o)=true:=by rw[hS.fit,hS.W,jf];exact decide_eq_true (by omega)
  have KH:aE (zW .u32 o) 0 n=W .u32 o:=by rw[hS.part,hS.W,kj,List.drop_zero,List.take_of_length_le (by omega)]
  have hT:=qz (r:=W .u32 o) rfl (by omega) hw;have e6:=lQ hS.lt hS.aB k l.length;have Te:k<l.length->aL .u32 r (zu (zz k))=true:=fun h=>by rw[hS.gE,hr,hS.nat,hS.aB,kM];exact decide_eq_true (by omega)
  have M8:zX 0 (zz k)=true:=by rw[hS.le,hS.aB];exact decide_eq_true (by omega)
  have e0:aw r (zu (zz k))=l.getD k 0:=by rw[hS.dF,hS.nat,hS.aB,hr,mP,Int.toNat_natCast]
  have ew:zD .u64 (l.getD k 0)=l.getD k 0:=by rw[hS.wrap,eG (by omega) (by omega)]
  have hvk:=El l k;have eL:k=l.length->val o=val l*val m:=fun h=>by
   subst h;rw[List.take_of_length_le (Nat.le_refl _)]at hv;exact hv
  have ky:val o<4294967296^(k+m.length):=by
   rw[hv];have b:=Dk (vg.take k);rw[List.length_take,Nat.min_eq_left (by omega)]at b;exact xr (sU (vg.take k)) (sU vR) b (Dk vR)
  generalize OM:l.getD k 0=x at *;cbv;refine⟨fun h=>?_,fun h=>?_⟩
  all_goals rw[e6]at h
  ·have h:=of_decide_eq_true h
   refine nd M8 (nd (Te h) ?_);refine fN aj mixed hS (fun(u':Nat) s'=>∃(j:Nat) (o':List Int) (c:Int),j+u'=m.length/\o'.length=n/\Wd o'/\(0<=c/\c<4294967296)/\o'.drop (k+j)=o.drop (k+j)/\val o'+c*4294967296^(k+j)=val o+x*4294967296^k*val (m.take j)/\s'=mg r s (zW .u32 o') n (zz l.length) (zz k) x c (zz m.length) (zz j)) (n:=m.length)
    (s0:=mg r s (zW .u32 o) n (zz l.length) (zz k) x 0 (zz m.length) (zz 0)) (fi ?_ ?_) rfl (Nat.le_succ 2) ?_ ?_
   ·have VT:=e0
    rw[hS.aB]at VT;simp[dO,mg,ae,vi,vl,fy,hS.aB,h2,VT,ew]
   ·simp[dP,mg,ae]
   ·exact⟨0,_,0,by omega,ho,hw,by omega,rfl,by simp[val],rfl⟩
   ·rintro u' _ ⟨j,o',c,hj,WA,KI,hc,Jq,sQ,rfl⟩
    have gm:=vR.get j;have gw:=KI.get (k+j);have hb:=AY gx gm gw hc;obtain⟨t,ht⟩:∃t,t=x*m.getD j 0+o'.getD (k+j) 0+c:=⟨_,rfl⟩;have dN:=FC sQ ht (Int.pow_add 4294967296 k j);have f6:=lQ hS.lt hS.aB j m.length;have f9:j<m.length->aL .u32 s (zu (zz j))=true:=fun h=>by rw[hS.gE,hs,hS.nat,hS.aB,kM];exact decide_eq_true (by omega)
    have Tf:zX 0 (zz j)=true:=by rw[hS.le,hS.aB];exact decide_eq_true (by omega)
    have f0:aw s (zu (zz j))=m.getD j 0:=by rw[hS.dF,hS.nat,hS.aB,hs,mP,Int.toNat_natCast]
    have f1:j<=m.length->zD .i64 (zE (zz k) (zz j))=zz (k+j):=fun h=>by rw[hS.wrap,hS.add,hS.aB,hS.aB,hS.aB,wrap_i64 (by omega) (by omega)];omega
    have UK:zD .i64 (zE (zz k) (zz m.length))=zz (k+m.length):=by rw[hS.wrap,hS.add,hS.aB,hS.aB,hS.aB,wrap_i64 (by omega) (by omega)];omega
    have f2:∀q,bd 0 (zz q)=q:=fun q=>by rw[hS.idx,hS.aB];omega
    have f3:∀q,q<n->zy (zz q) n=true:=fun q hq=>by rw[hS.yF,hS.aB];exact decide_eq_true (by omega)
    have f4:∀q,q<n->aL .u32 (zW .u32 o') q=true:=fun q hq=>by rw[hS.gE,hS.W,kM];exact decide_eq_true (by omega)
    have f5:∀q,aw (zW .u32 o') q=o'.getD q 0:=fun q=>by rw[hS.dF,hS.W,mP]
    have f7:∀q y,aP .u32 (zW .u32 o') q y=zW .u32 (o'.set q y):=fun q y=>by rw[hS.oP,hS.W,pq]
    have fw1:zD .u64 (m.getD j 0)=m.getD j 0:=by rw[hS.wrap,eG (by omega) (by omega)]
    have fw2:zD .u64 (o'.getD (k+j) 0)=o'.getD (k+j) 0:=by rw[hS.wrap,eG (by omega) (by omega)]
    have f8:zD .u64 (zE (zD .u64 (zE (zD .u64 (zH x (m.getD j 0))) (o'.getD (k+j) 0))) c)=t:=by
     rw[hS.wrap,hS.wrap,hS.wrap,hS.mul,hS.add,hS.add,eG (x:=x*m.getD j 0) (by omega) (by omega),eG (x:=x*m.getD j 0+o'.getD (k+j) 0) (by omega) (by omega),eG (by omega) (by omega),ht]
    have e2:zD .u32 t=t%4294967296:=by rw[hS.wrap];exact AS _
    have e3:zM .u64 t 32=t/4294967296:=by rw[show zM .u64 t 32=ZI.bV.shr .u64 t 32 from hS.shr ..];exact RA (by omega)
    have e3':zD .u32 c=c:=by rw[hS.wrap];exact LX (by omega) (by omega)
    have e4:j<m.length->zD .i64 (zE (zz j) 1)=zz (j+1):=fun h=>by rw[hS.wrap,hS.add,hS.aB,hS.aB,wrap_i64 (by omega) (by omega)];omega
    have VG:zD .i64 (zE (zz k) 1)=zz (k+1):=by rw[hS.wrap,hS.add,hS.aB,hS.aB,wrap_i64 (by omega) (by omega)];omega
    have jG:∀q y,q<n->val (o'.set q y)=val o'+(y-o'.getD q 0)*4294967296^q:=fun q y hq=>Dm _ _ _ (by omega)
    have htz:j=m.length->o'.getD (k+j) 0=0:=fun hj=>by
     have e:o'.getD (k+j) 0=o.getD (k+j) 0:=by
      have:=congrArg (fun y=>List.getD y 0 0) Jq;simpa[List.getD_eq_getElem?_getD]using this
     rw[e,hj];exact FD hw (by omega) ky
    have htt:0<=t:=by omega
    have UQ:t<18446744073709551616:=by omega
    have hmj:=El m j;have G2:j=m.length->m.take j=m:=fun h=>List.take_of_length_le (by omega)
    clear ht hb;generalize Jp:m.getD j 0=y at *;generalize Dn:o'.getD (k+j) 0=w at *;cbv;refine⟨fun h'=>?_,fun h'=>?_⟩
    all_goals rw[f6]at h'
    ·have h':=of_decide_eq_true h'
     rw[f1 (by omega),f2,f0,fw1,f5,Dn,fw2,f8,e2,e3,e4 h',f7];refine nd Tf (nd (f9 h') (nd (f3 _ (by omega)) (nd (f4 _ (by omega)) (nd (f3 _ (by omega)) (nd (f4 _ (by omega)) ?_)))));refine again (s':=mg r s (zW .u32 (o'.set (k+j) (t%4294967296))) n (zz l.length) (zz k) x (t/4294967296) (zz m.length) (zz (j+1))) (m:=u'-1) (by simp[dO,mg,ae,vi,vl,fy]) (by simp[dP,mg,ae]) rfl (Nat.le_succ 2) (by omega)
      ⟨_,_,_,by omega,by simpa using WA,KI.set _ (by omega) (by omega),by omega,?_,?_,rfl⟩
     ·rw[show k+(j+1)=k+j+1 by omega,Td]
      have:=congrArg (List.drop 1) Jq;simpa[List.drop_drop]using this
     ·rw[jG _ _ (by omega),Dn,show k+(j+1)=k+j+1 by omega,Int.pow_succ,hmj]
      exact dN
    ·have h':=of_decide_eq_false h'
     have Rx:j=m.length:=by omega
     rw[h2,UK,f2,e3',VG,f7];refine nd (f3 _ (by omega)) (nd (f4 _ (by omega)) ?_);refine again (s':=qC r s (zW .u32 (o'.set (k+m.length) c)) n (zz l.length) (zz (k+1))) (m:=u-1) (by simp[dO,qC,ae,vi,vl,fy]) (by simp[dP,qC,ae]) rfl (Nat.le_succ 2) (by omega)
      ⟨_,_,by omega,by simpa using WA,KI.set _ (by omega) (by omega),?_,rfl⟩
     have e:=jG (k+j) c (by omega);rw[Dn,htz Rx]at e;rw[G2 Rx,hv]at sQ;rw[<-Rx,e,hvk];clear e Dn;generalize val (List.take k l)=p1,val m=p2,val o'=p3 at *;generalize (4294967296:Int)^k=p4 at *;generalize (4294967296:Int)^(k+j)=p5 at *;grind
  ·have h:=of_decide_eq_false h
   rw[KH];refine nd yO ⟨_,hS.call hT,?_⟩;rw[eL (by omega)];generalize W .u32 (dg (val l*val m).toNat)=z at *;cbv;exact hF _ (ak.refl _)
open Go Go.Abs Go.Abs.M Go.Proofs
end Go.Proofs.YtekefilngojelaaGreat
end
section
namespace Go.Abs.M
theorem A9 {a b c d:Int} (ha:0<=a/\a<4294967296) (hb:0<=b/\b<4294967296) (hc:0<=c/\c<=1) (hd:d=((a-b)%18446744073709551616-c)%18446744073709551616) :
  d%4294967296=(4294967296+a-b-c)%4294967296/\d/9223372036854775808=1-(4294967296+a-b-c)/4294967296/\0<=d:=by omega
structure Tq (u v:List Int) (n:Nat) (g:Int) (k:Nat) (o:List Int) (c b:Int):Prop where
 lo:o.length=n+1
 wo:Wd o
 hc:0<=c/\c<4294967296
 hb:0<=b/\b<=1
 dr:o.drop k=u.drop k
 eq:val (o.take k)=val (u.take k)-g*val (v.take k)+(b+c)*4294967296^k
theorem jg {o u:List Int} {k:Nat} (h:o.drop k=u.drop k):o.getD k 0=u.getD k 0:=by
 have:=congrArg (fun y=>List.getD y 0 0) h;simpa[List.getD_eq_getElem?_getD]using this
theorem uP {o u:List Int} {k:Nat} (x:Int) (h:o.drop k=u.drop k):(o.set k x).drop (k+1)=u.drop (k+1):=by
 rw[Td];have:=congrArg (List.drop 1) h;simpa[List.drop_drop]using this
section
variable {u v o:List Int} {n k:Nat} {g c b pr d:Int}
theorem Tq.start (hu:u.length=n+1) (hw:Wd u):Tq u v n g 0 u 0 0:=⟨hu,hw,by omega,by omega,rfl,by simp[val]⟩
theorem Tq.step (h:Tq u v n g k o c b) (vS:Wd u) (yQ:Wd v) (FH:0<=g) (Zd:g<=4294967296) (hk:k<n) (UR:pr=g*v.getD k 0+c) (hd:d=((u.getD k 0-pr%4294967296)%18446744073709551616-b)%18446744073709551616) :
  (0<=g*v.getD k 0/\g*v.getD k 0<18446744073709551616)/\(0<=pr/\pr<18446744073709551616)/\0<=d/\o.getD k 0=u.getD k 0/\Tq u v n g (k+1) (o.set k (d%4294967296)) (pr/4294967296) (d/9223372036854775808):=by
 obtain⟨lo,wo,hc,hb,dr,eq⟩:=h;have ga:=vS.get k;have gv:=yQ.get k;have VN:0<=g*v.getD k 0/\g*v.getD k 0<=4294967296*4294967295:=⟨Int.mul_nonneg FH gv.1,Int.mul_le_mul Zd (by omega) gv.1 (by omega)⟩;obtain⟨t,ht⟩:∃t,t=4294967296+u.getD k 0-pr%4294967296-b:=⟨_,rfl⟩;have dN:=uM eq UR ht;obtain⟨d1,d2,d3⟩:=A9 ga (show 0<=pr%4294967296/\pr%4294967296<4294967296 by omega) hb hd
 rw[<-ht]at d1 d2;refine⟨by omega,by omega,d3,jg dr,?_⟩;rw[d1,d2];refine⟨by simpa using lo,wo.set _ (by omega) (by omega),by omega,by omega,uP _ dr,?_⟩;rw[Rv _ (by omega),El u,El v,Int.pow_succ,dN,Int.mul_add]
theorem Tq.last (h:Tq u v n g n o c b) (hu:u.length=n+1) (hv:v.length=n) (vS:Wd u) (hd:d=((u.getD n 0-c)%18446744073709551616-b)%18446744073709551616) :
  0<=d/\o.getD n 0=u.getD n 0/\(d/9223372036854775808=0↔¬val u-g*val v<0)/\o.set n (d%4294967296)=yR (n+1) (val u-g*val v)/\(o.set n (d%4294967296)).length=n+1:=by
 obtain⟨lo,wo,hc,hb,dr,eq⟩:=h;have gun:=vS.get n;obtain⟨n1,n2,n3⟩:=A9 gun hc hb hd;obtain⟨y,hy⟩:∃y,y=4294967296+u.getD n 0-c-b:=⟨_,rfl⟩;rw[<-hy]at n1 n2;rw[n1,n2];have Ts:Wd (o.set n (y%4294967296)):=wo.set _ (by omega) (by omega);have RD:(o.set n (y%4294967296)).length=n+1:=by simpa using lo
 have Tt:val (o.set n (y%4294967296))=(val u-g*val v)+(1-y/4294967296)*4294967296^(n+1):=by
  have a1:=Rv (l:=o) (k:=n) (y%4294967296) (by omega);rw[List.take_of_length_le (by omega)]at a1;have a2:=El u n;rw[List.take_of_length_le (by omega)]at a2;rw[List.take_of_length_le (l:=v) (by omega)]at eq;have a3:=Int.emod_add_mul_ediv y 4294967296;have a4:y%4294967296=4294967296+u.getD n 0-c-b-4294967296*(y/4294967296):=by omega
  rw[a1,a2,eq,Int.pow_succ,a4];generalize y/4294967296=z at *;generalize (4294967296:Int)^n=p at *;generalize val v=vv,val (u.take n)=uu,u.getD n 0=w at *;clear a1 a2 a3 a4 eq n1 n2 hd hy Ts RD dr;grind
 refine⟨n3,jg dr,?_,Dp Ts RD Tt,RD⟩;have a2:=Dk Ts;have a3:=sU Ts;rw[RD]at a2;have a4:=yo (n+1);rcases(show 1-y/4294967296=0∨1-y/4294967296=1 by omega) with h1|h1
 ·rw[h1]at Tt ⊢;constructor<;>intro<;>omega
 ·rw[h1]at Tt ⊢;constructor<;>intro<;>omega
structure Tu (u v:List Int) (n:Nat) (k:Nat) (o:List Int) (c:Int):Prop where
 lo:o.length=n+1
 wo:Wd o
 hc:0<=c/\c<=1
 dr:o.drop k=u.drop k
 eq:val (o.take k)+c*4294967296^k=val (u.take k)+val (v.take k)
theorem Tu.start (hu:u.length=n+1) (hw:Wd u):Tu u v n 0 u 0:=⟨hu,hw,by omega,rfl,by simp[val]⟩
theorem Tu.step {t:Int} (h:Tu u v n k o c) (vS:Wd u) (yQ:Wd v) (hk:k<n) (ht:t=u.getD k 0+v.getD k 0+c) :
  (0<=t/\t<18446744073709551616)/\o.getD k 0=u.getD k 0/\Tu u v n (k+1) (o.set k (t%4294967296)) (t/4294967296):=by
 obtain⟨lo,wo,hc,dr,eq⟩:=h;have ga:=vS.get k;have gv:=yQ.get k;have dN:=xq eq ht;refine⟨by omega,jg dr,by simpa using lo,wo.set _ (by omega) (by omega),by omega,uP _ dr,?_⟩;rw[Rv _ (by omega),El u,El v,Int.pow_succ];exact dN
theorem Tu.last (h:Tu u v n n o c) (hu:u.length=n+1) (hv:v.length=n) (vS:Wd u):o.getD n 0=u.getD n 0/\o.set n ((u.getD n 0+c)%4294967296)=yR (n+1) (val u+val v)/\(o.set n ((u.getD n 0+c)%4294967296)).length=n+1:=by
 obtain⟨lo,wo,hc,dr,eq⟩:=h;have gun:=vS.get n;obtain⟨y,hy⟩:∃y,y=u.getD n 0+c:=⟨_,rfl⟩;rw[<-hy];have Ts:Wd (o.set n (y%4294967296)):=wo.set _ (by omega) (by omega);have RD:(o.set n (y%4294967296)).length=n+1:=by simpa using lo
 refine⟨jg dr,Dp (b:=-(y/4294967296)) Ts RD ?_,RD⟩;have a1:=Rv (l:=o) (k:=n) (y%4294967296) (by omega);rw[List.take_of_length_le (by omega)]at a1;have a2:=El u n;rw[List.take_of_length_le (by omega)]at a2;rw[List.take_of_length_le (l:=v) (by omega)]at eq;have a3:=Int.emod_add_mul_ediv y 4294967296;have a4:y%4294967296=u.getD n 0+c-4294967296*(y/4294967296):=by omega
 have a5:val (o.take n)=val (u.take n)+val v-c*4294967296^n:=by omega
 rw[a1,a2,a5,Int.pow_succ,a4];generalize y/4294967296=z at *;generalize (4294967296:Int)^n=p at *;generalize val v=vv,val (u.take n)=uu,u.getD n 0=w at *;clear a1 a2 a3 a4 a5 eq hy Ts RD dr;grind
end
end Go.Abs.M
end
