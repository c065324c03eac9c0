/- A part. -/
import Derived.Laws.BitsLemmas
import Derived.Test.YtekefilngojelaaGreatProg
import Derived.Test.YtekefilngojelaaGreatM8
set_option maxHeartbeats 0
set_option maxRecDepth 100000
set_option linter.unusedVariables false
set_option linter.unusedSimpArgs false
set_option linter.unusedSectionVars false
section
namespace Go.Abs
inductive BT (α:Type) where
 | leaf
 | node (k:Nat) (v:α) (l r:BT α)
def BT.find {α:Type}:BT α->Nat->Option α
 | .leaf,_=>none
 | .node k v l r,i=>if i=k then some v else if i<k then l.find i else r.find i
def BT.all {α:Type} (p:Nat->α->Bool):BT α->Bool
 | .leaf=>true
 | .node k v l r=>p k v&&l.all p&&r.all p
theorem BT.xj {α:Type} {p:Nat->α->Bool} {i:Nat} {v:α}:∀ {t:BT α},t.all p=true->t.find i=some v->p i v=true
 | .leaf,_,h=>by cases h
 | .node k w l r,ha,h=>by
  simp only[BT.all,Bool.and_eq_true]at ha;simp only[BT.find]at h;split at h
  ·rename_i e;cases h;rw[e];exact ha.1.1
  ·split at h
   ·exact BT.xj ha.1.2 h
   ·exact BT.xj ha.2 h
theorem VZ {P:Program} {t:BT TI} {md:FuncId->List Mode} {cs:TypeId->Bool} (h:t.all (fun i ti=>UY P i ti)=true):bC P ⟨t.find,md,cs⟩:=
 fun i ti hi=>BT.xj h hi
def aav (t:BT (List Mode)) (f:FuncId):List Mode:=(t.find f).getD []
def ae (n:Nat) (l:List AV) (h:bU):St:=⟨l++List.replicate (n-l.length) .af,h⟩
def vi (k:IntKind) (n:Int):AV:=.c (.t (.v (.int k n)))
def vb (b:Bool):AV:=.c (.t (.v (.bool b)))
def ti (k:IntKind) (n:Int):TV:=.c (.v (.int k n))
def tb (b:Bool):TV:=.c (.v (.bool b))
theorem wrap_i64 {x:Int} (h0:-9223372036854775808<=x) (h1:x<9223372036854775808):IntKind.wrap .i64 x=x:=by
 rw[IntKind.wrap_i64];omega
theorem LB {x:Int} (h0:0<=x) (h1:x<2^32):IntKind.wrap .u32 x=x:=by
 have:IntKind.wrap .u32 x=x%2^32:=rfl;rw[this,Int.emod_eq_of_lt h0 h1]
theorem AQ (x:Int):IntKind.wrap .u32 x=x%4294967296:=rfl
theorem AR (x:Int):IntKind.wrap .u64 x=x%18446744073709551616:=rfl
theorem wrap_u8 {x:Int} (h0:0<=x) (h1:x<256):IntKind.wrap .u8 x=x:=by
 have:IntKind.wrap .u8 x=x%256:=rfl;rw[this,Int.emod_eq_of_lt h0 h1]
def vl (r:Rows):AV:=.c (.t (.aa false r))
def tl (r:Rows):TV:=.c (.aa false r)
def fH:AV:=.c (.t (.aa true []))
def iT (s:Bool) (r:Rows):List Tree:=[.v (.bool s),.aa false r]
theorem jr (k:IntKind) (l:List Int):(W k l).length=l.length:=by simp[W]
theorem Q4 (k:IntKind) (l:List Int) (i:Nat):(W k l)[i]?=(l[i]?).map fun x=>[Tree.v (.int k x)]:=by simp[W]
theorem kY (k:IntKind) (l:List Int) (i:Nat):ZI.cJ.gM k (W k l) i=decide (i<l.length):=by
 simp only[ZI.cJ,Q4];rcases Nat.lt_or_ge i l.length with h|h
 ·simp[h]
 ·simp[h,Nat.not_lt.2 h]
theorem m8 (k:IntKind) (l:List Int) (i:Nat):ZI.cJ.dK (W k l) i=l.getD i 0:=by
 simp only[ZI.cJ,Q4,List.getD_eq_getElem?_getD];cases l[i]? <;> rfl
theorem pC (k:IntKind) (l:List Int) (i:Nat) (x:Int):(W k l).set i [.v (.int k x)]=W k (l.set i x):=by simp[W,List.map_set]
theorem kv (k:IntKind) (l:List Int) (a n:Nat):((W k l).drop a).take n=W k ((l.drop a).take n):=by simp[W,List.map_drop,List.map_take]
theorem MJ (k:IntKind) (l m:List Int) (a:Nat):aZ (W k l) a (W k m)=W k (aZ l a m):=by simp[W,aZ,List.map_drop,List.map_take]
theorem xk (k:IntKind) (n:Nat) (x:Int):List.replicate n [Tree.v (.int k x)]=W k (List.replicate n x):=by simp[W]
theorem HA (k:IntKind) (l:List Int):((W k l).all fun r=>r.length==1)=true:=by simp[W]
theorem aq {α:Sort _} (a:α):∃x,x=a:=⟨a,rfl⟩
theorem dT {b:Bool} {p:Prop} [Decidable p] (e:b=decide p) (h:p):b=true:=e.trans (decide_eq_true h)
theorem dF {b:Bool} {p:Prop} [Decidable p] (e:b=decide p) (h:¬p):b=false:=e.trans (decide_eq_false h)
theorem aC {res:ko} {F:ko->Prop} (h:∀r,fV r res->F r):F res:=h _ (fV.refl _)
section
variable {P:Program} {n0:Nat} {zD:IntKind->Int->Int} {zE zG zH zI zJ:Int->Int->Int} {zK zM zN zO zR zS:IntKind->Int->Int->Int} {zT zU zV zX:Int->Int->Bool} {zY:Bool->Bool} {zZ zg:Bool->Bool->Bool} {zh zj:Int->Int->Int} {zu:Int->Nat} {zy:Int->Nat->Bool} {zz:Nat->Int} {bg:Nat->Int->Nat} {ay:Nat->Nat->Bool} {aK:Nat->Nat->Nat} {bO:Int->Int->Nat} {bI:Int->Int->Nat->Bool} {aQ:Nat->Nat->Nat->Bool} {aT:Int->Int->Nat->Bool} {ab:Rows->Nat} {aB:Rows->Nat->Option (List Tree)} {bA:Rows->Nat->List Tree->Rows} {aL:IntKind->Rows->Nat->Bool} {ar:Rows->Nat->Int} {aR:IntKind->Rows->Nat->Int->Rows} {a9:Nat->Nat->Rows->Bool} {aD:Rows->Nat->Nat->Rows} {bV bB:Rows->Nat->Rows->Rows} {bR:Nat->List Tree->Rows} {aM:Nat->Rows->Bool} {db:List Bool->Bool} {dc bn:List (Value×Tree)->Value->Bool} {a8:List (Value×Tree)->Value->Tree->List (Value×Tree)} {bY:Rows->Option ByteArray} {aX:List (Value×Tree)->Value->Option (Option Tree)} {zW:IntKind->List Int->Rows} {kW:(α:Type)->(Unit->α)->α} {A:FuncId->Ask->oV->Prop} {L:Code->St->(bq->ST->Prop)->Prop}
theorem Std.cl (h:Std P n0 zD zE zG zH zI zJ zK zM zN zO zR zS zT zU zV zX zY zZ zg zh zj zu zy zz bg ay aK bO bI aQ aT ab aB bA aL ar aR a9 aD bV bB bR aM db dc bn a8 bY aX zW kW A L) {f:FuncId} {args:List Arg} {res:ko} {q:ko->Prop} (c:eP P f args res) (k:q res):∃x,A f (.a args) (.a x)/\q x:=⟨_,h.call c,k⟩
end
theorem bT {b:Bool} {p q:Prop} (h:b=true) (hp:p):Br b p q:=⟨fun _=>hp,fun h'=>absurd (h.symm.trans h') (by decide)⟩
theorem bF {b:Bool} {p q:Prop} (h:b=false) (hq:q):Br b p q:=⟨fun h'=>absurd (h.symm.trans h') (by decide),fun _=>hq⟩
theorem nd {c:Bool} {p:Prop} (h:c=true) (hp:p):VS c p:=⟨h,hp⟩
theorem bc {F:ko->Prop} {y:TV} {o:List (Option aA)} (hF:∀r,fV r ⟨[.val y],o⟩->F r) {x:TV} (h:x=y):F ⟨[.val x],o⟩:=by subst h;exact aC hF
theorem Pm {F:ko->Prop} {y y':TV} {o:List (Option aA)} (hF:∀r,fV r ⟨[.val y,.val y'],o⟩->F r) {x x':TV} (h:x=y) (h':x'=y'):F ⟨[.val x,.val x'],o⟩:=by subst h h';exact aC hF
theorem ib {F:ko->Prop} {y:TV} {o:List (Option aA)} (hF:∀r,fV r ⟨[.val y],o⟩->F r) {x:TV} (h:jq x y):F ⟨[.val x],o⟩:=hF _ ⟨⟨h,trivial⟩,rfl⟩
theorem Fl {F:ko->Prop} {y y':TV} {o:List (Option aA)} (hF:∀r,fV r ⟨[.val y,.val y'],o⟩->F r) {x x':TV} (h:jq x y) (h':jq x' y'):F ⟨[.val x,.val x'],o⟩:=hF _ ⟨⟨h,h',trivial⟩,rfl⟩
theorem kx {k:IntKind} {a b:Int} (h:a=b):TV.c (.v (.int k a))=.c (.v (.int k b)):=by rw[h]
theorem jf {a b:Bool} (h:a=b):TV.c (.v (.bool a))=.c (.v (.bool b)):=by rw[h]
theorem again {s s':St} {n0 n m:Nat} {I:Nat->St->Prop} (h1:dS s.tmps s'.tmps) (h2:dU s.heap s'.heap) (h3:s'.aO=true) (h4:n0<=s'.heap.length) (hm:m<n) (hI:I m s') :
  ∃s',s.Le s'/\s'.aO=true/\n0<=s'.heap.length/\∃m,m<n/\I m s':=⟨s',fy h1 h2,h3,h4,m,hm,hI⟩
end Go.Abs
end
section
namespace Go.Proofs.YtekefilngojelaaGreat
open Go Go.Abs Go.Proofs
def tab:BT TI:=(.node 53 ⟨.struct [(0,3),(1,31),(2,31),(3,37),(4,42),(5,42),(6,42),(7,48),(24,49),(25,50),(26,51),(27,39)],28,528,[.v (.int .i64 0),.aa true [],.aa
 true [],.aa true [],.aa true [],.aa true [],.aa true [],.v (.int .i64 0),.v (.int .i64 0),.v (.int .i64 0),.v (.int .i64 0),.v (.int .i64 0),.v (.int .i64 0),.v
 (.int .i64 0),.v (.int .i64 0),.aa true [],.aa true [],.aa true [],.aa true [],.aa true [],.aa true [],.aa true [],.aa true [],.aa true [],.aa true [],.aa
 true [],.aa true [],.aa true []]⟩ (.node 29 ⟨.struct [(0,27)],1,24,[.aa true []]⟩ (.node 13 ⟨.struct [(0,9),(1,12)],2,24,[.v (.string ⟨#[]⟩),.v (.int .u64 0)]⟩
 (.node 7 ⟨.struct [(0,2),(1,3),(2,4),(3,6)],4,24,[.v (.int .i64 0),.v (.int .i64 0),.v (.bool false),.v (.int .u8 0)]⟩ (.node 4 ⟨.bool,1,1,[.v (.bool false)]⟩
 (.node 3 ⟨.int .i64,1,8,[.v (.int .i64 0)]⟩ (.node 2 ⟨.int .i64,1,8,[.v (.int .i64 0)]⟩ .leaf .leaf) .leaf) (.node 6 ⟨.int .u8,1,1,[.v (.int .u8 0)]⟩ (.node 5 ⟨.int .u8,
 1,1,[.v (.int .u8 0)]⟩ .leaf .leaf) .leaf)) (.node 10 ⟨.string,1,16,[.v (.string ⟨#[]⟩)]⟩ (.node 9 ⟨.string,1,16,[.v (.string ⟨#[]⟩)]⟩ (.node 8 ⟨.struct [(0,2),(1,3),
 (2,4),(3,6)],4,24,[.v (.int .i64 0),.v (.int .i64 0),.v (.bool false),.v (.int .u8 0)]⟩ .leaf .leaf) .leaf) (.node 12 ⟨.int .u64,1,8,[.v (.int .u64 0)]⟩ (.node 11
 ⟨.string,1,16,[.v (.string ⟨#[]⟩)]⟩ .leaf .leaf) .leaf))) (.node 23 ⟨.slice 86,1,24,[.aa true []]⟩ (.node 19 ⟨.struct [(0,17)],1,8,[.v (.pointer none)]⟩ (.node 18
 ⟨.struct [(0,17)],1,8,[.v (.pointer none)]⟩ (.node 14 ⟨.struct [(0,9),(1,12)],2,24,[.v (.string ⟨#[]⟩),.v (.int .u64 0)]⟩ .leaf .leaf) .leaf) (.node 22 ⟨.slice 29,1,
 24,[.aa true []]⟩ (.node 21 ⟨.int .i32,1,4,[.v (.int .i32 0)]⟩ .leaf .leaf) .leaf)) (.node 26 ⟨.array 3 5,3,3,[.v (.int .u8 0),.v (.int .u8 0),.v (.int .u8 0)]⟩ (.node 25
 ⟨.struct [(0,5),(1,22),(2,23)],3,56,[.v (.int .u8 0),.aa true [],.aa true []]⟩ (.node 24 ⟨.struct [(0,5),(1,22),(2,23)],3,56,[.v (.int .u8 0),.aa true [],
 .aa true []]⟩ .leaf .leaf) .leaf) (.node 28 ⟨.struct [(0,27)],1,24,[.aa true []]⟩ (.node 27 ⟨.slice 87,1,24,[.aa true []]⟩ .leaf .leaf) .leaf)))) (.node 42 ⟨.slice 31,1,
 24,[.aa true []]⟩ (.node 36 ⟨.slice 43,1,24,[.aa true []]⟩ (.node 33 ⟨.struct [(0,3),(1,31),(2,31)],3,56,[.v (.int .i64 0),.aa true [],.aa true []]⟩ (.node 32
 ⟨.struct [(0,3),(1,31),(2,31)],3,56,[.v (.int .i64 0),.aa true [],.aa true []]⟩ (.node 31 ⟨.slice 35,1,24,[.aa true []]⟩ .leaf .leaf) .leaf) (.node 35 ⟨.slice 96,
 1,24,[.aa true []]⟩ (.node 34 ⟨.slice 96,1,24,[.aa true []]⟩ .leaf .leaf) .leaf)) (.node 39 ⟨.slice 128,1,24,[.aa true []]⟩ (.node 38 ⟨.slice 3,1,24,[.aa true []]⟩
 (.node 37 ⟨.slice 43,1,24,[.aa true []]⟩ .leaf .leaf) .leaf) (.node 41 ⟨.struct [(0,3),(1,35),(2,3),(3,3),(4,3),(5,37),(6,31),(7,38),(8,39)],9,152,[.v (.int
 .i64 0),.aa true [],.v (.int .i64 0),.v (.int .i64 0),.v (.int .i64 0),.aa true [],.aa true [],.aa true [],.aa true []]⟩ (.node 40 ⟨.struct [(0,3),(1,35),(2,3),
 (3,3),(4,3),(5,37),(6,31),(7,38),(8,39)],9,152,[.v (.int .i64 0),.aa true [],.v (.int .i64 0),.v (.int .i64 0),.v (.int .i64 0),.aa true [],.aa true [],.aa
 true [],.aa true []]⟩ .leaf .leaf) .leaf))) (.node 48 ⟨.struct [(0,43),(8,45),(9,46)],17,280,[.v (.int .i64 0),.v (.int .i64 0),.v (.int .i64 0),.v (.int .i64 0),.v
 (.int .i64 0),.v (.int .i64 0),.v (.int .i64 0),.v (.int .i64 0),.aa true [],.aa true [],.aa true [],.aa true [],.aa true [],.aa true [],.aa true [],.aa true [],
 .aa true []]⟩ (.node 45 ⟨.slice 93,1,24,[.aa true []]⟩ (.node 44 ⟨.slice 93,1,24,[.aa true []]⟩ (.node 43 ⟨.array 8 3,8,64,[.v (.int .i64 0),.v (.int .i64 0),.v (.int
 .i64 0),.v (.int .i64 0),.v (.int .i64 0),.v (.int .i64 0),.v (.int .i64 0),.v (.int .i64 0)]⟩ .leaf .leaf) .leaf) (.node 47 ⟨.struct [(0,43),(8,45),(9,46)],17,280,[.v
 (.int .i64 0),.v (.int .i64 0),.v (.int .i64 0),.v (.int .i64 0),.v (.int .i64 0),.v (.int .i64 0),.v (.int .i64 0),.v (.int .i64 0),.aa true [],.aa true [],.aa true
 [],.aa true [],.aa true [],.aa true [],.aa true [],.aa true [],.aa true []]⟩ (.node 46 ⟨.array 8 45,8,192,[.aa true [],.aa true [],.aa true [],.aa true [],
 .aa true [],.aa true [],.aa true [],.aa true []]⟩ .leaf .leaf) .leaf)) (.node 51 ⟨.slice 137,1,24,[.aa true []]⟩ (.node 50 ⟨.slice 134,1,24,[.aa true []]⟩ (.node 49
 ⟨.slice 126,1,24,[.aa true []]⟩ .leaf .leaf) .leaf) (.node 52 ⟨.struct [(0,3),(1,31),(2,31),(3,37),(4,42),(5,42),(6,42),(7,48),(24,49),(25,50),(26,51),
 (27,39)],28,528,[.v (.int .i64 0),.aa true [],.aa true [],.aa true [],.aa true [],.aa true [],.aa true [],.v (.int .i64 0),.v (.int .i64 0),.v (.int .i64 0),.v
 (.int .i64 0),.v (.int .i64 0),.v (.int .i64 0),.v (.int .i64 0),.v (.int .i64 0),.aa true [],.aa true [],.aa true [],.aa true [],.aa true [],.aa true [],.aa true
 [],.aa true [],.aa true [],.aa true [],.aa true [],.aa true [],.aa true []]⟩ .leaf .leaf))))) (.node 134 ⟨.struct [(0,93),(4,35)],5,88,[.v (.bool false),.aa
 true [],.v (.bool false),.aa true [],.aa true []]⟩ (.node 93 ⟨.struct [(0,91),(2,91)],4,64,[.v (.bool false),.aa true [],.v (.bool false),.aa true []]⟩ (.node 86
 ⟨.int .i8,1,1,[.v (.int .i8 0)]⟩ (.node 66 ⟨.array 4 5,4,4,[.v (.int .u8 0),.v (.int .u8 0),.v (.int .u8 0),.v (.int .u8 0)]⟩ (.node 55 ⟨.struct [(0,33),(3,41),(12,
 53)],40,736,[.v (.int .i64 0),.aa true [],.aa true [],.v (.int .i64 0),.aa true [],.v (.int .i64 0),.v (.int .i64 0),.v (.int .i64 0),.aa true [],.aa true [],.aa
 true [],.aa true [],.v (.int .i64 0),.aa true [],.aa true [],.aa true [],.aa true [],.aa true [],.aa true [],.v (.int .i64 0),.v (.int .i64 0),.v (.int .i64 0),
 .v (.int .i64 0),.v (.int .i64 0),.v (.int .i64 0),.v (.int .i64 0),.v (.int .i64 0),.aa true [],.aa true [],.aa true [],.aa true [],.aa true [],.aa true [],.aa
 true [],.aa true [],.aa true [],.aa true [],.aa true [],.aa true [],.aa true []]⟩ (.node 54 ⟨.struct [(0,33),(3,41),(12,53)],40,736,[.v (.int .i64 0),.aa true
 [],.aa true [],.v (.int .i64 0),.aa true [],.v (.int .i64 0),.v (.int .i64 0),.v (.int .i64 0),.aa true [],.aa true [],.aa true [],.aa true [],.v (.int .i64 0),
 .aa true [],.aa true [],.aa true [],.aa true [],.aa true [],.aa true [],.v (.int .i64 0),.v (.int .i64 0),.v (.int .i64 0),.v (.int .i64 0),.v (.int .i64 0),.v
 (.int .i64 0),.v (.int .i64 0),.v (.int .i64 0),.aa true [],.aa true [],.aa true [],.aa true [],.aa true [],.aa true [],.aa true [],.aa true [],.aa true [],
 .aa true [],.aa true [],.aa true [],.aa true []]⟩ .leaf .leaf) .leaf) (.node 84 ⟨.array 8 3,8,64,[.v (.int .i64 0),.v (.int .i64 0),.v (.int .i64 0),.v (.int .i64 0),
 .v (.int .i64 0),.v (.int .i64 0),.v (.int .i64 0),.v (.int .i64 0)]⟩ (.node 70 ⟨.slice 5,1,24,[.aa true []]⟩ .leaf .leaf) .leaf)) (.node 90 ⟨.struct [(0,4),(1,89)],2,
 32,[.v (.bool false),.aa true []]⟩ (.node 89 ⟨.slice 195,1,24,[.aa true []]⟩ (.node 87 ⟨.array 5 86,5,5,[.v (.int .i8 0),.v (.int .i8 0),.v (.int .i8 0),.v (.int .i8
 0),.v (.int .i8 0)]⟩ .leaf .leaf) .leaf) (.node 92 ⟨.struct [(0,91),(2,91)],4,64,[.v (.bool false),.aa true [],.v (.bool false),.aa true []]⟩ (.node 91 ⟨.struct [(0,
 4),(1,89)],2,32,[.v (.bool false),.aa true []]⟩ .leaf .leaf) .leaf))) (.node 126 ⟨.struct [(0,93),(4,93)],8,128,[.v (.bool false),.aa true [],.v (.bool false),.aa
 true [],.v (.bool false),.aa true [],.v (.bool false),.aa true []]⟩ (.node 101 ⟨.int .i64,1,8,[.v (.int .i64 0)]⟩ (.node 96 ⟨.struct [(0,93),(4,84)],12,128,[.v
 (.bool false),.aa true [],.v (.bool false),.aa true [],.v (.int .i64 0),.v (.int .i64 0),.v (.int .i64 0),.v (.int .i64 0),.v (.int .i64 0),.v (.int .i64 0),.v (.int
 .i64 0),.v (.int .i64 0)]⟩ (.node 95 ⟨.struct [(0,93),(4,84)],12,128,[.v (.bool false),.aa true [],.v (.bool false),.aa true [],.v (.int .i64 0),.v (.int .i64 0),.v
 (.int .i64 0),.v (.int .i64 0),.v (.int .i64 0),.v (.int .i64 0),.v (.int .i64 0),.v (.int .i64 0)]⟩ .leaf .leaf) .leaf) (.node 125 ⟨.struct [(0,93),(4,93)],8,128,[.v
 (.bool false),.aa true [],.v (.bool false),.aa true [],.v (.bool false),.aa true [],.v (.bool false),.aa true []]⟩ (.node 111 ⟨.int .u64,1,8,[.v (.int .u64 0)]⟩ .leaf
 .leaf) .leaf)) (.node 131 ⟨.struct [(0,86),(1,86),(2,5)],3,3,[.v (.int .i8 0),.v (.int .i8 0),.v (.int .u8 0)]⟩ (.node 128 ⟨.array 8 126,64,1024,[.v (.bool false),
 .aa true [],.v (.bool false),.aa true [],.v (.bool false),.aa true [],.v (.bool false),.aa true [],.v (.bool false),.aa true [],.v (.bool false),.aa true [],.v
 (.bool false),.aa true [],.v (.bool false),.aa true [],.v (.bool false),.aa true [],.v (.bool false),.aa true [],.v (.bool false),.aa true [],.v (.bool false),.aa
 true [],.v (.bool false),.aa true [],.v (.bool false),.aa true [],.v (.bool false),.aa true [],.v (.bool false),.aa true [],.v (.bool false),.aa true [],.v (.bool
 false),.aa true [],.v (.bool false),.aa true [],.v (.bool false),.aa true [],.v (.bool false),.aa true [],.v (.bool false),.aa true [],.v (.bool false),.aa true
 [],.v (.bool false),.aa true [],.v (.bool false),.aa true [],.v (.bool false),.aa true [],.v (.bool false),.aa true [],.v (.bool false),.aa true [],.v (.bool
 false),.aa true [],.v (.bool false),.aa true [],.v (.bool false),.aa true [],.v (.bool false),.aa true []]⟩ (.node 127 ⟨.array 8 126,64,1024,[.v (.bool false),.aa
 true [],.v (.bool false),.aa true [],.v (.bool false),.aa true [],.v (.bool false),.aa true [],.v (.bool false),.aa true [],.v (.bool false),.aa true [],.v (.bool
 false),.aa true [],.v (.bool false),.aa true [],.v (.bool false),.aa true [],.v (.bool false),.aa true [],.v (.bool false),.aa true [],.v (.bool false),.aa true
 [],.v (.bool false),.aa true [],.v (.bool false),.aa true [],.v (.bool false),.aa true [],.v (.bool false),.aa true [],.v (.bool false),.aa true [],.v (.bool
 false),.aa true [],.v (.bool false),.aa true [],.v (.bool false),.aa true [],.v (.bool false),.aa true [],.v (.bool false),.aa true [],.v (.bool false),.aa true
 [],.v (.bool false),.aa true [],.v (.bool false),.aa true [],.v (.bool false),.aa true [],.v (.bool false),.aa true [],.v (.bool false),.aa true [],.v (.bool
 false),.aa true [],.v (.bool false),.aa true [],.v (.bool false),.aa true [],.v (.bool false),.aa true []]⟩ .leaf .leaf) .leaf) (.node 133 ⟨.struct [(0,93),(4,35)],
 5,88,[.v (.bool false),.aa true [],.v (.bool false),.aa true [],.aa true []]⟩ (.node 132 ⟨.struct [(0,86),(1,86),(2,5)],3,3,[.v (.int .i8 0),.v (.int .i8 0),.v
 (.int .u8 0)]⟩ .leaf .leaf) .leaf)))) (.node 237 ⟨.struct [(0,17),(1,17),(2,17),(3,9)],4,40,[.v (.pointer none),.v (.pointer none),.v (.pointer none),.v (.string
 ⟨#[]⟩)]⟩ (.node 181 ⟨.struct [(0,3),(1,35),(2,37)],3,56,[.v (.int .i64 0),.aa true [],.aa true []]⟩ (.node 148 ⟨.struct [(0,4),(1,4),(2,4),(3,4),(4,4),(5,4),
 (6,4),(7,4),(8,4),(9,4),(10,4),(11,4)],12,12,[.v (.bool false),.v (.bool false),.v (.bool false),.v (.bool false),.v (.bool false),.v (.bool false),.v (.bool
 false),.v (.bool false),.v (.bool false),.v (.bool false),.v (.bool false),.v (.bool false)]⟩ (.node 142 ⟨.map 9 3,1,8,[.v (.map none)]⟩ (.node 137 ⟨.array 8 93,32,512,
 [.v (.bool false),.aa true [],.v (.bool false),.aa true [],.v (.bool false),.aa true [],.v (.bool false),.aa true [],.v (.bool false),.aa true [],.v (.bool false),
 .aa true [],.v (.bool false),.aa true [],.v (.bool false),.aa true [],.v (.bool false),.aa true [],.v (.bool false),.aa true [],.v (.bool false),.aa true [],.v
 (.bool false),.aa true [],.v (.bool false),.aa true [],.v (.bool false),.aa true [],.v (.bool false),.aa true [],.v (.bool false),.aa true []]⟩ .leaf .leaf) .leaf)
 (.node 180 ⟨.struct [(0,3),(1,35),(2,37)],3,56,[.v (.int .i64 0),.aa true [],.aa true []]⟩ (.node 149 ⟨.struct [(0,4),(1,4),(2,4),(3,4),(4,4),(5,4),(6,4),
 (7,4),(8,4),(9,4),(10,4),(11,4)],12,12,[.v (.bool false),.v (.bool false),.v (.bool false),.v (.bool false),.v (.bool false),.v (.bool false),.v (.bool false),.v
 (.bool false),.v (.bool false),.v (.bool false),.v (.bool false),.v (.bool false)]⟩ .leaf .leaf) .leaf)) (.node 207 ⟨.struct [(0,70)],1,24,[.aa true []]⟩ (.node 203 ⟨.int
 .u64,1,8,[.v (.int .u64 0)]⟩ (.node 195 ⟨.int .u32,1,4,[.v (.int .u32 0)]⟩ .leaf .leaf) .leaf) (.node 233 ⟨.slice 91,1,24,[.aa true []]⟩ (.node 208 ⟨.struct [(0,70)],1,
 24,[.aa true []]⟩ .leaf .leaf) .leaf))) (.node 244 ⟨.int .u8,1,1,[.v (.int .u8 0)]⟩ (.node 240 ⟨.struct [(0,239)],0,0,[]⟩ (.node 239 ⟨.array 0 16,0,0,[]⟩ (.node 238
 ⟨.struct [(0,17),(1,17),(2,17),(3,9)],4,40,[.v (.pointer none),.v (.pointer none),.v (.pointer none),.v (.string ⟨#[]⟩)]⟩ .leaf .leaf) .leaf) (.node 243 ⟨.int .u8,1,
 1,[.v (.int .u8 0)]⟩ (.node 241 ⟨.struct [(0,239)],0,0,[]⟩ .leaf .leaf) .leaf)) (.node 249 ⟨.struct [(0,12),(1,12),(2,195),(3,243),(4,5),(5,5),(6,244),(7,245),
 (8,246),(9,247),(10,248)],11,48,[.v (.int .u64 0),.v (.int .u64 0),.v (.int .u32 0),.v (.int .u8 0),.v (.int .u8 0),.v (.int .u8 0),.v (.int .u8 0),.v .nilFunc,.v
 (.pointer none),.v (.int .i32 0),.v (.int .i32 0)]⟩ (.node 248 ⟨.int .i32,1,4,[.v (.int .i32 0)]⟩ (.node 247 ⟨.int .i32,1,4,[.v (.int .i32 0)]⟩ .leaf .leaf) .leaf) (.node
 250 ⟨.struct [(0,12),(1,12),(2,195),(3,243),(4,5),(5,5),(6,244),(7,245),(8,246),(9,247),(10,248)],11,48,[.v (.int .u64 0),.v (.int .u64 0),.v (.int .u32
 0),.v (.int .u8 0),.v (.int .u8 0),.v (.int .u8 0),.v (.int .u8 0),.v .nilFunc,.v (.pointer none),.v (.int .i32 0),.v (.int .i32 0)]⟩ .leaf .leaf))))))
theorem aaw:(tab.all fun i ti=>UY Tryz.prog i ti)=true:=by kernel_rfl
theorem mixed:Tryz.prog.follows .mixedOrders=true:=by kernel_rfl
def mdt:BT (List Abs.Mode):=(.node 100 [.val] (.node 52 [.own 1,.val] (.node 27 [.val,.val] (.node 15 [.val,.val] (.node 9 [.val] (.node 5 [.val,.val,.val] (.node 4 [.val,.val,.val] (.node 3 [.val,
 .val,.val] .leaf .leaf) .leaf) (.node 8 [.val,.val] (.node 6 [.val,.val,.val] .leaf .leaf) .leaf)) (.node 12 [.val] (.node 11 [.val,.val,.val,.val] (.node 10 [.val,.val,
 .val,.val] .leaf .leaf) .leaf) (.node 14 [.val,.val] (.node 13 [.val] .leaf .leaf) .leaf))) (.node 21 [.val] (.node 18 [.val,.val] (.node 17 [.val,.val] (.node 16 [.val,.val]
 .leaf .leaf) .leaf) (.node 20 [.val] (.node 19 [.val] .leaf .leaf) .leaf)) (.node 24 [.val,.val] (.node 23 [.own 1,.val] (.node 22 [.own 1,.val] .leaf .leaf) .leaf) (.node 26
 [.val,.val] (.node 25 [.val] .leaf .leaf) .leaf)))) (.node 40 [.val,.val] (.node 34 [.val] (.node 31 [.val] (.node 30 [.val,.val] (.node 28 [.val] .leaf .leaf) .leaf) (.node 33
 [.val,.val,.val] (.node 32 [.val] .leaf .leaf) .leaf)) (.node 37 [.val] (.node 36 [.val,.val] (.node 35 [.val] .leaf .leaf) .leaf) (.node 39 [.val,.val] (.node 38 [.val,.val]
 .leaf .leaf) .leaf))) (.node 46 [.val,.val] (.node 43 [.val,.val] (.node 42 [.val,.val,.val] (.node 41 [.val,.val] .leaf .leaf) .leaf) (.node 45 [.val,.val,.val] (.node 44
 [.val] .leaf .leaf) .leaf)) (.node 49 [.val,.val] (.node 48 [.val,.val,.val] (.node 47 [.val] .leaf .leaf) .leaf) (.node 51 [.own 1,.val] (.node 50 [.own 1,.val] .leaf .leaf)
 .leaf))))) (.node 76 [.val] (.node 64 [.val,.val] (.node 58 [.val,.val] (.node 55 [.own 1,.val] (.node 54 [.own 1,.val] (.node 53 [.own 1,.val] .leaf .leaf) .leaf) (.node 57
 [.val] (.node 56 [.val,.val] .leaf .leaf) .leaf)) (.node 61 [.val,.val] (.node 60 [.val,.val] (.node 59 [.val] .leaf .leaf) .leaf) (.node 63 [.val] (.node 62 [.val] .leaf .leaf)
 .leaf))) (.node 70 [.val] (.node 67 [.val,.val,.val] (.node 66 [.val,.val] (.node 65 [.val,.val,.val,.val,.val] .leaf .leaf) .leaf) (.node 69 [.val,.val] (.node 68 [.val]
 .leaf .leaf) .leaf)) (.node 73 [.val,.val] (.node 72 [.val,.val,.val,.val,.val] (.node 71 [.val,.val,.val] .leaf .leaf) .leaf) (.node 75 [.val,.val,.val] (.node 74 [.val,
 .val] .leaf .leaf) .leaf)))) (.node 88 [.val,.val,.val] (.node 82 [.val] (.node 79 [.val,.val] (.node 78 [.val] (.node 77 [.val,.val] .leaf .leaf) .leaf) (.node 81 [.val,.val]
 (.node 80 [.val] .leaf .leaf) .leaf)) (.node 85 [.val,.val,.val,.val] (.node 84 [.val,.val] (.node 83 [.val,.val] .leaf .leaf) .leaf) (.node 87 [.val,.val] (.node 86 [.val,
 .val] .leaf .leaf) .leaf))) (.node 94 [.val,.val] (.node 91 [.val,.val] (.node 90 [.val] (.node 89 [.val,.val] .leaf .leaf) .leaf) (.node 93 [.val,.val] (.node 92 [.own 1,
 .val] .leaf .leaf) .leaf)) (.node 97 [.val,.val] (.node 96 [.val,.val] (.node 95 [.val,.val] .leaf .leaf) .leaf) (.node 99 [.val,.val] (.node 98 [.val] .leaf .leaf) .leaf))))))
 (.node 151 [.val] (.node 127 [.val,.val] (.node 115 [.val,.val] (.node 109 [.val,.val,.val] (.node 103 [.val] (.node 102 [.val,.val] (.node 101 [.val,.val] .leaf .leaf)
 .leaf) (.node 108 [.val] (.node 107 [.val] .leaf .leaf) .leaf)) (.node 112 [.val,.val] (.node 111 [.val,.val] (.node 110 [.val,.val] .leaf .leaf) .leaf) (.node 114 [.val,.val,
 .val] (.node 113 [.val] .leaf .leaf) .leaf))) (.node 121 [.val] (.node 118 [.val] (.node 117 [.own 1,.val] (.node 116 [.val] .leaf .leaf) .leaf) (.node 120 [.val] (.node 119
 [.val] .leaf .leaf) .leaf)) (.node 124 [.val] (.node 123 [.val] (.node 122 [.val] .leaf .leaf) .leaf) (.node 126 [.own 1,.val] (.node 125 [.val] .leaf .leaf) .leaf)))) (.node 139
 [.val] (.node 133 [.val] (.node 130 [.val,.val] (.node 129 [.val,.val] (.node 128 [.val,.val] .leaf .leaf) .leaf) (.node 132 [.val,.val] (.node 131 [.val,.val] .leaf .leaf)
 .leaf)) (.node 136 [.val,.val] (.node 135 [.val,.val] (.node 134 [.val,.val] .leaf .leaf) .leaf) (.node 138 [.val,.val] (.node 137 [.val,.val] .leaf .leaf) .leaf))) (.node 145
 [.val,.val] (.node 142 [.val] (.node 141 [.val] (.node 140 [.val] .leaf .leaf) .leaf) (.node 144 [.val,.val] (.node 143 [.val,.val,.val] .leaf .leaf) .leaf)) (.node 148 [.sh 4]
 (.node 147 [.sh 4] (.node 146 [.sh 4] .leaf .leaf) .leaf) (.node 150 [.own 1,.val] (.node 149 [.own 1,.val] .leaf .leaf) .leaf))))) (.node 175 [.sh 4] (.node 163 [.val] (.node
 157 [.val,.val] (.node 154 [.fu,.val] (.node 153 [.val,.val] (.node 152 [.val,.val] .leaf .leaf) .leaf) (.node 156 [.fu,.val] (.node 155 [.fu,.val,.val] .leaf .leaf)
 .leaf)) (.node 160 [.val] (.node 159 [.val] (.node 158 [.val,.val] .leaf .leaf) .leaf) (.node 162 [.val,.val] (.node 161 [.val] .leaf .leaf) .leaf))) (.node 169 [.val] (.node 166
 [.sh 4] (.node 165 [.sh 4] (.node 164 [.sh 4] .leaf .leaf) .leaf) (.node 168 [.sh 4] (.node 167 [.sh 4] .leaf .leaf) .leaf)) (.node 172 [.val] (.node 171 [.val,.val] (.node 170
 [.val] .leaf .leaf) .leaf) (.node 174 [.val,.val] (.node 173 [.val] .leaf .leaf) .leaf)))) (.node 187 [.val] (.node 181 [.val] (.node 178 [.val,.val] (.node 177 [.val] (.node 176
 [.val,.val] .leaf .leaf) .leaf) (.node 180 [.val] (.node 179 [.sh 4] .leaf .leaf) .leaf)) (.node 184 [.val] (.node 183 [.val] (.node 182 [.val] .leaf .leaf) .leaf) (.node 186
 [.val] (.node 185 [.val] .leaf .leaf) .leaf))) (.node 193 [.val] (.node 190 [.val] (.node 189 [.val] (.node 188 [.val] .leaf .leaf) .leaf) (.node 192 [.val] (.node 191 [.val] .leaf
 .leaf) .leaf)) (.node 196 [.val] (.node 195 [.val] (.node 194 [.val] .leaf .leaf) .leaf) (.node 197 [.val] .leaf .leaf)))))))
def CC:eA:=⟨tab.find,aav mdt,fun t=>false⟩
abbrev aH:FuncId->List Arg->ko->Prop:=eP Tryz.prog
theorem ai:bC Tryz.prog CC:=VZ aaw
end Go.Proofs.YtekefilngojelaaGreat
end
section
namespace Go.Abs
theorem rK.MK {P:Program} {C:eA} {n0:Nat} {st:St} (hC:bC P C) (eY:P.follows .mixedOrders=true) {c:Code} {Q:bq->St->Prop} (I:Nat->St->Prop) {n:Nat} {s0:St} (hl:st.Le s0) (hb:s0.aO=true) (hk:n0<=s0.heap.length) (h0:I n s0)
  (round:∀n s,I n s->fG P C n0 c s fun e s=>match e with
   | .normal=>∃ρ s',s.Eg n0 ρ s'/\s'.aO=true/\n0<=s'.heap.length/\∃m,m<n/\I m s'
   | .exit id=>Q (.exit id) s
   | .ret=>Q .ret s):rK P n0 c st Q:=by
 refine dN.weaken hl hb hk (dN.loop I (fun n s hI=>dN.Pe ((fG.run hC eY c s _ (round n s hI)).mono fun e s1 h1=>?_)) h0);cases e with
 | normal=>
  obtain⟨ρ,s',h2,h3,h4,m,h5,h6⟩:=h1;exact .inr ⟨ρ,s',h2,h3,h4,m,h5,h6⟩
 | exit id=>exact .inl h1
 | ret=>exact .inl h1
theorem tP {s s':St} {n0 n k:Nat} {I:Nat->St->Prop} (m:List (Nat×Nat)) (h1:bd (ak m) s.tmps s'.tmps) (h2:bf (ak m) s.heap 0 s'.heap) (h3:(aF (ak m) 0 s'.heap).Nodup) (h4:∀p∈m,n0<=p.1)
  (h5:s'.aO=true) (h6:n0<=s'.heap.length) (hm:k<n) (hI:I k s'):∃ρ s',s.Eg n0 ρ s'/\s'.aO=true/\n0<=s'.heap.length/\∃m,m<n/\I m s':=⟨_,s',Hr m h1 h2 h3 h4,h5,h6,k,hm,hI⟩
section
variable {P:Program} {C:eA} {n0:Nat} {zD:IntKind->Int->Int} {zE zG zH zI zJ:Int->Int->Int} {zK zM zN zO zR zS:IntKind->Int->Int->Int} {zT zU zV zX:Int->Int->Bool} {zY:Bool->Bool} {zZ zg:Bool->Bool->Bool} {zh zj:Int->Int->Int} {zu:Int->Nat} {zy:Int->Nat->Bool} {zz:Nat->Int} {bg:Nat->Int->Nat} {ay:Nat->Nat->Bool} {aK:Nat->Nat->Nat} {bO:Int->Int->Nat} {bI:Int->Int->Nat->Bool} {aQ:Nat->Nat->Nat->Bool} {aT:Int->Int->Nat->Bool} {ab:Rows->Nat} {aB:Rows->Nat->Option (List Tree)} {bA:Rows->Nat->List Tree->Rows} {aL:IntKind->Rows->Nat->Bool} {ar:Rows->Nat->Int} {aR:IntKind->Rows->Nat->Int->Rows} {a9:Nat->Nat->Rows->Bool} {aD:Rows->Nat->Nat->Rows} {bV bB:Rows->Nat->Rows->Rows} {bR:Nat->List Tree->Rows} {aM:Nat->Rows->Bool} {db:List Bool->Bool} {dc bn:List (Value×Tree)->Value->Bool} {a8:List (Value×Tree)->Value->Tree->List (Value×Tree)} {bY:Rows->Option ByteArray} {aX:List (Value×Tree)->Value->Option (Option Tree)} {zW:IntKind->List Int->Rows} {kW:(α:Type)->(Unit->α)->α} {A:FuncId->Ask->oV->Prop} {L:Code->St->(bq->ST->Prop)->Prop}
theorem SD (hC:bC P C) (eY:P.follows .mixedOrders=true) (hS:Std P n0 zD zE zG zH zI zJ zK zM zN zO zR zS zT zU zV zX zY zZ zg zh zj zu zy zz bg ay aK bO bI aQ aT ab aB bA aL ar aR a9 aD bV bB bR aM db dc bn a8 bY aX zW kW A L) {c:Code} {st:St} {Q:bq->ST->Prop} (I:Nat->St->Prop) {n:Nat} {s0:St} (hl:st.Le s0) (hb:s0.aO=true) (hk:n0<=s0.heap.length) (h0:I n s0)
  (round:∀n s,I n s->dO (ZI.mk zD zE zG zH zI zJ zK zM zN zO zR zS zT zU zV zX zY zZ zg zh zj zu zy zz bg ay aK bO bI aQ aT ab aB bA aL ar aR a9 aD bV bB bR aM db dc bn a8 bY aX) C A L c (ST.mb s) fun e s=>match e with
   | .normal=>match s.fO with
    | ⟨t,h⟩=>∃ρ s',(St.mk t h).Eg n0 ρ s'/\s'.aO=true/\n0<=s'.heap.length/\∃m,m<n/\I m s'
   | .exit id=>Q (.exit id) s
   | .ret=>Q .ret s):L c st Q:=by
 rw[hS.z,hS.a,hS.l]at round;rw[hS.l];refine fun hT=>rK.MK hC eY I hl hb hk h0 fun n s hI=>?_
 have:=gA c _ (ST.mc s) hT (round n s hI);rw[ST.iw]at this;refine Q1 c s this fun e s1 h1=>?_
 obtain⟨s',ho,rfl,h2⟩:=h1;cases e with
 | normal=>exact h2
 | exit id=>exact⟨s',ho,rfl,h2⟩
 | ret=>exact⟨s',ho,rfl,h2⟩
end
def oF (Z:ZI) (C:eA) (A:FuncId->Ask->oV->Prop) (L:Code->St->(bq->ST->Prop)->Prop) (c:Code) (Q:bq->ST->Prop):Nat->ST->Prop
 | 0,_=>False
 | n+1,st=>dO Z C A L c st fun e s=>match e with
  | .normal=>oF Z C A L c Q n (ST.mb s.fO)
  | .exit id=>Q (.exit id) s
  | .ret=>Q .ret s
section
variable {P:Program} {C:eA} {n0:Nat} {zD:IntKind->Int->Int} {zE zG zH zI zJ:Int->Int->Int} {zK zM zN zO zR zS:IntKind->Int->Int->Int} {zT zU zV zX:Int->Int->Bool} {zY:Bool->Bool} {zZ zg:Bool->Bool->Bool} {zh zj:Int->Int->Int} {zu:Int->Nat} {zy:Int->Nat->Bool} {zz:Nat->Int} {bg:Nat->Int->Nat} {ay:Nat->Nat->Bool} {aK:Nat->Nat->Nat} {bO:Int->Int->Nat} {bI:Int->Int->Nat->Bool} {aQ:Nat->Nat->Nat->Bool} {aT:Int->Int->Nat->Bool} {ab:Rows->Nat} {aB:Rows->Nat->Option (List Tree)} {bA:Rows->Nat->List Tree->Rows} {aL:IntKind->Rows->Nat->Bool} {ar:Rows->Nat->Int} {aR:IntKind->Rows->Nat->Int->Rows} {a9:Nat->Nat->Rows->Bool} {aD:Rows->Nat->Nat->Rows} {bV bB:Rows->Nat->Rows->Rows} {bR:Nat->List Tree->Rows} {aM:Nat->Rows->Bool} {db:List Bool->Bool} {dc bn:List (Value×Tree)->Value->Bool} {a8:List (Value×Tree)->Value->Tree->List (Value×Tree)} {bY:Rows->Option ByteArray} {aX:List (Value×Tree)->Value->Option (Option Tree)} {zW:IntKind->List Int->Rows} {kW:(α:Type)->(Unit->α)->α} {A:FuncId->Ask->oV->Prop} {L:Code->St->(bq->ST->Prop)->Prop}
theorem bz (hC:bC P C) (eY:P.follows .mixedOrders=true) (hS:Std P n0 zD zE zG zH zI zJ zK zM zN zO zR zS zT zU zV zX zY zZ zg zh zj zu zy zz bg ay aK bO bI aQ aT ab aB bA aL ar aR a9 aD bV bB bR aM db dc bn a8 bY aX zW kW A L) {c:Code} {st:St} {Q:bq->ST->Prop} (n:Nat)
  (h:oF (ZI.mk zD zE zG zH zI zJ zK zM zN zO zR zS zT zU zV zX zY zZ zg zh zj zu zy zz bg ay aK bO bI aQ aT ab aB bA aL ar aR a9 aD bV bB bR aM db dc bn a8 bY aX) C A L c Q n (ST.mb st)):L c st Q:=by
 rw[hS.z,hS.a,hS.l]at h;rw[hS.l];refine fun hT=>dN.loop (fun n s=>oF ZI.cJ C (kP P) (Fi P n0) c Q n (ST.mb s)) (fun n s hI=>?_) h
 cases n with
 | zero=>exact hI.elim
 | succ n=>
  have:=gA c _ (ST.mc s) hT hI;rw[ST.iw]at this;refine(fG.run hC eY c s _ this).mono fun e s1 h1=>?_
  obtain⟨s',ho,rfl,h2⟩:=h1;cases e with
  | normal=>exact⟨n,Nat.lt_succ_self n,h2⟩
  | exit id=>exact⟨s',ho,rfl,h2⟩
  | ret=>exact⟨s',ho,rfl,h2⟩
end
def eE (z:Int->Int->Int) (a b:Int):Int:=match a,b with
 | .ofNat n,.ofNat m=>.ofNat (n+m)
 | a,b=>z a b
def mT (z:Int->Int->Int) (a b:Int):Int:=match a,b with
 | .ofNat n,.ofNat m=>(match Nat.ble m n with|true=>.ofNat (n-m)|false=>.negSucc (m-n-1))
 | a,b=>z a b
def aE (z:IntKind->Int->Int) (k:IntKind) (a:Int):Int:=match k,a with
 | .i64,.ofNat n=>(match Nat.blt n 1000000 with|true=>.ofNat n|false=>z .i64 (.ofNat n))
 | .i64,.negSucc n=>(match Nat.blt n 1000000 with|true=>.negSucc n|false=>z .i64 (.negSucc n))
 | .u64,.ofNat n=>(match Nat.blt n 1000000 with|true=>.ofNat n|false=>z .u64 (.ofNat n))
 | .u8,.ofNat n=>(match Nat.blt n 256 with|true=>.ofNat n|false=>z .u8 (.ofNat n))
 | k,a=>z k a
def nM (z:Int->Int->Int) (a b:Int):Int:=match a,b with
 | .ofNat n,.ofNat m=>.ofNat (n*m)
 | a,b=>z a b
def me (z:Int->Int->Bool) (a b:Int):Bool:=match a,b with
 | .ofNat n,.ofNat m=>Nat.blt n m
 | .negSucc n,.ofNat m=>true
 | a,b=>z a b
def sY (z:Int->Int->Bool) (a b:Int):Bool:=match a,b with
 | .ofNat n,.ofNat m=>Nat.ble n m
 | .negSucc n,.ofNat m=>true
 | a,b=>z a b
def fA (z:Int->Int->Bool) (a b:Int):Bool:=match a,b with
 | .ofNat n,.ofNat m=>Nat.beq n m
 | .negSucc n,.ofNat m=>false
 | a,b=>z a b
def IZ (z:Int->Int->Bool) (a b:Int):Bool:=match a,b with
 | .ofNat n,.ofNat m=>!(Nat.beq n m)
 | .negSucc n,.ofNat m=>true
 | a,b=>z a b
def rL (z:Int->Nat) (a:Int):Nat:=match a with
 | .ofNat n=>n
 | a=>z a
def rM (z:Int->Nat->Bool) (a:Int) (b:Nat):Bool:=match a,b with
 | .ofNat n,m+1=>Nat.ble n m
 | a,b=>z a b
def rN (z:Nat->Int->Nat) (a:Nat) (b:Int):Nat:=match b with
 | .ofNat n=>a+n
 | b=>z a b
def rO (z:Bool->Bool) (a:Bool):Bool:=match a with
 | true=>false
 | false=>true
section
variable {P:Program} {C:eA} {n0:Nat} {zD:IntKind->Int->Int} {zE zG zH zI zJ:Int->Int->Int} {zK zM zN zO zR zS:IntKind->Int->Int->Int} {zT zU zV zX:Int->Int->Bool} {zY:Bool->Bool} {zZ zg:Bool->Bool->Bool} {zh zj:Int->Int->Int} {zu:Int->Nat} {zy:Int->Nat->Bool} {zz:Nat->Int} {bg:Nat->Int->Nat} {ay:Nat->Nat->Bool} {aK:Nat->Nat->Nat} {bO:Int->Int->Nat} {bI:Int->Int->Nat->Bool} {aQ:Nat->Nat->Nat->Bool} {aT:Int->Int->Nat->Bool} {ab:Rows->Nat} {aB:Rows->Nat->Option (List Tree)} {bA:Rows->Nat->List Tree->Rows} {aL:IntKind->Rows->Nat->Bool} {ar:Rows->Nat->Int} {aR:IntKind->Rows->Nat->Int->Rows} {a9:Nat->Nat->Rows->Bool} {aD:Rows->Nat->Nat->Rows} {bV bB:Rows->Nat->Rows->Rows} {bR:Nat->List Tree->Rows} {aM:Nat->Rows->Bool} {db:List Bool->Bool} {dc bn:List (Value×Tree)->Value->Bool} {a8:List (Value×Tree)->Value->Tree->List (Value×Tree)} {bY:Rows->Option ByteArray} {aX:List (Value×Tree)->Value->Option (Option Tree)} {zW:IntKind->List Int->Rows} {kW:(α:Type)->(Unit->α)->α} {A:FuncId->Ask->oV->Prop} {L:Code->St->(bq->ST->Prop)->Prop}
theorem Std.lit (h:Std P n0 zD zE zG zH zI zJ zK zM zN zO zR zS zT zU zV zX zY zZ zg zh zj zu zy zz bg ay aK bO bI aQ aT ab aB bA aL ar aR a9 aD bV bB bR aM db dc bn a8 bY aX zW kW A L):∃zo zm za zs zw zl zk ze zn zt zi zx,zY=rO zo/\zH=nM zm/\zE=eE za/\zG=mT zs/\zD=aE zw/\zV=me zl/\zX=sY zk/\zT=fA ze/\zU=IZ zn/\zu=rL zt/\zy=rM zi/\bg=rN zx:=by
 refine⟨zY,zH,zE,zG,zD,zV,zX,zT,zU,zu,zy,bg,?_,?_,?_,?_,?_,?_,?_,?_,?_,?_,?_,?_⟩
 ·funext a
  unfold rO;split<;>rw[h.not]<;>rfl
 ·funext a b
  unfold nM;split
  ·rw[h.mul];rfl
  ·rfl
 ·funext a b
  unfold eE;split
  ·rw[h.add];rfl
  ·rfl
 ·funext a b
  unfold mT;split
  ·rename_i n m
   rw[h.sub];split
   ·rename_i e
    have e:m<=n:=by simpa using e
    show(n:Int)-m=((n-m:Nat):Int)
    omega
   ·rename_i e
    have e:¬m<=n:=fun hh=>by rw[Nat.ble_eq_true_of_le hh]at e;cases e
    show(n:Int)-m=Int.negSucc (m-n-1)
    omega
  ·rfl
 ·funext k a
  unfold aE;split
  ·rename_i n
   split
   ·rename_i hn
    have:n<1000000:=Nat.le_of_ble_eq_true hn;rw[h.wrap];exact wrap_i64 (by show -9223372036854775808<=(n:Int);omega) (by show(n:Int)<9223372036854775808;omega)
   ·rfl
  ·rename_i n
   split
   ·rename_i hn
    have:n<1000000:=Nat.le_of_ble_eq_true hn;rw[h.wrap];exact wrap_i64 (by omega) (by omega)
   ·rfl
  ·rename_i n
   split
   ·rename_i hn
    have:n<1000000:=Nat.le_of_ble_eq_true hn;rw[h.wrap];exact eS (by show 0<=(n:Int);omega) (by show(n:Int)<2^64;omega)
   ·rfl
  ·rename_i n
   split
   ·rename_i hn
    have:n<256:=Nat.le_of_ble_eq_true hn;rw[h.wrap];exact wrap_u8 (by show 0<=(n:Int);omega) (by show(n:Int)<256;omega)
   ·rfl
  ·rfl
 ·funext a b
  unfold me;split
  ·rename_i n m
   rw[h.lt];show decide ((n:Int)<(m:Int))=Nat.blt n m
   rw[Bool.eq_iff_iff];simp
  ·rename_i n m
   rw[h.lt];exact decide_eq_true (show Int.negSucc n<(m:Int) by omega)
  ·rfl
 ·funext a b
  unfold sY;split
  ·rename_i n m
   rw[h.le];show decide ((n:Int)<=(m:Int))=Nat.ble n m
   rw[Bool.eq_iff_iff];simp
  ·rename_i n m
   rw[h.le];exact decide_eq_true (show Int.negSucc n<=(m:Int) by omega)
  ·rfl
 ·funext a b
  unfold fA;split
  ·rename_i n m
   rw[h.eq];show decide ((n:Int)=(m:Int))=Nat.beq n m
   rw[Bool.eq_iff_iff];simp;omega
  ·rename_i n m
   rw[h.eq];exact decide_eq_false (show ¬Int.negSucc n=(m:Int) by omega)
  ·rfl
 ·funext a b
  unfold IZ;split
  ·rename_i n m
   rw[h.ne];show decide (¬(n:Int)=(m:Int))=!(Nat.beq n m)
   by_cases e:n=m
   ·subst e;simp
   ·rw[decide_eq_true (show ¬(n:Int)=m by omega),show Nat.beq n m=false from by rw[Bool.eq_false_iff];simpa using e];rfl
  ·rename_i n m
   rw[h.ne];exact decide_eq_true (show ¬Int.negSucc n=(m:Int) by omega)
  ·rfl
 ·funext a
  unfold rL;split
  ·rw[h.nat];rfl
  ·rfl
 ·funext a b
  unfold rM;split
  ·rename_i n m
   rw[h.yC];show decide (0<=(n:Int)/\(n:Int)<((m+1:Nat):Int))=Nat.ble n m
   exact Bool.eq_iff_iff.2 ⟨fun e=>Nat.ble_eq_true_of_le (by have:=of_decide_eq_true e;omega),fun e=>decide_eq_true (by have:=Nat.le_of_ble_eq_true e;omega)⟩
  ·rfl
 ·funext a b
  unfold rN;split
  ·rw[h.idx];rfl
  ·rfl
end
open Go
section
variable {P:Program} {C:eA}
def Kd (C:eA) (st:ST) (Lz:List ResultVar) (G:List AV->bU->Prop):Prop:=
 match Lz.mapM (qx C st) with
 | none=>False
 | some bL=>G bL st.heap
theorem tQ (hC:bC P C) (eY:P.follows .mixedOrders=true) {f:FuncId} {fn:Func} {c:Code} {s s':St} (jx:P.funcs[f]?=some fn) (fg:(fn.name == "runtime.NumGoroutine")=false) (dD:fn.body=some c) (hT:jk c=true) (hr:s'.aO=true) (hl:s.heap.length<=s'.heap.length)
  (h:∀(zD:IntKind->Int->Int) (zE zG zH zI zJ:Int->Int->Int) (zK zM zN zO zR zS:IntKind->Int->Int->Int) (zT zU zV zX:Int->Int->Bool) (zY:Bool->Bool) (zZ zg:Bool->Bool->Bool) (zh zj:Int->Int->Int) (zu:Int->Nat) (zy:Int->Nat->Bool) (zz:Nat->Int) (bg:Nat->Int->Nat) (ay:Nat->Nat->Bool) (aK:Nat->Nat->Nat) (bO:Int->Int->Nat) (bI:Int->Int->Nat->Bool) (aQ:Nat->Nat->Nat->Bool) (aT:Int->Int->Nat->Bool) (ab:Rows->Nat) (aB:Rows->Nat->Option (List Tree)) (bA:Rows->Nat->List Tree->Rows) (aL:IntKind->Rows->Nat->Bool) (ar:Rows->Nat->Int) (aR:IntKind->Rows->Nat->Int->Rows) (a9:Nat->Nat->Rows->Bool) (aD:Rows->Nat->Nat->Rows) (bV bB:Rows->Nat->Rows->Rows) (bR:Nat->List Tree->Rows) (aM:Nat->Rows->Bool) (db:List Bool->Bool) (dc bn:List (Value×Tree)->Value->Bool) (a8:List (Value×Tree)->Value->Tree->List (Value×Tree)) (bY:Rows->Option ByteArray) (aX:List (Value×Tree)->Value->Option (Option Tree)) (zW:IntKind->List Int->Rows) (kW:(α:Type)->(Unit->α)->α) A L (G:List AV->bU->Prop),Std P s.heap.length zD zE zG zH zI zJ zK zM zN zO zR zS zT zU zV zX zY zZ zg zh zj zu zy zz bg ay aK bO bI aQ aT ab aB bA aL ar aR a9 aD bV bB bR aM db dc bn a8 bY aX zW kW A L->(∀bL hp ρ,(St.mk bL hp).Eg s.heap.length ρ s'->G bL hp)->dO (ZI.mk zD zE zG zH zI zJ zK zM zN zO zR zS zT zU zV zX zY zZ zg zh zj zu zy zz bg ay aK bO bI aQ aT ab aB bA aL ar aR a9 aD bV bB bR aM db dc bn a8 bY aX) C A L c (ST.mb ⟨s.tmps++List.replicate (fn.ntmps-s.tmps.length) .af,s.heap⟩) fun e st=>match e with
   | .exit _=>False
   | .normal=>Kd C st fn.results.toList G
   | .ret=>Kd C st fn.results.toList G):ff P f s s':=by
 have key:=h (fun(a:IntKind) (b:Int)=>a.wrap b) (fun(a:Int) (b:Int)=>a+b) (fun(a:Int) (b:Int)=>a-b) (fun(a:Int) (b:Int)=>a*b) (fun(a:Int) (b:Int)=>a.tdiv b) (fun(a:Int) (b:Int)=>a.tmod b) (fun(a:IntKind) (b:Int) (c:Int)=>a.wrap (b*2^(Min.min c.toNat a.bits))) (fun(a:IntKind) (b:Int) (c:Int)=>b.fdiv (2^(Min.min c.toNat a.bits))) (fun(a:IntKind) (b:Int) (c:Int)=>a.wrap ((BitVec.ofInt a.bits b &&& BitVec.ofInt a.bits c).toNat)) (fun(a:IntKind) (b:Int) (c:Int)=>a.wrap ((BitVec.ofInt a.bits b ||| BitVec.ofInt a.bits c).toNat)) (fun(a:IntKind) (b:Int) (c:Int)=>a.wrap ((BitVec.ofInt a.bits b ^^^ BitVec.ofInt a.bits c).toNat)) (fun(a:IntKind) (b:Int) (c:Int)=>a.wrap ((BitVec.ofInt a.bits b &&& ~~~ BitVec.ofInt a.bits c).toNat)) (fun(a:Int) (b:Int)=>decide (a=b)) (fun(a:Int) (b:Int)=>decide (a≠b)) (fun(a:Int) (b:Int)=>decide (a<b)) (fun(a:Int) (b:Int)=>decide (a<=b)) (fun(a:Bool)=>!a) (fun(a:Bool) (b:Bool)=>(a==b)) (fun(a:Bool) (b:Bool)=>!(a==b)) (fun(a:Int) (b:Int)=>if b>a then b else a) (fun(a:Int) (b:Int)=>if b<a then b else a) (fun(a:Int)=>a.toNat) (fun(a:Int) (b:Nat)=>decide (0<=a/\a<b)) (fun(a:Nat)=>(a:Int)) (fun(a:Nat) (b:Int)=>a+b.toNat) (fun(a:Nat) (b:Nat)=>decide (a=b)) (fun(a:Nat) (b:Nat)=>a+b) (fun(a:Int) (b:Int)=>a.toNat-b.toNat) (fun(a:Int) (b:Int) (c:Nat)=>decide (0<=a/\a<=b/\b<=c)) (fun(a:Nat) (b:Nat) (c:Nat)=>decide ((a+b)*c<=au)) (fun(a:Int) (b:Int) (c:Nat)=>decide (0<=a/\a<=b/\b*c<=au)) (fun(a:Rows)=>a.length) (fun(a:Rows) (b:Nat)=>a[b]?) (fun(a:Rows) (b:Nat) (c:List Tree)=>a.set b c) (fun(a:IntKind) (b:Rows) (c:Nat)=>ZI.cJ.gM a b c) (fun(a:Rows) (b:Nat)=>ZI.cJ.dK a b) (fun(a:IntKind) (b:Rows) (c:Nat) (d:Int)=>b.set c [.v (.int a d)]) (fun(a:Nat) (b:Nat) (c:Rows)=>decide (a+b<=c.length)) (fun(a:Rows) (b:Nat) (c:Nat)=>(a.drop b).take c) (fun(a:Rows) (b:Nat) (c:Rows)=>a.drop b++c) (fun(a:Rows) (b:Nat) (c:Rows)=>aZ a b c) (fun(a:Nat) (b:List Tree)=>List.replicate a b) (fun(a:Nat) (b:Rows)=>b.all fun r=>r.length==a) (fun(a:List Bool)=>a.all id) (fun(a:List (Value×Tree)) (b:Value)=>ZI.cJ.Pg a b) (fun(a:List (Value×Tree)) (b:Value)=>ZI.cJ.Fb a b) (fun(a:List (Value×Tree)) (b:Value) (c:Tree)=>(gk b c a).getD a) (fun(a:Rows)=>ZI.cJ.str a) (fun(a:List (Value×Tree)) (b:Value)=>df b a) W (fun(α:Type) (f:Unit->α)=>f ()) (kP P) (Fi P s.heap.length) (fun bL hp=>∃ρ,(St.mk bL hp).Eg s.heap.length ρ s') ⟨fun _ _=>rfl,fun _ _=>rfl,fun _ _=>rfl,fun _ _=>rfl,fun _ _=>rfl,fun _ _=>rfl,fun _ _ _=>rfl,fun _ _ _=>rfl,fun _ _ _=>rfl,fun _ _ _=>rfl,fun _ _ _=>rfl,fun _ _ _=>rfl,fun _ _=>rfl,fun _ _=>rfl,fun _ _=>rfl,fun _ _=>rfl,fun _=>rfl,fun _ _=>rfl,fun _ _=>rfl,fun _ _=>rfl,fun _ _=>rfl,fun _=>rfl,fun _ _=>rfl,fun _=>rfl,fun _ _=>rfl,fun _ _=>rfl,fun _ _=>rfl,fun _ _=>rfl,fun _ _ _=>rfl,fun _ _ _=>rfl,fun _ _ _=>rfl,fun _=>rfl,fun _ _=>rfl,fun _ _ _=>rfl,fun _ _ _=>rfl,fun _ _=>rfl,fun _ _ _ _=>rfl,fun _ _ _=>rfl,fun _ _ _=>rfl,fun _ _ _=>rfl,fun _ _ _=>rfl,fun _ _=>rfl,fun _ _=>rfl,fun _=>rfl,fun _ _=>rfl,fun _ _=>rfl,fun _ _ _=>rfl,fun _=>rfl,fun _ _=>rfl,rfl,fun _ _=>rfl,rfl,rfl⟩ (fun bL hp ρ h=>⟨ρ,h⟩)
 have k0:=gA c _ (ST.mc _) hT key;rw[ST.iw]at k0;have SB:=Q1 c _ k0 (Q':=fun e s2=>(e=.normal∨e=.ret)/\∃bL ρ,fn.results.toList.mapM (gH C s2)=some bL/\(St.mk bL s2.heap).Eg s.heap.length ρ s'/\s'.aO=true/\s.heap.length<=s'.heap.length) fun e s2 hs=>by
  obtain⟨st,h1,rfl,hs⟩:=hs;have fin:Kd C st fn.results.toList (fun bL hp=>∃ρ,(St.mk bL hp).Eg s.heap.length ρ s')->∃bL ρ,fn.results.toList.mapM (gH C st.fO)=some bL/\(St.mk bL st.fO.heap).Eg s.heap.length ρ s'/\s'.aO=true/\s.heap.length<=s'.heap.length:=fun hf=>by
   unfold Kd at hf;rw[show qx C st=gH C st.fO from funext fun r=>xi h1 r]at hf;split at hf
   ·exact hf.elim
   ·rename_i bL Hn
    obtain⟨ρ,hρ⟩:=hf;exact⟨bL,ρ,Hn,by rw[ST.oD];exact hρ,hr,hl⟩
  cases e with
  | normal=>exact⟨.inl rfl,fin hs⟩
  | exit id=>exact hs.elim
  | ret=>exact⟨.inr rfl,fin hs⟩
 exact ff.ry hC jx fg dD (fG.run hC eY c _ _ SB)
def ML (heap:bU):AV->Option (AV×bU)
 | .c (.sl b off len cp)=>match look heap b with
  | some (.var cells)=>Pf heap (.c (.sl b off len cp))
  | _=>match toTree (look heap) (.sl b off len cp) with
   | some (t,m)=>some (.c (.t t),eR heap m)
   | none=>none
 | x=>some (x,heap)
def Fm:bU->List AV->Option (List AV×bU)
 | h,[]=>some ([],h)
 | h,x::xs=>match ML h x with
  | some (y,h1)=>match Fm h1 xs with
   | some (ys,h2)=>some (y::ys,h2)
   | none=>none
  | none=>none
theorem Ke {K:Ctx} {β:Nat->Option bZ} {S:Place} {a:Act} {w:World} {tm:List AV} {heap eV:bU} (h:Sat K β S ⟨tm,heap⟩ a w) {x x':AV} {v:Value} (hx:aI β S w x v) (hf:ML heap x=some (x',eV)) :
  ∃S',(∀c o,S c o->S' c o)/\Sat K β S' ⟨tm,eV⟩ a w/\aI β S' w x' v:=by
 unfold ML at hf;split at hf
 ·split at hf
  ·exact EX h hx hf
  ·split at hf
   ·rename_i t m ht
    cases hf;cases hx with|c hx=>
    obtain⟨S',e1,e2,e3,e4⟩:=pV (st:=⟨tm,heap⟩) h (eJ.refl _) hx ht;exact⟨S',e1,e2,.c (.t e4)⟩
   ·cases hf
 ·cases hf;exact⟨S,fun _ _ hs=>hs,h,hx⟩
theorem AS {K:Ctx} {β:Nat->Option bZ} {a:Act} {w:World} {tm:List AV}:∀(bL:List AV) (vs:List Value) (heap eV:bU) (S:Place) (qp:List AV),Sat K β S ⟨tm,heap⟩ a w->vs.length=bL.length->(∀(i:Nat) (x:AV),bL[i]?=some x->∃v,vs[i]?=some v/\aI β S w x v)->Fm heap bL=some (qp,eV) ->
  ∃S',(∀c o,S c o->S' c o)/\Sat K β S' ⟨tm,eV⟩ a w/\vs.length=qp.length/\∀(i:Nat) (x:AV),qp[i]?=some x->∃v,vs[i]?=some v/\aI β S' w x v
 | [],vs,heap,eV,S,qp,h,hl,hr,hf=>by
  simp[Fm]at hf;obtain⟨rfl,rfl⟩:=hf;exact⟨S,fun _ _ hs=>hs,h,hl,by simp⟩
 | x::xs,[],_,_,_,_,_,hl,_,_=>by simp at hl
 | x::xs,v::vs,heap,eV,S,qp,h,hl,hr,hf=>by
  unfold Fm at hf;split at hf
  ·rename_i y h1 hy
   split at hf
   ·rename_i ys h2 hys
    cases hf;obtain⟨v',sV,hx⟩:=hr 0 x rfl;simp at sV;subst sV;obtain⟨S1,e1,e2,e3⟩:=Ke h hx hy;obtain⟨S2,f1,f2,f3,f4⟩:=AS xs vs h1 eV S1 ys e2 (by simpa using hl) (fun i z hz=>by
     obtain⟨u,q1,q2⟩:=hr (i+1) z (by simpa using hz);exact⟨u,by simpa using q1,q2.mono (fun _ _ hx=>hx) e1 fun _ _ _=>rfl⟩) hys
    refine⟨S2,fun c o hs=>f1 _ _ (e1 _ _ hs),f2,by simp[f3],fun i z hz=>?_⟩;cases i with
    | zero=>simp at hz;subst hz;exact⟨v,rfl,e3.mono (fun _ _ hx=>hx) f1 fun _ _ _=>rfl⟩
    | succ i=>simpa using f4 i z (by simpa using hz)
   ·cases hf
  ·cases hf
theorem ff.wW {f:FuncId} (hC:bC P C) {fn:Func} {c:Code} {s s':St} (jx:P.funcs[f]?=some fn) (fg:(fn.name == "runtime.NumGoroutine")=false) (dD:fn.body=some c)
  (di:dN P s.heap.length c ⟨s.tmps++List.replicate (fn.ntmps-s.tmps.length) .af,s.heap⟩ fun e s2=>(e=.normal∨e=.ret)/\∃Pn bL heap ρ,fn.results.toList.mapM (gH C s2)=some Pn/\Fm s2.heap Pn=some (bL,heap)/\(St.mk bL heap).Eg s.heap.length ρ s'/\s'.aO=true/\s.heap.length<=s'.heap.length):ff P f s s':=by
 refine⟨⟨fn,jx,by rw[dD];rfl,fg⟩,fun K β S a w hK hs=>?_⟩;refine calls_of_wp jx dD ?_;refine wp_mono (di K hK β S _ w ?_) fun e a' w' ⟨x,s2,hx,⟨Sr,Pn,bL,heap,ρ,eL,GI,hle,Sv,hlen⟩,β',S1,AK⟩=>?_
 ·refine⟨by simp[hs.len],rfl,fun t x ht=>?_,hs.top,hs.ao,hs.mK,hs.sT,hs.sin,hs.sub,hs.jM,hs.arg⟩
  simp only at ht;rw[List.getElem?_append]at ht;split at ht
  ·rename_i bJ
   have:=hs.tmps t x ht;rw[Array.getD_eq_getD_getElem?]at this ⊢;rw[Array.getElem?_append,if_pos (by rw[hs.len];exact bJ)];exact this
  ·rw[List.getElem?_replicate]at ht
   split at ht
   ·cases ht;exact .af _
   ·cases ht
 ·obtain⟨vs,r1,r2',r3'⟩:=jU (P:=P) hC AK eL
  obtain⟨S2,q1,Fo,r2,r3⟩:=AS (tm:=s2.tmps) Pn vs s2.heap heap S1 bL AK r2' r3' GI;have hs3:Sat K β' S2 ⟨bL,heap⟩ { a with tmps:=vs.toArray } w':=by
   refine⟨by simp[r2],hs.defers,fun t x ht=>?_,Fo.top,Fo.ao,Fo.mK,Fo.sT,Fo.sin,Fo.sub,Fo.jM,Fo.arg⟩;obtain⟨v,e1,e2⟩:=r3 t x ht;have:({ a with tmps:=vs.toArray }:Act).tmps.getD t undef=v:=by simp[e1]
   rw[this];exact e2
  have hs4:=hs3.aw hle Sv hK hlen;have eU:∃v,(results fn a'.tmps).run P w'=.ok v w'/\∃(us:List Value) (β':Nat->Option bZ) (S':Place),Ending.returned v=.returned (if us.length=1 then us.getD 0 undef else .tuple us.toArray)/\us.length=s'.tmps.length/\Sat K β' S' s' { a with tmps:=us.toArray } w':=
   ⟨_,r1,vs,_,S2,rfl,by rw[r2,hle.len],hs4⟩
  cases e with
  | normal=>exact⟨AK.defers,eU⟩
  | ret=>exact⟨AK.defers,eU⟩
  | exit id=>cases hx;rcases Sr with h|h<;>cases h
  | goto=>cases hx
  | panic=>cases hx
  | outgrown=>cases hx
theorem xl {n0:Nat} {s':St} {G:List AV->bU->Prop} (hG:∀bL hp ρ,(St.mk bL hp).Eg n0 ρ s'->G bL hp) {bL:List AV} {hp:bU} (m:List (Nat×Nat)) (h1:bd (ak m) bL s'.tmps) (h2:bf (ak m) hp 0 s'.heap) (h3:(aF (ak m) 0 s'.heap).Nodup) (h4:∀p∈m,n0<=p.1):G bL hp:=
 hG _ _ _ (Hr m h1 h2 h3 h4)
end
section
variable {P:Program} {C:eA}
theorem dE (hC:bC P C) (eY:P.follows .mixedOrders=true) {f:FuncId} {fn:Func} {c:Code} {args:List Arg} {res:ko} (om:List Mode) (jx:P.funcs[f]?=some fn) (fg:(fn.name == "runtime.NumGoroutine")=false) (dD:fn.body=some c) (hT:jk c=true)
  (h:∀(zD:IntKind->Int->Int) (zE zG zH zI zJ:Int->Int->Int) (zK zM zN zO zR zS:IntKind->Int->Int->Int) (zT zU zV zX:Int->Int->Bool) (zY:Bool->Bool) (zZ zg:Bool->Bool->Bool) (zh zj:Int->Int->Int) (zu:Int->Nat) (zy:Int->Nat->Bool) (zz:Nat->Int) (bg:Nat->Int->Nat) (ay:Nat->Nat->Bool) (aK:Nat->Nat->Nat) (bO:Int->Int->Nat) (bI:Int->Int->Nat->Bool) (aQ:Nat->Nat->Nat->Bool) (aT:Int->Int->Nat->Bool) (ab:Rows->Nat) (aB:Rows->Nat->Option (List Tree)) (bA:Rows->Nat->List Tree->Rows) (aL:IntKind->Rows->Nat->Bool) (ar:Rows->Nat->Int) (aR:IntKind->Rows->Nat->Int->Rows) (a9:Nat->Nat->Rows->Bool) (aD:Rows->Nat->Nat->Rows) (bV bB:Rows->Nat->Rows->Rows) (bR:Nat->List Tree->Rows) (aM:Nat->Rows->Bool) (db:List Bool->Bool) (dc bn:List (Value×Tree)->Value->Bool) (a8:List (Value×Tree)->Value->Tree->List (Value×Tree)) (bY:Rows->Option ByteArray) (aX:List (Value×Tree)->Value->Option (Option Tree)) (zW:IntKind->List Int->Rows) (kW:(α:Type)->(Unit->α)->α) A L (F:ko->Prop),Std P args.length (aE zD) (eE zE) (mT zG) (nM zH) zI zJ zK zM zN zO zR zS (fA zT) (IZ zU) (me zV) (sY zX) (rO zY) zZ zg zh zj (rL zu) (rM zy) zz (rN bg) ay aK bO bI aQ aT ab aB bA aL ar aR a9 aD bV bB bR aM db dc bn a8 bY aX zW kW A L->(∀r,fV r res->F r)->dO (ZI.mk (aE zD) (eE zE) (mT zG) (nM zH) zI zJ zK zM zN zO zR zS (fA zT) (IZ zU) (me zV) (sY zX) (rO zY) zZ zg zh zj (rL zu) (rM zy) zz (rN bg) ay aK bO bI aQ aT ab aB bA aL ar aR a9 aD bV bB bR aM db dc bn a8 bY aX) C A L c (ST.mb (kX (ZI.mk (aE zD) (eE zE) (mT zG) (nM zH) zI zJ zK zM zN zO zR zS (fA zT) (IZ zU) (me zV) (sY zX) (rO zY) zZ zg zh zj (rL zu) (rM zy) zz (rN bg) ay aK bO bI aQ aT ab aB bA aL ar aR a9 aD bV bB bR aM db dc bn a8 bY aX) args fn.ntmps)) fun e s=>match e with
   | .exit _=>False
   | .normal=>yH (ZI.mk (aE zD) (eE zE) (mT zG) (nM zH) zI zJ zK zM zN zO zR zS (fA zT) (IZ zU) (me zV) (sY zX) (rO zY) zZ zg zh zj (rL zu) (rM zy) zz (rN bg) ay aK bO bI aQ aT ab aB bA aL ar aR a9 aD bV bB bR aM db dc bn a8 bY aX) C s args fn.results.toList om F
   | .ret=>yH (ZI.mk (aE zD) (eE zE) (mT zG) (nM zH) zI zJ zK zM zN zO zR zS (fA zT) (IZ zU) (me zV) (sY zX) (rO zY) zZ zg zh zj (rL zu) (rM zy) zz (rN bg) ay aK bO bI aQ aT ab aB bA aL ar aR a9 aD bV bB bR aM db dc bn a8 bY aX) C s args fn.results.toList om F):eP P f args res:=by
 refine an hC eY om jx fg dD hT fun zD zE zG zH zI zJ zK zM zN zO zR zS zT zU zV zX zY zZ zg zh zj zu zy zz bg ay aK bO bI aQ aT ab aB bA aL ar aR a9 aD bV bB bR aM db dc bn a8 bY aX zW kW A L F hS hF=>?_
 obtain⟨zo,zm,za,zs,zw,zl,zk,ze,zn,zt,zi,zx,rfl,rfl,rfl,rfl,rfl,rfl,rfl,rfl,rfl,rfl,rfl,rfl⟩:=hS.lit;exact h _ _ _ _ _ _ _ _ _ _ _ _ _ _ _ _ _ _ _ _ _ _ _ _ _ _ _ _ _ _ _ _ _ _ _ _ _ _ _ _ _ _ _ _ _ _ _ _ _ _ _ _ _ _ hS hF
theorem tR (hC:bC P C) (eY:P.follows .mixedOrders=true) {f:FuncId} {fn:Func} {c:Code} {s s':St} (jx:P.funcs[f]?=some fn) (fg:(fn.name == "runtime.NumGoroutine")=false) (dD:fn.body=some c) (hT:jk c=true) (hr:s'.aO=true) (hl:s.heap.length<=s'.heap.length)
  (h:∀(zD:IntKind->Int->Int) (zE zG zH zI zJ:Int->Int->Int) (zK zM zN zO zR zS:IntKind->Int->Int->Int) (zT zU zV zX:Int->Int->Bool) (zY:Bool->Bool) (zZ zg:Bool->Bool->Bool) (zh zj:Int->Int->Int) (zu:Int->Nat) (zy:Int->Nat->Bool) (zz:Nat->Int) (bg:Nat->Int->Nat) (ay:Nat->Nat->Bool) (aK:Nat->Nat->Nat) (bO:Int->Int->Nat) (bI:Int->Int->Nat->Bool) (aQ:Nat->Nat->Nat->Bool) (aT:Int->Int->Nat->Bool) (ab:Rows->Nat) (aB:Rows->Nat->Option (List Tree)) (bA:Rows->Nat->List Tree->Rows) (aL:IntKind->Rows->Nat->Bool) (ar:Rows->Nat->Int) (aR:IntKind->Rows->Nat->Int->Rows) (a9:Nat->Nat->Rows->Bool) (aD:Rows->Nat->Nat->Rows) (bV bB:Rows->Nat->Rows->Rows) (bR:Nat->List Tree->Rows) (aM:Nat->Rows->Bool) (db:List Bool->Bool) (dc bn:List (Value×Tree)->Value->Bool) (a8:List (Value×Tree)->Value->Tree->List (Value×Tree)) (bY:Rows->Option ByteArray) (aX:List (Value×Tree)->Value->Option (Option Tree)) (zW:IntKind->List Int->Rows) (kW:(α:Type)->(Unit->α)->α) A L (G:List AV->bU->Prop),Std P s.heap.length (aE zD) (eE zE) (mT zG) (nM zH) zI zJ zK zM zN zO zR zS (fA zT) (IZ zU) (me zV) (sY zX) (rO zY) zZ zg zh zj (rL zu) (rM zy) zz (rN bg) ay aK bO bI aQ aT ab aB bA aL ar aR a9 aD bV bB bR aM db dc bn a8 bY aX zW kW A L->(∀bL hp ρ,(St.mk bL hp).Eg s.heap.length ρ s'->G bL hp)->dO (ZI.mk (aE zD) (eE zE) (mT zG) (nM zH) zI zJ zK zM zN zO zR zS (fA zT) (IZ zU) (me zV) (sY zX) (rO zY) zZ zg zh zj (rL zu) (rM zy) zz (rN bg) ay aK bO bI aQ aT ab aB bA aL ar aR a9 aD bV bB bR aM db dc bn a8 bY aX) C A L c (ST.mb ⟨s.tmps++List.replicate (fn.ntmps-s.tmps.length) .af,s.heap⟩) fun e st=>match e with
   | .exit _=>False
   | .normal=>Kd C st fn.results.toList G
   | .ret=>Kd C st fn.results.toList G):ff P f s s':=by
 refine tQ hC eY jx fg dD hT hr hl fun zD zE zG zH zI zJ zK zM zN zO zR zS zT zU zV zX zY zZ zg zh zj zu zy zz bg ay aK bO bI aQ aT ab aB bA aL ar aR a9 aD bV bB bR aM db dc bn a8 bY aX zW kW A L G hS hG=>?_
 obtain⟨zo,zm,za,zs,zw,zl,zk,ze,zn,zt,zi,zx,rfl,rfl,rfl,rfl,rfl,rfl,rfl,rfl,rfl,rfl,rfl,rfl⟩:=hS.lit;exact h _ _ _ _ _ _ _ _ _ _ _ _ _ _ _ _ _ _ _ _ _ _ _ _ _ _ _ _ _ _ _ _ _ _ _ _ _ _ _ _ _ _ _ _ _ _ _ _ _ _ _ _ _ _ hS hG
end
end Go.Abs
end
section
namespace Go.Proofs.YtekefilngojelaaGreat
open Go Go.Abs Go.Proofs
def m2 (a b:Int):List Tree:=[.v (.int .i64 a),.v (.int .i64 b),.v (.int .i64 0),.v (.int .i64 0),.v (.int .i64 0),.v (.int .i64 0),.v (.int .i64 0),.v (.int .i64 0)]
theorem Kf (a b:Int) (h0:0<=a/\a<=65535) (h1:0<=b/\b<=65535):aH 100 [.val (.agg (m2 a b))] ⟨[.val (ti .i64 (a+b))],[none]⟩:=by
 unfold m2;refine dE ai mixed [.val] Tryz.func100 rfl rfl (by kernel_rfl) fun zD zE _ _ _ _ _ _ _ _ _ _ _ _ _ _ _ _ _ _ _ _ _ _ _ _ _ _ _ _ _ _ _ _ _ _ _ _ _ _ _ _ _ _ _ _ _ _ _ _ _ A L F hS hF=>?_
 have e1:aE zD .i64 (eE zE 0 a)=a:=by rw[hS.add,hS.wrap,wrap_i64 (by omega) (by omega)];omega
 have e2:aE zD .i64 (eE zE a b)=a+b:=by rw[hS.add,hS.wrap,wrap_i64 (by omega) (by omega)]
 have e3:aE zD .i64 (eE zE (a+b) 0)=a+b:=by rw[hS.add,hS.wrap,wrap_i64 (by omega) (by omega)];omega
 cbv;refine bz ai mixed hS (9) ?_;cbv;repeat (first|apply bT rfl|apply bF rfl|apply nd rfl)
 refine bc hF (kx (a:=aE zD .i64 (eE zE (aE zD .i64 (eE zE (aE zD .i64 (eE zE (aE zD .i64 (eE zE (aE zD .i64 (eE zE (aE zD .i64 (eE zE (aE zD .i64 (eE zE (aE zD .i64 (eE zE 0 a)) b)) 0)) 0)) 0)) 0)) 0)) 0)) ?_);simp only[e1,e2,e3]
theorem AT (i r:Int) (h:(i=0/\r=1)∨(i=1/\r=2)):aH 169 [.val (ti .i64 i)] ⟨[.val (ti .u8 r)],[none]⟩:=by
 rcases h with⟨rfl,rfl⟩|⟨rfl,rfl⟩
 ·refine dE ai mixed [.val] Tryz.func169 rfl rfl (by kernel_rfl) ?_;intros;rename_i A L F hS hF
  cbv;refine bz ai mixed hS (1) ?_;cbv;repeat (first|apply bT rfl|apply bF rfl|apply nd rfl)
  exact aC hF
 ·refine dE ai mixed [.val] Tryz.func169 rfl rfl (by kernel_rfl) ?_;intros;rename_i A L F hS hF
  cbv;refine bz ai mixed hS (2) ?_;cbv;repeat (first|apply bT rfl|apply bF rfl|apply nd rfl)
  exact aC hF
def ve (a b:Int):Int:=(if 0<a then 1 else 0)+(if 0<b then 2 else 0)
theorem Kg (a b:Int):aH 160 [.val (.agg (m2 a b))] ⟨[.val (ti .u8 (ve a b))],[none]⟩:=by
 have c0:=AT 0 1 (.inl ⟨rfl,rfl⟩);have c1:=AT 1 2 (.inr ⟨rfl,rfl⟩);unfold m2 ve;refine dE ai mixed [.val] Tryz.func160 rfl rfl (by kernel_rfl) ?_;intros;rename_i A L F hS hF;cbv;refine bz ai mixed hS (9) ?_;cbv;repeat (first|apply bT rfl|apply bF rfl|apply nd rfl)
 by_cases h0:0<a
 ·refine bT ((hS.lt 0 a).trans (decide_eq_true h0)) ?_
  refine hS.cl c0 ?_;cbv;repeat (first|apply bT rfl|apply bF rfl|apply nd rfl)
  by_cases h1:0<b
  ·refine bT ((hS.lt 0 b).trans (decide_eq_true h1)) ?_
   refine hS.cl c1 ?_;cbv;repeat (first|apply bT rfl|apply bF rfl|apply nd rfl)
   refine bc hF (kx ?_);rw[if_pos h0,if_pos h1];rfl
  ·refine bF ((hS.lt 0 b).trans (decide_eq_false h1)) ?_
   repeat (first|apply bT rfl|apply bF rfl|apply nd rfl)
   refine bc hF (kx ?_);rw[if_pos h0,if_neg h1];rfl
 ·refine bF ((hS.lt 0 a).trans (decide_eq_false h0)) ?_
  repeat (first|apply bT rfl|apply bF rfl|apply nd rfl)
  by_cases h1:0<b
  ·refine bT ((hS.lt 0 b).trans (decide_eq_true h1)) ?_
   refine hS.cl c1 ?_;cbv;repeat (first|apply bT rfl|apply bF rfl|apply nd rfl)
   refine bc hF (kx ?_);rw[if_neg h0,if_pos h1];rfl
  ·refine bF ((hS.lt 0 b).trans (decide_eq_false h1)) ?_
   repeat (first|apply bT rfl|apply bF rfl|apply nd rfl)
   refine bc hF (kx ?_);rw[if_neg h0,if_neg h1];rfl
theorem AU (a b:Int) (h0:0<=a/\a<=65535) (h1:0<=b/\b<=65535):aH 141 [.val (.agg (m2 a b))] ⟨[.val (tb true)],[none]⟩:=by
 unfold m2;refine dE ai mixed [.val] Tryz.func141 rfl rfl (by kernel_rfl) ?_;intros;rename_i A L F hS hF;cbv;refine bz ai mixed hS (9) ?_;cbv;repeat (first|apply bT rfl|apply bF rfl|apply nd rfl)
 refine bF ((hS.lt a 0).trans (decide_eq_false (by omega))) (bF ((hS.lt 65535 a).trans (decide_eq_false (by omega))) ?_);repeat (first|apply bT rfl|apply bF rfl|apply nd rfl)
 refine bF ((hS.lt b 0).trans (decide_eq_false (by omega))) (bF ((hS.lt 65535 b).trans (decide_eq_false (by omega))) ?_);repeat (first|apply bT rfl|apply bF rfl|apply nd rfl)
 exact aC hF
def mU (a b c d:Int):Int:=if a<c then -1 else if c<a then 1 else if b<d then -1 else if d<b then 1 else 0
theorem tS (a b c d:Int):aH 60 [.val (.agg (m2 a b)),.val (.agg (m2 c d))] ⟨[.val (ti .i64 (mU a b c d))],[none,none]⟩:=by
 unfold m2 mU;refine dE ai mixed [.val] Tryz.func60 rfl rfl (by kernel_rfl) ?_;intros;rename_i A L F hS hF;cbv;refine bz ai mixed hS (9) ?_;cbv;repeat (first|apply bT rfl|apply bF rfl|apply nd rfl)
 by_cases h0:a<c
 ·refine bT ((hS.lt a c).trans (decide_eq_true h0)) (bc hF (kx ?_))
  rw[if_pos h0]
 refine bF ((hS.lt a c).trans (decide_eq_false h0)) ?_
 by_cases h1:c<a
 ·refine bT ((hS.lt c a).trans (decide_eq_true h1)) (bc hF (kx ?_))
  rw[if_neg h0,if_pos h1]
 refine bF ((hS.lt c a).trans (decide_eq_false h1)) ?_;repeat (first|apply bT rfl|apply bF rfl|apply nd rfl)
 by_cases h2:b<d
 ·refine bT ((hS.lt b d).trans (decide_eq_true h2)) (bc hF (kx ?_))
  rw[if_neg h0,if_neg h1,if_pos h2]
 refine bF ((hS.lt b d).trans (decide_eq_false h2)) ?_
 by_cases h3:d<b
 ·refine bT ((hS.lt d b).trans (decide_eq_true h3)) (bc hF (kx ?_))
  rw[if_neg h0,if_neg h1,if_neg h2,if_pos h3]
 refine bF ((hS.lt d b).trans (decide_eq_false h3)) ?_;repeat (first|apply bT rfl|apply bF rfl|apply nd rfl)
 refine bc hF (kx ?_);rw[if_neg h0,if_neg h1,if_neg h2,if_neg h3]
theorem Kh (a b c d:Int) (h0:0<=a/\a<=30000) (h1:0<=b/\b<=30000) (h2:0<=c/\c<=30000) (h3:0<=d/\d<=30000) :
  aH 110 [.val (.agg (m2 a b)),.val (.agg (m2 c d))] ⟨[.val (.agg (m2 (a+c) (b+d))),.val (ti .i64 0)],[none,none]⟩:=by
 have cv:=AU (a+c) (b+d) (by omega) (by omega);unfold m2 at cv ⊢;obtain⟨x,hx⟩:=aq (a+c);obtain⟨y,hy⟩:=aq (b+d);rw[<-hx,<-hy]at cv ⊢;refine dE ai mixed [.val,.val] Tryz.func110 rfl rfl (by kernel_rfl) fun zD zE _ _ _ _ _ _ _ _ _ _ _ _ _ _ _ _ _ _ _ _ _ _ _ _ _ _ _ _ _ _ _ _ _ _ _ _ _ _ _ _ _ _ _ _ _ _ _ _ _ A L F hS hF=>?_
 have e1:aE zD .i64 (eE zE a c)=x:=by rw[hS.add,hS.wrap,wrap_i64 (by omega) (by omega),hx]
 have e2:aE zD .i64 (eE zE b d)=y:=by rw[hS.add,hS.wrap,wrap_i64 (by omega) (by omega),hy]
 cbv at e1 e2;cbv;refine bz ai mixed hS (9) ?_;cbv;repeat (first|apply bT rfl|apply bF rfl|apply nd rfl)
 simp only[e1,e2];refine hS.cl cv ?_;cbv;repeat (first|apply bT rfl|apply bF rfl|apply nd rfl)
 exact aC hF
end Go.Proofs.YtekefilngojelaaGreat
end
section
namespace Go.Abs
structure SE {α:Type} (n0:Nat) (S:Nat->α->St) (R:Nat->α->Prop) (i:Nat) (s:St):Prop where
 ex:∃(ρ:Nat->Nat) (a:α),s.Eg n0 ρ (S i a)/\(S i a).aO=true/\n0<=(S i a).heap.length/\R i a
theorem aU {α:Type} {n0:Nat} {S:Nat->α->St} {R:Nat->α->Prop} {i:Nat} {s:St} (m:List (Nat×Nat)) (a:α) (h1:bd (ak m) s.tmps (S i a).tmps) (h2:bf (ak m) s.heap 0 (S i a).heap) (h3:(aF (ak m) 0 (S i a).heap).Nodup) (h4:∀p∈m,n0<=p.1)
  (h5:(S i a).aO=true) (h6:n0<=(S i a).heap.length) (hR:R i a):SE n0 S R i s:=⟨_,a,Hr m h1 h2 h3 h4,h5,h6,hR⟩
structure Hid (p:Prop):Prop where
 h:p
section
variable {P:Program} {C:eA} {n0:Nat} {zD:IntKind->Int->Int} {zE zG zH zI zJ:Int->Int->Int} {zK zM zN zO zR zS:IntKind->Int->Int->Int} {zT zU zV zX:Int->Int->Bool} {zY:Bool->Bool} {zZ zg:Bool->Bool->Bool} {zh zj:Int->Int->Int} {zu:Int->Nat} {zy:Int->Nat->Bool} {zz:Nat->Int} {bg:Nat->Int->Nat} {ay:Nat->Nat->Bool} {aK:Nat->Nat->Nat} {bO:Int->Int->Nat} {bI:Int->Int->Nat->Bool} {aQ:Nat->Nat->Nat->Bool} {aT:Int->Int->Nat->Bool} {ab:Rows->Nat} {aB:Rows->Nat->Option (List Tree)} {bA:Rows->Nat->List Tree->Rows} {aL:IntKind->Rows->Nat->Bool} {ar:Rows->Nat->Int} {aR:IntKind->Rows->Nat->Int->Rows} {a9:Nat->Nat->Rows->Bool} {aD:Rows->Nat->Nat->Rows} {bV bB:Rows->Nat->Rows->Rows} {bR:Nat->List Tree->Rows} {aM:Nat->Rows->Bool} {db:List Bool->Bool} {dc bn:List (Value×Tree)->Value->Bool} {a8:List (Value×Tree)->Value->Tree->List (Value×Tree)} {bY:Rows->Option ByteArray} {aX:List (Value×Tree)->Value->Option (Option Tree)} {zW:IntKind->List Int->Rows} {kW:(α:Type)->(Unit->α)->α} {A:FuncId->Ask->oV->Prop} {L:Code->St->(bq->ST->Prop)->Prop}
theorem mV {α:Type} (hC:bC P C) (eY:P.follows .mixedOrders=true) (hS:Std P n0 zD zE zG zH zI zJ zK zM zN zO zR zS zT zU zV zX zY zZ zg zh zj zu zy zz bg ay aK bO bI aQ aT ab aB bA aL ar aR a9 aD bV bB bR aM db dc bn a8 bY aX zW kW A L) {c:Code} {st:St} {Q:bq->ST->Prop} (S:Nat->α->St) (R:Nat->α->Prop) {n:Nat} {a0:α} (hl:st.Le (S 0 a0)) (hb:(S 0 a0).aO=true) (hk:n0<=(S 0 a0).heap.length) (h0:R 0 a0)
  (round:∀i a,i<n->R i a->dO (ZI.mk zD zE zG zH zI zJ zK zM zN zO zR zS zT zU zV zX zY zZ zg zh zj zu zy zz bg ay aK bO bI aQ aT ab aB bA aL ar aR a9 aD bV bB bR aM db dc bn a8 bY aX) C A L c (ST.mb (S i a)) fun e s=>match e with
   | .normal=>match s.fO with
    | ⟨t,h⟩=>SE n0 S R (i+1) (St.mk t h)
   | .exit id=>Q (.exit id) s
   | .ret=>Q .ret s)
  (last:∀a,R n a->dO (ZI.mk zD zE zG zH zI zJ zK zM zN zO zR zS zT zU zV zX zY zZ zg zh zj zu zy zz bg ay aK bO bI aQ aT ab aB bA aL ar aR a9 aD bV bB bR aM db dc bn a8 bY aX) C A L c (ST.mb (S n a)) fun e s=>match e with
   | .normal=>False
   | .exit id=>Q (.exit id) s
   | .ret=>Q .ret s):L c st Q:=by
 rw[hS.z,hS.a,hS.l]at round last;rw[hS.l];refine fun hT=>rK.MK hC eY (fun m s=>∃i a,m+i=n/\R i a/\s=S i a) hl hb hk ⟨0,a0,rfl,h0,rfl⟩ fun m s hI=>?_
 obtain⟨i,a,hm,hR,rfl⟩:=hI;cases m with
 | zero=>
  obtain rfl:i=n:=by omega
  have:=gA c _ (ST.mc _) hT (last a hR);rw[ST.iw]at this;refine Q1 c _ this fun e s1 h1=>?_
  obtain⟨s',ho,rfl,h2⟩:=h1;cases e with
  | normal=>exact h2.elim
  | exit id=>exact⟨s',ho,rfl,h2⟩
  | ret=>exact⟨s',ho,rfl,h2⟩
 | succ m=>
  have:=gA c _ (ST.mc _) hT (round i a (by omega) hR);rw[ST.iw]at this;refine Q1 c _ this fun e s1 h1=>?_
  obtain⟨s',ho,rfl,h2⟩:=h1;cases e with
  | normal=>
   obtain⟨ρ,a',h3,h4,h5,h6⟩:=h2.ex;exact⟨ρ,_,h3,h4,h5,m,Nat.lt_succ_self m,i+1,a',by omega,h6,rfl⟩
  | exit id=>exact⟨s',ho,rfl,h2⟩
  | ret=>exact⟨s',ho,rfl,h2⟩
theorem fX {α:Type} (hC:bC P C) (eY:P.follows .mixedOrders=true) (hS:Std P n0 zD zE zG zH zI zJ zK zM zN zO zR zS zT zU zV zX zY zZ zg zh zj zu zy zz bg ay aK bO bI aQ aT ab aB bA aL ar aR a9 aD bV bB bR aM db dc bn a8 bY aX zW kW A L) {c:Code} {st:St} {Q:bq->ST->Prop} (S:Nat->α->St) (R:Nat->α->Prop) {n:Nat} {a0:α} (hl:st.Le (S 0 a0)) (hb:(S 0 a0).aO=true) (hk:n0<=(S 0 a0).heap.length) (h0:R 0 a0)
  (round:∀i a,i<n->R i a->Hid (dO (ZI.mk zD zE zG zH zI zJ zK zM zN zO zR zS zT zU zV zX zY zZ zg zh zj zu zy zz bg ay aK bO bI aQ aT ab aB bA aL ar aR a9 aD bV bB bR aM db dc bn a8 bY aX) C A L c (ST.mb (S i a)) fun e s=>match e with
   | .normal=>match s.fO with
    | ⟨t,h⟩=>SE n0 S R (i+1) (St.mk t h)
   | .exit id=>Q (.exit id) s
   | .ret=>Q .ret s))
  (last:∀a,R n a->Hid (dO (ZI.mk zD zE zG zH zI zJ zK zM zN zO zR zS zT zU zV zX zY zZ zg zh zj zu zy zz bg ay aK bO bI aQ aT ab aB bA aL ar aR a9 aD bV bB bR aM db dc bn a8 bY aX) C A L c (ST.mb (S n a)) fun e s=>match e with
   | .normal=>False
   | .exit id=>Q (.exit id) s
   | .ret=>Q .ret s)):L c st Q:=mV hC eY hS S R hl hb hk h0 (fun i a h1 h2=>(round i a h1 h2).h) (fun a h=>(last a h).h)
theorem Std.ic (hS:Std P n0 zD zE zG zH zI zJ zK zM zN zO zR zS zT zU zV zX zY zZ zg zh zj zu zy zz bg ay aK bO bI aQ aT ab aB bA aL ar aR a9 aD bV bB bR aM db dc bn a8 bY aX zW kW A L) {i n:Nat} {X:Rows} (hX:X.length=n) (hi:i<n) (hn:n<4611686018427387904):zV (Int.ofNat i) (zz (ab X))=true/\zD .i64 (zE (i:Int) 1)=(i:Int)+1/\zu (Int.ofNat i)=i/\zX 0 (Int.ofNat i)=true:=by
 refine⟨?_,?_,?_,?_⟩
 ·rw[hS.lt,hS.az,hS.len,hX];exact decide_eq_true (show(i:Int)<(n:Int) by omega)
 ·rw[hS.add,hS.wrap];exact wrap_i64 (by omega) (by omega)
 ·rw[hS.nat];rfl
 ·rw[hS.le];exact decide_eq_true (show(0:Int)<=(i:Int) by omega)
theorem Std.fh (hS:Std P n0 zD zE zG zH zI zJ zK zM zN zO zR zS zT zU zV zX zY zZ zg zh zj zu zy zz bg ay aK bO bI aQ aT ab aB bA aL ar aR a9 aD bV bB bR aM db dc bn a8 bY aX zW kW A L) {n:Nat} {X:Rows} (hX:X.length=n):zV (Int.ofNat n) (zz (ab X))=false:=by
 rw[hS.lt,hS.az,hS.len,hX];exact decide_eq_false (show ¬(n:Int)<(n:Int) by omega)
theorem Std.vg (hS:Std P n0 zD zE zG zH zI zJ zK zM zN zO zR zS zT zU zV zX zY zZ zg zh zj zu zy zz bg ay aK bO bI aQ aT ab aB bA aL ar aR a9 aD bV bB bR aM db dc bn a8 bY aX zW kW A L) {row:List Tree} {w:Nat} (hw:row.length=w) {r:Rows} {len b:Nat} (hl:len=r.length) (hb:(len+1)*b<=au) :
  aD [row] 0 1=[row]/\a9 0 1 [row]=true/\zY (ay (ab [row]) 0)=true/\aM w [row]=true/\aQ len (ab [row]) b=true/\ay (aK 0 len) (ab r)=true/\aK len (ab [row])=len+1/\bV r 0 [row]=r ++ [row]:=by
 refine⟨?_,?_,?_,?_,?_,?_,?_,?_⟩
 ·rw[hS.part];rfl
 ·rw[hS.fit];rfl
 ·rw[hS.len,hS.neq,hS.not];rfl
 ·rw[hS.wide];simp[hw]
 ·rw[hS.len,hS.room];exact decide_eq_true (by simpa using hb)
 ·rw[hS.fN,hS.neq,hS.len,hl,Nat.zero_add];exact decide_eq_true rfl
 ·rw[hS.len,hS.fN];rfl
 ·rw[hS.ext,List.drop_zero]
theorem Std.Po (hS:Std P n0 zD zE zG zH zI zJ zK zM zN zO zR zS zT zU zV zX zY zZ zg zh zj zu zy zz bg ay aK bO bI aQ aT ab aB bA aL ar aR a9 aD bV bB bR aM db dc bn a8 bY aX zW kW A L) {new:Rows} {m w:Nat} (hm:new.length=m) (h0:0<m) (hw:(new.all fun r=>r.length==w)=true) {r:Rows} {len b:Nat} (hl:len=r.length) (hb:(len+m)*b<=au) :
  aD new 0 m=new/\a9 0 m new=true/\zY (ay (ab new) 0)=true/\aM w new=true/\aQ len (ab new) b=true/\ay (aK 0 len) (ab r)=true/\aK len (ab new)=len+m/\bV r 0 new=r++new:=by
 refine⟨?_,?_,?_,?_,?_,?_,?_,?_⟩
 ·rw[hS.part,List.drop_zero,List.take_of_length_le (by omega)]
 ·rw[hS.fit];exact decide_eq_true (by omega)
 ·rw[hS.len,hS.neq,hS.not,decide_eq_false (by omega)];rfl
 ·rw[hS.wide];exact hw
 ·rw[hS.len,hS.room,hm];exact decide_eq_true hb
 ·rw[hS.fN,hS.neq,hS.len,hl,Nat.zero_add];exact decide_eq_true rfl
 ·rw[hS.len,hS.fN,hm]
 ·rw[hS.ext,List.drop_zero]
theorem Std.whole (hS:Std P n0 zD zE zG zH zI zJ zK zM zN zO zR zS zT zU zV zX zY zZ zg zh zj zu zy zz bg ay aK bO bI aQ aT ab aB bA aL ar aR a9 aD bV bB bR aM db dc bn a8 bY aX zW kW A L) {r:Rows} {len:Nat} (hl:len=r.length):a9 0 len r=true/\aD r 0 len=r:=⟨by rw[hS.fit,hl];exact decide_eq_true (by omega),by rw[hS.part,List.drop_zero,List.take_of_length_le (by omega)]⟩
end
end Go.Abs
end
section
namespace Go.Abs.M
def val:List Int->Int
 | []=>0
 | x::l=>x+4294967296*val l
def Wd (l:List Int):Prop:=∀x∈l,0<=x/\x<4294967296
def On:Nat->Nat->List Int
 | 0,_=>[]
 | f+1,n=>if n=0 then [] else((n%4294967296:Nat):Int)::On f (n/4294967296)
def dg (n:Nat):List Int:=On n n
theorem HB:∀(f g n:Nat),n<=f->n<=g->On f n=On g n
 | 0,g,n,h,_=>by
  have:n=0:=by omega
  subst this;cases g<;>simp[On]
 | f+1,0,n,_,h=>by
  have:n=0:=by omega
  subst this;simp[On]
 | f+1,g+1,n,h1,h2=>by
  simp only[On];split
  ·rfl
  ·rw[HB f g (n/4294967296) (by omega) (by omega)]
theorem rP:dg 0=[]:=rfl
theorem qy {n:Nat} (h:n≠0):dg n=((n%4294967296:Nat):Int)::dg (n/4294967296):=by
 unfold dg;obtain⟨m,rfl⟩:∃m,n=m+1:=⟨n-1,by omega⟩;simp only[On];rw[if_neg h,HB m ((m+1)/4294967296) _ (by omega) (Nat.le_refl _)]
theorem jH (n:Nat):val (dg n)=n:=by
 induction n using Nat.strongRecOn with
 | _ n ih=>
  by_cases h:n=0
  ·subst h;rfl
  ·rw[qy h,val,ih (n/4294967296) (by omega)]
   omega
theorem jz (n:Nat):Wd (dg n):=by
 induction n using Nat.strongRecOn with
 | _ n ih=>
  by_cases h:n=0
  ·subst h;intro x hx;cases hx
  ·rw[qy h]
   intro x hx;rcases List.mem_cons.1 hx with rfl|hx
   ·omega
   ·exact ih (n/4294967296) (by omega) x hx
theorem iA {n:Nat}:dg n=[]↔n=0:=by
 by_cases h:n=0
 ·simp[h,rP]
 ·simp[h,qy h]
theorem gB:∀(a b:List Int),val (a++b)=val a+4294967296^a.length*val b
 | [],b=>by simp[val]
 | x::a,b=>by
  simp only[List.cons_append,val,gB a b,List.length_cons,Int.pow_succ];grind
theorem Wd.tail {x:Int} {l:List Int} (h:Wd (x::l)):Wd l:=fun y hy=>h y (List.mem_cons_of_mem _ hy)
theorem Wd.head {x:Int} {l:List Int} (h:Wd (x::l)):0<=x/\x<4294967296:=h x (List.mem_cons_self ..)
theorem Wd.cons {x:Int} {l:List Int} (h0:0<=x) (h1:x<4294967296) (h:Wd l):Wd (x::l):=by
 intro y hy;rcases List.mem_cons.1 hy with rfl|hy
 ·exact⟨h0,h1⟩
 ·exact h y hy
theorem Wd.append {a b:List Int} (ha:Wd a) (hb:Wd b):Wd (a++b):=by
 intro x hx;rcases List.mem_append.1 hx with h|h
 ·exact ha x h
 ·exact hb x h
theorem Wd.take {l:List Int} (h:Wd l) (n:Nat):Wd (l.take n):=fun x hx=>h x (List.mem_of_mem_take hx)
theorem Wd.drop {l:List Int} (h:Wd l) (n:Nat):Wd (l.drop n):=fun x hx=>h x (List.mem_of_mem_drop hx)
theorem Wd.rep (n:Nat):Wd (List.replicate n 0):=fun x hx=>by
 rw[List.eq_of_mem_replicate hx];omega
theorem Wd.get {l:List Int} (h:Wd l) (i:Nat):0<=l.getD i 0/\l.getD i 0<4294967296:=by
 rw[List.getD_eq_getElem?_getD];rcases Nat.lt_or_ge i l.length with h1|h1
 ·rw[List.getElem?_eq_getElem h1];exact h _ (List.getElem_mem h1)
 ·rw[List.getElem?_eq_none h1];simp
theorem Wd.set {l:List Int} (h:Wd l) (i:Nat) {x:Int} (h0:0<=x) (h1:x<4294967296):Wd (l.set i x):=by
 intro y hy;rcases List.mem_or_eq_of_mem_set hy with h'|rfl
 ·exact h y h'
 ·exact⟨h0,h1⟩
theorem Wd.nil:Wd []:=fun x hx=>by cases hx
theorem sZ:∀ {l:List Int},Wd l->0<=val l
 | [],_=>Int.le_refl 0
 | x::l,h=>by
  have:=sZ h.tail;have:=h.head;simp only[val];omega
theorem yj (n:Nat):(0:Int)<4294967296^n:=Int.pow_pos (by omega)
theorem Di:∀ {l:List Int},Wd l->val l<4294967296^l.length
 | [],_=>by simp[val]
 | x::l,h=>by
  have:=Di h.tail;have:=h.head;simp only[val,List.length_cons,Int.pow_succ];omega
theorem Dj (n:Nat):val (List.replicate n 0)=0:=by
 induction n with
 | zero=>rfl
 | succ n ih=>simp only[List.replicate_succ,val,ih];rfl
theorem Pp (l:List Int) (k:Nat) (h:k<=l.length):val l=val (l.take k)+4294967296^k*val (l.drop k):=by
 have:=gB (l.take k) (l.drop k);rw[List.take_append_drop,List.length_take,Nat.min_eq_left h]at this;exact this
theorem Dk:∀(l:List Int) (i:Nat) (x:Int),i<l.length->val (l.set i x)=val l+(x-l.getD i 0)*4294967296^i
 | [],i,x,h=>by simp at h
 | y::l,0,x,_=>by simp[val,List.set];omega
 | y::l,i+1,x,h=>by
  have:=Dk l i x (by simpa using h);simp only[List.set_cons_succ,val,List.getD_cons_succ,Int.pow_succ,this];grind
theorem nN {l:List Int} {k:Nat} (h:k<l.length):l.take (k+1)=l.take k ++ [l.getD k 0]:=by
 rw[List.take_succ_eq_append_getElem h,List.getD_eq_getElem?_getD,List.getElem?_eq_getElem h];rfl
theorem ky {l:List Int} {k:Nat} (h:k<l.length):val (l.take (k+1))=val (l.take k)+4294967296^k*l.getD k 0:=by
 rw[nN h,gB,List.length_take,Nat.min_eq_left (Nat.le_of_lt h)];simp[val]
theorem kZ {l:List Int} {k:Nat} (h:k<l.length):l.drop k=l.getD k 0::l.drop (k+1):=by
 rw[List.drop_eq_getElem_cons h,List.getD_eq_getElem?_getD,List.getElem?_eq_getElem h];rfl
theorem Ki {l:List Int} {k:Nat} (h:k<l.length):val (l.drop k)=l.getD k 0+4294967296*val (l.drop (k+1)):=by
 rw[kZ h];rfl
def Tr (l:List Int):Prop:=l=[]∨l.getD (l.length-1) 0≠0
theorem Tr.tail {x:Int} {l:List Int} (h:Tr (x::l)):Tr l:=by
 rcases h with h|h
 ·cases h
 ·cases l with
  | nil=>exact .inl rfl
  | cons y l=>right;simpa using h
theorem oG:∀ {l:List Int},Wd l->Tr l->dg (val l).toNat=l
 | [],_,_=>rfl
 | x::l,hw,ht=>by
  have hv:=sZ hw.tail;have hx:=hw.head;have ih:=oG hw.tail ht.tail;have dh:(val (x::l)).toNat≠0:=by
   simp only[val];cases l with
   | nil=>
    rcases ht with h|h
    ·cases h
    ·simp at h;simp only[val];omega
   | cons y l=>
    intro h0;have h1:val (y::l)=0:=by omega
    rw[h1]at ih;cases ih
  rw[qy dh];have e1:(val (x::l)).toNat%4294967296=x.toNat:=by simp only[val];omega
  have e2:(val (x::l)).toNat/4294967296=(val l).toNat:=by simp only[val];omega
  rw[e1,e2,ih];congr 1;omega
theorem jl (n:Nat):Tr (dg n):=by
 induction n using Nat.strongRecOn with
 | _ n ih=>
  by_cases h:n=0
  ·subst h;exact .inl rfl
  ·rw[qy h]
   have:=ih (n/4294967296) (by omega)
   by_cases h2:n/4294967296=0
   ·right;rw[h2,rP];simp;omega
   ·right
    rcases this with h3|h3
    ·exact absurd (iA.1 h3) h2
    ·have hl:dg (n/4294967296)≠[]:=fun hh=>h2 (iA.1 hh)
     cases hd:dg (n/4294967296) with
     | nil=>exact absurd hd hl
     | cons y l=>rw[hd]at h3;simpa using h3
theorem jX {a b:Nat} (h:a<=b):(4294967296:Int)^a<=4294967296^b:=by
 obtain⟨k,rfl⟩:∃k,b=a+k:=⟨b-a,by omega⟩;rw[Int.pow_add];have h1:=yj a;have h2:=yj k;have:4294967296^a*1<=4294967296^a*(4294967296:Int)^k:=Int.mul_le_mul_of_nonneg_left (by omega) (by omega);omega
def nl (n:Nat):Nat:=(dg n).length
theorem nO (n:Nat):(n:Int)<4294967296^nl n:=by
 have:=Di (jz n);rwa[jH]at this
theorem tU {n k:Nat} (h:(n:Int)<4294967296^k):nl n<=k:=by
 induction k generalizing n with
 | zero=>
  have:n=0:=by rw[Int.pow_zero]at h;omega
  subst this;exact Nat.le_refl _
 | succ k ih=>
  by_cases h0:n=0
  ·subst h0;exact Nat.zero_le _
  ·unfold nl
   rw[qy h0,List.length_cons];have:nl (n/4294967296)<=k:=ih (by
    rw[Int.pow_succ]at h;omega)
   unfold nl at this;omega
theorem Fp {a b:Nat} (h:a<=b):nl a<=nl b:=tU (by have:=nO b;omega)
theorem V0 {l:List Int} (h:Wd l):nl (val l).toNat<=l.length:=tU (by have:=Di h;have:=sZ h;omega)
theorem V1 {n:Nat} (h:n≠0):4294967296^(nl n-1)<=(n:Int):=by
 rcases Int.lt_or_le (n:Int) (4294967296^(nl n-1)) with h1|h1
 ·have h2:=tU h1
  have:nl n≠0:=fun hh=>h (iA.1 (List.length_eq_zero_iff.1 hh))
  omega
 ·exact h1
theorem jY {n:Nat}:nl n=0↔n=0:=by unfold nl;rw[List.length_eq_zero_iff,iA]
theorem xm (a b:Nat):nl (a+b)<=max (nl a) (nl b)+1:=by
 refine tU ?_;have h1:=nO a;have h2:=nO b;have h3:(4294967296:Int)^nl a<=4294967296^max (nl a) (nl b):=jX (Nat.le_max_left ..);have h4:(4294967296:Int)^nl b<=4294967296^max (nl a) (nl b):=jX (Nat.le_max_right ..);rw[Int.pow_succ];omega
theorem vL (a b:Nat):nl (a*b)<=nl a+nl b:=by
 refine tU ?_;have h1:=nO a;have h2:=nO b;rw[Int.pow_add];have h3:(a:Int)*b<=4294967296^nl a*b:=Int.mul_le_mul_of_nonneg_right (by omega) (by omega);have h4:4294967296^nl a*(b:Int)<4294967296^nl a*4294967296^nl b:=Int.mul_lt_mul_of_pos_left h2 (yj _)
 push_cast
 omega
end Go.Abs.M
end
section
namespace Go.Proofs.YtekefilngojelaaGreat
open Go Go.Abs Go.Abs.M Go.Proofs
def mf (r:Abs.Rows) (n:Int):St:=ae 21 [vl r,.af,fH,vi .i64 n] [none]
theorem I0 {l:List Int} {n:Nat} (hw:Wd l) (hn:n<=l.length) (hv:val (l.take n)=val l) (h0:n=0∨l.getD (n-1) 0≠0):l.take n=dg (val l).toNat:=by
 rw[<-hv];refine(oG (hw.take n) ?_).symm;rcases h0 with rfl|h0
 ·exact .inl (by simp)
 ·by_cases hz:n=0
  ·subst hz;exact .inl (by simp)
  ·right
   rw[List.length_take,Nat.min_eq_left hn];simp only[List.getD_eq_getElem?_getD,List.getElem?_take]at h0 ⊢;rw[if_pos (by omega)];exact h0
theorem Q5 {r:Abs.Rows} {l:List Int} (hr:r=W .u32 l) (hl:l.length<=2199023255552) (hw:Wd l):aH 142 [.val (.c (.aa false r))] ⟨[.val (.c (.aa false (W .u32 (dg (val l).toNat))))],[none]⟩:=by
 refine an ai mixed [.val] Tryz.func142 rfl rfl (by kernel_rfl) fun zD _ zG _ _ _ _ _ _ _ _ _ _ _ _ _ _ _ _ _ _ zu _ zz _ _ _ _ bI _ _ ab _ _ _ ar _ _ aD _ _ _ aM _ _ _ _ _ _ _ _ A L F hS hF=>?_
 have hlen:ab r=l.length:=by rw[hS.len,hr,jr]
 cbv;refine fW ai mixed hS (fun m s=>∃n:Nat,n=m/\n<=l.length/\val (l.take n)=val l/\s=mf r (zz n)) (n:=l.length) (s0:=mf r (zz l.length)) (fy ?_ ?_) rfl (Nat.le_refl 1) ?_ ?_
 ·simp[dS,mf,ae,fH,vi,vl,hlen]
 ·simp[dU,mf,ae]
 ·exact⟨_,rfl,Nat.le_refl _,by rw[List.take_length],rfl⟩
 ·rintro m _ ⟨n,rfl,hn,hv,rfl⟩
  have hp:0<n->zD .i64 (zG (zz n) 1)=zz (n-1):=fun h=>by rw[hS.wrap,hS.sub,hS.az,hS.az,wrap_i64 (by omega) (by omega)];omega
  have hg:0<n->ar r (zu (zz (n-1)))=l.getD (n-1) 0:=fun h=>by rw[hS.dK,hS.nat,hS.az,hr,m8,Int.toNat_natCast]
  have hc:bI 0 (zz n) (ab r)=true:=by rw[hS.cut,hlen,hS.az];exact decide_eq_true (by omega)
  have SF:aM 1 r=true:=by rw[hS.wide,hr];exact HA _ _
  have V2:n=0∨l.getD (n-1) 0≠0->F ⟨[.val (.c (.aa false (aD r 0 (zu (zz n)))))],[none]⟩:=fun h=>bc hF (by
   rw[hS.part,hS.nat,hS.az,hr,kv,Int.toNat_natCast,List.drop_zero,I0 hw hn hv h])
  cbv;refine⟨fun h=>?_,fun h=>nd hc (nd SF (V2 ?_))⟩
  all_goals rw[hS.lt,hS.az]at h
  ·have h:0<n:=by simpa using h
   rw[hp h,hg h];refine nd (by rw[hS.le,hS.az];exact decide_eq_true (by omega)) (nd (by rw[hS.gM,hS.nat,hS.az,hr,kY];exact decide_eq_true (by omega)) ⟨fun h2=>?_,fun h2=>nd hc (nd SF (V2 (.inr ?_)))⟩)
   all_goals rw[hS.eq]at h2
   ·refine again (s':=mf r (zz (n-1))) (m:=n-1) (by simp[dS,mf,ae,fH,vi,vl]) (by simp[dU,mf,ae]) rfl (Nat.le_refl 1) (by omega) ⟨_,rfl,by omega,?_,rfl⟩
    have:=ky (l:=l) (k:=n-1) (by omega);rw[show n-1+1=n by omega,of_decide_eq_true h2]at this;omega
   ·exact of_decide_eq_false h2
  ·exact .inl (by simpa using h)
end Go.Proofs.YtekefilngojelaaGreat
end
section
namespace Go.Abs.M
def bH (a b:Int):Int:=if a<b then -1 else if b<a then 1 else 0
theorem SG {l:List Int} (hw:Wd l) (ht:Tr l) (hl:0<l.length):4294967296^(l.length-1)<=val l:=by
 have h1:=oG hw ht;have hv:=sZ hw;have dh:(val l).toNat≠0:=fun h0=>by
  rw[h0,rP]at h1;rw[<-h1]at hl;simp at hl
 have:=V1 dh;unfold nl at this;rw[h1]at this;omega
theorem iM {l m:List Int} (hl:Wd l) (hm:Wd m) (ht:Tr m) (h:l.length<m.length):val l<val m:=by
 have h1:=Di hl;have h2:=SG hm ht (by omega);have h3:=jX (show l.length<=m.length-1 by omega);omega
theorem gW {l m:List Int} {i:Nat} (hl:Wd l) (hm:Wd m) (hlen:l.length=m.length) (hi:i<l.length) (he:l.drop (i+1)=m.drop (i+1)) (h:l.getD i 0<m.getD i 0):val l<val m:=by
 rw[Pp l i (by omega),Pp m i (by omega),Ki hi,Ki (l:=m) (by omega),he];have a1:=Di (hl.take i);have a2:=sZ (hm.take i);rw[List.length_take,Nat.min_eq_left (by omega)]at a1;have hp:=yj i;have:4294967296^i*(l.getD i 0+1)<=4294967296^i*m.getD i 0:=Int.mul_le_mul_of_nonneg_left (by omega) (by omega);generalize val (m.drop (i+1))=y,val (l.take i)=x,val (m.take i)=z,l.getD i 0=a,m.getD i 0=b at *
 generalize (4294967296:Int)^i=p at *;have e1:p*(a+4294967296*y)=p*a+p*(4294967296*y):=Int.mul_add ..;have e2:p*(b+4294967296*y)=p*b+p*(4294967296*y):=Int.mul_add ..;have e3:p*(a+1)=p*a+p:=by rw[Int.mul_add,Int.mul_one]
 omega
theorem gg {a b:Int} (h:a<b):bH a b=-1:=if_pos h
theorem iN {a b:Int} (h:b<a):bH a b=1:=by unfold bH;rw[if_neg (by omega),if_pos h]
theorem I1 (a:Int):bH a a=0:=by unfold bH;rw[if_neg (by omega),if_neg (by omega)]
end Go.Abs.M
end
section
namespace Go.Proofs.YtekefilngojelaaGreat
open Go Go.Abs Go.Abs.M Go.Proofs
theorem gC {r:Abs.Rows} {l:List Int} (i:Int) (hr:r=W .u32 l) (hl:l.length<=2199023255552) (hw:Wd l) (hi:0<=i):aH 157 [.val (tl r),.val (ti .i64 i)] ⟨[.val (ti .u64 (l.getD i.toNat 0))],[none,none]⟩:=by
 refine an ai mixed [.val] Tryz.func157 rfl rfl (by kernel_rfl) ?_;intros;rename_i A L F hS hF;have hg:=hw.get i.toNat;cbv;simp only[hS.wrap,hS.add,hS.sub,hS.mul,hS.quo,hS.rem,hS.shl,hS.shr,hS.kQ,hS.fu,hS.MD,hS.E8,hS.eq,hS.ne,hS.lt,hS.le,hS.not,hS.beq,hS.bne,hS.max,hS.min,hS.nat,hS.yC,hS.az,hS.idx,hS.neq,hS.fN,hS.J7,hS.cut,hS.room,hS.nG,hS.len,hS.nth,hS.E9,hS.gM,hS.dK,hS.oW,hS.fit,hS.part,hS.ext,hS.yD,hS.rep,hS.wide,hS.all,hr,jr,kY,m8]
 refine⟨fun h=>nd (decide_eq_true hi) (nd ?_ (bc hF (kx (eS hg.1 (by omega))))),fun h=>bc hF (kx ?_)⟩
 ·have:=of_decide_eq_true h;exact decide_eq_true (by omega)
 ·have:=of_decide_eq_false h
  rw[List.getD_eq_getElem?_getD,List.getElem?_eq_none (by omega)];rfl
theorem jZ (n:Int) (hn:0<=n) (Ka:n<2^64):aH 113 [.val (ti .u64 n)] ⟨[.val (tl (W .u32 (dg n.toNat)))],[none]⟩:=by
 refine an ai mixed [.val] Tryz.func113 rfl rfl (by kernel_rfl) fun zD _ _ _ zI zJ _ _ _ _ _ _ _ _ _ _ _ _ _ _ _ _ _ _ _ _ _ _ _ _ _ _ _ _ _ _ _ _ _ _ _ _ _ _ _ _ _ _ _ _ _ A L F hS hF=>?_
 have e1:zD .u32 (zJ n 4294967296)=n%4294967296:=by rw[hS.wrap,hS.rem,Int.tmod_eq_emod_of_nonneg hn];exact LB (by omega) (by omega)
 have e2:zD .u32 (zD .u64 (zI n 4294967296))=n/4294967296:=by rw[hS.wrap,hS.wrap,hS.quo,Int.tdiv_eq_ediv_of_nonneg hn,eS (by omega) (by omega)];exact LB (by omega) (by omega)
 have hT:=Q5 (r:=W .u32 [n%4294967296,n/4294967296]) rfl (by simp) (Wd.cons (by omega) (by omega) (Wd.cons (by omega) (by omega) Wd.nil));cbv;rw[e1,e2];apply nd (by rw[hS.fit];rfl);rw[hS.part];refine hS.cl hT ?_;rw[show val [n%4294967296,n/4294967296]=n by simp only[val];omega];generalize W .u32 (dg n.toNat)=x at *;cbv;exact aC hF
theorem HC {r:Abs.Rows} {l:List Int} (s t:Bool) (hr:r=W .u32 l) (hl:l.length<=2199023255552) (hw:Wd l) (ht:t=(s&&decide (0<val l))):aH 112 [.val (tb s),.val (tl r)] ⟨[.val (.agg (iT t (W .u32 (dg (val l).toNat))))],[none,none]⟩:=by
 refine an ai mixed [.val] Tryz.func112 rfl rfl (by kernel_rfl) ?_;intros;rename_i zV _ _ _ _ _ _ _ _ zz _ _ _ _ _ _ _ ab _ _ _ _ _ _ _ _ _ _ _ _ _ _ _ _ _ _ _ A L F hS hF;have hT:=Q5 hr hl hw;have hz:zV 0 (zz (ab (W .u32 (dg (val l).toNat))))=decide (0<val l):=by
  rw[hS.lt,hS.az,hS.len,jr];have:=sZ hw;have h2:=@jY (val l).toNat;unfold nl at h2
  by_cases h:0<val l
  ·rw[decide_eq_true h];exact decide_eq_true (by omega)
  ·rw[decide_eq_false h];exact decide_eq_false (by omega)
 generalize W .u32 (dg (val l).toNat)=x,decide (0<val l)=y at *;cbv;refine hS.cl hT ?_;cbv;rw[hz];refine⟨fun h=>bc hF ?_,fun h=>bc hF ?_⟩
 ·rw[ht,h];rfl
 ·rw[ht,h];rfl
def qz (r s:Abs.Rows) (i:Int):St:=ae 41 [vl r,vl s,.af,.af,vi .i64 0,vi .i64 i] [none,none]
theorem V3 {r s:Abs.Rows} {l m:List Int} (c:Int) (hr:r=W .u32 l) (hs:s=W .u32 m) (hl:l.length<=2199023255552) (hm:m.length<=2199023255552) (vh:Wd l) (vM:Wd m) (bJ:Tr l) (hmt:Tr m) (hc:c=bH (val l) (val m)) :
  aH 136 [.val (tl r),.val (tl s)] ⟨[.val (ti .i64 c)],[none,none]⟩:=by
 refine an ai mixed [.val] Tryz.func136 rfl rfl (by kernel_rfl) fun zD _ zG _ _ _ _ _ _ _ _ _ _ _ _ zX _ _ _ _ _ zu _ zz _ _ _ _ _ _ _ ab _ _ aL ar _ _ _ _ _ _ _ _ _ _ _ _ _ _ _ A L F hS hF=>?_
 have h1:ab r=l.length:=by rw[hS.len,hr,jr]
 have h2:ab s=m.length:=by rw[hS.len,hs,jr]
 cbv;rw[h1,h2];refine⟨fun h=>?_,fun h=>⟨fun h'=>?_,fun h'=>?_⟩⟩
 all_goals rw[hS.lt,hS.az,hS.az]at h
 ·have h:(l.length:Int)<m.length:=of_decide_eq_true h
  exact bc hF (kx (by rw[hc,gg (iM vh vM hmt (by omega))]))
 all_goals rw[hS.lt,hS.az,hS.az]at h'
 ·have h':(m.length:Int)<l.length:=of_decide_eq_true h'
  exact bc hF (kx (by rw[hc,iN (iM vM vh bJ (by omega))]))
 ·have h:=of_decide_eq_false h
  have h':=of_decide_eq_false h';have hlen:l.length=m.length:=by omega
  have V4:zD .i64 (zG (zz l.length) 1)=zG (zz l.length) 1:=by rw[hS.wrap,hS.sub,hS.az];exact wrap_i64 (by omega) (by omega)
  rw[V4];refine fW ai mixed hS (fun(k:Nat) s'=>k<=l.length/\l.drop k=m.drop k/\s'=qz r s (zG (zz k) 1)) (n:=l.length) (s0:=qz r s (zG (zz l.length) 1)) (fy ?_ ?_) rfl (Nat.le_refl 2) ?_ ?_
  ·simp[dS,qz,ae,vi,vl]
  ·simp[dU,qz,ae]
  ·refine⟨Nat.le_refl _,?_,rfl⟩
   rw[List.drop_length,hlen,List.drop_length]
  ·rintro k _ ⟨hk,he,rfl⟩
   have hi:zG (zz k) 1=(k:Int)-1:=by rw[hS.sub,hS.az]
   have hz:zX 0 (zG (zz k) 1)=decide (1<=k):=by
    rw[hS.le,hi]
    by_cases h:1<=k
    ·rw[decide_eq_true h];exact decide_eq_true (by omega)
    ·rw[decide_eq_false h];exact decide_eq_false (by omega)
   have IM:1<=k->zu (zG (zz k) 1)=k-1:=fun h=>by rw[hS.nat,hi];omega
   have g1:1<=k->ar r (zu (zG (zz k) 1))=l.getD (k-1) 0:=fun h=>by rw[IM h,hS.dK,hr,m8]
   have g2:1<=k->ar s (zu (zG (zz k) 1))=m.getD (k-1) 0:=fun h=>by rw[IM h,hS.dK,hs,m8]
   have SH:∀x:Int,x=c->F ⟨[.val (.c (.v (.int .i64 x)))],[none,none]⟩:=fun x hx=>bc hF (kx hx)
   have Ka:1<=k->aL .u32 r (zu (zG (zz k) 1))=true:=fun h=>by rw[IM h,hS.gM,hr,kY];exact decide_eq_true (by omega)
   have V5:1<=k->aL .u32 s (zu (zG (zz k) 1))=true:=fun h=>by rw[IM h,hS.gM,hs,kY];exact decide_eq_true (by omega)
   have LC:1<=k->zD .i64 (zG (zG (zz k) 1) 1)=zG (zz (k-1)) 1:=fun h=>by rw[hi,hS.wrap,hS.sub,hS.sub,hS.az,wrap_i64 (by omega) (by omega)];omega
   cbv;refine⟨fun h=>?_,fun h=>SH _ ?_⟩
   ·have a1:=h
    rw[hz]at h;have h:=of_decide_eq_true h;have a2:=Ka h;have a3:=V5 h;rw[LC h,g1 h,g2 h];refine nd a1 (nd a2 (nd a1 (nd a3 ⟨fun h3=>SH _ ?_,fun h3=>nd a1 (nd a2 (nd a1 (nd a3 ⟨fun h4=>SH _ ?_,fun h4=>?_⟩)))⟩)))
    all_goals rw[hS.lt]at h3
    ·rw[hc,gg (gW (i:=k-1) vh vM hlen (by omega) (by rw[show k-1+1=k by omega];exact he) (of_decide_eq_true h3))]
    all_goals rw[hS.lt]at h4
    ·rw[hc,iN (gW (i:=k-1) vM vh hlen.symm (by omega) (by rw[show k-1+1=k by omega];exact he.symm) (of_decide_eq_true h4))]
    ·refine again (s':=qz r s (zG (zz (k-1)) 1)) (m:=k-1) (by simp[dS,qz,ae,vi,vl]) (by simp[dU,qz,ae]) rfl (Nat.le_refl 2) (by omega) ⟨by omega,?_,rfl⟩
     have e3:=of_decide_eq_false h3;have e4:=of_decide_eq_false h4;rw[kZ (show k-1<l.length by omega),kZ (show k-1<m.length by omega),show k-1+1=k by omega,he,show l.getD (k-1) 0=m.getD (k-1) 0 by omega]
   ·rw[hz]at h
    have h:=of_decide_eq_false h;obtain rfl:k=0:=by omega
    simp only[List.drop_zero]at he;rw[hc,he,I1]
end Go.Proofs.YtekefilngojelaaGreat
end
section
namespace Go.Abs.M
theorem Eh (l:List Int) (k:Nat):val (l.take (k+1))=val (l.take k)+4294967296^k*l.getD k 0:=by
 rcases Nat.lt_or_ge k l.length with h|h
 ·exact ky h
 ·rw[List.take_of_length_le (by omega),List.take_of_length_le h,List.getD_eq_getElem?_getD,List.getElem?_eq_none h];simp
theorem yI {l:List Int} {k:Nat} (x:Int) (h:k<l.length):(l.set k x).take (k+1)=l.take k ++ [x]:=by
 rw[nN (by simpa using h)];congr 1
 ·rw[List.take_set_of_le (Nat.le_refl _)]
 ·simp[List.getD_eq_getElem?_getD,h]
theorem Q6 {l:List Int} {k:Nat} (x:Int) (h:k<l.length):val ((l.set k x).take (k+1))=val (l.take k)+4294967296^k*x:=by
 rw[yI x h,gB,List.length_take,Nat.min_eq_left (Nat.le_of_lt h)];simp[val]
theorem SI {l:List Int} {k:Nat} (x:Int):(l.set k x).drop (k+1)=l.drop (k+1):=List.drop_set_of_lt (Nat.lt_succ_self k)
theorem pD {l:List Int} {k:Nat} (x:Int) (h:k<l.length):(l.set k x).getD k 0=x:=by simp[List.getD_eq_getElem?_getD,h]
theorem xn {p t vo vl vm a b c:Int} (h:vo+c*p=vl+vm) (ht:t=a+b+c):vo+p*(t%4294967296)+t/4294967296*(p*4294967296)=(vl+p*a)+(vm+p*b):=by
 have:t%4294967296+4294967296*(t/4294967296)=t:=Int.emod_add_mul_ediv t 4294967296;generalize t%4294967296=r,t/4294967296=q at *;grind
theorem MM {p t vo vl vm a b c:Int} (h:vo=vl-vm+c*p) (ht:t=4294967296+a-b-c):vo+p*(t%4294967296)=(vl+p*a)-(vm+p*b)+(1-t/4294967296)*(p*4294967296):=by
 have:t%4294967296+4294967296*(t/4294967296)=t:=Int.emod_add_mul_ediv t 4294967296;generalize t%4294967296=r,t/4294967296=q at *;grind
theorem Fq {p t vo v0 x m w c q pi:Int} (h:vo+c*p=v0+x*pi*q) (ht:t=x*m+w+c) {pj:Int} (hp:p=pi*pj):vo+(t%4294967296-w)*p+t/4294967296*(p*4294967296)=v0+x*pi*(q+pj*m):=by
 have:t%4294967296+4294967296*(t/4294967296)=t:=Int.emod_add_mul_ediv t 4294967296;generalize t%4294967296=r,t/4294967296=q' at *;subst hp;grind
theorem AW {x m w c:Int} (hx:0<=x/\x<4294967296) (hm:0<=m/\m<4294967296) (hw:0<=w/\w<4294967296) (hc:0<=c/\c<4294967296):0<=x*m/\x*m+w+c<18446744073709551616:=by
 have h1:x*m<=4294967295*4294967295:=Int.mul_le_mul (by omega) (by omega) hm.1 (by omega);exact⟨Int.mul_nonneg hx.1 hm.1,by omega⟩
theorem Fs {o:List Int} {k:Nat} (hw:Wd o) (hk:k<o.length) (h:val o<4294967296^k):o.getD k 0=0:=by
 have h1:=Pp o k (by omega);rw[Ki hk]at h1;have h2:=sZ (hw.take k);have h3:=sZ (hw.drop (k+1));have h4:=hw.get k;have hp:=yj k;rcases Int.lt_or_le 0 (o.getD k 0) with h5|h5
 ·exfalso
  have:4294967296^k*1<=4294967296^k*(o.getD k 0+4294967296*val (o.drop (k+1))):=Int.mul_le_mul_of_nonneg_left (by omega) (by omega);omega
 ·omega
theorem xo {a b:Int} {i j:Nat} (ha:0<=a) (hb:0<=b) (h1:a<4294967296^i) (h2:b<4294967296^j):a*b<4294967296^(i+j):=by
 rw[Int.pow_add];have hp:=yj i;have hq:=yj j;have e1:a*b<=a*4294967296^j:=Int.mul_le_mul_of_nonneg_left (by omega) ha;have e2:a*4294967296^j<4294967296^i*4294967296^j:=Int.mul_lt_mul_of_pos_right h1 hq;omega
theorem HD {d t r a q vo:Int} (h:q=d*vo+r) (ht:t=r*4294967296+a):a+4294967296*q=d*(t/d+4294967296*vo)+t%d:=by
 have:t%d+d*(t/d)=t:=Int.emod_add_mul_ediv t d;generalize t%d=r',t/d=q' at *;grind
theorem Ft {d r a:Int} (hd:0<d) (hr:0<=r/\r<d) (ha:0<=a/\a<4294967296):0<=(r*4294967296+a)/d/\(r*4294967296+a)/d<4294967296:=by
 refine⟨Int.ediv_nonneg (by omega) (by omega),Int.ediv_lt_of_lt_mul hd ?_⟩;have:(r+1)*4294967296<=d*4294967296:=Int.mul_le_mul_of_nonneg_right (by omega) (by omega);have e:(r+1)*4294967296=r*4294967296+4294967296:=by omega
 have e2:4294967296*d=d*4294967296:=Int.mul_comm ..;omega
end Go.Abs.M
end
section
namespace Go.Proofs.YtekefilngojelaaGreat
open Go Go.Abs Go.Abs.M Go.Proofs
def qA (r s R:Abs.Rows) (n:Int) (len:Nat) (c i:Int):St:=ae 42 [vl r,vl s,.af,.af,fH,vi .i64 n,.c (.sl 2 0 len false),vi .u64 c,vi .i64 i] [none,none,some (.rows 1 R true false)]
theorem uQ {r s:Abs.Rows} {l m:List Int} (hr:r=W .u32 l) (hs:s=W .u32 m) (hl:l.length<=1099511627776) (hm:m.length<=1099511627776) (vh:Wd l) (vM:Wd m) :
  aH 129 [.val (tl r),.val (tl s)] ⟨[.val (tl (W .u32 (dg (val l+val m).toNat)))],[none,none]⟩:=by
 obtain⟨n,hn⟩:=aq (max l.length m.length+1:Nat);refine an ai mixed [.val] Tryz.func129 rfl rfl (by kernel_rfl) fun zD zE _ _ zI zJ _ _ _ _ _ _ _ _ zV _ _ _ _ zh _ zu zy zz bg _ _ _ _ _ _ ab _ _ aL _ aR a9 aD _ _ bR _ _ _ _ _ _ _ zW _ A L F hS hF=>?_
 have h1:ab r=l.length:=by rw[hS.len,hr,jr]
 have h2:ab s=m.length:=by rw[hS.len,hs,jr]
 have hN:zD .i64 (zE (zh (zz (ab r)) (zz (ab s))) 1)=zz n:=by
  rw[h1,h2,hS.wrap,hS.add,hS.max,hS.az,hS.az,hS.az,hn];split
  ·rw[wrap_i64 (by omega) (by omega)];omega
  ·rw[wrap_i64 (by omega) (by omega)];omega
 have HE:zu (zz n)=n:=by rw[hS.nat,hS.az];omega
 have jB:bR n [.v (.int .u32 0)]=zW .u32 (List.replicate n 0):=by rw[hS.rep,hS.W];exact xk ..
 cbv;rw[hN,HE,jB];refine nd (by rw[hS.nG,hS.az];exact decide_eq_true (by unfold au;omega)) ?_;refine fW ai mixed hS (fun(j:Nat) s'=>∃(k:Nat) (o:List Int) (c:Int),k+j=n/\o.length=n/\Wd o/\(0<=c/\c<=1)/\val (o.take k)+c*4294967296^k=val (l.take k)+val (m.take k)/\s'=qA r s (zW .u32 o) (zz n) n c (zz k)) (n:=n)
  (s0:=qA r s (zW .u32 (List.replicate n 0)) (zz n) n 0 (zz 0)) (fy ?_ ?_) rfl (Nat.le_succ 2) ?_ ?_
 ·simp[dS,qA,ae,vi,vl,fH,hS.az]
 ·simp[dU,qA,ae]
 ·exact⟨0,_,0,by omega,by simp,Wd.rep _,by omega,by simp[val],rfl⟩
 ·rintro j _ ⟨k,o,c,hk,ho,hw,hc,hv,rfl⟩
  have ga:=vh.get k;have gb:=vM.get k;have hwa:=gC (zz k) hr (by omega) vh (by rw[hS.az];omega);have MN:=gC (zz k) hs (by omega) vM (by rw[hS.az];omega);rw[show(zz k).toNat=k by rw[hS.az];omega]at hwa MN;obtain⟨t,ht⟩:=aq (l.getD k 0+m.getD k 0+c);have dR:=xn hv ht;have e1:zD .u64 (zE (zD .u64 (zE (l.getD k 0) (m.getD k 0))) c)=t:=by
   rw[hS.wrap,hS.add,hS.wrap,hS.add,eS (x:=l.getD k 0+m.getD k 0) (by omega) (by omega),eS (by omega) (by omega),ht]
  have e2:zD .u32 (zJ t 4294967296)=t%4294967296:=by rw[hS.rem,Int.tmod_eq_emod_of_nonneg (by omega),hS.wrap];exact LB (by omega) (by omega)
  have e3:zD .u64 (zI t 4294967296)=t/4294967296:=by rw[hS.quo,Int.tdiv_eq_ediv_of_nonneg (by omega),hS.wrap];exact eS (by omega) (by omega)
  have e4:zD .i64 (zE (zz k) 1)=zz (k+1):=by rw[hS.wrap,hS.add,hS.az,hS.az,wrap_i64 (by omega) (by omega)];omega
  have e5:bg 0 (zz k)=k:=by rw[hS.idx,hS.az];omega
  have e6:zV (zz k) (zz n)=decide (k<n):=by
   rw[hS.lt,hS.az,hS.az]
   by_cases h:k<n
   ·rw[decide_eq_true h];exact decide_eq_true (by omega)
   ·rw[decide_eq_false h];exact decide_eq_false (by omega)
  have e7:∀x,aR .u32 (zW .u32 o) k x=zW .u32 (o.set k x):=fun x=>by rw[hS.oW,hS.W,pC]
  have e8:k<n->zy (zz k) n=true:=fun h=>by rw[hS.yC,hS.az];exact decide_eq_true (by omega)
  have e9:k<n->aL .u32 (zW .u32 o) k=true:=fun h=>by rw[hS.gM,hS.W,kY];exact decide_eq_true (by omega)
  have yJ:a9 0 n (zW .u32 o)=true:=by rw[hS.fit,hS.W,jr];exact decide_eq_true (by omega)
  have Kj:aD (zW .u32 o) 0 n=W .u32 o:=by rw[hS.part,hS.W,kv,List.drop_zero,List.take_of_length_le (by omega)]
  have hT:=Q5 (r:=W .u32 o) rfl (by omega) hw;have eU:k=n->val o=val l+val m:=fun h=>by
   subst h;rw[List.take_of_length_le (by omega),List.take_of_length_le (by omega),List.take_of_length_le (by omega)]at hv;have b1:=Di vh;have b2:=Di vM;have b3:=jX (show l.length<=max l.length m.length by omega);have b4:=jX (show m.length<=max l.length m.length by omega);have b5:(4294967296:Int)^k=4294967296^max l.length m.length*4294967296:=by rw[hn,Int.pow_succ]
   have b6:=sZ hw;have b7:=yj (max l.length m.length);rcases(show c=0∨c=1 by omega) with rfl|rfl
   ·omega
   ·omega
  have jN:k<n->val ((o.set k (t%4294967296)).take (k+1))=val (o.take k)+4294967296^k*(t%4294967296):=fun h=>Q6 _ (by omega)
  generalize Oo:l.getD k 0=a at *;generalize I3:m.getD k 0=b at *;cbv;refine⟨fun h=>?_,fun h=>?_⟩
  all_goals rw[e6]at h
  ·have h:=of_decide_eq_true h
   refine hS.cl hwa ?_;cbv;refine hS.cl MN ?_;cbv;rw[e1,e2,e3,e4,e5,e7];refine nd (e8 h) (nd (e9 h) ?_);refine again (s':=qA r s (zW .u32 (o.set k (t%4294967296))) (zz n) n (t/4294967296) (zz (k+1))) (m:=j-1) (by simp[dS,qA,ae,vi,vl,fH]) (by simp[dU,qA,ae]) rfl (Nat.le_succ 2) (by omega) ⟨_,_,_,by omega,by simpa using ho,hw.set _ (by omega) (by omega),by omega,?_,rfl⟩;rw[jN h,Eh l,Eh m,Int.pow_succ,Oo,I3]
   exact dR
  ·have h:=of_decide_eq_false h
   rw[Kj];refine nd yJ ⟨_,hS.call hT,?_⟩;rw[eU (by omega)];generalize W .u32 (dg (val l+val m).toNat)=x at *;cbv;exact aC hF
theorem mg {zV:Int->Int->Bool} {zz:Nat->Int} (h1:∀a b,zV a b=decide (a<b)) (h2:∀n:Nat,zz n=(n:Int)) (k n:Nat):zV (zz k) (zz n)=decide (k<n):=by
 rw[h1,h2,h2]
 by_cases h:k<n
 ·rw[decide_eq_true h];exact decide_eq_true (by omega)
 ·rw[decide_eq_false h];exact decide_eq_false (by omega)
def qC (r s R:Abs.Rows) (len:Nat) (c i:Int):St:=ae 41 [vl r,vl s,.af,.af,fH,.c (.sl 2 0 len false),vi .u64 c,vi .i64 i] [none,none,some (.rows 1 R true false)]
theorem nP {r s:Abs.Rows} {l m:List Int} (hr:r=W .u32 l) (hs:s=W .u32 m) (hl:l.length<=1099511627776) (hm:m.length<=l.length) (vh:Wd l) (vM:Wd m) (Gx:val m<=val l) :
  aH 130 [.val (tl r),.val (tl s)] ⟨[.val (tl (W .u32 (dg (val l-val m).toNat)))],[none,none]⟩:=by
 obtain⟨n,hn⟩:=aq (l.length:Nat);refine an ai mixed [.val] Tryz.func130 rfl rfl (by kernel_rfl) fun zD zE zG _ zI zJ _ _ _ _ _ _ _ _ _ zX _ _ _ _ _ zu zy zz bg _ _ _ _ _ _ ab _ _ aL ar aR a9 aD _ _ bR _ _ _ _ _ _ _ zW _ A L F hS hF=>?_
 have h1:ab r=n:=by rw[hS.len,hr,jr,hn]
 have HE:zu (zz n)=n:=by rw[hS.nat,hS.az];omega
 have jB:bR n [.v (.int .u32 0)]=zW .u32 (List.replicate n 0):=by rw[hS.rep,hS.W];exact xk ..
 cbv;rw[h1,HE,jB];refine nd (by rw[hS.nG,hS.az];exact decide_eq_true (by unfold au;omega)) ?_;refine fW ai mixed hS (fun(j:Nat) s'=>∃(k:Nat) (o:List Int) (c:Int),k+j=n/\o.length=n/\Wd o/\(0<=c/\c<=1)/\val (o.take k)=val (l.take k)-val (m.take k)+c*4294967296^k/\s'=qC r s (zW .u32 o) n c (zz k)) (n:=n)
  (s0:=qC r s (zW .u32 (List.replicate n 0)) n 0 (zz 0)) (fy ?_ ?_) rfl (Nat.le_succ 2) ?_ ?_
 ·simp[dS,qC,ae,vi,vl,fH,hS.az]
 ·simp[dU,qC,ae]
 ·exact⟨0,_,0,by omega,by simp,Wd.rep _,by omega,by simp[val],rfl⟩
 ·rintro j _ ⟨k,o,c,hk,ho,hw,hc,hv,rfl⟩
  have ga:=vh.get k;have gb:=vM.get k;have MN:=gC (zz k) hs (by omega) vM (by rw[hS.az];omega);rw[show(zz k).toNat=k by rw[hS.az];omega]at MN;obtain⟨t,ht⟩:=aq (4294967296+l.getD k 0-m.getD k 0-c);have dR:=MM hv ht;have e0:ar r (zu (zz k))=l.getD k 0:=by rw[hS.dK,hS.nat,hS.az,hr,m8,Int.toNat_natCast]
  have e1:zD .u64 (zG (zD .u64 (zG (zD .u64 (zE 4294967296 (zD .u64 (l.getD k 0)))) (m.getD k 0))) c)=t:=by
   rw[hS.wrap,hS.wrap,hS.wrap,hS.wrap,hS.add,hS.sub,hS.sub,eS (x:=l.getD k 0) (by omega) (by omega),eS (x:=4294967296+l.getD k 0) (by omega) (by omega),eS (x:=4294967296+l.getD k 0-m.getD k 0) (by omega) (by omega),eS (by omega) (by omega),ht]
  have e2:zD .u32 (zJ t 4294967296)=t%4294967296:=by rw[hS.rem,Int.tmod_eq_emod_of_nonneg (by omega),hS.wrap];exact LB (by omega) (by omega)
  have e3:zD .u64 (zG 1 (zD .u64 (zI t 4294967296)))=1-t/4294967296:=by rw[hS.quo,Int.tdiv_eq_ediv_of_nonneg (by omega),hS.wrap,hS.wrap,eS (x:=t/4294967296) (by omega) (by omega),hS.sub];exact eS (by omega) (by omega)
  have e4:k<n->zD .i64 (zE (zz k) 1)=zz (k+1):=fun h=>by rw[hS.wrap,hS.add,hS.az,hS.az,wrap_i64 (by omega) (by omega)];omega
  have e5:bg 0 (zz k)=k:=by rw[hS.idx,hS.az];omega
  have e6:=mg hS.lt hS.az k n;have e7:∀x,aR .u32 (zW .u32 o) k x=zW .u32 (o.set k x):=fun x=>by rw[hS.oW,hS.W,pC]
  have e8:k<n->zy (zz k) n=true:=fun h=>by rw[hS.yC,hS.az];exact decide_eq_true (by omega)
  have e9:k<n->aL .u32 (zW .u32 o) k=true:=fun h=>by rw[hS.gM,hS.W,kY];exact decide_eq_true (by omega)
  have SJ:k<n->aL .u32 r (zu (zz k))=true:=fun h=>by rw[hS.gM,hr,hS.nat,hS.az,kY];exact decide_eq_true (by omega)
  have MO:zX 0 (zz k)=true:=by rw[hS.le,hS.az];exact decide_eq_true (by omega)
  have yJ:a9 0 n (zW .u32 o)=true:=by rw[hS.fit,hS.W,jr];exact decide_eq_true (by omega)
  have Kj:aD (zW .u32 o) 0 n=W .u32 o:=by rw[hS.part,hS.W,kv,List.drop_zero,List.take_of_length_le (by omega)]
  have hT:=Q5 (r:=W .u32 o) rfl (by omega) hw;have eU:k=n->val o=val l-val m:=fun h=>by
   subst h;rw[List.take_of_length_le (by omega),List.take_of_length_le (by omega),List.take_of_length_le (by omega)]at hv;have b1:=Di hw;rw[ho]at b1;have b7:=yj k;rcases(show c=0∨c=1 by omega) with rfl|rfl
   ·omega
   ·omega
  have jN:k<n->val ((o.set k (t%4294967296)).take (k+1))=val (o.take k)+4294967296^k*(t%4294967296):=fun h=>Q6 _ (by omega)
  generalize Oo:l.getD k 0=a at *;generalize I3:m.getD k 0=b at *;cbv;refine⟨fun h=>?_,fun h=>?_⟩
  all_goals rw[h1]at h
  all_goals rw[e6]at h
  ·have h:=of_decide_eq_true h
   refine nd MO (nd (SJ h) ?_);rw[e0];refine hS.cl MN ?_;cbv;rw[e1,e2,e3,e4 h,e5,e7];refine nd (e8 h) (nd (e9 h) ?_);refine again (s':=qC r s (zW .u32 (o.set k (t%4294967296))) n (1-t/4294967296) (zz (k+1))) (m:=j-1) (by simp[dS,qC,ae,vi,vl,fH]) (by simp[dU,qC,ae]) rfl (Nat.le_succ 2) (by omega) ⟨_,_,_,by omega,by simpa using ho,hw.set _ (by omega) (by omega),by omega,?_,rfl⟩
   rw[jN h,Eh l,Eh m,Int.pow_succ,Oo,I3];exact dR
  ·have h:=of_decide_eq_false h
   rw[Kj];refine nd yJ ⟨_,hS.call hT,?_⟩;rw[eU (by omega)];generalize W .u32 (dg (val l-val m).toNat)=x at *;cbv;exact aC hF
def qD (r R:Abs.Rows) (d:Int) (len:Nat) (c i:Int):St:=ae 41 [vl r,vi .u64 d,.af,.af,fH,vi .u64 0,.c (.sl 2 0 len false),vi .u64 c,vi .i64 i] [none,none,some (.rows 1 R true false)]
theorem pF {r:Abs.Rows} {l:List Int} (d q e:Int) (hr:r=W .u32 l) (hl:l.length<=1099511627776) (vh:Wd l) (hd:0<d) (Q7:d<4294967296) (hq:q=val l/d) (he:e=val l%d) :
  aH 153 [.val (tl r),.val (ti .u64 d)] ⟨[.val (tl (W .u32 (dg q.toNat))),.val (ti .u64 e)],[none,none]⟩:=by
 obtain⟨n,hn⟩:=aq (l.length:Nat);refine an ai mixed [.val,.val] Tryz.func153 rfl rfl (by kernel_rfl) fun zD zE zG zH zI zJ _ _ _ _ _ _ _ zU _ zX _ _ _ _ _ zu zy zz bg _ _ _ _ _ _ ab _ _ aL ar aR a9 aD _ _ bR _ _ _ _ _ _ _ zW _ A L F hS hF=>?_
 have h1:ab r=n:=by rw[hS.len,hr,jr,hn]
 have HE:zu (zz n)=n:=by rw[hS.nat,hS.az];omega
 have jB:bR n [.v (.int .u32 0)]=zW .u32 (List.replicate n 0):=by rw[hS.rep,hS.W];exact xk ..
 have V4:zD .i64 (zG (zz n) 1)=zG (zz n) 1:=by rw[hS.wrap,hS.sub,hS.az];exact wrap_i64 (by omega) (by omega)
 have hdz:zU d 0=true:=dT (hS.ne ..) (by omega);cbv;rw[h1,HE,jB,V4];refine nd (by rw[hS.nG,hS.az];exact decide_eq_true (by unfold au;omega)) ?_;refine fW ai mixed hS (fun(k:Nat) s'=>∃(o:List Int) (c:Int),k<=n/\o.length=n/\Wd o/\(0<=c/\c<d)/\val (l.drop k)=d*val (o.drop k)+c/\s'=qD r (zW .u32 o) d n c (zG (zz k) 1)) (n:=n)
  (s0:=qD r (zW .u32 (List.replicate n 0)) d n 0 (zG (zz n) 1)) (fy ?_ ?_) rfl (Nat.le_succ 2) ?_ ?_
 ·simp[dS,qD,ae,vi,vl,fH,hS.az]
 ·simp[dU,qD,ae]
 ·refine⟨_,0,Nat.le_refl _,by simp,Wd.rep _,by omega,?_,rfl⟩
  rw[List.drop_of_length_le (by omega),List.drop_of_length_le (by simp)];simp[val]
 ·rintro k _ ⟨o,c,hk,ho,hw,hc,hv,rfl⟩
  have ga:=vh.get (k-1);obtain⟨t,ht⟩:=aq (c*4294967296+l.getD (k-1) 0);have dR:=HD hv ht;have hb:=Ft hd hc ga;rw[<-ht]at hb;have hcm:0<=c*4294967296/\c*4294967296<=4294967294*4294967296:=by omega
  have R7:=Int.emod_nonneg t (show d≠0 by omega);have acs:=Int.emod_lt_of_pos t hd;have hi:zG (zz k) 1=(k:Int)-1:=by rw[hS.sub,hS.az]
  have hz:zX 0 (zG (zz k) 1)=decide (1<=k):=by
   rw[hS.le,hi]
   by_cases h:1<=k
   ·rw[decide_eq_true h];exact decide_eq_true (by omega)
   ·rw[decide_eq_false h];exact decide_eq_false (by omega)
  have IM:1<=k->zu (zG (zz k) 1)=k-1:=fun h=>by rw[hS.nat,hi];omega
  have e0:1<=k->ar r (zu (zG (zz k) 1))=l.getD (k-1) 0:=fun h=>by rw[hS.dK,IM h,hr,m8]
  have e1:zD .u64 (zE (zD .u64 (zH c 4294967296)) (zD .u64 (l.getD (k-1) 0)))=t:=by
   rw[hS.wrap,hS.wrap,hS.wrap,hS.mul,hS.add,eS (x:=l.getD (k-1) 0) (by omega) (by omega),eS (x:=c*4294967296) (by omega) (by omega),eS (by omega) (by omega),ht]
  have e2:zD .u32 (zD .u64 (zI t d))=t/d:=by rw[hS.quo,Int.tdiv_eq_ediv_of_nonneg (by omega),hS.wrap,hS.wrap,eS (x:=t/d) (by omega) (by omega)];exact LB (by omega) (by omega)
  have e3:zJ t d=t%d:=by rw[hS.rem,Int.tmod_eq_emod_of_nonneg (by omega)]
  have e4:1<=k->zD .i64 (zG (zG (zz k) 1) 1)=zG (zz (k-1)) 1:=fun h=>by rw[hi,hS.wrap,hS.sub,hS.sub,hS.az,wrap_i64 (by omega) (by omega)];omega
  have e5:1<=k->bg 0 (zG (zz k) 1)=k-1:=fun h=>by rw[hS.idx,hi];omega
  have e7:∀x,aR .u32 (zW .u32 o) (k-1) x=zW .u32 (o.set (k-1) x):=fun x=>by rw[hS.oW,hS.W,pC]
  have e8:1<=k->zy (zG (zz k) 1) n=true:=fun h=>by rw[hS.yC,hi];exact decide_eq_true (by omega)
  have e9:1<=k->aL .u32 (zW .u32 o) (k-1)=true:=fun h=>by rw[hS.gM,hS.W,kY];exact decide_eq_true (by omega)
  have SJ:1<=k->aL .u32 r (zu (zG (zz k) 1))=true:=fun h=>by rw[hS.gM,hr,IM h,kY];exact decide_eq_true (by omega)
  have yJ:a9 0 n (zW .u32 o)=true:=by rw[hS.fit,hS.W,jr];exact decide_eq_true (by omega)
  have Kj:aD (zW .u32 o) 0 n=W .u32 o:=by rw[hS.part,hS.W,kv,List.drop_zero,List.take_of_length_le (by omega)]
  have hT:=Q5 (r:=W .u32 o) rfl (by omega) hw;have eU:k=0->val o=q/\c=e:=fun h=>by
   subst h;simp only[List.drop_zero]at hv;rw[hq,he,hv];exact⟨by rw[Int.add_comm,Int.add_mul_ediv_left _ _ (by omega),Int.ediv_eq_zero_of_lt hc.1 hc.2,Int.zero_add],by rw[Int.add_comm,Int.add_mul_emod_self_left,Int.emod_eq_of_lt hc.1 hc.2]⟩
  have jN:1<=k->val (l.drop (k-1))=d*val ((o.set (k-1) (t/d)).drop (k-1))+t%d:=fun h=>by
   rw[Ki (l:=l) (by omega),Ki (l:=o.set (k-1) (t/d)) (by simp;omega),pD _ (by omega),SI,show k-1+1=k by omega];exact dR
  generalize Oo:l.getD (k-1) 0=a at *;cbv;refine⟨fun h=>?_,fun h=>?_⟩
  ·have a1:=h
   rw[hz]at h;have h:=of_decide_eq_true h;refine nd a1 (nd (SJ h) ?_);rw[e0 h,e1,e2,e3,e4 h,e5 h,e7];refine nd hdz (nd (e8 h) (nd (e9 h) (nd hdz ?_)));refine again (s':=qD r (zW .u32 (o.set (k-1) (t/d))) d n (t%d) (zG (zz (k-1)) 1)) (m:=k-1) (by simp[dS,qD,ae,vi,vl,fH]) (by simp[dU,qD,ae]) rfl (Nat.le_succ 2) (by omega) ⟨_,_,by omega,by simpa using ho,hw.set _ (by omega) (by omega),by omega,jN h,rfl⟩
  ·rw[hz]at h
   have h:=of_decide_eq_false h;rw[Kj];obtain⟨z1,z2⟩:=eU (by omega);refine nd yJ ⟨_,hS.call hT,?_⟩;rw[z1];generalize W .u32 (dg q.toNat)=x at *;cbv;exact Pm hF rfl (kx z2)
def qE (r s R:Abs.Rows) (len:Nat) (i:Int):St:=ae 69 [vl r,vl s,.af,.af,fH,.c (.sl 2 0 len false),vi .i64 i] [none,none,some (.rows 1 R true false)]
def mh (r s R:Abs.Rows) (len:Nat) (i c j:Int):St:=ae 69 [vl r,vl s,.af,.af,fH,.c (.sl 2 0 len false),vi .i64 i,vi .u64 c,vi .i64 j] [none,none,some (.rows 1 R true false)]
theorem nQ {r s:Abs.Rows} {l m:List Int} (hr:r=W .u32 l) (hs:s=W .u32 m) (hl:l.length<=1099511627776) (hm:m.length<=1099511627776) (vh:Wd l) (vM:Wd m) :
  aH 132 [.val (tl r),.val (tl s)] ⟨[.val (tl (W .u32 (dg (val l*val m).toNat)))],[none,none]⟩:=by
 obtain⟨n,hn⟩:=aq (l.length+m.length:Nat);refine an ai mixed [.val] Tryz.func132 rfl rfl (by kernel_rfl) fun zD zE _ zH zI zJ _ _ _ _ _ _ _ _ _ zX _ _ _ _ _ zu zy zz bg _ _ _ _ _ _ ab _ _ aL ar aR a9 aD _ _ bR _ _ _ _ _ _ _ zW _ A L F hS hF=>?_
 have h1:ab r=l.length:=by rw[hS.len,hr,jr]
 have h2:ab s=m.length:=by rw[hS.len,hs,jr]
 have hN:zD .i64 (zE (zz (ab r)) (zz (ab s)))=zz n:=by
  rw[h1,h2,hS.wrap,hS.add,hS.az,hS.az,hS.az,hn,wrap_i64 (by omega) (by omega)];omega
 have HE:zu (zz n)=n:=by rw[hS.nat,hS.az];omega
 have jB:bR n [.v (.int .u32 0)]=zW .u32 (List.replicate n 0):=by rw[hS.rep,hS.W];exact xk ..
 cbv;rw[hN,HE,jB];refine nd (by rw[hS.nG,hS.az];exact decide_eq_true (by unfold au;omega)) ?_;refine fW ai mixed hS (fun(u:Nat) s'=>∃(k:Nat) (o:List Int),k+u=l.length/\o.length=n/\Wd o/\val o=val (l.take k)*val m/\s'=qE r s (zW .u32 o) n (zz k)) (n:=l.length)
  (s0:=qE r s (zW .u32 (List.replicate n 0)) n (zz 0)) (fy ?_ ?_) rfl (Nat.le_succ 2) ?_ ?_
 ·simp[dS,qE,ae,vi,vl,fH,hS.az]
 ·simp[dU,qE,ae]
 ·exact⟨0,_,by omega,by simp,Wd.rep _,by rw[Dj];simp[val],rfl⟩
 ·rintro u _ ⟨k,o,hk,ho,hw,hv,rfl⟩
  have gx:=vh.get k;have yJ:a9 0 n (zW .u32 o)=true:=by rw[hS.fit,hS.W,jr];exact decide_eq_true (by omega)
  have Kj:aD (zW .u32 o) 0 n=W .u32 o:=by rw[hS.part,hS.W,kv,List.drop_zero,List.take_of_length_le (by omega)]
  have hT:=Q5 (r:=W .u32 o) rfl (by omega) hw;have e6:=mg hS.lt hS.az k l.length;have SJ:k<l.length->aL .u32 r (zu (zz k))=true:=fun h=>by rw[hS.gM,hr,hS.nat,hS.az,kY];exact decide_eq_true (by omega)
  have MO:zX 0 (zz k)=true:=by rw[hS.le,hS.az];exact decide_eq_true (by omega)
  have e0:ar r (zu (zz k))=l.getD k 0:=by rw[hS.dK,hS.nat,hS.az,hr,m8,Int.toNat_natCast]
  have ew:zD .u64 (l.getD k 0)=l.getD k 0:=by rw[hS.wrap,eS (by omega) (by omega)]
  have hvk:=Eh l k;have eU:k=l.length->val o=val l*val m:=fun h=>by
   subst h;rw[List.take_of_length_le (Nat.le_refl _)]at hv;exact hv
  have kI:val o<4294967296^(k+m.length):=by
   rw[hv];have b:=Di (vh.take k);rw[List.length_take,Nat.min_eq_left (by omega)]at b;exact xo (sZ (vh.take k)) (sZ vM) b (Di vM)
  generalize Oo:l.getD k 0=x at *;cbv;refine⟨fun h=>?_,fun h=>?_⟩
  all_goals rw[h1]at h
  all_goals rw[e6]at h
  ·have h:=of_decide_eq_true h
   refine fW ai mixed hS (fun(u':Nat) s'=>∃(j:Nat) (o':List Int) (c:Int),j+u'=m.length/\o'.length=n/\Wd o'/\(0<=c/\c<4294967296)/\o'.drop (k+j)=o.drop (k+j)/\val o'+c*4294967296^(k+j)=val o+x*4294967296^k*val (m.take j)/\s'=mh r s (zW .u32 o') n (zz k) c (zz j)) (n:=m.length)
    (s0:=mh r s (zW .u32 o) n (zz k) 0 (zz 0)) (fy ?_ ?_) rfl (Nat.le_succ 2) ?_ ?_
   ·simp[dS,mh,ae,vi,vl,fH,hS.az]
   ·simp[dU,mh,ae]
   ·exact⟨0,_,0,by omega,ho,hw,by omega,rfl,by simp[val],rfl⟩
   ·rintro u' _ ⟨j,o',c,hj,V6,SK,hc,I4,sV,rfl⟩
    have gm:=vM.get j;have gw:=SK.get (k+j);have hb:=AW gx gm gw hc;obtain⟨t,ht⟩:=aq (x*m.getD j 0+o'.getD (k+j) 0+c);have dR:=Fq sV ht (Int.pow_add 4294967296 k j);have f6:=mg hS.lt hS.az j m.length;have f9:j<m.length->aL .u32 s (zu (zz j))=true:=fun h=>by rw[hS.gM,hs,hS.nat,hS.az,kY];exact decide_eq_true (by omega)
    have SL:zX 0 (zz j)=true:=by rw[hS.le,hS.az];exact decide_eq_true (by omega)
    have f0:ar s (zu (zz j))=m.getD j 0:=by rw[hS.dK,hS.nat,hS.az,hs,m8,Int.toNat_natCast]
    have f1:j<=m.length->zD .i64 (zE (zz k) (zz j))=zz (k+j):=fun h=>by rw[hS.wrap,hS.add,hS.az,hS.az,hS.az,wrap_i64 (by omega) (by omega)];omega
    have Up:zD .i64 (zE (zz k) (zz m.length))=zz (k+m.length):=by rw[hS.wrap,hS.add,hS.az,hS.az,hS.az,wrap_i64 (by omega) (by omega)];omega
    have f2:∀q,bg 0 (zz q)=q:=fun q=>by rw[hS.idx,hS.az];omega
    have f3:∀q,q<n->zy (zz q) n=true:=fun q hq=>by rw[hS.yC,hS.az];exact decide_eq_true (by omega)
    have f4:∀q,q<n->aL .u32 (zW .u32 o') q=true:=fun q hq=>by rw[hS.gM,hS.W,kY];exact decide_eq_true (by omega)
    have f5:∀q,ar (zW .u32 o') q=o'.getD q 0:=fun q=>by rw[hS.dK,hS.W,m8]
    have f7:∀q y,aR .u32 (zW .u32 o') q y=zW .u32 (o'.set q y):=fun q y=>by rw[hS.oW,hS.W,pC]
    have fw1:zD .u64 (m.getD j 0)=m.getD j 0:=by rw[hS.wrap,eS (by omega) (by omega)]
    have fw2:zD .u64 (o'.getD (k+j) 0)=o'.getD (k+j) 0:=by rw[hS.wrap,eS (by omega) (by omega)]
    have f8:zD .u64 (zE (zD .u64 (zE (zD .u64 (zH x (m.getD j 0))) (o'.getD (k+j) 0))) c)=t:=by
     rw[hS.wrap,hS.wrap,hS.wrap,hS.mul,hS.add,hS.add,eS (x:=x*m.getD j 0) (by omega) (by omega),eS (x:=x*m.getD j 0+o'.getD (k+j) 0) (by omega) (by omega),eS (by omega) (by omega),ht]
    have e2:zD .u32 (zJ t 4294967296)=t%4294967296:=by rw[hS.rem,Int.tmod_eq_emod_of_nonneg (by omega),hS.wrap];exact LB (by omega) (by omega)
    have e3:zD .u64 (zI t 4294967296)=t/4294967296:=by rw[hS.quo,Int.tdiv_eq_ediv_of_nonneg (by omega),hS.wrap];exact eS (by omega) (by omega)
    have e3':zD .u32 c=c:=by rw[hS.wrap];exact LB (by omega) (by omega)
    have e4:j<m.length->zD .i64 (zE (zz j) 1)=zz (j+1):=fun h=>by rw[hS.wrap,hS.add,hS.az,hS.az,wrap_i64 (by omega) (by omega)];omega
    have Vm:zD .i64 (zE (zz k) 1)=zz (k+1):=by rw[hS.wrap,hS.add,hS.az,hS.az,wrap_i64 (by omega) (by omega)];omega
    have jN:∀q y,q<n->val (o'.set q y)=val o'+(y-o'.getD q 0)*4294967296^q:=fun q y hq=>Dk _ _ _ (by omega)
    have htz:j=m.length->o'.getD (k+j) 0=0:=fun hj=>by
     have e:o'.getD (k+j) 0=o.getD (k+j) 0:=by
      have:=congrArg (fun y=>List.getD y 0 0) I4;simpa[List.getD_eq_getElem?_getD]using this
     rw[e,hj];exact Fs hw (by omega) kI
    have htt:0<=t:=by omega
    have Uv:t<18446744073709551616:=by omega
    have hmj:=Eh m j;have GN:j=m.length->m.take j=m:=fun h=>List.take_of_length_le (by omega)
    clear ht hb;generalize I3:m.getD j 0=y at *;generalize Dl:o'.getD (k+j) 0=w at *;cbv;refine⟨fun h'=>?_,fun h'=>?_⟩
    all_goals rw[h2]at h'
    all_goals rw[f6]at h'
    ·have h':=of_decide_eq_true h'
     rw[f1 (by omega),f2,f0,e0,ew,fw1,f5,Dl,fw2,f8,e2,e3,e4 h',f7];refine nd MO (nd (SJ h) (nd SL (nd (f9 h') (nd (f3 _ (by omega)) (nd (f4 _ (by omega)) (nd (f3 _ (by omega)) (nd (f4 _ (by omega)) ?_)))))));refine again (s':=mh r s (zW .u32 (o'.set (k+j) (t%4294967296))) n (zz k) (t/4294967296) (zz (j+1))) (m:=u'-1) (by simp[dS,mh,ae,vi,vl,fH]) (by simp[dU,mh,ae]) rfl (Nat.le_succ 2) (by omega)
      ⟨_,_,_,by omega,by simpa using V6,SK.set _ (by omega) (by omega),by omega,?_,?_,rfl⟩
     ·rw[show k+(j+1)=k+j+1 by omega,SI]
      have:=congrArg (List.drop 1) I4;simpa[List.drop_drop]using this
     ·rw[jN _ _ (by omega),Dl,show k+(j+1)=k+j+1 by omega,Int.pow_succ,hmj]
      exact dR
    ·have h':=of_decide_eq_false h'
     have Q9:j=m.length:=by omega
     rw[h2,Up,f2,e3',Vm,f7];refine nd (f3 _ (by omega)) (nd (f4 _ (by omega)) ?_);refine again (s':=qE r s (zW .u32 (o'.set (k+m.length) c)) n (zz (k+1))) (m:=u-1) (by simp[dS,qE,ae,vi,vl,fH]) (by simp[dU,qE,ae]) rfl (Nat.le_succ 2) (by omega)
      ⟨_,_,by omega,by simpa using V6,SK.set _ (by omega) (by omega),?_,rfl⟩
     have e:=jN (k+j) c (by omega);rw[Dl,htz Q9]at e;rw[GN Q9,hv]at sV;rw[<-Q9,e,hvk];clear e Dl;generalize val (List.take k l)=p1,val m=p2,val o'=p3 at *;generalize (4294967296:Int)^k=p4 at *;generalize (4294967296:Int)^(k+j)=p5 at *;grind
  ·have h:=of_decide_eq_false h
   rw[Kj];refine nd yJ ⟨_,hS.call hT,?_⟩;rw[eU (by omega)];generalize W .u32 (dg (val l*val m).toNat)=z at *;cbv;exact aC hF
end Go.Proofs.YtekefilngojelaaGreat
end
section
namespace Go.Abs
open Go.Abs.M
def mO (n:Nat) (r:Rows):Prop:=r=W .u32 (dg n)
structure eZ (x:Int) (s:Bool) (r:Rows):Prop where
 s:s=decide (x<0)
 m:mO x.natAbs r
theorem eZ.mk' (x:Int):eZ x (decide (x<0)) (W .u32 (dg x.natAbs)):=⟨rfl,rfl⟩
theorem eZ.of {x y:Int} {s:Bool} {r:Rows} (h:eZ x s r) (e:x=y):eZ y s r:=e▸h
theorem eZ.inj {x:Int} {s t:Bool} {r q:Rows} (h:eZ x s r) (h':eZ x t q):s=t/\r=q:=⟨h.s.trans h'.s.symm,h.m.trans h'.m.symm⟩
theorem mO.len {n:Nat} {r:Rows} (h:mO n r):r.length=nl n:=by rw[h,jr];rfl
end Go.Abs
end
section
namespace Go.Proofs.YtekefilngojelaaGreat
open Go Go.Abs Go.Abs.M Go.Proofs
theorem nS {n:Nat} {r:Abs.Rows} (s t:Bool) (hr:mO n r) (hl:nl n<=2199023255552) (ht:t=(s&&decide (n≠0))):aH 112 [.val (tb s),.val (tl r)] ⟨[.val (.agg (iT t r))],[none,none]⟩:=by
 have h:=HC s t hr hl (jz n) (by
  rw[jH,ht]
  by_cases h:n=0
  ·subst h;rfl
  ·rw[decide_eq_true h,decide_eq_true (by omega)])
 rw[jH,Int.toNat_natCast,<-hr]at h;exact h
theorem eZ.made {x:Int} {r:Abs.Rows} (hr:mO x.natAbs r) (t:Bool) (ht:t=decide (x<0)):eZ x t r:=⟨ht,hr⟩
theorem fY (n:Int) (h1:-9223372036854775808<=n) (h2:n<9223372036854775808):∃u w,eZ n u w/\aH 76 [.val (ti .i64 n)] ⟨[.val (.agg (iT u w))],[none]⟩:=by
 obtain⟨w,hw⟩:∃w,mO n.natAbs w:=⟨_,rfl⟩;have hl:nl n.natAbs<=2:=tU (by omega);have nT:=jZ n.natAbs (by omega) (by omega);rw[Int.toNat_natCast,show W .u32 (dg n.natAbs)=w from hw.symm]at nT;refine⟨_,w,⟨rfl,hw⟩,?_⟩;refine an ai mixed [.val] Tryz.func76 rfl rfl (by kernel_rfl) fun zD zE zG _ _ _ _ _ _ _ _ _ _ _ _ _ _ _ _ _ _ _ _ _ _ _ _ _ _ _ _ _ _ _ _ _ _ _ _ _ _ _ _ _ _ _ _ _ _ _ _ A L F hS hF=>?_
 have e1:n<0->zD .u64 (zE (zD .u64 (zD .i64 (zG 0 (zD .i64 (zE n 1))))) 1)=n.natAbs:=fun h=>by
  rw[hS.wrap,hS.wrap,hS.wrap,hS.wrap,hS.add,hS.sub,hS.add,wrap_i64 (x:=n+1) (by omega) (by omega),wrap_i64 (by omega) (by omega),eS (x:=0-(n+1)) (by omega) (by omega),eS (by omega) (by omega)];omega
 have e2:¬n<0->zD .u64 n=n.natAbs:=fun h=>by rw[hS.wrap,eS (by omega) (by omega)];omega
 have m1:=fun h=>nS true (decide (n<0)) hw (by omega) h
 have m2:=fun h=>nS false (decide (n<0)) hw (by omega) h
 cbv;refine⟨fun h=>?_,fun h=>?_⟩
 all_goals rw[hS.lt]at h
 ·have h':=of_decide_eq_true h
  rw[e1 h'];refine hS.cl nT ?_;have m:=m1 (by rw[h,decide_eq_true (by omega)];rfl);rw[h]at m hF;cbv;refine hS.cl m ?_;cbv;exact aC hF
 ·have h':=of_decide_eq_false h
  rw[e2 h'];refine hS.cl nT ?_;have m:=m2 (by rw[h];rfl);rw[h]at m hF;cbv;refine hS.cl m ?_;cbv;exact aC hF
theorem mi {x:Int} {s:Bool} {r:Abs.Rows} (c:Int) (hx:eZ x s r) (hc:c=bH x 0):aH 103 [.val (.agg (iT s r))] ⟨[.val (ti .i64 c)],[none]⟩:=by
 have hl:r.length=nl x.natAbs:=hx.m.len;have hz:=@jY x.natAbs;refine an ai mixed [.val] Tryz.func103 rfl rfl (by kernel_rfl) ?_;intros;rename_i A L F hS hF;cbv;rw[hx.s,hS.min,hS.az,hS.len,hl];refine⟨fun h=>bc hF (kx ?_),fun h=>bc hF (kx ?_)⟩
 ·rw[hc,gg (of_decide_eq_true h)]
 ·have:=of_decide_eq_false h
  by_cases h0:x=0
  ·subst h0;rw[hc];rfl
  ·rw[hc,iN (by omega)];split<;>omega
theorem Fu {x y:Int}:bH (-x) (-y)=bH y x:=by
 unfold bH
 by_cases h:x<y
 ·rw[if_neg (by omega),if_pos (by omega),if_neg (by omega),if_pos h]
 ·by_cases h':y<x
  ·rw[if_pos (by omega),if_pos h']
  ·rw[if_neg (by omega),if_neg (by omega),if_neg h',if_neg h]
theorem AX {x y:Int} {s t:Bool} {r q:Abs.Rows} (c:Int) (hx:eZ x s r) (hy:eZ y t q) (hc:c=bH x y) (h1:nl x.natAbs<=2199023255552) (h2:nl y.natAbs<=2199023255552) :
  aH 134 [.val (.agg (iT s r)),.val (.agg (iT t q))] ⟨[.val (ti .i64 c)],[none,none]⟩:=by
 have c1:=V3 (bH x.natAbs y.natAbs) hx.m hy.m h1 h2 (jz _) (jz _) (jl _) (jl _) (by rw[jH,jH]);have c2:=V3 (bH y.natAbs x.natAbs) hy.m hx.m h2 h1 (jz _) (jz _) (jl _) (jl _) (by rw[jH,jH]);have n1:x<0->y<0->bH y.natAbs x.natAbs=c:=fun h h'=>by rw[show(y.natAbs:Int)=-y by omega,show(x.natAbs:Int)=-x by omega,Fu,hc]
 have n2:¬x<0->¬y<0->bH x.natAbs y.natAbs=c:=fun h h'=>by rw[show(y.natAbs:Int)=y by omega,show(x.natAbs:Int)=x by omega,hc]
 have n3:x<0->¬y<0->-1=c:=fun h h'=>by rw[hc,gg (by omega)]
 have n4:¬x<0->y<0->1=c:=fun h h'=>by rw[hc,iN (by omega)]
 have hs:=hx.s;have ht:=hy.s;generalize bH x.natAbs y.natAbs=u,bH y.natAbs x.natAbs=v at *
 by_cases J6:x<0
 ·rw[decide_eq_true J6]at hs
  subst hs
  by_cases qF:y<0
  ·rw[decide_eq_true qF]at ht
   subst ht;refine an ai mixed [.val] Tryz.func134 rfl rfl (by kernel_rfl) ?_;intros;rename_i A L F hS hF;cbv;refine bT rfl (bF (hS.not _) (bF (hS.not _) (bT rfl ⟨_,hS.call c2,?_⟩)));cbv;exact bc hF (kx (n1 J6 qF))
  ·rw[decide_eq_false qF]at ht
   subst ht;refine an ai mixed [.val] Tryz.func134 rfl rfl (by kernel_rfl) ?_;intros;rename_i A L F hS hF;cbv;exact bT rfl (bT (hS.not _) (bc hF (kx (n3 J6 qF))))
 ·rw[decide_eq_false J6]at hs
  subst hs
  by_cases qF:y<0
  ·rw[decide_eq_true qF]at ht
   subst ht;refine an ai mixed [.val] Tryz.func134 rfl rfl (by kernel_rfl) ?_;intros;rename_i A L F hS hF;cbv;exact bF rfl (bT (hS.not _) (bT rfl (bc hF (kx (n4 J6 qF)))))
  ·rw[decide_eq_false qF]at ht
   subst ht;refine an ai mixed [.val] Tryz.func134 rfl rfl (by kernel_rfl) ?_;intros;rename_i A L F hS hF;cbv;refine bF rfl (bT (hS.not _) (bF rfl (bF rfl ⟨_,hS.call c1,?_⟩)));cbv;exact bc hF (kx (n2 J6 qF))
theorem AY {x:Int} {s:Bool} {r:Abs.Rows} (hx:eZ x s r) (h1:nl x.natAbs<=2199023255552):∃u w,eZ (-x) u w/\aH 133 [.val (.agg (iT s r))] ⟨[.val (.agg (iT u w))],[none]⟩:=by
 obtain⟨u,hu⟩:=aq (decide (-x<0));refine⟨u,r,⟨hu,by rw[Int.natAbs_neg];exact hx.m⟩,?_⟩;have m:=nS (!s) u hx.m h1 (by
  rw[hu,hx.s];rcases Int.lt_trichotomy x 0 with h|h|h
  ·rw[decide_eq_true h,decide_eq_false (by omega)];rfl
  ·subst h;rfl
  ·rw[decide_eq_true (show -x<0 by omega),decide_eq_false (show ¬x<0 by omega),decide_eq_true (show x.natAbs≠0 by omega)];rfl)
 refine an ai mixed [.val] Tryz.func133 rfl rfl (by kernel_rfl) ?_;intros;rename_i A L F hS hF;cbv;rw[hS.not];refine hS.cl m ?_;cbv;exact aC hF
theorem AZ {x y:Int} {s t:Bool} {r q:Abs.Rows} (hx:eZ x s r) (hy:eZ y t q) (h1:nl x.natAbs<=549755813888) (h2:nl y.natAbs<=549755813888) :
  ∃u w,eZ (x+y) u w/\aH 102 [.val (.agg (iT s r)),.val (.agg (iT t q))] ⟨[.val (.agg (iT u w))],[none,none]⟩:=by
 obtain⟨u,hu⟩:=aq (decide (x+y<0));obtain⟨w,hw⟩:∃w,mO (x+y).natAbs w:=⟨_,rfl⟩;refine⟨u,w,⟨hu,hw⟩,?_⟩;have hb:nl (x+y).natAbs<=1099511627776:=by
  have a:=Fp (show(x+y).natAbs<=x.natAbs+y.natAbs by omega);have b:=xm x.natAbs y.natAbs;omega
 have hs:=hx.s;have ht:=hy.s;have cc:=V3 (bH x.natAbs y.natAbs) hx.m hy.m (by unfold nl at h1;omega) (by unfold nl at h2;omega) (jz _) (jz _) (jl _) (jl _) (by rw[jH,jH]);have ca:=uQ hx.m hy.m (by unfold nl at h1;omega) (by unfold nl at h2;omega) (jz _) (jz _);have t1:=fun h h'=>nP hx.m hy.m (by unfold nl at h1;omega) h (jz _) (jz _) h'
 have t2:=fun h h'=>nP hy.m hx.m (by unfold nl at h2;omega) h (jz _) (jz _) h'
 simp only[jH]at ca t1 t2;have m:∀s',u=(s'&&decide ((x+y).natAbs≠0))->_:=fun s' h=>nS s' u hw (by omega) h
 by_cases dR:s=t
 ·have e1:W .u32 (dg ((x.natAbs:Int)+y.natAbs).toNat)=w:=by
   rw[hw];congr 2;rw[hs,ht]at dR
   by_cases h:x<0
   ·rw[decide_eq_true h]at dR;have:=of_decide_eq_true dR.symm;omega
   ·rw[decide_eq_false h]at dR;have:=of_decide_eq_false dR.symm;omega
  have ms:=m s (by
   rw[hs,hu];rw[hs,ht]at dR
   by_cases h:x<0
   ·rw[decide_eq_true h]at dR ⊢;have:=of_decide_eq_true dR.symm;rw[decide_eq_true (by omega),decide_eq_true (by omega)];rfl
   ·rw[decide_eq_false h]at dR ⊢;have:=of_decide_eq_false dR.symm;rw[decide_eq_false (by omega)];rfl)
  rw[e1]at ca;clear t1 t2 m cc;refine an ai mixed [.val] Tryz.func102 rfl rfl (by kernel_rfl) ?_;intros;rename_i A L F hS hF;cbv;refine bT (by rw[hS.beq];simpa using dR) ⟨_,hS.call ca,?_⟩;cbv;refine hS.cl ms ?_;cbv;exact aC hF
 ·have Pq:(decide (x<0))≠decide (y<0):=by rw[<-hs,<-ht];exact dR
  by_cases bJ:x.natAbs<y.natAbs
  ·have e1:W .u32 (dg ((y.natAbs:Int)-x.natAbs).toNat)=w:=by
    rw[hw];congr 2
    by_cases h:x<0<;>by_cases h':y<0<;>simp[h,h']at Pq<;>omega
   have c:=t2 (show nl x.natAbs<=nl y.natAbs from Fp (by omega)) (by omega);rw[e1]at c;have ms:=m t (by
    rw[ht,hu];rw[Bool.eq_iff_iff]
    by_cases h:x<0<;>by_cases h':y<0<;>simp[h,h']at Pq<;>simp[h']<;>omega)
   have hcv:bH (x.natAbs:Int) y.natAbs=-1:=gg (by omega);rw[hcv]at cc;clear t1 t2 m ca;refine an ai mixed [.val] Tryz.func102 rfl rfl (by kernel_rfl) ?_;intros;rename_i A L F hS hF;cbv;refine bF (by rw[hS.beq];simpa using dR) ⟨_,hS.call cc,?_⟩;cbv;refine bT (by rw[hS.lt];rfl) ⟨_,hS.call c,?_⟩;cbv;refine hS.cl ms ?_;cbv;exact aC hF
  ·have e1:W .u32 (dg ((x.natAbs:Int)-y.natAbs).toNat)=w:=by
    rw[hw];congr 2
    by_cases h:x<0<;>by_cases h':y<0<;>simp[h,h']at Pq<;>omega
   have c:=t1 (show nl y.natAbs<=nl x.natAbs from Fp (by omega)) (by omega);rw[e1]at c;have ms:=m s (by
    rw[hs,hu];rw[Bool.eq_iff_iff]
    by_cases h:x<0<;>by_cases h':y<0<;>simp[h,h']at Pq<;>simp[h]<;>omega)
   obtain⟨v,hv,OP⟩:∃v,bH (x.natAbs:Int) y.natAbs=v/\¬v<0:=⟨_,rfl,by
    unfold bH;rw[if_neg (by omega)];split<;>omega⟩
   rw[hv]at cc;clear t1 t2 m ca;refine an ai mixed [.val] Tryz.func102 rfl rfl (by kernel_rfl) ?_;intros;rename_i A L F hS hF;cbv;refine bF (by rw[hS.beq];simpa using dR) ⟨_,hS.call cc,?_⟩;cbv;refine bF (dF (hS.lt ..) OP) ⟨_,hS.call c,?_⟩;cbv;refine hS.cl ms ?_;cbv;exact aC hF
theorem Kk {x y:Int} {s t:Bool} {r q:Abs.Rows} (hx:eZ x s r) (hy:eZ y t q) (h1:nl x.natAbs<=549755813888) (h2:nl y.natAbs<=549755813888) :
  ∃u w,eZ (x*y) u w/\aH 96 [.val (.agg (iT s r)),.val (.agg (iT t q))] ⟨[.val (.agg (iT u w))],[none,none]⟩:=by
 obtain⟨u,hu⟩:=aq (decide (x*y<0));obtain⟨w,hw⟩:∃w,mO (x*y).natAbs w:=⟨_,rfl⟩;refine⟨u,w,⟨hu,hw⟩,?_⟩;have hb:nl (x*y).natAbs<=1099511627776:=by
  rw[Int.natAbs_mul];have b:=vL x.natAbs y.natAbs;omega
 have hs:=hx.s;have ht:=hy.s;have c:=nQ hx.m hy.m (by unfold nl at h1;omega) (by unfold nl at h2;omega) (jz _) (jz _);simp only[jH]at c;have e1:W .u32 (dg ((x.natAbs:Int)*y.natAbs).toNat)=w:=by
  rw[hw];congr 2;rw[Int.natAbs_mul];have:((x.natAbs:Int)*y.natAbs)=((x.natAbs*y.natAbs:Nat):Int):=by push_cast;rfl
  omega
 rw[e1]at c;have ms:=nS (!(s==t)) u hw (by omega) (by
  rw[hu,hs,ht];rcases Int.lt_trichotomy x 0 with h|h|h
  ·rcases Int.lt_trichotomy y 0 with h'|h'|h'
   ·have:=Int.mul_pos_of_neg_of_neg h h'
    simp[h,h'];omega
   ·subst h';simp
   ·have:=Int.mul_neg_of_neg_of_pos h h'
    have h2:¬y<0:=by omega
    simp[h,h2,this];omega
  ·subst h;simp
  ·rcases Int.lt_trichotomy y 0 with h'|h'|h'
   ·have:=Int.mul_neg_of_pos_of_neg h h'
    have h2:¬x<0:=by omega
    simp[h',h2,this];omega
   ·subst h';simp
   ·have:=Int.mul_pos h h'
    have h2:¬x<0:=by omega
    have h3:¬y<0:=by omega
    have h4:¬x*y<0:=by omega
    simp[h2,h3,h4])
 refine an ai mixed [.val] Tryz.func96 rfl rfl (by kernel_rfl) ?_;intros;rename_i A L F hS hF;cbv;refine hS.cl c ?_;cbv;rw[hS.bne];refine hS.cl ms ?_;cbv;exact aC hF
end Go.Proofs.YtekefilngojelaaGreat
end
section
namespace Go.Abs.M
structure Kn (U V t u2 v1 v2 P lo lv:Int):Prop where
 hP:0<P
 hU:U=(t*4294967296+u2)*P+lo
 hV:V=(v1*4294967296+v2)*P+lv
 Og:0<=lo/\lo<P
 Pr:0<=lv/\lv<P
 yK:0<=u2/\u2<4294967296
 EE:0<=v2/\v2<4294967296
 Al:2147483648<=v1/\v1<4294967296
 ht:0<=t
 bJ:U<V*4294967296
section
variable {U V t u2 v1 v2 P lo lv q g:Int}
theorem Kn.aaE (h:Kn U V t u2 v1 v2 P lo lv):t<(v1+1)*4294967296:=by
 obtain⟨hP,hU,hV,Og,Pr,yK,EE,Al,ht,bJ⟩:=h;rcases Int.lt_or_le t ((v1+1)*4294967296) with h|h
 ·exact h
 ·exfalso
  have e1:(v1+1)*4294967296*4294967296*P<=(t*4294967296+u2)*P:=Int.mul_le_mul_of_nonneg_right (by omega) (by omega);have e2:(v1*4294967296+v2+1)*P<=(v1+1)*4294967296*P:=Int.mul_le_mul_of_nonneg_right (by omega) (by omega);have e3:(v1*4294967296+v2+1)*P=(v1*4294967296+v2)*P+P:=by grind
  have e4:(v1+1)*4294967296*4294967296*P=(v1+1)*4294967296*P*4294967296:=by grind
  omega
theorem Kn.first (h:Kn U V t u2 v1 v2 P lo lv) (hq:q*V<=U) (Kl:0<=q):q<=t/v1:=by
 obtain⟨hP,hU,hV,Og,Pr,yK,EE,Al,ht,bJ⟩:=h;refine Int.le_ediv_of_mul_le (by omega) ?_;rcases Int.lt_or_le t (q*v1) with h|h
 ·exfalso
  have e1:(t+1)*(4294967296*P)<=q*v1*(4294967296*P):=Int.mul_le_mul_of_nonneg_right (by omega) (by omega);have e2:q*(v1*4294967296*P)<=q*V:=Int.mul_le_mul_of_nonneg_left (by
   have:0<=v2*P:=Int.mul_nonneg (by omega) (by omega);have e:(v1*4294967296+v2)*P=v1*4294967296*P+v2*P:=by grind
   omega) Kl
  have e3:q*v1*(4294967296*P)=q*(v1*4294967296*P):=by grind
  have e4:(t+1)*(4294967296*P)=t*4294967296*P+4294967296*P:=by grind
  have e5:(t*4294967296+u2)*P=t*4294967296*P+u2*P:=by grind
  have e6:(u2+1)*P<=4294967296*P:=Int.mul_le_mul_of_nonneg_right (by omega) (by omega);have e7:(u2+1)*P=u2*P+P:=by grind
  omega
 ·exact h
theorem Kn.down (h:Kn U V t u2 v1 v2 P lo lv) (hq:q*V<=U) (hg:0<=g) (hqg:q<=g) (Ps:(t-g*v1)*4294967296+u2<g*v2):q<=g-1:=by
 obtain⟨hP,hU,hV,Og,Pr,yK,EE,Al,ht,bJ⟩:=h;rcases Int.lt_or_le q g with h|h
 ·omega
 ·exfalso
  obtain rfl:q=g:=by omega
  have e1:(t*4294967296+u2+1)*P<=(q*(v1*4294967296+v2))*P:=Int.mul_le_mul_of_nonneg_right (by grind) (by omega);have e2:q*((v1*4294967296+v2)*P)<=q*V:=Int.mul_le_mul_of_nonneg_left (by omega) hg;have e3:(q*(v1*4294967296+v2))*P=q*((v1*4294967296+v2)*P):=by grind
  have e4:(t*4294967296+u2+1)*P=(t*4294967296+u2)*P+P:=by grind
  omega
theorem Kn.V7 (h:Kn U V t u2 v1 v2 P lo lv) (Fv:0<=g) (hg:g<=4294967296) (acu:g*v2<=(t-g*v1)*4294967296+u2):(g-1)*V<=U:=by
 obtain⟨hP,hU,hV,Og,Pr,yK,EE,Al,ht,bJ⟩:=h;rcases Int.lt_or_le 0 g with h0|h0
 ·have e1:(g*(v1*4294967296+v2))*P<=(t*4294967296+u2)*P:=Int.mul_le_mul_of_nonneg_right (by grind) (by omega)
  have e2:(g-1)*V<=(g-1)*((v1*4294967296+v2+1)*P):=Int.mul_le_mul_of_nonneg_left (by
   have:(v1*4294967296+v2+1)*P=(v1*4294967296+v2)*P+P:=by grind
   omega) (by omega)
  have e3:(g-1)*((v1*4294967296+v2+1)*P)=(g*(v1*4294967296+v2))*P-(v1*4294967296+v2+1-g)*P:=by grind
  have e4:0<=(v1*4294967296+v2+1-g)*P:=Int.mul_nonneg (by omega) (by omega);omega
 ·obtain rfl:g=0:=by omega
  have SM:0<=V:=by
   have:0<=(v1*4294967296+v2)*P:=Int.mul_nonneg (by omega) (by omega);omega
  have:0<=(t*4294967296+u2)*P:=Int.mul_nonneg (by omega) (by omega);omega
end
theorem V8 {u v:List Int} {n:Nat} (hn:2<=n) (hu:u.length=n+1) (hv:v.length=n) (vN:Wd u) (yL:Wd v) (kI:2147483648<=v.getD (n-1) 0) (bJ:val u<val v*4294967296) :
  Kn (val u) (val v) (u.getD n 0*4294967296+u.getD (n-1) 0) (u.getD (n-2) 0) (v.getD (n-1) 0) (v.getD (n-2) 0) (4294967296^(n-2)) (val (u.take (n-2))) (val (v.take (n-2))):=by
 have a:=Pp u (n-2) (by omega);rw[Ki (by omega),Ki (by omega),Ki (by omega),show n-2+1=n-1 by omega,show n-1+1=n by omega,List.drop_of_length_le (by omega)]at a;have b:=Pp v (n-2) (by omega);rw[Ki (by omega),Ki (by omega),show n-2+1=n-1 by omega,show n-1+1=n by omega,List.drop_of_length_le (by omega)]at b;have l1:=Di (vN.take (n-2));have l2:=Di (yL.take (n-2));rw[List.length_take,Nat.min_eq_left (by omega)]at l1 l2
 have g1:=vN.get n;have g2:=vN.get (n-1);have g3:=vN.get (n-2);have g4:=yL.get (n-1);have g5:=yL.get (n-2);simp only[val]at a b;refine⟨yj _,?_,?_,⟨sZ (vN.take _),l1⟩,⟨sZ (yL.take _),l2⟩,g3,g5,⟨kI,g4.2⟩,by omega,bJ⟩
 ·rw[a];grind
 ·rw[b];grind
theorem uR {p t vo vu qv a m c br q pr:Int} (h:vo=vu-qv+(br+c)*p) (hp:pr=q*m+c) (ht:t=4294967296+a-pr%4294967296-br) :
  vo+p*(t%4294967296)=(vu+p*a)-(qv+q*(p*m))+(1-t/4294967296+pr/4294967296)*(p*4294967296):=by
 have e1:t%4294967296+4294967296*(t/4294967296)=t:=Int.emod_add_mul_ediv t 4294967296;have e2:pr%4294967296+4294967296*(pr/4294967296)=pr:=Int.emod_add_mul_ediv pr 4294967296;generalize t%4294967296=r,t/4294967296=k,pr%4294967296=r',pr/4294967296=k' at *;grind
def yO:Nat->Int->List Int
 | 0,_=>[]
 | n+1,x=>x%4294967296::yO n (x/4294967296)
theorem Pt:∀(n:Nat) (x:Int),(yO n x).length=n
 | 0,_=>rfl
 | n+1,x=>by simp[yO,Pt n]
theorem tV:∀(n:Nat) (x:Int),Wd (yO n x)
 | 0,_=>Wd.nil
 | n+1,x=>Wd.cons (by omega) (by omega) (tV n _)
theorem HF (x p:Int) (hp:0<p):x%(p*4294967296)=x%4294967296+4294967296*(x/4294967296%p):=by
 have e1:=Int.emod_add_mul_ediv x 4294967296;have e2:=Int.emod_add_mul_ediv (x/4294967296) p;have b1:=Int.emod_nonneg x (show(4294967296:Int)≠0 by omega);have b2:=Int.emod_lt_of_pos x (show(0:Int)<4294967296 by omega);have b3:=Int.emod_nonneg (x/4294967296) (show p≠0 by omega);have b4:=Int.emod_lt_of_pos (x/4294967296) hp;generalize x%4294967296=r,x/4294967296%p=s,x/4294967296/p=k at *;generalize x/4294967296=y at *
 have hx:x=(r+4294967296*s)+p*4294967296*k:=by grind
 rw[hx,Int.add_mul_emod_self_left,Int.emod_eq_of_lt (by omega) (by
  have:4294967296*(s+1)<=4294967296*p:=Int.mul_le_mul_of_nonneg_left (by omega) (by omega);have e:4294967296*(s+1)=4294967296*s+4294967296:=by omega
  have e':p*4294967296=4294967296*p:=Int.mul_comm ..;omega)]
theorem oH:∀(n:Nat) (x:Int),val (yO n x)=x%4294967296^n
 | 0,x=>by simp[yO,val,Int.emod_one]
 | n+1,x=>by
  rw[yO,val,oH n,Int.pow_succ,HF x _ (yj n)]
theorem val_inj:∀ {l m:List Int},Wd l->Wd m->l.length=m.length->val l=val m->l=m
 | [],[],_,_,_,_=>rfl
 | [],_::_,_,_,h,_=>by simp at h
 | _::_,[],_,_,h,_=>by simp at h
 | x::l,y::m,hl,hm,h,hv=>by
  have a:=hl.head;have b:=hm.head;simp only[val]at hv;obtain⟨rfl,sV⟩:x=y/\val l=val m:=by omega
  rw[val_inj hl.tail hm.tail (by simpa using h) sV]
theorem Dm {l:List Int} {n:Nat} {x b:Int} (hw:Wd l) (hl:l.length=n) (hv:val l=x+b*4294967296^n):l=yO n x:=by
 refine val_inj hw (tV _ _) (by rw[hl,Pt]) ?_;rw[oH];have h1:=sZ hw;have h2:=Di hw;rw[hl]at h2;have:x=val l+4294967296^n*(-b):=by grind
 rw[this,Int.add_mul_emod_self_left,Int.emod_eq_of_lt h1 h2]
theorem SN {n:Nat} {x:Int} (h0:0<=x) (h1:x<4294967296^n):val (yO n x)=x:=by rw[oH,Int.emod_eq_of_lt h0 h1]
def kA (v1 v2 u2:Int):Nat->Int->Int->Int
 | 0,q,_=>q
 | f+1,q,e=>if 4294967296<=q∨e*4294967296+u2<q*v2 then(if 4294967296<=e+v1 then q-1 else kA v1 v2 u2 f (q-1) (e+v1)) else q
theorem uS {U V t u2 v1 v2 P lo lv q:Int} (h:Kn U V t u2 v1 v2 P lo lv) (hq:q*V<=U) (Kl:0<=q) (hqB:q<4294967296) :
  ∀(f:Nat) (g e:Int),e=t-g*v1->0<=e->e<4294967296->4294967296<=e+f*v1->q<=g->g<=4294967297 ->
   q<=kA v1 v2 u2 f g e/\kA v1 v2 u2 f g e<=4294967296/\(kA v1 v2 u2 f g e-1)*V<=U
 | 0,g,e,he,h0,h1,h2,h3,h4=>by simp at h2;omega
 | f+1,g,e,he,h0,h1,h2,h3,h4=>by
  have Al:=h.Al;have yK:=h.yK;have EE:=h.EE;simp only[kA]
  by_cases Ps:4294967296<=g∨e*4294967296+u2<g*v2
  ·rw[if_pos Ps]
   have VX:q<=g-1:=by
    rcases Ps with hb|hb
    ·omega
    ·exact h.down hq (by omega) h3 (by rw[<-he];exact hb)
   by_cases V9:4294967296<=e+v1
   ·rw[if_pos V9]
    refine⟨VX,by omega,h.V7 (by omega) (by omega) ?_⟩;have e1:t-(g-1)*v1=e+v1:=by grind
    rw[e1];have:(g-1)*v2<=4294967296*v2:=Int.mul_le_mul_of_nonneg_right (by omega) EE.1;omega
   ·rw[if_neg V9]
    exact uS h hq Kl hqB f (g-1) (e+v1) (by grind) (by omega) (by omega) (by
     have:((f+1:Nat):Int)*v1=f*v1+v1:=by push_cast;grind
     omega) VX (by omega)
  ·rw[if_neg Ps]
   have mZ:g<4294967296:=by omega
   have nk:g*v2<=e*4294967296+u2:=by omega
   exact⟨h3,by omega,h.V7 (by omega) (by omega) (by rw[<-he];exact nk)⟩
def tW (v1 v2 u2 t:Int):Int:=kA v1 v2 u2 3 (t/v1) (t%v1)
theorem Fw {U V t u2 v1 v2 P lo lv q:Int} (h:Kn U V t u2 v1 v2 P lo lv) (hq:q*V<=U) (Kl:0<=q) (hqB:q<4294967296) :
  q<=tW v1 v2 u2 t/\tW v1 v2 u2 t<=4294967296/\(tW v1 v2 u2 t-1)*V<=U:=by
 have Al:=h.Al;have e:=Int.emod_add_mul_ediv t v1;have b1:=Int.emod_nonneg t (show v1≠0 by omega);have b2:=Int.emod_lt_of_pos t (show 0<v1 by omega);refine uS h hq Kl hqB 3 (t/v1) (t%v1) (by grind) b1 (by omega) (by push_cast;omega) (h.first hq Kl) ?_;have:=h.aaE;have:t/v1<4294967298:=Int.ediv_lt_of_lt_mul (by omega) (by omega);omega
end Go.Abs.M
end
section
namespace Go.Proofs.YtekefilngojelaaGreat
open Go Go.Abs Go.Abs.M Go.Proofs
def qG (r s:Abs.Rows) (len:Nat) (g c b i:Int):St:=ae 49 [.c (.sl 0 0 len false),vl s,vi .u64 g,.af,.af,.af,vb false,vi .u64 c,vi .u64 b,vi .i64 i] [some (.rows 1 r false false),none,none]
theorem Dn {r s r':Abs.Rows} {u v:List Int} (g:Int) (b:Bool) (hr:r=W .u32 u) (hs:s=W .u32 v) (GL:u.length<=1099511627776) (X7:v.length<u.length) (vN:Wd u) (yL:Wd v) (Fv:0<=g) (hg:g<=4294967296)
  (vx:r'=W .u32 (yO u.length (val u-g*val v))) (hb:b=decide (val u-g*val v<0)) :
  aH 155 [.fu 1 r,.val (tl s),.val (ti .u64 g)] ⟨[.val (tb b)],[some (.rows 1 r' false false),none,none]⟩:=by
 obtain⟨n,hn⟩:=aq (u.length:Nat);refine an ai mixed [.val] Tryz.func155 rfl rfl (by kernel_rfl) fun zD zE zG zH zI zJ _ _ _ _ _ _ zT _ _ _ _ _ _ _ _ _ zy zz bg ay _ _ _ _ _ ab _ _ aL ar aR _ _ _ _ _ _ _ _ _ _ _ _ zW _ A L F hS hF=>?_
 have h1:ab r=n:=by rw[hS.len,hr,jr,hn]
 have Yh:r=zW .u32 u:=by rw[hS.W];exact hr
 cbv;rw[h1];refine fW ai mixed hS (fun(j:Nat) s'=>∃(k:Nat) (o:List Int) (c b:Int),k+j=n/\o.length=n/\Wd o/\(0<=c/\c<4294967296)/\(0<=b/\b<=1)/\(k=n->c=0)/\o.drop k=u.drop k/\val (o.take k)=val (u.take k)-g*val (v.take k)+(b+c)*4294967296^k/\s'=qG (zW .u32 o) s n g c b (zz k)) (n:=n)
  (s0:=qG (zW .u32 u) s n g 0 0 (zz 0)) (fy ?_ ?_) rfl (Nat.le_refl 3) ?_ ?_
 ·simp[dS,qG,ae,vi,vl,vb,hS.az]
 ·simp[dU,qG,ae,Yh]
 ·exact⟨0,u,0,0,by omega,hn.symm,vN,by omega,by omega,fun _=>rfl,rfl,by simp[val],rfl⟩
 ·rintro j _ ⟨k,o,c,b',hk,ho,hw,hc,bQ,hcz,I4,hv,rfl⟩
  have ga:=vN.get k;have gv:=yL.get k;have MN:=gC (zz k) hs (by omega) yL (by rw[hS.az];omega);rw[show(zz k).toNat=k by rw[hS.az];omega]at MN;have Vt:0<=g*v.getD k 0/\g*v.getD k 0<=4294967296*4294967295:=⟨Int.mul_nonneg Fv gv.1,Int.mul_le_mul hg (by omega) gv.1 (by omega)⟩;obtain⟨pr,Uw⟩:=aq (g*v.getD k 0+c);obtain⟨t,ht⟩:=aq (4294967296+u.getD k 0-pr%4294967296-b');have dR:=uR hv Uw ht
  have e5:bg 0 (zz k)=k:=by rw[hS.idx,hS.az];omega
  have je:k<n->o.getD k 0=u.getD k 0:=fun h=>by
   have:=congrArg (fun y=>List.getD y 0 0) I4;simpa[List.getD_eq_getElem?_getD]using this
  have e0:k<n->ar (zW .u32 o) k=u.getD k 0:=fun h=>by rw[hS.dK,hS.W,m8,je h]
  have eu:zD .u64 (u.getD k 0)=u.getD k 0:=by rw[hS.wrap,eS (by omega) (by omega)]
  have f1:zD .u64 (zE (zD .u64 (zH g (v.getD k 0))) c)=pr:=by
   rw[hS.wrap,hS.wrap,hS.mul,hS.add,eS (x:=g*v.getD k 0) (by omega) (by omega),eS (by omega) (by omega),Uw]
  have f2:zJ pr 4294967296=pr%4294967296:=by rw[hS.rem,Int.tmod_eq_emod_of_nonneg (by omega)]
  have f3:zD .u64 (zI pr 4294967296)=pr/4294967296:=by rw[hS.quo,Int.tdiv_eq_ediv_of_nonneg (by omega),hS.wrap];exact eS (by omega) (by omega)
  have e1:zD .u64 (zG (zD .u64 (zG (zD .u64 (zE 4294967296 (u.getD k 0))) (zJ pr 4294967296))) b')=t:=by
   rw[f2,hS.wrap,hS.wrap,hS.wrap,hS.add,hS.sub,hS.sub,eS (x:=4294967296+u.getD k 0) (by omega) (by omega),eS (x:=4294967296+u.getD k 0-pr%4294967296) (by omega) (by omega),eS (by omega) (by omega),ht]
  have e2:zD .u32 (zJ t 4294967296)=t%4294967296:=by rw[hS.rem,Int.tmod_eq_emod_of_nonneg (by omega),hS.wrap];exact LB (by omega) (by omega)
  have e3:zD .u64 (zG 1 (zD .u64 (zI t 4294967296)))=1-t/4294967296:=by rw[hS.quo,Int.tdiv_eq_ediv_of_nonneg (by omega),hS.wrap,hS.wrap,eS (x:=t/4294967296) (by omega) (by omega),hS.sub];exact eS (by omega) (by omega)
  have e4:k<n->zD .i64 (zE (zz k) 1)=zz (k+1):=fun h=>by rw[hS.wrap,hS.add,hS.az,hS.az,wrap_i64 (by omega) (by omega)];omega
  have e6:=mg hS.lt hS.az k n;have e7:∀x,aR .u32 (zW .u32 o) k x=zW .u32 (o.set k x):=fun x=>by rw[hS.oW,hS.W,pC]
  have e8:k<n->zy (zz k) n=true:=fun h=>by rw[hS.yC,hS.az];exact decide_eq_true (by omega)
  have e9:k<n->aL .u32 (zW .u32 o) k=true:=fun h=>by rw[hS.gM,hS.W,kY];exact decide_eq_true (by omega)
  have yJ:ay (ab (zW .u32 o)) (ab r)=true:=by rw[h1,hS.neq,hS.len,hS.W,jr];exact decide_eq_true (by omega)
  have eU:k=n->W .u32 o=r'/\zT b' 1=b:=fun h=>by
   subst h;rw[List.take_of_length_le (by omega),List.take_of_length_le (by omega),List.take_of_length_le (by omega),hcz rfl,Int.add_zero]at hv;refine⟨?_,?_⟩
   ·rw[vx,<-hn,Dm hw ho hv]
   ·rw[hb,hS.eq]
    have b1:=Di hw;rw[ho]at b1;have b2:=sZ hw;rcases(show b'=0∨b'=1 by omega) with rfl|rfl
    ·rw[decide_eq_false (by omega),decide_eq_false (by omega)]
    ·rw[decide_eq_true rfl,decide_eq_true (by omega)]
  have jN:k<n->val ((o.set k (t%4294967296)).take (k+1))=val (o.take k)+4294967296^k*(t%4294967296):=fun h=>Q6 _ (by omega)
  have A5:k+1=n->pr/4294967296=0:=fun h=>by
   rw[Uw,List.getD_eq_getElem?_getD,List.getElem?_eq_none (by omega)];simp only[Option.getD_none,Int.mul_zero];omega
  have aaG:0<=pr/4294967296/\pr/4294967296<4294967296:=by omega
  have Uv:0<=1-t/4294967296/\1-t/4294967296<=1:=by omega
  clear Vt Uw ht;generalize Oo:u.getD k 0=a at *;generalize I3:v.getD k 0=m at *;cbv;refine⟨fun h=>?_,fun h=>nd yJ ?_⟩
  all_goals rw[e6]at h
  ·have h:=of_decide_eq_true h
   refine hS.cl MN ?_;cbv;rw[e5,e0 h,eu,f1,f3,e1,e2,e3,e4 h,e7];refine nd (e8 h) (nd (e9 h) (nd (e8 h) (nd (e9 h) ?_)));refine again (s':=qG (zW .u32 (o.set k (t%4294967296))) s n g (pr/4294967296) (1-t/4294967296) (zz (k+1))) (m:=j-1) (by simp[dS,qG,ae,vi,vl,vb]) (by simp[dU,qG,ae]) rfl (Nat.le_refl 3) (by omega)
    ⟨_,_,_,_,by omega,by simpa using ho,hw.set _ (by omega) (by omega),aaG,Uv,A5,?_,?_,rfl⟩
   ·rw[SI]
    have:=congrArg (List.drop 1) I4;simpa[List.drop_drop]using this
   ·rw[jN h,Eh u,Eh v,Int.pow_succ,Oo,I3,dR,Int.mul_add]
  ·have h:=of_decide_eq_false h
   obtain⟨z1,z2⟩:=eU (by omega);rw[z2,hS.W,z1];exact aC hF
def qH (r s:Abs.Rows) (len:Nat) (c i:Int):St:=ae 32 [.c (.sl 0 0 len false),vl s,.af,.af,vi .u64 c,vi .i64 i] [some (.rows 1 r false false),none]
theorem yP {r s r':Abs.Rows} {u v:List Int} (hr:r=W .u32 u) (hs:s=W .u32 v) (GL:u.length<=1099511627776) (X7:v.length<=u.length) (vN:Wd u) (yL:Wd v)
  (vx:r'=W .u32 (yO u.length (val u+val v))) :
  aH 156 [.fu 1 r,.val (tl s)] ⟨[],[some (.rows 1 r' false false),none]⟩:=by
 obtain⟨n,hn⟩:=aq (u.length:Nat);refine an ai mixed [] Tryz.func156 rfl rfl (by kernel_rfl) fun zD zE _ _ zI zJ _ _ _ _ _ _ _ _ _ _ _ _ _ _ _ _ zy zz bg ay _ _ _ _ _ ab _ _ aL ar aR _ _ _ _ _ _ _ _ _ _ _ _ zW _ A L F hS hF=>?_
 have h1:ab r=n:=by rw[hS.len,hr,jr,hn]
 have Yh:r=zW .u32 u:=by rw[hS.W];exact hr
 cbv;rw[h1];refine fW ai mixed hS (fun(j:Nat) s'=>∃(k:Nat) (o:List Int) (c:Int),k+j=n/\o.length=n/\Wd o/\(0<=c/\c<=1)/\o.drop k=u.drop k/\val (o.take k)+c*4294967296^k=val (u.take k)+val (v.take k)/\s'=qH (zW .u32 o) s n c (zz k)) (n:=n)
  (s0:=qH (zW .u32 u) s n 0 (zz 0)) (fy ?_ ?_) rfl (Nat.le_refl 2) ?_ ?_
 ·simp[dS,qH,ae,vi,vl,vb,hS.az]
 ·simp[dU,qH,ae,Yh]
 ·exact⟨0,u,0,by omega,hn.symm,vN,by omega,rfl,by simp[val],rfl⟩
 ·rintro j _ ⟨k,o,c,hk,ho,hw,hc,I4,hv,rfl⟩
  have ga:=vN.get k;have gv:=yL.get k;have MN:=gC (zz k) hs (by omega) yL (by rw[hS.az];omega);rw[show(zz k).toNat=k by rw[hS.az];omega]at MN;obtain⟨t,ht⟩:=aq (u.getD k 0+v.getD k 0+c);have dR:=xn hv ht;have e5:bg 0 (zz k)=k:=by rw[hS.idx,hS.az];omega
  have je:k<n->o.getD k 0=u.getD k 0:=fun h=>by
   have:=congrArg (fun y=>List.getD y 0 0) I4;simpa[List.getD_eq_getElem?_getD]using this
  have e0:k<n->ar (zW .u32 o) k=u.getD k 0:=fun h=>by rw[hS.dK,hS.W,m8,je h]
  have eu:zD .u64 (u.getD k 0)=u.getD k 0:=by rw[hS.wrap,eS (by omega) (by omega)]
  have e1:zD .u64 (zE (zD .u64 (zE (u.getD k 0) (v.getD k 0))) c)=t:=by
   rw[hS.wrap,hS.add,hS.wrap,hS.add,eS (x:=u.getD k 0+v.getD k 0) (by omega) (by omega),eS (by omega) (by omega),ht]
  have e2:zD .u32 (zJ t 4294967296)=t%4294967296:=by rw[hS.rem,Int.tmod_eq_emod_of_nonneg (by omega),hS.wrap];exact LB (by omega) (by omega)
  have e3:zD .u64 (zI t 4294967296)=t/4294967296:=by rw[hS.quo,Int.tdiv_eq_ediv_of_nonneg (by omega),hS.wrap];exact eS (by omega) (by omega)
  have e4:k<n->zD .i64 (zE (zz k) 1)=zz (k+1):=fun h=>by rw[hS.wrap,hS.add,hS.az,hS.az,wrap_i64 (by omega) (by omega)];omega
  have e6:=mg hS.lt hS.az k n;have e7:∀x,aR .u32 (zW .u32 o) k x=zW .u32 (o.set k x):=fun x=>by rw[hS.oW,hS.W,pC]
  have e8:k<n->zy (zz k) n=true:=fun h=>by rw[hS.yC,hS.az];exact decide_eq_true (by omega)
  have e9:k<n->aL .u32 (zW .u32 o) k=true:=fun h=>by rw[hS.gM,hS.W,kY];exact decide_eq_true (by omega)
  have yJ:ay (ab (zW .u32 o)) (ab r)=true:=by rw[h1,hS.neq,hS.len,hS.W,jr];exact decide_eq_true (by omega)
  have eU:k=n->W .u32 o=r':=fun h=>by
   subst h;rw[List.take_of_length_le (by omega),List.take_of_length_le (by omega),List.take_of_length_le (by omega)]at hv;rw[vx,<-hn,Dm (x:=val u+val v) (b:=-c) hw ho (by rw[Int.neg_mul];omega)]
  have jN:k<n->val ((o.set k (t%4294967296)).take (k+1))=val (o.take k)+4294967296^k*(t%4294967296):=fun h=>Q6 _ (by omega)
  have Uv:0<=t/4294967296/\t/4294967296<=1:=by omega
  clear ht;generalize Oo:u.getD k 0=a at *;generalize I3:v.getD k 0=m at *;cbv;refine⟨fun h=>?_,fun h=>nd yJ ?_⟩
  all_goals rw[e6]at h
  ·have h:=of_decide_eq_true h
   rw[e5];refine nd (e8 h) (nd (e9 h) ⟨_,hS.call MN,?_⟩);cbv;rw[e5,e0 h,eu,e1,e2,e3,e4 h,e7];refine nd (e8 h) (nd (e9 h) ?_);refine again (s':=qH (zW .u32 (o.set k (t%4294967296))) s n (t/4294967296) (zz (k+1))) (m:=j-1) (by simp[dS,qH,ae,vi,vl,vb]) (by simp[dU,qH,ae]) rfl (Nat.le_refl 2) (by omega)
    ⟨_,_,_,by omega,by simpa using ho,hw.set _ (by omega) (by omega),Uv,?_,?_,rfl⟩
   ·rw[SI]
    have:=congrArg (List.drop 1) I4;simpa[List.drop_drop]using this
   ·rw[jN h,Eh u,Eh v,Int.pow_succ,Oo,I3]
    exact dR
  ·have h:=of_decide_eq_false h
   rw[hS.W,eU (by omega)];exact aC hF
def jI (r s:Abs.Rows) (len:Nat) (n t q e:Int):St:=ae 75 [.c (.sl 0 0 len false),vl s,.af,.af,vi .u64 0,vi .i64 n,vi .u64 t,vi .u64 q,vi .u64 e] [some (.rows 1 r false false),none]
theorem Fx {r s:Abs.Rows} {u v:List Int} {n:Nat} (g:Int) (hr:r=W .u32 u) (hs:s=W .u32 v) (hu:u.length=n+1) (hv:v.length=n) (hn:2<=n) (Ka:n<=1099511627776) (vN:Wd u) (yL:Wd v) (kI:2147483648<=v.getD (n-1) 0)
  (hg:g=tW (v.getD (n-1) 0) (v.getD (n-2) 0) (u.getD (n-2) 0) (u.getD n 0*4294967296+u.getD (n-1) 0)) :
  aH 154 [.fu 1 r,.val (tl s)] ⟨[.val (ti .u64 g)],[some (.rows 1 r false false),none]⟩:=by
 have g1:=vN.get n;have g2:=vN.get (n-1);have g3:=vN.get (n-2);have g4:=yL.get (n-1);have g5:=yL.get (n-2);obtain⟨t,ht⟩:=aq (u.getD n 0*4294967296+u.getD (n-1) 0);rw[<-ht]at hg;refine an ai mixed [.val] Tryz.func154 rfl rfl (by kernel_rfl) fun zD zE zG zH zI zJ _ _ _ _ _ _ _ zU zV zX _ _ _ _ _ zu zy zz bg ay _ _ _ _ _ ab _ _ aL ar _ _ _ _ _ _ _ _ _ _ _ _ _ zW _ A L F hS hF=>?_
 have h1:ab r=n+1:=by rw[hS.len,hr,jr,hu]
 have h2:ab s=n:=by rw[hS.len,hs,jr,hv]
 have Yh:r=zW .u32 u:=by rw[hS.W];exact hr
 have w1:zD .i64 (zG (zz n) 1)=zz (n-1):=by rw[hS.wrap,hS.sub,hS.az,hS.az,wrap_i64 (by omega) (by omega)];omega
 have w2:zD .i64 (zG (zz n) 2)=zz (n-2):=by rw[hS.wrap,hS.sub,hS.az,hS.az,wrap_i64 (by omega) (by omega)];omega
 have f2:∀q,bg 0 (zz q)=q:=fun q=>by rw[hS.idx,hS.az];omega
 have f3:∀q,q<n+1->zy (zz q) (ab r)=true:=fun q hq=>by rw[h1,hS.yC,hS.az];exact decide_eq_true (by omega)
 have f4:∀q,q<n+1->aL .u32 r q=true:=fun q hq=>by rw[hS.gM,hr,kY];exact decide_eq_true (by omega)
 have f5:∀q,ar r q=u.getD q 0:=fun q=>by rw[hS.dK,hr,m8]
 have f6:∀q,zX 0 (zz q)=true:=fun q=>by rw[hS.le,hS.az];exact decide_eq_true (by omega)
 have f7:∀q,q<n->aL .u32 s (zu (zz q))=true:=fun q hq=>by rw[hS.gM,hs,hS.nat,hS.az,kY];exact decide_eq_true (by omega)
 have f8:∀q,ar s (zu (zz q))=v.getD q 0:=fun q=>by rw[hS.dK,hS.nat,hS.az,hs,m8,Int.toNat_natCast]
 have eu:∀q,zD .u64 (u.getD q 0)=u.getD q 0:=fun q=>by have:=vN.get q;rw[hS.wrap,eS (by omega) (by omega)]
 have ev:∀q,zD .u64 (v.getD q 0)=v.getD q 0:=fun q=>by have:=yL.get q;rw[hS.wrap,eS (by omega) (by omega)]
 have et:zD .u64 (zE (zD .u64 (zH (u.getD n 0) 4294967296)) (u.getD (n-1) 0))=t:=by
  rw[hS.wrap,hS.wrap,hS.mul,hS.add,eS (x:=u.getD n 0*4294967296) (by omega) (by omega),eS (by omega) (by omega),ht]
 have Uv:0<=t/\t<18446744073709551616:=by omega
 have Yi:zU (v.getD (n-1) 0) 0=true:=dT (hS.ne ..) (by omega);have Kl:0<=t/v.getD (n-1) 0:=Int.ediv_nonneg (by omega) (by omega);have Wa:t/v.getD (n-1) 0<8589934592:=Int.ediv_lt_of_lt_mul (by omega) (by omega);have yu:=Int.emod_nonneg t (show v.getD (n-1) 0≠0 by omega);have Ak:=Int.emod_lt_of_pos t (show 0<v.getD (n-1) 0 by omega);have eq:zD .u64 (zI t (v.getD (n-1) 0))=t/v.getD (n-1) 0:=by rw[hS.quo,Int.tdiv_eq_ediv_of_nonneg (by omega),hS.wrap];exact eS (by omega) (by omega)
 have er:zJ t (v.getD (n-1) 0)=t%v.getD (n-1) 0:=by rw[hS.rem,Int.tmod_eq_emod_of_nonneg (by omega)]
 have tX:kA (v.getD (n-1) 0) (v.getD (n-2) 0) (u.getD (n-2) 0) 3 (t/v.getD (n-1) 0) (t%v.getD (n-1) 0)=g:=hg.symm;have yJ:ay (ab r) (ab r)=true:=by rw[hS.neq];exact decide_eq_true rfl
 clear hg ht;generalize Ux:v.getD (n-1) 0=v1 at *;generalize Lu:v.getD (n-2) 0=v2 at *;generalize ha3:u.getD (n-2) 0=u2 at *;generalize ha4:u.getD n 0=u0 at *;generalize ha5:u.getD (n-1) 0=u1 at *;have eu0:=eu n;have eu1:=eu (n-1);have eu2:=eu (n-2);have ev1:=ev (n-1);have ev2:=ev (n-2);rw[ha4]at eu0;rw[ha5]at eu1;rw[ha3]at eu2;rw[Ux]at ev1;rw[Lu]at ev2;cbv;rw[h2,w1,f2,f2,f5,f5,f8,Ux,ha4,ha5,eu0,eu1,ev1,et,eq,er]
 refine nd (f3 _ (by omega)) (nd (f4 _ (by omega)) (nd (f3 _ (by omega)) (nd (f4 _ (by omega)) (nd (f6 _) (nd (f7 _ (by omega)) (nd Yi (nd (f6 _) (nd (f7 _ (by omega)) (nd Yi ?_)))))))));generalize t/v1=q0,t%v1=m0 at *;refine fW ai mixed hS (fun(j:Nat) s'=>∃(q e:Int),0<=q/\q<8589934592/\0<=e/\e<4294967296/\kA v1 v2 u2 j q e=g/\4294967296<=e+j*v1/\s'=jI r s (ab r) (zz n) t q e) (n:=3)
  (s0:=jI r s (ab r) (zz n) t q0 m0) (fy ?_ ?_) rfl (Nat.le_refl 2) ?_ ?_
 ·simp[dS,jI,ae,vi,vl,vb,hS.az]
 ·simp[dU,jI,ae]
 ·exact⟨q0,m0,Kl,Wa,yu,by omega,tX,by push_cast;omega,rfl⟩
 ·rintro j _ ⟨q,e,b1,b2,b3,b4,Pu,hme,rfl⟩
  have j0:j≠0:=by
   rintro rfl
   simp at hme;omega
  obtain⟨j,rfl⟩:∃i,j=i+1:=⟨j-1,by omega⟩;have aaJ:4294967296<=(e+v1)+j*v1:=by
   have:((j+1:Nat):Int)*v1=j*v1+v1:=by push_cast;grind
   omega
  simp only[kA]at Pu;have x1:zX 4294967296 q=decide (4294967296<=q):=by rw[hS.le]
  have x2:zD .u64 (zE e v1)=e+v1:=by rw[hS.wrap,hS.add];exact eS (by omega) (by omega)
  have x3:zX 4294967296 (e+v1)=decide (4294967296<=e+v1):=by rw[hS.le]
  have x4:0<q->zD .u64 (zG q 1)=q-1:=fun h=>by rw[hS.wrap,hS.sub];exact eS (by omega) (by omega)
  have Yj:q<4294967296->0<=q*v2/\q*v2<=4294967295*4294967295:=fun h=>⟨Int.mul_nonneg b1 g5.1,Int.mul_le_mul (by omega) (by omega) g5.1 (by omega)⟩
  have x5:q<4294967296->zV (zD .u64 (zE (zD .u64 (zH e 4294967296)) u2)) (zD .u64 (zH q v2))=decide (e*4294967296+u2<q*v2):=fun h=>by
   have:=Yj h;rw[hS.lt,hS.wrap,hS.wrap,hS.wrap,hS.mul,hS.mul,hS.add,eS (x:=e*4294967296) (by omega) (by omega),eS (x:=e*4294967296+u2) (by omega) (by omega),eS (x:=q*v2) (by omega) (by omega)]
  have ng:e*4294967296+u2<q*v2->0<q:=fun h=>by
   rcases Int.lt_or_le 0 q with h'|h'
   ·exact h'
   ·obtain rfl:q=0:=by omega
    omega
  have fin:∀x:Int,x=g->F ⟨[.val (.c (.v (.int .u64 x)))],[some (.rows 1 r false false),none]⟩:=fun x hx=>by rw[hx];exact aC hF
  have step:(4294967296<=q∨e*4294967296+u2<q*v2)->¬4294967296<=e+v1->0<q->∀(T:List AV) (H:bU),dS T (jI r s (ab r) (zz n) t (q-1) (e+v1)).tmps->dU H (jI r s (ab r) (zz n) t (q-1) (e+v1)).heap->∃s':St,(St.mk T H).Le s'/\s'.aO=true/\[Arg.fu 1 r,Arg.val (tl s)].length<=s'.heap.length/\∃m,m<j+1/\∃(q e:Int),0<=q/\q<8589934592/\0<=e/\e<4294967296/\kA v1 v2 u2 m q e=g/\4294967296<=e+m*v1/\s'=jI r s (ab r) (zz n) t q e:=fun hb hc hp T H hT hH=>by
   rw[if_pos hb,if_neg hc]at Pu;exact⟨_,fy hT hH,rfl,Nat.le_refl 2,j,by omega,q-1,e+v1,by omega,by omega,by omega,by omega,Pu,aaJ,rfl⟩
  cbv;rw[w1,w2,f2,f8,f8,f5,Ux,Lu,ha3,ev1,ev2,eu2,x2];refine⟨fun h=>?_,fun h=>?_⟩
  all_goals rw[x1]at h
  ·have h:=of_decide_eq_true h
   rw[x4 (by omega)];refine nd (f6 _) (nd (f7 _ (by omega)) ⟨fun h'=>nd yJ (fin _ ?_),fun h'=>?_⟩)
   all_goals rw[x3]at h'
   ·rw[if_pos (.inl h),if_pos (of_decide_eq_true h')]at Pu
    exact Pu
   ·exact step (.inl h) (of_decide_eq_false h') (by omega) _ _ (by simp[dS,jI,ae,vi,vl,vb]) (by simp[dU,jI,ae])
  ·have h:=of_decide_eq_false h
   refine nd (f6 _) (nd (f7 _ (by omega)) (nd (f3 _ (by omega)) (nd (f4 _ (by omega)) ⟨fun Hj=>?_,fun Hj=>nd yJ (fin _ ?_)⟩)))
   all_goals rw[x5 (by omega)]at Hj
   ·have Hj:=of_decide_eq_true Hj
    have hp:=ng Hj;rw[x4 hp];refine nd (f6 _) (nd (f7 _ (by omega)) ⟨fun h'=>nd yJ (fin _ ?_),fun h'=>?_⟩)
    all_goals rw[x3]at h'
    ·rw[if_pos (.inr Hj),if_pos (of_decide_eq_true h')]at Pu
     exact Pu
    ·exact step (.inr Hj) (of_decide_eq_false h') hp _ _ (by simp[dS,jI,ae,vi,vl,vb]) (by simp[dU,jI,ae])
   ·have Hj:=of_decide_eq_false Hj
    rw[if_neg (by omega)]at Pu;exact Pu
end Go.Proofs.YtekefilngojelaaGreat
end
section
namespace Go.Abs.M
def dP (l:List Int) (c:Nat) (xs:List Int):List Int:=l.take c++xs++l.drop (c+xs.length)
theorem Fy {l:List Int} {p:Nat} (hw:Wd l) (h:val l<4294967296^p):val (l.take p)=val l/\val (l.drop p)=0:=by
 rcases Nat.lt_or_ge l.length p with hp|hp
 ·rw[List.take_of_length_le (by omega),List.drop_of_length_le (by omega)];exact⟨rfl,rfl⟩
 ·have e:=Pp l p hp
  have a:=sZ (hw.take p);have b:=sZ (hw.drop p);have hq:=yj p;rcases Int.lt_or_le 0 (val (l.drop p)) with h0|h0
  ·exfalso
   have:4294967296^p*1<=4294967296^p*val (l.drop p):=Int.mul_le_mul_of_nonneg_left (by omega) (by omega);omega
  ·have hz:val (l.drop p)=0:=by omega
   rw[hz]at e;exact⟨by omega,hz⟩
structure oY (U V:Int) (n m k:Nat) (u q:List Int):Prop where
 ul:u.length=n+m+1
 ql:q.length=m+1
 uw:Wd u
 qw:Wd q
 hk:k<=m+1
 eq:U=val u+V*4294967296^k*val (q.drop k)
 lt:val (u.drop k)<V
def dG (n j:Nat) (u:List Int):List Int:=(u.drop j).take (n+1)
section
variable {U V:Int} {n m j:Nat} {u q v:List Int}
theorem oY.Fz (h:oY U V n m (j+1) u q) (hV:V<4294967296^n):val (dG n j u)=val (u.drop j)/\val (u.drop (j+(n+1)))=0/\val (dG n j u)<V*4294967296:=by
 have hj:=h.hk;have GL:=h.ul;have bJ:=h.lt;have e:=Ki (l:=u) (k:=j) (by omega);have hw:=h.uw.get j;have hb:val (u.drop j)<V*4294967296:=by omega
 have nk:val (u.drop j)<4294967296^(n+1):=by rw[Int.pow_succ];omega
 obtain⟨a,b⟩:=Fy (h.uw.drop j) nk;refine⟨a,?_,by unfold dG;omega⟩;rw[List.drop_drop]at b;exact b
theorem Dp (hu:u.length=n+m+1) (hj:j<=m):(dG n j u).length=n+1:=by unfold dG;simp;omega
theorem mj {c:Nat} {xs l:List Int} (h:c+xs.length<=l.length):(dP l c xs).length=l.length:=by unfold dP;simp;omega
theorem FA {c:Nat} {xs l:List Int} (hl:Wd l) (hx:Wd xs):Wd (dP l c xs):=((hl.take c).append hx).append (hl.drop _)
theorem A6 {c:Nat} {xs l:List Int} (h:c+xs.length<=l.length):val (dP l c xs)=val (l.take c)+4294967296^c*(val xs+4294967296^xs.length*val (l.drop (c+xs.length))):=by
 unfold dP;rw[List.append_assoc,gB,gB,List.length_take,Nat.min_eq_left (by omega)]
theorem qI {c:Nat} {xs l:List Int} (h:c+xs.length<=l.length):(dP l c xs).drop c=xs++l.drop (c+xs.length):=by
 unfold dP;rw[List.append_assoc,List.drop_append_of_le_length (by simp;omega),List.drop_of_length_le (by simp;omega)];rfl
theorem oY.step (h:oY U V n m (j+1) u q) (hV:V<4294967296^n) (SM:0<V) {d:Int} (hd:d=val (dG n j u)/V) :
  0<=d/\d<4294967296/\oY U V n m j (dP u j (yO (n+1) (val (dG n j u)-d*V))) (q.set j d):=by
 obtain⟨p1,p2,p3⟩:=h.Fz hV;have hj:=h.hk;have GL:=h.ul;have VA:Wd (dG n j u):=(h.uw.drop j).take _;have A7:=sZ VA;have Uy:0<=d:=by rw[hd];exact Int.ediv_nonneg A7 (by omega)
 have hd1:d<4294967296:=by rw[hd];exact Int.ediv_lt_of_lt_mul SM (by rw[Int.mul_comm];exact p3)
 have yu:=Int.emod_nonneg (val (dG n j u)) (show V≠0 by omega);have Ak:=Int.emod_lt_of_pos (val (dG n j u)) SM;have hme:=Int.emod_add_mul_ediv (val (dG n j u)) V;rw[<-hd]at hme;have Wb:(4294967296:Int)^(n+1)=4294967296^n*4294967296:=Int.pow_succ ..;have hpp:=yj n;have hx:val (yO (n+1) (val (dG n j u)-d*V))=val (dG n j u)-d*V:=SN (by
  have:d*V=V*d:=Int.mul_comm ..;omega) (by
  have:d*V=V*d:=Int.mul_comm ..;omega)
 have hwl:=Pt (n+1) (val (dG n j u)-d*V);have kJ:j+(yO (n+1) (val (dG n j u)-d*V)).length<=u.length:=by rw[hwl];omega
 refine⟨Uy,hd1,⟨by rw[mj kJ];exact GL,by simpa using h.ql,FA h.uw (tV _ _),h.qw.set _ Uy hd1,by omega,?_,?_⟩⟩
 ·have e1:=A6 kJ
  rw[hwl,hx,p2,Int.mul_zero,Int.add_zero]at e1;have e2:=Pp u j (by omega);rw[<-p1]at e2;have e3:val ((q.set j d).drop j)=d+4294967296*val (q.drop (j+1)):=by
   have Uz:=h.ql;rw[Ki (by simp;omega),pD _ (by omega),SI]
  rw[e1,e3,h.eq,e2,Int.pow_succ];grind
 ·rw[qI kJ,gB,hwl,hx,p2]
  have:d*V=V*d:=Int.mul_comm ..;omega
end
theorem MQ {X V g d:Int} (hV:0<V) (hd:d=X/V) (h1:d<=g) (h2:(g-1)*V<=X):(X-g*V<0->g-1=d)/\(¬X-g*V<0->g=d):=by
 have e:=Int.emod_add_mul_ediv X V;have b1:=Int.emod_nonneg X (show V≠0 by omega);have b2:=Int.emod_lt_of_pos X hV;rw[<-hd]at e;have hg:g<=d+1:=by
  rcases Int.lt_or_le (d+1) g with h|h
  ·exfalso
   have:(d+1)*V<=(g-1)*V:=Int.mul_le_mul_of_nonneg_right (by omega) (by omega);have e2:(d+1)*V=V*d+V:=by grind
   omega
  ·exact h
 refine⟨fun h=>?_,fun h=>?_⟩
 ·rcases(show g=d∨g=d+1 by omega) with rfl|rfl
  ·have:g*V=V*g:=Int.mul_comm ..
   omega
  ·omega
 ·rcases(show g=d∨g=d+1 by omega) with rfl|rfl
  ·rfl
  ·have e2:(d+1)*V=V*d+V:=by grind
   omega
theorem MR {n:Nat} {x y:Int}:yO n (val (yO n x)+y)=yO n (x+y):=by
 refine val_inj (tV _ _) (tV _ _) (by rw[Pt,Pt]) ?_;rw[oH,oH,oH,Int.emod_add_emod]
theorem oY.start {U V:Int} {n m:Nat} {u:List Int} (hu:u.length=n+m+1) (hw:Wd u) (hU:val u=U) (bJ:U<V*4294967296^(m+1)):oY U V n m (m+1) u (List.replicate (m+1) 0):=by
 refine⟨hu,by simp,hw,Wd.rep _,Nat.le_refl _,?_,?_⟩
 ·rw[List.drop_of_length_le (by simp)];simp[val,hU]
 ·have e:=Pp u (m+1) (by omega)
  have a:=sZ (hw.take (m+1));rcases Int.lt_or_le (val (u.drop (m+1))) V with h|h
  ·exact h
  ·exfalso
   have:4294967296^(m+1)*V<=4294967296^(m+1)*val (u.drop (m+1)):=Int.mul_le_mul_of_nonneg_left h (by have:=yj (m+1);omega);have e2:V*4294967296^(m+1)=4294967296^(m+1)*V:=Int.mul_comm ..;omega
theorem oY.last {a b d:Int} {n m:Nat} {u q:List Int} (h:oY (d*a) (d*b) n m 0 u q) (hd:0<d) (hb:0<b):val q=a/b/\val u/d=a%b:=by
 have e:=h.eq;have l:=h.lt;simp only[List.drop_zero,Int.pow_zero,Int.mul_one]at e l;have hu:=sZ h.uw;have e1:val u=d*(a-b*val q):=by grind
 have r0:0<=a-b*val q:=by
  rcases Int.lt_or_le (a-b*val q) 0 with h|h
  ·have:=Int.mul_neg_of_pos_of_neg hd h;omega
  ·exact h
 have r1:a-b*val q<b:=by
  rcases Int.lt_or_le (a-b*val q) b with h|h
  ·exact h
  ·have:=Int.mul_le_mul_of_nonneg_left h (show 0<=d by omega)
   omega
 have hq:a/b=val q/\a%b=a-b*val q:=by
  have e2:a=(a-b*val q)+b*val q:=by omega
  refine⟨?_,?_⟩
  ·conv=>lhs;rw[e2]
   rw[Int.add_mul_ediv_left _ _ (by omega),Int.ediv_eq_zero_of_lt r0 r1,Int.zero_add]
  ·conv=>lhs;rw[e2]
   rw[Int.add_mul_emod_self_left,Int.emod_eq_of_lt r0 r1]
 refine⟨hq.1.symm,?_⟩;rw[hq.2,e1,Int.mul_ediv_cancel_left _ (by omega)]
theorem Pv {b w d:Int} {n:Nat} (hw0:1<=w) (LC:w<4294967296) (hd:d=4294967296/(w+1)) (h1:w*4294967296^n<=b) (h2:b<(w+1)*4294967296^n) :
  1<=d/\d<4294967296/\2147483648*4294967296^n<=d*b/\d*b<4294967296*4294967296^n:=by
 have e:=Int.emod_add_mul_ediv 4294967296 (w+1);have b1:=Int.emod_nonneg 4294967296 (show w+1≠0 by omega);have b2:=Int.emod_lt_of_pos 4294967296 (show 0<w+1 by omega);rw[<-hd]at e;have hp:=yj n;have d1:1<=d:=by
  rw[hd];exact Int.le_ediv_of_mul_le (by omega) (by omega)
 have d2:d<4294967296:=by
  rw[hd];exact Int.ediv_lt_of_lt_mul (by omega) (by omega)
 have tY:2147483648<=d*w:=by
  rcases(show d=1∨2<=d by omega) with h|h
  ·rw[h]at e ⊢;omega
  ·rcases(show w=1∨2<=w by omega) with h'|h'
   ·subst h';omega
   ·have:2*(w-1)<=d*(w-1):=Int.mul_le_mul_of_nonneg_right h (by omega)
    have e1:d*(w-1)=d*w-d:=by grind
    have e2:(w+1)*d=d*w+d:=by grind
    omega
 refine⟨d1,d2,?_,?_⟩
 ·have x1:d*(w*4294967296^n)<=d*b:=Int.mul_le_mul_of_nonneg_left h1 (by omega)
  have x2:2147483648*4294967296^n<=d*w*4294967296^n:=Int.mul_le_mul_of_nonneg_right tY (by omega);have x3:d*w*4294967296^n=d*(w*4294967296^n):=by grind
  omega
 ·have x1:d*b<d*((w+1)*4294967296^n):=Int.mul_lt_mul_of_pos_left h2 (by omega)
  have x2:(w+1)*d*4294967296^n<=4294967296*4294967296^n:=Int.mul_le_mul_of_nonneg_right (by omega) (by omega);have x3:(w+1)*d*4294967296^n=d*((w+1)*4294967296^n):=by grind
  omega
theorem xp {l:List Int} {n:Nat} (hw:Wd l) (hl:l.length=n+1):l.getD n 0*4294967296^n<=val l/\val l<(l.getD n 0+1)*4294967296^n:=by
 have e:=Pp l n (by omega);rw[Ki (by omega),List.drop_of_length_le (by omega)]at e;have a:=sZ (hw.take n);have b:=Di (hw.take n);rw[List.length_take,Nat.min_eq_left (by omega)]at b;simp only[val]at e;have x1:(l.getD n 0+1)*4294967296^n=l.getD n 0*4294967296^n+4294967296^n:=by grind
 have x2:4294967296^n*(l.getD n 0+4294967296*0)=l.getD n 0*4294967296^n:=by grind
 omega
theorem FB {n j:Nat} {u x:List Int} (hx:x.length=n+1) (h:j+(n+1)<=u.length):dG n j (dP u j x)=x:=by
 unfold dG;rw[qI (by omega),List.take_append_of_le_length (by omega),List.take_of_length_le (by omega)]
theorem HG {n j:Nat} {u:List Int} (h:j+(n+1)<=u.length):dP u j (dG n j u)=u:=by
 unfold dP dG;rw[List.length_take,List.length_drop,Nat.min_eq_left (by omega)];have e:List.drop (j+(n+1)) u=List.drop (n+1) (List.drop j u):=by rw[List.drop_drop]
 rw[e,List.append_assoc,List.take_append_drop,List.take_append_drop]
theorem FC {j:Nat} {u x y:List Int} (hxy:x.length=y.length) (h:j+x.length<=u.length):dP (dP u j x) j y=dP u j y:=by
 have e1:(dP u j x).take j=u.take j:=by
  unfold dP;rw[List.append_assoc,List.take_append_of_le_length (by simp;omega),List.take_of_length_le (by simp;omega)]
 have e2:(dP u j x).drop (j+y.length)=u.drop (j+y.length):=by
  have:=qI h;rw[<-List.drop_drop,this,List.drop_append_of_le_length (by omega),List.drop_of_length_le (by omega),hxy];rfl
 show(dP u j x).take j++y++(dP u j x).drop (j+y.length)=dP u j y
 rw[e1,e2];rfl
theorem MS {n:Nat} {x:List Int} (h:x.length<=n) (hw:Wd x):val (dP (List.replicate n 0) 0 x)=val x/\(dP (List.replicate n 0) 0 x).length=n/\Wd (dP (List.replicate n 0) 0 x):=by
 refine⟨?_,by rw[mj (by simp;omega)];simp,FA (Wd.rep _) hw⟩;rw[A6 (by simp;omega)];simp[val,Dj]
end Go.Abs.M
namespace Go.Abs.M
theorem Km {U V:Int} {n m j:Nat} {u q lv:List Int} (hI:oY U V n m (j+1) u q) (hn:2<=n) (SO:lv.length=n) (MT:Wd lv) (I5:val lv=V) (kI:2147483648<=lv.getD (n-1) 0) :
  ∃(g qd:Int) (b:Bool) (x1:List Int),g=tW (lv.getD (n-1) 0) (lv.getD (n-2) 0) ((dG n j u).getD (n-2) 0) ((dG n j u).getD n 0*4294967296+(dG n j u).getD (n-1) 0)/\0<=g/\g<=4294967296/\0<=qd/\qd<4294967296 /\
   b=decide (val (dG n j u)-g*val lv<0)/\x1=yO (n+1) (val (dG n j u)-g*val lv)/\x1.length=n+1/\Wd x1/\j<=m/\u.length=n+m+1/\q.length=m+1/\(dG n j u).length=n+1/\Wd (dG n j u) /\
   (b=true->g-1=qd/\∃x2,x2=yO x1.length (val x1+val lv)/\x2.length=n+1/\oY U V n m j (dP u j x2) (q.set j qd)) /\
   (b=false->g=qd/\oY U V n m j (dP u j x1) (q.set j qd)):=by
 have SQ:V<4294967296^n:=by rw[<-I5,<-SO];exact Di MT
 have SM:0<V:=by
  have h1:=(xp MT (n:=n-1) (by omega)).1;rw[I5]at h1;have h2:=Int.mul_pos (show 0<lv.getD (n-1) 0 by omega) (yj (n-1));omega
 have hj:=hI.hk;have GL:=hI.ul;obtain⟨p1,p2,p3⟩:=hI.Fz SQ;obtain⟨X,hX⟩:∃X,X=val (dG n j u):=⟨_,rfl⟩;obtain⟨qd,hqd⟩:∃qd,qd=X/V:=⟨_,rfl⟩;obtain⟨s1,s2,s3⟩:=hI.step SQ SM (hX▸hqd);have pl:=Dp (n:=n) GL (show j<=m by omega);have pw:Wd (dG n j u):=(hI.uw.drop j).take _;have hX0:=sZ pw;rw[<-hX]at hX0 p3 s3;have Us:=V8 hn pl SO pw MT kI (by rw[I5,<-hX];exact p3)
 obtain⟨g,hg⟩:∃g,g=tW (lv.getD (n-1) 0) (lv.getD (n-2) 0) ((dG n j u).getD (n-2) 0) ((dG n j u).getD n 0*4294967296+(dG n j u).getD (n-1) 0):=⟨_,rfl⟩;obtain⟨k1,k2,k3⟩:=Fw (q:=qd) Us (by rw[I5,<-hX,hqd];exact Int.ediv_mul_le _ (by omega)) s1 s2;rw[<-hg]at k1 k2 k3;rw[I5,<-hX]at k3;obtain⟨d1,d2⟩:=MQ SM hqd k1 k3;refine⟨g,qd,_,_,hg,by omega,k2,s1,s2,rfl,rfl,Pt _ _,tV _ _,by omega,GL,hI.ql,pl,pw,fun h=>?_,fun h=>?_⟩
 ·rw[I5,<-hX]at h
  have hq:=d1 (of_decide_eq_true h);refine⟨hq,_,rfl,by rw[Pt,Pt],?_⟩;rw[Pt,MR,I5,<-hX,show X-g*V+V=X-qd*V by rw[show g=qd+1 by omega];grind];exact s3
 ·rw[I5,<-hX]at h
  have hq:=d2 (of_decide_eq_false h);refine⟨hq,?_⟩;rw[I5,<-hX,hq];exact s3
end Go.Abs.M
end
section
namespace Go.Proofs.YtekefilngojelaaGreat
open Go Go.Abs Go.Abs.M Go.Proofs
def kC (r s v U Q:Abs.Rows) (ul ql:Nat) (n d j:Int):St:=ae 110 [vl r,vl s,.af,.af,fH,fH,.af,.af,vi .i64 n,vi .u64 d,vl v,.c (.sl 8 0 ul false),.c (.sl 13 0 ql false),vi .i64 j] [none,none,none,none,none,none,none,none,some (.rows 1 U true false),none,none,none,none,some (.rows 1 Q true false)]
theorem yQ {r s w v y A2 A3:Abs.Rows} {U V w1 d c:Int} {n la m l1 m1 n1 n':Nat} {lr ls lv lu u0:List Int}
  (hr:r=W .u32 lr) (hs:s=W .u32 ls) (hv:v=W .u32 lv) (hy:y=W .u32 lu) (lrl:lr.length=la) (lsl:ls.length=n) (dY:la<=549755813888) (hn:2<=n) (hm:la=n+m) (oT:l1=la+1) (Ak:m1=m+1) (Q0:n1=n+1) (Oq:n=n'+1)
  (LC:ls.getD n' 0=w1) (MU:1<=w1/\w1<4294967296) (hd:4294967296/(w1+1)=d) (hdb:1<=d/\d<4294967296) (hc:¬c<0) (Yk:lu.length<=l1) (Yl:dP (List.replicate l1 0) 0 lu=u0)
  (SO:lv.length=n) (MT:Wd lv) (I5:val lv=V) (kI:2147483648<=lv.getD (n-1) 0)
  (tX:oY U V n m (m+1) u0 (List.replicate m1 0))
  (cc:aH 136 [.val (tl r),.val (tl s)] ⟨[.val (ti .i64 c)],[none,none]⟩)
  (c1:aH 113 [.val (ti .u64 d)] ⟨[.val (tl w)],[none]⟩)
  (c2:aH 132 [.val (tl s),.val (tl w)] ⟨[.val (tl v)],[none,none]⟩)
  (c3:aH 132 [.val (tl r),.val (tl w)] ⟨[.val (tl y)],[none,none]⟩)
  (A5:∀u q,oY U V n m 0 u q->∃(A1:Abs.Rows) (A4:Int),aH 142 [.val (tl (W .u32 u))] ⟨[.val (tl A1)],[none]⟩/\aH 142 [.val (tl (W .u32 q))] ⟨[.val (tl A2)],[none]⟩ /\
   aH 153 [.val (tl A1),.val (ti .u64 d)] ⟨[.val (tl A3),.val (ti .u64 A4)],[none,none]⟩) :
  aH 128 [.val (tl r),.val (tl s)] ⟨[.val (tl A2),.val (tl A3)],[none,none]⟩:=by
 refine an ai mixed [.val,.val] Tryz.func128 rfl rfl (by kernel_rfl) fun zD zE zG _ zI _ _ _ _ _ _ _ zT zU zV zX _ _ _ _ _ zu zy zz bg ay _ bO bI _ aT ab _ _ aL ar aR a9 aD _ bB bR aM _ _ _ _ _ _ zW _ A L F hS hF=>?_
 have z1:ab r=la:=by rw[hS.len,hr,jr,lrl]
 have z2:ab s=n:=by rw[hS.len,hs,jr,lsl]
 have z3:zD .i64 (zG (zz n) 1)=zz n':=by rw[hS.wrap,hS.sub,hS.az,hS.az,wrap_i64 (by omega) (by omega)];omega
 have z4:ar s (zu (zz n'))=w1:=by rw[hS.dK,hS.nat,hS.az,hs,m8,Int.toNat_natCast,LC]
 have z5:zD .u64 (zE (zD .u64 w1) 1)=w1+1:=by rw[hS.wrap,hS.wrap,eS (x:=w1) (by omega) (by omega),hS.add];exact eS (by omega) (by omega)
 have z6:zD .u64 (zI 4294967296 (w1+1))=d:=by rw[hS.quo,Int.tdiv_eq_ediv_of_nonneg (by omega),hd,hS.wrap];exact eS (by omega) (by omega)
 have z7:zD .i64 (zE (zz la) 1)=zz l1:=by rw[hS.wrap,hS.add,hS.az,hS.az,wrap_i64 (by omega) (by omega)];omega
 have z8:zD .i64 (zG (zz la) (zz n))=zG (zz (m+1)) 1:=by rw[hS.wrap,hS.sub,hS.az,hS.az,hS.sub,hS.az,wrap_i64 (by omega) (by omega)];omega
 have z9:zD .i64 (zE (zG (zz (m+1)) 1) 1)=zz m1:=by rw[hS.wrap,hS.add,hS.sub,hS.az,hS.az,wrap_i64 (by omega) (by omega)];omega
 have znt:∀k,zu (zz k)=k:=fun k=>by rw[hS.nat,hS.az];omega
 have jB:∀k,bR k [.v (.int .u32 0)]=zW .u32 (List.replicate k 0):=fun k=>by rw[hS.rep,hS.W];exact xk ..
 have qF:bB (zW .u32 (List.replicate l1 0)) 0 y=zW .u32 u0:=by rw[hS.yD,hS.W,hy,MJ,<-Yl];rfl
 have zyl:ab y=lu.length:=by rw[hS.len,hy,jr]
 have o1:zV c 0=false:=dF (hS.lt ..) hc;have o2:zT (zz n) 1=false:=by rw[hS.eq,hS.az];exact decide_eq_false (by omega)
 have o3:zX 0 (zz n')=true:=by rw[hS.le,hS.az];exact decide_eq_true (by omega)
 have o4:aL .u32 s (zu (zz n'))=true:=by rw[hS.gM,znt,hs,kY];exact decide_eq_true (by omega)
 have o5:zU (w1+1) 0=true:=dT (hS.ne ..) (by omega);have o6:aT (zz l1) (zz l1) 4=true:=by rw[hS.nG,hS.az];exact decide_eq_true (by unfold au;omega)
 have o7:a9 0 l1 (zW .u32 (List.replicate l1 0))=true:=by rw[hS.fit,hS.W,jr];exact decide_eq_true (by simp)
 have o8:aM 1 y=true:=by rw[hS.wide,hy];exact HA _ _
 have o9:zX (zz (ab y)) (zz l1)=true:=by rw[hS.le,hS.az,hS.az,zyl];exact decide_eq_true (by omega)
 have o10:aT (zz m1) (zz m1) 4=true:=by rw[hS.nG,hS.az];exact decide_eq_true (by unfold au;omega)
 clear hr hs lrl lsl LC MU hd hc Yk Yl hy zyl;cbv;refine hS.cl cc ?_;cbv;rw[z2,z3,z4,z5];refine bF o1 (bF o2 (nd o3 (nd o4 (nd o5 ?_))));rw[z6];refine hS.cl c1 ?_;cbv;refine hS.cl c2 ?_;cbv;rw[z1,z7,znt,jB];apply nd o6;refine hS.cl c1 ?_;cbv;refine hS.cl c3 ?_;cbv;rw[qF,z1,z8,z9,znt,jB];refine nd o7 (nd o8 (nd o9 (nd o10 ?_)));clear z2 z3 z4 z5 z6 z7 z8 z9 o1 o2 o3 o4 o5 o6 o7 o8 o9 o10 cc c1 c2 c3 qF
 refine fW ai mixed hS (fun(k:Nat) s'=>∃(u q:List Int),oY U V n m k u q/\s'=kC r s v (zW .u32 u) (zW .u32 q) l1 m1 (zz n) d (zG (zz k) 1)) (n:=m+1)
  (s0:=kC r s v (zW .u32 u0) (zW .u32 (List.replicate m1 0)) l1 m1 (zz n) d (zG (zz (m+1)) 1)) (fy ?_ ?_) rfl (by show 2<=14;omega) ?_ ?_
 ·simp[dS,kC,ae,vi,vl,fH]
 ·simp[dU,kC,ae]
 ·exact⟨u0,_,tX,rfl⟩
 ·clear tX
  rintro k _ ⟨u,q,hI,rfl⟩
  cases k with
  | zero=>
   obtain⟨A1,A4,t1,t2,t3⟩:=A5 u q hI;have GL:=hI.ul;have Uz:=hI.ql;have hz:zX 0 (zG (zz 0) 1)=false:=by rw[hS.le,hS.sub,hS.az];rfl
   have yJ:a9 0 l1 (zW .u32 u)=true:=by rw[hS.fit,hS.W,jr];exact decide_eq_true (by omega)
   have Kj:aD (zW .u32 u) 0 l1=W .u32 u:=by rw[hS.part,hS.W,kv,List.drop_zero,List.take_of_length_le (by omega)]
   have e12:a9 0 m1 (zW .u32 q)=true:=by rw[hS.fit,hS.W,jr];exact decide_eq_true (by omega)
   have SR:aD (zW .u32 q) 0 m1=W .u32 q:=by rw[hS.part,hS.W,kv,List.drop_zero,List.take_of_length_le (by omega)]
   cbv;apply bF hz;rw[Kj];refine nd yJ ⟨_,hS.call t1,?_⟩;cbv;refine hS.cl t3 ?_;cbv;rw[SR];refine nd e12 ⟨_,hS.call t2,?_⟩;cbv;exact aC hF
  | succ j=>
   obtain⟨g,qd,b,x1,hg,g0,g1,q0,q1,hb,G4,lx1,wx1,Q9,GL,Uz,pl,pw,ht,hf⟩:=Km hI hn SO MT I5 kI;have cg:=Fx (r:=zW .u32 (dG n j u)) g (by rw[hS.W]) hv pl SO hn (by omega) pw MT kI hg;have cl:=Dn (r:=zW .u32 (dG n j u)) (r':=zW .u32 x1) g b (by rw[hS.W]) hv (by omega) (by omega) pw MT g0 g1 (by rw[hS.W,pl,G4]) hb;have cr:=fun x2 h=>yP (r:=zW .u32 x1) (r':=zW .u32 x2) (s:=v) (u:=x1) (by rw[hS.W]) hv (by omega) (by omega) wx1 MT h
   clear hg hb G4;have hi:zG (zz (j+1)) 1=(j:Int):=by rw[hS.sub,hS.az];omega
   have hz:zX 0 (zG (zz (j+1)) 1)=true:=by rw[hS.le,hi];exact decide_eq_true (by omega)
   have Wc:zD .i64 (zG (zG (zz (j+1)) 1) 1)=zG (zz j) 1:=by rw[hi,hS.wrap,hS.sub,hS.sub,hS.az,wrap_i64 (by omega) (by omega)]
   have y1:zD .i64 (zE (zD .i64 (zE (zG (zz (j+1)) 1) (zz n))) 1)=zz (j+n1):=by
    rw[hi,hS.wrap,hS.wrap,hS.add,hS.add,hS.az,hS.az,wrap_i64 (x:=(j:Int)+n) (by omega) (by omega),wrap_i64 (by omega) (by omega)];omega
   have y2:bg 0 (zG (zz (j+1)) 1)=j:=by rw[hS.idx,hi];omega
   have y3:bO (zz (j+n1)) (zG (zz (j+1)) 1)=n1:=by rw[hS.J7,hi,hS.az];omega
   have y4:∀u':List Int,aD (zW .u32 u') j n1=zW .u32 (dG n j u'):=fun u'=>by rw[hS.part,hS.W,kv,Q0];rfl
   have y5:∀u' x:List Int,bB (zW .u32 u') j (zW .u32 x)=zW .u32 (dP u' j x):=fun u' x=>by rw[hS.yD,hS.W,MJ];rfl
   have y6:bI (zG (zz (j+1)) 1) (zz (j+n1)) l1=true:=by rw[hS.cut,hi,hS.az];exact decide_eq_true (by omega)
   have y7:∀u':List Int,u'.length=n+m+1->a9 j n1 (zW .u32 u')=true:=fun u' h=>by rw[hS.fit,hS.W,jr];exact decide_eq_true (by omega)
   have y8:∀x:List Int,x.length=n+1->ay (ab (zW .u32 x)) n1=true:=fun x h=>by rw[hS.neq,hS.len,hS.W,jr,Q0];exact decide_eq_true h
   have y9:dP u j (dG n j u)=u:=HG (by omega);have We:dG n j (dP u j x1)=x1:=FB lx1 (by omega);have y11:(dP u j x1).length=n+m+1:=by rw[mj (by omega)];exact GL
   have y12:∀x2:List Int,x2.length=n+1->dP (dP u j x1) j x2=dP u j x2:=fun x2 h=>FC (by omega) (by omega)
   have Ym:zy (zG (zz (j+1)) 1) m1=true:=by rw[hS.yC,hi];exact decide_eq_true (by omega)
   have Yn:aL .u32 (zW .u32 q) j=true:=by rw[hS.gM,hS.W,kY];exact decide_eq_true (by omega)
   have Yo:∀x,aR .u32 (zW .u32 q) j x=zW .u32 (q.set j x):=fun x=>by rw[hS.oW,hS.W,pC]
   have Yp:zD .u32 qd=qd:=by rw[hS.wrap];exact LB (by omega) (by omega)
   have y18:g-1=qd->zD .u64 (zG g 1)=qd:=fun h=>by rw[hS.wrap,hS.sub,eS (by omega) (by omega),h]
   clear hI hi;cbv;apply bT hz;rw[y1,y2,y3,y4];refine nd y6 (nd (y7 _ GL) ⟨_,hS.call cg,?_⟩);cbv;rw[y5,y9,y4];refine nd (y8 _ pl) (nd (y7 _ GL) ?_);cases b with
   | true=>
    obtain⟨Wf,x2,RP,lx2,hI2⟩:=ht rfl;refine hS.cl cl ?_;cbv;rw[y5,y4,We];refine nd (y8 _ lx1) (bT rfl (nd (y7 _ y11) ⟨_,hS.call (cr x2 (by rw[hS.W,RP])),?_⟩));cbv;rw[y2,y5,y12 _ lx2,y18 Wf,Yp,Yo,Wc];refine nd (y8 _ lx2) (nd Ym (nd Yn ?_));exact again (s':=kC r s v (zW .u32 (dP u j x2)) (zW .u32 (q.set j qd)) l1 m1 (zz n) d (zG (zz j) 1)) (m:=j) (by simp[dS,kC,ae,vi,vl,fH]) (by simp[dU,kC,ae]) rfl (by show 2<=14;omega) (by omega) ⟨_,_,hI2,rfl⟩
   | false=>
    obtain⟨Wf,hI2⟩:=hf rfl;refine hS.cl cl ?_;cbv;rw[y2,y5,Wf,Yp,Yo,Wc];refine nd (y8 _ lx1) (bF rfl (nd Ym (nd Yn ?_)));exact again (s':=kC r s v (zW .u32 (dP u j x1)) (zW .u32 (q.set j qd)) l1 m1 (zz n) d (zG (zz j) 1)) (m:=j) (by simp[dS,kC,ae,vi,vl,fH]) (by simp[dU,kC,ae]) rfl (by show 2<=14;omega) (by omega) ⟨_,_,hI2,rfl⟩
theorem yR {r s:Abs.Rows} {a b:Nat} (hr:mO a r) (hs:mO b s) (h2:2<=nl b) (GA:b<=a) (dY:nl a<=549755813888) :
  aH 128 [.val (tl r),.val (tl s)] ⟨[.val (tl (W .u32 (dg (a/b)))),.val (tl (W .u32 (dg (a%b))))],[none,none]⟩:=by
 obtain⟨n,hn⟩:=aq (nl b);obtain⟨la,hla⟩:=aq (nl a);have IG:=Fp GA;obtain⟨m,hm⟩:∃m,la=n+m:=⟨la-n,by omega⟩;obtain⟨n',Oq⟩:∃n',n=n'+1:=⟨n-1,by omega⟩;have lb:(dg b).length=n:=hn.symm;have laa:(dg a).length=la:=hla.symm;obtain⟨w1,LC⟩:=aq ((dg b).getD n' 0);have MU:=(jz b).get n';rw[<-LC]at MU;have Yq:=xp (jz b) (n:=n') (by omega);rw[<-LC,jH]at Yq;have SS:1<=w1:=by
  rcases jl b with h|h
  ·rw[h]at lb;simp at lb;omega
  ·rw[lb,Oq,Nat.add_sub_cancel,<-LC]at h;omega
 obtain⟨d,hd⟩:=aq (4294967296/(w1+1));obtain⟨d1,d2,d3,d4⟩:=Pv SS MU.2 hd Yq.1 Yq.2;have Ra:0<(b:Int):=by
  rcases Nat.eq_zero_or_pos b with h|h
  ·subst h;simp[rP]at lb;omega
  ·omega
 obtain⟨V,hV⟩:=aq (d*b);have SM:0<V:=by rw[hV];exact Int.mul_pos (by omega) Ra
 have Wb:(4294967296:Int)^n=4294967296^n'*4294967296:=by rw[Oq,Int.pow_succ]
 have SQ:V<4294967296^n:=by rw[Wb,hV];omega
 have afr:2147483648*4294967296^n'<=V:=by rw[hV];exact d3
 obtain⟨lv,Pr⟩:=aq (dg V.toNat);have I5:val lv=V:=by rw[Pr,jH];omega
 have MT:Wd lv:=by rw[Pr];exact jz _
 have SO:lv.length=n:=by
  have a1:nl V.toNat<=n:=tU (by omega);have a2:n'<nl V.toNat:=by
   rcases Nat.lt_or_ge n' (nl V.toNat) with h|h
   ·exact h
   ·have x1:=nO V.toNat
    have x2:=jX h;have x3:=yj n';omega
  rw[Pr];show nl V.toNat=n
  omega
 have kI:2147483648<=lv.getD (n-1) 0:=by
  have t:=(xp MT (n:=n') (by omega)).2;rw[I5]at t;rw[Oq,Nat.add_sub_cancel];rcases Int.lt_or_le (lv.getD n' 0) 2147483648 with h|h
  ·exfalso
   have:=Int.mul_le_mul_of_nonneg_right (show lv.getD n' 0+1<=2147483648 by omega) (show(0:Int)<=4294967296^n' by have:=yj n';omega);omega
  ·exact h
 obtain⟨lu,Yr⟩:=aq (dg (d*a).toNat);have hda:0<=d*(a:Int):=Int.mul_nonneg (by omega) (by omega);have vlu:val lu=d*a:=by rw[Yr,jH];omega
 have Yk:lu.length<=la+1:=by
  rw[Yr];refine tU (k:=la+1) ?_;have x1:=nO a;rw[<-hla]at x1;have x2:d*(a:Int)<=4294967296*a:=Int.mul_le_mul_of_nonneg_right (by omega) (by omega);rw[Int.pow_succ];omega
 obtain⟨f1,f2,f3⟩:=MS Yk (by rw[Yr];exact jz _);obtain⟨w,hw⟩:=aq (W .u32 (dg d.toNat));have ld:(dg d.toNat).length<=1:=tU (k:=1) (by rw[Int.pow_succ,Int.pow_zero];omega);have cc:=V3 (bH a b) hr hs (by omega) (by omega) (jz _) (jz _) (jl _) (jl _) (by rw[jH,jH]);have c1:=jZ d (by omega) (by omega);rw[<-hw]at c1;have c2:=nQ hs hw (by omega) (by omega) (jz _) (jz _)
 rw[jH,jH,show((b:Int)*(d.toNat:Int)).toNat=V.toNat by rw[hV,Int.mul_comm];congr 2;omega,<-Pr]at c2;have c3:=nQ hr hw (by omega) (by omega) (jz _) (jz _);rw[jH,jH,show((a:Int)*(d.toNat:Int)).toNat=(d*a).toNat by rw[Int.mul_comm];congr 2;omega,<-Yr]at c3;have aaT:d*(a:Int)<V*4294967296^(m+1):=by
  have x1:=nO a;rw[<-hla,hm]at x1;have x2:(4294967296:Int)^(n+m)=4294967296^n'*4294967296^(m+1):=by rw[<-Int.pow_add];congr 1;omega
  have x3:w1*4294967296^n'*4294967296^(m+1)<=(b:Int)*4294967296^(m+1):=Int.mul_le_mul_of_nonneg_right Yq.1 (by have:=yj (m+1);omega);have x4:1*(4294967296^n'*4294967296^(m+1))<=w1*(4294967296^n'*(4294967296:Int)^(m+1)):=Int.mul_le_mul_of_nonneg_right SS (by have:=Int.mul_pos (yj n') (yj (m+1));omega);have x5:w1*4294967296^n'*4294967296^(m+1)=w1*(4294967296^n'*(4294967296:Int)^(m+1)):=by grind
  have x6:d*(a:Int)<d*(b*4294967296^(m+1)):=Int.mul_lt_mul_of_pos_left (by omega) (by omega);have x7:d*((b:Int)*4294967296^(m+1))=d*b*4294967296^(m+1):=by grind
  rw[hV];omega
 have tX:=oY.start (n:=n) (m:=m) (by rw[f2,hm]) f3 (f1.trans vlu) aaT;refine yQ hr hs rfl rfl laa lb (by omega) (by omega) hm rfl rfl rfl Oq LC.symm ⟨SS,MU.2⟩ hd.symm ⟨d1,d2⟩ (c:=bH a b) (by unfold bH;rw[if_neg (by omega)];split<;>omega) Yk rfl SO MT I5 kI tX cc c1 c2 c3 fun u q hI=>?_
 rw[hV]at hI;obtain⟨l1,l2⟩:=hI.last (by omega) Ra;have vu0:=sZ hI.uw;have GL:=hI.ul;have Uz:=hI.ql;have t1:=Q5 (r:=W .u32 u) rfl (by omega) hI.uw;have t2:=Q5 (r:=W .u32 q) rfl (by omega) hI.qw;have lt1:(dg (val u).toNat).length<=la+1:=by have:=V0 hI.uw;unfold nl at this;omega
 have t3:=pF (r:=W .u32 (dg (val u).toNat)) d ((a:Int)%b) (val u%d) rfl (by omega) (jz _) (by omega) d2 (by rw[jH,Int.toNat_of_nonneg vu0,l2]) (by rw[jH,Int.toNat_of_nonneg vu0]);rw[l1]at t2;exact⟨_,_,t1,t2,t3⟩
theorem pG {r s:Abs.Rows} {a b:Nat} (hr:mO a r) (hs:mO b s) (hb:b≠0) (dY:nl a<=549755813888) (aaU:nl b<=549755813888) :
  ∃x y,mO (a/b) x/\mO (a%b) y/\aH 128 [.val (tl r),.val (tl s)] ⟨[.val (tl x),.val (tl y)],[none,none]⟩:=by
 have cc:=V3 (bH a b) hr hs (by unfold nl at dY;omega) (by unfold nl at aaU;omega) (jz _) (jz _) (jl _) (jl _) (by rw[jH,jH])
 by_cases GA:a<b
 ·refine⟨[],r,by rw[Nat.div_eq_of_lt GA];rfl,by rw[Nat.mod_eq_of_lt GA];exact hr,?_⟩
  rw[gg (by omega)]at cc;refine an ai mixed [.val,.val] Tryz.func128 rfl rfl (by kernel_rfl) fun zD _ _ _ _ _ _ _ _ _ _ _ zT _ _ _ _ _ _ _ _ zu _ zz _ _ _ _ _ _ _ ab _ _ aL ar _ _ _ _ _ _ _ _ _ _ _ _ _ _ _ A L F hS hF=>?_
  cbv;refine hS.cl cc ?_;cbv;exact bT (by rw[hS.lt];rfl) (Fl hF (aY.drop _ _) (jq.refl _))
 ·by_cases h1:nl b=1
  ·obtain⟨x,hx⟩:∃x,mO (a/b) x:=⟨_,rfl⟩
   obtain⟨y,hy⟩:∃y,mO (a%b) y:=⟨_,rfl⟩;refine⟨x,y,hx,hy,?_⟩;have Hl:(b:Int)<4294967296:=by have:=nO b;rw[h1]at this;omega
   have SU:dg b=[(b:Int)]:=by
    rw[qy hb,show b%4294967296=b by omega,show b/4294967296=0 by omega,rP]
   have R7:(a:Int)%b<b:=Int.emod_lt_of_pos _ (by omega);have Rb:0<=(a:Int)%b:=Int.emod_nonneg _ (by omega);have c1:=pF b ((a:Int)/b) ((a:Int)%b) hr (by unfold nl at dY;omega) (jz _) (by omega) Hl (by rw[jH]) (by rw[jH]);have c2:=jZ ((a:Int)%b) Rb (by omega);have q1:W .u32 (dg ((a:Int)/b).toNat)=x:=hx.symm;have q2:W .u32 (dg ((a:Int)%b).toNat)=y:=hy.symm;rw[q1]at c1
   rw[q2]at c2;obtain⟨c,hc,VR⟩:∃c,bH (a:Int) b=c/\¬c<0:=⟨_,rfl,by
    unfold bH;rw[if_neg (by omega)];split<;>omega⟩
   rw[hc]at cc;generalize (a:Int)%b=e at *;generalize hbv:(b:Int)=d at *;refine an ai mixed [.val,.val] Tryz.func128 rfl rfl (by kernel_rfl) fun zD _ _ _ _ _ _ _ _ _ _ _ zT _ _ _ _ _ _ _ _ zu _ zz _ _ _ _ _ _ _ ab _ _ aL ar _ _ _ _ _ _ _ _ _ _ _ _ _ _ _ A L F hS hF=>?_
   have z2:zT (zz (ab s)) 1=true:=by rw[hS.len,hs,jr,SU,hS.az,hS.eq];rfl
   have z3:aL .u32 s (zu 0)=true:=by rw[hS.gM,hs,hS.nat,SU];rfl
   have z4:zD .u64 (ar s (zu 0))=d:=by rw[hS.dK,hs,hS.nat,m8,SU,hS.wrap];exact eS (by show 0<=d;omega) (by show d<_;omega)
   cbv;refine hS.cl cc ?_;cbv;rw[z4];refine bF (dF (hS.lt ..) VR) (bT z2 (nd (by rw[hS.le];rfl) (nd z3 ⟨_,hS.call c1,?_⟩)));cbv;refine hS.cl c2 ?_;cbv;exact aC hF
  ·have h0:nl b≠0:=fun h=>hb (jY.1 h)
   exact⟨_,_,rfl,rfl,yR hr hs (by omega) (by omega) dY⟩
end Go.Proofs.YtekefilngojelaaGreat
end
section
namespace Go.Abs.M
theorem gK {x y q r:Int} (hy:y≠0) (h:x=y*q+r) (h0:0<=r) (h1:r<y.natAbs):x/y=q/\x%y=r:=by
 rcases Int.lt_or_lt_of_ne hy with Dq|ng
 ·have e:x=r+(-y)*(-q):=by rw[Int.neg_mul_neg];omega
  have a:x/(-y)=-q:=by rw[e,Int.add_mul_ediv_left _ _ (by omega),Int.ediv_eq_zero_of_lt h0 (by omega)];omega
  have b:x%(-y)=r:=by rw[e,Int.add_mul_emod_self_left,Int.emod_eq_of_lt h0 (by omega)]
  rw[Int.ediv_neg]at a;rw[Int.emod_neg]at b;exact⟨by omega,b⟩
 ·have e:x=r+y*q:=by omega
  refine⟨?_,?_⟩
  ·rw[e,Int.add_mul_ediv_left _ _ (by omega),Int.ediv_eq_zero_of_lt h0 (by omega)];omega
  ·rw[e,Int.add_mul_emod_self_left,Int.emod_eq_of_lt h0 (by omega)]
theorem HH {x y:Int} (hy:y≠0) :
  (¬(x<0/\x.natAbs%y.natAbs≠0)->(x/y).natAbs=x.natAbs/y.natAbs/\(x%y)=(x.natAbs%y.natAbs:Nat)) /\
  (x<0/\x.natAbs%y.natAbs≠0->(x/y).natAbs=x.natAbs/y.natAbs+1/\(x%y)=(y.natAbs-x.natAbs%y.natAbs:Nat)) /\
  (x/y<0↔((x<0↔¬y<0)/\x/y≠0)):=by
 have hya:y.natAbs≠0:=by omega
 have hdm:=Nat.div_add_mod x.natAbs y.natAbs;have bJ:=Nat.mod_lt x.natAbs (show 0<y.natAbs by omega);generalize hk:x.natAbs/y.natAbs=k at *;generalize hr:x.natAbs%y.natAbs=r at *;have MV:(y.natAbs:Int)*k+r=x.natAbs:=by exact_mod_cast hdm
 rcases Int.lt_or_le x 0 with hx|hx<;>rcases Int.lt_or_lt_of_ne hy with hy'|hy'
 ·have ey:(y.natAbs:Int)=-y:=by omega
  have ex:(x.natAbs:Int)=-x:=by omega
  rw[ey,ex]at MV
  by_cases h0:r=0
  ·obtain⟨a,b⟩:=gK (x:=x) (q:=k) (r:=0) hy (by rw[h0]at MV;simp at MV;rw[Int.neg_mul]at MV;omega) (by omega) (by omega)
   refine⟨fun _=>⟨by rw[a];rfl,by rw[b,h0];rfl⟩,fun h=>absurd h0 h.2,by rw[a];omega⟩
  ·obtain⟨a,b⟩:=gK (x:=x) (q:=k+1) (r:=y.natAbs-r) hy (by rw[ey,Int.mul_add];rw[Int.neg_mul]at MV;omega) (by omega) (by omega)
   refine⟨fun h=>absurd ⟨hx,h0⟩ h,fun _=>⟨by rw[a];omega,by rw[b];omega⟩,by rw[a];omega⟩
 ·have ey:(y.natAbs:Int)=y:=by omega
  have ex:(x.natAbs:Int)=-x:=by omega
  rw[ey,ex]at MV
  by_cases h0:r=0
  ·obtain⟨a,b⟩:=gK (x:=x) (q:=-k) (r:=0) hy (by rw[h0]at MV;simp at MV;rw[Int.mul_neg];omega) (by omega) (by omega)
   refine⟨fun _=>⟨by rw[a];omega,by rw[b,h0];rfl⟩,fun h=>absurd h0 h.2,by rw[a];omega⟩
  ·obtain⟨a,b⟩:=gK (x:=x) (q:=-k-1) (r:=y.natAbs-r) hy (by rw[ey,Int.mul_sub,Int.mul_neg];omega) (by omega) (by omega)
   refine⟨fun h=>absurd ⟨hx,h0⟩ h,fun _=>⟨by rw[a];omega,by rw[b];omega⟩,by rw[a];omega⟩
 ·have ey:(y.natAbs:Int)=-y:=by omega
  have ex:(x.natAbs:Int)=x:=by omega
  rw[ey,ex]at MV;obtain⟨a,b⟩:=gK (x:=x) (q:=-k) (r:=r) hy (by rw[Int.mul_neg];rw[Int.neg_mul]at MV;omega) (by omega) (by omega);refine⟨fun _=>⟨by rw[a];omega,b⟩,fun h=>absurd h.1 (by omega),by rw[a];omega⟩
 ·have ey:(y.natAbs:Int)=y:=by omega
  have ex:(x.natAbs:Int)=x:=by omega
  rw[ey,ex]at MV;obtain⟨a,b⟩:=gK (x:=x) (q:=k) (r:=r) hy (by omega) (by omega) (by omega);refine⟨fun _=>⟨by rw[a];omega,b⟩,fun h=>absurd h.1 (by omega),by rw[a];omega⟩
end Go.Abs.M
end
section
namespace Go.Proofs.YtekefilngojelaaGreat
open Go Go.Abs Go.Abs.M Go.Proofs
theorem ml {x y:Int} {s t:Bool} {r q:Abs.Rows} (hx:eZ x s r) (hy:eZ y t q) (qF:y≠0) (h1:nl x.natAbs<=274877906944) (h2:nl y.natAbs<=274877906944) :
  ∃u w p,eZ (x/y) u w/\eZ (x%y) false p/\aH 94 [.val (.agg (iT s r)),.val (.agg (iT t q))] ⟨[.val (.agg (iT u w)),.val (.agg (iT false p)),.val (ti .i64 0)],[none,none]⟩:=by
 obtain⟨a1,a2,Ux,Lu,cd⟩:=pG hx.m hy.m (by omega) (by omega) (by omega);obtain⟨m1,m2,m3⟩:=HH (x:=x) qF;obtain⟨u,hu⟩:=aq (decide (x/y<0));obtain⟨w,hw⟩:∃w,mO (x/y).natAbs w:=⟨_,rfl⟩;obtain⟨p,hp⟩:∃p,mO (x%y).natAbs p:=⟨_,rfl⟩;have Rb:=Int.emod_nonneg x qF;have hyn:y.natAbs≠0:=by omega
 have aaV:x.natAbs/y.natAbs<=x.natAbs:=Nat.div_le_self ..;have SV:x.natAbs%y.natAbs<y.natAbs:=Nat.mod_lt _ (by omega);have hs:=hx.s;have ht:=hy.s;have hbq:nl (x/y).natAbs<=549755813888:=by
  have a:=Fp (show(x/y).natAbs<=x.natAbs+1 by
   by_cases h:x<0/\x.natAbs%y.natAbs≠0
   ·have:=(m2 h).1;omega
   ·have:=(m1 h).1;omega)
  have b:=xm x.natAbs 1;have c:nl 1<=1:=tU (by omega);omega
 have V9:nl (x%y).natAbs<=549755813888:=by
  have a:=Fp (show(x%y).natAbs<=y.natAbs by
   by_cases h:x<0/\x.natAbs%y.natAbs≠0
   ·have:=(m2 h).2;omega
   ·have:=(m1 h).2;omega)
  omega
 have Wg:=nS (!(s==t)) u hw (by omega) (by
  rw[hu,hs,ht,Bool.eq_iff_iff]
  by_cases h:x<0<;>by_cases h':y<0<;>simp[h,h']at m3 ⊢ <;> omega)
 have Wh:=nS false false hp (by omega) rfl;have Uz:q.length=nl y.natAbs:=hy.m.len;have afw:nl y.natAbs≠0:=fun h=>hyn (jY.1 h)
 have Wi:a2.length=nl (x.natAbs%y.natAbs):=Lu.len;have afx:=@jY (x.natAbs%y.natAbs);refine⟨u,w,p,⟨hu,hw⟩,⟨(decide_eq_false (by omega)).symm,hp⟩,?_⟩
 by_cases hc:x<0/\x.natAbs%y.natAbs≠0
 ·obtain⟨n1,n2⟩:=m2 hc
  have ca:=uQ (s:=W .u32 [1]) Ux rfl (by have:=Fp aaV;unfold nl at *;omega) (by simp) (jz _) (Wd.cons (by omega) (by omega) Wd.nil);have ct:=nP hy.m Lu (by unfold nl at *;omega) (by have:=Fp (Nat.le_of_lt SV);unfold nl at *;omega) (jz _) (jz _) (by rw[jH,jH];omega);rw[jH,jH]at ct;rw[jH,show val [1]=1 from rfl]at ca;have e1:W .u32 (dg (((x.natAbs/y.natAbs:Nat):Int)+1).toNat)=w:=by rw[hw];congr 2;omega
  have e2:W .u32 (dg ((y.natAbs:Int)-((x.natAbs%y.natAbs:Nat):Int)).toNat)=p:=by rw[hp];congr 2;omega
  rw[e1]at ca;rw[e2]at ct;have sW:s=true:=by rw[hs];exact decide_eq_true hc.1
  subst sW;clear m1 m2 m3 hbq V9;refine an ai mixed [.val,.val,.val] Tryz.func94 rfl rfl (by kernel_rfl) ?_;intros;rename_i zT _ zV _ _ _ _ _ _ _ _ zz _ _ _ _ _ _ _ ab _ _ _ _ _ a9 aD _ _ _ _ _ _ _ _ _ _ _ _ A L F hS hF;have z1:zT (zz (ab q)) 0=false:=by rw[hS.len,Uz,hS.az,hS.eq];exact decide_eq_false (by omega)
  have z2:zV 0 (zz (ab a2))=true:=by rw[hS.len,Wi,hS.az,hS.lt];exact decide_eq_true (by omega)
  have z3:aD [[.v (.int .u32 1)]] 0 1=W .u32 [1]:=by rw[hS.part];rfl
  have z4:a9 0 1 [[.v (.int .u32 1)]]=true:=by rw[hS.fit];rfl
  cbv;refine bF z1 ⟨_,hS.call cd,?_⟩;cbv;refine bT rfl (bT z2 (nd z4 ?_));rw[z3];refine hS.cl ca ?_;cbv;refine hS.cl ct ?_;cbv;rw[hS.bne];refine hS.cl Wg ?_;cbv;refine hS.cl Wh ?_;cbv;exact aC hF
 ·obtain⟨n1,n2⟩:=m1 hc
  obtain rfl:w=a1:=by rw[hw,Ux,n1]
  obtain rfl:p=a2:=by rw[hp,Lu,n2];rfl
  clear m1 m2 m3 hbq V9;refine an ai mixed [.val,.val,.val] Tryz.func94 rfl rfl (by kernel_rfl) ?_;intros;rename_i zT _ zV _ _ _ _ _ _ _ _ zz _ _ _ _ _ _ _ ab _ _ _ _ _ a9 aD _ _ _ _ _ _ _ _ _ _ _ _ A L F hS hF;have z1:zT (zz (ab q)) 0=false:=by rw[hS.len,Uz,hS.az,hS.eq];exact decide_eq_false (by omega)
  have z2:s=true->zV 0 (zz (ab p))=false:=fun h=>by
   rw[hS.len,Wi,hS.az,hS.lt];rw[h]at hs;have:=of_decide_eq_true hs.symm;exact decide_eq_false (by omega)
  have fin:=hS.call Wg;cbv;refine bF z1 ⟨_,hS.call cd,?_⟩;cbv;refine⟨fun h=>bF (z2 h) ?_,fun h=>?_⟩
  all_goals
   rw[hS.bne];refine⟨_,fin,?_⟩;cbv;refine hS.cl Wh ?_;cbv;exact aC hF
theorem rQ {l:List Int} {r:Abs.Rows} (n:Int) (hr:r=W .u32 l) (hl:l.length<=2) (hw:Wd l) (hn:n=val l):aH 159 [.val (tl r)] ⟨[.val (ti .u64 n)],[none]⟩:=by
 have a:=hw.get 0;have b:=hw.get 1;have c1:=gC 1 hr (by omega) hw (by omega);have c0:=gC 0 hr (by omega) hw (by omega);have hv:val l=l.getD 0 0+4294967296*l.getD 1 0:=by
  match l,hl with
  | [],_=>rfl
  | [x],_=>simp[val]
  | [x,y],_=>simp[val]
 rw[show(1:Int).toNat=1 from rfl]at c1;rw[show(0:Int).toNat=0 from rfl]at c0;generalize l.getD 0 0=x,l.getD 1 0=y at *;refine an ai mixed [.val] Tryz.func159 rfl rfl (by kernel_rfl) ?_;intros;rename_i A L F hS hF;cbv;refine hS.cl c1 ?_;cbv;refine hS.cl c0 ?_;cbv;refine bc hF (kx ?_);rw[hn,hv,hS.wrap,hS.wrap,hS.mul,hS.add,eS (x:=y*4294967296) (by omega) (by omega),eS (by omega) (by omega)]
 omega
def qJ (a b:Int):St:=ae 14 [vi .u64 a,vi .u64 b] [none,none]
theorem Dr (a b:Nat) (g:Int) (ha:a<18446744073709551616) (hb:b<18446744073709551616) (hg:g=Nat.gcd a b):aH 158 [.val (ti .u64 a),.val (ti .u64 b)] ⟨[.val (ti .u64 g)],[none,none]⟩:=by
 obtain⟨x,hx⟩:=aq (a:Int);obtain⟨y,hy⟩:=aq (b:Int);rw[<-hx,<-hy];refine an ai mixed [.val] Tryz.func158 rfl rfl (by kernel_rfl) fun _ _ _ _ _ zJ _ _ _ _ _ _ _ zU zV _ _ _ _ _ _ _ _ zz _ _ _ _ _ _ _ _ _ _ _ _ _ _ _ _ _ _ _ _ _ _ _ _ _ _ _ A L F hS hF=>?_
 cbv;refine fW ai mixed hS (fun(m:Nat) s=>∃c:Nat,c<18446744073709551616/\m<18446744073709551616/\Nat.gcd c m=Nat.gcd a b/\s=qJ (zz c) (zz m)) (n:=b) (s0:=qJ (zz a) (zz b)) (fy ?_ ?_) rfl (Nat.le_refl 2) ?_ ?_
 ·simp[dS,qJ,ae,vi,hS.az,hx,hy]
 ·simp[dU,qJ,ae]
 ·exact⟨a,ha,hb,rfl,rfl⟩
 ·rintro m _ ⟨c,hc,hm,Dl,rfl⟩
  have e1:0<m->zJ (zz c) (zz m)=zz (c%m):=fun h=>by rw[hS.rem,hS.az,hS.az,hS.az,Int.tmod_eq_emod_of_nonneg (by omega)];rfl
  have e2:zV 0 (zz m)=decide (0<m):=by
   rw[hS.lt,hS.az]
   by_cases h:0<m
   ·rw[decide_eq_true h];exact decide_eq_true (by omega)
   ·rw[decide_eq_false h];exact decide_eq_false (by omega)
  have e3:0<m->zU (zz m) 0=true:=fun h=>by rw[hS.ne,hS.az];exact decide_eq_true (by omega)
  have e4:m=0->zz c=g:=fun h=>by subst h;rw[Nat.gcd_zero_right]at Dl;rw[hS.az,hg,Dl]
  cbv;refine⟨fun h=>?_,fun h=>?_⟩
  all_goals rw[e2]at h
  ·have h:=of_decide_eq_true h
   rw[e1 h];apply nd (e3 h);refine again (s':=qJ (zz m) (zz (c%m))) (m:=c%m) (by simp[dS,qJ,ae,vi]) (by simp[dU,qJ,ae]) rfl (Nat.le_refl 2) (Nat.mod_lt _ h) ⟨m,hm,?_,?_,rfl⟩
   ·have:=Nat.mod_lt c h;omega
   ·rw[<-Dl,Nat.gcd_comm c m,Nat.gcd_rec m c,Nat.gcd_comm]
  ·have h:=of_decide_eq_false h
   exact bc hF (kx (e4 (by omega)))
def mm (r s:Abs.Rows):St:=ae 33 [vl r,vl s,.af,.af,fH] [none,none]
theorem Ds {r s w:Abs.Rows} {a b:Nat} (hr:mO a r) (hs:mO b s) (h1:nl a<=274877906944) (h2:nl b<=274877906944) (hg:mO (Nat.gcd a b) w):aH 131 [.val (tl r),.val (tl s)] ⟨[.val (tl w)],[none,none]⟩:=by
 refine an ai mixed [.val] Tryz.func131 rfl rfl (by kernel_rfl) ?_;intros;rename_i zV zX _ _ _ _ _ _ _ zz _ _ _ _ _ _ _ ab _ _ _ _ _ _ _ _ _ _ _ _ _ _ _ _ _ _ _ A L F hS hF;cbv;refine fW ai mixed hS (fun(m:Nat) s=>∃(c:Nat) (x y:Abs.Rows),mO c x/\mO m y/\nl c<=274877906944/\nl m<=274877906944/\Nat.gcd c m=Nat.gcd a b/\s=mm x y) (n:=b) (s0:=mm r s) (fy ?_ ?_) rfl (Nat.le_refl 2) ?_ ?_
 ·simp[dS,mm,ae,vl,fH]
 ·simp[dU,mm,ae]
 ·exact⟨a,r,s,hr,hs,h1,h2,rfl,rfl⟩
 ·rintro m _ ⟨c,x,y,hx,hy,l1,l2,Dl,rfl⟩
  have hmz:=@jY m;have Wj:ab x=nl c:=by rw[hS.len,hx.len]
  have hyl:ab y=nl m:=by rw[hS.len,hy.len]
  have e1:zV 0 (zz (ab y))=decide (m≠0):=by
   rw[hyl,hS.lt,hS.az]
   by_cases h:m=0
   ·rw[decide_eq_false (show ¬m≠0 by omega)];exact decide_eq_false (by omega)
   ·rw[decide_eq_true h];exact decide_eq_true (by omega)
  have e2:zX (zz (ab x)) 2=decide (nl c<=2):=by
   rw[Wj,hS.le,hS.az]
   by_cases h:nl c<=2
   ·rw[decide_eq_true h];exact decide_eq_true (by omega)
   ·rw[decide_eq_false h];exact decide_eq_false (by omega)
  have e3:zX (zz (ab y)) 2=decide (nl m<=2):=by
   rw[hyl,hS.le,hS.az]
   by_cases h:nl m<=2
   ·rw[decide_eq_true h];exact decide_eq_true (by omega)
   ·rw[decide_eq_false h];exact decide_eq_false (by omega)
  have hdiv:m≠0->∃p q,mO (c/m) p/\mO (c%m) q/\aH 128 [.val (tl x),.val (tl y)] ⟨[.val (tl p),.val (tl q)],[none,none]⟩:=fun h=>pG hx hy h (by omega) (by omega)
  have SW:nl c<=2->nl m<=2->∃(c' m' g:Int),aH 159 [.val (tl x)] ⟨[.val (ti .u64 c')],[none]⟩/\aH 159 [.val (tl y)] ⟨[.val (ti .u64 m')],[none]⟩ /\
    aH 158 [.val (ti .u64 c'),.val (ti .u64 m')] ⟨[.val (ti .u64 g)],[none,none]⟩/\aH 113 [.val (ti .u64 g)] ⟨[.val (tl w)],[none]⟩:=fun k1 k2=>by
   have b1:=nO c;have b2:=nO m;have b3:=jX k1;have b4:=jX k2;have n1:=rQ (c:Int) hx k1 (jz _) (by rw[jH]);have n2:=rQ (m:Int) hy k2 (jz _) (by rw[jH]);have I3:Nat.gcd c m<18446744073709551616:=by
    by_cases h:m=0
    ·subst h;rw[Nat.gcd_zero_right];omega
    ·have:=Nat.gcd_le_right c (Nat.pos_of_ne_zero h);omega
   have n4:=jZ (Nat.gcd c m:Int) (by omega) (by omega);rw[Int.toNat_natCast,Dl,<-show w=W .u32 (dg (Nat.gcd a b)) from hg,<-Dl]at n4;exact⟨_,_,_,n1,n2,Dr c m _ (by omega) (by omega) rfl,n4⟩
  have eU:m=0->x=w:=fun h=>by
   subst h;rw[Nat.gcd_zero_right]at Dl;rw[hx,hg,Dl]
  cbv;refine⟨fun h=>?_,fun h=>?_⟩
  all_goals rw[e1]at h
  ·have h:=of_decide_eq_true h
   have go:∀(H:Prop),(∀p q,mO (c%m) q->aH 128 [.val (tl x),.val (tl y)] ⟨[.val (tl p),.val (tl q)],[none,none]⟩->H)->H:=fun H k=>by
    obtain⟨p,q,_,hq,cd⟩:=hdiv h;exact k p q hq cd
   have nx:∀q,mO (c%m) q->∃(c':Nat) (x' y':Abs.Rows),mO c' x'/\mO (c%m) y'/\nl c'<=274877906944/\nl (c%m)<=274877906944/\Nat.gcd c' (c%m)=Nat.gcd a b/\mm y q=mm x' y':=fun q hq=>
    ⟨m,y,q,hy,hq,l2,Nat.le_trans (Fp (Nat.le_of_lt (Nat.mod_lt _ (Nat.pos_of_ne_zero h)))) l2,by rw[<-Dl,Nat.gcd_comm c m,Nat.gcd_rec m c,Nat.gcd_comm],rfl⟩
   refine⟨fun h2=>⟨fun h3=>?_,fun h3=>?_⟩,fun h2=>?_⟩
   ·rw[e2]at h2
    rw[e3]at h3;obtain⟨c',m',g,n1,n2,n3,n4⟩:=SW (of_decide_eq_true h2) (of_decide_eq_true h3);refine hS.cl n1 ?_;cbv;refine hS.cl n2 ?_;cbv;refine hS.cl n3 ?_;cbv;refine hS.cl n4 ?_;cbv;exact aC hF
   all_goals
    refine go _ fun p q hq cd=>?_
    refine hS.cl cd ?_;cbv;exact again (s':=mm y q) (m:=c%m) (by simp[dS,mm,ae,vl,fH]) (by simp[dU,mm,ae]) rfl (Nat.le_refl 2) (Nat.mod_lt _ (Nat.pos_of_ne_zero h)) (nx q hq)
  ·have h:=of_decide_eq_false h
   rw[eU (by omega)];exact aC hF
theorem oI {x y:Int} {s t:Bool} {r q:Abs.Rows} (hx:eZ x s r) (hy:eZ y t q) (h1:nl x.natAbs<=274877906944) (h2:nl y.natAbs<=274877906944) :
  ∃w,eZ (Int.gcd x y) false w/\aH 95 [.val (.agg (iT s r)),.val (.agg (iT t q))] ⟨[.val (.agg (iT false w))],[none,none]⟩:=by
 obtain⟨w,hw⟩:∃w,mO (Int.gcd x y) w:=⟨_,rfl⟩;have c1:=Ds (w:=w) hx.m hy.m h1 h2 hw;have hb:nl (Int.gcd x y)<=2199023255552:=by
  by_cases h:x=0
  ·subst h
   have:Int.gcd 0 y=y.natAbs:=by simp[Int.gcd]
   rw[this];omega
  ·have:Int.gcd x y<=x.natAbs:=Nat.gcd_le_left _ (by omega)
   have:=Fp this;omega
 have c2:=nS false false hw hb rfl;refine⟨w,⟨(decide_eq_false (by omega)).symm,hw⟩,?_⟩;refine an ai mixed [.val] Tryz.func95 rfl rfl (by kernel_rfl) ?_;intros;rename_i A L F hS hF;cbv;refine hS.cl c1 ?_;cbv;refine hS.cl c2 ?_;cbv;exact aC hF
end Go.Proofs.YtekefilngojelaaGreat
end
section
namespace Go.Abs
open Go.Abs.M
structure xq (x:Rat) (s:Bool) (r:Rows) (t:Bool) (q:Rows):Prop where
 n:eZ x.num s r
 d:eZ (x.den:Int) t q
theorem mn {n d:Int} (hd:d≠0):n/(if d<0 then -(Int.gcd n d:Int) else(Int.gcd n d:Int))=(Rat.divInt n d).num:=by
 rw[Rat.num_divInt,Int.gcd_comm d n];have SX:((Int.gcd n d:Nat):Int)∣n:=Int.gcd_dvd_left ..
 by_cases h:d<0
 ·rw[if_pos h,Int.ediv_neg,Int.sign_eq_neg_one_of_neg h,Int.neg_one_mul,Int.neg_ediv_of_dvd SX]
 ·rw[if_neg h,Int.sign_eq_one_of_pos (by omega),Int.one_mul]
theorem mo {n d:Int} (hd:d≠0):d/(if d<0 then -(Int.gcd n d:Int) else(Int.gcd n d:Int))=((Rat.divInt n d).den:Int):=by
 rw[Rat.den_divInt,if_neg hd,Int.gcd_comm d n];have SX:((Int.gcd n d:Nat):Int)∣d:=Int.gcd_dvd_right ..
 by_cases h:d<0
 ·rw[if_pos h,Int.ediv_neg,<-Int.neg_ediv_of_dvd SX,show -d=(d.natAbs:Int) by omega];rfl
 ·rw[if_neg h]
  conv=>lhs;rw[show d=(d.natAbs:Int) by omega]
  rfl
end Go.Abs
end
section
namespace Go.Proofs.YtekefilngojelaaGreat
open Go Go.Abs Go.Abs.M Go.Proofs
theorem j5 {x y:Int} {s t:Bool} {r q:Abs.Rows} (hx:eZ x s r) (hy:eZ y t q) (qF:y≠0) (h1:nl x.natAbs<=274877906944) (h2:nl y.natAbs<=274877906944) :
  ∃u w,eZ (x/y) u w/\aH 135 [.val (.agg (iT s r)),.val (.agg (iT t q))] ⟨[.val (.agg (iT u w))],[none,none]⟩:=by
 obtain⟨u,w,p,hu,hp,cd⟩:=ml hx hy qF h1 h2;refine⟨u,w,hu,?_⟩;refine an ai mixed [.val] Tryz.func135 rfl rfl (by kernel_rfl) ?_;intros;rename_i A L F hS hF;cbv;refine hS.cl cd ?_;cbv;exact aC hF
theorem UA {x y:Int} {s t:Bool} {r q:Abs.Rows} (hx:eZ x s r) (hy:eZ y t q) (qF:y≠0) (h1:nl x.natAbs<=274877906944) (h2:nl y.natAbs<=274877906944) :
  ∃u w v p,xq (Rat.divInt x y) u w v p/\aH 101 [.val (.agg (iT s r)),.val (.agg (iT t q))] ⟨[.val (.agg (iT u w++iT v p))],[none,none]⟩:=by
 obtain⟨g,hg,cg⟩:=oI hx hy h1 h2;have hgp:Int.gcd x y≠0:=by
  intro h;rw[Int.gcd_eq_zero_iff]at h;exact qF h.2
 have Pw:nl (Int.gcd x y)<=274877906944:=by
  have:Int.gcd x y<=y.natAbs:=Nat.gcd_le_right _ (by omega);have:=Fp this;omega
 have cs:=mi (bH y 0) hy rfl;obtain⟨a,b,hn,cn⟩:=AY hg (by rw[Int.natAbs_natCast];omega)
 by_cases Dq:y<0
 ·obtain⟨u,w,hu,c1⟩:=j5 hx hn (by omega) h1 (by rw[Int.natAbs_neg,Int.natAbs_natCast];exact Pw)
  obtain⟨v,p,hv,c2⟩:=j5 hy hn (by omega) h2 (by rw[Int.natAbs_neg,Int.natAbs_natCast];exact Pw);have e1:=mn (n:=x) qF;have e2:=mo (n:=x) qF;rw[if_pos Dq]at e1 e2;refine⟨u,w,v,p,⟨hu.of e1,hv.of e2⟩,?_⟩;rw[gg Dq]at cs;refine an ai mixed [.val] Tryz.func101 rfl rfl (by kernel_rfl) ?_;intros;rename_i A L F hS hF;cbv;refine hS.cl cg ?_;cbv;refine hS.cl cs ?_
  cbv;refine bT (by rw[hS.lt];rfl) ⟨_,hS.call cn,?_⟩;cbv;refine hS.cl c1 ?_;cbv;refine hS.cl c2 ?_;cbv;exact aC hF
 ·obtain⟨u,w,hu,c1⟩:=j5 hx hg (by omega) h1 (by rw[Int.natAbs_natCast];exact Pw)
  obtain⟨v,p,hv,c2⟩:=j5 hy hg (by omega) h2 (by rw[Int.natAbs_natCast];exact Pw);have e1:=mn (n:=x) qF;have e2:=mo (n:=x) qF;rw[if_neg Dq]at e1 e2;refine⟨u,w,v,p,⟨hu.of e1,hv.of e2⟩,?_⟩;rw[iN (by omega)]at cs;refine an ai mixed [.val] Tryz.func101 rfl rfl (by kernel_rfl) ?_;intros;rename_i A L F hS hF;cbv;refine hS.cl cg ?_;cbv;refine hS.cl cs ?_;cbv
  refine bF (by rw[hS.lt];rfl) ⟨_,hS.call c1,?_⟩;cbv;refine hS.cl c2 ?_;cbv;exact aC hF
end Go.Proofs.YtekefilngojelaaGreat
end
section
namespace Go.Abs
theorem Px {k:IntKind} {a b:Int} (n:Nat) (hb:b=n) (hn:n<=k.bits) (ha:0<=a):ZI.cJ.shr k a b=a/2^n:=by
 rw[hb];show a.fdiv (2^(Min.min ((n:Int).toNat) k.bits))=_
 rw[Int.toNat_natCast,Nat.min_eq_left hn,Int.fdiv_eq_ediv_of_nonneg _ (Int.le_of_lt (Int.pow_pos (by omega)))]
theorem Rc {a:Int} (h0:0<=a):ZI.cJ.shr .u64 a 32=a/4294967296:=by
 rw[Px (b:=32) 32 rfl (by decide) h0];rfl
end Go.Abs
end
section
namespace Go.Proofs.YtekefilngojelaaGreat
open Go Go.Abs Go.Abs.M Go.Proofs
def mq (r:Abs.Rows) (n:Int):St:=ae 21 [vl r,.af,fH,vi .i64 n] [none]
theorem qK {r:Abs.Rows} {l:List Int} (hr:r=W .u32 l) (hl:l.length<=2199023255552) (hw:Wd l):aH 180 [.val (.c (.aa false r))] ⟨[.val (.c (.aa false (W .u32 (dg (val l).toNat))))],[none]⟩:=by
 refine an ai mixed [.val] Tryz.func180 rfl rfl (by kernel_rfl) fun zD _ zG _ _ _ _ _ _ _ _ _ _ _ _ _ _ _ _ _ _ zu _ zz _ _ _ _ bI _ _ ab _ _ _ ar _ _ aD _ _ _ aM _ _ _ _ _ _ _ _ A L F hS hF=>?_
 have hlen:ab r=l.length:=by rw[hS.len,hr,jr]
 cbv;refine fW ai mixed hS (fun m s=>∃n:Nat,n=m/\n<=l.length/\val (l.take n)=val l/\s=mq r (zz n)) (n:=l.length) (s0:=mq r (zz l.length)) (fy ?_ ?_) rfl (Nat.le_refl 1) ?_ ?_
 ·simp[dS,mq,ae,fH,vi,vl,hlen]
 ·simp[dU,mq,ae]
 ·exact⟨_,rfl,Nat.le_refl _,by rw[List.take_length],rfl⟩
 ·rintro m _ ⟨n,rfl,hn,hv,rfl⟩
  have hp:0<n->zD .i64 (zG (zz n) 1)=zz (n-1):=fun h=>by rw[hS.wrap,hS.sub,hS.az,hS.az,wrap_i64 (by omega) (by omega)];omega
  have hg:0<n->ar r (zu (zz (n-1)))=l.getD (n-1) 0:=fun h=>by rw[hS.dK,hS.nat,hS.az,hr,m8,Int.toNat_natCast]
  have hc:bI 0 (zz n) (ab r)=true:=by rw[hS.cut,hlen,hS.az];exact decide_eq_true (by omega)
  have SF:aM 1 r=true:=by rw[hS.wide,hr];exact HA _ _
  have V2:n=0∨l.getD (n-1) 0≠0->F ⟨[.val (.c (.aa false (aD r 0 (zu (zz n)))))],[none]⟩:=fun h=>bc hF (by
   rw[hS.part,hS.nat,hS.az,hr,kv,Int.toNat_natCast,List.drop_zero,I0 hw hn hv h])
  cbv;refine⟨fun h=>?_,fun h=>nd hc (nd SF (V2 ?_))⟩
  all_goals rw[hS.lt,hS.az]at h
  ·have h:0<n:=by simpa using h
   rw[hp h,hg h];refine nd (by rw[hS.le,hS.az];exact decide_eq_true (by omega)) (nd (by rw[hS.gM,hS.nat,hS.az,hr,kY];exact decide_eq_true (by omega)) ⟨fun h2=>?_,fun h2=>nd hc (nd SF (V2 (.inr ?_)))⟩)
   all_goals rw[hS.eq]at h2
   ·refine again (s':=mq r (zz (n-1))) (m:=n-1) (by simp[dS,mq,ae,fH,vi,vl]) (by simp[dU,mq,ae]) rfl (Nat.le_refl 1) (by omega) ⟨_,rfl,by omega,?_,rfl⟩
    have:=ky (l:=l) (k:=n-1) (by omega);rw[show n-1+1=n by omega,of_decide_eq_true h2]at this;omega
   ·exact of_decide_eq_false h2
  ·exact .inl (by simpa using h)
theorem FD (n:Int) (hn:0<=n) (Ka:n<18446744073709551616):aH 177 [.val (ti .u64 n)] ⟨[.val (tl (W .u32 (dg n.toNat)))],[none]⟩:=by
 refine an ai mixed [.val] Tryz.func177 rfl rfl (by kernel_rfl) fun zD _ _ _ _ _ _ zM _ _ _ _ _ _ _ _ _ _ _ _ _ _ _ _ _ _ _ _ _ _ _ _ _ _ _ _ _ _ _ _ _ _ _ _ _ _ _ _ _ _ _ A L F hS hF=>?_
 have e1:zD .u32 n=n%4294967296:=by rw[hS.wrap];exact AQ _
 have e2:zD .u32 (zM .u64 n 32)=n/4294967296:=by
  rw[show zM .u64 n 32=ZI.cJ.shr .u64 n 32 from hS.shr ..,Rc hn,hS.wrap];exact LB (by omega) (by omega)
 have hT:=qK (r:=W .u32 [n%4294967296,n/4294967296]) rfl (by simp) (Wd.cons (by omega) (by omega) (Wd.cons (by omega) (by omega) Wd.nil));cbv;rw[e1,e2];apply nd (by rw[hS.fit];rfl);rw[hS.part];refine hS.cl hT ?_;rw[show val [n%4294967296,n/4294967296]=n by simp only[val];omega];generalize W .u32 (dg n.toNat)=x at *;cbv;exact aC hF
theorem Dt {r:Abs.Rows} {l:List Int} (s t:Bool) (hr:r=W .u32 l) (hl:l.length<=2199023255552) (hw:Wd l) (ht:t=(s&&decide (0<val l))):aH 176 [.val (tb s),.val (tl r)] ⟨[.val (.agg (iT t (W .u32 (dg (val l).toNat))))],[none,none]⟩:=by
 refine an ai mixed [.val] Tryz.func176 rfl rfl (by kernel_rfl) ?_;intros;rename_i zT _ _ _ _ _ _ _ _ _ _ zz _ _ _ _ _ _ _ ab _ _ _ _ _ _ _ _ _ _ _ _ _ _ _ _ _ _ _ A L F hS hF;have hT:=qK hr hl hw;have hz:zT (zz (ab (W .u32 (dg (val l).toNat)))) 0=decide (¬0<val l):=by
  rw[hS.eq,hS.az,hS.len,jr];have:=sZ hw;have h2:=@jY (val l).toNat;unfold nl at h2
  by_cases h:0<val l
  ·rw[decide_eq_false (show ¬ ¬0<val l by omega)];exact decide_eq_false (by omega)
  ·rw[decide_eq_true h];exact decide_eq_true (by omega)
 have h0:¬0<val l->W .u32 (dg (val l).toNat)=[]:=fun h=>by rw[show(val l).toNat=0 by omega];rfl
 generalize W .u32 (dg (val l).toNat)=x at *;cbv;refine hS.cl hT ?_;cbv;rw[hz];refine⟨fun h=>ib hF ?_,fun h=>ib hF ?_⟩
 ·have h':=of_decide_eq_true h
  rw[ht,decide_eq_false h',Bool.and_false,h0 h'];exact⟨.v _,aY.drop _ _,trivial⟩
 ·have h':=of_decide_eq_false h
  rw[ht,decide_eq_true (by omega),Bool.and_true];exact jq.refl _
theorem MW {n:Nat} {r:Abs.Rows} (s t:Bool) (hr:mO n r) (hl:nl n<=2199023255552) (ht:t=(s&&decide (n≠0))):aH 176 [.val (tb s),.val (tl r)] ⟨[.val (.agg (iT t r))],[none,none]⟩:=by
 have h:=Dt s t hr hl (jz n) (by
  rw[jH,ht]
  by_cases h:n=0
  ·subst h;rfl
  ·rw[decide_eq_true h,decide_eq_true (by omega)])
 rw[jH,Int.toNat_natCast,<-hr]at h;exact h
def qL (r s:Abs.Rows) (i:Int):St:=ae 41 [vl r,vl s,.af,.af,vi .i64 0,vi .i64 i] [none,none]
theorem pH {r s:Abs.Rows} {l m:List Int} (c:Int) (hr:r=W .u32 l) (hs:s=W .u32 m) (hl:l.length<=2199023255552) (hm:m.length<=2199023255552) (vh:Wd l) (vM:Wd m) (bJ:Tr l) (hmt:Tr m) (hc:c=bH (val l) (val m)) :
  aH 171 [.val (tl r),.val (tl s)] ⟨[.val (ti .i64 c)],[none,none]⟩:=by
 refine an ai mixed [.val] Tryz.func171 rfl rfl (by kernel_rfl) fun zD _ zG _ _ _ _ _ _ _ _ _ _ _ _ zX _ _ _ _ _ zu _ zz _ _ _ _ _ _ _ ab _ _ aL ar _ _ _ _ _ _ _ _ _ _ _ _ _ _ _ A L F hS hF=>?_
 have h1:ab r=l.length:=by rw[hS.len,hr,jr]
 have h2:ab s=m.length:=by rw[hS.len,hs,jr]
 cbv;rw[h1,h2];refine⟨fun h=>⟨fun h'=>?_,fun h'=>?_⟩,fun h=>?_⟩
 all_goals rw[hS.ne,hS.az,hS.az]at h
 ·rw[hS.lt,hS.az,hS.az]at h'
  have h':(l.length:Int)<m.length:=of_decide_eq_true h';exact bc hF (kx (by rw[hc,gg (iM vh vM hmt (by omega))]))
 ·rw[hS.lt,hS.az,hS.az]at h'
  have h':=of_decide_eq_false h';have h:=of_decide_eq_true h;exact bc hF (kx (by rw[hc,iN (iM vM vh bJ (by omega))]))
 ·have h:=of_decide_eq_false h
  have hlen:l.length=m.length:=by omega
  have V4:zD .i64 (zG (zz l.length) 1)=zG (zz l.length) 1:=by rw[hS.wrap,hS.sub,hS.az];exact wrap_i64 (by omega) (by omega)
  rw[V4];refine fW ai mixed hS (fun(k:Nat) s'=>k<=l.length/\l.drop k=m.drop k/\s'=qL r s (zG (zz k) 1)) (n:=l.length) (s0:=qL r s (zG (zz l.length) 1)) (fy ?_ ?_) rfl (Nat.le_refl 2) ?_ ?_
  ·simp[dS,qL,ae,vi,vl]
  ·simp[dU,qL,ae]
  ·refine⟨Nat.le_refl _,?_,rfl⟩
   rw[List.drop_length,hlen,List.drop_length]
  ·rintro k _ ⟨hk,he,rfl⟩
   have hi:zG (zz k) 1=(k:Int)-1:=by rw[hS.sub,hS.az]
   have hz:zX 0 (zG (zz k) 1)=decide (1<=k):=by
    rw[hS.le,hi]
    by_cases h:1<=k
    ·rw[decide_eq_true h];exact decide_eq_true (by omega)
    ·rw[decide_eq_false h];exact decide_eq_false (by omega)
   have IM:1<=k->zu (zG (zz k) 1)=k-1:=fun h=>by rw[hS.nat,hi];omega
   have g1:1<=k->ar r (zu (zG (zz k) 1))=l.getD (k-1) 0:=fun h=>by rw[IM h,hS.dK,hr,m8]
   have g2:1<=k->ar s (zu (zG (zz k) 1))=m.getD (k-1) 0:=fun h=>by rw[IM h,hS.dK,hs,m8]
   have SH:∀x:Int,x=c->F ⟨[.val (.c (.v (.int .i64 x)))],[none,none]⟩:=fun x hx=>bc hF (kx hx)
   have Ka:1<=k->aL .u32 r (zu (zG (zz k) 1))=true:=fun h=>by rw[IM h,hS.gM,hr,kY];exact decide_eq_true (by omega)
   have V5:1<=k->aL .u32 s (zu (zG (zz k) 1))=true:=fun h=>by rw[IM h,hS.gM,hs,kY];exact decide_eq_true (by omega)
   have LC:1<=k->zD .i64 (zG (zG (zz k) 1) 1)=zG (zz (k-1)) 1:=fun h=>by rw[hi,hS.wrap,hS.sub,hS.sub,hS.az,wrap_i64 (by omega) (by omega)];omega
   cbv;refine⟨fun h=>?_,fun h=>SH _ ?_⟩
   ·have a1:=h
    rw[hz]at h;have h:=of_decide_eq_true h;have a2:=Ka h;have a3:=V5 h;rw[LC h,g1 h,g2 h];refine nd a1 (nd a2 (nd a1 (nd a3 ⟨fun h3=>nd a1 (nd a2 (nd a1 (nd a3 ⟨fun h4=>SH _ ?_,fun h4=>SH _ ?_⟩))),fun h3=>?_⟩)))
    all_goals rw[hS.ne]at h3
    ·rw[hS.lt]at h4
     rw[hc,gg (gW (i:=k-1) vh vM hlen (by omega) (by rw[show k-1+1=k by omega];exact he) (of_decide_eq_true h4))]
    ·rw[hS.lt]at h4
     have e3:=of_decide_eq_true h3;have e4:=of_decide_eq_false h4;rw[hc,iN (gW (i:=k-1) vM vh hlen.symm (by omega) (by rw[show k-1+1=k by omega];exact he.symm) (by omega))]
    ·refine again (s':=qL r s (zG (zz (k-1)) 1)) (m:=k-1) (by simp[dS,qL,ae,vi,vl]) (by simp[dU,qL,ae]) rfl (Nat.le_refl 2) (by omega) ⟨by omega,?_,rfl⟩
     have e3:=of_decide_eq_false h3;rw[kZ (show k-1<l.length by omega),kZ (show k-1<m.length by omega),show k-1+1=k by omega,he,show l.getD (k-1) 0=m.getD (k-1) 0 by omega]
   ·rw[hz]at h
    have h:=of_decide_eq_false h;obtain rfl:k=0:=by omega
    simp only[List.drop_zero]at he;rw[hc,he,I1]
def qM (r s R:Abs.Rows) (n:Nat) (len i:Int):St:=ae 70 [vl r,vl s,.af,.af,fH,.c (.sl 2 0 n false),.af,.af,.af,.af,.af,.af,.af,.af,.af,.af,.af,.af,vi .i64 len,vi .i64 i] [none,none,some (.rows 1 R true false)]
def mr (r s R:Abs.Rows) (n:Nat) (len i x c aaW j:Int):St:=ae 70 [vl r,vl s,.af,.af,fH,.c (.sl 2 0 n false),vi .i64 i,vi .u64 c,vi .u64 x,.af,.af,.af,.af,.af,.af,.af,.af,.af,vi .i64 len,vi .i64 i,.af,.af,.af,.af,.af,.af,.af,.af,vi .i64 aaW,vi .i64 j] [none,none,some (.rows 1 R true false)]
theorem yS {r s:Abs.Rows} {l m:List Int} (hr:r=W .u32 l) (hs:s=W .u32 m) (hl:l.length<=1099511627776) (hm:m.length<=1099511627776) (vh:Wd l) (vM:Wd m) :
  aH 178 [.val (tl r),.val (tl s)] ⟨[.val (tl (W .u32 (dg (val l*val m).toNat)))],[none,none]⟩:=by
 obtain⟨n,hn⟩:=aq (l.length+m.length:Nat);refine an ai mixed [.val] Tryz.func178 rfl rfl (by kernel_rfl) fun zD zE _ zH _ _ _ zM _ _ _ _ _ _ _ zX _ _ _ _ _ zu zy zz bg _ _ _ _ _ _ ab _ _ aL ar aR a9 aD _ _ bR _ _ _ _ _ _ _ zW _ A L F hS hF=>?_
 have h1:ab r=l.length:=by rw[hS.len,hr,jr]
 have h2:ab s=m.length:=by rw[hS.len,hs,jr]
 have hN:zD .i64 (zE (zz (ab r)) (zz (ab s)))=zz n:=by
  rw[h1,h2,hS.wrap,hS.add,hS.az,hS.az,hS.az,hn,wrap_i64 (by omega) (by omega)];omega
 have HE:zu (zz n)=n:=by rw[hS.nat,hS.az];omega
 have jB:bR n [.v (.int .u32 0)]=zW .u32 (List.replicate n 0):=by rw[hS.rep,hS.W];exact xk ..
 cbv;rw[hN,HE,jB];refine nd (by rw[hS.nG,hS.az];exact decide_eq_true (by unfold au;omega)) ?_;refine fW ai mixed hS (fun(u:Nat) s'=>∃(k:Nat) (o:List Int),k+u=l.length/\o.length=n/\Wd o/\val o=val (l.take k)*val m/\s'=qM r s (zW .u32 o) n (zz l.length) (zz k)) (n:=l.length)
  (s0:=qM r s (zW .u32 (List.replicate n 0)) n (zz l.length) (zz 0)) (fy ?_ ?_) rfl (Nat.le_succ 2) ?_ ?_
 ·simp[dS,qM,ae,vi,vl,fH,hS.az,h1]
 ·simp[dU,qM,ae]
 ·exact⟨0,_,by omega,by simp,Wd.rep _,by rw[Dj];simp[val],rfl⟩
 ·rintro u _ ⟨k,o,hk,ho,hw,hv,rfl⟩
  have gx:=vh.get k;have yJ:a9 0 n (zW .u32 o)=true:=by rw[hS.fit,hS.W,jr];exact decide_eq_true (by omega)
  have Kj:aD (zW .u32 o) 0 n=W .u32 o:=by rw[hS.part,hS.W,kv,List.drop_zero,List.take_of_length_le (by omega)]
  have hT:=qK (r:=W .u32 o) rfl (by omega) hw;have e6:=mg hS.lt hS.az k l.length;have SJ:k<l.length->aL .u32 r (zu (zz k))=true:=fun h=>by rw[hS.gM,hr,hS.nat,hS.az,kY];exact decide_eq_true (by omega)
  have MO:zX 0 (zz k)=true:=by rw[hS.le,hS.az];exact decide_eq_true (by omega)
  have e0:ar r (zu (zz k))=l.getD k 0:=by rw[hS.dK,hS.nat,hS.az,hr,m8,Int.toNat_natCast]
  have ew:zD .u64 (l.getD k 0)=l.getD k 0:=by rw[hS.wrap,eS (by omega) (by omega)]
  have hvk:=Eh l k;have eU:k=l.length->val o=val l*val m:=fun h=>by
   subst h;rw[List.take_of_length_le (Nat.le_refl _)]at hv;exact hv
  have kI:val o<4294967296^(k+m.length):=by
   rw[hv];have b:=Di (vh.take k);rw[List.length_take,Nat.min_eq_left (by omega)]at b;exact xo (sZ (vh.take k)) (sZ vM) b (Di vM)
  generalize Oo:l.getD k 0=x at *;cbv;refine⟨fun h=>?_,fun h=>?_⟩
  all_goals rw[e6]at h
  ·have h:=of_decide_eq_true h
   refine nd MO (nd (SJ h) ?_);refine fW ai mixed hS (fun(u':Nat) s'=>∃(j:Nat) (o':List Int) (c:Int),j+u'=m.length/\o'.length=n/\Wd o'/\(0<=c/\c<4294967296)/\o'.drop (k+j)=o.drop (k+j)/\val o'+c*4294967296^(k+j)=val o+x*4294967296^k*val (m.take j)/\s'=mr r s (zW .u32 o') n (zz l.length) (zz k) x c (zz m.length) (zz j)) (n:=m.length)
    (s0:=mr r s (zW .u32 o) n (zz l.length) (zz k) x 0 (zz m.length) (zz 0)) (fy ?_ ?_) rfl (Nat.le_succ 2) ?_ ?_
   ·have Vy:=e0
    rw[hS.az]at Vy;simp[dS,mr,ae,vi,vl,fH,hS.az,h2,Vy,ew]
   ·simp[dU,mr,ae]
   ·exact⟨0,_,0,by omega,ho,hw,by omega,rfl,by simp[val],rfl⟩
   ·rintro u' _ ⟨j,o',c,hj,V6,SK,hc,I4,sV,rfl⟩
    have gm:=vM.get j;have gw:=SK.get (k+j);have hb:=AW gx gm gw hc;obtain⟨t,ht⟩:=aq (x*m.getD j 0+o'.getD (k+j) 0+c);have dR:=Fq sV ht (Int.pow_add 4294967296 k j);have f6:=mg hS.lt hS.az j m.length;have f9:j<m.length->aL .u32 s (zu (zz j))=true:=fun h=>by rw[hS.gM,hs,hS.nat,hS.az,kY];exact decide_eq_true (by omega)
    have SL:zX 0 (zz j)=true:=by rw[hS.le,hS.az];exact decide_eq_true (by omega)
    have f0:ar s (zu (zz j))=m.getD j 0:=by rw[hS.dK,hS.nat,hS.az,hs,m8,Int.toNat_natCast]
    have f1:j<=m.length->zD .i64 (zE (zz k) (zz j))=zz (k+j):=fun h=>by rw[hS.wrap,hS.add,hS.az,hS.az,hS.az,wrap_i64 (by omega) (by omega)];omega
    have Up:zD .i64 (zE (zz k) (zz m.length))=zz (k+m.length):=by rw[hS.wrap,hS.add,hS.az,hS.az,hS.az,wrap_i64 (by omega) (by omega)];omega
    have f2:∀q,bg 0 (zz q)=q:=fun q=>by rw[hS.idx,hS.az];omega
    have f3:∀q,q<n->zy (zz q) n=true:=fun q hq=>by rw[hS.yC,hS.az];exact decide_eq_true (by omega)
    have f4:∀q,q<n->aL .u32 (zW .u32 o') q=true:=fun q hq=>by rw[hS.gM,hS.W,kY];exact decide_eq_true (by omega)
    have f5:∀q,ar (zW .u32 o') q=o'.getD q 0:=fun q=>by rw[hS.dK,hS.W,m8]
    have f7:∀q y,aR .u32 (zW .u32 o') q y=zW .u32 (o'.set q y):=fun q y=>by rw[hS.oW,hS.W,pC]
    have fw1:zD .u64 (m.getD j 0)=m.getD j 0:=by rw[hS.wrap,eS (by omega) (by omega)]
    have fw2:zD .u64 (o'.getD (k+j) 0)=o'.getD (k+j) 0:=by rw[hS.wrap,eS (by omega) (by omega)]
    have f8:zD .u64 (zE (zD .u64 (zE (zD .u64 (zH x (m.getD j 0))) (o'.getD (k+j) 0))) c)=t:=by
     rw[hS.wrap,hS.wrap,hS.wrap,hS.mul,hS.add,hS.add,eS (x:=x*m.getD j 0) (by omega) (by omega),eS (x:=x*m.getD j 0+o'.getD (k+j) 0) (by omega) (by omega),eS (by omega) (by omega),ht]
    have e2:zD .u32 t=t%4294967296:=by rw[hS.wrap];exact AQ _
    have e3:zM .u64 t 32=t/4294967296:=by rw[show zM .u64 t 32=ZI.cJ.shr .u64 t 32 from hS.shr ..];exact Rc (by omega)
    have e3':zD .u32 c=c:=by rw[hS.wrap];exact LB (by omega) (by omega)
    have e4:j<m.length->zD .i64 (zE (zz j) 1)=zz (j+1):=fun h=>by rw[hS.wrap,hS.add,hS.az,hS.az,wrap_i64 (by omega) (by omega)];omega
    have Vm:zD .i64 (zE (zz k) 1)=zz (k+1):=by rw[hS.wrap,hS.add,hS.az,hS.az,wrap_i64 (by omega) (by omega)];omega
    have jN:∀q y,q<n->val (o'.set q y)=val o'+(y-o'.getD q 0)*4294967296^q:=fun q y hq=>Dk _ _ _ (by omega)
    have htz:j=m.length->o'.getD (k+j) 0=0:=fun hj=>by
     have e:o'.getD (k+j) 0=o.getD (k+j) 0:=by
      have:=congrArg (fun y=>List.getD y 0 0) I4;simpa[List.getD_eq_getElem?_getD]using this
     rw[e,hj];exact Fs hw (by omega) kI
    have htt:0<=t:=by omega
    have Uv:t<18446744073709551616:=by omega
    have hmj:=Eh m j;have GN:j=m.length->m.take j=m:=fun h=>List.take_of_length_le (by omega)
    clear ht hb;generalize I3:m.getD j 0=y at *;generalize Dl:o'.getD (k+j) 0=w at *;cbv;refine⟨fun h'=>?_,fun h'=>?_⟩
    all_goals rw[f6]at h'
    ·have h':=of_decide_eq_true h'
     rw[f1 (by omega),f2,f0,fw1,f5,Dl,fw2,f8,e2,e3,e4 h',f7];refine nd SL (nd (f9 h') (nd (f3 _ (by omega)) (nd (f4 _ (by omega)) (nd (f3 _ (by omega)) (nd (f4 _ (by omega)) ?_)))));refine again (s':=mr r s (zW .u32 (o'.set (k+j) (t%4294967296))) n (zz l.length) (zz k) x (t/4294967296) (zz m.length) (zz (j+1))) (m:=u'-1) (by simp[dS,mr,ae,vi,vl,fH]) (by simp[dU,mr,ae]) rfl (Nat.le_succ 2) (by omega)
      ⟨_,_,_,by omega,by simpa using V6,SK.set _ (by omega) (by omega),by omega,?_,?_,rfl⟩
     ·rw[show k+(j+1)=k+j+1 by omega,SI]
      have:=congrArg (List.drop 1) I4;simpa[List.drop_drop]using this
     ·rw[jN _ _ (by omega),Dl,show k+(j+1)=k+j+1 by omega,Int.pow_succ,hmj]
      exact dR
    ·have h':=of_decide_eq_false h'
     have Q9:j=m.length:=by omega
     rw[h2,Up,f2,e3',Vm,f7];refine nd (f3 _ (by omega)) (nd (f4 _ (by omega)) ?_);refine again (s':=qM r s (zW .u32 (o'.set (k+m.length) c)) n (zz l.length) (zz (k+1))) (m:=u-1) (by simp[dS,qM,ae,vi,vl,fH]) (by simp[dU,qM,ae]) rfl (Nat.le_succ 2) (by omega)
      ⟨_,_,by omega,by simpa using V6,SK.set _ (by omega) (by omega),?_,rfl⟩
     have e:=jN (k+j) c (by omega);rw[Dl,htz Q9]at e;rw[GN Q9,hv]at sV;rw[<-Q9,e,hvk];clear e Dl;generalize val (List.take k l)=p1,val m=p2,val o'=p3 at *;generalize (4294967296:Int)^k=p4 at *;generalize (4294967296:Int)^(k+j)=p5 at *;grind
  ·have h:=of_decide_eq_false h
   rw[Kj];refine nd yJ ⟨_,hS.call hT,?_⟩;rw[eU (by omega)];generalize W .u32 (dg (val l*val m).toNat)=z at *;cbv;exact aC hF
end Go.Proofs.YtekefilngojelaaGreat
end
section
namespace Go.Abs.M
theorem A8 {a b c d:Int} (ha:0<=a/\a<4294967296) (hb:0<=b/\b<4294967296) (hc:0<=c/\c<=1) (hd:d=((a-b)%18446744073709551616-c)%18446744073709551616) :
  d%4294967296=(4294967296+a-b-c)%4294967296/\d/9223372036854775808=1-(4294967296+a-b-c)/4294967296/\0<=d:=by omega
structure SY (u v:List Int) (n:Nat) (g:Int) (k:Nat) (o:List Int) (c b:Int):Prop where
 lo:o.length=n+1
 wo:Wd o
 hc:0<=c/\c<4294967296
 hb:0<=b/\b<=1
 dr:o.drop k=u.drop k
 eq:val (o.take k)=val (u.take k)-g*val (v.take k)+(b+c)*4294967296^k
theorem js {o u:List Int} {k:Nat} (h:o.drop k=u.drop k):o.getD k 0=u.getD k 0:=by
 have:=congrArg (fun y=>List.getD y 0 0) h;simpa[List.getD_eq_getElem?_getD]using this
theorem uT {o u:List Int} {k:Nat} (x:Int) (h:o.drop k=u.drop k):(o.set k x).drop (k+1)=u.drop (k+1):=by
 rw[SI];have:=congrArg (List.drop 1) h;simpa[List.drop_drop]using this
section
variable {u v o:List Int} {n k:Nat} {g c b pr d:Int}
theorem SY.start (hu:u.length=n+1) (hw:Wd u):SY u v n g 0 u 0 0:=⟨hu,hw,by omega,by omega,rfl,by simp[val]⟩
theorem SY.step (h:SY u v n g k o c b) (vN:Wd u) (yL:Wd v) (Fv:0<=g) (Ys:g<=4294967296) (hk:k<n) (Uw:pr=g*v.getD k 0+c) (hd:d=((u.getD k 0-pr%4294967296)%18446744073709551616-b)%18446744073709551616) :
  (0<=g*v.getD k 0/\g*v.getD k 0<18446744073709551616)/\(0<=pr/\pr<18446744073709551616)/\0<=d/\o.getD k 0=u.getD k 0/\SY u v n g (k+1) (o.set k (d%4294967296)) (pr/4294967296) (d/9223372036854775808):=by
 obtain⟨lo,wo,hc,hb,dr,eq⟩:=h;have ga:=vN.get k;have gv:=yL.get k;have Vt:0<=g*v.getD k 0/\g*v.getD k 0<=4294967296*4294967295:=⟨Int.mul_nonneg Fv gv.1,Int.mul_le_mul Ys (by omega) gv.1 (by omega)⟩;obtain⟨t,ht⟩:∃t,t=4294967296+u.getD k 0-pr%4294967296-b:=⟨_,rfl⟩;have dR:=uR eq Uw ht;obtain⟨d1,d2,d3⟩:=A8 ga (show 0<=pr%4294967296/\pr%4294967296<4294967296 by omega) hb hd
 rw[<-ht]at d1 d2;refine⟨by omega,by omega,d3,js dr,?_⟩;rw[d1,d2];refine⟨by simpa using lo,wo.set _ (by omega) (by omega),by omega,by omega,uT _ dr,?_⟩;rw[Q6 _ (by omega),Eh u,Eh v,Int.pow_succ,dR,Int.mul_add]
theorem SY.last (h:SY u v n g n o c b) (hu:u.length=n+1) (hv:v.length=n) (vN:Wd u) (hd:d=((u.getD n 0-c)%18446744073709551616-b)%18446744073709551616) :
  0<=d/\o.getD n 0=u.getD n 0/\(d/9223372036854775808=0↔¬val u-g*val v<0)/\o.set n (d%4294967296)=yO (n+1) (val u-g*val v)/\(o.set n (d%4294967296)).length=n+1:=by
 obtain⟨lo,wo,hc,hb,dr,eq⟩:=h;have gun:=vN.get n;obtain⟨n1,n2,n3⟩:=A8 gun hc hb hd;obtain⟨y,hy⟩:∃y,y=4294967296+u.getD n 0-c-b:=⟨_,rfl⟩;rw[<-hy]at n1 n2;rw[n1,n2];have SZ:Wd (o.set n (y%4294967296)):=wo.set _ (by omega) (by omega);have Rd:(o.set n (y%4294967296)).length=n+1:=by simpa using lo
 have S7:val (o.set n (y%4294967296))=(val u-g*val v)+(1-y/4294967296)*4294967296^(n+1):=by
  have a1:=Q6 (l:=o) (k:=n) (y%4294967296) (by omega);rw[List.take_of_length_le (by omega)]at a1;have a2:=Eh u n;rw[List.take_of_length_le (by omega)]at a2;rw[List.take_of_length_le (l:=v) (by omega)]at eq;have a3:=Int.emod_add_mul_ediv y 4294967296;have a4:y%4294967296=4294967296+u.getD n 0-c-b-4294967296*(y/4294967296):=by omega
  rw[a1,a2,eq,Int.pow_succ,a4];generalize y/4294967296=z at *;generalize (4294967296:Int)^n=p at *;generalize val v=vv,val (u.take n)=uu,u.getD n 0=w at *;clear a1 a2 a3 a4 eq n1 n2 hd hy SZ Rd dr;grind
 refine⟨n3,js dr,?_,Dm SZ Rd S7,Rd⟩;have a2:=Di SZ;have a3:=sZ SZ;rw[Rd]at a2;have a4:=yj (n+1);rcases(show 1-y/4294967296=0∨1-y/4294967296=1 by omega) with h1|h1
 ·rw[h1]at S7 ⊢;constructor<;>intro<;>omega
 ·rw[h1]at S7 ⊢;constructor<;>intro<;>omega
structure S8 (u v:List Int) (n:Nat) (k:Nat) (o:List Int) (c:Int):Prop where
 lo:o.length=n+1
 wo:Wd o
 hc:0<=c/\c<=1
 dr:o.drop k=u.drop k
 eq:val (o.take k)+c*4294967296^k=val (u.take k)+val (v.take k)
theorem S8.start (hu:u.length=n+1) (hw:Wd u):S8 u v n 0 u 0:=⟨hu,hw,by omega,rfl,by simp[val]⟩
theorem S8.step {t:Int} (h:S8 u v n k o c) (vN:Wd u) (yL:Wd v) (hk:k<n) (ht:t=u.getD k 0+v.getD k 0+c) :
  (0<=t/\t<18446744073709551616)/\o.getD k 0=u.getD k 0/\S8 u v n (k+1) (o.set k (t%4294967296)) (t/4294967296):=by
 obtain⟨lo,wo,hc,dr,eq⟩:=h;have ga:=vN.get k;have gv:=yL.get k;have dR:=xn eq ht;refine⟨by omega,js dr,by simpa using lo,wo.set _ (by omega) (by omega),by omega,uT _ dr,?_⟩;rw[Q6 _ (by omega),Eh u,Eh v,Int.pow_succ];exact dR
theorem S8.last (h:S8 u v n n o c) (hu:u.length=n+1) (hv:v.length=n) (vN:Wd u):o.getD n 0=u.getD n 0/\o.set n ((u.getD n 0+c)%4294967296)=yO (n+1) (val u+val v)/\(o.set n ((u.getD n 0+c)%4294967296)).length=n+1:=by
 obtain⟨lo,wo,hc,dr,eq⟩:=h;have gun:=vN.get n;obtain⟨y,hy⟩:∃y,y=u.getD n 0+c:=⟨_,rfl⟩;rw[<-hy];have SZ:Wd (o.set n (y%4294967296)):=wo.set _ (by omega) (by omega);have Rd:(o.set n (y%4294967296)).length=n+1:=by simpa using lo
 refine⟨js dr,Dm (b:=-(y/4294967296)) SZ Rd ?_,Rd⟩;have a1:=Q6 (l:=o) (k:=n) (y%4294967296) (by omega);rw[List.take_of_length_le (by omega)]at a1;have a2:=Eh u n;rw[List.take_of_length_le (by omega)]at a2;rw[List.take_of_length_le (l:=v) (by omega)]at eq;have a3:=Int.emod_add_mul_ediv y 4294967296;have a4:y%4294967296=u.getD n 0+c-4294967296*(y/4294967296):=by omega
 have a5:val (o.take n)=val (u.take n)+val v-c*4294967296^n:=by omega
 rw[a1,a2,a5,Int.pow_succ,a4];generalize y/4294967296=z at *;generalize (4294967296:Int)^n=p at *;generalize val v=vv,val (u.take n)=uu,u.getD n 0=w at *;clear a1 a2 a3 a4 a5 eq hy SZ Rd dr;grind
end
end Go.Abs.M
end
section
namespace Go.Proofs.YtekefilngojelaaGreat
open Go Go.Abs Go.Abs.M Go.Proofs
def UB (x:Int) (s:Bool) (r:Abs.Rows):Prop:=mO x.natAbs r/\((s=true->x<=0)/\(s=false->0<=x))
theorem UB.of {x:Int} {s:Bool} {r:Abs.Rows} (h:eZ x s r):UB x s r:=by
 refine⟨h.m,fun hs=>?_,fun hs=>?_⟩
 ·rw[h.s]at hs;have:=of_decide_eq_true hs;omega
 ·rw[h.s]at hs;have:=of_decide_eq_false hs;omega
theorem UB.neg {x:Int} {s:Bool} {r:Abs.Rows} (h:UB x s r):UB (-x) (!s) r:=by
 obtain⟨h1,h2,h3⟩:=h;refine⟨by rw[Int.natAbs_neg];exact h1,fun hs=>?_,fun hs=>?_⟩
 ·have:=h3 (by simpa using hs);omega
 ·have:=h2 (by simpa using hs);omega
theorem FE {x:Int} {r:Abs.Rows} (s:Bool) (hx:UB x s r) (hl:nl x.natAbs<=2199023255552):∃u,eZ x u r/\aH 176 [.val (tb s),.val (tl r)] ⟨[.val (.agg (iT u r))],[none,none]⟩:=by
 obtain⟨h1,h2,h3⟩:=hx;refine⟨decide (x<0),⟨rfl,h1⟩,MW s _ h1 hl ?_⟩;cases s with
 | true=>have:=h2 rfl;rw[Bool.true_and,Bool.eq_iff_iff];simp;omega
 | false=>have:=h3 rfl;rw[Bool.false_and];exact decide_eq_false (by omega)
theorem MX (n:Int) (h1:-9223372036854775808<=n) (h2:n<9223372036854775808):∃u w,eZ n u w/\aH 172 [.val (ti .i64 n)] ⟨[.val (.agg (iT u w))],[none]⟩:=by
 obtain⟨w,hw⟩:∃w,mO n.natAbs w:=⟨_,rfl⟩;have hl:nl n.natAbs<=2:=tU (by omega);have nT:=FD n.natAbs (by omega) (by omega);rw[Int.toNat_natCast,show W .u32 (dg n.natAbs)=w from hw.symm]at nT;obtain⟨u,hu,cs⟩:=FE (x:=n) (decide (n<0)) ⟨hw,fun h=>by have:=of_decide_eq_true h;omega,fun h=>by have:=of_decide_eq_false h;omega⟩ (by omega);refine⟨u,w,hu,?_⟩;obtain⟨M,hM⟩:=aq (n.natAbs:Int)
 obtain⟨D,hD⟩:=aq (decide (n<0));rw[<-hM]at nT;rw[<-hD]at cs;refine an ai mixed [.val] Tryz.func172 rfl rfl (by kernel_rfl) fun zD _ zG _ _ _ _ _ _ _ _ _ _ _ zV _ _ _ _ _ _ _ _ _ _ _ _ _ _ _ _ _ _ _ _ _ _ _ _ _ _ _ _ _ _ _ _ _ _ _ _ A L F hS hF=>?_
 have bJ:zV n 0=D:=by rw[hD];exact hS.lt ..
 have e1:D=true->zD .u64 (zG 0 (zD .u64 n))=M:=fun h=>by
  rw[hD]at h;have:=of_decide_eq_true h;rw[hS.wrap,hS.wrap,hS.sub,AR,AR];omega
 have e2:D=false->zD .u64 n=M:=fun h=>by
  rw[hD]at h;have:=of_decide_eq_false h;rw[hS.wrap,eS (by omega) (by omega)];omega
 clear hM hD hw hl hu;cbv;rw[bJ];refine⟨fun h=>?_,fun h=>?_⟩
 ·rw[e1 h]
  refine hS.cl nT ?_;cbv;refine hS.cl cs ?_;cbv;exact aC hF
 ·rw[e2 h]
  refine hS.cl nT ?_;cbv;refine hS.cl cs ?_;cbv;exact aC hF
theorem qN {x:Int} {s:Bool} {r:Abs.Rows} (c:Int) (hx:eZ x s r) (hc:c=bH x 0):aH 170 [.val (.agg (iT s r))] ⟨[.val (ti .i64 c)],[none]⟩:=by
 have hl:r.length=nl x.natAbs:=hx.m.len;have hz:=@jY x.natAbs;refine an ai mixed [.val] Tryz.func170 rfl rfl (by kernel_rfl) ?_;intros;rename_i zT _ _ _ _ _ _ _ _ _ _ zz _ _ _ _ _ _ _ ab _ _ _ _ _ _ _ _ _ _ _ _ _ _ _ _ _ _ _ A L F hS hF;have e1:zT (zz (ab r)) 0=decide (x=0):=by
  rw[hS.eq,hS.az,hS.len,hl]
  by_cases h:x=0
  ·rw[decide_eq_true h];exact decide_eq_true (by omega)
  ·rw[decide_eq_false h];exact decide_eq_false (by omega)
 cbv;rw[e1];refine⟨fun h=>bc hF (kx ?_),fun h=>⟨fun h'=>bc hF (kx ?_),fun h'=>bc hF (kx ?_)⟩⟩
 ·rw[hc,of_decide_eq_true h];rfl
 ·rw[hx.s]at h';rw[hc,gg (of_decide_eq_true h')]
 ·rw[hx.s]at h'
  have:=of_decide_eq_false h';have:=of_decide_eq_false h;rw[hc,iN (by omega)]
theorem Ko {x y:Int} {s t:Bool} {r q:Abs.Rows} (c:Int) (hx:eZ x s r) (hy:eZ y t q) (hc:c=bH x y) (h1:nl x.natAbs<=2199023255552) (h2:nl y.natAbs<=2199023255552) :
  aH 162 [.val (.agg (iT s r)),.val (.agg (iT t q))] ⟨[.val (ti .i64 c)],[none,none]⟩:=by
 have c1:=pH (bH x.natAbs y.natAbs) hx.m hy.m h1 h2 (jz _) (jz _) (jl _) (jl _) (by rw[jH,jH]);have c2:=pH (bH y.natAbs x.natAbs) hy.m hx.m h2 h1 (jz _) (jz _) (jl _) (jl _) (by rw[jH,jH]);have s1:=qN (bH x 0) hx rfl;have s2:=qN (bH y 0) hy rfl;have b:∀z:Int,(z<0->bH z 0=-1)/\(z=0->bH z 0=0)/\(0<z->bH z 0=1):=fun z=>⟨fun h=>gg h,fun h=>by rw[h];rfl,fun h=>iN h⟩
 have bx:=b x;have by':=b y;have n1:x<0->y<0->bH y.natAbs x.natAbs=c:=fun h h'=>by rw[show(y.natAbs:Int)=-y by omega,show(x.natAbs:Int)=-x by omega,Fu,hc]
 have n2:¬x<0->¬y<0->bH x.natAbs y.natAbs=c:=fun h h'=>by rw[show(y.natAbs:Int)=y by omega,show(x.natAbs:Int)=x by omega,hc]
 have n3:x<y->-1=c:=fun h=>by rw[hc,gg h]
 have n4:y<x->1=c:=fun h=>by rw[hc,iN h]
 generalize bH x.natAbs y.natAbs=u,bH y.natAbs x.natAbs=v,bH x 0=a,bH y 0=d at *;refine an ai mixed [.val] Tryz.func162 rfl rfl (by kernel_rfl) ?_;intros;rename_i zU zV _ _ _ _ _ _ _ _ _ _ _ _ _ _ _ _ _ _ _ _ _ _ _ _ _ _ _ _ _ _ _ _ _ _ _ _ A L F hS hF;have e1:zU a d=decide (a≠d):=hS.ne ..;have e2:zV a d=decide (a<d):=hS.lt ..;have e3:zV a 0=decide (a<0):=hS.lt ..;cbv;refine hS.cl s1 ?_
 cbv;refine hS.cl s2 ?_;cbv;refine⟨fun h=>⟨fun h'=>bc hF (kx (n3 ?_)),fun h'=>bc hF (kx (n4 ?_))⟩,fun h=>⟨fun h'=>⟨_,hS.call c2,?_⟩,fun h'=>⟨_,hS.call c1,?_⟩⟩⟩
 all_goals rw[e1]at h
 ·rw[e2]at h';have:=of_decide_eq_true h';omega
 ·rw[e2]at h';have:=of_decide_eq_false h';have:=of_decide_eq_true h;omega
 ·rw[e3]at h';have h1:=of_decide_eq_true h';have h2:=of_decide_eq_false h
  cbv;exact bc hF (kx (n1 (by omega) (by omega)))
 ·rw[e3]at h';have h1:=of_decide_eq_false h';have h2:=of_decide_eq_false h
  cbv;exact bc hF (kx (n2 (by omega) (by omega)))
theorem A9 {x y:Int} {s t:Bool} {r q:Abs.Rows} (hx:eZ x s r) (hy:eZ y t q) (h1:nl x.natAbs<=549755813888) (h2:nl y.natAbs<=549755813888) :
  ∃u w,eZ (x*y) u w/\aH 174 [.val (.agg (iT s r)),.val (.agg (iT t q))] ⟨[.val (.agg (iT u w))],[none,none]⟩:=by
 obtain⟨w,hw⟩:∃w,mO (x*y).natAbs w:=⟨_,rfl⟩;have hb:nl (x*y).natAbs<=1099511627776:=by
  rw[Int.natAbs_mul];have b:=vL x.natAbs y.natAbs;omega
 have hs:=hx.s;have ht:=hy.s;have c:=yS hx.m hy.m (by unfold nl at h1;omega) (by unfold nl at h2;omega) (jz _) (jz _);simp only[jH]at c;have e1:W .u32 (dg ((x.natAbs:Int)*y.natAbs).toNat)=w:=by
  rw[hw];congr 2;rw[Int.natAbs_mul];have:((x.natAbs:Int)*y.natAbs)=((x.natAbs*y.natAbs:Nat):Int):=by push_cast;rfl
  omega
 rw[e1]at c;obtain⟨u,hu,cs⟩:=FE (x:=x*y) (!(s==t)) ⟨hw,fun h=>by
   rw[hs,ht]at h
   by_cases h1:x<0<;>by_cases h2:y<0<;>simp[h1,h2]at h
   ·exact Int.mul_nonpos_of_nonpos_of_nonneg (by omega) (by omega)
   ·exact Int.mul_nonpos_of_nonneg_of_nonpos (by omega) (by omega),fun h=>by
   rw[hs,ht]at h
   by_cases h1:x<0<;>by_cases h2:y<0<;>simp[h1,h2]at h
   ·exact Int.mul_nonneg_of_nonpos_of_nonpos (by omega) (by omega)
   ·exact Int.mul_nonneg (by omega) (by omega)⟩ (by omega)
 refine⟨u,w,hu,?_⟩;refine an ai mixed [.val] Tryz.func174 rfl rfl (by kernel_rfl) ?_;intros;rename_i zg _ _ _ _ _ _ _ _ _ _ _ _ _ _ _ _ _ _ _ _ _ _ _ _ _ _ _ _ _ _ _ _ A L F hS hF;have e:zg s t=!(s==t):=hS.bne s t;cbv;refine hS.cl c ?_;cbv;rw[e];refine hS.cl cs ?_;cbv;exact aC hF
end Go.Proofs.YtekefilngojelaaGreat
end
section
namespace Go.Abs
open Go.Abs.M
theorem FF {k:IntKind}:∀ {a b:List Int},W k a=W k b->a=b
 | [],[],_=>rfl
 | [],_::_,h=>by simp[W]at h
 | _::_,[],h=>by simp[W]at h
 | x::a,y::b,h=>by
  simp only[W,List.map_cons,List.cons.injEq,Tree.v.injEq,Value.int.injEq,true_and,and_true]at h;rw[h.1,FF (k:=k) h.2]
def lf (s:Bool) (l:List Int):Bool:=if l.length=0 then !s else decide (l.getD (l.length-1) 0≠0)
theorem I6 {x:Int} {s:Bool} {l:List Int} (h:eZ x s (W .u32 l)):lf s l=true:=by
 have hl:l=dg x.natAbs:=FF (h.m);have hs:=h.s;unfold lf;subst hl
 by_cases h0:(dg x.natAbs).length=0
 ·rw[if_pos h0]
  have:x.natAbs=0:=iA.1 (List.length_eq_zero_iff.1 h0);rw[hs,decide_eq_false (by omega)];rfl
 ·rw[if_neg h0]
  rcases jl x.natAbs with h|h
  ·rw[h]at h0;exact absurd rfl h0
  ·exact decide_eq_true h
theorem I7 {s:Bool} {l:List Int} (hw:Wd l) (h:lf s l=true):∃x:Int,eZ x s (W .u32 l)/\nl x.natAbs=l.length:=by
 unfold lf at h;have hv:=sZ hw
 by_cases h0:l.length=0
 ·rw[if_pos h0]at h
  have hl:=List.length_eq_zero_iff.1 h0;subst hl;have:s=false:=by cases s<;>simp_all
  subst this;exact⟨0,⟨rfl,rfl⟩,rfl⟩
 ·rw[if_neg h0]at h
  have ht:Tr l:=.inr (of_decide_eq_true h);have hu:=oG hw ht;have ng:0<val l:=by
   rcases Int.lt_or_eq_of_le hv with h|h
   ·exact h
   ·exfalso
    rw[<-h]at hu;have:l=[]:=hu.symm;rw[this]at h0;exact h0 rfl
  have hn:∀x:Int,x.natAbs=(val l).toNat->nl x.natAbs=l.length:=fun x hx=>by rw[hx];unfold nl;rw[hu]
  cases s with
  | false=>
   have e:(val l).natAbs=(val l).toNat:=by omega
   exact⟨val l,⟨(decide_eq_false (by omega)).symm,by unfold mO;rw[e,hu]⟩,hn _ e⟩
  | true=>
   have e:(-val l).natAbs=(val l).toNat:=by omega
   exact⟨-val l,⟨(decide_eq_true (by omega)).symm,by unfold mO;rw[e,hu]⟩,hn _ e⟩
def Du (s:Bool) (l:List Int) (t:Bool) (m:List Int):Prop:=∃q:Rat,xq q s (W .u32 l) t (W .u32 m)
theorem S9 {n d:Int} (h:0<d) (hg:Int.gcd n d=1):∃q:Rat,q.num=n/\(q.den:Int)=d:=
 ⟨⟨n,d.toNat,by omega,by
  have e:d.toNat=d.natAbs:=by omega
  show Nat.gcd n.natAbs d.toNat=1
  rw[e];exact hg⟩,rfl,by show(d.toNat:Int)=d;omega⟩
theorem Du.iff {s t:Bool} {l m:List Int} {n d:Int} (hn:eZ n s (W .u32 l)) (hd:eZ d t (W .u32 m)):Du s l t m↔0<d/\Int.gcd n d=1:=by
 constructor
 ·rintro⟨q,h1,h2⟩
  have e1:q.num=n:=by
   have a:=h1.m.symm.trans hn.m;have b:dg q.num.natAbs=dg n.natAbs:=FF a;have x:=jH q.num.natAbs;rw[b]at x;have c:(q.num.natAbs:Int)=n.natAbs:=x.symm.trans (jH _);have e:=h1.s.symm.trans hn.s;have:=decide_eq_decide.1 e;omega
  have e2:(q.den:Int)=d:=by
   have a:=h2.m.symm.trans hd.m;have b:dg (q.den:Int).natAbs=dg d.natAbs:=FF a;have x:=jH (q.den:Int).natAbs;rw[b]at x;have c:((q.den:Int).natAbs:Int)=d.natAbs:=x.symm.trans (jH _);have e:=h2.s.symm.trans hd.s;have:=decide_eq_decide.1 e;omega
  subst e1 e2;refine⟨by have:=q.den_pos;omega,?_⟩;have:=q.reduced;unfold Nat.Coprime at this;unfold Int.gcd;rw[Int.natAbs_natCast];exact this
 ·rintro⟨h1,h2⟩
  obtain⟨q,e1,e2⟩:=S9 h1 h2;exact⟨q,by rw[e1];exact hn,by rw[e2];exact hd⟩
theorem Du.lf {s t:Bool} {l m:List Int} (h:Du s l t m):Abs.lf s l=true/\Abs.lf t m=true:=by
 obtain⟨q,h1,h2⟩:=h;exact⟨I6 h1,I6 h2⟩
end Go.Abs
end
section
namespace Go.Proofs.YtekefilngojelaaGreat
open Go Go.Abs Go.Abs.M Go.Proofs
theorem rR (s:Bool) (l:List Int) (hl:l.length<=2199023255552):aH 151 [.val (.agg (iT s (W .u32 l)))] ⟨[.val (tb (lf s l))],[none]⟩:=by
 obtain⟨r,hr⟩:=aq (W .u32 l);obtain⟨n,hn⟩:=aq (l.length);obtain⟨b,hb⟩:=aq (lf s l);rw[<-hb,<-hr];have hz:n=0->(!s)=b:=fun h=>by rw[hb];unfold lf;rw[if_pos (by omega)]
 have kI:n≠0->decide (l.getD (n-1) 0≠0)=b:=fun h=>by rw[hb];unfold lf;rw[if_neg (by omega),hn]
 refine an ai mixed [.val] Tryz.func151 rfl rfl (by kernel_rfl) fun zD _ zG _ _ _ _ _ _ _ _ _ zT zU _ zX zY _ _ _ _ zu _ zz _ _ _ _ _ _ _ ab _ _ aL ar _ _ _ _ _ _ _ _ _ _ _ _ _ _ _ A L F hS hF=>?_
 have Lw:ab r=n:=by rw[hS.len,hr,jr,hn]
 have e0:zT (zz (ab r)) 0=decide (n=0):=by
  rw[Lw,hS.eq,hS.az]
  by_cases h:n=0
  ·rw[decide_eq_true h];exact decide_eq_true (by omega)
  ·rw[decide_eq_false h];exact decide_eq_false (by omega)
 have e1:n≠0->zD .i64 (zG (zz (ab r)) 1)=zz (n-1):=fun h=>by rw[Lw,hS.wrap,hS.sub,hS.az,hS.az,wrap_i64 (by omega) (by omega)];omega
 have e2:zX 0 (zz (n-1))=true:=by rw[hS.le,hS.az];exact decide_eq_true (by omega)
 have e3:zu (zz (n-1))=n-1:=by rw[hS.nat,hS.az];omega
 have e4:n≠0->aL .u32 r (zu (zz (n-1)))=true:=fun h=>by rw[e3,hS.gM,hr,kY];exact decide_eq_true (by omega)
 have e5:n≠0->zU (ar r (zu (zz (n-1)))) 0=b:=fun h=>by rw[e3,hS.ne,hS.dK,hr,m8];exact kI h
 have e6:zY s=!s:=hS.not s;generalize zz (n-1)=top at *;clear kI hr;cbv;refine⟨fun h=>?_,fun h=>?_⟩
 all_goals rw[e0]at h
 ·refine bc hF (jf ?_)
  rw[e6];exact hz (of_decide_eq_true h)
 ·have hn:=of_decide_eq_false h
  rw[e1 hn];refine nd e2 (nd (e4 hn) ?_);exact bc hF (jf (e5 hn))
def Qs (x:Rat) (k:Nat):Prop:=nl x.num.natAbs<=k/\nl x.den<=k
theorem Kp {x y:Rat} {s t s' t':Bool} {r q r' q':Abs.Rows} (hx:xq x s r t q) (hy:xq y s' r' t' q') (h1:Qs x 68719476736) (h2:Qs y 68719476736) :
  ∃u w v p,xq (x*y) u w v p/\aH 111 [.val (.agg (iT s r++iT t q)),.val (.agg (iT s' r'++iT t' q'))] ⟨[.val (.agg (iT u w++iT v p))],[none,none]⟩:=by
 obtain⟨x1,x2⟩:=h1;obtain⟨y1,y2⟩:=h2;obtain⟨a,b,ha,ca⟩:=Kk hx.n hy.n (by omega) (by omega);obtain⟨c,d,hc,cc⟩:=Kk hx.d hy.d (by rw[Int.natAbs_natCast];omega) (by rw[Int.natAbs_natCast];omega);have J6:=x.den_nz;have qF:=y.den_nz;obtain⟨u,w,v,p,hu,cl⟩:=UA ha hc (Int.mul_ne_zero (by omega) (by omega))
  (by rw[Int.natAbs_mul];have:=vL x.num.natAbs y.num.natAbs;omega)
  (by rw[Int.natAbs_mul,Int.natAbs_natCast,Int.natAbs_natCast];have:=vL x.den y.den;omega)
 refine⟨u,w,v,p,?_,?_⟩
 ·rw[<-Rat.divInt_mul_divInt,Rat.num_divInt_den,Rat.num_divInt_den]at hu
  exact hu
 refine an ai mixed [.val] Tryz.func111 rfl rfl (by kernel_rfl) ?_;intros;rename_i A L F hS hF;cbv;refine hS.cl ca ?_;cbv;refine hS.cl cc ?_;cbv;refine hS.cl cl ?_;cbv;exact aC hF
theorem Kq {x y:Rat} {s t s' t':Bool} {r q r' q':Abs.Rows} (hx:xq x s r t q) (hy:xq y s' r' t' q') (h1:Qs x 68719476736) (h2:Qs y 68719476736) :
  ∃ u w v p,xq (x+y) u w v p/\aH 61 [.val (.agg (iT s r ++ iT t q)),.val (.agg (iT s' r' ++ iT t' q'))] ⟨[.val (.agg (iT u w ++ iT v p))],[none,none]⟩:=by
 obtain ⟨x1,x2⟩:=h1
 obtain ⟨y1,y2⟩:=h2
 have n1:=vL x.num.natAbs y.den
 have n2:=vL y.num.natAbs x.den
 have n3:=vL x.den y.den
 have J6:=x.den_nz
 have qF:=y.den_nz
 obtain ⟨a,b,ha,ca⟩:=Kk hx.n hy.d (by omega) (by rw [Int.natAbs_natCast]; omega)
 obtain ⟨a',b',Wk,Wl⟩:=Kk hy.n hx.d (by omega) (by rw [Int.natAbs_natCast]; omega)
 have m1:nl (x.num*y.den).natAbs<=137438953472:=by rw [Int.natAbs_mul,Int.natAbs_natCast]; omega
 have m2:nl (y.num*x.den).natAbs<=137438953472:=by rw [Int.natAbs_mul,Int.natAbs_natCast]; omega
 obtain ⟨e,f,he,ce⟩:=AZ ha Wk (by omega) (by omega)
 obtain ⟨c,d,hc,cc⟩:=Kk hx.d hy.d (by rw [Int.natAbs_natCast]; omega) (by rw [Int.natAbs_natCast]; omega)
 obtain ⟨u,w,v,p,hu,cl⟩:=UA he hc (Int.mul_ne_zero (by omega) (by omega))
  (by
   have:=Fp (Int.natAbs_add_le (x.num*y.den) (y.num*x.den))
   have:=xm (x.num*y.den).natAbs (y.num*x.den).natAbs
   omega)
  (by rw [Int.natAbs_mul,Int.natAbs_natCast,Int.natAbs_natCast]; omega)
 refine ⟨u,w,v,p,?_,?_⟩
 ·rw [<- Rat.divInt_add_divInt _ _ (by omega) (by omega),Rat.num_divInt_den,Rat.num_divInt_den] at hu
  exact hu
 refine an ai mixed [.val] Tryz.func61 rfl rfl (by kernel_rfl) ?_;intros;rename_i A L F hS hF
 cbv
 refine hS.cl ca ?_
 cbv
 refine hS.cl Wl ?_
 cbv
 refine hS.cl ce ?_
 cbv
 refine hS.cl cc ?_
 cbv
 refine hS.cl cl ?_
 cbv
 exact aC hF
end Go.Proofs.YtekefilngojelaaGreat
end
