/-
  A part of the proof: GabsU.
-/
import Derived.Test.YtjfmkcmepdedaaaGreatM8
import Derived.Laws.BitsLemmas
set_option maxHeartbeats 0
set_option maxRecDepth 100000
set_option linter.unusedVariables false
set_option linter.unusedSimpArgs false
set_option linter.unusedSectionVars false
section
namespace Go.Abs
inductive BT (α:Type) where
 | leaf
 | node (k:Nat) (v:α) (l r:BT α)
def BT.find {α:Type}:BT α->Nat->Option α
 | .leaf,_=>none
 | .node k v l r,i=>if i=k then some v else if i < k then l.find i else r.find i
def BT.all {α:Type} (p:Nat->α->Bool):BT α->Bool
 | .leaf=>true
 | .node k v l r=>p k v && l.all p && r.all p
theorem BT.find_all {α:Type} {p:Nat->α->Bool} {i:Nat} {v:α}:∀ {t:BT α},t.all p=true->t.find i=some v->p i v=true
 | .leaf,_,h=>by cases h
 | .node k w l r,ha,h=>by
  simp only [BT.all,Bool.and_eq_true] at ha
  simp only [BT.find] at h
  split at h
  ·rename_i e; cases h; rw [e]; exact ha.1.1
  ·split at h
   ·exact BT.find_all ha.1.2 h
   ·exact BT.find_all ha.2 h
theorem bt_ok {P:Program} {t:BT TI} {md:FuncId->List Mode} {cs:TypeId->Bool} (h:t.all (fun i ti=>tyB P i ti)=true):CfgOk P ⟨t.find,md,cs⟩:=
 fun i ti hi=>BT.find_all h hi
def btMd (t:BT (List Mode)) (f:FuncId):List Mode:=(t.find f).getD []
def mkSt (n:Nat) (l:List AV) (h:Heap):St:=⟨l ++ List.replicate (n - l.length) .junk,h⟩
def vi (k:IntKind) (n:Int):AV:=.c (.t (.v (.int k n)))
def vb (b:Bool):AV:=.c (.t (.v (.bool b)))
def ti (k:IntKind) (n:Int):TV:=.c (.v (.int k n))
def tb (b:Bool):TV:=.c (.v (.bool b))
theorem wrap_i64 {x:Int} (h0:-9223372036854775808<=x) (h1:x < 9223372036854775808):IntKind.wrap .i64 x=x:=by
 rw [IntKind.wrap_i64]; omega
theorem qaz {x:Int} (h0:0<=x) (h1:x < 2 ^ 32):IntKind.wrap .u32 x=x:=by
 have:IntKind.wrap .u32 x=x % 2 ^ 32:=rfl
 rw [this,Int.emod_eq_of_lt h0 h1]
theorem qbb (x:Int):IntKind.wrap .u32 x=x % 4294967296:=rfl
theorem qbz (x:Int):IntKind.wrap .u64 x=x % 18446744073709551616:=rfl
theorem wrap_u8 {x:Int} (h0:0<=x) (h1:x < 256):IntKind.wrap .u8 x=x:=by
 have:IntKind.wrap .u8 x=x % 256:=rfl
 rw [this,Int.emod_eq_of_lt h0 h1]
def vl (r:Rows):AV:=.c (.t (.lst false r))
def tl (r:Rows):TV:=.c (.lst false r)
def vnil:AV:=.c (.t (.lst true []))
def iT (s:Bool) (r:Rows):List Tree:=[.v (.bool s),.lst false r]
theorem qal (k:IntKind) (l:List Int):(W k l).length=l.length:=by simp [W]
theorem W_get (k:IntKind) (l:List Int) (i:Nat):(W k l)[i]?=(l[i]?).map fun x=>[Tree.v (.int k x)]:=by simp [W]
theorem qav (k:IntKind) (l:List Int) (i:Nat):ZI.std.isI k (W k l) i=decide (i < l.length):=by
 simp only [ZI.std,W_get]
 rcases Nat.lt_or_ge i l.length with h | h
 ·simp [h]
 ·simp [h,Nat.not_lt.2 h]
theorem qap (k:IntKind) (l:List Int) (i:Nat):ZI.std.getI (W k l) i=l.getD i 0:=by
 simp only [ZI.std,W_get,List.getD_eq_getElem?_getD]
 cases l[i]? <;> rfl
theorem W_set (k:IntKind) (l:List Int) (i:Nat) (x:Int):(W k l).set i [.v (.int k x)]=W k (l.set i x):=by simp [W,List.map_set]
theorem qbj (k:IntKind) (l:List Int) (a n:Nat):((W k l).drop a).take n=W k ((l.drop a).take n):=by simp [W,List.map_drop,List.map_take]
theorem W_setg (k:IntKind) (l m:List Int) (a:Nat):setRange (W k l) a (W k m)=W k (setRange l a m):=by simp [W,setRange,List.map_drop,List.map_take]
theorem W_rep (k:IntKind) (n:Nat) (x:Int):List.replicate n [Tree.v (.int k x)]=W k (List.replicate n x):=by simp [W]
theorem W_wide (k:IntKind) (l:List Int):((W k l).all fun r=>r.length == 1)=true:=by simp [W]
theorem bT {b:Bool} {p q:Prop} (h:b=true) (hp:p):Br b p q:=⟨fun _=>hp,fun h'=>absurd (h.symm.trans h') (by decide)⟩
theorem bF {b:Bool} {p q:Prop} (h:b=false) (hq:q):Br b p q:=⟨fun h'=>absurd (h.symm.trans h') (by decide),fun _=>hq⟩
theorem nd {c:Bool} {p:Prop} (h:c=true) (hp:p):Need c p:=⟨h,hp⟩
theorem fin1 {F:Res->Prop} {y:TV} {o:List (Option Blk)} (hF:∀ r,ResLe r ⟨[.val y],o⟩->F r) {x:TV} (h:x=y):F ⟨[.val x],o⟩:=by subst h; exact hF _ (ResLe.refl _)
theorem fin2 {F:Res->Prop} {y y':TV} {o:List (Option Blk)} (hF:∀ r,ResLe r ⟨[.val y,.val y'],o⟩->F r) {x x':TV} (h:x=y) (h':x'=y'):F ⟨[.val x,.val x'],o⟩:=by subst h h'; exact hF _ (ResLe.refl _)
theorem fin1w {F:Res->Prop} {y:TV} {o:List (Option Blk)} (hF:∀ r,ResLe r ⟨[.val y],o⟩->F r) {x:TV} (h:TVLe x y):F ⟨[.val x],o⟩:=hF _ ⟨⟨h,trivial⟩,rfl⟩
theorem fin2w {F:Res->Prop} {y y':TV} {o:List (Option Blk)} (hF:∀ r,ResLe r ⟨[.val y,.val y'],o⟩->F r) {x x':TV} (h:TVLe x y) (h':TVLe x' y'):F ⟨[.val x,.val x'],o⟩:=hF _ ⟨⟨h,h',trivial⟩,rfl⟩
theorem qa6 {k:IntKind} {a b:Int} (h:a=b):TV.c (.v (.int k a))=.c (.v (.int k b)):=by rw [h]
theorem tv_bool {a b:Bool} (h:a=b):TV.c (.v (.bool a))=.c (.v (.bool b)):=by rw [h]
theorem again {s s':St} {n0 n m:Nat} {I:Nat->St->Prop} (h1:leT s.tmps s'.tmps) (h2:leH s.heap s'.heap) (h3:s'.refsLt=true) (h4:n0<=s'.heap.length) (hm:m < n) (hI:I m s') :
  ∃ s',s.Le s'/\s'.refsLt=true/\n0<=s'.heap.length/\∃ m,m < n/\I m s':=⟨s',qao h1 h2,h3,h4,m,hm,hI⟩
end Go.Abs
end
