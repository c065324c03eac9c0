/-
  A part of the proof: GabsU.
-/
import Derived.Test.YtlhbidjdkginkaaM7
import Derived.Laws.BitsLemmas
set_option maxHeartbeats 0
set_option maxRecDepth 100000
set_option linter.unusedVariables false
set_option linter.unusedSimpArgs false
set_option linter.unusedSectionVars false
section
namespace Go.Abs
inductive BT (α : Type) where
 | leaf
 | node (k : Nat) (v : α) (l r : BT α)
def BT.find {α : Type} : BT α -> Nat -> Option α
 | .leaf, _ => none
 | .node k v l r, i => if i = k then some v else if i < k then l.find i else r.find i
def BT.all {α : Type} (p : Nat -> α -> Bool) : BT α -> Bool
 | .leaf => true
 | .node k v l r => p k v && l.all p && r.all p
theorem BT.find_all {α : Type} {p : Nat -> α -> Bool} {i : Nat} {v : α} : ∀ {t : BT α}, t.all p = true -> t.find i = some v -> p i v = true
 | .leaf, _, h => by cases h
 | .node k w l r, ha, h => by
  simp only [BT.all, Bool.and_eq_true] at ha
  simp only [BT.find] at h
  split at h
  ·rename_i e; cases h; rw [e]; exact ha.1.1
  ·split at h
   ·exact BT.find_all ha.1.2 h
   ·exact BT.find_all ha.2 h
theorem bt_ok {P : Program} {t : BT TI} {md : FuncId -> List Mode} {cs : TypeId -> Bool} (h : t.all (fun i ti => tyB P i ti) = true) : CfgOk P ⟨t.find, md, cs⟩ :=
 fun i ti hi => BT.find_all h hi
def btMd (t : BT (List Mode)) (f : FuncId) : List Mode := (t.find f).getD []
def ti (k : IntKind) (n : Int) : TV := .c (.v (.int k n))
def tb (b : Bool) : TV := .c (.v (.bool b))
theorem bT {b : Bool} {p q : Prop} (h : b = true) (hp : p) : Br b p q := ⟨fun _ => hp, fun h' => absurd (h.symm.trans h') (by decide)⟩
theorem bF {b : Bool} {p q : Prop} (h : b = false) (hq : q) : Br b p q := ⟨fun h' => absurd (h.symm.trans h') (by decide), fun _ => hq⟩
theorem fin1 {F : Res -> Prop} {y : TV} {o : List (Option Blk)} (hF : ∀ r, ResLe r ⟨[.val y], o⟩ -> F r) {x : TV} (h : x = y) : F ⟨[.val x], o⟩ := by subst h; exact hF _ (ResLe.refl _)
theorem qas {a b : Bool} (h : a = b) : TV.c (.v (.bool a)) = .c (.v (.bool b)) := by rw [h]
theorem again {s s' : St} {n0 n m : Nat} {I : Nat -> St -> Prop} (h1 : leT s.tmps s'.tmps) (h2 : leH s.heap s'.heap) (h3 : s'.refsLt = true) (h4 : n0 <= s'.heap.length) (hm : m < n) (hI : I m s') :
  ∃ s', s.Le s' /\ s'.refsLt = true /\ n0 <= s'.heap.length /\ ∃ m, m < n /\ I m s' := ⟨s', le_of h1 h2, h3, h4, m, hm, hI⟩
end Go.Abs
end
