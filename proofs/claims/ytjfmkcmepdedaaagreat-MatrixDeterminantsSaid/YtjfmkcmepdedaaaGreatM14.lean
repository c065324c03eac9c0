/-
  A part of the proof: RnU1k, MtK, MtE, MtS.
-/
import Derived.Test.YtjfmkcmepdedaaaGreatM13
set_option maxHeartbeats 0
set_option maxRecDepth 100000
set_option linter.unusedVariables false
set_option linter.unusedSimpArgs false
set_option linter.unusedSectionVars false
section
namespace Go.Proofs.YtjfmkcmepdedaaaGreat
open Go Go.Abs Go.Proofs
structure RN where
 s : Bool
 r : Abs.Rows
 t : Bool
 p : Abs.Rows
def RN.row (c : RN) : List Tree := [.v (.bool c.s), .lst false c.r, .v (.bool c.t), .lst false c.p]
theorem hideP {L : Code -> St -> (AExit -> ST -> Prop) -> Prop} {c : Code} {st : St} {Q : AExit -> ST -> Prop} {e : AExit} {s : ST} (Pr : Prop) (main : ∀ Q' : AExit -> ST -> Prop, (Pr -> Q' e s) -> (∀ s, Q .ret s -> Q' .ret s) -> L c st Q') (rest : Pr -> Q e s) : L c st Q := main Q rest fun _ h => h
end Go.Proofs.YtjfmkcmepdedaaaGreat
end
section
namespace Go.Abs
theorem sp_sum {m : Nat} {M : Nat -> RV} (c : RV) : ∀ k, k <= m -> Sp (Rs m M) fun y => sumN k fun l => c l * M l y
 | 0, _ => .zero
 | k + 1, h => Sp.lin (c k) (sp_sum c k (by omega)) (.row h) fun y => rfl
theorem tri_all {n : Nat} {R : Nat -> RV} (h0 : ∀ i, i < n -> R i i ≠ 0) (hl : ∀ i, i < n -> ∀ y, y < i -> R i y = 0) (hr : ∀ i, i < n -> ∀ y, n <= y -> R i y = 0) : ∀ m l, l + m = n -> ∀ v : RV, (∀ y, y < l ∨ n <= y -> v y = 0) -> Sp (Rs n R) v
 | 0, l, h, v, hv => Sp.zero.cast fun y => hv y (by omega)
 | m + 1, l, h, v, hv => by
  have hln : l < n := by omega
  have h00 := h0 l hln
  have := tri_all h0 hl hr m (l + 1) (by omega) (fun y => v y - v l / R l l * R l y) fun y hy => by
   by_cases e : y = l
   ·rw [e, Rat.div_mul_cancel h00, Rat.sub_self]
   ·have hz : R l y = 0 := by
     rcases hy with hy | hy
     ·exact hl l hln y (by omega)
     ·exact hr l hln y hy
    rw [hv y (by omega), hz]; grind
  exact Sp.lin (v l / R l l) this (.row hln) fun y => by grind
theorem rv_inj {P Q : List Rat} (h : P.length = Q.length) (e : rv P = rv Q) : P = Q := by
 refine List.ext_getElem h fun i h1 h2 => ?_
 have := congrFun e i
 unfold rv at this
 rw [List.getD_eq_getElem?_getD, List.getD_eq_getElem?_getD, List.getElem?_eq_getElem h1, List.getElem?_eq_getElem h2] at this
 exact this
def dswp (R : Nat -> List Rat) (j l : Nat) : Nat -> List Rat := fun i => if i = j then R l else if i = l then R j else R i
def dstep (R : Nat -> List Rat) (j l : Nat) : Nat -> List Rat := fun i => if i <= j then dswp R j l i else elm (dswp R j l i) (R l) j
structure DtI (n j : Nat) (M R : Nat -> List Rat) : Prop where
 len : ∀ i, i < n -> (R i).length = n
 sp : SpE (Rs n fun i => rv (M i)) (Rs n fun i => rv (R i))
 piv : ∀ l, l < j -> rv (R l) l ≠ 0
 low : ∀ l, l < j -> ∀ i, l < i -> i < n -> rv (R i) l = 0
theorem DtI.start {n : Nat} {M : Nat -> List Rat} (h : ∀ i, i < n -> (M i).length = n) : DtI n 0 M M := ⟨h, SpE.refl _, by omega, by omega⟩
theorem dswp_len {n w j l : Nat} {R : Nat -> List Rat} (h : ∀ i, i < n -> (R i).length = w) (hj : j < n) (hl : l < n) : ∀ i, i < n -> (dswp R j l i).length = w := fun i hi => by
 unfold dswp
 split
 ·exact h l hl
 ·split
  ·exact h j hj
  ·exact h i hi
theorem DtI.step {n j l : Nat} {M R : Nat -> List Rat} (h : DtI n j M R) (h1 : j <= l) (h2 : l < n) (hx : (R l).getD j 0 ≠ 0) : DtI n (j + 1) M (dstep R j l) := by
 have hj : j < n := by omega
 have lS := dswp_len h.len hj h2
 have hS : SpE (Rs n fun i => rv (R i)) (Rs n fun i => rv (dswp R j l i)) := spe_swap (a := j) (b := l) hj h2 fun i _ => by
  show rv (dswp R j l i) = _
  unfold dswp
  split
  ·rfl
  ·split <;> rfl
 have hSj : dswp R j l j = R l := if_pos rfl
 have hlow : ∀ y, y < j -> ∀ i, j <= i -> i < n -> rv (dswp R j l i) y = 0 := fun y hy i hi hin => by
  unfold dswp
  split
  ·exact h.low y hy l (by omega) h2
  ·split
   ·exact h.low y hy j (by omega) hj
   ·exact h.low y hy i (by omega) hin
 have hel : ∀ i, i < n -> j < i -> ∀ y, rv (dstep R j l i) y = rv (dswp R j l i) y + (-((dswp R j l i).getD j 0 / (R l).getD j 0)) * rv (R l) y := fun i hi hji y => by
  unfold dstep
  rw [if_neg (by omega), elm_rv (by rw [lS i hi, h.len l h2])]
 have hle : ∀ i, i <= j -> dstep R j l i = dswp R j l i := fun i hi => if_pos hi
 refine ⟨fun i hi => ?_, (h.sp.trans hS).trans ?_, fun y hy => ?_, fun y hy i hyi hin => ?_⟩
 ·unfold dstep
  split
  ·exact lS i hi
  ·rw [elm_len]; exact lS i hi
 ·refine spe_elim (k := j) (c := fun i => if i <= j then 0 else -((dswp R j l i).getD j 0 / (R l).getD j 0)) hj ?_ fun i hi hne y => ?_
  ·show rv (dstep R j l j) = rv (dswp R j l j)
   rw [hle j (Nat.le_refl _)]
  ·show rv (dstep R j l i) y = rv (dswp R j l i) y + (if i <= j then 0 else _) * rv (dswp R j l j) y
   by_cases e : i <= j
   ·rw [if_pos e, hle i e]; grind
   ·rw [if_neg e, hel i hi (by omega), hSj]
 ·rw [hle y (by omega)]
  by_cases e : y = j
  ·rw [e, hSj]; exact hx
  ·have : dswp R j l y = R y := by
    unfold dswp
    rw [if_neg e, if_neg (by omega)]
   rw [this]; exact h.piv y (by omega)
 ·by_cases e : y = j
  ·subst e
   rw [hel i hin hyi]
   show (dswp R y l i).getD y 0 + _ * (R l).getD y 0 = 0
   have := Rat.div_mul_cancel hx (a := (dswp R y l i).getD y 0)
   rw [Rat.neg_mul, this]; grind
  ·by_cases hij : i <= j
   ·rw [hle i hij]
    by_cases hi : i = j
    ·exact hlow y (by omega) i (by omega) hin
    ·have : dswp R j l i = R i := by
      unfold dswp
      rw [if_neg hi, if_neg (by omega)]
     rw [this]; exact h.low y (by omega) i hyi hin
   ·rw [hel i hin (by omega), hlow y (by omega) i (by omega) hin, <- hSj, hlow y (by omega) j (Nat.le_refl _) hj]; grind
theorem DtI.all {n : Nat} {M R : Nat -> List Rat} (h : DtI n n M R) (v : RV) (hv : ∀ y, n <= y -> v y = 0) : Sp (Rs n fun i => rv (M i)) v :=
 h.sp.r _ (tri_all (R := fun i => rv (R i)) (fun i hi => h.piv i hi) (fun i hi y hy => h.low y (by omega) i hy hi)
  (fun i hi y hy => by
   show (R i).getD y 0 = 0
   rw [List.getD_eq_getElem?_getD, List.getElem?_eq_none (by rw [h.len i hi]; exact hy)]; rfl) n 0 (by omega) v fun y hy => hv y (by omega))
def tr (w : Nat) (v : RV) : RV := fun y => if y < w then v y else 0
theorem tr_lt {w y : Nat} {v : RV} (h : y < w) : tr w v y = v y := if_pos h
theorem tr_ge {w y : Nat} {v : RV} (h : w <= y) : tr w v y = 0 := if_neg (by omega)
theorem sp_tr {n w : Nat} {E M : Nat -> RV} (hM : ∀ i, i < n -> ∀ y, M i y = tr w (E i) y) {v : RV} (hv : Sp (Rs n E) v) : Sp (Rs n M) (tr w v) := by
 induction hv with
 | mem h =>
  obtain ⟨i, hi, e⟩ := h
  exact (Sp.row hi).cast fun y => by rw [e, hM i hi]
 | zero => exact Sp.zero.cast fun y => by unfold tr; split <;> rfl
 | add _ _ a b =>
  refine (Sp.add a b).cast fun y => ?_
  unfold tr
  split <;> grind
 | smul c _ a =>
  refine (Sp.smul c a).cast fun y => ?_
  unfold tr
  split <;> grind
theorem sumN_cut (f : Nat -> Rat) {m : Nat} : ∀ n, m <= n -> (∀ i, m <= i -> i < n -> f i = 0) -> sumN n f = sumN m f
 | 0, h, _ => by rw [show m = 0 by omega]
 | n + 1, h, hz => by
  by_cases e : m = n + 1
  ·rw [e]
  ·rw [sumN, hz n (by omega) (by omega), Rat.add_zero, sumN_cut f n (by omega) fun i h1 h2 => hz i h1 (by omega)]
theorem rre_cut {n w k m : Nat} {E M b : Nat -> RV} {p : Nat -> Nat} (h : RRE (Rs n E) k b p) (hm : m <= k) (hp : ∀ l, l < m -> p l < w) (hp2 : ∀ l, m <= l -> l < k -> w <= p l) (hM : ∀ i, i < n -> ∀ y, M i y = tr w (E i) y) : RRE (Rs n M) m (fun i => tr w (b i)) p := by
 refine ⟨⟨fun i hi => sp_tr hM (h.ub.mem i (by omega)), fun i hi => ?_, fun i hi l hl hne => ?_, fun v hv => ?_⟩, fun i hi j hj => ?_, fun i l h1 h2 => h.inc i l h1 (by omega)⟩
 ·show tr w (b i) (p i) = 1
  rw [tr_lt (hp i hi), h.ub.one i (by omega)]
 ·show tr w (b i) (p l) = 0
  rw [tr_lt (hp l hl), h.ub.off i (by omega) l (by omega) hne]
 ·refine ub_gen (S := Rs n M) (fun v ⟨i, hi, e⟩ j => ?_) v hv
  subst e
  show M i j = sumN m fun l => M i (p l) * tr w (b l) j
  rw [hM i hi]
  by_cases hj : j < w
  ·rw [tr_lt hj, h.ub.gen (E i) (.row hi) j, sumN_cut _ k hm fun l h1 h2 => by rw [h.lead l h2 j (by have := hp2 l h1 h2; omega), Rat.mul_zero]]
   exact qas m fun l hl => by rw [hM i hi, tr_lt (hp l hl), tr_lt hj]
  ·rw [tr_ge (by omega), qas m (g := fun _ => 0) fun l hl => by rw [tr_ge (by omega), Rat.mul_zero], sumN_zero]
 ·show tr w (b i) j = 0
  unfold tr
  split
  ·exact h.lead i (by omega) j hj
  ·rfl
end Go.Abs
end
