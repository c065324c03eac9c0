/-
  A part of the proof: RnU1k, MtK, MtE, MtS.
-/
import Derived.Test.YtjfmkcmepdedaaaGreatM13
set_option maxHeartbeats 0
set_option maxRecDepth 100000
set_option linter.unusedVariables false
set_option linter.unusedSimpArgs false
set_option linter.unusedSectionVars false
section
namespace Go.Proofs.YtjfmkcmepdedaaaGreat
open Go Go.Abs Go.Proofs
structure RN where
 s : Bool
 r : Abs.Rows
 t : Bool
 p : Abs.Rows
def RN.row (c : RN) : List Tree := [.v (.bool c.s), .lst false c.r, .v (.bool c.t), .lst false c.p]
end Go.Proofs.YtjfmkcmepdedaaaGreat
end
section
namespace Go.Abs
def isP (p : Nat -> Nat) : Nat -> Nat -> Bool
 | 0, _ => false
 | k + 1, y => if y = p k then true else isP p k y
theorem isP_iff (p : Nat -> Nat) (y : Nat) : ∀ k, isP p k y = true ↔ ∃ l, l < k /\ p l = y
 | 0 => by simp [isP]
 | k + 1 => by
  unfold isP
  split
  ·rename_i h
   exact ⟨fun _ => ⟨k, by omega, h.symm⟩, fun _ => rfl⟩
  ·rename_i h
   rw [isP_iff p y k]
   constructor
   ·rintro ⟨l, h1, h2⟩; exact ⟨l, by omega, h2⟩
   ·rintro ⟨l, h1, h2⟩
    refine ⟨l, ?_, h2⟩
    by_cases e : l = k
    ·rw [e] at h2; exact absurd h2.symm h
    ·omega
theorem sumN_pick (v : Nat -> Rat) {w j : Nat} (hj : j < w) : (sumN w fun y => v y * (if y = j then 1 else 0)) = v j := by
 rw [sumN_one w hj fun l _ hne => by rw [if_neg hne, Rat.mul_zero], if_pos rfl, Rat.mul_one]
theorem tri_all {n : Nat} {R : Nat -> RV} (h0 : ∀ i, i < n -> R i i ≠ 0) (hl : ∀ i, i < n -> ∀ y, y < i -> R i y = 0) (hr : ∀ i, i < n -> ∀ y, n <= y -> R i y = 0) : ∀ m l, l + m = n -> ∀ v : RV, (∀ y, y < l ∨ n <= y -> v y = 0) -> Sp (Rs n R) v
 | 0, l, h, v, hv => Sp.zero.cast fun y => hv y (by omega)
 | m + 1, l, h, v, hv => by
  have hln : l < n := by omega
  have h00 := h0 l hln
  have := tri_all h0 hl hr m (l + 1) (by omega) (fun y => v y - v l / R l l * R l y) fun y hy => by
   by_cases e : y = l
   ·rw [e, Rat.div_mul_cancel h00, Rat.sub_self]
   ·have hz : R l y = 0 := by
     rcases hy with hy | hy
     ·exact hl l hln y (by omega)
     ·exact hr l hln y hy
    rw [hv y (by omega), hz]; grind
  exact Sp.lin (v l / R l l) this (.row hln) fun y => by grind
theorem rv_inj {P Q : List Rat} (h : P.length = Q.length) (e : rv P = rv Q) : P = Q := by
 refine List.ext_getElem h fun i h1 h2 => ?_
 have := congrFun e i
 unfold rv at this
 rw [List.getD_eq_getElem?_getD, List.getD_eq_getElem?_getD, List.getElem?_eq_getElem h1, List.getElem?_eq_getElem h2] at this
 exact this
def dswp (R : Nat -> List Rat) (j l : Nat) : Nat -> List Rat := fun i => if i = j then R l else if i = l then R j else R i
def dstep (R : Nat -> List Rat) (j l : Nat) : Nat -> List Rat := fun i => if i <= j then dswp R j l i else elm (dswp R j l i) (R l) j
structure DtI (n j : Nat) (M R : Nat -> List Rat) : Prop where
 len : ∀ i, i < n -> (R i).length = n
 sp : SpE (Rs n fun i => rv (M i)) (Rs n fun i => rv (R i))
 piv : ∀ l, l < j -> rv (R l) l ≠ 0
 low : ∀ l, l < j -> ∀ i, l < i -> i < n -> rv (R i) l = 0
theorem DtI.start {n : Nat} {M : Nat -> List Rat} (h : ∀ i, i < n -> (M i).length = n) : DtI n 0 M M := ⟨h, SpE.refl _, by omega, by omega⟩
theorem dswp_len {n w j l : Nat} {R : Nat -> List Rat} (h : ∀ i, i < n -> (R i).length = w) (hj : j < n) (hl : l < n) : ∀ i, i < n -> (dswp R j l i).length = w := fun i hi => by
 unfold dswp
 split
 ·exact h l hl
 ·split
  ·exact h j hj
  ·exact h i hi
theorem DtI.step {n j l : Nat} {M R : Nat -> List Rat} (h : DtI n j M R) (h1 : j <= l) (h2 : l < n) (hx : (R l).getD j 0 ≠ 0) : DtI n (j + 1) M (dstep R j l) := by
 have hj : j < n := by omega
 have lS := dswp_len h.len hj h2
 have hS : SpE (Rs n fun i => rv (R i)) (Rs n fun i => rv (dswp R j l i)) := spe_swap (a := j) (b := l) hj h2 fun i _ => by
  show rv (dswp R j l i) = _
  unfold dswp
  split
  ·rfl
  ·split <;> rfl
 have hSj : dswp R j l j = R l := if_pos rfl
 have hlow : ∀ y, y < j -> ∀ i, j <= i -> i < n -> rv (dswp R j l i) y = 0 := fun y hy i hi hin => by
  unfold dswp
  split
  ·exact h.low y hy l (by omega) h2
  ·split
   ·exact h.low y hy j (by omega) hj
   ·exact h.low y hy i (by omega) hin
 have hel : ∀ i, i < n -> j < i -> ∀ y, rv (dstep R j l i) y = rv (dswp R j l i) y + (-((dswp R j l i).getD j 0 / (R l).getD j 0)) * rv (R l) y := fun i hi hji y => by
  unfold dstep
  rw [if_neg (by omega), elm_rv (by rw [lS i hi, h.len l h2])]
 have hle : ∀ i, i <= j -> dstep R j l i = dswp R j l i := fun i hi => if_pos hi
 refine ⟨fun i hi => ?_, (h.sp.trans hS).trans ?_, fun y hy => ?_, fun y hy i hyi hin => ?_⟩
 ·unfold dstep
  split
  ·exact lS i hi
  ·rw [elm_len]; exact lS i hi
 ·refine spe_elim (k := j) (c := fun i => if i <= j then 0 else -((dswp R j l i).getD j 0 / (R l).getD j 0)) hj ?_ fun i hi hne y => ?_
  ·show rv (dstep R j l j) = rv (dswp R j l j)
   rw [hle j (Nat.le_refl _)]
  ·show rv (dstep R j l i) y = rv (dswp R j l i) y + (if i <= j then 0 else _) * rv (dswp R j l j) y
   by_cases e : i <= j
   ·rw [if_pos e, hle i e]; grind
   ·rw [if_neg e, hel i hi (by omega), hSj]
 ·rw [hle y (by omega)]
  by_cases e : y = j
  ·rw [e, hSj]; exact hx
  ·have : dswp R j l y = R y := by
    unfold dswp
    rw [if_neg e, if_neg (by omega)]
   rw [this]; exact h.piv y (by omega)
 ·by_cases e : y = j
  ·subst e
   rw [hel i hin hyi]
   show (dswp R y l i).getD y 0 + _ * (R l).getD y 0 = 0
   have := Rat.div_mul_cancel hx (a := (dswp R y l i).getD y 0)
   rw [Rat.neg_mul, this]; grind
  ·by_cases hij : i <= j
   ·rw [hle i hij]
    by_cases hi : i = j
    ·exact hlow y (by omega) i (by omega) hin
    ·have : dswp R j l i = R i := by
      unfold dswp
      rw [if_neg hi, if_neg (by omega)]
     rw [this]; exact h.low y (by omega) i hyi hin
   ·rw [hel i hin (by omega), hlow y (by omega) i (by omega) hin, <- hSj, hlow y (by omega) j (Nat.le_refl _) hj]; grind
theorem DtI.all {n : Nat} {M R : Nat -> List Rat} (h : DtI n n M R) (v : RV) (hv : ∀ y, n <= y -> v y = 0) : Sp (Rs n fun i => rv (M i)) v :=
 h.sp.r _ (tri_all (R := fun i => rv (R i)) (fun i hi => h.piv i hi) (fun i hi y hy => h.low y (by omega) i hy hi)
  (fun i hi y hy => by
   show (R i).getD y 0 = 0
   rw [List.getD_eq_getElem?_getD, List.getElem?_eq_none (by rw [h.len i hi]; exact hy)]; rfl) n 0 (by omega) v fun y hy => hv y (by omega))
def svf (R : Nat -> List Rat) (p : Nat -> Nat) (w : Nat) : Nat -> Nat -> Rat
 | 0, _ => 0
 | k + 1, y => if y = p k then (R k).getD w 0 else svf R p w k y
def srow (w : Nat) (R : Nat -> List Rat) (p : Nat -> Nat) (k : Nat) : List Rat := (List.range w).map (svf R p w k)
theorem srow_len (w : Nat) (R : Nat -> List Rat) (p : Nat -> Nat) (k : Nat) : (srow w R p k).length = w := by simp [srow]
theorem srow_get {w : Nat} {R : Nat -> List Rat} {p : Nat -> Nat} {k y : Nat} (h : y < w) : (srow w R p k)[y]? = some (svf R p w k y) := by simp [srow, List.getElem?_range h]
theorem srow_rv {w : Nat} {R : Nat -> List Rat} {p : Nat -> Nat} {k y : Nat} (h : y < w) : rv (srow w R p k) y = svf R p w k y := by
 unfold rv
 rw [List.getD_eq_getElem?_getD, srow_get h]; rfl
theorem srow_zero (w : Nat) (R : Nat -> List Rat) (p : Nat -> Nat) : List.replicate w 0 = srow w R p 0 := by
 refine List.ext_getElem? fun y => ?_
 by_cases hy : y < w
 ·rw [srow_get hy, List.getElem?_replicate, if_pos hy]; rfl
 ·rw [List.getElem?_eq_none (by simp; omega), List.getElem?_eq_none (by rw [srow_len]; omega)]
theorem srow_next {w : Nat} {R : Nat -> List Rat} {p : Nat -> Nat} {k : Nat} (h : p k < w) : (srow w R p k).set (p k) ((R k).getD w 0) = srow w R p (k + 1) := by
 refine List.ext_getElem? fun y => ?_
 by_cases hy : y < w
 ·rw [srow_get hy, List.getElem?_set, srow_len]
  by_cases e : p k = y
  ·rw [if_pos e, if_pos (by omega)]; simp [e, svf]
  ·rw [if_neg e, srow_get hy]; simp [svf, Ne.symm e]
 ·rw [List.getElem?_eq_none (by rw [List.length_set, srow_len]; omega), List.getElem?_eq_none (by rw [srow_len]; omega)]
def exM (M : Nat -> List Rat) (D : List Rat) : Nat -> List Rat := fun i => M i ++ [D.getD i 0]
theorem exM_len {M : Nat -> List Rat} {D : List Rat} {i w : Nat} (h : (M i).length = w) : (exM M D i).length = w + 1 := by simp [exM, h]
def tr (w : Nat) (v : RV) : RV := fun y => if y < w then v y else 0
theorem tr_lt {w y : Nat} {v : RV} (h : y < w) : tr w v y = v y := if_pos h
theorem tr_ge {w y : Nat} {v : RV} (h : w <= y) : tr w v y = 0 := if_neg (by omega)
theorem sp_tr {n w : Nat} {E M : Nat -> RV} (hM : ∀ i, i < n -> ∀ y, M i y = tr w (E i) y) {v : RV} (hv : Sp (Rs n E) v) : Sp (Rs n M) (tr w v) := by
 induction hv with
 | mem h =>
  obtain ⟨i, hi, e⟩ := h
  exact (Sp.row hi).cast fun y => by rw [e, hM i hi]
 | zero => exact Sp.zero.cast fun y => by unfold tr; split <;> rfl
 | add _ _ a b =>
  refine (Sp.add a b).cast fun y => ?_
  unfold tr
  split <;> grind
 | smul c _ a =>
  refine (Sp.smul c a).cast fun y => ?_
  unfold tr
  split <;> grind
theorem sumN_cut (f : Nat -> Rat) {m : Nat} : ∀ n, m <= n -> (∀ i, m <= i -> i < n -> f i = 0) -> sumN n f = sumN m f
 | 0, h, _ => by rw [show m = 0 by omega]
 | n + 1, h, hz => by
  by_cases e : m = n + 1
  ·rw [e]
  ·rw [sumN, hz n (by omega) (by omega), Rat.add_zero, sumN_cut f n (by omega) fun i h1 h2 => hz i h1 (by omega)]
theorem rre_cut {n w k m : Nat} {E M b : Nat -> RV} {p : Nat -> Nat} (h : RRE (Rs n E) k b p) (hm : m <= k) (hp : ∀ l, l < m -> p l < w) (hp2 : ∀ l, m <= l -> l < k -> w <= p l) (hM : ∀ i, i < n -> ∀ y, M i y = tr w (E i) y) : RRE (Rs n M) m (fun i => tr w (b i)) p := by
 refine ⟨⟨fun i hi => sp_tr hM (h.ub.mem i (by omega)), fun i hi => ?_, fun i hi l hl hne => ?_, fun v hv => ?_⟩, fun i hi j hj => ?_, fun i l h1 h2 => h.inc i l h1 (by omega)⟩
 ·show tr w (b i) (p i) = 1
  rw [tr_lt (hp i hi), h.ub.one i (by omega)]
 ·show tr w (b i) (p l) = 0
  rw [tr_lt (hp l hl), h.ub.off i (by omega) l (by omega) hne]
 ·refine ub_gen (S := Rs n M) (fun v ⟨i, hi, e⟩ j => ?_) v hv
  subst e
  show M i j = sumN m fun l => M i (p l) * tr w (b l) j
  rw [hM i hi]
  by_cases hj : j < w
  ·rw [tr_lt hj, h.ub.gen (E i) (.row hi) j, sumN_cut _ k hm fun l h1 h2 => by rw [h.lead l h2 j (by have := hp2 l h1 h2; omega), Rat.mul_zero]]
   exact qaq m fun l hl => by rw [hM i hi, tr_lt (hp l hl), tr_lt hj]
  ·rw [tr_ge (by omega), qaq m (g := fun _ => 0) fun l hl => by rw [tr_ge (by omega), Rat.mul_zero], sumN_zero]
 ·show tr w (b i) j = 0
  unfold tr
  split
  ·exact h.lead i (by omega) j hj
  ·rfl
theorem svf_zero {R : Nat -> List Rat} {p : Nat -> Nat} {w y : Nat} : ∀ k, (∀ l, l < k -> p l ≠ y) -> svf R p w k y = 0
 | 0, _ => rfl
 | k + 1, h => by rw [svf, if_neg (fun e => h k (by omega) e.symm), svf_zero k fun l hl => h l (by omega)]
theorem svf_sum {R : Nat -> List Rat} {p : Nat -> Nat} {w : Nat} (v : RV) : ∀ k, (∀ i l, i < l -> l < k -> p i < p l) -> (∀ l, l < k -> p l < w) -> (sumN w fun y => v y * svf R p w k y) = sumN k fun l => v (p l) * (R l).getD w 0
 | 0, _, _ => by
  rw [qaq w (g := fun _ => 0) fun y _ => by rw [svf, Rat.mul_zero], sumN_zero]; rfl
 | k + 1, hi, hp => by
  have e : ∀ y, v y * svf R p w (k + 1) y = v y * svf R p w k y + (R k).getD w 0 * (v y * (if y = p k then 1 else 0)) := fun y => by
   rw [svf]
   by_cases h : y = p k
   ·rw [if_pos h, if_pos h, h, svf_zero k fun l hl => by have := hi l k hl (by omega); omega]; grind
   ·rw [if_neg h, if_neg h]; grind
  rw [qaq w fun y _ => e y, sumN_add, sumN_mul, sumN_pick v (hp k (by omega)), svf_sum v k (fun i l h1 h2 => hi i l h1 (by omega)) fun l hl => hp l (by omega), sumN, Rat.mul_comm (v (p k))]
theorem sol_facts {n w : Nat} {M : Nat -> List Rat} {D : List Rat} (hl : ∀ i, i < n -> (M i).length = w) {k : Nat} {R : Nat -> List Rat} {p : Nat -> Nat} (hk : k = (rdIt n (exM M D) (w + 1)).k) (hR : R = (rdIt n (exM M D) (w + 1)).R) (hp : p = (rdIt n (exM M D) (w + 1)).p) :
  (isP p k w = true -> k = (rdIt n M w).k + 1) /\ (isP p k w = false -> k = (rdIt n M w).k /\ ∀ i, i < n -> (sumN w fun y => rv (M i) y * svf R p w k y) = D.getD i 0) := by
 have ok := rdIt_ok (fun i hi => exM_len (D := D) (hl i hi)) (w + 1)
 rw [<- hk, <- hR, <- hp] at ok
 have h := ok.rre
 have g := (rdIt_ok hl w).rre
 have hM : ∀ i, i < n -> ∀ y, rv (M i) y = tr w (rv (exM M D i)) y := fun i hi y => by
  show (M i).getD y 0 = if y < w then (M i ++ [D.getD i 0]).getD y 0 else 0
  rw [List.getD_eq_getElem?_getD]
  split
  ·rename_i hy
   rw [List.getD_eq_getElem?_getD, List.getElem?_append_left (by rw [hl i hi]; exact hy)]
  ·rw [List.getElem?_eq_none (by rw [hl i hi]; omega)]; rfl
 have hpv : ∀ l, l < k -> p l < w + 1 := ok.pj
 constructor
 ·intro hP
  obtain ⟨l, hlk, e⟩ := (isP_iff p w k).1 hP
  have hlast : l + 1 = k := Classical.byContradiction fun hne => by
   have h1 := ok.inc l (l + 1) (by omega) (by omega)
   have h2 := hpv (l + 1) (by omega)
   omega
  have := rre_cut (w := w) (m := l) (M := fun i => rv (M i)) h (by omega) (fun i hi => by have := ok.inc i l hi hlk; omega) (fun i h1 h2 => by rw [show i = l by omega, e]; omega) hM
  have := (this.uniq g (SpE.refl _)).1
  omega
 ·intro hP
  have hpw : ∀ l, l < k -> p l < w := fun l hlk => by
   have h1 := hpv l hlk
   have h2 : p l ≠ w := fun e => by
    have := (isP_iff p w k).2 ⟨l, hlk, e⟩
    rw [hP] at this; cases this
   omega
  have := rre_cut (w := w) (m := k) (M := fun i => rv (M i)) h (by omega) hpw (fun i h1 h2 => by omega) hM
  refine ⟨(this.uniq g (SpE.refl _)).1, fun i hi => ?_⟩
  rw [svf_sum (rv (M i)) k ok.inc hpw]
  have e := h.ub.gen (rv (exM M D i)) (.row (R := fun i => rv (exM M D i)) hi) w
  have e0 : rv (exM M D i) w = D.getD i 0 := by
   unfold rv exM
   rw [List.getD_eq_getElem?_getD, List.getElem?_append_right (by rw [hl i hi]; omega), hl i hi, Nat.sub_self]; rfl
  rw [<- e0, e]
  exact qaq k fun l hlk => by
   rw [hM i hi, tr_lt (hpw l hlk)]; rfl
def mixl (A B : List Rat) (i : Nat) : List Rat := A.take i ++ B.drop i
theorem mixl_get {A B : List Rat} (h : A.length = B.length) {i : Nat} (hi : i < A.length) : (mixl A B i)[i]? = B[i]? := by
 unfold mixl
 rw [List.getElem?_append_right (by simp; omega), List.length_take, Nat.min_eq_left (by omega), Nat.sub_self, List.getElem?_drop, Nat.add_zero]
theorem mixl_set {A B : List Rat} (h : A.length = B.length) {i : Nat} (hi : i < A.length) : (mixl A B i).set i (A.getD i 0) = mixl A B (i + 1) := by
 unfold mixl
 have e : B.drop i = B[i] :: B.drop (i + 1) := List.drop_eq_getElem_cons (by omega)
 rw [List.set_append_right _ _ (by simp; omega), List.length_take, Nat.min_eq_left (by omega), Nat.sub_self, e, List.set_cons_zero, List.getD_eq_getElem?_getD, List.getElem?_eq_getElem hi]
 rw [List.take_add_one (l := A), List.getElem?_eq_getElem hi, List.append_assoc]; rfl
theorem mixl_zero (A B : List Rat) : mixl A B 0 = B := by simp [mixl]
theorem mixl_all {A B : List Rat} (h : A.length = B.length) : mixl A B A.length = A := by rw [mixl, List.take_length, h, List.drop_length, List.append_nil]
end Go.Abs
end
