/-
  A part of the proof: MtG, MtI, MxI1k, MxZ1k, MxY1k, MxN1k, MxJ1k, MxK1k, MxV1k, MxM1k.
-/
import Derived.Test.YtjfmkcmepdedaaaGreatM16
set_option maxHeartbeats 0
set_option maxRecDepth 100000
set_option linter.unusedVariables false
set_option linter.unusedSimpArgs false
set_option linter.unusedSectionVars false
section
namespace Go.Abs
def mn (R : Nat -> RV) (i j a b : Nat) : Rat := R i a * R j b - R i b * R j a
def lp (M : Nat -> RV) (i j k l : Nat) : Rat := mn M i j 0 1 * mn M k l 2 3 - mn M i j 0 2 * mn M k l 1 3 + mn M i j 0 3 * mn M k l 1 2 + mn M i j 1 2 * mn M k l 0 3 - mn M i j 1 3 * mn M k l 0 2 + mn M i j 2 3 * mn M k l 0 1
def dtn (n : Nat) (R : Nat -> RV) : Rat :=
 match n with
 | 0 => 1
 | 1 => R 0 0
 | 2 => mn R 0 1 0 1
 | 3 => R 0 0 * mn R 1 2 1 2 - R 0 1 * mn R 1 2 0 2 + R 0 2 * mn R 1 2 0 1
 | _ => lp R 0 1 2 3
theorem mn_mul (T M P : Nat -> RV) (h : ∀ i, i < 4 -> ∀ y, P i y = T i 0 * M 0 y + T i 1 * M 1 y + T i 2 * M 2 y + T i 3 * M 3 y) {i j : Nat} (hi : i < 4) (hj : j < 4) (a b : Nat) : mn P i j a b = mn T i j 0 1 * mn M 0 1 a b + mn T i j 0 2 * mn M 0 2 a b + mn T i j 0 3 * mn M 0 3 a b + mn T i j 1 2 * mn M 1 2 a b + mn T i j 1 3 * mn M 1 3 a b + mn T i j 2 3 * mn M 2 3 a b := by
 unfold mn
 rw [h i hi, h i hi, h j hj, h j hj]
 grind
theorem lp_two (M : Nat -> RV) (i j l : Nat) : lp M i j i l = 0 := by unfold lp mn; grind
theorem lp_two1 (M : Nat -> RV) (i j k : Nat) : lp M i j k i = 0 := by unfold lp mn; grind
theorem lp_two2 (M : Nat -> RV) (i j l : Nat) : lp M i j j l = 0 := by unfold lp mn; grind
theorem lp_two3 (M : Nat -> RV) (i j k : Nat) : lp M i j k j = 0 := by unfold lp mn; grind
theorem dt4_mul (T M P : Nat -> RV) (h : ∀ i, i < 4 -> ∀ y, P i y = T i 0 * M 0 y + T i 1 * M 1 y + T i 2 * M 2 y + T i 3 * M 3 y) : lp P 0 1 2 3 = lp T 0 1 2 3 * lp M 0 1 2 3 := by
 have h1 := fun a b => mn_mul T M P h (i := 0) (j := 1) (by omega) (by omega) a b
 have h2 := fun a b => mn_mul T M P h (i := 2) (j := 3) (by omega) (by omega) a b
 have e : lp P 0 1 2 3 = mn T 0 1 0 1 * mn T 2 3 0 1 * lp M 0 1 0 1 + mn T 0 1 0 1 * mn T 2 3 0 2 * lp M 0 1 0 2 + mn T 0 1 0 1 * mn T 2 3 0 3 * lp M 0 1 0 3 + mn T 0 1 0 1 * mn T 2 3 1 2 * lp M 0 1 1 2 + mn T 0 1 0 1 * mn T 2 3 1 3 * lp M 0 1 1 3 + mn T 0 1 0 1 * mn T 2 3 2 3 * lp M 0 1 2 3 + mn T 0 1 0 2 * mn T 2 3 0 1 * lp M 0 2 0 1 + mn T 0 1 0 2 * mn T 2 3 0 2 * lp M 0 2 0 2 + mn T 0 1 0 2 * mn T 2 3 0 3 * lp M 0 2 0 3 + mn T 0 1 0 2 * mn T 2 3 1 2 * lp M 0 2 1 2 + mn T 0 1 0 2 * mn T 2 3 1 3 * lp M 0 2 1 3 + mn T 0 1 0 2 * mn T 2 3 2 3 * lp M 0 2 2 3 + mn T 0 1 0 3 * mn T 2 3 0 1 * lp M 0 3 0 1 + mn T 0 1 0 3 * mn T 2 3 0 2 * lp M 0 3 0 2 + mn T 0 1 0 3 * mn T 2 3 0 3 * lp M 0 3 0 3 + mn T 0 1 0 3 * mn T 2 3 1 2 * lp M 0 3 1 2 + mn T 0 1 0 3 * mn T 2 3 1 3 * lp M 0 3 1 3 + mn T 0 1 0 3 * mn T 2 3 2 3 * lp M 0 3 2 3 + mn T 0 1 1 2 * mn T 2 3 0 1 * lp M 1 2 0 1 + mn T 0 1 1 2 * mn T 2 3 0 2 * lp M 1 2 0 2 + mn T 0 1 1 2 * mn T 2 3 0 3 * lp M 1 2 0 3 + mn T 0 1 1 2 * mn T 2 3 1 2 * lp M 1 2 1 2 + mn T 0 1 1 2 * mn T 2 3 1 3 * lp M 1 2 1 3 + mn T 0 1 1 2 * mn T 2 3 2 3 * lp M 1 2 2 3 + mn T 0 1 1 3 * mn T 2 3 0 1 * lp M 1 3 0 1 + mn T 0 1 1 3 * mn T 2 3 0 2 * lp M 1 3 0 2 + mn T 0 1 1 3 * mn T 2 3 0 3 * lp M 1 3 0 3 + mn T 0 1 1 3 * mn T 2 3 1 2 * lp M 1 3 1 2 + mn T 0 1 1 3 * mn T 2 3 1 3 * lp M 1 3 1 3 + mn T 0 1 1 3 * mn T 2 3 2 3 * lp M 1 3 2 3 + mn T 0 1 2 3 * mn T 2 3 0 1 * lp M 2 3 0 1 + mn T 0 1 2 3 * mn T 2 3 0 2 * lp M 2 3 0 2 + mn T 0 1 2 3 * mn T 2 3 0 3 * lp M 2 3 0 3 + mn T 0 1 2 3 * mn T 2 3 1 2 * lp M 2 3 1 2 + mn T 0 1 2 3 * mn T 2 3 1 3 * lp M 2 3 1 3 + mn T 0 1 2 3 * mn T 2 3 2 3 * lp M 2 3 2 3 := by
  unfold lp
  simp only [h1, h2]
  grind
 rw [e]
 have d02 : lp M 0 2 1 3 = -lp M 0 1 2 3 := by unfold lp mn; grind
 have d03 : lp M 0 3 1 2 = lp M 0 1 2 3 := by unfold lp mn; grind
 have d12 : lp M 1 2 0 3 = lp M 0 1 2 3 := by unfold lp mn; grind
 have d13 : lp M 1 3 0 2 = -lp M 0 1 2 3 := by unfold lp mn; grind
 have d23 : lp M 2 3 0 1 = lp M 0 1 2 3 := by unfold lp mn; grind
 simp only [lp_two, lp_two1, lp_two2, lp_two3, d02, d03, d12, d13, d23]
 generalize lp M 0 1 2 3 = D
 unfold lp
 grind
theorem dtn_mul {n : Nat} (hn : n <= 4) {T M P : Nat -> RV} (h : ∀ i, i < n -> ∀ y, P i y = sumN n fun l => T i l * M l y) : dtn n P = dtn n T * dtn n M := by
 obtain rfl | rfl | rfl | rfl | rfl : n = 0 ∨ n = 1 ∨ n = 2 ∨ n = 3 ∨ n = 4 := by omega
 ·show (1 : Rat) = 1 * 1; grind
 ·show P 0 0 = T 0 0 * M 0 0
  rw [h 0 (by omega)]; simp only [sumN]; grind
 ·have h0 := h 0 (by omega)
  have h1 := h 1 (by omega)
  show mn P 0 1 0 1 = mn T 0 1 0 1 * mn M 0 1 0 1
  unfold mn
  simp only [h0, h1, sumN]; grind
 ·have h0 := h 0 (by omega)
  have h1 := h 1 (by omega)
  have h2 := h 2 (by omega)
  simp only [dtn]
  unfold mn
  simp only [h0, h1, h2, sumN]; grind
 ·exact dt4_mul T M P fun i hi y => by rw [h i hi]; simp only [sumN]; grind
theorem dtn_tr {n : Nat} (hn : n <= 4) {M P : Nat -> RV} (h : ∀ i, i < n -> ∀ y, y < n -> P i y = M y i) : dtn n P = dtn n M := by
 obtain rfl | rfl | rfl | rfl | rfl : n = 0 ∨ n = 1 ∨ n = 2 ∨ n = 3 ∨ n = 4 := by omega
 ·rfl
 ·exact h 0 (by omega) 0 (by omega)
 ·simp only [dtn, mn, h 0 (by omega) 0 (by omega), h 0 (by omega) 1 (by omega), h 1 (by omega) 0 (by omega), h 1 (by omega) 1 (by omega)]; grind
 ·simp only [dtn, mn, h 0 (by omega) 0 (by omega), h 0 (by omega) 1 (by omega), h 0 (by omega) 2 (by omega), h 1 (by omega) 0 (by omega), h 1 (by omega) 1 (by omega), h 1 (by omega) 2 (by omega), h 2 (by omega) 0 (by omega), h 2 (by omega) 1 (by omega), h 2 (by omega) 2 (by omega)]; grind
 ·have hh : ∀ i y, i < 4 -> y < 4 -> P i y = M y i := fun i y h1 h2 => h i h1 y h2
  simp only [dtn, lp, mn, hh 0 0 (by omega) (by omega), hh 0 1 (by omega) (by omega), hh 0 2 (by omega) (by omega), hh 0 3 (by omega) (by omega), hh 1 0 (by omega) (by omega), hh 1 1 (by omega) (by omega), hh 1 2 (by omega) (by omega), hh 1 3 (by omega) (by omega), hh 2 0 (by omega) (by omega), hh 2 1 (by omega) (by omega), hh 2 2 (by omega) (by omega), hh 2 3 (by omega) (by omega), hh 3 0 (by omega) (by omega), hh 3 1 (by omega) (by omega), hh 3 2 (by omega) (by omega), hh 3 3 (by omega) (by omega)]; grind
theorem dtn_swap {n a b : Nat} (hn : n <= 4) (hab : a < b) (hb : b < n) {R S : Nat -> RV} (h : ∀ i, i < n -> S i = if i = a then R b else if i = b then R a else R i) : dtn n S = - dtn n R := by
 have hh : ∀ i, i < n -> ∀ y, S i y = (if i = a then R b else if i = b then R a else R i) y := fun i hi y => by rw [h i hi]
 obtain rfl | rfl | rfl | rfl | rfl : n = 0 ∨ n = 1 ∨ n = 2 ∨ n = 3 ∨ n = 4 := by omega
 ·omega
 ·omega
 ·obtain ⟨rfl, rfl⟩ : a = 0 /\ b = 1 := by omega
  simp only [dtn, mn, hh 0 (by omega), hh 1 (by omega)]; simp; grind
 ·obtain ⟨rfl, rfl⟩ | ⟨rfl, rfl⟩ | ⟨rfl, rfl⟩ : (a = 0 /\ b = 1) ∨ (a = 0 /\ b = 2) ∨ (a = 1 /\ b = 2) := by omega
  all_goals simp only [dtn, mn, hh 0 (by omega), hh 1 (by omega), hh 2 (by omega)]; simp; grind
 ·obtain ⟨rfl, rfl⟩ | ⟨rfl, rfl⟩ | ⟨rfl, rfl⟩ | ⟨rfl, rfl⟩ | ⟨rfl, rfl⟩ | ⟨rfl, rfl⟩ : (a = 0 /\ b = 1) ∨ (a = 0 /\ b = 2) ∨ (a = 1 /\ b = 2) ∨ (a = 0 /\ b = 3) ∨ (a = 1 /\ b = 3) ∨ (a = 2 /\ b = 3) := by omega
  all_goals simp only [dtn, lp, mn, hh 0 (by omega), hh 1 (by omega), hh 2 (by omega), hh 3 (by omega)]; simp; grind
theorem dtn_elim {n k : Nat} (hn : n <= 4) (hk : k < n) {R S : Nat -> RV} {c : Nat -> Rat} (h1 : ∀ i, i <= k -> i < n -> S i = R i) (h2 : ∀ i, k < i -> i < n -> ∀ y, S i y = R i y + c i * R k y) : dtn n S = dtn n R := by
 have hh : ∀ i, i < n -> ∀ y, S i y = R i y + (if k < i then c i else 0) * R k y := fun i hi y => by
  by_cases h : k < i
  ·rw [if_pos h, h2 i h hi]
  ·rw [if_neg h, h1 i (by omega) hi]; grind
 obtain rfl | rfl | rfl | rfl : n = 1 ∨ n = 2 ∨ n = 3 ∨ n = 4 := by omega
 ·obtain rfl : k = 0 := by omega
  simp only [dtn, hh 0 (by omega)]; simp; grind
 ·obtain rfl | rfl : k = 0 ∨ k = 1 := by omega
  all_goals simp only [dtn, mn, hh 0 (by omega), hh 1 (by omega)]; simp; grind
 ·obtain rfl | rfl | rfl : k = 0 ∨ k = 1 ∨ k = 2 := by omega
  all_goals simp only [dtn, mn, hh 0 (by omega), hh 1 (by omega), hh 2 (by omega)]; simp; grind
 ·obtain rfl | rfl | rfl | rfl : k = 0 ∨ k = 1 ∨ k = 2 ∨ k = 3 := by omega
  all_goals simp only [dtn, lp, mn, hh 0 (by omega), hh 1 (by omega), hh 2 (by omega), hh 3 (by omega)]; simp; grind
def dgp (R : Nat -> RV) : Nat -> Rat
 | 0 => 1
 | j + 1 => dgp R j * R j j
theorem dtn_tri {n : Nat} (hn : n <= 4) {R : Nat -> RV} (h : ∀ i, i < n -> ∀ y, y < i -> R i y = 0) : dtn n R = dgp R n := by
 obtain rfl | rfl | rfl | rfl | rfl : n = 0 ∨ n = 1 ∨ n = 2 ∨ n = 3 ∨ n = 4 := by omega
 ·rfl
 ·simp only [dtn, dgp]; grind
 ·simp only [dtn, mn, dgp, h 1 (by omega) 0 (by omega)]; grind
 ·simp only [dtn, mn, dgp, h 1 (by omega) 0 (by omega), h 2 (by omega) 0 (by omega), h 2 (by omega) 1 (by omega)]; grind
 ·simp only [dtn, lp, mn, dgp, h 1 (by omega) 0 (by omega), h 2 (by omega) 0 (by omega), h 2 (by omega) 1 (by omega), h 3 (by omega) 0 (by omega), h 3 (by omega) 1 (by omega), h 3 (by omega) 2 (by omega)]; grind
theorem dtn_zero {n j : Nat} (hn : n <= 4) (hj : j < n) {R : Nat -> RV} (h : ∀ y, y < j -> ∀ i, y < i -> i < n -> R i y = 0) (h2 : ∀ i, j <= i -> i < n -> R i j = 0) : dtn n R = 0 := by
 obtain rfl | rfl | rfl | rfl : j = 0 ∨ j = 1 ∨ j = 2 ∨ j = 3 := by omega
 ·obtain rfl | rfl | rfl | rfl : n = 1 ∨ n = 2 ∨ n = 3 ∨ n = 4 := by omega
  ·simp only [dtn, h2 0 (by omega) (by omega)]
  ·simp only [dtn, mn, h2 0 (by omega) (by omega), h2 1 (by omega) (by omega)]; grind
  ·simp only [dtn, mn, h2 0 (by omega) (by omega), h2 1 (by omega) (by omega), h2 2 (by omega) (by omega)]; grind
  ·simp only [dtn, lp, mn, h2 0 (by omega) (by omega), h2 1 (by omega) (by omega), h2 2 (by omega) (by omega), h2 3 (by omega) (by omega)]; grind
 ·obtain rfl | rfl | rfl : n = 2 ∨ n = 3 ∨ n = 4 := by omega
  ·simp only [dtn, mn, h2 1 (by omega) (by omega), h 0 (by omega) 1 (by omega) (by omega)]; grind
  ·simp only [dtn, mn, h2 1 (by omega) (by omega), h2 2 (by omega) (by omega), h 0 (by omega) 1 (by omega) (by omega), h 0 (by omega) 2 (by omega) (by omega)]; grind
  ·simp only [dtn, lp, mn, h2 1 (by omega) (by omega), h2 2 (by omega) (by omega), h2 3 (by omega) (by omega), h 0 (by omega) 1 (by omega) (by omega), h 0 (by omega) 2 (by omega) (by omega), h 0 (by omega) 3 (by omega) (by omega)]; grind
 ·obtain rfl | rfl : n = 3 ∨ n = 4 := by omega
  ·simp only [dtn, mn, h2 2 (by omega) (by omega), h 0 (by omega) 1 (by omega) (by omega), h 0 (by omega) 2 (by omega) (by omega), h 1 (by omega) 2 (by omega) (by omega)]; grind
  ·simp only [dtn, lp, mn, h2 2 (by omega) (by omega), h2 3 (by omega) (by omega), h 0 (by omega) 1 (by omega) (by omega), h 0 (by omega) 2 (by omega) (by omega), h 0 (by omega) 3 (by omega) (by omega), h 1 (by omega) 2 (by omega) (by omega), h 1 (by omega) 3 (by omega) (by omega)]; grind
 ·obtain rfl : n = 4 := by omega
  simp only [dtn, lp, mn, h2 3 (by omega) (by omega), h 0 (by omega) 1 (by omega) (by omega), h 0 (by omega) 2 (by omega) (by omega), h 0 (by omega) 3 (by omega) (by omega), h 1 (by omega) 2 (by omega) (by omega), h 1 (by omega) 3 (by omega) (by omega), h 2 (by omega) 3 (by omega) (by omega)]; grind
theorem dgp_congr {R S : Nat -> RV} : ∀ j, (∀ l, l < j -> R l l = S l l) -> dgp R j = dgp S j
 | 0, _ => rfl
 | j + 1, h => by rw [dgp, dgp, dgp_congr j fun l hl => h l (by omega), h j (by omega)]
def uniL (n i : Nat) : List Rat := (List.replicate n 0).set i 1
def exI (n : Nat) (M : Nat -> List Rat) : Nat -> List Rat := fun i => M i ++ uniL n i
theorem uniL_len (n i : Nat) : (uniL n i).length = n := by simp [uniL]
theorem exI_len {n i : Nat} {M : Nat -> List Rat} (h : (M i).length = n) : (exI n M i).length = n + n := by simp [exI, uniL_len, h]
theorem uniL_rv {n i y : Nat} (hi : i < n) : rv (uniL n i) y = if y = i then 1 else 0 := by
 unfold rv uniL
 rw [List.getD_eq_getElem?_getD, List.getElem?_set]
 by_cases h : i = y
 ·rw [if_pos h, if_pos (by simp; exact hi), if_pos h.symm]; rfl
 ·rw [if_neg h, if_neg (Ne.symm h), List.getElem?_replicate]
  split <;> rfl
theorem exI_lt {n i y : Nat} {M : Nat -> List Rat} (h : (M i).length = n) (hy : y < n) : rv (exI n M i) y = rv (M i) y := by
 unfold rv exI
 rw [List.getD_eq_getElem?_getD, List.getD_eq_getElem?_getD, List.getElem?_append_left (by omega)]
theorem exI_ge {n i y : Nat} {M : Nat -> List Rat} (h : (M i).length = n) (hi : i < n) : rv (exI n M i) (n + y) = if y = i then 1 else 0 := by
 rw [<- uniL_rv (n := n) (y := y) hi]
 unfold rv exI
 rw [List.getD_eq_getElem?_getD, List.getD_eq_getElem?_getD, List.getElem?_append_right (by omega), h, Nat.add_sub_cancel_left]
theorem drop_rv (P : List Rat) (n y : Nat) : rv (P.drop n) y = rv P (n + y) := by
 unfold rv
 rw [List.getD_eq_getElem?_getD, List.getD_eq_getElem?_getD, List.getElem?_drop]
theorem inv_facts {n : Nat} {M : Nat -> List Rat} (hl : ∀ i, i < n -> (M i).length = n) {k : Nat} {R : Nat -> List Rat} {p : Nat -> Nat} (hk : k = (rdIt n (exI n M) (n + n)).k) (hR : R = (rdIt n (exI n M) (n + n)).R) (hp : p = (rdIt n (exI n M) (n + n)).p) :
  k = n /\ ((n ≠ 0 -> p (n - 1) = n - 1) -> ∀ i, i < n -> ∀ y, y < n -> (sumN n fun l => rv (M i) l * rv ((R l).drop n) y) = (if y = i then 1 else 0) /\ (sumN n fun l => rv ((R i).drop n) l * rv (M l) y) = if y = i then 1 else 0) /\
  (n ≠ 0 -> p (n - 1) ≠ n - 1 -> ¬∀ v : RV, (∀ y, n <= y -> v y = 0) -> Sp (Rs n fun i => rv (M i)) v) := by
 have ok := rdIt_ok (fun i hi => exI_len (hl i hi)) (n + n)
 rw [<- hk, <- hR, <- hp] at ok
 have h := ok.rre
 have hub : UB (Rs n fun i => rv (exI n M i)) n (fun i => rv (exI n M i)) (fun i => n + i) := UB.of_rows (fun i hi => by
  show rv (exI n M i) (n + i) = 1
  rw [exI_ge (hl i hi) hi, if_pos rfl]) (fun i hi l hl' hne => by
  show rv (exI n M i) (n + l) = 0
  rw [exI_ge (hl i hi) hi, if_neg hne])
 obtain rfl : k = n := h.ub.card hub (SpE.refl _)
 have hge : ∀ l, l < k -> l <= p l := fun l => by
  induction l with
  | zero => intro _; omega
  | succ l ih =>
   intro hlk
   have h1 := ih (by omega)
   have h2 := ok.inc l (l + 1) (by omega) hlk
   omega
 refine ⟨rfl, fun hlast i hi y hy => ?_, fun h0 hne hall => ?_⟩
 ·have hk1 := hlast (by omega)
  have hle : ∀ d l, l + d = k - 1 -> p l <= l := fun d => by
   induction d with
   | zero => intro l hl; rw [show l = k - 1 by omega, hk1]; exact Nat.le_refl _
   | succ d ih =>
    intro l hl
    have h1 := ih (l + 1) (by omega)
    have h2 := ok.inc l (l + 1) (by omega) (by omega)
    omega
  have hpl : ∀ l, l < k -> p l = l := fun l hlk => Nat.le_antisymm (hle (k - 1 - l) l (by omega)) (hge l hlk)
  constructor
  ·have e := h.ub.gen (rv (exI k M i)) (.row (R := fun i => rv (exI k M i)) hi) (k + y)
   rw [exI_ge (hl i hi) hi] at e
   rw [e]
   exact qas k fun l hlk => by rw [hpl l hlk, exI_lt (hl i hi) hlk, drop_rv]
  ·have e := hub.gen (rv (R i)) (h.ub.mem i hi) y
   have e2 : rv (R i) y = if y = i then 1 else 0 := by
    by_cases hyi : y = i
    ·rw [if_pos hyi, hyi]
     have := ok.one i hi
     rw [hpl i hi] at this; exact this
    ·rw [if_neg hyi]
     have := ok.off y hy i hi (Ne.symm hyi)
     rw [hpl y hy] at this; exact this
   rw [<- e2, e]
   exact qas k fun l hlk => by rw [drop_rv, exI_lt (hl l hlk) hy]
 ·have hm : ∃ m, m < k /\ (∀ l, l < m -> p l < k) /\ ∀ l, m <= l -> l < k -> k <= p l := by
   have : ∀ j, j <= k -> (∀ l, l < j -> p l < k) ∨ ∃ m, m < j /\ (∀ l, l < m -> p l < k) /\ k <= p m := fun j => by
    induction j with
    | zero => intro _; exact .inl (by omega)
    | succ j ih =>
     intro hj
     rcases ih (by omega) with h1 | ⟨m, h1, h2, h3⟩
     ·by_cases h4 : p j < k
      ·exact .inl fun l hl => by
        by_cases e : l = j
        ·rw [e]; exact h4
        ·exact h1 l (by omega)
      ·exact .inr ⟨j, by omega, h1, by omega⟩
     ·exact .inr ⟨m, by omega, h2, h3⟩
   rcases this k (Nat.le_refl _) with h1 | ⟨m, h1, h2, h3⟩
   ·have := h1 (k - 1) (by omega)
    have := hge (k - 1) (by omega)
    omega
   ·refine ⟨m, h1, h2, fun l hml hlk => ?_⟩
    by_cases e : m = l
    ·rw [<- e]; exact h3
    ·have := ok.inc m l (by omega) hlk
     omega
  obtain ⟨m, hmk, h1, h2⟩ := hm
  have hcut := rre_cut (w := k) (m := m) (M := fun i => rv (M i)) h (by omega) h1 h2 fun i hi y => by
   show rv (M i) y = tr k (rv (exI k M i)) y
   by_cases hy : y < k
   ·rw [tr_lt hy, exI_lt (hl i hi) hy]
   ·rw [tr_ge (by omega)]
    unfold rv
    rw [List.getD_eq_getElem?_getD, List.getElem?_eq_none (by rw [hl i hi]; omega)]; rfl
  have hub2 : UB (Rs k fun i => fun y => if y = i then (1 : Rat) else 0) k (fun i => fun y => if y = i then (1 : Rat) else 0) (fun i => i) := UB.of_rows (fun i hi => if_pos rfl) (fun i hi l hl' hne => if_neg hne)
  have := hcut.ub.card hub2 (SpE.of (fun i hi => (sp_sum (rv (M i)) k (Nat.le_refl _)).cast fun y => by
   by_cases hy : y < k
   ·rw [sumN_one k hy fun l hl' hne => by rw [if_neg (Ne.symm hne), Rat.mul_zero], if_pos rfl, Rat.mul_one]
   ·rw [qas k (g := fun _ => 0) fun l hl' => by rw [if_neg (by omega), Rat.mul_zero], sumN_zero]
    unfold rv
    rw [List.getD_eq_getElem?_getD, List.getElem?_eq_none (by rw [hl i hi]; omega)]; rfl) fun i hi => hall _ fun y hy => if_neg (by omega))
  omega
theorem dtn_unit {n : Nat} (hn : n <= 4) {M B : Nat -> RV} (h : ∀ i, i < n -> ∀ y, y < n -> (sumN n fun l => M i l * B l y) = if y = i then 1 else 0) : dtn n M ≠ 0 := by
 have e := dtn_mul hn (T := M) (M := B) (P := fun i y => sumN n fun l => M i l * B l y) fun i hi y => rfl
 have e1 : dtn n (fun i y => sumN n fun l => M i l * B l y) = 1 := by
  rw [dtn_tri hn fun i hi y hy => by rw [h i hi y (by omega), if_neg (by omega)]]
  have : ∀ j, j <= n -> dgp (fun i y => sumN n fun l => M i l * B l y) j = 1 := fun j => by
   induction j with
   | zero => intro _; rfl
   | succ j ih =>
    intro hj
    rw [dgp, ih (by omega), h j (by omega) j (by omega), if_pos rfl, Rat.mul_one]
  exact this n (Nat.le_refl _)
 intro h0
 rw [e1, h0, Rat.zero_mul] at e
 exact absurd e (by decide)
end Go.Abs
end
section
namespace Go.Proofs.YtjfmkcmepdedaaaGreat
open Go Go.Abs Go.Abs.M Go.Proofs
theorem minv1_call (X Y : Abs.Rows) (n : Nat) (N0 : Int) (hN : N0 = n) (hX : X.length = n + n) (hw : (X.all fun r => r.length == 4) = true) (hY : Y = X.drop n) :
  ACall Tryz.prog 62 [.val (tl X), .ref [.v (.int .i64 N0)]] ⟨[.val (tl Y)], [none, some (.var [.t (.v (.int .i64 N0))])]⟩ := by
 refine callZ ccOk mixed [.val] Tryz.func62 rfl rfl (by kernel_rfl) fun zA zB zC zD zE zF zG zH zI zJ zK zL zM zN zO zP zQ zR zT zU zV zX zY zZ zb zc zd ze zg zh zi zj zk zl zm zn zo zq zr zs zt zu zx zy zz zmget zmset zW zth A L F hS hF => ?_
 have e1 : zg N0 (zZ (zj X)) (zj X) = true := by rw [hS.cut, hS.ofN, hS.len, hX]; exact decide_eq_true ⟨by omega, by omega, by omega⟩
 have e2 : zx 4 X = true := by rw [hS.wide]; exact hw
 have e3 : zr X (zX N0) (ze (zZ (zj X)) N0) = Y := by rw [hS.part, hS.nat, hS.dif, hS.ofN, hS.len, hX, hN, hY, Int.toNat_natCast, Int.toNat_natCast, List.take_of_length_le (by simp; omega)]
 cbv
 refine nd e1 (nd e2 ?_)
 rw [e3]
 exact hF _ (ResLe.refl _)
def mvh (n i : Nat) (X : Nat -> Abs.Rows) : Option Blk := some (.var ((List.range n).map fun q => .t (if q < i then .lst false (X q) else .lst true [])))
def mvSt (n i : Nat) (N0 : Int) (R : Abs.Rows) (X : Nat -> Abs.Rows) (I : Int) : St := mkSt 26 [.junk, .c (.clo 62 [(0, 0, 0)]), .junk, .junk, .junk, .c (.sl 1 0 n false), .junk, .junk, .junk, .junk, .junk, .c (.t (.lst false R)), vi .i64 n, vi .i64 I] [some (.var [.t (.v (.int .i64 N0))]), mvh n i X]
theorem mvapp (n : Nat) (hn : n <= 4) (M : Nat -> List Rat) (N0 : Int) (hN0 : N0 = n) (hl : ∀ i, i < n -> (M i).length = n + n) {X : Nat -> Abs.Rows} (hX : ∀ i, X i = ur ((M i).drop n)) :
  HCall Tryz.prog 55 ⟨[.c (.t (.lst false (mr n M))), .c (.clo 62 [(0, 0, 0)])], [some (.var [.t (.v (.int .i64 N0))])]⟩ ⟨[.c (.sl 1 0 n false)], [some (.var [.t (.v (.int .i64 N0))]), mvh n n X]⟩ := by
 have c : ∀ i, i < n -> ∃ row, (mr n M)[i]? = some [.lst false row] /\ ACall Tryz.prog 62 [.val (tl row), .ref [.v (.int .i64 N0)]] ⟨[.val (tl (X i))], [none, some (.var [.t (.v (.int .i64 N0))])]⟩ := fun i hi => ⟨_, mr_get hi, minv1_call _ _ n N0 hN0 (by rw [qap, hl i hi]) (by
  refine List.all_eq_true.2 fun r hr => ?_
  obtain ⟨c, _, rfl⟩ := List.mem_map.1 hr
  rfl) (by rw [hX i]; simp [ur, qrows, List.map_drop])⟩
 clear hX hl hN0
 have lR := mr_len n M
 generalize mr n M = R at *
 have L4 : LN n := trivial
 obtain ⟨N, hN⟩ : ∃ N, N = n := ⟨_, rfl⟩
 rw [<- hN] at c
 obtain rfl | rfl | rfl | rfl | rfl : n = 0 ∨ n = 1 ∨ n = 2 ∨ n = 3 ∨ n = 4 := by omega
 all_goals
  refine hcallZ ccOk mixed Tryz.func55 rfl rfl (by kernel_rfl) rfl (by simp) fun zA zB zC zD zE zF zG zH zI zJ zK zL zM zN zO zP zQ zR zT zU zV zX zY zZ zb zc zd ze zg zh zi zj zk zl zm zn zo zq zr zs zt zu zx zy zz zmget zmset zW zth A L G hS hG => ?_
  have hv : L4.v = N := hN.symm
  have hN2 : zZ (zj R) = (L4.v : Int) := by rw [hS.ofN, hS.len, lR]; rfl
  have kk : zX (L4.v : Int) = L4.v := by rw [hS.nat]; rfl
  have km : zi (Int.ofNat L4.v) (Int.ofNat L4.v) 24 = true := by rw [hS.mkok]; exact decide_eq_true (by unfold capBytes; simp [LN.v])
  cbv
  rw [hN2]
  refine nd km ?_
  rw [kk]
  refine loopZR ccOk mixed hS (fun (m : Nat) s' => ∃ (i : Nat) (I : Int), I = i /\ m + i = N /\ s' = mvSt L4.v i N0 R X I) (n := N) (s0 := mvSt L4.v 0 N0 R X 0) (qav ?_ ?_) rfl (by simp [mvSt, mkSt]) ?_ ?_
  ·simp [leT, mvSt, mkSt, vi, vb, LN.v]
  ·simp [leH, mvSt, mkSt, mvh, LN.v, List.range, List.range.loop, List.replicate]
  ·exact ⟨0, 0, rfl, by omega, rfl⟩
  ·rintro m s1 ⟨i, I, hI, hm, hs1⟩
   by_cases hi : i < N
   ·have l1 : zO I (L4.v : Int) = true := by rw [hS.lt]; exact decide_eq_true (by omega)
    obtain ⟨row, ri, ci⟩ := c i hi
    have t : zk R i = some [.lst false row] := by rw [hS.nth]; exact ri
    have j : zX (Int.ofNat i) = i := by rw [hS.nat]; rfl
    have n0 : zP 0 (Int.ofNat i) = true := by rw [hS.le]; exact decide_eq_true (Int.natCast_nonneg i)
    obtain ⟨I', hI', i1⟩ : ∃ I' : Int, I' = ((i + 1 : Nat) : Int) /\ zA .i64 (zB I 1) = I' := ⟨I + 1, by omega, by rw [hS.add, hS.wrap, wrap_i64 (by omega) (by omega)]⟩
    have i2 : zA .i64 (zB (Int.ofNat i) 1) = I' := by rw [<- i1, hI]; rfl
    have hnx : ∃ (i3 : Nat) (I3 : Int), I3 = i3 /\ (m - 1) + i3 = N /\ mvSt L4.v (i + 1) N0 R X I' = mvSt L4.v i3 N0 R X I3 := ⟨i + 1, I', hI', by omega, rfl⟩
    have hmm : m - 1 < m := by omega
    clear c ri i1 hI'
    obtain rfl | rfl | rfl | rfl : i = 0 ∨ i = 1 ∨ i = 2 ∨ i = 3 := by omega
    all_goals first | (exfalso; omega) | skip
    all_goals
     subst hI
     subst hs1
     cbv
     refine bT l1 ?_
     rw [show zX _ = _ from j, t]
     cbv
     refine nd (n0) ?_
     refine ⟨_, hS.call (ci), ?_⟩
     cbv
     refine againR [] (s' := mvSt L4.v (_ + 1) N0 R X I') (k := m - 1) ?_ ?_ ?_ ?_ rfl (by simp [mvSt, mkSt]) hmm hnx
     ·rw [i2]; simp [leTR, mvSt, mkSt, vi, AV.ren, AV.noTup, Cell.ren, renF, LN.v]
     ·simp [leHR, mvSt, mkSt, mvh, Abs.look, renF, Blk.ren, Cell.ren, LN.v, List.range, List.range.loop]
     ·simp [liveR, mvSt, mkSt, renF, mvh, LN.v, List.range, List.range.loop]
     ·simp
   ·have l1 : zO I (L4.v : Int) = false := by rw [hS.lt]; exact decide_eq_false (by omega)
    obtain rfl : i = N := by omega
    clear c
    subst hN
    subst hI
    subst hs1
    cbv
    refine bF l1 ?_
    refine endR hG [] ?_ ?_ ?_ ?_
    ·simp [leTR, AV.ren, AV.noTup, Cell.ren, renF]
    ·simp [leHR, Abs.look, renF, Blk.ren, Cell.ren, mvh, List.range, List.range.loop]
    ·simp [liveR, renF, mvh, List.range, List.range.loop]
    ·simp
theorem ur_cat (P Q : List Rat) : ur (P ++ Q) = ur P ++ ur Q := by simp [ur, qrows]
theorem uniL_qs {n i B : Nat} (hB : 1 <= B) : ∀ q ∈ uniL n i, Qs q B := fun q hq => by
 rcases List.mem_or_eq_of_mem_set hq with h | h
 ·rw [(List.mem_replicate.1 h).2]; exact Qs.zero hB
 ·rw [h]; exact Qs.whole (n := 1) (by decide) hB
def liSt (n i v : Nat) (MR : Abs.Rows) (E : Nat -> Abs.Rows) (I : Int) : St := mkSt 59 [.junk, .junk, .junk, .junk, .c (.ptr 1 0 0), .c (.sl 2 0 n false), .junk, .junk, .junk, .junk, .junk, .junk, .junk, .junk, .junk, .junk, .junk, .junk, .c (.t (.lst false MR)), vi .i64 n, vi .i64 I] (none :: some (.var [.t (.v (.int .i64 n))]) :: mqh n i 3 v E)
theorem minv_call (n : Nat) (hn : n <= 4) (M : Nat -> List Rat) (B : Nat) (hl : ∀ i, i < n -> (M i).length = n) (hB : 1 <= B) (hB2 : B <= 400000) (hq : ∀ i, i < n -> ∀ q ∈ M i, Qs q B)
    {R : Nat -> List Rat} {p : Nat -> Nat} (hk : (rdIt n (exI n M) (n + n)).k = n) (hR : R = (rdIt n (exI n M) (n + n)).R) (hp : p = (rdIt n (exI n M) (n + n)).p)
    {T : TV} {ec : Int} (hT : (n ≠ 0 /\ p (n - 1) ≠ n - 1 /\ T = .c (.lst true []) /\ ec = 110) ∨ ((n ≠ 0 -> p (n - 1) = n - 1) /\ T = tl (mr n fun i => (R i).drop n) /\ ec = 0)) :
    ACall Tryz.prog 16 [.val (tl (mr n M))] ⟨[.val T, .val (ti .i64 ec)], [none]⟩ := by
  have csq := msquare_call n M hl (by omega)
  have cz := mzeros_call n (by omega)
  have cone := pwhole_row 1 (by omega) (by omega)
  have h11 : ((1 : Int) : Rat) = 1 := rfl
  obtain ⟨o1, o2, o3, o4, hone, _⟩ := qrow ((1 : Int) : Rat)
  obtain ⟨z1, z2, z3, z4, hzero, _⟩ := qrow (0 : Rat)
  rw [hone] at cone
  rw [h11] at hone
  have hlx : ∀ i, i < n -> (exI n M i).length = n + n := fun i hi => exI_len (hl i hi)
  have hqx : ∀ i, i < n -> ∀ q ∈ exI n M i, Qs q B := fun i hi q h => by
    rcases List.mem_append.1 h with h | h
    · exact hq i hi q h
    · exact uniL_qs hB q h
  obtain ⟨E, hE⟩ : ∃ E : Nat -> Abs.Rows, ∀ i, E i = ur (exI n M i) := ⟨fun i => ur (exI n M i), fun _ => rfl⟩
  have cr := mred_own n hn (exI n M) (n + n) (n + n - 1) B (fun h => by omega) (fun h => by omega) (by omega) hlx hB hB2 hqx (E := E) fun i _ => hE i
  have ok := rdIt_ok hlx (n + n)
  rw [<- hp] at cr
  rw [hk, <- hR] at cr ok
  obtain ⟨X, hX⟩ : ∃ X : Nat -> Abs.Rows, ∀ i, X i = ur ((R i).drop n) := ⟨fun i => ur ((R i).drop n), fun _ => rfl⟩
  have cv := mvapp n hn R (n : Int) rfl ok.len hX
  have hTr : mr n (fun i => (R i).drop n) = (List.range n).map fun i => [Tree.lst false (X i)] := by simp only [hX]; rfl
  rw [hTr] at hT
  obtain ⟨MR, hMR⟩ : ∃ R, R = mr n M := ⟨_, rfl⟩
  obtain ⟨RR, hRR⟩ : ∃ X, X = mr n R := ⟨_, rfl⟩
  obtain ⟨PV, hPV⟩ : ∃ X, X = W .i64 (pl p n) := ⟨_, rfl⟩
  obtain ⟨cp, hcp⟩ : ∃ X, X = decide (n = 0) := ⟨_, rfl⟩
  obtain ⟨Z, hZ⟩ : ∃ Z, Z = ur (List.replicate n 0) := ⟨_, rfl⟩
  rw [<- hMR] at csq ⊢
  rw [<- hZ] at cz
  rw [<- hRR, <- hPV, <- hcp] at cr
  rw [<- hRR] at cv
  have lM : MR.length = n := by rw [hMR, mr_len]
  have lZ : Z.length = n := by rw [hZ, qap, List.length_replicate]
  have hg : ∀ i, i < n -> (pl p n).getD i 0 = (p i : Int) := fun i hik => by
    rw [List.getD_eq_getElem?_getD]; simp [pl, List.getElem?_map, List.getElem?_range hik]
  have c : ∀ i, i < n -> ∃ (row U : Abs.Rows) (s t : Bool) (r p : Abs.Rows), MR[i]? = some [.lst false row] /\ ACall Tryz.prog 56 [.val (tl row)] ⟨[.own 4 row], [none]⟩ /\ row.length = n /\ U.length = n /\ Z[i]? = some [.v (.bool s), .lst false r, .v (.bool t), .lst false p] /\ Z.set i [.v (.bool o1), .lst false o3, .v (.bool o2), .lst false o4] = U /\ row ++ U = E i /\ (U.all fun r => r.length == 4) = true := fun i hi => by
    refine ⟨ur (M i), ur (uniL n i), z1, z2, z3, z4, by rw [hMR]; exact mr_get hi, mclone_call (M i) (by rw [hl i hi]; omega), by rw [qap, hl i hi], by rw [qap]; simp [uniL], ?_, ?_, by rw [hE, exI, ur_cat], ?_⟩
    · rw [hZ, <- hzero]; exact ur_get (by rw [List.getElem?_replicate, if_pos hi])
    · rw [hZ, <- hone, ur_set]; rfl
    · refine List.all_eq_true.2 fun r hr => ?_
      obtain ⟨c, _, rfl⟩ := List.mem_map.1 hr
      rfl
  obtain ⟨v, hv⟩ : ∃ v, v = n + n := ⟨_, rfl⟩
  rw [<- hv] at cr
  clear hE hlx hqx hq hl ok hMR hRR hZ hk hR hp hX hTr
  have L4 : LN n := trivial
  obtain ⟨N, hN⟩ : ∃ N, N = n := ⟨_, rfl⟩
  obtain rfl | rfl | rfl | rfl | rfl : n = 0 ∨ n = 1 ∨ n = 2 ∨ n = 3 ∨ n = 4 := by omega
  all_goals
    refine callZX ccOk mixed [.val, .val] Tryz.func16 rfl rfl (by kernel_rfl) fun zA zB zC zD zE zF zG zH zI zJ zK zL zM zN zO zP zQ zR zT zU zV zX zY zZ zb zc zd ze zg zh zi zj zk zl zm zn zo zq zr zs zt zu zx zy zz zmget zmset zW zth A L F hS hF => ?_
    obtain rfl : zZ = fun a : Nat => (a : Int) := by funext a; exact hS.ofN a
    obtain ⟨za, rfl⟩ := hS.addL
    obtain ⟨zw, rfl⟩ := hS.wrapL
    have kk : ∀ a : Nat, zX (Int.ofNat a) = a := fun a => by rw [hS.nat]; rfl
    have km : zi (Int.ofNat L4.v) (Int.ofNat L4.v) 24 = true := by rw [hS.mkok]; exact decide_eq_true (by unfold capBytes; simp [LN.v])
    have e1 : zj MR = L4.v := by rw [hS.len, lM]; rfl
    have y0 : zQ true = false := by rw [hS.not]; rfl
    have s1 : ∀ a : Nat, zC (Int.ofNat (a + 1)) 1 = Int.ofNat a := fun a => by rw [hS.sub]; show ((a + 1 : Nat) : Int) - 1 = (a : Int); omega
    cbv
    refine ⟨_, hS.hcall csq, ?_⟩
    cbv
    refine bF y0 ?_
    rw [e1]
    refine nd km ?_
    rw [kk]
    refine loopZR ccOk mixed hS (fun (m : Nat) s' => ∃ (i : Nat) (I : Int), I = i /\ m + i = L4.v /\ s' = liSt L4.v i v MR E I) (n := L4.v) (s0 := liSt L4.v 0 v MR E 0) (qav ?_ ?_) rfl (by simp [liSt, mkSt, mqh, LN.v]) ?_ ?_
    · simp [leT, liSt, mkSt, vi, vb, LN.v]
    · simp [leH, liSt, mkSt, mqh, LN.v, List.range, List.range.loop, List.replicate]
    · exact ⟨0, 0, rfl, by omega, rfl⟩
    · rintro m sx ⟨i, I, hI, hm, hs1⟩
      have hI : I = (i : Int) := hI
      have Li : LN i := trivial
      by_cases hin : i = L4.v
      · have l1 : zO (Int.ofNat L4.v) (Int.ofNat L4.v) = false := by rw [hS.lt]; exact decide_eq_false (by omega)
        have hpn : ∀ i, i < L4.v -> zm .i64 PV i = true /\ zn PV i = (p i : Int) := fun i hi => ⟨by rw [hS.isI, hPV, qau, pl_len]; exact decide_eq_true hi, by rw [hS.getI, hPV, qan, hg i hi]⟩
        subst hin
        clear c hm Li hg hPV
        subst hI
        subst hs1
        cbv
        refine bF l1 ?_
        refine ⟨_, hS.hcall cr, ?_⟩
        cbv
        have g0 : L4.v = 0 -> zO 0 (Int.ofNat L4.v) = false := fun h => by rw [hS.lt, h]; rfl
        have g1 : L4.v ≠ 0 -> zO 0 (Int.ofNat L4.v) = true := fun h => by rw [hS.lt]; exact decide_eq_true (show (0 : Int) < (L4.v : Int) by omega)
        have n1 : ∀ a : Nat, zP 0 (Int.ofNat a) = true := fun a => by rw [hS.le]; exact decide_eq_true (Int.natCast_nonneg a)
        have q1 : ∀ i, i + 1 = L4.v -> zm .i64 PV i = true := fun i h => (hpn i (by omega)).1
        have q2 : ∀ i, i + 1 = L4.v -> zN (zn PV i) (Int.ofNat i) = !decide (p (L4.v - 1) = L4.v - 1) := fun i h => by
          rw [(hpn i (by omega)).2, hS.ne, show L4.v - 1 = i by omega]
          by_cases e : p i = i
          · rw [decide_eq_true e]; exact decide_eq_false fun h => h (by rw [e]; rfl)
          · rw [decide_eq_false e]; exact decide_eq_true fun h => e (by have h : (p i : Int) = (i : Int) := h; omega)
        have s2 : wrapL zw .i64 (zC (Int.ofNat L4.v) 1) = Int.ofNat (L4.v - 1) ∨ L4.v = 0 := by
          by_cases h : L4.v = 0
          · exact .inr h
          · refine .inl ?_
            obtain ⟨a, ha⟩ : ∃ a, L4.v = a + 1 := ⟨L4.v - 1, by omega⟩
            rw [hS.wrap, hS.sub, ha]
            show IntKind.i64.wrap (((a + 1 : Nat) : Int) - 1) = ((a + 1 - 1 : Nat) : Int)
            have : a + 1 <= 4 := by rw [<- ha]; simp [LN.v]
            rw [wrap_i64 (by omega) (by omega)]; omega
        simp only [LN.v] at s2
        rcases hT with ⟨h0, h1, rfl, rfl⟩ | ⟨h1, rfl, rfl⟩
        · first
          | exact absurd rfl h0
          | (refine bT (g1 h0) ?_
             obtain s2 | s2 := s2
             · cbv at s2
               rw [s2, kk]
               refine nd (n1 _) (nd (q1 _ (by rfl)) (bT ((q2 _ (by rfl)).trans (by rw [decide_eq_false (show ¬p (L4.v - 1) = L4.v - 1 from h1)]; rfl)) ?_))
               exact hF _ (ResLe.refl _)
             · cases s2)
        · first
          | (refine bF (g0 rfl) ?_
             refine ⟨_, hS.hcall cv, ?_⟩
             cbv
             exact hF _ (ResLe.refl _))
          | (refine bT (g1 (by simp [LN.v])) ?_
             obtain s2 | s2 := s2
             · cbv at s2
               rw [s2, kk]
               refine nd (n1 _) (nd (q1 _ (by rfl)) (bF ((q2 _ (by rfl)).trans (by rw [decide_eq_true (show p (L4.v - 1) = L4.v - 1 from h1 (by simp [LN.v]))]; rfl)) ?_))
               refine ⟨_, hS.hcall cv, ?_⟩
               cbv
               exact hF _ (ResLe.refl _)
             · cases s2)
      · have hi : i < L4.v := by omega
        have l1 : zO (Int.ofNat i) (L4.v : Int) = true := by rw [hS.lt]; exact decide_eq_true (show (i : Int) < _ by omega)
        obtain ⟨row, U, s, t, r, p, c1, c2, c3, cU, c4, c5, c6, c7⟩ := c i hi
        have j1 : zX (Int.ofNat i) = i := kk i
        have j2 : zk MR i = some [.lst false row] := by rw [hS.nth]; exact c1
        have j3 : zk Z i = some [.v (.bool s), .lst false r, .v (.bool t), .lst false p] := by rw [hS.nth]; exact c4
        have n0 : zP 0 (Int.ofNat i) = true := by rw [hS.le]; exact decide_eq_true (Int.natCast_nonneg i)
        have b1 : zY (Int.ofNat i) L4.v = true := by rw [hS.inb]; exact decide_eq_true ⟨Int.natCast_nonneg i, show (i : Int) < _ by omega⟩
        have b2 : zb 0 (Int.ofNat i) = i := by rw [hS.idx]; simp
        have e5 : zj Z = L4.v := by rw [hS.len, lZ]; rfl
        have u4 : zl Z i [.v (.bool o1), .lst false o3, .v (.bool o2), .lst false o4] = U := by rw [hS.setr]; exact c5
        have w0 : zr U 0 L4.v = U := by rw [hS.part, List.drop_zero, List.take_of_length_le (by rw [cU]; exact Nat.le_refl _)]
        have w1 : zq 0 L4.v U = true := by rw [hS.fit]; exact decide_eq_true (by rw [cU]; exact Nat.le_refl _)
        have w2 : zc (zj U) 0 = false := by rw [hS.neq, hS.len, cU]; exact decide_eq_false (by show L4.v ≠ 0; omega)
        have w2' : zQ (zc (zj U) 0) = true := by rw [w2, hS.not]; rfl
        have w3 : zx 4 U = true := by rw [hS.wide]; exact c7
        have w4 : zh (zj row) (zj U) 64 = true := by rw [hS.room, hS.len, hS.len, c3, cU]; exact decide_eq_true (by unfold capBytes; omega)
        have w5 : zc (zd 0 (zj row)) (zj row) = true := by rw [hS.nadd, hS.neq, Nat.zero_add]; exact decide_eq_true rfl
        have w6 : zd (zj row) (zj U) = v := by rw [hS.nadd, hS.len, hS.len, c3, cU, hv]
        have w7 : zs row 0 U = E i := by rw [hS.ext]; exact c6
        have hnx : ∃ (i3 : Nat) (I3 : Int), I3 = i3 /\ (m - 1) + i3 = L4.v /\ liSt L4.v (i + 1) v MR E (Int.ofNat (i + 1)) = liSt L4.v i3 v MR E I3 := ⟨i + 1, Int.ofNat (i + 1), rfl, by omega, rfl⟩
        have hmm : m - 1 < m := by omega
        have hiN : i < N := by rw [hN]; exact hi
        simp only [LN.v] at w0
        clear c c1 c3 c4 c5 c6 c7 hT cr cv hi hg
        subst hI
        obtain rfl | rfl | rfl | rfl : i = 0 ∨ i = 1 ∨ i = 2 ∨ i = 3 := by omega
        all_goals first | (exfalso; omega) | skip
        all_goals
          subst hs1
          cbv
          refine bT l1 ?_
          rw [show zX _ = _ from j1, j2]
          cbv
          refine nd (n0) ?_
          refine ⟨_, hS.call (cz), ?_⟩
          cbv
          refine ⟨_, hS.call (cone), ?_⟩
          cbv
          rw [e5]
          refine nd b1 ?_
          rw [b2, j3]
          cbv
          rw [u4]
          refine ⟨_, hS.call (c2), ?_⟩
          cbv
          rw [w0]
          refine bF w2 (nd w1 (nd w2' (nd w3 (nd w4 (nd w5 ?_)))))
          rw [w6, w7]
          refine againR [(Li.v + 3, Li.v + 9)] (s' := liSt L4.v (Li.v + 1) v MR E (Int.ofNat (Li.v + 1))) (k := m - 1) ?_ ?_ ?_ ?_ rfl (by simp [liSt, mkSt, mqh, LN.v]) hmm hnx
          · simp [leTR, liSt, mkSt, vi, AV.ren, AV.noTup, Cell.ren, renF, LN.v]
          · simp [leHR, liSt, mkSt, mqh, Abs.look, renF, Blk.ren, Cell.ren, LN.v, List.range, List.range.loop]
          · simp [liveR, liSt, mkSt, mqh, renF, LN.v, List.range, List.range.loop]
          · simp [LN.v]
open Go Go.Abs Go.Abs.M Go.Proofs
def rzSt (N : Int) (i : Nat) (r : Abs.Rows) (I : Int) : St := mkSt 16 [vi .i64 N, .junk, .junk, .c (.sl 1 0 i false), vi .i64 I] [none, some (.rows 4 r true false)]
theorem rzeros_call (n : Nat) (hn : n <= 1000) : ACall Tryz.prog 69 [.val (ti .i64 (n : Int))] ⟨[.own 4 (ur (List.replicate n 0))], [none]⟩ := by
 obtain ⟨N, hN⟩ : ∃ N : Int, N = n := ⟨_, rfl⟩
 obtain ⟨T, hT⟩ : ∃ T, T = ur (List.replicate n 0) := ⟨_, rfl⟩
 rw [<- hN, <- hT]
 have cw := rqwhole_row 0 (by omega) (by omega)
 rw [show ((0 : Int) : Rat) = 0 from rfl] at cw
 obtain ⟨s3, t3, r3, p3, hrow3, _⟩ := qrow 0
 rw [hrow3] at cw
 obtain ⟨row, hrw⟩ : ∃ row, row = [Tree.v (.bool s3), .lst false r3, .v (.bool t3), .lst false p3] := ⟨_, rfl⟩
 have hr4 : row.length = 4 := by rw [hrw]; rfl
 have hstep : ∀ i, ur (List.replicate i 0) ++ [row] = ur (List.replicate (i + 1) 0) := fun i => by rw [List.replicate_succ', ur_app, hrow3, hrw]
 refine callZ ccOk mixed [.own 4] Tryz.func69 rfl rfl (by kernel_rfl) fun zA zB zC zD zE zF zG zH zI zJ zK zL zM zN zO zP zQ zR zT zU zV zX zY zZ zb zc zd ze zg zh zi zj zk zl zm zn zo zq zr zs zt zu zx zy zz zmget zmset zW zth A L F hS hF => ?_
 have u0 : zr [row] 0 1 = [row] := by rw [hS.part]; rfl
 have u1 : zq 0 1 [row] = true := by rw [hS.fit]; rfl
 have u2 : zQ (zc (zj [row]) 0) = true := by rw [hS.len, hS.neq, hS.not]; rfl
 have u3 : zx 4 [row] = true := by rw [hS.wide]; simp [hr4]
 cbv
 have hN : N = (n : Int) := hN
 refine loopZR ccOk mixed hS (fun (m : Nat) s' => ∃ (i : Nat) (I : Int) (r : Abs.Rows), I = i /\ m + i = n /\ r = ur (List.replicate i 0) /\ s' = rzSt N i r I) (n := n) (s0 := rzSt N 0 [] 0) (qav ?_ ?_) rfl (Nat.succ_le_succ (Nat.zero_le _)) ?_ ?_
 ·simp [leT, rzSt, mkSt, vi, vb]
 ·simp [leH, rzSt, mkSt]
 ·exact ⟨0, 0, [], rfl, by omega, rfl, rfl⟩
 ·rintro m s1 ⟨i, I, r, hI, hm, hr, hs1⟩
  have hI : I = (i : Int) := hI
  have hrl : r.length = i := by rw [hr, qap, List.length_replicate]
  by_cases hi : i < n
  ·have l1 : zO I N = true := by rw [hS.lt]; exact decide_eq_true (by omega)
   have u4 : zh i (zj [row]) 64 = true := by rw [hS.len, hS.room]; exact decide_eq_true (by unfold capBytes; simp only [List.length_cons, List.length_nil]; omega)
   have u5 : zc (zd 0 i) (zj r) = true := by rw [hS.nadd, hS.neq, hS.len, hrl, Nat.zero_add]; exact decide_eq_true rfl
   have u6 : zd i (zj [row]) = i + 1 := by rw [hS.len, hS.nadd]; rfl
   obtain ⟨r2, hr2⟩ : ∃ r2, r2 = ur (List.replicate (i + 1) 0) := ⟨_, rfl⟩
   have u7 : zs r 0 [row] = r2 := by rw [hS.ext, List.drop_zero, hr, hstep, hr2]
   obtain ⟨I', hI', i1⟩ : ∃ I' : Int, I' = ((i + 1 : Nat) : Int) /\ zA .i64 (zB I 1) = I' := ⟨I + 1, by omega, by rw [hS.add, hS.wrap, wrap_i64 (by omega) (by omega)]⟩
   have hmm : m - 1 < m := by omega
   have hnx : ∃ (i2 : Nat) (I2 : Int) (r' : Abs.Rows), I2 = i2 /\ (m - 1) + i2 = n /\ r' = ur (List.replicate i2 0) /\ rzSt N (i + 1) r2 I' = rzSt N i2 r' I2 := ⟨i + 1, I', r2, hI', by omega, hr2, rfl⟩
   clear hr hr2 hstep
   subst hs1
   cbv
   refine bT (l1) ?_
   refine ⟨_, hS.call (cw), ?_⟩
   cbv
   rw [<- hrw, u0]
   refine nd (u1) ?_
   refine nd (u2) ?_
   refine nd (u3) ?_
   refine nd (u4) ?_
   refine nd (u5) ?_
   refine againR [(1, 5)] (s' := rzSt N (i + 1) r2 I') (k := m - 1) ?_ ?_ ?_ ?_ rfl (Nat.succ_le_succ (Nat.zero_le _)) hmm hnx
   ·simp [leTR, rzSt, mkSt, vi, AV.ren, AV.noTup, Cell.ren, renF, i1, u6]
   ·simp [leHR, rzSt, mkSt, Abs.look, renF, Blk.ren, u7, Cell.ren]
   ·simp [liveR, rzSt, mkSt, renF]
   ·simp
  ·have l1 : zO I N = false := by rw [hS.lt]; exact decide_eq_false (by omega)
   have hrT : r = T := by rw [hr, hT, show i = n by omega]
   have e1 : zc i (zj r) = true := by rw [hS.neq, hS.len, hrl]; exact decide_eq_true rfl
   subst hrT
   clear hstep
   subst hs1
   cbv
   refine bF l1 (nd e1 ?_)
   exact hF _ (ResLe.refl _)
open Go Go.Abs Go.Abs.M Go.Proofs
def rawE (V : List Int) (k j : Nat) : RW := ⟨(V.getD ((k + j) % V.length) 0).tmod 4, if V.getD ((k + j) % V.length) 0 < -90 then 3 else if 90 < V.getD ((k + j) % V.length) 0 then 2 else 1, 0⟩
def rawQv (V : List Int) (k j : Nat) : Rat := if V.length = 0 then 0 else (rawE V k j).q
def rawRow (V : List Int) (k n : Nat) : List Rat := (List.range n).map (rawQv V k)
theorem rawRow_len (V : List Int) (k n : Nat) : (rawRow V k n).length = n := by simp [rawRow]
theorem rawE_ok (V : List Int) (k j : Nat) : (rawE V k j).ok := by
 have h1 := Int.tmod_lt_of_pos (V.getD ((k + j) % V.length) 0) (show (0 : Int) < 4 by omega)
 have h2 : -4 < (V.getD ((k + j) % V.length) 0).tmod 4 := by
  have := Int.lt_tmod_of_pos (V.getD ((k + j) % V.length) 0) (show (0 : Int) < 4 by omega)
  omega
 refine ⟨?_, ?_, ?_, ?_, (by decide : (0 : Int) <= 0), (by decide : (0 : Int) < 256)⟩
 ·show -128 <= (V.getD ((k + j) % V.length) 0).tmod 4; omega
 ·show (V.getD ((k + j) % V.length) 0).tmod 4 < 128; omega
 ·show -128 <= (if V.getD ((k + j) % V.length) 0 < -90 then (3 : Int) else if 90 < V.getD ((k + j) % V.length) 0 then 2 else 1)
  split
  ·omega
  ·split <;> omega
 ·show (if V.getD ((k + j) % V.length) 0 < -90 then (3 : Int) else if 90 < V.getD ((k + j) % V.length) 0 then 2 else 1) < 128
  split
  ·omega
  ·split <;> omega
theorem rawRow_qs (V : List Int) (k n : Nat) : ∀ q ∈ rawRow V k n, Qs q 8 := fun q hq => by
 obtain ⟨j, _, rfl⟩ := List.mem_map.1 hq
 unfold rawQv
 split
 ·exact (Qs.whole (n := 0) (by decide) (Nat.le_refl 1)).mono (by omega)
 ·have h := rawE_ok V k j
  exact madeQ_small h.n1 h.n2 h.d1 h.d2 h.k1 h.k2
def rwSt (K N : Int) (VR X : Abs.Rows) (n : Nat) (J : Int) : St := mkSt 48 [.junk, vi .i64 K, vi .i64 N, .c (.ptr 3 0 0), .junk, .junk, .junk, .c (.sl 4 0 n false), vi .i64 J] [none, none, none, some (.var [.t (.lst false VR)]), some (.rows 4 X true false)]
theorem rrow_call (V : List Int) (hV : ∀ v ∈ V, -128 <= v /\ v < 128) (hVl : V.length < 9223372036854775808) (k n : Nat) (hk : k <= 1000) (hn : n <= 1000) :
  ACall Tryz.prog 27 [.val (.agg [.lst false (W .i8 V)]), .val (ti .i64 (k : Int)), .val (ti .i64 (n : Int))] ⟨[.own 4 (ur (rawRow V k n))], [none, none, none]⟩ := by
 have cz := rzeros_call n hn
 obtain ⟨K, hK⟩ : ∃ K : Int, K = k := ⟨_, rfl⟩
 obtain ⟨N, hN⟩ : ∃ N : Int, N = n := ⟨_, rfl⟩
 obtain ⟨VR, hVR⟩ : ∃ R, R = W .i8 V := ⟨_, rfl⟩
 obtain ⟨Z, hZ⟩ : ∃ Z, Z = ur (List.replicate n 0) := ⟨_, rfl⟩
 obtain ⟨T, hT⟩ : ∃ T, T = ur (rawRow V k n) := ⟨_, rfl⟩
 have lZ : Z.length = n := by rw [hZ, qap, List.length_replicate]
 have lT : T.length = n := by rw [hT, qap, rawRow_len]
 rw [<- hN, <- hZ] at cz
 rw [<- hK, <- hN, <- hVR, <- hT]
 obtain ⟨Xf, hXf⟩ : ∃ f : Nat -> Abs.Rows, f = fun j => T.take j ++ Z.drop j := ⟨_, rfl⟩
 have hX0 : Xf 0 = Z := by rw [hXf]; simp
 have hXn : ∀ j, n <= j -> Xf j = T := fun j hj => by rw [hXf]; simp only; rw [List.take_of_length_le (by omega), List.drop_of_length_le (by omega), List.append_nil]
 have hXl : ∀ j, (Xf j).length = n := fun j => by rw [hXf]; simp only [List.length_append, List.length_take, List.length_drop]; omega
 have hXe : V.length = 0 -> ∀ j, Xf j = T := fun h0 j => by
  have e : T = Z := by
   rw [hT, hZ]
   congr 1
   unfold rawRow rawQv
   rw [List.map_congr_left (g := fun _ => (0 : Rat)) fun j _ => if_pos h0, List.map_const', List.length_range]
  rw [hXf]
  show T.take j ++ Z.drop j = T
  rw [<- e, List.take_append_drop]
 have hXs : V.length ≠ 0 -> ∀ j, j < n -> (Xf j)[j]? = some (qc 0).row /\ (Xf j).set j (qc (rawE V k j).q).row = Xf (j + 1) := fun h0 j hj => by
  have hTj : T[j]? = some (qc (rawE V k j).q).row := by
   rw [hT]
   refine ur_get ?_
   unfold rawRow rawQv
   rw [List.getElem?_map, List.getElem?_range hj, Option.map_some, if_neg h0]
  have hZj : Z[j]? = some (qc 0).row := by rw [hZ]; exact ur_get (by rw [List.getElem?_replicate, if_pos hj])
  have hl : (T.take j).length = j := by rw [List.length_take]; omega
  have hd : Z.drop j = (qc 0).row :: Z.drop (j + 1) := by
   rw [List.drop_eq_getElem_cons (by omega)]
   rw [List.getElem?_eq_getElem (by omega)] at hZj
   rw [Option.some.inj hZj]
  rw [hXf]
  refine ⟨?_, ?_⟩
  ·show (T.take j ++ Z.drop j)[j]? = _
   rw [List.getElem?_append_right (by omega), hl, Nat.sub_self, hd]; rfl
  ·show (T.take j ++ Z.drop j).set j _ = T.take (j + 1) ++ Z.drop (j + 1)
   rw [List.set_append_right _ _ (by omega), hl, Nat.sub_self, hd, List.set_cons_zero, List.take_add_one, hTj, List.append_assoc]; rfl
 obtain ⟨s0, t0, r0, p0, hrow0, _⟩ := qrow 0
 refine callZ ccOk mixed [.own 4] Tryz.func27 rfl rfl (by kernel_rfl) fun zA zB zC zD zE zF zG zH zI zJ zK zL zM zN zO zP zQ zR zT zU zV zX zY zZ zb zc zd ze zg zh zi zj zk zl zm zn zo zq zr zs zt zu zx zy zz zmget zmset zW zth A L F hS hF => ?_
 have z1 : zj Z = n := by rw [hS.len, lZ]
 obtain ⟨LV, hLV, hLV2⟩ : ∃ L : Int, L = V.length /\ zZ (zj VR) = L := ⟨_, rfl, by rw [hS.ofN, hS.len, hVR, qak]⟩
 cbv
 refine ⟨_, hS.call (cz), ?_⟩
 cbv
 have hN : N = (n : Int) := hN
 have hK : K = (k : Int) := hK
 have hLV : LV = (V.length : Int) := hLV
 refine loopZ ccOk mixed hS (fun (m : Nat) s' => ∃ (j : Nat) (J : Int) (X : Abs.Rows), J = j /\ m + j = n /\ X = Xf j /\ s' = rwSt K N VR X n J) (n := n) (s0 := rwSt K N VR Z n 0) (qav ?_ ?_) rfl (Nat.succ_le_succ (Nat.succ_le_succ (Nat.succ_le_succ (Nat.zero_le _)))) ?_ ?_
 ·simp [leT, rwSt, mkSt, vi, vb, z1]
 ·simp [leH, rwSt, mkSt]
 ·exact ⟨0, 0, Z, rfl, by omega, hX0.symm, rfl⟩
 ·rintro m s1 ⟨j, J, X, hJ, hm, hX, hs1⟩
  have hJ : J = (j : Int) := hJ
  by_cases hgo : j < n /\ V.length ≠ 0
  ·have l1 : zO J N = true := by rw [hS.lt]; exact decide_eq_true (by omega)
   have l2 : zO 0 LV = true := by rw [hS.lt]; exact decide_eq_true (by omega)
   obtain ⟨x1, x2⟩ := hXs hgo.2 j hgo.1
   obtain ⟨X', hX'⟩ : ∃ X', X' = Xf (j + 1) := ⟨_, rfl⟩
   rw [<- hX] at x1 x2
   rw [<- hX'] at x2
   obtain ⟨v, hv⟩ : ∃ v, v = V.getD ((k + j) % V.length) 0 := ⟨_, rfl⟩
   have hidx : (k + j) % V.length < V.length := Nat.mod_lt _ (by omega)
   obtain ⟨v1, v2⟩ := hV v (by rw [hv, List.getD_eq_getElem?_getD, List.getElem?_eq_getElem hidx]; exact List.getElem_mem hidx)
   have ok := rawE_ok V k j
   have cm := rmadeQ_call (rawE V k j) ok
   obtain ⟨e, he⟩ : ∃ e, e = rawE V k j := ⟨_, rfl⟩
   rw [<- he] at cm x2
   obtain ⟨s2, t2, r2, p2, hrow2, _⟩ := qrow e.q
   rw [hrow0] at x1
   rw [hrow2] at cm x2
   obtain ⟨VM, hVM⟩ : ∃ x : Int, x = v.tmod 4 := ⟨_, rfl⟩
   obtain ⟨DM, hDM⟩ : ∃ x : Int, x = (if v < -90 then 3 else if 90 < v then 2 else 1) := ⟨_, rfl⟩
   have he2 : e.row = [.v (.int .i8 VM), .v (.int .i8 DM), .v (.int .u8 0)] := by rw [he, hVM, hDM, hv]; rfl
   rw [he2] at cm
   obtain ⟨KJ, hKJ, i2⟩ : ∃ x : Int, x = ((k + j : Nat) : Int) /\ zA .i64 (zB K J) = x := ⟨K + J, by omega, by rw [hS.add, hS.wrap, wrap_i64 (by omega) (by omega)]⟩
   obtain ⟨IX, hIX, i3⟩ : ∃ x : Int, x = (((k + j) % V.length : Nat) : Int) /\ zF KJ LV = x := ⟨_, rfl, by rw [hS.rem, hKJ, hLV]; exact (Int.ofNat_tmod (k + j) V.length).symm⟩
   obtain ⟨J', hJ', i1⟩ : ∃ J' : Int, J' = ((j + 1 : Nat) : Int) /\ zA .i64 (zB J 1) = J' := ⟨J + 1, by omega, by rw [hS.add, hS.wrap, wrap_i64 (by omega) (by omega)]⟩
   have hmm : m - 1 < m := by omega
   have hnx : ∃ (j2 : Nat) (J2 : Int) (X2 : Abs.Rows), J2 = j2 /\ (m - 1) + j2 = n /\ X2 = Xf j2 /\ rwSt K N VR X' n J' = rwSt K N VR X2 n J2 := ⟨j + 1, J', X', hJ', by omega, hX', rfl⟩
   have k1 : zX IX = (k + j) % V.length := by rw [hS.nat, hIX, Int.toNat_natCast]
   have k2 : zn VR ((k + j) % V.length) = v := by rw [hS.getI, hVR, qan, hv]
   have k3 : zF v 4 = VM := by rw [hS.rem, hVM]
   have k4 : zN LV 0 = true := by rw [hS.ne]; exact decide_eq_true (by omega)
   have k5 : zP 0 IX = true := by rw [hS.le]; exact decide_eq_true (by omega)
   have k6 : zm .i8 VR ((k + j) % V.length) = true := by rw [hS.isI, hVR, qau]; exact decide_eq_true hidx
   have g1 : zY J n = true := by rw [hS.inb]; exact decide_eq_true (by omega)
   have g2 : zb 0 J = j := by rw [hS.idx]; omega
   have g3 : zk X j = some [.v (.bool s0), .lst false r0, .v (.bool t0), .lst false p0] := by rw [hS.nth]; exact x1
   have g4 : zl X j [.v (.bool s2), .lst false r2, .v (.bool t2), .lst false p2] = X' := by rw [hS.setr]; exact x2
   by_cases h1 : 90 < v
   ·have hD : DM = 2 := by rw [hDM, if_neg (by omega), if_pos h1]
    rw [hD] at cm
    have b1 : zO 90 v = true := by rw [hS.lt]; exact decide_eq_true h1
    have b2 : zO v (-90) = false := by rw [hS.lt]; exact decide_eq_false (by omega)
    clear hXs hXe x1 x2
    subst hs1
    cbv
    rw [hLV2]
    refine bT l1 (bT l2 ?_)
    rw [i2, i3, k1, k2, k3]
    refine nd k4 (nd k5 (nd k6 (bT b1 (bF b2 ?_))))
    refine ⟨_, hS.call (cm), ?_⟩
    cbv
    refine nd (g1) ?_
    rw [g2, g3]
    cbv
    exact again (s' := rwSt K N VR X' n J') (m := m - 1) (by simp [leT, rwSt, mkSt, vi, i1]) (by simp [leH, rwSt, mkSt, g4]) rfl (Nat.succ_le_succ (Nat.succ_le_succ (Nat.succ_le_succ (Nat.zero_le _)))) hmm hnx
   ·have b1 : zO 90 v = false := by rw [hS.lt]; exact decide_eq_false h1
    by_cases h2 : v < -90
    ·have hD : DM = 3 := by rw [hDM, if_pos h2]
     rw [hD] at cm
     have b2 : zO v (-90) = true := by rw [hS.lt]; exact decide_eq_true h2
     clear hXs hXe x1 x2
     subst hs1
     cbv
     rw [hLV2]
     refine bT l1 (bT l2 ?_)
     rw [i2, i3, k1, k2, k3]
     refine nd k4 (nd k5 (nd k6 (bF b1 (bT b2 ?_))))
     refine ⟨_, hS.call (cm), ?_⟩
     cbv
     refine nd (g1) ?_
     rw [g2, g3]
     cbv
     exact again (s' := rwSt K N VR X' n J') (m := m - 1) (by simp [leT, rwSt, mkSt, vi, i1]) (by simp [leH, rwSt, mkSt, g4]) rfl (Nat.succ_le_succ (Nat.succ_le_succ (Nat.succ_le_succ (Nat.zero_le _)))) hmm hnx
    ·have hD : DM = 1 := by rw [hDM, if_neg h2, if_neg h1]
     rw [hD] at cm
     have b2 : zO v (-90) = false := by rw [hS.lt]; exact decide_eq_false h2
     clear hXs hXe x1 x2
     subst hs1
     cbv
     rw [hLV2]
     refine bT l1 (bT l2 ?_)
     rw [i2, i3, k1, k2, k3]
     refine nd k4 (nd k5 (nd k6 (bF b1 (bF b2 ?_))))
     refine ⟨_, hS.call (cm), ?_⟩
     cbv
     refine nd (g1) ?_
     rw [g2, g3]
     cbv
     exact again (s' := rwSt K N VR X' n J') (m := m - 1) (by simp [leT, rwSt, mkSt, vi, i1]) (by simp [leH, rwSt, mkSt, g4]) rfl (Nat.succ_le_succ (Nat.succ_le_succ (Nat.succ_le_succ (Nat.zero_le _)))) hmm hnx
  ·have e1 : zc n (zj X) = true := by rw [hS.neq, hS.len, hX, hXl]; exact decide_eq_true rfl
   by_cases hjn : j < n
   ·have l1 : zO J N = true := by rw [hS.lt]; exact decide_eq_true (by omega)
    have l2 : zO 0 LV = false := by rw [hS.lt]; exact decide_eq_false (by omega)
    have hXT : X = T := by rw [hX]; exact hXe (by omega) j
    subst hXT
    clear hXs hXe
    subst hs1
    cbv
    rw [hLV2]
    refine bT l1 (bF l2 (nd e1 ?_))
    exact hF _ (ResLe.refl _)
   ·have l1 : zO J N = false := by rw [hS.lt]; exact decide_eq_false (by omega)
    have hXT : X = T := by rw [hX]; exact hXn j (by omega)
    subst hXT
    clear hXs hXe
    subst hs1
    cbv
    refine bF l1 (nd e1 ?_)
    exact hF _ (ResLe.refl _)
open Go Go.Abs Go.Abs.M Go.Proofs
def rawM (V : List Int) (c : Nat) : Nat -> List Rat := fun i => rawRow V (i * c) c
def rmSt (a b : Int) (VR r : Abs.Rows) (len : Nat) (I : Int) : St := mkSt 31 [.junk, .c (.t (.v (.int .u8 a))), .c (.t (.v (.int .u8 b))), .c (.ptr 3 0 0), .junk, .junk, .junk, .c (.sl 4 0 len false), vi .i64 I] [none, none, none, some (.var [.t (.lst false VR)]), some (.rows 1 r true false)]
theorem rmadeM_call (V : List Int) (hV : ∀ v ∈ V, -128 <= v /\ v < 128) (hVl : V.length < 9223372036854775808) (a b : Nat) (ha : a < 256) (hb : b < 256) :
  ACall Tryz.prog 12 [.val (.agg [.lst false (W .i8 V)]), .val (ti .u8 (a : Int)), .val (ti .u8 (b : Int))] ⟨[.val (tl (mr (a % 5) (rawM V (b % 5))))], [none, none, none]⟩ := by
 obtain ⟨n, hn⟩ : ∃ n, n = a % 5 := ⟨_, rfl⟩
 obtain ⟨c, hc⟩ : ∃ c, c = b % 5 := ⟨_, rfl⟩
 have hn5 : n < 5 := by omega
 have hc5 : c < 5 := by omega
 obtain ⟨CI, hCI⟩ : ∃ x : Int, x = (c : Int) := ⟨_, rfl⟩
 obtain ⟨NI, hNI⟩ : ∃ x : Int, x = (n : Int) := ⟨_, rfl⟩
 have cr : ∀ i, i < n -> ∀ IC : Int, IC = ((i * c : Nat) : Int) -> ACall Tryz.prog 27 [.val (.agg [.lst false (W .i8 V)]), .val (ti .i64 IC), .val (ti .i64 CI)] ⟨[.own 4 (ur (rawRow V (i * c) c))], [none, none, none]⟩ := fun i hi IC h => by
  rw [h, hCI]
  exact rrow_call V hV hVl (i * c) c (by have := Nat.mul_le_mul (show i <= 4 by omega) (show c <= 4 by omega); omega) (by omega)
 obtain ⟨VR, hVR⟩ : ∃ R, R = W .i8 V := ⟨_, rfl⟩
 obtain ⟨T, hT⟩ : ∃ T, T = mr n (rawM V c) := ⟨_, rfl⟩
 obtain ⟨AI, hAI⟩ : ∃ A : Int, A = a := ⟨_, rfl⟩
 obtain ⟨BI, hBI⟩ : ∃ A : Int, A = b := ⟨_, rfl⟩
 rw [<- hVR] at cr
 rw [<- hn, <- hc, <- hT, <- hVR, <- hAI, <- hBI]
 refine callZ ccOk mixed [.val] Tryz.func12 rfl rfl (by kernel_rfl) fun zA zB zC zD zE zF zG zH zI zJ zK zL zM zN zO zP zQ zR zT zU zV zX zY zZ zb zc zd ze zg zh zi zj zk zl zm zn zo zq zr zs zt zu zx zy zz zmget zmset zW zth A L F hS hF => ?_
 have hAI : AI = (a : Int) := hAI
 have hBI : BI = (b : Int) := hBI
 cbv
 refine loopZR ccOk mixed hS (fun (m : Nat) s' => ∃ (i : Nat) (I : Int) (r : Abs.Rows), I = i /\ m + i = n /\ r = mr i (rawM V c) /\ s' = rmSt AI BI VR r i I) (n := n) (s0 := rmSt AI BI VR [] 0 0) (qav ?_ ?_) rfl (Nat.succ_le_succ (Nat.succ_le_succ (Nat.succ_le_succ (Nat.zero_le _)))) ?_ ?_
 ·simp [leT, rmSt, mkSt, vi, vb]
 ·simp [leH, rmSt, mkSt]
 ·exact ⟨0, 0, [], rfl, by omega, rfl, rfl⟩
 ·rintro m s1 ⟨i, I, r, hI, hm, hr, hs1⟩
  have hI : I = (i : Int) := hI
  have hrl : r.length = i := by rw [hr, mr_len]
  have hCI : CI = (c : Int) := hCI
  have hNI : NI = (n : Int) := hNI
  have w1 : zA .i64 (zF AI 5) = NI := by
   rw [hNI, hS.rem, hAI, show (5 : Int) = ((5 : Nat) : Int) from rfl, <- Int.ofNat_tmod, <- hn, hS.wrap, wrap_i64 (by omega) (by omega)]
  have w2 : zA .i64 (zF BI 5) = CI := by
   rw [hCI, hS.rem, hBI, show (5 : Int) = ((5 : Nat) : Int) from rfl, <- Int.ofNat_tmod, <- hc, hS.wrap, wrap_i64 (by omega) (by omega)]
  by_cases hi : i < n
  ·have l1 : zO I NI = true := by rw [hS.lt]; exact decide_eq_true (by omega)
   have hic := Nat.mul_le_mul (show i <= 4 by omega) (show c <= 4 by omega)
   obtain ⟨IC, hIC, w3⟩ : ∃ x : Int, x = ((i * c : Nat) : Int) /\ zA .i64 (zD I CI) = x := ⟨_, rfl, by rw [hS.mul, hI, hCI, <- Int.natCast_mul, hS.wrap, wrap_i64 (by omega) (by omega)]⟩
   have cri := cr i hi IC hIC
   obtain ⟨X, hX⟩ : ∃ X, X = ur (rawRow V (i * c) c) := ⟨_, rfl⟩
   have lX : X.length = c := by rw [hX, qap, rawRow_len]
   rw [<- hX] at cri
   obtain ⟨row, hrw⟩ : ∃ row, row = [Tree.lst false X] := ⟨_, rfl⟩
   have hr1 : row.length = 1 := by rw [hrw]; rfl
   have u0 : zr [row] 0 1 = [row] := by rw [hS.part]; rfl
   have u1 : zq 0 1 [row] = true := by rw [hS.fit]; rfl
   have u2 : zQ (zc (zj [row]) 0) = true := by rw [hS.len, hS.neq, hS.not]; rfl
   have u3 : zx 1 [row] = true := by rw [hS.wide]; simp [hr1]
   have u4 : zh i (zj [row]) 24 = true := by rw [hS.len, hS.room]; exact decide_eq_true (by unfold capBytes; simp only [List.length_cons, List.length_nil]; omega)
   have u5 : zc (zd 0 i) (zj r) = true := by rw [hS.nadd, hS.neq, hS.len, hrl, Nat.zero_add]; exact decide_eq_true rfl
   have u6 : zd i (zj [row]) = i + 1 := by rw [hS.len, hS.nadd]; rfl
   obtain ⟨r2, hr2⟩ : ∃ r2, r2 = mr (i + 1) (rawM V c) := ⟨_, rfl⟩
   have u7 : zs r 0 [row] = r2 := by rw [hS.ext, List.drop_zero, hr, hr2, mr_succ, hrw, hX]; rfl
   have f1 : zq 0 (zj X) X = true := by rw [hS.len, hS.fit]; exact decide_eq_true (by omega)
   have f2 : zr X 0 (zj X) = X := by rw [hS.len, hS.part, List.drop_zero, List.take_of_length_le (by omega)]
   obtain ⟨I', hI', i1⟩ : ∃ I' : Int, I' = ((i + 1 : Nat) : Int) /\ zA .i64 (zB I 1) = I' := ⟨I + 1, by omega, by rw [hS.add, hS.wrap, wrap_i64 (by omega) (by omega)]⟩
   have hmm : m - 1 < m := by omega
   have hnx : ∃ (i2 : Nat) (I2 : Int) (r' : Abs.Rows), I2 = i2 /\ (m - 1) + i2 = n /\ r' = mr i2 (rawM V c) /\ rmSt AI BI VR r2 (i + 1) I' = rmSt AI BI VR r' i2 I2 := ⟨i + 1, I', r2, hI', by omega, hr2, rfl⟩
   clear hr hr2 cr
   subst hs1
   cbv
   rw [w1, w2, w3]
   refine bT l1 ?_
   refine ⟨_, hS.call (cri), ?_⟩
   cbv
   refine nd (f1) ?_
   rw [f2, <- hrw, u0]
   refine nd (u1) ?_
   refine nd (u2) ?_
   refine nd (u3) ?_
   refine nd (u4) ?_
   refine nd (u5) ?_
   refine againR [(4, 8)] (s' := rmSt AI BI VR r2 (i + 1) I') (k := m - 1) ?_ ?_ ?_ ?_ rfl (Nat.succ_le_succ (Nat.succ_le_succ (Nat.succ_le_succ (Nat.zero_le _)))) hmm hnx
   ·simp [leTR, rmSt, mkSt, vi, AV.ren, AV.noTup, Cell.ren, renF, i1, u6]
   ·simp [leHR, rmSt, mkSt, Abs.look, renF, Blk.ren, u7, Cell.ren]
   ·simp [liveR, rmSt, mkSt, renF]
   ·simp
  ·have l1 : zO I NI = false := by rw [hS.lt]; exact decide_eq_false (by omega)
   have hrT : r = T := by rw [hr, hT, show i = n by omega]
   have f1 : zq 0 i r = true := by rw [hS.fit]; exact decide_eq_true (by omega)
   have f2 : zr r 0 i = r := by rw [hS.part, List.drop_zero, List.take_of_length_le (by omega)]
   subst hrT
   clear cr
   subst hs1
   cbv
   rw [w1]
   refine bF l1 (nd f1 ?_)
   rw [f2]
   exact hF _ (ResLe.refl _)
theorem rcols_call (n w : Nat) (M : Nat -> List Rat) (h : ∀ i, i < n -> (M i).length = w) (hn : n < 9223372036854775808) : ACall Tryz.prog 28 [.val (tl (mr n M))] ⟨[.val (ti .i64 ((if n = 0 then 0 else w : Nat) : Int))], [none]⟩ := by
 obtain ⟨X, hX⟩ : ∃ X, X = mr n M := ⟨_, rfl⟩
 have lX : X.length = n := by rw [hX, mr_len]
 obtain ⟨T, hT⟩ : ∃ T : Int, T = ((if n = 0 then 0 else w : Nat) : Int) := ⟨_, rfl⟩
 rw [<- hX, <- hT]
 by_cases h0 : n = 0
 ·rw [if_pos h0] at hT
  have hT : (0 : Int) = T := hT.symm
  refine callZ ccOk mixed [.val] Tryz.func28 rfl rfl (by kernel_rfl) fun zA zB zC zD zE zF zG zH zI zJ zK zL zM zN zO zP zQ zR zT zU zV zX zY zZ zb zc zd ze zg zh zi zj zk zl zm zn zo zq zr zs zt zu zx zy zz zmget zmset zW zth A L F hS hF => ?_
  have e1 : zM (zZ (zj X)) 0 = true := by rw [hS.eq, hS.ofN, hS.len, lX]; exact decide_eq_true (by omega)
  cbv
  refine bT e1 ?_
  exact fin1 hF (qa6 hT)
 ·rw [if_neg h0] at hT
  have hX0 : X[0]? = some [.lst false (ur (M 0))] := by rw [hX]; exact mr_get (by omega)
  have l0 : (ur (M 0)).length = w := by rw [qap, h 0 (by omega)]
  generalize ur (M 0) = U at *
  refine callZ ccOk mixed [.val] Tryz.func28 rfl rfl (by kernel_rfl) fun zA zB zC zD zE zF zG zH zI zJ zK zL zM zN zO zP zQ zR zT zU zV zX zY zZ zb zc zd ze zg zh zi zj zk zl zm zn zo zq zr zs zt zu zx zy zz zmget zmset zW zth A L F hS hF => ?_
  have e1 : zM (zZ (zj X)) 0 = false := by rw [hS.eq, hS.ofN, hS.len, lX]; exact decide_eq_false (by omega)
  have j1 : zX 0 = 0 := by rw [hS.nat]; rfl
  have j2 : zk X 0 = some [.lst false U] := by rw [hS.nth]; exact hX0
  have n0 : zP 0 0 = true := by rw [hS.le]; rfl
  have e2 : zZ (zj U) = T := by rw [hS.ofN, hS.len, l0, hT]
  cbv
  refine bF e1 ?_
  rw [j1, j2]
  cbv
  refine nd (n0) ?_
  exact fin1 hF (qa6 e2)
open Go Go.Abs Go.Abs.M Go.Proofs
def idL (n i : Nat) : List Rat := (List.replicate n 0).set i 1
def idSt (N : Int) (r : Abs.Rows) (len : Nat) (I : Int) : St := mkSt 23 [vi .i64 N, .junk, .junk, .c (.sl 1 0 len false), vi .i64 I] [none, some (.rows 1 r true false)]
theorem rident_call (n : Nat) (hn : n <= 1000) : ACall Tryz.prog 37 [.val (ti .i64 (n : Int))] ⟨[.val (tl (mr n (idL n)))], [none]⟩ := by
 have cz := rzeros_call n hn
 have cone := rqwhole_row 1 (by omega) (by omega)
 have h11 : ((1 : Int) : Rat) = 1 := rfl
 obtain ⟨o1, o2, o3, o4, hone, _⟩ := qrow ((1 : Int) : Rat)
 obtain ⟨z1, z2, z3, z4, hzero, _⟩ := qrow (0 : Rat)
 rw [hone] at cone
 rw [h11] at hone
 obtain ⟨N, hN⟩ : ∃ N : Int, N = n := ⟨_, rfl⟩
 obtain ⟨Z, hZ⟩ : ∃ Z, Z = ur (List.replicate n 0) := ⟨_, rfl⟩
 obtain ⟨T, hT⟩ : ∃ T, T = mr n (idL n) := ⟨_, rfl⟩
 rw [<- hN, <- hZ] at cz
 rw [<- hN, <- hT]
 have lZ : Z.length = n := by rw [hZ, qap, List.length_replicate]
 refine callZ ccOk mixed [.val] Tryz.func37 rfl rfl (by kernel_rfl) fun zA zB zC zD zE zF zG zH zI zJ zK zL zM zN zO zP zQ zR zT zU zV zX zY zZ zb zc zd ze zg zh zi zj zk zl zm zn zo zq zr zs zt zu zx zy zz zmget zmset zW zth A L F hS hF => ?_
 cbv
 have hN : N = (n : Int) := hN
 refine loopZR ccOk mixed hS (fun (m : Nat) s' => ∃ (i : Nat) (I : Int) (r : Abs.Rows), I = i /\ m + i = n /\ r = mr i (idL n) /\ s' = idSt N r i I) (n := n) (s0 := idSt N [] 0 0) (qav ?_ ?_) rfl (Nat.succ_le_succ (Nat.zero_le _)) ?_ ?_
 ·simp [leT, idSt, mkSt, vi, vb]
 ·simp [leH, idSt, mkSt]
 ·exact ⟨0, 0, [], rfl, by omega, rfl, rfl⟩
 ·rintro m s1 ⟨i, I, r, hI, hm, hr, hs1⟩
  have hI : I = (i : Int) := hI
  have hrl : r.length = i := by rw [hr, mr_len]
  by_cases hi : i < n
  ·have l1 : zO I N = true := by rw [hS.lt]; exact decide_eq_true (by omega)
   obtain ⟨U, hU⟩ : ∃ U, U = ur (idL n i) := ⟨_, rfl⟩
   have lU : U.length = n := by rw [hU, qap]; simp [idL]
   obtain ⟨row2, hrw2⟩ : ∃ row2, row2 = [Tree.lst false U] := ⟨_, rfl⟩
   have hr1 : row2.length = 1 := by rw [hrw2]; rfl
   have j3 : zk Z i = some [.v (.bool z1), .lst false z3, .v (.bool z2), .lst false z4] := by rw [hS.nth, hZ, <- hzero]; exact ur_get (by rw [List.getElem?_replicate, if_pos hi])
   have u4' : zl Z i [.v (.bool o1), .lst false o3, .v (.bool o2), .lst false o4] = U := by rw [hS.setr, hZ, <- hone, ur_set, hU]; rfl
   have b1 : zY I n = true := by rw [hS.inb]; exact decide_eq_true (by omega)
   have b2 : zb 0 I = i := by rw [hS.idx]; omega
   have e5 : zj Z = n := by rw [hS.len, lZ]
   have f1 : zq 0 n U = true := by rw [hS.fit]; exact decide_eq_true (by omega)
   have f2 : zr U 0 n = U := by rw [hS.part, List.drop_zero, List.take_of_length_le (by omega)]
   have u0 : zr [row2] 0 1 = [row2] := by rw [hS.part]; rfl
   have u1 : zq 0 1 [row2] = true := by rw [hS.fit]; rfl
   have u2 : zQ (zc (zj [row2]) 0) = true := by rw [hS.len, hS.neq, hS.not]; rfl
   have u3 : zx 1 [row2] = true := by rw [hS.wide]; simp [hr1]
   have u4 : zh i (zj [row2]) 24 = true := by rw [hS.len, hS.room]; exact decide_eq_true (by unfold capBytes; simp only [List.length_cons, List.length_nil]; omega)
   have u5 : zc (zd 0 i) (zj r) = true := by rw [hS.nadd, hS.neq, hS.len, hrl, Nat.zero_add]; exact decide_eq_true rfl
   have u6 : zd i (zj [row2]) = i + 1 := by rw [hS.len, hS.nadd]; rfl
   obtain ⟨r2, hr2⟩ : ∃ r2, r2 = mr (i + 1) (idL n) := ⟨_, rfl⟩
   have u7 : zs r 0 [row2] = r2 := by rw [hS.ext, List.drop_zero, hr, hr2, mr_succ, hrw2, hU]
   obtain ⟨I', hI', i1⟩ : ∃ I' : Int, I' = ((i + 1 : Nat) : Int) /\ zA .i64 (zB I 1) = I' := ⟨I + 1, by omega, by rw [hS.add, hS.wrap, wrap_i64 (by omega) (by omega)]⟩
   have hmm : m - 1 < m := by omega
   have hnx : ∃ (i2 : Nat) (I2 : Int) (r' : Abs.Rows), I2 = i2 /\ (m - 1) + i2 = n /\ r' = mr i2 (idL n) /\ idSt N r2 (i + 1) I' = idSt N r' i2 I2 := ⟨i + 1, I', r2, hI', by omega, hr2, rfl⟩
   clear hr hr2
   subst hs1
   cbv
   refine bT l1 ?_
   refine ⟨_, hS.call (cz), ?_⟩
   cbv
   refine ⟨_, hS.call (cone), ?_⟩
   cbv
   rw [e5]
   refine nd b1 ?_
   rw [b2, j3]
   cbv
   rw [u4']
   refine nd f1 ?_
   rw [f2, <- hrw2, u0]
   refine nd (u1) ?_
   refine nd (u2) ?_
   refine nd (u3) ?_
   refine nd (u4) ?_
   refine nd (u5) ?_
   refine againR [(1, 7)] (s' := idSt N r2 (i + 1) I') (k := m - 1) ?_ ?_ ?_ ?_ rfl (Nat.succ_le_succ (Nat.zero_le _)) hmm hnx
   ·simp [leTR, idSt, mkSt, vi, AV.ren, AV.noTup, Cell.ren, renF, i1, u6]
   ·simp [leHR, idSt, mkSt, Abs.look, renF, Blk.ren, u7, Cell.ren]
   ·simp [liveR, idSt, mkSt, renF]
   ·simp
  ·have l1 : zO I N = false := by rw [hS.lt]; exact decide_eq_false (by omega)
   have hrT : r = T := by rw [hr, hT, show i = n by omega]
   have f1 : zq 0 i r = true := by rw [hS.fit]; exact decide_eq_true (by omega)
   have f2 : zr r 0 i = r := by rw [hS.part, List.drop_zero, List.take_of_length_le (by omega)]
   subst hrT
   subst hs1
   cbv
   refine bF l1 (nd f1 ?_)
   rw [f2]
   exact hF _ (ResLe.refl _)
def trL (M : Nat -> List Rat) (j i : Nat) : List Rat := (List.range i).map fun l => (M l).getD j 0
def trM (n : Nat) (M : Nat -> List Rat) : Nat -> List Rat := fun j => trL M j n
theorem trL_len (M : Nat -> List Rat) (j i : Nat) : (trL M j i).length = i := by simp [trL]
theorem trL_succ (M : Nat -> List Rat) (j i : Nat) : trL M j (i + 1) = trL M j i ++ [(M i).getD j 0] := by simp [trL, List.range_succ]
def trSt (MR r : Abs.Rows) (len : Nat) (J : Int) : St := mkSt 36 [.c (.t (.lst false MR)), .junk, .junk, .c (.sl 1 0 len false), vi .i64 J] [none, some (.rows 1 r true false)]
def trIn (MR r : Abs.Rows) (len : Nat) (J : Int) (x : Abs.Rows) (i : Nat) (I : Int) : St := mkSt 36 [.c (.t (.lst false MR)), .junk, .junk, .c (.sl 1 0 len false), vi .i64 J, .c (.sl 4 0 i false), vi .i64 I] [none, some (.rows 1 r true false), none, none, some (.rows 4 x true false)]
theorem rtrans_call (n : Nat) (hn : n <= 1000) (M : Nat -> List Rat) (hl : ∀ i, i < n -> (M i).length = n) : ACall Tryz.prog 34 [.val (tl (mr n M))] ⟨[.val (tl (mr n (trM n M)))], [none]⟩ := by
 have ccol := rcols_call n n M hl (by omega)
 rw [show (if n = 0 then 0 else n) = n by split <;> omega] at ccol
 obtain ⟨N, hN⟩ : ∃ N : Int, N = n := ⟨_, rfl⟩
 obtain ⟨MR, hMR⟩ : ∃ Z, Z = mr n M := ⟨_, rfl⟩
 obtain ⟨T, hT⟩ : ∃ T, T = mr n (trM n M) := ⟨_, rfl⟩
 rw [<- hN, <- hMR] at ccol
 rw [<- hMR, <- hT]
 have lM : MR.length = n := by rw [hMR, mr_len]
 refine callZ ccOk mixed [.val] Tryz.func34 rfl rfl (by kernel_rfl) fun zA zB zC zD zE zF zG zH zI zJ zK zL zM zN zO zP zQ zR zT zU zV zX zY zZ zb zc zd ze zg zh zi zj zk zl zm zn zo zq zr zs zt zu zx zy zz zmget zmset zW zth A L F hS hF => ?_
 have hN2 : zZ (zj MR) = N := by rw [hS.ofN, hS.len, lM, hN]
 cbv
 have hN : N = (n : Int) := hN
 refine loopZR ccOk mixed hS (fun (m : Nat) s' => ∃ (j : Nat) (J : Int) (r : Abs.Rows), J = j /\ m + j = n /\ r = mr j (trM n M) /\ s' = trSt MR r j J) (n := n) (s0 := trSt MR [] 0 0) (qav ?_ ?_) rfl (Nat.succ_le_succ (Nat.zero_le _)) ?_ ?_
 ·simp [leT, trSt, mkSt, vi, vb]
 ·simp [leH, trSt, mkSt]
 ·exact ⟨0, 0, [], rfl, by omega, rfl, rfl⟩
 ·rintro m s1 ⟨j, J, r, hJ, hm, hr, hs1⟩
  have hJ : J = (j : Int) := hJ
  have hrl : r.length = j := by rw [hr, mr_len]
  by_cases hj : j < n
  ·have l1 : zO J N = true := by rw [hS.lt]; exact decide_eq_true (by omega)
   obtain ⟨U, hU⟩ : ∃ U, U = ur (trL M j n) := ⟨_, rfl⟩
   have lU : U.length = n := by rw [hU, qap, trL_len]
   obtain ⟨row2, hrw2⟩ : ∃ row2, row2 = [Tree.lst false U] := ⟨_, rfl⟩
   have hr1 : row2.length = 1 := by rw [hrw2]; rfl
   have f1 : zq 0 n U = true := by rw [hS.fit]; exact decide_eq_true (by omega)
   have f2 : zr U 0 n = U := by rw [hS.part, List.drop_zero, List.take_of_length_le (by omega)]
   have u0 : zr [row2] 0 1 = [row2] := by rw [hS.part]; rfl
   have u1 : zq 0 1 [row2] = true := by rw [hS.fit]; rfl
   have u2 : zQ (zc (zj [row2]) 0) = true := by rw [hS.len, hS.neq, hS.not]; rfl
   have u3 : zx 1 [row2] = true := by rw [hS.wide]; simp [hr1]
   have u4 : zh j (zj [row2]) 24 = true := by rw [hS.len, hS.room]; exact decide_eq_true (by unfold capBytes; simp only [List.length_cons, List.length_nil]; omega)
   have u5 : zc (zd 0 j) (zj r) = true := by rw [hS.nadd, hS.neq, hS.len, hrl, Nat.zero_add]; exact decide_eq_true rfl
   have u6 : zd j (zj [row2]) = j + 1 := by rw [hS.len, hS.nadd]; rfl
   obtain ⟨r2, hr2⟩ : ∃ r2, r2 = mr (j + 1) (trM n M) := ⟨_, rfl⟩
   have u7 : zs r 0 [row2] = r2 := by rw [hS.ext, List.drop_zero, hr, hr2, mr_succ, hrw2, hU]; rfl
   obtain ⟨J', hJ', i1⟩ : ∃ I' : Int, I' = ((j + 1 : Nat) : Int) /\ zA .i64 (zB J 1) = I' := ⟨J + 1, by omega, by rw [hS.add, hS.wrap, wrap_i64 (by omega) (by omega)]⟩
   have hmm : m - 1 < m := by omega
   have hnx : ∃ (i2 : Nat) (I2 : Int) (r' : Abs.Rows), I2 = i2 /\ (m - 1) + i2 = n /\ r' = mr i2 (trM n M) /\ trSt MR r2 (j + 1) J' = trSt MR r' i2 I2 := ⟨j + 1, J', r2, hJ', by omega, hr2, rfl⟩
   clear hr hr2 hT
   subst hs1
   cbv
   refine ⟨_, hS.call (ccol), ?_⟩
   cbv
   refine bT (l1) ?_
   apply hideP (L := L) True
   ·intro Q' hq hret
    have hN : N = (n : Int) := hN
    have hJ : J = (j : Int) := hJ
    refine loopZR ccOk mixed hS (fun (m2 : Nat) s' => ∃ (i : Nat) (I : Int) (x : Abs.Rows), I = i /\ m2 + i = n /\ x = ur (trL M j i) /\ s' = trIn MR r j J x i I) (n := n) (s0 := trIn MR r j J [] 0 0) (qav ?_ ?_) rfl (Nat.succ_le_succ (Nat.zero_le _)) ?_ ?_
    ·simp [leT, trIn, mkSt, vi, vb]
    ·simp [leH, trIn, mkSt]
    ·exact ⟨0, 0, [], rfl, by omega, rfl, rfl⟩
    ·rintro m2 s2 ⟨i, I, x, hI, hm2, hx, hs2⟩
     have hI : I = (i : Int) := hI
     have lx : x.length = i := by rw [hx, qap, trL_len]
     by_cases hi : i < n
     ·have l2 : zO I N = true := by rw [hS.lt]; exact decide_eq_true (by omega)
      obtain ⟨s, t, q, p, hrow, _⟩ := qrow ((M i).getD j 0)
      obtain ⟨Ri, hRi⟩ : ∃ R, R = ur (M i) := ⟨_, rfl⟩
      have gR : Ri[j]? = some [.v (.bool s), .lst false q, .v (.bool t), .lst false p] := by
       rw [hRi, <- hrow]
       exact ur_get (by rw [List.getD_eq_getElem?_getD, List.getElem?_eq_getElem (by rw [hl i hi]; exact hj)]; rfl)
      obtain ⟨cell, hcell⟩ : ∃ c : Abs.Rows, c = [[Tree.v (.bool s), .lst false q, .v (.bool t), .lst false p]] := ⟨_, rfl⟩
      have j1 : zX I = i := by rw [hS.nat]; omega
      have j2 : zk MR i = some [.lst false Ri] := by rw [hS.nth, hMR, hRi]; exact mr_get hi
      have j3 : zX J = j := by rw [hS.nat]; omega
      have j4 : zk Ri j = some [.v (.bool s), .lst false q, .v (.bool t), .lst false p] := by rw [hS.nth]; exact gR
      have n0 : zP 0 I = true := by rw [hS.le]; exact decide_eq_true (by omega)
      have n1 : zP 0 J = true := by rw [hS.le]; exact decide_eq_true (by omega)
      have c1 : zr cell 0 1 = cell := by rw [hS.part, hcell]; rfl
      have c2 : zq 0 1 cell = true := by rw [hS.fit, hcell]; rfl
      have c3 : zQ (zc (zj cell) 0) = true := by rw [hS.neq, hS.len, hS.not, hcell]; rfl
      have c4 : zx 4 cell = true := by rw [hS.wide, hcell]; rfl
      have c5 : zh i (zj cell) 64 = true := by rw [hS.room, hS.len, hcell]; exact decide_eq_true (by unfold capBytes; simp; omega)
      have c6 : zc (zd 0 i) (zj x) = true := by rw [hS.nadd, hS.len, hS.neq, lx, Nat.zero_add]; exact decide_eq_true rfl
      have c7 : zd i (zj cell) = i + 1 := by rw [hS.nadd, hS.len, hcell]; rfl
      obtain ⟨x2, hx2⟩ : ∃ x2, x2 = ur (trL M j (i + 1)) := ⟨_, rfl⟩
      have c8 : zs x 0 cell = x2 := by rw [hS.ext, List.drop_zero, hx, hx2, trL_succ, ur_app, hrow, hcell]
      obtain ⟨I', hI', i2⟩ : ∃ I' : Int, I' = ((i + 1 : Nat) : Int) /\ zA .i64 (zB I 1) = I' := ⟨I + 1, by omega, by rw [hS.add, hS.wrap, wrap_i64 (by omega) (by omega)]⟩
      have hm3 : m2 - 1 < m2 := by omega
      have hnx2 : ∃ (i3 : Nat) (I3 : Int) (x3 : Abs.Rows), I3 = i3 /\ (m2 - 1) + i3 = n /\ x3 = ur (trL M j i3) /\ trIn MR r j J x2 (i + 1) I' = trIn MR r j J x3 i3 I3 := ⟨i + 1, I', x2, hI', by omega, hx2, rfl⟩
      clear hx hx2 hI'
      subst hs2
      cbv
      rw [hN2]
      refine bT l2 ?_
      rw [j1, j2]
      cbv
      refine nd n0 ?_
      rw [j3, j4]
      cbv
      rw [<- hcell, c1]
      refine nd n1 (nd c2 (nd c3 (nd c4 (nd c5 (nd c6 ?_)))))
      rw [c7, c8, i2]
      refine againR [(4, 6)] (s' := trIn MR r j J x2 (i + 1) I') (k := m2 - 1) ?_ ?_ ?_ ?_ rfl (Nat.succ_le_succ (Nat.zero_le _)) hm3 hnx2
      ·simp [leTR, trIn, mkSt, vi, AV.ren, AV.noTup, Cell.ren, renF]
      ·simp [leHR, trIn, mkSt, Abs.look, renF, Blk.ren, Cell.ren]
      ·simp [liveR, trIn, mkSt, renF]
      ·simp
     ·have l2 : zO I N = false := by rw [hS.lt]; exact decide_eq_false (by omega)
      obtain rfl : i = n := by omega
      obtain rfl : x = U := by rw [hx, hU]
      obtain rfl : I = N := by omega
      clear hx
      subst hs2
      cbv
      rw [hN2]
      refine bF l2 ?_
      exact hq trivial
   ·intro _
    cbv
    refine nd f1 ?_
    rw [f2, <- hrw2, u0]
    refine nd (u1) ?_
    refine nd (u2) ?_
    refine nd (u3) ?_
    refine nd (u4) ?_
    refine nd (u5) ?_
    refine againR [(1, 6)] (s' := trSt MR r2 (j + 1) J') (k := m - 1) ?_ ?_ ?_ ?_ rfl (Nat.succ_le_succ (Nat.zero_le _)) hmm hnx
    ·simp [leTR, trSt, mkSt, vi, AV.ren, AV.noTup, Cell.ren, renF, i1, u6]
    ·simp [leHR, trSt, mkSt, Abs.look, renF, Blk.ren, u7, Cell.ren]
    ·simp [liveR, trSt, mkSt, renF]
    ·simp
  ·have l1 : zO J N = false := by rw [hS.lt]; exact decide_eq_false (by omega)
   have hrT : r = T := by rw [hr, hT, show j = n by omega]
   have f1 : zq 0 j r = true := by rw [hS.fit]; exact decide_eq_true (by omega)
   have f2 : zr r 0 j = r := by rw [hS.part, List.drop_zero, List.take_of_length_le (by omega)]
   subst hrT
   subst hs1
   cbv
   refine ⟨_, hS.call (ccol), ?_⟩
   cbv
   refine bF l1 (nd f1 ?_)
   rw [f2]
   exact hF _ (ResLe.refl _)
open Go Go.Abs Go.Abs.M Go.Proofs
open Go Go.Abs Go.Abs.M Go.Proofs
def mmM (M B : Nat -> List Rat) (w : Nat) : Nat -> List Rat := fun i => vmul (M i) B w (M i).length
theorem mmul_call (n : Nat) (hn : n <= 4) (M B : Nat -> List Rat) (m w a b : Nat) (hm : m <= 1000) (hw : w <= 1000) (hl : ∀ i, i < m -> (B i).length = w) (h0 : m = 0 -> w = 0) (hP : ∀ i, i < n -> (M i).length = m) (h1 : ∀ i, i < n -> ∀ q ∈ M i, Qs q a) (h2 : ∀ i, i < m -> ∀ q ∈ B i, Qs q b) (hab : 1001 * (a + b + 1) <= 68719476736) :
  ACall Tryz.prog 44 [.val (tl (mr n M)), .val (tl (mr m B))] ⟨[.val (tl (mr n (mmM M B w))), .val (ti .i64 0)], [none, none]⟩ := by
 obtain ⟨BM, hBM⟩ : ∃ X, X = mr m B := ⟨_, rfl⟩
 have lB : BM.length = m := by rw [hBM, mr_len]
 have lA := mr_len n M
 obtain ⟨X, hX⟩ : ∃ X : Nat -> Abs.Rows, X = fun i => ur (mmM M B w i) := ⟨_, rfl⟩
 have lX : ∀ i, (X i).length = w := fun i => by rw [hX]; show (ur (vmul _ B w _)).length = w; rw [qap, vmul_len]
 have ca := mtapp n hn M B m w a b hm hw hl h0 hP h1 h2 hab hBM (X := X) fun i => by rw [hX]; rfl
 have hT : mr n (mmM M B w) = (List.range n).map fun i => [Tree.lst false (X i)] := by rw [hX]; rfl
 have cw := mwidth_call n m M hP (by omega)
 obtain ⟨W0, hW0⟩ : ∃ X : Int, X = (m : Int) := ⟨_, rfl⟩
 rw [hT, <- hBM]
 generalize mr n M = A1 at *
 clear hT hP h1 hX hl h0 h2 hab hBM
 by_cases hn0 : n = 0
 ·clear cw
  subst hn0
  refine callZX ccOk mixed [.val, .val] Tryz.func44 rfl rfl (by kernel_rfl) fun zA zB zC zD zE zF zG zH zI zJ zK zL zM zN zO zP zQ zR zT zU zV zX zY zZ zb zc zd ze zg zh zi zj zk zl zm zn zo zq zr zs zt zu zx zy zz zmget zmset zW zth A L F hS hF => ?_
  have e1 : zZ (zj A1) = 0 := by rw [hS.ofN, hS.len, lA]; rfl
  have g0 : zO 0 0 = false := by rw [hS.lt]; rfl
  cbv
  rw [e1]
  refine bF g0 ?_
  refine ⟨_, hS.hcall ca, ?_⟩
  cbv
  exact hF _ (ResLe.refl _)
 ·rw [if_neg hn0, <- hW0] at cw
  have L4 : LN n := trivial
  obtain rfl | rfl | rfl | rfl : n = 1 ∨ n = 2 ∨ n = 3 ∨ n = 4 := by omega
  all_goals
   refine callZX ccOk mixed [.val, .val] Tryz.func44 rfl rfl (by kernel_rfl) fun zA zB zC zD zE zF zG zH zI zJ zK zL zM zN zO zP zQ zR zT zU zV zX zY zZ zb zc zd ze zg zh zi zj zk zl zm zn zo zq zr zs zt zu zx zy zz zmget zmset zW zth A L F hS hF => ?_
   have e1 : zZ (zj A1) = (L4.v : Int) := by rw [hS.ofN, hS.len, lA]; rfl
   have g0 : zO 0 (L4.v : Int) = true := by rw [hS.lt]; rfl
   have e2 : zZ (zj BM) = W0 := by rw [hS.ofN, hS.len, lB, hW0]
   have g1 : zN W0 W0 = false := by rw [hS.ne]; exact decide_eq_false (by simp)
   have f : ∀ i, zq 0 w (X i) = true := fun i => by rw [hS.fit]; exact decide_eq_true (by rw [lX]; omega)
   have pt : ∀ i, zr (X i) 0 w = X i := fun i => by rw [hS.part, List.drop_zero, List.take_of_length_le (by rw [lX]; omega)]
   cbv
   rw [e1]
   refine bT g0 ?_
   refine ⟨_, hS.hcall cw, ?_⟩
   cbv
   rw [e2]
   refine bF g1 ?_
   refine ⟨_, hS.hcall ca, ?_⟩
   cbv
   repeat refine nd (f _) ?_
   simp only [pt]
   exact hF _ (ResLe.refl _)
theorem lmul_call (n : Nat) (hn : n <= 4) (M B : Nat -> List Rat) (m w a b : Nat) (hm : m <= 1000) (hw : w <= 1000) (hl : ∀ i, i < m -> (B i).length = w) (h0 : m = 0 -> w = 0) (hP : ∀ i, i < n -> (M i).length = m) (h1 : ∀ i, i < n -> ∀ q ∈ M i, Qs q a) (h2 : ∀ i, i < m -> ∀ q ∈ B i, Qs q b) (hab : 1001 * (a + b + 1) <= 68719476736) :
  ACall Tryz.prog 29 [.val (tl (mr n M)), .val (tl (mr m B))] ⟨[.val (tl (mr n (mmM M B w)))], [none, none]⟩ := by
 have c := mmul_call n hn M B m w a b hm hw hl h0 hP h1 h2 hab
 generalize mr n M = X at *
 generalize mr m B = Y at *
 generalize mr n (mmM M B w) = Z at *
 refine callZ ccOk mixed [.val] Tryz.func29 rfl rfl (by kernel_rfl) fun zA zB zC zD zE zF zG zH zI zJ zK zL zM zN zO zP zQ zR zT zU zV zX zY zZ zb zc zd ze zg zh zi zj zk zl zm zn zo zq zr zs zt zu zx zy zz zmget zmset zW zth A L F hS hF => ?_
 cbv
 refine ⟨_, hS.call (c), ?_⟩
 cbv
 exact hF _ (ResLe.refl _)
open Go Go.Abs Go.Abs.M Go.Proofs
theorem vmul_rv (P : List Rat) (B : Nat -> List Rat) (w : Nat) : ∀ k, (∀ i, i < k -> (B i).length = w) -> ∀ y, rv (vmul P B w k) y = sumN k fun l => P.getD l 0 * rv (B l) y
 | 0, _, y => by
  unfold rv vmul sumN
  rw [List.getD_eq_getElem?_getD, List.getElem?_replicate]
  split <;> rfl
 | k + 1, h, y => by
  have ih := vmul_rv P B w k (fun i hi => h i (by omega)) y
  rw [sumN, <- ih]
  unfold rv
  rw [vmul, pacc0_get _ (by rw [vmul_len, h k (by omega)])]
theorem mmM_len (M B : Nat -> List Rat) (w : Nat) (i : Nat) : (mmM M B w i).length = w := by rw [mmM, vmul_len]
theorem mmM_rv {M B : Nat -> List Rat} {m w i : Nat} (hi : (M i).length = m) (hl : ∀ i, i < m -> (B i).length = w) (y : Nat) : rv (mmM M B w i) y = sumN m fun l => rv (M i) l * rv (B l) y := by
 rw [mmM, hi, vmul_rv _ _ _ _ hl]; rfl
theorem mmM_qs {n m w a b : Nat} {M B : Nat -> List Rat} (hl : ∀ i, i < m -> (B i).length = w) (hP : ∀ i, i < n -> (M i).length = m) (h1 : ∀ i, i < n -> ∀ q ∈ M i, Qs q a) (h2 : ∀ i, i < m -> ∀ q ∈ B i, Qs q b) : ∀ i, i < n -> ∀ q ∈ mmM M B w i, Qs q (1 + m * (a + b + 1)) := fun i hi => by
 have := vmul_qs (w := w) hl (h1 i hi) h2 m (by rw [hP i hi]; exact Nat.le_refl _) (Nat.le_refl _)
 rw [mmM, hP i hi]; exact this
theorem rv_out {P : List Rat} {y : Nat} (h : P.length <= y) : rv P y = 0 := by
 unfold rv
 rw [List.getD_eq_getElem?_getD, List.getElem?_eq_none h]; rfl
end Go.Proofs.YtjfmkcmepdedaaaGreat
end
