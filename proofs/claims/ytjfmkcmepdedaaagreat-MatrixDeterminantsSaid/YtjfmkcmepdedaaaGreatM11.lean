/-
  A part of the proof: MxR1k.
-/
import Derived.Test.YtjfmkcmepdedaaaGreatM10
set_option maxHeartbeats 0
set_option maxRecDepth 100000
set_option linter.unusedVariables false
set_option linter.unusedSimpArgs false
set_option linter.unusedSectionVars false
section
namespace Go.Proofs.YtjfmkcmepdedaaaGreat
open Go Go.Abs Go.Abs.M Go.Proofs
theorem lsc_qs {c : Rat} {P : List Rat} {a b : Nat} (h1 : Qs c a) (h2 : ∀ q ∈ P, Qs q b) : ∀ q ∈ lsc c P, Qs q (a + b) := fun q hq => by
 obtain ⟨x, hx, rfl⟩ := List.mem_map.1 hq
 exact mul_small h1 (h2 x hx)
theorem elm_qs {P Q : List Rat} {j a b : Nat} (hP : ∀ q ∈ P, Qs q a) (hQ : ∀ q ∈ Q, Qs q b) (hl : P.length = Q.length) (hj : j < P.length) (h0 : Q.getD j 0 ≠ 0) : ∀ q ∈ elm P Q j, Qs q (2 * a + 2 * b + 1) := by
 have gP : P.getD j 0 ∈ P := by rw [List.getD_eq_getElem?_getD, List.getElem?_eq_getElem hj]; exact List.getElem_mem hj
 have gQ : Q.getD j 0 ∈ Q := by rw [List.getD_eq_getElem?_getD, List.getElem?_eq_getElem (by omega)]; exact List.getElem_mem (by omega)
 unfold elm
 split
 ·exact fun q hq => (hP q hq).mono (by omega)
 ·have hc : Qs (-(P.getD j 0 / Q.getD j 0)) (a + b) := by
   refine Qs.neg ?_
   rw [Rat.div_def]
   exact mul_small (hP _ gP) (inv_small h0 (hQ _ gQ))
  have := accL_all (k := 0) hP hc hQ (by omega)
  exact fun q hq => (this q hq).mono (by omega)
theorem rstep_qs {n w j k l K : Nat} {R : Nat -> List Rat} (hl : ∀ i, i < n -> (R i).length = w) (hq : ∀ i, i < n -> ∀ q ∈ R i, Qs q K) (hK : 1 <= K) (hk : k < n) (hln : l < n) (hj : j < w) (hx : (R l).getD j 0 ≠ 0) : ∀ i, i < n -> ∀ q ∈ rstep R k l j i, Qs q (7 * K) := fun i hi => by
 have gL : (R l).getD j 0 ∈ R l := by rw [List.getD_eq_getElem?_getD, List.getElem?_eq_getElem (by rw [hl l hln]; exact hj)]; exact List.getElem_mem _
 have hs : ∀ q ∈ lsc ((R l).getD j 0)⁻¹ (R l), Qs q (K + K) := lsc_qs (inv_small hx (hq l hln _ gL)) (hq l hln)
 have hsj : (lsc ((R l).getD j 0)⁻¹ (R l)).getD j 0 ≠ 0 := by
  have := lsc_rv ((R l).getD j 0)⁻¹ (R l) j
  unfold rv at this
  rw [this, Rat.inv_mul_cancel _ hx]; decide
 have hsl : (lsc ((R l).getD j 0)⁻¹ (R l)).length = w := by simp [lsc, hl l hln]
 unfold rstep
 split
 ·exact fun q hq => (hs q hq).mono (by omega)
 ·have hT : (if i = l then R k else R i).length = w /\ ∀ q ∈ (if i = l then R k else R i), Qs q K := by
   split
   ·exact ⟨hl k hk, hq k hk⟩
   ·exact ⟨hl i hi, hq i hi⟩
  exact fun q hq => (elm_qs hT.2 hs (by rw [hT.1, hsl]) (by rw [hT.1]; exact hj) hsj q hq).mono (by omega)
theorem rdIt_qs {n w B : Nat} {M : Nat -> List Rat} (hl : ∀ i, i < n -> (M i).length = w) (hB : 1 <= B) (hq : ∀ i, i < n -> ∀ q ∈ M i, Qs q B) : ∀ j, j <= w -> ∀ i, i < n -> ∀ q ∈ (rdIt n M j).R i, Qs q (7 ^ (rdIt n M j).k * B)
 | 0, _ => fun i hi q h => (hq i hi q h).mono (by simp [rdIt])
 | j + 1, hj => by
  have ih := rdIt_qs hl hB hq j (by omega)
  have ok := rdIt_ok hl j
  have hk := ok.kn
  show ∀ i, i < n -> ∀ q ∈ (rdNext n j (rdIt n M j)).R i, Qs q (7 ^ (rdNext n j (rdIt n M j)).k * B)
  unfold rdNext
  rcases pvt_spec (rdIt n M j).R j (n - (rdIt n M j).k) (rdIt n M j).k with ⟨h1, h2⟩ | ⟨l, h1, h2, h3, h4⟩
  ·rw [if_pos h1]; exact ih
  ·rw [if_neg (by omega), h3, Int.toNat_natCast]
   have hB7 : 1 <= 7 ^ (rdIt n M j).k * B := Nat.mul_pos (Nat.pow_pos (by omega)) hB
   have := rstep_qs (fun i hi => ok.len i hi) ih hB7 (show (rdIt n M j).k < n by omega) (show l < n by omega) (show j < w by omega) h4
   intro i hi q hq'
   refine (this i hi q hq').mono ?_
   show 7 * (7 ^ (rdIt n M j).k * B) <= 7 ^ ((rdIt n M j).k + 1) * B
   rw [Nat.pow_succ, <- Nat.mul_assoc, Nat.mul_comm 7]; omega
theorem rd_round {n w B j k : Nat} {M : Nat -> List Rat} (hn : n <= 4) (hw : w <= 1000) (hl : ∀ i, i < n -> (M i).length = w) (hB : 1 <= B) (hB2 : B <= 400000) (hq : ∀ i, i < n -> ∀ q ∈ M i, Qs q B) (hj : j < w) (hk : (rdIt n M j).k = k) {J : Int} (hJ : J = j) {X : Nat -> Abs.Rows} (hX : ∀ i, i < n -> X i = ur ((rdIt n M j).R i)) :
  ∃ T : Int, HCall Tryz.prog 57 ⟨[.c (.sl 0 0 n false), vi .i64 (k : Int), vi .i64 J], mrh n w X⟩ ⟨[vi .i64 T], mrh n w X⟩ /\
   ((T = -1 /\ rdIt n M (j + 1) = rdIt n M j) ∨ ∃ (l : Nat) (s t s2 t2 : Bool) (r p r2 p2 S : Abs.Rows) (Z2 Z3 : Nat -> Abs.Rows), k <= l /\ l < n /\ T = (l : Int) /\ S.length = w /\
    (X l)[j]? = some [.v (.bool s), .lst false r, .v (.bool t), .lst false p] /\
    ACall Tryz.prog 87 [.val (.agg [.v (.bool s), .lst false r, .v (.bool t), .lst false p])] ⟨[.val (.agg [.v (.bool s2), .lst false r2, .v (.bool t2), .lst false p2]), .val (ti .i64 0)], [none]⟩ /\
    ACall Tryz.prog 107 [.val (tl (X l)), .clo 108 [(2, 0, 0)], .gh [.v (.bool s2), .lst false r2, .v (.bool t2), .lst false p2]] ⟨[.own 4 S], [none, none, some (.var ([Tree.v (.bool s2), .lst false r2, .v (.bool t2), .lst false p2].map .t))]⟩ /\
    HCall Tryz.prog 58 ⟨[.c (.sl 0 0 k false), .c (.sl 1 0 w false), vi .i64 J], mrk n k w (fun i => if i = k then S else if i = l then X k else X i)⟩ ⟨[], mrk n k w Z2⟩ /\
    HCall Tryz.prog 58 ⟨[.c (.sl 0 (k + 1) (n - k - 1) false), .c (.sl 1 0 w false), vi .i64 J], mrk n k w Z2⟩ ⟨[], mrk n k w Z3⟩ /\
    (rdIt n M (j + 1)).k = k + 1 /\ (∀ i, i < n -> Z3 i = ur ((rdIt n M (j + 1)).R i)) /\ W .i64 (pl (rdIt n M (j + 1)).p (k + 1)) = W .i64 (pl (rdIt n M j).p k) ++ W .i64 [J]) := by
 have ok := rdIt_ok hl j
 have qs := rdIt_qs hl hB hq j (by omega)
 rw [hk] at ok qs
 have hkn := ok.kn
 obtain ⟨T, hT⟩ : ∃ T : Int, T = pvt (rdIt n M j).R j (n - k) k := ⟨_, rfl⟩
 refine ⟨T, mpiv n hn (rdIt n M j).R w k j hkn hw hj ok.len hJ rfl hT hX, ?_⟩
 rcases pvt_spec (rdIt n M j).R j (n - k) k with ⟨h1, h2⟩ | ⟨l, h1, h2, h3, h4⟩
 ·exact .inl ⟨hT.trans h1, rdIt_skip hk h1⟩
 ·have hst := rdIt_step hk h3
  have hln : l < n := by omega
  obtain ⟨K, hK⟩ : ∃ K, K = 7 ^ k * B := ⟨_, rfl⟩
  have hK7 : 7 ^ k <= 343 := Nat.pow_le_pow_right (by omega) (show k <= 3 by omega)
  have hK1 : 1 <= K := by rw [hK]; exact Nat.mul_pos (Nat.pow_pos (by omega)) hB
  have hK2 : K <= 137200000 := by rw [hK]; exact Nat.le_trans (Nat.mul_le_mul hK7 hB2) (by omega)
  rw [<- hK] at qs
  obtain ⟨R, hR⟩ : ∃ R, R = (rdIt n M j).R := ⟨_, rfl⟩
  rw [<- hR] at ok qs h3 h4 hX hst
  have lR := ok.len
  obtain ⟨x, hx⟩ : ∃ x, x = (R l).getD j 0 := ⟨_, rfl⟩
  rw [<- hx] at h4
  have gL : (R l)[j]? = some x := by rw [hx, List.getD_eq_getElem?_getD, List.getElem?_eq_getElem (by rw [lR l hln]; exact hj)]; rfl
  have hQx : Qs x K := qs l hln _ (List.mem_of_getElem? gL)
  obtain ⟨hQi, cinv⟩ := pinv_row h4 hQx (by omega)
  have cm := mapply_call x⁻¹ (R l) K K hQi (qs l hln) (by omega) (by rw [lR l hln]; exact hw)
  obtain ⟨Sq, hSq⟩ : ∃ Sq, Sq = lsc x⁻¹ (R l) := ⟨_, rfl⟩
  have hQs : ∀ q ∈ Sq, Qs q (K + K) := by rw [hSq]; exact lsc_qs hQi (qs l hln)
  have lSq : Sq.length = w := by rw [hSq]; simp [lsc, lR l hln]
  have hSj : Sq.getD j 0 ≠ 0 := by
   have := lsc_rv x⁻¹ (R l) j
   unfold rv at this
   rw [hSq, this, <- hx, Rat.inv_mul_cancel _ h4]; decide
  rw [<- hSq, <- hX l hln] at cm
  obtain ⟨s, t, r, p, hrow, _⟩ := qrow x
  obtain ⟨s2, t2, r2, p2, hrow2, _⟩ := qrow x⁻¹
  have u := ur_get gL
  rw [<- hX l hln, hrow] at u
  rw [hrow, hrow2] at cinv
  rw [hrow2] at cm
  obtain ⟨Q0, hQ0⟩ : ∃ Q : Nat -> List Rat, Q = fun i => if i = l then R k else R i := ⟨_, rfl⟩
  have q0 : ∀ i, i < n -> (Q0 i).length = w /\ ∀ q ∈ Q0 i, Qs q K := fun i hi => by
   rw [hQ0]
   show (if i = l then R k else R i).length = w /\ ∀ q ∈ (if i = l then R k else R i), Qs q K
   split
   ·exact ⟨lR k (by omega), qs k (by omega)⟩
   ·exact ⟨lR i hi, qs i hi⟩
  obtain ⟨Q1, hQ1⟩ : ∃ Q : Nat -> List Rat, ∀ i, Q i = if i = k then Sq else Q0 i := ⟨fun i => if i = k then Sq else Q0 i, fun _ => rfl⟩
  obtain ⟨Q2, hQ2⟩ : ∃ Q : Nat -> List Rat, ∀ i, Q i = if i < k then elm (Q1 i) Sq j else Q1 i := ⟨fun i => if i < k then elm (Q1 i) Sq j else Q1 i, fun _ => rfl⟩
  have v1 : Q1 k = Sq := by rw [hQ1, if_pos rfl]
  have v2 : Q2 k = Sq := by rw [hQ2, if_neg (by omega), v1]
  have q1 : ∀ i, i < n -> (Q1 i).length = w /\ ∀ q ∈ Q1 i, Qs q (7 * K) := fun i hi => by
   rw [hQ1]
   split
   ·exact ⟨lSq, fun q hq => (hQs q hq).mono (by omega)⟩
   ·exact ⟨(q0 i hi).1, fun q hq => ((q0 i hi).2 q hq).mono (by omega)⟩
  have q2 : ∀ i, i < n -> (Q2 i).length = w /\ ∀ q ∈ Q2 i, Qs q (7 * K) := fun i hi => by
   rw [hQ2]
   split
   ·rename_i h
    rw [hQ1, if_neg (by omega)]
    exact ⟨by rw [elm_len, (q0 i hi).1], fun q hq => (elm_qs (q0 i hi).2 hQs (by rw [lSq, (q0 i hi).1]) (by rw [(q0 i hi).1]; exact hj) hSj q hq).mono (by omega)⟩
   ·exact q1 i hi
  refine .inr ⟨l, s, t, s2, t2, r, p, r2, p2, ur Sq, fun i => ur (Q2 i), fun i => if k + 1 <= i /\ i < k + 1 + (n - k - 1) then ur (elm (Q2 i) (Q2 k) j) else ur (Q2 i), h1, hln, hT.trans (hR ▸ h3), by rw [qap, lSq], u, cinv, cm, ?_, ?_, by rw [hst], ?_, ?_⟩
  ·refine melim n 0 k k hn (by omega) (.inl ⟨rfl, rfl⟩) Q1 w j (7 * K) hw hj (by omega) (fun i hi => (q1 i hi).1) (fun i hi => (q1 i hi).2) (by rw [v1]; exact hSj) hJ (fun i hi => ?_) (fun i hi => ?_)
   ·show (if i = k then ur Sq else if i = l then X k else X i) = _
    rw [hQ1, hQ0]
    show (if i = k then ur Sq else if i = l then X k else X i) = ur (if i = k then Sq else if i = l then R k else R i)
    split
    ·rfl
    ·split
     ·exact hX k (by omega)
     ·exact hX i hi
   ·show ur (Q2 i) = _
    rw [hQ2, v1]
    by_cases h : i < k
    ·rw [if_pos h, if_pos (by omega)]
    ·rw [if_neg h, if_neg (by omega)]
  ·exact melim n (k + 1) (n - k - 1) k hn (by omega) (.inr ⟨rfl, rfl⟩) Q2 w j (7 * K) hw hj (by omega) (fun i hi => (q2 i hi).1) (fun i hi => (q2 i hi).2) (by rw [v2]; exact hSj) hJ (fun i hi => rfl) (fun i hi => rfl)
  ·intro i hi
   rw [hst]
   show (if k + 1 <= i /\ i < k + 1 + (n - k - 1) then ur (elm (Q2 i) (Q2 k) j) else ur (Q2 i)) = ur (rstep R k l j i)
   unfold rstep
   rw [<- hx, <- hSq, v2]
   by_cases hik : i = k
   ·rw [if_pos hik, if_neg (by omega), hik, v2]
   ·rw [if_neg hik]
    by_cases h : i < k
    ·rw [if_neg (by omega), hQ2, if_pos h, hQ1, if_neg hik, hQ0]
    ·rw [if_pos (by omega), hQ2, if_neg h, hQ1, if_neg hik, hQ0]
  ·rw [hst]
   show W .i64 (pl (fun x => if x = k then j else (rdIt n M j).p x) (k + 1)) = _
   rw [pl_step, hJ]; simp [W]
theorem mr_x {k : Nat} {M : Nat -> List Rat} {X : Nat -> Abs.Rows} (h : ∀ i, i < k -> X i = ur (M i)) : mr k M = (List.range k).map fun i => [Tree.lst false (X i)] := List.map_congr_left fun i hi => by rw [h i (List.mem_range.1 hi)]
end Go.Proofs.YtjfmkcmepdedaaaGreat
end
