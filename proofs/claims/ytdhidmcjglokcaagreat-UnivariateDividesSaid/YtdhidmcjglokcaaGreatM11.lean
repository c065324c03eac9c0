/-
  A part of the proof: UplA07, EvlA07, EvD, EvlB07, CfU, DvM07, EvlC07, PolT07, DmT07.
-/
import Derived.Test.YtdhidmcjglokcaaGreatM10
import Derived.Calls
import Derived.Laws.Cells
import Derived.Below
import Derived.Laws.Small
import Derived.Laws.IdiomCopy
import Derived.Laws.BytesString
import Derived.Laws.Append
import Derived.Laws.Tables
import Derived.Great.BuildSlice
import Derived.IntWalk
import Derived.Orders
import Derived.Laws.BitsLemmas
import Derived.Test.YtdhidmcjglokcaaGreatProg

section
set_option linter.unusedVariables false
set_option linter.unusedSimpArgs false
set_option maxHeartbeats 8000000
set_option linter.unusedVariables false
set_option linter.unusedSimpArgs false
set_option maxRecDepth 100000
namespace Go.Proofs.YtdhidmcjglokcaaGreat
open Go Go.Abs Go.Abs.M Go.Proofs

/-- P is the list of the polynomial f: trimmed, at most n coefficients, of at most k words. -/
structure PL (f : Rat → Rat) (n k : Nat) (P : List Rat) : Prop where
  tr : ptrim P = P
  ev : ∀ x, ev P x = f x
  len : P.length ≤ n
  sz : ∀ q ∈ P, Qs q k

theorem ev_shift (P : List Rat) (c : Rat) (B : List Rat) (k : Nat) (x : Rat) : Abs.ev (pshift P c B k) x = Abs.ev P x + c * x ^ k * Abs.ev B x := by
  unfold pshift
  rw [ev_pacc _ _ _ _ _ (by simp; omega), ev_app, ev_zeros]
  grind

theorem ev_pmulL (P B R : List Rat) (x : Rat) (h : P.length + B.length ≤ R.length + 1) : ∀ i, i ≤ P.length → Abs.ev (pmulL P B R i) x = Abs.ev R x + Abs.ev (P.take i) x * Abs.ev B x
  | 0, _ => by simp [pmulL, Abs.ev, Rat.zero_mul, Rat.add_zero]
  | i + 1, hi => by
    unfold pmulL
    rw [ev_pacc _ _ _ _ _ (by rw [pmulL_len]; omega), ev_pmulL P B R x h i (by omega), ev_take_succ P i x (by omega)]
    grind

theorem ev_pmul (P B : List Rat) (x : Rat) : Abs.ev (pmul P B) x = Abs.ev P x * Abs.ev B x := by
  unfold pmul
  rw [ev_pmulL P B _ x (by simp; omega) _ (Nat.le_refl _), ev_zeros, List.take_length, Rat.zero_add]

/-- Two lists of the same polynomial have the same coefficients. -/
theorem ev_inj {P Q : List Rat} (h : ∀ x, Abs.ev P x = Abs.ev Q x) (j : Nat) : P.getD j 0 = Q.getD j 0 := by
  have h0 := ev_zero (P := pshift P (-1) Q 0) (fun x => by rw [ev_shift, h x]; grind) j
  rw [pshift_get, if_pos (Nat.zero_le _), Nat.sub_zero] at h0
  grind

theorem PL.inj {f g : Rat → Rat} {n k m l : Nat} {P Q : List Rat} (h1 : PL f n k P) (h2 : PL g m l Q) (h : ∀ x, f x = g x) : P = Q := by
  rw [← h1.tr, ← h2.tr]
  exact ptrim_ext (ev_inj fun x => by rw [h1.ev, h2.ev, h])

theorem PL.mono {f : Rat → Rat} {n k m l : Nat} {P : List Rat} (h : PL f n k P) (h1 : n ≤ m) (h2 : k ≤ l) : PL f m l P :=
  ⟨h.tr, h.ev, Nat.le_trans h.len h1, fun q hq => (h.sz q hq).mono h2⟩

theorem PL.congr {f g : Rat → Rat} {n k : Nat} {P : List Rat} (h : PL f n k P) (e : ∀ x, f x = g x) : PL g n k P :=
  ⟨h.tr, fun x => by rw [h.ev, e], h.len, h.sz⟩

theorem PL.of_trim {f : Rat → Rat} {n k : Nat} {P : List Rat} (h1 : ∀ x, Abs.ev P x = f x) (h2 : P.length ≤ n) (h3 : ∀ q ∈ P, Qs q k) : PL f n k (ptrim P) :=
  ⟨ptrim_idem P, fun x => by rw [ev_trim, h1], Nat.le_trans (ptrim_len P) h2, fun q hq => h3 q (ptrim_mem hq)⟩

theorem PL.nil : PL (fun _ => 0) 0 0 [] := ⟨rfl, fun _ => rfl, Nat.le_refl _, fun q hq => by cases hq⟩

theorem Qs.zero {k : Nat} : 1 ≤ k → Qs 0 k := fun h => Qs.whole (n := 0) (by decide) h

/-- Sizes of a sum. -/
theorem pshift_all {P B : List Rat} {c : Rat} {k a b d : Nat} (h1 : ∀ q ∈ P, Qs q a) (h2 : Qs c b) (h3 : ∀ q ∈ B, Qs q d) (ha : 1 ≤ a) : ∀ q ∈ pshift P c B k, Qs q (a + (b + d) + 1) := by
  unfold pshift
  refine accL_all (fun q hq => ?_) h2 h3 (by simp; omega)
  rcases List.mem_append.1 hq with h | h
  · exact h1 q h
  · rw [(List.mem_replicate.1 h).2]; exact Qs.zero ha

theorem pl_add {f g : Rat → Rat} {n m a b : Nat} {P B : List Rat} (hP : PL f n a P) (hB : PL g m b B) (ha : 1 ≤ a) (hn : n ≤ 1000) (hm : m ≤ 1000) (hs : a + b ≤ 68719476700) :
    ∃ R, PL (fun x => f x + g x) (max n m) (a + b + 2) R ∧ ACall Tryz.prog 16 [.val (tl (ur P)), .val (tl (ur B))] ⟨[.val (tl (ur R))], [none, none]⟩ := by
  refine ⟨_, PL.of_trim (fun x => ?_) ?_ (fun q hq => ?_), uadd_call P B a 1 b (Nat.le_trans hB.len hm) (Nat.le_trans hP.len hn) hP.sz hB.sz (by omega) ha (by omega)⟩
  · rw [ev_shift, hP.ev, hB.ev]; grind
  · rw [pshift_len]; have := hP.len; have := hB.len; omega
  · exact (pshift_all hP.sz (Qs.whole (n := 1) (by decide) (Nat.le_refl 1)) hB.sz ha q hq).mono (by omega)

/-- univariate.Mul for all lists. -/
theorem umul_all (P B : List Rat) (b d : Nat) (hl : P.length + B.length ≤ 1000) (h2 : ∀ q ∈ P, Qs q b) (h3 : ∀ q ∈ B, Qs q d) (hbd : b + d ≤ 67108864) :
    ACall Tryz.prog 17 [.val (tl (ur P)), .val (tl (ur B))] ⟨[.val (tl (ur (ptrim (pmul P B))))], [none, none]⟩ := by
  have hw : ∀ {args : List Arg}, ACall Tryz.prog 17 args ⟨[.val (.c (.lst true []))], [none, none]⟩ → ACall Tryz.prog 17 args ⟨[.val (tl [])], [none, none]⟩ :=
    fun h => ACall.weak (ArgsLe.refl _) (show ResLe ⟨[.val (.c (.lst true []))], [none, none]⟩ ⟨[.val (tl [])], [none, none]⟩ from ⟨⟨TLe.drop _ _, trivial⟩, rfl⟩) h
  have hz : (∀ x, Abs.ev P x * Abs.ev B x = 0) → ptrim (pmul P B) = [] := fun h => ptrim_ext (P := pmul P B) (Q := []) (ev_inj fun x => by rw [ev_pmul, h]; rfl)
  by_cases hP : P = []
  · subst hP
    rw [hz fun x => by simp [Abs.ev, Rat.zero_mul]]
    exact hw (umul_nil1 B (by simpa using hl))
  by_cases hB : B = []
  · subst hB
    rw [hz fun x => by simp [Abs.ev, Rat.mul_zero]]
    exact hw (umul_nil2 P hP (by simpa using hl))
  exact umul_call P B b d hP hB hl h2 h3 hbd

theorem pmul_all {P B : List Rat} {b d : Nat} (h2 : ∀ q ∈ P, Qs q b) (h3 : ∀ q ∈ B, Qs q d) : ∀ q ∈ pmul P B, Qs q (1 + P.length * (b + d + 1)) := by
  unfold pmul
  refine pmulL_all (fun q hq => ?_) h2 h3 (by simp; omega) _ (Nat.le_refl _)
  rw [(List.mem_replicate.1 hq).2]; exact Qs.zero (Nat.le_refl 1)

theorem pl_mul {f g : Rat → Rat} {n m a b : Nat} {P B : List Rat} (hP : PL f n a P) (hB : PL g m b B) (hn : n + m ≤ 1000) (hs : a + b ≤ 67108864) :
    ∃ R, PL (fun x => f x * g x) (n + m - 1) (1 + n * (a + b + 1)) R ∧ ACall Tryz.prog 17 [.val (tl (ur P)), .val (tl (ur B))] ⟨[.val (tl (ur R))], [none, none]⟩ := by
  have h1 := hP.len
  have h2 := hB.len
  refine ⟨_, PL.of_trim (fun x => ?_) ?_ (fun q hq => ?_), umul_all P B a b (by omega) hP.sz hB.sz hs⟩
  · rw [ev_pmul, hP.ev, hB.ev]
  · unfold pmul
    rw [pmulL_len, List.length_replicate]; omega
  · exact (pmul_all hP.sz hB.sz q hq).mono (Nat.add_le_add_left (Nat.mul_le_mul_right _ h1) 1)

theorem pl_same {f g : Rat → Rat} {n m a b : Nat} {P B : List Rat} (hP : PL f n a P) (hB : PL g m b B) (h : ∀ x, f x = g x) (hn : n ≤ 1000) (hm : m ≤ 1000) (hs : a ≤ 68719476736) :
    ACall Tryz.prog 19 [.val (tl (ur P)), .val (tl (ur B))] ⟨[.val (tb true)], [none, none]⟩ :=
  rusame_call P B true ⟨fun _ => hP.inj hB h, fun _ => rfl⟩ (Nat.le_trans hP.len hn) (Nat.le_trans hB.len hm) fun q hq => (hP.sz q hq).mono hs

theorem PL.uok {f : Rat → Rat} {n a : Nat} {P : List Rat} (hP : PL f n a P) : UOk (P.map qc) := hP.tr ▸ ptrim_ok P

theorem PL.cells {f : Rat → Rat} {n a : Nat} {P : List Rat} (hP : PL f n a P) (h : a ≤ 68719476736) : ∀ c ∈ P.map qc, c.ok 68719476736 := fun c hc => by
  obtain ⟨q, hq, rfl⟩ := List.mem_map.1 hc
  have := hP.sz q hq
  exact ⟨dg_wd _, dg_wd _, by show nl q.num.natAbs ≤ 68719476736; have := this.1; omega, by show nl (q.den : Int).natAbs ≤ 68719476736; rw [Int.natAbs_natCast]; have := this.2; omega⟩

theorem ruvalid_big (cs : List QC) (b : Bool) (hb : b = true ↔ UOk cs) (hw : ∀ c ∈ cs, c.ok 68719476736) (hl : cs.length ≤ 1000) : ACall Tryz.prog 14 [.val (tl (qrows cs))] ⟨[.val (tb b)], [none]⟩ := by
  refine ruvalid_gen cs b hb hl (fun c hc => ?_) (fun c hc hcan => ?_)
  · obtain ⟨b1, hb1⟩ := bool_ex c.can
    have h := hw c hc
    exact ⟨b1, hb1, rqvalid_call b1 hb1 h.l h.m (by have := h.ll; omega) (by have := h.lm; omega)⟩
  · obtain ⟨x, h1, h2⟩ := QC.sign hcan
    exact ⟨cmpI x 0, (cmp00 x).trans h2, rqsign_call _ h1 rfl⟩

theorem pl_valid {f : Rat → Rat} {n a : Nat} {P : List Rat} (hP : PL f n a P) (hn : n ≤ 1000) (ha : a ≤ 68719476736) :
    ACall Tryz.prog 14 [.val (tl (ur P))] ⟨[.val (tb true)], [none]⟩ :=
  ruvalid_big (P.map qc) true ⟨fun _ => hP.uok, fun _ => rfl⟩ (hP.cells ha) (by rw [List.length_map]; exact Nat.le_trans hP.len hn)

/-- What R.Made makes. -/
theorem pl_made (xs : List RW) (hx : ∀ x ∈ xs, x.ok) (D : Nat) (hD2 : D ≤ 100) (hlx : xs.length < 9223372036854775808) :
    ∃ P f, PL f (D + 1) 8 P ∧ ACall Tryz.prog 15 [.val (tl (rwrows xs)), .val (ti .i64 (D : Int))] ⟨[.val (tl (ur P))], [none, none]⟩ := by
  refine ⟨_, _, PL.of_trim (P := (xs.take (D + 1)).map RW.q) (fun _ => rfl) (by rw [List.length_map, List.length_take]; omega) (fun q hq => ?_), umade_call xs hx D (by omega) (by omega) hlx⟩
  obtain ⟨x, hxm, rfl⟩ := List.mem_map.1 hq
  have ho := hx x (List.mem_of_mem_take hxm)
  exact madeQ_small ho.n1 ho.n2 ho.d1 ho.d2 ho.k1 ho.k2

/-- Degrees add up. -/
theorem csum_top {P B : List Rat} (j : Nat) : ∀ i, i ≤ j + 1 → j < i - 1 + B.length → (∀ k, k + 1 < i → B.getD (j - k) 0 = 0) → csum P B j i = if i = 0 then 0 else P.getD (i - 1) 0 * B.getD (j - (i - 1)) 0
  | 0, _, _, _ => rfl
  | i + 1, h1, h2, h3 => by
    unfold csum
    rw [if_pos (by omega), if_neg (by omega), show i + 1 - 1 = i by omega]
    have hz : ∀ k, k ≤ i → csum P B j k = 0 := fun k hk => by
      induction k with
      | zero => rfl
      | succ k ih =>
        unfold csum
        rw [ih (by omega), if_pos (by omega), h3 k (by omega)]; grind
    rw [hz i (Nat.le_refl _), Rat.zero_add]

theorem PL.last {f : Rat → Rat} {n a : Nat} {P : List Rat} (hP : PL f n a P) (h : P ≠ []) : P.getD (P.length - 1) 0 ≠ 0 := by
  have h1 : tlen P P.length = P.length := by
    have := congrArg List.length hP.tr
    unfold ptrim at this
    rw [List.length_take] at this
    have := tlen_le P P.length
    omega
  have h2 : P.length ≠ 0 := fun h0 => h (List.length_eq_zero_iff.1 h0)
  have := tlen_last P P.length (by omega)
  rwa [h1] at this

theorem tlen_top {P : List Rat} (h : P ≠ []) (h0 : P.getD (P.length - 1) 0 ≠ 0) : ptrim P = P := by
  unfold ptrim
  obtain ⟨n, hn⟩ : ∃ n, P.length = n + 1 := ⟨P.length - 1, by have : P.length ≠ 0 := fun h1 => h (List.length_eq_zero_iff.1 h1); omega⟩
  rw [hn] at h0 ⊢
  unfold tlen
  rw [if_neg (by simpa using h0), ← hn, List.take_length]

theorem PL.mul_len {f g e : Rat → Rat} {n m l a b c : Nat} {P B R : List Rat} (hP : PL f n a P) (hB : PL g m b B) (hR : PL e l c R) (he : ∀ x, e x = f x * g x) (h1 : P ≠ []) (h2 : B ≠ []) : R.length = P.length + B.length - 1 := by
  have l1 : P.length ≠ 0 := fun h => h1 (List.length_eq_zero_iff.1 h)
  have l2 : B.length ≠ 0 := fun h => h2 (List.length_eq_zero_iff.1 h)
  have hl : (pmul P B).length = P.length + B.length - 1 := by unfold pmul; rw [pmulL_len, List.length_replicate]
  have hne : pmul P B ≠ [] := fun h => by rw [h] at hl; simp at hl; omega
  have htop : (pmul P B).getD ((pmul P B).length - 1) 0 = P.getD (P.length - 1) 0 * B.getD (B.length - 1) 0 := by
    rw [hl]
    unfold pmul
    rw [pmulL_get (by simp; omega) _ _ (Nat.le_refl _), csum_top _ _ (by omega) (by omega) (fun k hk => by rw [List.getD_eq_getElem?_getD, List.getElem?_eq_none (by omega)]; rfl), if_neg l1, show P.length + B.length - 1 - 1 - (P.length - 1) = B.length - 1 by omega]
    rw [List.getD_eq_getElem?_getD, List.getElem?_replicate]
    split <;> simp [Rat.zero_add]
  have hnz : (pmul P B).getD ((pmul P B).length - 1) 0 ≠ 0 := by
    rw [htop]
    intro h
    rcases Rat.mul_eq_zero.1 h with h | h
    · exact hP.last h1 h
    · exact hB.last h2 h
  have : R = pmul P B := by
    rw [← hR.tr, ← tlen_top hne hnz]
    exact ptrim_ext (ev_inj fun x => by rw [hR.ev, he, ev_pmul, hP.ev, hB.ev])
  rw [this, hl]

end Go.Proofs.YtdhidmcjglokcaaGreat
end

section
set_option linter.unusedVariables false
set_option linter.unusedSimpArgs false
set_option maxHeartbeats 8000000
set_option linter.unusedVariables false
set_option linter.unusedSimpArgs false
set_option maxRecDepth 100000
namespace Go.Proofs.YtdhidmcjglokcaaGreat
open Go Go.Abs Go.Abs.M Go.Proofs

theorem qrow (x : Rat) : ∃ (s t : Bool) (r p : Abs.Rows), (qc x).row = [.v (.bool s), .lst false r, .v (.bool t), .lst false p] ∧ IsR x s r t p := ⟨_, _, _, _, rfl, qc_isR x⟩

theorem pmul_row {x y : Rat} {a b : Nat} (h1 : Qs x a) (h2 : Qs y b) (h : a + b ≤ 68719476736) :
    Qs (x * y) (a + b) ∧ ACall Tryz.prog 68 [.val (.agg (qc x).row), .val (.agg (qc y).row)] ⟨[.val (.agg (qc (x * y)).row)], [none, none]⟩ := by
  refine ⟨mul_small h1 h2, ?_⟩
  obtain ⟨u, w, v, p, hr, c⟩ := pmul_call (qc_isR x) (qc_isR y) (h1.mono (by omega)) (h2.mono (by omega))
  rw [qc_row hr] at c
  exact c

theorem pneg_row {x : Rat} {a : Nat} (h1 : Qs x a) (h : a ≤ 68719476736) :
    Qs (-x) a ∧ ACall Tryz.prog 69 [.val (.agg (qc x).row)] ⟨[.val (.agg (qc (-x)).row)], [none]⟩ := by
  refine ⟨h1.neg, ?_⟩
  obtain ⟨u, w, hr, c⟩ := pneg_call (qc_isR x) (h1.mono (by omega))
  rw [qc_row hr] at c
  exact c

theorem inv_small {x : Rat} {a : Nat} (h0 : x ≠ 0) (h : Qs x a) : Qs x⁻¹ a := by
  obtain ⟨i1, i2⟩ := inv_nd h0
  obtain ⟨h1, h2⟩ := h
  refine ⟨?_, ?_⟩
  · rw [i1]; split <;> simpa using h2
  · have : (x⁻¹).den = x.num.natAbs := by split at i2 <;> omega
    rw [this]; exact h1

theorem pinv_row {x : Rat} {a : Nat} (h0 : x ≠ 0) (h1 : Qs x a) (h : a ≤ 68719476736) :
    Qs x⁻¹ a ∧ ACall Tryz.prog 67 [.val (.agg (qc x).row)] ⟨[.val (.agg (qc x⁻¹).row), .val (ti .i64 0)], [none]⟩ := by
  refine ⟨inv_small h0 h1, ?_⟩
  obtain ⟨u, w, v, p, hr, c⟩ := pinv_call (qc_isR x) h0 (h1.mono (by omega))
  rw [qc_row hr] at c
  exact c

end Go.Proofs.YtdhidmcjglokcaaGreat
end

section
set_option linter.unusedVariables false
set_option linter.unusedSimpArgs false
/-
  Derivatives of polynomials given by lists of coefficients.
-/
set_option linter.unusedVariables false
namespace Go.Abs

/-- Sum, multiple and product, by recursion. -/
def ladd : List Rat → List Rat → List Rat
  | [], Q => Q
  | c :: P, [] => c :: P
  | c :: P, d :: Q => (c + d) :: ladd P Q
def lsc (c : Rat) (P : List Rat) : List Rat := P.map (c * ·)
def lmul : List Rat → List Rat → List Rat
  | [], _ => []
  | c :: P, B => ladd (lsc c B) (0 :: lmul P B)
theorem ev_ladd : ∀ (P Q : List Rat) (x : Rat), ev (ladd P Q) x = ev P x + ev Q x
  | [], Q, x => by simp [ladd, ev, Rat.zero_add]
  | c :: P, [], x => by simp [ladd, ev, Rat.add_zero]
  | c :: P, d :: Q, x => by simp only [ladd, ev]; rw [ev_ladd P Q x]; grind
theorem ev_lsc (c : Rat) : ∀ (P : List Rat) (x : Rat), ev (lsc c P) x = c * ev P x
  | [], x => by simp [lsc, ev, Rat.mul_zero]
  | d :: P, x => by have := ev_lsc c P x; simp only [lsc, List.map_cons, ev] at this ⊢; rw [this]; grind
theorem ev_lmul : ∀ (P B : List Rat) (x : Rat), ev (lmul P B) x = ev P x * ev B x
  | [], B, x => by simp [lmul, ev, Rat.zero_mul]
  | c :: P, B, x => by
    simp only [lmul]
    rw [ev_ladd, ev_lsc]
    simp only [ev]
    rw [ev_lmul P B x]; grind
/-- A list of coefficients with the same values has the same coefficients. -/
theorem ev_coef {P Q : List Rat} (h : ∀ x, ev P x = ev Q x) (j : Nat) : P.getD j 0 = Q.getD j 0 := by
  have h0 := ev_zero (P := ladd P (lsc (-1) Q)) (fun x => by rw [ev_ladd, ev_lsc, h x]; grind) j
  have hl : ∀ (A B : List Rat) (j : Nat), (ladd A B).getD j 0 = A.getD j 0 + B.getD j 0 := fun A => by
    induction A with
    | nil => intro B j; simp [ladd, Rat.zero_add]
    | cons a A ih =>
      intro B j
      cases B with
      | nil => simp [ladd, Rat.add_zero]
      | cons b B =>
        cases j with
        | zero => simp [ladd]
        | succ j => simpa [ladd] using ih B j
  have hs : (lsc (-1) Q).getD j 0 = -1 * Q.getD j 0 := by
    rw [List.getD_eq_getElem?_getD, List.getD_eq_getElem?_getD, lsc, List.getElem?_map]
    cases Q[j]? with
    | none => simp [Rat.mul_zero]
    | some q => simp
  rw [hl, hs] at h0
  grind

end Go.Abs
end

section
set_option linter.unusedVariables false
set_option linter.unusedSimpArgs false
set_option maxHeartbeats 8000000
set_option linter.unusedVariables false
set_option linter.unusedSimpArgs false
set_option maxRecDepth 100000
namespace Go.Proofs.YtdhidmcjglokcaaGreat
open Go Go.Abs Go.Abs.M Go.Proofs

end Go.Proofs.YtdhidmcjglokcaaGreat
end

section
set_option linter.unusedVariables false
set_option linter.unusedSimpArgs false
/-
  Sizes of coefficients: a common denominator, numerators and denominator of at most s bits.
-/
set_option linter.unusedVariables false
namespace Go.Abs

theorem nd_of {q : Rat} {n d : Int} (hd : 0 < d) (h : q * (d : Rat) = (n : Rat)) : q.num.natAbs ≤ n.natAbs ∧ (q.den : Int) ≤ d := by
  have hd0 : (d : Rat) ≠ 0 := fun h0 => by rw [Rat.intCast_eq_zero_iff] at h0; omega
  have hq : Rat.divInt n d = q := by
    rw [Rat.divInt_eq_div, ← h, Rat.div_def, Rat.mul_assoc, Rat.mul_inv_cancel _ hd0, Rat.mul_one]
  obtain ⟨num, den, nz, red⟩ := q
  obtain ⟨m, hm0, h1, h2⟩ := Rat.divInt_num_den (by omega) hq
  have hm : 0 < m := by
    rcases Int.lt_trichotomy m 0 with h3 | h3 | h3
    · have : (den : Int) * m ≤ 0 := Int.mul_nonpos_of_nonneg_of_nonpos (by omega) (by omega)
      omega
    · exact absurd h3 hm0
    · exact h3
  refine ⟨?_, ?_⟩
  · show num.natAbs ≤ n.natAbs
    rw [h1, Int.natAbs_mul]
    exact Nat.le_mul_of_pos_right _ (by omega)
  · show (den : Int) ≤ d
    rw [h2]
    have : (den : Int) * 1 ≤ den * m := Int.mul_le_mul_of_nonneg_left (by omega) (by omega)
    omega

/-- Numbers with a common denominator. -/
structure CD (M d : Int) (f : Nat → Rat) : Prop where
  pos : 0 < d
  num : ∀ j, ∃ n : Int, -M ≤ n ∧ n ≤ M ∧ f j * (d : Rat) = (n : Rat)

def CF (s : Nat) (f : Nat → Rat) : Prop := ∃ d : Int, d ≤ 2 ^ s ∧ CD (2 ^ s) d f

theorem two_pow_mono {s t : Nat} (h : s ≤ t) : (2 : Int) ^ s ≤ 2 ^ t := by
  have := Nat.pow_le_pow_right (n := 2) (by omega) h
  exact_mod_cast this
theorem two_pow_pos (s : Nat) : (0 : Int) < 2 ^ s := by
  have := Nat.two_pow_pos s
  exact_mod_cast this

theorem CD.mono {M N d : Int} {f : Nat → Rat} (h : CD M d f) (hM : M ≤ N) : CD N d f :=
  ⟨h.pos, fun j => by obtain ⟨n, h1, h2, h3⟩ := h.num j; exact ⟨n, by omega, by omega, h3⟩⟩

theorem CF.mono {s t : Nat} {f : Nat → Rat} (h : CF s f) (hst : s ≤ t) : CF t f := by
  obtain ⟨d, h1, h2⟩ := h
  have := two_pow_mono hst
  exact ⟨d, by omega, h2.mono this⟩

theorem CF.congr {s : Nat} {f g : Nat → Rat} (h : CF s f) (e : ∀ j, f j = g j) : CF s g := by
  have : f = g := funext e
  exact this ▸ h

theorem CF.pick {s : Nat} {f : Nat → Rat} (h : CF s f) (p : Nat → Bool) : CF s (fun j => if p j = true then f j else 0) := by
  obtain ⟨d, h1, h2⟩ := h
  have := two_pow_pos s
  refine ⟨d, h1, h2.pos, fun j => ?_⟩
  by_cases hp : p j = true
  · rw [if_pos hp]; exact h2.num j
  · rw [if_neg hp]; exact ⟨0, by omega, by omega, by rw [Rat.zero_mul]; rfl⟩

theorem CF.zero (s : Nat) : CF s (fun _ => 0) := by
  have := two_pow_pos s
  exact ⟨1, by omega, by omega, fun j => ⟨0, by omega, by omega, by rw [Rat.zero_mul]; rfl⟩⟩

theorem abs_mul_le {a b M N : Int} (h1 : -M ≤ a) (h2 : a ≤ M) (h3 : -N ≤ b) (h4 : b ≤ N) : -(M * N) ≤ a * b ∧ a * b ≤ M * N := by
  have e1 : 0 ≤ (M - a) * (N - b) := Int.mul_nonneg (by omega) (by omega)
  have e2 : 0 ≤ (M + a) * (N + b) := Int.mul_nonneg (by omega) (by omega)
  have e3 : 0 ≤ (M - a) * (N + b) := Int.mul_nonneg (by omega) (by omega)
  have e4 : 0 ≤ (M + a) * (N - b) := Int.mul_nonneg (by omega) (by omega)
  constructor <;> grind

theorem CF.add {s t : Nat} {f g : Nat → Rat} (hf : CF s f) (hg : CF t g) : CF (s + t + 1) (fun j => f j + g j) := by
  obtain ⟨d, h1, h2⟩ := hf
  obtain ⟨e, h3, h4⟩ := hg
  have p1 := two_pow_pos s
  have p2 := two_pow_pos t
  have hd := h2.pos
  have he := h4.pos
  have e1 : (2 : Int) ^ (s + t + 1) = 2 * (2 ^ s * 2 ^ t) := by rw [Int.pow_succ, Int.pow_add]; omega
  rw [CF, e1]
  have b0 := abs_mul_le (a := d) (b := e) (M := 2 ^ s) (N := 2 ^ t) (by omega) (by omega) (by omega) (by omega)
  have bp : 0 < d * e := Int.mul_pos hd he
  refine ⟨d * e, by omega, bp, fun j => ?_⟩
  obtain ⟨n, n1, n2, n3⟩ := h2.num j
  obtain ⟨m, m1, m2, m3⟩ := h4.num j
  have b1 := abs_mul_le (a := n) (b := e) (M := 2 ^ s) (N := 2 ^ t) (by omega) (by omega) (by omega) (by omega)
  have b2 := abs_mul_le (a := d) (b := m) (M := 2 ^ s) (N := 2 ^ t) (by omega) (by omega) (by omega) (by omega)
  refine ⟨n * e + d * m, by omega, by omega, ?_⟩
  rw [Rat.intCast_add, Rat.intCast_mul, Rat.intCast_mul, Rat.intCast_mul, ← n3, ← m3]
  grind

theorem CF.neg {s : Nat} {f : Nat → Rat} (hf : CF s f) : CF s (fun j => -f j) := by
  obtain ⟨d, h1, h2⟩ := hf
  refine ⟨d, h1, h2.pos, fun j => ?_⟩
  obtain ⟨n, n1, n2, n3⟩ := h2.num j
  refine ⟨-n, by omega, by omega, ?_⟩
  rw [Rat.intCast_neg, ← n3]; grind

theorem CF.whole {n : Int} {s : Nat} (h1 : -2 ^ s ≤ n) (h2 : n ≤ 2 ^ s) : CF s (fun _ => (n : Rat)) := by
  have := two_pow_pos s
  exact ⟨1, by omega, by omega, fun j => ⟨n, h1, h2, by show (n : Rat) * 1 = n; rw [Rat.mul_one]⟩⟩

/-- Size of one of them. -/
theorem CF.nd {s : Nat} {f : Nat → Rat} (hf : CF s f) (j : Nat) : ((f j).num.natAbs : Int) ≤ 2 ^ s ∧ ((f j).den : Int) ≤ 2 ^ s := by
  obtain ⟨d, h1, h2⟩ := hf
  obtain ⟨n, n1, n2, n3⟩ := h2.num j
  obtain ⟨q1, q2⟩ := nd_of h2.pos n3
  exact ⟨by omega, by omega⟩
theorem CF.of_nd {s : Nat} {q : Rat} (h1 : (q.num.natAbs : Int) ≤ 2 ^ s) (h2 : (q.den : Int) ≤ 2 ^ s) : CF s (fun _ => q) := by
  have := q.den_pos
  refine ⟨q.den, h2, by omega, fun j => ⟨q.num, by omega, by omega, ?_⟩⟩
  have hd0 : ((q.den : Int) : Rat) ≠ 0 := fun h => by rw [Rat.intCast_eq_zero_iff] at h; omega
  have := Rat.num_divInt_den q
  rw [Rat.divInt_eq_div] at this
  have h3 : (q.num : Rat) / ((q.den : Int) : Rat) * ((q.den : Int) : Rat) = (q.num : Rat) := Rat.div_mul_cancel hd0
  rwa [this] at h3
/-- A list whose numbers are small one by one. -/
theorem CF.list {s : Nat} : ∀ (P : List Rat), (∀ q ∈ P, CF s (fun _ => q)) → CF (P.length * s) (fun j => P.getD j 0)
  | [], _ => (CF.zero _).congr fun j => by simp
  | q :: P, h => by
    have ih := CF.list P fun p hp => h p (List.mem_cons_of_mem _ hp)
    obtain ⟨d, h1, h2⟩ := h q (List.mem_cons_self ..)
    obtain ⟨e, h3, h4⟩ := ih
    obtain ⟨m, m1, m2, m3⟩ := h2.num 0
    have p1 := two_pow_pos s
    have p2 := two_pow_pos (P.length * s)
    have hd := h2.pos
    have he := h4.pos
    have b0 := abs_mul_le (a := e) (b := d) (M := 2 ^ (P.length * s)) (N := 2 ^ s) (by omega) (by omega) (by omega) (by omega)
    have b1 := abs_mul_le (a := e) (b := m) (M := 2 ^ (P.length * s)) (N := 2 ^ s) (by omega) (by omega) (by omega) (by omega)
    have bp : 0 < e * d := Int.mul_pos he hd
    rw [List.length_cons, Nat.succ_mul, CF, Int.pow_add]
    refine ⟨e * d, b0.2, bp, fun j => ?_⟩
    cases j with
    | zero =>
      refine ⟨e * m, b1.1, b1.2, ?_⟩
      rw [List.getD_cons_zero, Rat.intCast_mul, Rat.intCast_mul, ← m3]; grind
    | succ j =>
      obtain ⟨n, n1, n2, n3⟩ := h4.num j
      have b2 := abs_mul_le (a := n) (b := d) (M := 2 ^ (P.length * s)) (N := 2 ^ s) (by omega) (by omega) (by omega) (by omega)
      refine ⟨n * d, b2.1, b2.2, ?_⟩
      rw [List.getD_cons_succ, Rat.intCast_mul, Rat.intCast_mul, ← n3]; grind

/-- The coefficient of x^j of a product, the first i coefficients of the first factor used. -/
def cnv (f g : Nat → Rat) (j : Nat) : Nat → Rat
  | 0 => 0
  | i + 1 => cnv f g j i + if i ≤ j then f i * g (j - i) else 0

theorem CF.prod {s t l : Nat} {f g : Nat → Rat} (hf : CF s f) (hg : CF t g) {i : Nat} (hi : i ≤ 2 ^ l) : CF (s + t + l) (fun j => cnv f g j i) := by
  obtain ⟨d, h1, h2⟩ := hf
  obtain ⟨e, h3, h4⟩ := hg
  have p1 := two_pow_pos s
  have p2 := two_pow_pos t
  have p3 := two_pow_pos l
  have hd := h2.pos
  have he := h4.pos
  have b0 := abs_mul_le (a := d) (b := e) (M := 2 ^ s) (N := 2 ^ t) (by omega) (by omega) (by omega) (by omega)
  have bp : 0 < d * e := Int.mul_pos hd he
  have hk : ∀ (j k : Nat), ∃ n : Int, -((k : Int) * (2 ^ s * 2 ^ t)) ≤ n ∧ n ≤ (k : Int) * (2 ^ s * 2 ^ t) ∧ cnv f g j k * ((d * e : Int) : Rat) = (n : Rat) := fun j k => by
    induction k with
    | zero => exact ⟨0, by simp, by simp, by show 0 * _ = (0 : Rat); rw [Rat.zero_mul]⟩
    | succ k ih =>
      obtain ⟨n, n1, n2, n3⟩ := ih
      have e1 : ((k + 1 : Nat) : Int) * (2 ^ s * 2 ^ t) = (k : Int) * (2 ^ s * 2 ^ t) + 2 ^ s * 2 ^ t := by push_cast; grind
      have e2 : (0 : Int) ≤ 2 ^ s * 2 ^ t := Int.mul_nonneg (by omega) (by omega)
      rw [e1]
      by_cases hkj : k ≤ j
      · obtain ⟨x, x1, x2, x3⟩ := h2.num k
        obtain ⟨y, y1, y2, y3⟩ := h4.num (j - k)
        have b1 := abs_mul_le x1 x2 y1 y2
        refine ⟨n + x * y, by omega, by omega, ?_⟩
        unfold cnv
        rw [if_pos hkj, Rat.intCast_add, ← n3, Rat.intCast_mul, Rat.intCast_mul, ← x3, ← y3]; grind
      · refine ⟨n, by omega, by omega, ?_⟩
        unfold cnv
        rw [if_neg hkj, Rat.add_zero, n3]
  have hl : (i : Int) ≤ 2 ^ l := by exact_mod_cast hi
  have hle : (i : Int) * (2 ^ s * 2 ^ t) ≤ 2 ^ l * (2 ^ s * 2 ^ t) := Int.mul_le_mul_of_nonneg_right hl (Int.mul_nonneg (by omega) (by omega))
  have h1l : 1 * (2 ^ s * 2 ^ t) ≤ (2 : Int) ^ l * (2 ^ s * 2 ^ t) := Int.mul_le_mul_of_nonneg_right (by omega) (Int.mul_nonneg (by omega) (by omega))
  have e0 : (2 : Int) ^ (s + t + l) = 2 ^ l * (2 ^ s * 2 ^ t) := by rw [Int.pow_add, Int.pow_add]; grind
  rw [CF, e0]
  refine ⟨d * e, by omega, bp, fun j => ?_⟩
  obtain ⟨n, n1, n2, n3⟩ := hk j i
  exact ⟨n, by omega, by omega, n3⟩

/-- Two rows of numbers with the same denominator. -/
def CF2 (s : Nat) (f g : Nat → Rat) : Prop := ∃ d : Int, d ≤ 2 ^ s ∧ CD (2 ^ s) d f ∧ CD (2 ^ s) d g
theorem CF2.mono {s t : Nat} {f g : Nat → Rat} (h : CF2 s f g) (hst : s ≤ t) : CF2 t f g := by
  obtain ⟨d, h1, h2, h3⟩ := h
  have := two_pow_mono hst
  exact ⟨d, by omega, h2.mono this, h3.mono this⟩
theorem CF2.left {s : Nat} {f g : Nat → Rat} (h : CF2 s f g) : CF s f := by obtain ⟨d, h1, h2, h3⟩ := h; exact ⟨d, h1, h2⟩
theorem CF2.right {s : Nat} {f g : Nat → Rat} (h : CF2 s f g) : CF s g := by obtain ⟨d, h1, h2, h3⟩ := h; exact ⟨d, h1, h3⟩

/-- One round of a long division. -/
theorem CF2.round {s t : Nat} {f g b : Nat → Rat} {v : Rat} {n : Nat} (h : CF2 s f g) (hb : CF t b) (hv : b n * v = 1) (top i : Nat) :
    CF2 (s + t + 1) (fun j => f j + if i ≤ j then -(f top * v) * b (j - i) else 0) (fun j => if j = i then f top * v else g j) := by
  obtain ⟨d, h1, h2, h3⟩ := h
  obtain ⟨e, h4, h5⟩ := hb
  obtain ⟨m, m1, m2, m3⟩ := h5.num n
  have hd := h2.pos
  have he := h5.pos
  have p1 := two_pow_pos s
  have p2 := two_pow_pos t
  have he0 : (e : Rat) ≠ 0 := fun h => by rw [Rat.intCast_eq_zero_iff] at h; omega
  have hm0 : m ≠ 0 := fun h => by
    rw [h] at m3
    rcases Rat.mul_eq_zero.1 (show b n * (e : Rat) = 0 from m3) with h' | h'
    · rw [h', Rat.zero_mul] at hv; exact absurd hv (by decide)
    · exact he0 h'
  have e1 : (2 : Int) ^ (s + t + 1) = 2 * (2 ^ s * 2 ^ t) := by rw [Int.pow_succ, Int.pow_add]; omega
  have e2 : (0 : Int) ≤ 2 ^ s * 2 ^ t := Int.mul_nonneg (by omega) (by omega)
  -- with the sign of m
  have hs : ∃ (w : Int) (y : Nat → Int), 0 < w ∧ w ≤ 2 ^ t ∧ (∀ j, -2 ^ t ≤ y j ∧ y j ≤ 2 ^ t ∧ v * b j * (w : Rat) = (y j : Rat)) ∧ ∃ z : Int, -2 ^ t ≤ z ∧ z ≤ 2 ^ t ∧ v * (w : Rat) = (z : Rat) := by
    have hvm : v * (m : Rat) = (e : Rat) := by rw [← m3]; grind
    have hj : ∀ j, ∃ x : Int, -2 ^ t ≤ x ∧ x ≤ 2 ^ t ∧ v * b j * (m : Rat) = (x : Rat) := fun j => by
      obtain ⟨x, x1, x2, x3⟩ := h5.num j
      refine ⟨x, x1, x2, ?_⟩
      rw [← x3, ← hvm]; grind
    rcases Int.lt_or_le m 0 with hm | hm
    · refine ⟨-m, fun j => -(hj j).choose, by omega, by omega, fun j => ?_, -e, by omega, by omega, ?_⟩
      · obtain ⟨x1, x2, x3⟩ := (hj j).choose_spec
        show -2 ^ t ≤ -(hj j).choose ∧ -(hj j).choose ≤ 2 ^ t ∧ v * b j * ((-m : Int) : Rat) = ((-(hj j).choose : Int) : Rat)
        refine ⟨by omega, by omega, ?_⟩
        rw [Rat.intCast_neg, Rat.intCast_neg, ← x3]; grind
      · rw [Rat.intCast_neg, Rat.intCast_neg, ← hvm]; grind
    · exact ⟨m, fun j => (hj j).choose, by omega, by omega, fun j => (hj j).choose_spec, e, by omega, by omega, hvm⟩
  obtain ⟨w, y, w1, w2, hy, z, z1, z2, z3⟩ := hs
  obtain ⟨x, x1, x2, x3⟩ := h2.num top
  have bp : 0 < d * w := Int.mul_pos hd w1
  have b0 := abs_mul_le (a := d) (b := w) (M := 2 ^ s) (N := 2 ^ t) (by omega) (by omega) (by omega) (by omega)
  rw [CF2, e1]
  refine ⟨d * w, by omega, ⟨bp, fun j => ?_⟩, ⟨bp, fun j => ?_⟩⟩
  · obtain ⟨a, a1, a2, a3⟩ := h2.num j
    have b1 := abs_mul_le (a := a) (b := w) a1 a2 (N := 2 ^ t) (by omega) (by omega)
    by_cases hij : i ≤ j
    · obtain ⟨y1, y2, y3⟩ := hy (j - i)
      have b2 := abs_mul_le x1 x2 y1 y2
      refine ⟨a * w - x * y (j - i), by omega, by omega, ?_⟩
      rw [if_pos hij, Rat.intCast_sub, Rat.intCast_mul, Rat.intCast_mul, Rat.intCast_mul, ← a3, ← x3, ← y3]; grind
    · refine ⟨a * w, by omega, by omega, ?_⟩
      rw [if_neg hij, Rat.intCast_mul, Rat.intCast_mul, ← a3]; grind
  · by_cases hij : j = i
    · have b2 := abs_mul_le x1 x2 z1 z2
      refine ⟨x * z, by omega, by omega, ?_⟩
      rw [if_pos hij, Rat.intCast_mul, Rat.intCast_mul, ← x3, ← z3]; grind
    · obtain ⟨a, a1, a2, a3⟩ := h3.num j
      have b1 := abs_mul_le (a := a) (b := w) a1 a2 (N := 2 ^ t) (by omega) (by omega)
      refine ⟨a * w, by omega, by omega, ?_⟩
      rw [if_neg hij, Rat.intCast_mul, Rat.intCast_mul, ← a3]; grind
end Go.Abs
end

section
set_option linter.unusedVariables false
set_option linter.unusedSimpArgs false
set_option maxHeartbeats 8000000
set_option linter.unusedVariables false
set_option linter.unusedSimpArgs false
set_option maxRecDepth 100000
namespace Go.Proofs.YtdhidmcjglokcaaGreat
open Go Go.Abs Go.Abs.M Go.Proofs

/-- A long division after j of its k rounds: what is left, and the quotient. -/
def dvT (B : List Rat) (n : Nat) (v : Rat) (P : List Rat) (k : Nat) : Nat → List Rat × List Rat
  | 0 => (P, List.replicate k 0)
  | j + 1 => (pacc (dvT B n v P k j).1 (-((dvT B n v P k j).1.getD (k - 1 - j + n) 0 * v)) B (k - 1 - j), (dvT B n v P k j).2.set (k - 1 - j) ((dvT B n v P k j).1.getD (k - 1 - j + n) 0 * v))

theorem dvT_len (B : List Rat) (n : Nat) (v : Rat) (P : List Rat) (k : Nat) : ∀ j, (dvT B n v P k j).1.length = P.length ∧ (dvT B n v P k j).2.length = k
  | 0 => ⟨rfl, List.length_replicate⟩
  | j + 1 => by
    obtain ⟨h1, h2⟩ := dvT_len B n v P k j
    refine ⟨?_, ?_⟩
    · show (pacc _ _ _ _).length = _
      unfold pacc
      rw [accL_len, h1]
    · show (List.set _ _ _).length = _
      rw [List.length_set, h2]

theorem dvT_spec {B : List Rat} {n : Nat} {v : Rat} {P : List Rat} {k : Nat} (hB : B.length = n + 1) (hv : B.getD n 0 * v = 1) (hk : P.length = k + n) : ∀ j, j ≤ k →
    (∀ x, Abs.ev (dvT B n v P k j).1 x + Abs.ev (dvT B n v P k j).2 x * Abs.ev B x = Abs.ev P x) ∧ (∀ i, n + (k - j) ≤ i → (dvT B n v P k j).1.getD i 0 = 0) ∧ (∀ i, i < k - j → (dvT B n v P k j).2.getD i 0 = 0)
  | 0, _ => by
    refine ⟨fun x => ?_, fun i hi => ?_, fun i hi => ?_⟩
    · show Abs.ev P x + Abs.ev (List.replicate k 0) x * _ = _
      rw [ev_zeros]; grind
    · show P.getD i 0 = 0
      rw [List.getD_eq_getElem?_getD, List.getElem?_eq_none (by omega)]; rfl
    · show (List.replicate k (0 : Rat)).getD i 0 = 0
      rw [List.getD_eq_getElem?_getD, List.getElem?_replicate]; split <;> rfl
  | j + 1, hj => by
    obtain ⟨h1, h2, h3⟩ := dvT_spec hB hv hk j (by omega)
    obtain ⟨l1, l2⟩ := dvT_len B n v P k j
    have e : dvT B n v P k (j + 1) = (pacc (dvT B n v P k j).1 (-((dvT B n v P k j).1.getD (k - 1 - j + n) 0 * v)) B (k - 1 - j), (dvT B n v P k j).2.set (k - 1 - j) ((dvT B n v P k j).1.getD (k - 1 - j + n) 0 * v)) := rfl
    generalize dvT B n v P k j = s at *
    obtain ⟨R, Q⟩ := s
    rw [e]
    obtain ⟨i, hi⟩ : ∃ i, i = k - 1 - j := ⟨_, rfl⟩
    rw [← hi]
    dsimp only at h1 h2 h3 l1 l2 ⊢
    generalize hc : R.getD (i + n) 0 * v = c
    refine ⟨fun x => ?_, fun t ht => ?_, fun t ht => ?_⟩
    · rw [ev_pacc _ _ _ _ _ (by omega), ev_set _ _ _ _ (by omega), h3 i (by omega)]
      have := h1 x
      grind
    · rw [pacc_get _ _ _ _ _ (by omega), if_pos (by omega)]
      by_cases h : t = i + n
      · subst h
        rw [show i + n - i = n by omega, ← hc]
        grind
      · rw [h2 t (by omega), List.getD_eq_getElem?_getD (l := B), List.getElem?_eq_none (by omega)]
        simp [Rat.mul_zero, Rat.add_zero]
    · rw [List.getD_eq_getElem?_getD, List.getElem?_set, if_neg (by omega), ← List.getD_eq_getElem?_getD, h3 t (by omega)]

theorem dvT_cf {B : List Rat} {n : Nat} {v : Rat} {P : List Rat} {k s t : Nat} (hB : B.length = n + 1) (hv : B.getD n 0 * v = 1) (hk : P.length = k + n) (hP : CF s (fun j => P.getD j 0)) (hb : CF t (fun j => B.getD j 0)) : ∀ j, j ≤ k →
    CF2 (s + j * (t + 1)) (fun i => (dvT B n v P k j).1.getD i 0) (fun i => (dvT B n v P k j).2.getD i 0)
  | 0, _ => by
    obtain ⟨d, h1, h2⟩ := hP
    have := two_pow_pos s
    rw [Nat.zero_mul, Nat.add_zero]
    refine ⟨d, h1, h2, h2.pos, fun j => ⟨0, by omega, by omega, ?_⟩⟩
    show (List.replicate k (0 : Rat)).getD j 0 * _ = _
    rw [List.getD_eq_getElem?_getD, List.getElem?_replicate]
    split
    · exact Rat.zero_mul _
    · exact Rat.zero_mul _
  | j + 1, hj => by
    have ih := dvT_cf hB hv hk hP hb j (by omega)
    obtain ⟨l1, l2⟩ := dvT_len B n v P k j
    have e : dvT B n v P k (j + 1) = (pacc (dvT B n v P k j).1 (-((dvT B n v P k j).1.getD (k - 1 - j + n) 0 * v)) B (k - 1 - j), (dvT B n v P k j).2.set (k - 1 - j) ((dvT B n v P k j).1.getD (k - 1 - j + n) 0 * v)) := rfl
    rw [e]
    have h := ih.round hb hv (k - 1 - j + n) (k - 1 - j)
    rw [show s + j * (t + 1) + t + 1 = s + (j + 1) * (t + 1) by rw [Nat.succ_mul]; omega] at h
    have e1 : (fun i => (pacc (dvT B n v P k j).1 (-((dvT B n v P k j).1.getD (k - 1 - j + n) 0 * v)) B (k - 1 - j)).getD i 0) = fun i => (dvT B n v P k j).1.getD i 0 + if k - 1 - j ≤ i then -((dvT B n v P k j).1.getD (k - 1 - j + n) 0 * v) * B.getD (i - (k - 1 - j)) 0 else 0 := funext fun i => pacc_get _ _ _ _ _ (by omega)
    have e2 : (fun i => ((dvT B n v P k j).2.set (k - 1 - j) ((dvT B n v P k j).1.getD (k - 1 - j + n) 0 * v)).getD i 0) = fun i => if i = k - 1 - j then (dvT B n v P k j).1.getD (k - 1 - j + n) 0 * v else (dvT B n v P k j).2.getD i 0 := funext fun i => by
      rw [List.getD_eq_getElem?_getD, List.getElem?_set]
      by_cases h : k - 1 - j = i
      · rw [if_pos h, if_pos h.symm, if_pos (by omega)]; rfl
      · rw [if_neg h, if_neg fun h' => h h'.symm, List.getD_eq_getElem?_getD]
    show CF2 _ (fun i => (pacc _ _ _ _).getD i 0) (fun i => (List.set _ _ _).getD i 0)
    rw [e1, e2]
    exact h

theorem bits_words (s : Nat) : (2 : Int) ^ s < 4294967296 ^ (s / 32 + 1) := by
  obtain ⟨t, ht⟩ : ∃ t, t = 32 * (s / 32 + 1) := ⟨_, rfl⟩
  have h1 : (2 : Nat) ^ s < 2 ^ t := Nat.pow_lt_pow_right (by omega) (by omega)
  have h2 : (2 : Int) ^ s < 2 ^ t := by exact_mod_cast h1
  rw [ht, Int.pow_mul, show ((2 : Int) ^ 32) = 4294967296 from by decide] at h2
  exact h2

theorem int_pow_mono {b : Int} (hb : 1 ≤ b) {m k : Nat} (h : m ≤ k) : b ^ m ≤ b ^ k := by
  induction k with
  | zero => rw [Nat.le_zero.1 h]; omega
  | succ k ih =>
    rcases Nat.lt_or_ge k m with h1 | h1
    · rw [show m = k + 1 by omega]; omega
    · have h2 := ih h1
      have h3 : (0 : Int) ≤ b ^ k := Int.le_of_lt (Int.pow_pos (by omega))
      have h4 : b ^ k * 1 ≤ b ^ k * b := Int.mul_le_mul_of_nonneg_left hb h3
      rw [Int.pow_succ]; omega

theorem cf_qs {s : Nat} {f : Nat → Rat} (h : CF s f) (j : Nat) : Qs (f j) (s / 32 + 1) := by
  obtain ⟨h1, h2⟩ := h.nd j
  have := bits_words s
  exact ⟨nl_le_of (by omega), nl_le_of (by omega)⟩

theorem cf_qsl {s : Nat} {P : List Rat} (h : CF s (fun j => P.getD j 0)) : ∀ q ∈ P, Qs q (s / 32 + 1) := fun q hq => by
  obtain ⟨j, hj⟩ := List.getElem?_of_mem hq
  have := cf_qs h j
  rw [List.getD_eq_getElem?_getD, hj] at this
  exact this

theorem cf_of_qs {k : Nat} {q : Rat} (h : Qs q k) : CF (32 * k) (fun _ => q) := by
  have e : (2 : Int) ^ (32 * k) = 4294967296 ^ k := by rw [Int.pow_mul, show ((2 : Int) ^ 32) = 4294967296 from by decide]
  have hm : ∀ m, nl m ≤ k → (m : Int) ≤ 2 ^ (32 * k) := fun m hm => by
    have h1 := lt_nl m
    have h3 : (4294967296 : Int) ^ nl m ≤ 4294967296 ^ k := int_pow_mono (by omega) hm
    omega
  exact CF.of_nd (hm _ h.1) (hm _ h.2)

theorem csum_cnv (P B : List Rat) (j : Nat) : ∀ i, csum P B j i = cnv (fun k => P.getD k 0) (fun k => B.getD k 0) j i
  | 0 => rfl
  | i + 1 => by unfold csum cnv; rw [csum_cnv P B j i]

theorem pmul_get (P B : List Rat) (j : Nat) : (pmul P B).getD j 0 = csum P B j P.length := by
  unfold pmul
  rw [pmulL_get (by simp; omega) _ _ (Nat.le_refl _), List.getD_eq_getElem?_getD, List.getElem?_replicate]
  split <;> simp [Rat.zero_add]

/-- P is the list of the polynomial f: trimmed, at most n coefficients, a common denominator, s bits. -/
structure PB (f : Rat → Rat) (n s : Nat) (P : List Rat) : Prop where
  tr : ptrim P = P
  ev : ∀ x, Abs.ev P x = f x
  len : P.length ≤ n
  cf : CF s (fun j => P.getD j 0)

theorem PB.pl {f : Rat → Rat} {n s : Nat} {P : List Rat} (h : PB f n s P) : PL f n (s / 32 + 1) P := ⟨h.tr, h.ev, h.len, cf_qsl h.cf⟩
theorem PB.mono {f : Rat → Rat} {n s m t : Nat} {P : List Rat} (h : PB f n s P) (h1 : n ≤ m) (h2 : s ≤ t) : PB f m t P := ⟨h.tr, h.ev, Nat.le_trans h.len h1, h.cf.mono h2⟩
theorem PB.congr {f g : Rat → Rat} {n s : Nat} {P : List Rat} (h : PB f n s P) (e : ∀ x, f x = g x) : PB g n s P := ⟨h.tr, fun x => by rw [h.ev, e], h.len, h.cf⟩
theorem PB.of_pl {f : Rat → Rat} {n k s : Nat} {P L : List Rat} (h : PL f n k P) (hL : ∀ x, Abs.ev L x = f x) (hc : CF s (fun j => L.getD j 0)) : PB f n s P :=
  ⟨h.tr, h.ev, h.len, hc.congr fun j => (ev_coef (fun x => by rw [hL, h.ev]) j)⟩
theorem PB.of_trim {f : Rat → Rat} {n s : Nat} {P : List Rat} (h1 : ∀ x, Abs.ev P x = f x) (h2 : P.length ≤ n) (h3 : CF s (fun j => P.getD j 0)) : PB f n s (ptrim P) :=
  ⟨ptrim_idem P, fun x => by rw [ev_trim, h1], Nat.le_trans (ptrim_len P) h2, h3.congr fun j => (ptrim_get P j).symm⟩
theorem PB.of_pl_any {f : Rat → Rat} {n k : Nat} {P : List Rat} (h : PL f n k P) : PB f n (n * (32 * k)) P :=
  ⟨h.tr, h.ev, h.len, (CF.list P fun q hq => cf_of_qs (h.sz q hq)).mono (Nat.mul_le_mul_right _ h.len)⟩

theorem pb_add {f g : Rat → Rat} {n m s t : Nat} {P B : List Rat} (hP : PB f n s P) (hB : PB g m t B) (hn : n ≤ 1000) (hm : m ≤ 1000) (hs : s + t ≤ 2000000000) :
    ∃ R, PB (fun x => f x + g x) (max n m) (s + t + 1) R ∧ ACall Tryz.prog 16 [.val (tl (ur P)), .val (tl (ur B))] ⟨[.val (tl (ur R))], [none, none]⟩ := by
  obtain ⟨R, hR, c⟩ := pl_add hP.pl hB.pl (by omega) hn hm (by omega)
  refine ⟨R, PB.of_pl (L := pshift P 1 B 0) hR (fun x => ?_) ((hP.cf.add hB.cf).congr fun j => ?_), c⟩
  · rw [ev_shift, hP.ev, hB.ev]; grind
  · rw [pshift_get, if_pos (Nat.zero_le _), Nat.sub_zero, Rat.one_mul]

theorem pb_mul {f g : Rat → Rat} {n m s t : Nat} (l : Nat) {P B : List Rat} (hP : PB f n s P) (hB : PB g m t B) (hl : n ≤ 2 ^ l) (hn : n + m ≤ 1000) (hs : s + t ≤ 2000000000) :
    ∃ R, PB (fun x => f x * g x) (n + m - 1) (s + t + l) R ∧ ACall Tryz.prog 17 [.val (tl (ur P)), .val (tl (ur B))] ⟨[.val (tl (ur R))], [none, none]⟩ := by
  obtain ⟨R, hR, c⟩ := pl_mul hP.pl hB.pl hn (by omega)
  refine ⟨R, PB.of_pl (L := pmul P B) hR (fun x => ?_) ((hP.cf.prod hB.cf (i := P.length) (Nat.le_trans hP.len hl)).congr fun j => ?_), c⟩
  · rw [ev_pmul, hP.ev, hB.ev]
  · rw [pmul_get, csum_cnv]

theorem PB.nil (s : Nat) : PB (fun _ => 0) 0 s [] := ⟨rfl, fun _ => rfl, Nat.le_refl _, (CF.zero s).congr fun j => by simp⟩
theorem PB.inj {f g : Rat → Rat} {n k m l : Nat} {P Q : List Rat} (h1 : PB f n k P) (h2 : PB g m l Q) (h : ∀ x, f x = g x) : P = Q := h1.pl.inj h2.pl h
end Go.Proofs.YtdhidmcjglokcaaGreat
end

section
set_option linter.unusedVariables false
set_option linter.unusedSimpArgs false
set_option maxHeartbeats 8000000
set_option linter.unusedVariables false
set_option linter.unusedSimpArgs false
set_option maxRecDepth 100000
namespace Go.Proofs.YtdhidmcjglokcaaGreat
open Go Go.Abs Go.Abs.M Go.Proofs

theorem udivmod_zero (P : List Rat) : ACall Tryz.prog 23 [.val (tl (ur P)), .val (tl [])] ⟨[.val (tl []), .val (tl []), .val (ti .i64 10)], [none, none]⟩ := by
  obtain ⟨X, hX⟩ : ∃ Y, Y = ur P := ⟨_, rfl⟩
  rw [← hX]
  refine callZ ccOk mixed [.val, .val, .val] Tryz.func23 rfl rfl (by kernel_rfl) fun zwrap zadd zsub zmul zquo zrem zshl zshr zband zbor zbxor zbandn zeq zne zlt zle znot zbeq zbne zmax zmin znat zinb zofN zidx zneq znadd zdif zcut zroom zmkok zlen znth zsetr zisI zgetI zsetI zfit zpart zext zsetg zrep zwide zall zmok zmget zmset zW zth A L F hS hF => ?_
  have e1 : zeq (zofN (zlen [])) 0 = true := by rw [hS.eq, hS.ofN, hS.len]; rfl
  cbv
  refine bT e1 ?_
  exact fin3w hF (TLe.drop _ _) (TLe.drop _ _) (TVLe.refl _)

theorem ur_wide (P : List Rat) : ((ur P).all fun r => r.length == 4) = true := by
  refine List.all_eq_true.2 fun r hr => ?_
  obtain ⟨c, _, rfl⟩ := List.mem_map.1 hr
  rfl

/-- The dividend is shorter than the divisor. -/
theorem udivmod_short (P B : List Rat) (h : P.length < B.length) (hl : B.length ≤ 1000) : ACall Tryz.prog 23 [.val (tl (ur P)), .val (tl (ur B))] ⟨[.val (tl []), .val (tl (ur P)), .val (ti .i64 0)], [none, none]⟩ := by
  have lX := ur_len P
  have lY := ur_len B
  have wX := ur_wide P
  generalize P.length = m at *
  generalize B.length = l at *
  generalize ur P = X at *
  generalize ur B = Y at *
  refine callZ ccOk mixed [.val, .val, .val] Tryz.func23 rfl rfl (by kernel_rfl) fun zwrap zadd zsub zmul zquo zrem zshl zshr zband zbor zbxor zbandn zeq zne zlt zle znot zbeq zbne zmax zmin znat zinb zofN zidx zneq znadd zdif zcut zroom zmkok zlen znth zsetr zisI zgetI zsetI zfit zpart zext zsetg zrep zwide zall zmok zmget zmset zW zth A L F hS hF => ?_
  obtain ⟨M, hM, eM⟩ : ∃ M : Int, M = (m : Int) ∧ zofN (zlen X) = M := ⟨_, rfl, by rw [hS.ofN, hS.len, lX]⟩
  obtain ⟨N, hN, eN⟩ : ∃ N : Int, N + 1 = (l : Int) ∧ zwrap .i64 (zsub (zofN (zlen Y)) 1) = N := ⟨(l : Int) - 1, by omega, by rw [hS.ofN, hS.len, lY, hS.sub, hS.wrap, wrap_i64 (by omega) (by omega)]⟩
  have e1 : zeq (zofN (zlen Y)) 0 = false := by rw [hS.eq, hS.ofN, hS.len, lY]; exact decide_eq_false (by omega)
  have eMn : znat M = m := by rw [hS.nat, hM, Int.toNat_natCast]
  have k0 : zmkok M M 64 = true := by rw [hS.mkok]; exact decide_eq_true (by unfold capBytes; omega)
  obtain ⟨R0, hR0, r0⟩ : ∃ R0, R0 = List.replicate m rawZ ∧ zrep m [.v (.bool false), .lst true [], .v (.bool false), .lst true []] = R0 := ⟨_, rfl, by rw [hS.rep]; rfl⟩
  have hR0l : R0.length = m := by rw [hR0, List.length_replicate]
  have f1 : zfit 0 m R0 = true := by rw [hS.fit, hR0l]; exact decide_eq_true (by omega)
  have f2 : zwide 4 X = true := by rw [hS.wide]; exact wX
  have eMo : zofN m = M := by rw [hS.ofN, hM]
  have f3 : zle M M = true := by rw [hS.le]; exact decide_eq_true (Int.le_refl _)
  have f0 : zsetg R0 0 X = X := by rw [hS.setg]; unfold setRange; rw [List.take_zero, List.nil_append, Nat.zero_add, lX, ← hR0l, List.drop_length, List.append_nil]
  have f4 : zfit 0 m X = true := by rw [hS.fit, lX]; exact decide_eq_true (by omega)
  have f5 : zpart X 0 m = X := by rw [hS.part, ← lX, List.drop_zero, List.take_length]
  have c1 : zle M N = true := by rw [hS.le]; exact decide_eq_true (by omega)
  cbv
  have hM : M = (m : Int) := hM
  have hN : N + 1 = (l : Int) := hN
  refine bF e1 ?_
  rw [eM, eMn, r0]
  refine nd (k0) ?_
  refine nd (f1) ?_
  refine nd (f2) ?_
  rw [eMo]
  refine nd (f3) ?_
  rw [f0, eN]
  refine bT (c1) ?_
  refine nd (f4) ?_
  rw [f5]
  exact fin3w hF (TLe.drop _ _) (TVLe.refl _) (TVLe.refl _)

def udvSt (Y R Q : Abs.Rows) (m k : Nat) (s2 : Bool) (r2 : Abs.Rows) (t2 : Bool) (p2 : Abs.Rows) (N I : Int) : St := mkSt 76 [.junk, .c (.t (.lst false Y)), .junk, .junk, .junk, .junk, .junk, .c (.sl 2 0 m false), vi .i64 N, .c (.ptr 5 0 0), .junk, .c (.sl 6 0 k false), vi .i64 I] [none, none, some (.rows 4 R true false), none, none, some (.var [.t (.v (.bool s2)), .t (.lst false r2), .t (.v (.bool t2)), .t (.lst false p2)]), some (.rows 4 Q true false)]

theorem udivmod_long (P B : List Rat) (n k a b : Nat) (hk : P.length = k + n) (hBl : B.length = n + 1) (hB : B.getD n 0 ≠ 0) (hkn : k + n ≤ 999) (hk1 : 1 ≤ k)
    (hsz : ∀ j, j ≤ k → ∀ q ∈ (dvT B n (B.getD n 0)⁻¹ P k j).1, Qs q a) (h2 : ∀ q ∈ B, Qs q b) (hs : a + 2 * b ≤ 68719476736) :
    ACall Tryz.prog 23 [.val (tl (ur P)), .val (tl (ur B))] ⟨[.val (tl (ur (ptrim (dvT B n (B.getD n 0)⁻¹ P k k).2))), .val (tl (ur (ptrim ((dvT B n (B.getD n 0)⁻¹ P k k).1.take n)))), .val (ti .i64 0)], [none, none]⟩ := by
  obtain ⟨m, hm⟩ : ∃ m, m = k + n := ⟨_, rfl⟩
  obtain ⟨l, hl2⟩ : ∃ m, m = n + 1 := ⟨_, rfl⟩
  obtain ⟨L, hL⟩ : ∃ L, L = B.getD n 0 := ⟨_, rfl⟩
  have hBi : B[n]? = some L := by rw [hL, List.getD_eq_getElem?_getD, List.getElem?_eq_getElem (by omega)]; rfl
  rw [← hL] at hB hsz ⊢
  have hLb := h2 L (List.mem_of_getElem? hBi)
  obtain ⟨hLi, ci⟩ := pinv_row hB hLb (by omega)
  have cz := uzeros_call k (by omega)
  obtain ⟨v, hv⟩ : ∃ v, v = L⁻¹ := ⟨_, rfl⟩
  rw [← hv] at ci hLi hsz ⊢
  obtain ⟨T1, hT1⟩ : ∃ T, T = ur (ptrim (dvT B n v P k k).2) := ⟨_, rfl⟩
  obtain ⟨T2, hT2⟩ : ∃ T, T = ur (ptrim ((dvT B n v P k k).1.take n)) := ⟨_, rfl⟩
  rw [← hT1, ← hT2]
  obtain ⟨s, t, r, p, hrow, _⟩ := qrow L
  obtain ⟨s2, t2, r2, p2, hrow2, _⟩ := qrow v
  rw [hrow, hrow2] at ci
  have hYn := ur_get hBi
  rw [hrow] at hYn
  have lX := ur_len P
  have lY := ur_len B
  have wX := ur_wide P
  obtain ⟨X, hX⟩ : ∃ X, X = ur P := ⟨_, rfl⟩
  obtain ⟨Y, hY⟩ : ∃ X, X = ur B := ⟨_, rfl⟩
  obtain ⟨Z, hZ⟩ : ∃ X, X = ur (List.replicate k 0) := ⟨_, rfl⟩
  obtain ⟨K, hK⟩ : ∃ K : Int, K = (k : Int) := ⟨_, rfl⟩
  have hZl : Z.length = k := by rw [hZ, ur_len, List.length_replicate]
  rw [← hK, ← hZ] at cz
  rw [← hX, hk, ← hm] at lX
  rw [← hY, hBl, ← hl2] at lY
  rw [← hY] at hYn
  rw [← hX] at wX
  rw [← hX, ← hY]
  refine callZ ccOk mixed [.val, .val, .val] Tryz.func23 rfl rfl (by kernel_rfl) fun zwrap zadd zsub zmul zquo zrem zshl zshr zband zbor zbxor zbandn zeq zne zlt zle znot zbeq zbne zmax zmin znat zinb zofN zidx zneq znadd zdif zcut zroom zmkok zlen znth zsetr zisI zgetI zsetI zfit zpart zext zsetg zrep zwide zall zmok zmget zmset zW zth A L F hS hF => ?_
  obtain ⟨M, hM, eM⟩ : ∃ M : Int, M = (m : Int) ∧ zofN (zlen X) = M := ⟨_, rfl, by rw [hS.ofN, hS.len, lX]⟩
  obtain ⟨N, hN, eN⟩ : ∃ N : Int, N + 1 = (l : Int) ∧ zwrap .i64 (zsub (zofN (zlen Y)) 1) = N := ⟨(l : Int) - 1, by omega, by rw [hS.ofN, hS.len, lY, hS.sub, hS.wrap, wrap_i64 (by omega) (by omega)]⟩
  have e1 : zeq (zofN (zlen Y)) 0 = false := by rw [hS.eq, hS.ofN, hS.len, lY]; exact decide_eq_false (by omega)
  have eMn : znat M = m := by rw [hS.nat, hM, Int.toNat_natCast]
  have k0 : zmkok M M 64 = true := by rw [hS.mkok]; exact decide_eq_true (by unfold capBytes; omega)
  obtain ⟨R0, hR0, r0⟩ : ∃ R0, R0 = List.replicate m rawZ ∧ zrep m [.v (.bool false), .lst true [], .v (.bool false), .lst true []] = R0 := ⟨_, rfl, by rw [hS.rep]; rfl⟩
  have hR0l : R0.length = m := by rw [hR0, List.length_replicate]
  have f1 : zfit 0 m R0 = true := by rw [hS.fit, hR0l]; exact decide_eq_true (by omega)
  have f2 : zwide 4 X = true := by rw [hS.wide]; exact wX
  have eMo : zofN m = M := by rw [hS.ofN, hM]
  have f3 : zle M M = true := by rw [hS.le]; exact decide_eq_true (Int.le_refl _)
  have f0 : zsetg R0 0 X = X := by rw [hS.setg]; unfold setRange; rw [List.take_zero, List.nil_append, Nat.zero_add, lX, ← hR0l, List.drop_length, List.append_nil]
  have f4 : zfit 0 m X = true := by rw [hS.fit, lX]; exact decide_eq_true (by omega)
  have f5 : zpart X 0 m = X := by rw [hS.part, ← lX, List.drop_zero, List.take_length]
  have c1 : zle M N = false := by rw [hS.le]; exact decide_eq_false (by omega)
  have hNn : N = (n : Int) := by omega
  have g1 : zle 0 N = true := by rw [hS.le]; exact decide_eq_true (by omega)
  have hz : znth Y (znat N) = some [.v (.bool s), .lst false r, .v (.bool t), .lst false p] := by rw [hS.nat, hNn, Int.toNat_natCast, hS.nth, hYn]
  have eK : zwrap .i64 (zsub M N) = K := by rw [hS.sub, hS.wrap, wrap_i64 (by omega) (by omega)]; omega
  have lz : zlen Z = k := by rw [hS.len, hZl]
  cbv
  have hM : M = (m : Int) := hM
  have hN : N + 1 = (l : Int) := hN
  refine bF e1 ?_
  rw [eM, eMn, r0]
  refine nd (k0) ?_
  refine nd (f1) ?_
  refine nd (f2) ?_
  rw [eMo]
  refine nd (f3) ?_
  rw [f0, eN]
  refine bF c1 ?_
  rw [hz]
  cbv
  refine nd (g1) ?_
  refine ⟨_, hS.call (ci), ?_⟩
  cbv
  rw [eM, eK]
  refine ⟨_, hS.call (cz), ?_⟩
  cbv
  have hNn : N = (n : Int) := hNn
  obtain ⟨I0, hI0, eI0⟩ : ∃ I : Int, I + 1 = (k : Int) ∧ zwrap .i64 (zsub (zofN (zlen Z)) 1) = I := ⟨(k : Int) - 1, by omega, by rw [hS.ofN, lz, hS.sub, hS.wrap, wrap_i64 (by omega) (by omega)]⟩
  have eI1 : zwrap .i64 (zsub (zofN k) 1) = I0 := by rw [← lz]; exact eI0
  clear hM eM eN e1 eMn k0 r0 hR0l hR0 f1 f2 eMo f3 f0 f4 f5 c1 hz eK eI0 lX lY wX hYn ci cz g1
  refine loopZ ccOk mixed hS (fun (i : Nat) s' => ∃ (j : Nat) (I : Int) (R Q : Abs.Rows), I + 1 = i ∧ i + j = k ∧ R = ur (dvT B n v P k j).1 ∧ Q = ur (dvT B n v P k j).2 ∧ s' = udvSt Y R Q m k s2 r2 t2 p2 N I) (n := k) (s0 := udvSt Y X Z m k s2 r2 t2 p2 N I0) (le_of ?_ ?_) rfl (by show 2 ≤ 7; omega) ?_ ?_
  · simp [leT, udvSt, mkSt, vi, lz, eI1]
  · simp [leH, udvSt, mkSt]
  · exact ⟨0, I0, X, Z, hI0, by omega, hX, hZ, rfl⟩
  · rintro i s1 ⟨j, I, R, Q, hI, hij, hR, hQ, hs1⟩
    obtain ⟨dl1, dl2⟩ := dvT_len B n v P k j
    have hRl : R.length = m := by rw [hR, ur_len, dl1, hk, hm]
    have hQl : Q.length = k := by rw [hQ, ur_len, dl2]
    have f4 : zfit 0 m R = true := by rw [hS.fit, hRl]; exact decide_eq_true (by omega)
    have f5 : zpart R 0 m = R := by rw [hS.part, ← hRl, List.drop_zero, List.take_length]
    have f6 : zfit 0 k Q = true := by rw [hS.fit, hQl]; exact decide_eq_true (by omega)
    have f7 : zpart Q 0 k = Q := by rw [hS.part, ← hQl, List.drop_zero, List.take_length]
    by_cases hi : i = 0
    · have l1 : zle 0 I = false := by rw [hS.le]; exact decide_eq_false (by omega)
      have hj : j = k := by omega
      rw [hj] at hR hQ dl1 dl2
      have ct1 := utrim2_call (dvT B n v P k k).2 (by omega)
      rw [← hQ, ← hT1] at ct1
      have ct2 := utrim2_call ((dvT B n v P k k).1.take n) (by rw [List.length_take]; omega)
      rw [← ur_take, ← hR, ← hT2] at ct2
      have g4 : zcut 0 N m = true := by rw [hS.cut]; exact decide_eq_true (by omega)
      have g6 : zfit 0 (znat N) R = true := by rw [hS.fit, hS.nat, hRl]; exact decide_eq_true (by omega)
      have g5 : zpart R 0 (znat N) = R.take n := by rw [hS.part, hS.nat, hNn, Int.toNat_natCast, List.drop_zero]
      subst hs1
      cbv
      refine bF l1 (nd f6 ?_)
      rw [f7]
      refine ⟨_, hS.call (ct1), ?_⟩
      cbv
      refine nd (g4) ?_
      refine nd (g6) ?_
      rw [g5]
      refine ⟨_, hS.call (ct2), ?_⟩
      cbv
      exact hF _ (ResLe.refl _)
    · have l1 : zle 0 I = true := by rw [hS.le]; exact decide_eq_true (by omega)
      obtain ⟨i', rfl⟩ : ∃ i', i = i' + 1 := ⟨i - 1, by omega⟩
      have hkj : k - 1 - j = i' := by omega
      have hIi : I = (i' : Int) := by omega
      obtain ⟨x, hx⟩ : ∃ x, x = (dvT B n v P k j).1.getD (i' + n) 0 := ⟨_, rfl⟩
      have hxi : (dvT B n v P k j).1[i' + n]? = some x := by rw [hx, List.getD_eq_getElem?_getD, List.getElem?_eq_getElem (by omega)]; rfl
      have hxs := hsz j (by omega) x (List.mem_of_getElem? hxi)
      obtain ⟨hcs, cm⟩ := pmul_row hxs hLi (by omega)
      obtain ⟨hns, cn⟩ := pneg_row hcs (by omega)
      have cac := uaccum_call (dvT B n v P k j).1 B (-(x * v)) i' a (a + b) b (by omega) (by omega) (hsz j (by omega)) hns h2 (by omega) (by omega)
      have e1 : (dvT B n v P k (j + 1)).1 = pacc (dvT B n v P k j).1 (-(x * v)) B i' := by rw [hx, ← hkj]; rfl
      have e2 : (dvT B n v P k (j + 1)).2 = (dvT B n v P k j).2.set i' (x * v) := by rw [hx, ← hkj]; rfl
      clear hkj hi
      obtain ⟨R', hR'⟩ : ∃ R', R' = ur (dvT B n v P k (j + 1)).1 := ⟨_, rfl⟩
      obtain ⟨Q', hQ'⟩ : ∃ R', R' = ur (dvT B n v P k (j + 1)).2 := ⟨_, rfl⟩
      rw [← e1, ← hR', ← hR, ← hY, ← hIi] at cac
      have hset : Q.set i' (qc (x * v)).row = Q' := by rw [hQ, ur_set, hQ', e2]
      have hRg : R[i' + n]? = some (qc x).row := by rw [hR]; exact ur_get hxi
      have hQ0 : ∃ y : Rat, Q[i']? = some (qc y).row := by
        rw [hQ]
        exact ⟨_, ur_get (List.getElem?_eq_getElem (by omega : i' < (dvT B n v P k j).2.length))⟩
      obtain ⟨y, hQ0⟩ := hQ0
      have hQ1 : Q'[i']? = some (qc (x * v)).row := by
        rw [hQ', e2]
        exact ur_get (by rw [List.getElem?_set, if_pos rfl, if_pos (by omega)])
      have hR'l : R'.length = m := by rw [hR', ur_len, (dvT_len B n v P k (j + 1)).1, hk, hm]
      have hQ'l : Q'.length = k := by rw [hQ', ur_len, (dvT_len B n v P k (j + 1)).2]
      obtain ⟨s3, t3, r3, p3, hrow3, _⟩ := qrow x
      obtain ⟨s4, t4, r4, p4, hrow4, _⟩ := qrow (x * v)
      obtain ⟨s5, t5, r5, p5, hrow5, _⟩ := qrow (-(x * v))
      obtain ⟨s6, t6, r6, p6, hrow6, _⟩ := qrow y
      rw [hrow3, hrow2, hrow4] at cm
      rw [hrow4, hrow5] at cn
      rw [hrow5] at cac
      rw [hrow3] at hRg
      rw [hrow4] at hset hQ1
      rw [hrow6] at hQ0
      obtain ⟨e, he⟩ : ∃ e, e = i' + n := ⟨_, rfl⟩
      rw [← he] at hRg
      obtain ⟨J, hJ, i2⟩ : ∃ J : Int, J = (e : Int) ∧ zwrap .i64 (zadd I N) = J := ⟨I + N, by omega, by rw [hS.add, hS.wrap, wrap_i64 (by omega) (by omega)]⟩
      have g1 : zinb (zwrap .i64 (zadd I N)) m = true := by rw [i2, hS.inb]; exact decide_eq_true (by omega)
      have g2 : zidx 0 J = e := by rw [hS.idx]; omega
      have g3 : znth R e = some [.v (.bool s3), .lst false r3, .v (.bool t3), .lst false p3] := by rw [hS.nth]; exact hRg
      have g4 : zinb I k = true := by rw [hS.inb]; exact decide_eq_true (by omega)
      have g5 : zidx 0 I = i' := by rw [hS.idx]; omega
      have g6 : znth Q i' = some [.v (.bool s6), .lst false r6, .v (.bool t6), .lst false p6] := by rw [hS.nth]; exact hQ0
      have g7 : zsetr Q i' [.v (.bool s4), .lst false r4, .v (.bool t4), .lst false p4] = Q' := by rw [hS.setr]; exact hset
      have g8 : znth Q' i' = some [.v (.bool s4), .lst false r4, .v (.bool t4), .lst false p4] := by rw [hS.nth]; exact hQ1
      have h6 : zneq (zlen R') m = true := by rw [hS.neq, hS.len, hR'l]; exact decide_eq_true rfl
      have h7 : zsetg R 0 R' = R' := by rw [hS.setg]; unfold setRange; rw [List.take_zero, List.nil_append, Nat.zero_add, hR'l, ← hRl, List.drop_length, List.append_nil]
      obtain ⟨I', hI', i1⟩ : ∃ I' : Int, I' + 1 = (i' : Int) ∧ zwrap .i64 (zsub I 1) = I' := ⟨I - 1, by omega, by rw [hS.sub, hS.wrap, wrap_i64 (by omega) (by omega)]⟩
      have hmm : i' < i' + 1 := by omega
      have hnx : ∃ (j2 : Nat) (I2 : Int) (R2 Q2 : Abs.Rows), I2 + 1 = (i' : Int) ∧ i' + j2 = k ∧ R2 = ur (dvT B n v P k j2).1 ∧ Q2 = ur (dvT B n v P k j2).2 ∧ udvSt Y R' Q' m k s2 r2 t2 p2 N I' = udvSt Y R2 Q2 m k s2 r2 t2 p2 N I2 := ⟨j + 1, I', R', Q', hI', by omega, hR', hQ', rfl⟩
      subst hs1
      cbv
      refine bT l1 (nd g1 ?_)
      rw [i2, g2, g3]
      cbv
      refine ⟨_, hS.call (cm), ?_⟩
      cbv
      refine nd (g4) ?_
      rw [g5, g6]
      cbv
      refine nd (g4) ?_
      rw [g5, g7, g8]
      cbv
      refine ⟨_, hS.call (cn), ?_⟩
      cbv
      refine nd (f4) ?_
      rw [f5]
      refine ⟨_, hS.call (cac), ?_⟩
      cbv
      refine nd (h6) ?_
      exact again (s' := udvSt Y R' Q' m k s2 r2 t2 p2 N I') (m := i') (by simp [leT, udvSt, mkSt, vi, i1]) (by simp [leH, udvSt, mkSt, h7]) rfl (by show 2 ≤ 7; omega) hmm hnx
end Go.Proofs.YtdhidmcjglokcaaGreat
end

section
set_option linter.unusedVariables false
set_option linter.unusedSimpArgs false
set_option maxHeartbeats 8000000
set_option linter.unusedVariables false
set_option linter.unusedSimpArgs false
set_option maxRecDepth 100000
namespace Go.Proofs.YtdhidmcjglokcaaGreat
open Go Go.Abs Go.Abs.M Go.Proofs

/-! Division, divisors: lists of coefficients, compared by their values. -/

theorem qs_any : ∀ P : List Rat, ∃ k, ∀ q ∈ P, Qs q k
  | [] => ⟨0, fun q hq => by cases hq⟩
  | p :: P => by
    obtain ⟨k, hk⟩ := qs_any P
    refine ⟨k + nl p.num.natAbs + nl p.den, fun q hq => ?_⟩
    rcases List.mem_cons.1 hq with h | h
    · subst h; exact ⟨by omega, by omega⟩
    · exact (hk q h).mono (by omega)

theorem PL.any {P : List Rat} (h : ptrim P = P) : ∃ k, PL (Abs.ev P) P.length k P := by
  obtain ⟨k, hk⟩ := qs_any P
  exact ⟨k, h, fun _ => rfl, Nat.le_refl _, hk⟩

theorem tr_inj {P Q : List Rat} (hP : ptrim P = P) (hQ : ptrim Q = Q) (h : ∀ x, Abs.ev P x = Abs.ev Q x) : P = Q := by
  obtain ⟨k, h1⟩ := PL.any hP
  obtain ⟨l, h2⟩ := PL.any hQ
  exact h1.inj h2 h

theorem tr_nil {P : List Rat} (hP : ptrim P = P) (h : ∀ x, Abs.ev P x = 0) : P = [] := tr_inj hP (Q := []) rfl h

theorem tr_last {P : List Rat} (hP : ptrim P = P) (h : P ≠ []) : P.getD (P.length - 1) 0 ≠ 0 := by
  obtain ⟨k, h1⟩ := PL.any hP
  exact h1.last h

theorem tr_len {P B R : List Rat} (hP : ptrim P = P) (hB : ptrim B = B) (hR : ptrim R = R) (he : ∀ x, Abs.ev R x = Abs.ev P x * Abs.ev B x) (h1 : P ≠ []) (h2 : B ≠ []) : R.length + 1 = P.length + B.length := by
  obtain ⟨k, p1⟩ := PL.any hP
  obtain ⟨l, p2⟩ := PL.any hB
  obtain ⟨m, p3⟩ := PL.any hR
  have := PL.mul_len p1 p2 p3 he h1 h2
  have l1 : P.length ≠ 0 := fun h => h1 (List.length_eq_zero_iff.1 h)
  have l2 : B.length ≠ 0 := fun h => h2 (List.length_eq_zero_iff.1 h)
  omega

/-- Quotient and remainder are the only ones. -/
theorem div_uniq {B Q R Q' R' : List Rat} (hQ : ptrim Q = Q) (hR : ptrim R = R) (hQ' : ptrim Q' = Q') (hR' : ptrim R' = R') (hB : ptrim B = B) (h1 : R.length < B.length) (h2 : R'.length < B.length)
    (h : ∀ x, Abs.ev Q x * Abs.ev B x + Abs.ev R x = Abs.ev Q' x * Abs.ev B x + Abs.ev R' x) : Q = Q' ∧ R = R' := by
  have hB0 : B ≠ [] := fun h0 => by rw [h0] at h1; simp at h1
  have e1 : ∀ x, Abs.ev (ptrim (ladd Q (lsc (-1) Q'))) x * Abs.ev B x = Abs.ev (ptrim (pshift R' (-1) R 0)) x := fun x => by
    rw [ev_trim, ev_trim, ev_ladd, ev_lsc, ev_shift]; have := h x; grind
  have hz : ptrim (ladd Q (lsc (-1) Q')) = [] := by
    rcases Classical.em (ptrim (ladd Q (lsc (-1) Q')) = []) with h0 | h0
    · exact h0
    · have := tr_len (ptrim_idem _) hB (ptrim_idem _) (fun x => (e1 x).symm) h0 hB0
      have l1 : (ptrim (ladd Q (lsc (-1) Q'))).length ≠ 0 := fun h => h0 (List.length_eq_zero_iff.1 h)
      have l2 := ptrim_len (pshift R' (-1) R 0)
      rw [pshift_len] at l2
      omega
  have e2 : ∀ x, Abs.ev Q x = Abs.ev Q' x := fun x => by
    have : Abs.ev (ptrim (ladd Q (lsc (-1) Q'))) x = 0 := by rw [hz]; rfl
    rw [ev_trim, ev_ladd, ev_lsc] at this
    grind
  refine ⟨tr_inj hQ hQ' e2, tr_inj hR hR' fun x => ?_⟩
  have := h x
  rw [e2 x] at this
  grind

/-- D divides A. -/
def Dv (D A : List Rat) : Prop := ∃ H : List Rat, ∀ x, Abs.ev A x = Abs.ev H x * Abs.ev D x

theorem Dv.refl (A : List Rat) : Dv A A := ⟨[1], fun x => by simp only [Abs.ev]; grind⟩
theorem Dv.trans {A B C : List Rat} (h1 : Dv A B) (h2 : Dv B C) : Dv A C := by
  obtain ⟨H, h1⟩ := h1
  obtain ⟨K, h2⟩ := h2
  exact ⟨lmul K H, fun x => by rw [h2, h1, ev_lmul]; grind⟩
theorem Dv.zero {D A : List Rat} (h : ∀ x, Abs.ev A x = 0) : Dv D A := ⟨[], fun x => by rw [h]; simp only [Abs.ev]; grind⟩
theorem Dv.congr {D A D' A' : List Rat} (h : Dv D A) (h1 : ∀ x, Abs.ev D x = Abs.ev D' x) (h2 : ∀ x, Abs.ev A x = Abs.ev A' x) : Dv D' A' := by
  obtain ⟨H, h⟩ := h
  exact ⟨H, fun x => by rw [← h2, h, h1]⟩
theorem Dv.len {D A : List Rat} (hD : ptrim D = D) (hA : ptrim A = A) (h : Dv D A) (h0 : A ≠ []) : D ≠ [] ∧ D.length ≤ A.length := by
  obtain ⟨H, h⟩ := h
  have hD0 : D ≠ [] := fun h1 => h0 (tr_nil hA fun x => by rw [h, h1]; simp only [Abs.ev]; grind)
  have hH0 : ptrim H ≠ [] := fun h1 => h0 (tr_nil hA fun x => by rw [h, ← ev_trim H, h1]; simp only [Abs.ev]; grind)
  have := tr_len (ptrim_idem H) hD hA (fun x => by rw [h, ev_trim]) hH0 hD0
  have l1 : (ptrim H).length ≠ 0 := fun h => hH0 (List.length_eq_zero_iff.1 h)
  exact ⟨hD0, by omega⟩

/-- A divisor leaves no rest. -/
theorem Dv.rest {P B Q R : List Rat} (hQ : ptrim Q = Q) (hR : ptrim R = R) (hB : ptrim B = B) (h1 : R.length < B.length) (h : ∀ x, Abs.ev P x = Abs.ev Q x * Abs.ev B x + Abs.ev R x) (hd : Dv B P) : R = [] := by
  obtain ⟨H, hH⟩ := hd
  exact (div_uniq hQ hR (ptrim_idem H) (R' := []) rfl hB h1 (by simp; omega) (fun x => by rw [← h, hH, ev_trim]; simp only [Abs.ev]; grind)).2

end Go.Proofs.YtdhidmcjglokcaaGreat
end

section
set_option linter.unusedVariables false
set_option linter.unusedSimpArgs false
set_option maxHeartbeats 8000000
set_option linter.unusedVariables false
set_option linter.unusedSimpArgs false
set_option maxRecDepth 100000
namespace Go.Proofs.YtdhidmcjglokcaaGreat
open Go Go.Abs Go.Abs.M Go.Proofs

theorem cf_take {s n : Nat} {P : List Rat} (h : CF s (fun j => P.getD j 0)) : CF s (fun j => (P.take n).getD j 0) :=
  (h.pick fun j => decide (j < n)).congr fun j => by
    rw [List.getD_eq_getElem?_getD (l := P.take n), List.getElem?_take]
    by_cases hj : j < n
    · rw [if_pos (decide_eq_true hj), if_pos hj, List.getD_eq_getElem?_getD]
    · rw [if_neg (by simpa using hj), if_neg hj]; rfl

/-- univariate.DivMod by a polynomial that is not 0. -/
theorem pb_divmod {f g : Rat → Rat} {n m s t : Nat} (e : Nat) {P B : List Rat} (hP : PB f n s P) (hB : PB g m t B) (h0 : B ≠ []) (he : P.length + 1 ≤ B.length + e) (hn : n ≤ 499) (hm : m ≤ 499) (hs : s + e * (t + 1) + 2 * t ≤ 2000000000) :
    ∃ Q R, PB (Abs.ev Q) e (s + e * (t + 1)) Q ∧ PB (Abs.ev R) (B.length - 1) (s + e * (t + 1)) R ∧ R.length < B.length ∧ (∀ x, f x = Abs.ev Q x * g x + Abs.ev R x) ∧
      ACall Tryz.prog 23 [.val (tl (ur P)), .val (tl (ur B))] ⟨[.val (tl (ur Q)), .val (tl (ur R)), .val (ti .i64 0)], [none, none]⟩ := by
  have l1 : B.length ≠ 0 := fun h => h0 (List.length_eq_zero_iff.1 h)
  have hPl := hP.len
  have hBl := hB.len
  rcases Nat.lt_or_ge P.length B.length with h | h
  · refine ⟨[], P, (PB.nil _).mono (Nat.zero_le _) (Nat.le_refl _) |>.congr fun x => rfl, ⟨hP.tr, fun x => rfl, by omega, hP.cf.mono (by omega)⟩, h, fun x => ?_, udivmod_short P B h (by omega)⟩
    rw [hP.ev]; simp only [Abs.ev]; grind
  · obtain ⟨d, hd⟩ : ∃ d, B.length = d + 1 := ⟨B.length - 1, by omega⟩
    obtain ⟨k, hk⟩ : ∃ k, P.length = k + d := ⟨P.length - d, by omega⟩
    have hL : B.getD d 0 ≠ 0 := by have := tr_last hB.tr h0; rwa [hd, Nat.add_sub_cancel] at this
    have hv := Rat.mul_inv_cancel _ hL
    have hcf := fun j hj => dvT_cf (k := k) hd hv hk hP.cf hB.cf j hj
    have hke : ∀ j, j ≤ k → j * (t + 1) ≤ e * (t + 1) := fun j hj => Nat.mul_le_mul_right _ (by omega)
    obtain ⟨q1, q2, q3⟩ := dvT_spec hd hv hk k (Nat.le_refl _)
    obtain ⟨d1, d2⟩ := dvT_len B d (B.getD d 0)⁻¹ P k k
    have hfk := (hcf k (Nat.le_refl _)).mono (t := s + e * (t + 1)) (by have := hke k (Nat.le_refl _); omega)
    have cl := udivmod_long P B d k ((s + e * (t + 1)) / 32 + 1) (t / 32 + 1) hk hd hL (by omega) (by omega) (fun j hj => cf_qsl ((hcf j hj).left.mono (by have := hke j hj; omega))) (cf_qsl hB.cf) (by omega)
    generalize dvT B d (B.getD d 0)⁻¹ P k k = S at *
    have hev : ∀ x, Abs.ev (S.1.take d) x = Abs.ev S.1 x := ev_ext fun j => by
      by_cases hj : j < d
      · rw [List.getD_eq_getElem?_getD, List.getElem?_take, if_pos hj, List.getD_eq_getElem?_getD]
      · rw [List.getD_eq_getElem?_getD, List.getElem?_take, if_neg hj, q2 j (by omega)]; rfl
    refine ⟨_, _, PB.of_trim (P := S.2) (fun x => (ev_trim S.2 x).symm) (by omega) hfk.right, PB.of_trim (P := S.1.take d) (fun x => (ev_trim _ x).symm) (by rw [List.length_take]; omega) (cf_take hfk.left), ?_, fun x => ?_, cl⟩
    · have := ptrim_len (S.1.take d)
      rw [List.length_take] at this; omega
    · rw [ev_trim, ev_trim, hev, ← hP.ev, ← q1 x, ← hB.ev]; grind

/-- What R.Made makes. -/
theorem pb_made (xs : List RW) (hx : ∀ x ∈ xs, x.ok) (D : Nat) (hD2 : D ≤ 100) (hlx : xs.length < 9223372036854775808) :
    ∃ P, PB (Abs.ev P) (D + 1) ((D + 1) * (32 * 8)) P ∧ ACall Tryz.prog 15 [.val (tl (rwrows xs)), .val (ti .i64 (D : Int))] ⟨[.val (tl (ur P))], [none, none]⟩ := by
  obtain ⟨P, f, h, c⟩ := pl_made xs hx D hD2 hlx
  exact ⟨P, (PB.of_pl_any h).congr fun x => (h.ev x).symm, c⟩

theorem pb_valid {f : Rat → Rat} {n a : Nat} {P : List Rat} (hP : PB f n a P) (hn : n ≤ 1000) (ha : a ≤ 2000000000) :
    ACall Tryz.prog 14 [.val (tl (ur P))] ⟨[.val (tb true)], [none]⟩ := pl_valid hP.pl hn (by omega)

theorem pb_same {f g : Rat → Rat} {n m a b : Nat} {P B : List Rat} (hP : PB f n a P) (hB : PB g m b B) (h : ∀ x, f x = g x) (hn : n ≤ 1000) (hm : m ≤ 1000) (hs : a ≤ 2000000000) :
    ACall Tryz.prog 19 [.val (tl (ur P)), .val (tl (ur B))] ⟨[.val (tb true)], [none, none]⟩ := pl_same hP.pl hB.pl h hn hm (by omega)
end Go.Proofs.YtdhidmcjglokcaaGreat
end

