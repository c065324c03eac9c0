/-
  A part of the proof: UplA07, EvlA07, EvD, EvlB07, CfU, DvM07, EvlC07, PolT07, DmT07, GcdM07, GcdN07, GcdP07, BezT07, BezP07, UplB07.
-/
import Derived.Test.YtdhidmcjglokcaaGreatM10
import Derived.Calls
import Derived.Laws.Cells
import Derived.Below
import Derived.Laws.Small
import Derived.Laws.IdiomCopy
import Derived.Laws.BytesString
import Derived.Laws.Append
import Derived.Laws.Tables
import Derived.Great.BuildSlice
import Derived.IntWalk
import Derived.Orders
import Derived.Laws.BitsLemmas
import Derived.Test.YtdhidmcjglokcaaGreatProg

section
set_option linter.unusedVariables false
set_option linter.unusedSimpArgs false
set_option maxHeartbeats 8000000
set_option linter.unusedVariables false
set_option linter.unusedSimpArgs false
set_option maxRecDepth 100000
namespace Go.Proofs.YtdhidmcjglokcaaGreat
open Go Go.Abs Go.Abs.M Go.Proofs

/-- P is the list of the polynomial f: trimmed, at most n coefficients, of at most k words. -/
structure PL (f : Rat → Rat) (n k : Nat) (P : List Rat) : Prop where
  tr : ptrim P = P
  ev : ∀ x, ev P x = f x
  len : P.length ≤ n
  sz : ∀ q ∈ P, Qs q k

theorem ev_shift (P : List Rat) (c : Rat) (B : List Rat) (k : Nat) (x : Rat) : Abs.ev (pshift P c B k) x = Abs.ev P x + c * x ^ k * Abs.ev B x := by
  unfold pshift
  rw [ev_pacc _ _ _ _ _ (by simp; omega), ev_app, ev_zeros]
  grind

theorem ev_pmulL (P B R : List Rat) (x : Rat) (h : P.length + B.length ≤ R.length + 1) : ∀ i, i ≤ P.length → Abs.ev (pmulL P B R i) x = Abs.ev R x + Abs.ev (P.take i) x * Abs.ev B x
  | 0, _ => by simp [pmulL, Abs.ev, Rat.zero_mul, Rat.add_zero]
  | i + 1, hi => by
    unfold pmulL
    rw [ev_pacc _ _ _ _ _ (by rw [pmulL_len]; omega), ev_pmulL P B R x h i (by omega), ev_take_succ P i x (by omega)]
    grind

theorem ev_pmul (P B : List Rat) (x : Rat) : Abs.ev (pmul P B) x = Abs.ev P x * Abs.ev B x := by
  unfold pmul
  rw [ev_pmulL P B _ x (by simp; omega) _ (Nat.le_refl _), ev_zeros, List.take_length, Rat.zero_add]

/-- Two lists of the same polynomial have the same coefficients. -/
theorem ev_inj {P Q : List Rat} (h : ∀ x, Abs.ev P x = Abs.ev Q x) (j : Nat) : P.getD j 0 = Q.getD j 0 := by
  have h0 := ev_zero (P := pshift P (-1) Q 0) (fun x => by rw [ev_shift, h x]; grind) j
  rw [pshift_get, if_pos (Nat.zero_le _), Nat.sub_zero] at h0
  grind

theorem PL.inj {f g : Rat → Rat} {n k m l : Nat} {P Q : List Rat} (h1 : PL f n k P) (h2 : PL g m l Q) (h : ∀ x, f x = g x) : P = Q := by
  rw [← h1.tr, ← h2.tr]
  exact ptrim_ext (ev_inj fun x => by rw [h1.ev, h2.ev, h])

theorem PL.mono {f : Rat → Rat} {n k m l : Nat} {P : List Rat} (h : PL f n k P) (h1 : n ≤ m) (h2 : k ≤ l) : PL f m l P :=
  ⟨h.tr, h.ev, Nat.le_trans h.len h1, fun q hq => (h.sz q hq).mono h2⟩

theorem PL.congr {f g : Rat → Rat} {n k : Nat} {P : List Rat} (h : PL f n k P) (e : ∀ x, f x = g x) : PL g n k P :=
  ⟨h.tr, fun x => by rw [h.ev, e], h.len, h.sz⟩

theorem PL.of_trim {f : Rat → Rat} {n k : Nat} {P : List Rat} (h1 : ∀ x, Abs.ev P x = f x) (h2 : P.length ≤ n) (h3 : ∀ q ∈ P, Qs q k) : PL f n k (ptrim P) :=
  ⟨ptrim_idem P, fun x => by rw [ev_trim, h1], Nat.le_trans (ptrim_len P) h2, fun q hq => h3 q (ptrim_mem hq)⟩

theorem PL.nil : PL (fun _ => 0) 0 0 [] := ⟨rfl, fun _ => rfl, Nat.le_refl _, fun q hq => by cases hq⟩

theorem Qs.zero {k : Nat} : 1 ≤ k → Qs 0 k := fun h => Qs.whole (n := 0) (by decide) h

/-- Sizes of a sum. -/
theorem pshift_all {P B : List Rat} {c : Rat} {k a b d : Nat} (h1 : ∀ q ∈ P, Qs q a) (h2 : Qs c b) (h3 : ∀ q ∈ B, Qs q d) (ha : 1 ≤ a) : ∀ q ∈ pshift P c B k, Qs q (a + (b + d) + 1) := by
  unfold pshift
  refine accL_all (fun q hq => ?_) h2 h3 (by simp; omega)
  rcases List.mem_append.1 hq with h | h
  · exact h1 q h
  · rw [(List.mem_replicate.1 h).2]; exact Qs.zero ha

theorem pl_add {f g : Rat → Rat} {n m a b : Nat} {P B : List Rat} (hP : PL f n a P) (hB : PL g m b B) (ha : 1 ≤ a) (hn : n ≤ 1000) (hm : m ≤ 1000) (hs : a + b ≤ 68719476700) :
    ∃ R, PL (fun x => f x + g x) (max n m) (a + b + 2) R ∧ ACall Tryz.prog 16 [.val (tl (ur P)), .val (tl (ur B))] ⟨[.val (tl (ur R))], [none, none]⟩ := by
  refine ⟨_, PL.of_trim (fun x => ?_) ?_ (fun q hq => ?_), uadd_call P B a 1 b (Nat.le_trans hB.len hm) (Nat.le_trans hP.len hn) hP.sz hB.sz (by omega) ha (by omega)⟩
  · rw [ev_shift, hP.ev, hB.ev]; grind
  · rw [pshift_len]; have := hP.len; have := hB.len; omega
  · exact (pshift_all hP.sz (Qs.whole (n := 1) (by decide) (Nat.le_refl 1)) hB.sz ha q hq).mono (by omega)

theorem pl_sub {f g : Rat → Rat} {n m a b : Nat} {P B : List Rat} (hP : PL f n a P) (hB : PL g m b B) (ha : 1 ≤ a) (hn : n ≤ 1000) (hm : m ≤ 1000) (hs : a + b ≤ 68719476700) :
    ∃ R, PL (fun x => f x - g x) (max n m) (a + b + 2) R ∧ ACall Tryz.prog 18 [.val (tl (ur P)), .val (tl (ur B))] ⟨[.val (tl (ur R))], [none, none]⟩ := by
  refine ⟨_, PL.of_trim (fun x => ?_) ?_ (fun q hq => ?_), usub_call P B a 1 b (Nat.le_trans hB.len hm) (Nat.le_trans hP.len hn) hP.sz hB.sz (by omega) ha (by omega)⟩
  · rw [ev_shift, hP.ev, hB.ev]; grind
  · rw [pshift_len]; have := hP.len; have := hB.len; omega
  · exact (pshift_all hP.sz (Qs.whole (n := -1) (by decide) (Nat.le_refl 1)) hB.sz ha q hq).mono (by omega)

theorem pl_scale {g : Rat → Rat} {m b d : Nat} {c : Rat} {B : List Rat} (hc : Qs c d) (hB : PL g m b B) (hm : m ≤ 1000) (hs : d + b ≤ 68719476700) :
    ∃ R, PL (fun x => c * g x) m (d + b + 2) R ∧ ACall Tryz.prog 21 [.val (.agg (qc c).row), .val (tl (ur B))] ⟨[.val (tl (ur R))], [none, none]⟩ := by
  refine ⟨_, PL.of_trim (fun x => ?_) ?_ (fun q hq => ?_), uscale_call B c d b (Nat.le_trans hB.len hm) hc hB.sz (by omega)⟩
  · rw [ev_shift, hB.ev]; simp only [Abs.ev]; grind
  · rw [pshift_len]; have := hB.len; simp; omega
  · exact (pshift_all (P := []) (a := 1) (fun q hq => by cases hq) hc hB.sz (Nat.le_refl 1) q hq).mono (by omega)

/-- univariate.Mul for all lists. -/
theorem umul_all (P B : List Rat) (b d : Nat) (hl : P.length + B.length ≤ 1000) (h2 : ∀ q ∈ P, Qs q b) (h3 : ∀ q ∈ B, Qs q d) (hbd : b + d ≤ 67108864) :
    ACall Tryz.prog 17 [.val (tl (ur P)), .val (tl (ur B))] ⟨[.val (tl (ur (ptrim (pmul P B))))], [none, none]⟩ := by
  have hw : ∀ {args : List Arg}, ACall Tryz.prog 17 args ⟨[.val (.c (.lst true []))], [none, none]⟩ → ACall Tryz.prog 17 args ⟨[.val (tl [])], [none, none]⟩ :=
    fun h => ACall.weak (ArgsLe.refl _) (show ResLe ⟨[.val (.c (.lst true []))], [none, none]⟩ ⟨[.val (tl [])], [none, none]⟩ from ⟨⟨TLe.drop _ _, trivial⟩, rfl⟩) h
  have hz : (∀ x, Abs.ev P x * Abs.ev B x = 0) → ptrim (pmul P B) = [] := fun h => ptrim_ext (P := pmul P B) (Q := []) (ev_inj fun x => by rw [ev_pmul, h]; rfl)
  by_cases hP : P = []
  · subst hP
    rw [hz fun x => by simp [Abs.ev, Rat.zero_mul]]
    exact hw (umul_nil1 B (by simpa using hl))
  by_cases hB : B = []
  · subst hB
    rw [hz fun x => by simp [Abs.ev, Rat.mul_zero]]
    exact hw (umul_nil2 P hP (by simpa using hl))
  exact umul_call P B b d hP hB hl h2 h3 hbd

theorem pmul_all {P B : List Rat} {b d : Nat} (h2 : ∀ q ∈ P, Qs q b) (h3 : ∀ q ∈ B, Qs q d) : ∀ q ∈ pmul P B, Qs q (1 + P.length * (b + d + 1)) := by
  unfold pmul
  refine pmulL_all (fun q hq => ?_) h2 h3 (by simp; omega) _ (Nat.le_refl _)
  rw [(List.mem_replicate.1 hq).2]; exact Qs.zero (Nat.le_refl 1)

theorem pl_mul {f g : Rat → Rat} {n m a b : Nat} {P B : List Rat} (hP : PL f n a P) (hB : PL g m b B) (hn : n + m ≤ 1000) (hs : a + b ≤ 67108864) :
    ∃ R, PL (fun x => f x * g x) (n + m - 1) (1 + n * (a + b + 1)) R ∧ ACall Tryz.prog 17 [.val (tl (ur P)), .val (tl (ur B))] ⟨[.val (tl (ur R))], [none, none]⟩ := by
  have h1 := hP.len
  have h2 := hB.len
  refine ⟨_, PL.of_trim (fun x => ?_) ?_ (fun q hq => ?_), umul_all P B a b (by omega) hP.sz hB.sz hs⟩
  · rw [ev_pmul, hP.ev, hB.ev]
  · unfold pmul
    rw [pmulL_len, List.length_replicate]; omega
  · exact (pmul_all hP.sz hB.sz q hq).mono (Nat.add_le_add_left (Nat.mul_le_mul_right _ h1) 1)

theorem pl_same {f g : Rat → Rat} {n m a b : Nat} {P B : List Rat} (hP : PL f n a P) (hB : PL g m b B) (h : ∀ x, f x = g x) (hn : n ≤ 1000) (hm : m ≤ 1000) (hs : a ≤ 68719476736) :
    ACall Tryz.prog 19 [.val (tl (ur P)), .val (tl (ur B))] ⟨[.val (tb true)], [none, none]⟩ :=
  rusame_call P B true ⟨fun _ => hP.inj hB h, fun _ => rfl⟩ (Nat.le_trans hP.len hn) (Nat.le_trans hB.len hm) fun q hq => (hP.sz q hq).mono hs

theorem PL.uok {f : Rat → Rat} {n a : Nat} {P : List Rat} (hP : PL f n a P) : UOk (P.map qc) := hP.tr ▸ ptrim_ok P

theorem PL.cells {f : Rat → Rat} {n a : Nat} {P : List Rat} (hP : PL f n a P) (h : a ≤ 68719476736) : ∀ c ∈ P.map qc, c.ok 68719476736 := fun c hc => by
  obtain ⟨q, hq, rfl⟩ := List.mem_map.1 hc
  have := hP.sz q hq
  exact ⟨dg_wd _, dg_wd _, by show nl q.num.natAbs ≤ 68719476736; have := this.1; omega, by show nl (q.den : Int).natAbs ≤ 68719476736; rw [Int.natAbs_natCast]; have := this.2; omega⟩

theorem ruvalid_big (cs : List QC) (b : Bool) (hb : b = true ↔ UOk cs) (hw : ∀ c ∈ cs, c.ok 68719476736) (hl : cs.length ≤ 1000) : ACall Tryz.prog 14 [.val (tl (qrows cs))] ⟨[.val (tb b)], [none]⟩ := by
  refine ruvalid_gen cs b hb hl (fun c hc => ?_) (fun c hc hcan => ?_)
  · obtain ⟨b1, hb1⟩ := bool_ex c.can
    have h := hw c hc
    exact ⟨b1, hb1, rqvalid_call b1 hb1 h.l h.m (by have := h.ll; omega) (by have := h.lm; omega)⟩
  · obtain ⟨x, h1, h2⟩ := QC.sign hcan
    exact ⟨cmpI x 0, (cmp00 x).trans h2, rqsign_call _ h1 rfl⟩

theorem pl_valid {f : Rat → Rat} {n a : Nat} {P : List Rat} (hP : PL f n a P) (hn : n ≤ 1000) (ha : a ≤ 68719476736) :
    ACall Tryz.prog 14 [.val (tl (ur P))] ⟨[.val (tb true)], [none]⟩ :=
  ruvalid_big (P.map qc) true ⟨fun _ => hP.uok, fun _ => rfl⟩ (hP.cells ha) (by rw [List.length_map]; exact Nat.le_trans hP.len hn)

/-- Degrees add up. -/
theorem csum_top {P B : List Rat} (j : Nat) : ∀ i, i ≤ j + 1 → j < i - 1 + B.length → (∀ k, k + 1 < i → B.getD (j - k) 0 = 0) → csum P B j i = if i = 0 then 0 else P.getD (i - 1) 0 * B.getD (j - (i - 1)) 0
  | 0, _, _, _ => rfl
  | i + 1, h1, h2, h3 => by
    unfold csum
    rw [if_pos (by omega), if_neg (by omega), show i + 1 - 1 = i by omega]
    have hz : ∀ k, k ≤ i → csum P B j k = 0 := fun k hk => by
      induction k with
      | zero => rfl
      | succ k ih =>
        unfold csum
        rw [ih (by omega), if_pos (by omega), h3 k (by omega)]; grind
    rw [hz i (Nat.le_refl _), Rat.zero_add]

theorem PL.last {f : Rat → Rat} {n a : Nat} {P : List Rat} (hP : PL f n a P) (h : P ≠ []) : P.getD (P.length - 1) 0 ≠ 0 := by
  have h1 : tlen P P.length = P.length := by
    have := congrArg List.length hP.tr
    unfold ptrim at this
    rw [List.length_take] at this
    have := tlen_le P P.length
    omega
  have h2 : P.length ≠ 0 := fun h0 => h (List.length_eq_zero_iff.1 h0)
  have := tlen_last P P.length (by omega)
  rwa [h1] at this

theorem tlen_top {P : List Rat} (h : P ≠ []) (h0 : P.getD (P.length - 1) 0 ≠ 0) : ptrim P = P := by
  unfold ptrim
  obtain ⟨n, hn⟩ : ∃ n, P.length = n + 1 := ⟨P.length - 1, by have : P.length ≠ 0 := fun h1 => h (List.length_eq_zero_iff.1 h1); omega⟩
  rw [hn] at h0 ⊢
  unfold tlen
  rw [if_neg (by simpa using h0), ← hn, List.take_length]

theorem PL.mul_len {f g e : Rat → Rat} {n m l a b c : Nat} {P B R : List Rat} (hP : PL f n a P) (hB : PL g m b B) (hR : PL e l c R) (he : ∀ x, e x = f x * g x) (h1 : P ≠ []) (h2 : B ≠ []) : R.length = P.length + B.length - 1 := by
  have l1 : P.length ≠ 0 := fun h => h1 (List.length_eq_zero_iff.1 h)
  have l2 : B.length ≠ 0 := fun h => h2 (List.length_eq_zero_iff.1 h)
  have hl : (pmul P B).length = P.length + B.length - 1 := by unfold pmul; rw [pmulL_len, List.length_replicate]
  have hne : pmul P B ≠ [] := fun h => by rw [h] at hl; simp at hl; omega
  have htop : (pmul P B).getD ((pmul P B).length - 1) 0 = P.getD (P.length - 1) 0 * B.getD (B.length - 1) 0 := by
    rw [hl]
    unfold pmul
    rw [pmulL_get (by simp; omega) _ _ (Nat.le_refl _), csum_top _ _ (by omega) (by omega) (fun k hk => by rw [List.getD_eq_getElem?_getD, List.getElem?_eq_none (by omega)]; rfl), if_neg l1, show P.length + B.length - 1 - 1 - (P.length - 1) = B.length - 1 by omega]
    rw [List.getD_eq_getElem?_getD, List.getElem?_replicate]
    split <;> simp [Rat.zero_add]
  have hnz : (pmul P B).getD ((pmul P B).length - 1) 0 ≠ 0 := by
    rw [htop]
    intro h
    rcases Rat.mul_eq_zero.1 h with h | h
    · exact hP.last h1 h
    · exact hB.last h2 h
  have : R = pmul P B := by
    rw [← hR.tr, ← tlen_top hne hnz]
    exact ptrim_ext (ev_inj fun x => by rw [hR.ev, he, ev_pmul, hP.ev, hB.ev])
  rw [this, hl]

end Go.Proofs.YtdhidmcjglokcaaGreat
end

section
set_option linter.unusedVariables false
set_option linter.unusedSimpArgs false
set_option maxHeartbeats 8000000
set_option linter.unusedVariables false
set_option linter.unusedSimpArgs false
set_option maxRecDepth 100000
namespace Go.Proofs.YtdhidmcjglokcaaGreat
open Go Go.Abs Go.Abs.M Go.Proofs

theorem qrow (x : Rat) : ∃ (s t : Bool) (r p : Abs.Rows), (qc x).row = [.v (.bool s), .lst false r, .v (.bool t), .lst false p] ∧ IsR x s r t p := ⟨_, _, _, _, rfl, qc_isR x⟩

theorem pmul_row {x y : Rat} {a b : Nat} (h1 : Qs x a) (h2 : Qs y b) (h : a + b ≤ 68719476736) :
    Qs (x * y) (a + b) ∧ ACall Tryz.prog 68 [.val (.agg (qc x).row), .val (.agg (qc y).row)] ⟨[.val (.agg (qc (x * y)).row)], [none, none]⟩ := by
  refine ⟨mul_small h1 h2, ?_⟩
  obtain ⟨u, w, v, p, hr, c⟩ := pmul_call (qc_isR x) (qc_isR y) (h1.mono (by omega)) (h2.mono (by omega))
  rw [qc_row hr] at c
  exact c

theorem pneg_row {x : Rat} {a : Nat} (h1 : Qs x a) (h : a ≤ 68719476736) :
    Qs (-x) a ∧ ACall Tryz.prog 69 [.val (.agg (qc x).row)] ⟨[.val (.agg (qc (-x)).row)], [none]⟩ := by
  refine ⟨h1.neg, ?_⟩
  obtain ⟨u, w, hr, c⟩ := pneg_call (qc_isR x) (h1.mono (by omega))
  rw [qc_row hr] at c
  exact c

theorem inv_small {x : Rat} {a : Nat} (h0 : x ≠ 0) (h : Qs x a) : Qs x⁻¹ a := by
  obtain ⟨i1, i2⟩ := inv_nd h0
  obtain ⟨h1, h2⟩ := h
  refine ⟨?_, ?_⟩
  · rw [i1]; split <;> simpa using h2
  · have : (x⁻¹).den = x.num.natAbs := by split at i2 <;> omega
    rw [this]; exact h1

theorem pinv_row {x : Rat} {a : Nat} (h0 : x ≠ 0) (h1 : Qs x a) (h : a ≤ 68719476736) :
    Qs x⁻¹ a ∧ ACall Tryz.prog 67 [.val (.agg (qc x).row)] ⟨[.val (.agg (qc x⁻¹).row), .val (ti .i64 0)], [none]⟩ := by
  refine ⟨inv_small h0 h1, ?_⟩
  obtain ⟨u, w, v, p, hr, c⟩ := pinv_call (qc_isR x) h0 (h1.mono (by omega))
  rw [qc_row hr] at c
  exact c

theorem pwhole_row (n : Int) (h1 : -9223372036854775808 ≤ n) (h2 : n < 9223372036854775808) :
    ACall Tryz.prog 61 [.val (ti .i64 n)] ⟨[.val (.agg (qc (n : Rat)).row)], [none]⟩ := by
  obtain ⟨s, r, v, p, hr, c⟩ := pWhole_call n h1 h2
  rw [qc_row hr] at c
  exact c

theorem rqwhole_row (n : Int) (h1 : -9223372036854775808 ≤ n) (h2 : n < 9223372036854775808) :
    ACall Tryz.prog 22 [.val (ti .i64 n)] ⟨[.val (.agg (qc (n : Rat)).row)], [none]⟩ := by
  obtain ⟨s, r, v, p, hr, c⟩ := rqWhole_call n h1 h2
  rw [qc_row hr] at c
  exact c

theorem rqsame_row {x y : Rat} {a : Nat} (h1 : Qs x a) (h : x = y) (ha : a ≤ 68719476736) :
    ACall Tryz.prog 41 [.val (.agg (qc x).row), .val (.agg (qc y).row)] ⟨[.val (tb true)], [none, none]⟩ :=
  rqsame_call true (qc_isR x) (qc_isR y) ⟨fun _ => h, fun _ => rfl⟩ (h1.mono (by omega))

end Go.Proofs.YtdhidmcjglokcaaGreat
end

section
set_option linter.unusedVariables false
set_option linter.unusedSimpArgs false
/-
  Derivatives of polynomials given by lists of coefficients.
-/
set_option linter.unusedVariables false
namespace Go.Abs

/-- Sum, multiple and product, by recursion. -/
def ladd : List Rat → List Rat → List Rat
  | [], Q => Q
  | c :: P, [] => c :: P
  | c :: P, d :: Q => (c + d) :: ladd P Q
def lsc (c : Rat) (P : List Rat) : List Rat := P.map (c * ·)
def lmul : List Rat → List Rat → List Rat
  | [], _ => []
  | c :: P, B => ladd (lsc c B) (0 :: lmul P B)
theorem ev_ladd : ∀ (P Q : List Rat) (x : Rat), ev (ladd P Q) x = ev P x + ev Q x
  | [], Q, x => by simp [ladd, ev, Rat.zero_add]
  | c :: P, [], x => by simp [ladd, ev, Rat.add_zero]
  | c :: P, d :: Q, x => by simp only [ladd, ev]; rw [ev_ladd P Q x]; grind
theorem ev_lsc (c : Rat) : ∀ (P : List Rat) (x : Rat), ev (lsc c P) x = c * ev P x
  | [], x => by simp [lsc, ev, Rat.mul_zero]
  | d :: P, x => by have := ev_lsc c P x; simp only [lsc, List.map_cons, ev] at this ⊢; rw [this]; grind
theorem ev_lmul : ∀ (P B : List Rat) (x : Rat), ev (lmul P B) x = ev P x * ev B x
  | [], B, x => by simp [lmul, ev, Rat.zero_mul]
  | c :: P, B, x => by
    simp only [lmul]
    rw [ev_ladd, ev_lsc]
    simp only [ev]
    rw [ev_lmul P B x]; grind
/-- A list of coefficients with the same values has the same coefficients. -/
theorem ev_coef {P Q : List Rat} (h : ∀ x, ev P x = ev Q x) (j : Nat) : P.getD j 0 = Q.getD j 0 := by
  have h0 := ev_zero (P := ladd P (lsc (-1) Q)) (fun x => by rw [ev_ladd, ev_lsc, h x]; grind) j
  have hl : ∀ (A B : List Rat) (j : Nat), (ladd A B).getD j 0 = A.getD j 0 + B.getD j 0 := fun A => by
    induction A with
    | nil => intro B j; simp [ladd, Rat.zero_add]
    | cons a A ih =>
      intro B j
      cases B with
      | nil => simp [ladd, Rat.add_zero]
      | cons b B =>
        cases j with
        | zero => simp [ladd]
        | succ j => simpa [ladd] using ih B j
  have hs : (lsc (-1) Q).getD j 0 = -1 * Q.getD j 0 := by
    rw [List.getD_eq_getElem?_getD, List.getD_eq_getElem?_getD, lsc, List.getElem?_map]
    cases Q[j]? with
    | none => simp [Rat.mul_zero]
    | some q => simp
  rw [hl, hs] at h0
  grind

end Go.Abs
end

section
set_option linter.unusedVariables false
set_option linter.unusedSimpArgs false
set_option maxHeartbeats 8000000
set_option linter.unusedVariables false
set_option linter.unusedSimpArgs false
set_option maxRecDepth 100000
namespace Go.Proofs.YtdhidmcjglokcaaGreat
open Go Go.Abs Go.Abs.M Go.Proofs

theorem ur_single (c : Rat) : ur [c] = [(qc c).row] := rfl

theorem umonic_nil : ACall Tryz.prog 32 [.val (tl [])] ⟨[.val (tl [])], [none]⟩ := by
  refine callZ ccOk mixed [.val] Tryz.func32 rfl rfl (by kernel_rfl) fun zwrap zadd zsub zmul zquo zrem zshl zshr zband zbor zbxor zbandn zeq zne zlt zle znot zbeq zbne zmax zmin znat zinb zofN zidx zneq znadd zdif zcut zroom zmkok zlen znth zsetr zisI zgetI zsetI zfit zpart zext zsetg zrep zwide zall zmok zmget zmset zW zth A L F hS hF => ?_
  have e1 : zeq (zofN (zlen [])) 0 = true := by rw [hS.eq, hS.ofN, hS.len]; rfl
  cbv
  refine bT e1 ?_
  exact fin1w hF (TLe.drop _ _)

theorem pl_monic {f : Rat → Rat} {n k : Nat} {P : List Rat} (hP : PL f n k P) (h0 : P ≠ []) (hn : n ≤ 1000) (hs : k + k ≤ 68719476700) :
    ∃ R, PL (fun x => (P.getD (P.length - 1) 0)⁻¹ * f x) n (k + k + 2) R ∧ ACall Tryz.prog 32 [.val (tl (ur P))] ⟨[.val (tl (ur R))], [none]⟩ := by
  have hl := hP.len
  have hm0 : P.length ≠ 0 := fun h => h0 (List.length_eq_zero_iff.1 h)
  obtain ⟨L, hL⟩ : ∃ L, L = P.getD (P.length - 1) 0 := ⟨_, rfl⟩
  have hL0 := hP.last h0
  have hPi : P[P.length - 1]? = some L := by rw [hL, List.getD_eq_getElem?_getD, List.getElem?_eq_getElem (by omega)]; rfl
  rw [← hL] at hL0
  obtain ⟨hq, ci⟩ := pinv_row hL0 (hP.sz L (List.mem_of_getElem? hPi)) (by omega)
  obtain ⟨R, hR, cs⟩ := pl_scale hq hP hn (by omega)
  rw [← hL]
  refine ⟨R, hR, ?_⟩
  obtain ⟨s, t, r, p, hrow, _⟩ := qrow L
  obtain ⟨s2, t2, r2, p2, hrow2, _⟩ := qrow L⁻¹
  rw [hrow, hrow2] at ci
  rw [hrow2] at cs
  have hX := ur_get hPi
  have lX := ur_len P
  rw [hrow] at hX
  generalize P.length = m at *
  generalize ur P = X at *
  generalize ur R = Y at *
  refine callZ ccOk mixed [.val] Tryz.func32 rfl rfl (by kernel_rfl) fun zwrap zadd zsub zmul zquo zrem zshl zshr zband zbor zbxor zbandn zeq zne zlt zle znot zbeq zbne zmax zmin znat zinb zofN zidx zneq znadd zdif zcut zroom zmkok zlen znth zsetr zisI zgetI zsetI zfit zpart zext zsetg zrep zwide zall zmok zmget zmset zW zth A L F hS hF => ?_
  have e1 : zeq (zofN (zlen X)) 0 = false := by rw [hS.eq, hS.ofN, hS.len, lX]; exact decide_eq_false (by omega)
  obtain ⟨J, hJ, j1⟩ : ∃ J : Int, J = ((m - 1 : Nat) : Int) ∧ zwrap .i64 (zsub (zofN (zlen X)) 1) = J := ⟨(m : Int) - 1, by omega, by rw [hS.ofN, hS.len, lX, hS.sub, hS.wrap, wrap_i64 (by omega) (by omega)]⟩
  have g1 : zle 0 J = true := by rw [hS.le]; exact decide_eq_true (by omega)
  have hz : znth X (znat J) = some [.v (.bool s), .lst false r, .v (.bool t), .lst false p] := by rw [hS.nat, hJ, Int.toNat_natCast, hS.nth, hX]
  cbv
  refine bF e1 ?_
  rw [j1, hz]
  cbv
  refine nd (g1) ?_
  refine ⟨_, hS.call (ci), ?_⟩
  cbv
  refine ⟨_, hS.call (cs), ?_⟩
  cbv
  exact hF _ (ResLe.refl _)

end Go.Proofs.YtdhidmcjglokcaaGreat
end

section
set_option linter.unusedVariables false
set_option linter.unusedSimpArgs false
/-
  Sizes of coefficients: a common denominator, numerators and denominator of at most s bits.
-/
set_option linter.unusedVariables false
namespace Go.Abs

theorem nd_of {q : Rat} {n d : Int} (hd : 0 < d) (h : q * (d : Rat) = (n : Rat)) : q.num.natAbs ≤ n.natAbs ∧ (q.den : Int) ≤ d := by
  have hd0 : (d : Rat) ≠ 0 := fun h0 => by rw [Rat.intCast_eq_zero_iff] at h0; omega
  have hq : Rat.divInt n d = q := by
    rw [Rat.divInt_eq_div, ← h, Rat.div_def, Rat.mul_assoc, Rat.mul_inv_cancel _ hd0, Rat.mul_one]
  obtain ⟨num, den, nz, red⟩ := q
  obtain ⟨m, hm0, h1, h2⟩ := Rat.divInt_num_den (by omega) hq
  have hm : 0 < m := by
    rcases Int.lt_trichotomy m 0 with h3 | h3 | h3
    · have : (den : Int) * m ≤ 0 := Int.mul_nonpos_of_nonneg_of_nonpos (by omega) (by omega)
      omega
    · exact absurd h3 hm0
    · exact h3
  refine ⟨?_, ?_⟩
  · show num.natAbs ≤ n.natAbs
    rw [h1, Int.natAbs_mul]
    exact Nat.le_mul_of_pos_right _ (by omega)
  · show (den : Int) ≤ d
    rw [h2]
    have : (den : Int) * 1 ≤ den * m := Int.mul_le_mul_of_nonneg_left (by omega) (by omega)
    omega

/-- Numbers with a common denominator. -/
structure CD (M d : Int) (f : Nat → Rat) : Prop where
  pos : 0 < d
  num : ∀ j, ∃ n : Int, -M ≤ n ∧ n ≤ M ∧ f j * (d : Rat) = (n : Rat)

def CF (s : Nat) (f : Nat → Rat) : Prop := ∃ d : Int, d ≤ 2 ^ s ∧ CD (2 ^ s) d f

theorem two_pow_mono {s t : Nat} (h : s ≤ t) : (2 : Int) ^ s ≤ 2 ^ t := by
  have := Nat.pow_le_pow_right (n := 2) (by omega) h
  exact_mod_cast this
theorem two_pow_pos (s : Nat) : (0 : Int) < 2 ^ s := by
  have := Nat.two_pow_pos s
  exact_mod_cast this

theorem CD.mono {M N d : Int} {f : Nat → Rat} (h : CD M d f) (hM : M ≤ N) : CD N d f :=
  ⟨h.pos, fun j => by obtain ⟨n, h1, h2, h3⟩ := h.num j; exact ⟨n, by omega, by omega, h3⟩⟩

theorem CF.mono {s t : Nat} {f : Nat → Rat} (h : CF s f) (hst : s ≤ t) : CF t f := by
  obtain ⟨d, h1, h2⟩ := h
  have := two_pow_mono hst
  exact ⟨d, by omega, h2.mono this⟩

theorem CF.congr {s : Nat} {f g : Nat → Rat} (h : CF s f) (e : ∀ j, f j = g j) : CF s g := by
  have : f = g := funext e
  exact this ▸ h

theorem CF.comp {s : Nat} {f : Nat → Rat} (h : CF s f) (k : Nat → Nat) : CF s (fun j => f (k j)) := by
  obtain ⟨d, h1, h2⟩ := h
  exact ⟨d, h1, h2.pos, fun j => h2.num (k j)⟩

theorem CF.pick {s : Nat} {f : Nat → Rat} (h : CF s f) (p : Nat → Bool) : CF s (fun j => if p j = true then f j else 0) := by
  obtain ⟨d, h1, h2⟩ := h
  have := two_pow_pos s
  refine ⟨d, h1, h2.pos, fun j => ?_⟩
  by_cases hp : p j = true
  · rw [if_pos hp]; exact h2.num j
  · rw [if_neg hp]; exact ⟨0, by omega, by omega, by rw [Rat.zero_mul]; rfl⟩

theorem CF.zero (s : Nat) : CF s (fun _ => 0) := by
  have := two_pow_pos s
  exact ⟨1, by omega, by omega, fun j => ⟨0, by omega, by omega, by rw [Rat.zero_mul]; rfl⟩⟩

theorem abs_mul_le {a b M N : Int} (h1 : -M ≤ a) (h2 : a ≤ M) (h3 : -N ≤ b) (h4 : b ≤ N) : -(M * N) ≤ a * b ∧ a * b ≤ M * N := by
  have e1 : 0 ≤ (M - a) * (N - b) := Int.mul_nonneg (by omega) (by omega)
  have e2 : 0 ≤ (M + a) * (N + b) := Int.mul_nonneg (by omega) (by omega)
  have e3 : 0 ≤ (M - a) * (N + b) := Int.mul_nonneg (by omega) (by omega)
  have e4 : 0 ≤ (M + a) * (N - b) := Int.mul_nonneg (by omega) (by omega)
  constructor <;> grind

theorem CF.add {s t : Nat} {f g : Nat → Rat} (hf : CF s f) (hg : CF t g) : CF (s + t + 1) (fun j => f j + g j) := by
  obtain ⟨d, h1, h2⟩ := hf
  obtain ⟨e, h3, h4⟩ := hg
  have p1 := two_pow_pos s
  have p2 := two_pow_pos t
  have hd := h2.pos
  have he := h4.pos
  have e1 : (2 : Int) ^ (s + t + 1) = 2 * (2 ^ s * 2 ^ t) := by rw [Int.pow_succ, Int.pow_add]; omega
  rw [CF, e1]
  have b0 := abs_mul_le (a := d) (b := e) (M := 2 ^ s) (N := 2 ^ t) (by omega) (by omega) (by omega) (by omega)
  have bp : 0 < d * e := Int.mul_pos hd he
  refine ⟨d * e, by omega, bp, fun j => ?_⟩
  obtain ⟨n, n1, n2, n3⟩ := h2.num j
  obtain ⟨m, m1, m2, m3⟩ := h4.num j
  have b1 := abs_mul_le (a := n) (b := e) (M := 2 ^ s) (N := 2 ^ t) (by omega) (by omega) (by omega) (by omega)
  have b2 := abs_mul_le (a := d) (b := m) (M := 2 ^ s) (N := 2 ^ t) (by omega) (by omega) (by omega) (by omega)
  refine ⟨n * e + d * m, by omega, by omega, ?_⟩
  rw [Rat.intCast_add, Rat.intCast_mul, Rat.intCast_mul, Rat.intCast_mul, ← n3, ← m3]
  grind

theorem CF.scale {s t : Nat} {f : Nat → Rat} {c : Rat} (hc : CF t (fun _ => c)) (hf : CF s f) : CF (s + t) (fun j => c * f j) := by
  obtain ⟨d, h1, h2⟩ := hf
  obtain ⟨e, h3, h4⟩ := hc
  have p1 := two_pow_pos s
  have p2 := two_pow_pos t
  have hd := h2.pos
  have he := h4.pos
  rw [CF, Int.pow_add]
  have b0 := abs_mul_le (a := d) (b := e) (M := 2 ^ s) (N := 2 ^ t) (by omega) (by omega) (by omega) (by omega)
  have bp : 0 < d * e := Int.mul_pos hd he
  obtain ⟨m, m1, m2, m3⟩ := h4.num 0
  refine ⟨d * e, by omega, bp, fun j => ?_⟩
  obtain ⟨n, n1, n2, n3⟩ := h2.num j
  have b1 := abs_mul_le (a := n) (b := m) (M := 2 ^ s) (N := 2 ^ t) (by omega) (by omega) (by omega) (by omega)
  refine ⟨n * m, b1.1, b1.2, ?_⟩
  rw [Rat.intCast_mul, Rat.intCast_mul, ← n3, ← m3]
  grind

theorem CF.neg {s : Nat} {f : Nat → Rat} (hf : CF s f) : CF s (fun j => -f j) := by
  obtain ⟨d, h1, h2⟩ := hf
  refine ⟨d, h1, h2.pos, fun j => ?_⟩
  obtain ⟨n, n1, n2, n3⟩ := h2.num j
  refine ⟨-n, by omega, by omega, ?_⟩
  rw [Rat.intCast_neg, ← n3]; grind

theorem CF.whole {n : Int} {s : Nat} (h1 : -2 ^ s ≤ n) (h2 : n ≤ 2 ^ s) : CF s (fun _ => (n : Rat)) := by
  have := two_pow_pos s
  exact ⟨1, by omega, by omega, fun j => ⟨n, h1, h2, by show (n : Rat) * 1 = n; rw [Rat.mul_one]⟩⟩

/-- Numbers divided by one of them. -/
theorem CF.div {s : Nat} {f : Nat → Rat} (hf : CF s f) (k : Nat) (h0 : f k ≠ 0) : CF s (fun j => (f k)⁻¹ * f j) := by
  obtain ⟨d, h1, h2⟩ := hf
  obtain ⟨m, m1, m2, m3⟩ := h2.num k
  have hd := h2.pos
  have hd0 : (d : Rat) ≠ 0 := fun h => by rw [Rat.intCast_eq_zero_iff] at h; omega
  have hm0 : m ≠ 0 := fun h => by
    rw [h] at m3
    rcases Rat.mul_eq_zero.1 (show f k * (d : Rat) = 0 from m3) with h' | h'
    · exact h0 h'
    · exact hd0 h'
  have hk : ∀ j, ∃ n : Int, -2 ^ s ≤ n ∧ n ≤ 2 ^ s ∧ (f k)⁻¹ * f j * (m : Rat) = (n : Rat) := fun j => by
    obtain ⟨n, n1, n2, n3⟩ := h2.num j
    refine ⟨n, n1, n2, ?_⟩
    rw [← m3, ← n3]
    have := Rat.inv_mul_cancel _ h0
    grind
  rcases Int.lt_or_le m 0 with hm | hm
  · refine ⟨-m, by omega, by omega, fun j => ?_⟩
    obtain ⟨n, n1, n2, n3⟩ := hk j
    refine ⟨-n, by omega, by omega, ?_⟩
    rw [Rat.intCast_neg, Rat.intCast_neg, ← n3]; grind
  · exact ⟨m, m2, by omega, hk⟩

theorem CF.inv {s : Nat} {c : Rat} (hc : CF s (fun _ => c)) (h0 : c ≠ 0) : CF s (fun _ => c⁻¹) := by
  obtain ⟨d, h1, h2⟩ := hc
  obtain ⟨m, m1, m2, m3⟩ := h2.num 0
  have hd := h2.pos
  have hd0 : (d : Rat) ≠ 0 := fun h => by rw [Rat.intCast_eq_zero_iff] at h; omega
  have hm0 : m ≠ 0 := fun h => by
    rw [h] at m3
    rcases Rat.mul_eq_zero.1 (show c * (d : Rat) = 0 from m3) with h' | h'
    · exact h0 h'
    · exact hd0 h'
  have hk : c⁻¹ * (m : Rat) = (d : Rat) := by
    rw [← m3]
    have := Rat.inv_mul_cancel _ h0
    grind
  rcases Int.lt_or_le m 0 with hm | hm
  · refine ⟨-m, by omega, by omega, fun j => ⟨-d, by omega, by omega, ?_⟩⟩
    rw [Rat.intCast_neg, Rat.intCast_neg, ← hk]; grind
  · exact ⟨m, m2, by omega, fun j => ⟨d, by omega, by omega, hk⟩⟩

/-- Size of one of them. -/
theorem CF.nd {s : Nat} {f : Nat → Rat} (hf : CF s f) (j : Nat) : ((f j).num.natAbs : Int) ≤ 2 ^ s ∧ ((f j).den : Int) ≤ 2 ^ s := by
  obtain ⟨d, h1, h2⟩ := hf
  obtain ⟨n, n1, n2, n3⟩ := h2.num j
  obtain ⟨q1, q2⟩ := nd_of h2.pos n3
  exact ⟨by omega, by omega⟩
/-- A list whose numbers are small one by one. -/
theorem CF.list {s : Nat} : ∀ (P : List Rat), (∀ q ∈ P, CF s (fun _ => q)) → CF (P.length * s) (fun j => P.getD j 0)
  | [], _ => (CF.zero _).congr fun j => by simp
  | q :: P, h => by
    have ih := CF.list P fun p hp => h p (List.mem_cons_of_mem _ hp)
    obtain ⟨d, h1, h2⟩ := h q (List.mem_cons_self ..)
    obtain ⟨e, h3, h4⟩ := ih
    obtain ⟨m, m1, m2, m3⟩ := h2.num 0
    have p1 := two_pow_pos s
    have p2 := two_pow_pos (P.length * s)
    have hd := h2.pos
    have he := h4.pos
    have b0 := abs_mul_le (a := e) (b := d) (M := 2 ^ (P.length * s)) (N := 2 ^ s) (by omega) (by omega) (by omega) (by omega)
    have b1 := abs_mul_le (a := e) (b := m) (M := 2 ^ (P.length * s)) (N := 2 ^ s) (by omega) (by omega) (by omega) (by omega)
    have bp : 0 < e * d := Int.mul_pos he hd
    rw [List.length_cons, Nat.succ_mul, CF, Int.pow_add]
    refine ⟨e * d, b0.2, bp, fun j => ?_⟩
    cases j with
    | zero =>
      refine ⟨e * m, b1.1, b1.2, ?_⟩
      rw [List.getD_cons_zero, Rat.intCast_mul, Rat.intCast_mul, ← m3]; grind
    | succ j =>
      obtain ⟨n, n1, n2, n3⟩ := h4.num j
      have b2 := abs_mul_le (a := n) (b := d) (M := 2 ^ (P.length * s)) (N := 2 ^ s) (by omega) (by omega) (by omega) (by omega)
      refine ⟨n * d, b2.1, b2.2, ?_⟩
      rw [List.getD_cons_succ, Rat.intCast_mul, Rat.intCast_mul, ← n3]; grind

/-- The coefficient of x^j of a product, the first i coefficients of the first factor used. -/
def cnv (f g : Nat → Rat) (j : Nat) : Nat → Rat
  | 0 => 0
  | i + 1 => cnv f g j i + if i ≤ j then f i * g (j - i) else 0

theorem CF.prod {s t l : Nat} {f g : Nat → Rat} (hf : CF s f) (hg : CF t g) {i : Nat} (hi : i ≤ 2 ^ l) : CF (s + t + l) (fun j => cnv f g j i) := by
  obtain ⟨d, h1, h2⟩ := hf
  obtain ⟨e, h3, h4⟩ := hg
  have p1 := two_pow_pos s
  have p2 := two_pow_pos t
  have p3 := two_pow_pos l
  have hd := h2.pos
  have he := h4.pos
  have b0 := abs_mul_le (a := d) (b := e) (M := 2 ^ s) (N := 2 ^ t) (by omega) (by omega) (by omega) (by omega)
  have bp : 0 < d * e := Int.mul_pos hd he
  have hk : ∀ (j k : Nat), ∃ n : Int, -((k : Int) * (2 ^ s * 2 ^ t)) ≤ n ∧ n ≤ (k : Int) * (2 ^ s * 2 ^ t) ∧ cnv f g j k * ((d * e : Int) : Rat) = (n : Rat) := fun j k => by
    induction k with
    | zero => exact ⟨0, by simp, by simp, by show 0 * _ = (0 : Rat); rw [Rat.zero_mul]⟩
    | succ k ih =>
      obtain ⟨n, n1, n2, n3⟩ := ih
      have e1 : ((k + 1 : Nat) : Int) * (2 ^ s * 2 ^ t) = (k : Int) * (2 ^ s * 2 ^ t) + 2 ^ s * 2 ^ t := by push_cast; grind
      have e2 : (0 : Int) ≤ 2 ^ s * 2 ^ t := Int.mul_nonneg (by omega) (by omega)
      rw [e1]
      by_cases hkj : k ≤ j
      · obtain ⟨x, x1, x2, x3⟩ := h2.num k
        obtain ⟨y, y1, y2, y3⟩ := h4.num (j - k)
        have b1 := abs_mul_le x1 x2 y1 y2
        refine ⟨n + x * y, by omega, by omega, ?_⟩
        unfold cnv
        rw [if_pos hkj, Rat.intCast_add, ← n3, Rat.intCast_mul, Rat.intCast_mul, ← x3, ← y3]; grind
      · refine ⟨n, by omega, by omega, ?_⟩
        unfold cnv
        rw [if_neg hkj, Rat.add_zero, n3]
  have hl : (i : Int) ≤ 2 ^ l := by exact_mod_cast hi
  have hle : (i : Int) * (2 ^ s * 2 ^ t) ≤ 2 ^ l * (2 ^ s * 2 ^ t) := Int.mul_le_mul_of_nonneg_right hl (Int.mul_nonneg (by omega) (by omega))
  have h1l : 1 * (2 ^ s * 2 ^ t) ≤ (2 : Int) ^ l * (2 ^ s * 2 ^ t) := Int.mul_le_mul_of_nonneg_right (by omega) (Int.mul_nonneg (by omega) (by omega))
  have e0 : (2 : Int) ^ (s + t + l) = 2 ^ l * (2 ^ s * 2 ^ t) := by rw [Int.pow_add, Int.pow_add]; grind
  rw [CF, e0]
  refine ⟨d * e, by omega, bp, fun j => ?_⟩
  obtain ⟨n, n1, n2, n3⟩ := hk j i
  exact ⟨n, by omega, by omega, n3⟩

/-- Two rows of numbers with the same denominator. -/
def CF2 (s : Nat) (f g : Nat → Rat) : Prop := ∃ d : Int, d ≤ 2 ^ s ∧ CD (2 ^ s) d f ∧ CD (2 ^ s) d g
theorem CF2.mono {s t : Nat} {f g : Nat → Rat} (h : CF2 s f g) (hst : s ≤ t) : CF2 t f g := by
  obtain ⟨d, h1, h2, h3⟩ := h
  have := two_pow_mono hst
  exact ⟨d, by omega, h2.mono this, h3.mono this⟩
theorem CF2.left {s : Nat} {f g : Nat → Rat} (h : CF2 s f g) : CF s f := by obtain ⟨d, h1, h2, h3⟩ := h; exact ⟨d, h1, h2⟩
theorem CF2.right {s : Nat} {f g : Nat → Rat} (h : CF2 s f g) : CF s g := by obtain ⟨d, h1, h2, h3⟩ := h; exact ⟨d, h1, h3⟩

/-- One round of a long division. -/
theorem CF2.round {s t : Nat} {f g b : Nat → Rat} {v : Rat} {n : Nat} (h : CF2 s f g) (hb : CF t b) (hv : b n * v = 1) (top i : Nat) :
    CF2 (s + t + 1) (fun j => f j + if i ≤ j then -(f top * v) * b (j - i) else 0) (fun j => if j = i then f top * v else g j) := by
  obtain ⟨d, h1, h2, h3⟩ := h
  obtain ⟨e, h4, h5⟩ := hb
  obtain ⟨m, m1, m2, m3⟩ := h5.num n
  have hd := h2.pos
  have he := h5.pos
  have p1 := two_pow_pos s
  have p2 := two_pow_pos t
  have he0 : (e : Rat) ≠ 0 := fun h => by rw [Rat.intCast_eq_zero_iff] at h; omega
  have hm0 : m ≠ 0 := fun h => by
    rw [h] at m3
    rcases Rat.mul_eq_zero.1 (show b n * (e : Rat) = 0 from m3) with h' | h'
    · rw [h', Rat.zero_mul] at hv; exact absurd hv (by decide)
    · exact he0 h'
  have e1 : (2 : Int) ^ (s + t + 1) = 2 * (2 ^ s * 2 ^ t) := by rw [Int.pow_succ, Int.pow_add]; omega
  have e2 : (0 : Int) ≤ 2 ^ s * 2 ^ t := Int.mul_nonneg (by omega) (by omega)
  -- with the sign of m
  have hs : ∃ (w : Int) (y : Nat → Int), 0 < w ∧ w ≤ 2 ^ t ∧ (∀ j, -2 ^ t ≤ y j ∧ y j ≤ 2 ^ t ∧ v * b j * (w : Rat) = (y j : Rat)) ∧ ∃ z : Int, -2 ^ t ≤ z ∧ z ≤ 2 ^ t ∧ v * (w : Rat) = (z : Rat) := by
    have hvm : v * (m : Rat) = (e : Rat) := by rw [← m3]; grind
    have hj : ∀ j, ∃ x : Int, -2 ^ t ≤ x ∧ x ≤ 2 ^ t ∧ v * b j * (m : Rat) = (x : Rat) := fun j => by
      obtain ⟨x, x1, x2, x3⟩ := h5.num j
      refine ⟨x, x1, x2, ?_⟩
      rw [← x3, ← hvm]; grind
    rcases Int.lt_or_le m 0 with hm | hm
    · refine ⟨-m, fun j => -(hj j).choose, by omega, by omega, fun j => ?_, -e, by omega, by omega, ?_⟩
      · obtain ⟨x1, x2, x3⟩ := (hj j).choose_spec
        show -2 ^ t ≤ -(hj j).choose ∧ -(hj j).choose ≤ 2 ^ t ∧ v * b j * ((-m : Int) : Rat) = ((-(hj j).choose : Int) : Rat)
        refine ⟨by omega, by omega, ?_⟩
        rw [Rat.intCast_neg, Rat.intCast_neg, ← x3]; grind
      · rw [Rat.intCast_neg, Rat.intCast_neg, ← hvm]; grind
    · exact ⟨m, fun j => (hj j).choose, by omega, by omega, fun j => (hj j).choose_spec, e, by omega, by omega, hvm⟩
  obtain ⟨w, y, w1, w2, hy, z, z1, z2, z3⟩ := hs
  obtain ⟨x, x1, x2, x3⟩ := h2.num top
  have bp : 0 < d * w := Int.mul_pos hd w1
  have b0 := abs_mul_le (a := d) (b := w) (M := 2 ^ s) (N := 2 ^ t) (by omega) (by omega) (by omega) (by omega)
  rw [CF2, e1]
  refine ⟨d * w, by omega, ⟨bp, fun j => ?_⟩, ⟨bp, fun j => ?_⟩⟩
  · obtain ⟨a, a1, a2, a3⟩ := h2.num j
    have b1 := abs_mul_le (a := a) (b := w) a1 a2 (N := 2 ^ t) (by omega) (by omega)
    by_cases hij : i ≤ j
    · obtain ⟨y1, y2, y3⟩ := hy (j - i)
      have b2 := abs_mul_le x1 x2 y1 y2
      refine ⟨a * w - x * y (j - i), by omega, by omega, ?_⟩
      rw [if_pos hij, Rat.intCast_sub, Rat.intCast_mul, Rat.intCast_mul, Rat.intCast_mul, ← a3, ← x3, ← y3]; grind
    · refine ⟨a * w, by omega, by omega, ?_⟩
      rw [if_neg hij, Rat.intCast_mul, Rat.intCast_mul, ← a3]; grind
  · by_cases hij : j = i
    · have b2 := abs_mul_le x1 x2 z1 z2
      refine ⟨x * z, by omega, by omega, ?_⟩
      rw [if_pos hij, Rat.intCast_mul, Rat.intCast_mul, ← x3, ← z3]; grind
    · obtain ⟨a, a1, a2, a3⟩ := h3.num j
      have b1 := abs_mul_le (a := a) (b := w) a1 a2 (N := 2 ^ t) (by omega) (by omega)
      refine ⟨a * w, by omega, by omega, ?_⟩
      rw [if_neg hij, Rat.intCast_mul, Rat.intCast_mul, ← a3]; grind
end Go.Abs
end

section
set_option linter.unusedVariables false
set_option linter.unusedSimpArgs false
set_option maxHeartbeats 8000000
set_option linter.unusedVariables false
set_option linter.unusedSimpArgs false
set_option maxRecDepth 100000
namespace Go.Proofs.YtdhidmcjglokcaaGreat
open Go Go.Abs Go.Abs.M Go.Proofs

/-- A long division after j of its k rounds: what is left, and the quotient. -/
def dvT (B : List Rat) (n : Nat) (v : Rat) (P : List Rat) (k : Nat) : Nat → List Rat × List Rat
  | 0 => (P, List.replicate k 0)
  | j + 1 => (pacc (dvT B n v P k j).1 (-((dvT B n v P k j).1.getD (k - 1 - j + n) 0 * v)) B (k - 1 - j), (dvT B n v P k j).2.set (k - 1 - j) ((dvT B n v P k j).1.getD (k - 1 - j + n) 0 * v))

theorem dvT_len (B : List Rat) (n : Nat) (v : Rat) (P : List Rat) (k : Nat) : ∀ j, (dvT B n v P k j).1.length = P.length ∧ (dvT B n v P k j).2.length = k
  | 0 => ⟨rfl, List.length_replicate⟩
  | j + 1 => by
    obtain ⟨h1, h2⟩ := dvT_len B n v P k j
    refine ⟨?_, ?_⟩
    · show (pacc _ _ _ _).length = _
      unfold pacc
      rw [accL_len, h1]
    · show (List.set _ _ _).length = _
      rw [List.length_set, h2]

theorem dvT_spec {B : List Rat} {n : Nat} {v : Rat} {P : List Rat} {k : Nat} (hB : B.length = n + 1) (hv : B.getD n 0 * v = 1) (hk : P.length = k + n) : ∀ j, j ≤ k →
    (∀ x, Abs.ev (dvT B n v P k j).1 x + Abs.ev (dvT B n v P k j).2 x * Abs.ev B x = Abs.ev P x) ∧ (∀ i, n + (k - j) ≤ i → (dvT B n v P k j).1.getD i 0 = 0) ∧ (∀ i, i < k - j → (dvT B n v P k j).2.getD i 0 = 0)
  | 0, _ => by
    refine ⟨fun x => ?_, fun i hi => ?_, fun i hi => ?_⟩
    · show Abs.ev P x + Abs.ev (List.replicate k 0) x * _ = _
      rw [ev_zeros]; grind
    · show P.getD i 0 = 0
      rw [List.getD_eq_getElem?_getD, List.getElem?_eq_none (by omega)]; rfl
    · show (List.replicate k (0 : Rat)).getD i 0 = 0
      rw [List.getD_eq_getElem?_getD, List.getElem?_replicate]; split <;> rfl
  | j + 1, hj => by
    obtain ⟨h1, h2, h3⟩ := dvT_spec hB hv hk j (by omega)
    obtain ⟨l1, l2⟩ := dvT_len B n v P k j
    have e : dvT B n v P k (j + 1) = (pacc (dvT B n v P k j).1 (-((dvT B n v P k j).1.getD (k - 1 - j + n) 0 * v)) B (k - 1 - j), (dvT B n v P k j).2.set (k - 1 - j) ((dvT B n v P k j).1.getD (k - 1 - j + n) 0 * v)) := rfl
    generalize dvT B n v P k j = s at *
    obtain ⟨R, Q⟩ := s
    rw [e]
    obtain ⟨i, hi⟩ : ∃ i, i = k - 1 - j := ⟨_, rfl⟩
    rw [← hi]
    dsimp only at h1 h2 h3 l1 l2 ⊢
    generalize hc : R.getD (i + n) 0 * v = c
    refine ⟨fun x => ?_, fun t ht => ?_, fun t ht => ?_⟩
    · rw [ev_pacc _ _ _ _ _ (by omega), ev_set _ _ _ _ (by omega), h3 i (by omega)]
      have := h1 x
      grind
    · rw [pacc_get _ _ _ _ _ (by omega), if_pos (by omega)]
      by_cases h : t = i + n
      · subst h
        rw [show i + n - i = n by omega, ← hc]
        grind
      · rw [h2 t (by omega), List.getD_eq_getElem?_getD (l := B), List.getElem?_eq_none (by omega)]
        simp [Rat.mul_zero, Rat.add_zero]
    · rw [List.getD_eq_getElem?_getD, List.getElem?_set, if_neg (by omega), ← List.getD_eq_getElem?_getD, h3 t (by omega)]

theorem dvT_cf {B : List Rat} {n : Nat} {v : Rat} {P : List Rat} {k s t : Nat} (hB : B.length = n + 1) (hv : B.getD n 0 * v = 1) (hk : P.length = k + n) (hP : CF s (fun j => P.getD j 0)) (hb : CF t (fun j => B.getD j 0)) : ∀ j, j ≤ k →
    CF2 (s + j * (t + 1)) (fun i => (dvT B n v P k j).1.getD i 0) (fun i => (dvT B n v P k j).2.getD i 0)
  | 0, _ => by
    obtain ⟨d, h1, h2⟩ := hP
    have := two_pow_pos s
    rw [Nat.zero_mul, Nat.add_zero]
    refine ⟨d, h1, h2, h2.pos, fun j => ⟨0, by omega, by omega, ?_⟩⟩
    show (List.replicate k (0 : Rat)).getD j 0 * _ = _
    rw [List.getD_eq_getElem?_getD, List.getElem?_replicate]
    split
    · exact Rat.zero_mul _
    · exact Rat.zero_mul _
  | j + 1, hj => by
    have ih := dvT_cf hB hv hk hP hb j (by omega)
    obtain ⟨l1, l2⟩ := dvT_len B n v P k j
    have e : dvT B n v P k (j + 1) = (pacc (dvT B n v P k j).1 (-((dvT B n v P k j).1.getD (k - 1 - j + n) 0 * v)) B (k - 1 - j), (dvT B n v P k j).2.set (k - 1 - j) ((dvT B n v P k j).1.getD (k - 1 - j + n) 0 * v)) := rfl
    rw [e]
    have h := ih.round hb hv (k - 1 - j + n) (k - 1 - j)
    rw [show s + j * (t + 1) + t + 1 = s + (j + 1) * (t + 1) by rw [Nat.succ_mul]; omega] at h
    have e1 : (fun i => (pacc (dvT B n v P k j).1 (-((dvT B n v P k j).1.getD (k - 1 - j + n) 0 * v)) B (k - 1 - j)).getD i 0) = fun i => (dvT B n v P k j).1.getD i 0 + if k - 1 - j ≤ i then -((dvT B n v P k j).1.getD (k - 1 - j + n) 0 * v) * B.getD (i - (k - 1 - j)) 0 else 0 := funext fun i => pacc_get _ _ _ _ _ (by omega)
    have e2 : (fun i => ((dvT B n v P k j).2.set (k - 1 - j) ((dvT B n v P k j).1.getD (k - 1 - j + n) 0 * v)).getD i 0) = fun i => if i = k - 1 - j then (dvT B n v P k j).1.getD (k - 1 - j + n) 0 * v else (dvT B n v P k j).2.getD i 0 := funext fun i => by
      rw [List.getD_eq_getElem?_getD, List.getElem?_set]
      by_cases h : k - 1 - j = i
      · rw [if_pos h, if_pos h.symm, if_pos (by omega)]; rfl
      · rw [if_neg h, if_neg fun h' => h h'.symm, List.getD_eq_getElem?_getD]
    show CF2 _ (fun i => (pacc _ _ _ _).getD i 0) (fun i => (List.set _ _ _).getD i 0)
    rw [e1, e2]
    exact h

theorem bits_words (s : Nat) : (2 : Int) ^ s < 4294967296 ^ (s / 32 + 1) := by
  obtain ⟨t, ht⟩ : ∃ t, t = 32 * (s / 32 + 1) := ⟨_, rfl⟩
  have h1 : (2 : Nat) ^ s < 2 ^ t := Nat.pow_lt_pow_right (by omega) (by omega)
  have h2 : (2 : Int) ^ s < 2 ^ t := by exact_mod_cast h1
  rw [ht, Int.pow_mul, show ((2 : Int) ^ 32) = 4294967296 from by decide] at h2
  exact h2

theorem cf_qs {s : Nat} {f : Nat → Rat} (h : CF s f) (j : Nat) : Qs (f j) (s / 32 + 1) := by
  obtain ⟨h1, h2⟩ := h.nd j
  have := bits_words s
  exact ⟨nl_le_of (by omega), nl_le_of (by omega)⟩

theorem cf_qsl {s : Nat} {P : List Rat} (h : CF s (fun j => P.getD j 0)) : ∀ q ∈ P, Qs q (s / 32 + 1) := fun q hq => by
  obtain ⟨j, hj⟩ := List.getElem?_of_mem hq
  have := cf_qs h j
  rw [List.getD_eq_getElem?_getD, hj] at this
  exact this

theorem csum_cnv (P B : List Rat) (j : Nat) : ∀ i, csum P B j i = cnv (fun k => P.getD k 0) (fun k => B.getD k 0) j i
  | 0 => rfl
  | i + 1 => by unfold csum cnv; rw [csum_cnv P B j i]

theorem pmul_get (P B : List Rat) (j : Nat) : (pmul P B).getD j 0 = csum P B j P.length := by
  unfold pmul
  rw [pmulL_get (by simp; omega) _ _ (Nat.le_refl _), List.getD_eq_getElem?_getD, List.getElem?_replicate]
  split <;> simp [Rat.zero_add]

/-- P is the list of the polynomial f: trimmed, at most n coefficients, a common denominator, s bits. -/
structure PB (f : Rat → Rat) (n s : Nat) (P : List Rat) : Prop where
  tr : ptrim P = P
  ev : ∀ x, Abs.ev P x = f x
  len : P.length ≤ n
  cf : CF s (fun j => P.getD j 0)

theorem PB.pl {f : Rat → Rat} {n s : Nat} {P : List Rat} (h : PB f n s P) : PL f n (s / 32 + 1) P := ⟨h.tr, h.ev, h.len, cf_qsl h.cf⟩
theorem PB.mono {f : Rat → Rat} {n s m t : Nat} {P : List Rat} (h : PB f n s P) (h1 : n ≤ m) (h2 : s ≤ t) : PB f m t P := ⟨h.tr, h.ev, Nat.le_trans h.len h1, h.cf.mono h2⟩
theorem PB.congr {f g : Rat → Rat} {n s : Nat} {P : List Rat} (h : PB f n s P) (e : ∀ x, f x = g x) : PB g n s P := ⟨h.tr, fun x => by rw [h.ev, e], h.len, h.cf⟩
theorem PB.of_pl {f : Rat → Rat} {n k s : Nat} {P L : List Rat} (h : PL f n k P) (hL : ∀ x, Abs.ev L x = f x) (hc : CF s (fun j => L.getD j 0)) : PB f n s P :=
  ⟨h.tr, h.ev, h.len, hc.congr fun j => (ev_coef (fun x => by rw [hL, h.ev]) j)⟩
theorem PB.of_trim {f : Rat → Rat} {n s : Nat} {P : List Rat} (h1 : ∀ x, Abs.ev P x = f x) (h2 : P.length ≤ n) (h3 : CF s (fun j => P.getD j 0)) : PB f n s (ptrim P) :=
  ⟨ptrim_idem P, fun x => by rw [ev_trim, h1], Nat.le_trans (ptrim_len P) h2, h3.congr fun j => (ptrim_get P j).symm⟩
theorem pb_add {f g : Rat → Rat} {n m s t : Nat} {P B : List Rat} (hP : PB f n s P) (hB : PB g m t B) (hn : n ≤ 1000) (hm : m ≤ 1000) (hs : s + t ≤ 2000000000) :
    ∃ R, PB (fun x => f x + g x) (max n m) (s + t + 1) R ∧ ACall Tryz.prog 16 [.val (tl (ur P)), .val (tl (ur B))] ⟨[.val (tl (ur R))], [none, none]⟩ := by
  obtain ⟨R, hR, c⟩ := pl_add hP.pl hB.pl (by omega) hn hm (by omega)
  refine ⟨R, PB.of_pl (L := pshift P 1 B 0) hR (fun x => ?_) ((hP.cf.add hB.cf).congr fun j => ?_), c⟩
  · rw [ev_shift, hP.ev, hB.ev]; grind
  · rw [pshift_get, if_pos (Nat.zero_le _), Nat.sub_zero, Rat.one_mul]

theorem pb_sub {f g : Rat → Rat} {n m s t : Nat} {P B : List Rat} (hP : PB f n s P) (hB : PB g m t B) (hn : n ≤ 1000) (hm : m ≤ 1000) (hs : s + t ≤ 2000000000) :
    ∃ R, PB (fun x => f x - g x) (max n m) (s + t + 1) R ∧ ACall Tryz.prog 18 [.val (tl (ur P)), .val (tl (ur B))] ⟨[.val (tl (ur R))], [none, none]⟩ := by
  obtain ⟨R, hR, c⟩ := pl_sub hP.pl hB.pl (by omega) hn hm (by omega)
  refine ⟨R, PB.of_pl (L := pshift P (-1) B 0) hR (fun x => ?_) ((hP.cf.add hB.cf.neg).congr fun j => ?_), c⟩
  · rw [ev_shift, hP.ev, hB.ev]; grind
  · rw [pshift_get, if_pos (Nat.zero_le _), Nat.sub_zero]; grind

theorem pb_scale {g : Rat → Rat} {m s t : Nat} {c : Rat} {B : List Rat} (hc : CF s (fun _ => c)) (hB : PB g m t B) (hm : m ≤ 1000) (hs : s + t ≤ 2000000000) :
    ∃ R, PB (fun x => c * g x) m (t + s) R ∧ ACall Tryz.prog 21 [.val (.agg (qc c).row), .val (tl (ur B))] ⟨[.val (tl (ur R))], [none, none]⟩ := by
  obtain ⟨R, hR, k⟩ := pl_scale (cf_qs hc 0) hB.pl hm (by omega)
  refine ⟨R, PB.of_pl (L := pshift [] c B 0) hR (fun x => ?_) ((CF.scale hc hB.cf).congr fun j => ?_), k⟩
  · rw [ev_shift, hB.ev]; simp only [Abs.ev]; grind
  · rw [pshift_get, if_pos (Nat.zero_le _), Nat.sub_zero, List.getD_nil, Rat.zero_add]

theorem pb_mul {f g : Rat → Rat} {n m s t : Nat} (l : Nat) {P B : List Rat} (hP : PB f n s P) (hB : PB g m t B) (hl : n ≤ 2 ^ l) (hn : n + m ≤ 1000) (hs : s + t ≤ 2000000000) :
    ∃ R, PB (fun x => f x * g x) (n + m - 1) (s + t + l) R ∧ ACall Tryz.prog 17 [.val (tl (ur P)), .val (tl (ur B))] ⟨[.val (tl (ur R))], [none, none]⟩ := by
  obtain ⟨R, hR, c⟩ := pl_mul hP.pl hB.pl hn (by omega)
  refine ⟨R, PB.of_pl (L := pmul P B) hR (fun x => ?_) ((hP.cf.prod hB.cf (i := P.length) (Nat.le_trans hP.len hl)).congr fun j => ?_), c⟩
  · rw [ev_pmul, hP.ev, hB.ev]
  · rw [pmul_get, csum_cnv]

theorem PB.nil (s : Nat) : PB (fun _ => 0) 0 s [] := ⟨rfl, fun _ => rfl, Nat.le_refl _, (CF.zero s).congr fun j => by simp⟩
theorem PB.inj {f g : Rat → Rat} {n k m l : Nat} {P Q : List Rat} (h1 : PB f n k P) (h2 : PB g m l Q) (h : ∀ x, f x = g x) : P = Q := h1.pl.inj h2.pl h
end Go.Proofs.YtdhidmcjglokcaaGreat
end

section
set_option linter.unusedVariables false
set_option linter.unusedSimpArgs false
set_option maxHeartbeats 8000000
set_option linter.unusedVariables false
set_option linter.unusedSimpArgs false
set_option maxRecDepth 100000
namespace Go.Proofs.YtdhidmcjglokcaaGreat
open Go Go.Abs Go.Abs.M Go.Proofs

theorem ur_wide (P : List Rat) : ((ur P).all fun r => r.length == 4) = true := by
  refine List.all_eq_true.2 fun r hr => ?_
  obtain ⟨c, _, rfl⟩ := List.mem_map.1 hr
  rfl

/-- The dividend is shorter than the divisor. -/
theorem udivmod_short (P B : List Rat) (h : P.length < B.length) (hl : B.length ≤ 1000) : ACall Tryz.prog 23 [.val (tl (ur P)), .val (tl (ur B))] ⟨[.val (tl []), .val (tl (ur P)), .val (ti .i64 0)], [none, none]⟩ := by
  have lX := ur_len P
  have lY := ur_len B
  have wX := ur_wide P
  generalize P.length = m at *
  generalize B.length = l at *
  generalize ur P = X at *
  generalize ur B = Y at *
  refine callZ ccOk mixed [.val, .val, .val] Tryz.func23 rfl rfl (by kernel_rfl) fun zwrap zadd zsub zmul zquo zrem zshl zshr zband zbor zbxor zbandn zeq zne zlt zle znot zbeq zbne zmax zmin znat zinb zofN zidx zneq znadd zdif zcut zroom zmkok zlen znth zsetr zisI zgetI zsetI zfit zpart zext zsetg zrep zwide zall zmok zmget zmset zW zth A L F hS hF => ?_
  obtain ⟨M, hM, eM⟩ : ∃ M : Int, M = (m : Int) ∧ zofN (zlen X) = M := ⟨_, rfl, by rw [hS.ofN, hS.len, lX]⟩
  obtain ⟨N, hN, eN⟩ : ∃ N : Int, N + 1 = (l : Int) ∧ zwrap .i64 (zsub (zofN (zlen Y)) 1) = N := ⟨(l : Int) - 1, by omega, by rw [hS.ofN, hS.len, lY, hS.sub, hS.wrap, wrap_i64 (by omega) (by omega)]⟩
  have e1 : zeq (zofN (zlen Y)) 0 = false := by rw [hS.eq, hS.ofN, hS.len, lY]; exact decide_eq_false (by omega)
  have eMn : znat M = m := by rw [hS.nat, hM, Int.toNat_natCast]
  have k0 : zmkok M M 64 = true := by rw [hS.mkok]; exact decide_eq_true (by unfold capBytes; omega)
  obtain ⟨R0, hR0, r0⟩ : ∃ R0, R0 = List.replicate m rawZ ∧ zrep m [.v (.bool false), .lst true [], .v (.bool false), .lst true []] = R0 := ⟨_, rfl, by rw [hS.rep]; rfl⟩
  have hR0l : R0.length = m := by rw [hR0, List.length_replicate]
  have f1 : zfit 0 m R0 = true := by rw [hS.fit, hR0l]; exact decide_eq_true (by omega)
  have f2 : zwide 4 X = true := by rw [hS.wide]; exact wX
  have eMo : zofN m = M := by rw [hS.ofN, hM]
  have f3 : zle M M = true := by rw [hS.le]; exact decide_eq_true (Int.le_refl _)
  have f0 : zsetg R0 0 X = X := by rw [hS.setg]; unfold setRange; rw [List.take_zero, List.nil_append, Nat.zero_add, lX, ← hR0l, List.drop_length, List.append_nil]
  have f4 : zfit 0 m X = true := by rw [hS.fit, lX]; exact decide_eq_true (by omega)
  have f5 : zpart X 0 m = X := by rw [hS.part, ← lX, List.drop_zero, List.take_length]
  have c1 : zle M N = true := by rw [hS.le]; exact decide_eq_true (by omega)
  cbv
  have hM : M = (m : Int) := hM
  have hN : N + 1 = (l : Int) := hN
  refine bF e1 ?_
  rw [eM, eMn, r0]
  refine nd (k0) ?_
  refine nd (f1) ?_
  refine nd (f2) ?_
  rw [eMo]
  refine nd (f3) ?_
  rw [f0, eN]
  refine bT (c1) ?_
  refine nd (f4) ?_
  rw [f5]
  exact fin3w hF (TLe.drop _ _) (TVLe.refl _) (TVLe.refl _)

def udvSt (Y R Q : Abs.Rows) (m k : Nat) (s2 : Bool) (r2 : Abs.Rows) (t2 : Bool) (p2 : Abs.Rows) (N I : Int) : St := mkSt 76 [.junk, .c (.t (.lst false Y)), .junk, .junk, .junk, .junk, .junk, .c (.sl 2 0 m false), vi .i64 N, .c (.ptr 5 0 0), .junk, .c (.sl 6 0 k false), vi .i64 I] [none, none, some (.rows 4 R true false), none, none, some (.var [.t (.v (.bool s2)), .t (.lst false r2), .t (.v (.bool t2)), .t (.lst false p2)]), some (.rows 4 Q true false)]

theorem udivmod_long (P B : List Rat) (n k a b : Nat) (hk : P.length = k + n) (hBl : B.length = n + 1) (hB : B.getD n 0 ≠ 0) (hkn : k + n ≤ 999) (hk1 : 1 ≤ k)
    (hsz : ∀ j, j ≤ k → ∀ q ∈ (dvT B n (B.getD n 0)⁻¹ P k j).1, Qs q a) (h2 : ∀ q ∈ B, Qs q b) (hs : a + 2 * b ≤ 68719476736) :
    ACall Tryz.prog 23 [.val (tl (ur P)), .val (tl (ur B))] ⟨[.val (tl (ur (ptrim (dvT B n (B.getD n 0)⁻¹ P k k).2))), .val (tl (ur (ptrim ((dvT B n (B.getD n 0)⁻¹ P k k).1.take n)))), .val (ti .i64 0)], [none, none]⟩ := by
  obtain ⟨m, hm⟩ : ∃ m, m = k + n := ⟨_, rfl⟩
  obtain ⟨l, hl2⟩ : ∃ m, m = n + 1 := ⟨_, rfl⟩
  obtain ⟨L, hL⟩ : ∃ L, L = B.getD n 0 := ⟨_, rfl⟩
  have hBi : B[n]? = some L := by rw [hL, List.getD_eq_getElem?_getD, List.getElem?_eq_getElem (by omega)]; rfl
  rw [← hL] at hB hsz ⊢
  have hLb := h2 L (List.mem_of_getElem? hBi)
  obtain ⟨hLi, ci⟩ := pinv_row hB hLb (by omega)
  have cz := uzeros_call k (by omega)
  obtain ⟨v, hv⟩ : ∃ v, v = L⁻¹ := ⟨_, rfl⟩
  rw [← hv] at ci hLi hsz ⊢
  obtain ⟨T1, hT1⟩ : ∃ T, T = ur (ptrim (dvT B n v P k k).2) := ⟨_, rfl⟩
  obtain ⟨T2, hT2⟩ : ∃ T, T = ur (ptrim ((dvT B n v P k k).1.take n)) := ⟨_, rfl⟩
  rw [← hT1, ← hT2]
  obtain ⟨s, t, r, p, hrow, _⟩ := qrow L
  obtain ⟨s2, t2, r2, p2, hrow2, _⟩ := qrow v
  rw [hrow, hrow2] at ci
  have hYn := ur_get hBi
  rw [hrow] at hYn
  have lX := ur_len P
  have lY := ur_len B
  have wX := ur_wide P
  obtain ⟨X, hX⟩ : ∃ X, X = ur P := ⟨_, rfl⟩
  obtain ⟨Y, hY⟩ : ∃ X, X = ur B := ⟨_, rfl⟩
  obtain ⟨Z, hZ⟩ : ∃ X, X = ur (List.replicate k 0) := ⟨_, rfl⟩
  obtain ⟨K, hK⟩ : ∃ K : Int, K = (k : Int) := ⟨_, rfl⟩
  have hZl : Z.length = k := by rw [hZ, ur_len, List.length_replicate]
  rw [← hK, ← hZ] at cz
  rw [← hX, hk, ← hm] at lX
  rw [← hY, hBl, ← hl2] at lY
  rw [← hY] at hYn
  rw [← hX] at wX
  rw [← hX, ← hY]
  refine callZ ccOk mixed [.val, .val, .val] Tryz.func23 rfl rfl (by kernel_rfl) fun zwrap zadd zsub zmul zquo zrem zshl zshr zband zbor zbxor zbandn zeq zne zlt zle znot zbeq zbne zmax zmin znat zinb zofN zidx zneq znadd zdif zcut zroom zmkok zlen znth zsetr zisI zgetI zsetI zfit zpart zext zsetg zrep zwide zall zmok zmget zmset zW zth A L F hS hF => ?_
  obtain ⟨M, hM, eM⟩ : ∃ M : Int, M = (m : Int) ∧ zofN (zlen X) = M := ⟨_, rfl, by rw [hS.ofN, hS.len, lX]⟩
  obtain ⟨N, hN, eN⟩ : ∃ N : Int, N + 1 = (l : Int) ∧ zwrap .i64 (zsub (zofN (zlen Y)) 1) = N := ⟨(l : Int) - 1, by omega, by rw [hS.ofN, hS.len, lY, hS.sub, hS.wrap, wrap_i64 (by omega) (by omega)]⟩
  have e1 : zeq (zofN (zlen Y)) 0 = false := by rw [hS.eq, hS.ofN, hS.len, lY]; exact decide_eq_false (by omega)
  have eMn : znat M = m := by rw [hS.nat, hM, Int.toNat_natCast]
  have k0 : zmkok M M 64 = true := by rw [hS.mkok]; exact decide_eq_true (by unfold capBytes; omega)
  obtain ⟨R0, hR0, r0⟩ : ∃ R0, R0 = List.replicate m rawZ ∧ zrep m [.v (.bool false), .lst true [], .v (.bool false), .lst true []] = R0 := ⟨_, rfl, by rw [hS.rep]; rfl⟩
  have hR0l : R0.length = m := by rw [hR0, List.length_replicate]
  have f1 : zfit 0 m R0 = true := by rw [hS.fit, hR0l]; exact decide_eq_true (by omega)
  have f2 : zwide 4 X = true := by rw [hS.wide]; exact wX
  have eMo : zofN m = M := by rw [hS.ofN, hM]
  have f3 : zle M M = true := by rw [hS.le]; exact decide_eq_true (Int.le_refl _)
  have f0 : zsetg R0 0 X = X := by rw [hS.setg]; unfold setRange; rw [List.take_zero, List.nil_append, Nat.zero_add, lX, ← hR0l, List.drop_length, List.append_nil]
  have f4 : zfit 0 m X = true := by rw [hS.fit, lX]; exact decide_eq_true (by omega)
  have f5 : zpart X 0 m = X := by rw [hS.part, ← lX, List.drop_zero, List.take_length]
  have c1 : zle M N = false := by rw [hS.le]; exact decide_eq_false (by omega)
  have hNn : N = (n : Int) := by omega
  have g1 : zle 0 N = true := by rw [hS.le]; exact decide_eq_true (by omega)
  have hz : znth Y (znat N) = some [.v (.bool s), .lst false r, .v (.bool t), .lst false p] := by rw [hS.nat, hNn, Int.toNat_natCast, hS.nth, hYn]
  have eK : zwrap .i64 (zsub M N) = K := by rw [hS.sub, hS.wrap, wrap_i64 (by omega) (by omega)]; omega
  have lz : zlen Z = k := by rw [hS.len, hZl]
  cbv
  have hM : M = (m : Int) := hM
  have hN : N + 1 = (l : Int) := hN
  refine bF e1 ?_
  rw [eM, eMn, r0]
  refine nd (k0) ?_
  refine nd (f1) ?_
  refine nd (f2) ?_
  rw [eMo]
  refine nd (f3) ?_
  rw [f0, eN]
  refine bF c1 ?_
  rw [hz]
  cbv
  refine nd (g1) ?_
  refine ⟨_, hS.call (ci), ?_⟩
  cbv
  rw [eM, eK]
  refine ⟨_, hS.call (cz), ?_⟩
  cbv
  have hNn : N = (n : Int) := hNn
  obtain ⟨I0, hI0, eI0⟩ : ∃ I : Int, I + 1 = (k : Int) ∧ zwrap .i64 (zsub (zofN (zlen Z)) 1) = I := ⟨(k : Int) - 1, by omega, by rw [hS.ofN, lz, hS.sub, hS.wrap, wrap_i64 (by omega) (by omega)]⟩
  have eI1 : zwrap .i64 (zsub (zofN k) 1) = I0 := by rw [← lz]; exact eI0
  clear hM eM eN e1 eMn k0 r0 hR0l hR0 f1 f2 eMo f3 f0 f4 f5 c1 hz eK eI0 lX lY wX hYn ci cz g1
  refine loopZ ccOk mixed hS (fun (i : Nat) s' => ∃ (j : Nat) (I : Int) (R Q : Abs.Rows), I + 1 = i ∧ i + j = k ∧ R = ur (dvT B n v P k j).1 ∧ Q = ur (dvT B n v P k j).2 ∧ s' = udvSt Y R Q m k s2 r2 t2 p2 N I) (n := k) (s0 := udvSt Y X Z m k s2 r2 t2 p2 N I0) (le_of ?_ ?_) rfl (by show 2 ≤ 7; omega) ?_ ?_
  · simp [leT, udvSt, mkSt, vi, lz, eI1]
  · simp [leH, udvSt, mkSt]
  · exact ⟨0, I0, X, Z, hI0, by omega, hX, hZ, rfl⟩
  · rintro i s1 ⟨j, I, R, Q, hI, hij, hR, hQ, hs1⟩
    obtain ⟨dl1, dl2⟩ := dvT_len B n v P k j
    have hRl : R.length = m := by rw [hR, ur_len, dl1, hk, hm]
    have hQl : Q.length = k := by rw [hQ, ur_len, dl2]
    have f4 : zfit 0 m R = true := by rw [hS.fit, hRl]; exact decide_eq_true (by omega)
    have f5 : zpart R 0 m = R := by rw [hS.part, ← hRl, List.drop_zero, List.take_length]
    have f6 : zfit 0 k Q = true := by rw [hS.fit, hQl]; exact decide_eq_true (by omega)
    have f7 : zpart Q 0 k = Q := by rw [hS.part, ← hQl, List.drop_zero, List.take_length]
    by_cases hi : i = 0
    · have l1 : zle 0 I = false := by rw [hS.le]; exact decide_eq_false (by omega)
      have hj : j = k := by omega
      rw [hj] at hR hQ dl1 dl2
      have ct1 := utrim2_call (dvT B n v P k k).2 (by omega)
      rw [← hQ, ← hT1] at ct1
      have ct2 := utrim2_call ((dvT B n v P k k).1.take n) (by rw [List.length_take]; omega)
      rw [← ur_take, ← hR, ← hT2] at ct2
      have g4 : zcut 0 N m = true := by rw [hS.cut]; exact decide_eq_true (by omega)
      have g6 : zfit 0 (znat N) R = true := by rw [hS.fit, hS.nat, hRl]; exact decide_eq_true (by omega)
      have g5 : zpart R 0 (znat N) = R.take n := by rw [hS.part, hS.nat, hNn, Int.toNat_natCast, List.drop_zero]
      subst hs1
      cbv
      refine bF l1 (nd f6 ?_)
      rw [f7]
      refine ⟨_, hS.call (ct1), ?_⟩
      cbv
      refine nd (g4) ?_
      refine nd (g6) ?_
      rw [g5]
      refine ⟨_, hS.call (ct2), ?_⟩
      cbv
      exact hF _ (ResLe.refl _)
    · have l1 : zle 0 I = true := by rw [hS.le]; exact decide_eq_true (by omega)
      obtain ⟨i', rfl⟩ : ∃ i', i = i' + 1 := ⟨i - 1, by omega⟩
      have hkj : k - 1 - j = i' := by omega
      have hIi : I = (i' : Int) := by omega
      obtain ⟨x, hx⟩ : ∃ x, x = (dvT B n v P k j).1.getD (i' + n) 0 := ⟨_, rfl⟩
      have hxi : (dvT B n v P k j).1[i' + n]? = some x := by rw [hx, List.getD_eq_getElem?_getD, List.getElem?_eq_getElem (by omega)]; rfl
      have hxs := hsz j (by omega) x (List.mem_of_getElem? hxi)
      obtain ⟨hcs, cm⟩ := pmul_row hxs hLi (by omega)
      obtain ⟨hns, cn⟩ := pneg_row hcs (by omega)
      have cac := uaccum_call (dvT B n v P k j).1 B (-(x * v)) i' a (a + b) b (by omega) (by omega) (hsz j (by omega)) hns h2 (by omega) (by omega)
      have e1 : (dvT B n v P k (j + 1)).1 = pacc (dvT B n v P k j).1 (-(x * v)) B i' := by rw [hx, ← hkj]; rfl
      have e2 : (dvT B n v P k (j + 1)).2 = (dvT B n v P k j).2.set i' (x * v) := by rw [hx, ← hkj]; rfl
      clear hkj hi
      obtain ⟨R', hR'⟩ : ∃ R', R' = ur (dvT B n v P k (j + 1)).1 := ⟨_, rfl⟩
      obtain ⟨Q', hQ'⟩ : ∃ R', R' = ur (dvT B n v P k (j + 1)).2 := ⟨_, rfl⟩
      rw [← e1, ← hR', ← hR, ← hY, ← hIi] at cac
      have hset : Q.set i' (qc (x * v)).row = Q' := by rw [hQ, ur_set, hQ', e2]
      have hRg : R[i' + n]? = some (qc x).row := by rw [hR]; exact ur_get hxi
      have hQ0 : ∃ y : Rat, Q[i']? = some (qc y).row := by
        rw [hQ]
        exact ⟨_, ur_get (List.getElem?_eq_getElem (by omega : i' < (dvT B n v P k j).2.length))⟩
      obtain ⟨y, hQ0⟩ := hQ0
      have hQ1 : Q'[i']? = some (qc (x * v)).row := by
        rw [hQ', e2]
        exact ur_get (by rw [List.getElem?_set, if_pos rfl, if_pos (by omega)])
      have hR'l : R'.length = m := by rw [hR', ur_len, (dvT_len B n v P k (j + 1)).1, hk, hm]
      have hQ'l : Q'.length = k := by rw [hQ', ur_len, (dvT_len B n v P k (j + 1)).2]
      obtain ⟨s3, t3, r3, p3, hrow3, _⟩ := qrow x
      obtain ⟨s4, t4, r4, p4, hrow4, _⟩ := qrow (x * v)
      obtain ⟨s5, t5, r5, p5, hrow5, _⟩ := qrow (-(x * v))
      obtain ⟨s6, t6, r6, p6, hrow6, _⟩ := qrow y
      rw [hrow3, hrow2, hrow4] at cm
      rw [hrow4, hrow5] at cn
      rw [hrow5] at cac
      rw [hrow3] at hRg
      rw [hrow4] at hset hQ1
      rw [hrow6] at hQ0
      obtain ⟨e, he⟩ : ∃ e, e = i' + n := ⟨_, rfl⟩
      rw [← he] at hRg
      obtain ⟨J, hJ, i2⟩ : ∃ J : Int, J = (e : Int) ∧ zwrap .i64 (zadd I N) = J := ⟨I + N, by omega, by rw [hS.add, hS.wrap, wrap_i64 (by omega) (by omega)]⟩
      have g1 : zinb (zwrap .i64 (zadd I N)) m = true := by rw [i2, hS.inb]; exact decide_eq_true (by omega)
      have g2 : zidx 0 J = e := by rw [hS.idx]; omega
      have g3 : znth R e = some [.v (.bool s3), .lst false r3, .v (.bool t3), .lst false p3] := by rw [hS.nth]; exact hRg
      have g4 : zinb I k = true := by rw [hS.inb]; exact decide_eq_true (by omega)
      have g5 : zidx 0 I = i' := by rw [hS.idx]; omega
      have g6 : znth Q i' = some [.v (.bool s6), .lst false r6, .v (.bool t6), .lst false p6] := by rw [hS.nth]; exact hQ0
      have g7 : zsetr Q i' [.v (.bool s4), .lst false r4, .v (.bool t4), .lst false p4] = Q' := by rw [hS.setr]; exact hset
      have g8 : znth Q' i' = some [.v (.bool s4), .lst false r4, .v (.bool t4), .lst false p4] := by rw [hS.nth]; exact hQ1
      have h6 : zneq (zlen R') m = true := by rw [hS.neq, hS.len, hR'l]; exact decide_eq_true rfl
      have h7 : zsetg R 0 R' = R' := by rw [hS.setg]; unfold setRange; rw [List.take_zero, List.nil_append, Nat.zero_add, hR'l, ← hRl, List.drop_length, List.append_nil]
      obtain ⟨I', hI', i1⟩ : ∃ I' : Int, I' + 1 = (i' : Int) ∧ zwrap .i64 (zsub I 1) = I' := ⟨I - 1, by omega, by rw [hS.sub, hS.wrap, wrap_i64 (by omega) (by omega)]⟩
      have hmm : i' < i' + 1 := by omega
      have hnx : ∃ (j2 : Nat) (I2 : Int) (R2 Q2 : Abs.Rows), I2 + 1 = (i' : Int) ∧ i' + j2 = k ∧ R2 = ur (dvT B n v P k j2).1 ∧ Q2 = ur (dvT B n v P k j2).2 ∧ udvSt Y R' Q' m k s2 r2 t2 p2 N I' = udvSt Y R2 Q2 m k s2 r2 t2 p2 N I2 := ⟨j + 1, I', R', Q', hI', by omega, hR', hQ', rfl⟩
      subst hs1
      cbv
      refine bT l1 (nd g1 ?_)
      rw [i2, g2, g3]
      cbv
      refine ⟨_, hS.call (cm), ?_⟩
      cbv
      refine nd (g4) ?_
      rw [g5, g6]
      cbv
      refine nd (g4) ?_
      rw [g5, g7, g8]
      cbv
      refine ⟨_, hS.call (cn), ?_⟩
      cbv
      refine nd (f4) ?_
      rw [f5]
      refine ⟨_, hS.call (cac), ?_⟩
      cbv
      refine nd (h6) ?_
      exact again (s' := udvSt Y R' Q' m k s2 r2 t2 p2 N I') (m := i') (by simp [leT, udvSt, mkSt, vi, i1]) (by simp [leH, udvSt, mkSt, h7]) rfl (by show 2 ≤ 7; omega) hmm hnx
end Go.Proofs.YtdhidmcjglokcaaGreat
end

section
set_option linter.unusedVariables false
set_option linter.unusedSimpArgs false
set_option maxHeartbeats 8000000
set_option linter.unusedVariables false
set_option linter.unusedSimpArgs false
set_option maxRecDepth 100000
namespace Go.Proofs.YtdhidmcjglokcaaGreat
open Go Go.Abs Go.Abs.M Go.Proofs

/-! Division, divisors: lists of coefficients, compared by their values. -/

theorem qs_any : ∀ P : List Rat, ∃ k, ∀ q ∈ P, Qs q k
  | [] => ⟨0, fun q hq => by cases hq⟩
  | p :: P => by
    obtain ⟨k, hk⟩ := qs_any P
    refine ⟨k + nl p.num.natAbs + nl p.den, fun q hq => ?_⟩
    rcases List.mem_cons.1 hq with h | h
    · subst h; exact ⟨by omega, by omega⟩
    · exact (hk q h).mono (by omega)

theorem PL.any {P : List Rat} (h : ptrim P = P) : ∃ k, PL (Abs.ev P) P.length k P := by
  obtain ⟨k, hk⟩ := qs_any P
  exact ⟨k, h, fun _ => rfl, Nat.le_refl _, hk⟩

theorem tr_inj {P Q : List Rat} (hP : ptrim P = P) (hQ : ptrim Q = Q) (h : ∀ x, Abs.ev P x = Abs.ev Q x) : P = Q := by
  obtain ⟨k, h1⟩ := PL.any hP
  obtain ⟨l, h2⟩ := PL.any hQ
  exact h1.inj h2 h

theorem tr_nil {P : List Rat} (hP : ptrim P = P) (h : ∀ x, Abs.ev P x = 0) : P = [] := tr_inj hP (Q := []) rfl h

theorem tr_last {P : List Rat} (hP : ptrim P = P) (h : P ≠ []) : P.getD (P.length - 1) 0 ≠ 0 := by
  obtain ⟨k, h1⟩ := PL.any hP
  exact h1.last h

theorem tr_len {P B R : List Rat} (hP : ptrim P = P) (hB : ptrim B = B) (hR : ptrim R = R) (he : ∀ x, Abs.ev R x = Abs.ev P x * Abs.ev B x) (h1 : P ≠ []) (h2 : B ≠ []) : R.length + 1 = P.length + B.length := by
  obtain ⟨k, p1⟩ := PL.any hP
  obtain ⟨l, p2⟩ := PL.any hB
  obtain ⟨m, p3⟩ := PL.any hR
  have := PL.mul_len p1 p2 p3 he h1 h2
  have l1 : P.length ≠ 0 := fun h => h1 (List.length_eq_zero_iff.1 h)
  have l2 : B.length ≠ 0 := fun h => h2 (List.length_eq_zero_iff.1 h)
  omega

/-- Quotient and remainder are the only ones. -/
theorem div_uniq {B Q R Q' R' : List Rat} (hQ : ptrim Q = Q) (hR : ptrim R = R) (hQ' : ptrim Q' = Q') (hR' : ptrim R' = R') (hB : ptrim B = B) (h1 : R.length < B.length) (h2 : R'.length < B.length)
    (h : ∀ x, Abs.ev Q x * Abs.ev B x + Abs.ev R x = Abs.ev Q' x * Abs.ev B x + Abs.ev R' x) : Q = Q' ∧ R = R' := by
  have hB0 : B ≠ [] := fun h0 => by rw [h0] at h1; simp at h1
  have e1 : ∀ x, Abs.ev (ptrim (ladd Q (lsc (-1) Q'))) x * Abs.ev B x = Abs.ev (ptrim (pshift R' (-1) R 0)) x := fun x => by
    rw [ev_trim, ev_trim, ev_ladd, ev_lsc, ev_shift]; have := h x; grind
  have hz : ptrim (ladd Q (lsc (-1) Q')) = [] := by
    rcases Classical.em (ptrim (ladd Q (lsc (-1) Q')) = []) with h0 | h0
    · exact h0
    · have := tr_len (ptrim_idem _) hB (ptrim_idem _) (fun x => (e1 x).symm) h0 hB0
      have l1 : (ptrim (ladd Q (lsc (-1) Q'))).length ≠ 0 := fun h => h0 (List.length_eq_zero_iff.1 h)
      have l2 := ptrim_len (pshift R' (-1) R 0)
      rw [pshift_len] at l2
      omega
  have e2 : ∀ x, Abs.ev Q x = Abs.ev Q' x := fun x => by
    have : Abs.ev (ptrim (ladd Q (lsc (-1) Q'))) x = 0 := by rw [hz]; rfl
    rw [ev_trim, ev_ladd, ev_lsc] at this
    grind
  refine ⟨tr_inj hQ hQ' e2, tr_inj hR hR' fun x => ?_⟩
  have := h x
  rw [e2 x] at this
  grind

/-- D divides A. -/
def Dv (D A : List Rat) : Prop := ∃ H : List Rat, ∀ x, Abs.ev A x = Abs.ev H x * Abs.ev D x

theorem Dv.refl (A : List Rat) : Dv A A := ⟨[1], fun x => by simp only [Abs.ev]; grind⟩
theorem Dv.trans {A B C : List Rat} (h1 : Dv A B) (h2 : Dv B C) : Dv A C := by
  obtain ⟨H, h1⟩ := h1
  obtain ⟨K, h2⟩ := h2
  exact ⟨lmul K H, fun x => by rw [h2, h1, ev_lmul]; grind⟩
theorem Dv.zero {D A : List Rat} (h : ∀ x, Abs.ev A x = 0) : Dv D A := ⟨[], fun x => by rw [h]; simp only [Abs.ev]; grind⟩
theorem Dv.congr {D A D' A' : List Rat} (h : Dv D A) (h1 : ∀ x, Abs.ev D x = Abs.ev D' x) (h2 : ∀ x, Abs.ev A x = Abs.ev A' x) : Dv D' A' := by
  obtain ⟨H, h⟩ := h
  exact ⟨H, fun x => by rw [← h2, h, h1]⟩
theorem Dv.lin {D A B C U V : List Rat} (h1 : Dv D A) (h2 : Dv D B) (h : ∀ x, Abs.ev C x = Abs.ev U x * Abs.ev A x + Abs.ev V x * Abs.ev B x) : Dv D C := by
  obtain ⟨H, h1⟩ := h1
  obtain ⟨K, h2⟩ := h2
  exact ⟨ladd (lmul U H) (lmul V K), fun x => by rw [h, h1, h2, ev_ladd, ev_lmul, ev_lmul]; grind⟩
theorem Dv.scale {D A : List Rat} {c : Rat} (hc : c ≠ 0) (h : Dv D A) : Dv (lsc c D) A := by
  obtain ⟨H, h⟩ := h
  refine ⟨lsc c⁻¹ H, fun x => ?_⟩
  rw [h, ev_lsc, ev_lsc]
  have := Rat.inv_mul_cancel c hc
  grind

theorem Dv.len {D A : List Rat} (hD : ptrim D = D) (hA : ptrim A = A) (h : Dv D A) (h0 : A ≠ []) : D ≠ [] ∧ D.length ≤ A.length := by
  obtain ⟨H, h⟩ := h
  have hD0 : D ≠ [] := fun h1 => h0 (tr_nil hA fun x => by rw [h, h1]; simp only [Abs.ev]; grind)
  have hH0 : ptrim H ≠ [] := fun h1 => h0 (tr_nil hA fun x => by rw [h, ← ev_trim H, h1]; simp only [Abs.ev]; grind)
  have := tr_len (ptrim_idem H) hD hA (fun x => by rw [h, ev_trim]) hH0 hD0
  have l1 : (ptrim H).length ≠ 0 := fun h => hH0 (List.length_eq_zero_iff.1 h)
  exact ⟨hD0, by omega⟩

/-- A divisor leaves no rest. -/
theorem Dv.rest {P B Q R : List Rat} (hQ : ptrim Q = Q) (hR : ptrim R = R) (hB : ptrim B = B) (h1 : R.length < B.length) (h : ∀ x, Abs.ev P x = Abs.ev Q x * Abs.ev B x + Abs.ev R x) (hd : Dv B P) : R = [] := by
  obtain ⟨H, hH⟩ := hd
  exact (div_uniq hQ hR (ptrim_idem H) (R' := []) rfl hB h1 (by simp; omega) (fun x => by rw [← h, hH, ev_trim]; simp only [Abs.ev]; grind)).2

/-- The leading coefficient is 1. -/
def Mon (P : List Rat) : Prop := P ≠ [] ∧ P.getD (P.length - 1) 0 = 1

theorem mon_uniq {G K : List Rat} (hG : ptrim G = G) (hK : ptrim K = K) (mG : Mon G) (mK : Mon K) (h1 : Dv G K) (h2 : Dv K G) : G = K := by
  obtain ⟨_, l1⟩ := h1.len hG hK mK.1
  obtain ⟨_, l2⟩ := h2.len hK hG mG.1
  obtain ⟨H, h⟩ := h1
  have hH0 : ptrim H ≠ [] := fun h1 => mK.1 (tr_nil hK fun x => by rw [h, ← ev_trim H, h1]; simp only [Abs.ev]; grind)
  have hl := tr_len (ptrim_idem H) hG hK (fun x => by rw [h, ev_trim]) hH0 mG.1
  obtain ⟨c, hc⟩ : ∃ c, ptrim H = [c] := List.length_eq_one_iff.1 (by omega)
  have e : ∀ x, Abs.ev K x = Abs.ev (lsc c G) x := fun x => by rw [h, ← ev_trim H, hc, ev_lsc]; simp only [Abs.ev]; grind
  have hj := ev_coef e (K.length - 1)
  have hs : (lsc c G).getD (K.length - 1) 0 = c * G.getD (K.length - 1) 0 := by
    rw [List.getD_eq_getElem?_getD, List.getD_eq_getElem?_getD, lsc, List.getElem?_map]
    cases G[K.length - 1]? with
    | none => simp [Rat.mul_zero]
    | some q => simp
  rw [hs, mK.2, show K.length - 1 = G.length - 1 by omega, mG.2, Rat.mul_one] at hj
  refine tr_inj hG hK fun x => ?_
  rw [e, ev_lsc, ← hj, Rat.one_mul]
end Go.Proofs.YtdhidmcjglokcaaGreat
end

section
set_option linter.unusedVariables false
set_option linter.unusedSimpArgs false
set_option maxHeartbeats 8000000
set_option linter.unusedVariables false
set_option linter.unusedSimpArgs false
set_option maxRecDepth 100000
namespace Go.Proofs.YtdhidmcjglokcaaGreat
open Go Go.Abs Go.Abs.M Go.Proofs

theorem cf_take {s n : Nat} {P : List Rat} (h : CF s (fun j => P.getD j 0)) : CF s (fun j => (P.take n).getD j 0) :=
  (h.pick fun j => decide (j < n)).congr fun j => by
    rw [List.getD_eq_getElem?_getD (l := P.take n), List.getElem?_take]
    by_cases hj : j < n
    · rw [if_pos (decide_eq_true hj), if_pos hj, List.getD_eq_getElem?_getD]
    · rw [if_neg (by simpa using hj), if_neg hj]; rfl

/-- univariate.DivMod by a polynomial that is not 0. -/
theorem pb_divmod {f g : Rat → Rat} {n m s t : Nat} (e : Nat) {P B : List Rat} (hP : PB f n s P) (hB : PB g m t B) (h0 : B ≠ []) (he : P.length + 1 ≤ B.length + e) (hn : n ≤ 499) (hm : m ≤ 499) (hs : s + e * (t + 1) + 2 * t ≤ 2000000000) :
    ∃ Q R, PB (Abs.ev Q) e (s + e * (t + 1)) Q ∧ PB (Abs.ev R) (B.length - 1) (s + e * (t + 1)) R ∧ R.length < B.length ∧ (∀ x, f x = Abs.ev Q x * g x + Abs.ev R x) ∧
      ACall Tryz.prog 23 [.val (tl (ur P)), .val (tl (ur B))] ⟨[.val (tl (ur Q)), .val (tl (ur R)), .val (ti .i64 0)], [none, none]⟩ := by
  have l1 : B.length ≠ 0 := fun h => h0 (List.length_eq_zero_iff.1 h)
  have hPl := hP.len
  have hBl := hB.len
  rcases Nat.lt_or_ge P.length B.length with h | h
  · refine ⟨[], P, (PB.nil _).mono (Nat.zero_le _) (Nat.le_refl _) |>.congr fun x => rfl, ⟨hP.tr, fun x => rfl, by omega, hP.cf.mono (by omega)⟩, h, fun x => ?_, udivmod_short P B h (by omega)⟩
    rw [hP.ev]; simp only [Abs.ev]; grind
  · obtain ⟨d, hd⟩ : ∃ d, B.length = d + 1 := ⟨B.length - 1, by omega⟩
    obtain ⟨k, hk⟩ : ∃ k, P.length = k + d := ⟨P.length - d, by omega⟩
    have hL : B.getD d 0 ≠ 0 := by have := tr_last hB.tr h0; rwa [hd, Nat.add_sub_cancel] at this
    have hv := Rat.mul_inv_cancel _ hL
    have hcf := fun j hj => dvT_cf (k := k) hd hv hk hP.cf hB.cf j hj
    have hke : ∀ j, j ≤ k → j * (t + 1) ≤ e * (t + 1) := fun j hj => Nat.mul_le_mul_right _ (by omega)
    obtain ⟨q1, q2, q3⟩ := dvT_spec hd hv hk k (Nat.le_refl _)
    obtain ⟨d1, d2⟩ := dvT_len B d (B.getD d 0)⁻¹ P k k
    have hfk := (hcf k (Nat.le_refl _)).mono (t := s + e * (t + 1)) (by have := hke k (Nat.le_refl _); omega)
    have cl := udivmod_long P B d k ((s + e * (t + 1)) / 32 + 1) (t / 32 + 1) hk hd hL (by omega) (by omega) (fun j hj => cf_qsl ((hcf j hj).left.mono (by have := hke j hj; omega))) (cf_qsl hB.cf) (by omega)
    generalize dvT B d (B.getD d 0)⁻¹ P k k = S at *
    have hev : ∀ x, Abs.ev (S.1.take d) x = Abs.ev S.1 x := ev_ext fun j => by
      by_cases hj : j < d
      · rw [List.getD_eq_getElem?_getD, List.getElem?_take, if_pos hj, List.getD_eq_getElem?_getD]
      · rw [List.getD_eq_getElem?_getD, List.getElem?_take, if_neg hj, q2 j (by omega)]; rfl
    refine ⟨_, _, PB.of_trim (P := S.2) (fun x => (ev_trim S.2 x).symm) (by omega) hfk.right, PB.of_trim (P := S.1.take d) (fun x => (ev_trim _ x).symm) (by rw [List.length_take]; omega) (cf_take hfk.left), ?_, fun x => ?_, cl⟩
    · have := ptrim_len (S.1.take d)
      rw [List.length_take] at this; omega
    · rw [ev_trim, ev_trim, hev, ← hP.ev, ← q1 x, ← hB.ev]; grind

theorem pb_valid {f : Rat → Rat} {n a : Nat} {P : List Rat} (hP : PB f n a P) (hn : n ≤ 1000) (ha : a ≤ 2000000000) :
    ACall Tryz.prog 14 [.val (tl (ur P))] ⟨[.val (tb true)], [none]⟩ := pl_valid hP.pl hn (by omega)

theorem pb_same {f g : Rat → Rat} {n m a b : Nat} {P B : List Rat} (hP : PB f n a P) (hB : PB g m b B) (h : ∀ x, f x = g x) (hn : n ≤ 1000) (hm : m ≤ 1000) (hs : a ≤ 2000000000) :
    ACall Tryz.prog 19 [.val (tl (ur P)), .val (tl (ur B))] ⟨[.val (tb true)], [none, none]⟩ := pl_same hP.pl hB.pl h hn hm (by omega)
end Go.Proofs.YtdhidmcjglokcaaGreat
end

section
set_option linter.unusedVariables false
set_option linter.unusedSimpArgs false
set_option maxHeartbeats 8000000
set_option linter.unusedVariables false
set_option linter.unusedSimpArgs false
set_option maxRecDepth 100000
namespace Go.Proofs.YtdhidmcjglokcaaGreat
open Go Go.Abs Go.Abs.M Go.Proofs

/-- A step of Euclid's algorithm: quotient, factor, and what is left, monic. -/
structure IsRem (A B Q : List Rat) (c : Rat) (R : List Rat) : Prop where
  tq : ptrim Q = Q
  tr : ptrim R = R
  len : R.length < B.length
  c0 : c ≠ 0
  eq : ∀ x, c * Abs.ev A x = c * Abs.ev Q x * Abs.ev B x + Abs.ev R x
  nil : R = [] → c = 1
  mon : R ≠ [] → Mon R

theorem lsc_get (c : Rat) (P : List Rat) (j : Nat) : (lsc c P).getD j 0 = c * P.getD j 0 := by
  rw [List.getD_eq_getElem?_getD, List.getD_eq_getElem?_getD, lsc, List.getElem?_map]
  cases P[j]? with
  | none => simp [Rat.mul_zero]
  | some q => simp

theorem lsc_len (c : Rat) (P : List Rat) : (lsc c P).length = P.length := by simp [lsc]

theorem lsc_trim {c : Rat} (hc : c ≠ 0) {P : List Rat} (hP : ptrim P = P) : ptrim (lsc c P) = lsc c P := by
  rcases Classical.em (P = []) with h | h
  · subst h; rfl
  · refine tlen_top (fun h1 => h (by simpa [lsc] using h1)) ?_
    rw [lsc_len, lsc_get]
    intro h1
    rcases Rat.mul_eq_zero.1 h1 with h2 | h2
    · exact hc h2
    · exact tr_last hP h h2

theorem IsRem.uniq {A B Q Q' R R' : List Rat} {c c' : Rat} (hB : ptrim B = B) (h : IsRem A B Q c R) (h' : IsRem A B Q' c' R') : Q = Q' ∧ c = c' ∧ R = R' := by
  have i1 := Rat.inv_mul_cancel c h.c0
  have i2 := Rat.inv_mul_cancel c' h'.c0
  have n1 : c⁻¹ ≠ 0 := fun h0 => by rw [h0, Rat.zero_mul] at i1; exact absurd i1 (by decide)
  have n2 : c'⁻¹ ≠ 0 := fun h0 => by rw [h0, Rat.zero_mul] at i2; exact absurd i2 (by decide)
  have e : ∀ {c : Rat} {Q R : List Rat}, IsRem A B Q c R → ∀ x, Abs.ev A x = Abs.ev Q x * Abs.ev B x + Abs.ev (lsc c⁻¹ R) x := fun {c Q R} h x => by
    have i1 := Rat.inv_mul_cancel c h.c0
    have := h.eq x
    rw [ev_lsc]
    grind
  obtain ⟨hQ, hR⟩ := div_uniq h.tq (lsc_trim n1 h.tr) h'.tq (lsc_trim n2 h'.tr) hB (by rw [lsc_len]; exact h.len) (by rw [lsc_len]; exact h'.len) fun x => by rw [← e h, ← e h']
  have hl : R.length = R'.length := by have := congrArg List.length hR; rwa [lsc_len, lsc_len] at this
  have hcc : c = c' := by
    rcases Classical.em (R = []) with h0 | h0
    · have h0' : R' = [] := List.length_eq_zero_iff.1 (by rw [← hl, h0]; rfl)
      rw [h.nil h0, h'.nil h0']
    · have h0' : R' ≠ [] := fun h1 => h0 (List.length_eq_zero_iff.1 (by rw [hl, h1]; rfl))
      have m1 := (h.mon h0).2
      have m2 := (h'.mon h0').2
      have g := congrArg (fun l => l.getD (R.length - 1) 0) hR
      simp only [lsc_get] at g
      rw [m1, hl, m2, Rat.mul_one, Rat.mul_one] at g
      rw [← Rat.inv_inv c, ← Rat.inv_inv c', g]
  refine ⟨hQ, hcc, tr_inj h.tr h'.tr fun x => ?_⟩
  have h1 := h.eq x
  have h2 := h'.eq x
  rw [← hQ, ← hcc] at h2
  grind

/-- Euclid's algorithm on A, B, with the two factors U and N: it ends with G, and the factors V and K. -/
inductive Eu : List Rat → List Rat → List Rat → List Rat → List Rat → List Rat → List Rat → Prop
  | nil (A U N : List Rat) : Eu A [] U N A U N
  | step {A B U N Q R N' G V K : List Rat} {c : Rat} : B ≠ [] → IsRem A B Q c R → ptrim N' = N' → (∀ x, Abs.ev N' x = c * (Abs.ev U x - Abs.ev Q x * Abs.ev N x)) → Eu B R N N' G V K → Eu A B U N G V K

theorem Eu.inv {A B U N G V K : List Rat} (h : Eu A B U N G V K) : (B = [] ∧ G = A ∧ V = U ∧ K = N) ∨ (B ≠ [] ∧ ∃ Q R N' c, IsRem A B Q c R ∧ ptrim N' = N' ∧ (∀ x, Abs.ev N' x = c * (Abs.ev U x - Abs.ev Q x * Abs.ev N x)) ∧ Eu B R N N' G V K) := by
  cases h with
  | nil => exact .inl ⟨rfl, rfl, rfl, rfl⟩
  | step h1 h2 h3 h4 h5 => exact .inr ⟨h1, _, _, _, _, h2, h3, h4, h5⟩

theorem Eu.dvd {A B U N G V K : List Rat} (h : Eu A B U N G V K) : Dv G A ∧ Dv G B ∧ ∀ D, Dv D A → Dv D B → Dv D G := by
  induction h with
  | nil A U N => exact ⟨Dv.refl _, Dv.zero fun x => rfl, fun D h _ => h⟩
  | @step A B U N Q R N' G V K c h1 h2 h3 h4 h5 ih =>
    obtain ⟨i1, i2, i3⟩ := ih
    have ic := Rat.inv_mul_cancel c h2.c0
    refine ⟨Dv.lin (U := Q) (V := [c⁻¹]) i1 i2 fun x => ?_, i1, fun D d1 d2 => i3 D d2 (Dv.lin (U := [c]) (V := lsc (-c) Q) d1 d2 fun x => ?_)⟩
    · have := h2.eq x; simp only [Abs.ev]; grind
    · have := h2.eq x; rw [ev_lsc]; simp only [Abs.ev]; grind

theorem Eu.bez {A B U N G V K : List Rat} (h : Eu A B U N G V K) {a b : Rat → Rat} (hA : ∃ v : List Rat, ∀ x, Abs.ev A x = Abs.ev U x * a x + Abs.ev v x * b x) (hB : ∃ v : List Rat, ∀ x, Abs.ev B x = Abs.ev N x * a x + Abs.ev v x * b x) :
    ∃ v : List Rat, ∀ x, Abs.ev G x = Abs.ev V x * a x + Abs.ev v x * b x := by
  induction h with
  | nil A U N => exact hA
  | @step A B U N Q R N' G V K c h1 h2 h3 h4 h5 ih =>
    obtain ⟨v, hv⟩ := hA
    obtain ⟨w, hw⟩ := hB
    refine ih ⟨w, hw⟩ ⟨lsc c (ladd v (lsc (-1) (lmul Q w))), fun x => ?_⟩
    have := h2.eq x
    rw [h4, ev_lsc, ev_ladd, ev_lsc, ev_lmul]
    have h6 := hv x
    have h7 := hw x
    grind

/-- What stays true in the rounds: sizes. -/
structure EuI (W V : Nat) (A B U N : List Rat) : Prop where
  ta : ptrim A = A
  tb : ptrim B = B
  tu : ptrim U = U
  tn : ptrim N = N
  sz : ∃ s, CF s (fun j => A.getD j 0) ∧ CF s (fun j => B.getD j 0) ∧ (s + 1) * (A.length + 1 - B.length + 1) * 3 ^ B.length ≤ W
  szu : ∃ v, CF v (fun j => U.getD j 0) ∧ CF v (fun j => N.getD j 0) ∧ (v + 4 * W + 4) * 2 ^ B.length ≤ V
  lu : U.length + (A.length + 1 - B.length) + 2 * B.length ≤ 200
  ln : N.length + (A.length + 1 - B.length) + 2 * B.length ≤ 200
  la : A.length ≤ 200

theorem three_pow (d : Nat) (h : 1 ≤ d) : d + 2 ≤ 3 ^ d := by
  induction d with
  | zero => omega
  | succ d ih =>
    rcases Nat.eq_zero_or_pos d with h0 | h0
    · subst h0; decide
    · have := ih h0; rw [Nat.pow_succ]; omega

theorem urecip_call {f : Rat → Rat} {n s : Nat} {P : List Rat} (hP : PB f n s P) (h0 : P ≠ []) (hn : n ≤ 1000) (hs : s ≤ 2000000000) :
    ACall Tryz.prog 76 [.val (tl (ur P))] ⟨[.val (.agg (qc (P.getD (P.length - 1) 0)⁻¹).row)], [none]⟩ := by
  have hl := hP.len
  have hm0 : P.length ≠ 0 := fun h => h0 (List.length_eq_zero_iff.1 h)
  obtain ⟨L, hL⟩ : ∃ L, L = P.getD (P.length - 1) 0 := ⟨_, rfl⟩
  have hL0 := tr_last hP.tr h0
  have hPi : P[P.length - 1]? = some L := by rw [hL, List.getD_eq_getElem?_getD, List.getElem?_eq_getElem (by omega)]; rfl
  rw [← hL] at hL0
  obtain ⟨hq, ci⟩ := pinv_row hL0 (cf_qsl hP.cf L (List.mem_of_getElem? hPi)) (by omega)
  rw [← hL]
  obtain ⟨s, t, r, p, hrow, _⟩ := qrow L
  obtain ⟨s2, t2, r2, p2, hrow2, _⟩ := qrow L⁻¹
  rw [hrow, hrow2] at ci
  rw [hrow2]
  have hX := ur_get hPi
  have lX := ur_len P
  rw [hrow] at hX
  generalize P.length = m at *
  generalize ur P = X at *
  refine callZ ccOk mixed [.val] Tryz.func76 rfl rfl (by kernel_rfl) fun zwrap zadd zsub zmul zquo zrem zshl zshr zband zbor zbxor zbandn zeq zne zlt zle znot zbeq zbne zmax zmin znat zinb zofN zidx zneq znadd zdif zcut zroom zmkok zlen znth zsetr zisI zgetI zsetI zfit zpart zext zsetg zrep zwide zall zmok zmget zmset zW zth A L F hS hF => ?_
  have e1 : zeq (zofN (zlen X)) 0 = false := by rw [hS.eq, hS.ofN, hS.len, lX]; exact decide_eq_false (by omega)
  obtain ⟨J, hJ, j1⟩ : ∃ J : Int, J = ((m - 1 : Nat) : Int) ∧ zwrap .i64 (zsub (zofN (zlen X)) 1) = J := ⟨(m : Int) - 1, by omega, by rw [hS.ofN, hS.len, lX, hS.sub, hS.wrap, wrap_i64 (by omega) (by omega)]⟩
  have g1 : zle 0 J = true := by rw [hS.le]; exact decide_eq_true (by omega)
  have hz : znth X (znat J) = some [.v (.bool s), .lst false r, .v (.bool t), .lst false p] := by rw [hS.nat, hJ, Int.toNat_natCast, hS.nth, hX]
  cbv
  refine bF e1 ?_
  rw [j1, hz]
  cbv
  refine nd (g1) ?_
  refine ⟨_, hS.call (ci), ?_⟩
  cbv
  exact hF _ (ResLe.refl _)

/-- One round's calls. -/
theorem eu_step {W V : Nat} {A B U N : List Rat} (h : EuI W V A B U N) (hB : B ≠ []) (hW : W ≤ 400000000) :
    ∃ Q R c R', IsRem A B Q c R' ∧ R'.length = R.length ∧ R.length < B.length ∧ (∃ s, CF s (fun j => R'.getD j 0) ∧ CF s (fun j => B.getD j 0) ∧ CF s (fun _ => c) ∧ CF s (fun j => Q.getD j 0) ∧ s ≤ W ∧ (s + 1) * (B.length + 1 - R'.length + 1) * 3 ^ R'.length ≤ W) ∧ Q.length ≤ A.length + 1 - B.length ∧ Q.length ≤ W ∧
      ACall Tryz.prog 23 [.val (tl (ur A)), .val (tl (ur B))] ⟨[.val (tl (ur Q)), .val (tl (ur R)), .val (ti .i64 0)], [none, none]⟩ ∧
      (R = [] → R' = [] ∧ c = 1) ∧ (R ≠ [] → ACall Tryz.prog 76 [.val (tl (ur R))] ⟨[.val (.agg (qc c).row)], [none]⟩ ∧ ACall Tryz.prog 21 [.val (.agg (qc c).row), .val (tl (ur R))] ⟨[.val (tl (ur R'))], [none, none]⟩) := by
  obtain ⟨s, c1, c2, c3⟩ := h.sz
  have hB1 : B.length ≠ 0 := fun h0 => hB (List.length_eq_zero_iff.1 h0)
  have hla := h.la
  have hlu := h.lu
  obtain ⟨e, he⟩ : ∃ e, e = A.length + 1 - B.length := ⟨_, rfl⟩
  rw [← he] at c3 hlu ⊢
  have p3 : 1 ≤ 3 ^ B.length := Nat.one_le_pow _ _ (by omega)
  have w1 : (s + 1) * (e + 1) ≤ W := by
    have := Nat.mul_le_mul_left ((s + 1) * (e + 1)) p3
    omega
  have e1 : (s + 1) * (e + 1) = s + e * (s + 1) + 1 := by rw [Nat.mul_comm, Nat.succ_mul]; omega
  have w2 : s + 1 ≤ (s + 1) * (e + 1) := Nat.le_mul_of_pos_right _ (by omega)
  have w3 : e + 1 ≤ (s + 1) * (e + 1) := Nat.le_mul_of_pos_left _ (by omega)
  obtain ⟨Q, R, hQ, hR, hlt, heq, cd⟩ := pb_divmod e (⟨h.ta, fun x => rfl, Nat.le_refl _, c1⟩ : PB (Abs.ev A) A.length s A) (⟨h.tb, fun x => rfl, Nat.le_refl _, c2⟩ : PB (Abs.ev B) B.length s B) hB (by omega) (by omega) (by omega) (by omega)
  generalize hS : s + e * (s + 1) = S at *
  have hpot : ∀ r, r < B.length → (S + 1) * (B.length + 1 - r + 1) * 3 ^ r ≤ W := fun r hr => by
    have t := three_pow (B.length - r) (by omega)
    have t2 : 3 ^ (B.length - r) * 3 ^ r = 3 ^ B.length := by rw [← Nat.pow_add, Nat.sub_add_cancel (by omega)]
    have t3 : (B.length + 1 - r + 1) * 3 ^ r ≤ 3 ^ B.length := by rw [← t2]; exact Nat.mul_le_mul_right _ (by omega)
    rw [Nat.mul_assoc]
    exact Nat.le_trans (Nat.mul_le_mul_left _ t3) (by rw [← e1]; exact c3)
  rcases Classical.em (R = []) with h0 | h0
  · refine ⟨Q, R, 1, [], ⟨hQ.tr, rfl, by simp; omega, by decide, fun x => ?_, fun _ => rfl, fun h => absurd rfl h⟩, by rw [h0], hlt, ⟨S, ?_, c2.mono (by omega), ?_, hQ.cf, by omega, hpot 0 (by omega)⟩, hQ.len, by have := hQ.len; omega, cd, fun _ => ⟨rfl, rfl⟩, fun h => absurd h0 h⟩
    · have := heq x; rw [h0] at this; simp only [Abs.ev] at this ⊢; grind
    · exact (CF.zero S).congr fun j => by simp
    · exact (CF.whole (n := 1) (s := S) (by have := two_pow_pos S; omega) (by have := two_pow_pos S; omega)).congr fun j => rfl
  · have hL := tr_last hR.tr h0
    have hlR : R.length ≠ 0 := fun h1 => h0 (List.length_eq_zero_iff.1 h1)
    obtain ⟨L, hLe⟩ : ∃ L, L = R.getD (R.length - 1) 0 := ⟨_, rfl⟩
    have hcl : CF S (fun _ => L) := by rw [hLe]; exact hR.cf.comp fun _ => R.length - 1
    rw [← hLe] at hL
    have ci := urecip_call hR h0 (by omega) (by omega)
    rw [← hLe] at ci
    obtain ⟨R', hR', cs⟩ := pb_scale (hcl.inv hL) hR (by omega) (by omega)
    have hi := Rat.inv_mul_cancel L hL
    have hi0 : L⁻¹ ≠ 0 := fun h1 => by rw [h1, Rat.zero_mul] at hi; exact absurd hi (by decide)
    have hR'e : R' = lsc L⁻¹ R := tr_inj hR'.tr (lsc_trim hi0 hR.tr) fun x => by rw [hR'.ev, ev_lsc]
    have hR'l : R'.length = R.length := by rw [hR'e, lsc_len]
    have hR'c : CF S (fun j => R'.getD j 0) := by
      have := hR.cf.div (R.length - 1) (by show R.getD _ 0 ≠ 0; rw [← hLe]; exact hL)
      rw [← hLe] at this
      exact this.congr fun j => by rw [hR'e, lsc_get]
    refine ⟨Q, R, L⁻¹, R', ⟨hQ.tr, hR'.tr, by omega, hi0, fun x => ?_, fun h1 => absurd (List.length_eq_zero_iff.1 (by rw [← hR'l, h1]; rfl)) h0, fun h1 => ⟨h1, ?_⟩⟩, hR'l, hlt, ⟨S, hR'c, c2.mono (by omega), hcl.inv hL, hQ.cf, by omega, hpot _ (by omega)⟩, hQ.len, by have := hQ.len; omega, cd, fun h1 => absurd h1 h0, fun _ => ⟨ci, cs⟩⟩
    · have := heq x; rw [hR'.ev]; grind
    · rw [hR'e, lsc_get, lsc_len, ← hLe, hi]

theorem EuI.next {W V : Nat} {A B U N Q R' N' : List Rat} {c : Rat} (h : EuI W V A B U N) (hB : B ≠ []) (hr : IsRem A B Q c R') (hs : ∃ s, CF s (fun j => R'.getD j 0) ∧ CF s (fun j => B.getD j 0) ∧ CF s (fun _ => c) ∧ CF s (fun j => Q.getD j 0) ∧ s ≤ W ∧ (s + 1) * (B.length + 1 - R'.length + 1) * 3 ^ R'.length ≤ W)
    (hq : Q.length ≤ A.length + 1 - B.length) (hN : ptrim N' = N') (hl : N'.length ≤ max U.length (Q.length + N.length - 1)) (hv : ∀ v, CF v (fun j => U.getD j 0) → CF v (fun j => N.getD j 0) → CF (2 * v + 4 * W + 1) (fun j => N'.getD j 0)) : EuI W V B R' N N' := by
  obtain ⟨s, s1, s2, s3, s4, s5, s6⟩ := hs
  obtain ⟨v, v1, v2, v3⟩ := h.szu
  have hlt := hr.len
  have a1 := h.lu
  have a2 := h.ln
  have a3 := h.la
  refine ⟨h.tb, hr.tr, h.tn, hN, ⟨s, s2, s1, s6⟩, ⟨2 * v + 4 * W + 1, v2.mono (by omega), hv v v1 v2, ?_⟩, by omega, by omega, by omega⟩
  have e : 2 ^ B.length = 2 * 2 ^ (B.length - 1) := by rw [← Nat.pow_succ']; congr 1; omega
  have p : 2 ^ R'.length ≤ 2 ^ (B.length - 1) := Nat.pow_le_pow_right (by omega) (by omega)
  rw [e, ← Nat.mul_assoc] at v3
  exact Nat.le_trans (Nat.mul_le_mul_left _ p) (Nat.le_trans (Nat.mul_le_mul_right _ (by omega)) v3)
end Go.Proofs.YtdhidmcjglokcaaGreat
end

section
set_option linter.unusedVariables false
set_option linter.unusedSimpArgs false
set_option maxHeartbeats 8000000
set_option linter.unusedVariables false
set_option linter.unusedSimpArgs false
set_option maxRecDepth 100000
namespace Go.Proofs.YtdhidmcjglokcaaGreat
open Go Go.Abs Go.Abs.M Go.Proofs

/-- The calls that make the next factor. -/
theorem bz_step {W V : Nat} {A B U N Q : List Rat} {c : Rat} (h : EuI W V A B U N) (hB : B ≠ []) (hQ : ptrim Q = Q) (hq : Q.length ≤ A.length + 1 - B.length) (hqW : Q.length ≤ W) (hs : ∃ s, CF s (fun _ => c) ∧ CF s (fun j => Q.getD j 0) ∧ s ≤ W) (hV : V ≤ 400000000) :
    ∃ M D N', ACall Tryz.prog 17 [.val (tl (ur Q)), .val (tl (ur N))] ⟨[.val (tl (ur M))], [none, none]⟩ ∧ ACall Tryz.prog 18 [.val (tl (ur U)), .val (tl (ur M))] ⟨[.val (tl (ur D))], [none, none]⟩ ∧
      ACall Tryz.prog 21 [.val (.agg (qc c).row), .val (tl (ur D))] ⟨[.val (tl (ur N'))], [none, none]⟩ ∧ ptrim N' = N' ∧ (∀ x, Abs.ev N' x = c * (Abs.ev U x - Abs.ev Q x * Abs.ev N x)) ∧
      N'.length ≤ max U.length (Q.length + N.length - 1) ∧ (∀ v, CF v (fun j => U.getD j 0) → CF v (fun j => N.getD j 0) → CF (2 * v + 4 * W + 1) (fun j => N'.getD j 0)) := by
  obtain ⟨s, s3, s4, s5⟩ := hs
  obtain ⟨v, v1, v2, v3⟩ := h.szu
  have a1 := h.lu
  have a2 := h.ln
  have a3 := h.la
  have p : 1 ≤ 2 ^ B.length := Nat.one_le_two_pow
  have w1 : v + 4 * W + 4 ≤ V := by have := Nat.mul_le_mul_left (v + 4 * W + 4) p; omega
  have hB1 : B.length ≠ 0 := fun h0 => hB (List.length_eq_zero_iff.1 h0)
  obtain ⟨M, hM, cM⟩ := pb_mul (f := Abs.ev Q) (g := Abs.ev N) Q.length (⟨hQ, fun x => rfl, Nat.le_refl _, s4⟩ : PB (Abs.ev Q) Q.length s Q) (⟨h.tn, fun x => rfl, Nat.le_refl _, v2⟩ : PB (Abs.ev N) N.length v N) (Nat.le_of_lt Nat.lt_two_pow_self) (by omega) (by omega)
  obtain ⟨D, hD, cD⟩ := pb_sub (⟨h.tu, fun x => rfl, Nat.le_refl _, v1⟩ : PB (Abs.ev U) U.length v U) hM (by omega) (by omega) (by omega)
  obtain ⟨N', hN', cN⟩ := pb_scale s3 hD (by omega) (by omega)
  refine ⟨M, D, N', cM, cD, cN, hN'.tr, hN'.ev, hN'.len, fun w w1 w2 => ?_⟩
  have e := (CF.scale s3 (w1.add (s4.prod w2 (i := Q.length) (l := Q.length) (Nat.le_of_lt Nat.lt_two_pow_self)).neg)).mono (t := 2 * w + 4 * W + 1) (by omega)
  refine e.congr fun j => ?_
  have hc := ev_coef (P := N') (Q := lsc c (pshift U (-1) (pmul Q N) 0)) (fun x => by rw [hN'.ev, ev_lsc, ev_shift, ev_pmul]; grind) j
  show _ = N'.getD j 0
  rw [hc, lsc_get, pshift_get, if_pos (Nat.zero_le _), Nat.sub_zero, pmul_get, csum_cnv]
  grind

/-- The whole run. -/
theorem eu_run {W V : Nat} (hW : W ≤ 400000000) (hV : V ≤ 400000000) : ∀ (l : Nat) (A B U N : List Rat), B.length ≤ l → EuI W V A B U N → ∃ G X K, Eu A B U N G X K ∧ ptrim G = G ∧ ptrim X = X ∧ ptrim K = K ∧ CF W (fun j => G.getD j 0) ∧ CF V (fun j => X.getD j 0) ∧ CF V (fun j => K.getD j 0) ∧ G.length ≤ 200 ∧ X.length ≤ 200 := by
  have stop : ∀ (A U N : List Rat), EuI W V A [] U N → ∃ G X K, Eu A [] U N G X K ∧ ptrim G = G ∧ ptrim X = X ∧ ptrim K = K ∧ CF W (fun j => G.getD j 0) ∧ CF V (fun j => X.getD j 0) ∧ CF V (fun j => K.getD j 0) ∧ G.length ≤ 200 ∧ X.length ≤ 200 := fun A U N h => by
    obtain ⟨s, c1, c2, c3⟩ := h.sz
    obtain ⟨v, v1, v2, v3⟩ := h.szu
    have a1 := h.lu
    have a3 := h.la
    simp only [List.length_nil, Nat.pow_zero, Nat.mul_one] at c3 v3
    have : s + 1 ≤ (s + 1) * (A.length + 1 - 0 + 1) := Nat.le_mul_of_pos_right _ (by omega)
    exact ⟨A, U, N, .nil A U N, h.ta, h.tu, h.tn, c1.mono (by omega), v1.mono (by omega), v2.mono (by omega), a3, by omega⟩
  intro l
  induction l with
  | zero =>
    intro A B U N hl h
    have : B = [] := List.length_eq_zero_iff.1 (by omega)
    subst this
    exact stop A U N h
  | succ l ih =>
    intro A B U N hl h
    rcases Classical.em (B = []) with h0 | h0
    · subst h0; exact stop A U N h
    · obtain ⟨Q, R, c, R', hr, _, hlt, hs, hq, hqW, _⟩ := eu_step h h0 hW
      obtain ⟨s, s1, s2, s3, s4, s5, s6⟩ := hs
      obtain ⟨M, D, N', _, _, _, n1, n2, n3, n4⟩ := bz_step h h0 hr.tq hq hqW ⟨s, s3, s4, s5⟩ hV
      have hl' := hr.len
      obtain ⟨G, X, K, e, rest⟩ := ih B R' N N' (by omega) (h.next h0 hr ⟨s, s1, s2, s3, s4, s5, s6⟩ hq n1 n3 n4)
      exact ⟨G, X, K, .step h0 hr n1 n2 e, rest⟩

theorem ugcdstep_call (Q : Abs.Rows) (s t : Bool) (r p : Abs.Rows) : ACall Tryz.prog 71 [.val (tl Q), .val (.agg [.v (.bool s), .lst false r, .v (.bool t), .lst false p])] ⟨[], [none, none]⟩ := by
  refine callZ ccOk mixed [] Tryz.func71 rfl rfl (by kernel_rfl) fun zwrap zadd zsub zmul zquo zrem zshl zshr zband zbor zbxor zbandn zeq zne zlt zle znot zbeq zbne zmax zmin znat zinb zofN zidx zneq znadd zdif zcut zroom zmkok zlen znth zsetr zisI zgetI zsetI zfit zpart zext zsetg zrep zwide zall zmok zmget zmset zW zth A L F hS hF => ?_
  cbv
  exact hF _ (ResLe.refl _)

theorem ubezstep_call {Q N U M D N' : Abs.Rows} {s t : Bool} {r p : Abs.Rows} (c1 : ACall Tryz.prog 17 [.val (tl Q), .val (tl N)] ⟨[.val (tl M)], [none, none]⟩) (c2 : ACall Tryz.prog 18 [.val (tl U), .val (tl M)] ⟨[.val (tl D)], [none, none]⟩)
    (c3 : ACall Tryz.prog 21 [.val (.agg [.v (.bool s), .lst false r, .v (.bool t), .lst false p]), .val (tl D)] ⟨[.val (tl N')], [none, none]⟩) :
    ACall Tryz.prog 73 [.val (tl Q), .val (.agg [.v (.bool s), .lst false r, .v (.bool t), .lst false p]), .ref [.lst false N], .ref [.lst false U]] ⟨[], [none, none, some (.var [.t (.lst false N')]), some (.var [.t (.lst false N)])]⟩ := by
  refine callZ ccOk mixed [] Tryz.func73 rfl rfl (by kernel_rfl) fun zwrap zadd zsub zmul zquo zrem zshl zshr zband zbor zbxor zbandn zeq zne zlt zle znot zbeq zbne zmax zmin znat zinb zofN zidx zneq znadd zdif zcut zroom zmkok zlen znth zsetr zisI zgetI zsetI zfit zpart zext zsetg zrep zwide zall zmok zmget zmset zW zth A L F hS hF => ?_
  cbv
  refine ⟨_, hS.call (c1), ?_⟩
  cbv
  refine ⟨_, hS.call (c2), ?_⟩
  cbv
  refine ⟨_, hS.call (c3), ?_⟩
  cbv
  exact hF _ (ResLe.refl _)

def ueuSt (X Y : Abs.Rows) : St := mkSt 37 [.c (.t (.lst false X)), .c (.t (.lst false Y)), .c (.t (.v (.func (.func 71) #[] #[])))] [none, none, none]

/-- The next round: what the relation says is what the calls compute. -/
theorem eu_round {W V : Nat} (hW : W ≤ 400000000) (hV : V ≤ 400000000) {A B U N G X K : List Rat} (hI : EuI W V A B U N) (hE : Eu A B U N G X K) (hB : B ≠ []) :
    ∃ Q R c R' N', EuI W V B R' N N' ∧ Eu B R' N N' G X K ∧ R'.length = R.length ∧ R'.length < B.length ∧
      ACall Tryz.prog 23 [.val (tl (ur A)), .val (tl (ur B))] ⟨[.val (tl (ur Q)), .val (tl (ur R)), .val (ti .i64 0)], [none, none]⟩ ∧
      (R = [] → R' = [] ∧ c = 1) ∧ (R ≠ [] → ACall Tryz.prog 76 [.val (tl (ur R))] ⟨[.val (.agg (qc c).row)], [none]⟩ ∧ ACall Tryz.prog 21 [.val (.agg (qc c).row), .val (tl (ur R))] ⟨[.val (tl (ur R'))], [none, none]⟩) ∧
      ∃ M D, ACall Tryz.prog 17 [.val (tl (ur Q)), .val (tl (ur N))] ⟨[.val (tl (ur M))], [none, none]⟩ ∧ ACall Tryz.prog 18 [.val (tl (ur U)), .val (tl (ur M))] ⟨[.val (tl (ur D))], [none, none]⟩ ∧
      ACall Tryz.prog 21 [.val (.agg (qc c).row), .val (tl (ur D))] ⟨[.val (tl (ur N'))], [none, none]⟩ := by
  rcases hE.inv with ⟨h, _⟩ | ⟨_, Q2, R2, N2, d, e1, e2, e3, e4⟩
  · exact absurd h hB
  obtain ⟨Q, R, c, R', hr, hl, hlt, hs, hq, hqW, cd, r0, r1⟩ := eu_step hI hB hW
  obtain ⟨s, s1, s2, s3, s4, s5, s6⟩ := hs
  obtain ⟨M, D, N', cM, cD, cN, n1, n2, n3, n4⟩ := bz_step hI hB hr.tq hq hqW ⟨s, s3, s4, s5⟩ hV
  obtain ⟨u1, u2, u3⟩ := e1.uniq hI.tb hr
  subst u1 u2 u3
  have u4 : N2 = N' := tr_inj e2 n1 fun x => by rw [e3, n2]
  subst u4
  exact ⟨Q2, R, d, R2, N2, hI.next hB hr ⟨s, s1, s2, s3, s4, s5, s6⟩ hq n1 n3 n4, e4, hl, by omega, cd, r0, r1, M, D, cM, cD, cN⟩

/-- The same without factors. -/
theorem eu_round0 {W V : Nat} (hW : W ≤ 400000000) {A B G X K : List Rat} (hI : EuI W V A B [] []) (hE : Eu A B [] [] G X K) (hB : B ≠ []) :
    ∃ Q R c R', EuI W V B R' [] [] ∧ Eu B R' [] [] G X K ∧ R'.length = R.length ∧ R'.length < B.length ∧
      ACall Tryz.prog 23 [.val (tl (ur A)), .val (tl (ur B))] ⟨[.val (tl (ur Q)), .val (tl (ur R)), .val (ti .i64 0)], [none, none]⟩ ∧
      (R = [] → R' = [] ∧ c = 1) ∧ (R ≠ [] → ACall Tryz.prog 76 [.val (tl (ur R))] ⟨[.val (.agg (qc c).row)], [none]⟩ ∧ ACall Tryz.prog 21 [.val (.agg (qc c).row), .val (tl (ur R))] ⟨[.val (tl (ur R'))], [none, none]⟩) := by
  rcases hE.inv with ⟨h, _⟩ | ⟨_, Q2, R2, N2, d, e1, e2, e3, e4⟩
  · exact absurd h hB
  obtain ⟨Q, R, c, R', hr, hl, hlt, hs, hq, hqW, cd, r0, r1⟩ := eu_step hI hB hW
  obtain ⟨u1, u2, u3⟩ := e1.uniq hI.tb hr
  subst u1 u2 u3
  have u4 : N2 = [] := tr_nil e2 fun x => by rw [e3]; simp only [Abs.ev]; grind
  subst u4
  exact ⟨Q2, R, d, R2, hI.next hB hr hs hq rfl (Nat.zero_le _) (fun v _ _ => (CF.zero _).congr fun j => by simp), e4, hl, by omega, cd, r0, r1⟩

theorem eu_run0 {W V : Nat} (hW : W ≤ 400000000) : ∀ (l : Nat) (A B : List Rat), B.length ≤ l → EuI W V A B [] [] → ∃ G X K, Eu A B [] [] G X K ∧ ptrim G = G ∧ CF W (fun j => G.getD j 0) ∧ G.length ≤ 200 := by
  have stop : ∀ (A : List Rat), EuI W V A [] [] [] → ∃ G X K, Eu A [] [] [] G X K ∧ ptrim G = G ∧ CF W (fun j => G.getD j 0) ∧ G.length ≤ 200 := fun A h => by
    obtain ⟨s, c1, c2, c3⟩ := h.sz
    have a3 := h.la
    simp only [List.length_nil, Nat.pow_zero, Nat.mul_one] at c3
    have : s + 1 ≤ (s + 1) * (A.length + 1 - 0 + 1) := Nat.le_mul_of_pos_right _ (by omega)
    exact ⟨A, [], [], .nil A [] [], h.ta, c1.mono (by omega), a3⟩
  intro l
  induction l with
  | zero =>
    intro A B hl h
    have : B = [] := List.length_eq_zero_iff.1 (by omega)
    subst this
    exact stop A h
  | succ l ih =>
    intro A B hl h
    rcases Classical.em (B = []) with h0 | h0
    · subst h0; exact stop A h
    · obtain ⟨Q, R, c, R', hr, _, hlt, hs, hq, hqW, _⟩ := eu_step h h0 hW
      have hl' := hr.len
      obtain ⟨G, X, K, e, rest⟩ := ih B R' (by omega) (h.next h0 hr hs hq rfl (Nat.zero_le _) (fun v _ _ => (CF.zero _).congr fun j => by simp))
      exact ⟨G, X, K, .step h0 hr rfl (fun x => by simp only [Abs.ev]; grind) e, rest⟩

/-- univariate.euclid as Gcd calls it. -/
theorem ueuclid_gcd {W V : Nat} (hW : W ≤ 400000000) {A0 B0 G X K : List Rat} (hI : EuI W V A0 B0 [] []) (hE : Eu A0 B0 [] [] G X K) :
    ACall Tryz.prog 70 [.val (tl (ur A0)), .val (tl (ur B0)), .val (.c (.v (.func (.func 71) #[] #[])))] ⟨[.val (tl (ur G))], [none, none, none]⟩ := by
  obtain ⟨T, hT⟩ : ∃ T, T = ur G := ⟨_, rfl⟩
  obtain ⟨P, hP⟩ : ∃ T, T = ur A0 := ⟨_, rfl⟩
  obtain ⟨S, hS0⟩ : ∃ T, T = ur B0 := ⟨_, rfl⟩
  rw [← hT, ← hP, ← hS0]
  refine callZ ccOk mixed [.val] Tryz.func70 rfl rfl (by kernel_rfl) fun zwrap zadd zsub zmul zquo zrem zshl zshr zband zbor zbxor zbandn zeq zne zlt zle znot zbeq zbne zmax zmin znat zinb zofN zidx zneq znadd zdif zcut zroom zmkok zlen znth zsetr zisI zgetI zsetI zfit zpart zext zsetg zrep zwide zall zmok zmget zmset zW zth A L F hS hF => ?_
  cbv
  refine loopZ ccOk mixed hS (fun (i : Nat) s' => ∃ (A' B' : List Rat) (X' Y : Abs.Rows), B'.length = i ∧ EuI W V A' B' [] [] ∧ Eu A' B' [] [] G X K ∧ X' = ur A' ∧ Y = ur B' ∧ s' = ueuSt X' Y) (n := B0.length) (s0 := ueuSt P S) (le_of ?_ ?_) rfl (by show 3 ≤ 3; omega) ?_ ?_
  · simp [leT, ueuSt, mkSt]
  · simp [leH, ueuSt, mkSt]
  · exact ⟨A0, B0, P, S, rfl, hI, hE, hP, hS0, rfl⟩
  · rintro i s1 ⟨A', B', X', Y, hi, hI', hE', hX, hY, hs1⟩
    by_cases hB : B' = []
    · subst hB
      have hG : X' = T := by
        rcases hE'.inv with ⟨_, h, _⟩ | ⟨h, _⟩
        · rw [hX, hT, h]
        · exact absurd rfl h
      have l1 : zlt 0 (zofN (zlen Y)) = false := by rw [hS.lt, hS.ofN, hS.len, hY, ur_len]; rfl
      subst hG
      subst hs1
      cbv
      refine bF l1 ?_
      exact hF _ (ResLe.refl _)
    · obtain ⟨Q, R, c, R', hI2, hE2, hl, hlt, cd, r0, r1⟩ := eu_round0 hW hI' hE' hB
      have hB1 : B'.length ≠ 0 := fun h0 => hB (List.length_eq_zero_iff.1 h0)
      have hlt' : R'.length < B'.length := hlt
      have hYl : Y.length = B'.length := by rw [hY, ur_len]
      have hRl : (ur R).length = R.length := ur_len R
      have hmm : R'.length < i := by omega
      obtain ⟨s, t, r, p, hrow, _⟩ := qrow c
      obtain ⟨s1, t1, r1', p1, hrow1, _⟩ := qrow 1
      have cw := pwhole_row 1 (by omega) (by omega)
      rw [show ((1 : Int) : Rat) = 1 from rfl, hrow1] at cw
      rw [← hX, ← hY] at cd
      have l1 : zlt 0 (zofN (zlen Y)) = true := by rw [hS.lt, hS.ofN, hS.len, hYl]; exact decide_eq_true (by omega)
      have cst := ugcdstep_call (ur Q) s t r p
      by_cases hR : R = []
      · obtain ⟨r01, r02⟩ := r0 hR
        have l2 : zlt 0 (zofN (zlen (ur R))) = false := by rw [hS.lt, hS.ofN, hS.len, hRl, hR]; rfl
        have hrr : ur R = ur R' := by rw [hR, r01]
        have e1 : [Tree.v (.bool s), .lst false r, .v (.bool t), .lst false p] = [Tree.v (.bool s1), .lst false r1', .v (.bool t1), .lst false p1] := by rw [← hrow, ← hrow1, r02]
        rw [e1] at cst
        have hnx : ∃ (A' B'' : List Rat) (X' Y' : Abs.Rows), B''.length = R'.length ∧ EuI W V A' B'' [] [] ∧ Eu A' B'' [] [] G X K ∧ X' = ur A' ∧ Y' = ur B'' ∧ ueuSt Y (ur R) = ueuSt X' Y' := ⟨B', R', Y, ur R', rfl, hI2, hE2, hY, rfl, by rw [hrr]⟩
        generalize ur R = UR at *
        generalize ur Q = UQ at *
        subst hs1
        cbv
        refine bT l1 ?_
        refine ⟨_, hS.call (cd), ?_⟩
        cbv
        refine ⟨_, hS.call (cw), ?_⟩
        cbv
        refine bF (l2) ?_
        refine ⟨_, hS.call (cst), ?_⟩
        cbv
        exact again (s' := ueuSt Y UR) (m := R'.length) (by simp [leT, ueuSt, mkSt]) (by simp [leH, ueuSt, mkSt]) rfl (by show 3 ≤ 3; omega) hmm hnx
      · obtain ⟨r11, r12⟩ := r1 hR
        have hR1 : R.length ≠ 0 := fun h0 => hR (List.length_eq_zero_iff.1 h0)
        have l2 : zlt 0 (zofN (zlen (ur R))) = true := by rw [hS.lt, hS.ofN, hS.len, hRl]; exact decide_eq_true (by omega)
        rw [hrow] at r11 r12
        have hnx : ∃ (A' B'' : List Rat) (X' Y' : Abs.Rows), B''.length = R'.length ∧ EuI W V A' B'' [] [] ∧ Eu A' B'' [] [] G X K ∧ X' = ur A' ∧ Y' = ur B'' ∧ ueuSt Y (ur R') = ueuSt X' Y' := ⟨B', R', Y, ur R', rfl, hI2, hE2, hY, rfl, rfl⟩
        generalize ur R = UR at *
        generalize ur Q = UQ at *
        generalize ur R' = UR' at *
        subst hs1
        cbv
        refine bT l1 ?_
        refine ⟨_, hS.call (cd), ?_⟩
        cbv
        refine ⟨_, hS.call (cw), ?_⟩
        cbv
        refine bT (l2) ?_
        refine ⟨_, hS.call (r11), ?_⟩
        cbv
        refine ⟨_, hS.call (r12), ?_⟩
        cbv
        refine ⟨_, hS.call (cst), ?_⟩
        cbv
        exact again (s' := ueuSt Y UR') (m := R'.length) (by simp [leT, ueuSt, mkSt]) (by simp [leH, ueuSt, mkSt]) rfl (by show 3 ≤ 3; omega) hmm hnx
end Go.Proofs.YtdhidmcjglokcaaGreat
end

section
set_option linter.unusedVariables false
set_option linter.unusedSimpArgs false
set_option maxHeartbeats 8000000
set_option linter.unusedVariables false
set_option linter.unusedSimpArgs false
set_option maxRecDepth 100000
namespace Go.Proofs.YtdhidmcjglokcaaGreat
open Go Go.Abs Go.Abs.M Go.Proofs

/-- The greatest common divisor. -/
structure IsG (A B G : List Rat) : Prop where
  tr : ptrim G = G
  da : Dv G A
  db : Dv G B
  gr : ∀ D, Dv D A → Dv D B → Dv D G
  mon : G ≠ [] → Mon G

theorem IsG.uniq {A B G H : List Rat} (h : IsG A B G) (h' : IsG A B H) : G = H := by
  have d1 := h'.gr G h.da h.db
  have d2 := h.gr H h'.da h'.db
  rcases Classical.em (G = []) with h0 | h0
  · obtain ⟨K, hK⟩ := d1
    rw [h0]
    exact (tr_nil h'.tr fun x => by rw [hK, h0]; simp only [Abs.ev]; grind).symm
  rcases Classical.em (H = []) with h1 | h1
  · obtain ⟨K, hK⟩ := d2
    exact absurd (tr_nil h.tr fun x => by rw [hK, h1]; simp only [Abs.ev]; grind) h0
  exact mon_uniq h.tr h'.tr (h.mon h0) (h'.mon h1) d1 d2

theorem IsG.symm {A B G : List Rat} (h : IsG A B G) : IsG B A G := ⟨h.tr, h.db, h.da, fun D a b => h.gr D b a, h.mon⟩

theorem IsG.nil {A B G : List Rat} (hA : ptrim A = A) (hB : ptrim B = B) (h : IsG A B G) : G = [] ↔ A = [] ∧ B = [] := by
  refine ⟨fun h0 => ?_, fun ⟨h1, h2⟩ => ?_⟩
  · obtain ⟨K, hK⟩ := h.da
    obtain ⟨L, hL⟩ := h.db
    exact ⟨tr_nil hA fun x => by rw [hK, h0]; simp only [Abs.ev]; grind, tr_nil hB fun x => by rw [hL, h0]; simp only [Abs.ev]; grind⟩
  · obtain ⟨K, hK⟩ := h.gr [] (h1 ▸ Dv.refl []) (h2 ▸ Dv.refl [])
    exact tr_nil h.tr fun x => by rw [hK]; simp only [Abs.ev]; grind

theorem eu_start {W s n : Nat} {A B : List Rat} (hA : ptrim A = A) (hB : ptrim B = B) (cA : CF s (fun j => A.getD j 0)) (cB : CF s (fun j => B.getD j 0)) (hn : A.length ≤ n) {m : Nat} (hm : B.length ≤ m) (hW : (s + 1) * (n + 2) * 3 ^ m ≤ W) (hl : n + 2 * m ≤ 190) {v V : Nat} {U N : List Rat} (hU : ptrim U = U) (hN : ptrim N = N) (cU : CF v (fun j => U.getD j 0)) (cN : CF v (fun j => N.getD j 0)) (lU : U.length ≤ 1) (lN : N.length ≤ 1) (hV : (v + 4 * W + 4) * 2 ^ m ≤ V) : EuI W V A B U N :=
  ⟨hA, hB, hU, hN, ⟨s, cA, cB, Nat.le_trans (Nat.mul_le_mul (Nat.mul_le_mul_left _ (by omega)) (Nat.pow_le_pow_right (by omega) hm)) hW⟩, ⟨v, cU, cN, Nat.le_trans (Nat.mul_le_mul_left _ (Nat.pow_le_pow_right (by omega) hm)) hV⟩, by omega, by omega, by omega⟩

theorem isg_of {A B U N X K R G : List Rat} (hE : Eu A B U N R X K) (hG : ptrim G = G) (hR : ptrim R = R) (h1 : R = [] → G = []) (h2 : R ≠ [] → ∀ x, Abs.ev G x = (R.getD (R.length - 1) 0)⁻¹ * Abs.ev R x) : IsG A B G := by
  obtain ⟨d1, d2, d3⟩ := hE.dvd
  rcases Classical.em (R = []) with h0 | h0
  · have hG0 := h1 h0
    rw [hG0, ← h0]
    exact ⟨hR, d1, d2, d3, fun h => absurd h0 h⟩
  · have hL := tr_last hR h0
    have hi := Rat.inv_mul_cancel _ hL
    generalize hLe : R.getD (R.length - 1) 0 = L at *
    have hi0 : L⁻¹ ≠ 0 := fun h1 => by rw [h1, Rat.zero_mul] at hi; exact absurd hi (by decide)
    have hGe : G = lsc L⁻¹ R := tr_inj hG (lsc_trim hi0 hR) fun x => by rw [h2 h0, ev_lsc]
    refine ⟨hG, hGe ▸ d1.scale hi0, hGe ▸ d2.scale hi0, fun D e1 e2 => ?_, fun h => ⟨h, ?_⟩⟩
    · exact Dv.lin (U := [L⁻¹]) (V := []) (d3 D e1 e2) (d3 D e1 e2) fun x => by rw [h2 h0]; simp only [Abs.ev]; grind
    · rw [hGe, lsc_get, lsc_len, hLe, hi]

/-- univariate.Gcd. -/
theorem pb_gcd {f g : Rat → Rat} {n m s : Nat} {A0 B0 : List Rat} (W : Nat) (hA : PB f n s A0) (hB : PB g m s B0) (hW : (s + 1) * (n + 2) * 3 ^ m ≤ W) (hW2 : W ≤ 400000000) (hl : n + 2 * m ≤ 190) :
    ∃ G, IsG A0 B0 G ∧ CF W (fun j => G.getD j 0) ∧ G.length ≤ 200 ∧ ACall Tryz.prog 25 [.val (tl (ur A0)), .val (tl (ur B0))] ⟨[.val (tl (ur G))], [none, none]⟩ := by
  have hz : ∀ v, CF v (fun j => ([] : List Rat).getD j 0) := fun v => (CF.zero v).congr fun j => by simp
  have hI : EuI W ((0 + 4 * W + 4) * 2 ^ m) A0 B0 [] [] := eu_start hA.tr hB.tr hA.cf hB.cf hA.len hB.len hW hl rfl rfl (hz 0) (hz 0) (Nat.zero_le _) (Nat.zero_le _) (Nat.le_refl _)
  obtain ⟨R, X, K, hE, tR, cR, lR⟩ := eu_run0 hW2 _ A0 B0 (Nat.le_refl _) hI
  have ce := ueuclid_gcd hW2 hI hE
  have hm : ∃ G, ptrim G = G ∧ (R = [] → G = []) ∧ (R ≠ [] → ∀ x, Abs.ev G x = (R.getD (R.length - 1) 0)⁻¹ * Abs.ev R x) ∧ CF W (fun j => G.getD j 0) ∧ G.length ≤ 200 ∧ ACall Tryz.prog 32 [.val (tl (ur R))] ⟨[.val (tl (ur G))], [none]⟩ := by
    rcases Classical.em (R = []) with h0 | h0
    · subst h0
      exact ⟨[], rfl, fun _ => rfl, fun h => absurd rfl h, hz W, Nat.zero_le _, umonic_nil⟩
    · have hP : PB (Abs.ev R) 200 W R := ⟨tR, fun x => rfl, lR, cR⟩
      obtain ⟨G, hG, cG⟩ := pl_monic hP.pl h0 (by omega) (by omega)
      refine ⟨G, hG.tr, fun h => absurd h h0, fun _ => hG.ev, ?_, hG.len, cG⟩
      have hL := tr_last tR h0
      exact (cR.div (R.length - 1) hL).congr fun j => by
        rw [ev_coef (P := G) (Q := lsc (R.getD (R.length - 1) 0)⁻¹ R) (fun x => by rw [hG.ev, ev_lsc]) j, lsc_get]
  obtain ⟨G, tG, g1, g2, cG, lG, cm⟩ := hm
  refine ⟨G, isg_of hE tG tR g1 g2, cG, lG, ?_⟩
  generalize ur A0 = X1 at *
  generalize ur B0 = X2 at *
  generalize ur R = X3 at *
  generalize ur G = X4 at *
  refine callZ ccOk mixed [.val] Tryz.func25 rfl rfl (by kernel_rfl) fun zwrap zadd zsub zmul zquo zrem zshl zshr zband zbor zbxor zbandn zeq zne zlt zle znot zbeq zbne zmax zmin znat zinb zofN zidx zneq znadd zdif zcut zroom zmkok zlen znth zsetr zisI zgetI zsetI zfit zpart zext zsetg zrep zwide zall zmok zmget zmset zW zth A L F hS hF => ?_
  cbv
  refine ⟨_, hS.call (ce), ?_⟩
  cbv
  refine ⟨_, hS.call (cm), ?_⟩
  cbv
  exact hF _ (ResLe.refl _)
end Go.Proofs.YtdhidmcjglokcaaGreat
end

section
set_option linter.unusedVariables false
set_option linter.unusedSimpArgs false
set_option maxHeartbeats 8000000
set_option linter.unusedVariables false
set_option linter.unusedSimpArgs false
set_option maxRecDepth 100000
namespace Go.Proofs.YtdhidmcjglokcaaGreat
open Go Go.Abs Go.Abs.M Go.Proofs

def ueubSt (X Y N U : Abs.Rows) : St := mkSt 37 [.c (.t (.lst false X)), .c (.t (.lst false Y)), .c (.clo 73 [(3, 0, 0), (4, 0, 0)])] [none, none, none, some (.var [.t (.lst false N)]), some (.var [.t (.lst false U)])]

/-- univariate.euclid as Bezout calls it. -/
theorem ueuclid_bez {W V : Nat} (hW : W ≤ 400000000) (hV : V ≤ 400000000) {A0 B0 U0 N0 G X K : List Rat} (hI : EuI W V A0 B0 U0 N0) (hE : Eu A0 B0 U0 N0 G X K) :
    ACall Tryz.prog 70 [.val (tl (ur A0)), .val (tl (ur B0)), .clo 73 [(3, 0, 0), (4, 0, 0)], .gh [.lst false (ur N0)], .gh [.lst false (ur U0)]] ⟨[.val (tl (ur G))], [none, none, none, some (.var [.t (.lst false (ur K))]), some (.var [.t (.lst false (ur X))])]⟩ := by
  obtain ⟨T, hT⟩ : ∃ T, T = ur G := ⟨_, rfl⟩
  obtain ⟨T1, hT1⟩ : ∃ T, T = ur X := ⟨_, rfl⟩
  obtain ⟨T2, hT2⟩ : ∃ T, T = ur K := ⟨_, rfl⟩
  obtain ⟨P, hP⟩ : ∃ T, T = ur A0 := ⟨_, rfl⟩
  obtain ⟨S, hS0⟩ : ∃ T, T = ur B0 := ⟨_, rfl⟩
  obtain ⟨P1, hP1⟩ : ∃ T, T = ur U0 := ⟨_, rfl⟩
  obtain ⟨S1, hS1⟩ : ∃ T, T = ur N0 := ⟨_, rfl⟩
  rw [← hT, ← hP, ← hS0, ← hT1, ← hT2, ← hP1, ← hS1]
  refine callZ ccOk mixed [.val] Tryz.func70 rfl rfl (by kernel_rfl) fun zwrap zadd zsub zmul zquo zrem zshl zshr zband zbor zbxor zbandn zeq zne zlt zle znot zbeq zbne zmax zmin znat zinb zofN zidx zneq znadd zdif zcut zroom zmkok zlen znth zsetr zisI zgetI zsetI zfit zpart zext zsetg zrep zwide zall zmok zmget zmset zW zth A L F hS hF => ?_
  cbv
  refine loopZ ccOk mixed hS (fun (i : Nat) s' => ∃ (A' B' U' N' : List Rat) (X' Y Z1 Z2 : Abs.Rows), B'.length = i ∧ EuI W V A' B' U' N' ∧ Eu A' B' U' N' G X K ∧ X' = ur A' ∧ Y = ur B' ∧ Z1 = ur N' ∧ Z2 = ur U' ∧ s' = ueubSt X' Y Z1 Z2) (n := B0.length) (s0 := ueubSt P S S1 P1) (le_of ?_ ?_) rfl (by show 5 ≤ 5; omega) ?_ ?_
  · simp [leT, ueubSt, mkSt]
  · simp [leH, ueubSt, mkSt]
  · exact ⟨A0, B0, U0, N0, P, S, S1, P1, rfl, hI, hE, hP, hS0, hS1, hP1, rfl⟩
  · rintro i s1 ⟨A', B', U', N', X', Y, Z1, Z2, hi, hI', hE', hX, hY, hZ1, hZ2, hs1⟩
    by_cases hB : B' = []
    · subst hB
      have hG : X' = T ∧ Z1 = T2 ∧ Z2 = T1 := by
        rcases hE'.inv with ⟨_, h1, h2, h3⟩ | ⟨h, _⟩
        · exact ⟨by rw [hX, hT, h1], by rw [hZ1, hT2, h3], by rw [hZ2, hT1, h2]⟩
        · exact absurd rfl h
      obtain ⟨g1, g2, g3⟩ := hG
      have l1 : zlt 0 (zofN (zlen Y)) = false := by rw [hS.lt, hS.ofN, hS.len, hY, ur_len]; rfl
      subst g1 g2 g3
      subst hs1
      cbv
      refine bF l1 ?_
      exact hF _ (ResLe.refl _)
    · obtain ⟨Q, R, c, R', N2, hI2, hE2, hl, hlt, cd, r0, r1, M, D, cM, cD, cN⟩ := eu_round hW hV hI' hE' hB
      have hB1 : B'.length ≠ 0 := fun h0 => hB (List.length_eq_zero_iff.1 h0)
      have hlt' : R'.length < B'.length := hlt
      have hYl : Y.length = B'.length := by rw [hY, ur_len]
      have hRl : (ur R).length = R.length := ur_len R
      have hmm : R'.length < i := by omega
      obtain ⟨s, t, r, p, hrow, _⟩ := qrow c
      obtain ⟨s1, t1, r1', p1, hrow1, _⟩ := qrow 1
      have cw := pwhole_row 1 (by omega) (by omega)
      rw [show ((1 : Int) : Rat) = 1 from rfl, hrow1] at cw
      rw [← hX, ← hY] at cd
      have l1 : zlt 0 (zofN (zlen Y)) = true := by rw [hS.lt, hS.ofN, hS.len, hYl]; exact decide_eq_true (by omega)
      rw [hrow] at cN
      have cst := ubezstep_call cM cD cN
      rw [← hZ1, ← hZ2] at cst
      by_cases hR : R = []
      · obtain ⟨r01, r02⟩ := r0 hR
        have l2 : zlt 0 (zofN (zlen (ur R))) = false := by rw [hS.lt, hS.ofN, hS.len, hRl, hR]; rfl
        have hrr : ur R = ur R' := by rw [hR, r01]
        have e1 : [Tree.v (.bool s), .lst false r, .v (.bool t), .lst false p] = [Tree.v (.bool s1), .lst false r1', .v (.bool t1), .lst false p1] := by rw [← hrow, ← hrow1, r02]
        rw [e1] at cst
        have hnx : ∃ (A' B'' U' N' : List Rat) (X' Y' Z1' Z2' : Abs.Rows), B''.length = R'.length ∧ EuI W V A' B'' U' N' ∧ Eu A' B'' U' N' G X K ∧ X' = ur A' ∧ Y' = ur B'' ∧ Z1' = ur N' ∧ Z2' = ur U' ∧ ueubSt Y (ur R) (ur N2) Z1 = ueubSt X' Y' Z1' Z2' := ⟨B', R', _, _, Y, ur R', ur N2, Z1, rfl, hI2, hE2, hY, rfl, rfl, hZ1, by rw [hrr]⟩
        generalize ur R = UR at *
        generalize ur Q = UQ at *
        generalize ur N2 = UN at *
        subst hs1
        cbv
        refine bT l1 ?_
        refine ⟨_, hS.call (cd), ?_⟩
        cbv
        refine ⟨_, hS.call (cw), ?_⟩
        cbv
        refine bF (l2) ?_
        refine ⟨_, hS.call (cst), ?_⟩
        cbv
        exact again (s' := ueubSt Y UR UN Z1) (m := R'.length) (by simp [leT, ueubSt, mkSt]) (by simp [leH, ueubSt, mkSt]) rfl (by show 5 ≤ 5; omega) hmm hnx
      · obtain ⟨r11, r12⟩ := r1 hR
        have hR1 : R.length ≠ 0 := fun h0 => hR (List.length_eq_zero_iff.1 h0)
        have l2 : zlt 0 (zofN (zlen (ur R))) = true := by rw [hS.lt, hS.ofN, hS.len, hRl]; exact decide_eq_true (by omega)
        rw [hrow] at r11 r12
        have hnx : ∃ (A' B'' U' N' : List Rat) (X' Y' Z1' Z2' : Abs.Rows), B''.length = R'.length ∧ EuI W V A' B'' U' N' ∧ Eu A' B'' U' N' G X K ∧ X' = ur A' ∧ Y' = ur B'' ∧ Z1' = ur N' ∧ Z2' = ur U' ∧ ueubSt Y (ur R') (ur N2) Z1 = ueubSt X' Y' Z1' Z2' := ⟨B', R', _, _, Y, ur R', ur N2, Z1, rfl, hI2, hE2, hY, rfl, rfl, hZ1, rfl⟩
        generalize ur R = UR at *
        generalize ur Q = UQ at *
        generalize ur R' = UR' at *
        generalize ur N2 = UN at *
        subst hs1
        cbv
        refine bT l1 ?_
        refine ⟨_, hS.call (cd), ?_⟩
        cbv
        refine ⟨_, hS.call (cw), ?_⟩
        cbv
        refine bT (l2) ?_
        refine ⟨_, hS.call (r11), ?_⟩
        cbv
        refine ⟨_, hS.call (r12), ?_⟩
        cbv
        refine ⟨_, hS.call (cst), ?_⟩
        cbv
        exact again (s' := ueubSt Y UR' UN Z1) (m := R'.length) (by simp [leT, ueubSt, mkSt]) (by simp [leH, ueubSt, mkSt]) rfl (by show 5 ≤ 5; omega) hmm hnx

theorem uconst_call (n : Int) (h1 : -9223372036854775808 ≤ n) (h2 : n < 9223372036854775808) : ACall Tryz.prog 72 [.val (ti .i64 n)] ⟨[.val (tl (ur (ptrim [(n : Rat)])))], [none]⟩ := by
  have cw := pwhole_row n h1 h2
  have ct := utrim2_call [(n : Rat)] (by simp)
  rw [ur_single] at ct
  obtain ⟨s, t, r, p, hrow, _⟩ := qrow (n : Rat)
  rw [hrow] at cw ct
  generalize ur (ptrim [(n : Rat)]) = Z at *
  refine callZ ccOk mixed [.val] Tryz.func72 rfl rfl (by kernel_rfl) fun zwrap zadd zsub zmul zquo zrem zshl zshr zband zbor zbxor zbandn zeq zne zlt zle znot zbeq zbne zmax zmin znat zinb zofN zidx zneq znadd zdif zcut zroom zmkok zlen znth zsetr zisI zgetI zsetI zfit zpart zext zsetg zrep zwide zall zmok zmget zmset zW zth A L F hS hF => ?_
  have u1 : zfit 0 1 [[Tree.v (.bool s), .lst false r, .v (.bool t), .lst false p]] = true := by rw [hS.fit]; rfl
  have u0 : zpart [[Tree.v (.bool s), .lst false r, .v (.bool t), .lst false p]] 0 1 = [[Tree.v (.bool s), .lst false r, .v (.bool t), .lst false p]] := by rw [hS.part]; rfl
  cbv
  refine ⟨_, hS.call (cw), ?_⟩
  cbv
  refine nd (u1) ?_
  rw [u0]
  refine ⟨_, hS.call (ct), ?_⟩
  cbv
  exact hF _ (ResLe.refl _)
end Go.Proofs.YtdhidmcjglokcaaGreat
end

section
set_option linter.unusedVariables false
set_option linter.unusedSimpArgs false
set_option maxHeartbeats 8000000
set_option linter.unusedVariables false
set_option linter.unusedSimpArgs false
set_option maxRecDepth 100000
namespace Go.Proofs.YtdhidmcjglokcaaGreat
open Go Go.Abs Go.Abs.M Go.Proofs

/-- What Bezout's factors satisfy. -/
structure IsBz (A B G U V : List Rat) : Prop where
  g : IsG A B G
  tu : ptrim U = U
  tv : ptrim V = V
  eq : ∀ x, Abs.ev U x * Abs.ev A x + Abs.ev V x * Abs.ev B x = Abs.ev G x
  zero : G = [] → U = [] ∧ V = []
  one : G ≠ [] → B = [] → U.length = 1 ∧ V = []
  len : B ≠ [] → U.length ≤ B.length - G.length

theorem ptrim_one : ptrim [((1 : Int) : Rat)] = [1] := by rfl
theorem ptrim_zero : ptrim [((0 : Int) : Rat)] = [] := by rfl

theorem pb_bezout {f g : Rat → Rat} {n m s : Nat} {A0 B0 : List Rat} (W V : Nat) (hA : PB f n s A0) (hB : PB g m s B0) (hW : (s + 1) * (n + 2) * 3 ^ m ≤ W) (hV : (1 + 4 * W + 4) * 2 ^ m ≤ V) (hl : n + 2 * m ≤ 190) (hbig : V + 2 * W + 201 * (s + m * (W + 1) + 2) + 600 * (s + 1) + 1000 ≤ 1500000000) (hV2 : V ≤ 400000000) :
    ∃ G U K, IsBz A0 B0 G U K ∧ CF W (fun j => G.getD j 0) ∧ G.length ≤ 200 ∧ U.length ≤ 200 ∧ K.length ≤ 499 ∧ CF (V + 2 * W + 201 * (s + m * (W + 1) + 2) + 600 * (s + 1) + 1000) (fun j => U.getD j 0) ∧ CF (V + 2 * W + 201 * (s + m * (W + 1) + 2) + 600 * (s + 1) + 1000) (fun j => K.getD j 0) ∧
      ACall Tryz.prog 26 [.val (tl (ur A0)), .val (tl (ur B0))] ⟨[.val (tl (ur G)), .val (tl (ur U)), .val (tl (ur K))], [none, none]⟩ := by
  generalize hBD : V + 2 * W + 201 * (s + m * (W + 1) + 2) + 600 * (s + 1) + 1000 = BD at *
  have hWV : W ≤ V := by
    have := Nat.mul_le_mul_left (1 + 4 * W + 4) (Nat.one_le_two_pow (n := m))
    omega
  have hz : ∀ v, CF v (fun j => ([] : List Rat).getD j 0) := fun v => (CF.zero v).congr fun j => by simp
  have h1c : CF 1 (fun j => ([1] : List Rat).getD j 0) := ((CF.whole (n := 1) (s := 1) (by decide) (by decide)).pick fun j => decide (j = 0)).congr fun j => by
    cases j with
    | zero => simp
    | succ j => simp
  have hI : EuI W V A0 B0 [1] [] := eu_start hA.tr hB.tr hA.cf hB.cf hA.len hB.len hW hl rfl rfl h1c (hz 1) (Nat.le_refl _) (Nat.zero_le _) hV
  obtain ⟨R, X, K0, hE, tR, tX, tK, cR, cX, cK, lR, lX⟩ := eu_run (by omega) (by omega) _ A0 B0 [1] [] (Nat.le_refl _) hI
  have ce := ueuclid_bez (by omega) (by omega) hI hE
  have cu := uconst_call 1 (by omega) (by omega)
  have cn := uconst_call 0 (by omega) (by omega)
  rw [ptrim_one] at cu
  rw [ptrim_zero] at cn
  have hBl := hB.len
  have hAl := hA.len
  obtain ⟨v, hv⟩ := hE.bez (a := Abs.ev A0) (b := Abs.ev B0) ⟨[], fun x => by simp only [Abs.ev]; grind⟩ ⟨[1], fun x => by simp only [Abs.ev]; grind⟩
  obtain ⟨Y1, hY1⟩ : ∃ Y, Y = ur [1] := ⟨_, rfl⟩
  obtain ⟨Y0, hY0⟩ : ∃ Y : Abs.Rows, Y = ur [] := ⟨_, rfl⟩
  rw [← hY1] at ce cu
  rw [← hY0] at ce cn
  have lRr := ur_len R
  have lBr := ur_len B0
  rcases Classical.em (R = []) with h0 | h0
  · subst h0
    refine ⟨[], [], [], ⟨isg_of hE rfl rfl (fun _ => rfl) (fun h => absurd rfl h), rfl, rfl, fun x => by simp only [Abs.ev]; grind, fun _ => ⟨rfl, rfl⟩, fun h => absurd rfl h, fun _ => Nat.zero_le _⟩, hz W, Nat.zero_le _, Nat.zero_le _, Nat.zero_le _, hz _, hz _, ?_⟩
    generalize ur A0 = XA at *
    generalize ur B0 = XB at *
    generalize ur X = XX at *
    generalize ur K0 = XK at *
    rw [show ur ([] : List Rat) = [] from rfl] at ce ⊢
    refine callZ ccOk mixed [.val, .val, .val] Tryz.func26 rfl rfl (by kernel_rfl) fun zwrap zadd zsub zmul zquo zrem zshl zshr zband zbor zbxor zbandn zeq zne zlt zle znot zbeq zbne zmax zmin znat zinb zofN zidx zneq znadd zdif zcut zroom zmkok zlen znth zsetr zisI zgetI zsetI zfit zpart zext zsetg zrep zwide zall zmok zmget zmset zW zth A L F hS hF => ?_
    have l1 : zeq (zofN (zlen [])) 0 = true := by rw [hS.eq, hS.ofN, hS.len]; rfl
    cbv
    refine ⟨_, hS.call (cu), ?_⟩
    cbv
    refine ⟨_, hS.call (cn), ?_⟩
    cbv
    refine ⟨_, hS.call (ce), ?_⟩
    cbv
    refine bT (l1) ?_
    exact fin3w hF (TLe.drop _ _) (TLe.drop _ _) (TLe.drop _ _)
  · have hL := tr_last tR h0
    have hRlen : R.length ≠ 0 := fun h1 => h0 (List.length_eq_zero_iff.1 h1)
    obtain ⟨L, hLe⟩ : ∃ L, L = R.getD (R.length - 1) 0 := ⟨_, rfl⟩
    have hcl : CF W (fun _ => L) := by rw [hLe]; exact cR.comp fun _ => R.length - 1
    have hPB : PB (Abs.ev R) 200 W R := ⟨tR, fun x => rfl, lR, cR⟩
    obtain ⟨G, hG, cm⟩ := pl_monic hPB.pl h0 (by omega) (by omega)
    have cG : CF W (fun j => G.getD j 0) := (cR.div (R.length - 1) hL).congr fun j => by
      rw [ev_coef (P := G) (Q := lsc (R.getD (R.length - 1) 0)⁻¹ R) (fun x => by rw [hG.ev, ev_lsc]) j, lsc_get]
    have isg : IsG A0 B0 G := isg_of hE hG.tr tR (fun h => absurd h h0) fun _ => hG.ev
    rw [← hLe] at hL hG
    have hi := Rat.inv_mul_cancel L hL
    have hi0 : L⁻¹ ≠ 0 := fun h1 => by rw [h1, Rat.zero_mul] at hi; exact absurd hi (by decide)
    have hG0 : G ≠ [] := fun h1 => h0 (tr_nil tR fun x => by
      have := hG.ev x
      rw [h1] at this
      simp only [Abs.ev] at this
      rcases Rat.mul_eq_zero.1 this.symm with h2 | h2
      · exact absurd h2 hi0
      · exact h2)
    have hGe : G = lsc L⁻¹ R := tr_inj hG.tr (lsc_trim hi0 tR) fun x => by rw [hG.ev, ev_lsc]
    have hGl : G.length = R.length := by rw [hGe, lsc_len]
    have hPi : R[R.length - 1]? = some L := by rw [hLe, List.getD_eq_getElem?_getD, List.getElem?_eq_getElem (by omega)]; rfl
    obtain ⟨hq, ci⟩ := pinv_row hL (cf_qs hcl 0) (by omega)
    obtain ⟨U1, hU1, cU1⟩ := pb_scale (hcl.inv hL) (⟨tX, fun x => rfl, lX, cX⟩ : PB (Abs.ev X) 200 V X) (by omega) (by omega)
    have hXr := ur_get hPi
    obtain ⟨s1, t1, r1, p1, hrow, _⟩ := qrow L
    obtain ⟨s2, t2, r2, p2, hrow2, _⟩ := qrow L⁻¹
    rw [hrow, hrow2] at ci
    rw [hrow2] at cU1
    rw [hrow] at hXr
    have hGe2 : ∀ x, Abs.ev G x = Abs.ev U1 x * Abs.ev A0 x + L⁻¹ * Abs.ev v x * Abs.ev B0 x := fun x => by rw [hG.ev, hU1.ev, hv]; grind
    by_cases hB0 : B0 = []
    · have hX1 : X = [1] := by
        rcases hE.inv with ⟨_, _, h2, _⟩ | ⟨h, _⟩
        · exact h2
        · exact absurd hB0 h
      have hU1e : U1 = [L⁻¹] := tr_inj hU1.tr (by
        refine tlen_top (by simp) ?_
        simpa using hi0) fun x => by rw [hU1.ev, hX1]; simp only [Abs.ev]; grind
      refine ⟨G, U1, [], ⟨isg, hU1.tr, rfl, fun x => ?_, fun h => absurd h hG0, fun _ _ => ⟨by rw [hU1e]; rfl, rfl⟩, fun h => absurd hB0 h⟩, cG, hG.len, hU1.len, Nat.zero_le _, hU1.cf.mono (by omega), hz _, ?_⟩
      · rw [hGe2, hB0]; simp only [Abs.ev]; grind
      · have hBr : (ur B0).length = 0 := by rw [ur_len, hB0]; rfl
        generalize R.length = rl at *
        generalize ur A0 = XA at *
        generalize ur B0 = XB at *
        generalize ur X = XX at *
        generalize ur K0 = XK at *
        generalize ur R = XR at *
        generalize ur G = XG at *
        generalize ur U1 = XU at *
        rw [show ur ([] : List Rat) = [] from rfl]
        refine callZ ccOk mixed [.val, .val, .val] Tryz.func26 rfl rfl (by kernel_rfl) fun zwrap zadd zsub zmul zquo zrem zshl zshr zband zbor zbxor zbandn zeq zne zlt zle znot zbeq zbne zmax zmin znat zinb zofN zidx zneq znadd zdif zcut zroom zmkok zlen znth zsetr zisI zgetI zsetI zfit zpart zext zsetg zrep zwide zall zmok zmget zmset zW zth A L F hS hF => ?_
        have l1 : zeq (zofN (zlen XR)) 0 = false := by rw [hS.eq, hS.ofN, hS.len, lRr]; exact decide_eq_false (by omega)
        obtain ⟨J, hJ, j1⟩ : ∃ J : Int, J = ((rl - 1 : Nat) : Int) ∧ zwrap .i64 (zsub (zofN (zlen XR)) 1) = J := ⟨(rl : Int) - 1, by omega, by rw [hS.ofN, hS.len, lRr, hS.sub, hS.wrap, wrap_i64 (by omega) (by omega)]⟩
        have g1 : zle 0 J = true := by rw [hS.le]; exact decide_eq_true (by omega)
        have hzz : znth XR (znat J) = some [.v (.bool s1), .lst false r1, .v (.bool t1), .lst false p1] := by rw [hS.nat, hJ, Int.toNat_natCast, hS.nth, hXr]
        have l2 : zeq (zofN (zlen XB)) 0 = true := by rw [hS.eq, hS.ofN, hS.len, hBr]; rfl
        cbv
        refine ⟨_, hS.call (cu), ?_⟩
        cbv
        refine ⟨_, hS.call (cn), ?_⟩
        cbv
        refine ⟨_, hS.call (ce), ?_⟩
        cbv
        refine bF (l1) ?_
        refine ⟨_, hS.call (cm), ?_⟩
        cbv
        rw [j1, hzz]
        cbv
        refine nd (g1) ?_
        refine ⟨_, hS.call (ci), ?_⟩
        cbv
        refine ⟨_, hS.call (cU1), ?_⟩
        cbv
        refine bT (l2) ?_
        exact fin3w hF (TVLe.refl _) (TVLe.refl _) (TLe.drop _ _)
    · have hGPB : PB (Abs.ev G) 200 W G := ⟨hG.tr, fun x => rfl, hG.len, cG⟩
      have hG1 : G.length ≠ 0 := fun h1 => hG0 (List.length_eq_zero_iff.1 h1)
      obtain ⟨Pd, R1, hPd, hR1, hlt1, he1, cd1⟩ := pb_divmod m hB hGPB hG0 (by omega) (by omega) (by omega) (by omega)
      have hR10 : R1 = [] := Dv.rest hPd.tr hR1.tr hG.tr hlt1 (fun x => by rw [hB.ev, he1]) isg.db
      have he1' : ∀ x, Abs.ev B0 x = Abs.ev Pd x * Abs.ev G x := fun x => by rw [hB.ev, he1, hR10]; simp only [Abs.ev]; grind
      have hPd0 : Pd ≠ [] := fun h1 => hB0 (tr_nil hB.tr fun x => by rw [he1', h1]; simp only [Abs.ev]; grind)
      have hPdl := tr_len hPd.tr hG.tr hB.tr he1' hPd0 hG0
      have hPd1 : Pd.length ≠ 0 := fun h1 => hPd0 (List.length_eq_zero_iff.1 h1)
      have hU1l := hU1.len
      obtain ⟨Q2, U2, hQ2, hU2, hlt2, he2, cd2⟩ := pb_divmod 200 hU1 hPd hPd0 (by omega) (by omega) (by omega) (by omega)
      have hU2l := hU2.len
      obtain ⟨M, hM, cM⟩ := pb_mul 8 hU2 hA (by omega) (by omega) (by omega)
      obtain ⟨D, hD, cD⟩ := pb_sub hGPB hM (by omega) (by omega) (by omega)
      have hDl := hD.len
      have hB1 : B0.length ≠ 0 := fun h1 => hB0 (List.length_eq_zero_iff.1 h1)
      obtain ⟨K, R3, hK, hR3, hlt3, he3, cd3⟩ := pb_divmod 400 hD hB hB0 (by omega) (by omega) (by omega) (by omega)
      have hdv : Dv B0 D := by
        obtain ⟨H, hH⟩ := isg.da
        refine ⟨ladd (lsc L⁻¹ v) (lmul Q2 H), fun x => ?_⟩
        rw [hD.ev, ev_ladd, ev_lsc, ev_lmul]
        have a1 := hGe2 x
        have a2 := he2 x
        have a3 := hH x
        have a4 := he1' x
        have a5 := hA.ev x
        have a6 := hU1.ev x
        grind
      have hR30 : R3 = [] := Dv.rest hK.tr hR3.tr hB.tr hlt3 (fun x => by rw [hD.ev, he3, hB.ev]) hdv
      refine ⟨G, U2, K, ⟨isg, hU2.tr, hK.tr, fun x => ?_, fun h => absurd h hG0, fun _ h => absurd h hB0, fun _ => by omega⟩, cG, hG.len, by omega, by have := hK.len; omega, hU2.cf.mono (by omega), hK.cf.mono (by omega), ?_⟩
      · have a1 := he3 x
        rw [hR30] at a1
        simp only [Abs.ev] at a1
        rw [hA.ev, hB.ev]
        grind
      · clear hG hU1 hGPB hPd hR1 hQ2 hU2 hM hD hK hR3 hv he1 he1' he2 he3 hGe2 hGe hdv hI hE isg
        have hBr : (ur B0).length ≠ 0 := by rw [ur_len]; exact hB1
        generalize R.length = rl at *
        generalize ur A0 = XA at *
        generalize ur B0 = XB at *
        generalize ur X = XX at *
        generalize ur K0 = XK0 at *
        generalize ur R = XR at *
        generalize ur G = XG at *
        generalize ur U1 = XU at *
        generalize ur Pd = XPd at *
        generalize ur R1 = XR1 at *
        generalize ur Q2 = XQ2 at *
        generalize ur U2 = XU2 at *
        generalize ur M = XM at *
        generalize ur D = XD at *
        generalize ur K = XK at *
        generalize ur R3 = XR3 at *
        refine callZ ccOk mixed [.val, .val, .val] Tryz.func26 rfl rfl (by kernel_rfl) fun zwrap zadd zsub zmul zquo zrem zshl zshr zband zbor zbxor zbandn zeq zne zlt zle znot zbeq zbne zmax zmin znat zinb zofN zidx zneq znadd zdif zcut zroom zmkok zlen znth zsetr zisI zgetI zsetI zfit zpart zext zsetg zrep zwide zall zmok zmget zmset zW zth A L F hS hF => ?_
        have l1 : zeq (zofN (zlen XR)) 0 = false := by rw [hS.eq, hS.ofN, hS.len, lRr]; exact decide_eq_false (by omega)
        obtain ⟨J, hJ, j1⟩ : ∃ J : Int, J = ((rl - 1 : Nat) : Int) ∧ zwrap .i64 (zsub (zofN (zlen XR)) 1) = J := ⟨(rl : Int) - 1, by omega, by rw [hS.ofN, hS.len, lRr, hS.sub, hS.wrap, wrap_i64 (by omega) (by omega)]⟩
        have g1 : zle 0 J = true := by rw [hS.le]; exact decide_eq_true (by omega)
        have hzz : znth XR (znat J) = some [.v (.bool s1), .lst false r1, .v (.bool t1), .lst false p1] := by rw [hS.nat, hJ, Int.toNat_natCast, hS.nth, hXr]
        have l2 : zeq (zofN (zlen XB)) 0 = false := by rw [hS.eq, hS.ofN, hS.len]; exact decide_eq_false (by omega)
        cbv
        refine ⟨_, hS.call (cu), ?_⟩
        cbv
        refine ⟨_, hS.call (cn), ?_⟩
        cbv
        refine ⟨_, hS.call (ce), ?_⟩
        cbv
        refine bF (l1) ?_
        refine ⟨_, hS.call (cm), ?_⟩
        cbv
        rw [j1, hzz]
        cbv
        refine nd (g1) ?_
        refine ⟨_, hS.call (ci), ?_⟩
        cbv
        refine ⟨_, hS.call (cU1), ?_⟩
        cbv
        refine bF (l2) ?_
        refine ⟨_, hS.call (cd1), ?_⟩
        cbv
        refine ⟨_, hS.call (cd2), ?_⟩
        cbv
        refine ⟨_, hS.call (cM), ?_⟩
        cbv
        refine ⟨_, hS.call (cD), ?_⟩
        cbv
        refine ⟨_, hS.call (cd3), ?_⟩
        cbv
        exact hF _ (ResLe.refl _)
end Go.Proofs.YtdhidmcjglokcaaGreat
end

section
set_option linter.unusedVariables false
set_option linter.unusedSimpArgs false
set_option maxHeartbeats 8000000
set_option linter.unusedVariables false
set_option linter.unusedSimpArgs false
set_option maxRecDepth 100000
namespace Go.Proofs.YtdhidmcjglokcaaGreat
open Go Go.Abs Go.Abs.M Go.Proofs

def RW.pl (x : RW) : RW := ⟨x.n, x.d, 0⟩
theorem RW.pl_ok {x : RW} (h : x.ok) : x.pl.ok := ⟨h.n1, h.n2, h.d1, h.d2, by show (0 : Int) ≤ 0; omega, by show (0 : Int) < 256; omega⟩

theorem rwrows_app (xs : List RW) (x : RW) : rwrows (xs ++ [x]) = rwrows xs ++ [x.row] := by simp [rwrows]
theorem rwrows_len (xs : List RW) : (rwrows xs).length = xs.length := by simp [rwrows]

def rplSt (R : Abs.Rows) (D : Int) (len : Nat) (r : Abs.Rows) (i : Int) : St := mkSt 31 [.c (.t (.lst false R)), vi .i64 D, .junk, .junk, .junk, .c (.sl 2 0 len false), vi .i64 i] [none, none, some (.rows 3 r true false)]

theorem rplain_call (xs : List RW) (hx : ∀ x ∈ xs, x.ok) (D : Int) (hD : 0 ≤ D) (hD2 : D ≤ 100) (hlx : xs.length * 3 ≤ 140737488355328) :
    ACall Tryz.prog 24 [.val (tl (rwrows xs)), .val (ti .i64 D)] ⟨[.val (tl (ur (ptrim (((xs.map RW.pl).take (D.toNat + 1)).map RW.q))))], [none, none]⟩ := by
  have cmd := umade_call (xs.map RW.pl) (fun x hx' => by obtain ⟨y, hy, rfl⟩ := List.mem_map.1 hx'; exact RW.pl_ok (hx y hy)) D hD hD2 (by rw [List.length_map]; omega)
  obtain ⟨R, hR⟩ : ∃ R, R = rwrows xs := ⟨_, rfl⟩
  obtain ⟨n, hn⟩ : ∃ n, n = xs.length := ⟨_, rfl⟩
  obtain ⟨ys, hys⟩ : ∃ ys, ys = xs.map RW.pl := ⟨_, rfl⟩
  rw [← hys] at cmd ⊢
  have hRl : R.length = n := by rw [hR, hn]; simp [rwrows]
  have hget : ∀ i, i < n → ∃ x : RW, ys[i]? = some x.pl ∧ R[i]? = some x.row := fun i hi => by
    have h : xs[i]? = some xs[i] := List.getElem?_eq_getElem (by omega)
    have h2 : (rwrows xs)[i]? = some (xs[i]).row := by simp [rwrows, h]
    rw [← hR] at h2
    exact ⟨_, by rw [hys, List.getElem?_map, h]; rfl, h2⟩
  have hyl : ys.length = n := by rw [hys, List.length_map, hn]
  rw [← hR]
  generalize hT : ur (ptrim ((ys.take (D.toNat + 1)).map RW.q)) = T at *
  rw [← hn] at hlx
  clear hR hx hys
  refine callZ ccOk mixed [.val] Tryz.func24 rfl rfl (by kernel_rfl) fun zwrap zadd zsub zmul zquo zrem zshl zshr zband zbor zbxor zbandn zeq zne zlt zle znot zbeq zbne zmax zmin znat zinb zofN zidx zneq znadd zdif zcut zroom zmkok zlen znth zsetr zisI zgetI zsetI zfit zpart zext zsetg zrep zwide zall zmok zmget zmset zW zth A L F hS hF => ?_
  have hlx2 : zlen R = n := by rw [hS.len, hRl]
  obtain ⟨N, hN, hN2⟩ : ∃ N : Int, N = n ∧ zofN (zlen R) = N := ⟨_, rfl, by rw [hlx2, hS.ofN]⟩
  cbv
  have hN : N = (n : Int) := hN
  refine loopZR ccOk mixed hS (fun (m : Nat) s' => ∃ (i : Nat) (I : Int) (r : Abs.Rows), I = i ∧ i + m = n ∧ r = rwrows (ys.take i) ∧ s' = rplSt R D i r I) (n := n) (s0 := rplSt R D 0 [] 0) (le_of ?_ ?_) rfl (by show 2 ≤ 3; omega) ?_ ?_
  · simp [leT, rplSt, mkSt, vi, vb]
  · simp [leH, rplSt, mkSt]
  · exact ⟨0, 0, [], rfl, by omega, rfl, rfl⟩
  · rintro m s1 ⟨i, I, r, hI, him, hr, hs1⟩
    have hrl : r.length = i := by rw [hr, rwrows_len, List.length_take]; omega
    by_cases hi : i < n
    · have l1 : zlt I (zofN (zlen R)) = true := by rw [hN2, hS.lt]; exact decide_eq_true (by omega)
      obtain ⟨x, hxi, hnth⟩ := hget i hi
      have g1 : zle 0 I = true := by rw [hS.le]; exact decide_eq_true (by omega)
      have hz : znth R (znat I) = some [.v (.int .i8 x.n), .v (.int .i8 x.d), .v (.int .u8 x.k)] := by rw [hS.nat, hI, Int.toNat_natCast, hS.nth, hnth]; rfl
      obtain ⟨row, hrw⟩ : ∃ row, row = [Tree.v (.int .i8 x.n), .v (.int .i8 x.d), .v (.int .u8 0)] := ⟨_, rfl⟩
      have hr4 : row.length = 3 := by rw [hrw]; rfl
      have u0 : zpart [row] 0 1 = [row] := by rw [hS.part]; rfl
      have u1 : zfit 0 1 [row] = true := by rw [hS.fit]; rfl
      have u2 : znot (zneq (zlen [row]) 0) = true := by rw [hS.len, hS.neq, hS.not]; rfl
      have u3 : zwide 3 [row] = true := by rw [hS.wide]; simp [hr4]
      have u4 : zroom i (zlen [row]) 3 = true := by rw [hS.len, hS.room]; exact decide_eq_true (by unfold capBytes; simp only [List.length_cons, List.length_nil]; omega)
      have u5 : zneq (znadd 0 i) (zlen r) = true := by rw [hS.nadd, hS.neq, hS.len, hrl, Nat.zero_add]; exact decide_eq_true rfl
      have u6 : znadd i (zlen [row]) = i + 1 := by rw [hS.len, hS.nadd]; rfl
      obtain ⟨r2, hr2⟩ : ∃ r2, r2 = rwrows (ys.take (i + 1)) := ⟨_, rfl⟩
      have u7 : zext r 0 [row] = r2 := by
        rw [hS.ext, List.drop_zero, hr, hr2, List.take_add_one, hxi, Option.toList_some, rwrows_app, hrw]; rfl
      obtain ⟨I', hI', i1⟩ : ∃ I' : Int, I' = ((i + 1 : Nat) : Int) ∧ zwrap .i64 (zadd I 1) = I' := ⟨I + 1, by omega, by rw [hS.add, hS.wrap, wrap_i64 (by omega) (by omega)]⟩
      have hmm : m - 1 < m := by omega
      have hnx : ∃ (i2 : Nat) (I2 : Int) (r' : Abs.Rows), I2 = i2 ∧ i2 + (m - 1) = n ∧ r' = rwrows (ys.take i2) ∧ rplSt R D (i + 1) r2 I' = rplSt R D i2 r' I2 := ⟨i + 1, I', r2, hI', by omega, hr2, rfl⟩
      clear hget hr hr2 hrl
      subst hs1
      cbv
      refine bT l1 ?_
      rw [hz]
      cbv
      refine nd (g1) ?_
      rw [hz]
      cbv
      refine nd (g1) ?_
      rw [← hrw, u0]
      refine nd (u1) ?_
      refine nd (u2) ?_
      refine nd (u3) ?_
      refine nd (u4) ?_
      refine nd (u5) ?_
      refine againR [(2, 4)] (s' := rplSt R D (i + 1) r2 I') (k := m - 1) ?_ ?_ ?_ ?_ rfl (by show 2 ≤ 3; omega) hmm hnx
      · simp [leTR, rplSt, mkSt, vi, AV.ren, AV.noTup, Cell.ren, renF, i1, u6]
      · simp [leHR, rplSt, mkSt, Abs.look, renF, Blk.ren, u7]
      · simp [liveR, rplSt, mkSt]
      · simp
    · have l1 : zlt I (zofN (zlen R)) = false := by rw [hN2, hS.lt]; exact decide_eq_false (by omega)
      have hrT : r = rwrows ys := by rw [hr, show i = ys.length by omega, List.take_length]
      rw [← hrT] at cmd
      have f1 : zfit 0 i r = true := by rw [hS.fit]; exact decide_eq_true (by omega)
      have f2 : zpart r 0 i = r := by rw [hS.part, List.drop_zero, List.take_of_length_le (by omega)]
      clear hget hr
      subst hs1
      cbv
      refine bF l1 (nd f1 ?_)
      rw [f2]
      refine ⟨_, hS.call (cmd), ?_⟩
      cbv
      exact hF _ (ResLe.refl _)
end Go.Proofs.YtdhidmcjglokcaaGreat
end

