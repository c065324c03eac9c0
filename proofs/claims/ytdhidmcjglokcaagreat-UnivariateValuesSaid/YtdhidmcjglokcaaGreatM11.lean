/-
  A part of the proof: UplA07, EvlA07, EvD, EvlB07, CfU, DvM07, EvlC07, PolT07, DmT07, EvlD07, EvlE07.
-/
import Derived.Test.YtdhidmcjglokcaaGreatM10
import Derived.Calls
import Derived.Laws.Cells
import Derived.Below
import Derived.Laws.Small
import Derived.Laws.IdiomCopy
import Derived.Laws.BytesString
import Derived.Laws.Append
import Derived.Laws.Tables
import Derived.Great.BuildSlice
import Derived.IntWalk
import Derived.Orders
import Derived.Laws.BitsLemmas
import Derived.Test.YtdhidmcjglokcaaGreatProg

section
set_option linter.unusedVariables false
set_option linter.unusedSimpArgs false
set_option maxHeartbeats 8000000
set_option linter.unusedVariables false
set_option linter.unusedSimpArgs false
set_option maxRecDepth 100000
namespace Go.Proofs.YtdhidmcjglokcaaGreat
open Go Go.Abs Go.Abs.M Go.Proofs

/-- P is the list of the polynomial f: trimmed, at most n coefficients, of at most k words. -/
structure PL (f : Rat → Rat) (n k : Nat) (P : List Rat) : Prop where
  tr : ptrim P = P
  ev : ∀ x, ev P x = f x
  len : P.length ≤ n
  sz : ∀ q ∈ P, Qs q k

theorem ev_shift (P : List Rat) (c : Rat) (B : List Rat) (k : Nat) (x : Rat) : Abs.ev (pshift P c B k) x = Abs.ev P x + c * x ^ k * Abs.ev B x := by
  unfold pshift
  rw [ev_pacc _ _ _ _ _ (by simp; omega), ev_app, ev_zeros]
  grind

theorem ev_pmulL (P B R : List Rat) (x : Rat) (h : P.length + B.length ≤ R.length + 1) : ∀ i, i ≤ P.length → Abs.ev (pmulL P B R i) x = Abs.ev R x + Abs.ev (P.take i) x * Abs.ev B x
  | 0, _ => by simp [pmulL, Abs.ev, Rat.zero_mul, Rat.add_zero]
  | i + 1, hi => by
    unfold pmulL
    rw [ev_pacc _ _ _ _ _ (by rw [pmulL_len]; omega), ev_pmulL P B R x h i (by omega), ev_take_succ P i x (by omega)]
    grind

theorem ev_pmul (P B : List Rat) (x : Rat) : Abs.ev (pmul P B) x = Abs.ev P x * Abs.ev B x := by
  unfold pmul
  rw [ev_pmulL P B _ x (by simp; omega) _ (Nat.le_refl _), ev_zeros, List.take_length, Rat.zero_add]

/-- Two lists of the same polynomial have the same coefficients. -/
theorem ev_inj {P Q : List Rat} (h : ∀ x, Abs.ev P x = Abs.ev Q x) (j : Nat) : P.getD j 0 = Q.getD j 0 := by
  have h0 := ev_zero (P := pshift P (-1) Q 0) (fun x => by rw [ev_shift, h x]; grind) j
  rw [pshift_get, if_pos (Nat.zero_le _), Nat.sub_zero] at h0
  grind

theorem PL.inj {f g : Rat → Rat} {n k m l : Nat} {P Q : List Rat} (h1 : PL f n k P) (h2 : PL g m l Q) (h : ∀ x, f x = g x) : P = Q := by
  rw [← h1.tr, ← h2.tr]
  exact ptrim_ext (ev_inj fun x => by rw [h1.ev, h2.ev, h])

theorem PL.mono {f : Rat → Rat} {n k m l : Nat} {P : List Rat} (h : PL f n k P) (h1 : n ≤ m) (h2 : k ≤ l) : PL f m l P :=
  ⟨h.tr, h.ev, Nat.le_trans h.len h1, fun q hq => (h.sz q hq).mono h2⟩

theorem PL.congr {f g : Rat → Rat} {n k : Nat} {P : List Rat} (h : PL f n k P) (e : ∀ x, f x = g x) : PL g n k P :=
  ⟨h.tr, fun x => by rw [h.ev, e], h.len, h.sz⟩

theorem PL.of_trim {f : Rat → Rat} {n k : Nat} {P : List Rat} (h1 : ∀ x, Abs.ev P x = f x) (h2 : P.length ≤ n) (h3 : ∀ q ∈ P, Qs q k) : PL f n k (ptrim P) :=
  ⟨ptrim_idem P, fun x => by rw [ev_trim, h1], Nat.le_trans (ptrim_len P) h2, fun q hq => h3 q (ptrim_mem hq)⟩

theorem PL.nil : PL (fun _ => 0) 0 0 [] := ⟨rfl, fun _ => rfl, Nat.le_refl _, fun q hq => by cases hq⟩

theorem Qs.zero {k : Nat} : 1 ≤ k → Qs 0 k := fun h => Qs.whole (n := 0) (by decide) h

/-- Sizes of a sum. -/
theorem pshift_all {P B : List Rat} {c : Rat} {k a b d : Nat} (h1 : ∀ q ∈ P, Qs q a) (h2 : Qs c b) (h3 : ∀ q ∈ B, Qs q d) (ha : 1 ≤ a) : ∀ q ∈ pshift P c B k, Qs q (a + (b + d) + 1) := by
  unfold pshift
  refine accL_all (fun q hq => ?_) h2 h3 (by simp; omega)
  rcases List.mem_append.1 hq with h | h
  · exact h1 q h
  · rw [(List.mem_replicate.1 h).2]; exact Qs.zero ha

theorem pl_add {f g : Rat → Rat} {n m a b : Nat} {P B : List Rat} (hP : PL f n a P) (hB : PL g m b B) (ha : 1 ≤ a) (hn : n ≤ 1000) (hm : m ≤ 1000) (hs : a + b ≤ 68719476700) :
    ∃ R, PL (fun x => f x + g x) (max n m) (a + b + 2) R ∧ ACall Tryz.prog 16 [.val (tl (ur P)), .val (tl (ur B))] ⟨[.val (tl (ur R))], [none, none]⟩ := by
  refine ⟨_, PL.of_trim (fun x => ?_) ?_ (fun q hq => ?_), uadd_call P B a 1 b (Nat.le_trans hB.len hm) (Nat.le_trans hP.len hn) hP.sz hB.sz (by omega) ha (by omega)⟩
  · rw [ev_shift, hP.ev, hB.ev]; grind
  · rw [pshift_len]; have := hP.len; have := hB.len; omega
  · exact (pshift_all hP.sz (Qs.whole (n := 1) (by decide) (Nat.le_refl 1)) hB.sz ha q hq).mono (by omega)

theorem pl_sub {f g : Rat → Rat} {n m a b : Nat} {P B : List Rat} (hP : PL f n a P) (hB : PL g m b B) (ha : 1 ≤ a) (hn : n ≤ 1000) (hm : m ≤ 1000) (hs : a + b ≤ 68719476700) :
    ∃ R, PL (fun x => f x - g x) (max n m) (a + b + 2) R ∧ ACall Tryz.prog 18 [.val (tl (ur P)), .val (tl (ur B))] ⟨[.val (tl (ur R))], [none, none]⟩ := by
  refine ⟨_, PL.of_trim (fun x => ?_) ?_ (fun q hq => ?_), usub_call P B a 1 b (Nat.le_trans hB.len hm) (Nat.le_trans hP.len hn) hP.sz hB.sz (by omega) ha (by omega)⟩
  · rw [ev_shift, hP.ev, hB.ev]; grind
  · rw [pshift_len]; have := hP.len; have := hB.len; omega
  · exact (pshift_all hP.sz (Qs.whole (n := -1) (by decide) (Nat.le_refl 1)) hB.sz ha q hq).mono (by omega)

/-- univariate.Mul for all lists. -/
theorem umul_all (P B : List Rat) (b d : Nat) (hl : P.length + B.length ≤ 1000) (h2 : ∀ q ∈ P, Qs q b) (h3 : ∀ q ∈ B, Qs q d) (hbd : b + d ≤ 67108864) :
    ACall Tryz.prog 17 [.val (tl (ur P)), .val (tl (ur B))] ⟨[.val (tl (ur (ptrim (pmul P B))))], [none, none]⟩ := by
  have hw : ∀ {args : List Arg}, ACall Tryz.prog 17 args ⟨[.val (.c (.lst true []))], [none, none]⟩ → ACall Tryz.prog 17 args ⟨[.val (tl [])], [none, none]⟩ :=
    fun h => ACall.weak (ArgsLe.refl _) (show ResLe ⟨[.val (.c (.lst true []))], [none, none]⟩ ⟨[.val (tl [])], [none, none]⟩ from ⟨⟨TLe.drop _ _, trivial⟩, rfl⟩) h
  have hz : (∀ x, Abs.ev P x * Abs.ev B x = 0) → ptrim (pmul P B) = [] := fun h => ptrim_ext (P := pmul P B) (Q := []) (ev_inj fun x => by rw [ev_pmul, h]; rfl)
  by_cases hP : P = []
  · subst hP
    rw [hz fun x => by simp [Abs.ev, Rat.zero_mul]]
    exact hw (umul_nil1 B (by simpa using hl))
  by_cases hB : B = []
  · subst hB
    rw [hz fun x => by simp [Abs.ev, Rat.mul_zero]]
    exact hw (umul_nil2 P hP (by simpa using hl))
  exact umul_call P B b d hP hB hl h2 h3 hbd

theorem pmul_all {P B : List Rat} {b d : Nat} (h2 : ∀ q ∈ P, Qs q b) (h3 : ∀ q ∈ B, Qs q d) : ∀ q ∈ pmul P B, Qs q (1 + P.length * (b + d + 1)) := by
  unfold pmul
  refine pmulL_all (fun q hq => ?_) h2 h3 (by simp; omega) _ (Nat.le_refl _)
  rw [(List.mem_replicate.1 hq).2]; exact Qs.zero (Nat.le_refl 1)

theorem pl_mul {f g : Rat → Rat} {n m a b : Nat} {P B : List Rat} (hP : PL f n a P) (hB : PL g m b B) (hn : n + m ≤ 1000) (hs : a + b ≤ 67108864) :
    ∃ R, PL (fun x => f x * g x) (n + m - 1) (1 + n * (a + b + 1)) R ∧ ACall Tryz.prog 17 [.val (tl (ur P)), .val (tl (ur B))] ⟨[.val (tl (ur R))], [none, none]⟩ := by
  have h1 := hP.len
  have h2 := hB.len
  refine ⟨_, PL.of_trim (fun x => ?_) ?_ (fun q hq => ?_), umul_all P B a b (by omega) hP.sz hB.sz hs⟩
  · rw [ev_pmul, hP.ev, hB.ev]
  · unfold pmul
    rw [pmulL_len, List.length_replicate]; omega
  · exact (pmul_all hP.sz hB.sz q hq).mono (Nat.add_le_add_left (Nat.mul_le_mul_right _ h1) 1)

theorem pl_same {f g : Rat → Rat} {n m a b : Nat} {P B : List Rat} (hP : PL f n a P) (hB : PL g m b B) (h : ∀ x, f x = g x) (hn : n ≤ 1000) (hm : m ≤ 1000) (hs : a ≤ 68719476736) :
    ACall Tryz.prog 19 [.val (tl (ur P)), .val (tl (ur B))] ⟨[.val (tb true)], [none, none]⟩ :=
  rusame_call P B true ⟨fun _ => hP.inj hB h, fun _ => rfl⟩ (Nat.le_trans hP.len hn) (Nat.le_trans hB.len hm) fun q hq => (hP.sz q hq).mono hs

theorem PL.uok {f : Rat → Rat} {n a : Nat} {P : List Rat} (hP : PL f n a P) : UOk (P.map qc) := hP.tr ▸ ptrim_ok P

theorem PL.cells {f : Rat → Rat} {n a : Nat} {P : List Rat} (hP : PL f n a P) (h : a ≤ 68719476736) : ∀ c ∈ P.map qc, c.ok 68719476736 := fun c hc => by
  obtain ⟨q, hq, rfl⟩ := List.mem_map.1 hc
  have := hP.sz q hq
  exact ⟨dg_wd _, dg_wd _, by show nl q.num.natAbs ≤ 68719476736; have := this.1; omega, by show nl (q.den : Int).natAbs ≤ 68719476736; rw [Int.natAbs_natCast]; have := this.2; omega⟩

theorem ruvalid_big (cs : List QC) (b : Bool) (hb : b = true ↔ UOk cs) (hw : ∀ c ∈ cs, c.ok 68719476736) (hl : cs.length ≤ 1000) : ACall Tryz.prog 14 [.val (tl (qrows cs))] ⟨[.val (tb b)], [none]⟩ := by
  refine ruvalid_gen cs b hb hl (fun c hc => ?_) (fun c hc hcan => ?_)
  · obtain ⟨b1, hb1⟩ := bool_ex c.can
    have h := hw c hc
    exact ⟨b1, hb1, rqvalid_call b1 hb1 h.l h.m (by have := h.ll; omega) (by have := h.lm; omega)⟩
  · obtain ⟨x, h1, h2⟩ := QC.sign hcan
    exact ⟨cmpI x 0, (cmp00 x).trans h2, rqsign_call _ h1 rfl⟩

theorem pl_valid {f : Rat → Rat} {n a : Nat} {P : List Rat} (hP : PL f n a P) (hn : n ≤ 1000) (ha : a ≤ 68719476736) :
    ACall Tryz.prog 14 [.val (tl (ur P))] ⟨[.val (tb true)], [none]⟩ :=
  ruvalid_big (P.map qc) true ⟨fun _ => hP.uok, fun _ => rfl⟩ (hP.cells ha) (by rw [List.length_map]; exact Nat.le_trans hP.len hn)

/-- What R.Made makes. -/
theorem pl_made (xs : List RW) (hx : ∀ x ∈ xs, x.ok) (D : Nat) (hD2 : D ≤ 100) (hlx : xs.length < 9223372036854775808) :
    ∃ P f, PL f (D + 1) 8 P ∧ ACall Tryz.prog 15 [.val (tl (rwrows xs)), .val (ti .i64 (D : Int))] ⟨[.val (tl (ur P))], [none, none]⟩ := by
  refine ⟨_, _, PL.of_trim (P := (xs.take (D + 1)).map RW.q) (fun _ => rfl) (by rw [List.length_map, List.length_take]; omega) (fun q hq => ?_), umade_call xs hx D (by omega) (by omega) hlx⟩
  obtain ⟨x, hxm, rfl⟩ := List.mem_map.1 hq
  have ho := hx x (List.mem_of_mem_take hxm)
  exact madeQ_small ho.n1 ho.n2 ho.d1 ho.d2 ho.k1 ho.k2

/-- Degrees add up. -/
theorem csum_top {P B : List Rat} (j : Nat) : ∀ i, i ≤ j + 1 → j < i - 1 + B.length → (∀ k, k + 1 < i → B.getD (j - k) 0 = 0) → csum P B j i = if i = 0 then 0 else P.getD (i - 1) 0 * B.getD (j - (i - 1)) 0
  | 0, _, _, _ => rfl
  | i + 1, h1, h2, h3 => by
    unfold csum
    rw [if_pos (by omega), if_neg (by omega), show i + 1 - 1 = i by omega]
    have hz : ∀ k, k ≤ i → csum P B j k = 0 := fun k hk => by
      induction k with
      | zero => rfl
      | succ k ih =>
        unfold csum
        rw [ih (by omega), if_pos (by omega), h3 k (by omega)]; grind
    rw [hz i (Nat.le_refl _), Rat.zero_add]

theorem PL.last {f : Rat → Rat} {n a : Nat} {P : List Rat} (hP : PL f n a P) (h : P ≠ []) : P.getD (P.length - 1) 0 ≠ 0 := by
  have h1 : tlen P P.length = P.length := by
    have := congrArg List.length hP.tr
    unfold ptrim at this
    rw [List.length_take] at this
    have := tlen_le P P.length
    omega
  have h2 : P.length ≠ 0 := fun h0 => h (List.length_eq_zero_iff.1 h0)
  have := tlen_last P P.length (by omega)
  rwa [h1] at this

theorem tlen_top {P : List Rat} (h : P ≠ []) (h0 : P.getD (P.length - 1) 0 ≠ 0) : ptrim P = P := by
  unfold ptrim
  obtain ⟨n, hn⟩ : ∃ n, P.length = n + 1 := ⟨P.length - 1, by have : P.length ≠ 0 := fun h1 => h (List.length_eq_zero_iff.1 h1); omega⟩
  rw [hn] at h0 ⊢
  unfold tlen
  rw [if_neg (by simpa using h0), ← hn, List.take_length]

theorem PL.mul_len {f g e : Rat → Rat} {n m l a b c : Nat} {P B R : List Rat} (hP : PL f n a P) (hB : PL g m b B) (hR : PL e l c R) (he : ∀ x, e x = f x * g x) (h1 : P ≠ []) (h2 : B ≠ []) : R.length = P.length + B.length - 1 := by
  have l1 : P.length ≠ 0 := fun h => h1 (List.length_eq_zero_iff.1 h)
  have l2 : B.length ≠ 0 := fun h => h2 (List.length_eq_zero_iff.1 h)
  have hl : (pmul P B).length = P.length + B.length - 1 := by unfold pmul; rw [pmulL_len, List.length_replicate]
  have hne : pmul P B ≠ [] := fun h => by rw [h] at hl; simp at hl; omega
  have htop : (pmul P B).getD ((pmul P B).length - 1) 0 = P.getD (P.length - 1) 0 * B.getD (B.length - 1) 0 := by
    rw [hl]
    unfold pmul
    rw [pmulL_get (by simp; omega) _ _ (Nat.le_refl _), csum_top _ _ (by omega) (by omega) (fun k hk => by rw [List.getD_eq_getElem?_getD, List.getElem?_eq_none (by omega)]; rfl), if_neg l1, show P.length + B.length - 1 - 1 - (P.length - 1) = B.length - 1 by omega]
    rw [List.getD_eq_getElem?_getD, List.getElem?_replicate]
    split <;> simp [Rat.zero_add]
  have hnz : (pmul P B).getD ((pmul P B).length - 1) 0 ≠ 0 := by
    rw [htop]
    intro h
    rcases Rat.mul_eq_zero.1 h with h | h
    · exact hP.last h1 h
    · exact hB.last h2 h
  have : R = pmul P B := by
    rw [← hR.tr, ← tlen_top hne hnz]
    exact ptrim_ext (ev_inj fun x => by rw [hR.ev, he, ev_pmul, hP.ev, hB.ev])
  rw [this, hl]

end Go.Proofs.YtdhidmcjglokcaaGreat
end

section
set_option linter.unusedVariables false
set_option linter.unusedSimpArgs false
set_option maxHeartbeats 8000000
set_option linter.unusedVariables false
set_option linter.unusedSimpArgs false
set_option maxRecDepth 100000
namespace Go.Proofs.YtdhidmcjglokcaaGreat
open Go Go.Abs Go.Abs.M Go.Proofs

theorem qrow (x : Rat) : ∃ (s t : Bool) (r p : Abs.Rows), (qc x).row = [.v (.bool s), .lst false r, .v (.bool t), .lst false p] ∧ IsR x s r t p := ⟨_, _, _, _, rfl, qc_isR x⟩

theorem pmul_row {x y : Rat} {a b : Nat} (h1 : Qs x a) (h2 : Qs y b) (h : a + b ≤ 68719476736) :
    Qs (x * y) (a + b) ∧ ACall Tryz.prog 68 [.val (.agg (qc x).row), .val (.agg (qc y).row)] ⟨[.val (.agg (qc (x * y)).row)], [none, none]⟩ := by
  refine ⟨mul_small h1 h2, ?_⟩
  obtain ⟨u, w, v, p, hr, c⟩ := pmul_call (qc_isR x) (qc_isR y) (h1.mono (by omega)) (h2.mono (by omega))
  rw [qc_row hr] at c
  exact c

theorem padd_row {x y : Rat} {a b : Nat} (h1 : Qs x a) (h2 : Qs y b) (h : a + b ≤ 68719476736) :
    Qs (x + y) (a + b + 1) ∧ ACall Tryz.prog 87 [.val (.agg (qc x).row), .val (.agg (qc y).row)] ⟨[.val (.agg (qc (x + y)).row)], [none, none]⟩ := by
  refine ⟨add_small h1 h2, ?_⟩
  obtain ⟨u, w, v, p, hr, c⟩ := padd_call (qc_isR x) (qc_isR y) (h1.mono (by omega)) (h2.mono (by omega))
  rw [qc_row hr] at c
  exact c

theorem pwhole_row (n : Int) (h1 : -9223372036854775808 ≤ n) (h2 : n < 9223372036854775808) :
    ACall Tryz.prog 61 [.val (ti .i64 n)] ⟨[.val (.agg (qc (n : Rat)).row)], [none]⟩ := by
  obtain ⟨s, r, v, p, hr, c⟩ := pWhole_call n h1 h2
  rw [qc_row hr] at c
  exact c

theorem rqwhole_row (n : Int) (h1 : -9223372036854775808 ≤ n) (h2 : n < 9223372036854775808) :
    ACall Tryz.prog 22 [.val (ti .i64 n)] ⟨[.val (.agg (qc (n : Rat)).row)], [none]⟩ := by
  obtain ⟨s, r, v, p, hr, c⟩ := rqWhole_call n h1 h2
  rw [qc_row hr] at c
  exact c

theorem rqmul_row {x y : Rat} {a b : Nat} (h1 : Qs x a) (h2 : Qs y b) (h : a + b ≤ 68719476736) :
    Qs (x * y) (a + b) ∧ ACall Tryz.prog 50 [.val (.agg (qc x).row), .val (.agg (qc y).row)] ⟨[.val (.agg (qc (x * y)).row)], [none, none]⟩ := by
  refine ⟨mul_small h1 h2, ?_⟩
  obtain ⟨u, w, v, p, hr, c⟩ := qmul_call (qc_isR x) (qc_isR y) (h1.mono (by omega)) (h2.mono (by omega))
  rw [qc_row hr] at c
  exact c

theorem rqadd_row {x y : Rat} {a b : Nat} (h1 : Qs x a) (h2 : Qs y b) (h : a + b ≤ 68719476736) :
    Qs (x + y) (a + b + 1) ∧ ACall Tryz.prog 49 [.val (.agg (qc x).row), .val (.agg (qc y).row)] ⟨[.val (.agg (qc (x + y)).row)], [none, none]⟩ := by
  refine ⟨add_small h1 h2, ?_⟩
  obtain ⟨u, w, v, p, hr, c⟩ := qadd_call (qc_isR x) (qc_isR y) (h1.mono (by omega)) (h2.mono (by omega))
  rw [qc_row hr] at c
  exact c

theorem rqsame_row {x y : Rat} {a : Nat} (h1 : Qs x a) (h : x = y) (ha : a ≤ 68719476736) :
    ACall Tryz.prog 41 [.val (.agg (qc x).row), .val (.agg (qc y).row)] ⟨[.val (tb true)], [none, none]⟩ :=
  rqsame_call true (qc_isR x) (qc_isR y) ⟨fun _ => h, fun _ => rfl⟩ (h1.mono (by omega))

def uevSt (X : Abs.Rows) (s : Bool) (r : Abs.Rows) (t : Bool) (p : Abs.Rows) (s2 : Bool) (r2 : Abs.Rows) (t2 : Bool) (p2 : Abs.Rows) (i : Int) : St := mkSt 24 [.c (.t (.lst false X)), .agg [.t (.v (.bool s)), .t (.lst false r), .t (.v (.bool t)), .t (.lst false p)], .junk, .c (.ptr 2 0 0), .c (.ptr 3 0 0), .c (.ptr 6 0 0), vi .i64 i] [none, none, some (.var [.t (.v (.bool s)), .t (.lst false r), .t (.v (.bool t)), .t (.lst false p)]), some (.var (rawZ.map .t)), none, none, some (.var [.t (.v (.bool s2)), .t (.lst false r2), .t (.v (.bool t2)), .t (.lst false p2)])]

theorem ueval_call (P : List Rat) (x : Rat) (a d : Nat) (hl : P.length ≤ 1000) (h1 : ∀ q ∈ P, Qs q a) (h2 : Qs x d) (hbd : a + d + 1 ≤ 67108864) :
    Qs (Abs.ev P x) (1 + P.length * (a + d + 1)) ∧ ACall Tryz.prog 42 [.val (tl (ur P)), .val (.agg (qc x).row)] ⟨[.val (.agg (qc (Abs.ev P x)).row)], [none, none]⟩ := by
  have hsz : ∀ m, m ≤ P.length → Qs (Abs.ev (P.drop (P.length - m)) x) (1 + m * (a + d + 1)) := fun m => by
    induction m with
    | zero => intro _; rw [Nat.sub_zero, List.drop_length]; exact Qs.zero (by omega)
    | succ m ih =>
      intro hm
      have hd : P.drop (P.length - (m + 1)) = P[P.length - (m + 1)] :: P.drop (P.length - m) := by
        rw [List.drop_eq_getElem_cons (by omega), show P.length - (m + 1) + 1 = P.length - m by omega]
      rw [hd]
      have q1 := add_small (h1 _ (List.getElem_mem (by omega : P.length - (m + 1) < P.length))) (mul_small h2 (ih (by omega)))
      exact q1.mono (by rw [Nat.succ_mul]; omega)
  have hfin := hsz P.length (Nat.le_refl _)
  rw [Nat.sub_self, List.drop_zero] at hfin
  refine ⟨hfin, ?_⟩
  obtain ⟨n, hn⟩ : ∃ n, n = P.length := ⟨_, rfl⟩
  obtain ⟨X, hX⟩ : ∃ Y, Y = ur P := ⟨_, rfl⟩
  obtain ⟨T, hT⟩ : ∃ T, T = (qc (Abs.ev P x)).row := ⟨_, rfl⟩
  have hXl : X.length = n := by rw [hX, ur_len, hn]
  obtain ⟨s, t, r, p, hrow, hxr⟩ := qrow x
  rw [← hX, hrow, ← hT]
  have cw := pwhole_row 0 (by omega) (by omega)
  obtain ⟨s0, t0, r0, p0, hrow0, hxr0⟩ := qrow 0
  rw [show ((0 : Int) : Rat) = 0 from rfl, hrow0] at cw
  refine callZ ccOk mixed [.val] Tryz.func42 rfl rfl (by kernel_rfl) fun zwrap zadd zsub zmul zquo zrem zshl zshr zband zbor zbxor zbandn zeq zne zlt zle znot zbeq zbne zmax zmin znat zinb zofN zidx zneq znadd zdif zcut zroom zmkok zlen znth zsetr zisI zgetI zsetI zfit zpart zext zsetg zrep zwide zall zmok zmget zmset zW zth A L F hS hF => ?_
  have lx : zlen X = n := by rw [hS.len, hXl]
  obtain ⟨N, hN, hN2⟩ : ∃ N : Int, N + 1 = n ∧ zwrap .i64 (zsub (zofN (zlen X)) 1) = N := ⟨(n : Int) - 1, by omega, by rw [hS.sub, hS.ofN, lx, hS.wrap, wrap_i64 (by omega) (by omega)]⟩
  cbv
  have hN : N + 1 = (n : Int) := hN
  refine ⟨_, hS.call (cw), ?_⟩
  cbv
  refine loopZ ccOk mixed hS (fun (k : Nat) s' => ∃ (I : Int) (s2 t2 : Bool) (r2 p2 : Abs.Rows), I + 1 = k ∧ k ≤ n ∧ (qc (Abs.ev (P.drop k) x)).row = [.v (.bool s2), .lst false r2, .v (.bool t2), .lst false p2] ∧ s' = uevSt X s r t p s2 r2 t2 p2 I) (n := n) (s0 := uevSt X s r t p s0 r0 t0 p0 N) (le_of ?_ ?_) rfl (by show 2 ≤ 7; omega) ?_ ?_
  · simp [leT, uevSt, mkSt, vi, hN2]
  · simp [leH, uevSt, mkSt, rawZ]
  · exact ⟨N, s0, t0, r0, p0, hN, Nat.le_refl _, by rw [hn, List.drop_length]; exact hrow0, rfl⟩
  · rintro k s1 ⟨I, s2, t2, r2, p2, hI, hk, hv, hs1⟩
    by_cases hk0 : k = 0
    · have l1 : zle 0 I = false := by rw [hS.le]; exact decide_eq_false (by omega)
      rw [hk0, List.drop_zero, ← hT] at hv
      subst hv
      subst hs1
      cbv
      refine bF l1 ?_
      exact hF _ (ResLe.refl _)
    · have l1 : zle 0 I = true := by rw [hS.le]; exact decide_eq_true (by omega)
      obtain ⟨i, hi⟩ : ∃ i, k = i + 1 := ⟨k - 1, by omega⟩
      obtain ⟨c, hc⟩ : ∃ c, c = P.getD i 0 := ⟨_, rfl⟩
      have hPi : P[i]? = some c := by rw [hc, List.getD_eq_getElem?_getD, List.getElem?_eq_getElem (by omega)]; rfl
      have hdr : Abs.ev (P.drop i) x = Abs.ev (P.drop k) x * x + c := by
        have : P.drop i = c :: P.drop k := by
          have h3 := List.getElem?_eq_getElem (l := P) (i := i) (by omega)
          rw [hPi] at h3
          rw [hi, List.drop_eq_getElem_cons (by omega : i < P.length), ← Option.some.inj h3]
        rw [this]; simp only [Abs.ev]; grind
      have hXi : X[i]? = some (qc c).row := by rw [hX]; exact ur_get hPi
      obtain ⟨s4, t4, r4, p4, hrow4, _⟩ := qrow c
      have hb : (n - k) * (a + d + 1) ≤ 1000 * (a + d + 1) := Nat.mul_le_mul_right _ (by omega)
      have hq1 := hsz (n - k) (by omega)
      rw [show P.length - (n - k) = k by omega] at hq1
      obtain ⟨hq2, cm⟩ := pmul_row hq1 h2 (by omega)
      obtain ⟨hq3, ca⟩ := padd_row hq2 (h1 c (List.mem_of_getElem? hPi)) (by omega)
      rw [← hdr] at ca
      obtain ⟨s5, t5, r5, p5, hrow5, _⟩ := qrow (Abs.ev (P.drop k) x * x)
      obtain ⟨s6, t6, r6, p6, hrow6, _⟩ := qrow (Abs.ev (P.drop i) x)
      rw [hv, hrow, hrow5] at cm
      rw [hrow5, hrow4, hrow6] at ca
      rw [hrow4] at hXi
      have j1 : znat I = i := by rw [hS.nat]; omega
      have n0 : zle 0 I = true := l1
      have j2 : znth X i = some [.v (.bool s4), .lst false r4, .v (.bool t4), .lst false p4] := by rw [hS.nth]; exact hXi
      obtain ⟨I', hI', i1⟩ : ∃ I' : Int, I' + 1 = (i : Int) ∧ zwrap .i64 (zsub I 1) = I' := ⟨I - 1, by omega, by rw [hS.sub, hS.wrap, wrap_i64 (by omega) (by omega)]⟩
      have hmm : i < k := by omega
      have hnx : ∃ (I2 : Int) (s9 t9 : Bool) (r9 p9 : Abs.Rows), I2 + 1 = (i : Int) ∧ i ≤ n ∧ (qc (Abs.ev (P.drop i) x)).row = [.v (.bool s9), .lst false r9, .v (.bool t9), .lst false p9] ∧ uevSt X s r t p s6 r6 t6 p6 I' = uevSt X s r t p s9 r9 t9 p9 I2 := ⟨I', s6, t6, r6, p6, hI', by omega, hrow6, rfl⟩
      subst hs1
      cbv
      refine bT l1 ?_
      refine ⟨_, hS.call (cm), ?_⟩
      cbv
      rw [j1, j2]
      cbv
      refine nd (n0) ?_
      refine ⟨_, hS.call (ca), ?_⟩
      cbv
      exact again (s' := uevSt X s r t p s6 r6 t6 p6 I') (m := i) (by simp [leT, uevSt, mkSt, vi, i1]) (by simp [leH, uevSt, mkSt, rawZ]) rfl (by show 2 ≤ 7; omega) hmm hnx
end Go.Proofs.YtdhidmcjglokcaaGreat
end

section
set_option linter.unusedVariables false
set_option linter.unusedSimpArgs false
/-
  Derivatives of polynomials given by lists of coefficients.
-/
set_option linter.unusedVariables false
namespace Go.Abs

/-- The value of the derivative. -/
def evd : List Rat → Rat → Rat
  | [], _ => 0
  | _ :: P, x => ev P x + x * evd P x

theorem evd_ext {P Q : List Rat} (h : ∀ j, P.getD j 0 = Q.getD j 0) (x : Rat) : evd P x = evd Q x := by
  induction P generalizing Q with
  | nil =>
    induction Q with
    | nil => rfl
    | cons d Q ih =>
      have h2 : ∀ j, ([] : List Rat).getD j 0 = Q.getD j 0 := fun j => by have := h (j + 1); simpa using this
      have := ih h2
      have h3 := ev_ext h2 x
      simp only [evd, ev] at this h3 ⊢
      rw [← this, ← h3]; grind
  | cons c P ih =>
    cases Q with
    | nil =>
      have h2 : ∀ j, P.getD j 0 = ([] : List Rat).getD j 0 := fun j => by have := h (j + 1); simpa using this
      have := ih h2
      have h3 := ev_ext h2 x
      simp only [evd, ev] at this h3 ⊢
      rw [this, h3]; grind
    | cons d Q =>
      have h2 : ∀ j, P.getD j 0 = Q.getD j 0 := fun j => by have := h (j + 1); simpa using this
      simp only [evd]
      rw [ih h2, ev_ext h2 x]

/-- Sum, multiple and product, by recursion. -/
def ladd : List Rat → List Rat → List Rat
  | [], Q => Q
  | c :: P, [] => c :: P
  | c :: P, d :: Q => (c + d) :: ladd P Q
def lsc (c : Rat) (P : List Rat) : List Rat := P.map (c * ·)
def lmul : List Rat → List Rat → List Rat
  | [], _ => []
  | c :: P, B => ladd (lsc c B) (0 :: lmul P B)
def lcomp : List Rat → List Rat → List Rat
  | [], _ => []
  | c :: P, B => ladd [c] (lmul B (lcomp P B))

theorem ev_ladd : ∀ (P Q : List Rat) (x : Rat), ev (ladd P Q) x = ev P x + ev Q x
  | [], Q, x => by simp [ladd, ev, Rat.zero_add]
  | c :: P, [], x => by simp [ladd, ev, Rat.add_zero]
  | c :: P, d :: Q, x => by simp only [ladd, ev]; rw [ev_ladd P Q x]; grind
theorem evd_ladd : ∀ (P Q : List Rat) (x : Rat), evd (ladd P Q) x = evd P x + evd Q x
  | [], Q, x => by simp [ladd, evd, Rat.zero_add]
  | c :: P, [], x => by simp [ladd, evd, Rat.add_zero]
  | c :: P, d :: Q, x => by simp only [ladd, evd]; rw [evd_ladd P Q x, ev_ladd P Q x]; grind
theorem ev_lsc (c : Rat) : ∀ (P : List Rat) (x : Rat), ev (lsc c P) x = c * ev P x
  | [], x => by simp [lsc, ev, Rat.mul_zero]
  | d :: P, x => by have := ev_lsc c P x; simp only [lsc, List.map_cons, ev] at this ⊢; rw [this]; grind
theorem evd_lsc (c : Rat) : ∀ (P : List Rat) (x : Rat), evd (lsc c P) x = c * evd P x
  | [], x => by simp [lsc, evd, Rat.mul_zero]
  | d :: P, x => by have := evd_lsc c P x; have h2 := ev_lsc c P x; simp only [lsc, List.map_cons, evd] at this h2 ⊢; rw [this, h2]; grind
theorem ev_lmul : ∀ (P B : List Rat) (x : Rat), ev (lmul P B) x = ev P x * ev B x
  | [], B, x => by simp [lmul, ev, Rat.zero_mul]
  | c :: P, B, x => by
    simp only [lmul]
    rw [ev_ladd, ev_lsc]
    simp only [ev]
    rw [ev_lmul P B x]; grind
theorem evd_lmul : ∀ (P B : List Rat) (x : Rat), evd (lmul P B) x = evd P x * ev B x + ev P x * evd B x
  | [], B, x => by simp [lmul, ev, evd, Rat.zero_mul, Rat.add_zero]
  | c :: P, B, x => by
    simp only [lmul]
    rw [evd_ladd, evd_lsc]
    simp only [ev, evd]
    rw [evd_lmul P B x, ev_lmul P B x]; grind
theorem ev_lcomp : ∀ (P B : List Rat) (x : Rat), ev (lcomp P B) x = ev P (ev B x)
  | [], B, x => by simp [lcomp, ev]
  | c :: P, B, x => by
    simp only [lcomp]
    rw [ev_ladd, ev_lmul, ev_lcomp P B x]
    simp only [ev]; grind
theorem evd_lcomp : ∀ (P B : List Rat) (x : Rat), evd (lcomp P B) x = evd P (ev B x) * evd B x
  | [], B, x => by simp [lcomp, evd, Rat.zero_mul]
  | c :: P, B, x => by
    simp only [lcomp]
    rw [evd_ladd, evd_lmul, evd_lcomp P B x, ev_lcomp P B x]
    simp only [ev, evd]; grind

/-- A list of coefficients with the same values has the same coefficients. -/
theorem ev_coef {P Q : List Rat} (h : ∀ x, ev P x = ev Q x) (j : Nat) : P.getD j 0 = Q.getD j 0 := by
  have h0 := ev_zero (P := ladd P (lsc (-1) Q)) (fun x => by rw [ev_ladd, ev_lsc, h x]; grind) j
  have hl : ∀ (A B : List Rat) (j : Nat), (ladd A B).getD j 0 = A.getD j 0 + B.getD j 0 := fun A => by
    induction A with
    | nil => intro B j; simp [ladd, Rat.zero_add]
    | cons a A ih =>
      intro B j
      cases B with
      | nil => simp [ladd, Rat.add_zero]
      | cons b B =>
        cases j with
        | zero => simp [ladd]
        | succ j => simpa [ladd] using ih B j
  have hs : (lsc (-1) Q).getD j 0 = -1 * Q.getD j 0 := by
    rw [List.getD_eq_getElem?_getD, List.getD_eq_getElem?_getD, lsc, List.getElem?_map]
    cases Q[j]? with
    | none => simp [Rat.mul_zero]
    | some q => simp
  rw [hl, hs] at h0
  grind

theorem evd_congr {P Q : List Rat} (h : ∀ x, ev P x = ev Q x) (x : Rat) : evd P x = evd Q x := evd_ext (ev_coef h) x
theorem evd_add {S P B : List Rat} (h : ∀ x, ev S x = ev P x + ev B x) (x : Rat) : evd S x = evd P x + evd B x := by
  rw [evd_congr (Q := ladd P B) (fun x => by rw [h, ev_ladd]), evd_ladd]
theorem evd_mul {S P B : List Rat} (h : ∀ x, ev S x = ev P x * ev B x) (x : Rat) : evd S x = evd P x * ev B x + ev P x * evd B x := by
  rw [evd_congr (Q := lmul P B) (fun x => by rw [h, ev_lmul]), evd_lmul]
theorem evd_comp {S P B : List Rat} (h : ∀ x, ev S x = ev P (ev B x)) (x : Rat) : evd S x = evd P (ev B x) * evd B x := by
  rw [evd_congr (Q := lcomp P B) (fun x => by rw [h, ev_lcomp]), evd_lcomp]

/-- The coefficients of the derivative. -/
def pder (P : List Rat) : List Rat := (List.range (P.length - 1)).map fun (i : Nat) => (((i + 1 : Nat) : Int) : Rat) * P.getD (i + 1) 0

theorem pder_len (P : List Rat) : (pder P).length = P.length - 1 := by simp [pder]
theorem pder_get (P : List Rat) (i : Nat) : (pder P).getD i 0 = (((i + 1 : Nat) : Int) : Rat) * P.getD (i + 1) 0 := by
  rw [List.getD_eq_getElem?_getD, pder, List.getElem?_map]
  by_cases h : i < P.length - 1
  · rw [List.getElem?_range h]; rfl
  · rw [List.getElem?_eq_none (by simp; omega), List.getD_eq_getElem?_getD, List.getElem?_eq_none (by omega : P.length ≤ i + 1)]
    simp [Rat.mul_zero]

/-- A list whose coefficients, from place k on, are those of the derivative, times .. -/
theorem ev_pder_aux : ∀ (P Q : List Rat) (k : Nat), (∀ j, Q.getD j 0 = (((j + k : Nat) : Int) : Rat) * P.getD j 0) → ∀ x, ev Q x = (((k : Nat) : Int) : Rat) * ev P x + x * evd P x
  | [], Q, k, h, x => by
    have := ev_ext (P := Q) (Q := []) (fun j => by rw [h]; simp [Rat.mul_zero]) x
    rw [this]; simp only [ev, evd]; grind
  | c :: P, [], k, h, x => by
    have h1 := ev_pder_aux P [] (k + 1) (fun j => by have := h (j + 1); simp at this ⊢; rw [this]; grind) x
    have h0 := h 0
    simp only [List.getD_nil, List.getD_cons_zero, Nat.zero_add] at h0
    have e : (((k + 1 : Nat) : Int) : Rat) = (((k : Nat) : Int) : Rat) + 1 := by push_cast; rfl
    rw [e] at h1
    simp only [ev, evd] at h1 ⊢
    generalize (((k : Nat) : Int) : Rat) = K at *
    grind
  | c :: P, d :: Q, k, h, x => by
    have h1 := ev_pder_aux P Q (k + 1) (fun j => by have := h (j + 1); simp only [List.getD_cons_succ] at this; rw [this, show j + (k + 1) = j + 1 + k by omega]) x
    have h0 := h 0
    simp only [List.getD_cons_zero, Nat.zero_add] at h0
    have e : (((k + 1 : Nat) : Int) : Rat) = (((k : Nat) : Int) : Rat) + 1 := by push_cast; rfl
    rw [e] at h1
    simp only [ev, evd] at h1 ⊢
    generalize (((k : Nat) : Int) : Rat) = K at *
    rw [h1, h0]
    grind

theorem ev_pder (P : List Rat) (x : Rat) : ev (pder P) x = evd P x := by
  cases P with
  | nil => rfl
  | cons c P =>
    have := ev_pder_aux P (pder (c :: P)) 1 (fun j => by rw [pder_get, List.getD_cons_succ]) x
    rw [this]
    simp only [evd]
    have : (((1 : Nat) : Int) : Rat) = 1 := rfl
    rw [this, Rat.one_mul]
end Go.Abs
end

section
set_option linter.unusedVariables false
set_option linter.unusedSimpArgs false
set_option maxHeartbeats 8000000
set_option linter.unusedVariables false
set_option linter.unusedSimpArgs false
set_option maxRecDepth 100000
namespace Go.Proofs.YtdhidmcjglokcaaGreat
open Go Go.Abs Go.Abs.M Go.Proofs

theorem ur_single (c : Rat) : ur [c] = [(qc c).row] := rfl

theorem rconst_call (c : Rat) : ACall Tryz.prog 51 [.val (.agg (qc c).row)] ⟨[.val (tl (ur (ptrim [c])))], [none]⟩ := by
  obtain ⟨s, t, r, p, hrow, _⟩ := qrow c
  have ct := utrim_call [c] (by simp)
  rw [ur_single, hrow] at ct
  rw [hrow]
  generalize ur (ptrim [c]) = Z at *
  refine callZ ccOk mixed [.val] Tryz.func51 rfl rfl (by kernel_rfl) fun zwrap zadd zsub zmul zquo zrem zshl zshr zband zbor zbxor zbandn zeq zne zlt zle znot zbeq zbne zmax zmin znat zinb zofN zidx zneq znadd zdif zcut zroom zmkok zlen znth zsetr zisI zgetI zsetI zfit zpart zext zsetg zrep zwide zall zmok zmget zmset zW zth A L F hS hF => ?_
  have u1 : zfit 0 1 [[Tree.v (.bool s), .lst false r, .v (.bool t), .lst false p]] = true := by rw [hS.fit]; rfl
  have u0 : zpart [[Tree.v (.bool s), .lst false r, .v (.bool t), .lst false p]] 0 1 = [[Tree.v (.bool s), .lst false r, .v (.bool t), .lst false p]] := by rw [hS.part]; rfl
  cbv
  refine nd u1 ?_
  rw [u0]
  refine ⟨_, hS.call (ct), ?_⟩
  cbv
  exact hF _ (ResLe.refl _)

theorem uderive_nil : ACall Tryz.prog 31 [.val (tl [])] ⟨[.val (tl [])], [none]⟩ := by
  refine callZ ccOk mixed [.val] Tryz.func31 rfl rfl (by kernel_rfl) fun zwrap zadd zsub zmul zquo zrem zshl zshr zband zbor zbxor zbandn zeq zne zlt zle znot zbeq zbne zmax zmin znat zinb zofN zidx zneq znadd zdif zcut zroom zmkok zlen znth zsetr zisI zgetI zsetI zfit zpart zext zsetg zrep zwide zall zmok zmget zmset zW zth A L F hS hF => ?_
  have e1 : zeq (zofN (zlen [])) 0 = true := by rw [hS.eq, hS.ofN, hS.len]; rfl
  cbv
  refine bT e1 ?_
  exact fin1w hF (TLe.drop _ _)

def udeSt (X : Abs.Rows) (n : Nat) (Z : Abs.Rows) (N i : Int) : St := mkSt 32 [.c (.t (.lst false X)), .junk, .junk, .c (.sl 1 0 n false), .junk, .junk, .junk, .junk, .junk, .junk, .junk, .junk, .junk, vi .i64 N, vi .i64 i] [none, some (.rows 4 Z true false)]

theorem fill_set (L : List Rat) (i : Nat) (h : i < L.length) : (L.take i ++ List.replicate (L.length - i) 0).set i (L.getD i 0) = L.take (i + 1) ++ List.replicate (L.length - (i + 1)) 0 := by
  have hl : (L.take i).length = i := by rw [List.length_take]; omega
  obtain ⟨m, hm⟩ : ∃ m, L.length - i = m + 1 := ⟨L.length - i - 1, by omega⟩
  rw [List.set_append_right _ _ (by omega), hl, Nat.sub_self, hm, show L.length - (i + 1) = m by omega, List.replicate_succ, List.set_cons_zero, List.take_add_one, List.getD_eq_getElem?_getD, List.getElem?_eq_getElem h, Option.getD_some, Option.toList_some, List.append_assoc]
  rfl

theorem fill_get (L : List Rat) (i : Nat) (h : i < L.length) : (L.take i ++ List.replicate (L.length - i) 0)[i]? = some 0 := by
  have hl : (L.take i).length = i := by rw [List.length_take]; omega
  rw [List.getElem?_append_right (by omega), hl, Nat.sub_self, List.getElem?_replicate, if_pos (by omega)]

theorem uderive_call (P : List Rat) (a : Nat) (h0 : P ≠ []) (hl : P.length ≤ 1000) (h1 : ∀ q ∈ P, Qs q a) (ha : a ≤ 67108864) :
    ACall Tryz.prog 31 [.val (tl (ur P))] ⟨[.val (tl (ur (ptrim (pder P))))], [none]⟩ := by
  obtain ⟨n, hn⟩ : ∃ n, n = P.length := ⟨_, rfl⟩
  have hn0 : n ≠ 0 := fun h => h0 (List.length_eq_zero_iff.1 (by omega))
  obtain ⟨m, hm⟩ : ∃ m, m = n - 1 := ⟨_, rfl⟩
  have cz := uzeros_call m (by omega)
  obtain ⟨X, hX⟩ : ∃ Y, Y = ur P := ⟨_, rfl⟩
  obtain ⟨Z, hZ⟩ : ∃ Y, Y = ur (List.replicate m 0) := ⟨_, rfl⟩
  obtain ⟨T, hT⟩ : ∃ Y, Y = ur (ptrim (pder P)) := ⟨_, rfl⟩
  obtain ⟨N, hN⟩ : ∃ N : Int, N = (m : Int) := ⟨_, rfl⟩
  have hXl : X.length = n := by rw [hX, ur_len, hn]
  have hZl : Z.length = m := by rw [hZ, ur_len, List.length_replicate]
  rw [← hN, ← hZ] at cz
  rw [← hX, ← hT]
  refine callZ ccOk mixed [.val] Tryz.func31 rfl rfl (by kernel_rfl) fun zwrap zadd zsub zmul zquo zrem zshl zshr zband zbor zbxor zbandn zeq zne zlt zle znot zbeq zbne zmax zmin znat zinb zofN zidx zneq znadd zdif zcut zroom zmkok zlen znth zsetr zisI zgetI zsetI zfit zpart zext zsetg zrep zwide zall zmok zmget zmset zW zth A L F hS hF => ?_
  have lx : zlen X = n := by rw [hS.len, hXl]
  have lz : zlen Z = m := by rw [hS.len, hZl]
  have e1 : zeq (zofN (zlen X)) 0 = false := by rw [hS.eq, hS.ofN, lx]; exact decide_eq_false (by omega)
  have m1 : zwrap .i64 (zsub (zofN (zlen X)) 1) = N := by rw [lx, hS.sub, hS.ofN, hS.wrap, wrap_i64 (by omega) (by omega)]; omega
  cbv
  refine bF e1 ?_
  rw [m1]
  refine ⟨_, hS.call (cz), ?_⟩
  cbv
  have hN : N = (m : Int) := hN
  have hpl : (pder P).length = m := by rw [pder_len, hm, hn]
  have cws : ∀ j : Nat, j < n → ACall Tryz.prog 61 [.val (ti .i64 ((j : Nat) : Int))] ⟨[.val (.agg (qc (((j : Nat) : Int) : Rat)).row)], [none]⟩ := fun j hj => pwhole_row _ (by omega) (by omega)
  refine loopZ ccOk mixed hS (fun (j : Nat) s' => ∃ (i : Nat) (I : Int) (Y : Abs.Rows), I = i ∧ i + j = m ∧ Y = ur ((pder P).take i ++ List.replicate ((pder P).length - i) 0) ∧ s' = udeSt X m Y N I) (n := m) (s0 := udeSt X m Z N 0) (le_of ?_ ?_) rfl (by show 1 ≤ 2; omega) ?_ ?_
  · simp [leT, udeSt, mkSt, vi, lz, hN, hS.ofN]
  · simp [leH, udeSt, mkSt]
  · exact ⟨0, 0, Z, rfl, by omega, by rw [hZ, hpl]; rfl, rfl⟩
  · rintro j s1 ⟨i, I, Y, hI, hij, hY, hs1⟩
    have hYl : Y.length = m := by rw [hY, ur_len]; simp; omega
    by_cases hi : i < m
    · have l1 : zlt I N = true := by rw [hS.lt]; exact decide_eq_true (by omega)
      obtain ⟨c, hc⟩ : ∃ c, c = P.getD (i + 1) 0 := ⟨_, rfl⟩
      have hPi : P[i + 1]? = some c := by rw [hc, List.getD_eq_getElem?_getD, List.getElem?_eq_getElem (by omega)]; rfl
      have hXi : X[i + 1]? = some (qc c).row := by rw [hX]; exact ur_get hPi
      have cw := cws (i + 1) (by omega)
      obtain ⟨w, hw⟩ : ∃ w : Rat, w = (((i + 1 : Nat) : Int) : Rat) := ⟨_, rfl⟩
      have hpi : (pder P).getD i 0 = w * c := by rw [pder_get, hc, hw]
      obtain ⟨hq, cm⟩ := pmul_row (x := w) (y := c) (a := 1) (b := a) (by rw [hw]; exact Qs.whole (by omega) (Nat.le_refl 1)) (h1 c (List.mem_of_getElem? hPi)) (by omega)
      rw [← hw] at cw
      obtain ⟨s, t, r, p, hrow, _⟩ := qrow w
      obtain ⟨s2, t2, r2, p2, hrow2, _⟩ := qrow c
      obtain ⟨s3, t3, r3, p3, hrow3, _⟩ := qrow (w * c)
      obtain ⟨s4, t4, r4, p4, hrow4, _⟩ := qrow 0
      rw [hrow] at cw
      rw [hrow, hrow2, hrow3] at cm
      rw [hrow2] at hXi
      obtain ⟨Y', hY'⟩ : ∃ Y', Y' = ur ((pder P).take (i + 1) ++ List.replicate ((pder P).length - (i + 1)) 0) := ⟨_, rfl⟩
      have hset : Y.set i [.v (.bool s3), .lst false r3, .v (.bool t3), .lst false p3] = Y' := by
        rw [← hrow3, hY, ur_set, ← hpi, fill_set _ _ (by omega), hY']
      have hget : Y[i]? = some [.v (.bool s4), .lst false r4, .v (.bool t4), .lst false p4] := by
        rw [hY, ← hrow4]; exact ur_get (fill_get _ _ (by omega))
      obtain ⟨I', hI', i1⟩ : ∃ I' : Int, I' = ((i + 1 : Nat) : Int) ∧ zwrap .i64 (zadd I 1) = I' := ⟨I + 1, by omega, by rw [hS.add, hS.wrap, wrap_i64 (by omega) (by omega)]⟩
      rw [← hI'] at cw
      have n1 : zle 0 I' = true := by rw [hS.le]; exact decide_eq_true (by omega)
      have j2 : znth X (znat I') = some [.v (.bool s2), .lst false r2, .v (.bool t2), .lst false p2] := by rw [hS.nat, hI', Int.toNat_natCast, hS.nth]; exact hXi
      have g1 : zinb I m = true := by rw [hS.inb]; exact decide_eq_true (by omega)
      have g2 : zidx 0 I = i := by rw [hS.idx]; omega
      have g3 : znth Y i = some [.v (.bool s4), .lst false r4, .v (.bool t4), .lst false p4] := by rw [hS.nth]; exact hget
      have g4 : zsetr Y i [.v (.bool s3), .lst false r3, .v (.bool t3), .lst false p3] = Y' := by rw [hS.setr]; exact hset
      have w2 : zwrap .i64 I' = I' := by rw [hS.wrap, wrap_i64 (by omega) (by omega)]
      have hjj : j - 1 < j := by omega
      have hnx : ∃ (i2 : Nat) (I2 : Int) (Y2 : Abs.Rows), I2 = i2 ∧ i2 + (j - 1) = m ∧ Y2 = ur ((pder P).take i2 ++ List.replicate ((pder P).length - i2) 0) ∧ udeSt X m Y' N I' = udeSt X m Y2 N I2 := ⟨i + 1, I', Y', hI', by omega, hY', rfl⟩
      subst hs1
      cbv
      refine bT l1 ?_
      rw [i1]
      refine ⟨_, hS.call (cw), ?_⟩
      cbv
      rw [i1, j2]
      cbv
      refine nd (n1) ?_
      refine ⟨_, hS.call (cm), ?_⟩
      cbv
      refine nd (g1) ?_
      rw [g2, g3]
      cbv
      exact again (s' := udeSt X m Y' N I') (m := j - 1) (by simp [leT, udeSt, mkSt, vi, i1]) (by simp [leH, udeSt, mkSt, g4]) rfl (by show 1 ≤ 2; omega) hjj hnx
    · have l1 : zlt I N = false := by rw [hS.lt]; exact decide_eq_false (by omega)
      have hin : i = m := by omega
      have ct := utrim2_call (pder P) (by omega)
      have hYP : Y = ur (pder P) := by rw [hY, hin, ← hpl, List.take_length, Nat.sub_self]; simp
      rw [← hYP, ← hT] at ct
      have f4 : zfit 0 m Y = true := by rw [hS.fit, hYl]; exact decide_eq_true (by omega)
      have f5 : zpart Y 0 m = Y := by rw [hS.part, ← hYl, List.drop_zero, List.take_length]
      subst hs1
      cbv
      refine bF l1 (nd f4 ?_)
      rw [f5]
      refine ⟨_, hS.call (ct), ?_⟩
      cbv
      exact hF _ (ResLe.refl _)

theorem pl_derive {f : Rat → Rat} {n k : Nat} {P : List Rat} (hP : PL f n k P) (hn : n ≤ 1000) (hk : k ≤ 67108864) :
    ∃ R, PL (evd P) (n - 1) (k + 1) R ∧ ACall Tryz.prog 31 [.val (tl (ur P))] ⟨[.val (tl (ur R))], [none]⟩ := by
  have hl := hP.len
  refine ⟨ptrim (pder P), PL.of_trim (ev_pder P) (by rw [pder_len]; omega) (fun q hq => ?_), ?_⟩
  · obtain ⟨i, hi⟩ := List.getElem?_of_mem hq
    have hlt := (List.getElem?_eq_some_iff.1 hi).1
    rw [pder_len] at hlt
    have e : (pder P).getD i 0 = q := by rw [List.getD_eq_getElem?_getD, hi]; rfl
    rw [pder_get, List.getD_eq_getElem?_getD, List.getElem?_eq_getElem (by omega : i + 1 < P.length)] at e
    rw [← e]
    exact (mul_small (Qs.whole (k := 1) (by omega) (Nat.le_refl 1)) (hP.sz _ (List.getElem_mem _))).mono (by omega)
  · by_cases h0 : P = []
    · subst h0; exact uderive_nil
    · exact uderive_call P k h0 (by omega) hP.sz hk
end Go.Proofs.YtdhidmcjglokcaaGreat
end

section
set_option linter.unusedVariables false
set_option linter.unusedSimpArgs false
/-
  Sizes of coefficients: a common denominator, numerators and denominator of at most s bits.
-/
set_option linter.unusedVariables false
namespace Go.Abs

theorem nd_of {q : Rat} {n d : Int} (hd : 0 < d) (h : q * (d : Rat) = (n : Rat)) : q.num.natAbs ≤ n.natAbs ∧ (q.den : Int) ≤ d := by
  have hd0 : (d : Rat) ≠ 0 := fun h0 => by rw [Rat.intCast_eq_zero_iff] at h0; omega
  have hq : Rat.divInt n d = q := by
    rw [Rat.divInt_eq_div, ← h, Rat.div_def, Rat.mul_assoc, Rat.mul_inv_cancel _ hd0, Rat.mul_one]
  obtain ⟨num, den, nz, red⟩ := q
  obtain ⟨m, hm0, h1, h2⟩ := Rat.divInt_num_den (by omega) hq
  have hm : 0 < m := by
    rcases Int.lt_trichotomy m 0 with h3 | h3 | h3
    · have : (den : Int) * m ≤ 0 := Int.mul_nonpos_of_nonneg_of_nonpos (by omega) (by omega)
      omega
    · exact absurd h3 hm0
    · exact h3
  refine ⟨?_, ?_⟩
  · show num.natAbs ≤ n.natAbs
    rw [h1, Int.natAbs_mul]
    exact Nat.le_mul_of_pos_right _ (by omega)
  · show (den : Int) ≤ d
    rw [h2]
    have : (den : Int) * 1 ≤ den * m := Int.mul_le_mul_of_nonneg_left (by omega) (by omega)
    omega

/-- Numbers with a common denominator. -/
structure CD (M d : Int) (f : Nat → Rat) : Prop where
  pos : 0 < d
  num : ∀ j, ∃ n : Int, -M ≤ n ∧ n ≤ M ∧ f j * (d : Rat) = (n : Rat)

def CF (s : Nat) (f : Nat → Rat) : Prop := ∃ d : Int, d ≤ 2 ^ s ∧ CD (2 ^ s) d f

theorem two_pow_mono {s t : Nat} (h : s ≤ t) : (2 : Int) ^ s ≤ 2 ^ t := by
  have := Nat.pow_le_pow_right (n := 2) (by omega) h
  exact_mod_cast this
theorem two_pow_pos (s : Nat) : (0 : Int) < 2 ^ s := by
  have := Nat.two_pow_pos s
  exact_mod_cast this

theorem CD.mono {M N d : Int} {f : Nat → Rat} (h : CD M d f) (hM : M ≤ N) : CD N d f :=
  ⟨h.pos, fun j => by obtain ⟨n, h1, h2, h3⟩ := h.num j; exact ⟨n, by omega, by omega, h3⟩⟩

theorem CF.mono {s t : Nat} {f : Nat → Rat} (h : CF s f) (hst : s ≤ t) : CF t f := by
  obtain ⟨d, h1, h2⟩ := h
  have := two_pow_mono hst
  exact ⟨d, by omega, h2.mono this⟩

theorem CF.congr {s : Nat} {f g : Nat → Rat} (h : CF s f) (e : ∀ j, f j = g j) : CF s g := by
  have : f = g := funext e
  exact this ▸ h

theorem CF.comp {s : Nat} {f : Nat → Rat} (h : CF s f) (k : Nat → Nat) : CF s (fun j => f (k j)) := by
  obtain ⟨d, h1, h2⟩ := h
  exact ⟨d, h1, h2.pos, fun j => h2.num (k j)⟩

theorem CF.pick {s : Nat} {f : Nat → Rat} (h : CF s f) (p : Nat → Bool) : CF s (fun j => if p j = true then f j else 0) := by
  obtain ⟨d, h1, h2⟩ := h
  have := two_pow_pos s
  refine ⟨d, h1, h2.pos, fun j => ?_⟩
  by_cases hp : p j = true
  · rw [if_pos hp]; exact h2.num j
  · rw [if_neg hp]; exact ⟨0, by omega, by omega, by rw [Rat.zero_mul]; rfl⟩

theorem CF.zero (s : Nat) : CF s (fun _ => 0) := by
  have := two_pow_pos s
  exact ⟨1, by omega, by omega, fun j => ⟨0, by omega, by omega, by rw [Rat.zero_mul]; rfl⟩⟩

theorem abs_mul_le {a b M N : Int} (h1 : -M ≤ a) (h2 : a ≤ M) (h3 : -N ≤ b) (h4 : b ≤ N) : -(M * N) ≤ a * b ∧ a * b ≤ M * N := by
  have e1 : 0 ≤ (M - a) * (N - b) := Int.mul_nonneg (by omega) (by omega)
  have e2 : 0 ≤ (M + a) * (N + b) := Int.mul_nonneg (by omega) (by omega)
  have e3 : 0 ≤ (M - a) * (N + b) := Int.mul_nonneg (by omega) (by omega)
  have e4 : 0 ≤ (M + a) * (N - b) := Int.mul_nonneg (by omega) (by omega)
  constructor <;> grind

theorem CF.add {s t : Nat} {f g : Nat → Rat} (hf : CF s f) (hg : CF t g) : CF (s + t + 1) (fun j => f j + g j) := by
  obtain ⟨d, h1, h2⟩ := hf
  obtain ⟨e, h3, h4⟩ := hg
  have p1 := two_pow_pos s
  have p2 := two_pow_pos t
  have hd := h2.pos
  have he := h4.pos
  have e1 : (2 : Int) ^ (s + t + 1) = 2 * (2 ^ s * 2 ^ t) := by rw [Int.pow_succ, Int.pow_add]; omega
  rw [CF, e1]
  have b0 := abs_mul_le (a := d) (b := e) (M := 2 ^ s) (N := 2 ^ t) (by omega) (by omega) (by omega) (by omega)
  have bp : 0 < d * e := Int.mul_pos hd he
  refine ⟨d * e, by omega, bp, fun j => ?_⟩
  obtain ⟨n, n1, n2, n3⟩ := h2.num j
  obtain ⟨m, m1, m2, m3⟩ := h4.num j
  have b1 := abs_mul_le (a := n) (b := e) (M := 2 ^ s) (N := 2 ^ t) (by omega) (by omega) (by omega) (by omega)
  have b2 := abs_mul_le (a := d) (b := m) (M := 2 ^ s) (N := 2 ^ t) (by omega) (by omega) (by omega) (by omega)
  refine ⟨n * e + d * m, by omega, by omega, ?_⟩
  rw [Rat.intCast_add, Rat.intCast_mul, Rat.intCast_mul, Rat.intCast_mul, ← n3, ← m3]
  grind

theorem CF.neg {s : Nat} {f : Nat → Rat} (hf : CF s f) : CF s (fun j => -f j) := by
  obtain ⟨d, h1, h2⟩ := hf
  refine ⟨d, h1, h2.pos, fun j => ?_⟩
  obtain ⟨n, n1, n2, n3⟩ := h2.num j
  refine ⟨-n, by omega, by omega, ?_⟩
  rw [Rat.intCast_neg, ← n3]; grind

theorem CF.whole {n : Int} {s : Nat} (h1 : -2 ^ s ≤ n) (h2 : n ≤ 2 ^ s) : CF s (fun _ => (n : Rat)) := by
  have := two_pow_pos s
  exact ⟨1, by omega, by omega, fun j => ⟨n, h1, h2, by show (n : Rat) * 1 = n; rw [Rat.mul_one]⟩⟩

/-- Numbers with whole weights. -/
theorem CF.wt {s t : Nat} {f : Nat → Rat} (hf : CF s f) (c : Nat → Int) (hc : ∀ j, f j = 0 ∨ (-2 ^ t ≤ c j ∧ c j ≤ 2 ^ t)) : CF (s + t) (fun j => (c j : Rat) * f j) := by
  obtain ⟨d, h1, h2⟩ := hf
  have p1 := two_pow_pos s
  have p2 := two_pow_pos t
  have hd := h2.pos
  have b0 := abs_mul_le (a := d) (b := 1) (M := 2 ^ s) (N := 2 ^ t) (by omega) (by omega) (by omega) (by omega)
  rw [CF, Int.pow_add]
  refine ⟨d, by omega, hd, fun j => ?_⟩
  obtain ⟨n, n1, n2, n3⟩ := h2.num j
  rcases hc j with h | ⟨h3, h4⟩
  · refine ⟨0, by omega, by omega, ?_⟩
    show (c j : Rat) * f j * _ = _
    rw [h, Rat.mul_zero, Rat.zero_mul]; rfl
  · have b1 := abs_mul_le (a := n) (b := c j) (M := 2 ^ s) (N := 2 ^ t) (by omega) (by omega) h3 h4
    refine ⟨n * c j, b1.1, b1.2, ?_⟩
    rw [Rat.intCast_mul, ← n3]
    grind

/-- Size of one of them. -/
theorem CF.nd {s : Nat} {f : Nat → Rat} (hf : CF s f) (j : Nat) : ((f j).num.natAbs : Int) ≤ 2 ^ s ∧ ((f j).den : Int) ≤ 2 ^ s := by
  obtain ⟨d, h1, h2⟩ := hf
  obtain ⟨n, n1, n2, n3⟩ := h2.num j
  obtain ⟨q1, q2⟩ := nd_of h2.pos n3
  exact ⟨by omega, by omega⟩
theorem CF.of_nd {s : Nat} {q : Rat} (h1 : (q.num.natAbs : Int) ≤ 2 ^ s) (h2 : (q.den : Int) ≤ 2 ^ s) : CF s (fun _ => q) := by
  have := q.den_pos
  refine ⟨q.den, h2, by omega, fun j => ⟨q.num, by omega, by omega, ?_⟩⟩
  have hd0 : ((q.den : Int) : Rat) ≠ 0 := fun h => by rw [Rat.intCast_eq_zero_iff] at h; omega
  have := Rat.num_divInt_den q
  rw [Rat.divInt_eq_div] at this
  have h3 : (q.num : Rat) / ((q.den : Int) : Rat) * ((q.den : Int) : Rat) = (q.num : Rat) := Rat.div_mul_cancel hd0
  rwa [this] at h3
/-- A list whose numbers are small one by one. -/
theorem CF.list {s : Nat} : ∀ (P : List Rat), (∀ q ∈ P, CF s (fun _ => q)) → CF (P.length * s) (fun j => P.getD j 0)
  | [], _ => (CF.zero _).congr fun j => by simp
  | q :: P, h => by
    have ih := CF.list P fun p hp => h p (List.mem_cons_of_mem _ hp)
    obtain ⟨d, h1, h2⟩ := h q (List.mem_cons_self ..)
    obtain ⟨e, h3, h4⟩ := ih
    obtain ⟨m, m1, m2, m3⟩ := h2.num 0
    have p1 := two_pow_pos s
    have p2 := two_pow_pos (P.length * s)
    have hd := h2.pos
    have he := h4.pos
    have b0 := abs_mul_le (a := e) (b := d) (M := 2 ^ (P.length * s)) (N := 2 ^ s) (by omega) (by omega) (by omega) (by omega)
    have b1 := abs_mul_le (a := e) (b := m) (M := 2 ^ (P.length * s)) (N := 2 ^ s) (by omega) (by omega) (by omega) (by omega)
    have bp : 0 < e * d := Int.mul_pos he hd
    rw [List.length_cons, Nat.succ_mul, CF, Int.pow_add]
    refine ⟨e * d, b0.2, bp, fun j => ?_⟩
    cases j with
    | zero =>
      refine ⟨e * m, b1.1, b1.2, ?_⟩
      rw [List.getD_cons_zero, Rat.intCast_mul, Rat.intCast_mul, ← m3]; grind
    | succ j =>
      obtain ⟨n, n1, n2, n3⟩ := h4.num j
      have b2 := abs_mul_le (a := n) (b := d) (M := 2 ^ (P.length * s)) (N := 2 ^ s) (by omega) (by omega) (by omega) (by omega)
      refine ⟨n * d, b2.1, b2.2, ?_⟩
      rw [List.getD_cons_succ, Rat.intCast_mul, Rat.intCast_mul, ← n3]; grind

/-- The coefficient of x^j of a product, the first i coefficients of the first factor used. -/
def cnv (f g : Nat → Rat) (j : Nat) : Nat → Rat
  | 0 => 0
  | i + 1 => cnv f g j i + if i ≤ j then f i * g (j - i) else 0

theorem CF.prod {s t l : Nat} {f g : Nat → Rat} (hf : CF s f) (hg : CF t g) {i : Nat} (hi : i ≤ 2 ^ l) : CF (s + t + l) (fun j => cnv f g j i) := by
  obtain ⟨d, h1, h2⟩ := hf
  obtain ⟨e, h3, h4⟩ := hg
  have p1 := two_pow_pos s
  have p2 := two_pow_pos t
  have p3 := two_pow_pos l
  have hd := h2.pos
  have he := h4.pos
  have b0 := abs_mul_le (a := d) (b := e) (M := 2 ^ s) (N := 2 ^ t) (by omega) (by omega) (by omega) (by omega)
  have bp : 0 < d * e := Int.mul_pos hd he
  have hk : ∀ (j k : Nat), ∃ n : Int, -((k : Int) * (2 ^ s * 2 ^ t)) ≤ n ∧ n ≤ (k : Int) * (2 ^ s * 2 ^ t) ∧ cnv f g j k * ((d * e : Int) : Rat) = (n : Rat) := fun j k => by
    induction k with
    | zero => exact ⟨0, by simp, by simp, by show 0 * _ = (0 : Rat); rw [Rat.zero_mul]⟩
    | succ k ih =>
      obtain ⟨n, n1, n2, n3⟩ := ih
      have e1 : ((k + 1 : Nat) : Int) * (2 ^ s * 2 ^ t) = (k : Int) * (2 ^ s * 2 ^ t) + 2 ^ s * 2 ^ t := by push_cast; grind
      have e2 : (0 : Int) ≤ 2 ^ s * 2 ^ t := Int.mul_nonneg (by omega) (by omega)
      rw [e1]
      by_cases hkj : k ≤ j
      · obtain ⟨x, x1, x2, x3⟩ := h2.num k
        obtain ⟨y, y1, y2, y3⟩ := h4.num (j - k)
        have b1 := abs_mul_le x1 x2 y1 y2
        refine ⟨n + x * y, by omega, by omega, ?_⟩
        unfold cnv
        rw [if_pos hkj, Rat.intCast_add, ← n3, Rat.intCast_mul, Rat.intCast_mul, ← x3, ← y3]; grind
      · refine ⟨n, by omega, by omega, ?_⟩
        unfold cnv
        rw [if_neg hkj, Rat.add_zero, n3]
  have hl : (i : Int) ≤ 2 ^ l := by exact_mod_cast hi
  have hle : (i : Int) * (2 ^ s * 2 ^ t) ≤ 2 ^ l * (2 ^ s * 2 ^ t) := Int.mul_le_mul_of_nonneg_right hl (Int.mul_nonneg (by omega) (by omega))
  have h1l : 1 * (2 ^ s * 2 ^ t) ≤ (2 : Int) ^ l * (2 ^ s * 2 ^ t) := Int.mul_le_mul_of_nonneg_right (by omega) (Int.mul_nonneg (by omega) (by omega))
  have e0 : (2 : Int) ^ (s + t + l) = 2 ^ l * (2 ^ s * 2 ^ t) := by rw [Int.pow_add, Int.pow_add]; grind
  rw [CF, e0]
  refine ⟨d * e, by omega, bp, fun j => ?_⟩
  obtain ⟨n, n1, n2, n3⟩ := hk j i
  exact ⟨n, by omega, by omega, n3⟩

/-- Two rows of numbers with the same denominator. -/
def CF2 (s : Nat) (f g : Nat → Rat) : Prop := ∃ d : Int, d ≤ 2 ^ s ∧ CD (2 ^ s) d f ∧ CD (2 ^ s) d g
theorem CF2.mono {s t : Nat} {f g : Nat → Rat} (h : CF2 s f g) (hst : s ≤ t) : CF2 t f g := by
  obtain ⟨d, h1, h2, h3⟩ := h
  have := two_pow_mono hst
  exact ⟨d, by omega, h2.mono this, h3.mono this⟩
theorem CF2.left {s : Nat} {f g : Nat → Rat} (h : CF2 s f g) : CF s f := by obtain ⟨d, h1, h2, h3⟩ := h; exact ⟨d, h1, h2⟩
theorem CF2.right {s : Nat} {f g : Nat → Rat} (h : CF2 s f g) : CF s g := by obtain ⟨d, h1, h2, h3⟩ := h; exact ⟨d, h1, h3⟩

/-- One round of a long division. -/
theorem CF2.round {s t : Nat} {f g b : Nat → Rat} {v : Rat} {n : Nat} (h : CF2 s f g) (hb : CF t b) (hv : b n * v = 1) (top i : Nat) :
    CF2 (s + t + 1) (fun j => f j + if i ≤ j then -(f top * v) * b (j - i) else 0) (fun j => if j = i then f top * v else g j) := by
  obtain ⟨d, h1, h2, h3⟩ := h
  obtain ⟨e, h4, h5⟩ := hb
  obtain ⟨m, m1, m2, m3⟩ := h5.num n
  have hd := h2.pos
  have he := h5.pos
  have p1 := two_pow_pos s
  have p2 := two_pow_pos t
  have he0 : (e : Rat) ≠ 0 := fun h => by rw [Rat.intCast_eq_zero_iff] at h; omega
  have hm0 : m ≠ 0 := fun h => by
    rw [h] at m3
    rcases Rat.mul_eq_zero.1 (show b n * (e : Rat) = 0 from m3) with h' | h'
    · rw [h', Rat.zero_mul] at hv; exact absurd hv (by decide)
    · exact he0 h'
  have e1 : (2 : Int) ^ (s + t + 1) = 2 * (2 ^ s * 2 ^ t) := by rw [Int.pow_succ, Int.pow_add]; omega
  have e2 : (0 : Int) ≤ 2 ^ s * 2 ^ t := Int.mul_nonneg (by omega) (by omega)
  -- with the sign of m
  have hs : ∃ (w : Int) (y : Nat → Int), 0 < w ∧ w ≤ 2 ^ t ∧ (∀ j, -2 ^ t ≤ y j ∧ y j ≤ 2 ^ t ∧ v * b j * (w : Rat) = (y j : Rat)) ∧ ∃ z : Int, -2 ^ t ≤ z ∧ z ≤ 2 ^ t ∧ v * (w : Rat) = (z : Rat) := by
    have hvm : v * (m : Rat) = (e : Rat) := by rw [← m3]; grind
    have hj : ∀ j, ∃ x : Int, -2 ^ t ≤ x ∧ x ≤ 2 ^ t ∧ v * b j * (m : Rat) = (x : Rat) := fun j => by
      obtain ⟨x, x1, x2, x3⟩ := h5.num j
      refine ⟨x, x1, x2, ?_⟩
      rw [← x3, ← hvm]; grind
    rcases Int.lt_or_le m 0 with hm | hm
    · refine ⟨-m, fun j => -(hj j).choose, by omega, by omega, fun j => ?_, -e, by omega, by omega, ?_⟩
      · obtain ⟨x1, x2, x3⟩ := (hj j).choose_spec
        show -2 ^ t ≤ -(hj j).choose ∧ -(hj j).choose ≤ 2 ^ t ∧ v * b j * ((-m : Int) : Rat) = ((-(hj j).choose : Int) : Rat)
        refine ⟨by omega, by omega, ?_⟩
        rw [Rat.intCast_neg, Rat.intCast_neg, ← x3]; grind
      · rw [Rat.intCast_neg, Rat.intCast_neg, ← hvm]; grind
    · exact ⟨m, fun j => (hj j).choose, by omega, by omega, fun j => (hj j).choose_spec, e, by omega, by omega, hvm⟩
  obtain ⟨w, y, w1, w2, hy, z, z1, z2, z3⟩ := hs
  obtain ⟨x, x1, x2, x3⟩ := h2.num top
  have bp : 0 < d * w := Int.mul_pos hd w1
  have b0 := abs_mul_le (a := d) (b := w) (M := 2 ^ s) (N := 2 ^ t) (by omega) (by omega) (by omega) (by omega)
  rw [CF2, e1]
  refine ⟨d * w, by omega, ⟨bp, fun j => ?_⟩, ⟨bp, fun j => ?_⟩⟩
  · obtain ⟨a, a1, a2, a3⟩ := h2.num j
    have b1 := abs_mul_le (a := a) (b := w) a1 a2 (N := 2 ^ t) (by omega) (by omega)
    by_cases hij : i ≤ j
    · obtain ⟨y1, y2, y3⟩ := hy (j - i)
      have b2 := abs_mul_le x1 x2 y1 y2
      refine ⟨a * w - x * y (j - i), by omega, by omega, ?_⟩
      rw [if_pos hij, Rat.intCast_sub, Rat.intCast_mul, Rat.intCast_mul, Rat.intCast_mul, ← a3, ← x3, ← y3]; grind
    · refine ⟨a * w, by omega, by omega, ?_⟩
      rw [if_neg hij, Rat.intCast_mul, Rat.intCast_mul, ← a3]; grind
  · by_cases hij : j = i
    · have b2 := abs_mul_le x1 x2 z1 z2
      refine ⟨x * z, by omega, by omega, ?_⟩
      rw [if_pos hij, Rat.intCast_mul, Rat.intCast_mul, ← x3, ← z3]; grind
    · obtain ⟨a, a1, a2, a3⟩ := h3.num j
      have b1 := abs_mul_le (a := a) (b := w) a1 a2 (N := 2 ^ t) (by omega) (by omega)
      refine ⟨a * w, by omega, by omega, ?_⟩
      rw [if_neg hij, Rat.intCast_mul, Rat.intCast_mul, ← a3]; grind
end Go.Abs
end

section
set_option linter.unusedVariables false
set_option linter.unusedSimpArgs false
set_option maxHeartbeats 8000000
set_option linter.unusedVariables false
set_option linter.unusedSimpArgs false
set_option maxRecDepth 100000
namespace Go.Proofs.YtdhidmcjglokcaaGreat
open Go Go.Abs Go.Abs.M Go.Proofs

theorem bits_words (s : Nat) : (2 : Int) ^ s < 4294967296 ^ (s / 32 + 1) := by
  obtain ⟨t, ht⟩ : ∃ t, t = 32 * (s / 32 + 1) := ⟨_, rfl⟩
  have h1 : (2 : Nat) ^ s < 2 ^ t := Nat.pow_lt_pow_right (by omega) (by omega)
  have h2 : (2 : Int) ^ s < 2 ^ t := by exact_mod_cast h1
  rw [ht, Int.pow_mul, show ((2 : Int) ^ 32) = 4294967296 from by decide] at h2
  exact h2

theorem int_pow_mono {b : Int} (hb : 1 ≤ b) {m k : Nat} (h : m ≤ k) : b ^ m ≤ b ^ k := by
  induction k with
  | zero => rw [Nat.le_zero.1 h]; omega
  | succ k ih =>
    rcases Nat.lt_or_ge k m with h1 | h1
    · rw [show m = k + 1 by omega]; omega
    · have h2 := ih h1
      have h3 : (0 : Int) ≤ b ^ k := Int.le_of_lt (Int.pow_pos (by omega))
      have h4 : b ^ k * 1 ≤ b ^ k * b := Int.mul_le_mul_of_nonneg_left hb h3
      rw [Int.pow_succ]; omega

theorem cf_qs {s : Nat} {f : Nat → Rat} (h : CF s f) (j : Nat) : Qs (f j) (s / 32 + 1) := by
  obtain ⟨h1, h2⟩ := h.nd j
  have := bits_words s
  exact ⟨nl_le_of (by omega), nl_le_of (by omega)⟩

theorem cf_qsl {s : Nat} {P : List Rat} (h : CF s (fun j => P.getD j 0)) : ∀ q ∈ P, Qs q (s / 32 + 1) := fun q hq => by
  obtain ⟨j, hj⟩ := List.getElem?_of_mem hq
  have := cf_qs h j
  rw [List.getD_eq_getElem?_getD, hj] at this
  exact this

theorem cf_of_qs {k : Nat} {q : Rat} (h : Qs q k) : CF (32 * k) (fun _ => q) := by
  have e : (2 : Int) ^ (32 * k) = 4294967296 ^ k := by rw [Int.pow_mul, show ((2 : Int) ^ 32) = 4294967296 from by decide]
  have hm : ∀ m, nl m ≤ k → (m : Int) ≤ 2 ^ (32 * k) := fun m hm => by
    have h1 := lt_nl m
    have h3 : (4294967296 : Int) ^ nl m ≤ 4294967296 ^ k := int_pow_mono (by omega) hm
    omega
  exact CF.of_nd (hm _ h.1) (hm _ h.2)

theorem csum_cnv (P B : List Rat) (j : Nat) : ∀ i, csum P B j i = cnv (fun k => P.getD k 0) (fun k => B.getD k 0) j i
  | 0 => rfl
  | i + 1 => by unfold csum cnv; rw [csum_cnv P B j i]

theorem pmul_get (P B : List Rat) (j : Nat) : (pmul P B).getD j 0 = csum P B j P.length := by
  unfold pmul
  rw [pmulL_get (by simp; omega) _ _ (Nat.le_refl _), List.getD_eq_getElem?_getD, List.getElem?_replicate]
  split <;> simp [Rat.zero_add]

/-- P is the list of the polynomial f: trimmed, at most n coefficients, a common denominator, s bits. -/
structure PB (f : Rat → Rat) (n s : Nat) (P : List Rat) : Prop where
  tr : ptrim P = P
  ev : ∀ x, Abs.ev P x = f x
  len : P.length ≤ n
  cf : CF s (fun j => P.getD j 0)

theorem PB.pl {f : Rat → Rat} {n s : Nat} {P : List Rat} (h : PB f n s P) : PL f n (s / 32 + 1) P := ⟨h.tr, h.ev, h.len, cf_qsl h.cf⟩
theorem PB.mono {f : Rat → Rat} {n s m t : Nat} {P : List Rat} (h : PB f n s P) (h1 : n ≤ m) (h2 : s ≤ t) : PB f m t P := ⟨h.tr, h.ev, Nat.le_trans h.len h1, h.cf.mono h2⟩
theorem PB.congr {f g : Rat → Rat} {n s : Nat} {P : List Rat} (h : PB f n s P) (e : ∀ x, f x = g x) : PB g n s P := ⟨h.tr, fun x => by rw [h.ev, e], h.len, h.cf⟩
theorem PB.of_pl {f : Rat → Rat} {n k s : Nat} {P L : List Rat} (h : PL f n k P) (hL : ∀ x, Abs.ev L x = f x) (hc : CF s (fun j => L.getD j 0)) : PB f n s P :=
  ⟨h.tr, h.ev, h.len, hc.congr fun j => (ev_coef (fun x => by rw [hL, h.ev]) j)⟩
theorem PB.of_trim {f : Rat → Rat} {n s : Nat} {P : List Rat} (h1 : ∀ x, Abs.ev P x = f x) (h2 : P.length ≤ n) (h3 : CF s (fun j => P.getD j 0)) : PB f n s (ptrim P) :=
  ⟨ptrim_idem P, fun x => by rw [ev_trim, h1], Nat.le_trans (ptrim_len P) h2, h3.congr fun j => (ptrim_get P j).symm⟩
theorem PB.of_pl_any {f : Rat → Rat} {n k : Nat} {P : List Rat} (h : PL f n k P) : PB f n (n * (32 * k)) P :=
  ⟨h.tr, h.ev, h.len, (CF.list P fun q hq => cf_of_qs (h.sz q hq)).mono (Nat.mul_le_mul_right _ h.len)⟩

theorem pb_add {f g : Rat → Rat} {n m s t : Nat} {P B : List Rat} (hP : PB f n s P) (hB : PB g m t B) (hn : n ≤ 1000) (hm : m ≤ 1000) (hs : s + t ≤ 2000000000) :
    ∃ R, PB (fun x => f x + g x) (max n m) (s + t + 1) R ∧ ACall Tryz.prog 16 [.val (tl (ur P)), .val (tl (ur B))] ⟨[.val (tl (ur R))], [none, none]⟩ := by
  obtain ⟨R, hR, c⟩ := pl_add hP.pl hB.pl (by omega) hn hm (by omega)
  refine ⟨R, PB.of_pl (L := pshift P 1 B 0) hR (fun x => ?_) ((hP.cf.add hB.cf).congr fun j => ?_), c⟩
  · rw [ev_shift, hP.ev, hB.ev]; grind
  · rw [pshift_get, if_pos (Nat.zero_le _), Nat.sub_zero, Rat.one_mul]

theorem pb_sub {f g : Rat → Rat} {n m s t : Nat} {P B : List Rat} (hP : PB f n s P) (hB : PB g m t B) (hn : n ≤ 1000) (hm : m ≤ 1000) (hs : s + t ≤ 2000000000) :
    ∃ R, PB (fun x => f x - g x) (max n m) (s + t + 1) R ∧ ACall Tryz.prog 18 [.val (tl (ur P)), .val (tl (ur B))] ⟨[.val (tl (ur R))], [none, none]⟩ := by
  obtain ⟨R, hR, c⟩ := pl_sub hP.pl hB.pl (by omega) hn hm (by omega)
  refine ⟨R, PB.of_pl (L := pshift P (-1) B 0) hR (fun x => ?_) ((hP.cf.add hB.cf.neg).congr fun j => ?_), c⟩
  · rw [ev_shift, hP.ev, hB.ev]; grind
  · rw [pshift_get, if_pos (Nat.zero_le _), Nat.sub_zero]; grind

theorem pb_mul {f g : Rat → Rat} {n m s t : Nat} (l : Nat) {P B : List Rat} (hP : PB f n s P) (hB : PB g m t B) (hl : n ≤ 2 ^ l) (hn : n + m ≤ 1000) (hs : s + t ≤ 2000000000) :
    ∃ R, PB (fun x => f x * g x) (n + m - 1) (s + t + l) R ∧ ACall Tryz.prog 17 [.val (tl (ur P)), .val (tl (ur B))] ⟨[.val (tl (ur R))], [none, none]⟩ := by
  obtain ⟨R, hR, c⟩ := pl_mul hP.pl hB.pl hn (by omega)
  refine ⟨R, PB.of_pl (L := pmul P B) hR (fun x => ?_) ((hP.cf.prod hB.cf (i := P.length) (Nat.le_trans hP.len hl)).congr fun j => ?_), c⟩
  · rw [ev_pmul, hP.ev, hB.ev]
  · rw [pmul_get, csum_cnv]

theorem PB.nil (s : Nat) : PB (fun _ => 0) 0 s [] := ⟨rfl, fun _ => rfl, Nat.le_refl _, (CF.zero s).congr fun j => by simp⟩
theorem PB.inj {f g : Rat → Rat} {n k m l : Nat} {P Q : List Rat} (h1 : PB f n k P) (h2 : PB g m l Q) (h : ∀ x, f x = g x) : P = Q := h1.pl.inj h2.pl h
end Go.Proofs.YtdhidmcjglokcaaGreat
end

section
set_option linter.unusedVariables false
set_option linter.unusedSimpArgs false
set_option maxHeartbeats 8000000
set_option linter.unusedVariables false
set_option linter.unusedSimpArgs false
set_option maxRecDepth 100000
namespace Go.Proofs.YtdhidmcjglokcaaGreat
open Go Go.Abs Go.Abs.M Go.Proofs

end Go.Proofs.YtdhidmcjglokcaaGreat
end

section
set_option linter.unusedVariables false
set_option linter.unusedSimpArgs false
set_option maxHeartbeats 8000000
set_option linter.unusedVariables false
set_option linter.unusedSimpArgs false
set_option maxRecDepth 100000
namespace Go.Proofs.YtdhidmcjglokcaaGreat
open Go Go.Abs Go.Abs.M Go.Proofs

/-! Division, divisors: lists of coefficients, compared by their values. -/

theorem qs_any : ∀ P : List Rat, ∃ k, ∀ q ∈ P, Qs q k
  | [] => ⟨0, fun q hq => by cases hq⟩
  | p :: P => by
    obtain ⟨k, hk⟩ := qs_any P
    refine ⟨k + nl p.num.natAbs + nl p.den, fun q hq => ?_⟩
    rcases List.mem_cons.1 hq with h | h
    · subst h; exact ⟨by omega, by omega⟩
    · exact (hk q h).mono (by omega)

theorem PL.any {P : List Rat} (h : ptrim P = P) : ∃ k, PL (Abs.ev P) P.length k P := by
  obtain ⟨k, hk⟩ := qs_any P
  exact ⟨k, h, fun _ => rfl, Nat.le_refl _, hk⟩

theorem tr_inj {P Q : List Rat} (hP : ptrim P = P) (hQ : ptrim Q = Q) (h : ∀ x, Abs.ev P x = Abs.ev Q x) : P = Q := by
  obtain ⟨k, h1⟩ := PL.any hP
  obtain ⟨l, h2⟩ := PL.any hQ
  exact h1.inj h2 h

theorem tr_nil {P : List Rat} (hP : ptrim P = P) (h : ∀ x, Abs.ev P x = 0) : P = [] := tr_inj hP (Q := []) rfl h

theorem tr_len {P B R : List Rat} (hP : ptrim P = P) (hB : ptrim B = B) (hR : ptrim R = R) (he : ∀ x, Abs.ev R x = Abs.ev P x * Abs.ev B x) (h1 : P ≠ []) (h2 : B ≠ []) : R.length + 1 = P.length + B.length := by
  obtain ⟨k, p1⟩ := PL.any hP
  obtain ⟨l, p2⟩ := PL.any hB
  obtain ⟨m, p3⟩ := PL.any hR
  have := PL.mul_len p1 p2 p3 he h1 h2
  have l1 : P.length ≠ 0 := fun h => h1 (List.length_eq_zero_iff.1 h)
  have l2 : B.length ≠ 0 := fun h => h2 (List.length_eq_zero_iff.1 h)
  omega

/-- Quotient and remainder are the only ones. -/
theorem div_uniq {B Q R Q' R' : List Rat} (hQ : ptrim Q = Q) (hR : ptrim R = R) (hQ' : ptrim Q' = Q') (hR' : ptrim R' = R') (hB : ptrim B = B) (h1 : R.length < B.length) (h2 : R'.length < B.length)
    (h : ∀ x, Abs.ev Q x * Abs.ev B x + Abs.ev R x = Abs.ev Q' x * Abs.ev B x + Abs.ev R' x) : Q = Q' ∧ R = R' := by
  have hB0 : B ≠ [] := fun h0 => by rw [h0] at h1; simp at h1
  have e1 : ∀ x, Abs.ev (ptrim (ladd Q (lsc (-1) Q'))) x * Abs.ev B x = Abs.ev (ptrim (pshift R' (-1) R 0)) x := fun x => by
    rw [ev_trim, ev_trim, ev_ladd, ev_lsc, ev_shift]; have := h x; grind
  have hz : ptrim (ladd Q (lsc (-1) Q')) = [] := by
    rcases Classical.em (ptrim (ladd Q (lsc (-1) Q')) = []) with h0 | h0
    · exact h0
    · have := tr_len (ptrim_idem _) hB (ptrim_idem _) (fun x => (e1 x).symm) h0 hB0
      have l1 : (ptrim (ladd Q (lsc (-1) Q'))).length ≠ 0 := fun h => h0 (List.length_eq_zero_iff.1 h)
      have l2 := ptrim_len (pshift R' (-1) R 0)
      rw [pshift_len] at l2
      omega
  have e2 : ∀ x, Abs.ev Q x = Abs.ev Q' x := fun x => by
    have : Abs.ev (ptrim (ladd Q (lsc (-1) Q'))) x = 0 := by rw [hz]; rfl
    rw [ev_trim, ev_ladd, ev_lsc] at this
    grind
  refine ⟨tr_inj hQ hQ' e2, tr_inj hR hR' fun x => ?_⟩
  have := h x
  rw [e2 x] at this
  grind

/-- D divides A. -/
def Dv (D A : List Rat) : Prop := ∃ H : List Rat, ∀ x, Abs.ev A x = Abs.ev H x * Abs.ev D x

theorem Dv.refl (A : List Rat) : Dv A A := ⟨[1], fun x => by simp only [Abs.ev]; grind⟩
theorem Dv.trans {A B C : List Rat} (h1 : Dv A B) (h2 : Dv B C) : Dv A C := by
  obtain ⟨H, h1⟩ := h1
  obtain ⟨K, h2⟩ := h2
  exact ⟨lmul K H, fun x => by rw [h2, h1, ev_lmul]; grind⟩
theorem Dv.zero {D A : List Rat} (h : ∀ x, Abs.ev A x = 0) : Dv D A := ⟨[], fun x => by rw [h]; simp only [Abs.ev]; grind⟩
theorem Dv.congr {D A D' A' : List Rat} (h : Dv D A) (h1 : ∀ x, Abs.ev D x = Abs.ev D' x) (h2 : ∀ x, Abs.ev A x = Abs.ev A' x) : Dv D' A' := by
  obtain ⟨H, h⟩ := h
  exact ⟨H, fun x => by rw [← h2, h, h1]⟩
theorem Dv.len {D A : List Rat} (hD : ptrim D = D) (hA : ptrim A = A) (h : Dv D A) (h0 : A ≠ []) : D ≠ [] ∧ D.length ≤ A.length := by
  obtain ⟨H, h⟩ := h
  have hD0 : D ≠ [] := fun h1 => h0 (tr_nil hA fun x => by rw [h, h1]; simp only [Abs.ev]; grind)
  have hH0 : ptrim H ≠ [] := fun h1 => h0 (tr_nil hA fun x => by rw [h, ← ev_trim H, h1]; simp only [Abs.ev]; grind)
  have := tr_len (ptrim_idem H) hD hA (fun x => by rw [h, ev_trim]) hH0 hD0
  have l1 : (ptrim H).length ≠ 0 := fun h => hH0 (List.length_eq_zero_iff.1 h)
  exact ⟨hD0, by omega⟩

/-- A divisor leaves no rest. -/
theorem Dv.rest {P B Q R : List Rat} (hQ : ptrim Q = Q) (hR : ptrim R = R) (hB : ptrim B = B) (h1 : R.length < B.length) (h : ∀ x, Abs.ev P x = Abs.ev Q x * Abs.ev B x + Abs.ev R x) (hd : Dv B P) : R = [] := by
  obtain ⟨H, hH⟩ := hd
  exact (div_uniq hQ hR (ptrim_idem H) (R' := []) rfl hB h1 (by simp; omega) (fun x => by rw [← h, hH, ev_trim]; simp only [Abs.ev]; grind)).2

end Go.Proofs.YtdhidmcjglokcaaGreat
end

section
set_option linter.unusedVariables false
set_option linter.unusedSimpArgs false
set_option maxHeartbeats 8000000
set_option linter.unusedVariables false
set_option linter.unusedSimpArgs false
set_option maxRecDepth 100000
namespace Go.Proofs.YtdhidmcjglokcaaGreat
open Go Go.Abs Go.Abs.M Go.Proofs

/-- What R.Made makes. -/
theorem pb_made (xs : List RW) (hx : ∀ x ∈ xs, x.ok) (D : Nat) (hD2 : D ≤ 100) (hlx : xs.length < 9223372036854775808) :
    ∃ P, PB (Abs.ev P) (D + 1) ((D + 1) * (32 * 8)) P ∧ ACall Tryz.prog 15 [.val (tl (rwrows xs)), .val (ti .i64 (D : Int))] ⟨[.val (tl (ur P))], [none, none]⟩ := by
  obtain ⟨P, f, h, c⟩ := pl_made xs hx D hD2 hlx
  exact ⟨P, (PB.of_pl_any h).congr fun x => (h.ev x).symm, c⟩

theorem pb_valid {f : Rat → Rat} {n a : Nat} {P : List Rat} (hP : PB f n a P) (hn : n ≤ 1000) (ha : a ≤ 2000000000) :
    ACall Tryz.prog 14 [.val (tl (ur P))] ⟨[.val (tb true)], [none]⟩ := pl_valid hP.pl hn (by omega)

theorem pb_same {f g : Rat → Rat} {n m a b : Nat} {P B : List Rat} (hP : PB f n a P) (hB : PB g m b B) (h : ∀ x, f x = g x) (hn : n ≤ 1000) (hm : m ≤ 1000) (hs : a ≤ 2000000000) :
    ACall Tryz.prog 19 [.val (tl (ur P)), .val (tl (ur B))] ⟨[.val (tb true)], [none, none]⟩ := pl_same hP.pl hB.pl h hn hm (by omega)
end Go.Proofs.YtdhidmcjglokcaaGreat
end

section
set_option linter.unusedVariables false
set_option linter.unusedSimpArgs false
set_option maxHeartbeats 8000000
set_option linter.unusedVariables false
set_option linter.unusedSimpArgs false
set_option maxRecDepth 100000
namespace Go.Proofs.YtdhidmcjglokcaaGreat
open Go Go.Abs Go.Abs.M Go.Proofs

/-- Sizes (bits) of a composition's rounds: a = bits of the first polynomial, b = bits of the second, m its length. -/
def cmpB (m a b : Nat) : Nat → Nat
  | 0 => 0
  | j + 1 => cmpB m a b j + b + j * m + a + 1

def ucoSt (X Y : Abs.Rows) (cp : Bool) (R : Abs.Rows) (I : Int) : St := mkSt 25 [.c (.t (.lst false X)), .c (.t (.lst false Y)), .junk, .junk, .junk, .c (.t (.lst cp R)), vi .i64 I] [none, none]

theorem pb_trim1 (c : Rat) : ACall Tryz.prog 64 [.val (tl [(qc c).row])] ⟨[.val (tl (ur (ptrim [c])))], [none]⟩ := utrim2_call [c] (by simp)

theorem pb_compose {f g : Rat → Rat} {n m s t : Nat} {P B : List Rat} (hP : PB f n s P) (hB : PB g m t B) (hm1 : 1 ≤ m) (hnm : n * m + m ≤ 900) (hs : cmpB m s t n ≤ 1000000000) (hst : s + t ≤ 900000000) :
    ∃ R, PB (fun x => f (g x)) (n * m) (cmpB m s t n) R ∧ ACall Tryz.prog 44 [.val (tl (ur P)), .val (tl (ur B))] ⟨[.val (tl (ur R))], [none, none]⟩ := by
  have hmono : ∀ i j, i ≤ j → cmpB m s t i ≤ cmpB m s t j := fun i j hij => by
    induction j with
    | zero => rw [Nat.le_zero.1 hij]; exact Nat.le_refl _
    | succ j ih =>
      rcases Nat.lt_or_ge j i with h | h
      · rw [show i = j + 1 by omega]; exact Nat.le_refl _
      · have := ih h
        show _ ≤ cmpB m s t j + t + j * m + s + 1
        omega
  have hstep : ∀ (k : Nat) (R : List Rat), k < n → PB (fun x => Abs.ev (P.drop (P.length - k)) (g x)) (k * m) (cmpB m s t k) R → k < P.length → ∃ M C R', ACall Tryz.prog 17 [.val (tl (ur R)), .val (tl (ur B))] ⟨[.val (tl (ur M))], [none, none]⟩ ∧
      ACall Tryz.prog 64 [.val (tl [(qc (P.getD (P.length - (k + 1)) 0)).row])] ⟨[.val (tl (ur C))], [none]⟩ ∧ ACall Tryz.prog 16 [.val (tl (ur M)), .val (tl (ur C))] ⟨[.val (tl (ur R'))], [none, none]⟩ ∧ PB (fun x => Abs.ev (P.drop (P.length - (k + 1))) (g x)) ((k + 1) * m) (cmpB m s t (k + 1)) R' := fun k R hk hR hkP => by
    have e1 : (k + 1) * m = k * m + m := Nat.succ_mul k m
    have e2 : (k + 1) * m ≤ n * m := Nat.mul_le_mul_right _ hk
    have e3 := hmono k n (by omega)
    have e5 : cmpB m s t (k + 1) = cmpB m s t k + t + k * m + s + 1 := rfl
    obtain ⟨M, hM, cM⟩ := pb_mul (k * m) hR hB (Nat.le_of_lt Nat.lt_two_pow_self) (by omega) (by omega)
    have hC : PB (fun _ => P.getD (P.length - (k + 1)) 0) 1 s (ptrim [P.getD (P.length - (k + 1)) 0]) :=
      PB.of_trim (fun x => by simp only [Abs.ev]; grind) (Nat.le_refl 1) (((hP.cf.comp fun _ => P.length - (k + 1)).pick fun j => decide (j = 0)).congr fun j => by
        cases j with
        | zero => simp
        | succ j => simp)
    have e4 := hmono (k + 1) n (by omega)
    obtain ⟨R', hR', cA⟩ := pb_add hM hC (by omega) (by omega) (by omega)
    refine ⟨M, _, R', cM, pb_trim1 _, cA, (hR'.mono (by omega) (by omega)).congr fun x => ?_⟩
    have hd : P.drop (P.length - (k + 1)) = P.getD (P.length - (k + 1)) 0 :: P.drop (P.length - k) := by
      rw [List.drop_eq_getElem_cons (by omega), show P.length - (k + 1) + 1 = P.length - k by omega, List.getD_eq_getElem?_getD, List.getElem?_eq_getElem (by omega)]; rfl
    rw [hd]
    simp only [Abs.ev]; grind
  have hPn := hP.len
  have hnn : n ≤ n * m := Nat.le_mul_of_pos_right _ hm1
  have hgoal : ∀ R, PB (fun x => Abs.ev (P.drop (P.length - P.length)) (g x)) (P.length * m) (cmpB m s t P.length) R → PB (fun x => f (g x)) (n * m) (cmpB m s t n) R := fun R hR => by
    rw [Nat.sub_self, List.drop_zero] at hR
    exact (hR.mono (Nat.mul_le_mul_right _ hPn) (hmono _ _ hPn)).congr fun x => hP.ev _
  obtain ⟨d, hd⟩ : ∃ d, d = P.length := ⟨_, rfl⟩
  -- all rounds together: the list behind k rounds
  have hrun : ∀ k, k ≤ d → ∃ R, PB (fun x => Abs.ev (P.drop (P.length - k)) (g x)) (k * m) (cmpB m s t k) R := fun k => by
    induction k with
    | zero => exact fun _ => ⟨[], ⟨rfl, fun x => by rw [Nat.sub_zero, List.drop_length]; rfl, Nat.zero_le _, (CF.zero _).congr fun j => by simp⟩⟩
    | succ k ih =>
      intro hk
      obtain ⟨R, hR⟩ := ih (by omega)
      obtain ⟨_, _, R', _, _, _, h⟩ := hstep k R (by omega) hR (by omega)
      exact ⟨R', h⟩
  obtain ⟨F, hF0⟩ := hrun d (Nat.le_refl _)
  rw [hd] at hF0
  refine ⟨F, hgoal F hF0, ?_⟩
  obtain ⟨X, hX⟩ : ∃ Y, Y = ur P := ⟨_, rfl⟩
  obtain ⟨Y, hY⟩ : ∃ Y, Y = ur B := ⟨_, rfl⟩
  obtain ⟨T, hT⟩ : ∃ Y, Y = ur F := ⟨_, rfl⟩
  have hXl : X.length = d := by rw [hX, ur_len, hd]
  rw [← hX, ← hY, ← hT]
  clear hgoal hrun
  refine callZ ccOk mixed [.val] Tryz.func44 rfl rfl (by kernel_rfl) fun zwrap zadd zsub zmul zquo zrem zshl zshr zband zbor zbxor zbandn zeq zne zlt zle znot zbeq zbne zmax zmin znat zinb zofN zidx zneq znadd zdif zcut zroom zmkok zlen znth zsetr zisI zgetI zsetI zfit zpart zext zsetg zrep zwide zall zmok zmget zmset zW zth A L F hS hF => ?_
  have lx : zlen X = d := by rw [hS.len, hXl]
  obtain ⟨N, hN, hN2⟩ : ∃ N : Int, N + 1 = (d : Int) ∧ zwrap .i64 (zsub (zofN (zlen X)) 1) = N := ⟨(d : Int) - 1, by omega, by rw [hS.ofN, lx, hS.sub, hS.wrap, wrap_i64 (by omega) (by omega)]⟩
  cbv
  have hN : N + 1 = (d : Int) := hN
  refine loopZ ccOk mixed hS (fun (i : Nat) s' => ∃ (k : Nat) (I : Int) (cp : Bool) (R : List Rat) (Z : Abs.Rows), I + 1 = i ∧ i + k = d ∧ PB (fun x => Abs.ev (P.drop (P.length - k)) (g x)) (k * m) (cmpB m s t k) R ∧ Z = ur R ∧ s' = ucoSt X Y cp Z I) (n := d) (s0 := ucoSt X Y true [] N) (le_of ?_ ?_) rfl (by show 2 ≤ 2; omega) ?_ ?_
  · simp [leT, ucoSt, mkSt, vi, hN2]
  · simp [leH, ucoSt, mkSt]
  · exact ⟨0, N, true, [], [], hN, by omega, ⟨rfl, fun x => by rw [Nat.sub_zero, List.drop_length]; rfl, Nat.zero_le _, (CF.zero _).congr fun j => by simp⟩, rfl, rfl⟩
  · rintro i s1 ⟨k, I, cp, R, Z, hI, hik, hR, hZ, hs1⟩
    by_cases hi : i = 0
    · have l1 : zle 0 I = false := by rw [hS.le]; exact decide_eq_false (by omega)
      have hk : k = P.length := by omega
      rw [hk] at hR
      have hRF : Z = T := by rw [hZ, hT, hR.inj hF0 fun x => rfl]
      subst hRF
      subst hs1
      cbv
      refine bF l1 ?_
      exact fin1w hF (TLe.drop _ _)
    · have l1 : zle 0 I = true := by rw [hS.le]; exact decide_eq_true (by omega)
      obtain ⟨i', rfl⟩ : ∃ i', i = i' + 1 := ⟨i - 1, by omega⟩
      have hIi : I = (i' : Int) := by omega
      obtain ⟨M, C, R', cM, cC, cA, hR'⟩ := hstep k R (by omega) hR (by omega)
      rw [show P.length - (k + 1) = i' by omega] at cC
      obtain ⟨c, hc⟩ : ∃ c, c = P.getD i' 0 := ⟨_, rfl⟩
      have hPi : P[i']? = some c := by rw [hc, List.getD_eq_getElem?_getD, List.getElem?_eq_getElem (by omega)]; rfl
      have hXi : X[i']? = some (qc c).row := by rw [hX]; exact ur_get hPi
      rw [← hc] at cC
      rw [← hZ, ← hY] at cM
      obtain ⟨s2, t2, r2, p2, hrow2, _⟩ := qrow c
      rw [hrow2] at hXi cC
      obtain ⟨row, hrw⟩ : ∃ row, row = [Tree.v (.bool s2), .lst false r2, .v (.bool t2), .lst false p2] := ⟨_, rfl⟩
      have cM' : ACall Tryz.prog 17 [.val (.c (.lst cp Z)), .val (tl Y)] ⟨[.val (tl (ur M))], [none, none]⟩ :=
        ACall.weak (show ArgsLe [.val (.c (.lst cp Z)), .val (tl Y)] [.val (tl Z), .val (tl Y)] from ⟨TLe.drop _ _, show TVLe (tl Y) (tl Y) from TVLe.refl _, trivial⟩) (ResLe.refl _) cM
      have j1 : znat I = i' := by rw [hS.nat]; omega
      have n0 : zle 0 I = true := l1
      have j2 : znth X i' = some [.v (.bool s2), .lst false r2, .v (.bool t2), .lst false p2] := by rw [hS.nth]; exact hXi
      rw [← hrw] at cC
      have u0 : zpart [row] 0 1 = [row] := by rw [hS.part]; rfl
      have u1 : zfit 0 1 [row] = true := by rw [hS.fit]; rfl
      obtain ⟨I', hI', i1⟩ : ∃ I' : Int, I' + 1 = (i' : Int) ∧ zwrap .i64 (zsub I 1) = I' := ⟨I - 1, by omega, by rw [hS.sub, hS.wrap, wrap_i64 (by omega) (by omega)]⟩
      obtain ⟨Z', hZ'⟩ : ∃ Z', Z' = ur R' := ⟨_, rfl⟩
      rw [← hZ'] at cA
      have hmm : i' < i' + 1 := by omega
      have hnx : ∃ (k2 : Nat) (I2 : Int) (cp2 : Bool) (R2 : List Rat) (Z2 : Abs.Rows), I2 + 1 = (i' : Int) ∧ i' + k2 = d ∧ PB (fun x => Abs.ev (P.drop (P.length - k2)) (g x)) (k2 * m) (cmpB m s t k2) R2 ∧ Z2 = ur R2 ∧ ucoSt X Y false Z' I' = ucoSt X Y cp2 Z2 I2 := ⟨k + 1, I', false, R', Z', hI', by omega, hR', hZ', rfl⟩
      generalize ur M = UM at *
      generalize ur C = UC at *
      subst hs1
      cbv
      refine bT l1 ?_
      refine ⟨_, hS.call (cM'), ?_⟩
      cbv
      rw [j1, j2]
      cbv
      rw [← hrw]
      refine nd (n0) ?_
      refine nd (u1) ?_
      rw [u0]
      refine ⟨_, hS.call (cC), ?_⟩
      cbv
      refine ⟨_, hS.call (cA), ?_⟩
      cbv
      exact again (s' := ucoSt X Y false Z' I') (m := i') (by simp [leT, ucoSt, mkSt, vi, i1]) (by simp [leH, ucoSt, mkSt]) rfl (by show 2 ≤ 2; omega) hmm hnx
end Go.Proofs.YtdhidmcjglokcaaGreat
end

section
set_option linter.unusedVariables false
set_option linter.unusedSimpArgs false
set_option maxHeartbeats 8000000
set_option linter.unusedVariables false
set_option linter.unusedSimpArgs false
set_option maxRecDepth 100000
namespace Go.Proofs.YtdhidmcjglokcaaGreat
open Go Go.Abs Go.Abs.M Go.Proofs

theorem pb_derive {f : Rat → Rat} {n s : Nat} {P : List Rat} (hP : PB f n s P) (hn : n ≤ 1000) (hs : s ≤ 2000000000) :
    ∃ R, PB (evd P) (n - 1) (s + 10) R ∧ ACall Tryz.prog 31 [.val (tl (ur P))] ⟨[.val (tl (ur R))], [none]⟩ := by
  obtain ⟨R, hR, c⟩ := pl_derive hP.pl hn (by omega)
  refine ⟨R, PB.of_pl (L := pder P) hR (ev_pder P) (((hP.cf.comp (· + 1)).wt (t := 10) (fun j => ((j + 1 : Nat) : Int)) fun j => ?_).congr fun j => (pder_get P j).symm), c⟩
  have hl := hP.len
  by_cases h : j + 1 < P.length
  · right
    have : (2 : Int) ^ 10 = 1024 := by decide
    omega
  · left
    show P.getD (j + 1) 0 = 0
    rw [List.getD_eq_getElem?_getD, List.getElem?_eq_none (by omega)]; rfl

theorem pb_eval {f : Rat → Rat} {n s d : Nat} {P : List Rat} {x : Rat} (hP : PB f n s P) (hx : CF d (fun _ => x)) (hn : n ≤ 1000) (hs : s + d ≤ 2000000000) :
    Qs (f x) (1 + n * ((s / 32 + 1) + (d / 32 + 1) + 1)) ∧ ACall Tryz.prog 42 [.val (tl (ur P)), .val (.agg (qc x).row)] ⟨[.val (.agg (qc (f x)).row)], [none, none]⟩ := by
  have hl := hP.len
  obtain ⟨h1, h2⟩ := ueval_call P x (s / 32 + 1) (d / 32 + 1) (by omega) (cf_qsl hP.cf) (cf_qs hx 0) (by omega)
  rw [hP.ev] at h1 h2
  exact ⟨h1.mono (Nat.add_le_add_left (Nat.mul_le_mul_right _ hl) 1), h2⟩

theorem rqvalid_row {x : Rat} {a : Nat} (h : Qs x a) (ha : a ≤ 68719476736) : ACall Tryz.prog 48 [.val (.agg (qc x).row)] ⟨[.val (tb true)], [none]⟩ :=
  rqvalid_call true ⟨fun _ => qc_can x, fun _ => rfl⟩ (dg_wd _) (dg_wd _) (show nl x.num.natAbs ≤ _ from by have := h.1; omega) (show nl (x.den : Int).natAbs ≤ _ from by rw [Int.natAbs_natCast]; have := h.2; omega)

theorem pb_const {c : Rat} {k : Nat} (h : CF k (fun _ => c)) : ∃ R, PB (fun _ => c) 1 k R ∧ ACall Tryz.prog 51 [.val (.agg (qc c).row)] ⟨[.val (tl (ur R))], [none]⟩ :=
  ⟨_, PB.of_trim (P := [c]) (fun x => by simp only [Abs.ev]; grind) (Nat.le_refl 1) ((h.pick fun j => decide (j = 0)).congr fun j => by
        cases j with
        | zero => simp
        | succ j => simp), rconst_call c⟩
end Go.Proofs.YtdhidmcjglokcaaGreat
end

