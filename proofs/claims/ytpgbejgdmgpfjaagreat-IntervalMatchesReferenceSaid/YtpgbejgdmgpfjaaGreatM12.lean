/-
  A part of the proof: CfU, DvM24, EvlC24, PolT24, DmT24, EvlD24, EvlE24, IvlC24.
-/
import Derived.Test.YtpgbejgdmgpfjaaGreatM11
import Derived.Calls
import Derived.Laws.Cells
import Derived.Below
import Derived.ChangeKeysEq
import Derived.Laws.StructEq
import Derived.Laws.Small
import Derived.Laws.IdiomCopy
import Derived.Laws.BytesString
import Derived.Laws.Append
import Derived.Laws.Tables
import Derived.Great.BuildSlice
import Derived.IntWalk
import Derived.Orders
import Derived.Laws.BitsLemmas
import Derived.Test.YtpgbejgdmgpfjaaGreatProg

section
set_option linter.unusedVariables false
set_option linter.unusedSimpArgs false
/-
  Sizes of coefficients: a common denominator, numerators and denominator of at most s bits.
-/
set_option linter.unusedVariables false
namespace Go.Abs

theorem nd_of {q : Rat} {n d : Int} (hd : 0 < d) (h : q * (d : Rat) = (n : Rat)) : q.num.natAbs ≤ n.natAbs ∧ (q.den : Int) ≤ d := by
  have hd0 : (d : Rat) ≠ 0 := fun h0 => by rw [Rat.intCast_eq_zero_iff] at h0; omega
  have hq : Rat.divInt n d = q := by
    rw [Rat.divInt_eq_div, ← h, Rat.div_def, Rat.mul_assoc, Rat.mul_inv_cancel _ hd0, Rat.mul_one]
  obtain ⟨num, den, nz, red⟩ := q
  obtain ⟨m, hm0, h1, h2⟩ := Rat.divInt_num_den (by omega) hq
  have hm : 0 < m := by
    rcases Int.lt_trichotomy m 0 with h3 | h3 | h3
    · have : (den : Int) * m ≤ 0 := Int.mul_nonpos_of_nonneg_of_nonpos (by omega) (by omega)
      omega
    · exact absurd h3 hm0
    · exact h3
  refine ⟨?_, ?_⟩
  · show num.natAbs ≤ n.natAbs
    rw [h1, Int.natAbs_mul]
    exact Nat.le_mul_of_pos_right _ (by omega)
  · show (den : Int) ≤ d
    rw [h2]
    have : (den : Int) * 1 ≤ den * m := Int.mul_le_mul_of_nonneg_left (by omega) (by omega)
    omega

/-- Numbers with a common denominator. -/
structure CD (M d : Int) (f : Nat → Rat) : Prop where
  pos : 0 < d
  num : ∀ j, ∃ n : Int, -M ≤ n ∧ n ≤ M ∧ f j * (d : Rat) = (n : Rat)

def CF (s : Nat) (f : Nat → Rat) : Prop := ∃ d : Int, d ≤ 2 ^ s ∧ CD (2 ^ s) d f

theorem two_pow_mono {s t : Nat} (h : s ≤ t) : (2 : Int) ^ s ≤ 2 ^ t := by
  have := Nat.pow_le_pow_right (n := 2) (by omega) h
  exact_mod_cast this
theorem two_pow_pos (s : Nat) : (0 : Int) < 2 ^ s := by
  have := Nat.two_pow_pos s
  exact_mod_cast this

theorem CD.mono {M N d : Int} {f : Nat → Rat} (h : CD M d f) (hM : M ≤ N) : CD N d f :=
  ⟨h.pos, fun j => by obtain ⟨n, h1, h2, h3⟩ := h.num j; exact ⟨n, by omega, by omega, h3⟩⟩

theorem CF.mono {s t : Nat} {f : Nat → Rat} (h : CF s f) (hst : s ≤ t) : CF t f := by
  obtain ⟨d, h1, h2⟩ := h
  have := two_pow_mono hst
  exact ⟨d, by omega, h2.mono this⟩

theorem CF.congr {s : Nat} {f g : Nat → Rat} (h : CF s f) (e : ∀ j, f j = g j) : CF s g := by
  have : f = g := funext e
  exact this ▸ h

theorem CF.pick {s : Nat} {f : Nat → Rat} (h : CF s f) (p : Nat → Bool) : CF s (fun j => if p j = true then f j else 0) := by
  obtain ⟨d, h1, h2⟩ := h
  have := two_pow_pos s
  refine ⟨d, h1, h2.pos, fun j => ?_⟩
  by_cases hp : p j = true
  · rw [if_pos hp]; exact h2.num j
  · rw [if_neg hp]; exact ⟨0, by omega, by omega, by rw [Rat.zero_mul]; rfl⟩

theorem CF.zero (s : Nat) : CF s (fun _ => 0) := by
  have := two_pow_pos s
  exact ⟨1, by omega, by omega, fun j => ⟨0, by omega, by omega, by rw [Rat.zero_mul]; rfl⟩⟩

theorem abs_mul_le {a b M N : Int} (h1 : -M ≤ a) (h2 : a ≤ M) (h3 : -N ≤ b) (h4 : b ≤ N) : -(M * N) ≤ a * b ∧ a * b ≤ M * N := by
  have e1 : 0 ≤ (M - a) * (N - b) := Int.mul_nonneg (by omega) (by omega)
  have e2 : 0 ≤ (M + a) * (N + b) := Int.mul_nonneg (by omega) (by omega)
  have e3 : 0 ≤ (M - a) * (N + b) := Int.mul_nonneg (by omega) (by omega)
  have e4 : 0 ≤ (M + a) * (N - b) := Int.mul_nonneg (by omega) (by omega)
  constructor <;> grind

theorem CF.add {s t : Nat} {f g : Nat → Rat} (hf : CF s f) (hg : CF t g) : CF (s + t + 1) (fun j => f j + g j) := by
  obtain ⟨d, h1, h2⟩ := hf
  obtain ⟨e, h3, h4⟩ := hg
  have p1 := two_pow_pos s
  have p2 := two_pow_pos t
  have hd := h2.pos
  have he := h4.pos
  have e1 : (2 : Int) ^ (s + t + 1) = 2 * (2 ^ s * 2 ^ t) := by rw [Int.pow_succ, Int.pow_add]; omega
  rw [CF, e1]
  have b0 := abs_mul_le (a := d) (b := e) (M := 2 ^ s) (N := 2 ^ t) (by omega) (by omega) (by omega) (by omega)
  have bp : 0 < d * e := Int.mul_pos hd he
  refine ⟨d * e, by omega, bp, fun j => ?_⟩
  obtain ⟨n, n1, n2, n3⟩ := h2.num j
  obtain ⟨m, m1, m2, m3⟩ := h4.num j
  have b1 := abs_mul_le (a := n) (b := e) (M := 2 ^ s) (N := 2 ^ t) (by omega) (by omega) (by omega) (by omega)
  have b2 := abs_mul_le (a := d) (b := m) (M := 2 ^ s) (N := 2 ^ t) (by omega) (by omega) (by omega) (by omega)
  refine ⟨n * e + d * m, by omega, by omega, ?_⟩
  rw [Rat.intCast_add, Rat.intCast_mul, Rat.intCast_mul, Rat.intCast_mul, ← n3, ← m3]
  grind

theorem CF.neg {s : Nat} {f : Nat → Rat} (hf : CF s f) : CF s (fun j => -f j) := by
  obtain ⟨d, h1, h2⟩ := hf
  refine ⟨d, h1, h2.pos, fun j => ?_⟩
  obtain ⟨n, n1, n2, n3⟩ := h2.num j
  refine ⟨-n, by omega, by omega, ?_⟩
  rw [Rat.intCast_neg, ← n3]; grind

theorem CF.whole {n : Int} {s : Nat} (h1 : -2 ^ s ≤ n) (h2 : n ≤ 2 ^ s) : CF s (fun _ => (n : Rat)) := by
  have := two_pow_pos s
  exact ⟨1, by omega, by omega, fun j => ⟨n, h1, h2, by show (n : Rat) * 1 = n; rw [Rat.mul_one]⟩⟩

/-- Size of one of them. -/
theorem CF.nd {s : Nat} {f : Nat → Rat} (hf : CF s f) (j : Nat) : ((f j).num.natAbs : Int) ≤ 2 ^ s ∧ ((f j).den : Int) ≤ 2 ^ s := by
  obtain ⟨d, h1, h2⟩ := hf
  obtain ⟨n, n1, n2, n3⟩ := h2.num j
  obtain ⟨q1, q2⟩ := nd_of h2.pos n3
  exact ⟨by omega, by omega⟩
/-- Two rows of numbers with the same denominator. -/
def CF2 (s : Nat) (f g : Nat → Rat) : Prop := ∃ d : Int, d ≤ 2 ^ s ∧ CD (2 ^ s) d f ∧ CD (2 ^ s) d g
theorem CF2.mono {s t : Nat} {f g : Nat → Rat} (h : CF2 s f g) (hst : s ≤ t) : CF2 t f g := by
  obtain ⟨d, h1, h2, h3⟩ := h
  have := two_pow_mono hst
  exact ⟨d, by omega, h2.mono this, h3.mono this⟩
theorem CF2.left {s : Nat} {f g : Nat → Rat} (h : CF2 s f g) : CF s f := by obtain ⟨d, h1, h2, h3⟩ := h; exact ⟨d, h1, h2⟩
theorem CF2.right {s : Nat} {f g : Nat → Rat} (h : CF2 s f g) : CF s g := by obtain ⟨d, h1, h2, h3⟩ := h; exact ⟨d, h1, h3⟩

/-- One round of a long division. -/
theorem CF2.round {s t : Nat} {f g b : Nat → Rat} {v : Rat} {n : Nat} (h : CF2 s f g) (hb : CF t b) (hv : b n * v = 1) (top i : Nat) :
    CF2 (s + t + 1) (fun j => f j + if i ≤ j then -(f top * v) * b (j - i) else 0) (fun j => if j = i then f top * v else g j) := by
  obtain ⟨d, h1, h2, h3⟩ := h
  obtain ⟨e, h4, h5⟩ := hb
  obtain ⟨m, m1, m2, m3⟩ := h5.num n
  have hd := h2.pos
  have he := h5.pos
  have p1 := two_pow_pos s
  have p2 := two_pow_pos t
  have he0 : (e : Rat) ≠ 0 := fun h => by rw [Rat.intCast_eq_zero_iff] at h; omega
  have hm0 : m ≠ 0 := fun h => by
    rw [h] at m3
    rcases Rat.mul_eq_zero.1 (show b n * (e : Rat) = 0 from m3) with h' | h'
    · rw [h', Rat.zero_mul] at hv; exact absurd hv (by decide)
    · exact he0 h'
  have e1 : (2 : Int) ^ (s + t + 1) = 2 * (2 ^ s * 2 ^ t) := by rw [Int.pow_succ, Int.pow_add]; omega
  have e2 : (0 : Int) ≤ 2 ^ s * 2 ^ t := Int.mul_nonneg (by omega) (by omega)
  -- with the sign of m
  have hs : ∃ (w : Int) (y : Nat → Int), 0 < w ∧ w ≤ 2 ^ t ∧ (∀ j, -2 ^ t ≤ y j ∧ y j ≤ 2 ^ t ∧ v * b j * (w : Rat) = (y j : Rat)) ∧ ∃ z : Int, -2 ^ t ≤ z ∧ z ≤ 2 ^ t ∧ v * (w : Rat) = (z : Rat) := by
    have hvm : v * (m : Rat) = (e : Rat) := by rw [← m3]; grind
    have hj : ∀ j, ∃ x : Int, -2 ^ t ≤ x ∧ x ≤ 2 ^ t ∧ v * b j * (m : Rat) = (x : Rat) := fun j => by
      obtain ⟨x, x1, x2, x3⟩ := h5.num j
      refine ⟨x, x1, x2, ?_⟩
      rw [← x3, ← hvm]; grind
    rcases Int.lt_or_le m 0 with hm | hm
    · refine ⟨-m, fun j => -(hj j).choose, by omega, by omega, fun j => ?_, -e, by omega, by omega, ?_⟩
      · obtain ⟨x1, x2, x3⟩ := (hj j).choose_spec
        show -2 ^ t ≤ -(hj j).choose ∧ -(hj j).choose ≤ 2 ^ t ∧ v * b j * ((-m : Int) : Rat) = ((-(hj j).choose : Int) : Rat)
        refine ⟨by omega, by omega, ?_⟩
        rw [Rat.intCast_neg, Rat.intCast_neg, ← x3]; grind
      · rw [Rat.intCast_neg, Rat.intCast_neg, ← hvm]; grind
    · exact ⟨m, fun j => (hj j).choose, by omega, by omega, fun j => (hj j).choose_spec, e, by omega, by omega, hvm⟩
  obtain ⟨w, y, w1, w2, hy, z, z1, z2, z3⟩ := hs
  obtain ⟨x, x1, x2, x3⟩ := h2.num top
  have bp : 0 < d * w := Int.mul_pos hd w1
  have b0 := abs_mul_le (a := d) (b := w) (M := 2 ^ s) (N := 2 ^ t) (by omega) (by omega) (by omega) (by omega)
  rw [CF2, e1]
  refine ⟨d * w, by omega, ⟨bp, fun j => ?_⟩, ⟨bp, fun j => ?_⟩⟩
  · obtain ⟨a, a1, a2, a3⟩ := h2.num j
    have b1 := abs_mul_le (a := a) (b := w) a1 a2 (N := 2 ^ t) (by omega) (by omega)
    by_cases hij : i ≤ j
    · obtain ⟨y1, y2, y3⟩ := hy (j - i)
      have b2 := abs_mul_le x1 x2 y1 y2
      refine ⟨a * w - x * y (j - i), by omega, by omega, ?_⟩
      rw [if_pos hij, Rat.intCast_sub, Rat.intCast_mul, Rat.intCast_mul, Rat.intCast_mul, ← a3, ← x3, ← y3]; grind
    · refine ⟨a * w, by omega, by omega, ?_⟩
      rw [if_neg hij, Rat.intCast_mul, Rat.intCast_mul, ← a3]; grind
  · by_cases hij : j = i
    · have b2 := abs_mul_le x1 x2 z1 z2
      refine ⟨x * z, by omega, by omega, ?_⟩
      rw [if_pos hij, Rat.intCast_mul, Rat.intCast_mul, ← x3, ← z3]; grind
    · obtain ⟨a, a1, a2, a3⟩ := h3.num j
      have b1 := abs_mul_le (a := a) (b := w) a1 a2 (N := 2 ^ t) (by omega) (by omega)
      refine ⟨a * w, by omega, by omega, ?_⟩
      rw [if_neg hij, Rat.intCast_mul, Rat.intCast_mul, ← a3]; grind
end Go.Abs
end

section
set_option linter.unusedVariables false
set_option linter.unusedSimpArgs false
set_option maxHeartbeats 8000000
set_option linter.unusedVariables false
set_option linter.unusedSimpArgs false
set_option maxRecDepth 100000
namespace Go.Proofs.YtpgbejgdmgpfjaaGreat
open Go Go.Abs Go.Abs.M Go.Proofs

theorem bits_words (s : Nat) : (2 : Int) ^ s < 4294967296 ^ (s / 32 + 1) := by
  obtain ⟨t, ht⟩ : ∃ t, t = 32 * (s / 32 + 1) := ⟨_, rfl⟩
  have h1 : (2 : Nat) ^ s < 2 ^ t := Nat.pow_lt_pow_right (by omega) (by omega)
  have h2 : (2 : Int) ^ s < 2 ^ t := by exact_mod_cast h1
  rw [ht, Int.pow_mul, show ((2 : Int) ^ 32) = 4294967296 from by decide] at h2
  exact h2

theorem cf_qs {s : Nat} {f : Nat → Rat} (h : CF s f) (j : Nat) : Qs (f j) (s / 32 + 1) := by
  obtain ⟨h1, h2⟩ := h.nd j
  have := bits_words s
  exact ⟨nl_le_of (by omega), nl_le_of (by omega)⟩

theorem cf_qsl {s : Nat} {P : List Rat} (h : CF s (fun j => P.getD j 0)) : ∀ q ∈ P, Qs q (s / 32 + 1) := fun q hq => by
  obtain ⟨j, hj⟩ := List.getElem?_of_mem hq
  have := cf_qs h j
  rw [List.getD_eq_getElem?_getD, hj] at this
  exact this

/-- P is the list of the polynomial f: trimmed, at most n coefficients, a common denominator, s bits. -/
structure PB (f : Rat → Rat) (n s : Nat) (P : List Rat) : Prop where
  tr : ptrim P = P
  ev : ∀ x, Abs.ev P x = f x
  len : P.length ≤ n
  cf : CF s (fun j => P.getD j 0)

theorem PB.pl {f : Rat → Rat} {n s : Nat} {P : List Rat} (h : PB f n s P) : PL f n (s / 32 + 1) P := ⟨h.tr, h.ev, h.len, cf_qsl h.cf⟩
theorem PB.mono {f : Rat → Rat} {n s m t : Nat} {P : List Rat} (h : PB f n s P) (h1 : n ≤ m) (h2 : s ≤ t) : PB f m t P := ⟨h.tr, h.ev, Nat.le_trans h.len h1, h.cf.mono h2⟩
theorem PB.congr {f g : Rat → Rat} {n s : Nat} {P : List Rat} (h : PB f n s P) (e : ∀ x, f x = g x) : PB g n s P := ⟨h.tr, fun x => by rw [h.ev, e], h.len, h.cf⟩
theorem PB.nil (s : Nat) : PB (fun _ => 0) 0 s [] := ⟨rfl, fun _ => rfl, Nat.le_refl _, (CF.zero s).congr fun j => by simp⟩
theorem PB.inj {f g : Rat → Rat} {n k m l : Nat} {P Q : List Rat} (h1 : PB f n k P) (h2 : PB g m l Q) (h : ∀ x, f x = g x) : P = Q := h1.pl.inj h2.pl h
end Go.Proofs.YtpgbejgdmgpfjaaGreat
end

section
set_option linter.unusedVariables false
set_option linter.unusedSimpArgs false
set_option maxHeartbeats 8000000
set_option linter.unusedVariables false
set_option linter.unusedSimpArgs false
set_option maxRecDepth 100000
namespace Go.Proofs.YtpgbejgdmgpfjaaGreat
open Go Go.Abs Go.Abs.M Go.Proofs

end Go.Proofs.YtpgbejgdmgpfjaaGreat
end

section
set_option linter.unusedVariables false
set_option linter.unusedSimpArgs false
set_option maxHeartbeats 8000000
set_option linter.unusedVariables false
set_option linter.unusedSimpArgs false
set_option maxRecDepth 100000
namespace Go.Proofs.YtpgbejgdmgpfjaaGreat
open Go Go.Abs Go.Abs.M Go.Proofs

/-! Division, divisors: lists of coefficients, compared by their values. -/

theorem qs_any : ∀ P : List Rat, ∃ k, ∀ q ∈ P, Qs q k
  | [] => ⟨0, fun q hq => by cases hq⟩
  | p :: P => by
    obtain ⟨k, hk⟩ := qs_any P
    refine ⟨k + nl p.num.natAbs + nl p.den, fun q hq => ?_⟩
    rcases List.mem_cons.1 hq with h | h
    · subst h; exact ⟨by omega, by omega⟩
    · exact (hk q h).mono (by omega)

theorem PL.any {P : List Rat} (h : ptrim P = P) : ∃ k, PL (Abs.ev P) P.length k P := by
  obtain ⟨k, hk⟩ := qs_any P
  exact ⟨k, h, fun _ => rfl, Nat.le_refl _, hk⟩

theorem tr_inj {P Q : List Rat} (hP : ptrim P = P) (hQ : ptrim Q = Q) (h : ∀ x, Abs.ev P x = Abs.ev Q x) : P = Q := by
  obtain ⟨k, h1⟩ := PL.any hP
  obtain ⟨l, h2⟩ := PL.any hQ
  exact h1.inj h2 h

theorem tr_nil {P : List Rat} (hP : ptrim P = P) (h : ∀ x, Abs.ev P x = 0) : P = [] := tr_inj hP (Q := []) rfl h

theorem tr_len {P B R : List Rat} (hP : ptrim P = P) (hB : ptrim B = B) (hR : ptrim R = R) (he : ∀ x, Abs.ev R x = Abs.ev P x * Abs.ev B x) (h1 : P ≠ []) (h2 : B ≠ []) : R.length + 1 = P.length + B.length := by
  obtain ⟨k, p1⟩ := PL.any hP
  obtain ⟨l, p2⟩ := PL.any hB
  obtain ⟨m, p3⟩ := PL.any hR
  have := PL.mul_len p1 p2 p3 he h1 h2
  have l1 : P.length ≠ 0 := fun h => h1 (List.length_eq_zero_iff.1 h)
  have l2 : B.length ≠ 0 := fun h => h2 (List.length_eq_zero_iff.1 h)
  omega

/-- Quotient and remainder are the only ones. -/
theorem div_uniq {B Q R Q' R' : List Rat} (hQ : ptrim Q = Q) (hR : ptrim R = R) (hQ' : ptrim Q' = Q') (hR' : ptrim R' = R') (hB : ptrim B = B) (h1 : R.length < B.length) (h2 : R'.length < B.length)
    (h : ∀ x, Abs.ev Q x * Abs.ev B x + Abs.ev R x = Abs.ev Q' x * Abs.ev B x + Abs.ev R' x) : Q = Q' ∧ R = R' := by
  have hB0 : B ≠ [] := fun h0 => by rw [h0] at h1; simp at h1
  have e1 : ∀ x, Abs.ev (ptrim (ladd Q (lsc (-1) Q'))) x * Abs.ev B x = Abs.ev (ptrim (pshift R' (-1) R 0)) x := fun x => by
    rw [ev_trim, ev_trim, ev_ladd, ev_lsc, ev_shift]; have := h x; grind
  have hz : ptrim (ladd Q (lsc (-1) Q')) = [] := by
    rcases Classical.em (ptrim (ladd Q (lsc (-1) Q')) = []) with h0 | h0
    · exact h0
    · have := tr_len (ptrim_idem _) hB (ptrim_idem _) (fun x => (e1 x).symm) h0 hB0
      have l1 : (ptrim (ladd Q (lsc (-1) Q'))).length ≠ 0 := fun h => h0 (List.length_eq_zero_iff.1 h)
      have l2 := ptrim_len (pshift R' (-1) R 0)
      rw [pshift_len] at l2
      omega
  have e2 : ∀ x, Abs.ev Q x = Abs.ev Q' x := fun x => by
    have : Abs.ev (ptrim (ladd Q (lsc (-1) Q'))) x = 0 := by rw [hz]; rfl
    rw [ev_trim, ev_ladd, ev_lsc] at this
    grind
  refine ⟨tr_inj hQ hQ' e2, tr_inj hR hR' fun x => ?_⟩
  have := h x
  rw [e2 x] at this
  grind

/-- D divides A. -/
def Dv (D A : List Rat) : Prop := ∃ H : List Rat, ∀ x, Abs.ev A x = Abs.ev H x * Abs.ev D x

theorem Dv.refl (A : List Rat) : Dv A A := ⟨[1], fun x => by simp only [Abs.ev]; grind⟩
theorem Dv.trans {A B C : List Rat} (h1 : Dv A B) (h2 : Dv B C) : Dv A C := by
  obtain ⟨H, h1⟩ := h1
  obtain ⟨K, h2⟩ := h2
  exact ⟨lmul K H, fun x => by rw [h2, h1, ev_lmul]; grind⟩
theorem Dv.zero {D A : List Rat} (h : ∀ x, Abs.ev A x = 0) : Dv D A := ⟨[], fun x => by rw [h]; simp only [Abs.ev]; grind⟩
theorem Dv.congr {D A D' A' : List Rat} (h : Dv D A) (h1 : ∀ x, Abs.ev D x = Abs.ev D' x) (h2 : ∀ x, Abs.ev A x = Abs.ev A' x) : Dv D' A' := by
  obtain ⟨H, h⟩ := h
  exact ⟨H, fun x => by rw [← h2, h, h1]⟩
theorem Dv.len {D A : List Rat} (hD : ptrim D = D) (hA : ptrim A = A) (h : Dv D A) (h0 : A ≠ []) : D ≠ [] ∧ D.length ≤ A.length := by
  obtain ⟨H, h⟩ := h
  have hD0 : D ≠ [] := fun h1 => h0 (tr_nil hA fun x => by rw [h, h1]; simp only [Abs.ev]; grind)
  have hH0 : ptrim H ≠ [] := fun h1 => h0 (tr_nil hA fun x => by rw [h, ← ev_trim H, h1]; simp only [Abs.ev]; grind)
  have := tr_len (ptrim_idem H) hD hA (fun x => by rw [h, ev_trim]) hH0 hD0
  have l1 : (ptrim H).length ≠ 0 := fun h => hH0 (List.length_eq_zero_iff.1 h)
  exact ⟨hD0, by omega⟩

/-- A divisor leaves no rest. -/
theorem Dv.rest {P B Q R : List Rat} (hQ : ptrim Q = Q) (hR : ptrim R = R) (hB : ptrim B = B) (h1 : R.length < B.length) (h : ∀ x, Abs.ev P x = Abs.ev Q x * Abs.ev B x + Abs.ev R x) (hd : Dv B P) : R = [] := by
  obtain ⟨H, hH⟩ := hd
  exact (div_uniq hQ hR (ptrim_idem H) (R' := []) rfl hB h1 (by simp; omega) (fun x => by rw [← h, hH, ev_trim]; simp only [Abs.ev]; grind)).2

end Go.Proofs.YtpgbejgdmgpfjaaGreat
end

section
set_option linter.unusedVariables false
set_option linter.unusedSimpArgs false
set_option maxHeartbeats 8000000
set_option linter.unusedVariables false
set_option linter.unusedSimpArgs false
set_option maxRecDepth 100000
namespace Go.Proofs.YtpgbejgdmgpfjaaGreat
open Go Go.Abs Go.Abs.M Go.Proofs

end Go.Proofs.YtpgbejgdmgpfjaaGreat
end

section
set_option linter.unusedVariables false
set_option linter.unusedSimpArgs false
set_option maxHeartbeats 8000000
set_option linter.unusedVariables false
set_option linter.unusedSimpArgs false
set_option maxRecDepth 100000
namespace Go.Proofs.YtpgbejgdmgpfjaaGreat
open Go Go.Abs Go.Abs.M Go.Proofs

end Go.Proofs.YtpgbejgdmgpfjaaGreat
end

section
set_option linter.unusedVariables false
set_option linter.unusedSimpArgs false
set_option maxHeartbeats 8000000
set_option linter.unusedVariables false
set_option linter.unusedSimpArgs false
set_option maxRecDepth 100000
namespace Go.Proofs.YtpgbejgdmgpfjaaGreat
open Go Go.Abs Go.Abs.M Go.Proofs

theorem rqvalid_row {x : Rat} {a : Nat} (h : Qs x a) (ha : a ≤ 68719476736) : ACall Tryz.prog 70 [.val (.agg (qc x).row)] ⟨[.val (tb true)], [none]⟩ :=
  rqvalid_call true ⟨fun _ => qc_can x, fun _ => rfl⟩ (dg_wd _) (dg_wd _) (show nl x.num.natAbs ≤ _ from by have := h.1; omega) (show nl (x.den : Int).natAbs ≤ _ from by rw [Int.natAbs_natCast]; have := h.2; omega)

end Go.Proofs.YtpgbejgdmgpfjaaGreat
end

section
set_option linter.unusedVariables false
set_option linter.unusedSimpArgs false
/-
  Intervals: the document's Less, More, Has, Valid, Same, Meet; interval.Has, Meet.
-/
set_option maxHeartbeats 8000000
set_option linter.unusedVariables false
set_option linter.unusedSimpArgs false
set_option maxRecDepth 100000
namespace Go.Proofs.YtpgbejgdmgpfjaaGreat
open Go Go.Abs Go.Abs.M Go.Proofs

def rmin (x y : Rat) : Rat := if x ≤ y then x else y
def rmax (x y : Rat) : Rat := if y ≤ x then x else y
theorem rmin_qs {x y : Rat} {a : Nat} (h1 : Qs x a) (h2 : Qs y a) : Qs (rmin x y) a := by unfold rmin; split <;> assumption
theorem rmax_qs {x y : Rat} {a : Nat} (h1 : Qs x a) (h2 : Qs y a) : Qs (rmax x y) a := by unfold rmax; split <;> assumption
theorem lmin_one (x y : Rat) : lmin x [y] = rmin x y := by
  show (if y < x then y else x) = if x ≤ y then x else y
  by_cases h : y < x
  · rw [if_pos h, if_neg (Rat.not_le.2 h)]
  · rw [if_neg h, if_pos (Rat.not_lt.1 h)]
theorem lmax_one (x y : Rat) : lmax x [y] = rmax x y := by
  show (if x < y then y else x) = if y ≤ x then x else y
  by_cases h : x < y
  · rw [if_pos h, if_neg (Rat.not_le.2 h)]
  · rw [if_neg h, if_pos (Rat.not_lt.1 h)]

theorem less_call {x y : Rat} (h1 : Qs x 68719476736) (h2 : Qs y 68719476736) : ACall Tryz.prog 63 [.val (.agg (qc x).row), .val (.agg (qc y).row)] ⟨[.val (.agg (qc (rmin x y)).row)], [none, none]⟩ := by
  obtain ⟨c, c1, c2, cc⟩ := rqcmp_ex h1 h2
  obtain ⟨s1, t1, r1, p1, e1, _⟩ := qrow x
  obtain ⟨s2, t2, r2, p2, e2, _⟩ := qrow y
  by_cases h : x ≤ y
  · rw [rmin, if_pos h]
    have hc : c ≤ 0 := by have : ¬ 0 < c := fun h0 => Rat.not_lt.2 h (c2.1 h0); omega
    rw [e1, e2] at cc
    rw [e1, e2]
    refine callZ ccOk mixed [.val] Tryz.func63 rfl rfl (by kernel_rfl) fun zwrap zadd zsub zmul zquo zrem zshl zshr zband zbor zbxor zbandn zeq zne zlt zle znot zbeq zbne zmax zmin znat zinb zofN zidx zneq znadd zdif zcut zroom zmkok zlen znth zsetr zisI zgetI zsetI zfit zpart zext zsetg zrep zwide zall zmok zmget zmset zW zth A L F hS hF => ?_
    have q : zle c 0 = true := by rw [hS.le]; exact decide_eq_true hc
    cbv
    refine ⟨_, hS.call (cc), ?_⟩
    cbv
    refine bT (q) ?_
    exact hF _ (ResLe.refl _)
  · rw [rmin, if_neg h]
    have hc : ¬ c ≤ 0 := by have := c2.2 (Rat.not_le.1 h); omega
    rw [e1, e2] at cc
    rw [e1, e2]
    refine callZ ccOk mixed [.val] Tryz.func63 rfl rfl (by kernel_rfl) fun zwrap zadd zsub zmul zquo zrem zshl zshr zband zbor zbxor zbandn zeq zne zlt zle znot zbeq zbne zmax zmin znat zinb zofN zidx zneq znadd zdif zcut zroom zmkok zlen znth zsetr zisI zgetI zsetI zfit zpart zext zsetg zrep zwide zall zmok zmget zmset zW zth A L F hS hF => ?_
    have q : zle c 0 = false := by rw [hS.le]; exact decide_eq_false hc
    cbv
    refine ⟨_, hS.call (cc), ?_⟩
    cbv
    refine bF (q) ?_
    exact hF _ (ResLe.refl _)

theorem more_call {x y : Rat} (h1 : Qs x 68719476736) (h2 : Qs y 68719476736) : ACall Tryz.prog 64 [.val (.agg (qc x).row), .val (.agg (qc y).row)] ⟨[.val (.agg (qc (rmax x y)).row)], [none, none]⟩ := by
  obtain ⟨c, c1, c2, cc⟩ := rqcmp_ex h1 h2
  obtain ⟨s1, t1, r1, p1, e1, _⟩ := qrow x
  obtain ⟨s2, t2, r2, p2, e2, _⟩ := qrow y
  by_cases h : y ≤ x
  · rw [rmax, if_pos h]
    have hc : 0 ≤ c := by have : ¬ c < 0 := fun h0 => Rat.not_lt.2 h (c1.1 h0); omega
    rw [e1, e2] at cc
    rw [e1, e2]
    refine callZ ccOk mixed [.val] Tryz.func64 rfl rfl (by kernel_rfl) fun zwrap zadd zsub zmul zquo zrem zshl zshr zband zbor zbxor zbandn zeq zne zlt zle znot zbeq zbne zmax zmin znat zinb zofN zidx zneq znadd zdif zcut zroom zmkok zlen znth zsetr zisI zgetI zsetI zfit zpart zext zsetg zrep zwide zall zmok zmget zmset zW zth A L F hS hF => ?_
    have q : zle 0 c = true := by rw [hS.le]; exact decide_eq_true hc
    cbv
    refine ⟨_, hS.call (cc), ?_⟩
    cbv
    refine bT (q) ?_
    exact hF _ (ResLe.refl _)
  · rw [rmax, if_neg h]
    have hc : ¬ 0 ≤ c := by have := c1.2 (Rat.not_le.1 h); omega
    rw [e1, e2] at cc
    rw [e1, e2]
    refine callZ ccOk mixed [.val] Tryz.func64 rfl rfl (by kernel_rfl) fun zwrap zadd zsub zmul zquo zrem zshl zshr zband zbor zbxor zbandn zeq zne zlt zle znot zbeq zbne zmax zmin znat zinb zofN zidx zneq znadd zdif zcut zroom zmkok zlen znth zsetr zisI zgetI zsetI zfit zpart zext zsetg zrep zwide zall zmok zmget zmset zW zth A L F hS hF => ?_
    have q : zle 0 c = false := by rw [hS.le]; exact decide_eq_false hc
    cbv
    refine ⟨_, hS.call (cc), ?_⟩
    cbv
    refine bF (q) ?_
    exact hF _ (ResLe.refl _)

theorem ihas_call {x y z : Rat} (h1 : Qs x 68719476736) (h2 : Qs y 68719476736) (h3 : Qs z 68719476736) (b : Bool) (hb : b = true ↔ x ≤ z ∧ z ≤ y) : ACall Tryz.prog 18 [.val (.agg ((qc x).row ++ (qc y).row)), .val (.agg (qc z).row)] ⟨[.val (tb b)], [none, none]⟩ := by
  obtain ⟨c, c1, c2, cc⟩ := pcmp_ex h1 h3
  obtain ⟨d, d1, d2, cd⟩ := pcmp_ex h3 h2
  obtain ⟨s1, t1, r1, p1, e1, _⟩ := qrow x
  obtain ⟨s2, t2, r2, p2, e2, _⟩ := qrow y
  obtain ⟨s3, t3, r3, p3, e3, _⟩ := qrow z
  have k1 : c ≤ 0 ↔ x ≤ z := by rw [← Rat.not_lt, ← c2]; omega
  have k2 : d ≤ 0 ↔ z ≤ y := by rw [← Rat.not_lt, ← d2]; omega
  rw [e1, e3] at cc
  rw [e3, e2] at cd
  rw [e1, e2, e3]
  refine callZ ccOk mixed [.val] Tryz.func18 rfl rfl (by kernel_rfl) fun zwrap zadd zsub zmul zquo zrem zshl zshr zband zbor zbxor zbandn zeq zne zlt zle znot zbeq zbne zmax zmin znat zinb zofN zidx zneq znadd zdif zcut zroom zmkok zlen znth zsetr zisI zgetI zsetI zfit zpart zext zsetg zrep zwide zall zmok zmget zmset zW zth A L F hS hF => ?_
  by_cases h : c ≤ 0
  · have q : zle c 0 = true := by rw [hS.le]; exact decide_eq_true h
    have z : zle d 0 = b := by
      rw [hS.le]
      cases b with
      | true => exact decide_eq_true (k2.2 (hb.1 rfl).2)
      | false => exact decide_eq_false fun h0 => by have := hb.2 ⟨k1.1 h, k2.1 h0⟩; cases this
    cbv
    refine ⟨_, hS.call (cc), ?_⟩
    cbv
    refine bT (q) ?_
    refine ⟨_, hS.call (cd), ?_⟩
    cbv
    exact fin1 hF (tv_bool z)
  · have q : zle c 0 = false := by rw [hS.le]; exact decide_eq_false h
    have z : false = b := by
      cases b with
      | true => exact absurd (k1.2 (hb.1 rfl).1) h
      | false => rfl
    cbv
    refine ⟨_, hS.call (cc), ?_⟩
    cbv
    refine bF (q) ?_
    exact fin1 hF (tv_bool z)

theorem rihas_call {x y z : Rat} (h1 : Qs x 68719476736) (h2 : Qs y 68719476736) (h3 : Qs z 68719476736) (b : Bool) (hb : b = true ↔ x ≤ z ∧ z ≤ y) : ACall Tryz.prog 19 [.val (.agg ((qc x).row ++ (qc y).row)), .val (.agg (qc z).row)] ⟨[.val (tb b)], [none, none]⟩ := by
  obtain ⟨c, c1, c2, cc⟩ := rqcmp_ex h1 h3
  obtain ⟨d, d1, d2, cd⟩ := rqcmp_ex h3 h2
  obtain ⟨s1, t1, r1, p1, e1, _⟩ := qrow x
  obtain ⟨s2, t2, r2, p2, e2, _⟩ := qrow y
  obtain ⟨s3, t3, r3, p3, e3, _⟩ := qrow z
  have k1 : c ≤ 0 ↔ x ≤ z := by rw [← Rat.not_lt, ← c2]; omega
  have k2 : d ≤ 0 ↔ z ≤ y := by rw [← Rat.not_lt, ← d2]; omega
  rw [e1, e3] at cc
  rw [e3, e2] at cd
  rw [e1, e2, e3]
  refine callZ ccOk mixed [.val] Tryz.func19 rfl rfl (by kernel_rfl) fun zwrap zadd zsub zmul zquo zrem zshl zshr zband zbor zbxor zbandn zeq zne zlt zle znot zbeq zbne zmax zmin znat zinb zofN zidx zneq znadd zdif zcut zroom zmkok zlen znth zsetr zisI zgetI zsetI zfit zpart zext zsetg zrep zwide zall zmok zmget zmset zW zth A L F hS hF => ?_
  by_cases h : c ≤ 0
  · have q : zle c 0 = true := by rw [hS.le]; exact decide_eq_true h
    have z : zle d 0 = b := by
      rw [hS.le]
      cases b with
      | true => exact decide_eq_true (k2.2 (hb.1 rfl).2)
      | false => exact decide_eq_false fun h0 => by have := hb.2 ⟨k1.1 h, k2.1 h0⟩; cases this
    cbv
    refine ⟨_, hS.call (cc), ?_⟩
    cbv
    refine bT (q) ?_
    refine ⟨_, hS.call (cd), ?_⟩
    cbv
    exact fin1 hF (tv_bool z)
  · have q : zle c 0 = false := by rw [hS.le]; exact decide_eq_false h
    have z : false = b := by
      cases b with
      | true => exact absurd (k1.2 (hb.1 rfl).1) h
      | false => rfl
    cbv
    refine ⟨_, hS.call (cc), ?_⟩
    cbv
    refine bF (q) ?_
    exact fin1 hF (tv_bool z)

theorem rivalid_row {x y : Rat} (h1 : Qs x 68719476736) (h2 : Qs y 68719476736) (b : Bool) (hb : b = true ↔ x ≤ y) : ACall Tryz.prog 17 [.val (.agg ((qc x).row ++ (qc y).row))] ⟨[.val (tb b)], [none]⟩ := by
  obtain ⟨c, c1, c2, cc⟩ := rqcmp_ex h1 h2
  have v1 := rqvalid_row h1 (Nat.le_refl _)
  have v2 := rqvalid_row h2 (Nat.le_refl _)
  obtain ⟨s1, t1, r1, p1, e1, _⟩ := qrow x
  obtain ⟨s2, t2, r2, p2, e2, _⟩ := qrow y
  have k1 : c ≤ 0 ↔ x ≤ y := by rw [← Rat.not_lt, ← c2]; omega
  rw [e1, e2] at cc
  rw [e1] at v1
  rw [e2] at v2
  rw [e1, e2]
  refine callZ ccOk mixed [.val] Tryz.func17 rfl rfl (by kernel_rfl) fun zwrap zadd zsub zmul zquo zrem zshl zshr zband zbor zbxor zbandn zeq zne zlt zle znot zbeq zbne zmax zmin znat zinb zofN zidx zneq znadd zdif zcut zroom zmkok zlen znth zsetr zisI zgetI zsetI zfit zpart zext zsetg zrep zwide zall zmok zmget zmset zW zth A L F hS hF => ?_
  have z : zle c 0 = b := by
    rw [hS.le]
    cases b with
    | true => exact decide_eq_true (k1.2 (hb.1 rfl))
    | false => exact decide_eq_false fun h0 => by have := hb.2 (k1.1 h0); cases this
  cbv
  refine ⟨_, hS.call (v1), ?_⟩
  cbv
  refine bT rfl ?_
  refine ⟨_, hS.call (v2), ?_⟩
  cbv
  refine bT rfl ?_
  refine ⟨_, hS.call (cc), ?_⟩
  cbv
  exact fin1 hF (tv_bool z)

theorem risame_row {x y : Rat} (h1 : Qs x 68719476736) (h2 : Qs y 68719476736) : ACall Tryz.prog 15 [.val (.agg ((qc x).row ++ (qc y).row)), .val (.agg ((qc x).row ++ (qc y).row))] ⟨[.val (tb true)], [none, none]⟩ := by
  have v1 := rqsame_row h1 rfl (Nat.le_refl _)
  have v2 := rqsame_row h2 rfl (Nat.le_refl _)
  obtain ⟨s1, t1, r1, p1, e1, _⟩ := qrow x
  obtain ⟨s2, t2, r2, p2, e2, _⟩ := qrow y
  rw [e1] at v1
  rw [e2] at v2
  rw [e1, e2]
  refine callZ ccOk mixed [.val] Tryz.func15 rfl rfl (by kernel_rfl) fun zwrap zadd zsub zmul zquo zrem zshl zshr zband zbor zbxor zbandn zeq zne zlt zle znot zbeq zbne zmax zmin znat zinb zofN zidx zneq znadd zdif zcut zroom zmkok zlen znth zsetr zisI zgetI zsetI zfit zpart zext zsetg zrep zwide zall zmok zmget zmset zW zth A L F hS hF => ?_
  cbv
  refine ⟨_, hS.call (v1), ?_⟩
  cbv
  refine bT rfl ?_
  refine ⟨_, hS.call (v2), ?_⟩
  cbv
  exact hF _ (ResLe.refl _)

def zrow : List Tree := [.v (.bool false), .lst true [], .v (.bool false), .lst true []]
theorem imeet_call {x y z w : Rat} (h1 : Qs x 68719476736) (h2 : Qs y 68719476736) (h3 : Qs z 68719476736) (h4 : Qs w 68719476736) (b : Bool) (hb : b = true ↔ rmax x z ≤ rmin y w) :
    ACall Tryz.prog 13 [.val (.agg ((qc x).row ++ (qc y).row)), .val (.agg ((qc z).row ++ (qc w).row))] ⟨[.val (.agg (if b then (qc (rmax x z)).row ++ (qc (rmin y w)).row else zrow ++ zrow)), .val (tb b)], [none, none]⟩ := by
  have g1 := greatest_call x [z] (by simp) (by simp; exact ⟨h1, h3⟩)
  have g2 := least_call y [w] (by simp) (by simp; exact ⟨h2, h4⟩)
  rw [lmax_one] at g1
  rw [lmin_one] at g2
  obtain ⟨c, c1, c2, cc⟩ := pcmp_ex (rmax_qs h1 h3) (rmin_qs h2 h4)
  obtain ⟨s1, t1, r1, p1, e1, _⟩ := qrow x
  obtain ⟨s2, t2, r2, p2, e2, _⟩ := qrow y
  obtain ⟨s3, t3, r3, p3, e3, _⟩ := qrow z
  obtain ⟨s4, t4, r4, p4, e4, _⟩ := qrow w
  obtain ⟨s5, t5, r5, p5, e5, _⟩ := qrow (rmax x z)
  obtain ⟨s6, t6, r6, p6, e6, _⟩ := qrow (rmin y w)
  have u1 : ur [x, z] = [(qc x).row, (qc z).row] := rfl
  have u2 : ur [y, w] = [(qc y).row, (qc w).row] := rfl
  have k1 : 0 < c ↔ ¬ rmax x z ≤ rmin y w := by rw [c2, Rat.not_le]
  rw [u1, e1, e3, e5] at g1
  rw [u2, e2, e4, e6] at g2
  rw [e5, e6] at cc
  rw [e1, e2, e3, e4, e5, e6]
  obtain ⟨R1, hR1⟩ : ∃ R, R = [[Tree.v (.bool s1), .lst false r1, .v (.bool t1), .lst false p1], [.v (.bool s3), .lst false r3, .v (.bool t3), .lst false p3]] := ⟨_, rfl⟩
  obtain ⟨R2, hR2⟩ : ∃ R, R = [[Tree.v (.bool s2), .lst false r2, .v (.bool t2), .lst false p2], [.v (.bool s4), .lst false r4, .v (.bool t4), .lst false p4]] := ⟨_, rfl⟩
  have l1 : R1.length = 2 := by rw [hR1]; rfl
  have l2 : R2.length = 2 := by rw [hR2]; rfl
  rw [← hR1] at g1
  rw [← hR2] at g2
  cases b with
  | true =>
    refine callZ ccOk mixed [.val, .val] Tryz.func13 rfl rfl (by kernel_rfl) fun zwrap zadd zsub zmul zquo zrem zshl zshr zband zbor zbxor zbandn zeq zne zlt zle znot zbeq zbne zmax zmin znat zinb zofN zidx zneq znadd zdif zcut zroom zmkok zlen znth zsetr zisI zgetI zsetI zfit zpart zext zsetg zrep zwide zall zmok zmget zmset zW zth A L F hS hF => ?_
    have f1 : zfit 0 2 R1 = true := by rw [hS.fit, l1]; rfl
    have f2 : zfit 0 2 R2 = true := by rw [hS.fit, l2]; rfl
    have x1 : zpart R1 0 2 = R1 := by rw [hS.part, List.drop_zero, List.take_of_length_le (by omega)]
    have x2 : zpart R2 0 2 = R2 := by rw [hS.part, List.drop_zero, List.take_of_length_le (by omega)]
    have q : zlt 0 c = false := by rw [hS.lt]; exact decide_eq_false fun h => k1.1 h (hb.1 rfl)
    cbv
    rw [← hR1]
    refine nd (f1) ?_
    rw [x1]
    refine ⟨_, hS.call (g1), ?_⟩
    cbv
    rw [← hR2]
    refine nd (f2) ?_
    rw [x2]
    refine ⟨_, hS.call (g2), ?_⟩
    cbv
    refine ⟨_, hS.call (cc), ?_⟩
    cbv
    refine bF (q) ?_
    exact hF _ (ResLe.refl _)
  | false =>
    refine callZ ccOk mixed [.val, .val] Tryz.func13 rfl rfl (by kernel_rfl) fun zwrap zadd zsub zmul zquo zrem zshl zshr zband zbor zbxor zbandn zeq zne zlt zle znot zbeq zbne zmax zmin znat zinb zofN zidx zneq znadd zdif zcut zroom zmkok zlen znth zsetr zisI zgetI zsetI zfit zpart zext zsetg zrep zwide zall zmok zmget zmset zW zth A L F hS hF => ?_
    have f1 : zfit 0 2 R1 = true := by rw [hS.fit, l1]; rfl
    have f2 : zfit 0 2 R2 = true := by rw [hS.fit, l2]; rfl
    have x1 : zpart R1 0 2 = R1 := by rw [hS.part, List.drop_zero, List.take_of_length_le (by omega)]
    have x2 : zpart R2 0 2 = R2 := by rw [hS.part, List.drop_zero, List.take_of_length_le (by omega)]
    have q : zlt 0 c = true := by rw [hS.lt]; exact decide_eq_true (k1.2 fun h => by have := hb.2 h; cases this)
    cbv
    rw [← hR1]
    refine nd (f1) ?_
    rw [x1]
    refine ⟨_, hS.call (g1), ?_⟩
    cbv
    rw [← hR2]
    refine nd (f2) ?_
    rw [x2]
    refine ⟨_, hS.call (g2), ?_⟩
    cbv
    refine ⟨_, hS.call (cc), ?_⟩
    cbv
    refine bT (q) ?_
    exact hF _ (ResLe.refl _)
end Go.Proofs.YtpgbejgdmgpfjaaGreat
end

