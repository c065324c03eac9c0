/-
  A part of the proof: RefQ03.
-/
import Derived.Test.YtgncmjcoojmccaaM9
import Derived.Calls
import Derived.Laws.Cells
import Derived.Below
import Derived.Laws.Small
import Derived.Laws.IdiomCopy
import Derived.Laws.BytesString
import Derived.Laws.Append
import Derived.Laws.Tables
import Derived.Great.BuildSlice
import Derived.IntWalk
import Derived.Orders
import Derived.Laws.BitsLemmas
import Derived.Test.YtgncmjcoojmccaaProg

section
set_option linter.unusedVariables false
set_option linter.unusedSimpArgs false
set_option maxHeartbeats 8000000
set_option linter.unusedVariables false
set_option linter.unusedSimpArgs false
set_option maxRecDepth 100000
namespace Go.Proofs.Ytgncmjcoojmccaa
open Go Go.Abs Go.Abs.M Go.Proofs

def madeN (n k : Int) : Int := if k % 8 = 7 then n * (4611686018427387904 + k) * (4611686018427387904 + k) + k else n
def madeD (d k : Int) : Int := if k % 8 = 6 then (if d = 0 then 1 else d) * (4611686018427387904 + k) * (4611686018427387904 + k) else if d = 0 then 1 else d
def madeQ (n d k : Int) : Rat := Rat.divInt (madeN n k) (madeD d k)

theorem made_nd {n d k : Int} (n1 : -128 ≤ n) (n2 : n < 128) (d1 : -128 ≤ d) (d2 : d < 128) (k1 : 0 ≤ k) (k2 : k < 256) : nl (madeN n k).natAbs ≤ 8 ∧ nl (madeD d k).natAbs ≤ 8 ∧ madeD d k ≠ 0 := by
  have b : nl (4611686018427387904 + k).natAbs ≤ 2 := nl_le_of (by omega)
  have sa : nl n.natAbs ≤ 1 := nl_le_of (by omega)
  have sb : nl d.natAbs ≤ 1 := nl_le_of (by omega)
  have s1 : nl (1 : Int).natAbs ≤ 1 := nl_le_of (by omega)
  have sk : nl k.natAbs ≤ 1 := nl_le_of (by omega)
  refine ⟨?_, ?_, ?_⟩
  · unfold madeN
    split
    · have h1 := nl_mul (n.natAbs * (4611686018427387904 + k).natAbs) (4611686018427387904 + k).natAbs
      have h2 := nl_mul n.natAbs (4611686018427387904 + k).natAbs
      have h3 := nl_add (n * (4611686018427387904 + k) * (4611686018427387904 + k)).natAbs k.natAbs
      rw [Int.natAbs_mul, Int.natAbs_mul] at h3
      have h4 := nl_mono (Int.natAbs_add_le (n * (4611686018427387904 + k) * (4611686018427387904 + k)) k)
      rw [Int.natAbs_mul, Int.natAbs_mul] at h4
      omega
    · omega
  · have key : ∀ x : Int, nl x.natAbs ≤ 1 → nl (x * (4611686018427387904 + k) * (4611686018427387904 + k)).natAbs ≤ 8 := fun x hx => by
      rw [Int.natAbs_mul, Int.natAbs_mul]
      have h1 := nl_mul (x.natAbs * (4611686018427387904 + k).natAbs) (4611686018427387904 + k).natAbs
      have h2 := nl_mul x.natAbs (4611686018427387904 + k).natAbs
      omega
    unfold madeD
    split
    · exact key _ (by split <;> omega)
    · split <;> omega
  · unfold madeD
    split
    · exact Int.mul_ne_zero (Int.mul_ne_zero (by split <;> omega) (by omega)) (by omega)
    · split <;> omega

theorem rmade2_call (n d k : Int) (n1 : -128 ≤ n) (n2 : n < 128) (d1 : -128 ≤ d) (d2 : d < 128) (k1 : 0 ≤ k) (k2 : k < 256) :
    ∃ u w v p, IsR (madeQ n d k) u w v p ∧ ACall Try.prog 15 [.val (.agg [.v (.int .i8 n), .v (.int .i8 d), .v (.int .u8 k)])] ⟨[.val (.agg (iT u w ++ iT v p))], [none]⟩ := by
  obtain ⟨a1, a2, ha, ca⟩ := rof_call n (by omega) (by omega)
  obtain ⟨b1, b2, hb, cb⟩ := rof_call d (by omega) (by omega)
  obtain ⟨f1, f2, hf, cf⟩ := rof_call 1 (by omega) (by omega)
  obtain ⟨c1, c2, hc, cc⟩ := rof_call (4611686018427387904 + k) (by omega) (by omega)
  obtain ⟨e1, e2, he, ce⟩ := rof_call k (by omega) (by omega)
  obtain ⟨s1, s2, s3⟩ := made_nd n1 n2 d1 d2 k1 k2
  have sc : nl (4611686018427387904 + k).natAbs ≤ 2 := nl_le_of (by omega)
  have sa : nl n.natAbs ≤ 2 := nl_le_of (by omega)
  have sb : nl d.natAbs ≤ 2 := nl_le_of (by omega)
  have s1' : nl (1 : Int).natAbs ≤ 2 := nl_le_of (by omega)
  have sk : nl k.natAbs ≤ 2 := nl_le_of (by omega)
  -- the denominator before it is made large
  obtain ⟨D, hD⟩ : ∃ D, D = if d = 0 then 1 else d := ⟨_, rfl⟩
  obtain ⟨g1, g2, hg, hgd, sg⟩ : ∃ g1 g2, IsI D g1 g2 ∧ (if d = 0 then g1 = f1 ∧ g2 = f2 else g1 = b1 ∧ g2 = b2) ∧ nl D.natAbs ≤ 2 := by
    by_cases h : d = 0
    · rw [if_pos h] at hD; subst hD; exact ⟨f1, f2, hf, by rw [if_pos h]; exact ⟨rfl, rfl⟩, s1'⟩
    · rw [if_neg h] at hD; subst hD; exact ⟨b1, b2, hb, by rw [if_neg h]; exact ⟨rfl, rfl⟩, sb⟩
  obtain ⟨big, hbig⟩ : ∃ big, big = 4611686018427387904 + k := ⟨_, rfl⟩
  have eN7 : k % 8 = 7 → madeN n k = n * big * big + k := fun h => by unfold madeN; rw [if_pos h, hbig]
  have eN : ¬ k % 8 = 7 → madeN n k = n := fun h => by unfold madeN; rw [if_neg h]
  have eD6 : k % 8 = 6 → madeD d k = D * big * big := fun h => by unfold madeD; rw [if_pos h, hbig, hD]
  have eD : ¬ k % 8 = 6 → madeD d k = D := fun h => by unfold madeD; rw [if_neg h, hD]
  unfold madeQ
  rw [← hbig] at hc cc sc
  obtain ⟨i1, i2, hi, ci⟩ := rmul_call ha hc (by omega) (by omega)
  obtain ⟨j1, j2, hj, cj⟩ := rmul_call hi hc (by rw [Int.natAbs_mul]; have := nl_mul n.natAbs big.natAbs; omega) (by omega)
  have sj : nl (n * big * big).natAbs ≤ 7 := by
    rw [Int.natAbs_mul, Int.natAbs_mul]
    have h1 := nl_mul (n.natAbs * big.natAbs) big.natAbs
    have h2 := nl_mul n.natAbs big.natAbs
    omega
  obtain ⟨l1, l2, hl, cl⟩ := radd_call hj he (by omega) (by omega)
  obtain ⟨m1, m2, hm, cm⟩ := rmul_call hg hc (by omega) (by omega)
  obtain ⟨o1, o2, ho, co⟩ := rmul_call hm hc (by rw [Int.natAbs_mul]; have := nl_mul D.natAbs big.natAbs; omega) (by omega)
  by_cases h7 : k % 8 = 7
  · have h6 : ¬ k % 8 = 6 := by omega
    rw [eN7 h7] at s1
    rw [eD h6] at s2 s3
    rw [eN7 h7, eD h6]
    obtain ⟨u, w, v, p, hq, cq⟩ := rlowest_call hl hg s3 (by omega) (by omega)
    refine ⟨u, w, v, p, hq, ?_⟩
    clear hq s1 s2 s3 sj sg sk s1' sb sa sc hD hc eN7 eN eD6 eD
    refine callZ ccOk mixed [.val] Try.func15 rfl rfl (by kernel_rfl) fun zwrap zadd zsub zmul zquo zrem zshl zshr zband zbor zbxor zbandn zeq zne zlt zle znot zbeq zbne zmax zmin znat zinb zofN zidx zneq znadd zdif zcut zroom zmkok zlen znth zsetr zisI zgetI zsetI zfit zpart zext zsetg zrep zwide zall zmok zmget zmset zW zth A L F hS hF => ?_
    have w1 : zwrap .i64 n = n := by rw [hS.wrap, wrap_i64 (by omega) (by omega)]
    have w2 : zwrap .i64 d = d := by rw [hS.wrap, wrap_i64 (by omega) (by omega)]
    have w3 : zwrap .i64 k = k := by rw [hS.wrap, wrap_i64 (by omega) (by omega)]
    have w4 : zwrap .i64 (zadd 4611686018427387904 k) = big := by rw [hS.wrap, hS.add, wrap_i64 (by omega) (by omega), hbig]
    have w5 : zeq (zrem k 8) 7 = true := by rw [hS.eq, hS.rem, Int.tmod_eq_emod_of_nonneg k1]; exact decide_eq_true h7
    have w6 : zeq (zrem k 8) 6 = false := by rw [hS.eq, hS.rem, Int.tmod_eq_emod_of_nonneg k1]; exact decide_eq_false h6
    cbv
    rw [w1]
    refine ⟨_, hS.call (ca), ?_⟩
    cbv
    rw [w2]
    refine ⟨_, hS.call (cb), ?_⟩
    cbv
    refine ⟨fun hh => ?_, fun hh => ?_⟩
    all_goals rw [hS.eq] at hh
    · rw [if_pos (of_decide_eq_true hh)] at hgd
      obtain ⟨rfl, rfl⟩ := hgd
      refine ⟨_, hS.call (cf), ?_⟩
      cbv
      rw [w3, w4]
      refine ⟨_, hS.call (cc), ?_⟩
      cbv
      refine bT (w5) ?_
      refine ⟨_, hS.call (ci), ?_⟩
      cbv
      refine ⟨_, hS.call (cj), ?_⟩
      cbv
      rw [w3]
      refine ⟨_, hS.call (ce), ?_⟩
      cbv
      refine ⟨_, hS.call (cl), ?_⟩
      cbv
      refine bF (w6) ?_
      refine ⟨_, hS.call (cq), ?_⟩
      cbv
      exact hF _ (ResLe.refl _)
    · rw [if_neg (of_decide_eq_false hh)] at hgd
      obtain ⟨rfl, rfl⟩ := hgd
      rw [w3, w4]
      refine ⟨_, hS.call (cc), ?_⟩
      cbv
      refine bT (w5) ?_
      refine ⟨_, hS.call (ci), ?_⟩
      cbv
      refine ⟨_, hS.call (cj), ?_⟩
      cbv
      rw [w3]
      refine ⟨_, hS.call (ce), ?_⟩
      cbv
      refine ⟨_, hS.call (cl), ?_⟩
      cbv
      refine bF (w6) ?_
      refine ⟨_, hS.call (cq), ?_⟩
      cbv
      exact hF _ (ResLe.refl _)
  · by_cases h6 : k % 8 = 6
    · rw [eN h7] at s1
      rw [eD6 h6] at s2 s3
      rw [eN h7, eD6 h6]
      obtain ⟨u, w, v, p, hq, cq⟩ := rlowest_call ha ho s3 (by omega) (by omega)
      refine ⟨u, w, v, p, hq, ?_⟩
      clear hq s1 s2 s3 sj sg sk s1' sb sa sc hD hc eN7 eN eD6 eD
      refine callZ ccOk mixed [.val] Try.func15 rfl rfl (by kernel_rfl) fun zwrap zadd zsub zmul zquo zrem zshl zshr zband zbor zbxor zbandn zeq zne zlt zle znot zbeq zbne zmax zmin znat zinb zofN zidx zneq znadd zdif zcut zroom zmkok zlen znth zsetr zisI zgetI zsetI zfit zpart zext zsetg zrep zwide zall zmok zmget zmset zW zth A L F hS hF => ?_
      have w1 : zwrap .i64 n = n := by rw [hS.wrap, wrap_i64 (by omega) (by omega)]
      have w2 : zwrap .i64 d = d := by rw [hS.wrap, wrap_i64 (by omega) (by omega)]
      have w3 : zwrap .i64 k = k := by rw [hS.wrap, wrap_i64 (by omega) (by omega)]
      have w4 : zwrap .i64 (zadd 4611686018427387904 k) = big := by rw [hS.wrap, hS.add, wrap_i64 (by omega) (by omega), hbig]
      have w5 : zeq (zrem k 8) 7 = false := by rw [hS.eq, hS.rem, Int.tmod_eq_emod_of_nonneg k1]; exact decide_eq_false h7
      have w6 : zeq (zrem k 8) 6 = true := by rw [hS.eq, hS.rem, Int.tmod_eq_emod_of_nonneg k1]; exact decide_eq_true h6
      cbv
      rw [w1]
      refine ⟨_, hS.call (ca), ?_⟩
      cbv
      rw [w2]
      refine ⟨_, hS.call (cb), ?_⟩
      cbv
      refine ⟨fun hh => ?_, fun hh => ?_⟩
      all_goals rw [hS.eq] at hh
      · rw [if_pos (of_decide_eq_true hh)] at hgd
        obtain ⟨rfl, rfl⟩ := hgd
        refine ⟨_, hS.call (cf), ?_⟩
        cbv
        rw [w3, w4]
        refine ⟨_, hS.call (cc), ?_⟩
        cbv
        refine bF (w5) ?_
        refine bT (w6) ?_
        refine ⟨_, hS.call (cm), ?_⟩
        cbv
        refine ⟨_, hS.call (co), ?_⟩
        cbv
        refine ⟨_, hS.call (cq), ?_⟩
        cbv
        exact hF _ (ResLe.refl _)
      · rw [if_neg (of_decide_eq_false hh)] at hgd
        obtain ⟨rfl, rfl⟩ := hgd
        rw [w3, w4]
        refine ⟨_, hS.call (cc), ?_⟩
        cbv
        refine bF (w5) ?_
        refine bT (w6) ?_
        refine ⟨_, hS.call (cm), ?_⟩
        cbv
        refine ⟨_, hS.call (co), ?_⟩
        cbv
        refine ⟨_, hS.call (cq), ?_⟩
        cbv
        exact hF _ (ResLe.refl _)
    · rw [eN h7] at s1
      rw [eD h6] at s2 s3
      rw [eN h7, eD h6]
      obtain ⟨u, w, v, p, hq, cq⟩ := rlowest_call ha hg s3 (by omega) (by omega)
      refine ⟨u, w, v, p, hq, ?_⟩
      clear hq s1 s2 s3 sj sg sk s1' sb sa sc hD hc eN7 eN eD6 eD
      refine callZ ccOk mixed [.val] Try.func15 rfl rfl (by kernel_rfl) fun zwrap zadd zsub zmul zquo zrem zshl zshr zband zbor zbxor zbandn zeq zne zlt zle znot zbeq zbne zmax zmin znat zinb zofN zidx zneq znadd zdif zcut zroom zmkok zlen znth zsetr zisI zgetI zsetI zfit zpart zext zsetg zrep zwide zall zmok zmget zmset zW zth A L F hS hF => ?_
      have w1 : zwrap .i64 n = n := by rw [hS.wrap, wrap_i64 (by omega) (by omega)]
      have w2 : zwrap .i64 d = d := by rw [hS.wrap, wrap_i64 (by omega) (by omega)]
      have w3 : zwrap .i64 k = k := by rw [hS.wrap, wrap_i64 (by omega) (by omega)]
      have w4 : zwrap .i64 (zadd 4611686018427387904 k) = big := by rw [hS.wrap, hS.add, wrap_i64 (by omega) (by omega), hbig]
      have w5 : zeq (zrem k 8) 7 = false := by rw [hS.eq, hS.rem, Int.tmod_eq_emod_of_nonneg k1]; exact decide_eq_false h7
      have w6 : zeq (zrem k 8) 6 = false := by rw [hS.eq, hS.rem, Int.tmod_eq_emod_of_nonneg k1]; exact decide_eq_false h6
      cbv
      rw [w1]
      refine ⟨_, hS.call (ca), ?_⟩
      cbv
      rw [w2]
      refine ⟨_, hS.call (cb), ?_⟩
      cbv
      refine ⟨fun hh => ?_, fun hh => ?_⟩
      all_goals rw [hS.eq] at hh
      · rw [if_pos (of_decide_eq_true hh)] at hgd
        obtain ⟨rfl, rfl⟩ := hgd
        refine ⟨_, hS.call (cf), ?_⟩
        cbv
        rw [w3, w4]
        refine ⟨_, hS.call (cc), ?_⟩
        cbv
        refine bF (w5) ?_
        refine bF (w6) ?_
        refine ⟨_, hS.call (cq), ?_⟩
        cbv
        exact hF _ (ResLe.refl _)
      · rw [if_neg (of_decide_eq_false hh)] at hgd
        obtain ⟨rfl, rfl⟩ := hgd
        rw [w3, w4]
        refine ⟨_, hS.call (cc), ?_⟩
        cbv
        refine bF (w5) ?_
        refine bF (w6) ?_
        refine ⟨_, hS.call (cq), ?_⟩
        cbv
        exact hF _ (ResLe.refl _)
end Go.Proofs.Ytgncmjcoojmccaa
end

