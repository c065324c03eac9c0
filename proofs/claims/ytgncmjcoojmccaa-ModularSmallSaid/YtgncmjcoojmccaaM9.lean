/-
  A part of the proof: IntI03, IntJ03, MEdiv, IntK03, ProC03, MReb, ProD03, RefG03, RefH03, RefI03, RefJ03, RefK03, RatU, RefL03, RefM03, Pow03, Prime03, Inv03, RefN03, RefO03.
-/
import Derived.Test.YtgncmjcoojmccaaM8
import Derived.Calls
import Derived.Laws.Cells
import Derived.Below
import Derived.Laws.Small
import Derived.Laws.IdiomCopy
import Derived.Laws.BytesString
import Derived.Laws.Append
import Derived.Laws.Tables
import Derived.Great.BuildSlice
import Derived.IntWalk
import Derived.Orders
import Derived.Laws.BitsLemmas
import Derived.Test.YtgncmjcoojmccaaProg

section
set_option linter.unusedVariables false
set_option linter.unusedSimpArgs false
set_option maxHeartbeats 8000000
set_option linter.unusedVariables false
set_option linter.unusedSimpArgs false
set_option maxRecDepth 100000
namespace Go.Proofs.Ytgncmjcoojmccaa
open Go Go.Abs Go.Abs.M Go.Proofs

theorem itrimM {n : Nat} {r : Abs.Rows} (hr : IsM n r) (hl : nl n ≤ 2199023255552) : ACall Try.prog 74 [.val (tl r)] ⟨[.val (tl r)], [none]⟩ := by
  have h := itrim_call hr hl (dg_wd n)
  rw [dg_val, Int.toNat_natCast, ← hr] at h
  exact h

theorem idivide_long {r s : Abs.Rows} {a b : Nat} (hr : IsM a r) (hs : IsM b s) (h2 : 2 ≤ nl b) (hab : b ≤ a) (hsz : nl a ≤ 549755813888) :
    ACall Try.prog 75 [.val (tl r), .val (tl s)] ⟨[.val (tl (W .u32 (dg (a / b)))), .val (tl (W .u32 (dg (a % b))))], [none, none]⟩ := by
  obtain ⟨n, hn⟩ : ∃ n, n = nl b := ⟨_, rfl⟩
  obtain ⟨la, hla⟩ : ∃ la, la = nl a := ⟨_, rfl⟩
  have hmono := nl_mono hab
  obtain ⟨m, hm⟩ : ∃ m, la = n + m := ⟨la - n, by omega⟩
  obtain ⟨n', hn'⟩ : ∃ n', n = n' + 1 := ⟨n - 1, by omega⟩
  have lb : (dg b).length = n := hn.symm
  have laa : (dg a).length = la := hla.symm
  obtain ⟨w1, hw1⟩ : ∃ w1, w1 = (dg b).getD n' 0 := ⟨_, rfl⟩
  have hw1b := (dg_wd b).get n'
  rw [← hw1] at hw1b
  have htw := top_word (dg_wd b) (n := n') (by omega)
  rw [← hw1, dg_val] at htw
  have hw1p : 1 ≤ w1 := by
    rcases dg_tr b with h | h
    · rw [h] at lb; simp at lb; omega
    · rw [lb, hn', Nat.add_sub_cancel, ← hw1] at h; omega
  obtain ⟨sh, s1, s2, s3, cz⟩ := ilz32_call w1 hw1p hw1b.2
  have hbpos : 0 < (b : Int) := by
    rcases Nat.eq_zero_or_pos b with h | h
    · subst h; simp [dg_zero] at lb; omega
    · omega
  obtain ⟨d, hd⟩ : ∃ d : Int, d = 2 ^ sh := ⟨_, rfl⟩
  have d1 : 1 ≤ d := by have := pow2_pos sh; omega
  have d2 : d ≤ 2147483648 := by have := pow2_le s1; omega
  rw [← hd] at s2 s3
  obtain ⟨V, hV⟩ : ∃ V, V = d * b := ⟨_, rfl⟩
  have hV0 : 0 < V := by rw [hV]; exact Int.mul_pos (by omega) hbpos
  have hpow : (4294967296 : Int) ^ n = 4294967296 ^ n' * 4294967296 := by rw [hn', Int.pow_succ]
  have hp' := pow_pos' n'
  have hVlt : V < 4294967296 ^ n := by
    have x1 : d * (b : Int) < d * ((w1 + 1) * 4294967296 ^ n') := Int.mul_lt_mul_of_pos_left htw.2 (by omega)
    have x2 : d * ((w1 + 1) * (4294967296 : Int) ^ n') = (w1 * d + d) * 4294967296 ^ n' := by grind
    have x3 : (w1 * d + d) * (4294967296 : Int) ^ n' ≤ 4294967296 * 4294967296 ^ n' := by
      refine Int.mul_le_mul_of_nonneg_right ?_ (by omega)
      have : (w1 + 1) * d ≤ 4294967296 := by
        -- w1 * d is a multiple of d below 2^32, and d divides 2^32
        obtain ⟨e, he⟩ : ∃ e : Int, 4294967296 = e * d := ⟨2 ^ (32 - sh), by rw [hd, ← Int.pow_add, show 32 - sh + sh = 32 by omega]; rfl⟩
        have y1 : w1 < e := by
          rcases Int.lt_or_le w1 e with h | h
          · exact h
          · exfalso
            have := Int.mul_le_mul_of_nonneg_right h (show 0 ≤ d by omega)
            omega
        have := Int.mul_le_mul_of_nonneg_right (show w1 + 1 ≤ e by omega) (show 0 ≤ d by omega)
        omega
      have y2 : (w1 + 1) * d = w1 * d + d := by grind
      omega
    rw [hpow, hV]; omega
  have hVge : 2147483648 * 4294967296 ^ n' ≤ V := by
    have x1 : w1 * 4294967296 ^ n' * d ≤ (b : Int) * d := Int.mul_le_mul_of_nonneg_right htw.1 (by omega)
    have x2 : 2147483648 * 4294967296 ^ n' ≤ w1 * d * 4294967296 ^ n' := Int.mul_le_mul_of_nonneg_right s2 (by omega)
    have x3 : w1 * d * (4294967296 : Int) ^ n' = w1 * 4294967296 ^ n' * d := by grind
    rw [hV, Int.mul_comm d]; omega
  have hpow1 : (4294967296 : Int) ^ n < 4294967296 ^ (n + 1) := by rw [Int.pow_succ]; have := pow_pos' n; omega
  obtain ⟨lv0, hlv0⟩ : ∃ lv0, lv0 = wds (n + 1) V := ⟨_, rfl⟩
  have llv0 : lv0.length = n + 1 := by rw [hlv0, wds_length]
  have wlv0 : Wd lv0 := by rw [hlv0]; exact wds_wd _ _
  have vlv0 : val lv0 = V := by rw [hlv0]; exact wds_eq (by omega) (by omega)
  obtain ⟨lv, hlv⟩ : ∃ lv, lv0.take n = lv := ⟨_, rfl⟩
  have vlv : val lv = V := by rw [← hlv, (val_take_eq wlv0 (p := n) (by rw [vlv0]; exact hVlt)).1, vlv0]
  have wlv : Wd lv := by rw [← hlv]; exact wlv0.take n
  have llv : lv.length = n := by rw [← hlv]; simp; omega
  have htop : 2147483648 ≤ lv.getD (n - 1) 0 := by
    have t := (top_word wlv (n := n') (by omega)).2
    rw [vlv] at t
    rw [hn', Nat.add_sub_cancel]
    rcases Int.lt_or_le (lv.getD n' 0) 2147483648 with h | h
    · exfalso
      have := Int.mul_le_mul_of_nonneg_right (show lv.getD n' 0 + 1 ≤ 2147483648 by omega) (show (0 : Int) ≤ 4294967296 ^ n' by omega)
      omega
    · exact h
  obtain ⟨u0, hu0⟩ : ∃ u0, u0 = wds (la + 1) (d * a) := ⟨_, rfl⟩
  have hda : 0 ≤ d * (a : Int) := Int.mul_nonneg (by omega) (by omega)
  have hdalt : d * (a : Int) < 4294967296 ^ (la + 1) := by
    have x1 := lt_nl a
    rw [← hla] at x1
    have x2 : d * (a : Int) ≤ 4294967296 * a := Int.mul_le_mul_of_nonneg_right (by omega) (by omega)
    rw [Int.pow_succ]
    omega
  have vu0 : val u0 = d * a := by rw [hu0]; exact wds_eq hda hdalt
  have lu0 : u0.length = la + 1 := by rw [hu0, wds_length]
  have wu0 : Wd u0 := by rw [hu0]; exact wds_wd _ _
  have t1 := itrimM hr (by omega)
  have t2 := itrimM hs (by omega)
  have cc := icompare_call (cmpI a b) hr hs (by omega) (by omega) (dg_wd _) (dg_wd _) (dg_tr _) (dg_tr _) (by rw [dg_val, dg_val])
  have c1 := ishiftLeft_own sh hr (by omega) (dg_wd _) s1
  rw [laa, dg_val, ← hd, ← hu0] at c1
  have c2 := ishiftLeft_call sh hs (by omega) (dg_wd _) s1
  rw [lb, dg_val, ← hd, ← hV, ← hlv0] at c2
  have hUlt : d * (a : Int) < V * 4294967296 ^ (m + 1) := by
    have x1 := lt_nl a
    rw [← hla, hm] at x1
    have x2 : (4294967296 : Int) ^ (n + m) = 4294967296 ^ n' * 4294967296 ^ (m + 1) := by rw [← Int.pow_add]; congr 1; omega
    have x3 : w1 * 4294967296 ^ n' * 4294967296 ^ (m + 1) ≤ (b : Int) * 4294967296 ^ (m + 1) := Int.mul_le_mul_of_nonneg_right htw.1 (by have := pow_pos' (m + 1); omega)
    have x4 : 1 * (4294967296 ^ n' * 4294967296 ^ (m + 1)) ≤ w1 * (4294967296 ^ n' * (4294967296 : Int) ^ (m + 1)) := Int.mul_le_mul_of_nonneg_right hw1p (by have := Int.mul_pos (pow_pos' n') (pow_pos' (m + 1)); omega)
    have x5 : w1 * 4294967296 ^ n' * 4294967296 ^ (m + 1) = w1 * (4294967296 ^ n' * (4294967296 : Int) ^ (m + 1)) := by grind
    have x6 : d * (a : Int) < d * (b * 4294967296 ^ (m + 1)) := Int.mul_lt_mul_of_pos_left (by omega) (by omega)
    have x7 : d * ((b : Int) * 4294967296 ^ (m + 1)) = d * b * 4294967296 ^ (m + 1) := by grind
    rw [hV]; omega
  have hstart := DInv.start (n := n) (m := m) (by rw [lu0, hm]) wu0 vu0 hUlt
  refine idivide_walk hr hs rfl llv0 hlv rfl laa lb (by omega) (by omega) hm rfl rfl rfl hn' hw1.symm (c := cmpI a b) (by unfold cmpI; rw [if_neg (by omega)]; split <;> omega) lu0 llv wlv vlv htop hstart t1 t2 cc cz c1 c2 fun u q hI => ?_
  rw [hV] at hI
  obtain ⟨l1, l2⟩ := hI.last (by omega) hbpos
  have vu0 := val_nonneg hI.uw
  have hul := hI.ul
  have hql := hI.ql
  have hlt := hI.lt
  rw [List.drop_zero] at hlt
  have hut := (val_take_eq hI.uw (p := n) (by omega)).1
  have t2 := itrim_call (r := W .u32 q) rfl (by omega) hI.qw
  have t3 := ishiftRight_call (r := W .u32 (u.take n)) sh rfl (by simp; omega) (hI.uw.take n) s1
  rw [hut, ← hd, l2] at t3
  rw [l1] at t2
  exact ⟨t2, t3⟩

/-- Division of absolute values. -/
theorem idivide_call {r s : Abs.Rows} {a b : Nat} (hr : IsM a r) (hs : IsM b s) (hb : b ≠ 0) (hsz : nl a ≤ 549755813888) (hszb : nl b ≤ 549755813888) :
    ∃ x y, IsM (a / b) x ∧ IsM (a % b) y ∧ ACall Try.prog 75 [.val (tl r), .val (tl s)] ⟨[.val (tl x), .val (tl y)], [none, none]⟩ := by
  have cc := icompare_call (cmpI a b) hr hs (by unfold nl at hsz; omega) (by unfold nl at hszb; omega) (dg_wd _) (dg_wd _) (dg_tr _) (dg_tr _) (by rw [dg_val, dg_val])
  have t1 := itrimM hr (by omega)
  have t2 := itrimM hs (by omega)
  have tc := iclone_call hr (by unfold nl at hsz; omega)
  by_cases hab : a < b
  · refine ⟨[], r, by rw [Nat.div_eq_of_lt hab]; rfl, by rw [Nat.mod_eq_of_lt hab]; exact hr, ?_⟩
    rw [cmpI_lt (by omega)] at cc
    refine callZ ccOk mixed [.val, .val] Try.func75 rfl rfl (by kernel_rfl) fun zwrap zadd zsub zmul zquo zrem zshl zshr zband zbor zbxor zbandn zeq zne zlt zle znot zbeq zbne zmax zmin znat zinb zofN zidx zneq znadd zdif zcut zroom zmkok zlen znth zsetr zisI zgetI zsetI zfit zpart zext zsetg zrep zwide zall zmok zmget zmset zW zth A L F hS hF => ?_
    have z0 : zlt (-1) 0 = true := by rw [hS.lt]; rfl
    cbv
    refine ⟨_, hS.call (t1), ?_⟩
    cbv
    refine ⟨_, hS.call (t2), ?_⟩
    cbv
    refine ⟨_, hS.call (cc), ?_⟩
    cbv
    refine bT (z0) ?_
    refine ⟨_, hS.call (tc), ?_⟩
    cbv
    exact fin2w hF (TLe.drop _ _) (TVLe.refl _)
  · by_cases h1 : nl b = 1
    · obtain ⟨x, hx⟩ : ∃ x, IsM (a / b) x := ⟨_, rfl⟩
      obtain ⟨y, hy⟩ : ∃ y, IsM (a % b) y := ⟨_, rfl⟩
      refine ⟨x, y, hx, hy, ?_⟩
      have hblt : (b : Int) < 4294967296 := by have := lt_nl b; rw [h1] at this; omega
      have hdgb : dg b = [(b : Int)] := by
        rw [dg_pos hb, show b % 4294967296 = b by omega, show b / 4294967296 = 0 by omega, dg_zero]
      have hmod : (a : Int) % b < b := Int.emod_lt_of_pos _ (by omega)
      have hmod0 : 0 ≤ (a : Int) % b := Int.emod_nonneg _ (by omega)
      have c1 := idivideSmall_call b ((a : Int) / b) ((a : Int) % b) hr (by unfold nl at hsz; omega) (dg_wd _) (by omega) hblt (by rw [dg_val]) (by rw [dg_val])
      have c2 := iwords_call ((a : Int) % b) hmod0 (by omega)
      have q1 : W .u32 (dg ((a : Int) / b).toNat) = x := hx.symm
      have q2 : W .u32 (dg ((a : Int) % b).toNat) = y := hy.symm
      rw [q1] at c1
      rw [q2] at c2
      obtain ⟨c, hc, hc0⟩ : ∃ c, cmpI (a : Int) b = c ∧ ¬ c < 0 := ⟨_, rfl, by
        unfold cmpI
        rw [if_neg (by omega)]
        split <;> omega⟩
      rw [hc] at cc
      generalize (a : Int) % b = e at *
      generalize hbv : (b : Int) = d at *
      refine callZ ccOk mixed [.val, .val] Try.func75 rfl rfl (by kernel_rfl) fun zwrap zadd zsub zmul zquo zrem zshl zshr zband zbor zbxor zbandn zeq zne zlt zle znot zbeq zbne zmax zmin znat zinb zofN zidx zneq znadd zdif zcut zroom zmkok zlen znth zsetr zisI zgetI zsetI zfit zpart zext zsetg zrep zwide zall zmok zmget zmset zW zth A L F hS hF => ?_
      have z1 : zlt c 0 = false := by rw [hS.lt]; exact decide_eq_false hc0
      have z2 : zeq (zofN (zlen s)) 1 = true := by rw [hS.len, hs, W_len, hdgb, hS.ofN, hS.eq]; rfl
      have z3 : zisI .u32 s (znat 0) = true := by rw [hS.isI, hs, hS.nat, hdgb]; rfl
      have z4 : zwrap .u64 (zgetI s (znat 0)) = d := by rw [hS.getI, hs, hS.nat, W_getI, hdgb, hS.wrap]; exact wrap_u64 (by show 0 ≤ d; omega) (by show d < _; omega)
      have z5 : zle 0 0 = true := by rw [hS.le]; rfl
      cbv
      refine ⟨_, hS.call (t1), ?_⟩
      cbv
      refine ⟨_, hS.call (t2), ?_⟩
      cbv
      refine ⟨_, hS.call (cc), ?_⟩
      cbv
      rw [z4]
      refine bF (z1) ?_
      refine bT (z2) ?_
      refine nd (z5) ?_
      refine nd (z3) ?_
      refine ⟨_, hS.call (c1), ?_⟩
      cbv
      refine ⟨_, hS.call (c2), ?_⟩
      cbv
      exact hF _ (ResLe.refl _)
    · have h0 : nl b ≠ 0 := fun h => hb (nl_zero.1 h)
      exact ⟨_, _, rfl, rfl, idivide_long hr hs (by omega) (by omega) hsz⟩
end Go.Proofs.Ytgncmjcoojmccaa
end

section
set_option linter.unusedVariables false
set_option linter.unusedSimpArgs false
set_option maxHeartbeats 8000000
set_option linter.unusedVariables false
set_option linter.unusedSimpArgs false
set_option maxRecDepth 100000
namespace Go.Proofs.Ytgncmjcoojmccaa
open Go Go.Abs Go.Abs.M Go.Proofs

/-- The cells of an integer, 'minus zero' too. -/
def IsS (x : Int) (s : Bool) (r : Abs.Rows) : Prop := IsM x.natAbs r ∧ ((s = true → x ≤ 0) ∧ (s = false → 0 ≤ x))

theorem IsS.of {x : Int} {s : Bool} {r : Abs.Rows} (h : IsI x s r) : IsS x s r := by
  refine ⟨h.m, fun hs => ?_, fun hs => ?_⟩
  · rw [h.s] at hs; have := of_decide_eq_true hs; omega
  · rw [h.s] at hs; have := of_decide_eq_false hs; omega

theorem IsS.neg {x : Int} {s : Bool} {r : Abs.Rows} (h : IsS x s r) : IsS (-x) (!s) r := by
  obtain ⟨h1, h2, h3⟩ := h
  refine ⟨by rw [Int.natAbs_neg]; exact h1, fun hs => ?_, fun hs => ?_⟩
  · have := h3 (by simpa using hs); omega
  · have := h2 (by simpa using hs); omega

/-- What a sign and an absolute value make. -/
theorem isignedS {x : Int} {r : Abs.Rows} (s : Bool) (hx : IsS x s r) (hl : nl x.natAbs ≤ 2199023255552) : ∃ u, IsI x u r ∧ ACall Try.prog 67 [.val (tb s), .val (tl r)] ⟨[.val (.agg (iT u r))], [none, none]⟩ := by
  obtain ⟨h1, h2, h3⟩ := hx
  refine ⟨decide (x < 0), ⟨rfl, h1⟩, isignedM s _ h1 hl ?_⟩
  cases s with
  | true => have := h2 rfl; rw [Bool.true_and, Bool.eq_iff_iff]; simp; omega
  | false => have := h3 rfl; rw [Bool.false_and]; exact decide_eq_false (by omega)

theorem iof_call (n : Int) (h1 : -9223372036854775808 ≤ n) (h2 : n < 9223372036854775808) : ∃ u w, IsI n u w ∧ ACall Try.prog 44 [.val (ti .i64 n)] ⟨[.val (.agg (iT u w))], [none]⟩ := by
  obtain ⟨w, hw⟩ : ∃ w, IsM n.natAbs w := ⟨_, rfl⟩
  have hl : nl n.natAbs ≤ 2 := nl_le_of (by omega)
  have hwords := iwords_call n.natAbs (by omega) (by omega)
  rw [Int.toNat_natCast, show W .u32 (dg n.natAbs) = w from hw.symm] at hwords
  obtain ⟨u, hu, cs⟩ := isignedS (x := n) (decide (n < 0)) ⟨hw, fun h => by have := of_decide_eq_true h; omega, fun h => by have := of_decide_eq_false h; omega⟩ (by omega)
  refine ⟨u, w, hu, ?_⟩
  obtain ⟨M, hM⟩ : ∃ M : Int, M = n.natAbs := ⟨_, rfl⟩
  obtain ⟨D, hD⟩ : ∃ D, D = decide (n < 0) := ⟨_, rfl⟩
  rw [← hM] at hwords
  rw [← hD] at cs
  refine callZ ccOk mixed [.val] Try.func44 rfl rfl (by kernel_rfl) fun zwrap zadd zsub zmul zquo zrem zshl zshr zband zbor zbxor zbandn zeq zne zlt zle znot zbeq zbne zmax zmin znat zinb zofN zidx zneq znadd zdif zcut zroom zmkok zlen znth zsetr zisI zgetI zsetI zfit zpart zext zsetg zrep zwide zall zmok zmget zmset zW zth A L F hS hF => ?_
  have hlt : zlt n 0 = D := by rw [hD]; exact hS.lt ..
  have e1 : D = true → zwrap .u64 (zsub 0 (zwrap .u64 n)) = M := fun h => by
    rw [hD] at h
    have := of_decide_eq_true h
    rw [hS.wrap, hS.wrap, hS.sub, wrap_u64m, wrap_u64m]; omega
  have e2 : D = false → zwrap .u64 n = M := fun h => by
    rw [hD] at h
    have := of_decide_eq_false h
    rw [hS.wrap, wrap_u64 (by omega) (by omega)]; omega
  clear hM hD hw hl hu
  cbv
  rw [hlt]
  refine ⟨fun h => ?_, fun h => ?_⟩
  · rw [e1 h]
    refine ⟨_, hS.call (hwords), ?_⟩
    cbv
    refine ⟨_, hS.call (cs), ?_⟩
    cbv
    exact hF _ (ResLe.refl _)
  · rw [e2 h]
    refine ⟨_, hS.call (hwords), ?_⟩
    cbv
    refine ⟨_, hS.call (cs), ?_⟩
    cbv
    exact hF _ (ResLe.refl _)

theorem isign_call {x : Int} {s : Bool} {r : Abs.Rows} (c : Int) (hx : IsI x s r) (hc : c = cmpI x 0) : ACall Try.prog 51 [.val (.agg (iT s r))] ⟨[.val (ti .i64 c)], [none]⟩ := by
  have hl : r.length = nl x.natAbs := hx.m.len
  have hz := @nl_zero x.natAbs
  refine callZ ccOk mixed [.val] Try.func51 rfl rfl (by kernel_rfl) fun zwrap zadd zsub zmul zquo zrem zshl zshr zband zbor zbxor zbandn zeq zne zlt zle znot zbeq zbne zmax zmin znat zinb zofN zidx zneq znadd zdif zcut zroom zmkok zlen znth zsetr zisI zgetI zsetI zfit zpart zext zsetg zrep zwide zall zmok zmget zmset zW zth A L F hS hF => ?_
  have e1 : zeq (zofN (zlen r)) 0 = decide (x = 0) := by
    rw [hS.eq, hS.ofN, hS.len, hl]
    by_cases h : x = 0
    · rw [decide_eq_true h]; exact decide_eq_true (by omega)
    · rw [decide_eq_false h]; exact decide_eq_false (by omega)
  cbv
  rw [e1]
  refine ⟨fun h => fin1 hF (tv_int ?_), fun h => ⟨fun h' => fin1 hF (tv_int ?_), fun h' => fin1 hF (tv_int ?_)⟩⟩
  · rw [hc, of_decide_eq_true h]; rfl
  · rw [hx.s] at h'; rw [hc, cmpI_lt (of_decide_eq_true h')]
  · rw [hx.s] at h'
    have := of_decide_eq_false h'
    have := of_decide_eq_false h
    rw [hc, cmpI_gt (by omega)]

theorem icmp_call {x y : Int} {s t : Bool} {r q : Abs.Rows} (c : Int) (hx : IsI x s r) (hy : IsI y t q) (hc : c = cmpI x y) (h1 : nl x.natAbs ≤ 2199023255552) (h2 : nl y.natAbs ≤ 2199023255552) :
    ACall Try.prog 54 [.val (.agg (iT s r)), .val (.agg (iT t q))] ⟨[.val (ti .i64 c)], [none, none]⟩ := by
  have c1 := icompare_call (cmpI x.natAbs y.natAbs) hx.m hy.m h1 h2 (dg_wd _) (dg_wd _) (dg_tr _) (dg_tr _) (by rw [dg_val, dg_val])
  have c2 := icompare_call (cmpI y.natAbs x.natAbs) hy.m hx.m h2 h1 (dg_wd _) (dg_wd _) (dg_tr _) (dg_tr _) (by rw [dg_val, dg_val])
  have s1 := isign_call (cmpI x 0) hx rfl
  have s2 := isign_call (cmpI y 0) hy rfl
  have b : ∀ z : Int, (z < 0 → cmpI z 0 = -1) ∧ (z = 0 → cmpI z 0 = 0) ∧ (0 < z → cmpI z 0 = 1) := fun z => ⟨fun h => cmpI_lt h, fun h => by rw [h]; rfl, fun h => cmpI_gt h⟩
  have bx := b x
  have by' := b y
  have n1 : x < 0 → y < 0 → cmpI y.natAbs x.natAbs = c := fun h h' => by rw [show (y.natAbs : Int) = -y by omega, show (x.natAbs : Int) = -x by omega, cmpI_neg, hc]
  have n2 : ¬ x < 0 → ¬ y < 0 → cmpI x.natAbs y.natAbs = c := fun h h' => by rw [show (y.natAbs : Int) = y by omega, show (x.natAbs : Int) = x by omega, hc]
  have n3 : x < y → -1 = c := fun h => by rw [hc, cmpI_lt h]
  have n4 : y < x → 1 = c := fun h => by rw [hc, cmpI_gt h]
  generalize cmpI x.natAbs y.natAbs = u at *
  generalize cmpI y.natAbs x.natAbs = v at *
  generalize cmpI x 0 = a at *
  generalize cmpI y 0 = d at *
  refine callZ ccOk mixed [.val] Try.func54 rfl rfl (by kernel_rfl) fun zwrap zadd zsub zmul zquo zrem zshl zshr zband zbor zbxor zbandn zeq zne zlt zle znot zbeq zbne zmax zmin znat zinb zofN zidx zneq znadd zdif zcut zroom zmkok zlen znth zsetr zisI zgetI zsetI zfit zpart zext zsetg zrep zwide zall zmok zmget zmset zW zth A L F hS hF => ?_
  have e1 : zne a d = decide (a ≠ d) := hS.ne ..
  have e2 : zlt a d = decide (a < d) := hS.lt ..
  have e3 : zlt a 0 = decide (a < 0) := hS.lt ..
  cbv
  refine ⟨_, hS.call (s1), ?_⟩
  cbv
  refine ⟨_, hS.call (s2), ?_⟩
  cbv
  refine ⟨fun h => ⟨fun h' => fin1 hF (tv_int (n3 ?_)), fun h' => fin1 hF (tv_int (n4 ?_))⟩, fun h => ⟨fun h' => ⟨_, hS.call c2, ?_⟩, fun h' => ⟨_, hS.call c1, ?_⟩⟩⟩
  all_goals rw [e1] at h
  · rw [e2] at h'; have := of_decide_eq_true h'; omega
  · rw [e2] at h'; have := of_decide_eq_false h'; have := of_decide_eq_true h; omega
  · rw [e3] at h'; have h1 := of_decide_eq_true h'; have h2 := of_decide_eq_false h
    cbv
    exact fin1 hF (tv_int (n1 (by omega) (by omega)))
  · rw [e3] at h'; have h1 := of_decide_eq_false h'; have h2 := of_decide_eq_false h
    cbv
    exact fin1 hF (tv_int (n2 (by omega) (by omega)))

theorem ineg_call {x : Int} {s : Bool} {r : Abs.Rows} (hx : IsI x s r) (h1 : nl x.natAbs ≤ 2199023255552) : ∃ u w, IsI (-x) u w ∧ ACall Try.prog 57 [.val (.agg (iT s r))] ⟨[.val (.agg (iT u w))], [none]⟩ := by
  have cl := iclone_call hx.m (by unfold nl at h1; omega)
  obtain ⟨u, hu, cs⟩ := isignedS (!s) (IsS.of hx).neg (by rw [Int.natAbs_neg]; exact h1)
  refine ⟨u, r, hu, ?_⟩
  refine callZ ccOk mixed [.val] Try.func57 rfl rfl (by kernel_rfl) fun zwrap zadd zsub zmul zquo zrem zshl zshr zband zbor zbxor zbandn zeq zne zlt zle znot zbeq zbne zmax zmin znat zinb zofN zidx zneq znadd zdif zcut zroom zmkok zlen znth zsetr zisI zgetI zsetI zfit zpart zext zsetg zrep zwide zall zmok zmget zmset zW zth A L F hS hF => ?_
  have e : znot s = !s := hS.not s
  cbv
  refine ⟨_, hS.call (cl), ?_⟩
  cbv
  rw [e]
  refine ⟨_, hS.call (cs), ?_⟩
  cbv
  exact hF _ (ResLe.refl _)

theorem iadd_callS {x y : Int} {s t : Bool} {r q : Abs.Rows} (hx : IsS x s r) (hy : IsS y t q) (h1 : nl x.natAbs ≤ 549755813888) (h2 : nl y.natAbs ≤ 549755813888) :
    ∃ u w, IsI (x + y) u w ∧ ACall Try.prog 45 [.val (.agg (iT s r)), .val (.agg (iT t q))] ⟨[.val (.agg (iT u w))], [none, none]⟩ := by
  have hb : nl (x + y).natAbs ≤ 1099511627776 := by
    have a := nl_mono (show (x + y).natAbs ≤ x.natAbs + y.natAbs by omega)
    have b := nl_add x.natAbs y.natAbs
    omega
  obtain ⟨w, hw⟩ : ∃ w, IsM (x + y).natAbs w := ⟨_, rfl⟩
  obtain ⟨xm, xs, xs'⟩ := hx
  obtain ⟨ym, ys, ys'⟩ := hy
  by_cases hst : s = t
  · have ca := isum_call xm ym (by unfold nl at h1; omega) (by unfold nl at h2; omega) (dg_wd _) (dg_wd _)
    simp only [dg_val] at ca
    have e1 : W .u32 (dg ((x.natAbs : Int) + y.natAbs).toNat) = w := by
      rw [hw]; congr 2
      subst hst
      cases s with
      | true => have := xs rfl; have := ys rfl; omega
      | false => have := xs' rfl; have := ys' rfl; omega
    rw [e1] at ca
    obtain ⟨u, hu, cs⟩ := isignedS (x := x + y) s ⟨hw, fun h => by subst hst; have := xs h; have := ys h; omega, fun h => by subst hst; have := xs' h; have := ys' h; omega⟩ (by omega)
    refine ⟨u, w, hu, ?_⟩
    refine callZ ccOk mixed [.val] Try.func45 rfl rfl (by kernel_rfl) fun zwrap zadd zsub zmul zquo zrem zshl zshr zband zbor zbxor zbandn zeq zne zlt zle znot zbeq zbne zmax zmin znat zinb zofN zidx zneq znadd zdif zcut zroom zmkok zlen znth zsetr zisI zgetI zsetI zfit zpart zext zsetg zrep zwide zall zmok zmget zmset zW zth A L F hS hF => ?_
    have e : zbeq s t = true := by rw [hS.beq]; simpa using hst
    cbv
    refine bT (e) ?_
    refine ⟨_, hS.call (ca), ?_⟩
    cbv
    refine ⟨_, hS.call (cs), ?_⟩
    cbv
    exact hF _ (ResLe.refl _)
  · have cc := icompare_call (cmpI x.natAbs y.natAbs) xm ym (by unfold nl at h1; omega) (by unfold nl at h2; omega) (dg_wd _) (dg_wd _) (dg_tr _) (dg_tr _) (by rw [dg_val, dg_val])
    by_cases hlt : x.natAbs < y.natAbs
    · have c := idifference_call ym xm (by unfold nl at h2; omega) (show nl x.natAbs ≤ nl y.natAbs from nl_mono (by omega)) (dg_wd _) (dg_wd _) (by rw [dg_val, dg_val]; omega)
      simp only [dg_val] at c
      have e1 : W .u32 (dg ((y.natAbs : Int) - x.natAbs).toNat) = w := by
        rw [hw]; congr 2
        cases s <;> cases t <;> first | exact absurd rfl hst | skip
        · have := xs' rfl; have := ys rfl; omega
        · have := xs rfl; have := ys' rfl; omega
      rw [e1] at c
      obtain ⟨u, hu, cs⟩ := isignedS (x := x + y) t ⟨hw, fun h => by
        cases s <;> cases t <;> first | exact absurd rfl hst | (cases h; done) | skip
        have := xs' rfl; have := ys rfl; omega, fun h => by
        cases s <;> cases t <;> first | exact absurd rfl hst | (cases h; done) | skip
        have := xs rfl; have := ys' rfl; omega⟩ (by omega)
      rw [cmpI_lt (by omega)] at cc
      refine ⟨u, w, hu, ?_⟩
      refine callZ ccOk mixed [.val] Try.func45 rfl rfl (by kernel_rfl) fun zwrap zadd zsub zmul zquo zrem zshl zshr zband zbor zbxor zbandn zeq zne zlt zle znot zbeq zbne zmax zmin znat zinb zofN zidx zneq znadd zdif zcut zroom zmkok zlen znth zsetr zisI zgetI zsetI zfit zpart zext zsetg zrep zwide zall zmok zmget zmset zW zth A L F hS hF => ?_
      have e : zbeq s t = false := by rw [hS.beq]; simpa using hst
      have e2 : zle 0 (-1) = false := by rw [hS.le]; rfl
      cbv
      refine bF (e) ?_
      refine ⟨_, hS.call (cc), ?_⟩
      cbv
      refine bF (e2) ?_
      refine ⟨_, hS.call (c), ?_⟩
      cbv
      refine ⟨_, hS.call (cs), ?_⟩
      cbv
      exact hF _ (ResLe.refl _)
    · have c := idifference_call xm ym (by unfold nl at h1; omega) (show nl y.natAbs ≤ nl x.natAbs from nl_mono (by omega)) (dg_wd _) (dg_wd _) (by rw [dg_val, dg_val]; omega)
      simp only [dg_val] at c
      have e1 : W .u32 (dg ((x.natAbs : Int) - y.natAbs).toNat) = w := by
        rw [hw]; congr 2
        cases s <;> cases t <;> first | exact absurd rfl hst | skip
        · have := xs' rfl; have := ys rfl; omega
        · have := xs rfl; have := ys' rfl; omega
      rw [e1] at c
      obtain ⟨u, hu, cs⟩ := isignedS (x := x + y) s ⟨hw, fun h => by
        cases s <;> cases t <;> first | exact absurd rfl hst | (cases h; done) | skip
        have := xs rfl; have := ys' rfl; omega, fun h => by
        cases s <;> cases t <;> first | exact absurd rfl hst | (cases h; done) | skip
        have := xs' rfl; have := ys rfl; omega⟩ (by omega)
      obtain ⟨v, hv, hv0⟩ : ∃ v, cmpI (x.natAbs : Int) y.natAbs = v ∧ 0 ≤ v := ⟨_, rfl, by
        unfold cmpI
        rw [if_neg (by omega)]
        split <;> omega⟩
      rw [hv] at cc
      refine ⟨u, w, hu, ?_⟩
      refine callZ ccOk mixed [.val] Try.func45 rfl rfl (by kernel_rfl) fun zwrap zadd zsub zmul zquo zrem zshl zshr zband zbor zbxor zbandn zeq zne zlt zle znot zbeq zbne zmax zmin znat zinb zofN zidx zneq znadd zdif zcut zroom zmkok zlen znth zsetr zisI zgetI zsetI zfit zpart zext zsetg zrep zwide zall zmok zmget zmset zW zth A L F hS hF => ?_
      have e : zbeq s t = false := by rw [hS.beq]; simpa using hst
      have e2 : zle 0 v = true := by rw [hS.le]; exact decide_eq_true hv0
      cbv
      refine bF (e) ?_
      refine ⟨_, hS.call (cc), ?_⟩
      cbv
      refine bT (e2) ?_
      refine ⟨_, hS.call (c), ?_⟩
      cbv
      refine ⟨_, hS.call (cs), ?_⟩
      cbv
      exact hF _ (ResLe.refl _)

theorem iadd_call {x y : Int} {s t : Bool} {r q : Abs.Rows} (hx : IsI x s r) (hy : IsI y t q) (h1 : nl x.natAbs ≤ 549755813888) (h2 : nl y.natAbs ≤ 549755813888) :
    ∃ u w, IsI (x + y) u w ∧ ACall Try.prog 45 [.val (.agg (iT s r)), .val (.agg (iT t q))] ⟨[.val (.agg (iT u w))], [none, none]⟩ := iadd_callS (.of hx) (.of hy) h1 h2

theorem isub_call {x y : Int} {s t : Bool} {r q : Abs.Rows} (hx : IsI x s r) (hy : IsI y t q) (h1 : nl x.natAbs ≤ 549755813888) (h2 : nl y.natAbs ≤ 549755813888) :
    ∃ u w, IsI (x - y) u w ∧ ACall Try.prog 52 [.val (.agg (iT s r)), .val (.agg (iT t q))] ⟨[.val (.agg (iT u w))], [none, none]⟩ := by
  obtain ⟨u, w, hu, c⟩ := iadd_callS (.of hx) (IsS.of hy).neg h1 (by rw [Int.natAbs_neg]; exact h2)
  refine ⟨u, w, hu.of (by omega), ?_⟩
  refine callZ ccOk mixed [.val] Try.func52 rfl rfl (by kernel_rfl) fun zwrap zadd zsub zmul zquo zrem zshl zshr zband zbor zbxor zbandn zeq zne zlt zle znot zbeq zbne zmax zmin znat zinb zofN zidx zneq znadd zdif zcut zroom zmkok zlen znth zsetr zisI zgetI zsetI zfit zpart zext zsetg zrep zwide zall zmok zmget zmset zW zth A L F hS hF => ?_
  have e : znot t = !t := hS.not t
  cbv
  rw [e]
  refine ⟨_, hS.call (c), ?_⟩
  cbv
  exact hF _ (ResLe.refl _)

theorem imul_call {x y : Int} {s t : Bool} {r q : Abs.Rows} (hx : IsI x s r) (hy : IsI y t q) (h1 : nl x.natAbs ≤ 549755813888) (h2 : nl y.natAbs ≤ 549755813888) :
    ∃ u w, IsI (x * y) u w ∧ ACall Try.prog 46 [.val (.agg (iT s r)), .val (.agg (iT t q))] ⟨[.val (.agg (iT u w))], [none, none]⟩ := by
  obtain ⟨w, hw⟩ : ∃ w, IsM (x * y).natAbs w := ⟨_, rfl⟩
  have hb : nl (x * y).natAbs ≤ 1099511627776 := by
    rw [Int.natAbs_mul]
    have b := nl_mul x.natAbs y.natAbs
    omega
  have hs := hx.s
  have ht := hy.s
  have c := iproduct_call hx.m hy.m (by unfold nl at h1; omega) (by unfold nl at h2; omega) (dg_wd _) (dg_wd _)
  simp only [dg_val] at c
  have e1 : W .u32 (dg ((x.natAbs : Int) * y.natAbs).toNat) = w := by
    rw [hw]; congr 2
    rw [Int.natAbs_mul]
    have : ((x.natAbs : Int) * y.natAbs) = ((x.natAbs * y.natAbs : Nat) : Int) := by push_cast; rfl
    omega
  rw [e1] at c
  obtain ⟨u, hu, cs⟩ := isignedS (x := x * y) (!(s == t)) ⟨hw, fun h => by
      rw [hs, ht] at h
      by_cases h1 : x < 0 <;> by_cases h2 : y < 0 <;> simp [h1, h2] at h
      · exact Int.mul_nonpos_of_nonpos_of_nonneg (by omega) (by omega)
      · exact Int.mul_nonpos_of_nonneg_of_nonpos (by omega) (by omega), fun h => by
      rw [hs, ht] at h
      by_cases h1 : x < 0 <;> by_cases h2 : y < 0 <;> simp [h1, h2] at h
      · exact Int.mul_nonneg_of_nonpos_of_nonpos (by omega) (by omega)
      · exact Int.mul_nonneg (by omega) (by omega)⟩ (by omega)
  refine ⟨u, w, hu, ?_⟩
  refine callZ ccOk mixed [.val] Try.func46 rfl rfl (by kernel_rfl) fun zwrap zadd zsub zmul zquo zrem zshl zshr zband zbor zbxor zbandn zeq zne zlt zle znot zbeq zbne zmax zmin znat zinb zofN zidx zneq znadd zdif zcut zroom zmkok zlen znth zsetr zisI zgetI zsetI zfit zpart zext zsetg zrep zwide zall zmok zmget zmset zW zth A L F hS hF => ?_
  have e : zbne s t = !(s == t) := hS.bne s t
  cbv
  refine ⟨_, hS.call (c), ?_⟩
  cbv
  rw [e]
  refine ⟨_, hS.call (cs), ?_⟩
  cbv
  exact hF _ (ResLe.refl _)
end Go.Proofs.Ytgncmjcoojmccaa
end

section
set_option linter.unusedVariables false
set_option linter.unusedSimpArgs false
/-
  Euclidean division by way of absolute values.
-/
namespace Go.Abs.M

theorem ediv_unique {x y q r : Int} (hy : y ≠ 0) (h : x = y * q + r) (h0 : 0 ≤ r) (h1 : r < y.natAbs) : x / y = q ∧ x % y = r := by
  rcases Int.lt_or_lt_of_ne hy with hneg | hpos
  · have e : x = r + (-y) * (-q) := by rw [Int.neg_mul_neg]; omega
    have a : x / (-y) = -q := by rw [e, Int.add_mul_ediv_left _ _ (by omega), Int.ediv_eq_zero_of_lt h0 (by omega)]; omega
    have b : x % (-y) = r := by rw [e, Int.add_mul_emod_self_left, Int.emod_eq_of_lt h0 (by omega)]
    rw [Int.ediv_neg] at a
    rw [Int.emod_neg] at b
    exact ⟨by omega, b⟩
  · have e : x = r + y * q := by omega
    refine ⟨?_, ?_⟩
    · rw [e, Int.add_mul_ediv_left _ _ (by omega), Int.ediv_eq_zero_of_lt h0 (by omega)]; omega
    · rw [e, Int.add_mul_emod_self_left, Int.emod_eq_of_lt h0 (by omega)]

/-- The quotient's absolute value and the remainder, as DivMod finds them. -/
theorem divmod_abs {x y : Int} (hy : y ≠ 0) :
    (¬ (x < 0 ∧ x.natAbs % y.natAbs ≠ 0) → (x / y).natAbs = x.natAbs / y.natAbs ∧ (x % y) = (x.natAbs % y.natAbs : Nat)) ∧
    (x < 0 ∧ x.natAbs % y.natAbs ≠ 0 → (x / y).natAbs = x.natAbs / y.natAbs + 1 ∧ (x % y) = (y.natAbs - x.natAbs % y.natAbs : Nat)) ∧
    (x / y < 0 ↔ ((x < 0 ↔ ¬ y < 0) ∧ x / y ≠ 0)) := by
  have hya : y.natAbs ≠ 0 := by omega
  have hdm := Nat.div_add_mod x.natAbs y.natAbs
  have hlt := Nat.mod_lt x.natAbs (show 0 < y.natAbs by omega)
  generalize hk : x.natAbs / y.natAbs = k at *
  generalize hr : x.natAbs % y.natAbs = r at *
  have hdi : (y.natAbs : Int) * k + r = x.natAbs := by exact_mod_cast hdm
  rcases Int.lt_or_le x 0 with hx | hx <;> rcases Int.lt_or_lt_of_ne hy with hy' | hy'
  · have ey : (y.natAbs : Int) = -y := by omega
    have ex : (x.natAbs : Int) = -x := by omega
    rw [ey, ex] at hdi
    by_cases h0 : r = 0
    · obtain ⟨a, b⟩ := ediv_unique (x := x) (q := k) (r := 0) hy (by rw [h0] at hdi; simp at hdi; rw [Int.neg_mul] at hdi; omega) (by omega) (by omega)
      refine ⟨fun _ => ⟨by rw [a]; rfl, by rw [b, h0]; rfl⟩, fun h => absurd h0 h.2, by rw [a]; omega⟩
    · obtain ⟨a, b⟩ := ediv_unique (x := x) (q := k + 1) (r := y.natAbs - r) hy (by rw [ey, Int.mul_add]; rw [Int.neg_mul] at hdi; omega) (by omega) (by omega)
      refine ⟨fun h => absurd ⟨hx, h0⟩ h, fun _ => ⟨by rw [a]; omega, by rw [b]; omega⟩, by rw [a]; omega⟩
  · have ey : (y.natAbs : Int) = y := by omega
    have ex : (x.natAbs : Int) = -x := by omega
    rw [ey, ex] at hdi
    by_cases h0 : r = 0
    · obtain ⟨a, b⟩ := ediv_unique (x := x) (q := -k) (r := 0) hy (by rw [h0] at hdi; simp at hdi; rw [Int.mul_neg]; omega) (by omega) (by omega)
      refine ⟨fun _ => ⟨by rw [a]; omega, by rw [b, h0]; rfl⟩, fun h => absurd h0 h.2, by rw [a]; omega⟩
    · obtain ⟨a, b⟩ := ediv_unique (x := x) (q := -k - 1) (r := y.natAbs - r) hy (by rw [ey, Int.mul_sub, Int.mul_neg]; omega) (by omega) (by omega)
      refine ⟨fun h => absurd ⟨hx, h0⟩ h, fun _ => ⟨by rw [a]; omega, by rw [b]; omega⟩, by rw [a]; omega⟩
  · have ey : (y.natAbs : Int) = -y := by omega
    have ex : (x.natAbs : Int) = x := by omega
    rw [ey, ex] at hdi
    obtain ⟨a, b⟩ := ediv_unique (x := x) (q := -k) (r := r) hy (by rw [Int.mul_neg]; rw [Int.neg_mul] at hdi; omega) (by omega) (by omega)
    refine ⟨fun _ => ⟨by rw [a]; omega, b⟩, fun h => absurd h.1 (by omega), by rw [a]; omega⟩
  · have ey : (y.natAbs : Int) = y := by omega
    have ex : (x.natAbs : Int) = x := by omega
    rw [ey, ex] at hdi
    obtain ⟨a, b⟩ := ediv_unique (x := x) (q := k) (r := r) hy (by omega) (by omega) (by omega)
    refine ⟨fun _ => ⟨by rw [a]; omega, b⟩, fun h => absurd h.1 (by omega), by rw [a]; omega⟩

end Go.Abs.M
end

section
set_option linter.unusedVariables false
set_option linter.unusedSimpArgs false
set_option maxHeartbeats 8000000
set_option linter.unusedVariables false
set_option linter.unusedSimpArgs false
set_option maxRecDepth 100000
namespace Go.Proofs.Ytgncmjcoojmccaa
open Go Go.Abs Go.Abs.M Go.Proofs

theorem idivmod_call {x y : Int} {s t : Bool} {r q : Abs.Rows} (hx : IsI x s r) (hy : IsI y t q) (hy0 : y ≠ 0) (h1 : nl x.natAbs ≤ 274877906944) (h2 : nl y.natAbs ≤ 274877906944) :
    ∃ u w p, IsI (x / y) u w ∧ IsI (x % y) false p ∧ ACall Try.prog 56 [.val (.agg (iT s r)), .val (.agg (iT t q))] ⟨[.val (.agg (iT u w)), .val (.agg (iT false p)), .val (ti .i64 0)], [none, none]⟩ := by
  obtain ⟨a1, a2, ha1, ha2, cd⟩ := idivide_call hx.m hy.m (by omega) (by omega) (by omega)
  obtain ⟨m1, m2, m3⟩ := divmod_abs (x := x) hy0
  obtain ⟨u, hu⟩ : ∃ u, u = decide (x / y < 0) := ⟨_, rfl⟩
  obtain ⟨w, hw⟩ : ∃ w, IsM (x / y).natAbs w := ⟨_, rfl⟩
  obtain ⟨p, hp⟩ : ∃ p, IsM (x % y).natAbs p := ⟨_, rfl⟩
  have hmod0 := Int.emod_nonneg x hy0
  have hyn : y.natAbs ≠ 0 := by omega
  have hdle : x.natAbs / y.natAbs ≤ x.natAbs := Nat.div_le_self ..
  have hmlt : x.natAbs % y.natAbs < y.natAbs := Nat.mod_lt _ (by omega)
  have hs := hx.s
  have ht := hy.s
  have hbq : nl (x / y).natAbs ≤ 549755813888 := by
    have a := nl_mono (show (x / y).natAbs ≤ x.natAbs + 1 by
      by_cases h : x < 0 ∧ x.natAbs % y.natAbs ≠ 0
      · have := (m2 h).1; omega
      · have := (m1 h).1; omega)
    have b := nl_add x.natAbs 1
    have c : nl 1 ≤ 1 := nl_le_of (by omega)
    omega
  have hbr : nl (x % y).natAbs ≤ 549755813888 := by
    have a := nl_mono (show (x % y).natAbs ≤ y.natAbs by
      by_cases h : x < 0 ∧ x.natAbs % y.natAbs ≠ 0
      · have := (m2 h).2; omega
      · have := (m1 h).2; omega)
    omega
  have cm1 := isignedM (!(s == t)) u hw (by omega) (by
    rw [hu, hs, ht, Bool.eq_iff_iff]
    by_cases h : x < 0 <;> by_cases h' : y < 0 <;> simp [h, h'] at m3 ⊢ <;> omega)
  have cm2 := isignedM false false hp (by omega) rfl
  have hql : q.length = nl y.natAbs := hy.m.len
  have hql0 : nl y.natAbs ≠ 0 := fun h => hyn (nl_zero.1 h)
  have ha2l : a2.length = nl (x.natAbs % y.natAbs) := ha2.len
  have ha2z := @nl_zero (x.natAbs % y.natAbs)
  have ctr := itrimM hy.m (by omega)
  refine ⟨u, w, p, ⟨hu, hw⟩, ⟨(decide_eq_false (by omega)).symm, hp⟩, ?_⟩
  by_cases hc : x < 0 ∧ x.natAbs % y.natAbs ≠ 0
  · obtain ⟨n1, n2⟩ := m2 hc
    have ca := isum_call (s := W .u32 [1]) ha1 rfl (by have := nl_mono hdle; unfold nl at *; omega) (by simp) (dg_wd _) (Wd.cons (by omega) (by omega) Wd.nil)
    have ct := idifference_call hy.m ha2 (by unfold nl at *; omega) (by have := nl_mono (Nat.le_of_lt hmlt); unfold nl at *; omega) (dg_wd _) (dg_wd _) (by rw [dg_val, dg_val]; omega)
    rw [dg_val, dg_val] at ct
    rw [dg_val, show val [1] = 1 from rfl] at ca
    have e1 : W .u32 (dg (((x.natAbs / y.natAbs : Nat) : Int) + 1).toNat) = w := by rw [hw]; congr 2; omega
    have e2 : W .u32 (dg ((y.natAbs : Int) - ((x.natAbs % y.natAbs : Nat) : Int)).toNat) = p := by rw [hp]; congr 2; omega
    rw [e1] at ca
    rw [e2] at ct
    have hs' : s = true := by rw [hs]; exact decide_eq_true hc.1
    subst hs'
    clear m1 m2 m3 hbq hbr
    refine callZ ccOk mixed [.val, .val, .val] Try.func56 rfl rfl (by kernel_rfl) fun zwrap zadd zsub zmul zquo zrem zshl zshr zband zbor zbxor zbandn zeq zne zlt zle znot zbeq zbne zmax zmin znat zinb zofN zidx zneq znadd zdif zcut zroom zmkok zlen znth zsetr zisI zgetI zsetI zfit zpart zext zsetg zrep zwide zall zmok zmget zmset zW zth A L F hS hF => ?_
    have z1 : zeq (zofN (zlen q)) 0 = false := by rw [hS.len, hql, hS.ofN, hS.eq]; exact decide_eq_false (by omega)
    have z2 : zlt 0 (zofN (zlen a2)) = true := by rw [hS.len, ha2l, hS.ofN, hS.lt]; exact decide_eq_true (by omega)
    have z3 : zpart [[.v (.int .u32 1)]] 0 1 = W .u32 [1] := by rw [hS.part]; rfl
    have z4 : zfit 0 1 [[.v (.int .u32 1)]] = true := by rw [hS.fit]; rfl
    cbv
    refine ⟨_, hS.call ctr, ?_⟩
    cbv
    refine bF z1 ⟨_, hS.call cd, ?_⟩
    cbv
    refine bT rfl (bT z2 (nd z4 ?_))
    rw [z3]
    refine ⟨_, hS.call ca, ?_⟩
    cbv
    refine ⟨_, hS.call ct, ?_⟩
    cbv
    rw [hS.bne]
    refine ⟨_, hS.call cm1, ?_⟩
    cbv
    refine ⟨_, hS.call cm2, ?_⟩
    cbv
    exact hF _ (ResLe.refl _)
  · obtain ⟨n1, n2⟩ := m1 hc
    obtain rfl : w = a1 := by rw [hw, ha1, n1]
    obtain rfl : p = a2 := by rw [hp, ha2, n2]; rfl
    clear m1 m2 m3 hbq hbr
    refine callZ ccOk mixed [.val, .val, .val] Try.func56 rfl rfl (by kernel_rfl) fun zwrap zadd zsub zmul zquo zrem zshl zshr zband zbor zbxor zbandn zeq zne zlt zle znot zbeq zbne zmax zmin znat zinb zofN zidx zneq znadd zdif zcut zroom zmkok zlen znth zsetr zisI zgetI zsetI zfit zpart zext zsetg zrep zwide zall zmok zmget zmset zW zth A L F hS hF => ?_
    have z1 : zeq (zofN (zlen q)) 0 = false := by rw [hS.len, hql, hS.ofN, hS.eq]; exact decide_eq_false (by omega)
    have z2 : s = true → zlt 0 (zofN (zlen p)) = false := fun h => by
      rw [hS.len, ha2l, hS.ofN, hS.lt]
      rw [h] at hs
      have := of_decide_eq_true hs.symm
      exact decide_eq_false (by omega)
    have fin : A 67 [.val (tb (!(s == t))), .val (tl w)] ⟨[.val (.agg (iT u w))], [none, none]⟩ := hS.call cm1
    cbv
    refine ⟨_, hS.call ctr, ?_⟩
    cbv
    refine bF z1 ⟨_, hS.call cd, ?_⟩
    cbv
    refine ⟨fun h => bF (z2 h) ?_, fun h => ?_⟩
    all_goals
      rw [hS.bne]
      refine ⟨_, fin, ?_⟩
      cbv
      refine ⟨_, hS.call cm2, ?_⟩
      cbv
      exact hF _ (ResLe.refl _)

def ivalSt (r : Abs.Rows) (m len i : Int) : St := mkSt 22 [vl r, .junk, vi .u64 0, vi .u64 m, .junk, .junk, vi .i64 len, vi .i64 i] [none]
theorem ivalue_call {l : List Int} {r : Abs.Rows} (n : Int) (hr : r = W .u32 l) (hl : l.length ≤ 2) (hw : Wd l) (hn : n = val l) : ACall Try.prog 91 [.val (tl r)] ⟨[.val (ti .u64 n)], [none]⟩ := by
  obtain ⟨N, hN⟩ : ∃ N, N = l.length := ⟨_, rfl⟩
  refine callZ ccOk mixed [.val] Try.func91 rfl rfl (by kernel_rfl) fun zwrap zadd zsub zmul zquo zrem zshl zshr zband zbor zbxor zbandn zeq zne zlt zle znot zbeq zbne zmax zmin znat zinb zofN zidx zneq znadd zdif zcut zroom zmkok zlen znth zsetr zisI zgetI zsetI zfit zpart zext zsetg zrep zwide zall zmok zmget zmset zW zth A L F hS hF => ?_
  have h1 : zlen r = N := by rw [hS.len, hr, W_len, hN]
  have L2 := zlt_nat hS.lt hS.ofN
  have A1 : ∀ (k : Nat), k < N → ∃ (a s m' : Int) (k1 : Nat), zgetI r (znat (zofN k)) = a ∧ zwrap .u64 a = a ∧ zwrap .i64 (zmul 32 (zofN k)) = s ∧ zle 0 s = true ∧ zbor .u64 (val (l.take k)) (zshl .u64 a s) = m' ∧ zwrap .i64 (zadd (zofN k) 1) = zofN k1 ∧ zisI .u32 r (znat (zofN k)) = true ∧ zle 0 (zofN k) = true ∧ k1 = k + 1 ∧ m' = val (l.take k1) := fun k hk => by
    have ga := hw.get k
    have hv := val_take_succ' l k
    have hv0 := val_nonneg (hw.take k)
    have hv1 := val_lt (hw.take k)
    have e2 : (k : Int) = 0 ∨ (k : Int) = 1 := by omega
    refine ⟨l.getD k 0, ((32 * k : Nat) : Int), val (l.take (k + 1)), k + 1, by rw [hS.getI, hS.nat, hS.ofN, hr, W_getI, Int.toNat_natCast], by rw [hS.wrap, wrap_u64 (by omega) (by omega)], ?_, ?_, ?_, ?_, ?_, ?_, rfl, rfl⟩
    · rw [hS.wrap, hS.mul, hS.ofN, wrap_i64 (by omega) (by omega)]; omega
    · rw [hS.le]; exact decide_eq_true (by omega)
    · rw [show ∀ x y, zshl .u64 x y = ZI.std.shl .u64 x y from fun _ _ => hS.shl .., shl_std (32 * k) rfl (by show 32 * k ≤ 64; omega), show ∀ x y, zbor .u64 x y = ZI.std.bor .u64 x y from fun _ _ => hS.bor ..]
      rw [List.length_take] at hv1
      rcases (show k = 0 ∨ k = 1 by omega) with rfl | rfl
      · have z : val (l.take 0) = 0 := by simp [val]
        rw [z] at hv ⊢
        generalize l.getD 0 0 = g at *
        rw [wrap_u64 (by simp; omega) (by simp; omega), bor_lo 0 ga.1 (Int.le_refl 0) (by simp) (by simp; omega), hv]; simp
      · rw [Nat.min_eq_left (by omega)] at hv1
        rw [wrap_u64 (by omega) (by omega), bor_lo 32 ga.1 hv0 (by simpa using hv1) (by omega), hv]; omega
    · rw [hS.wrap, hS.add, hS.ofN, hS.ofN, wrap_i64 (by omega) (by omega)]; omega
    · rw [hS.isI, hr, hS.nat, hS.ofN, W_isI]; exact decide_eq_true (by omega)
    · rw [hS.le, hS.ofN]; exact decide_eq_true (by omega)
  cbv
  refine loopZ ccOk mixed hS (fun (j : Nat) s' => ∃ (k : Nat) (m : Int), k + j = N ∧ m = val (l.take k) ∧ s' = ivalSt r m (zofN N) (zofN k)) (n := N) (s0 := ivalSt r 0 (zofN N) (zofN 0)) (le_of ?_ ?_) rfl (Nat.le_refl 1) ?_ ?_
  · simp [leT, ivalSt, mkSt, vi, vl, hS.ofN, h1]
  · simp [leH, ivalSt, mkSt]
  · exact ⟨0, 0, by omega, by simp [val], rfl⟩
  · rintro j _ ⟨k, m, hk, hm, rfl⟩
    rcases Nat.lt_or_ge k N with hkn | hkn
    · obtain ⟨a, s, m', k1, E1, E2, E3, E4, E5, E6, E7, E8, hk1, hm'⟩ := A1 k hkn
      rw [← hm] at E5
      have e6 : zlt (zofN k) (zofN N) = true := (L2 k N).trans (decide_eq_true hkn)
      cbv
      refine bT e6 ?_
      rw [E1, E2, E3, E5, E6]
      refine nd E8 (nd E7 (nd E4 ?_))
      exact again (s' := ivalSt r m' (zofN N) (zofN k1)) (m := j - 1) (by simp [leT, ivalSt, mkSt, vi, vl]) (by simp [leH, ivalSt, mkSt]) rfl (Nat.le_refl 1) (by omega) ⟨k1, m', by omega, hm', rfl⟩
    · obtain rfl : k = N := by omega
      have e6 : zlt (zofN k) (zofN k) = false := (L2 k k).trans (decide_eq_false (Nat.lt_irrefl k))
      have hmn : m = n := by rw [hm, hn, List.take_of_length_le (by omega)]
      cbv
      exact bF e6 (fin1 hF (tv_int hmn))

def igcdSt (a : Bool) (b : Abs.Rows) (c : Bool) (d x y : Abs.Rows) : St := mkSt 53 [.junk, .junk, .c (.ptr 2 0 0), .c (.ptr 3 0 0), .c (.ptr 4 0 0), vl x, vl y] [none, none, some (.var [.t (.v (.bool a)), .t (.lst false b)]), some (.var [.t (.v (.bool c)), .t (.lst false d)]), some (.var [.t (.v (.bool false)), .t (.lst true [])])]
def igcd2St (a : Bool) (b : Abs.Rows) (c : Bool) (d : Abs.Rows) (m n : Int) : St := mkSt 53 [.junk, .junk, .c (.ptr 2 0 0), .c (.ptr 3 0 0), .c (.ptr 4 0 0), .junk, .junk, vi .u64 m, vi .u64 n] [none, none, some (.var [.t (.v (.bool a)), .t (.lst false b)]), some (.var [.t (.v (.bool c)), .t (.lst false d)]), some (.var [.t (.v (.bool false)), .t (.lst true [])])]
theorem igcd_call {x y : Int} {s t : Bool} {r q : Abs.Rows} (hx : IsI x s r) (hy : IsI y t q) (h1 : nl x.natAbs ≤ 274877906944) (h2 : nl y.natAbs ≤ 274877906944) :
    ∃ w, IsI (Int.gcd x y) false w ∧ ACall Try.prog 77 [.val (.agg (iT s r)), .val (.agg (iT t q))] ⟨[.val (.agg (iT false w))], [none, none]⟩ := by
  obtain ⟨w, hg⟩ : ∃ w, IsM (Int.gcd x y) w := ⟨_, rfl⟩
  have hb : nl (Int.gcd x y) ≤ 2199023255552 := by
    by_cases h : x = 0
    · subst h
      have : Int.gcd 0 y = y.natAbs := by simp [Int.gcd]
      rw [this]; omega
    · have : Int.gcd x y ≤ x.natAbs := Nat.gcd_le_left _ (by omega)
      have := nl_mono this
      omega
  refine ⟨w, ⟨(decide_eq_false (by omega)).symm, hg⟩, ?_⟩
  have cw := isignedM false false hg hb rfl
  have ct := itrimM hx.m (by omega)
  have ct2 := itrimM hy.m (by omega)
  have cl := iclone_call hx.m (by unfold nl at h1; omega)
  have cl2 := iclone_call hy.m (by unfold nl at h2; omega)
  have hr := hx.m
  have hs := hy.m
  clear hx hy
  have hgg : Int.gcd x y = Nat.gcd x.natAbs y.natAbs := rfl
  rw [hgg] at hg hb
  clear hgg
  generalize x.natAbs = a at *
  generalize y.natAbs = b at *
  refine callZ ccOk mixed [.val] Try.func77 rfl rfl (by kernel_rfl) fun zwrap zadd zsub zmul zquo zrem zshl zshr zband zbor zbxor zbandn zeq zne zlt zle znot zbeq zbne zmax zmin znat zinb zofN zidx zneq znadd zdif zcut zroom zmkok zlen znth zsetr zisI zgetI zsetI zfit zpart zext zsetg zrep zwide zall zmok zmget zmset zW zth A L F hS hF => ?_
  cbv
  refine ⟨_, hS.call (ct), ?_⟩
  cbv
  refine ⟨_, hS.call (cl), ?_⟩
  cbv
  refine ⟨_, hS.call (ct2), ?_⟩
  cbv
  refine ⟨_, hS.call (cl2), ?_⟩
  cbv
  refine loopZ ccOk mixed hS (fun (m : Nat) s' => ∃ (c : Nat) (x y : Abs.Rows), IsM c x ∧ IsM m y ∧ nl c ≤ 274877906944 ∧ nl m ≤ 274877906944 ∧ Nat.gcd c m = Nat.gcd a b ∧ s' = igcdSt s r t q x y) (n := b) (s0 := igcdSt s r t q r q) (le_of ?_ ?_) rfl (by show 2 ≤ 5; omega) ?_ ?_
  · simp [leT, igcdSt, mkSt, vl, vnil]
  · simp [leH, igcdSt, mkSt]
  · exact ⟨a, r, q, hr, hs, h1, h2, rfl, rfl⟩
  · rintro m _ ⟨c, x, y, hx, hy, l1, l2, hgc, rfl⟩
    have hmz := @nl_zero m
    have hxl : zlen x = nl c := by rw [hS.len, hx.len]
    have hyl : zlen y = nl m := by rw [hS.len, hy.len]
    have e1 : zlt 0 (zofN (zlen y)) = decide (m ≠ 0) := by
      rw [hyl, hS.lt, hS.ofN]
      by_cases h : m = 0
      · rw [decide_eq_false (show ¬ m ≠ 0 by omega)]; exact decide_eq_false (by omega)
      · rw [decide_eq_true h]; exact decide_eq_true (by omega)
    have e2 : zle (zofN (zlen x)) 2 = decide (nl c ≤ 2) := by
      rw [hxl, hS.le, hS.ofN]
      by_cases h : nl c ≤ 2
      · rw [decide_eq_true h]; exact decide_eq_true (by omega)
      · rw [decide_eq_false h]; exact decide_eq_false (by omega)
    have e3 : zle (zofN (zlen y)) 2 = decide (nl m ≤ 2) := by
      rw [hyl, hS.le, hS.ofN]
      by_cases h : nl m ≤ 2
      · rw [decide_eq_true h]; exact decide_eq_true (by omega)
      · rw [decide_eq_false h]; exact decide_eq_false (by omega)
    have hdiv : m ≠ 0 → ∃ p q, IsM (c / m) p ∧ IsM (c % m) q ∧ ACall Try.prog 75 [.val (tl x), .val (tl y)] ⟨[.val (tl p), .val (tl q)], [none, none]⟩ := fun h => idivide_call hx hy h (by omega) (by omega)
    have hend : m = 0 → x = w := fun h => by
      subst h
      rw [Nat.gcd_zero_right] at hgc
      rw [hx, hg, hgc]
    by_cases hm0 : m = 0
    · rw [hend hm0] at *
      cbv
      refine bF (by rw [e1]; exact decide_eq_false (by omega)) ?_
      refine ⟨_, hS.call (cw), ?_⟩
      cbv
      exact hF _ (ResLe.refl _)
    · by_cases hsh : nl c ≤ 2 ∧ nl m ≤ 2
      · obtain ⟨k1, k2⟩ := hsh
        have b1 := lt_nl c
        have b2 := lt_nl m
        have b3 := ipow_le k1
        have b4 := ipow_le k2
        obtain ⟨C, hC⟩ : ∃ C : Int, C = c := ⟨_, rfl⟩
        obtain ⟨M, hM⟩ : ∃ M : Int, M = m := ⟨_, rfl⟩
        have n1 := ivalue_call C hx k1 (dg_wd _) (by rw [dg_val, hC])
        have n2 := ivalue_call M hy k2 (dg_wd _) (by rw [dg_val, hM])
        have hgb : Nat.gcd c m < 18446744073709551616 := by
          have := Nat.gcd_le_right c (Nat.pos_of_ne_zero hm0); omega
        have n4 : ∀ g : Nat, g = Nat.gcd a b → ∀ G : Int, G = g → ACall Try.prog 68 [.val (ti .u64 G)] ⟨[.val (tl w)], [none]⟩ := fun g hgv G hG => by
          have := iwords_call G (by omega) (by rw [hG, hgv, ← hgc]; omega)
          rw [hG, Int.toNat_natCast, hgv, ← show w = W .u32 (dg (Nat.gcd a b)) from hg, ← hgv, ← hG] at this
          exact this
        have hcb : c < 18446744073709551616 := by omega
        have hmb : m < 18446744073709551616 := by omega
        clear b1 b2 b3 b4 l1 l2
        cbv
        refine bT (by rw [e1]; exact decide_eq_true hm0) (bT (by rw [e2]; exact decide_eq_true k1) (bT (by rw [e3]; exact decide_eq_true k2) ⟨_, hS.call n1, ?_⟩))
        cbv
        refine ⟨_, hS.call n2, ?_⟩
        cbv
        refine loopZ ccOk mixed hS (fun (j : Nat) s' => ∃ c' : Nat, c' < 18446744073709551616 ∧ j < 18446744073709551616 ∧ Nat.gcd c' j = Nat.gcd a b ∧ s' = igcd2St s r t q (zofN c') (zofN j)) (n := m) (s0 := igcd2St s r t q (zofN c) (zofN m)) (le_of ?_ ?_) rfl (by show 2 ≤ 5; omega) ?_ ?_
        · simp [leT, igcd2St, mkSt, vi, hS.ofN, hC, hM]
        · simp [leH, igcd2St, mkSt]
        · exact ⟨c, hcb, hmb, hgc, rfl⟩
        · rintro j _ ⟨c', hc', hj, hgc', rfl⟩
          have f1 : 0 < j → zrem (zofN c') (zofN j) = zofN (c' % j) := fun h => by rw [hS.rem, hS.ofN, hS.ofN, hS.ofN, Int.tmod_eq_emod_of_nonneg (by omega)]; rfl
          have f2 : zlt 0 (zofN j) = decide (0 < j) := by
            rw [hS.lt, hS.ofN]
            by_cases h : 0 < j
            · rw [decide_eq_true h]; exact decide_eq_true (by omega)
            · rw [decide_eq_false h]; exact decide_eq_false (by omega)
          have f3 : 0 < j → zne (zofN j) 0 = true := fun h => by rw [hS.ne, hS.ofN]; exact decide_eq_true (by omega)
          have f4 : j = 0 → ACall Try.prog 68 [.val (ti .u64 (zofN c'))] ⟨[.val (tl w)], [none]⟩ := fun h => by
            subst h
            rw [Nat.gcd_zero_right] at hgc'
            exact n4 c' hgc' _ (hS.ofN _)
          cbv
          refine ⟨fun h => ?_, fun h => ?_⟩
          all_goals rw [f2] at h
          · have h := of_decide_eq_true h
            rw [f1 h]
            refine nd (f3 h) ?_
            refine again (s' := igcd2St s r t q (zofN j) (zofN (c' % j))) (m := c' % j) (by simp [leT, igcd2St, mkSt, vi]) (by simp [leH, igcd2St, mkSt]) rfl (by show 2 ≤ 5; omega) (Nat.mod_lt _ h) ⟨j, hj, ?_, ?_, rfl⟩
            · have := Nat.mod_lt c' h; omega
            · rw [← hgc', Nat.gcd_comm c' j, Nat.gcd_rec j c', Nat.gcd_comm]
          · have h := of_decide_eq_false h
            refine ⟨_, hS.call (f4 (by omega)), ?_⟩
            cbv
            refine ⟨_, hS.call (cw), ?_⟩
            cbv
            exact hF _ (ResLe.refl _)
      · obtain ⟨p, q', _, hq, cd⟩ := hdiv hm0
        have nx : ∃ (c' : Nat) (x' y' : Abs.Rows), IsM c' x' ∧ IsM (c % m) y' ∧ nl c' ≤ 274877906944 ∧ nl (c % m) ≤ 274877906944 ∧ Nat.gcd c' (c % m) = Nat.gcd a b ∧ igcdSt s r t q y q' = igcdSt s r t q x' y' :=
          ⟨m, y, q', hy, hq, l2, Nat.le_trans (nl_mono (Nat.le_of_lt (Nat.mod_lt _ (Nat.pos_of_ne_zero hm0)))) l2, by rw [← hgc, Nat.gcd_comm c m, Nat.gcd_rec m c, Nat.gcd_comm], rfl⟩
        have e1' : zlt 0 (zofN (zlen y)) = true := by rw [e1]; exact decide_eq_true hm0
        cbv
        refine bT e1' ⟨fun h2 => bF ?_ ?_, fun h2 => ?_⟩
        · rw [e3]; rw [e2] at h2; have := of_decide_eq_true h2; exact decide_eq_false (by omega)
        all_goals
          refine ⟨_, hS.call cd, ?_⟩
          cbv
          exact again (s' := igcdSt s r t q y q') (m := c % m) (by simp [leT, igcdSt, mkSt, vl, vnil]) (by simp [leH, igcdSt, mkSt]) rfl (by show 2 ≤ 5; omega) (Nat.mod_lt _ (Nat.pos_of_ne_zero hm0)) nx
end Go.Proofs.Ytgncmjcoojmccaa
end

section
set_option linter.unusedVariables false
set_option linter.unusedSimpArgs false
set_option maxHeartbeats 8000000
set_option linter.unusedVariables false
set_option linter.unusedSimpArgs false
set_option maxRecDepth 100000
namespace Go.Proofs.Ytgncmjcoojmccaa
open Go Go.Abs Go.Abs.M Go.Proofs

theorem cmpI_cases (x y : Int) : (cmpI x y ≤ 0 ↔ x ≤ y) ∧ (cmpI x y = 0 ↔ x = y) ∧ (cmpI x y < 0 ↔ x < y) := by
  unfold cmpI
  split
  · omega
  · split <;> omega

/-- 'small': twice the square is at most the limit. -/
theorem psmall_call {x l : Int} {s c : Bool} {r d : Abs.Rows} (hx : IsI x s r) (hl : IsI l c d) (h1 : nl x.natAbs ≤ 68719476736) (h2 : nl l.natAbs ≤ 68719476736) :
    ACall Try.prog 53 [.val (.agg (iT s r)), .ref (iT c d)] ⟨[.val (tb (decide (x * x + x * x ≤ l)))], [none, some (.var [.t (.v (.bool c)), .t (.lst false d)])]⟩ := by
  obtain ⟨a1, a2, ha, ca⟩ := imul_call hx hx (by omega) (by omega)
  have n1 := nl_mul x.natAbs x.natAbs
  have n2 : nl (x * x).natAbs ≤ 137438953472 := by rw [Int.natAbs_mul]; omega
  obtain ⟨b1, b2, hb, cb⟩ := iadd_call ha ha (by omega) (by omega)
  have n3 := nl_mono (Int.natAbs_add_le (x * x) (x * x))
  have n4 := nl_add (x * x).natAbs (x * x).natAbs
  obtain ⟨v, hv⟩ : ∃ v, v = cmpI (x * x + x * x) l := ⟨_, rfl⟩
  have cc := icmp_call v hb hl hv (by omega) (by omega)
  have hz := (cmpI_cases (x * x + x * x) l).1
  rw [← hv] at hz
  have hd : decide (v ≤ 0) = decide (x * x + x * x ≤ l) := by simp [hz]
  rw [← hd]
  refine callZ ccOk mixed [.val] Try.func53 rfl rfl (by kernel_rfl) fun zwrap zadd zsub zmul zquo zrem zshl zshr zband zbor zbxor zbandn zeq zne zlt zle znot zbeq zbne zmax zmin znat zinb zofN zidx zneq znadd zdif zcut zroom zmkok zlen znth zsetr zisI zgetI zsetI zfit zpart zext zsetg zrep zwide zall zmok zmget zmset zW zth A L F hS hF => ?_
  have e : zle v 0 = decide (v ≤ 0) := hS.le ..
  clear hv hz hd n1 n2 n3 n4
  cbv
  refine ⟨_, hS.call (ca), ?_⟩
  cbv
  refine ⟨_, hS.call (cb), ?_⟩
  cbv
  refine ⟨_, hS.call (cc), ?_⟩
  cbv
  exact fin1 hF (tv_bool e)

theorem pcombine_call {ar ad br bd q : Int} {s1 s2 s3 s4 s5 : Bool} {r1 r2 r3 r4 r5 : Abs.Rows} (h1 : IsI ar s1 r1) (h2 : IsI ad s2 r2) (h3 : IsI br s3 r3) (h4 : IsI bd s4 r4) (h5 : IsI q s5 r5)
    (l1 : nl ar.natAbs ≤ 68719476736) (l2 : nl ad.natAbs ≤ 68719476736) (l3 : nl br.natAbs ≤ 68719476736) (l4 : nl bd.natAbs ≤ 68719476736) (l5 : nl q.natAbs ≤ 68719476736) :
    ∃ u w v p, IsI (ar - q * br) u w ∧ IsI (ad - q * bd) v p ∧ ACall Try.prog 55 [.val (.agg (iT s1 r1 ++ iT s2 r2)), .val (.agg (iT s3 r3 ++ iT s4 r4)), .val (.agg (iT s5 r5))] ⟨[.val (.agg (iT u w ++ iT v p))], [none, none, none]⟩ := by
  have n1 := nl_mul q.natAbs br.natAbs
  have n2 := nl_mul q.natAbs bd.natAbs
  obtain ⟨a1, a2, ha, ca⟩ := imul_call h5 h3 (by omega) (by omega)
  obtain ⟨b1, b2, hb, cb⟩ := isub_call h1 ha (by omega) (by rw [Int.natAbs_mul]; omega)
  obtain ⟨c1, c2, hc, cc⟩ := imul_call h5 h4 (by omega) (by omega)
  obtain ⟨d1, d2, hd, cd⟩ := isub_call h2 hc (by omega) (by rw [Int.natAbs_mul]; omega)
  refine ⟨_, _, _, _, hb, hd, ?_⟩
  refine callZ ccOk mixed [.val] Try.func55 rfl rfl (by kernel_rfl) fun zwrap zadd zsub zmul zquo zrem zshl zshr zband zbor zbxor zbandn zeq zne zlt zle znot zbeq zbne zmax zmin znat zinb zofN zidx zneq znadd zdif zcut zroom zmkok zlen znth zsetr zisI zgetI zsetI zfit zpart zext zsetg zrep zwide zall zmok zmget zmset zW zth A L F hS hF => ?_
  cbv
  refine ⟨_, hS.call (ca), ?_⟩
  cbv
  refine ⟨_, hS.call (cb), ?_⟩
  cbv
  refine ⟨_, hS.call (cc), ?_⟩
  cbv
  refine ⟨_, hS.call (cd), ?_⟩
  cbv
  exact hF _ (ResLe.refl _)

theorem pcoprime_call {x y : Int} {s t : Bool} {r q : Abs.Rows} (hx : IsI x s r) (hy : IsI y t q) (h1 : nl x.natAbs ≤ 274877906944) (h2 : nl y.natAbs ≤ 274877906944) :
    ACall Try.prog 58 [.val (.agg (iT s r)), .val (.agg (iT t q))] ⟨[.val (tb (decide (Int.gcd x y = 1)))], [none, none]⟩ := by
  obtain ⟨w, hw, cg⟩ := igcd_call hx hy h1 h2
  obtain ⟨a1, a2, ha, ca⟩ := iof_call 1 (by omega) (by omega)
  have hb : nl (Int.gcd x y) ≤ 274877906944 := by
    by_cases h : x = 0
    · subst h
      have : Int.gcd 0 y = y.natAbs := by simp [Int.gcd]
      rw [this]; omega
    · have : Int.gcd x y ≤ x.natAbs := Nat.gcd_le_left _ (by omega)
      have := nl_mono this
      omega
  have n1 : nl (1 : Int).natAbs ≤ 1 := nl_le_of (by omega)
  obtain ⟨v, hv⟩ : ∃ v, v = cmpI (Int.gcd x y) 1 := ⟨_, rfl⟩
  have cc := icmp_call v hw ha hv (by rw [Int.natAbs_natCast]; omega) (by omega)
  have hz := (cmpI_cases (Int.gcd x y) 1).2.1
  rw [← hv] at hz
  have hd : decide (v = 0) = decide (Int.gcd x y = 1) := by
    by_cases h : v = 0
    · rw [decide_eq_true h]; have := hz.1 h; exact (decide_eq_true (by omega)).symm
    · rw [decide_eq_false h]; have := fun h' => h (hz.2 h'); exact (decide_eq_false (by omega)).symm
  rw [← hd]
  refine callZ ccOk mixed [.val] Try.func58 rfl rfl (by kernel_rfl) fun zwrap zadd zsub zmul zquo zrem zshl zshr zband zbor zbxor zbandn zeq zne zlt zle znot zbeq zbne zmax zmin znat zinb zofN zidx zneq znadd zdif zcut zroom zmkok zlen znth zsetr zisI zgetI zsetI zfit zpart zext zsetg zrep zwide zall zmok zmget zmset zW zth A L F hS hF => ?_
  have e : zeq v 0 = decide (v = 0) := hS.eq ..
  clear hv hz hd hb n1
  cbv
  refine ⟨_, hS.call (cg), ?_⟩
  cbv
  refine ⟨_, hS.call (ca), ?_⟩
  cbv
  refine ⟨_, hS.call (cc), ?_⟩
  cbv
  exact fin1 hF (tv_bool e)
end Go.Proofs.Ytgncmjcoojmccaa
end

section
set_option linter.unusedVariables false
set_option linter.unusedSimpArgs false
/-
  Small fractions with a given residue: the extended Euclidean algorithm finds the only one.
-/
set_option linter.unusedVariables false
namespace Go.Abs.M

theorem sq_nn (x : Int) : 0 ≤ x * x := by
  rcases Int.le_total 0 x with h | h
  · exact Int.mul_nonneg h h
  · exact Int.mul_nonneg_of_nonpos_of_nonpos h h

theorem two_mul_le (x y : Int) : x * y + x * y ≤ x * x + y * y := by
  have h := sq_nn (x - y)
  have e : (x - y) * (x - y) = x * x - (x * y + x * y) + y * y := by grind
  omega

theorem sq_le {x y : Int} (hx : 0 ≤ x) (h : x ≤ y) : x * x ≤ y * y := Int.mul_le_mul h h hx (by omega)

/-- A solution: a small fraction in lowest terms with the residue u modulo m. -/
structure RebSol (u m n d : Int) : Prop where
  pos : 0 < d
  sn : n * n + n * n ≤ m - 1
  sd : d * d + d * d ≤ m - 1
  co : Int.gcd n d = 1
  cm : Int.gcd d m = 1
  dv : m ∣ n - u * d

structure RInv (u m ra da rb db e : Int) : Prop where
  mp : 0 < m
  ca : m ∣ ra - u * da
  cb : m ∣ rb - u * db
  r0 : 0 ≤ rb
  rl : rb < ra
  det : ra * db - rb * da = e * m
  he : e = 1 ∨ e = -1
  pb : 0 < e * db
  pa : e * da ≤ 0
  big : m - 1 < ra * ra + ra * ra

section
variable {u m ra da rb db e n d : Int}

theorem RInv.start (hm : 0 < m) : RInv u m m 0 (u % m) 1 1 := by
  refine ⟨hm, ⟨1, by grind⟩, ?_, Int.emod_nonneg _ (by omega), Int.emod_lt_of_pos _ hm, by grind, .inl rfl, by omega, by omega, ?_⟩
  · have := Int.emod_add_mul_ediv u m
    exact ⟨-(u / m), by grind⟩
  · have : m * 1 ≤ m * m := Int.mul_le_mul_of_nonneg_left (by omega) (by omega)
    omega

theorem RInv.step (h : RInv u m ra da rb db e) (hb : ¬ rb * rb + rb * rb ≤ m - 1) : 0 < rb ∧ RInv u m rb db (ra - ra / rb * rb) (da - ra / rb * db) (-e) ∧ ra - ra / rb * rb < rb := by
  obtain ⟨mp, ca, cb, r0, rl, det, he, pb, pa, big⟩ := h
  have hr : 0 < rb := by
    rcases Int.lt_or_le 0 rb with h | h
    · exact h
    · have : rb = 0 := by omega
      subst this; simp at hb; omega
  have e1 := Int.emod_add_mul_ediv ra rb
  have m0 := Int.emod_nonneg ra (show rb ≠ 0 by omega)
  have m1 := Int.emod_lt_of_pos ra hr
  have q1 : 1 ≤ ra / rb := by
    rcases Int.lt_or_le 0 (ra / rb) with h | h
    · omega
    · have : rb * (ra / rb) ≤ rb * 0 := Int.mul_le_mul_of_nonneg_left h (by omega)
      omega
  have e2 : ra - ra / rb * rb = ra % rb := by rw [Int.mul_comm]; omega
  rw [e2]
  refine ⟨hr, ⟨mp, cb, ?_, m0, m1, ?_, ?_, ?_, ?_, by omega⟩, m1⟩
  · obtain ⟨x, hx⟩ := ca
    obtain ⟨y, hy⟩ := cb
    refine ⟨x - ra / rb * y, ?_⟩
    rw [← e2]
    generalize ra / rb = q at *
    grind
  · rw [← e2]
    generalize ra / rb = q at *
    grind
  · rcases he with rfl | rfl
    · right; rfl
    · left; rfl
  · have x1 : -e * (da - ra / rb * db) = -(e * da) + ra / rb * (e * db) := by grind
    have x2 : 1 * (e * db) ≤ ra / rb * (e * db) := Int.mul_le_mul_of_nonneg_right q1 (by omega)
    omega
  · have : -e * db = -(e * db) := Int.neg_mul ..
    omega

theorem RInv.small (h : RInv u m ra da rb db e) : (e * db) * ra ≤ m ∧ (-(e * da)) * rb ≤ m ∧ e * db ≤ m := by
  obtain ⟨mp, ca, cb, r0, rl, det, he, pb, pa, big⟩ := h
  have k : (e * db) * ra + (-(e * da)) * rb = m := by
    have : e * (ra * db - rb * da) = e * (e * m) := by rw [det]
    have ee : e * e = 1 := by rcases he with rfl | rfl <;> rfl
    have : e * (e * m) = m := by rw [← Int.mul_assoc, ee, Int.one_mul]
    grind
  have x1 : 0 ≤ (e * db) * ra := Int.mul_nonneg (by omega) (by omega)
  have x2 : 0 ≤ (-(e * da)) * rb := Int.mul_nonneg (by omega) r0
  have x3 : e * db * 1 ≤ e * db * ra := Int.mul_le_mul_of_nonneg_left (by omega) (by omega)
  omega

theorem RInv.complete (h : RInv u m ra da rb db e) (hs : rb * rb + rb * rb ≤ m - 1) (sol : RebSol u m n d) : n = e * rb ∧ d = e * db := by
  obtain ⟨mp, ca, cb, r0, rl, det, he, pb, pa, big⟩ := h
  obtain ⟨dp, sn, sd, co, cm, dv⟩ := sol
  have ee : e * e = 1 := by rcases he with rfl | rfl <;> rfl
  obtain ⟨x, hx⟩ := ca
  obtain ⟨y, hy⟩ := cb
  obtain ⟨z, hz⟩ := dv
  obtain ⟨A, hA⟩ : ∃ A, A = z * db - y * d := ⟨_, rfl⟩
  obtain ⟨B, hB⟩ : ∃ B, B = x * d - z * da := ⟨_, rfl⟩
  have tA : n * db - rb * d = m * A := by grind
  have tB : ra * d - n * da = m * B := by grind
  have n1 : e * n = A * ra + B * rb := by
    have : m * (e * n) = m * (A * ra + B * rb) := by grind
    exact Int.eq_of_mul_eq_mul_left (by omega) this
  have d1 : e * d = A * da + B * db := by
    have : m * (e * d) = m * (A * da + B * db) := by grind
    exact Int.eq_of_mul_eq_mul_left (by omega) this
  have d2 : d = A * (e * da) + B * (e * db) := by grind
  have nsq : n * n = (A * ra + B * rb) * (A * ra + B * rb) := by grind
  have far : ∀ k : Int, ra ≤ k → n * n = k * k → False := fun k hk h => by
    have := sq_le (show 0 ≤ ra by omega) hk
    omega
  have hA0 : A = 0 := by
    rcases Int.lt_trichotomy A 0 with h | h | h
    · exfalso
      rcases Int.lt_or_le 0 B with hb | hb
      · -- the other way: the numbers are too small
        have y1 : 0 ≤ A * (e * da) := Int.mul_nonneg_of_nonpos_of_nonpos (by omega) pa
        have y2 : 1 * (e * db) ≤ B * (e * db) := Int.mul_le_mul_of_nonneg_right (by omega) (by omega)
        have hP : e * db ≤ d := by omega
        have t1 := two_mul_le rb d
        have hm1 : m * A ≤ m * (-1) := Int.mul_le_mul_of_nonneg_left (by omega) (by omega)
        have e3 : n * db = (e * n) * (e * db) := by
          have : (e * n) * (e * db) = e * e * (n * db) := by grind
          rw [this, ee, Int.one_mul]
        have hen : (e * n) * (e * n) = n * n := by
          have : (e * n) * (e * n) = e * e * (n * n) := by grind
          rw [this, ee, Int.one_mul]
        generalize e * n = N at *
        rcases Int.le_total 0 N with hN | hN
        · have : 0 ≤ N * (e * db) := Int.mul_nonneg hN (by omega)
          omega
        · have y3 : (-N) * (e * db) ≤ (-N) * d := Int.mul_le_mul_of_nonneg_left hP (by omega)
          have t2 := two_mul_le (-N) d
          have y4 : (-N) * (-N) = N * N := by grind
          have y5 : (-N) * (e * db) = -(N * (e * db)) := Int.neg_mul ..
          omega
      · refine far (-(A * ra + B * rb)) ?_ (by rw [nsq]; grind)
        have y1 : (-A) * ra ≥ 1 * ra := Int.mul_le_mul_of_nonneg_right (by omega) (by omega)
        have y2 : 0 ≤ (-B) * rb := Int.mul_nonneg (by omega) r0
        have y3 : -(A * ra + B * rb) = (-A) * ra + (-B) * rb := by grind
        omega
    · exact h
    · exfalso
      rcases Int.lt_or_le B 0 with hb | hb
      · have y1 : A * (e * da) ≤ 0 := Int.mul_nonpos_of_nonneg_of_nonpos (by omega) pa
        have y2 : B * (e * db) ≤ 0 := Int.mul_nonpos_of_nonpos_of_nonneg (by omega) (by omega)
        omega
      · refine far (A * ra + B * rb) ?_ nsq
        have y1 : 1 * ra ≤ A * ra := Int.mul_le_mul_of_nonneg_right (by omega) (by omega)
        have y2 : 0 ≤ B * rb := Int.mul_nonneg hb r0
        omega
  subst hA0
  have n2 : n = (e * B) * rb := by
    have : e * (e * n) = e * (0 * ra + B * rb) := by rw [n1]
    have k : e * (e * n) = n := by rw [← Int.mul_assoc, ee, Int.one_mul]
    grind
  have d3 : d = (e * B) * db := by
    have : e * (e * d) = e * (0 * da + B * db) := by rw [d1]
    have k : e * (e * d) = d := by rw [← Int.mul_assoc, ee, Int.one_mul]
    grind
  have hg : (e * B).natAbs ∣ 1 := by
    rw [← co]
    refine Nat.dvd_gcd ?_ ?_
    · exact Int.natAbs_dvd_natAbs.2 ⟨rb, n2⟩
    · exact Int.natAbs_dvd_natAbs.2 ⟨db, d3⟩
  have h1 : (e * B).natAbs = 1 := Nat.dvd_one.1 hg
  have hBp : 0 < B := by
    rcases Int.lt_or_le 0 B with h | h
    · exact h
    · have : B * (e * db) ≤ 0 := Int.mul_nonpos_of_nonpos_of_nonneg h (by omega)
      omega
  have hB1 : B = 1 := by
    rcases he with rfl | rfl
    · omega
    · omega
  subst hB1
  exact ⟨by rw [n2, Int.mul_one], by rw [d3, Int.mul_one]⟩

/-- What is found is a solution. -/
theorem RInv.sound (h : RInv u m ra da rb db e) (hs : rb * rb + rb * rb ≤ m - 1) (h1 : (e * db) * (e * db) + (e * db) * (e * db) ≤ m - 1) (h2 : Int.gcd (e * rb) (e * db) = 1) (h3 : Int.gcd (e * db) m = 1) : RebSol u m (e * rb) (e * db) := by
  have ee : e * e = 1 := by rcases h.he with rfl | rfl <;> rfl
  refine ⟨h.pb, ?_, h1, h2, h3, ?_⟩
  · have : (e * rb) * (e * rb) = e * e * (rb * rb) := by grind
    rw [this, ee, Int.one_mul]; exact hs
  · obtain ⟨y, hy⟩ := h.cb
    exact ⟨e * y, by grind⟩

end
theorem int_cop {a b c : Int} (h : a ∣ b * c) (hg : Int.gcd b a = 1) : a ∣ c := by
  have hc : Nat.Coprime a.natAbs b.natAbs := by
    have : Nat.gcd b.natAbs a.natAbs = 1 := hg
    rw [Nat.gcd_comm] at this; exact this
  have h2 : a.natAbs ∣ b.natAbs * c.natAbs := by rw [← Int.natAbs_mul]; exact Int.natAbs_dvd_natAbs.2 h
  exact Int.natAbs_dvd_natAbs.1 (hc.dvd_of_dvd_mul_left h2)

/-- There is at most one. -/
theorem RebSol.unique {u m n d n' d' : Int} (h : RebSol u m n d) (h' : RebSol u m n' d') : n = n' ∧ d = d' := by
  obtain ⟨x, hx⟩ := h.dv
  obtain ⟨y, hy⟩ := h'.dv
  have e : n * d' - n' * d = m * (x * d' - y * d) := by grind
  have t1 := two_mul_le n d'
  have t2 := two_mul_le (-n) d'
  have t3 := two_mul_le n' d
  have t4 := two_mul_le (-n') d
  have k1 : (-n) * d' = -(n * d') := Int.neg_mul ..
  have k2 : (-n) * (-n) = n * n := by grind
  have k3 : (-n') * d = -(n' * d) := Int.neg_mul ..
  have k4 : (-n') * (-n') = n' * n' := by grind
  have s1 := h.sn
  have s2 := h.sd
  have s3 := h'.sn
  have s4 := h'.sd
  have hm : 0 < m := by have := sq_nn n; omega
  have hz : n * d' = n' * d := by
    generalize x * d' - y * d = z at *
    rcases Int.lt_trichotomy z 0 with h | h | h
    · have : m * z ≤ m * (-1) := Int.mul_le_mul_of_nonneg_left (by omega) (by omega); omega
    · subst h; omega
    · have : m * 1 ≤ m * z := Int.mul_le_mul_of_nonneg_left (by omega) (by omega); omega
  have c1 : d ∣ d' := int_cop (b := n) ⟨n', by grind⟩ h.co
  have c2 : d' ∣ d := int_cop (b := n') ⟨n, by grind⟩ h'.co
  have hd : d = d' := Int.dvd_antisymm (by have := h.pos; omega) (by have := h'.pos; omega) c1 c2
  subst hd
  exact ⟨Int.eq_of_mul_eq_mul_right (by have := h.pos; omega) hz, rfl⟩

end Go.Abs.M
end

section
set_option linter.unusedVariables false
set_option linter.unusedSimpArgs false
set_option maxHeartbeats 8000000
set_option linter.unusedVariables false
set_option linter.unusedSimpArgs false
set_option maxRecDepth 100000
namespace Go.Proofs.Ytgncmjcoojmccaa
open Go Go.Abs Go.Abs.M Go.Proofs

def prebSt (m l ra da rb db : Bool × Abs.Rows) : St := mkSt 91 [.junk, .junk, .junk, .c (.ptr 3 0 0), .c (.ptr 4 0 0), .junk, .junk, .c (.clo 53 [(11, 0, 0)]), .c (.t (.v (.func (.func 55) #[] #[]))), .junk, .junk, .junk, .c (.ptr 20 0 0), .c (.ptr 21 0 0)]
  [none, none, none, some (.var [.t (.v (.bool m.1)), .t (.lst false m.2)]), some (.var [.t (.v (.bool false)), .t (.lst true []), .t (.v (.bool false)), .t (.lst true [])]), none, none, none, none, none, none,
   some (.var [.t (.v (.bool l.1)), .t (.lst false l.2)]), none, none, none, none, none, none, none, none,
   some (.var [.t (.v (.bool ra.1)), .t (.lst false ra.2), .t (.v (.bool da.1)), .t (.lst false da.2)]), some (.var [.t (.v (.bool rb.1)), .t (.lst false rb.2), .t (.v (.bool db.1)), .t (.lst false db.2)])]

/-- What is found: the fraction, or nothing. -/
inductive RebRes (u m : Int) : List Tree → Bool → Prop where
  | found {n d : Int} {s t : Bool} {r q : Abs.Rows} : RebSol u m n d → IsI n s r → IsI d t q → RebRes u m (iT s r ++ iT t q) true
  | none : (∀ n d, ¬ RebSol u m n d) → RebRes u m (iT false [] ++ iT false []) false

theorem rebres_ex (u m : Int) : ∃ X b, RebRes u m X b := by
  by_cases h : ∃ n d, RebSol u m n d
  · obtain ⟨n, d, h⟩ := h
    exact ⟨_, _, .found h (.mk' n) (.mk' d)⟩
  · exact ⟨_, _, .none fun n d hs => h ⟨n, d, hs⟩⟩

theorem prebuild_call {u m : Int} {s t : Bool} {r q : Abs.Rows} {X : List Tree} {b : Bool} (hu : IsI u s r) (hm : IsI m t q) (hpos : 0 < m) (h1 : nl u.natAbs ≤ 274877906944) (h2 : nl m.natAbs ≤ 4294967296) (hX : RebRes u m X b) :
    ACall Try.prog 33 [.val (.agg (iT s r)), .val (.agg (iT t q))] ⟨[.val (.agg X), .val (tb b)], [none, none]⟩ := by
  obtain ⟨o1, o2, ho, co⟩ := iof_call 1 (by omega) (by omega)
  obtain ⟨z1, z2, hz, cz⟩ := iof_call 0 (by omega) (by omega)
  have n1 : nl (1 : Int).natAbs ≤ 1 := nl_le_of (by omega)
  obtain ⟨l1, l2, hl, cl⟩ := isub_call hm ho (by omega) (by omega)
  have csg := isign_call 1 hm (cmpI_gt hpos).symm
  obtain ⟨q1, q2, q3, _, hr, cd⟩ := idivmod_call hu hm (by omega) h1 (by omega)
  -- what lies between - m and m is short
  have sz : ∀ x : Int, x.natAbs ≤ m.natAbs → nl x.natAbs ≤ 4294967296 := fun x hx => Nat.le_trans (nl_mono hx) h2
  have lsz : nl (m - 1).natAbs ≤ 4294967296 := sz _ (by omega)
  refine callZ ccOk mixed [.val, .val] Try.func33 rfl rfl (by kernel_rfl) fun zwrap zadd zsub zmul zquo zrem zshl zshr zband zbor zbxor zbandn zeq zne zlt zle znot zbeq zbne zmax zmin znat zinb zofN zidx zneq znadd zdif zcut zroom zmkok zlen znth zsetr zisI zgetI zsetI zfit zpart zext zsetg zrep zwide zall zmok zmget zmset zW zth A L F hS hF => ?_
  have w1 : zle 1 0 = false := by rw [hS.le]; rfl
  cbv
  refine ⟨_, hS.call (csg), ?_⟩
  cbv
  refine bF (w1) ?_
  refine ⟨_, hS.call (co), ?_⟩
  cbv
  refine ⟨_, hS.call (cl), ?_⟩
  cbv
  refine ⟨_, hS.call (cd), ?_⟩
  cbv
  refine ⟨_, hS.call (cz), ?_⟩
  cbv
  refine ⟨_, hS.call (co), ?_⟩
  cbv
  refine loopZ ccOk mixed hS (fun (k : Nat) s' => ∃ (ra da rb db e : Int) (a1 : Bool) (a2 : Abs.Rows) (b1 : Bool) (b2 : Abs.Rows) (c1 : Bool) (c2 : Abs.Rows) (d1 : Bool) (d2 : Abs.Rows), RInv u m ra da rb db e ∧ (ra ≤ m ∧ -(e * da) ≤ m) ∧ rb = (k : Int) ∧ IsI ra a1 a2 ∧ IsI da b1 b2 ∧ IsI rb c1 c2 ∧ IsI db d1 d2 ∧ s' = prebSt (t, q) (l1, l2) (a1, a2) (b1, b2) (c1, c2) (d1, d2)) (n := (u % m).toNat)
    (s0 := prebSt (t, q) (l1, l2) (t, q) (z1, z2) (false, q3) (o1, o2)) (le_of ?_ ?_) rfl (by show 2 ≤ 22; omega) ?_ ?_
  · simp [leT, prebSt, mkSt]
  · simp [leH, prebSt, mkSt]
  · have := Int.emod_nonneg u (show m ≠ 0 by omega)
    exact ⟨m, 0, u % m, 1, 1, _, _, _, _, _, _, _, _, .start hpos, by omega, by omega, hm, hz, hr, ho, rfl⟩
  · rintro k _ ⟨ra, da, rb, db, e, a1, a2, b1, b2, c1, c2, d1, d2, hI, hle, hk, ha, hda, hb, hdb, rfl⟩
    have cs := psmall_call hb hl (by have := sz rb (by have := hI.r0; have := hI.rl; omega); omega) (by omega)
    obtain ⟨k1, k2, k3⟩ := hI.small
    have he := hI.he
    have hr0 := hI.r0
    have hrl := hI.rl
    have hpb := hI.pb
    have hpa := hI.pa
    have adb : db.natAbs ≤ m.natAbs := by rcases he with rfl | rfl <;> omega
    have ada : da.natAbs ≤ m.natAbs := by rcases he with rfl | rfl <;> omega
    have sra := sz ra (by omega)
    have srb := sz rb (by omega)
    have sda := sz da ada
    have sdb := sz db adb
    by_cases hsm : rb * rb + rb * rb ≤ m - 1
    · rw [decide_eq_true hsm] at cs
      -- the end: sign, size and common factors are asked
      obtain ⟨n, hn⟩ : ∃ n, n = e * rb := ⟨_, rfl⟩
      obtain ⟨d, hd⟩ : ∃ d, d = e * db := ⟨_, rfl⟩
      have hnn : n.natAbs = rb.natAbs := by rcases he with rfl | rfl <;> omega
      have hdd : d.natAbs = db.natAbs := by rcases he with rfl | rfl <;> omega
      have snn : nl n.natAbs ≤ 4294967296 := by rw [hnn]; exact srb
      have sdd : nl d.natAbs ≤ 4294967296 := by rw [hdd]; exact sdb
      have csn := isign_call (cmpI db 0) hdb rfl
      obtain ⟨e1, e2, hne, cne⟩ := ineg_call hb (by omega)
      obtain ⟨f1, f2, hnf, cnf⟩ := ineg_call hdb (by omega)
      have fin_t : d * d + d * d ≤ m - 1 → Int.gcd n d = 1 → Int.gcd d m = 1 → ∀ (x1 y1 : Bool) (x2 y2 : Abs.Rows), IsI n x1 x2 → IsI d y1 y2 → X = iT x1 x2 ++ iT y1 y2 ∧ b = true := fun g1 g2 g3 x1 y1 x2 y2 i1 i2 => by
        have hsol := hI.sound hsm (by rw [← hd]; exact g1) (by rw [← hd, ← hn]; exact g2) (by rw [← hd]; exact g3)
        cases hX with
        | found hs i3 i4 =>
          obtain ⟨r1, r2⟩ := hI.complete hsm hs
          rw [← hn] at r1
          rw [← hd] at r2
          obtain ⟨rfl, rfl⟩ := (i3.of r1).inj i1
          obtain ⟨rfl, rfl⟩ := (i4.of r2).inj i2
          exact ⟨rfl, rfl⟩
        | none hs => exact absurd hsol (hs _ _)
      have fin_f : ¬ (d * d + d * d ≤ m - 1 ∧ Int.gcd n d = 1 ∧ Int.gcd d m = 1) → X = iT false [] ++ iT false [] ∧ b = false := fun hnot => by
        cases hX with
        | found hs i3 i4 =>
          obtain ⟨r1, r2⟩ := hI.complete hsm hs
          rw [← hn] at r1
          rw [← hd] at r2
          subst r1 r2
          exact absurd ⟨hs.sd, hs.co, hs.cm⟩ hnot
        | none hs => exact ⟨rfl, rfl⟩
      clear hI hX hle hk k1 k2 k3 sra sda ada ha hda
      have tail : ∀ (x1 y1 : Bool) (x2 y2 : Abs.Rows), IsI n x1 x2 → IsI d y1 y2 → ACall Try.prog 53 [.val (.agg (iT y1 y2)), .ref (iT l1 l2)] ⟨[.val (tb (decide (d * d + d * d ≤ m - 1)))], [none, some (.var [.t (.v (.bool l1)), .t (.lst false l2)])]⟩ ∧
          ACall Try.prog 58 [.val (.agg (iT x1 x2)), .val (.agg (iT y1 y2))] ⟨[.val (tb (decide (Int.gcd n d = 1)))], [none, none]⟩ ∧
          ACall Try.prog 58 [.val (.agg (iT y1 y2)), .val (.agg (iT t q))] ⟨[.val (tb (decide (Int.gcd d m = 1)))], [none, none]⟩ := fun x1 y1 x2 y2 i1 i2 =>
        ⟨psmall_call i2 hl (by omega) (by omega), pcoprime_call i1 i2 (by omega) (by omega), pcoprime_call i2 hm (by omega) (by omega)⟩
      have fin_z : X = iT false [] ++ iT false [] ∧ b = false → F ⟨[.val (.agg [.v (.bool false), .lst true [], .v (.bool false), .lst true []]), .val (tb false)], [none, none]⟩ := fun ⟨g1, g2⟩ => by
        rw [g1, g2] at hF
        exact fin2w hF ⟨.v _, TLe.drop _ _, .v _, TLe.drop _ _, trivial⟩ (TVLe.refl _)
      obtain ⟨P1, hP1⟩ : ∃ P, P = decide (d * d + d * d ≤ m - 1) := ⟨_, rfl⟩
      obtain ⟨P2, hP2⟩ : ∃ P, P = decide (Int.gcd n d = 1) := ⟨_, rfl⟩
      obtain ⟨P3, hP3⟩ : ∃ P, P = decide (Int.gcd d m = 1) := ⟨_, rfl⟩
      rw [← hP1, ← hP2, ← hP3] at tail
      have fin_z1 : P1 = false → X = iT false [] ++ iT false [] ∧ b = false := fun h => fin_f fun h' => of_decide_eq_false (hP1.symm.trans h) h'.1
      have fin_z2 : P2 = false → X = iT false [] ++ iT false [] ∧ b = false := fun h => fin_f fun h' => of_decide_eq_false (hP2.symm.trans h) h'.2.1
      have fin_z3 : P3 = false → X = iT false [] ++ iT false [] ∧ b = false := fun h => fin_f fun h' => of_decide_eq_false (hP3.symm.trans h) h'.2.2
      have fin_y : P1 = true → P2 = true → P3 = true → ∀ (x1 y1 : Bool) (x2 y2 : Abs.Rows), IsI n x1 x2 → IsI d y1 y2 → F ⟨[.val (.agg (iT x1 x2 ++ iT y1 y2)), .val (tb true)], [none, none]⟩ := fun g1 g2 g3 x1 y1 x2 y2 i1 i2 => by
        obtain ⟨k1, k2⟩ := fin_t (of_decide_eq_true (hP1.symm.trans g1)) (of_decide_eq_true (hP2.symm.trans g2)) (of_decide_eq_true (hP3.symm.trans g3)) x1 y1 x2 y2 i1 i2
        rw [k1, k2] at hF
        exact hF _ (ResLe.refl _)
      clear hP1 hP2 hP3 fin_t fin_f
      have w2 : znot true = false := hS.not true
      rcases he with rfl | rfl
      · rw [Int.one_mul] at hn hd hpb
        subst hn hd
        obtain ⟨t1, t2, t3⟩ := tail _ _ _ _ hb hdb
        have fin := fun g1 g2 g3 => fin_y g1 g2 g3 _ _ _ _ hb hdb
        rw [cmpI_gt hpb] at csn
        clear tail fin_y
        have w3 : zlt 1 0 = false := by rw [hS.lt]; rfl
        cbv
        refine ⟨_, hS.call (cs), ?_⟩
        cbv
        refine bF (w2) ?_
        refine ⟨_, hS.call (csn), ?_⟩
        cbv
        refine bF (w3) ?_
        refine ⟨_, hS.call (t1), ?_⟩
        cbv
        refine ⟨fun g1 => ?_, fun g1 => ?_⟩
        · rw [hS.not] at g1
          cases P1 with
          | true => cases g1
          | false => exact fin_z (fin_z1 rfl)
        · rw [hS.not] at g1
          cases P1 with
          | false => cases g1
          | true =>
            refine ⟨_, hS.call t2, ?_⟩
            cbv
            refine ⟨fun g2 => ?_, fun g2 => ?_⟩
            · rw [hS.not] at g2
              cases P2 with
              | true => cases g2
              | false => exact fin_z (fin_z2 rfl)
            · rw [hS.not] at g2
              cases P2 with
              | false => cases g2
              | true =>
                refine ⟨_, hS.call t3, ?_⟩
                cbv
                refine ⟨fun g3 => ?_, fun g3 => ?_⟩
                · rw [hS.not] at g3
                  cases P3 with
                  | true => cases g3
                  | false => exact fin_z (fin_z3 rfl)
                · rw [hS.not] at g3
                  cases P3 with
                  | false => cases g3
                  | true => exact fin rfl rfl rfl
      · have hn' : n = -rb := by omega
        have hd' : d = -db := by omega
        subst hn' hd'
        obtain ⟨t1, t2, t3⟩ := tail _ _ _ _ hne hnf
        have fin := fun g1 g2 g3 => fin_y g1 g2 g3 _ _ _ _ hne hnf
        rw [cmpI_lt (by omega)] at csn
        clear tail fin_y
        have w3 : zlt (-1) 0 = true := by rw [hS.lt]; rfl
        cbv
        refine ⟨_, hS.call (cs), ?_⟩
        cbv
        refine bF (w2) ?_
        refine ⟨_, hS.call (csn), ?_⟩
        cbv
        refine bT (w3) ?_
        refine ⟨_, hS.call (cne), ?_⟩
        cbv
        refine ⟨_, hS.call (cnf), ?_⟩
        cbv
        refine ⟨_, hS.call (t1), ?_⟩
        cbv
        refine ⟨fun g1 => ?_, fun g1 => ?_⟩
        · rw [hS.not] at g1
          cases P1 with
          | true => cases g1
          | false => exact fin_z (fin_z1 rfl)
        · rw [hS.not] at g1
          cases P1 with
          | false => cases g1
          | true =>
            refine ⟨_, hS.call t2, ?_⟩
            cbv
            refine ⟨fun g2 => ?_, fun g2 => ?_⟩
            · rw [hS.not] at g2
              cases P2 with
              | true => cases g2
              | false => exact fin_z (fin_z2 rfl)
            · rw [hS.not] at g2
              cases P2 with
              | false => cases g2
              | true =>
                refine ⟨_, hS.call t3, ?_⟩
                cbv
                refine ⟨fun g3 => ?_, fun g3 => ?_⟩
                · rw [hS.not] at g3
                  cases P3 with
                  | true => cases g3
                  | false => exact fin_z (fin_z3 rfl)
                · rw [hS.not] at g3
                  cases P3 with
                  | false => cases g3
                  | true => exact fin rfl rfl rfl
    · rw [decide_eq_false hsm] at cs
      obtain ⟨hrb, hI', hlt⟩ := hI.step hsm
      obtain ⟨g1, g2, g3, hq, _, cdm⟩ := idivmod_call ha hb (by omega) (by omega) (by omega)
      have hqle : (ra / rb).natAbs ≤ m.natAbs := by
        have h1 : 0 ≤ ra / rb := Int.ediv_nonneg (by omega) (by omega)
        have h2 : ra / rb ≤ ra := Int.ediv_le_self _ (by omega)
        omega
      obtain ⟨i1, i2, j1, j2, hi, hj, ccm⟩ := pcombine_call ha hda hb hdb hq (by omega) (by omega) (by omega) (by omega) (by have := sz _ hqle; omega)
      have hnx : ∃ (ra' da' rb' db' e' : Int) (a1 : Bool) (a2 : Abs.Rows) (b1 : Bool) (b2 : Abs.Rows) (c1' : Bool) (c2' : Abs.Rows) (d1' : Bool) (d2' : Abs.Rows), RInv u m ra' da' rb' db' e' ∧ (ra' ≤ m ∧ -(e' * da') ≤ m) ∧ rb' = (((ra - ra / rb * rb).toNat : Nat) : Int) ∧ IsI ra' a1 a2 ∧ IsI da' b1 b2 ∧ IsI rb' c1' c2' ∧ IsI db' d1' d2' ∧ prebSt (t, q) (l1, l2) (c1, c2) (d1, d2) (i1, i2) (j1, j2) = prebSt (t, q) (l1, l2) (a1, a2) (b1, b2) (c1', c2') (d1', d2') :=
        ⟨_, _, _, _, _, _, _, _, _, _, _, _, _, hI', ⟨by omega, by have : - -e * db = e * db := by rw [Int.neg_neg]
                                                                   have e2 : -(-e * db) = e * db := by rw [Int.neg_mul, Int.neg_neg]
                                                                   omega⟩, by have := hI'.r0; omega, hb, hdb, hi, hj, rfl⟩
      have hdec : (ra - ra / rb * rb).toNat < k := by have := hI'.r0; omega
      have w2 : znot false = true := hS.not false
      generalize (ra - ra / rb * rb).toNat = k' at *
      clear hI hI' hX
      cbv
      refine ⟨_, hS.call (cs), ?_⟩
      cbv
      refine bT (w2) ?_
      refine ⟨_, hS.call (cdm), ?_⟩
      cbv
      refine ⟨_, hS.call (ccm), ?_⟩
      cbv
      exact again (s' := prebSt (t, q) (l1, l2) (c1, c2) (d1, d2) (i1, i2) (j1, j2)) (m := k') (by simp [leT, prebSt, mkSt]) (by simp [leH, prebSt, mkSt]) rfl (by show 2 ≤ 22; omega) hdec hnx
end Go.Proofs.Ytgncmjcoojmccaa
end

section
set_option linter.unusedVariables false
set_option linter.unusedSimpArgs false
set_option maxHeartbeats 4000000
set_option linter.unusedVariables false
set_option linter.unusedSimpArgs false
set_option maxRecDepth 100000
namespace Go.Proofs.Ytgncmjcoojmccaa
open Go Go.Abs Go.Abs.M Go.Proofs

def rgueSt (r s : Abs.Rows) (len : Nat) (n t q e : Int) : St := mkSt 75 [.c (.sl 0 0 len false), vl s, .junk, .junk, vi .u64 0, vi .i64 n, vi .u64 t, vi .u64 q, vi .u64 e] [some (.rows 1 r false false), none]
theorem rguess_call {r s : Abs.Rows} {u v : List Int} {n : Nat} (g : Int) (hr : r = W .u32 u) (hs : s = W .u32 v) (hu : u.length = n + 1) (hv : v.length = n) (hn : 2 ≤ n) (hn2 : n ≤ 1099511627776) (huw : Wd u) (hvw : Wd v) (htop : 2147483648 ≤ v.getD (n - 1) 0)
    (hg : g = guess0 (v.getD (n - 1) 0) (v.getD (n - 2) 0) (u.getD (n - 2) 0) (u.getD n 0 * 4294967296 + u.getD (n - 1) 0)) :
    ACall Try.prog 83 [.bor 1 r, .val (tl s)] ⟨[.val (ti .u64 g)], [some (.rows 1 r false false), none]⟩ := by
  have g1 := huw.get n
  have g2 := huw.get (n - 1)
  have g3 := huw.get (n - 2)
  have g4 := hvw.get (n - 1)
  have g5 := hvw.get (n - 2)
  obtain ⟨t, ht⟩ : ∃ t, t = u.getD n 0 * 4294967296 + u.getD (n - 1) 0 := ⟨_, rfl⟩
  rw [← ht] at hg
  refine callZ ccOk mixed [.val] Try.func83 rfl rfl (by kernel_rfl) fun zwrap zadd zsub zmul zquo zrem zshl zshr zband zbor zbxor zbandn zeq zne zlt zle znot zbeq zbne zmax zmin znat zinb zofN zidx zneq znadd zdif zcut zroom zmkok zlen znth zsetr zisI zgetI zsetI zfit zpart zext zsetg zrep zwide zall zmok zmget zmset zW zth A L F hS hF => ?_
  have h1 : zlen r = n + 1 := by rw [hS.len, hr, W_len, hu]
  have h2 : zlen s = n := by rw [hS.len, hs, W_len, hv]
  have hrW : r = zW .u32 u := by rw [hS.W]; exact hr
  have w1 : zwrap .i64 (zsub (zofN n) 1) = zofN (n - 1) := by rw [hS.wrap, hS.sub, hS.ofN, hS.ofN, wrap_i64 (by omega) (by omega)]; omega
  have w2 : zwrap .i64 (zsub (zofN n) 2) = zofN (n - 2) := by rw [hS.wrap, hS.sub, hS.ofN, hS.ofN, wrap_i64 (by omega) (by omega)]; omega
  have f2 : ∀ q, zidx 0 (zofN q) = q := fun q => by rw [hS.idx, hS.ofN]; omega
  have f3 : ∀ q, q < n + 1 → zinb (zofN q) (zlen r) = true := fun q hq => by rw [h1, hS.inb, hS.ofN]; exact decide_eq_true (by omega)
  have f4 : ∀ q, q < n + 1 → zisI .u32 r q = true := fun q hq => by rw [hS.isI, hr, W_isI]; exact decide_eq_true (by omega)
  have f5 : ∀ q, zgetI r q = u.getD q 0 := fun q => by rw [hS.getI, hr, W_getI]
  have f6 : ∀ q, zle 0 (zofN q) = true := fun q => by rw [hS.le, hS.ofN]; exact decide_eq_true (by omega)
  have f7 : ∀ q, q < n → zisI .u32 s (znat (zofN q)) = true := fun q hq => by rw [hS.isI, hs, hS.nat, hS.ofN, W_isI]; exact decide_eq_true (by omega)
  have f8 : ∀ q, zgetI s (znat (zofN q)) = v.getD q 0 := fun q => by rw [hS.getI, hS.nat, hS.ofN, hs, W_getI, Int.toNat_natCast]
  have eu : ∀ q, zwrap .u64 (u.getD q 0) = u.getD q 0 := fun q => by have := huw.get q; rw [hS.wrap, wrap_u64 (by omega) (by omega)]
  have ev : ∀ q, zwrap .u64 (v.getD q 0) = v.getD q 0 := fun q => by have := hvw.get q; rw [hS.wrap, wrap_u64 (by omega) (by omega)]
  have et : zwrap .u64 (zadd (zwrap .u64 (zmul (u.getD n 0) 4294967296)) (u.getD (n - 1) 0)) = t := by
    rw [hS.wrap, hS.wrap, hS.mul, hS.add, wrap_u64 (x := u.getD n 0 * 4294967296) (by omega) (by omega), wrap_u64 (by omega) (by omega), ht]
  have htb : 0 ≤ t ∧ t < 18446744073709551616 := by omega
  have hnz : zne (v.getD (n - 1) 0) 0 = true := by rw [hS.ne]; exact decide_eq_true (by omega)
  have hq0 : 0 ≤ t / v.getD (n - 1) 0 := Int.ediv_nonneg (by omega) (by omega)
  have hq1 : t / v.getD (n - 1) 0 < 8589934592 := Int.ediv_lt_of_lt_mul (by omega) (by omega)
  have hm0 := Int.emod_nonneg t (show v.getD (n - 1) 0 ≠ 0 by omega)
  have hm1 := Int.emod_lt_of_pos t (show 0 < v.getD (n - 1) 0 by omega)
  have eq : zwrap .u64 (zquo t (v.getD (n - 1) 0)) = t / v.getD (n - 1) 0 := by rw [hS.quo, Int.tdiv_eq_ediv_of_nonneg (by omega), hS.wrap]; exact wrap_u64 (by omega) (by omega)
  have er : zrem t (v.getD (n - 1) 0) = t % v.getD (n - 1) 0 := by rw [hS.rem, Int.tmod_eq_emod_of_nonneg (by omega)]
  have hstart : guessF (v.getD (n - 1) 0) (v.getD (n - 2) 0) (u.getD (n - 2) 0) 3 (t / v.getD (n - 1) 0) (t % v.getD (n - 1) 0) = g := hg.symm
  have e10 : zneq (zlen r) (zlen r) = true := by rw [hS.neq]; exact decide_eq_true rfl
  clear hg ht
  generalize ha1 : v.getD (n - 1) 0 = v1 at *
  generalize ha2 : v.getD (n - 2) 0 = v2 at *
  generalize ha3 : u.getD (n - 2) 0 = u2 at *
  generalize ha4 : u.getD n 0 = u0 at *
  generalize ha5 : u.getD (n - 1) 0 = u1 at *
  have eu0 := eu n
  have eu1 := eu (n - 1)
  have eu2 := eu (n - 2)
  have ev1 := ev (n - 1)
  have ev2 := ev (n - 2)
  rw [ha4] at eu0
  rw [ha5] at eu1
  rw [ha3] at eu2
  rw [ha1] at ev1
  rw [ha2] at ev2
  cbv
  rw [h2, w1, f2, f2, f5, f5, f8, ha1, ha4, ha5, eu0, eu1, ev1, et, eq, er]
  refine nd (f3 _ (by omega)) (nd (f4 _ (by omega)) (nd (f3 _ (by omega)) (nd (f4 _ (by omega)) (nd (f6 _) (nd (f7 _ (by omega)) (nd hnz (nd (f6 _) (nd (f7 _ (by omega)) (nd hnz ?_)))))))))
  generalize t / v1 = q0 at *
  generalize t % v1 = m0 at *
  refine loopZ ccOk mixed hS (fun (j : Nat) s' => ∃ (q e : Int), 0 ≤ q ∧ q < 8589934592 ∧ 0 ≤ e ∧ e < 4294967296 ∧ guessF v1 v2 u2 j q e = g ∧ 4294967296 ≤ e + j * v1 ∧ s' = rgueSt r s (zlen r) (zofN n) t q e) (n := 3)
    (s0 := rgueSt r s (zlen r) (zofN n) t q0 m0) (le_of ?_ ?_) rfl (Nat.le_refl 2) ?_ ?_
  · simp [leT, rgueSt, mkSt, vi, vl, vb, hS.ofN]
  · simp [leH, rgueSt, mkSt]
  · exact ⟨q0, m0, hq0, hq1, hm0, by omega, hstart, by push_cast; omega, rfl⟩
  · rintro j _ ⟨q, e, b1, b2, b3, b4, hgF, hme, rfl⟩
    have j0 : j ≠ 0 := by
      rintro rfl
      simp at hme
      omega
    obtain ⟨j, rfl⟩ : ∃ i, j = i + 1 := ⟨j - 1, by omega⟩
    have hme' : 4294967296 ≤ (e + v1) + j * v1 := by
      have : ((j + 1 : Nat) : Int) * v1 = j * v1 + v1 := by push_cast; grind
      omega
    simp only [guessF] at hgF
    have x1 : zle 4294967296 q = decide (4294967296 ≤ q) := by rw [hS.le]
    have x2 : zwrap .u64 (zadd e v1) = e + v1 := by rw [hS.wrap, hS.add]; exact wrap_u64 (by omega) (by omega)
    have x3 : zle 4294967296 (e + v1) = decide (4294967296 ≤ e + v1) := by rw [hS.le]
    have x4 : 0 < q → zwrap .u64 (zsub q 1) = q - 1 := fun h => by rw [hS.wrap, hS.sub]; exact wrap_u64 (by omega) (by omega)
    have hq2 : q < 4294967296 → 0 ≤ q * v2 ∧ q * v2 ≤ 4294967295 * 4294967295 := fun h => ⟨Int.mul_nonneg b1 g5.1, Int.mul_le_mul (by omega) (by omega) g5.1 (by omega)⟩
    have x5 : q < 4294967296 → zlt (zwrap .u64 (zadd (zwrap .u64 (zmul e 4294967296)) u2)) (zwrap .u64 (zmul q v2)) = decide (e * 4294967296 + u2 < q * v2) := fun h => by
      have := hq2 h
      rw [hS.lt, hS.wrap, hS.wrap, hS.wrap, hS.mul, hS.mul, hS.add, wrap_u64 (x := e * 4294967296) (by omega) (by omega), wrap_u64 (x := e * 4294967296 + u2) (by omega) (by omega), wrap_u64 (x := q * v2) (by omega) (by omega)]
    have hpos : e * 4294967296 + u2 < q * v2 → 0 < q := fun h => by
      rcases Int.lt_or_le 0 q with h' | h'
      · exact h'
      · obtain rfl : q = 0 := by omega
        omega
    have fin : ∀ x : Int, x = g → F ⟨[.val (.c (.v (.int .u64 x)))], [some (.rows 1 r false false), none]⟩ := fun x hx => by rw [hx]; exact hF _ (ResLe.refl _)
    have step : (4294967296 ≤ q ∨ e * 4294967296 + u2 < q * v2) → ¬ 4294967296 ≤ e + v1 → 0 < q → ∀ (T : List AV) (H : Heap), leT T (rgueSt r s (zlen r) (zofN n) t (q - 1) (e + v1)).tmps → leH H (rgueSt r s (zlen r) (zofN n) t (q - 1) (e + v1)).heap → ∃ s' : St, (St.mk T H).Le s' ∧ s'.refsLt = true ∧ [Arg.bor 1 r, Arg.val (tl s)].length ≤ s'.heap.length ∧ ∃ m, m < j + 1 ∧ ∃ (q e : Int), 0 ≤ q ∧ q < 8589934592 ∧ 0 ≤ e ∧ e < 4294967296 ∧ guessF v1 v2 u2 m q e = g ∧ 4294967296 ≤ e + m * v1 ∧ s' = rgueSt r s (zlen r) (zofN n) t q e := fun hb hc hp T H hT hH => by
      rw [if_pos hb, if_neg hc] at hgF
      exact ⟨_, le_of hT hH, rfl, Nat.le_refl 2, j, by omega, q - 1, e + v1, by omega, by omega, by omega, by omega, hgF, hme', rfl⟩
    cbv
    rw [w1, w2, f2, f8, f8, f5, ha1, ha2, ha3, ev1, ev2, eu2, x2]
    refine ⟨fun h => ?_, fun h => ?_⟩
    all_goals rw [x1] at h
    · have h := of_decide_eq_true h
      rw [x4 (by omega)]
      refine nd (f6 _) (nd (f7 _ (by omega)) ⟨fun h' => nd e10 (fin _ ?_), fun h' => ?_⟩)
      all_goals rw [x3] at h'
      · rw [if_pos (.inl h), if_pos (of_decide_eq_true h')] at hgF
        exact hgF
      · exact step (.inl h) (of_decide_eq_false h') (by omega) _ _ (by simp [leT, rgueSt, mkSt, vi, vl, vb]) (by simp [leH, rgueSt, mkSt])
    · have h := of_decide_eq_false h
      refine nd (f6 _) (nd (f7 _ (by omega)) (nd (f3 _ (by omega)) (nd (f4 _ (by omega)) ⟨fun h'' => ?_, fun h'' => nd e10 (fin _ ?_)⟩)))
      all_goals rw [x5 (by omega)] at h''
      · have h'' := of_decide_eq_true h''
        have hp := hpos h''
        rw [x4 hp]
        refine nd (f6 _) (nd (f7 _ (by omega)) ⟨fun h' => nd e10 (fin _ ?_), fun h' => ?_⟩)
        all_goals rw [x3] at h'
        · rw [if_pos (.inr h''), if_pos (of_decide_eq_true h')] at hgF
          exact hgF
        · exact step (.inr h'') (of_decide_eq_false h') hp _ _ (by simp [leT, rgueSt, mkSt, vi, vl, vb]) (by simp [leH, rgueSt, mkSt])
      · have h'' := of_decide_eq_false h''
        rw [if_neg (by omega)] at hgF
        exact hgF
end Go.Proofs.Ytgncmjcoojmccaa
end

section
set_option linter.unusedVariables false
set_option linter.unusedSimpArgs false
set_option maxHeartbeats 8000000
set_option linter.unusedVariables false
set_option linter.unusedSimpArgs false
set_option maxRecDepth 100000
namespace Go.Proofs.Ytgncmjcoojmccaa
open Go Go.Abs Go.Abs.M Go.Proofs
def rdivSt (r s v U Q : Abs.Rows) (ul ql : Nat) (n d j : Int) : St := mkSt 110 [vl r, vl s, .junk, .junk, vnil, vnil, .junk, .junk, vi .i64 n, vi .u64 d, vl v, .c (.sl 8 0 ul false), .c (.sl 13 0 ql false), vi .i64 j] [none, none, none, none, none, none, none, none, some (.rows 1 U true false), none, none, none, none, some (.rows 1 Q true false)]

/-- The walk of the long division: what is to be known of the numbers comes as premises. -/
theorem rdivided_walk {r s w v y A2 A3 : Abs.Rows} {U V w1 d c : Int} {n la m l1 m1 n1 n' : Nat} {lr ls lv lu u0 : List Int}
    (hr : r = W .u32 lr) (hs : s = W .u32 ls) (hv : v = W .u32 lv) (hy : y = W .u32 lu) (lrl : lr.length = la) (lsl : ls.length = n) (hsz : la ≤ 549755813888) (hn : 2 ≤ n) (hm : la = n + m) (hl1 : l1 = la + 1) (hm1 : m1 = m + 1) (hn1 : n1 = n + 1) (hn' : n = n' + 1)
    (hw1 : ls.getD n' 0 = w1) (hw1b : 1 ≤ w1 ∧ w1 < 4294967296) (hd : 4294967296 / (w1 + 1) = d) (hdb : 1 ≤ d ∧ d < 4294967296) (hc : ¬ c < 0) (llu : lu.length ≤ l1) (hu0 : setRg (List.replicate l1 0) 0 lu = u0)
    (llv : lv.length = n) (wlv : Wd lv) (vlv : val lv = V) (htop : 2147483648 ≤ lv.getD (n - 1) 0)
    (hstart : DInv U V n m (m + 1) u0 (List.replicate m1 0))
    (cc : ACall Try.prog 50 [.val (tl r), .val (tl s)] ⟨[.val (ti .i64 c)], [none, none]⟩)
    (c1 : ACall Try.prog 48 [.val (ti .u64 d)] ⟨[.val (tl w)], [none]⟩)
    (c2 : ACall Try.prog 49 [.val (tl s), .val (tl w)] ⟨[.val (tl v)], [none, none]⟩)
    (c3 : ACall Try.prog 49 [.val (tl r), .val (tl w)] ⟨[.val (tl y)], [none, none]⟩)
    (hlast : ∀ u q, DInv U V n m 0 u q → ∃ (A1 : Abs.Rows) (A4 : Int), ACall Try.prog 73 [.val (tl (W .u32 u))] ⟨[.val (tl A1)], [none]⟩ ∧ ACall Try.prog 73 [.val (tl (W .u32 q))] ⟨[.val (tl A2)], [none]⟩ ∧
      ACall Try.prog 82 [.val (tl A1), .val (ti .u64 d)] ⟨[.val (tl A3), .val (ti .u64 A4)], [none, none]⟩) :
    ACall Try.prog 65 [.val (tl r), .val (tl s)] ⟨[.val (tl A2), .val (tl A3)], [none, none]⟩ := by
  refine callZ ccOk mixed [.val, .val] Try.func65 rfl rfl (by kernel_rfl) fun zwrap zadd zsub zmul zquo zrem zshl zshr zband zbor zbxor zbandn zeq zne zlt zle znot zbeq zbne zmax zmin znat zinb zofN zidx zneq znadd zdif zcut zroom zmkok zlen znth zsetr zisI zgetI zsetI zfit zpart zext zsetg zrep zwide zall zmok zmget zmset zW zth A L F hS hF => ?_
  have z1 : zlen r = la := by rw [hS.len, hr, W_len, lrl]
  have z2 : zlen s = n := by rw [hS.len, hs, W_len, lsl]
  have z3 : zwrap .i64 (zsub (zofN n) 1) = zofN n' := by rw [hS.wrap, hS.sub, hS.ofN, hS.ofN, wrap_i64 (by omega) (by omega)]; omega
  have z4 : zgetI s (znat (zofN n')) = w1 := by rw [hS.getI, hS.nat, hS.ofN, hs, W_getI, Int.toNat_natCast, hw1]
  have z5 : zwrap .u64 (zadd (zwrap .u64 w1) 1) = w1 + 1 := by rw [hS.wrap, hS.wrap, wrap_u64 (x := w1) (by omega) (by omega), hS.add]; exact wrap_u64 (by omega) (by omega)
  have z6 : zwrap .u64 (zquo 4294967296 (w1 + 1)) = d := by rw [hS.quo, Int.tdiv_eq_ediv_of_nonneg (by omega), hd, hS.wrap]; exact wrap_u64 (by omega) (by omega)
  have z7 : zwrap .i64 (zadd (zofN la) 1) = zofN l1 := by rw [hS.wrap, hS.add, hS.ofN, hS.ofN, wrap_i64 (by omega) (by omega)]; omega
  have z8 : zwrap .i64 (zsub (zofN la) (zofN n)) = zsub (zofN (m + 1)) 1 := by rw [hS.wrap, hS.sub, hS.ofN, hS.ofN, hS.sub, hS.ofN, wrap_i64 (by omega) (by omega)]; omega
  have z9 : zwrap .i64 (zadd (zsub (zofN (m + 1)) 1) 1) = zofN m1 := by rw [hS.wrap, hS.add, hS.sub, hS.ofN, hS.ofN, wrap_i64 (by omega) (by omega)]; omega
  have znt : ∀ k, znat (zofN k) = k := fun k => by rw [hS.nat, hS.ofN]; omega
  have hrep : ∀ k, zrep k [.v (.int .u32 0)] = zW .u32 (List.replicate k 0) := fun k => by rw [hS.rep, hS.W]; exact W_rep ..
  have hy0 : zsetg (zW .u32 (List.replicate l1 0)) 0 y = zW .u32 u0 := by rw [hS.setg, hS.W, hy, W_setg, ← hu0]; rfl
  have zyl : zlen y = lu.length := by rw [hS.len, hy, W_len]
  have o1 : zlt c 0 = false := by rw [hS.lt]; exact decide_eq_false hc
  have o2 : zeq (zofN n) 1 = false := by rw [hS.eq, hS.ofN]; exact decide_eq_false (by omega)
  have o3 : zle 0 (zofN n') = true := by rw [hS.le, hS.ofN]; exact decide_eq_true (by omega)
  have o4 : zisI .u32 s (znat (zofN n')) = true := by rw [hS.isI, znt, hs, W_isI]; exact decide_eq_true (by omega)
  have o5 : zne (w1 + 1) 0 = true := by rw [hS.ne]; exact decide_eq_true (by omega)
  have o6 : zmkok (zofN l1) (zofN l1) 4 = true := by rw [hS.mkok, hS.ofN]; exact decide_eq_true (by unfold capBytes; omega)
  have o7 : zfit 0 l1 (zW .u32 (List.replicate l1 0)) = true := by rw [hS.fit, hS.W, W_len]; exact decide_eq_true (by simp)
  have o8 : zwide 1 y = true := by rw [hS.wide, hy]; exact W_wide _ _
  have o9 : zle (zofN (zlen y)) (zofN l1) = true := by rw [hS.le, hS.ofN, hS.ofN, zyl]; exact decide_eq_true (by omega)
  have o10 : zmkok (zofN m1) (zofN m1) 4 = true := by rw [hS.mkok, hS.ofN]; exact decide_eq_true (by unfold capBytes; omega)
  clear hr hs lrl lsl hw1 hw1b hd hc llu hu0 hy zyl
  cbv
  refine ⟨_, hS.call cc, ?_⟩
  cbv
  rw [z2, z3, z4, z5]
  refine bF o1 (bF o2 (nd o3 (nd o4 (nd o5 ?_))))
  rw [z6]
  refine ⟨_, hS.call c1, ?_⟩
  cbv
  refine ⟨_, hS.call c2, ?_⟩
  cbv
  rw [z1, z7, znt, hrep]
  refine nd o6 ?_
  refine ⟨_, hS.call c1, ?_⟩
  cbv
  refine ⟨_, hS.call c3, ?_⟩
  cbv
  rw [hy0, z1, z8, z9, znt, hrep]
  refine nd o7 (nd o8 (nd o9 (nd o10 ?_)))
  clear z2 z3 z4 z5 z6 z7 z8 z9 o1 o2 o3 o4 o5 o6 o7 o8 o9 o10 cc c1 c2 c3 hy0
  refine loopZ ccOk mixed hS (fun (k : Nat) s' => ∃ (u q : List Int), DInv U V n m k u q ∧ s' = rdivSt r s v (zW .u32 u) (zW .u32 q) l1 m1 (zofN n) d (zsub (zofN k) 1)) (n := m + 1)
    (s0 := rdivSt r s v (zW .u32 u0) (zW .u32 (List.replicate m1 0)) l1 m1 (zofN n) d (zsub (zofN (m + 1)) 1)) (le_of ?_ ?_) rfl (by show 2 ≤ 14; omega) ?_ ?_
  · simp [leT, rdivSt, mkSt, vi, vl, vnil]
  · simp [leH, rdivSt, mkSt]
  · exact ⟨u0, _, hstart, rfl⟩
  · clear hstart
    rintro k _ ⟨u, q, hI, rfl⟩
    cases k with
    | zero =>
      obtain ⟨A1, A4, t1, t2, t3⟩ := hlast u q hI
      have hul := hI.ul
      have hql := hI.ql
      have hz : zle 0 (zsub (zofN 0) 1) = false := by rw [hS.le, hS.sub, hS.ofN]; rfl
      have e10 : zfit 0 l1 (zW .u32 u) = true := by rw [hS.fit, hS.W, W_len]; exact decide_eq_true (by omega)
      have e11 : zpart (zW .u32 u) 0 l1 = W .u32 u := by rw [hS.part, hS.W, W_part, List.drop_zero, List.take_of_length_le (by omega)]
      have e12 : zfit 0 m1 (zW .u32 q) = true := by rw [hS.fit, hS.W, W_len]; exact decide_eq_true (by omega)
      have e13 : zpart (zW .u32 q) 0 m1 = W .u32 q := by rw [hS.part, hS.W, W_part, List.drop_zero, List.take_of_length_le (by omega)]
      cbv
      refine bF hz ?_
      rw [e11]
      refine nd e10 ⟨_, hS.call t1, ?_⟩
      cbv
      refine ⟨_, hS.call t3, ?_⟩
      cbv
      rw [e13]
      refine nd e12 ⟨_, hS.call t2, ?_⟩
      cbv
      exact hF _ (ResLe.refl _)
    | succ j =>
      obtain ⟨g, qd, b, x1, hg, g0, g1, q0, q1, hb, hx1, lx1, wx1, hjm, hul, hql, pl, pw, ht, hf⟩ := div_round hI hn llv wlv vlv htop
      have cg := rguess_call (r := zW .u32 (dpart n j u)) g (by rw [hS.W]) hv pl llv hn (by omega) pw wlv htop hg
      have cl := rlessen_call (r := zW .u32 (dpart n j u)) (r' := zW .u32 x1) g b (by rw [hS.W]) hv (by omega) (by omega) pw wlv g0 g1 (by rw [hS.W, pl, hx1]) hb
      have cr := fun x2 h => rrestore_call (r := zW .u32 x1) (r' := zW .u32 x2) (s := v) (u := x1) (by rw [hS.W]) hv (by omega) (by omega) wx1 wlv h
      clear hg hb hx1
      have hi : zsub (zofN (j + 1)) 1 = (j : Int) := by rw [hS.sub, hS.ofN]; omega
      have hz : zle 0 (zsub (zofN (j + 1)) 1) = true := by rw [hS.le, hi]; exact decide_eq_true (by omega)
      have hw1' : zwrap .i64 (zsub (zsub (zofN (j + 1)) 1) 1) = zsub (zofN j) 1 := by rw [hi, hS.wrap, hS.sub, hS.sub, hS.ofN, wrap_i64 (by omega) (by omega)]
      have y1 : zwrap .i64 (zadd (zwrap .i64 (zadd (zsub (zofN (j + 1)) 1) (zofN n))) 1) = zofN (j + n1) := by
        rw [hi, hS.wrap, hS.wrap, hS.add, hS.add, hS.ofN, hS.ofN, wrap_i64 (x := (j : Int) + n) (by omega) (by omega), wrap_i64 (by omega) (by omega)]; omega
      have y2 : zidx 0 (zsub (zofN (j + 1)) 1) = j := by rw [hS.idx, hi]; omega
      have y3 : zdif (zofN (j + n1)) (zsub (zofN (j + 1)) 1) = n1 := by rw [hS.dif, hi, hS.ofN]; omega
      have y4 : ∀ u' : List Int, zpart (zW .u32 u') j n1 = zW .u32 (dpart n j u') := fun u' => by rw [hS.part, hS.W, W_part, hn1]; rfl
      have y5 : ∀ u' x : List Int, zsetg (zW .u32 u') j (zW .u32 x) = zW .u32 (setRg u' j x) := fun u' x => by rw [hS.setg, hS.W, W_setg]; rfl
      have y6 : zcut (zsub (zofN (j + 1)) 1) (zofN (j + n1)) l1 = true := by rw [hS.cut, hi, hS.ofN]; exact decide_eq_true (by omega)
      have y7 : ∀ u' : List Int, u'.length = n + m + 1 → zfit j n1 (zW .u32 u') = true := fun u' h => by rw [hS.fit, hS.W, W_len]; exact decide_eq_true (by omega)
      have y8 : ∀ x : List Int, x.length = n + 1 → zneq (zlen (zW .u32 x)) n1 = true := fun x h => by rw [hS.neq, hS.len, hS.W, W_len, hn1]; exact decide_eq_true h
      have y9 : setRg u j (dpart n j u) = u := setRg_self (by omega)
      have y10 : dpart n j (setRg u j x1) = x1 := dpart_setRg lx1 (by omega)
      have y11 : (setRg u j x1).length = n + m + 1 := by rw [setRg_length (by omega)]; exact hul
      have y12 : ∀ x2 : List Int, x2.length = n + 1 → setRg (setRg u j x1) j x2 = setRg u j x2 := fun x2 h => setRg_setRg (by omega) (by omega)
      have y13 : zinb (zsub (zofN (j + 1)) 1) m1 = true := by rw [hS.inb, hi]; exact decide_eq_true (by omega)
      have y14 : zisI .u32 (zW .u32 q) j = true := by rw [hS.isI, hS.W, W_isI]; exact decide_eq_true (by omega)
      have y15 : ∀ x, zsetI .u32 (zW .u32 q) j x = zW .u32 (q.set j x) := fun x => by rw [hS.setI, hS.W, W_set]
      have y16 : zwrap .u32 qd = qd := by rw [hS.wrap]; exact wrap_u32 (by omega) (by omega)
      have y18 : g - 1 = qd → zwrap .u64 (zsub g 1) = qd := fun h => by rw [hS.wrap, hS.sub, wrap_u64 (by omega) (by omega), h]
      clear hI hi
      cbv
      refine bT hz ?_
      rw [y1, y2, y3, y4]
      refine nd y6 (nd (y7 _ hul) ⟨_, hS.call cg, ?_⟩)
      cbv
      rw [y5, y9, y4]
      refine nd (y8 _ pl) (nd (y7 _ hul) ?_)
      cases b with
      | true =>
        obtain ⟨hgq, x2, hx2, lx2, hI2⟩ := ht rfl
        refine ⟨_, hS.call cl, ?_⟩
        cbv
        rw [y5, y4, y10]
        refine nd (y8 _ lx1) (bT rfl (nd (y7 _ y11) ⟨_, hS.call (cr x2 (by rw [hS.W, hx2])), ?_⟩))
        cbv
        rw [y2, y5, y12 _ lx2, y18 hgq, y16, y15, hw1']
        refine nd (y8 _ lx2) (nd y13 (nd y14 ?_))
        exact again (s' := rdivSt r s v (zW .u32 (setRg u j x2)) (zW .u32 (q.set j qd)) l1 m1 (zofN n) d (zsub (zofN j) 1)) (m := j) (by simp [leT, rdivSt, mkSt, vi, vl, vnil]) (by simp [leH, rdivSt, mkSt]) rfl (by show 2 ≤ 14; omega) (by omega) ⟨_, _, hI2, rfl⟩
      | false =>
        obtain ⟨hgq, hI2⟩ := hf rfl
        refine ⟨_, hS.call cl, ?_⟩
        cbv
        rw [y2, y5, hgq, y16, y15, hw1']
        refine nd (y8 _ lx1) (bF rfl (nd y13 (nd y14 ?_)))
        exact again (s' := rdivSt r s v (zW .u32 (setRg u j x1)) (zW .u32 (q.set j qd)) l1 m1 (zofN n) d (zsub (zofN j) 1)) (m := j) (by simp [leT, rdivSt, mkSt, vi, vl, vnil]) (by simp [leH, rdivSt, mkSt]) rfl (by show 2 ≤ 14; omega) (by omega) ⟨_, _, hI2, rfl⟩
end Go.Proofs.Ytgncmjcoojmccaa
end

section
set_option linter.unusedVariables false
set_option linter.unusedSimpArgs false
set_option maxHeartbeats 8000000
set_option linter.unusedVariables false
set_option linter.unusedSimpArgs false
set_option maxRecDepth 100000
namespace Go.Proofs.Ytgncmjcoojmccaa
open Go Go.Abs Go.Abs.M Go.Proofs

theorem rdivided_long {r s : Abs.Rows} {a b : Nat} (hr : IsM a r) (hs : IsM b s) (h2 : 2 ≤ nl b) (hab : b ≤ a) (hsz : nl a ≤ 549755813888) :
    ACall Try.prog 65 [.val (tl r), .val (tl s)] ⟨[.val (tl (W .u32 (dg (a / b)))), .val (tl (W .u32 (dg (a % b))))], [none, none]⟩ := by
  obtain ⟨n, hn⟩ : ∃ n, n = nl b := ⟨_, rfl⟩
  obtain ⟨la, hla⟩ : ∃ la, la = nl a := ⟨_, rfl⟩
  have hmono := nl_mono hab
  obtain ⟨m, hm⟩ : ∃ m, la = n + m := ⟨la - n, by omega⟩
  obtain ⟨n', hn'⟩ : ∃ n', n = n' + 1 := ⟨n - 1, by omega⟩
  have lb : (dg b).length = n := hn.symm
  have laa : (dg a).length = la := hla.symm
  obtain ⟨w1, hw1⟩ : ∃ w1, w1 = (dg b).getD n' 0 := ⟨_, rfl⟩
  have hw1b := (dg_wd b).get n'
  rw [← hw1] at hw1b
  have htw := top_word (dg_wd b) (n := n') (by omega)
  rw [← hw1, dg_val] at htw
  have hw1p : 1 ≤ w1 := by
    rcases dg_tr b with h | h
    · rw [h] at lb; simp at lb; omega
    · rw [lb, hn', Nat.add_sub_cancel, ← hw1] at h; omega
  obtain ⟨d, hd⟩ : ∃ d, d = 4294967296 / (w1 + 1) := ⟨_, rfl⟩
  obtain ⟨d1, d2, d3, d4⟩ := norm_ok hw1p hw1b.2 hd htw.1 htw.2
  have hbpos : 0 < (b : Int) := by
    rcases Nat.eq_zero_or_pos b with h | h
    · subst h; simp [dg_zero] at lb; omega
    · omega
  obtain ⟨V, hV⟩ : ∃ V, V = d * b := ⟨_, rfl⟩
  have hV0 : 0 < V := by rw [hV]; exact Int.mul_pos (by omega) hbpos
  have hpow : (4294967296 : Int) ^ n = 4294967296 ^ n' * 4294967296 := by rw [hn', Int.pow_succ]
  have hVlt : V < 4294967296 ^ n := by rw [hpow, hV]; omega
  have hVge : 2147483648 * 4294967296 ^ n' ≤ V := by rw [hV]; exact d3
  obtain ⟨lv, hlv⟩ : ∃ lv, lv = dg V.toNat := ⟨_, rfl⟩
  have vlv : val lv = V := by rw [hlv, dg_val]; omega
  have wlv : Wd lv := by rw [hlv]; exact dg_wd _
  have llv : lv.length = n := by
    have a1 : nl V.toNat ≤ n := nl_le_of (by omega)
    have a2 : n' < nl V.toNat := by
      rcases Nat.lt_or_ge n' (nl V.toNat) with h | h
      · exact h
      · have x1 := lt_nl V.toNat
        have x2 := ipow_le h
        have x3 := pow_pos' n'
        omega
    rw [hlv]
    show nl V.toNat = n
    omega
  have htop : 2147483648 ≤ lv.getD (n - 1) 0 := by
    have t := (top_word wlv (n := n') (by omega)).2
    rw [vlv] at t
    rw [hn', Nat.add_sub_cancel]
    rcases Int.lt_or_le (lv.getD n' 0) 2147483648 with h | h
    · exfalso
      have := Int.mul_le_mul_of_nonneg_right (show lv.getD n' 0 + 1 ≤ 2147483648 by omega) (show (0 : Int) ≤ 4294967296 ^ n' by have := pow_pos' n'; omega)
      omega
    · exact h
  obtain ⟨lu, hlu⟩ : ∃ lu, lu = dg (d * a).toNat := ⟨_, rfl⟩
  have hda : 0 ≤ d * (a : Int) := Int.mul_nonneg (by omega) (by omega)
  have vlu : val lu = d * a := by rw [hlu, dg_val]; omega
  have llu : lu.length ≤ la + 1 := by
    rw [hlu]
    refine nl_le_of (k := la + 1) ?_
    have x1 := lt_nl a
    rw [← hla] at x1
    have x2 : d * (a : Int) ≤ 4294967296 * a := Int.mul_le_mul_of_nonneg_right (by omega) (by omega)
    rw [Int.pow_succ]
    omega
  obtain ⟨f1, f2, f3⟩ := fill_val llu (by rw [hlu]; exact dg_wd _)
  obtain ⟨w, hw⟩ : ∃ w, w = W .u32 (dg d.toNat) := ⟨_, rfl⟩
  have ld : (dg d.toNat).length ≤ 1 := nl_le_of (k := 1) (by rw [Int.pow_succ, Int.pow_zero]; omega)
  have cc := rcompared_call (cmpI a b) hr hs (by omega) (by omega) (dg_wd _) (dg_wd _) (dg_tr _) (dg_tr _) (by rw [dg_val, dg_val])
  have c1 := rwords_call d (by omega) (by omega)
  rw [← hw] at c1
  have c2 := rtimes_call hs hw (by omega) (by omega) (dg_wd _) (dg_wd _)
  rw [dg_val, dg_val, show ((b : Int) * (d.toNat : Int)).toNat = V.toNat by rw [hV, Int.mul_comm]; congr 2; omega, ← hlv] at c2
  have c3 := rtimes_call hr hw (by omega) (by omega) (dg_wd _) (dg_wd _)
  rw [dg_val, dg_val, show ((a : Int) * (d.toNat : Int)).toNat = (d * a).toNat by rw [Int.mul_comm]; congr 2; omega, ← hlu] at c3
  have hUlt : d * (a : Int) < V * 4294967296 ^ (m + 1) := by
    have x1 := lt_nl a
    rw [← hla, hm] at x1
    have x2 : (4294967296 : Int) ^ (n + m) = 4294967296 ^ n' * 4294967296 ^ (m + 1) := by rw [← Int.pow_add]; congr 1; omega
    have x3 : w1 * 4294967296 ^ n' * 4294967296 ^ (m + 1) ≤ (b : Int) * 4294967296 ^ (m + 1) := Int.mul_le_mul_of_nonneg_right htw.1 (by have := pow_pos' (m + 1); omega)
    have x4 : 1 * (4294967296 ^ n' * 4294967296 ^ (m + 1)) ≤ w1 * (4294967296 ^ n' * (4294967296 : Int) ^ (m + 1)) := Int.mul_le_mul_of_nonneg_right hw1p (by have := Int.mul_pos (pow_pos' n') (pow_pos' (m + 1)); omega)
    have x5 : w1 * 4294967296 ^ n' * 4294967296 ^ (m + 1) = w1 * (4294967296 ^ n' * (4294967296 : Int) ^ (m + 1)) := by grind
    have x6 : d * (a : Int) < d * (b * 4294967296 ^ (m + 1)) := Int.mul_lt_mul_of_pos_left (by omega) (by omega)
    have x7 : d * ((b : Int) * 4294967296 ^ (m + 1)) = d * b * 4294967296 ^ (m + 1) := by grind
    rw [hV]; omega
  have hstart := DInv.start (n := n) (m := m) (by rw [f2, hm]) f3 (f1.trans vlu) hUlt
  refine rdivided_walk hr hs rfl rfl laa lb (by omega) (by omega) hm rfl rfl rfl hn' hw1.symm ⟨hw1p, hw1b.2⟩ hd.symm ⟨d1, d2⟩ (c := cmpI a b) (by unfold cmpI; rw [if_neg (by omega)]; split <;> omega) llu rfl llv wlv vlv htop hstart cc c1 c2 c3 fun u q hI => ?_
  rw [hV] at hI
  obtain ⟨l1, l2⟩ := hI.last (by omega) hbpos
  have vu0 := val_nonneg hI.uw
  have hul := hI.ul
  have hql := hI.ql
  have t1 := rtrim_call (r := W .u32 u) rfl (by omega) hI.uw
  have t2 := rtrim_call (r := W .u32 q) rfl (by omega) hI.qw
  have lt1 : (dg (val u).toNat).length ≤ la + 1 := by have := nl_wd hI.uw; unfold nl at this; omega
  have t3 := rshortly_call (r := W .u32 (dg (val u).toNat)) d ((a : Int) % b) (val u % d) rfl (by omega) (dg_wd _) (by omega) d2 (by rw [dg_val, Int.toNat_of_nonneg vu0, l2]) (by rw [dg_val, Int.toNat_of_nonneg vu0])
  rw [l1] at t2
  exact ⟨_, _, t1, t2, t3⟩

/-- Division of absolute values. -/
theorem rdivided_call {r s : Abs.Rows} {a b : Nat} (hr : IsM a r) (hs : IsM b s) (hb : b ≠ 0) (hsz : nl a ≤ 549755813888) (hszb : nl b ≤ 549755813888) :
    ∃ x y, IsM (a / b) x ∧ IsM (a % b) y ∧ ACall Try.prog 65 [.val (tl r), .val (tl s)] ⟨[.val (tl x), .val (tl y)], [none, none]⟩ := by
  have cc := rcompared_call (cmpI a b) hr hs (by unfold nl at hsz; omega) (by unfold nl at hszb; omega) (dg_wd _) (dg_wd _) (dg_tr _) (dg_tr _) (by rw [dg_val, dg_val])
  by_cases hab : a < b
  · refine ⟨[], r, by rw [Nat.div_eq_of_lt hab]; rfl, by rw [Nat.mod_eq_of_lt hab]; exact hr, ?_⟩
    rw [cmpI_lt (by omega)] at cc
    refine callZ ccOk mixed [.val, .val] Try.func65 rfl rfl (by kernel_rfl) fun zwrap zadd zsub zmul zquo zrem zshl zshr zband zbor zbxor zbandn zeq zne zlt zle znot zbeq zbne zmax zmin znat zinb zofN zidx zneq znadd zdif zcut zroom zmkok zlen znth zsetr zisI zgetI zsetI zfit zpart zext zsetg zrep zwide zall zmok zmget zmset zW zth A L F hS hF => ?_
    cbv
    refine ⟨_, hS.call cc, ?_⟩
    cbv
    exact bT (by rw [hS.lt]; rfl) (fin2w hF (TLe.drop _ _) (TVLe.refl _))
  · by_cases h1 : nl b = 1
    · obtain ⟨x, hx⟩ : ∃ x, IsM (a / b) x := ⟨_, rfl⟩
      obtain ⟨y, hy⟩ : ∃ y, IsM (a % b) y := ⟨_, rfl⟩
      refine ⟨x, y, hx, hy, ?_⟩
      have hblt : (b : Int) < 4294967296 := by have := lt_nl b; rw [h1] at this; omega
      have hdgb : dg b = [(b : Int)] := by
        rw [dg_pos hb, show b % 4294967296 = b by omega, show b / 4294967296 = 0 by omega, dg_zero]
      have hmod : (a : Int) % b < b := Int.emod_lt_of_pos _ (by omega)
      have hmod0 : 0 ≤ (a : Int) % b := Int.emod_nonneg _ (by omega)
      have c1 := rshortly_call b ((a : Int) / b) ((a : Int) % b) hr (by unfold nl at hsz; omega) (dg_wd _) (by omega) hblt (by rw [dg_val]) (by rw [dg_val])
      have c2 := rwords_call ((a : Int) % b) hmod0 (by omega)
      have q1 : W .u32 (dg ((a : Int) / b).toNat) = x := hx.symm
      have q2 : W .u32 (dg ((a : Int) % b).toNat) = y := hy.symm
      rw [q1] at c1
      rw [q2] at c2
      obtain ⟨c, hc, hc0⟩ : ∃ c, cmpI (a : Int) b = c ∧ ¬ c < 0 := ⟨_, rfl, by
        unfold cmpI
        rw [if_neg (by omega)]
        split <;> omega⟩
      rw [hc] at cc
      generalize (a : Int) % b = e at *
      generalize hbv : (b : Int) = d at *
      refine callZ ccOk mixed [.val, .val] Try.func65 rfl rfl (by kernel_rfl) fun zwrap zadd zsub zmul zquo zrem zshl zshr zband zbor zbxor zbandn zeq zne zlt zle znot zbeq zbne zmax zmin znat zinb zofN zidx zneq znadd zdif zcut zroom zmkok zlen znth zsetr zisI zgetI zsetI zfit zpart zext zsetg zrep zwide zall zmok zmget zmset zW zth A L F hS hF => ?_
      have z2 : zeq (zofN (zlen s)) 1 = true := by rw [hS.len, hs, W_len, hdgb, hS.ofN, hS.eq]; rfl
      have z3 : zisI .u32 s (znat 0) = true := by rw [hS.isI, hs, hS.nat, hdgb]; rfl
      have z4 : zwrap .u64 (zgetI s (znat 0)) = d := by rw [hS.getI, hs, hS.nat, W_getI, hdgb, hS.wrap]; exact wrap_u64 (by show 0 ≤ d; omega) (by show d < _; omega)
      cbv
      refine ⟨_, hS.call cc, ?_⟩
      cbv
      rw [z4]
      refine bF (by rw [hS.lt]; exact decide_eq_false hc0) (bT z2 (nd (by rw [hS.le]; rfl) (nd z3 ⟨_, hS.call c1, ?_⟩)))
      cbv
      refine ⟨_, hS.call c2, ?_⟩
      cbv
      exact hF _ (ResLe.refl _)
    · have h0 : nl b ≠ 0 := fun h => hb (nl_zero.1 h)
      exact ⟨_, _, rfl, rfl, rdivided_long hr hs (by omega) (by omega) hsz⟩
end Go.Proofs.Ytgncmjcoojmccaa
end

section
set_option linter.unusedVariables false
set_option linter.unusedSimpArgs false
set_option maxHeartbeats 8000000
set_option linter.unusedVariables false
set_option linter.unusedSimpArgs false
set_option maxRecDepth 100000
namespace Go.Proofs.Ytgncmjcoojmccaa
open Go Go.Abs Go.Abs.M Go.Proofs

theorem rdivmod_call {x y : Int} {s t : Bool} {r q : Abs.Rows} (hx : IsI x s r) (hy : IsI y t q) (hy0 : y ≠ 0) (h1 : nl x.natAbs ≤ 274877906944) (h2 : nl y.natAbs ≤ 274877906944) :
    ∃ u w p, IsI (x / y) u w ∧ IsI (x % y) false p ∧ ACall Try.prog 42 [.val (.agg (iT s r)), .val (.agg (iT t q))] ⟨[.val (.agg (iT u w)), .val (.agg (iT false p)), .val (ti .i64 0)], [none, none]⟩ := by
  obtain ⟨a1, a2, ha1, ha2, cd⟩ := rdivided_call hx.m hy.m (by omega) (by omega) (by omega)
  obtain ⟨m1, m2, m3⟩ := divmod_abs (x := x) hy0
  obtain ⟨u, hu⟩ : ∃ u, u = decide (x / y < 0) := ⟨_, rfl⟩
  obtain ⟨w, hw⟩ : ∃ w, IsM (x / y).natAbs w := ⟨_, rfl⟩
  obtain ⟨p, hp⟩ : ∃ p, IsM (x % y).natAbs p := ⟨_, rfl⟩
  have hmod0 := Int.emod_nonneg x hy0
  have hyn : y.natAbs ≠ 0 := by omega
  have hdle : x.natAbs / y.natAbs ≤ x.natAbs := Nat.div_le_self ..
  have hmlt : x.natAbs % y.natAbs < y.natAbs := Nat.mod_lt _ (by omega)
  have hs := hx.s
  have ht := hy.s
  have hbq : nl (x / y).natAbs ≤ 549755813888 := by
    have a := nl_mono (show (x / y).natAbs ≤ x.natAbs + 1 by
      by_cases h : x < 0 ∧ x.natAbs % y.natAbs ≠ 0
      · have := (m2 h).1; omega
      · have := (m1 h).1; omega)
    have b := nl_add x.natAbs 1
    have c : nl 1 ≤ 1 := nl_le_of (by omega)
    omega
  have hbr : nl (x % y).natAbs ≤ 549755813888 := by
    have a := nl_mono (show (x % y).natAbs ≤ y.natAbs by
      by_cases h : x < 0 ∧ x.natAbs % y.natAbs ≠ 0
      · have := (m2 h).2; omega
      · have := (m1 h).2; omega)
    omega
  have cm1 := rmadeM (!(s == t)) u hw (by omega) (by
    rw [hu, hs, ht, Bool.eq_iff_iff]
    by_cases h : x < 0 <;> by_cases h' : y < 0 <;> simp [h, h'] at m3 ⊢ <;> omega)
  have cm2 := rmadeM false false hp (by omega) rfl
  have hql : q.length = nl y.natAbs := hy.m.len
  have hql0 : nl y.natAbs ≠ 0 := fun h => hyn (nl_zero.1 h)
  have ha2l : a2.length = nl (x.natAbs % y.natAbs) := ha2.len
  have ha2z := @nl_zero (x.natAbs % y.natAbs)
  refine ⟨u, w, p, ⟨hu, hw⟩, ⟨(decide_eq_false (by omega)).symm, hp⟩, ?_⟩
  by_cases hc : x < 0 ∧ x.natAbs % y.natAbs ≠ 0
  · obtain ⟨n1, n2⟩ := m2 hc
    have ca := radded_call (s := W .u32 [1]) ha1 rfl (by have := nl_mono hdle; unfold nl at *; omega) (by simp) (dg_wd _) (Wd.cons (by omega) (by omega) Wd.nil)
    have ct := rtaken_call hy.m ha2 (by unfold nl at *; omega) (by have := nl_mono (Nat.le_of_lt hmlt); unfold nl at *; omega) (dg_wd _) (dg_wd _) (by rw [dg_val, dg_val]; omega)
    rw [dg_val, dg_val] at ct
    rw [dg_val, show val [1] = 1 from rfl] at ca
    have e1 : W .u32 (dg (((x.natAbs / y.natAbs : Nat) : Int) + 1).toNat) = w := by rw [hw]; congr 2; omega
    have e2 : W .u32 (dg ((y.natAbs : Int) - ((x.natAbs % y.natAbs : Nat) : Int)).toNat) = p := by rw [hp]; congr 2; omega
    rw [e1] at ca
    rw [e2] at ct
    have hs' : s = true := by rw [hs]; exact decide_eq_true hc.1
    subst hs'
    clear m1 m2 m3 hbq hbr
    refine callZ ccOk mixed [.val, .val, .val] Try.func42 rfl rfl (by kernel_rfl) fun zwrap zadd zsub zmul zquo zrem zshl zshr zband zbor zbxor zbandn zeq zne zlt zle znot zbeq zbne zmax zmin znat zinb zofN zidx zneq znadd zdif zcut zroom zmkok zlen znth zsetr zisI zgetI zsetI zfit zpart zext zsetg zrep zwide zall zmok zmget zmset zW zth A L F hS hF => ?_
    have z1 : zeq (zofN (zlen q)) 0 = false := by rw [hS.len, hql, hS.ofN, hS.eq]; exact decide_eq_false (by omega)
    have z2 : zlt 0 (zofN (zlen a2)) = true := by rw [hS.len, ha2l, hS.ofN, hS.lt]; exact decide_eq_true (by omega)
    have z3 : zpart [[.v (.int .u32 1)]] 0 1 = W .u32 [1] := by rw [hS.part]; rfl
    have z4 : zfit 0 1 [[.v (.int .u32 1)]] = true := by rw [hS.fit]; rfl
    cbv
    refine bF z1 ⟨_, hS.call cd, ?_⟩
    cbv
    refine bT rfl (bT z2 (nd z4 ?_))
    rw [z3]
    refine ⟨_, hS.call ca, ?_⟩
    cbv
    refine ⟨_, hS.call ct, ?_⟩
    cbv
    rw [hS.bne]
    refine ⟨_, hS.call cm1, ?_⟩
    cbv
    refine ⟨_, hS.call cm2, ?_⟩
    cbv
    exact hF _ (ResLe.refl _)
  · obtain ⟨n1, n2⟩ := m1 hc
    obtain rfl : w = a1 := by rw [hw, ha1, n1]
    obtain rfl : p = a2 := by rw [hp, ha2, n2]; rfl
    clear m1 m2 m3 hbq hbr
    refine callZ ccOk mixed [.val, .val, .val] Try.func42 rfl rfl (by kernel_rfl) fun zwrap zadd zsub zmul zquo zrem zshl zshr zband zbor zbxor zbandn zeq zne zlt zle znot zbeq zbne zmax zmin znat zinb zofN zidx zneq znadd zdif zcut zroom zmkok zlen znth zsetr zisI zgetI zsetI zfit zpart zext zsetg zrep zwide zall zmok zmget zmset zW zth A L F hS hF => ?_
    have z1 : zeq (zofN (zlen q)) 0 = false := by rw [hS.len, hql, hS.ofN, hS.eq]; exact decide_eq_false (by omega)
    have z2 : s = true → zlt 0 (zofN (zlen p)) = false := fun h => by
      rw [hS.len, ha2l, hS.ofN, hS.lt]
      rw [h] at hs
      have := of_decide_eq_true hs.symm
      exact decide_eq_false (by omega)
    have fin : A 47 [.val (tb (!(s == t))), .val (tl w)] ⟨[.val (.agg (iT u w))], [none, none]⟩ := hS.call cm1
    cbv
    refine bF z1 ⟨_, hS.call cd, ?_⟩
    cbv
    refine ⟨fun h => bF (z2 h) ?_, fun h => ?_⟩
    all_goals
      rw [hS.bne]
      refine ⟨_, fin, ?_⟩
      cbv
      refine ⟨_, hS.call cm2, ?_⟩
      cbv
      exact hF _ (ResLe.refl _)
end Go.Proofs.Ytgncmjcoojmccaa
end

section
set_option linter.unusedVariables false
set_option linter.unusedSimpArgs false
set_option maxHeartbeats 8000000
set_option linter.unusedVariables false
set_option linter.unusedSimpArgs false
set_option maxRecDepth 100000
namespace Go.Proofs.Ytgncmjcoojmccaa
open Go Go.Abs Go.Abs.M Go.Proofs
theorem rnumber_call {l : List Int} {r : Abs.Rows} (n : Int) (hr : r = W .u32 l) (hl : l.length ≤ 2) (hw : Wd l) (hn : n = val l) : ACall Try.prog 66 [.val (tl r)] ⟨[.val (ti .u64 n)], [none]⟩ := by
  have a := hw.get 0
  have b := hw.get 1
  have c1 := rword_call 1 hr (by omega) hw (by omega)
  have c0 := rword_call 0 hr (by omega) hw (by omega)
  have hv : val l = l.getD 0 0 + 4294967296 * l.getD 1 0 := by
    match l, hl with
    | [], _ => rfl
    | [x], _ => simp [val]
    | [x, y], _ => simp [val]
  rw [show (1 : Int).toNat = 1 from rfl] at c1
  rw [show (0 : Int).toNat = 0 from rfl] at c0
  generalize l.getD 0 0 = x at *
  generalize l.getD 1 0 = y at *
  refine callZ ccOk mixed [.val] Try.func66 rfl rfl (by kernel_rfl) fun zwrap zadd zsub zmul zquo zrem zshl zshr zband zbor zbxor zbandn zeq zne zlt zle znot zbeq zbne zmax zmin znat zinb zofN zidx zneq znadd zdif zcut zroom zmkok zlen znth zsetr zisI zgetI zsetI zfit zpart zext zsetg zrep zwide zall zmok zmget zmset zW zth A L F hS hF => ?_
  cbv
  refine ⟨_, hS.call c1, ?_⟩
  cbv
  refine ⟨_, hS.call c0, ?_⟩
  cbv
  refine fin1 hF (tv_int ?_)
  rw [hn, hv, hS.wrap, hS.wrap, hS.mul, hS.add, wrap_u64 (x := y * 4294967296) (by omega) (by omega), wrap_u64 (by omega) (by omega)]
  omega
def reucSt (a b : Int) : St := mkSt 14 [vi .u64 a, vi .u64 b] [none, none]
theorem reuclid_call (a b : Nat) (g : Int) (ha : a < 18446744073709551616) (hb : b < 18446744073709551616) (hg : g = Nat.gcd a b) : ACall Try.prog 92 [.val (ti .u64 a), .val (ti .u64 b)] ⟨[.val (ti .u64 g)], [none, none]⟩ := by
  obtain ⟨x, hx⟩ : ∃ x : Int, x = a := ⟨_, rfl⟩
  obtain ⟨y, hy⟩ : ∃ y : Int, y = b := ⟨_, rfl⟩
  rw [← hx, ← hy]
  refine callZ ccOk mixed [.val] Try.func92 rfl rfl (by kernel_rfl) fun zwrap zadd zsub zmul zquo zrem zshl zshr zband zbor zbxor zbandn zeq zne zlt zle znot zbeq zbne zmax zmin znat zinb zofN zidx zneq znadd zdif zcut zroom zmkok zlen znth zsetr zisI zgetI zsetI zfit zpart zext zsetg zrep zwide zall zmok zmget zmset zW zth A L F hS hF => ?_
  cbv
  refine loopZ ccOk mixed hS (fun (m : Nat) s => ∃ c : Nat, c < 18446744073709551616 ∧ m < 18446744073709551616 ∧ Nat.gcd c m = Nat.gcd a b ∧ s = reucSt (zofN c) (zofN m)) (n := b) (s0 := reucSt (zofN a) (zofN b)) (le_of ?_ ?_) rfl (Nat.le_refl 2) ?_ ?_
  · simp [leT, reucSt, mkSt, vi, hS.ofN, hx, hy]
  · simp [leH, reucSt, mkSt]
  · exact ⟨a, ha, hb, rfl, rfl⟩
  · rintro m _ ⟨c, hc, hm, hgc, rfl⟩
    have e1 : 0 < m → zrem (zofN c) (zofN m) = zofN (c % m) := fun h => by rw [hS.rem, hS.ofN, hS.ofN, hS.ofN, Int.tmod_eq_emod_of_nonneg (by omega)]; rfl
    have e2 : zlt 0 (zofN m) = decide (0 < m) := by
      rw [hS.lt, hS.ofN]
      by_cases h : 0 < m
      · rw [decide_eq_true h]; exact decide_eq_true (by omega)
      · rw [decide_eq_false h]; exact decide_eq_false (by omega)
    have e3 : 0 < m → zne (zofN m) 0 = true := fun h => by rw [hS.ne, hS.ofN]; exact decide_eq_true (by omega)
    have e4 : m = 0 → zofN c = g := fun h => by subst h; rw [Nat.gcd_zero_right] at hgc; rw [hS.ofN, hg, hgc]
    cbv
    refine ⟨fun h => ?_, fun h => ?_⟩
    all_goals rw [e2] at h
    · have h := of_decide_eq_true h
      rw [e1 h]
      refine nd (e3 h) ?_
      refine again (s' := reucSt (zofN m) (zofN (c % m))) (m := c % m) (by simp [leT, reucSt, mkSt, vi]) (by simp [leH, reucSt, mkSt]) rfl (Nat.le_refl 2) (Nat.mod_lt _ h) ⟨m, hm, ?_, ?_, rfl⟩
      · have := Nat.mod_lt c h; omega
      · rw [← hgc, Nat.gcd_comm c m, Nat.gcd_rec m c, Nat.gcd_comm]
    · have h := of_decide_eq_false h
      exact fin1 hF (tv_int (e4 (by omega)))

def rcomSt (r s : Abs.Rows) : St := mkSt 33 [vl r, vl s, .junk, .junk, vnil] [none, none]
theorem rcommon_call {r s w : Abs.Rows} {a b : Nat} (hr : IsM a r) (hs : IsM b s) (h1 : nl a ≤ 274877906944) (h2 : nl b ≤ 274877906944) (hg : IsM (Nat.gcd a b) w) : ACall Try.prog 80 [.val (tl r), .val (tl s)] ⟨[.val (tl w)], [none, none]⟩ := by
  refine callZ ccOk mixed [.val] Try.func80 rfl rfl (by kernel_rfl) fun zwrap zadd zsub zmul zquo zrem zshl zshr zband zbor zbxor zbandn zeq zne zlt zle znot zbeq zbne zmax zmin znat zinb zofN zidx zneq znadd zdif zcut zroom zmkok zlen znth zsetr zisI zgetI zsetI zfit zpart zext zsetg zrep zwide zall zmok zmget zmset zW zth A L F hS hF => ?_
  cbv
  refine loopZ ccOk mixed hS (fun (m : Nat) s => ∃ (c : Nat) (x y : Abs.Rows), IsM c x ∧ IsM m y ∧ nl c ≤ 274877906944 ∧ nl m ≤ 274877906944 ∧ Nat.gcd c m = Nat.gcd a b ∧ s = rcomSt x y) (n := b) (s0 := rcomSt r s) (le_of ?_ ?_) rfl (Nat.le_refl 2) ?_ ?_
  · simp [leT, rcomSt, mkSt, vl, vnil]
  · simp [leH, rcomSt, mkSt]
  · exact ⟨a, r, s, hr, hs, h1, h2, rfl, rfl⟩
  · rintro m _ ⟨c, x, y, hx, hy, l1, l2, hgc, rfl⟩
    have hmz := @nl_zero m
    have hxl : zlen x = nl c := by rw [hS.len, hx.len]
    have hyl : zlen y = nl m := by rw [hS.len, hy.len]
    have e1 : zlt 0 (zofN (zlen y)) = decide (m ≠ 0) := by
      rw [hyl, hS.lt, hS.ofN]
      by_cases h : m = 0
      · rw [decide_eq_false (show ¬ m ≠ 0 by omega)]; exact decide_eq_false (by omega)
      · rw [decide_eq_true h]; exact decide_eq_true (by omega)
    have e2 : zle (zofN (zlen x)) 2 = decide (nl c ≤ 2) := by
      rw [hxl, hS.le, hS.ofN]
      by_cases h : nl c ≤ 2
      · rw [decide_eq_true h]; exact decide_eq_true (by omega)
      · rw [decide_eq_false h]; exact decide_eq_false (by omega)
    have e3 : zle (zofN (zlen y)) 2 = decide (nl m ≤ 2) := by
      rw [hyl, hS.le, hS.ofN]
      by_cases h : nl m ≤ 2
      · rw [decide_eq_true h]; exact decide_eq_true (by omega)
      · rw [decide_eq_false h]; exact decide_eq_false (by omega)
    have hdiv : m ≠ 0 → ∃ p q, IsM (c / m) p ∧ IsM (c % m) q ∧ ACall Try.prog 65 [.val (tl x), .val (tl y)] ⟨[.val (tl p), .val (tl q)], [none, none]⟩ := fun h => rdivided_call hx hy h (by omega) (by omega)
    have hshort : nl c ≤ 2 → nl m ≤ 2 → ∃ (c' m' g : Int), ACall Try.prog 66 [.val (tl x)] ⟨[.val (ti .u64 c')], [none]⟩ ∧ ACall Try.prog 66 [.val (tl y)] ⟨[.val (ti .u64 m')], [none]⟩ ∧
        ACall Try.prog 92 [.val (ti .u64 c'), .val (ti .u64 m')] ⟨[.val (ti .u64 g)], [none, none]⟩ ∧ ACall Try.prog 48 [.val (ti .u64 g)] ⟨[.val (tl w)], [none]⟩ := fun k1 k2 => by
      have b1 := lt_nl c
      have b2 := lt_nl m
      have b3 := ipow_le k1
      have b4 := ipow_le k2
      have n1 := rnumber_call (c : Int) hx k1 (dg_wd _) (by rw [dg_val])
      have n2 := rnumber_call (m : Int) hy k2 (dg_wd _) (by rw [dg_val])
      have hgb : Nat.gcd c m < 18446744073709551616 := by
        by_cases h : m = 0
        · subst h; rw [Nat.gcd_zero_right]; omega
        · have := Nat.gcd_le_right c (Nat.pos_of_ne_zero h); omega
      have n4 := rwords_call (Nat.gcd c m : Int) (by omega) (by omega)
      rw [Int.toNat_natCast, hgc, ← show w = W .u32 (dg (Nat.gcd a b)) from hg, ← hgc] at n4
      exact ⟨_, _, _, n1, n2, reuclid_call c m _ (by omega) (by omega) rfl, n4⟩
    have hend : m = 0 → x = w := fun h => by
      subst h
      rw [Nat.gcd_zero_right] at hgc
      rw [hx, hg, hgc]
    cbv
    refine ⟨fun h => ?_, fun h => ?_⟩
    all_goals rw [e1] at h
    · have h := of_decide_eq_true h
      have go : ∀ (H : Prop), (∀ p q, IsM (c % m) q → ACall Try.prog 65 [.val (tl x), .val (tl y)] ⟨[.val (tl p), .val (tl q)], [none, none]⟩ → H) → H := fun H k => by
        obtain ⟨p, q, _, hq, cd⟩ := hdiv h
        exact k p q hq cd
      have nx : ∀ q, IsM (c % m) q → ∃ (c' : Nat) (x' y' : Abs.Rows), IsM c' x' ∧ IsM (c % m) y' ∧ nl c' ≤ 274877906944 ∧ nl (c % m) ≤ 274877906944 ∧ Nat.gcd c' (c % m) = Nat.gcd a b ∧ rcomSt y q = rcomSt x' y' := fun q hq =>
        ⟨m, y, q, hy, hq, l2, Nat.le_trans (nl_mono (Nat.le_of_lt (Nat.mod_lt _ (Nat.pos_of_ne_zero h)))) l2, by rw [← hgc, Nat.gcd_comm c m, Nat.gcd_rec m c, Nat.gcd_comm], rfl⟩
      refine ⟨fun h2 => ⟨fun h3 => ?_, fun h3 => ?_⟩, fun h2 => ?_⟩
      · rw [e2] at h2
        rw [e3] at h3
        obtain ⟨c', m', g, n1, n2, n3, n4⟩ := hshort (of_decide_eq_true h2) (of_decide_eq_true h3)
        refine ⟨_, hS.call n1, ?_⟩
        cbv
        refine ⟨_, hS.call n2, ?_⟩
        cbv
        refine ⟨_, hS.call n3, ?_⟩
        cbv
        refine ⟨_, hS.call n4, ?_⟩
        cbv
        exact hF _ (ResLe.refl _)
      all_goals
        refine go _ fun p q hq cd => ?_
        refine ⟨_, hS.call cd, ?_⟩
        cbv
        exact again (s' := rcomSt y q) (m := c % m) (by simp [leT, rcomSt, mkSt, vl, vnil]) (by simp [leH, rcomSt, mkSt]) rfl (Nat.le_refl 2) (Nat.mod_lt _ (Nat.pos_of_ne_zero h)) (nx q hq)
    · have h := of_decide_eq_false h
      rw [hend (by omega)]
      exact hF _ (ResLe.refl _)

theorem rgcd_call {x y : Int} {s t : Bool} {r q : Abs.Rows} (hx : IsI x s r) (hy : IsI y t q) (h1 : nl x.natAbs ≤ 274877906944) (h2 : nl y.natAbs ≤ 274877906944) :
    ∃ w, IsI (Int.gcd x y) false w ∧ ACall Try.prog 61 [.val (.agg (iT s r)), .val (.agg (iT t q))] ⟨[.val (.agg (iT false w))], [none, none]⟩ := by
  obtain ⟨w, hw⟩ : ∃ w, IsM (Int.gcd x y) w := ⟨_, rfl⟩
  have c1 := rcommon_call (w := w) hx.m hy.m h1 h2 hw
  have hb : nl (Int.gcd x y) ≤ 2199023255552 := by
    by_cases h : x = 0
    · subst h
      have : Int.gcd 0 y = y.natAbs := by simp [Int.gcd]
      rw [this]; omega
    · have : Int.gcd x y ≤ x.natAbs := Nat.gcd_le_left _ (by omega)
      have := nl_mono this
      omega
  have c2 := rmadeM false false hw hb rfl
  refine ⟨w, ⟨(decide_eq_false (by omega)).symm, hw⟩, ?_⟩
  refine callZ ccOk mixed [.val] Try.func61 rfl rfl (by kernel_rfl) fun zwrap zadd zsub zmul zquo zrem zshl zshr zband zbor zbxor zbandn zeq zne zlt zle znot zbeq zbne zmax zmin znat zinb zofN zidx zneq znadd zdif zcut zroom zmkok zlen znth zsetr zisI zgetI zsetI zfit zpart zext zsetg zrep zwide zall zmok zmget zmset zW zth A L F hS hF => ?_
  cbv
  refine ⟨_, hS.call c1, ?_⟩
  cbv
  refine ⟨_, hS.call c2, ?_⟩
  cbv
  exact hF _ (ResLe.refl _)
end Go.Proofs.Ytgncmjcoojmccaa
end

section
set_option linter.unusedVariables false
set_option linter.unusedSimpArgs false
/-
  Rational numbers of the program as numbers.
-/
set_option linter.unusedVariables false
namespace Go.Abs
open Go.Abs.M

/-- The cells of a rational number: numerator, denominator. -/
structure IsR (x : Rat) (s : Bool) (r : Rows) (t : Bool) (q : Rows) : Prop where
  n : IsI x.num s r
  d : IsI (x.den : Int) t q

theorem lowest_num {n d : Int} (hd : d ≠ 0) : n / (if d < 0 then -(Int.gcd n d : Int) else (Int.gcd n d : Int)) = (Rat.divInt n d).num := by
  rw [Rat.num_divInt, Int.gcd_comm d n]
  have hdvd : ((Int.gcd n d : Nat) : Int) ∣ n := Int.gcd_dvd_left ..
  by_cases h : d < 0
  · rw [if_pos h, Int.ediv_neg, Int.sign_eq_neg_one_of_neg h, Int.neg_one_mul, Int.neg_ediv_of_dvd hdvd]
  · rw [if_neg h, Int.sign_eq_one_of_pos (by omega), Int.one_mul]

theorem lowest_den {n d : Int} (hd : d ≠ 0) : d / (if d < 0 then -(Int.gcd n d : Int) else (Int.gcd n d : Int)) = ((Rat.divInt n d).den : Int) := by
  rw [Rat.den_divInt, if_neg hd, Int.gcd_comm d n]
  have hdvd : ((Int.gcd n d : Nat) : Int) ∣ d := Int.gcd_dvd_right ..
  by_cases h : d < 0
  · rw [if_pos h, Int.ediv_neg, ← Int.neg_ediv_of_dvd hdvd, show -d = (d.natAbs : Int) by omega]; rfl
  · rw [if_neg h]
    conv => lhs; rw [show d = (d.natAbs : Int) by omega]
    rfl

end Go.Abs
end

section
set_option linter.unusedVariables false
set_option linter.unusedSimpArgs false
set_option maxHeartbeats 8000000
set_option linter.unusedVariables false
set_option linter.unusedSimpArgs false
set_option maxRecDepth 100000
namespace Go.Proofs.Ytgncmjcoojmccaa
open Go Go.Abs Go.Abs.M Go.Proofs

theorem rexact_call {x y : Int} {s t : Bool} {r q : Abs.Rows} (hx : IsI x s r) (hy : IsI y t q) (hy0 : y ≠ 0) (h1 : nl x.natAbs ≤ 274877906944) (h2 : nl y.natAbs ≤ 274877906944) :
    ∃ u w, IsI (x / y) u w ∧ ACall Try.prog 64 [.val (.agg (iT s r)), .val (.agg (iT t q))] ⟨[.val (.agg (iT u w))], [none, none]⟩ := by
  obtain ⟨u, w, p, hu, hp, cd⟩ := rdivmod_call hx hy hy0 h1 h2
  refine ⟨u, w, hu, ?_⟩
  refine callZ ccOk mixed [.val] Try.func64 rfl rfl (by kernel_rfl) fun zwrap zadd zsub zmul zquo zrem zshl zshr zband zbor zbxor zbandn zeq zne zlt zle znot zbeq zbne zmax zmin znat zinb zofN zidx zneq znadd zdif zcut zroom zmkok zlen znth zsetr zisI zgetI zsetI zfit zpart zext zsetg zrep zwide zall zmok zmget zmset zW zth A L F hS hF => ?_
  cbv
  refine ⟨_, hS.call cd, ?_⟩
  cbv
  exact hF _ (ResLe.refl _)

theorem rlowest_call {x y : Int} {s t : Bool} {r q : Abs.Rows} (hx : IsI x s r) (hy : IsI y t q) (hy0 : y ≠ 0) (h1 : nl x.natAbs ≤ 274877906944) (h2 : nl y.natAbs ≤ 274877906944) :
    ∃ u w v p, IsR (Rat.divInt x y) u w v p ∧ ACall Try.prog 40 [.val (.agg (iT s r)), .val (.agg (iT t q))] ⟨[.val (.agg (iT u w ++ iT v p))], [none, none]⟩ := by
  obtain ⟨g, hg, cg⟩ := rgcd_call hx hy h1 h2
  have hgp : Int.gcd x y ≠ 0 := by
    intro h
    rw [Int.gcd_eq_zero_iff] at h
    exact hy0 h.2
  have hgle : nl (Int.gcd x y) ≤ 274877906944 := by
    have : Int.gcd x y ≤ y.natAbs := Nat.gcd_le_right _ (by omega)
    have := nl_mono this
    omega
  have cs := rsign_call (cmpI y 0) hy rfl
  obtain ⟨a, b, hn, cn⟩ := rneg_call hg (by rw [Int.natAbs_natCast]; omega)
  by_cases hneg : y < 0
  · obtain ⟨u, w, hu, c1⟩ := rexact_call hx hn (by omega) h1 (by rw [Int.natAbs_neg, Int.natAbs_natCast]; exact hgle)
    obtain ⟨v, p, hv, c2⟩ := rexact_call hy hn (by omega) h2 (by rw [Int.natAbs_neg, Int.natAbs_natCast]; exact hgle)
    have e1 := lowest_num (n := x) hy0
    have e2 := lowest_den (n := x) hy0
    rw [if_pos hneg] at e1 e2
    refine ⟨u, w, v, p, ⟨hu.of e1, hv.of e2⟩, ?_⟩
    rw [cmpI_lt hneg] at cs
    refine callZ ccOk mixed [.val] Try.func40 rfl rfl (by kernel_rfl) fun zwrap zadd zsub zmul zquo zrem zshl zshr zband zbor zbxor zbandn zeq zne zlt zle znot zbeq zbne zmax zmin znat zinb zofN zidx zneq znadd zdif zcut zroom zmkok zlen znth zsetr zisI zgetI zsetI zfit zpart zext zsetg zrep zwide zall zmok zmget zmset zW zth A L F hS hF => ?_
    cbv
    refine ⟨_, hS.call cg, ?_⟩
    cbv
    refine ⟨_, hS.call cs, ?_⟩
    cbv
    refine bT (by rw [hS.lt]; rfl) ⟨_, hS.call cn, ?_⟩
    cbv
    refine ⟨_, hS.call c1, ?_⟩
    cbv
    refine ⟨_, hS.call c2, ?_⟩
    cbv
    exact hF _ (ResLe.refl _)
  · obtain ⟨u, w, hu, c1⟩ := rexact_call hx hg (by omega) h1 (by rw [Int.natAbs_natCast]; exact hgle)
    obtain ⟨v, p, hv, c2⟩ := rexact_call hy hg (by omega) h2 (by rw [Int.natAbs_natCast]; exact hgle)
    have e1 := lowest_num (n := x) hy0
    have e2 := lowest_den (n := x) hy0
    rw [if_neg hneg] at e1 e2
    refine ⟨u, w, v, p, ⟨hu.of e1, hv.of e2⟩, ?_⟩
    rw [cmpI_gt (by omega)] at cs
    refine callZ ccOk mixed [.val] Try.func40 rfl rfl (by kernel_rfl) fun zwrap zadd zsub zmul zquo zrem zshl zshr zband zbor zbxor zbandn zeq zne zlt zle znot zbeq zbne zmax zmin znat zinb zofN zidx zneq znadd zdif zcut zroom zmkok zlen znth zsetr zisI zgetI zsetI zfit zpart zext zsetg zrep zwide zall zmok zmget zmset zW zth A L F hS hF => ?_
    cbv
    refine ⟨_, hS.call cg, ?_⟩
    cbv
    refine ⟨_, hS.call cs, ?_⟩
    cbv
    refine bF (by rw [hS.lt]; rfl) ⟨_, hS.call c1, ?_⟩
    cbv
    refine ⟨_, hS.call c2, ?_⟩
    cbv
    exact hF _ (ResLe.refl _)

theorem rsmall_call {x : Int} {s : Bool} {r : Abs.Rows} (hx : IsI x s r) (h0 : -9223372036854775808 ≤ x) (h1 : x < 9223372036854775808) : ACall Try.prog 43 [.val (.agg (iT s r))] ⟨[.val (ti .i64 x), .val (tb true)], [none]⟩ := by
  have hl : nl x.natAbs ≤ 2 := nl_le_of (by omega)
  have cn := rnumber_call (x.natAbs : Int) hx.m hl (dg_wd _) (by rw [dg_val])
  have hrl : r.length = nl x.natAbs := hx.m.len
  have hs := hx.s
  obtain ⟨n, hn⟩ : ∃ n : Int, n = x.natAbs := ⟨_, rfl⟩
  rw [← hn] at cn
  have hn1 : x < 0 → n = -x := by omega
  have hn2 : ¬ x < 0 → n = x := by omega
  have hr1 : ¬ ((2:Int) < (r.length : Int)) := by omega
  clear hn
  refine callZ ccOk mixed [.val, .val] Try.func43 rfl rfl (by kernel_rfl) fun zwrap zadd zsub zmul zquo zrem zshl zshr zband zbor zbxor zbandn zeq zne zlt zle znot zbeq zbne zmax zmin znat zinb zofN zidx zneq znadd zdif zcut zroom zmkok zlen znth zsetr zisI zgetI zsetI zfit zpart zext zsetg zrep zwide zall zmok zmget zmset zW zth A L F hS hF => ?_
  have z1 : zlt 2 (zofN (zlen r)) = false := by rw [hS.len, hS.ofN, hS.lt]; exact decide_eq_false hr1
  cbv
  refine bF z1 ⟨_, hS.call cn, ?_⟩
  cbv
  simp only [hS.wrap, hS.add, hS.sub, hS.mul, hS.quo, hS.rem, hS.shl, hS.shr, hS.band, hS.bor, hS.bxor, hS.bandn, hS.eq, hS.ne, hS.lt, hS.le, hS.not, hS.beq, hS.bne, hS.max, hS.min, hS.nat, hS.inb, hS.ofN, hS.idx, hS.neq, hS.nadd, hS.dif, hS.cut, hS.room, hS.mkok, hS.len, hS.nth, hS.setr, hS.isI, hS.getI, hS.setI, hS.fit, hS.part, hS.ext, hS.setg, hS.rep, hS.wide, hS.all]
  by_cases h : x < 0
  · rw [decide_eq_true h] at hs
    subst hs
    have hn3 := hn1 h
    clear hn1 hn2
    refine bF rfl (bT rfl (bT (decide_eq_true (by omega)) (fin2 hF (tv_int ?_) rfl)))
    rw [wrap_u64 (x := n - 1) (by omega) (by omega), wrap_i64 (x := n - 1) (by omega) (by omega), wrap_i64 (x := 0 - (n - 1)) (by omega) (by omega), wrap_i64 (by omega) (by omega)]
    omega
  · rw [decide_eq_false h] at hs
    subst hs
    have hn3 := hn2 h
    clear hn1 hn2
    refine bT rfl (bT (decide_eq_true (by omega)) (fin2 hF (tv_int ?_) rfl))
    rw [wrap_i64 (by omega) (by omega)]
    omega

theorem rresidue_call {x p e : Int} {s : Bool} {r : Abs.Rows} (hx : IsI x s r) (h1 : nl x.natAbs ≤ 274877906944) (hp : 0 < p) (hp2 : p < 9223372036854775808) (he : e = x % p) : ACall Try.prog 22 [.val (.agg (iT s r)), .val (ti .u64 p)] ⟨[.val (ti .u64 e)], [none, none]⟩ := by
  obtain ⟨a, b, ho, co⟩ := rof_call p (by omega) hp2
  obtain ⟨u, w, v, _, hv, cd⟩ := rdivmod_call hx ho (by omega) h1 (by have := nl_le_of (n := p.natAbs) (k := 2) (by omega); omega)
  have b1 := Int.emod_nonneg x (show p ≠ 0 by omega)
  have b2 := Int.emod_lt_of_pos x hp
  have c3 := rsmall_call hv (by omega) (by omega)
  rw [← he] at c3 b1 b2
  refine callZ ccOk mixed [.val] Try.func22 rfl rfl (by kernel_rfl) fun zwrap zadd zsub zmul zquo zrem zshl zshr zband zbor zbxor zbandn zeq zne zlt zle znot zbeq zbne zmax zmin znat zinb zofN zidx zneq znadd zdif zcut zroom zmkok zlen znth zsetr zisI zgetI zsetI zfit zpart zext zsetg zrep zwide zall zmok zmget zmset zW zth A L F hS hF => ?_
  have z1 : zwrap .i64 p = p := by rw [hS.wrap]; exact wrap_i64 (by omega) (by omega)
  cbv
  rw [z1]
  refine ⟨_, hS.call co, ?_⟩
  cbv
  refine ⟨_, hS.call cd, ?_⟩
  cbv
  refine ⟨_, hS.call c3, ?_⟩
  cbv
  exact fin1 hF (tv_int (by rw [hS.wrap]; exact wrap_u64 b1 (by omega)))
end Go.Proofs.Ytgncmjcoojmccaa
end

section
set_option linter.unusedVariables false
set_option linter.unusedSimpArgs false
set_option maxHeartbeats 8000000
set_option linter.unusedVariables false
set_option linter.unusedSimpArgs false
set_option maxRecDepth 100000
namespace Go.Proofs.Ytgncmjcoojmccaa
open Go Go.Abs Go.Abs.M Go.Proofs

/-- The sizes of a rational number's two integers. -/
def Qs (x : Rat) (k : Nat) : Prop := nl x.num.natAbs ≤ k ∧ nl x.den ≤ k

theorem qmul_call {x y : Rat} {s t s' t' : Bool} {r q r' q' : Abs.Rows} (hx : IsR x s r t q) (hy : IsR y s' r' t' q') (h1 : Qs x 68719476736) (h2 : Qs y 68719476736) :
    ∃ u w v p, IsR (x * y) u w v p ∧ ACall Try.prog 24 [.val (.agg (iT s r ++ iT t q)), .val (.agg (iT s' r' ++ iT t' q'))] ⟨[.val (.agg (iT u w ++ iT v p))], [none, none]⟩ := by
  obtain ⟨x1, x2⟩ := h1
  obtain ⟨y1, y2⟩ := h2
  obtain ⟨a, b, ha, ca⟩ := rmul_call hx.n hy.n (by omega) (by omega)
  obtain ⟨c, d, hc, cc⟩ := rmul_call hx.d hy.d (by rw [Int.natAbs_natCast]; omega) (by rw [Int.natAbs_natCast]; omega)
  have hx0 := x.den_nz
  have hy0 := y.den_nz
  obtain ⟨u, w, v, p, hu, cl⟩ := rlowest_call ha hc (Int.mul_ne_zero (by omega) (by omega))
    (by rw [Int.natAbs_mul]; have := nl_mul x.num.natAbs y.num.natAbs; omega)
    (by rw [Int.natAbs_mul, Int.natAbs_natCast, Int.natAbs_natCast]; have := nl_mul x.den y.den; omega)
  refine ⟨u, w, v, p, ?_, ?_⟩
  · rw [← Rat.divInt_mul_divInt, Rat.num_divInt_den, Rat.num_divInt_den] at hu
    exact hu
  refine callZ ccOk mixed [.val] Try.func24 rfl rfl (by kernel_rfl) fun zwrap zadd zsub zmul zquo zrem zshl zshr zband zbor zbxor zbandn zeq zne zlt zle znot zbeq zbne zmax zmin znat zinb zofN zidx zneq znadd zdif zcut zroom zmkok zlen znth zsetr zisI zgetI zsetI zfit zpart zext zsetg zrep zwide zall zmok zmget zmset zW zth A L F hS hF => ?_
  cbv
  refine ⟨_, hS.call ca, ?_⟩
  cbv
  refine ⟨_, hS.call cc, ?_⟩
  cbv
  refine ⟨_, hS.call cl, ?_⟩
  cbv
  exact hF _ (ResLe.refl _)

theorem qadd_call {x y : Rat} {s t s' t' : Bool} {r q r' q' : Abs.Rows} (hx : IsR x s r t q) (hy : IsR y s' r' t' q') (h1 : Qs x 68719476736) (h2 : Qs y 68719476736) :
    ∃ u w v p, IsR (x + y) u w v p ∧ ACall Try.prog 23 [.val (.agg (iT s r ++ iT t q)), .val (.agg (iT s' r' ++ iT t' q'))] ⟨[.val (.agg (iT u w ++ iT v p))], [none, none]⟩ := by
  obtain ⟨x1, x2⟩ := h1
  obtain ⟨y1, y2⟩ := h2
  have n1 := nl_mul x.num.natAbs y.den
  have n2 := nl_mul y.num.natAbs x.den
  have n3 := nl_mul x.den y.den
  have hx0 := x.den_nz
  have hy0 := y.den_nz
  obtain ⟨a, b, ha, ca⟩ := rmul_call hx.n hy.d (by omega) (by rw [Int.natAbs_natCast]; omega)
  obtain ⟨a', b', ha', ca'⟩ := rmul_call hy.n hx.d (by omega) (by rw [Int.natAbs_natCast]; omega)
  have m1 : nl (x.num * y.den).natAbs ≤ 137438953472 := by rw [Int.natAbs_mul, Int.natAbs_natCast]; omega
  have m2 : nl (y.num * x.den).natAbs ≤ 137438953472 := by rw [Int.natAbs_mul, Int.natAbs_natCast]; omega
  obtain ⟨e, f, he, ce⟩ := radd_call ha ha' (by omega) (by omega)
  obtain ⟨c, d, hc, cc⟩ := rmul_call hx.d hy.d (by rw [Int.natAbs_natCast]; omega) (by rw [Int.natAbs_natCast]; omega)
  obtain ⟨u, w, v, p, hu, cl⟩ := rlowest_call he hc (Int.mul_ne_zero (by omega) (by omega))
    (by
      have := nl_mono (Int.natAbs_add_le (x.num * y.den) (y.num * x.den))
      have := nl_add (x.num * y.den).natAbs (y.num * x.den).natAbs
      omega)
    (by rw [Int.natAbs_mul, Int.natAbs_natCast, Int.natAbs_natCast]; omega)
  refine ⟨u, w, v, p, ?_, ?_⟩
  · rw [← Rat.divInt_add_divInt _ _ (by omega) (by omega), Rat.num_divInt_den, Rat.num_divInt_den] at hu
    exact hu
  refine callZ ccOk mixed [.val] Try.func23 rfl rfl (by kernel_rfl) fun zwrap zadd zsub zmul zquo zrem zshl zshr zband zbor zbxor zbandn zeq zne zlt zle znot zbeq zbne zmax zmin znat zinb zofN zidx zneq znadd zdif zcut zroom zmkok zlen znth zsetr zisI zgetI zsetI zfit zpart zext zsetg zrep zwide zall zmok zmget zmset zW zth A L F hS hF => ?_
  cbv
  refine ⟨_, hS.call ca, ?_⟩
  cbv
  refine ⟨_, hS.call ca', ?_⟩
  cbv
  refine ⟨_, hS.call ce, ?_⟩
  cbv
  refine ⟨_, hS.call cc, ?_⟩
  cbv
  refine ⟨_, hS.call cl, ?_⟩
  cbv
  exact hF _ (ResLe.refl _)
end Go.Proofs.Ytgncmjcoojmccaa
end

section
set_option linter.unusedVariables false
set_option linter.unusedSimpArgs false
set_option maxHeartbeats 4000000
set_option linter.unusedVariables false
set_option linter.unusedSimpArgs false
set_option maxRecDepth 100000
namespace Go.Proofs.Ytgncmjcoojmccaa
open Go Go.Abs Go.Proofs
def powSt (a n p r : Int) : St := ⟨[vi .u64 a, vi .u64 n, vi .u64 p, .junk, .junk, .junk, .junk, vi .u64 r] ++ List.replicate 25 .junk, [none, none, none]⟩
def powI (T p : Int) (m : Nat) (s : St) : Prop := ∃ a' n' r' : Int, 0 ≤ a' ∧ a' < p ∧ 0 ≤ r' ∧ r' < p ∧ (0 ≤ n' ∧ n' < 2 ^ 64 ∧ n'.toNat = m) ∧ r' * a' ^ m % p = T ∧ s = powSt a' n' p r'
theorem pow_call (a n p : Int) (hp : 0 < p) (hp2 : p < 2 ^ 32) (ha : 0 ≤ a) (hn : 0 ≤ n) (hn2 : n < 2 ^ 64) : ACall Try.prog 20 [.val (ti .u64 a), .val (ti .u64 n), .val (ti .u64 p)] ⟨[.val (ti .u64 (a ^ n.toNat % p))], [none, none, none]⟩ := by
  refine callZ ccOk mixed [.val] Try.func20 rfl rfl (by kernel_rfl) fun zwrap zadd zsub zmul zquo zrem zshl zshr zband zbor zbxor zbandn zeq zne zlt zle znot zbeq zbne zmax zmin znat zinb zofN zidx zneq znadd zdif zcut zroom zmkok zlen znth zsetr zisI zgetI zsetI zfit zpart zext zsetg zrep zwide zall zmok zmget zmset zW zth A L F hS hF => ?_
  have h0 : ¬ p = 0 := by omega
  have hz : zne p 0 = true := by rw [hS.ne]; exact decide_eq_true h0
  cbv
  refine ⟨fun h => ?_, fun h => ⟨hz, ⟨hz, ?_⟩⟩⟩
  · rw [hS.eq] at h; exact absurd (of_decide_eq_true h) h0
  refine loopZ ccOk mixed hS (powI (a ^ n.toNat % p) p) (n := n.toNat) (s0 := powSt (a.tmod p) n p (Int.tmod 1 p)) (le_of ?_ ?_) rfl (Nat.le_refl 3) ?_ ?_
  · simp [leT, powSt, vi, hS.rem]
  · simp [leH, powSt]
  · refine ⟨_, _, _, Int.tmod_nonneg _ ha, Int.tmod_lt_of_pos _ hp, Int.tmod_nonneg _ (by decide), Int.tmod_lt_of_pos _ hp, ⟨hn, hn2, rfl⟩, ?_, rfl⟩
    rw [Int.tmod_eq_emod_of_nonneg ha, Int.tmod_eq_emod_of_nonneg (by decide)]
    rw [Int.mul_emod, Int.emod_emod_of_dvd _ (Int.dvd_refl p), ← Int.mul_emod, Int.one_mul, pow_emod]
  · rintro m _ ⟨a', n', r', h1, h2, h3, h4, ⟨h5, h5', h5''⟩, h6, rfl⟩
    obtain ⟨b1, b2⟩ := mul_lt h1 h2 h1 h2 hp2
    obtain ⟨c1, c2⟩ := mul_lt h3 h4 h1 h2 hp2
    have hhalf : IntKind.wrap .u64 (n'.tdiv 2) = n' / 2 := by rw [Int.tdiv_eq_ediv_of_nonneg h5]; exact wrap_u64 (by omega) (by omega)
    have hsq : (IntKind.wrap .u64 (a' * a')).tmod p = a' * a' % p := by rw [wrap_u64 b1 b2, Int.tmod_eq_emod_of_nonneg b1]
    have hpr : (IntKind.wrap .u64 (r' * a')).tmod p = r' * a' % p := by rw [wrap_u64 c1 c2, Int.tmod_eq_emod_of_nonneg c1]
    have hm : n' % 2 + 2 * (n' / 2) = n' := Int.emod_add_mul_ediv n' 2
    have hm2 : (n' / 2).toNat = m / 2 := by omega
    have key : ∀ x : Int, x * (a' * a' % p) ^ (m / 2) % p = x * a' ^ (2 * (m / 2)) % p := fun x => by
      rw [Int.mul_emod, pow_emod, ← Int.mul_emod, Int.pow_mul, show a' ^ 2 = a' * a' from by rw [Int.pow_succ, Int.pow_succ, Int.pow_zero, Int.one_mul]]
    cbv
    refine ⟨fun hpos => ⟨fun hodd => ⟨hz, ⟨hz, ?_⟩⟩, fun hodd => ⟨hz, ?_⟩⟩, fun hpos => ?_⟩
    all_goals simp only [hS.lt, hS.eq, hS.rem, decide_eq_true_eq, decide_eq_false_iff_not] at *
    · refine again (s' := powSt (a' * a' % p) (n' / 2) p (r' * a' % p)) (m := m / 2) (by simp [leT, powSt, vi, hS.wrap, hS.mul, hS.quo, hsq, hpr, hhalf]) (by simp [leH, powSt]) rfl (Nat.le_refl 3) (by omega) ⟨_, _, _, Int.emod_nonneg _ h0, Int.emod_lt_of_pos _ hp, Int.emod_nonneg _ h0, Int.emod_lt_of_pos _ hp, ⟨by omega, by omega, hm2⟩, ?_, rfl⟩
      rw [Int.tmod_eq_emod_of_nonneg h5] at hodd
      have e : m = 2 * (m / 2) + 1 := by omega
      rw [key, Int.mul_emod, Int.emod_emod_of_dvd _ (Int.dvd_refl p), ← Int.mul_emod, ← h6]
      conv => rhs; rw [e, Int.pow_succ]
      rw [Int.mul_assoc, Int.mul_comm a']
    · refine again (s' := powSt (a' * a' % p) (n' / 2) p r') (m := m / 2) (by simp [leT, powSt, vi, hS.wrap, hS.mul, hS.quo, hsq, hhalf]) (by simp [leH, powSt]) rfl (Nat.le_refl 3) (by omega) ⟨_, _, _, Int.emod_nonneg _ h0, Int.emod_lt_of_pos _ hp, h3, h4, ⟨by omega, by omega, hm2⟩, ?_, rfl⟩
      rw [Int.tmod_eq_emod_of_nonneg h5] at hodd
      have e : m = 2 * (m / 2) := by omega
      rw [key, ← h6, ← e]
    · have hn0 : n' = 0 := by omega
      subst hn0
      have : m = 0 := by rw [← h5'']; rfl
      subst this
      rw [Int.pow_zero, Int.mul_one, Int.emod_eq_of_lt h3 h4] at h6
      rw [h6]
      exact hF _ (ResLe.refl _)
end Go.Proofs.Ytgncmjcoojmccaa
end

section
set_option linter.unusedVariables false
set_option linter.unusedSimpArgs false
set_option maxHeartbeats 4000000
set_option linter.unusedVariables false
set_option linter.unusedSimpArgs false
set_option maxRecDepth 100000
namespace Go.Proofs.Ytgncmjcoojmccaa
open Go Go.Abs Go.Proofs

/-- Trial division finds nothing. -/
def Prm (n : Int) : Prop := 2 ≤ n ∧ n ≤ 2147483647 ∧ ∀ d : Int, 2 ≤ d → d * d ≤ n → n % d ≠ 0

def primeSt (n d : Int) : St := ⟨[vi .u64 n, .junk, .junk, vi .u64 d] ++ List.replicate 17 .junk, [none]⟩
def primeI (n : Int) (m : Nat) (s : St) : Prop := ∃ d : Int, 2 ≤ d ∧ d ≤ 50000 ∧ (50000 - d).toNat = m ∧ (∀ e : Int, 2 ≤ e → e < d → n % e ≠ 0) ∧ s = primeSt n d

theorem prime_call (n : Int) (h0 : 0 ≤ n) (h1 : n < 2 ^ 64) (b : Bool) (hb : b = true ↔ Prm n) : ACall Try.prog 14 [.val (ti .u64 n)] ⟨[.val (tb b)], [none]⟩ := by
  refine callZ ccOk mixed [.val] Try.func14 rfl rfl (by kernel_rfl) fun zwrap zadd zsub zmul zquo zrem zshl zshr zband zbor zbxor zbandn zeq zne zlt zle znot zbeq zbne zmax zmin znat zinb zofN zidx zneq znadd zdif zcut zroom zmkok zlen znth zsetr zisI zgetI zsetI zfit zpart zext zsetg zrep zwide zall zmok zmget zmset zW zth A L F hS hF => ?_
  have hfalse : ¬ Prm n → b = false := fun h => by
    cases b with
    | false => rfl
    | true => exact absurd (hb.1 rfl) h
  cbv
  simp only [br_t, br_f]
  refine ⟨fun ha => ?_, fun ha => ⟨fun hc => ?_, fun hc => ?_⟩⟩
  all_goals simp only [hS.lt, decide_eq_true_eq, decide_eq_false_iff_not] at *
  · exact fin1 hF (tv_bool (hfalse fun h => absurd h.1 (by omega)).symm)
  · exact fin1 hF (tv_bool (hfalse fun h => absurd h.2.1 (by omega)).symm)
  · refine loopZ ccOk mixed hS (primeI n) (n := 49998) (s0 := primeSt n 2) (le_of ?_ ?_) rfl (Nat.le_refl 1) ?_ ?_
    · simp [leT, primeSt, vi]
    · simp [leH, primeSt]
    · exact ⟨2, by omega, by omega, rfl, fun e h2 h3 => by omega, rfl⟩
    · rintro m _ ⟨d, d1, d2, d3, d4, rfl⟩
      have hdd : 0 ≤ d * d ∧ d * d ≤ 50000 * 50000 := ⟨Int.mul_nonneg (by omega) (by omega), Int.mul_le_mul d2 d2 (by omega) (by omega)⟩
      have hw : zwrap .u64 (zmul d d) = d * d := by rw [hS.wrap, hS.mul]; exact wrap_u64 hdd.1 (by omega)
      have hw1 : zwrap .u64 (zadd d 1) = d + 1 := by rw [hS.wrap, hS.add]; exact wrap_u64 (by omega) (by omega)
      have hd0 : zne d 0 = true := by rw [hS.ne]; exact decide_eq_true (by omega)
      cbv
      refine ⟨fun he => ⟨hd0, fun hf => ?_, fun hf => ?_⟩, fun he => ?_⟩
      all_goals simp only [hw, hS.le, hS.eq, hS.rem, Int.tmod_eq_emod_of_nonneg h0, decide_eq_true_eq, decide_eq_false_iff_not] at *
      · exact fin1 hF (tv_bool (hfalse fun h => absurd hf (h.2.2 d d1 he)).symm)
      · have hd46 : d < 46341 := by
          rcases Int.lt_or_le d 46341 with h | h
          · exact h
          · have := Int.mul_le_mul h h (by omega) (by omega); omega
        refine again (s' := primeSt n (d + 1)) (m := m - 1) (by simp [leT, primeSt, vi, hw1]) (by simp [leH, primeSt]) rfl (Nat.le_refl 1) (by omega) ⟨d + 1, by omega, by omega, by omega, fun e h2 h3 => ?_, rfl⟩
        by_cases hed : e = d
        · rw [hed]; exact hf
        · exact d4 e h2 (by omega)
      · have : b = true := hb.2 ⟨by omega, by omega, fun e h2 h3 => d4 e h2 (by
            rcases Int.lt_or_le e d with h | h
            · exact h
            · have := Int.mul_le_mul h h (by omega) (by omega); omega)⟩
        exact fin1 hF (tv_bool this.symm)
end Go.Proofs.Ytgncmjcoojmccaa
end

section
set_option linter.unusedVariables false
set_option linter.unusedSimpArgs false
set_option maxHeartbeats 4000000
set_option linter.unusedVariables false
set_option linter.unusedSimpArgs false
set_option maxRecDepth 100000
namespace Go.Proofs.Ytgncmjcoojmccaa
open Go Go.Abs Go.Proofs

theorem inv_call (a p : Int) (hp : 2 ≤ p) (hp2 : p < 2 ^ 32) (ha : 0 ≤ a) (ha2 : a < 2 ^ 64) (v e : Int) (hv : v = if a % p = 0 then 0 else a ^ (p - 2).toNat % p) (he : e = if a % p = 0 then 10 else 0) :
    ACall Try.prog 16 [.val (ti .u64 a), .val (ti .u64 p)] ⟨[.val (ti .u64 v), .val (ti .i64 e)], [none, none]⟩ := by
  have hp0 : ¬ p = 0 := by omega
  refine callZ ccOk mixed [.val, .val] Try.func16 rfl rfl (by kernel_rfl) fun zwrap zadd zsub zmul zquo zrem zshl zshr zband zbor zbxor zbandn zeq zne zlt zle znot zbeq zbne zmax zmin znat zinb zofN zidx zneq znadd zdif zcut zroom zmkok zlen znth zsetr zisI zgetI zsetI zfit zpart zext zsetg zrep zwide zall zmok zmget zmset zW zth A L F hS hF => ?_
  have hz : zne p 0 = true := by rw [hS.ne]; exact decide_eq_true hp0
  have hw : zwrap .u64 (zsub p 2) = p - 2 := by rw [hS.wrap, hS.sub]; exact wrap_u64 (by omega) (by omega)
  cbv
  simp only [br_t, br_f]
  refine ⟨fun h => ?_, fun _ => ⟨hz, fun h => ?_, fun h => ?_⟩⟩
  · rw [hS.lt] at h; exact absurd (of_decide_eq_true h) (by omega)
  all_goals simp only [hS.eq, hS.rem, Int.tmod_eq_emod_of_nonneg ha, decide_eq_true_eq, decide_eq_false_iff_not] at h
  · rw [if_pos h] at hv he
    exact fin2 hF (tv_int hv.symm) (tv_int he.symm)
  · rw [if_neg h] at hv he
    rw [hw]
    refine ⟨_, hS.call (pow_call a (p - 2) p (by omega) hp2 ha (by omega) (by omega)), ?_⟩
    rw [← hv]
    cbv
    exact fin2 hF rfl (tv_int he.symm)
end Go.Proofs.Ytgncmjcoojmccaa
end

section
set_option linter.unusedVariables false
set_option linter.unusedSimpArgs false
set_option maxHeartbeats 8000000
set_option linter.unusedVariables false
set_option linter.unusedSimpArgs false
set_option maxRecDepth 100000
namespace Go.Proofs.Ytgncmjcoojmccaa
open Go Go.Abs Go.Abs.M Go.Proofs

def rpowSt (a n p r b k : Int) : St := mkSt 34 [vi .u64 a, vi .u64 n, vi .u64 p, .junk, .junk, .junk, .junk, vi .u64 r, vi .u64 b, vi .u64 k] [none, none, none]
def rpowI (a n T p : Int) (m : Nat) (s : St) : Prop := ∃ a' n' r' : Int, 0 ≤ a' ∧ a' < p ∧ 0 ≤ r' ∧ r' < p ∧ (0 ≤ n' ∧ n' < 2 ^ 64 ∧ n'.toNat = m) ∧ r' * a' ^ m % p = T ∧ s = rpowSt a n p r' a' n'

theorem rpow_call (a n p : Int) (hp : 0 < p) (hp2 : p < 2 ^ 32) (ha : 0 ≤ a) (hn : 0 ≤ n) (hn2 : n < 2 ^ 64) : ACall Try.prog 21 [.val (ti .u64 a), .val (ti .u64 n), .val (ti .u64 p)] ⟨[.val (ti .u64 (a ^ n.toNat % p))], [none, none, none]⟩ := by
  refine callZ ccOk mixed [.val] Try.func21 rfl rfl (by kernel_rfl) fun zwrap zadd zsub zmul zquo zrem zshl zshr zband zbor zbxor zbandn zeq zne zlt zle znot zbeq zbne zmax zmin znat zinb zofN zidx zneq znadd zdif zcut zroom zmkok zlen znth zsetr zisI zgetI zsetI zfit zpart zext zsetg zrep zwide zall zmok zmget zmset zW zth A L F hS hF => ?_
  have h0 : ¬ p = 0 := by omega
  have hz : zne p 0 = true := by rw [hS.ne]; exact decide_eq_true h0
  cbv
  refine ⟨hz, ⟨hz, ?_⟩⟩
  refine loopZ ccOk mixed hS (rpowI a n (a ^ n.toNat % p) p) (n := n.toNat) (s0 := rpowSt a n p (Int.tmod 1 p) (a.tmod p) n) (le_of ?_ ?_) rfl (Nat.le_refl 3) ?_ ?_
  · simp [leT, rpowSt, mkSt, vi, hS.rem]
  · simp [leH, rpowSt, mkSt]
  · refine ⟨_, _, _, Int.tmod_nonneg _ ha, Int.tmod_lt_of_pos _ hp, Int.tmod_nonneg _ (by decide), Int.tmod_lt_of_pos _ hp, ⟨hn, hn2, rfl⟩, ?_, rfl⟩
    rw [Int.tmod_eq_emod_of_nonneg ha, Int.tmod_eq_emod_of_nonneg (by decide)]
    rw [Int.mul_emod, Int.emod_emod_of_dvd _ (Int.dvd_refl p), ← Int.mul_emod, Int.one_mul, pow_emod]
  · rintro m _ ⟨a', n', r', h1, h2, h3, h4, ⟨h5, h5', h5''⟩, h6, rfl⟩
    obtain ⟨b1, b2⟩ := mul_lt h1 h2 h1 h2 hp2
    obtain ⟨c1, c2⟩ := mul_lt h3 h4 h1 h2 hp2
    have hhalf : IntKind.wrap .u64 (n'.tdiv 2) = n' / 2 := by rw [Int.tdiv_eq_ediv_of_nonneg h5]; exact wrap_u64 (by omega) (by omega)
    have hsq : (IntKind.wrap .u64 (a' * a')).tmod p = a' * a' % p := by rw [wrap_u64 b1 b2, Int.tmod_eq_emod_of_nonneg b1]
    have hpr : (IntKind.wrap .u64 (r' * a')).tmod p = r' * a' % p := by rw [wrap_u64 c1 c2, Int.tmod_eq_emod_of_nonneg c1]
    have hm : n' % 2 + 2 * (n' / 2) = n' := Int.emod_add_mul_ediv n' 2
    have hm2 : (n' / 2).toNat = m / 2 := by omega
    have key : ∀ x : Int, x * (a' * a' % p) ^ (m / 2) % p = x * a' ^ (2 * (m / 2)) % p := fun x => by
      rw [Int.mul_emod, pow_emod, ← Int.mul_emod, Int.pow_mul, show a' ^ 2 = a' * a' from by rw [Int.pow_succ, Int.pow_succ, Int.pow_zero, Int.one_mul]]
    cbv
    refine ⟨fun hpos => ⟨fun hodd => ⟨hz, ⟨hz, ?_⟩⟩, fun hodd => ⟨hz, ?_⟩⟩, fun hpos => ?_⟩
    all_goals simp only [hS.lt, hS.eq, hS.rem, decide_eq_true_eq, decide_eq_false_iff_not] at *
    · refine again (s' := rpowSt a n p (r' * a' % p) (a' * a' % p) (n' / 2)) (m := m / 2) (by simp [leT, rpowSt, mkSt, vi, hS.wrap, hS.mul, hS.quo, hsq, hpr, hhalf]) (by simp [leH, rpowSt, mkSt]) rfl (Nat.le_refl 3) (by omega) ⟨_, _, _, Int.emod_nonneg _ h0, Int.emod_lt_of_pos _ hp, Int.emod_nonneg _ h0, Int.emod_lt_of_pos _ hp, ⟨by omega, by omega, hm2⟩, ?_, rfl⟩
      rw [Int.tmod_eq_emod_of_nonneg h5] at hodd
      have e : m = 2 * (m / 2) + 1 := by omega
      rw [key, Int.mul_emod, Int.emod_emod_of_dvd _ (Int.dvd_refl p), ← Int.mul_emod, ← h6]
      conv => rhs; rw [e, Int.pow_succ]
      rw [Int.mul_assoc, Int.mul_comm a']
    · refine again (s' := rpowSt a n p r' (a' * a' % p) (n' / 2)) (m := m / 2) (by simp [leT, rpowSt, mkSt, vi, hS.wrap, hS.mul, hS.quo, hsq, hhalf]) (by simp [leH, rpowSt, mkSt]) rfl (Nat.le_refl 3) (by omega) ⟨_, _, _, Int.emod_nonneg _ h0, Int.emod_lt_of_pos _ hp, h3, h4, ⟨by omega, by omega, hm2⟩, ?_, rfl⟩
      rw [Int.tmod_eq_emod_of_nonneg h5] at hodd
      have e : m = 2 * (m / 2) := by omega
      rw [key, ← h6, ← e]
    · have hn0 : n' = 0 := by omega
      subst hn0
      have : m = 0 := by rw [← h5'']; rfl
      subst this
      rw [Int.pow_zero, Int.mul_one, Int.emod_eq_of_lt h3 h4] at h6
      rw [h6]
      exact hF _ (ResLe.refl _)

theorem rinv_call (a p v e : Int) (hp : 2 ≤ p) (hp2 : p < 2 ^ 32) (ha : 0 ≤ a) (ha2 : a < 2 ^ 64) (hv : v = if a % p = 0 then 0 else a ^ (p - 2).toNat % p) (he : e = if a % p = 0 then 10 else 0) :
    ACall Try.prog 17 [.val (ti .u64 a), .val (ti .u64 p)] ⟨[.val (ti .u64 v), .val (ti .i64 e)], [none, none]⟩ := by
  have hp0 : ¬ p = 0 := by omega
  refine callZ ccOk mixed [.val, .val] Try.func17 rfl rfl (by kernel_rfl) fun zwrap zadd zsub zmul zquo zrem zshl zshr zband zbor zbxor zbandn zeq zne zlt zle znot zbeq zbne zmax zmin znat zinb zofN zidx zneq znadd zdif zcut zroom zmkok zlen znth zsetr zisI zgetI zsetI zfit zpart zext zsetg zrep zwide zall zmok zmget zmset zW zth A L F hS hF => ?_
  have hz : zne p 0 = true := by rw [hS.ne]; exact decide_eq_true hp0
  have hw : zwrap .u64 (zsub p 2) = p - 2 := by rw [hS.wrap, hS.sub]; exact wrap_u64 (by omega) (by omega)
  cbv
  refine ⟨hz, fun h => ?_, fun h => ?_⟩
  all_goals simp only [hS.eq, hS.rem, Int.tmod_eq_emod_of_nonneg ha, decide_eq_true_eq, decide_eq_false_iff_not] at h
  · rw [if_pos h] at hv he
    exact fin2 hF (tv_int hv.symm) (tv_int he.symm)
  · rw [if_neg h] at hv he
    rw [hw]
    refine ⟨_, hS.call (rpow_call a (p - 2) p (by omega) hp2 ha (by omega) (by omega)), ?_⟩
    rw [← hv]
    cbv
    exact fin2 hF rfl (tv_int he.symm)

theorem rreduce_call {x : Rat} {s t : Bool} {r q : Abs.Rows} (p v e : Int) (hx : IsR x s r t q) (h1 : Qs x 68719476736) (hp : 2 ≤ p) (hp2 : p < 2 ^ 32)
    (hv : v = if (x.den : Int) % p = 0 then 0 else x.num % p * (((x.den : Int) % p) ^ (p - 2).toNat % p) % p) (he : e = if (x.den : Int) % p = 0 then 30 else 0) :
    ACall Try.prog 19 [.val (.agg (iT s r ++ iT t q)), .val (ti .u64 p)] ⟨[.val (ti .u64 v), .val (ti .i64 e)], [none, none]⟩ := by
  obtain ⟨x1, x2⟩ := h1
  obtain ⟨d, hd⟩ : ∃ d, d = (x.den : Int) % p := ⟨_, rfl⟩
  obtain ⟨m, hm⟩ : ∃ m, m = x.num % p := ⟨_, rfl⟩
  have b1 := Int.emod_nonneg (x.den : Int) (show p ≠ 0 by omega)
  have b2 := Int.emod_lt_of_pos (x.den : Int) (show 0 < p by omega)
  have b3 := Int.emod_nonneg x.num (show p ≠ 0 by omega)
  have b4 := Int.emod_lt_of_pos x.num (show 0 < p by omega)
  have c1 := rresidue_call (p := p) hx.d (by rw [Int.natAbs_natCast]; omega) (by omega) (by omega) hd
  have c2 := rresidue_call (p := p) hx.n (by omega) (by omega) (by omega) hm
  rw [← hd] at hv he b1 b2
  rw [← hm] at hv b3 b4
  have hdd : d % p = d := Int.emod_eq_of_lt b1 b2
  obtain ⟨i, hi⟩ : ∃ i, i = d ^ (p - 2).toNat % p := ⟨_, rfl⟩
  rw [← hi] at hv
  have c3 : ¬ d = 0 → ACall Try.prog 17 [.val (ti .u64 d), .val (ti .u64 p)] ⟨[.val (ti .u64 i), .val (ti .i64 0)], [none, none]⟩ := fun h =>
    rinv_call d p i 0 hp hp2 b1 (by omega) (by rw [hdd, if_neg h, hi]) (by rw [hdd, if_neg h])
  have i1 := Int.emod_nonneg (d ^ (p - 2).toNat) (show p ≠ 0 by omega)
  have i2 := Int.emod_lt_of_pos (d ^ (p - 2).toNat) (show 0 < p by omega)
  rw [← hi] at i1 i2
  have hf : (IntKind.wrap .u64 (m * i)).tmod p = m * i % p := by
    obtain ⟨k1, k2⟩ := mul_lt b3 b4 i1 i2 hp2
    rw [wrap_u64 k1 k2, Int.tmod_eq_emod_of_nonneg k1]
  have hp0 : ¬ p = 0 := by omega
  clear hi hdd hm hd b1 b2 b3 b4 i1 i2 x1 x2 hp hp2
  refine callZ ccOk mixed [.val, .val] Try.func19 rfl rfl (by kernel_rfl) fun zwrap zadd zsub zmul zquo zrem zshl zshr zband zbor zbxor zbandn zeq zne zlt zle znot zbeq zbne zmax zmin znat zinb zofN zidx zneq znadd zdif zcut zroom zmkok zlen znth zsetr zisI zgetI zsetI zfit zpart zext zsetg zrep zwide zall zmok zmget zmset zW zth A L F hS hF => ?_
  have hz : zne p 0 = true := by rw [hS.ne]; exact decide_eq_true hp0
  cbv
  refine ⟨_, hS.call c1, ?_⟩
  cbv
  refine ⟨fun h => ?_, fun h => ?_⟩
  all_goals simp only [hS.eq, decide_eq_true_eq, decide_eq_false_iff_not] at h
  · rw [if_pos h] at hv he
    exact fin2 hF (tv_int hv.symm) (tv_int he.symm)
  · rw [if_neg h] at hv he
    refine ⟨_, hS.call (c3 h), ?_⟩
    cbv
    refine ⟨_, hS.call c2, ?_⟩
    cbv
    refine ⟨hz, fin2 hF (tv_int ?_) (tv_int he.symm)⟩
    rw [hS.rem, hS.wrap, hS.mul, hf, hv]
end Go.Proofs.Ytgncmjcoojmccaa
end

section
set_option linter.unusedVariables false
set_option linter.unusedSimpArgs false
set_option maxHeartbeats 8000000
set_option linter.unusedVariables false
set_option linter.unusedSimpArgs false
set_option maxRecDepth 100000
namespace Go.Proofs.Ytgncmjcoojmccaa
open Go Go.Abs Go.Abs.M Go.Proofs

def rsameSt (s t : Bool) (r q : Abs.Rows) (i : Int) : St := mkSt 38 [.junk, .junk, .c (.ptr 2 0 0), .c (.ptr 3 0 0), .junk, vi .i64 i] [none, none, some (.var [.t (.v (.bool s)), .t (.lst false r)]), some (.var [.t (.v (.bool t)), .t (.lst false q)])]
theorem rsame_call {x y : Int} {s t : Bool} {r q : Abs.Rows} (hx : IsI x s r) (hy : IsI y t q) (hx1 : nl x.natAbs ≤ 2199023255552) : ACall Try.prog 30 [.val (.agg (iT s r)), .val (.agg (iT t q))] ⟨[.val (tb (decide (x = y)))], [none, none]⟩ := by
  have hl : r.length = nl x.natAbs := hx.m.len
  have hm : q.length = nl y.natAbs := hy.m.len
  have hne : s ≠ t → x ≠ y := fun h e => h (by rw [hx.s, hy.s, e])
  have hle : nl x.natAbs ≠ nl y.natAbs → x ≠ y := fun h e => h (by rw [e])
  have hwe : ∀ i, (dg x.natAbs).getD i 0 ≠ (dg y.natAbs).getD i 0 → x ≠ y := fun i h e => h (by rw [e])
  have heq : s = t → nl x.natAbs = nl y.natAbs → (dg x.natAbs).take (nl x.natAbs) = (dg y.natAbs).take (nl x.natAbs) → x = y := fun h1 h2 h3 => by
    have e1 : (dg x.natAbs).take (nl x.natAbs) = dg x.natAbs := List.take_of_length_le (Nat.le_refl _)
    have e2 : (dg y.natAbs).take (nl x.natAbs) = dg y.natAbs := List.take_of_length_le (by rw [h2]; exact Nat.le_refl _)
    rw [e1, e2] at h3
    have h4 := congrArg val h3
    rw [dg_val, dg_val] at h4
    have h5 := hx.s
    rw [h1, hy.s] at h5
    have h6 : (y < 0) ↔ (x < 0) := by
      constructor
      · intro h; rw [decide_eq_true h] at h5; exact of_decide_eq_true h5.symm
      · intro h; rw [decide_eq_true h] at h5; exact of_decide_eq_true h5
    omega
  have gx : ∀ i : Nat, ZI.std.getI r i = (dg x.natAbs).getD i 0 := fun i => by rw [hx.m, W_getI]
  have gy : ∀ i : Nat, ZI.std.getI q i = (dg y.natAbs).getD i 0 := fun i => by rw [hy.m, W_getI]
  have ix : ∀ i : Nat, i < nl x.natAbs → ZI.std.isI .u32 r i = true := fun i h => by rw [hx.m, W_isI]; exact decide_eq_true h
  have iy : ∀ i : Nat, i < nl y.natAbs → ZI.std.isI .u32 q i = true := fun i h => by rw [hy.m, W_isI]; exact decide_eq_true h
  have hstep : ∀ i : Nat, i < nl x.natAbs → nl x.natAbs = nl y.natAbs → (dg x.natAbs).take i = (dg y.natAbs).take i → (dg x.natAbs).getD i 0 = (dg y.natAbs).getD i 0 → (dg x.natAbs).take (i + 1) = (dg y.natAbs).take (i + 1) := fun i h h' h2 h3 => by
    have a1 : i < (dg x.natAbs).length := h
    have a2 : i < (dg y.natAbs).length := by have : i < nl y.natAbs := by omega
                                             exact this
    rw [List.take_succ_eq_append_getElem a1, List.take_succ_eq_append_getElem a2, h2]
    rw [List.getD_eq_getElem?_getD, List.getD_eq_getElem?_getD, List.getElem?_eq_getElem a1, List.getElem?_eq_getElem a2, Option.getD_some, Option.getD_some] at h3
    rw [h3]
  refine callZ ccOk mixed [.val] Try.func30 rfl rfl (by kernel_rfl) fun zwrap zadd zsub zmul zquo zrem zshl zshr zband zbor zbxor zbandn zeq zne zlt zle znot zbeq zbne zmax zmin znat zinb zofN zidx zneq znadd zdif zcut zroom zmkok zlen znth zsetr zisI zgetI zsetI zfit zpart zext zsetg zrep zwide zall zmok zmget zmset zW zth A L F hS hF => ?_
  have f0 : x ≠ y → F ⟨[.val (.c (.v (.bool false)))], [none, none]⟩ := fun h => fin1 hF (by rw [decide_eq_false h]; rfl)
  have f1 : x = y → F ⟨[.val (.c (.v (.bool true)))], [none, none]⟩ := fun h => fin1 hF (by rw [decide_eq_true h]; rfl)
  have e0 : zne (zofN (zlen r)) (zofN (zlen q)) = decide (nl x.natAbs ≠ nl y.natAbs) := by
    rw [hS.ne, hS.len, hS.len, hS.ofN, hS.ofN, hl, hm]
    by_cases h : nl x.natAbs = nl y.natAbs
    · rw [decide_eq_false (show ¬ nl x.natAbs ≠ nl y.natAbs by omega)]; exact decide_eq_false (by omega)
    · rw [decide_eq_true h]; exact decide_eq_true (by omega)
  have hlx : zlen r = nl x.natAbs := by rw [hS.len, hl]
  generalize hLx : nl x.natAbs = Lx at *
  cbv
  refine ⟨fun h => f0 ?_, fun h => ⟨fun h' => f0 ?_, fun h' => ?_⟩⟩
  all_goals rw [hS.bne] at h
  · exact hne (by intro e; subst e; simp at h)
  all_goals rw [e0] at h'
  · exact hle (of_decide_eq_true h')
  · have hst : s = t := by cases s <;> cases t <;> first | rfl | (simp at h)
    have hll : Lx = nl y.natAbs := by have := of_decide_eq_false h'; omega
    refine loopZ ccOk mixed hS (fun (k : Nat) s' => ∃ i : Nat, i + k = Lx ∧ (dg x.natAbs).take i = (dg y.natAbs).take i ∧ s' = rsameSt s t r q (zofN i)) (n := Lx) (s0 := rsameSt s t r q (zofN 0)) (le_of ?_ ?_) rfl (by show 2 ≤ 4; omega) ?_ ?_
    · simp [leT, rsameSt, mkSt, vi, hS.ofN]
    · simp [leH, rsameSt, mkSt]
    · exact ⟨0, by omega, rfl, rfl⟩
    · rintro k _ ⟨i, hi, he, rfl⟩
      obtain ⟨i1, hi1⟩ : ∃ i1, i1 = i + 1 := ⟨_, rfl⟩
      have c1 : zlt (zofN i) (zofN (zlen r)) = decide (k ≠ 0) := by
        rw [hlx, hS.lt, hS.ofN, hS.ofN]
        by_cases h : k = 0
        · rw [decide_eq_false (show ¬ k ≠ 0 by omega)]; exact decide_eq_false (by omega)
        · rw [decide_eq_true h]; exact decide_eq_true (by omega)
      have c2 : zle 0 (zofN i) = true := by rw [hS.le, hS.ofN]; exact decide_eq_true (by omega)
      have c3 : znat (zofN i) = i := by rw [hS.nat, hS.ofN]; omega
      have c4 : i < Lx → zisI .u32 r (znat (zofN i)) = true := fun h => by rw [c3, hS.isI]; exact ix i h
      have c5 : i < Lx → zisI .u32 q (znat (zofN i)) = true := fun h => by rw [c3, hS.isI]; exact iy i (by omega)
      have c6 : zne (zgetI r (znat (zofN i))) (zgetI q (znat (zofN i))) = decide ((dg x.natAbs).getD i 0 ≠ (dg y.natAbs).getD i 0) := by
        rw [c3, hS.ne, hS.getI, hS.getI, gx, gy]
      have c7 : i < Lx → zwrap .i64 (zadd (zofN i) 1) = zofN i1 := fun h => by rw [hS.wrap, hS.add, hS.ofN, hS.ofN, wrap_i64 (by omega) (by omega), hi1]; omega
      have nx : i < Lx → (dg x.natAbs).getD i 0 = (dg y.natAbs).getD i 0 → (dg x.natAbs).take i1 = (dg y.natAbs).take i1 := fun h h2 => by rw [hi1]; exact hstep i h hll he h2
      have ki : k ≠ 0 → i < Lx := by omega
      have k1 : k ≠ 0 → i1 + (k - 1) = Lx ∧ k - 1 < k := by omega
      have kz : k = 0 → x = y := fun h => heq hst hll (by rw [show i = Lx by omega] at he; exact he)
      clear hi hi1 hstep ix iy gx gy
      cbv
      refine ⟨fun h => ?_, fun h => f1 ?_⟩
      all_goals rw [c1] at h
      · have hk := of_decide_eq_true h
        refine nd c2 (nd (c4 (ki hk)) (nd c2 (nd (c5 (ki hk)) ⟨fun h2 => f0 ?_, fun h2 => ?_⟩)))
        all_goals rw [c6] at h2
        · exact hwe i (of_decide_eq_true h2)
        · rw [c7 (ki hk)]
          exact again (s' := rsameSt s t r q (zofN i1)) (m := k - 1) (by simp [leT, rsameSt, mkSt, vi]) (by simp [leH, rsameSt, mkSt]) rfl (by show 2 ≤ 4; omega) (k1 hk).2 ⟨i1, (k1 hk).1, nx (ki hk) (Decidable.not_not.mp (of_decide_eq_false h2)), rfl⟩
      · exact kz (Decidable.not_not.mp (of_decide_eq_false h))
end Go.Proofs.Ytgncmjcoojmccaa
end

