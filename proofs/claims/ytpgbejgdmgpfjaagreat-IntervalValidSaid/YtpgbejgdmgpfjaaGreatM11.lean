/-
  A part of the proof: IntI24, IntJ24, IntK24, CanU, ValI24, RefM24, ValQ24, UniU, QraA24, RefQ24, QsM24, UniV24, GabsRen, UniW24, UniX24, UniA24, QraB24, QrbA24, IvlA24.
-/
import Derived.Test.YtpgbejgdmgpfjaaGreatM10
import Derived.Calls
import Derived.Laws.Cells
import Derived.Below
import Derived.ChangeKeysEq
import Derived.Laws.StructEq
import Derived.Laws.Small
import Derived.Laws.IdiomCopy
import Derived.Laws.BytesString
import Derived.Laws.Append
import Derived.Laws.Tables
import Derived.Great.BuildSlice
import Derived.IntWalk
import Derived.Orders
import Derived.Laws.BitsLemmas
import Derived.Test.YtpgbejgdmgpfjaaGreatProg

section
set_option linter.unusedVariables false
set_option linter.unusedSimpArgs false
set_option maxHeartbeats 8000000
set_option linter.unusedVariables false
set_option linter.unusedSimpArgs false
set_option maxRecDepth 100000
namespace Go.Proofs.YtpgbejgdmgpfjaaGreat
open Go Go.Abs Go.Abs.M Go.Proofs

theorem itrimM {n : Nat} {r : Abs.Rows} (hr : IsM n r) (hl : nl n ≤ 2199023255552) : ACall Tryz.prog 158 [.val (tl r)] ⟨[.val (tl r)], [none]⟩ := by
  have h := itrim_call hr hl (dg_wd n)
  rw [dg_val, Int.toNat_natCast, ← hr] at h
  exact h

theorem idivide_long {r s : Abs.Rows} {a b : Nat} (hr : IsM a r) (hs : IsM b s) (h2 : 2 ≤ nl b) (hab : b ≤ a) (hsz : nl a ≤ 549755813888) :
    ACall Tryz.prog 162 [.val (tl r), .val (tl s)] ⟨[.val (tl (W .u32 (dg (a / b)))), .val (tl (W .u32 (dg (a % b))))], [none, none]⟩ := by
  obtain ⟨n, hn⟩ : ∃ n, n = nl b := ⟨_, rfl⟩
  obtain ⟨la, hla⟩ : ∃ la, la = nl a := ⟨_, rfl⟩
  have hmono := nl_mono hab
  obtain ⟨m, hm⟩ : ∃ m, la = n + m := ⟨la - n, by omega⟩
  obtain ⟨n', hn'⟩ : ∃ n', n = n' + 1 := ⟨n - 1, by omega⟩
  have lb : (dg b).length = n := hn.symm
  have laa : (dg a).length = la := hla.symm
  obtain ⟨w1, hw1⟩ : ∃ w1, w1 = (dg b).getD n' 0 := ⟨_, rfl⟩
  have hw1b := (dg_wd b).get n'
  rw [← hw1] at hw1b
  have htw := top_word (dg_wd b) (n := n') (by omega)
  rw [← hw1, dg_val] at htw
  have hw1p : 1 ≤ w1 := by
    rcases dg_tr b with h | h
    · rw [h] at lb; simp at lb; omega
    · rw [lb, hn', Nat.add_sub_cancel, ← hw1] at h; omega
  obtain ⟨sh, s1, s2, s3, cz⟩ := ilz32_call w1 hw1p hw1b.2
  have hbpos : 0 < (b : Int) := by
    rcases Nat.eq_zero_or_pos b with h | h
    · subst h; simp [dg_zero] at lb; omega
    · omega
  obtain ⟨d, hd⟩ : ∃ d : Int, d = 2 ^ sh := ⟨_, rfl⟩
  have d1 : 1 ≤ d := by have := pow2_pos sh; omega
  have d2 : d ≤ 2147483648 := by have := pow2_le s1; omega
  rw [← hd] at s2 s3
  obtain ⟨V, hV⟩ : ∃ V, V = d * b := ⟨_, rfl⟩
  have hV0 : 0 < V := by rw [hV]; exact Int.mul_pos (by omega) hbpos
  have hpow : (4294967296 : Int) ^ n = 4294967296 ^ n' * 4294967296 := by rw [hn', Int.pow_succ]
  have hp' := pow_pos' n'
  have hVlt : V < 4294967296 ^ n := by
    have x1 : d * (b : Int) < d * ((w1 + 1) * 4294967296 ^ n') := Int.mul_lt_mul_of_pos_left htw.2 (by omega)
    have x2 : d * ((w1 + 1) * (4294967296 : Int) ^ n') = (w1 * d + d) * 4294967296 ^ n' := by grind
    have x3 : (w1 * d + d) * (4294967296 : Int) ^ n' ≤ 4294967296 * 4294967296 ^ n' := by
      refine Int.mul_le_mul_of_nonneg_right ?_ (by omega)
      have : (w1 + 1) * d ≤ 4294967296 := by
        -- w1 * d is a multiple of d below 2^32, and d divides 2^32
        obtain ⟨e, he⟩ : ∃ e : Int, 4294967296 = e * d := ⟨2 ^ (32 - sh), by rw [hd, ← Int.pow_add, show 32 - sh + sh = 32 by omega]; rfl⟩
        have y1 : w1 < e := by
          rcases Int.lt_or_le w1 e with h | h
          · exact h
          · exfalso
            have := Int.mul_le_mul_of_nonneg_right h (show 0 ≤ d by omega)
            omega
        have := Int.mul_le_mul_of_nonneg_right (show w1 + 1 ≤ e by omega) (show 0 ≤ d by omega)
        omega
      have y2 : (w1 + 1) * d = w1 * d + d := by grind
      omega
    rw [hpow, hV]; omega
  have hVge : 2147483648 * 4294967296 ^ n' ≤ V := by
    have x1 : w1 * 4294967296 ^ n' * d ≤ (b : Int) * d := Int.mul_le_mul_of_nonneg_right htw.1 (by omega)
    have x2 : 2147483648 * 4294967296 ^ n' ≤ w1 * d * 4294967296 ^ n' := Int.mul_le_mul_of_nonneg_right s2 (by omega)
    have x3 : w1 * d * (4294967296 : Int) ^ n' = w1 * 4294967296 ^ n' * d := by grind
    rw [hV, Int.mul_comm d]; omega
  have hpow1 : (4294967296 : Int) ^ n < 4294967296 ^ (n + 1) := by rw [Int.pow_succ]; have := pow_pos' n; omega
  obtain ⟨lv0, hlv0⟩ : ∃ lv0, lv0 = wds (n + 1) V := ⟨_, rfl⟩
  have llv0 : lv0.length = n + 1 := by rw [hlv0, wds_length]
  have wlv0 : Wd lv0 := by rw [hlv0]; exact wds_wd _ _
  have vlv0 : val lv0 = V := by rw [hlv0]; exact wds_eq (by omega) (by omega)
  obtain ⟨lv, hlv⟩ : ∃ lv, lv0.take n = lv := ⟨_, rfl⟩
  have vlv : val lv = V := by rw [← hlv, (val_take_eq wlv0 (p := n) (by rw [vlv0]; exact hVlt)).1, vlv0]
  have wlv : Wd lv := by rw [← hlv]; exact wlv0.take n
  have llv : lv.length = n := by rw [← hlv]; simp; omega
  have htop : 2147483648 ≤ lv.getD (n - 1) 0 := by
    have t := (top_word wlv (n := n') (by omega)).2
    rw [vlv] at t
    rw [hn', Nat.add_sub_cancel]
    rcases Int.lt_or_le (lv.getD n' 0) 2147483648 with h | h
    · exfalso
      have := Int.mul_le_mul_of_nonneg_right (show lv.getD n' 0 + 1 ≤ 2147483648 by omega) (show (0 : Int) ≤ 4294967296 ^ n' by omega)
      omega
    · exact h
  obtain ⟨u0, hu0⟩ : ∃ u0, u0 = wds (la + 1) (d * a) := ⟨_, rfl⟩
  have hda : 0 ≤ d * (a : Int) := Int.mul_nonneg (by omega) (by omega)
  have hdalt : d * (a : Int) < 4294967296 ^ (la + 1) := by
    have x1 := lt_nl a
    rw [← hla] at x1
    have x2 : d * (a : Int) ≤ 4294967296 * a := Int.mul_le_mul_of_nonneg_right (by omega) (by omega)
    rw [Int.pow_succ]
    omega
  have vu0 : val u0 = d * a := by rw [hu0]; exact wds_eq hda hdalt
  have lu0 : u0.length = la + 1 := by rw [hu0, wds_length]
  have wu0 : Wd u0 := by rw [hu0]; exact wds_wd _ _
  have t1 := itrimM hr (by omega)
  have t2 := itrimM hs (by omega)
  have cc := icompare_call (cmpI a b) hr hs (by omega) (by omega) (dg_wd _) (dg_wd _) (dg_tr _) (dg_tr _) (by rw [dg_val, dg_val])
  have c1 := ishiftLeft_own sh hr (by omega) (dg_wd _) s1
  rw [laa, dg_val, ← hd, ← hu0] at c1
  have c2 := ishiftLeft_call sh hs (by omega) (dg_wd _) s1
  rw [lb, dg_val, ← hd, ← hV, ← hlv0] at c2
  have hUlt : d * (a : Int) < V * 4294967296 ^ (m + 1) := by
    have x1 := lt_nl a
    rw [← hla, hm] at x1
    have x2 : (4294967296 : Int) ^ (n + m) = 4294967296 ^ n' * 4294967296 ^ (m + 1) := by rw [← Int.pow_add]; congr 1; omega
    have x3 : w1 * 4294967296 ^ n' * 4294967296 ^ (m + 1) ≤ (b : Int) * 4294967296 ^ (m + 1) := Int.mul_le_mul_of_nonneg_right htw.1 (by have := pow_pos' (m + 1); omega)
    have x4 : 1 * (4294967296 ^ n' * 4294967296 ^ (m + 1)) ≤ w1 * (4294967296 ^ n' * (4294967296 : Int) ^ (m + 1)) := Int.mul_le_mul_of_nonneg_right hw1p (by have := Int.mul_pos (pow_pos' n') (pow_pos' (m + 1)); omega)
    have x5 : w1 * 4294967296 ^ n' * 4294967296 ^ (m + 1) = w1 * (4294967296 ^ n' * (4294967296 : Int) ^ (m + 1)) := by grind
    have x6 : d * (a : Int) < d * (b * 4294967296 ^ (m + 1)) := Int.mul_lt_mul_of_pos_left (by omega) (by omega)
    have x7 : d * ((b : Int) * 4294967296 ^ (m + 1)) = d * b * 4294967296 ^ (m + 1) := by grind
    rw [hV]; omega
  have hstart := DInv.start (n := n) (m := m) (by rw [lu0, hm]) wu0 vu0 hUlt
  refine idivide_walk hr hs rfl llv0 hlv rfl laa lb (by omega) (by omega) hm rfl rfl rfl hn' hw1.symm (c := cmpI a b) (by unfold cmpI; rw [if_neg (by omega)]; split <;> omega) lu0 llv wlv vlv htop hstart t1 t2 cc cz c1 c2 fun u q hI => ?_
  rw [hV] at hI
  obtain ⟨l1, l2⟩ := hI.last (by omega) hbpos
  have vu0 := val_nonneg hI.uw
  have hul := hI.ul
  have hql := hI.ql
  have hlt := hI.lt
  rw [List.drop_zero] at hlt
  have hut := (val_take_eq hI.uw (p := n) (by omega)).1
  have t2 := itrim_call (r := W .u32 q) rfl (by omega) hI.qw
  have t3 := ishiftRight_call (r := W .u32 (u.take n)) sh rfl (by simp; omega) (hI.uw.take n) s1
  rw [hut, ← hd, l2] at t3
  rw [l1] at t2
  exact ⟨t2, t3⟩

/-- Division of absolute values. -/
theorem idivide_call {r s : Abs.Rows} {a b : Nat} (hr : IsM a r) (hs : IsM b s) (hb : b ≠ 0) (hsz : nl a ≤ 549755813888) (hszb : nl b ≤ 549755813888) :
    ∃ x y, IsM (a / b) x ∧ IsM (a % b) y ∧ ACall Tryz.prog 162 [.val (tl r), .val (tl s)] ⟨[.val (tl x), .val (tl y)], [none, none]⟩ := by
  have cc := icompare_call (cmpI a b) hr hs (by unfold nl at hsz; omega) (by unfold nl at hszb; omega) (dg_wd _) (dg_wd _) (dg_tr _) (dg_tr _) (by rw [dg_val, dg_val])
  have t1 := itrimM hr (by omega)
  have t2 := itrimM hs (by omega)
  have tc := iclone_call hr (by unfold nl at hsz; omega)
  by_cases hab : a < b
  · refine ⟨[], r, by rw [Nat.div_eq_of_lt hab]; rfl, by rw [Nat.mod_eq_of_lt hab]; exact hr, ?_⟩
    rw [cmpI_lt (by omega)] at cc
    refine callZ ccOk mixed [.val, .val] Tryz.func162 rfl rfl (by kernel_rfl) fun zwrap zadd zsub zmul zquo zrem zshl zshr zband zbor zbxor zbandn zeq zne zlt zle znot zbeq zbne zmax zmin znat zinb zofN zidx zneq znadd zdif zcut zroom zmkok zlen znth zsetr zisI zgetI zsetI zfit zpart zext zsetg zrep zwide zall zmok zmget zmset zW zth A L F hS hF => ?_
    have z0 : zlt (-1) 0 = true := by rw [hS.lt]; rfl
    cbv
    refine ⟨_, hS.call (t1), ?_⟩
    cbv
    refine ⟨_, hS.call (t2), ?_⟩
    cbv
    refine ⟨_, hS.call (cc), ?_⟩
    cbv
    refine bT (z0) ?_
    refine ⟨_, hS.call (tc), ?_⟩
    cbv
    exact fin2w hF (TLe.drop _ _) (TVLe.refl _)
  · by_cases h1 : nl b = 1
    · obtain ⟨x, hx⟩ : ∃ x, IsM (a / b) x := ⟨_, rfl⟩
      obtain ⟨y, hy⟩ : ∃ y, IsM (a % b) y := ⟨_, rfl⟩
      refine ⟨x, y, hx, hy, ?_⟩
      have hblt : (b : Int) < 4294967296 := by have := lt_nl b; rw [h1] at this; omega
      have hdgb : dg b = [(b : Int)] := by
        rw [dg_pos hb, show b % 4294967296 = b by omega, show b / 4294967296 = 0 by omega, dg_zero]
      have hmod : (a : Int) % b < b := Int.emod_lt_of_pos _ (by omega)
      have hmod0 : 0 ≤ (a : Int) % b := Int.emod_nonneg _ (by omega)
      have c1 := idivideSmall_call b ((a : Int) / b) ((a : Int) % b) hr (by unfold nl at hsz; omega) (dg_wd _) (by omega) hblt (by rw [dg_val]) (by rw [dg_val])
      have c2 := iwords_call ((a : Int) % b) hmod0 (by omega)
      have q1 : W .u32 (dg ((a : Int) / b).toNat) = x := hx.symm
      have q2 : W .u32 (dg ((a : Int) % b).toNat) = y := hy.symm
      rw [q1] at c1
      rw [q2] at c2
      obtain ⟨c, hc, hc0⟩ : ∃ c, cmpI (a : Int) b = c ∧ ¬ c < 0 := ⟨_, rfl, by
        unfold cmpI
        rw [if_neg (by omega)]
        split <;> omega⟩
      rw [hc] at cc
      generalize (a : Int) % b = e at *
      generalize hbv : (b : Int) = d at *
      refine callZ ccOk mixed [.val, .val] Tryz.func162 rfl rfl (by kernel_rfl) fun zwrap zadd zsub zmul zquo zrem zshl zshr zband zbor zbxor zbandn zeq zne zlt zle znot zbeq zbne zmax zmin znat zinb zofN zidx zneq znadd zdif zcut zroom zmkok zlen znth zsetr zisI zgetI zsetI zfit zpart zext zsetg zrep zwide zall zmok zmget zmset zW zth A L F hS hF => ?_
      have z1 : zlt c 0 = false := by rw [hS.lt]; exact decide_eq_false hc0
      have z2 : zeq (zofN (zlen s)) 1 = true := by rw [hS.len, hs, W_len, hdgb, hS.ofN, hS.eq]; rfl
      have z3 : zisI .u32 s (znat 0) = true := by rw [hS.isI, hs, hS.nat, hdgb]; rfl
      have z4 : zwrap .u64 (zgetI s (znat 0)) = d := by rw [hS.getI, hs, hS.nat, W_getI, hdgb, hS.wrap]; exact wrap_u64 (by show 0 ≤ d; omega) (by show d < _; omega)
      have z5 : zle 0 0 = true := by rw [hS.le]; rfl
      cbv
      refine ⟨_, hS.call (t1), ?_⟩
      cbv
      refine ⟨_, hS.call (t2), ?_⟩
      cbv
      refine ⟨_, hS.call (cc), ?_⟩
      cbv
      rw [z4]
      refine bF (z1) ?_
      refine bT (z2) ?_
      refine nd (z5) ?_
      refine nd (z3) ?_
      refine ⟨_, hS.call (c1), ?_⟩
      cbv
      refine ⟨_, hS.call (c2), ?_⟩
      cbv
      exact hF _ (ResLe.refl _)
    · have h0 : nl b ≠ 0 := fun h => hb (nl_zero.1 h)
      exact ⟨_, _, rfl, rfl, idivide_long hr hs (by omega) (by omega) hsz⟩
end Go.Proofs.YtpgbejgdmgpfjaaGreat
end

section
set_option linter.unusedVariables false
set_option linter.unusedSimpArgs false
set_option maxHeartbeats 8000000
set_option linter.unusedVariables false
set_option linter.unusedSimpArgs false
set_option maxRecDepth 100000
namespace Go.Proofs.YtpgbejgdmgpfjaaGreat
open Go Go.Abs Go.Abs.M Go.Proofs

/-- The cells of an integer, 'minus zero' too. -/
def IsS (x : Int) (s : Bool) (r : Abs.Rows) : Prop := IsM x.natAbs r ∧ ((s = true → x ≤ 0) ∧ (s = false → 0 ≤ x))

theorem IsS.of {x : Int} {s : Bool} {r : Abs.Rows} (h : IsI x s r) : IsS x s r := by
  refine ⟨h.m, fun hs => ?_, fun hs => ?_⟩
  · rw [h.s] at hs; have := of_decide_eq_true hs; omega
  · rw [h.s] at hs; have := of_decide_eq_false hs; omega

theorem IsS.neg {x : Int} {s : Bool} {r : Abs.Rows} (h : IsS x s r) : IsS (-x) (!s) r := by
  obtain ⟨h1, h2, h3⟩ := h
  refine ⟨by rw [Int.natAbs_neg]; exact h1, fun hs => ?_, fun hs => ?_⟩
  · have := h3 (by simpa using hs); omega
  · have := h2 (by simpa using hs); omega

/-- What a sign and an absolute value make. -/
theorem isignedS {x : Int} {r : Abs.Rows} (s : Bool) (hx : IsS x s r) (hl : nl x.natAbs ≤ 2199023255552) : ∃ u, IsI x u r ∧ ACall Tryz.prog 160 [.val (tb s), .val (tl r)] ⟨[.val (.agg (iT u r))], [none, none]⟩ := by
  obtain ⟨h1, h2, h3⟩ := hx
  refine ⟨decide (x < 0), ⟨rfl, h1⟩, isignedM s _ h1 hl ?_⟩
  cases s with
  | true => have := h2 rfl; rw [Bool.true_and, Bool.eq_iff_iff]; simp; omega
  | false => have := h3 rfl; rw [Bool.false_and]; exact decide_eq_false (by omega)

theorem iof_call (n : Int) (h1 : -9223372036854775808 ≤ n) (h2 : n < 9223372036854775808) : ∃ u w, IsI n u w ∧ ACall Tryz.prog 142 [.val (ti .i64 n)] ⟨[.val (.agg (iT u w))], [none]⟩ := by
  obtain ⟨w, hw⟩ : ∃ w, IsM n.natAbs w := ⟨_, rfl⟩
  have hl : nl n.natAbs ≤ 2 := nl_le_of (by omega)
  have hwords := iwords_call n.natAbs (by omega) (by omega)
  rw [Int.toNat_natCast, show W .u32 (dg n.natAbs) = w from hw.symm] at hwords
  obtain ⟨u, hu, cs⟩ := isignedS (x := n) (decide (n < 0)) ⟨hw, fun h => by have := of_decide_eq_true h; omega, fun h => by have := of_decide_eq_false h; omega⟩ (by omega)
  refine ⟨u, w, hu, ?_⟩
  obtain ⟨M, hM⟩ : ∃ M : Int, M = n.natAbs := ⟨_, rfl⟩
  obtain ⟨D, hD⟩ : ∃ D, D = decide (n < 0) := ⟨_, rfl⟩
  rw [← hM] at hwords
  rw [← hD] at cs
  refine callZ ccOk mixed [.val] Tryz.func142 rfl rfl (by kernel_rfl) fun zwrap zadd zsub zmul zquo zrem zshl zshr zband zbor zbxor zbandn zeq zne zlt zle znot zbeq zbne zmax zmin znat zinb zofN zidx zneq znadd zdif zcut zroom zmkok zlen znth zsetr zisI zgetI zsetI zfit zpart zext zsetg zrep zwide zall zmok zmget zmset zW zth A L F hS hF => ?_
  have hlt : zlt n 0 = D := by rw [hD]; exact hS.lt ..
  have e1 : D = true → zwrap .u64 (zsub 0 (zwrap .u64 n)) = M := fun h => by
    rw [hD] at h
    have := of_decide_eq_true h
    rw [hS.wrap, hS.wrap, hS.sub, wrap_u64m, wrap_u64m]; omega
  have e2 : D = false → zwrap .u64 n = M := fun h => by
    rw [hD] at h
    have := of_decide_eq_false h
    rw [hS.wrap, wrap_u64 (by omega) (by omega)]; omega
  clear hM hD hw hl hu
  cbv
  rw [hlt]
  refine ⟨fun h => ?_, fun h => ?_⟩
  · rw [e1 h]
    refine ⟨_, hS.call (hwords), ?_⟩
    cbv
    refine ⟨_, hS.call (cs), ?_⟩
    cbv
    exact hF _ (ResLe.refl _)
  · rw [e2 h]
    refine ⟨_, hS.call (hwords), ?_⟩
    cbv
    refine ⟨_, hS.call (cs), ?_⟩
    cbv
    exact hF _ (ResLe.refl _)

theorem isign_call {x : Int} {s : Bool} {r : Abs.Rows} (c : Int) (hx : IsI x s r) (hc : c = cmpI x 0) : ACall Tryz.prog 118 [.val (.agg (iT s r))] ⟨[.val (ti .i64 c)], [none]⟩ := by
  have hl : r.length = nl x.natAbs := hx.m.len
  have hz := @nl_zero x.natAbs
  refine callZ ccOk mixed [.val] Tryz.func118 rfl rfl (by kernel_rfl) fun zwrap zadd zsub zmul zquo zrem zshl zshr zband zbor zbxor zbandn zeq zne zlt zle znot zbeq zbne zmax zmin znat zinb zofN zidx zneq znadd zdif zcut zroom zmkok zlen znth zsetr zisI zgetI zsetI zfit zpart zext zsetg zrep zwide zall zmok zmget zmset zW zth A L F hS hF => ?_
  have e1 : zeq (zofN (zlen r)) 0 = decide (x = 0) := by
    rw [hS.eq, hS.ofN, hS.len, hl]
    by_cases h : x = 0
    · rw [decide_eq_true h]; exact decide_eq_true (by omega)
    · rw [decide_eq_false h]; exact decide_eq_false (by omega)
  cbv
  rw [e1]
  refine ⟨fun h => fin1 hF (tv_int ?_), fun h => ⟨fun h' => fin1 hF (tv_int ?_), fun h' => fin1 hF (tv_int ?_)⟩⟩
  · rw [hc, of_decide_eq_true h]; rfl
  · rw [hx.s] at h'; rw [hc, cmpI_lt (of_decide_eq_true h')]
  · rw [hx.s] at h'
    have := of_decide_eq_false h'
    have := of_decide_eq_false h
    rw [hc, cmpI_gt (by omega)]

theorem icmp_call {x y : Int} {s t : Bool} {r q : Abs.Rows} (c : Int) (hx : IsI x s r) (hy : IsI y t q) (hc : c = cmpI x y) (h1 : nl x.natAbs ≤ 2199023255552) (h2 : nl y.natAbs ≤ 2199023255552) :
    ACall Tryz.prog 114 [.val (.agg (iT s r)), .val (.agg (iT t q))] ⟨[.val (ti .i64 c)], [none, none]⟩ := by
  have c1 := icompare_call (cmpI x.natAbs y.natAbs) hx.m hy.m h1 h2 (dg_wd _) (dg_wd _) (dg_tr _) (dg_tr _) (by rw [dg_val, dg_val])
  have c2 := icompare_call (cmpI y.natAbs x.natAbs) hy.m hx.m h2 h1 (dg_wd _) (dg_wd _) (dg_tr _) (dg_tr _) (by rw [dg_val, dg_val])
  have s1 := isign_call (cmpI x 0) hx rfl
  have s2 := isign_call (cmpI y 0) hy rfl
  have b : ∀ z : Int, (z < 0 → cmpI z 0 = -1) ∧ (z = 0 → cmpI z 0 = 0) ∧ (0 < z → cmpI z 0 = 1) := fun z => ⟨fun h => cmpI_lt h, fun h => by rw [h]; rfl, fun h => cmpI_gt h⟩
  have bx := b x
  have by' := b y
  have n1 : x < 0 → y < 0 → cmpI y.natAbs x.natAbs = c := fun h h' => by rw [show (y.natAbs : Int) = -y by omega, show (x.natAbs : Int) = -x by omega, cmpI_neg, hc]
  have n2 : ¬ x < 0 → ¬ y < 0 → cmpI x.natAbs y.natAbs = c := fun h h' => by rw [show (y.natAbs : Int) = y by omega, show (x.natAbs : Int) = x by omega, hc]
  have n3 : x < y → -1 = c := fun h => by rw [hc, cmpI_lt h]
  have n4 : y < x → 1 = c := fun h => by rw [hc, cmpI_gt h]
  generalize cmpI x.natAbs y.natAbs = u at *
  generalize cmpI y.natAbs x.natAbs = v at *
  generalize cmpI x 0 = a at *
  generalize cmpI y 0 = d at *
  refine callZ ccOk mixed [.val] Tryz.func114 rfl rfl (by kernel_rfl) fun zwrap zadd zsub zmul zquo zrem zshl zshr zband zbor zbxor zbandn zeq zne zlt zle znot zbeq zbne zmax zmin znat zinb zofN zidx zneq znadd zdif zcut zroom zmkok zlen znth zsetr zisI zgetI zsetI zfit zpart zext zsetg zrep zwide zall zmok zmget zmset zW zth A L F hS hF => ?_
  have e1 : zne a d = decide (a ≠ d) := hS.ne ..
  have e2 : zlt a d = decide (a < d) := hS.lt ..
  have e3 : zlt a 0 = decide (a < 0) := hS.lt ..
  cbv
  refine ⟨_, hS.call (s1), ?_⟩
  cbv
  refine ⟨_, hS.call (s2), ?_⟩
  cbv
  refine ⟨fun h => ⟨fun h' => fin1 hF (tv_int (n3 ?_)), fun h' => fin1 hF (tv_int (n4 ?_))⟩, fun h => ⟨fun h' => ⟨_, hS.call c2, ?_⟩, fun h' => ⟨_, hS.call c1, ?_⟩⟩⟩
  all_goals rw [e1] at h
  · rw [e2] at h'; have := of_decide_eq_true h'; omega
  · rw [e2] at h'; have := of_decide_eq_false h'; have := of_decide_eq_true h; omega
  · rw [e3] at h'; have h1 := of_decide_eq_true h'; have h2 := of_decide_eq_false h
    cbv
    exact fin1 hF (tv_int (n1 (by omega) (by omega)))
  · rw [e3] at h'; have h1 := of_decide_eq_false h'; have h2 := of_decide_eq_false h
    cbv
    exact fin1 hF (tv_int (n2 (by omega) (by omega)))

theorem imul_call {x y : Int} {s t : Bool} {r q : Abs.Rows} (hx : IsI x s r) (hy : IsI y t q) (h1 : nl x.natAbs ≤ 549755813888) (h2 : nl y.natAbs ≤ 549755813888) :
    ∃ u w, IsI (x * y) u w ∧ ACall Tryz.prog 156 [.val (.agg (iT s r)), .val (.agg (iT t q))] ⟨[.val (.agg (iT u w))], [none, none]⟩ := by
  obtain ⟨w, hw⟩ : ∃ w, IsM (x * y).natAbs w := ⟨_, rfl⟩
  have hb : nl (x * y).natAbs ≤ 1099511627776 := by
    rw [Int.natAbs_mul]
    have b := nl_mul x.natAbs y.natAbs
    omega
  have hs := hx.s
  have ht := hy.s
  have c := iproduct_call hx.m hy.m (by unfold nl at h1; omega) (by unfold nl at h2; omega) (dg_wd _) (dg_wd _)
  simp only [dg_val] at c
  have e1 : W .u32 (dg ((x.natAbs : Int) * y.natAbs).toNat) = w := by
    rw [hw]; congr 2
    rw [Int.natAbs_mul]
    have : ((x.natAbs : Int) * y.natAbs) = ((x.natAbs * y.natAbs : Nat) : Int) := by push_cast; rfl
    omega
  rw [e1] at c
  obtain ⟨u, hu, cs⟩ := isignedS (x := x * y) (!(s == t)) ⟨hw, fun h => by
      rw [hs, ht] at h
      by_cases h1 : x < 0 <;> by_cases h2 : y < 0 <;> simp [h1, h2] at h
      · exact Int.mul_nonpos_of_nonpos_of_nonneg (by omega) (by omega)
      · exact Int.mul_nonpos_of_nonneg_of_nonpos (by omega) (by omega), fun h => by
      rw [hs, ht] at h
      by_cases h1 : x < 0 <;> by_cases h2 : y < 0 <;> simp [h1, h2] at h
      · exact Int.mul_nonneg_of_nonpos_of_nonpos (by omega) (by omega)
      · exact Int.mul_nonneg (by omega) (by omega)⟩ (by omega)
  refine ⟨u, w, hu, ?_⟩
  refine callZ ccOk mixed [.val] Tryz.func156 rfl rfl (by kernel_rfl) fun zwrap zadd zsub zmul zquo zrem zshl zshr zband zbor zbxor zbandn zeq zne zlt zle znot zbeq zbne zmax zmin znat zinb zofN zidx zneq znadd zdif zcut zroom zmkok zlen znth zsetr zisI zgetI zsetI zfit zpart zext zsetg zrep zwide zall zmok zmget zmset zW zth A L F hS hF => ?_
  have e : zbne s t = !(s == t) := hS.bne s t
  cbv
  refine ⟨_, hS.call (c), ?_⟩
  cbv
  rw [e]
  refine ⟨_, hS.call (cs), ?_⟩
  cbv
  exact hF _ (ResLe.refl _)
end Go.Proofs.YtpgbejgdmgpfjaaGreat
end

section
set_option linter.unusedVariables false
set_option linter.unusedSimpArgs false
set_option maxHeartbeats 8000000
set_option linter.unusedVariables false
set_option linter.unusedSimpArgs false
set_option maxRecDepth 100000
namespace Go.Proofs.YtpgbejgdmgpfjaaGreat
open Go Go.Abs Go.Abs.M Go.Proofs

def ivalSt (r : Abs.Rows) (m len i : Int) : St := mkSt 22 [vl r, .junk, vi .u64 0, vi .u64 m, .junk, .junk, vi .i64 len, vi .i64 i] [none]
theorem ivalue_call {l : List Int} {r : Abs.Rows} (n : Int) (hr : r = W .u32 l) (hl : l.length ≤ 2) (hw : Wd l) (hn : n = val l) : ACall Tryz.prog 159 [.val (tl r)] ⟨[.val (ti .u64 n)], [none]⟩ := by
  obtain ⟨N, hN⟩ : ∃ N, N = l.length := ⟨_, rfl⟩
  refine callZ ccOk mixed [.val] Tryz.func159 rfl rfl (by kernel_rfl) fun zwrap zadd zsub zmul zquo zrem zshl zshr zband zbor zbxor zbandn zeq zne zlt zle znot zbeq zbne zmax zmin znat zinb zofN zidx zneq znadd zdif zcut zroom zmkok zlen znth zsetr zisI zgetI zsetI zfit zpart zext zsetg zrep zwide zall zmok zmget zmset zW zth A L F hS hF => ?_
  have h1 : zlen r = N := by rw [hS.len, hr, W_len, hN]
  have L2 := zlt_nat hS.lt hS.ofN
  have A1 : ∀ (k : Nat), k < N → ∃ (a s m' : Int) (k1 : Nat), zgetI r (znat (zofN k)) = a ∧ zwrap .u64 a = a ∧ zwrap .i64 (zmul 32 (zofN k)) = s ∧ zle 0 s = true ∧ zbor .u64 (val (l.take k)) (zshl .u64 a s) = m' ∧ zwrap .i64 (zadd (zofN k) 1) = zofN k1 ∧ zisI .u32 r (znat (zofN k)) = true ∧ zle 0 (zofN k) = true ∧ k1 = k + 1 ∧ m' = val (l.take k1) := fun k hk => by
    have ga := hw.get k
    have hv := val_take_succ' l k
    have hv0 := val_nonneg (hw.take k)
    have hv1 := val_lt (hw.take k)
    have e2 : (k : Int) = 0 ∨ (k : Int) = 1 := by omega
    refine ⟨l.getD k 0, ((32 * k : Nat) : Int), val (l.take (k + 1)), k + 1, by rw [hS.getI, hS.nat, hS.ofN, hr, W_getI, Int.toNat_natCast], by rw [hS.wrap, wrap_u64 (by omega) (by omega)], ?_, ?_, ?_, ?_, ?_, ?_, rfl, rfl⟩
    · rw [hS.wrap, hS.mul, hS.ofN, wrap_i64 (by omega) (by omega)]; omega
    · rw [hS.le]; exact decide_eq_true (by omega)
    · rw [show ∀ x y, zshl .u64 x y = ZI.std.shl .u64 x y from fun _ _ => hS.shl .., shl_std (32 * k) rfl (by show 32 * k ≤ 64; omega), show ∀ x y, zbor .u64 x y = ZI.std.bor .u64 x y from fun _ _ => hS.bor ..]
      rw [List.length_take] at hv1
      rcases (show k = 0 ∨ k = 1 by omega) with rfl | rfl
      · have z : val (l.take 0) = 0 := by simp [val]
        rw [z] at hv ⊢
        generalize l.getD 0 0 = g at *
        rw [wrap_u64 (by simp; omega) (by simp; omega), bor_lo 0 ga.1 (Int.le_refl 0) (by simp) (by simp; omega), hv]; simp
      · rw [Nat.min_eq_left (by omega)] at hv1
        rw [wrap_u64 (by omega) (by omega), bor_lo 32 ga.1 hv0 (by simpa using hv1) (by omega), hv]; omega
    · rw [hS.wrap, hS.add, hS.ofN, hS.ofN, wrap_i64 (by omega) (by omega)]; omega
    · rw [hS.isI, hr, hS.nat, hS.ofN, W_isI]; exact decide_eq_true (by omega)
    · rw [hS.le, hS.ofN]; exact decide_eq_true (by omega)
  cbv
  refine loopZ ccOk mixed hS (fun (j : Nat) s' => ∃ (k : Nat) (m : Int), k + j = N ∧ m = val (l.take k) ∧ s' = ivalSt r m (zofN N) (zofN k)) (n := N) (s0 := ivalSt r 0 (zofN N) (zofN 0)) (le_of ?_ ?_) rfl (Nat.le_refl 1) ?_ ?_
  · simp [leT, ivalSt, mkSt, vi, vl, hS.ofN, h1]
  · simp [leH, ivalSt, mkSt]
  · exact ⟨0, 0, by omega, by simp [val], rfl⟩
  · rintro j _ ⟨k, m, hk, hm, rfl⟩
    rcases Nat.lt_or_ge k N with hkn | hkn
    · obtain ⟨a, s, m', k1, E1, E2, E3, E4, E5, E6, E7, E8, hk1, hm'⟩ := A1 k hkn
      rw [← hm] at E5
      have e6 : zlt (zofN k) (zofN N) = true := (L2 k N).trans (decide_eq_true hkn)
      cbv
      refine bT e6 ?_
      rw [E1, E2, E3, E5, E6]
      refine nd E8 (nd E7 (nd E4 ?_))
      exact again (s' := ivalSt r m' (zofN N) (zofN k1)) (m := j - 1) (by simp [leT, ivalSt, mkSt, vi, vl]) (by simp [leH, ivalSt, mkSt]) rfl (Nat.le_refl 1) (by omega) ⟨k1, m', by omega, hm', rfl⟩
    · obtain rfl : k = N := by omega
      have e6 : zlt (zofN k) (zofN k) = false := (L2 k k).trans (decide_eq_false (Nat.lt_irrefl k))
      have hmn : m = n := by rw [hm, hn, List.take_of_length_le (by omega)]
      cbv
      exact bF e6 (fin1 hF (tv_int hmn))

def igcdSt (a : Bool) (b : Abs.Rows) (c : Bool) (d x y : Abs.Rows) : St := mkSt 53 [.junk, .junk, .c (.ptr 2 0 0), .c (.ptr 3 0 0), .c (.ptr 4 0 0), vl x, vl y] [none, none, some (.var [.t (.v (.bool a)), .t (.lst false b)]), some (.var [.t (.v (.bool c)), .t (.lst false d)]), some (.var [.t (.v (.bool false)), .t (.lst true [])])]
def igcd2St (a : Bool) (b : Abs.Rows) (c : Bool) (d : Abs.Rows) (m n : Int) : St := mkSt 53 [.junk, .junk, .c (.ptr 2 0 0), .c (.ptr 3 0 0), .c (.ptr 4 0 0), .junk, .junk, vi .u64 m, vi .u64 n] [none, none, some (.var [.t (.v (.bool a)), .t (.lst false b)]), some (.var [.t (.v (.bool c)), .t (.lst false d)]), some (.var [.t (.v (.bool false)), .t (.lst true [])])]
theorem igcd_call {x y : Int} {s t : Bool} {r q : Abs.Rows} (hx : IsI x s r) (hy : IsI y t q) (h1 : nl x.natAbs ≤ 274877906944) (h2 : nl y.natAbs ≤ 274877906944) :
    ∃ w, IsI (Int.gcd x y) false w ∧ ACall Tryz.prog 120 [.val (.agg (iT s r)), .val (.agg (iT t q))] ⟨[.val (.agg (iT false w))], [none, none]⟩ := by
  obtain ⟨w, hg⟩ : ∃ w, IsM (Int.gcd x y) w := ⟨_, rfl⟩
  have hb : nl (Int.gcd x y) ≤ 2199023255552 := by
    by_cases h : x = 0
    · subst h
      have : Int.gcd 0 y = y.natAbs := by simp [Int.gcd]
      rw [this]; omega
    · have : Int.gcd x y ≤ x.natAbs := Nat.gcd_le_left _ (by omega)
      have := nl_mono this
      omega
  refine ⟨w, ⟨(decide_eq_false (by omega)).symm, hg⟩, ?_⟩
  have cw := isignedM false false hg hb rfl
  have ct := itrimM hx.m (by omega)
  have ct2 := itrimM hy.m (by omega)
  have cl := iclone_call hx.m (by unfold nl at h1; omega)
  have cl2 := iclone_call hy.m (by unfold nl at h2; omega)
  have hr := hx.m
  have hs := hy.m
  clear hx hy
  have hgg : Int.gcd x y = Nat.gcd x.natAbs y.natAbs := rfl
  rw [hgg] at hg hb
  clear hgg
  generalize x.natAbs = a at *
  generalize y.natAbs = b at *
  refine callZ ccOk mixed [.val] Tryz.func120 rfl rfl (by kernel_rfl) fun zwrap zadd zsub zmul zquo zrem zshl zshr zband zbor zbxor zbandn zeq zne zlt zle znot zbeq zbne zmax zmin znat zinb zofN zidx zneq znadd zdif zcut zroom zmkok zlen znth zsetr zisI zgetI zsetI zfit zpart zext zsetg zrep zwide zall zmok zmget zmset zW zth A L F hS hF => ?_
  cbv
  refine ⟨_, hS.call (ct), ?_⟩
  cbv
  refine ⟨_, hS.call (cl), ?_⟩
  cbv
  refine ⟨_, hS.call (ct2), ?_⟩
  cbv
  refine ⟨_, hS.call (cl2), ?_⟩
  cbv
  refine loopZ ccOk mixed hS (fun (m : Nat) s' => ∃ (c : Nat) (x y : Abs.Rows), IsM c x ∧ IsM m y ∧ nl c ≤ 274877906944 ∧ nl m ≤ 274877906944 ∧ Nat.gcd c m = Nat.gcd a b ∧ s' = igcdSt s r t q x y) (n := b) (s0 := igcdSt s r t q r q) (le_of ?_ ?_) rfl (by show 2 ≤ 5; omega) ?_ ?_
  · simp [leT, igcdSt, mkSt, vl, vnil]
  · simp [leH, igcdSt, mkSt]
  · exact ⟨a, r, q, hr, hs, h1, h2, rfl, rfl⟩
  · rintro m _ ⟨c, x, y, hx, hy, l1, l2, hgc, rfl⟩
    have hmz := @nl_zero m
    have hxl : zlen x = nl c := by rw [hS.len, hx.len]
    have hyl : zlen y = nl m := by rw [hS.len, hy.len]
    have e1 : zlt 0 (zofN (zlen y)) = decide (m ≠ 0) := by
      rw [hyl, hS.lt, hS.ofN]
      by_cases h : m = 0
      · rw [decide_eq_false (show ¬ m ≠ 0 by omega)]; exact decide_eq_false (by omega)
      · rw [decide_eq_true h]; exact decide_eq_true (by omega)
    have e2 : zle (zofN (zlen x)) 2 = decide (nl c ≤ 2) := by
      rw [hxl, hS.le, hS.ofN]
      by_cases h : nl c ≤ 2
      · rw [decide_eq_true h]; exact decide_eq_true (by omega)
      · rw [decide_eq_false h]; exact decide_eq_false (by omega)
    have e3 : zle (zofN (zlen y)) 2 = decide (nl m ≤ 2) := by
      rw [hyl, hS.le, hS.ofN]
      by_cases h : nl m ≤ 2
      · rw [decide_eq_true h]; exact decide_eq_true (by omega)
      · rw [decide_eq_false h]; exact decide_eq_false (by omega)
    have hdiv : m ≠ 0 → ∃ p q, IsM (c / m) p ∧ IsM (c % m) q ∧ ACall Tryz.prog 162 [.val (tl x), .val (tl y)] ⟨[.val (tl p), .val (tl q)], [none, none]⟩ := fun h => idivide_call hx hy h (by omega) (by omega)
    have hend : m = 0 → x = w := fun h => by
      subst h
      rw [Nat.gcd_zero_right] at hgc
      rw [hx, hg, hgc]
    by_cases hm0 : m = 0
    · rw [hend hm0] at *
      cbv
      refine bF (by rw [e1]; exact decide_eq_false (by omega)) ?_
      refine ⟨_, hS.call (cw), ?_⟩
      cbv
      exact hF _ (ResLe.refl _)
    · by_cases hsh : nl c ≤ 2 ∧ nl m ≤ 2
      · obtain ⟨k1, k2⟩ := hsh
        have b1 := lt_nl c
        have b2 := lt_nl m
        have b3 := ipow_le k1
        have b4 := ipow_le k2
        obtain ⟨C, hC⟩ : ∃ C : Int, C = c := ⟨_, rfl⟩
        obtain ⟨M, hM⟩ : ∃ M : Int, M = m := ⟨_, rfl⟩
        have n1 := ivalue_call C hx k1 (dg_wd _) (by rw [dg_val, hC])
        have n2 := ivalue_call M hy k2 (dg_wd _) (by rw [dg_val, hM])
        have hgb : Nat.gcd c m < 18446744073709551616 := by
          have := Nat.gcd_le_right c (Nat.pos_of_ne_zero hm0); omega
        have n4 : ∀ g : Nat, g = Nat.gcd a b → ∀ G : Int, G = g → ACall Tryz.prog 161 [.val (ti .u64 G)] ⟨[.val (tl w)], [none]⟩ := fun g hgv G hG => by
          have := iwords_call G (by omega) (by rw [hG, hgv, ← hgc]; omega)
          rw [hG, Int.toNat_natCast, hgv, ← show w = W .u32 (dg (Nat.gcd a b)) from hg, ← hgv, ← hG] at this
          exact this
        have hcb : c < 18446744073709551616 := by omega
        have hmb : m < 18446744073709551616 := by omega
        clear b1 b2 b3 b4 l1 l2
        cbv
        refine bT (by rw [e1]; exact decide_eq_true hm0) (bT (by rw [e2]; exact decide_eq_true k1) (bT (by rw [e3]; exact decide_eq_true k2) ⟨_, hS.call n1, ?_⟩))
        cbv
        refine ⟨_, hS.call n2, ?_⟩
        cbv
        refine loopZ ccOk mixed hS (fun (j : Nat) s' => ∃ c' : Nat, c' < 18446744073709551616 ∧ j < 18446744073709551616 ∧ Nat.gcd c' j = Nat.gcd a b ∧ s' = igcd2St s r t q (zofN c') (zofN j)) (n := m) (s0 := igcd2St s r t q (zofN c) (zofN m)) (le_of ?_ ?_) rfl (by show 2 ≤ 5; omega) ?_ ?_
        · simp [leT, igcd2St, mkSt, vi, hS.ofN, hC, hM]
        · simp [leH, igcd2St, mkSt]
        · exact ⟨c, hcb, hmb, hgc, rfl⟩
        · rintro j _ ⟨c', hc', hj, hgc', rfl⟩
          have f1 : 0 < j → zrem (zofN c') (zofN j) = zofN (c' % j) := fun h => by rw [hS.rem, hS.ofN, hS.ofN, hS.ofN, Int.tmod_eq_emod_of_nonneg (by omega)]; rfl
          have f2 : zlt 0 (zofN j) = decide (0 < j) := by
            rw [hS.lt, hS.ofN]
            by_cases h : 0 < j
            · rw [decide_eq_true h]; exact decide_eq_true (by omega)
            · rw [decide_eq_false h]; exact decide_eq_false (by omega)
          have f3 : 0 < j → zne (zofN j) 0 = true := fun h => by rw [hS.ne, hS.ofN]; exact decide_eq_true (by omega)
          have f4 : j = 0 → ACall Tryz.prog 161 [.val (ti .u64 (zofN c'))] ⟨[.val (tl w)], [none]⟩ := fun h => by
            subst h
            rw [Nat.gcd_zero_right] at hgc'
            exact n4 c' hgc' _ (hS.ofN _)
          cbv
          refine ⟨fun h => ?_, fun h => ?_⟩
          all_goals rw [f2] at h
          · have h := of_decide_eq_true h
            rw [f1 h]
            refine nd (f3 h) ?_
            refine again (s' := igcd2St s r t q (zofN j) (zofN (c' % j))) (m := c' % j) (by simp [leT, igcd2St, mkSt, vi]) (by simp [leH, igcd2St, mkSt]) rfl (by show 2 ≤ 5; omega) (Nat.mod_lt _ h) ⟨j, hj, ?_, ?_, rfl⟩
            · have := Nat.mod_lt c' h; omega
            · rw [← hgc', Nat.gcd_comm c' j, Nat.gcd_rec j c', Nat.gcd_comm]
          · have h := of_decide_eq_false h
            refine ⟨_, hS.call (f4 (by omega)), ?_⟩
            cbv
            refine ⟨_, hS.call (cw), ?_⟩
            cbv
            exact hF _ (ResLe.refl _)
      · obtain ⟨p, q', _, hq, cd⟩ := hdiv hm0
        have nx : ∃ (c' : Nat) (x' y' : Abs.Rows), IsM c' x' ∧ IsM (c % m) y' ∧ nl c' ≤ 274877906944 ∧ nl (c % m) ≤ 274877906944 ∧ Nat.gcd c' (c % m) = Nat.gcd a b ∧ igcdSt s r t q y q' = igcdSt s r t q x' y' :=
          ⟨m, y, q', hy, hq, l2, Nat.le_trans (nl_mono (Nat.le_of_lt (Nat.mod_lt _ (Nat.pos_of_ne_zero hm0)))) l2, by rw [← hgc, Nat.gcd_comm c m, Nat.gcd_rec m c, Nat.gcd_comm], rfl⟩
        have e1' : zlt 0 (zofN (zlen y)) = true := by rw [e1]; exact decide_eq_true hm0
        cbv
        refine bT e1' ⟨fun h2 => bF ?_ ?_, fun h2 => ?_⟩
        · rw [e3]; rw [e2] at h2; have := of_decide_eq_true h2; exact decide_eq_false (by omega)
        all_goals
          refine ⟨_, hS.call cd, ?_⟩
          cbv
          exact again (s' := igcdSt s r t q y q') (m := c % m) (by simp [leT, igcdSt, mkSt, vl, vnil]) (by simp [leH, igcdSt, mkSt]) rfl (by show 2 ≤ 5; omega) (Nat.mod_lt _ (Nat.pos_of_ne_zero hm0)) nx
end Go.Proofs.YtpgbejgdmgpfjaaGreat
end

section
set_option linter.unusedVariables false
set_option linter.unusedSimpArgs false
/-
  Cells that are canonical integers and rational numbers, and cells that are not.
-/
set_option linter.unusedVariables false
namespace Go.Abs
open Go.Abs.M

theorem W_inj {k : IntKind} : ∀ {a b : List Int}, W k a = W k b → a = b
  | [], [], _ => rfl
  | [], _ :: _, h => by simp [W] at h
  | _ :: _, [], h => by simp [W] at h
  | x :: a, y :: b, h => by
    simp only [W, List.map_cons, List.cons.injEq, Tree.v.injEq, Value.int.injEq, true_and, and_true] at h
    rw [h.1, W_inj (k := k) h.2]

/-- Is this a canonical integer? -/
def canI (s : Bool) (l : List Int) : Bool := if l.length = 0 then !s else decide (l.getD (l.length - 1) 0 ≠ 0)

theorem canI_of {x : Int} {s : Bool} {l : List Int} (h : IsI x s (W .u32 l)) : canI s l = true := by
  have hl : l = dg x.natAbs := W_inj (h.m)
  have hs := h.s
  unfold canI
  subst hl
  by_cases h0 : (dg x.natAbs).length = 0
  · rw [if_pos h0]
    have : x.natAbs = 0 := dg_eq_nil.1 (List.length_eq_zero_iff.1 h0)
    rw [hs, decide_eq_false (by omega)]; rfl
  · rw [if_neg h0]
    rcases dg_tr x.natAbs with h | h
    · rw [h] at h0; exact absurd rfl h0
    · exact decide_eq_true h

theorem canI_ex {s : Bool} {l : List Int} (hw : Wd l) (h : canI s l = true) : ∃ x : Int, IsI x s (W .u32 l) ∧ nl x.natAbs = l.length := by
  unfold canI at h
  have hv := val_nonneg hw
  by_cases h0 : l.length = 0
  · rw [if_pos h0] at h
    have hl := List.length_eq_zero_iff.1 h0
    subst hl
    have : s = false := by cases s <;> simp_all
    subst this
    exact ⟨0, ⟨rfl, rfl⟩, rfl⟩
  · rw [if_neg h0] at h
    have ht : Tr l := .inr (of_decide_eq_true h)
    have hu := dg_unique hw ht
    have hpos : 0 < val l := by
      rcases Int.lt_or_eq_of_le hv with h | h
      · exact h
      · exfalso
        rw [← h] at hu
        have : l = [] := hu.symm
        rw [this] at h0; exact h0 rfl
    have hn : ∀ x : Int, x.natAbs = (val l).toNat → nl x.natAbs = l.length := fun x hx => by rw [hx]; unfold nl; rw [hu]
    cases s with
    | false =>
      have e : (val l).natAbs = (val l).toNat := by omega
      exact ⟨val l, ⟨(decide_eq_false (by omega)).symm, by unfold IsM; rw [e, hu]⟩, hn _ e⟩
    | true =>
      have e : (-val l).natAbs = (val l).toNat := by omega
      exact ⟨-val l, ⟨(decide_eq_true (by omega)).symm, by unfold IsM; rw [e, hu]⟩, hn _ e⟩

/-- Is this a canonical rational number? -/
def CanQ (s : Bool) (l : List Int) (t : Bool) (m : List Int) : Prop := ∃ q : Rat, IsR q s (W .u32 l) t (W .u32 m)

theorem rat_of {n d : Int} (h : 0 < d) (hg : Int.gcd n d = 1) : ∃ q : Rat, q.num = n ∧ (q.den : Int) = d :=
  ⟨⟨n, d.toNat, by omega, by
    have e : d.toNat = d.natAbs := by omega
    show Nat.gcd n.natAbs d.toNat = 1
    rw [e]; exact hg⟩, rfl, by show (d.toNat : Int) = d; omega⟩

theorem CanQ.iff {s t : Bool} {l m : List Int} {n d : Int} (hn : IsI n s (W .u32 l)) (hd : IsI d t (W .u32 m)) : CanQ s l t m ↔ 0 < d ∧ Int.gcd n d = 1 := by
  constructor
  · rintro ⟨q, h1, h2⟩
    have e1 : q.num = n := by
      have a := h1.m.symm.trans hn.m
      have b : dg q.num.natAbs = dg n.natAbs := W_inj a
      have x := dg_val q.num.natAbs
      rw [b] at x
      have c : (q.num.natAbs : Int) = n.natAbs := x.symm.trans (dg_val _)
      have e := h1.s.symm.trans hn.s
      have := decide_eq_decide.1 e
      omega
    have e2 : (q.den : Int) = d := by
      have a := h2.m.symm.trans hd.m
      have b : dg (q.den : Int).natAbs = dg d.natAbs := W_inj a
      have x := dg_val (q.den : Int).natAbs
      rw [b] at x
      have c : ((q.den : Int).natAbs : Int) = d.natAbs := x.symm.trans (dg_val _)
      have e := h2.s.symm.trans hd.s
      have := decide_eq_decide.1 e
      omega
    subst e1 e2
    refine ⟨by have := q.den_pos; omega, ?_⟩
    have := q.reduced
    unfold Nat.Coprime at this
    unfold Int.gcd
    rw [Int.natAbs_natCast]; exact this
  · rintro ⟨h1, h2⟩
    obtain ⟨q, e1, e2⟩ := rat_of h1 h2
    exact ⟨q, by rw [e1]; exact hn, by rw [e2]; exact hd⟩

theorem CanQ.canI {s t : Bool} {l m : List Int} (h : CanQ s l t m) : Abs.canI s l = true ∧ Abs.canI t m = true := by
  obtain ⟨q, h1, h2⟩ := h
  exact ⟨canI_of h1, canI_of h2⟩
end Go.Abs
end

section
set_option linter.unusedVariables false
set_option linter.unusedSimpArgs false
set_option maxHeartbeats 8000000
set_option linter.unusedVariables false
set_option linter.unusedSimpArgs false
set_option maxRecDepth 100000
namespace Go.Proofs.YtpgbejgdmgpfjaaGreat
open Go Go.Abs Go.Abs.M Go.Proofs


theorem ivalidA_call (s : Bool) (l : List Int) (hl : l.length ≤ 2199023255552) : ACall Tryz.prog 117 [.val (.agg (iT s (W .u32 l)))] ⟨[.val (tb (canI s l))], [none]⟩ := by
  obtain ⟨r, hr⟩ : ∃ r, r = W .u32 l := ⟨_, rfl⟩
  obtain ⟨n, hn⟩ : ∃ n, n = l.length := ⟨_, rfl⟩
  obtain ⟨b, hb⟩ : ∃ b, b = canI s l := ⟨_, rfl⟩
  rw [← hb, ← hr]
  have hz : n = 0 → (!s) = b := fun h => by rw [hb]; unfold canI; rw [if_pos (by omega)]
  have htop : n ≠ 0 → decide (l.getD (n - 1) 0 ≠ 0) = b := fun h => by rw [hb]; unfold canI; rw [if_neg (by omega), hn]
  refine callZ ccOk mixed [.val] Tryz.func117 rfl rfl (by kernel_rfl) fun zwrap zadd zsub zmul zquo zrem zshl zshr zband zbor zbxor zbandn zeq zne zlt zle znot zbeq zbne zmax zmin znat zinb zofN zidx zneq znadd zdif zcut zroom zmkok zlen znth zsetr zisI zgetI zsetI zfit zpart zext zsetg zrep zwide zall zmok zmget zmset zW zth A L F hS hF => ?_
  have hlx : zlen r = n := by rw [hS.len, hr, W_len, hn]
  have e0 : zeq (zofN (zlen r)) 0 = decide (n = 0) := by
    rw [hlx, hS.eq, hS.ofN]
    by_cases h : n = 0
    · rw [decide_eq_true h]; exact decide_eq_true (by omega)
    · rw [decide_eq_false h]; exact decide_eq_false (by omega)
  have e1 : n ≠ 0 → zwrap .i64 (zsub (zofN (zlen r)) 1) = zofN (n - 1) := fun h => by rw [hlx, hS.wrap, hS.sub, hS.ofN, hS.ofN, wrap_i64 (by omega) (by omega)]; omega
  have e2 : zle 0 (zofN (n - 1)) = true := by rw [hS.le, hS.ofN]; exact decide_eq_true (by omega)
  have e3 : znat (zofN (n - 1)) = n - 1 := by rw [hS.nat, hS.ofN]; omega
  have e4 : n ≠ 0 → zisI .u32 r (znat (zofN (n - 1))) = true := fun h => by rw [e3, hS.isI, hr, W_isI]; exact decide_eq_true (by omega)
  have e5 : n ≠ 0 → zne (zgetI r (znat (zofN (n - 1)))) 0 = b := fun h => by rw [e3, hS.ne, hS.getI, hr, W_getI]; exact htop h
  have e6 : znot s = !s := hS.not s
  generalize zofN (n - 1) = top at *
  clear htop hr
  cbv
  refine ⟨fun h => ?_, fun h => ?_⟩
  all_goals rw [e0] at h
  · refine fin1 hF (tv_bool ?_)
    rw [e6]; exact hz (of_decide_eq_true h)
  · have hn := of_decide_eq_false h
    rw [e1 hn]
    refine nd e2 (nd (e4 hn) ?_)
    exact fin1 hF (tv_bool (e5 hn))
theorem rvalidA_call (s : Bool) (l : List Int) (hl : l.length ≤ 2199023255552) : ACall Tryz.prog 121 [.val (.agg (iT s (W .u32 l)))] ⟨[.val (tb (canI s l))], [none]⟩ := by
  obtain ⟨r, hr⟩ : ∃ r, r = W .u32 l := ⟨_, rfl⟩
  obtain ⟨n, hn⟩ : ∃ n, n = l.length := ⟨_, rfl⟩
  obtain ⟨b, hb⟩ : ∃ b, b = canI s l := ⟨_, rfl⟩
  rw [← hb, ← hr]
  have hz : n = 0 → (!s) = b := fun h => by rw [hb]; unfold canI; rw [if_pos (by omega)]
  have htop : n ≠ 0 → decide (l.getD (n - 1) 0 ≠ 0) = b := fun h => by rw [hb]; unfold canI; rw [if_neg (by omega), hn]
  refine callZ ccOk mixed [.val] Tryz.func121 rfl rfl (by kernel_rfl) fun zwrap zadd zsub zmul zquo zrem zshl zshr zband zbor zbxor zbandn zeq zne zlt zle znot zbeq zbne zmax zmin znat zinb zofN zidx zneq znadd zdif zcut zroom zmkok zlen znth zsetr zisI zgetI zsetI zfit zpart zext zsetg zrep zwide zall zmok zmget zmset zW zth A L F hS hF => ?_
  have hlx : zlen r = n := by rw [hS.len, hr, W_len, hn]
  have e0 : zeq (zofN (zlen r)) 0 = decide (n = 0) := by
    rw [hlx, hS.eq, hS.ofN]
    by_cases h : n = 0
    · rw [decide_eq_true h]; exact decide_eq_true (by omega)
    · rw [decide_eq_false h]; exact decide_eq_false (by omega)
  have e1 : n ≠ 0 → zwrap .i64 (zsub (zofN (zlen r)) 1) = zofN (n - 1) := fun h => by rw [hlx, hS.wrap, hS.sub, hS.ofN, hS.ofN, wrap_i64 (by omega) (by omega)]; omega
  have e2 : zle 0 (zofN (n - 1)) = true := by rw [hS.le, hS.ofN]; exact decide_eq_true (by omega)
  have e3 : znat (zofN (n - 1)) = n - 1 := by rw [hS.nat, hS.ofN]; omega
  have e4 : n ≠ 0 → zisI .u32 r (znat (zofN (n - 1))) = true := fun h => by rw [e3, hS.isI, hr, W_isI]; exact decide_eq_true (by omega)
  have e5 : n ≠ 0 → zne (zgetI r (znat (zofN (n - 1)))) 0 = b := fun h => by rw [e3, hS.ne, hS.getI, hr, W_getI]; exact htop h
  have e6 : znot s = !s := hS.not s
  generalize zofN (n - 1) = top at *
  clear htop hr
  cbv
  refine ⟨fun h => ?_, fun h => ?_⟩
  all_goals rw [e0] at h
  · refine fin1 hF (tv_bool ?_)
    rw [e6]; exact hz (of_decide_eq_true h)
  · have hn := of_decide_eq_false h
    rw [e1 hn]
    refine nd e2 (nd (e4 hn) ?_)
    exact fin1 hF (tv_bool (e5 hn))
end Go.Proofs.YtpgbejgdmgpfjaaGreat
end

section
set_option linter.unusedVariables false
set_option linter.unusedSimpArgs false
set_option maxHeartbeats 8000000
set_option linter.unusedVariables false
set_option linter.unusedSimpArgs false
set_option maxRecDepth 100000
namespace Go.Proofs.YtpgbejgdmgpfjaaGreat
open Go Go.Abs Go.Abs.M Go.Proofs

/-- The sizes of a rational number's two integers. -/
def Qs (x : Rat) (k : Nat) : Prop := nl x.num.natAbs ≤ k ∧ nl x.den ≤ k

end Go.Proofs.YtpgbejgdmgpfjaaGreat
end

section
set_option linter.unusedVariables false
set_option linter.unusedSimpArgs false
set_option maxHeartbeats 8000000
set_option linter.unusedVariables false
set_option linter.unusedSimpArgs false
set_option maxRecDepth 100000
namespace Go.Proofs.YtpgbejgdmgpfjaaGreat
open Go Go.Abs Go.Abs.M Go.Proofs

theorem cmp0 (d : Int) : (cmpI d 0 ≤ 0 ↔ d ≤ 0) ∧ (cmpI d 0 < 1 ↔ d ≤ 0) := by
  unfold cmpI
  by_cases h : d < 0
  · rw [if_pos h]; omega
  · rw [if_neg h]; split <;> omega

theorem cmp1 (g : Int) : cmpI g 1 = 0 ↔ g = 1 := by
  unfold cmpI
  by_cases h : g < 1
  · rw [if_pos h]; omega
  · rw [if_neg h]; split <;> omega

theorem dg_one_iff {n : Nat} (h : (dg n).length = 1) : (dg n).getD 0 0 = n := by
  have e := dg_val n
  match hd : dg n, h with
  | [w], _ =>
    rw [hd] at e
    simp [M.val] at e
    simpa using e

theorem qone_call {x : Int} {s : Bool} {r : Abs.Rows} (hx : IsI x s r) : ACall Tryz.prog 119 [.val (.agg (iT s r))] ⟨[.val (tb (decide (x = 1)))], [none]⟩ := by
  obtain ⟨n, hn⟩ : ∃ n, n = nl x.natAbs := ⟨_, rfl⟩
  have hlen : r.length = n := by rw [hn]; exact hx.m.len
  obtain ⟨b, hb⟩ : ∃ b, b = decide (x = 1) := ⟨_, rfl⟩
  rw [← hb]
  have hs1 : s = true → false = b := fun h => by rw [hb]; refine (decide_eq_false ?_).symm; have := hx.s; rw [h] at this; have := of_decide_eq_true this.symm; omega
  have hn1 : n ≠ 1 → false = b := fun h => by
    rw [hb]; refine (decide_eq_false ?_).symm; rintro rfl
    exact h (by rw [hn]; rfl)
  have hg : n = 1 → s = false → decide ((dg x.natAbs).getD 0 0 = 1) = b := fun h h' => by
    rw [dg_one_iff (by rw [← h, hn]; rfl), hb]
    have := hx.s; rw [h'] at this; have := of_decide_eq_false this.symm
    by_cases h1 : x = 1
    · rw [decide_eq_true h1]; exact decide_eq_true (by omega)
    · rw [decide_eq_false h1]; exact decide_eq_false (by omega)
  have hr := hx.m
  unfold IsM at hr
  generalize dg x.natAbs = l at hg hr
  clear hx hb
  refine callZ ccOk mixed [.val] Tryz.func119 rfl rfl (by kernel_rfl) fun zwrap zadd zsub zmul zquo zrem zshl zshr zband zbor zbxor zbandn zeq zne zlt zle znot zbeq zbne zmax zmin znat zinb zofN zidx zneq znadd zdif zcut zroom zmkok zlen znth zsetr zisI zgetI zsetI zfit zpart zext zsetg zrep zwide zall zmok zmget zmset zW zth A L F hS hF => ?_
  have e0 : znot s = !s := hS.not s
  have e1 : zeq (zofN (zlen r)) 1 = decide (n = 1) := by
    rw [hS.len, hlen, hS.eq, hS.ofN]
    by_cases h : n = 1
    · rw [decide_eq_true h]; exact decide_eq_true (by omega)
    · rw [decide_eq_false h]; exact decide_eq_false (by omega)
  have e2 : zle 0 0 = true := by rw [hS.le]; rfl
  have e3 : n = 1 → zisI .u32 r (znat 0) = true := fun h => by rw [hS.nat, hS.isI, hr, W_isI]; rw [hr, W_len] at hlen; exact decide_eq_true (by simp; omega)
  have e4 : n = 1 → s = false → zeq (zgetI r (znat 0)) 1 = b := fun h h' => by rw [hS.nat, hS.eq, hS.getI, hr, W_getI]; exact hg h h'
  clear hg hr hlen
  cbv
  refine ⟨fun h => ⟨fun h' => ?_, fun h' => ?_⟩, fun h => ?_⟩
  all_goals rw [e0] at h
  · rw [e1] at h'
    have h' := of_decide_eq_true h'
    exact nd e2 (nd (e3 h') (fin1 hF (tv_bool (e4 h' (by simpa using h)))))
  · rw [e1] at h'
    exact fin1 hF (tv_bool (hn1 (of_decide_eq_false h')))
  · exact fin1 hF (tv_bool (hs1 (by simpa using h)))

/-- What a Bool says of two cells' lists. -/
theorem canQ_cases {s t : Bool} {l m : List Int} {b : Bool} (hl : Wd l) (hm : Wd m) (hb : b = true ↔ CanQ s l t m) :
    (canI s l = false ∧ b = false) ∨ (canI s l = true ∧ canI t m = false ∧ b = false) ∨
    (canI s l = true ∧ canI t m = true ∧ ∃ n d : Int, IsI n s (W .u32 l) ∧ IsI d t (W .u32 m) ∧ nl n.natAbs = l.length ∧ nl d.natAbs = m.length ∧ (b = true ↔ 0 < d ∧ Int.gcd n d = 1)) := by
  have hbf : ¬ CanQ s l t m → b = false := fun h => by
    cases b with
    | false => rfl
    | true => exact absurd (hb.1 rfl) h
  cases h1 : canI s l with
  | false => exact .inl ⟨rfl, hbf fun h => by rw [h.canI.1] at h1; cases h1⟩
  | true =>
    cases h2 : canI t m with
    | false => exact .inr (.inl ⟨rfl, rfl, hbf fun h => by rw [h.canI.2] at h2; cases h2⟩)
    | true =>
      obtain ⟨n, hn, n1⟩ := canI_ex hl h1
      obtain ⟨d, hd, d1⟩ := canI_ex hm h2
      exact .inr (.inr ⟨rfl, rfl, n, d, hn, hd, n1, d1, hb.trans (CanQ.iff hn hd)⟩)

theorem qvalid_call {s t : Bool} {l m : List Int} (b : Bool) (hb : b = true ↔ CanQ s l t m) (hl : Wd l) (hm : Wd m) (l1 : l.length ≤ 274877906944) (m1 : m.length ≤ 274877906944) :
    ACall Tryz.prog 69 [.val (.agg (iT s (W .u32 l) ++ iT t (W .u32 m)))] ⟨[.val (tb b)], [none]⟩ := by
  have c1 := ivalidA_call s l (by omega)
  have c2 := ivalidA_call t m (by omega)
  rcases canQ_cases hl hm hb with ⟨h1, h2⟩ | ⟨h1, h2, h3⟩ | ⟨h1, h2, n, d, hn, hd, n1, d1, hbd⟩
  · rw [h1] at c1
    subst h2
    generalize W .u32 l = r at *
    generalize W .u32 m = q at *
    refine callZ ccOk mixed [.val] Tryz.func69 rfl rfl (by kernel_rfl) fun zwrap zadd zsub zmul zquo zrem zshl zshr zband zbor zbxor zbandn zeq zne zlt zle znot zbeq zbne zmax zmin znat zinb zofN zidx zneq znadd zdif zcut zroom zmkok zlen znth zsetr zisI zgetI zsetI zfit zpart zext zsetg zrep zwide zall zmok zmget zmset zW zth A L F hS hF => ?_
    have e1 : znot false = true := hS.not false
    cbv
    refine ⟨_, hS.call (c1), ?_⟩
    cbv
    refine bT (e1) ?_
    exact hF _ (ResLe.refl _)
  · rw [h1] at c1
    rw [h2] at c2
    subst h3
    generalize W .u32 l = r at *
    generalize W .u32 m = q at *
    refine callZ ccOk mixed [.val] Tryz.func69 rfl rfl (by kernel_rfl) fun zwrap zadd zsub zmul zquo zrem zshl zshr zband zbor zbxor zbandn zeq zne zlt zle znot zbeq zbne zmax zmin znat zinb zofN zidx zneq znadd zdif zcut zroom zmkok zlen znth zsetr zisI zgetI zsetI zfit zpart zext zsetg zrep zwide zall zmok zmget zmset zW zth A L F hS hF => ?_
    have e1 : znot false = true := hS.not false
    have e2 : znot true = false := hS.not true
    cbv
    refine ⟨_, hS.call (c1), ?_⟩
    cbv
    refine bF (e2) ?_
    refine ⟨_, hS.call (c2), ?_⟩
    cbv
    refine bT (e1) ?_
    exact hF _ (ResLe.refl _)
  · rw [h1] at c1
    rw [h2] at c2
    have c3 := isign_call (cmpI d 0) hd rfl
    have c4 := qone_call hd
    obtain ⟨w, hw, c5⟩ := igcd_call hn hd (by omega) (by omega)
    have c6 := qone_call hw
    have k1 := (cmp0 d).1
    generalize cmpI d 0 = c at *
    obtain ⟨g, hg⟩ : ∃ g, g = decide ((Int.gcd n d : Int) = 1) := ⟨_, rfl⟩
    obtain ⟨o, ho⟩ : ∃ o, o = decide (d = 1) := ⟨_, rfl⟩
    rw [← hg] at c6
    rw [← ho] at c4
    have f1 : d ≤ 0 → false = b := fun h => by
      cases b with
      | false => rfl
      | true => have := (hbd.1 rfl).1; omega
    have f2 : 0 < d → o = true → true = b := fun h h' => by
      rw [ho] at h'
      have := of_decide_eq_true h'
      exact (hbd.2 ⟨h, by rw [this]; simp [Int.gcd]⟩).symm
    have f3 : 0 < d → g = b := fun h => by
      rw [hg]
      cases b with
      | false => exact decide_eq_false fun e => absurd (hbd.2 ⟨h, by omega⟩) (by simp)
      | true => exact decide_eq_true (by have := (hbd.1 rfl).2; omega)
    clear hg ho hbd hn hd hw
    generalize W .u32 l = r at *
    generalize W .u32 m = q at *
    refine callZ ccOk mixed [.val] Tryz.func69 rfl rfl (by kernel_rfl) fun zwrap zadd zsub zmul zquo zrem zshl zshr zband zbor zbxor zbandn zeq zne zlt zle znot zbeq zbne zmax zmin znat zinb zofN zidx zneq znadd zdif zcut zroom zmkok zlen znth zsetr zisI zgetI zsetI zfit zpart zext zsetg zrep zwide zall zmok zmget zmset zW zth A L F hS hF => ?_
    have e2 : znot true = false := hS.not true
    have e3 : zle c 0 = decide (c ≤ 0) := hS.le ..
    cbv
    refine ⟨_, hS.call (c1), ?_⟩
    cbv
    refine bF (e2) ?_
    refine ⟨_, hS.call (c2), ?_⟩
    cbv
    refine bF (e2) ?_
    refine ⟨_, hS.call (c3), ?_⟩
    cbv
    refine ⟨fun h => ?_, fun h => ?_⟩
    all_goals rw [e3] at h
    · exact fin1 hF (tv_bool (f1 (k1.1 (of_decide_eq_true h))))
    · have h := of_decide_eq_false h
      refine ⟨_, hS.call (c4), ?_⟩
      cbv
      refine ⟨fun h' => ?_, fun h' => ?_⟩
      · exact fin1 hF (tv_bool (f2 (by omega) h'))
      · have z := h'
        refine ⟨_, hS.call (c5), ?_⟩
        cbv
        refine ⟨_, hS.call (c6), ?_⟩
        cbv
        exact fin1 hF (tv_bool (f3 (by omega)))

theorem rqvalid_call {s t : Bool} {l m : List Int} (b : Bool) (hb : b = true ↔ CanQ s l t m) (hl : Wd l) (hm : Wd m) (l1 : l.length ≤ 274877906944) (m1 : m.length ≤ 274877906944) :
    ACall Tryz.prog 70 [.val (.agg (iT s (W .u32 l) ++ iT t (W .u32 m)))] ⟨[.val (tb b)], [none]⟩ := by
  have c1 := rvalidA_call s l (by omega)
  have c2 := rvalidA_call t m (by omega)
  rcases canQ_cases hl hm hb with ⟨h1, h2⟩ | ⟨h1, h2, h3⟩ | ⟨h1, h2, n, d, hn, hd, n1, d1, hbd⟩
  · rw [h1] at c1
    subst h2
    generalize W .u32 l = r at *
    generalize W .u32 m = q at *
    refine callZ ccOk mixed [.val] Tryz.func70 rfl rfl (by kernel_rfl) fun zwrap zadd zsub zmul zquo zrem zshl zshr zband zbor zbxor zbandn zeq zne zlt zle znot zbeq zbne zmax zmin znat zinb zofN zidx zneq znadd zdif zcut zroom zmkok zlen znth zsetr zisI zgetI zsetI zfit zpart zext zsetg zrep zwide zall zmok zmget zmset zW zth A L F hS hF => ?_
    have e1 : znot false = true := hS.not false
    cbv
    refine ⟨_, hS.call (c1), ?_⟩
    cbv
    refine bT (e1) ?_
    exact hF _ (ResLe.refl _)
  · rw [h1] at c1
    rw [h2] at c2
    subst h3
    generalize W .u32 l = r at *
    generalize W .u32 m = q at *
    refine callZ ccOk mixed [.val] Tryz.func70 rfl rfl (by kernel_rfl) fun zwrap zadd zsub zmul zquo zrem zshl zshr zband zbor zbxor zbandn zeq zne zlt zle znot zbeq zbne zmax zmin znat zinb zofN zidx zneq znadd zdif zcut zroom zmkok zlen znth zsetr zisI zgetI zsetI zfit zpart zext zsetg zrep zwide zall zmok zmget zmset zW zth A L F hS hF => ?_
    have e1 : znot false = true := hS.not false
    have e2 : znot true = false := hS.not true
    cbv
    refine ⟨_, hS.call (c1), ?_⟩
    cbv
    refine bF (e2) ?_
    refine ⟨_, hS.call (c2), ?_⟩
    cbv
    refine bT (e1) ?_
    exact hF _ (ResLe.refl _)
  · rw [h1] at c1
    rw [h2] at c2
    have c3 := rsign_call (cmpI d 0) hd rfl
    obtain ⟨w, hw, c5⟩ := rgcd_call hn hd (by omega) (by omega)
    obtain ⟨u, v, ho, c6⟩ := rof_call 1 (by omega) (by omega)
    have hgl : nl (Int.gcd n d : Int).natAbs ≤ 2199023255552 := by
      rw [Int.natAbs_natCast]
      by_cases h : n = 0
      · subst h
        have : Int.gcd 0 d = d.natAbs := by simp [Int.gcd]
        rw [this]; omega
      · have : Int.gcd n d ≤ n.natAbs := Nat.gcd_le_left _ (by omega)
        have := nl_mono this
        omega
    have c7 := rcmp_call (cmpI (Int.gcd n d : Int) 1) hw ho rfl hgl (Nat.le_trans (nl_le_of (k := 1) (by omega)) (by omega))
    have k1 := (cmp0 d).2
    have k2 := cmp1 (Int.gcd n d : Int)
    have f1 : d ≤ 0 → false = b := fun h => by
      cases b with
      | false => rfl
      | true => have := (hbd.1 rfl).1; omega
    have f3 : 0 < d → decide (cmpI (Int.gcd n d : Int) 1 = 0) = b := fun h => by
      cases b with
      | false => exact decide_eq_false fun e => absurd (hbd.2 ⟨h, by have := k2.1 e; omega⟩) (by simp)
      | true => exact decide_eq_true (k2.2 (by have := (hbd.1 rfl).2; omega))
    generalize cmpI d 0 = c at *
    generalize cmpI (Int.gcd n d : Int) 1 = k at *
    clear hbd hn hd hw ho k2
    generalize W .u32 l = r at *
    generalize W .u32 m = q at *
    refine callZ ccOk mixed [.val] Tryz.func70 rfl rfl (by kernel_rfl) fun zwrap zadd zsub zmul zquo zrem zshl zshr zband zbor zbxor zbandn zeq zne zlt zle znot zbeq zbne zmax zmin znat zinb zofN zidx zneq znadd zdif zcut zroom zmkok zlen znth zsetr zisI zgetI zsetI zfit zpart zext zsetg zrep zwide zall zmok zmget zmset zW zth A L F hS hF => ?_
    have e2 : znot true = false := hS.not true
    have e3 : zlt c 1 = decide (c < 1) := hS.lt ..
    have e4 : zeq k 0 = decide (k = 0) := hS.eq ..
    cbv
    refine ⟨_, hS.call (c1), ?_⟩
    cbv
    refine bF (e2) ?_
    refine ⟨_, hS.call (c2), ?_⟩
    cbv
    refine bF (e2) ?_
    refine ⟨_, hS.call (c3), ?_⟩
    cbv
    refine ⟨fun h => ?_, fun h => ?_⟩
    all_goals rw [e3] at h
    · exact fin1 hF (tv_bool (f1 (k1.1 (of_decide_eq_true h))))
    · have h := of_decide_eq_false h
      refine ⟨_, hS.call (c5), ?_⟩
      cbv
      refine ⟨_, hS.call (c6), ?_⟩
      cbv
      refine ⟨_, hS.call (c7), ?_⟩
      cbv
      exact fin1 hF (tv_bool (e4.trans (f3 (by omega))))
end Go.Proofs.YtpgbejgdmgpfjaaGreat
end

section
set_option linter.unusedVariables false
set_option linter.unusedSimpArgs false
/-
  Polynomials in one variable, cell by cell: coefficients that may be canonical numbers or not.
-/
set_option linter.unusedVariables false
namespace Go.Abs
open Go.Abs.M

/-- The cells of a number: sign and words of the numerator, sign and words of the denominator. -/
structure QC where
  s : Bool
  l : List Int
  t : Bool
  m : List Int

def QC.row (c : QC) : List Tree := iT c.s (W .u32 c.l) ++ iT c.t (W .u32 c.m)
def QC.can (c : QC) : Prop := CanQ c.s c.l c.t c.m
structure QC.ok (c : QC) (k : Nat) : Prop where
  l : Wd c.l
  m : Wd c.m
  ll : c.l.length ≤ k
  lm : c.m.length ≤ k

def qrows (cs : List QC) : Rows := cs.map QC.row

theorem bool_ex (p : Prop) : ∃ b : Bool, b = true ↔ p := by
  rcases Classical.em p with h | h
  · exact ⟨true, fun _ => h, fun _ => rfl⟩
  · exact ⟨false, fun h' => (by cases h'), fun h' => absurd h' h⟩
end Go.Abs

namespace Go.Abs
open Go.Abs.M
/-- The cells of a rational number. -/
def qc (q : Rat) : QC := ⟨decide (q.num < 0), dg q.num.natAbs, decide ((q.den : Int) < 0), dg (q.den : Int).natAbs⟩

/-- A polynomial's rows. -/
def ur (P : List Rat) : Rows := qrows (P.map qc)
end Go.Abs

namespace Go.Abs
end Go.Abs

namespace Go.Abs
end Go.Abs
end

section
set_option linter.unusedVariables false
set_option linter.unusedSimpArgs false
set_option maxHeartbeats 8000000
set_option linter.unusedVariables false
set_option linter.unusedSimpArgs false
set_option maxRecDepth 100000
namespace Go.Proofs.YtpgbejgdmgpfjaaGreat
open Go Go.Abs Go.Abs.M Go.Proofs

def proSt (R : Abs.Rows) (ps : Bool) (pr : Abs.Rows) (N i : Int) : St := mkSt 25 [.c (.t (.lst false R)), .junk, .c (.ptr 1 0 0), .c (.ptr 4 0 0), .junk, .junk, .junk, .c (.t (.lst false R)), vi .i64 N, vi .i64 i] [none, some (.var [.t (.v (.bool false)), .t (.lst true [])]), none, none, some (.var [.t (.v (.bool ps)), .t (.lst false pr)])]

theorem qone_ex {x : Int} {s : Bool} {r : Abs.Rows} (hx : IsI x s r) : ∃ b : Bool, (b = true ↔ x = 1) ∧ ACall Tryz.prog 119 [.val (.agg (iT s r))] ⟨[.val (tb b)], [none]⟩ := ⟨decide (x = 1), by simp, qone_call hx⟩


theorem pproduct_call {x y : Int} {s t : Bool} {r q : Abs.Rows} (hx : IsI x s r) (hy : IsI y t q) (h1 : nl x.natAbs ≤ 274877906944) (h2 : nl y.natAbs ≤ 274877906944) :
    ∃ u w, IsI (x * y) u w ∧ ACall Tryz.prog 115 [.val (tl [iT s r, iT t q])] ⟨[.val (.agg (iT u w))], [none]⟩ := by
  obtain ⟨u, w, h⟩ : ∃ u w, IsI (x * y) u w := ⟨_, _, .mk' _⟩
  obtain ⟨a, b, ho, co⟩ := iof_call 1 (by omega) (by omega)
  have n1 : nl (1 : Int).natAbs ≤ 274877906944 := Nat.le_trans (nl_le_of (k := 1) (by omega)) (by omega)
  refine ⟨u, w, h, ?_⟩
  obtain ⟨R, hR⟩ : ∃ R, R = ([[.v (.bool s), .lst false r], [.v (.bool t), .lst false q]] : Abs.Rows) := ⟨_, rfl⟩
  rw [show ([iT s r, iT t q] : Abs.Rows) = R from hR.symm]
  refine callZ ccOk mixed [.val] Tryz.func115 rfl rfl (by kernel_rfl) fun zwrap zadd zsub zmul zquo zrem zshl zshr zband zbor zbxor zbandn zeq zne zlt zle znot zbeq zbne zmax zmin znat zinb zofN zidx zneq znadd zdif zcut zroom zmkok zlen znth zsetr zisI zgetI zsetI zfit zpart zext zsetg zrep zwide zall zmok zmget zmset zW zth A L F hS hF => ?_
  obtain ⟨N, hN, hN2⟩ : ∃ N : Int, N = 2 ∧ zofN (zlen R) = N := ⟨_, rfl, by rw [hS.len, hS.ofN, hR]; rfl⟩
  have hz0 : znth R (znat 0) = some [.v (.bool s), .lst false r] := by rw [hS.nat, hS.nth, hR]; rfl
  have hz1 : znth R (znat 1) = some [.v (.bool t), .lst false q] := by rw [hS.nat, hS.nth, hR]; rfl
  clear hR
  cbv
  refine ⟨_, hS.call (co), ?_⟩
  cbv
  refine loopZ ccOk mixed hS (fun (m : Nat) s' => ∃ (ps : Bool) (pr : Abs.Rows), (m = 2 ∧ IsI 1 ps pr ∧ s' = proSt R ps pr N 0) ∨ (m = 1 ∧ IsI x ps pr ∧ s' = proSt R ps pr N 1) ∨ (m = 0 ∧ IsI (x * y) ps pr ∧ s' = proSt R ps pr N 2)) (n := 2) (s0 := proSt R a b N 0) (le_of ?_ ?_) rfl (by show 1 ≤ 5; omega) ?_ ?_
  · simp [leT, proSt, mkSt, vi, hN2]
  · simp [leH, proSt, mkSt]
  · exact ⟨a, b, .inl ⟨rfl, ho, rfl⟩⟩
  · rintro m s1 ⟨ps, pr, ⟨hm0, hp, hs1⟩ | ⟨hm0, hp, hs1⟩ | ⟨hm0, hp, hs1⟩⟩
    · have hmm : m - 1 < m := by omega
      have nxt : ∀ us ur, IsI (1 * x) us ur → ∃ (ps : Bool) (pr : Abs.Rows), (m - 1 = 2 ∧ IsI 1 ps pr ∧ proSt R us ur N 1 = proSt R ps pr N 0) ∨ (m - 1 = 1 ∧ IsI x ps pr ∧ proSt R us ur N 1 = proSt R ps pr N 1) ∨ (m - 1 = 0 ∧ IsI (x * y) ps pr ∧ proSt R us ur N 1 = proSt R ps pr N 2) := fun us ur hu =>
        ⟨us, ur, .inr (.inl ⟨by omega, hu.of (Int.one_mul x), rfl⟩)⟩
      have k1 : zlt 0 N = true := by rw [hS.lt]; exact decide_eq_true (by omega)
      have g0 : zle 0 0 = true := by rw [hS.le]; rfl
      obtain ⟨b1, hb1, c1⟩ := qone_ex hx
      obtain ⟨b2, hb2, c2⟩ := qone_ex hp
      obtain ⟨mu, mw, hm, c3⟩ := imul_call hp hx (by omega) (by omega)
      have ii : zwrap .i64 (zadd 0 1) = 1 := by rw [hS.add, hS.wrap]; rfl
      cases b1 with
      | true =>
        have h1 := hb1.1 rfl
        have hnx := nxt ps pr (hp.of (by rw [h1, Int.mul_one]))
        subst hs1
        cbv
        refine bT k1 ?_
        rw [hz0]
        cbv
        refine nd (g0) ?_
        refine ⟨_, hS.call (c1), ?_⟩
        cbv
        refine bT ((rfl : true = true)) ?_
        exact again (s' := proSt R ps pr N 1) (m := m - 1) (by simp [leT, proSt, mkSt, vi, ii]) (by simp [leH, proSt, mkSt]) rfl (by show 1 ≤ 5; omega) hmm hnx
      | false =>
        cases b2 with
        | true =>
          have h2 := hb2.1 rfl
          have hnx := nxt s r (hx.of (by rw [h2, Int.one_mul]))
          subst hs1
          cbv
          refine bT k1 ?_
          rw [hz0]
          cbv
          refine nd (g0) ?_
          refine ⟨_, hS.call (c1), ?_⟩
          cbv
          refine bF ((rfl : false = false)) ?_
          refine ⟨_, hS.call (c2), ?_⟩
          cbv
          refine bT ((rfl : true = true)) ?_
          exact again (s' := proSt R s r N 1) (m := m - 1) (by simp [leT, proSt, mkSt, vi, ii]) (by simp [leH, proSt, mkSt]) rfl (by show 1 ≤ 5; omega) hmm hnx
        | false =>
          have hnx := nxt mu mw hm
          subst hs1
          cbv
          refine bT k1 ?_
          rw [hz0]
          cbv
          refine nd (g0) ?_
          refine ⟨_, hS.call (c1), ?_⟩
          cbv
          refine bF ((rfl : false = false)) ?_
          refine ⟨_, hS.call (c2), ?_⟩
          cbv
          refine bF ((rfl : false = false)) ?_
          refine ⟨_, hS.call (c3), ?_⟩
          cbv
          exact again (s' := proSt R mu mw N 1) (m := m - 1) (by simp [leT, proSt, mkSt, vi, ii]) (by simp [leH, proSt, mkSt]) rfl (by show 1 ≤ 5; omega) hmm hnx
    · have hmm : m - 1 < m := by omega
      have nxt : ∀ us ur, IsI (x * y) us ur → ∃ (ps : Bool) (pr : Abs.Rows), (m - 1 = 2 ∧ IsI 1 ps pr ∧ proSt R us ur N 2 = proSt R ps pr N 0) ∨ (m - 1 = 1 ∧ IsI x ps pr ∧ proSt R us ur N 2 = proSt R ps pr N 1) ∨ (m - 1 = 0 ∧ IsI (x * y) ps pr ∧ proSt R us ur N 2 = proSt R ps pr N 2) := fun us ur hu =>
        ⟨us, ur, .inr (.inr ⟨by omega, hu, rfl⟩)⟩
      have k1 : zlt 1 N = true := by rw [hS.lt]; exact decide_eq_true (by omega)
      have g0 : zle 0 1 = true := by rw [hS.le]; rfl
      obtain ⟨b1, hb1, c1⟩ := qone_ex hy
      obtain ⟨b2, hb2, c2⟩ := qone_ex hp
      obtain ⟨mu, mw, hm, c3⟩ := imul_call hp hy (by omega) (by omega)
      have ii : zwrap .i64 (zadd 1 1) = 2 := by rw [hS.add, hS.wrap]; rfl
      cases b1 with
      | true =>
        have h1 := hb1.1 rfl
        have hnx := nxt ps pr (hp.of (by rw [h1, Int.mul_one]))
        subst hs1
        cbv
        refine bT k1 ?_
        rw [hz1]
        cbv
        refine nd (g0) ?_
        refine ⟨_, hS.call (c1), ?_⟩
        cbv
        refine bT ((rfl : true = true)) ?_
        exact again (s' := proSt R ps pr N 2) (m := m - 1) (by simp [leT, proSt, mkSt, vi, ii]) (by simp [leH, proSt, mkSt]) rfl (by show 1 ≤ 5; omega) hmm hnx
      | false =>
        cases b2 with
        | true =>
          have h2 := hb2.1 rfl
          have hnx := nxt t q (hy.of (by rw [h2, Int.one_mul]))
          subst hs1
          cbv
          refine bT k1 ?_
          rw [hz1]
          cbv
          refine nd (g0) ?_
          refine ⟨_, hS.call (c1), ?_⟩
          cbv
          refine bF ((rfl : false = false)) ?_
          refine ⟨_, hS.call (c2), ?_⟩
          cbv
          refine bT ((rfl : true = true)) ?_
          exact again (s' := proSt R t q N 2) (m := m - 1) (by simp [leT, proSt, mkSt, vi, ii]) (by simp [leH, proSt, mkSt]) rfl (by show 1 ≤ 5; omega) hmm hnx
        | false =>
          have hnx := nxt mu mw hm
          subst hs1
          cbv
          refine bT k1 ?_
          rw [hz1]
          cbv
          refine nd (g0) ?_
          refine ⟨_, hS.call (c1), ?_⟩
          cbv
          refine bF ((rfl : false = false)) ?_
          refine ⟨_, hS.call (c2), ?_⟩
          cbv
          refine bF ((rfl : false = false)) ?_
          refine ⟨_, hS.call (c3), ?_⟩
          cbv
          exact again (s' := proSt R mu mw N 2) (m := m - 1) (by simp [leT, proSt, mkSt, vi, ii]) (by simp [leH, proSt, mkSt]) rfl (by show 1 ≤ 5; omega) hmm hnx
    · have k1 : zlt 2 N = false := by rw [hS.lt]; exact decide_eq_false (by omega)
      obtain ⟨e1, e2⟩ := hp.inj h
      subst e1 e2
      subst hs1
      cbv
      refine bF (k1) ?_
      exact hF _ (ResLe.refl _)
end Go.Proofs.YtpgbejgdmgpfjaaGreat
end

section
set_option linter.unusedVariables false
set_option linter.unusedSimpArgs false
set_option maxHeartbeats 8000000
set_option linter.unusedVariables false
set_option linter.unusedSimpArgs false
set_option maxRecDepth 100000
namespace Go.Proofs.YtpgbejgdmgpfjaaGreat
open Go Go.Abs Go.Abs.M Go.Proofs

def madeN (n k : Int) : Int := if k % 8 = 7 then n * (4611686018427387904 + k) * (4611686018427387904 + k) + k else n
def madeD (d k : Int) : Int := if k % 8 = 6 then (if d = 0 then 1 else d) * (4611686018427387904 + k) * (4611686018427387904 + k) else if d = 0 then 1 else d
def madeQ (n d k : Int) : Rat := Rat.divInt (madeN n k) (madeD d k)

end Go.Proofs.YtpgbejgdmgpfjaaGreat
end

section
set_option linter.unusedVariables false
set_option linter.unusedSimpArgs false
set_option maxHeartbeats 8000000
set_option linter.unusedVariables false
set_option linter.unusedSimpArgs false
set_option maxRecDepth 100000
namespace Go.Proofs.YtpgbejgdmgpfjaaGreat
open Go Go.Abs Go.Abs.M Go.Proofs

theorem Qs.mono {x : Rat} {a b : Nat} (h : Qs x a) (hab : a ≤ b) : Qs x b := ⟨Nat.le_trans h.1 hab, Nat.le_trans h.2 hab⟩

end Go.Proofs.YtpgbejgdmgpfjaaGreat
end

section
set_option linter.unusedVariables false
set_option linter.unusedSimpArgs false
set_option maxHeartbeats 8000000
set_option linter.unusedVariables false
set_option linter.unusedSimpArgs false
set_option maxRecDepth 100000
namespace Go.Proofs.YtpgbejgdmgpfjaaGreat
open Go Go.Abs Go.Abs.M Go.Proofs

end Go.Proofs.YtpgbejgdmgpfjaaGreat
end

section
set_option linter.unusedVariables false
set_option linter.unusedSimpArgs false
/-
  The abstract layer: a loop whose rounds end in a frame with other numbers of blocks. A frame's blocks have no names of their own.
-/
set_option linter.unusedSimpArgs false
set_option linter.unusedVariables false
namespace Go.Abs

def Cell.ren (ρ : Nat → Nat) : Cell → Cell
  | .t x => .t x
  | .ptr b r c => .ptr (ρ b) r c
  | .tp row c => .tp row c
  | .sl b off len cp => .sl (ρ b) off len cp
  | .mp b => .mp (ρ b)
  | .clo f caps => .clo f (caps.map fun p => (ρ p.1, p.2))

def AV.ren (ρ : Nat → Nat) : AV → AV
  | .c x => .c (x.ren ρ)
  | .agg l => .agg (l.map (Cell.ren ρ))
  | .tup l => .tup l
  | .junk => .junk

def AV.noTup : AV → Prop
  | .tup _ => False
  | _ => True

def Blk.ren (ρ : Nat → Nat) : Blk → Blk
  | .var cells => .var (cells.map (Cell.ren ρ))
  | .rows sz l g fz => .rows sz l g fz
  | .map ents => .map ents
  | .old sz l => .old sz l

/-- A frame that says less, under other numbers. -/
structure St.LeR (n0 : Nat) (ρ : Nat → Nat) (s s' : St) : Prop where
  len : s'.tmps.length = s.tmps.length
  tmps : ∀ (i : Nat) (x : AV), s'.tmps[i]? = some x → x = .junk ∨ x.noTup ∧ s.tmps[i]? = some (x.ren ρ)
  heap : ∀ b blk, look s'.heap b = some blk → look s.heap (ρ b) = some (blk.ren ρ)
  inj : ∀ b b' blk blk', look s'.heap b = some blk → look s'.heap b' = some blk' → ρ b = ρ b' → b = b'
  fix : ∀ b, b < n0 → ρ b = b

section
variable {β : Nat → Option Reg} {S : Place} {w : World} {n : Nat} {ρ : Nat → Nat}

theorem CRep.ren {c : Cell} {v : Value} (h : CRep β S w (c.ren ρ) v) (hb : c.refsLt n = true) : CRep (fun b => if b < n then β (ρ b) else none) S w c v := by
  cases c with
  | t x => cases h with | t h => exact .t h
  | ptr b r c => cases h with | ptr R h => exact .ptr R (by simp only [Cell.refsLt, decide_eq_true_eq] at hb; rw [if_pos hb]; exact h)
  | tp row c => cases h with | tp cb co val h => exact .tp cb co val h
  | sl b off len cp => cases h with | sl R base cap h h1 h2 h3 h4 h5 => exact .sl R base cap (by simp only [Cell.refsLt, decide_eq_true_eq] at hb; rw [if_pos hb]; exact h) h1 h2 h3 h4 h5
  | mp b => cases h with | mp R h => exact .mp R (by simp only [Cell.refsLt, decide_eq_true_eq] at hb; rw [if_pos hb]; exact h)
  | clo f caps =>
    cases h with
    | clo vs h1 h2 =>
      refine .clo vs (by rw [h1, List.length_map]) fun i b r c hi => ?_
      obtain ⟨R, e1, e2⟩ := h2 i (ρ b) r c (by rw [List.getElem?_map, hi]; rfl)
      have := List.all_eq_true.1 hb _ (List.mem_of_getElem? hi)
      exact ⟨R, by rw [if_pos (by simpa using this)]; exact e1, e2⟩

theorem VRep.ren {x : AV} {v : Value} (h : VRep β S w (x.ren ρ) v) (ht : x.noTup) (hb : x.refsLt n = true) : VRep (fun b => if b < n then β (ρ b) else none) S w x v := by
  cases x with
  | c x => cases h with | c h => exact .c (h.ren (by simpa [AV.refsLt] using hb))
  | agg l =>
    cases h with
    | agg vs h1 h2 =>
      refine .agg vs (by rw [h1, List.length_map]) fun i c hi => ?_
      obtain ⟨v, e1, e2⟩ := h2 i (c.ren ρ) (by rw [List.getElem?_map, hi]; rfl)
      simp only [AV.refsLt] at hb
      exact ⟨v, e1, e2.ren (List.all_eq_true.1 hb c (List.mem_of_getElem? hi))⟩
  | tup l => exact ht.elim
  | junk => exact .junk v

theorem Blk.ren_ext {blk : Blk} {R : Reg} : (blk.ren ρ).ext R = blk.ext R := by
  cases blk <;> (funext b o; simp [Blk.ren, Blk.ext])

theorem Blk.ren_wr {blk : Blk} {R : Reg} : (blk.ren ρ).wr R = blk.wr R := by
  cases blk <;> (funext b o; simp [Blk.ren, Blk.wr])

theorem Sat.ren {K : Ctx} {n0 : Nat} {s s' : St} {a : Act} (h : Sat K β S s a w) (hl : s.LeR n0 ρ s') (hb : s'.refsLt = true) (hn : ∀ i R, K.β0 i = some R → i < n0) (hk : n0 ≤ s'.heap.length) :
    Sat K (fun b => if b < s'.heap.length then β (ρ b) else none) S s' a w := by
  simp only [St.refsLt, Bool.and_eq_true] at hb
  refine ⟨by rw [hl.len]; exact h.len, h.defers, fun t x ht => ?_, fun b R hR => ?_, fun b blk hbk => ?_, fun b b' blk blk' R R' hne h1 h2 hR hR' => ?_, h.sex, h.sin, h.sub, h.keep, fun i R hi => by
    rw [if_pos (Nat.lt_of_lt_of_le (hn i R hi) hk), hl.fix i (hn i R hi)]; exact h.arg i R hi⟩
  · rcases hl.tmps t x ht with rfl | ⟨h1, hx⟩
    · exact .junk _
    · exact (h.tmps t _ hx).ren h1 (List.all_eq_true.1 hb.1 x (List.mem_of_getElem? ht))
  · split at hR
    · assumption
    · cases hR
  · obtain ⟨R, e1, e2, e3, e4⟩ := h.blk _ _ (hl.heap b blk hbk)
    have hlt := look_lt hbk
    rw [Blk.ren_ext] at e3
    rw [Blk.ren_wr] at e4
    refine ⟨R, by rw [if_pos hlt]; exact e1, ?_, e3, e4⟩
    cases blk with
    | var cells =>
      simp only [Blk.ren, BlkOk, List.length_map] at e2
      refine ⟨e2.1, fun j c hj => ?_⟩
      obtain ⟨v, f1, f2⟩ := e2.2 j (c.ren ρ) (by rw [List.getElem?_map, hj]; rfl)
      have hm : some (Blk.var cells) ∈ s'.heap := by
        unfold look at hbk
        cases hx : s'.heap[b]? with
        | none => rw [hx] at hbk; cases hbk
        | some y => rw [hx] at hbk; simp at hbk; subst hbk; exact List.mem_of_getElem? hx
      have := List.all_eq_true.1 hb.2 _ hm
      simp only [Blk.refsLt] at this
      exact ⟨v, f1, f2.ren (List.all_eq_true.1 this c (List.mem_of_getElem? hj))⟩
    | rows sz rows g fz => exact e2
    | map ents => exact e2
    | old sz rows => exact e2
  · have l1 := look_lt h1
    have l2 := look_lt h2
    rw [if_pos l1] at hR
    rw [if_pos l2] at hR'
    have := h.dis (ρ b) (ρ b') _ _ R R' (fun e => hne (hl.inj b b' _ _ h1 h2 e)) (hl.heap _ _ h1) (hl.heap _ _ h2) hR hR'
    rw [Blk.ren_ext, Blk.ren_ext] at this
    exact this
end

theorem ARun.postRen {P : Program} {n0 : Nat} {c : Code} {st : St} {Q : AExit → St → Prop} (h : ARun P n0 c st fun e s => Q e s ∨ ∃ ρ s', s.LeR n0 ρ s' ∧ s'.refsLt = true ∧ n0 ≤ s'.heap.length ∧ Q e s') : ARun P n0 c st Q := fun K hn β S a w hs =>
  wp_mono (h K hn β S a w hs) fun e a' w' ⟨x, s, h1, h2, β', S', h5⟩ => by
    rcases h2 with h2 | ⟨ρ, s', h2, h3, hk, h4⟩
    · exact ⟨x, s, h1, h2, β', S', h5⟩
    · exact ⟨x, s', h1, h4, _, S', h5.ren h2 h3 hn hk⟩

theorem LoopP.introR {P : Program} {C : Cfg} {n0 : Nat} {st : St} (hC : CfgOk P C) (hmix : P.follows .mixedOrders = true) {c : Code} {Q : AExit → St → Prop} (I : Nat → St → Prop) {n : Nat} {s0 : St} (hl : st.Le s0) (hb : s0.refsLt = true) (hk : n0 ≤ s0.heap.length) (h0 : I n s0)
    (round : ∀ n s, I n s → CodeK P C n0 c s fun e s => match e with
      | .normal => ∃ ρ s', s.LeR n0 ρ s' ∧ s'.refsLt = true ∧ n0 ≤ s'.heap.length ∧ ∃ m, m < n ∧ I m s'
      | .exit id => Q (.exit id) s
      | .ret => Q .ret s) : LoopP P n0 c st Q := by
  refine ARun.weaken hl hb hk (ARun.loop I (fun n s hI => ARun.postRen ((CodeK.run hC hmix c s _ (round n s hI)).mono fun e s1 h1 => ?_)) h0)
  cases e with
  | normal =>
    obtain ⟨ρ, s', h2, h3, h4, m, h5, h6⟩ := h1
    exact .inr ⟨ρ, s', h2, h3, h4, m, h5, h6⟩
  | exit id => exact .inl h1
  | ret => exact .inl h1

/-- St.LeR, place by place. -/
def leTR (ρ : Nat → Nat) : List AV → List AV → Prop
  | [], [] => True
  | x :: xs, y :: ys => (y = .junk ∨ y.noTup ∧ x = y.ren ρ) ∧ leTR ρ xs ys
  | _, _ => False

/-- Which of the old blocks a new place holds: a list of (new, old). -/
def renF : List (Nat × Nat) → Nat → Nat
  | [], b => b
  | (x, y) :: l, b => if b = x then y else renF l b

def leHR (ρ : Nat → Nat) (h : Heap) : Nat → Heap → Prop
  | _, [] => True
  | i, y :: ys => (match y with | none => True | some b => look h (ρ i) = some (b.ren ρ)) ∧ leHR ρ h (i + 1) ys

/-- The places that hold something, each with its old number: all different. -/
def liveR (ρ : Nat → Nat) : Nat → Heap → List Nat
  | _, [] => []
  | i, none :: ys => liveR ρ (i + 1) ys
  | i, some _ :: ys => ρ i :: liveR ρ (i + 1) ys

theorem leTR_spec {ρ : Nat → Nat} : ∀ {xs ys : List AV}, leTR ρ xs ys → ys.length = xs.length ∧ ∀ (i : Nat) (y : AV), ys[i]? = some y → y = .junk ∨ y.noTup ∧ xs[i]? = some (y.ren ρ)
  | [], [], _ => ⟨rfl, by simp⟩
  | x :: xs, y :: ys, h => by
    obtain ⟨h1, h2⟩ := h
    obtain ⟨h3, h4⟩ := leTR_spec h2
    refine ⟨by simp [h3], fun i z hz => ?_⟩
    cases i with
    | zero =>
      simp at hz; subst hz
      rcases h1 with h | ⟨h, h'⟩
      · exact .inl h
      · exact .inr ⟨h, by simp [h']⟩
    | succ i => simpa using h4 i z (by simpa using hz)

theorem leHR_spec {ρ : Nat → Nat} {h : Heap} : ∀ {ys : Heap} {i : Nat}, leHR ρ h i ys → ∀ (j : Nat) (b : Blk), look ys j = some b → look h (ρ (i + j)) = some (b.ren ρ)
  | [], i, _, j, b, hb => by simp [look] at hb
  | y :: ys, i, ⟨h1, h2⟩, j, b, hb => by
    cases j with
    | zero => simp [look] at hb; subst hb; exact h1
    | succ j =>
      have := leHR_spec h2 j b (by simpa [look] using hb)
      rw [show i + (j + 1) = i + 1 + j by omega]; exact this

theorem liveR_mem {ρ : Nat → Nat} : ∀ {ys : Heap} {i : Nat} (j : Nat) (b : Blk), look ys j = some b → ρ (i + j) ∈ liveR ρ i ys
  | [], i, j, b, hb => by simp [look] at hb
  | y :: ys, i, j, b, hb => by
    cases j with
    | zero => simp [look] at hb; subst hb; exact .head _
    | succ j =>
      have := liveR_mem (ρ := ρ) (i := i + 1) j b (by simpa [look] using hb)
      rw [show i + (j + 1) = i + 1 + j by omega]
      cases y with
      | none => exact this
      | some y => exact .tail _ this

theorem liveR_inj {ρ : Nat → Nat} : ∀ {ys : Heap} {i : Nat}, (liveR ρ i ys).Nodup → ∀ (j j' : Nat) (b b' : Blk), look ys j = some b → look ys j' = some b' → ρ (i + j) = ρ (i + j') → j = j'
  | [], i, _, j, j', b, b', hb, _, _ => by simp [look] at hb
  | y :: ys, i, hn, j, j', b, b', hb, hb', he => by
    have ht : (liveR ρ (i + 1) ys).Nodup := by
      cases y with
      | none => exact hn
      | some y => exact (List.nodup_cons.1 hn).2
    cases j with
    | zero =>
      cases j' with
      | zero => rfl
      | succ j' =>
        simp [look] at hb; subst hb
        have := liveR_mem (ρ := ρ) (i := i + 1) j' b' (by simpa [look] using hb')
        rw [show i + 1 + j' = i + (j' + 1) by omega, ← he] at this
        exact absurd this (List.nodup_cons.1 hn).1
    | succ j =>
      cases j' with
      | zero =>
        simp [look] at hb'; subst hb'
        have := liveR_mem (ρ := ρ) (i := i + 1) j b (by simpa [look] using hb)
        rw [show i + 1 + j = i + (j + 1) by omega, he] at this
        exact absurd this (List.nodup_cons.1 hn).1
      | succ j' =>
        have := liveR_inj ht j j' b b' (by simpa [look] using hb) (by simpa [look] using hb') (by rw [show i + 1 + j = i + (j + 1) by omega, show i + 1 + j' = i + (j' + 1) by omega]; exact he)
        omega

theorem leR_of {n0 : Nat} {s s' : St} (m : List (Nat × Nat)) (h1 : leTR (renF m) s.tmps s'.tmps) (h2 : leHR (renF m) s.heap 0 s'.heap) (h3 : (liveR (renF m) 0 s'.heap).Nodup) (h4 : ∀ p ∈ m, n0 ≤ p.1) : s.LeR n0 (renF m) s' := by
  obtain ⟨a, b⟩ := leTR_spec h1
  refine ⟨a, b, fun b blk hb => ?_, fun b b' blk blk' hb hb' he => ?_, fun b hb => ?_⟩
  · have := leHR_spec h2 b blk hb; rwa [Nat.zero_add] at this
  · exact liveR_inj h3 b b' blk blk' hb hb' (by rw [Nat.zero_add, Nat.zero_add]; exact he)
  · have : ∀ l : List (Nat × Nat), (∀ p ∈ l, n0 ≤ p.1) → renF l b = b := by
      intro l
      induction l with
      | nil => intro _; rfl
      | cons p l ih =>
        intro h
        obtain ⟨x, y⟩ := p
        have := h (x, y) (.head _)
        simp only [renF]
        rw [if_neg (by simp at this; omega)]
        exact ih fun p hp => h p (.tail _ hp)
    exact this m h4

/-- The loop's next turn, under other numbers: m says, for each block that is elsewhere, (where the invariant has it, where it is now). -/
theorem againR {s s' : St} {n0 n k : Nat} {I : Nat → St → Prop} (m : List (Nat × Nat)) (h1 : leTR (renF m) s.tmps s'.tmps) (h2 : leHR (renF m) s.heap 0 s'.heap) (h3 : (liveR (renF m) 0 s'.heap).Nodup) (h4 : ∀ p ∈ m, n0 ≤ p.1)
    (h5 : s'.refsLt = true) (h6 : n0 ≤ s'.heap.length) (hm : k < n) (hI : I k s') : ∃ ρ s', s.LeR n0 ρ s' ∧ s'.refsLt = true ∧ n0 ≤ s'.heap.length ∧ ∃ m, m < n ∧ I m s' := ⟨_, s', leR_of m h1 h2 h3 h4, h5, h6, k, hm, hI⟩

section
variable {P : Program} {C : Cfg} {n0 : Nat} {zwrap : IntKind → Int → Int} {zadd : Int → Int → Int} {zsub : Int → Int → Int} {zmul : Int → Int → Int} {zquo : Int → Int → Int} {zrem : Int → Int → Int} {zshl : IntKind → Int → Int → Int} {zshr : IntKind → Int → Int → Int} {zband : IntKind → Int → Int → Int} {zbor : IntKind → Int → Int → Int} {zbxor : IntKind → Int → Int → Int} {zbandn : IntKind → Int → Int → Int} {zeq : Int → Int → Bool} {zne : Int → Int → Bool} {zlt : Int → Int → Bool} {zle : Int → Int → Bool} {znot : Bool → Bool} {zbeq : Bool → Bool → Bool} {zbne : Bool → Bool → Bool} {zmax : Int → Int → Int} {zmin : Int → Int → Int} {znat : Int → Nat} {zinb : Int → Nat → Bool} {zofN : Nat → Int} {zidx : Nat → Int → Nat} {zneq : Nat → Nat → Bool} {znadd : Nat → Nat → Nat} {zdif : Int → Int → Nat} {zcut : Int → Int → Nat → Bool} {zroom : Nat → Nat → Nat → Bool} {zmkok : Int → Int → Nat → Bool} {zlen : Rows → Nat} {znth : Rows → Nat → Option (List Tree)} {zsetr : Rows → Nat → List Tree → Rows} {zisI : IntKind → Rows → Nat → Bool} {zgetI : Rows → Nat → Int} {zsetI : IntKind → Rows → Nat → Int → Rows} {zfit : Nat → Nat → Rows → Bool} {zpart : Rows → Nat → Nat → Rows} {zext : Rows → Nat → Rows → Rows} {zsetg : Rows → Nat → Rows → Rows} {zrep : Nat → List Tree → Rows} {zwide : Nat → Rows → Bool} {zall : List Bool → Bool} {zmok : List (Value × Tree) → Value → Bool} {zmget : List (Value × Tree) → Value → Bool} {zmset : List (Value × Tree) → Value → Tree → List (Value × Tree)} {zW : IntKind → List Int → Rows} {zth : (α : Type) → (Unit → α) → α} {A : FuncId → List Arg → Res → Prop} {L : Code → St → (AExit → ST → Prop) → Prop}
theorem loopZR (hC : CfgOk P C) (hmix : P.follows .mixedOrders = true) (hS : Std P n0 zwrap zadd zsub zmul zquo zrem zshl zshr zband zbor zbxor zbandn zeq zne zlt zle znot zbeq zbne zmax zmin znat zinb zofN zidx zneq znadd zdif zcut zroom zmkok zlen znth zsetr zisI zgetI zsetI zfit zpart zext zsetg zrep zwide zall zmok zmget zmset zW zth A L) {c : Code} {st : St} {Q : AExit → ST → Prop} (I : Nat → St → Prop) {n : Nat} {s0 : St} (hl : st.Le s0) (hb : s0.refsLt = true) (hk : n0 ≤ s0.heap.length) (h0 : I n s0)
    (round : ∀ n s, I n s → CodeKZ (ZI.mk zwrap zadd zsub zmul zquo zrem zshl zshr zband zbor zbxor zbandn zeq zne zlt zle znot zbeq zbne zmax zmin znat zinb zofN zidx zneq znadd zdif zcut zroom zmkok zlen znth zsetr zisI zgetI zsetI zfit zpart zext zsetg zrep zwide zall zmok zmget zmset) C A L c (ST.ofSt s) fun e s => match e with
      | .normal => match s.toSt with
        | ⟨t, h⟩ => ∃ ρ s', (St.mk t h).LeR n0 ρ s' ∧ s'.refsLt = true ∧ n0 ≤ s'.heap.length ∧ ∃ m, m < n ∧ I m s'
      | .exit id => Q (.exit id) s
      | .ret => Q .ret s) : L c st Q := by
  rw [hS.z, hS.a, hS.l] at round
  rw [hS.l]
  refine fun hT => LoopP.introR hC hmix I hl hb hk h0 fun n s hI => ?_
  have := codeKZ_std c _ (ST.ofSt_ok s) hT (round n s hI)
  rw [ST.toSt_ofSt] at this
  refine codeK_mono c s this fun e s1 h1 => ?_
  obtain ⟨s', ho, rfl, h2⟩ := h1
  cases e with
  | normal => exact h2
  | exit id => exact ⟨s', ho, rfl, h2⟩
  | ret => exact ⟨s', ho, rfl, h2⟩

end
end Go.Abs
end

section
set_option linter.unusedVariables false
set_option linter.unusedSimpArgs false
set_option maxHeartbeats 8000000
set_option linter.unusedVariables false
set_option linter.unusedSimpArgs false
set_option maxRecDepth 100000
namespace Go.Proofs.YtpgbejgdmgpfjaaGreat
open Go Go.Abs Go.Abs.M Go.Proofs

end Go.Proofs.YtpgbejgdmgpfjaaGreat
end

section
set_option linter.unusedVariables false
set_option linter.unusedSimpArgs false
set_option maxHeartbeats 8000000
set_option linter.unusedVariables false
set_option linter.unusedSimpArgs false
set_option maxRecDepth 100000
namespace Go.Proofs.YtpgbejgdmgpfjaaGreat
open Go Go.Abs Go.Abs.M Go.Proofs

structure RW where
  n : Int
  d : Int
  k : Int
structure RW.ok (x : RW) : Prop where
  n1 : -128 ≤ x.n
  n2 : x.n < 128
  d1 : -128 ≤ x.d
  d2 : x.d < 128
  k1 : 0 ≤ x.k
  k2 : x.k < 256
def RW.row (x : RW) : List Tree := [.v (.int .i8 x.n), .v (.int .i8 x.d), .v (.int .u8 x.k)]
def RW.q (x : RW) : Rat := madeQ x.n x.d x.k
end Go.Proofs.YtpgbejgdmgpfjaaGreat
end

section
set_option linter.unusedVariables false
set_option linter.unusedSimpArgs false
set_option maxHeartbeats 8000000
set_option linter.unusedVariables false
set_option linter.unusedSimpArgs false
set_option maxRecDepth 100000
namespace Go.Proofs.YtpgbejgdmgpfjaaGreat
open Go Go.Abs Go.Abs.M Go.Proofs

theorem qsign_call {x : Int} {s t : Bool} {r q : Abs.Rows} (c : Int) (hx : IsI x s r) (hc : c = cmpI x 0) : ACall Tryz.prog 113 [.val (.agg (iT s r ++ iT t q))] ⟨[.val (ti .i64 c)], [none]⟩ := by
  have c1 := isign_call c hx hc
  refine callZ ccOk mixed [.val] Tryz.func113 rfl rfl (by kernel_rfl) fun zwrap zadd zsub zmul zquo zrem zshl zshr zband zbor zbxor zbandn zeq zne zlt zle znot zbeq zbne zmax zmin znat zinb zofN zidx zneq znadd zdif zcut zroom zmkok zlen znth zsetr zisI zgetI zsetI zfit zpart zext zsetg zrep zwide zall zmok zmget zmset zW zth A L F hS hF => ?_
  cbv
  refine ⟨_, hS.call (c1), ?_⟩
  cbv
  exact hF _ (ResLe.refl _)

end Go.Proofs.YtpgbejgdmgpfjaaGreat
end

section
set_option linter.unusedVariables false
set_option linter.unusedSimpArgs false
set_option maxHeartbeats 8000000
set_option linter.unusedVariables false
set_option linter.unusedSimpArgs false
set_option maxRecDepth 100000
namespace Go.Proofs.YtpgbejgdmgpfjaaGreat
open Go Go.Abs Go.Abs.M Go.Proofs

theorem Qs.neg {x : Rat} {k : Nat} (h : Qs x k) : Qs (-x) k := ⟨by show nl (-x.num).natAbs ≤ k; rw [Int.natAbs_neg]; exact h.1, h.2⟩

/-- How numbers compare. -/
def cmpQ (x y : Rat) : Int := if x < y then -1 else if y < x then 1 else 0

theorem cmpQ_cross (x y : Rat) : cmpQ x y = cmpI (x.num * y.den) (y.num * x.den) := by
  unfold cmpQ cmpI
  by_cases h : x < y
  · rw [if_pos h, if_pos ((Rat.lt_iff x y).1 h)]
  · rw [if_neg h, if_neg (fun h' => h ((Rat.lt_iff x y).2 h'))]
    by_cases h2 : y < x
    · rw [if_pos h2, if_pos ((Rat.lt_iff y x).1 h2)]
    · rw [if_neg h2, if_neg (fun h' => h2 ((Rat.lt_iff y x).2 h'))]

theorem cmpI_signs {a b c d : Int} (hc : 0 < c) (hd : 0 < d) (h : cmpI a 0 ≠ cmpI b 0) : cmpI (a * d) (b * c) = if cmpI a 0 < cmpI b 0 then -1 else 1 := by
  have key : ∀ {x y : Int}, 0 < y → (0 < x → 0 < x * y) ∧ (x < 0 → x * y < 0) ∧ (x = 0 → x * y = 0) := fun {x y} hy => ⟨fun h => Int.mul_pos h hy, fun h => Int.mul_neg_of_neg_of_pos h hy, fun h => by rw [h, Int.zero_mul]⟩
  obtain ⟨a1, a2, a3⟩ := key (x := a) hd
  obtain ⟨b1, b2, b3⟩ := key (x := b) hc
  generalize a * d = A at *
  generalize b * c = B at *
  unfold cmpI at h ⊢
  rcases Int.lt_trichotomy a 0 with ha | ha | ha <;> rcases Int.lt_trichotomy b 0 with hb | hb | hb
  all_goals (repeat' split) <;> omega

theorem pcmp_call {x y : Rat} {s t s' t' : Bool} {r q r' q' : Abs.Rows} (c : Int) (hx : IsR x s r t q) (hy : IsR y s' r' t' q') (hc : c = cmpQ x y) (h1 : Qs x 68719476736) (h2 : Qs y 68719476736) :
    ACall Tryz.prog 67 [.val (.agg (iT s r ++ iT t q)), .val (.agg (iT s' r' ++ iT t' q'))] ⟨[.val (ti .i64 c)], [none, none]⟩ := by
  obtain ⟨x1, x2⟩ := h1
  obtain ⟨y1, y2⟩ := h2
  have hx0 := x.den_pos
  have hy0 := y.den_pos
  have n1 := nl_mul x.num.natAbs y.den
  have n2 := nl_mul y.num.natAbs x.den
  rw [cmpQ_cross] at hc
  have cx := qsign_call (t := t) (q := q) (cmpI x.num 0) hx.n rfl
  have cy := qsign_call (t := t') (q := q') (cmpI y.num 0) hy.n rfl
  obtain ⟨a, b, ha, ca⟩ := pproduct_call hx.n hy.d (by omega) (by rw [Int.natAbs_natCast]; omega)
  obtain ⟨a', b', ha', ca'⟩ := pproduct_call hy.n hx.d (by omega) (by rw [Int.natAbs_natCast]; omega)
  have m1 : nl (x.num * y.den).natAbs ≤ 2199023255552 := by rw [Int.natAbs_mul, Int.natAbs_natCast]; omega
  have m2 : nl (y.num * x.den).natAbs ≤ 2199023255552 := by rw [Int.natAbs_mul, Int.natAbs_natCast]; omega
  have cc := icmp_call c ha ha' hc m1 m2
  have hsg := cmpI_signs (a := x.num) (b := y.num) (c := x.den) (d := y.den) (by omega) (by omega)
  rw [← hc] at hsg
  generalize cmpI x.num 0 = sx at *
  generalize cmpI y.num 0 = sy at *
  clear hc
  refine callZ ccOk mixed [.val] Tryz.func67 rfl rfl (by kernel_rfl) fun zwrap zadd zsub zmul zquo zrem zshl zshr zband zbor zbxor zbandn zeq zne zlt zle znot zbeq zbne zmax zmin znat zinb zofN zidx zneq znadd zdif zcut zroom zmkok zlen znth zsetr zisI zgetI zsetI zfit zpart zext zsetg zrep zwide zall zmok zmget zmset zW zth A L F hS hF => ?_
  have zf : ∀ (a b : Bool) (c d : Abs.Rows), zfit 0 2 [[.v (.bool a), .lst false c], [.v (.bool b), .lst false d]] = true := fun a b c d => by rw [hS.fit]; rfl
  have zp : ∀ (a b : Bool) (c d : Abs.Rows), zpart [[.v (.bool a), .lst false c], [.v (.bool b), .lst false d]] 0 2 = [[.v (.bool a), .lst false c], [.v (.bool b), .lst false d]] := fun a b c d => by rw [hS.part]; rfl
  have e1 : zne sx sy = decide (sx ≠ sy) := hS.ne ..
  have e2 : zlt sx sy = decide (sx < sy) := hS.lt ..
  by_cases h : sx ≠ sy
  · have hcc := hsg h
    rw [decide_eq_true h] at e1
    by_cases h2 : sx < sy
    · rw [if_pos h2] at hcc
      rw [decide_eq_true h2] at e2
      subst hcc
      cbv
      refine ⟨_, hS.call (cx), ?_⟩
      cbv
      refine ⟨_, hS.call (cy), ?_⟩
      cbv
      refine bT (e1) ?_
      refine bT (e2) ?_
      exact hF _ (ResLe.refl _)
    · rw [if_neg h2] at hcc
      rw [decide_eq_false h2] at e2
      subst hcc
      cbv
      refine ⟨_, hS.call (cx), ?_⟩
      cbv
      refine ⟨_, hS.call (cy), ?_⟩
      cbv
      refine bT (e1) ?_
      refine bF (e2) ?_
      exact hF _ (ResLe.refl _)
  · rw [decide_eq_false h] at e1
    cbv
    refine ⟨_, hS.call (cx), ?_⟩
    cbv
    refine ⟨_, hS.call (cy), ?_⟩
    cbv
    refine bF (e1) ?_
    refine nd (zf ..) ?_
    rw [zp]
    refine ⟨_, hS.call (ca), ?_⟩
    cbv
    refine nd (zf ..) ?_
    rw [zp]
    refine ⟨_, hS.call (ca'), ?_⟩
    cbv
    refine ⟨_, hS.call (cc), ?_⟩
    cbv
    exact hF _ (ResLe.refl _)

end Go.Proofs.YtpgbejgdmgpfjaaGreat
end

section
set_option linter.unusedVariables false
set_option linter.unusedSimpArgs false
set_option maxHeartbeats 8000000
set_option linter.unusedVariables false
set_option linter.unusedSimpArgs false
set_option maxRecDepth 100000
namespace Go.Proofs.YtpgbejgdmgpfjaaGreat
open Go Go.Abs Go.Abs.M Go.Proofs

theorem rqcmp_call {x y : Rat} {s t s' t' : Bool} {r q r' q' : Abs.Rows} (c : Int) (hx : IsR x s r t q) (hy : IsR y s' r' t' q') (hc : c = cmpQ x y) (h1 : Qs x 68719476736) (h2 : Qs y 68719476736) :
    ACall Tryz.prog 68 [.val (.agg (iT s r ++ iT t q)), .val (.agg (iT s' r' ++ iT t' q'))] ⟨[.val (ti .i64 c)], [none, none]⟩ := by
  obtain ⟨x1, x2⟩ := h1
  obtain ⟨y1, y2⟩ := h2
  have n1 := nl_mul x.num.natAbs y.den
  have n2 := nl_mul y.num.natAbs x.den
  rw [cmpQ_cross] at hc
  obtain ⟨a, b, ha, ca⟩ := rmul_call hx.n hy.d (by omega) (by rw [Int.natAbs_natCast]; omega)
  obtain ⟨a', b', ha', ca'⟩ := rmul_call hy.n hx.d (by omega) (by rw [Int.natAbs_natCast]; omega)
  have m1 : nl (x.num * y.den).natAbs ≤ 2199023255552 := by rw [Int.natAbs_mul, Int.natAbs_natCast]; omega
  have m2 : nl (y.num * x.den).natAbs ≤ 2199023255552 := by rw [Int.natAbs_mul, Int.natAbs_natCast]; omega
  have cc := rcmp_call c ha ha' hc m1 m2
  refine callZ ccOk mixed [.val] Tryz.func68 rfl rfl (by kernel_rfl) fun zwrap zadd zsub zmul zquo zrem zshl zshr zband zbor zbxor zbandn zeq zne zlt zle znot zbeq zbne zmax zmin znat zinb zofN zidx zneq znadd zdif zcut zroom zmkok zlen znth zsetr zisI zgetI zsetI zfit zpart zext zsetg zrep zwide zall zmok zmget zmset zW zth A L F hS hF => ?_
  cbv
  refine ⟨_, hS.call (ca), ?_⟩
  cbv
  refine ⟨_, hS.call (ca'), ?_⟩
  cbv
  refine ⟨_, hS.call (cc), ?_⟩
  cbv
  exact hF _ (ResLe.refl _)

end Go.Proofs.YtpgbejgdmgpfjaaGreat
end

section
set_option linter.unusedVariables false
set_option linter.unusedSimpArgs false
/-
  interval.Valid and the document's Valid of intervals, on any cells.
-/
set_option maxHeartbeats 8000000
set_option linter.unusedVariables false
set_option linter.unusedSimpArgs false
set_option maxRecDepth 100000
namespace Go.Proofs.YtpgbejgdmgpfjaaGreat
open Go Go.Abs Go.Abs.M Go.Proofs

theorem QC.qs {c : QC} {x : Rat} {k : Nat} (h : IsR x c.s (W .u32 c.l) c.t (W .u32 c.m)) (h1 : c.l.length ≤ k) (h2 : c.m.length ≤ k) : Qs x k := by
  have e1 : c.l = dg x.num.natAbs := W_inj h.n.m
  have e2 : c.m = dg (x.den : Int).natAbs := W_inj h.d.m
  refine ⟨?_, ?_⟩
  · show (dg x.num.natAbs).length ≤ k; rw [← e1]; exact h1
  · rw [Int.natAbs_natCast] at e2
    show (dg x.den).length ≤ k; rw [← e2]; exact h2

theorem ivalid_ex (a b : QC) (ha : a.ok 1000) (hb : b.ok 1000) :
    ∃ v : Bool, ACall Tryz.prog 16 [.val (.agg (a.row ++ b.row))] ⟨[.val (tb v)], [none]⟩ ∧ ACall Tryz.prog 17 [.val (.agg (a.row ++ b.row))] ⟨[.val (tb v)], [none]⟩ := by
  obtain ⟨va, hva⟩ := bool_ex a.can
  obtain ⟨vb, hvb⟩ := bool_ex b.can
  have p1 := qvalid_call va hva ha.l ha.m (by have := ha.ll; omega) (by have := ha.lm; omega)
  have p2 := qvalid_call vb hvb hb.l hb.m (by have := hb.ll; omega) (by have := hb.lm; omega)
  have r1 := rqvalid_call va hva ha.l ha.m (by have := ha.ll; omega) (by have := ha.lm; omega)
  have r2 := rqvalid_call vb hvb hb.l hb.m (by have := hb.ll; omega) (by have := hb.lm; omega)
  obtain ⟨s1, l1, t1, m1⟩ := a
  obtain ⟨s2, l2, t2, m2⟩ := b
  have hrow : QC.row ⟨s1, l1, t1, m1⟩ ++ QC.row ⟨s2, l2, t2, m2⟩ = [.v (.bool s1), .lst false (W .u32 l1), .v (.bool t1), .lst false (W .u32 m1), .v (.bool s2), .lst false (W .u32 l2), .v (.bool t2), .lst false (W .u32 m2)] := rfl
  rw [hrow]
  have hc : va = true → vb = true → ∃ c : Int, ACall Tryz.prog 67 [.val (.agg (iT s1 (W .u32 l1) ++ iT t1 (W .u32 m1))), .val (.agg (iT s2 (W .u32 l2) ++ iT t2 (W .u32 m2)))] ⟨[.val (ti .i64 c)], [none, none]⟩ ∧
      ACall Tryz.prog 68 [.val (.agg (iT s1 (W .u32 l1) ++ iT t1 (W .u32 m1))), .val (.agg (iT s2 (W .u32 l2) ++ iT t2 (W .u32 m2)))] ⟨[.val (ti .i64 c)], [none, none]⟩ := fun h1 h2 => by
    obtain ⟨x, hx⟩ := hva.1 h1
    obtain ⟨y, hy⟩ := hvb.1 h2
    have qx : Qs x 1000 := QC.qs (c := ⟨s1, l1, t1, m1⟩) hx ha.ll ha.lm
    have qy : Qs y 1000 := QC.qs (c := ⟨s2, l2, t2, m2⟩) hy hb.ll hb.lm
    exact ⟨_, pcmp_call _ hx hy rfl (qx.mono (by omega)) (qy.mono (by omega)), rqcmp_call _ hx hy rfl (qx.mono (by omega)) (qy.mono (by omega))⟩
  clear hrow hva hvb ha hb
  generalize W .u32 l1 = A1 at *
  generalize W .u32 m1 = B1 at *
  generalize W .u32 l2 = A2 at *
  generalize W .u32 m2 = B2 at *
  cases va
  · refine ⟨false, ?_, ?_⟩
    · refine callZ ccOk mixed [.val] Tryz.func16 rfl rfl (by kernel_rfl) fun zwrap zadd zsub zmul zquo zrem zshl zshr zband zbor zbxor zbandn zeq zne zlt zle znot zbeq zbne zmax zmin znat zinb zofN zidx zneq znadd zdif zcut zroom zmkok zlen znth zsetr zisI zgetI zsetI zfit zpart zext zsetg zrep zwide zall zmok zmget zmset zW zth A L F hS hF => ?_
      cbv
      refine ⟨_, hS.call (p1), ?_⟩
      cbv
      refine bF rfl ?_
      exact hF _ (ResLe.refl _)
    · refine callZ ccOk mixed [.val] Tryz.func17 rfl rfl (by kernel_rfl) fun zwrap zadd zsub zmul zquo zrem zshl zshr zband zbor zbxor zbandn zeq zne zlt zle znot zbeq zbne zmax zmin znat zinb zofN zidx zneq znadd zdif zcut zroom zmkok zlen znth zsetr zisI zgetI zsetI zfit zpart zext zsetg zrep zwide zall zmok zmget zmset zW zth A L F hS hF => ?_
      cbv
      refine ⟨_, hS.call (r1), ?_⟩
      cbv
      refine bF rfl ?_
      exact hF _ (ResLe.refl _)
  · cases vb
    · refine ⟨false, ?_, ?_⟩
      · refine callZ ccOk mixed [.val] Tryz.func16 rfl rfl (by kernel_rfl) fun zwrap zadd zsub zmul zquo zrem zshl zshr zband zbor zbxor zbandn zeq zne zlt zle znot zbeq zbne zmax zmin znat zinb zofN zidx zneq znadd zdif zcut zroom zmkok zlen znth zsetr zisI zgetI zsetI zfit zpart zext zsetg zrep zwide zall zmok zmget zmset zW zth A L F hS hF => ?_
        cbv
        refine ⟨_, hS.call (p1), ?_⟩
        cbv
        refine bT rfl ?_
        refine ⟨_, hS.call (p2), ?_⟩
        cbv
        refine bF rfl ?_
        exact hF _ (ResLe.refl _)
      · refine callZ ccOk mixed [.val] Tryz.func17 rfl rfl (by kernel_rfl) fun zwrap zadd zsub zmul zquo zrem zshl zshr zband zbor zbxor zbandn zeq zne zlt zle znot zbeq zbne zmax zmin znat zinb zofN zidx zneq znadd zdif zcut zroom zmkok zlen znth zsetr zisI zgetI zsetI zfit zpart zext zsetg zrep zwide zall zmok zmget zmset zW zth A L F hS hF => ?_
        cbv
        refine ⟨_, hS.call (r1), ?_⟩
        cbv
        refine bT rfl ?_
        refine ⟨_, hS.call (r2), ?_⟩
        cbv
        refine bF rfl ?_
        exact hF _ (ResLe.refl _)
    · obtain ⟨c, c1, c2⟩ := hc rfl rfl
      refine ⟨decide (c ≤ 0), ?_, ?_⟩
      · refine callZ ccOk mixed [.val] Tryz.func16 rfl rfl (by kernel_rfl) fun zwrap zadd zsub zmul zquo zrem zshl zshr zband zbor zbxor zbandn zeq zne zlt zle znot zbeq zbne zmax zmin znat zinb zofN zidx zneq znadd zdif zcut zroom zmkok zlen znth zsetr zisI zgetI zsetI zfit zpart zext zsetg zrep zwide zall zmok zmget zmset zW zth A L F hS hF => ?_
        have z : zle c 0 = decide (c ≤ 0) := by rw [hS.le]
        cbv
        refine ⟨_, hS.call (p1), ?_⟩
        cbv
        refine bT rfl ?_
        refine ⟨_, hS.call (p2), ?_⟩
        cbv
        refine bT rfl ?_
        refine ⟨_, hS.call (c1), ?_⟩
        cbv
        exact fin1 hF (tv_bool z)
      · refine callZ ccOk mixed [.val] Tryz.func17 rfl rfl (by kernel_rfl) fun zwrap zadd zsub zmul zquo zrem zshl zshr zband zbor zbxor zbandn zeq zne zlt zle znot zbeq zbne zmax zmin znat zinb zofN zidx zneq znadd zdif zcut zroom zmkok zlen znth zsetr zisI zgetI zsetI zfit zpart zext zsetg zrep zwide zall zmok zmget zmset zW zth A L F hS hF => ?_
        have z : zle c 0 = decide (c ≤ 0) := by rw [hS.le]
        cbv
        refine ⟨_, hS.call (r1), ?_⟩
        cbv
        refine bT rfl ?_
        refine ⟨_, hS.call (r2), ?_⟩
        cbv
        refine bT rfl ?_
        refine ⟨_, hS.call (c2), ?_⟩
        cbv
        exact fin1 hF (tv_bool z)
end Go.Proofs.YtpgbejgdmgpfjaaGreat
end

