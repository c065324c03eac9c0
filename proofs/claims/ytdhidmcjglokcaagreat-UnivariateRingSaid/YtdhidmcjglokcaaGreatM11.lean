/-
  A part of the proof: UnpB07, UnpC07, UnpD07, UnpE07, UnpF07, UnpG07, UnpH07, UniR, RusA07, EvU, UplA07.
-/
import Derived.Test.YtdhidmcjglokcaaGreatM10
import Derived.Calls
import Derived.Laws.Cells
import Derived.Below
import Derived.Laws.Small
import Derived.Laws.IdiomCopy
import Derived.Laws.BytesString
import Derived.Laws.Append
import Derived.Laws.Tables
import Derived.Great.BuildSlice
import Derived.IntWalk
import Derived.Orders
import Derived.Laws.BitsLemmas
import Derived.Test.YtdhidmcjglokcaaGreatProg

section
set_option linter.unusedVariables false
set_option linter.unusedSimpArgs false
set_option maxHeartbeats 8000000
set_option linter.unusedVariables false
set_option linter.unusedSimpArgs false
set_option maxRecDepth 100000
namespace Go.Proofs.YtdhidmcjglokcaaGreat
open Go Go.Abs Go.Abs.M Go.Proofs

def utrSt (R : Abs.Rows) (n : Int) : St := mkSt 22 [.c (.t (.lst false R)), .junk, .junk, vi .i64 n] [none]

theorem utrimU_call (P : List Rat) (hl : P.length ≤ 1000)
    (hs : ∀ q : Rat, ∃ k : Int, (k = 0 ↔ q = 0) ∧ ACall Tryz.prog 58 [.val (.agg (qc q).row)] ⟨[.val (ti .i64 k)], [none]⟩) :
    ACall Tryz.prog 64 [.val (tl (ur P))] ⟨[.val (tl (ur (ptrim P)))], [none]⟩ := by
  obtain ⟨R, hR⟩ : ∃ R, R = ur P := ⟨_, rfl⟩
  obtain ⟨n, hn⟩ : ∃ n, n = P.length := ⟨_, rfl⟩
  have hRl : R.length = n := by rw [hR, ur_len, hn]
  have hget : ∀ i, i < n → ∃ q : Rat, P.getD i 0 = q ∧ ∃ (s t : Bool) (r p : Abs.Rows), (qc q).row = [.v (.bool s), .lst false r, .v (.bool t), .lst false p] ∧ R[i]? = some (qc q).row := fun i hi => by
    have h : P[i]? = some P[i] := List.getElem?_eq_getElem (by omega)
    have h2 := ur_get h
    rw [← hR] at h2
    exact ⟨_, by rw [List.getD_eq_getElem?_getD, h]; rfl, _, _, _, _, rfl, h2⟩
  have hwd : (R.all fun r => r.length == 4) = true := by
    refine List.all_eq_true.2 fun r hr => ?_
    rw [hR] at hr
    obtain ⟨c, _, rfl⟩ := List.mem_map.1 hr
    rfl
  obtain ⟨T, hT⟩ : ∃ T, T = tlen P P.length := ⟨_, rfl⟩
  obtain ⟨Q, hQ⟩ : ∃ Q, Q = ur (ptrim P) := ⟨_, rfl⟩
  have hend : ∀ k, tlen P k = T → k ≤ n → T = k → Q = (R.drop 0).take k := fun k _ _ hk => by
    rw [hQ, hR, List.drop_zero, ur_take, ← hk, hT]; rfl
  rw [← hR, ← hQ]
  rw [← hn] at hT
  clear hR hQ
  refine callZ ccOk mixed [.val] Tryz.func64 rfl rfl (by kernel_rfl) fun zwrap zadd zsub zmul zquo zrem zshl zshr zband zbor zbxor zbandn zeq zne zlt zle znot zbeq zbne zmax zmin znat zinb zofN zidx zneq znadd zdif zcut zroom zmkok zlen znth zsetr zisI zgetI zsetI zfit zpart zext zsetg zrep zwide zall zmok zmget zmset zW zth A L F hS hF => ?_
  have hlx : zlen R = n := by rw [hS.len, hRl]
  obtain ⟨N, hN, hN2⟩ : ∃ N : Int, N = n ∧ zofN (zlen R) = N := ⟨_, rfl, by rw [hlx, hS.ofN]⟩
  cbv
  have hN : N = (n : Int) := hN
  refine loopZ ccOk mixed hS (fun (k : Nat) s' => ∃ I : Int, I = k ∧ k ≤ n ∧ tlen P k = T ∧ s' = utrSt R I) (n := n) (s0 := utrSt R N) (le_of ?_ ?_) rfl (Nat.le_refl 1) ?_ ?_
  · simp [leT, utrSt, mkSt, vi, vb, hN2]
  · simp [leH, utrSt, mkSt]
  · exact ⟨N, hN, Nat.le_refl _, hT.symm, rfl⟩
  · rintro k s1 ⟨I, hI, hk, hTk, hs1⟩
    have w1 : zcut 0 I (zlen R) = true := by rw [hS.cut, hlx]; exact decide_eq_true (by omega)
    have w2 : zwide 4 R = true := by rw [hS.wide]; exact hwd
    have w3 : zpart R 0 (znat I) = (R.drop 0).take k := by rw [hS.part, hS.nat, hI, Int.toNat_natCast]
    by_cases hk0 : k = 0
    · have l1 : zlt 0 I = false := by rw [hS.lt]; exact decide_eq_false (by omega)
      have hq := hend k hTk hk (by rw [← hTk, hk0]; rfl)
      subst hs1
      cbv
      refine bF l1 (nd w1 (nd w2 ?_))
      rw [w3, ← hq]
      exact hF _ (ResLe.refl _)
    · have l1 : zlt 0 I = true := by rw [hS.lt]; exact decide_eq_true (by omega)
      obtain ⟨q, hqi, s, t, r, p, hrow, hnth⟩ := hget (k - 1) (by omega)
      obtain ⟨c, hc, cg⟩ := hs q
      obtain ⟨J, hJ, j1⟩ : ∃ J : Int, J = ((k - 1 : Nat) : Int) ∧ zwrap .i64 (zsub I 1) = J := ⟨I - 1, by omega, by rw [hS.sub, hS.wrap, wrap_i64 (by omega) (by omega)]⟩
      have g1 : zle 0 J = true := by rw [hS.le]; exact decide_eq_true (by omega)
      have hz : znth R (znat J) = some [.v (.bool s), .lst false r, .v (.bool t), .lst false p] := by rw [hS.nat, hJ, Int.toNat_natCast, hS.nth, hnth, hrow]
      rw [hrow] at cg
      have htl : tlen P k = if q = 0 then tlen P (k - 1) else k := by
        obtain ⟨m, rfl⟩ : ∃ m, k = m + 1 := ⟨k - 1, by omega⟩
        rw [Nat.add_sub_cancel] at hqi
        rw [Nat.add_sub_cancel]
        show (if P.getD m 0 = 0 then tlen P m else m + 1) = _
        rw [hqi]
      by_cases hq0 : q = 0
      · have e1 : zeq c 0 = true := by rw [hS.eq]; exact decide_eq_true (hc.2 hq0)
        rw [if_pos hq0] at htl
        have hkk : k - 1 < k := by omega
        have hnx : ∃ I2 : Int, I2 = ((k - 1 : Nat) : Int) ∧ k - 1 ≤ n ∧ tlen P (k - 1) = T ∧ utrSt R J = utrSt R I2 := ⟨J, hJ, by omega, by rw [← htl]; exact hTk, rfl⟩
        clear hget hs hend
        subst hs1
        cbv
        refine bT l1 ?_
        rw [j1, hz]
        cbv
        refine nd (g1) ?_
        refine ⟨_, hS.call (cg), ?_⟩
        cbv
        refine bT (e1) ?_
        exact again (s' := utrSt R J) (m := k - 1) (by simp [leT, utrSt, mkSt, vi, vb, j1]) (by simp [leH, utrSt, mkSt]) rfl (Nat.le_refl 1) hkk hnx
      · have e1 : zeq c 0 = false := by rw [hS.eq]; exact decide_eq_false fun h => hq0 (hc.1 h)
        rw [if_neg hq0] at htl
        have hq := hend k hTk hk (by rw [← hTk, htl])
        clear hget hs hend
        subst hs1
        cbv
        refine bT l1 ?_
        rw [j1, hz]
        cbv
        refine nd (g1) ?_
        refine ⟨_, hS.call (cg), ?_⟩
        cbv
        refine bF (e1) ?_
        refine nd (w1) ?_
        refine nd (w2) ?_
        rw [w3, ← hq]
        exact hF _ (ResLe.refl _)

theorem utrim2_call (P : List Rat) (hl : P.length ≤ 1000) : ACall Tryz.prog 64 [.val (tl (ur P))] ⟨[.val (tl (ur (ptrim P)))], [none]⟩ :=
  utrimU_call P hl fun q => ⟨cmpI q.num 0, (cmp00 q.num).trans Rat.num_eq_zero, qsign_call _ (qc_isR q).n rfl⟩
end Go.Proofs.YtdhidmcjglokcaaGreat
end

section
set_option linter.unusedVariables false
set_option linter.unusedSimpArgs false
set_option maxHeartbeats 8000000
set_option linter.unusedVariables false
set_option linter.unusedSimpArgs false
set_option maxRecDepth 100000
namespace Go.Proofs.YtdhidmcjglokcaaGreat
open Go Go.Abs Go.Abs.M Go.Proofs

/-- a + c x^k b, the end not trimmed. -/
def pshift (P : List Rat) (c : Rat) (B : List Rat) (k : Nat) : List Rat := pacc (P ++ List.replicate (max P.length (B.length + k) - P.length) 0) c B k

theorem ushift_call (P B : List Rat) (c : Rat) (k a b d : Nat) (hl : B.length + k ≤ 1000) (hP : P.length ≤ 1000) (h1 : ∀ q ∈ P, Qs q a) (h2 : Qs c b) (h3 : ∀ q ∈ B, Qs q d) (ha : a ≤ 68719476736) (ha1 : 1 ≤ a) (hbd : b + d ≤ 68719476736) :
    ACall Tryz.prog 60 [.val (tl (ur P)), .val (.agg (qc c).row), .val (tl (ur B)), .val (ti .i64 (k : Int))] ⟨[.val (tl (ur (ptrim (pshift P c B k))))], [none, none, none, none]⟩ := by
  obtain ⟨n, hn⟩ : ∃ n, n = max P.length (B.length + k) := ⟨_, rfl⟩
  have cz := uzeros_call n (by omega)
  obtain ⟨K, hK⟩ : ∃ N : Int, N = k := ⟨_, rfl⟩
  have hR : (P ++ List.replicate (n - P.length) 0).length = n := by simp; omega
  have cac := uaccum_call (P ++ List.replicate (n - P.length) 0) B c k a b d (by omega) (by omega) (fun q hq => by
    rcases List.mem_append.1 hq with h | h
    · exact h1 q h
    · rw [(List.mem_replicate.1 h).2]; exact ⟨Nat.le_trans (nl_le_of (k := 1) (by decide)) ha1, Nat.le_trans (nl_le_of (k := 1) (by decide)) ha1⟩) h2 h3 ha hbd
  have ct := utrim2_call (pacc (P ++ List.replicate (n - P.length) 0) c B k) (by unfold pacc; rw [accL_len]; omega)
  have hfin : pacc (P ++ List.replicate (n - P.length) 0) c B k = pshift P c B k := by unfold pshift; rw [hn]
  rw [hfin] at ct cac
  obtain ⟨X, hX⟩ : ∃ X, X = ur P := ⟨_, rfl⟩
  obtain ⟨Y, hY⟩ : ∃ Y, Y = ur B := ⟨_, rfl⟩
  obtain ⟨Z0, hZ0⟩ : ∃ X, X = ur (List.replicate n 0) := ⟨_, rfl⟩
  obtain ⟨Z1, hZ1⟩ : ∃ X, X = ur (P ++ List.replicate (n - P.length) 0) := ⟨_, rfl⟩
  obtain ⟨Z2, hZ2⟩ : ∃ X, X = ur (pshift P c B k) := ⟨_, rfl⟩
  obtain ⟨Z3, hZ3⟩ : ∃ X, X = ur (ptrim (pshift P c B k)) := ⟨_, rfl⟩
  obtain ⟨s, hs⟩ : ∃ s, s = (qc c).s := ⟨_, rfl⟩
  obtain ⟨t, ht⟩ : ∃ s, s = (qc c).t := ⟨_, rfl⟩
  obtain ⟨r, hr⟩ : ∃ s, s = W .u32 (qc c).l := ⟨_, rfl⟩
  obtain ⟨p, hp⟩ : ∃ s, s = W .u32 (qc c).m := ⟨_, rfl⟩
  have hrow : (qc c).row = [.v (.bool s), .lst false r, .v (.bool t), .lst false p] := by rw [hs, ht, hr, hp]; rfl
  rw [hrow] at cac
  rw [← hZ0] at cz
  rw [← hZ1, ← hZ2, ← hY, ← hK] at cac
  rw [← hZ2, ← hZ3] at ct
  rw [hrow, ← hX, ← hY, ← hK, ← hZ3]
  obtain ⟨N, hN⟩ : ∃ N : Int, N = n := ⟨_, rfl⟩
  have hZl : Z0.length = n := by rw [hZ0, ur_len, List.length_replicate]
  have hZ2l : Z2.length = n := by rw [hZ2, ur_len, ← hfin]; unfold pacc; rw [accL_len, hR]
  have hZ1l : Z1.length = n := by rw [hZ1, ur_len, hR]
  have hwd : (X.all fun r => r.length == 4) = true := by
    refine List.all_eq_true.2 fun r hr => ?_
    rw [hX] at hr
    obtain ⟨c, _, rfl⟩ := List.mem_map.1 hr
    rfl
  have hsg : setRange Z0 0 X = Z1 := by
    rw [hZ0, hX, hZ1]
    unfold setRange
    rw [List.take_zero, List.nil_append, ur_len, Nat.zero_add]
    simp only [ur, qrows, List.map_append, List.map_drop, List.drop_replicate, List.map_replicate]
  rw [← hN] at cz
  have hXl : X.length = P.length := by rw [hX, ur_len]
  have hYl : Y.length = B.length := by rw [hY, ur_len]
  refine callZ ccOk mixed [.val] Tryz.func60 rfl rfl (by kernel_rfl) fun zwrap zadd zsub zmul zquo zrem zshl zshr zband zbor zbxor zbandn zeq zne zlt zle znot zbeq zbne zmax zmin znat zinb zofN zidx zneq znadd zdif zcut zroom zmkok zlen znth zsetr zisI zgetI zsetI zfit zpart zext zsetg zrep zwide zall zmok zmget zmset zW zth A L F hS hF => ?_
  have m1 : zmax (zofN (zlen X)) (zwrap .i64 (zadd (zofN (zlen Y)) K)) = N := by rw [hS.max, hS.ofN, hS.len, hS.ofN, hS.len, hS.add, hS.wrap, wrap_i64 (by omega) (by omega)]; omega
  have lz : zlen Z0 = n := by rw [hS.len, hZl]
  have f1 : zfit 0 (zlen Z0) Z0 = true := by rw [hS.fit, lz, hZl]; exact decide_eq_true (by omega)
  have f2 : zwide 4 X = true := by rw [hS.wide]; exact hwd
  have f3 : zle (zofN (zlen X)) (zofN (zlen Z0)) = true := by rw [hS.le, hS.ofN, hS.ofN, lz, hS.len]; exact decide_eq_true (by omega)
  have f0 : zsetg Z0 0 X = Z1 := by rw [hS.setg]; exact hsg
  have f4 : zfit 0 (zlen Z0) Z1 = true := by rw [hS.fit, lz, hZ1l]; exact decide_eq_true (by omega)
  have f5 : zpart Z1 0 (zlen Z0) = Z1 := by rw [hS.part, lz, ← hZ1l, List.drop_zero, List.take_length]
  have f6 : zneq (zlen Z2) (zlen Z0) = true := by rw [hS.neq, lz, hS.len, hZ2l]; exact decide_eq_true rfl
  have f7 : zsetg Z1 0 Z2 = Z2 := by rw [hS.setg]; unfold setRange; rw [List.take_zero, List.nil_append, Nat.zero_add, hZ2l, ← hZ1l, List.drop_length, List.append_nil]
  have f8 : zfit 0 (zlen Z0) Z2 = true := by rw [hS.fit, lz, hZ2l]; exact decide_eq_true (by omega)
  have f9 : zpart Z2 0 (zlen Z0) = Z2 := by rw [hS.part, lz, ← hZ2l, List.drop_zero, List.take_length]
  cbv
  rw [m1]
  refine ⟨_, hS.call (cz), ?_⟩
  cbv
  refine nd (f1) ?_
  refine nd (f2) ?_
  refine nd (f3) ?_
  rw [f0]
  refine nd (f4) ?_
  rw [f5]
  refine ⟨_, hS.call (cac), ?_⟩
  cbv
  refine nd (f6) ?_
  rw [f7]
  refine nd (f8) ?_
  rw [f9]
  refine ⟨_, hS.call (ct), ?_⟩
  cbv
  exact hF _ (ResLe.refl _)
end Go.Proofs.YtdhidmcjglokcaaGreat
end

section
set_option linter.unusedVariables false
set_option linter.unusedSimpArgs false
set_option maxHeartbeats 8000000
set_option linter.unusedVariables false
set_option linter.unusedSimpArgs false
set_option maxRecDepth 100000
namespace Go.Proofs.YtdhidmcjglokcaaGreat
open Go Go.Abs Go.Abs.M Go.Proofs

theorem pshift_len (P : List Rat) (c : Rat) (B : List Rat) (k : Nat) : (pshift P c B k).length = max P.length (B.length + k) := by
  unfold pshift pacc
  rw [accL_len, List.length_append, List.length_replicate]
  omega

theorem pshift_get (P : List Rat) (c : Rat) (B : List Rat) (k j : Nat) : (pshift P c B k).getD j 0 = P.getD j 0 + if k ≤ j then c * B.getD (j - k) 0 else 0 := by
  have hp : ∀ m, (P ++ List.replicate m (0 : Rat)).getD j 0 = P.getD j 0 := fun m => by
    rw [List.getD_eq_getElem?_getD, List.getD_eq_getElem?_getD, List.getElem?_append]
    split
    · rfl
    · rename_i h
      rw [List.getElem?_eq_none (by omega : P.length ≤ j), List.getElem?_replicate]
      split <;> rfl
  unfold pshift pacc
  rw [accL_get _ _ (by rw [List.length_append, List.length_replicate]; omega), hp]
  by_cases h : k ≤ j
  · rw [if_pos h]
    by_cases h2 : j < k + B.length
    · rw [if_pos ⟨h, h2⟩]
    · rw [if_neg (by omega), List.getD_eq_getElem?_getD, List.getD_eq_getElem?_getD (l := B), List.getElem?_eq_none (by omega : B.length ≤ j - k)]
      rw [Option.getD_none, Rat.mul_zero, Rat.add_zero]
  · rw [if_neg (by omega), if_neg h, Rat.add_zero]

theorem Qs.whole {n : Int} {k : Nat} (h : n.natAbs < 4294967296) (hk : 1 ≤ k) : Qs ((n : Int) : Rat) k :=
  ⟨Nat.le_trans (nl_le_of (k := 1) (by simp only [Rat.num_intCast]; omega)) hk, Nat.le_trans (nl_le_of (k := 1) (by simp only [Rat.den_intCast]; omega)) hk⟩

theorem uadd_call (P B : List Rat) (a b d : Nat) (hl : B.length ≤ 1000) (hP : P.length ≤ 1000) (h1 : ∀ q ∈ P, Qs q a) (h3 : ∀ q ∈ B, Qs q d) (ha : a ≤ 68719476736) (ha1 : 1 ≤ a) (hbd : 1 + d ≤ 68719476736) :
    ACall Tryz.prog 16 [.val (tl (ur P)), .val (tl (ur B))] ⟨[.val (tl (ur (ptrim (pshift P 1 B 0))))], [none, none]⟩ := by
  obtain ⟨s, r, v, p, hz, cw⟩ := pWhole_call 1 (by omega) (by omega)
  have hrow := qc_row hz
  rw [show ((1 : Int) : Rat) = 1 from rfl] at hrow
  have cs := ushift_call P B 1 0 a 1 d (by omega) hP h1 (Qs.whole (n := 1) (by decide) (Nat.le_refl 1)) h3 ha ha1 hbd
  rw [← hrow] at cs
  obtain ⟨X, hX⟩ : ∃ X, X = ur P := ⟨_, rfl⟩
  obtain ⟨Y, hY⟩ : ∃ Y, Y = ur B := ⟨_, rfl⟩
  obtain ⟨Z, hZ⟩ : ∃ X, X = ur (ptrim (pshift P 1 B 0)) := ⟨_, rfl⟩
  rw [← hX, ← hY, ← hZ] at cs
  rw [← hX, ← hY, ← hZ]
  refine callZ ccOk mixed [.val] Tryz.func16 rfl rfl (by kernel_rfl) fun zwrap zadd zsub zmul zquo zrem zshl zshr zband zbor zbxor zbandn zeq zne zlt zle znot zbeq zbne zmax zmin znat zinb zofN zidx zneq znadd zdif zcut zroom zmkok zlen znth zsetr zisI zgetI zsetI zfit zpart zext zsetg zrep zwide zall zmok zmget zmset zW zth A L F hS hF => ?_
  cbv
  refine ⟨_, hS.call (cw), ?_⟩
  cbv
  refine ⟨_, hS.call (cs), ?_⟩
  cbv
  exact hF _ (ResLe.refl _)

theorem usub_call (P B : List Rat) (a b d : Nat) (hl : B.length ≤ 1000) (hP : P.length ≤ 1000) (h1 : ∀ q ∈ P, Qs q a) (h3 : ∀ q ∈ B, Qs q d) (ha : a ≤ 68719476736) (ha1 : 1 ≤ a) (hbd : 1 + d ≤ 68719476736) :
    ACall Tryz.prog 18 [.val (tl (ur P)), .val (tl (ur B))] ⟨[.val (tl (ur (ptrim (pshift P (-1) B 0))))], [none, none]⟩ := by
  obtain ⟨s, r, v, p, hz, cw⟩ := pWhole_call (-1) (by omega) (by omega)
  have hrow := qc_row hz
  rw [show ((-1 : Int) : Rat) = -1 from rfl] at hrow
  have cs := ushift_call P B (-1) 0 a 1 d (by omega) hP h1 (Qs.whole (n := -1) (by decide) (Nat.le_refl 1)) h3 ha ha1 hbd
  rw [← hrow] at cs
  obtain ⟨X, hX⟩ : ∃ X, X = ur P := ⟨_, rfl⟩
  obtain ⟨Y, hY⟩ : ∃ Y, Y = ur B := ⟨_, rfl⟩
  obtain ⟨Z, hZ⟩ : ∃ X, X = ur (ptrim (pshift P (-1) B 0)) := ⟨_, rfl⟩
  rw [← hX, ← hY, ← hZ] at cs
  rw [← hX, ← hY, ← hZ]
  refine callZ ccOk mixed [.val] Tryz.func18 rfl rfl (by kernel_rfl) fun zwrap zadd zsub zmul zquo zrem zshl zshr zband zbor zbxor zbandn zeq zne zlt zle znot zbeq zbne zmax zmin znat zinb zofN zidx zneq znadd zdif zcut zroom zmkok zlen znth zsetr zisI zgetI zsetI zfit zpart zext zsetg zrep zwide zall zmok zmget zmset zW zth A L F hS hF => ?_
  cbv
  refine ⟨_, hS.call (cw), ?_⟩
  cbv
  refine ⟨_, hS.call (cs), ?_⟩
  cbv
  exact hF _ (ResLe.refl _)
end Go.Proofs.YtdhidmcjglokcaaGreat
end

section
set_option linter.unusedVariables false
set_option linter.unusedSimpArgs false
set_option maxHeartbeats 8000000
set_option linter.unusedVariables false
set_option linter.unusedSimpArgs false
set_option maxRecDepth 100000
namespace Go.Proofs.YtdhidmcjglokcaaGreat
open Go Go.Abs Go.Abs.M Go.Proofs

theorem uscale_call (B : List Rat) (c : Rat) (b d : Nat) (hl : B.length ≤ 1000) (h2 : Qs c b) (h3 : ∀ q ∈ B, Qs q d) (hbd : b + d ≤ 68719476736) :
    ACall Tryz.prog 21 [.val (.agg (qc c).row), .val (tl (ur B))] ⟨[.val (tl (ur (ptrim (pshift [] c B 0))))], [none, none]⟩ := by
  obtain ⟨n, hn⟩ : ∃ n, n = B.length := ⟨_, rfl⟩
  have cz := uzeros_call n (by omega)
  have hR : (List.replicate n (0 : Rat)).length = n := by simp
  have cac := uaccum_call (List.replicate n 0) B c 0 1 b d (by omega) (by omega) (fun q hq => by
    rw [(List.mem_replicate.1 hq).2]; exact Qs.whole (n := 0) (by decide) (Nat.le_refl 1)) h2 h3 (by omega) hbd
  have hfin : pacc (List.replicate n 0) c B 0 = pshift [] c B 0 := by unfold pshift; rw [hn]; simp
  rw [hfin] at cac
  have ct := utrim2_call (pshift [] c B 0) (by rw [← hfin]; unfold pacc; rw [accL_len]; omega)
  obtain ⟨Y, hY⟩ : ∃ Y, Y = ur B := ⟨_, rfl⟩
  obtain ⟨Z0, hZ0⟩ : ∃ X, X = ur (List.replicate n 0) := ⟨_, rfl⟩
  obtain ⟨Z2, hZ2⟩ : ∃ X, X = ur (pshift [] c B 0) := ⟨_, rfl⟩
  obtain ⟨Z3, hZ3⟩ : ∃ X, X = ur (ptrim (pshift [] c B 0)) := ⟨_, rfl⟩
  obtain ⟨s, hs⟩ : ∃ s, s = (qc c).s := ⟨_, rfl⟩
  obtain ⟨t, ht⟩ : ∃ s, s = (qc c).t := ⟨_, rfl⟩
  obtain ⟨r, hr⟩ : ∃ s, s = W .u32 (qc c).l := ⟨_, rfl⟩
  obtain ⟨p, hp⟩ : ∃ s, s = W .u32 (qc c).m := ⟨_, rfl⟩
  have hrow : (qc c).row = [.v (.bool s), .lst false r, .v (.bool t), .lst false p] := by rw [hs, ht, hr, hp]; rfl
  rw [hrow] at cac
  rw [← hZ0] at cz
  rw [← hZ0, ← hZ2, ← hY] at cac
  rw [← hZ2, ← hZ3] at ct
  rw [hrow, ← hY, ← hZ3]
  obtain ⟨N, hN⟩ : ∃ N : Int, N = n := ⟨_, rfl⟩
  rw [← hN] at cz
  have hZl : Z0.length = n := by rw [hZ0, ur_len, List.length_replicate]
  have hZ2l : Z2.length = n := by rw [hZ2, ur_len, ← hfin]; unfold pacc; rw [accL_len, hR]
  have hYl : Y.length = n := by rw [hY, ur_len, hn]
  refine callZ ccOk mixed [.val] Tryz.func21 rfl rfl (by kernel_rfl) fun zwrap zadd zsub zmul zquo zrem zshl zshr zband zbor zbxor zbandn zeq zne zlt zle znot zbeq zbne zmax zmin znat zinb zofN zidx zneq znadd zdif zcut zroom zmkok zlen znth zsetr zisI zgetI zsetI zfit zpart zext zsetg zrep zwide zall zmok zmget zmset zW zth A L F hS hF => ?_
  have m1 : zofN (zlen Y) = N := by rw [hS.ofN, hS.len, hYl, hN]
  have lz : zlen Z0 = n := by rw [hS.len, hZl]
  have f4 : zfit 0 (zlen Z0) Z0 = true := by rw [hS.fit, lz, hZl]; exact decide_eq_true (by omega)
  have f5 : zpart Z0 0 (zlen Z0) = Z0 := by rw [hS.part, lz, ← hZl, List.drop_zero, List.take_length]
  have f6 : zneq (zlen Z2) (zlen Z0) = true := by rw [hS.neq, lz, hS.len, hZ2l]; exact decide_eq_true rfl
  have f7 : zsetg Z0 0 Z2 = Z2 := by rw [hS.setg]; unfold setRange; rw [List.take_zero, List.nil_append, Nat.zero_add, hZ2l, ← hZl, List.drop_length, List.append_nil]
  have f8 : zfit 0 (zlen Z0) Z2 = true := by rw [hS.fit, lz, hZ2l]; exact decide_eq_true (by omega)
  have f9 : zpart Z2 0 (zlen Z0) = Z2 := by rw [hS.part, lz, ← hZ2l, List.drop_zero, List.take_length]
  cbv
  rw [m1]
  refine ⟨_, hS.call (cz), ?_⟩
  cbv
  refine nd (f4) ?_
  rw [f5]
  refine ⟨_, hS.call (cac), ?_⟩
  cbv
  refine nd (f6) ?_
  rw [f7]
  refine nd (f8) ?_
  rw [f9]
  refine ⟨_, hS.call (ct), ?_⟩
  cbv
  exact hF _ (ResLe.refl _)
end Go.Proofs.YtdhidmcjglokcaaGreat
end

section
set_option linter.unusedVariables false
set_option linter.unusedSimpArgs false
set_option maxHeartbeats 8000000
set_option linter.unusedVariables false
set_option linter.unusedSimpArgs false
set_option maxRecDepth 100000
namespace Go.Proofs.YtdhidmcjglokcaaGreat
open Go Go.Abs Go.Abs.M Go.Proofs

/-- The product, the first i coefficients of a used. -/
def pmulL (P B : List Rat) (R : List Rat) : Nat → List Rat
  | 0 => R
  | i + 1 => pacc (pmulL P B R i) (P.getD i 0) B i
def pmul (P B : List Rat) : List Rat := pmulL P B (List.replicate (P.length + B.length - 1) 0) P.length

theorem pmulL_len (P B R : List Rat) : ∀ i, (pmulL P B R i).length = R.length
  | 0 => rfl
  | i + 1 => by unfold pmulL pacc; rw [accL_len, pmulL_len P B R i]

theorem accL_all {R B : List Rat} {c : Rat} {k a b d : Nat} (h1 : ∀ q ∈ R, Qs q a) (h2 : Qs c b) (h3 : ∀ q ∈ B, Qs q d) (hl : B.length + k ≤ R.length) : ∀ q ∈ pacc R c B k, Qs q (a + (b + d) + 1) := fun q hq => by
  obtain ⟨j, hj⟩ := List.getElem?_of_mem hq
  have hlt := (List.getElem?_eq_some_iff.1 hj).1
  have hq2 : (pacc R c B k).getD j 0 = q := by rw [List.getD_eq_getElem?_getD, hj]; rfl
  unfold pacc at hq2 hlt
  rw [accL_len] at hlt
  rw [accL_get _ _ (by omega)] at hq2
  have hx : Qs (R.getD j 0) a := by
    rw [List.getD_eq_getElem?_getD, List.getElem?_eq_getElem hlt]
    exact h1 _ (List.getElem_mem hlt)
  by_cases h : k ≤ j ∧ j < k + B.length
  · rw [if_pos h] at hq2
    rw [← hq2]
    refine add_small hx (mul_small h2 ?_)
    rw [List.getD_eq_getElem?_getD, List.getElem?_eq_getElem (by omega : j - k < B.length)]
    exact h3 _ (List.getElem_mem _)
  · rw [if_neg h] at hq2
    rw [← hq2]
    exact hx.mono (by omega)

theorem pmulL_all {P B R : List Rat} {a b d : Nat} (h1 : ∀ q ∈ R, Qs q a) (h2 : ∀ q ∈ P, Qs q b) (h3 : ∀ q ∈ B, Qs q d) (hl : P.length + B.length ≤ R.length + 1) : ∀ i, i ≤ P.length → ∀ q ∈ pmulL P B R i, Qs q (a + i * (b + d + 1))
  | 0, _ => fun q hq => (h1 q hq).mono (by omega)
  | i + 1, hi => fun q hq => by
    have ih := pmulL_all h1 h2 h3 hl i (by omega)
    have hp : Qs (P.getD i 0) b := by
      rw [List.getD_eq_getElem?_getD, List.getElem?_eq_getElem (by omega : i < P.length)]
      exact h2 _ (List.getElem_mem _)
    refine (accL_all ih hp h3 (by rw [pmulL_len]; omega) q hq).mono ?_
    rw [Nat.succ_mul]; omega

def umSt (X Y R : Abs.Rows) (n : Nat) (M i : Int) : St := mkSt 38 [.c (.t (.lst false X)), .c (.t (.lst false Y)), .junk, .junk, .junk, .c (.sl 2 0 n false), .junk, .junk, .junk, .junk, .junk, .junk, .junk, .junk, .junk, .junk, .junk, .junk, .junk, .junk, .junk, .junk, .junk, .c (.t (.lst false X)), vi .i64 M, vi .i64 i] [none, none, some (.rows 4 R true false)]

theorem umul_call (P B : List Rat) (b d : Nat) (hP0 : P ≠ []) (hB0 : B ≠ []) (hl : P.length + B.length ≤ 1000) (h2 : ∀ q ∈ P, Qs q b) (h3 : ∀ q ∈ B, Qs q d) (hbd : b + d ≤ 67108864) :
    ACall Tryz.prog 17 [.val (tl (ur P)), .val (tl (ur B))] ⟨[.val (tl (ur (ptrim (pmul P B))))], [none, none]⟩ := by
  obtain ⟨m, hm⟩ : ∃ m, m = P.length := ⟨_, rfl⟩
  obtain ⟨l, hl2⟩ : ∃ m, m = B.length := ⟨_, rfl⟩
  have hm0 : m ≠ 0 := fun h => hP0 (List.length_eq_zero_iff.1 (hm.symm.trans h))
  have hl0 : l ≠ 0 := fun h => hB0 (List.length_eq_zero_iff.1 (hl2.symm.trans h))
  obtain ⟨n, hn⟩ : ∃ n, n = m + l - 1 := ⟨_, rfl⟩
  have cz := uzeros_call n (by omega)
  obtain ⟨X, hX⟩ : ∃ Y, Y = ur P := ⟨_, rfl⟩
  obtain ⟨Y, hY⟩ : ∃ Y, Y = ur B := ⟨_, rfl⟩
  obtain ⟨Z0, hZ0⟩ : ∃ X, X = ur (List.replicate n 0) := ⟨_, rfl⟩
  obtain ⟨Z3, hZ3⟩ : ∃ X, X = ur (ptrim (pmul P B)) := ⟨_, rfl⟩
  obtain ⟨N, hN⟩ : ∃ N : Int, N = n := ⟨_, rfl⟩
  rw [← hN, ← hZ0] at cz
  rw [← hX, ← hY, ← hZ3]
  have hXl : X.length = m := by rw [hX, ur_len, hm]
  have hYl : Y.length = l := by rw [hY, ur_len, hl2]
  refine callZ ccOk mixed [.val] Tryz.func17 rfl rfl (by kernel_rfl) fun zwrap zadd zsub zmul zquo zrem zshl zshr zband zbor zbxor zbandn zeq zne zlt zle znot zbeq zbne zmax zmin znat zinb zofN zidx zneq znadd zdif zcut zroom zmkok zlen znth zsetr zisI zgetI zsetI zfit zpart zext zsetg zrep zwide zall zmok zmget zmset zW zth A L F hS hF => ?_
  have lx : zlen X = m := by rw [hS.len, hXl]
  have ly : zlen Y = l := by rw [hS.len, hYl]
  have m1 : zwrap .i64 (zsub (zwrap .i64 (zadd (zofN (zlen X)) (zofN (zlen Y)))) 1) = N := by rw [lx, ly, hS.sub, hS.add, hS.ofN, hS.ofN, hS.wrap, hS.wrap, wrap_i64 (x := ((m : Int) + l)) (by omega) (by omega), wrap_i64 (by omega) (by omega)]; omega
  have lz : zlen Z0 = n := by rw [hS.len, hZ0, ur_len, List.length_replicate]
  obtain ⟨M, hM, hM2⟩ : ∃ N : Int, N = m ∧ zofN (zlen X) = N := ⟨_, rfl, by rw [lx, hS.ofN]⟩
  have e1 : zeq (zofN (zlen X)) 0 = false := by rw [hS.eq, hS.ofN, lx]; exact decide_eq_false (by omega)
  have e2 : zeq (zofN (zlen Y)) 0 = false := by rw [hS.eq, hS.ofN, ly]; exact decide_eq_false (by omega)
  cbv
  refine bF e1 (bF e2 ?_)
  rw [m1]
  refine ⟨_, hS.call (cz), ?_⟩
  cbv
  have hM : M = (m : Int) := hM
  refine loopZ ccOk mixed hS (fun (j : Nat) s' => ∃ (i : Nat) (I : Int) (R : Abs.Rows), I = i ∧ i + j = m ∧ R = ur (pmulL P B (List.replicate n 0) i) ∧ s' = umSt X Y R n M I) (n := m) (s0 := umSt X Y Z0 n M 0) (le_of ?_ ?_) rfl (by show 2 ≤ 3; omega) ?_ ?_
  · simp [leT, umSt, mkSt, vi, hM2, lz]
  · simp [leH, umSt, mkSt]
  · exact ⟨0, 0, Z0, rfl, by omega, hZ0, rfl⟩
  · rintro j s1 ⟨i, I, R, hI, hij, hR, hs1⟩
    by_cases hi : i < m
    · have l1 : zlt I M = true := by rw [hS.lt]; exact decide_eq_true (by omega)
      obtain ⟨c, hc⟩ : ∃ q, q = P.getD i 0 := ⟨_, rfl⟩
      have hPi : P[i]? = some c := by rw [hc, List.getD_eq_getElem?_getD, List.getElem?_eq_getElem (by omega)]; rfl
      have hXi : X[i]? = some (qc c).row := by rw [hX]; exact ur_get hPi
      obtain ⟨s2, t2, r2, p2, hrow2⟩ : ∃ s2 t2 r2 p2, (qc c).row = [.v (.bool s2), .lst false r2, .v (.bool t2), .lst false p2] := ⟨_, _, _, _, rfl⟩
      have hb : i * (b + d + 1) ≤ 1000 * (b + d + 1) := Nat.mul_le_mul_right _ (by omega)
      have cac := uaccum_call (pmulL P B (List.replicate n 0) i) B c i (1 + i * (b + d + 1)) b d (by rw [pmulL_len, List.length_replicate]; omega) (by rw [pmulL_len, List.length_replicate]; omega) (pmulL_all (fun q hq => by
        rw [(List.mem_replicate.1 hq).2]; exact Qs.whole (n := 0) (by decide) (Nat.le_refl 1)) h2 h3 (by rw [List.length_replicate]; omega) i (by omega)) (h2 _ (List.mem_of_getElem? hPi)) h3 (by omega) (by omega)
      obtain ⟨R2, hR2⟩ : ∃ R, R = ur (pmulL P B (List.replicate n 0) (i + 1)) := ⟨_, rfl⟩
      have hpp : pacc (pmulL P B (List.replicate n 0) i) c B i = pmulL P B (List.replicate n 0) (i + 1) := by rw [hc]; rfl
      rw [hpp, ← hR2, ← hR, ← hY, ← hI, hrow2] at cac
      rw [hrow2] at hXi
      have hRl : R.length = n := by rw [hR, ur_len, pmulL_len, List.length_replicate]
      have hR2l : R2.length = n := by rw [hR2, ur_len, pmulL_len, List.length_replicate]
      have j1 : znat I = i := by rw [hS.nat]; omega
      have n0 : zle 0 I = true := by rw [hS.le]; exact decide_eq_true (by omega)
      have j2 : znth X i = some [.v (.bool s2), .lst false r2, .v (.bool t2), .lst false p2] := by rw [hS.nth]; exact hXi
      have f4 : zfit 0 n R = true := by rw [hS.fit, hRl]; exact decide_eq_true (by omega)
      have f5 : zpart R 0 n = R := by rw [hS.part, ← hRl, List.drop_zero, List.take_length]
      have f6 : zneq (zlen R2) n = true := by rw [hS.neq, hS.len, hR2l]; exact decide_eq_true rfl
      have f7 : zsetg R 0 R2 = R2 := by rw [hS.setg]; unfold setRange; rw [List.take_zero, List.nil_append, Nat.zero_add, hR2l, ← hRl, List.drop_length, List.append_nil]
      have f8 : zfit 0 n R2 = true := by rw [hS.fit, hR2l]; exact decide_eq_true (by omega)
      obtain ⟨I', hI', i1⟩ : ∃ I' : Int, I' = ((i + 1 : Nat) : Int) ∧ zwrap .i64 (zadd I 1) = I' := ⟨I + 1, by omega, by rw [hS.add, hS.wrap, wrap_i64 (by omega) (by omega)]⟩
      have hjj : j - 1 < j := by omega
      have hnx : ∃ (i2 : Nat) (I2 : Int) (R3 : Abs.Rows), I2 = i2 ∧ i2 + (j - 1) = m ∧ R3 = ur (pmulL P B (List.replicate n 0) i2) ∧ umSt X Y R2 n M I' = umSt X Y R3 n M I2 := ⟨i + 1, I', R2, hI', by omega, hR2, rfl⟩
      subst hs1
      cbv
      refine bT l1 ?_
      rw [j1, j2]
      cbv
      refine nd (n0) ?_
      refine nd (f4) ?_
      rw [f5]
      refine ⟨_, hS.call (cac), ?_⟩
      cbv
      refine nd (f6) ?_
      exact again (s' := umSt X Y R2 n M I') (m := j - 1) (by simp [leT, umSt, mkSt, vi, i1]) (by simp [leH, umSt, mkSt, f7]) rfl (by show 2 ≤ 3; omega) hjj hnx
    · have l1 : zlt I M = false := by rw [hS.lt]; exact decide_eq_false (by omega)
      have him : i = P.length := by omega
      have hfin : pmulL P B (List.replicate n 0) i = pmul P B := by rw [him, hn, hm, hl2]; rfl
      have ct := utrim2_call (pmul P B) (by rw [← hfin, pmulL_len, List.length_replicate]; omega)
      rw [← hfin, ← hR, hfin, ← hZ3] at ct
      have hRl : R.length = n := by rw [hR, ur_len, pmulL_len, List.length_replicate]
      have f4 : zfit 0 n R = true := by rw [hS.fit, hRl]; exact decide_eq_true (by omega)
      have f5 : zpart R 0 n = R := by rw [hS.part, ← hRl, List.drop_zero, List.take_length]
      subst hs1
      cbv
      refine bF l1 (nd f4 ?_)
      rw [f5]
      refine ⟨_, hS.call (ct), ?_⟩
      cbv
      exact hF _ (ResLe.refl _)
end Go.Proofs.YtdhidmcjglokcaaGreat
end

section
set_option linter.unusedVariables false
set_option linter.unusedSimpArgs false
set_option maxHeartbeats 8000000
set_option linter.unusedVariables false
namespace Go.Proofs.YtdhidmcjglokcaaGreat
open Go Go.Abs Go.Abs.M Go.Proofs

/-- The coefficient of x^j of a product, the first i coefficients of a used. -/
def csum (P B : List Rat) (j : Nat) : Nat → Rat
  | 0 => 0
  | i + 1 => csum P B j i + if i ≤ j then P.getD i 0 * B.getD (j - i) 0 else 0

theorem pacc_get (R B : List Rat) (c : Rat) (k j : Nat) (h : B.length + k ≤ R.length) : (pacc R c B k).getD j 0 = R.getD j 0 + if k ≤ j then c * B.getD (j - k) 0 else 0 := by
  unfold pacc
  rw [accL_get _ _ (by omega)]
  by_cases h1 : k ≤ j
  · rw [if_pos h1]
    by_cases h2 : j < k + B.length
    · rw [if_pos ⟨h1, h2⟩]
    · rw [if_neg (by omega), List.getD_eq_getElem?_getD (l := B), List.getElem?_eq_none (by omega : B.length ≤ j - k)]
      rw [Option.getD_none, Rat.mul_zero, Rat.add_zero]
  · rw [if_neg (by omega), if_neg h1, Rat.add_zero]

theorem pmulL_get {P B R : List Rat} (hl : P.length + B.length ≤ R.length + 1) (j : Nat) : ∀ i, i ≤ P.length → (pmulL P B R i).getD j 0 = R.getD j 0 + csum P B j i
  | 0, _ => by unfold pmulL csum; rw [Rat.add_zero]
  | i + 1, hi => by
    unfold pmulL csum
    rw [pacc_get _ _ _ _ _ (by rw [pmulL_len]; omega), pmulL_get hl j i (by omega), Rat.add_assoc]
end Go.Proofs.YtdhidmcjglokcaaGreat
end

section
set_option linter.unusedVariables false
set_option linter.unusedSimpArgs false
set_option maxHeartbeats 8000000
set_option linter.unusedVariables false
set_option linter.unusedSimpArgs false
set_option maxRecDepth 100000
namespace Go.Proofs.YtdhidmcjglokcaaGreat
open Go Go.Abs Go.Abs.M Go.Proofs

theorem umul_nil1 (B : List Rat) (hl : B.length ≤ 1000) :
    ACall Tryz.prog 17 [.val (tl []), .val (tl (ur B))] ⟨[.val (.c (.lst true []))], [none, none]⟩ := by
  obtain ⟨Y, hY⟩ : ∃ Y, Y = ur B := ⟨_, rfl⟩
  rw [← hY]
  refine callZ ccOk mixed [.val] Tryz.func17 rfl rfl (by kernel_rfl) fun zwrap zadd zsub zmul zquo zrem zshl zshr zband zbor zbxor zbandn zeq zne zlt zle znot zbeq zbne zmax zmin znat zinb zofN zidx zneq znadd zdif zcut zroom zmkok zlen znth zsetr zisI zgetI zsetI zfit zpart zext zsetg zrep zwide zall zmok zmget zmset zW zth A L F hS hF => ?_
  have e1 : zeq (zofN (zlen [])) 0 = true := by rw [hS.eq, hS.ofN, hS.len]; rfl
  cbv
  refine bT e1 ?_
  exact hF _ (ResLe.refl _)

theorem umul_nil2 (P : List Rat) (hP : P ≠ []) (hl : P.length ≤ 1000) :
    ACall Tryz.prog 17 [.val (tl (ur P)), .val (tl [])] ⟨[.val (.c (.lst true []))], [none, none]⟩ := by
  obtain ⟨Y, hY⟩ : ∃ Y, Y = ur P := ⟨_, rfl⟩
  have hYl : Y.length ≠ 0 := by rw [hY, ur_len]; exact fun h => hP (List.length_eq_zero_iff.1 h)
  rw [← hY]
  refine callZ ccOk mixed [.val] Tryz.func17 rfl rfl (by kernel_rfl) fun zwrap zadd zsub zmul zquo zrem zshl zshr zband zbor zbxor zbandn zeq zne zlt zle znot zbeq zbne zmax zmin znat zinb zofN zidx zneq znadd zdif zcut zroom zmkok zlen znth zsetr zisI zgetI zsetI zfit zpart zext zsetg zrep zwide zall zmok zmget zmset zW zth A L F hS hF => ?_
  have e1 : zeq (zofN (zlen Y)) 0 = false := by rw [hS.eq, hS.ofN, hS.len]; exact decide_eq_false (by omega)
  have e2 : zeq (zofN (zlen [])) 0 = true := by rw [hS.eq, hS.ofN, hS.len]; rfl
  cbv
  refine bF e1 (bT e2 ?_)
  exact hF _ (ResLe.refl _)
end Go.Proofs.YtdhidmcjglokcaaGreat
end

section
set_option linter.unusedVariables false
set_option linter.unusedSimpArgs false
/-
  Polynomials as lists of coefficients: lists with the same coefficients have the same trimmed list.
-/
set_option linter.unusedVariables false
namespace Go.Abs

theorem tlen_beyond (P : List Rat) : ∀ k, P.length ≤ k → tlen P k = tlen P P.length
  | 0, h => by rw [show P.length = 0 by omega]
  | k + 1, h => by
    by_cases hk : P.length = k + 1
    · rw [hk]
    · unfold tlen
      rw [if_pos (by rw [List.getD_eq_getElem?_getD, List.getElem?_eq_none (by omega)]; rfl), tlen_beyond P k (by omega)]
      cases hP : P.length <;> rfl

theorem tlen_congr {P Q : List Rat} (h : ∀ j, P.getD j 0 = Q.getD j 0) : ∀ k, tlen P k = tlen Q k
  | 0 => rfl
  | k + 1 => by unfold tlen; rw [h k, tlen_congr h k]

theorem ptrim_ext {P Q : List Rat} (h : ∀ j, P.getD j 0 = Q.getD j 0) : ptrim P = ptrim Q := by
  have e : tlen P P.length = tlen Q Q.length := by
    rw [← tlen_beyond P (max P.length Q.length) (by omega), ← tlen_beyond Q (max P.length Q.length) (by omega)]
    exact tlen_congr h _
  have h1 := tlen_le P P.length
  have h2 := tlen_le Q Q.length
  unfold ptrim
  refine List.ext_getElem? fun i => ?_
  rw [e, List.getElem?_take, List.getElem?_take]
  by_cases hi : i < tlen Q Q.length
  · rw [if_pos hi, if_pos hi]
    have hj := h i
    rw [List.getD_eq_getElem?_getD, List.getD_eq_getElem?_getD, List.getElem?_eq_getElem (by omega : i < P.length), List.getElem?_eq_getElem (by omega : i < Q.length)] at hj
    rw [List.getElem?_eq_getElem (by omega : i < P.length), List.getElem?_eq_getElem (by omega : i < Q.length)]
    exact congrArg some hj
  · rw [if_neg hi, if_neg hi]

theorem tlen_zero (P : List Rat) : ∀ k j, tlen P k ≤ j → j < k → P.getD j 0 = 0
  | 0, j, _, h => by omega
  | k + 1, j, h, h2 => by
    unfold tlen at h
    by_cases h0 : P.getD k 0 = 0
    · rw [if_pos h0] at h
      by_cases hj : j = k
      · rw [hj]; exact h0
      · exact tlen_zero P k j h (by omega)
    · rw [if_neg h0] at h; omega

theorem ptrim_get (P : List Rat) (j : Nat) : (ptrim P).getD j 0 = P.getD j 0 := by
  unfold ptrim
  rw [List.getD_eq_getElem?_getD, List.getElem?_take]
  by_cases h : j < tlen P P.length
  · rw [if_pos h, List.getD_eq_getElem?_getD]
  · rw [if_neg h, Option.getD_none]
    by_cases h2 : j < P.length
    · exact (tlen_zero P _ j (by omega) h2).symm
    · rw [List.getD_eq_getElem?_getD, List.getElem?_eq_none (by omega)]; rfl

theorem ptrim_idem (P : List Rat) : ptrim (ptrim P) = ptrim P := ptrim_ext (ptrim_get P)

theorem ptrim_len (P : List Rat) : (ptrim P).length ≤ P.length := by
  unfold ptrim
  rw [List.length_take]; omega

theorem ptrim_mem {P : List Rat} {q : Rat} (h : q ∈ ptrim P) : q ∈ P := List.mem_of_mem_take h
end Go.Abs
end

section
set_option linter.unusedVariables false
set_option linter.unusedSimpArgs false
set_option maxHeartbeats 8000000
set_option linter.unusedVariables false
set_option linter.unusedSimpArgs false
set_option maxRecDepth 100000
namespace Go.Proofs.YtdhidmcjglokcaaGreat
open Go Go.Abs Go.Abs.M Go.Proofs

def rusSt (X Y : Abs.Rows) (i : Int) : St := mkSt 27 [.c (.t (.lst false X)), .c (.t (.lst false Y)), .junk, .junk, .junk, vi .i64 i] [none, none]

theorem rusame_call (P B : List Rat) (b : Bool) (hb : b = true ↔ P = B) (hl : P.length ≤ 1000) (hB : B.length ≤ 1000) (h1 : ∀ q ∈ P, Qs q 68719476736) :
    ACall Tryz.prog 19 [.val (tl (ur P)), .val (tl (ur B))] ⟨[.val (tb b)], [none, none]⟩ := by
  obtain ⟨X, hX⟩ : ∃ Y, Y = ur P := ⟨_, rfl⟩
  obtain ⟨Y, hY⟩ : ∃ Y, Y = ur B := ⟨_, rfl⟩
  obtain ⟨m, hm⟩ : ∃ m, m = P.length := ⟨_, rfl⟩
  obtain ⟨l, hl2⟩ : ∃ m, m = B.length := ⟨_, rfl⟩
  have hXl : X.length = m := by rw [hX, ur_len, hm]
  have hYl : Y.length = l := by rw [hY, ur_len, hl2]
  rw [← hX, ← hY]
  by_cases hml : m = l
  · subst hml
    refine callZ ccOk mixed [.val] Tryz.func19 rfl rfl (by kernel_rfl) fun zwrap zadd zsub zmul zquo zrem zshl zshr zband zbor zbxor zbandn zeq zne zlt zle znot zbeq zbne zmax zmin znat zinb zofN zidx zneq znadd zdif zcut zroom zmkok zlen znth zsetr zisI zgetI zsetI zfit zpart zext zsetg zrep zwide zall zmok zmget zmset zW zth A L F hS hF => ?_
    have e1 : zne (zofN (zlen X)) (zofN (zlen Y)) = false := by rw [hS.ne, hS.ofN, hS.ofN, hS.len, hS.len, hXl, hYl]; exact decide_eq_false (by simp)
    cbv
    refine bF e1 ?_
    refine loopZ ccOk mixed hS (fun (j : Nat) s' => ∃ (i : Nat) (I : Int), I = i ∧ i + j = m ∧ P.take i = B.take i ∧ s' = rusSt X Y I) (n := m) (s0 := rusSt X Y 0) (le_of ?_ ?_) rfl (by show 2 ≤ 2; omega) ?_ ?_
    · simp [leT, rusSt, mkSt, vi]
    · simp [leH, rusSt, mkSt]
    · exact ⟨0, 0, rfl, by omega, rfl, rfl⟩
    · rintro j s1 ⟨i, I, hI, hij, hT, hs1⟩
      by_cases hi : i < m
      · have l1 : zlt I (zofN (zlen X)) = true := by rw [hS.lt, hS.ofN, hS.len, hXl]; exact decide_eq_true (by omega)
        have hPi : P[i]? = some P[i] := List.getElem?_eq_getElem (by omega)
        have hBi : B[i]? = some B[i] := List.getElem?_eq_getElem (by omega)
        obtain ⟨x, hx⟩ : ∃ x, x = P[i] := ⟨_, rfl⟩
        obtain ⟨y, hy⟩ : ∃ x, x = B[i] := ⟨_, rfl⟩
        rw [← hx] at hPi
        rw [← hy] at hBi
        have hXi : X[i]? = some (qc x).row := by rw [hX]; exact ur_get hPi
        have hYi : Y[i]? = some (qc y).row := by rw [hY]; exact ur_get hBi
        obtain ⟨s2, t2, r2, p2, hrow2, hrx⟩ : ∃ s2 t2 r2 p2, (qc x).row = [.v (.bool s2), .lst false r2, .v (.bool t2), .lst false p2] ∧ IsR x s2 r2 t2 p2 := ⟨_, _, _, _, rfl, qc_isR x⟩
        obtain ⟨s3, t3, r3, p3, hrow3, hry⟩ : ∃ s2 t2 r2 p2, (qc y).row = [.v (.bool s2), .lst false r2, .v (.bool t2), .lst false p2] ∧ IsR y s2 r2 t2 p2 := ⟨_, _, _, _, rfl, qc_isR y⟩
        rw [hrow2] at hXi
        rw [hrow3] at hYi
        obtain ⟨c, hc⟩ := bool_ex (x = y)
        have cs := rqsame_call c hrx hry hc (h1 _ (List.mem_of_getElem? hPi))
        have j1 : znat I = i := by rw [hS.nat]; omega
        have n0 : zle 0 I = true := by rw [hS.le]; exact decide_eq_true (by omega)
        have j2 : znth X i = some [.v (.bool s2), .lst false r2, .v (.bool t2), .lst false p2] := by rw [hS.nth]; exact hXi
        have j3 : znth Y i = some [.v (.bool s3), .lst false r3, .v (.bool t3), .lst false p3] := by rw [hS.nth]; exact hYi
        obtain ⟨I', hI', i1⟩ : ∃ I' : Int, I' = ((i + 1 : Nat) : Int) ∧ zwrap .i64 (zadd I 1) = I' := ⟨I + 1, by omega, by rw [hS.add, hS.wrap, wrap_i64 (by omega) (by omega)]⟩
        have hjj : j - 1 < j := by omega
        have zn1 : znot true = false := by rw [hS.not]; rfl
        have zn2 : znot false = true := by rw [hS.not]; rfl
        by_cases hxy : x = y
        · have hct : c = true := hc.2 hxy
          subst hct
          have hnx : ∃ (i2 : Nat) (I2 : Int), I2 = i2 ∧ i2 + (j - 1) = m ∧ P.take i2 = B.take i2 ∧ rusSt X Y I' = rusSt X Y I2 := ⟨i + 1, I', hI', by omega, by rw [List.take_add_one, List.take_add_one, hT, hPi, hBi, hxy], rfl⟩
          subst hs1
          cbv
          refine bT l1 ?_
          rw [j1, j2]
          cbv
          refine nd (n0) ?_
          rw [j1, j3]
          cbv
          refine nd (n0) ?_
          refine ⟨_, hS.call (cs), ?_⟩
          cbv
          refine bF (zn1) ?_
          exact again (s' := rusSt X Y I') (m := j - 1) (by simp [leT, rusSt, mkSt, vi, i1]) (by simp [leH, rusSt, mkSt]) rfl (by show 2 ≤ 2; omega) hjj hnx
        · have hcf : c = false := by cases c with | false => rfl | true => exact absurd (hc.1 rfl) hxy
          have hbf : b = false := by
            cases b with
            | false => rfl
            | true => exact absurd (by have := hb.1 rfl; rw [this, hBi] at hPi; exact (Option.some.inj hPi).symm) hxy
          subst hcf
          subst hbf
          subst hs1
          cbv
          refine bT l1 ?_
          rw [j1, j2]
          cbv
          refine nd (n0) ?_
          rw [j1, j3]
          cbv
          refine nd (n0) ?_
          refine ⟨_, hS.call (cs), ?_⟩
          cbv
          refine bT (zn2) ?_
          exact hF _ (ResLe.refl _)
      · have l1 : zlt I (zofN (zlen X)) = false := by rw [hS.lt, hS.ofN, hS.len, hXl]; exact decide_eq_false (by omega)
        have hbt : b = true := hb.2 (by rw [← List.take_length (l := P), ← List.take_length (l := B), ← hm, ← hl2]; rw [show m = i by omega]; exact hT)
        subst hbt
        subst hs1
        cbv
        refine bF l1 ?_
        exact hF _ (ResLe.refl _)
  · have hbf : b = false := by
      cases b with
      | false => rfl
      | true => exact absurd (by rw [hm, hl2, hb.1 rfl]) hml
    subst hbf
    refine callZ ccOk mixed [.val] Tryz.func19 rfl rfl (by kernel_rfl) fun zwrap zadd zsub zmul zquo zrem zshl zshr zband zbor zbxor zbandn zeq zne zlt zle znot zbeq zbne zmax zmin znat zinb zofN zidx zneq znadd zdif zcut zroom zmkok zlen znth zsetr zisI zgetI zsetI zfit zpart zext zsetg zrep zwide zall zmok zmget zmset zW zth A L F hS hF => ?_
    have e1 : zne (zofN (zlen X)) (zofN (zlen Y)) = true := by rw [hS.ne, hS.ofN, hS.ofN, hS.len, hS.len, hXl, hYl]; exact decide_eq_true (by omega)
    cbv
    refine bT e1 ?_
    exact hF _ (ResLe.refl _)
end Go.Proofs.YtdhidmcjglokcaaGreat
end

section
set_option linter.unusedVariables false
set_option linter.unusedSimpArgs false
/-
  Values of polynomials: what a list of coefficients stands for is the function that it evaluates to.
-/
set_option linter.unusedVariables false
namespace Go.Abs

/-- The value of a list of coefficients. -/
def ev : List Rat → Rat → Rat
  | [], _ => 0
  | c :: P, x => c + x * ev P x

theorem ev_app (P Q : List Rat) (x : Rat) : ev (P ++ Q) x = ev P x + x ^ P.length * ev Q x := by
  induction P with
  | nil => simp [ev, Rat.zero_add, Rat.one_mul]
  | cons c P ih =>
    simp only [List.cons_append, ev, List.length_cons, Rat.pow_succ]
    rw [ih]
    grind

theorem ev_zeros (n : Nat) (x : Rat) : ev (List.replicate n 0) x = 0 := by
  induction n with
  | zero => rfl
  | succ n ih => simp only [List.replicate_succ, ev]; rw [ih]; grind

theorem ev_set (l : List Rat) (j : Nat) (d x : Rat) (h : j < l.length) : ev (l.set j d) x = ev l x + (d - l.getD j 0) * x ^ j := by
  induction l generalizing j with
  | nil => simp at h
  | cons c l ih =>
    cases j with
    | zero => simp only [List.set_cons_zero, ev, List.getD_cons_zero, Rat.pow_zero]; grind
    | succ j =>
      simp only [List.set_cons_succ, ev, List.getD_cons_succ, Rat.pow_succ]
      rw [ih j (by simpa using h)]; grind

theorem ev_ext {P Q : List Rat} (h : ∀ j, P.getD j 0 = Q.getD j 0) (x : Rat) : ev P x = ev Q x := by
  induction P generalizing Q with
  | nil =>
    induction Q with
    | nil => rfl
    | cons d Q ih =>
      have h0 := h 0
      simp at h0
      have := ih fun j => by have := h (j + 1); simpa using this
      simp only [ev] at this ⊢
      rw [← this, ← h0]; grind
  | cons c P ih =>
    cases Q with
    | nil =>
      have h0 := h 0
      simp at h0
      have := ih (Q := []) fun j => by have := h (j + 1); simpa using this
      simp only [ev] at this ⊢
      rw [this, h0]; grind
    | cons d Q =>
      have h0 := h 0
      simp at h0
      have := ih (Q := Q) fun j => by have := h (j + 1); simpa using this
      simp only [ev]
      rw [this, h0]

theorem ev_trim (P : List Rat) (x : Rat) : ev (ptrim P) x = ev P x := ev_ext (ptrim_get P) x

theorem ev_take_succ (B : List Rat) (i : Nat) (x : Rat) (h : i < B.length) : ev (B.take (i + 1)) x = ev (B.take i) x + B.getD i 0 * x ^ i := by
  rw [List.take_add_one, ev_app, List.length_take, Nat.min_eq_left (by omega), List.getD_eq_getElem?_getD, List.getElem?_eq_getElem h]
  simp only [Option.toList_some, ev, Option.getD_some]
  grind

theorem rpow_add (x : Rat) (m : Nat) : ∀ n, x ^ (m + n) = x ^ m * x ^ n
  | 0 => by simp [Rat.mul_one]
  | n + 1 => by rw [← Nat.add_assoc, Rat.pow_succ, Rat.pow_succ, rpow_add x m n, Rat.mul_assoc]

theorem ev_accL (R : List Rat) (c : Rat) (B : List Rat) (k : Nat) (x : Rat) (h : B.length + k ≤ R.length) : ∀ i, i ≤ B.length → ev (accL R c B k i) x = ev R x + c * x ^ k * ev (B.take i) x
  | 0, _ => by simp [accL, ev, Rat.mul_zero, Rat.add_zero]
  | i + 1, hi => by
    unfold accL
    rw [ev_set _ _ _ _ (by rw [accL_len]; omega), ev_accL R c B k x h i (by omega), ev_take_succ B i x (by omega), show i + k = k + i by omega, rpow_add]
    grind

theorem ev_pacc (R : List Rat) (c : Rat) (B : List Rat) (k : Nat) (x : Rat) (h : B.length + k ≤ R.length) : ev (pacc R c B k) x = ev R x + c * x ^ k * ev B x := by
  unfold pacc
  rw [ev_accL R c B k x h _ (Nat.le_refl _), List.take_length]

/-- The quotient of a list by x - r. -/
def syn : List Rat → Rat → List Rat
  | [], _ => []
  | [_], _ => []
  | _ :: d :: P, r => ev (d :: P) r :: syn (d :: P) r

theorem syn_len : ∀ (P : List Rat) (r : Rat), (syn P r).length = P.length - 1
  | [], _ => rfl
  | [_], _ => rfl
  | c :: d :: P, r => by simp only [syn, List.length_cons]; rw [syn_len (d :: P) r]; simp

theorem syn_ev : ∀ (P : List Rat) (r x : Rat), ev P x = ev P r + (x - r) * ev (syn P r) x
  | [], _, _ => by simp [ev, syn]; grind
  | [_], _, _ => by simp [ev, syn]; grind
  | c :: d :: P, r, x => by
    have ih := syn_ev (d :: P) r x
    have e1 : ev (c :: d :: P) x = c + x * ev (d :: P) x := rfl
    have e2 : ev (c :: d :: P) r = c + r * ev (d :: P) r := rfl
    have e3 : ev (syn (c :: d :: P) r) x = ev (d :: P) r + x * ev (syn (d :: P) r) x := rfl
    rw [e1, e2, e3, ih]
    grind

theorem syn_zero : ∀ (P : List Rat) (r : Rat), ev P r = 0 → (∀ j, (syn P r).getD j 0 = 0) → ∀ j, P.getD j 0 = 0
  | [], _, _, _, _ => by simp
  | [c], r, h, _, j => by
    simp [ev] at h
    cases j with
    | zero => simpa [Rat.mul_zero, Rat.add_zero] using h
    | succ j => simp
  | c :: d :: P, r, h, hs, j => by
    have h1 : ev (d :: P) r = 0 := by have := hs 0; simpa [syn] using this
    have ih := syn_zero (d :: P) r h1 fun j => by have := hs (j + 1); simpa [syn] using this
    have h2 : ev (c :: d :: P) r = c + r * ev (d :: P) r := rfl
    cases j with
    | zero => simp; grind
    | succ j => simpa using ih j

theorem ev_zero_aux : ∀ (n : Nat) (P : List Rat) (s : Rat), P.length ≤ n → (∀ x, s ≤ x → ev P x = 0) → ∀ j, P.getD j 0 = 0
  | 0, P, s, hl, _, j => by rw [List.length_eq_zero_iff.1 (by omega : P.length = 0)]; rfl
  | n + 1, P, s, hl, h, j => by
    have hs := h s Rat.le_refl
    refine syn_zero P s hs (ev_zero_aux n (syn P s) (s + 1) (by rw [syn_len]; omega) fun x hx => ?_) j
    have h1 := h x (by grind)
    have h2 := syn_ev P s x
    rw [h1, hs] at h2
    have h3 : x - s ≠ 0 := by grind
    have h4 : (x - s) * ev (syn P s) x = 0 := by grind
    rcases Rat.mul_eq_zero.1 h4 with h5 | h5
    · exact absurd h5 h3
    · exact h5

theorem ev_zero {P : List Rat} (h : ∀ x, ev P x = 0) (j : Nat) : P.getD j 0 = 0 := ev_zero_aux P.length P 0 (Nat.le_refl _) (fun x _ => h x) j
end Go.Abs
end

section
set_option linter.unusedVariables false
set_option linter.unusedSimpArgs false
set_option maxHeartbeats 8000000
set_option linter.unusedVariables false
set_option linter.unusedSimpArgs false
set_option maxRecDepth 100000
namespace Go.Proofs.YtdhidmcjglokcaaGreat
open Go Go.Abs Go.Abs.M Go.Proofs

/-- P is the list of the polynomial f: trimmed, at most n coefficients, of at most k words. -/
structure PL (f : Rat → Rat) (n k : Nat) (P : List Rat) : Prop where
  tr : ptrim P = P
  ev : ∀ x, ev P x = f x
  len : P.length ≤ n
  sz : ∀ q ∈ P, Qs q k

theorem ev_shift (P : List Rat) (c : Rat) (B : List Rat) (k : Nat) (x : Rat) : Abs.ev (pshift P c B k) x = Abs.ev P x + c * x ^ k * Abs.ev B x := by
  unfold pshift
  rw [ev_pacc _ _ _ _ _ (by simp; omega), ev_app, ev_zeros]
  grind

theorem ev_pmulL (P B R : List Rat) (x : Rat) (h : P.length + B.length ≤ R.length + 1) : ∀ i, i ≤ P.length → Abs.ev (pmulL P B R i) x = Abs.ev R x + Abs.ev (P.take i) x * Abs.ev B x
  | 0, _ => by simp [pmulL, Abs.ev, Rat.zero_mul, Rat.add_zero]
  | i + 1, hi => by
    unfold pmulL
    rw [ev_pacc _ _ _ _ _ (by rw [pmulL_len]; omega), ev_pmulL P B R x h i (by omega), ev_take_succ P i x (by omega)]
    grind

theorem ev_pmul (P B : List Rat) (x : Rat) : Abs.ev (pmul P B) x = Abs.ev P x * Abs.ev B x := by
  unfold pmul
  rw [ev_pmulL P B _ x (by simp; omega) _ (Nat.le_refl _), ev_zeros, List.take_length, Rat.zero_add]

/-- Two lists of the same polynomial have the same coefficients. -/
theorem ev_inj {P Q : List Rat} (h : ∀ x, Abs.ev P x = Abs.ev Q x) (j : Nat) : P.getD j 0 = Q.getD j 0 := by
  have h0 := ev_zero (P := pshift P (-1) Q 0) (fun x => by rw [ev_shift, h x]; grind) j
  rw [pshift_get, if_pos (Nat.zero_le _), Nat.sub_zero] at h0
  grind

theorem PL.inj {f g : Rat → Rat} {n k m l : Nat} {P Q : List Rat} (h1 : PL f n k P) (h2 : PL g m l Q) (h : ∀ x, f x = g x) : P = Q := by
  rw [← h1.tr, ← h2.tr]
  exact ptrim_ext (ev_inj fun x => by rw [h1.ev, h2.ev, h])

theorem PL.mono {f : Rat → Rat} {n k m l : Nat} {P : List Rat} (h : PL f n k P) (h1 : n ≤ m) (h2 : k ≤ l) : PL f m l P :=
  ⟨h.tr, h.ev, Nat.le_trans h.len h1, fun q hq => (h.sz q hq).mono h2⟩

theorem PL.congr {f g : Rat → Rat} {n k : Nat} {P : List Rat} (h : PL f n k P) (e : ∀ x, f x = g x) : PL g n k P :=
  ⟨h.tr, fun x => by rw [h.ev, e], h.len, h.sz⟩

theorem PL.of_trim {f : Rat → Rat} {n k : Nat} {P : List Rat} (h1 : ∀ x, Abs.ev P x = f x) (h2 : P.length ≤ n) (h3 : ∀ q ∈ P, Qs q k) : PL f n k (ptrim P) :=
  ⟨ptrim_idem P, fun x => by rw [ev_trim, h1], Nat.le_trans (ptrim_len P) h2, fun q hq => h3 q (ptrim_mem hq)⟩

theorem PL.self {f : Rat → Rat} {n k : Nat} {P : List Rat} (h : PL f n k P) : PL (Abs.ev P) n k P := ⟨h.tr, fun _ => rfl, h.len, h.sz⟩

theorem PL.nil : PL (fun _ => 0) 0 0 [] := ⟨rfl, fun _ => rfl, Nat.le_refl _, fun q hq => by cases hq⟩

theorem Qs.zero {k : Nat} : 1 ≤ k → Qs 0 k := fun h => Qs.whole (n := 0) (by decide) h

/-- Sizes of a sum. -/
theorem pshift_all {P B : List Rat} {c : Rat} {k a b d : Nat} (h1 : ∀ q ∈ P, Qs q a) (h2 : Qs c b) (h3 : ∀ q ∈ B, Qs q d) (ha : 1 ≤ a) : ∀ q ∈ pshift P c B k, Qs q (a + (b + d) + 1) := by
  unfold pshift
  refine accL_all (fun q hq => ?_) h2 h3 (by simp; omega)
  rcases List.mem_append.1 hq with h | h
  · exact h1 q h
  · rw [(List.mem_replicate.1 h).2]; exact Qs.zero ha

theorem pl_add {f g : Rat → Rat} {n m a b : Nat} {P B : List Rat} (hP : PL f n a P) (hB : PL g m b B) (ha : 1 ≤ a) (hn : n ≤ 1000) (hm : m ≤ 1000) (hs : a + b ≤ 68719476700) :
    ∃ R, PL (fun x => f x + g x) (max n m) (a + b + 2) R ∧ ACall Tryz.prog 16 [.val (tl (ur P)), .val (tl (ur B))] ⟨[.val (tl (ur R))], [none, none]⟩ := by
  refine ⟨_, PL.of_trim (fun x => ?_) ?_ (fun q hq => ?_), uadd_call P B a 1 b (Nat.le_trans hB.len hm) (Nat.le_trans hP.len hn) hP.sz hB.sz (by omega) ha (by omega)⟩
  · rw [ev_shift, hP.ev, hB.ev]; grind
  · rw [pshift_len]; have := hP.len; have := hB.len; omega
  · exact (pshift_all hP.sz (Qs.whole (n := 1) (by decide) (Nat.le_refl 1)) hB.sz ha q hq).mono (by omega)

theorem pl_sub {f g : Rat → Rat} {n m a b : Nat} {P B : List Rat} (hP : PL f n a P) (hB : PL g m b B) (ha : 1 ≤ a) (hn : n ≤ 1000) (hm : m ≤ 1000) (hs : a + b ≤ 68719476700) :
    ∃ R, PL (fun x => f x - g x) (max n m) (a + b + 2) R ∧ ACall Tryz.prog 18 [.val (tl (ur P)), .val (tl (ur B))] ⟨[.val (tl (ur R))], [none, none]⟩ := by
  refine ⟨_, PL.of_trim (fun x => ?_) ?_ (fun q hq => ?_), usub_call P B a 1 b (Nat.le_trans hB.len hm) (Nat.le_trans hP.len hn) hP.sz hB.sz (by omega) ha (by omega)⟩
  · rw [ev_shift, hP.ev, hB.ev]; grind
  · rw [pshift_len]; have := hP.len; have := hB.len; omega
  · exact (pshift_all hP.sz (Qs.whole (n := -1) (by decide) (Nat.le_refl 1)) hB.sz ha q hq).mono (by omega)

theorem pl_scale {g : Rat → Rat} {m b d : Nat} {c : Rat} {B : List Rat} (hc : Qs c d) (hB : PL g m b B) (hm : m ≤ 1000) (hs : d + b ≤ 68719476700) :
    ∃ R, PL (fun x => c * g x) m (d + b + 2) R ∧ ACall Tryz.prog 21 [.val (.agg (qc c).row), .val (tl (ur B))] ⟨[.val (tl (ur R))], [none, none]⟩ := by
  refine ⟨_, PL.of_trim (fun x => ?_) ?_ (fun q hq => ?_), uscale_call B c d b (Nat.le_trans hB.len hm) hc hB.sz (by omega)⟩
  · rw [ev_shift, hB.ev]; simp only [Abs.ev]; grind
  · rw [pshift_len]; have := hB.len; simp; omega
  · exact (pshift_all (P := []) (a := 1) (fun q hq => by cases hq) hc hB.sz (Nat.le_refl 1) q hq).mono (by omega)

/-- univariate.Mul for all lists. -/
theorem umul_all (P B : List Rat) (b d : Nat) (hl : P.length + B.length ≤ 1000) (h2 : ∀ q ∈ P, Qs q b) (h3 : ∀ q ∈ B, Qs q d) (hbd : b + d ≤ 67108864) :
    ACall Tryz.prog 17 [.val (tl (ur P)), .val (tl (ur B))] ⟨[.val (tl (ur (ptrim (pmul P B))))], [none, none]⟩ := by
  have hw : ∀ {args : List Arg}, ACall Tryz.prog 17 args ⟨[.val (.c (.lst true []))], [none, none]⟩ → ACall Tryz.prog 17 args ⟨[.val (tl [])], [none, none]⟩ :=
    fun h => ACall.weak (ArgsLe.refl _) (show ResLe ⟨[.val (.c (.lst true []))], [none, none]⟩ ⟨[.val (tl [])], [none, none]⟩ from ⟨⟨TLe.drop _ _, trivial⟩, rfl⟩) h
  have hz : (∀ x, Abs.ev P x * Abs.ev B x = 0) → ptrim (pmul P B) = [] := fun h => ptrim_ext (P := pmul P B) (Q := []) (ev_inj fun x => by rw [ev_pmul, h]; rfl)
  by_cases hP : P = []
  · subst hP
    rw [hz fun x => by simp [Abs.ev, Rat.zero_mul]]
    exact hw (umul_nil1 B (by simpa using hl))
  by_cases hB : B = []
  · subst hB
    rw [hz fun x => by simp [Abs.ev, Rat.mul_zero]]
    exact hw (umul_nil2 P hP (by simpa using hl))
  exact umul_call P B b d hP hB hl h2 h3 hbd

theorem pmul_all {P B : List Rat} {b d : Nat} (h2 : ∀ q ∈ P, Qs q b) (h3 : ∀ q ∈ B, Qs q d) : ∀ q ∈ pmul P B, Qs q (1 + P.length * (b + d + 1)) := by
  unfold pmul
  refine pmulL_all (fun q hq => ?_) h2 h3 (by simp; omega) _ (Nat.le_refl _)
  rw [(List.mem_replicate.1 hq).2]; exact Qs.zero (Nat.le_refl 1)

theorem pl_mul {f g : Rat → Rat} {n m a b : Nat} {P B : List Rat} (hP : PL f n a P) (hB : PL g m b B) (hn : n + m ≤ 1000) (hs : a + b ≤ 67108864) :
    ∃ R, PL (fun x => f x * g x) (n + m - 1) (1 + n * (a + b + 1)) R ∧ ACall Tryz.prog 17 [.val (tl (ur P)), .val (tl (ur B))] ⟨[.val (tl (ur R))], [none, none]⟩ := by
  have h1 := hP.len
  have h2 := hB.len
  refine ⟨_, PL.of_trim (fun x => ?_) ?_ (fun q hq => ?_), umul_all P B a b (by omega) hP.sz hB.sz hs⟩
  · rw [ev_pmul, hP.ev, hB.ev]
  · unfold pmul
    rw [pmulL_len, List.length_replicate]; omega
  · exact (pmul_all hP.sz hB.sz q hq).mono (Nat.add_le_add_left (Nat.mul_le_mul_right _ h1) 1)

theorem pl_same {f g : Rat → Rat} {n m a b : Nat} {P B : List Rat} (hP : PL f n a P) (hB : PL g m b B) (h : ∀ x, f x = g x) (hn : n ≤ 1000) (hm : m ≤ 1000) (hs : a ≤ 68719476736) :
    ACall Tryz.prog 19 [.val (tl (ur P)), .val (tl (ur B))] ⟨[.val (tb true)], [none, none]⟩ :=
  rusame_call P B true ⟨fun _ => hP.inj hB h, fun _ => rfl⟩ (Nat.le_trans hP.len hn) (Nat.le_trans hB.len hm) fun q hq => (hP.sz q hq).mono hs

theorem PL.uok {f : Rat → Rat} {n a : Nat} {P : List Rat} (hP : PL f n a P) : UOk (P.map qc) := hP.tr ▸ ptrim_ok P

theorem PL.cells {f : Rat → Rat} {n a : Nat} {P : List Rat} (hP : PL f n a P) (h : a ≤ 68719476736) : ∀ c ∈ P.map qc, c.ok 68719476736 := fun c hc => by
  obtain ⟨q, hq, rfl⟩ := List.mem_map.1 hc
  have := hP.sz q hq
  exact ⟨dg_wd _, dg_wd _, by show nl q.num.natAbs ≤ 68719476736; have := this.1; omega, by show nl (q.den : Int).natAbs ≤ 68719476736; rw [Int.natAbs_natCast]; have := this.2; omega⟩

theorem ruvalid_big (cs : List QC) (b : Bool) (hb : b = true ↔ UOk cs) (hw : ∀ c ∈ cs, c.ok 68719476736) (hl : cs.length ≤ 1000) : ACall Tryz.prog 14 [.val (tl (qrows cs))] ⟨[.val (tb b)], [none]⟩ := by
  refine ruvalid_gen cs b hb hl (fun c hc => ?_) (fun c hc hcan => ?_)
  · obtain ⟨b1, hb1⟩ := bool_ex c.can
    have h := hw c hc
    exact ⟨b1, hb1, rqvalid_call b1 hb1 h.l h.m (by have := h.ll; omega) (by have := h.lm; omega)⟩
  · obtain ⟨x, h1, h2⟩ := QC.sign hcan
    exact ⟨cmpI x 0, (cmp00 x).trans h2, rqsign_call _ h1 rfl⟩

theorem pl_valid {f : Rat → Rat} {n a : Nat} {P : List Rat} (hP : PL f n a P) (hn : n ≤ 1000) (ha : a ≤ 68719476736) :
    ACall Tryz.prog 14 [.val (tl (ur P))] ⟨[.val (tb true)], [none]⟩ :=
  ruvalid_big (P.map qc) true ⟨fun _ => hP.uok, fun _ => rfl⟩ (hP.cells ha) (by rw [List.length_map]; exact Nat.le_trans hP.len hn)

/-- What R.Made makes. -/
theorem pl_made (xs : List RW) (hx : ∀ x ∈ xs, x.ok) (D : Nat) (hD2 : D ≤ 100) (hlx : xs.length < 9223372036854775808) :
    ∃ P f, PL f (D + 1) 8 P ∧ ACall Tryz.prog 15 [.val (tl (rwrows xs)), .val (ti .i64 (D : Int))] ⟨[.val (tl (ur P))], [none, none]⟩ := by
  refine ⟨_, _, PL.of_trim (P := (xs.take (D + 1)).map RW.q) (fun _ => rfl) (by rw [List.length_map, List.length_take]; omega) (fun q hq => ?_), umade_call xs hx D (by omega) (by omega) hlx⟩
  obtain ⟨x, hxm, rfl⟩ := List.mem_map.1 hq
  have ho := hx x (List.mem_of_mem_take hxm)
  exact madeQ_small ho.n1 ho.n2 ho.d1 ho.d2 ho.k1 ho.k2

/-- Degrees add up. -/
theorem csum_top {P B : List Rat} (j : Nat) : ∀ i, i ≤ j + 1 → j < i - 1 + B.length → (∀ k, k + 1 < i → B.getD (j - k) 0 = 0) → csum P B j i = if i = 0 then 0 else P.getD (i - 1) 0 * B.getD (j - (i - 1)) 0
  | 0, _, _, _ => rfl
  | i + 1, h1, h2, h3 => by
    unfold csum
    rw [if_pos (by omega), if_neg (by omega), show i + 1 - 1 = i by omega]
    have hz : ∀ k, k ≤ i → csum P B j k = 0 := fun k hk => by
      induction k with
      | zero => rfl
      | succ k ih =>
        unfold csum
        rw [ih (by omega), if_pos (by omega), h3 k (by omega)]; grind
    rw [hz i (Nat.le_refl _), Rat.zero_add]

theorem PL.last {f : Rat → Rat} {n a : Nat} {P : List Rat} (hP : PL f n a P) (h : P ≠ []) : P.getD (P.length - 1) 0 ≠ 0 := by
  have h1 : tlen P P.length = P.length := by
    have := congrArg List.length hP.tr
    unfold ptrim at this
    rw [List.length_take] at this
    have := tlen_le P P.length
    omega
  have h2 : P.length ≠ 0 := fun h0 => h (List.length_eq_zero_iff.1 h0)
  have := tlen_last P P.length (by omega)
  rwa [h1] at this

theorem tlen_top {P : List Rat} (h : P ≠ []) (h0 : P.getD (P.length - 1) 0 ≠ 0) : ptrim P = P := by
  unfold ptrim
  obtain ⟨n, hn⟩ : ∃ n, P.length = n + 1 := ⟨P.length - 1, by have : P.length ≠ 0 := fun h1 => h (List.length_eq_zero_iff.1 h1); omega⟩
  rw [hn] at h0 ⊢
  unfold tlen
  rw [if_neg (by simpa using h0), ← hn, List.take_length]

theorem PL.mul_len {f g e : Rat → Rat} {n m l a b c : Nat} {P B R : List Rat} (hP : PL f n a P) (hB : PL g m b B) (hR : PL e l c R) (he : ∀ x, e x = f x * g x) (h1 : P ≠ []) (h2 : B ≠ []) : R.length = P.length + B.length - 1 := by
  have l1 : P.length ≠ 0 := fun h => h1 (List.length_eq_zero_iff.1 h)
  have l2 : B.length ≠ 0 := fun h => h2 (List.length_eq_zero_iff.1 h)
  have hl : (pmul P B).length = P.length + B.length - 1 := by unfold pmul; rw [pmulL_len, List.length_replicate]
  have hne : pmul P B ≠ [] := fun h => by rw [h] at hl; simp at hl; omega
  have htop : (pmul P B).getD ((pmul P B).length - 1) 0 = P.getD (P.length - 1) 0 * B.getD (B.length - 1) 0 := by
    rw [hl]
    unfold pmul
    rw [pmulL_get (by simp; omega) _ _ (Nat.le_refl _), csum_top _ _ (by omega) (by omega) (fun k hk => by rw [List.getD_eq_getElem?_getD, List.getElem?_eq_none (by omega)]; rfl), if_neg l1, show P.length + B.length - 1 - 1 - (P.length - 1) = B.length - 1 by omega]
    rw [List.getD_eq_getElem?_getD, List.getElem?_replicate]
    split <;> simp [Rat.zero_add]
  have hnz : (pmul P B).getD ((pmul P B).length - 1) 0 ≠ 0 := by
    rw [htop]
    intro h
    rcases Rat.mul_eq_zero.1 h with h | h
    · exact hP.last h1 h
    · exact hB.last h2 h
  have : R = pmul P B := by
    rw [← hR.tr, ← tlen_top hne hnz]
    exact ptrim_ext (ev_inj fun x => by rw [hR.ev, he, ev_pmul, hP.ev, hB.ev])
  rw [this, hl]

theorem PL.eq_nil {f : Rat → Rat} {n a : Nat} {P : List Rat} (hP : PL f n a P) (h : ∀ x, f x = 0) : P = [] := hP.inj PL.nil h
end Go.Proofs.YtdhidmcjglokcaaGreat
end

