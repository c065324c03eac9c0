/-
  A part of the proof: ProE03, MPsp, MLam, MCase2, MLc, MCase1, MPrm1, MPrm2, MCase3, MPrm3, MPrm, ProH03, RefQ03.
-/
import Derived.Test.YtgncmjcoojmccaaM8
import Derived.Calls
import Derived.Laws.Cells
import Derived.Below
import Derived.Laws.Small
import Derived.Laws.IdiomCopy
import Derived.Laws.BytesString
import Derived.Laws.Append
import Derived.Laws.Tables
import Derived.Great.BuildSlice
import Derived.IntWalk
import Derived.Orders
import Derived.Laws.BitsLemmas
import Derived.Test.YtgncmjcoojmccaaProg

section
set_option linter.unusedVariables false
set_option linter.unusedSimpArgs false
set_option maxHeartbeats 8000000
set_option linter.unusedVariables false
set_option linter.unusedSimpArgs false
set_option maxRecDepth 100000
namespace Go.Proofs.Ytgncmjcoojmccaa
open Go Go.Abs Go.Abs.M Go.Proofs

def pps1St (n w o t : Int) : St := mkSt 43 [vi .u64 n, vi .u64 w, .junk, .junk, vb false, vi .u64 o, vi .i64 t] [none, none]
def pps2St (n w x c i : Int) : St := mkSt 43 [vi .u64 n, vi .u64 w, .junk, .junk, vb false, .junk, .junk, vi .u64 x, .junk, .junk, .junk, .junk, .junk, .junk, .junk, .junk, .junk, .junk, .junk, .junk, .junk, .junk, .junk, .junk, .junk, .junk, .junk, .junk, .junk, .junk, vi .i64 c, vi .i64 i] [none, none, none, none]

theorem two_pow_lt {t : Nat} (h : 2 ^ t < 2147483648) : t < 31 := by
  rcases Nat.lt_or_ge t 31 with h1 | h1
  · exact h1
  · have := Nat.pow_le_pow_right (show 0 < 2 by omega) h1; omega

theorem half_step {N o t : Nat} (h : N = o * 2 ^ t) (he : o % 2 = 0) : N = (o / 2) * 2 ^ (t + 1) := by
  rw [h, Nat.pow_succ, Nat.mul_comm (2 ^ t), ← Nat.mul_assoc, Nat.div_mul_cancel (Nat.dvd_of_mod_eq_zero he)]

theorem mr_none {n w o t : Nat} (h1 : w ^ o % n ≠ 1) (h2 : ∀ j, j < t → w ^ (o * 2 ^ j) % n ≠ n - 1) : ¬ SPr n w o t := by
  rintro (h | ⟨i, h, h'⟩)
  · exact h1 h
  · exact h2 i h h'

theorem sq_pow (n w o j x : Nat) (h : x = w ^ (o * 2 ^ j) % n) : x * x % n = w ^ (o * 2 ^ (j + 1)) % n := by
  rw [h, ← Nat.mul_mod, ← Nat.pow_add]; congr 2; rw [Nat.pow_succ, ← Nat.mul_assoc]; omega

theorem ppasses_call (n w : Nat) (b : Bool) (hn : 3 ≤ n) (hn2 : n < 2147483648) (hodd : n % 2 = 1) (hw : w < 2147483648) (hb : b = true ↔ MR n w) :
    ACall Try.prog 38 [.val (ti .u64 (n : Int)), .val (ti .u64 (w : Int))] ⟨[.val (tb b)], [none, none]⟩ := by
  have hcp : ∀ (o : Nat) (O : Int), O = o → o < 2147483648 → ∃ X : Int, X = ((w ^ o % n : Nat) : Int) ∧ ACall Try.prog 20 [.val (ti .u64 (w : Int)), .val (ti .u64 O), .val (ti .u64 (n : Int))] ⟨[.val (ti .u64 X)], [none, none, none]⟩ := fun o O hO ho => by
    subst hO
    have c := pow_call (w : Int) (o : Int) (n : Int) (by omega) (by omega) (by omega) (by omega) (by omega)
    refine ⟨_, ?_, c⟩
    rw [Int.toNat_natCast, Int.natCast_emod, Int.natCast_pow]
  obtain ⟨N, hN⟩ : ∃ N : Int, N = n := ⟨_, rfl⟩
  obtain ⟨W', hW⟩ : ∃ N : Int, N = w := ⟨_, rfl⟩
  rw [← hN, ← hW]
  rw [← hN, ← hW] at hcp
  refine callZ ccOk mixed [.val] Try.func38 rfl rfl (by kernel_rfl) fun zwrap zadd zsub zmul zquo zrem zshl zshr zband zbor zbxor zbandn zeq zne zlt zle znot zbeq zbne zmax zmin znat zinb zofN zidx zneq znadd zdif zcut zroom zmkok zlen znth zsetr zisI zgetI zsetI zfit zpart zext zsetg zrep zwide zall zmok zmget zmset zW zth A L F hS hF => ?_
  have A0 : ∃ M : Int, M = ((n - 1 : Nat) : Int) ∧ zwrap .u64 (zsub N 1) = M := by
    refine ⟨_, rfl, ?_⟩
    rw [hS.sub, hS.wrap, hN, wrap_u64 (by omega) (by omega)]; omega
  have A1 : ∀ (o : Nat) (O : Int), O = o → zeq (zrem O 2) 0 = decide (o % 2 = 0) := fun o O hO => by
    rw [hS.eq, hS.rem, Int.tmod_eq_emod_of_nonneg (by omega)]
    by_cases h : o % 2 = 0
    · rw [decide_eq_true h]; exact decide_eq_true (by omega)
    · rw [decide_eq_false h]; exact decide_eq_false (by omega)
  have A2 : ∀ (o : Nat) (O : Int), O = o → o < 2147483648 → ∃ O' : Int, O' = ((o / 2 : Nat) : Int) ∧ zwrap .u64 (zquo O 2) = O' := fun o O hO h => by
    refine ⟨_, rfl, ?_⟩
    rw [hS.quo, hS.wrap, Int.tdiv_eq_ediv_of_nonneg (by omega), wrap_u64 (by omega) (by omega)]; omega
  have A3 : ∀ (t : Nat) (T : Int), T = t → t < 100 → ∃ T' : Int, T' = ((t + 1 : Nat) : Int) ∧ zwrap .i64 (zadd T 1) = T' := fun t T hT h => by
    refine ⟨_, rfl, ?_⟩
    rw [hS.add, hS.wrap, wrap_i64 (by omega) (by omega)]; omega
  have A4 : zne N 0 = true := by rw [hS.ne]; exact decide_eq_true (by omega)
  have A5 : ∀ (x y : Nat) (X Y : Int), X = x → Y = y → zeq X Y = decide (x = y) := fun x y X Y hX hY => by
    rw [hS.eq]
    by_cases h : x = y
    · rw [decide_eq_true h]; exact decide_eq_true (by omega)
    · rw [decide_eq_false h]; exact decide_eq_false (by omega)
  have A6 : ∀ (x : Nat) (X : Int), X = x → x < n → ∃ X' : Int, X' = ((x * x % n : Nat) : Int) ∧ zrem (zwrap .u64 (zmul X X)) N = X' := fun x X hX h => by
    obtain ⟨k1, k2⟩ := mul_lt (a := (x : Int)) (b := (x : Int)) (p := n) (by omega) (by omega) (by omega) (by omega) (by omega)
    refine ⟨_, rfl, ?_⟩
    rw [hS.mul, hS.wrap, hS.rem, hN, hX, wrap_u64 k1 k2, Int.tmod_eq_emod_of_nonneg k1, Int.natCast_emod, Int.natCast_mul]
  have A7 : ∀ (t : Nat) (T : Int), T = t → 1 ≤ t → t < 100 → ∃ T' : Int, T' = ((t - 1 : Nat) : Int) ∧ zwrap .i64 (zsub T 1) = T' := fun t T hT h h2 => by
    refine ⟨_, rfl, ?_⟩
    rw [hS.sub, hS.wrap, wrap_i64 (by omega) (by omega)]; omega
  obtain ⟨M, hM, A0⟩ := A0
  cbv
  rw [A0]
  refine loopZ ccOk mixed hS (fun (o : Nat) s' => ∃ (t : Nat) (O T : Int), O = o ∧ T = t ∧ n - 1 = o * 2 ^ t ∧ 0 < o ∧ s' = pps1St N W' O T) (n := n - 1) (s0 := pps1St N W' M 0) (le_of ?_ ?_) rfl (Nat.le_refl 2) ?_ ?_
  · simp [leT, pps1St, mkSt, vi, vb]
  · simp [leH, pps1St, mkSt]
  · exact ⟨0, M, 0, hM, rfl, by omega, by omega, rfl⟩
  · rintro o s1 ⟨t, O, T, hO, hT, ht, ho, hs1⟩
    have hp2 : 0 < 2 ^ t := Nat.two_pow_pos t
    have ho2 : o ≤ n - 1 := by rw [ht]; exact Nat.le_mul_of_pos_right o hp2
    have ht2 : t < 31 := two_pow_lt (by
      have : 2 ^ t ≤ n - 1 := by rw [ht]; exact Nat.le_mul_of_pos_left _ ho
      omega)
    have a1 := A1 o O hO
    by_cases hev : o % 2 = 0
    · rw [decide_eq_true hev] at a1
      obtain ⟨O', hO', a2⟩ := A2 o O hO (by omega)
      obtain ⟨T', hT', a3⟩ := A3 t T hT (by omega)
      have hnx : ∃ (t1 : Nat) (O1 T1 : Int), O1 = ((o / 2 : Nat) : Int) ∧ T1 = t1 ∧ n - 1 = (o / 2) * 2 ^ t1 ∧ 0 < o / 2 ∧ pps1St N W' O' T' = pps1St N W' O1 T1 := ⟨t + 1, O', T', hO', hT', half_step ht hev, by omega, rfl⟩
      have hlt : o / 2 < o := by omega
      subst hs1
      cbv
      refine bT a1 ?_
      exact again (s' := pps1St N W' O' T') (m := o / 2) (by simp [leT, pps1St, mkSt, vi, vb, a2, a3]) (by simp [leH, pps1St, mkSt]) rfl (Nat.le_refl 2) hlt hnx
    · rw [decide_eq_false hev] at a1
      have hmr := MR.iff (w := w) ht (by omega)
      obtain ⟨X, hX, cp⟩ := hcp o O hO (by omega)
      have ht1 : 1 ≤ t := by
        rcases Nat.eq_zero_or_pos t with h | h
        · subst h; rw [Nat.pow_zero, Nat.mul_one] at ht; omega
        · exact h
      obtain ⟨C, hC, c1⟩ := A7 t T hT ht1 (by omega)
      have hC : C = ((t - 1 : Nat) : Int) := hC
      have e1 := A5 (w ^ o % n) 1 X 1 hX rfl
      have e2 : ∀ (y : Nat) (Y : Int), Y = y → zeq Y (zwrap .u64 (zsub N 1)) = decide (y = n - 1) := fun y Y hY => by rw [A0]; exact A5 y (n - 1) Y M hY hM
      have e3 := e2 (w ^ o % n) X hX
      have hlt : ∀ (i : Nat) (I : Int), I = i → zlt I C = decide (i < t - 1) := fun i I hI => by
        rw [hS.lt]
        by_cases h : i < t - 1
        · rw [decide_eq_true h]; exact decide_eq_true (by omega)
        · rw [decide_eq_false h]; exact decide_eq_false (by omega)
      have hbt : SPr n w o t → true = b := fun h => (hb.2 (hmr.2 h)).symm
      have hbf : ¬ SPr n w o t → false = b := fun h => by
        cases b with
        | false => rfl
        | true => exact absurd (hmr.1 (hb.1 rfl)) h
      have hpos : ∀ x, x % n < n := fun x => Nat.mod_lt _ (by omega)
      clear hcp A1 A2 A7 A5 hmr hb hp2 ho2 A0 hM
      subst hs1
      cbv
      refine bF a1 ?_
      refine ⟨_, hS.call (cp), ?_⟩
      cbv
      refine ⟨fun h => fin1 hF (tv_bool (hbt ?_)), fun h => ⟨fun h' => fin1 hF (tv_bool (hbt ?_)), fun h' => ?_⟩⟩
      all_goals rw [e1] at h
      · exact .inl (of_decide_eq_true h)
      all_goals rw [e3] at h'
      · exact .inr ⟨0, by omega, by rw [Nat.pow_zero, Nat.mul_one]; exact of_decide_eq_true h'⟩
      · have h := of_decide_eq_false h
        have h' := of_decide_eq_false h'
        refine loopZ ccOk mixed hS (fun (k : Nat) s' => ∃ (i : Nat) (I Y : Int), I = i ∧ Y = ((w ^ (o * 2 ^ i) % n : Nat) : Int) ∧ i + k = t - 1 ∧ (∀ j, j ≤ i → w ^ (o * 2 ^ j) % n ≠ n - 1) ∧ s' = pps2St N W' Y C I) (n := t - 1) (s0 := pps2St N W' X C 0) (le_of ?_ ?_) rfl (by show 2 ≤ 4; omega) ?_ ?_
        · simp [leT, pps2St, mkSt, vi, vb, c1]
        · simp [leH, pps2St, mkSt]
        · refine ⟨0, 0, X, rfl, by rw [Nat.pow_zero, Nat.mul_one]; exact hX, by omega, fun j hj => ?_, rfl⟩
          obtain rfl : j = 0 := by omega
          rw [Nat.pow_zero, Nat.mul_one]; exact h'
        · rintro k s1 ⟨i, I, Y, hI, hY, hik, hno, hs1⟩
          have l1 := hlt i I hI
          obtain ⟨Y', hY', y1⟩ := A6 _ Y hY (hpos _)
          have y2 := e2 _ Y' hY'
          rw [sq_pow n w o i _ rfl] at hY' y2
          by_cases hk : i < t - 1
          · rw [decide_eq_true hk] at l1
            obtain ⟨I', hI', i1⟩ := A3 i I hI (by omega)
            have hkk : k - 1 < k := by omega
            have hik' : i + 1 + (k - 1) = t - 1 := by omega
            have hit : i + 1 < t := by omega
            clear hlt A3 A6 e2 hI hY hpos hik hk e1 e3
            subst hs1
            cbv
            refine bT l1 (nd A4 ?_)
            rw [y1]
            refine ⟨fun h2 => fin1 hF (tv_bool (hbt ?_)), fun h2 => ?_⟩
            all_goals rw [y2] at h2
            · exact .inr ⟨i + 1, hit, of_decide_eq_true h2⟩
            · have h2 := of_decide_eq_false h2
              refine again (s' := pps2St N W' Y' C I') (m := k - 1) (by simp [leT, pps2St, mkSt, vi, vb, i1]) (by simp [leH, pps2St, mkSt]) rfl (by show 2 ≤ 4; omega) hkk ⟨i + 1, I', Y', hI', hY', hik', fun j hj => ?_, rfl⟩
              by_cases hj2 : j = i + 1
              · rw [hj2]; exact h2
              · exact hno j (by omega)
          · rw [decide_eq_false hk] at l1
            have hfin := hbf (mr_none h fun j hj => hno j (by omega))
            subst hs1
            cbv
            refine bF l1 (fin1 hF (tv_bool hfin))

/-- What the program takes for a prime. -/
def PF (n : Int) : Prop := 2 ≤ n ∧ n ≤ 2147483647 ∧ Pch n.toNat [2, 3, 5, 7]

theorem Prm.pf {n : Int} (h : Prm n) : PF n := by
  refine ⟨h.1, h.2.1, pch_prime h.prime _ fun w hw => ?_⟩
  have hp : ∀ w : Nat, 2 ≤ w → w ≤ 7 → (∀ d, d < 8 → 2 ≤ d → d < w → w % d ≠ 0) → M.Prime w := fun w h1 h2 h3 => ⟨h1, fun d hd => by
    have := Nat.le_of_dvd (by omega) hd
    by_cases h4 : d = w
    · exact .inr h4
    · by_cases h5 : d = 1
      · exact .inl h5
      · have : d ≠ 0 := by rintro rfl; have := Nat.eq_zero_of_zero_dvd hd; omega
        exact absurd (Nat.mod_eq_zero_of_dvd hd) (h3 d (by omega) (by omega) (by omega))⟩
  simp only [List.mem_cons, List.not_mem_nil, or_false] at hw
  rcases hw with rfl | rfl | rfl | rfl
  all_goals exact hp _ (by omega) (by omega) (by decide)

theorem pch_step {n w : Nat} {ws : List Nat} {b : Bool} (h : b = true ↔ Pch n (w :: ws)) : (n % w = 0 → decide (n = w) = b) ∧ (n % w ≠ 0 → ∃ b1 : Bool, (b1 = true ↔ MR n w) ∧ (b1 = false → false = b) ∧ (b1 = true → (b = true ↔ Pch n ws))) := by
  unfold Pch at h
  refine ⟨fun h0 => ?_, fun h0 => ?_⟩
  · rw [if_pos h0] at h
    by_cases hw : n = w
    · rw [decide_eq_true hw]; exact (h.2 hw).symm
    · rw [decide_eq_false hw]
      cases b with
      | false => rfl
      | true => exact absurd (h.1 rfl) hw
  · rw [if_neg h0] at h
    obtain ⟨b1, h1⟩ : ∃ b1 : Bool, b1 = true ↔ MR n w := by
      rcases Classical.em (MR n w) with h' | h'
      · exact ⟨true, fun _ => h', fun _ => rfl⟩
      · exact ⟨false, fun h => (by cases h), fun h => absurd h h'⟩
    refine ⟨b1, h1, fun hb => ?_, fun hb => ?_⟩
    · cases b with
      | false => rfl
      | true => rw [hb] at h1; exact absurd (h1.2 (h.1 rfl).1) (by decide)
    · exact ⟨fun hx => (h.1 hx).2, fun hx => h.2 ⟨h1.1 hb, hx⟩⟩

def pprSt (n i : Int) : St := mkSt 27 [vi .u64 n, .junk, vb false, .junk, .junk, .junk, .junk, .junk, .junk, .junk, .junk, .agg [.t (.v (.int .u64 2)), .t (.v (.int .u64 3)), .t (.v (.int .u64 5)), .t (.v (.int .u64 7))], vi .i64 i] [none]


theorem pprime_call (n : Int) (b : Bool) (h0 : 0 ≤ n) (h1 : n < 2 ^ 64) (hb : b = true ↔ PF n) : ACall Try.prog 13 [.val (ti .u64 n)] ⟨[.val (tb b)], [none]⟩ := by
  have hfalse : ¬ PF n → false = b := fun h => by
    cases b with
    | false => rfl
    | true => exact absurd (hb.1 rfl) h
  have cpass : ∀ (w : Nat) (b1 : Bool), w < 100 → n % 2 = 1 → 3 ≤ n → (b1 = true ↔ MR n.toNat w) → ∀ (hn : n < 2147483648), ACall Try.prog 38 [.val (ti .u64 n), .val (ti .u64 (w : Int))] ⟨[.val (tb b1)], [none, none]⟩ := fun w b1 hw ho h3 hm hn => by
    have c := ppasses_call n.toNat w b1 (by omega) (by omega) (by omega) (by omega) hm
    rw [Int.toNat_of_nonneg h0] at c
    exact c
  refine callZ ccOk mixed [.val] Try.func13 rfl rfl (by kernel_rfl) fun zwrap zadd zsub zmul zquo zrem zshl zshr zband zbor zbxor zbandn zeq zne zlt zle znot zbeq zbne zmax zmin znat zinb zofN zidx zneq znadd zdif zcut zroom zmkok zlen znth zsetr zisI zgetI zsetI zfit zpart zext zsetg zrep zwide zall zmok zmget zmset zW zth A L F hS hF => ?_
  have A1 : ∀ w : Nat, 0 < w → zeq (zrem n (w : Int)) 0 = decide (n.toNat % w = 0) := fun w hw => by
    rw [hS.eq, hS.rem, Int.tmod_eq_emod_of_nonneg h0]
    have : n % w = ((n.toNat % w : Nat) : Int) := by rw [Int.natCast_emod, Int.toNat_of_nonneg h0]
    rw [this]
    by_cases h : n.toNat % w = 0
    · rw [decide_eq_true h]; exact decide_eq_true (by omega)
    · rw [decide_eq_false h]; exact decide_eq_false (by omega)
  have A3 : ∀ w : Nat, zeq n (w : Int) = decide (n.toNat = w) := fun w => by
    rw [hS.eq]
    by_cases h : n.toNat = w
    · rw [decide_eq_true h]; exact decide_eq_true (by omega)
    · rw [decide_eq_false h]; exact decide_eq_false (by omega)
  have g1 : zlt n 2 = decide (n < 2) := hS.lt ..
  have g2 : zlt 2147483647 n = decide (2147483647 < n) := hS.lt ..
  cbv
  refine ⟨fun h => fin1 hF (tv_bool (hfalse ?_)), fun h => ⟨fun h' => fin1 hF (tv_bool (hfalse ?_)), fun h' => ?_⟩⟩
  all_goals rw [g1] at h
  · exact fun hp => absurd hp.1 (by have := of_decide_eq_true h; omega)
  all_goals rw [g2] at h'
  · exact fun hp => absurd hp.2.1 (by have := of_decide_eq_true h'; omega)
  have h := of_decide_eq_false h
  have h' := of_decide_eq_false h'
  have hch0 : b = true ↔ Pch n.toNat [2, 3, 5, 7] := ⟨fun hx => (hb.1 hx).2.2, fun hx => hb.2 ⟨by omega, by omega, hx⟩⟩
  have cpass := fun w b1 hw ho h3 hm => cpass w b1 hw ho h3 hm (by omega)
  clear hb hfalse g1 g2
  refine loopZ ccOk mixed hS (fun (k : Nat) s' => ∃ (i : Nat) (I : Int), i + k = 4 ∧ (1 ≤ i → n % 2 = 1) ∧ (b = true ↔ Pch n.toNat (([2, 3, 5, 7] : List Nat).drop i)) ∧ (i = 0 ∧ I = 0 ∨ i = 1 ∧ I = 1 ∨ i = 2 ∧ I = 2 ∨ i = 3 ∧ I = 3 ∨ i = 4 ∧ I = 4) ∧ s' = pprSt n I) (n := 4) (s0 := pprSt n 0) (le_of ?_ ?_) rfl (Nat.le_refl 1) ?_ ?_
  · simp [leT, pprSt, mkSt, vi, vb]
  · simp [leH, pprSt, mkSt]
  · exact ⟨0, 0, rfl, fun h => by omega, hch0, by simp, rfl⟩
  · rintro k s1 ⟨i, I, hik, hod, hch, hI, hs1⟩
    clear hch0
    rcases hI with ⟨rfl, rfl⟩ | ⟨rfl, rfl⟩ | ⟨rfl, rfl⟩ | ⟨rfl, rfl⟩ | ⟨rfl, rfl⟩
    · have hch : b = true ↔ Pch n.toNat [2, 3, 5, 7] := hch
      have l1 : zlt 0 4 = true := by rw [hS.lt]; rfl
      have e1 := A1 2 (by omega)
      obtain ⟨s1', s2'⟩ := pch_step hch
      have s2h : n.toNat % 2 ≠ 0 → n % 2 = 1 ∧ 3 ≤ n := fun h => by omega
      have e3 := A3 2
      have e4 : zwrap .i64 (zadd 0 1) = 1 := by rw [hS.wrap, hS.add]; rfl
      have e5 : zne 2 0 = true := by rw [hS.ne]; rfl
      by_cases h0 : n.toNat % 2 = 0
      · rw [decide_eq_true h0] at e1
        have r1 := s1' h0
        subst hs1
        cbv
        refine bT l1 (nd e5 (bT e1 (fin1 hF (tv_bool (e3.trans r1)))))
      · rw [decide_eq_false h0] at e1
        obtain ⟨b1, m1, m2, m3⟩ := s2' h0
        obtain ⟨o1, o2⟩ := s2h h0
        have cp := cpass 2 b1 (by omega) o1 o2 m1
        have hkk : k - 1 < k := by omega
        have hik' : 1 + (k - 1) = 4 := by omega
        have hn1 : znot b1 = !b1 := hS.not b1
        clear s1' s2' s2h m1 A1 A3
        subst hs1
        cbv
        refine bT l1 (nd e5 (bF e1 ⟨_, hS.call cp, ?_⟩))
        cbv
        cases b1 with
        | false => exact bT hn1 (fin1 hF (tv_bool (m2 rfl)))
        | true => exact bF hn1 (again (s' := pprSt n 1) (m := k - 1) (by simp [leT, pprSt, mkSt, vi, vb, e4]) (by simp [leH, pprSt, mkSt]) rfl (Nat.le_refl 1) hkk ⟨1, 1, hik', fun _ => o1, m3 rfl, by simp, rfl⟩)
    · have hch : b = true ↔ Pch n.toNat [3, 5, 7] := hch
      have hod := hod (by omega)
      have l1 : zlt 1 4 = true := by rw [hS.lt]; rfl
      have e1 := A1 3 (by omega)
      obtain ⟨s1', s2'⟩ := pch_step hch
      have s2h : n.toNat % 3 ≠ 0 → n % 2 = 1 ∧ 3 ≤ n := fun h => by omega
      have e3 := A3 3
      have e4 : zwrap .i64 (zadd 1 1) = 2 := by rw [hS.wrap, hS.add]; rfl
      have e5 : zne 3 0 = true := by rw [hS.ne]; rfl
      by_cases h0 : n.toNat % 3 = 0
      · rw [decide_eq_true h0] at e1
        have r1 := s1' h0
        subst hs1
        cbv
        refine bT l1 (nd e5 (bT e1 (fin1 hF (tv_bool (e3.trans r1)))))
      · rw [decide_eq_false h0] at e1
        obtain ⟨b1, m1, m2, m3⟩ := s2' h0
        obtain ⟨o1, o2⟩ := s2h h0
        have cp := cpass 3 b1 (by omega) o1 o2 m1
        have hkk : k - 1 < k := by omega
        have hik' : 2 + (k - 1) = 4 := by omega
        have hn1 : znot b1 = !b1 := hS.not b1
        clear s1' s2' s2h m1 A1 A3
        subst hs1
        cbv
        refine bT l1 (nd e5 (bF e1 ⟨_, hS.call cp, ?_⟩))
        cbv
        cases b1 with
        | false => exact bT hn1 (fin1 hF (tv_bool (m2 rfl)))
        | true => exact bF hn1 (again (s' := pprSt n 2) (m := k - 1) (by simp [leT, pprSt, mkSt, vi, vb, e4]) (by simp [leH, pprSt, mkSt]) rfl (Nat.le_refl 1) hkk ⟨2, 2, hik', fun _ => o1, m3 rfl, by simp, rfl⟩)
    · have hch : b = true ↔ Pch n.toNat [5, 7] := hch
      have hod := hod (by omega)
      have l1 : zlt 2 4 = true := by rw [hS.lt]; rfl
      have e1 := A1 5 (by omega)
      obtain ⟨s1', s2'⟩ := pch_step hch
      have s2h : n.toNat % 5 ≠ 0 → n % 2 = 1 ∧ 3 ≤ n := fun h => by omega
      have e3 := A3 5
      have e4 : zwrap .i64 (zadd 2 1) = 3 := by rw [hS.wrap, hS.add]; rfl
      have e5 : zne 5 0 = true := by rw [hS.ne]; rfl
      by_cases h0 : n.toNat % 5 = 0
      · rw [decide_eq_true h0] at e1
        have r1 := s1' h0
        subst hs1
        cbv
        refine bT l1 (nd e5 (bT e1 (fin1 hF (tv_bool (e3.trans r1)))))
      · rw [decide_eq_false h0] at e1
        obtain ⟨b1, m1, m2, m3⟩ := s2' h0
        obtain ⟨o1, o2⟩ := s2h h0
        have cp := cpass 5 b1 (by omega) o1 o2 m1
        have hkk : k - 1 < k := by omega
        have hik' : 3 + (k - 1) = 4 := by omega
        have hn1 : znot b1 = !b1 := hS.not b1
        clear s1' s2' s2h m1 A1 A3
        subst hs1
        cbv
        refine bT l1 (nd e5 (bF e1 ⟨_, hS.call cp, ?_⟩))
        cbv
        cases b1 with
        | false => exact bT hn1 (fin1 hF (tv_bool (m2 rfl)))
        | true => exact bF hn1 (again (s' := pprSt n 3) (m := k - 1) (by simp [leT, pprSt, mkSt, vi, vb, e4]) (by simp [leH, pprSt, mkSt]) rfl (Nat.le_refl 1) hkk ⟨3, 3, hik', fun _ => o1, m3 rfl, by simp, rfl⟩)
    · have hch : b = true ↔ Pch n.toNat [7] := hch
      have hod := hod (by omega)
      have l1 : zlt 3 4 = true := by rw [hS.lt]; rfl
      have e1 := A1 7 (by omega)
      obtain ⟨s1', s2'⟩ := pch_step hch
      have s2h : n.toNat % 7 ≠ 0 → n % 2 = 1 ∧ 3 ≤ n := fun h => by omega
      have e3 := A3 7
      have e4 : zwrap .i64 (zadd 3 1) = 4 := by rw [hS.wrap, hS.add]; rfl
      have e5 : zne 7 0 = true := by rw [hS.ne]; rfl
      by_cases h0 : n.toNat % 7 = 0
      · rw [decide_eq_true h0] at e1
        have r1 := s1' h0
        subst hs1
        cbv
        refine bT l1 (nd e5 (bT e1 (fin1 hF (tv_bool (e3.trans r1)))))
      · rw [decide_eq_false h0] at e1
        obtain ⟨b1, m1, m2, m3⟩ := s2' h0
        obtain ⟨o1, o2⟩ := s2h h0
        have cp := cpass 7 b1 (by omega) o1 o2 m1
        have hkk : k - 1 < k := by omega
        have hik' : 4 + (k - 1) = 4 := by omega
        have hn1 : znot b1 = !b1 := hS.not b1
        clear s1' s2' s2h m1 A1 A3
        subst hs1
        cbv
        refine bT l1 (nd e5 (bF e1 ⟨_, hS.call cp, ?_⟩))
        cbv
        cases b1 with
        | false => exact bT hn1 (fin1 hF (tv_bool (m2 rfl)))
        | true => exact bF hn1 (again (s' := pprSt n 4) (m := k - 1) (by simp [leT, pprSt, mkSt, vi, vb, e4]) (by simp [leH, pprSt, mkSt]) rfl (Nat.le_refl 1) hkk ⟨4, 4, hik', fun _ => o1, m3 rfl, by simp, rfl⟩)
    · have hch : b = true ↔ Pch n.toNat [] := hch
      have l1 : zlt 4 4 = false := by rw [hS.lt]; rfl
      have hbt : true = b := (hch.2 trivial).symm
      subst hs1
      cbv
      exact bF l1 (fin1 hF (tv_bool hbt))
end Go.Proofs.Ytgncmjcoojmccaa
end

section
set_option linter.unusedVariables false
set_option linter.unusedSimpArgs false
/-
  Strong pseudoprimes: what the kernel can compute about them. Powers by bytes, the test of Miller and Rabin as a Bool, orders.
-/
set_option linter.unusedVariables false
namespace Go.Abs.M

/-- b ^ e modulo n for an e of i bytes. -/
def pw8 (b n : Nat) : Nat → Nat → Nat
  | 0, _ => 1
  | i + 1, e => (pw8 b n i (e / 256)) ^ 256 * b ^ (e % 256) % n

theorem pow_mod' (a n k : Nat) : (a % n) ^ k % n = a ^ k % n := by rw [Nat.pow_mod, Nat.mod_mod, ← Nat.pow_mod]

theorem pw8_eq (b n : Nat) : ∀ (i e : Nat), e < 256 ^ i → pw8 b n i e % n = b ^ e % n
  | 0, e, h => by
    have : e = 0 := by simp at h; exact h
    subst this; rfl
  | i + 1, e, h => by
    have h1 : e / 256 < 256 ^ i := Nat.div_lt_of_lt_mul (by rw [Nat.pow_succ] at h; omega)
    have ih := pw8_eq b n i (e / 256) h1
    show (pw8 b n i (e / 256)) ^ 256 * b ^ (e % 256) % n % n = _
    rw [Nat.mod_mod, Nat.mul_mod, ← pow_mod', ih, pow_mod', ← Nat.mul_mod, ← Nat.pow_mul, ← Nat.pow_add]
    congr 2
    have := Nat.div_add_mod e 256
    omega

/-- The powers that pass are 1 at n - 1. -/
theorem MR.fermat {n w : Nat} (hn : 2 ≤ n) (h : MR n w) : w ^ (n - 1) % n = 1 := by
  have split : ∀ m : Nat, 0 < m → ∃ o t, m = o * 2 ^ t ∧ o % 2 = 1 := by
    intro m
    induction m using Nat.strongRecOn with
    | _ m ih =>
      intro hm
      by_cases he : m % 2 = 1
      · exact ⟨m, 0, by simp, he⟩
      · obtain ⟨o, t, h1, h2⟩ := ih (m / 2) (by omega) (by omega)
        refine ⟨o, t + 1, ?_, h2⟩
        rw [Nat.pow_succ, ← Nat.mul_assoc, ← h1]; omega
  obtain ⟨o, t, h1, h2⟩ := split (n - 1) (by omega)
  have one : 1 % n = 1 := Nat.mod_eq_of_lt (by omega)
  rcases h o t h1 h2 with h3 | ⟨i, hi, h3⟩
  · rw [h1, Nat.pow_mul, ← pow_mod', h3, Nat.one_pow, one]
  · obtain ⟨j, hj⟩ : ∃ j, t = i + 1 + j := ⟨t - (i + 1), by omega⟩
    have e : o * 2 ^ t = o * 2 ^ i * 2 * 2 ^ j := by rw [hj, Nat.pow_add, Nat.pow_succ]; simp only [Nat.mul_assoc]
    have h4 : w ^ (o * 2 ^ i * 2) % n = 1 := by
      rw [Nat.pow_mul, ← pow_mod', h3]
      have e2 : (n - 1) ^ 2 = 1 + n * (n - 2) := by
        obtain ⟨k, rfl⟩ : ∃ k, n = k + 2 := ⟨n - 2, by omega⟩
        show (k + 1) ^ 2 = 1 + (k + 2) * k
        grind
      rw [e2, Nat.add_mul_mod_self_left, one]
    rw [h1, e, Nat.pow_mul, ← pow_mod', h4, Nat.one_pow, one]

/-- Powers that are 1 modulo r: closed under the greatest common divisor. -/
theorem pow_gcd {a r : Nat} (hr : 1 < r) (hc : Nat.Coprime a r) : ∀ (x y : Nat), a ^ x % r = 1 → a ^ y % r = 1 → a ^ Nat.gcd x y % r = 1 := by
  intro x
  induction x using Nat.strongRecOn with
  | _ x ih =>
    intro y hx hy
    by_cases h0 : x = 0
    · subst h0; rw [Nat.gcd_zero_left]; exact hy
    · rw [Nat.gcd_rec]
      refine ih (y % x) (Nat.mod_lt _ (by omega)) x ?_ hx
      have e := Nat.div_add_mod y x
      have h1 : a ^ (x * (y / x)) % r = 1 := by rw [Nat.pow_mul, ← pow_mod', hx, Nat.one_pow, Nat.mod_eq_of_lt hr]
      rw [← e, Nat.pow_add, Nat.mul_mod, h1, Nat.one_mul, Nat.mod_mod] at hy
      exact hy

/-- The four bases. -/
def Fm (n : Nat) : Prop := ∀ a, a = 2 ∨ a = 3 ∨ a = 5 ∨ a = 7 → a ^ (n - 1) % n = 1

def allOne (r d : Nat) : Bool := Nat.beq (Nat.mod (Nat.pow 2 d) r) 1 && Nat.beq (Nat.mod (Nat.pow 3 d) r) 1 && Nat.beq (Nat.mod (Nat.pow 5 d) r) 1 && Nat.beq (Nat.mod (Nat.pow 7 d) r) 1

theorem allOne_iff {r d : Nat} : allOne r d = true ↔ ∀ a, a = 2 ∨ a = 3 ∨ a = 5 ∨ a = 7 → a ^ d % r = 1 := by
  simp only [allOne, Bool.and_eq_true, Nat.beq_eq]
  constructor
  · rintro ⟨⟨⟨h2, h3⟩, h5⟩, h7⟩ a (rfl | rfl | rfl | rfl) <;> assumption
  · intro h
    exact ⟨⟨⟨h 2 (by simp), h 3 (by simp)⟩, h 5 (by simp)⟩, h 7 (by simp)⟩

/-! The test as a Bool. -/
def mrLoop (n : Nat) : Nat → Nat → Bool
  | 0, _ => false
  | t + 1, x => (x * x % n).beq (n - 1) || mrLoop n t (x * x % n)

/-- The odd part, and how often 2 goes in. -/
def split2 : Nat → Nat → Nat × Nat
  | 0, m => (m, 0)
  | f + 1, m => if m % 2 = 1 then (m, 0) else ((split2 f (m / 2)).1, (split2 f (m / 2)).2 + 1)

def mrB (n w : Nat) : Bool :=
  let p := split2 40 (n - 1)
  let x := pw8 w n 4 p.1 % n
  x.beq 1 || x.beq (n - 1) || mrLoop n (p.2 - 1) x

theorem split2_spec : ∀ (f m : Nat), 0 < m → m < 2 ^ f → m = (split2 f m).1 * 2 ^ (split2 f m).2 ∧ (split2 f m).1 % 2 = 1
  | 0, m, h, h2 => by simp at h2; omega
  | f + 1, m, h, h2 => by
    unfold split2
    by_cases he : m % 2 = 1
    · rw [if_pos he]; exact ⟨by simp, he⟩
    · rw [if_neg he]
      obtain ⟨h3, h4⟩ := split2_spec f (m / 2) (by omega) (by rw [Nat.pow_succ] at h2; omega)
      refine ⟨?_, h4⟩
      show m = (split2 f (m / 2)).1 * 2 ^ ((split2 f (m / 2)).2 + 1)
      rw [Nat.pow_succ, ← Nat.mul_assoc, ← h3]; omega

theorem mrLoop_spec {n w o : Nat} : ∀ (k i x : Nat), x = w ^ (o * 2 ^ i) % n → (∃ j, i < j ∧ j < i + 1 + k ∧ w ^ (o * 2 ^ j) % n = n - 1) → mrLoop n k x = true
  | 0, i, x, hx, ⟨j, h1, h2, h3⟩ => by omega
  | k + 1, i, x, hx, ⟨j, h1, h2, h3⟩ => by
    have e : x * x % n = w ^ (o * 2 ^ (i + 1)) % n := by
      rw [hx, ← Nat.mul_mod, ← Nat.pow_add]; congr 2; rw [Nat.pow_succ, ← Nat.mul_assoc]; omega
    unfold mrLoop
    by_cases hj : j = i + 1
    · subst hj
      rw [e, h3]
      have : (n - 1).beq (n - 1) = true := Nat.beq_refl _
      rw [this]; rfl
    · rw [mrLoop_spec k (i + 1) _ e ⟨j, by omega, by omega, h3⟩, Bool.or_true]

theorem MR.mrB {n w : Nat} (hn : 2 ≤ n) (hn2 : n < 4294967296) (h : MR n w) : mrB n w = true := by
  obtain ⟨h1, h2⟩ := split2_spec 40 (n - 1) (by omega) (by omega)
  obtain ⟨o, ho⟩ : ∃ o, o = (split2 40 (n - 1)).1 := ⟨_, rfl⟩
  obtain ⟨t, ht⟩ : ∃ t, t = (split2 40 (n - 1)).2 := ⟨_, rfl⟩
  rw [← ho, ← ht] at h1
  rw [← ho] at h2
  have hx : pw8 w n 4 o % n = w ^ o % n := pw8_eq w n 4 o (by
    have : o ≤ n - 1 := by rw [h1]; exact Nat.le_mul_of_pos_right o (Nat.two_pow_pos t)
    omega)
  show ((pw8 w n 4 (split2 40 (n - 1)).1 % n).beq 1 || (pw8 w n 4 (split2 40 (n - 1)).1 % n).beq (n - 1) || mrLoop n ((split2 40 (n - 1)).2 - 1) (pw8 w n 4 (split2 40 (n - 1)).1 % n)) = true
  rw [← ho, ← ht, hx]
  rcases h o t h1 h2 with h3 | ⟨i, hi, h3⟩
  · rw [h3]; rfl
  · by_cases h0 : i = 0
    · subst h0
      rw [Nat.pow_zero, Nat.mul_one] at h3
      rw [h3]
      have : (n - 1).beq (n - 1) = true := Nat.beq_refl _
      rw [this]; simp
    · rw [mrLoop_spec (w := w) (o := o) (t - 1) 0 (w ^ o % n) (by rw [Nat.pow_zero, Nat.mul_one]) ⟨i, by omega, by omega, h3⟩, Bool.or_true]

/-- One byte of the exponent. -/
def pstep (n x d : Nat) : Nat := Nat.mod (Nat.mul (Nat.pow x 256) (Nat.pow 2 d)) n

theorem pstep_eq {n x k : Nat} (d : Nat) (h : x % n = 2 ^ k % n) : pstep n x d % n = 2 ^ (k * 256 + d) % n := by
  show x ^ 256 * 2 ^ d % n % n = _
  rw [Nat.mod_mod, Nat.mul_mod, ← pow_mod', h, pow_mod', ← Nat.mul_mod, ← Nat.pow_mul, ← Nat.pow_add]

/-- 2 ^ (n - 1) is 1 modulo n (made for the kernel). -/
def fer (n : Nat) : Bool :=
  (fun e => Nat.beq (Nat.mod (pstep n (pstep n (pstep n (Nat.pow 2 (Nat.div e 16777216)) (Nat.mod (Nat.div e 65536) 256)) (Nat.mod (Nat.div e 256) 256)) (Nat.mod e 256)) n) 1) (Nat.sub n 1)

theorem fer_iff {n : Nat} (h : 2 ^ (n - 1) % n = 1) : fer n = true := by
  obtain ⟨e, he⟩ : ∃ e, e = n - 1 := ⟨_, rfl⟩
  rw [← he] at h
  have h1 : pstep n (pstep n (pstep n (2 ^ (e / 16777216)) (e / 65536 % 256)) (e / 256 % 256)) (e % 256) % n = 2 ^ (((e / 16777216 * 256 + e / 65536 % 256) * 256 + e / 256 % 256) * 256 + e % 256) % n :=
    pstep_eq _ (pstep_eq _ (pstep_eq _ rfl))
  have h2 : ((e / 16777216 * 256 + e / 65536 % 256) * 256 + e / 256 % 256) * 256 + e % 256 = e := by omega
  rw [h2, h] at h1
  show Nat.beq (pstep n (pstep n (pstep n (2 ^ ((n - 1) / 16777216)) ((n - 1) / 65536 % 256)) ((n - 1) / 256 % 256)) ((n - 1) % 256) % n) 1 = true
  rw [← he, h1]; rfl

/-- n fails one of the four tests. -/
noncomputable def cand (n : Nat) : Bool := @Bool.rec (fun _ => Bool) true (!(mrB n 2 && mrB n 3 && mrB n 5 && mrB n 7)) (fer n)

def Pass (n : Nat) : Prop := MR n 2 ∧ MR n 3 ∧ MR n 5 ∧ MR n 7

theorem cand_spec {n : Nat} (hn : 2 ≤ n) (hn2 : n < 4294967296) (h : cand n = true) : ¬ Pass n := by
  rintro ⟨a, b, c, d⟩
  have e : fer n = true := fer_iff (a.fermat hn)
  unfold cand at h
  rw [e, a.mrB hn hn2, b.mrB hn hn2, c.mrB hn hn2, d.mrB hn hn2] at h
  exact absurd h (by decide)

/-- f holds from lo on, cnt numbers (made for the kernel). -/
noncomputable def rng (f : Nat → Bool) (lo cnt : Nat) : Bool :=
  @Nat.rec (fun _ => Bool) true (fun i ih => @Bool.rec (fun _ => Bool) false ih (f (Nat.add lo i))) cnt

theorem rng_spec {f : Nat → Bool} {lo : Nat} : ∀ (cnt : Nat), rng f lo cnt = true → ∀ j, lo ≤ j → j < lo + cnt → f j = true
  | 0, h, j, h1, h2 => by omega
  | cnt + 1, h, j, h1, h2 => by
    have h : @Bool.rec (fun _ => Bool) false (rng f lo cnt) (f (lo + cnt)) = true := h
    cases hf : f (lo + cnt) with
    | false => rw [hf] at h; cases h
    | true =>
      rw [hf] at h
      by_cases hj : j = lo + cnt
      · rw [hj]; exact hf
      · exact rng_spec cnt h j h1 (by omega)

theorem rng_join {f : Nat → Bool} {lo a b : Nat} (h1 : ∀ j, lo ≤ j → j < a → f j = true) (h2 : ∀ j, a ≤ j → j < b → f j = true) : ∀ j, lo ≤ j → j < b → f j = true := fun j h3 h4 => by
  rcases Nat.lt_or_ge j a with h | h
  · exact h1 j h3 h
  · exact h2 j h h4
end Go.Abs.M
end

section
set_option linter.unusedVariables false
set_option linter.unusedSimpArgs false
/-
  The least exponent at which the powers of 2, 3, 5 and 7 are 1 modulo a prime: a certificate.
-/
set_option linter.unusedVariables false
set_option maxRecDepth 10000
namespace Go.Abs.M

theorem exists_prime_dvd : ∀ m : Nat, 2 ≤ m → ∃ p, Prime p ∧ p ∣ m := by
  intro m
  induction m using Nat.strongRecOn with
  | _ m ih =>
    intro hm
    by_cases h : ∃ d, d ∣ m ∧ d ≠ 1 ∧ d ≠ m
    · obtain ⟨d, h1, h2, h3⟩ := h
      have h4 := Nat.le_of_dvd (by omega) h1
      have h5 : d ≠ 0 := by rintro rfl; have := Nat.eq_zero_of_zero_dvd h1; omega
      obtain ⟨p, hp, hd⟩ := ih d (by omega) (by omega)
      exact ⟨p, hp, Nat.dvd_trans hd h1⟩
    · refine ⟨m, ⟨hm, fun d hd => ?_⟩, Nat.dvd_refl m⟩
      by_cases h1 : d = 1
      · exact .inl h1
      · by_cases h2 : d = m
        · exact .inr h2
        · exact absurd ⟨d, hd, h1, h2⟩ h

/-- The primes below 223. -/
def sp : List Nat := [2, 3, 5, 7, 11, 13, 17, 19, 23, 29, 31, 37, 41, 43, 47, 53, 59, 61, 67, 71, 73, 79, 83, 89, 97, 101, 103, 107, 109, 113, 127, 131, 137, 139, 149, 151, 157, 163, 167, 173, 179, 181, 191, 193, 197, 199, 211]

def spB (t : Nat) : Bool := sp.elem t || decide (2 < t ∧ t % 2 = 0 ∨ 3 < t ∧ t % 3 = 0 ∨ 5 < t ∧ t % 5 = 0 ∨ 7 < t ∧ t % 7 = 0 ∨ 11 < t ∧ t % 11 = 0 ∨ 13 < t ∧ t % 13 = 0)
theorem sp_rng : rng spB 2 221 = true := by decide +kernel
theorem sp_all {t : Nat} (h : t < 223) (h2 : 2 ≤ t) : t ∈ sp ∨ 2 < t ∧ t % 2 = 0 ∨ 3 < t ∧ t % 3 = 0 ∨ 5 < t ∧ t % 5 = 0 ∨ 7 < t ∧ t % 7 = 0 ∨ 11 < t ∧ t % 11 = 0 ∨ 13 < t ∧ t % 13 = 0 := by
  have := rng_spec 221 sp_rng t h2 (by omega)
  unfold spB at this
  rcases Bool.or_eq_true_iff.1 this with h | h
  · exact .inl (List.elem_iff.1 h)
  · exact .inr (of_decide_eq_true h)

theorem sp_prime {t : Nat} (h : Prime t) (ht : t < 223) : t ∈ sp := by
  have hk : ∀ p, 2 ≤ p → p < t → t % p = 0 → False := fun p h1 h2 h3 => by
    rcases h.divs p (Nat.dvd_of_mod_eq_zero h3) with h | h <;> omega
  rcases sp_all ht h.two with h | ⟨h1, h2⟩ | ⟨h1, h2⟩ | ⟨h1, h2⟩ | ⟨h1, h2⟩ | ⟨h1, h2⟩ | ⟨h1, h2⟩
  · exact h
  all_goals exact (hk _ (by omega) h1 h2).elim

/-- The product of 2 ^ d - 1 for d from 1 to k. -/
def zz : Nat → Nat
  | 0 => 1
  | d + 1 => zz d * (2 ^ (d + 1) - 1)

theorem zz_dvd {r d : Nat} (h : r ∣ 2 ^ d - 1) : ∀ k, 1 ≤ d → d ≤ k → r ∣ zz k
  | 0, h1, h2 => by omega
  | k + 1, h1, h2 => by
    unfold zz
    by_cases hd : d = k + 1
    · subst hd; exact Nat.dvd_trans h (Nat.dvd_mul_left _ _)
    · exact Nat.dvd_trans (zz_dvd h k h1 (by omega)) (Nat.dvd_mul_right _ _)

/-- l is the least exponent for r. -/
noncomputable def okL (r l : Nat) : Bool := allOne r l && (sp.all fun t => !(l % t).beq 0 || !allOne r (l / t)) && (!(zz 207 % r).beq 0 || rng (fun d => !(l % d).beq 0 || d.beq l || !allOne r d) 1 207)

theorem dvd_of_pow {a r d : Nat} (hr : 1 < r) (h : a ^ d % r = 1) : r ∣ a ^ d - 1 := by
  have e := Nat.div_add_mod (a ^ d) r
  rw [h] at e
  exact ⟨a ^ d / r, by omega⟩

theorem lam_spec {r l n : Nat} (hr : Prime r) (hr7 : 7 < r) (hl : l < 46341) (hl0 : 0 < l) (h : okL r l = true) (hn : Fm n) (hd : r ∣ n) (hn1 : 1 < n) : l ∣ n - 1 := by
  unfold okL at h
  obtain ⟨h12, h3⟩ := Bool.and_eq_true_iff.1 h
  obtain ⟨h1, h2⟩ := Bool.and_eq_true_iff.1 h12
  have r1 : 1 < r := by omega
  have hcop : ∀ a, a = 2 ∨ a = 3 ∨ a = 5 ∨ a = 7 → Nat.Coprime a r := fun a ha => by
    apply Nat.Coprime.symm
    apply hr.coprime
    intro hda
    have := Nat.le_of_dvd (by omega) hda
    omega
  have hnr : ∀ a, a = 2 ∨ a = 3 ∨ a = 5 ∨ a = 7 → a ^ (n - 1) % r = 1 := fun a ha => by
    have := hn a ha
    obtain ⟨c, rfl⟩ := hd
    rw [← Nat.mod_mul_right_mod (a ^ (r * c - 1)) r c, this]
    exact Nat.mod_eq_of_lt r1
  have hg : allOne r (Nat.gcd (n - 1) l) = true := allOne_iff.2 fun a ha => pow_gcd r1 (hcop a ha) _ _ (hnr a ha) (allOne_iff.1 h1 a ha)
  obtain ⟨g, hge⟩ : ∃ g, g = Nat.gcd (n - 1) l := ⟨_, rfl⟩
  rw [← hge] at hg
  have hgl : g ∣ l := hge ▸ Nat.gcd_dvd_right _ _
  have hgn : g ∣ n - 1 := hge ▸ Nat.gcd_dvd_left _ _
  by_cases heq : g = l
  · rw [← heq]; exact hgn
  exfalso
  obtain ⟨c, hc⟩ := hgl
  have hc2 : 2 ≤ c := by
    rcases Nat.lt_or_ge c 2 with h | h
    · have : c = 0 ∨ c = 1 := by omega
      rcases this with rfl | rfl
      · rw [Nat.mul_zero] at hc; omega
      · rw [Nat.mul_one] at hc; exact absurd hc.symm heq
    · exact h
  obtain ⟨t, ht, e, he⟩ := exists_prime_dvd c hc2
  have ht2 := ht.two
  have hlt : l = t * (g * e) := by rw [hc, he]; simp only [Nat.mul_left_comm]
  have hlt2 : l / t = g * e := by rw [hlt]; exact Nat.mul_div_cancel_left _ (by omega)
  have hone : allOne r (l / t) = true := allOne_iff.2 fun a ha => by
    rw [hlt2, Nat.pow_mul, ← pow_mod', allOne_iff.1 hg a ha, Nat.one_pow, Nat.mod_eq_of_lt r1]
  rcases Nat.lt_or_ge t 223 with hts | hts
  · have := List.all_eq_true.1 h2 t (sp_prime ht hts)
    have hz : l % t = 0 := by rw [hlt]; exact Nat.mul_mod_right _ _
    rw [hz, hone] at this
    exact absurd this (by decide)
  · obtain ⟨d, hdd⟩ : ∃ d, d = g * e := ⟨_, rfl⟩
    rw [hlt2, ← hdd] at hone
    rw [← hdd] at hlt
    have hd0 : d ≠ 0 := by rintro rfl; omega
    have hd7 : d ≤ 207 := by
      rcases Nat.lt_or_ge 207 d with h | h
      · have := Nat.mul_le_mul hts (show 208 ≤ d by omega); omega
      · exact h
    rcases Bool.or_eq_true_iff.1 h3 with h3 | h3
    · have hdv := zz_dvd (dvd_of_pow r1 (allOne_iff.1 hone 2 (by simp))) 207 (by omega) hd7
      have : zz 207 % r = 0 := Nat.mod_eq_zero_of_dvd hdv
      rw [this] at h3
      exact absurd h3 (by decide)
    · have := rng_spec 207 h3 d (by omega) (by omega)
      have hz : l % d = 0 := by rw [hlt]; exact Nat.mul_mod_left _ _
      have hne : d.beq l = false := by
        have : d ≠ l := by
          have := Nat.mul_le_mul hts (Nat.le_refl d)
          omega
        exact Bool.eq_false_iff.2 fun h => this (Nat.eq_of_beq_eq_true h)
      simp only [hz, hne, hone] at this
      exact absurd this (by decide)
end Go.Abs.M
end

section
set_option linter.unusedVariables false
set_option linter.unusedSimpArgs false
/-
  No composite number below 2^31 with a prime factor from 1000 to 46340 passes the test for 2, 3, 5 and 7.
-/
set_option linter.unusedVariables false
set_option maxRecDepth 10000
namespace Go.Abs.M

theorem Pass.fm {n : Nat} (hn : 2 ≤ n) (h : Pass n) : Fm n := fun a ha => by
  obtain ⟨h2, h3, h5, h7⟩ := h
  rcases ha with rfl | rfl | rfl | rfl
  · exact h2.fermat hn
  · exact h3.fermat hn
  · exact h5.fermat hn
  · exact h7.fermat hn

/-- The exponent to be tried. -/
def lamT (r : Nat) : Nat → Nat → Nat → Nat
  | 0, _, l => l
  | f + 1, t, l => if (l % t).beq 0 && allOne r (l / t) then lamT r f t (l / t) else l
def lamOf (r : Nat) : Nat := sp.foldl (fun l t => lamT r 12 t l) (r - 1)

/-- The number is computed before it is used. -/
def forced (n : Nat) (f : Nat → Bool) : Bool := match n with
  | 0 => f 0
  | k + 1 => f (k + 1)
theorem forced_eq (n : Nat) (f : Nat → Bool) : forced n f = f n := by cases n <;> rfl

def sp0 : Nat := sp.foldl (fun a b => a * b) 1

noncomputable def chk2 (r : Nat) : Bool := !(Nat.gcd r 200560490130).beq 1 || !(Nat.gcd r sp0).beq 1 || forced (lamOf r) fun l => okL r l && ((r - 1) % l).beq 0 && !l.beq 0 && rng (fun j => cand (r * (1 + j * l))) 1 ((2147483648 / r - 1) / l)

theorem sp_lt : ∀ t ∈ sp, 0 < t ∧ t < 223 := by decide

theorem cop_prod {r : Nat} (hr : Prime r) (h : 223 ≤ r) : ∀ (l : List Nat) (a : Nat), (∀ t ∈ l, 0 < t ∧ t < 223) → Nat.gcd r a = 1 → Nat.gcd r (l.foldl (fun a b => a * b) a) = 1
  | [], a, _, ha => ha
  | t :: l, a, hl, ha => by
    obtain ⟨h1, h2⟩ := hl t (.head _)
    refine cop_prod hr h l (a * t) (fun x hx => hl x (.tail _ hx)) ?_
    exact Nat.Coprime.mul_right ha (hr.coprime fun hd => by have := Nat.le_of_dvd h1 hd; omega)

theorem chk2_spec {r n : Nat} (hr : Prime r) (h1 : 1000 < r) (h2 : r < 46341) (h : chk2 r = true) (hd : r ∣ n) (hne : n ≠ r) (hn0 : 0 < n) (hn : n < 2147483648) : ¬ Pass n := by
  intro hp
  have hg : Nat.gcd r sp0 = 1 := cop_prod hr (by omega) sp 1 sp_lt (Nat.gcd_one_right r)
  have hg2 : Nat.gcd r 200560490130 = 1 := by
    have := cop_prod hr (by omega) [2, 3, 5, 7, 11, 13, 17, 19, 23, 29, 31] 1 (by decide) (Nat.gcd_one_right r)
    rw [show ([2, 3, 5, 7, 11, 13, 17, 19, 23, 29, 31] : List Nat).foldl (fun a b => a * b) 1 = 200560490130 from by decide +kernel] at this
    exact this
  unfold chk2 at h
  rw [hg, hg2, show Nat.beq 1 1 = true from rfl, Bool.not_true, Bool.false_or, Bool.false_or, forced_eq] at h
  generalize lamOf r = l at h
  obtain ⟨h', h6⟩ := Bool.and_eq_true_iff.1 h
  obtain ⟨h'', h5⟩ := Bool.and_eq_true_iff.1 h'
  obtain ⟨h3, h4⟩ := Bool.and_eq_true_iff.1 h''
  have h4 : (r - 1) % l = 0 := Nat.eq_of_beq_eq_true h4
  have hl0 : 0 < l := by
    rcases Nat.eq_zero_or_pos l with h | h
    · subst h; exact absurd h5 (by decide)
    · exact h
  obtain ⟨q, hq⟩ := Nat.dvd_of_mod_eq_zero h4
  have hll : l ≤ r - 1 := Nat.le_of_dvd (by omega) (Nat.dvd_of_mod_eq_zero h4)
  obtain ⟨P, hP⟩ := hd
  have hP0 : P ≠ 0 := by rintro rfl; omega
  have hP1 : P ≠ 1 := by rintro rfl; rw [Nat.mul_one] at hP; exact hne hP
  have hrn : r ≤ n := Nat.le_of_dvd hn0 ⟨P, hP⟩
  have hln := lam_spec hr (by omega) (by omega) hl0 h3 (hp.fm (by omega)) ⟨P, hP⟩ (by omega)
  have hlP : l ∣ P - 1 := by
    have e : n - 1 = l * (q * P) + (P - 1) := by
      obtain ⟨s, rfl⟩ : ∃ s, r = s + 1 := ⟨r - 1, by omega⟩
      rw [← Nat.mul_assoc, ← hq, hP, Nat.add_mul]
      simp; omega
    rw [e] at hln
    exact (Nat.dvd_add_right (Nat.dvd_mul_right l _)).1 hln
  obtain ⟨j, hj⟩ := hlP
  have hj0 : j ≠ 0 := by rintro rfl; omega
  have hPj : P = 1 + j * l := by rw [Nat.mul_comm j]; omega
  have hPr : P ≤ 2147483648 / r := (Nat.le_div_iff_mul_le (by omega)).2 (by rw [Nat.mul_comm]; omega)
  have hjb : j ≤ (2147483648 / r - 1) / l := (Nat.le_div_iff_mul_le hl0).2 (by omega)
  have hc := rng_spec _ h6 j (by omega) (by omega)
  have hc : cand (r * (1 + j * l)) = true := hc
  rw [← hPj, ← hP] at hc
  exact cand_spec (by omega) (by omega) hc hp
end Go.Abs.M
end

section
set_option linter.unusedVariables false
set_option linter.unusedSimpArgs false
/-
  The least common multiple of the numbers up to 46340: who has no common divisor with it has no divisor up to 46340.
-/
set_option linter.unusedVariables false
set_option maxRecDepth 100000
namespace Go.Abs.M

def lc : Nat := 2554159540021389374810747292398286348622624669444864329073639652450759930272902632701287644283262953429271625950797871133231783841838723907417945416405728395518932615265478567808955008357961304889036909600230811605940255627854268431737478893090033448891125179519575826144819053132139446896907099851237233373570046449297599779265293537592943769045880330220895629033001475739899925461967527572168972957369586644693970058806646577304074957054571816044764219843592405231846514980178611688270865755647206760571525796166890861365026431461053424570985625930287735704614379265354252957188653689494730420183771423428850432672250071173307918417997479540774551387875406259036464818342166244858953841718650020989703111513318356225595729307069677580119813561459695537864577146098659541571352425095747966926055323086309076267854466432228993041118664372738046426987107890162078648713412439716851398340489942805223699160261524628337826450244279253125444048886781585164518378331876905830764210352630681281966862463181483664747034493133246866760598090527158056382156781725796546392232691426208531256178315265601973255470141002485887343778538545673935951303776880541741248863386675597276642730408773965555118113959924608393655834726793904726933306675545685540902182869027871625081786716437780977964791657039157210694640847489438665941949343868038428581077030728402809025913030715849474969923269814602158434330668514566831363839168302446917939693355507748871721743086875255387860751375564191272610086078970064378597541884981687885256831988467293402001901994671144516845701509924714265436583388731903264596506871298271816543820016615882026445833212978389108884451730371352080569231684638982151999345516134299800173711232053268759504323785315178087193751014018791768151556771531294255303655915318819800240348524584638388450607515759832928183927810813791739652999175725802716034755046229655939082044773294767637343630958856081417829574325963967152097927633522438201180569838598399172768420708618772880294240987492671283330302286695619544808377647241004755678067394774695424832198075640101170003030620389949139239292816688902517293663786799598902917271381225577862360206806284305456140987295467158522271640737409515449385489919671426788653962641349399404897364723461770796483893101358669650031298957121025425739450035683890173499188849721645698807003782619708694603890148568149825942864651580037285660766284196792110666784467367577263932925433518256364318432285680147673857797802217797538163354666345614850315221624144563855438501254259697097860284256160424219325455203358824986344594170037524608895948909726902724491533517707581215517186378851743492950526275093499197083563019212788523563022115309545123158612615112777532996585727654200256518143993046370485143986764738545824433202603532402189942329448824165676412935209522018685059062374348635556393796412684818356524836968236938468457472374537229342831920457799205206329822615492245258006523216289220825907009966228859758163842443001199562714176405232710843005656813722595968726815001488036988230721605954657233378764516521630122127166487761100553178337660359721011780906579270295189749586687717464212143864618784677661970827822106222608781583059145380733003177019251725750510275049297727938789944463902685484862475632571851145379972327255482339329824080016807428678801013543730970590691623454166975453012128654871253188737711008371446881213443431684706057333613293968614006746965251757442397059503786314445263562316090822281045699785879696199527298128218678001634986395801883391267790423749037277565316225839685574617691652940939185209510385556537772459784944917261565254711904600121726419771307662550411204984362469980160067299535976371467432311231138204614235223028775004783169815635606154664025602122980924386042467613556173581354036087198015642477839538034443374224915020549808317573248137087634354945995909127980039975251925695640944753911629416755825375970870941451817863869579062008876162903413006714711113748900608755174390566307096331461660362821534208905242742567296954998879432453402447550240924065623132009339550544589474367221830360366676233088072105160093960756788106426214337316885811860456119535312613142038704587143986058313014633633559278691277229406287872857014300264923325368446793220531661036796244461247763418282317887588774760346436657550044565912374216325159728296239547356460723186045485988523265468104250196637977734744140768279227771304169011339205525835654322545192232140053308707150856936883309736385624139261001781618450179320680226700055893086907079165013530325562939737684687845346052169921285231378661072167205539277773342485619745225036460688644704249574050380304518385841883682081069258327174616902786717732094646245997174072636818443523595424558071494129628041747879846832154578729067531805322398980824850272948827513481732086314792080643649504660660206163939082189883220856135229588483184155384066807991992388626016423773986418077519608818526959086484868928218476436374352126559699066193094294470831454679473683386437982417147489965892320870028860175551605792184195078138826639804819935988443019292603229657009186449055427990764793349893470979672883800085747081643460303364762021966557056649257112219734237527296311266993929284634845292649808740207023803883033171776467821822627171551169126797935699590113824638012906135185495941702611292518109245865798162489167812486555061882658235000552401382938968369025887376361900430888701384897147783588808292558961819809468250719544989735804362311075069661987595020946979335181381924476277819152003045055212913536615461413556578048700715145659191516412213256601686957738432991117416850998177264585887012856054218017838799069399241723321653245876077722549441952253908049876831187423303583279279204090100275680113173998067130015898177514822671439318182891665296229582477708264022072733413973544147428887466749488598745704408062926756548979866532794785702559102893113590587441910706250605182632993541763135357209628362472594000009020629285346019912880583163132283119199702843407050777605199773740225419581743357052293241569761658666601560274023976447102757435376093978499906414988794930773747395469647703634010115530247955579903221553407723596672240363113915836729123421726492052292618642445146457201184420976305889968534670555496463531972032137923321477785077901337069167451114462814805249212312997944098511931913650443317736372774595057005111358969663242821851421761019173946124211790400554899026229223863357417338779769990738844267525475112276364717397204131943987115688823827977815533079012556765380995235051602554586027142243370874990600527738099090780890232862692204624971859435850346662505323423192326436258985903995202435297930621268689183890710273043317090623941098845689274578445430916637742781099167541039943499166044916414371362139722272829328379245958885058356782873106152075199713570432949419381405467376226851040332178101215315234448973515278550553680451296764683810670803713296962454449324923365180307337864570318033529884824131952711569535175219804020806353594878806942681147010051745006952260866929006726390657504946367510550820905008415903104365737529618610871785316954550555627960485646185989597964392571515740804260520231219839430981466034499570391635572388488007672949289529465986377226247550066289230700261235724606198819704554873819639568857125000259216319160360632543195453584627575637732526720115025597068911915720461972498690212970191283992412750148759916427632284141163194572897404733910570668069726823907363041159057309473716184669229378349451137332099500150281013211609508713146025283862332249676665756866263936440674425530574176211575669218795912547352670406018425048397963028233968375887741712447406329379540488119479266270051699078114613960131003199636804039924521171847368245280533828205391538508910359989492132141029559608634391562341121028797925641993647103211553019547525760578980685849258947983309262913565177416286727685055070271922131734437082160997288878452505106103912357103079955010441411218021119968808506390675311259198904994376166351847840930342208276693945188402999319950876866383005758573200466623459264141076046407070195327774548716644238509759215925159708108922507029386729468451425543984539316258376704167195271249449657142489657859669463489731290338383665587250982509503162556115474734107636111473216551422272618109842657926025358606499195020793129745374995837213604871057439696619141099846006728586764578736742497215505682946538617560426095789618397866313364701047662846267424760581098278619072483963964299034921997524690046338068144756550811393853354728005463259733327657038457732651083852269966795140034563841293771705347633368775136152877955385377297335713767536091833185567260951614600521861626893158696308773470562593865558465240565317954033959601578908309661465985469688291526699078719310220935528200077302483649483598034551586394843851520090594748393082697294782539636206987767758354216149760519324484016025319242271476863763034890807378629508744031797147381138817518001085121006311235161592718552797679243296976606714553077711934932070261779282533218642904555166226480841621624346274910200064192371834161991376219706313005024695677454272970908881737222630396731551327744944316964243781695039698052189184353136024556642742008889192237228478477116780296608818778889295340660824586040464736653339797385092459486597083844212385022412884440496465674966113229473738839013704856905191696873854137414509617063677848736299691689202064846724866161289058505396610787975005494458490796460902444740014631282791272018918033283643953678811086737439992601215083329315241274526543088335346749249361867309019920331032447272231383801391469713945498898408938064758516139050517463283275095832753787879837679337905425876205012266447864929920782557342052156617596996783672486073442544338863220116149549944816551880537458097867367325133729895481374028662125288595564894155163970411278032733070444114285830896812195443511777305837066582873041543135034411400535845069702077778887993066788901985931189395233928767015025652271579478354451663579954780613482835720597644833900908024274125528860906295375247330423952294382117276863121302293789983047040612758295100247978689905248077643788047653167302989964909159417853075352616494127019674021104209141223585137012719786875844632974991104585438251542692917376865997640662258816349119273141309785274893443187769118871044539471559727809944712834864926658686183178795475162875921560098739336804997186811030808435911994831987504159604857346940791994208059508619317667007168536974968431475090082636762262714470395771065321983900651427855442397703093821166426692852842309779287412780236335487127929937796578187970529142110539154405040451196722094661549417966889663056818987311459632064006723668003085860014696306227317721989990642382249365652148786962449200513581863677446689758812331859024691799683265115521332457965631830636763347984157268865492539192644051270987258727859193132216225042854691309021562062107320086537038102779400665958433543705883070399095819092696448102977338630124482391953290571762357138817269097774736996814087342378331880342296116893759314460236300146341670495977110587755276401826479505134698687954170414858332824506466530476317909205584645608830492938405622868503591417818149152203378144206354985899558101403131088830283722230797109273449679756238078809679137361996546093563483114328308809372646865108321406316368446696930076533888173955620391440989374313746746949032204060560940785639738991376061038130992078145832769519671105521524470843634503834794537720363673270810976556089976664135148825502995504891791465098279825214338324107363714263804742154554063894316340423297769387069637453527177926420084428035231972636401334534083618433733724708523586162887199285192514265745415779358542168182588018849314871162685719579481825496522478090773844176987690056803586337236297869784193876397612870574120804600867434095439413809896892350775993509012068958325995608853713796860647929338211533125106538451380505253552241642967089386951806081555010230021124325349687329178140974490354336404588350429570295499077390900674920530560903575828352607795859445652309122786064564714893127076673118205196594156762557098289329079811752264467651156968097753669741636994503920492469746600458946266389097346950254307906665499316045264138457345838281192543944796802398830939571100893171848084646986938954014349713285239103350471472223565180746768698555227895918524070314049245253249752902113619333853931552567489623836696627056486606200154984735086842444134927392591305740682935617177738072617086332822521549866379536508372920958483050514965439188146922360178192530987761084938454582526474939439662836176406872265409923454069111917934404183867328592984139101879967562376836407106322823389308264313555574958306974555993074656509709983531798177056449438169347064284866307739452982932983849119442003665775727284181386134617773476571471703458472037807353376879844152360576709369337310803782991214721616325620352138241711359891136377284694600967855781593084873106434002687502413182245031890698093814545918875097205596072164931330407823737170019873015379861340631351594159521774901058894692086720242077409178239916957446210996291305511736145718624619528399102713530869894537273676387016189654063953928587124447939150165631212673534271079447619742503546046634392762266027254571418975748263105665990173429339838750714350991059737945652300060764315358860404118565205941736821187892172471381332321391786038289531819386533748733625849514895657669027875648552372538099241138804672199175864377793218491331980763719177078270185740060988388847607925016966979574866799561421405143987701340999939284763293791056706104573433283074455613457448748691284342187170564890686025093926738790539309306364625618610491068891049739979703524691805915329150111663040886255400343354674290093429388952699311270374352463607849488233944954826123540601546305578593890614954219092500285791237426332776000122821544020704135653373793806064170350312557794257803676640123815215495405117499998615700528705131947387100906622176384783322842762206789443100479617002101743902535935786920775680509214382513355247088637368403829912365177172778062974551471737456707960091340610824967976753527928786637184525068748174738593334853012414170853258889426859259991935131278351355764471590332554352538486783968567092761354566963575175994674761727668351747667942365835166866661144753369603303410925238885985238571269246427601355340865956615419435256268460571825195433227027054081118764183237623904005285304096019449055033161645528523127374679479541053472114133478556328506975344276427794626339412700195387891617780724463756411861888726204901762821674196522303020851837244338652769737484536852664148609361522982009641575653402137265329616214945446348429494737733815985043335488045497221296417698454581647965130401238885320702164932533890782939447786544028767278043142227690636286533715483747418199571687426088355970727741367260221884738795509779647195802167510227716468335913442145044890828076761532391809415110920009220028268016522474090160284487156271996610511106287488145319381064201115810496295455272748514158994352879351588668288483242128273197765413042008751524699586452510089370273014804370719975044468569932560642484602976830673831949510165278957241601400417823951422134487618638702644105581654468492162191434267650630265521938791247247955565501991465629293983635724245668173125195574155960755509123921989410628654440245016255918142431078941703890360222642523226337661378762602809691501853283980462123120554828561747511317565723433157143022615456176207592995206076914673622455679462353436351867716594249282188651845776032777569322395462751787182885446782377503147052219926502108451893913652730213093271800158693527889307714725438122334637081601992638522479736588805026682127928544949802691694349273534391061387458828242435624486954976550899694111638814179513422121090331692295652797208146921749750741483675588327990804941397890227231026122767858338864612553832526352408621656448126629495202643651935300731007642388000266741659495951212828052499748391671962304479370678574527699782173904548562773808096123283419039635486820666398311169542802038403843807188322337978716295445571098888861931143869823957782469592637938150521975081823472902846136234170457632573665159667822755250794107269429111268712181733609047031140464105727860144063495659649914397625298743158520158660563888662590345431248743575475022920722375584650965363374780081634076057197433833517725999804916304890430567135392126901955570515730022139085449191412785625275791986704098516778390624366080508763393070724371912482437438360206071784799962750993303000656960541350600589597513148856672873762579744226173358106017546521544797838543913174537159464452639249075785269852259226676233619218032381273646892616903623341757984705412532827219298502186802826622805212616347356815163991424001954168545406429501033544383289484541290697850368554764913453083371208168884735135079530965493614027117559749513811028921956054060295059669072169528762473051866756231976004383088740563868901666583347506744020802820220226209347402076621350039064564888008504380678079215435281628522505915075637367054368166487967608533968844769060894505042097870589759241568172453157963214979291984548141798947287588534166478641948295657655113883702198692336481776748757125046621149420372802586100956660879875278800076384472851613619003970057056622682513908670231336762172716388714467165846129718503058942192790975775031298643346008889654201977774382118247155529366116596421606508089261448066124206077807919015668560784025545258563625433260128352478944532549516461732588075828240975488770221958276898597769515739560362059727075191060770013193896977650579243402183890356308697721861796660279306719116452323966854744828494986253156058949189421265194135721388698759062788838133366931882995547513256647064240073906293302070357436351911269421205934964140994165081911015886658133195802310436969358904336353186670663053429271102498246611735816380636094894094990521522316671028076108563935176447404845658257950668769928537387231807259034138960360980000310196525527178377496064420535565909530821188029845930057607808492564122213768239390880970626467125159231516544382539029604349725960662141778717883638546423498945683390155477878421422994679785745814336551235593050855142876836071600021619919598097775882451931478431553791586824615136953393880033548268262704853237952585856602979969544849250595142375184251656882987940184577391779580777476547378808195503558685803255467193092824109595369706030465715962325885227023944284942640208280535624789248767037164680870356963066078546078914128029128403332373256909458588699491093279987784620928483812561652094093342364091705546040803164261909255415897516865397378834809125002714423983949014140203040826327947042962389505523845749464910613349119039593275924420516721358013722978558949499784128791806210531601055841319363226954721808970829195192582413738783081192156990651405915177812709978515744639145853807830419262700765962272734126970513721862588888865001905114905244026156246976324787538629880412400237072036345886937978763107969464762388896948004379445010686463776589013606523332778926596696263080415735924475795676414658460958365242846854665809236396849801387482152751937255405599255942336390263594563999377329683870368598442687960759050007805925831842175549374774061673580644077618716006734541959237722102957538532738583954510440738574888647030610016246905031336174678471135066858288971122485263309107342889082059481988180347118757111162498751503803831049239738685433638866842271445855603886136071235725487096711287721306174648539673987330383343950196315055104136381579569291894740006441205228291151283977975964101786606195891331367620387537884801181231890504906127285991346970367161773155947201907745722759938750099741437856792312251247447654088502106299056222635119983352513587107008683897445265658861494269633147815766608028401623954970857227466043381911938709060203361032935604019292850353136410257847017882965209417921417228609817791872711618282567294872065289238546065712438521021165209245212479539464007715733733440163688888661685232614847634299047746143803677940198869332553073964871478275529986055289344000000
def lc2 : Nat := 71168947243747441838927276793711536968235214767668176422286721624536377810802929304135312000

theorem lc_rng : rng (fun d => Nat.beq (Nat.mod lc d) 0) 1 46340 = true := by decide +kernel
theorem lc2_rng : rng (fun d => Nat.beq (Nat.mod lc2 d) 0) 1 222 = true := by decide +kernel

theorem lc_dvd {d : Nat} (h1 : 1 ≤ d) (h2 : d ≤ 46340) : d ∣ lc := Nat.dvd_of_mod_eq_zero (Nat.eq_of_beq_eq_true (rng_spec _ lc_rng d h1 (by omega)))
theorem lc2_dvd {d : Nat} (h1 : 1 ≤ d) (h2 : d ≤ 222) : d ∣ lc2 := Nat.dvd_of_mod_eq_zero (Nat.eq_of_beq_eq_true (rng_spec _ lc2_rng d h1 (by omega)))

/-- No divisors. -/
def Pr (n : Nat) : Prop := 2 ≤ n ∧ ∀ d, 2 ≤ d → d * d ≤ n → n % d ≠ 0

theorem pr_of_gcd {c B n : Nat} (hc : ∀ d, 1 ≤ d → d ≤ B → d ∣ c) (h : Nat.gcd c n = 1) (h2 : 2 ≤ n) (hn : n < (B + 1) * (B + 1)) : Pr n := by
  refine ⟨h2, fun d hd hdd h0 => ?_⟩
  have hdB : d ≤ B := by
    rcases Nat.lt_or_ge B d with h | h
    · have := Nat.mul_le_mul (show B + 1 ≤ d from h) (show B + 1 ≤ d from h); omega
    · exact h
  have := Nat.dvd_gcd (hc d (by omega) hdB) (Nat.dvd_of_mod_eq_zero h0)
  rw [h] at this
  have := Nat.le_of_dvd (by omega) this
  omega
end Go.Abs.M
end

section
set_option linter.unusedVariables false
set_option linter.unusedSimpArgs false
/-
  No composite number below 2^31 with a prime factor above 46340 passes the test for 2, 3, 5 and 7.
-/
set_option linter.unusedVariables false
set_option maxRecDepth 100000
namespace Go.Abs.M

/-- The product of cnt numbers from lo on. -/
noncomputable def prodR : Nat → Nat → Nat → Nat
  | 0, _, _ => 1
  | f + 1, lo, cnt => @Bool.rec (fun _ => Nat) (Nat.mul (prodR f lo (Nat.div cnt 2)) (prodR f (Nat.add lo (Nat.div cnt 2)) (Nat.sub cnt (Nat.div cnt 2)))) lo (Nat.beq cnt 1)

theorem prodR_dvd {r : Nat} (hr : Prime r) : ∀ (f lo cnt : Nat), 0 < lo → 0 < cnt → lo + cnt ≤ r → ¬ r ∣ prodR f lo cnt
  | 0, lo, cnt, h0, h1, h2 => fun h => by
    have h : r ∣ 1 := h
    have := Nat.le_of_dvd (by omega) h
    have := hr.two
    omega
  | f + 1, lo, cnt, h0, h1, h2 => fun h => by
    have h : r ∣ @Bool.rec (fun _ => Nat) (prodR f lo (cnt / 2) * prodR f (lo + cnt / 2) (cnt - cnt / 2)) lo (Nat.beq cnt 1) := h
    cases hc : Nat.beq cnt 1 with
    | true =>
      rw [hc] at h
      have : r ≤ lo := Nat.le_of_dvd h0 h
      omega
    | false =>
      rw [hc] at h
      have hne : cnt ≠ 1 := fun e => by rw [e] at hc; cases hc
      rcases hr.dvd_mul h with h | h
      · exact prodR_dvd hr f _ _ h0 (by omega) (by omega) h
      · exact prodR_dvd hr f _ _ (by omega) (by omega) (by omega) h

theorem lc_prod : Nat.beq (Nat.mod (prodR 17 1 46340) lc) 0 = true := by decide +kernel

theorem not_dvd_lc {r : Nat} (hr : Prime r) (h : 46340 < r) : ¬ r ∣ lc := fun hd =>
  prodR_dvd hr 17 1 46340 (by omega) (by omega) (by omega) (Nat.dvd_trans hd (Nat.dvd_of_mod_eq_zero (Nat.eq_of_beq_eq_true lc_prod)))

/-- The number has no factor up to 46340, and at most one; its multiple fails the test. -/
noncomputable def okf (P x : Nat) : Bool := Nat.beq x 1 || (Nat.beq (Nat.gcd x lc) 1 && Nat.ble x 2147488280 && (Nat.ble 2147483648 (Nat.mul x P) || cand (Nat.mul x P)))

noncomputable def gP (P : Nat) : Nat := (fun e => Nat.gcd (Nat.gcd (Nat.sub (Nat.pow 2 e) 1) (Nat.sub (Nat.pow 3 e) 1)) (Nat.gcd (Nat.sub (Nat.pow 5 e) 1) (Nat.sub (Nat.pow 7 e) 1))) (Nat.sub P 1)

noncomputable def chk1f (P f h : Nat) : Bool := Nat.beq h 1 || (Nat.beq (Nat.mod h f) 0 && okf P f && okf P (Nat.div h f))
noncomputable def chk1 (P : Nat) : Bool := @Bool.rec (fun _ => Bool) true (chk1f P (@Bool.rec (fun _ => Nat) 1 54121 (Nat.beq P 27061)) (Nat.div (gP P) (Nat.gcd (gP P) lc))) (Nat.beq (Nat.gcd P 210) 1)

theorem okf_spec {P x r : Nat} (hr : Prime r) (h1 : 46340 < r) (hd : r ∣ x) (hlt : r * P < 2147483648) (hn : 2 ≤ r * P) (h : okf P x = true) : ¬ Pass (r * P) := by
  unfold okf at h
  rcases Bool.or_eq_true_iff.1 h with h | h
  · have : x = 1 := Nat.eq_of_beq_eq_true h
    subst this
    have := Nat.le_of_dvd (by omega) hd
    omega
  · obtain ⟨h', h4⟩ := Bool.and_eq_true_iff.1 h
    obtain ⟨h2, h3⟩ := Bool.and_eq_true_iff.1 h'
    have h2 : Nat.gcd x lc = 1 := Nat.eq_of_beq_eq_true h2
    have h3 : x ≤ 2147488280 := Nat.le_of_ble_eq_true h3
    obtain ⟨c, hc⟩ := hd
    have hx0 : x ≠ 0 := by
      rintro rfl
      rw [Nat.gcd_zero_left] at h2
      exact absurd h2 (by decide +kernel)
    have hc0 : c ≠ 0 := by rintro rfl; rw [Nat.mul_zero] at hc; exact hx0 hc
    have hcs : c ≤ 46340 := by
      rcases Nat.lt_or_ge 46340 c with g | g
      · have := Nat.mul_le_mul (show 46341 ≤ r from h1) (show 46341 ≤ c from g); omega
      · exact g
    have hg := Nat.dvd_gcd (show c ∣ x from ⟨r, by rw [hc, Nat.mul_comm]⟩) (lc_dvd (by omega) hcs)
    rw [h2] at hg
    have := Nat.le_of_dvd (by omega) hg
    have hc1 : c = 1 := by omega
    subst hc1
    rw [Nat.mul_one] at hc
    subst hc
    rcases Bool.or_eq_true_iff.1 h4 with h | h
    · have : 2147483648 ≤ x * P := Nat.le_of_ble_eq_true h
      omega
    · exact cand_spec hn (by omega) h

theorem chk1_spec {r P : Nat} (hr : Prime r) (h1 : 46340 < r) (hP : 1 < P) (hlt : r * P < 2147483648) (h210 : Nat.gcd (r * P) 210 = 1) (hc : chk1 P = true) : ¬ Pass (r * P) := by
  intro hp
  have hrP : r * 1 ≤ r * P := Nat.mul_le_mul_left r (by omega)
  have hf : Fm (r * P) := hp.fm (by omega)
  have hg : Nat.gcd P 210 = 1 := by
    have h := Nat.gcd_dvd_gcd_of_dvd_left 210 (show P ∣ r * P from ⟨r, Nat.mul_comm _ _⟩)
    rw [h210] at h
    have := Nat.le_of_dvd (by omega) h
    have := Nat.gcd_pos_of_pos_left 210 (show 0 < P by omega)
    omega
  have r1 : 1 < r := by omega
  have hone : ∀ a, a = 2 ∨ a = 3 ∨ a = 5 ∨ a = 7 → r ∣ a ^ (P - 1) - 1 := fun a ha => by
    have ha0 : a % r ≠ 0 := by rw [Nat.mod_eq_of_lt (by omega)]; omega
    have e1 := hr.fermat ha0
    have e2 := hf a ha
    have e3 : a ^ (r * P - 1) % r = 1 := by
      rw [← Nat.mod_mul_right_mod (a ^ (r * P - 1)) r P, e2]
      exact Nat.mod_eq_of_lt r1
    have e4 : r * P - 1 = (r - 1) * P + (P - 1) := by
      obtain ⟨s, rfl⟩ : ∃ s, r = s + 1 := ⟨r - 1, by omega⟩
      rw [Nat.add_mul, Nat.one_mul]; simp; omega
    rw [e4, Nat.pow_add, Nat.mul_mod, Nat.pow_mul, ← pow_mod', e1, Nat.one_pow, Nat.mod_eq_of_lt r1, Nat.one_mul, Nat.mod_mod] at e3
    exact dvd_of_pow r1 e3
  have hgr : r ∣ gP P := Nat.dvd_gcd (Nat.dvd_gcd (hone 2 (by simp)) (hone 3 (by simp))) (Nat.dvd_gcd (hone 5 (by simp)) (hone 7 (by simp)))
  unfold chk1 at hc
  rw [hg] at hc
  have hc : chk1f P (@Bool.rec (fun _ => Nat) 1 54121 (Nat.beq P 27061)) (gP P / Nat.gcd (gP P) lc) = true := hc
  obtain ⟨h, hh⟩ : ∃ h, h = gP P / Nat.gcd (gP P) lc := ⟨_, rfl⟩
  rw [← hh] at hc
  have hrh : r ∣ h := by
    have e : gP P = Nat.gcd (gP P) lc * h := by rw [hh]; exact (Nat.mul_div_cancel' (Nat.gcd_dvd_left _ _)).symm
    rw [e] at hgr
    rcases hr.dvd_mul hgr with h | h
    · exact absurd (Nat.dvd_trans h (Nat.gcd_dvd_right _ _)) (not_dvd_lc hr h1)
    · exact h
  generalize (@Bool.rec (fun _ => Nat) 1 54121 (Nat.beq P 27061)) = f at hc
  unfold chk1f at hc
  rcases Bool.or_eq_true_iff.1 hc with hc | hc
  · have : h = 1 := Nat.eq_of_beq_eq_true hc
    rw [this] at hrh
    have := Nat.le_of_dvd (by omega) hrh
    omega
  · obtain ⟨hc', h4⟩ := Bool.and_eq_true_iff.1 hc
    obtain ⟨h2, h3⟩ := Bool.and_eq_true_iff.1 hc'
    have h2 : h % f = 0 := Nat.eq_of_beq_eq_true h2
    have e : h = f * (h / f) := (Nat.mul_div_cancel' (Nat.dvd_of_mod_eq_zero h2)).symm
    rw [e] at hrh
    rcases hr.dvd_mul hrh with g | g
    · exact okf_spec hr h1 g hlt (by omega) h3 hp
    · exact okf_spec hr h1 g hlt (by omega) h4 hp
end Go.Abs.M
end

section
set_option linter.unusedVariables false
set_option linter.unusedSimpArgs false
/-
  What the kernel computes: the cofactors up to 46340 of primes above 46340.
-/
set_option maxRecDepth 100000
set_option maxHeartbeats 0
namespace Go.Abs.M
theorem chk1_a : rng chk1 2 15000 = true := by decide +kernel
theorem chk1_b : rng chk1 15002 10000 = true := by decide +kernel
theorem chk1_c : rng chk1 25002 8000 = true := by decide +kernel
theorem chk1_d : rng chk1 33002 7000 = true := by decide +kernel
theorem chk1_e : rng chk1 40002 6339 = true := by decide +kernel
theorem chk1_all {P : Nat} (h1 : 2 ≤ P) (h2 : P < 46341) : chk1 P = true :=
  rng_join (rng_join (rng_join (rng_join (rng_spec _ chk1_a) (rng_spec _ chk1_b)) (rng_spec _ chk1_c)) (rng_spec _ chk1_d)) (rng_spec _ chk1_e) P h1 h2
end Go.Abs.M
end

section
set_option linter.unusedVariables false
set_option linter.unusedSimpArgs false
/-
  What the kernel computes: the multiples of primes from 1000 to 46340.
-/
set_option maxRecDepth 100000
set_option maxHeartbeats 0
namespace Go.Abs.M
theorem chk2_a : rng chk2 1001 300 = true := by decide +kernel
theorem chk2_b : rng chk2 1301 700 = true := by decide +kernel
theorem chk2_c : rng chk2 2001 8000 = true := by decide +kernel
theorem chk2_d : rng chk2 10001 12000 = true := by decide +kernel
theorem chk2_e : rng chk2 22001 12000 = true := by decide +kernel
theorem chk2_f : rng chk2 34001 12340 = true := by decide +kernel
theorem chk2_all {r : Nat} (h1 : 1001 ≤ r) (h2 : r < 46341) : chk2 r = true :=
  rng_join (rng_join (rng_join (rng_join (rng_join (rng_spec _ chk2_a) (rng_spec _ chk2_b)) (rng_spec _ chk2_c)) (rng_spec _ chk2_d)) (rng_spec _ chk2_e)) (rng_spec _ chk2_f) r h1 h2
end Go.Abs.M
end

section
set_option linter.unusedVariables false
set_option linter.unusedSimpArgs false
/-
  No number from 1000 to 2^31 whose prime factors are from 11 to 997 passes the test for 2, 3, 5 and 7.
-/
set_option linter.unusedVariables false
set_option maxRecDepth 100000
namespace Go.Abs.M

/-- The primes from 997 down to 11, each with the least exponent (q * 1024 + exponent). -/
def ql : List Nat := [1021924, 1015774, 1007574, 1001424, 995274, 991174, 976824, 970674, 964524, 960424, 952224, 941974, 933774, 929674, 909174, 905074, 903024, 898924, 884574, 880474, 878424, 874324, 859555, 849724, 847674, 843574, 841524, 831274, 829224, 816924, 806674, 792324, 788224, 780024, 775924, 769774, 761574, 757474, 751324, 745174, 736615, 726724, 718524, 708274, 700074, 693924, 689824, 677524, 675474, 669324, 663174, 659074, 657024, 646774, 634474, 632424, 628324, 622174, 616024, 613974, 607824, 601674, 591424, 585274, 583224, 577074, 570924, 560674, 554524, 536074, 534024, 521724, 515574, 511474, 503274, 499174, 490735, 478674, 474574, 472524, 468424, 460224, 454074, 449974, 443824, 441774, 431524, 429474, 419224, 411024, 406924, 398724, 392574, 388474, 382324, 376174, 367974, 361824, 357724, 355674, 345424, 339274, 324924, 320824, 318619, 314674, 300324, 290074, 288024, 283924, 277774, 275724, 269574, 263424, 257274, 247024, 244974, 238824, 234724, 232674, 228574, 216274, 203974, 201924, 197824, 195774, 185524, 183474, 177324, 171174, 167074, 160924, 154774, 152724, 142474, 140424, 134274, 130174, 115824, 111724, 109674, 105574, 103524, 99424, 91224, 85074, 80974, 74824, 72774, 68674, 62524, 60474, 54324, 48174, 44074, 42024, 37924, 31774, 29724, 23574, 19474, 17424, 13324, 11274]

/-- No divisor up to 31. -/
noncomputable def prB (n : Nat) : Bool := rng (fun d => Nat.ble n d || !Nat.beq (Nat.mod n d) 0) 2 30

theorem prB_spec {n : Nat} (h2 : 2 ≤ n) (hn : n < 1024) (h : prB n = true) : Pr n := by
  refine ⟨h2, fun d h3 h4 h5 => ?_⟩
  have hd : d < 32 := by
    rcases Nat.lt_or_ge d 32 with h | h
    · exact h
    · have := Nat.mul_le_mul h h; omega
  have := rng_spec 30 h d h3 (by omega)
  rcases Bool.or_eq_true_iff.1 this with g | g
  · have : n ≤ d := Nat.le_of_ble_eq_true g
    have := Nat.mul_le_mul this (Nat.le_refl d)
    have : n * 2 ≤ n * d := Nat.mul_le_mul (Nat.le_refl n) h3
    omega
  · have h5 : Nat.mod n d = 0 := h5
    rw [h5] at g; exact absurd g (by decide)

theorem Pr.prime {n : Nat} (h : Pr n) : Prime n := by
  obtain ⟨h1, h3⟩ := h
  refine ⟨h1, fun d hd => ?_⟩
  by_cases hd1 : d = 1
  · exact .inl hd1
  by_cases hdn : d = n
  · exact .inr hdn
  exfalso
  obtain ⟨e, he⟩ := hd
  have hd0 : d ≠ 0 := by rintro rfl; rw [Nat.zero_mul] at he; omega
  have he0 : e ≠ 0 := by rintro rfl; rw [Nat.mul_zero] at he; omega
  have he1 : e ≠ 1 := by rintro rfl; rw [Nat.mul_one] at he; exact hdn he.symm
  rcases Nat.le_total d e with hde | hde
  · exact h3 d (by omega) (by rw [he]; exact Nat.mul_le_mul (Nat.le_refl d) hde) (by rw [he]; exact Nat.mul_mod_right ..)
  · exact h3 e (by omega) (by rw [he]; exact Nat.mul_le_mul hde (Nat.le_refl e)) (by rw [he]; exact Nat.mul_mod_left ..)

theorem Prime.pr {n : Nat} (h : Prime n) : Pr n := ⟨h.two, fun d h1 h2 h3 => by
  rcases h.divs d (Nat.dvd_of_mod_eq_zero h3) with g | g
  · omega
  · rw [g] at h2
    have := Nat.mul_le_mul h.two (Nat.le_refl n)
    have := h.two
    omega⟩

noncomputable def okE (e : Nat) : Bool := (fun q l => prB q && okL q l && Nat.ble 11 q && Nat.ble q 1000 && Nat.ble 1 l) (e / 1024) (e % 1024)
theorem ql_ok : ql.all okE = true := by decide +kernel

theorem ql_spec {e : Nat} (he : e ∈ ql) {n : Nat} (hn : Fm n) (hd : e / 1024 ∣ n) (hn1 : 1 < n) : Prime (e / 1024) ∧ 11 ≤ e / 1024 ∧ e % 1024 ∣ n - 1 := by
  have h := List.all_eq_true.1 ql_ok e he
  unfold okE at h
  obtain ⟨h', h5⟩ := Bool.and_eq_true_iff.1 h
  obtain ⟨h', h4⟩ := Bool.and_eq_true_iff.1 h'
  obtain ⟨h', h3⟩ := Bool.and_eq_true_iff.1 h'
  obtain ⟨h1, h2⟩ := Bool.and_eq_true_iff.1 h'
  have h3 : 11 ≤ e / 1024 := Nat.le_of_ble_eq_true h3
  have h4 : e / 1024 ≤ 1000 := Nat.le_of_ble_eq_true h4
  have h5 : 1 ≤ e % 1024 := Nat.le_of_ble_eq_true h5
  have hp := (prB_spec (by omega) (by omega) h1).prime
  exact ⟨hp, h3, lam_spec hp (by omega) (by omega) (by omega) h2 hn hd hn1⟩

noncomputable def qmem (p : Nat) : Bool := ql.any (fun e => Nat.beq (e / 1024) p) || !prB p
theorem qmem_all : rng qmem 11 990 = true := by decide +kernel

theorem prB_prime {p : Nat} (hp : Prime p) : prB p = true := by
  have key : ∀ cnt lo, 2 ≤ lo → rng (fun d => Nat.ble p d || !Nat.beq (Nat.mod p d) 0) lo cnt = true := by
    intro cnt
    induction cnt with
    | zero => intro lo _; rfl
    | succ cnt ih =>
      intro lo hlo
      show @Bool.rec (fun _ => Bool) false (rng (fun d => Nat.ble p d || !Nat.beq (Nat.mod p d) 0) lo cnt) (Nat.ble p (lo + cnt) || !Nat.beq (Nat.mod p (lo + cnt)) 0) = true
      have : (Nat.ble p (lo + cnt) || !Nat.beq (Nat.mod p (lo + cnt)) 0) = true := by
        rcases Nat.lt_or_ge (lo + cnt) p with h | h
        · have h0 : Nat.mod p (lo + cnt) ≠ 0 := fun h0 => by
            rcases hp.divs _ (Nat.dvd_of_mod_eq_zero h0) with g | g <;> omega
          have : Nat.beq (Nat.mod p (lo + cnt)) 0 = false := Bool.eq_false_iff.2 fun g => h0 (Nat.eq_of_beq_eq_true g)
          rw [this]; simp
        · rw [Nat.ble_eq_true_of_le h]; rfl
      rw [this]
      exact ih lo hlo
  exact key 30 2 (by omega)

theorem qmem_spec {p : Nat} (hp : Prime p) (h1 : 11 ≤ p) (h2 : p < 1001) : ∃ e ∈ ql, e / 1024 = p := by
  have h := rng_spec 990 qmem_all p h1 (by omega)
  unfold qmem at h
  rw [prB_prime hp, Bool.not_true, Bool.or_false] at h
  obtain ⟨e, he, hb⟩ := List.any_eq_true.1 h
  exact ⟨e, he, Nat.eq_of_beq_eq_true hb⟩

/-- The inverse of a modulo m (not proved: the result is checked). -/
noncomputable def invr (f : Nat) : Nat → Nat → Nat := @Nat.rec (fun _ => Nat → Nat → Nat) (fun _ _ => 0)
  (fun _ ih a m => @Bool.rec (fun _ => Nat) (Nat.div (Nat.add (Nat.mul m (Nat.sub a (ih (Nat.mod m a) a))) 1) a) 1 (Nat.beq a 1)) f

/-- All numbers up to 2^31 that are multiples of Q and 1 modulo L. -/
noncomputable def listed (Q L c : Nat) : Bool := @Bool.rec (fun _ => Bool) false (rng (fun j => cand (Nat.mul Q (Nat.add c (Nat.mul j L)))) 0 (Nat.add (Nat.div (Nat.div 2147483648 Q) L) 1)) (Nat.beq (Nat.mod (Nat.mul Q c) L) 1)

noncomputable def node (Q L : Nat) (ih : Bool) : Bool :=
  @Bool.rec (fun _ => Bool) (@Bool.rec (fun _ => Bool) true (@Bool.rec (fun _ => Bool) ih (listed Q L (Nat.mod (invr 60 (Nat.mod Q L) L) L)) (Nat.ble (Nat.div (Nat.div 2147483648 Q) L) 16)) (Nat.beq (Nat.gcd Q L) 1)) true (Nat.ble 2147483648 Q)

/-- l: the primes that may still come; Q: the product of those chosen; L: what divides n - 1. -/
noncomputable def walk (f : Nat) : List Nat → Nat → Nat → Bool := @Nat.rec (fun _ => List Nat → Nat → Nat → Bool) (fun _ _ _ => false)
  (fun _ ih l Q L => @List.rec Nat (fun _ => Bool) (cand Q || Nat.ble Q 999)
    (fun e t nx => @Bool.rec (fun _ => Bool) false nx ((fun Q' L' => node Q' L' (ih (e :: t) Q' L')) (Nat.mul Q (Nat.div e 1024)) (Nat.div (Nat.mul L (Nat.mod e 1024)) (Nat.gcd L (Nat.mod e 1024))))) l) f

theorem mod_one_dvd {a m : Nat} (hm : 1 < m) (ha : 0 < a) (h : m ∣ a - 1) : a % m = 1 := by
  obtain ⟨c, hc⟩ := h
  have : a = 1 + m * c := by omega
  rw [this, Nat.add_mul_mod_self_left, Nat.mod_eq_of_lt hm]

theorem listed_spec {Q L c k : Nat} (h : listed Q L c = true) (hcL : c < L) (hQ : 0 < Q) (hk : 0 < k) (hlt : Q * k < 2147483648) (h2 : 2 ≤ Q * k) (hd : L ∣ Q * k - 1) : ¬ Pass (Q * k) := by
  unfold listed at h
  cases hc : Nat.beq (Nat.mod (Nat.mul Q c) L) 1 with
  | false => rw [hc] at h; cases h
  | true =>
    rw [hc] at h
    have h : rng (fun j => cand (Nat.mul Q (Nat.add c (Nat.mul j L)))) 0 (2147483648 / Q / L + 1) = true := h
    have hc : Q * c % L = 1 := Nat.eq_of_beq_eq_true hc
    have hL : 1 < L := by
      have : L ≠ 1 := by rintro rfl; rw [Nat.mod_one] at hc; cases hc
      omega
    have hq : Q * k % L = 1 := mod_one_dvd hL (by omega) hd
    have e1 : k % L = c % L := by
      have a1 : Q * k * c % L = c % L := by rw [Nat.mul_mod, hq, Nat.one_mul, Nat.mod_mod]
      have a2 : Q * k * c % L = k % L := by rw [show Q * k * c = Q * c * k by rw [Nat.mul_assoc, Nat.mul_comm k, ← Nat.mul_assoc], Nat.mul_mod, hc, Nat.one_mul, Nat.mod_mod]
      rw [← a1, a2]
    rw [Nat.mod_eq_of_lt hcL] at e1
    have hk2 : k ≤ 2147483648 / Q := (Nat.le_div_iff_mul_le hQ).2 (by rw [Nat.mul_comm]; omega)
    have hj : k / L ≤ 2147483648 / Q / L := Nat.div_le_div_right hk2
    have hx := rng_spec _ h (k / L) (Nat.zero_le _) (by rw [Nat.zero_add]; exact Nat.lt_succ_of_le hj)
    have hx : cand (Q * (c + k / L * L)) = true := hx
    have ek : c + k / L * L = k := by rw [← e1, Nat.mul_comm]; exact Nat.mod_add_div k L
    rw [ek] at hx
    exact cand_spec h2 (by omega) hx

theorem node_spec {Q L k : Nat} {ih : Bool} (h : node Q L ih = true) (hQ : 0 < Q) (hk : 0 < k) (hlt : Q * k < 2147483648) (h2 : 2 ≤ Q * k) (hd : L ∣ Q * k - 1) : ¬ Pass (Q * k) ∨ ih = true := by
  unfold node at h
  cases h1 : Nat.ble 2147483648 Q with
  | true =>
    have h1 : 2147483648 ≤ Q := Nat.le_of_ble_eq_true h1
    have := Nat.mul_le_mul (Nat.le_refl Q) (show 1 ≤ k from hk)
    omega
  | false =>
    rw [h1] at h
    have h : @Bool.rec (fun _ => Bool) true (@Bool.rec (fun _ => Bool) ih (listed Q L (Nat.mod (invr 60 (Nat.mod Q L) L) L)) (Nat.ble (Nat.div (Nat.div 2147483648 Q) L) 16)) (Nat.beq (Nat.gcd Q L) 1) = true := h
    have hL : 0 < L := by
      rcases Nat.eq_zero_or_pos L with h | h
      · subst h
        have := Nat.eq_zero_of_zero_dvd hd
        omega
      · exact h
    cases h3 : Nat.beq (Nat.gcd Q L) 1 with
    | false =>
      exfalso
      have g1 : Nat.gcd Q L ∣ Q * k := Nat.dvd_trans (Nat.gcd_dvd_left _ _) (Nat.dvd_mul_right _ _)
      have g2 : Nat.gcd Q L ∣ Q * k - 1 := Nat.dvd_trans (Nat.gcd_dvd_right _ _) hd
      have g3 : Nat.gcd Q L ∣ 1 := by
        have := Nat.dvd_sub g1 g2
        rwa [show Q * k - (Q * k - 1) = 1 by omega] at this
      have g4 : Nat.gcd Q L = 1 := Nat.dvd_one.1 g3
      rw [g4] at h3
      cases h3
    | true =>
      rw [h3] at h
      have h : @Bool.rec (fun _ => Bool) ih (listed Q L (Nat.mod (invr 60 (Nat.mod Q L) L) L)) (Nat.ble (Nat.div (Nat.div 2147483648 Q) L) 16) = true := h
      cases h4 : Nat.ble (Nat.div (Nat.div 2147483648 Q) L) 16 with
      | false => rw [h4] at h; exact .inr h
      | true => rw [h4] at h; exact .inl (listed_spec h (Nat.mod_lt _ hL) hQ hk hlt h2 hd)

theorem walk_spec : ∀ (f : Nat) (l : List Nat) (Q L : Nat), walk f l Q L = true → (∀ e ∈ l, e ∈ ql) → ∀ k, 0 < Q → 0 < k → 1000 ≤ Q * k → Q * k < 2147483648 → (∀ p, Prime p → p ∣ k → ∃ e ∈ l, e / 1024 = p) → L ∣ Q * k - 1 → Pass (Q * k) → False
  | 0, l, Q, L, h => by cases h
  | f + 1, [], Q, L, h => fun hl k hQ hk h1 h2 hp hL hpass => by
    have hk1 : k = 1 := by
      rcases Nat.lt_or_ge k 2 with g | g
      · omega
      · obtain ⟨p, p1, p2⟩ := exists_prime_dvd k g
        obtain ⟨e, he, _⟩ := hp p p1 p2
        cases he
    subst hk1
    rw [Nat.mul_one] at *
    have h : (cand Q || Nat.ble Q 999) = true := h
    rcases Bool.or_eq_true_iff.1 h with h | h
    · exact cand_spec (by omega) (by omega) h hpass
    · have : Q ≤ 999 := Nat.le_of_ble_eq_true h
      omega
  | f + 1, e :: t, Q, L, h => fun hl k hQ hk h1 h2 hp hL hpass => by
    have h : @Bool.rec (fun _ => Bool) false (walk (f + 1) t Q L) (node (Q * (e / 1024)) (Nat.lcm L (e % 1024)) (walk f (e :: t) (Q * (e / 1024)) (Nat.lcm L (e % 1024)))) = true := h
    cases hn : node (Q * (e / 1024)) (Nat.lcm L (e % 1024)) (walk f (e :: t) (Q * (e / 1024)) (Nat.lcm L (e % 1024))) with
    | false => rw [hn] at h; cases h
    | true =>
      rw [hn] at h
      have h : walk (f + 1) t Q L = true := h
      by_cases hd : e / 1024 ∣ k
      · obtain ⟨k', hk'⟩ := hd
        have e1 : Q * k = Q * (e / 1024) * k' := by rw [hk', Nat.mul_assoc]
        obtain ⟨q1, q2, q3⟩ := ql_spec (hl e (.head _)) (hpass.fm (by omega)) (show e / 1024 ∣ Q * k from ⟨Q * k', by rw [hk', Nat.mul_left_comm]⟩) (by omega)
        have k0 : 0 < k' := by
          rcases Nat.eq_zero_or_pos k' with h | h
          · subst h; omega
          · exact h
        have hQ' : 0 < Q * (e / 1024) := Nat.mul_pos hQ (by omega)
        have hL' : Nat.lcm L (e % 1024) ∣ Q * k - 1 := Nat.lcm_dvd hL q3
        rw [e1] at hL' h1 h2 hpass
        rcases node_spec hn hQ' k0 h2 (by omega) hL' with g | g
        · exact g hpass
        · exact walk_spec f (e :: t) _ _ g hl k' hQ' k0 h1 h2 (fun p p1 p2 => hp p p1 (Nat.dvd_trans p2 ⟨e / 1024, by rw [hk', Nat.mul_comm]⟩)) hL' hpass
      · exact walk_spec (f + 1) t Q L h (fun x hx => hl x (.tail _ hx)) k hQ hk h1 h2 (fun p p1 p2 => by
          obtain ⟨x, hx, hxp⟩ := hp p p1 p2
          rcases List.mem_cons.1 hx with rfl | hx
          · rw [hxp] at hd; exact absurd p2 hd
          · exact ⟨x, hx, hxp⟩) hL hpass

/-- The first prime of the walk: the place i of the list. -/
noncomputable def topN (i : Nat) : Bool := @List.rec Nat (fun _ => Bool) true (fun e t _ => (fun Q' L' => node Q' L' (walk 11 (e :: t) Q' L')) (Nat.mul 1 (Nat.div e 1024)) (Nat.div (Nat.mul 1 (Nat.mod e 1024)) (Nat.gcd 1 (Nat.mod e 1024)))) (ql.drop i)

theorem walk_top : ∀ (l : List Nat) (i : Nat), ql.drop i = l → (∀ j, i ≤ j → j < i + l.length → topN j = true) → walk 12 l 1 1 = true
  | [], i, hi, h => by decide +kernel
  | e :: t, i, hi, h => by
    have h1 := h i (Nat.le_refl _) (by simp)
    unfold topN at h1
    rw [hi] at h1
    have h1 : node (Nat.mul 1 (Nat.div e 1024)) (Nat.div (Nat.mul 1 (Nat.mod e 1024)) (Nat.gcd 1 (Nat.mod e 1024))) (walk 11 (e :: t) (Nat.mul 1 (Nat.div e 1024)) (Nat.div (Nat.mul 1 (Nat.mod e 1024)) (Nat.gcd 1 (Nat.mod e 1024)))) = true := h1
    have h2 : walk 12 t 1 1 = true := walk_top t (i + 1) (by
      have := congrArg (List.drop 1) hi
      rw [List.drop_drop] at this
      rw [show i + 1 = i + 1 from rfl]; exact this) (fun j h3 h4 => h j (by omega) (by simp; omega))
    show @Bool.rec (fun _ => Bool) false (walk 12 t 1 1) (node (Nat.mul 1 (Nat.div e 1024)) (Nat.div (Nat.mul 1 (Nat.mod e 1024)) (Nat.gcd 1 (Nat.mod e 1024))) (walk 11 (e :: t) (Nat.mul 1 (Nat.div e 1024)) (Nat.div (Nat.mul 1 (Nat.mod e 1024)) (Nat.gcd 1 (Nat.mod e 1024))))) = true
    rw [h1]; exact h2

theorem ql_len : ql.length = 164 := by decide +kernel

theorem case3_of (h : walk 12 ql 1 1 = true) {n : Nat} (h1 : 1000 ≤ n) (h2 : n < 2147483648) (hp : ∀ p, Prime p → p ∣ n → 11 ≤ p ∧ p < 1001) : ¬ Pass n := fun hpass => by
  have e : 1 * n = n := Nat.one_mul n
  exact walk_spec 12 ql 1 1 h (fun _ hx => hx) n (by omega) (by omega) (by omega) (by omega) (fun p p1 p2 => by
    obtain ⟨a, b⟩ := hp p p1 p2
    exact qmem_spec p1 a b) (Nat.one_dvd _) (by rw [e]; exact hpass)
end Go.Abs.M
end

section
set_option linter.unusedVariables false
set_option linter.unusedSimpArgs false
/-
  What the kernel computes: the numbers whose prime factors are below 1000.
-/
set_option maxRecDepth 100000
set_option maxHeartbeats 0
namespace Go.Abs.M
theorem top_a : rng topN 0 40 = true := by decide +kernel
theorem top_b : rng topN 40 40 = true := by decide +kernel
theorem top_c : rng topN 80 40 = true := by decide +kernel
theorem top_d : rng topN 120 44 = true := by decide +kernel
theorem walk_all : walk 12 ql 1 1 = true := walk_top ql 0 rfl fun j h1 h2 =>
  rng_join (rng_join (rng_join (rng_spec _ top_a) (rng_spec _ top_b)) (rng_spec _ top_c)) (rng_spec _ top_d) j h1 (by rw [ql_len] at h2; omega)
noncomputable def smallB (n : Nat) : Bool := cand n || prB n
theorem small_all : rng smallB 2 1000 = true := by decide +kernel
end Go.Abs.M
end

section
set_option linter.unusedVariables false
set_option linter.unusedSimpArgs false
/-
  A number below 2^31 that passes the test for 2, 3, 5 and 7 is a prime.
-/
set_option linter.unusedVariables false
namespace Go.Abs.M

theorem pr2 : Pr 2 := prB_spec (by omega) (by omega) (by decide +kernel)
theorem pr3 : Pr 3 := prB_spec (by omega) (by omega) (by decide +kernel)
theorem pr5 : Pr 5 := prB_spec (by omega) (by omega) (by decide +kernel)
theorem pr7 : Pr 7 := prB_spec (by omega) (by omega) (by decide +kernel)

theorem pass_pr {n : Nat} (h1 : 2 ≤ n) (h2 : n < 2147483648) (hp : Pass n) (n2 : n % 2 ≠ 0) (n3 : n % 3 ≠ 0) (n5 : n % 5 ≠ 0) (n7 : n % 7 ≠ 0) : Pr n := by
  by_cases hs : n < 1002
  · have h := rng_spec _ small_all n h1 (by omega)
    unfold smallB at h
    rcases Bool.or_eq_true_iff.1 h with h | h
    · exact absurd hp (cand_spec h1 (by omega) h)
    · exact prB_spec h1 (by omega) h
  by_cases hr : ∃ r, Prime r ∧ r ∣ n ∧ 1000 < r
  · obtain ⟨r, r1, ⟨P, hP⟩, r2⟩ := hr
    by_cases hP1 : P = 1
    · rw [hP1, Nat.mul_one] at hP; rw [hP]; exact r1.pr
    have hP0 : P ≠ 0 := by rintro rfl; omega
    exfalso
    rcases Nat.lt_or_ge r 46341 with g | g
    · refine chk2_spec r1 r2 g (chk2_all (by omega) g) ⟨P, hP⟩ (fun e => ?_) (by omega) h2 hp
      have : r * 2 ≤ r * P := Nat.mul_le_mul (Nat.le_refl r) (by omega)
      omega
    · have hPs : P < 46341 := by
        rcases Nat.lt_or_ge P 46341 with h | h
        · exact h
        · have := Nat.mul_le_mul g h; omega
      have cop : ∀ p, Pr p → n % p ≠ 0 → Nat.Coprime n p := fun p pp hn => (pp.prime.coprime fun hd => hn (Nat.mod_eq_zero_of_dvd hd)).symm
      have h210 : Nat.gcd n 210 = 1 := by
        have := Nat.Coprime.mul_right (Nat.Coprime.mul_right (Nat.Coprime.mul_right (cop 2 pr2 n2) (cop 3 pr3 n3)) (cop 5 pr5 n5)) (cop 7 pr7 n7)
        exact this
      rw [hP] at h210 h2 hp
      exact chk1_spec r1 (by omega) (by omega) h2 h210 (chk1_all (by omega) hPs) hp
  · exact absurd hp (case3_of walk_all (by omega) h2 fun p p1 p2 => by
      have h3 : p < 1001 := by
        rcases Nat.lt_or_ge 1000 p with h | h
        · exact absurd ⟨p, p1, p2, h⟩ hr
        · omega
      refine ⟨?_, h3⟩
      have hne : ∀ q, n % q ≠ 0 → p ≠ q := fun q hq e => hq (by rw [← e]; exact Nat.mod_eq_zero_of_dvd p2)
      have m2 := hne 2 n2
      have m3 := hne 3 n3
      have m5 := hne 5 n5
      have m7 := hne 7 n7
      have := p1.two
      have e2 : p % 2 ≠ 0 := fun h => by rcases p1.divs 2 (Nat.dvd_of_mod_eq_zero h) with g | g <;> omega
      have e3 : p % 3 ≠ 0 := fun h => by rcases p1.divs 3 (Nat.dvd_of_mod_eq_zero h) with g | g <;> omega
      omega)

theorem pch_pr {n : Nat} (h1 : 2 ≤ n) (h2 : n < 2147483648) (h : Pch n [2, 3, 5, 7]) : Pr n := by
  unfold Pch at h
  split at h
  · rw [h]; exact pr2
  rename_i n2
  obtain ⟨m2, h⟩ := h
  unfold Pch at h
  split at h
  · rw [h]; exact pr3
  rename_i n3
  obtain ⟨m3, h⟩ := h
  unfold Pch at h
  split at h
  · rw [h]; exact pr5
  rename_i n5
  obtain ⟨m5, h⟩ := h
  unfold Pch at h
  split at h
  · rw [h]; exact pr7
  rename_i n7
  obtain ⟨m7, h⟩ := h
  exact pass_pr h1 h2 ⟨m2, m3, m5, m7⟩ n2 n3 n5 n7
#print axioms pch_pr
end Go.Abs.M
end

section
set_option linter.unusedVariables false
set_option linter.unusedSimpArgs false
set_option maxHeartbeats 8000000
set_option linter.unusedVariables false
set_option linter.unusedSimpArgs false
set_option maxRecDepth 100000
namespace Go.Proofs.Ytgncmjcoojmccaa
open Go Go.Abs Go.Abs.M Go.Proofs

theorem prm_of_pr {n : Int} (h : Pr n.toNat) (h0 : 0 ≤ n) (h1 : n ≤ 2147483647) : Prm n := by
  refine ⟨by have := h.1; omega, h1, fun d h2 h3 h4 => ?_⟩
  obtain ⟨x, rfl⟩ := Int.eq_ofNat_of_zero_le h0
  obtain ⟨y, rfl⟩ := Int.eq_ofNat_of_zero_le (show 0 ≤ d by omega)
  have e : ((y * y : Nat) : Int) ≤ (x : Int) := by rw [Int.natCast_mul]; exact h3
  refine h.2 y (by omega) (by simpa using Int.ofNat_le.1 e) ?_
  have : ((x % y : Nat) : Int) = ((0 : Nat) : Int) := by rw [Int.natCast_emod]; exact h4
  exact Int.ofNat.inj this

/-- Who passes is a prime. -/
theorem PF.prm {n : Int} (h : PF n) : Prm n := by
  obtain ⟨h1, h2, h3⟩ := h
  exact prm_of_pr (pch_pr (by omega) (by omega) h3) (by omega) h2

theorem pf_iff {n : Int} : PF n ↔ Prm n := ⟨PF.prm, Prm.pf⟩

def pnextSt (p : Int) : St := mkSt 14 [vi .u64 p] [none]

theorem pnext_call (n q : Int) (h0 : 0 ≤ n) (hq : n < q) (hp : Prm q) (hno : ∀ k : Int, n < k → k < q → ¬ Prm k) : ACall Try.prog 11 [.val (ti .u64 n)] ⟨[.val (ti .u64 q), .val (ti .i64 0)], [none]⟩ := by
  have hq2 := hp.2.1
  refine callZ ccOk mixed [.val, .val] Try.func11 rfl rfl (by kernel_rfl) fun zwrap zadd zsub zmul zquo zrem zshl zshr zband zbor zbxor zbandn zeq zne zlt zle znot zbeq zbne zmax zmin znat zinb zofN zidx zneq znadd zdif zcut zroom zmkok zlen znth zsetr zisI zgetI zsetI zfit zpart zext zsetg zrep zwide zall zmok zmget zmset zW zth A L F hS hF => ?_
  have hw : zwrap .u64 (zadd n 1) = n + 1 := by rw [hS.wrap, hS.add]; exact wrap_u64 (by omega) (by omega)
  have g0 : zle 2147483647 n = false := by rw [hS.le]; exact decide_eq_false (by omega)
  cbv
  refine bF g0 ?_
  refine loopZ ccOk mixed hS (fun (m : Nat) s => ∃ p : Int, n < p ∧ p ≤ q ∧ (q - p).toNat = m ∧ s = pnextSt p) (n := (q - (n + 1)).toNat) (s0 := pnextSt (n + 1)) (le_of ?_ ?_) rfl (Nat.le_refl 1) ?_ ?_
  · simp [leT, pnextSt, mkSt, vi, hw]
  · simp [leH, pnextSt, mkSt]
  · exact ⟨n + 1, by omega, by omega, rfl, rfl⟩
  · rintro m s1 ⟨p, p1, p2, p3, hs1⟩
    have hw1 : zwrap .u64 (zadd p 1) = p + 1 := by rw [hS.wrap, hS.add]; exact wrap_u64 (by omega) (by omega)
    have y1 : znot true = false := hS.not true
    have y2 : znot false = true := hS.not false
    by_cases he : p = q
    · have c := pprime_call p true (by omega) (by omega) ⟨fun _ => he ▸ hp.pf, fun _ => rfl⟩
      subst he
      subst hs1
      cbv
      refine ⟨_, hS.call (c), ?_⟩
      cbv
      refine bF (y1) ?_
      exact hF _ (ResLe.refl _)
    · have c := pprime_call p false (by omega) (by omega) ⟨fun h => (nomatch h), fun h => absurd h.prm (hno p p1 (by omega))⟩
      have hm : m - 1 < m := by omega
      have hn : ∃ p' : Int, n < p' ∧ p' ≤ q ∧ (q - p').toNat = m - 1 ∧ pnextSt (p + 1) = pnextSt p' := ⟨p + 1, by omega, by omega, by omega, rfl⟩
      subst hs1
      cbv
      refine ⟨_, hS.call (c), ?_⟩
      cbv
      refine bT (y2) ?_
      exact again (s' := pnextSt (p + 1)) (m := m - 1) (by simp [leT, pnextSt, mkSt, vi, hw1]) (by simp [leH, pnextSt, mkSt]) rfl (Nat.le_refl 1) hm hn

theorem pnext_err (n : Int) (h0 : 2147483647 ≤ n) : ACall Try.prog 11 [.val (ti .u64 n)] ⟨[.val (ti .u64 0), .val (ti .i64 1)], [none]⟩ := by
  refine callZ ccOk mixed [.val, .val] Try.func11 rfl rfl (by kernel_rfl) fun zwrap zadd zsub zmul zquo zrem zshl zshr zband zbor zbxor zbandn zeq zne zlt zle znot zbeq zbne zmax zmin znat zinb zofN zidx zneq znadd zdif zcut zroom zmkok zlen znth zsetr zisI zgetI zsetI zfit zpart zext zsetg zrep zwide zall zmok zmget zmset zW zth A L F hS hF => ?_
  have g0 : zle 2147483647 n = true := by rw [hS.le]; exact decide_eq_true h0
  cbv
  refine bT (g0) ?_
  exact hF _ (ResLe.refl _)

theorem next_err (n : Int) (h0 : 2147483647 ≤ n) : ACall Try.prog 12 [.val (ti .u64 n)] ⟨[.val (ti .u64 0), .val (ti .i64 1)], [none]⟩ := by
  refine callZ ccOk mixed [.val, .val] Try.func12 rfl rfl (by kernel_rfl) fun zwrap zadd zsub zmul zquo zrem zshl zshr zband zbor zbxor zbandn zeq zne zlt zle znot zbeq zbne zmax zmin znat zinb zofN zidx zneq znadd zdif zcut zroom zmkok zlen znth zsetr zisI zgetI zsetI zfit zpart zext zsetg zrep zwide zall zmok zmget zmset zW zth A L F hS hF => ?_
  have g0 : zle 2147483647 n = true := by rw [hS.le]; exact decide_eq_true h0
  cbv
  refine bT (g0) ?_
  exact hF _ (ResLe.refl _)

theorem bor31 {a : Int} (h0 : 0 ≤ a) (h1 : a < 18446744073709551616) : ∃ b : Int, 2147483648 ≤ b ∧ b < 18446744073709551616 ∧ ZI.std.bor .u64 a 2147483648 = b := by
  obtain ⟨x, rfl⟩ := Int.eq_ofNat_of_zero_le h0
  have e := bor_u64 (x := x) (y := 2147483648) (by omega) (by omega)
  have h2 := Nat.right_le_or (n := x) (m := 2147483648)
  have h3 := Nat.or_lt_two_pow (show x < 2 ^ 64 by omega) (show 2147483648 < 2 ^ 64 by omega)
  exact ⟨((x ||| 2147483648 : Nat) : Int), by omega, by omega, e⟩
end Go.Proofs.Ytgncmjcoojmccaa
end

section
set_option linter.unusedVariables false
set_option linter.unusedSimpArgs false
set_option maxHeartbeats 8000000
set_option linter.unusedVariables false
set_option linter.unusedSimpArgs false
set_option maxRecDepth 100000
namespace Go.Proofs.Ytgncmjcoojmccaa
open Go Go.Abs Go.Abs.M Go.Proofs

def madeN (n k : Int) : Int := if k % 8 = 7 then n * (4611686018427387904 + k) * (4611686018427387904 + k) + k else n
def madeD (d k : Int) : Int := if k % 8 = 6 then (if d = 0 then 1 else d) * (4611686018427387904 + k) * (4611686018427387904 + k) else if d = 0 then 1 else d
def madeQ (n d k : Int) : Rat := Rat.divInt (madeN n k) (madeD d k)

theorem made_nd {n d k : Int} (n1 : -128 ≤ n) (n2 : n < 128) (d1 : -128 ≤ d) (d2 : d < 128) (k1 : 0 ≤ k) (k2 : k < 256) : nl (madeN n k).natAbs ≤ 8 ∧ nl (madeD d k).natAbs ≤ 8 ∧ madeD d k ≠ 0 := by
  have b : nl (4611686018427387904 + k).natAbs ≤ 2 := nl_le_of (by omega)
  have sa : nl n.natAbs ≤ 1 := nl_le_of (by omega)
  have sb : nl d.natAbs ≤ 1 := nl_le_of (by omega)
  have s1 : nl (1 : Int).natAbs ≤ 1 := nl_le_of (by omega)
  have sk : nl k.natAbs ≤ 1 := nl_le_of (by omega)
  refine ⟨?_, ?_, ?_⟩
  · unfold madeN
    split
    · have h1 := nl_mul (n.natAbs * (4611686018427387904 + k).natAbs) (4611686018427387904 + k).natAbs
      have h2 := nl_mul n.natAbs (4611686018427387904 + k).natAbs
      have h3 := nl_add (n * (4611686018427387904 + k) * (4611686018427387904 + k)).natAbs k.natAbs
      rw [Int.natAbs_mul, Int.natAbs_mul] at h3
      have h4 := nl_mono (Int.natAbs_add_le (n * (4611686018427387904 + k) * (4611686018427387904 + k)) k)
      rw [Int.natAbs_mul, Int.natAbs_mul] at h4
      omega
    · omega
  · have key : ∀ x : Int, nl x.natAbs ≤ 1 → nl (x * (4611686018427387904 + k) * (4611686018427387904 + k)).natAbs ≤ 8 := fun x hx => by
      rw [Int.natAbs_mul, Int.natAbs_mul]
      have h1 := nl_mul (x.natAbs * (4611686018427387904 + k).natAbs) (4611686018427387904 + k).natAbs
      have h2 := nl_mul x.natAbs (4611686018427387904 + k).natAbs
      omega
    unfold madeD
    split
    · exact key _ (by split <;> omega)
    · split <;> omega
  · unfold madeD
    split
    · exact Int.mul_ne_zero (Int.mul_ne_zero (by split <;> omega) (by omega)) (by omega)
    · split <;> omega

theorem rmade2_call (n d k : Int) (n1 : -128 ≤ n) (n2 : n < 128) (d1 : -128 ≤ d) (d2 : d < 128) (k1 : 0 ≤ k) (k2 : k < 256) :
    ∃ u w v p, IsR (madeQ n d k) u w v p ∧ ACall Try.prog 15 [.val (.agg [.v (.int .i8 n), .v (.int .i8 d), .v (.int .u8 k)])] ⟨[.val (.agg (iT u w ++ iT v p))], [none]⟩ := by
  obtain ⟨a1, a2, ha, ca⟩ := rof_call n (by omega) (by omega)
  obtain ⟨b1, b2, hb, cb⟩ := rof_call d (by omega) (by omega)
  obtain ⟨f1, f2, hf, cf⟩ := rof_call 1 (by omega) (by omega)
  obtain ⟨c1, c2, hc, cc⟩ := rof_call (4611686018427387904 + k) (by omega) (by omega)
  obtain ⟨e1, e2, he, ce⟩ := rof_call k (by omega) (by omega)
  obtain ⟨s1, s2, s3⟩ := made_nd n1 n2 d1 d2 k1 k2
  have sc : nl (4611686018427387904 + k).natAbs ≤ 2 := nl_le_of (by omega)
  have sa : nl n.natAbs ≤ 2 := nl_le_of (by omega)
  have sb : nl d.natAbs ≤ 2 := nl_le_of (by omega)
  have s1' : nl (1 : Int).natAbs ≤ 2 := nl_le_of (by omega)
  have sk : nl k.natAbs ≤ 2 := nl_le_of (by omega)
  -- the denominator before it is made large
  obtain ⟨D, hD⟩ : ∃ D, D = if d = 0 then 1 else d := ⟨_, rfl⟩
  obtain ⟨g1, g2, hg, hgd, sg⟩ : ∃ g1 g2, IsI D g1 g2 ∧ (if d = 0 then g1 = f1 ∧ g2 = f2 else g1 = b1 ∧ g2 = b2) ∧ nl D.natAbs ≤ 2 := by
    by_cases h : d = 0
    · rw [if_pos h] at hD; subst hD; exact ⟨f1, f2, hf, by rw [if_pos h]; exact ⟨rfl, rfl⟩, s1'⟩
    · rw [if_neg h] at hD; subst hD; exact ⟨b1, b2, hb, by rw [if_neg h]; exact ⟨rfl, rfl⟩, sb⟩
  obtain ⟨big, hbig⟩ : ∃ big, big = 4611686018427387904 + k := ⟨_, rfl⟩
  have eN7 : k % 8 = 7 → madeN n k = n * big * big + k := fun h => by unfold madeN; rw [if_pos h, hbig]
  have eN : ¬ k % 8 = 7 → madeN n k = n := fun h => by unfold madeN; rw [if_neg h]
  have eD6 : k % 8 = 6 → madeD d k = D * big * big := fun h => by unfold madeD; rw [if_pos h, hbig, hD]
  have eD : ¬ k % 8 = 6 → madeD d k = D := fun h => by unfold madeD; rw [if_neg h, hD]
  unfold madeQ
  rw [← hbig] at hc cc sc
  obtain ⟨i1, i2, hi, ci⟩ := rmul_call ha hc (by omega) (by omega)
  obtain ⟨j1, j2, hj, cj⟩ := rmul_call hi hc (by rw [Int.natAbs_mul]; have := nl_mul n.natAbs big.natAbs; omega) (by omega)
  have sj : nl (n * big * big).natAbs ≤ 7 := by
    rw [Int.natAbs_mul, Int.natAbs_mul]
    have h1 := nl_mul (n.natAbs * big.natAbs) big.natAbs
    have h2 := nl_mul n.natAbs big.natAbs
    omega
  obtain ⟨l1, l2, hl, cl⟩ := radd_call hj he (by omega) (by omega)
  obtain ⟨m1, m2, hm, cm⟩ := rmul_call hg hc (by omega) (by omega)
  obtain ⟨o1, o2, ho, co⟩ := rmul_call hm hc (by rw [Int.natAbs_mul]; have := nl_mul D.natAbs big.natAbs; omega) (by omega)
  by_cases h7 : k % 8 = 7
  · have h6 : ¬ k % 8 = 6 := by omega
    rw [eN7 h7] at s1
    rw [eD h6] at s2 s3
    rw [eN7 h7, eD h6]
    obtain ⟨u, w, v, p, hq, cq⟩ := rlowest_call hl hg s3 (by omega) (by omega)
    refine ⟨u, w, v, p, hq, ?_⟩
    clear hq s1 s2 s3 sj sg sk s1' sb sa sc hD hc eN7 eN eD6 eD
    refine callZ ccOk mixed [.val] Try.func15 rfl rfl (by kernel_rfl) fun zwrap zadd zsub zmul zquo zrem zshl zshr zband zbor zbxor zbandn zeq zne zlt zle znot zbeq zbne zmax zmin znat zinb zofN zidx zneq znadd zdif zcut zroom zmkok zlen znth zsetr zisI zgetI zsetI zfit zpart zext zsetg zrep zwide zall zmok zmget zmset zW zth A L F hS hF => ?_
    have w1 : zwrap .i64 n = n := by rw [hS.wrap, wrap_i64 (by omega) (by omega)]
    have w2 : zwrap .i64 d = d := by rw [hS.wrap, wrap_i64 (by omega) (by omega)]
    have w3 : zwrap .i64 k = k := by rw [hS.wrap, wrap_i64 (by omega) (by omega)]
    have w4 : zwrap .i64 (zadd 4611686018427387904 k) = big := by rw [hS.wrap, hS.add, wrap_i64 (by omega) (by omega), hbig]
    have w5 : zeq (zrem k 8) 7 = true := by rw [hS.eq, hS.rem, Int.tmod_eq_emod_of_nonneg k1]; exact decide_eq_true h7
    have w6 : zeq (zrem k 8) 6 = false := by rw [hS.eq, hS.rem, Int.tmod_eq_emod_of_nonneg k1]; exact decide_eq_false h6
    cbv
    rw [w1]
    refine ⟨_, hS.call (ca), ?_⟩
    cbv
    rw [w2]
    refine ⟨_, hS.call (cb), ?_⟩
    cbv
    refine ⟨fun hh => ?_, fun hh => ?_⟩
    all_goals rw [hS.eq] at hh
    · rw [if_pos (of_decide_eq_true hh)] at hgd
      obtain ⟨rfl, rfl⟩ := hgd
      refine ⟨_, hS.call (cf), ?_⟩
      cbv
      rw [w3, w4]
      refine ⟨_, hS.call (cc), ?_⟩
      cbv
      refine bT (w5) ?_
      refine ⟨_, hS.call (ci), ?_⟩
      cbv
      refine ⟨_, hS.call (cj), ?_⟩
      cbv
      rw [w3]
      refine ⟨_, hS.call (ce), ?_⟩
      cbv
      refine ⟨_, hS.call (cl), ?_⟩
      cbv
      refine bF (w6) ?_
      refine ⟨_, hS.call (cq), ?_⟩
      cbv
      exact hF _ (ResLe.refl _)
    · rw [if_neg (of_decide_eq_false hh)] at hgd
      obtain ⟨rfl, rfl⟩ := hgd
      rw [w3, w4]
      refine ⟨_, hS.call (cc), ?_⟩
      cbv
      refine bT (w5) ?_
      refine ⟨_, hS.call (ci), ?_⟩
      cbv
      refine ⟨_, hS.call (cj), ?_⟩
      cbv
      rw [w3]
      refine ⟨_, hS.call (ce), ?_⟩
      cbv
      refine ⟨_, hS.call (cl), ?_⟩
      cbv
      refine bF (w6) ?_
      refine ⟨_, hS.call (cq), ?_⟩
      cbv
      exact hF _ (ResLe.refl _)
  · by_cases h6 : k % 8 = 6
    · rw [eN h7] at s1
      rw [eD6 h6] at s2 s3
      rw [eN h7, eD6 h6]
      obtain ⟨u, w, v, p, hq, cq⟩ := rlowest_call ha ho s3 (by omega) (by omega)
      refine ⟨u, w, v, p, hq, ?_⟩
      clear hq s1 s2 s3 sj sg sk s1' sb sa sc hD hc eN7 eN eD6 eD
      refine callZ ccOk mixed [.val] Try.func15 rfl rfl (by kernel_rfl) fun zwrap zadd zsub zmul zquo zrem zshl zshr zband zbor zbxor zbandn zeq zne zlt zle znot zbeq zbne zmax zmin znat zinb zofN zidx zneq znadd zdif zcut zroom zmkok zlen znth zsetr zisI zgetI zsetI zfit zpart zext zsetg zrep zwide zall zmok zmget zmset zW zth A L F hS hF => ?_
      have w1 : zwrap .i64 n = n := by rw [hS.wrap, wrap_i64 (by omega) (by omega)]
      have w2 : zwrap .i64 d = d := by rw [hS.wrap, wrap_i64 (by omega) (by omega)]
      have w3 : zwrap .i64 k = k := by rw [hS.wrap, wrap_i64 (by omega) (by omega)]
      have w4 : zwrap .i64 (zadd 4611686018427387904 k) = big := by rw [hS.wrap, hS.add, wrap_i64 (by omega) (by omega), hbig]
      have w5 : zeq (zrem k 8) 7 = false := by rw [hS.eq, hS.rem, Int.tmod_eq_emod_of_nonneg k1]; exact decide_eq_false h7
      have w6 : zeq (zrem k 8) 6 = true := by rw [hS.eq, hS.rem, Int.tmod_eq_emod_of_nonneg k1]; exact decide_eq_true h6
      cbv
      rw [w1]
      refine ⟨_, hS.call (ca), ?_⟩
      cbv
      rw [w2]
      refine ⟨_, hS.call (cb), ?_⟩
      cbv
      refine ⟨fun hh => ?_, fun hh => ?_⟩
      all_goals rw [hS.eq] at hh
      · rw [if_pos (of_decide_eq_true hh)] at hgd
        obtain ⟨rfl, rfl⟩ := hgd
        refine ⟨_, hS.call (cf), ?_⟩
        cbv
        rw [w3, w4]
        refine ⟨_, hS.call (cc), ?_⟩
        cbv
        refine bF (w5) ?_
        refine bT (w6) ?_
        refine ⟨_, hS.call (cm), ?_⟩
        cbv
        refine ⟨_, hS.call (co), ?_⟩
        cbv
        refine ⟨_, hS.call (cq), ?_⟩
        cbv
        exact hF _ (ResLe.refl _)
      · rw [if_neg (of_decide_eq_false hh)] at hgd
        obtain ⟨rfl, rfl⟩ := hgd
        rw [w3, w4]
        refine ⟨_, hS.call (cc), ?_⟩
        cbv
        refine bF (w5) ?_
        refine bT (w6) ?_
        refine ⟨_, hS.call (cm), ?_⟩
        cbv
        refine ⟨_, hS.call (co), ?_⟩
        cbv
        refine ⟨_, hS.call (cq), ?_⟩
        cbv
        exact hF _ (ResLe.refl _)
    · rw [eN h7] at s1
      rw [eD h6] at s2 s3
      rw [eN h7, eD h6]
      obtain ⟨u, w, v, p, hq, cq⟩ := rlowest_call ha hg s3 (by omega) (by omega)
      refine ⟨u, w, v, p, hq, ?_⟩
      clear hq s1 s2 s3 sj sg sk s1' sb sa sc hD hc eN7 eN eD6 eD
      refine callZ ccOk mixed [.val] Try.func15 rfl rfl (by kernel_rfl) fun zwrap zadd zsub zmul zquo zrem zshl zshr zband zbor zbxor zbandn zeq zne zlt zle znot zbeq zbne zmax zmin znat zinb zofN zidx zneq znadd zdif zcut zroom zmkok zlen znth zsetr zisI zgetI zsetI zfit zpart zext zsetg zrep zwide zall zmok zmget zmset zW zth A L F hS hF => ?_
      have w1 : zwrap .i64 n = n := by rw [hS.wrap, wrap_i64 (by omega) (by omega)]
      have w2 : zwrap .i64 d = d := by rw [hS.wrap, wrap_i64 (by omega) (by omega)]
      have w3 : zwrap .i64 k = k := by rw [hS.wrap, wrap_i64 (by omega) (by omega)]
      have w4 : zwrap .i64 (zadd 4611686018427387904 k) = big := by rw [hS.wrap, hS.add, wrap_i64 (by omega) (by omega), hbig]
      have w5 : zeq (zrem k 8) 7 = false := by rw [hS.eq, hS.rem, Int.tmod_eq_emod_of_nonneg k1]; exact decide_eq_false h7
      have w6 : zeq (zrem k 8) 6 = false := by rw [hS.eq, hS.rem, Int.tmod_eq_emod_of_nonneg k1]; exact decide_eq_false h6
      cbv
      rw [w1]
      refine ⟨_, hS.call (ca), ?_⟩
      cbv
      rw [w2]
      refine ⟨_, hS.call (cb), ?_⟩
      cbv
      refine ⟨fun hh => ?_, fun hh => ?_⟩
      all_goals rw [hS.eq] at hh
      · rw [if_pos (of_decide_eq_true hh)] at hgd
        obtain ⟨rfl, rfl⟩ := hgd
        refine ⟨_, hS.call (cf), ?_⟩
        cbv
        rw [w3, w4]
        refine ⟨_, hS.call (cc), ?_⟩
        cbv
        refine bF (w5) ?_
        refine bF (w6) ?_
        refine ⟨_, hS.call (cq), ?_⟩
        cbv
        exact hF _ (ResLe.refl _)
      · rw [if_neg (of_decide_eq_false hh)] at hgd
        obtain ⟨rfl, rfl⟩ := hgd
        rw [w3, w4]
        refine ⟨_, hS.call (cc), ?_⟩
        cbv
        refine bF (w5) ?_
        refine bF (w6) ?_
        refine ⟨_, hS.call (cq), ?_⟩
        cbv
        exact hF _ (ResLe.refl _)
end Go.Proofs.Ytgncmjcoojmccaa
end

