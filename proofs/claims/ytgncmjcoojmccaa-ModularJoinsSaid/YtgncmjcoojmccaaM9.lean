/-
  A part of the proof: ProE03, IntA03, IntB03, IntC03, IntD03, IntF03, MQw, IntE03, IntG03, IntH03, IntI03, IntJ03, IntK03, MapU, MCrt, PrmBig03, GabsRen, ProF03, ProG03.
-/
import Derived.Test.YtgncmjcoojmccaaM8
import Derived.Calls
import Derived.Laws.Cells
import Derived.Below
import Derived.Laws.Small
import Derived.Laws.IdiomCopy
import Derived.Laws.BytesString
import Derived.Laws.Append
import Derived.Laws.Tables
import Derived.Great.BuildSlice
import Derived.IntWalk
import Derived.Orders
import Derived.Laws.BitsLemmas
import Derived.Test.YtgncmjcoojmccaaProg

section
set_option linter.unusedVariables false
set_option linter.unusedSimpArgs false
set_option maxHeartbeats 8000000
set_option linter.unusedVariables false
set_option linter.unusedSimpArgs false
set_option maxRecDepth 100000
namespace Go.Proofs.Ytgncmjcoojmccaa
open Go Go.Abs Go.Abs.M Go.Proofs

def pps1St (n w o t : Int) : St := mkSt 43 [vi .u64 n, vi .u64 w, .junk, .junk, vb false, vi .u64 o, vi .i64 t] [none, none]
def pps2St (n w x c i : Int) : St := mkSt 43 [vi .u64 n, vi .u64 w, .junk, .junk, vb false, .junk, .junk, vi .u64 x, .junk, .junk, .junk, .junk, .junk, .junk, .junk, .junk, .junk, .junk, .junk, .junk, .junk, .junk, .junk, .junk, .junk, .junk, .junk, .junk, .junk, .junk, vi .i64 c, vi .i64 i] [none, none, none, none]

theorem two_pow_lt {t : Nat} (h : 2 ^ t < 2147483648) : t < 31 := by
  rcases Nat.lt_or_ge t 31 with h1 | h1
  · exact h1
  · have := Nat.pow_le_pow_right (show 0 < 2 by omega) h1; omega

theorem half_step {N o t : Nat} (h : N = o * 2 ^ t) (he : o % 2 = 0) : N = (o / 2) * 2 ^ (t + 1) := by
  rw [h, Nat.pow_succ, Nat.mul_comm (2 ^ t), ← Nat.mul_assoc, Nat.div_mul_cancel (Nat.dvd_of_mod_eq_zero he)]

theorem mr_none {n w o t : Nat} (h1 : w ^ o % n ≠ 1) (h2 : ∀ j, j < t → w ^ (o * 2 ^ j) % n ≠ n - 1) : ¬ SPr n w o t := by
  rintro (h | ⟨i, h, h'⟩)
  · exact h1 h
  · exact h2 i h h'

theorem sq_pow (n w o j x : Nat) (h : x = w ^ (o * 2 ^ j) % n) : x * x % n = w ^ (o * 2 ^ (j + 1)) % n := by
  rw [h, ← Nat.mul_mod, ← Nat.pow_add]; congr 2; rw [Nat.pow_succ, ← Nat.mul_assoc]; omega

theorem ppasses_call (n w : Nat) (b : Bool) (hn : 3 ≤ n) (hn2 : n < 2147483648) (hodd : n % 2 = 1) (hw : w < 2147483648) (hb : b = true ↔ MR n w) :
    ACall Try.prog 38 [.val (ti .u64 (n : Int)), .val (ti .u64 (w : Int))] ⟨[.val (tb b)], [none, none]⟩ := by
  have hcp : ∀ (o : Nat) (O : Int), O = o → o < 2147483648 → ∃ X : Int, X = ((w ^ o % n : Nat) : Int) ∧ ACall Try.prog 20 [.val (ti .u64 (w : Int)), .val (ti .u64 O), .val (ti .u64 (n : Int))] ⟨[.val (ti .u64 X)], [none, none, none]⟩ := fun o O hO ho => by
    subst hO
    have c := pow_call (w : Int) (o : Int) (n : Int) (by omega) (by omega) (by omega) (by omega) (by omega)
    refine ⟨_, ?_, c⟩
    rw [Int.toNat_natCast, Int.natCast_emod, Int.natCast_pow]
  obtain ⟨N, hN⟩ : ∃ N : Int, N = n := ⟨_, rfl⟩
  obtain ⟨W', hW⟩ : ∃ N : Int, N = w := ⟨_, rfl⟩
  rw [← hN, ← hW]
  rw [← hN, ← hW] at hcp
  refine callZ ccOk mixed [.val] Try.func38 rfl rfl (by kernel_rfl) fun zwrap zadd zsub zmul zquo zrem zshl zshr zband zbor zbxor zbandn zeq zne zlt zle znot zbeq zbne zmax zmin znat zinb zofN zidx zneq znadd zdif zcut zroom zmkok zlen znth zsetr zisI zgetI zsetI zfit zpart zext zsetg zrep zwide zall zmok zmget zmset zW zth A L F hS hF => ?_
  have A0 : ∃ M : Int, M = ((n - 1 : Nat) : Int) ∧ zwrap .u64 (zsub N 1) = M := by
    refine ⟨_, rfl, ?_⟩
    rw [hS.sub, hS.wrap, hN, wrap_u64 (by omega) (by omega)]; omega
  have A1 : ∀ (o : Nat) (O : Int), O = o → zeq (zrem O 2) 0 = decide (o % 2 = 0) := fun o O hO => by
    rw [hS.eq, hS.rem, Int.tmod_eq_emod_of_nonneg (by omega)]
    by_cases h : o % 2 = 0
    · rw [decide_eq_true h]; exact decide_eq_true (by omega)
    · rw [decide_eq_false h]; exact decide_eq_false (by omega)
  have A2 : ∀ (o : Nat) (O : Int), O = o → o < 2147483648 → ∃ O' : Int, O' = ((o / 2 : Nat) : Int) ∧ zwrap .u64 (zquo O 2) = O' := fun o O hO h => by
    refine ⟨_, rfl, ?_⟩
    rw [hS.quo, hS.wrap, Int.tdiv_eq_ediv_of_nonneg (by omega), wrap_u64 (by omega) (by omega)]; omega
  have A3 : ∀ (t : Nat) (T : Int), T = t → t < 100 → ∃ T' : Int, T' = ((t + 1 : Nat) : Int) ∧ zwrap .i64 (zadd T 1) = T' := fun t T hT h => by
    refine ⟨_, rfl, ?_⟩
    rw [hS.add, hS.wrap, wrap_i64 (by omega) (by omega)]; omega
  have A4 : zne N 0 = true := by rw [hS.ne]; exact decide_eq_true (by omega)
  have A5 : ∀ (x y : Nat) (X Y : Int), X = x → Y = y → zeq X Y = decide (x = y) := fun x y X Y hX hY => by
    rw [hS.eq]
    by_cases h : x = y
    · rw [decide_eq_true h]; exact decide_eq_true (by omega)
    · rw [decide_eq_false h]; exact decide_eq_false (by omega)
  have A6 : ∀ (x : Nat) (X : Int), X = x → x < n → ∃ X' : Int, X' = ((x * x % n : Nat) : Int) ∧ zrem (zwrap .u64 (zmul X X)) N = X' := fun x X hX h => by
    obtain ⟨k1, k2⟩ := mul_lt (a := (x : Int)) (b := (x : Int)) (p := n) (by omega) (by omega) (by omega) (by omega) (by omega)
    refine ⟨_, rfl, ?_⟩
    rw [hS.mul, hS.wrap, hS.rem, hN, hX, wrap_u64 k1 k2, Int.tmod_eq_emod_of_nonneg k1, Int.natCast_emod, Int.natCast_mul]
  have A7 : ∀ (t : Nat) (T : Int), T = t → 1 ≤ t → t < 100 → ∃ T' : Int, T' = ((t - 1 : Nat) : Int) ∧ zwrap .i64 (zsub T 1) = T' := fun t T hT h h2 => by
    refine ⟨_, rfl, ?_⟩
    rw [hS.sub, hS.wrap, wrap_i64 (by omega) (by omega)]; omega
  obtain ⟨M, hM, A0⟩ := A0
  cbv
  rw [A0]
  refine loopZ ccOk mixed hS (fun (o : Nat) s' => ∃ (t : Nat) (O T : Int), O = o ∧ T = t ∧ n - 1 = o * 2 ^ t ∧ 0 < o ∧ s' = pps1St N W' O T) (n := n - 1) (s0 := pps1St N W' M 0) (le_of ?_ ?_) rfl (Nat.le_refl 2) ?_ ?_
  · simp [leT, pps1St, mkSt, vi, vb]
  · simp [leH, pps1St, mkSt]
  · exact ⟨0, M, 0, hM, rfl, by omega, by omega, rfl⟩
  · rintro o s1 ⟨t, O, T, hO, hT, ht, ho, hs1⟩
    have hp2 : 0 < 2 ^ t := Nat.two_pow_pos t
    have ho2 : o ≤ n - 1 := by rw [ht]; exact Nat.le_mul_of_pos_right o hp2
    have ht2 : t < 31 := two_pow_lt (by
      have : 2 ^ t ≤ n - 1 := by rw [ht]; exact Nat.le_mul_of_pos_left _ ho
      omega)
    have a1 := A1 o O hO
    by_cases hev : o % 2 = 0
    · rw [decide_eq_true hev] at a1
      obtain ⟨O', hO', a2⟩ := A2 o O hO (by omega)
      obtain ⟨T', hT', a3⟩ := A3 t T hT (by omega)
      have hnx : ∃ (t1 : Nat) (O1 T1 : Int), O1 = ((o / 2 : Nat) : Int) ∧ T1 = t1 ∧ n - 1 = (o / 2) * 2 ^ t1 ∧ 0 < o / 2 ∧ pps1St N W' O' T' = pps1St N W' O1 T1 := ⟨t + 1, O', T', hO', hT', half_step ht hev, by omega, rfl⟩
      have hlt : o / 2 < o := by omega
      subst hs1
      cbv
      refine bT a1 ?_
      exact again (s' := pps1St N W' O' T') (m := o / 2) (by simp [leT, pps1St, mkSt, vi, vb, a2, a3]) (by simp [leH, pps1St, mkSt]) rfl (Nat.le_refl 2) hlt hnx
    · rw [decide_eq_false hev] at a1
      have hmr := MR.iff (w := w) ht (by omega)
      obtain ⟨X, hX, cp⟩ := hcp o O hO (by omega)
      have ht1 : 1 ≤ t := by
        rcases Nat.eq_zero_or_pos t with h | h
        · subst h; rw [Nat.pow_zero, Nat.mul_one] at ht; omega
        · exact h
      obtain ⟨C, hC, c1⟩ := A7 t T hT ht1 (by omega)
      have hC : C = ((t - 1 : Nat) : Int) := hC
      have e1 := A5 (w ^ o % n) 1 X 1 hX rfl
      have e2 : ∀ (y : Nat) (Y : Int), Y = y → zeq Y (zwrap .u64 (zsub N 1)) = decide (y = n - 1) := fun y Y hY => by rw [A0]; exact A5 y (n - 1) Y M hY hM
      have e3 := e2 (w ^ o % n) X hX
      have hlt : ∀ (i : Nat) (I : Int), I = i → zlt I C = decide (i < t - 1) := fun i I hI => by
        rw [hS.lt]
        by_cases h : i < t - 1
        · rw [decide_eq_true h]; exact decide_eq_true (by omega)
        · rw [decide_eq_false h]; exact decide_eq_false (by omega)
      have hbt : SPr n w o t → true = b := fun h => (hb.2 (hmr.2 h)).symm
      have hbf : ¬ SPr n w o t → false = b := fun h => by
        cases b with
        | false => rfl
        | true => exact absurd (hmr.1 (hb.1 rfl)) h
      have hpos : ∀ x, x % n < n := fun x => Nat.mod_lt _ (by omega)
      clear hcp A1 A2 A7 A5 hmr hb hp2 ho2 A0 hM
      subst hs1
      cbv
      refine bF a1 ?_
      refine ⟨_, hS.call (cp), ?_⟩
      cbv
      refine ⟨fun h => fin1 hF (tv_bool (hbt ?_)), fun h => ⟨fun h' => fin1 hF (tv_bool (hbt ?_)), fun h' => ?_⟩⟩
      all_goals rw [e1] at h
      · exact .inl (of_decide_eq_true h)
      all_goals rw [e3] at h'
      · exact .inr ⟨0, by omega, by rw [Nat.pow_zero, Nat.mul_one]; exact of_decide_eq_true h'⟩
      · have h := of_decide_eq_false h
        have h' := of_decide_eq_false h'
        refine loopZ ccOk mixed hS (fun (k : Nat) s' => ∃ (i : Nat) (I Y : Int), I = i ∧ Y = ((w ^ (o * 2 ^ i) % n : Nat) : Int) ∧ i + k = t - 1 ∧ (∀ j, j ≤ i → w ^ (o * 2 ^ j) % n ≠ n - 1) ∧ s' = pps2St N W' Y C I) (n := t - 1) (s0 := pps2St N W' X C 0) (le_of ?_ ?_) rfl (by show 2 ≤ 4; omega) ?_ ?_
        · simp [leT, pps2St, mkSt, vi, vb, c1]
        · simp [leH, pps2St, mkSt]
        · refine ⟨0, 0, X, rfl, by rw [Nat.pow_zero, Nat.mul_one]; exact hX, by omega, fun j hj => ?_, rfl⟩
          obtain rfl : j = 0 := by omega
          rw [Nat.pow_zero, Nat.mul_one]; exact h'
        · rintro k s1 ⟨i, I, Y, hI, hY, hik, hno, hs1⟩
          have l1 := hlt i I hI
          obtain ⟨Y', hY', y1⟩ := A6 _ Y hY (hpos _)
          have y2 := e2 _ Y' hY'
          rw [sq_pow n w o i _ rfl] at hY' y2
          by_cases hk : i < t - 1
          · rw [decide_eq_true hk] at l1
            obtain ⟨I', hI', i1⟩ := A3 i I hI (by omega)
            have hkk : k - 1 < k := by omega
            have hik' : i + 1 + (k - 1) = t - 1 := by omega
            have hit : i + 1 < t := by omega
            clear hlt A3 A6 e2 hI hY hpos hik hk e1 e3
            subst hs1
            cbv
            refine bT l1 (nd A4 ?_)
            rw [y1]
            refine ⟨fun h2 => fin1 hF (tv_bool (hbt ?_)), fun h2 => ?_⟩
            all_goals rw [y2] at h2
            · exact .inr ⟨i + 1, hit, of_decide_eq_true h2⟩
            · have h2 := of_decide_eq_false h2
              refine again (s' := pps2St N W' Y' C I') (m := k - 1) (by simp [leT, pps2St, mkSt, vi, vb, i1]) (by simp [leH, pps2St, mkSt]) rfl (by show 2 ≤ 4; omega) hkk ⟨i + 1, I', Y', hI', hY', hik', fun j hj => ?_, rfl⟩
              by_cases hj2 : j = i + 1
              · rw [hj2]; exact h2
              · exact hno j (by omega)
          · rw [decide_eq_false hk] at l1
            have hfin := hbf (mr_none h fun j hj => hno j (by omega))
            subst hs1
            cbv
            refine bF l1 (fin1 hF (tv_bool hfin))

/-- What the program takes for a prime. -/
def PF (n : Int) : Prop := 2 ≤ n ∧ n ≤ 2147483647 ∧ Pch n.toNat [2, 3, 5, 7]

theorem Prm.pf {n : Int} (h : Prm n) : PF n := by
  refine ⟨h.1, h.2.1, pch_prime h.prime _ fun w hw => ?_⟩
  have hp : ∀ w : Nat, 2 ≤ w → w ≤ 7 → (∀ d, d < 8 → 2 ≤ d → d < w → w % d ≠ 0) → M.Prime w := fun w h1 h2 h3 => ⟨h1, fun d hd => by
    have := Nat.le_of_dvd (by omega) hd
    by_cases h4 : d = w
    · exact .inr h4
    · by_cases h5 : d = 1
      · exact .inl h5
      · have : d ≠ 0 := by rintro rfl; have := Nat.eq_zero_of_zero_dvd hd; omega
        exact absurd (Nat.mod_eq_zero_of_dvd hd) (h3 d (by omega) (by omega) (by omega))⟩
  simp only [List.mem_cons, List.not_mem_nil, or_false] at hw
  rcases hw with rfl | rfl | rfl | rfl
  all_goals exact hp _ (by omega) (by omega) (by decide)

theorem pch_step {n w : Nat} {ws : List Nat} {b : Bool} (h : b = true ↔ Pch n (w :: ws)) : (n % w = 0 → decide (n = w) = b) ∧ (n % w ≠ 0 → ∃ b1 : Bool, (b1 = true ↔ MR n w) ∧ (b1 = false → false = b) ∧ (b1 = true → (b = true ↔ Pch n ws))) := by
  unfold Pch at h
  refine ⟨fun h0 => ?_, fun h0 => ?_⟩
  · rw [if_pos h0] at h
    by_cases hw : n = w
    · rw [decide_eq_true hw]; exact (h.2 hw).symm
    · rw [decide_eq_false hw]
      cases b with
      | false => rfl
      | true => exact absurd (h.1 rfl) hw
  · rw [if_neg h0] at h
    obtain ⟨b1, h1⟩ : ∃ b1 : Bool, b1 = true ↔ MR n w := by
      rcases Classical.em (MR n w) with h' | h'
      · exact ⟨true, fun _ => h', fun _ => rfl⟩
      · exact ⟨false, fun h => (by cases h), fun h => absurd h h'⟩
    refine ⟨b1, h1, fun hb => ?_, fun hb => ?_⟩
    · cases b with
      | false => rfl
      | true => rw [hb] at h1; exact absurd (h1.2 (h.1 rfl).1) (by decide)
    · exact ⟨fun hx => (h.1 hx).2, fun hx => h.2 ⟨h1.1 hb, hx⟩⟩

def pprSt (n i : Int) : St := mkSt 27 [vi .u64 n, .junk, vb false, .junk, .junk, .junk, .junk, .junk, .junk, .junk, .junk, .agg [.t (.v (.int .u64 2)), .t (.v (.int .u64 3)), .t (.v (.int .u64 5)), .t (.v (.int .u64 7))], vi .i64 i] [none]


theorem pprime_call (n : Int) (b : Bool) (h0 : 0 ≤ n) (h1 : n < 2 ^ 64) (hb : b = true ↔ PF n) : ACall Try.prog 13 [.val (ti .u64 n)] ⟨[.val (tb b)], [none]⟩ := by
  have hfalse : ¬ PF n → false = b := fun h => by
    cases b with
    | false => rfl
    | true => exact absurd (hb.1 rfl) h
  have cpass : ∀ (w : Nat) (b1 : Bool), w < 100 → n % 2 = 1 → 3 ≤ n → (b1 = true ↔ MR n.toNat w) → ∀ (hn : n < 2147483648), ACall Try.prog 38 [.val (ti .u64 n), .val (ti .u64 (w : Int))] ⟨[.val (tb b1)], [none, none]⟩ := fun w b1 hw ho h3 hm hn => by
    have c := ppasses_call n.toNat w b1 (by omega) (by omega) (by omega) (by omega) hm
    rw [Int.toNat_of_nonneg h0] at c
    exact c
  refine callZ ccOk mixed [.val] Try.func13 rfl rfl (by kernel_rfl) fun zwrap zadd zsub zmul zquo zrem zshl zshr zband zbor zbxor zbandn zeq zne zlt zle znot zbeq zbne zmax zmin znat zinb zofN zidx zneq znadd zdif zcut zroom zmkok zlen znth zsetr zisI zgetI zsetI zfit zpart zext zsetg zrep zwide zall zmok zmget zmset zW zth A L F hS hF => ?_
  have A1 : ∀ w : Nat, 0 < w → zeq (zrem n (w : Int)) 0 = decide (n.toNat % w = 0) := fun w hw => by
    rw [hS.eq, hS.rem, Int.tmod_eq_emod_of_nonneg h0]
    have : n % w = ((n.toNat % w : Nat) : Int) := by rw [Int.natCast_emod, Int.toNat_of_nonneg h0]
    rw [this]
    by_cases h : n.toNat % w = 0
    · rw [decide_eq_true h]; exact decide_eq_true (by omega)
    · rw [decide_eq_false h]; exact decide_eq_false (by omega)
  have A3 : ∀ w : Nat, zeq n (w : Int) = decide (n.toNat = w) := fun w => by
    rw [hS.eq]
    by_cases h : n.toNat = w
    · rw [decide_eq_true h]; exact decide_eq_true (by omega)
    · rw [decide_eq_false h]; exact decide_eq_false (by omega)
  have g1 : zlt n 2 = decide (n < 2) := hS.lt ..
  have g2 : zlt 2147483647 n = decide (2147483647 < n) := hS.lt ..
  cbv
  refine ⟨fun h => fin1 hF (tv_bool (hfalse ?_)), fun h => ⟨fun h' => fin1 hF (tv_bool (hfalse ?_)), fun h' => ?_⟩⟩
  all_goals rw [g1] at h
  · exact fun hp => absurd hp.1 (by have := of_decide_eq_true h; omega)
  all_goals rw [g2] at h'
  · exact fun hp => absurd hp.2.1 (by have := of_decide_eq_true h'; omega)
  have h := of_decide_eq_false h
  have h' := of_decide_eq_false h'
  have hch0 : b = true ↔ Pch n.toNat [2, 3, 5, 7] := ⟨fun hx => (hb.1 hx).2.2, fun hx => hb.2 ⟨by omega, by omega, hx⟩⟩
  have cpass := fun w b1 hw ho h3 hm => cpass w b1 hw ho h3 hm (by omega)
  clear hb hfalse g1 g2
  refine loopZ ccOk mixed hS (fun (k : Nat) s' => ∃ (i : Nat) (I : Int), i + k = 4 ∧ (1 ≤ i → n % 2 = 1) ∧ (b = true ↔ Pch n.toNat (([2, 3, 5, 7] : List Nat).drop i)) ∧ (i = 0 ∧ I = 0 ∨ i = 1 ∧ I = 1 ∨ i = 2 ∧ I = 2 ∨ i = 3 ∧ I = 3 ∨ i = 4 ∧ I = 4) ∧ s' = pprSt n I) (n := 4) (s0 := pprSt n 0) (le_of ?_ ?_) rfl (Nat.le_refl 1) ?_ ?_
  · simp [leT, pprSt, mkSt, vi, vb]
  · simp [leH, pprSt, mkSt]
  · exact ⟨0, 0, rfl, fun h => by omega, hch0, by simp, rfl⟩
  · rintro k s1 ⟨i, I, hik, hod, hch, hI, hs1⟩
    clear hch0
    rcases hI with ⟨rfl, rfl⟩ | ⟨rfl, rfl⟩ | ⟨rfl, rfl⟩ | ⟨rfl, rfl⟩ | ⟨rfl, rfl⟩
    · have hch : b = true ↔ Pch n.toNat [2, 3, 5, 7] := hch
      have l1 : zlt 0 4 = true := by rw [hS.lt]; rfl
      have e1 := A1 2 (by omega)
      obtain ⟨s1', s2'⟩ := pch_step hch
      have s2h : n.toNat % 2 ≠ 0 → n % 2 = 1 ∧ 3 ≤ n := fun h => by omega
      have e3 := A3 2
      have e4 : zwrap .i64 (zadd 0 1) = 1 := by rw [hS.wrap, hS.add]; rfl
      have e5 : zne 2 0 = true := by rw [hS.ne]; rfl
      by_cases h0 : n.toNat % 2 = 0
      · rw [decide_eq_true h0] at e1
        have r1 := s1' h0
        subst hs1
        cbv
        refine bT l1 (nd e5 (bT e1 (fin1 hF (tv_bool (e3.trans r1)))))
      · rw [decide_eq_false h0] at e1
        obtain ⟨b1, m1, m2, m3⟩ := s2' h0
        obtain ⟨o1, o2⟩ := s2h h0
        have cp := cpass 2 b1 (by omega) o1 o2 m1
        have hkk : k - 1 < k := by omega
        have hik' : 1 + (k - 1) = 4 := by omega
        have hn1 : znot b1 = !b1 := hS.not b1
        clear s1' s2' s2h m1 A1 A3
        subst hs1
        cbv
        refine bT l1 (nd e5 (bF e1 ⟨_, hS.call cp, ?_⟩))
        cbv
        cases b1 with
        | false => exact bT hn1 (fin1 hF (tv_bool (m2 rfl)))
        | true => exact bF hn1 (again (s' := pprSt n 1) (m := k - 1) (by simp [leT, pprSt, mkSt, vi, vb, e4]) (by simp [leH, pprSt, mkSt]) rfl (Nat.le_refl 1) hkk ⟨1, 1, hik', fun _ => o1, m3 rfl, by simp, rfl⟩)
    · have hch : b = true ↔ Pch n.toNat [3, 5, 7] := hch
      have hod := hod (by omega)
      have l1 : zlt 1 4 = true := by rw [hS.lt]; rfl
      have e1 := A1 3 (by omega)
      obtain ⟨s1', s2'⟩ := pch_step hch
      have s2h : n.toNat % 3 ≠ 0 → n % 2 = 1 ∧ 3 ≤ n := fun h => by omega
      have e3 := A3 3
      have e4 : zwrap .i64 (zadd 1 1) = 2 := by rw [hS.wrap, hS.add]; rfl
      have e5 : zne 3 0 = true := by rw [hS.ne]; rfl
      by_cases h0 : n.toNat % 3 = 0
      · rw [decide_eq_true h0] at e1
        have r1 := s1' h0
        subst hs1
        cbv
        refine bT l1 (nd e5 (bT e1 (fin1 hF (tv_bool (e3.trans r1)))))
      · rw [decide_eq_false h0] at e1
        obtain ⟨b1, m1, m2, m3⟩ := s2' h0
        obtain ⟨o1, o2⟩ := s2h h0
        have cp := cpass 3 b1 (by omega) o1 o2 m1
        have hkk : k - 1 < k := by omega
        have hik' : 2 + (k - 1) = 4 := by omega
        have hn1 : znot b1 = !b1 := hS.not b1
        clear s1' s2' s2h m1 A1 A3
        subst hs1
        cbv
        refine bT l1 (nd e5 (bF e1 ⟨_, hS.call cp, ?_⟩))
        cbv
        cases b1 with
        | false => exact bT hn1 (fin1 hF (tv_bool (m2 rfl)))
        | true => exact bF hn1 (again (s' := pprSt n 2) (m := k - 1) (by simp [leT, pprSt, mkSt, vi, vb, e4]) (by simp [leH, pprSt, mkSt]) rfl (Nat.le_refl 1) hkk ⟨2, 2, hik', fun _ => o1, m3 rfl, by simp, rfl⟩)
    · have hch : b = true ↔ Pch n.toNat [5, 7] := hch
      have hod := hod (by omega)
      have l1 : zlt 2 4 = true := by rw [hS.lt]; rfl
      have e1 := A1 5 (by omega)
      obtain ⟨s1', s2'⟩ := pch_step hch
      have s2h : n.toNat % 5 ≠ 0 → n % 2 = 1 ∧ 3 ≤ n := fun h => by omega
      have e3 := A3 5
      have e4 : zwrap .i64 (zadd 2 1) = 3 := by rw [hS.wrap, hS.add]; rfl
      have e5 : zne 5 0 = true := by rw [hS.ne]; rfl
      by_cases h0 : n.toNat % 5 = 0
      · rw [decide_eq_true h0] at e1
        have r1 := s1' h0
        subst hs1
        cbv
        refine bT l1 (nd e5 (bT e1 (fin1 hF (tv_bool (e3.trans r1)))))
      · rw [decide_eq_false h0] at e1
        obtain ⟨b1, m1, m2, m3⟩ := s2' h0
        obtain ⟨o1, o2⟩ := s2h h0
        have cp := cpass 5 b1 (by omega) o1 o2 m1
        have hkk : k - 1 < k := by omega
        have hik' : 3 + (k - 1) = 4 := by omega
        have hn1 : znot b1 = !b1 := hS.not b1
        clear s1' s2' s2h m1 A1 A3
        subst hs1
        cbv
        refine bT l1 (nd e5 (bF e1 ⟨_, hS.call cp, ?_⟩))
        cbv
        cases b1 with
        | false => exact bT hn1 (fin1 hF (tv_bool (m2 rfl)))
        | true => exact bF hn1 (again (s' := pprSt n 3) (m := k - 1) (by simp [leT, pprSt, mkSt, vi, vb, e4]) (by simp [leH, pprSt, mkSt]) rfl (Nat.le_refl 1) hkk ⟨3, 3, hik', fun _ => o1, m3 rfl, by simp, rfl⟩)
    · have hch : b = true ↔ Pch n.toNat [7] := hch
      have hod := hod (by omega)
      have l1 : zlt 3 4 = true := by rw [hS.lt]; rfl
      have e1 := A1 7 (by omega)
      obtain ⟨s1', s2'⟩ := pch_step hch
      have s2h : n.toNat % 7 ≠ 0 → n % 2 = 1 ∧ 3 ≤ n := fun h => by omega
      have e3 := A3 7
      have e4 : zwrap .i64 (zadd 3 1) = 4 := by rw [hS.wrap, hS.add]; rfl
      have e5 : zne 7 0 = true := by rw [hS.ne]; rfl
      by_cases h0 : n.toNat % 7 = 0
      · rw [decide_eq_true h0] at e1
        have r1 := s1' h0
        subst hs1
        cbv
        refine bT l1 (nd e5 (bT e1 (fin1 hF (tv_bool (e3.trans r1)))))
      · rw [decide_eq_false h0] at e1
        obtain ⟨b1, m1, m2, m3⟩ := s2' h0
        obtain ⟨o1, o2⟩ := s2h h0
        have cp := cpass 7 b1 (by omega) o1 o2 m1
        have hkk : k - 1 < k := by omega
        have hik' : 4 + (k - 1) = 4 := by omega
        have hn1 : znot b1 = !b1 := hS.not b1
        clear s1' s2' s2h m1 A1 A3
        subst hs1
        cbv
        refine bT l1 (nd e5 (bF e1 ⟨_, hS.call cp, ?_⟩))
        cbv
        cases b1 with
        | false => exact bT hn1 (fin1 hF (tv_bool (m2 rfl)))
        | true => exact bF hn1 (again (s' := pprSt n 4) (m := k - 1) (by simp [leT, pprSt, mkSt, vi, vb, e4]) (by simp [leH, pprSt, mkSt]) rfl (Nat.le_refl 1) hkk ⟨4, 4, hik', fun _ => o1, m3 rfl, by simp, rfl⟩)
    · have hch : b = true ↔ Pch n.toNat [] := hch
      have l1 : zlt 4 4 = false := by rw [hS.lt]; rfl
      have hbt : true = b := (hch.2 trivial).symm
      subst hs1
      cbv
      exact bF l1 (fin1 hF (tv_bool hbt))
end Go.Proofs.Ytgncmjcoojmccaa
end

section
set_option linter.unusedVariables false
set_option linter.unusedSimpArgs false
set_option maxHeartbeats 8000000
set_option linter.unusedVariables false
set_option linter.unusedSimpArgs false
set_option maxRecDepth 100000
namespace Go.Proofs.Ytgncmjcoojmccaa
open Go Go.Abs Go.Abs.M Go.Proofs

def itrimSt (r : Abs.Rows) (n : Int) : St := mkSt 21 [vl r, .junk, vnil, vi .i64 n] [none]
theorem itrim_call {r : Abs.Rows} {l : List Int} (hr : r = W .u32 l) (hl : l.length ≤ 2199023255552) (hw : Wd l) : ACall Try.prog 74 [.val (.c (.lst false r))] ⟨[.val (.c (.lst false (W .u32 (dg (val l).toNat))))], [none]⟩ := by
  refine callZ ccOk mixed [.val] Try.func74 rfl rfl (by kernel_rfl) fun zwrap zadd zsub zmul zquo zrem zshl zshr zband zbor zbxor zbandn zeq zne zlt zle znot zbeq zbne zmax zmin znat zinb zofN zidx zneq znadd zdif zcut zroom zmkok zlen znth zsetr zisI zgetI zsetI zfit zpart zext zsetg zrep zwide zall zmok zmget zmset zW zth A L F hS hF => ?_
  have hlen : zlen r = l.length := by rw [hS.len, hr, W_len]
  cbv
  refine loopZ ccOk mixed hS (fun m s => ∃ n : Nat, n = m ∧ n ≤ l.length ∧ val (l.take n) = val l ∧ s = itrimSt r (zofN n)) (n := l.length) (s0 := itrimSt r (zofN l.length)) (le_of ?_ ?_) rfl (Nat.le_refl 1) ?_ ?_
  · simp [leT, itrimSt, mkSt, vnil, vi, vl, hlen]
  · simp [leH, itrimSt, mkSt]
  · exact ⟨_, rfl, Nat.le_refl _, by rw [List.take_length], rfl⟩
  · rintro m _ ⟨n, rfl, hn, hv, rfl⟩
    have hp : 0 < n → zwrap .i64 (zsub (zofN n) 1) = zofN (n - 1) := fun h => by rw [hS.wrap, hS.sub, hS.ofN, hS.ofN, wrap_i64 (by omega) (by omega)]; omega
    have hg : 0 < n → zgetI r (znat (zofN (n - 1))) = l.getD (n - 1) 0 := fun h => by rw [hS.getI, hS.nat, hS.ofN, hr, W_getI, Int.toNat_natCast]
    have hc : zcut 0 (zofN n) (zlen r) = true := by rw [hS.cut, hlen, hS.ofN]; exact decide_eq_true (by omega)
    have hwd : zwide 1 r = true := by rw [hS.wide, hr]; exact W_wide _ _
    have hF' : n = 0 ∨ l.getD (n - 1) 0 ≠ 0 → F ⟨[.val (.c (.lst false (zpart r 0 (znat (zofN n)))))], [none]⟩ := fun h => fin1 hF (by
      rw [hS.part, hS.nat, hS.ofN, hr, W_part, Int.toNat_natCast, List.drop_zero, trim_dg hw hn hv h])
    cbv
    refine ⟨fun h => ?_, fun h => nd hc (nd hwd (hF' ?_))⟩
    all_goals rw [hS.lt, hS.ofN] at h
    · have h : 0 < n := by simpa using h
      rw [hp h, hg h]
      refine nd (by rw [hS.le, hS.ofN]; exact decide_eq_true (by omega)) (nd (by rw [hS.isI, hS.nat, hS.ofN, hr, W_isI]; exact decide_eq_true (by omega)) ⟨fun h2 => ?_, fun h2 => nd hc (nd hwd (hF' (.inr ?_)))⟩)
      all_goals rw [hS.eq] at h2
      · refine again (s' := itrimSt r (zofN (n - 1))) (m := n - 1) (by simp [leT, itrimSt, mkSt, vnil, vi, vl]) (by simp [leH, itrimSt, mkSt]) rfl (Nat.le_refl 1) (by omega) ⟨_, rfl, by omega, ?_, rfl⟩
        have := val_take_succ (l := l) (k := n - 1) (by omega)
        rw [show n - 1 + 1 = n by omega, of_decide_eq_true h2] at this
        omega
      · exact of_decide_eq_false h2
    · exact .inl (by simpa using h)

theorem iwords_call (n : Int) (hn : 0 ≤ n) (hn2 : n < 18446744073709551616) : ACall Try.prog 68 [.val (ti .u64 n)] ⟨[.val (tl (W .u32 (dg n.toNat)))], [none]⟩ := by
  refine callZ ccOk mixed [.val] Try.func68 rfl rfl (by kernel_rfl) fun zwrap zadd zsub zmul zquo zrem zshl zshr zband zbor zbxor zbandn zeq zne zlt zle znot zbeq zbne zmax zmin znat zinb zofN zidx zneq znadd zdif zcut zroom zmkok zlen znth zsetr zisI zgetI zsetI zfit zpart zext zsetg zrep zwide zall zmok zmget zmset zW zth A L F hS hF => ?_
  have e1 : zwrap .u32 n = n % 4294967296 := by rw [hS.wrap]; exact wrap_u32m _
  have e2 : zwrap .u32 (zshr .u64 n 32) = n / 4294967296 := by
    rw [show zshr .u64 n 32 = ZI.std.shr .u64 n 32 from hS.shr .., shr32 hn, hS.wrap]; exact wrap_u32 (by omega) (by omega)
  have hT := itrim_call (r := W .u32 [n % 4294967296, n / 4294967296]) rfl (by simp) (Wd.cons (by omega) (by omega) (Wd.cons (by omega) (by omega) Wd.nil))
  cbv
  rw [e1, e2]
  refine nd (by rw [hS.fit]; rfl) ?_
  rw [hS.part]
  refine ⟨_, hS.call hT, ?_⟩
  rw [show val [n % 4294967296, n / 4294967296] = n by simp only [val]; omega]
  generalize W .u32 (dg n.toNat) = x at *
  cbv
  exact hF _ (ResLe.refl _)

theorem isigned_call {r : Abs.Rows} {l : List Int} (s t : Bool) (hr : r = W .u32 l) (hl : l.length ≤ 2199023255552) (hw : Wd l) (ht : t = (s && decide (0 < val l))) : ACall Try.prog 67 [.val (tb s), .val (tl r)] ⟨[.val (.agg (iT t (W .u32 (dg (val l).toNat))))], [none, none]⟩ := by
  refine callZ ccOk mixed [.val] Try.func67 rfl rfl (by kernel_rfl) fun zwrap zadd zsub zmul zquo zrem zshl zshr zband zbor zbxor zbandn zeq zne zlt zle znot zbeq zbne zmax zmin znat zinb zofN zidx zneq znadd zdif zcut zroom zmkok zlen znth zsetr zisI zgetI zsetI zfit zpart zext zsetg zrep zwide zall zmok zmget zmset zW zth A L F hS hF => ?_
  have hT := itrim_call hr hl hw
  have hz : zeq (zofN (zlen (W .u32 (dg (val l).toNat)))) 0 = decide (¬ 0 < val l) := by
    rw [hS.eq, hS.ofN, hS.len, W_len]
    have := val_nonneg hw
    have h2 := @nl_zero (val l).toNat
    unfold nl at h2
    by_cases h : 0 < val l
    · rw [decide_eq_false (show ¬ ¬ 0 < val l by omega)]; exact decide_eq_false (by omega)
    · rw [decide_eq_true h]; exact decide_eq_true (by omega)
  have h0 : ¬ 0 < val l → W .u32 (dg (val l).toNat) = [] := fun h => by rw [show (val l).toNat = 0 by omega]; rfl
  generalize W .u32 (dg (val l).toNat) = x at *
  cbv
  refine ⟨_, hS.call hT, ?_⟩
  cbv
  rw [hz]
  refine ⟨fun h => fin1w hF ?_, fun h => fin1w hF ?_⟩
  · have h' := of_decide_eq_true h
    rw [ht, decide_eq_false h', Bool.and_false, h0 h']
    exact ⟨.v _, TLe.drop _ _, trivial⟩
  · have h' := of_decide_eq_false h
    rw [ht, decide_eq_true (by omega), Bool.and_true]
    exact TVLe.refl _

theorem isignedM {n : Nat} {r : Abs.Rows} (s t : Bool) (hr : IsM n r) (hl : nl n ≤ 2199023255552) (ht : t = (s && decide (n ≠ 0))) : ACall Try.prog 67 [.val (tb s), .val (tl r)] ⟨[.val (.agg (iT t r))], [none, none]⟩ := by
  have h := isigned_call s t hr hl (dg_wd n) (by
    rw [dg_val, ht]
    by_cases h : n = 0
    · subst h; rfl
    · rw [decide_eq_true h, decide_eq_true (by omega)])
  rw [dg_val, Int.toNat_natCast, ← hr] at h
  exact h

theorem iclone_call {r : Abs.Rows} {l : List Int} (hr : r = W .u32 l) (hl : l.length ≤ 2199023255552) : ACall Try.prog 76 [.val (tl r)] ⟨[.val (tl r)], [none]⟩ := by
  refine callZ ccOk mixed [.val] Try.func76 rfl rfl (by kernel_rfl) fun zwrap zadd zsub zmul zquo zrem zshl zshr zband zbor zbxor zbandn zeq zne zlt zle znot zbeq zbne zmax zmin znat zinb zofN zidx zneq znadd zdif zcut zroom zmkok zlen znth zsetr zisI zgetI zsetI zfit zpart zext zsetg zrep zwide zall zmok zmget zmset zW zth A L F hS hF => ?_
  have h1 : zlen r = l.length := by rw [hS.len, hr, W_len]
  have h2 : zneq (zlen r) 0 = decide (l.length = 0) := by rw [hS.neq, h1]
  have h3 : zext [] 0 r = r := by rw [hS.ext]; rfl
  have h4 : znadd (zlen []) (zlen r) = l.length := by rw [hS.nadd, h1, hS.len]; exact Nat.zero_add _
  have h5 : zpart r 0 l.length = r := by rw [hS.part, hr, W_part, List.drop_zero, List.take_length]
  have hwd : zwide 1 r = true := by rw [hS.wide, hr]; exact W_wide _ _
  cbv
  refine ⟨fun h => fin1w hF ?_, fun h => nd ?_ (nd hwd (nd (by rw [hS.wide]; rfl) (nd ?_ ?_)))⟩
  · rw [h2] at h
    have h0 := of_decide_eq_true h
    have : l = [] := List.length_eq_zero_iff.1 h0
    rw [hr, this]
    exact TLe.drop _ _
  · rw [h, hS.not]; rfl
  · rw [hS.room, h1, hS.len]; exact decide_eq_true (by unfold capBytes; simp; omega)
  · rw [h3, h4]
    refine nd (by rw [hS.fit, hr, W_len]; exact decide_eq_true (by omega)) ?_
    rw [h5]
    exact hF _ (ResLe.refl _)

def icmpSt (r s : Abs.Rows) (i : Int) : St := mkSt 41 [vl r, vl s, .junk, .junk, vi .i64 0, vi .i64 i] [none, none]
theorem icompare_call {r s : Abs.Rows} {l m : List Int} (c : Int) (hr : r = W .u32 l) (hs : s = W .u32 m) (hl : l.length ≤ 2199023255552) (hm : m.length ≤ 2199023255552) (hlw : Wd l) (hmw : Wd m) (hlt : Tr l) (hmt : Tr m) (hc : c = cmpI (val l) (val m)) :
    ACall Try.prog 70 [.val (tl r), .val (tl s)] ⟨[.val (ti .i64 c)], [none, none]⟩ := by
  refine callZ ccOk mixed [.val] Try.func70 rfl rfl (by kernel_rfl) fun zwrap zadd zsub zmul zquo zrem zshl zshr zband zbor zbxor zbandn zeq zne zlt zle znot zbeq zbne zmax zmin znat zinb zofN zidx zneq znadd zdif zcut zroom zmkok zlen znth zsetr zisI zgetI zsetI zfit zpart zext zsetg zrep zwide zall zmok zmget zmset zW zth A L F hS hF => ?_
  have h1 : zlen r = l.length := by rw [hS.len, hr, W_len]
  have h2 : zlen s = m.length := by rw [hS.len, hs, W_len]
  cbv
  rw [h1, h2]
  refine ⟨fun h => ⟨fun h' => ?_, fun h' => ?_⟩, fun h => ?_⟩
  all_goals rw [hS.ne, hS.ofN, hS.ofN] at h
  · rw [hS.lt, hS.ofN, hS.ofN] at h'
    have h' : (l.length : Int) < m.length := of_decide_eq_true h'
    exact fin1 hF (tv_int (by rw [hc, cmpI_lt (val_lt_of_len hlw hmw hmt (by omega))]))
  · rw [hS.lt, hS.ofN, hS.ofN] at h'
    have h' := of_decide_eq_false h'
    have h := of_decide_eq_true h
    exact fin1 hF (tv_int (by rw [hc, cmpI_gt (val_lt_of_len hmw hlw hlt (by omega))]))
  · have h := of_decide_eq_false h
    have hlen : l.length = m.length := by omega
    have hi0 : zwrap .i64 (zsub (zofN l.length) 1) = zsub (zofN l.length) 1 := by rw [hS.wrap, hS.sub, hS.ofN]; exact wrap_i64 (by omega) (by omega)
    rw [hi0]
    refine loopZ ccOk mixed hS (fun (k : Nat) s' => k ≤ l.length ∧ l.drop k = m.drop k ∧ s' = icmpSt r s (zsub (zofN k) 1)) (n := l.length) (s0 := icmpSt r s (zsub (zofN l.length) 1)) (le_of ?_ ?_) rfl (Nat.le_refl 2) ?_ ?_
    · simp [leT, icmpSt, mkSt, vi, vl]
    · simp [leH, icmpSt, mkSt]
    · refine ⟨Nat.le_refl _, ?_, rfl⟩
      rw [List.drop_length, hlen, List.drop_length]
    · rintro k _ ⟨hk, he, rfl⟩
      have hi : zsub (zofN k) 1 = (k : Int) - 1 := by rw [hS.sub, hS.ofN]
      have hz : zle 0 (zsub (zofN k) 1) = decide (1 ≤ k) := by
        rw [hS.le, hi]
        by_cases h : 1 ≤ k
        · rw [decide_eq_true h]; exact decide_eq_true (by omega)
        · rw [decide_eq_false h]; exact decide_eq_false (by omega)
      have hnt : 1 ≤ k → znat (zsub (zofN k) 1) = k - 1 := fun h => by rw [hS.nat, hi]; omega
      have g1 : 1 ≤ k → zgetI r (znat (zsub (zofN k) 1)) = l.getD (k - 1) 0 := fun h => by rw [hnt h, hS.getI, hr, W_getI]
      have g2 : 1 ≤ k → zgetI s (znat (zsub (zofN k) 1)) = m.getD (k - 1) 0 := fun h => by rw [hnt h, hS.getI, hs, W_getI]
      have hF0 : ∀ x : Int, x = c → F ⟨[.val (.c (.v (.int .i64 x)))], [none, none]⟩ := fun x hx => fin1 hF (tv_int hx)
      have hn2 : 1 ≤ k → zisI .u32 r (znat (zsub (zofN k) 1)) = true := fun h => by rw [hnt h, hS.isI, hr, W_isI]; exact decide_eq_true (by omega)
      have hn3 : 1 ≤ k → zisI .u32 s (znat (zsub (zofN k) 1)) = true := fun h => by rw [hnt h, hS.isI, hs, W_isI]; exact decide_eq_true (by omega)
      have hw1 : 1 ≤ k → zwrap .i64 (zsub (zsub (zofN k) 1) 1) = zsub (zofN (k - 1)) 1 := fun h => by rw [hi, hS.wrap, hS.sub, hS.sub, hS.ofN, wrap_i64 (by omega) (by omega)]; omega
      cbv
      refine ⟨fun h => ?_, fun h => hF0 _ ?_⟩
      · have a1 := h
        rw [hz] at h
        have h := of_decide_eq_true h
        have a2 := hn2 h
        have a3 := hn3 h
        rw [hw1 h, g1 h, g2 h]
        refine nd a1 (nd a2 (nd a1 (nd a3 ⟨fun h3 => nd a1 (nd a2 (nd a1 (nd a3 ⟨fun h4 => hF0 _ ?_, fun h4 => hF0 _ ?_⟩))), fun h3 => ?_⟩)))
        all_goals rw [hS.ne] at h3
        · rw [hS.lt] at h4
          rw [hc, cmpI_lt (val_lt_of_word (i := k - 1) hlw hmw hlen (by omega) (by rw [show k - 1 + 1 = k by omega]; exact he) (of_decide_eq_true h4))]
        · rw [hS.lt] at h4
          have e3 := of_decide_eq_true h3
          have e4 := of_decide_eq_false h4
          rw [hc, cmpI_gt (val_lt_of_word (i := k - 1) hmw hlw hlen.symm (by omega) (by rw [show k - 1 + 1 = k by omega]; exact he.symm) (by omega))]
        · refine again (s' := icmpSt r s (zsub (zofN (k - 1)) 1)) (m := k - 1) (by simp [leT, icmpSt, mkSt, vi, vl]) (by simp [leH, icmpSt, mkSt]) rfl (Nat.le_refl 2) (by omega) ⟨by omega, ?_, rfl⟩
          have e3 := of_decide_eq_false h3
          rw [drop_getD (show k - 1 < l.length by omega), drop_getD (show k - 1 < m.length by omega), show k - 1 + 1 = k by omega, he, show l.getD (k - 1) 0 = m.getD (k - 1) 0 by omega]
      · rw [hz] at h
        have h := of_decide_eq_false h
        obtain rfl : k = 0 := by omega
        simp only [List.drop_zero] at he
        rw [hc, he, cmpI_eq]
end Go.Proofs.Ytgncmjcoojmccaa
end

section
set_option linter.unusedVariables false
set_option linter.unusedSimpArgs false
set_option maxHeartbeats 8000000
set_option linter.unusedVariables false
set_option linter.unusedSimpArgs false
set_option maxRecDepth 100000
namespace Go.Proofs.Ytgncmjcoojmccaa
open Go Go.Abs Go.Abs.M Go.Proofs

theorem getD_out {l : List Int} {k : Nat} (h : ¬ k < l.length) : l.getD k 0 = 0 := by
  rw [List.getD_eq_getElem?_getD, List.getElem?_eq_none (by omega)]; rfl

def isumSt (r s R : Abs.Rows) (n : Nat) (c len i : Int) : St := mkSt 59 [vl r, vl s, .junk, .junk, vnil, .c (.sl 2 0 n false), vi .u64 c, .junk, .junk, .junk, .junk, .junk, .junk, .junk, .junk, .junk, .junk, .junk, .junk, .junk, .junk, vi .i64 len, vi .i64 i] [none, none, some (.rows 1 R true false)]


theorem isum_call {r s : Abs.Rows} {l m : List Int} (hr : r = W .u32 l) (hs : s = W .u32 m) (hl : l.length ≤ 1099511627776) (hm : m.length ≤ 1099511627776) (hlw : Wd l) (hmw : Wd m) :
    ACall Try.prog 69 [.val (tl r), .val (tl s)] ⟨[.val (tl (W .u32 (dg (val l + val m).toNat)))], [none, none]⟩ := by
  rcases Nat.lt_or_ge l.length m.length with hlm | hlm
  · obtain ⟨N, hN⟩ : ∃ N : Nat, N = m.length := ⟨_, rfl⟩
    refine callZ ccOk mixed [.val] Try.func69 rfl rfl (by kernel_rfl) fun zwrap zadd zsub zmul zquo zrem zshl zshr zband zbor zbxor zbandn zeq zne zlt zle znot zbeq zbne zmax zmin znat zinb zofN zidx zneq znadd zdif zcut zroom zmkok zlen znth zsetr zisI zgetI zsetI zfit zpart zext zsetg zrep zwide zall zmok zmget zmset zW zth A L F hS hF => ?_
    have h1 : zlen s = N := by rw [hS.len, hs, W_len, hN]
    have h2 : zlen r = l.length := by rw [hS.len, hr, W_len]
    have hn1 : zwrap .i64 (zadd (zofN (zlen s)) 1) = ((N + 1 : Nat) : Int) := by rw [h1, hS.ofN, hS.add, hS.wrap, wrap_i64 (by omega) (by omega)]; omega
    have hnn : znat ((N + 1 : Nat) : Int) = N + 1 := by rw [hS.nat]; omega
    obtain ⟨n, hn⟩ : ∃ n : Nat, n = N + 1 := ⟨_, rfl⟩
    rw [← hn] at hn1 hnn
    have hrep : zrep n [.v (.int .u32 0)] = zW .u32 (List.replicate n 0) := by rw [hS.rep, hS.W]; exact W_rep ..
    have hbr := zlt_nat hS.lt hS.ofN
    cbv
    refine bT (by simp only [hS.len, hr, hs, W_len, hbr]; first | exact decide_eq_true (by omega) | exact decide_eq_false (by omega)) ?_
    rw [hn1, hnn, hrep]
    have hcap : (n : Int) * 4 ≤ 70368744177664 := by omega
    refine nd (by rw [hS.mkok]; exact decide_eq_true ⟨Int.natCast_nonneg n, Int.le_refl _, by unfold capBytes; omega⟩) ?_
    refine loopZ ccOk mixed hS (fun (j : Nat) s' => ∃ (k : Nat) (o : List Int) (c : Int), k + j = N ∧ o.length = n ∧ Wd o ∧ (0 ≤ c ∧ c ≤ 1) ∧ val (o.take k) + c * 4294967296 ^ k = val (m.take k) + val (l.take k) ∧ s' = isumSt s r (zW .u32 o) n c (zofN N) (zofN k)) (n := N)
      (s0 := isumSt s r (zW .u32 (List.replicate n 0)) n 0 (zofN N) (zofN 0)) (le_of ?_ ?_) rfl (Nat.le_succ 2) ?_ ?_
    · simp [leT, isumSt, mkSt, vi, vl, vnil, hS.ofN, h1]
    · simp [leH, isumSt, mkSt]
    · exact ⟨0, _, 0, by omega, by simp, Wd.rep _, by omega, by simp [val], rfl⟩
    · rintro j _ ⟨k, o, c, hk, ho, hw, hc, hv, rfl⟩
      have ga := hmw.get k
      have gb := hlw.get k
      obtain ⟨t, ht⟩ : ∃ t, t = m.getD k 0 + l.getD k 0 + c := ⟨_, rfl⟩
      have hst := add_step hv ht
      have e1 : zgetI s (znat (zofN k)) = m.getD k 0 := by rw [hS.getI, hS.nat, hS.ofN, hs, W_getI, Int.toNat_natCast]
      have e2 : zgetI r (znat (zofN k)) = l.getD k 0 := by rw [hS.getI, hS.nat, hS.ofN, hr, W_getI, Int.toNat_natCast]
      have hout := fun h => getD_out (l := l) (k := k) h
      have t1 : zwrap .u64 (zadd (zwrap .u64 (zadd (zwrap .u64 (m.getD k 0)) c)) (zwrap .u64 (l.getD k 0))) = t := by
        rw [hS.wrap, hS.wrap, hS.wrap, hS.wrap, hS.add, hS.add, wrap_u64 (x := m.getD k 0) (by omega) (by omega), wrap_u64 (x := l.getD k 0) (by omega) (by omega), wrap_u64 (x := m.getD k 0 + c) (by omega) (by omega), wrap_u64 (by omega) (by omega), ht]; omega
      have t2 : ¬ k < l.length → zwrap .u64 (zadd (zwrap .u64 (m.getD k 0)) c) = t := fun h => by
        rw [hS.wrap, hS.wrap, hS.add, wrap_u64 (x := m.getD k 0) (by omega) (by omega), wrap_u64 (by omega) (by omega), ht, hout h]; omega
      have t3 : zwrap .u32 t = t % 4294967296 := by rw [hS.wrap]; exact wrap_u32m _
      have t4 : zshr .u64 t 32 = t / 4294967296 := by rw [show zshr .u64 t 32 = ZI.std.shr .u64 t 32 from hS.shr ..]; exact shr32 (by omega)
      have e4 : k < N → zwrap .i64 (zadd (zofN k) 1) = zofN (k + 1) := fun h => by rw [hS.wrap, hS.add, hS.ofN, hS.ofN, wrap_i64 (by omega) (by omega)]; omega
      have e5 : zidx 0 (zofN k) = k := by rw [hS.idx, hS.ofN]; omega
      have e5' : zidx 0 (zofN (zlen s)) = N := by rw [hS.idx, hS.ofN, h1]; omega
      have e6 := hbr k N
      have e6' := hbr k l.length
      have e7 : ∀ i x, zsetI .u32 (zW .u32 o) i x = zW .u32 (o.set i x) := fun i x => by rw [hS.setI, hS.W, W_set]
      have e8 : k < N → zinb (zofN k) n = true := fun h => by rw [hS.inb, hS.ofN]; exact decide_eq_true (by omega)
      have e8' : zinb (zofN (zlen s)) n = true := by rw [hS.inb, hS.ofN, h1]; exact decide_eq_true (by omega)
      have e9 : ∀ i, i < n → zisI .u32 (zW .u32 o) i = true := fun i h => by rw [hS.isI, hS.W, W_isI]; exact decide_eq_true (by omega)
      have e12 : k < N → zisI .u32 s (znat (zofN k)) = true := fun h => by rw [hS.isI, hs, hS.nat, hS.ofN, W_isI]; exact decide_eq_true (by omega)
      have e13 : k < l.length → zisI .u32 r (znat (zofN k)) = true := fun h => by rw [hS.isI, hr, hS.nat, hS.ofN, W_isI]; exact decide_eq_true (by omega)
      have e14 : zle 0 (zofN k) = true := by rw [hS.le, hS.ofN]; exact decide_eq_true (by omega)
      have e15 : zwrap .u32 c = c := by rw [hS.wrap]; exact wrap_u32 (by omega) (by omega)
      have e10 : zfit 0 n (zW .u32 (o.set N c)) = true := by rw [hS.fit, hS.W, W_len]; exact decide_eq_true (by simp; omega)
      have e11 : zpart (zW .u32 (o.set N c)) 0 n = W .u32 (o.set N c) := by rw [hS.part, hS.W, W_part, List.drop_zero, List.take_of_length_le (by simp; omega)]
      have hT := itrim_call (r := W .u32 (o.set N c)) rfl (by simp; omega) (hw.set N (x := c) (by omega) (by omega))
      have hend : k = N → val (o.set N c) = val m + val l := fun h => by
        have a1 := val_take_set (l := o) (k := N) c (by omega)
        rw [List.take_of_length_le (by simp; omega)] at a1
        subst h
        rw [List.take_of_length_le (l := m) (by omega), List.take_of_length_le (l := l) (by omega)] at hv
        rw [a1, Int.mul_comm _ c]; exact hv
      have hset : k < N → val ((o.set k (t % 4294967296)).take (k + 1)) = val (o.take k) + 4294967296 ^ k * (t % 4294967296) := fun h => val_take_set _ (by omega)
      have hnext : k < N → ∃ k' o' c', k' + (j - 1) = N ∧ o'.length = n ∧ Wd o' ∧ (0 ≤ c' ∧ c' ≤ 1) ∧ val (o'.take k') + c' * 4294967296 ^ k' = val (m.take k') + val (l.take k') ∧ isumSt s r (zW .u32 (o.set k (t % 4294967296))) n (t / 4294967296) (zofN N) (zofN (k + 1)) = isumSt s r (zW .u32 o') n c' (zofN N) (zofN k') := fun h => by
        refine ⟨k + 1, _, _, by omega, by simpa using ho, hw.set _ (by omega) (by omega), by omega, ?_, rfl⟩
        rw [hset h, val_take_succ' m, val_take_succ' l, Int.pow_succ]
        exact hst
      have hjk : k < N → j - 1 < j := fun h => by omega
      generalize m.getD k 0 = a at *
      generalize l.getD k 0 = b at *
      clear hset hst hv ga gb
      cbv
      refine ⟨fun h => ?_, fun h => ?_⟩
      all_goals rw [e6] at h
      · have h := of_decide_eq_true h
        refine nd e14 (nd (e12 h) ⟨fun h' => nd e14 (nd (e13 (by rw [h2, e6'] at h'; exact of_decide_eq_true h')) (nd (e8 h) ?_)), fun h' => nd (e8 h) ?_⟩)
        · rw [e1, e2, t1, t3, t4, e4 h, e5, e7]
          exact nd (e9 k (by omega)) (again (s' := isumSt s r (zW .u32 (o.set k (t % 4294967296))) n (t / 4294967296) (zofN N) (zofN (k + 1))) (m := j - 1) (by simp [leT, isumSt, mkSt, vi, vl, vnil]) (by simp [leH, isumSt, mkSt]) rfl (Nat.le_succ 2) (hjk h) (hnext h))
        · rw [h2, e6'] at h'
          rw [e1, t2 (of_decide_eq_false h'), t3, t4, e4 h, e5, e7]
          exact nd (e9 k (by omega)) (again (s' := isumSt s r (zW .u32 (o.set k (t % 4294967296))) n (t / 4294967296) (zofN N) (zofN (k + 1))) (m := j - 1) (by simp [leT, isumSt, mkSt, vi, vl, vnil]) (by simp [leH, isumSt, mkSt]) rfl (Nat.le_succ 2) (hjk h) (hnext h))
      · have h := of_decide_eq_false h
        refine nd e8' ?_
        rw [e5', e15, e7]
        refine nd (e9 N (by omega)) ?_
        rw [e11]
        refine nd e10 ⟨_, hS.call hT, ?_⟩
        rw [hend (by omega)]
        generalize hx : W .u32 (dg (val m + val l).toNat) = x at *
        cbv
        first | exact hF _ (ResLe.refl _) | (subst hx; exact fin1 hF (by rw [Int.add_comm]; rfl))
  · obtain ⟨N, hN⟩ : ∃ N : Nat, N = l.length := ⟨_, rfl⟩
    refine callZ ccOk mixed [.val] Try.func69 rfl rfl (by kernel_rfl) fun zwrap zadd zsub zmul zquo zrem zshl zshr zband zbor zbxor zbandn zeq zne zlt zle znot zbeq zbne zmax zmin znat zinb zofN zidx zneq znadd zdif zcut zroom zmkok zlen znth zsetr zisI zgetI zsetI zfit zpart zext zsetg zrep zwide zall zmok zmget zmset zW zth A L F hS hF => ?_
    have h1 : zlen r = N := by rw [hS.len, hr, W_len, hN]
    have h2 : zlen s = m.length := by rw [hS.len, hs, W_len]
    have hn1 : zwrap .i64 (zadd (zofN (zlen r)) 1) = ((N + 1 : Nat) : Int) := by rw [h1, hS.ofN, hS.add, hS.wrap, wrap_i64 (by omega) (by omega)]; omega
    have hnn : znat ((N + 1 : Nat) : Int) = N + 1 := by rw [hS.nat]; omega
    obtain ⟨n, hn⟩ : ∃ n : Nat, n = N + 1 := ⟨_, rfl⟩
    rw [← hn] at hn1 hnn
    have hrep : zrep n [.v (.int .u32 0)] = zW .u32 (List.replicate n 0) := by rw [hS.rep, hS.W]; exact W_rep ..
    have hbr := zlt_nat hS.lt hS.ofN
    cbv
    refine bF (by simp only [hS.len, hr, hs, W_len, hbr]; first | exact decide_eq_true (by omega) | exact decide_eq_false (by omega)) ?_
    rw [hn1, hnn, hrep]
    have hcap : (n : Int) * 4 ≤ 70368744177664 := by omega
    refine nd (by rw [hS.mkok]; exact decide_eq_true ⟨Int.natCast_nonneg n, Int.le_refl _, by unfold capBytes; omega⟩) ?_
    refine loopZ ccOk mixed hS (fun (j : Nat) s' => ∃ (k : Nat) (o : List Int) (c : Int), k + j = N ∧ o.length = n ∧ Wd o ∧ (0 ≤ c ∧ c ≤ 1) ∧ val (o.take k) + c * 4294967296 ^ k = val (l.take k) + val (m.take k) ∧ s' = isumSt r s (zW .u32 o) n c (zofN N) (zofN k)) (n := N)
      (s0 := isumSt r s (zW .u32 (List.replicate n 0)) n 0 (zofN N) (zofN 0)) (le_of ?_ ?_) rfl (Nat.le_succ 2) ?_ ?_
    · simp [leT, isumSt, mkSt, vi, vl, vnil, hS.ofN, h1]
    · simp [leH, isumSt, mkSt]
    · exact ⟨0, _, 0, by omega, by simp, Wd.rep _, by omega, by simp [val], rfl⟩
    · rintro j _ ⟨k, o, c, hk, ho, hw, hc, hv, rfl⟩
      have ga := hlw.get k
      have gb := hmw.get k
      obtain ⟨t, ht⟩ : ∃ t, t = l.getD k 0 + m.getD k 0 + c := ⟨_, rfl⟩
      have hst := add_step hv ht
      have e1 : zgetI r (znat (zofN k)) = l.getD k 0 := by rw [hS.getI, hS.nat, hS.ofN, hr, W_getI, Int.toNat_natCast]
      have e2 : zgetI s (znat (zofN k)) = m.getD k 0 := by rw [hS.getI, hS.nat, hS.ofN, hs, W_getI, Int.toNat_natCast]
      have hout := fun h => getD_out (l := m) (k := k) h
      have t1 : zwrap .u64 (zadd (zwrap .u64 (zadd (zwrap .u64 (l.getD k 0)) c)) (zwrap .u64 (m.getD k 0))) = t := by
        rw [hS.wrap, hS.wrap, hS.wrap, hS.wrap, hS.add, hS.add, wrap_u64 (x := l.getD k 0) (by omega) (by omega), wrap_u64 (x := m.getD k 0) (by omega) (by omega), wrap_u64 (x := l.getD k 0 + c) (by omega) (by omega), wrap_u64 (by omega) (by omega), ht]; omega
      have t2 : ¬ k < m.length → zwrap .u64 (zadd (zwrap .u64 (l.getD k 0)) c) = t := fun h => by
        rw [hS.wrap, hS.wrap, hS.add, wrap_u64 (x := l.getD k 0) (by omega) (by omega), wrap_u64 (by omega) (by omega), ht, hout h]; omega
      have t3 : zwrap .u32 t = t % 4294967296 := by rw [hS.wrap]; exact wrap_u32m _
      have t4 : zshr .u64 t 32 = t / 4294967296 := by rw [show zshr .u64 t 32 = ZI.std.shr .u64 t 32 from hS.shr ..]; exact shr32 (by omega)
      have e4 : k < N → zwrap .i64 (zadd (zofN k) 1) = zofN (k + 1) := fun h => by rw [hS.wrap, hS.add, hS.ofN, hS.ofN, wrap_i64 (by omega) (by omega)]; omega
      have e5 : zidx 0 (zofN k) = k := by rw [hS.idx, hS.ofN]; omega
      have e5' : zidx 0 (zofN (zlen r)) = N := by rw [hS.idx, hS.ofN, h1]; omega
      have e6 := hbr k N
      have e6' := hbr k m.length
      have e7 : ∀ i x, zsetI .u32 (zW .u32 o) i x = zW .u32 (o.set i x) := fun i x => by rw [hS.setI, hS.W, W_set]
      have e8 : k < N → zinb (zofN k) n = true := fun h => by rw [hS.inb, hS.ofN]; exact decide_eq_true (by omega)
      have e8' : zinb (zofN (zlen r)) n = true := by rw [hS.inb, hS.ofN, h1]; exact decide_eq_true (by omega)
      have e9 : ∀ i, i < n → zisI .u32 (zW .u32 o) i = true := fun i h => by rw [hS.isI, hS.W, W_isI]; exact decide_eq_true (by omega)
      have e12 : k < N → zisI .u32 r (znat (zofN k)) = true := fun h => by rw [hS.isI, hr, hS.nat, hS.ofN, W_isI]; exact decide_eq_true (by omega)
      have e13 : k < m.length → zisI .u32 s (znat (zofN k)) = true := fun h => by rw [hS.isI, hs, hS.nat, hS.ofN, W_isI]; exact decide_eq_true (by omega)
      have e14 : zle 0 (zofN k) = true := by rw [hS.le, hS.ofN]; exact decide_eq_true (by omega)
      have e15 : zwrap .u32 c = c := by rw [hS.wrap]; exact wrap_u32 (by omega) (by omega)
      have e10 : zfit 0 n (zW .u32 (o.set N c)) = true := by rw [hS.fit, hS.W, W_len]; exact decide_eq_true (by simp; omega)
      have e11 : zpart (zW .u32 (o.set N c)) 0 n = W .u32 (o.set N c) := by rw [hS.part, hS.W, W_part, List.drop_zero, List.take_of_length_le (by simp; omega)]
      have hT := itrim_call (r := W .u32 (o.set N c)) rfl (by simp; omega) (hw.set N (x := c) (by omega) (by omega))
      have hend : k = N → val (o.set N c) = val l + val m := fun h => by
        have a1 := val_take_set (l := o) (k := N) c (by omega)
        rw [List.take_of_length_le (by simp; omega)] at a1
        subst h
        rw [List.take_of_length_le (l := l) (by omega), List.take_of_length_le (l := m) (by omega)] at hv
        rw [a1, Int.mul_comm _ c]; exact hv
      have hset : k < N → val ((o.set k (t % 4294967296)).take (k + 1)) = val (o.take k) + 4294967296 ^ k * (t % 4294967296) := fun h => val_take_set _ (by omega)
      have hnext : k < N → ∃ k' o' c', k' + (j - 1) = N ∧ o'.length = n ∧ Wd o' ∧ (0 ≤ c' ∧ c' ≤ 1) ∧ val (o'.take k') + c' * 4294967296 ^ k' = val (l.take k') + val (m.take k') ∧ isumSt r s (zW .u32 (o.set k (t % 4294967296))) n (t / 4294967296) (zofN N) (zofN (k + 1)) = isumSt r s (zW .u32 o') n c' (zofN N) (zofN k') := fun h => by
        refine ⟨k + 1, _, _, by omega, by simpa using ho, hw.set _ (by omega) (by omega), by omega, ?_, rfl⟩
        rw [hset h, val_take_succ' l, val_take_succ' m, Int.pow_succ]
        exact hst
      have hjk : k < N → j - 1 < j := fun h => by omega
      generalize l.getD k 0 = a at *
      generalize m.getD k 0 = b at *
      clear hset hst hv ga gb
      cbv
      refine ⟨fun h => ?_, fun h => ?_⟩
      all_goals rw [e6] at h
      · have h := of_decide_eq_true h
        refine nd e14 (nd (e12 h) ⟨fun h' => nd e14 (nd (e13 (by rw [h2, e6'] at h'; exact of_decide_eq_true h')) (nd (e8 h) ?_)), fun h' => nd (e8 h) ?_⟩)
        · rw [e1, e2, t1, t3, t4, e4 h, e5, e7]
          exact nd (e9 k (by omega)) (again (s' := isumSt r s (zW .u32 (o.set k (t % 4294967296))) n (t / 4294967296) (zofN N) (zofN (k + 1))) (m := j - 1) (by simp [leT, isumSt, mkSt, vi, vl, vnil]) (by simp [leH, isumSt, mkSt]) rfl (Nat.le_succ 2) (hjk h) (hnext h))
        · rw [h2, e6'] at h'
          rw [e1, t2 (of_decide_eq_false h'), t3, t4, e4 h, e5, e7]
          exact nd (e9 k (by omega)) (again (s' := isumSt r s (zW .u32 (o.set k (t % 4294967296))) n (t / 4294967296) (zofN N) (zofN (k + 1))) (m := j - 1) (by simp [leT, isumSt, mkSt, vi, vl, vnil]) (by simp [leH, isumSt, mkSt]) rfl (Nat.le_succ 2) (hjk h) (hnext h))
      · have h := of_decide_eq_false h
        refine nd e8' ?_
        rw [e5', e15, e7]
        refine nd (e9 N (by omega)) ?_
        rw [e11]
        refine nd e10 ⟨_, hS.call hT, ?_⟩
        rw [hend (by omega)]
        generalize hx : W .u32 (dg (val l + val m).toNat) = x at *
        cbv
        first | exact hF _ (ResLe.refl _) | (subst hx; exact fin1 hF (by rw [Int.add_comm]; rfl))

end Go.Proofs.Ytgncmjcoojmccaa
end

section
set_option linter.unusedVariables false
set_option linter.unusedSimpArgs false
set_option maxHeartbeats 8000000
set_option linter.unusedVariables false
set_option linter.unusedSimpArgs false
set_option maxRecDepth 100000
namespace Go.Proofs.Ytgncmjcoojmccaa
open Go Go.Abs Go.Abs.M Go.Proofs

theorem dif_word {a b c d : Int} (ha : 0 ≤ a ∧ a < 4294967296) (hb : 0 ≤ b ∧ b < 4294967296) (hc : 0 ≤ c ∧ c ≤ 1) (hd : d = ((a - c) % 18446744073709551616 - b) % 18446744073709551616) :
    d % 4294967296 = (4294967296 + a - b - c) % 4294967296 ∧ d / 9223372036854775808 = 1 - (4294967296 + a - b - c) / 4294967296 ∧ 0 ≤ d := by omega

def idifSt (r s R : Abs.Rows) (n : Nat) (c len i : Int) : St := mkSt 45 [vl r, vl s, .junk, .junk, vnil, .c (.sl 2 0 n false), vi .u64 c, .junk, .junk, .junk, .junk, .junk, .junk, vi .i64 len, vi .i64 i] [none, none, some (.rows 1 R true false)]

theorem idifference_call {r s : Abs.Rows} {l m : List Int} (hr : r = W .u32 l) (hs : s = W .u32 m) (hl : l.length ≤ 1099511627776) (hm : m.length ≤ l.length) (hlw : Wd l) (hmw : Wd m) (hge : val m ≤ val l) :
    ACall Try.prog 71 [.val (tl r), .val (tl s)] ⟨[.val (tl (W .u32 (dg (val l - val m).toNat)))], [none, none]⟩ := by
  obtain ⟨n, hn⟩ : ∃ n : Nat, n = l.length := ⟨_, rfl⟩
  refine callZ ccOk mixed [.val] Try.func71 rfl rfl (by kernel_rfl) fun zwrap zadd zsub zmul zquo zrem zshl zshr zband zbor zbxor zbandn zeq zne zlt zle znot zbeq zbne zmax zmin znat zinb zofN zidx zneq znadd zdif zcut zroom zmkok zlen znth zsetr zisI zgetI zsetI zfit zpart zext zsetg zrep zwide zall zmok zmget zmset zW zth A L F hS hF => ?_
  have h1 : zlen r = n := by rw [hS.len, hr, W_len, hn]
  have h2 : zlen s = m.length := by rw [hS.len, hs, W_len]
  have hnn : znat (zofN n) = n := by rw [hS.nat, hS.ofN]; omega
  have hrep : zrep n [.v (.int .u32 0)] = zW .u32 (List.replicate n 0) := by rw [hS.rep, hS.W]; exact W_rep ..
  have hcap : (n : Int) * 4 ≤ 70368744177664 := by omega
  cbv
  rw [h1, hnn, hrep]
  refine nd (by rw [hS.mkok, hS.ofN]; exact decide_eq_true ⟨Int.natCast_nonneg n, Int.le_refl _, by unfold capBytes; omega⟩) ?_
  refine loopZ ccOk mixed hS (fun (j : Nat) s' => ∃ (k : Nat) (o : List Int) (c : Int), k + j = n ∧ o.length = n ∧ Wd o ∧ (0 ≤ c ∧ c ≤ 1) ∧ val (o.take k) = val (l.take k) - val (m.take k) + c * 4294967296 ^ k ∧ s' = idifSt r s (zW .u32 o) n c (zofN n) (zofN k)) (n := n)
    (s0 := idifSt r s (zW .u32 (List.replicate n 0)) n 0 (zofN n) (zofN 0)) (le_of ?_ ?_) rfl (Nat.le_succ 2) ?_ ?_
  · simp [leT, idifSt, mkSt, vi, vl, vnil, hS.ofN]
  · simp [leH, idifSt, mkSt]
  · exact ⟨0, _, 0, by omega, by simp, Wd.rep _, by omega, by simp [val], rfl⟩
  · rintro j _ ⟨k, o, c, hk, ho, hw, hc, hv, rfl⟩
    have ga := hlw.get k
    have gb := hmw.get k
    obtain ⟨t, ht⟩ : ∃ t, t = 4294967296 + l.getD k 0 - m.getD k 0 - c := ⟨_, rfl⟩
    have hst := sub_step hv ht
    have hout := fun h => getD_out (l := m) (k := k) h
    obtain ⟨d, hd⟩ : ∃ d, d = ((l.getD k 0 - c) % 18446744073709551616 - m.getD k 0) % 18446744073709551616 := ⟨_, rfl⟩
    obtain ⟨d1, d2, d3⟩ := dif_word ga gb hc hd
    rw [← ht] at d1 d2
    have e1 : zgetI r (znat (zofN k)) = l.getD k 0 := by rw [hS.getI, hS.nat, hS.ofN, hr, W_getI, Int.toNat_natCast]
    have e2 : zgetI s (znat (zofN k)) = m.getD k 0 := by rw [hS.getI, hS.nat, hS.ofN, hs, W_getI, Int.toNat_natCast]
    have t1 : zwrap .u64 (zsub (zwrap .u64 (zsub (zwrap .u64 (l.getD k 0)) c)) (zwrap .u64 (m.getD k 0))) = d := by
      rw [hS.wrap, hS.wrap, hS.wrap, hS.wrap, hS.sub, hS.sub, wrap_u64 (x := l.getD k 0) (by omega) (by omega), wrap_u64 (x := m.getD k 0) (by omega) (by omega), wrap_u64m, wrap_u64m, hd]
    have t2 : ¬ k < m.length → zwrap .u64 (zsub (zwrap .u64 (l.getD k 0)) c) = d := fun h => by
      rw [hS.wrap, hS.wrap, hS.sub, wrap_u64 (x := l.getD k 0) (by omega) (by omega), wrap_u64m, hd, hout h]; omega
    have t3 : zwrap .u32 d = t % 4294967296 := by rw [hS.wrap, wrap_u32m]; exact d1
    have t4 : zshr .u64 d 63 = 1 - t / 4294967296 := by rw [show zshr .u64 d 63 = ZI.std.shr .u64 d 63 from hS.shr .., shr63 d3]; exact d2
    have e4 : k < n → zwrap .i64 (zadd (zofN k) 1) = zofN (k + 1) := fun h => by rw [hS.wrap, hS.add, hS.ofN, hS.ofN, wrap_i64 (by omega) (by omega)]; omega
    have e5 : zidx 0 (zofN k) = k := by rw [hS.idx, hS.ofN]; omega
    have e6 := zlt_nat hS.lt hS.ofN k n
    have e6' := zlt_nat hS.lt hS.ofN k m.length
    have e7 : ∀ x, zsetI .u32 (zW .u32 o) k x = zW .u32 (o.set k x) := fun x => by rw [hS.setI, hS.W, W_set]
    have e8 : k < n → zinb (zofN k) n = true := fun h => by rw [hS.inb, hS.ofN]; exact decide_eq_true (by omega)
    have e9 : k < n → zisI .u32 (zW .u32 o) k = true := fun h => by rw [hS.isI, hS.W, W_isI]; exact decide_eq_true (by omega)
    have e12 : k < n → zisI .u32 r (znat (zofN k)) = true := fun h => by rw [hS.isI, hr, hS.nat, hS.ofN, W_isI]; exact decide_eq_true (by omega)
    have e13 : k < m.length → zisI .u32 s (znat (zofN k)) = true := fun h => by rw [hS.isI, hs, hS.nat, hS.ofN, W_isI]; exact decide_eq_true (by omega)
    have e14 : zle 0 (zofN k) = true := by rw [hS.le, hS.ofN]; exact decide_eq_true (by omega)
    have e10 : zfit 0 n (zW .u32 o) = true := by rw [hS.fit, hS.W, W_len]; exact decide_eq_true (by omega)
    have e11 : zpart (zW .u32 o) 0 n = W .u32 o := by rw [hS.part, hS.W, W_part, List.drop_zero, List.take_of_length_le (by omega)]
    have hT := itrim_call (r := W .u32 o) rfl (by omega) hw
    have hend : k = n → val o = val l - val m := fun h => by
      subst h
      rw [List.take_of_length_le (by omega), List.take_of_length_le (by omega), List.take_of_length_le (by omega)] at hv
      have b1 := val_lt hw
      rw [ho] at b1
      have b7 := pow_pos' k
      rcases (show c = 0 ∨ c = 1 by omega) with rfl | rfl
      · omega
      · omega
    have hset : k < n → val ((o.set k (t % 4294967296)).take (k + 1)) = val (o.take k) + 4294967296 ^ k * (t % 4294967296) := fun h => val_take_set _ (by omega)
    have hnext : k < n → ∃ k' o' c', k' + (j - 1) = n ∧ o'.length = n ∧ Wd o' ∧ (0 ≤ c' ∧ c' ≤ 1) ∧ val (o'.take k') = val (l.take k') - val (m.take k') + c' * 4294967296 ^ k' ∧ idifSt r s (zW .u32 (o.set k (t % 4294967296))) n (1 - t / 4294967296) (zofN n) (zofN (k + 1)) = idifSt r s (zW .u32 o') n c' (zofN n) (zofN k') := fun h => by
      refine ⟨k + 1, _, _, by omega, by simpa using ho, hw.set _ (by omega) (by omega), by omega, ?_, rfl⟩
      rw [hset h, val_take_succ' l, val_take_succ' m, Int.pow_succ]
      exact hst
    have hjk : k < n → j - 1 < j := fun h => by omega
    generalize l.getD k 0 = a at *
    generalize m.getD k 0 = b at *
    have hkn : ¬ k < n → k = n := fun h => by omega
    clear hset hst hv ga gb d1 d2 d3 hd hk
    cbv
    refine ⟨fun h => ?_, fun h => ?_⟩
    all_goals rw [e6] at h
    · have h := of_decide_eq_true h
      refine nd e14 (nd (e12 h) ⟨fun h' => nd e14 (nd (e13 (by rw [h2, e6'] at h'; exact of_decide_eq_true h')) (nd (e8 h) ?_)), fun h' => nd (e8 h) ?_⟩)
      · rw [e1, e2, t1, t3, t4, e4 h, e5, e7]
        exact nd (e9 h) (again (s' := idifSt r s (zW .u32 (o.set k (t % 4294967296))) n (1 - t / 4294967296) (zofN n) (zofN (k + 1))) (m := j - 1) (by simp [leT, idifSt, mkSt, vi, vl, vnil]) (by simp [leH, idifSt, mkSt]) rfl (Nat.le_succ 2) (hjk h) (hnext h))
      · rw [h2, e6'] at h'
        rw [e1, t2 (of_decide_eq_false h'), t3, t4, e4 h, e5, e7]
        exact nd (e9 h) (again (s' := idifSt r s (zW .u32 (o.set k (t % 4294967296))) n (1 - t / 4294967296) (zofN n) (zofN (k + 1))) (m := j - 1) (by simp [leT, idifSt, mkSt, vi, vl, vnil]) (by simp [leH, idifSt, mkSt]) rfl (Nat.le_succ 2) (hjk h) (hnext h))
    · have h := of_decide_eq_false h
      rw [e11]
      refine nd e10 ⟨_, hS.call hT, ?_⟩
      rw [hend (hkn h)]
      generalize W .u32 (dg (val l - val m).toNat) = x at *
      cbv
      exact hF _ (ResLe.refl _)
end Go.Proofs.Ytgncmjcoojmccaa
end

section
set_option linter.unusedVariables false
set_option linter.unusedSimpArgs false
set_option maxHeartbeats 8000000
set_option linter.unusedVariables false
set_option linter.unusedSimpArgs false
set_option maxRecDepth 100000
namespace Go.Proofs.Ytgncmjcoojmccaa
open Go Go.Abs Go.Abs.M Go.Proofs

def iproSt (r s R : Abs.Rows) (n : Nat) (len i : Int) : St := mkSt 70 [vl r, vl s, .junk, .junk, vnil, .c (.sl 2 0 n false), .junk, .junk, .junk, .junk, .junk, .junk, .junk, .junk, .junk, .junk, .junk, .junk, vi .i64 len, vi .i64 i] [none, none, some (.rows 1 R true false)]
def ipro2St (r s R : Abs.Rows) (n : Nat) (len i x c len2 j : Int) : St := mkSt 70 [vl r, vl s, .junk, .junk, vnil, .c (.sl 2 0 n false), vi .i64 i, vi .u64 c, vi .u64 x, .junk, .junk, .junk, .junk, .junk, .junk, .junk, .junk, .junk, vi .i64 len, vi .i64 i, .junk, .junk, .junk, .junk, .junk, .junk, .junk, .junk, vi .i64 len2, vi .i64 j] [none, none, some (.rows 1 R true false)]
theorem iproduct_call {r s : Abs.Rows} {l m : List Int} (hr : r = W .u32 l) (hs : s = W .u32 m) (hl : l.length ≤ 1099511627776) (hm : m.length ≤ 1099511627776) (hlw : Wd l) (hmw : Wd m) :
    ACall Try.prog 72 [.val (tl r), .val (tl s)] ⟨[.val (tl (W .u32 (dg (val l * val m).toNat)))], [none, none]⟩ := by
  obtain ⟨n, hn⟩ : ∃ n : Nat, n = l.length + m.length := ⟨_, rfl⟩
  refine callZ ccOk mixed [.val] Try.func72 rfl rfl (by kernel_rfl) fun zwrap zadd zsub zmul zquo zrem zshl zshr zband zbor zbxor zbandn zeq zne zlt zle znot zbeq zbne zmax zmin znat zinb zofN zidx zneq znadd zdif zcut zroom zmkok zlen znth zsetr zisI zgetI zsetI zfit zpart zext zsetg zrep zwide zall zmok zmget zmset zW zth A L F hS hF => ?_
  have h1 : zlen r = l.length := by rw [hS.len, hr, W_len]
  have h2 : zlen s = m.length := by rw [hS.len, hs, W_len]
  have hN : zwrap .i64 (zadd (zofN (zlen r)) (zofN (zlen s))) = zofN n := by
    rw [h1, h2, hS.wrap, hS.add, hS.ofN, hS.ofN, hS.ofN, hn, wrap_i64 (by omega) (by omega)]; omega
  have hnn : znat (zofN n) = n := by rw [hS.nat, hS.ofN]; omega
  have hrep : zrep n [.v (.int .u32 0)] = zW .u32 (List.replicate n 0) := by rw [hS.rep, hS.W]; exact W_rep ..
  cbv
  rw [hN, hnn, hrep]
  refine nd (by rw [hS.mkok, hS.ofN]; exact decide_eq_true (by unfold capBytes; omega)) ?_
  refine loopZ ccOk mixed hS (fun (u : Nat) s' => ∃ (k : Nat) (o : List Int), k + u = l.length ∧ o.length = n ∧ Wd o ∧ val o = val (l.take k) * val m ∧ s' = iproSt r s (zW .u32 o) n (zofN l.length) (zofN k)) (n := l.length)
    (s0 := iproSt r s (zW .u32 (List.replicate n 0)) n (zofN l.length) (zofN 0)) (le_of ?_ ?_) rfl (Nat.le_succ 2) ?_ ?_
  · simp [leT, iproSt, mkSt, vi, vl, vnil, hS.ofN, h1]
  · simp [leH, iproSt, mkSt]
  · exact ⟨0, _, by omega, by simp, Wd.rep _, by rw [val_rep]; simp [val], rfl⟩
  · rintro u _ ⟨k, o, hk, ho, hw, hv, rfl⟩
    have gx := hlw.get k
    have e10 : zfit 0 n (zW .u32 o) = true := by rw [hS.fit, hS.W, W_len]; exact decide_eq_true (by omega)
    have e11 : zpart (zW .u32 o) 0 n = W .u32 o := by rw [hS.part, hS.W, W_part, List.drop_zero, List.take_of_length_le (by omega)]
    have hT := itrim_call (r := W .u32 o) rfl (by omega) hw
    have e6 := zlt_nat hS.lt hS.ofN k l.length
    have e9' : k < l.length → zisI .u32 r (znat (zofN k)) = true := fun h => by rw [hS.isI, hr, hS.nat, hS.ofN, W_isI]; exact decide_eq_true (by omega)
    have e9'' : zle 0 (zofN k) = true := by rw [hS.le, hS.ofN]; exact decide_eq_true (by omega)
    have e0 : zgetI r (znat (zofN k)) = l.getD k 0 := by rw [hS.getI, hS.nat, hS.ofN, hr, W_getI, Int.toNat_natCast]
    have ew : zwrap .u64 (l.getD k 0) = l.getD k 0 := by rw [hS.wrap, wrap_u64 (by omega) (by omega)]
    have hvk := val_take_succ' l k
    have hend : k = l.length → val o = val l * val m := fun h => by
      subst h
      rw [List.take_of_length_le (Nat.le_refl _)] at hv
      exact hv
    have htop : val o < 4294967296 ^ (k + m.length) := by
      rw [hv]
      have b := val_lt (hlw.take k)
      rw [List.length_take, Nat.min_eq_left (by omega)] at b
      exact mul_lt_pow (val_nonneg (hlw.take k)) (val_nonneg hmw) b (val_lt hmw)
    generalize hga : l.getD k 0 = x at *
    cbv
    refine ⟨fun h => ?_, fun h => ?_⟩
    all_goals rw [e6] at h
    · have h := of_decide_eq_true h
      refine nd e9'' (nd (e9' h) ?_)
      refine loopZ ccOk mixed hS (fun (u' : Nat) s' => ∃ (j : Nat) (o' : List Int) (c : Int), j + u' = m.length ∧ o'.length = n ∧ Wd o' ∧ (0 ≤ c ∧ c < 4294967296) ∧ o'.drop (k + j) = o.drop (k + j) ∧ val o' + c * 4294967296 ^ (k + j) = val o + x * 4294967296 ^ k * val (m.take j) ∧ s' = ipro2St r s (zW .u32 o') n (zofN l.length) (zofN k) x c (zofN m.length) (zofN j)) (n := m.length)
        (s0 := ipro2St r s (zW .u32 o) n (zofN l.length) (zofN k) x 0 (zofN m.length) (zofN 0)) (le_of ?_ ?_) rfl (Nat.le_succ 2) ?_ ?_
      · have e0' := e0
        rw [hS.ofN] at e0'
        simp [leT, ipro2St, mkSt, vi, vl, vnil, hS.ofN, h2, e0', ew]
      · simp [leH, ipro2St, mkSt]
      · exact ⟨0, _, 0, by omega, ho, hw, by omega, rfl, by simp [val], rfl⟩
      · rintro u' _ ⟨j, o', c, hj, ho', hw', hc, hdr, hv', rfl⟩
        have gm := hmw.get j
        have gw := hw'.get (k + j)
        have hb := mul_bound gx gm gw hc
        obtain ⟨t, ht⟩ : ∃ t, t = x * m.getD j 0 + o'.getD (k + j) 0 + c := ⟨_, rfl⟩
        have hst := mul_step hv' ht (Int.pow_add 4294967296 k j)
        have f6 := zlt_nat hS.lt hS.ofN j m.length
        have f9 : j < m.length → zisI .u32 s (znat (zofN j)) = true := fun h => by rw [hS.isI, hs, hS.nat, hS.ofN, W_isI]; exact decide_eq_true (by omega)
        have f9'' : zle 0 (zofN j) = true := by rw [hS.le, hS.ofN]; exact decide_eq_true (by omega)
        have f0 : zgetI s (znat (zofN j)) = m.getD j 0 := by rw [hS.getI, hS.nat, hS.ofN, hs, W_getI, Int.toNat_natCast]
        have f1 : j ≤ m.length → zwrap .i64 (zadd (zofN k) (zofN j)) = zofN (k + j) := fun h => by rw [hS.wrap, hS.add, hS.ofN, hS.ofN, hS.ofN, wrap_i64 (by omega) (by omega)]; omega
        have f1' : zwrap .i64 (zadd (zofN k) (zofN m.length)) = zofN (k + m.length) := by rw [hS.wrap, hS.add, hS.ofN, hS.ofN, hS.ofN, wrap_i64 (by omega) (by omega)]; omega
        have f2 : ∀ q, zidx 0 (zofN q) = q := fun q => by rw [hS.idx, hS.ofN]; omega
        have f3 : ∀ q, q < n → zinb (zofN q) n = true := fun q hq => by rw [hS.inb, hS.ofN]; exact decide_eq_true (by omega)
        have f4 : ∀ q, q < n → zisI .u32 (zW .u32 o') q = true := fun q hq => by rw [hS.isI, hS.W, W_isI]; exact decide_eq_true (by omega)
        have f5 : ∀ q, zgetI (zW .u32 o') q = o'.getD q 0 := fun q => by rw [hS.getI, hS.W, W_getI]
        have f7 : ∀ q y, zsetI .u32 (zW .u32 o') q y = zW .u32 (o'.set q y) := fun q y => by rw [hS.setI, hS.W, W_set]
        have fw1 : zwrap .u64 (m.getD j 0) = m.getD j 0 := by rw [hS.wrap, wrap_u64 (by omega) (by omega)]
        have fw2 : zwrap .u64 (o'.getD (k + j) 0) = o'.getD (k + j) 0 := by rw [hS.wrap, wrap_u64 (by omega) (by omega)]
        have f8 : zwrap .u64 (zadd (zwrap .u64 (zadd (zwrap .u64 (zmul x (m.getD j 0))) (o'.getD (k + j) 0))) c) = t := by
          rw [hS.wrap, hS.wrap, hS.wrap, hS.mul, hS.add, hS.add, wrap_u64 (x := x * m.getD j 0) (by omega) (by omega), wrap_u64 (x := x * m.getD j 0 + o'.getD (k + j) 0) (by omega) (by omega), wrap_u64 (by omega) (by omega), ht]
        have e2 : zwrap .u32 t = t % 4294967296 := by rw [hS.wrap]; exact wrap_u32m _
        have e3 : zshr .u64 t 32 = t / 4294967296 := by rw [show zshr .u64 t 32 = ZI.std.shr .u64 t 32 from hS.shr ..]; exact shr32 (by omega)
        have e3' : zwrap .u32 c = c := by rw [hS.wrap]; exact wrap_u32 (by omega) (by omega)
        have e4 : j < m.length → zwrap .i64 (zadd (zofN j) 1) = zofN (j + 1) := fun h => by rw [hS.wrap, hS.add, hS.ofN, hS.ofN, wrap_i64 (by omega) (by omega)]; omega
        have e4' : zwrap .i64 (zadd (zofN k) 1) = zofN (k + 1) := by rw [hS.wrap, hS.add, hS.ofN, hS.ofN, wrap_i64 (by omega) (by omega)]; omega
        have hset : ∀ q y, q < n → val (o'.set q y) = val o' + (y - o'.getD q 0) * 4294967296 ^ q := fun q y hq => val_set _ _ _ (by omega)
        have htz : j = m.length → o'.getD (k + j) 0 = 0 := fun hj => by
          have e : o'.getD (k + j) 0 = o.getD (k + j) 0 := by
            have := congrArg (fun y => List.getD y 0 0) hdr
            simpa [List.getD_eq_getElem?_getD] using this
          rw [e, hj]
          exact top_zero hw (by omega) htop
        have htt : 0 ≤ t := by omega
        have htb : t < 18446744073709551616 := by omega
        have hmj := val_take_succ' m j
        have hmm : j = m.length → m.take j = m := fun h => List.take_of_length_le (by omega)
        clear ht hb
        generalize hgb : m.getD j 0 = y at *
        generalize hgc : o'.getD (k + j) 0 = w at *
        cbv
        refine ⟨fun h' => ?_, fun h' => ?_⟩
        all_goals rw [f6] at h'
        · have h' := of_decide_eq_true h'
          rw [f1 (by omega), f2, f0, fw1, f5, hgc, fw2, f8, e2, e3, e4 h', f7]
          refine nd f9'' (nd (f9 h') (nd (f3 _ (by omega)) (nd (f4 _ (by omega)) (nd (f3 _ (by omega)) (nd (f4 _ (by omega)) ?_)))))
          refine again (s' := ipro2St r s (zW .u32 (o'.set (k + j) (t % 4294967296))) n (zofN l.length) (zofN k) x (t / 4294967296) (zofN m.length) (zofN (j + 1))) (m := u' - 1) (by simp [leT, ipro2St, mkSt, vi, vl, vnil]) (by simp [leH, ipro2St, mkSt]) rfl (Nat.le_succ 2) (by omega)
            ⟨_, _, _, by omega, by simpa using ho', hw'.set _ (by omega) (by omega), by omega, ?_, ?_, rfl⟩
          · rw [show k + (j + 1) = k + j + 1 by omega, drop_set_succ]
            have := congrArg (List.drop 1) hdr
            simpa [List.drop_drop] using this
          · rw [hset _ _ (by omega), hgc, show k + (j + 1) = k + j + 1 by omega, Int.pow_succ, hmj]
            exact hst
        · have h' := of_decide_eq_false h'
          have hjm : j = m.length := by omega
          rw [h2, f1', f2, e3', e4', f7]
          refine nd (f3 _ (by omega)) (nd (f4 _ (by omega)) ?_)
          refine again (s' := iproSt r s (zW .u32 (o'.set (k + m.length) c)) n (zofN l.length) (zofN (k + 1))) (m := u - 1) (by simp [leT, iproSt, mkSt, vi, vl, vnil]) (by simp [leH, iproSt, mkSt]) rfl (Nat.le_succ 2) (by omega)
            ⟨_, _, by omega, by simpa using ho', hw'.set _ (by omega) (by omega), ?_, rfl⟩
          have e := hset (k + j) c (by omega)
          rw [hgc, htz hjm] at e
          rw [hmm hjm, hv] at hv'
          rw [← hjm, e, hvk]
          clear e hgc
          generalize val (List.take k l) = p1 at *
          generalize val m = p2 at *
          generalize val o' = p3 at *
          generalize (4294967296 : Int) ^ k = p4 at *
          generalize (4294967296 : Int) ^ (k + j) = p5 at *
          grind
    · have h := of_decide_eq_false h
      rw [e11]
      refine nd e10 ⟨_, hS.call hT, ?_⟩
      rw [hend (by omega)]
      generalize W .u32 (dg (val l * val m).toNat) = z at *
      cbv
      exact hF _ (ResLe.refl _)
def idvsSt (r R : Abs.Rows) (d : Int) (len : Nat) (c i : Int) : St := mkSt 41 [vl r, vi .u64 d, .junk, .junk, vnil, vi .u64 0, .c (.sl 2 0 len false), vi .u64 c, vi .i64 i] [none, none, some (.rows 1 R true false)]
theorem idivideSmall_call {r : Abs.Rows} {l : List Int} (d q e : Int) (hr : r = W .u32 l) (hl : l.length ≤ 1099511627776) (hlw : Wd l) (hd : 0 < d) (hd2 : d < 4294967296) (hq : q = val l / d) (he : e = val l % d) :
    ACall Try.prog 86 [.val (tl r), .val (ti .u64 d)] ⟨[.val (tl (W .u32 (dg q.toNat))), .val (ti .u64 e)], [none, none]⟩ := by
  obtain ⟨n, hn⟩ : ∃ n : Nat, n = l.length := ⟨_, rfl⟩
  refine callZ ccOk mixed [.val, .val] Try.func86 rfl rfl (by kernel_rfl) fun zwrap zadd zsub zmul zquo zrem zshl zshr zband zbor zbxor zbandn zeq zne zlt zle znot zbeq zbne zmax zmin znat zinb zofN zidx zneq znadd zdif zcut zroom zmkok zlen znth zsetr zisI zgetI zsetI zfit zpart zext zsetg zrep zwide zall zmok zmget zmset zW zth A L F hS hF => ?_
  have h1 : zlen r = n := by rw [hS.len, hr, W_len, hn]
  have hnn : znat (zofN n) = n := by rw [hS.nat, hS.ofN]; omega
  have hrep : zrep n [.v (.int .u32 0)] = zW .u32 (List.replicate n 0) := by rw [hS.rep, hS.W]; exact W_rep ..
  have hi0 : zwrap .i64 (zsub (zofN n) 1) = zsub (zofN n) 1 := by rw [hS.wrap, hS.sub, hS.ofN]; exact wrap_i64 (by omega) (by omega)
  have hdz : zne d 0 = true := by rw [hS.ne]; exact decide_eq_true (by omega)
  cbv
  rw [h1, hnn, hrep, hi0]
  refine nd (by rw [hS.mkok, hS.ofN]; exact decide_eq_true (by unfold capBytes; omega)) ?_
  refine loopZ ccOk mixed hS (fun (k : Nat) s' => ∃ (o : List Int) (c : Int), k ≤ n ∧ o.length = n ∧ Wd o ∧ (0 ≤ c ∧ c < d) ∧ val (l.drop k) = d * val (o.drop k) + c ∧ s' = idvsSt r (zW .u32 o) d n c (zsub (zofN k) 1)) (n := n)
    (s0 := idvsSt r (zW .u32 (List.replicate n 0)) d n 0 (zsub (zofN n) 1)) (le_of ?_ ?_) rfl (Nat.le_succ 2) ?_ ?_
  · simp [leT, idvsSt, mkSt, vi, vl, vnil, hS.ofN]
  · simp [leH, idvsSt, mkSt]
  · refine ⟨_, 0, Nat.le_refl _, by simp, Wd.rep _, by omega, ?_, rfl⟩
    rw [List.drop_of_length_le (by omega), List.drop_of_length_le (by simp)]; simp [val]
  · rintro k _ ⟨o, c, hk, ho, hw, hc, hv, rfl⟩
    have ga := hlw.get (k - 1)
    obtain ⟨t, ht⟩ : ∃ t, t = c * 4294967296 + l.getD (k - 1) 0 := ⟨_, rfl⟩
    have hst := short_step hv ht
    have hb := short_bound hd hc ga
    rw [← ht] at hb
    have hcm : 0 ≤ c * 4294967296 ∧ c * 4294967296 ≤ 4294967294 * 4294967296 := by omega
    have hmod := Int.emod_nonneg t (show d ≠ 0 by omega)
    have hmod2 := Int.emod_lt_of_pos t hd
    have hi : zsub (zofN k) 1 = (k : Int) - 1 := by rw [hS.sub, hS.ofN]
    have hz : zle 0 (zsub (zofN k) 1) = decide (1 ≤ k) := by
      rw [hS.le, hi]
      by_cases h : 1 ≤ k
      · rw [decide_eq_true h]; exact decide_eq_true (by omega)
      · rw [decide_eq_false h]; exact decide_eq_false (by omega)
    have hnt : 1 ≤ k → znat (zsub (zofN k) 1) = k - 1 := fun h => by rw [hS.nat, hi]; omega
    have e0 : 1 ≤ k → zgetI r (znat (zsub (zofN k) 1)) = l.getD (k - 1) 0 := fun h => by rw [hS.getI, hnt h, hr, W_getI]
    have e1 : zbor .u64 (zshl .u64 c 32) (zwrap .u64 (l.getD (k - 1) 0)) = t := by
      rw [hS.wrap, wrap_u64 (x := l.getD (k - 1) 0) (by omega) (by omega), show zshl .u64 c 32 = ZI.std.shl .u64 c 32 from hS.shl .., show ∀ x y, zbor .u64 x y = ZI.std.bor .u64 x y from fun _ _ => hS.bor .., two_words hc.1 (by omega) ga.1 ga.2, ht]
    have e2 : zwrap .u32 (zwrap .u64 (zquo t d)) = t / d := by rw [hS.quo, Int.tdiv_eq_ediv_of_nonneg (by omega), hS.wrap, hS.wrap, wrap_u64 (x := t / d) (by omega) (by omega)]; exact wrap_u32 (by omega) (by omega)
    have e3 : zrem t d = t % d := by rw [hS.rem, Int.tmod_eq_emod_of_nonneg (by omega)]
    have e4 : 1 ≤ k → zwrap .i64 (zsub (zsub (zofN k) 1) 1) = zsub (zofN (k - 1)) 1 := fun h => by rw [hi, hS.wrap, hS.sub, hS.sub, hS.ofN, wrap_i64 (by omega) (by omega)]; omega
    have e5 : 1 ≤ k → zidx 0 (zsub (zofN k) 1) = k - 1 := fun h => by rw [hS.idx, hi]; omega
    have e7 : ∀ x, zsetI .u32 (zW .u32 o) (k - 1) x = zW .u32 (o.set (k - 1) x) := fun x => by rw [hS.setI, hS.W, W_set]
    have e8 : 1 ≤ k → zinb (zsub (zofN k) 1) n = true := fun h => by rw [hS.inb, hi]; exact decide_eq_true (by omega)
    have e9 : 1 ≤ k → zisI .u32 (zW .u32 o) (k - 1) = true := fun h => by rw [hS.isI, hS.W, W_isI]; exact decide_eq_true (by omega)
    have e9' : 1 ≤ k → zisI .u32 r (znat (zsub (zofN k) 1)) = true := fun h => by rw [hS.isI, hr, hnt h, W_isI]; exact decide_eq_true (by omega)
    have e10 : zfit 0 n (zW .u32 o) = true := by rw [hS.fit, hS.W, W_len]; exact decide_eq_true (by omega)
    have e11 : zpart (zW .u32 o) 0 n = W .u32 o := by rw [hS.part, hS.W, W_part, List.drop_zero, List.take_of_length_le (by omega)]
    have hT := itrim_call (r := W .u32 o) rfl (by omega) hw
    have hend : k = 0 → val o = q ∧ c = e := fun h => by
      subst h
      simp only [List.drop_zero] at hv
      rw [hq, he, hv]
      exact ⟨by rw [Int.add_comm, Int.add_mul_ediv_left _ _ (by omega), Int.ediv_eq_zero_of_lt hc.1 hc.2, Int.zero_add], by rw [Int.add_comm, Int.add_mul_emod_self_left, Int.emod_eq_of_lt hc.1 hc.2]⟩
    have hset : 1 ≤ k → val (l.drop (k - 1)) = d * val ((o.set (k - 1) (t / d)).drop (k - 1)) + t % d := fun h => by
      rw [val_drop_succ (l := l) (by omega), val_drop_succ (l := o.set (k - 1) (t / d)) (by simp; omega), getD_set_self _ (by omega), drop_set_succ, show k - 1 + 1 = k by omega]
      exact hst
    generalize hga : l.getD (k - 1) 0 = a at *
    cbv
    refine ⟨fun h => ?_, fun h => ?_⟩
    · have a1 := h
      rw [hz] at h
      have h := of_decide_eq_true h
      refine nd a1 (nd (e9' h) ?_)
      rw [e0 h, e1, e2, e3, e4 h, e5 h, e7]
      refine nd hdz (nd (e8 h) (nd (e9 h) (nd hdz ?_)))
      refine again (s' := idvsSt r (zW .u32 (o.set (k - 1) (t / d))) d n (t % d) (zsub (zofN (k - 1)) 1)) (m := k - 1) (by simp [leT, idvsSt, mkSt, vi, vl, vnil]) (by simp [leH, idvsSt, mkSt]) rfl (Nat.le_succ 2) (by omega) ⟨_, _, by omega, by simpa using ho, hw.set _ (by omega) (by omega), by omega, hset h, rfl⟩
    · rw [hz] at h
      have h := of_decide_eq_false h
      rw [e11]
      obtain ⟨z1, z2⟩ := hend (by omega)
      refine nd e10 ⟨_, hS.call hT, ?_⟩
      rw [z1]
      generalize W .u32 (dg q.toNat) = x at *
      cbv
      exact fin2 hF rfl (tv_int z2)

end Go.Proofs.Ytgncmjcoojmccaa
end

section
set_option linter.unusedVariables false
set_option linter.unusedSimpArgs false
set_option maxHeartbeats 8000000
set_option linter.unusedVariables false
set_option linter.unusedSimpArgs false
set_option maxRecDepth 100000
namespace Go.Proofs.Ytgncmjcoojmccaa
open Go Go.Abs Go.Abs.M Go.Proofs

theorem cast_pow2 (s : Nat) : ((2 ^ s : Nat) : Int) = 2 ^ s := by simp
theorem pow2_pos (s : Nat) : (0 : Int) < 2 ^ s := Int.pow_pos (by omega)
theorem pow2_le {s : Nat} (h : s < 32) : (2 : Int) ^ s ≤ 2147483648 := by
  have : 2 ^ s ≤ 2 ^ 31 := Nat.pow_le_pow_right (by omega) (by omega)
  rw [← cast_pow2]; omega

theorem shl_up {a c t : Int} {s : Nat} (hs : s < 32) (ha : 0 ≤ a ∧ a < 4294967296) (hc : 0 ≤ c ∧ c < 2 ^ s) (ht : t = a * 2 ^ s + c) : (0 ≤ a * 2 ^ s ∧ a * 2 ^ s < 18446744073709551616) ∧ (0 ≤ t ∧ t < 18446744073709551616) ∧ 0 ≤ t / 4294967296 ∧ t / 4294967296 < 2 ^ s := by
  have hp := pow2_pos s
  have hq := pow2_le hs
  have h1 : 0 ≤ a * 2 ^ s := Int.mul_nonneg ha.1 (by omega)
  have h2 : a * 2 ^ s ≤ 4294967295 * 2 ^ s := Int.mul_le_mul_of_nonneg_right (by omega) (by omega)
  refine ⟨by omega, by omega, Int.ediv_nonneg (by omega) (by omega), Int.ediv_lt_of_lt_mul (by omega) (by omega)⟩

theorem shl_step {t vo vl a c p : Int} {e : Int} (h : vo + c * p = e * vl) (ht : t = a * e + c) : vo + p * (t % 4294967296) + t / 4294967296 * (p * 4294967296) = e * (vl + p * a) := by
  have := Int.emod_add_mul_ediv t 4294967296
  have e1 : t % 4294967296 = t - 4294967296 * (t / 4294967296) := by omega
  rw [e1, ht]
  generalize (a * e + c) / 4294967296 = z at *
  clear this e1 ht
  grind

def ishlSt (r R : Abs.Rows) (s : Int) (n : Nat) (c len i : Int) : St := mkSt 42 [vl r, vi .i64 s, .junk, .junk, vnil, .c (.sl 2 0 n false), vi .u64 c, .junk, .junk, .junk, .junk, .junk, .junk, .junk, vi .i64 len, vi .i64 i] [none, none, some (.rows 1 R true false)]


theorem ishiftLeft_call {r : Abs.Rows} {l : List Int} (s : Nat) (hr : r = W .u32 l) (hl : l.length ≤ 1099511627776) (hlw : Wd l) (hs : s < 32) :
    ACall Try.prog 88 [.val (tl r), .val (ti .i64 (s : Int))] ⟨[.val (tl (W .u32 (wds (l.length + 1) (2 ^ s * val l))))], [none, none]⟩ := by
  obtain ⟨N, hN⟩ : ∃ N : Nat, N = l.length := ⟨_, rfl⟩
  obtain ⟨n, hn⟩ : ∃ n : Nat, n = N + 1 := ⟨_, rfl⟩
  have hcap : (n : Int) * 4 ≤ 70368744177664 := by omega
  rw [← hN, ← hn]
  obtain ⟨S, hS0⟩ : ∃ S : Int, S = (s : Int) := ⟨_, rfl⟩
  rw [← hS0]
  refine callZ ccOk mixed [.val] Try.func88 rfl rfl (by kernel_rfl) fun zwrap zadd zsub zmul zquo zrem zshl zshr zband zbor zbxor zbandn zeq zne zlt zle znot zbeq zbne zmax zmin znat zinb zofN zidx zneq znadd zdif zcut zroom zmkok zlen znth zsetr zisI zgetI zsetI zfit zpart zext zsetg zrep zwide zall zmok zmget zmset zW zth A L F hS hF => ?_
  have h1 : zlen r = N := by rw [hS.len, hr, W_len, hN]
  have hn1 : zwrap .i64 (zadd (zofN (zlen r)) 1) = zofN n := by rw [h1, hS.ofN, hS.ofN, hS.add, hS.wrap, wrap_i64 (by omega) (by omega)]; omega
  have hnn : znat (zofN n) = n := by rw [hS.nat, hS.ofN]; omega
  have hrep : zrep n [.v (.int .u32 0)] = zW .u32 (List.replicate n 0) := by rw [hS.rep, hS.W]; exact W_rep ..
  have L2 := zlt_nat hS.lt hS.ofN
  have hs0 : zle 0 S = true := by rw [hS.le]; exact decide_eq_true (by omega)
  have A1 : ∀ (k : Nat) (o : List Int) (c : Int), o.length = n → Wd o → (0 ≤ c ∧ c < 2 ^ s) → val (o.take k) + c * 4294967296 ^ k = 2 ^ s * val (l.take k) → k < N → ∃ (t : Int) (k1 : Nat), zgetI r (znat (zofN k)) = l.getD k 0 ∧ zbor .u64 (zshl .u64 (zwrap .u64 (l.getD k 0)) S) c = t ∧ zwrap .u32 t = t % 4294967296 ∧ zshr .u64 t 32 = t / 4294967296 ∧
      zwrap .i64 (zadd (zofN k) 1) = zofN k1 ∧ zidx 0 (zofN k) = k ∧ (∀ x, zsetI .u32 (zW .u32 o) k x = zW .u32 (o.set k x)) ∧ zinb (zofN k) n = true ∧ zisI .u32 (zW .u32 o) k = true ∧ zisI .u32 r (znat (zofN k)) = true ∧ zle 0 (zofN k) = true ∧ k1 = k + 1 ∧
      (o.set k (t % 4294967296)).length = n ∧ Wd (o.set k (t % 4294967296)) ∧ (0 ≤ t / 4294967296 ∧ t / 4294967296 < 2 ^ s) ∧ val ((o.set k (t % 4294967296)).take k1) + t / 4294967296 * 4294967296 ^ k1 = 2 ^ s * val (l.take k1) := fun k o c ho hw hc hv hk => by
    have ga := hlw.get k
    obtain ⟨t, ht⟩ : ∃ t, t = l.getD k 0 * 2 ^ s + c := ⟨_, rfl⟩
    obtain ⟨b1, b2, b3⟩ := shl_up hs ga hc ht
    have hst := shl_step hv ht
    refine ⟨t, k + 1, by rw [hS.getI, hS.nat, hS.ofN, hr, W_getI, Int.toNat_natCast], ?_, by rw [hS.wrap, wrap_u32m], ?_, ?_, by rw [hS.idx, hS.ofN]; omega, fun x => by rw [hS.setI, hS.W, W_set], ?_, ?_, ?_, ?_, rfl, by simpa using ho, hw.set _ (by omega) (by omega), b3, ?_⟩
    · rw [hS.wrap, wrap_u64 (by omega) (by omega), show ∀ x, zshl .u64 x S = ZI.std.shl .u64 x S from fun _ => hS.shl .., shl_std s hS0 (by show s ≤ 64; omega), wrap_u64 b1.1 b1.2, show ∀ x y, zbor .u64 x y = ZI.std.bor .u64 x y from fun _ _ => hS.bor .., bor_hi s ga.1 hc.1 hc.2 (by omega), ht]
    · rw [show ∀ x, zshr .u64 x 32 = ZI.std.shr .u64 x 32 from fun _ => hS.shr ..]; exact shr32 b2.1
    · rw [hS.wrap, hS.add, hS.ofN, hS.ofN, wrap_i64 (by omega) (by omega)]; omega
    · rw [hS.inb, hS.ofN]; exact decide_eq_true (by omega)
    · rw [hS.isI, hS.W, W_isI]; exact decide_eq_true (by omega)
    · rw [hS.isI, hr, hS.nat, hS.ofN, W_isI]; exact decide_eq_true (by omega)
    · rw [hS.le, hS.ofN]; exact decide_eq_true (by omega)
    · rw [val_take_set _ (by omega), val_take_succ' l, Int.pow_succ]; exact hst
  have A2 : ∀ (o : List Int) (c : Int), o.length = n → Wd o → (0 ≤ c ∧ c < 2 ^ s) → val (o.take N) + c * 4294967296 ^ N = 2 ^ s * val (l.take N) → zidx 0 (zofN (zlen r)) = N ∧ zwrap .u32 c = c ∧ zsetI .u32 (zW .u32 o) N c = zW .u32 (o.set N c) ∧ zinb (zofN (zlen r)) n = true ∧ zisI .u32 (zW .u32 o) N = true ∧ zfit 0 n (zW .u32 (o.set N c)) = true ∧
      zpart (zW .u32 (o.set N c)) 0 n = W .u32 (wds n (2 ^ s * val l)) ∧ zW .u32 (o.set N c) = W .u32 (wds n (2 ^ s * val l)) ∧ zneq n (zlen (W .u32 (wds n (2 ^ s * val l)))) = true := fun o c ho hw hc hv => by
    have hq := pow2_le hs
    refine ⟨by rw [hS.idx, hS.ofN, h1]; omega, by rw [hS.wrap]; exact wrap_u32 hc.1 (by omega), by rw [hS.setI, hS.W, W_set], by rw [hS.inb, hS.ofN, h1]; exact decide_eq_true (by omega), by rw [hS.isI, hS.W, W_isI]; exact decide_eq_true (by omega), by rw [hS.fit, hS.W, W_len]; exact decide_eq_true (by simp; omega), ?_, ?_, by rw [hS.neq, hS.len, W_len, wds_length]; exact decide_eq_true rfl⟩
    all_goals have a1 := val_take_set (l := o) (k := N) c (by omega)
    all_goals rw [List.take_of_length_le (by simp; omega)] at a1
    all_goals rw [List.take_of_length_le (l := l) (by omega)] at hv
    · rw [hS.part, hS.W, W_part, List.drop_zero, List.take_of_length_le (by simp; omega)]
      congr 1
      exact wds_of (b := 0) (hw.set N hc.1 (by omega)) (by simpa using ho) (by rw [a1, ← hv]; grind)
    · rw [hS.W]
      congr 1
      exact wds_of (b := 0) (hw.set N hc.1 (by omega)) (by simpa using ho) (by rw [a1, ← hv]; grind)
  cbv
  rw [hn1, hnn, hrep]
  refine nd (by rw [hS.mkok, hS.ofN]; exact decide_eq_true ⟨Int.natCast_nonneg n, Int.le_refl _, by unfold capBytes; omega⟩) ?_
  refine loopZ ccOk mixed hS (fun (j : Nat) s' => ∃ (k : Nat) (o : List Int) (c : Int), k + j = N ∧ (o.length = n ∧ Wd o ∧ (0 ≤ c ∧ c < 2 ^ s) ∧ val (o.take k) + c * 4294967296 ^ k = 2 ^ s * val (l.take k)) ∧ s' = ishlSt r (zW .u32 o) S n c (zofN N) (zofN k)) (n := N)
    (s0 := ishlSt r (zW .u32 (List.replicate n 0)) S n 0 (zofN N) (zofN 0)) (le_of ?_ ?_) rfl (Nat.le_succ 2) ?_ ?_
  · simp [leT, ishlSt, mkSt, vi, vl, vnil, hS.ofN, h1]
  · simp [leH, ishlSt, mkSt]
  · exact ⟨0, _, 0, by omega, ⟨by simp, Wd.rep _, ⟨by omega, pow2_pos s⟩, by simp [val]⟩, rfl⟩
  · rintro j _ ⟨k, o, c, hk, ⟨ho, hw, hc, hv⟩, rfl⟩
    rcases Nat.lt_or_ge k N with hkn | hkn
    · obtain ⟨t, k1, E1, E2, E3, E4, E5, E6, E7, E8, E9, E10, E11, hk1, I1, I2, I3, I4⟩ := A1 k o c ho hw hc hv hkn
      have e6 : zlt (zofN k) (zofN N) = true := (L2 k N).trans (decide_eq_true hkn)
      have hj : k1 + (j - 1) = N ∧ j - 1 < j := by clear A1 A2; omega
      generalize l.getD k 0 = a at E1 E2
      clear A1 A2 hc hv
      cbv
      refine bT e6 ?_
      rw [E1, E2, E3, E4, E5, E6, E7]
      refine nd E11 (nd E10 (nd hs0 (nd E8 (nd E9 ?_))))
      exact again (s' := ishlSt r (zW .u32 (o.set k (t % 4294967296))) S n (t / 4294967296) (zofN N) (zofN k1)) (m := j - 1) (by simp [leT, ishlSt, mkSt, vi, vl, vnil]) (by simp [leH, ishlSt, mkSt]) rfl (Nat.le_succ 2) hj.2 ⟨k1, _, _, hj.1, ⟨I1, I2, I3, I4⟩, rfl⟩
    · obtain rfl : k = N := by clear A1 A2; omega
      obtain ⟨E1, E2, E3, E4, E5, E6, E7, E8, E9⟩ := A2 o c ho hw hc hv
      have e6 : zlt (zofN k) (zofN k) = false := (L2 k k).trans (decide_eq_false (Nat.lt_irrefl k))
      clear A1 A2 hc hv
      generalize wds n (2 ^ s * val l) = fin at *
      cbv
      refine bF e6 ?_
      rw [E1, E2, E3, E7]; exact nd E4 (nd E5 (nd E6 (hF _ (ResLe.refl _))))

theorem ishiftLeft_own {r : Abs.Rows} {l : List Int} (s : Nat) (hr : r = W .u32 l) (hl : l.length ≤ 1099511627776) (hlw : Wd l) (hs : s < 32) :
    ACall Try.prog 88 [.val (tl r), .val (ti .i64 (s : Int))] ⟨[.own 1 (W .u32 (wds (l.length + 1) (2 ^ s * val l)))], [none, none]⟩ := by
  obtain ⟨N, hN⟩ : ∃ N : Nat, N = l.length := ⟨_, rfl⟩
  obtain ⟨n, hn⟩ : ∃ n : Nat, n = N + 1 := ⟨_, rfl⟩
  have hcap : (n : Int) * 4 ≤ 70368744177664 := by omega
  rw [← hN, ← hn]
  obtain ⟨S, hS0⟩ : ∃ S : Int, S = (s : Int) := ⟨_, rfl⟩
  rw [← hS0]
  refine callZ ccOk mixed [.own 1] Try.func88 rfl rfl (by kernel_rfl) fun zwrap zadd zsub zmul zquo zrem zshl zshr zband zbor zbxor zbandn zeq zne zlt zle znot zbeq zbne zmax zmin znat zinb zofN zidx zneq znadd zdif zcut zroom zmkok zlen znth zsetr zisI zgetI zsetI zfit zpart zext zsetg zrep zwide zall zmok zmget zmset zW zth A L F hS hF => ?_
  have h1 : zlen r = N := by rw [hS.len, hr, W_len, hN]
  have hn1 : zwrap .i64 (zadd (zofN (zlen r)) 1) = zofN n := by rw [h1, hS.ofN, hS.ofN, hS.add, hS.wrap, wrap_i64 (by omega) (by omega)]; omega
  have hnn : znat (zofN n) = n := by rw [hS.nat, hS.ofN]; omega
  have hrep : zrep n [.v (.int .u32 0)] = zW .u32 (List.replicate n 0) := by rw [hS.rep, hS.W]; exact W_rep ..
  have L2 := zlt_nat hS.lt hS.ofN
  have hs0 : zle 0 S = true := by rw [hS.le]; exact decide_eq_true (by omega)
  have A1 : ∀ (k : Nat) (o : List Int) (c : Int), o.length = n → Wd o → (0 ≤ c ∧ c < 2 ^ s) → val (o.take k) + c * 4294967296 ^ k = 2 ^ s * val (l.take k) → k < N → ∃ (t : Int) (k1 : Nat), zgetI r (znat (zofN k)) = l.getD k 0 ∧ zbor .u64 (zshl .u64 (zwrap .u64 (l.getD k 0)) S) c = t ∧ zwrap .u32 t = t % 4294967296 ∧ zshr .u64 t 32 = t / 4294967296 ∧
      zwrap .i64 (zadd (zofN k) 1) = zofN k1 ∧ zidx 0 (zofN k) = k ∧ (∀ x, zsetI .u32 (zW .u32 o) k x = zW .u32 (o.set k x)) ∧ zinb (zofN k) n = true ∧ zisI .u32 (zW .u32 o) k = true ∧ zisI .u32 r (znat (zofN k)) = true ∧ zle 0 (zofN k) = true ∧ k1 = k + 1 ∧
      (o.set k (t % 4294967296)).length = n ∧ Wd (o.set k (t % 4294967296)) ∧ (0 ≤ t / 4294967296 ∧ t / 4294967296 < 2 ^ s) ∧ val ((o.set k (t % 4294967296)).take k1) + t / 4294967296 * 4294967296 ^ k1 = 2 ^ s * val (l.take k1) := fun k o c ho hw hc hv hk => by
    have ga := hlw.get k
    obtain ⟨t, ht⟩ : ∃ t, t = l.getD k 0 * 2 ^ s + c := ⟨_, rfl⟩
    obtain ⟨b1, b2, b3⟩ := shl_up hs ga hc ht
    have hst := shl_step hv ht
    refine ⟨t, k + 1, by rw [hS.getI, hS.nat, hS.ofN, hr, W_getI, Int.toNat_natCast], ?_, by rw [hS.wrap, wrap_u32m], ?_, ?_, by rw [hS.idx, hS.ofN]; omega, fun x => by rw [hS.setI, hS.W, W_set], ?_, ?_, ?_, ?_, rfl, by simpa using ho, hw.set _ (by omega) (by omega), b3, ?_⟩
    · rw [hS.wrap, wrap_u64 (by omega) (by omega), show ∀ x, zshl .u64 x S = ZI.std.shl .u64 x S from fun _ => hS.shl .., shl_std s hS0 (by show s ≤ 64; omega), wrap_u64 b1.1 b1.2, show ∀ x y, zbor .u64 x y = ZI.std.bor .u64 x y from fun _ _ => hS.bor .., bor_hi s ga.1 hc.1 hc.2 (by omega), ht]
    · rw [show ∀ x, zshr .u64 x 32 = ZI.std.shr .u64 x 32 from fun _ => hS.shr ..]; exact shr32 b2.1
    · rw [hS.wrap, hS.add, hS.ofN, hS.ofN, wrap_i64 (by omega) (by omega)]; omega
    · rw [hS.inb, hS.ofN]; exact decide_eq_true (by omega)
    · rw [hS.isI, hS.W, W_isI]; exact decide_eq_true (by omega)
    · rw [hS.isI, hr, hS.nat, hS.ofN, W_isI]; exact decide_eq_true (by omega)
    · rw [hS.le, hS.ofN]; exact decide_eq_true (by omega)
    · rw [val_take_set _ (by omega), val_take_succ' l, Int.pow_succ]; exact hst
  have A2 : ∀ (o : List Int) (c : Int), o.length = n → Wd o → (0 ≤ c ∧ c < 2 ^ s) → val (o.take N) + c * 4294967296 ^ N = 2 ^ s * val (l.take N) → zidx 0 (zofN (zlen r)) = N ∧ zwrap .u32 c = c ∧ zsetI .u32 (zW .u32 o) N c = zW .u32 (o.set N c) ∧ zinb (zofN (zlen r)) n = true ∧ zisI .u32 (zW .u32 o) N = true ∧ zfit 0 n (zW .u32 (o.set N c)) = true ∧
      zpart (zW .u32 (o.set N c)) 0 n = W .u32 (wds n (2 ^ s * val l)) ∧ zW .u32 (o.set N c) = W .u32 (wds n (2 ^ s * val l)) ∧ zneq n (zlen (W .u32 (wds n (2 ^ s * val l)))) = true := fun o c ho hw hc hv => by
    have hq := pow2_le hs
    refine ⟨by rw [hS.idx, hS.ofN, h1]; omega, by rw [hS.wrap]; exact wrap_u32 hc.1 (by omega), by rw [hS.setI, hS.W, W_set], by rw [hS.inb, hS.ofN, h1]; exact decide_eq_true (by omega), by rw [hS.isI, hS.W, W_isI]; exact decide_eq_true (by omega), by rw [hS.fit, hS.W, W_len]; exact decide_eq_true (by simp; omega), ?_, ?_, by rw [hS.neq, hS.len, W_len, wds_length]; exact decide_eq_true rfl⟩
    all_goals have a1 := val_take_set (l := o) (k := N) c (by omega)
    all_goals rw [List.take_of_length_le (by simp; omega)] at a1
    all_goals rw [List.take_of_length_le (l := l) (by omega)] at hv
    · rw [hS.part, hS.W, W_part, List.drop_zero, List.take_of_length_le (by simp; omega)]
      congr 1
      exact wds_of (b := 0) (hw.set N hc.1 (by omega)) (by simpa using ho) (by rw [a1, ← hv]; grind)
    · rw [hS.W]
      congr 1
      exact wds_of (b := 0) (hw.set N hc.1 (by omega)) (by simpa using ho) (by rw [a1, ← hv]; grind)
  cbv
  rw [hn1, hnn, hrep]
  refine nd (by rw [hS.mkok, hS.ofN]; exact decide_eq_true ⟨Int.natCast_nonneg n, Int.le_refl _, by unfold capBytes; omega⟩) ?_
  refine loopZ ccOk mixed hS (fun (j : Nat) s' => ∃ (k : Nat) (o : List Int) (c : Int), k + j = N ∧ (o.length = n ∧ Wd o ∧ (0 ≤ c ∧ c < 2 ^ s) ∧ val (o.take k) + c * 4294967296 ^ k = 2 ^ s * val (l.take k)) ∧ s' = ishlSt r (zW .u32 o) S n c (zofN N) (zofN k)) (n := N)
    (s0 := ishlSt r (zW .u32 (List.replicate n 0)) S n 0 (zofN N) (zofN 0)) (le_of ?_ ?_) rfl (Nat.le_succ 2) ?_ ?_
  · simp [leT, ishlSt, mkSt, vi, vl, vnil, hS.ofN, h1]
  · simp [leH, ishlSt, mkSt]
  · exact ⟨0, _, 0, by omega, ⟨by simp, Wd.rep _, ⟨by omega, pow2_pos s⟩, by simp [val]⟩, rfl⟩
  · rintro j _ ⟨k, o, c, hk, ⟨ho, hw, hc, hv⟩, rfl⟩
    rcases Nat.lt_or_ge k N with hkn | hkn
    · obtain ⟨t, k1, E1, E2, E3, E4, E5, E6, E7, E8, E9, E10, E11, hk1, I1, I2, I3, I4⟩ := A1 k o c ho hw hc hv hkn
      have e6 : zlt (zofN k) (zofN N) = true := (L2 k N).trans (decide_eq_true hkn)
      have hj : k1 + (j - 1) = N ∧ j - 1 < j := by clear A1 A2; omega
      generalize l.getD k 0 = a at E1 E2
      clear A1 A2 hc hv
      cbv
      refine bT e6 ?_
      rw [E1, E2, E3, E4, E5, E6, E7]
      refine nd E11 (nd E10 (nd hs0 (nd E8 (nd E9 ?_))))
      exact again (s' := ishlSt r (zW .u32 (o.set k (t % 4294967296))) S n (t / 4294967296) (zofN N) (zofN k1)) (m := j - 1) (by simp [leT, ishlSt, mkSt, vi, vl, vnil]) (by simp [leH, ishlSt, mkSt]) rfl (Nat.le_succ 2) hj.2 ⟨k1, _, _, hj.1, ⟨I1, I2, I3, I4⟩, rfl⟩
    · obtain rfl : k = N := by clear A1 A2; omega
      obtain ⟨E1, E2, E3, E4, E5, E6, E7, E8, E9⟩ := A2 o c ho hw hc hv
      have e6 : zlt (zofN k) (zofN k) = false := (L2 k k).trans (decide_eq_false (Nat.lt_irrefl k))
      clear A1 A2 hc hv
      generalize wds n (2 ^ s * val l) = fin at *
      cbv
      refine bF e6 ?_
      rw [E1, E2, E3, E8]; exact nd E4 (nd E5 (nd E9 (hF _ (ResLe.refl _))))

/-! Down. -/
theorem mask_std {t : Int} (s : Nat) (hs : s < 32) (h0 : 0 ≤ t) (h1 : t < 18446744073709551616) : ZI.std.band .u64 t (2 ^ s - 1) = t % 2 ^ s := by
  obtain ⟨x, rfl⟩ := Int.eq_ofNat_of_zero_le h0
  have hp : 0 < 2 ^ s := Nat.two_pow_pos s
  have hq : 2 ^ s ≤ 2 ^ 31 := Nat.pow_le_pow_right (by omega) (by omega)
  have e : (2 : Int) ^ s - 1 = ((2 ^ s - 1 : Nat) : Int) := by rw [← cast_pow2]; omega
  rw [e, band_u64 (by omega) (by omega), Nat.and_two_pow_sub_one_eq_mod, Int.natCast_emod, cast_pow2]

def ishrSt (r R : Abs.Rows) (s : Int) (n : Nat) (c i : Int) : St := mkSt 41 [vl r, vi .i64 s, .junk, .junk, vnil, .c (.sl 2 0 n false), vi .u64 c, vi .i64 i] [none, none, some (.rows 1 R true false)]

theorem ishiftRight_call {r : Abs.Rows} {l : List Int} (s : Nat) (hr : r = W .u32 l) (hl : l.length ≤ 1099511627776) (hlw : Wd l) (hs : s < 32) :
    ACall Try.prog 90 [.val (tl r), .val (ti .i64 (s : Int))] ⟨[.val (tl (W .u32 (dg (val l / 2 ^ s).toNat)))], [none, none]⟩ := by
  obtain ⟨n, hn⟩ : ∃ n : Nat, n = l.length := ⟨_, rfl⟩
  have hcap : (n : Int) * 4 ≤ 70368744177664 := by omega
  obtain ⟨S, hS0⟩ : ∃ S : Int, S = (s : Int) := ⟨_, rfl⟩
  obtain ⟨q, hq⟩ : ∃ q, q = val l / 2 ^ s := ⟨_, rfl⟩
  rw [← hS0, ← hq]
  have hp := pow2_pos s
  have hp2 := pow2_le hs
  refine callZ ccOk mixed [.val] Try.func90 rfl rfl (by kernel_rfl) fun zwrap zadd zsub zmul zquo zrem zshl zshr zband zbor zbxor zbandn zeq zne zlt zle znot zbeq zbne zmax zmin znat zinb zofN zidx zneq znadd zdif zcut zroom zmkok zlen znth zsetr zisI zgetI zsetI zfit zpart zext zsetg zrep zwide zall zmok zmget zmset zW zth A L F hS hF => ?_
  have h1 : zlen r = n := by rw [hS.len, hr, W_len, hn]
  have hnn : znat (zofN n) = n := by rw [hS.nat, hS.ofN]; omega
  have hrep : zrep n [.v (.int .u32 0)] = zW .u32 (List.replicate n 0) := by rw [hS.rep, hS.W]; exact W_rep ..
  have hi0 : zwrap .i64 (zsub (zofN n) 1) = zsub (zofN n) 1 := by rw [hS.wrap, hS.sub, hS.ofN]; exact wrap_i64 (by omega) (by omega)
  have hs0 : zle 0 S = true := by rw [hS.le]; exact decide_eq_true (by omega)
  have hmask : zwrap .u64 (zsub (zshl .u64 1 S) 1) = 2 ^ s - 1 := by
    rw [show ∀ x, zshl .u64 x S = ZI.std.shl .u64 x S from fun _ => hS.shl .., shl_std s hS0 (by show s ≤ 64; omega), Int.one_mul, wrap_u64 (by omega) (by omega), hS.sub, hS.wrap, wrap_u64 (by omega) (by omega)]
  obtain ⟨M, hM⟩ : ∃ M : Int, M = 2 ^ s - 1 := ⟨_, rfl⟩
  rw [← hM] at hmask
  have A1 : ∀ (k : Nat) (o : List Int) (c : Int), k ≤ n → o.length = n → Wd o → (0 ≤ c ∧ c < 2 ^ s) → val (l.drop k) = 2 ^ s * val (o.drop k) + c → 1 ≤ k → ∃ (t q e : Int), zgetI r (znat (zsub (zofN k) 1)) = l.getD (k - 1) 0 ∧ zbor .u64 (zshl .u64 c 32) (zwrap .u64 (l.getD (k - 1) 0)) = t ∧ zshr .u64 t S = q ∧ zwrap .u32 q = q ∧ zband .u64 t M = e ∧
      zwrap .i64 (zsub (zsub (zofN k) 1) 1) = zsub (zofN (k - 1)) 1 ∧ zidx 0 (zsub (zofN k) 1) = k - 1 ∧ (∀ x, zsetI .u32 (zW .u32 o) (k - 1) x = zW .u32 (o.set (k - 1) x)) ∧ zinb (zsub (zofN k) 1) n = true ∧ zisI .u32 (zW .u32 o) (k - 1) = true ∧ zisI .u32 r (znat (zsub (zofN k) 1)) = true ∧ zle 0 (zsub (zofN k) 1) = true ∧
      k - 1 ≤ n ∧ (o.set (k - 1) q).length = n ∧ Wd (o.set (k - 1) q) ∧ (0 ≤ e ∧ e < 2 ^ s) ∧ val (l.drop (k - 1)) = 2 ^ s * val ((o.set (k - 1) q).drop (k - 1)) + e := fun k o c hk ho hw hc hv h => by
    have ga := hlw.get (k - 1)
    obtain ⟨t, ht⟩ : ∃ t, t = c * 4294967296 + l.getD (k - 1) 0 := ⟨_, rfl⟩
    have hst := short_step hv ht
    have hb := short_bound hp hc ga
    rw [← ht] at hb
    have hmod := Int.emod_nonneg t (show (2 : Int) ^ s ≠ 0 by omega)
    have hmod2 := Int.emod_lt_of_pos t hp
    have hi : zsub (zofN k) 1 = (k : Int) - 1 := by rw [hS.sub, hS.ofN]
    have hnt : znat (zsub (zofN k) 1) = k - 1 := by rw [hS.nat, hi]; omega
    have htb : 0 ≤ t ∧ t < 18446744073709551616 := by omega
    refine ⟨t, t / 2 ^ s, t % 2 ^ s, by rw [hS.getI, hnt, hr, W_getI], ?_, ?_, ?_, ?_, ?_, ?_, fun x => by rw [hS.setI, hS.W, W_set], ?_, ?_, ?_, ?_, by omega, by simpa using ho, hw.set _ hb.1 hb.2, ⟨hmod, hmod2⟩, ?_⟩
    · rw [hS.wrap, wrap_u64 (x := l.getD (k - 1) 0) (by omega) (by omega), show zshl .u64 c 32 = ZI.std.shl .u64 c 32 from hS.shl .., show ∀ x y, zbor .u64 x y = ZI.std.bor .u64 x y from fun _ _ => hS.bor .., two_words hc.1 (by omega) ga.1 ga.2, ht]
    · rw [show ∀ x, zshr .u64 x S = ZI.std.shr .u64 x S from fun _ => hS.shr .., shr_std s hS0 (by show s ≤ 64; omega) htb.1]
    · rw [hS.wrap]; exact wrap_u32 hb.1 (by omega)
    · rw [show ∀ x y, zband .u64 x y = ZI.std.band .u64 x y from fun _ _ => hS.band .., hM, mask_std s hs htb.1 htb.2]
    · rw [hi, hS.wrap, hS.sub, hS.sub, hS.ofN, wrap_i64 (by omega) (by omega)]; omega
    · rw [hS.idx, hi]; omega
    · rw [hS.inb, hi]; exact decide_eq_true (by omega)
    · rw [hS.isI, hS.W, W_isI]; exact decide_eq_true (by omega)
    · rw [hS.isI, hr, hnt, W_isI]; exact decide_eq_true (by omega)
    · rw [hS.le, hi]; exact decide_eq_true (by omega)
    · rw [val_drop_succ (l := l) (by omega), val_drop_succ (l := o.set (k - 1) (t / 2 ^ s)) (by simp; omega), getD_set_self _ (by omega), drop_set_succ, show k - 1 + 1 = k by omega]
      exact hst
  cbv
  rw [h1, hnn, hrep, hi0]
  refine nd (by rw [hS.mkok, hS.ofN]; exact decide_eq_true ⟨Int.natCast_nonneg n, Int.le_refl _, by unfold capBytes; omega⟩) ?_
  refine loopZ ccOk mixed hS (fun (k : Nat) s' => ∃ (o : List Int) (c : Int), (k ≤ n ∧ o.length = n ∧ Wd o ∧ (0 ≤ c ∧ c < 2 ^ s) ∧ val (l.drop k) = 2 ^ s * val (o.drop k) + c) ∧ s' = ishrSt r (zW .u32 o) S n c (zsub (zofN k) 1)) (n := n)
    (s0 := ishrSt r (zW .u32 (List.replicate n 0)) S n 0 (zsub (zofN n) 1)) (le_of ?_ ?_) rfl (Nat.le_succ 2) ?_ ?_
  · simp [leT, ishrSt, mkSt, vi, vl, vnil, hS.ofN]
  · simp [leH, ishrSt, mkSt]
  · refine ⟨_, 0, ⟨Nat.le_refl _, by simp, Wd.rep _, ⟨by omega, hp⟩, ?_⟩, rfl⟩
    rw [List.drop_of_length_le (by omega), List.drop_of_length_le (by simp)]; simp [val]
  · rintro k _ ⟨o, c, ⟨hk, ho, hw, hc, hv⟩, rfl⟩
    rcases Nat.eq_zero_or_pos k with hk0 | hk0
    · subst hk0
      have e6 : zle 0 (zsub (zofN 0) 1) = false := by rw [hS.le, hS.sub, hS.ofN]; rfl
      have e10 : zfit 0 n (zW .u32 o) = true := by rw [hS.fit, hS.W, W_len]; exact decide_eq_true (by omega)
      have e11 : zpart (zW .u32 o) 0 n = W .u32 o := by rw [hS.part, hS.W, W_part, List.drop_zero, List.take_of_length_le (by omega)]
      have hT := itrim_call (r := W .u32 o) rfl (by omega) hw
      have hend : val o = q := by
        simp only [List.drop_zero] at hv
        rw [hq, hv, Int.add_comm, Int.add_mul_ediv_left _ _ (by omega), Int.ediv_eq_zero_of_lt hc.1 hc.2, Int.zero_add]
      rw [hend] at hT
      clear A1 hv hc hmask hM hq hp hp2
      generalize W .u32 (dg q.toNat) = x at *
      cbv
      refine bF e6 (nd e10 ?_)
      rw [e11]
      refine ⟨_, hS.call hT, ?_⟩
      cbv
      exact hF _ (ResLe.refl _)
    · obtain ⟨t, d, e, E1, E2, E3, E4, E5, E6, E7, E8, E9, E10, E11, E12, I⟩ := A1 k o c hk ho hw hc hv hk0
      have hj : k - 1 < k := by clear A1; omega
      obtain ⟨k1, hk1⟩ : ∃ k1, k1 = k - 1 := ⟨_, rfl⟩
      rw [← hk1] at E1 E2 E6 E7 E8 E10 I hj
      generalize l.getD k1 0 = a at E1 E2
      clear A1 hc hv hk1
      cbv
      refine bT E12 ?_
      rw [E1, E2, E3, E4, hmask, E5, E6, E7, E8]
      refine nd E12 (nd E11 (nd hs0 (nd E9 (nd E10 (nd hs0 ?_)))))
      exact again (s' := ishrSt r (zW .u32 (o.set k1 d)) S n e (zsub (zofN k1) 1)) (m := k1) (by simp [leT, ishrSt, mkSt, vi, vl, vnil]) (by simp [leH, ishrSt, mkSt]) rfl (Nat.le_succ 2) hj ⟨_, _, I, rfl⟩
end Go.Proofs.Ytgncmjcoojmccaa
end

section
set_option linter.unusedVariables false
set_option linter.unusedSimpArgs false
/-
  The digit of a quotient, its multiple taken away, and given back: two loops over words.
-/
set_option linter.unusedVariables false
namespace Go.Abs.M

theorem dif_word2 {a b c d : Int} (ha : 0 ≤ a ∧ a < 4294967296) (hb : 0 ≤ b ∧ b < 4294967296) (hc : 0 ≤ c ∧ c ≤ 1) (hd : d = ((a - b) % 18446744073709551616 - c) % 18446744073709551616) :
    d % 4294967296 = (4294967296 + a - b - c) % 4294967296 ∧ d / 9223372036854775808 = 1 - (4294967296 + a - b - c) / 4294967296 ∧ 0 ≤ d := by omega

structure QwI (u v : List Int) (n : Nat) (g : Int) (k : Nat) (o : List Int) (c b : Int) : Prop where
  lo : o.length = n + 1
  wo : Wd o
  hc : 0 ≤ c ∧ c < 4294967296
  hb : 0 ≤ b ∧ b ≤ 1
  dr : o.drop k = u.drop k
  eq : val (o.take k) = val (u.take k) - g * val (v.take k) + (b + c) * 4294967296 ^ k

theorem drop_getD_eq {o u : List Int} {k : Nat} (h : o.drop k = u.drop k) : o.getD k 0 = u.getD k 0 := by
  have := congrArg (fun y => List.getD y 0 0) h
  simpa [List.getD_eq_getElem?_getD] using this

theorem drop_set_eq {o u : List Int} {k : Nat} (x : Int) (h : o.drop k = u.drop k) : (o.set k x).drop (k + 1) = u.drop (k + 1) := by
  rw [drop_set_succ]
  have := congrArg (List.drop 1) h
  simpa [List.drop_drop] using this

section
variable {u v o : List Int} {n k : Nat} {g c b pr d : Int}

theorem QwI.start (hu : u.length = n + 1) (hw : Wd u) : QwI u v n g 0 u 0 0 := ⟨hu, hw, by omega, by omega, rfl, by simp [val]⟩

theorem QwI.step (h : QwI u v n g k o c b) (huw : Wd u) (hvw : Wd v) (hg0 : 0 ≤ g) (hg1 : g ≤ 4294967296) (hk : k < n) (hpr : pr = g * v.getD k 0 + c) (hd : d = ((u.getD k 0 - pr % 4294967296) % 18446744073709551616 - b) % 18446744073709551616) :
    (0 ≤ g * v.getD k 0 ∧ g * v.getD k 0 < 18446744073709551616) ∧ (0 ≤ pr ∧ pr < 18446744073709551616) ∧ 0 ≤ d ∧ o.getD k 0 = u.getD k 0 ∧ QwI u v n g (k + 1) (o.set k (d % 4294967296)) (pr / 4294967296) (d / 9223372036854775808) := by
  obtain ⟨lo, wo, hc, hb, dr, eq⟩ := h
  have ga := huw.get k
  have gv := hvw.get k
  have hgv : 0 ≤ g * v.getD k 0 ∧ g * v.getD k 0 ≤ 4294967296 * 4294967295 := ⟨Int.mul_nonneg hg0 gv.1, Int.mul_le_mul hg1 (by omega) gv.1 (by omega)⟩
  obtain ⟨t, ht⟩ : ∃ t, t = 4294967296 + u.getD k 0 - pr % 4294967296 - b := ⟨_, rfl⟩
  have hst := lessen_step eq hpr ht
  obtain ⟨d1, d2, d3⟩ := dif_word2 ga (show 0 ≤ pr % 4294967296 ∧ pr % 4294967296 < 4294967296 by omega) hb hd
  rw [← ht] at d1 d2
  refine ⟨by omega, by omega, d3, drop_getD_eq dr, ?_⟩
  rw [d1, d2]
  refine ⟨by simpa using lo, wo.set _ (by omega) (by omega), by omega, by omega, drop_set_eq _ dr, ?_⟩
  rw [val_take_set _ (by omega), val_take_succ' u, val_take_succ' v, Int.pow_succ, hst, Int.mul_add]

theorem QwI.last (h : QwI u v n g n o c b) (hu : u.length = n + 1) (hv : v.length = n) (huw : Wd u) (hd : d = ((u.getD n 0 - c) % 18446744073709551616 - b) % 18446744073709551616) :
    0 ≤ d ∧ o.getD n 0 = u.getD n 0 ∧ (d / 9223372036854775808 = 0 ↔ ¬ val u - g * val v < 0) ∧ o.set n (d % 4294967296) = wds (n + 1) (val u - g * val v) ∧ (o.set n (d % 4294967296)).length = n + 1 := by
  obtain ⟨lo, wo, hc, hb, dr, eq⟩ := h
  have gun := huw.get n
  obtain ⟨n1, n2, n3⟩ := dif_word2 gun hc hb hd
  obtain ⟨y, hy⟩ : ∃ y, y = 4294967296 + u.getD n 0 - c - b := ⟨_, rfl⟩
  rw [← hy] at n1 n2
  rw [n1, n2]
  have wo2 : Wd (o.set n (y % 4294967296)) := wo.set _ (by omega) (by omega)
  have lo2 : (o.set n (y % 4294967296)).length = n + 1 := by simpa using lo
  have hsum : val (o.set n (y % 4294967296)) = (val u - g * val v) + (1 - y / 4294967296) * 4294967296 ^ (n + 1) := by
    have a1 := val_take_set (l := o) (k := n) (y % 4294967296) (by omega)
    rw [List.take_of_length_le (by omega)] at a1
    have a2 := val_take_succ' u n
    rw [List.take_of_length_le (by omega)] at a2
    rw [List.take_of_length_le (l := v) (by omega)] at eq
    have a3 := Int.emod_add_mul_ediv y 4294967296
    have a4 : y % 4294967296 = 4294967296 + u.getD n 0 - c - b - 4294967296 * (y / 4294967296) := by omega
    rw [a1, a2, eq, Int.pow_succ, a4]
    generalize y / 4294967296 = z at *
    generalize (4294967296 : Int) ^ n = p at *
    generalize val v = vv at *
    generalize val (u.take n) = uu at *
    generalize u.getD n 0 = w at *
    clear a1 a2 a3 a4 eq n1 n2 hd hy wo2 lo2 dr
    grind
  refine ⟨n3, drop_getD_eq dr, ?_, wds_of wo2 lo2 hsum, lo2⟩
  have a2 := val_lt wo2
  have a3 := val_nonneg wo2
  rw [lo2] at a2
  have a4 := pow_pos' (n + 1)
  rcases (show 1 - y / 4294967296 = 0 ∨ 1 - y / 4294967296 = 1 by omega) with h1 | h1
  · rw [h1] at hsum ⊢; constructor <;> intro <;> omega
  · rw [h1] at hsum ⊢; constructor <;> intro <;> omega

structure QrI (u v : List Int) (n : Nat) (k : Nat) (o : List Int) (c : Int) : Prop where
  lo : o.length = n + 1
  wo : Wd o
  hc : 0 ≤ c ∧ c ≤ 1
  dr : o.drop k = u.drop k
  eq : val (o.take k) + c * 4294967296 ^ k = val (u.take k) + val (v.take k)

theorem QrI.start (hu : u.length = n + 1) (hw : Wd u) : QrI u v n 0 u 0 := ⟨hu, hw, by omega, rfl, by simp [val]⟩

theorem QrI.step {t : Int} (h : QrI u v n k o c) (huw : Wd u) (hvw : Wd v) (hk : k < n) (ht : t = u.getD k 0 + v.getD k 0 + c) :
    (0 ≤ t ∧ t < 18446744073709551616) ∧ o.getD k 0 = u.getD k 0 ∧ QrI u v n (k + 1) (o.set k (t % 4294967296)) (t / 4294967296) := by
  obtain ⟨lo, wo, hc, dr, eq⟩ := h
  have ga := huw.get k
  have gv := hvw.get k
  have hst := add_step eq ht
  refine ⟨by omega, drop_getD_eq dr, by simpa using lo, wo.set _ (by omega) (by omega), by omega, drop_set_eq _ dr, ?_⟩
  rw [val_take_set _ (by omega), val_take_succ' u, val_take_succ' v, Int.pow_succ]
  exact hst

theorem QrI.last (h : QrI u v n n o c) (hu : u.length = n + 1) (hv : v.length = n) (huw : Wd u) : o.getD n 0 = u.getD n 0 ∧ o.set n ((u.getD n 0 + c) % 4294967296) = wds (n + 1) (val u + val v) ∧ (o.set n ((u.getD n 0 + c) % 4294967296)).length = n + 1 := by
  obtain ⟨lo, wo, hc, dr, eq⟩ := h
  have gun := huw.get n
  obtain ⟨y, hy⟩ : ∃ y, y = u.getD n 0 + c := ⟨_, rfl⟩
  rw [← hy]
  have wo2 : Wd (o.set n (y % 4294967296)) := wo.set _ (by omega) (by omega)
  have lo2 : (o.set n (y % 4294967296)).length = n + 1 := by simpa using lo
  refine ⟨drop_getD_eq dr, wds_of (b := -(y / 4294967296)) wo2 lo2 ?_, lo2⟩
  have a1 := val_take_set (l := o) (k := n) (y % 4294967296) (by omega)
  rw [List.take_of_length_le (by omega)] at a1
  have a2 := val_take_succ' u n
  rw [List.take_of_length_le (by omega)] at a2
  rw [List.take_of_length_le (l := v) (by omega)] at eq
  have a3 := Int.emod_add_mul_ediv y 4294967296
  have a4 : y % 4294967296 = u.getD n 0 + c - 4294967296 * (y / 4294967296) := by omega
  have a5 : val (o.take n) = val (u.take n) + val v - c * 4294967296 ^ n := by omega
  rw [a1, a2, a5, Int.pow_succ, a4]
  generalize y / 4294967296 = z at *
  generalize (4294967296 : Int) ^ n = p at *
  generalize val v = vv at *
  generalize val (u.take n) = uu at *
  generalize u.getD n 0 = w at *
  clear a1 a2 a3 a4 a5 eq hy wo2 lo2 dr
  grind
end
end Go.Abs.M
end

section
set_option linter.unusedVariables false
set_option linter.unusedSimpArgs false
set_option maxHeartbeats 8000000
set_option linter.unusedVariables false
set_option linter.unusedSimpArgs false
set_option maxRecDepth 100000
namespace Go.Proofs.Ytgncmjcoojmccaa
open Go Go.Abs Go.Abs.M Go.Proofs

def iqw3St (r s : Abs.Rows) (l : Nat) (n q c i : Int) : St := mkSt 171 [.c (.sl 0 0 l false), vl s, .junk, .junk, vi .u32 0, vi .i64 n, .junk, vi .u64 q, .junk, vi .u64 c, .junk, .junk, .junk, .junk, .junk, .junk, .junk, .junk, .junk, .junk, .junk, .junk, .junk, .junk, .junk, .junk, .junk, .junk, .junk, .junk, .junk, .junk, .junk, .junk, .junk, .junk, .junk, .junk, .junk, .junk, .junk, .junk, .junk, .junk, .junk, .junk, .junk, .junk, .junk, .junk, .junk, .junk, .junk, .junk, .junk, .junk, .junk, .junk, .junk, .junk, .junk, .junk, .junk, .junk, .junk, .junk, .junk, .junk, .junk, .junk, .junk, .junk, .junk, .junk, .junk, .junk, .junk, .junk, .junk, .junk, .junk, .junk, .junk, .junk, .junk, .junk, .junk, .junk, .junk, .junk, .junk, .junk, .junk, .junk, .junk, .junk, .junk, .junk, .junk, .junk, .junk, .junk, .junk, .junk, .junk, .junk, .junk, .junk, .junk, .junk, .junk, .junk, .junk, .junk, .junk, .junk, .junk, .junk, .junk, .junk, .junk, .junk, .junk, .junk, .junk, .junk, .junk, .junk, .junk, .junk, .junk, .junk, .junk, .junk, .junk, vi .i64 n, vi .i64 i] [some (.rows 1 r false false), none]

/-- Ways that come together again: what is behind them is shown once. -/
theorem shared {L : Code → St → (AExit → ST → Prop) → Prop} {G : Prop} {c : Code} {Q : AExit → ST → Prop} {S : List AV → Heap → Prop} (main : (∀ T H, S T H → L c (St.mk T H) Q) → G) (rest : ∀ T H, S T H → L c (St.mk T H) Q) : G := main rest

def iqw2St (r s : Abs.Rows) (l : Nat) (n q c b i : Int) : St := mkSt 171 [.c (.sl 0 0 l false), vl s, .junk, .junk, vi .u32 0, vi .i64 n, .junk, vi .u64 q, .junk, vi .u64 c, vi .u64 b, .junk, .junk, .junk, .junk, .junk, .junk, .junk, .junk, .junk, .junk, .junk, .junk, .junk, .junk, .junk, .junk, .junk, .junk, .junk, .junk, .junk, .junk, .junk, .junk, .junk, .junk, .junk, .junk, .junk, .junk, .junk, .junk, .junk, .junk, .junk, .junk, .junk, .junk, .junk, .junk, .junk, .junk, .junk, .junk, .junk, .junk, .junk, .junk, .junk, .junk, .junk, .junk, .junk, .junk, .junk, .junk, .junk, .junk, .junk, .junk, .junk, .junk, .junk, .junk, .junk, .junk, .junk, .junk, .junk, .junk, .junk, vi .i64 n, vi .i64 i] [some (.rows 1 r false false), none]

def iqw1St (r s : Abs.Rows) (len : Nat) (n t q e : Int) : St := mkSt 171 [.c (.sl 0 0 len false), vl s, .junk, .junk, vi .u32 0, vi .i64 n, vi .u64 t, vi .u64 q, vi .u64 e] [some (.rows 1 r false false), none]

theorem iquotientWord_call {r s : Abs.Rows} {u v x : List Int} {n : Nat} (g qd : Int) (hr : r = W .u32 u) (hs : s = W .u32 v) (hu : u.length = n + 1) (hv : v.length = n) (hn : 2 ≤ n) (hn2 : n ≤ 1099511627776) (huw : Wd u) (hvw : Wd v) (htop : 2147483648 ≤ v.getD (n - 1) 0)
    (hg : g = guess0 (v.getD (n - 1) 0) (v.getD (n - 2) 0) (u.getD (n - 2) 0) (u.getD n 0 * 4294967296 + u.getD (n - 1) 0)) (hg0 : 0 ≤ g) (hg1 : g ≤ 4294967296) (hqd : 0 ≤ qd ∧ qd < 4294967296)
    (hneg : val u - g * val v < 0 → g - 1 = qd ∧ x = wds (n + 1) (val u - g * val v + val v)) (hpos' : ¬ val u - g * val v < 0 → g = qd ∧ x = wds (n + 1) (val u - g * val v)) :
    ACall Try.prog 89 [.bor 1 r, .val (tl s)] ⟨[.val (ti .u32 qd)], [some (.rows 1 (W .u32 x) false false), none]⟩ := by
  have g1' := huw.get n
  have g2 := huw.get (n - 1)
  have g3 := huw.get (n - 2)
  have g4 := hvw.get (n - 1)
  have g5 := hvw.get (n - 2)
  obtain ⟨t, ht⟩ : ∃ t, t = u.getD n 0 * 4294967296 + u.getD (n - 1) 0 := ⟨_, rfl⟩
  rw [← ht] at hg
  refine callZ ccOk mixed [.val] Try.func89 rfl rfl (by kernel_rfl) fun zwrap zadd zsub zmul zquo zrem zshl zshr zband zbor zbxor zbandn zeq zne zlt zle znot zbeq zbne zmax zmin znat zinb zofN zidx zneq znadd zdif zcut zroom zmkok zlen znth zsetr zisI zgetI zsetI zfit zpart zext zsetg zrep zwide zall zmok zmget zmset zW zth A L F hS hF => ?_
  have h1 : zlen r = n + 1 := by rw [hS.len, hr, W_len, hu]
  have h2 : zlen s = n := by rw [hS.len, hs, W_len, hv]
  have hrW : r = zW .u32 u := by rw [hS.W]; exact hr
  have w1 : zwrap .i64 (zsub (zofN n) 1) = zofN (n - 1) := by rw [hS.wrap, hS.sub, hS.ofN, hS.ofN, wrap_i64 (by omega) (by omega)]; omega
  have w2 : zwrap .i64 (zsub (zofN n) 2) = zofN (n - 2) := by rw [hS.wrap, hS.sub, hS.ofN, hS.ofN, wrap_i64 (by omega) (by omega)]; omega
  have f2 : ∀ q, zidx 0 (zofN q) = q := fun q => by rw [hS.idx, hS.ofN]; omega
  have f3 : ∀ q, q < n + 1 → zinb (zofN q) (zlen r) = true := fun q hq => by rw [h1, hS.inb, hS.ofN]; exact decide_eq_true (by omega)
  have f4 : ∀ q, q < n + 1 → zisI .u32 r q = true := fun q hq => by rw [hS.isI, hr, W_isI]; exact decide_eq_true (by omega)
  have f5 : ∀ q, zgetI r q = u.getD q 0 := fun q => by rw [hS.getI, hr, W_getI]
  have f6 : ∀ q, zle 0 (zofN q) = true := fun q => by rw [hS.le, hS.ofN]; exact decide_eq_true (by omega)
  have f7 : ∀ q, q < n → zisI .u32 s (znat (zofN q)) = true := fun q hq => by rw [hS.isI, hs, hS.nat, hS.ofN, W_isI]; exact decide_eq_true (by omega)
  have f8 : ∀ q, zgetI s (znat (zofN q)) = v.getD q 0 := fun q => by rw [hS.getI, hS.nat, hS.ofN, hs, W_getI, Int.toNat_natCast]
  have eu : ∀ q, zwrap .u64 (u.getD q 0) = u.getD q 0 := fun q => by have := huw.get q; rw [hS.wrap, wrap_u64 (by omega) (by omega)]
  have ev : ∀ q, zwrap .u64 (v.getD q 0) = v.getD q 0 := fun q => by have := hvw.get q; rw [hS.wrap, wrap_u64 (by omega) (by omega)]
  have et : zbor .u64 (zshl .u64 (u.getD n 0) 32) (u.getD (n - 1) 0) = t := by
    rw [show zshl .u64 (u.getD n 0) 32 = ZI.std.shl .u64 (u.getD n 0) 32 from hS.shl .., show ∀ x y, zbor .u64 x y = ZI.std.bor .u64 x y from fun _ _ => hS.bor .., two_words g1'.1 g1'.2 g2.1 g2.2, ht]
  have htb : 0 ≤ t ∧ t < 18446744073709551616 := by omega
  have hnz : zne (v.getD (n - 1) 0) 0 = true := by rw [hS.ne]; exact decide_eq_true (by omega)
  have hq0 : 0 ≤ t / v.getD (n - 1) 0 := Int.ediv_nonneg (by omega) (by omega)
  have hq1 : t / v.getD (n - 1) 0 < 8589934592 := Int.ediv_lt_of_lt_mul (by omega) (by omega)
  have hm0 := Int.emod_nonneg t (show v.getD (n - 1) 0 ≠ 0 by omega)
  have hm1 := Int.emod_lt_of_pos t (show 0 < v.getD (n - 1) 0 by omega)
  have eq : zwrap .u64 (zquo t (v.getD (n - 1) 0)) = t / v.getD (n - 1) 0 := by rw [hS.quo, Int.tdiv_eq_ediv_of_nonneg (by omega), hS.wrap]; exact wrap_u64 (by omega) (by omega)
  have er : zrem t (v.getD (n - 1) 0) = t % v.getD (n - 1) 0 := by rw [hS.rem, Int.tmod_eq_emod_of_nonneg (by omega)]
  have hstart : guessF (v.getD (n - 1) 0) (v.getD (n - 2) 0) (u.getD (n - 2) 0) 3 (t / v.getD (n - 1) 0) (t % v.getD (n - 1) 0) = g := hg.symm
  have e10 : zneq (zlen r) (zlen r) = true := by rw [hS.neq]; exact decide_eq_true rfl
  have L2 := zlt_nat hS.lt hS.ofN
  have W1 : ∀ z, z = qd → zwrap .u32 z = qd := fun z hz => by rw [hS.wrap, hz]; exact wrap_u32 hqd.1 (by omega)
  have A2 : ∀ (k : Nat) (o : List Int) (c b : Int), QwI u v n g k o c b → k < n → ∃ (pr d : Int) (k1 : Nat), zgetI (zW .u32 o) k = u.getD k 0 ∧ zwrap .u64 (zadd (zwrap .u64 (zmul g (v.getD k 0))) c) = pr ∧ zwrap .u64 (zwrap .u32 pr) = pr % 4294967296 ∧ zshr .u64 pr 32 = pr / 4294967296 ∧
      zwrap .u64 (zsub (zwrap .u64 (zsub (u.getD k 0) (pr % 4294967296))) b) = d ∧ zwrap .u32 d = d % 4294967296 ∧ zshr .u64 d 63 = d / 9223372036854775808 ∧ zwrap .i64 (zadd (zofN k) 1) = zofN k1 ∧ zwrap .u64 (u.getD k 0) = u.getD k 0 ∧ zwrap .u64 (v.getD k 0) = v.getD k 0 ∧
      (∀ x, zsetI .u32 (zW .u32 o) k x = zW .u32 (o.set k x)) ∧ zisI .u32 (zW .u32 o) k = true ∧ zgetI s (znat (zofN k)) = v.getD k 0 ∧ k1 = k + 1 ∧ QwI u v n g k1 (o.set k (d % 4294967296)) (pr / 4294967296) (d / 9223372036854775808) := fun k o c b hI hk => by
    obtain ⟨i1, i2, i3, i4, i5⟩ := hI.step huw hvw hg0 hg1 hk rfl rfl
    have hlo := hI.lo
    have hc := hI.hc
    refine ⟨_, _, k + 1, by rw [hS.getI, hS.W, W_getI, i4], ?_, ?_, ?_, ?_, ?_, ?_, ?_, eu k, ev k, fun x => by rw [hS.setI, hS.W, W_set], by rw [hS.isI, hS.W, W_isI]; exact decide_eq_true (by omega), f8 k, rfl, i5⟩
    · rw [hS.wrap, hS.wrap, hS.mul, hS.add, wrap_u64 i1.1 i1.2, wrap_u64 i2.1 i2.2]
    · rw [hS.wrap, hS.wrap, wrap_u32m, wrap_u64 (by omega) (by omega)]
    · rw [show ∀ x, zshr .u64 x 32 = ZI.std.shr .u64 x 32 from fun _ => hS.shr ..]; exact shr32 i2.1
    · rw [hS.wrap, hS.wrap, hS.sub, hS.sub, wrap_u64m, wrap_u64m]
    · rw [hS.wrap, wrap_u32m]
    · rw [show ∀ x, zshr .u64 x 63 = ZI.std.shr .u64 x 63 from fun _ => hS.shr ..]; exact shr63 i3
    · rw [hS.wrap, hS.add, hS.ofN, hS.ofN, wrap_i64 (by omega) (by omega)]; omega
  have A3 : ∀ (o : List Int) (c b : Int), QwI u v n g n o c b → ∃ (un d : Int) (y : List Int), zgetI (zW .u32 o) n = un ∧ zwrap .u64 un = un ∧ zwrap .u64 (zsub (zwrap .u64 (zsub un c)) b) = d ∧ zwrap .u32 d = d % 4294967296 ∧ zsetI .u32 (zW .u32 o) n (d % 4294967296) = zW .u32 y ∧
      zisI .u32 (zW .u32 o) n = true ∧ zneq (zlen (zW .u32 y)) (zlen r) = true ∧ (zeq (zshr .u64 d 63) 0 = true → g = qd ∧ y = x) ∧ (zeq (zshr .u64 d 63) 0 = false → g - 1 = qd ∧ x = wds (n + 1) (val y + val v)) ∧ Wd y ∧ y.length = n + 1 := fun o c b hI => by
    obtain ⟨i1, i2, i3, i4, i5⟩ := hI.last hu hv huw rfl
    have hlo := hI.lo
    refine ⟨u.getD n 0, _, _, by rw [hS.getI, hS.W, W_getI, i2], eu n, by rw [hS.wrap, hS.wrap, hS.sub, hS.sub, wrap_u64m, wrap_u64m], by rw [hS.wrap, wrap_u32m], by rw [hS.setI, hS.W, W_set], by rw [hS.isI, hS.W, W_isI]; exact decide_eq_true (by omega), ?_, fun h => ?_, fun h => ?_, by rw [i4]; exact wds_wd _ _, i5⟩
    · rw [h1, hS.neq, hS.len, hS.W, W_len, i5]; exact decide_eq_true rfl
    · rw [show ∀ x, zshr .u64 x 63 = ZI.std.shr .u64 x 63 from fun _ => hS.shr .., shr63 i1, hS.eq] at h
      obtain ⟨j1, j2⟩ := hpos' (i3.1 (of_decide_eq_true h))
      exact ⟨j1, by rw [i4, j2]⟩
    · rw [show ∀ x, zshr .u64 x 63 = ZI.std.shr .u64 x 63 from fun _ => hS.shr .., shr63 i1, hS.eq] at h
      have h' : val u - g * val v < 0 := Decidable.byContradiction fun h6 => of_decide_eq_false h (i3.2 h6)
      obtain ⟨j1, j2⟩ := hneg h'
      exact ⟨j1, by rw [i4, j2, wds_back]⟩
  have A4 : ∀ (y : List Int), Wd y → y.length = n + 1 → x = wds (n + 1) (val y + val v) → (∀ (k : Nat) (o : List Int) (c : Int), QrI y v n k o c → k < n → ∃ (t : Int) (k1 : Nat), zgetI (zW .u32 o) k = y.getD k 0 ∧ zwrap .u64 (zadd (zwrap .u64 (zadd (y.getD k 0) (v.getD k 0))) c) = t ∧ zwrap .u32 t = t % 4294967296 ∧ zshr .u64 t 32 = t / 4294967296 ∧
      zwrap .i64 (zadd (zofN k) 1) = zofN k1 ∧ zwrap .u64 (y.getD k 0) = y.getD k 0 ∧ zwrap .u64 (v.getD k 0) = v.getD k 0 ∧ (∀ z, zsetI .u32 (zW .u32 o) k z = zW .u32 (o.set k z)) ∧ zisI .u32 (zW .u32 o) k = true ∧ zgetI s (znat (zofN k)) = v.getD k 0 ∧ k1 = k + 1 ∧ QrI y v n k1 (o.set k (t % 4294967296)) (t / 4294967296)) ∧
      (∀ (o : List Int) (c : Int), QrI y v n n o c → ∃ (yn d : Int), zgetI (zW .u32 o) n = yn ∧ zwrap .u32 c = c ∧ zwrap .u32 (zadd yn c) = d ∧ zsetI .u32 (zW .u32 o) n d = zW .u32 x ∧ zisI .u32 (zW .u32 o) n = true ∧ zneq (zlen (zW .u32 x)) (zlen r) = true) := fun y wy ly hx => by
    refine ⟨fun k o c hI hk => ?_, fun o c hI => ?_⟩
    · obtain ⟨i1, i2, i3⟩ := hI.step wy hvw hk rfl
      have hlo := hI.lo
      have hc := hI.hc
      have b1 := wy.get k
      have b2 := hvw.get k
      refine ⟨_, k + 1, by rw [hS.getI, hS.W, W_getI, i2], ?_, ?_, ?_, ?_, ?_, ev k, fun x => by rw [hS.setI, hS.W, W_set], by rw [hS.isI, hS.W, W_isI]; exact decide_eq_true (by omega), f8 k, rfl, i3⟩
      · rw [hS.wrap, hS.wrap, hS.add, hS.add, wrap_u64 (x := y.getD k 0 + v.getD k 0) (by omega) (by omega), wrap_u64 i1.1 i1.2]
      · rw [hS.wrap, wrap_u32m]
      · rw [show ∀ x, zshr .u64 x 32 = ZI.std.shr .u64 x 32 from fun _ => hS.shr ..]; exact shr32 i1.1
      · rw [hS.wrap, hS.add, hS.ofN, hS.ofN, wrap_i64 (by omega) (by omega)]; omega
      · rw [hS.wrap, wrap_u64 (by omega) (by omega)]
    · obtain ⟨i1, i2, i3⟩ := hI.last ly hv wy
      have hlo := hI.lo
      have hc := hI.hc
      refine ⟨y.getD n 0, (y.getD n 0 + c) % 4294967296, by rw [hS.getI, hS.W, W_getI, i1], by rw [hS.wrap]; exact wrap_u32 (by omega) (by omega), by rw [hS.wrap, hS.add, wrap_u32m], ?_, by rw [hS.isI, hS.W, W_isI]; exact decide_eq_true (by omega), ?_⟩
      · rw [hS.setI, hS.W, W_set, i2, hx]
      · rw [h1, hS.neq, hS.len, hS.W, W_len, hx, wds_length]; exact decide_eq_true rfl
  have g1q : g - 1 = qd → zwrap .u64 (zsub g 1) = qd := fun h => by rw [hS.wrap, hS.sub, wrap_u64 (by omega) (by omega), h]
  clear hg ht
  generalize ha1 : v.getD (n - 1) 0 = v1 at *
  generalize ha2 : v.getD (n - 2) 0 = v2 at *
  generalize ha3 : u.getD (n - 2) 0 = u2 at *
  generalize ha4 : u.getD n 0 = u0 at *
  generalize ha5 : u.getD (n - 1) 0 = u1 at *
  have eu0 := eu n
  have eu1 := eu (n - 1)
  have eu2 := eu (n - 2)
  have ev1 := ev (n - 1)
  have ev2 := ev (n - 2)
  rw [ha4] at eu0
  rw [ha5] at eu1
  rw [ha3] at eu2
  rw [ha1] at ev1
  rw [ha2] at ev2
  cbv
  rw [h2, w1, f2, f2, f5, f5, f8, ha1, ha4, ha5, eu0, eu1, ev1, et, eq, er]
  refine nd (f3 _ (by omega)) (nd (f4 _ (by omega)) (nd (f3 _ (by omega)) (nd (f4 _ (by omega)) (nd (f6 _) (nd (f7 _ (by omega)) (nd hnz (nd (f6 _) (nd (f7 _ (by omega)) (nd hnz ?_)))))))))
  generalize t / v1 = q0 at *
  generalize t % v1 = m0 at *
  apply shared (L := L) (S := fun T H => leT T (iqw2St (zW .u32 u) s (zlen r) (zofN n) g 0 0 (zofN 0)).tmps ∧ leH H (iqw2St (zW .u32 u) s (zlen r) (zofN n) g 0 0 (zofN 0)).heap)
  · intro rest
    refine loopZ ccOk mixed hS (fun (j : Nat) s' => ∃ (q e : Int), 0 ≤ q ∧ q < 8589934592 ∧ 0 ≤ e ∧ e < 4294967296 ∧ guessF v1 v2 u2 j q e = g ∧ 4294967296 ≤ e + j * v1 ∧ s' = iqw1St r s (zlen r) (zofN n) t q e) (n := 3)
      (s0 := iqw1St r s (zlen r) (zofN n) t q0 m0) (le_of ?_ ?_) rfl (Nat.le_refl 2) ?_ ?_
    · simp [leT, iqw1St, mkSt, vi, vl, vb, hS.ofN]
    · simp [leH, iqw1St, mkSt]
    · exact ⟨q0, m0, hq0, hq1, hm0, by omega, hstart, by push_cast; omega, rfl⟩
    · rintro j _ ⟨q, e, b1, b2, b3, b4, hgF, hme, rfl⟩
      have j0 : j ≠ 0 := by
        rintro rfl
        simp at hme
        omega
      obtain ⟨j, rfl⟩ : ∃ i, j = i + 1 := ⟨j - 1, by omega⟩
      have hme' : 4294967296 ≤ (e + v1) + j * v1 := by
        have : ((j + 1 : Nat) : Int) * v1 = j * v1 + v1 := by push_cast; grind
        omega
      simp only [guessF] at hgF
      have x1 : zle 4294967296 q = decide (4294967296 ≤ q) := by rw [hS.le]
      have x2 : zwrap .u64 (zadd e v1) = e + v1 := by rw [hS.wrap, hS.add]; exact wrap_u64 (by omega) (by omega)
      have x3 : zle 4294967296 (e + v1) = decide (4294967296 ≤ e + v1) := by rw [hS.le]
      have x4 : 0 < q → zwrap .u64 (zsub q 1) = q - 1 := fun h => by rw [hS.wrap, hS.sub]; exact wrap_u64 (by omega) (by omega)
      have hq2 : q < 4294967296 → 0 ≤ q * v2 ∧ q * v2 ≤ 4294967295 * 4294967295 := fun h => ⟨Int.mul_nonneg b1 g5.1, Int.mul_le_mul (by omega) (by omega) g5.1 (by omega)⟩
      have x5 : q < 4294967296 → zlt (zbor .u64 (zshl .u64 e 32) u2) (zwrap .u64 (zmul q v2)) = decide (e * 4294967296 + u2 < q * v2) := fun h => by
        have := hq2 h
        rw [hS.lt, hS.wrap, hS.mul, show zshl .u64 e 32 = ZI.std.shl .u64 e 32 from hS.shl .., show ∀ x y, zbor .u64 x y = ZI.std.bor .u64 x y from fun _ _ => hS.bor .., two_words b3 b4 g3.1 g3.2, wrap_u64 (x := q * v2) (by omega) (by omega)]
      have hpos : e * 4294967296 + u2 < q * v2 → 0 < q := fun h => by
        rcases Int.lt_or_le 0 q with h' | h'
        · exact h'
        · obtain rfl : q = 0 := by omega
          omega
      have step : (4294967296 ≤ q ∨ e * 4294967296 + u2 < q * v2) → ¬ 4294967296 ≤ e + v1 → 0 < q → ∀ (T : List AV) (H : Heap), leT T (iqw1St r s (zlen r) (zofN n) t (q - 1) (e + v1)).tmps → leH H (iqw1St r s (zlen r) (zofN n) t (q - 1) (e + v1)).heap → ∃ s' : St, (St.mk T H).Le s' ∧ s'.refsLt = true ∧ [Arg.bor 1 r, Arg.val (tl s)].length ≤ s'.heap.length ∧ ∃ m, m < j + 1 ∧ ∃ (q e : Int), 0 ≤ q ∧ q < 8589934592 ∧ 0 ≤ e ∧ e < 4294967296 ∧ guessF v1 v2 u2 m q e = g ∧ 4294967296 ≤ e + m * v1 ∧ s' = iqw1St r s (zlen r) (zofN n) t q e := fun hb hc hp T H hT hH => by
        rw [if_pos hb, if_neg hc] at hgF
        exact ⟨_, le_of hT hH, rfl, Nat.le_refl 2, j, by omega, q - 1, e + v1, by omega, by omega, by omega, by omega, hgF, hme', rfl⟩
      cbv
      rw [w1, w2, f2, f8, f8, f5, ha1, ha2, ha3, ev1, ev2, eu2, x2]
      refine ⟨fun h => ?_, fun h => ?_⟩
      all_goals rw [x1] at h
      · have h := of_decide_eq_true h
        rw [x4 (by omega)]
        refine nd (f6 _) (nd (f7 _ (by omega)) ⟨fun h' => ?_, fun h' => ?_⟩)
        all_goals rw [x3] at h'
        · rw [if_pos (.inl h), if_pos (of_decide_eq_true h')] at hgF
          rw [hgF]
          exact rest _ _ ⟨by simp [leT, iqw2St, mkSt, vi, vl, vb, hS.ofN], by simp [leH, iqw2St, mkSt, hrW]⟩
        · exact step (.inl h) (of_decide_eq_false h') (by omega) _ _ (by simp [leT, iqw1St, mkSt, vi, vl, vb]) (by simp [leH, iqw1St, mkSt])
      · have h := of_decide_eq_false h
        refine nd (f6 _) (nd (f7 _ (by omega)) (nd (f3 _ (by omega)) (nd (f4 _ (by omega)) ⟨fun h'' => ?_, fun h'' => ?_⟩)))
        all_goals rw [x5 (by omega)] at h''
        · have h'' := of_decide_eq_true h''
          have hp := hpos h''
          rw [x4 hp]
          refine nd (f6 _) (nd (f7 _ (by omega)) ⟨fun h' => ?_, fun h' => ?_⟩)
          all_goals rw [x3] at h'
          · rw [if_pos (.inr h''), if_pos (of_decide_eq_true h')] at hgF
            rw [hgF]
            exact rest _ _ ⟨by simp [leT, iqw2St, mkSt, vi, vl, vb, hS.ofN], by simp [leH, iqw2St, mkSt, hrW]⟩
          · exact step (.inr h'') (of_decide_eq_false h') hp _ _ (by simp [leT, iqw1St, mkSt, vi, vl, vb]) (by simp [leH, iqw1St, mkSt])
        · have h'' := of_decide_eq_false h''
          rw [if_neg (by omega)] at hgF
          rw [hgF]
          exact rest _ _ ⟨by simp [leT, iqw2St, mkSt, vi, vl, vb, hS.ofN], by simp [leH, iqw2St, mkSt, hrW]⟩
  · intro T H hT
    refine loopZ ccOk mixed hS (fun (j : Nat) s' => ∃ (k : Nat) (o : List Int) (c b : Int), k + j = n ∧ QwI u v n g k o c b ∧ s' = iqw2St (zW .u32 o) s (zlen r) (zofN n) g c b (zofN k)) (n := n)
      (s0 := iqw2St (zW .u32 u) s (zlen r) (zofN n) g 0 0 (zofN 0)) (le_of hT.1 hT.2) rfl (Nat.le_refl 2) ?_ ?_
    · exact ⟨0, u, 0, 0, Nat.zero_add n, QwI.start hu huw, rfl⟩
    · rintro j _ ⟨k, o, c, b', hk, hI, rfl⟩
      rcases Nat.lt_or_ge k n with hkn | hkn
      · obtain ⟨pr, d, k1, E1, E2, E3, E4, E5, E6, E7, E8, E9, E10, E11, E12, E13, hk1, hI'⟩ := A2 k o c b' hI hkn
        have e6 : zlt (zofN k) (zofN n) = true := (L2 k n).trans (decide_eq_true hkn)
        have hj : k1 + (j - 1) = n ∧ j - 1 < j := by clear A2 A3 A4; omega
        generalize u.getD k 0 = a at E1 E5 E9
        generalize v.getD k 0 = m at E2 E10 E13
        cbv
        refine bT e6 ?_
        rw [f2, E13, E10, E1, E9, E2, E3, E4, E5, E6, E7, E8, E11]
        refine nd (f6 _) (nd (f7 k hkn) (nd (f3 k (Nat.lt_succ_of_lt hkn)) (nd E12 (nd (f3 k (Nat.lt_succ_of_lt hkn)) (nd E12 ?_)))))
        exact again (s' := iqw2St (zW .u32 (o.set k (d % 4294967296))) s (zlen r) (zofN n) g (pr / 4294967296) (d / 9223372036854775808) (zofN k1)) (m := j - 1) (by simp [leT, iqw2St, mkSt, vi, vl, vb]) (by simp [leH, iqw2St, mkSt]) rfl (Nat.le_refl 2) hj.2 ⟨k1, _, _, _, hj.1, hI', rfl⟩
      · obtain rfl : k = n := by clear A2 A3 A4; omega
        obtain ⟨un, d, y, E1, E2, E3, E4, E5, E6, E7, E8, E9, wy, ly⟩ := A3 o c b' hI
        have e6 : zlt (zofN k) (zofN k) = false := (L2 k k).trans (decide_eq_false (Nat.lt_irrefl k))
        cbv
        refine bF e6 ?_
        rw [f2, E1, E2, E3, E4, E5]
        refine nd (f3 k (Nat.lt_succ_self k)) (nd E6 (nd (f3 k (Nat.lt_succ_self k)) (nd E6 ⟨fun h5 => ?_, fun h5 => ?_⟩)))
        · obtain ⟨x1, x2⟩ := (E8 h5 : g = qd ∧ y = x)
          rw [W1 g x1]
          refine nd E7 ?_
          rw [x2, hS.W]
          exact hF _ (ResLe.refl _)
        · obtain ⟨x1, x2⟩ := E9 h5
          obtain ⟨B1, B2⟩ := A4 y wy ly x2
          have G1 := g1q x1
          have G2 := W1 qd rfl
          clear E1 E2 E3 E4 E5 E6 E7 E8 E9 A2 A3 A4 hI h5 h1 h2 w1 w2 hstart e10 eq er et
          refine loopZ ccOk mixed hS (fun (j : Nat) s' => ∃ (i : Nat) (o : List Int) (c : Int), i + j = k ∧ QrI y v k i o c ∧ s' = iqw3St (zW .u32 o) s (zlen r) (zofN k) g c (zofN i)) (n := k)
            (s0 := iqw3St (zW .u32 y) s (zlen r) (zofN k) g 0 (zofN 0)) (le_of ?_ ?_) rfl (Nat.le_refl 2) ?_ ?_
          · simp [leT, iqw3St, mkSt, vi, vl, vb, hS.ofN]
          · simp [leH, iqw3St, mkSt]
          · exact ⟨0, y, 0, Nat.zero_add k, QrI.start ly wy, rfl⟩
          · rintro j _ ⟨i, o, c, hk, hI, rfl⟩
            rcases Nat.lt_or_ge i k with hik | hik
            · obtain ⟨t, i1, E1, E2, E3, E4, E5, E6, E7, E8, E9, E10, hi1, hI'⟩ := B1 i o c hI hik
              have e6 : zlt (zofN i) (zofN k) = true := (L2 i k).trans (decide_eq_true hik)
              have hj : i1 + (j - 1) = k ∧ j - 1 < j := by clear B1 B2; omega
              generalize y.getD i 0 = a at E1 E2 E6
              generalize v.getD i 0 = m at E2 E7 E10
              cbv
              refine bT e6 ?_
              rw [f2, E10, E7, E1, E6, E2, E3, E4, E5, E8]
              refine nd (f3 i (Nat.lt_succ_of_lt hik)) (nd E9 (nd (f6 _) (nd (f7 i hik) (nd (f3 i (Nat.lt_succ_of_lt hik)) (nd E9 ?_)))))
              exact again (s' := iqw3St (zW .u32 (o.set i (t % 4294967296))) s (zlen r) (zofN k) g (t / 4294967296) (zofN i1)) (m := j - 1) (by simp [leT, iqw3St, mkSt, vi, vl, vb]) (by simp [leH, iqw3St, mkSt]) rfl (Nat.le_refl 2) hj.2 ⟨i1, _, _, hj.1, hI', rfl⟩
            · obtain rfl : i = k := by clear B1 B2; omega
              obtain ⟨yn, d, E1, E2, E3, E4, E5, E6⟩ := B2 o c hI
              have e6 : zlt (zofN i) (zofN i) = false := (L2 i i).trans (decide_eq_false (Nat.lt_irrefl i))
              cbv
              refine bF e6 ?_
              rw [f2, E1, E2, E3, E4, G1, G2]
              refine nd (f3 i (Nat.lt_succ_self i)) (nd E5 (nd (f3 i (Nat.lt_succ_self i)) (nd E5 (nd E6 ?_))))
              rw [hS.W]
              exact hF _ (ResLe.refl _)
end Go.Proofs.Ytgncmjcoojmccaa
end

section
set_option linter.unusedVariables false
set_option linter.unusedSimpArgs false
set_option maxHeartbeats 8000000
set_option linter.unusedVariables false
set_option linter.unusedSimpArgs false
set_option maxRecDepth 100000
namespace Go.Proofs.Ytgncmjcoojmccaa
open Go Go.Abs Go.Abs.M Go.Proofs

/-- The table of lengths of the numbers below 256. -/
def len8rows : Abs.Rows := W .u8 ((List.range 256).map fun i => if i = 0 then (0 : Int) else (i.log2 + 1 : Nat))

theorem len8_key {T : Abs.Rows} (hT : T = len8rows) {i : Nat} {q : Int} (hq : ZI.std.getI T i = q) (h1 : 1 ≤ i) (h2 : i < 256) : ∃ m : Nat, q = m ∧ 1 ≤ m ∧ m ≤ 8 ∧ 2 ^ (m - 1) ≤ i ∧ i < 2 ^ m := by
  subst hT
  unfold len8rows at hq
  rw [W_getI, List.getD_eq_getElem?_getD, List.getElem?_map, List.getElem?_range h2] at hq
  simp only [Option.map_some, Option.getD_some] at hq
  rw [if_neg (by omega)] at hq
  have a1 := Nat.log2_self_le (n := i) (by omega)
  have a2 := Nat.lt_log2_self (n := i)
  have a3 : i.log2 < 8 := (Nat.log2_lt (by omega)).2 (by omega)
  exact ⟨i.log2 + 1, hq.symm, by omega, by omega, by simpa using a1, a2⟩

theorem len8_is {T : Abs.Rows} (hT : T = len8rows) {i : Nat} (h2 : i < 256) : ZI.std.isI .u8 T i = true := by
  subst hT
  unfold len8rows
  rw [W_isI]
  exact decide_eq_true (by simpa using h2)

theorem ilen32_call (x : Int) (h0 : 1 ≤ x) (h1 : x < 4294967296) : ∃ m : Nat, (1 ≤ m ∧ m ≤ 32) ∧ 2 ^ (m - 1) ≤ x ∧ x < 2 ^ m ∧ ACall Try.prog 93 [.val (ti .u32 x)] ⟨[.val (ti .i64 (m : Int))], [none]⟩ := by
  have hl := (Nat.log2_lt (n := x.toNat) (k := 32) (by omega)).2 (by omega)
  have a1 := Nat.log2_self_le (n := x.toNat) (by omega)
  have a2 := Nat.lt_log2_self (n := x.toNat)
  refine ⟨x.toNat.log2 + 1, ⟨by omega, by omega⟩, ?_, ?_, ?_⟩
  · rw [Nat.add_sub_cancel, ← cast_pow2]; omega
  · rw [← cast_pow2]; omega
  obtain ⟨M, hM⟩ : ∃ M : Int, M = ((x.toNat.log2 + 1 : Nat) : Int) := ⟨_, rfl⟩
  rw [← hM]
  -- what a shorter number's length says
  have key : ∀ (y : Int) (e m : Nat), y = x / 2 ^ e → 1 ≤ m → 2 ^ (m - 1) ≤ y.toNat → y.toNat < 2 ^ m → 1 ≤ y → M = (m : Int) + e := fun y e m hy hm b1 b2 b3 => by
    have hp : (0 : Int) < 2 ^ e := pow2_pos e
    have c1 : 2 ^ (m - 1) * 2 ^ e ≤ x.toNat := by
      have : y * 2 ^ e ≤ x := by rw [hy]; exact Int.ediv_mul_le _ (by omega)
      have c2 : ((2 ^ (m - 1) : Nat) : Int) * 2 ^ e ≤ y * 2 ^ e := Int.mul_le_mul_of_nonneg_right (by omega) (by omega)
      rw [← cast_pow2] at c2 this
      have c3 : ((2 ^ (m - 1) * 2 ^ e : Nat) : Int) ≤ x := by rw [Int.natCast_mul]; omega
      omega
    have c2 : x.toNat < 2 ^ m * 2 ^ e := by
      have h3 : x < (y + 1) * 2 ^ e := by rw [hy]; exact Int.lt_ediv_add_one_mul_self _ hp
      have h4 : (y + 1) * 2 ^ e ≤ ((2 ^ m : Nat) : Int) * 2 ^ e := Int.mul_le_mul_of_nonneg_right (by omega) (by omega)
      rw [← cast_pow2] at h3 h4
      have c3 : x < ((2 ^ m * 2 ^ e : Nat) : Int) := by rw [Int.natCast_mul]; omega
      omega
    rw [← Nat.pow_add] at c1 c2
    have d1 : m - 1 + e ≤ x.toNat.log2 := (Nat.le_log2 (by omega)).2 c1
    have d2 : x.toNat.log2 < m + e := (Nat.log2_lt (by omega)).2 c2
    omega
  clear hM hl a1 a2
  have hb : 65536 ≤ x → x / 65536 < 65536 ∧ 1 ≤ x / 65536 := fun h => by omega
  refine callZ ccOk mixed [.val] Try.func93 rfl rfl (by kernel_rfl) fun zwrap zadd zsub zmul zquo zrem zshl zshr zband zbor zbxor zbandn zeq zne zlt zle znot zbeq zbne zmax zmin znat zinb zofN zidx zneq znadd zdif zcut zroom zmkok zlen znth zsetr zisI zgetI zsetI zfit zpart zext zsetg zrep zwide zall zmok zmget zmset zW zth A L F hS hF => ?_
  have s16 : ∀ y, 0 ≤ y → zshr .u32 y 16 = y / 65536 := fun y hy => by rw [show ∀ x, zshr .u32 x 16 = ZI.std.shr .u32 x 16 from fun _ => hS.shr .., shr_std (b := 16) 16 rfl (by decide) hy]; rfl
  have s8 : ∀ y, 0 ≤ y → zshr .u32 y 8 = y / 256 := fun y hy => by rw [show ∀ x, zshr .u32 x 8 = ZI.std.shr .u32 x 8 from fun _ => hS.shr .., shr_std (b := 8) 8 rfl (by decide) hy]; rfl
  have fin : ∀ (T : Abs.Rows) (y : Int) (e : Nat), T = len8rows → y = x / 2 ^ e → 1 ≤ y → y < 256 → e ≤ 24 → ∀ (z : Int), z = e → zle 0 (zwrap .u8 y) = true ∧ zisI .u8 T (znat (zwrap .u8 y)) = true ∧ zwrap .i64 (zadd z (zwrap .i64 (zgetI T (znat (zwrap .u8 y))))) = M := fun T y e hT hy h1 h2 h3 z hz => by
    have hw : zwrap .u8 y = y := by rw [hS.wrap]; exact wrap_u8 (by omega) h2
    have hn : znat y = y.toNat := hS.nat y
    rw [hw, hn]
    refine ⟨by rw [hS.le]; exact decide_eq_true (by omega), by rw [hS.isI]; exact len8_is hT (by omega), ?_⟩
    obtain ⟨m, m1, m2, m3, m4, m5⟩ := len8_key hT (q := zgetI T y.toNat) (hS.getI ..).symm (by omega) (by omega)
    have := key y e m hy m2 m4 m5 h1
    rw [m1, hS.wrap, hS.wrap, hS.add, wrap_i64 (x := (m : Int)) (by omega) (by omega), wrap_i64 (by omega) (by omega)]; omega
  have w8 : zwrap .i64 (zadd 16 8) = 24 := by rw [hS.wrap, hS.add]; rfl
  have w8' : zwrap .i64 (zadd 0 8) = 8 := by rw [hS.wrap, hS.add]; rfl
  cbv
  refine ⟨fun h => ⟨fun h' => ?_, fun h' => ?_⟩, fun h => ⟨fun h' => ?_, fun h' => ?_⟩⟩
  all_goals rw [hS.le] at h
  · have h := of_decide_eq_true h
    rw [s16 x (by omega), hS.le] at h'
    have h' := of_decide_eq_true h'
    rw [s16 x (by omega), s8 _ (by omega), w8]
    generalize hy : x / 65536 / 256 = y
    obtain ⟨f1, f2, f3⟩ := fin _ y 24 (by rfl) (by rw [← hy, Int.ediv_ediv_of_nonneg (by omega)]; rfl) (by omega) (by omega) (by omega) 24 rfl
    refine nd f1 (nd f2 ?_)
    exact fin1 hF (tv_int f3)
  · have h := of_decide_eq_true h
    rw [s16 x (by omega), hS.le] at h'
    have h' := of_decide_eq_false h'
    rw [s16 x (by omega)]
    generalize hy : x / 65536 = y
    obtain ⟨f1, f2, f3⟩ := fin _ y 16 (by rfl) (by rw [← hy]; rfl) (by omega) (by omega) (by omega) 16 rfl
    refine nd f1 (nd f2 ?_)
    exact fin1 hF (tv_int f3)
  · have h := of_decide_eq_false h
    rw [hS.le] at h'
    have h' := of_decide_eq_true h'
    rw [s8 _ (by omega), w8']
    generalize hy : x / 256 = y
    obtain ⟨f1, f2, f3⟩ := fin _ y 8 (by rfl) (by rw [← hy]; rfl) (by omega) (by omega) (by omega) 8 rfl
    refine nd f1 (nd f2 ?_)
    exact fin1 hF (tv_int f3)
  · have h := of_decide_eq_false h
    rw [hS.le] at h'
    have h' := of_decide_eq_false h'
    obtain ⟨f1, f2, f3⟩ := fin _ x 0 (by rfl) (by rw [Int.pow_zero, Int.ediv_one]) (by omega) (by omega) (by omega) 0 rfl
    refine nd f1 (nd f2 ?_)
    exact fin1 hF (tv_int f3)

theorem ilz32_call (x : Int) (h0 : 1 ≤ x) (h1 : x < 4294967296) : ∃ s : Nat, s < 32 ∧ 2147483648 ≤ x * 2 ^ s ∧ x * 2 ^ s < 4294967296 ∧ ACall Try.prog 87 [.val (ti .u32 x)] ⟨[.val (ti .i64 (s : Int))], [none]⟩ := by
  obtain ⟨m, ⟨m1, m2⟩, m3, m4, c⟩ := ilen32_call x h0 h1
  have hp := pow2_pos (32 - m)
  have e1 : (2 : Int) ^ (m - 1) * 2 ^ (32 - m) = 2147483648 := by rw [← Int.pow_add, show m - 1 + (32 - m) = 31 by omega]; rfl
  have e2 : (2 : Int) ^ m * 2 ^ (32 - m) = 4294967296 := by rw [← Int.pow_add, show m + (32 - m) = 32 by omega]; rfl
  refine ⟨32 - m, by omega, ?_, ?_, ?_⟩
  · have := Int.mul_le_mul_of_nonneg_right m3 (show (0 : Int) ≤ 2 ^ (32 - m) by omega); omega
  · have := Int.mul_lt_mul_of_pos_right m4 hp; omega
  have hm : ((32 - m : Nat) : Int) = 32 - (m : Int) := by omega
  rw [hm]
  generalize hM : (m : Int) = M at *
  refine callZ ccOk mixed [.val] Try.func87 rfl rfl (by kernel_rfl) fun zwrap zadd zsub zmul zquo zrem zshl zshr zband zbor zbxor zbandn zeq zne zlt zle znot zbeq zbne zmax zmin znat zinb zofN zidx zneq znadd zdif zcut zroom zmkok zlen znth zsetr zisI zgetI zsetI zfit zpart zext zsetg zrep zwide zall zmok zmget zmset zW zth A L F hS hF => ?_
  have w : zwrap .i64 (zsub 32 M) = 32 - M := by rw [hS.wrap, hS.sub, wrap_i64 (by omega) (by omega)]
  cbv
  refine ⟨_, hS.call (c), ?_⟩
  cbv
  exact fin1 hF (tv_int w)
end Go.Proofs.Ytgncmjcoojmccaa
end

section
set_option linter.unusedVariables false
set_option linter.unusedSimpArgs false
set_option maxHeartbeats 8000000
set_option linter.unusedVariables false
set_option linter.unusedSimpArgs false
set_option maxRecDepth 100000
namespace Go.Proofs.Ytgncmjcoojmccaa
open Go Go.Abs Go.Abs.M Go.Proofs
def idivSt (r s v U Q : Abs.Rows) (ul ql : Nat) (n d j : Int) : St := mkSt 88 [vl r, vl s, .junk, .junk, vnil, vnil, .junk, .junk, vi .i64 n, vi .i64 d, .c (.sl 10 0 ul false), vl v, .c (.sl 14 0 ql false), vi .i64 j] [none, none, none, none, none, none, none, none, none, none, some (.rows 1 U true false), none, none, none, some (.rows 1 Q true false)]

/-- The walk of the long division: what is to be known of the numbers comes as premises. -/
theorem idivide_walk {r s v0 v A2 A3 : Abs.Rows} {U V w1 c : Int} {n la m l1 m1 n1 n' sh : Nat} {lr ls lv lv0 u0 : List Int}
    (hr : r = W .u32 lr) (hs : s = W .u32 ls) (hv0 : v0 = W .u32 lv0) (hv0l : lv0.length = n1) (hv0v : lv0.take n = lv) (hv : v = W .u32 lv) (lrl : lr.length = la) (lsl : ls.length = n) (hsz : la ≤ 549755813888) (hn : 2 ≤ n) (hm : la = n + m) (hl1 : l1 = la + 1) (hm1 : m1 = m + 1) (hn1 : n1 = n + 1) (hn' : n = n' + 1)
    (hw1 : ls.getD n' 0 = w1) (hc : ¬ c < 0) (hu0l : u0.length = l1)
    (llv : lv.length = n) (wlv : Wd lv) (vlv : val lv = V) (htop : 2147483648 ≤ lv.getD (n - 1) 0)
    (hstart : DInv U V n m (m + 1) u0 (List.replicate m1 0))
    (t1 : ACall Try.prog 74 [.val (tl r)] ⟨[.val (tl r)], [none]⟩)
    (t2 : ACall Try.prog 74 [.val (tl s)] ⟨[.val (tl s)], [none]⟩)
    (cc : ACall Try.prog 70 [.val (tl r), .val (tl s)] ⟨[.val (ti .i64 c)], [none, none]⟩)
    (cz : ACall Try.prog 87 [.val (ti .u32 w1)] ⟨[.val (ti .i64 (sh : Int))], [none]⟩)
    (c1 : ACall Try.prog 88 [.val (tl r), .val (ti .i64 (sh : Int))] ⟨[.own 1 (W .u32 u0)], [none, none]⟩)
    (c2 : ACall Try.prog 88 [.val (tl s), .val (ti .i64 (sh : Int))] ⟨[.val (tl v0)], [none, none]⟩)
    (hlast : ∀ u q, DInv U V n m 0 u q → ACall Try.prog 74 [.val (tl (W .u32 q))] ⟨[.val (tl A2)], [none]⟩ ∧
      ACall Try.prog 90 [.val (tl (W .u32 (u.take n))), .val (ti .i64 (sh : Int))] ⟨[.val (tl A3)], [none, none]⟩) :
    ACall Try.prog 75 [.val (tl r), .val (tl s)] ⟨[.val (tl A2), .val (tl A3)], [none, none]⟩ := by
  obtain ⟨SH, hSH⟩ : ∃ SH : Int, SH = sh := ⟨_, rfl⟩
  rw [← hSH] at cz c1 c2
  simp only [← hSH] at hlast
  refine callZ ccOk mixed [.val, .val] Try.func75 rfl rfl (by kernel_rfl) fun zwrap zadd zsub zmul zquo zrem zshl zshr zband zbor zbxor zbandn zeq zne zlt zle znot zbeq zbne zmax zmin znat zinb zofN zidx zneq znadd zdif zcut zroom zmkok zlen znth zsetr zisI zgetI zsetI zfit zpart zext zsetg zrep zwide zall zmok zmget zmset zW zth A L F hS hF => ?_
  have z1 : zlen r = la := by rw [hS.len, hr, W_len, lrl]
  have z2 : zlen s = n := by rw [hS.len, hs, W_len, lsl]
  have z3 : zwrap .i64 (zsub (zofN n) 1) = zofN n' := by rw [hS.wrap, hS.sub, hS.ofN, hS.ofN, wrap_i64 (by omega) (by omega)]; omega
  have z4 : zgetI s (znat (zofN n')) = w1 := by rw [hS.getI, hS.nat, hS.ofN, hs, W_getI, Int.toNat_natCast, hw1]
  have z8 : zwrap .i64 (zsub (zofN la) (zofN n)) = zsub (zofN (m + 1)) 1 := by rw [hS.wrap, hS.sub, hS.ofN, hS.ofN, hS.sub, hS.ofN, wrap_i64 (by omega) (by omega)]; omega
  have z9 : zwrap .i64 (zadd (zsub (zofN (m + 1)) 1) 1) = zofN m1 := by rw [hS.wrap, hS.add, hS.sub, hS.ofN, hS.ofN, wrap_i64 (by omega) (by omega)]; omega
  have znt : ∀ k, znat (zofN k) = k := fun k => by rw [hS.nat, hS.ofN]; omega
  have hrep : ∀ k, zrep k [.v (.int .u32 0)] = zW .u32 (List.replicate k 0) := fun k => by rw [hS.rep, hS.W]; exact W_rep ..
  have o1 : zlt c 0 = false := by rw [hS.lt]; exact decide_eq_false hc
  have o2 : zeq (zofN n) 1 = false := by rw [hS.eq, hS.ofN]; exact decide_eq_false (by omega)
  have o3 : zle 0 (zofN n') = true := by rw [hS.le, hS.ofN]; exact decide_eq_true (by omega)
  have o4 : zisI .u32 s (znat (zofN n')) = true := by rw [hS.isI, znt, hs, W_isI]; exact decide_eq_true (by omega)
  have o6 : zcut 0 (zofN n) (zlen v0) = true := by rw [hS.cut, hS.ofN, hS.len, hv0, W_len]; exact decide_eq_true (by omega)
  have o8 : zwide 1 v0 = true := by rw [hS.wide, hv0]; exact W_wide _ _
  have o9 : zpart v0 0 n = v := by rw [hS.part, hv0, W_part, List.drop_zero, hv0v, hv]
  have hcap : (m1 : Int) * 4 ≤ 70368744177664 := by omega
  have o10 : zmkok (zofN m1) (zofN m1) 4 = true := by rw [hS.mkok, hS.ofN]; exact decide_eq_true ⟨Int.natCast_nonneg m1, Int.le_refl _, by unfold capBytes; omega⟩
  have z10 : zlen (zW .u32 u0) = l1 := by rw [hS.len, hS.W, W_len, hu0l]
  rw [← hS.W] at c1
  clear hr hs lrl lsl hw1 hc hv0 hv0l hv0v
  cbv
  refine ⟨_, hS.call (t1), ?_⟩
  cbv
  refine ⟨_, hS.call (t2), ?_⟩
  cbv
  refine ⟨_, hS.call (cc), ?_⟩
  cbv
  rw [z2, z3, z4]
  refine bF (o1) ?_
  refine bF (o2) ?_
  refine nd (o3) ?_
  refine nd (o4) ?_
  refine ⟨_, hS.call (cz), ?_⟩
  cbv
  refine ⟨_, hS.call (c1), ?_⟩
  cbv
  refine ⟨_, hS.call (c2), ?_⟩
  cbv
  rw [z1, z8, z9, znt, znt, hrep, o9, z10]
  refine nd o6 (nd o8 (nd o10 ?_))
  clear z2 z3 z4 z8 z9 o1 o2 o3 o4 o6 o8 o9 o10 cc c1 c2 z1 z10 t1 t2 cz
  refine loopZ ccOk mixed hS (fun (k : Nat) s' => ∃ (u q : List Int), DInv U V n m k u q ∧ s' = idivSt r s v (zW .u32 u) (zW .u32 q) l1 m1 (zofN n) SH (zsub (zofN k) 1)) (n := m + 1)
    (s0 := idivSt r s v (zW .u32 u0) (zW .u32 (List.replicate m1 0)) l1 m1 (zofN n) SH (zsub (zofN (m + 1)) 1)) (le_of ?_ ?_) rfl (by show 2 ≤ 15; omega) ?_ ?_
  · simp [leT, idivSt, mkSt, vi, vl, vnil]
  · simp [leH, idivSt, mkSt]
  · exact ⟨_, _, by rw [← hm1] at hstart ⊢; exact hstart, rfl⟩
  · rintro k _ ⟨u, q, hI, rfl⟩
    cases k with
    | zero =>
      have hul := hI.ul
      have hql := hI.ql
      obtain ⟨x1, x2⟩ := hlast u q hI
      have hz : zle 0 (zsub (zofN 0) 1) = false := by rw [hS.le, hS.sub, hS.ofN]; rfl
      have e10 : zfit 0 m1 (zW .u32 q) = true := by rw [hS.fit, hS.W, W_len]; exact decide_eq_true (by omega)
      have e11 : zpart (zW .u32 q) 0 m1 = W .u32 q := by rw [hS.part, hS.W, W_part, List.drop_zero, List.take_of_length_le (by omega)]
      have e12 : zcut 0 (zofN n) l1 = true := by rw [hS.cut, hS.ofN]; exact decide_eq_true (by omega)
      have e13 : zfit 0 n (zW .u32 u) = true := by rw [hS.fit, hS.W, W_len]; exact decide_eq_true (by omega)
      have e14 : zpart (zW .u32 u) 0 n = W .u32 (u.take n) := by rw [hS.part, hS.W, W_part, List.drop_zero]
      clear hlast hI
      generalize W .u32 (u.take n) = ut at *
      generalize W .u32 q = qt at *
      cbv
      refine bF hz ?_
      rw [e11]
      refine nd e10 ⟨_, hS.call x1, ?_⟩
      cbv
      rw [znt, e14]
      refine nd e12 (nd e13 ⟨_, hS.call x2, ?_⟩)
      cbv
      exact hF _ (ResLe.refl _)
    | succ j =>
      obtain ⟨g, qd, b, x1, hg, g0, g1, q0, q1, hb, hx1, lx1, wx1, hjm, hul, hql, pl, pw, ht, hf⟩ := div_round hI hn llv wlv vlv htop
      obtain ⟨x, lx, hneg, hpos, hI2⟩ : ∃ x : List Int, x.length = n + 1 ∧ (val (dpart n j u) - g * val lv < 0 → g - 1 = qd ∧ x = wds (n + 1) (val (dpart n j u) - g * val lv + val lv)) ∧ (¬ val (dpart n j u) - g * val lv < 0 → g = qd ∧ x = wds (n + 1) (val (dpart n j u) - g * val lv)) ∧ DInv U V n m j (setRg u j x) (q.set j qd) := by
        cases b with
        | true =>
          obtain ⟨a1, x2, a2, a3, a4⟩ := ht rfl
          refine ⟨x2, a3, fun _ => ⟨a1, ?_⟩, fun h => absurd (of_decide_eq_true hb.symm) h, a4⟩
          rw [a2, lx1, hx1, wds_back]
        | false =>
          obtain ⟨a1, a2⟩ := hf rfl
          exact ⟨x1, lx1, fun h => absurd h (of_decide_eq_false hb.symm), fun _ => ⟨a1, hx1⟩, a2⟩
      have cq := iquotientWord_call (r := zW .u32 (dpart n j u)) (s := v) (u := dpart n j u) (v := lv) (x := x) (n := n) g qd (by rw [hS.W]) hv pl llv hn (by omega) pw wlv htop hg g0 g1 ⟨q0, q1⟩ hneg hpos
      rw [← hS.W] at cq
      clear hg hb hx1 ht hf hneg hpos
      have hi : zsub (zofN (j + 1)) 1 = (j : Int) := by rw [hS.sub, hS.ofN]; omega
      have hz : zle 0 (zsub (zofN (j + 1)) 1) = true := by rw [hS.le, hi]; exact decide_eq_true (by omega)
      have hw1' : zwrap .i64 (zsub (zsub (zofN (j + 1)) 1) 1) = zsub (zofN j) 1 := by rw [hi, hS.wrap, hS.sub, hS.sub, hS.ofN, wrap_i64 (by omega) (by omega)]
      have y1 : zwrap .i64 (zadd (zwrap .i64 (zadd (zsub (zofN (j + 1)) 1) (zofN n))) 1) = zofN (j + n1) := by
        rw [hi, hS.wrap, hS.wrap, hS.add, hS.add, hS.ofN, hS.ofN, wrap_i64 (x := (j : Int) + n) (by omega) (by omega), wrap_i64 (by omega) (by omega)]; omega
      have y2 : zidx 0 (zsub (zofN (j + 1)) 1) = j := by rw [hS.idx, hi]; omega
      have y3 : zdif (zofN (j + n1)) (zsub (zofN (j + 1)) 1) = n1 := by rw [hS.dif, hi, hS.ofN]; omega
      have y4 : ∀ u' : List Int, zpart (zW .u32 u') j n1 = zW .u32 (dpart n j u') := fun u' => by rw [hS.part, hS.W, W_part, hn1]; rfl
      have y5 : ∀ u' x : List Int, zsetg (zW .u32 u') j (zW .u32 x) = zW .u32 (setRg u' j x) := fun u' x => by rw [hS.setg, hS.W, W_setg]; rfl
      have y6 : zcut (zsub (zofN (j + 1)) 1) (zofN (j + n1)) l1 = true := by rw [hS.cut, hi, hS.ofN]; exact decide_eq_true (by omega)
      have y7 : zfit j n1 (zW .u32 u) = true := by rw [hS.fit, hS.W, W_len]; exact decide_eq_true (by omega)
      have y8 : zneq (zlen (zW .u32 x)) n1 = true := by rw [hS.neq, hS.len, hS.W, W_len, hn1]; exact decide_eq_true lx
      have y13 : zinb (zsub (zofN (j + 1)) 1) m1 = true := by rw [hS.inb, hi]; exact decide_eq_true (by omega)
      have y14 : zisI .u32 (zW .u32 q) j = true := by rw [hS.isI, hS.W, W_isI]; exact decide_eq_true (by omega)
      have y15 : ∀ x, zsetI .u32 (zW .u32 q) j x = zW .u32 (q.set j x) := fun x => by rw [hS.setI, hS.W, W_set]
      clear hI hi hlast
      cbv
      refine bT hz ?_
      rw [y1, y2, y3, y4]
      refine nd y6 (nd y7 ⟨_, hS.call cq, ?_⟩)
      cbv
      rw [y2, y5, y15, hw1']
      refine nd y8 (nd y13 (nd y14 ?_))
      exact again (s' := idivSt r s v (zW .u32 (setRg u j x)) (zW .u32 (q.set j qd)) l1 m1 (zofN n) SH (zsub (zofN j) 1)) (m := j) (by simp [leT, idivSt, mkSt, vi, vl, vnil]) (by simp [leH, idivSt, mkSt]) rfl (by show 2 ≤ 15; omega) (by omega) ⟨_, _, hI2, rfl⟩
end Go.Proofs.Ytgncmjcoojmccaa
end

section
set_option linter.unusedVariables false
set_option linter.unusedSimpArgs false
set_option maxHeartbeats 8000000
set_option linter.unusedVariables false
set_option linter.unusedSimpArgs false
set_option maxRecDepth 100000
namespace Go.Proofs.Ytgncmjcoojmccaa
open Go Go.Abs Go.Abs.M Go.Proofs

theorem itrimM {n : Nat} {r : Abs.Rows} (hr : IsM n r) (hl : nl n ≤ 2199023255552) : ACall Try.prog 74 [.val (tl r)] ⟨[.val (tl r)], [none]⟩ := by
  have h := itrim_call hr hl (dg_wd n)
  rw [dg_val, Int.toNat_natCast, ← hr] at h
  exact h

theorem idivide_long {r s : Abs.Rows} {a b : Nat} (hr : IsM a r) (hs : IsM b s) (h2 : 2 ≤ nl b) (hab : b ≤ a) (hsz : nl a ≤ 549755813888) :
    ACall Try.prog 75 [.val (tl r), .val (tl s)] ⟨[.val (tl (W .u32 (dg (a / b)))), .val (tl (W .u32 (dg (a % b))))], [none, none]⟩ := by
  obtain ⟨n, hn⟩ : ∃ n, n = nl b := ⟨_, rfl⟩
  obtain ⟨la, hla⟩ : ∃ la, la = nl a := ⟨_, rfl⟩
  have hmono := nl_mono hab
  obtain ⟨m, hm⟩ : ∃ m, la = n + m := ⟨la - n, by omega⟩
  obtain ⟨n', hn'⟩ : ∃ n', n = n' + 1 := ⟨n - 1, by omega⟩
  have lb : (dg b).length = n := hn.symm
  have laa : (dg a).length = la := hla.symm
  obtain ⟨w1, hw1⟩ : ∃ w1, w1 = (dg b).getD n' 0 := ⟨_, rfl⟩
  have hw1b := (dg_wd b).get n'
  rw [← hw1] at hw1b
  have htw := top_word (dg_wd b) (n := n') (by omega)
  rw [← hw1, dg_val] at htw
  have hw1p : 1 ≤ w1 := by
    rcases dg_tr b with h | h
    · rw [h] at lb; simp at lb; omega
    · rw [lb, hn', Nat.add_sub_cancel, ← hw1] at h; omega
  obtain ⟨sh, s1, s2, s3, cz⟩ := ilz32_call w1 hw1p hw1b.2
  have hbpos : 0 < (b : Int) := by
    rcases Nat.eq_zero_or_pos b with h | h
    · subst h; simp [dg_zero] at lb; omega
    · omega
  obtain ⟨d, hd⟩ : ∃ d : Int, d = 2 ^ sh := ⟨_, rfl⟩
  have d1 : 1 ≤ d := by have := pow2_pos sh; omega
  have d2 : d ≤ 2147483648 := by have := pow2_le s1; omega
  rw [← hd] at s2 s3
  obtain ⟨V, hV⟩ : ∃ V, V = d * b := ⟨_, rfl⟩
  have hV0 : 0 < V := by rw [hV]; exact Int.mul_pos (by omega) hbpos
  have hpow : (4294967296 : Int) ^ n = 4294967296 ^ n' * 4294967296 := by rw [hn', Int.pow_succ]
  have hp' := pow_pos' n'
  have hVlt : V < 4294967296 ^ n := by
    have x1 : d * (b : Int) < d * ((w1 + 1) * 4294967296 ^ n') := Int.mul_lt_mul_of_pos_left htw.2 (by omega)
    have x2 : d * ((w1 + 1) * (4294967296 : Int) ^ n') = (w1 * d + d) * 4294967296 ^ n' := by grind
    have x3 : (w1 * d + d) * (4294967296 : Int) ^ n' ≤ 4294967296 * 4294967296 ^ n' := by
      refine Int.mul_le_mul_of_nonneg_right ?_ (by omega)
      have : (w1 + 1) * d ≤ 4294967296 := by
        -- w1 * d is a multiple of d below 2^32, and d divides 2^32
        obtain ⟨e, he⟩ : ∃ e : Int, 4294967296 = e * d := ⟨2 ^ (32 - sh), by rw [hd, ← Int.pow_add, show 32 - sh + sh = 32 by omega]; rfl⟩
        have y1 : w1 < e := by
          rcases Int.lt_or_le w1 e with h | h
          · exact h
          · exfalso
            have := Int.mul_le_mul_of_nonneg_right h (show 0 ≤ d by omega)
            omega
        have := Int.mul_le_mul_of_nonneg_right (show w1 + 1 ≤ e by omega) (show 0 ≤ d by omega)
        omega
      have y2 : (w1 + 1) * d = w1 * d + d := by grind
      omega
    rw [hpow, hV]; omega
  have hVge : 2147483648 * 4294967296 ^ n' ≤ V := by
    have x1 : w1 * 4294967296 ^ n' * d ≤ (b : Int) * d := Int.mul_le_mul_of_nonneg_right htw.1 (by omega)
    have x2 : 2147483648 * 4294967296 ^ n' ≤ w1 * d * 4294967296 ^ n' := Int.mul_le_mul_of_nonneg_right s2 (by omega)
    have x3 : w1 * d * (4294967296 : Int) ^ n' = w1 * 4294967296 ^ n' * d := by grind
    rw [hV, Int.mul_comm d]; omega
  have hpow1 : (4294967296 : Int) ^ n < 4294967296 ^ (n + 1) := by rw [Int.pow_succ]; have := pow_pos' n; omega
  obtain ⟨lv0, hlv0⟩ : ∃ lv0, lv0 = wds (n + 1) V := ⟨_, rfl⟩
  have llv0 : lv0.length = n + 1 := by rw [hlv0, wds_length]
  have wlv0 : Wd lv0 := by rw [hlv0]; exact wds_wd _ _
  have vlv0 : val lv0 = V := by rw [hlv0]; exact wds_eq (by omega) (by omega)
  obtain ⟨lv, hlv⟩ : ∃ lv, lv0.take n = lv := ⟨_, rfl⟩
  have vlv : val lv = V := by rw [← hlv, (val_take_eq wlv0 (p := n) (by rw [vlv0]; exact hVlt)).1, vlv0]
  have wlv : Wd lv := by rw [← hlv]; exact wlv0.take n
  have llv : lv.length = n := by rw [← hlv]; simp; omega
  have htop : 2147483648 ≤ lv.getD (n - 1) 0 := by
    have t := (top_word wlv (n := n') (by omega)).2
    rw [vlv] at t
    rw [hn', Nat.add_sub_cancel]
    rcases Int.lt_or_le (lv.getD n' 0) 2147483648 with h | h
    · exfalso
      have := Int.mul_le_mul_of_nonneg_right (show lv.getD n' 0 + 1 ≤ 2147483648 by omega) (show (0 : Int) ≤ 4294967296 ^ n' by omega)
      omega
    · exact h
  obtain ⟨u0, hu0⟩ : ∃ u0, u0 = wds (la + 1) (d * a) := ⟨_, rfl⟩
  have hda : 0 ≤ d * (a : Int) := Int.mul_nonneg (by omega) (by omega)
  have hdalt : d * (a : Int) < 4294967296 ^ (la + 1) := by
    have x1 := lt_nl a
    rw [← hla] at x1
    have x2 : d * (a : Int) ≤ 4294967296 * a := Int.mul_le_mul_of_nonneg_right (by omega) (by omega)
    rw [Int.pow_succ]
    omega
  have vu0 : val u0 = d * a := by rw [hu0]; exact wds_eq hda hdalt
  have lu0 : u0.length = la + 1 := by rw [hu0, wds_length]
  have wu0 : Wd u0 := by rw [hu0]; exact wds_wd _ _
  have t1 := itrimM hr (by omega)
  have t2 := itrimM hs (by omega)
  have cc := icompare_call (cmpI a b) hr hs (by omega) (by omega) (dg_wd _) (dg_wd _) (dg_tr _) (dg_tr _) (by rw [dg_val, dg_val])
  have c1 := ishiftLeft_own sh hr (by omega) (dg_wd _) s1
  rw [laa, dg_val, ← hd, ← hu0] at c1
  have c2 := ishiftLeft_call sh hs (by omega) (dg_wd _) s1
  rw [lb, dg_val, ← hd, ← hV, ← hlv0] at c2
  have hUlt : d * (a : Int) < V * 4294967296 ^ (m + 1) := by
    have x1 := lt_nl a
    rw [← hla, hm] at x1
    have x2 : (4294967296 : Int) ^ (n + m) = 4294967296 ^ n' * 4294967296 ^ (m + 1) := by rw [← Int.pow_add]; congr 1; omega
    have x3 : w1 * 4294967296 ^ n' * 4294967296 ^ (m + 1) ≤ (b : Int) * 4294967296 ^ (m + 1) := Int.mul_le_mul_of_nonneg_right htw.1 (by have := pow_pos' (m + 1); omega)
    have x4 : 1 * (4294967296 ^ n' * 4294967296 ^ (m + 1)) ≤ w1 * (4294967296 ^ n' * (4294967296 : Int) ^ (m + 1)) := Int.mul_le_mul_of_nonneg_right hw1p (by have := Int.mul_pos (pow_pos' n') (pow_pos' (m + 1)); omega)
    have x5 : w1 * 4294967296 ^ n' * 4294967296 ^ (m + 1) = w1 * (4294967296 ^ n' * (4294967296 : Int) ^ (m + 1)) := by grind
    have x6 : d * (a : Int) < d * (b * 4294967296 ^ (m + 1)) := Int.mul_lt_mul_of_pos_left (by omega) (by omega)
    have x7 : d * ((b : Int) * 4294967296 ^ (m + 1)) = d * b * 4294967296 ^ (m + 1) := by grind
    rw [hV]; omega
  have hstart := DInv.start (n := n) (m := m) (by rw [lu0, hm]) wu0 vu0 hUlt
  refine idivide_walk hr hs rfl llv0 hlv rfl laa lb (by omega) (by omega) hm rfl rfl rfl hn' hw1.symm (c := cmpI a b) (by unfold cmpI; rw [if_neg (by omega)]; split <;> omega) lu0 llv wlv vlv htop hstart t1 t2 cc cz c1 c2 fun u q hI => ?_
  rw [hV] at hI
  obtain ⟨l1, l2⟩ := hI.last (by omega) hbpos
  have vu0 := val_nonneg hI.uw
  have hul := hI.ul
  have hql := hI.ql
  have hlt := hI.lt
  rw [List.drop_zero] at hlt
  have hut := (val_take_eq hI.uw (p := n) (by omega)).1
  have t2 := itrim_call (r := W .u32 q) rfl (by omega) hI.qw
  have t3 := ishiftRight_call (r := W .u32 (u.take n)) sh rfl (by simp; omega) (hI.uw.take n) s1
  rw [hut, ← hd, l2] at t3
  rw [l1] at t2
  exact ⟨t2, t3⟩

/-- Division of absolute values. -/
theorem idivide_call {r s : Abs.Rows} {a b : Nat} (hr : IsM a r) (hs : IsM b s) (hb : b ≠ 0) (hsz : nl a ≤ 549755813888) (hszb : nl b ≤ 549755813888) :
    ∃ x y, IsM (a / b) x ∧ IsM (a % b) y ∧ ACall Try.prog 75 [.val (tl r), .val (tl s)] ⟨[.val (tl x), .val (tl y)], [none, none]⟩ := by
  have cc := icompare_call (cmpI a b) hr hs (by unfold nl at hsz; omega) (by unfold nl at hszb; omega) (dg_wd _) (dg_wd _) (dg_tr _) (dg_tr _) (by rw [dg_val, dg_val])
  have t1 := itrimM hr (by omega)
  have t2 := itrimM hs (by omega)
  have tc := iclone_call hr (by unfold nl at hsz; omega)
  by_cases hab : a < b
  · refine ⟨[], r, by rw [Nat.div_eq_of_lt hab]; rfl, by rw [Nat.mod_eq_of_lt hab]; exact hr, ?_⟩
    rw [cmpI_lt (by omega)] at cc
    refine callZ ccOk mixed [.val, .val] Try.func75 rfl rfl (by kernel_rfl) fun zwrap zadd zsub zmul zquo zrem zshl zshr zband zbor zbxor zbandn zeq zne zlt zle znot zbeq zbne zmax zmin znat zinb zofN zidx zneq znadd zdif zcut zroom zmkok zlen znth zsetr zisI zgetI zsetI zfit zpart zext zsetg zrep zwide zall zmok zmget zmset zW zth A L F hS hF => ?_
    have z0 : zlt (-1) 0 = true := by rw [hS.lt]; rfl
    cbv
    refine ⟨_, hS.call (t1), ?_⟩
    cbv
    refine ⟨_, hS.call (t2), ?_⟩
    cbv
    refine ⟨_, hS.call (cc), ?_⟩
    cbv
    refine bT (z0) ?_
    refine ⟨_, hS.call (tc), ?_⟩
    cbv
    exact fin2w hF (TLe.drop _ _) (TVLe.refl _)
  · by_cases h1 : nl b = 1
    · obtain ⟨x, hx⟩ : ∃ x, IsM (a / b) x := ⟨_, rfl⟩
      obtain ⟨y, hy⟩ : ∃ y, IsM (a % b) y := ⟨_, rfl⟩
      refine ⟨x, y, hx, hy, ?_⟩
      have hblt : (b : Int) < 4294967296 := by have := lt_nl b; rw [h1] at this; omega
      have hdgb : dg b = [(b : Int)] := by
        rw [dg_pos hb, show b % 4294967296 = b by omega, show b / 4294967296 = 0 by omega, dg_zero]
      have hmod : (a : Int) % b < b := Int.emod_lt_of_pos _ (by omega)
      have hmod0 : 0 ≤ (a : Int) % b := Int.emod_nonneg _ (by omega)
      have c1 := idivideSmall_call b ((a : Int) / b) ((a : Int) % b) hr (by unfold nl at hsz; omega) (dg_wd _) (by omega) hblt (by rw [dg_val]) (by rw [dg_val])
      have c2 := iwords_call ((a : Int) % b) hmod0 (by omega)
      have q1 : W .u32 (dg ((a : Int) / b).toNat) = x := hx.symm
      have q2 : W .u32 (dg ((a : Int) % b).toNat) = y := hy.symm
      rw [q1] at c1
      rw [q2] at c2
      obtain ⟨c, hc, hc0⟩ : ∃ c, cmpI (a : Int) b = c ∧ ¬ c < 0 := ⟨_, rfl, by
        unfold cmpI
        rw [if_neg (by omega)]
        split <;> omega⟩
      rw [hc] at cc
      generalize (a : Int) % b = e at *
      generalize hbv : (b : Int) = d at *
      refine callZ ccOk mixed [.val, .val] Try.func75 rfl rfl (by kernel_rfl) fun zwrap zadd zsub zmul zquo zrem zshl zshr zband zbor zbxor zbandn zeq zne zlt zle znot zbeq zbne zmax zmin znat zinb zofN zidx zneq znadd zdif zcut zroom zmkok zlen znth zsetr zisI zgetI zsetI zfit zpart zext zsetg zrep zwide zall zmok zmget zmset zW zth A L F hS hF => ?_
      have z1 : zlt c 0 = false := by rw [hS.lt]; exact decide_eq_false hc0
      have z2 : zeq (zofN (zlen s)) 1 = true := by rw [hS.len, hs, W_len, hdgb, hS.ofN, hS.eq]; rfl
      have z3 : zisI .u32 s (znat 0) = true := by rw [hS.isI, hs, hS.nat, hdgb]; rfl
      have z4 : zwrap .u64 (zgetI s (znat 0)) = d := by rw [hS.getI, hs, hS.nat, W_getI, hdgb, hS.wrap]; exact wrap_u64 (by show 0 ≤ d; omega) (by show d < _; omega)
      have z5 : zle 0 0 = true := by rw [hS.le]; rfl
      cbv
      refine ⟨_, hS.call (t1), ?_⟩
      cbv
      refine ⟨_, hS.call (t2), ?_⟩
      cbv
      refine ⟨_, hS.call (cc), ?_⟩
      cbv
      rw [z4]
      refine bF (z1) ?_
      refine bT (z2) ?_
      refine nd (z5) ?_
      refine nd (z3) ?_
      refine ⟨_, hS.call (c1), ?_⟩
      cbv
      refine ⟨_, hS.call (c2), ?_⟩
      cbv
      exact hF _ (ResLe.refl _)
    · have h0 : nl b ≠ 0 := fun h => hb (nl_zero.1 h)
      exact ⟨_, _, rfl, rfl, idivide_long hr hs (by omega) (by omega) hsz⟩
end Go.Proofs.Ytgncmjcoojmccaa
end

section
set_option linter.unusedVariables false
set_option linter.unusedSimpArgs false
set_option maxHeartbeats 8000000
set_option linter.unusedVariables false
set_option linter.unusedSimpArgs false
set_option maxRecDepth 100000
namespace Go.Proofs.Ytgncmjcoojmccaa
open Go Go.Abs Go.Abs.M Go.Proofs

/-- The cells of an integer, 'minus zero' too. -/
def IsS (x : Int) (s : Bool) (r : Abs.Rows) : Prop := IsM x.natAbs r ∧ ((s = true → x ≤ 0) ∧ (s = false → 0 ≤ x))

theorem IsS.of {x : Int} {s : Bool} {r : Abs.Rows} (h : IsI x s r) : IsS x s r := by
  refine ⟨h.m, fun hs => ?_, fun hs => ?_⟩
  · rw [h.s] at hs; have := of_decide_eq_true hs; omega
  · rw [h.s] at hs; have := of_decide_eq_false hs; omega

theorem IsS.neg {x : Int} {s : Bool} {r : Abs.Rows} (h : IsS x s r) : IsS (-x) (!s) r := by
  obtain ⟨h1, h2, h3⟩ := h
  refine ⟨by rw [Int.natAbs_neg]; exact h1, fun hs => ?_, fun hs => ?_⟩
  · have := h3 (by simpa using hs); omega
  · have := h2 (by simpa using hs); omega

/-- What a sign and an absolute value make. -/
theorem isignedS {x : Int} {r : Abs.Rows} (s : Bool) (hx : IsS x s r) (hl : nl x.natAbs ≤ 2199023255552) : ∃ u, IsI x u r ∧ ACall Try.prog 67 [.val (tb s), .val (tl r)] ⟨[.val (.agg (iT u r))], [none, none]⟩ := by
  obtain ⟨h1, h2, h3⟩ := hx
  refine ⟨decide (x < 0), ⟨rfl, h1⟩, isignedM s _ h1 hl ?_⟩
  cases s with
  | true => have := h2 rfl; rw [Bool.true_and, Bool.eq_iff_iff]; simp; omega
  | false => have := h3 rfl; rw [Bool.false_and]; exact decide_eq_false (by omega)

theorem iof_call (n : Int) (h1 : -9223372036854775808 ≤ n) (h2 : n < 9223372036854775808) : ∃ u w, IsI n u w ∧ ACall Try.prog 44 [.val (ti .i64 n)] ⟨[.val (.agg (iT u w))], [none]⟩ := by
  obtain ⟨w, hw⟩ : ∃ w, IsM n.natAbs w := ⟨_, rfl⟩
  have hl : nl n.natAbs ≤ 2 := nl_le_of (by omega)
  have hwords := iwords_call n.natAbs (by omega) (by omega)
  rw [Int.toNat_natCast, show W .u32 (dg n.natAbs) = w from hw.symm] at hwords
  obtain ⟨u, hu, cs⟩ := isignedS (x := n) (decide (n < 0)) ⟨hw, fun h => by have := of_decide_eq_true h; omega, fun h => by have := of_decide_eq_false h; omega⟩ (by omega)
  refine ⟨u, w, hu, ?_⟩
  obtain ⟨M, hM⟩ : ∃ M : Int, M = n.natAbs := ⟨_, rfl⟩
  obtain ⟨D, hD⟩ : ∃ D, D = decide (n < 0) := ⟨_, rfl⟩
  rw [← hM] at hwords
  rw [← hD] at cs
  refine callZ ccOk mixed [.val] Try.func44 rfl rfl (by kernel_rfl) fun zwrap zadd zsub zmul zquo zrem zshl zshr zband zbor zbxor zbandn zeq zne zlt zle znot zbeq zbne zmax zmin znat zinb zofN zidx zneq znadd zdif zcut zroom zmkok zlen znth zsetr zisI zgetI zsetI zfit zpart zext zsetg zrep zwide zall zmok zmget zmset zW zth A L F hS hF => ?_
  have hlt : zlt n 0 = D := by rw [hD]; exact hS.lt ..
  have e1 : D = true → zwrap .u64 (zsub 0 (zwrap .u64 n)) = M := fun h => by
    rw [hD] at h
    have := of_decide_eq_true h
    rw [hS.wrap, hS.wrap, hS.sub, wrap_u64m, wrap_u64m]; omega
  have e2 : D = false → zwrap .u64 n = M := fun h => by
    rw [hD] at h
    have := of_decide_eq_false h
    rw [hS.wrap, wrap_u64 (by omega) (by omega)]; omega
  clear hM hD hw hl hu
  cbv
  rw [hlt]
  refine ⟨fun h => ?_, fun h => ?_⟩
  · rw [e1 h]
    refine ⟨_, hS.call (hwords), ?_⟩
    cbv
    refine ⟨_, hS.call (cs), ?_⟩
    cbv
    exact hF _ (ResLe.refl _)
  · rw [e2 h]
    refine ⟨_, hS.call (hwords), ?_⟩
    cbv
    refine ⟨_, hS.call (cs), ?_⟩
    cbv
    exact hF _ (ResLe.refl _)

theorem isign_call {x : Int} {s : Bool} {r : Abs.Rows} (c : Int) (hx : IsI x s r) (hc : c = cmpI x 0) : ACall Try.prog 51 [.val (.agg (iT s r))] ⟨[.val (ti .i64 c)], [none]⟩ := by
  have hl : r.length = nl x.natAbs := hx.m.len
  have hz := @nl_zero x.natAbs
  refine callZ ccOk mixed [.val] Try.func51 rfl rfl (by kernel_rfl) fun zwrap zadd zsub zmul zquo zrem zshl zshr zband zbor zbxor zbandn zeq zne zlt zle znot zbeq zbne zmax zmin znat zinb zofN zidx zneq znadd zdif zcut zroom zmkok zlen znth zsetr zisI zgetI zsetI zfit zpart zext zsetg zrep zwide zall zmok zmget zmset zW zth A L F hS hF => ?_
  have e1 : zeq (zofN (zlen r)) 0 = decide (x = 0) := by
    rw [hS.eq, hS.ofN, hS.len, hl]
    by_cases h : x = 0
    · rw [decide_eq_true h]; exact decide_eq_true (by omega)
    · rw [decide_eq_false h]; exact decide_eq_false (by omega)
  cbv
  rw [e1]
  refine ⟨fun h => fin1 hF (tv_int ?_), fun h => ⟨fun h' => fin1 hF (tv_int ?_), fun h' => fin1 hF (tv_int ?_)⟩⟩
  · rw [hc, of_decide_eq_true h]; rfl
  · rw [hx.s] at h'; rw [hc, cmpI_lt (of_decide_eq_true h')]
  · rw [hx.s] at h'
    have := of_decide_eq_false h'
    have := of_decide_eq_false h
    rw [hc, cmpI_gt (by omega)]

theorem icmp_call {x y : Int} {s t : Bool} {r q : Abs.Rows} (c : Int) (hx : IsI x s r) (hy : IsI y t q) (hc : c = cmpI x y) (h1 : nl x.natAbs ≤ 2199023255552) (h2 : nl y.natAbs ≤ 2199023255552) :
    ACall Try.prog 54 [.val (.agg (iT s r)), .val (.agg (iT t q))] ⟨[.val (ti .i64 c)], [none, none]⟩ := by
  have c1 := icompare_call (cmpI x.natAbs y.natAbs) hx.m hy.m h1 h2 (dg_wd _) (dg_wd _) (dg_tr _) (dg_tr _) (by rw [dg_val, dg_val])
  have c2 := icompare_call (cmpI y.natAbs x.natAbs) hy.m hx.m h2 h1 (dg_wd _) (dg_wd _) (dg_tr _) (dg_tr _) (by rw [dg_val, dg_val])
  have s1 := isign_call (cmpI x 0) hx rfl
  have s2 := isign_call (cmpI y 0) hy rfl
  have b : ∀ z : Int, (z < 0 → cmpI z 0 = -1) ∧ (z = 0 → cmpI z 0 = 0) ∧ (0 < z → cmpI z 0 = 1) := fun z => ⟨fun h => cmpI_lt h, fun h => by rw [h]; rfl, fun h => cmpI_gt h⟩
  have bx := b x
  have by' := b y
  have n1 : x < 0 → y < 0 → cmpI y.natAbs x.natAbs = c := fun h h' => by rw [show (y.natAbs : Int) = -y by omega, show (x.natAbs : Int) = -x by omega, cmpI_neg, hc]
  have n2 : ¬ x < 0 → ¬ y < 0 → cmpI x.natAbs y.natAbs = c := fun h h' => by rw [show (y.natAbs : Int) = y by omega, show (x.natAbs : Int) = x by omega, hc]
  have n3 : x < y → -1 = c := fun h => by rw [hc, cmpI_lt h]
  have n4 : y < x → 1 = c := fun h => by rw [hc, cmpI_gt h]
  generalize cmpI x.natAbs y.natAbs = u at *
  generalize cmpI y.natAbs x.natAbs = v at *
  generalize cmpI x 0 = a at *
  generalize cmpI y 0 = d at *
  refine callZ ccOk mixed [.val] Try.func54 rfl rfl (by kernel_rfl) fun zwrap zadd zsub zmul zquo zrem zshl zshr zband zbor zbxor zbandn zeq zne zlt zle znot zbeq zbne zmax zmin znat zinb zofN zidx zneq znadd zdif zcut zroom zmkok zlen znth zsetr zisI zgetI zsetI zfit zpart zext zsetg zrep zwide zall zmok zmget zmset zW zth A L F hS hF => ?_
  have e1 : zne a d = decide (a ≠ d) := hS.ne ..
  have e2 : zlt a d = decide (a < d) := hS.lt ..
  have e3 : zlt a 0 = decide (a < 0) := hS.lt ..
  cbv
  refine ⟨_, hS.call (s1), ?_⟩
  cbv
  refine ⟨_, hS.call (s2), ?_⟩
  cbv
  refine ⟨fun h => ⟨fun h' => fin1 hF (tv_int (n3 ?_)), fun h' => fin1 hF (tv_int (n4 ?_))⟩, fun h => ⟨fun h' => ⟨_, hS.call c2, ?_⟩, fun h' => ⟨_, hS.call c1, ?_⟩⟩⟩
  all_goals rw [e1] at h
  · rw [e2] at h'; have := of_decide_eq_true h'; omega
  · rw [e2] at h'; have := of_decide_eq_false h'; have := of_decide_eq_true h; omega
  · rw [e3] at h'; have h1 := of_decide_eq_true h'; have h2 := of_decide_eq_false h
    cbv
    exact fin1 hF (tv_int (n1 (by omega) (by omega)))
  · rw [e3] at h'; have h1 := of_decide_eq_false h'; have h2 := of_decide_eq_false h
    cbv
    exact fin1 hF (tv_int (n2 (by omega) (by omega)))

theorem ineg_call {x : Int} {s : Bool} {r : Abs.Rows} (hx : IsI x s r) (h1 : nl x.natAbs ≤ 2199023255552) : ∃ u w, IsI (-x) u w ∧ ACall Try.prog 57 [.val (.agg (iT s r))] ⟨[.val (.agg (iT u w))], [none]⟩ := by
  have cl := iclone_call hx.m (by unfold nl at h1; omega)
  obtain ⟨u, hu, cs⟩ := isignedS (!s) (IsS.of hx).neg (by rw [Int.natAbs_neg]; exact h1)
  refine ⟨u, r, hu, ?_⟩
  refine callZ ccOk mixed [.val] Try.func57 rfl rfl (by kernel_rfl) fun zwrap zadd zsub zmul zquo zrem zshl zshr zband zbor zbxor zbandn zeq zne zlt zle znot zbeq zbne zmax zmin znat zinb zofN zidx zneq znadd zdif zcut zroom zmkok zlen znth zsetr zisI zgetI zsetI zfit zpart zext zsetg zrep zwide zall zmok zmget zmset zW zth A L F hS hF => ?_
  have e : znot s = !s := hS.not s
  cbv
  refine ⟨_, hS.call (cl), ?_⟩
  cbv
  rw [e]
  refine ⟨_, hS.call (cs), ?_⟩
  cbv
  exact hF _ (ResLe.refl _)

theorem iadd_callS {x y : Int} {s t : Bool} {r q : Abs.Rows} (hx : IsS x s r) (hy : IsS y t q) (h1 : nl x.natAbs ≤ 549755813888) (h2 : nl y.natAbs ≤ 549755813888) :
    ∃ u w, IsI (x + y) u w ∧ ACall Try.prog 45 [.val (.agg (iT s r)), .val (.agg (iT t q))] ⟨[.val (.agg (iT u w))], [none, none]⟩ := by
  have hb : nl (x + y).natAbs ≤ 1099511627776 := by
    have a := nl_mono (show (x + y).natAbs ≤ x.natAbs + y.natAbs by omega)
    have b := nl_add x.natAbs y.natAbs
    omega
  obtain ⟨w, hw⟩ : ∃ w, IsM (x + y).natAbs w := ⟨_, rfl⟩
  obtain ⟨xm, xs, xs'⟩ := hx
  obtain ⟨ym, ys, ys'⟩ := hy
  by_cases hst : s = t
  · have ca := isum_call xm ym (by unfold nl at h1; omega) (by unfold nl at h2; omega) (dg_wd _) (dg_wd _)
    simp only [dg_val] at ca
    have e1 : W .u32 (dg ((x.natAbs : Int) + y.natAbs).toNat) = w := by
      rw [hw]; congr 2
      subst hst
      cases s with
      | true => have := xs rfl; have := ys rfl; omega
      | false => have := xs' rfl; have := ys' rfl; omega
    rw [e1] at ca
    obtain ⟨u, hu, cs⟩ := isignedS (x := x + y) s ⟨hw, fun h => by subst hst; have := xs h; have := ys h; omega, fun h => by subst hst; have := xs' h; have := ys' h; omega⟩ (by omega)
    refine ⟨u, w, hu, ?_⟩
    refine callZ ccOk mixed [.val] Try.func45 rfl rfl (by kernel_rfl) fun zwrap zadd zsub zmul zquo zrem zshl zshr zband zbor zbxor zbandn zeq zne zlt zle znot zbeq zbne zmax zmin znat zinb zofN zidx zneq znadd zdif zcut zroom zmkok zlen znth zsetr zisI zgetI zsetI zfit zpart zext zsetg zrep zwide zall zmok zmget zmset zW zth A L F hS hF => ?_
    have e : zbeq s t = true := by rw [hS.beq]; simpa using hst
    cbv
    refine bT (e) ?_
    refine ⟨_, hS.call (ca), ?_⟩
    cbv
    refine ⟨_, hS.call (cs), ?_⟩
    cbv
    exact hF _ (ResLe.refl _)
  · have cc := icompare_call (cmpI x.natAbs y.natAbs) xm ym (by unfold nl at h1; omega) (by unfold nl at h2; omega) (dg_wd _) (dg_wd _) (dg_tr _) (dg_tr _) (by rw [dg_val, dg_val])
    by_cases hlt : x.natAbs < y.natAbs
    · have c := idifference_call ym xm (by unfold nl at h2; omega) (show nl x.natAbs ≤ nl y.natAbs from nl_mono (by omega)) (dg_wd _) (dg_wd _) (by rw [dg_val, dg_val]; omega)
      simp only [dg_val] at c
      have e1 : W .u32 (dg ((y.natAbs : Int) - x.natAbs).toNat) = w := by
        rw [hw]; congr 2
        cases s <;> cases t <;> first | exact absurd rfl hst | skip
        · have := xs' rfl; have := ys rfl; omega
        · have := xs rfl; have := ys' rfl; omega
      rw [e1] at c
      obtain ⟨u, hu, cs⟩ := isignedS (x := x + y) t ⟨hw, fun h => by
        cases s <;> cases t <;> first | exact absurd rfl hst | (cases h; done) | skip
        have := xs' rfl; have := ys rfl; omega, fun h => by
        cases s <;> cases t <;> first | exact absurd rfl hst | (cases h; done) | skip
        have := xs rfl; have := ys' rfl; omega⟩ (by omega)
      rw [cmpI_lt (by omega)] at cc
      refine ⟨u, w, hu, ?_⟩
      refine callZ ccOk mixed [.val] Try.func45 rfl rfl (by kernel_rfl) fun zwrap zadd zsub zmul zquo zrem zshl zshr zband zbor zbxor zbandn zeq zne zlt zle znot zbeq zbne zmax zmin znat zinb zofN zidx zneq znadd zdif zcut zroom zmkok zlen znth zsetr zisI zgetI zsetI zfit zpart zext zsetg zrep zwide zall zmok zmget zmset zW zth A L F hS hF => ?_
      have e : zbeq s t = false := by rw [hS.beq]; simpa using hst
      have e2 : zle 0 (-1) = false := by rw [hS.le]; rfl
      cbv
      refine bF (e) ?_
      refine ⟨_, hS.call (cc), ?_⟩
      cbv
      refine bF (e2) ?_
      refine ⟨_, hS.call (c), ?_⟩
      cbv
      refine ⟨_, hS.call (cs), ?_⟩
      cbv
      exact hF _ (ResLe.refl _)
    · have c := idifference_call xm ym (by unfold nl at h1; omega) (show nl y.natAbs ≤ nl x.natAbs from nl_mono (by omega)) (dg_wd _) (dg_wd _) (by rw [dg_val, dg_val]; omega)
      simp only [dg_val] at c
      have e1 : W .u32 (dg ((x.natAbs : Int) - y.natAbs).toNat) = w := by
        rw [hw]; congr 2
        cases s <;> cases t <;> first | exact absurd rfl hst | skip
        · have := xs' rfl; have := ys rfl; omega
        · have := xs rfl; have := ys' rfl; omega
      rw [e1] at c
      obtain ⟨u, hu, cs⟩ := isignedS (x := x + y) s ⟨hw, fun h => by
        cases s <;> cases t <;> first | exact absurd rfl hst | (cases h; done) | skip
        have := xs rfl; have := ys' rfl; omega, fun h => by
        cases s <;> cases t <;> first | exact absurd rfl hst | (cases h; done) | skip
        have := xs' rfl; have := ys rfl; omega⟩ (by omega)
      obtain ⟨v, hv, hv0⟩ : ∃ v, cmpI (x.natAbs : Int) y.natAbs = v ∧ 0 ≤ v := ⟨_, rfl, by
        unfold cmpI
        rw [if_neg (by omega)]
        split <;> omega⟩
      rw [hv] at cc
      refine ⟨u, w, hu, ?_⟩
      refine callZ ccOk mixed [.val] Try.func45 rfl rfl (by kernel_rfl) fun zwrap zadd zsub zmul zquo zrem zshl zshr zband zbor zbxor zbandn zeq zne zlt zle znot zbeq zbne zmax zmin znat zinb zofN zidx zneq znadd zdif zcut zroom zmkok zlen znth zsetr zisI zgetI zsetI zfit zpart zext zsetg zrep zwide zall zmok zmget zmset zW zth A L F hS hF => ?_
      have e : zbeq s t = false := by rw [hS.beq]; simpa using hst
      have e2 : zle 0 v = true := by rw [hS.le]; exact decide_eq_true hv0
      cbv
      refine bF (e) ?_
      refine ⟨_, hS.call (cc), ?_⟩
      cbv
      refine bT (e2) ?_
      refine ⟨_, hS.call (c), ?_⟩
      cbv
      refine ⟨_, hS.call (cs), ?_⟩
      cbv
      exact hF _ (ResLe.refl _)

theorem iadd_call {x y : Int} {s t : Bool} {r q : Abs.Rows} (hx : IsI x s r) (hy : IsI y t q) (h1 : nl x.natAbs ≤ 549755813888) (h2 : nl y.natAbs ≤ 549755813888) :
    ∃ u w, IsI (x + y) u w ∧ ACall Try.prog 45 [.val (.agg (iT s r)), .val (.agg (iT t q))] ⟨[.val (.agg (iT u w))], [none, none]⟩ := iadd_callS (.of hx) (.of hy) h1 h2

theorem isub_call {x y : Int} {s t : Bool} {r q : Abs.Rows} (hx : IsI x s r) (hy : IsI y t q) (h1 : nl x.natAbs ≤ 549755813888) (h2 : nl y.natAbs ≤ 549755813888) :
    ∃ u w, IsI (x - y) u w ∧ ACall Try.prog 52 [.val (.agg (iT s r)), .val (.agg (iT t q))] ⟨[.val (.agg (iT u w))], [none, none]⟩ := by
  obtain ⟨u, w, hu, c⟩ := iadd_callS (.of hx) (IsS.of hy).neg h1 (by rw [Int.natAbs_neg]; exact h2)
  refine ⟨u, w, hu.of (by omega), ?_⟩
  refine callZ ccOk mixed [.val] Try.func52 rfl rfl (by kernel_rfl) fun zwrap zadd zsub zmul zquo zrem zshl zshr zband zbor zbxor zbandn zeq zne zlt zle znot zbeq zbne zmax zmin znat zinb zofN zidx zneq znadd zdif zcut zroom zmkok zlen znth zsetr zisI zgetI zsetI zfit zpart zext zsetg zrep zwide zall zmok zmget zmset zW zth A L F hS hF => ?_
  have e : znot t = !t := hS.not t
  cbv
  rw [e]
  refine ⟨_, hS.call (c), ?_⟩
  cbv
  exact hF _ (ResLe.refl _)

theorem imul_call {x y : Int} {s t : Bool} {r q : Abs.Rows} (hx : IsI x s r) (hy : IsI y t q) (h1 : nl x.natAbs ≤ 549755813888) (h2 : nl y.natAbs ≤ 549755813888) :
    ∃ u w, IsI (x * y) u w ∧ ACall Try.prog 46 [.val (.agg (iT s r)), .val (.agg (iT t q))] ⟨[.val (.agg (iT u w))], [none, none]⟩ := by
  obtain ⟨w, hw⟩ : ∃ w, IsM (x * y).natAbs w := ⟨_, rfl⟩
  have hb : nl (x * y).natAbs ≤ 1099511627776 := by
    rw [Int.natAbs_mul]
    have b := nl_mul x.natAbs y.natAbs
    omega
  have hs := hx.s
  have ht := hy.s
  have c := iproduct_call hx.m hy.m (by unfold nl at h1; omega) (by unfold nl at h2; omega) (dg_wd _) (dg_wd _)
  simp only [dg_val] at c
  have e1 : W .u32 (dg ((x.natAbs : Int) * y.natAbs).toNat) = w := by
    rw [hw]; congr 2
    rw [Int.natAbs_mul]
    have : ((x.natAbs : Int) * y.natAbs) = ((x.natAbs * y.natAbs : Nat) : Int) := by push_cast; rfl
    omega
  rw [e1] at c
  obtain ⟨u, hu, cs⟩ := isignedS (x := x * y) (!(s == t)) ⟨hw, fun h => by
      rw [hs, ht] at h
      by_cases h1 : x < 0 <;> by_cases h2 : y < 0 <;> simp [h1, h2] at h
      · exact Int.mul_nonpos_of_nonpos_of_nonneg (by omega) (by omega)
      · exact Int.mul_nonpos_of_nonneg_of_nonpos (by omega) (by omega), fun h => by
      rw [hs, ht] at h
      by_cases h1 : x < 0 <;> by_cases h2 : y < 0 <;> simp [h1, h2] at h
      · exact Int.mul_nonneg_of_nonpos_of_nonpos (by omega) (by omega)
      · exact Int.mul_nonneg (by omega) (by omega)⟩ (by omega)
  refine ⟨u, w, hu, ?_⟩
  refine callZ ccOk mixed [.val] Try.func46 rfl rfl (by kernel_rfl) fun zwrap zadd zsub zmul zquo zrem zshl zshr zband zbor zbxor zbandn zeq zne zlt zle znot zbeq zbne zmax zmin znat zinb zofN zidx zneq znadd zdif zcut zroom zmkok zlen znth zsetr zisI zgetI zsetI zfit zpart zext zsetg zrep zwide zall zmok zmget zmset zW zth A L F hS hF => ?_
  have e : zbne s t = !(s == t) := hS.bne s t
  cbv
  refine ⟨_, hS.call (c), ?_⟩
  cbv
  rw [e]
  refine ⟨_, hS.call (cs), ?_⟩
  cbv
  exact hF _ (ResLe.refl _)
end Go.Proofs.Ytgncmjcoojmccaa
end

section
set_option linter.unusedVariables false
set_option linter.unusedSimpArgs false
set_option maxHeartbeats 8000000
set_option linter.unusedVariables false
set_option linter.unusedSimpArgs false
set_option maxRecDepth 100000
namespace Go.Proofs.Ytgncmjcoojmccaa
open Go Go.Abs Go.Abs.M Go.Proofs

theorem idivmod_call {x y : Int} {s t : Bool} {r q : Abs.Rows} (hx : IsI x s r) (hy : IsI y t q) (hy0 : y ≠ 0) (h1 : nl x.natAbs ≤ 274877906944) (h2 : nl y.natAbs ≤ 274877906944) :
    ∃ u w p, IsI (x / y) u w ∧ IsI (x % y) false p ∧ ACall Try.prog 56 [.val (.agg (iT s r)), .val (.agg (iT t q))] ⟨[.val (.agg (iT u w)), .val (.agg (iT false p)), .val (ti .i64 0)], [none, none]⟩ := by
  obtain ⟨a1, a2, ha1, ha2, cd⟩ := idivide_call hx.m hy.m (by omega) (by omega) (by omega)
  obtain ⟨m1, m2, m3⟩ := divmod_abs (x := x) hy0
  obtain ⟨u, hu⟩ : ∃ u, u = decide (x / y < 0) := ⟨_, rfl⟩
  obtain ⟨w, hw⟩ : ∃ w, IsM (x / y).natAbs w := ⟨_, rfl⟩
  obtain ⟨p, hp⟩ : ∃ p, IsM (x % y).natAbs p := ⟨_, rfl⟩
  have hmod0 := Int.emod_nonneg x hy0
  have hyn : y.natAbs ≠ 0 := by omega
  have hdle : x.natAbs / y.natAbs ≤ x.natAbs := Nat.div_le_self ..
  have hmlt : x.natAbs % y.natAbs < y.natAbs := Nat.mod_lt _ (by omega)
  have hs := hx.s
  have ht := hy.s
  have hbq : nl (x / y).natAbs ≤ 549755813888 := by
    have a := nl_mono (show (x / y).natAbs ≤ x.natAbs + 1 by
      by_cases h : x < 0 ∧ x.natAbs % y.natAbs ≠ 0
      · have := (m2 h).1; omega
      · have := (m1 h).1; omega)
    have b := nl_add x.natAbs 1
    have c : nl 1 ≤ 1 := nl_le_of (by omega)
    omega
  have hbr : nl (x % y).natAbs ≤ 549755813888 := by
    have a := nl_mono (show (x % y).natAbs ≤ y.natAbs by
      by_cases h : x < 0 ∧ x.natAbs % y.natAbs ≠ 0
      · have := (m2 h).2; omega
      · have := (m1 h).2; omega)
    omega
  have cm1 := isignedM (!(s == t)) u hw (by omega) (by
    rw [hu, hs, ht, Bool.eq_iff_iff]
    by_cases h : x < 0 <;> by_cases h' : y < 0 <;> simp [h, h'] at m3 ⊢ <;> omega)
  have cm2 := isignedM false false hp (by omega) rfl
  have hql : q.length = nl y.natAbs := hy.m.len
  have hql0 : nl y.natAbs ≠ 0 := fun h => hyn (nl_zero.1 h)
  have ha2l : a2.length = nl (x.natAbs % y.natAbs) := ha2.len
  have ha2z := @nl_zero (x.natAbs % y.natAbs)
  have ctr := itrimM hy.m (by omega)
  refine ⟨u, w, p, ⟨hu, hw⟩, ⟨(decide_eq_false (by omega)).symm, hp⟩, ?_⟩
  by_cases hc : x < 0 ∧ x.natAbs % y.natAbs ≠ 0
  · obtain ⟨n1, n2⟩ := m2 hc
    have ca := isum_call (s := W .u32 [1]) ha1 rfl (by have := nl_mono hdle; unfold nl at *; omega) (by simp) (dg_wd _) (Wd.cons (by omega) (by omega) Wd.nil)
    have ct := idifference_call hy.m ha2 (by unfold nl at *; omega) (by have := nl_mono (Nat.le_of_lt hmlt); unfold nl at *; omega) (dg_wd _) (dg_wd _) (by rw [dg_val, dg_val]; omega)
    rw [dg_val, dg_val] at ct
    rw [dg_val, show val [1] = 1 from rfl] at ca
    have e1 : W .u32 (dg (((x.natAbs / y.natAbs : Nat) : Int) + 1).toNat) = w := by rw [hw]; congr 2; omega
    have e2 : W .u32 (dg ((y.natAbs : Int) - ((x.natAbs % y.natAbs : Nat) : Int)).toNat) = p := by rw [hp]; congr 2; omega
    rw [e1] at ca
    rw [e2] at ct
    have hs' : s = true := by rw [hs]; exact decide_eq_true hc.1
    subst hs'
    clear m1 m2 m3 hbq hbr
    refine callZ ccOk mixed [.val, .val, .val] Try.func56 rfl rfl (by kernel_rfl) fun zwrap zadd zsub zmul zquo zrem zshl zshr zband zbor zbxor zbandn zeq zne zlt zle znot zbeq zbne zmax zmin znat zinb zofN zidx zneq znadd zdif zcut zroom zmkok zlen znth zsetr zisI zgetI zsetI zfit zpart zext zsetg zrep zwide zall zmok zmget zmset zW zth A L F hS hF => ?_
    have z1 : zeq (zofN (zlen q)) 0 = false := by rw [hS.len, hql, hS.ofN, hS.eq]; exact decide_eq_false (by omega)
    have z2 : zlt 0 (zofN (zlen a2)) = true := by rw [hS.len, ha2l, hS.ofN, hS.lt]; exact decide_eq_true (by omega)
    have z3 : zpart [[.v (.int .u32 1)]] 0 1 = W .u32 [1] := by rw [hS.part]; rfl
    have z4 : zfit 0 1 [[.v (.int .u32 1)]] = true := by rw [hS.fit]; rfl
    cbv
    refine ⟨_, hS.call ctr, ?_⟩
    cbv
    refine bF z1 ⟨_, hS.call cd, ?_⟩
    cbv
    refine bT rfl (bT z2 (nd z4 ?_))
    rw [z3]
    refine ⟨_, hS.call ca, ?_⟩
    cbv
    refine ⟨_, hS.call ct, ?_⟩
    cbv
    rw [hS.bne]
    refine ⟨_, hS.call cm1, ?_⟩
    cbv
    refine ⟨_, hS.call cm2, ?_⟩
    cbv
    exact hF _ (ResLe.refl _)
  · obtain ⟨n1, n2⟩ := m1 hc
    obtain rfl : w = a1 := by rw [hw, ha1, n1]
    obtain rfl : p = a2 := by rw [hp, ha2, n2]; rfl
    clear m1 m2 m3 hbq hbr
    refine callZ ccOk mixed [.val, .val, .val] Try.func56 rfl rfl (by kernel_rfl) fun zwrap zadd zsub zmul zquo zrem zshl zshr zband zbor zbxor zbandn zeq zne zlt zle znot zbeq zbne zmax zmin znat zinb zofN zidx zneq znadd zdif zcut zroom zmkok zlen znth zsetr zisI zgetI zsetI zfit zpart zext zsetg zrep zwide zall zmok zmget zmset zW zth A L F hS hF => ?_
    have z1 : zeq (zofN (zlen q)) 0 = false := by rw [hS.len, hql, hS.ofN, hS.eq]; exact decide_eq_false (by omega)
    have z2 : s = true → zlt 0 (zofN (zlen p)) = false := fun h => by
      rw [hS.len, ha2l, hS.ofN, hS.lt]
      rw [h] at hs
      have := of_decide_eq_true hs.symm
      exact decide_eq_false (by omega)
    have fin : A 67 [.val (tb (!(s == t))), .val (tl w)] ⟨[.val (.agg (iT u w))], [none, none]⟩ := hS.call cm1
    cbv
    refine ⟨_, hS.call ctr, ?_⟩
    cbv
    refine bF z1 ⟨_, hS.call cd, ?_⟩
    cbv
    refine ⟨fun h => bF (z2 h) ?_, fun h => ?_⟩
    all_goals
      rw [hS.bne]
      refine ⟨_, fin, ?_⟩
      cbv
      refine ⟨_, hS.call cm2, ?_⟩
      cbv
      exact hF _ (ResLe.refl _)

def ivalSt (r : Abs.Rows) (m len i : Int) : St := mkSt 22 [vl r, .junk, vi .u64 0, vi .u64 m, .junk, .junk, vi .i64 len, vi .i64 i] [none]
theorem ivalue_call {l : List Int} {r : Abs.Rows} (n : Int) (hr : r = W .u32 l) (hl : l.length ≤ 2) (hw : Wd l) (hn : n = val l) : ACall Try.prog 91 [.val (tl r)] ⟨[.val (ti .u64 n)], [none]⟩ := by
  obtain ⟨N, hN⟩ : ∃ N, N = l.length := ⟨_, rfl⟩
  refine callZ ccOk mixed [.val] Try.func91 rfl rfl (by kernel_rfl) fun zwrap zadd zsub zmul zquo zrem zshl zshr zband zbor zbxor zbandn zeq zne zlt zle znot zbeq zbne zmax zmin znat zinb zofN zidx zneq znadd zdif zcut zroom zmkok zlen znth zsetr zisI zgetI zsetI zfit zpart zext zsetg zrep zwide zall zmok zmget zmset zW zth A L F hS hF => ?_
  have h1 : zlen r = N := by rw [hS.len, hr, W_len, hN]
  have L2 := zlt_nat hS.lt hS.ofN
  have A1 : ∀ (k : Nat), k < N → ∃ (a s m' : Int) (k1 : Nat), zgetI r (znat (zofN k)) = a ∧ zwrap .u64 a = a ∧ zwrap .i64 (zmul 32 (zofN k)) = s ∧ zle 0 s = true ∧ zbor .u64 (val (l.take k)) (zshl .u64 a s) = m' ∧ zwrap .i64 (zadd (zofN k) 1) = zofN k1 ∧ zisI .u32 r (znat (zofN k)) = true ∧ zle 0 (zofN k) = true ∧ k1 = k + 1 ∧ m' = val (l.take k1) := fun k hk => by
    have ga := hw.get k
    have hv := val_take_succ' l k
    have hv0 := val_nonneg (hw.take k)
    have hv1 := val_lt (hw.take k)
    have e2 : (k : Int) = 0 ∨ (k : Int) = 1 := by omega
    refine ⟨l.getD k 0, ((32 * k : Nat) : Int), val (l.take (k + 1)), k + 1, by rw [hS.getI, hS.nat, hS.ofN, hr, W_getI, Int.toNat_natCast], by rw [hS.wrap, wrap_u64 (by omega) (by omega)], ?_, ?_, ?_, ?_, ?_, ?_, rfl, rfl⟩
    · rw [hS.wrap, hS.mul, hS.ofN, wrap_i64 (by omega) (by omega)]; omega
    · rw [hS.le]; exact decide_eq_true (by omega)
    · rw [show ∀ x y, zshl .u64 x y = ZI.std.shl .u64 x y from fun _ _ => hS.shl .., shl_std (32 * k) rfl (by show 32 * k ≤ 64; omega), show ∀ x y, zbor .u64 x y = ZI.std.bor .u64 x y from fun _ _ => hS.bor ..]
      rw [List.length_take] at hv1
      rcases (show k = 0 ∨ k = 1 by omega) with rfl | rfl
      · have z : val (l.take 0) = 0 := by simp [val]
        rw [z] at hv ⊢
        generalize l.getD 0 0 = g at *
        rw [wrap_u64 (by simp; omega) (by simp; omega), bor_lo 0 ga.1 (Int.le_refl 0) (by simp) (by simp; omega), hv]; simp
      · rw [Nat.min_eq_left (by omega)] at hv1
        rw [wrap_u64 (by omega) (by omega), bor_lo 32 ga.1 hv0 (by simpa using hv1) (by omega), hv]; omega
    · rw [hS.wrap, hS.add, hS.ofN, hS.ofN, wrap_i64 (by omega) (by omega)]; omega
    · rw [hS.isI, hr, hS.nat, hS.ofN, W_isI]; exact decide_eq_true (by omega)
    · rw [hS.le, hS.ofN]; exact decide_eq_true (by omega)
  cbv
  refine loopZ ccOk mixed hS (fun (j : Nat) s' => ∃ (k : Nat) (m : Int), k + j = N ∧ m = val (l.take k) ∧ s' = ivalSt r m (zofN N) (zofN k)) (n := N) (s0 := ivalSt r 0 (zofN N) (zofN 0)) (le_of ?_ ?_) rfl (Nat.le_refl 1) ?_ ?_
  · simp [leT, ivalSt, mkSt, vi, vl, hS.ofN, h1]
  · simp [leH, ivalSt, mkSt]
  · exact ⟨0, 0, by omega, by simp [val], rfl⟩
  · rintro j _ ⟨k, m, hk, hm, rfl⟩
    rcases Nat.lt_or_ge k N with hkn | hkn
    · obtain ⟨a, s, m', k1, E1, E2, E3, E4, E5, E6, E7, E8, hk1, hm'⟩ := A1 k hkn
      rw [← hm] at E5
      have e6 : zlt (zofN k) (zofN N) = true := (L2 k N).trans (decide_eq_true hkn)
      cbv
      refine bT e6 ?_
      rw [E1, E2, E3, E5, E6]
      refine nd E8 (nd E7 (nd E4 ?_))
      exact again (s' := ivalSt r m' (zofN N) (zofN k1)) (m := j - 1) (by simp [leT, ivalSt, mkSt, vi, vl]) (by simp [leH, ivalSt, mkSt]) rfl (Nat.le_refl 1) (by omega) ⟨k1, m', by omega, hm', rfl⟩
    · obtain rfl : k = N := by omega
      have e6 : zlt (zofN k) (zofN k) = false := (L2 k k).trans (decide_eq_false (Nat.lt_irrefl k))
      have hmn : m = n := by rw [hm, hn, List.take_of_length_le (by omega)]
      cbv
      exact bF e6 (fin1 hF (tv_int hmn))

def igcdSt (a : Bool) (b : Abs.Rows) (c : Bool) (d x y : Abs.Rows) : St := mkSt 53 [.junk, .junk, .c (.ptr 2 0 0), .c (.ptr 3 0 0), .c (.ptr 4 0 0), vl x, vl y] [none, none, some (.var [.t (.v (.bool a)), .t (.lst false b)]), some (.var [.t (.v (.bool c)), .t (.lst false d)]), some (.var [.t (.v (.bool false)), .t (.lst true [])])]
def igcd2St (a : Bool) (b : Abs.Rows) (c : Bool) (d : Abs.Rows) (m n : Int) : St := mkSt 53 [.junk, .junk, .c (.ptr 2 0 0), .c (.ptr 3 0 0), .c (.ptr 4 0 0), .junk, .junk, vi .u64 m, vi .u64 n] [none, none, some (.var [.t (.v (.bool a)), .t (.lst false b)]), some (.var [.t (.v (.bool c)), .t (.lst false d)]), some (.var [.t (.v (.bool false)), .t (.lst true [])])]
theorem igcd_call {x y : Int} {s t : Bool} {r q : Abs.Rows} (hx : IsI x s r) (hy : IsI y t q) (h1 : nl x.natAbs ≤ 274877906944) (h2 : nl y.natAbs ≤ 274877906944) :
    ∃ w, IsI (Int.gcd x y) false w ∧ ACall Try.prog 77 [.val (.agg (iT s r)), .val (.agg (iT t q))] ⟨[.val (.agg (iT false w))], [none, none]⟩ := by
  obtain ⟨w, hg⟩ : ∃ w, IsM (Int.gcd x y) w := ⟨_, rfl⟩
  have hb : nl (Int.gcd x y) ≤ 2199023255552 := by
    by_cases h : x = 0
    · subst h
      have : Int.gcd 0 y = y.natAbs := by simp [Int.gcd]
      rw [this]; omega
    · have : Int.gcd x y ≤ x.natAbs := Nat.gcd_le_left _ (by omega)
      have := nl_mono this
      omega
  refine ⟨w, ⟨(decide_eq_false (by omega)).symm, hg⟩, ?_⟩
  have cw := isignedM false false hg hb rfl
  have ct := itrimM hx.m (by omega)
  have ct2 := itrimM hy.m (by omega)
  have cl := iclone_call hx.m (by unfold nl at h1; omega)
  have cl2 := iclone_call hy.m (by unfold nl at h2; omega)
  have hr := hx.m
  have hs := hy.m
  clear hx hy
  have hgg : Int.gcd x y = Nat.gcd x.natAbs y.natAbs := rfl
  rw [hgg] at hg hb
  clear hgg
  generalize x.natAbs = a at *
  generalize y.natAbs = b at *
  refine callZ ccOk mixed [.val] Try.func77 rfl rfl (by kernel_rfl) fun zwrap zadd zsub zmul zquo zrem zshl zshr zband zbor zbxor zbandn zeq zne zlt zle znot zbeq zbne zmax zmin znat zinb zofN zidx zneq znadd zdif zcut zroom zmkok zlen znth zsetr zisI zgetI zsetI zfit zpart zext zsetg zrep zwide zall zmok zmget zmset zW zth A L F hS hF => ?_
  cbv
  refine ⟨_, hS.call (ct), ?_⟩
  cbv
  refine ⟨_, hS.call (cl), ?_⟩
  cbv
  refine ⟨_, hS.call (ct2), ?_⟩
  cbv
  refine ⟨_, hS.call (cl2), ?_⟩
  cbv
  refine loopZ ccOk mixed hS (fun (m : Nat) s' => ∃ (c : Nat) (x y : Abs.Rows), IsM c x ∧ IsM m y ∧ nl c ≤ 274877906944 ∧ nl m ≤ 274877906944 ∧ Nat.gcd c m = Nat.gcd a b ∧ s' = igcdSt s r t q x y) (n := b) (s0 := igcdSt s r t q r q) (le_of ?_ ?_) rfl (by show 2 ≤ 5; omega) ?_ ?_
  · simp [leT, igcdSt, mkSt, vl, vnil]
  · simp [leH, igcdSt, mkSt]
  · exact ⟨a, r, q, hr, hs, h1, h2, rfl, rfl⟩
  · rintro m _ ⟨c, x, y, hx, hy, l1, l2, hgc, rfl⟩
    have hmz := @nl_zero m
    have hxl : zlen x = nl c := by rw [hS.len, hx.len]
    have hyl : zlen y = nl m := by rw [hS.len, hy.len]
    have e1 : zlt 0 (zofN (zlen y)) = decide (m ≠ 0) := by
      rw [hyl, hS.lt, hS.ofN]
      by_cases h : m = 0
      · rw [decide_eq_false (show ¬ m ≠ 0 by omega)]; exact decide_eq_false (by omega)
      · rw [decide_eq_true h]; exact decide_eq_true (by omega)
    have e2 : zle (zofN (zlen x)) 2 = decide (nl c ≤ 2) := by
      rw [hxl, hS.le, hS.ofN]
      by_cases h : nl c ≤ 2
      · rw [decide_eq_true h]; exact decide_eq_true (by omega)
      · rw [decide_eq_false h]; exact decide_eq_false (by omega)
    have e3 : zle (zofN (zlen y)) 2 = decide (nl m ≤ 2) := by
      rw [hyl, hS.le, hS.ofN]
      by_cases h : nl m ≤ 2
      · rw [decide_eq_true h]; exact decide_eq_true (by omega)
      · rw [decide_eq_false h]; exact decide_eq_false (by omega)
    have hdiv : m ≠ 0 → ∃ p q, IsM (c / m) p ∧ IsM (c % m) q ∧ ACall Try.prog 75 [.val (tl x), .val (tl y)] ⟨[.val (tl p), .val (tl q)], [none, none]⟩ := fun h => idivide_call hx hy h (by omega) (by omega)
    have hend : m = 0 → x = w := fun h => by
      subst h
      rw [Nat.gcd_zero_right] at hgc
      rw [hx, hg, hgc]
    by_cases hm0 : m = 0
    · rw [hend hm0] at *
      cbv
      refine bF (by rw [e1]; exact decide_eq_false (by omega)) ?_
      refine ⟨_, hS.call (cw), ?_⟩
      cbv
      exact hF _ (ResLe.refl _)
    · by_cases hsh : nl c ≤ 2 ∧ nl m ≤ 2
      · obtain ⟨k1, k2⟩ := hsh
        have b1 := lt_nl c
        have b2 := lt_nl m
        have b3 := ipow_le k1
        have b4 := ipow_le k2
        obtain ⟨C, hC⟩ : ∃ C : Int, C = c := ⟨_, rfl⟩
        obtain ⟨M, hM⟩ : ∃ M : Int, M = m := ⟨_, rfl⟩
        have n1 := ivalue_call C hx k1 (dg_wd _) (by rw [dg_val, hC])
        have n2 := ivalue_call M hy k2 (dg_wd _) (by rw [dg_val, hM])
        have hgb : Nat.gcd c m < 18446744073709551616 := by
          have := Nat.gcd_le_right c (Nat.pos_of_ne_zero hm0); omega
        have n4 : ∀ g : Nat, g = Nat.gcd a b → ∀ G : Int, G = g → ACall Try.prog 68 [.val (ti .u64 G)] ⟨[.val (tl w)], [none]⟩ := fun g hgv G hG => by
          have := iwords_call G (by omega) (by rw [hG, hgv, ← hgc]; omega)
          rw [hG, Int.toNat_natCast, hgv, ← show w = W .u32 (dg (Nat.gcd a b)) from hg, ← hgv, ← hG] at this
          exact this
        have hcb : c < 18446744073709551616 := by omega
        have hmb : m < 18446744073709551616 := by omega
        clear b1 b2 b3 b4 l1 l2
        cbv
        refine bT (by rw [e1]; exact decide_eq_true hm0) (bT (by rw [e2]; exact decide_eq_true k1) (bT (by rw [e3]; exact decide_eq_true k2) ⟨_, hS.call n1, ?_⟩))
        cbv
        refine ⟨_, hS.call n2, ?_⟩
        cbv
        refine loopZ ccOk mixed hS (fun (j : Nat) s' => ∃ c' : Nat, c' < 18446744073709551616 ∧ j < 18446744073709551616 ∧ Nat.gcd c' j = Nat.gcd a b ∧ s' = igcd2St s r t q (zofN c') (zofN j)) (n := m) (s0 := igcd2St s r t q (zofN c) (zofN m)) (le_of ?_ ?_) rfl (by show 2 ≤ 5; omega) ?_ ?_
        · simp [leT, igcd2St, mkSt, vi, hS.ofN, hC, hM]
        · simp [leH, igcd2St, mkSt]
        · exact ⟨c, hcb, hmb, hgc, rfl⟩
        · rintro j _ ⟨c', hc', hj, hgc', rfl⟩
          have f1 : 0 < j → zrem (zofN c') (zofN j) = zofN (c' % j) := fun h => by rw [hS.rem, hS.ofN, hS.ofN, hS.ofN, Int.tmod_eq_emod_of_nonneg (by omega)]; rfl
          have f2 : zlt 0 (zofN j) = decide (0 < j) := by
            rw [hS.lt, hS.ofN]
            by_cases h : 0 < j
            · rw [decide_eq_true h]; exact decide_eq_true (by omega)
            · rw [decide_eq_false h]; exact decide_eq_false (by omega)
          have f3 : 0 < j → zne (zofN j) 0 = true := fun h => by rw [hS.ne, hS.ofN]; exact decide_eq_true (by omega)
          have f4 : j = 0 → ACall Try.prog 68 [.val (ti .u64 (zofN c'))] ⟨[.val (tl w)], [none]⟩ := fun h => by
            subst h
            rw [Nat.gcd_zero_right] at hgc'
            exact n4 c' hgc' _ (hS.ofN _)
          cbv
          refine ⟨fun h => ?_, fun h => ?_⟩
          all_goals rw [f2] at h
          · have h := of_decide_eq_true h
            rw [f1 h]
            refine nd (f3 h) ?_
            refine again (s' := igcd2St s r t q (zofN j) (zofN (c' % j))) (m := c' % j) (by simp [leT, igcd2St, mkSt, vi]) (by simp [leH, igcd2St, mkSt]) rfl (by show 2 ≤ 5; omega) (Nat.mod_lt _ h) ⟨j, hj, ?_, ?_, rfl⟩
            · have := Nat.mod_lt c' h; omega
            · rw [← hgc', Nat.gcd_comm c' j, Nat.gcd_rec j c', Nat.gcd_comm]
          · have h := of_decide_eq_false h
            refine ⟨_, hS.call (f4 (by omega)), ?_⟩
            cbv
            refine ⟨_, hS.call (cw), ?_⟩
            cbv
            exact hF _ (ResLe.refl _)
      · obtain ⟨p, q', _, hq, cd⟩ := hdiv hm0
        have nx : ∃ (c' : Nat) (x' y' : Abs.Rows), IsM c' x' ∧ IsM (c % m) y' ∧ nl c' ≤ 274877906944 ∧ nl (c % m) ≤ 274877906944 ∧ Nat.gcd c' (c % m) = Nat.gcd a b ∧ igcdSt s r t q y q' = igcdSt s r t q x' y' :=
          ⟨m, y, q', hy, hq, l2, Nat.le_trans (nl_mono (Nat.le_of_lt (Nat.mod_lt _ (Nat.pos_of_ne_zero hm0)))) l2, by rw [← hgc, Nat.gcd_comm c m, Nat.gcd_rec m c, Nat.gcd_comm], rfl⟩
        have e1' : zlt 0 (zofN (zlen y)) = true := by rw [e1]; exact decide_eq_true hm0
        cbv
        refine bT e1' ⟨fun h2 => bF ?_ ?_, fun h2 => ?_⟩
        · rw [e3]; rw [e2] at h2; have := of_decide_eq_true h2; exact decide_eq_false (by omega)
        all_goals
          refine ⟨_, hS.call cd, ?_⟩
          cbv
          exact again (s' := igcdSt s r t q y q') (m := c % m) (by simp [leT, igcdSt, mkSt, vl, vnil]) (by simp [leH, igcdSt, mkSt]) rfl (by show 2 ≤ 5; omega) (Nat.mod_lt _ (Nat.pos_of_ne_zero hm0)) nx
end Go.Proofs.Ytgncmjcoojmccaa
end

section
set_option linter.unusedVariables false
set_option linter.unusedSimpArgs false
/-
  Sets of numbers as maps to true.
-/
set_option linter.unusedVariables false
namespace Go.Abs

def sE (k : IntKind) (l : List Int) : List (Value × Tree) := l.map fun q => (.int k q, .v (.bool true))

theorem sE_find (k : IntKind) (q : Int) : ∀ l : List Int, findEnt (.int k q) (sE k l) = if q ∈ l then some (some (.v (.bool true))) else some none
  | [] => rfl
  | x :: l => by
    have ih := sE_find k q l
    simp only [sE, List.map_cons, findEnt, sameKey] at ih ⊢
    by_cases h : q = x
    · subst h; simp
    · rw [show (q == x) = false from beq_eq_false_iff_ne.2 h]; simp [h, ih]

theorem sE_set (k : IntKind) (q : Int) : ∀ l : List Int, q ∉ l → setEnt (.int k q) (.v (.bool true)) (sE k l) = some (sE k (l ++ [q]))
  | [], _ => rfl
  | x :: l, h => by
    have h1 : q ≠ x := fun e => h (e ▸ .head _)
    have ih := sE_set k q l fun e => h (.tail _ e)
    show (match (if k = k then some (q == x) else none) with
      | some true => some ((Value.int k q, Tree.v (.bool true)) :: sE k l)
      | some false => (setEnt (.int k q) (.v (.bool true)) (sE k l)).map ((Value.int k x, Tree.v (.bool true)) :: ·)
      | none => none) = _
    rw [if_pos rfl, show (q == x) = false from beq_eq_false_iff_ne.2 h1, ih]; rfl

theorem sE_mok (k : IntKind) (q : Int) (l : List Int) : ZI.std.mok (sE k l) (.int k q) = true := by
  simp only [ZI.std, sE_find]
  by_cases h : q ∈ l
  · simp only [if_pos h]
  · simp only [if_neg h]

theorem sE_mget (k : IntKind) (q : Int) (l : List Int) : ZI.std.mget (sE k l) (.int k q) = decide (q ∈ l) := by
  simp only [ZI.std, sE_find]
  by_cases h : q ∈ l
  · simp only [if_pos h, decide_eq_true h]
  · simp only [if_neg h, decide_eq_false h]

theorem sE_mset (k : IntKind) (q : Int) (l : List Int) (h : q ∉ l) : (setEnt (.int k q) (.v (.bool true)) (sE k l)).getD (sE k l) = sE k (l ++ [q]) := by
  rw [sE_set k q l h]; rfl
end Go.Abs
end

section
set_option linter.unusedVariables false
set_option linter.unusedSimpArgs false
/-
  Chinese remainders: the fold that the program and the reference compute, over the integers.
-/
set_option linter.unusedVariables false
namespace Go.Abs.M

/-- Different primes (of whatever size). -/
def IPrime (q : Int) : Prop := 2 ≤ q ∧ Prime q.toNat

theorem IPrime.dvd_mul {q a b : Int} (h : IPrime q) (hd : q ∣ a * b) : q ∣ a ∨ q ∣ b := by
  have hq : ((q.toNat : Nat) : Int) = q := Int.toNat_of_nonneg (by have := h.1; omega)
  rw [← hq] at hd ⊢
  rw [← Int.natAbs_dvd_natAbs, Int.natAbs_mul, Int.natAbs_natCast] at hd
  rw [← Int.natAbs_dvd_natAbs, ← Int.natAbs_dvd_natAbs (b := b), Int.natAbs_natCast]
  exact h.2.dvd_mul hd

theorem IPrime.eq_of_dvd {p q : Int} (hp : IPrime p) (hq : IPrime q) (h : q ∣ p) : q = p := by
  have e1 : ((q.toNat : Nat) : Int) = q := Int.toNat_of_nonneg (by have := hq.1; omega)
  have e2 : ((p.toNat : Nat) : Int) = p := Int.toNat_of_nonneg (by have := hp.1; omega)
  rw [← e1, ← e2] at h ⊢
  rw [Int.natCast_dvd_natCast] at h
  rcases hp.2.divs _ h with h | h
  · have := hq.1; omega
  · rw [h]

/-- u has the residues of the list, lies in 0 .. m - 1, and m is the product. -/
structure Crt (l : List (Int × Int)) (u m : Int) : Prop where
  lo : 0 ≤ u
  hi : u < m
  prod : m = l.foldr (fun e x => e.2 * x) 1
  res : ∀ e ∈ l, u % e.2 = e.1 % e.2

theorem Crt.nil : Crt [] 0 1 := ⟨by omega, by omega, rfl, fun e h => by cases h⟩

def lprod (l : List Int) : Int := l.foldr (fun q x => q * x) 1

theorem lprod_append : ∀ (a b : List Int), lprod (a ++ b) = lprod a * lprod b
  | [], b => by simp [lprod]
  | q :: a, b => by
    have := lprod_append a b
    simp only [lprod, List.cons_append, List.foldr_cons] at this ⊢
    rw [this, Int.mul_assoc]

theorem lprod_dvd : ∀ {l : List Int} {q : Int}, q ∈ l → q ∣ lprod l
  | x :: l, q, h => by
    simp only [lprod, List.foldr_cons]
    rcases List.mem_cons.1 h with rfl | h
    · exact ⟨_, rfl⟩
    · exact Int.dvd_trans (lprod_dvd h) ⟨x, by rw [Int.mul_comm]; rfl⟩

theorem lprod_prime {q : Int} (hq : IPrime q) : ∀ {l : List Int}, (∀ x ∈ l, IPrime x) → q ∣ lprod l → q ∈ l
  | [], _, h => by
    have h1 := hq.1
    have : q ∣ 1 := h
    have := Int.le_of_dvd (by omega) this
    omega
  | x :: l, hl, h => by
    simp only [lprod, List.foldr_cons] at h
    rcases hq.dvd_mul h with h | h
    · rw [(hl x (.head _)).eq_of_dvd hq h]; exact .head _
    · exact .tail _ (lprod_prime hq (fun y hy => hl y (.tail _ hy)) h)

/-- Different primes that divide a number divide it together. -/
theorem lprod_dvd_of {d : Int} : ∀ {l : List Int}, (∀ x ∈ l, IPrime x) → l.Nodup → (∀ x ∈ l, x ∣ d) → lprod l ∣ d
  | [], _, _, _ => ⟨d, by simp [lprod]⟩
  | x :: l, hl, hn, hd => by
    obtain ⟨h1, h2⟩ := List.nodup_cons.1 hn
    obtain ⟨c, hc⟩ := lprod_dvd_of (l := l) (fun y hy => hl y (.tail _ hy)) h2 (fun y hy => hd y (.tail _ hy))
    have hx := hl x (.head _)
    have : x ∣ lprod l * c := hc ▸ hd x (.head _)
    rcases hx.dvd_mul this with h | ⟨e, he⟩
    · exact absurd (lprod_prime hx (fun y hy => hl y (.tail _ hy)) h) h1
    · refine ⟨e, ?_⟩
      simp only [lprod, List.foldr_cons] at hc ⊢
      rw [hc, he, Int.mul_assoc, Int.mul_left_comm]

structure CrtP (p : List Int) (r : Int → Int) (u m : Int) : Prop where
  lo : 0 ≤ u
  hi : u < m
  prod : m = lprod p
  res : ∀ q ∈ p, u % q = r q % q

theorem CrtP.unique {p : List Int} {r : Int → Int} {u v m : Int} (hp : ∀ x ∈ p, IPrime x) (hn : p.Nodup) (h1 : CrtP p r u m) (h2 : CrtP p r v m) : u = v := by
  have hd : lprod p ∣ u - v := lprod_dvd_of hp hn fun x hx => Int.dvd_of_emod_eq_zero (by
    rw [Int.sub_emod, h1.res x hx, h2.res x hx, Int.sub_self, Int.zero_emod])
  rw [← h1.prod] at hd
  have a1 := h1.lo; have a2 := h1.hi; have b1 := h2.lo; have b2 := h2.hi
  obtain ⟨c, hc⟩ := hd
  have h0 : c = 0 := by
    rcases Int.lt_trichotomy c 0 with h | h | h
    · have := Int.mul_le_mul_of_nonneg_left (show c ≤ -1 by omega) (show 0 ≤ m by omega)
      omega
    · exact h
    · have := Int.mul_le_mul_of_nonneg_left (show 1 ≤ c by omega) (show 0 ≤ m by omega)
      omega
  rw [h0, Int.mul_zero] at hc
  omega

/-- One more prime. -/
theorem CrtP.step {p : List Int} {r : Int → Int} {u m a q i t : Int} (hq : 2 ≤ q) (h : CrtP p r u m) (hqp : q ∉ p) (hi : i * (m % q) % q = 1) (ha : r q % q = a % q)
    (ht : t = (a % q + q - u % q) % q * i % q) : CrtP (p ++ [q]) r (u + m * t) (m * q) := by
  have t0 : 0 ≤ t := by rw [ht]; exact Int.emod_nonneg _ (by omega)
  have t1 : t < q := by rw [ht]; exact Int.emod_lt_of_pos _ (by omega)
  have h0 := h.lo; have h1 := h.hi
  have hmt : 0 ≤ m * t := Int.mul_nonneg (by omega) t0
  refine ⟨by omega, ?_, ?_, fun x hx => ?_⟩
  · have := Int.mul_le_mul_of_nonneg_left (show t ≤ q - 1 by omega) (show 0 ≤ m by omega)
    rw [Int.mul_sub, Int.mul_one] at this
    omega
  · rw [lprod_append, ← h.prod]; simp [lprod]
  · rcases List.mem_append.1 hx with hx | hx
    · obtain ⟨c, hc⟩ := lprod_dvd hx
      rw [← h.prod] at hc
      rw [hc, Int.mul_assoc, Int.add_mul_emod_self_left, h.res x hx]
    · rw [List.mem_singleton.1 hx, ha, ht]
      have e0 := Int.emod_add_mul_ediv ((a % q + q - u % q) % q * i) q
      have e1 := Int.emod_add_mul_ediv (a % q + q - u % q) q
      have e2 := Int.emod_add_mul_ediv a q
      have e3 := Int.emod_add_mul_ediv u q
      have e4 := Int.emod_add_mul_ediv (i * (m % q)) q
      have e5 := Int.emod_add_mul_ediv m q
      rw [hi] at e4
      generalize (a % q + q - u % q) % q * i % q = t at *
      generalize (a % q + q - u % q) % q * i / q = c0 at *
      generalize (a % q + q - u % q) / q = c1 at *
      generalize (a % q + q - u % q) % q = s at *
      generalize a / q = c2 at *
      generalize u / q = c3 at *
      generalize i * (m % q) / q = c4 at *
      generalize m / q = c5 at *
      generalize m % q = m0 at *
      have : u + m * t = a + q * (1 - c1 - c2 + c3 + m * (i * (1 - c1 - c2 + c3) - c0) + (a - u) * (c4 + c5 * i) - (1 - c1 - c2 + c3)) := by
        have hs : s = a - u + q * (1 - c1 - c2 + c3) := by grind
        have him : i * m = 1 + q * (c4 + c5 * i) := by grind
        have ht : t = s * i - q * c0 := by grind
        rw [ht, hs]
        grind
      rw [this, Int.add_mul_emod_self_left]
end Go.Abs.M
end

section
set_option linter.unusedVariables false
set_option linter.unusedSimpArgs false
set_option linter.unusedVariables false
set_option linter.unusedSimpArgs false
namespace Go.Proofs.Ytgncmjcoojmccaa
open Go Go.Abs Go.Proofs

theorem prm_tri {n : Nat} (h0 : 2 ≤ n) (h1 : n ≤ 2147483647) (h : tri n 16 2 = true) : Prm n := by
  refine ⟨by omega, by omega, fun d h1 h2 h3 => ?_⟩
  have hd : d < 65536 := by
    rcases Int.lt_or_le d 65536 with h | h
    · exact h
    · have := Int.mul_le_mul h h (by omega) (by omega); omega
  refine tri_spec 16 2 h d.toNat (by omega) (by omega) ?_
  have : ((n : Nat) : Int) % (d.toNat : Int) = 0 := by rw [Int.toNat_of_nonneg (by omega)]; exact h3
  omega

/-- The last eight primes below 2^31, ahead of them a number that starts. -/
def bigP : Nat → Int
  | 0 => 2146999999 | 1 => 2147483497 | 2 => 2147483543 | 3 => 2147483549 | 4 => 2147483563 | 5 => 2147483579 | 6 => 2147483587 | 7 => 2147483629 | _ => 2147483647

theorem big1 : tri 2147483497 16 2 = true := by kernel_rfl
theorem big2 : tri 2147483543 16 2 = true := by kernel_rfl
theorem big3 : tri 2147483549 16 2 = true := by kernel_rfl
theorem big4 : tri 2147483563 16 2 = true := by kernel_rfl
theorem big5 : tri 2147483579 16 2 = true := by kernel_rfl
theorem big6 : tri 2147483587 16 2 = true := by kernel_rfl
theorem big7 : tri 2147483629 16 2 = true := by kernel_rfl

theorem bigP_prm {i : Nat} (h : i < 8) : bigP i < bigP (i + 1) ∧ Prm (bigP (i + 1)) := by
  match i, h with
  | 0, _ => exact ⟨by decide, show Prm ((2147483497 : Nat) : Int) from prm_tri (by decide) (by decide) big1⟩
  | 1, _ => exact ⟨by decide, show Prm ((2147483543 : Nat) : Int) from prm_tri (by decide) (by decide) big2⟩
  | 2, _ => exact ⟨by decide, show Prm ((2147483549 : Nat) : Int) from prm_tri (by decide) (by decide) big3⟩
  | 3, _ => exact ⟨by decide, show Prm ((2147483563 : Nat) : Int) from prm_tri (by decide) (by decide) big4⟩
  | 4, _ => exact ⟨by decide, show Prm ((2147483579 : Nat) : Int) from prm_tri (by decide) (by decide) big5⟩
  | 5, _ => exact ⟨by decide, show Prm ((2147483587 : Nat) : Int) from prm_tri (by decide) (by decide) big6⟩
  | 6, _ => exact ⟨by decide, show Prm ((2147483629 : Nat) : Int) from prm_tri (by decide) (by decide) big7⟩
  | 7, _ => exact ⟨by decide, prm_mers⟩

/-- i primes one after the other, the last of them p. -/
structure Chs (i : Nat) (p : Int) (l : List Int) : Prop where
  len : l.length = i
  lo : 0 ≤ p
  le : p ≤ bigP i
  mem : ∀ x ∈ l, Prm x ∧ x ≤ p
  nd : l.Nodup

theorem Chs.start {p : Int} (h0 : 0 ≤ p) (h : p < 2147000000) : Chs 0 p [] := ⟨rfl, h0, by show p ≤ 2146999999; omega, (fun x h => by cases h), List.nodup_nil⟩

theorem Chs.step {i : Nat} {p : Int} {l : List Int} (h : Chs i p l) (hi : i < 8) : ∃ q, p < q ∧ Prm q ∧ (∀ k, p < k → k < q → ¬ Prm k) ∧ Chs (i + 1) q (l ++ [q]) := by
  obtain ⟨b1, b2⟩ := bigP_prm hi
  have b3 := b2.2.1
  have hle := h.le
  obtain ⟨q, q1, q2, q3⟩ := next_ex _ p (by omega) rfl
  refine ⟨q, q1, q2, q3, by rw [List.length_append, h.len]; rfl, by have := h.lo; omega, ?_, fun x hx => ?_, ?_⟩
  · rcases Int.lt_or_le (bigP (i + 1)) q with h' | h'
    · exact absurd b2 (q3 _ (by omega) h')
    · exact h'
  · rcases List.mem_append.1 hx with hx | hx
    · have := h.mem x hx; exact ⟨this.1, by omega⟩
    · rw [List.mem_singleton.1 hx]; exact ⟨q2, Int.le_refl _⟩
  · rw [List.nodup_append]
    refine ⟨h.nd, by simp, fun a ha b hb => ?_⟩
    rw [List.mem_singleton.1 hb]
    have := (h.mem a ha).2
    omega

open Classical in
/-- The next prime, if there is one. -/
noncomputable def nxt (p : Int) : Int := if h : ∃ q : Int, p < q ∧ Prm q ∧ ∀ k : Int, p < k → k < q → ¬ Prm k then h.choose else 0

theorem nxt_eq {p q : Int} (h1 : p < q) (h2 : Prm q) (h3 : ∀ k : Int, p < k → k < q → ¬ Prm k) : nxt p = q := by
  have h : ∃ q : Int, p < q ∧ Prm q ∧ ∀ k : Int, p < k → k < q → ¬ Prm k := ⟨q, h1, h2, h3⟩
  unfold nxt
  rw [dif_pos h]
  obtain ⟨a1, a2, a3⟩ := h.choose_spec
  rcases Int.lt_trichotomy h.choose q with g | g | g
  · exact absurd a2 (h3 _ a1 g)
  · exact g
  · exact absurd h2 (a3 _ h1 g)

/-- The first i primes behind a number, and the last of them. -/
noncomputable def chsL (s : Int) : Nat → Int × List Int
  | 0 => (s, [])
  | i + 1 => (nxt (chsL s i).1, (chsL s i).2 ++ [nxt (chsL s i).1])

theorem chsL_step {s : Int} {i : Nat} (h : Chs i (chsL s i).1 (chsL s i).2) (hi : i < 8) : (chsL s i).1 < (chsL s (i + 1)).1 ∧ Prm (chsL s (i + 1)).1 ∧ (∀ k, (chsL s i).1 < k → k < (chsL s (i + 1)).1 → ¬ Prm k) ∧ Chs (i + 1) (chsL s (i + 1)).1 (chsL s (i + 1)).2 := by
  obtain ⟨q, q1, q2, q3, q4⟩ := h.step hi
  have e : nxt (chsL s i).1 = q := nxt_eq q1 q2 q3
  simp only [chsL, e]
  exact ⟨q1, q2, q3, q4⟩

theorem chsL_ok {s : Int} (h0 : 0 ≤ s) (h1 : s < 2147000000) : ∀ i : Nat, i ≤ 8 → Chs i (chsL s i).1 (chsL s i).2
  | 0, _ => .start h0 h1
  | i + 1, hi => (chsL_step (chsL_ok h0 h1 i (by omega)) (by omega)).2.2.2
end Go.Proofs.Ytgncmjcoojmccaa
end

section
set_option linter.unusedVariables false
set_option linter.unusedSimpArgs false
/-
  The abstract layer: a loop whose rounds end in a frame with other numbers of blocks. A frame's blocks have no names of their own.
-/
set_option linter.unusedSimpArgs false
set_option linter.unusedVariables false
namespace Go.Abs

def Cell.ren (ρ : Nat → Nat) : Cell → Cell
  | .t x => .t x
  | .ptr b r c => .ptr (ρ b) r c
  | .tp row c => .tp row c
  | .sl b off len cp => .sl (ρ b) off len cp
  | .mp b => .mp (ρ b)
  | .clo f caps => .clo f (caps.map fun p => (ρ p.1, p.2))

def AV.ren (ρ : Nat → Nat) : AV → AV
  | .c x => .c (x.ren ρ)
  | .agg l => .agg (l.map (Cell.ren ρ))
  | .tup l => .tup l
  | .junk => .junk

def AV.noTup : AV → Prop
  | .tup _ => False
  | _ => True

def Blk.ren (ρ : Nat → Nat) : Blk → Blk
  | .var cells => .var (cells.map (Cell.ren ρ))
  | .rows sz l g fz => .rows sz l g fz
  | .map ents => .map ents
  | .old sz l => .old sz l

/-- A frame that says less, under other numbers. -/
structure St.LeR (n0 : Nat) (ρ : Nat → Nat) (s s' : St) : Prop where
  len : s'.tmps.length = s.tmps.length
  tmps : ∀ (i : Nat) (x : AV), s'.tmps[i]? = some x → x = .junk ∨ x.noTup ∧ s.tmps[i]? = some (x.ren ρ)
  heap : ∀ b blk, look s'.heap b = some blk → look s.heap (ρ b) = some (blk.ren ρ)
  inj : ∀ b b' blk blk', look s'.heap b = some blk → look s'.heap b' = some blk' → ρ b = ρ b' → b = b'
  fix : ∀ b, b < n0 → ρ b = b

section
variable {β : Nat → Option Reg} {S : Place} {w : World} {n : Nat} {ρ : Nat → Nat}

theorem CRep.ren {c : Cell} {v : Value} (h : CRep β S w (c.ren ρ) v) (hb : c.refsLt n = true) : CRep (fun b => if b < n then β (ρ b) else none) S w c v := by
  cases c with
  | t x => cases h with | t h => exact .t h
  | ptr b r c => cases h with | ptr R h => exact .ptr R (by simp only [Cell.refsLt, decide_eq_true_eq] at hb; rw [if_pos hb]; exact h)
  | tp row c => cases h with | tp cb co val h => exact .tp cb co val h
  | sl b off len cp => cases h with | sl R base cap h h1 h2 h3 h4 h5 => exact .sl R base cap (by simp only [Cell.refsLt, decide_eq_true_eq] at hb; rw [if_pos hb]; exact h) h1 h2 h3 h4 h5
  | mp b => cases h with | mp R h => exact .mp R (by simp only [Cell.refsLt, decide_eq_true_eq] at hb; rw [if_pos hb]; exact h)
  | clo f caps =>
    cases h with
    | clo vs h1 h2 =>
      refine .clo vs (by rw [h1, List.length_map]) fun i b r c hi => ?_
      obtain ⟨R, e1, e2⟩ := h2 i (ρ b) r c (by rw [List.getElem?_map, hi]; rfl)
      have := List.all_eq_true.1 hb _ (List.mem_of_getElem? hi)
      exact ⟨R, by rw [if_pos (by simpa using this)]; exact e1, e2⟩

theorem VRep.ren {x : AV} {v : Value} (h : VRep β S w (x.ren ρ) v) (ht : x.noTup) (hb : x.refsLt n = true) : VRep (fun b => if b < n then β (ρ b) else none) S w x v := by
  cases x with
  | c x => cases h with | c h => exact .c (h.ren (by simpa [AV.refsLt] using hb))
  | agg l =>
    cases h with
    | agg vs h1 h2 =>
      refine .agg vs (by rw [h1, List.length_map]) fun i c hi => ?_
      obtain ⟨v, e1, e2⟩ := h2 i (c.ren ρ) (by rw [List.getElem?_map, hi]; rfl)
      simp only [AV.refsLt] at hb
      exact ⟨v, e1, e2.ren (List.all_eq_true.1 hb c (List.mem_of_getElem? hi))⟩
  | tup l => exact ht.elim
  | junk => exact .junk v

theorem Blk.ren_ext {blk : Blk} {R : Reg} : (blk.ren ρ).ext R = blk.ext R := by
  cases blk <;> (funext b o; simp [Blk.ren, Blk.ext])

theorem Blk.ren_wr {blk : Blk} {R : Reg} : (blk.ren ρ).wr R = blk.wr R := by
  cases blk <;> (funext b o; simp [Blk.ren, Blk.wr])

theorem Sat.ren {K : Ctx} {n0 : Nat} {s s' : St} {a : Act} (h : Sat K β S s a w) (hl : s.LeR n0 ρ s') (hb : s'.refsLt = true) (hn : ∀ i R, K.β0 i = some R → i < n0) (hk : n0 ≤ s'.heap.length) :
    Sat K (fun b => if b < s'.heap.length then β (ρ b) else none) S s' a w := by
  simp only [St.refsLt, Bool.and_eq_true] at hb
  refine ⟨by rw [hl.len]; exact h.len, h.defers, fun t x ht => ?_, fun b R hR => ?_, fun b blk hbk => ?_, fun b b' blk blk' R R' hne h1 h2 hR hR' => ?_, h.sex, h.sin, h.sub, h.keep, fun i R hi => by
    rw [if_pos (Nat.lt_of_lt_of_le (hn i R hi) hk), hl.fix i (hn i R hi)]; exact h.arg i R hi⟩
  · rcases hl.tmps t x ht with rfl | ⟨h1, hx⟩
    · exact .junk _
    · exact (h.tmps t _ hx).ren h1 (List.all_eq_true.1 hb.1 x (List.mem_of_getElem? ht))
  · split at hR
    · assumption
    · cases hR
  · obtain ⟨R, e1, e2, e3, e4⟩ := h.blk _ _ (hl.heap b blk hbk)
    have hlt := look_lt hbk
    rw [Blk.ren_ext] at e3
    rw [Blk.ren_wr] at e4
    refine ⟨R, by rw [if_pos hlt]; exact e1, ?_, e3, e4⟩
    cases blk with
    | var cells =>
      simp only [Blk.ren, BlkOk, List.length_map] at e2
      refine ⟨e2.1, fun j c hj => ?_⟩
      obtain ⟨v, f1, f2⟩ := e2.2 j (c.ren ρ) (by rw [List.getElem?_map, hj]; rfl)
      have hm : some (Blk.var cells) ∈ s'.heap := by
        unfold look at hbk
        cases hx : s'.heap[b]? with
        | none => rw [hx] at hbk; cases hbk
        | some y => rw [hx] at hbk; simp at hbk; subst hbk; exact List.mem_of_getElem? hx
      have := List.all_eq_true.1 hb.2 _ hm
      simp only [Blk.refsLt] at this
      exact ⟨v, f1, f2.ren (List.all_eq_true.1 this c (List.mem_of_getElem? hj))⟩
    | rows sz rows g fz => exact e2
    | map ents => exact e2
    | old sz rows => exact e2
  · have l1 := look_lt h1
    have l2 := look_lt h2
    rw [if_pos l1] at hR
    rw [if_pos l2] at hR'
    have := h.dis (ρ b) (ρ b') _ _ R R' (fun e => hne (hl.inj b b' _ _ h1 h2 e)) (hl.heap _ _ h1) (hl.heap _ _ h2) hR hR'
    rw [Blk.ren_ext, Blk.ren_ext] at this
    exact this
end

theorem ARun.postRen {P : Program} {n0 : Nat} {c : Code} {st : St} {Q : AExit → St → Prop} (h : ARun P n0 c st fun e s => Q e s ∨ ∃ ρ s', s.LeR n0 ρ s' ∧ s'.refsLt = true ∧ n0 ≤ s'.heap.length ∧ Q e s') : ARun P n0 c st Q := fun K hn β S a w hs =>
  wp_mono (h K hn β S a w hs) fun e a' w' ⟨x, s, h1, h2, β', S', h5⟩ => by
    rcases h2 with h2 | ⟨ρ, s', h2, h3, hk, h4⟩
    · exact ⟨x, s, h1, h2, β', S', h5⟩
    · exact ⟨x, s', h1, h4, _, S', h5.ren h2 h3 hn hk⟩

theorem LoopP.introR {P : Program} {C : Cfg} {n0 : Nat} {st : St} (hC : CfgOk P C) (hmix : P.follows .mixedOrders = true) {c : Code} {Q : AExit → St → Prop} (I : Nat → St → Prop) {n : Nat} {s0 : St} (hl : st.Le s0) (hb : s0.refsLt = true) (hk : n0 ≤ s0.heap.length) (h0 : I n s0)
    (round : ∀ n s, I n s → CodeK P C n0 c s fun e s => match e with
      | .normal => ∃ ρ s', s.LeR n0 ρ s' ∧ s'.refsLt = true ∧ n0 ≤ s'.heap.length ∧ ∃ m, m < n ∧ I m s'
      | .exit id => Q (.exit id) s
      | .ret => Q .ret s) : LoopP P n0 c st Q := by
  refine ARun.weaken hl hb hk (ARun.loop I (fun n s hI => ARun.postRen ((CodeK.run hC hmix c s _ (round n s hI)).mono fun e s1 h1 => ?_)) h0)
  cases e with
  | normal =>
    obtain ⟨ρ, s', h2, h3, h4, m, h5, h6⟩ := h1
    exact .inr ⟨ρ, s', h2, h3, h4, m, h5, h6⟩
  | exit id => exact .inl h1
  | ret => exact .inl h1

/-- St.LeR, place by place. -/
def leTR (ρ : Nat → Nat) : List AV → List AV → Prop
  | [], [] => True
  | x :: xs, y :: ys => (y = .junk ∨ y.noTup ∧ x = y.ren ρ) ∧ leTR ρ xs ys
  | _, _ => False

/-- Which of the old blocks a new place holds: a list of (new, old). -/
def renF : List (Nat × Nat) → Nat → Nat
  | [], b => b
  | (x, y) :: l, b => if b = x then y else renF l b

def leHR (ρ : Nat → Nat) (h : Heap) : Nat → Heap → Prop
  | _, [] => True
  | i, y :: ys => (match y with | none => True | some b => look h (ρ i) = some (b.ren ρ)) ∧ leHR ρ h (i + 1) ys

/-- The places that hold something, each with its old number: all different. -/
def liveR (ρ : Nat → Nat) : Nat → Heap → List Nat
  | _, [] => []
  | i, none :: ys => liveR ρ (i + 1) ys
  | i, some _ :: ys => ρ i :: liveR ρ (i + 1) ys

theorem leTR_spec {ρ : Nat → Nat} : ∀ {xs ys : List AV}, leTR ρ xs ys → ys.length = xs.length ∧ ∀ (i : Nat) (y : AV), ys[i]? = some y → y = .junk ∨ y.noTup ∧ xs[i]? = some (y.ren ρ)
  | [], [], _ => ⟨rfl, by simp⟩
  | x :: xs, y :: ys, h => by
    obtain ⟨h1, h2⟩ := h
    obtain ⟨h3, h4⟩ := leTR_spec h2
    refine ⟨by simp [h3], fun i z hz => ?_⟩
    cases i with
    | zero =>
      simp at hz; subst hz
      rcases h1 with h | ⟨h, h'⟩
      · exact .inl h
      · exact .inr ⟨h, by simp [h']⟩
    | succ i => simpa using h4 i z (by simpa using hz)

theorem leHR_spec {ρ : Nat → Nat} {h : Heap} : ∀ {ys : Heap} {i : Nat}, leHR ρ h i ys → ∀ (j : Nat) (b : Blk), look ys j = some b → look h (ρ (i + j)) = some (b.ren ρ)
  | [], i, _, j, b, hb => by simp [look] at hb
  | y :: ys, i, ⟨h1, h2⟩, j, b, hb => by
    cases j with
    | zero => simp [look] at hb; subst hb; exact h1
    | succ j =>
      have := leHR_spec h2 j b (by simpa [look] using hb)
      rw [show i + (j + 1) = i + 1 + j by omega]; exact this

theorem liveR_mem {ρ : Nat → Nat} : ∀ {ys : Heap} {i : Nat} (j : Nat) (b : Blk), look ys j = some b → ρ (i + j) ∈ liveR ρ i ys
  | [], i, j, b, hb => by simp [look] at hb
  | y :: ys, i, j, b, hb => by
    cases j with
    | zero => simp [look] at hb; subst hb; exact .head _
    | succ j =>
      have := liveR_mem (ρ := ρ) (i := i + 1) j b (by simpa [look] using hb)
      rw [show i + (j + 1) = i + 1 + j by omega]
      cases y with
      | none => exact this
      | some y => exact .tail _ this

theorem liveR_inj {ρ : Nat → Nat} : ∀ {ys : Heap} {i : Nat}, (liveR ρ i ys).Nodup → ∀ (j j' : Nat) (b b' : Blk), look ys j = some b → look ys j' = some b' → ρ (i + j) = ρ (i + j') → j = j'
  | [], i, _, j, j', b, b', hb, _, _ => by simp [look] at hb
  | y :: ys, i, hn, j, j', b, b', hb, hb', he => by
    have ht : (liveR ρ (i + 1) ys).Nodup := by
      cases y with
      | none => exact hn
      | some y => exact (List.nodup_cons.1 hn).2
    cases j with
    | zero =>
      cases j' with
      | zero => rfl
      | succ j' =>
        simp [look] at hb; subst hb
        have := liveR_mem (ρ := ρ) (i := i + 1) j' b' (by simpa [look] using hb')
        rw [show i + 1 + j' = i + (j' + 1) by omega, ← he] at this
        exact absurd this (List.nodup_cons.1 hn).1
    | succ j =>
      cases j' with
      | zero =>
        simp [look] at hb'; subst hb'
        have := liveR_mem (ρ := ρ) (i := i + 1) j b (by simpa [look] using hb)
        rw [show i + 1 + j = i + (j + 1) by omega, he] at this
        exact absurd this (List.nodup_cons.1 hn).1
      | succ j' =>
        have := liveR_inj ht j j' b b' (by simpa [look] using hb) (by simpa [look] using hb') (by rw [show i + 1 + j = i + (j + 1) by omega, show i + 1 + j' = i + (j' + 1) by omega]; exact he)
        omega

theorem leR_of {n0 : Nat} {s s' : St} (m : List (Nat × Nat)) (h1 : leTR (renF m) s.tmps s'.tmps) (h2 : leHR (renF m) s.heap 0 s'.heap) (h3 : (liveR (renF m) 0 s'.heap).Nodup) (h4 : ∀ p ∈ m, n0 ≤ p.1) : s.LeR n0 (renF m) s' := by
  obtain ⟨a, b⟩ := leTR_spec h1
  refine ⟨a, b, fun b blk hb => ?_, fun b b' blk blk' hb hb' he => ?_, fun b hb => ?_⟩
  · have := leHR_spec h2 b blk hb; rwa [Nat.zero_add] at this
  · exact liveR_inj h3 b b' blk blk' hb hb' (by rw [Nat.zero_add, Nat.zero_add]; exact he)
  · have : ∀ l : List (Nat × Nat), (∀ p ∈ l, n0 ≤ p.1) → renF l b = b := by
      intro l
      induction l with
      | nil => intro _; rfl
      | cons p l ih =>
        intro h
        obtain ⟨x, y⟩ := p
        have := h (x, y) (.head _)
        simp only [renF]
        rw [if_neg (by simp at this; omega)]
        exact ih fun p hp => h p (.tail _ hp)
    exact this m h4

/-- The loop's next turn, under other numbers: m says, for each block that is elsewhere, (where the invariant has it, where it is now). -/
theorem againR {s s' : St} {n0 n k : Nat} {I : Nat → St → Prop} (m : List (Nat × Nat)) (h1 : leTR (renF m) s.tmps s'.tmps) (h2 : leHR (renF m) s.heap 0 s'.heap) (h3 : (liveR (renF m) 0 s'.heap).Nodup) (h4 : ∀ p ∈ m, n0 ≤ p.1)
    (h5 : s'.refsLt = true) (h6 : n0 ≤ s'.heap.length) (hm : k < n) (hI : I k s') : ∃ ρ s', s.LeR n0 ρ s' ∧ s'.refsLt = true ∧ n0 ≤ s'.heap.length ∧ ∃ m, m < n ∧ I m s' := ⟨_, s', leR_of m h1 h2 h3 h4, h5, h6, k, hm, hI⟩

section
variable {P : Program} {C : Cfg} {n0 : Nat} {zwrap : IntKind → Int → Int} {zadd : Int → Int → Int} {zsub : Int → Int → Int} {zmul : Int → Int → Int} {zquo : Int → Int → Int} {zrem : Int → Int → Int} {zshl : IntKind → Int → Int → Int} {zshr : IntKind → Int → Int → Int} {zband : IntKind → Int → Int → Int} {zbor : IntKind → Int → Int → Int} {zbxor : IntKind → Int → Int → Int} {zbandn : IntKind → Int → Int → Int} {zeq : Int → Int → Bool} {zne : Int → Int → Bool} {zlt : Int → Int → Bool} {zle : Int → Int → Bool} {znot : Bool → Bool} {zbeq : Bool → Bool → Bool} {zbne : Bool → Bool → Bool} {zmax : Int → Int → Int} {zmin : Int → Int → Int} {znat : Int → Nat} {zinb : Int → Nat → Bool} {zofN : Nat → Int} {zidx : Nat → Int → Nat} {zneq : Nat → Nat → Bool} {znadd : Nat → Nat → Nat} {zdif : Int → Int → Nat} {zcut : Int → Int → Nat → Bool} {zroom : Nat → Nat → Nat → Bool} {zmkok : Int → Int → Nat → Bool} {zlen : Rows → Nat} {znth : Rows → Nat → Option (List Tree)} {zsetr : Rows → Nat → List Tree → Rows} {zisI : IntKind → Rows → Nat → Bool} {zgetI : Rows → Nat → Int} {zsetI : IntKind → Rows → Nat → Int → Rows} {zfit : Nat → Nat → Rows → Bool} {zpart : Rows → Nat → Nat → Rows} {zext : Rows → Nat → Rows → Rows} {zsetg : Rows → Nat → Rows → Rows} {zrep : Nat → List Tree → Rows} {zwide : Nat → Rows → Bool} {zall : List Bool → Bool} {zmok : List (Value × Tree) → Value → Bool} {zmget : List (Value × Tree) → Value → Bool} {zmset : List (Value × Tree) → Value → Tree → List (Value × Tree)} {zW : IntKind → List Int → Rows} {zth : (α : Type) → (Unit → α) → α} {A : FuncId → List Arg → Res → Prop} {L : Code → St → (AExit → ST → Prop) → Prop}
theorem loopZR (hC : CfgOk P C) (hmix : P.follows .mixedOrders = true) (hS : Std P n0 zwrap zadd zsub zmul zquo zrem zshl zshr zband zbor zbxor zbandn zeq zne zlt zle znot zbeq zbne zmax zmin znat zinb zofN zidx zneq znadd zdif zcut zroom zmkok zlen znth zsetr zisI zgetI zsetI zfit zpart zext zsetg zrep zwide zall zmok zmget zmset zW zth A L) {c : Code} {st : St} {Q : AExit → ST → Prop} (I : Nat → St → Prop) {n : Nat} {s0 : St} (hl : st.Le s0) (hb : s0.refsLt = true) (hk : n0 ≤ s0.heap.length) (h0 : I n s0)
    (round : ∀ n s, I n s → CodeKZ (ZI.mk zwrap zadd zsub zmul zquo zrem zshl zshr zband zbor zbxor zbandn zeq zne zlt zle znot zbeq zbne zmax zmin znat zinb zofN zidx zneq znadd zdif zcut zroom zmkok zlen znth zsetr zisI zgetI zsetI zfit zpart zext zsetg zrep zwide zall zmok zmget zmset) C A L c (ST.ofSt s) fun e s => match e with
      | .normal => match s.toSt with
        | ⟨t, h⟩ => ∃ ρ s', (St.mk t h).LeR n0 ρ s' ∧ s'.refsLt = true ∧ n0 ≤ s'.heap.length ∧ ∃ m, m < n ∧ I m s'
      | .exit id => Q (.exit id) s
      | .ret => Q .ret s) : L c st Q := by
  rw [hS.z, hS.a, hS.l] at round
  rw [hS.l]
  refine fun hT => LoopP.introR hC hmix I hl hb hk h0 fun n s hI => ?_
  have := codeKZ_std c _ (ST.ofSt_ok s) hT (round n s hI)
  rw [ST.toSt_ofSt] at this
  refine codeK_mono c s this fun e s1 h1 => ?_
  obtain ⟨s', ho, rfl, h2⟩ := h1
  cases e with
  | normal => exact h2
  | exit id => exact ⟨s', ho, rfl, h2⟩
  | ret => exact ⟨s', ho, rfl, h2⟩

end
end Go.Abs
end

section
set_option linter.unusedVariables false
set_option linter.unusedSimpArgs false
set_option maxHeartbeats 8000000
set_option linter.unusedVariables false
set_option linter.unusedSimpArgs false
set_option maxRecDepth 100000
namespace Go.Proofs.Ytgncmjcoojmccaa
open Go Go.Abs Go.Abs.M Go.Proofs

def chsSt (n k p i : Int) (r : Abs.Rows) (len : Nat) : St := mkSt 27 [vi .u32 n, vi .i64 k, .junk, .junk, .junk, vi .u64 p, .c (.sl 2 0 len false), vi .i64 i] [none, none, some (.rows 1 r true false)]


theorem chosen_call (n : Int) (k : Nat) (h0 : 0 ≤ n) (h1 : n < 4294967296) (hk : k ≤ 8) : ACall Try.prog 25 [.val (ti .u32 n), .val (ti .i64 (k : Int))] ⟨[.val (tl (W .u64 (chsL (n % 2147000000) k).2))], [none, none]⟩ := by
  obtain ⟨K, hK⟩ : ∃ K : Int, K = k := ⟨_, rfl⟩
  rw [← hK]
  obtain ⟨p0, hp0⟩ : ∃ p0 : Int, p0 = n % 2147000000 := ⟨_, rfl⟩
  have b1 : 0 ≤ p0 := by omega
  have b2 : p0 < 2147000000 := by omega
  rw [← hp0]
  refine callZ ccOk mixed [.val] Try.func25 rfl rfl (by kernel_rfl) fun zwrap zadd zsub zmul zquo zrem zshl zshr zband zbor zbxor zbandn zeq zne zlt zle znot zbeq zbne zmax zmin znat zinb zofN zidx zneq znadd zdif zcut zroom zmkok zlen znth zsetr zisI zgetI zsetI zfit zpart zext zsetg zrep zwide zall zmok zmget zmset zW zth A L F hS hF => ?_
  have A0 : zwrap .u64 (zrem n 2147000000) = p0 := by rw [hS.rem, Int.tmod_eq_emod_of_nonneg h0, hS.wrap, wrap_u64 (by omega) (by omega), hp0]
  have A1 : ∀ (i : Nat) (I : Int), I = i → zlt I K = decide (i < k) := fun i I hI => by
    rw [hS.lt]
    by_cases h : i < k
    · rw [decide_eq_true h]; exact decide_eq_true (by omega)
    · rw [decide_eq_false h]; exact decide_eq_false (by omega)
  have A2 : ∀ (i : Nat) (I : Int), I = i → i < 100 → ∃ I' : Int, I' = ((i + 1 : Nat) : Int) ∧ zwrap .i64 (zadd I 1) = I' := fun i I hI h => by
    refine ⟨_, rfl, ?_⟩
    rw [hS.add, hS.wrap, wrap_i64 (by omega) (by omega)]; omega
  cbv
  refine loopZR ccOk mixed hS (fun (m : Nat) s' => ∃ (i : Nat) (I p : Int) (r : Abs.Rows) (len : Nat), I = i ∧ i + m = k ∧ p = (chsL p0 i).1 ∧ r = W .u64 (chsL p0 i).2 ∧ len = (chsL p0 i).2.length ∧ s' = chsSt n K p I r len) (n := k) (s0 := chsSt n K p0 0 [] 0) (le_of ?_ ?_) rfl (by show 2 ≤ 3; omega) ?_ ?_
  · simp [leT, chsSt, mkSt, vi, vb, A0]
  · simp [leH, chsSt, mkSt]
  · exact ⟨0, 0, p0, [], 0, rfl, by omega, rfl, rfl, rfl, rfl⟩
  · rintro m s1 ⟨i, I, p, r, len, hI, him, hp, hr, hlen, hs1⟩
    have l1 := A1 i I hI
    have hch := chsL_ok b1 b2 i (by omega)
    have hle : len ≤ 8 := by rw [hlen, hch.len]; omega
    by_cases hik : i < k
    · rw [decide_eq_true hik] at l1
      obtain ⟨q1, q2, q3, q4⟩ := chsL_step hch (by omega)
      obtain ⟨q, hq⟩ : ∃ q, q = (chsL p0 (i + 1)).1 := ⟨_, rfl⟩
      rw [← hq, ← hp] at q1 q3
      rw [← hq] at q2
      have hl2 : (chsL p0 (i + 1)).2 = (chsL p0 i).2 ++ [q] := by rw [hq]; rfl
      obtain ⟨I', hI', i1⟩ := A2 i I hI (by omega)
      have cn := next_call p q (by rw [hp]; exact hch.lo) q1 q2 q3
      have hm1 : m - 1 < m := by omega
      have him' : i + 1 + (m - 1) = k := by omega
      have ap0 : zpart [[Tree.v (.int .u64 q)]] 0 1 = W .u64 [q] := by rw [hS.part]; rfl
      have ap1 : zfit 0 1 [[Tree.v (.int .u64 q)]] = true := by rw [hS.fit]; rfl
      have ap2 : znot (zneq (zlen (zpart [[Tree.v (.int .u64 q)]] 0 1)) 0) = true := by rw [ap0, hS.len, hS.neq, hS.not]; rfl
      have ap3 : zwide 1 (zpart [[Tree.v (.int .u64 q)]] 0 1) = true := by rw [ap0, hS.wide]; rfl
      have ap4 : zroom len (zlen (zpart [[Tree.v (.int .u64 q)]] 0 1)) 8 = true := by rw [ap0, hS.len, hS.room]; exact decide_eq_true (by unfold capBytes; simp [W]; omega)
      have ap5 : zneq (znadd 0 len) (zlen r) = true := by rw [hS.nadd, hS.neq, hS.len, hr, W_len, hlen, Nat.zero_add]; exact decide_eq_true rfl
      have ap6 : znadd len (zlen (zpart [[Tree.v (.int .u64 q)]] 0 1)) = len + 1 := by rw [ap0, hS.len, hS.nadd]; rfl
      have ap7 : zext r 0 (zpart [[Tree.v (.int .u64 q)]] 0 1) = W .u64 ((chsL p0 i).2 ++ [q]) := by rw [ap0, hS.ext, hr, List.drop_zero]; simp [W]
      obtain ⟨r', hr'⟩ : ∃ r', r' = W .u64 ((chsL p0 i).2 ++ [q]) := ⟨_, rfl⟩
      rw [← hr'] at ap7
      clear ap0 A1 A2 A0
      subst hs1
      cbv
      refine bT (l1) ?_
      refine ⟨_, hS.call (cn), ?_⟩
      cbv
      refine nd (ap1) ?_
      refine nd (ap2) ?_
      refine nd (ap3) ?_
      refine nd (ap4) ?_
      refine nd (ap5) ?_
      refine againR [(2, 6)] (s' := chsSt n K q I' r' (len + 1)) (k := m - 1) ?_ ?_ ?_ ?_ rfl (by show 2 ≤ 3; omega) hm1 ⟨i + 1, I', q, r', len + 1, hI', him', hq, by rw [hr', hl2], by rw [hlen, hl2, List.length_append]; rfl, rfl⟩
      · simp [leTR, chsSt, mkSt, vi, AV.ren, AV.noTup, Cell.ren, renF, i1, ap6]
      · simp [leHR, chsSt, mkSt, Abs.look, renF, Blk.ren, ap7]
      · simp [liveR, chsSt, mkSt]
      · simp
    · rw [decide_eq_false hik] at l1
      have hik2 : i = k := by omega
      rw [hik2] at hr hlen
      have f1 : zfit 0 len r = true := by rw [hS.fit, hr, W_len, hlen]; exact decide_eq_true (by omega)
      have f2 : zpart r 0 len = W .u64 (chsL p0 k).2 := by rw [hS.part, hr, W_part, hlen, List.drop_zero, List.take_length]
      generalize W .u64 (chsL p0 k).2 = res at *
      clear A1 A2 A0
      subst hs1
      cbv
      refine bF l1 (nd f1 ?_)
      rw [f2]
      exact hF _ (ResLe.refl _)

def chn1St (l p : Abs.Rows) (n i : Int) (es : List (Value × Tree)) : St := mkSt 96 [vl l, vl p, .junk, .junk, .c (.ptr 2 0 0), .c (.ptr 3 0 0), vi .i64 0, .c (.mp 4), .junk, .junk, .junk, .junk, .junk, .junk, .junk, .junk, .junk, .junk, .junk, .junk, .junk, .junk, .junk, .junk, .junk, vl p, vi .i64 n, vi .i64 i] [none, none, some (.var [.t (.v (.bool false)), .t (.lst true [])]), some (.var [.t (.v (.bool false)), .t (.lst true [])]), some (.map es)]

def chn2St (l p : Abs.Rows) (us : Bool) (ur : Abs.Rows) (ms : Bool) (mr : Abs.Rows) (n i : Int) : St := mkSt 96 [vl l, vl p, .junk, .junk, .c (.ptr 2 0 0), .c (.ptr 3 0 0), vi .i64 0, .junk, .junk, .junk, .c (.ptr 9 0 0), .c (.ptr 10 0 0), .junk, .junk, .junk, .junk, .junk, .junk, .junk, .junk, .junk, .junk, .junk, .junk, .junk, .junk, .junk, .junk, .junk, .junk, .junk, .junk, .junk, .junk, .junk, .junk, .junk, .junk, .junk, .junk, .junk, .junk, .junk, .junk, .junk, .junk, .junk, vi .i64 n, vi .i64 i] [none, none, some (.var [.t (.v (.bool false)), .t (.lst true [])]), some (.var [.t (.v (.bool false)), .t (.lst true [])]), none, none, none, none, none, some (.var [.t (.v (.bool us)), .t (.lst false ur)]), some (.var [.t (.v (.bool ms)), .t (.lst false mr)])]

theorem Prm.ip {p : Int} (h : Prm p) : IPrime p := ⟨h.1, h.prime⟩

theorem nodup_ne {l : List Int} (h : l.Nodup) {i j : Nat} (hi : i < l.length) (hj : j < l.length) (hne : i ≠ j) : l[i] ≠ l[j] := by
  have := List.pairwise_iff_getElem.1 h
  rcases Nat.lt_or_ge i j with h1 | h1
  · exact this i j hi hj h1
  · exact fun e => this j i hj hi (by omega) e.symm

/-- The factor that the program finds. -/
def crtT (u m a q : Int) : Int := (a % q + q - u % q) % q * ((m % q) ^ (q - 2).toNat % q) % q

theorem crt_step {p : List Int} {r : Int → Int} (hp : ∀ q ∈ p, Prm q) (hnd : p.Nodup) {i : Nat} (hi : i < p.length) {u m a : Int} (h : CrtP (p.take i) r u m) (ha : r (p.getD i 0) % p.getD i 0 = a % p.getD i 0) :
    Prm (p.getD i 0) ∧ m % p.getD i 0 ≠ 0 ∧ CrtP (p.take (i + 1)) r (u + m * crtT u m a (p.getD i 0)) (m * p.getD i 0) := by
  have hg : p.getD i 0 = p[i] := by rw [List.getD_eq_getElem?_getD, List.getElem?_eq_getElem hi]; rfl
  rw [hg] at ha ⊢
  have hmem : p[i] ∈ p := List.getElem_mem hi
  have hq := hp _ hmem
  have hni : p[i] ∉ p.take i := fun hm => by
    obtain ⟨j, hj, he⟩ := List.mem_iff_getElem.1 hm
    rw [List.length_take] at hj
    rw [List.getElem_take] at he
    exact absurd he (nodup_ne hnd (by omega) hi (by omega))
  have hm0 : m % p[i] ≠ 0 := fun h0 => hni (lprod_prime hq.ip (fun x hx => (hp x (List.mem_of_mem_take hx)).ip) (h.prod ▸ Int.dvd_of_emod_eq_zero h0))
  have hb := Int.emod_nonneg m (show p[i] ≠ 0 by have := hq.1; omega)
  have hi1 := inv_mul hq hb (by rwa [Int.emod_emod_of_dvd _ (Int.dvd_refl _)])
  rw [Int.emod_emod_of_dvd _ (Int.dvd_refl _)] at hi1
  refine ⟨hq, hm0, ?_⟩
  rw [List.take_add_one, List.getElem?_eq_getElem hi]
  exact h.step hq.1 hni hi1 ha rfl

theorem crt_ex {p : List Int} {r : Int → Int} (hp : ∀ q ∈ p, Prm q) (hnd : p.Nodup) : ∀ i, i ≤ p.length → ∃ u m, CrtP (p.take i) r u m
  | 0, _ => ⟨0, 1, by omega, by omega, rfl, fun q hq => by cases hq⟩
  | i + 1, hi => by
    obtain ⟨u, m, h⟩ := crt_ex hp hnd i (by omega)
    exact ⟨_, _, (crt_step hp hnd (by omega) h (a := r (p.getD i 0)) rfl).2.2⟩

theorem pow_bd {i : Nat} {m : Int} (h : m ≤ 2147483648 ^ i) (hi : i ≤ 8) : m ≤ 452312848583266388373324160190187140051835877600158453279131187530910662656 := by
  have h1 : (2147483648 : Nat) ^ i ≤ 2147483648 ^ 8 := Nat.pow_le_pow_right (by omega) hi
  have h2 : ((2147483648 ^ i : Nat) : Int) ≤ ((2147483648 ^ 8 : Nat) : Int) := by exact_mod_cast h1
  rw [Int.natCast_pow] at h2
  have h3 : m ≤ ((2147483648 : Nat) : Int) ^ i := h
  have : ((2147483648 ^ 8 : Nat) : Int) = 452312848583266388373324160190187140051835877600158453279131187530910662656 := by decide
  omega

end Go.Proofs.Ytgncmjcoojmccaa
end

section
set_option linter.unusedVariables false
set_option linter.unusedSimpArgs false
set_option maxHeartbeats 8000000
set_option linter.unusedVariables false
set_option linter.unusedSimpArgs false
set_option maxRecDepth 100000
namespace Go.Proofs.Ytgncmjcoojmccaa
open Go Go.Abs Go.Abs.M Go.Proofs

theorem pchin_call {l p : List Int} {r : Int → Int} {u m : Int} {us : Bool} {ur : Abs.Rows} {ms : Bool} {mr : Abs.Rows} (hlen : l.length = p.length) (hk : p.length ≤ 8) (hl : ∀ i, i < p.length → 0 ≤ l.getD i 0 ∧ l.getD i 0 < 18446744073709551616)
    (hp : ∀ q ∈ p, Prm q) (hnd : p.Nodup) (hr : ∀ i, i < p.length → r (p.getD i 0) % p.getD i 0 = l.getD i 0 % p.getD i 0) (hc : CrtP p r u m) (iu : IsI u us ur) (im : IsI m ms mr) :
    ACall Try.prog 26 [.val (tl (W .u64 l)), .val (tl (W .u64 p))] ⟨[.val (.agg (iT us ur)), .val (.agg (iT ms mr)), .val (ti .i64 0)], [none, none]⟩ := by
  have hend : ∀ u' m' us' ur' ms' mr', CrtP (p.take p.length) r u' m' → IsI u' us' ur' → IsI m' ms' mr' → us' = us ∧ ur' = ur ∧ ms' = ms ∧ mr' = mr := fun u' m' us' ur' ms' mr' h1 h2 h3 => by
    rw [List.take_length] at h1
    have e1 : m' = m := h1.prod.trans hc.prod.symm
    subst e1
    have e2 := CrtP.unique (fun x hx => (hp x hx).ip) hnd h1 hc
    subst e2
    obtain ⟨a, b⟩ := h2.inj iu
    obtain ⟨c, d⟩ := h3.inj im
    exact ⟨a, b, c, d⟩
  have hget : ∀ i, i < p.length → Prm (p.getD i 0) ∧ p.getD i 0 ∉ p.take i := fun i hi => by
    have hg : p.getD i 0 = p[i] := by rw [List.getD_eq_getElem?_getD, List.getElem?_eq_getElem hi]; rfl
    rw [hg]
    refine ⟨hp _ (List.getElem_mem hi), fun hm => ?_⟩
    obtain ⟨j, hj, he⟩ := List.mem_iff_getElem.1 hm
    rw [List.length_take] at hj
    rw [List.getElem_take] at he
    exact absurd he (nodup_ne hnd (by omega) hi (by omega))
  have htk : ∀ i, i < p.length → p.take (i + 1) = p.take i ++ [p.getD i 0] := fun i hi => by
    rw [List.take_add_one, List.getElem?_eq_getElem hi, List.getD_eq_getElem?_getD, List.getElem?_eq_getElem hi]; rfl
  obtain ⟨lr, hlr⟩ : ∃ lr, lr = W .u64 l := ⟨_, rfl⟩
  obtain ⟨pr, hpr⟩ : ∃ pr, pr = W .u64 p := ⟨_, rfl⟩
  rw [← hlr, ← hpr]
  obtain ⟨k, hkk⟩ : ∃ k, k = p.length := ⟨_, rfl⟩
  obtain ⟨N, hN⟩ : ∃ N : Int, N = k := ⟨_, rfl⟩
  obtain ⟨us0, ur0, iu0, cu⟩ := iof_call 0 (by omega) (by omega)
  obtain ⟨ms0, mr0, im0, cm⟩ := iof_call 1 (by omega) (by omega)
  have hstep : ∀ i, i < k → ∀ u m, CrtP (p.take i) r u m → m ≤ 2147483648 ^ i → ∃ q a inv t : Int, p.getD i 0 = q ∧ l.getD i 0 = a ∧ 2 ≤ q ∧ q ≤ 2147483647 ∧ 0 ≤ a ∧ a < 18446744073709551616 ∧ nl u.natAbs ≤ 100 ∧ nl m.natAbs ≤ 100 ∧ 0 ≤ m % q ∧ m % q < q ∧ 0 ≤ u % q ∧ u % q < q ∧
      inv = (if m % q % q = 0 then 0 else (m % q) ^ (q - 2).toNat % q) ∧ 0 ≤ inv ∧ inv < q ∧ t = (a % q + q - u % q) % q * inv % q ∧ 0 ≤ t ∧ t < q ∧ nl (m * t).natAbs ≤ 100 ∧ CrtP (p.take (i + 1)) r (u + m * t) (m * q) ∧ m * q ≤ 2147483648 ^ (i + 1) := fun i hi u m hcr hm => by
    obtain ⟨s1, s2, s3⟩ := crt_step hp hnd (show i < p.length by omega) hcr (hr i (by omega))
    have q1 := s1.1
    have q2 := s1.2.1
    obtain ⟨a1, a2⟩ := hl i (by omega)
    have hm2 := pow_bd hm (by omega)
    have u0 := hcr.lo
    have u1 := hcr.hi
    generalize p.getD i 0 = q at *
    generalize l.getD i 0 = a at *
    have b1 := Int.emod_nonneg m (show q ≠ 0 by omega)
    have b2 := Int.emod_lt_of_pos m (show 0 < q by omega)
    have b3 := Int.emod_nonneg u (show q ≠ 0 by omega)
    have b4 := Int.emod_lt_of_pos u (show 0 < q by omega)
    have b5 := Int.emod_nonneg ((m % q) ^ (q - 2).toNat) (show q ≠ 0 by omega)
    have b6 := Int.emod_lt_of_pos ((m % q) ^ (q - 2).toNat) (show 0 < q by omega)
    have b7 := Int.emod_nonneg ((a % q + q - u % q) % q * ((m % q) ^ (q - 2).toNat % q)) (show q ≠ 0 by omega)
    have b8 := Int.emod_lt_of_pos ((a % q + q - u % q) % q * ((m % q) ^ (q - 2).toNat % q)) (show 0 < q by omega)
    unfold crtT at s3
    refine ⟨q, a, (m % q) ^ (q - 2).toNat % q, _, rfl, rfl, q1, q2, a1, a2, nl_le_of (by omega), nl_le_of (by omega), b1, b2, b3, b4, by rw [Int.emod_emod_of_dvd _ (Int.dvd_refl q), if_neg s2], b5, b6, rfl, b7, b8, ?_, s3, ?_⟩
    · generalize (a % q + q - u % q) % q * ((m % q) ^ (q - 2).toNat % q) % q = t at *
      have h1 : 0 ≤ m * t := Int.mul_nonneg (by omega) b7
      have h2 : m * t ≤ 452312848583266388373324160190187140051835877600158453279131187530910662656 * 2147483648 := Int.mul_le_mul hm2 (by omega) (by omega) (by omega)
      exact nl_le_of (by omega)
    · rw [Int.pow_succ]
      exact Int.mul_le_mul hm (by omega) (by omega) (Int.pow_nonneg (by omega))
  refine callZ ccOk mixed [.val, .val, .val] Try.func26 rfl rfl (by kernel_rfl) fun zwrap zadd zsub zmul zquo zrem zshl zshr zband zbor zbxor zbandn zeq zne zlt zle znot zbeq zbne zmax zmin znat zinb zofN zidx zneq znadd zdif zcut zroom zmkok zlen znth zsetr zisI zgetI zsetI zfit zpart zext zsetg zrep zwide zall zmok zmget zmset zW zth A L F hS hF => ?_
  have x0 : zofN (zlen pr) = N := by rw [hS.ofN, hS.len, hpr, W_len, hN, hkk]
  have x1 : zne (zofN (zlen lr)) (zofN (zlen pr)) = false := by rw [hS.ne, hS.ofN, hS.ofN, hS.len, hS.len, hlr, hpr, W_len, W_len, hlen]; exact decide_eq_false (by simp)
  have A1 : ∀ (i : Nat) (I : Int), I = i → zlt I N = decide (i < k) := fun i I hI => by
    rw [hS.lt]
    by_cases h : i < k
    · rw [decide_eq_true h]; exact decide_eq_true (by omega)
    · rw [decide_eq_false h]; exact decide_eq_false (by omega)
  have A2 : ∀ (i : Nat) (I : Int), I = i → i < 100 → ∃ I' : Int, I' = ((i + 1 : Nat) : Int) ∧ zwrap .i64 (zadd I 1) = I' := fun i I hI h => by
    refine ⟨_, rfl, ?_⟩
    rw [hS.add, hS.wrap, wrap_i64 (by omega) (by omega)]; omega
  have A3 : ∀ (i : Nat) (I : Int), I = i → zle 0 I = true := fun i I hI => by rw [hS.le]; exact decide_eq_true (by omega)
  have A4 : ∀ (i : Nat) (I : Int), I = i → i < k → zisI .u64 pr (znat I) = true ∧ zgetI pr (znat I) = p.getD i 0 ∧ zisI .u64 lr (znat I) = true ∧ zgetI lr (znat I) = l.getD i 0 := fun i I hI hi => by
    have e : znat I = i := by rw [hS.nat]; omega
    rw [e, hS.isI, hS.getI, hS.isI, hS.getI, hpr, hlr, W_isI, W_isI, W_getI, W_getI]
    exact ⟨decide_eq_true (by omega), rfl, decide_eq_true (by omega), rfl⟩
  have A5 : ∀ (q : Int) (t : List Int), q ∉ t → zmok (sE .u64 t) (.int .u64 q) = true ∧ zmget (sE .u64 t) (.int .u64 q) = false ∧ zmset (sE .u64 t) (.int .u64 q) (.v (.bool true)) = sE .u64 (t ++ [q]) := fun q t ht => by
    rw [hS.mok, hS.mget, hS.mset, sE_mok, sE_mget, sE_mset _ _ _ ht]
    exact ⟨rfl, decide_eq_false ht, rfl⟩
  have e1 : znot true = false := hS.not true
  cbv
  refine bF x1 ?_
  rw [x0]
  refine loopZ ccOk mixed hS (fun (m : Nat) s' => ∃ (i : Nat) (I : Int) (es : List (Value × Tree)), I = i ∧ i + m = k ∧ es = sE .u64 (p.take i) ∧ s' = chn1St lr pr N I es) (n := k) (s0 := chn1St lr pr N 0 []) (le_of ?_ ?_) rfl (by show 2 ≤ 5; omega) ?_ ?_
  · simp [leT, chn1St, mkSt, vi, vb, vl]
  · simp [leH, chn1St, mkSt]
  · exact ⟨0, 0, [], rfl, by omega, rfl, rfl⟩
  · rintro n s1 ⟨i, I, es, hI, hin, hes, hs1⟩
    have l1 := A1 i I hI
    by_cases hik : i < k
    · rw [decide_eq_true hik] at l1
      obtain ⟨b1, b2, _, _⟩ := A4 i I hI hik
      have b3 := A3 i I hI
      obtain ⟨I', hI', i1⟩ := A2 i I hI (by omega)
      obtain ⟨g1, g2⟩ := hget i (by omega)
      obtain ⟨h1, h2, h3⟩ := A5 _ _ g2
      have hes' : sE .u64 (p.take (i + 1)) = sE .u64 (p.take i ++ [p.getD i 0]) := by rw [htk i (by omega)]
      rw [← hes', ← hes] at h3
      rw [← hes] at h1 h2
      obtain ⟨es', hes2⟩ : ∃ es', es' = sE .u64 (p.take (i + 1)) := ⟨_, rfl⟩
      rw [← hes2] at h3
      have c := pprime_call (p.getD i 0) true (by have := g1.1; omega) (by have := g1.2.1; omega) ⟨fun _ => g1.pf, fun _ => rfl⟩
      obtain ⟨q, hq⟩ : ∃ q, q = p.getD i 0 := ⟨_, rfl⟩
      rw [← hq] at b2 h1 h2 h3 c
      have hn1 : n - 1 < n := by omega
      have hin' : i + 1 + (n - 1) = k := by omega
      clear A1 A2 A3 A4 A5 hend hget htk g1 g2 hes' hI hik
      subst hs1
      cbv
      refine bT (l1) ?_
      refine nd (b3) ?_
      refine nd (b1) ?_
      rw [b2]
      refine ⟨_, hS.call (c), ?_⟩
      cbv
      refine bF (e1) ?_
      refine nd (h1) ?_
      refine bF (h2) ?_
      refine nd (h1) ?_
      exact again (s' := chn1St lr pr N I' es') (m := n - 1) (by simp [leT, chn1St, mkSt, vi, vb, vl, i1]) (by simp [leH, chn1St, mkSt, h3]) rfl (by show 2 ≤ 5; omega) hn1 ⟨i + 1, I', es', hI', hin', hes2, rfl⟩
    · rw [decide_eq_false hik] at l1
      clear A5 hik hin hes hI
      subst hs1
      cbv
      refine bF (l1) ?_
      refine ⟨_, hS.call (cu), ?_⟩
      cbv
      refine ⟨_, hS.call (cm), ?_⟩
      cbv
      rw [x0]
      refine loopZ ccOk mixed hS (fun (n : Nat) s' => ∃ (i : Nat) (I u m : Int) (us : Bool) (ur : Abs.Rows) (ms : Bool) (mr : Abs.Rows), I = i ∧ i + n = k ∧ CrtP (p.take i) r u m ∧ m ≤ 2147483648 ^ i ∧ IsI u us ur ∧ IsI m ms mr ∧ s' = chn2St lr pr us ur ms mr N I) (n := k) (s0 := chn2St lr pr us0 ur0 ms0 mr0 N 0) (le_of ?_ ?_) rfl (by show 2 ≤ 11; omega) ?_ ?_
      · simp [leT, chn2St, mkSt, vi, vb, vl]
      · simp [leH, chn2St, mkSt]
      · exact ⟨0, 0, 0, 1, _, _, _, _, rfl, by omega, ⟨by omega, by omega, rfl, fun q hq => by cases hq⟩, by simp, iu0, im0, rfl⟩
      · rintro n s1 ⟨i, I, u, m, us, ur, ms, mr, hI, hin, hcr, hmb, iu, im, hs1⟩
        have l1 := A1 i I hI
        by_cases hik : i < k
        · rw [decide_eq_true hik] at l1
          obtain ⟨q, a, inv, t, hq, ha, q1, q2, a1, a2, nu, nm, b1, b2, b3, b4, hinv, v1, v2, ht, t1, t2, nt, hcr', hmb'⟩ := hstep i hik u m hcr hmb
          obtain ⟨g1, g2, g3, g4⟩ := A4 i I hI hik
          have g5 := A3 i I hI
          obtain ⟨I', hI', i1⟩ := A2 i I hI (by omega)
          rw [hq] at g2
          rw [ha] at g4
          have c1 := presidue_call (p := q) (e := m % q) im (by omega) (by omega) (by omega) rfl
          have c2 := inv_call (m % q) q q1 (by omega) b1 (by omega) inv (if m % q % q = 0 then 10 else 0) hinv rfl
          have c3 := presidue_call (p := q) (e := u % q) iu (by omega) (by omega) (by omega) rfl
          have nt2 : nl t.natAbs ≤ 2 := nl_le_of (by omega)
          have nq2 : nl q.natAbs ≤ 2 := nl_le_of (by omega)
          obtain ⟨ts, tr, it, c4⟩ := iof_call t (by omega) (by omega)
          obtain ⟨qs, qr, iq, c5⟩ := iof_call q (by omega) (by omega)
          obtain ⟨xs, xr, ix, c6⟩ := imul_call im it (by omega) (by omega)
          obtain ⟨ys, yr, iy, c7⟩ := iadd_call iu ix (by omega) (by omega)
          obtain ⟨zs, zr, iz, c8⟩ := imul_call im iq (by omega) (by omega)
          have hn1 : n - 1 < n := by omega
          have hin' : i + 1 + (n - 1) = k := by omega
          have hnx : ∃ (i : Nat) (I u m : Int) (us : Bool) (ur : Abs.Rows) (ms : Bool) (mr : Abs.Rows), I = i ∧ i + (n - 1) = k ∧ CrtP (p.take i) r u m ∧ m ≤ 2147483648 ^ i ∧ IsI u us ur ∧ IsI m ms mr ∧ chn2St lr pr ys yr zs zr N I' = chn2St lr pr us ur ms mr N I := ⟨i + 1, I', _, _, ys, yr, zs, zr, hI', hin', hcr', hmb', iy, iz, rfl⟩
          have z1 : zne q 0 = true := by rw [hS.ne]; exact decide_eq_true (by omega)
          have m1 := Int.emod_nonneg a (show q ≠ 0 by omega)
          have m2 := Int.emod_lt_of_pos a (show 0 < q by omega)
          obtain ⟨r1, hr1⟩ : ∃ r1, r1 = u % q := ⟨_, rfl⟩
          rw [← hr1] at c3 b3 b4 ht
          have z2 : zrem (zwrap .u64 (zmul (zrem (zwrap .u64 (zsub (zwrap .u64 (zadd (zrem a q) q)) r1)) q) inv)) q = t := by
            have n1 := Int.emod_nonneg (a % q + q - r1) (show q ≠ 0 by omega)
            have n2 := Int.emod_lt_of_pos (a % q + q - r1) (show 0 < q by omega)
            obtain ⟨k1, k2⟩ := mul_lt n1 n2 v1 v2 (by omega)
            have h1 : zwrap .u64 (zadd (zrem a q) q) = a % q + q := by rw [hS.wrap, hS.add, hS.rem, Int.tmod_eq_emod_of_nonneg a1, wrap_u64 (by omega) (by omega)]
            have h2 : zwrap .u64 (zsub (a % q + q) r1) = a % q + q - r1 := by rw [hS.wrap, hS.sub, wrap_u64 (by omega) (by omega)]
            have h3 : zrem (a % q + q - r1) q = (a % q + q - r1) % q := by rw [hS.rem, Int.tmod_eq_emod_of_nonneg (by omega)]
            rw [h1, h2, h3, hS.mul, hS.wrap, wrap_u64 k1 k2, hS.rem, Int.tmod_eq_emod_of_nonneg k1, ht]
          have z3 : zwrap .i64 t = t := by rw [hS.wrap, wrap_i64 (by omega) (by omega)]
          have z4 : zwrap .i64 q = q := by rw [hS.wrap, wrap_i64 (by omega) (by omega)]
          obtain ⟨r2, hr2⟩ : ∃ r2, r2 = m % q := ⟨_, rfl⟩
          rw [← hr2] at c1 c2
          generalize (if r2 % q = 0 then (10 : Int) else 0) = er at *
          clear A1 A2 A3 A4 hend hget htk hstep hq ha b1 b2 b3 b4 hinv ht nt hcr hcr' hmb hmb' m1 m2 hr1 hr2
          subst hs1
          cbv
          refine bT (l1) ?_
          refine nd (g5) ?_
          refine nd (g1) ?_
          rw [g2]
          refine ⟨_, hS.call (c1), ?_⟩
          cbv
          refine ⟨_, hS.call (c2), ?_⟩
          cbv
          refine nd (g5) ?_
          refine nd (g3) ?_
          rw [g4]
          refine nd (z1) ?_
          refine ⟨_, hS.call (c3), ?_⟩
          cbv
          refine nd (z1) ?_
          refine nd (z1) ?_
          rw [z2, z3]
          refine ⟨_, hS.call (c4), ?_⟩
          cbv
          refine ⟨_, hS.call (c6), ?_⟩
          cbv
          refine ⟨_, hS.call (c7), ?_⟩
          cbv
          rw [z4]
          refine ⟨_, hS.call (c5), ?_⟩
          cbv
          refine ⟨_, hS.call (c8), ?_⟩
          cbv
          exact again (s' := chn2St lr pr ys yr zs zr N I') (m := n - 1) (by simp [leT, chn2St, mkSt, vi, vl, i1]) (by simp [leH, chn2St, mkSt]) rfl (by show 2 ≤ 11; omega) hn1 hnx
        · rw [decide_eq_false hik] at l1
          obtain rfl : i = p.length := by omega
          obtain ⟨f1, f2, f3, f4⟩ := hend _ _ _ _ _ _ hcr iu im
          subst f1 f2 f3 f4
          clear A1 A2 A3 A4 hend hget htk hcr
          subst hs1
          cbv
          refine bF l1 ?_
          exact hF _ (ResLe.refl _)

/-- Lists of unequal lengths. -/
theorem pchin_long {l p : List Int} (hlen : l.length ≠ p.length) : ACall Try.prog 26 [.val (tl (W .u64 l)), .val (tl (W .u64 p))] ⟨[.val (.agg (iT false [])), .val (.agg (iT false [])), .val (ti .i64 1)], [none, none]⟩ := by
  obtain ⟨lr, hlr⟩ : ∃ lr, lr = W .u64 l := ⟨_, rfl⟩
  obtain ⟨pr, hpr⟩ : ∃ pr, pr = W .u64 p := ⟨_, rfl⟩
  rw [← hlr, ← hpr]
  refine callZ ccOk mixed [.val, .val, .val] Try.func26 rfl rfl (by kernel_rfl) fun zwrap zadd zsub zmul zquo zrem zshl zshr zband zbor zbxor zbandn zeq zne zlt zle znot zbeq zbne zmax zmin znat zinb zofN zidx zneq znadd zdif zcut zroom zmkok zlen znth zsetr zisI zgetI zsetI zfit zpart zext zsetg zrep zwide zall zmok zmget zmset zW zth A L F hS hF => ?_
  have x1 : zne (zofN (zlen lr)) (zofN (zlen pr)) = true := by rw [hS.ne, hS.ofN, hS.ofN, hS.len, hS.len, hlr, hpr, W_len, W_len]; exact decide_eq_true (by omega)
  cbv
  exact bT x1 (fin3w hF ⟨.v _, TLe.drop _ _, trivial⟩ ⟨.v _, TLe.drop _ _, trivial⟩ (TVLe.refl _))

/-- A list whose first element that does not fit is x: it is no prime, or it was seen. -/
theorem pchin_bad {l p good rest : List Int} {x : Int} (hlen : l.length = p.length) (hk : p.length ≤ 50) (hp : p = good ++ x :: rest) (hg : ∀ q ∈ good, Prm q) (hnd : good.Nodup) (h0 : 0 ≤ x) (h1 : x < 18446744073709551616) (hx : ¬ PF x ∨ x ∈ good) :
    ACall Try.prog 26 [.val (tl (W .u64 l)), .val (tl (W .u64 p))] ⟨[.val (.agg (iT false [])), .val (.agg (iT false [])), .val (ti .i64 1)], [none, none]⟩ := by
  have hgl : ∀ i, i < good.length → p.getD i 0 = good.getD i 0 := fun i hi => by
    rw [hp, List.getD_eq_getElem?_getD, List.getD_eq_getElem?_getD, List.getElem?_append_left hi]
  have hgx : p.getD good.length 0 = x := by
    rw [hp, List.getD_eq_getElem?_getD, List.getElem?_append_right (Nat.le_refl _)]; simp
  have hget : ∀ i, i < good.length → Prm (good.getD i 0) ∧ good.getD i 0 ∉ good.take i ∧ good.take (i + 1) = good.take i ++ [good.getD i 0] := fun i hi => by
    have hg' : good.getD i 0 = good[i] := by rw [List.getD_eq_getElem?_getD, List.getElem?_eq_getElem hi]; rfl
    rw [hg']
    refine ⟨hg _ (List.getElem_mem hi), fun hm => ?_, by rw [List.take_add_one, List.getElem?_eq_getElem hi]; rfl⟩
    obtain ⟨j, hj, he⟩ := List.mem_iff_getElem.1 hm
    rw [List.length_take] at hj
    rw [List.getElem_take] at he
    exact absurd he (nodup_ne hnd (by omega) hi (by omega))
  obtain ⟨b, hb, hbx⟩ : ∃ b : Bool, (b = true ↔ PF x) ∧ (b = false ∨ x ∈ good) := by
    rcases Classical.em (PF x) with h | h
    · exact ⟨true, ⟨fun _ => h, fun _ => rfl⟩, .inr (hx.resolve_left fun h' => h' h)⟩
    · exact ⟨false, ⟨fun h => (by cases h), fun h' => absurd h' h⟩, .inl rfl⟩
  have cx := pprime_call x b h0 (by omega) hb
  have hkl : good.length < p.length := by rw [hp, List.length_append]; simp
  obtain ⟨lr, hlr⟩ : ∃ lr, lr = W .u64 l := ⟨_, rfl⟩
  obtain ⟨pr, hpr⟩ : ∃ pr, pr = W .u64 p := ⟨_, rfl⟩
  rw [← hlr, ← hpr]
  obtain ⟨k, hkk⟩ : ∃ k, k = p.length := ⟨_, rfl⟩
  obtain ⟨N, hN⟩ : ∃ N : Int, N = k := ⟨_, rfl⟩
  clear hp hb hx
  refine callZ ccOk mixed [.val, .val, .val] Try.func26 rfl rfl (by kernel_rfl) fun zwrap zadd zsub zmul zquo zrem zshl zshr zband zbor zbxor zbandn zeq zne zlt zle znot zbeq zbne zmax zmin znat zinb zofN zidx zneq znadd zdif zcut zroom zmkok zlen znth zsetr zisI zgetI zsetI zfit zpart zext zsetg zrep zwide zall zmok zmget zmset zW zth A L F hS hF => ?_
  have x0 : zofN (zlen pr) = N := by rw [hS.ofN, hS.len, hpr, W_len, hN, hkk]
  have x1 : zne (zofN (zlen lr)) (zofN (zlen pr)) = false := by rw [hS.ne, hS.ofN, hS.ofN, hS.len, hS.len, hlr, hpr, W_len, W_len, hlen]; exact decide_eq_false (by simp)
  have A1 : ∀ (i : Nat) (I : Int), I = i → i < k → zlt I N = true := fun i I hI h => by
    rw [hS.lt]; exact decide_eq_true (by omega)
  have A2 : ∀ (i : Nat) (I : Int), I = i → i < 100 → ∃ I' : Int, I' = ((i + 1 : Nat) : Int) ∧ zwrap .i64 (zadd I 1) = I' := fun i I hI h => by
    refine ⟨_, rfl, ?_⟩
    rw [hS.add, hS.wrap, wrap_i64 (by omega) (by omega)]; omega
  have A3 : ∀ (i : Nat) (I : Int), I = i → zle 0 I = true := fun i I hI => by rw [hS.le]; exact decide_eq_true (by omega)
  have A4 : ∀ (i : Nat) (I : Int), I = i → i < k → zisI .u64 pr (znat I) = true ∧ zgetI pr (znat I) = p.getD i 0 := fun i I hI hi => by
    have e : znat I = i := by rw [hS.nat]; omega
    rw [e, hS.isI, hS.getI, hpr, W_isI, W_getI]
    exact ⟨decide_eq_true (by omega), rfl⟩
  have A5 : ∀ (q : Int) (t : List Int), zmok (sE .u64 t) (.int .u64 q) = true ∧ zmget (sE .u64 t) (.int .u64 q) = decide (q ∈ t) ∧ (q ∉ t → zmset (sE .u64 t) (.int .u64 q) (.v (.bool true)) = sE .u64 (t ++ [q])) := fun q t => by
    rw [hS.mok, hS.mget, hS.mset, sE_mok, sE_mget]
    exact ⟨rfl, rfl, fun ht => sE_mset _ _ _ ht⟩
  have e1 : znot b = !b := hS.not b
  have e1' : znot true = false := hS.not true
  cbv
  refine bF x1 ?_
  rw [x0]
  refine loopZ ccOk mixed hS (fun (m : Nat) s' => ∃ (i : Nat) (I : Int) (es : List (Value × Tree)), I = i ∧ i + m = good.length ∧ es = sE .u64 (good.take i) ∧ s' = chn1St lr pr N I es) (n := good.length) (s0 := chn1St lr pr N 0 []) (le_of ?_ ?_) rfl (by show 2 ≤ 5; omega) ?_ ?_
  · simp [leT, chn1St, mkSt, vi, vb, vl]
  · simp [leH, chn1St, mkSt]
  · exact ⟨0, 0, [], rfl, by omega, rfl, rfl⟩
  · rintro n s1 ⟨i, I, es, hI, hin, hes, hs1⟩
    have l1 := A1 i I hI (by omega)
    obtain ⟨b1, b2⟩ := A4 i I hI (by omega)
    have b3 := A3 i I hI
    by_cases hik : i < good.length
    · obtain ⟨I', hI', i1⟩ := A2 i I hI (by omega)
      obtain ⟨g1, g2, g3⟩ := hget i hik
      rw [hgl i hik] at b2
      obtain ⟨h1, h2, h3⟩ := A5 (good.getD i 0) (good.take i)
      have h3 := h3 g2
      rw [decide_eq_false g2, ← hes] at h2
      rw [← g3, ← hes] at h3
      rw [← hes] at h1
      obtain ⟨es', hes2⟩ : ∃ es', es' = sE .u64 (good.take (i + 1)) := ⟨_, rfl⟩
      rw [← hes2] at h3
      have c := pprime_call (good.getD i 0) true (by have := g1.1; omega) (by have := g1.2.1; omega) ⟨fun _ => g1.pf, fun _ => rfl⟩
      obtain ⟨q, hq⟩ : ∃ q, q = good.getD i 0 := ⟨_, rfl⟩
      rw [← hq] at b2 h1 h2 h3 c
      have hn1 : n - 1 < n := by omega
      have hin' : i + 1 + (n - 1) = good.length := by omega
      clear A1 A2 A3 A4 A5 hget hgl hgx g1 g2 g3 hI hik hbx cx e1
      subst hs1
      cbv
      refine bT (l1) ?_
      refine nd (b3) ?_
      refine nd (b1) ?_
      rw [b2]
      refine ⟨_, hS.call (c), ?_⟩
      cbv
      refine bF (e1') ?_
      refine nd (h1) ?_
      refine bF (h2) ?_
      refine nd (h1) ?_
      exact again (s' := chn1St lr pr N I' es') (m := n - 1) (by simp [leT, chn1St, mkSt, vi, vb, vl, i1]) (by simp [leH, chn1St, mkSt, h3]) rfl (by show 2 ≤ 5; omega) hn1 ⟨i + 1, I', es', hI', hin', hes2, rfl⟩
    · have hi : i = good.length := by omega
      rw [hi, hgx] at b2
      obtain ⟨h1, h2, _⟩ := A5 x (good.take i)
      rw [hi, List.take_length] at hes
      rw [hi, List.take_length, ← hes] at h1 h2
      clear A1 A2 A3 A4 A5 hget hgl hgx hI hik
      cases b with
      | false =>
        subst hs1
        cbv
        refine bT (l1) ?_
        refine nd (b3) ?_
        refine nd (b1) ?_
        rw [b2]
        refine ⟨_, hS.call (cx), ?_⟩
        cbv
        exact bT e1 (fin3w hF ⟨.v _, TLe.drop _ _, trivial⟩ ⟨.v _, TLe.drop _ _, trivial⟩ (TVLe.refl _))
      | true =>
        have hm := hbx.resolve_left (by decide)
        rw [decide_eq_true hm] at h2
        subst hs1
        cbv
        refine bT (l1) ?_
        refine nd (b3) ?_
        refine nd (b1) ?_
        rw [b2]
        refine ⟨_, hS.call (cx), ?_⟩
        cbv
        refine bF (e1) ?_
        refine nd (h1) ?_
        exact bT h2 (fin3w hF ⟨.v _, TLe.drop _ _, trivial⟩ ⟨.v _, TLe.drop _ _, trivial⟩ (TVLe.refl _))
end Go.Proofs.Ytgncmjcoojmccaa
end

