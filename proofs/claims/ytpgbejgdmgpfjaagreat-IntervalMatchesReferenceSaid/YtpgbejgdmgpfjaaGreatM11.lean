/-
  A part of the proof: IntF24, MQw, IntE24, IntG24, IntH24, IntI24, IntJ24, IntK24, CanU, ValI24, RefM24, ValQ24, UniU, QraA24, RefQ24, QsM24, UniV24, GabsRen, UniW24, UniX24, UniA24, QraB24, QrbA24, UnpA24, UnpB24, UnpC24, UnpD24, UnpE24, UnpF24, UnpG24, UnpH24, UniR, RusA24, EvU, UplA24, EvlA24, QrbC24, IvlB24, EvD, EvlB24.
-/
import Derived.Test.YtpgbejgdmgpfjaaGreatM10
import Derived.Calls
import Derived.Laws.Cells
import Derived.Below
import Derived.ChangeKeysEq
import Derived.Laws.StructEq
import Derived.Laws.Small
import Derived.Laws.IdiomCopy
import Derived.Laws.BytesString
import Derived.Laws.Append
import Derived.Laws.Tables
import Derived.Great.BuildSlice
import Derived.IntWalk
import Derived.Orders
import Derived.Laws.BitsLemmas
import Derived.Test.YtpgbejgdmgpfjaaGreatProg

section
set_option linter.unusedVariables false
set_option linter.unusedSimpArgs false
set_option maxHeartbeats 8000000
set_option linter.unusedVariables false
set_option linter.unusedSimpArgs false
set_option maxRecDepth 100000
namespace Go.Proofs.YtpgbejgdmgpfjaaGreat
open Go Go.Abs Go.Abs.M Go.Proofs

theorem cast_pow2 (s : Nat) : ((2 ^ s : Nat) : Int) = 2 ^ s := by simp
theorem pow2_pos (s : Nat) : (0 : Int) < 2 ^ s := Int.pow_pos (by omega)
theorem pow2_le {s : Nat} (h : s < 32) : (2 : Int) ^ s ≤ 2147483648 := by
  have : 2 ^ s ≤ 2 ^ 31 := Nat.pow_le_pow_right (by omega) (by omega)
  rw [← cast_pow2]; omega

theorem shl_up {a c t : Int} {s : Nat} (hs : s < 32) (ha : 0 ≤ a ∧ a < 4294967296) (hc : 0 ≤ c ∧ c < 2 ^ s) (ht : t = a * 2 ^ s + c) : (0 ≤ a * 2 ^ s ∧ a * 2 ^ s < 18446744073709551616) ∧ (0 ≤ t ∧ t < 18446744073709551616) ∧ 0 ≤ t / 4294967296 ∧ t / 4294967296 < 2 ^ s := by
  have hp := pow2_pos s
  have hq := pow2_le hs
  have h1 : 0 ≤ a * 2 ^ s := Int.mul_nonneg ha.1 (by omega)
  have h2 : a * 2 ^ s ≤ 4294967295 * 2 ^ s := Int.mul_le_mul_of_nonneg_right (by omega) (by omega)
  refine ⟨by omega, by omega, Int.ediv_nonneg (by omega) (by omega), Int.ediv_lt_of_lt_mul (by omega) (by omega)⟩

theorem shl_step {t vo vl a c p : Int} {e : Int} (h : vo + c * p = e * vl) (ht : t = a * e + c) : vo + p * (t % 4294967296) + t / 4294967296 * (p * 4294967296) = e * (vl + p * a) := by
  have := Int.emod_add_mul_ediv t 4294967296
  have e1 : t % 4294967296 = t - 4294967296 * (t / 4294967296) := by omega
  rw [e1, ht]
  generalize (a * e + c) / 4294967296 = z at *
  clear this e1 ht
  grind

def ishlSt (r R : Abs.Rows) (s : Int) (n : Nat) (c len i : Int) : St := mkSt 42 [vl r, vi .i64 s, .junk, .junk, vnil, .c (.sl 2 0 n false), vi .u64 c, .junk, .junk, .junk, .junk, .junk, .junk, .junk, vi .i64 len, vi .i64 i] [none, none, some (.rows 1 R true false)]


theorem ishiftLeft_call {r : Abs.Rows} {l : List Int} (s : Nat) (hr : r = W .u32 l) (hl : l.length ≤ 1099511627776) (hlw : Wd l) (hs : s < 32) :
    ACall Tryz.prog 186 [.val (tl r), .val (ti .i64 (s : Int))] ⟨[.val (tl (W .u32 (wds (l.length + 1) (2 ^ s * val l))))], [none, none]⟩ := by
  obtain ⟨N, hN⟩ : ∃ N : Nat, N = l.length := ⟨_, rfl⟩
  obtain ⟨n, hn⟩ : ∃ n : Nat, n = N + 1 := ⟨_, rfl⟩
  have hcap : (n : Int) * 4 ≤ 140737488355328 := by omega
  rw [← hN, ← hn]
  obtain ⟨S, hS0⟩ : ∃ S : Int, S = (s : Int) := ⟨_, rfl⟩
  rw [← hS0]
  refine callZ ccOk mixed [.val] Tryz.func186 rfl rfl (by kernel_rfl) fun zwrap zadd zsub zmul zquo zrem zshl zshr zband zbor zbxor zbandn zeq zne zlt zle znot zbeq zbne zmax zmin znat zinb zofN zidx zneq znadd zdif zcut zroom zmkok zlen znth zsetr zisI zgetI zsetI zfit zpart zext zsetg zrep zwide zall zmok zmget zmset zW zth A L F hS hF => ?_
  have h1 : zlen r = N := by rw [hS.len, hr, W_len, hN]
  have hn1 : zwrap .i64 (zadd (zofN (zlen r)) 1) = zofN n := by rw [h1, hS.ofN, hS.ofN, hS.add, hS.wrap, wrap_i64 (by omega) (by omega)]; omega
  have hnn : znat (zofN n) = n := by rw [hS.nat, hS.ofN]; omega
  have hrep : zrep n [.v (.int .u32 0)] = zW .u32 (List.replicate n 0) := by rw [hS.rep, hS.W]; exact W_rep ..
  have L2 := zlt_nat hS.lt hS.ofN
  have hs0 : zle 0 S = true := by rw [hS.le]; exact decide_eq_true (by omega)
  have A1 : ∀ (k : Nat) (o : List Int) (c : Int), o.length = n → Wd o → (0 ≤ c ∧ c < 2 ^ s) → val (o.take k) + c * 4294967296 ^ k = 2 ^ s * val (l.take k) → k < N → ∃ (t : Int) (k1 : Nat), zgetI r (znat (zofN k)) = l.getD k 0 ∧ zbor .u64 (zshl .u64 (zwrap .u64 (l.getD k 0)) S) c = t ∧ zwrap .u32 t = t % 4294967296 ∧ zshr .u64 t 32 = t / 4294967296 ∧
      zwrap .i64 (zadd (zofN k) 1) = zofN k1 ∧ zidx 0 (zofN k) = k ∧ (∀ x, zsetI .u32 (zW .u32 o) k x = zW .u32 (o.set k x)) ∧ zinb (zofN k) n = true ∧ zisI .u32 (zW .u32 o) k = true ∧ zisI .u32 r (znat (zofN k)) = true ∧ zle 0 (zofN k) = true ∧ k1 = k + 1 ∧
      (o.set k (t % 4294967296)).length = n ∧ Wd (o.set k (t % 4294967296)) ∧ (0 ≤ t / 4294967296 ∧ t / 4294967296 < 2 ^ s) ∧ val ((o.set k (t % 4294967296)).take k1) + t / 4294967296 * 4294967296 ^ k1 = 2 ^ s * val (l.take k1) := fun k o c ho hw hc hv hk => by
    have ga := hlw.get k
    obtain ⟨t, ht⟩ : ∃ t, t = l.getD k 0 * 2 ^ s + c := ⟨_, rfl⟩
    obtain ⟨b1, b2, b3⟩ := shl_up hs ga hc ht
    have hst := shl_step hv ht
    refine ⟨t, k + 1, by rw [hS.getI, hS.nat, hS.ofN, hr, W_getI, Int.toNat_natCast], ?_, by rw [hS.wrap, wrap_u32m], ?_, ?_, by rw [hS.idx, hS.ofN]; omega, fun x => by rw [hS.setI, hS.W, W_set], ?_, ?_, ?_, ?_, rfl, by simpa using ho, hw.set _ (by omega) (by omega), b3, ?_⟩
    · rw [hS.wrap, wrap_u64 (by omega) (by omega), show ∀ x, zshl .u64 x S = ZI.std.shl .u64 x S from fun _ => hS.shl .., shl_std s hS0 (by show s ≤ 64; omega), wrap_u64 b1.1 b1.2, show ∀ x y, zbor .u64 x y = ZI.std.bor .u64 x y from fun _ _ => hS.bor .., bor_hi s ga.1 hc.1 hc.2 (by omega), ht]
    · rw [show ∀ x, zshr .u64 x 32 = ZI.std.shr .u64 x 32 from fun _ => hS.shr ..]; exact shr32 b2.1
    · rw [hS.wrap, hS.add, hS.ofN, hS.ofN, wrap_i64 (by omega) (by omega)]; omega
    · rw [hS.inb, hS.ofN]; exact decide_eq_true (by omega)
    · rw [hS.isI, hS.W, W_isI]; exact decide_eq_true (by omega)
    · rw [hS.isI, hr, hS.nat, hS.ofN, W_isI]; exact decide_eq_true (by omega)
    · rw [hS.le, hS.ofN]; exact decide_eq_true (by omega)
    · rw [val_take_set _ (by omega), val_take_succ' l, Int.pow_succ]; exact hst
  have A2 : ∀ (o : List Int) (c : Int), o.length = n → Wd o → (0 ≤ c ∧ c < 2 ^ s) → val (o.take N) + c * 4294967296 ^ N = 2 ^ s * val (l.take N) → zidx 0 (zofN (zlen r)) = N ∧ zwrap .u32 c = c ∧ zsetI .u32 (zW .u32 o) N c = zW .u32 (o.set N c) ∧ zinb (zofN (zlen r)) n = true ∧ zisI .u32 (zW .u32 o) N = true ∧ zfit 0 n (zW .u32 (o.set N c)) = true ∧
      zpart (zW .u32 (o.set N c)) 0 n = W .u32 (wds n (2 ^ s * val l)) ∧ zW .u32 (o.set N c) = W .u32 (wds n (2 ^ s * val l)) ∧ zneq n (zlen (W .u32 (wds n (2 ^ s * val l)))) = true := fun o c ho hw hc hv => by
    have hq := pow2_le hs
    refine ⟨by rw [hS.idx, hS.ofN, h1]; omega, by rw [hS.wrap]; exact wrap_u32 hc.1 (by omega), by rw [hS.setI, hS.W, W_set], by rw [hS.inb, hS.ofN, h1]; exact decide_eq_true (by omega), by rw [hS.isI, hS.W, W_isI]; exact decide_eq_true (by omega), by rw [hS.fit, hS.W, W_len]; exact decide_eq_true (by simp; omega), ?_, ?_, by rw [hS.neq, hS.len, W_len, wds_length]; exact decide_eq_true rfl⟩
    all_goals have a1 := val_take_set (l := o) (k := N) c (by omega)
    all_goals rw [List.take_of_length_le (by simp; omega)] at a1
    all_goals rw [List.take_of_length_le (l := l) (by omega)] at hv
    · rw [hS.part, hS.W, W_part, List.drop_zero, List.take_of_length_le (by simp; omega)]
      congr 1
      exact wds_of (b := 0) (hw.set N hc.1 (by omega)) (by simpa using ho) (by rw [a1, ← hv]; grind)
    · rw [hS.W]
      congr 1
      exact wds_of (b := 0) (hw.set N hc.1 (by omega)) (by simpa using ho) (by rw [a1, ← hv]; grind)
  cbv
  rw [hn1, hnn, hrep]
  refine nd (by rw [hS.mkok, hS.ofN]; exact decide_eq_true ⟨Int.natCast_nonneg n, Int.le_refl _, by unfold capBytes; omega⟩) ?_
  refine loopZ ccOk mixed hS (fun (j : Nat) s' => ∃ (k : Nat) (o : List Int) (c : Int), k + j = N ∧ (o.length = n ∧ Wd o ∧ (0 ≤ c ∧ c < 2 ^ s) ∧ val (o.take k) + c * 4294967296 ^ k = 2 ^ s * val (l.take k)) ∧ s' = ishlSt r (zW .u32 o) S n c (zofN N) (zofN k)) (n := N)
    (s0 := ishlSt r (zW .u32 (List.replicate n 0)) S n 0 (zofN N) (zofN 0)) (le_of ?_ ?_) rfl (Nat.le_succ 2) ?_ ?_
  · simp [leT, ishlSt, mkSt, vi, vl, vnil, hS.ofN, h1]
  · simp [leH, ishlSt, mkSt]
  · exact ⟨0, _, 0, by omega, ⟨by simp, Wd.rep _, ⟨by omega, pow2_pos s⟩, by simp [val]⟩, rfl⟩
  · rintro j _ ⟨k, o, c, hk, ⟨ho, hw, hc, hv⟩, rfl⟩
    rcases Nat.lt_or_ge k N with hkn | hkn
    · obtain ⟨t, k1, E1, E2, E3, E4, E5, E6, E7, E8, E9, E10, E11, hk1, I1, I2, I3, I4⟩ := A1 k o c ho hw hc hv hkn
      have e6 : zlt (zofN k) (zofN N) = true := (L2 k N).trans (decide_eq_true hkn)
      have hj : k1 + (j - 1) = N ∧ j - 1 < j := by clear A1 A2; omega
      generalize l.getD k 0 = a at E1 E2
      clear A1 A2 hc hv
      cbv
      refine bT e6 ?_
      rw [E1, E2, E3, E4, E5, E6, E7]
      refine nd E11 (nd E10 (nd hs0 (nd E8 (nd E9 ?_))))
      exact again (s' := ishlSt r (zW .u32 (o.set k (t % 4294967296))) S n (t / 4294967296) (zofN N) (zofN k1)) (m := j - 1) (by simp [leT, ishlSt, mkSt, vi, vl, vnil]) (by simp [leH, ishlSt, mkSt]) rfl (Nat.le_succ 2) hj.2 ⟨k1, _, _, hj.1, ⟨I1, I2, I3, I4⟩, rfl⟩
    · obtain rfl : k = N := by clear A1 A2; omega
      obtain ⟨E1, E2, E3, E4, E5, E6, E7, E8, E9⟩ := A2 o c ho hw hc hv
      have e6 : zlt (zofN k) (zofN k) = false := (L2 k k).trans (decide_eq_false (Nat.lt_irrefl k))
      clear A1 A2 hc hv
      generalize wds n (2 ^ s * val l) = fin at *
      cbv
      refine bF e6 ?_
      rw [E1, E2, E3, E7]; exact nd E4 (nd E5 (nd E6 (hF _ (ResLe.refl _))))

theorem ishiftLeft_own {r : Abs.Rows} {l : List Int} (s : Nat) (hr : r = W .u32 l) (hl : l.length ≤ 1099511627776) (hlw : Wd l) (hs : s < 32) :
    ACall Tryz.prog 186 [.val (tl r), .val (ti .i64 (s : Int))] ⟨[.own 1 (W .u32 (wds (l.length + 1) (2 ^ s * val l)))], [none, none]⟩ := by
  obtain ⟨N, hN⟩ : ∃ N : Nat, N = l.length := ⟨_, rfl⟩
  obtain ⟨n, hn⟩ : ∃ n : Nat, n = N + 1 := ⟨_, rfl⟩
  have hcap : (n : Int) * 4 ≤ 140737488355328 := by omega
  rw [← hN, ← hn]
  obtain ⟨S, hS0⟩ : ∃ S : Int, S = (s : Int) := ⟨_, rfl⟩
  rw [← hS0]
  refine callZ ccOk mixed [.own 1] Tryz.func186 rfl rfl (by kernel_rfl) fun zwrap zadd zsub zmul zquo zrem zshl zshr zband zbor zbxor zbandn zeq zne zlt zle znot zbeq zbne zmax zmin znat zinb zofN zidx zneq znadd zdif zcut zroom zmkok zlen znth zsetr zisI zgetI zsetI zfit zpart zext zsetg zrep zwide zall zmok zmget zmset zW zth A L F hS hF => ?_
  have h1 : zlen r = N := by rw [hS.len, hr, W_len, hN]
  have hn1 : zwrap .i64 (zadd (zofN (zlen r)) 1) = zofN n := by rw [h1, hS.ofN, hS.ofN, hS.add, hS.wrap, wrap_i64 (by omega) (by omega)]; omega
  have hnn : znat (zofN n) = n := by rw [hS.nat, hS.ofN]; omega
  have hrep : zrep n [.v (.int .u32 0)] = zW .u32 (List.replicate n 0) := by rw [hS.rep, hS.W]; exact W_rep ..
  have L2 := zlt_nat hS.lt hS.ofN
  have hs0 : zle 0 S = true := by rw [hS.le]; exact decide_eq_true (by omega)
  have A1 : ∀ (k : Nat) (o : List Int) (c : Int), o.length = n → Wd o → (0 ≤ c ∧ c < 2 ^ s) → val (o.take k) + c * 4294967296 ^ k = 2 ^ s * val (l.take k) → k < N → ∃ (t : Int) (k1 : Nat), zgetI r (znat (zofN k)) = l.getD k 0 ∧ zbor .u64 (zshl .u64 (zwrap .u64 (l.getD k 0)) S) c = t ∧ zwrap .u32 t = t % 4294967296 ∧ zshr .u64 t 32 = t / 4294967296 ∧
      zwrap .i64 (zadd (zofN k) 1) = zofN k1 ∧ zidx 0 (zofN k) = k ∧ (∀ x, zsetI .u32 (zW .u32 o) k x = zW .u32 (o.set k x)) ∧ zinb (zofN k) n = true ∧ zisI .u32 (zW .u32 o) k = true ∧ zisI .u32 r (znat (zofN k)) = true ∧ zle 0 (zofN k) = true ∧ k1 = k + 1 ∧
      (o.set k (t % 4294967296)).length = n ∧ Wd (o.set k (t % 4294967296)) ∧ (0 ≤ t / 4294967296 ∧ t / 4294967296 < 2 ^ s) ∧ val ((o.set k (t % 4294967296)).take k1) + t / 4294967296 * 4294967296 ^ k1 = 2 ^ s * val (l.take k1) := fun k o c ho hw hc hv hk => by
    have ga := hlw.get k
    obtain ⟨t, ht⟩ : ∃ t, t = l.getD k 0 * 2 ^ s + c := ⟨_, rfl⟩
    obtain ⟨b1, b2, b3⟩ := shl_up hs ga hc ht
    have hst := shl_step hv ht
    refine ⟨t, k + 1, by rw [hS.getI, hS.nat, hS.ofN, hr, W_getI, Int.toNat_natCast], ?_, by rw [hS.wrap, wrap_u32m], ?_, ?_, by rw [hS.idx, hS.ofN]; omega, fun x => by rw [hS.setI, hS.W, W_set], ?_, ?_, ?_, ?_, rfl, by simpa using ho, hw.set _ (by omega) (by omega), b3, ?_⟩
    · rw [hS.wrap, wrap_u64 (by omega) (by omega), show ∀ x, zshl .u64 x S = ZI.std.shl .u64 x S from fun _ => hS.shl .., shl_std s hS0 (by show s ≤ 64; omega), wrap_u64 b1.1 b1.2, show ∀ x y, zbor .u64 x y = ZI.std.bor .u64 x y from fun _ _ => hS.bor .., bor_hi s ga.1 hc.1 hc.2 (by omega), ht]
    · rw [show ∀ x, zshr .u64 x 32 = ZI.std.shr .u64 x 32 from fun _ => hS.shr ..]; exact shr32 b2.1
    · rw [hS.wrap, hS.add, hS.ofN, hS.ofN, wrap_i64 (by omega) (by omega)]; omega
    · rw [hS.inb, hS.ofN]; exact decide_eq_true (by omega)
    · rw [hS.isI, hS.W, W_isI]; exact decide_eq_true (by omega)
    · rw [hS.isI, hr, hS.nat, hS.ofN, W_isI]; exact decide_eq_true (by omega)
    · rw [hS.le, hS.ofN]; exact decide_eq_true (by omega)
    · rw [val_take_set _ (by omega), val_take_succ' l, Int.pow_succ]; exact hst
  have A2 : ∀ (o : List Int) (c : Int), o.length = n → Wd o → (0 ≤ c ∧ c < 2 ^ s) → val (o.take N) + c * 4294967296 ^ N = 2 ^ s * val (l.take N) → zidx 0 (zofN (zlen r)) = N ∧ zwrap .u32 c = c ∧ zsetI .u32 (zW .u32 o) N c = zW .u32 (o.set N c) ∧ zinb (zofN (zlen r)) n = true ∧ zisI .u32 (zW .u32 o) N = true ∧ zfit 0 n (zW .u32 (o.set N c)) = true ∧
      zpart (zW .u32 (o.set N c)) 0 n = W .u32 (wds n (2 ^ s * val l)) ∧ zW .u32 (o.set N c) = W .u32 (wds n (2 ^ s * val l)) ∧ zneq n (zlen (W .u32 (wds n (2 ^ s * val l)))) = true := fun o c ho hw hc hv => by
    have hq := pow2_le hs
    refine ⟨by rw [hS.idx, hS.ofN, h1]; omega, by rw [hS.wrap]; exact wrap_u32 hc.1 (by omega), by rw [hS.setI, hS.W, W_set], by rw [hS.inb, hS.ofN, h1]; exact decide_eq_true (by omega), by rw [hS.isI, hS.W, W_isI]; exact decide_eq_true (by omega), by rw [hS.fit, hS.W, W_len]; exact decide_eq_true (by simp; omega), ?_, ?_, by rw [hS.neq, hS.len, W_len, wds_length]; exact decide_eq_true rfl⟩
    all_goals have a1 := val_take_set (l := o) (k := N) c (by omega)
    all_goals rw [List.take_of_length_le (by simp; omega)] at a1
    all_goals rw [List.take_of_length_le (l := l) (by omega)] at hv
    · rw [hS.part, hS.W, W_part, List.drop_zero, List.take_of_length_le (by simp; omega)]
      congr 1
      exact wds_of (b := 0) (hw.set N hc.1 (by omega)) (by simpa using ho) (by rw [a1, ← hv]; grind)
    · rw [hS.W]
      congr 1
      exact wds_of (b := 0) (hw.set N hc.1 (by omega)) (by simpa using ho) (by rw [a1, ← hv]; grind)
  cbv
  rw [hn1, hnn, hrep]
  refine nd (by rw [hS.mkok, hS.ofN]; exact decide_eq_true ⟨Int.natCast_nonneg n, Int.le_refl _, by unfold capBytes; omega⟩) ?_
  refine loopZ ccOk mixed hS (fun (j : Nat) s' => ∃ (k : Nat) (o : List Int) (c : Int), k + j = N ∧ (o.length = n ∧ Wd o ∧ (0 ≤ c ∧ c < 2 ^ s) ∧ val (o.take k) + c * 4294967296 ^ k = 2 ^ s * val (l.take k)) ∧ s' = ishlSt r (zW .u32 o) S n c (zofN N) (zofN k)) (n := N)
    (s0 := ishlSt r (zW .u32 (List.replicate n 0)) S n 0 (zofN N) (zofN 0)) (le_of ?_ ?_) rfl (Nat.le_succ 2) ?_ ?_
  · simp [leT, ishlSt, mkSt, vi, vl, vnil, hS.ofN, h1]
  · simp [leH, ishlSt, mkSt]
  · exact ⟨0, _, 0, by omega, ⟨by simp, Wd.rep _, ⟨by omega, pow2_pos s⟩, by simp [val]⟩, rfl⟩
  · rintro j _ ⟨k, o, c, hk, ⟨ho, hw, hc, hv⟩, rfl⟩
    rcases Nat.lt_or_ge k N with hkn | hkn
    · obtain ⟨t, k1, E1, E2, E3, E4, E5, E6, E7, E8, E9, E10, E11, hk1, I1, I2, I3, I4⟩ := A1 k o c ho hw hc hv hkn
      have e6 : zlt (zofN k) (zofN N) = true := (L2 k N).trans (decide_eq_true hkn)
      have hj : k1 + (j - 1) = N ∧ j - 1 < j := by clear A1 A2; omega
      generalize l.getD k 0 = a at E1 E2
      clear A1 A2 hc hv
      cbv
      refine bT e6 ?_
      rw [E1, E2, E3, E4, E5, E6, E7]
      refine nd E11 (nd E10 (nd hs0 (nd E8 (nd E9 ?_))))
      exact again (s' := ishlSt r (zW .u32 (o.set k (t % 4294967296))) S n (t / 4294967296) (zofN N) (zofN k1)) (m := j - 1) (by simp [leT, ishlSt, mkSt, vi, vl, vnil]) (by simp [leH, ishlSt, mkSt]) rfl (Nat.le_succ 2) hj.2 ⟨k1, _, _, hj.1, ⟨I1, I2, I3, I4⟩, rfl⟩
    · obtain rfl : k = N := by clear A1 A2; omega
      obtain ⟨E1, E2, E3, E4, E5, E6, E7, E8, E9⟩ := A2 o c ho hw hc hv
      have e6 : zlt (zofN k) (zofN k) = false := (L2 k k).trans (decide_eq_false (Nat.lt_irrefl k))
      clear A1 A2 hc hv
      generalize wds n (2 ^ s * val l) = fin at *
      cbv
      refine bF e6 ?_
      rw [E1, E2, E3, E8]; exact nd E4 (nd E5 (nd E9 (hF _ (ResLe.refl _))))

/-! Down. -/
theorem mask_std {t : Int} (s : Nat) (hs : s < 32) (h0 : 0 ≤ t) (h1 : t < 18446744073709551616) : ZI.std.band .u64 t (2 ^ s - 1) = t % 2 ^ s := by
  obtain ⟨x, rfl⟩ := Int.eq_ofNat_of_zero_le h0
  have hp : 0 < 2 ^ s := Nat.two_pow_pos s
  have hq : 2 ^ s ≤ 2 ^ 31 := Nat.pow_le_pow_right (by omega) (by omega)
  have e : (2 : Int) ^ s - 1 = ((2 ^ s - 1 : Nat) : Int) := by rw [← cast_pow2]; omega
  rw [e, band_u64 (by omega) (by omega), Nat.and_two_pow_sub_one_eq_mod, Int.natCast_emod, cast_pow2]

def ishrSt (r R : Abs.Rows) (s : Int) (n : Nat) (c i : Int) : St := mkSt 41 [vl r, vi .i64 s, .junk, .junk, vnil, .c (.sl 2 0 n false), vi .u64 c, vi .i64 i] [none, none, some (.rows 1 R true false)]

theorem ishiftRight_call {r : Abs.Rows} {l : List Int} (s : Nat) (hr : r = W .u32 l) (hl : l.length ≤ 1099511627776) (hlw : Wd l) (hs : s < 32) :
    ACall Tryz.prog 188 [.val (tl r), .val (ti .i64 (s : Int))] ⟨[.val (tl (W .u32 (dg (val l / 2 ^ s).toNat)))], [none, none]⟩ := by
  obtain ⟨n, hn⟩ : ∃ n : Nat, n = l.length := ⟨_, rfl⟩
  have hcap : (n : Int) * 4 ≤ 140737488355328 := by omega
  obtain ⟨S, hS0⟩ : ∃ S : Int, S = (s : Int) := ⟨_, rfl⟩
  obtain ⟨q, hq⟩ : ∃ q, q = val l / 2 ^ s := ⟨_, rfl⟩
  rw [← hS0, ← hq]
  have hp := pow2_pos s
  have hp2 := pow2_le hs
  refine callZ ccOk mixed [.val] Tryz.func188 rfl rfl (by kernel_rfl) fun zwrap zadd zsub zmul zquo zrem zshl zshr zband zbor zbxor zbandn zeq zne zlt zle znot zbeq zbne zmax zmin znat zinb zofN zidx zneq znadd zdif zcut zroom zmkok zlen znth zsetr zisI zgetI zsetI zfit zpart zext zsetg zrep zwide zall zmok zmget zmset zW zth A L F hS hF => ?_
  have h1 : zlen r = n := by rw [hS.len, hr, W_len, hn]
  have hnn : znat (zofN n) = n := by rw [hS.nat, hS.ofN]; omega
  have hrep : zrep n [.v (.int .u32 0)] = zW .u32 (List.replicate n 0) := by rw [hS.rep, hS.W]; exact W_rep ..
  have hi0 : zwrap .i64 (zsub (zofN n) 1) = zsub (zofN n) 1 := by rw [hS.wrap, hS.sub, hS.ofN]; exact wrap_i64 (by omega) (by omega)
  have hs0 : zle 0 S = true := by rw [hS.le]; exact decide_eq_true (by omega)
  have hmask : zwrap .u64 (zsub (zshl .u64 1 S) 1) = 2 ^ s - 1 := by
    rw [show ∀ x, zshl .u64 x S = ZI.std.shl .u64 x S from fun _ => hS.shl .., shl_std s hS0 (by show s ≤ 64; omega), Int.one_mul, wrap_u64 (by omega) (by omega), hS.sub, hS.wrap, wrap_u64 (by omega) (by omega)]
  obtain ⟨M, hM⟩ : ∃ M : Int, M = 2 ^ s - 1 := ⟨_, rfl⟩
  rw [← hM] at hmask
  have A1 : ∀ (k : Nat) (o : List Int) (c : Int), k ≤ n → o.length = n → Wd o → (0 ≤ c ∧ c < 2 ^ s) → val (l.drop k) = 2 ^ s * val (o.drop k) + c → 1 ≤ k → ∃ (t q e : Int), zgetI r (znat (zsub (zofN k) 1)) = l.getD (k - 1) 0 ∧ zbor .u64 (zshl .u64 c 32) (zwrap .u64 (l.getD (k - 1) 0)) = t ∧ zshr .u64 t S = q ∧ zwrap .u32 q = q ∧ zband .u64 t M = e ∧
      zwrap .i64 (zsub (zsub (zofN k) 1) 1) = zsub (zofN (k - 1)) 1 ∧ zidx 0 (zsub (zofN k) 1) = k - 1 ∧ (∀ x, zsetI .u32 (zW .u32 o) (k - 1) x = zW .u32 (o.set (k - 1) x)) ∧ zinb (zsub (zofN k) 1) n = true ∧ zisI .u32 (zW .u32 o) (k - 1) = true ∧ zisI .u32 r (znat (zsub (zofN k) 1)) = true ∧ zle 0 (zsub (zofN k) 1) = true ∧
      k - 1 ≤ n ∧ (o.set (k - 1) q).length = n ∧ Wd (o.set (k - 1) q) ∧ (0 ≤ e ∧ e < 2 ^ s) ∧ val (l.drop (k - 1)) = 2 ^ s * val ((o.set (k - 1) q).drop (k - 1)) + e := fun k o c hk ho hw hc hv h => by
    have ga := hlw.get (k - 1)
    obtain ⟨t, ht⟩ : ∃ t, t = c * 4294967296 + l.getD (k - 1) 0 := ⟨_, rfl⟩
    have hst := short_step hv ht
    have hb := short_bound hp hc ga
    rw [← ht] at hb
    have hmod := Int.emod_nonneg t (show (2 : Int) ^ s ≠ 0 by omega)
    have hmod2 := Int.emod_lt_of_pos t hp
    have hi : zsub (zofN k) 1 = (k : Int) - 1 := by rw [hS.sub, hS.ofN]
    have hnt : znat (zsub (zofN k) 1) = k - 1 := by rw [hS.nat, hi]; omega
    have htb : 0 ≤ t ∧ t < 18446744073709551616 := by omega
    refine ⟨t, t / 2 ^ s, t % 2 ^ s, by rw [hS.getI, hnt, hr, W_getI], ?_, ?_, ?_, ?_, ?_, ?_, fun x => by rw [hS.setI, hS.W, W_set], ?_, ?_, ?_, ?_, by omega, by simpa using ho, hw.set _ hb.1 hb.2, ⟨hmod, hmod2⟩, ?_⟩
    · rw [hS.wrap, wrap_u64 (x := l.getD (k - 1) 0) (by omega) (by omega), show zshl .u64 c 32 = ZI.std.shl .u64 c 32 from hS.shl .., show ∀ x y, zbor .u64 x y = ZI.std.bor .u64 x y from fun _ _ => hS.bor .., two_words hc.1 (by omega) ga.1 ga.2, ht]
    · rw [show ∀ x, zshr .u64 x S = ZI.std.shr .u64 x S from fun _ => hS.shr .., shr_std s hS0 (by show s ≤ 64; omega) htb.1]
    · rw [hS.wrap]; exact wrap_u32 hb.1 (by omega)
    · rw [show ∀ x y, zband .u64 x y = ZI.std.band .u64 x y from fun _ _ => hS.band .., hM, mask_std s hs htb.1 htb.2]
    · rw [hi, hS.wrap, hS.sub, hS.sub, hS.ofN, wrap_i64 (by omega) (by omega)]; omega
    · rw [hS.idx, hi]; omega
    · rw [hS.inb, hi]; exact decide_eq_true (by omega)
    · rw [hS.isI, hS.W, W_isI]; exact decide_eq_true (by omega)
    · rw [hS.isI, hr, hnt, W_isI]; exact decide_eq_true (by omega)
    · rw [hS.le, hi]; exact decide_eq_true (by omega)
    · rw [val_drop_succ (l := l) (by omega), val_drop_succ (l := o.set (k - 1) (t / 2 ^ s)) (by simp; omega), getD_set_self _ (by omega), drop_set_succ, show k - 1 + 1 = k by omega]
      exact hst
  cbv
  rw [h1, hnn, hrep, hi0]
  refine nd (by rw [hS.mkok, hS.ofN]; exact decide_eq_true ⟨Int.natCast_nonneg n, Int.le_refl _, by unfold capBytes; omega⟩) ?_
  refine loopZ ccOk mixed hS (fun (k : Nat) s' => ∃ (o : List Int) (c : Int), (k ≤ n ∧ o.length = n ∧ Wd o ∧ (0 ≤ c ∧ c < 2 ^ s) ∧ val (l.drop k) = 2 ^ s * val (o.drop k) + c) ∧ s' = ishrSt r (zW .u32 o) S n c (zsub (zofN k) 1)) (n := n)
    (s0 := ishrSt r (zW .u32 (List.replicate n 0)) S n 0 (zsub (zofN n) 1)) (le_of ?_ ?_) rfl (Nat.le_succ 2) ?_ ?_
  · simp [leT, ishrSt, mkSt, vi, vl, vnil, hS.ofN]
  · simp [leH, ishrSt, mkSt]
  · refine ⟨_, 0, ⟨Nat.le_refl _, by simp, Wd.rep _, ⟨by omega, hp⟩, ?_⟩, rfl⟩
    rw [List.drop_of_length_le (by omega), List.drop_of_length_le (by simp)]; simp [val]
  · rintro k _ ⟨o, c, ⟨hk, ho, hw, hc, hv⟩, rfl⟩
    rcases Nat.eq_zero_or_pos k with hk0 | hk0
    · subst hk0
      have e6 : zle 0 (zsub (zofN 0) 1) = false := by rw [hS.le, hS.sub, hS.ofN]; rfl
      have e10 : zfit 0 n (zW .u32 o) = true := by rw [hS.fit, hS.W, W_len]; exact decide_eq_true (by omega)
      have e11 : zpart (zW .u32 o) 0 n = W .u32 o := by rw [hS.part, hS.W, W_part, List.drop_zero, List.take_of_length_le (by omega)]
      have hT := itrim_call (r := W .u32 o) rfl (by omega) hw
      have hend : val o = q := by
        simp only [List.drop_zero] at hv
        rw [hq, hv, Int.add_comm, Int.add_mul_ediv_left _ _ (by omega), Int.ediv_eq_zero_of_lt hc.1 hc.2, Int.zero_add]
      rw [hend] at hT
      clear A1 hv hc hmask hM hq hp hp2
      generalize W .u32 (dg q.toNat) = x at *
      cbv
      refine bF e6 (nd e10 ?_)
      rw [e11]
      refine ⟨_, hS.call hT, ?_⟩
      cbv
      exact hF _ (ResLe.refl _)
    · obtain ⟨t, d, e, E1, E2, E3, E4, E5, E6, E7, E8, E9, E10, E11, E12, I⟩ := A1 k o c hk ho hw hc hv hk0
      have hj : k - 1 < k := by clear A1; omega
      obtain ⟨k1, hk1⟩ : ∃ k1, k1 = k - 1 := ⟨_, rfl⟩
      rw [← hk1] at E1 E2 E6 E7 E8 E10 I hj
      generalize l.getD k1 0 = a at E1 E2
      clear A1 hc hv hk1
      cbv
      refine bT E12 ?_
      rw [E1, E2, E3, E4, hmask, E5, E6, E7, E8]
      refine nd E12 (nd E11 (nd hs0 (nd E9 (nd E10 (nd hs0 ?_)))))
      exact again (s' := ishrSt r (zW .u32 (o.set k1 d)) S n e (zsub (zofN k1) 1)) (m := k1) (by simp [leT, ishrSt, mkSt, vi, vl, vnil]) (by simp [leH, ishrSt, mkSt]) rfl (Nat.le_succ 2) hj ⟨_, _, I, rfl⟩
end Go.Proofs.YtpgbejgdmgpfjaaGreat
end

section
set_option linter.unusedVariables false
set_option linter.unusedSimpArgs false
/-
  The digit of a quotient, its multiple taken away, and given back: two loops over words.
-/
set_option linter.unusedVariables false
namespace Go.Abs.M

theorem dif_word2 {a b c d : Int} (ha : 0 ≤ a ∧ a < 4294967296) (hb : 0 ≤ b ∧ b < 4294967296) (hc : 0 ≤ c ∧ c ≤ 1) (hd : d = ((a - b) % 18446744073709551616 - c) % 18446744073709551616) :
    d % 4294967296 = (4294967296 + a - b - c) % 4294967296 ∧ d / 9223372036854775808 = 1 - (4294967296 + a - b - c) / 4294967296 ∧ 0 ≤ d := by omega

structure QwI (u v : List Int) (n : Nat) (g : Int) (k : Nat) (o : List Int) (c b : Int) : Prop where
  lo : o.length = n + 1
  wo : Wd o
  hc : 0 ≤ c ∧ c < 4294967296
  hb : 0 ≤ b ∧ b ≤ 1
  dr : o.drop k = u.drop k
  eq : val (o.take k) = val (u.take k) - g * val (v.take k) + (b + c) * 4294967296 ^ k

theorem drop_getD_eq {o u : List Int} {k : Nat} (h : o.drop k = u.drop k) : o.getD k 0 = u.getD k 0 := by
  have := congrArg (fun y => List.getD y 0 0) h
  simpa [List.getD_eq_getElem?_getD] using this

theorem drop_set_eq {o u : List Int} {k : Nat} (x : Int) (h : o.drop k = u.drop k) : (o.set k x).drop (k + 1) = u.drop (k + 1) := by
  rw [drop_set_succ]
  have := congrArg (List.drop 1) h
  simpa [List.drop_drop] using this

section
variable {u v o : List Int} {n k : Nat} {g c b pr d : Int}

theorem QwI.start (hu : u.length = n + 1) (hw : Wd u) : QwI u v n g 0 u 0 0 := ⟨hu, hw, by omega, by omega, rfl, by simp [val]⟩

theorem QwI.step (h : QwI u v n g k o c b) (huw : Wd u) (hvw : Wd v) (hg0 : 0 ≤ g) (hg1 : g ≤ 4294967296) (hk : k < n) (hpr : pr = g * v.getD k 0 + c) (hd : d = ((u.getD k 0 - pr % 4294967296) % 18446744073709551616 - b) % 18446744073709551616) :
    (0 ≤ g * v.getD k 0 ∧ g * v.getD k 0 < 18446744073709551616) ∧ (0 ≤ pr ∧ pr < 18446744073709551616) ∧ 0 ≤ d ∧ o.getD k 0 = u.getD k 0 ∧ QwI u v n g (k + 1) (o.set k (d % 4294967296)) (pr / 4294967296) (d / 9223372036854775808) := by
  obtain ⟨lo, wo, hc, hb, dr, eq⟩ := h
  have ga := huw.get k
  have gv := hvw.get k
  have hgv : 0 ≤ g * v.getD k 0 ∧ g * v.getD k 0 ≤ 4294967296 * 4294967295 := ⟨Int.mul_nonneg hg0 gv.1, Int.mul_le_mul hg1 (by omega) gv.1 (by omega)⟩
  obtain ⟨t, ht⟩ : ∃ t, t = 4294967296 + u.getD k 0 - pr % 4294967296 - b := ⟨_, rfl⟩
  have hst := lessen_step eq hpr ht
  obtain ⟨d1, d2, d3⟩ := dif_word2 ga (show 0 ≤ pr % 4294967296 ∧ pr % 4294967296 < 4294967296 by omega) hb hd
  rw [← ht] at d1 d2
  refine ⟨by omega, by omega, d3, drop_getD_eq dr, ?_⟩
  rw [d1, d2]
  refine ⟨by simpa using lo, wo.set _ (by omega) (by omega), by omega, by omega, drop_set_eq _ dr, ?_⟩
  rw [val_take_set _ (by omega), val_take_succ' u, val_take_succ' v, Int.pow_succ, hst, Int.mul_add]

theorem QwI.last (h : QwI u v n g n o c b) (hu : u.length = n + 1) (hv : v.length = n) (huw : Wd u) (hd : d = ((u.getD n 0 - c) % 18446744073709551616 - b) % 18446744073709551616) :
    0 ≤ d ∧ o.getD n 0 = u.getD n 0 ∧ (d / 9223372036854775808 = 0 ↔ ¬ val u - g * val v < 0) ∧ o.set n (d % 4294967296) = wds (n + 1) (val u - g * val v) ∧ (o.set n (d % 4294967296)).length = n + 1 := by
  obtain ⟨lo, wo, hc, hb, dr, eq⟩ := h
  have gun := huw.get n
  obtain ⟨n1, n2, n3⟩ := dif_word2 gun hc hb hd
  obtain ⟨y, hy⟩ : ∃ y, y = 4294967296 + u.getD n 0 - c - b := ⟨_, rfl⟩
  rw [← hy] at n1 n2
  rw [n1, n2]
  have wo2 : Wd (o.set n (y % 4294967296)) := wo.set _ (by omega) (by omega)
  have lo2 : (o.set n (y % 4294967296)).length = n + 1 := by simpa using lo
  have hsum : val (o.set n (y % 4294967296)) = (val u - g * val v) + (1 - y / 4294967296) * 4294967296 ^ (n + 1) := by
    have a1 := val_take_set (l := o) (k := n) (y % 4294967296) (by omega)
    rw [List.take_of_length_le (by omega)] at a1
    have a2 := val_take_succ' u n
    rw [List.take_of_length_le (by omega)] at a2
    rw [List.take_of_length_le (l := v) (by omega)] at eq
    have a3 := Int.emod_add_mul_ediv y 4294967296
    have a4 : y % 4294967296 = 4294967296 + u.getD n 0 - c - b - 4294967296 * (y / 4294967296) := by omega
    rw [a1, a2, eq, Int.pow_succ, a4]
    generalize y / 4294967296 = z at *
    generalize (4294967296 : Int) ^ n = p at *
    generalize val v = vv at *
    generalize val (u.take n) = uu at *
    generalize u.getD n 0 = w at *
    clear a1 a2 a3 a4 eq n1 n2 hd hy wo2 lo2 dr
    grind
  refine ⟨n3, drop_getD_eq dr, ?_, wds_of wo2 lo2 hsum, lo2⟩
  have a2 := val_lt wo2
  have a3 := val_nonneg wo2
  rw [lo2] at a2
  have a4 := pow_pos' (n + 1)
  rcases (show 1 - y / 4294967296 = 0 ∨ 1 - y / 4294967296 = 1 by omega) with h1 | h1
  · rw [h1] at hsum ⊢; constructor <;> intro <;> omega
  · rw [h1] at hsum ⊢; constructor <;> intro <;> omega

structure QrI (u v : List Int) (n : Nat) (k : Nat) (o : List Int) (c : Int) : Prop where
  lo : o.length = n + 1
  wo : Wd o
  hc : 0 ≤ c ∧ c ≤ 1
  dr : o.drop k = u.drop k
  eq : val (o.take k) + c * 4294967296 ^ k = val (u.take k) + val (v.take k)

theorem QrI.start (hu : u.length = n + 1) (hw : Wd u) : QrI u v n 0 u 0 := ⟨hu, hw, by omega, rfl, by simp [val]⟩

theorem QrI.step {t : Int} (h : QrI u v n k o c) (huw : Wd u) (hvw : Wd v) (hk : k < n) (ht : t = u.getD k 0 + v.getD k 0 + c) :
    (0 ≤ t ∧ t < 18446744073709551616) ∧ o.getD k 0 = u.getD k 0 ∧ QrI u v n (k + 1) (o.set k (t % 4294967296)) (t / 4294967296) := by
  obtain ⟨lo, wo, hc, dr, eq⟩ := h
  have ga := huw.get k
  have gv := hvw.get k
  have hst := add_step eq ht
  refine ⟨by omega, drop_getD_eq dr, by simpa using lo, wo.set _ (by omega) (by omega), by omega, drop_set_eq _ dr, ?_⟩
  rw [val_take_set _ (by omega), val_take_succ' u, val_take_succ' v, Int.pow_succ]
  exact hst

theorem QrI.last (h : QrI u v n n o c) (hu : u.length = n + 1) (hv : v.length = n) (huw : Wd u) : o.getD n 0 = u.getD n 0 ∧ o.set n ((u.getD n 0 + c) % 4294967296) = wds (n + 1) (val u + val v) ∧ (o.set n ((u.getD n 0 + c) % 4294967296)).length = n + 1 := by
  obtain ⟨lo, wo, hc, dr, eq⟩ := h
  have gun := huw.get n
  obtain ⟨y, hy⟩ : ∃ y, y = u.getD n 0 + c := ⟨_, rfl⟩
  rw [← hy]
  have wo2 : Wd (o.set n (y % 4294967296)) := wo.set _ (by omega) (by omega)
  have lo2 : (o.set n (y % 4294967296)).length = n + 1 := by simpa using lo
  refine ⟨drop_getD_eq dr, wds_of (b := -(y / 4294967296)) wo2 lo2 ?_, lo2⟩
  have a1 := val_take_set (l := o) (k := n) (y % 4294967296) (by omega)
  rw [List.take_of_length_le (by omega)] at a1
  have a2 := val_take_succ' u n
  rw [List.take_of_length_le (by omega)] at a2
  rw [List.take_of_length_le (l := v) (by omega)] at eq
  have a3 := Int.emod_add_mul_ediv y 4294967296
  have a4 : y % 4294967296 = u.getD n 0 + c - 4294967296 * (y / 4294967296) := by omega
  have a5 : val (o.take n) = val (u.take n) + val v - c * 4294967296 ^ n := by omega
  rw [a1, a2, a5, Int.pow_succ, a4]
  generalize y / 4294967296 = z at *
  generalize (4294967296 : Int) ^ n = p at *
  generalize val v = vv at *
  generalize val (u.take n) = uu at *
  generalize u.getD n 0 = w at *
  clear a1 a2 a3 a4 a5 eq hy wo2 lo2 dr
  grind
end
end Go.Abs.M
end

section
set_option linter.unusedVariables false
set_option linter.unusedSimpArgs false
set_option maxHeartbeats 8000000
set_option linter.unusedVariables false
set_option linter.unusedSimpArgs false
set_option maxRecDepth 100000
namespace Go.Proofs.YtpgbejgdmgpfjaaGreat
open Go Go.Abs Go.Abs.M Go.Proofs

def iqw3St (r s : Abs.Rows) (l : Nat) (n q c i : Int) : St := mkSt 171 [.c (.sl 0 0 l false), vl s, .junk, .junk, vi .u32 0, vi .i64 n, .junk, vi .u64 q, .junk, vi .u64 c, .junk, .junk, .junk, .junk, .junk, .junk, .junk, .junk, .junk, .junk, .junk, .junk, .junk, .junk, .junk, .junk, .junk, .junk, .junk, .junk, .junk, .junk, .junk, .junk, .junk, .junk, .junk, .junk, .junk, .junk, .junk, .junk, .junk, .junk, .junk, .junk, .junk, .junk, .junk, .junk, .junk, .junk, .junk, .junk, .junk, .junk, .junk, .junk, .junk, .junk, .junk, .junk, .junk, .junk, .junk, .junk, .junk, .junk, .junk, .junk, .junk, .junk, .junk, .junk, .junk, .junk, .junk, .junk, .junk, .junk, .junk, .junk, .junk, .junk, .junk, .junk, .junk, .junk, .junk, .junk, .junk, .junk, .junk, .junk, .junk, .junk, .junk, .junk, .junk, .junk, .junk, .junk, .junk, .junk, .junk, .junk, .junk, .junk, .junk, .junk, .junk, .junk, .junk, .junk, .junk, .junk, .junk, .junk, .junk, .junk, .junk, .junk, .junk, .junk, .junk, .junk, .junk, .junk, .junk, .junk, .junk, .junk, .junk, .junk, .junk, vi .i64 n, vi .i64 i] [some (.rows 1 r false false), none]

/-- Ways that come together again: what is behind them is shown once. -/
theorem shared {L : Code → St → (AExit → ST → Prop) → Prop} {G : Prop} {c : Code} {Q : AExit → ST → Prop} {S : List AV → Heap → Prop} (main : (∀ T H, S T H → L c (St.mk T H) Q) → G) (rest : ∀ T H, S T H → L c (St.mk T H) Q) : G := main rest

def iqw2St (r s : Abs.Rows) (l : Nat) (n q c b i : Int) : St := mkSt 171 [.c (.sl 0 0 l false), vl s, .junk, .junk, vi .u32 0, vi .i64 n, .junk, vi .u64 q, .junk, vi .u64 c, vi .u64 b, .junk, .junk, .junk, .junk, .junk, .junk, .junk, .junk, .junk, .junk, .junk, .junk, .junk, .junk, .junk, .junk, .junk, .junk, .junk, .junk, .junk, .junk, .junk, .junk, .junk, .junk, .junk, .junk, .junk, .junk, .junk, .junk, .junk, .junk, .junk, .junk, .junk, .junk, .junk, .junk, .junk, .junk, .junk, .junk, .junk, .junk, .junk, .junk, .junk, .junk, .junk, .junk, .junk, .junk, .junk, .junk, .junk, .junk, .junk, .junk, .junk, .junk, .junk, .junk, .junk, .junk, .junk, .junk, .junk, .junk, .junk, vi .i64 n, vi .i64 i] [some (.rows 1 r false false), none]

def iqw1St (r s : Abs.Rows) (len : Nat) (n t q e : Int) : St := mkSt 171 [.c (.sl 0 0 len false), vl s, .junk, .junk, vi .u32 0, vi .i64 n, vi .u64 t, vi .u64 q, vi .u64 e] [some (.rows 1 r false false), none]

theorem iquotientWord_call {r s : Abs.Rows} {u v x : List Int} {n : Nat} (g qd : Int) (hr : r = W .u32 u) (hs : s = W .u32 v) (hu : u.length = n + 1) (hv : v.length = n) (hn : 2 ≤ n) (hn2 : n ≤ 1099511627776) (huw : Wd u) (hvw : Wd v) (htop : 2147483648 ≤ v.getD (n - 1) 0)
    (hg : g = guess0 (v.getD (n - 1) 0) (v.getD (n - 2) 0) (u.getD (n - 2) 0) (u.getD n 0 * 4294967296 + u.getD (n - 1) 0)) (hg0 : 0 ≤ g) (hg1 : g ≤ 4294967296) (hqd : 0 ≤ qd ∧ qd < 4294967296)
    (hneg : val u - g * val v < 0 → g - 1 = qd ∧ x = wds (n + 1) (val u - g * val v + val v)) (hpos' : ¬ val u - g * val v < 0 → g = qd ∧ x = wds (n + 1) (val u - g * val v)) :
    ACall Tryz.prog 187 [.bor 1 r, .val (tl s)] ⟨[.val (ti .u32 qd)], [some (.rows 1 (W .u32 x) false false), none]⟩ := by
  have g1' := huw.get n
  have g2 := huw.get (n - 1)
  have g3 := huw.get (n - 2)
  have g4 := hvw.get (n - 1)
  have g5 := hvw.get (n - 2)
  obtain ⟨t, ht⟩ : ∃ t, t = u.getD n 0 * 4294967296 + u.getD (n - 1) 0 := ⟨_, rfl⟩
  rw [← ht] at hg
  refine callZ ccOk mixed [.val] Tryz.func187 rfl rfl (by kernel_rfl) fun zwrap zadd zsub zmul zquo zrem zshl zshr zband zbor zbxor zbandn zeq zne zlt zle znot zbeq zbne zmax zmin znat zinb zofN zidx zneq znadd zdif zcut zroom zmkok zlen znth zsetr zisI zgetI zsetI zfit zpart zext zsetg zrep zwide zall zmok zmget zmset zW zth A L F hS hF => ?_
  have h1 : zlen r = n + 1 := by rw [hS.len, hr, W_len, hu]
  have h2 : zlen s = n := by rw [hS.len, hs, W_len, hv]
  have hrW : r = zW .u32 u := by rw [hS.W]; exact hr
  have w1 : zwrap .i64 (zsub (zofN n) 1) = zofN (n - 1) := by rw [hS.wrap, hS.sub, hS.ofN, hS.ofN, wrap_i64 (by omega) (by omega)]; omega
  have w2 : zwrap .i64 (zsub (zofN n) 2) = zofN (n - 2) := by rw [hS.wrap, hS.sub, hS.ofN, hS.ofN, wrap_i64 (by omega) (by omega)]; omega
  have f2 : ∀ q, zidx 0 (zofN q) = q := fun q => by rw [hS.idx, hS.ofN]; omega
  have f3 : ∀ q, q < n + 1 → zinb (zofN q) (zlen r) = true := fun q hq => by rw [h1, hS.inb, hS.ofN]; exact decide_eq_true (by omega)
  have f4 : ∀ q, q < n + 1 → zisI .u32 r q = true := fun q hq => by rw [hS.isI, hr, W_isI]; exact decide_eq_true (by omega)
  have f5 : ∀ q, zgetI r q = u.getD q 0 := fun q => by rw [hS.getI, hr, W_getI]
  have f6 : ∀ q, zle 0 (zofN q) = true := fun q => by rw [hS.le, hS.ofN]; exact decide_eq_true (by omega)
  have f7 : ∀ q, q < n → zisI .u32 s (znat (zofN q)) = true := fun q hq => by rw [hS.isI, hs, hS.nat, hS.ofN, W_isI]; exact decide_eq_true (by omega)
  have f8 : ∀ q, zgetI s (znat (zofN q)) = v.getD q 0 := fun q => by rw [hS.getI, hS.nat, hS.ofN, hs, W_getI, Int.toNat_natCast]
  have eu : ∀ q, zwrap .u64 (u.getD q 0) = u.getD q 0 := fun q => by have := huw.get q; rw [hS.wrap, wrap_u64 (by omega) (by omega)]
  have ev : ∀ q, zwrap .u64 (v.getD q 0) = v.getD q 0 := fun q => by have := hvw.get q; rw [hS.wrap, wrap_u64 (by omega) (by omega)]
  have et : zbor .u64 (zshl .u64 (u.getD n 0) 32) (u.getD (n - 1) 0) = t := by
    rw [show zshl .u64 (u.getD n 0) 32 = ZI.std.shl .u64 (u.getD n 0) 32 from hS.shl .., show ∀ x y, zbor .u64 x y = ZI.std.bor .u64 x y from fun _ _ => hS.bor .., two_words g1'.1 g1'.2 g2.1 g2.2, ht]
  have htb : 0 ≤ t ∧ t < 18446744073709551616 := by omega
  have hnz : zne (v.getD (n - 1) 0) 0 = true := by rw [hS.ne]; exact decide_eq_true (by omega)
  have hq0 : 0 ≤ t / v.getD (n - 1) 0 := Int.ediv_nonneg (by omega) (by omega)
  have hq1 : t / v.getD (n - 1) 0 < 8589934592 := Int.ediv_lt_of_lt_mul (by omega) (by omega)
  have hm0 := Int.emod_nonneg t (show v.getD (n - 1) 0 ≠ 0 by omega)
  have hm1 := Int.emod_lt_of_pos t (show 0 < v.getD (n - 1) 0 by omega)
  have eq : zwrap .u64 (zquo t (v.getD (n - 1) 0)) = t / v.getD (n - 1) 0 := by rw [hS.quo, Int.tdiv_eq_ediv_of_nonneg (by omega), hS.wrap]; exact wrap_u64 (by omega) (by omega)
  have er : zrem t (v.getD (n - 1) 0) = t % v.getD (n - 1) 0 := by rw [hS.rem, Int.tmod_eq_emod_of_nonneg (by omega)]
  have hstart : guessF (v.getD (n - 1) 0) (v.getD (n - 2) 0) (u.getD (n - 2) 0) 3 (t / v.getD (n - 1) 0) (t % v.getD (n - 1) 0) = g := hg.symm
  have e10 : zneq (zlen r) (zlen r) = true := by rw [hS.neq]; exact decide_eq_true rfl
  have L2 := zlt_nat hS.lt hS.ofN
  have W1 : ∀ z, z = qd → zwrap .u32 z = qd := fun z hz => by rw [hS.wrap, hz]; exact wrap_u32 hqd.1 (by omega)
  have A2 : ∀ (k : Nat) (o : List Int) (c b : Int), QwI u v n g k o c b → k < n → ∃ (pr d : Int) (k1 : Nat), zgetI (zW .u32 o) k = u.getD k 0 ∧ zwrap .u64 (zadd (zwrap .u64 (zmul g (v.getD k 0))) c) = pr ∧ zwrap .u64 (zwrap .u32 pr) = pr % 4294967296 ∧ zshr .u64 pr 32 = pr / 4294967296 ∧
      zwrap .u64 (zsub (zwrap .u64 (zsub (u.getD k 0) (pr % 4294967296))) b) = d ∧ zwrap .u32 d = d % 4294967296 ∧ zshr .u64 d 63 = d / 9223372036854775808 ∧ zwrap .i64 (zadd (zofN k) 1) = zofN k1 ∧ zwrap .u64 (u.getD k 0) = u.getD k 0 ∧ zwrap .u64 (v.getD k 0) = v.getD k 0 ∧
      (∀ x, zsetI .u32 (zW .u32 o) k x = zW .u32 (o.set k x)) ∧ zisI .u32 (zW .u32 o) k = true ∧ zgetI s (znat (zofN k)) = v.getD k 0 ∧ k1 = k + 1 ∧ QwI u v n g k1 (o.set k (d % 4294967296)) (pr / 4294967296) (d / 9223372036854775808) := fun k o c b hI hk => by
    obtain ⟨i1, i2, i3, i4, i5⟩ := hI.step huw hvw hg0 hg1 hk rfl rfl
    have hlo := hI.lo
    have hc := hI.hc
    refine ⟨_, _, k + 1, by rw [hS.getI, hS.W, W_getI, i4], ?_, ?_, ?_, ?_, ?_, ?_, ?_, eu k, ev k, fun x => by rw [hS.setI, hS.W, W_set], by rw [hS.isI, hS.W, W_isI]; exact decide_eq_true (by omega), f8 k, rfl, i5⟩
    · rw [hS.wrap, hS.wrap, hS.mul, hS.add, wrap_u64 i1.1 i1.2, wrap_u64 i2.1 i2.2]
    · rw [hS.wrap, hS.wrap, wrap_u32m, wrap_u64 (by omega) (by omega)]
    · rw [show ∀ x, zshr .u64 x 32 = ZI.std.shr .u64 x 32 from fun _ => hS.shr ..]; exact shr32 i2.1
    · rw [hS.wrap, hS.wrap, hS.sub, hS.sub, wrap_u64m, wrap_u64m]
    · rw [hS.wrap, wrap_u32m]
    · rw [show ∀ x, zshr .u64 x 63 = ZI.std.shr .u64 x 63 from fun _ => hS.shr ..]; exact shr63 i3
    · rw [hS.wrap, hS.add, hS.ofN, hS.ofN, wrap_i64 (by omega) (by omega)]; omega
  have A3 : ∀ (o : List Int) (c b : Int), QwI u v n g n o c b → ∃ (un d : Int) (y : List Int), zgetI (zW .u32 o) n = un ∧ zwrap .u64 un = un ∧ zwrap .u64 (zsub (zwrap .u64 (zsub un c)) b) = d ∧ zwrap .u32 d = d % 4294967296 ∧ zsetI .u32 (zW .u32 o) n (d % 4294967296) = zW .u32 y ∧
      zisI .u32 (zW .u32 o) n = true ∧ zneq (zlen (zW .u32 y)) (zlen r) = true ∧ (zeq (zshr .u64 d 63) 0 = true → g = qd ∧ y = x) ∧ (zeq (zshr .u64 d 63) 0 = false → g - 1 = qd ∧ x = wds (n + 1) (val y + val v)) ∧ Wd y ∧ y.length = n + 1 := fun o c b hI => by
    obtain ⟨i1, i2, i3, i4, i5⟩ := hI.last hu hv huw rfl
    have hlo := hI.lo
    refine ⟨u.getD n 0, _, _, by rw [hS.getI, hS.W, W_getI, i2], eu n, by rw [hS.wrap, hS.wrap, hS.sub, hS.sub, wrap_u64m, wrap_u64m], by rw [hS.wrap, wrap_u32m], by rw [hS.setI, hS.W, W_set], by rw [hS.isI, hS.W, W_isI]; exact decide_eq_true (by omega), ?_, fun h => ?_, fun h => ?_, by rw [i4]; exact wds_wd _ _, i5⟩
    · rw [h1, hS.neq, hS.len, hS.W, W_len, i5]; exact decide_eq_true rfl
    · rw [show ∀ x, zshr .u64 x 63 = ZI.std.shr .u64 x 63 from fun _ => hS.shr .., shr63 i1, hS.eq] at h
      obtain ⟨j1, j2⟩ := hpos' (i3.1 (of_decide_eq_true h))
      exact ⟨j1, by rw [i4, j2]⟩
    · rw [show ∀ x, zshr .u64 x 63 = ZI.std.shr .u64 x 63 from fun _ => hS.shr .., shr63 i1, hS.eq] at h
      have h' : val u - g * val v < 0 := Decidable.byContradiction fun h6 => of_decide_eq_false h (i3.2 h6)
      obtain ⟨j1, j2⟩ := hneg h'
      exact ⟨j1, by rw [i4, j2, wds_back]⟩
  have A4 : ∀ (y : List Int), Wd y → y.length = n + 1 → x = wds (n + 1) (val y + val v) → (∀ (k : Nat) (o : List Int) (c : Int), QrI y v n k o c → k < n → ∃ (t : Int) (k1 : Nat), zgetI (zW .u32 o) k = y.getD k 0 ∧ zwrap .u64 (zadd (zwrap .u64 (zadd (y.getD k 0) (v.getD k 0))) c) = t ∧ zwrap .u32 t = t % 4294967296 ∧ zshr .u64 t 32 = t / 4294967296 ∧
      zwrap .i64 (zadd (zofN k) 1) = zofN k1 ∧ zwrap .u64 (y.getD k 0) = y.getD k 0 ∧ zwrap .u64 (v.getD k 0) = v.getD k 0 ∧ (∀ z, zsetI .u32 (zW .u32 o) k z = zW .u32 (o.set k z)) ∧ zisI .u32 (zW .u32 o) k = true ∧ zgetI s (znat (zofN k)) = v.getD k 0 ∧ k1 = k + 1 ∧ QrI y v n k1 (o.set k (t % 4294967296)) (t / 4294967296)) ∧
      (∀ (o : List Int) (c : Int), QrI y v n n o c → ∃ (yn d : Int), zgetI (zW .u32 o) n = yn ∧ zwrap .u32 c = c ∧ zwrap .u32 (zadd yn c) = d ∧ zsetI .u32 (zW .u32 o) n d = zW .u32 x ∧ zisI .u32 (zW .u32 o) n = true ∧ zneq (zlen (zW .u32 x)) (zlen r) = true) := fun y wy ly hx => by
    refine ⟨fun k o c hI hk => ?_, fun o c hI => ?_⟩
    · obtain ⟨i1, i2, i3⟩ := hI.step wy hvw hk rfl
      have hlo := hI.lo
      have hc := hI.hc
      have b1 := wy.get k
      have b2 := hvw.get k
      refine ⟨_, k + 1, by rw [hS.getI, hS.W, W_getI, i2], ?_, ?_, ?_, ?_, ?_, ev k, fun x => by rw [hS.setI, hS.W, W_set], by rw [hS.isI, hS.W, W_isI]; exact decide_eq_true (by omega), f8 k, rfl, i3⟩
      · rw [hS.wrap, hS.wrap, hS.add, hS.add, wrap_u64 (x := y.getD k 0 + v.getD k 0) (by omega) (by omega), wrap_u64 i1.1 i1.2]
      · rw [hS.wrap, wrap_u32m]
      · rw [show ∀ x, zshr .u64 x 32 = ZI.std.shr .u64 x 32 from fun _ => hS.shr ..]; exact shr32 i1.1
      · rw [hS.wrap, hS.add, hS.ofN, hS.ofN, wrap_i64 (by omega) (by omega)]; omega
      · rw [hS.wrap, wrap_u64 (by omega) (by omega)]
    · obtain ⟨i1, i2, i3⟩ := hI.last ly hv wy
      have hlo := hI.lo
      have hc := hI.hc
      refine ⟨y.getD n 0, (y.getD n 0 + c) % 4294967296, by rw [hS.getI, hS.W, W_getI, i1], by rw [hS.wrap]; exact wrap_u32 (by omega) (by omega), by rw [hS.wrap, hS.add, wrap_u32m], ?_, by rw [hS.isI, hS.W, W_isI]; exact decide_eq_true (by omega), ?_⟩
      · rw [hS.setI, hS.W, W_set, i2, hx]
      · rw [h1, hS.neq, hS.len, hS.W, W_len, hx, wds_length]; exact decide_eq_true rfl
  have g1q : g - 1 = qd → zwrap .u64 (zsub g 1) = qd := fun h => by rw [hS.wrap, hS.sub, wrap_u64 (by omega) (by omega), h]
  clear hg ht
  generalize ha1 : v.getD (n - 1) 0 = v1 at *
  generalize ha2 : v.getD (n - 2) 0 = v2 at *
  generalize ha3 : u.getD (n - 2) 0 = u2 at *
  generalize ha4 : u.getD n 0 = u0 at *
  generalize ha5 : u.getD (n - 1) 0 = u1 at *
  have eu0 := eu n
  have eu1 := eu (n - 1)
  have eu2 := eu (n - 2)
  have ev1 := ev (n - 1)
  have ev2 := ev (n - 2)
  rw [ha4] at eu0
  rw [ha5] at eu1
  rw [ha3] at eu2
  rw [ha1] at ev1
  rw [ha2] at ev2
  cbv
  rw [h2, w1, f2, f2, f5, f5, f8, ha1, ha4, ha5, eu0, eu1, ev1, et, eq, er]
  refine nd (f3 _ (by omega)) (nd (f4 _ (by omega)) (nd (f3 _ (by omega)) (nd (f4 _ (by omega)) (nd (f6 _) (nd (f7 _ (by omega)) (nd hnz (nd (f6 _) (nd (f7 _ (by omega)) (nd hnz ?_)))))))))
  generalize t / v1 = q0 at *
  generalize t % v1 = m0 at *
  apply shared (L := L) (S := fun T H => leT T (iqw2St (zW .u32 u) s (zlen r) (zofN n) g 0 0 (zofN 0)).tmps ∧ leH H (iqw2St (zW .u32 u) s (zlen r) (zofN n) g 0 0 (zofN 0)).heap)
  · intro rest
    refine loopZ ccOk mixed hS (fun (j : Nat) s' => ∃ (q e : Int), 0 ≤ q ∧ q < 8589934592 ∧ 0 ≤ e ∧ e < 4294967296 ∧ guessF v1 v2 u2 j q e = g ∧ 4294967296 ≤ e + j * v1 ∧ s' = iqw1St r s (zlen r) (zofN n) t q e) (n := 3)
      (s0 := iqw1St r s (zlen r) (zofN n) t q0 m0) (le_of ?_ ?_) rfl (Nat.le_refl 2) ?_ ?_
    · simp [leT, iqw1St, mkSt, vi, vl, vb, hS.ofN]
    · simp [leH, iqw1St, mkSt]
    · exact ⟨q0, m0, hq0, hq1, hm0, by omega, hstart, by push_cast; omega, rfl⟩
    · rintro j _ ⟨q, e, b1, b2, b3, b4, hgF, hme, rfl⟩
      have j0 : j ≠ 0 := by
        rintro rfl
        simp at hme
        omega
      obtain ⟨j, rfl⟩ : ∃ i, j = i + 1 := ⟨j - 1, by omega⟩
      have hme' : 4294967296 ≤ (e + v1) + j * v1 := by
        have : ((j + 1 : Nat) : Int) * v1 = j * v1 + v1 := by push_cast; grind
        omega
      simp only [guessF] at hgF
      have x1 : zle 4294967296 q = decide (4294967296 ≤ q) := by rw [hS.le]
      have x2 : zwrap .u64 (zadd e v1) = e + v1 := by rw [hS.wrap, hS.add]; exact wrap_u64 (by omega) (by omega)
      have x3 : zle 4294967296 (e + v1) = decide (4294967296 ≤ e + v1) := by rw [hS.le]
      have x4 : 0 < q → zwrap .u64 (zsub q 1) = q - 1 := fun h => by rw [hS.wrap, hS.sub]; exact wrap_u64 (by omega) (by omega)
      have hq2 : q < 4294967296 → 0 ≤ q * v2 ∧ q * v2 ≤ 4294967295 * 4294967295 := fun h => ⟨Int.mul_nonneg b1 g5.1, Int.mul_le_mul (by omega) (by omega) g5.1 (by omega)⟩
      have x5 : q < 4294967296 → zlt (zbor .u64 (zshl .u64 e 32) u2) (zwrap .u64 (zmul q v2)) = decide (e * 4294967296 + u2 < q * v2) := fun h => by
        have := hq2 h
        rw [hS.lt, hS.wrap, hS.mul, show zshl .u64 e 32 = ZI.std.shl .u64 e 32 from hS.shl .., show ∀ x y, zbor .u64 x y = ZI.std.bor .u64 x y from fun _ _ => hS.bor .., two_words b3 b4 g3.1 g3.2, wrap_u64 (x := q * v2) (by omega) (by omega)]
      have hpos : e * 4294967296 + u2 < q * v2 → 0 < q := fun h => by
        rcases Int.lt_or_le 0 q with h' | h'
        · exact h'
        · obtain rfl : q = 0 := by omega
          omega
      have step : (4294967296 ≤ q ∨ e * 4294967296 + u2 < q * v2) → ¬ 4294967296 ≤ e + v1 → 0 < q → ∀ (T : List AV) (H : Heap), leT T (iqw1St r s (zlen r) (zofN n) t (q - 1) (e + v1)).tmps → leH H (iqw1St r s (zlen r) (zofN n) t (q - 1) (e + v1)).heap → ∃ s' : St, (St.mk T H).Le s' ∧ s'.refsLt = true ∧ [Arg.bor 1 r, Arg.val (tl s)].length ≤ s'.heap.length ∧ ∃ m, m < j + 1 ∧ ∃ (q e : Int), 0 ≤ q ∧ q < 8589934592 ∧ 0 ≤ e ∧ e < 4294967296 ∧ guessF v1 v2 u2 m q e = g ∧ 4294967296 ≤ e + m * v1 ∧ s' = iqw1St r s (zlen r) (zofN n) t q e := fun hb hc hp T H hT hH => by
        rw [if_pos hb, if_neg hc] at hgF
        exact ⟨_, le_of hT hH, rfl, Nat.le_refl 2, j, by omega, q - 1, e + v1, by omega, by omega, by omega, by omega, hgF, hme', rfl⟩
      cbv
      rw [w1, w2, f2, f8, f8, f5, ha1, ha2, ha3, ev1, ev2, eu2, x2]
      refine ⟨fun h => ?_, fun h => ?_⟩
      all_goals rw [x1] at h
      · have h := of_decide_eq_true h
        rw [x4 (by omega)]
        refine nd (f6 _) (nd (f7 _ (by omega)) ⟨fun h' => ?_, fun h' => ?_⟩)
        all_goals rw [x3] at h'
        · rw [if_pos (.inl h), if_pos (of_decide_eq_true h')] at hgF
          rw [hgF]
          exact rest _ _ ⟨by simp [leT, iqw2St, mkSt, vi, vl, vb, hS.ofN], by simp [leH, iqw2St, mkSt, hrW]⟩
        · exact step (.inl h) (of_decide_eq_false h') (by omega) _ _ (by simp [leT, iqw1St, mkSt, vi, vl, vb]) (by simp [leH, iqw1St, mkSt])
      · have h := of_decide_eq_false h
        refine nd (f6 _) (nd (f7 _ (by omega)) (nd (f3 _ (by omega)) (nd (f4 _ (by omega)) ⟨fun h'' => ?_, fun h'' => ?_⟩)))
        all_goals rw [x5 (by omega)] at h''
        · have h'' := of_decide_eq_true h''
          have hp := hpos h''
          rw [x4 hp]
          refine nd (f6 _) (nd (f7 _ (by omega)) ⟨fun h' => ?_, fun h' => ?_⟩)
          all_goals rw [x3] at h'
          · rw [if_pos (.inr h''), if_pos (of_decide_eq_true h')] at hgF
            rw [hgF]
            exact rest _ _ ⟨by simp [leT, iqw2St, mkSt, vi, vl, vb, hS.ofN], by simp [leH, iqw2St, mkSt, hrW]⟩
          · exact step (.inr h'') (of_decide_eq_false h') hp _ _ (by simp [leT, iqw1St, mkSt, vi, vl, vb]) (by simp [leH, iqw1St, mkSt])
        · have h'' := of_decide_eq_false h''
          rw [if_neg (by omega)] at hgF
          rw [hgF]
          exact rest _ _ ⟨by simp [leT, iqw2St, mkSt, vi, vl, vb, hS.ofN], by simp [leH, iqw2St, mkSt, hrW]⟩
  · intro T H hT
    refine loopZ ccOk mixed hS (fun (j : Nat) s' => ∃ (k : Nat) (o : List Int) (c b : Int), k + j = n ∧ QwI u v n g k o c b ∧ s' = iqw2St (zW .u32 o) s (zlen r) (zofN n) g c b (zofN k)) (n := n)
      (s0 := iqw2St (zW .u32 u) s (zlen r) (zofN n) g 0 0 (zofN 0)) (le_of hT.1 hT.2) rfl (Nat.le_refl 2) ?_ ?_
    · exact ⟨0, u, 0, 0, Nat.zero_add n, QwI.start hu huw, rfl⟩
    · rintro j _ ⟨k, o, c, b', hk, hI, rfl⟩
      rcases Nat.lt_or_ge k n with hkn | hkn
      · obtain ⟨pr, d, k1, E1, E2, E3, E4, E5, E6, E7, E8, E9, E10, E11, E12, E13, hk1, hI'⟩ := A2 k o c b' hI hkn
        have e6 : zlt (zofN k) (zofN n) = true := (L2 k n).trans (decide_eq_true hkn)
        have hj : k1 + (j - 1) = n ∧ j - 1 < j := by clear A2 A3 A4; omega
        generalize u.getD k 0 = a at E1 E5 E9
        generalize v.getD k 0 = m at E2 E10 E13
        cbv
        refine bT e6 ?_
        rw [f2, E13, E10, E1, E9, E2, E3, E4, E5, E6, E7, E8, E11]
        refine nd (f6 _) (nd (f7 k hkn) (nd (f3 k (Nat.lt_succ_of_lt hkn)) (nd E12 (nd (f3 k (Nat.lt_succ_of_lt hkn)) (nd E12 ?_)))))
        exact again (s' := iqw2St (zW .u32 (o.set k (d % 4294967296))) s (zlen r) (zofN n) g (pr / 4294967296) (d / 9223372036854775808) (zofN k1)) (m := j - 1) (by simp [leT, iqw2St, mkSt, vi, vl, vb]) (by simp [leH, iqw2St, mkSt]) rfl (Nat.le_refl 2) hj.2 ⟨k1, _, _, _, hj.1, hI', rfl⟩
      · obtain rfl : k = n := by clear A2 A3 A4; omega
        obtain ⟨un, d, y, E1, E2, E3, E4, E5, E6, E7, E8, E9, wy, ly⟩ := A3 o c b' hI
        have e6 : zlt (zofN k) (zofN k) = false := (L2 k k).trans (decide_eq_false (Nat.lt_irrefl k))
        cbv
        refine bF e6 ?_
        rw [f2, E1, E2, E3, E4, E5]
        refine nd (f3 k (Nat.lt_succ_self k)) (nd E6 (nd (f3 k (Nat.lt_succ_self k)) (nd E6 ⟨fun h5 => ?_, fun h5 => ?_⟩)))
        · obtain ⟨x1, x2⟩ := (E8 h5 : g = qd ∧ y = x)
          rw [W1 g x1]
          refine nd E7 ?_
          rw [x2, hS.W]
          exact hF _ (ResLe.refl _)
        · obtain ⟨x1, x2⟩ := E9 h5
          obtain ⟨B1, B2⟩ := A4 y wy ly x2
          have G1 := g1q x1
          have G2 := W1 qd rfl
          clear E1 E2 E3 E4 E5 E6 E7 E8 E9 A2 A3 A4 hI h5 h1 h2 w1 w2 hstart e10 eq er et
          refine loopZ ccOk mixed hS (fun (j : Nat) s' => ∃ (i : Nat) (o : List Int) (c : Int), i + j = k ∧ QrI y v k i o c ∧ s' = iqw3St (zW .u32 o) s (zlen r) (zofN k) g c (zofN i)) (n := k)
            (s0 := iqw3St (zW .u32 y) s (zlen r) (zofN k) g 0 (zofN 0)) (le_of ?_ ?_) rfl (Nat.le_refl 2) ?_ ?_
          · simp [leT, iqw3St, mkSt, vi, vl, vb, hS.ofN]
          · simp [leH, iqw3St, mkSt]
          · exact ⟨0, y, 0, Nat.zero_add k, QrI.start ly wy, rfl⟩
          · rintro j _ ⟨i, o, c, hk, hI, rfl⟩
            rcases Nat.lt_or_ge i k with hik | hik
            · obtain ⟨t, i1, E1, E2, E3, E4, E5, E6, E7, E8, E9, E10, hi1, hI'⟩ := B1 i o c hI hik
              have e6 : zlt (zofN i) (zofN k) = true := (L2 i k).trans (decide_eq_true hik)
              have hj : i1 + (j - 1) = k ∧ j - 1 < j := by clear B1 B2; omega
              generalize y.getD i 0 = a at E1 E2 E6
              generalize v.getD i 0 = m at E2 E7 E10
              cbv
              refine bT e6 ?_
              rw [f2, E10, E7, E1, E6, E2, E3, E4, E5, E8]
              refine nd (f3 i (Nat.lt_succ_of_lt hik)) (nd E9 (nd (f6 _) (nd (f7 i hik) (nd (f3 i (Nat.lt_succ_of_lt hik)) (nd E9 ?_)))))
              exact again (s' := iqw3St (zW .u32 (o.set i (t % 4294967296))) s (zlen r) (zofN k) g (t / 4294967296) (zofN i1)) (m := j - 1) (by simp [leT, iqw3St, mkSt, vi, vl, vb]) (by simp [leH, iqw3St, mkSt]) rfl (Nat.le_refl 2) hj.2 ⟨i1, _, _, hj.1, hI', rfl⟩
            · obtain rfl : i = k := by clear B1 B2; omega
              obtain ⟨yn, d, E1, E2, E3, E4, E5, E6⟩ := B2 o c hI
              have e6 : zlt (zofN i) (zofN i) = false := (L2 i i).trans (decide_eq_false (Nat.lt_irrefl i))
              cbv
              refine bF e6 ?_
              rw [f2, E1, E2, E3, E4, G1, G2]
              refine nd (f3 i (Nat.lt_succ_self i)) (nd E5 (nd (f3 i (Nat.lt_succ_self i)) (nd E5 (nd E6 ?_))))
              rw [hS.W]
              exact hF _ (ResLe.refl _)
end Go.Proofs.YtpgbejgdmgpfjaaGreat
end

section
set_option linter.unusedVariables false
set_option linter.unusedSimpArgs false
set_option maxHeartbeats 8000000
set_option linter.unusedVariables false
set_option linter.unusedSimpArgs false
set_option maxRecDepth 100000
namespace Go.Proofs.YtpgbejgdmgpfjaaGreat
open Go Go.Abs Go.Abs.M Go.Proofs

/-- The table of lengths of the numbers below 256. -/
def len8rows : Abs.Rows := W .u8 ((List.range 256).map fun i => if i = 0 then (0 : Int) else (i.log2 + 1 : Nat))

theorem len8_key {T : Abs.Rows} (hT : T = len8rows) {i : Nat} {q : Int} (hq : ZI.std.getI T i = q) (h1 : 1 ≤ i) (h2 : i < 256) : ∃ m : Nat, q = m ∧ 1 ≤ m ∧ m ≤ 8 ∧ 2 ^ (m - 1) ≤ i ∧ i < 2 ^ m := by
  subst hT
  unfold len8rows at hq
  rw [W_getI, List.getD_eq_getElem?_getD, List.getElem?_map, List.getElem?_range h2] at hq
  simp only [Option.map_some, Option.getD_some] at hq
  rw [if_neg (by omega)] at hq
  have a1 := Nat.log2_self_le (n := i) (by omega)
  have a2 := Nat.lt_log2_self (n := i)
  have a3 : i.log2 < 8 := (Nat.log2_lt (by omega)).2 (by omega)
  exact ⟨i.log2 + 1, hq.symm, by omega, by omega, by simpa using a1, a2⟩

theorem len8_is {T : Abs.Rows} (hT : T = len8rows) {i : Nat} (h2 : i < 256) : ZI.std.isI .u8 T i = true := by
  subst hT
  unfold len8rows
  rw [W_isI]
  exact decide_eq_true (by simpa using h2)

theorem ilen32_call (x : Int) (h0 : 1 ≤ x) (h1 : x < 4294967296) : ∃ m : Nat, (1 ≤ m ∧ m ≤ 32) ∧ 2 ^ (m - 1) ≤ x ∧ x < 2 ^ m ∧ ACall Tryz.prog 200 [.val (ti .u32 x)] ⟨[.val (ti .i64 (m : Int))], [none]⟩ := by
  have hl := (Nat.log2_lt (n := x.toNat) (k := 32) (by omega)).2 (by omega)
  have a1 := Nat.log2_self_le (n := x.toNat) (by omega)
  have a2 := Nat.lt_log2_self (n := x.toNat)
  refine ⟨x.toNat.log2 + 1, ⟨by omega, by omega⟩, ?_, ?_, ?_⟩
  · rw [Nat.add_sub_cancel, ← cast_pow2]; omega
  · rw [← cast_pow2]; omega
  obtain ⟨M, hM⟩ : ∃ M : Int, M = ((x.toNat.log2 + 1 : Nat) : Int) := ⟨_, rfl⟩
  rw [← hM]
  -- what a shorter number's length says
  have key : ∀ (y : Int) (e m : Nat), y = x / 2 ^ e → 1 ≤ m → 2 ^ (m - 1) ≤ y.toNat → y.toNat < 2 ^ m → 1 ≤ y → M = (m : Int) + e := fun y e m hy hm b1 b2 b3 => by
    have hp : (0 : Int) < 2 ^ e := pow2_pos e
    have c1 : 2 ^ (m - 1) * 2 ^ e ≤ x.toNat := by
      have : y * 2 ^ e ≤ x := by rw [hy]; exact Int.ediv_mul_le _ (by omega)
      have c2 : ((2 ^ (m - 1) : Nat) : Int) * 2 ^ e ≤ y * 2 ^ e := Int.mul_le_mul_of_nonneg_right (by omega) (by omega)
      rw [← cast_pow2] at c2 this
      have c3 : ((2 ^ (m - 1) * 2 ^ e : Nat) : Int) ≤ x := by rw [Int.natCast_mul]; omega
      omega
    have c2 : x.toNat < 2 ^ m * 2 ^ e := by
      have h3 : x < (y + 1) * 2 ^ e := by rw [hy]; exact Int.lt_ediv_add_one_mul_self _ hp
      have h4 : (y + 1) * 2 ^ e ≤ ((2 ^ m : Nat) : Int) * 2 ^ e := Int.mul_le_mul_of_nonneg_right (by omega) (by omega)
      rw [← cast_pow2] at h3 h4
      have c3 : x < ((2 ^ m * 2 ^ e : Nat) : Int) := by rw [Int.natCast_mul]; omega
      omega
    rw [← Nat.pow_add] at c1 c2
    have d1 : m - 1 + e ≤ x.toNat.log2 := (Nat.le_log2 (by omega)).2 c1
    have d2 : x.toNat.log2 < m + e := (Nat.log2_lt (by omega)).2 c2
    omega
  clear hM hl a1 a2
  have hb : 65536 ≤ x → x / 65536 < 65536 ∧ 1 ≤ x / 65536 := fun h => by omega
  refine callZ ccOk mixed [.val] Tryz.func200 rfl rfl (by kernel_rfl) fun zwrap zadd zsub zmul zquo zrem zshl zshr zband zbor zbxor zbandn zeq zne zlt zle znot zbeq zbne zmax zmin znat zinb zofN zidx zneq znadd zdif zcut zroom zmkok zlen znth zsetr zisI zgetI zsetI zfit zpart zext zsetg zrep zwide zall zmok zmget zmset zW zth A L F hS hF => ?_
  have s16 : ∀ y, 0 ≤ y → zshr .u32 y 16 = y / 65536 := fun y hy => by rw [show ∀ x, zshr .u32 x 16 = ZI.std.shr .u32 x 16 from fun _ => hS.shr .., shr_std (b := 16) 16 rfl (by decide) hy]; rfl
  have s8 : ∀ y, 0 ≤ y → zshr .u32 y 8 = y / 256 := fun y hy => by rw [show ∀ x, zshr .u32 x 8 = ZI.std.shr .u32 x 8 from fun _ => hS.shr .., shr_std (b := 8) 8 rfl (by decide) hy]; rfl
  have fin : ∀ (T : Abs.Rows) (y : Int) (e : Nat), T = len8rows → y = x / 2 ^ e → 1 ≤ y → y < 256 → e ≤ 24 → ∀ (z : Int), z = e → zle 0 (zwrap .u8 y) = true ∧ zisI .u8 T (znat (zwrap .u8 y)) = true ∧ zwrap .i64 (zadd z (zwrap .i64 (zgetI T (znat (zwrap .u8 y))))) = M := fun T y e hT hy h1 h2 h3 z hz => by
    have hw : zwrap .u8 y = y := by rw [hS.wrap]; exact wrap_u8 (by omega) h2
    have hn : znat y = y.toNat := hS.nat y
    rw [hw, hn]
    refine ⟨by rw [hS.le]; exact decide_eq_true (by omega), by rw [hS.isI]; exact len8_is hT (by omega), ?_⟩
    obtain ⟨m, m1, m2, m3, m4, m5⟩ := len8_key hT (q := zgetI T y.toNat) (hS.getI ..).symm (by omega) (by omega)
    have := key y e m hy m2 m4 m5 h1
    rw [m1, hS.wrap, hS.wrap, hS.add, wrap_i64 (x := (m : Int)) (by omega) (by omega), wrap_i64 (by omega) (by omega)]; omega
  have w8 : zwrap .i64 (zadd 16 8) = 24 := by rw [hS.wrap, hS.add]; rfl
  have w8' : zwrap .i64 (zadd 0 8) = 8 := by rw [hS.wrap, hS.add]; rfl
  cbv
  refine ⟨fun h => ⟨fun h' => ?_, fun h' => ?_⟩, fun h => ⟨fun h' => ?_, fun h' => ?_⟩⟩
  all_goals rw [hS.le] at h
  · have h := of_decide_eq_true h
    rw [s16 x (by omega), hS.le] at h'
    have h' := of_decide_eq_true h'
    rw [s16 x (by omega), s8 _ (by omega), w8]
    generalize hy : x / 65536 / 256 = y
    obtain ⟨f1, f2, f3⟩ := fin _ y 24 (by rfl) (by rw [← hy, Int.ediv_ediv_of_nonneg (by omega)]; rfl) (by omega) (by omega) (by omega) 24 rfl
    refine nd f1 (nd f2 ?_)
    exact fin1 hF (tv_int f3)
  · have h := of_decide_eq_true h
    rw [s16 x (by omega), hS.le] at h'
    have h' := of_decide_eq_false h'
    rw [s16 x (by omega)]
    generalize hy : x / 65536 = y
    obtain ⟨f1, f2, f3⟩ := fin _ y 16 (by rfl) (by rw [← hy]; rfl) (by omega) (by omega) (by omega) 16 rfl
    refine nd f1 (nd f2 ?_)
    exact fin1 hF (tv_int f3)
  · have h := of_decide_eq_false h
    rw [hS.le] at h'
    have h' := of_decide_eq_true h'
    rw [s8 _ (by omega), w8']
    generalize hy : x / 256 = y
    obtain ⟨f1, f2, f3⟩ := fin _ y 8 (by rfl) (by rw [← hy]; rfl) (by omega) (by omega) (by omega) 8 rfl
    refine nd f1 (nd f2 ?_)
    exact fin1 hF (tv_int f3)
  · have h := of_decide_eq_false h
    rw [hS.le] at h'
    have h' := of_decide_eq_false h'
    obtain ⟨f1, f2, f3⟩ := fin _ x 0 (by rfl) (by rw [Int.pow_zero, Int.ediv_one]) (by omega) (by omega) (by omega) 0 rfl
    refine nd f1 (nd f2 ?_)
    exact fin1 hF (tv_int f3)

theorem ilz32_call (x : Int) (h0 : 1 ≤ x) (h1 : x < 4294967296) : ∃ s : Nat, s < 32 ∧ 2147483648 ≤ x * 2 ^ s ∧ x * 2 ^ s < 4294967296 ∧ ACall Tryz.prog 185 [.val (ti .u32 x)] ⟨[.val (ti .i64 (s : Int))], [none]⟩ := by
  obtain ⟨m, ⟨m1, m2⟩, m3, m4, c⟩ := ilen32_call x h0 h1
  have hp := pow2_pos (32 - m)
  have e1 : (2 : Int) ^ (m - 1) * 2 ^ (32 - m) = 2147483648 := by rw [← Int.pow_add, show m - 1 + (32 - m) = 31 by omega]; rfl
  have e2 : (2 : Int) ^ m * 2 ^ (32 - m) = 4294967296 := by rw [← Int.pow_add, show m + (32 - m) = 32 by omega]; rfl
  refine ⟨32 - m, by omega, ?_, ?_, ?_⟩
  · have := Int.mul_le_mul_of_nonneg_right m3 (show (0 : Int) ≤ 2 ^ (32 - m) by omega); omega
  · have := Int.mul_lt_mul_of_pos_right m4 hp; omega
  have hm : ((32 - m : Nat) : Int) = 32 - (m : Int) := by omega
  rw [hm]
  generalize hM : (m : Int) = M at *
  refine callZ ccOk mixed [.val] Tryz.func185 rfl rfl (by kernel_rfl) fun zwrap zadd zsub zmul zquo zrem zshl zshr zband zbor zbxor zbandn zeq zne zlt zle znot zbeq zbne zmax zmin znat zinb zofN zidx zneq znadd zdif zcut zroom zmkok zlen znth zsetr zisI zgetI zsetI zfit zpart zext zsetg zrep zwide zall zmok zmget zmset zW zth A L F hS hF => ?_
  have w : zwrap .i64 (zsub 32 M) = 32 - M := by rw [hS.wrap, hS.sub, wrap_i64 (by omega) (by omega)]
  cbv
  refine ⟨_, hS.call (c), ?_⟩
  cbv
  exact fin1 hF (tv_int w)
end Go.Proofs.YtpgbejgdmgpfjaaGreat
end

section
set_option linter.unusedVariables false
set_option linter.unusedSimpArgs false
set_option maxHeartbeats 8000000
set_option linter.unusedVariables false
set_option linter.unusedSimpArgs false
set_option maxRecDepth 100000
namespace Go.Proofs.YtpgbejgdmgpfjaaGreat
open Go Go.Abs Go.Abs.M Go.Proofs
def idivSt (r s v U Q : Abs.Rows) (ul ql : Nat) (n d j : Int) : St := mkSt 88 [vl r, vl s, .junk, .junk, vnil, vnil, .junk, .junk, vi .i64 n, vi .i64 d, .c (.sl 10 0 ul false), vl v, .c (.sl 14 0 ql false), vi .i64 j] [none, none, none, none, none, none, none, none, none, none, some (.rows 1 U true false), none, none, none, some (.rows 1 Q true false)]

/-- The walk of the long division: what is to be known of the numbers comes as premises. -/
theorem idivide_walk {r s v0 v A2 A3 : Abs.Rows} {U V w1 c : Int} {n la m l1 m1 n1 n' sh : Nat} {lr ls lv lv0 u0 : List Int}
    (hr : r = W .u32 lr) (hs : s = W .u32 ls) (hv0 : v0 = W .u32 lv0) (hv0l : lv0.length = n1) (hv0v : lv0.take n = lv) (hv : v = W .u32 lv) (lrl : lr.length = la) (lsl : ls.length = n) (hsz : la ≤ 549755813888) (hn : 2 ≤ n) (hm : la = n + m) (hl1 : l1 = la + 1) (hm1 : m1 = m + 1) (hn1 : n1 = n + 1) (hn' : n = n' + 1)
    (hw1 : ls.getD n' 0 = w1) (hc : ¬ c < 0) (hu0l : u0.length = l1)
    (llv : lv.length = n) (wlv : Wd lv) (vlv : val lv = V) (htop : 2147483648 ≤ lv.getD (n - 1) 0)
    (hstart : DInv U V n m (m + 1) u0 (List.replicate m1 0))
    (t1 : ACall Tryz.prog 158 [.val (tl r)] ⟨[.val (tl r)], [none]⟩)
    (t2 : ACall Tryz.prog 158 [.val (tl s)] ⟨[.val (tl s)], [none]⟩)
    (cc : ACall Tryz.prog 155 [.val (tl r), .val (tl s)] ⟨[.val (ti .i64 c)], [none, none]⟩)
    (cz : ACall Tryz.prog 185 [.val (ti .u32 w1)] ⟨[.val (ti .i64 (sh : Int))], [none]⟩)
    (c1 : ACall Tryz.prog 186 [.val (tl r), .val (ti .i64 (sh : Int))] ⟨[.own 1 (W .u32 u0)], [none, none]⟩)
    (c2 : ACall Tryz.prog 186 [.val (tl s), .val (ti .i64 (sh : Int))] ⟨[.val (tl v0)], [none, none]⟩)
    (hlast : ∀ u q, DInv U V n m 0 u q → ACall Tryz.prog 158 [.val (tl (W .u32 q))] ⟨[.val (tl A2)], [none]⟩ ∧
      ACall Tryz.prog 188 [.val (tl (W .u32 (u.take n))), .val (ti .i64 (sh : Int))] ⟨[.val (tl A3)], [none, none]⟩) :
    ACall Tryz.prog 162 [.val (tl r), .val (tl s)] ⟨[.val (tl A2), .val (tl A3)], [none, none]⟩ := by
  obtain ⟨SH, hSH⟩ : ∃ SH : Int, SH = sh := ⟨_, rfl⟩
  rw [← hSH] at cz c1 c2
  simp only [← hSH] at hlast
  refine callZ ccOk mixed [.val, .val] Tryz.func162 rfl rfl (by kernel_rfl) fun zwrap zadd zsub zmul zquo zrem zshl zshr zband zbor zbxor zbandn zeq zne zlt zle znot zbeq zbne zmax zmin znat zinb zofN zidx zneq znadd zdif zcut zroom zmkok zlen znth zsetr zisI zgetI zsetI zfit zpart zext zsetg zrep zwide zall zmok zmget zmset zW zth A L F hS hF => ?_
  have z1 : zlen r = la := by rw [hS.len, hr, W_len, lrl]
  have z2 : zlen s = n := by rw [hS.len, hs, W_len, lsl]
  have z3 : zwrap .i64 (zsub (zofN n) 1) = zofN n' := by rw [hS.wrap, hS.sub, hS.ofN, hS.ofN, wrap_i64 (by omega) (by omega)]; omega
  have z4 : zgetI s (znat (zofN n')) = w1 := by rw [hS.getI, hS.nat, hS.ofN, hs, W_getI, Int.toNat_natCast, hw1]
  have z8 : zwrap .i64 (zsub (zofN la) (zofN n)) = zsub (zofN (m + 1)) 1 := by rw [hS.wrap, hS.sub, hS.ofN, hS.ofN, hS.sub, hS.ofN, wrap_i64 (by omega) (by omega)]; omega
  have z9 : zwrap .i64 (zadd (zsub (zofN (m + 1)) 1) 1) = zofN m1 := by rw [hS.wrap, hS.add, hS.sub, hS.ofN, hS.ofN, wrap_i64 (by omega) (by omega)]; omega
  have znt : ∀ k, znat (zofN k) = k := fun k => by rw [hS.nat, hS.ofN]; omega
  have hrep : ∀ k, zrep k [.v (.int .u32 0)] = zW .u32 (List.replicate k 0) := fun k => by rw [hS.rep, hS.W]; exact W_rep ..
  have o1 : zlt c 0 = false := by rw [hS.lt]; exact decide_eq_false hc
  have o2 : zeq (zofN n) 1 = false := by rw [hS.eq, hS.ofN]; exact decide_eq_false (by omega)
  have o3 : zle 0 (zofN n') = true := by rw [hS.le, hS.ofN]; exact decide_eq_true (by omega)
  have o4 : zisI .u32 s (znat (zofN n')) = true := by rw [hS.isI, znt, hs, W_isI]; exact decide_eq_true (by omega)
  have o6 : zcut 0 (zofN n) (zlen v0) = true := by rw [hS.cut, hS.ofN, hS.len, hv0, W_len]; exact decide_eq_true (by omega)
  have o8 : zwide 1 v0 = true := by rw [hS.wide, hv0]; exact W_wide _ _
  have o9 : zpart v0 0 n = v := by rw [hS.part, hv0, W_part, List.drop_zero, hv0v, hv]
  have hcap : (m1 : Int) * 4 ≤ 140737488355328 := by omega
  have o10 : zmkok (zofN m1) (zofN m1) 4 = true := by rw [hS.mkok, hS.ofN]; exact decide_eq_true ⟨Int.natCast_nonneg m1, Int.le_refl _, by unfold capBytes; omega⟩
  have z10 : zlen (zW .u32 u0) = l1 := by rw [hS.len, hS.W, W_len, hu0l]
  rw [← hS.W] at c1
  clear hr hs lrl lsl hw1 hc hv0 hv0l hv0v
  cbv
  refine ⟨_, hS.call (t1), ?_⟩
  cbv
  refine ⟨_, hS.call (t2), ?_⟩
  cbv
  refine ⟨_, hS.call (cc), ?_⟩
  cbv
  rw [z2, z3, z4]
  refine bF (o1) ?_
  refine bF (o2) ?_
  refine nd (o3) ?_
  refine nd (o4) ?_
  refine ⟨_, hS.call (cz), ?_⟩
  cbv
  refine ⟨_, hS.call (c1), ?_⟩
  cbv
  refine ⟨_, hS.call (c2), ?_⟩
  cbv
  rw [z1, z8, z9, znt, znt, hrep, o9, z10]
  refine nd o6 (nd o8 (nd o10 ?_))
  clear z2 z3 z4 z8 z9 o1 o2 o3 o4 o6 o8 o9 o10 cc c1 c2 z1 z10 t1 t2 cz
  refine loopZ ccOk mixed hS (fun (k : Nat) s' => ∃ (u q : List Int), DInv U V n m k u q ∧ s' = idivSt r s v (zW .u32 u) (zW .u32 q) l1 m1 (zofN n) SH (zsub (zofN k) 1)) (n := m + 1)
    (s0 := idivSt r s v (zW .u32 u0) (zW .u32 (List.replicate m1 0)) l1 m1 (zofN n) SH (zsub (zofN (m + 1)) 1)) (le_of ?_ ?_) rfl (by show 2 ≤ 15; omega) ?_ ?_
  · simp [leT, idivSt, mkSt, vi, vl, vnil]
  · simp [leH, idivSt, mkSt]
  · exact ⟨_, _, by rw [← hm1] at hstart ⊢; exact hstart, rfl⟩
  · rintro k _ ⟨u, q, hI, rfl⟩
    cases k with
    | zero =>
      have hul := hI.ul
      have hql := hI.ql
      obtain ⟨x1, x2⟩ := hlast u q hI
      have hz : zle 0 (zsub (zofN 0) 1) = false := by rw [hS.le, hS.sub, hS.ofN]; rfl
      have e10 : zfit 0 m1 (zW .u32 q) = true := by rw [hS.fit, hS.W, W_len]; exact decide_eq_true (by omega)
      have e11 : zpart (zW .u32 q) 0 m1 = W .u32 q := by rw [hS.part, hS.W, W_part, List.drop_zero, List.take_of_length_le (by omega)]
      have e12 : zcut 0 (zofN n) l1 = true := by rw [hS.cut, hS.ofN]; exact decide_eq_true (by omega)
      have e13 : zfit 0 n (zW .u32 u) = true := by rw [hS.fit, hS.W, W_len]; exact decide_eq_true (by omega)
      have e14 : zpart (zW .u32 u) 0 n = W .u32 (u.take n) := by rw [hS.part, hS.W, W_part, List.drop_zero]
      clear hlast hI
      generalize W .u32 (u.take n) = ut at *
      generalize W .u32 q = qt at *
      cbv
      refine bF hz ?_
      rw [e11]
      refine nd e10 ⟨_, hS.call x1, ?_⟩
      cbv
      rw [znt, e14]
      refine nd e12 (nd e13 ⟨_, hS.call x2, ?_⟩)
      cbv
      exact hF _ (ResLe.refl _)
    | succ j =>
      obtain ⟨g, qd, b, x1, hg, g0, g1, q0, q1, hb, hx1, lx1, wx1, hjm, hul, hql, pl, pw, ht, hf⟩ := div_round hI hn llv wlv vlv htop
      obtain ⟨x, lx, hneg, hpos, hI2⟩ : ∃ x : List Int, x.length = n + 1 ∧ (val (dpart n j u) - g * val lv < 0 → g - 1 = qd ∧ x = wds (n + 1) (val (dpart n j u) - g * val lv + val lv)) ∧ (¬ val (dpart n j u) - g * val lv < 0 → g = qd ∧ x = wds (n + 1) (val (dpart n j u) - g * val lv)) ∧ DInv U V n m j (setRg u j x) (q.set j qd) := by
        cases b with
        | true =>
          obtain ⟨a1, x2, a2, a3, a4⟩ := ht rfl
          refine ⟨x2, a3, fun _ => ⟨a1, ?_⟩, fun h => absurd (of_decide_eq_true hb.symm) h, a4⟩
          rw [a2, lx1, hx1, wds_back]
        | false =>
          obtain ⟨a1, a2⟩ := hf rfl
          exact ⟨x1, lx1, fun h => absurd h (of_decide_eq_false hb.symm), fun _ => ⟨a1, hx1⟩, a2⟩
      have cq := iquotientWord_call (r := zW .u32 (dpart n j u)) (s := v) (u := dpart n j u) (v := lv) (x := x) (n := n) g qd (by rw [hS.W]) hv pl llv hn (by omega) pw wlv htop hg g0 g1 ⟨q0, q1⟩ hneg hpos
      rw [← hS.W] at cq
      clear hg hb hx1 ht hf hneg hpos
      have hi : zsub (zofN (j + 1)) 1 = (j : Int) := by rw [hS.sub, hS.ofN]; omega
      have hz : zle 0 (zsub (zofN (j + 1)) 1) = true := by rw [hS.le, hi]; exact decide_eq_true (by omega)
      have hw1' : zwrap .i64 (zsub (zsub (zofN (j + 1)) 1) 1) = zsub (zofN j) 1 := by rw [hi, hS.wrap, hS.sub, hS.sub, hS.ofN, wrap_i64 (by omega) (by omega)]
      have y1 : zwrap .i64 (zadd (zwrap .i64 (zadd (zsub (zofN (j + 1)) 1) (zofN n))) 1) = zofN (j + n1) := by
        rw [hi, hS.wrap, hS.wrap, hS.add, hS.add, hS.ofN, hS.ofN, wrap_i64 (x := (j : Int) + n) (by omega) (by omega), wrap_i64 (by omega) (by omega)]; omega
      have y2 : zidx 0 (zsub (zofN (j + 1)) 1) = j := by rw [hS.idx, hi]; omega
      have y3 : zdif (zofN (j + n1)) (zsub (zofN (j + 1)) 1) = n1 := by rw [hS.dif, hi, hS.ofN]; omega
      have y4 : ∀ u' : List Int, zpart (zW .u32 u') j n1 = zW .u32 (dpart n j u') := fun u' => by rw [hS.part, hS.W, W_part, hn1]; rfl
      have y5 : ∀ u' x : List Int, zsetg (zW .u32 u') j (zW .u32 x) = zW .u32 (setRg u' j x) := fun u' x => by rw [hS.setg, hS.W, W_setg]; rfl
      have y6 : zcut (zsub (zofN (j + 1)) 1) (zofN (j + n1)) l1 = true := by rw [hS.cut, hi, hS.ofN]; exact decide_eq_true (by omega)
      have y7 : zfit j n1 (zW .u32 u) = true := by rw [hS.fit, hS.W, W_len]; exact decide_eq_true (by omega)
      have y8 : zneq (zlen (zW .u32 x)) n1 = true := by rw [hS.neq, hS.len, hS.W, W_len, hn1]; exact decide_eq_true lx
      have y13 : zinb (zsub (zofN (j + 1)) 1) m1 = true := by rw [hS.inb, hi]; exact decide_eq_true (by omega)
      have y14 : zisI .u32 (zW .u32 q) j = true := by rw [hS.isI, hS.W, W_isI]; exact decide_eq_true (by omega)
      have y15 : ∀ x, zsetI .u32 (zW .u32 q) j x = zW .u32 (q.set j x) := fun x => by rw [hS.setI, hS.W, W_set]
      clear hI hi hlast
      cbv
      refine bT hz ?_
      rw [y1, y2, y3, y4]
      refine nd y6 (nd y7 ⟨_, hS.call cq, ?_⟩)
      cbv
      rw [y2, y5, y15, hw1']
      refine nd y8 (nd y13 (nd y14 ?_))
      exact again (s' := idivSt r s v (zW .u32 (setRg u j x)) (zW .u32 (q.set j qd)) l1 m1 (zofN n) SH (zsub (zofN j) 1)) (m := j) (by simp [leT, idivSt, mkSt, vi, vl, vnil]) (by simp [leH, idivSt, mkSt]) rfl (by show 2 ≤ 15; omega) (by omega) ⟨_, _, hI2, rfl⟩
end Go.Proofs.YtpgbejgdmgpfjaaGreat
end

section
set_option linter.unusedVariables false
set_option linter.unusedSimpArgs false
set_option maxHeartbeats 8000000
set_option linter.unusedVariables false
set_option linter.unusedSimpArgs false
set_option maxRecDepth 100000
namespace Go.Proofs.YtpgbejgdmgpfjaaGreat
open Go Go.Abs Go.Abs.M Go.Proofs

theorem itrimM {n : Nat} {r : Abs.Rows} (hr : IsM n r) (hl : nl n ≤ 2199023255552) : ACall Tryz.prog 158 [.val (tl r)] ⟨[.val (tl r)], [none]⟩ := by
  have h := itrim_call hr hl (dg_wd n)
  rw [dg_val, Int.toNat_natCast, ← hr] at h
  exact h

theorem idivide_long {r s : Abs.Rows} {a b : Nat} (hr : IsM a r) (hs : IsM b s) (h2 : 2 ≤ nl b) (hab : b ≤ a) (hsz : nl a ≤ 549755813888) :
    ACall Tryz.prog 162 [.val (tl r), .val (tl s)] ⟨[.val (tl (W .u32 (dg (a / b)))), .val (tl (W .u32 (dg (a % b))))], [none, none]⟩ := by
  obtain ⟨n, hn⟩ : ∃ n, n = nl b := ⟨_, rfl⟩
  obtain ⟨la, hla⟩ : ∃ la, la = nl a := ⟨_, rfl⟩
  have hmono := nl_mono hab
  obtain ⟨m, hm⟩ : ∃ m, la = n + m := ⟨la - n, by omega⟩
  obtain ⟨n', hn'⟩ : ∃ n', n = n' + 1 := ⟨n - 1, by omega⟩
  have lb : (dg b).length = n := hn.symm
  have laa : (dg a).length = la := hla.symm
  obtain ⟨w1, hw1⟩ : ∃ w1, w1 = (dg b).getD n' 0 := ⟨_, rfl⟩
  have hw1b := (dg_wd b).get n'
  rw [← hw1] at hw1b
  have htw := top_word (dg_wd b) (n := n') (by omega)
  rw [← hw1, dg_val] at htw
  have hw1p : 1 ≤ w1 := by
    rcases dg_tr b with h | h
    · rw [h] at lb; simp at lb; omega
    · rw [lb, hn', Nat.add_sub_cancel, ← hw1] at h; omega
  obtain ⟨sh, s1, s2, s3, cz⟩ := ilz32_call w1 hw1p hw1b.2
  have hbpos : 0 < (b : Int) := by
    rcases Nat.eq_zero_or_pos b with h | h
    · subst h; simp [dg_zero] at lb; omega
    · omega
  obtain ⟨d, hd⟩ : ∃ d : Int, d = 2 ^ sh := ⟨_, rfl⟩
  have d1 : 1 ≤ d := by have := pow2_pos sh; omega
  have d2 : d ≤ 2147483648 := by have := pow2_le s1; omega
  rw [← hd] at s2 s3
  obtain ⟨V, hV⟩ : ∃ V, V = d * b := ⟨_, rfl⟩
  have hV0 : 0 < V := by rw [hV]; exact Int.mul_pos (by omega) hbpos
  have hpow : (4294967296 : Int) ^ n = 4294967296 ^ n' * 4294967296 := by rw [hn', Int.pow_succ]
  have hp' := pow_pos' n'
  have hVlt : V < 4294967296 ^ n := by
    have x1 : d * (b : Int) < d * ((w1 + 1) * 4294967296 ^ n') := Int.mul_lt_mul_of_pos_left htw.2 (by omega)
    have x2 : d * ((w1 + 1) * (4294967296 : Int) ^ n') = (w1 * d + d) * 4294967296 ^ n' := by grind
    have x3 : (w1 * d + d) * (4294967296 : Int) ^ n' ≤ 4294967296 * 4294967296 ^ n' := by
      refine Int.mul_le_mul_of_nonneg_right ?_ (by omega)
      have : (w1 + 1) * d ≤ 4294967296 := by
        -- w1 * d is a multiple of d below 2^32, and d divides 2^32
        obtain ⟨e, he⟩ : ∃ e : Int, 4294967296 = e * d := ⟨2 ^ (32 - sh), by rw [hd, ← Int.pow_add, show 32 - sh + sh = 32 by omega]; rfl⟩
        have y1 : w1 < e := by
          rcases Int.lt_or_le w1 e with h | h
          · exact h
          · exfalso
            have := Int.mul_le_mul_of_nonneg_right h (show 0 ≤ d by omega)
            omega
        have := Int.mul_le_mul_of_nonneg_right (show w1 + 1 ≤ e by omega) (show 0 ≤ d by omega)
        omega
      have y2 : (w1 + 1) * d = w1 * d + d := by grind
      omega
    rw [hpow, hV]; omega
  have hVge : 2147483648 * 4294967296 ^ n' ≤ V := by
    have x1 : w1 * 4294967296 ^ n' * d ≤ (b : Int) * d := Int.mul_le_mul_of_nonneg_right htw.1 (by omega)
    have x2 : 2147483648 * 4294967296 ^ n' ≤ w1 * d * 4294967296 ^ n' := Int.mul_le_mul_of_nonneg_right s2 (by omega)
    have x3 : w1 * d * (4294967296 : Int) ^ n' = w1 * 4294967296 ^ n' * d := by grind
    rw [hV, Int.mul_comm d]; omega
  have hpow1 : (4294967296 : Int) ^ n < 4294967296 ^ (n + 1) := by rw [Int.pow_succ]; have := pow_pos' n; omega
  obtain ⟨lv0, hlv0⟩ : ∃ lv0, lv0 = wds (n + 1) V := ⟨_, rfl⟩
  have llv0 : lv0.length = n + 1 := by rw [hlv0, wds_length]
  have wlv0 : Wd lv0 := by rw [hlv0]; exact wds_wd _ _
  have vlv0 : val lv0 = V := by rw [hlv0]; exact wds_eq (by omega) (by omega)
  obtain ⟨lv, hlv⟩ : ∃ lv, lv0.take n = lv := ⟨_, rfl⟩
  have vlv : val lv = V := by rw [← hlv, (val_take_eq wlv0 (p := n) (by rw [vlv0]; exact hVlt)).1, vlv0]
  have wlv : Wd lv := by rw [← hlv]; exact wlv0.take n
  have llv : lv.length = n := by rw [← hlv]; simp; omega
  have htop : 2147483648 ≤ lv.getD (n - 1) 0 := by
    have t := (top_word wlv (n := n') (by omega)).2
    rw [vlv] at t
    rw [hn', Nat.add_sub_cancel]
    rcases Int.lt_or_le (lv.getD n' 0) 2147483648 with h | h
    · exfalso
      have := Int.mul_le_mul_of_nonneg_right (show lv.getD n' 0 + 1 ≤ 2147483648 by omega) (show (0 : Int) ≤ 4294967296 ^ n' by omega)
      omega
    · exact h
  obtain ⟨u0, hu0⟩ : ∃ u0, u0 = wds (la + 1) (d * a) := ⟨_, rfl⟩
  have hda : 0 ≤ d * (a : Int) := Int.mul_nonneg (by omega) (by omega)
  have hdalt : d * (a : Int) < 4294967296 ^ (la + 1) := by
    have x1 := lt_nl a
    rw [← hla] at x1
    have x2 : d * (a : Int) ≤ 4294967296 * a := Int.mul_le_mul_of_nonneg_right (by omega) (by omega)
    rw [Int.pow_succ]
    omega
  have vu0 : val u0 = d * a := by rw [hu0]; exact wds_eq hda hdalt
  have lu0 : u0.length = la + 1 := by rw [hu0, wds_length]
  have wu0 : Wd u0 := by rw [hu0]; exact wds_wd _ _
  have t1 := itrimM hr (by omega)
  have t2 := itrimM hs (by omega)
  have cc := icompare_call (cmpI a b) hr hs (by omega) (by omega) (dg_wd _) (dg_wd _) (dg_tr _) (dg_tr _) (by rw [dg_val, dg_val])
  have c1 := ishiftLeft_own sh hr (by omega) (dg_wd _) s1
  rw [laa, dg_val, ← hd, ← hu0] at c1
  have c2 := ishiftLeft_call sh hs (by omega) (dg_wd _) s1
  rw [lb, dg_val, ← hd, ← hV, ← hlv0] at c2
  have hUlt : d * (a : Int) < V * 4294967296 ^ (m + 1) := by
    have x1 := lt_nl a
    rw [← hla, hm] at x1
    have x2 : (4294967296 : Int) ^ (n + m) = 4294967296 ^ n' * 4294967296 ^ (m + 1) := by rw [← Int.pow_add]; congr 1; omega
    have x3 : w1 * 4294967296 ^ n' * 4294967296 ^ (m + 1) ≤ (b : Int) * 4294967296 ^ (m + 1) := Int.mul_le_mul_of_nonneg_right htw.1 (by have := pow_pos' (m + 1); omega)
    have x4 : 1 * (4294967296 ^ n' * 4294967296 ^ (m + 1)) ≤ w1 * (4294967296 ^ n' * (4294967296 : Int) ^ (m + 1)) := Int.mul_le_mul_of_nonneg_right hw1p (by have := Int.mul_pos (pow_pos' n') (pow_pos' (m + 1)); omega)
    have x5 : w1 * 4294967296 ^ n' * 4294967296 ^ (m + 1) = w1 * (4294967296 ^ n' * (4294967296 : Int) ^ (m + 1)) := by grind
    have x6 : d * (a : Int) < d * (b * 4294967296 ^ (m + 1)) := Int.mul_lt_mul_of_pos_left (by omega) (by omega)
    have x7 : d * ((b : Int) * 4294967296 ^ (m + 1)) = d * b * 4294967296 ^ (m + 1) := by grind
    rw [hV]; omega
  have hstart := DInv.start (n := n) (m := m) (by rw [lu0, hm]) wu0 vu0 hUlt
  refine idivide_walk hr hs rfl llv0 hlv rfl laa lb (by omega) (by omega) hm rfl rfl rfl hn' hw1.symm (c := cmpI a b) (by unfold cmpI; rw [if_neg (by omega)]; split <;> omega) lu0 llv wlv vlv htop hstart t1 t2 cc cz c1 c2 fun u q hI => ?_
  rw [hV] at hI
  obtain ⟨l1, l2⟩ := hI.last (by omega) hbpos
  have vu0 := val_nonneg hI.uw
  have hul := hI.ul
  have hql := hI.ql
  have hlt := hI.lt
  rw [List.drop_zero] at hlt
  have hut := (val_take_eq hI.uw (p := n) (by omega)).1
  have t2 := itrim_call (r := W .u32 q) rfl (by omega) hI.qw
  have t3 := ishiftRight_call (r := W .u32 (u.take n)) sh rfl (by simp; omega) (hI.uw.take n) s1
  rw [hut, ← hd, l2] at t3
  rw [l1] at t2
  exact ⟨t2, t3⟩

/-- Division of absolute values. -/
theorem idivide_call {r s : Abs.Rows} {a b : Nat} (hr : IsM a r) (hs : IsM b s) (hb : b ≠ 0) (hsz : nl a ≤ 549755813888) (hszb : nl b ≤ 549755813888) :
    ∃ x y, IsM (a / b) x ∧ IsM (a % b) y ∧ ACall Tryz.prog 162 [.val (tl r), .val (tl s)] ⟨[.val (tl x), .val (tl y)], [none, none]⟩ := by
  have cc := icompare_call (cmpI a b) hr hs (by unfold nl at hsz; omega) (by unfold nl at hszb; omega) (dg_wd _) (dg_wd _) (dg_tr _) (dg_tr _) (by rw [dg_val, dg_val])
  have t1 := itrimM hr (by omega)
  have t2 := itrimM hs (by omega)
  have tc := iclone_call hr (by unfold nl at hsz; omega)
  by_cases hab : a < b
  · refine ⟨[], r, by rw [Nat.div_eq_of_lt hab]; rfl, by rw [Nat.mod_eq_of_lt hab]; exact hr, ?_⟩
    rw [cmpI_lt (by omega)] at cc
    refine callZ ccOk mixed [.val, .val] Tryz.func162 rfl rfl (by kernel_rfl) fun zwrap zadd zsub zmul zquo zrem zshl zshr zband zbor zbxor zbandn zeq zne zlt zle znot zbeq zbne zmax zmin znat zinb zofN zidx zneq znadd zdif zcut zroom zmkok zlen znth zsetr zisI zgetI zsetI zfit zpart zext zsetg zrep zwide zall zmok zmget zmset zW zth A L F hS hF => ?_
    have z0 : zlt (-1) 0 = true := by rw [hS.lt]; rfl
    cbv
    refine ⟨_, hS.call (t1), ?_⟩
    cbv
    refine ⟨_, hS.call (t2), ?_⟩
    cbv
    refine ⟨_, hS.call (cc), ?_⟩
    cbv
    refine bT (z0) ?_
    refine ⟨_, hS.call (tc), ?_⟩
    cbv
    exact fin2w hF (TLe.drop _ _) (TVLe.refl _)
  · by_cases h1 : nl b = 1
    · obtain ⟨x, hx⟩ : ∃ x, IsM (a / b) x := ⟨_, rfl⟩
      obtain ⟨y, hy⟩ : ∃ y, IsM (a % b) y := ⟨_, rfl⟩
      refine ⟨x, y, hx, hy, ?_⟩
      have hblt : (b : Int) < 4294967296 := by have := lt_nl b; rw [h1] at this; omega
      have hdgb : dg b = [(b : Int)] := by
        rw [dg_pos hb, show b % 4294967296 = b by omega, show b / 4294967296 = 0 by omega, dg_zero]
      have hmod : (a : Int) % b < b := Int.emod_lt_of_pos _ (by omega)
      have hmod0 : 0 ≤ (a : Int) % b := Int.emod_nonneg _ (by omega)
      have c1 := idivideSmall_call b ((a : Int) / b) ((a : Int) % b) hr (by unfold nl at hsz; omega) (dg_wd _) (by omega) hblt (by rw [dg_val]) (by rw [dg_val])
      have c2 := iwords_call ((a : Int) % b) hmod0 (by omega)
      have q1 : W .u32 (dg ((a : Int) / b).toNat) = x := hx.symm
      have q2 : W .u32 (dg ((a : Int) % b).toNat) = y := hy.symm
      rw [q1] at c1
      rw [q2] at c2
      obtain ⟨c, hc, hc0⟩ : ∃ c, cmpI (a : Int) b = c ∧ ¬ c < 0 := ⟨_, rfl, by
        unfold cmpI
        rw [if_neg (by omega)]
        split <;> omega⟩
      rw [hc] at cc
      generalize (a : Int) % b = e at *
      generalize hbv : (b : Int) = d at *
      refine callZ ccOk mixed [.val, .val] Tryz.func162 rfl rfl (by kernel_rfl) fun zwrap zadd zsub zmul zquo zrem zshl zshr zband zbor zbxor zbandn zeq zne zlt zle znot zbeq zbne zmax zmin znat zinb zofN zidx zneq znadd zdif zcut zroom zmkok zlen znth zsetr zisI zgetI zsetI zfit zpart zext zsetg zrep zwide zall zmok zmget zmset zW zth A L F hS hF => ?_
      have z1 : zlt c 0 = false := by rw [hS.lt]; exact decide_eq_false hc0
      have z2 : zeq (zofN (zlen s)) 1 = true := by rw [hS.len, hs, W_len, hdgb, hS.ofN, hS.eq]; rfl
      have z3 : zisI .u32 s (znat 0) = true := by rw [hS.isI, hs, hS.nat, hdgb]; rfl
      have z4 : zwrap .u64 (zgetI s (znat 0)) = d := by rw [hS.getI, hs, hS.nat, W_getI, hdgb, hS.wrap]; exact wrap_u64 (by show 0 ≤ d; omega) (by show d < _; omega)
      have z5 : zle 0 0 = true := by rw [hS.le]; rfl
      cbv
      refine ⟨_, hS.call (t1), ?_⟩
      cbv
      refine ⟨_, hS.call (t2), ?_⟩
      cbv
      refine ⟨_, hS.call (cc), ?_⟩
      cbv
      rw [z4]
      refine bF (z1) ?_
      refine bT (z2) ?_
      refine nd (z5) ?_
      refine nd (z3) ?_
      refine ⟨_, hS.call (c1), ?_⟩
      cbv
      refine ⟨_, hS.call (c2), ?_⟩
      cbv
      exact hF _ (ResLe.refl _)
    · have h0 : nl b ≠ 0 := fun h => hb (nl_zero.1 h)
      exact ⟨_, _, rfl, rfl, idivide_long hr hs (by omega) (by omega) hsz⟩
end Go.Proofs.YtpgbejgdmgpfjaaGreat
end

section
set_option linter.unusedVariables false
set_option linter.unusedSimpArgs false
set_option maxHeartbeats 8000000
set_option linter.unusedVariables false
set_option linter.unusedSimpArgs false
set_option maxRecDepth 100000
namespace Go.Proofs.YtpgbejgdmgpfjaaGreat
open Go Go.Abs Go.Abs.M Go.Proofs

/-- The cells of an integer, 'minus zero' too. -/
def IsS (x : Int) (s : Bool) (r : Abs.Rows) : Prop := IsM x.natAbs r ∧ ((s = true → x ≤ 0) ∧ (s = false → 0 ≤ x))

theorem IsS.of {x : Int} {s : Bool} {r : Abs.Rows} (h : IsI x s r) : IsS x s r := by
  refine ⟨h.m, fun hs => ?_, fun hs => ?_⟩
  · rw [h.s] at hs; have := of_decide_eq_true hs; omega
  · rw [h.s] at hs; have := of_decide_eq_false hs; omega

theorem IsS.neg {x : Int} {s : Bool} {r : Abs.Rows} (h : IsS x s r) : IsS (-x) (!s) r := by
  obtain ⟨h1, h2, h3⟩ := h
  refine ⟨by rw [Int.natAbs_neg]; exact h1, fun hs => ?_, fun hs => ?_⟩
  · have := h3 (by simpa using hs); omega
  · have := h2 (by simpa using hs); omega

/-- What a sign and an absolute value make. -/
theorem isignedS {x : Int} {r : Abs.Rows} (s : Bool) (hx : IsS x s r) (hl : nl x.natAbs ≤ 2199023255552) : ∃ u, IsI x u r ∧ ACall Tryz.prog 160 [.val (tb s), .val (tl r)] ⟨[.val (.agg (iT u r))], [none, none]⟩ := by
  obtain ⟨h1, h2, h3⟩ := hx
  refine ⟨decide (x < 0), ⟨rfl, h1⟩, isignedM s _ h1 hl ?_⟩
  cases s with
  | true => have := h2 rfl; rw [Bool.true_and, Bool.eq_iff_iff]; simp; omega
  | false => have := h3 rfl; rw [Bool.false_and]; exact decide_eq_false (by omega)

theorem iof_call (n : Int) (h1 : -9223372036854775808 ≤ n) (h2 : n < 9223372036854775808) : ∃ u w, IsI n u w ∧ ACall Tryz.prog 142 [.val (ti .i64 n)] ⟨[.val (.agg (iT u w))], [none]⟩ := by
  obtain ⟨w, hw⟩ : ∃ w, IsM n.natAbs w := ⟨_, rfl⟩
  have hl : nl n.natAbs ≤ 2 := nl_le_of (by omega)
  have hwords := iwords_call n.natAbs (by omega) (by omega)
  rw [Int.toNat_natCast, show W .u32 (dg n.natAbs) = w from hw.symm] at hwords
  obtain ⟨u, hu, cs⟩ := isignedS (x := n) (decide (n < 0)) ⟨hw, fun h => by have := of_decide_eq_true h; omega, fun h => by have := of_decide_eq_false h; omega⟩ (by omega)
  refine ⟨u, w, hu, ?_⟩
  obtain ⟨M, hM⟩ : ∃ M : Int, M = n.natAbs := ⟨_, rfl⟩
  obtain ⟨D, hD⟩ : ∃ D, D = decide (n < 0) := ⟨_, rfl⟩
  rw [← hM] at hwords
  rw [← hD] at cs
  refine callZ ccOk mixed [.val] Tryz.func142 rfl rfl (by kernel_rfl) fun zwrap zadd zsub zmul zquo zrem zshl zshr zband zbor zbxor zbandn zeq zne zlt zle znot zbeq zbne zmax zmin znat zinb zofN zidx zneq znadd zdif zcut zroom zmkok zlen znth zsetr zisI zgetI zsetI zfit zpart zext zsetg zrep zwide zall zmok zmget zmset zW zth A L F hS hF => ?_
  have hlt : zlt n 0 = D := by rw [hD]; exact hS.lt ..
  have e1 : D = true → zwrap .u64 (zsub 0 (zwrap .u64 n)) = M := fun h => by
    rw [hD] at h
    have := of_decide_eq_true h
    rw [hS.wrap, hS.wrap, hS.sub, wrap_u64m, wrap_u64m]; omega
  have e2 : D = false → zwrap .u64 n = M := fun h => by
    rw [hD] at h
    have := of_decide_eq_false h
    rw [hS.wrap, wrap_u64 (by omega) (by omega)]; omega
  clear hM hD hw hl hu
  cbv
  rw [hlt]
  refine ⟨fun h => ?_, fun h => ?_⟩
  · rw [e1 h]
    refine ⟨_, hS.call (hwords), ?_⟩
    cbv
    refine ⟨_, hS.call (cs), ?_⟩
    cbv
    exact hF _ (ResLe.refl _)
  · rw [e2 h]
    refine ⟨_, hS.call (hwords), ?_⟩
    cbv
    refine ⟨_, hS.call (cs), ?_⟩
    cbv
    exact hF _ (ResLe.refl _)

theorem isign_call {x : Int} {s : Bool} {r : Abs.Rows} (c : Int) (hx : IsI x s r) (hc : c = cmpI x 0) : ACall Tryz.prog 118 [.val (.agg (iT s r))] ⟨[.val (ti .i64 c)], [none]⟩ := by
  have hl : r.length = nl x.natAbs := hx.m.len
  have hz := @nl_zero x.natAbs
  refine callZ ccOk mixed [.val] Tryz.func118 rfl rfl (by kernel_rfl) fun zwrap zadd zsub zmul zquo zrem zshl zshr zband zbor zbxor zbandn zeq zne zlt zle znot zbeq zbne zmax zmin znat zinb zofN zidx zneq znadd zdif zcut zroom zmkok zlen znth zsetr zisI zgetI zsetI zfit zpart zext zsetg zrep zwide zall zmok zmget zmset zW zth A L F hS hF => ?_
  have e1 : zeq (zofN (zlen r)) 0 = decide (x = 0) := by
    rw [hS.eq, hS.ofN, hS.len, hl]
    by_cases h : x = 0
    · rw [decide_eq_true h]; exact decide_eq_true (by omega)
    · rw [decide_eq_false h]; exact decide_eq_false (by omega)
  cbv
  rw [e1]
  refine ⟨fun h => fin1 hF (tv_int ?_), fun h => ⟨fun h' => fin1 hF (tv_int ?_), fun h' => fin1 hF (tv_int ?_)⟩⟩
  · rw [hc, of_decide_eq_true h]; rfl
  · rw [hx.s] at h'; rw [hc, cmpI_lt (of_decide_eq_true h')]
  · rw [hx.s] at h'
    have := of_decide_eq_false h'
    have := of_decide_eq_false h
    rw [hc, cmpI_gt (by omega)]

theorem icmp_call {x y : Int} {s t : Bool} {r q : Abs.Rows} (c : Int) (hx : IsI x s r) (hy : IsI y t q) (hc : c = cmpI x y) (h1 : nl x.natAbs ≤ 2199023255552) (h2 : nl y.natAbs ≤ 2199023255552) :
    ACall Tryz.prog 114 [.val (.agg (iT s r)), .val (.agg (iT t q))] ⟨[.val (ti .i64 c)], [none, none]⟩ := by
  have c1 := icompare_call (cmpI x.natAbs y.natAbs) hx.m hy.m h1 h2 (dg_wd _) (dg_wd _) (dg_tr _) (dg_tr _) (by rw [dg_val, dg_val])
  have c2 := icompare_call (cmpI y.natAbs x.natAbs) hy.m hx.m h2 h1 (dg_wd _) (dg_wd _) (dg_tr _) (dg_tr _) (by rw [dg_val, dg_val])
  have s1 := isign_call (cmpI x 0) hx rfl
  have s2 := isign_call (cmpI y 0) hy rfl
  have b : ∀ z : Int, (z < 0 → cmpI z 0 = -1) ∧ (z = 0 → cmpI z 0 = 0) ∧ (0 < z → cmpI z 0 = 1) := fun z => ⟨fun h => cmpI_lt h, fun h => by rw [h]; rfl, fun h => cmpI_gt h⟩
  have bx := b x
  have by' := b y
  have n1 : x < 0 → y < 0 → cmpI y.natAbs x.natAbs = c := fun h h' => by rw [show (y.natAbs : Int) = -y by omega, show (x.natAbs : Int) = -x by omega, cmpI_neg, hc]
  have n2 : ¬ x < 0 → ¬ y < 0 → cmpI x.natAbs y.natAbs = c := fun h h' => by rw [show (y.natAbs : Int) = y by omega, show (x.natAbs : Int) = x by omega, hc]
  have n3 : x < y → -1 = c := fun h => by rw [hc, cmpI_lt h]
  have n4 : y < x → 1 = c := fun h => by rw [hc, cmpI_gt h]
  generalize cmpI x.natAbs y.natAbs = u at *
  generalize cmpI y.natAbs x.natAbs = v at *
  generalize cmpI x 0 = a at *
  generalize cmpI y 0 = d at *
  refine callZ ccOk mixed [.val] Tryz.func114 rfl rfl (by kernel_rfl) fun zwrap zadd zsub zmul zquo zrem zshl zshr zband zbor zbxor zbandn zeq zne zlt zle znot zbeq zbne zmax zmin znat zinb zofN zidx zneq znadd zdif zcut zroom zmkok zlen znth zsetr zisI zgetI zsetI zfit zpart zext zsetg zrep zwide zall zmok zmget zmset zW zth A L F hS hF => ?_
  have e1 : zne a d = decide (a ≠ d) := hS.ne ..
  have e2 : zlt a d = decide (a < d) := hS.lt ..
  have e3 : zlt a 0 = decide (a < 0) := hS.lt ..
  cbv
  refine ⟨_, hS.call (s1), ?_⟩
  cbv
  refine ⟨_, hS.call (s2), ?_⟩
  cbv
  refine ⟨fun h => ⟨fun h' => fin1 hF (tv_int (n3 ?_)), fun h' => fin1 hF (tv_int (n4 ?_))⟩, fun h => ⟨fun h' => ⟨_, hS.call c2, ?_⟩, fun h' => ⟨_, hS.call c1, ?_⟩⟩⟩
  all_goals rw [e1] at h
  · rw [e2] at h'; have := of_decide_eq_true h'; omega
  · rw [e2] at h'; have := of_decide_eq_false h'; have := of_decide_eq_true h; omega
  · rw [e3] at h'; have h1 := of_decide_eq_true h'; have h2 := of_decide_eq_false h
    cbv
    exact fin1 hF (tv_int (n1 (by omega) (by omega)))
  · rw [e3] at h'; have h1 := of_decide_eq_false h'; have h2 := of_decide_eq_false h
    cbv
    exact fin1 hF (tv_int (n2 (by omega) (by omega)))

theorem ineg_call {x : Int} {s : Bool} {r : Abs.Rows} (hx : IsI x s r) (h1 : nl x.natAbs ≤ 2199023255552) : ∃ u w, IsI (-x) u w ∧ ACall Tryz.prog 169 [.val (.agg (iT s r))] ⟨[.val (.agg (iT u w))], [none]⟩ := by
  have cl := iclone_call hx.m (by unfold nl at h1; omega)
  obtain ⟨u, hu, cs⟩ := isignedS (!s) (IsS.of hx).neg (by rw [Int.natAbs_neg]; exact h1)
  refine ⟨u, r, hu, ?_⟩
  refine callZ ccOk mixed [.val] Tryz.func169 rfl rfl (by kernel_rfl) fun zwrap zadd zsub zmul zquo zrem zshl zshr zband zbor zbxor zbandn zeq zne zlt zle znot zbeq zbne zmax zmin znat zinb zofN zidx zneq znadd zdif zcut zroom zmkok zlen znth zsetr zisI zgetI zsetI zfit zpart zext zsetg zrep zwide zall zmok zmget zmset zW zth A L F hS hF => ?_
  have e : znot s = !s := hS.not s
  cbv
  refine ⟨_, hS.call (cl), ?_⟩
  cbv
  rw [e]
  refine ⟨_, hS.call (cs), ?_⟩
  cbv
  exact hF _ (ResLe.refl _)

theorem iadd_callS {x y : Int} {s t : Bool} {r q : Abs.Rows} (hx : IsS x s r) (hy : IsS y t q) (h1 : nl x.natAbs ≤ 549755813888) (h2 : nl y.natAbs ≤ 549755813888) :
    ∃ u w, IsI (x + y) u w ∧ ACall Tryz.prog 139 [.val (.agg (iT s r)), .val (.agg (iT t q))] ⟨[.val (.agg (iT u w))], [none, none]⟩ := by
  have hb : nl (x + y).natAbs ≤ 1099511627776 := by
    have a := nl_mono (show (x + y).natAbs ≤ x.natAbs + y.natAbs by omega)
    have b := nl_add x.natAbs y.natAbs
    omega
  obtain ⟨w, hw⟩ : ∃ w, IsM (x + y).natAbs w := ⟨_, rfl⟩
  obtain ⟨xm, xs, xs'⟩ := hx
  obtain ⟨ym, ys, ys'⟩ := hy
  by_cases hst : s = t
  · have ca := isum_call xm ym (by unfold nl at h1; omega) (by unfold nl at h2; omega) (dg_wd _) (dg_wd _)
    simp only [dg_val] at ca
    have e1 : W .u32 (dg ((x.natAbs : Int) + y.natAbs).toNat) = w := by
      rw [hw]; congr 2
      subst hst
      cases s with
      | true => have := xs rfl; have := ys rfl; omega
      | false => have := xs' rfl; have := ys' rfl; omega
    rw [e1] at ca
    obtain ⟨u, hu, cs⟩ := isignedS (x := x + y) s ⟨hw, fun h => by subst hst; have := xs h; have := ys h; omega, fun h => by subst hst; have := xs' h; have := ys' h; omega⟩ (by omega)
    refine ⟨u, w, hu, ?_⟩
    refine callZ ccOk mixed [.val] Tryz.func139 rfl rfl (by kernel_rfl) fun zwrap zadd zsub zmul zquo zrem zshl zshr zband zbor zbxor zbandn zeq zne zlt zle znot zbeq zbne zmax zmin znat zinb zofN zidx zneq znadd zdif zcut zroom zmkok zlen znth zsetr zisI zgetI zsetI zfit zpart zext zsetg zrep zwide zall zmok zmget zmset zW zth A L F hS hF => ?_
    have e : zbeq s t = true := by rw [hS.beq]; simpa using hst
    cbv
    refine bT (e) ?_
    refine ⟨_, hS.call (ca), ?_⟩
    cbv
    refine ⟨_, hS.call (cs), ?_⟩
    cbv
    exact hF _ (ResLe.refl _)
  · have cc := icompare_call (cmpI x.natAbs y.natAbs) xm ym (by unfold nl at h1; omega) (by unfold nl at h2; omega) (dg_wd _) (dg_wd _) (dg_tr _) (dg_tr _) (by rw [dg_val, dg_val])
    by_cases hlt : x.natAbs < y.natAbs
    · have c := idifference_call ym xm (by unfold nl at h2; omega) (show nl x.natAbs ≤ nl y.natAbs from nl_mono (by omega)) (dg_wd _) (dg_wd _) (by rw [dg_val, dg_val]; omega)
      simp only [dg_val] at c
      have e1 : W .u32 (dg ((y.natAbs : Int) - x.natAbs).toNat) = w := by
        rw [hw]; congr 2
        cases s <;> cases t <;> first | exact absurd rfl hst | skip
        · have := xs' rfl; have := ys rfl; omega
        · have := xs rfl; have := ys' rfl; omega
      rw [e1] at c
      obtain ⟨u, hu, cs⟩ := isignedS (x := x + y) t ⟨hw, fun h => by
        cases s <;> cases t <;> first | exact absurd rfl hst | (cases h; done) | skip
        have := xs' rfl; have := ys rfl; omega, fun h => by
        cases s <;> cases t <;> first | exact absurd rfl hst | (cases h; done) | skip
        have := xs rfl; have := ys' rfl; omega⟩ (by omega)
      rw [cmpI_lt (by omega)] at cc
      refine ⟨u, w, hu, ?_⟩
      refine callZ ccOk mixed [.val] Tryz.func139 rfl rfl (by kernel_rfl) fun zwrap zadd zsub zmul zquo zrem zshl zshr zband zbor zbxor zbandn zeq zne zlt zle znot zbeq zbne zmax zmin znat zinb zofN zidx zneq znadd zdif zcut zroom zmkok zlen znth zsetr zisI zgetI zsetI zfit zpart zext zsetg zrep zwide zall zmok zmget zmset zW zth A L F hS hF => ?_
      have e : zbeq s t = false := by rw [hS.beq]; simpa using hst
      have e2 : zle 0 (-1) = false := by rw [hS.le]; rfl
      cbv
      refine bF (e) ?_
      refine ⟨_, hS.call (cc), ?_⟩
      cbv
      refine bF (e2) ?_
      refine ⟨_, hS.call (c), ?_⟩
      cbv
      refine ⟨_, hS.call (cs), ?_⟩
      cbv
      exact hF _ (ResLe.refl _)
    · have c := idifference_call xm ym (by unfold nl at h1; omega) (show nl y.natAbs ≤ nl x.natAbs from nl_mono (by omega)) (dg_wd _) (dg_wd _) (by rw [dg_val, dg_val]; omega)
      simp only [dg_val] at c
      have e1 : W .u32 (dg ((x.natAbs : Int) - y.natAbs).toNat) = w := by
        rw [hw]; congr 2
        cases s <;> cases t <;> first | exact absurd rfl hst | skip
        · have := xs' rfl; have := ys rfl; omega
        · have := xs rfl; have := ys' rfl; omega
      rw [e1] at c
      obtain ⟨u, hu, cs⟩ := isignedS (x := x + y) s ⟨hw, fun h => by
        cases s <;> cases t <;> first | exact absurd rfl hst | (cases h; done) | skip
        have := xs rfl; have := ys' rfl; omega, fun h => by
        cases s <;> cases t <;> first | exact absurd rfl hst | (cases h; done) | skip
        have := xs' rfl; have := ys rfl; omega⟩ (by omega)
      obtain ⟨v, hv, hv0⟩ : ∃ v, cmpI (x.natAbs : Int) y.natAbs = v ∧ 0 ≤ v := ⟨_, rfl, by
        unfold cmpI
        rw [if_neg (by omega)]
        split <;> omega⟩
      rw [hv] at cc
      refine ⟨u, w, hu, ?_⟩
      refine callZ ccOk mixed [.val] Tryz.func139 rfl rfl (by kernel_rfl) fun zwrap zadd zsub zmul zquo zrem zshl zshr zband zbor zbxor zbandn zeq zne zlt zle znot zbeq zbne zmax zmin znat zinb zofN zidx zneq znadd zdif zcut zroom zmkok zlen znth zsetr zisI zgetI zsetI zfit zpart zext zsetg zrep zwide zall zmok zmget zmset zW zth A L F hS hF => ?_
      have e : zbeq s t = false := by rw [hS.beq]; simpa using hst
      have e2 : zle 0 v = true := by rw [hS.le]; exact decide_eq_true hv0
      cbv
      refine bF (e) ?_
      refine ⟨_, hS.call (cc), ?_⟩
      cbv
      refine bT (e2) ?_
      refine ⟨_, hS.call (c), ?_⟩
      cbv
      refine ⟨_, hS.call (cs), ?_⟩
      cbv
      exact hF _ (ResLe.refl _)

theorem iadd_call {x y : Int} {s t : Bool} {r q : Abs.Rows} (hx : IsI x s r) (hy : IsI y t q) (h1 : nl x.natAbs ≤ 549755813888) (h2 : nl y.natAbs ≤ 549755813888) :
    ∃ u w, IsI (x + y) u w ∧ ACall Tryz.prog 139 [.val (.agg (iT s r)), .val (.agg (iT t q))] ⟨[.val (.agg (iT u w))], [none, none]⟩ := iadd_callS (.of hx) (.of hy) h1 h2

theorem imul_call {x y : Int} {s t : Bool} {r q : Abs.Rows} (hx : IsI x s r) (hy : IsI y t q) (h1 : nl x.natAbs ≤ 549755813888) (h2 : nl y.natAbs ≤ 549755813888) :
    ∃ u w, IsI (x * y) u w ∧ ACall Tryz.prog 156 [.val (.agg (iT s r)), .val (.agg (iT t q))] ⟨[.val (.agg (iT u w))], [none, none]⟩ := by
  obtain ⟨w, hw⟩ : ∃ w, IsM (x * y).natAbs w := ⟨_, rfl⟩
  have hb : nl (x * y).natAbs ≤ 1099511627776 := by
    rw [Int.natAbs_mul]
    have b := nl_mul x.natAbs y.natAbs
    omega
  have hs := hx.s
  have ht := hy.s
  have c := iproduct_call hx.m hy.m (by unfold nl at h1; omega) (by unfold nl at h2; omega) (dg_wd _) (dg_wd _)
  simp only [dg_val] at c
  have e1 : W .u32 (dg ((x.natAbs : Int) * y.natAbs).toNat) = w := by
    rw [hw]; congr 2
    rw [Int.natAbs_mul]
    have : ((x.natAbs : Int) * y.natAbs) = ((x.natAbs * y.natAbs : Nat) : Int) := by push_cast; rfl
    omega
  rw [e1] at c
  obtain ⟨u, hu, cs⟩ := isignedS (x := x * y) (!(s == t)) ⟨hw, fun h => by
      rw [hs, ht] at h
      by_cases h1 : x < 0 <;> by_cases h2 : y < 0 <;> simp [h1, h2] at h
      · exact Int.mul_nonpos_of_nonpos_of_nonneg (by omega) (by omega)
      · exact Int.mul_nonpos_of_nonneg_of_nonpos (by omega) (by omega), fun h => by
      rw [hs, ht] at h
      by_cases h1 : x < 0 <;> by_cases h2 : y < 0 <;> simp [h1, h2] at h
      · exact Int.mul_nonneg_of_nonpos_of_nonpos (by omega) (by omega)
      · exact Int.mul_nonneg (by omega) (by omega)⟩ (by omega)
  refine ⟨u, w, hu, ?_⟩
  refine callZ ccOk mixed [.val] Tryz.func156 rfl rfl (by kernel_rfl) fun zwrap zadd zsub zmul zquo zrem zshl zshr zband zbor zbxor zbandn zeq zne zlt zle znot zbeq zbne zmax zmin znat zinb zofN zidx zneq znadd zdif zcut zroom zmkok zlen znth zsetr zisI zgetI zsetI zfit zpart zext zsetg zrep zwide zall zmok zmget zmset zW zth A L F hS hF => ?_
  have e : zbne s t = !(s == t) := hS.bne s t
  cbv
  refine ⟨_, hS.call (c), ?_⟩
  cbv
  rw [e]
  refine ⟨_, hS.call (cs), ?_⟩
  cbv
  exact hF _ (ResLe.refl _)
end Go.Proofs.YtpgbejgdmgpfjaaGreat
end

section
set_option linter.unusedVariables false
set_option linter.unusedSimpArgs false
set_option maxHeartbeats 8000000
set_option linter.unusedVariables false
set_option linter.unusedSimpArgs false
set_option maxRecDepth 100000
namespace Go.Proofs.YtpgbejgdmgpfjaaGreat
open Go Go.Abs Go.Abs.M Go.Proofs

theorem idivmod_call {x y : Int} {s t : Bool} {r q : Abs.Rows} (hx : IsI x s r) (hy : IsI y t q) (hy0 : y ≠ 0) (h1 : nl x.natAbs ≤ 274877906944) (h2 : nl y.natAbs ≤ 274877906944) :
    ∃ u w p, IsI (x / y) u w ∧ IsI (x % y) false p ∧ ACall Tryz.prog 172 [.val (.agg (iT s r)), .val (.agg (iT t q))] ⟨[.val (.agg (iT u w)), .val (.agg (iT false p)), .val (ti .i64 0)], [none, none]⟩ := by
  obtain ⟨a1, a2, ha1, ha2, cd⟩ := idivide_call hx.m hy.m (by omega) (by omega) (by omega)
  obtain ⟨m1, m2, m3⟩ := divmod_abs (x := x) hy0
  obtain ⟨u, hu⟩ : ∃ u, u = decide (x / y < 0) := ⟨_, rfl⟩
  obtain ⟨w, hw⟩ : ∃ w, IsM (x / y).natAbs w := ⟨_, rfl⟩
  obtain ⟨p, hp⟩ : ∃ p, IsM (x % y).natAbs p := ⟨_, rfl⟩
  have hmod0 := Int.emod_nonneg x hy0
  have hyn : y.natAbs ≠ 0 := by omega
  have hdle : x.natAbs / y.natAbs ≤ x.natAbs := Nat.div_le_self ..
  have hmlt : x.natAbs % y.natAbs < y.natAbs := Nat.mod_lt _ (by omega)
  have hs := hx.s
  have ht := hy.s
  have hbq : nl (x / y).natAbs ≤ 549755813888 := by
    have a := nl_mono (show (x / y).natAbs ≤ x.natAbs + 1 by
      by_cases h : x < 0 ∧ x.natAbs % y.natAbs ≠ 0
      · have := (m2 h).1; omega
      · have := (m1 h).1; omega)
    have b := nl_add x.natAbs 1
    have c : nl 1 ≤ 1 := nl_le_of (by omega)
    omega
  have hbr : nl (x % y).natAbs ≤ 549755813888 := by
    have a := nl_mono (show (x % y).natAbs ≤ y.natAbs by
      by_cases h : x < 0 ∧ x.natAbs % y.natAbs ≠ 0
      · have := (m2 h).2; omega
      · have := (m1 h).2; omega)
    omega
  have cm1 := isignedM (!(s == t)) u hw (by omega) (by
    rw [hu, hs, ht, Bool.eq_iff_iff]
    by_cases h : x < 0 <;> by_cases h' : y < 0 <;> simp [h, h'] at m3 ⊢ <;> omega)
  have cm2 := isignedM false false hp (by omega) rfl
  have hql : q.length = nl y.natAbs := hy.m.len
  have hql0 : nl y.natAbs ≠ 0 := fun h => hyn (nl_zero.1 h)
  have ha2l : a2.length = nl (x.natAbs % y.natAbs) := ha2.len
  have ha2z := @nl_zero (x.natAbs % y.natAbs)
  have ctr := itrimM hy.m (by omega)
  refine ⟨u, w, p, ⟨hu, hw⟩, ⟨(decide_eq_false (by omega)).symm, hp⟩, ?_⟩
  by_cases hc : x < 0 ∧ x.natAbs % y.natAbs ≠ 0
  · obtain ⟨n1, n2⟩ := m2 hc
    have ca := isum_call (s := W .u32 [1]) ha1 rfl (by have := nl_mono hdle; unfold nl at *; omega) (by simp) (dg_wd _) (Wd.cons (by omega) (by omega) Wd.nil)
    have ct := idifference_call hy.m ha2 (by unfold nl at *; omega) (by have := nl_mono (Nat.le_of_lt hmlt); unfold nl at *; omega) (dg_wd _) (dg_wd _) (by rw [dg_val, dg_val]; omega)
    rw [dg_val, dg_val] at ct
    rw [dg_val, show val [1] = 1 from rfl] at ca
    have e1 : W .u32 (dg (((x.natAbs / y.natAbs : Nat) : Int) + 1).toNat) = w := by rw [hw]; congr 2; omega
    have e2 : W .u32 (dg ((y.natAbs : Int) - ((x.natAbs % y.natAbs : Nat) : Int)).toNat) = p := by rw [hp]; congr 2; omega
    rw [e1] at ca
    rw [e2] at ct
    have hs' : s = true := by rw [hs]; exact decide_eq_true hc.1
    subst hs'
    clear m1 m2 m3 hbq hbr
    refine callZ ccOk mixed [.val, .val, .val] Tryz.func172 rfl rfl (by kernel_rfl) fun zwrap zadd zsub zmul zquo zrem zshl zshr zband zbor zbxor zbandn zeq zne zlt zle znot zbeq zbne zmax zmin znat zinb zofN zidx zneq znadd zdif zcut zroom zmkok zlen znth zsetr zisI zgetI zsetI zfit zpart zext zsetg zrep zwide zall zmok zmget zmset zW zth A L F hS hF => ?_
    have z1 : zeq (zofN (zlen q)) 0 = false := by rw [hS.len, hql, hS.ofN, hS.eq]; exact decide_eq_false (by omega)
    have z2 : zlt 0 (zofN (zlen a2)) = true := by rw [hS.len, ha2l, hS.ofN, hS.lt]; exact decide_eq_true (by omega)
    have z3 : zpart [[.v (.int .u32 1)]] 0 1 = W .u32 [1] := by rw [hS.part]; rfl
    have z4 : zfit 0 1 [[.v (.int .u32 1)]] = true := by rw [hS.fit]; rfl
    cbv
    refine ⟨_, hS.call ctr, ?_⟩
    cbv
    refine bF z1 ⟨_, hS.call cd, ?_⟩
    cbv
    refine bT rfl (bT z2 (nd z4 ?_))
    rw [z3]
    refine ⟨_, hS.call ca, ?_⟩
    cbv
    refine ⟨_, hS.call ct, ?_⟩
    cbv
    rw [hS.bne]
    refine ⟨_, hS.call cm1, ?_⟩
    cbv
    refine ⟨_, hS.call cm2, ?_⟩
    cbv
    exact hF _ (ResLe.refl _)
  · obtain ⟨n1, n2⟩ := m1 hc
    obtain rfl : w = a1 := by rw [hw, ha1, n1]
    obtain rfl : p = a2 := by rw [hp, ha2, n2]; rfl
    clear m1 m2 m3 hbq hbr
    refine callZ ccOk mixed [.val, .val, .val] Tryz.func172 rfl rfl (by kernel_rfl) fun zwrap zadd zsub zmul zquo zrem zshl zshr zband zbor zbxor zbandn zeq zne zlt zle znot zbeq zbne zmax zmin znat zinb zofN zidx zneq znadd zdif zcut zroom zmkok zlen znth zsetr zisI zgetI zsetI zfit zpart zext zsetg zrep zwide zall zmok zmget zmset zW zth A L F hS hF => ?_
    have z1 : zeq (zofN (zlen q)) 0 = false := by rw [hS.len, hql, hS.ofN, hS.eq]; exact decide_eq_false (by omega)
    have z2 : s = true → zlt 0 (zofN (zlen p)) = false := fun h => by
      rw [hS.len, ha2l, hS.ofN, hS.lt]
      rw [h] at hs
      have := of_decide_eq_true hs.symm
      exact decide_eq_false (by omega)
    have fin : A 160 [.val (tb (!(s == t))), .val (tl w)] ⟨[.val (.agg (iT u w))], [none, none]⟩ := hS.call cm1
    cbv
    refine ⟨_, hS.call ctr, ?_⟩
    cbv
    refine bF z1 ⟨_, hS.call cd, ?_⟩
    cbv
    refine ⟨fun h => bF (z2 h) ?_, fun h => ?_⟩
    all_goals
      rw [hS.bne]
      refine ⟨_, fin, ?_⟩
      cbv
      refine ⟨_, hS.call cm2, ?_⟩
      cbv
      exact hF _ (ResLe.refl _)

def ivalSt (r : Abs.Rows) (m len i : Int) : St := mkSt 22 [vl r, .junk, vi .u64 0, vi .u64 m, .junk, .junk, vi .i64 len, vi .i64 i] [none]
theorem ivalue_call {l : List Int} {r : Abs.Rows} (n : Int) (hr : r = W .u32 l) (hl : l.length ≤ 2) (hw : Wd l) (hn : n = val l) : ACall Tryz.prog 159 [.val (tl r)] ⟨[.val (ti .u64 n)], [none]⟩ := by
  obtain ⟨N, hN⟩ : ∃ N, N = l.length := ⟨_, rfl⟩
  refine callZ ccOk mixed [.val] Tryz.func159 rfl rfl (by kernel_rfl) fun zwrap zadd zsub zmul zquo zrem zshl zshr zband zbor zbxor zbandn zeq zne zlt zle znot zbeq zbne zmax zmin znat zinb zofN zidx zneq znadd zdif zcut zroom zmkok zlen znth zsetr zisI zgetI zsetI zfit zpart zext zsetg zrep zwide zall zmok zmget zmset zW zth A L F hS hF => ?_
  have h1 : zlen r = N := by rw [hS.len, hr, W_len, hN]
  have L2 := zlt_nat hS.lt hS.ofN
  have A1 : ∀ (k : Nat), k < N → ∃ (a s m' : Int) (k1 : Nat), zgetI r (znat (zofN k)) = a ∧ zwrap .u64 a = a ∧ zwrap .i64 (zmul 32 (zofN k)) = s ∧ zle 0 s = true ∧ zbor .u64 (val (l.take k)) (zshl .u64 a s) = m' ∧ zwrap .i64 (zadd (zofN k) 1) = zofN k1 ∧ zisI .u32 r (znat (zofN k)) = true ∧ zle 0 (zofN k) = true ∧ k1 = k + 1 ∧ m' = val (l.take k1) := fun k hk => by
    have ga := hw.get k
    have hv := val_take_succ' l k
    have hv0 := val_nonneg (hw.take k)
    have hv1 := val_lt (hw.take k)
    have e2 : (k : Int) = 0 ∨ (k : Int) = 1 := by omega
    refine ⟨l.getD k 0, ((32 * k : Nat) : Int), val (l.take (k + 1)), k + 1, by rw [hS.getI, hS.nat, hS.ofN, hr, W_getI, Int.toNat_natCast], by rw [hS.wrap, wrap_u64 (by omega) (by omega)], ?_, ?_, ?_, ?_, ?_, ?_, rfl, rfl⟩
    · rw [hS.wrap, hS.mul, hS.ofN, wrap_i64 (by omega) (by omega)]; omega
    · rw [hS.le]; exact decide_eq_true (by omega)
    · rw [show ∀ x y, zshl .u64 x y = ZI.std.shl .u64 x y from fun _ _ => hS.shl .., shl_std (32 * k) rfl (by show 32 * k ≤ 64; omega), show ∀ x y, zbor .u64 x y = ZI.std.bor .u64 x y from fun _ _ => hS.bor ..]
      rw [List.length_take] at hv1
      rcases (show k = 0 ∨ k = 1 by omega) with rfl | rfl
      · have z : val (l.take 0) = 0 := by simp [val]
        rw [z] at hv ⊢
        generalize l.getD 0 0 = g at *
        rw [wrap_u64 (by simp; omega) (by simp; omega), bor_lo 0 ga.1 (Int.le_refl 0) (by simp) (by simp; omega), hv]; simp
      · rw [Nat.min_eq_left (by omega)] at hv1
        rw [wrap_u64 (by omega) (by omega), bor_lo 32 ga.1 hv0 (by simpa using hv1) (by omega), hv]; omega
    · rw [hS.wrap, hS.add, hS.ofN, hS.ofN, wrap_i64 (by omega) (by omega)]; omega
    · rw [hS.isI, hr, hS.nat, hS.ofN, W_isI]; exact decide_eq_true (by omega)
    · rw [hS.le, hS.ofN]; exact decide_eq_true (by omega)
  cbv
  refine loopZ ccOk mixed hS (fun (j : Nat) s' => ∃ (k : Nat) (m : Int), k + j = N ∧ m = val (l.take k) ∧ s' = ivalSt r m (zofN N) (zofN k)) (n := N) (s0 := ivalSt r 0 (zofN N) (zofN 0)) (le_of ?_ ?_) rfl (Nat.le_refl 1) ?_ ?_
  · simp [leT, ivalSt, mkSt, vi, vl, hS.ofN, h1]
  · simp [leH, ivalSt, mkSt]
  · exact ⟨0, 0, by omega, by simp [val], rfl⟩
  · rintro j _ ⟨k, m, hk, hm, rfl⟩
    rcases Nat.lt_or_ge k N with hkn | hkn
    · obtain ⟨a, s, m', k1, E1, E2, E3, E4, E5, E6, E7, E8, hk1, hm'⟩ := A1 k hkn
      rw [← hm] at E5
      have e6 : zlt (zofN k) (zofN N) = true := (L2 k N).trans (decide_eq_true hkn)
      cbv
      refine bT e6 ?_
      rw [E1, E2, E3, E5, E6]
      refine nd E8 (nd E7 (nd E4 ?_))
      exact again (s' := ivalSt r m' (zofN N) (zofN k1)) (m := j - 1) (by simp [leT, ivalSt, mkSt, vi, vl]) (by simp [leH, ivalSt, mkSt]) rfl (Nat.le_refl 1) (by omega) ⟨k1, m', by omega, hm', rfl⟩
    · obtain rfl : k = N := by omega
      have e6 : zlt (zofN k) (zofN k) = false := (L2 k k).trans (decide_eq_false (Nat.lt_irrefl k))
      have hmn : m = n := by rw [hm, hn, List.take_of_length_le (by omega)]
      cbv
      exact bF e6 (fin1 hF (tv_int hmn))

def igcdSt (a : Bool) (b : Abs.Rows) (c : Bool) (d x y : Abs.Rows) : St := mkSt 53 [.junk, .junk, .c (.ptr 2 0 0), .c (.ptr 3 0 0), .c (.ptr 4 0 0), vl x, vl y] [none, none, some (.var [.t (.v (.bool a)), .t (.lst false b)]), some (.var [.t (.v (.bool c)), .t (.lst false d)]), some (.var [.t (.v (.bool false)), .t (.lst true [])])]
def igcd2St (a : Bool) (b : Abs.Rows) (c : Bool) (d : Abs.Rows) (m n : Int) : St := mkSt 53 [.junk, .junk, .c (.ptr 2 0 0), .c (.ptr 3 0 0), .c (.ptr 4 0 0), .junk, .junk, vi .u64 m, vi .u64 n] [none, none, some (.var [.t (.v (.bool a)), .t (.lst false b)]), some (.var [.t (.v (.bool c)), .t (.lst false d)]), some (.var [.t (.v (.bool false)), .t (.lst true [])])]
theorem igcd_call {x y : Int} {s t : Bool} {r q : Abs.Rows} (hx : IsI x s r) (hy : IsI y t q) (h1 : nl x.natAbs ≤ 274877906944) (h2 : nl y.natAbs ≤ 274877906944) :
    ∃ w, IsI (Int.gcd x y) false w ∧ ACall Tryz.prog 120 [.val (.agg (iT s r)), .val (.agg (iT t q))] ⟨[.val (.agg (iT false w))], [none, none]⟩ := by
  obtain ⟨w, hg⟩ : ∃ w, IsM (Int.gcd x y) w := ⟨_, rfl⟩
  have hb : nl (Int.gcd x y) ≤ 2199023255552 := by
    by_cases h : x = 0
    · subst h
      have : Int.gcd 0 y = y.natAbs := by simp [Int.gcd]
      rw [this]; omega
    · have : Int.gcd x y ≤ x.natAbs := Nat.gcd_le_left _ (by omega)
      have := nl_mono this
      omega
  refine ⟨w, ⟨(decide_eq_false (by omega)).symm, hg⟩, ?_⟩
  have cw := isignedM false false hg hb rfl
  have ct := itrimM hx.m (by omega)
  have ct2 := itrimM hy.m (by omega)
  have cl := iclone_call hx.m (by unfold nl at h1; omega)
  have cl2 := iclone_call hy.m (by unfold nl at h2; omega)
  have hr := hx.m
  have hs := hy.m
  clear hx hy
  have hgg : Int.gcd x y = Nat.gcd x.natAbs y.natAbs := rfl
  rw [hgg] at hg hb
  clear hgg
  generalize x.natAbs = a at *
  generalize y.natAbs = b at *
  refine callZ ccOk mixed [.val] Tryz.func120 rfl rfl (by kernel_rfl) fun zwrap zadd zsub zmul zquo zrem zshl zshr zband zbor zbxor zbandn zeq zne zlt zle znot zbeq zbne zmax zmin znat zinb zofN zidx zneq znadd zdif zcut zroom zmkok zlen znth zsetr zisI zgetI zsetI zfit zpart zext zsetg zrep zwide zall zmok zmget zmset zW zth A L F hS hF => ?_
  cbv
  refine ⟨_, hS.call (ct), ?_⟩
  cbv
  refine ⟨_, hS.call (cl), ?_⟩
  cbv
  refine ⟨_, hS.call (ct2), ?_⟩
  cbv
  refine ⟨_, hS.call (cl2), ?_⟩
  cbv
  refine loopZ ccOk mixed hS (fun (m : Nat) s' => ∃ (c : Nat) (x y : Abs.Rows), IsM c x ∧ IsM m y ∧ nl c ≤ 274877906944 ∧ nl m ≤ 274877906944 ∧ Nat.gcd c m = Nat.gcd a b ∧ s' = igcdSt s r t q x y) (n := b) (s0 := igcdSt s r t q r q) (le_of ?_ ?_) rfl (by show 2 ≤ 5; omega) ?_ ?_
  · simp [leT, igcdSt, mkSt, vl, vnil]
  · simp [leH, igcdSt, mkSt]
  · exact ⟨a, r, q, hr, hs, h1, h2, rfl, rfl⟩
  · rintro m _ ⟨c, x, y, hx, hy, l1, l2, hgc, rfl⟩
    have hmz := @nl_zero m
    have hxl : zlen x = nl c := by rw [hS.len, hx.len]
    have hyl : zlen y = nl m := by rw [hS.len, hy.len]
    have e1 : zlt 0 (zofN (zlen y)) = decide (m ≠ 0) := by
      rw [hyl, hS.lt, hS.ofN]
      by_cases h : m = 0
      · rw [decide_eq_false (show ¬ m ≠ 0 by omega)]; exact decide_eq_false (by omega)
      · rw [decide_eq_true h]; exact decide_eq_true (by omega)
    have e2 : zle (zofN (zlen x)) 2 = decide (nl c ≤ 2) := by
      rw [hxl, hS.le, hS.ofN]
      by_cases h : nl c ≤ 2
      · rw [decide_eq_true h]; exact decide_eq_true (by omega)
      · rw [decide_eq_false h]; exact decide_eq_false (by omega)
    have e3 : zle (zofN (zlen y)) 2 = decide (nl m ≤ 2) := by
      rw [hyl, hS.le, hS.ofN]
      by_cases h : nl m ≤ 2
      · rw [decide_eq_true h]; exact decide_eq_true (by omega)
      · rw [decide_eq_false h]; exact decide_eq_false (by omega)
    have hdiv : m ≠ 0 → ∃ p q, IsM (c / m) p ∧ IsM (c % m) q ∧ ACall Tryz.prog 162 [.val (tl x), .val (tl y)] ⟨[.val (tl p), .val (tl q)], [none, none]⟩ := fun h => idivide_call hx hy h (by omega) (by omega)
    have hend : m = 0 → x = w := fun h => by
      subst h
      rw [Nat.gcd_zero_right] at hgc
      rw [hx, hg, hgc]
    by_cases hm0 : m = 0
    · rw [hend hm0] at *
      cbv
      refine bF (by rw [e1]; exact decide_eq_false (by omega)) ?_
      refine ⟨_, hS.call (cw), ?_⟩
      cbv
      exact hF _ (ResLe.refl _)
    · by_cases hsh : nl c ≤ 2 ∧ nl m ≤ 2
      · obtain ⟨k1, k2⟩ := hsh
        have b1 := lt_nl c
        have b2 := lt_nl m
        have b3 := ipow_le k1
        have b4 := ipow_le k2
        obtain ⟨C, hC⟩ : ∃ C : Int, C = c := ⟨_, rfl⟩
        obtain ⟨M, hM⟩ : ∃ M : Int, M = m := ⟨_, rfl⟩
        have n1 := ivalue_call C hx k1 (dg_wd _) (by rw [dg_val, hC])
        have n2 := ivalue_call M hy k2 (dg_wd _) (by rw [dg_val, hM])
        have hgb : Nat.gcd c m < 18446744073709551616 := by
          have := Nat.gcd_le_right c (Nat.pos_of_ne_zero hm0); omega
        have n4 : ∀ g : Nat, g = Nat.gcd a b → ∀ G : Int, G = g → ACall Tryz.prog 161 [.val (ti .u64 G)] ⟨[.val (tl w)], [none]⟩ := fun g hgv G hG => by
          have := iwords_call G (by omega) (by rw [hG, hgv, ← hgc]; omega)
          rw [hG, Int.toNat_natCast, hgv, ← show w = W .u32 (dg (Nat.gcd a b)) from hg, ← hgv, ← hG] at this
          exact this
        have hcb : c < 18446744073709551616 := by omega
        have hmb : m < 18446744073709551616 := by omega
        clear b1 b2 b3 b4 l1 l2
        cbv
        refine bT (by rw [e1]; exact decide_eq_true hm0) (bT (by rw [e2]; exact decide_eq_true k1) (bT (by rw [e3]; exact decide_eq_true k2) ⟨_, hS.call n1, ?_⟩))
        cbv
        refine ⟨_, hS.call n2, ?_⟩
        cbv
        refine loopZ ccOk mixed hS (fun (j : Nat) s' => ∃ c' : Nat, c' < 18446744073709551616 ∧ j < 18446744073709551616 ∧ Nat.gcd c' j = Nat.gcd a b ∧ s' = igcd2St s r t q (zofN c') (zofN j)) (n := m) (s0 := igcd2St s r t q (zofN c) (zofN m)) (le_of ?_ ?_) rfl (by show 2 ≤ 5; omega) ?_ ?_
        · simp [leT, igcd2St, mkSt, vi, hS.ofN, hC, hM]
        · simp [leH, igcd2St, mkSt]
        · exact ⟨c, hcb, hmb, hgc, rfl⟩
        · rintro j _ ⟨c', hc', hj, hgc', rfl⟩
          have f1 : 0 < j → zrem (zofN c') (zofN j) = zofN (c' % j) := fun h => by rw [hS.rem, hS.ofN, hS.ofN, hS.ofN, Int.tmod_eq_emod_of_nonneg (by omega)]; rfl
          have f2 : zlt 0 (zofN j) = decide (0 < j) := by
            rw [hS.lt, hS.ofN]
            by_cases h : 0 < j
            · rw [decide_eq_true h]; exact decide_eq_true (by omega)
            · rw [decide_eq_false h]; exact decide_eq_false (by omega)
          have f3 : 0 < j → zne (zofN j) 0 = true := fun h => by rw [hS.ne, hS.ofN]; exact decide_eq_true (by omega)
          have f4 : j = 0 → ACall Tryz.prog 161 [.val (ti .u64 (zofN c'))] ⟨[.val (tl w)], [none]⟩ := fun h => by
            subst h
            rw [Nat.gcd_zero_right] at hgc'
            exact n4 c' hgc' _ (hS.ofN _)
          cbv
          refine ⟨fun h => ?_, fun h => ?_⟩
          all_goals rw [f2] at h
          · have h := of_decide_eq_true h
            rw [f1 h]
            refine nd (f3 h) ?_
            refine again (s' := igcd2St s r t q (zofN j) (zofN (c' % j))) (m := c' % j) (by simp [leT, igcd2St, mkSt, vi]) (by simp [leH, igcd2St, mkSt]) rfl (by show 2 ≤ 5; omega) (Nat.mod_lt _ h) ⟨j, hj, ?_, ?_, rfl⟩
            · have := Nat.mod_lt c' h; omega
            · rw [← hgc', Nat.gcd_comm c' j, Nat.gcd_rec j c', Nat.gcd_comm]
          · have h := of_decide_eq_false h
            refine ⟨_, hS.call (f4 (by omega)), ?_⟩
            cbv
            refine ⟨_, hS.call (cw), ?_⟩
            cbv
            exact hF _ (ResLe.refl _)
      · obtain ⟨p, q', _, hq, cd⟩ := hdiv hm0
        have nx : ∃ (c' : Nat) (x' y' : Abs.Rows), IsM c' x' ∧ IsM (c % m) y' ∧ nl c' ≤ 274877906944 ∧ nl (c % m) ≤ 274877906944 ∧ Nat.gcd c' (c % m) = Nat.gcd a b ∧ igcdSt s r t q y q' = igcdSt s r t q x' y' :=
          ⟨m, y, q', hy, hq, l2, Nat.le_trans (nl_mono (Nat.le_of_lt (Nat.mod_lt _ (Nat.pos_of_ne_zero hm0)))) l2, by rw [← hgc, Nat.gcd_comm c m, Nat.gcd_rec m c, Nat.gcd_comm], rfl⟩
        have e1' : zlt 0 (zofN (zlen y)) = true := by rw [e1]; exact decide_eq_true hm0
        cbv
        refine bT e1' ⟨fun h2 => bF ?_ ?_, fun h2 => ?_⟩
        · rw [e3]; rw [e2] at h2; have := of_decide_eq_true h2; exact decide_eq_false (by omega)
        all_goals
          refine ⟨_, hS.call cd, ?_⟩
          cbv
          exact again (s' := igcdSt s r t q y q') (m := c % m) (by simp [leT, igcdSt, mkSt, vl, vnil]) (by simp [leH, igcdSt, mkSt]) rfl (by show 2 ≤ 5; omega) (Nat.mod_lt _ (Nat.pos_of_ne_zero hm0)) nx
end Go.Proofs.YtpgbejgdmgpfjaaGreat
end

section
set_option linter.unusedVariables false
set_option linter.unusedSimpArgs false
/-
  Cells that are canonical integers and rational numbers, and cells that are not.
-/
set_option linter.unusedVariables false
namespace Go.Abs
open Go.Abs.M

theorem W_inj {k : IntKind} : ∀ {a b : List Int}, W k a = W k b → a = b
  | [], [], _ => rfl
  | [], _ :: _, h => by simp [W] at h
  | _ :: _, [], h => by simp [W] at h
  | x :: a, y :: b, h => by
    simp only [W, List.map_cons, List.cons.injEq, Tree.v.injEq, Value.int.injEq, true_and, and_true] at h
    rw [h.1, W_inj (k := k) h.2]

/-- Is this a canonical integer? -/
def canI (s : Bool) (l : List Int) : Bool := if l.length = 0 then !s else decide (l.getD (l.length - 1) 0 ≠ 0)

theorem canI_of {x : Int} {s : Bool} {l : List Int} (h : IsI x s (W .u32 l)) : canI s l = true := by
  have hl : l = dg x.natAbs := W_inj (h.m)
  have hs := h.s
  unfold canI
  subst hl
  by_cases h0 : (dg x.natAbs).length = 0
  · rw [if_pos h0]
    have : x.natAbs = 0 := dg_eq_nil.1 (List.length_eq_zero_iff.1 h0)
    rw [hs, decide_eq_false (by omega)]; rfl
  · rw [if_neg h0]
    rcases dg_tr x.natAbs with h | h
    · rw [h] at h0; exact absurd rfl h0
    · exact decide_eq_true h

theorem canI_ex {s : Bool} {l : List Int} (hw : Wd l) (h : canI s l = true) : ∃ x : Int, IsI x s (W .u32 l) ∧ nl x.natAbs = l.length := by
  unfold canI at h
  have hv := val_nonneg hw
  by_cases h0 : l.length = 0
  · rw [if_pos h0] at h
    have hl := List.length_eq_zero_iff.1 h0
    subst hl
    have : s = false := by cases s <;> simp_all
    subst this
    exact ⟨0, ⟨rfl, rfl⟩, rfl⟩
  · rw [if_neg h0] at h
    have ht : Tr l := .inr (of_decide_eq_true h)
    have hu := dg_unique hw ht
    have hpos : 0 < val l := by
      rcases Int.lt_or_eq_of_le hv with h | h
      · exact h
      · exfalso
        rw [← h] at hu
        have : l = [] := hu.symm
        rw [this] at h0; exact h0 rfl
    have hn : ∀ x : Int, x.natAbs = (val l).toNat → nl x.natAbs = l.length := fun x hx => by rw [hx]; unfold nl; rw [hu]
    cases s with
    | false =>
      have e : (val l).natAbs = (val l).toNat := by omega
      exact ⟨val l, ⟨(decide_eq_false (by omega)).symm, by unfold IsM; rw [e, hu]⟩, hn _ e⟩
    | true =>
      have e : (-val l).natAbs = (val l).toNat := by omega
      exact ⟨-val l, ⟨(decide_eq_true (by omega)).symm, by unfold IsM; rw [e, hu]⟩, hn _ e⟩

/-- Is this a canonical rational number? -/
def CanQ (s : Bool) (l : List Int) (t : Bool) (m : List Int) : Prop := ∃ q : Rat, IsR q s (W .u32 l) t (W .u32 m)

theorem rat_of {n d : Int} (h : 0 < d) (hg : Int.gcd n d = 1) : ∃ q : Rat, q.num = n ∧ (q.den : Int) = d :=
  ⟨⟨n, d.toNat, by omega, by
    have e : d.toNat = d.natAbs := by omega
    show Nat.gcd n.natAbs d.toNat = 1
    rw [e]; exact hg⟩, rfl, by show (d.toNat : Int) = d; omega⟩

theorem CanQ.iff {s t : Bool} {l m : List Int} {n d : Int} (hn : IsI n s (W .u32 l)) (hd : IsI d t (W .u32 m)) : CanQ s l t m ↔ 0 < d ∧ Int.gcd n d = 1 := by
  constructor
  · rintro ⟨q, h1, h2⟩
    have e1 : q.num = n := by
      have a := h1.m.symm.trans hn.m
      have b : dg q.num.natAbs = dg n.natAbs := W_inj a
      have x := dg_val q.num.natAbs
      rw [b] at x
      have c : (q.num.natAbs : Int) = n.natAbs := x.symm.trans (dg_val _)
      have e := h1.s.symm.trans hn.s
      have := decide_eq_decide.1 e
      omega
    have e2 : (q.den : Int) = d := by
      have a := h2.m.symm.trans hd.m
      have b : dg (q.den : Int).natAbs = dg d.natAbs := W_inj a
      have x := dg_val (q.den : Int).natAbs
      rw [b] at x
      have c : ((q.den : Int).natAbs : Int) = d.natAbs := x.symm.trans (dg_val _)
      have e := h2.s.symm.trans hd.s
      have := decide_eq_decide.1 e
      omega
    subst e1 e2
    refine ⟨by have := q.den_pos; omega, ?_⟩
    have := q.reduced
    unfold Nat.Coprime at this
    unfold Int.gcd
    rw [Int.natAbs_natCast]; exact this
  · rintro ⟨h1, h2⟩
    obtain ⟨q, e1, e2⟩ := rat_of h1 h2
    exact ⟨q, by rw [e1]; exact hn, by rw [e2]; exact hd⟩

theorem CanQ.canI {s t : Bool} {l m : List Int} (h : CanQ s l t m) : Abs.canI s l = true ∧ Abs.canI t m = true := by
  obtain ⟨q, h1, h2⟩ := h
  exact ⟨canI_of h1, canI_of h2⟩
end Go.Abs
end

section
set_option linter.unusedVariables false
set_option linter.unusedSimpArgs false
set_option maxHeartbeats 8000000
set_option linter.unusedVariables false
set_option linter.unusedSimpArgs false
set_option maxRecDepth 100000
namespace Go.Proofs.YtpgbejgdmgpfjaaGreat
open Go Go.Abs Go.Abs.M Go.Proofs


theorem ivalidA_call (s : Bool) (l : List Int) (hl : l.length ≤ 2199023255552) : ACall Tryz.prog 117 [.val (.agg (iT s (W .u32 l)))] ⟨[.val (tb (canI s l))], [none]⟩ := by
  obtain ⟨r, hr⟩ : ∃ r, r = W .u32 l := ⟨_, rfl⟩
  obtain ⟨n, hn⟩ : ∃ n, n = l.length := ⟨_, rfl⟩
  obtain ⟨b, hb⟩ : ∃ b, b = canI s l := ⟨_, rfl⟩
  rw [← hb, ← hr]
  have hz : n = 0 → (!s) = b := fun h => by rw [hb]; unfold canI; rw [if_pos (by omega)]
  have htop : n ≠ 0 → decide (l.getD (n - 1) 0 ≠ 0) = b := fun h => by rw [hb]; unfold canI; rw [if_neg (by omega), hn]
  refine callZ ccOk mixed [.val] Tryz.func117 rfl rfl (by kernel_rfl) fun zwrap zadd zsub zmul zquo zrem zshl zshr zband zbor zbxor zbandn zeq zne zlt zle znot zbeq zbne zmax zmin znat zinb zofN zidx zneq znadd zdif zcut zroom zmkok zlen znth zsetr zisI zgetI zsetI zfit zpart zext zsetg zrep zwide zall zmok zmget zmset zW zth A L F hS hF => ?_
  have hlx : zlen r = n := by rw [hS.len, hr, W_len, hn]
  have e0 : zeq (zofN (zlen r)) 0 = decide (n = 0) := by
    rw [hlx, hS.eq, hS.ofN]
    by_cases h : n = 0
    · rw [decide_eq_true h]; exact decide_eq_true (by omega)
    · rw [decide_eq_false h]; exact decide_eq_false (by omega)
  have e1 : n ≠ 0 → zwrap .i64 (zsub (zofN (zlen r)) 1) = zofN (n - 1) := fun h => by rw [hlx, hS.wrap, hS.sub, hS.ofN, hS.ofN, wrap_i64 (by omega) (by omega)]; omega
  have e2 : zle 0 (zofN (n - 1)) = true := by rw [hS.le, hS.ofN]; exact decide_eq_true (by omega)
  have e3 : znat (zofN (n - 1)) = n - 1 := by rw [hS.nat, hS.ofN]; omega
  have e4 : n ≠ 0 → zisI .u32 r (znat (zofN (n - 1))) = true := fun h => by rw [e3, hS.isI, hr, W_isI]; exact decide_eq_true (by omega)
  have e5 : n ≠ 0 → zne (zgetI r (znat (zofN (n - 1)))) 0 = b := fun h => by rw [e3, hS.ne, hS.getI, hr, W_getI]; exact htop h
  have e6 : znot s = !s := hS.not s
  generalize zofN (n - 1) = top at *
  clear htop hr
  cbv
  refine ⟨fun h => ?_, fun h => ?_⟩
  all_goals rw [e0] at h
  · refine fin1 hF (tv_bool ?_)
    rw [e6]; exact hz (of_decide_eq_true h)
  · have hn := of_decide_eq_false h
    rw [e1 hn]
    refine nd e2 (nd (e4 hn) ?_)
    exact fin1 hF (tv_bool (e5 hn))
theorem rvalidA_call (s : Bool) (l : List Int) (hl : l.length ≤ 2199023255552) : ACall Tryz.prog 121 [.val (.agg (iT s (W .u32 l)))] ⟨[.val (tb (canI s l))], [none]⟩ := by
  obtain ⟨r, hr⟩ : ∃ r, r = W .u32 l := ⟨_, rfl⟩
  obtain ⟨n, hn⟩ : ∃ n, n = l.length := ⟨_, rfl⟩
  obtain ⟨b, hb⟩ : ∃ b, b = canI s l := ⟨_, rfl⟩
  rw [← hb, ← hr]
  have hz : n = 0 → (!s) = b := fun h => by rw [hb]; unfold canI; rw [if_pos (by omega)]
  have htop : n ≠ 0 → decide (l.getD (n - 1) 0 ≠ 0) = b := fun h => by rw [hb]; unfold canI; rw [if_neg (by omega), hn]
  refine callZ ccOk mixed [.val] Tryz.func121 rfl rfl (by kernel_rfl) fun zwrap zadd zsub zmul zquo zrem zshl zshr zband zbor zbxor zbandn zeq zne zlt zle znot zbeq zbne zmax zmin znat zinb zofN zidx zneq znadd zdif zcut zroom zmkok zlen znth zsetr zisI zgetI zsetI zfit zpart zext zsetg zrep zwide zall zmok zmget zmset zW zth A L F hS hF => ?_
  have hlx : zlen r = n := by rw [hS.len, hr, W_len, hn]
  have e0 : zeq (zofN (zlen r)) 0 = decide (n = 0) := by
    rw [hlx, hS.eq, hS.ofN]
    by_cases h : n = 0
    · rw [decide_eq_true h]; exact decide_eq_true (by omega)
    · rw [decide_eq_false h]; exact decide_eq_false (by omega)
  have e1 : n ≠ 0 → zwrap .i64 (zsub (zofN (zlen r)) 1) = zofN (n - 1) := fun h => by rw [hlx, hS.wrap, hS.sub, hS.ofN, hS.ofN, wrap_i64 (by omega) (by omega)]; omega
  have e2 : zle 0 (zofN (n - 1)) = true := by rw [hS.le, hS.ofN]; exact decide_eq_true (by omega)
  have e3 : znat (zofN (n - 1)) = n - 1 := by rw [hS.nat, hS.ofN]; omega
  have e4 : n ≠ 0 → zisI .u32 r (znat (zofN (n - 1))) = true := fun h => by rw [e3, hS.isI, hr, W_isI]; exact decide_eq_true (by omega)
  have e5 : n ≠ 0 → zne (zgetI r (znat (zofN (n - 1)))) 0 = b := fun h => by rw [e3, hS.ne, hS.getI, hr, W_getI]; exact htop h
  have e6 : znot s = !s := hS.not s
  generalize zofN (n - 1) = top at *
  clear htop hr
  cbv
  refine ⟨fun h => ?_, fun h => ?_⟩
  all_goals rw [e0] at h
  · refine fin1 hF (tv_bool ?_)
    rw [e6]; exact hz (of_decide_eq_true h)
  · have hn := of_decide_eq_false h
    rw [e1 hn]
    refine nd e2 (nd (e4 hn) ?_)
    exact fin1 hF (tv_bool (e5 hn))
end Go.Proofs.YtpgbejgdmgpfjaaGreat
end

section
set_option linter.unusedVariables false
set_option linter.unusedSimpArgs false
set_option maxHeartbeats 8000000
set_option linter.unusedVariables false
set_option linter.unusedSimpArgs false
set_option maxRecDepth 100000
namespace Go.Proofs.YtpgbejgdmgpfjaaGreat
open Go Go.Abs Go.Abs.M Go.Proofs

/-- The sizes of a rational number's two integers. -/
def Qs (x : Rat) (k : Nat) : Prop := nl x.num.natAbs ≤ k ∧ nl x.den ≤ k

theorem qmul_call {x y : Rat} {s t s' t' : Bool} {r q r' q' : Abs.Rows} (hx : IsR x s r t q) (hy : IsR y s' r' t' q') (h1 : Qs x 68719476736) (h2 : Qs y 68719476736) :
    ∃ u w v p, IsR (x * y) u w v p ∧ ACall Tryz.prog 30 [.val (.agg (iT s r ++ iT t q)), .val (.agg (iT s' r' ++ iT t' q'))] ⟨[.val (.agg (iT u w ++ iT v p))], [none, none]⟩ := by
  obtain ⟨x1, x2⟩ := h1
  obtain ⟨y1, y2⟩ := h2
  obtain ⟨a, b, ha, ca⟩ := rmul_call hx.n hy.n (by omega) (by omega)
  obtain ⟨c, d, hc, cc⟩ := rmul_call hx.d hy.d (by rw [Int.natAbs_natCast]; omega) (by rw [Int.natAbs_natCast]; omega)
  have hx0 := x.den_nz
  have hy0 := y.den_nz
  obtain ⟨u, w, v, p, hu, cl⟩ := rlowest_call ha hc (Int.mul_ne_zero (by omega) (by omega))
    (by rw [Int.natAbs_mul]; have := nl_mul x.num.natAbs y.num.natAbs; omega)
    (by rw [Int.natAbs_mul, Int.natAbs_natCast, Int.natAbs_natCast]; have := nl_mul x.den y.den; omega)
  refine ⟨u, w, v, p, ?_, ?_⟩
  · rw [← Rat.divInt_mul_divInt, Rat.num_divInt_den, Rat.num_divInt_den] at hu
    exact hu
  refine callZ ccOk mixed [.val] Tryz.func30 rfl rfl (by kernel_rfl) fun zwrap zadd zsub zmul zquo zrem zshl zshr zband zbor zbxor zbandn zeq zne zlt zle znot zbeq zbne zmax zmin znat zinb zofN zidx zneq znadd zdif zcut zroom zmkok zlen znth zsetr zisI zgetI zsetI zfit zpart zext zsetg zrep zwide zall zmok zmget zmset zW zth A L F hS hF => ?_
  cbv
  refine ⟨_, hS.call ca, ?_⟩
  cbv
  refine ⟨_, hS.call cc, ?_⟩
  cbv
  refine ⟨_, hS.call cl, ?_⟩
  cbv
  exact hF _ (ResLe.refl _)

theorem qadd_call {x y : Rat} {s t s' t' : Bool} {r q r' q' : Abs.Rows} (hx : IsR x s r t q) (hy : IsR y s' r' t' q') (h1 : Qs x 68719476736) (h2 : Qs y 68719476736) :
    ∃ u w v p, IsR (x + y) u w v p ∧ ACall Tryz.prog 31 [.val (.agg (iT s r ++ iT t q)), .val (.agg (iT s' r' ++ iT t' q'))] ⟨[.val (.agg (iT u w ++ iT v p))], [none, none]⟩ := by
  obtain ⟨x1, x2⟩ := h1
  obtain ⟨y1, y2⟩ := h2
  have n1 := nl_mul x.num.natAbs y.den
  have n2 := nl_mul y.num.natAbs x.den
  have n3 := nl_mul x.den y.den
  have hx0 := x.den_nz
  have hy0 := y.den_nz
  obtain ⟨a, b, ha, ca⟩ := rmul_call hx.n hy.d (by omega) (by rw [Int.natAbs_natCast]; omega)
  obtain ⟨a', b', ha', ca'⟩ := rmul_call hy.n hx.d (by omega) (by rw [Int.natAbs_natCast]; omega)
  have m1 : nl (x.num * y.den).natAbs ≤ 137438953472 := by rw [Int.natAbs_mul, Int.natAbs_natCast]; omega
  have m2 : nl (y.num * x.den).natAbs ≤ 137438953472 := by rw [Int.natAbs_mul, Int.natAbs_natCast]; omega
  obtain ⟨e, f, he, ce⟩ := radd_call ha ha' (by omega) (by omega)
  obtain ⟨c, d, hc, cc⟩ := rmul_call hx.d hy.d (by rw [Int.natAbs_natCast]; omega) (by rw [Int.natAbs_natCast]; omega)
  obtain ⟨u, w, v, p, hu, cl⟩ := rlowest_call he hc (Int.mul_ne_zero (by omega) (by omega))
    (by
      have := nl_mono (Int.natAbs_add_le (x.num * y.den) (y.num * x.den))
      have := nl_add (x.num * y.den).natAbs (y.num * x.den).natAbs
      omega)
    (by rw [Int.natAbs_mul, Int.natAbs_natCast, Int.natAbs_natCast]; omega)
  refine ⟨u, w, v, p, ?_, ?_⟩
  · rw [← Rat.divInt_add_divInt _ _ (by omega) (by omega), Rat.num_divInt_den, Rat.num_divInt_den] at hu
    exact hu
  refine callZ ccOk mixed [.val] Tryz.func31 rfl rfl (by kernel_rfl) fun zwrap zadd zsub zmul zquo zrem zshl zshr zband zbor zbxor zbandn zeq zne zlt zle znot zbeq zbne zmax zmin znat zinb zofN zidx zneq znadd zdif zcut zroom zmkok zlen znth zsetr zisI zgetI zsetI zfit zpart zext zsetg zrep zwide zall zmok zmget zmset zW zth A L F hS hF => ?_
  cbv
  refine ⟨_, hS.call ca, ?_⟩
  cbv
  refine ⟨_, hS.call ca', ?_⟩
  cbv
  refine ⟨_, hS.call ce, ?_⟩
  cbv
  refine ⟨_, hS.call cc, ?_⟩
  cbv
  refine ⟨_, hS.call cl, ?_⟩
  cbv
  exact hF _ (ResLe.refl _)
end Go.Proofs.YtpgbejgdmgpfjaaGreat
end

section
set_option linter.unusedVariables false
set_option linter.unusedSimpArgs false
set_option maxHeartbeats 8000000
set_option linter.unusedVariables false
set_option linter.unusedSimpArgs false
set_option maxRecDepth 100000
namespace Go.Proofs.YtpgbejgdmgpfjaaGreat
open Go Go.Abs Go.Abs.M Go.Proofs

theorem cmp0 (d : Int) : (cmpI d 0 ≤ 0 ↔ d ≤ 0) ∧ (cmpI d 0 < 1 ↔ d ≤ 0) := by
  unfold cmpI
  by_cases h : d < 0
  · rw [if_pos h]; omega
  · rw [if_neg h]; split <;> omega

theorem cmp1 (g : Int) : cmpI g 1 = 0 ↔ g = 1 := by
  unfold cmpI
  by_cases h : g < 1
  · rw [if_pos h]; omega
  · rw [if_neg h]; split <;> omega

theorem dg_one_iff {n : Nat} (h : (dg n).length = 1) : (dg n).getD 0 0 = n := by
  have e := dg_val n
  match hd : dg n, h with
  | [w], _ =>
    rw [hd] at e
    simp [M.val] at e
    simpa using e

theorem qone_call {x : Int} {s : Bool} {r : Abs.Rows} (hx : IsI x s r) : ACall Tryz.prog 119 [.val (.agg (iT s r))] ⟨[.val (tb (decide (x = 1)))], [none]⟩ := by
  obtain ⟨n, hn⟩ : ∃ n, n = nl x.natAbs := ⟨_, rfl⟩
  have hlen : r.length = n := by rw [hn]; exact hx.m.len
  obtain ⟨b, hb⟩ : ∃ b, b = decide (x = 1) := ⟨_, rfl⟩
  rw [← hb]
  have hs1 : s = true → false = b := fun h => by rw [hb]; refine (decide_eq_false ?_).symm; have := hx.s; rw [h] at this; have := of_decide_eq_true this.symm; omega
  have hn1 : n ≠ 1 → false = b := fun h => by
    rw [hb]; refine (decide_eq_false ?_).symm; rintro rfl
    exact h (by rw [hn]; rfl)
  have hg : n = 1 → s = false → decide ((dg x.natAbs).getD 0 0 = 1) = b := fun h h' => by
    rw [dg_one_iff (by rw [← h, hn]; rfl), hb]
    have := hx.s; rw [h'] at this; have := of_decide_eq_false this.symm
    by_cases h1 : x = 1
    · rw [decide_eq_true h1]; exact decide_eq_true (by omega)
    · rw [decide_eq_false h1]; exact decide_eq_false (by omega)
  have hr := hx.m
  unfold IsM at hr
  generalize dg x.natAbs = l at hg hr
  clear hx hb
  refine callZ ccOk mixed [.val] Tryz.func119 rfl rfl (by kernel_rfl) fun zwrap zadd zsub zmul zquo zrem zshl zshr zband zbor zbxor zbandn zeq zne zlt zle znot zbeq zbne zmax zmin znat zinb zofN zidx zneq znadd zdif zcut zroom zmkok zlen znth zsetr zisI zgetI zsetI zfit zpart zext zsetg zrep zwide zall zmok zmget zmset zW zth A L F hS hF => ?_
  have e0 : znot s = !s := hS.not s
  have e1 : zeq (zofN (zlen r)) 1 = decide (n = 1) := by
    rw [hS.len, hlen, hS.eq, hS.ofN]
    by_cases h : n = 1
    · rw [decide_eq_true h]; exact decide_eq_true (by omega)
    · rw [decide_eq_false h]; exact decide_eq_false (by omega)
  have e2 : zle 0 0 = true := by rw [hS.le]; rfl
  have e3 : n = 1 → zisI .u32 r (znat 0) = true := fun h => by rw [hS.nat, hS.isI, hr, W_isI]; rw [hr, W_len] at hlen; exact decide_eq_true (by simp; omega)
  have e4 : n = 1 → s = false → zeq (zgetI r (znat 0)) 1 = b := fun h h' => by rw [hS.nat, hS.eq, hS.getI, hr, W_getI]; exact hg h h'
  clear hg hr hlen
  cbv
  refine ⟨fun h => ⟨fun h' => ?_, fun h' => ?_⟩, fun h => ?_⟩
  all_goals rw [e0] at h
  · rw [e1] at h'
    have h' := of_decide_eq_true h'
    exact nd e2 (nd (e3 h') (fin1 hF (tv_bool (e4 h' (by simpa using h)))))
  · rw [e1] at h'
    exact fin1 hF (tv_bool (hn1 (of_decide_eq_false h')))
  · exact fin1 hF (tv_bool (hs1 (by simpa using h)))

/-- What a Bool says of two cells' lists. -/
theorem canQ_cases {s t : Bool} {l m : List Int} {b : Bool} (hl : Wd l) (hm : Wd m) (hb : b = true ↔ CanQ s l t m) :
    (canI s l = false ∧ b = false) ∨ (canI s l = true ∧ canI t m = false ∧ b = false) ∨
    (canI s l = true ∧ canI t m = true ∧ ∃ n d : Int, IsI n s (W .u32 l) ∧ IsI d t (W .u32 m) ∧ nl n.natAbs = l.length ∧ nl d.natAbs = m.length ∧ (b = true ↔ 0 < d ∧ Int.gcd n d = 1)) := by
  have hbf : ¬ CanQ s l t m → b = false := fun h => by
    cases b with
    | false => rfl
    | true => exact absurd (hb.1 rfl) h
  cases h1 : canI s l with
  | false => exact .inl ⟨rfl, hbf fun h => by rw [h.canI.1] at h1; cases h1⟩
  | true =>
    cases h2 : canI t m with
    | false => exact .inr (.inl ⟨rfl, rfl, hbf fun h => by rw [h.canI.2] at h2; cases h2⟩)
    | true =>
      obtain ⟨n, hn, n1⟩ := canI_ex hl h1
      obtain ⟨d, hd, d1⟩ := canI_ex hm h2
      exact .inr (.inr ⟨rfl, rfl, n, d, hn, hd, n1, d1, hb.trans (CanQ.iff hn hd)⟩)

theorem qvalid_call {s t : Bool} {l m : List Int} (b : Bool) (hb : b = true ↔ CanQ s l t m) (hl : Wd l) (hm : Wd m) (l1 : l.length ≤ 274877906944) (m1 : m.length ≤ 274877906944) :
    ACall Tryz.prog 69 [.val (.agg (iT s (W .u32 l) ++ iT t (W .u32 m)))] ⟨[.val (tb b)], [none]⟩ := by
  have c1 := ivalidA_call s l (by omega)
  have c2 := ivalidA_call t m (by omega)
  rcases canQ_cases hl hm hb with ⟨h1, h2⟩ | ⟨h1, h2, h3⟩ | ⟨h1, h2, n, d, hn, hd, n1, d1, hbd⟩
  · rw [h1] at c1
    subst h2
    generalize W .u32 l = r at *
    generalize W .u32 m = q at *
    refine callZ ccOk mixed [.val] Tryz.func69 rfl rfl (by kernel_rfl) fun zwrap zadd zsub zmul zquo zrem zshl zshr zband zbor zbxor zbandn zeq zne zlt zle znot zbeq zbne zmax zmin znat zinb zofN zidx zneq znadd zdif zcut zroom zmkok zlen znth zsetr zisI zgetI zsetI zfit zpart zext zsetg zrep zwide zall zmok zmget zmset zW zth A L F hS hF => ?_
    have e1 : znot false = true := hS.not false
    cbv
    refine ⟨_, hS.call (c1), ?_⟩
    cbv
    refine bT (e1) ?_
    exact hF _ (ResLe.refl _)
  · rw [h1] at c1
    rw [h2] at c2
    subst h3
    generalize W .u32 l = r at *
    generalize W .u32 m = q at *
    refine callZ ccOk mixed [.val] Tryz.func69 rfl rfl (by kernel_rfl) fun zwrap zadd zsub zmul zquo zrem zshl zshr zband zbor zbxor zbandn zeq zne zlt zle znot zbeq zbne zmax zmin znat zinb zofN zidx zneq znadd zdif zcut zroom zmkok zlen znth zsetr zisI zgetI zsetI zfit zpart zext zsetg zrep zwide zall zmok zmget zmset zW zth A L F hS hF => ?_
    have e1 : znot false = true := hS.not false
    have e2 : znot true = false := hS.not true
    cbv
    refine ⟨_, hS.call (c1), ?_⟩
    cbv
    refine bF (e2) ?_
    refine ⟨_, hS.call (c2), ?_⟩
    cbv
    refine bT (e1) ?_
    exact hF _ (ResLe.refl _)
  · rw [h1] at c1
    rw [h2] at c2
    have c3 := isign_call (cmpI d 0) hd rfl
    have c4 := qone_call hd
    obtain ⟨w, hw, c5⟩ := igcd_call hn hd (by omega) (by omega)
    have c6 := qone_call hw
    have k1 := (cmp0 d).1
    generalize cmpI d 0 = c at *
    obtain ⟨g, hg⟩ : ∃ g, g = decide ((Int.gcd n d : Int) = 1) := ⟨_, rfl⟩
    obtain ⟨o, ho⟩ : ∃ o, o = decide (d = 1) := ⟨_, rfl⟩
    rw [← hg] at c6
    rw [← ho] at c4
    have f1 : d ≤ 0 → false = b := fun h => by
      cases b with
      | false => rfl
      | true => have := (hbd.1 rfl).1; omega
    have f2 : 0 < d → o = true → true = b := fun h h' => by
      rw [ho] at h'
      have := of_decide_eq_true h'
      exact (hbd.2 ⟨h, by rw [this]; simp [Int.gcd]⟩).symm
    have f3 : 0 < d → g = b := fun h => by
      rw [hg]
      cases b with
      | false => exact decide_eq_false fun e => absurd (hbd.2 ⟨h, by omega⟩) (by simp)
      | true => exact decide_eq_true (by have := (hbd.1 rfl).2; omega)
    clear hg ho hbd hn hd hw
    generalize W .u32 l = r at *
    generalize W .u32 m = q at *
    refine callZ ccOk mixed [.val] Tryz.func69 rfl rfl (by kernel_rfl) fun zwrap zadd zsub zmul zquo zrem zshl zshr zband zbor zbxor zbandn zeq zne zlt zle znot zbeq zbne zmax zmin znat zinb zofN zidx zneq znadd zdif zcut zroom zmkok zlen znth zsetr zisI zgetI zsetI zfit zpart zext zsetg zrep zwide zall zmok zmget zmset zW zth A L F hS hF => ?_
    have e2 : znot true = false := hS.not true
    have e3 : zle c 0 = decide (c ≤ 0) := hS.le ..
    cbv
    refine ⟨_, hS.call (c1), ?_⟩
    cbv
    refine bF (e2) ?_
    refine ⟨_, hS.call (c2), ?_⟩
    cbv
    refine bF (e2) ?_
    refine ⟨_, hS.call (c3), ?_⟩
    cbv
    refine ⟨fun h => ?_, fun h => ?_⟩
    all_goals rw [e3] at h
    · exact fin1 hF (tv_bool (f1 (k1.1 (of_decide_eq_true h))))
    · have h := of_decide_eq_false h
      refine ⟨_, hS.call (c4), ?_⟩
      cbv
      refine ⟨fun h' => ?_, fun h' => ?_⟩
      · exact fin1 hF (tv_bool (f2 (by omega) h'))
      · have z := h'
        refine ⟨_, hS.call (c5), ?_⟩
        cbv
        refine ⟨_, hS.call (c6), ?_⟩
        cbv
        exact fin1 hF (tv_bool (f3 (by omega)))

theorem rqvalid_call {s t : Bool} {l m : List Int} (b : Bool) (hb : b = true ↔ CanQ s l t m) (hl : Wd l) (hm : Wd m) (l1 : l.length ≤ 274877906944) (m1 : m.length ≤ 274877906944) :
    ACall Tryz.prog 70 [.val (.agg (iT s (W .u32 l) ++ iT t (W .u32 m)))] ⟨[.val (tb b)], [none]⟩ := by
  have c1 := rvalidA_call s l (by omega)
  have c2 := rvalidA_call t m (by omega)
  rcases canQ_cases hl hm hb with ⟨h1, h2⟩ | ⟨h1, h2, h3⟩ | ⟨h1, h2, n, d, hn, hd, n1, d1, hbd⟩
  · rw [h1] at c1
    subst h2
    generalize W .u32 l = r at *
    generalize W .u32 m = q at *
    refine callZ ccOk mixed [.val] Tryz.func70 rfl rfl (by kernel_rfl) fun zwrap zadd zsub zmul zquo zrem zshl zshr zband zbor zbxor zbandn zeq zne zlt zle znot zbeq zbne zmax zmin znat zinb zofN zidx zneq znadd zdif zcut zroom zmkok zlen znth zsetr zisI zgetI zsetI zfit zpart zext zsetg zrep zwide zall zmok zmget zmset zW zth A L F hS hF => ?_
    have e1 : znot false = true := hS.not false
    cbv
    refine ⟨_, hS.call (c1), ?_⟩
    cbv
    refine bT (e1) ?_
    exact hF _ (ResLe.refl _)
  · rw [h1] at c1
    rw [h2] at c2
    subst h3
    generalize W .u32 l = r at *
    generalize W .u32 m = q at *
    refine callZ ccOk mixed [.val] Tryz.func70 rfl rfl (by kernel_rfl) fun zwrap zadd zsub zmul zquo zrem zshl zshr zband zbor zbxor zbandn zeq zne zlt zle znot zbeq zbne zmax zmin znat zinb zofN zidx zneq znadd zdif zcut zroom zmkok zlen znth zsetr zisI zgetI zsetI zfit zpart zext zsetg zrep zwide zall zmok zmget zmset zW zth A L F hS hF => ?_
    have e1 : znot false = true := hS.not false
    have e2 : znot true = false := hS.not true
    cbv
    refine ⟨_, hS.call (c1), ?_⟩
    cbv
    refine bF (e2) ?_
    refine ⟨_, hS.call (c2), ?_⟩
    cbv
    refine bT (e1) ?_
    exact hF _ (ResLe.refl _)
  · rw [h1] at c1
    rw [h2] at c2
    have c3 := rsign_call (cmpI d 0) hd rfl
    obtain ⟨w, hw, c5⟩ := rgcd_call hn hd (by omega) (by omega)
    obtain ⟨u, v, ho, c6⟩ := rof_call 1 (by omega) (by omega)
    have hgl : nl (Int.gcd n d : Int).natAbs ≤ 2199023255552 := by
      rw [Int.natAbs_natCast]
      by_cases h : n = 0
      · subst h
        have : Int.gcd 0 d = d.natAbs := by simp [Int.gcd]
        rw [this]; omega
      · have : Int.gcd n d ≤ n.natAbs := Nat.gcd_le_left _ (by omega)
        have := nl_mono this
        omega
    have c7 := rcmp_call (cmpI (Int.gcd n d : Int) 1) hw ho rfl hgl (Nat.le_trans (nl_le_of (k := 1) (by omega)) (by omega))
    have k1 := (cmp0 d).2
    have k2 := cmp1 (Int.gcd n d : Int)
    have f1 : d ≤ 0 → false = b := fun h => by
      cases b with
      | false => rfl
      | true => have := (hbd.1 rfl).1; omega
    have f3 : 0 < d → decide (cmpI (Int.gcd n d : Int) 1 = 0) = b := fun h => by
      cases b with
      | false => exact decide_eq_false fun e => absurd (hbd.2 ⟨h, by have := k2.1 e; omega⟩) (by simp)
      | true => exact decide_eq_true (k2.2 (by have := (hbd.1 rfl).2; omega))
    generalize cmpI d 0 = c at *
    generalize cmpI (Int.gcd n d : Int) 1 = k at *
    clear hbd hn hd hw ho k2
    generalize W .u32 l = r at *
    generalize W .u32 m = q at *
    refine callZ ccOk mixed [.val] Tryz.func70 rfl rfl (by kernel_rfl) fun zwrap zadd zsub zmul zquo zrem zshl zshr zband zbor zbxor zbandn zeq zne zlt zle znot zbeq zbne zmax zmin znat zinb zofN zidx zneq znadd zdif zcut zroom zmkok zlen znth zsetr zisI zgetI zsetI zfit zpart zext zsetg zrep zwide zall zmok zmget zmset zW zth A L F hS hF => ?_
    have e2 : znot true = false := hS.not true
    have e3 : zlt c 1 = decide (c < 1) := hS.lt ..
    have e4 : zeq k 0 = decide (k = 0) := hS.eq ..
    cbv
    refine ⟨_, hS.call (c1), ?_⟩
    cbv
    refine bF (e2) ?_
    refine ⟨_, hS.call (c2), ?_⟩
    cbv
    refine bF (e2) ?_
    refine ⟨_, hS.call (c3), ?_⟩
    cbv
    refine ⟨fun h => ?_, fun h => ?_⟩
    all_goals rw [e3] at h
    · exact fin1 hF (tv_bool (f1 (k1.1 (of_decide_eq_true h))))
    · have h := of_decide_eq_false h
      refine ⟨_, hS.call (c5), ?_⟩
      cbv
      refine ⟨_, hS.call (c6), ?_⟩
      cbv
      refine ⟨_, hS.call (c7), ?_⟩
      cbv
      exact fin1 hF (tv_bool (e4.trans (f3 (by omega))))
end Go.Proofs.YtpgbejgdmgpfjaaGreat
end

section
set_option linter.unusedVariables false
set_option linter.unusedSimpArgs false
/-
  Polynomials in one variable, cell by cell: coefficients that may be canonical numbers or not.
-/
set_option linter.unusedVariables false
namespace Go.Abs
open Go.Abs.M

/-- The cells of a number: sign and words of the numerator, sign and words of the denominator. -/
structure QC where
  s : Bool
  l : List Int
  t : Bool
  m : List Int

def QC.row (c : QC) : List Tree := iT c.s (W .u32 c.l) ++ iT c.t (W .u32 c.m)
def QC.can (c : QC) : Prop := CanQ c.s c.l c.t c.m
structure QC.ok (c : QC) (k : Nat) : Prop where
  l : Wd c.l
  m : Wd c.m
  ll : c.l.length ≤ k
  lm : c.m.length ≤ k

def qrows (cs : List QC) : Rows := cs.map QC.row

/-- The numerator of a canonical number is 0 exactly if it has no words. -/
theorem QC.sign {c : QC} (h : c.can) : ∃ x : Int, IsI x c.s (W .u32 c.l) ∧ (x = 0 ↔ c.l = []) := by
  obtain ⟨q, h1, h2⟩ := h
  refine ⟨q.num, h1, ?_⟩
  have hl : c.l = dg q.num.natAbs := W_inj h1.m
  rw [hl, dg_eq_nil]
  omega

theorem bool_ex (p : Prop) : ∃ b : Bool, b = true ↔ p := by
  rcases Classical.em p with h | h
  · exact ⟨true, fun _ => h, fun _ => rfl⟩
  · exact ⟨false, fun h' => (by cases h'), fun h' => absurd h' h⟩
end Go.Abs

namespace Go.Abs
open Go.Abs.M
/-- The cells of a rational number. -/
def qc (q : Rat) : QC := ⟨decide (q.num < 0), dg q.num.natAbs, decide ((q.den : Int) < 0), dg (q.den : Int).natAbs⟩

theorem qc_isR (q : Rat) : IsR q (qc q).s (W .u32 (qc q).l) (qc q).t (W .u32 (qc q).m) := ⟨⟨rfl, rfl⟩, ⟨rfl, rfl⟩⟩

theorem qc_row {q : Rat} {s t : Bool} {r p : Rows} (h : IsR q s r t p) : iT s r ++ iT t p = (qc q).row := by
  have h1 := h.n.s
  have h2 := h.n.m
  have h3 := h.d.s
  have h4 := h.d.m
  unfold IsM at h2 h4
  subst h1 h2 h3 h4
  rfl

theorem qc_can (q : Rat) : (qc q).can := ⟨q, qc_isR q⟩

/-- A polynomial's rows. -/
def ur (P : List Rat) : Rows := qrows (P.map qc)
theorem ur_len (P : List Rat) : (ur P).length = P.length := by simp [ur, qrows]
theorem ur_get {P : List Rat} {i : Nat} {q : Rat} (h : P[i]? = some q) : (ur P)[i]? = some (qc q).row := by simp [ur, qrows, h]
/-- How many coefficients are left without those that are 0 at the end. -/
def tlen : List Rat → Nat → Nat
  | _, 0 => 0
  | P, k + 1 => if P.getD k 0 = 0 then tlen P k else k + 1
def ptrim (P : List Rat) : List Rat := P.take (tlen P P.length)

theorem tlen_le (P : List Rat) : ∀ k, tlen P k ≤ k
  | 0 => Nat.le_refl _
  | k + 1 => by unfold tlen; split; have := tlen_le P k; omega; omega

theorem tlen_last (P : List Rat) : ∀ k, tlen P k ≠ 0 → P.getD (tlen P k - 1) 0 ≠ 0
  | 0, h => absurd rfl h
  | k + 1, h => by
    unfold tlen at h ⊢
    split
    · rename_i h0; rw [if_pos h0] at h; exact tlen_last P k h
    · rename_i h0; simpa using h0

end Go.Abs

namespace Go.Abs
end Go.Abs

namespace Go.Abs
/-- c x^k b added to r, the first i coefficients of b. -/
def accL (R : List Rat) (c : Rat) (B : List Rat) (k : Nat) : Nat → List Rat
  | 0 => R
  | i + 1 => (accL R c B k i).set (i + k) ((accL R c B k i).getD (i + k) 0 + c * B.getD i 0)
def pacc (R : List Rat) (c : Rat) (B : List Rat) (k : Nat) : List Rat := accL R c B k B.length

theorem accL_len (R : List Rat) (c : Rat) (B : List Rat) (k : Nat) : ∀ i, (accL R c B k i).length = R.length
  | 0 => rfl
  | i + 1 => by unfold accL; rw [List.length_set, accL_len R c B k i]

theorem accL_get {R : List Rat} {c : Rat} {B : List Rat} {k : Nat} : ∀ (i j : Nat), i + k ≤ R.length → (accL R c B k i).getD j 0 = if k ≤ j ∧ j < k + i then R.getD j 0 + c * B.getD (j - k) 0 else R.getD j 0
  | 0, j, _ => by rw [if_neg (by omega)]; rfl
  | i + 1, j, h => by
    have ih := accL_get (R := R) (c := c) (B := B) (k := k) i
    have hl := accL_len R c B k i
    unfold accL
    rw [List.getD_eq_getElem?_getD, List.getElem?_set]
    by_cases hj : i + k = j
    · subst hj
      rw [if_pos rfl, if_pos (by omega), Option.getD_some, ih _ (by omega), if_neg (by omega), if_pos (by omega), show i + k - k = i by omega]
    · rw [if_neg hj, ← List.getD_eq_getElem?_getD, ih j (by omega)]
      by_cases h2 : k ≤ j ∧ j < k + i
      · rw [if_pos h2, if_pos (by omega)]
      · rw [if_neg h2, if_neg (by omega)]

end Go.Abs
end

section
set_option linter.unusedVariables false
set_option linter.unusedSimpArgs false
set_option maxHeartbeats 8000000
set_option linter.unusedVariables false
set_option linter.unusedSimpArgs false
set_option maxRecDepth 100000
namespace Go.Proofs.YtpgbejgdmgpfjaaGreat
open Go Go.Abs Go.Abs.M Go.Proofs

theorem pneg_call {x : Rat} {s t : Bool} {r q : Abs.Rows} (hx : IsR x s r t q) (h1 : Qs x 68719476736) :
    ∃ u w, IsR (-x) u w t q ∧ ACall Tryz.prog 164 [.val (.agg (iT s r ++ iT t q))] ⟨[.val (.agg (iT u w ++ iT t q))], [none]⟩ := by
  obtain ⟨u, w, h, c⟩ := ineg_call hx.n (by have := h1.1; omega)
  refine ⟨u, w, ⟨h, hx.d⟩, ?_⟩
  refine callZ ccOk mixed [.val] Tryz.func164 rfl rfl (by kernel_rfl) fun zwrap zadd zsub zmul zquo zrem zshl zshr zband zbor zbxor zbandn zeq zne zlt zle znot zbeq zbne zmax zmin znat zinb zofN zidx zneq znadd zdif zcut zroom zmkok zlen znth zsetr zisI zgetI zsetI zfit zpart zext zsetg zrep zwide zall zmok zmget zmset zW zth A L F hS hF => ?_
  cbv
  refine ⟨_, hS.call (c), ?_⟩
  cbv
  exact hF _ (ResLe.refl _)

theorem pwhole_call {n : Int} {s : Bool} {r : Abs.Rows} (hn : IsI n s r) : ∃ v p, IsR (n : Rat) s r v p ∧ ACall Tryz.prog 141 [.val (.agg (iT s r))] ⟨[.val (.agg (iT s r ++ iT v p))], [none]⟩ := by
  obtain ⟨v, p, h, c⟩ := iof_call 1 (by omega) (by omega)
  refine ⟨v, p, ⟨by rw [Rat.num_intCast]; exact hn, by rw [Rat.den_intCast]; exact h⟩, ?_⟩
  refine callZ ccOk mixed [.val] Tryz.func141 rfl rfl (by kernel_rfl) fun zwrap zadd zsub zmul zquo zrem zshl zshr zband zbor zbxor zbandn zeq zne zlt zle znot zbeq zbne zmax zmin znat zinb zofN zidx zneq znadd zdif zcut zroom zmkok zlen znth zsetr zisI zgetI zsetI zfit zpart zext zsetg zrep zwide zall zmok zmget zmset zW zth A L F hS hF => ?_
  cbv
  refine ⟨_, hS.call (c), ?_⟩
  cbv
  exact hF _ (ResLe.refl _)

theorem pWhole_call (n : Int) (h1 : -9223372036854775808 ≤ n) (h2 : n < 9223372036854775808) : ∃ s r v p, IsR (n : Rat) s r v p ∧ ACall Tryz.prog 94 [.val (ti .i64 n)] ⟨[.val (.agg (iT s r ++ iT v p))], [none]⟩ := by
  obtain ⟨s, r, h, c⟩ := iof_call n h1 h2
  obtain ⟨v, p, h3, c2⟩ := pwhole_call h
  refine ⟨s, r, v, p, h3, ?_⟩
  refine callZ ccOk mixed [.val] Tryz.func94 rfl rfl (by kernel_rfl) fun zwrap zadd zsub zmul zquo zrem zshl zshr zband zbor zbxor zbandn zeq zne zlt zle znot zbeq zbne zmax zmin znat zinb zofN zidx zneq znadd zdif zcut zroom zmkok zlen znth zsetr zisI zgetI zsetI zfit zpart zext zsetg zrep zwide zall zmok zmget zmset zW zth A L F hS hF => ?_
  cbv
  refine ⟨_, hS.call (c), ?_⟩
  cbv
  refine ⟨_, hS.call (c2), ?_⟩
  cbv
  exact hF _ (ResLe.refl _)

def proSt (R : Abs.Rows) (ps : Bool) (pr : Abs.Rows) (N i : Int) : St := mkSt 25 [.c (.t (.lst false R)), .junk, .c (.ptr 1 0 0), .c (.ptr 4 0 0), .junk, .junk, .junk, .c (.t (.lst false R)), vi .i64 N, vi .i64 i] [none, some (.var [.t (.v (.bool false)), .t (.lst true [])]), none, none, some (.var [.t (.v (.bool ps)), .t (.lst false pr)])]

theorem qone_ex {x : Int} {s : Bool} {r : Abs.Rows} (hx : IsI x s r) : ∃ b : Bool, (b = true ↔ x = 1) ∧ ACall Tryz.prog 119 [.val (.agg (iT s r))] ⟨[.val (tb b)], [none]⟩ := ⟨decide (x = 1), by simp, qone_call hx⟩


theorem pproduct_call {x y : Int} {s t : Bool} {r q : Abs.Rows} (hx : IsI x s r) (hy : IsI y t q) (h1 : nl x.natAbs ≤ 274877906944) (h2 : nl y.natAbs ≤ 274877906944) :
    ∃ u w, IsI (x * y) u w ∧ ACall Tryz.prog 115 [.val (tl [iT s r, iT t q])] ⟨[.val (.agg (iT u w))], [none]⟩ := by
  obtain ⟨u, w, h⟩ : ∃ u w, IsI (x * y) u w := ⟨_, _, .mk' _⟩
  obtain ⟨a, b, ho, co⟩ := iof_call 1 (by omega) (by omega)
  have n1 : nl (1 : Int).natAbs ≤ 274877906944 := Nat.le_trans (nl_le_of (k := 1) (by omega)) (by omega)
  refine ⟨u, w, h, ?_⟩
  obtain ⟨R, hR⟩ : ∃ R, R = ([[.v (.bool s), .lst false r], [.v (.bool t), .lst false q]] : Abs.Rows) := ⟨_, rfl⟩
  rw [show ([iT s r, iT t q] : Abs.Rows) = R from hR.symm]
  refine callZ ccOk mixed [.val] Tryz.func115 rfl rfl (by kernel_rfl) fun zwrap zadd zsub zmul zquo zrem zshl zshr zband zbor zbxor zbandn zeq zne zlt zle znot zbeq zbne zmax zmin znat zinb zofN zidx zneq znadd zdif zcut zroom zmkok zlen znth zsetr zisI zgetI zsetI zfit zpart zext zsetg zrep zwide zall zmok zmget zmset zW zth A L F hS hF => ?_
  obtain ⟨N, hN, hN2⟩ : ∃ N : Int, N = 2 ∧ zofN (zlen R) = N := ⟨_, rfl, by rw [hS.len, hS.ofN, hR]; rfl⟩
  have hz0 : znth R (znat 0) = some [.v (.bool s), .lst false r] := by rw [hS.nat, hS.nth, hR]; rfl
  have hz1 : znth R (znat 1) = some [.v (.bool t), .lst false q] := by rw [hS.nat, hS.nth, hR]; rfl
  clear hR
  cbv
  refine ⟨_, hS.call (co), ?_⟩
  cbv
  refine loopZ ccOk mixed hS (fun (m : Nat) s' => ∃ (ps : Bool) (pr : Abs.Rows), (m = 2 ∧ IsI 1 ps pr ∧ s' = proSt R ps pr N 0) ∨ (m = 1 ∧ IsI x ps pr ∧ s' = proSt R ps pr N 1) ∨ (m = 0 ∧ IsI (x * y) ps pr ∧ s' = proSt R ps pr N 2)) (n := 2) (s0 := proSt R a b N 0) (le_of ?_ ?_) rfl (by show 1 ≤ 5; omega) ?_ ?_
  · simp [leT, proSt, mkSt, vi, hN2]
  · simp [leH, proSt, mkSt]
  · exact ⟨a, b, .inl ⟨rfl, ho, rfl⟩⟩
  · rintro m s1 ⟨ps, pr, ⟨hm0, hp, hs1⟩ | ⟨hm0, hp, hs1⟩ | ⟨hm0, hp, hs1⟩⟩
    · have hmm : m - 1 < m := by omega
      have nxt : ∀ us ur, IsI (1 * x) us ur → ∃ (ps : Bool) (pr : Abs.Rows), (m - 1 = 2 ∧ IsI 1 ps pr ∧ proSt R us ur N 1 = proSt R ps pr N 0) ∨ (m - 1 = 1 ∧ IsI x ps pr ∧ proSt R us ur N 1 = proSt R ps pr N 1) ∨ (m - 1 = 0 ∧ IsI (x * y) ps pr ∧ proSt R us ur N 1 = proSt R ps pr N 2) := fun us ur hu =>
        ⟨us, ur, .inr (.inl ⟨by omega, hu.of (Int.one_mul x), rfl⟩)⟩
      have k1 : zlt 0 N = true := by rw [hS.lt]; exact decide_eq_true (by omega)
      have g0 : zle 0 0 = true := by rw [hS.le]; rfl
      obtain ⟨b1, hb1, c1⟩ := qone_ex hx
      obtain ⟨b2, hb2, c2⟩ := qone_ex hp
      obtain ⟨mu, mw, hm, c3⟩ := imul_call hp hx (by omega) (by omega)
      have ii : zwrap .i64 (zadd 0 1) = 1 := by rw [hS.add, hS.wrap]; rfl
      cases b1 with
      | true =>
        have h1 := hb1.1 rfl
        have hnx := nxt ps pr (hp.of (by rw [h1, Int.mul_one]))
        subst hs1
        cbv
        refine bT k1 ?_
        rw [hz0]
        cbv
        refine nd (g0) ?_
        refine ⟨_, hS.call (c1), ?_⟩
        cbv
        refine bT ((rfl : true = true)) ?_
        exact again (s' := proSt R ps pr N 1) (m := m - 1) (by simp [leT, proSt, mkSt, vi, ii]) (by simp [leH, proSt, mkSt]) rfl (by show 1 ≤ 5; omega) hmm hnx
      | false =>
        cases b2 with
        | true =>
          have h2 := hb2.1 rfl
          have hnx := nxt s r (hx.of (by rw [h2, Int.one_mul]))
          subst hs1
          cbv
          refine bT k1 ?_
          rw [hz0]
          cbv
          refine nd (g0) ?_
          refine ⟨_, hS.call (c1), ?_⟩
          cbv
          refine bF ((rfl : false = false)) ?_
          refine ⟨_, hS.call (c2), ?_⟩
          cbv
          refine bT ((rfl : true = true)) ?_
          exact again (s' := proSt R s r N 1) (m := m - 1) (by simp [leT, proSt, mkSt, vi, ii]) (by simp [leH, proSt, mkSt]) rfl (by show 1 ≤ 5; omega) hmm hnx
        | false =>
          have hnx := nxt mu mw hm
          subst hs1
          cbv
          refine bT k1 ?_
          rw [hz0]
          cbv
          refine nd (g0) ?_
          refine ⟨_, hS.call (c1), ?_⟩
          cbv
          refine bF ((rfl : false = false)) ?_
          refine ⟨_, hS.call (c2), ?_⟩
          cbv
          refine bF ((rfl : false = false)) ?_
          refine ⟨_, hS.call (c3), ?_⟩
          cbv
          exact again (s' := proSt R mu mw N 1) (m := m - 1) (by simp [leT, proSt, mkSt, vi, ii]) (by simp [leH, proSt, mkSt]) rfl (by show 1 ≤ 5; omega) hmm hnx
    · have hmm : m - 1 < m := by omega
      have nxt : ∀ us ur, IsI (x * y) us ur → ∃ (ps : Bool) (pr : Abs.Rows), (m - 1 = 2 ∧ IsI 1 ps pr ∧ proSt R us ur N 2 = proSt R ps pr N 0) ∨ (m - 1 = 1 ∧ IsI x ps pr ∧ proSt R us ur N 2 = proSt R ps pr N 1) ∨ (m - 1 = 0 ∧ IsI (x * y) ps pr ∧ proSt R us ur N 2 = proSt R ps pr N 2) := fun us ur hu =>
        ⟨us, ur, .inr (.inr ⟨by omega, hu, rfl⟩)⟩
      have k1 : zlt 1 N = true := by rw [hS.lt]; exact decide_eq_true (by omega)
      have g0 : zle 0 1 = true := by rw [hS.le]; rfl
      obtain ⟨b1, hb1, c1⟩ := qone_ex hy
      obtain ⟨b2, hb2, c2⟩ := qone_ex hp
      obtain ⟨mu, mw, hm, c3⟩ := imul_call hp hy (by omega) (by omega)
      have ii : zwrap .i64 (zadd 1 1) = 2 := by rw [hS.add, hS.wrap]; rfl
      cases b1 with
      | true =>
        have h1 := hb1.1 rfl
        have hnx := nxt ps pr (hp.of (by rw [h1, Int.mul_one]))
        subst hs1
        cbv
        refine bT k1 ?_
        rw [hz1]
        cbv
        refine nd (g0) ?_
        refine ⟨_, hS.call (c1), ?_⟩
        cbv
        refine bT ((rfl : true = true)) ?_
        exact again (s' := proSt R ps pr N 2) (m := m - 1) (by simp [leT, proSt, mkSt, vi, ii]) (by simp [leH, proSt, mkSt]) rfl (by show 1 ≤ 5; omega) hmm hnx
      | false =>
        cases b2 with
        | true =>
          have h2 := hb2.1 rfl
          have hnx := nxt t q (hy.of (by rw [h2, Int.one_mul]))
          subst hs1
          cbv
          refine bT k1 ?_
          rw [hz1]
          cbv
          refine nd (g0) ?_
          refine ⟨_, hS.call (c1), ?_⟩
          cbv
          refine bF ((rfl : false = false)) ?_
          refine ⟨_, hS.call (c2), ?_⟩
          cbv
          refine bT ((rfl : true = true)) ?_
          exact again (s' := proSt R t q N 2) (m := m - 1) (by simp [leT, proSt, mkSt, vi, ii]) (by simp [leH, proSt, mkSt]) rfl (by show 1 ≤ 5; omega) hmm hnx
        | false =>
          have hnx := nxt mu mw hm
          subst hs1
          cbv
          refine bT k1 ?_
          rw [hz1]
          cbv
          refine nd (g0) ?_
          refine ⟨_, hS.call (c1), ?_⟩
          cbv
          refine bF ((rfl : false = false)) ?_
          refine ⟨_, hS.call (c2), ?_⟩
          cbv
          refine bF ((rfl : false = false)) ?_
          refine ⟨_, hS.call (c3), ?_⟩
          cbv
          exact again (s' := proSt R mu mw N 2) (m := m - 1) (by simp [leT, proSt, mkSt, vi, ii]) (by simp [leH, proSt, mkSt]) rfl (by show 1 ≤ 5; omega) hmm hnx
    · have k1 : zlt 2 N = false := by rw [hS.lt]; exact decide_eq_false (by omega)
      obtain ⟨e1, e2⟩ := hp.inj h
      subst e1 e2
      subst hs1
      cbv
      refine bF (k1) ?_
      exact hF _ (ResLe.refl _)
end Go.Proofs.YtpgbejgdmgpfjaaGreat
end

section
set_option linter.unusedVariables false
set_option linter.unusedSimpArgs false
set_option maxHeartbeats 8000000
set_option linter.unusedVariables false
set_option linter.unusedSimpArgs false
set_option maxRecDepth 100000
namespace Go.Proofs.YtpgbejgdmgpfjaaGreat
open Go Go.Abs Go.Abs.M Go.Proofs

def madeN (n k : Int) : Int := if k % 8 = 7 then n * (4611686018427387904 + k) * (4611686018427387904 + k) + k else n
def madeD (d k : Int) : Int := if k % 8 = 6 then (if d = 0 then 1 else d) * (4611686018427387904 + k) * (4611686018427387904 + k) else if d = 0 then 1 else d
def madeQ (n d k : Int) : Rat := Rat.divInt (madeN n k) (madeD d k)

end Go.Proofs.YtpgbejgdmgpfjaaGreat
end

section
set_option linter.unusedVariables false
set_option linter.unusedSimpArgs false
set_option maxHeartbeats 8000000
set_option linter.unusedVariables false
set_option linter.unusedSimpArgs false
set_option maxRecDepth 100000
namespace Go.Proofs.YtpgbejgdmgpfjaaGreat
open Go Go.Abs Go.Abs.M Go.Proofs

theorem divInt_small {n d : Int} {k : Nat} (hd : d ≠ 0) (h1 : nl n.natAbs ≤ k) (h2 : nl d.natAbs ≤ k) : Qs (Rat.divInt n d) k := by
  constructor
  · rw [← lowest_num hd]
    have := nl_mono (Int.natAbs_ediv_le_natAbs n (if d < 0 then -(Int.gcd n d : Int) else (Int.gcd n d : Int)))
    omega
  · have e := lowest_den (n := n) hd
    have := nl_mono (Int.natAbs_ediv_le_natAbs d (if d < 0 then -(Int.gcd n d : Int) else (Int.gcd n d : Int)))
    rw [e, Int.natAbs_natCast] at this
    omega

theorem Qs.mono {x : Rat} {a b : Nat} (h : Qs x a) (hab : a ≤ b) : Qs x b := ⟨Nat.le_trans h.1 hab, Nat.le_trans h.2 hab⟩

theorem add_small {x y : Rat} {a b : Nat} (hx : Qs x a) (hy : Qs y b) : Qs (x + y) (a + b + 1) := by
  obtain ⟨x1, x2⟩ := hx
  obtain ⟨y1, y2⟩ := hy
  have hx0 := x.den_nz
  have hy0 := y.den_nz
  have h : x + y = Rat.divInt (x.num * y.den + y.num * x.den) (x.den * y.den) := by
    rw [← Rat.divInt_add_divInt _ _ (by omega) (by omega), Rat.num_divInt_den, Rat.num_divInt_den]
  rw [h]
  have n1 := nl_mul x.num.natAbs y.den
  have n2 := nl_mul y.num.natAbs x.den
  have n3 := nl_mul x.den y.den
  refine divInt_small (Int.mul_ne_zero (by omega) (by omega)) ?_ ?_
  · have h1 := nl_mono (Int.natAbs_add_le (x.num * y.den) (y.num * x.den))
    have h2 := nl_add (x.num * y.den).natAbs (y.num * x.den).natAbs
    rw [Int.natAbs_mul, Int.natAbs_mul, Int.natAbs_natCast, Int.natAbs_natCast] at h2
    rw [Int.natAbs_mul, Int.natAbs_mul, Int.natAbs_natCast, Int.natAbs_natCast] at h1
    omega
  · rw [Int.natAbs_mul, Int.natAbs_natCast, Int.natAbs_natCast]; omega

theorem mul_small {x y : Rat} {a b : Nat} (hx : Qs x a) (hy : Qs y b) : Qs (x * y) (a + b) := by
  obtain ⟨x1, x2⟩ := hx
  obtain ⟨y1, y2⟩ := hy
  have hx0 := x.den_nz
  have hy0 := y.den_nz
  have h : x * y = Rat.divInt (x.num * y.num) (x.den * y.den) := by
    rw [← Rat.divInt_mul_divInt, Rat.num_divInt_den, Rat.num_divInt_den]
  rw [h]
  have n1 := nl_mul x.num.natAbs y.num.natAbs
  have n3 := nl_mul x.den y.den
  refine divInt_small (Int.mul_ne_zero (by omega) (by omega)) ?_ ?_
  · rw [Int.natAbs_mul]; omega
  · rw [Int.natAbs_mul, Int.natAbs_natCast, Int.natAbs_natCast]; omega

end Go.Proofs.YtpgbejgdmgpfjaaGreat
end

section
set_option linter.unusedVariables false
set_option linter.unusedSimpArgs false
set_option maxHeartbeats 8000000
set_option linter.unusedVariables false
set_option linter.unusedSimpArgs false
set_option maxRecDepth 100000
namespace Go.Proofs.YtpgbejgdmgpfjaaGreat
open Go Go.Abs Go.Abs.M Go.Proofs

end Go.Proofs.YtpgbejgdmgpfjaaGreat
end

section
set_option linter.unusedVariables false
set_option linter.unusedSimpArgs false
/-
  The abstract layer: a loop whose rounds end in a frame with other numbers of blocks. A frame's blocks have no names of their own.
-/
set_option linter.unusedSimpArgs false
set_option linter.unusedVariables false
namespace Go.Abs

def Cell.ren (ρ : Nat → Nat) : Cell → Cell
  | .t x => .t x
  | .ptr b r c => .ptr (ρ b) r c
  | .tp row c => .tp row c
  | .sl b off len cp => .sl (ρ b) off len cp
  | .mp b => .mp (ρ b)
  | .clo f caps => .clo f (caps.map fun p => (ρ p.1, p.2))

def AV.ren (ρ : Nat → Nat) : AV → AV
  | .c x => .c (x.ren ρ)
  | .agg l => .agg (l.map (Cell.ren ρ))
  | .tup l => .tup l
  | .junk => .junk

def AV.noTup : AV → Prop
  | .tup _ => False
  | _ => True

def Blk.ren (ρ : Nat → Nat) : Blk → Blk
  | .var cells => .var (cells.map (Cell.ren ρ))
  | .rows sz l g fz => .rows sz l g fz
  | .map ents => .map ents
  | .old sz l => .old sz l

/-- A frame that says less, under other numbers. -/
structure St.LeR (n0 : Nat) (ρ : Nat → Nat) (s s' : St) : Prop where
  len : s'.tmps.length = s.tmps.length
  tmps : ∀ (i : Nat) (x : AV), s'.tmps[i]? = some x → x = .junk ∨ x.noTup ∧ s.tmps[i]? = some (x.ren ρ)
  heap : ∀ b blk, look s'.heap b = some blk → look s.heap (ρ b) = some (blk.ren ρ)
  inj : ∀ b b' blk blk', look s'.heap b = some blk → look s'.heap b' = some blk' → ρ b = ρ b' → b = b'
  fix : ∀ b, b < n0 → ρ b = b

section
variable {β : Nat → Option Reg} {S : Place} {w : World} {n : Nat} {ρ : Nat → Nat}

theorem CRep.ren {c : Cell} {v : Value} (h : CRep β S w (c.ren ρ) v) (hb : c.refsLt n = true) : CRep (fun b => if b < n then β (ρ b) else none) S w c v := by
  cases c with
  | t x => cases h with | t h => exact .t h
  | ptr b r c => cases h with | ptr R h => exact .ptr R (by simp only [Cell.refsLt, decide_eq_true_eq] at hb; rw [if_pos hb]; exact h)
  | tp row c => cases h with | tp cb co val h => exact .tp cb co val h
  | sl b off len cp => cases h with | sl R base cap h h1 h2 h3 h4 h5 => exact .sl R base cap (by simp only [Cell.refsLt, decide_eq_true_eq] at hb; rw [if_pos hb]; exact h) h1 h2 h3 h4 h5
  | mp b => cases h with | mp R h => exact .mp R (by simp only [Cell.refsLt, decide_eq_true_eq] at hb; rw [if_pos hb]; exact h)
  | clo f caps =>
    cases h with
    | clo vs h1 h2 =>
      refine .clo vs (by rw [h1, List.length_map]) fun i b r c hi => ?_
      obtain ⟨R, e1, e2⟩ := h2 i (ρ b) r c (by rw [List.getElem?_map, hi]; rfl)
      have := List.all_eq_true.1 hb _ (List.mem_of_getElem? hi)
      exact ⟨R, by rw [if_pos (by simpa using this)]; exact e1, e2⟩

theorem VRep.ren {x : AV} {v : Value} (h : VRep β S w (x.ren ρ) v) (ht : x.noTup) (hb : x.refsLt n = true) : VRep (fun b => if b < n then β (ρ b) else none) S w x v := by
  cases x with
  | c x => cases h with | c h => exact .c (h.ren (by simpa [AV.refsLt] using hb))
  | agg l =>
    cases h with
    | agg vs h1 h2 =>
      refine .agg vs (by rw [h1, List.length_map]) fun i c hi => ?_
      obtain ⟨v, e1, e2⟩ := h2 i (c.ren ρ) (by rw [List.getElem?_map, hi]; rfl)
      simp only [AV.refsLt] at hb
      exact ⟨v, e1, e2.ren (List.all_eq_true.1 hb c (List.mem_of_getElem? hi))⟩
  | tup l => exact ht.elim
  | junk => exact .junk v

theorem Blk.ren_ext {blk : Blk} {R : Reg} : (blk.ren ρ).ext R = blk.ext R := by
  cases blk <;> (funext b o; simp [Blk.ren, Blk.ext])

theorem Blk.ren_wr {blk : Blk} {R : Reg} : (blk.ren ρ).wr R = blk.wr R := by
  cases blk <;> (funext b o; simp [Blk.ren, Blk.wr])

theorem Sat.ren {K : Ctx} {n0 : Nat} {s s' : St} {a : Act} (h : Sat K β S s a w) (hl : s.LeR n0 ρ s') (hb : s'.refsLt = true) (hn : ∀ i R, K.β0 i = some R → i < n0) (hk : n0 ≤ s'.heap.length) :
    Sat K (fun b => if b < s'.heap.length then β (ρ b) else none) S s' a w := by
  simp only [St.refsLt, Bool.and_eq_true] at hb
  refine ⟨by rw [hl.len]; exact h.len, h.defers, fun t x ht => ?_, fun b R hR => ?_, fun b blk hbk => ?_, fun b b' blk blk' R R' hne h1 h2 hR hR' => ?_, h.sex, h.sin, h.sub, h.keep, fun i R hi => by
    rw [if_pos (Nat.lt_of_lt_of_le (hn i R hi) hk), hl.fix i (hn i R hi)]; exact h.arg i R hi⟩
  · rcases hl.tmps t x ht with rfl | ⟨h1, hx⟩
    · exact .junk _
    · exact (h.tmps t _ hx).ren h1 (List.all_eq_true.1 hb.1 x (List.mem_of_getElem? ht))
  · split at hR
    · assumption
    · cases hR
  · obtain ⟨R, e1, e2, e3, e4⟩ := h.blk _ _ (hl.heap b blk hbk)
    have hlt := look_lt hbk
    rw [Blk.ren_ext] at e3
    rw [Blk.ren_wr] at e4
    refine ⟨R, by rw [if_pos hlt]; exact e1, ?_, e3, e4⟩
    cases blk with
    | var cells =>
      simp only [Blk.ren, BlkOk, List.length_map] at e2
      refine ⟨e2.1, fun j c hj => ?_⟩
      obtain ⟨v, f1, f2⟩ := e2.2 j (c.ren ρ) (by rw [List.getElem?_map, hj]; rfl)
      have hm : some (Blk.var cells) ∈ s'.heap := by
        unfold look at hbk
        cases hx : s'.heap[b]? with
        | none => rw [hx] at hbk; cases hbk
        | some y => rw [hx] at hbk; simp at hbk; subst hbk; exact List.mem_of_getElem? hx
      have := List.all_eq_true.1 hb.2 _ hm
      simp only [Blk.refsLt] at this
      exact ⟨v, f1, f2.ren (List.all_eq_true.1 this c (List.mem_of_getElem? hj))⟩
    | rows sz rows g fz => exact e2
    | map ents => exact e2
    | old sz rows => exact e2
  · have l1 := look_lt h1
    have l2 := look_lt h2
    rw [if_pos l1] at hR
    rw [if_pos l2] at hR'
    have := h.dis (ρ b) (ρ b') _ _ R R' (fun e => hne (hl.inj b b' _ _ h1 h2 e)) (hl.heap _ _ h1) (hl.heap _ _ h2) hR hR'
    rw [Blk.ren_ext, Blk.ren_ext] at this
    exact this
end

theorem ARun.postRen {P : Program} {n0 : Nat} {c : Code} {st : St} {Q : AExit → St → Prop} (h : ARun P n0 c st fun e s => Q e s ∨ ∃ ρ s', s.LeR n0 ρ s' ∧ s'.refsLt = true ∧ n0 ≤ s'.heap.length ∧ Q e s') : ARun P n0 c st Q := fun K hn β S a w hs =>
  wp_mono (h K hn β S a w hs) fun e a' w' ⟨x, s, h1, h2, β', S', h5⟩ => by
    rcases h2 with h2 | ⟨ρ, s', h2, h3, hk, h4⟩
    · exact ⟨x, s, h1, h2, β', S', h5⟩
    · exact ⟨x, s', h1, h4, _, S', h5.ren h2 h3 hn hk⟩

theorem LoopP.introR {P : Program} {C : Cfg} {n0 : Nat} {st : St} (hC : CfgOk P C) (hmix : P.follows .mixedOrders = true) {c : Code} {Q : AExit → St → Prop} (I : Nat → St → Prop) {n : Nat} {s0 : St} (hl : st.Le s0) (hb : s0.refsLt = true) (hk : n0 ≤ s0.heap.length) (h0 : I n s0)
    (round : ∀ n s, I n s → CodeK P C n0 c s fun e s => match e with
      | .normal => ∃ ρ s', s.LeR n0 ρ s' ∧ s'.refsLt = true ∧ n0 ≤ s'.heap.length ∧ ∃ m, m < n ∧ I m s'
      | .exit id => Q (.exit id) s
      | .ret => Q .ret s) : LoopP P n0 c st Q := by
  refine ARun.weaken hl hb hk (ARun.loop I (fun n s hI => ARun.postRen ((CodeK.run hC hmix c s _ (round n s hI)).mono fun e s1 h1 => ?_)) h0)
  cases e with
  | normal =>
    obtain ⟨ρ, s', h2, h3, h4, m, h5, h6⟩ := h1
    exact .inr ⟨ρ, s', h2, h3, h4, m, h5, h6⟩
  | exit id => exact .inl h1
  | ret => exact .inl h1

/-- St.LeR, place by place. -/
def leTR (ρ : Nat → Nat) : List AV → List AV → Prop
  | [], [] => True
  | x :: xs, y :: ys => (y = .junk ∨ y.noTup ∧ x = y.ren ρ) ∧ leTR ρ xs ys
  | _, _ => False

/-- Which of the old blocks a new place holds: a list of (new, old). -/
def renF : List (Nat × Nat) → Nat → Nat
  | [], b => b
  | (x, y) :: l, b => if b = x then y else renF l b

def leHR (ρ : Nat → Nat) (h : Heap) : Nat → Heap → Prop
  | _, [] => True
  | i, y :: ys => (match y with | none => True | some b => look h (ρ i) = some (b.ren ρ)) ∧ leHR ρ h (i + 1) ys

/-- The places that hold something, each with its old number: all different. -/
def liveR (ρ : Nat → Nat) : Nat → Heap → List Nat
  | _, [] => []
  | i, none :: ys => liveR ρ (i + 1) ys
  | i, some _ :: ys => ρ i :: liveR ρ (i + 1) ys

theorem leTR_spec {ρ : Nat → Nat} : ∀ {xs ys : List AV}, leTR ρ xs ys → ys.length = xs.length ∧ ∀ (i : Nat) (y : AV), ys[i]? = some y → y = .junk ∨ y.noTup ∧ xs[i]? = some (y.ren ρ)
  | [], [], _ => ⟨rfl, by simp⟩
  | x :: xs, y :: ys, h => by
    obtain ⟨h1, h2⟩ := h
    obtain ⟨h3, h4⟩ := leTR_spec h2
    refine ⟨by simp [h3], fun i z hz => ?_⟩
    cases i with
    | zero =>
      simp at hz; subst hz
      rcases h1 with h | ⟨h, h'⟩
      · exact .inl h
      · exact .inr ⟨h, by simp [h']⟩
    | succ i => simpa using h4 i z (by simpa using hz)

theorem leHR_spec {ρ : Nat → Nat} {h : Heap} : ∀ {ys : Heap} {i : Nat}, leHR ρ h i ys → ∀ (j : Nat) (b : Blk), look ys j = some b → look h (ρ (i + j)) = some (b.ren ρ)
  | [], i, _, j, b, hb => by simp [look] at hb
  | y :: ys, i, ⟨h1, h2⟩, j, b, hb => by
    cases j with
    | zero => simp [look] at hb; subst hb; exact h1
    | succ j =>
      have := leHR_spec h2 j b (by simpa [look] using hb)
      rw [show i + (j + 1) = i + 1 + j by omega]; exact this

theorem liveR_mem {ρ : Nat → Nat} : ∀ {ys : Heap} {i : Nat} (j : Nat) (b : Blk), look ys j = some b → ρ (i + j) ∈ liveR ρ i ys
  | [], i, j, b, hb => by simp [look] at hb
  | y :: ys, i, j, b, hb => by
    cases j with
    | zero => simp [look] at hb; subst hb; exact .head _
    | succ j =>
      have := liveR_mem (ρ := ρ) (i := i + 1) j b (by simpa [look] using hb)
      rw [show i + (j + 1) = i + 1 + j by omega]
      cases y with
      | none => exact this
      | some y => exact .tail _ this

theorem liveR_inj {ρ : Nat → Nat} : ∀ {ys : Heap} {i : Nat}, (liveR ρ i ys).Nodup → ∀ (j j' : Nat) (b b' : Blk), look ys j = some b → look ys j' = some b' → ρ (i + j) = ρ (i + j') → j = j'
  | [], i, _, j, j', b, b', hb, _, _ => by simp [look] at hb
  | y :: ys, i, hn, j, j', b, b', hb, hb', he => by
    have ht : (liveR ρ (i + 1) ys).Nodup := by
      cases y with
      | none => exact hn
      | some y => exact (List.nodup_cons.1 hn).2
    cases j with
    | zero =>
      cases j' with
      | zero => rfl
      | succ j' =>
        simp [look] at hb; subst hb
        have := liveR_mem (ρ := ρ) (i := i + 1) j' b' (by simpa [look] using hb')
        rw [show i + 1 + j' = i + (j' + 1) by omega, ← he] at this
        exact absurd this (List.nodup_cons.1 hn).1
    | succ j =>
      cases j' with
      | zero =>
        simp [look] at hb'; subst hb'
        have := liveR_mem (ρ := ρ) (i := i + 1) j b (by simpa [look] using hb)
        rw [show i + 1 + j = i + (j + 1) by omega, he] at this
        exact absurd this (List.nodup_cons.1 hn).1
      | succ j' =>
        have := liveR_inj ht j j' b b' (by simpa [look] using hb) (by simpa [look] using hb') (by rw [show i + 1 + j = i + (j + 1) by omega, show i + 1 + j' = i + (j' + 1) by omega]; exact he)
        omega

theorem leR_of {n0 : Nat} {s s' : St} (m : List (Nat × Nat)) (h1 : leTR (renF m) s.tmps s'.tmps) (h2 : leHR (renF m) s.heap 0 s'.heap) (h3 : (liveR (renF m) 0 s'.heap).Nodup) (h4 : ∀ p ∈ m, n0 ≤ p.1) : s.LeR n0 (renF m) s' := by
  obtain ⟨a, b⟩ := leTR_spec h1
  refine ⟨a, b, fun b blk hb => ?_, fun b b' blk blk' hb hb' he => ?_, fun b hb => ?_⟩
  · have := leHR_spec h2 b blk hb; rwa [Nat.zero_add] at this
  · exact liveR_inj h3 b b' blk blk' hb hb' (by rw [Nat.zero_add, Nat.zero_add]; exact he)
  · have : ∀ l : List (Nat × Nat), (∀ p ∈ l, n0 ≤ p.1) → renF l b = b := by
      intro l
      induction l with
      | nil => intro _; rfl
      | cons p l ih =>
        intro h
        obtain ⟨x, y⟩ := p
        have := h (x, y) (.head _)
        simp only [renF]
        rw [if_neg (by simp at this; omega)]
        exact ih fun p hp => h p (.tail _ hp)
    exact this m h4

/-- The loop's next turn, under other numbers: m says, for each block that is elsewhere, (where the invariant has it, where it is now). -/
theorem againR {s s' : St} {n0 n k : Nat} {I : Nat → St → Prop} (m : List (Nat × Nat)) (h1 : leTR (renF m) s.tmps s'.tmps) (h2 : leHR (renF m) s.heap 0 s'.heap) (h3 : (liveR (renF m) 0 s'.heap).Nodup) (h4 : ∀ p ∈ m, n0 ≤ p.1)
    (h5 : s'.refsLt = true) (h6 : n0 ≤ s'.heap.length) (hm : k < n) (hI : I k s') : ∃ ρ s', s.LeR n0 ρ s' ∧ s'.refsLt = true ∧ n0 ≤ s'.heap.length ∧ ∃ m, m < n ∧ I m s' := ⟨_, s', leR_of m h1 h2 h3 h4, h5, h6, k, hm, hI⟩

section
variable {P : Program} {C : Cfg} {n0 : Nat} {zwrap : IntKind → Int → Int} {zadd : Int → Int → Int} {zsub : Int → Int → Int} {zmul : Int → Int → Int} {zquo : Int → Int → Int} {zrem : Int → Int → Int} {zshl : IntKind → Int → Int → Int} {zshr : IntKind → Int → Int → Int} {zband : IntKind → Int → Int → Int} {zbor : IntKind → Int → Int → Int} {zbxor : IntKind → Int → Int → Int} {zbandn : IntKind → Int → Int → Int} {zeq : Int → Int → Bool} {zne : Int → Int → Bool} {zlt : Int → Int → Bool} {zle : Int → Int → Bool} {znot : Bool → Bool} {zbeq : Bool → Bool → Bool} {zbne : Bool → Bool → Bool} {zmax : Int → Int → Int} {zmin : Int → Int → Int} {znat : Int → Nat} {zinb : Int → Nat → Bool} {zofN : Nat → Int} {zidx : Nat → Int → Nat} {zneq : Nat → Nat → Bool} {znadd : Nat → Nat → Nat} {zdif : Int → Int → Nat} {zcut : Int → Int → Nat → Bool} {zroom : Nat → Nat → Nat → Bool} {zmkok : Int → Int → Nat → Bool} {zlen : Rows → Nat} {znth : Rows → Nat → Option (List Tree)} {zsetr : Rows → Nat → List Tree → Rows} {zisI : IntKind → Rows → Nat → Bool} {zgetI : Rows → Nat → Int} {zsetI : IntKind → Rows → Nat → Int → Rows} {zfit : Nat → Nat → Rows → Bool} {zpart : Rows → Nat → Nat → Rows} {zext : Rows → Nat → Rows → Rows} {zsetg : Rows → Nat → Rows → Rows} {zrep : Nat → List Tree → Rows} {zwide : Nat → Rows → Bool} {zall : List Bool → Bool} {zmok : List (Value × Tree) → Value → Bool} {zmget : List (Value × Tree) → Value → Bool} {zmset : List (Value × Tree) → Value → Tree → List (Value × Tree)} {zW : IntKind → List Int → Rows} {zth : (α : Type) → (Unit → α) → α} {A : FuncId → List Arg → Res → Prop} {L : Code → St → (AExit → ST → Prop) → Prop}
theorem loopZR (hC : CfgOk P C) (hmix : P.follows .mixedOrders = true) (hS : Std P n0 zwrap zadd zsub zmul zquo zrem zshl zshr zband zbor zbxor zbandn zeq zne zlt zle znot zbeq zbne zmax zmin znat zinb zofN zidx zneq znadd zdif zcut zroom zmkok zlen znth zsetr zisI zgetI zsetI zfit zpart zext zsetg zrep zwide zall zmok zmget zmset zW zth A L) {c : Code} {st : St} {Q : AExit → ST → Prop} (I : Nat → St → Prop) {n : Nat} {s0 : St} (hl : st.Le s0) (hb : s0.refsLt = true) (hk : n0 ≤ s0.heap.length) (h0 : I n s0)
    (round : ∀ n s, I n s → CodeKZ (ZI.mk zwrap zadd zsub zmul zquo zrem zshl zshr zband zbor zbxor zbandn zeq zne zlt zle znot zbeq zbne zmax zmin znat zinb zofN zidx zneq znadd zdif zcut zroom zmkok zlen znth zsetr zisI zgetI zsetI zfit zpart zext zsetg zrep zwide zall zmok zmget zmset) C A L c (ST.ofSt s) fun e s => match e with
      | .normal => match s.toSt with
        | ⟨t, h⟩ => ∃ ρ s', (St.mk t h).LeR n0 ρ s' ∧ s'.refsLt = true ∧ n0 ≤ s'.heap.length ∧ ∃ m, m < n ∧ I m s'
      | .exit id => Q (.exit id) s
      | .ret => Q .ret s) : L c st Q := by
  rw [hS.z, hS.a, hS.l] at round
  rw [hS.l]
  refine fun hT => LoopP.introR hC hmix I hl hb hk h0 fun n s hI => ?_
  have := codeKZ_std c _ (ST.ofSt_ok s) hT (round n s hI)
  rw [ST.toSt_ofSt] at this
  refine codeK_mono c s this fun e s1 h1 => ?_
  obtain ⟨s', ho, rfl, h2⟩ := h1
  cases e with
  | normal => exact h2
  | exit id => exact ⟨s', ho, rfl, h2⟩
  | ret => exact ⟨s', ho, rfl, h2⟩

end
end Go.Abs
end

section
set_option linter.unusedVariables false
set_option linter.unusedSimpArgs false
set_option maxHeartbeats 8000000
set_option linter.unusedVariables false
set_option linter.unusedSimpArgs false
set_option maxRecDepth 100000
namespace Go.Proofs.YtpgbejgdmgpfjaaGreat
open Go Go.Abs Go.Abs.M Go.Proofs

end Go.Proofs.YtpgbejgdmgpfjaaGreat
end

section
set_option linter.unusedVariables false
set_option linter.unusedSimpArgs false
set_option maxHeartbeats 8000000
set_option linter.unusedVariables false
set_option linter.unusedSimpArgs false
set_option maxRecDepth 100000
namespace Go.Proofs.YtpgbejgdmgpfjaaGreat
open Go Go.Abs Go.Abs.M Go.Proofs

structure RW where
  n : Int
  d : Int
  k : Int
structure RW.ok (x : RW) : Prop where
  n1 : -128 ≤ x.n
  n2 : x.n < 128
  d1 : -128 ≤ x.d
  d2 : x.d < 128
  k1 : 0 ≤ x.k
  k2 : x.k < 256
def RW.row (x : RW) : List Tree := [.v (.int .i8 x.n), .v (.int .i8 x.d), .v (.int .u8 x.k)]
def RW.q (x : RW) : Rat := madeQ x.n x.d x.k
end Go.Proofs.YtpgbejgdmgpfjaaGreat
end

section
set_option linter.unusedVariables false
set_option linter.unusedSimpArgs false
set_option maxHeartbeats 8000000
set_option linter.unusedVariables false
set_option linter.unusedSimpArgs false
set_option maxRecDepth 100000
namespace Go.Proofs.YtpgbejgdmgpfjaaGreat
open Go Go.Abs Go.Abs.M Go.Proofs

theorem qsign_call {x : Int} {s t : Bool} {r q : Abs.Rows} (c : Int) (hx : IsI x s r) (hc : c = cmpI x 0) : ACall Tryz.prog 113 [.val (.agg (iT s r ++ iT t q))] ⟨[.val (ti .i64 c)], [none]⟩ := by
  have c1 := isign_call c hx hc
  refine callZ ccOk mixed [.val] Tryz.func113 rfl rfl (by kernel_rfl) fun zwrap zadd zsub zmul zquo zrem zshl zshr zband zbor zbxor zbandn zeq zne zlt zle znot zbeq zbne zmax zmin znat zinb zofN zidx zneq znadd zdif zcut zroom zmkok zlen znth zsetr zisI zgetI zsetI zfit zpart zext zsetg zrep zwide zall zmok zmget zmset zW zth A L F hS hF => ?_
  cbv
  refine ⟨_, hS.call (c1), ?_⟩
  cbv
  exact hF _ (ResLe.refl _)

theorem rqsign_call {x : Int} {s t : Bool} {r q : Abs.Rows} (c : Int) (hx : IsI x s r) (hc : c = cmpI x 0) : ACall Tryz.prog 51 [.val (.agg (iT s r ++ iT t q))] ⟨[.val (ti .i64 c)], [none]⟩ := by
  have c1 := rsign_call c hx hc
  refine callZ ccOk mixed [.val] Tryz.func51 rfl rfl (by kernel_rfl) fun zwrap zadd zsub zmul zquo zrem zshl zshr zband zbor zbxor zbandn zeq zne zlt zle znot zbeq zbne zmax zmin znat zinb zofN zidx zneq znadd zdif zcut zroom zmkok zlen znth zsetr zisI zgetI zsetI zfit zpart zext zsetg zrep zwide zall zmok zmget zmset zW zth A L F hS hF => ?_
  cbv
  refine ⟨_, hS.call (c1), ?_⟩
  cbv
  exact hF _ (ResLe.refl _)

theorem cmp00 (x : Int) : cmpI x 0 = 0 ↔ x = 0 := by
  unfold cmpI
  by_cases h : x < 0
  · rw [if_pos h]; omega
  · rw [if_neg h]; split <;> omega

end Go.Proofs.YtpgbejgdmgpfjaaGreat
end

section
set_option linter.unusedVariables false
set_option linter.unusedSimpArgs false
set_option maxHeartbeats 8000000
set_option linter.unusedVariables false
set_option linter.unusedSimpArgs false
set_option maxRecDepth 100000
namespace Go.Proofs.YtpgbejgdmgpfjaaGreat
open Go Go.Abs Go.Abs.M Go.Proofs

theorem gcd_nl {n d : Int} {k : Nat} (h1 : nl n.natAbs ≤ k) (h2 : nl d.natAbs ≤ k) : nl (Int.gcd n d : Int).natAbs ≤ k := by
  rw [Int.natAbs_natCast]
  by_cases h : n = 0
  · subst h
    have : Int.gcd 0 d = d.natAbs := by simp [Int.gcd]
    rw [this]; omega
  · have : Int.gcd n d ≤ n.natAbs := Nat.gcd_le_left _ (by omega)
    have := nl_mono this
    omega

theorem plowest_call {n d : Int} {s t : Bool} {r q : Abs.Rows} (hn : IsI n s r) (hd : IsI d t q) (hd0 : 0 < d) (h1 : nl n.natAbs ≤ 274877906944) (h2 : nl d.natAbs ≤ 274877906944) :
    ∃ u w v p, IsR (Rat.divInt n d) u w v p ∧ ACall Tryz.prog 140 [.val (.agg (iT s r)), .val (.agg (iT t q))] ⟨[.val (.agg (iT u w ++ iT v p))], [none, none]⟩ := by
  obtain ⟨b1, hb1, c1⟩ := qone_ex hd
  have ln := lowest_num (n := n) (d := d) (by omega)
  have ld := lowest_den (n := n) (d := d) (by omega)
  rw [if_neg (by omega)] at ln ld
  cases b1 with
  | true =>
    have h := hb1.1 rfl
    subst h
    refine ⟨s, r, t, q, ⟨by rw [← ln, Int.gcd_one_right]; simpa using hn, by rw [← ld, Int.gcd_one_right]; simpa using hd⟩, ?_⟩
    refine callZ ccOk mixed [.val] Tryz.func140 rfl rfl (by kernel_rfl) fun zwrap zadd zsub zmul zquo zrem zshl zshr zband zbor zbxor zbandn zeq zne zlt zle znot zbeq zbne zmax zmin znat zinb zofN zidx zneq znadd zdif zcut zroom zmkok zlen znth zsetr zisI zgetI zsetI zfit zpart zext zsetg zrep zwide zall zmok zmget zmset zW zth A L F hS hF => ?_
    cbv
    refine ⟨_, hS.call (c1), ?_⟩
    cbv
    refine bT ((rfl : true = true)) ?_
    exact hF _ (ResLe.refl _)
  | false =>
    obtain ⟨w, hw, c2⟩ := igcd_call hn hd h1 h2
    obtain ⟨b2, hb2, c3⟩ := qone_ex hw
    have hg0 : (Int.gcd n d : Int) ≠ 0 := by
      have : Int.gcd n d ≠ 0 := fun h => by have := (Int.gcd_eq_zero_iff.1 h).2; omega
      omega
    cases b2 with
    | true =>
      have h := hb2.1 rfl
      rw [h] at ln ld
      refine ⟨s, r, t, q, ⟨by rw [← ln, Int.ediv_one]; exact hn, by rw [← ld, Int.ediv_one]; exact hd⟩, ?_⟩
      refine callZ ccOk mixed [.val] Tryz.func140 rfl rfl (by kernel_rfl) fun zwrap zadd zsub zmul zquo zrem zshl zshr zband zbor zbxor zbandn zeq zne zlt zle znot zbeq zbne zmax zmin znat zinb zofN zidx zneq znadd zdif zcut zroom zmkok zlen znth zsetr zisI zgetI zsetI zfit zpart zext zsetg zrep zwide zall zmok zmget zmset zW zth A L F hS hF => ?_
      cbv
      refine ⟨_, hS.call (c1), ?_⟩
      cbv
      refine bF ((rfl : false = false)) ?_
      refine ⟨_, hS.call (c2), ?_⟩
      cbv
      refine ⟨_, hS.call (c3), ?_⟩
      cbv
      refine bT ((rfl : true = true)) ?_
      exact hF _ (ResLe.refl _)
    | false =>
      have hgl := gcd_nl h1 h2
      obtain ⟨a, b, _, e1, _, c4⟩ := idivmod_call hn hw hg0 h1 hgl
      obtain ⟨a', b', _, e2, _, c5⟩ := idivmod_call hd hw hg0 h2 hgl
      refine ⟨a, b, a', b', ⟨e1.of ln, e2.of ld⟩, ?_⟩
      refine callZ ccOk mixed [.val] Tryz.func140 rfl rfl (by kernel_rfl) fun zwrap zadd zsub zmul zquo zrem zshl zshr zband zbor zbxor zbandn zeq zne zlt zle znot zbeq zbne zmax zmin znat zinb zofN zidx zneq znadd zdif zcut zroom zmkok zlen znth zsetr zisI zgetI zsetI zfit zpart zext zsetg zrep zwide zall zmok zmget zmset zW zth A L F hS hF => ?_
      cbv
      refine ⟨_, hS.call (c1), ?_⟩
      cbv
      refine bF ((rfl : false = false)) ?_
      refine ⟨_, hS.call (c2), ?_⟩
      cbv
      refine ⟨_, hS.call (c3), ?_⟩
      cbv
      refine bF ((rfl : false = false)) ?_
      refine ⟨_, hS.call (c4), ?_⟩
      cbv
      refine ⟨_, hS.call (c5), ?_⟩
      cbv
      exact hF _ (ResLe.refl _)

theorem padd_call {x y : Rat} {s t s' t' : Bool} {r q r' q' : Abs.Rows} (hx : IsR x s r t q) (hy : IsR y s' r' t' q') (h1 : Qs x 68719476736) (h2 : Qs y 68719476736) :
    ∃ u w v p, IsR (x + y) u w v p ∧ ACall Tryz.prog 93 [.val (.agg (iT s r ++ iT t q)), .val (.agg (iT s' r' ++ iT t' q'))] ⟨[.val (.agg (iT u w ++ iT v p))], [none, none]⟩ := by
  obtain ⟨x1, x2⟩ := h1
  obtain ⟨y1, y2⟩ := h2
  have n1 := nl_mul x.num.natAbs y.den
  have n2 := nl_mul y.num.natAbs x.den
  have n3 := nl_mul x.den y.den
  have hx0 := x.den_pos
  have hy0 := y.den_pos
  obtain ⟨a, b, ha, ca⟩ := pproduct_call hx.n hy.d (by omega) (by rw [Int.natAbs_natCast]; omega)
  obtain ⟨a', b', ha', ca'⟩ := pproduct_call hy.n hx.d (by omega) (by rw [Int.natAbs_natCast]; omega)
  have m1 : nl (x.num * y.den).natAbs ≤ 137438953472 := by rw [Int.natAbs_mul, Int.natAbs_natCast]; omega
  have m2 : nl (y.num * x.den).natAbs ≤ 137438953472 := by rw [Int.natAbs_mul, Int.natAbs_natCast]; omega
  obtain ⟨e, f, he, ce⟩ := iadd_call ha ha' (by omega) (by omega)
  obtain ⟨c, d, hc, cc⟩ := pproduct_call hx.d hy.d (by rw [Int.natAbs_natCast]; omega) (by rw [Int.natAbs_natCast]; omega)
  obtain ⟨u, w, v, p, hu, cl⟩ := plowest_call he hc (Int.mul_pos (by omega) (by omega))
    (by
      have := nl_mono (Int.natAbs_add_le (x.num * y.den) (y.num * x.den))
      have := nl_add (x.num * y.den).natAbs (y.num * x.den).natAbs
      omega)
    (by rw [Int.natAbs_mul, Int.natAbs_natCast, Int.natAbs_natCast]; omega)
  refine ⟨u, w, v, p, ?_, ?_⟩
  · rw [← Rat.divInt_add_divInt _ _ (by omega) (by omega), Rat.num_divInt_den, Rat.num_divInt_den] at hu
    exact hu
  refine callZ ccOk mixed [.val] Tryz.func93 rfl rfl (by kernel_rfl) fun zwrap zadd zsub zmul zquo zrem zshl zshr zband zbor zbxor zbandn zeq zne zlt zle znot zbeq zbne zmax zmin znat zinb zofN zidx zneq znadd zdif zcut zroom zmkok zlen znth zsetr zisI zgetI zsetI zfit zpart zext zsetg zrep zwide zall zmok zmget zmset zW zth A L F hS hF => ?_
  have zf : ∀ (a b : Bool) (c d : Abs.Rows), zfit 0 2 [[.v (.bool a), .lst false c], [.v (.bool b), .lst false d]] = true := fun a b c d => by rw [hS.fit]; rfl
  have zp : ∀ (a b : Bool) (c d : Abs.Rows), zpart [[.v (.bool a), .lst false c], [.v (.bool b), .lst false d]] 0 2 = [[.v (.bool a), .lst false c], [.v (.bool b), .lst false d]] := fun a b c d => by rw [hS.part]; rfl
  cbv
  refine nd (zf ..) ?_
  rw [zp]
  refine ⟨_, hS.call (ca), ?_⟩
  cbv
  refine nd (zf ..) ?_
  rw [zp]
  refine ⟨_, hS.call (ca'), ?_⟩
  cbv
  refine ⟨_, hS.call (ce), ?_⟩
  cbv
  refine nd (zf ..) ?_
  rw [zp]
  refine ⟨_, hS.call (cc), ?_⟩
  cbv
  refine ⟨_, hS.call (cl), ?_⟩
  cbv
  exact hF _ (ResLe.refl _)

theorem Qs.neg {x : Rat} {k : Nat} (h : Qs x k) : Qs (-x) k := ⟨by show nl (-x.num).natAbs ≤ k; rw [Int.natAbs_neg]; exact h.1, h.2⟩

theorem psub_call {x y : Rat} {s t s' t' : Bool} {r q r' q' : Abs.Rows} (hx : IsR x s r t q) (hy : IsR y s' r' t' q') (h1 : Qs x 68719476736) (h2 : Qs y 68719476736) :
    ∃ u w v p, IsR (x - y) u w v p ∧ ACall Tryz.prog 123 [.val (.agg (iT s r ++ iT t q)), .val (.agg (iT s' r' ++ iT t' q'))] ⟨[.val (.agg (iT u w ++ iT v p))], [none, none]⟩ := by
  obtain ⟨a, b, hn, c1⟩ := pneg_call hy h2
  obtain ⟨u, w, v, p, h, c2⟩ := padd_call hx hn h1 h2.neg
  refine ⟨u, w, v, p, by rw [Rat.sub_eq_add_neg]; exact h, ?_⟩
  refine callZ ccOk mixed [.val] Tryz.func123 rfl rfl (by kernel_rfl) fun zwrap zadd zsub zmul zquo zrem zshl zshr zband zbor zbxor zbandn zeq zne zlt zle znot zbeq zbne zmax zmin znat zinb zofN zidx zneq znadd zdif zcut zroom zmkok zlen znth zsetr zisI zgetI zsetI zfit zpart zext zsetg zrep zwide zall zmok zmget zmset zW zth A L F hS hF => ?_
  cbv
  refine ⟨_, hS.call (c1), ?_⟩
  cbv
  refine ⟨_, hS.call (c2), ?_⟩
  cbv
  exact hF _ (ResLe.refl _)

theorem divInt_red {n d : Int} (hd : 0 < d) (hg : Int.gcd n d = 1) : (Rat.divInt n d).num = n ∧ ((Rat.divInt n d).den : Int) = d := by
  have ln := lowest_num (n := n) (d := d) (by omega)
  have ld := lowest_den (n := n) (d := d) (by omega)
  rw [if_neg (by omega), hg] at ln ld
  exact ⟨by rw [← ln]; simp, by rw [← ld]; simp⟩

theorem divInt_dvd {n d : Int} (hd : 0 < d) : (Rat.divInt n d).num ∣ n ∧ ((Rat.divInt n d).den : Int) ∣ d := by
  have ln := lowest_num (n := n) (d := d) (by omega)
  have ld := lowest_den (n := n) (d := d) (by omega)
  rw [if_neg (by omega)] at ln ld
  exact ⟨by rw [← ln]; exact Int.ediv_dvd_of_dvd (Int.gcd_dvd_left ..), by rw [← ld]; exact Int.ediv_dvd_of_dvd (Int.gcd_dvd_right ..)⟩

theorem cop_dvd {a b c d : Int} (h : Int.gcd a b = 1) (h1 : c ∣ a) (h2 : d ∣ b) : Int.gcd c d = 1 := by
  have := Int.gcd_dvd_gcd_of_dvd_left b h1
  have h3 := Int.gcd_dvd_gcd_of_dvd_right c h2
  rw [h] at this
  exact Nat.dvd_one.1 (Nat.dvd_trans h3 this)

theorem rat_red (x : Rat) : Int.gcd x.num x.den = 1 := by
  have := x.reduced
  unfold Nat.Coprime at this
  unfold Int.gcd
  rw [Int.natAbs_natCast]; exact this

/-- A product, out of the two crosswise fractions. -/
theorem mul_cross (x y : Rat) : (x * y).num = (Rat.divInt x.num y.den).num * (Rat.divInt y.num x.den).num ∧ ((x * y).den : Int) = (Rat.divInt x.num y.den).den * (Rat.divInt y.num x.den).den := by
  have hx := x.den_pos
  have hy := y.den_pos
  obtain ⟨a1, a2⟩ := divInt_dvd (n := x.num) (d := y.den) (by omega)
  obtain ⟨b1, b2⟩ := divInt_dvd (n := y.num) (d := x.den) (by omega)
  have e : x * y = Rat.divInt x.num y.den * Rat.divInt y.num x.den := by
    rw [Rat.divInt_mul_divInt, Int.mul_comm (y.den : Int), ← Rat.divInt_mul_divInt, Rat.num_divInt_den, Rat.num_divInt_den]
  generalize hl : Rat.divInt x.num y.den = l at *
  generalize hr : Rat.divInt y.num x.den = r at *
  have hl0 := l.den_pos
  have hr0 := r.den_pos
  have g1 := cop_dvd (rat_red x) a1 b2
  have g2 := cop_dvd (rat_red y) b1 a2
  have hg : Int.gcd (l.num * r.num) (l.den * r.den) = 1 := by
    have c1 : Nat.Coprime l.num.natAbs (l.den : Int).natAbs := rat_red l
    have c2 : Nat.Coprime r.num.natAbs (r.den : Int).natAbs := rat_red r
    have c3 : Nat.Coprime l.num.natAbs (r.den : Int).natAbs := g1
    have c4 : Nat.Coprime r.num.natAbs (l.den : Int).natAbs := g2
    show Nat.gcd (l.num * r.num).natAbs ((l.den : Int) * r.den).natAbs = 1
    rw [Int.natAbs_mul, Int.natAbs_mul]
    exact Nat.Coprime.mul_left (Nat.Coprime.mul_right c1 c3) (Nat.Coprime.mul_right c4 c2)
  have e2 : x * y = Rat.divInt (l.num * r.num) (l.den * r.den) := by
    rw [e, ← Rat.divInt_mul_divInt, Rat.num_divInt_den, Rat.num_divInt_den]
  rw [e2]
  exact divInt_red (Int.mul_pos (by omega) (by omega)) hg

theorem pmul_call {x y : Rat} {s t s' t' : Bool} {r q r' q' : Abs.Rows} (hx : IsR x s r t q) (hy : IsR y s' r' t' q') (h1 : Qs x 68719476736) (h2 : Qs y 68719476736) :
    ∃ u w v p, IsR (x * y) u w v p ∧ ACall Tryz.prog 99 [.val (.agg (iT s r ++ iT t q)), .val (.agg (iT s' r' ++ iT t' q'))] ⟨[.val (.agg (iT u w ++ iT v p))], [none, none]⟩ := by
  obtain ⟨x1, x2⟩ := h1
  obtain ⟨y1, y2⟩ := h2
  have hx0 := x.den_pos
  have hy0 := y.den_pos
  obtain ⟨a, b, c, d, hl, cl⟩ := plowest_call hx.n hy.d (by omega) (by omega) (by rw [Int.natAbs_natCast]; omega)
  obtain ⟨a', b', c', d', hr, cr⟩ := plowest_call hy.n hx.d (by omega) (by omega) (by rw [Int.natAbs_natCast]; omega)
  obtain ⟨e1, e2⟩ := mul_cross x y
  obtain ⟨k1, k2⟩ := divInt_small (n := x.num) (d := y.den) (k := 68719476736) (by omega) (by omega) (by rw [Int.natAbs_natCast]; omega)
  obtain ⟨k3, k4⟩ := divInt_small (n := y.num) (d := x.den) (k := 68719476736) (by omega) (by omega) (by rw [Int.natAbs_natCast]; omega)
  obtain ⟨u, w, hn, cn⟩ := pproduct_call hl.n hr.n (by omega) (by omega)
  obtain ⟨v, p, hd, cd⟩ := pproduct_call hl.d hr.d (by rw [Int.natAbs_natCast]; omega) (by rw [Int.natAbs_natCast]; omega)
  refine ⟨u, w, v, p, ⟨hn.of e1.symm, hd.of e2.symm⟩, ?_⟩
  refine callZ ccOk mixed [.val] Tryz.func99 rfl rfl (by kernel_rfl) fun zwrap zadd zsub zmul zquo zrem zshl zshr zband zbor zbxor zbandn zeq zne zlt zle znot zbeq zbne zmax zmin znat zinb zofN zidx zneq znadd zdif zcut zroom zmkok zlen znth zsetr zisI zgetI zsetI zfit zpart zext zsetg zrep zwide zall zmok zmget zmset zW zth A L F hS hF => ?_
  have zf : ∀ (a b : Bool) (c d : Abs.Rows), zfit 0 2 [[.v (.bool a), .lst false c], [.v (.bool b), .lst false d]] = true := fun a b c d => by rw [hS.fit]; rfl
  have zp : ∀ (a b : Bool) (c d : Abs.Rows), zpart [[.v (.bool a), .lst false c], [.v (.bool b), .lst false d]] 0 2 = [[.v (.bool a), .lst false c], [.v (.bool b), .lst false d]] := fun a b c d => by rw [hS.part]; rfl
  cbv
  refine ⟨_, hS.call (cl), ?_⟩
  cbv
  refine ⟨_, hS.call (cr), ?_⟩
  cbv
  refine nd (zf ..) ?_
  rw [zp]
  refine ⟨_, hS.call (cn), ?_⟩
  cbv
  refine nd (zf ..) ?_
  rw [zp]
  refine ⟨_, hS.call (cd), ?_⟩
  cbv
  exact hF _ (ResLe.refl _)

/-- How numbers compare. -/
def cmpQ (x y : Rat) : Int := if x < y then -1 else if y < x then 1 else 0

theorem cmpQ_cross (x y : Rat) : cmpQ x y = cmpI (x.num * y.den) (y.num * x.den) := by
  unfold cmpQ cmpI
  by_cases h : x < y
  · rw [if_pos h, if_pos ((Rat.lt_iff x y).1 h)]
  · rw [if_neg h, if_neg (fun h' => h ((Rat.lt_iff x y).2 h'))]
    by_cases h2 : y < x
    · rw [if_pos h2, if_pos ((Rat.lt_iff y x).1 h2)]
    · rw [if_neg h2, if_neg (fun h' => h2 ((Rat.lt_iff y x).2 h'))]

theorem cmpI_signs {a b c d : Int} (hc : 0 < c) (hd : 0 < d) (h : cmpI a 0 ≠ cmpI b 0) : cmpI (a * d) (b * c) = if cmpI a 0 < cmpI b 0 then -1 else 1 := by
  have key : ∀ {x y : Int}, 0 < y → (0 < x → 0 < x * y) ∧ (x < 0 → x * y < 0) ∧ (x = 0 → x * y = 0) := fun {x y} hy => ⟨fun h => Int.mul_pos h hy, fun h => Int.mul_neg_of_neg_of_pos h hy, fun h => by rw [h, Int.zero_mul]⟩
  obtain ⟨a1, a2, a3⟩ := key (x := a) hd
  obtain ⟨b1, b2, b3⟩ := key (x := b) hc
  generalize a * d = A at *
  generalize b * c = B at *
  unfold cmpI at h ⊢
  rcases Int.lt_trichotomy a 0 with ha | ha | ha <;> rcases Int.lt_trichotomy b 0 with hb | hb | hb
  all_goals (repeat' split) <;> omega

theorem pcmp_call {x y : Rat} {s t s' t' : Bool} {r q r' q' : Abs.Rows} (c : Int) (hx : IsR x s r t q) (hy : IsR y s' r' t' q') (hc : c = cmpQ x y) (h1 : Qs x 68719476736) (h2 : Qs y 68719476736) :
    ACall Tryz.prog 67 [.val (.agg (iT s r ++ iT t q)), .val (.agg (iT s' r' ++ iT t' q'))] ⟨[.val (ti .i64 c)], [none, none]⟩ := by
  obtain ⟨x1, x2⟩ := h1
  obtain ⟨y1, y2⟩ := h2
  have hx0 := x.den_pos
  have hy0 := y.den_pos
  have n1 := nl_mul x.num.natAbs y.den
  have n2 := nl_mul y.num.natAbs x.den
  rw [cmpQ_cross] at hc
  have cx := qsign_call (t := t) (q := q) (cmpI x.num 0) hx.n rfl
  have cy := qsign_call (t := t') (q := q') (cmpI y.num 0) hy.n rfl
  obtain ⟨a, b, ha, ca⟩ := pproduct_call hx.n hy.d (by omega) (by rw [Int.natAbs_natCast]; omega)
  obtain ⟨a', b', ha', ca'⟩ := pproduct_call hy.n hx.d (by omega) (by rw [Int.natAbs_natCast]; omega)
  have m1 : nl (x.num * y.den).natAbs ≤ 2199023255552 := by rw [Int.natAbs_mul, Int.natAbs_natCast]; omega
  have m2 : nl (y.num * x.den).natAbs ≤ 2199023255552 := by rw [Int.natAbs_mul, Int.natAbs_natCast]; omega
  have cc := icmp_call c ha ha' hc m1 m2
  have hsg := cmpI_signs (a := x.num) (b := y.num) (c := x.den) (d := y.den) (by omega) (by omega)
  rw [← hc] at hsg
  generalize cmpI x.num 0 = sx at *
  generalize cmpI y.num 0 = sy at *
  clear hc
  refine callZ ccOk mixed [.val] Tryz.func67 rfl rfl (by kernel_rfl) fun zwrap zadd zsub zmul zquo zrem zshl zshr zband zbor zbxor zbandn zeq zne zlt zle znot zbeq zbne zmax zmin znat zinb zofN zidx zneq znadd zdif zcut zroom zmkok zlen znth zsetr zisI zgetI zsetI zfit zpart zext zsetg zrep zwide zall zmok zmget zmset zW zth A L F hS hF => ?_
  have zf : ∀ (a b : Bool) (c d : Abs.Rows), zfit 0 2 [[.v (.bool a), .lst false c], [.v (.bool b), .lst false d]] = true := fun a b c d => by rw [hS.fit]; rfl
  have zp : ∀ (a b : Bool) (c d : Abs.Rows), zpart [[.v (.bool a), .lst false c], [.v (.bool b), .lst false d]] 0 2 = [[.v (.bool a), .lst false c], [.v (.bool b), .lst false d]] := fun a b c d => by rw [hS.part]; rfl
  have e1 : zne sx sy = decide (sx ≠ sy) := hS.ne ..
  have e2 : zlt sx sy = decide (sx < sy) := hS.lt ..
  by_cases h : sx ≠ sy
  · have hcc := hsg h
    rw [decide_eq_true h] at e1
    by_cases h2 : sx < sy
    · rw [if_pos h2] at hcc
      rw [decide_eq_true h2] at e2
      subst hcc
      cbv
      refine ⟨_, hS.call (cx), ?_⟩
      cbv
      refine ⟨_, hS.call (cy), ?_⟩
      cbv
      refine bT (e1) ?_
      refine bT (e2) ?_
      exact hF _ (ResLe.refl _)
    · rw [if_neg h2] at hcc
      rw [decide_eq_false h2] at e2
      subst hcc
      cbv
      refine ⟨_, hS.call (cx), ?_⟩
      cbv
      refine ⟨_, hS.call (cy), ?_⟩
      cbv
      refine bT (e1) ?_
      refine bF (e2) ?_
      exact hF _ (ResLe.refl _)
  · rw [decide_eq_false h] at e1
    cbv
    refine ⟨_, hS.call (cx), ?_⟩
    cbv
    refine ⟨_, hS.call (cy), ?_⟩
    cbv
    refine bF (e1) ?_
    refine nd (zf ..) ?_
    rw [zp]
    refine ⟨_, hS.call (ca), ?_⟩
    cbv
    refine nd (zf ..) ?_
    rw [zp]
    refine ⟨_, hS.call (ca'), ?_⟩
    cbv
    refine ⟨_, hS.call (cc), ?_⟩
    cbv
    exact hF _ (ResLe.refl _)

theorem inv_nd {x : Rat} (h : x ≠ 0) : (x⁻¹).num = (if x.num < 0 then -(x.den : Int) else x.den) ∧ ((x⁻¹).den : Int) = if x.num < 0 then -x.num else x.num := by
  have hn : x.num ≠ 0 := fun e => h (Rat.num_eq_zero.1 e)
  have hd := x.den_pos
  rw [Rat.inv_def]
  have ln := lowest_num (n := (x.den : Int)) (d := x.num) hn
  have ld := lowest_den (n := (x.den : Int)) (d := x.num) hn
  have hg : Int.gcd (x.den : Int) x.num = 1 := by rw [Int.gcd_comm]; exact rat_red x
  rw [hg] at ln ld
  rw [← ln, ← ld]
  by_cases h0 : x.num < 0
  · rw [if_pos h0, if_pos h0, if_pos h0]; simp
  · rw [if_neg h0, if_neg h0, if_neg h0]; simp

end Go.Proofs.YtpgbejgdmgpfjaaGreat
end

section
set_option linter.unusedVariables false
set_option linter.unusedSimpArgs false
set_option maxHeartbeats 8000000
set_option linter.unusedVariables false
set_option linter.unusedSimpArgs false
set_option maxRecDepth 100000
namespace Go.Proofs.YtpgbejgdmgpfjaaGreat
open Go Go.Abs Go.Abs.M Go.Proofs

theorem rqneg_call {x : Rat} {s t : Bool} {r q : Abs.Rows} (hx : IsR x s r t q) (h1 : Qs x 68719476736) :
    ∃ u w, IsR (-x) u w t q ∧ ACall Tryz.prog 81 [.val (.agg (iT s r ++ iT t q))] ⟨[.val (.agg (iT u w ++ iT t q))], [none]⟩ := by
  obtain ⟨u, w, h, c⟩ := rneg_call hx.n (by have := h1.1; omega)
  refine ⟨u, w, ⟨h, hx.d⟩, ?_⟩
  refine callZ ccOk mixed [.val] Tryz.func81 rfl rfl (by kernel_rfl) fun zwrap zadd zsub zmul zquo zrem zshl zshr zband zbor zbxor zbandn zeq zne zlt zle znot zbeq zbne zmax zmin znat zinb zofN zidx zneq znadd zdif zcut zroom zmkok zlen znth zsetr zisI zgetI zsetI zfit zpart zext zsetg zrep zwide zall zmok zmget zmset zW zth A L F hS hF => ?_
  cbv
  refine ⟨_, hS.call (c), ?_⟩
  cbv
  exact hF _ (ResLe.refl _)

theorem rqWhole_call (n : Int) (h1 : -9223372036854775808 ≤ n) (h2 : n < 9223372036854775808) : ∃ s r v p, IsR (n : Rat) s r v p ∧ ACall Tryz.prog 29 [.val (ti .i64 n)] ⟨[.val (.agg (iT s r ++ iT v p))], [none]⟩ := by
  obtain ⟨s, r, h, c⟩ := rof_call n h1 h2
  obtain ⟨v, p, h3, c2⟩ := rof_call 1 (by omega) (by omega)
  refine ⟨s, r, v, p, ⟨by rw [Rat.num_intCast]; exact h, by rw [Rat.den_intCast]; exact h3⟩, ?_⟩
  refine callZ ccOk mixed [.val] Tryz.func29 rfl rfl (by kernel_rfl) fun zwrap zadd zsub zmul zquo zrem zshl zshr zband zbor zbxor zbandn zeq zne zlt zle znot zbeq zbne zmax zmin znat zinb zofN zidx zneq znadd zdif zcut zroom zmkok zlen znth zsetr zisI zgetI zsetI zfit zpart zext zsetg zrep zwide zall zmok zmget zmset zW zth A L F hS hF => ?_
  cbv
  refine ⟨_, hS.call (c), ?_⟩
  cbv
  refine ⟨_, hS.call (c2), ?_⟩
  cbv
  exact hF _ (ResLe.refl _)

theorem rqsub_call {x y : Rat} {s t s' t' : Bool} {r q r' q' : Abs.Rows} (hx : IsR x s r t q) (hy : IsR y s' r' t' q') (h1 : Qs x 68719476736) (h2 : Qs y 68719476736) :
    ∃ u w v p, IsR (x - y) u w v p ∧ ACall Tryz.prog 32 [.val (.agg (iT s r ++ iT t q)), .val (.agg (iT s' r' ++ iT t' q'))] ⟨[.val (.agg (iT u w ++ iT v p))], [none, none]⟩ := by
  obtain ⟨a, b, hn, c1⟩ := rqneg_call hy h2
  obtain ⟨u, w, v, p, h, c2⟩ := qadd_call hx hn h1 h2.neg
  refine ⟨u, w, v, p, by rw [Rat.sub_eq_add_neg]; exact h, ?_⟩
  refine callZ ccOk mixed [.val] Tryz.func32 rfl rfl (by kernel_rfl) fun zwrap zadd zsub zmul zquo zrem zshl zshr zband zbor zbxor zbandn zeq zne zlt zle znot zbeq zbne zmax zmin znat zinb zofN zidx zneq znadd zdif zcut zroom zmkok zlen znth zsetr zisI zgetI zsetI zfit zpart zext zsetg zrep zwide zall zmok zmget zmset zW zth A L F hS hF => ?_
  cbv
  refine ⟨_, hS.call (c1), ?_⟩
  cbv
  refine ⟨_, hS.call (c2), ?_⟩
  cbv
  exact hF _ (ResLe.refl _)

theorem rqcmp_call {x y : Rat} {s t s' t' : Bool} {r q r' q' : Abs.Rows} (c : Int) (hx : IsR x s r t q) (hy : IsR y s' r' t' q') (hc : c = cmpQ x y) (h1 : Qs x 68719476736) (h2 : Qs y 68719476736) :
    ACall Tryz.prog 68 [.val (.agg (iT s r ++ iT t q)), .val (.agg (iT s' r' ++ iT t' q'))] ⟨[.val (ti .i64 c)], [none, none]⟩ := by
  obtain ⟨x1, x2⟩ := h1
  obtain ⟨y1, y2⟩ := h2
  have n1 := nl_mul x.num.natAbs y.den
  have n2 := nl_mul y.num.natAbs x.den
  rw [cmpQ_cross] at hc
  obtain ⟨a, b, ha, ca⟩ := rmul_call hx.n hy.d (by omega) (by rw [Int.natAbs_natCast]; omega)
  obtain ⟨a', b', ha', ca'⟩ := rmul_call hy.n hx.d (by omega) (by rw [Int.natAbs_natCast]; omega)
  have m1 : nl (x.num * y.den).natAbs ≤ 2199023255552 := by rw [Int.natAbs_mul, Int.natAbs_natCast]; omega
  have m2 : nl (y.num * x.den).natAbs ≤ 2199023255552 := by rw [Int.natAbs_mul, Int.natAbs_natCast]; omega
  have cc := rcmp_call c ha ha' hc m1 m2
  refine callZ ccOk mixed [.val] Tryz.func68 rfl rfl (by kernel_rfl) fun zwrap zadd zsub zmul zquo zrem zshl zshr zband zbor zbxor zbandn zeq zne zlt zle znot zbeq zbne zmax zmin znat zinb zofN zidx zneq znadd zdif zcut zroom zmkok zlen znth zsetr zisI zgetI zsetI zfit zpart zext zsetg zrep zwide zall zmok zmget zmset zW zth A L F hS hF => ?_
  cbv
  refine ⟨_, hS.call (ca), ?_⟩
  cbv
  refine ⟨_, hS.call (ca'), ?_⟩
  cbv
  refine ⟨_, hS.call (cc), ?_⟩
  cbv
  exact hF _ (ResLe.refl _)

def qsameSt (s t : Bool) (r q : Abs.Rows) (i : Int) : St := mkSt 38 [.junk, .junk, .c (.ptr 2 0 0), .c (.ptr 3 0 0), .junk, vi .i64 i] [none, none, some (.var [.t (.v (.bool s)), .t (.lst false r)]), some (.var [.t (.v (.bool t)), .t (.lst false q)])]
theorem rqsameI_call {x y : Int} {s t : Bool} {r q : Abs.Rows} (hx : IsI x s r) (hy : IsI y t q) (hx1 : nl x.natAbs ≤ 2199023255552) : ACall Tryz.prog 82 [.val (.agg (iT s r)), .val (.agg (iT t q))] ⟨[.val (tb (decide (x = y)))], [none, none]⟩ := by
  have hl : r.length = nl x.natAbs := hx.m.len
  have hm : q.length = nl y.natAbs := hy.m.len
  have hne : s ≠ t → x ≠ y := fun h e => h (by rw [hx.s, hy.s, e])
  have hle : nl x.natAbs ≠ nl y.natAbs → x ≠ y := fun h e => h (by rw [e])
  have hwe : ∀ i, (dg x.natAbs).getD i 0 ≠ (dg y.natAbs).getD i 0 → x ≠ y := fun i h e => h (by rw [e])
  have heq : s = t → nl x.natAbs = nl y.natAbs → (dg x.natAbs).take (nl x.natAbs) = (dg y.natAbs).take (nl x.natAbs) → x = y := fun h1 h2 h3 => by
    have e1 : (dg x.natAbs).take (nl x.natAbs) = dg x.natAbs := List.take_of_length_le (Nat.le_refl _)
    have e2 : (dg y.natAbs).take (nl x.natAbs) = dg y.natAbs := List.take_of_length_le (by rw [h2]; exact Nat.le_refl _)
    rw [e1, e2] at h3
    have h4 := congrArg val h3
    rw [dg_val, dg_val] at h4
    have h5 := hx.s
    rw [h1, hy.s] at h5
    have h6 : (y < 0) ↔ (x < 0) := by
      constructor
      · intro h; rw [decide_eq_true h] at h5; exact of_decide_eq_true h5.symm
      · intro h; rw [decide_eq_true h] at h5; exact of_decide_eq_true h5
    omega
  have gx : ∀ i : Nat, ZI.std.getI r i = (dg x.natAbs).getD i 0 := fun i => by rw [hx.m, W_getI]
  have gy : ∀ i : Nat, ZI.std.getI q i = (dg y.natAbs).getD i 0 := fun i => by rw [hy.m, W_getI]
  have ix : ∀ i : Nat, i < nl x.natAbs → ZI.std.isI .u32 r i = true := fun i h => by rw [hx.m, W_isI]; exact decide_eq_true h
  have iy : ∀ i : Nat, i < nl y.natAbs → ZI.std.isI .u32 q i = true := fun i h => by rw [hy.m, W_isI]; exact decide_eq_true h
  have hstep : ∀ i : Nat, i < nl x.natAbs → nl x.natAbs = nl y.natAbs → (dg x.natAbs).take i = (dg y.natAbs).take i → (dg x.natAbs).getD i 0 = (dg y.natAbs).getD i 0 → (dg x.natAbs).take (i + 1) = (dg y.natAbs).take (i + 1) := fun i h h' h2 h3 => by
    have a1 : i < (dg x.natAbs).length := h
    have a2 : i < (dg y.natAbs).length := by have : i < nl y.natAbs := by omega
                                             exact this
    rw [List.take_succ_eq_append_getElem a1, List.take_succ_eq_append_getElem a2, h2]
    rw [List.getD_eq_getElem?_getD, List.getD_eq_getElem?_getD, List.getElem?_eq_getElem a1, List.getElem?_eq_getElem a2, Option.getD_some, Option.getD_some] at h3
    rw [h3]
  refine callZ ccOk mixed [.val] Tryz.func82 rfl rfl (by kernel_rfl) fun zwrap zadd zsub zmul zquo zrem zshl zshr zband zbor zbxor zbandn zeq zne zlt zle znot zbeq zbne zmax zmin znat zinb zofN zidx zneq znadd zdif zcut zroom zmkok zlen znth zsetr zisI zgetI zsetI zfit zpart zext zsetg zrep zwide zall zmok zmget zmset zW zth A L F hS hF => ?_
  have f0 : x ≠ y → F ⟨[.val (.c (.v (.bool false)))], [none, none]⟩ := fun h => fin1 hF (by rw [decide_eq_false h]; rfl)
  have f1 : x = y → F ⟨[.val (.c (.v (.bool true)))], [none, none]⟩ := fun h => fin1 hF (by rw [decide_eq_true h]; rfl)
  have e0 : zne (zofN (zlen r)) (zofN (zlen q)) = decide (nl x.natAbs ≠ nl y.natAbs) := by
    rw [hS.ne, hS.len, hS.len, hS.ofN, hS.ofN, hl, hm]
    by_cases h : nl x.natAbs = nl y.natAbs
    · rw [decide_eq_false (show ¬ nl x.natAbs ≠ nl y.natAbs by omega)]; exact decide_eq_false (by omega)
    · rw [decide_eq_true h]; exact decide_eq_true (by omega)
  have hlx : zlen r = nl x.natAbs := by rw [hS.len, hl]
  generalize hLx : nl x.natAbs = Lx at *
  cbv
  refine ⟨fun h => f0 ?_, fun h => ⟨fun h' => f0 ?_, fun h' => ?_⟩⟩
  all_goals rw [hS.bne] at h
  · exact hne (by intro e; subst e; simp at h)
  all_goals rw [e0] at h'
  · exact hle (of_decide_eq_true h')
  · have hst : s = t := by cases s <;> cases t <;> first | rfl | (simp at h)
    have hll : Lx = nl y.natAbs := by have := of_decide_eq_false h'; omega
    refine loopZ ccOk mixed hS (fun (k : Nat) s' => ∃ i : Nat, i + k = Lx ∧ (dg x.natAbs).take i = (dg y.natAbs).take i ∧ s' = qsameSt s t r q (zofN i)) (n := Lx) (s0 := qsameSt s t r q (zofN 0)) (le_of ?_ ?_) rfl (by show 2 ≤ 4; omega) ?_ ?_
    · simp [leT, qsameSt, mkSt, vi, hS.ofN]
    · simp [leH, qsameSt, mkSt]
    · exact ⟨0, by omega, rfl, rfl⟩
    · rintro k _ ⟨i, hi, he, rfl⟩
      obtain ⟨i1, hi1⟩ : ∃ i1, i1 = i + 1 := ⟨_, rfl⟩
      have c1 : zlt (zofN i) (zofN (zlen r)) = decide (k ≠ 0) := by
        rw [hlx, hS.lt, hS.ofN, hS.ofN]
        by_cases h : k = 0
        · rw [decide_eq_false (show ¬ k ≠ 0 by omega)]; exact decide_eq_false (by omega)
        · rw [decide_eq_true h]; exact decide_eq_true (by omega)
      have c2 : zle 0 (zofN i) = true := by rw [hS.le, hS.ofN]; exact decide_eq_true (by omega)
      have c3 : znat (zofN i) = i := by rw [hS.nat, hS.ofN]; omega
      have c4 : i < Lx → zisI .u32 r (znat (zofN i)) = true := fun h => by rw [c3, hS.isI]; exact ix i h
      have c5 : i < Lx → zisI .u32 q (znat (zofN i)) = true := fun h => by rw [c3, hS.isI]; exact iy i (by omega)
      have c6 : zne (zgetI r (znat (zofN i))) (zgetI q (znat (zofN i))) = decide ((dg x.natAbs).getD i 0 ≠ (dg y.natAbs).getD i 0) := by
        rw [c3, hS.ne, hS.getI, hS.getI, gx, gy]
      have c7 : i < Lx → zwrap .i64 (zadd (zofN i) 1) = zofN i1 := fun h => by rw [hS.wrap, hS.add, hS.ofN, hS.ofN, wrap_i64 (by omega) (by omega), hi1]; omega
      have nx : i < Lx → (dg x.natAbs).getD i 0 = (dg y.natAbs).getD i 0 → (dg x.natAbs).take i1 = (dg y.natAbs).take i1 := fun h h2 => by rw [hi1]; exact hstep i h hll he h2
      have ki : k ≠ 0 → i < Lx := by omega
      have k1 : k ≠ 0 → i1 + (k - 1) = Lx ∧ k - 1 < k := by omega
      have kz : k = 0 → x = y := fun h => heq hst hll (by rw [show i = Lx by omega] at he; exact he)
      clear hi hi1 hstep ix iy gx gy
      cbv
      refine ⟨fun h => ?_, fun h => f1 ?_⟩
      all_goals rw [c1] at h
      · have hk := of_decide_eq_true h
        refine nd c2 (nd (c4 (ki hk)) (nd c2 (nd (c5 (ki hk)) ⟨fun h2 => f0 ?_, fun h2 => ?_⟩)))
        all_goals rw [c6] at h2
        · exact hwe i (of_decide_eq_true h2)
        · rw [c7 (ki hk)]
          exact again (s' := qsameSt s t r q (zofN i1)) (m := k - 1) (by simp [leT, qsameSt, mkSt, vi]) (by simp [leH, qsameSt, mkSt]) rfl (by show 2 ≤ 4; omega) (k1 hk).2 ⟨i1, (k1 hk).1, nx (ki hk) (Decidable.not_not.mp (of_decide_eq_false h2)), rfl⟩
      · exact kz (Decidable.not_not.mp (of_decide_eq_false h))

theorem rqsame_call {x y : Rat} {s t s' t' : Bool} {r q r' q' : Abs.Rows} (b : Bool) (hx : IsR x s r t q) (hy : IsR y s' r' t' q') (hb : b = true ↔ x = y) (h1 : Qs x 68719476736) :
    ACall Tryz.prog 33 [.val (.agg (iT s r ++ iT t q)), .val (.agg (iT s' r' ++ iT t' q'))] ⟨[.val (tb b)], [none, none]⟩ := by
  have c1 := rqsameI_call hx.n hy.n (by have := h1.1; omega)
  have c2 := rqsameI_call hx.d hy.d (by rw [Int.natAbs_natCast]; have := h1.2; omega)
  have hne : x.num ≠ y.num → false = b := fun h => by
    cases b with
    | false => rfl
    | true => exact absurd (by rw [hb.1 rfl]) h
  have hde : x.num = y.num → decide ((x.den : Int) = y.den) = b := fun h => by
    cases b with
    | false => exact decide_eq_false fun h2 => absurd (hb.2 (Rat.ext h (by omega))) (by simp)
    | true => exact decide_eq_true (by rw [hb.1 rfl])
  by_cases h : x.num = y.num
  · rw [decide_eq_true h] at c1
    rw [hde h] at c2
    refine callZ ccOk mixed [.val] Tryz.func33 rfl rfl (by kernel_rfl) fun zwrap zadd zsub zmul zquo zrem zshl zshr zband zbor zbxor zbandn zeq zne zlt zle znot zbeq zbne zmax zmin znat zinb zofN zidx zneq znadd zdif zcut zroom zmkok zlen znth zsetr zisI zgetI zsetI zfit zpart zext zsetg zrep zwide zall zmok zmget zmset zW zth A L F hS hF => ?_
    cbv
    refine ⟨_, hS.call (c1), ?_⟩
    cbv
    refine bT ((rfl : true = true)) ?_
    refine ⟨_, hS.call (c2), ?_⟩
    cbv
    exact hF _ (ResLe.refl _)
  · rw [decide_eq_false h] at c1
    have hf := hne h
    subst hf
    refine callZ ccOk mixed [.val] Tryz.func33 rfl rfl (by kernel_rfl) fun zwrap zadd zsub zmul zquo zrem zshl zshr zband zbor zbxor zbandn zeq zne zlt zle znot zbeq zbne zmax zmin znat zinb zofN zidx zneq znadd zdif zcut zroom zmkok zlen znth zsetr zisI zgetI zsetI zfit zpart zext zsetg zrep zwide zall zmok zmget zmset zW zth A L F hS hF => ?_
    cbv
    refine ⟨_, hS.call (c1), ?_⟩
    cbv
    refine bF ((rfl : false = false)) ?_
    exact hF _ (ResLe.refl _)
end Go.Proofs.YtpgbejgdmgpfjaaGreat
end

section
set_option linter.unusedVariables false
set_option linter.unusedSimpArgs false
set_option maxHeartbeats 8000000
set_option linter.unusedVariables false
set_option linter.unusedSimpArgs false
set_option maxRecDepth 100000
namespace Go.Proofs.YtpgbejgdmgpfjaaGreat
open Go Go.Abs Go.Abs.M Go.Proofs

def rawZ : List Tree := [.v (.bool false), .lst true [], .v (.bool false), .lst true []]
end Go.Proofs.YtpgbejgdmgpfjaaGreat
end

section
set_option linter.unusedVariables false
set_option linter.unusedSimpArgs false
set_option maxHeartbeats 8000000
set_option linter.unusedVariables false
set_option linter.unusedSimpArgs false
set_option maxRecDepth 100000
namespace Go.Proofs.YtpgbejgdmgpfjaaGreat
open Go Go.Abs Go.Abs.M Go.Proofs

end Go.Proofs.YtpgbejgdmgpfjaaGreat
end

section
set_option linter.unusedVariables false
set_option linter.unusedSimpArgs false
set_option maxHeartbeats 8000000
set_option linter.unusedVariables false
set_option linter.unusedSimpArgs false
set_option maxRecDepth 100000
namespace Go.Proofs.YtpgbejgdmgpfjaaGreat
open Go Go.Abs Go.Abs.M Go.Proofs

/-- a + c x^k b, the end not trimmed. -/
def pshift (P : List Rat) (c : Rat) (B : List Rat) (k : Nat) : List Rat := pacc (P ++ List.replicate (max P.length (B.length + k) - P.length) 0) c B k

end Go.Proofs.YtpgbejgdmgpfjaaGreat
end

section
set_option linter.unusedVariables false
set_option linter.unusedSimpArgs false
set_option maxHeartbeats 8000000
set_option linter.unusedVariables false
set_option linter.unusedSimpArgs false
set_option maxRecDepth 100000
namespace Go.Proofs.YtpgbejgdmgpfjaaGreat
open Go Go.Abs Go.Abs.M Go.Proofs

theorem pshift_len (P : List Rat) (c : Rat) (B : List Rat) (k : Nat) : (pshift P c B k).length = max P.length (B.length + k) := by
  unfold pshift pacc
  rw [accL_len, List.length_append, List.length_replicate]
  omega

theorem pshift_get (P : List Rat) (c : Rat) (B : List Rat) (k j : Nat) : (pshift P c B k).getD j 0 = P.getD j 0 + if k ≤ j then c * B.getD (j - k) 0 else 0 := by
  have hp : ∀ m, (P ++ List.replicate m (0 : Rat)).getD j 0 = P.getD j 0 := fun m => by
    rw [List.getD_eq_getElem?_getD, List.getD_eq_getElem?_getD, List.getElem?_append]
    split
    · rfl
    · rename_i h
      rw [List.getElem?_eq_none (by omega : P.length ≤ j), List.getElem?_replicate]
      split <;> rfl
  unfold pshift pacc
  rw [accL_get _ _ (by rw [List.length_append, List.length_replicate]; omega), hp]
  by_cases h : k ≤ j
  · rw [if_pos h]
    by_cases h2 : j < k + B.length
    · rw [if_pos ⟨h, h2⟩]
    · rw [if_neg (by omega), List.getD_eq_getElem?_getD, List.getD_eq_getElem?_getD (l := B), List.getElem?_eq_none (by omega : B.length ≤ j - k)]
      rw [Option.getD_none, Rat.mul_zero, Rat.add_zero]
  · rw [if_neg (by omega), if_neg h, Rat.add_zero]

theorem Qs.whole {n : Int} {k : Nat} (h : n.natAbs < 4294967296) (hk : 1 ≤ k) : Qs ((n : Int) : Rat) k :=
  ⟨Nat.le_trans (nl_le_of (k := 1) (by simp only [Rat.num_intCast]; omega)) hk, Nat.le_trans (nl_le_of (k := 1) (by simp only [Rat.den_intCast]; omega)) hk⟩

end Go.Proofs.YtpgbejgdmgpfjaaGreat
end

section
set_option linter.unusedVariables false
set_option linter.unusedSimpArgs false
set_option maxHeartbeats 8000000
set_option linter.unusedVariables false
set_option linter.unusedSimpArgs false
set_option maxRecDepth 100000
namespace Go.Proofs.YtpgbejgdmgpfjaaGreat
open Go Go.Abs Go.Abs.M Go.Proofs

end Go.Proofs.YtpgbejgdmgpfjaaGreat
end

section
set_option linter.unusedVariables false
set_option linter.unusedSimpArgs false
set_option maxHeartbeats 8000000
set_option linter.unusedVariables false
set_option linter.unusedSimpArgs false
set_option maxRecDepth 100000
namespace Go.Proofs.YtpgbejgdmgpfjaaGreat
open Go Go.Abs Go.Abs.M Go.Proofs

/-- The product, the first i coefficients of a used. -/
def pmulL (P B : List Rat) (R : List Rat) : Nat → List Rat
  | 0 => R
  | i + 1 => pacc (pmulL P B R i) (P.getD i 0) B i
def pmul (P B : List Rat) : List Rat := pmulL P B (List.replicate (P.length + B.length - 1) 0) P.length

theorem pmulL_len (P B R : List Rat) : ∀ i, (pmulL P B R i).length = R.length
  | 0 => rfl
  | i + 1 => by unfold pmulL pacc; rw [accL_len, pmulL_len P B R i]

end Go.Proofs.YtpgbejgdmgpfjaaGreat
end

section
set_option linter.unusedVariables false
set_option linter.unusedSimpArgs false
set_option maxHeartbeats 8000000
set_option linter.unusedVariables false
namespace Go.Proofs.YtpgbejgdmgpfjaaGreat
open Go Go.Abs Go.Abs.M Go.Proofs

/-- The coefficient of x^j of a product, the first i coefficients of a used. -/
def csum (P B : List Rat) (j : Nat) : Nat → Rat
  | 0 => 0
  | i + 1 => csum P B j i + if i ≤ j then P.getD i 0 * B.getD (j - i) 0 else 0

theorem pacc_get (R B : List Rat) (c : Rat) (k j : Nat) (h : B.length + k ≤ R.length) : (pacc R c B k).getD j 0 = R.getD j 0 + if k ≤ j then c * B.getD (j - k) 0 else 0 := by
  unfold pacc
  rw [accL_get _ _ (by omega)]
  by_cases h1 : k ≤ j
  · rw [if_pos h1]
    by_cases h2 : j < k + B.length
    · rw [if_pos ⟨h1, h2⟩]
    · rw [if_neg (by omega), List.getD_eq_getElem?_getD (l := B), List.getElem?_eq_none (by omega : B.length ≤ j - k)]
      rw [Option.getD_none, Rat.mul_zero, Rat.add_zero]
  · rw [if_neg (by omega), if_neg h1, Rat.add_zero]

theorem pmulL_get {P B R : List Rat} (hl : P.length + B.length ≤ R.length + 1) (j : Nat) : ∀ i, i ≤ P.length → (pmulL P B R i).getD j 0 = R.getD j 0 + csum P B j i
  | 0, _ => by unfold pmulL csum; rw [Rat.add_zero]
  | i + 1, hi => by
    unfold pmulL csum
    rw [pacc_get _ _ _ _ _ (by rw [pmulL_len]; omega), pmulL_get hl j i (by omega), Rat.add_assoc]
end Go.Proofs.YtpgbejgdmgpfjaaGreat
end

section
set_option linter.unusedVariables false
set_option linter.unusedSimpArgs false
set_option maxHeartbeats 8000000
set_option linter.unusedVariables false
set_option linter.unusedSimpArgs false
set_option maxRecDepth 100000
namespace Go.Proofs.YtpgbejgdmgpfjaaGreat
open Go Go.Abs Go.Abs.M Go.Proofs

end Go.Proofs.YtpgbejgdmgpfjaaGreat
end

section
set_option linter.unusedVariables false
set_option linter.unusedSimpArgs false
/-
  Polynomials as lists of coefficients: lists with the same coefficients have the same trimmed list.
-/
set_option linter.unusedVariables false
namespace Go.Abs

theorem tlen_beyond (P : List Rat) : ∀ k, P.length ≤ k → tlen P k = tlen P P.length
  | 0, h => by rw [show P.length = 0 by omega]
  | k + 1, h => by
    by_cases hk : P.length = k + 1
    · rw [hk]
    · unfold tlen
      rw [if_pos (by rw [List.getD_eq_getElem?_getD, List.getElem?_eq_none (by omega)]; rfl), tlen_beyond P k (by omega)]
      cases hP : P.length <;> rfl

theorem tlen_congr {P Q : List Rat} (h : ∀ j, P.getD j 0 = Q.getD j 0) : ∀ k, tlen P k = tlen Q k
  | 0 => rfl
  | k + 1 => by unfold tlen; rw [h k, tlen_congr h k]

theorem ptrim_ext {P Q : List Rat} (h : ∀ j, P.getD j 0 = Q.getD j 0) : ptrim P = ptrim Q := by
  have e : tlen P P.length = tlen Q Q.length := by
    rw [← tlen_beyond P (max P.length Q.length) (by omega), ← tlen_beyond Q (max P.length Q.length) (by omega)]
    exact tlen_congr h _
  have h1 := tlen_le P P.length
  have h2 := tlen_le Q Q.length
  unfold ptrim
  refine List.ext_getElem? fun i => ?_
  rw [e, List.getElem?_take, List.getElem?_take]
  by_cases hi : i < tlen Q Q.length
  · rw [if_pos hi, if_pos hi]
    have hj := h i
    rw [List.getD_eq_getElem?_getD, List.getD_eq_getElem?_getD, List.getElem?_eq_getElem (by omega : i < P.length), List.getElem?_eq_getElem (by omega : i < Q.length)] at hj
    rw [List.getElem?_eq_getElem (by omega : i < P.length), List.getElem?_eq_getElem (by omega : i < Q.length)]
    exact congrArg some hj
  · rw [if_neg hi, if_neg hi]

theorem tlen_zero (P : List Rat) : ∀ k j, tlen P k ≤ j → j < k → P.getD j 0 = 0
  | 0, j, _, h => by omega
  | k + 1, j, h, h2 => by
    unfold tlen at h
    by_cases h0 : P.getD k 0 = 0
    · rw [if_pos h0] at h
      by_cases hj : j = k
      · rw [hj]; exact h0
      · exact tlen_zero P k j h (by omega)
    · rw [if_neg h0] at h; omega

theorem ptrim_get (P : List Rat) (j : Nat) : (ptrim P).getD j 0 = P.getD j 0 := by
  unfold ptrim
  rw [List.getD_eq_getElem?_getD, List.getElem?_take]
  by_cases h : j < tlen P P.length
  · rw [if_pos h, List.getD_eq_getElem?_getD]
  · rw [if_neg h, Option.getD_none]
    by_cases h2 : j < P.length
    · exact (tlen_zero P _ j (by omega) h2).symm
    · rw [List.getD_eq_getElem?_getD, List.getElem?_eq_none (by omega)]; rfl

theorem ptrim_idem (P : List Rat) : ptrim (ptrim P) = ptrim P := ptrim_ext (ptrim_get P)

theorem ptrim_len (P : List Rat) : (ptrim P).length ≤ P.length := by
  unfold ptrim
  rw [List.length_take]; omega

end Go.Abs
end

section
set_option linter.unusedVariables false
set_option linter.unusedSimpArgs false
set_option maxHeartbeats 8000000
set_option linter.unusedVariables false
set_option linter.unusedSimpArgs false
set_option maxRecDepth 100000
namespace Go.Proofs.YtpgbejgdmgpfjaaGreat
open Go Go.Abs Go.Abs.M Go.Proofs

end Go.Proofs.YtpgbejgdmgpfjaaGreat
end

section
set_option linter.unusedVariables false
set_option linter.unusedSimpArgs false
/-
  Values of polynomials: what a list of coefficients stands for is the function that it evaluates to.
-/
set_option linter.unusedVariables false
namespace Go.Abs

/-- The value of a list of coefficients. -/
def ev : List Rat → Rat → Rat
  | [], _ => 0
  | c :: P, x => c + x * ev P x

theorem ev_app (P Q : List Rat) (x : Rat) : ev (P ++ Q) x = ev P x + x ^ P.length * ev Q x := by
  induction P with
  | nil => simp [ev, Rat.zero_add, Rat.one_mul]
  | cons c P ih =>
    simp only [List.cons_append, ev, List.length_cons, Rat.pow_succ]
    rw [ih]
    grind

theorem ev_zeros (n : Nat) (x : Rat) : ev (List.replicate n 0) x = 0 := by
  induction n with
  | zero => rfl
  | succ n ih => simp only [List.replicate_succ, ev]; rw [ih]; grind

theorem ev_set (l : List Rat) (j : Nat) (d x : Rat) (h : j < l.length) : ev (l.set j d) x = ev l x + (d - l.getD j 0) * x ^ j := by
  induction l generalizing j with
  | nil => simp at h
  | cons c l ih =>
    cases j with
    | zero => simp only [List.set_cons_zero, ev, List.getD_cons_zero, Rat.pow_zero]; grind
    | succ j =>
      simp only [List.set_cons_succ, ev, List.getD_cons_succ, Rat.pow_succ]
      rw [ih j (by simpa using h)]; grind

theorem ev_ext {P Q : List Rat} (h : ∀ j, P.getD j 0 = Q.getD j 0) (x : Rat) : ev P x = ev Q x := by
  induction P generalizing Q with
  | nil =>
    induction Q with
    | nil => rfl
    | cons d Q ih =>
      have h0 := h 0
      simp at h0
      have := ih fun j => by have := h (j + 1); simpa using this
      simp only [ev] at this ⊢
      rw [← this, ← h0]; grind
  | cons c P ih =>
    cases Q with
    | nil =>
      have h0 := h 0
      simp at h0
      have := ih (Q := []) fun j => by have := h (j + 1); simpa using this
      simp only [ev] at this ⊢
      rw [this, h0]; grind
    | cons d Q =>
      have h0 := h 0
      simp at h0
      have := ih (Q := Q) fun j => by have := h (j + 1); simpa using this
      simp only [ev]
      rw [this, h0]

theorem ev_trim (P : List Rat) (x : Rat) : ev (ptrim P) x = ev P x := ev_ext (ptrim_get P) x

theorem ev_take_succ (B : List Rat) (i : Nat) (x : Rat) (h : i < B.length) : ev (B.take (i + 1)) x = ev (B.take i) x + B.getD i 0 * x ^ i := by
  rw [List.take_add_one, ev_app, List.length_take, Nat.min_eq_left (by omega), List.getD_eq_getElem?_getD, List.getElem?_eq_getElem h]
  simp only [Option.toList_some, ev, Option.getD_some]
  grind

theorem rpow_add (x : Rat) (m : Nat) : ∀ n, x ^ (m + n) = x ^ m * x ^ n
  | 0 => by simp [Rat.mul_one]
  | n + 1 => by rw [← Nat.add_assoc, Rat.pow_succ, Rat.pow_succ, rpow_add x m n, Rat.mul_assoc]

theorem ev_accL (R : List Rat) (c : Rat) (B : List Rat) (k : Nat) (x : Rat) (h : B.length + k ≤ R.length) : ∀ i, i ≤ B.length → ev (accL R c B k i) x = ev R x + c * x ^ k * ev (B.take i) x
  | 0, _ => by simp [accL, ev, Rat.mul_zero, Rat.add_zero]
  | i + 1, hi => by
    unfold accL
    rw [ev_set _ _ _ _ (by rw [accL_len]; omega), ev_accL R c B k x h i (by omega), ev_take_succ B i x (by omega), show i + k = k + i by omega, rpow_add]
    grind

theorem ev_pacc (R : List Rat) (c : Rat) (B : List Rat) (k : Nat) (x : Rat) (h : B.length + k ≤ R.length) : ev (pacc R c B k) x = ev R x + c * x ^ k * ev B x := by
  unfold pacc
  rw [ev_accL R c B k x h _ (Nat.le_refl _), List.take_length]

/-- The quotient of a list by x - r. -/
def syn : List Rat → Rat → List Rat
  | [], _ => []
  | [_], _ => []
  | _ :: d :: P, r => ev (d :: P) r :: syn (d :: P) r

theorem syn_len : ∀ (P : List Rat) (r : Rat), (syn P r).length = P.length - 1
  | [], _ => rfl
  | [_], _ => rfl
  | c :: d :: P, r => by simp only [syn, List.length_cons]; rw [syn_len (d :: P) r]; simp

theorem syn_ev : ∀ (P : List Rat) (r x : Rat), ev P x = ev P r + (x - r) * ev (syn P r) x
  | [], _, _ => by simp [ev, syn]; grind
  | [_], _, _ => by simp [ev, syn]; grind
  | c :: d :: P, r, x => by
    have ih := syn_ev (d :: P) r x
    have e1 : ev (c :: d :: P) x = c + x * ev (d :: P) x := rfl
    have e2 : ev (c :: d :: P) r = c + r * ev (d :: P) r := rfl
    have e3 : ev (syn (c :: d :: P) r) x = ev (d :: P) r + x * ev (syn (d :: P) r) x := rfl
    rw [e1, e2, e3, ih]
    grind

theorem syn_zero : ∀ (P : List Rat) (r : Rat), ev P r = 0 → (∀ j, (syn P r).getD j 0 = 0) → ∀ j, P.getD j 0 = 0
  | [], _, _, _, _ => by simp
  | [c], r, h, _, j => by
    simp [ev] at h
    cases j with
    | zero => simpa [Rat.mul_zero, Rat.add_zero] using h
    | succ j => simp
  | c :: d :: P, r, h, hs, j => by
    have h1 : ev (d :: P) r = 0 := by have := hs 0; simpa [syn] using this
    have ih := syn_zero (d :: P) r h1 fun j => by have := hs (j + 1); simpa [syn] using this
    have h2 : ev (c :: d :: P) r = c + r * ev (d :: P) r := rfl
    cases j with
    | zero => simp; grind
    | succ j => simpa using ih j

theorem ev_zero_aux : ∀ (n : Nat) (P : List Rat) (s : Rat), P.length ≤ n → (∀ x, s ≤ x → ev P x = 0) → ∀ j, P.getD j 0 = 0
  | 0, P, s, hl, _, j => by rw [List.length_eq_zero_iff.1 (by omega : P.length = 0)]; rfl
  | n + 1, P, s, hl, h, j => by
    have hs := h s Rat.le_refl
    refine syn_zero P s hs (ev_zero_aux n (syn P s) (s + 1) (by rw [syn_len]; omega) fun x hx => ?_) j
    have h1 := h x (by grind)
    have h2 := syn_ev P s x
    rw [h1, hs] at h2
    have h3 : x - s ≠ 0 := by grind
    have h4 : (x - s) * ev (syn P s) x = 0 := by grind
    rcases Rat.mul_eq_zero.1 h4 with h5 | h5
    · exact absurd h5 h3
    · exact h5

theorem ev_zero {P : List Rat} (h : ∀ x, ev P x = 0) (j : Nat) : P.getD j 0 = 0 := ev_zero_aux P.length P 0 (Nat.le_refl _) (fun x _ => h x) j
end Go.Abs
end

section
set_option linter.unusedVariables false
set_option linter.unusedSimpArgs false
set_option maxHeartbeats 8000000
set_option linter.unusedVariables false
set_option linter.unusedSimpArgs false
set_option maxRecDepth 100000
namespace Go.Proofs.YtpgbejgdmgpfjaaGreat
open Go Go.Abs Go.Abs.M Go.Proofs

/-- P is the list of the polynomial f: trimmed, at most n coefficients, of at most k words. -/
structure PL (f : Rat → Rat) (n k : Nat) (P : List Rat) : Prop where
  tr : ptrim P = P
  ev : ∀ x, ev P x = f x
  len : P.length ≤ n
  sz : ∀ q ∈ P, Qs q k

theorem ev_shift (P : List Rat) (c : Rat) (B : List Rat) (k : Nat) (x : Rat) : Abs.ev (pshift P c B k) x = Abs.ev P x + c * x ^ k * Abs.ev B x := by
  unfold pshift
  rw [ev_pacc _ _ _ _ _ (by simp; omega), ev_app, ev_zeros]
  grind

theorem ev_pmulL (P B R : List Rat) (x : Rat) (h : P.length + B.length ≤ R.length + 1) : ∀ i, i ≤ P.length → Abs.ev (pmulL P B R i) x = Abs.ev R x + Abs.ev (P.take i) x * Abs.ev B x
  | 0, _ => by simp [pmulL, Abs.ev, Rat.zero_mul, Rat.add_zero]
  | i + 1, hi => by
    unfold pmulL
    rw [ev_pacc _ _ _ _ _ (by rw [pmulL_len]; omega), ev_pmulL P B R x h i (by omega), ev_take_succ P i x (by omega)]
    grind

theorem ev_pmul (P B : List Rat) (x : Rat) : Abs.ev (pmul P B) x = Abs.ev P x * Abs.ev B x := by
  unfold pmul
  rw [ev_pmulL P B _ x (by simp; omega) _ (Nat.le_refl _), ev_zeros, List.take_length, Rat.zero_add]

/-- Two lists of the same polynomial have the same coefficients. -/
theorem ev_inj {P Q : List Rat} (h : ∀ x, Abs.ev P x = Abs.ev Q x) (j : Nat) : P.getD j 0 = Q.getD j 0 := by
  have h0 := ev_zero (P := pshift P (-1) Q 0) (fun x => by rw [ev_shift, h x]; grind) j
  rw [pshift_get, if_pos (Nat.zero_le _), Nat.sub_zero] at h0
  grind

theorem PL.inj {f g : Rat → Rat} {n k m l : Nat} {P Q : List Rat} (h1 : PL f n k P) (h2 : PL g m l Q) (h : ∀ x, f x = g x) : P = Q := by
  rw [← h1.tr, ← h2.tr]
  exact ptrim_ext (ev_inj fun x => by rw [h1.ev, h2.ev, h])

theorem PL.mono {f : Rat → Rat} {n k m l : Nat} {P : List Rat} (h : PL f n k P) (h1 : n ≤ m) (h2 : k ≤ l) : PL f m l P :=
  ⟨h.tr, h.ev, Nat.le_trans h.len h1, fun q hq => (h.sz q hq).mono h2⟩

theorem PL.congr {f g : Rat → Rat} {n k : Nat} {P : List Rat} (h : PL f n k P) (e : ∀ x, f x = g x) : PL g n k P :=
  ⟨h.tr, fun x => by rw [h.ev, e], h.len, h.sz⟩

theorem PL.nil : PL (fun _ => 0) 0 0 [] := ⟨rfl, fun _ => rfl, Nat.le_refl _, fun q hq => by cases hq⟩

theorem Qs.zero {k : Nat} : 1 ≤ k → Qs 0 k := fun h => Qs.whole (n := 0) (by decide) h

theorem PL.cells {f : Rat → Rat} {n a : Nat} {P : List Rat} (hP : PL f n a P) (h : a ≤ 68719476736) : ∀ c ∈ P.map qc, c.ok 68719476736 := fun c hc => by
  obtain ⟨q, hq, rfl⟩ := List.mem_map.1 hc
  have := hP.sz q hq
  exact ⟨dg_wd _, dg_wd _, by show nl q.num.natAbs ≤ 68719476736; have := this.1; omega, by show nl (q.den : Int).natAbs ≤ 68719476736; rw [Int.natAbs_natCast]; have := this.2; omega⟩

/-- Degrees add up. -/
theorem csum_top {P B : List Rat} (j : Nat) : ∀ i, i ≤ j + 1 → j < i - 1 + B.length → (∀ k, k + 1 < i → B.getD (j - k) 0 = 0) → csum P B j i = if i = 0 then 0 else P.getD (i - 1) 0 * B.getD (j - (i - 1)) 0
  | 0, _, _, _ => rfl
  | i + 1, h1, h2, h3 => by
    unfold csum
    rw [if_pos (by omega), if_neg (by omega), show i + 1 - 1 = i by omega]
    have hz : ∀ k, k ≤ i → csum P B j k = 0 := fun k hk => by
      induction k with
      | zero => rfl
      | succ k ih =>
        unfold csum
        rw [ih (by omega), if_pos (by omega), h3 k (by omega)]; grind
    rw [hz i (Nat.le_refl _), Rat.zero_add]

theorem PL.last {f : Rat → Rat} {n a : Nat} {P : List Rat} (hP : PL f n a P) (h : P ≠ []) : P.getD (P.length - 1) 0 ≠ 0 := by
  have h1 : tlen P P.length = P.length := by
    have := congrArg List.length hP.tr
    unfold ptrim at this
    rw [List.length_take] at this
    have := tlen_le P P.length
    omega
  have h2 : P.length ≠ 0 := fun h0 => h (List.length_eq_zero_iff.1 h0)
  have := tlen_last P P.length (by omega)
  rwa [h1] at this

theorem tlen_top {P : List Rat} (h : P ≠ []) (h0 : P.getD (P.length - 1) 0 ≠ 0) : ptrim P = P := by
  unfold ptrim
  obtain ⟨n, hn⟩ : ∃ n, P.length = n + 1 := ⟨P.length - 1, by have : P.length ≠ 0 := fun h1 => h (List.length_eq_zero_iff.1 h1); omega⟩
  rw [hn] at h0 ⊢
  unfold tlen
  rw [if_neg (by simpa using h0), ← hn, List.take_length]

theorem PL.mul_len {f g e : Rat → Rat} {n m l a b c : Nat} {P B R : List Rat} (hP : PL f n a P) (hB : PL g m b B) (hR : PL e l c R) (he : ∀ x, e x = f x * g x) (h1 : P ≠ []) (h2 : B ≠ []) : R.length = P.length + B.length - 1 := by
  have l1 : P.length ≠ 0 := fun h => h1 (List.length_eq_zero_iff.1 h)
  have l2 : B.length ≠ 0 := fun h => h2 (List.length_eq_zero_iff.1 h)
  have hl : (pmul P B).length = P.length + B.length - 1 := by unfold pmul; rw [pmulL_len, List.length_replicate]
  have hne : pmul P B ≠ [] := fun h => by rw [h] at hl; simp at hl; omega
  have htop : (pmul P B).getD ((pmul P B).length - 1) 0 = P.getD (P.length - 1) 0 * B.getD (B.length - 1) 0 := by
    rw [hl]
    unfold pmul
    rw [pmulL_get (by simp; omega) _ _ (Nat.le_refl _), csum_top _ _ (by omega) (by omega) (fun k hk => by rw [List.getD_eq_getElem?_getD, List.getElem?_eq_none (by omega)]; rfl), if_neg l1, show P.length + B.length - 1 - 1 - (P.length - 1) = B.length - 1 by omega]
    rw [List.getD_eq_getElem?_getD, List.getElem?_replicate]
    split <;> simp [Rat.zero_add]
  have hnz : (pmul P B).getD ((pmul P B).length - 1) 0 ≠ 0 := by
    rw [htop]
    intro h
    rcases Rat.mul_eq_zero.1 h with h | h
    · exact hP.last h1 h
    · exact hB.last h2 h
  have : R = pmul P B := by
    rw [← hR.tr, ← tlen_top hne hnz]
    exact ptrim_ext (ev_inj fun x => by rw [hR.ev, he, ev_pmul, hP.ev, hB.ev])
  rw [this, hl]

end Go.Proofs.YtpgbejgdmgpfjaaGreat
end

section
set_option linter.unusedVariables false
set_option linter.unusedSimpArgs false
set_option maxHeartbeats 8000000
set_option linter.unusedVariables false
set_option linter.unusedSimpArgs false
set_option maxRecDepth 100000
namespace Go.Proofs.YtpgbejgdmgpfjaaGreat
open Go Go.Abs Go.Abs.M Go.Proofs

theorem qrow (x : Rat) : ∃ (s t : Bool) (r p : Abs.Rows), (qc x).row = [.v (.bool s), .lst false r, .v (.bool t), .lst false p] ∧ IsR x s r t p := ⟨_, _, _, _, rfl, qc_isR x⟩

theorem pmul_row {x y : Rat} {a b : Nat} (h1 : Qs x a) (h2 : Qs y b) (h : a + b ≤ 68719476736) :
    Qs (x * y) (a + b) ∧ ACall Tryz.prog 99 [.val (.agg (qc x).row), .val (.agg (qc y).row)] ⟨[.val (.agg (qc (x * y)).row)], [none, none]⟩ := by
  refine ⟨mul_small h1 h2, ?_⟩
  obtain ⟨u, w, v, p, hr, c⟩ := pmul_call (qc_isR x) (qc_isR y) (h1.mono (by omega)) (h2.mono (by omega))
  rw [qc_row hr] at c
  exact c

theorem padd_row {x y : Rat} {a b : Nat} (h1 : Qs x a) (h2 : Qs y b) (h : a + b ≤ 68719476736) :
    Qs (x + y) (a + b + 1) ∧ ACall Tryz.prog 93 [.val (.agg (qc x).row), .val (.agg (qc y).row)] ⟨[.val (.agg (qc (x + y)).row)], [none, none]⟩ := by
  refine ⟨add_small h1 h2, ?_⟩
  obtain ⟨u, w, v, p, hr, c⟩ := padd_call (qc_isR x) (qc_isR y) (h1.mono (by omega)) (h2.mono (by omega))
  rw [qc_row hr] at c
  exact c

theorem inv_small {x : Rat} {a : Nat} (h0 : x ≠ 0) (h : Qs x a) : Qs x⁻¹ a := by
  obtain ⟨i1, i2⟩ := inv_nd h0
  obtain ⟨h1, h2⟩ := h
  refine ⟨?_, ?_⟩
  · rw [i1]; split <;> simpa using h2
  · have : (x⁻¹).den = x.num.natAbs := by split at i2 <;> omega
    rw [this]; exact h1

theorem pwhole_row (n : Int) (h1 : -9223372036854775808 ≤ n) (h2 : n < 9223372036854775808) :
    ACall Tryz.prog 94 [.val (ti .i64 n)] ⟨[.val (.agg (qc (n : Rat)).row)], [none]⟩ := by
  obtain ⟨s, r, v, p, hr, c⟩ := pWhole_call n h1 h2
  rw [qc_row hr] at c
  exact c

theorem rqwhole_row (n : Int) (h1 : -9223372036854775808 ≤ n) (h2 : n < 9223372036854775808) :
    ACall Tryz.prog 29 [.val (ti .i64 n)] ⟨[.val (.agg (qc (n : Rat)).row)], [none]⟩ := by
  obtain ⟨s, r, v, p, hr, c⟩ := rqWhole_call n h1 h2
  rw [qc_row hr] at c
  exact c

theorem rqmul_row {x y : Rat} {a b : Nat} (h1 : Qs x a) (h2 : Qs y b) (h : a + b ≤ 68719476736) :
    Qs (x * y) (a + b) ∧ ACall Tryz.prog 30 [.val (.agg (qc x).row), .val (.agg (qc y).row)] ⟨[.val (.agg (qc (x * y)).row)], [none, none]⟩ := by
  refine ⟨mul_small h1 h2, ?_⟩
  obtain ⟨u, w, v, p, hr, c⟩ := qmul_call (qc_isR x) (qc_isR y) (h1.mono (by omega)) (h2.mono (by omega))
  rw [qc_row hr] at c
  exact c

theorem rqadd_row {x y : Rat} {a b : Nat} (h1 : Qs x a) (h2 : Qs y b) (h : a + b ≤ 68719476736) :
    Qs (x + y) (a + b + 1) ∧ ACall Tryz.prog 31 [.val (.agg (qc x).row), .val (.agg (qc y).row)] ⟨[.val (.agg (qc (x + y)).row)], [none, none]⟩ := by
  refine ⟨add_small h1 h2, ?_⟩
  obtain ⟨u, w, v, p, hr, c⟩ := qadd_call (qc_isR x) (qc_isR y) (h1.mono (by omega)) (h2.mono (by omega))
  rw [qc_row hr] at c
  exact c

theorem rqsame_row {x y : Rat} {a : Nat} (h1 : Qs x a) (h : x = y) (ha : a ≤ 68719476736) :
    ACall Tryz.prog 33 [.val (.agg (qc x).row), .val (.agg (qc y).row)] ⟨[.val (tb true)], [none, none]⟩ :=
  rqsame_call true (qc_isR x) (qc_isR y) ⟨fun _ => h, fun _ => rfl⟩ (h1.mono (by omega))

end Go.Proofs.YtpgbejgdmgpfjaaGreat
end

section
set_option linter.unusedVariables false
set_option linter.unusedSimpArgs false
set_option maxHeartbeats 8000000
set_option linter.unusedVariables false
set_option linter.unusedSimpArgs false
set_option maxRecDepth 100000
namespace Go.Proofs.YtpgbejgdmgpfjaaGreat
open Go Go.Abs Go.Abs.M Go.Proofs

theorem rqnew_call {x y : Int} {s t : Bool} {r q : Abs.Rows} (hx : IsI x s r) (hy : IsI y t q) (hy0 : y ≠ 0) (h1 : nl x.natAbs ≤ 274877906944) (h2 : nl y.natAbs ≤ 274877906944) :
    ∃ u w v p, IsR (Rat.divInt x y) u w v p ∧ ACall Tryz.prog 90 [.val (.agg (iT s r)), .val (.agg (iT t q))] ⟨[.val (.agg (iT u w ++ iT v p)), .val (ti .i64 0)], [none, none]⟩ := by
  obtain ⟨u, w, v, p, hr, c⟩ := rlowest_call hx hy hy0 h1 h2
  have cs := rsign_call (cmpI y 0) hy rfl
  refine ⟨u, w, v, p, hr, ?_⟩
  have e0 : cmpI y 0 ≠ 0 := fun h => hy0 ((cmp00 _).1 h)
  generalize cmpI y 0 = sg at *
  refine callZ ccOk mixed [.val, .val] Tryz.func90 rfl rfl (by kernel_rfl) fun zwrap zadd zsub zmul zquo zrem zshl zshr zband zbor zbxor zbandn zeq zne zlt zle znot zbeq zbne zmax zmin znat zinb zofN zidx zneq znadd zdif zcut zroom zmkok zlen znth zsetr zisI zgetI zsetI zfit zpart zext zsetg zrep zwide zall zmok zmget zmset zW zth A L F hS hF => ?_
  have z1 : zeq sg 0 = false := by rw [hS.eq]; exact decide_eq_false e0
  cbv
  refine ⟨_, hS.call (cs), ?_⟩
  cbv
  refine bF (z1) ?_
  refine ⟨_, hS.call (c), ?_⟩
  cbv
  exact hF _ (ResLe.refl _)

theorem rqdiv_row {x y : Rat} {a b : Nat} (h0 : y ≠ 0) (h1 : Qs x a) (h2 : Qs y b) (h : a + b ≤ 68719476736) :
    Qs (x * y⁻¹) (a + b) ∧ ACall Tryz.prog 41 [.val (.agg (qc x).row), .val (.agg (qc y).row)] ⟨[.val (.agg (qc (x * y⁻¹)).row), .val (ti .i64 0)], [none, none]⟩ := by
  refine ⟨mul_small h1 (inv_small h0 h2), ?_⟩
  obtain ⟨x1, x2⟩ := h1
  obtain ⟨y1, y2⟩ := h2
  have hn : y.num ≠ 0 := fun e => h0 (Rat.num_eq_zero.1 e)
  have n1 := nl_mul x.num.natAbs y.den
  have n2 := nl_mul x.den y.num.natAbs
  obtain ⟨u, w, hm, c1⟩ := rmul_call (qc_isR x).n (qc_isR y).d (by omega) (by rw [Int.natAbs_natCast]; omega)
  obtain ⟨u2, w2, hm2, c2⟩ := rmul_call (qc_isR x).d (qc_isR y).n (by rw [Int.natAbs_natCast]; omega) (by omega)
  have hd0 : (x.den : Int) * y.num ≠ 0 := Int.mul_ne_zero (by have := x.den_pos; omega) hn
  obtain ⟨u3, w3, v3, p3, hr, c⟩ := rqnew_call hm hm2 hd0 (by rw [Int.natAbs_mul, Int.natAbs_natCast]; omega) (by rw [Int.natAbs_mul, Int.natAbs_natCast]; omega)
  have e : Rat.divInt (x.num * y.den) (x.den * y.num) = x * y⁻¹ := by
    rw [Rat.inv_def, ← Rat.num_divInt_den x, Rat.divInt_mul_divInt, Rat.num_divInt_den]
  rw [e] at hr
  rw [qc_row hr] at c
  obtain ⟨s1, t1, r1, p1, hrow, _⟩ := qrow (x * y⁻¹)
  rw [hrow] at c ⊢
  show ACall _ _ [.val (.agg (iT (qc x).s (W .u32 (qc x).l) ++ iT (qc x).t (W .u32 (qc x).m))), .val (.agg (iT (qc y).s (W .u32 (qc y).l) ++ iT (qc y).t (W .u32 (qc y).m)))] _
  clear hr hm hm2 x1 x2 y1 y2 n1 n2 hn hd0 e hrow
  generalize (qc x).s = s2 at *
  generalize (qc x).t = t2 at *
  generalize W .u32 (qc x).l = r2 at *
  generalize W .u32 (qc x).m = p2 at *
  generalize (qc y).s = s3 at *
  generalize (qc y).t = t3 at *
  generalize W .u32 (qc y).l = r3' at *
  generalize W .u32 (qc y).m = p3' at *
  refine callZ ccOk mixed [.val, .val] Tryz.func41 rfl rfl (by kernel_rfl) fun zwrap zadd zsub zmul zquo zrem zshl zshr zband zbor zbxor zbandn zeq zne zlt zle znot zbeq zbne zmax zmin znat zinb zofN zidx zneq znadd zdif zcut zroom zmkok zlen znth zsetr zisI zgetI zsetI zfit zpart zext zsetg zrep zwide zall zmok zmget zmset zW zth A L F hS hF => ?_
  cbv
  refine ⟨_, hS.call (c1), ?_⟩
  cbv
  refine ⟨_, hS.call (c2), ?_⟩
  cbv
  refine ⟨_, hS.call (c), ?_⟩
  cbv
  exact hF _ (ResLe.refl _)
end Go.Proofs.YtpgbejgdmgpfjaaGreat
end

section
set_option linter.unusedVariables false
set_option linter.unusedSimpArgs false
/-
  interval.least, greatest.
-/
set_option maxHeartbeats 8000000
set_option linter.unusedVariables false
set_option linter.unusedSimpArgs false
set_option maxRecDepth 100000
namespace Go.Proofs.YtpgbejgdmgpfjaaGreat
open Go Go.Abs Go.Abs.M Go.Proofs

def lmin (m : Rat) (ys : List Rat) : Rat := ys.foldl (fun m y => if y < m then y else m) m
def lmax (m : Rat) (ys : List Rat) : Rat := ys.foldl (fun m y => if m < y then y else m) m

theorem rlt_asymm {x y : Rat} (h1 : x < y) (h2 : y < x) : False := by grind
theorem cmpQ_spec (x y : Rat) : (cmpQ x y < 0 ↔ x < y) ∧ (0 < cmpQ x y ↔ y < x) := by
  unfold cmpQ
  by_cases h1 : x < y
  · rw [if_pos h1]
    have : ¬ y < x := fun h2 => rlt_asymm h1 h2
    simp [h1, this]
  · rw [if_neg h1]
    by_cases h2 : y < x
    · rw [if_pos h2]; simp [h1, h2]
    · rw [if_neg h2]; simp [h1, h2]
theorem pcmp_ex {x y : Rat} (h1 : Qs x 68719476736) (h2 : Qs y 68719476736) : ∃ c : Int, (c < 0 ↔ x < y) ∧ (0 < c ↔ y < x) ∧ ACall Tryz.prog 67 [.val (.agg (qc x).row), .val (.agg (qc y).row)] ⟨[.val (ti .i64 c)], [none, none]⟩ :=
  ⟨_, (cmpQ_spec x y).1, (cmpQ_spec x y).2, pcmp_call _ (qc_isR x) (qc_isR y) rfl h1 h2⟩
theorem rqcmp_ex {x y : Rat} (h1 : Qs x 68719476736) (h2 : Qs y 68719476736) : ∃ c : Int, (c < 0 ↔ x < y) ∧ (0 < c ↔ y < x) ∧ ACall Tryz.prog 68 [.val (.agg (qc x).row), .val (.agg (qc y).row)] ⟨[.val (ti .i64 c)], [none, none]⟩ :=
  ⟨_, (cmpQ_spec x y).1, (cmpQ_spec x y).2, rqcmp_call _ (qc_isR x) (qc_isR y) rfl h1 h2⟩

theorem lmin_mem : ∀ (ys : List Rat) (m : Rat), lmin m ys ∈ m :: ys
  | [], m => by simp [lmin]
  | y :: ys, m => by
    have ih := lmin_mem ys (if y < m then y else m)
    show lmin (if y < m then y else m) ys ∈ _
    rcases List.mem_cons.1 ih with h | h
    · rw [h]; split <;> simp
    · exact List.mem_cons_of_mem _ (List.mem_cons_of_mem _ h)
theorem lmax_mem : ∀ (ys : List Rat) (m : Rat), lmax m ys ∈ m :: ys
  | [], m => by simp [lmax]
  | y :: ys, m => by
    have ih := lmax_mem ys (if m < y then y else m)
    show lmax (if m < y then y else m) ys ∈ _
    rcases List.mem_cons.1 ih with h | h
    · rw [h]; split <;> simp
    · exact List.mem_cons_of_mem _ (List.mem_cons_of_mem _ h)
theorem lmin_app (m : Rat) (a : List Rat) (y : Rat) : lmin m (a ++ [y]) = if y < lmin m a then y else lmin m a := by unfold lmin; rw [List.foldl_append]; rfl
theorem lmax_app (m : Rat) (a : List Rat) (y : Rat) : lmax m (a ++ [y]) = if lmax m a < y then y else lmax m a := by unfold lmax; rw [List.foldl_append]; rfl

theorem ur_wd4 (P : List Rat) : ((ur P).all fun r => r.length == 4) = true := by
  refine List.all_eq_true.2 fun r hr => ?_
  obtain ⟨c, _, rfl⟩ := List.mem_map.1 hr
  rfl
def leastSt (Y : Abs.Rows) (N I : Int) (s : Bool) (r : Abs.Rows) (t : Bool) (p : Abs.Rows) : St := mkSt 23 [.junk, .junk, .c (.ptr 1 0 0), .c (.ptr 2 0 0), .junk, .junk, .junk, .junk, .junk, .junk, .c (.t (.lst false Y)), vi .i64 N, vi .i64 I] [none, some (.var [.t (.v (.bool false)), .t (.lst true []), .t (.v (.bool false)), .t (.lst true [])]), some (.var [.t (.v (.bool s)), .t (.lst false r), .t (.v (.bool t)), .t (.lst false p)])]
theorem least_call (x : Rat) (ys : List Rat) (hl : ys.length ≤ 100) (hq : ∀ q ∈ x :: ys, Qs q 68719476736) : ACall Tryz.prog 66 [.val (tl (ur (x :: ys)))] ⟨[.val (.agg (qc (lmin x ys)).row)], [none]⟩ := by
  obtain ⟨X, hX⟩ : ∃ X, X = ur (x :: ys) := ⟨_, rfl⟩
  obtain ⟨Y, hY⟩ : ∃ Y, Y = ur ys := ⟨_, rfl⟩
  obtain ⟨n, hn⟩ : ∃ n, n = ys.length := ⟨_, rfl⟩
  have hXl : X.length = n + 1 := by rw [hX, ur_len, hn]; rfl
  have hYl : Y.length = n := by rw [hY, ur_len, hn]
  have hXY : (X.drop 1).take n = Y := by rw [hX, hY]; show (ur ys).take n = ur ys; rw [List.take_of_length_le (by rw [ur_len]; omega)]
  have hXw : (X.all fun r => r.length == 4) = true := by rw [hX]; exact ur_wd4 _
  obtain ⟨s1, t1, r1, p1, e1, _⟩ := qrow x
  have hX0 : X[0]? = some (qc x).row := by rw [hX]; rfl
  rw [e1] at hX0
  obtain ⟨T, hT⟩ : ∃ T, T = (qc (lmin x ys)).row := ⟨_, rfl⟩
  rw [← hT, ← hX]
  refine callZ ccOk mixed [.val] Tryz.func66 rfl rfl (by kernel_rfl) fun zwrap zadd zsub zmul zquo zrem zshl zshr zband zbor zbxor zbandn zeq zne zlt zle znot zbeq zbne zmax zmin znat zinb zofN zidx zneq znadd zdif zcut zroom zmkok zlen znth zsetr zisI zgetI zsetI zfit zpart zext zsetg zrep zwide zall zmok zmget zmset zW zth A L F hS hF => ?_
  have j1 : znat 0 = 0 := by rw [hS.nat]; rfl
  have j2 : znth X 0 = some [.v (.bool s1), .lst false r1, .v (.bool t1), .lst false p1] := by rw [hS.nth]; exact hX0
  have n0 : zle 0 0 = true := by rw [hS.le]; rfl
  have u1 : zcut 1 (zofN (zlen X)) (zlen X) = true := by rw [hS.cut, hS.ofN, hS.len, hXl]; exact decide_eq_true (by omega)
  have u2 : zwide 4 X = true := by rw [hS.wide]; exact hXw
  have u3 : zpart X (znat 1) (zdif (zofN (zlen X)) 1) = Y := by
    rw [hS.part, hS.nat, hS.dif, hS.ofN, hS.len, hXl, ← hXY]
    congr 1
  obtain ⟨N, hN, hN2⟩ : ∃ N : Int, N = n ∧ zofN (zlen Y) = N := ⟨_, rfl, by rw [hS.ofN, hS.len, hYl]⟩
  cbv
  rw [j1, j2]
  cbv
  refine nd (n0) ?_
  refine nd (u1) ?_
  refine nd (u2) ?_
  rw [u3, hN2]
  have hN : N = (n : Int) := hN
  refine loopZR ccOk mixed hS (fun (m : Nat) s' => ∃ (k : Nat) (I : Int) (s t : Bool) (r p : Abs.Rows), I = k ∧ m + k = n ∧ (qc (lmin x (ys.take k))).row = [.v (.bool s), .lst false r, .v (.bool t), .lst false p] ∧ s' = leastSt Y N I s r t p) (n := n) (s0 := leastSt Y N 0 s1 r1 t1 p1) (le_of ?_ ?_) rfl (by show 1 ≤ 3; omega) ?_ ?_
  · simp [leT, leastSt, mkSt, vi, vb]
  · simp [leH, leastSt, mkSt]
  · exact ⟨0, 0, s1, t1, r1, p1, rfl, by omega, e1, rfl⟩
  · rintro m s1 ⟨k, I, s0, t0, r0, p0, hI, hmk, hrow, hs1⟩
    by_cases hm : m = 0
    · have l1 : zlt I N = false := by rw [hS.lt]; exact decide_eq_false (by omega)
      rw [List.take_of_length_le (by omega), ← hT] at hrow
      subst hrow
      subst hs1
      cbv
      refine bF l1 ?_
      exact hF _ (ResLe.refl _)
    · have l1 : zlt I N = true := by rw [hS.lt]; exact decide_eq_true (by omega)
      obtain ⟨y, hy⟩ : ∃ y, ys[k]? = some y := ⟨_, List.getElem?_eq_getElem (by omega)⟩
      obtain ⟨s2, t2, r2, p2, e2, _⟩ := qrow y
      have hYk := ur_get hy
      rw [← hY, e2] at hYk
      have hmem : lmin x (ys.take k) ∈ x :: ys := by
        rcases List.mem_cons.1 (lmin_mem (ys.take k) x) with h | h
        · rw [h]; exact List.mem_cons_self
        · exact List.mem_cons_of_mem _ (List.mem_of_mem_take h)
      have hstep : lmin x (ys.take (k + 1)) = if y < lmin x (ys.take k) then y else lmin x (ys.take k) := by
        rw [List.take_add_one, hy, Option.toList_some, lmin_app]
      obtain ⟨c, c1, c2, cc⟩ := pcmp_ex (hq y (List.mem_cons_of_mem _ (List.mem_of_getElem? hy))) (hq _ hmem)
      rw [hrow, e2] at cc
      have j3 : znat I = k := by rw [hS.nat]; omega
      have j4 : znth Y k = some [.v (.bool s2), .lst false r2, .v (.bool t2), .lst false p2] := by rw [hS.nth]; exact hYk
      have n1 : zle 0 I = true := by rw [hS.le]; exact decide_eq_true (by omega)
      obtain ⟨I', hI', i1⟩ : ∃ I' : Int, I' = ((k + 1 : Nat) : Int) ∧ zwrap .i64 (zadd I 1) = I' := ⟨I + 1, by omega, by rw [hS.add, hS.wrap, wrap_i64 (by omega) (by omega)]⟩
      have hmm : m - 1 < m := by omega
      by_cases hc : y < lmin x (ys.take k)
      · rw [if_pos hc] at hstep
        have q1 : zlt c 0 = true := by rw [hS.lt]; exact decide_eq_true (c1.2 hc)
        have hnx : ∃ (k2 : Nat) (I2 : Int) (s t : Bool) (r p : Abs.Rows), I2 = k2 ∧ (m - 1) + k2 = n ∧ (qc (lmin x (ys.take k2))).row = [.v (.bool s), .lst false r, .v (.bool t), .lst false p] ∧ leastSt Y N I' s2 r2 t2 p2 = leastSt Y N I2 s r t p := ⟨k + 1, I', s2, t2, r2, p2, hI', by omega, by rw [hstep]; exact e2, rfl⟩
        subst hs1
        cbv
        refine bT l1 ?_
        rw [j3, j4]
        cbv
        refine nd (n1) ?_
        refine ⟨_, hS.call (cc), ?_⟩
        cbv
        refine bT (q1) ?_
        refine againR [(1, 1), (2, 2)] (s' := leastSt Y N I' s2 r2 t2 p2) (k := m - 1) ?_ ?_ ?_ ?_ rfl (by show 1 ≤ 3; omega) hmm hnx
        · simp [leTR, leastSt, mkSt, vi, AV.ren, AV.noTup, Cell.ren, renF, i1]
        · simp [leHR, leastSt, mkSt, Abs.look, renF, Blk.ren, Cell.ren]
        · simp [liveR, leastSt, mkSt, renF]
        · simp
      · rw [if_neg hc] at hstep
        have q1 : zlt c 0 = false := by rw [hS.lt]; exact decide_eq_false (fun h => hc (c1.1 h))
        have hnx : ∃ (k2 : Nat) (I2 : Int) (s t : Bool) (r p : Abs.Rows), I2 = k2 ∧ (m - 1) + k2 = n ∧ (qc (lmin x (ys.take k2))).row = [.v (.bool s), .lst false r, .v (.bool t), .lst false p] ∧ leastSt Y N I' s0 r0 t0 p0 = leastSt Y N I2 s r t p := ⟨k + 1, I', s0, t0, r0, p0, hI', by omega, by rw [hstep]; exact hrow, rfl⟩
        subst hs1
        cbv
        refine bT l1 ?_
        rw [j3, j4]
        cbv
        refine nd (n1) ?_
        refine ⟨_, hS.call (cc), ?_⟩
        cbv
        refine bF (q1) ?_
        refine againR [(1, 1), (2, 2)] (s' := leastSt Y N I' s0 r0 t0 p0) (k := m - 1) ?_ ?_ ?_ ?_ rfl (by show 1 ≤ 3; omega) hmm hnx
        · simp [leTR, leastSt, mkSt, vi, AV.ren, AV.noTup, Cell.ren, renF, i1]
        · simp [leHR, leastSt, mkSt, Abs.look, renF, Blk.ren, Cell.ren]
        · simp [liveR, leastSt, mkSt, renF]
        · simp

def greatestSt (Y : Abs.Rows) (N I : Int) (s : Bool) (r : Abs.Rows) (t : Bool) (p : Abs.Rows) : St := mkSt 23 [.junk, .junk, .c (.ptr 1 0 0), .c (.ptr 2 0 0), .junk, .junk, .junk, .junk, .junk, .junk, .c (.t (.lst false Y)), vi .i64 N, vi .i64 I] [none, some (.var [.t (.v (.bool false)), .t (.lst true []), .t (.v (.bool false)), .t (.lst true [])]), some (.var [.t (.v (.bool s)), .t (.lst false r), .t (.v (.bool t)), .t (.lst false p)])]
theorem greatest_call (x : Rat) (ys : List Rat) (hl : ys.length ≤ 100) (hq : ∀ q ∈ x :: ys, Qs q 68719476736) : ACall Tryz.prog 65 [.val (tl (ur (x :: ys)))] ⟨[.val (.agg (qc (lmax x ys)).row)], [none]⟩ := by
  obtain ⟨X, hX⟩ : ∃ X, X = ur (x :: ys) := ⟨_, rfl⟩
  obtain ⟨Y, hY⟩ : ∃ Y, Y = ur ys := ⟨_, rfl⟩
  obtain ⟨n, hn⟩ : ∃ n, n = ys.length := ⟨_, rfl⟩
  have hXl : X.length = n + 1 := by rw [hX, ur_len, hn]; rfl
  have hYl : Y.length = n := by rw [hY, ur_len, hn]
  have hXY : (X.drop 1).take n = Y := by rw [hX, hY]; show (ur ys).take n = ur ys; rw [List.take_of_length_le (by rw [ur_len]; omega)]
  have hXw : (X.all fun r => r.length == 4) = true := by rw [hX]; exact ur_wd4 _
  obtain ⟨s1, t1, r1, p1, e1, _⟩ := qrow x
  have hX0 : X[0]? = some (qc x).row := by rw [hX]; rfl
  rw [e1] at hX0
  obtain ⟨T, hT⟩ : ∃ T, T = (qc (lmax x ys)).row := ⟨_, rfl⟩
  rw [← hT, ← hX]
  refine callZ ccOk mixed [.val] Tryz.func65 rfl rfl (by kernel_rfl) fun zwrap zadd zsub zmul zquo zrem zshl zshr zband zbor zbxor zbandn zeq zne zlt zle znot zbeq zbne zmax zmin znat zinb zofN zidx zneq znadd zdif zcut zroom zmkok zlen znth zsetr zisI zgetI zsetI zfit zpart zext zsetg zrep zwide zall zmok zmget zmset zW zth A L F hS hF => ?_
  have j1 : znat 0 = 0 := by rw [hS.nat]; rfl
  have j2 : znth X 0 = some [.v (.bool s1), .lst false r1, .v (.bool t1), .lst false p1] := by rw [hS.nth]; exact hX0
  have n0 : zle 0 0 = true := by rw [hS.le]; rfl
  have u1 : zcut 1 (zofN (zlen X)) (zlen X) = true := by rw [hS.cut, hS.ofN, hS.len, hXl]; exact decide_eq_true (by omega)
  have u2 : zwide 4 X = true := by rw [hS.wide]; exact hXw
  have u3 : zpart X (znat 1) (zdif (zofN (zlen X)) 1) = Y := by
    rw [hS.part, hS.nat, hS.dif, hS.ofN, hS.len, hXl, ← hXY]
    congr 1
  obtain ⟨N, hN, hN2⟩ : ∃ N : Int, N = n ∧ zofN (zlen Y) = N := ⟨_, rfl, by rw [hS.ofN, hS.len, hYl]⟩
  cbv
  rw [j1, j2]
  cbv
  refine nd (n0) ?_
  refine nd (u1) ?_
  refine nd (u2) ?_
  rw [u3, hN2]
  have hN : N = (n : Int) := hN
  refine loopZR ccOk mixed hS (fun (m : Nat) s' => ∃ (k : Nat) (I : Int) (s t : Bool) (r p : Abs.Rows), I = k ∧ m + k = n ∧ (qc (lmax x (ys.take k))).row = [.v (.bool s), .lst false r, .v (.bool t), .lst false p] ∧ s' = greatestSt Y N I s r t p) (n := n) (s0 := greatestSt Y N 0 s1 r1 t1 p1) (le_of ?_ ?_) rfl (by show 1 ≤ 3; omega) ?_ ?_
  · simp [leT, greatestSt, mkSt, vi, vb]
  · simp [leH, greatestSt, mkSt]
  · exact ⟨0, 0, s1, t1, r1, p1, rfl, by omega, e1, rfl⟩
  · rintro m s1 ⟨k, I, s0, t0, r0, p0, hI, hmk, hrow, hs1⟩
    by_cases hm : m = 0
    · have l1 : zlt I N = false := by rw [hS.lt]; exact decide_eq_false (by omega)
      rw [List.take_of_length_le (by omega), ← hT] at hrow
      subst hrow
      subst hs1
      cbv
      refine bF l1 ?_
      exact hF _ (ResLe.refl _)
    · have l1 : zlt I N = true := by rw [hS.lt]; exact decide_eq_true (by omega)
      obtain ⟨y, hy⟩ : ∃ y, ys[k]? = some y := ⟨_, List.getElem?_eq_getElem (by omega)⟩
      obtain ⟨s2, t2, r2, p2, e2, _⟩ := qrow y
      have hYk := ur_get hy
      rw [← hY, e2] at hYk
      have hmem : lmax x (ys.take k) ∈ x :: ys := by
        rcases List.mem_cons.1 (lmax_mem (ys.take k) x) with h | h
        · rw [h]; exact List.mem_cons_self
        · exact List.mem_cons_of_mem _ (List.mem_of_mem_take h)
      have hstep : lmax x (ys.take (k + 1)) = if lmax x (ys.take k) < y then y else lmax x (ys.take k) := by
        rw [List.take_add_one, hy, Option.toList_some, lmax_app]
      obtain ⟨c, c1, c2, cc⟩ := pcmp_ex (hq y (List.mem_cons_of_mem _ (List.mem_of_getElem? hy))) (hq _ hmem)
      rw [hrow, e2] at cc
      have j3 : znat I = k := by rw [hS.nat]; omega
      have j4 : znth Y k = some [.v (.bool s2), .lst false r2, .v (.bool t2), .lst false p2] := by rw [hS.nth]; exact hYk
      have n1 : zle 0 I = true := by rw [hS.le]; exact decide_eq_true (by omega)
      obtain ⟨I', hI', i1⟩ : ∃ I' : Int, I' = ((k + 1 : Nat) : Int) ∧ zwrap .i64 (zadd I 1) = I' := ⟨I + 1, by omega, by rw [hS.add, hS.wrap, wrap_i64 (by omega) (by omega)]⟩
      have hmm : m - 1 < m := by omega
      by_cases hc : lmax x (ys.take k) < y
      · rw [if_pos hc] at hstep
        have q1 : zlt 0 c = true := by rw [hS.lt]; exact decide_eq_true (c2.2 hc)
        have hnx : ∃ (k2 : Nat) (I2 : Int) (s t : Bool) (r p : Abs.Rows), I2 = k2 ∧ (m - 1) + k2 = n ∧ (qc (lmax x (ys.take k2))).row = [.v (.bool s), .lst false r, .v (.bool t), .lst false p] ∧ greatestSt Y N I' s2 r2 t2 p2 = greatestSt Y N I2 s r t p := ⟨k + 1, I', s2, t2, r2, p2, hI', by omega, by rw [hstep]; exact e2, rfl⟩
        subst hs1
        cbv
        refine bT l1 ?_
        rw [j3, j4]
        cbv
        refine nd (n1) ?_
        refine ⟨_, hS.call (cc), ?_⟩
        cbv
        refine bT (q1) ?_
        refine againR [(1, 1), (2, 2)] (s' := greatestSt Y N I' s2 r2 t2 p2) (k := m - 1) ?_ ?_ ?_ ?_ rfl (by show 1 ≤ 3; omega) hmm hnx
        · simp [leTR, greatestSt, mkSt, vi, AV.ren, AV.noTup, Cell.ren, renF, i1]
        · simp [leHR, greatestSt, mkSt, Abs.look, renF, Blk.ren, Cell.ren]
        · simp [liveR, greatestSt, mkSt, renF]
        · simp
      · rw [if_neg hc] at hstep
        have q1 : zlt 0 c = false := by rw [hS.lt]; exact decide_eq_false (fun h => hc (c2.1 h))
        have hnx : ∃ (k2 : Nat) (I2 : Int) (s t : Bool) (r p : Abs.Rows), I2 = k2 ∧ (m - 1) + k2 = n ∧ (qc (lmax x (ys.take k2))).row = [.v (.bool s), .lst false r, .v (.bool t), .lst false p] ∧ greatestSt Y N I' s0 r0 t0 p0 = greatestSt Y N I2 s r t p := ⟨k + 1, I', s0, t0, r0, p0, hI', by omega, by rw [hstep]; exact hrow, rfl⟩
        subst hs1
        cbv
        refine bT l1 ?_
        rw [j3, j4]
        cbv
        refine nd (n1) ?_
        refine ⟨_, hS.call (cc), ?_⟩
        cbv
        refine bF (q1) ?_
        refine againR [(1, 1), (2, 2)] (s' := greatestSt Y N I' s0 r0 t0 p0) (k := m - 1) ?_ ?_ ?_ ?_ rfl (by show 1 ≤ 3; omega) hmm hnx
        · simp [leTR, greatestSt, mkSt, vi, AV.ren, AV.noTup, Cell.ren, renF, i1]
        · simp [leHR, greatestSt, mkSt, Abs.look, renF, Blk.ren, Cell.ren]
        · simp [liveR, greatestSt, mkSt, renF]
        · simp
end Go.Proofs.YtpgbejgdmgpfjaaGreat
end

section
set_option linter.unusedVariables false
set_option linter.unusedSimpArgs false
/-
  Derivatives of polynomials given by lists of coefficients.
-/
set_option linter.unusedVariables false
namespace Go.Abs

/-- Sum, multiple and product, by recursion. -/
def ladd : List Rat → List Rat → List Rat
  | [], Q => Q
  | c :: P, [] => c :: P
  | c :: P, d :: Q => (c + d) :: ladd P Q
def lsc (c : Rat) (P : List Rat) : List Rat := P.map (c * ·)
def lmul : List Rat → List Rat → List Rat
  | [], _ => []
  | c :: P, B => ladd (lsc c B) (0 :: lmul P B)
theorem ev_ladd : ∀ (P Q : List Rat) (x : Rat), ev (ladd P Q) x = ev P x + ev Q x
  | [], Q, x => by simp [ladd, ev, Rat.zero_add]
  | c :: P, [], x => by simp [ladd, ev, Rat.add_zero]
  | c :: P, d :: Q, x => by simp only [ladd, ev]; rw [ev_ladd P Q x]; grind
theorem ev_lsc (c : Rat) : ∀ (P : List Rat) (x : Rat), ev (lsc c P) x = c * ev P x
  | [], x => by simp [lsc, ev, Rat.mul_zero]
  | d :: P, x => by have := ev_lsc c P x; simp only [lsc, List.map_cons, ev] at this ⊢; rw [this]; grind
theorem ev_lmul : ∀ (P B : List Rat) (x : Rat), ev (lmul P B) x = ev P x * ev B x
  | [], B, x => by simp [lmul, ev, Rat.zero_mul]
  | c :: P, B, x => by
    simp only [lmul]
    rw [ev_ladd, ev_lsc]
    simp only [ev]
    rw [ev_lmul P B x]; grind
end Go.Abs
end

section
set_option linter.unusedVariables false
set_option linter.unusedSimpArgs false
set_option maxHeartbeats 8000000
set_option linter.unusedVariables false
set_option linter.unusedSimpArgs false
set_option maxRecDepth 100000
namespace Go.Proofs.YtpgbejgdmgpfjaaGreat
open Go Go.Abs Go.Abs.M Go.Proofs

end Go.Proofs.YtpgbejgdmgpfjaaGreat
end

