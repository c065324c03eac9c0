/-
  A part of the proof: Cfg03, Pow03, Prime03, Next03, Mers03, MFermat, PrmPrime03, Inv03, InvMath03, Inverts03, Sanity03, SanityWalk03.
-/
import Derived.Test.YtgncmjcoojmccaaM7
import Derived.Calls
import Derived.Laws.Cells
import Derived.Below
import Derived.Laws.Small
import Derived.Laws.IdiomCopy
import Derived.Laws.BytesString
import Derived.Laws.Append
import Derived.Laws.Tables
import Derived.Great.BuildSlice
import Derived.IntWalk
import Derived.Orders
import Derived.Laws.BitsLemmas
import Derived.Test.YtgncmjcoojmccaaProg

section
/-
  The tables of a seat: types, and how arguments are handed on.
-/
set_option maxRecDepth 100000
namespace Go.Proofs.Ytgncmjcoojmccaa
open Go Go.Abs Go.Proofs
def tab : BT TI := (.node 32 ⟨.slice 22, 1, 24, [.lst true []]⟩ (.node 13 ⟨.struct [(0, 9), (1, 12)], 2, 24, [.v (.string ⟨#[]⟩), .v (.int .u64 0)]⟩ (.node 7 ⟨.struct [(0, 2), (1, 3), (2, 4), (3, 
  6)], 4, 24, [.v (.int .i64 0), .v (.int .i64 0), .v (.bool false), .v (.int .u8 0)]⟩ (.node 4 ⟨.bool, 1, 1, [.v (.bool false)]⟩ (.node 3 ⟨.int .i64, 1, 8, [.v (.int .i64 0)]⟩ 
  (.node 2 ⟨.int .i64, 1, 8, [.v (.int .i64 0)]⟩ .leaf .leaf) .leaf) (.node 6 ⟨.int .u8, 1, 1, [.v (.int .u8 0)]⟩ (.node 5 ⟨.int .u8, 1, 1, [.v (.int .u8 0)]⟩ .leaf .leaf) .leaf)) 
  (.node 10 ⟨.string, 1, 16, [.v (.string ⟨#[]⟩)]⟩ (.node 9 ⟨.string, 1, 16, [.v (.string ⟨#[]⟩)]⟩ (.node 8 ⟨.struct [(0, 2), (1, 3), (2, 4), (3, 6)], 4, 24, [.v (.int .i64 0), .v 
  (.int .i64 0), .v (.bool false), .v (.int .u8 0)]⟩ .leaf .leaf) .leaf) (.node 12 ⟨.int .u64, 1, 8, [.v (.int .u64 0)]⟩ (.node 11 ⟨.string, 1, 16, [.v (.string ⟨#[]⟩)]⟩ .leaf .leaf) 
  .leaf))) (.node 23 ⟨.int .u64, 1, 8, [.v (.int .u64 0)]⟩ (.node 19 ⟨.struct [(0, 17)], 1, 8, [.v (.pointer none)]⟩ (.node 18 ⟨.struct [(0, 17)], 1, 8, [.v (.pointer none)]⟩ (.node 
  14 ⟨.struct [(0, 9), (1, 12)], 2, 24, [.v (.string ⟨#[]⟩), .v (.int .u64 0)]⟩ .leaf .leaf) .leaf) (.node 22 ⟨.int .u32, 1, 4, [.v (.int .u32 0)]⟩ (.node 21 ⟨.int .i32, 1, 4, [.v 
  (.int .i32 0)]⟩ .leaf .leaf) .leaf)) (.node 26 ⟨.struct [(0, 24), (1, 24), (2, 5)], 3, 3, [.v (.int .i8 0), .v (.int .i8 0), .v (.int .u8 0)]⟩ (.node 25 ⟨.struct [(0, 24), (1, 24), 
  (2, 5)], 3, 3, [.v (.int .i8 0), .v (.int .i8 0), .v (.int .u8 0)]⟩ (.node 24 ⟨.int .i8, 1, 1, [.v (.int .i8 0)]⟩ .leaf .leaf) .leaf) (.node 28 ⟨.int .i64, 1, 8, [.v (.int .i64 
  0)]⟩ .leaf .leaf)))) (.node 98 ⟨.struct [(0, 17), (1, 17), (2, 17), (3, 9)], 4, 40, [.v (.pointer none), .v (.pointer none), .v (.pointer none), .v (.string ⟨#[]⟩)]⟩ (.node 48 
  ⟨.slice 23, 1, 24, [.lst true []]⟩ (.node 35 ⟨.struct [(0, 34), (2, 34)], 4, 64, [.v (.bool false), .lst true [], .v (.bool false), .lst true []]⟩ (.node 34 ⟨.struct [(0, 4), (1, 
  32)], 2, 32, [.v (.bool false), .lst true []]⟩ (.node 33 ⟨.struct [(0, 4), (1, 32)], 2, 32, [.v (.bool false), .lst true []]⟩ .leaf .leaf) .leaf) (.node 47 ⟨.array 4 23, 4, 32, [.v 
  (.int .u64 0), .v (.int .u64 0), .v (.int .u64 0), .v (.int .u64 0)]⟩ (.node 36 ⟨.struct [(0, 34), (2, 34)], 4, 64, [.v (.bool false), .lst true [], .v (.bool false), .lst true 
  []]⟩ .leaf .leaf) .leaf)) (.node 76 ⟨.struct [(0, 34), (2, 34)], 4, 64, [.v (.bool false), .lst true [], .v (.bool false), .lst true []]⟩ (.node 71 ⟨.map 23 4, 1, 8, [.v (.map 
  none)]⟩ (.node 63 ⟨.int .i16, 1, 2, [.v (.int .i16 0)]⟩ .leaf .leaf) .leaf) (.node 81 ⟨.int .u64, 1, 8, [.v (.int .u64 0)]⟩ (.node 77 ⟨.struct [(0, 34), (2, 34)], 4, 64, [.v (.bool 
  false), .lst true [], .v (.bool false), .lst true []]⟩ .leaf .leaf) .leaf))) (.node 105 ⟨.int .u8, 1, 1, [.v (.int .u8 0)]⟩ (.node 101 ⟨.struct [(0, 100)], 0, 0, []⟩ (.node 100 
  ⟨.array 0 16, 0, 0, []⟩ (.node 99 ⟨.struct [(0, 17), (1, 17), (2, 17), (3, 9)], 4, 40, [.v (.pointer none), .v (.pointer none), .v (.pointer none), .v (.string ⟨#[]⟩)]⟩ .leaf 
  .leaf) .leaf) (.node 104 ⟨.int .u8, 1, 1, [.v (.int .u8 0)]⟩ (.node 102 ⟨.struct [(0, 100)], 0, 0, []⟩ .leaf .leaf) .leaf)) (.node 110 ⟨.struct [(0, 12), (1, 12), (2, 22), (3, 
  104), (4, 5), (5, 5), (6, 105), (7, 106), (8, 107), (9, 108), (10, 109)], 11, 48, [.v (.int .u64 0), .v (.int .u64 0), .v (.int .u32 0), .v (.int .u8 0), .v (.int .u8 0), .v (.int 
  .u8 0), .v (.int .u8 0), .v .nilFunc, .v (.pointer none), .v (.int .i32 0), .v (.int .i32 0)]⟩ (.node 109 ⟨.int .i32, 1, 4, [.v (.int .i32 0)]⟩ (.node 108 ⟨.int .i32, 1, 4, [.v 
  (.int .i32 0)]⟩ .leaf .leaf) .leaf) (.node 111 ⟨.struct [(0, 12), (1, 12), (2, 22), (3, 104), (4, 5), (5, 5), (6, 105), (7, 106), (8, 107), (9, 108), (10, 109)], 11, 48, [.v (.int 
  .u64 0), .v (.int .u64 0), .v (.int .u32 0), .v (.int .u8 0), .v (.int .u8 0), .v (.int .u8 0), .v (.int .u8 0), .v .nilFunc, .v (.pointer none), .v (.int .i32 0), .v (.int .i32 
  0)]⟩ .leaf .leaf)))))
theorem tabB : (tab.all fun i ti => tyB Try.prog i ti) = true := by kernel_rfl
theorem mixed : Try.prog.follows .mixedOrders = true := by kernel_rfl
def mdt : BT (List Abs.Mode) := (.node 57 [.val] (.node 30 [.val, .val] (.node 17 [.val, .val] (.node 9 [.val, .val] (.node 6 [.val, .val, .val] (.node 4 [.val, .val] (.node 3 [.val, .val, .val] .leaf .leaf) 
  (.node 5 [.val, .val, .val] .leaf .leaf)) (.node 8 [.val, .val, .val] (.node 7 [.val, .val, .val] .leaf .leaf) .leaf)) (.node 14 [.val] (.node 12 [.val] (.node 11 [.val] .leaf 
  .leaf) (.node 13 [.val] .leaf .leaf)) (.node 16 [.val, .val] (.node 15 [.val] .leaf .leaf) .leaf))) (.node 24 [.val, .val] (.node 21 [.val, .val, .val] (.node 19 [.val, .val] 
  (.node 18 [.val, .val] .leaf .leaf) (.node 20 [.val, .val, .val] .leaf .leaf)) (.node 23 [.val, .val] (.node 22 [.val, .val] .leaf .leaf) .leaf)) (.node 27 [.val] (.node 26 [.val, 
  .val] (.node 25 [.val, .val] .leaf .leaf) .leaf) (.node 29 [.val] (.node 28 [.val, .val] .leaf .leaf) .leaf)))) (.node 44 [.val] (.node 37 [.val, .val] (.node 34 [.val] (.node 32 
  [.val, .val] (.node 31 [.val] .leaf .leaf) (.node 33 [.val, .val] .leaf .leaf)) (.node 36 [.val, .val] (.node 35 [.val] .leaf .leaf) .leaf)) (.node 41 [.val, .val] (.node 39 [.val, 
  .val] (.node 38 [.val, .val] .leaf .leaf) (.node 40 [.val, .val] .leaf .leaf)) (.node 43 [.val] (.node 42 [.val, .val] .leaf .leaf) .leaf))) (.node 51 [.val] (.node 48 [.val] 
  (.node 46 [.val, .val] (.node 45 [.val, .val] .leaf .leaf) (.node 47 [.val, .val] .leaf .leaf)) (.node 50 [.val, .val] (.node 49 [.val, .val] .leaf .leaf) .leaf)) (.node 54 [.val, 
  .val] (.node 53 [.val, .ref] (.node 52 [.val, .val] .leaf .leaf) .leaf) (.node 56 [.val, .val] (.node 55 [.val, .val, .val] .leaf .leaf) .leaf))))) (.node 84 [.val, .val, .val] 
  (.node 71 [.val, .val] (.node 64 [.val, .val] (.node 61 [.val, .val] (.node 59 [.val, .val] (.node 58 [.val, .val] .leaf .leaf) (.node 60 [.val, .val] .leaf .leaf)) (.node 63 
  [.val, .val] (.node 62 [.val, .val] .leaf .leaf) .leaf)) (.node 68 [.val] (.node 66 [.val] (.node 65 [.val, .val] .leaf .leaf) (.node 67 [.val, .val] .leaf .leaf)) (.node 70 [.val, 
  .val] (.node 69 [.val, .val] .leaf .leaf) .leaf))) (.node 78 [.val] (.node 75 [.val, .val] (.node 73 [.val] (.node 72 [.val, .val] .leaf .leaf) (.node 74 [.val] .leaf .leaf)) 
  (.node 77 [.val, .val] (.node 76 [.val] .leaf .leaf) .leaf)) (.node 81 [.val, .val] (.node 80 [.val, .val] (.node 79 [.val, .val] .leaf .leaf) .leaf) (.node 83 [.val, .val] (.node 
  82 [.val, .val] .leaf .leaf) .leaf)))) (.node 98 [.val] (.node 91 [.val] (.node 88 [.val, .val] (.node 86 [.val, .val] (.node 85 [.val, .val] .leaf .leaf) (.node 87 [.val] .leaf 
  .leaf)) (.node 90 [.val, .val] (.node 89 [.val, .val] .leaf .leaf) .leaf)) (.node 95 [.val] (.node 93 [.val] (.node 92 [.val, .val] .leaf .leaf) (.node 94 [.val] .leaf .leaf)) 
  (.node 97 [.val] (.node 96 [.val] .leaf .leaf) .leaf))) (.node 105 [.val] (.node 102 [.val] (.node 100 [.val] (.node 99 [.val] .leaf .leaf) (.node 101 [.val] .leaf .leaf)) (.node 
  104 [.val] (.node 103 [.val] .leaf .leaf) .leaf)) (.node 108 [.val] (.node 107 [.val] (.node 106 [.val] .leaf .leaf) .leaf) (.node 110 [.val] (.node 109 [.val] .leaf .leaf) 
  .leaf))))))
def CC : Cfg := ⟨tab.find, btMd mdt⟩
theorem ccOk : CfgOk Try.prog CC := bt_ok tabB
end Go.Proofs.Ytgncmjcoojmccaa
end

section
set_option maxHeartbeats 4000000
set_option linter.unusedVariables false
set_option linter.unusedSimpArgs false
set_option maxRecDepth 100000
namespace Go.Proofs.Ytgncmjcoojmccaa
open Go Go.Abs Go.Proofs
def powSt (a n p r : Int) : St := ⟨[vi .u64 a, vi .u64 n, vi .u64 p, .junk, .junk, .junk, .junk, vi .u64 r] ++ List.replicate 25 .junk, [none, none, none]⟩
def powI (T p : Int) (m : Nat) (s : St) : Prop := ∃ a' n' r' : Int, 0 ≤ a' ∧ a' < p ∧ 0 ≤ r' ∧ r' < p ∧ (0 ≤ n' ∧ n' < 2 ^ 64 ∧ n'.toNat = m) ∧ r' * a' ^ m % p = T ∧ s = powSt a' n' p r'
theorem pow_call (a n p : Int) (hp : 0 < p) (hp2 : p < 2 ^ 32) (ha : 0 ≤ a) (hn : 0 ≤ n) (hn2 : n < 2 ^ 64) : ACall Try.prog 20 [.val (ti .u64 a), .val (ti .u64 n), .val (ti .u64 p)] ⟨[.val (ti .u64 (a ^ n.toNat % p))], [none, none, none]⟩ := by
  refine callZ ccOk mixed [.val] Try.func20 rfl rfl (by kernel_rfl) fun zwrap zadd zsub zmul zquo zrem zshl zshr zband zbor zbxor zbandn zeq zne zlt zle znot zmax zmin znat zinb zofN zidx zneq znadd zdif zcut zroom zmkok zlen znth zsetr zisI zgetI zsetI zfit zpart zext zsetg zrep zwide zW zth A L F hS hF => ?_
  have h0 : ¬ p = 0 := by omega
  have hz : zne p 0 = true := by rw [hS.ne]; exact decide_eq_true h0
  cbv
  refine ⟨fun h => ?_, fun h => ⟨hz, ⟨hz, ?_⟩⟩⟩
  · rw [hS.eq] at h; exact absurd (of_decide_eq_true h) h0
  refine loopZ ccOk mixed hS (powI (a ^ n.toNat % p) p) (n := n.toNat) (s0 := powSt (a.tmod p) n p (Int.tmod 1 p)) (le_of ?_ ?_) rfl (Nat.le_refl 3) ?_ ?_
  · simp [leT, powSt, vi, hS.rem]
  · simp [leH, powSt]
  · refine ⟨_, _, _, Int.tmod_nonneg _ ha, Int.tmod_lt_of_pos _ hp, Int.tmod_nonneg _ (by decide), Int.tmod_lt_of_pos _ hp, ⟨hn, hn2, rfl⟩, ?_, rfl⟩
    rw [Int.tmod_eq_emod_of_nonneg ha, Int.tmod_eq_emod_of_nonneg (by decide)]
    rw [Int.mul_emod, Int.emod_emod_of_dvd _ (Int.dvd_refl p), ← Int.mul_emod, Int.one_mul, pow_emod]
  · rintro m _ ⟨a', n', r', h1, h2, h3, h4, ⟨h5, h5', h5''⟩, h6, rfl⟩
    obtain ⟨b1, b2⟩ := mul_lt h1 h2 h1 h2 hp2
    obtain ⟨c1, c2⟩ := mul_lt h3 h4 h1 h2 hp2
    have hhalf : IntKind.wrap .u64 (n'.tdiv 2) = n' / 2 := by rw [Int.tdiv_eq_ediv_of_nonneg h5]; exact wrap_u64 (by omega) (by omega)
    have hsq : (IntKind.wrap .u64 (a' * a')).tmod p = a' * a' % p := by rw [wrap_u64 b1 b2, Int.tmod_eq_emod_of_nonneg b1]
    have hpr : (IntKind.wrap .u64 (r' * a')).tmod p = r' * a' % p := by rw [wrap_u64 c1 c2, Int.tmod_eq_emod_of_nonneg c1]
    have hm : n' % 2 + 2 * (n' / 2) = n' := Int.emod_add_mul_ediv n' 2
    have hm2 : (n' / 2).toNat = m / 2 := by omega
    have key : ∀ x : Int, x * (a' * a' % p) ^ (m / 2) % p = x * a' ^ (2 * (m / 2)) % p := fun x => by
      rw [Int.mul_emod, pow_emod, ← Int.mul_emod, Int.pow_mul, show a' ^ 2 = a' * a' from by rw [Int.pow_succ, Int.pow_succ, Int.pow_zero, Int.one_mul]]
    cbv
    refine ⟨fun hpos => ⟨fun hodd => ⟨hz, ⟨hz, ?_⟩⟩, fun hodd => ⟨hz, ?_⟩⟩, fun hpos => ?_⟩
    all_goals simp only [hS.lt, hS.eq, hS.rem, decide_eq_true_eq, decide_eq_false_iff_not] at *
    · refine again (s' := powSt (a' * a' % p) (n' / 2) p (r' * a' % p)) (m := m / 2) (by simp [leT, powSt, vi, hS.wrap, hS.mul, hS.quo, hsq, hpr, hhalf]) (by simp [leH, powSt]) rfl (Nat.le_refl 3) (by omega) ⟨_, _, _, Int.emod_nonneg _ h0, Int.emod_lt_of_pos _ hp, Int.emod_nonneg _ h0, Int.emod_lt_of_pos _ hp, ⟨by omega, by omega, hm2⟩, ?_, rfl⟩
      rw [Int.tmod_eq_emod_of_nonneg h5] at hodd
      have e : m = 2 * (m / 2) + 1 := by omega
      rw [key, Int.mul_emod, Int.emod_emod_of_dvd _ (Int.dvd_refl p), ← Int.mul_emod, ← h6]
      conv => rhs; rw [e, Int.pow_succ]
      rw [Int.mul_assoc, Int.mul_comm a']
    · refine again (s' := powSt (a' * a' % p) (n' / 2) p r') (m := m / 2) (by simp [leT, powSt, vi, hS.wrap, hS.mul, hS.quo, hsq, hhalf]) (by simp [leH, powSt]) rfl (Nat.le_refl 3) (by omega) ⟨_, _, _, Int.emod_nonneg _ h0, Int.emod_lt_of_pos _ hp, h3, h4, ⟨by omega, by omega, hm2⟩, ?_, rfl⟩
      rw [Int.tmod_eq_emod_of_nonneg h5] at hodd
      have e : m = 2 * (m / 2) := by omega
      rw [key, ← h6, ← e]
    · have hn0 : n' = 0 := by omega
      subst hn0
      have : m = 0 := by rw [← h5'']; rfl
      subst this
      rw [Int.pow_zero, Int.mul_one, Int.emod_eq_of_lt h3 h4] at h6
      rw [h6]
      exact hF _ (ResLe.refl _)
end Go.Proofs.Ytgncmjcoojmccaa
end

section
set_option maxHeartbeats 4000000
set_option linter.unusedVariables false
set_option linter.unusedSimpArgs false
set_option maxRecDepth 100000
namespace Go.Proofs.Ytgncmjcoojmccaa
open Go Go.Abs Go.Proofs

/-- Trial division finds nothing. -/
def Prm (n : Int) : Prop := 2 ≤ n ∧ n ≤ 2147483647 ∧ ∀ d : Int, 2 ≤ d → d * d ≤ n → n % d ≠ 0

def primeSt (n d : Int) : St := ⟨[vi .u64 n, .junk, .junk, vi .u64 d] ++ List.replicate 17 .junk, [none]⟩
def primeI (n : Int) (m : Nat) (s : St) : Prop := ∃ d : Int, 2 ≤ d ∧ d ≤ 50000 ∧ (50000 - d).toNat = m ∧ (∀ e : Int, 2 ≤ e → e < d → n % e ≠ 0) ∧ s = primeSt n d

theorem prime_call (n : Int) (h0 : 0 ≤ n) (h1 : n < 2 ^ 64) (b : Bool) (hb : b = true ↔ Prm n) : ACall Try.prog 14 [.val (ti .u64 n)] ⟨[.val (tb b)], [none]⟩ := by
  refine callZ ccOk mixed [.val] Try.func14 rfl rfl (by kernel_rfl) fun zwrap zadd zsub zmul zquo zrem zshl zshr zband zbor zbxor zbandn zeq zne zlt zle znot zmax zmin znat zinb zofN zidx zneq znadd zdif zcut zroom zmkok zlen znth zsetr zisI zgetI zsetI zfit zpart zext zsetg zrep zwide zW zth A L F hS hF => ?_
  have hfalse : ¬ Prm n → b = false := fun h => by
    cases b with
    | false => rfl
    | true => exact absurd (hb.1 rfl) h
  cbv
  simp only [br_t, br_f]
  refine ⟨fun ha => ?_, fun ha => ⟨fun hc => ?_, fun hc => ?_⟩⟩
  all_goals simp only [hS.lt, decide_eq_true_eq, decide_eq_false_iff_not] at *
  · exact fin1 hF (tv_bool (hfalse fun h => absurd h.1 (by omega)).symm)
  · exact fin1 hF (tv_bool (hfalse fun h => absurd h.2.1 (by omega)).symm)
  · refine loopZ ccOk mixed hS (primeI n) (n := 49998) (s0 := primeSt n 2) (le_of ?_ ?_) rfl (Nat.le_refl 1) ?_ ?_
    · simp [leT, primeSt, vi]
    · simp [leH, primeSt]
    · exact ⟨2, by omega, by omega, rfl, fun e h2 h3 => by omega, rfl⟩
    · rintro m _ ⟨d, d1, d2, d3, d4, rfl⟩
      have hdd : 0 ≤ d * d ∧ d * d ≤ 50000 * 50000 := ⟨Int.mul_nonneg (by omega) (by omega), Int.mul_le_mul d2 d2 (by omega) (by omega)⟩
      have hw : zwrap .u64 (zmul d d) = d * d := by rw [hS.wrap, hS.mul]; exact wrap_u64 hdd.1 (by omega)
      have hw1 : zwrap .u64 (zadd d 1) = d + 1 := by rw [hS.wrap, hS.add]; exact wrap_u64 (by omega) (by omega)
      have hd0 : zne d 0 = true := by rw [hS.ne]; exact decide_eq_true (by omega)
      cbv
      refine ⟨fun he => ⟨hd0, fun hf => ?_, fun hf => ?_⟩, fun he => ?_⟩
      all_goals simp only [hw, hS.le, hS.eq, hS.rem, Int.tmod_eq_emod_of_nonneg h0, decide_eq_true_eq, decide_eq_false_iff_not] at *
      · exact fin1 hF (tv_bool (hfalse fun h => absurd hf (h.2.2 d d1 he)).symm)
      · have hd46 : d < 46341 := by
          rcases Int.lt_or_le d 46341 with h | h
          · exact h
          · have := Int.mul_le_mul h h (by omega) (by omega); omega
        refine again (s' := primeSt n (d + 1)) (m := m - 1) (by simp [leT, primeSt, vi, hw1]) (by simp [leH, primeSt]) rfl (Nat.le_refl 1) (by omega) ⟨d + 1, by omega, by omega, by omega, fun e h2 h3 => ?_, rfl⟩
        by_cases hed : e = d
        · rw [hed]; exact hf
        · exact d4 e h2 (by omega)
      · have : b = true := hb.2 ⟨by omega, by omega, fun e h2 h3 => d4 e h2 (by
            rcases Int.lt_or_le e d with h | h
            · exact h
            · have := Int.mul_le_mul h h (by omega) (by omega); omega)⟩
        exact fin1 hF (tv_bool this.symm)
end Go.Proofs.Ytgncmjcoojmccaa
end

section
set_option maxHeartbeats 4000000
set_option linter.unusedVariables false
set_option linter.unusedSimpArgs false
set_option maxRecDepth 100000
namespace Go.Proofs.Ytgncmjcoojmccaa
open Go Go.Abs Go.Proofs

def nextSt (p : Int) : St := ⟨[.junk, .junk, .junk, .junk, vi .u64 p] ++ List.replicate 10 .junk, [none]⟩
def nextI (n q : Int) (m : Nat) (s : St) : Prop := ∃ p : Int, n < p ∧ p ≤ q ∧ (q - p).toNat = m ∧ s = nextSt p

theorem next_call (n q : Int) (h0 : 0 ≤ n) (hq : n < q) (hp : Prm q) (hno : ∀ k : Int, n < k → k < q → ¬ Prm k) : ACall Try.prog 12 [.val (ti .u64 n)] ⟨[.val (ti .u64 q), .val (ti .i64 0)], [none]⟩ := by
  have hq2 := hp.2.1
  refine callZ ccOk mixed [.val, .val] Try.func12 rfl rfl (by kernel_rfl) fun zwrap zadd zsub zmul zquo zrem zshl zshr zband zbor zbxor zbandn zeq zne zlt zle znot zmax zmin znat zinb zofN zidx zneq znadd zdif zcut zroom zmkok zlen znth zsetr zisI zgetI zsetI zfit zpart zext zsetg zrep zwide zW zth A L F hS hF => ?_
  have hw : zwrap .u64 (zadd n 1) = n + 1 := by rw [hS.wrap, hS.add]; exact wrap_u64 (by omega) (by omega)
  cbv
  refine ⟨fun h => ?_, fun _ => ?_⟩
  · rw [hS.le] at h; exact absurd (of_decide_eq_true h) (by omega)
  refine loopZ ccOk mixed hS (nextI n q) (n := (q - (n + 1)).toNat) (s0 := nextSt (n + 1)) (le_of ?_ ?_) rfl (Nat.le_refl 1) ?_ ?_
  · simp [leT, nextSt, vi, hw]
  · simp [leH, nextSt]
  · exact ⟨n + 1, by omega, by omega, rfl, rfl⟩
  · rintro m _ ⟨p, p1, p2, p3, rfl⟩
    have hw1 : zwrap .u64 (zadd p 1) = p + 1 := by rw [hS.wrap, hS.add]; exact wrap_u64 (by omega) (by omega)
    cbv
    by_cases he : p = q
    · subst he
      refine ⟨_, hS.call (prime_call p (by omega) (by omega) true ⟨fun _ => hp, fun _ => rfl⟩), ?_⟩
      cbv
      rw [hS.not]
      exact ⟨fun h => (nomatch h), fun _ => hF _ (ResLe.refl _)⟩
    · refine ⟨_, hS.call (prime_call p (by omega) (by omega) false ⟨fun h => (nomatch h), fun h => absurd h (hno p p1 (by omega))⟩), ?_⟩
      cbv
      rw [hS.not]
      refine ⟨fun _ => ?_, fun h => (nomatch h)⟩
      exact again (s' := nextSt (p + 1)) (m := m - 1) (by simp [leT, nextSt, vi, hw1]) (by simp [leH, nextSt]) rfl (Nat.le_refl 1) (by omega) ⟨p + 1, by omega, by omega, by omega, rfl⟩
end Go.Proofs.Ytgncmjcoojmccaa
end

section
set_option linter.unusedVariables false
set_option linter.unusedSimpArgs false
namespace Go.Proofs.Ytgncmjcoojmccaa
open Go Go.Abs Go.Proofs

/-- No divisor from lo on, 2^k numbers. -/
def tri (n : Nat) : Nat → Nat → Bool
  | 0, lo => n % lo != 0
  | k + 1, lo => tri n k lo && tri n k (lo + 2 ^ k)

theorem tri_spec {n : Nat} : ∀ (k lo : Nat), tri n k lo = true → ∀ d, lo ≤ d → d < lo + 2 ^ k → n % d ≠ 0
  | 0, lo, h, d, h1, h2 => by
    have : d = lo := by simp at h2; omega
    subst this
    simpa [tri] using h
  | k + 1, lo, h, d, h1, h2 => by
    simp only [tri, Bool.and_eq_true] at h
    rw [Nat.pow_succ] at h2
    rcases Nat.lt_or_ge d (lo + 2 ^ k) with h3 | h3
    · exact tri_spec k lo h.1 d h1 h3
    · exact tri_spec k _ h.2 d h3 (by omega)

theorem mersTri : tri 2147483647 16 2 = true := by kernel_rfl

theorem prm_mers : Prm 2147483647 := by
  refine ⟨by decide, by decide, fun d h1 h2 h3 => ?_⟩
  have hd : d < 65536 := by
    rcases Int.lt_or_le d 65536 with h | h
    · exact h
    · have := Int.mul_le_mul h h (by omega) (by omega); omega
  refine tri_spec 16 2 mersTri d.toNat (by omega) (by omega) ?_
  have : ((2147483647 : Nat) : Int) % (d.toNat : Int) = 0 := by rw [Int.toNat_of_nonneg (by omega)]; exact h3
  omega

theorem next_ex : ∀ (m : Nat) (n : Int), n < 2147483647 → (2147483647 - n).toNat = m → ∃ q : Int, n < q ∧ Prm q ∧ ∀ k : Int, n < k → k < q → ¬ Prm k := by
  intro m
  induction m with
  | zero => intro n h1 h2; omega
  | succ m ih =>
    intro n h1 h2
    by_cases hp : Prm (n + 1)
    · exact ⟨n + 1, by omega, hp, fun k h3 h4 => by omega⟩
    · have hn : n + 1 < 2147483647 := by
        rcases Int.lt_or_le (n + 1) 2147483647 with h | h
        · exact h
        · have : n + 1 = 2147483647 := by omega
          rw [this] at hp; exact absurd prm_mers hp
      obtain ⟨q, q1, q2, q3⟩ := ih (n + 1) hn (by omega)
      refine ⟨q, by omega, q2, fun k h3 h4 => ?_⟩
      by_cases hk : k = n + 1
      · rw [hk]; exact hp
      · exact q3 k (by omega) h4
end Go.Proofs.Ytgncmjcoojmccaa
end

section
/-
  Fermat's little theorem, over the natural numbers.
-/
namespace Go.Abs.M

def ch : Nat → Nat → Nat
  | _, 0 => 1
  | 0, _ + 1 => 0
  | n + 1, k + 1 => ch n k + ch n (k + 1)

theorem ch_zero (n : Nat) : ch n 0 = 1 := by cases n <;> rfl

theorem ch_big : ∀ (n k : Nat), n < k → ch n k = 0
  | 0, k + 1, _ => rfl
  | n + 1, k + 1, h => by rw [ch, ch_big n k (by omega), ch_big n (k + 1) (by omega)]

theorem ch_self : ∀ n : Nat, ch n n = 1
  | 0 => rfl
  | n + 1 => by rw [ch, ch_self n, ch_big n (n + 1) (by omega)]

theorem ch_mul : ∀ (n k : Nat), (k + 1) * ch (n + 1) (k + 1) = (n + 1) * ch n k
  | 0, 0 => rfl
  | 0, k + 1 => by rw [ch_big (0 + 1) (k + 1 + 1) (by omega), ch_big 0 (k + 1) (by omega)]; simp
  | n + 1, 0 => by
    have := ch_mul n 0
    have e : ch (n + 1 + 1) (0 + 1) = ch (n + 1) 0 + ch (n + 1) (0 + 1) := rfl
    rw [e]
    rw [ch_zero] at this ⊢
    omega
  | n + 1, k + 1 => by
    have h1 := ch_mul n k
    have h2 := ch_mul n (k + 1)
    rw [ch]
    have e : (k + 1 + 1) * (ch (n + 1) (k + 1) + ch (n + 1) (k + 1 + 1)) = (k + 1) * ch (n + 1) (k + 1) + ch (n + 1) (k + 1) + (k + 1 + 1) * ch (n + 1) (k + 1 + 1) := by
      rw [Nat.mul_add, Nat.add_mul (k + 1) 1, Nat.one_mul]
    rw [e, h1, h2]
    have e2 : ch (n + 1) (k + 1) = ch n k + ch n (k + 1) := rfl
    rw [e2]
    have e3 : (n + 1 + 1) * (ch n k + ch n (k + 1)) = (n + 1) * ch n k + (ch n k + ch n (k + 1)) + (n + 1) * ch n (k + 1) := by
      rw [Nat.add_mul (n + 1) 1, Nat.one_mul, Nat.mul_add]; omega
    rw [e3]

/-- The first m terms of the binomial sum. -/
def bs (n x : Nat) : Nat → Nat
  | 0 => 0
  | k + 1 => bs n x k + ch n k * x ^ k

theorem bs_step (n x : Nat) : ∀ m, bs (n + 1) x (m + 1) = bs n x (m + 1) + x * bs n x m
  | 0 => by simp [bs, ch_zero]
  | m + 1 => by
    rw [bs, bs_step n x m, bs.eq_2 n x (m + 1), bs.eq_2 n x m, ch, Nat.mul_add, Nat.add_mul, Nat.pow_succ]
    have : x * (ch n m * x ^ m) = ch n m * (x ^ m * x) := by rw [← Nat.mul_assoc, Nat.mul_comm x, Nat.mul_assoc, Nat.mul_comm x]
    omega

theorem binom (x : Nat) : ∀ n, (x + 1) ^ n = bs n x (n + 1)
  | 0 => by simp [bs, ch]
  | n + 1 => by
    rw [Nat.pow_succ, binom x n, bs_step, bs.eq_2 n x (n + 1), ch_big n (n + 1) (by omega), Nat.zero_mul, Nat.add_zero, Nat.mul_add, Nat.mul_one, Nat.mul_comm x]
    omega

structure Prime (p : Nat) : Prop where
  two : 2 ≤ p
  divs : ∀ d, d ∣ p → d = 1 ∨ d = p

theorem Prime.coprime {p k : Nat} (hp : Prime p) (h : ¬ p ∣ k) : Nat.Coprime p k := by
  rcases hp.divs (Nat.gcd p k) (Nat.gcd_dvd_left p k) with h1 | h1
  · exact h1
  · exact absurd (h1 ▸ Nat.gcd_dvd_right p k) h

theorem Prime.dvd_mul {p a b : Nat} (hp : Prime p) (h : p ∣ a * b) : p ∣ a ∨ p ∣ b := by
  by_cases ha : p ∣ a
  · exact .inl ha
  · exact .inr ((hp.coprime ha).dvd_of_dvd_mul_left h)

theorem Prime.dvd_ch {p k : Nat} (hp : Prime p) (h0 : 0 < k) (h1 : k < p) : p ∣ ch p k := by
  obtain ⟨n, rfl⟩ : ∃ n, p = n + 1 := ⟨p - 1, by omega⟩
  obtain ⟨j, rfl⟩ : ∃ j, k = j + 1 := ⟨k - 1, by omega⟩
  have h : (n + 1) ∣ (j + 1) * ch (n + 1) (j + 1) := by rw [ch_mul]; exact Nat.dvd_mul_right ..
  rcases hp.dvd_mul h with h2 | h2
  · have := Nat.le_of_dvd (by omega) h2; omega
  · exact h2

theorem Prime.bs_mod {p : Nat} (hp : Prime p) (x : Nat) : ∀ m, m < p → bs p x (m + 1) % p = 1 % p
  | 0, _ => by simp [bs, ch_zero]
  | m + 1, h => by
    rw [bs, Nat.add_mod, hp.bs_mod x m (by omega)]
    have : ch p (m + 1) * x ^ (m + 1) % p = 0 := Nat.mod_eq_zero_of_dvd (Nat.dvd_trans (hp.dvd_ch (by omega) h) (Nat.dvd_mul_right ..))
    rw [this, Nat.add_zero, Nat.mod_mod]

theorem Prime.dream {p : Nat} (hp : Prime p) (x : Nat) : (x + 1) ^ p % p = (x ^ p + 1) % p := by
  have h2 := hp.two
  obtain ⟨n, rfl⟩ : ∃ n, p = n + 1 := ⟨p - 1, by omega⟩
  rw [binom, bs, ch_self, Nat.one_mul, Nat.add_mod, hp.bs_mod x n (by omega), ← Nat.add_mod, Nat.add_comm]

theorem Prime.pow_mod {p : Nat} (hp : Prime p) : ∀ x : Nat, x ^ p % p = x % p
  | 0 => by rw [Nat.zero_pow (by have := hp.two; omega)]
  | x + 1 => by rw [hp.dream x, Nat.add_mod, hp.pow_mod x, ← Nat.add_mod]

theorem Prime.fermat {p a : Nat} (hp : Prime p) (ha : a % p ≠ 0) : a ^ (p - 1) % p = 1 := by
  have h2 := hp.two
  have h := hp.pow_mod a
  have e : a ^ p = a * a ^ (p - 1) := by
    conv => lhs; rw [show p = (p - 1) + 1 by omega, Nat.pow_succ, Nat.mul_comm]
  have hpos : 1 ≤ a ^ (p - 1) := Nat.pow_pos (by
    rcases Nat.eq_zero_or_pos a with h | h
    · subst h; simp at ha
    · exact h)
  have hd : p ∣ a * (a ^ (p - 1) - 1) := by
    rw [Nat.mul_sub, Nat.mul_one, ← e]
    exact (Nat.dvd_iff_mod_eq_zero ..).2 (Nat.sub_mod_eq_zero_of_mod_eq h)
  rcases hp.dvd_mul hd with h3 | h3
  · exact absurd (Nat.mod_eq_zero_of_dvd h3) ha
  · obtain ⟨c, hc⟩ := h3
    have : a ^ (p - 1) = 1 + p * c := by omega
    rw [this, Nat.add_mul_mod_self_left, Nat.mod_eq_of_lt (by omega)]

end Go.Abs.M
end

section
set_option linter.unusedVariables false
set_option linter.unusedSimpArgs false
namespace Go.Proofs.Ytgncmjcoojmccaa
open Go Go.Abs Go.Proofs

theorem Prm.prime {n : Int} (h : Prm n) : M.Prime n.toNat := by
  obtain ⟨h1, h2, h3⟩ := h
  refine ⟨by omega, fun d hd => ?_⟩
  by_cases hd1 : d = 1
  · exact .inl hd1
  by_cases hdn : d = n.toNat
  · exact .inr hdn
  exfalso
  obtain ⟨e, he⟩ := hd
  have hd0 : d ≠ 0 := by rintro rfl; rw [Nat.zero_mul] at he; omega
  have he0 : e ≠ 0 := by rintro rfl; rw [Nat.mul_zero] at he; omega
  have he1 : e ≠ 1 := by rintro rfl; rw [Nat.mul_one] at he; exact hdn he.symm
  have hn : n = (d : Int) * (e : Int) := by have := congrArg (Nat.cast : Nat → Int) he; rw [Int.toNat_of_nonneg (by omega)] at this; rw [this]; exact Int.natCast_mul d e
  rcases Nat.le_total d e with hde | hde
  · have hle : (d : Int) * d ≤ n := by rw [hn]; exact Int.mul_le_mul_of_nonneg_left (by omega) (by omega)
    refine h3 d (by omega) hle ?_
    rw [hn]; exact Int.mul_emod_right ..
  · have hle : (e : Int) * e ≤ n := by rw [hn]; exact Int.mul_le_mul_of_nonneg_right (by omega) (by omega)
    refine h3 e (by omega) hle ?_
    rw [hn]; exact Int.mul_emod_left ..

theorem Prm.fermat {p a : Int} (h : Prm p) (ha : 0 ≤ a) (hm : a % p ≠ 0) : a ^ (p - 1).toNat % p = 1 := by
  have hp := h.1
  have e1 : a.toNat % p.toNat ≠ 0 := by
    intro h0
    apply hm
    have : ((a.toNat % p.toNat : Nat) : Int) = 0 := by rw [h0]; rfl
    rw [Int.natCast_emod, Int.toNat_of_nonneg ha, Int.toNat_of_nonneg (by omega)] at this
    exact this
  have e2 := h.prime.fermat e1
  have e3 : ((a.toNat ^ (p.toNat - 1) % p.toNat : Nat) : Int) = 1 := by rw [e2]; rfl
  rw [Int.natCast_emod, Int.natCast_pow, Int.toNat_of_nonneg ha, Int.toNat_of_nonneg (by omega)] at e3
  have : (p - 1).toNat = p.toNat - 1 := by omega
  rw [this]; exact e3

end Go.Proofs.Ytgncmjcoojmccaa
end

section
set_option maxHeartbeats 4000000
set_option linter.unusedVariables false
set_option linter.unusedSimpArgs false
set_option maxRecDepth 100000
namespace Go.Proofs.Ytgncmjcoojmccaa
open Go Go.Abs Go.Proofs

theorem inv_call (a p : Int) (hp : 2 ≤ p) (hp2 : p < 2 ^ 32) (ha : 0 ≤ a) (ha2 : a < 2 ^ 64) (v e : Int) (hv : v = if a % p = 0 then 0 else a ^ (p - 2).toNat % p) (he : e = if a % p = 0 then 10 else 0) :
    ACall Try.prog 16 [.val (ti .u64 a), .val (ti .u64 p)] ⟨[.val (ti .u64 v), .val (ti .i64 e)], [none, none]⟩ := by
  have hp0 : ¬ p = 0 := by omega
  refine callZ ccOk mixed [.val, .val] Try.func16 rfl rfl (by kernel_rfl) fun zwrap zadd zsub zmul zquo zrem zshl zshr zband zbor zbxor zbandn zeq zne zlt zle znot zmax zmin znat zinb zofN zidx zneq znadd zdif zcut zroom zmkok zlen znth zsetr zisI zgetI zsetI zfit zpart zext zsetg zrep zwide zW zth A L F hS hF => ?_
  have hz : zne p 0 = true := by rw [hS.ne]; exact decide_eq_true hp0
  have hw : zwrap .u64 (zsub p 2) = p - 2 := by rw [hS.wrap, hS.sub]; exact wrap_u64 (by omega) (by omega)
  cbv
  simp only [br_t, br_f]
  refine ⟨fun h => ?_, fun _ => ⟨hz, fun h => ?_, fun h => ?_⟩⟩
  · rw [hS.lt] at h; exact absurd (of_decide_eq_true h) (by omega)
  all_goals simp only [hS.eq, hS.rem, Int.tmod_eq_emod_of_nonneg ha, decide_eq_true_eq, decide_eq_false_iff_not] at h
  · rw [if_pos h] at hv he
    exact fin2 hF (tv_int hv.symm) (tv_int he.symm)
  · rw [if_neg h] at hv he
    rw [hw]
    refine ⟨_, hS.call (pow_call a (p - 2) p (by omega) hp2 ha (by omega) (by omega)), ?_⟩
    rw [← hv]
    cbv
    exact fin2 hF rfl (tv_int he.symm)
end Go.Proofs.Ytgncmjcoojmccaa
end

section
set_option linter.unusedVariables false
set_option linter.unusedSimpArgs false
namespace Go.Proofs.Ytgncmjcoojmccaa
open Go Go.Abs Go.Proofs

theorem mm (x y p : Int) : (x % p) * (y % p) % p = x * y % p := (Int.mul_emod x y p).symm
theorem ml (x y p : Int) : (x % p) * y % p = x * y % p := by rw [Int.mul_emod, Int.emod_emod_of_dvd _ (Int.dvd_refl p), ← Int.mul_emod]
theorem mr (x y p : Int) : x * (y % p) % p = x * y % p := by rw [Int.mul_comm, ml, Int.mul_comm]

/-- The inverse. -/
def inv (a p : Int) : Int := a ^ (p - 2).toNat % p

theorem inv_mul {a p : Int} (hp : Prm p) (ha : 0 ≤ a) (hm : a % p ≠ 0) : inv a p * (a % p) % p = 1 := by
  have h1 := hp.1
  rw [inv, mm, ← Int.pow_succ, show (p - 2).toNat.succ = (p - 1).toNat by omega]
  exact hp.fermat ha hm

theorem inv_lt {a p : Int} (hp : Prm p) : 0 ≤ inv a p ∧ inv a p < p := by
  have h1 := hp.1
  exact ⟨Int.emod_nonneg _ (by omega), Int.emod_lt_of_pos _ (by omega)⟩

theorem inv_pos {a p : Int} (hp : Prm p) (ha : 0 ≤ a) (hm : a % p ≠ 0) : 1 ≤ inv a p := by
  have h := inv_mul hp ha hm
  have h2 := inv_lt (a := a) hp
  by_cases h0 : inv a p = 0
  · rw [h0, Int.zero_mul, Int.zero_emod] at h; omega
  · omega

theorem inv_inv {a p : Int} (hp : Prm p) (ha : 0 ≤ a) (hm : a % p ≠ 0) : inv (inv a p) p = a % p := by
  have h1 := hp.1
  have hl := inv_lt (a := a) hp
  have hpos := inv_pos hp ha hm
  have hi : inv a p % p = inv a p := Int.emod_eq_of_lt hl.1 hl.2
  have e1 := inv_mul hp ha hm
  have e2 := inv_mul hp hl.1 (by rw [hi]; omega)
  rw [hi] at e2
  have hl2 := inv_lt (a := inv a p) hp
  have e3 : inv (inv a p) p * (inv a p * (a % p)) % p = inv (inv a p) p := by
    rw [← mr, e1, Int.mul_one, Int.emod_eq_of_lt hl2.1 hl2.2]
  rw [← Int.mul_assoc, ← ml, e2, Int.one_mul, Int.emod_emod_of_dvd _ (Int.dvd_refl p)] at e3
  exact e3.symm

theorem pow_prod (a b p : Int) (k : Nat) : (a % p * (b % p)) ^ k % p = a ^ k % p * (b ^ k % p) % p := by
  rw [mm, ← Int.mul_pow, ← pow_emod (a % p * (b % p)), mm, pow_emod]

theorem pow_sum (a p : Int) (j k : Nat) : a ^ j % p * (a ^ k % p) % p = a ^ (j + k) % p := by
  rw [mm, ← Int.pow_add]

end Go.Proofs.Ytgncmjcoojmccaa
end

section
set_option maxHeartbeats 4000000
set_option linter.unusedVariables false
set_option linter.unusedSimpArgs false
set_option maxRecDepth 100000
namespace Go.Proofs.Ytgncmjcoojmccaa
open Go Go.Abs Go.Proofs

theorem inverts_call (hsan : ACall Try.prog 10 [] ⟨[.val (tb true)], []⟩) (n a b : Int) (h0 : 0 ≤ n) (h1 : n < 2 ^ 32) (ha : 0 ≤ a) (ha2 : a < 2 ^ 64) (hb : 0 ≤ b) (hb2 : b < 2 ^ 64) :
    ACall Try.prog 5 [.val (ti .u32 n), .val (ti .u64 a), .val (ti .u64 b)] ⟨[.val (tb true)], [none, none, none]⟩ := by
  obtain ⟨p, hp1, hp2, hp3⟩ := next_ex _ (n % 2147483647) (by omega) rfl
  have hnext := next_call (n % 2147483647) p (by omega) hp1 hp2 hp3
  have p2 := hp2.1
  have p3 := hp2.2.1
  refine callZ ccOk mixed [.val] Try.func5 rfl rfl (by kernel_rfl) fun zwrap zadd zsub zmul zquo zrem zshl zshr zband zbor zbxor zbandn zeq zne zlt zle znot zmax zmin znat zinb zofN zidx zneq znadd zdif zcut zroom zmkok zlen znth zsetr zisI zgetI zsetI zfit zpart zext zsetg zrep zwide zW zth A L F hS hF => ?_
  have hz : zne p 0 = true := by rw [hS.ne]; exact decide_eq_true (by omega)
  have hn : zwrap .u64 (zrem n 2147483647) = n % 2147483647 := by rw [hS.wrap, hS.rem, Int.tmod_eq_emod_of_nonneg h0]; exact wrap_u64 (by omega) (by omega)
  generalize n % 2147483647 = k at *
  cbv
  refine ⟨_, hS.call hsan, ?_⟩
  cbv
  rw [hS.not]
  refine ⟨fun h => (nomatch h), fun _ => ?_⟩
  rw [hn]
  refine ⟨_, hS.call hnext, ?_⟩
  cbv
  by_cases hm : a % p = 0
  · have hinv := inv_call a p p2 (by omega) ha ha2 0 10 (by rw [if_pos hm]) (by rw [if_pos hm])
    refine ⟨_, hS.call hinv, ?_⟩
    cbv
    have e1 : zeq (zrem a p) 0 = true := by rw [hS.eq, hS.rem, Int.tmod_eq_emod_of_nonneg ha]; exact decide_eq_true hm
    have e2 : zeq 10 10 = true := by rw [hS.eq]; rfl
    have e3 : zeq 0 0 = true := by rw [hS.eq]; rfl
    exact nd hz (bT e1 (bT e2 (bT e3 (hF _ (ResLe.refl _)))))
  · have hinv := inv_call a p p2 (by omega) ha ha2 (inv a p) 0 (by rw [if_neg hm]; rfl) (by rw [if_neg hm])
    have i1 := inv_pos hp2 ha hm
    have i2 := (inv_lt (a := a) hp2).2
    have i3 := inv_mul hp2 ha hm
    have i4 := inv_inv hp2 ha hm
    have hback := inv_call (inv a p) p p2 (by omega) (by omega) (by omega) (inv (inv a p) p) 0 (by rw [if_neg (by rw [Int.emod_eq_of_lt (by omega) i2]; omega)]; rfl) (by rw [if_neg (by rw [Int.emod_eq_of_lt (by omega) i2]; omega)])
    rw [i4] at hback
    generalize inv a p = i at *
    have ap := Int.emod_nonneg a (show p ≠ 0 by omega)
    have ap2 := Int.emod_lt_of_pos a (show 0 < p by omega)
    have bp := Int.emod_nonneg b (show p ≠ 0 by omega)
    have bp2 := Int.emod_lt_of_pos b (show 0 < p by omega)
    have hra : zrem a p = a % p := by rw [hS.rem, Int.tmod_eq_emod_of_nonneg ha]
    have hrb : zrem b p = b % p := by rw [hS.rem, Int.tmod_eq_emod_of_nonneg hb]
    have hrb100 : zrem b 100 = b % 100 := by rw [hS.rem, Int.tmod_eq_emod_of_nonneg hb]
    have hmul := mul_lt ap ap2 bp bp2 (by omega : p < 2 ^ 32)
    have hmul2 := mul_lt (by omega : 0 ≤ i) i2 ap ap2 (by omega : p < 2 ^ 32)
    have P5 := pow_call (a % p * (b % p)) 5 p (by omega) (by omega) hmul.1 (by omega) (by omega)
    have PA5 := pow_call a 5 p (by omega) (by omega) ha (by omega) (by omega)
    have PB5 := pow_call b 5 p (by omega) (by omega) hb (by omega) (by omega)
    have PA12 := pow_call a 12 p (by omega) (by omega) ha (by omega) (by omega)
    have PAk := pow_call a (b % 100) p (by omega) (by omega) ha (by omega) (by omega)
    have PAs := pow_call a (12 + b % 100) p (by omega) (by omega) ha (by omega) (by omega)
    have E1 := pow_prod a b p 5
    have E2 := pow_sum a p 12 (b % 100).toNat
    rw [show (5 : Int).toNat = 5 from rfl] at P5 PA5 PB5
    rw [show (12 : Int).toNat = 12 from rfl] at PA12
    rw [show (12 + b % 100).toNat = 12 + (b % 100).toNat by omega] at PAs
    have r1 : ∀ x : Int, 0 ≤ x % p ∧ x % p < p := fun x => ⟨Int.emod_nonneg _ (by omega), Int.emod_lt_of_pos _ (by omega)⟩
    have l1 := r1 (a ^ 5)
    have l2 := r1 (b ^ 5)
    have l3 := r1 (a ^ 12)
    have l4 := r1 (a ^ (b % 100).toNat)
    generalize (a % p * (b % p)) ^ 5 % p = x1 at *
    generalize a ^ 5 % p = x2 at *
    generalize b ^ 5 % p = x3 at *
    generalize a ^ 12 % p = x4 at *
    generalize a ^ (b % 100).toNat % p = x5 at *
    generalize a ^ (12 + (b % 100).toNat) % p = x6 at *
    have m1 := mul_lt l1.1 l1.2 l2.1 l2.2 (by omega)
    have m2 := mul_lt l3.1 l3.2 l4.1 l4.2 (by omega)
    generalize a % p = y at *
    generalize b % p = v at *
    have hk : 0 ≤ b % 100 ∧ b % 100 < 100 := by omega
    generalize b % 100 = k at *
    have f1 : zeq 0 0 = true := by rw [hS.eq]; rfl
    have f1' : zne 0 0 = false := by rw [hS.ne]; rfl
    have f2 : zlt i 1 = false := by rw [hS.lt]; exact decide_eq_false (by omega)
    have f3 : zle p i = false := by rw [hS.le]; exact decide_eq_false (by omega)
    have f4 : zne (zrem (zwrap .u64 (zmul i (zrem a p))) p) 1 = false := by rw [hra, hS.mul, hS.wrap, wrap_u64 hmul2.1 hmul2.2, hS.rem, Int.tmod_eq_emod_of_nonneg hmul2.1, i3, hS.ne]; rfl
    have f5 : zne y (zrem a p) = false := by rw [hra, hS.ne]; simp
    have f6 : zwrap .u64 (zmul (zrem a p) (zrem b p)) = y * v := by rw [hra, hrb, hS.mul, hS.wrap, wrap_u64 hmul.1 hmul.2]
    have f7 : zeq x1 (zrem (zwrap .u64 (zmul x2 x3)) p) = true := by rw [hS.mul, hS.wrap, wrap_u64 m1.1 m1.2, hS.rem, Int.tmod_eq_emod_of_nonneg m1.1, hS.eq, E1]; exact decide_eq_true rfl
    have f8 : zwrap .u64 (zadd 12 (zrem b 100)) = 12 + k := by rw [hrb100, hS.add, hS.wrap, wrap_u64 (by omega) (by omega)]
    have f9 : zeq (zrem (zwrap .u64 (zmul x4 x5)) p) x6 = true := by rw [hS.mul, hS.wrap, wrap_u64 m2.1 m2.2, hS.rem, Int.tmod_eq_emod_of_nonneg m2.1, hS.eq, E2]; exact decide_eq_true rfl
    generalize y * v = yv at *
    generalize 12 + k = k12 at *
    have f0 : zeq (zrem a p) 0 = false := by rw [hS.eq, hra]; exact decide_eq_false hm
    refine ⟨_, hS.call hinv, ?_⟩
    cbv
    refine nd hz (bF f0 ?_)
    refine ⟨_, hS.call hback, ?_⟩
    cbv
    refine bF f1' (bF f1' (bF f2 (bF f3 (nd hz (nd hz (bF f4 (nd hz (bF f5 (nd hz (nd hz ?_))))))))))
    rw [f6]
    refine ⟨_, hS.call P5, ?_⟩
    cbv
    refine ⟨_, hS.call PA5, ?_⟩
    cbv
    refine ⟨_, hS.call PB5, ?_⟩
    cbv
    refine nd hz (bT f7 ?_)
    refine ⟨_, hS.call PA12, ?_⟩
    cbv
    rw [hrb100]
    refine ⟨_, hS.call PAk, ?_⟩
    cbv
    refine nd hz ?_
    rw [f8]
    refine ⟨_, hS.call PAs, ?_⟩
    cbv
    exact bT f9 (hF _ (ResLe.refl _))
end Go.Proofs.Ytgncmjcoojmccaa
end

section
set_option maxHeartbeats 4000000
set_option maxRecDepth 100000
set_option linter.unusedVariables false
set_option linter.unusedSimpArgs false
namespace Go.Proofs.Ytgncmjcoojmccaa
open Go Go.Abs Go.Proofs
noncomputable def sm : FuncId → List Abs.Mode := omOf Try.prog []
theorem ex {f : Nat} {args : List Arg} {res : Res} (n : Nat) (h : execCall Try.prog CC sm n f args = some res) : ACall Try.prog f args res := execCall_sound ccOk mixed n f args res h
/-- An integer of one word. -/
def i1 (n : Int) : List Tree := [.v (.bool false), .lst false [[.v (.int .u32 n)]]]
def i0 : List Tree := [.v (.bool false), .lst true []]
theorem s1 : execCall Try.prog CC sm 1000 11 [.val (ti .u64 7)] = some ⟨[.val (ti .u64 11), .val (ti .i64 0)], [none]⟩ := by kernel_rfl
theorem s2 : execCall Try.prog CC sm 1000 16 [.val (ti .u64 3), .val (ti .u64 7)] = some ⟨[.val (ti .u64 5), .val (ti .i64 0)], [none, none]⟩ := by kernel_rfl
theorem o1 : execCall Try.prog CC sm 1000 27 [.val (ti .i64 1)] = some ⟨[.val (.agg (i1 1))], [none]⟩ := by kernel_rfl
theorem o2 : execCall Try.prog CC sm 1000 27 [.val (ti .i64 2)] = some ⟨[.val (.agg (i1 2))], [none]⟩ := by kernel_rfl
theorem o51 : execCall Try.prog CC sm 1000 27 [.val (ti .i64 51)] = some ⟨[.val (.agg (i1 51))], [none]⟩ := by kernel_rfl
theorem o101 : execCall Try.prog CC sm 1000 27 [.val (ti .i64 101)] = some ⟨[.val (.agg (i1 101))], [none]⟩ := by kernel_rfl
theorem o4 : execCall Try.prog CC sm 1000 27 [.val (ti .i64 4)] = some ⟨[.val (.agg (i1 4))], [none]⟩ := by kernel_rfl
theorem o7 : execCall Try.prog CC sm 1000 27 [.val (ti .i64 7)] = some ⟨[.val (.agg (i1 7))], [none]⟩ := by kernel_rfl
theorem o8 : execCall Try.prog CC sm 1000 27 [.val (ti .i64 8)] = some ⟨[.val (.agg (i1 8))], [none]⟩ := by kernel_rfl
theorem o15 : execCall Try.prog CC sm 1000 27 [.val (ti .i64 15)] = some ⟨[.val (.agg (i1 15))], [none]⟩ := by kernel_rfl
theorem r1 : execCall Try.prog CC sm 1000 18 [.val (.agg (i1 1 ++ i1 2)), .val (ti .u64 7)] = some ⟨[.val (ti .u64 4), .val (ti .i64 0)], [none, none]⟩ := by kernel_rfl
theorem c1 : execCall Try.prog CC sm 1000 26 [.val (.c (.lst false [[.v (.int .u64 2)], [.v (.int .u64 3)]])), .val (.c (.lst false [[.v (.int .u64 3)], [.v (.int .u64 5)]]))] = some ⟨[.val (.agg (i1 8)), .val (.agg (i1 15)), .val (ti .i64 0)], [none, none]⟩ := by kernel_rfl
theorem b1 : execCall Try.prog CC sm 1000 33 [.val (.agg (i1 51)), .val (.agg (i1 101))] = some ⟨[.val (.agg (i1 1 ++ i1 2)), .val (tb true)], [none, none]⟩ := by kernel_rfl
theorem b2 : execCall Try.prog CC sm 1000 33 [.val (.agg (i1 4)), .val (.agg (i1 7))] = some ⟨[.val (.agg (i0 ++ i0)), .val (tb false)], [none, none]⟩ := by kernel_rfl
theorem p2 : execCall Try.prog CC sm 1000 13 [.val (ti .u64 2)] = some ⟨[.val (tb true)], [none]⟩ := by kernel_rfl
theorem p9 : execCall Try.prog CC sm 1000 13 [.val (ti .u64 9)] = some ⟨[.val (tb false)], [none]⟩ := by kernel_rfl
theorem e8 : execCall Try.prog CC sm 1000 30 [.val (.agg (i1 8)), .val (.agg (i1 8))] = some ⟨[.val (tb true)], [none, none]⟩ := by kernel_rfl
theorem e15 : execCall Try.prog CC sm 1000 30 [.val (.agg (i1 15)), .val (.agg (i1 15))] = some ⟨[.val (tb true)], [none, none]⟩ := by kernel_rfl
theorem e1 : execCall Try.prog CC sm 1000 30 [.val (.agg (i1 1)), .val (.agg (i1 1))] = some ⟨[.val (tb true)], [none, none]⟩ := by kernel_rfl
theorem e2 : execCall Try.prog CC sm 1000 30 [.val (.agg (i1 2)), .val (.agg (i1 2))] = some ⟨[.val (tb true)], [none, none]⟩ := by kernel_rfl
theorem w1 : execCall Try.prog CC sm 1000 20 [.val (ti .u64 2), .val (ti .u64 10), .val (ti .u64 1000)] = some ⟨[.val (ti .u64 24)], [none, none, none]⟩ := by kernel_rfl
end Go.Proofs.Ytgncmjcoojmccaa
end

section
set_option linter.unusedVariables false
set_option linter.unusedSimpArgs false
set_option maxHeartbeats 4000000
set_option maxRecDepth 100000
namespace Go.Proofs.Ytgncmjcoojmccaa
open Go Go.Abs Go.Proofs
theorem sanity_call : ACall Try.prog 10 [] ⟨[.val (tb true)], []⟩ := by
  refine callZ ccOk mixed [.val] Try.func10 rfl rfl (by kernel_rfl) fun zwrap zadd zsub zmul zquo zrem zshl zshr zband zbor zbxor zbandn zeq zne zlt zle znot zmax zmin znat zinb zofN zidx zneq znadd zdif zcut zroom zmkok zlen znth zsetr zisI zgetI zsetI zfit zpart zext zsetg zrep zwide zW zth A L F hS hF => ?_
  cbv
  refine ⟨_, hS.call (ex _ s1), ?_⟩
  cbv
  refine ⟨_, hS.call (ex _ s2), ?_⟩
  cbv
  refine ⟨_, hS.call (ex _ o1), ?_⟩
  cbv
  refine ⟨_, hS.call (ex _ o2), ?_⟩
  cbv
  refine ⟨_, hS.call (ex _ r1), ?_⟩
  cbv
  refine nd (hS.fit ..) (nd (hS.fit ..) ?_)
  rw [hS.part, hS.part]
  refine ⟨_, hS.call (ex _ c1), ?_⟩
  cbv
  refine ⟨_, hS.call (ex _ o51), ?_⟩
  cbv
  refine ⟨_, hS.call (ex _ o101), ?_⟩
  cbv
  refine ⟨_, hS.call (ex _ b1), ?_⟩
  cbv
  refine ⟨_, hS.call (ex _ o4), ?_⟩
  cbv
  refine ⟨_, hS.call (ex _ o7), ?_⟩
  cbv
  refine ⟨_, hS.call (ex _ b2), ?_⟩
  cbv
  have z0 : zeq 0 0 = true := by rw [hS.eq]; rfl
  refine bT z0 (bT z0 (bT z0 (bT z0 ?_)))
  refine ⟨_, hS.call (ex _ p2), ?_⟩
  cbv
  refine bT rfl ?_
  refine ⟨_, hS.call (ex _ p9), ?_⟩
  cbv
  refine bT (hS.not _) ?_
  refine bT (by rw [hS.eq]; rfl) (bT (by rw [hS.eq]; rfl) (bT (by rw [hS.eq]; rfl) ?_))
  refine ⟨_, hS.call (ex _ o8), ?_⟩
  cbv
  refine ⟨_, hS.call (ex _ e8), ?_⟩
  cbv
  refine bT rfl ?_
  refine ⟨_, hS.call (ex _ o15), ?_⟩
  cbv
  refine ⟨_, hS.call (ex _ e15), ?_⟩
  cbv
  refine bT rfl (bT rfl ?_)
  refine ⟨_, hS.call (ex _ o1), ?_⟩
  cbv
  refine ⟨_, hS.call (ex _ e1), ?_⟩
  cbv
  refine bT rfl ?_
  refine ⟨_, hS.call (ex _ o2), ?_⟩
  cbv
  refine ⟨_, hS.call (ex _ e2), ?_⟩
  cbv
  refine bT rfl (bT (hS.not _) ?_)
  refine ⟨_, hS.call (ex _ w1), ?_⟩
  cbv
  exact fin1 hF (tv_bool (by rw [hS.eq]; rfl))
end Go.Proofs.Ytgncmjcoojmccaa
end

