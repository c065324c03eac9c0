/-
  A part of the proof: ProD03, RefS03, MMill, ProE03, MapU, MCrt, PrmBig03, GabsRen, ProF03, ProG03, LawRebuilds03, Sanity03, SanityWalk03.
-/
import Derived.Test.YtgncmjcoojmccaaM10
import Derived.Calls
import Derived.Laws.Cells
import Derived.Below
import Derived.Laws.Small
import Derived.Laws.IdiomCopy
import Derived.Laws.BytesString
import Derived.Laws.Append
import Derived.Laws.Tables
import Derived.Great.BuildSlice
import Derived.IntWalk
import Derived.Orders
import Derived.Laws.BitsLemmas
import Derived.Test.YtgncmjcoojmccaaProg
import Derived.ChangeSame
import Derived.Carry
import Derived.ProofKit
import Derived.WideKeyArgs
import Derived.OpenShut
import Derived.WalkKit

section
set_option linter.unusedVariables false
set_option linter.unusedSimpArgs false
set_option maxHeartbeats 8000000
set_option linter.unusedVariables false
set_option linter.unusedSimpArgs false
set_option maxRecDepth 100000
namespace Go.Proofs.Ytgncmjcoojmccaa
open Go Go.Abs Go.Abs.M Go.Proofs

def prebSt (m l ra da rb db : Bool × Abs.Rows) : St := mkSt 91 [.junk, .junk, .junk, .c (.ptr 3 0 0), .c (.ptr 4 0 0), .junk, .junk, .c (.clo 53 [(11, 0, 0)]), .c (.t (.v (.func (.func 55) #[] #[]))), .junk, .junk, .junk, .c (.ptr 20 0 0), .c (.ptr 21 0 0)]
  [none, none, none, some (.var [.t (.v (.bool m.1)), .t (.lst false m.2)]), some (.var [.t (.v (.bool false)), .t (.lst true []), .t (.v (.bool false)), .t (.lst true [])]), none, none, none, none, none, none,
   some (.var [.t (.v (.bool l.1)), .t (.lst false l.2)]), none, none, none, none, none, none, none, none,
   some (.var [.t (.v (.bool ra.1)), .t (.lst false ra.2), .t (.v (.bool da.1)), .t (.lst false da.2)]), some (.var [.t (.v (.bool rb.1)), .t (.lst false rb.2), .t (.v (.bool db.1)), .t (.lst false db.2)])]

/-- What is found: the fraction, or nothing. -/
inductive RebRes (u m : Int) : List Tree → Bool → Prop where
  | found {n d : Int} {s t : Bool} {r q : Abs.Rows} : RebSol u m n d → IsI n s r → IsI d t q → RebRes u m (iT s r ++ iT t q) true
  | none : (∀ n d, ¬ RebSol u m n d) → RebRes u m (iT false [] ++ iT false []) false

theorem rebres_ex (u m : Int) : ∃ X b, RebRes u m X b := by
  by_cases h : ∃ n d, RebSol u m n d
  · obtain ⟨n, d, h⟩ := h
    exact ⟨_, _, .found h (.mk' n) (.mk' d)⟩
  · exact ⟨_, _, .none fun n d hs => h ⟨n, d, hs⟩⟩

theorem prebuild_call {u m : Int} {s t : Bool} {r q : Abs.Rows} {X : List Tree} {b : Bool} (hu : IsI u s r) (hm : IsI m t q) (hpos : 0 < m) (h1 : nl u.natAbs ≤ 274877906944) (h2 : nl m.natAbs ≤ 4294967296) (hX : RebRes u m X b) :
    ACall Try.prog 33 [.val (.agg (iT s r)), .val (.agg (iT t q))] ⟨[.val (.agg X), .val (tb b)], [none, none]⟩ := by
  obtain ⟨o1, o2, ho, co⟩ := iof_call 1 (by omega) (by omega)
  obtain ⟨z1, z2, hz, cz⟩ := iof_call 0 (by omega) (by omega)
  have n1 : nl (1 : Int).natAbs ≤ 1 := nl_le_of (by omega)
  obtain ⟨l1, l2, hl, cl⟩ := isub_call hm ho (by omega) (by omega)
  have csg := isign_call 1 hm (cmpI_gt hpos).symm
  obtain ⟨q1, q2, q3, _, hr, cd⟩ := idivmod_call hu hm (by omega) h1 (by omega)
  -- what lies between - m and m is short
  have sz : ∀ x : Int, x.natAbs ≤ m.natAbs → nl x.natAbs ≤ 4294967296 := fun x hx => Nat.le_trans (nl_mono hx) h2
  have lsz : nl (m - 1).natAbs ≤ 4294967296 := sz _ (by omega)
  refine callZ ccOk mixed [.val, .val] Try.func33 rfl rfl (by kernel_rfl) fun zwrap zadd zsub zmul zquo zrem zshl zshr zband zbor zbxor zbandn zeq zne zlt zle znot zbeq zbne zmax zmin znat zinb zofN zidx zneq znadd zdif zcut zroom zmkok zlen znth zsetr zisI zgetI zsetI zfit zpart zext zsetg zrep zwide zall zmok zmget zmset zW zth A L F hS hF => ?_
  have w1 : zle 1 0 = false := by rw [hS.le]; rfl
  cbv
  refine ⟨_, hS.call (csg), ?_⟩
  cbv
  refine bF (w1) ?_
  refine ⟨_, hS.call (co), ?_⟩
  cbv
  refine ⟨_, hS.call (cl), ?_⟩
  cbv
  refine ⟨_, hS.call (cd), ?_⟩
  cbv
  refine ⟨_, hS.call (cz), ?_⟩
  cbv
  refine ⟨_, hS.call (co), ?_⟩
  cbv
  refine loopZ ccOk mixed hS (fun (k : Nat) s' => ∃ (ra da rb db e : Int) (a1 : Bool) (a2 : Abs.Rows) (b1 : Bool) (b2 : Abs.Rows) (c1 : Bool) (c2 : Abs.Rows) (d1 : Bool) (d2 : Abs.Rows), RInv u m ra da rb db e ∧ (ra ≤ m ∧ -(e * da) ≤ m) ∧ rb = (k : Int) ∧ IsI ra a1 a2 ∧ IsI da b1 b2 ∧ IsI rb c1 c2 ∧ IsI db d1 d2 ∧ s' = prebSt (t, q) (l1, l2) (a1, a2) (b1, b2) (c1, c2) (d1, d2)) (n := (u % m).toNat)
    (s0 := prebSt (t, q) (l1, l2) (t, q) (z1, z2) (false, q3) (o1, o2)) (le_of ?_ ?_) rfl (by show 2 ≤ 22; omega) ?_ ?_
  · simp [leT, prebSt, mkSt]
  · simp [leH, prebSt, mkSt]
  · have := Int.emod_nonneg u (show m ≠ 0 by omega)
    exact ⟨m, 0, u % m, 1, 1, _, _, _, _, _, _, _, _, .start hpos, by omega, by omega, hm, hz, hr, ho, rfl⟩
  · rintro k _ ⟨ra, da, rb, db, e, a1, a2, b1, b2, c1, c2, d1, d2, hI, hle, hk, ha, hda, hb, hdb, rfl⟩
    have cs := psmall_call hb hl (by have := sz rb (by have := hI.r0; have := hI.rl; omega); omega) (by omega)
    obtain ⟨k1, k2, k3⟩ := hI.small
    have he := hI.he
    have hr0 := hI.r0
    have hrl := hI.rl
    have hpb := hI.pb
    have hpa := hI.pa
    have adb : db.natAbs ≤ m.natAbs := by rcases he with rfl | rfl <;> omega
    have ada : da.natAbs ≤ m.natAbs := by rcases he with rfl | rfl <;> omega
    have sra := sz ra (by omega)
    have srb := sz rb (by omega)
    have sda := sz da ada
    have sdb := sz db adb
    by_cases hsm : rb * rb + rb * rb ≤ m - 1
    · rw [decide_eq_true hsm] at cs
      -- the end: sign, size and common factors are asked
      obtain ⟨n, hn⟩ : ∃ n, n = e * rb := ⟨_, rfl⟩
      obtain ⟨d, hd⟩ : ∃ d, d = e * db := ⟨_, rfl⟩
      have hnn : n.natAbs = rb.natAbs := by rcases he with rfl | rfl <;> omega
      have hdd : d.natAbs = db.natAbs := by rcases he with rfl | rfl <;> omega
      have snn : nl n.natAbs ≤ 4294967296 := by rw [hnn]; exact srb
      have sdd : nl d.natAbs ≤ 4294967296 := by rw [hdd]; exact sdb
      have csn := isign_call (cmpI db 0) hdb rfl
      obtain ⟨e1, e2, hne, cne⟩ := ineg_call hb (by omega)
      obtain ⟨f1, f2, hnf, cnf⟩ := ineg_call hdb (by omega)
      have fin_t : d * d + d * d ≤ m - 1 → Int.gcd n d = 1 → Int.gcd d m = 1 → ∀ (x1 y1 : Bool) (x2 y2 : Abs.Rows), IsI n x1 x2 → IsI d y1 y2 → X = iT x1 x2 ++ iT y1 y2 ∧ b = true := fun g1 g2 g3 x1 y1 x2 y2 i1 i2 => by
        have hsol := hI.sound hsm (by rw [← hd]; exact g1) (by rw [← hd, ← hn]; exact g2) (by rw [← hd]; exact g3)
        cases hX with
        | found hs i3 i4 =>
          obtain ⟨r1, r2⟩ := hI.complete hsm hs
          rw [← hn] at r1
          rw [← hd] at r2
          obtain ⟨rfl, rfl⟩ := (i3.of r1).inj i1
          obtain ⟨rfl, rfl⟩ := (i4.of r2).inj i2
          exact ⟨rfl, rfl⟩
        | none hs => exact absurd hsol (hs _ _)
      have fin_f : ¬ (d * d + d * d ≤ m - 1 ∧ Int.gcd n d = 1 ∧ Int.gcd d m = 1) → X = iT false [] ++ iT false [] ∧ b = false := fun hnot => by
        cases hX with
        | found hs i3 i4 =>
          obtain ⟨r1, r2⟩ := hI.complete hsm hs
          rw [← hn] at r1
          rw [← hd] at r2
          subst r1 r2
          exact absurd ⟨hs.sd, hs.co, hs.cm⟩ hnot
        | none hs => exact ⟨rfl, rfl⟩
      clear hI hX hle hk k1 k2 k3 sra sda ada ha hda
      have tail : ∀ (x1 y1 : Bool) (x2 y2 : Abs.Rows), IsI n x1 x2 → IsI d y1 y2 → ACall Try.prog 53 [.val (.agg (iT y1 y2)), .ref (iT l1 l2)] ⟨[.val (tb (decide (d * d + d * d ≤ m - 1)))], [none, some (.var [.t (.v (.bool l1)), .t (.lst false l2)])]⟩ ∧
          ACall Try.prog 58 [.val (.agg (iT x1 x2)), .val (.agg (iT y1 y2))] ⟨[.val (tb (decide (Int.gcd n d = 1)))], [none, none]⟩ ∧
          ACall Try.prog 58 [.val (.agg (iT y1 y2)), .val (.agg (iT t q))] ⟨[.val (tb (decide (Int.gcd d m = 1)))], [none, none]⟩ := fun x1 y1 x2 y2 i1 i2 =>
        ⟨psmall_call i2 hl (by omega) (by omega), pcoprime_call i1 i2 (by omega) (by omega), pcoprime_call i2 hm (by omega) (by omega)⟩
      have fin_z : X = iT false [] ++ iT false [] ∧ b = false → F ⟨[.val (.agg [.v (.bool false), .lst true [], .v (.bool false), .lst true []]), .val (tb false)], [none, none]⟩ := fun ⟨g1, g2⟩ => by
        rw [g1, g2] at hF
        exact fin2w hF ⟨.v _, TLe.drop _ _, .v _, TLe.drop _ _, trivial⟩ (TVLe.refl _)
      obtain ⟨P1, hP1⟩ : ∃ P, P = decide (d * d + d * d ≤ m - 1) := ⟨_, rfl⟩
      obtain ⟨P2, hP2⟩ : ∃ P, P = decide (Int.gcd n d = 1) := ⟨_, rfl⟩
      obtain ⟨P3, hP3⟩ : ∃ P, P = decide (Int.gcd d m = 1) := ⟨_, rfl⟩
      rw [← hP1, ← hP2, ← hP3] at tail
      have fin_z1 : P1 = false → X = iT false [] ++ iT false [] ∧ b = false := fun h => fin_f fun h' => of_decide_eq_false (hP1.symm.trans h) h'.1
      have fin_z2 : P2 = false → X = iT false [] ++ iT false [] ∧ b = false := fun h => fin_f fun h' => of_decide_eq_false (hP2.symm.trans h) h'.2.1
      have fin_z3 : P3 = false → X = iT false [] ++ iT false [] ∧ b = false := fun h => fin_f fun h' => of_decide_eq_false (hP3.symm.trans h) h'.2.2
      have fin_y : P1 = true → P2 = true → P3 = true → ∀ (x1 y1 : Bool) (x2 y2 : Abs.Rows), IsI n x1 x2 → IsI d y1 y2 → F ⟨[.val (.agg (iT x1 x2 ++ iT y1 y2)), .val (tb true)], [none, none]⟩ := fun g1 g2 g3 x1 y1 x2 y2 i1 i2 => by
        obtain ⟨k1, k2⟩ := fin_t (of_decide_eq_true (hP1.symm.trans g1)) (of_decide_eq_true (hP2.symm.trans g2)) (of_decide_eq_true (hP3.symm.trans g3)) x1 y1 x2 y2 i1 i2
        rw [k1, k2] at hF
        exact hF _ (ResLe.refl _)
      clear hP1 hP2 hP3 fin_t fin_f
      have w2 : znot true = false := hS.not true
      rcases he with rfl | rfl
      · rw [Int.one_mul] at hn hd hpb
        subst hn hd
        obtain ⟨t1, t2, t3⟩ := tail _ _ _ _ hb hdb
        have fin := fun g1 g2 g3 => fin_y g1 g2 g3 _ _ _ _ hb hdb
        rw [cmpI_gt hpb] at csn
        clear tail fin_y
        have w3 : zlt 1 0 = false := by rw [hS.lt]; rfl
        cbv
        refine ⟨_, hS.call (cs), ?_⟩
        cbv
        refine bF (w2) ?_
        refine ⟨_, hS.call (csn), ?_⟩
        cbv
        refine bF (w3) ?_
        refine ⟨_, hS.call (t1), ?_⟩
        cbv
        refine ⟨fun g1 => ?_, fun g1 => ?_⟩
        · rw [hS.not] at g1
          cases P1 with
          | true => cases g1
          | false => exact fin_z (fin_z1 rfl)
        · rw [hS.not] at g1
          cases P1 with
          | false => cases g1
          | true =>
            refine ⟨_, hS.call t2, ?_⟩
            cbv
            refine ⟨fun g2 => ?_, fun g2 => ?_⟩
            · rw [hS.not] at g2
              cases P2 with
              | true => cases g2
              | false => exact fin_z (fin_z2 rfl)
            · rw [hS.not] at g2
              cases P2 with
              | false => cases g2
              | true =>
                refine ⟨_, hS.call t3, ?_⟩
                cbv
                refine ⟨fun g3 => ?_, fun g3 => ?_⟩
                · rw [hS.not] at g3
                  cases P3 with
                  | true => cases g3
                  | false => exact fin_z (fin_z3 rfl)
                · rw [hS.not] at g3
                  cases P3 with
                  | false => cases g3
                  | true => exact fin rfl rfl rfl
      · have hn' : n = -rb := by omega
        have hd' : d = -db := by omega
        subst hn' hd'
        obtain ⟨t1, t2, t3⟩ := tail _ _ _ _ hne hnf
        have fin := fun g1 g2 g3 => fin_y g1 g2 g3 _ _ _ _ hne hnf
        rw [cmpI_lt (by omega)] at csn
        clear tail fin_y
        have w3 : zlt (-1) 0 = true := by rw [hS.lt]; rfl
        cbv
        refine ⟨_, hS.call (cs), ?_⟩
        cbv
        refine bF (w2) ?_
        refine ⟨_, hS.call (csn), ?_⟩
        cbv
        refine bT (w3) ?_
        refine ⟨_, hS.call (cne), ?_⟩
        cbv
        refine ⟨_, hS.call (cnf), ?_⟩
        cbv
        refine ⟨_, hS.call (t1), ?_⟩
        cbv
        refine ⟨fun g1 => ?_, fun g1 => ?_⟩
        · rw [hS.not] at g1
          cases P1 with
          | true => cases g1
          | false => exact fin_z (fin_z1 rfl)
        · rw [hS.not] at g1
          cases P1 with
          | false => cases g1
          | true =>
            refine ⟨_, hS.call t2, ?_⟩
            cbv
            refine ⟨fun g2 => ?_, fun g2 => ?_⟩
            · rw [hS.not] at g2
              cases P2 with
              | true => cases g2
              | false => exact fin_z (fin_z2 rfl)
            · rw [hS.not] at g2
              cases P2 with
              | false => cases g2
              | true =>
                refine ⟨_, hS.call t3, ?_⟩
                cbv
                refine ⟨fun g3 => ?_, fun g3 => ?_⟩
                · rw [hS.not] at g3
                  cases P3 with
                  | true => cases g3
                  | false => exact fin_z (fin_z3 rfl)
                · rw [hS.not] at g3
                  cases P3 with
                  | false => cases g3
                  | true => exact fin rfl rfl rfl
    · rw [decide_eq_false hsm] at cs
      obtain ⟨hrb, hI', hlt⟩ := hI.step hsm
      obtain ⟨g1, g2, g3, hq, _, cdm⟩ := idivmod_call ha hb (by omega) (by omega) (by omega)
      have hqle : (ra / rb).natAbs ≤ m.natAbs := by
        have h1 : 0 ≤ ra / rb := Int.ediv_nonneg (by omega) (by omega)
        have h2 : ra / rb ≤ ra := Int.ediv_le_self _ (by omega)
        omega
      obtain ⟨i1, i2, j1, j2, hi, hj, ccm⟩ := pcombine_call ha hda hb hdb hq (by omega) (by omega) (by omega) (by omega) (by have := sz _ hqle; omega)
      have hnx : ∃ (ra' da' rb' db' e' : Int) (a1 : Bool) (a2 : Abs.Rows) (b1 : Bool) (b2 : Abs.Rows) (c1' : Bool) (c2' : Abs.Rows) (d1' : Bool) (d2' : Abs.Rows), RInv u m ra' da' rb' db' e' ∧ (ra' ≤ m ∧ -(e' * da') ≤ m) ∧ rb' = (((ra - ra / rb * rb).toNat : Nat) : Int) ∧ IsI ra' a1 a2 ∧ IsI da' b1 b2 ∧ IsI rb' c1' c2' ∧ IsI db' d1' d2' ∧ prebSt (t, q) (l1, l2) (c1, c2) (d1, d2) (i1, i2) (j1, j2) = prebSt (t, q) (l1, l2) (a1, a2) (b1, b2) (c1', c2') (d1', d2') :=
        ⟨_, _, _, _, _, _, _, _, _, _, _, _, _, hI', ⟨by omega, by have : - -e * db = e * db := by rw [Int.neg_neg]
                                                                   have e2 : -(-e * db) = e * db := by rw [Int.neg_mul, Int.neg_neg]
                                                                   omega⟩, by have := hI'.r0; omega, hb, hdb, hi, hj, rfl⟩
      have hdec : (ra - ra / rb * rb).toNat < k := by have := hI'.r0; omega
      have w2 : znot false = true := hS.not false
      generalize (ra - ra / rb * rb).toNat = k' at *
      clear hI hI' hX
      cbv
      refine ⟨_, hS.call (cs), ?_⟩
      cbv
      refine bT (w2) ?_
      refine ⟨_, hS.call (cdm), ?_⟩
      cbv
      refine ⟨_, hS.call (ccm), ?_⟩
      cbv
      exact again (s' := prebSt (t, q) (l1, l2) (c1, c2) (d1, d2) (i1, i2) (j1, j2)) (m := k') (by simp [leT, prebSt, mkSt]) (by simp [leH, prebSt, mkSt]) rfl (by show 2 ≤ 22; omega) hdec hnx
end Go.Proofs.Ytgncmjcoojmccaa
end

section
set_option linter.unusedVariables false
set_option linter.unusedSimpArgs false
set_option maxHeartbeats 8000000
set_option linter.unusedVariables false
set_option linter.unusedSimpArgs false
set_option maxRecDepth 100000
namespace Go.Proofs.Ytgncmjcoojmccaa
open Go Go.Abs Go.Abs.M Go.Proofs

theorem isroot_ex : ∀ (n : Nat), ∃ b, IsRoot (n : Int) b
  | 0 => ⟨0, by omega, by omega, by omega⟩
  | n + 1 => by
    obtain ⟨b, h1, h2, h3⟩ := isroot_ex n
    by_cases h : (b + 1) * (b + 1) ≤ ((n + 1 : Nat) : Int)
    · refine ⟨b + 1, by omega, h, ?_⟩
      have e : (b + 1 + 1) * (b + 1 + 1) = (b + 1) * (b + 1) + 2 * b + 3 := by grind
      omega
    · exact ⟨b, h1, by omega, by omega⟩

/-- The bound of numerators and denominators. -/
def RootB (m b : Int) : Prop := IsRoot ((m - 1) / 2) b

theorem rootB_ex {m : Int} (h : 0 < m) : ∃ b, RootB m b := by
  obtain ⟨b, hb⟩ := isroot_ex ((m - 1) / 2).toNat
  rw [Int.toNat_of_nonneg (by omega)] at hb
  exact ⟨b, hb⟩

theorem RootB.iff {m b x : Int} (h : RootB m b) (hx : 0 ≤ x) : x * x + x * x ≤ m - 1 ↔ x ≤ b := by
  rw [← h.le_iff hx]; omega

theorem RootB.le {m b : Int} (h : RootB m b) (hm : 0 < m) : 0 ≤ b ∧ b ≤ m := by
  have h1 := h.1
  have h2 := (h.iff h1).2 (Int.le_refl _)
  refine ⟨h1, ?_⟩
  rcases Int.lt_or_le m b with g | g
  · have := sq_mono (x := 1) (y := b) (by omega) (by omega)
    have h3 : b * 1 ≤ b * b := Int.mul_le_mul_of_nonneg_left (by omega) (by omega)
    omega
  · exact g

theorem rrroot_call {m b : Int} {s : Bool} {r : Abs.Rows} {u : Bool} {w : Abs.Rows} (hm : IsI m s r) (h0 : 0 < m) (hm1 : nl m.natAbs ≤ 1000) (hb : RootB m b) (hu : IsI b u w) : ACall Try.prog 34 [.val (.agg (iT s r))] ⟨[.val (.agg (iT u w))], [none]⟩ := by
  obtain ⟨o1, o2, ho, co⟩ := rof_call 1 (by omega) (by omega)
  obtain ⟨t1, t2, ht, ct⟩ := rof_call 2 (by omega) (by omega)
  have n1 : nl (1 : Int).natAbs ≤ 1 := nl_le_of (by omega)
  have n2 : nl (2 : Int).natAbs ≤ 1 := nl_le_of (by omega)
  have n3 : nl (m - 1).natAbs ≤ 1000 := Nat.le_trans (nl_mono (by omega)) hm1
  have n4 : nl ((m - 1) / 2).natAbs ≤ 1000 := Nat.le_trans (nl_mono (by omega)) hm1
  obtain ⟨s1, s2, hs, cs⟩ := rsub_call hm ho (by omega) (by omega)
  obtain ⟨q1, q2, q3, hq, _, cd⟩ := rdivmod_call hs ht (by omega) (by omega) (by omega)
  have cr := rroot_call hq (by omega) n4 hb hu
  clear hm ho ht hs hq hb hu
  refine callZ ccOk mixed [.val] Try.func34 rfl rfl (by kernel_rfl) fun zwrap zadd zsub zmul zquo zrem zshl zshr zband zbor zbxor zbandn zeq zne zlt zle znot zbeq zbne zmax zmin znat zinb zofN zidx zneq znadd zdif zcut zroom zmkok zlen znth zsetr zisI zgetI zsetI zfit zpart zext zsetg zrep zwide zall zmok zmget zmset zW zth A L F hS hF => ?_
  cbv
  refine ⟨_, hS.call (co), ?_⟩
  cbv
  refine ⟨_, hS.call (cs), ?_⟩
  cbv
  refine ⟨_, hS.call (ct), ?_⟩
  cbv
  refine ⟨_, hS.call (cd), ?_⟩
  cbv
  refine ⟨_, hS.call (cr), ?_⟩
  cbv
  exact hF _ (ResLe.refl _)

/-- What the sign and the two questions need. -/
theorem rinv_cop {u m ra da rb db e : Int} (h : RInv u m ra da rb db e) (hc : Int.gcd (e * db) m = 1) : Int.gcd (e * rb) (e * db) = 1 := by
  have hg : Int.gcd (e * rb) (e * db) ∣ 1 := by
    rw [← hc]
    refine Int.dvd_gcd ?_ ?_ |> fun h => by exact_mod_cast h
    · exact Int.gcd_dvd_right ..
    · obtain ⟨x, hx⟩ := Int.gcd_dvd_left (a := e * rb) (b := e * db)
      obtain ⟨y, hy⟩ := Int.gcd_dvd_right (a := e * rb) (b := e * db)
      generalize ((Int.gcd (e * rb) (e * db) : Nat) : Int) = g at *
      have ee : e * e = 1 := by rcases h.he with rfl | rfl <;> rfl
      have hd := h.det
      have e1 : m = ra * (e * db) - (e * rb) * da := by
        have : e * (e * m) = m := by rw [← Int.mul_assoc, ee, Int.one_mul]
        rw [← hd] at this
        grind
      exact ⟨ra * y - x * da, by rw [e1, hx, hy]; grind⟩
  exact Nat.dvd_one.1 hg

def rrbSt (m b ra da rb db : Bool × Abs.Rows) : St := mkSt 81 [.junk, .junk, .junk, .c (.ptr 3 0 0), .c (.ptr 4 0 0), vb false, .c (.ptr 9 0 0), .junk, .c (.ptr 13 0 0), .junk, .c (.ptr 18 0 0), .c (.ptr 19 0 0), .c (.ptr 20 0 0)]
  [none, none, none, some (.var [.t (.v (.bool m.1)), .t (.lst false m.2)]), some (.var [.t (.v (.bool false)), .t (.lst true []), .t (.v (.bool false)), .t (.lst true [])]), none, none, none, none,
   some (.var [.t (.v (.bool b.1)), .t (.lst false b.2)]), none, none, none, some (.var [.t (.v (.bool rb.1)), .t (.lst false rb.2)]), none, none, none, none,
   some (.var [.t (.v (.bool ra.1)), .t (.lst false ra.2)]), some (.var [.t (.v (.bool da.1)), .t (.lst false da.2)]), some (.var [.t (.v (.bool db.1)), .t (.lst false db.2)])]

theorem rrebuild_call {u m : Int} {s t : Bool} {r q : Abs.Rows} {X : List Tree} {b : Bool} (hu : IsI u s r) (hm : IsI m t q) (hpos : 0 < m) (h1 : nl u.natAbs ≤ 1000) (h2 : nl m.natAbs ≤ 1000) (hX : RebRes u m X b) :
    ACall Try.prog 36 [.val (.agg (iT s r)), .val (.agg (iT t q))] ⟨[.val (.agg X), .val (tb b)], [none, none]⟩ := by
  obtain ⟨o1, o2, ho, co⟩ := rof_call 1 (by omega) (by omega)
  obtain ⟨z1, z2, hz, cz⟩ := rof_call 0 (by omega) (by omega)
  have n1 : nl (1 : Int).natAbs ≤ 1 := nl_le_of (by omega)
  have csg := rsign_call 1 hm (cmpI_gt hpos).symm
  obtain ⟨q1, q2, q3, _, hr, cd⟩ := rdivmod_call hu hm (by omega) (by omega) (by omega)
  obtain ⟨B, hB⟩ := rootB_ex hpos
  obtain ⟨bs, br, hbI⟩ : ∃ bs br, IsI B bs br := ⟨_, _, .mk' B⟩
  have crt := rrroot_call hm hpos h2 hB hbI
  have sz : ∀ x : Int, x.natAbs ≤ m.natAbs → nl x.natAbs ≤ 1000 := fun x hx => Nat.le_trans (nl_mono hx) h2
  have hBle := hB.le hpos
  have szB := sz B (by omega)
  have hround : ∀ (ra da rb db e : Int) (a1 : Bool) (a2 : Abs.Rows) (b1 : Bool) (b2 : Abs.Rows) (c1 : Bool) (c2 : Abs.Rows) (d1 : Bool) (d2 : Abs.Rows), RInv u m ra da rb db e → (ra ≤ m ∧ -(e * da) ≤ m) → IsI ra a1 a2 → IsI da b1 b2 → IsI rb c1 c2 → IsI db d1 d2 →
      ACall Try.prog 32 [.val (.agg (iT c1 c2)), .val (.agg (iT bs br))] ⟨[.val (ti .i64 (cmpI rb B))], [none, none]⟩ ∧
      (¬ rb ≤ B → ∃ (g1 : Bool) (g2 : Abs.Rows) (i2 : Abs.Rows) (p1 : Bool) (p2 : Abs.Rows) (j1 : Bool) (j2 : Abs.Rows),
        ACall Try.prog 42 [.val (.agg (iT a1 a2)), .val (.agg (iT c1 c2))] ⟨[.val (.agg (iT g1 g2)), .val (.agg (iT false i2)), .val (ti .i64 0)], [none, none]⟩ ∧
        ACall Try.prog 28 [.val (.agg (iT g1 g2)), .val (.agg (iT d1 d2))] ⟨[.val (.agg (iT p1 p2))], [none, none]⟩ ∧
        ACall Try.prog 59 [.val (.agg (iT b1 b2)), .val (.agg (iT p1 p2))] ⟨[.val (.agg (iT j1 j2))], [none, none]⟩ ∧
        RInv u m rb db (ra - ra / rb * rb) (da - ra / rb * db) (-e) ∧ (rb ≤ m ∧ -(-e * db) ≤ m) ∧ IsI (ra - ra / rb * rb) false i2 ∧ IsI (da - ra / rb * db) j1 j2 ∧ 0 ≤ ra - ra / rb * rb ∧ ra - ra / rb * rb < rb) ∧
      (rb ≤ B → ∃ (n d : Int) (x1 : Bool) (x2 : Abs.Rows) (y1 : Bool) (y2 : Abs.Rows) (w : Abs.Rows), 
        (e = 1 ∧ iT x1 x2 = iT c1 c2 ∧ iT y1 y2 = iT d1 d2 ∧ ACall Try.prog 31 [.val (.agg (iT d1 d2))] ⟨[.val (ti .i64 1)], [none]⟩ ∨
         e = -1 ∧ ACall Try.prog 31 [.val (.agg (iT d1 d2))] ⟨[.val (ti .i64 (-1))], [none]⟩ ∧ ACall Try.prog 35 [.val (.agg (iT c1 c2))] ⟨[.val (.agg (iT x1 x2))], [none]⟩ ∧ ACall Try.prog 35 [.val (.agg (iT d1 d2))] ⟨[.val (.agg (iT y1 y2))], [none]⟩) ∧
        ACall Try.prog 31 [.val (.agg (iT y1 y2))] ⟨[.val (ti .i64 1)], [none]⟩ ∧
        ACall Try.prog 32 [.val (.agg (iT y1 y2)), .val (.agg (iT bs br))] ⟨[.val (ti .i64 (cmpI d B))], [none, none]⟩ ∧
        ACall Try.prog 61 [.val (.agg (iT y1 y2)), .val (.agg (iT t q))] ⟨[.val (.agg (iT false w))], [none, none]⟩ ∧
        ACall Try.prog 32 [.val (.agg (iT false w)), .val (.agg (iT o1 o2))] ⟨[.val (ti .i64 (cmpI (Int.gcd d m) 1))], [none, none]⟩ ∧
        (d ≤ B → Int.gcd d m = 1 → X = iT x1 x2 ++ iT y1 y2 ∧ b = true) ∧ (¬ (d ≤ B ∧ Int.gcd d m = 1) → X = iT false [] ++ iT false [] ∧ b = false)) := by
    intro ra da rb db e a1 a2 b1 b2 c1 c2 d1 d2 hI hle ha hda hb hdb
    obtain ⟨k1, k2, k3⟩ := hI.small
    have he := hI.he
    have hr0 := hI.r0
    have hrl := hI.rl
    have hpb := hI.pb
    have hpa := hI.pa
    have adb : db.natAbs ≤ m.natAbs := by rcases he with rfl | rfl <;> omega
    have ada : da.natAbs ≤ m.natAbs := by rcases he with rfl | rfl <;> omega
    have sra := sz ra (by omega)
    have srb := sz rb (by omega)
    have sda := sz da ada
    have sdb := sz db adb
    have hiff := hB.iff hr0
    refine ⟨rcmp_call _ hb hbI rfl (by omega) (by omega), fun hgt => ?_, fun hsm' => ?_⟩
    · obtain ⟨hrb, hI', hlt⟩ := hI.step (fun h => hgt (hiff.1 h))
      obtain ⟨g1, g2, g3, hq, hrest, cdm⟩ := rdivmod_call ha hb (by omega) (by omega) (by omega)
      have hqle : (ra / rb).natAbs ≤ m.natAbs := by
        have h1 : 0 ≤ ra / rb := Int.ediv_nonneg (by omega) (by omega)
        have h2 : ra / rb ≤ ra := Int.ediv_le_self _ (by omega)
        omega
      have sq := sz _ hqle
      obtain ⟨p1, p2, hp, cm⟩ := rmul_call hq hdb (by omega) (by omega)
      have sp : nl (ra / rb * db).natAbs ≤ 2000 := by
        rw [Int.natAbs_mul]
        have := nl_mul (ra / rb).natAbs db.natAbs
        omega
      obtain ⟨j1, j2, hj, cs⟩ := rsub_call hda hp (by omega) (by omega)
      have e2 : ra - ra / rb * rb = ra % rb := by have := Int.emod_add_mul_ediv ra rb; rw [Int.mul_comm]; omega
      refine ⟨g1, g2, g3, p1, p2, j1, j2, cdm, cm, cs, hI', ⟨by omega, ?_⟩, by rw [e2]; exact hrest, hj, by rw [e2]; exact Int.emod_nonneg _ (by omega), hlt⟩
      have e3 : -(-e * db) = e * db := by rw [Int.neg_mul, Int.neg_neg]
      omega
    · have hsm := hiff.2 hsm'
      obtain ⟨n, hn⟩ : ∃ n, n = e * rb := ⟨_, rfl⟩
      obtain ⟨d, hd⟩ : ∃ d, d = e * db := ⟨_, rfl⟩
      have hd0 : 0 < d := by rw [hd]; exact hpb
      have hdd : d.natAbs = db.natAbs := by rcases he with rfl | rfl <;> omega
      have sdd : nl d.natAbs ≤ 1000 := by rw [hdd]; exact sdb
      have hiffd := hB.iff (show 0 ≤ d by omega)
      obtain ⟨x1, x2, y1, y2, i1, i2, hway⟩ : ∃ (x1 : Bool) (x2 : Abs.Rows) (y1 : Bool) (y2 : Abs.Rows), IsI n x1 x2 ∧ IsI d y1 y2 ∧
        (e = 1 ∧ iT x1 x2 = iT c1 c2 ∧ iT y1 y2 = iT d1 d2 ∧ ACall Try.prog 31 [.val (.agg (iT d1 d2))] ⟨[.val (ti .i64 1)], [none]⟩ ∨
         e = -1 ∧ ACall Try.prog 31 [.val (.agg (iT d1 d2))] ⟨[.val (ti .i64 (-1))], [none]⟩ ∧ ACall Try.prog 35 [.val (.agg (iT c1 c2))] ⟨[.val (.agg (iT x1 x2))], [none]⟩ ∧ ACall Try.prog 35 [.val (.agg (iT d1 d2))] ⟨[.val (.agg (iT y1 y2))], [none]⟩) := by
        rcases he with rfl | rfl
        · rw [Int.one_mul] at hn hd hpb
          exact ⟨c1, c2, d1, d2, hb.of hn.symm, hdb.of hd.symm, .inl ⟨rfl, rfl, rfl, rsign_call 1 hdb (cmpI_gt hpb).symm⟩⟩
        · obtain ⟨e1, e2, hne, cne⟩ := rneg_call hb (by omega)
          obtain ⟨f1, f2, hnf, cnf⟩ := rneg_call hdb (by omega)
          exact ⟨e1, e2, f1, f2, hne.of (by omega), hnf.of (by omega), .inr ⟨rfl, rsign_call (-1) hdb (cmpI_lt (by omega)).symm, cne, cnf⟩⟩
      obtain ⟨w, hw, cg⟩ := rgcd_call i2 hm (by omega) (by omega)
      have sg : nl (((Int.gcd d m : Nat) : Int)).natAbs ≤ 1000 := Nat.le_trans (nl_mono (by
        have := Nat.le_of_dvd (by omega) (Nat.gcd_dvd_left d.natAbs m.natAbs)
        show (((Int.gcd d m : Nat) : Int)).natAbs ≤ d.natAbs
        rw [Int.natAbs_natCast]; exact this)) sdd
      refine ⟨n, d, x1, x2, y1, y2, w, hway, rsign_call 1 i2 (cmpI_gt hd0).symm, rcmp_call _ i2 hbI rfl (by omega) (by omega), cg, rcmp_call _ hw ho rfl (by omega) (by omega), fun g1 g3 => ?_, fun hnot => ?_⟩
      · have g2 := rinv_cop hI (by rw [← hd]; exact g3)
        have hsol := hI.sound hsm (by rw [← hd]; exact hiffd.2 g1) g2 (by rw [← hd]; exact g3)
        cases hX with
        | found hs i3 i4 =>
          obtain ⟨r1, r2⟩ := hI.complete hsm hs
          rw [← hn] at r1
          rw [← hd] at r2
          obtain ⟨rfl, rfl⟩ := (i3.of r1).inj i1
          obtain ⟨rfl, rfl⟩ := (i4.of r2).inj i2
          exact ⟨rfl, rfl⟩
        | none hs => exact absurd hsol (hs _ _)
      · cases hX with
        | found hs i3 i4 =>
          obtain ⟨r1, r2⟩ := hI.complete hsm hs
          rw [← hd] at r2
          subst r2
          exact absurd ⟨hiffd.1 hs.sd, hs.cm⟩ hnot
        | none hs => exact ⟨rfl, rfl⟩
  have hr0 := Int.emod_nonneg u (show m ≠ 0 by omega)
  have hcmp : ∀ x y : Int, (0 < cmpI x y ↔ ¬ x ≤ y) ∧ (cmpI x y = 0 ↔ x = y) := fun x y => by
    unfold cmpI
    split
    · constructor <;> omega
    · split <;> constructor <;> omega
  clear hX szB n1
  refine callZ ccOk mixed [.val, .val] Try.func36 rfl rfl (by kernel_rfl) fun zwrap zadd zsub zmul zquo zrem zshl zshr zband zbor zbxor zbandn zeq zne zlt zle znot zbeq zbne zmax zmin znat zinb zofN zidx zneq znadd zdif zcut zroom zmkok zlen znth zsetr zisI zgetI zsetI zfit zpart zext zsetg zrep zwide zall zmok zmget zmset zW zth A L F hS hF => ?_
  have w1 : zle 1 0 = false := by rw [hS.le]; rfl
  have w2 : zlt 1 0 = false := by rw [hS.lt]; rfl
  have w3 : zlt (-1) 0 = true := by rw [hS.lt]; rfl
  have w4 : zeq 1 0 = false := by rw [hS.eq]; rfl
  have A1 : ∀ x y : Int, ∃ c : Int, cmpI x y = c ∧ zlt 0 c = decide (¬ x ≤ y) := fun x y => ⟨_, rfl, by
    rw [hS.lt]; exact decide_eq_decide.2 (hcmp x y).1⟩
  have A2 : ∀ x y : Int, ∃ c : Int, cmpI x y = c ∧ zne c 0 = decide (x ≠ y) := fun x y => ⟨_, rfl, by
    rw [hS.ne]; exact decide_eq_decide.2 (not_congr (hcmp x y).2)⟩
  cbv
  refine ⟨_, hS.call (csg), ?_⟩
  cbv
  refine bF (w1) ?_
  refine ⟨_, hS.call (crt), ?_⟩
  cbv
  refine ⟨_, hS.call (cd), ?_⟩
  cbv
  refine ⟨_, hS.call (cz), ?_⟩
  cbv
  refine ⟨_, hS.call (co), ?_⟩
  cbv
  refine loopZ ccOk mixed hS (fun (k : Nat) s' => ∃ (ra da rb db e : Int) (a1 : Bool) (a2 : Abs.Rows) (b1 : Bool) (b2 : Abs.Rows) (c1 : Bool) (c2 : Abs.Rows) (d1 : Bool) (d2 : Abs.Rows), RInv u m ra da rb db e ∧ (ra ≤ m ∧ -(e * da) ≤ m) ∧ rb = (k : Int) ∧ IsI ra a1 a2 ∧ IsI da b1 b2 ∧ IsI rb c1 c2 ∧ IsI db d1 d2 ∧ s' = rrbSt (t, q) (bs, br) (a1, a2) (b1, b2) (c1, c2) (d1, d2)) (n := (u % m).toNat)
    (s0 := rrbSt (t, q) (bs, br) (t, q) (z1, z2) (false, q3) (o1, o2)) (le_of ?_ ?_) rfl (by show 2 ≤ 21; omega) ?_ ?_
  · simp [leT, rrbSt, mkSt, vb]
  · simp [leH, rrbSt, mkSt]
  · exact ⟨m, 0, u % m, 1, 1, _, _, _, _, _, _, _, _, .start hpos, by omega, by omega, hm, hz, hr, ho, rfl⟩
  · rintro k s1 ⟨ra, da, rb, db, e, a1, a2, b1, b2, c1, c2, d1, d2, hI, hle, hk, ha, hda, hb, hdb, hs1⟩
    obtain ⟨cc, hgo, hend⟩ := hround ra da rb db e a1 a2 b1 b2 c1 c2 d1 d2 hI hle ha hda hb hdb
    obtain ⟨C, hC, hC2⟩ := A1 rb B
    rw [hC] at cc
    by_cases hsm : rb ≤ B
    · rw [decide_eq_false (fun h => h hsm)] at hC2
      obtain ⟨n, d, x1, x2, y1, y2, w, hway, t1, t2, t3, t4, fT, fF⟩ := hend hsm
      obtain ⟨D, hD, hD2⟩ := A1 d B
      obtain ⟨G, hG, hG2⟩ := A2 (Int.gcd d m) 1
      rw [hD] at t2
      rw [hG] at t4
      have fT' : d ≤ B → Int.gcd d m = 1 → F ⟨[.val (.agg (iT x1 x2 ++ iT y1 y2)), .val (tb true)], [none, none]⟩ := fun g1 g2 => by
        obtain ⟨k1, k2⟩ := fT g1 g2
        rw [k1, k2] at hF
        exact hF _ (ResLe.refl _)
      have fF' : ¬ (d ≤ B ∧ Int.gcd d m = 1) → F ⟨[.val (.agg [.v (.bool false), .lst true [], .v (.bool false), .lst true []]), .val (tb false)], [none, none]⟩ := fun g => by
        obtain ⟨k1, k2⟩ := fF g
        rw [k1, k2] at hF
        exact fin2w hF ⟨.v _, TLe.drop _ _, .v _, TLe.drop _ _, trivial⟩ (TVLe.refl _)
      clear hround hgo hend A1 A2 hcmp fT fF hF hI hle hk ha hda hb hdb hC hD hG
      rcases hway with ⟨-, E1, E2, s1c⟩ | ⟨-, s1c, nc, nd'⟩
      · cases E1
        cases E2
        subst hs1
        cbv
        refine ⟨_, hS.call (cc), ?_⟩
        cbv
        refine bF (hC2) ?_
        refine ⟨_, hS.call (s1c), ?_⟩
        cbv
        refine bF (w2) ?_
        refine ⟨_, hS.call (t1), ?_⟩
        cbv
        refine bF (w4) ?_
        refine ⟨_, hS.call (t2), ?_⟩
        cbv
        refine ⟨fun g => ?_, fun g => ?_⟩
        all_goals rw [hD2] at g
        · exact fF' fun h => of_decide_eq_true g h.1
        · have g := Decidable.not_not.1 (of_decide_eq_false g)
          refine ⟨_, hS.call (t3), ?_⟩
          cbv
          refine ⟨_, hS.call (co), ?_⟩
          cbv
          refine ⟨_, hS.call (t4), ?_⟩
          cbv
          refine ⟨fun g' => ?_, fun g' => ?_⟩
          all_goals rw [hG2] at g'
          · exact fF' fun h => of_decide_eq_true g' (by rw [h.2]; rfl)
          · have g' := Decidable.not_not.1 (of_decide_eq_false g')
            exact fT' g (Int.ofNat_inj.1 (show ((Int.gcd d m : Nat) : Int) = ((1 : Nat) : Int) from g'))
      · subst hs1
        cbv
        refine ⟨_, hS.call (cc), ?_⟩
        cbv
        refine bF (hC2) ?_
        refine ⟨_, hS.call (s1c), ?_⟩
        cbv
        refine bT (w3) ?_
        refine ⟨_, hS.call (nc), ?_⟩
        cbv
        refine ⟨_, hS.call (nd'), ?_⟩
        cbv
        refine ⟨_, hS.call (t1), ?_⟩
        cbv
        refine bF (w4) ?_
        refine ⟨_, hS.call (t2), ?_⟩
        cbv
        refine ⟨fun g => ?_, fun g => ?_⟩
        all_goals rw [hD2] at g
        · exact fF' fun h => of_decide_eq_true g h.1
        · have g := Decidable.not_not.1 (of_decide_eq_false g)
          refine ⟨_, hS.call (t3), ?_⟩
          cbv
          refine ⟨_, hS.call (co), ?_⟩
          cbv
          refine ⟨_, hS.call (t4), ?_⟩
          cbv
          refine ⟨fun g' => ?_, fun g' => ?_⟩
          all_goals rw [hG2] at g'
          · exact fF' fun h => of_decide_eq_true g' (by rw [h.2]; rfl)
          · have g' := Decidable.not_not.1 (of_decide_eq_false g')
            exact fT' g (Int.ofNat_inj.1 (show ((Int.gcd d m : Nat) : Int) = ((1 : Nat) : Int) from g'))
    · rw [decide_eq_true hsm] at hC2
      obtain ⟨g1, g2, i2, p1, p2, j1, j2, cdm, cm, cs, hI', hle', hi, hj, r1, r2⟩ := hgo hsm
      have hnx : ∃ (ra' da' rb' db' e' : Int) (a1 : Bool) (a2 : Abs.Rows) (b1 : Bool) (b2 : Abs.Rows) (c1' : Bool) (c2' : Abs.Rows) (d1' : Bool) (d2' : Abs.Rows), RInv u m ra' da' rb' db' e' ∧ (ra' ≤ m ∧ -(e' * da') ≤ m) ∧ rb' = (((ra - ra / rb * rb).toNat : Nat) : Int) ∧ IsI ra' a1 a2 ∧ IsI da' b1 b2 ∧ IsI rb' c1' c2' ∧ IsI db' d1' d2' ∧ rrbSt (t, q) (bs, br) (c1, c2) (d1, d2) (false, i2) (j1, j2) = rrbSt (t, q) (bs, br) (a1, a2) (b1, b2) (c1', c2') (d1', d2') :=
        ⟨_, _, _, _, _, _, _, _, _, _, _, _, _, hI', hle', by omega, hb, hdb, hi, hj, rfl⟩
      have hdec : (ra - ra / rb * rb).toNat < k := by omega
      generalize (ra - ra / rb * rb).toNat = k' at *
      clear hround hgo hend A1 A2 hcmp hI hI' hle hle' hC hk hi hj
      subst hs1
      cbv
      refine ⟨_, hS.call (cc), ?_⟩
      cbv
      refine bT (hC2) ?_
      refine ⟨_, hS.call (cdm), ?_⟩
      cbv
      refine ⟨_, hS.call (cm), ?_⟩
      cbv
      refine ⟨_, hS.call (cs), ?_⟩
      cbv
      exact again (s' := rrbSt (t, q) (bs, br) (c1, c2) (d1, d2) (false, i2) (j1, j2)) (m := k') (by simp [leT, rrbSt, mkSt, vb]) (by simp [leH, rrbSt, mkSt]) rfl (by show 2 ≤ 21; omega) hdec hnx
end Go.Proofs.Ytgncmjcoojmccaa
end

section
set_option linter.unusedVariables false
set_option linter.unusedSimpArgs false
/-
  Primes pass the test of Miller and Rabin.
-/
set_option linter.unusedVariables false
namespace Go.Abs.M

/-- The test for n - 1 = o * 2^t and the witness w. -/
def SPr (n w o t : Nat) : Prop := w ^ o % n = 1 ∨ ∃ i, i < t ∧ w ^ (o * 2 ^ i) % n = n - 1

theorem SPr.mono {n w o t : Nat} (h : SPr n w o t) : SPr n w o (t + 1) := by
  rcases h with h | ⟨i, h1, h2⟩
  · exact .inl h
  · exact .inr ⟨i, by omega, h2⟩

theorem root_one {p x : Nat} (hp : Prime p) (h : x * x % p = 1) : x % p = 1 ∨ x % p = p - 1 := by
  have h2 := hp.1
  have hx : x ≠ 0 := by rintro rfl; simp at h
  have hd : p ∣ (x - 1) * (x + 1) := by
    have e : (x - 1) * (x + 1) = x * x - 1 := by
      obtain ⟨y, rfl⟩ : ∃ y, x = y + 1 := ⟨x - 1, by omega⟩
      simp only [Nat.add_sub_cancel]
      have : (y + 1) * (y + 1) = y * (y + 1 + 1) + 1 := by grind
      omega
    rw [e]
    have := Nat.div_add_mod (x * x) p
    exact ⟨x * x / p, by omega⟩
  rcases hp.dvd_mul hd with ⟨c, hc⟩ | ⟨c, hc⟩
  · left
    have : x = 1 + p * c := by omega
    rw [this, Nat.add_mul_mod_self_left, Nat.mod_eq_of_lt h2]
  · right
    have hc0 : c ≠ 0 := by rintro rfl; omega
    obtain ⟨d, rfl⟩ : ∃ d, c = d + 1 := ⟨c - 1, by omega⟩
    have : x = (p - 1) + p * d := by rw [Nat.mul_succ] at hc; omega
    rw [this, Nat.add_mul_mod_self_left, Nat.mod_eq_of_lt (by omega)]

theorem spr_down {p w o : Nat} (hp : Prime p) : ∀ t, w ^ (o * 2 ^ t) % p = 1 → SPr p w o t
  | 0, h => .inl (by simpa using h)
  | t + 1, h => by
    have e : w ^ (o * 2 ^ (t + 1)) = w ^ (o * 2 ^ t) * w ^ (o * 2 ^ t) := by rw [← Nat.pow_add, Nat.pow_succ, ← Nat.mul_assoc]; congr 1; omega
    rw [e] at h
    rcases root_one hp h with h | h
    · exact (spr_down hp t h).mono
    · exact .inr ⟨t, by omega, h⟩

theorem spr_prime {p w o t : Nat} (hp : Prime p) (hw : w % p ≠ 0) (h : p - 1 = o * 2 ^ t) : SPr p w o t :=
  spr_down hp t (by rw [← h]; exact hp.fermat hw)

theorem odd_unique : ∀ {t t' o o' : Nat}, o % 2 = 1 → o' % 2 = 1 → o * 2 ^ t = o' * 2 ^ t' → o = o' ∧ t = t'
  | 0, 0, o, o', h1, h2, h => by simpa using h
  | 0, t' + 1, o, o', h1, h2, h => by rw [Nat.pow_zero, Nat.mul_one, Nat.pow_succ, ← Nat.mul_assoc] at h; omega
  | t + 1, 0, o, o', h1, h2, h => by rw [Nat.pow_zero, Nat.mul_one, Nat.pow_succ, ← Nat.mul_assoc] at h; omega
  | t + 1, t' + 1, o, o', h1, h2, h => by
    rw [Nat.pow_succ, Nat.pow_succ, ← Nat.mul_assoc, ← Nat.mul_assoc] at h
    have := odd_unique h1 h2 (show o * 2 ^ t = o' * 2 ^ t' by omega)
    omega

/-- The test of Miller and Rabin. -/
def MR (n w : Nat) : Prop := ∀ o t, n - 1 = o * 2 ^ t → o % 2 = 1 → SPr n w o t

theorem MR.iff {n w o t : Nat} (h : n - 1 = o * 2 ^ t) (ho : o % 2 = 1) : MR n w ↔ SPr n w o t := by
  refine ⟨fun hm => hm o t h ho, fun hs o' t' h' ho' => ?_⟩
  obtain ⟨rfl, rfl⟩ := odd_unique ho ho' (h.symm.trans h')
  exact hs

/-- What the program asks for a list of witnesses. -/
def Pch (n : Nat) : List Nat → Prop
  | [] => True
  | w :: ws => if n % w = 0 then n = w else MR n w ∧ Pch n ws

theorem pch_prime {p : Nat} (hp : Prime p) : ∀ ws : List Nat, (∀ w ∈ ws, Prime w) → Pch p ws
  | [], _ => trivial
  | w :: ws, h => by
    unfold Pch
    have hw := h w (.head _)
    split
    · rename_i h0
      rcases hp.2 w (Nat.dvd_of_mod_eq_zero h0) with h | h
      · have := hw.1; omega
      · exact h.symm
    · rename_i h0
      by_cases hwp : w % p = 0
      · exfalso
        rcases hw.2 p (Nat.dvd_of_mod_eq_zero hwp) with h | h
        · have := hp.1; omega
        · rw [h, Nat.mod_self] at h0; exact h0 rfl
      · exact ⟨fun o t h1 h2 => spr_prime hp hwp h1, pch_prime hp ws fun x hx => h x (.tail _ hx)⟩
end Go.Abs.M
end

section
set_option linter.unusedVariables false
set_option linter.unusedSimpArgs false
set_option maxHeartbeats 8000000
set_option linter.unusedVariables false
set_option linter.unusedSimpArgs false
set_option maxRecDepth 100000
namespace Go.Proofs.Ytgncmjcoojmccaa
open Go Go.Abs Go.Abs.M Go.Proofs

def pps1St (n w o t : Int) : St := mkSt 43 [vi .u64 n, vi .u64 w, .junk, .junk, vb false, vi .u64 o, vi .i64 t] [none, none]
def pps2St (n w x c i : Int) : St := mkSt 43 [vi .u64 n, vi .u64 w, .junk, .junk, vb false, .junk, .junk, vi .u64 x, .junk, .junk, .junk, .junk, .junk, .junk, .junk, .junk, .junk, .junk, .junk, .junk, .junk, .junk, .junk, .junk, .junk, .junk, .junk, .junk, .junk, .junk, vi .i64 c, vi .i64 i] [none, none, none, none]

theorem two_pow_lt {t : Nat} (h : 2 ^ t < 2147483648) : t < 31 := by
  rcases Nat.lt_or_ge t 31 with h1 | h1
  · exact h1
  · have := Nat.pow_le_pow_right (show 0 < 2 by omega) h1; omega

theorem half_step {N o t : Nat} (h : N = o * 2 ^ t) (he : o % 2 = 0) : N = (o / 2) * 2 ^ (t + 1) := by
  rw [h, Nat.pow_succ, Nat.mul_comm (2 ^ t), ← Nat.mul_assoc, Nat.div_mul_cancel (Nat.dvd_of_mod_eq_zero he)]

theorem mr_none {n w o t : Nat} (h1 : w ^ o % n ≠ 1) (h2 : ∀ j, j < t → w ^ (o * 2 ^ j) % n ≠ n - 1) : ¬ SPr n w o t := by
  rintro (h | ⟨i, h, h'⟩)
  · exact h1 h
  · exact h2 i h h'

theorem sq_pow (n w o j x : Nat) (h : x = w ^ (o * 2 ^ j) % n) : x * x % n = w ^ (o * 2 ^ (j + 1)) % n := by
  rw [h, ← Nat.mul_mod, ← Nat.pow_add]; congr 2; rw [Nat.pow_succ, ← Nat.mul_assoc]; omega

theorem ppasses_call (n w : Nat) (b : Bool) (hn : 3 ≤ n) (hn2 : n < 2147483648) (hodd : n % 2 = 1) (hw : w < 2147483648) (hb : b = true ↔ MR n w) :
    ACall Try.prog 38 [.val (ti .u64 (n : Int)), .val (ti .u64 (w : Int))] ⟨[.val (tb b)], [none, none]⟩ := by
  have hcp : ∀ (o : Nat) (O : Int), O = o → o < 2147483648 → ∃ X : Int, X = ((w ^ o % n : Nat) : Int) ∧ ACall Try.prog 20 [.val (ti .u64 (w : Int)), .val (ti .u64 O), .val (ti .u64 (n : Int))] ⟨[.val (ti .u64 X)], [none, none, none]⟩ := fun o O hO ho => by
    subst hO
    have c := pow_call (w : Int) (o : Int) (n : Int) (by omega) (by omega) (by omega) (by omega) (by omega)
    refine ⟨_, ?_, c⟩
    rw [Int.toNat_natCast, Int.natCast_emod, Int.natCast_pow]
  obtain ⟨N, hN⟩ : ∃ N : Int, N = n := ⟨_, rfl⟩
  obtain ⟨W', hW⟩ : ∃ N : Int, N = w := ⟨_, rfl⟩
  rw [← hN, ← hW]
  rw [← hN, ← hW] at hcp
  refine callZ ccOk mixed [.val] Try.func38 rfl rfl (by kernel_rfl) fun zwrap zadd zsub zmul zquo zrem zshl zshr zband zbor zbxor zbandn zeq zne zlt zle znot zbeq zbne zmax zmin znat zinb zofN zidx zneq znadd zdif zcut zroom zmkok zlen znth zsetr zisI zgetI zsetI zfit zpart zext zsetg zrep zwide zall zmok zmget zmset zW zth A L F hS hF => ?_
  have A0 : ∃ M : Int, M = ((n - 1 : Nat) : Int) ∧ zwrap .u64 (zsub N 1) = M := by
    refine ⟨_, rfl, ?_⟩
    rw [hS.sub, hS.wrap, hN, wrap_u64 (by omega) (by omega)]; omega
  have A1 : ∀ (o : Nat) (O : Int), O = o → zeq (zrem O 2) 0 = decide (o % 2 = 0) := fun o O hO => by
    rw [hS.eq, hS.rem, Int.tmod_eq_emod_of_nonneg (by omega)]
    by_cases h : o % 2 = 0
    · rw [decide_eq_true h]; exact decide_eq_true (by omega)
    · rw [decide_eq_false h]; exact decide_eq_false (by omega)
  have A2 : ∀ (o : Nat) (O : Int), O = o → o < 2147483648 → ∃ O' : Int, O' = ((o / 2 : Nat) : Int) ∧ zwrap .u64 (zquo O 2) = O' := fun o O hO h => by
    refine ⟨_, rfl, ?_⟩
    rw [hS.quo, hS.wrap, Int.tdiv_eq_ediv_of_nonneg (by omega), wrap_u64 (by omega) (by omega)]; omega
  have A3 : ∀ (t : Nat) (T : Int), T = t → t < 100 → ∃ T' : Int, T' = ((t + 1 : Nat) : Int) ∧ zwrap .i64 (zadd T 1) = T' := fun t T hT h => by
    refine ⟨_, rfl, ?_⟩
    rw [hS.add, hS.wrap, wrap_i64 (by omega) (by omega)]; omega
  have A4 : zne N 0 = true := by rw [hS.ne]; exact decide_eq_true (by omega)
  have A5 : ∀ (x y : Nat) (X Y : Int), X = x → Y = y → zeq X Y = decide (x = y) := fun x y X Y hX hY => by
    rw [hS.eq]
    by_cases h : x = y
    · rw [decide_eq_true h]; exact decide_eq_true (by omega)
    · rw [decide_eq_false h]; exact decide_eq_false (by omega)
  have A6 : ∀ (x : Nat) (X : Int), X = x → x < n → ∃ X' : Int, X' = ((x * x % n : Nat) : Int) ∧ zrem (zwrap .u64 (zmul X X)) N = X' := fun x X hX h => by
    obtain ⟨k1, k2⟩ := mul_lt (a := (x : Int)) (b := (x : Int)) (p := n) (by omega) (by omega) (by omega) (by omega) (by omega)
    refine ⟨_, rfl, ?_⟩
    rw [hS.mul, hS.wrap, hS.rem, hN, hX, wrap_u64 k1 k2, Int.tmod_eq_emod_of_nonneg k1, Int.natCast_emod, Int.natCast_mul]
  have A7 : ∀ (t : Nat) (T : Int), T = t → 1 ≤ t → t < 100 → ∃ T' : Int, T' = ((t - 1 : Nat) : Int) ∧ zwrap .i64 (zsub T 1) = T' := fun t T hT h h2 => by
    refine ⟨_, rfl, ?_⟩
    rw [hS.sub, hS.wrap, wrap_i64 (by omega) (by omega)]; omega
  obtain ⟨M, hM, A0⟩ := A0
  cbv
  rw [A0]
  refine loopZ ccOk mixed hS (fun (o : Nat) s' => ∃ (t : Nat) (O T : Int), O = o ∧ T = t ∧ n - 1 = o * 2 ^ t ∧ 0 < o ∧ s' = pps1St N W' O T) (n := n - 1) (s0 := pps1St N W' M 0) (le_of ?_ ?_) rfl (Nat.le_refl 2) ?_ ?_
  · simp [leT, pps1St, mkSt, vi, vb]
  · simp [leH, pps1St, mkSt]
  · exact ⟨0, M, 0, hM, rfl, by omega, by omega, rfl⟩
  · rintro o s1 ⟨t, O, T, hO, hT, ht, ho, hs1⟩
    have hp2 : 0 < 2 ^ t := Nat.two_pow_pos t
    have ho2 : o ≤ n - 1 := by rw [ht]; exact Nat.le_mul_of_pos_right o hp2
    have ht2 : t < 31 := two_pow_lt (by
      have : 2 ^ t ≤ n - 1 := by rw [ht]; exact Nat.le_mul_of_pos_left _ ho
      omega)
    have a1 := A1 o O hO
    by_cases hev : o % 2 = 0
    · rw [decide_eq_true hev] at a1
      obtain ⟨O', hO', a2⟩ := A2 o O hO (by omega)
      obtain ⟨T', hT', a3⟩ := A3 t T hT (by omega)
      have hnx : ∃ (t1 : Nat) (O1 T1 : Int), O1 = ((o / 2 : Nat) : Int) ∧ T1 = t1 ∧ n - 1 = (o / 2) * 2 ^ t1 ∧ 0 < o / 2 ∧ pps1St N W' O' T' = pps1St N W' O1 T1 := ⟨t + 1, O', T', hO', hT', half_step ht hev, by omega, rfl⟩
      have hlt : o / 2 < o := by omega
      subst hs1
      cbv
      refine bT a1 ?_
      exact again (s' := pps1St N W' O' T') (m := o / 2) (by simp [leT, pps1St, mkSt, vi, vb, a2, a3]) (by simp [leH, pps1St, mkSt]) rfl (Nat.le_refl 2) hlt hnx
    · rw [decide_eq_false hev] at a1
      have hmr := MR.iff (w := w) ht (by omega)
      obtain ⟨X, hX, cp⟩ := hcp o O hO (by omega)
      have ht1 : 1 ≤ t := by
        rcases Nat.eq_zero_or_pos t with h | h
        · subst h; rw [Nat.pow_zero, Nat.mul_one] at ht; omega
        · exact h
      obtain ⟨C, hC, c1⟩ := A7 t T hT ht1 (by omega)
      have hC : C = ((t - 1 : Nat) : Int) := hC
      have e1 := A5 (w ^ o % n) 1 X 1 hX rfl
      have e2 : ∀ (y : Nat) (Y : Int), Y = y → zeq Y (zwrap .u64 (zsub N 1)) = decide (y = n - 1) := fun y Y hY => by rw [A0]; exact A5 y (n - 1) Y M hY hM
      have e3 := e2 (w ^ o % n) X hX
      have hlt : ∀ (i : Nat) (I : Int), I = i → zlt I C = decide (i < t - 1) := fun i I hI => by
        rw [hS.lt]
        by_cases h : i < t - 1
        · rw [decide_eq_true h]; exact decide_eq_true (by omega)
        · rw [decide_eq_false h]; exact decide_eq_false (by omega)
      have hbt : SPr n w o t → true = b := fun h => (hb.2 (hmr.2 h)).symm
      have hbf : ¬ SPr n w o t → false = b := fun h => by
        cases b with
        | false => rfl
        | true => exact absurd (hmr.1 (hb.1 rfl)) h
      have hpos : ∀ x, x % n < n := fun x => Nat.mod_lt _ (by omega)
      clear hcp A1 A2 A7 A5 hmr hb hp2 ho2 A0 hM
      subst hs1
      cbv
      refine bF a1 ?_
      refine ⟨_, hS.call (cp), ?_⟩
      cbv
      refine ⟨fun h => fin1 hF (tv_bool (hbt ?_)), fun h => ⟨fun h' => fin1 hF (tv_bool (hbt ?_)), fun h' => ?_⟩⟩
      all_goals rw [e1] at h
      · exact .inl (of_decide_eq_true h)
      all_goals rw [e3] at h'
      · exact .inr ⟨0, by omega, by rw [Nat.pow_zero, Nat.mul_one]; exact of_decide_eq_true h'⟩
      · have h := of_decide_eq_false h
        have h' := of_decide_eq_false h'
        refine loopZ ccOk mixed hS (fun (k : Nat) s' => ∃ (i : Nat) (I Y : Int), I = i ∧ Y = ((w ^ (o * 2 ^ i) % n : Nat) : Int) ∧ i + k = t - 1 ∧ (∀ j, j ≤ i → w ^ (o * 2 ^ j) % n ≠ n - 1) ∧ s' = pps2St N W' Y C I) (n := t - 1) (s0 := pps2St N W' X C 0) (le_of ?_ ?_) rfl (by show 2 ≤ 4; omega) ?_ ?_
        · simp [leT, pps2St, mkSt, vi, vb, c1]
        · simp [leH, pps2St, mkSt]
        · refine ⟨0, 0, X, rfl, by rw [Nat.pow_zero, Nat.mul_one]; exact hX, by omega, fun j hj => ?_, rfl⟩
          obtain rfl : j = 0 := by omega
          rw [Nat.pow_zero, Nat.mul_one]; exact h'
        · rintro k s1 ⟨i, I, Y, hI, hY, hik, hno, hs1⟩
          have l1 := hlt i I hI
          obtain ⟨Y', hY', y1⟩ := A6 _ Y hY (hpos _)
          have y2 := e2 _ Y' hY'
          rw [sq_pow n w o i _ rfl] at hY' y2
          by_cases hk : i < t - 1
          · rw [decide_eq_true hk] at l1
            obtain ⟨I', hI', i1⟩ := A3 i I hI (by omega)
            have hkk : k - 1 < k := by omega
            have hik' : i + 1 + (k - 1) = t - 1 := by omega
            have hit : i + 1 < t := by omega
            clear hlt A3 A6 e2 hI hY hpos hik hk e1 e3
            subst hs1
            cbv
            refine bT l1 (nd A4 ?_)
            rw [y1]
            refine ⟨fun h2 => fin1 hF (tv_bool (hbt ?_)), fun h2 => ?_⟩
            all_goals rw [y2] at h2
            · exact .inr ⟨i + 1, hit, of_decide_eq_true h2⟩
            · have h2 := of_decide_eq_false h2
              refine again (s' := pps2St N W' Y' C I') (m := k - 1) (by simp [leT, pps2St, mkSt, vi, vb, i1]) (by simp [leH, pps2St, mkSt]) rfl (by show 2 ≤ 4; omega) hkk ⟨i + 1, I', Y', hI', hY', hik', fun j hj => ?_, rfl⟩
              by_cases hj2 : j = i + 1
              · rw [hj2]; exact h2
              · exact hno j (by omega)
          · rw [decide_eq_false hk] at l1
            have hfin := hbf (mr_none h fun j hj => hno j (by omega))
            subst hs1
            cbv
            refine bF l1 (fin1 hF (tv_bool hfin))

/-- What the program takes for a prime. -/
def PF (n : Int) : Prop := 2 ≤ n ∧ n ≤ 2147483647 ∧ Pch n.toNat [2, 3, 5, 7]

theorem Prm.pf {n : Int} (h : Prm n) : PF n := by
  refine ⟨h.1, h.2.1, pch_prime h.prime _ fun w hw => ?_⟩
  have hp : ∀ w : Nat, 2 ≤ w → w ≤ 7 → (∀ d, d < 8 → 2 ≤ d → d < w → w % d ≠ 0) → M.Prime w := fun w h1 h2 h3 => ⟨h1, fun d hd => by
    have := Nat.le_of_dvd (by omega) hd
    by_cases h4 : d = w
    · exact .inr h4
    · by_cases h5 : d = 1
      · exact .inl h5
      · have : d ≠ 0 := by rintro rfl; have := Nat.eq_zero_of_zero_dvd hd; omega
        exact absurd (Nat.mod_eq_zero_of_dvd hd) (h3 d (by omega) (by omega) (by omega))⟩
  simp only [List.mem_cons, List.not_mem_nil, or_false] at hw
  rcases hw with rfl | rfl | rfl | rfl
  all_goals exact hp _ (by omega) (by omega) (by decide)

theorem pch_step {n w : Nat} {ws : List Nat} {b : Bool} (h : b = true ↔ Pch n (w :: ws)) : (n % w = 0 → decide (n = w) = b) ∧ (n % w ≠ 0 → ∃ b1 : Bool, (b1 = true ↔ MR n w) ∧ (b1 = false → false = b) ∧ (b1 = true → (b = true ↔ Pch n ws))) := by
  unfold Pch at h
  refine ⟨fun h0 => ?_, fun h0 => ?_⟩
  · rw [if_pos h0] at h
    by_cases hw : n = w
    · rw [decide_eq_true hw]; exact (h.2 hw).symm
    · rw [decide_eq_false hw]
      cases b with
      | false => rfl
      | true => exact absurd (h.1 rfl) hw
  · rw [if_neg h0] at h
    obtain ⟨b1, h1⟩ : ∃ b1 : Bool, b1 = true ↔ MR n w := by
      rcases Classical.em (MR n w) with h' | h'
      · exact ⟨true, fun _ => h', fun _ => rfl⟩
      · exact ⟨false, fun h => (by cases h), fun h => absurd h h'⟩
    refine ⟨b1, h1, fun hb => ?_, fun hb => ?_⟩
    · cases b with
      | false => rfl
      | true => rw [hb] at h1; exact absurd (h1.2 (h.1 rfl).1) (by decide)
    · exact ⟨fun hx => (h.1 hx).2, fun hx => h.2 ⟨h1.1 hb, hx⟩⟩

def pprSt (n i : Int) : St := mkSt 27 [vi .u64 n, .junk, vb false, .junk, .junk, .junk, .junk, .junk, .junk, .junk, .junk, .agg [.t (.v (.int .u64 2)), .t (.v (.int .u64 3)), .t (.v (.int .u64 5)), .t (.v (.int .u64 7))], vi .i64 i] [none]


theorem pprime_call (n : Int) (b : Bool) (h0 : 0 ≤ n) (h1 : n < 2 ^ 64) (hb : b = true ↔ PF n) : ACall Try.prog 13 [.val (ti .u64 n)] ⟨[.val (tb b)], [none]⟩ := by
  have hfalse : ¬ PF n → false = b := fun h => by
    cases b with
    | false => rfl
    | true => exact absurd (hb.1 rfl) h
  have cpass : ∀ (w : Nat) (b1 : Bool), w < 100 → n % 2 = 1 → 3 ≤ n → (b1 = true ↔ MR n.toNat w) → ∀ (hn : n < 2147483648), ACall Try.prog 38 [.val (ti .u64 n), .val (ti .u64 (w : Int))] ⟨[.val (tb b1)], [none, none]⟩ := fun w b1 hw ho h3 hm hn => by
    have c := ppasses_call n.toNat w b1 (by omega) (by omega) (by omega) (by omega) hm
    rw [Int.toNat_of_nonneg h0] at c
    exact c
  refine callZ ccOk mixed [.val] Try.func13 rfl rfl (by kernel_rfl) fun zwrap zadd zsub zmul zquo zrem zshl zshr zband zbor zbxor zbandn zeq zne zlt zle znot zbeq zbne zmax zmin znat zinb zofN zidx zneq znadd zdif zcut zroom zmkok zlen znth zsetr zisI zgetI zsetI zfit zpart zext zsetg zrep zwide zall zmok zmget zmset zW zth A L F hS hF => ?_
  have A1 : ∀ w : Nat, 0 < w → zeq (zrem n (w : Int)) 0 = decide (n.toNat % w = 0) := fun w hw => by
    rw [hS.eq, hS.rem, Int.tmod_eq_emod_of_nonneg h0]
    have : n % w = ((n.toNat % w : Nat) : Int) := by rw [Int.natCast_emod, Int.toNat_of_nonneg h0]
    rw [this]
    by_cases h : n.toNat % w = 0
    · rw [decide_eq_true h]; exact decide_eq_true (by omega)
    · rw [decide_eq_false h]; exact decide_eq_false (by omega)
  have A3 : ∀ w : Nat, zeq n (w : Int) = decide (n.toNat = w) := fun w => by
    rw [hS.eq]
    by_cases h : n.toNat = w
    · rw [decide_eq_true h]; exact decide_eq_true (by omega)
    · rw [decide_eq_false h]; exact decide_eq_false (by omega)
  have g1 : zlt n 2 = decide (n < 2) := hS.lt ..
  have g2 : zlt 2147483647 n = decide (2147483647 < n) := hS.lt ..
  cbv
  refine ⟨fun h => fin1 hF (tv_bool (hfalse ?_)), fun h => ⟨fun h' => fin1 hF (tv_bool (hfalse ?_)), fun h' => ?_⟩⟩
  all_goals rw [g1] at h
  · exact fun hp => absurd hp.1 (by have := of_decide_eq_true h; omega)
  all_goals rw [g2] at h'
  · exact fun hp => absurd hp.2.1 (by have := of_decide_eq_true h'; omega)
  have h := of_decide_eq_false h
  have h' := of_decide_eq_false h'
  have hch0 : b = true ↔ Pch n.toNat [2, 3, 5, 7] := ⟨fun hx => (hb.1 hx).2.2, fun hx => hb.2 ⟨by omega, by omega, hx⟩⟩
  have cpass := fun w b1 hw ho h3 hm => cpass w b1 hw ho h3 hm (by omega)
  clear hb hfalse g1 g2
  refine loopZ ccOk mixed hS (fun (k : Nat) s' => ∃ (i : Nat) (I : Int), i + k = 4 ∧ (1 ≤ i → n % 2 = 1) ∧ (b = true ↔ Pch n.toNat (([2, 3, 5, 7] : List Nat).drop i)) ∧ (i = 0 ∧ I = 0 ∨ i = 1 ∧ I = 1 ∨ i = 2 ∧ I = 2 ∨ i = 3 ∧ I = 3 ∨ i = 4 ∧ I = 4) ∧ s' = pprSt n I) (n := 4) (s0 := pprSt n 0) (le_of ?_ ?_) rfl (Nat.le_refl 1) ?_ ?_
  · simp [leT, pprSt, mkSt, vi, vb]
  · simp [leH, pprSt, mkSt]
  · exact ⟨0, 0, rfl, fun h => by omega, hch0, by simp, rfl⟩
  · rintro k s1 ⟨i, I, hik, hod, hch, hI, hs1⟩
    clear hch0
    rcases hI with ⟨rfl, rfl⟩ | ⟨rfl, rfl⟩ | ⟨rfl, rfl⟩ | ⟨rfl, rfl⟩ | ⟨rfl, rfl⟩
    · have hch : b = true ↔ Pch n.toNat [2, 3, 5, 7] := hch
      have l1 : zlt 0 4 = true := by rw [hS.lt]; rfl
      have e1 := A1 2 (by omega)
      obtain ⟨s1', s2'⟩ := pch_step hch
      have s2h : n.toNat % 2 ≠ 0 → n % 2 = 1 ∧ 3 ≤ n := fun h => by omega
      have e3 := A3 2
      have e4 : zwrap .i64 (zadd 0 1) = 1 := by rw [hS.wrap, hS.add]; rfl
      have e5 : zne 2 0 = true := by rw [hS.ne]; rfl
      by_cases h0 : n.toNat % 2 = 0
      · rw [decide_eq_true h0] at e1
        have r1 := s1' h0
        subst hs1
        cbv
        refine bT l1 (nd e5 (bT e1 (fin1 hF (tv_bool (e3.trans r1)))))
      · rw [decide_eq_false h0] at e1
        obtain ⟨b1, m1, m2, m3⟩ := s2' h0
        obtain ⟨o1, o2⟩ := s2h h0
        have cp := cpass 2 b1 (by omega) o1 o2 m1
        have hkk : k - 1 < k := by omega
        have hik' : 1 + (k - 1) = 4 := by omega
        have hn1 : znot b1 = !b1 := hS.not b1
        clear s1' s2' s2h m1 A1 A3
        subst hs1
        cbv
        refine bT l1 (nd e5 (bF e1 ⟨_, hS.call cp, ?_⟩))
        cbv
        cases b1 with
        | false => exact bT hn1 (fin1 hF (tv_bool (m2 rfl)))
        | true => exact bF hn1 (again (s' := pprSt n 1) (m := k - 1) (by simp [leT, pprSt, mkSt, vi, vb, e4]) (by simp [leH, pprSt, mkSt]) rfl (Nat.le_refl 1) hkk ⟨1, 1, hik', fun _ => o1, m3 rfl, by simp, rfl⟩)
    · have hch : b = true ↔ Pch n.toNat [3, 5, 7] := hch
      have hod := hod (by omega)
      have l1 : zlt 1 4 = true := by rw [hS.lt]; rfl
      have e1 := A1 3 (by omega)
      obtain ⟨s1', s2'⟩ := pch_step hch
      have s2h : n.toNat % 3 ≠ 0 → n % 2 = 1 ∧ 3 ≤ n := fun h => by omega
      have e3 := A3 3
      have e4 : zwrap .i64 (zadd 1 1) = 2 := by rw [hS.wrap, hS.add]; rfl
      have e5 : zne 3 0 = true := by rw [hS.ne]; rfl
      by_cases h0 : n.toNat % 3 = 0
      · rw [decide_eq_true h0] at e1
        have r1 := s1' h0
        subst hs1
        cbv
        refine bT l1 (nd e5 (bT e1 (fin1 hF (tv_bool (e3.trans r1)))))
      · rw [decide_eq_false h0] at e1
        obtain ⟨b1, m1, m2, m3⟩ := s2' h0
        obtain ⟨o1, o2⟩ := s2h h0
        have cp := cpass 3 b1 (by omega) o1 o2 m1
        have hkk : k - 1 < k := by omega
        have hik' : 2 + (k - 1) = 4 := by omega
        have hn1 : znot b1 = !b1 := hS.not b1
        clear s1' s2' s2h m1 A1 A3
        subst hs1
        cbv
        refine bT l1 (nd e5 (bF e1 ⟨_, hS.call cp, ?_⟩))
        cbv
        cases b1 with
        | false => exact bT hn1 (fin1 hF (tv_bool (m2 rfl)))
        | true => exact bF hn1 (again (s' := pprSt n 2) (m := k - 1) (by simp [leT, pprSt, mkSt, vi, vb, e4]) (by simp [leH, pprSt, mkSt]) rfl (Nat.le_refl 1) hkk ⟨2, 2, hik', fun _ => o1, m3 rfl, by simp, rfl⟩)
    · have hch : b = true ↔ Pch n.toNat [5, 7] := hch
      have hod := hod (by omega)
      have l1 : zlt 2 4 = true := by rw [hS.lt]; rfl
      have e1 := A1 5 (by omega)
      obtain ⟨s1', s2'⟩ := pch_step hch
      have s2h : n.toNat % 5 ≠ 0 → n % 2 = 1 ∧ 3 ≤ n := fun h => by omega
      have e3 := A3 5
      have e4 : zwrap .i64 (zadd 2 1) = 3 := by rw [hS.wrap, hS.add]; rfl
      have e5 : zne 5 0 = true := by rw [hS.ne]; rfl
      by_cases h0 : n.toNat % 5 = 0
      · rw [decide_eq_true h0] at e1
        have r1 := s1' h0
        subst hs1
        cbv
        refine bT l1 (nd e5 (bT e1 (fin1 hF (tv_bool (e3.trans r1)))))
      · rw [decide_eq_false h0] at e1
        obtain ⟨b1, m1, m2, m3⟩ := s2' h0
        obtain ⟨o1, o2⟩ := s2h h0
        have cp := cpass 5 b1 (by omega) o1 o2 m1
        have hkk : k - 1 < k := by omega
        have hik' : 3 + (k - 1) = 4 := by omega
        have hn1 : znot b1 = !b1 := hS.not b1
        clear s1' s2' s2h m1 A1 A3
        subst hs1
        cbv
        refine bT l1 (nd e5 (bF e1 ⟨_, hS.call cp, ?_⟩))
        cbv
        cases b1 with
        | false => exact bT hn1 (fin1 hF (tv_bool (m2 rfl)))
        | true => exact bF hn1 (again (s' := pprSt n 3) (m := k - 1) (by simp [leT, pprSt, mkSt, vi, vb, e4]) (by simp [leH, pprSt, mkSt]) rfl (Nat.le_refl 1) hkk ⟨3, 3, hik', fun _ => o1, m3 rfl, by simp, rfl⟩)
    · have hch : b = true ↔ Pch n.toNat [7] := hch
      have hod := hod (by omega)
      have l1 : zlt 3 4 = true := by rw [hS.lt]; rfl
      have e1 := A1 7 (by omega)
      obtain ⟨s1', s2'⟩ := pch_step hch
      have s2h : n.toNat % 7 ≠ 0 → n % 2 = 1 ∧ 3 ≤ n := fun h => by omega
      have e3 := A3 7
      have e4 : zwrap .i64 (zadd 3 1) = 4 := by rw [hS.wrap, hS.add]; rfl
      have e5 : zne 7 0 = true := by rw [hS.ne]; rfl
      by_cases h0 : n.toNat % 7 = 0
      · rw [decide_eq_true h0] at e1
        have r1 := s1' h0
        subst hs1
        cbv
        refine bT l1 (nd e5 (bT e1 (fin1 hF (tv_bool (e3.trans r1)))))
      · rw [decide_eq_false h0] at e1
        obtain ⟨b1, m1, m2, m3⟩ := s2' h0
        obtain ⟨o1, o2⟩ := s2h h0
        have cp := cpass 7 b1 (by omega) o1 o2 m1
        have hkk : k - 1 < k := by omega
        have hik' : 4 + (k - 1) = 4 := by omega
        have hn1 : znot b1 = !b1 := hS.not b1
        clear s1' s2' s2h m1 A1 A3
        subst hs1
        cbv
        refine bT l1 (nd e5 (bF e1 ⟨_, hS.call cp, ?_⟩))
        cbv
        cases b1 with
        | false => exact bT hn1 (fin1 hF (tv_bool (m2 rfl)))
        | true => exact bF hn1 (again (s' := pprSt n 4) (m := k - 1) (by simp [leT, pprSt, mkSt, vi, vb, e4]) (by simp [leH, pprSt, mkSt]) rfl (Nat.le_refl 1) hkk ⟨4, 4, hik', fun _ => o1, m3 rfl, by simp, rfl⟩)
    · have hch : b = true ↔ Pch n.toNat [] := hch
      have l1 : zlt 4 4 = false := by rw [hS.lt]; rfl
      have hbt : true = b := (hch.2 trivial).symm
      subst hs1
      cbv
      exact bF l1 (fin1 hF (tv_bool hbt))
end Go.Proofs.Ytgncmjcoojmccaa
end

section
set_option linter.unusedVariables false
set_option linter.unusedSimpArgs false
/-
  Sets of numbers as maps to true.
-/
set_option linter.unusedVariables false
namespace Go.Abs

def sE (k : IntKind) (l : List Int) : List (Value × Tree) := l.map fun q => (.int k q, .v (.bool true))

theorem sE_find (k : IntKind) (q : Int) : ∀ l : List Int, findEnt (.int k q) (sE k l) = if q ∈ l then some (some (.v (.bool true))) else some none
  | [] => rfl
  | x :: l => by
    have ih := sE_find k q l
    simp only [sE, List.map_cons, findEnt, sameKey] at ih ⊢
    by_cases h : q = x
    · subst h; simp
    · rw [show (q == x) = false from beq_eq_false_iff_ne.2 h]; simp [h, ih]

theorem sE_set (k : IntKind) (q : Int) : ∀ l : List Int, q ∉ l → setEnt (.int k q) (.v (.bool true)) (sE k l) = some (sE k (l ++ [q]))
  | [], _ => rfl
  | x :: l, h => by
    have h1 : q ≠ x := fun e => h (e ▸ .head _)
    have ih := sE_set k q l fun e => h (.tail _ e)
    show (match (if k = k then some (q == x) else none) with
      | some true => some ((Value.int k q, Tree.v (.bool true)) :: sE k l)
      | some false => (setEnt (.int k q) (.v (.bool true)) (sE k l)).map ((Value.int k x, Tree.v (.bool true)) :: ·)
      | none => none) = _
    rw [if_pos rfl, show (q == x) = false from beq_eq_false_iff_ne.2 h1, ih]; rfl

theorem sE_mok (k : IntKind) (q : Int) (l : List Int) : ZI.std.mok (sE k l) (.int k q) = true := by
  simp only [ZI.std, sE_find]
  by_cases h : q ∈ l
  · simp only [if_pos h]
  · simp only [if_neg h]

theorem sE_mget (k : IntKind) (q : Int) (l : List Int) : ZI.std.mget (sE k l) (.int k q) = decide (q ∈ l) := by
  simp only [ZI.std, sE_find]
  by_cases h : q ∈ l
  · simp only [if_pos h, decide_eq_true h]
  · simp only [if_neg h, decide_eq_false h]

theorem sE_mset (k : IntKind) (q : Int) (l : List Int) (h : q ∉ l) : (setEnt (.int k q) (.v (.bool true)) (sE k l)).getD (sE k l) = sE k (l ++ [q]) := by
  rw [sE_set k q l h]; rfl
end Go.Abs
end

section
set_option linter.unusedVariables false
set_option linter.unusedSimpArgs false
/-
  Chinese remainders: the fold that the program and the reference compute, over the integers.
-/
set_option linter.unusedVariables false
namespace Go.Abs.M

/-- Different primes (of whatever size). -/
def IPrime (q : Int) : Prop := 2 ≤ q ∧ Prime q.toNat

theorem IPrime.dvd_mul {q a b : Int} (h : IPrime q) (hd : q ∣ a * b) : q ∣ a ∨ q ∣ b := by
  have hq : ((q.toNat : Nat) : Int) = q := Int.toNat_of_nonneg (by have := h.1; omega)
  rw [← hq] at hd ⊢
  rw [← Int.natAbs_dvd_natAbs, Int.natAbs_mul, Int.natAbs_natCast] at hd
  rw [← Int.natAbs_dvd_natAbs, ← Int.natAbs_dvd_natAbs (b := b), Int.natAbs_natCast]
  exact h.2.dvd_mul hd

theorem IPrime.eq_of_dvd {p q : Int} (hp : IPrime p) (hq : IPrime q) (h : q ∣ p) : q = p := by
  have e1 : ((q.toNat : Nat) : Int) = q := Int.toNat_of_nonneg (by have := hq.1; omega)
  have e2 : ((p.toNat : Nat) : Int) = p := Int.toNat_of_nonneg (by have := hp.1; omega)
  rw [← e1, ← e2] at h ⊢
  rw [Int.natCast_dvd_natCast] at h
  rcases hp.2.divs _ h with h | h
  · have := hq.1; omega
  · rw [h]

/-- u has the residues of the list, lies in 0 .. m - 1, and m is the product. -/
structure Crt (l : List (Int × Int)) (u m : Int) : Prop where
  lo : 0 ≤ u
  hi : u < m
  prod : m = l.foldr (fun e x => e.2 * x) 1
  res : ∀ e ∈ l, u % e.2 = e.1 % e.2

theorem Crt.nil : Crt [] 0 1 := ⟨by omega, by omega, rfl, fun e h => by cases h⟩

def lprod (l : List Int) : Int := l.foldr (fun q x => q * x) 1

theorem lprod_append : ∀ (a b : List Int), lprod (a ++ b) = lprod a * lprod b
  | [], b => by simp [lprod]
  | q :: a, b => by
    have := lprod_append a b
    simp only [lprod, List.cons_append, List.foldr_cons] at this ⊢
    rw [this, Int.mul_assoc]

theorem lprod_dvd : ∀ {l : List Int} {q : Int}, q ∈ l → q ∣ lprod l
  | x :: l, q, h => by
    simp only [lprod, List.foldr_cons]
    rcases List.mem_cons.1 h with rfl | h
    · exact ⟨_, rfl⟩
    · exact Int.dvd_trans (lprod_dvd h) ⟨x, by rw [Int.mul_comm]; rfl⟩

theorem lprod_prime {q : Int} (hq : IPrime q) : ∀ {l : List Int}, (∀ x ∈ l, IPrime x) → q ∣ lprod l → q ∈ l
  | [], _, h => by
    have h1 := hq.1
    have : q ∣ 1 := h
    have := Int.le_of_dvd (by omega) this
    omega
  | x :: l, hl, h => by
    simp only [lprod, List.foldr_cons] at h
    rcases hq.dvd_mul h with h | h
    · rw [(hl x (.head _)).eq_of_dvd hq h]; exact .head _
    · exact .tail _ (lprod_prime hq (fun y hy => hl y (.tail _ hy)) h)

/-- Different primes that divide a number divide it together. -/
theorem lprod_dvd_of {d : Int} : ∀ {l : List Int}, (∀ x ∈ l, IPrime x) → l.Nodup → (∀ x ∈ l, x ∣ d) → lprod l ∣ d
  | [], _, _, _ => ⟨d, by simp [lprod]⟩
  | x :: l, hl, hn, hd => by
    obtain ⟨h1, h2⟩ := List.nodup_cons.1 hn
    obtain ⟨c, hc⟩ := lprod_dvd_of (l := l) (fun y hy => hl y (.tail _ hy)) h2 (fun y hy => hd y (.tail _ hy))
    have hx := hl x (.head _)
    have : x ∣ lprod l * c := hc ▸ hd x (.head _)
    rcases hx.dvd_mul this with h | ⟨e, he⟩
    · exact absurd (lprod_prime hx (fun y hy => hl y (.tail _ hy)) h) h1
    · refine ⟨e, ?_⟩
      simp only [lprod, List.foldr_cons] at hc ⊢
      rw [hc, he, Int.mul_assoc, Int.mul_left_comm]

structure CrtP (p : List Int) (r : Int → Int) (u m : Int) : Prop where
  lo : 0 ≤ u
  hi : u < m
  prod : m = lprod p
  res : ∀ q ∈ p, u % q = r q % q

theorem CrtP.unique {p : List Int} {r : Int → Int} {u v m : Int} (hp : ∀ x ∈ p, IPrime x) (hn : p.Nodup) (h1 : CrtP p r u m) (h2 : CrtP p r v m) : u = v := by
  have hd : lprod p ∣ u - v := lprod_dvd_of hp hn fun x hx => Int.dvd_of_emod_eq_zero (by
    rw [Int.sub_emod, h1.res x hx, h2.res x hx, Int.sub_self, Int.zero_emod])
  rw [← h1.prod] at hd
  have a1 := h1.lo; have a2 := h1.hi; have b1 := h2.lo; have b2 := h2.hi
  obtain ⟨c, hc⟩ := hd
  have h0 : c = 0 := by
    rcases Int.lt_trichotomy c 0 with h | h | h
    · have := Int.mul_le_mul_of_nonneg_left (show c ≤ -1 by omega) (show 0 ≤ m by omega)
      omega
    · exact h
    · have := Int.mul_le_mul_of_nonneg_left (show 1 ≤ c by omega) (show 0 ≤ m by omega)
      omega
  rw [h0, Int.mul_zero] at hc
  omega

/-- One more prime. -/
theorem CrtP.step {p : List Int} {r : Int → Int} {u m a q i t : Int} (hq : 2 ≤ q) (h : CrtP p r u m) (hqp : q ∉ p) (hi : i * (m % q) % q = 1) (ha : r q % q = a % q)
    (ht : t = (a % q + q - u % q) % q * i % q) : CrtP (p ++ [q]) r (u + m * t) (m * q) := by
  have t0 : 0 ≤ t := by rw [ht]; exact Int.emod_nonneg _ (by omega)
  have t1 : t < q := by rw [ht]; exact Int.emod_lt_of_pos _ (by omega)
  have h0 := h.lo; have h1 := h.hi
  have hmt : 0 ≤ m * t := Int.mul_nonneg (by omega) t0
  refine ⟨by omega, ?_, ?_, fun x hx => ?_⟩
  · have := Int.mul_le_mul_of_nonneg_left (show t ≤ q - 1 by omega) (show 0 ≤ m by omega)
    rw [Int.mul_sub, Int.mul_one] at this
    omega
  · rw [lprod_append, ← h.prod]; simp [lprod]
  · rcases List.mem_append.1 hx with hx | hx
    · obtain ⟨c, hc⟩ := lprod_dvd hx
      rw [← h.prod] at hc
      rw [hc, Int.mul_assoc, Int.add_mul_emod_self_left, h.res x hx]
    · rw [List.mem_singleton.1 hx, ha, ht]
      have e0 := Int.emod_add_mul_ediv ((a % q + q - u % q) % q * i) q
      have e1 := Int.emod_add_mul_ediv (a % q + q - u % q) q
      have e2 := Int.emod_add_mul_ediv a q
      have e3 := Int.emod_add_mul_ediv u q
      have e4 := Int.emod_add_mul_ediv (i * (m % q)) q
      have e5 := Int.emod_add_mul_ediv m q
      rw [hi] at e4
      generalize (a % q + q - u % q) % q * i % q = t at *
      generalize (a % q + q - u % q) % q * i / q = c0 at *
      generalize (a % q + q - u % q) / q = c1 at *
      generalize (a % q + q - u % q) % q = s at *
      generalize a / q = c2 at *
      generalize u / q = c3 at *
      generalize i * (m % q) / q = c4 at *
      generalize m / q = c5 at *
      generalize m % q = m0 at *
      have : u + m * t = a + q * (1 - c1 - c2 + c3 + m * (i * (1 - c1 - c2 + c3) - c0) + (a - u) * (c4 + c5 * i) - (1 - c1 - c2 + c3)) := by
        have hs : s = a - u + q * (1 - c1 - c2 + c3) := by grind
        have him : i * m = 1 + q * (c4 + c5 * i) := by grind
        have ht : t = s * i - q * c0 := by grind
        rw [ht, hs]
        grind
      rw [this, Int.add_mul_emod_self_left]
end Go.Abs.M
end

section
set_option linter.unusedVariables false
set_option linter.unusedSimpArgs false
set_option linter.unusedVariables false
set_option linter.unusedSimpArgs false
namespace Go.Proofs.Ytgncmjcoojmccaa
open Go Go.Abs Go.Proofs

theorem prm_tri {n : Nat} (h0 : 2 ≤ n) (h1 : n ≤ 2147483647) (h : tri n 16 2 = true) : Prm n := by
  refine ⟨by omega, by omega, fun d h1 h2 h3 => ?_⟩
  have hd : d < 65536 := by
    rcases Int.lt_or_le d 65536 with h | h
    · exact h
    · have := Int.mul_le_mul h h (by omega) (by omega); omega
  refine tri_spec 16 2 h d.toNat (by omega) (by omega) ?_
  have : ((n : Nat) : Int) % (d.toNat : Int) = 0 := by rw [Int.toNat_of_nonneg (by omega)]; exact h3
  omega

/-- The last eight primes below 2^31, ahead of them a number that starts. -/
def bigP : Nat → Int
  | 0 => 2146999999 | 1 => 2147483497 | 2 => 2147483543 | 3 => 2147483549 | 4 => 2147483563 | 5 => 2147483579 | 6 => 2147483587 | 7 => 2147483629 | _ => 2147483647

theorem big1 : tri 2147483497 16 2 = true := by kernel_rfl
theorem big2 : tri 2147483543 16 2 = true := by kernel_rfl
theorem big3 : tri 2147483549 16 2 = true := by kernel_rfl
theorem big4 : tri 2147483563 16 2 = true := by kernel_rfl
theorem big5 : tri 2147483579 16 2 = true := by kernel_rfl
theorem big6 : tri 2147483587 16 2 = true := by kernel_rfl
theorem big7 : tri 2147483629 16 2 = true := by kernel_rfl

theorem bigP_prm {i : Nat} (h : i < 8) : bigP i < bigP (i + 1) ∧ Prm (bigP (i + 1)) := by
  match i, h with
  | 0, _ => exact ⟨by decide, show Prm ((2147483497 : Nat) : Int) from prm_tri (by decide) (by decide) big1⟩
  | 1, _ => exact ⟨by decide, show Prm ((2147483543 : Nat) : Int) from prm_tri (by decide) (by decide) big2⟩
  | 2, _ => exact ⟨by decide, show Prm ((2147483549 : Nat) : Int) from prm_tri (by decide) (by decide) big3⟩
  | 3, _ => exact ⟨by decide, show Prm ((2147483563 : Nat) : Int) from prm_tri (by decide) (by decide) big4⟩
  | 4, _ => exact ⟨by decide, show Prm ((2147483579 : Nat) : Int) from prm_tri (by decide) (by decide) big5⟩
  | 5, _ => exact ⟨by decide, show Prm ((2147483587 : Nat) : Int) from prm_tri (by decide) (by decide) big6⟩
  | 6, _ => exact ⟨by decide, show Prm ((2147483629 : Nat) : Int) from prm_tri (by decide) (by decide) big7⟩
  | 7, _ => exact ⟨by decide, prm_mers⟩

/-- i primes one after the other, the last of them p. -/
structure Chs (i : Nat) (p : Int) (l : List Int) : Prop where
  len : l.length = i
  lo : 0 ≤ p
  le : p ≤ bigP i
  mem : ∀ x ∈ l, Prm x ∧ x ≤ p
  nd : l.Nodup

theorem Chs.start {p : Int} (h0 : 0 ≤ p) (h : p < 2147000000) : Chs 0 p [] := ⟨rfl, h0, by show p ≤ 2146999999; omega, (fun x h => by cases h), List.nodup_nil⟩

theorem Chs.step {i : Nat} {p : Int} {l : List Int} (h : Chs i p l) (hi : i < 8) : ∃ q, p < q ∧ Prm q ∧ (∀ k, p < k → k < q → ¬ Prm k) ∧ Chs (i + 1) q (l ++ [q]) := by
  obtain ⟨b1, b2⟩ := bigP_prm hi
  have b3 := b2.2.1
  have hle := h.le
  obtain ⟨q, q1, q2, q3⟩ := next_ex _ p (by omega) rfl
  refine ⟨q, q1, q2, q3, by rw [List.length_append, h.len]; rfl, by have := h.lo; omega, ?_, fun x hx => ?_, ?_⟩
  · rcases Int.lt_or_le (bigP (i + 1)) q with h' | h'
    · exact absurd b2 (q3 _ (by omega) h')
    · exact h'
  · rcases List.mem_append.1 hx with hx | hx
    · have := h.mem x hx; exact ⟨this.1, by omega⟩
    · rw [List.mem_singleton.1 hx]; exact ⟨q2, Int.le_refl _⟩
  · rw [List.nodup_append]
    refine ⟨h.nd, by simp, fun a ha b hb => ?_⟩
    rw [List.mem_singleton.1 hb]
    have := (h.mem a ha).2
    omega

open Classical in
/-- The next prime, if there is one. -/
noncomputable def nxt (p : Int) : Int := if h : ∃ q : Int, p < q ∧ Prm q ∧ ∀ k : Int, p < k → k < q → ¬ Prm k then h.choose else 0

theorem nxt_eq {p q : Int} (h1 : p < q) (h2 : Prm q) (h3 : ∀ k : Int, p < k → k < q → ¬ Prm k) : nxt p = q := by
  have h : ∃ q : Int, p < q ∧ Prm q ∧ ∀ k : Int, p < k → k < q → ¬ Prm k := ⟨q, h1, h2, h3⟩
  unfold nxt
  rw [dif_pos h]
  obtain ⟨a1, a2, a3⟩ := h.choose_spec
  rcases Int.lt_trichotomy h.choose q with g | g | g
  · exact absurd a2 (h3 _ a1 g)
  · exact g
  · exact absurd h2 (a3 _ h1 g)

/-- The first i primes behind a number, and the last of them. -/
noncomputable def chsL (s : Int) : Nat → Int × List Int
  | 0 => (s, [])
  | i + 1 => (nxt (chsL s i).1, (chsL s i).2 ++ [nxt (chsL s i).1])

theorem chsL_step {s : Int} {i : Nat} (h : Chs i (chsL s i).1 (chsL s i).2) (hi : i < 8) : (chsL s i).1 < (chsL s (i + 1)).1 ∧ Prm (chsL s (i + 1)).1 ∧ (∀ k, (chsL s i).1 < k → k < (chsL s (i + 1)).1 → ¬ Prm k) ∧ Chs (i + 1) (chsL s (i + 1)).1 (chsL s (i + 1)).2 := by
  obtain ⟨q, q1, q2, q3, q4⟩ := h.step hi
  have e : nxt (chsL s i).1 = q := nxt_eq q1 q2 q3
  simp only [chsL, e]
  exact ⟨q1, q2, q3, q4⟩

theorem chsL_ok {s : Int} (h0 : 0 ≤ s) (h1 : s < 2147000000) : ∀ i : Nat, i ≤ 8 → Chs i (chsL s i).1 (chsL s i).2
  | 0, _ => .start h0 h1
  | i + 1, hi => (chsL_step (chsL_ok h0 h1 i (by omega)) (by omega)).2.2.2
end Go.Proofs.Ytgncmjcoojmccaa
end

section
set_option linter.unusedVariables false
set_option linter.unusedSimpArgs false
/-
  The abstract layer: a loop whose rounds end in a frame with other numbers of blocks. A frame's blocks have no names of their own.
-/
set_option linter.unusedSimpArgs false
set_option linter.unusedVariables false
namespace Go.Abs

def Cell.ren (ρ : Nat → Nat) : Cell → Cell
  | .t x => .t x
  | .ptr b r c => .ptr (ρ b) r c
  | .tp row c => .tp row c
  | .sl b off len cp => .sl (ρ b) off len cp
  | .mp b => .mp (ρ b)
  | .clo f caps => .clo f (caps.map fun p => (ρ p.1, p.2))

def AV.ren (ρ : Nat → Nat) : AV → AV
  | .c x => .c (x.ren ρ)
  | .agg l => .agg (l.map (Cell.ren ρ))
  | .tup l => .tup l
  | .junk => .junk

def AV.noTup : AV → Prop
  | .tup _ => False
  | _ => True

def Blk.ren (ρ : Nat → Nat) : Blk → Blk
  | .var cells => .var (cells.map (Cell.ren ρ))
  | .rows sz l g fz => .rows sz l g fz
  | .map ents => .map ents

/-- A frame that says less, under other numbers. -/
structure St.LeR (n0 : Nat) (ρ : Nat → Nat) (s s' : St) : Prop where
  len : s'.tmps.length = s.tmps.length
  tmps : ∀ (i : Nat) (x : AV), s'.tmps[i]? = some x → x = .junk ∨ x.noTup ∧ s.tmps[i]? = some (x.ren ρ)
  heap : ∀ b blk, look s'.heap b = some blk → look s.heap (ρ b) = some (blk.ren ρ)
  inj : ∀ b b' blk blk', look s'.heap b = some blk → look s'.heap b' = some blk' → ρ b = ρ b' → b = b'
  fix : ∀ b, b < n0 → ρ b = b

section
variable {β : Nat → Option Reg} {S : Place} {w : World} {n : Nat} {ρ : Nat → Nat}

theorem CRep.ren {c : Cell} {v : Value} (h : CRep β S w (c.ren ρ) v) (hb : c.refsLt n = true) : CRep (fun b => if b < n then β (ρ b) else none) S w c v := by
  cases c with
  | t x => cases h with | t h => exact .t h
  | ptr b r c => cases h with | ptr R h => exact .ptr R (by simp only [Cell.refsLt, decide_eq_true_eq] at hb; rw [if_pos hb]; exact h)
  | tp row c => cases h with | tp cb co val h => exact .tp cb co val h
  | sl b off len cp => cases h with | sl R base cap h h1 h2 h3 h4 h5 => exact .sl R base cap (by simp only [Cell.refsLt, decide_eq_true_eq] at hb; rw [if_pos hb]; exact h) h1 h2 h3 h4 h5
  | mp b => cases h with | mp R h => exact .mp R (by simp only [Cell.refsLt, decide_eq_true_eq] at hb; rw [if_pos hb]; exact h)
  | clo f caps =>
    cases h with
    | clo vs h1 h2 =>
      refine .clo vs (by rw [h1, List.length_map]) fun i b r c hi => ?_
      obtain ⟨R, e1, e2⟩ := h2 i (ρ b) r c (by rw [List.getElem?_map, hi]; rfl)
      have := List.all_eq_true.1 hb _ (List.mem_of_getElem? hi)
      exact ⟨R, by rw [if_pos (by simpa using this)]; exact e1, e2⟩

theorem VRep.ren {x : AV} {v : Value} (h : VRep β S w (x.ren ρ) v) (ht : x.noTup) (hb : x.refsLt n = true) : VRep (fun b => if b < n then β (ρ b) else none) S w x v := by
  cases x with
  | c x => cases h with | c h => exact .c (h.ren (by simpa [AV.refsLt] using hb))
  | agg l =>
    cases h with
    | agg vs h1 h2 =>
      refine .agg vs (by rw [h1, List.length_map]) fun i c hi => ?_
      obtain ⟨v, e1, e2⟩ := h2 i (c.ren ρ) (by rw [List.getElem?_map, hi]; rfl)
      simp only [AV.refsLt] at hb
      exact ⟨v, e1, e2.ren (List.all_eq_true.1 hb c (List.mem_of_getElem? hi))⟩
  | tup l => exact ht.elim
  | junk => exact .junk v

theorem Blk.ren_ext {blk : Blk} {R : Reg} : (blk.ren ρ).ext R = blk.ext R := by
  cases blk <;> (funext b o; simp [Blk.ren, Blk.ext])

theorem Blk.ren_wr {blk : Blk} {R : Reg} : (blk.ren ρ).wr R = blk.wr R := by
  cases blk <;> (funext b o; simp [Blk.ren, Blk.wr])

theorem Sat.ren {K : Ctx} {n0 : Nat} {s s' : St} {a : Act} (h : Sat K β S s a w) (hl : s.LeR n0 ρ s') (hb : s'.refsLt = true) (hn : ∀ i R, K.β0 i = some R → i < n0) (hk : n0 ≤ s'.heap.length) :
    Sat K (fun b => if b < s'.heap.length then β (ρ b) else none) S s' a w := by
  simp only [St.refsLt, Bool.and_eq_true] at hb
  refine ⟨by rw [hl.len]; exact h.len, h.defers, fun t x ht => ?_, fun b R hR => ?_, fun b blk hbk => ?_, fun b b' blk blk' R R' hne h1 h2 hR hR' => ?_, h.sex, h.sin, h.sub, h.keep, fun i R hi => by
    rw [if_pos (Nat.lt_of_lt_of_le (hn i R hi) hk), hl.fix i (hn i R hi)]; exact h.arg i R hi⟩
  · rcases hl.tmps t x ht with rfl | ⟨h1, hx⟩
    · exact .junk _
    · exact (h.tmps t _ hx).ren h1 (List.all_eq_true.1 hb.1 x (List.mem_of_getElem? ht))
  · split at hR
    · assumption
    · cases hR
  · obtain ⟨R, e1, e2, e3, e4⟩ := h.blk _ _ (hl.heap b blk hbk)
    have hlt := look_lt hbk
    rw [Blk.ren_ext] at e3
    rw [Blk.ren_wr] at e4
    refine ⟨R, by rw [if_pos hlt]; exact e1, ?_, e3, e4⟩
    cases blk with
    | var cells =>
      simp only [Blk.ren, BlkOk, List.length_map] at e2
      refine ⟨e2.1, fun j c hj => ?_⟩
      obtain ⟨v, f1, f2⟩ := e2.2 j (c.ren ρ) (by rw [List.getElem?_map, hj]; rfl)
      have hm : some (Blk.var cells) ∈ s'.heap := by
        unfold look at hbk
        cases hx : s'.heap[b]? with
        | none => rw [hx] at hbk; cases hbk
        | some y => rw [hx] at hbk; simp at hbk; subst hbk; exact List.mem_of_getElem? hx
      have := List.all_eq_true.1 hb.2 _ hm
      simp only [Blk.refsLt] at this
      exact ⟨v, f1, f2.ren (List.all_eq_true.1 this c (List.mem_of_getElem? hj))⟩
    | rows sz rows g fz => exact e2
    | map ents => exact e2
  · have l1 := look_lt h1
    have l2 := look_lt h2
    rw [if_pos l1] at hR
    rw [if_pos l2] at hR'
    have := h.dis (ρ b) (ρ b') _ _ R R' (fun e => hne (hl.inj b b' _ _ h1 h2 e)) (hl.heap _ _ h1) (hl.heap _ _ h2) hR hR'
    rw [Blk.ren_ext, Blk.ren_ext] at this
    exact this
end

theorem ARun.postRen {P : Program} {n0 : Nat} {c : Code} {st : St} {Q : AExit → St → Prop} (h : ARun P n0 c st fun e s => Q e s ∨ ∃ ρ s', s.LeR n0 ρ s' ∧ s'.refsLt = true ∧ n0 ≤ s'.heap.length ∧ Q e s') : ARun P n0 c st Q := fun K hn β S a w hs =>
  wp_mono (h K hn β S a w hs) fun e a' w' ⟨x, s, h1, h2, β', S', h5⟩ => by
    rcases h2 with h2 | ⟨ρ, s', h2, h3, hk, h4⟩
    · exact ⟨x, s, h1, h2, β', S', h5⟩
    · exact ⟨x, s', h1, h4, _, S', h5.ren h2 h3 hn hk⟩

theorem LoopP.introR {P : Program} {C : Cfg} {n0 : Nat} {st : St} (hC : CfgOk P C) (hmix : P.follows .mixedOrders = true) {c : Code} {Q : AExit → St → Prop} (I : Nat → St → Prop) {n : Nat} {s0 : St} (hl : st.Le s0) (hb : s0.refsLt = true) (hk : n0 ≤ s0.heap.length) (h0 : I n s0)
    (round : ∀ n s, I n s → CodeK P C n0 c s fun e s => match e with
      | .normal => ∃ ρ s', s.LeR n0 ρ s' ∧ s'.refsLt = true ∧ n0 ≤ s'.heap.length ∧ ∃ m, m < n ∧ I m s'
      | .exit id => Q (.exit id) s
      | .ret => Q .ret s) : LoopP P n0 c st Q := by
  refine ARun.weaken hl hb hk (ARun.loop I (fun n s hI => ARun.postRen ((CodeK.run hC hmix c s _ (round n s hI)).mono fun e s1 h1 => ?_)) h0)
  cases e with
  | normal =>
    obtain ⟨ρ, s', h2, h3, h4, m, h5, h6⟩ := h1
    exact .inr ⟨ρ, s', h2, h3, h4, m, h5, h6⟩
  | exit id => exact .inl h1
  | ret => exact .inl h1

/-- St.LeR, place by place. -/
def leTR (ρ : Nat → Nat) : List AV → List AV → Prop
  | [], [] => True
  | x :: xs, y :: ys => (y = .junk ∨ y.noTup ∧ x = y.ren ρ) ∧ leTR ρ xs ys
  | _, _ => False

/-- Which of the old blocks a new place holds: a list of (new, old). -/
def renF : List (Nat × Nat) → Nat → Nat
  | [], b => b
  | (x, y) :: l, b => if b = x then y else renF l b

def leHR (ρ : Nat → Nat) (h : Heap) : Nat → Heap → Prop
  | _, [] => True
  | i, y :: ys => (match y with | none => True | some b => look h (ρ i) = some (b.ren ρ)) ∧ leHR ρ h (i + 1) ys

/-- The places that hold something, each with its old number: all different. -/
def liveR (ρ : Nat → Nat) : Nat → Heap → List Nat
  | _, [] => []
  | i, none :: ys => liveR ρ (i + 1) ys
  | i, some _ :: ys => ρ i :: liveR ρ (i + 1) ys

theorem leTR_spec {ρ : Nat → Nat} : ∀ {xs ys : List AV}, leTR ρ xs ys → ys.length = xs.length ∧ ∀ (i : Nat) (y : AV), ys[i]? = some y → y = .junk ∨ y.noTup ∧ xs[i]? = some (y.ren ρ)
  | [], [], _ => ⟨rfl, by simp⟩
  | x :: xs, y :: ys, h => by
    obtain ⟨h1, h2⟩ := h
    obtain ⟨h3, h4⟩ := leTR_spec h2
    refine ⟨by simp [h3], fun i z hz => ?_⟩
    cases i with
    | zero =>
      simp at hz; subst hz
      rcases h1 with h | ⟨h, h'⟩
      · exact .inl h
      · exact .inr ⟨h, by simp [h']⟩
    | succ i => simpa using h4 i z (by simpa using hz)

theorem leHR_spec {ρ : Nat → Nat} {h : Heap} : ∀ {ys : Heap} {i : Nat}, leHR ρ h i ys → ∀ (j : Nat) (b : Blk), look ys j = some b → look h (ρ (i + j)) = some (b.ren ρ)
  | [], i, _, j, b, hb => by simp [look] at hb
  | y :: ys, i, ⟨h1, h2⟩, j, b, hb => by
    cases j with
    | zero => simp [look] at hb; subst hb; exact h1
    | succ j =>
      have := leHR_spec h2 j b (by simpa [look] using hb)
      rw [show i + (j + 1) = i + 1 + j by omega]; exact this

theorem liveR_mem {ρ : Nat → Nat} : ∀ {ys : Heap} {i : Nat} (j : Nat) (b : Blk), look ys j = some b → ρ (i + j) ∈ liveR ρ i ys
  | [], i, j, b, hb => by simp [look] at hb
  | y :: ys, i, j, b, hb => by
    cases j with
    | zero => simp [look] at hb; subst hb; exact .head _
    | succ j =>
      have := liveR_mem (ρ := ρ) (i := i + 1) j b (by simpa [look] using hb)
      rw [show i + (j + 1) = i + 1 + j by omega]
      cases y with
      | none => exact this
      | some y => exact .tail _ this

theorem liveR_inj {ρ : Nat → Nat} : ∀ {ys : Heap} {i : Nat}, (liveR ρ i ys).Nodup → ∀ (j j' : Nat) (b b' : Blk), look ys j = some b → look ys j' = some b' → ρ (i + j) = ρ (i + j') → j = j'
  | [], i, _, j, j', b, b', hb, _, _ => by simp [look] at hb
  | y :: ys, i, hn, j, j', b, b', hb, hb', he => by
    have ht : (liveR ρ (i + 1) ys).Nodup := by
      cases y with
      | none => exact hn
      | some y => exact (List.nodup_cons.1 hn).2
    cases j with
    | zero =>
      cases j' with
      | zero => rfl
      | succ j' =>
        simp [look] at hb; subst hb
        have := liveR_mem (ρ := ρ) (i := i + 1) j' b' (by simpa [look] using hb')
        rw [show i + 1 + j' = i + (j' + 1) by omega, ← he] at this
        exact absurd this (List.nodup_cons.1 hn).1
    | succ j =>
      cases j' with
      | zero =>
        simp [look] at hb'; subst hb'
        have := liveR_mem (ρ := ρ) (i := i + 1) j b (by simpa [look] using hb)
        rw [show i + 1 + j = i + (j + 1) by omega, he] at this
        exact absurd this (List.nodup_cons.1 hn).1
      | succ j' =>
        have := liveR_inj ht j j' b b' (by simpa [look] using hb) (by simpa [look] using hb') (by rw [show i + 1 + j = i + (j + 1) by omega, show i + 1 + j' = i + (j' + 1) by omega]; exact he)
        omega

theorem leR_of {n0 : Nat} {s s' : St} (m : List (Nat × Nat)) (h1 : leTR (renF m) s.tmps s'.tmps) (h2 : leHR (renF m) s.heap 0 s'.heap) (h3 : (liveR (renF m) 0 s'.heap).Nodup) (h4 : ∀ p ∈ m, n0 ≤ p.1) : s.LeR n0 (renF m) s' := by
  obtain ⟨a, b⟩ := leTR_spec h1
  refine ⟨a, b, fun b blk hb => ?_, fun b b' blk blk' hb hb' he => ?_, fun b hb => ?_⟩
  · have := leHR_spec h2 b blk hb; rwa [Nat.zero_add] at this
  · exact liveR_inj h3 b b' blk blk' hb hb' (by rw [Nat.zero_add, Nat.zero_add]; exact he)
  · have : ∀ l : List (Nat × Nat), (∀ p ∈ l, n0 ≤ p.1) → renF l b = b := by
      intro l
      induction l with
      | nil => intro _; rfl
      | cons p l ih =>
        intro h
        obtain ⟨x, y⟩ := p
        have := h (x, y) (.head _)
        simp only [renF]
        rw [if_neg (by simp at this; omega)]
        exact ih fun p hp => h p (.tail _ hp)
    exact this m h4

/-- The loop's next turn, under other numbers: m says, for each block that is elsewhere, (where the invariant has it, where it is now). -/
theorem againR {s s' : St} {n0 n k : Nat} {I : Nat → St → Prop} (m : List (Nat × Nat)) (h1 : leTR (renF m) s.tmps s'.tmps) (h2 : leHR (renF m) s.heap 0 s'.heap) (h3 : (liveR (renF m) 0 s'.heap).Nodup) (h4 : ∀ p ∈ m, n0 ≤ p.1)
    (h5 : s'.refsLt = true) (h6 : n0 ≤ s'.heap.length) (hm : k < n) (hI : I k s') : ∃ ρ s', s.LeR n0 ρ s' ∧ s'.refsLt = true ∧ n0 ≤ s'.heap.length ∧ ∃ m, m < n ∧ I m s' := ⟨_, s', leR_of m h1 h2 h3 h4, h5, h6, k, hm, hI⟩

section
variable {P : Program} {C : Cfg} {n0 : Nat} {zwrap : IntKind → Int → Int} {zadd : Int → Int → Int} {zsub : Int → Int → Int} {zmul : Int → Int → Int} {zquo : Int → Int → Int} {zrem : Int → Int → Int} {zshl : IntKind → Int → Int → Int} {zshr : IntKind → Int → Int → Int} {zband : IntKind → Int → Int → Int} {zbor : IntKind → Int → Int → Int} {zbxor : IntKind → Int → Int → Int} {zbandn : IntKind → Int → Int → Int} {zeq : Int → Int → Bool} {zne : Int → Int → Bool} {zlt : Int → Int → Bool} {zle : Int → Int → Bool} {znot : Bool → Bool} {zbeq : Bool → Bool → Bool} {zbne : Bool → Bool → Bool} {zmax : Int → Int → Int} {zmin : Int → Int → Int} {znat : Int → Nat} {zinb : Int → Nat → Bool} {zofN : Nat → Int} {zidx : Nat → Int → Nat} {zneq : Nat → Nat → Bool} {znadd : Nat → Nat → Nat} {zdif : Int → Int → Nat} {zcut : Int → Int → Nat → Bool} {zroom : Nat → Nat → Nat → Bool} {zmkok : Int → Int → Nat → Bool} {zlen : Rows → Nat} {znth : Rows → Nat → Option (List Tree)} {zsetr : Rows → Nat → List Tree → Rows} {zisI : IntKind → Rows → Nat → Bool} {zgetI : Rows → Nat → Int} {zsetI : IntKind → Rows → Nat → Int → Rows} {zfit : Nat → Nat → Rows → Bool} {zpart : Rows → Nat → Nat → Rows} {zext : Rows → Nat → Rows → Rows} {zsetg : Rows → Nat → Rows → Rows} {zrep : Nat → List Tree → Rows} {zwide : Nat → Rows → Bool} {zall : List Bool → Bool} {zmok : List (Value × Tree) → Value → Bool} {zmget : List (Value × Tree) → Value → Bool} {zmset : List (Value × Tree) → Value → Tree → List (Value × Tree)} {zW : IntKind → List Int → Rows} {zth : (α : Type) → (Unit → α) → α} {A : FuncId → List Arg → Res → Prop} {L : Code → St → (AExit → ST → Prop) → Prop}
theorem loopZR (hC : CfgOk P C) (hmix : P.follows .mixedOrders = true) (hS : Std P n0 zwrap zadd zsub zmul zquo zrem zshl zshr zband zbor zbxor zbandn zeq zne zlt zle znot zbeq zbne zmax zmin znat zinb zofN zidx zneq znadd zdif zcut zroom zmkok zlen znth zsetr zisI zgetI zsetI zfit zpart zext zsetg zrep zwide zall zmok zmget zmset zW zth A L) {c : Code} {st : St} {Q : AExit → ST → Prop} (I : Nat → St → Prop) {n : Nat} {s0 : St} (hl : st.Le s0) (hb : s0.refsLt = true) (hk : n0 ≤ s0.heap.length) (h0 : I n s0)
    (round : ∀ n s, I n s → CodeKZ (ZI.mk zwrap zadd zsub zmul zquo zrem zshl zshr zband zbor zbxor zbandn zeq zne zlt zle znot zbeq zbne zmax zmin znat zinb zofN zidx zneq znadd zdif zcut zroom zmkok zlen znth zsetr zisI zgetI zsetI zfit zpart zext zsetg zrep zwide zall zmok zmget zmset) C A L c (ST.ofSt s) fun e s => match e with
      | .normal => match s.toSt with
        | ⟨t, h⟩ => ∃ ρ s', (St.mk t h).LeR n0 ρ s' ∧ s'.refsLt = true ∧ n0 ≤ s'.heap.length ∧ ∃ m, m < n ∧ I m s'
      | .exit id => Q (.exit id) s
      | .ret => Q .ret s) : L c st Q := by
  rw [hS.z, hS.a, hS.l] at round
  rw [hS.l]
  refine fun hT => LoopP.introR hC hmix I hl hb hk h0 fun n s hI => ?_
  have := codeKZ_std c _ (ST.ofSt_ok s) hT (round n s hI)
  rw [ST.toSt_ofSt] at this
  refine codeK_mono c s this fun e s1 h1 => ?_
  obtain ⟨s', ho, rfl, h2⟩ := h1
  cases e with
  | normal => exact h2
  | exit id => exact ⟨s', ho, rfl, h2⟩
  | ret => exact ⟨s', ho, rfl, h2⟩

end
end Go.Abs
end

section
set_option linter.unusedVariables false
set_option linter.unusedSimpArgs false
set_option maxHeartbeats 8000000
set_option linter.unusedVariables false
set_option linter.unusedSimpArgs false
set_option maxRecDepth 100000
namespace Go.Proofs.Ytgncmjcoojmccaa
open Go Go.Abs Go.Abs.M Go.Proofs

def chsSt (n k p i : Int) (r : Abs.Rows) (len : Nat) : St := mkSt 27 [vi .u32 n, vi .i64 k, .junk, .junk, .junk, vi .u64 p, .c (.sl 2 0 len false), vi .i64 i] [none, none, some (.rows 1 r true false)]


theorem chosen_call (n : Int) (k : Nat) (h0 : 0 ≤ n) (h1 : n < 4294967296) (hk : k ≤ 8) : ACall Try.prog 25 [.val (ti .u32 n), .val (ti .i64 (k : Int))] ⟨[.val (tl (W .u64 (chsL (n % 2147000000) k).2))], [none, none]⟩ := by
  obtain ⟨K, hK⟩ : ∃ K : Int, K = k := ⟨_, rfl⟩
  rw [← hK]
  obtain ⟨p0, hp0⟩ : ∃ p0 : Int, p0 = n % 2147000000 := ⟨_, rfl⟩
  have b1 : 0 ≤ p0 := by omega
  have b2 : p0 < 2147000000 := by omega
  rw [← hp0]
  refine callZ ccOk mixed [.val] Try.func25 rfl rfl (by kernel_rfl) fun zwrap zadd zsub zmul zquo zrem zshl zshr zband zbor zbxor zbandn zeq zne zlt zle znot zbeq zbne zmax zmin znat zinb zofN zidx zneq znadd zdif zcut zroom zmkok zlen znth zsetr zisI zgetI zsetI zfit zpart zext zsetg zrep zwide zall zmok zmget zmset zW zth A L F hS hF => ?_
  have A0 : zwrap .u64 (zrem n 2147000000) = p0 := by rw [hS.rem, Int.tmod_eq_emod_of_nonneg h0, hS.wrap, wrap_u64 (by omega) (by omega), hp0]
  have A1 : ∀ (i : Nat) (I : Int), I = i → zlt I K = decide (i < k) := fun i I hI => by
    rw [hS.lt]
    by_cases h : i < k
    · rw [decide_eq_true h]; exact decide_eq_true (by omega)
    · rw [decide_eq_false h]; exact decide_eq_false (by omega)
  have A2 : ∀ (i : Nat) (I : Int), I = i → i < 100 → ∃ I' : Int, I' = ((i + 1 : Nat) : Int) ∧ zwrap .i64 (zadd I 1) = I' := fun i I hI h => by
    refine ⟨_, rfl, ?_⟩
    rw [hS.add, hS.wrap, wrap_i64 (by omega) (by omega)]; omega
  cbv
  refine loopZR ccOk mixed hS (fun (m : Nat) s' => ∃ (i : Nat) (I p : Int) (r : Abs.Rows) (len : Nat), I = i ∧ i + m = k ∧ p = (chsL p0 i).1 ∧ r = W .u64 (chsL p0 i).2 ∧ len = (chsL p0 i).2.length ∧ s' = chsSt n K p I r len) (n := k) (s0 := chsSt n K p0 0 [] 0) (le_of ?_ ?_) rfl (by show 2 ≤ 3; omega) ?_ ?_
  · simp [leT, chsSt, mkSt, vi, vb, A0]
  · simp [leH, chsSt, mkSt]
  · exact ⟨0, 0, p0, [], 0, rfl, by omega, rfl, rfl, rfl, rfl⟩
  · rintro m s1 ⟨i, I, p, r, len, hI, him, hp, hr, hlen, hs1⟩
    have l1 := A1 i I hI
    have hch := chsL_ok b1 b2 i (by omega)
    have hle : len ≤ 8 := by rw [hlen, hch.len]; omega
    by_cases hik : i < k
    · rw [decide_eq_true hik] at l1
      obtain ⟨q1, q2, q3, q4⟩ := chsL_step hch (by omega)
      obtain ⟨q, hq⟩ : ∃ q, q = (chsL p0 (i + 1)).1 := ⟨_, rfl⟩
      rw [← hq, ← hp] at q1 q3
      rw [← hq] at q2
      have hl2 : (chsL p0 (i + 1)).2 = (chsL p0 i).2 ++ [q] := by rw [hq]; rfl
      obtain ⟨I', hI', i1⟩ := A2 i I hI (by omega)
      have cn := next_call p q (by rw [hp]; exact hch.lo) q1 q2 q3
      have hm1 : m - 1 < m := by omega
      have him' : i + 1 + (m - 1) = k := by omega
      have ap0 : zpart [[Tree.v (.int .u64 q)]] 0 1 = W .u64 [q] := by rw [hS.part]; rfl
      have ap1 : zfit 0 1 [[Tree.v (.int .u64 q)]] = true := by rw [hS.fit]; rfl
      have ap2 : znot (zneq (zlen (zpart [[Tree.v (.int .u64 q)]] 0 1)) 0) = true := by rw [ap0, hS.len, hS.neq, hS.not]; rfl
      have ap3 : zwide 1 (zpart [[Tree.v (.int .u64 q)]] 0 1) = true := by rw [ap0, hS.wide]; rfl
      have ap4 : zroom len (zlen (zpart [[Tree.v (.int .u64 q)]] 0 1)) 8 = true := by rw [ap0, hS.len, hS.room]; exact decide_eq_true (by unfold capBytes; simp [W]; omega)
      have ap5 : zneq (znadd 0 len) (zlen r) = true := by rw [hS.nadd, hS.neq, hS.len, hr, W_len, hlen, Nat.zero_add]; exact decide_eq_true rfl
      have ap6 : znadd len (zlen (zpart [[Tree.v (.int .u64 q)]] 0 1)) = len + 1 := by rw [ap0, hS.len, hS.nadd]; rfl
      have ap7 : zext r 0 (zpart [[Tree.v (.int .u64 q)]] 0 1) = W .u64 ((chsL p0 i).2 ++ [q]) := by rw [ap0, hS.ext, hr, List.drop_zero]; simp [W]
      obtain ⟨r', hr'⟩ : ∃ r', r' = W .u64 ((chsL p0 i).2 ++ [q]) := ⟨_, rfl⟩
      rw [← hr'] at ap7
      clear ap0 A1 A2 A0
      subst hs1
      cbv
      refine bT (l1) ?_
      refine ⟨_, hS.call (cn), ?_⟩
      cbv
      refine nd (ap1) ?_
      refine nd (ap2) ?_
      refine nd (ap3) ?_
      refine nd (ap4) ?_
      refine nd (ap5) ?_
      refine againR [(2, 6)] (s' := chsSt n K q I' r' (len + 1)) (k := m - 1) ?_ ?_ ?_ ?_ rfl (by show 2 ≤ 3; omega) hm1 ⟨i + 1, I', q, r', len + 1, hI', him', hq, by rw [hr', hl2], by rw [hlen, hl2, List.length_append]; rfl, rfl⟩
      · simp [leTR, chsSt, mkSt, vi, AV.ren, AV.noTup, Cell.ren, renF, i1, ap6]
      · simp [leHR, chsSt, mkSt, Abs.look, renF, Blk.ren, ap7]
      · simp [liveR, chsSt, mkSt]
      · simp
    · rw [decide_eq_false hik] at l1
      have hik2 : i = k := by omega
      rw [hik2] at hr hlen
      have f1 : zfit 0 len r = true := by rw [hS.fit, hr, W_len, hlen]; exact decide_eq_true (by omega)
      have f2 : zpart r 0 len = W .u64 (chsL p0 k).2 := by rw [hS.part, hr, W_part, hlen, List.drop_zero, List.take_length]
      generalize W .u64 (chsL p0 k).2 = res at *
      clear A1 A2 A0
      subst hs1
      cbv
      refine bF l1 (nd f1 ?_)
      rw [f2]
      exact hF _ (ResLe.refl _)

def chn1St (l p : Abs.Rows) (n i : Int) (es : List (Value × Tree)) : St := mkSt 96 [vl l, vl p, .junk, .junk, .c (.ptr 2 0 0), .c (.ptr 3 0 0), vi .i64 0, .c (.mp 4), .junk, .junk, .junk, .junk, .junk, .junk, .junk, .junk, .junk, .junk, .junk, .junk, .junk, .junk, .junk, .junk, .junk, vl p, vi .i64 n, vi .i64 i] [none, none, some (.var [.t (.v (.bool false)), .t (.lst true [])]), some (.var [.t (.v (.bool false)), .t (.lst true [])]), some (.map es)]

def chn2St (l p : Abs.Rows) (us : Bool) (ur : Abs.Rows) (ms : Bool) (mr : Abs.Rows) (n i : Int) : St := mkSt 96 [vl l, vl p, .junk, .junk, .c (.ptr 2 0 0), .c (.ptr 3 0 0), vi .i64 0, .junk, .junk, .junk, .c (.ptr 9 0 0), .c (.ptr 10 0 0), .junk, .junk, .junk, .junk, .junk, .junk, .junk, .junk, .junk, .junk, .junk, .junk, .junk, .junk, .junk, .junk, .junk, .junk, .junk, .junk, .junk, .junk, .junk, .junk, .junk, .junk, .junk, .junk, .junk, .junk, .junk, .junk, .junk, .junk, .junk, vi .i64 n, vi .i64 i] [none, none, some (.var [.t (.v (.bool false)), .t (.lst true [])]), some (.var [.t (.v (.bool false)), .t (.lst true [])]), none, none, none, none, none, some (.var [.t (.v (.bool us)), .t (.lst false ur)]), some (.var [.t (.v (.bool ms)), .t (.lst false mr)])]

theorem Prm.ip {p : Int} (h : Prm p) : IPrime p := ⟨h.1, h.prime⟩

theorem nodup_ne {l : List Int} (h : l.Nodup) {i j : Nat} (hi : i < l.length) (hj : j < l.length) (hne : i ≠ j) : l[i] ≠ l[j] := by
  have := List.pairwise_iff_getElem.1 h
  rcases Nat.lt_or_ge i j with h1 | h1
  · exact this i j hi hj h1
  · exact fun e => this j i hj hi (by omega) e.symm

/-- The factor that the program finds. -/
def crtT (u m a q : Int) : Int := (a % q + q - u % q) % q * ((m % q) ^ (q - 2).toNat % q) % q

theorem crt_step {p : List Int} {r : Int → Int} (hp : ∀ q ∈ p, Prm q) (hnd : p.Nodup) {i : Nat} (hi : i < p.length) {u m a : Int} (h : CrtP (p.take i) r u m) (ha : r (p.getD i 0) % p.getD i 0 = a % p.getD i 0) :
    Prm (p.getD i 0) ∧ m % p.getD i 0 ≠ 0 ∧ CrtP (p.take (i + 1)) r (u + m * crtT u m a (p.getD i 0)) (m * p.getD i 0) := by
  have hg : p.getD i 0 = p[i] := by rw [List.getD_eq_getElem?_getD, List.getElem?_eq_getElem hi]; rfl
  rw [hg] at ha ⊢
  have hmem : p[i] ∈ p := List.getElem_mem hi
  have hq := hp _ hmem
  have hni : p[i] ∉ p.take i := fun hm => by
    obtain ⟨j, hj, he⟩ := List.mem_iff_getElem.1 hm
    rw [List.length_take] at hj
    rw [List.getElem_take] at he
    exact absurd he (nodup_ne hnd (by omega) hi (by omega))
  have hm0 : m % p[i] ≠ 0 := fun h0 => hni (lprod_prime hq.ip (fun x hx => (hp x (List.mem_of_mem_take hx)).ip) (h.prod ▸ Int.dvd_of_emod_eq_zero h0))
  have hb := Int.emod_nonneg m (show p[i] ≠ 0 by have := hq.1; omega)
  have hi1 := inv_mul hq hb (by rwa [Int.emod_emod_of_dvd _ (Int.dvd_refl _)])
  rw [Int.emod_emod_of_dvd _ (Int.dvd_refl _)] at hi1
  refine ⟨hq, hm0, ?_⟩
  rw [List.take_add_one, List.getElem?_eq_getElem hi]
  exact h.step hq.1 hni hi1 ha rfl

theorem crt_ex {p : List Int} {r : Int → Int} (hp : ∀ q ∈ p, Prm q) (hnd : p.Nodup) : ∀ i, i ≤ p.length → ∃ u m, CrtP (p.take i) r u m
  | 0, _ => ⟨0, 1, by omega, by omega, rfl, fun q hq => by cases hq⟩
  | i + 1, hi => by
    obtain ⟨u, m, h⟩ := crt_ex hp hnd i (by omega)
    exact ⟨_, _, (crt_step hp hnd (by omega) h (a := r (p.getD i 0)) rfl).2.2⟩

theorem pow_bd {i : Nat} {m : Int} (h : m ≤ 2147483648 ^ i) (hi : i ≤ 8) : m ≤ 452312848583266388373324160190187140051835877600158453279131187530910662656 := by
  have h1 : (2147483648 : Nat) ^ i ≤ 2147483648 ^ 8 := Nat.pow_le_pow_right (by omega) hi
  have h2 : ((2147483648 ^ i : Nat) : Int) ≤ ((2147483648 ^ 8 : Nat) : Int) := by exact_mod_cast h1
  rw [Int.natCast_pow] at h2
  have h3 : m ≤ ((2147483648 : Nat) : Int) ^ i := h
  have : ((2147483648 ^ 8 : Nat) : Int) = 452312848583266388373324160190187140051835877600158453279131187530910662656 := by decide
  omega

end Go.Proofs.Ytgncmjcoojmccaa
end

section
set_option linter.unusedVariables false
set_option linter.unusedSimpArgs false
set_option maxHeartbeats 8000000
set_option linter.unusedVariables false
set_option linter.unusedSimpArgs false
set_option maxRecDepth 100000
namespace Go.Proofs.Ytgncmjcoojmccaa
open Go Go.Abs Go.Abs.M Go.Proofs

theorem pchin_call {l p : List Int} {r : Int → Int} {u m : Int} {us : Bool} {ur : Abs.Rows} {ms : Bool} {mr : Abs.Rows} (hlen : l.length = p.length) (hk : p.length ≤ 8) (hl : ∀ i, i < p.length → 0 ≤ l.getD i 0 ∧ l.getD i 0 < 18446744073709551616)
    (hp : ∀ q ∈ p, Prm q) (hnd : p.Nodup) (hr : ∀ i, i < p.length → r (p.getD i 0) % p.getD i 0 = l.getD i 0 % p.getD i 0) (hc : CrtP p r u m) (iu : IsI u us ur) (im : IsI m ms mr) :
    ACall Try.prog 26 [.val (tl (W .u64 l)), .val (tl (W .u64 p))] ⟨[.val (.agg (iT us ur)), .val (.agg (iT ms mr)), .val (ti .i64 0)], [none, none]⟩ := by
  have hend : ∀ u' m' us' ur' ms' mr', CrtP (p.take p.length) r u' m' → IsI u' us' ur' → IsI m' ms' mr' → us' = us ∧ ur' = ur ∧ ms' = ms ∧ mr' = mr := fun u' m' us' ur' ms' mr' h1 h2 h3 => by
    rw [List.take_length] at h1
    have e1 : m' = m := h1.prod.trans hc.prod.symm
    subst e1
    have e2 := CrtP.unique (fun x hx => (hp x hx).ip) hnd h1 hc
    subst e2
    obtain ⟨a, b⟩ := h2.inj iu
    obtain ⟨c, d⟩ := h3.inj im
    exact ⟨a, b, c, d⟩
  have hget : ∀ i, i < p.length → Prm (p.getD i 0) ∧ p.getD i 0 ∉ p.take i := fun i hi => by
    have hg : p.getD i 0 = p[i] := by rw [List.getD_eq_getElem?_getD, List.getElem?_eq_getElem hi]; rfl
    rw [hg]
    refine ⟨hp _ (List.getElem_mem hi), fun hm => ?_⟩
    obtain ⟨j, hj, he⟩ := List.mem_iff_getElem.1 hm
    rw [List.length_take] at hj
    rw [List.getElem_take] at he
    exact absurd he (nodup_ne hnd (by omega) hi (by omega))
  have htk : ∀ i, i < p.length → p.take (i + 1) = p.take i ++ [p.getD i 0] := fun i hi => by
    rw [List.take_add_one, List.getElem?_eq_getElem hi, List.getD_eq_getElem?_getD, List.getElem?_eq_getElem hi]; rfl
  obtain ⟨lr, hlr⟩ : ∃ lr, lr = W .u64 l := ⟨_, rfl⟩
  obtain ⟨pr, hpr⟩ : ∃ pr, pr = W .u64 p := ⟨_, rfl⟩
  rw [← hlr, ← hpr]
  obtain ⟨k, hkk⟩ : ∃ k, k = p.length := ⟨_, rfl⟩
  obtain ⟨N, hN⟩ : ∃ N : Int, N = k := ⟨_, rfl⟩
  obtain ⟨us0, ur0, iu0, cu⟩ := iof_call 0 (by omega) (by omega)
  obtain ⟨ms0, mr0, im0, cm⟩ := iof_call 1 (by omega) (by omega)
  have hstep : ∀ i, i < k → ∀ u m, CrtP (p.take i) r u m → m ≤ 2147483648 ^ i → ∃ q a inv t : Int, p.getD i 0 = q ∧ l.getD i 0 = a ∧ 2 ≤ q ∧ q ≤ 2147483647 ∧ 0 ≤ a ∧ a < 18446744073709551616 ∧ nl u.natAbs ≤ 100 ∧ nl m.natAbs ≤ 100 ∧ 0 ≤ m % q ∧ m % q < q ∧ 0 ≤ u % q ∧ u % q < q ∧
      inv = (if m % q % q = 0 then 0 else (m % q) ^ (q - 2).toNat % q) ∧ 0 ≤ inv ∧ inv < q ∧ t = (a % q + q - u % q) % q * inv % q ∧ 0 ≤ t ∧ t < q ∧ nl (m * t).natAbs ≤ 100 ∧ CrtP (p.take (i + 1)) r (u + m * t) (m * q) ∧ m * q ≤ 2147483648 ^ (i + 1) := fun i hi u m hcr hm => by
    obtain ⟨s1, s2, s3⟩ := crt_step hp hnd (show i < p.length by omega) hcr (hr i (by omega))
    have q1 := s1.1
    have q2 := s1.2.1
    obtain ⟨a1, a2⟩ := hl i (by omega)
    have hm2 := pow_bd hm (by omega)
    have u0 := hcr.lo
    have u1 := hcr.hi
    generalize p.getD i 0 = q at *
    generalize l.getD i 0 = a at *
    have b1 := Int.emod_nonneg m (show q ≠ 0 by omega)
    have b2 := Int.emod_lt_of_pos m (show 0 < q by omega)
    have b3 := Int.emod_nonneg u (show q ≠ 0 by omega)
    have b4 := Int.emod_lt_of_pos u (show 0 < q by omega)
    have b5 := Int.emod_nonneg ((m % q) ^ (q - 2).toNat) (show q ≠ 0 by omega)
    have b6 := Int.emod_lt_of_pos ((m % q) ^ (q - 2).toNat) (show 0 < q by omega)
    have b7 := Int.emod_nonneg ((a % q + q - u % q) % q * ((m % q) ^ (q - 2).toNat % q)) (show q ≠ 0 by omega)
    have b8 := Int.emod_lt_of_pos ((a % q + q - u % q) % q * ((m % q) ^ (q - 2).toNat % q)) (show 0 < q by omega)
    unfold crtT at s3
    refine ⟨q, a, (m % q) ^ (q - 2).toNat % q, _, rfl, rfl, q1, q2, a1, a2, nl_le_of (by omega), nl_le_of (by omega), b1, b2, b3, b4, by rw [Int.emod_emod_of_dvd _ (Int.dvd_refl q), if_neg s2], b5, b6, rfl, b7, b8, ?_, s3, ?_⟩
    · generalize (a % q + q - u % q) % q * ((m % q) ^ (q - 2).toNat % q) % q = t at *
      have h1 : 0 ≤ m * t := Int.mul_nonneg (by omega) b7
      have h2 : m * t ≤ 452312848583266388373324160190187140051835877600158453279131187530910662656 * 2147483648 := Int.mul_le_mul hm2 (by omega) (by omega) (by omega)
      exact nl_le_of (by omega)
    · rw [Int.pow_succ]
      exact Int.mul_le_mul hm (by omega) (by omega) (Int.pow_nonneg (by omega))
  refine callZ ccOk mixed [.val, .val, .val] Try.func26 rfl rfl (by kernel_rfl) fun zwrap zadd zsub zmul zquo zrem zshl zshr zband zbor zbxor zbandn zeq zne zlt zle znot zbeq zbne zmax zmin znat zinb zofN zidx zneq znadd zdif zcut zroom zmkok zlen znth zsetr zisI zgetI zsetI zfit zpart zext zsetg zrep zwide zall zmok zmget zmset zW zth A L F hS hF => ?_
  have x0 : zofN (zlen pr) = N := by rw [hS.ofN, hS.len, hpr, W_len, hN, hkk]
  have x1 : zne (zofN (zlen lr)) (zofN (zlen pr)) = false := by rw [hS.ne, hS.ofN, hS.ofN, hS.len, hS.len, hlr, hpr, W_len, W_len, hlen]; exact decide_eq_false (by simp)
  have A1 : ∀ (i : Nat) (I : Int), I = i → zlt I N = decide (i < k) := fun i I hI => by
    rw [hS.lt]
    by_cases h : i < k
    · rw [decide_eq_true h]; exact decide_eq_true (by omega)
    · rw [decide_eq_false h]; exact decide_eq_false (by omega)
  have A2 : ∀ (i : Nat) (I : Int), I = i → i < 100 → ∃ I' : Int, I' = ((i + 1 : Nat) : Int) ∧ zwrap .i64 (zadd I 1) = I' := fun i I hI h => by
    refine ⟨_, rfl, ?_⟩
    rw [hS.add, hS.wrap, wrap_i64 (by omega) (by omega)]; omega
  have A3 : ∀ (i : Nat) (I : Int), I = i → zle 0 I = true := fun i I hI => by rw [hS.le]; exact decide_eq_true (by omega)
  have A4 : ∀ (i : Nat) (I : Int), I = i → i < k → zisI .u64 pr (znat I) = true ∧ zgetI pr (znat I) = p.getD i 0 ∧ zisI .u64 lr (znat I) = true ∧ zgetI lr (znat I) = l.getD i 0 := fun i I hI hi => by
    have e : znat I = i := by rw [hS.nat]; omega
    rw [e, hS.isI, hS.getI, hS.isI, hS.getI, hpr, hlr, W_isI, W_isI, W_getI, W_getI]
    exact ⟨decide_eq_true (by omega), rfl, decide_eq_true (by omega), rfl⟩
  have A5 : ∀ (q : Int) (t : List Int), q ∉ t → zmok (sE .u64 t) (.int .u64 q) = true ∧ zmget (sE .u64 t) (.int .u64 q) = false ∧ zmset (sE .u64 t) (.int .u64 q) (.v (.bool true)) = sE .u64 (t ++ [q]) := fun q t ht => by
    rw [hS.mok, hS.mget, hS.mset, sE_mok, sE_mget, sE_mset _ _ _ ht]
    exact ⟨rfl, decide_eq_false ht, rfl⟩
  have e1 : znot true = false := hS.not true
  cbv
  refine bF x1 ?_
  rw [x0]
  refine loopZ ccOk mixed hS (fun (m : Nat) s' => ∃ (i : Nat) (I : Int) (es : List (Value × Tree)), I = i ∧ i + m = k ∧ es = sE .u64 (p.take i) ∧ s' = chn1St lr pr N I es) (n := k) (s0 := chn1St lr pr N 0 []) (le_of ?_ ?_) rfl (by show 2 ≤ 5; omega) ?_ ?_
  · simp [leT, chn1St, mkSt, vi, vb, vl]
  · simp [leH, chn1St, mkSt]
  · exact ⟨0, 0, [], rfl, by omega, rfl, rfl⟩
  · rintro n s1 ⟨i, I, es, hI, hin, hes, hs1⟩
    have l1 := A1 i I hI
    by_cases hik : i < k
    · rw [decide_eq_true hik] at l1
      obtain ⟨b1, b2, _, _⟩ := A4 i I hI hik
      have b3 := A3 i I hI
      obtain ⟨I', hI', i1⟩ := A2 i I hI (by omega)
      obtain ⟨g1, g2⟩ := hget i (by omega)
      obtain ⟨h1, h2, h3⟩ := A5 _ _ g2
      have hes' : sE .u64 (p.take (i + 1)) = sE .u64 (p.take i ++ [p.getD i 0]) := by rw [htk i (by omega)]
      rw [← hes', ← hes] at h3
      rw [← hes] at h1 h2
      obtain ⟨es', hes2⟩ : ∃ es', es' = sE .u64 (p.take (i + 1)) := ⟨_, rfl⟩
      rw [← hes2] at h3
      have c := pprime_call (p.getD i 0) true (by have := g1.1; omega) (by have := g1.2.1; omega) ⟨fun _ => g1.pf, fun _ => rfl⟩
      obtain ⟨q, hq⟩ : ∃ q, q = p.getD i 0 := ⟨_, rfl⟩
      rw [← hq] at b2 h1 h2 h3 c
      have hn1 : n - 1 < n := by omega
      have hin' : i + 1 + (n - 1) = k := by omega
      clear A1 A2 A3 A4 A5 hend hget htk g1 g2 hes' hI hik
      subst hs1
      cbv
      refine bT (l1) ?_
      refine nd (b3) ?_
      refine nd (b1) ?_
      rw [b2]
      refine ⟨_, hS.call (c), ?_⟩
      cbv
      refine bF (e1) ?_
      refine nd (h1) ?_
      refine bF (h2) ?_
      refine nd (h1) ?_
      exact again (s' := chn1St lr pr N I' es') (m := n - 1) (by simp [leT, chn1St, mkSt, vi, vb, vl, i1]) (by simp [leH, chn1St, mkSt, h3]) rfl (by show 2 ≤ 5; omega) hn1 ⟨i + 1, I', es', hI', hin', hes2, rfl⟩
    · rw [decide_eq_false hik] at l1
      clear A5 hik hin hes hI
      subst hs1
      cbv
      refine bF (l1) ?_
      refine ⟨_, hS.call (cu), ?_⟩
      cbv
      refine ⟨_, hS.call (cm), ?_⟩
      cbv
      rw [x0]
      refine loopZ ccOk mixed hS (fun (n : Nat) s' => ∃ (i : Nat) (I u m : Int) (us : Bool) (ur : Abs.Rows) (ms : Bool) (mr : Abs.Rows), I = i ∧ i + n = k ∧ CrtP (p.take i) r u m ∧ m ≤ 2147483648 ^ i ∧ IsI u us ur ∧ IsI m ms mr ∧ s' = chn2St lr pr us ur ms mr N I) (n := k) (s0 := chn2St lr pr us0 ur0 ms0 mr0 N 0) (le_of ?_ ?_) rfl (by show 2 ≤ 11; omega) ?_ ?_
      · simp [leT, chn2St, mkSt, vi, vb, vl]
      · simp [leH, chn2St, mkSt]
      · exact ⟨0, 0, 0, 1, _, _, _, _, rfl, by omega, ⟨by omega, by omega, rfl, fun q hq => by cases hq⟩, by simp, iu0, im0, rfl⟩
      · rintro n s1 ⟨i, I, u, m, us, ur, ms, mr, hI, hin, hcr, hmb, iu, im, hs1⟩
        have l1 := A1 i I hI
        by_cases hik : i < k
        · rw [decide_eq_true hik] at l1
          obtain ⟨q, a, inv, t, hq, ha, q1, q2, a1, a2, nu, nm, b1, b2, b3, b4, hinv, v1, v2, ht, t1, t2, nt, hcr', hmb'⟩ := hstep i hik u m hcr hmb
          obtain ⟨g1, g2, g3, g4⟩ := A4 i I hI hik
          have g5 := A3 i I hI
          obtain ⟨I', hI', i1⟩ := A2 i I hI (by omega)
          rw [hq] at g2
          rw [ha] at g4
          have c1 := presidue_call (p := q) (e := m % q) im (by omega) (by omega) (by omega) rfl
          have c2 := inv_call (m % q) q q1 (by omega) b1 (by omega) inv (if m % q % q = 0 then 10 else 0) hinv rfl
          have c3 := presidue_call (p := q) (e := u % q) iu (by omega) (by omega) (by omega) rfl
          have nt2 : nl t.natAbs ≤ 2 := nl_le_of (by omega)
          have nq2 : nl q.natAbs ≤ 2 := nl_le_of (by omega)
          obtain ⟨ts, tr, it, c4⟩ := iof_call t (by omega) (by omega)
          obtain ⟨qs, qr, iq, c5⟩ := iof_call q (by omega) (by omega)
          obtain ⟨xs, xr, ix, c6⟩ := imul_call im it (by omega) (by omega)
          obtain ⟨ys, yr, iy, c7⟩ := iadd_call iu ix (by omega) (by omega)
          obtain ⟨zs, zr, iz, c8⟩ := imul_call im iq (by omega) (by omega)
          have hn1 : n - 1 < n := by omega
          have hin' : i + 1 + (n - 1) = k := by omega
          have hnx : ∃ (i : Nat) (I u m : Int) (us : Bool) (ur : Abs.Rows) (ms : Bool) (mr : Abs.Rows), I = i ∧ i + (n - 1) = k ∧ CrtP (p.take i) r u m ∧ m ≤ 2147483648 ^ i ∧ IsI u us ur ∧ IsI m ms mr ∧ chn2St lr pr ys yr zs zr N I' = chn2St lr pr us ur ms mr N I := ⟨i + 1, I', _, _, ys, yr, zs, zr, hI', hin', hcr', hmb', iy, iz, rfl⟩
          have z1 : zne q 0 = true := by rw [hS.ne]; exact decide_eq_true (by omega)
          have m1 := Int.emod_nonneg a (show q ≠ 0 by omega)
          have m2 := Int.emod_lt_of_pos a (show 0 < q by omega)
          obtain ⟨r1, hr1⟩ : ∃ r1, r1 = u % q := ⟨_, rfl⟩
          rw [← hr1] at c3 b3 b4 ht
          have z2 : zrem (zwrap .u64 (zmul (zrem (zwrap .u64 (zsub (zwrap .u64 (zadd (zrem a q) q)) r1)) q) inv)) q = t := by
            have n1 := Int.emod_nonneg (a % q + q - r1) (show q ≠ 0 by omega)
            have n2 := Int.emod_lt_of_pos (a % q + q - r1) (show 0 < q by omega)
            obtain ⟨k1, k2⟩ := mul_lt n1 n2 v1 v2 (by omega)
            have h1 : zwrap .u64 (zadd (zrem a q) q) = a % q + q := by rw [hS.wrap, hS.add, hS.rem, Int.tmod_eq_emod_of_nonneg a1, wrap_u64 (by omega) (by omega)]
            have h2 : zwrap .u64 (zsub (a % q + q) r1) = a % q + q - r1 := by rw [hS.wrap, hS.sub, wrap_u64 (by omega) (by omega)]
            have h3 : zrem (a % q + q - r1) q = (a % q + q - r1) % q := by rw [hS.rem, Int.tmod_eq_emod_of_nonneg (by omega)]
            rw [h1, h2, h3, hS.mul, hS.wrap, wrap_u64 k1 k2, hS.rem, Int.tmod_eq_emod_of_nonneg k1, ht]
          have z3 : zwrap .i64 t = t := by rw [hS.wrap, wrap_i64 (by omega) (by omega)]
          have z4 : zwrap .i64 q = q := by rw [hS.wrap, wrap_i64 (by omega) (by omega)]
          obtain ⟨r2, hr2⟩ : ∃ r2, r2 = m % q := ⟨_, rfl⟩
          rw [← hr2] at c1 c2
          generalize (if r2 % q = 0 then (10 : Int) else 0) = er at *
          clear A1 A2 A3 A4 hend hget htk hstep hq ha b1 b2 b3 b4 hinv ht nt hcr hcr' hmb hmb' m1 m2 hr1 hr2
          subst hs1
          cbv
          refine bT (l1) ?_
          refine nd (g5) ?_
          refine nd (g1) ?_
          rw [g2]
          refine ⟨_, hS.call (c1), ?_⟩
          cbv
          refine ⟨_, hS.call (c2), ?_⟩
          cbv
          refine nd (g5) ?_
          refine nd (g3) ?_
          rw [g4]
          refine nd (z1) ?_
          refine ⟨_, hS.call (c3), ?_⟩
          cbv
          refine nd (z1) ?_
          refine nd (z1) ?_
          rw [z2, z3]
          refine ⟨_, hS.call (c4), ?_⟩
          cbv
          refine ⟨_, hS.call (c6), ?_⟩
          cbv
          refine ⟨_, hS.call (c7), ?_⟩
          cbv
          rw [z4]
          refine ⟨_, hS.call (c5), ?_⟩
          cbv
          refine ⟨_, hS.call (c8), ?_⟩
          cbv
          exact again (s' := chn2St lr pr ys yr zs zr N I') (m := n - 1) (by simp [leT, chn2St, mkSt, vi, vl, i1]) (by simp [leH, chn2St, mkSt]) rfl (by show 2 ≤ 11; omega) hn1 hnx
        · rw [decide_eq_false hik] at l1
          obtain rfl : i = p.length := by omega
          obtain ⟨f1, f2, f3, f4⟩ := hend _ _ _ _ _ _ hcr iu im
          subst f1 f2 f3 f4
          clear A1 A2 A3 A4 hend hget htk hcr
          subst hs1
          cbv
          refine bF l1 ?_
          exact hF _ (ResLe.refl _)

/-- Lists of unequal lengths. -/
theorem pchin_long {l p : List Int} (hlen : l.length ≠ p.length) : ACall Try.prog 26 [.val (tl (W .u64 l)), .val (tl (W .u64 p))] ⟨[.val (.agg (iT false [])), .val (.agg (iT false [])), .val (ti .i64 1)], [none, none]⟩ := by
  obtain ⟨lr, hlr⟩ : ∃ lr, lr = W .u64 l := ⟨_, rfl⟩
  obtain ⟨pr, hpr⟩ : ∃ pr, pr = W .u64 p := ⟨_, rfl⟩
  rw [← hlr, ← hpr]
  refine callZ ccOk mixed [.val, .val, .val] Try.func26 rfl rfl (by kernel_rfl) fun zwrap zadd zsub zmul zquo zrem zshl zshr zband zbor zbxor zbandn zeq zne zlt zle znot zbeq zbne zmax zmin znat zinb zofN zidx zneq znadd zdif zcut zroom zmkok zlen znth zsetr zisI zgetI zsetI zfit zpart zext zsetg zrep zwide zall zmok zmget zmset zW zth A L F hS hF => ?_
  have x1 : zne (zofN (zlen lr)) (zofN (zlen pr)) = true := by rw [hS.ne, hS.ofN, hS.ofN, hS.len, hS.len, hlr, hpr, W_len, W_len]; exact decide_eq_true (by omega)
  cbv
  exact bT x1 (fin3w hF ⟨.v _, TLe.drop _ _, trivial⟩ ⟨.v _, TLe.drop _ _, trivial⟩ (TVLe.refl _))

/-- A list whose first element that does not fit is x: it is no prime, or it was seen. -/
theorem pchin_bad {l p good rest : List Int} {x : Int} (hlen : l.length = p.length) (hk : p.length ≤ 50) (hp : p = good ++ x :: rest) (hg : ∀ q ∈ good, Prm q) (hnd : good.Nodup) (h0 : 0 ≤ x) (h1 : x < 18446744073709551616) (hx : ¬ PF x ∨ x ∈ good) :
    ACall Try.prog 26 [.val (tl (W .u64 l)), .val (tl (W .u64 p))] ⟨[.val (.agg (iT false [])), .val (.agg (iT false [])), .val (ti .i64 1)], [none, none]⟩ := by
  have hgl : ∀ i, i < good.length → p.getD i 0 = good.getD i 0 := fun i hi => by
    rw [hp, List.getD_eq_getElem?_getD, List.getD_eq_getElem?_getD, List.getElem?_append_left hi]
  have hgx : p.getD good.length 0 = x := by
    rw [hp, List.getD_eq_getElem?_getD, List.getElem?_append_right (Nat.le_refl _)]; simp
  have hget : ∀ i, i < good.length → Prm (good.getD i 0) ∧ good.getD i 0 ∉ good.take i ∧ good.take (i + 1) = good.take i ++ [good.getD i 0] := fun i hi => by
    have hg' : good.getD i 0 = good[i] := by rw [List.getD_eq_getElem?_getD, List.getElem?_eq_getElem hi]; rfl
    rw [hg']
    refine ⟨hg _ (List.getElem_mem hi), fun hm => ?_, by rw [List.take_add_one, List.getElem?_eq_getElem hi]; rfl⟩
    obtain ⟨j, hj, he⟩ := List.mem_iff_getElem.1 hm
    rw [List.length_take] at hj
    rw [List.getElem_take] at he
    exact absurd he (nodup_ne hnd (by omega) hi (by omega))
  obtain ⟨b, hb, hbx⟩ : ∃ b : Bool, (b = true ↔ PF x) ∧ (b = false ∨ x ∈ good) := by
    rcases Classical.em (PF x) with h | h
    · exact ⟨true, ⟨fun _ => h, fun _ => rfl⟩, .inr (hx.resolve_left fun h' => h' h)⟩
    · exact ⟨false, ⟨fun h => (by cases h), fun h' => absurd h' h⟩, .inl rfl⟩
  have cx := pprime_call x b h0 (by omega) hb
  have hkl : good.length < p.length := by rw [hp, List.length_append]; simp
  obtain ⟨lr, hlr⟩ : ∃ lr, lr = W .u64 l := ⟨_, rfl⟩
  obtain ⟨pr, hpr⟩ : ∃ pr, pr = W .u64 p := ⟨_, rfl⟩
  rw [← hlr, ← hpr]
  obtain ⟨k, hkk⟩ : ∃ k, k = p.length := ⟨_, rfl⟩
  obtain ⟨N, hN⟩ : ∃ N : Int, N = k := ⟨_, rfl⟩
  clear hp hb hx
  refine callZ ccOk mixed [.val, .val, .val] Try.func26 rfl rfl (by kernel_rfl) fun zwrap zadd zsub zmul zquo zrem zshl zshr zband zbor zbxor zbandn zeq zne zlt zle znot zbeq zbne zmax zmin znat zinb zofN zidx zneq znadd zdif zcut zroom zmkok zlen znth zsetr zisI zgetI zsetI zfit zpart zext zsetg zrep zwide zall zmok zmget zmset zW zth A L F hS hF => ?_
  have x0 : zofN (zlen pr) = N := by rw [hS.ofN, hS.len, hpr, W_len, hN, hkk]
  have x1 : zne (zofN (zlen lr)) (zofN (zlen pr)) = false := by rw [hS.ne, hS.ofN, hS.ofN, hS.len, hS.len, hlr, hpr, W_len, W_len, hlen]; exact decide_eq_false (by simp)
  have A1 : ∀ (i : Nat) (I : Int), I = i → i < k → zlt I N = true := fun i I hI h => by
    rw [hS.lt]; exact decide_eq_true (by omega)
  have A2 : ∀ (i : Nat) (I : Int), I = i → i < 100 → ∃ I' : Int, I' = ((i + 1 : Nat) : Int) ∧ zwrap .i64 (zadd I 1) = I' := fun i I hI h => by
    refine ⟨_, rfl, ?_⟩
    rw [hS.add, hS.wrap, wrap_i64 (by omega) (by omega)]; omega
  have A3 : ∀ (i : Nat) (I : Int), I = i → zle 0 I = true := fun i I hI => by rw [hS.le]; exact decide_eq_true (by omega)
  have A4 : ∀ (i : Nat) (I : Int), I = i → i < k → zisI .u64 pr (znat I) = true ∧ zgetI pr (znat I) = p.getD i 0 := fun i I hI hi => by
    have e : znat I = i := by rw [hS.nat]; omega
    rw [e, hS.isI, hS.getI, hpr, W_isI, W_getI]
    exact ⟨decide_eq_true (by omega), rfl⟩
  have A5 : ∀ (q : Int) (t : List Int), zmok (sE .u64 t) (.int .u64 q) = true ∧ zmget (sE .u64 t) (.int .u64 q) = decide (q ∈ t) ∧ (q ∉ t → zmset (sE .u64 t) (.int .u64 q) (.v (.bool true)) = sE .u64 (t ++ [q])) := fun q t => by
    rw [hS.mok, hS.mget, hS.mset, sE_mok, sE_mget]
    exact ⟨rfl, rfl, fun ht => sE_mset _ _ _ ht⟩
  have e1 : znot b = !b := hS.not b
  have e1' : znot true = false := hS.not true
  cbv
  refine bF x1 ?_
  rw [x0]
  refine loopZ ccOk mixed hS (fun (m : Nat) s' => ∃ (i : Nat) (I : Int) (es : List (Value × Tree)), I = i ∧ i + m = good.length ∧ es = sE .u64 (good.take i) ∧ s' = chn1St lr pr N I es) (n := good.length) (s0 := chn1St lr pr N 0 []) (le_of ?_ ?_) rfl (by show 2 ≤ 5; omega) ?_ ?_
  · simp [leT, chn1St, mkSt, vi, vb, vl]
  · simp [leH, chn1St, mkSt]
  · exact ⟨0, 0, [], rfl, by omega, rfl, rfl⟩
  · rintro n s1 ⟨i, I, es, hI, hin, hes, hs1⟩
    have l1 := A1 i I hI (by omega)
    obtain ⟨b1, b2⟩ := A4 i I hI (by omega)
    have b3 := A3 i I hI
    by_cases hik : i < good.length
    · obtain ⟨I', hI', i1⟩ := A2 i I hI (by omega)
      obtain ⟨g1, g2, g3⟩ := hget i hik
      rw [hgl i hik] at b2
      obtain ⟨h1, h2, h3⟩ := A5 (good.getD i 0) (good.take i)
      have h3 := h3 g2
      rw [decide_eq_false g2, ← hes] at h2
      rw [← g3, ← hes] at h3
      rw [← hes] at h1
      obtain ⟨es', hes2⟩ : ∃ es', es' = sE .u64 (good.take (i + 1)) := ⟨_, rfl⟩
      rw [← hes2] at h3
      have c := pprime_call (good.getD i 0) true (by have := g1.1; omega) (by have := g1.2.1; omega) ⟨fun _ => g1.pf, fun _ => rfl⟩
      obtain ⟨q, hq⟩ : ∃ q, q = good.getD i 0 := ⟨_, rfl⟩
      rw [← hq] at b2 h1 h2 h3 c
      have hn1 : n - 1 < n := by omega
      have hin' : i + 1 + (n - 1) = good.length := by omega
      clear A1 A2 A3 A4 A5 hget hgl hgx g1 g2 g3 hI hik hbx cx e1
      subst hs1
      cbv
      refine bT (l1) ?_
      refine nd (b3) ?_
      refine nd (b1) ?_
      rw [b2]
      refine ⟨_, hS.call (c), ?_⟩
      cbv
      refine bF (e1') ?_
      refine nd (h1) ?_
      refine bF (h2) ?_
      refine nd (h1) ?_
      exact again (s' := chn1St lr pr N I' es') (m := n - 1) (by simp [leT, chn1St, mkSt, vi, vb, vl, i1]) (by simp [leH, chn1St, mkSt, h3]) rfl (by show 2 ≤ 5; omega) hn1 ⟨i + 1, I', es', hI', hin', hes2, rfl⟩
    · have hi : i = good.length := by omega
      rw [hi, hgx] at b2
      obtain ⟨h1, h2, _⟩ := A5 x (good.take i)
      rw [hi, List.take_length] at hes
      rw [hi, List.take_length, ← hes] at h1 h2
      clear A1 A2 A3 A4 A5 hget hgl hgx hI hik
      cases b with
      | false =>
        subst hs1
        cbv
        refine bT (l1) ?_
        refine nd (b3) ?_
        refine nd (b1) ?_
        rw [b2]
        refine ⟨_, hS.call (cx), ?_⟩
        cbv
        exact bT e1 (fin3w hF ⟨.v _, TLe.drop _ _, trivial⟩ ⟨.v _, TLe.drop _ _, trivial⟩ (TVLe.refl _))
      | true =>
        have hm := hbx.resolve_left (by decide)
        rw [decide_eq_true hm] at h2
        subst hs1
        cbv
        refine bT (l1) ?_
        refine nd (b3) ?_
        refine nd (b1) ?_
        rw [b2]
        refine ⟨_, hS.call (cx), ?_⟩
        cbv
        refine bF (e1) ?_
        refine nd (h1) ?_
        exact bT h2 (fin3w hF ⟨.v _, TLe.drop _ _, trivial⟩ ⟨.v _, TLe.drop _ _, trivial⟩ (TVLe.refl _))
end Go.Proofs.Ytgncmjcoojmccaa
end

section
set_option linter.unusedVariables false
set_option linter.unusedSimpArgs false
set_option maxHeartbeats 8000000
set_option linter.unusedVariables false
set_option linter.unusedSimpArgs false
set_option maxRecDepth 100000
namespace Go.Proofs.Ytgncmjcoojmccaa
open Go Go.Abs Go.Abs.M Go.Proofs

def lrbSt (xs : Bool) (xr : Abs.Rows) (xt : Bool) (xq ar : Abs.Rows) (i : Int) (pr lr : Abs.Rows) (len : Nat) : St := mkSt 158 [.junk, .junk, .junk, .junk, .junk, .junk, vb false, vb true, .c (.ptr 8 0 0), vl ar, .c (.sl 11 0 len false), .c (.sl 12 0 len false), vi .i64 i]
  [none, none, none, none, none, none, none, none, some (.var [.t (.v (.bool xs)), .t (.lst false xr), .t (.v (.bool xt)), .t (.lst false xq)]), none, none, some (.rows 1 pr true false), some (.rows 1 lr true false)]

/-- The primes that do not divide the denominator. -/
def goodP (x : Rat) (q : Int) : Bool := decide ((x.den : Int) % q ≠ 0)
def redI (x : Rat) (q : Int) : Int := x.num % q * (((x.den : Int) % q) ^ (q - 2).toNat % q) % q

theorem lprod_cop {d : Int} : ∀ {l : List Int}, (∀ q ∈ l, IPrime q ∧ d % q ≠ 0) → Int.gcd d (lprod l) = 1
  | [], _ => by show Int.gcd d 1 = 1; exact Int.gcd_one ..
  | q :: l, h => by
    have ih := lprod_cop (l := l) fun q hq => h q (.tail _ hq)
    obtain ⟨h1, h2⟩ := h q (.head _)
    show Nat.gcd d.natAbs (q * lprod l).natAbs = 1
    rw [Int.natAbs_mul]
    refine Nat.Coprime.mul_right ?_ ih
    have hc := h1.2.coprime (k := d.natAbs) fun hd => h2 (by
      have : ((q.toNat : Nat) : Int) ∣ d := Int.natAbs_dvd_natAbs.1 (by rw [Int.natAbs_natCast]; exact hd)
      rw [Int.toNat_of_nonneg (by have := h1.1; omega)] at this
      exact Int.emod_eq_zero_of_dvd this)
    rw [show q.natAbs = q.toNat by have := h1.1; omega]
    exact Nat.Coprime.symm hc

theorem reb_sol {x : Rat} {l : List Int} {u m b : Int} (hl : ∀ q ∈ l, Prm q ∧ (x.den : Int) % q ≠ 0) (hnd : l.Nodup) (hc : CrtP l (redI x) u m) (hb : RootB m b) (h1 : (x.num.natAbs : Int) ≤ b) (h2 : (x.den : Int) ≤ b) : RebSol u m x.num x.den := by
  have hn := (hb.iff (show (0 : Int) ≤ x.num.natAbs by omega)).2 h1
  have hd := (hb.iff (show (0 : Int) ≤ x.den by omega)).2 h2
  have e : (x.num.natAbs : Int) * x.num.natAbs = x.num * x.num := Int.natAbs_mul_self' _
  rw [e] at hn
  refine ⟨by have := x.den_pos; omega, hn, hd, ?_, ?_, ?_⟩
  · have := x.reduced
    show Nat.gcd x.num.natAbs (x.den : Int).natAbs = 1
    rw [Int.natAbs_natCast]; exact this
  · rw [hc.prod]
    exact lprod_cop fun q hq => ⟨(hl q hq).1.ip, (hl q hq).2⟩
  · rw [hc.prod]
    refine lprod_dvd_of (fun q hq => (hl q hq).1.ip) hnd fun q hq => ?_
    obtain ⟨g1, g2⟩ := hl q hq
    have h3 := redQ_back g1 g2
    have h4 := hc.res q hq
    have e2 : redQ q x = redI x q := rfl
    rw [e2] at h3
    have h5 := Int.emod_nonneg (x.num % q * (((x.den : Int) % q) ^ (q - 2).toNat % q)) (show q ≠ 0 by have := g1.1; omega)
    have h6 := Int.emod_lt_of_pos (x.num % q * (((x.den : Int) % q) ^ (q - 2).toNat % q)) (show 0 < q by have := g1.1; omega)
    rw [show redI x q % q = redI x q from Int.emod_eq_of_lt h5 h6] at h4
    rw [← h4] at h3
    apply Int.dvd_of_emod_eq_zero
    rw [Int.sub_emod, ← h3, Int.mul_emod u, Int.mul_emod ((x.den : Int) % q), Int.emod_emod_of_dvd _ (Int.dvd_refl q), Int.emod_emod_of_dvd _ (Int.dvd_refl q), Int.mul_comm, Int.sub_self, Int.zero_emod]

theorem lprod_bd : ∀ {l : List Int}, (∀ q ∈ l, 0 ≤ q ∧ q ≤ 2147483648) → 0 ≤ lprod l ∧ lprod l ≤ 2147483648 ^ l.length
  | [], _ => ⟨by decide, by decide⟩
  | q :: l, h => by
    obtain ⟨a, b⟩ := lprod_bd (l := l) fun x hx => h x (.tail _ hx)
    obtain ⟨c, d⟩ := h q (.head _)
    refine ⟨Int.mul_nonneg c a, ?_⟩
    show q * lprod l ≤ 2147483648 ^ (l.length + 1)
    rw [Int.pow_succ, Int.mul_comm q]
    exact Int.mul_le_mul b d c (Int.pow_nonneg (by omega))

/-- The fraction that is found (0 if there is none), its parts' rows, and what is known. -/
theorem rebres_parts {u m : Int} {X : List Tree} {b : Bool} (hm : 0 < m) (h : RebRes u m X b) : ∃ (n d : Int) (s : Bool) (r : Abs.Rows) (t : Bool) (q : Abs.Rows), X = [.v (.bool s), .lst false r, .v (.bool t), .lst false q] ∧ IsI n s r ∧ IsI d t q ∧ n.natAbs ≤ m.natAbs ∧ d.natAbs ≤ m.natAbs ∧ ∀ n' d', RebSol u m n' d' → b = true ∧ n = n' ∧ d = d' := by
  have hb : ∀ x : Int, x * x + x * x ≤ m - 1 → x.natAbs ≤ m.natAbs := fun x hx => by
    rcases Nat.lt_or_ge m.natAbs x.natAbs with g | g
    · have e : (x.natAbs : Int) * x.natAbs = x * x := Int.natAbs_mul_self' _
      have h3 : (x.natAbs : Int) * 1 ≤ x.natAbs * x.natAbs := Int.mul_le_mul_of_nonneg_left (by omega) (by omega)
      omega
    · exact g
  cases h with
  | found hs i1 i2 => exact ⟨_, _, _, _, _, _, rfl, i1, i2, hb _ hs.sn, hb _ hs.sd, fun n' d' h' => ⟨rfl, hs.unique h'⟩⟩
  | none hs => exact ⟨0, 0, false, [], false, [], rfl, ⟨rfl, rfl⟩, ⟨rfl, rfl⟩, by omega, by omega, fun n' d' h' => absurd h' (hs _ _)⟩



theorem rebuilds_call (hsan : ACall Try.prog 10 [] ⟨[.val (tb true)], []⟩) (a b c n y : Int) (a1 : -128 ≤ a) (a2 : a < 128) (b1 : -128 ≤ b) (b2 : b < 128) (c1 : 0 ≤ c) (c2 : c < 256) (h0 : 0 ≤ n) (h1 : n < 4294967296) (y0 : 0 ≤ y) (y1 : y < 256) :
    ACall Try.prog 8 [.val (.agg [.v (.int .i8 a), .v (.int .i8 b), .v (.int .u8 c)]), .val (ti .u32 n), .val (ti .u8 y)] ⟨[.val (tb true)], [none, none, none]⟩ := by
  obtain ⟨k, hk⟩ : ∃ k : Nat, (k : Int) = y % 9 := ⟨(y % 9).toNat, by omega⟩
  have hk8 : k ≤ 8 := by omega
  have cch := chosen_call n k h0 h1 (by omega)
  have hch := chsL_ok (s := n % 2147000000) (by omega) (by omega) k (by omega)
  obtain ⟨al, hal⟩ : ∃ al, al = (chsL (n % 2147000000) k).2 := ⟨_, rfl⟩
  rw [← hal] at cch
  obtain ⟨ar, har⟩ : ∃ ar, ar = W .u64 al := ⟨_, rfl⟩
  rw [← har] at cch
  obtain ⟨K, hK⟩ : ∃ K : Int, K = k := ⟨_, rfl⟩
  rw [← hK] at cch
  have hlen : al.length = k := by rw [hal]; exact hch.len
  have hprm : ∀ q ∈ al, Prm q := fun q hq => (hch.mem q (hal ▸ hq)).1
  have hnd : al.Nodup := by rw [hal]; exact hch.nd
  obtain ⟨xs, xr, xt, xq, hx, cx⟩ := rmade2_call a b c a1 a2 b1 b2 c1 c2
  have sx := madeQ_small a1 a2 b1 b2 c1 c2
  generalize madeQ a b c = x at *
  have hget : ∀ i, i < k → Prm (al.getD i 0) ∧ al.take (i + 1) = al.take i ++ [al.getD i 0] := fun i hi => by
    have hg : al.getD i 0 = al[i] := by rw [List.getD_eq_getElem?_getD, List.getElem?_eq_getElem (by omega)]; rfl
    rw [hg]
    exact ⟨hprm _ (List.getElem_mem (by omega)), by rw [List.take_add_one, List.getElem?_eq_getElem (by omega)]; rfl⟩
  have hfl : ∀ i, i < k → (al.take (i + 1)).filter (goodP x) = if (x.den : Int) % al.getD i 0 = 0 then (al.take i).filter (goodP x) else (al.take i).filter (goodP x) ++ [al.getD i 0] := fun i hi => by
    rw [(hget i hi).2, List.filter_append]
    by_cases hg : (x.den : Int) % al.getD i 0 = 0
    · rw [if_pos hg, List.filter_cons_of_neg (by unfold goodP; rw [decide_eq_false (fun h => h hg)]; decide), List.filter_nil, List.append_nil]
    · rw [if_neg hg, List.filter_cons_of_pos (by unfold goodP; exact decide_eq_true hg), List.filter_nil]
  have hred : ∀ i, i < k → ∃ q v e : Int, al.getD i 0 = q ∧ ACall Try.prog 19 [.val (.agg (iT xs xr ++ iT xt xq)), .val (ti .u64 q)] ⟨[.val (ti .u64 v), .val (ti .i64 e)], [none, none]⟩ ∧
      ((x.den : Int) % q = 0 → e = 30) ∧ ((x.den : Int) % q ≠ 0 → e = 0 ∧ v = redI x q) := fun i hi => by
    have g1 := (hget i hi).1
    have := rreduce_call (al.getD i 0) _ _ hx (sx.mono (show 8 ≤ 68719476736 by omega)) g1.1 (by have := g1.2.1; omega) rfl rfl
    exact ⟨_, _, _, rfl, this, fun h => if_pos h, fun h => ⟨if_neg h, if_neg h⟩⟩
  obtain ⟨pl, hpl⟩ : ∃ pl, pl = al.filter (goodP x) := ⟨_, rfl⟩
  have hplk : (al.take k).filter (goodP x) = pl := by rw [hpl, ← hlen, List.take_length]
  have hpl1 : ∀ q ∈ pl, Prm q ∧ (x.den : Int) % q ≠ 0 := fun q hq => by
    rw [hpl, List.mem_filter] at hq
    exact ⟨hprm q hq.1, by have := hq.2; unfold goodP at this; exact of_decide_eq_true this⟩
  have hpl2 : pl.Nodup := by rw [hpl]; exact hnd.filter _
  have hpl3 : pl.length ≤ 8 := by have := List.length_filter_le (goodP x) al; rw [hpl]; omega
  obtain ⟨u, m, hcr⟩ := crt_ex (r := redI x) (fun q hq => (hpl1 q hq).1) hpl2 pl.length (Nat.le_refl _)
  rw [List.take_length] at hcr
  have hpos : 0 < m := by have := hcr.lo; have := hcr.hi; omega
  have hmb : m ≤ 452312848583266388373324160190187140051835877600158453279131187530910662656 := by
    have := lprod_bd (l := pl) fun q hq => by
      have h1 := (hpl1 q hq).1.1
      have h2 := (hpl1 q hq).1.2.1
      omega
    exact pow_bd (by rw [hcr.prod]; exact this.2) hpl3
  have nm : nl m.natAbs ≤ 100 := nl_le_of (by omega)
  have nu : nl u.natAbs ≤ 100 := Nat.le_trans (nl_mono (by have := hcr.lo; have := hcr.hi; omega)) nm
  obtain ⟨us, ur, iu⟩ : ∃ us ur, IsI u us ur := ⟨_, _, .mk' u⟩
  obtain ⟨ms, mr, im⟩ : ∃ ms mr, IsI m ms mr := ⟨_, _, .mk' m⟩
  have hred2 : ∀ i, i < pl.length → 0 ≤ (pl.map (redI x)).getD i 0 ∧ (pl.map (redI x)).getD i 0 < 18446744073709551616 ∧ redI x (pl.getD i 0) % pl.getD i 0 = (pl.map (redI x)).getD i 0 % pl.getD i 0 := fun i hi => by
    have hg : pl.getD i 0 = pl[i] := by rw [List.getD_eq_getElem?_getD, List.getElem?_eq_getElem hi]; rfl
    have hg2 : (pl.map (redI x)).getD i 0 = redI x pl[i] := by rw [List.getD_eq_getElem?_getD, List.getElem?_map, List.getElem?_eq_getElem hi]; rfl
    have g1 := (hpl1 _ (List.getElem_mem hi)).1
    rw [hg, hg2]
    have h5 := Int.emod_nonneg (x.num % pl[i] * (((x.den : Int) % pl[i]) ^ (pl[i] - 2).toNat % pl[i])) (show pl[i] ≠ 0 by have := g1.1; omega)
    have h6 := Int.emod_lt_of_pos (x.num % pl[i] * (((x.den : Int) % pl[i]) ^ (pl[i] - 2).toNat % pl[i])) (show 0 < pl[i] by have := g1.1; omega)
    have h7 := g1.2.1
    exact ⟨h5, by unfold redI; omega, rfl⟩
  have cchn := pchin_call (l := pl.map (redI x)) (p := pl) (r := redI x) (by rw [List.length_map]) hpl3 (fun i hi => ⟨(hred2 i hi).1, (hred2 i hi).2.1⟩) (fun q hq => (hpl1 q hq).1) hpl2 (fun i hi => (hred2 i hi).2.2) hcr iu im
  have cv1 := rvalid_call iu (by omega)
  have cv2 := rvalid_call im (by omega)
  have csm := rsign_call 1 im (cmpI_gt hpos).symm
  obtain ⟨X, bb, hX⟩ := rebres_ex u m
  have cr1 := prebuild_call iu im hpos (by omega) (by omega) hX
  have cr2 := rrebuild_call iu im hpos (by omega) (by omega) hX
  obtain ⟨B, hB⟩ := rootB_ex hpos
  obtain ⟨bs, br, hbI⟩ : ∃ bs br, IsI B bs br := ⟨_, _, .mk' B⟩
  have crt := rrroot_call im hpos (by omega) hB hbI
  have hBle := hB.le hpos
  have nB : nl B.natAbs ≤ 100 := Nat.le_trans (nl_mono (by omega)) nm
  obtain ⟨nn, dd, s1', r1', t1', q1', hX1, i1', i2', hn1, hd1, hun⟩ := rebres_parts hpos hX
  have nnn : nl nn.natAbs ≤ 100 := Nat.le_trans (nl_mono hn1) nm
  have ndd : nl dd.natAbs ≤ 100 := Nat.le_trans (nl_mono hd1) nm
  have csa := rsame_call i1' i1' (by omega)
  have csb := rsame_call i2' i2' (by omega)
  rw [decide_eq_true rfl] at csa csb
  have csc := rsame_call i1' hx.n (by omega)
  have csd := rsame_call i2' hx.d (by omega)
  -- the size of the numerator
  obtain ⟨sa, ar', hab⟩ : ∃ sa ar', IsI (x.num.natAbs : Int) sa ar' := ⟨_, _, .mk' _⟩
  have nx1 := sx.1
  have nx2 := sx.2
  have cC1 := rcmp_call _ hab hbI rfl (by rw [Int.natAbs_natCast]; omega) (by omega)
  have cC2 := rcmp_call _ hx.d hbI rfl (by rw [Int.natAbs_natCast]; omega) (by omega)
  obtain ⟨C1, hC1⟩ : ∃ C1, C1 = cmpI (x.num.natAbs : Int) B := ⟨_, rfl⟩
  obtain ⟨C2, hC2⟩ : ∃ C2, C2 = cmpI (x.den : Int) B := ⟨_, rfl⟩
  rw [← hC1] at cC1
  rw [← hC2] at cC2
  have hboth : C1 ≤ 0 → C2 ≤ 0 → bb = true ∧ nn = x.num ∧ dd = (x.den : Int) := fun g1 g2 => hun _ _ (reb_sol hpl1 hpl2 hcr hB ((cmpI_le _ _).1 (hC1 ▸ g1)) ((cmpI_le _ _).1 (hC2 ▸ g2)))
  have hsgn : (∃ c : Int, 0 ≤ c ∧ ACall Try.prog 31 [.val (.agg (iT xs xr))] ⟨[.val (ti .i64 c)], [none]⟩ ∧ iT sa ar' = iT xs xr) ∨ (ACall Try.prog 31 [.val (.agg (iT xs xr))] ⟨[.val (ti .i64 (-1))], [none]⟩ ∧ ACall Try.prog 35 [.val (.agg (iT xs xr))] ⟨[.val (.agg (iT sa ar'))], [none]⟩) := by
    by_cases hneg : x.num < 0
    · right
      obtain ⟨e1, e2, hne, cne⟩ := rneg_call hx.n (by omega)
      obtain ⟨rfl, rfl⟩ := (hne.of (show -x.num = (x.num.natAbs : Int) by omega)).inj hab
      exact ⟨rsign_call (-1) hx.n (cmpI_lt hneg).symm, cne⟩
    · left
      obtain ⟨rfl, rfl⟩ := (hx.n.of (show x.num = (x.num.natAbs : Int) by omega)).inj hab
      refine ⟨_, ?_, rsign_call _ hx.n rfl, rfl⟩
      unfold cmpI
      rw [if_neg hneg]
      split <;> omega
  have hW : ∀ (lr pr : Abs.Rows) (len : Nat), pr = W .u64 pl → lr = W .u64 (pl.map (redI x)) → len = pl.length → ZI.std.fit 0 len lr = true ∧ ZI.std.fit 0 len pr = true ∧ (lr.drop 0).take len = W .u64 (pl.map (redI x)) ∧ (pr.drop 0).take len = W .u64 pl := fun lr pr len h1 h2 h3 => by
    refine ⟨?_, ?_, ?_, ?_⟩
    · show decide (0 + len ≤ lr.length) = true
      rw [h2, W_len, List.length_map]; exact decide_eq_true (by omega)
    · show decide (0 + len ≤ pr.length) = true
      rw [h1, W_len]; exact decide_eq_true (by omega)
    · rw [h2, W_part, h3, List.drop_zero, List.take_of_length_le (by rw [List.length_map]; omega)]
    · rw [h1, W_part, h3, List.drop_zero, List.take_length]
  obtain ⟨P, hP⟩ : ∃ P, P = W .u64 pl := ⟨_, rfl⟩
  obtain ⟨Q, hQ⟩ : ∃ Q, Q = W .u64 (pl.map (redI x)) := ⟨_, rfl⟩
  rw [← hP, ← hQ] at cchn
  clear hun hX hC1 hC2 hcr hpos hmb nm nu iu im hred2 hpl1 hpl2 hpl3 hB hBle nB hbI hn1 hd1 nnn ndd i1' i2' hab nx1 nx2 hprm hnd hpl
  subst hX1
  refine callZ ccOk mixed [.val] Try.func8 rfl rfl (by kernel_rfl) fun zwrap zadd zsub zmul zquo zrem zshl zshr zband zbor zbxor zbandn zeq zne zlt zle znot zbeq zbne zmax zmin znat zinb zofN zidx zneq znadd zdif zcut zroom zmkok zlen znth zsetr zisI zgetI zsetI zfit zpart zext zsetg zrep zwide zall zmok zmget zmset zW zth A L F hS hF => ?_
  have v1 : zne 0 0 = false := by rw [hS.ne]; rfl
  have v2 : znot true = false := hS.not true
  have v3 : zle 1 0 = false := by rw [hS.le]; rfl
  have v4 : ∀ c : Int, zlt c 0 = decide (c < 0) := fun c => hS.lt ..
  have v5 : ∀ c : Int, zle c 0 = decide (c ≤ 0) := fun c => hS.le ..
  have v6 : ∀ c : Bool, zbeq c c = true := fun c => by rw [hS.beq]; cases c <;> rfl
  have w1 : zwrap .i64 (zrem y 9) = K := by rw [hS.rem, hS.wrap, Int.tmod_eq_emod_of_nonneg y0, wrap_i64 (by omega) (by omega)]; omega
  have A1 : ∀ (i : Nat) (I : Int), I = i → zlt I (zofN (zlen ar)) = decide (i < k) := fun i I hI => by
    rw [hS.lt, hS.ofN, hS.len, har, W_len, hlen]
    exact decide_eq_decide.2 (by omega)
  have A2 : ∀ (i : Nat) (I : Int), I = i → i < 100 → ∃ I' : Int, I' = ((i + 1 : Nat) : Int) ∧ zwrap .i64 (zadd I 1) = I' := fun i I hI h => by
    refine ⟨_, rfl, ?_⟩
    rw [hS.add, hS.wrap, wrap_i64 (by omega) (by omega)]; omega
  have A3 : ∀ (i : Nat) (I : Int), I = i → zle 0 I = true := fun i I hI => by rw [hS.le]; exact decide_eq_true (by omega)
  have A4 : ∀ (i : Nat) (I : Int), I = i → i < k → zisI .u64 ar (znat I) = true ∧ zgetI ar (znat I) = al.getD i 0 := fun i I hI hi => by
    have e : znat I = i := by rw [hS.nat]; omega
    rw [e, hS.isI, hS.getI, har, W_isI, W_getI]
    exact ⟨decide_eq_true (by omega), rfl⟩
  have z0 : zeq 0 0 = true := by rw [hS.eq]; rfl
  have z30 : zeq 30 0 = false := by rw [hS.eq]; rfl
  cbv
  refine ⟨_, hS.call (hsan), ?_⟩
  cbv
  refine bF (hS.not _) ?_
  refine ⟨_, hS.call (cx), ?_⟩
  cbv
  rw [w1]
  refine ⟨_, hS.call (cch), ?_⟩
  cbv
  refine loopZR ccOk mixed hS (fun (m : Nat) s' => ∃ (i : Nat) (I : Int) (pr lr : Abs.Rows) (len : Nat), I = i ∧ i + m = k ∧ pr = W .u64 ((al.take i).filter (goodP x)) ∧ lr = W .u64 (((al.take i).filter (goodP x)).map (redI x)) ∧ len = ((al.take i).filter (goodP x)).length ∧ s' = lrbSt xs xr xt xq ar I pr lr len) (n := k) (s0 := lrbSt xs xr xt xq ar 0 [] [] 0) (le_of ?_ ?_) rfl (by show 3 ≤ 13; omega) ?_ ?_
  · simp [leT, lrbSt, mkSt, vi, vb, vl]
  · simp [leH, lrbSt, mkSt]
  · exact ⟨0, 0, [], [], 0, rfl, by omega, rfl, rfl, rfl, rfl⟩
  · rintro m s1 ⟨i, I, pr, lr, len, hI, him, hpr, hlr, hlen', hs1⟩
    have l1 := A1 i I hI
    by_cases hik : i < k
    · rw [decide_eq_true hik] at l1
      obtain ⟨q, v, e, hq, crd, he0, he1⟩ := hred i hik
      obtain ⟨g1, g2⟩ := A4 i I hI hik
      have g3 := A3 i I hI
      obtain ⟨I', hI', i1⟩ := A2 i I hI (by omega)
      have hf := hfl i hik
      rw [hq] at g2 hf
      have hm1 : m - 1 < m := by omega
      have him' : i + 1 + (m - 1) = k := by omega
      have hl8 : len ≤ 8 := by
        have := List.length_filter_le (goodP x) (al.take i)
        rw [List.length_take] at this
        omega
      by_cases hg : (x.den : Int) % q = 0
      · have he := he0 hg
        subst he
        rw [if_pos hg] at hf
        rw [← hf] at hpr hlr hlen'
        clear A1 A2 A3 A4 hred hfl hget he0 he1 hch
        subst hs1
        cbv
        refine bT (l1) ?_
        refine nd (g3) ?_
        refine nd (g1) ?_
        rw [g2]
        refine ⟨_, hS.call (crd), ?_⟩
        cbv
        refine bF (z30) ?_
        refine againR [] (s' := lrbSt xs xr xt xq ar I' pr lr len) (k := m - 1) ?_ ?_ ?_ ?_ rfl (by show 3 ≤ 13; omega) hm1 ⟨i + 1, I', pr, lr, len, hI', him', hpr, hlr, hlen', rfl⟩
        · simp [leTR, lrbSt, mkSt, vi, vb, vl, AV.ren, AV.noTup, Cell.ren, renF, i1]
        · simp [leHR, lrbSt, mkSt, Abs.look, renF, Blk.ren, Cell.ren]
        · simp [liveR, lrbSt, mkSt, renF]
        · simp
      · obtain ⟨rfl, hv⟩ := he1 hg
        rw [if_neg hg] at hf
        have hlenl : len = (((al.take i).filter (goodP x)).map (redI x)).length := by rw [List.length_map]; exact hlen'
        have pa0 : zpart [[Tree.v (.int .u64 q)]] 0 1 = W .u64 [q] := by rw [hS.part]; rfl
        have pa1 : zfit 0 1 [[Tree.v (.int .u64 q)]] = true := by rw [hS.fit]; rfl
        have pa2 : znot (zneq (zlen (zpart [[Tree.v (.int .u64 q)]] 0 1)) 0) = true := by rw [pa0, hS.len, hS.neq, hS.not]; rfl
        have pa3 : zwide 1 (zpart [[Tree.v (.int .u64 q)]] 0 1) = true := by rw [pa0, hS.wide]; rfl
        have pa4 : zroom len (zlen (zpart [[Tree.v (.int .u64 q)]] 0 1)) 8 = true := by rw [pa0, hS.len, hS.room]; exact decide_eq_true (by unfold capBytes; simp [W]; omega)
        have pa5 : zneq (znadd 0 len) (zlen pr) = true := by rw [hS.nadd, hS.neq, hS.len, hpr, W_len, hlen', Nat.zero_add]; exact decide_eq_true rfl
        have pa6 : znadd len (zlen (zpart [[Tree.v (.int .u64 q)]] 0 1)) = len + 1 := by rw [pa0, hS.len, hS.nadd]; rfl
        have pa7 : zext pr 0 (zpart [[Tree.v (.int .u64 q)]] 0 1) = W .u64 (((al.take i).filter (goodP x)) ++ [q]) := by rw [pa0, hS.ext, hpr, List.drop_zero]; simp [W]
        have la0 : zpart [[Tree.v (.int .u64 v)]] 0 1 = W .u64 [v] := by rw [hS.part]; rfl
        have la1 : zfit 0 1 [[Tree.v (.int .u64 v)]] = true := by rw [hS.fit]; rfl
        have la2 : znot (zneq (zlen (zpart [[Tree.v (.int .u64 v)]] 0 1)) 0) = true := by rw [la0, hS.len, hS.neq, hS.not]; rfl
        have la3 : zwide 1 (zpart [[Tree.v (.int .u64 v)]] 0 1) = true := by rw [la0, hS.wide]; rfl
        have la4 : zroom len (zlen (zpart [[Tree.v (.int .u64 v)]] 0 1)) 8 = true := by rw [la0, hS.len, hS.room]; exact decide_eq_true (by unfold capBytes; simp [W]; omega)
        have la5 : zneq (znadd 0 len) (zlen lr) = true := by rw [hS.nadd, hS.neq, hS.len, hlr, W_len, hlenl, Nat.zero_add]; exact decide_eq_true rfl
        have la6 : znadd len (zlen (zpart [[Tree.v (.int .u64 v)]] 0 1)) = len + 1 := by rw [la0, hS.len, hS.nadd]; rfl
        have la7 : zext lr 0 (zpart [[Tree.v (.int .u64 v)]] 0 1) = W .u64 ((((al.take i).filter (goodP x)).map (redI x)) ++ [v]) := by rw [la0, hS.ext, hlr, List.drop_zero]; simp [W]
        obtain ⟨pr', hpr'⟩ : ∃ pr', pr' = W .u64 ((al.take i).filter (goodP x) ++ [q]) := ⟨_, rfl⟩
        obtain ⟨lr', hlr'⟩ : ∃ lr', lr' = W .u64 (((al.take i).filter (goodP x)).map (redI x) ++ [v]) := ⟨_, rfl⟩
        rw [← hpr'] at pa7
        rw [← hlr'] at la7
        have hq1 : pr' = W .u64 ((al.take (i + 1)).filter (goodP x)) := by rw [hf]; exact hpr'
        have hq2 : lr' = W .u64 (((al.take (i + 1)).filter (goodP x)).map (redI x)) := by rw [hf, List.map_append, hlr', hv]; rfl
        have hq3 : len + 1 = ((al.take (i + 1)).filter (goodP x)).length := by rw [hf, List.length_append, hlen']; rfl
        clear A1 A2 A3 A4 hred hfl hget he0 he1 hch pa0 la0 hlenl hpr hlr hlen' hpr' hlr'
        subst hs1
        cbv
        refine bT (l1) ?_
        refine nd (g3) ?_
        refine nd (g1) ?_
        rw [g2]
        refine ⟨_, hS.call (crd), ?_⟩
        cbv
        refine bT (z0) ?_
        refine nd (g3) ?_
        refine nd (g1) ?_
        rw [g2]
        refine nd (pa1) ?_
        refine nd (pa2) ?_
        refine nd (pa3) ?_
        refine nd (pa4) ?_
        refine nd (pa5) ?_
        refine nd (la1) ?_
        refine nd (la2) ?_
        refine nd (la3) ?_
        refine nd (la4) ?_
        refine nd (la5) ?_
        refine againR [(11, 16), (12, 18)] (s' := lrbSt xs xr xt xq ar I' pr' lr' (len + 1)) (k := m - 1) ?_ ?_ ?_ ?_ rfl (by show 3 ≤ 13; omega) hm1 ⟨i + 1, I', pr', lr', len + 1, hI', him', hq1, hq2, hq3, rfl⟩
        · simp [leTR, lrbSt, mkSt, vi, vb, vl, AV.ren, AV.noTup, Cell.ren, renF, i1, pa6, la6]
        · simp [leHR, lrbSt, mkSt, Abs.look, renF, Blk.ren, Cell.ren, pa7, la7]
        · simp [liveR, lrbSt, mkSt, renF]
        · simp
    · rw [decide_eq_false hik] at l1
      obtain rfl : i = k := by omega
      rw [hplk] at hpr hlr hlen'
      obtain ⟨W1, W2, W3, W4⟩ := hW lr pr len hpr hlr hlen'
      have f1 : zfit 0 len lr = true := by rw [hS.fit]; exact W1
      have f2 : zfit 0 len pr = true := by rw [hS.fit]; exact W2
      have f3 : zpart lr 0 len = Q := by rw [hS.part, W3, hQ]
      have f4 : zpart pr 0 len = P := by rw [hS.part, W4, hP]
      clear A1 A2 A3 A4 hred hfl hget hch hW W1 W2 W3 W4 hpr hlr hlen' hP hQ
      subst hs1
      cbv
      refine bF (l1) ?_
      refine nd (f1) ?_
      refine nd (f2) ?_
      rw [f3, f4]
      refine ⟨_, hS.call (cchn), ?_⟩
      cbv
      refine bF (v1) ?_
      refine ⟨_, hS.call (cv1), ?_⟩
      cbv
      refine bF (v2) ?_
      refine ⟨_, hS.call (cv2), ?_⟩
      cbv
      refine bF (v2) ?_
      refine ⟨_, hS.call (csm), ?_⟩
      cbv
      refine bF (v3) ?_
      refine ⟨_, hS.call (cr1), ?_⟩
      cbv
      refine ⟨_, hS.call (crt), ?_⟩
      cbv
      rcases hsgn with ⟨sc, hsc, csg, E1⟩ | ⟨csg, cne⟩
      · cases E1
        have v7 : zlt sc 0 = false := by rw [v4]; exact decide_eq_false (by omega)
        refine ⟨_, hS.call (csg), ?_⟩
        cbv
        refine bF (v7) ?_
        refine ⟨_, hS.call (cC1), ?_⟩
        cbv
        refine ⟨fun g => ?_, fun g => ?_⟩
        · rw [v5] at g
          have g := of_decide_eq_true g
          refine ⟨_, hS.call (cC2), ?_⟩
          cbv
          refine ⟨fun g' => ?_, fun g' => ?_⟩
          · rw [v5] at g'
            obtain ⟨b1', b2', b3'⟩ := hboth g (of_decide_eq_true g')
            rw [decide_eq_true b2'] at csc
            rw [decide_eq_true b3'] at csd
            refine bT b1' ?_
            refine ⟨_, hS.call (csc), ?_⟩
            cbv
            refine bT (rfl) ?_
            refine ⟨_, hS.call (csd), ?_⟩
            cbv
            exact bT rfl (hF _ (ResLe.refl _))
          · clear hboth
            refine ⟨_, hS.call (cr2), ?_⟩
            cbv
            refine bT (v6 _) ?_
            refine ⟨_, hS.call (csa), ?_⟩
            cbv
            refine bT (rfl) ?_
            refine ⟨_, hS.call (csb), ?_⟩
            cbv
            exact bT rfl (hF _ (ResLe.refl _))
        · clear hboth
          refine ⟨_, hS.call (cr2), ?_⟩
          cbv
          refine bT (v6 _) ?_
          refine ⟨_, hS.call (csa), ?_⟩
          cbv
          refine bT (rfl) ?_
          refine ⟨_, hS.call (csb), ?_⟩
          cbv
          exact bT rfl (hF _ (ResLe.refl _))
      · have v7 : zlt (-1) 0 = true := by rw [v4]; rfl
        refine ⟨_, hS.call (csg), ?_⟩
        cbv
        refine bT (v7) ?_
        refine ⟨_, hS.call (cne), ?_⟩
        cbv
        refine ⟨_, hS.call (cC1), ?_⟩
        cbv
        refine ⟨fun g => ?_, fun g => ?_⟩
        · rw [v5] at g
          have g := of_decide_eq_true g
          refine ⟨_, hS.call (cC2), ?_⟩
          cbv
          refine ⟨fun g' => ?_, fun g' => ?_⟩
          · rw [v5] at g'
            obtain ⟨b1', b2', b3'⟩ := hboth g (of_decide_eq_true g')
            rw [decide_eq_true b2'] at csc
            rw [decide_eq_true b3'] at csd
            refine bT b1' ?_
            refine ⟨_, hS.call (csc), ?_⟩
            cbv
            refine bT (rfl) ?_
            refine ⟨_, hS.call (csd), ?_⟩
            cbv
            exact bT rfl (hF _ (ResLe.refl _))
          · clear hboth
            refine ⟨_, hS.call (cr2), ?_⟩
            cbv
            refine bT (v6 _) ?_
            refine ⟨_, hS.call (csa), ?_⟩
            cbv
            refine bT (rfl) ?_
            refine ⟨_, hS.call (csb), ?_⟩
            cbv
            exact bT rfl (hF _ (ResLe.refl _))
        · clear hboth
          refine ⟨_, hS.call (cr2), ?_⟩
          cbv
          refine bT (v6 _) ?_
          refine ⟨_, hS.call (csa), ?_⟩
          cbv
          refine bT (rfl) ?_
          refine ⟨_, hS.call (csb), ?_⟩
          cbv
          exact bT rfl (hF _ (ResLe.refl _))

theorem rebuilds_row (hsan : ACall Try.prog 10 [] ⟨[.val (tb true)], []⟩) (tss : List (List Tree)) (h : okAll [rawS, .int .u32, .int .u8] tss) :
    ACall Try.prog 8 ((tvs [rawS, .int .u32, .int .u8] tss).map .val) ⟨[.val (tb true)], [none, none, none]⟩ := by
  obtain ⟨_, _, rfl, hx, _, _, rfl, ⟨n, rfl, hn⟩, _, _, rfl, ⟨m, rfl, hm⟩, rfl⟩ := h
  obtain ⟨a, b, c, rfl, ha, hb, hc⟩ := rawS_ok hx
  have hn := bd_u32 hn
  have hm := bd_u8 hm
  exact rebuilds_call hsan a b c n m ha.1 ha.2 hb.1 hb.2 hc.1 hc.2 hn.1 hn.2 hm.1 hm.2
end Go.Proofs.Ytgncmjcoojmccaa
end

section
set_option linter.unusedVariables false
set_option linter.unusedSimpArgs false
set_option maxHeartbeats 4000000
set_option maxRecDepth 100000
set_option linter.unusedVariables false
set_option linter.unusedSimpArgs false
namespace Go.Proofs.Ytgncmjcoojmccaa
open Go Go.Abs Go.Proofs
noncomputable def sm : FuncId → List Abs.Mode := omOf Try.prog []
theorem ex {f : Nat} {args : List Arg} {res : Res} (n : Nat) (h : execCall Try.prog CC sm n f args = some res) : ACall Try.prog f args res := execCall_sound ccOk mixed n f args res h
/-- An integer of one word. -/
def i1 (n : Int) : List Tree := [.v (.bool false), .lst false [[.v (.int .u32 n)]]]
def i0 : List Tree := [.v (.bool false), .lst true []]
theorem s1 : execCall Try.prog CC sm 1000 11 [.val (ti .u64 7)] = some ⟨[.val (ti .u64 11), .val (ti .i64 0)], [none]⟩ := by kernel_rfl
theorem s2 : execCall Try.prog CC sm 1000 16 [.val (ti .u64 3), .val (ti .u64 7)] = some ⟨[.val (ti .u64 5), .val (ti .i64 0)], [none, none]⟩ := by kernel_rfl
theorem o1 : execCall Try.prog CC sm 1000 27 [.val (ti .i64 1)] = some ⟨[.val (.agg (i1 1))], [none]⟩ := by kernel_rfl
theorem o2 : execCall Try.prog CC sm 1000 27 [.val (ti .i64 2)] = some ⟨[.val (.agg (i1 2))], [none]⟩ := by kernel_rfl
theorem o51 : execCall Try.prog CC sm 1000 27 [.val (ti .i64 51)] = some ⟨[.val (.agg (i1 51))], [none]⟩ := by kernel_rfl
theorem o101 : execCall Try.prog CC sm 1000 27 [.val (ti .i64 101)] = some ⟨[.val (.agg (i1 101))], [none]⟩ := by kernel_rfl
theorem o4 : execCall Try.prog CC sm 1000 27 [.val (ti .i64 4)] = some ⟨[.val (.agg (i1 4))], [none]⟩ := by kernel_rfl
theorem o7 : execCall Try.prog CC sm 1000 27 [.val (ti .i64 7)] = some ⟨[.val (.agg (i1 7))], [none]⟩ := by kernel_rfl
theorem o8 : execCall Try.prog CC sm 1000 27 [.val (ti .i64 8)] = some ⟨[.val (.agg (i1 8))], [none]⟩ := by kernel_rfl
theorem o15 : execCall Try.prog CC sm 1000 27 [.val (ti .i64 15)] = some ⟨[.val (.agg (i1 15))], [none]⟩ := by kernel_rfl
theorem r1 : execCall Try.prog CC sm 1000 18 [.val (.agg (i1 1 ++ i1 2)), .val (ti .u64 7)] = some ⟨[.val (ti .u64 4), .val (ti .i64 0)], [none, none]⟩ := by kernel_rfl
theorem c1 : execCall Try.prog CC sm 1000 26 [.val (.c (.lst false [[.v (.int .u64 2)], [.v (.int .u64 3)]])), .val (.c (.lst false [[.v (.int .u64 3)], [.v (.int .u64 5)]]))] = some ⟨[.val (.agg (i1 8)), .val (.agg (i1 15)), .val (ti .i64 0)], [none, none]⟩ := by kernel_rfl
theorem b1 : execCall Try.prog CC sm 1000 33 [.val (.agg (i1 51)), .val (.agg (i1 101))] = some ⟨[.val (.agg (i1 1 ++ i1 2)), .val (tb true)], [none, none]⟩ := by kernel_rfl
theorem b2 : execCall Try.prog CC sm 1000 33 [.val (.agg (i1 4)), .val (.agg (i1 7))] = some ⟨[.val (.agg (i0 ++ i0)), .val (tb false)], [none, none]⟩ := by kernel_rfl
theorem p2 : execCall Try.prog CC sm 1000 13 [.val (ti .u64 2)] = some ⟨[.val (tb true)], [none]⟩ := by kernel_rfl
theorem p9 : execCall Try.prog CC sm 1000 13 [.val (ti .u64 9)] = some ⟨[.val (tb false)], [none]⟩ := by kernel_rfl
theorem e8 : execCall Try.prog CC sm 1000 30 [.val (.agg (i1 8)), .val (.agg (i1 8))] = some ⟨[.val (tb true)], [none, none]⟩ := by kernel_rfl
theorem e15 : execCall Try.prog CC sm 1000 30 [.val (.agg (i1 15)), .val (.agg (i1 15))] = some ⟨[.val (tb true)], [none, none]⟩ := by kernel_rfl
theorem e1 : execCall Try.prog CC sm 1000 30 [.val (.agg (i1 1)), .val (.agg (i1 1))] = some ⟨[.val (tb true)], [none, none]⟩ := by kernel_rfl
theorem e2 : execCall Try.prog CC sm 1000 30 [.val (.agg (i1 2)), .val (.agg (i1 2))] = some ⟨[.val (tb true)], [none, none]⟩ := by kernel_rfl
theorem w1 : execCall Try.prog CC sm 1000 20 [.val (ti .u64 2), .val (ti .u64 10), .val (ti .u64 1000)] = some ⟨[.val (ti .u64 24)], [none, none, none]⟩ := by kernel_rfl
end Go.Proofs.Ytgncmjcoojmccaa
end

section
set_option linter.unusedVariables false
set_option linter.unusedSimpArgs false
set_option linter.unusedVariables false
set_option linter.unusedSimpArgs false
set_option maxHeartbeats 4000000
set_option maxRecDepth 100000
namespace Go.Proofs.Ytgncmjcoojmccaa
open Go Go.Abs Go.Proofs
theorem sanity_call : ACall Try.prog 10 [] ⟨[.val (tb true)], []⟩ := by
  refine callZ ccOk mixed [.val] Try.func10 rfl rfl (by kernel_rfl) fun zwrap zadd zsub zmul zquo zrem zshl zshr zband zbor zbxor zbandn zeq zne zlt zle znot zbeq zbne zmax zmin znat zinb zofN zidx zneq znadd zdif zcut zroom zmkok zlen znth zsetr zisI zgetI zsetI zfit zpart zext zsetg zrep zwide zall zmok zmget zmset zW zth A L F hS hF => ?_
  cbv
  refine ⟨_, hS.call (ex _ s1), ?_⟩
  cbv
  refine ⟨_, hS.call (ex _ s2), ?_⟩
  cbv
  refine ⟨_, hS.call (ex _ o1), ?_⟩
  cbv
  refine ⟨_, hS.call (ex _ o2), ?_⟩
  cbv
  refine ⟨_, hS.call (ex _ r1), ?_⟩
  cbv
  refine nd (hS.fit ..) (nd (hS.fit ..) ?_)
  rw [hS.part, hS.part]
  refine ⟨_, hS.call (ex _ c1), ?_⟩
  cbv
  refine ⟨_, hS.call (ex _ o51), ?_⟩
  cbv
  refine ⟨_, hS.call (ex _ o101), ?_⟩
  cbv
  refine ⟨_, hS.call (ex _ b1), ?_⟩
  cbv
  refine ⟨_, hS.call (ex _ o4), ?_⟩
  cbv
  refine ⟨_, hS.call (ex _ o7), ?_⟩
  cbv
  refine ⟨_, hS.call (ex _ b2), ?_⟩
  cbv
  have z0 : zeq 0 0 = true := by rw [hS.eq]; rfl
  refine bT z0 (bT z0 (bT z0 (bT z0 ?_)))
  refine ⟨_, hS.call (ex _ p2), ?_⟩
  cbv
  refine bT rfl ?_
  refine ⟨_, hS.call (ex _ p9), ?_⟩
  cbv
  refine bT (hS.not _) ?_
  refine bT (by rw [hS.eq]; rfl) (bT (by rw [hS.eq]; rfl) (bT (by rw [hS.eq]; rfl) ?_))
  refine ⟨_, hS.call (ex _ o8), ?_⟩
  cbv
  refine ⟨_, hS.call (ex _ e8), ?_⟩
  cbv
  refine bT rfl ?_
  refine ⟨_, hS.call (ex _ o15), ?_⟩
  cbv
  refine ⟨_, hS.call (ex _ e15), ?_⟩
  cbv
  refine bT rfl (bT rfl ?_)
  refine ⟨_, hS.call (ex _ o1), ?_⟩
  cbv
  refine ⟨_, hS.call (ex _ e1), ?_⟩
  cbv
  refine bT rfl ?_
  refine ⟨_, hS.call (ex _ o2), ?_⟩
  cbv
  refine ⟨_, hS.call (ex _ e2), ?_⟩
  cbv
  refine bT rfl (bT (hS.not _) ?_)
  refine ⟨_, hS.call (ex _ w1), ?_⟩
  cbv
  exact fin1 hF (tv_bool (by rw [hS.eq]; rfl))
end Go.Proofs.Ytgncmjcoojmccaa
end

