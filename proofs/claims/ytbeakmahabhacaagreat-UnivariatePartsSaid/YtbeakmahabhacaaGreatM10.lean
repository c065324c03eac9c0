/-
  A part of the proof: IntJ7p, IntK7p, CanU, ValI7p, RefM7p, ValQ7p, UniU, QraA7p, RefQ7p, QsM7p, UniV7p, GabsRen, UniW7p, UniX7p, UniA7p, QraB7p, QrbA7p, UnpA7p, UnpB7p, UnpC7p, UnpD7p, UnpE7p, UnpF7p, UnpG7p, UnpH7p, UniR, RusA7p, EvU, UplA7p, EvlA7p, EvD, EvlB7p, CfU, DvM7p, EvlC7p, PolT7p, DmT7p, GcdM7p, GcdN7p, GcdP7p, BezT7p, BezP7p, UplB7p.
-/
import Derived.Test.YtbeakmahabhacaaGreatM9
set_option maxHeartbeats 0
set_option maxRecDepth 100000
set_option linter.unusedVariables false
set_option linter.unusedSimpArgs false
set_option linter.unusedSectionVars false
section
namespace Go.Proofs.YtbeakmahabhacaaGreat
open Go Go.Abs Go.Abs.M Go.Proofs
def IsS (x : Int) (s : Bool) (r : Abs.Rows) : Prop := IsM x.natAbs r /\ ((s = true -> x <= 0) /\ (s = false -> 0 <= x))
theorem IsS.of {x : Int} {s : Bool} {r : Abs.Rows} (h : IsI x s r) : IsS x s r := by
 refine ⟨h.m, fun hs => ?_, fun hs => ?_⟩
 ·rw [h.s] at hs; have := of_decide_eq_true hs; omega
 ·rw [h.s] at hs; have := of_decide_eq_false hs; omega
theorem IsS.neg {x : Int} {s : Bool} {r : Abs.Rows} (h : IsS x s r) : IsS (-x) (!s) r := by
 obtain ⟨h1, h2, h3⟩ := h
 refine ⟨by rw [Int.natAbs_neg]; exact h1, fun hs => ?_, fun hs => ?_⟩
 ·have := h3 (by simpa using hs); omega
 ·have := h2 (by simpa using hs); omega
theorem isignedS {x : Int} {r : Abs.Rows} (s : Bool) (hx : IsS x s r) (hl : nl x.natAbs <= 2199023255552) : ∃ u, IsI x u r /\ ACall Tryz.prog 80 [.val (tb s), .val (tl r)] ⟨[.val (.agg (iT u r))], [none, none]⟩ := by
 obtain ⟨h1, h2, h3⟩ := hx
 refine ⟨decide (x < 0), ⟨rfl, h1⟩, isignedM s _ h1 hl ?_⟩
 cases s with
 | true => have := h2 rfl; rw [Bool.true_and, Bool.eq_iff_iff]; simp; omega
 | false => have := h3 rfl; rw [Bool.false_and]; exact decide_eq_false (by omega)
theorem iof_call (n : Int) (h1 : -9223372036854775808 <= n) (h2 : n < 9223372036854775808) : ∃ u w, IsI n u w /\ ACall Tryz.prog 62 [.val (ti .i64 n)] ⟨[.val (.agg (iT u w))], [none]⟩ := by
 obtain ⟨w, hw⟩ : ∃ w, IsM n.natAbs w := ⟨_, rfl⟩
 have hl : nl n.natAbs <= 2 := qam (by omega)
 have hwords := iwords_call n.natAbs (by omega) (by omega)
 rw [Int.toNat_natCast, show W .u32 (dg n.natAbs) = w from hw.symm] at hwords
 obtain ⟨u, hu, cs⟩ := isignedS (x := n) (decide (n < 0)) ⟨hw, fun h => by have := of_decide_eq_true h; omega, fun h => by have := of_decide_eq_false h; omega⟩ (by omega)
 refine ⟨u, w, hu, ?_⟩
 obtain ⟨M, hM⟩ : ∃ M : Int, M = n.natAbs := ⟨_, rfl⟩
 obtain ⟨D, hD⟩ : ∃ D, D = decide (n < 0) := ⟨_, rfl⟩
 rw [<- hM] at hwords
 rw [<- hD] at cs
 refine callZ ccOk mixed [.val] Tryz.func62 rfl rfl (by kernel_rfl) fun zA zB zC zD zE zF zG zH zI zJ zK zL zM zN zO zP zQ zR zS zT zU zV zX zY zZ za zb zc zd ze zg zh zi zj zk zl zm zn zo zq zr zt zu zw zx zy zz zW zth A L F hS hF => ?_
 have hlt : zO n 0 = D := by rw [hD]; exact hS.lt ..
 have e1 : D = true -> zA .u64 (zC 0 (zA .u64 n)) = M := fun h => by
  rw [hD] at h
  have := of_decide_eq_true h
  rw [hS.wrap, hS.wrap, hS.sub, qby, qby]; omega
 have e2 : D = false -> zA .u64 n = M := fun h => by
  rw [hD] at h
  have := of_decide_eq_false h
  rw [hS.wrap, qaa (by omega) (by omega)]; omega
 clear hM hD hw hl hu
 cbv
 rw [hlt]
 refine ⟨fun h => ?_, fun h => ?_⟩
 ·rw [e1 h]
  refine ⟨_, hS.call (hwords), ?_⟩
  cbv
  refine ⟨_, hS.call (cs), ?_⟩
  cbv
  exact hF _ (ResLe.refl _)
 ·rw [e2 h]
  refine ⟨_, hS.call (hwords), ?_⟩
  cbv
  refine ⟨_, hS.call (cs), ?_⟩
  cbv
  exact hF _ (ResLe.refl _)
theorem isign_call {x : Int} {s : Bool} {r : Abs.Rows} (c : Int) (hx : IsI x s r) (hc : c = cmpI x 0) : ACall Tryz.prog 64 [.val (.agg (iT s r))] ⟨[.val (ti .i64 c)], [none]⟩ := by
 have hl : r.length = nl x.natAbs := hx.m.len
 have hz := @nl_zero x.natAbs
 refine callZ ccOk mixed [.val] Tryz.func64 rfl rfl (by kernel_rfl) fun zA zB zC zD zE zF zG zH zI zJ zK zL zM zN zO zP zQ zR zS zT zU zV zX zY zZ za zb zc zd ze zg zh zi zj zk zl zm zn zo zq zr zt zu zw zx zy zz zW zth A L F hS hF => ?_
 have e1 : zM (zY (zh r)) 0 = decide (x = 0) := by
  rw [hS.eq, hS.ofN, hS.len, hl]
  by_cases h : x = 0
  ·rw [decide_eq_true h]; exact decide_eq_true (by omega)
  ·rw [decide_eq_false h]; exact decide_eq_false (by omega)
 cbv
 rw [e1]
 refine ⟨fun h => fin1 hF (qa8 ?_), fun h => ⟨fun h' => fin1 hF (qa8 ?_), fun h' => fin1 hF (qa8 ?_)⟩⟩
 ·rw [hc, of_decide_eq_true h]; rfl
 ·rw [hx.s] at h'; rw [hc, cmpI_lt (of_decide_eq_true h')]
 ·rw [hx.s] at h'
  have := of_decide_eq_false h'
  have := of_decide_eq_false h
  rw [hc, cmpI_gt (by omega)]
theorem ineg_call {x : Int} {s : Bool} {r : Abs.Rows} (hx : IsI x s r) (h1 : nl x.natAbs <= 2199023255552) : ∃ u w, IsI (-x) u w /\ ACall Tryz.prog 65 [.val (.agg (iT s r))] ⟨[.val (.agg (iT u w))], [none]⟩ := by
 have cl := iclone_call hx.m (by unfold nl at h1; omega)
 obtain ⟨u, hu, cs⟩ := isignedS (!s) (IsS.of hx).neg (by rw [Int.natAbs_neg]; exact h1)
 refine ⟨u, r, hu, ?_⟩
 refine callZ ccOk mixed [.val] Tryz.func65 rfl rfl (by kernel_rfl) fun zA zB zC zD zE zF zG zH zI zJ zK zL zM zN zO zP zQ zR zS zT zU zV zX zY zZ za zb zc zd ze zg zh zi zj zk zl zm zn zo zq zr zt zu zw zx zy zz zW zth A L F hS hF => ?_
 have e : zQ s = !s := hS.not s
 cbv
 refine ⟨_, hS.call (cl), ?_⟩
 cbv
 rw [e]
 refine ⟨_, hS.call (cs), ?_⟩
 cbv
 exact hF _ (ResLe.refl _)
theorem iadd_callS {x y : Int} {s t : Bool} {r q : Abs.Rows} (hx : IsS x s r) (hy : IsS y t q) (h1 : nl x.natAbs <= 549755813888) (h2 : nl y.natAbs <= 549755813888) :
  ∃ u w, IsI (x + y) u w /\ ACall Tryz.prog 82 [.val (.agg (iT s r)), .val (.agg (iT t q))] ⟨[.val (.agg (iT u w))], [none, none]⟩ := by
 have hb : nl (x + y).natAbs <= 1099511627776 := by
  have a := qau (show (x + y).natAbs <= x.natAbs + y.natAbs by omega)
  have b := nl_add x.natAbs y.natAbs
  omega
 obtain ⟨w, hw⟩ : ∃ w, IsM (x + y).natAbs w := ⟨_, rfl⟩
 obtain ⟨xm, xs, xs'⟩ := hx
 obtain ⟨ym, ys, ys'⟩ := hy
 by_cases hst : s = t
 ·have ca := isum_call xm ym (by unfold nl at h1; omega) (by unfold nl at h2; omega) (qas _) (qas _)
  simp only [qae] at ca
  have e1 : W .u32 (dg ((x.natAbs : Int) + y.natAbs).toNat) = w := by
   rw [hw]; congr 2
   subst hst
   cases s with
   | true => have := xs rfl; have := ys rfl; omega
   | false => have := xs' rfl; have := ys' rfl; omega
  rw [e1] at ca
  obtain ⟨u, hu, cs⟩ := isignedS (x := x + y) s ⟨hw, fun h => by subst hst; have := xs h; have := ys h; omega, fun h => by subst hst; have := xs' h; have := ys' h; omega⟩ (by omega)
  refine ⟨u, w, hu, ?_⟩
  refine callZ ccOk mixed [.val] Tryz.func82 rfl rfl (by kernel_rfl) fun zA zB zC zD zE zF zG zH zI zJ zK zL zM zN zO zP zQ zR zS zT zU zV zX zY zZ za zb zc zd ze zg zh zi zj zk zl zm zn zo zq zr zt zu zw zx zy zz zW zth A L F hS hF => ?_
  have e : zR s t = true := by rw [hS.beq]; simpa using hst
  cbv
  refine bT (e) ?_
  refine ⟨_, hS.call (ca), ?_⟩
  cbv
  refine ⟨_, hS.call (cs), ?_⟩
  cbv
  exact hF _ (ResLe.refl _)
 ·have cc := icompare_call (cmpI x.natAbs y.natAbs) xm ym (by unfold nl at h1; omega) (by unfold nl at h2; omega) (qas _) (qas _) (dg_tr _) (dg_tr _) (by rw [qae, qae])
  by_cases hlt : x.natAbs < y.natAbs
  ·have c := idifference_call ym xm (by unfold nl at h2; omega) (show nl x.natAbs <= nl y.natAbs from qau (by omega)) (qas _) (qas _) (by rw [qae, qae]; omega)
   simp only [qae] at c
   have e1 : W .u32 (dg ((y.natAbs : Int) - x.natAbs).toNat) = w := by
    rw [hw]; congr 2
    cases s <;> cases t <;> first | exact absurd rfl hst | skip
    ·have := xs' rfl; have := ys rfl; omega
    ·have := xs rfl; have := ys' rfl; omega
   rw [e1] at c
   obtain ⟨u, hu, cs⟩ := isignedS (x := x + y) t ⟨hw, fun h => by
    cases s <;> cases t <;> first | exact absurd rfl hst | (cases h; done) | skip
    have := xs' rfl; have := ys rfl; omega, fun h => by
    cases s <;> cases t <;> first | exact absurd rfl hst | (cases h; done) | skip
    have := xs rfl; have := ys' rfl; omega⟩ (by omega)
   rw [cmpI_lt (by omega)] at cc
   refine ⟨u, w, hu, ?_⟩
   refine callZ ccOk mixed [.val] Tryz.func82 rfl rfl (by kernel_rfl) fun zA zB zC zD zE zF zG zH zI zJ zK zL zM zN zO zP zQ zR zS zT zU zV zX zY zZ za zb zc zd ze zg zh zi zj zk zl zm zn zo zq zr zt zu zw zx zy zz zW zth A L F hS hF => ?_
   have e : zR s t = false := by rw [hS.beq]; simpa using hst
   have e2 : zP 0 (-1) = false := by rw [hS.le]; rfl
   cbv
   refine bF (e) ?_
   refine ⟨_, hS.call (cc), ?_⟩
   cbv
   refine bF (e2) ?_
   refine ⟨_, hS.call (c), ?_⟩
   cbv
   refine ⟨_, hS.call (cs), ?_⟩
   cbv
   exact hF _ (ResLe.refl _)
  ·have c := idifference_call xm ym (by unfold nl at h1; omega) (show nl y.natAbs <= nl x.natAbs from qau (by omega)) (qas _) (qas _) (by rw [qae, qae]; omega)
   simp only [qae] at c
   have e1 : W .u32 (dg ((x.natAbs : Int) - y.natAbs).toNat) = w := by
    rw [hw]; congr 2
    cases s <;> cases t <;> first | exact absurd rfl hst | skip
    ·have := xs' rfl; have := ys rfl; omega
    ·have := xs rfl; have := ys' rfl; omega
   rw [e1] at c
   obtain ⟨u, hu, cs⟩ := isignedS (x := x + y) s ⟨hw, fun h => by
    cases s <;> cases t <;> first | exact absurd rfl hst | (cases h; done) | skip
    have := xs rfl; have := ys' rfl; omega, fun h => by
    cases s <;> cases t <;> first | exact absurd rfl hst | (cases h; done) | skip
    have := xs' rfl; have := ys rfl; omega⟩ (by omega)
   obtain ⟨v, hv, hv0⟩ : ∃ v, cmpI (x.natAbs : Int) y.natAbs = v /\ 0 <= v := ⟨_, rfl, by
    unfold cmpI
    rw [if_neg (by omega)]
    split <;> omega⟩
   rw [hv] at cc
   refine ⟨u, w, hu, ?_⟩
   refine callZ ccOk mixed [.val] Tryz.func82 rfl rfl (by kernel_rfl) fun zA zB zC zD zE zF zG zH zI zJ zK zL zM zN zO zP zQ zR zS zT zU zV zX zY zZ za zb zc zd ze zg zh zi zj zk zl zm zn zo zq zr zt zu zw zx zy zz zW zth A L F hS hF => ?_
   have e : zR s t = false := by rw [hS.beq]; simpa using hst
   have e2 : zP 0 v = true := by rw [hS.le]; exact decide_eq_true hv0
   cbv
   refine bF (e) ?_
   refine ⟨_, hS.call (cc), ?_⟩
   cbv
   refine bT (e2) ?_
   refine ⟨_, hS.call (c), ?_⟩
   cbv
   refine ⟨_, hS.call (cs), ?_⟩
   cbv
   exact hF _ (ResLe.refl _)
theorem iadd_call {x y : Int} {s t : Bool} {r q : Abs.Rows} (hx : IsI x s r) (hy : IsI y t q) (h1 : nl x.natAbs <= 549755813888) (h2 : nl y.natAbs <= 549755813888) :
  ∃ u w, IsI (x + y) u w /\ ACall Tryz.prog 82 [.val (.agg (iT s r)), .val (.agg (iT t q))] ⟨[.val (.agg (iT u w))], [none, none]⟩ := iadd_callS (.of hx) (.of hy) h1 h2
theorem imul_call {x y : Int} {s t : Bool} {r q : Abs.Rows} (hx : IsI x s r) (hy : IsI y t q) (h1 : nl x.natAbs <= 549755813888) (h2 : nl y.natAbs <= 549755813888) :
  ∃ u w, IsI (x * y) u w /\ ACall Tryz.prog 79 [.val (.agg (iT s r)), .val (.agg (iT t q))] ⟨[.val (.agg (iT u w))], [none, none]⟩ := by
 obtain ⟨w, hw⟩ : ∃ w, IsM (x * y).natAbs w := ⟨_, rfl⟩
 have hb : nl (x * y).natAbs <= 1099511627776 := by
  rw [Int.natAbs_mul]
  have b := qbg x.natAbs y.natAbs
  omega
 have hs := hx.s
 have ht := hy.s
 have c := iproduct_call hx.m hy.m (by unfold nl at h1; omega) (by unfold nl at h2; omega) (qas _) (qas _)
 simp only [qae] at c
 have e1 : W .u32 (dg ((x.natAbs : Int) * y.natAbs).toNat) = w := by
  rw [hw]; congr 2
  rw [Int.natAbs_mul]
  have : ((x.natAbs : Int) * y.natAbs) = ((x.natAbs * y.natAbs : Nat) : Int) := by push_cast; rfl
  omega
 rw [e1] at c
 obtain ⟨u, hu, cs⟩ := isignedS (x := x * y) (!(s == t)) ⟨hw, fun h => by
   rw [hs, ht] at h
   by_cases h1 : x < 0 <;> by_cases h2 : y < 0 <;> simp [h1, h2] at h
   ·exact Int.mul_nonpos_of_nonpos_of_nonneg (by omega) (by omega)
   ·exact Int.mul_nonpos_of_nonneg_of_nonpos (by omega) (by omega), fun h => by
   rw [hs, ht] at h
   by_cases h1 : x < 0 <;> by_cases h2 : y < 0 <;> simp [h1, h2] at h
   ·exact Int.mul_nonneg_of_nonpos_of_nonpos (by omega) (by omega)
   ·exact Int.mul_nonneg (by omega) (by omega)⟩ (by omega)
 refine ⟨u, w, hu, ?_⟩
 refine callZ ccOk mixed [.val] Tryz.func79 rfl rfl (by kernel_rfl) fun zA zB zC zD zE zF zG zH zI zJ zK zL zM zN zO zP zQ zR zS zT zU zV zX zY zZ za zb zc zd ze zg zh zi zj zk zl zm zn zo zq zr zt zu zw zx zy zz zW zth A L F hS hF => ?_
 have e : zS s t = !(s == t) := hS.bne s t
 cbv
 refine ⟨_, hS.call (c), ?_⟩
 cbv
 rw [e]
 refine ⟨_, hS.call (cs), ?_⟩
 cbv
 exact hF _ (ResLe.refl _)
open Go Go.Abs Go.Abs.M Go.Proofs
theorem idivmod_call {x y : Int} {s t : Bool} {r q : Abs.Rows} (hx : IsI x s r) (hy : IsI y t q) (hy0 : y ≠ 0) (h1 : nl x.natAbs <= 274877906944) (h2 : nl y.natAbs <= 274877906944) :
  ∃ u w p, IsI (x / y) u w /\ IsI (x % y) false p /\ ACall Tryz.prog 78 [.val (.agg (iT s r)), .val (.agg (iT t q))] ⟨[.val (.agg (iT u w)), .val (.agg (iT false p)), .val (ti .i64 0)], [none, none]⟩ := by
 obtain ⟨a1, a2, ha1, ha2, cd⟩ := idivide_call hx.m hy.m (by omega) (by omega) (by omega)
 obtain ⟨m1, m2, m3⟩ := divmod_abs (x := x) hy0
 obtain ⟨u, hu⟩ : ∃ u, u = decide (x / y < 0) := ⟨_, rfl⟩
 obtain ⟨w, hw⟩ : ∃ w, IsM (x / y).natAbs w := ⟨_, rfl⟩
 obtain ⟨p, hp⟩ : ∃ p, IsM (x % y).natAbs p := ⟨_, rfl⟩
 have hmod0 := Int.emod_nonneg x hy0
 have hyn : y.natAbs ≠ 0 := by omega
 have hdle : x.natAbs / y.natAbs <= x.natAbs := Nat.div_le_self ..
 have hmlt : x.natAbs % y.natAbs < y.natAbs := Nat.mod_lt _ (by omega)
 have hs := hx.s
 have ht := hy.s
 have hbq : nl (x / y).natAbs <= 549755813888 := by
  have a := qau (show (x / y).natAbs <= x.natAbs + 1 by
   by_cases h : x < 0 /\ x.natAbs % y.natAbs ≠ 0
   ·have := (m2 h).1; omega
   ·have := (m1 h).1; omega)
  have b := nl_add x.natAbs 1
  have c : nl 1 <= 1 := qam (by omega)
  omega
 have hbr : nl (x % y).natAbs <= 549755813888 := by
  have a := qau (show (x % y).natAbs <= y.natAbs by
   by_cases h : x < 0 /\ x.natAbs % y.natAbs ≠ 0
   ·have := (m2 h).2; omega
   ·have := (m1 h).2; omega)
  omega
 have cm1 := isignedM (!(s == t)) u hw (by omega) (by
  rw [hu, hs, ht, Bool.eq_iff_iff]
  by_cases h : x < 0 <;> by_cases h' : y < 0 <;> simp [h, h'] at m3 ⊢ <;> omega)
 have cm2 := isignedM false false hp (by omega) rfl
 have hql : q.length = nl y.natAbs := hy.m.len
 have hql0 : nl y.natAbs ≠ 0 := fun h => hyn (nl_zero.1 h)
 have ha2l : a2.length = nl (x.natAbs % y.natAbs) := ha2.len
 have ha2z := @nl_zero (x.natAbs % y.natAbs)
 have ctr := itrimM hy.m (by omega)
 refine ⟨u, w, p, ⟨hu, hw⟩, ⟨(decide_eq_false (by omega)).symm, hp⟩, ?_⟩
 by_cases hc : x < 0 /\ x.natAbs % y.natAbs ≠ 0
 ·obtain ⟨n1, n2⟩ := m2 hc
  have ca := isum_call (s := W .u32 [1]) ha1 rfl (by have := qau hdle; unfold nl at *; omega) (by simp) (qas _) (Wd.cons (by omega) (by omega) Wd.nil)
  have ct := idifference_call hy.m ha2 (by unfold nl at *; omega) (by have := qau (Nat.le_of_lt hmlt); unfold nl at *; omega) (qas _) (qas _) (by rw [qae, qae]; omega)
  rw [qae, qae] at ct
  rw [qae, show val [1] = 1 from rfl] at ca
  have e1 : W .u32 (dg (((x.natAbs / y.natAbs : Nat) : Int) + 1).toNat) = w := by rw [hw]; congr 2; omega
  have e2 : W .u32 (dg ((y.natAbs : Int) - ((x.natAbs % y.natAbs : Nat) : Int)).toNat) = p := by rw [hp]; congr 2; omega
  rw [e1] at ca
  rw [e2] at ct
  have hs' : s = true := by rw [hs]; exact decide_eq_true hc.1
  subst hs'
  clear m1 m2 m3 hbq hbr
  refine callZ ccOk mixed [.val, .val, .val] Tryz.func78 rfl rfl (by kernel_rfl) fun zA zB zC zD zE zF zG zH zI zJ zK zL zM zN zO zP zQ zR zS zT zU zV zX zY zZ za zb zc zd ze zg zh zi zj zk zl zm zn zo zq zr zt zu zw zx zy zz zW zth A L F hS hF => ?_
  have z1 : zM (zY (zh q)) 0 = false := by rw [hS.len, hql, hS.ofN, hS.eq]; exact decide_eq_false (by omega)
  have z2 : zO 0 (zY (zh a2)) = true := by rw [hS.len, ha2l, hS.ofN, hS.lt]; exact decide_eq_true (by omega)
  have z3 : zo [[.v (.int .u32 1)]] 0 1 = W .u32 [1] := by rw [hS.part]; rfl
  have z4 : zn 0 1 [[.v (.int .u32 1)]] = true := by rw [hS.fit]; rfl
  cbv
  refine ⟨_, hS.call ctr, ?_⟩
  cbv
  refine bF z1 ⟨_, hS.call cd, ?_⟩
  cbv
  refine bT rfl (bT z2 (nd z4 ?_))
  rw [z3]
  refine ⟨_, hS.call ca, ?_⟩
  cbv
  refine ⟨_, hS.call ct, ?_⟩
  cbv
  rw [hS.bne]
  refine ⟨_, hS.call cm1, ?_⟩
  cbv
  refine ⟨_, hS.call cm2, ?_⟩
  cbv
  exact hF _ (ResLe.refl _)
 ·obtain ⟨n1, n2⟩ := m1 hc
  obtain rfl : w = a1 := by rw [hw, ha1, n1]
  obtain rfl : p = a2 := by rw [hp, ha2, n2]; rfl
  clear m1 m2 m3 hbq hbr
  refine callZ ccOk mixed [.val, .val, .val] Tryz.func78 rfl rfl (by kernel_rfl) fun zA zB zC zD zE zF zG zH zI zJ zK zL zM zN zO zP zQ zR zS zT zU zV zX zY zZ za zb zc zd ze zg zh zi zj zk zl zm zn zo zq zr zt zu zw zx zy zz zW zth A L F hS hF => ?_
  have z1 : zM (zY (zh q)) 0 = false := by rw [hS.len, hql, hS.ofN, hS.eq]; exact decide_eq_false (by omega)
  have z2 : s = true -> zO 0 (zY (zh p)) = false := fun h => by
   rw [hS.len, ha2l, hS.ofN, hS.lt]
   rw [h] at hs
   have := of_decide_eq_true hs.symm
   exact decide_eq_false (by omega)
  have fin := hS.call cm1
  cbv
  refine ⟨_, hS.call ctr, ?_⟩
  cbv
  refine bF z1 ⟨_, hS.call cd, ?_⟩
  cbv
  refine ⟨fun h => bF (z2 h) ?_, fun h => ?_⟩
  all_goals
   rw [hS.bne]
   refine ⟨_, fin, ?_⟩
   cbv
   refine ⟨_, hS.call cm2, ?_⟩
   cbv
   exact hF _ (ResLe.refl _)
def ivalSt (r : Abs.Rows) (m len i : Int) : St := mkSt 22 [vl r, .junk, vi .u64 0, vi .u64 m, .junk, .junk, vi .i64 len, vi .i64 i] [none]
theorem ivalue_call {l : List Int} {r : Abs.Rows} (n : Int) (hr : r = W .u32 l) (hl : l.length <= 2) (hw : Wd l) (hn : n = val l) : ACall Tryz.prog 92 [.val (tl r)] ⟨[.val (ti .u64 n)], [none]⟩ := by
 obtain ⟨N, hN⟩ : ∃ N, N = l.length := ⟨_, rfl⟩
 refine callZ ccOk mixed [.val] Tryz.func92 rfl rfl (by kernel_rfl) fun zA zB zC zD zE zF zG zH zI zJ zK zL zM zN zO zP zQ zR zS zT zU zV zX zY zZ za zb zc zd ze zg zh zi zj zk zl zm zn zo zq zr zt zu zw zx zy zz zW zth A L F hS hF => ?_
 have h1 : zh r = N := by rw [hS.len, hr, qak, hN]
 have L2 := qbo hS.lt hS.ofN
 have A1 : ∀ (k : Nat), k < N -> ∃ (a s m' : Int) (k1 : Nat), zl r (zV (zY k)) = a /\ zA .u64 a = a /\ zA .i64 (zD 32 (zY k)) = s /\ zP 0 s = true /\ zJ .u64 (val (l.take k)) (zG .u64 a s) = m' /\ zA .i64 (zB (zY k) 1) = zY k1 /\ zk .u32 r (zV (zY k)) = true /\ zP 0 (zY k) = true /\ k1 = k + 1 /\ m' = val (l.take k1) := fun k hk => by
  have ga := hw.get k
  have hv := qab l k
  have hv0 := qad (hw.take k)
  have hv1 := qbl (hw.take k)
  have e2 : (k : Int) = 0 ∨ (k : Int) = 1 := by omega
  refine ⟨l.getD k 0, ((32 * k : Nat) : Int), val (l.take (k + 1)), k + 1, by rw [hS.getI, hS.nat, hS.ofN, hr, qar, Int.toNat_natCast], by rw [hS.wrap, qaa (by omega) (by omega)], ?_, ?_, ?_, ?_, ?_, ?_, rfl, rfl⟩
  ·rw [hS.wrap, hS.mul, hS.ofN, wrap_i64 (by omega) (by omega)]; omega
  ·rw [hS.le]; exact decide_eq_true (by omega)
  ·rw [show ∀ x y, zG .u64 x y = ZI.std.shl .u64 x y from fun _ _ => hS.shl .., shl_std (32 * k) rfl (by show 32 * k <= 64; omega), show ∀ x y, zJ .u64 x y = ZI.std.bor .u64 x y from fun _ _ => hS.bor ..]
   rw [List.length_take] at hv1
   rcases (show k = 0 ∨ k = 1 by omega) with rfl | rfl
   ·have z : val (l.take 0) = 0 := by simp [val]
    rw [z] at hv ⊢
    generalize l.getD 0 0 = g at *
    rw [qaa (by simp; omega) (by simp; omega), bor_lo 0 ga.1 (Int.le_refl 0) (by simp) (by simp; omega), hv]; simp
   ·rw [Nat.min_eq_left (by omega)] at hv1
    rw [qaa (by omega) (by omega), bor_lo 32 ga.1 hv0 (by simpa using hv1) (by omega), hv]; omega
  ·rw [hS.wrap, hS.add, hS.ofN, hS.ofN, wrap_i64 (by omega) (by omega)]; omega
  ·rw [hS.isI, hr, hS.nat, hS.ofN, qax]; exact decide_eq_true (by omega)
  ·rw [hS.le, hS.ofN]; exact decide_eq_true (by omega)
 cbv
 refine loopZ ccOk mixed hS (fun (j : Nat) s' => ∃ (k : Nat) (m : Int), k + j = N /\ m = val (l.take k) /\ s' = ivalSt r m (zY N) (zY k)) (n := N) (s0 := ivalSt r 0 (zY N) (zY 0)) (qat ?_ ?_) rfl (Nat.le_refl 1) ?_ ?_
 ·simp [leT, ivalSt, mkSt, vi, vl, hS.ofN, h1]
 ·simp [leH, ivalSt, mkSt]
 ·exact ⟨0, 0, by omega, by simp [val], rfl⟩
 ·rintro j _ ⟨k, m, hk, hm, rfl⟩
  rcases Nat.lt_or_ge k N with hkn | hkn
  ·obtain ⟨a, s, m', k1, E1, E2, E3, E4, E5, E6, E7, E8, hk1, hm'⟩ := A1 k hkn
   rw [<- hm] at E5
   have e6 : zO (zY k) (zY N) = true := (L2 k N).trans (decide_eq_true hkn)
   cbv
   refine bT e6 ?_
   rw [E1, E2, E3, E5, E6]
   refine nd E8 (nd E7 (nd E4 ?_))
   exact again (s' := ivalSt r m' (zY N) (zY k1)) (m := j - 1) (by simp [leT, ivalSt, mkSt, vi, vl]) (by simp [leH, ivalSt, mkSt]) rfl (Nat.le_refl 1) (by omega) ⟨k1, m', by omega, hm', rfl⟩
  ·obtain rfl : k = N := by omega
   have e6 : zO (zY k) (zY k) = false := (L2 k k).trans (decide_eq_false (Nat.lt_irrefl k))
   have hmn : m = n := by rw [hm, hn, List.take_of_length_le (by omega)]
   cbv
   exact bF e6 (fin1 hF (qa8 hmn))
def igcdSt (a : Bool) (b : Abs.Rows) (c : Bool) (d x y : Abs.Rows) : St := mkSt 53 [.junk, .junk, .c (.ptr 2 0 0), .c (.ptr 3 0 0), .c (.ptr 4 0 0), vl x, vl y] [none, none, some (.var [.t (.v (.bool a)), .t (.lst false b)]), some (.var [.t (.v (.bool c)), .t (.lst false d)]), some (.var [.t (.v (.bool false)), .t (.lst true [])])]
def igcd2St (a : Bool) (b : Abs.Rows) (c : Bool) (d : Abs.Rows) (m n : Int) : St := mkSt 53 [.junk, .junk, .c (.ptr 2 0 0), .c (.ptr 3 0 0), .c (.ptr 4 0 0), .junk, .junk, vi .u64 m, vi .u64 n] [none, none, some (.var [.t (.v (.bool a)), .t (.lst false b)]), some (.var [.t (.v (.bool c)), .t (.lst false d)]), some (.var [.t (.v (.bool false)), .t (.lst true [])])]
theorem igcd_call {x y : Int} {s t : Bool} {r q : Abs.Rows} (hx : IsI x s r) (hy : IsI y t q) (h1 : nl x.natAbs <= 274877906944) (h2 : nl y.natAbs <= 274877906944) :
  ∃ w, IsI (Int.gcd x y) false w /\ ACall Tryz.prog 73 [.val (.agg (iT s r)), .val (.agg (iT t q))] ⟨[.val (.agg (iT false w))], [none, none]⟩ := by
 obtain ⟨w, hg⟩ : ∃ w, IsM (Int.gcd x y) w := ⟨_, rfl⟩
 have hb : nl (Int.gcd x y) <= 2199023255552 := by
  by_cases h : x = 0
  ·subst h
   have : Int.gcd 0 y = y.natAbs := by simp [Int.gcd]
   rw [this]; omega
  ·have : Int.gcd x y <= x.natAbs := Nat.gcd_le_left _ (by omega)
   have := qau this
   omega
 refine ⟨w, ⟨(decide_eq_false (by omega)).symm, hg⟩, ?_⟩
 have cw := isignedM false false hg hb rfl
 have ct := itrimM hx.m (by omega)
 have ct2 := itrimM hy.m (by omega)
 have cl := iclone_call hx.m (by unfold nl at h1; omega)
 have cl2 := iclone_call hy.m (by unfold nl at h2; omega)
 have hr := hx.m
 have hs := hy.m
 clear hx hy
 have hgg : Int.gcd x y = Nat.gcd x.natAbs y.natAbs := rfl
 rw [hgg] at hg hb
 clear hgg
 generalize x.natAbs = a at *
 generalize y.natAbs = b at *
 refine callZ ccOk mixed [.val] Tryz.func73 rfl rfl (by kernel_rfl) fun zA zB zC zD zE zF zG zH zI zJ zK zL zM zN zO zP zQ zR zS zT zU zV zX zY zZ za zb zc zd ze zg zh zi zj zk zl zm zn zo zq zr zt zu zw zx zy zz zW zth A L F hS hF => ?_
 cbv
 refine ⟨_, hS.call (ct), ?_⟩
 cbv
 refine ⟨_, hS.call (cl), ?_⟩
 cbv
 refine ⟨_, hS.call (ct2), ?_⟩
 cbv
 refine ⟨_, hS.call (cl2), ?_⟩
 cbv
 refine loopZ ccOk mixed hS (fun (m : Nat) s' => ∃ (c : Nat) (x y : Abs.Rows), IsM c x /\ IsM m y /\ nl c <= 274877906944 /\ nl m <= 274877906944 /\ Nat.gcd c m = Nat.gcd a b /\ s' = igcdSt s r t q x y) (n := b) (s0 := igcdSt s r t q r q) (qat ?_ ?_) rfl (by show 2 <= 5; omega) ?_ ?_
 ·simp [leT, igcdSt, mkSt, vl, vnil]
 ·simp [leH, igcdSt, mkSt]
 ·exact ⟨a, r, q, hr, hs, h1, h2, rfl, rfl⟩
 ·rintro m _ ⟨c, x, y, hx, hy, l1, l2, hgc, rfl⟩
  have hmz := @nl_zero m
  have hxl : zh x = nl c := by rw [hS.len, hx.len]
  have hyl : zh y = nl m := by rw [hS.len, hy.len]
  have e1 : zO 0 (zY (zh y)) = decide (m ≠ 0) := by
   rw [hyl, hS.lt, hS.ofN]
   by_cases h : m = 0
   ·rw [decide_eq_false (show ¬ m ≠ 0 by omega)]; exact decide_eq_false (by omega)
   ·rw [decide_eq_true h]; exact decide_eq_true (by omega)
  have e2 : zP (zY (zh x)) 2 = decide (nl c <= 2) := by
   rw [hxl, hS.le, hS.ofN]
   by_cases h : nl c <= 2
   ·rw [decide_eq_true h]; exact decide_eq_true (by omega)
   ·rw [decide_eq_false h]; exact decide_eq_false (by omega)
  have e3 : zP (zY (zh y)) 2 = decide (nl m <= 2) := by
   rw [hyl, hS.le, hS.ofN]
   by_cases h : nl m <= 2
   ·rw [decide_eq_true h]; exact decide_eq_true (by omega)
   ·rw [decide_eq_false h]; exact decide_eq_false (by omega)
  have hdiv : m ≠ 0 -> ∃ p q, IsM (c / m) p /\ IsM (c % m) q /\ ACall Tryz.prog 93 [.val (tl x), .val (tl y)] ⟨[.val (tl p), .val (tl q)], [none, none]⟩ := fun h => idivide_call hx hy h (by omega) (by omega)
  have hend : m = 0 -> x = w := fun h => by
   subst h
   rw [Nat.gcd_zero_right] at hgc
   rw [hx, hg, hgc]
  by_cases hm0 : m = 0
  ·rw [hend hm0] at *
   cbv
   refine bF (by rw [e1]; exact decide_eq_false (by omega)) ?_
   refine ⟨_, hS.call (cw), ?_⟩
   cbv
   exact hF _ (ResLe.refl _)
  ·by_cases hsh : nl c <= 2 /\ nl m <= 2
   ·obtain ⟨k1, k2⟩ := hsh
    have b1 := lt_nl c
    have b2 := lt_nl m
    have b3 := ipow_le k1
    have b4 := ipow_le k2
    obtain ⟨C, hC⟩ : ∃ C : Int, C = c := ⟨_, rfl⟩
    obtain ⟨M, hM⟩ : ∃ M : Int, M = m := ⟨_, rfl⟩
    have n1 := ivalue_call C hx k1 (qas _) (by rw [qae, hC])
    have n2 := ivalue_call M hy k2 (qas _) (by rw [qae, hM])
    have hgb : Nat.gcd c m < 18446744073709551616 := by
     have := Nat.gcd_le_right c (Nat.pos_of_ne_zero hm0); omega
    have n4 : ∀ g : Nat, g = Nat.gcd a b -> ∀ G : Int, G = g -> ACall Tryz.prog 81 [.val (ti .u64 G)] ⟨[.val (tl w)], [none]⟩ := fun g hgv G hG => by
     have := iwords_call G (by omega) (by rw [hG, hgv, <- hgc]; omega)
     rw [hG, Int.toNat_natCast, hgv, <- show w = W .u32 (dg (Nat.gcd a b)) from hg, <- hgv, <- hG] at this
     exact this
    have hcb : c < 18446744073709551616 := by omega
    have hmb : m < 18446744073709551616 := by omega
    clear b1 b2 b3 b4 l1 l2
    cbv
    refine bT (by rw [e1]; exact decide_eq_true hm0) (bT (by rw [e2]; exact decide_eq_true k1) (bT (by rw [e3]; exact decide_eq_true k2) ⟨_, hS.call n1, ?_⟩))
    cbv
    refine ⟨_, hS.call n2, ?_⟩
    cbv
    refine loopZ ccOk mixed hS (fun (j : Nat) s' => ∃ c' : Nat, c' < 18446744073709551616 /\ j < 18446744073709551616 /\ Nat.gcd c' j = Nat.gcd a b /\ s' = igcd2St s r t q (zY c') (zY j)) (n := m) (s0 := igcd2St s r t q (zY c) (zY m)) (qat ?_ ?_) rfl (by show 2 <= 5; omega) ?_ ?_
    ·simp [leT, igcd2St, mkSt, vi, hS.ofN, hC, hM]
    ·simp [leH, igcd2St, mkSt]
    ·exact ⟨c, hcb, hmb, hgc, rfl⟩
    ·rintro j _ ⟨c', hc', hj, hgc', rfl⟩
     have f1 : 0 < j -> zF (zY c') (zY j) = zY (c' % j) := fun h => by rw [hS.rem, hS.ofN, hS.ofN, hS.ofN, Int.tmod_eq_emod_of_nonneg (by omega)]; rfl
     have f2 : zO 0 (zY j) = decide (0 < j) := by
      rw [hS.lt, hS.ofN]
      by_cases h : 0 < j
      ·rw [decide_eq_true h]; exact decide_eq_true (by omega)
      ·rw [decide_eq_false h]; exact decide_eq_false (by omega)
     have f3 : 0 < j -> zN (zY j) 0 = true := fun h => by rw [hS.ne, hS.ofN]; exact decide_eq_true (by omega)
     have f4 : j = 0 -> ACall Tryz.prog 81 [.val (ti .u64 (zY c'))] ⟨[.val (tl w)], [none]⟩ := fun h => by
      subst h
      rw [Nat.gcd_zero_right] at hgc'
      exact n4 c' hgc' _ (hS.ofN _)
     cbv
     refine ⟨fun h => ?_, fun h => ?_⟩
     all_goals rw [f2] at h
     ·have h := of_decide_eq_true h
      rw [f1 h]
      refine nd (f3 h) ?_
      refine again (s' := igcd2St s r t q (zY j) (zY (c' % j))) (m := c' % j) (by simp [leT, igcd2St, mkSt, vi]) (by simp [leH, igcd2St, mkSt]) rfl (by show 2 <= 5; omega) (Nat.mod_lt _ h) ⟨j, hj, ?_, ?_, rfl⟩
      ·have := Nat.mod_lt c' h; omega
      ·rw [<- hgc', Nat.gcd_comm c' j, Nat.gcd_rec j c', Nat.gcd_comm]
     ·have h := of_decide_eq_false h
      refine ⟨_, hS.call (f4 (by omega)), ?_⟩
      cbv
      refine ⟨_, hS.call (cw), ?_⟩
      cbv
      exact hF _ (ResLe.refl _)
   ·obtain ⟨p, q', _, hq, cd⟩ := hdiv hm0
    have nx : ∃ (c' : Nat) (x' y' : Abs.Rows), IsM c' x' /\ IsM (c % m) y' /\ nl c' <= 274877906944 /\ nl (c % m) <= 274877906944 /\ Nat.gcd c' (c % m) = Nat.gcd a b /\ igcdSt s r t q y q' = igcdSt s r t q x' y' :=
     ⟨m, y, q', hy, hq, l2, Nat.le_trans (qau (Nat.le_of_lt (Nat.mod_lt _ (Nat.pos_of_ne_zero hm0)))) l2, by rw [<- hgc, Nat.gcd_comm c m, Nat.gcd_rec m c, Nat.gcd_comm], rfl⟩
    have e1' : zO 0 (zY (zh y)) = true := by rw [e1]; exact decide_eq_true hm0
    cbv
    refine bT e1' ⟨fun h2 => bF ?_ ?_, fun h2 => ?_⟩
    ·rw [e3]; rw [e2] at h2; have := of_decide_eq_true h2; exact decide_eq_false (by omega)
    all_goals
     refine ⟨_, hS.call cd, ?_⟩
     cbv
     exact again (s' := igcdSt s r t q y q') (m := c % m) (by simp [leT, igcdSt, mkSt, vl, vnil]) (by simp [leH, igcdSt, mkSt]) rfl (by show 2 <= 5; omega) (Nat.mod_lt _ (Nat.pos_of_ne_zero hm0)) nx
end Go.Proofs.YtbeakmahabhacaaGreat
end
section
namespace Go.Abs
open Go.Abs.M
theorem W_inj {k : IntKind} : ∀ {a b : List Int}, W k a = W k b -> a = b
 | [], [], _ => rfl
 | [], _ :: _, h => by simp [W] at h
 | _ :: _, [], h => by simp [W] at h
 | x :: a, y :: b, h => by
  simp only [W, List.map_cons, List.cons.injEq, Tree.v.injEq, Value.int.injEq, true_and, and_true] at h
  rw [h.1, W_inj (k := k) h.2]
def canI (s : Bool) (l : List Int) : Bool := if l.length = 0 then !s else decide (l.getD (l.length - 1) 0 ≠ 0)
theorem canI_of {x : Int} {s : Bool} {l : List Int} (h : IsI x s (W .u32 l)) : canI s l = true := by
 have hl : l = dg x.natAbs := W_inj (h.m)
 have hs := h.s
 unfold canI
 subst hl
 by_cases h0 : (dg x.natAbs).length = 0
 ·rw [if_pos h0]
  have : x.natAbs = 0 := dg_eq_nil.1 (List.length_eq_zero_iff.1 h0)
  rw [hs, decide_eq_false (by omega)]; rfl
 ·rw [if_neg h0]
  rcases dg_tr x.natAbs with h | h
  ·rw [h] at h0; exact absurd rfl h0
  ·exact decide_eq_true h
theorem canI_ex {s : Bool} {l : List Int} (hw : Wd l) (h : canI s l = true) : ∃ x : Int, IsI x s (W .u32 l) /\ nl x.natAbs = l.length := by
 unfold canI at h
 have hv := qad hw
 by_cases h0 : l.length = 0
 ·rw [if_pos h0] at h
  have hl := List.length_eq_zero_iff.1 h0
  subst hl
  have : s = false := by cases s <;> simp_all
  subst this
  exact ⟨0, ⟨rfl, rfl⟩, rfl⟩
 ·rw [if_neg h0] at h
  have ht : Tr l := .inr (of_decide_eq_true h)
  have hu := dg_unique hw ht
  have hpos : 0 < val l := by
   rcases Int.lt_or_eq_of_le hv with h | h
   ·exact h
   ·exfalso
    rw [<- h] at hu
    have : l = [] := hu.symm
    rw [this] at h0; exact h0 rfl
  have hn : ∀ x : Int, x.natAbs = (val l).toNat -> nl x.natAbs = l.length := fun x hx => by rw [hx]; unfold nl; rw [hu]
  cases s with
  | false =>
   have e : (val l).natAbs = (val l).toNat := by omega
   exact ⟨val l, ⟨(decide_eq_false (by omega)).symm, by unfold IsM; rw [e, hu]⟩, hn _ e⟩
  | true =>
   have e : (-val l).natAbs = (val l).toNat := by omega
   exact ⟨-val l, ⟨(decide_eq_true (by omega)).symm, by unfold IsM; rw [e, hu]⟩, hn _ e⟩
def CanQ (s : Bool) (l : List Int) (t : Bool) (m : List Int) : Prop := ∃ q : Rat, IsR q s (W .u32 l) t (W .u32 m)
theorem rat_of {n d : Int} (h : 0 < d) (hg : Int.gcd n d = 1) : ∃ q : Rat, q.num = n /\ (q.den : Int) = d :=
 ⟨⟨n, d.toNat, by omega, by
  have e : d.toNat = d.natAbs := by omega
  show Nat.gcd n.natAbs d.toNat = 1
  rw [e]; exact hg⟩, rfl, by show (d.toNat : Int) = d; omega⟩
theorem CanQ.iff {s t : Bool} {l m : List Int} {n d : Int} (hn : IsI n s (W .u32 l)) (hd : IsI d t (W .u32 m)) : CanQ s l t m ↔ 0 < d /\ Int.gcd n d = 1 := by
 constructor
 ·rintro ⟨q, h1, h2⟩
  have e1 : q.num = n := by
   have a := h1.m.symm.trans hn.m
   have b : dg q.num.natAbs = dg n.natAbs := W_inj a
   have x := qae q.num.natAbs
   rw [b] at x
   have c : (q.num.natAbs : Int) = n.natAbs := x.symm.trans (qae _)
   have e := h1.s.symm.trans hn.s
   have := decide_eq_decide.1 e
   omega
  have e2 : (q.den : Int) = d := by
   have a := h2.m.symm.trans hd.m
   have b : dg (q.den : Int).natAbs = dg d.natAbs := W_inj a
   have x := qae (q.den : Int).natAbs
   rw [b] at x
   have c : ((q.den : Int).natAbs : Int) = d.natAbs := x.symm.trans (qae _)
   have e := h2.s.symm.trans hd.s
   have := decide_eq_decide.1 e
   omega
  subst e1 e2
  refine ⟨by have := q.den_pos; omega, ?_⟩
  have := q.reduced
  unfold Nat.Coprime at this
  unfold Int.gcd
  rw [Int.natAbs_natCast]; exact this
 ·rintro ⟨h1, h2⟩
  obtain ⟨q, e1, e2⟩ := rat_of h1 h2
  exact ⟨q, by rw [e1]; exact hn, by rw [e2]; exact hd⟩
theorem CanQ.canI {s t : Bool} {l m : List Int} (h : CanQ s l t m) : Abs.canI s l = true /\ Abs.canI t m = true := by
 obtain ⟨q, h1, h2⟩ := h
 exact ⟨canI_of h1, canI_of h2⟩
end Go.Abs
end
section
namespace Go.Proofs.YtbeakmahabhacaaGreat
open Go Go.Abs Go.Abs.M Go.Proofs
theorem rvalidA_call (s : Bool) (l : List Int) (hl : l.length <= 2199023255552) : ACall Tryz.prog 74 [.val (.agg (iT s (W .u32 l)))] ⟨[.val (tb (canI s l))], [none]⟩ := by
 obtain ⟨r, hr⟩ : ∃ r, r = W .u32 l := ⟨_, rfl⟩
 obtain ⟨n, hn⟩ : ∃ n, n = l.length := ⟨_, rfl⟩
 obtain ⟨b, hb⟩ : ∃ b, b = canI s l := ⟨_, rfl⟩
 rw [<- hb, <- hr]
 have hz : n = 0 -> (!s) = b := fun h => by rw [hb]; unfold canI; rw [if_pos (by omega)]
 have htop : n ≠ 0 -> decide (l.getD (n - 1) 0 ≠ 0) = b := fun h => by rw [hb]; unfold canI; rw [if_neg (by omega), hn]
 refine callZ ccOk mixed [.val] Tryz.func74 rfl rfl (by kernel_rfl) fun zA zB zC zD zE zF zG zH zI zJ zK zL zM zN zO zP zQ zR zS zT zU zV zX zY zZ za zb zc zd ze zg zh zi zj zk zl zm zn zo zq zr zt zu zw zx zy zz zW zth A L F hS hF => ?_
 have hlx : zh r = n := by rw [hS.len, hr, qak, hn]
 have e0 : zM (zY (zh r)) 0 = decide (n = 0) := by
  rw [hlx, hS.eq, hS.ofN]
  by_cases h : n = 0
  ·rw [decide_eq_true h]; exact decide_eq_true (by omega)
  ·rw [decide_eq_false h]; exact decide_eq_false (by omega)
 have e1 : n ≠ 0 -> zA .i64 (zC (zY (zh r)) 1) = zY (n - 1) := fun h => by rw [hlx, hS.wrap, hS.sub, hS.ofN, hS.ofN, wrap_i64 (by omega) (by omega)]; omega
 have e2 : zP 0 (zY (n - 1)) = true := by rw [hS.le, hS.ofN]; exact decide_eq_true (by omega)
 have e3 : zV (zY (n - 1)) = n - 1 := by rw [hS.nat, hS.ofN]; omega
 have e4 : n ≠ 0 -> zk .u32 r (zV (zY (n - 1))) = true := fun h => by rw [e3, hS.isI, hr, qax]; exact decide_eq_true (by omega)
 have e5 : n ≠ 0 -> zN (zl r (zV (zY (n - 1)))) 0 = b := fun h => by rw [e3, hS.ne, hS.getI, hr, qar]; exact htop h
 have e6 : zQ s = !s := hS.not s
 generalize zY (n - 1) = top at *
 clear htop hr
 cbv
 refine ⟨fun h => ?_, fun h => ?_⟩
 all_goals rw [e0] at h
 ·refine fin1 hF (tv_bool ?_)
  rw [e6]; exact hz (of_decide_eq_true h)
 ·have hn := of_decide_eq_false h
  rw [e1 hn]
  refine nd e2 (nd (e4 hn) ?_)
  exact fin1 hF (tv_bool (e5 hn))
open Go Go.Abs Go.Abs.M Go.Proofs
def Qs (x : Rat) (k : Nat) : Prop := nl x.num.natAbs <= k /\ nl x.den <= k
theorem qmul_call {x y : Rat} {s t s' t' : Bool} {r q r' q' : Abs.Rows} (hx : IsR x s r t q) (hy : IsR y s' r' t' q') (h1 : Qs x 68719476736) (h2 : Qs y 68719476736) :
  ∃ u w v p, IsR (x * y) u w v p /\ ACall Tryz.prog 45 [.val (.agg (iT s r ++ iT t q)), .val (.agg (iT s' r' ++ iT t' q'))] ⟨[.val (.agg (iT u w ++ iT v p))], [none, none]⟩ := by
 obtain ⟨x1, x2⟩ := h1
 obtain ⟨y1, y2⟩ := h2
 obtain ⟨a, b, ha, ca⟩ := qbv hx.n hy.n (by omega) (by omega)
 obtain ⟨c, d, hc, cc⟩ := qbv hx.d hy.d (by rw [Int.natAbs_natCast]; omega) (by rw [Int.natAbs_natCast]; omega)
 have hx0 := x.den_nz
 have hy0 := y.den_nz
 obtain ⟨u, w, v, p, hu, cl⟩ := rlowest_call ha hc (Int.mul_ne_zero (by omega) (by omega))
  (by rw [Int.natAbs_mul]; have := qbg x.num.natAbs y.num.natAbs; omega)
  (by rw [Int.natAbs_mul, Int.natAbs_natCast, Int.natAbs_natCast]; have := qbg x.den y.den; omega)
 refine ⟨u, w, v, p, ?_, ?_⟩
 ·rw [<- Rat.divInt_mul_divInt, Rat.num_divInt_den, Rat.num_divInt_den] at hu
  exact hu
 refine callZ ccOk mixed [.val] Tryz.func45 rfl rfl (by kernel_rfl) fun zA zB zC zD zE zF zG zH zI zJ zK zL zM zN zO zP zQ zR zS zT zU zV zX zY zZ za zb zc zd ze zg zh zi zj zk zl zm zn zo zq zr zt zu zw zx zy zz zW zth A L F hS hF => ?_
 cbv
 refine ⟨_, hS.call ca, ?_⟩
 cbv
 refine ⟨_, hS.call cc, ?_⟩
 cbv
 refine ⟨_, hS.call cl, ?_⟩
 cbv
 exact hF _ (ResLe.refl _)
theorem qadd_call {x y : Rat} {s t s' t' : Bool} {r q r' q' : Abs.Rows} (hx : IsR x s r t q) (hy : IsR y s' r' t' q') (h1 : Qs x 68719476736) (h2 : Qs y 68719476736) :
  ∃ u w v p, IsR (x + y) u w v p /\ ACall Tryz.prog 54 [.val (.agg (iT s r ++ iT t q)), .val (.agg (iT s' r' ++ iT t' q'))] ⟨[.val (.agg (iT u w ++ iT v p))], [none, none]⟩ := by
 obtain ⟨x1, x2⟩ := h1
 obtain ⟨y1, y2⟩ := h2
 have n1 := qbg x.num.natAbs y.den
 have n2 := qbg y.num.natAbs x.den
 have n3 := qbg x.den y.den
 have hx0 := x.den_nz
 have hy0 := y.den_nz
 obtain ⟨a, b, ha, ca⟩ := qbv hx.n hy.d (by omega) (by rw [Int.natAbs_natCast]; omega)
 obtain ⟨a', b', ha', ca'⟩ := qbv hy.n hx.d (by omega) (by rw [Int.natAbs_natCast]; omega)
 have m1 : nl (x.num * y.den).natAbs <= 137438953472 := by rw [Int.natAbs_mul, Int.natAbs_natCast]; omega
 have m2 : nl (y.num * x.den).natAbs <= 137438953472 := by rw [Int.natAbs_mul, Int.natAbs_natCast]; omega
 obtain ⟨e, f, he, ce⟩ := radd_call ha ha' (by omega) (by omega)
 obtain ⟨c, d, hc, cc⟩ := qbv hx.d hy.d (by rw [Int.natAbs_natCast]; omega) (by rw [Int.natAbs_natCast]; omega)
 obtain ⟨u, w, v, p, hu, cl⟩ := rlowest_call he hc (Int.mul_ne_zero (by omega) (by omega))
  (by
   have := qau (Int.natAbs_add_le (x.num * y.den) (y.num * x.den))
   have := nl_add (x.num * y.den).natAbs (y.num * x.den).natAbs
   omega)
  (by rw [Int.natAbs_mul, Int.natAbs_natCast, Int.natAbs_natCast]; omega)
 refine ⟨u, w, v, p, ?_, ?_⟩
 ·rw [<- Rat.divInt_add_divInt _ _ (by omega) (by omega), Rat.num_divInt_den, Rat.num_divInt_den] at hu
  exact hu
 refine callZ ccOk mixed [.val] Tryz.func54 rfl rfl (by kernel_rfl) fun zA zB zC zD zE zF zG zH zI zJ zK zL zM zN zO zP zQ zR zS zT zU zV zX zY zZ za zb zc zd ze zg zh zi zj zk zl zm zn zo zq zr zt zu zw zx zy zz zW zth A L F hS hF => ?_
 cbv
 refine ⟨_, hS.call ca, ?_⟩
 cbv
 refine ⟨_, hS.call ca', ?_⟩
 cbv
 refine ⟨_, hS.call ce, ?_⟩
 cbv
 refine ⟨_, hS.call cc, ?_⟩
 cbv
 refine ⟨_, hS.call cl, ?_⟩
 cbv
 exact hF _ (ResLe.refl _)
open Go Go.Abs Go.Abs.M Go.Proofs
theorem cmp0 (d : Int) : (cmpI d 0 <= 0 ↔ d <= 0) /\ (cmpI d 0 < 1 ↔ d <= 0) := by
 unfold cmpI
 by_cases h : d < 0
 ·rw [if_pos h]; omega
 ·rw [if_neg h]; split <;> omega
theorem cmp1 (g : Int) : cmpI g 1 = 0 ↔ g = 1 := by
 unfold cmpI
 by_cases h : g < 1
 ·rw [if_pos h]; omega
 ·rw [if_neg h]; split <;> omega
theorem dg_one_iff {n : Nat} (h : (dg n).length = 1) : (dg n).getD 0 0 = n := by
 have e := qae n
 match hd : dg n, h with
 | [w], _ =>
  rw [hd] at e
  simp [M.val] at e
  simpa using e
theorem qone_call {x : Int} {s : Bool} {r : Abs.Rows} (hx : IsI x s r) : ACall Tryz.prog 72 [.val (.agg (iT s r))] ⟨[.val (tb (decide (x = 1)))], [none]⟩ := by
 obtain ⟨n, hn⟩ : ∃ n, n = nl x.natAbs := ⟨_, rfl⟩
 have hlen : r.length = n := by rw [hn]; exact hx.m.len
 obtain ⟨b, hb⟩ : ∃ b, b = decide (x = 1) := ⟨_, rfl⟩
 rw [<- hb]
 have hs1 : s = true -> false = b := fun h => by rw [hb]; refine (decide_eq_false ?_).symm; have := hx.s; rw [h] at this; have := of_decide_eq_true this.symm; omega
 have hn1 : n ≠ 1 -> false = b := fun h => by
  rw [hb]; refine (decide_eq_false ?_).symm; rintro rfl
  exact h (by rw [hn]; rfl)
 have hg : n = 1 -> s = false -> decide ((dg x.natAbs).getD 0 0 = 1) = b := fun h h' => by
  rw [dg_one_iff (by rw [<- h, hn]; rfl), hb]
  have := hx.s; rw [h'] at this; have := of_decide_eq_false this.symm
  by_cases h1 : x = 1
  ·rw [decide_eq_true h1]; exact decide_eq_true (by omega)
  ·rw [decide_eq_false h1]; exact decide_eq_false (by omega)
 have hr := hx.m
 unfold IsM at hr
 generalize dg x.natAbs = l at hg hr
 clear hx hb
 refine callZ ccOk mixed [.val] Tryz.func72 rfl rfl (by kernel_rfl) fun zA zB zC zD zE zF zG zH zI zJ zK zL zM zN zO zP zQ zR zS zT zU zV zX zY zZ za zb zc zd ze zg zh zi zj zk zl zm zn zo zq zr zt zu zw zx zy zz zW zth A L F hS hF => ?_
 have e0 : zQ s = !s := hS.not s
 have e1 : zM (zY (zh r)) 1 = decide (n = 1) := by
  rw [hS.len, hlen, hS.eq, hS.ofN]
  by_cases h : n = 1
  ·rw [decide_eq_true h]; exact decide_eq_true (by omega)
  ·rw [decide_eq_false h]; exact decide_eq_false (by omega)
 have e2 : zP 0 0 = true := by rw [hS.le]; rfl
 have e3 : n = 1 -> zk .u32 r (zV 0) = true := fun h => by rw [hS.nat, hS.isI, hr, qax]; rw [hr, qak] at hlen; exact decide_eq_true (by simp; omega)
 have e4 : n = 1 -> s = false -> zM (zl r (zV 0)) 1 = b := fun h h' => by rw [hS.nat, hS.eq, hS.getI, hr, qar]; exact hg h h'
 clear hg hr hlen
 cbv
 refine ⟨fun h => ⟨fun h' => ?_, fun h' => ?_⟩, fun h => ?_⟩
 all_goals rw [e0] at h
 ·rw [e1] at h'
  have h' := of_decide_eq_true h'
  exact nd e2 (nd (e3 h') (fin1 hF (tv_bool (e4 h' (by simpa using h)))))
 ·rw [e1] at h'
  exact fin1 hF (tv_bool (hn1 (of_decide_eq_false h')))
 ·exact fin1 hF (tv_bool (hs1 (by simpa using h)))
theorem canQ_cases {s t : Bool} {l m : List Int} {b : Bool} (hl : Wd l) (hm : Wd m) (hb : b = true ↔ CanQ s l t m) :
  (canI s l = false /\ b = false) ∨ (canI s l = true /\ canI t m = false /\ b = false) ∨
  (canI s l = true /\ canI t m = true /\ ∃ n d : Int, IsI n s (W .u32 l) /\ IsI d t (W .u32 m) /\ nl n.natAbs = l.length /\ nl d.natAbs = m.length /\ (b = true ↔ 0 < d /\ Int.gcd n d = 1)) := by
 have hbf : ¬ CanQ s l t m -> b = false := fun h => by
  cases b with
  | false => rfl
  | true => exact absurd (hb.1 rfl) h
 cases h1 : canI s l with
 | false => exact .inl ⟨rfl, hbf fun h => by rw [h.canI.1] at h1; cases h1⟩
 | true =>
  cases h2 : canI t m with
  | false => exact .inr (.inl ⟨rfl, rfl, hbf fun h => by rw [h.canI.2] at h2; cases h2⟩)
  | true =>
   obtain ⟨n, hn, n1⟩ := canI_ex hl h1
   obtain ⟨d, hd, d1⟩ := canI_ex hm h2
   exact .inr (.inr ⟨rfl, rfl, n, d, hn, hd, n1, d1, hb.trans (CanQ.iff hn hd)⟩)
theorem rqvalid_call {s t : Bool} {l m : List Int} (b : Bool) (hb : b = true ↔ CanQ s l t m) (hl : Wd l) (hm : Wd m) (l1 : l.length <= 274877906944) (m1 : m.length <= 274877906944) :
  ACall Tryz.prog 57 [.val (.agg (iT s (W .u32 l) ++ iT t (W .u32 m)))] ⟨[.val (tb b)], [none]⟩ := by
 have c1 := rvalidA_call s l (by omega)
 have c2 := rvalidA_call t m (by omega)
 rcases canQ_cases hl hm hb with ⟨h1, h2⟩ | ⟨h1, h2, h3⟩ | ⟨h1, h2, n, d, hn, hd, n1, d1, hbd⟩
 ·rw [h1] at c1
  subst h2
  generalize W .u32 l = r at *
  generalize W .u32 m = q at *
  refine callZ ccOk mixed [.val] Tryz.func57 rfl rfl (by kernel_rfl) fun zA zB zC zD zE zF zG zH zI zJ zK zL zM zN zO zP zQ zR zS zT zU zV zX zY zZ za zb zc zd ze zg zh zi zj zk zl zm zn zo zq zr zt zu zw zx zy zz zW zth A L F hS hF => ?_
  have e1 : zQ false = true := hS.not false
  cbv
  refine ⟨_, hS.call (c1), ?_⟩
  cbv
  refine bT (e1) ?_
  exact hF _ (ResLe.refl _)
 ·rw [h1] at c1
  rw [h2] at c2
  subst h3
  generalize W .u32 l = r at *
  generalize W .u32 m = q at *
  refine callZ ccOk mixed [.val] Tryz.func57 rfl rfl (by kernel_rfl) fun zA zB zC zD zE zF zG zH zI zJ zK zL zM zN zO zP zQ zR zS zT zU zV zX zY zZ za zb zc zd ze zg zh zi zj zk zl zm zn zo zq zr zt zu zw zx zy zz zW zth A L F hS hF => ?_
  have e1 : zQ false = true := hS.not false
  have e2 : zQ true = false := hS.not true
  cbv
  refine ⟨_, hS.call (c1), ?_⟩
  cbv
  refine bF (e2) ?_
  refine ⟨_, hS.call (c2), ?_⟩
  cbv
  refine bT (e1) ?_
  exact hF _ (ResLe.refl _)
 ·rw [h1] at c1
  rw [h2] at c2
  have c3 := rsign_call (cmpI d 0) hd rfl
  obtain ⟨w, hw, c5⟩ := rgcd_call hn hd (by omega) (by omega)
  obtain ⟨u, v, ho, c6⟩ := rof_call 1 (by omega) (by omega)
  have hgl : nl (Int.gcd n d : Int).natAbs <= 2199023255552 := by
   rw [Int.natAbs_natCast]
   by_cases h : n = 0
   ·subst h
    have : Int.gcd 0 d = d.natAbs := by simp [Int.gcd]
    rw [this]; omega
   ·have : Int.gcd n d <= n.natAbs := Nat.gcd_le_left _ (by omega)
    have := qau this
    omega
  have c7 := rcmp_call (cmpI (Int.gcd n d : Int) 1) hw ho rfl hgl (Nat.le_trans (qam (k := 1) (by omega)) (by omega))
  have k1 := (cmp0 d).2
  have k2 := cmp1 (Int.gcd n d : Int)
  have f1 : d <= 0 -> false = b := fun h => by
   cases b with
   | false => rfl
   | true => have := (hbd.1 rfl).1; omega
  have f3 : 0 < d -> decide (cmpI (Int.gcd n d : Int) 1 = 0) = b := fun h => by
   cases b with
   | false => exact decide_eq_false fun e => absurd (hbd.2 ⟨h, by have := k2.1 e; omega⟩) (by simp)
   | true => exact decide_eq_true (k2.2 (by have := (hbd.1 rfl).2; omega))
  generalize cmpI d 0 = c at *
  generalize cmpI (Int.gcd n d : Int) 1 = k at *
  clear hbd hn hd hw ho k2
  generalize W .u32 l = r at *
  generalize W .u32 m = q at *
  refine callZ ccOk mixed [.val] Tryz.func57 rfl rfl (by kernel_rfl) fun zA zB zC zD zE zF zG zH zI zJ zK zL zM zN zO zP zQ zR zS zT zU zV zX zY zZ za zb zc zd ze zg zh zi zj zk zl zm zn zo zq zr zt zu zw zx zy zz zW zth A L F hS hF => ?_
  have e2 : zQ true = false := hS.not true
  have e3 : zO c 1 = decide (c < 1) := hS.lt ..
  have e4 : zM k 0 = decide (k = 0) := hS.eq ..
  cbv
  refine ⟨_, hS.call (c1), ?_⟩
  cbv
  refine bF (e2) ?_
  refine ⟨_, hS.call (c2), ?_⟩
  cbv
  refine bF (e2) ?_
  refine ⟨_, hS.call (c3), ?_⟩
  cbv
  refine ⟨fun h => ?_, fun h => ?_⟩
  all_goals rw [e3] at h
  ·exact fin1 hF (tv_bool (f1 (k1.1 (of_decide_eq_true h))))
  ·have h := of_decide_eq_false h
   refine ⟨_, hS.call (c5), ?_⟩
   cbv
   refine ⟨_, hS.call (c6), ?_⟩
   cbv
   refine ⟨_, hS.call (c7), ?_⟩
   cbv
   exact fin1 hF (tv_bool (e4.trans (f3 (by omega))))
end Go.Proofs.YtbeakmahabhacaaGreat
end
section
namespace Go.Abs
open Go.Abs.M
structure QC where
 s : Bool
 l : List Int
 t : Bool
 m : List Int
def QC.row (c : QC) : List Tree := iT c.s (W .u32 c.l) ++ iT c.t (W .u32 c.m)
def QC.can (c : QC) : Prop := CanQ c.s c.l c.t c.m
structure QC.ok (c : QC) (k : Nat) : Prop where
 l : Wd c.l
 m : Wd c.m
 ll : c.l.length <= k
 lm : c.m.length <= k
def qrows (cs : List QC) : Rows := cs.map QC.row
theorem qrows_len (cs : List QC) : (qrows cs).length = cs.length := by simp [qrows]
theorem qrows_get {cs : List QC} {i : Nat} {c : QC} (h : cs[i]? = some c) : (qrows cs)[i]? = some c.row := by simp [qrows, h]
theorem QC.sign {c : QC} (h : c.can) : ∃ x : Int, IsI x c.s (W .u32 c.l) /\ (x = 0 ↔ c.l = []) := by
 obtain ⟨q, h1, h2⟩ := h
 refine ⟨q.num, h1, ?_⟩
 have hl : c.l = dg q.num.natAbs := W_inj h1.m
 rw [hl, dg_eq_nil]
 omega
def UOk (cs : List QC) : Prop := (∀ c ∈ cs, c.can) /\ ∀ c, cs.getLast? = some c -> c.l ≠ []
theorem bool_ex (p : Prop) : ∃ b : Bool, b = true ↔ p := by
 rcases Classical.em p with h | h
 ·exact ⟨true, fun _ => h, fun _ => rfl⟩
 ·exact ⟨false, fun h' => (by cases h'), fun h' => absurd h' h⟩
end Go.Abs
namespace Go.Abs
open Go.Abs.M
def qc (q : Rat) : QC := ⟨decide (q.num < 0), dg q.num.natAbs, decide ((q.den : Int) < 0), dg (q.den : Int).natAbs⟩
theorem qbp (q : Rat) : IsR q (qc q).s (W .u32 (qc q).l) (qc q).t (W .u32 (qc q).m) := ⟨⟨rfl, rfl⟩, ⟨rfl, rfl⟩⟩
theorem qc_row {q : Rat} {s t : Bool} {r p : Rows} (h : IsR q s r t p) : iT s r ++ iT t p = (qc q).row := by
 have h1 := h.n.s
 have h2 := h.n.m
 have h3 := h.d.s
 have h4 := h.d.m
 unfold IsM at h2 h4
 subst h1 h2 h3 h4
 rfl
theorem qc_can (q : Rat) : (qc q).can := ⟨q, qbp q⟩
def ur (P : List Rat) : Rows := qrows (P.map qc)
theorem qaf (P : List Rat) : (ur P).length = P.length := by simp [ur, qrows]
theorem qbx {P : List Rat} {i : Nat} {q : Rat} (h : P[i]? = some q) : (ur P)[i]? = some (qc q).row := by simp [ur, qrows, h]
theorem ur_app (P : List Rat) (q : Rat) : ur (P ++ [q]) = ur P ++ [(qc q).row] := by simp [ur, qrows]
theorem ur_take (P : List Rat) (k : Nat) : (ur P).take k = ur (P.take k) := by simp [ur, qrows, List.map_take]
def tlen : List Rat -> Nat -> Nat
 | _, 0 => 0
 | P, k + 1 => if P.getD k 0 = 0 then tlen P k else k + 1
def ptrim (P : List Rat) : List Rat := P.take (tlen P P.length)
theorem tlen_le (P : List Rat) : ∀ k, tlen P k <= k
 | 0 => Nat.le_refl _
 | k + 1 => by unfold tlen; split; have := tlen_le P k; omega; omega
theorem tlen_last (P : List Rat) : ∀ k, tlen P k ≠ 0 -> P.getD (tlen P k - 1) 0 ≠ 0
 | 0, h => absurd rfl h
 | k + 1, h => by
  unfold tlen at h ⊢
  split
  ·rename_i h0; rw [if_pos h0] at h; exact tlen_last P k h
  ·rename_i h0; simpa using h0
theorem ptrim_ok (P : List Rat) : UOk ((ptrim P).map qc) := by
 refine ⟨fun c hc => ?_, fun c hc hl => ?_⟩
 ·obtain ⟨q, _, rfl⟩ := List.mem_map.1 hc
  exact qc_can q
 ·have hle := tlen_le P P.length
  rw [List.getLast?_map] at hc
  obtain ⟨q, hq, rfl⟩ := Option.map_eq_some_iff.1 hc
  unfold ptrim at hq
  rw [List.getLast?_eq_getElem?, List.length_take, Nat.min_eq_left hle] at hq
  have hne : tlen P P.length ≠ 0 := by
   intro h0
   rw [h0] at hq; simp at hq
  have h1 := tlen_last P P.length hne
  rw [List.getElem?_take, if_pos (by omega)] at hq
  rw [List.getD_eq_getElem?_getD, hq] at h1
  have h2 : q.num = 0 := by
   have : dg q.num.natAbs = [] := hl
   have := dg_eq_nil.1 this
   omega
  exact h1 (by simpa using Rat.num_eq_zero.1 h2)
end Go.Abs
namespace Go.Abs
end Go.Abs
namespace Go.Abs
def accL (R : List Rat) (c : Rat) (B : List Rat) (k : Nat) : Nat -> List Rat
 | 0 => R
 | i + 1 => (accL R c B k i).set (i + k) ((accL R c B k i).getD (i + k) 0 + c * B.getD i 0)
def pacc (R : List Rat) (c : Rat) (B : List Rat) (k : Nat) : List Rat := accL R c B k B.length
theorem qbd (R : List Rat) (c : Rat) (B : List Rat) (k : Nat) : ∀ i, (accL R c B k i).length = R.length
 | 0 => rfl
 | i + 1 => by unfold accL; rw [List.length_set, qbd R c B k i]
theorem accL_get {R : List Rat} {c : Rat} {B : List Rat} {k : Nat} : ∀ (i j : Nat), i + k <= R.length -> (accL R c B k i).getD j 0 = if k <= j /\ j < k + i then R.getD j 0 + c * B.getD (j - k) 0 else R.getD j 0
 | 0, j, _ => by rw [if_neg (by omega)]; rfl
 | i + 1, j, h => by
  have ih := accL_get (R := R) (c := c) (B := B) (k := k) i
  have hl := qbd R c B k i
  unfold accL
  rw [List.getD_eq_getElem?_getD, List.getElem?_set]
  by_cases hj : i + k = j
  ·subst hj
   rw [if_pos rfl, if_pos (by omega), Option.getD_some, ih _ (by omega), if_neg (by omega), if_pos (by omega), show i + k - k = i by omega]
  ·rw [if_neg hj, <- List.getD_eq_getElem?_getD, ih j (by omega)]
   by_cases h2 : k <= j /\ j < k + i
   ·rw [if_pos h2, if_pos (by omega)]
   ·rw [if_neg h2, if_neg (by omega)]
theorem set_getD_self {l : List Rat} {j : Nat} (h : j < l.length) : l.set j (l.getD j 0) = l := by
 rw [List.getD_eq_getElem?_getD, List.getElem?_eq_getElem h, Option.getD_some]
 exact List.set_getElem_self h
theorem accL_skip {R : List Rat} {c : Rat} {B : List Rat} {k i : Nat} (h : i + k < R.length) (h0 : c * B.getD i 0 = 0) : accL R c B k (i + 1) = accL R c B k i := by
 show (accL R c B k i).set (i + k) ((accL R c B k i).getD (i + k) 0 + c * B.getD i 0) = _
 rw [h0, Rat.add_zero, set_getD_self (by rw [qbd]; exact h)]
theorem accL_zero {R B : List Rat} {k : Nat} : ∀ i, i + k <= R.length -> accL R 0 B k i = R
 | 0, _ => rfl
 | i + 1, h => by rw [accL_skip (by omega) (Rat.zero_mul _), accL_zero i (by omega)]
theorem ur_set (P : List Rat) (i : Nat) (q : Rat) : (ur P).set i (qc q).row = ur (P.set i q) := by
 simp only [ur, qrows, List.map_set]
end Go.Abs
end
section
namespace Go.Proofs.YtbeakmahabhacaaGreat
open Go Go.Abs Go.Abs.M Go.Proofs
theorem pneg_call {x : Rat} {s t : Bool} {r q : Abs.Rows} (hx : IsR x s r t q) (h1 : Qs x 68719476736) :
  ∃ u w, IsR (-x) u w t q /\ ACall Tryz.prog 42 [.val (.agg (iT s r ++ iT t q))] ⟨[.val (.agg (iT u w ++ iT t q))], [none]⟩ := by
 obtain ⟨u, w, h, c⟩ := ineg_call hx.n (by have := h1.1; omega)
 refine ⟨u, w, ⟨h, hx.d⟩, ?_⟩
 refine callZ ccOk mixed [.val] Tryz.func42 rfl rfl (by kernel_rfl) fun zA zB zC zD zE zF zG zH zI zJ zK zL zM zN zO zP zQ zR zS zT zU zV zX zY zZ za zb zc zd ze zg zh zi zj zk zl zm zn zo zq zr zt zu zw zx zy zz zW zth A L F hS hF => ?_
 cbv
 refine ⟨_, hS.call (c), ?_⟩
 cbv
 exact hF _ (ResLe.refl _)
theorem pwhole_call {n : Int} {s : Bool} {r : Abs.Rows} (hn : IsI n s r) : ∃ v p, IsR (n : Rat) s r v p /\ ACall Tryz.prog 61 [.val (.agg (iT s r))] ⟨[.val (.agg (iT s r ++ iT v p))], [none]⟩ := by
 obtain ⟨v, p, h, c⟩ := iof_call 1 (by omega) (by omega)
 refine ⟨v, p, ⟨by rw [Rat.num_intCast]; exact hn, by rw [Rat.den_intCast]; exact h⟩, ?_⟩
 refine callZ ccOk mixed [.val] Tryz.func61 rfl rfl (by kernel_rfl) fun zA zB zC zD zE zF zG zH zI zJ zK zL zM zN zO zP zQ zR zS zT zU zV zX zY zZ za zb zc zd ze zg zh zi zj zk zl zm zn zo zq zr zt zu zw zx zy zz zW zth A L F hS hF => ?_
 cbv
 refine ⟨_, hS.call (c), ?_⟩
 cbv
 exact hF _ (ResLe.refl _)
theorem pWhole_call (n : Int) (h1 : -9223372036854775808 <= n) (h2 : n < 9223372036854775808) : ∃ s r v p, IsR (n : Rat) s r v p /\ ACall Tryz.prog 38 [.val (ti .i64 n)] ⟨[.val (.agg (iT s r ++ iT v p))], [none]⟩ := by
 obtain ⟨s, r, h, c⟩ := iof_call n h1 h2
 obtain ⟨v, p, h3, c2⟩ := pwhole_call h
 refine ⟨s, r, v, p, h3, ?_⟩
 refine callZ ccOk mixed [.val] Tryz.func38 rfl rfl (by kernel_rfl) fun zA zB zC zD zE zF zG zH zI zJ zK zL zM zN zO zP zQ zR zS zT zU zV zX zY zZ za zb zc zd ze zg zh zi zj zk zl zm zn zo zq zr zt zu zw zx zy zz zW zth A L F hS hF => ?_
 cbv
 refine ⟨_, hS.call (c), ?_⟩
 cbv
 refine ⟨_, hS.call (c2), ?_⟩
 cbv
 exact hF _ (ResLe.refl _)
def proSt (R : Abs.Rows) (ps : Bool) (pr : Abs.Rows) (N i : Int) : St := mkSt 25 [.c (.t (.lst false R)), .junk, .c (.ptr 1 0 0), .c (.ptr 4 0 0), .junk, .junk, .junk, .c (.t (.lst false R)), vi .i64 N, vi .i64 i] [none, some (.var [.t (.v (.bool false)), .t (.lst true [])]), none, none, some (.var [.t (.v (.bool ps)), .t (.lst false pr)])]
theorem qone_ex {x : Int} {s : Bool} {r : Abs.Rows} (hx : IsI x s r) : ∃ b : Bool, (b = true ↔ x = 1) /\ ACall Tryz.prog 72 [.val (.agg (iT s r))] ⟨[.val (tb b)], [none]⟩ := ⟨decide (x = 1), by simp, qone_call hx⟩
theorem qbt {x y : Int} {s t : Bool} {r q : Abs.Rows} (hx : IsI x s r) (hy : IsI y t q) (h1 : nl x.natAbs <= 274877906944) (h2 : nl y.natAbs <= 274877906944) :
  ∃ u w, IsI (x * y) u w /\ ACall Tryz.prog 60 [.val (tl [iT s r, iT t q])] ⟨[.val (.agg (iT u w))], [none]⟩ := by
 obtain ⟨u, w, h⟩ : ∃ u w, IsI (x * y) u w := ⟨_, _, .mk' _⟩
 obtain ⟨a, b, ho, co⟩ := iof_call 1 (by omega) (by omega)
 have n1 : nl (1 : Int).natAbs <= 274877906944 := Nat.le_trans (qam (k := 1) (by omega)) (by omega)
 refine ⟨u, w, h, ?_⟩
 obtain ⟨R, hR⟩ : ∃ R, R = ([[.v (.bool s), .lst false r], [.v (.bool t), .lst false q]] : Abs.Rows) := ⟨_, rfl⟩
 rw [show ([iT s r, iT t q] : Abs.Rows) = R from hR.symm]
 refine callZ ccOk mixed [.val] Tryz.func60 rfl rfl (by kernel_rfl) fun zA zB zC zD zE zF zG zH zI zJ zK zL zM zN zO zP zQ zR zS zT zU zV zX zY zZ za zb zc zd ze zg zh zi zj zk zl zm zn zo zq zr zt zu zw zx zy zz zW zth A L F hS hF => ?_
 obtain ⟨N, hN, hN2⟩ : ∃ N : Int, N = 2 /\ zY (zh R) = N := ⟨_, rfl, by rw [hS.len, hS.ofN, hR]; rfl⟩
 have hz0 : zi R (zV 0) = some [.v (.bool s), .lst false r] := by rw [hS.nat, hS.nth, hR]; rfl
 have hz1 : zi R (zV 1) = some [.v (.bool t), .lst false q] := by rw [hS.nat, hS.nth, hR]; rfl
 clear hR
 cbv
 refine ⟨_, hS.call (co), ?_⟩
 cbv
 refine loopZ ccOk mixed hS (fun (m : Nat) s' => ∃ (ps : Bool) (pr : Abs.Rows), (m = 2 /\ IsI 1 ps pr /\ s' = proSt R ps pr N 0) ∨ (m = 1 /\ IsI x ps pr /\ s' = proSt R ps pr N 1) ∨ (m = 0 /\ IsI (x * y) ps pr /\ s' = proSt R ps pr N 2)) (n := 2) (s0 := proSt R a b N 0) (qat ?_ ?_) rfl (by show 1 <= 5; omega) ?_ ?_
 ·simp [leT, proSt, mkSt, vi, hN2]
 ·simp [leH, proSt, mkSt]
 ·exact ⟨a, b, .inl ⟨rfl, ho, rfl⟩⟩
 ·rintro m s1 ⟨ps, pr, ⟨hm0, hp, hs1⟩ | ⟨hm0, hp, hs1⟩ | ⟨hm0, hp, hs1⟩⟩
  ·have hmm : m - 1 < m := by omega
   have nxt : ∀ us ur, IsI (1 * x) us ur -> ∃ (ps : Bool) (pr : Abs.Rows), (m - 1 = 2 /\ IsI 1 ps pr /\ proSt R us ur N 1 = proSt R ps pr N 0) ∨ (m - 1 = 1 /\ IsI x ps pr /\ proSt R us ur N 1 = proSt R ps pr N 1) ∨ (m - 1 = 0 /\ IsI (x * y) ps pr /\ proSt R us ur N 1 = proSt R ps pr N 2) := fun us ur hu =>
    ⟨us, ur, .inr (.inl ⟨by omega, hu.of (Int.one_mul x), rfl⟩)⟩
   have k1 : zO 0 N = true := by rw [hS.lt]; exact decide_eq_true (by omega)
   have g0 : zP 0 0 = true := by rw [hS.le]; rfl
   obtain ⟨b1, hb1, c1⟩ := qone_ex hx
   obtain ⟨b2, hb2, c2⟩ := qone_ex hp
   obtain ⟨mu, mw, hm, c3⟩ := imul_call hp hx (by omega) (by omega)
   have ii : zA .i64 (zB 0 1) = 1 := by rw [hS.add, hS.wrap]; rfl
   cases b1 with
   | true =>
    have h1 := hb1.1 rfl
    have hnx := nxt ps pr (hp.of (by rw [h1, Int.mul_one]))
    subst hs1
    cbv
    refine bT k1 ?_
    rw [hz0]
    cbv
    refine nd (g0) ?_
    refine ⟨_, hS.call (c1), ?_⟩
    cbv
    refine bT ((rfl : true = true)) ?_
    exact again (s' := proSt R ps pr N 1) (m := m - 1) (by simp [leT, proSt, mkSt, vi, ii]) (by simp [leH, proSt, mkSt]) rfl (by show 1 <= 5; omega) hmm hnx
   | false =>
    cases b2 with
    | true =>
     have h2 := hb2.1 rfl
     have hnx := nxt s r (hx.of (by rw [h2, Int.one_mul]))
     subst hs1
     cbv
     refine bT k1 ?_
     rw [hz0]
     cbv
     refine nd (g0) ?_
     refine ⟨_, hS.call (c1), ?_⟩
     cbv
     refine bF ((rfl : false = false)) ?_
     refine ⟨_, hS.call (c2), ?_⟩
     cbv
     refine bT ((rfl : true = true)) ?_
     exact again (s' := proSt R s r N 1) (m := m - 1) (by simp [leT, proSt, mkSt, vi, ii]) (by simp [leH, proSt, mkSt]) rfl (by show 1 <= 5; omega) hmm hnx
    | false =>
     have hnx := nxt mu mw hm
     subst hs1
     cbv
     refine bT k1 ?_
     rw [hz0]
     cbv
     refine nd (g0) ?_
     refine ⟨_, hS.call (c1), ?_⟩
     cbv
     refine bF ((rfl : false = false)) ?_
     refine ⟨_, hS.call (c2), ?_⟩
     cbv
     refine bF ((rfl : false = false)) ?_
     refine ⟨_, hS.call (c3), ?_⟩
     cbv
     exact again (s' := proSt R mu mw N 1) (m := m - 1) (by simp [leT, proSt, mkSt, vi, ii]) (by simp [leH, proSt, mkSt]) rfl (by show 1 <= 5; omega) hmm hnx
  ·have hmm : m - 1 < m := by omega
   have nxt : ∀ us ur, IsI (x * y) us ur -> ∃ (ps : Bool) (pr : Abs.Rows), (m - 1 = 2 /\ IsI 1 ps pr /\ proSt R us ur N 2 = proSt R ps pr N 0) ∨ (m - 1 = 1 /\ IsI x ps pr /\ proSt R us ur N 2 = proSt R ps pr N 1) ∨ (m - 1 = 0 /\ IsI (x * y) ps pr /\ proSt R us ur N 2 = proSt R ps pr N 2) := fun us ur hu =>
    ⟨us, ur, .inr (.inr ⟨by omega, hu, rfl⟩)⟩
   have k1 : zO 1 N = true := by rw [hS.lt]; exact decide_eq_true (by omega)
   have g0 : zP 0 1 = true := by rw [hS.le]; rfl
   obtain ⟨b1, hb1, c1⟩ := qone_ex hy
   obtain ⟨b2, hb2, c2⟩ := qone_ex hp
   obtain ⟨mu, mw, hm, c3⟩ := imul_call hp hy (by omega) (by omega)
   have ii : zA .i64 (zB 1 1) = 2 := by rw [hS.add, hS.wrap]; rfl
   cases b1 with
   | true =>
    have h1 := hb1.1 rfl
    have hnx := nxt ps pr (hp.of (by rw [h1, Int.mul_one]))
    subst hs1
    cbv
    refine bT k1 ?_
    rw [hz1]
    cbv
    refine nd (g0) ?_
    refine ⟨_, hS.call (c1), ?_⟩
    cbv
    refine bT ((rfl : true = true)) ?_
    exact again (s' := proSt R ps pr N 2) (m := m - 1) (by simp [leT, proSt, mkSt, vi, ii]) (by simp [leH, proSt, mkSt]) rfl (by show 1 <= 5; omega) hmm hnx
   | false =>
    cases b2 with
    | true =>
     have h2 := hb2.1 rfl
     have hnx := nxt t q (hy.of (by rw [h2, Int.one_mul]))
     subst hs1
     cbv
     refine bT k1 ?_
     rw [hz1]
     cbv
     refine nd (g0) ?_
     refine ⟨_, hS.call (c1), ?_⟩
     cbv
     refine bF ((rfl : false = false)) ?_
     refine ⟨_, hS.call (c2), ?_⟩
     cbv
     refine bT ((rfl : true = true)) ?_
     exact again (s' := proSt R t q N 2) (m := m - 1) (by simp [leT, proSt, mkSt, vi, ii]) (by simp [leH, proSt, mkSt]) rfl (by show 1 <= 5; omega) hmm hnx
    | false =>
     have hnx := nxt mu mw hm
     subst hs1
     cbv
     refine bT k1 ?_
     rw [hz1]
     cbv
     refine nd (g0) ?_
     refine ⟨_, hS.call (c1), ?_⟩
     cbv
     refine bF ((rfl : false = false)) ?_
     refine ⟨_, hS.call (c2), ?_⟩
     cbv
     refine bF ((rfl : false = false)) ?_
     refine ⟨_, hS.call (c3), ?_⟩
     cbv
     exact again (s' := proSt R mu mw N 2) (m := m - 1) (by simp [leT, proSt, mkSt, vi, ii]) (by simp [leH, proSt, mkSt]) rfl (by show 1 <= 5; omega) hmm hnx
  ·have k1 : zO 2 N = false := by rw [hS.lt]; exact decide_eq_false (by omega)
   obtain ⟨e1, e2⟩ := hp.inj h
   subst e1 e2
   subst hs1
   cbv
   refine bF (k1) ?_
   exact hF _ (ResLe.refl _)
open Go Go.Abs Go.Abs.M Go.Proofs
def madeN (n k : Int) : Int := if k % 8 = 7 then n * (4611686018427387904 + k) * (4611686018427387904 + k) + k else n
def madeD (d k : Int) : Int := if k % 8 = 6 then (if d = 0 then 1 else d) * (4611686018427387904 + k) * (4611686018427387904 + k) else if d = 0 then 1 else d
def madeQ (n d k : Int) : Rat := Rat.divInt (madeN n k) (madeD d k)
theorem made_nd {n d k : Int} (n1 : -128 <= n) (n2 : n < 128) (d1 : -128 <= d) (d2 : d < 128) (k1 : 0 <= k) (k2 : k < 256) : nl (madeN n k).natAbs <= 8 /\ nl (madeD d k).natAbs <= 8 /\ madeD d k ≠ 0 := by
 have b : nl (4611686018427387904 + k).natAbs <= 2 := qam (by omega)
 have sa : nl n.natAbs <= 1 := qam (by omega)
 have sb : nl d.natAbs <= 1 := qam (by omega)
 have s1 : nl (1 : Int).natAbs <= 1 := qam (by omega)
 have sk : nl k.natAbs <= 1 := qam (by omega)
 refine ⟨?_, ?_, ?_⟩
 ·unfold madeN
  split
  ·have h1 := qbg (n.natAbs * (4611686018427387904 + k).natAbs) (4611686018427387904 + k).natAbs
   have h2 := qbg n.natAbs (4611686018427387904 + k).natAbs
   have h3 := nl_add (n * (4611686018427387904 + k) * (4611686018427387904 + k)).natAbs k.natAbs
   rw [Int.natAbs_mul, Int.natAbs_mul] at h3
   have h4 := qau (Int.natAbs_add_le (n * (4611686018427387904 + k) * (4611686018427387904 + k)) k)
   rw [Int.natAbs_mul, Int.natAbs_mul] at h4
   omega
  ·omega
 ·have key : ∀ x : Int, nl x.natAbs <= 1 -> nl (x * (4611686018427387904 + k) * (4611686018427387904 + k)).natAbs <= 8 := fun x hx => by
   rw [Int.natAbs_mul, Int.natAbs_mul]
   have h1 := qbg (x.natAbs * (4611686018427387904 + k).natAbs) (4611686018427387904 + k).natAbs
   have h2 := qbg x.natAbs (4611686018427387904 + k).natAbs
   omega
  unfold madeD
  split
  ·exact key _ (by split <;> omega)
  ·split <;> omega
 ·unfold madeD
  split
  ·exact Int.mul_ne_zero (Int.mul_ne_zero (by split <;> omega) (by omega)) (by omega)
  ·split <;> omega
theorem rmade2_call (n d k : Int) (n1 : -128 <= n) (n2 : n < 128) (d1 : -128 <= d) (d2 : d < 128) (k1 : 0 <= k) (k2 : k < 256) :
  ∃ u w v p, IsR (madeQ n d k) u w v p /\ ACall Tryz.prog 47 [.val (.agg [.v (.int .i8 n), .v (.int .i8 d), .v (.int .u8 k)])] ⟨[.val (.agg (iT u w ++ iT v p))], [none]⟩ := by
 obtain ⟨a1, a2, ha, ca⟩ := rof_call n (by omega) (by omega)
 obtain ⟨b1, b2, hb, cb⟩ := rof_call d (by omega) (by omega)
 obtain ⟨f1, f2, hf, cf⟩ := rof_call 1 (by omega) (by omega)
 obtain ⟨c1, c2, hc, cc⟩ := rof_call (4611686018427387904 + k) (by omega) (by omega)
 obtain ⟨e1, e2, he, ce⟩ := rof_call k (by omega) (by omega)
 obtain ⟨s1, s2, s3⟩ := made_nd n1 n2 d1 d2 k1 k2
 have sc : nl (4611686018427387904 + k).natAbs <= 2 := qam (by omega)
 have sa : nl n.natAbs <= 2 := qam (by omega)
 have sb : nl d.natAbs <= 2 := qam (by omega)
 have s1' : nl (1 : Int).natAbs <= 2 := qam (by omega)
 have sk : nl k.natAbs <= 2 := qam (by omega)
 obtain ⟨D, hD⟩ : ∃ D, D = if d = 0 then 1 else d := ⟨_, rfl⟩
 obtain ⟨g1, g2, hg, hgd, sg⟩ : ∃ g1 g2, IsI D g1 g2 /\ (if d = 0 then g1 = f1 /\ g2 = f2 else g1 = b1 /\ g2 = b2) /\ nl D.natAbs <= 2 := by
  by_cases h : d = 0
  ·rw [if_pos h] at hD; subst hD; exact ⟨f1, f2, hf, by rw [if_pos h]; exact ⟨rfl, rfl⟩, s1'⟩
  ·rw [if_neg h] at hD; subst hD; exact ⟨b1, b2, hb, by rw [if_neg h]; exact ⟨rfl, rfl⟩, sb⟩
 obtain ⟨big, hbig⟩ : ∃ big, big = 4611686018427387904 + k := ⟨_, rfl⟩
 have eN7 : k % 8 = 7 -> madeN n k = n * big * big + k := fun h => by unfold madeN; rw [if_pos h, hbig]
 have eN : ¬ k % 8 = 7 -> madeN n k = n := fun h => by unfold madeN; rw [if_neg h]
 have eD6 : k % 8 = 6 -> madeD d k = D * big * big := fun h => by unfold madeD; rw [if_pos h, hbig, hD]
 have eD : ¬ k % 8 = 6 -> madeD d k = D := fun h => by unfold madeD; rw [if_neg h, hD]
 unfold madeQ
 rw [<- hbig] at hc cc sc
 obtain ⟨i1, i2, hi, ci⟩ := qbv ha hc (by omega) (by omega)
 obtain ⟨j1, j2, hj, cj⟩ := qbv hi hc (by rw [Int.natAbs_mul]; have := qbg n.natAbs big.natAbs; omega) (by omega)
 have sj : nl (n * big * big).natAbs <= 7 := by
  rw [Int.natAbs_mul, Int.natAbs_mul]
  have h1 := qbg (n.natAbs * big.natAbs) big.natAbs
  have h2 := qbg n.natAbs big.natAbs
  omega
 obtain ⟨l1, l2, hl, cl⟩ := radd_call hj he (by omega) (by omega)
 obtain ⟨m1, m2, hm, cm⟩ := qbv hg hc (by omega) (by omega)
 obtain ⟨o1, o2, ho, co⟩ := qbv hm hc (by rw [Int.natAbs_mul]; have := qbg D.natAbs big.natAbs; omega) (by omega)
 by_cases h7 : k % 8 = 7
 ·have h6 : ¬ k % 8 = 6 := by omega
  rw [eN7 h7] at s1
  rw [eD h6] at s2 s3
  rw [eN7 h7, eD h6]
  obtain ⟨u, w, v, p, hq, cq⟩ := rlowest_call hl hg s3 (by omega) (by omega)
  refine ⟨u, w, v, p, hq, ?_⟩
  clear hq s1 s2 s3 sj sg sk s1' sb sa sc hD hc eN7 eN eD6 eD
  refine callZ ccOk mixed [.val] Tryz.func47 rfl rfl (by kernel_rfl) fun zA zB zC zD zE zF zG zH zI zJ zK zL zM zN zO zP zQ zR zS zT zU zV zX zY zZ za zb zc zd ze zg zh zi zj zk zl zm zn zo zq zr zt zu zw zx zy zz zW zth A L F hS hF => ?_
  have w1 : zA .i64 n = n := by rw [hS.wrap, wrap_i64 (by omega) (by omega)]
  have w2 : zA .i64 d = d := by rw [hS.wrap, wrap_i64 (by omega) (by omega)]
  have w3 : zA .i64 k = k := by rw [hS.wrap, wrap_i64 (by omega) (by omega)]
  have w4 : zA .i64 (zB 4611686018427387904 k) = big := by rw [hS.wrap, hS.add, wrap_i64 (by omega) (by omega), hbig]
  have w5 : zM (zF k 8) 7 = true := by rw [hS.eq, hS.rem, Int.tmod_eq_emod_of_nonneg k1]; exact decide_eq_true h7
  have w6 : zM (zF k 8) 6 = false := by rw [hS.eq, hS.rem, Int.tmod_eq_emod_of_nonneg k1]; exact decide_eq_false h6
  cbv
  rw [w1]
  refine ⟨_, hS.call (ca), ?_⟩
  cbv
  rw [w2]
  refine ⟨_, hS.call (cb), ?_⟩
  cbv
  refine ⟨fun hh => ?_, fun hh => ?_⟩
  all_goals rw [hS.eq] at hh
  ·rw [if_pos (of_decide_eq_true hh)] at hgd
   obtain ⟨rfl, rfl⟩ := hgd
   refine ⟨_, hS.call (cf), ?_⟩
   cbv
   rw [w3, w4]
   refine ⟨_, hS.call (cc), ?_⟩
   cbv
   refine bT (w5) ?_
   refine ⟨_, hS.call (ci), ?_⟩
   cbv
   refine ⟨_, hS.call (cj), ?_⟩
   cbv
   rw [w3]
   refine ⟨_, hS.call (ce), ?_⟩
   cbv
   refine ⟨_, hS.call (cl), ?_⟩
   cbv
   refine bF (w6) ?_
   refine ⟨_, hS.call (cq), ?_⟩
   cbv
   exact hF _ (ResLe.refl _)
  ·rw [if_neg (of_decide_eq_false hh)] at hgd
   obtain ⟨rfl, rfl⟩ := hgd
   rw [w3, w4]
   refine ⟨_, hS.call (cc), ?_⟩
   cbv
   refine bT (w5) ?_
   refine ⟨_, hS.call (ci), ?_⟩
   cbv
   refine ⟨_, hS.call (cj), ?_⟩
   cbv
   rw [w3]
   refine ⟨_, hS.call (ce), ?_⟩
   cbv
   refine ⟨_, hS.call (cl), ?_⟩
   cbv
   refine bF (w6) ?_
   refine ⟨_, hS.call (cq), ?_⟩
   cbv
   exact hF _ (ResLe.refl _)
 ·by_cases h6 : k % 8 = 6
  ·rw [eN h7] at s1
   rw [eD6 h6] at s2 s3
   rw [eN h7, eD6 h6]
   obtain ⟨u, w, v, p, hq, cq⟩ := rlowest_call ha ho s3 (by omega) (by omega)
   refine ⟨u, w, v, p, hq, ?_⟩
   clear hq s1 s2 s3 sj sg sk s1' sb sa sc hD hc eN7 eN eD6 eD
   refine callZ ccOk mixed [.val] Tryz.func47 rfl rfl (by kernel_rfl) fun zA zB zC zD zE zF zG zH zI zJ zK zL zM zN zO zP zQ zR zS zT zU zV zX zY zZ za zb zc zd ze zg zh zi zj zk zl zm zn zo zq zr zt zu zw zx zy zz zW zth A L F hS hF => ?_
   have w1 : zA .i64 n = n := by rw [hS.wrap, wrap_i64 (by omega) (by omega)]
   have w2 : zA .i64 d = d := by rw [hS.wrap, wrap_i64 (by omega) (by omega)]
   have w3 : zA .i64 k = k := by rw [hS.wrap, wrap_i64 (by omega) (by omega)]
   have w4 : zA .i64 (zB 4611686018427387904 k) = big := by rw [hS.wrap, hS.add, wrap_i64 (by omega) (by omega), hbig]
   have w5 : zM (zF k 8) 7 = false := by rw [hS.eq, hS.rem, Int.tmod_eq_emod_of_nonneg k1]; exact decide_eq_false h7
   have w6 : zM (zF k 8) 6 = true := by rw [hS.eq, hS.rem, Int.tmod_eq_emod_of_nonneg k1]; exact decide_eq_true h6
   cbv
   rw [w1]
   refine ⟨_, hS.call (ca), ?_⟩
   cbv
   rw [w2]
   refine ⟨_, hS.call (cb), ?_⟩
   cbv
   refine ⟨fun hh => ?_, fun hh => ?_⟩
   all_goals rw [hS.eq] at hh
   ·rw [if_pos (of_decide_eq_true hh)] at hgd
    obtain ⟨rfl, rfl⟩ := hgd
    refine ⟨_, hS.call (cf), ?_⟩
    cbv
    rw [w3, w4]
    refine ⟨_, hS.call (cc), ?_⟩
    cbv
    refine bF (w5) ?_
    refine bT (w6) ?_
    refine ⟨_, hS.call (cm), ?_⟩
    cbv
    refine ⟨_, hS.call (co), ?_⟩
    cbv
    refine ⟨_, hS.call (cq), ?_⟩
    cbv
    exact hF _ (ResLe.refl _)
   ·rw [if_neg (of_decide_eq_false hh)] at hgd
    obtain ⟨rfl, rfl⟩ := hgd
    rw [w3, w4]
    refine ⟨_, hS.call (cc), ?_⟩
    cbv
    refine bF (w5) ?_
    refine bT (w6) ?_
    refine ⟨_, hS.call (cm), ?_⟩
    cbv
    refine ⟨_, hS.call (co), ?_⟩
    cbv
    refine ⟨_, hS.call (cq), ?_⟩
    cbv
    exact hF _ (ResLe.refl _)
  ·rw [eN h7] at s1
   rw [eD h6] at s2 s3
   rw [eN h7, eD h6]
   obtain ⟨u, w, v, p, hq, cq⟩ := rlowest_call ha hg s3 (by omega) (by omega)
   refine ⟨u, w, v, p, hq, ?_⟩
   clear hq s1 s2 s3 sj sg sk s1' sb sa sc hD hc eN7 eN eD6 eD
   refine callZ ccOk mixed [.val] Tryz.func47 rfl rfl (by kernel_rfl) fun zA zB zC zD zE zF zG zH zI zJ zK zL zM zN zO zP zQ zR zS zT zU zV zX zY zZ za zb zc zd ze zg zh zi zj zk zl zm zn zo zq zr zt zu zw zx zy zz zW zth A L F hS hF => ?_
   have w1 : zA .i64 n = n := by rw [hS.wrap, wrap_i64 (by omega) (by omega)]
   have w2 : zA .i64 d = d := by rw [hS.wrap, wrap_i64 (by omega) (by omega)]
   have w3 : zA .i64 k = k := by rw [hS.wrap, wrap_i64 (by omega) (by omega)]
   have w4 : zA .i64 (zB 4611686018427387904 k) = big := by rw [hS.wrap, hS.add, wrap_i64 (by omega) (by omega), hbig]
   have w5 : zM (zF k 8) 7 = false := by rw [hS.eq, hS.rem, Int.tmod_eq_emod_of_nonneg k1]; exact decide_eq_false h7
   have w6 : zM (zF k 8) 6 = false := by rw [hS.eq, hS.rem, Int.tmod_eq_emod_of_nonneg k1]; exact decide_eq_false h6
   cbv
   rw [w1]
   refine ⟨_, hS.call (ca), ?_⟩
   cbv
   rw [w2]
   refine ⟨_, hS.call (cb), ?_⟩
   cbv
   refine ⟨fun hh => ?_, fun hh => ?_⟩
   all_goals rw [hS.eq] at hh
   ·rw [if_pos (of_decide_eq_true hh)] at hgd
    obtain ⟨rfl, rfl⟩ := hgd
    refine ⟨_, hS.call (cf), ?_⟩
    cbv
    rw [w3, w4]
    refine ⟨_, hS.call (cc), ?_⟩
    cbv
    refine bF (w5) ?_
    refine bF (w6) ?_
    refine ⟨_, hS.call (cq), ?_⟩
    cbv
    exact hF _ (ResLe.refl _)
   ·rw [if_neg (of_decide_eq_false hh)] at hgd
    obtain ⟨rfl, rfl⟩ := hgd
    rw [w3, w4]
    refine ⟨_, hS.call (cc), ?_⟩
    cbv
    refine bF (w5) ?_
    refine bF (w6) ?_
    refine ⟨_, hS.call (cq), ?_⟩
    cbv
    exact hF _ (ResLe.refl _)
open Go Go.Abs Go.Abs.M Go.Proofs
theorem divInt_small {n d : Int} {k : Nat} (hd : d ≠ 0) (h1 : nl n.natAbs <= k) (h2 : nl d.natAbs <= k) : Qs (Rat.divInt n d) k := by
 constructor
 ·rw [<- lowest_num hd]
  have := qau (Int.natAbs_ediv_le_natAbs n (if d < 0 then -(Int.gcd n d : Int) else (Int.gcd n d : Int)))
  omega
 ·have e := lowest_den (n := n) hd
  have := qau (Int.natAbs_ediv_le_natAbs d (if d < 0 then -(Int.gcd n d : Int) else (Int.gcd n d : Int)))
  rw [e, Int.natAbs_natCast] at this
  omega
theorem Qs.mono {x : Rat} {a b : Nat} (h : Qs x a) (hab : a <= b) : Qs x b := ⟨Nat.le_trans h.1 hab, Nat.le_trans h.2 hab⟩
theorem add_small {x y : Rat} {a b : Nat} (hx : Qs x a) (hy : Qs y b) : Qs (x + y) (a + b + 1) := by
 obtain ⟨x1, x2⟩ := hx
 obtain ⟨y1, y2⟩ := hy
 have hx0 := x.den_nz
 have hy0 := y.den_nz
 have h : x + y = Rat.divInt (x.num * y.den + y.num * x.den) (x.den * y.den) := by
  rw [<- Rat.divInt_add_divInt _ _ (by omega) (by omega), Rat.num_divInt_den, Rat.num_divInt_den]
 rw [h]
 have n1 := qbg x.num.natAbs y.den
 have n2 := qbg y.num.natAbs x.den
 have n3 := qbg x.den y.den
 refine divInt_small (Int.mul_ne_zero (by omega) (by omega)) ?_ ?_
 ·have h1 := qau (Int.natAbs_add_le (x.num * y.den) (y.num * x.den))
  have h2 := nl_add (x.num * y.den).natAbs (y.num * x.den).natAbs
  rw [Int.natAbs_mul, Int.natAbs_mul, Int.natAbs_natCast, Int.natAbs_natCast] at h2
  rw [Int.natAbs_mul, Int.natAbs_mul, Int.natAbs_natCast, Int.natAbs_natCast] at h1
  omega
 ·rw [Int.natAbs_mul, Int.natAbs_natCast, Int.natAbs_natCast]; omega
theorem mul_small {x y : Rat} {a b : Nat} (hx : Qs x a) (hy : Qs y b) : Qs (x * y) (a + b) := by
 obtain ⟨x1, x2⟩ := hx
 obtain ⟨y1, y2⟩ := hy
 have hx0 := x.den_nz
 have hy0 := y.den_nz
 have h : x * y = Rat.divInt (x.num * y.num) (x.den * y.den) := by
  rw [<- Rat.divInt_mul_divInt, Rat.num_divInt_den, Rat.num_divInt_den]
 rw [h]
 have n1 := qbg x.num.natAbs y.num.natAbs
 have n3 := qbg x.den y.den
 refine divInt_small (Int.mul_ne_zero (by omega) (by omega)) ?_ ?_
 ·rw [Int.natAbs_mul]; omega
 ·rw [Int.natAbs_mul, Int.natAbs_natCast, Int.natAbs_natCast]; omega
open Go Go.Abs Go.Abs.M Go.Proofs
def ruvSt (R : Abs.Rows) (i : Int) : St := mkSt 29 [.c (.t (.lst false R)), .junk, vb false, vi .i64 i] [none]
theorem ruvalid_gen (cs : List QC) (b : Bool) (hb : b = true ↔ UOk cs) (hl : cs.length <= 1000)
  (hv : ∀ c ∈ cs, ∃ b1 : Bool, (b1 = true ↔ c.can) /\ ACall Tryz.prog 57 [.val (.agg c.row)] ⟨[.val (tb b1)], [none]⟩)
  (hs : ∀ c ∈ cs, c.can -> ∃ k : Int, (k = 0 ↔ c.l = []) /\ ACall Tryz.prog 58 [.val (.agg c.row)] ⟨[.val (ti .i64 k)], [none]⟩) :
  ACall Tryz.prog 33 [.val (tl (qrows cs))] ⟨[.val (tb b)], [none]⟩ := by
 obtain ⟨R, hR⟩ : ∃ R, R = qrows cs := ⟨_, rfl⟩
 obtain ⟨n, hn⟩ : ∃ n, n = cs.length := ⟨_, rfl⟩
 have hRl : R.length = n := by rw [hR, qrows_len, hn]
 have hget : ∀ i, i < n -> ∃ c ∈ cs, cs[i]? = some c /\ ∃ (s t : Bool) (r q : Abs.Rows), c.row = [.v (.bool s), .lst false r, .v (.bool t), .lst false q] /\ R[i]? = some c.row := fun i hi => by
  have h : cs[i]? = some cs[i] := List.getElem?_eq_getElem (by omega)
  have h2 := qrows_get h
  rw [<- hR] at h2
  exact ⟨_, List.mem_of_getElem? h, h, _, _, _, _, rfl, h2⟩
 have hbf : ∀ c ∈ cs, ¬ c.can -> false = b := fun c hc h => by
  cases b with
  | false => rfl
  | true => exact absurd ((hb.1 rfl).1 c hc) h
 have hend : (∀ i c, i < n -> cs[i]? = some c -> c.can) -> (n = 0 -> true = b) /\ ∀ c, cs[n - 1]? = some c -> decide (c.l ≠ []) = b := fun h => by
  have hall : ∀ c ∈ cs, c.can := fun c hc => by
   obtain ⟨i, hi⟩ := List.getElem?_of_mem hc
   exact h i c (by rw [hn]; exact (List.getElem?_eq_some_iff.1 hi).1) hi
  refine ⟨fun h0 => ?_, fun c hc => ?_⟩
  ·have : cs = [] := List.length_eq_zero_iff.1 (by omega)
   exact (hb.2 ⟨hall, fun c hc => by rw [this] at hc; cases hc⟩).symm
  ·have hlast : cs.getLast? = some c := by rw [List.getLast?_eq_getElem?, <- hn]; exact hc
   cases b with
   | false => exact decide_eq_false fun hne => absurd (hb.2 ⟨hall, fun c' hc' => by rw [hlast] at hc'; cases hc'; exact hne⟩) (by simp)
   | true => exact decide_eq_true ((hb.1 rfl).2 c hlast)
 rw [<- hR]
 clear hR hb
 refine callZ ccOk mixed [.val] Tryz.func33 rfl rfl (by kernel_rfl) fun zA zB zC zD zE zF zG zH zI zJ zK zL zM zN zO zP zQ zR zS zT zU zV zX zY zZ za zb zc zd ze zg zh zi zj zk zl zm zn zo zq zr zt zu zw zx zy zz zW zth A L F hS hF => ?_
 have hlx : zh R = n := by rw [hS.len, hRl]
 have y1 : zQ true = false := hS.not true
 have y2 : zQ false = true := hS.not false
 obtain ⟨N, hN, hN2⟩ : ∃ N : Int, N = n /\ zY (zh R) = N := ⟨_, rfl, by rw [hlx, hS.ofN]⟩
 cbv
 have hN : N = (n : Int) := hN
 refine loopZ ccOk mixed hS (fun (j : Nat) s' => ∃ (i : Nat) (I : Int), I = i /\ i + j = n /\ (∀ k c, k < i -> cs[k]? = some c -> c.can) /\ s' = ruvSt R I) (n := n) (s0 := ruvSt R 0) (qat ?_ ?_) rfl (Nat.le_refl 1) ?_ ?_
 ·simp [leT, ruvSt, mkSt, vi, vb]
 ·simp [leH, ruvSt, mkSt]
 ·exact ⟨0, 0, rfl, by omega, fun k c hk => by omega, rfl⟩
 ·rintro j s1 ⟨i, I, hI, hij, hpre, hs1⟩
  have hnat : zV I = i := by rw [hS.nat]; omega
  have g0 : zP 0 I = true := by rw [hS.le]; exact decide_eq_true (by omega)
  by_cases hi : i < n
  ·have l1 : zO I (zY (zh R)) = true := by rw [hN2, hS.lt]; exact decide_eq_true (by omega)
   obtain ⟨c, hc, hci, s, t, r, q, hrow, hnth⟩ := hget i hi
   obtain ⟨b1, hb1, cv⟩ := hv c hc
   have hz : zi R (zV I) = some [.v (.bool s), .lst false r, .v (.bool t), .lst false q] := by rw [hnat, hS.nth, hnth, hrow]
   rw [hrow] at cv
   have hf := hbf c hc
   cases b1 with
   | false =>
    have hfb := hf fun h => absurd (hb1.2 h) (by simp)
    clear hget hv hs hbf hend hpre hf
    subst hs1
    cbv
    refine bT l1 ?_
    rw [hz]
    cbv
    refine nd (g0) ?_
    refine ⟨_, hS.call (cv), ?_⟩
    cbv
    refine bT (y2) ?_
    exact fin1 hF (tv_bool hfb)
   | true =>
    have hjj : j - 1 < j := by omega
    obtain ⟨I', hI', i1⟩ : ∃ I' : Int, I' = ((i + 1 : Nat) : Int) /\ zA .i64 (zB I 1) = I' := ⟨I + 1, by omega, by rw [hS.add, hS.wrap, wrap_i64 (by omega) (by omega)]⟩
    have hnx : ∃ (i2 : Nat) (I2 : Int), I2 = i2 /\ i2 + (j - 1) = n /\ (∀ k c, k < i2 -> cs[k]? = some c -> c.can) /\ ruvSt R I' = ruvSt R I2 := ⟨i + 1, I', hI', by omega, fun k c' hk hc' => by
     by_cases h : k = i
     ·rw [h, hci] at hc'; cases hc'; exact hb1.1 rfl
     ·exact hpre k c' (by omega) hc', rfl⟩
    clear hget hv hs hbf hend hpre hf hb1
    subst hs1
    cbv
    refine bT l1 ?_
    rw [hz]
    cbv
    refine nd (g0) ?_
    refine ⟨_, hS.call (cv), ?_⟩
    cbv
    refine bF (y1) ?_
    exact again (s' := ruvSt R I') (m := j - 1) (by simp [leT, ruvSt, mkSt, vi, vb, i1]) (by simp [leH, ruvSt, mkSt]) rfl (Nat.le_refl 1) hjj hnx
  ·have l1 : zO I (zY (zh R)) = false := by rw [hN2, hS.lt]; exact decide_eq_false (by omega)
   have hin : i = n := by omega
   obtain ⟨he1, he2⟩ := hend fun k c hk hc => hpre k c (by omega) hc
   have e0 : zM (zY (zh R)) 0 = decide (n = 0) := by
    rw [hN2, hS.eq]
    by_cases h : n = 0
    ·rw [decide_eq_true h]; exact decide_eq_true (by omega)
    ·rw [decide_eq_false h]; exact decide_eq_false (by omega)
   by_cases hn0 : n = 0
   ·have hT := he1 hn0
    rw [decide_eq_true hn0] at e0
    clear hget hv hs hbf hend hpre
    subst hs1
    cbv
    exact bF l1 (bT e0 (fin1 hF (tv_bool hT)))
   ·rw [decide_eq_false hn0] at e0
    obtain ⟨c, hc, hci, s, t, r, q, hrow, hnth⟩ := hget (n - 1) (by omega)
    obtain ⟨k, hk, cg⟩ := hs c hc (hpre (n - 1) c (by omega) hci)
    have hfin := he2 c hci
    obtain ⟨J, hJ, j1⟩ : ∃ J : Int, J = ((n - 1 : Nat) : Int) /\ zA .i64 (zC (zY (zh R)) 1) = J := ⟨N - 1, by omega, by rw [hN2, hS.sub, hS.wrap, wrap_i64 (by omega) (by omega)]⟩
    have g1 : zP 0 J = true := by rw [hS.le]; exact decide_eq_true (by omega)
    have hz : zi R (zV J) = some [.v (.bool s), .lst false r, .v (.bool t), .lst false q] := by rw [hS.nat, hJ, Int.toNat_natCast, hS.nth, hnth, hrow]
    rw [hrow] at cg
    have e9 : zN k 0 = b := by
     rw [hS.ne, <- hfin]
     by_cases h : k = 0
     ·rw [decide_eq_false (by omega), decide_eq_false (by have := hk.1 h; simp [this])]
     ·rw [decide_eq_true h]; exact (decide_eq_true (p := ¬ c.l = []) fun h' => h (hk.2 h')).symm
    clear hget hv hs hbf hend hpre he1 he2 hk hfin hc hci
    subst hs1
    cbv
    refine bF l1 (bF e0 ?_)
    rw [j1, hz]
    cbv
    refine nd (g1) ?_
    refine ⟨_, hS.call (cg), ?_⟩
    cbv
    exact fin1 hF (tv_bool e9)
end Go.Proofs.YtbeakmahabhacaaGreat
end
section
namespace Go.Abs
theorem LoopP.introR {P : Program} {C : Cfg} {n0 : Nat} {st : St} (hC : CfgOk P C) (hmix : P.follows .mixedOrders = true) {c : Code} {Q : AExit -> St -> Prop} (I : Nat -> St -> Prop) {n : Nat} {s0 : St} (hl : st.Le s0) (hb : s0.refsLt = true) (hk : n0 <= s0.heap.length) (h0 : I n s0)
  (round : ∀ n s, I n s -> CodeK P C n0 c s fun e s => match e with
   | .normal => ∃ ρ s', s.LeR n0 ρ s' /\ s'.refsLt = true /\ n0 <= s'.heap.length /\ ∃ m, m < n /\ I m s'
   | .exit id => Q (.exit id) s
   | .ret => Q .ret s) : LoopP P n0 c st Q := by
 refine ARun.weaken hl hb hk (ARun.loop I (fun n s hI => ARun.postRen ((CodeK.run hC hmix c s _ (round n s hI)).mono fun e s1 h1 => ?_)) h0)
 cases e with
 | normal =>
  obtain ⟨ρ, s', h2, h3, h4, m, h5, h6⟩ := h1
  exact .inr ⟨ρ, s', h2, h3, h4, m, h5, h6⟩
 | exit id => exact .inl h1
 | ret => exact .inl h1
theorem againR {s s' : St} {n0 n k : Nat} {I : Nat -> St -> Prop} (m : List (Nat × Nat)) (h1 : leTR (renF m) s.tmps s'.tmps) (h2 : leHR (renF m) s.heap 0 s'.heap) (h3 : (liveR (renF m) 0 s'.heap).Nodup) (h4 : ∀ p ∈ m, n0 <= p.1)
  (h5 : s'.refsLt = true) (h6 : n0 <= s'.heap.length) (hm : k < n) (hI : I k s') : ∃ ρ s', s.LeR n0 ρ s' /\ s'.refsLt = true /\ n0 <= s'.heap.length /\ ∃ m, m < n /\ I m s' := ⟨_, s', leR_of m h1 h2 h3 h4, h5, h6, k, hm, hI⟩
section
variable {P : Program} {C : Cfg} {n0 : Nat} {zA : IntKind -> Int -> Int} {zB : Int -> Int -> Int} {zC : Int -> Int -> Int} {zD : Int -> Int -> Int} {zE : Int -> Int -> Int} {zF : Int -> Int -> Int} {zG : IntKind -> Int -> Int -> Int} {zH : IntKind -> Int -> Int -> Int} {zI : IntKind -> Int -> Int -> Int} {zJ : IntKind -> Int -> Int -> Int} {zK : IntKind -> Int -> Int -> Int} {zL : IntKind -> Int -> Int -> Int} {zM : Int -> Int -> Bool} {zN : Int -> Int -> Bool} {zO : Int -> Int -> Bool} {zP : Int -> Int -> Bool} {zQ : Bool -> Bool} {zR : Bool -> Bool -> Bool} {zS : Bool -> Bool -> Bool} {zT : Int -> Int -> Int} {zU : Int -> Int -> Int} {zV : Int -> Nat} {zX : Int -> Nat -> Bool} {zY : Nat -> Int} {zZ : Nat -> Int -> Nat} {za : Nat -> Nat -> Bool} {zb : Nat -> Nat -> Nat} {zc : Int -> Int -> Nat} {zd : Int -> Int -> Nat -> Bool} {ze : Nat -> Nat -> Nat -> Bool} {zg : Int -> Int -> Nat -> Bool} {zh : Rows -> Nat} {zi : Rows -> Nat -> Option (List Tree)} {zj : Rows -> Nat -> List Tree -> Rows} {zk : IntKind -> Rows -> Nat -> Bool} {zl : Rows -> Nat -> Int} {zm : IntKind -> Rows -> Nat -> Int -> Rows} {zn : Nat -> Nat -> Rows -> Bool} {zo : Rows -> Nat -> Nat -> Rows} {zq : Rows -> Nat -> Rows -> Rows} {zr : Rows -> Nat -> Rows -> Rows} {zt : Nat -> List Tree -> Rows} {zu : Nat -> Rows -> Bool} {zw : List Bool -> Bool} {zx : List (Value × Tree) -> Value -> Bool} {zy : List (Value × Tree) -> Value -> Bool} {zz : List (Value × Tree) -> Value -> Tree -> List (Value × Tree)} {zW : IntKind -> List Int -> Rows} {zth : (α : Type) -> (Unit -> α) -> α} {A : FuncId -> Ask -> Ans -> Prop} {L : Code -> St -> (AExit -> ST -> Prop) -> Prop}
theorem loopZR (hC : CfgOk P C) (hmix : P.follows .mixedOrders = true) (hS : Std P n0 zA zB zC zD zE zF zG zH zI zJ zK zL zM zN zO zP zQ zR zS zT zU zV zX zY zZ za zb zc zd ze zg zh zi zj zk zl zm zn zo zq zr zt zu zw zx zy zz zW zth A L) {c : Code} {st : St} {Q : AExit -> ST -> Prop} (I : Nat -> St -> Prop) {n : Nat} {s0 : St} (hl : st.Le s0) (hb : s0.refsLt = true) (hk : n0 <= s0.heap.length) (h0 : I n s0)
  (round : ∀ n s, I n s -> CodeKZ (ZI.mk zA zB zC zD zE zF zG zH zI zJ zK zL zM zN zO zP zQ zR zS zT zU zV zX zY zZ za zb zc zd ze zg zh zi zj zk zl zm zn zo zq zr zt zu zw zx zy zz) C A L c (ST.ofSt s) fun e s => match e with
   | .normal => match s.toSt with
    | ⟨t, h⟩ => ∃ ρ s', (St.mk t h).LeR n0 ρ s' /\ s'.refsLt = true /\ n0 <= s'.heap.length /\ ∃ m, m < n /\ I m s'
   | .exit id => Q (.exit id) s
   | .ret => Q .ret s) : L c st Q := by
 rw [hS.z, hS.a, hS.l] at round
 rw [hS.l]
 refine fun hT => LoopP.introR hC hmix I hl hb hk h0 fun n s hI => ?_
 have := codeKZ_std c _ (ST.ofSt_ok s) hT (round n s hI)
 rw [ST.toSt_ofSt] at this
 refine codeK_mono c s this fun e s1 h1 => ?_
 obtain ⟨s', ho, rfl, h2⟩ := h1
 cases e with
 | normal => exact h2
 | exit id => exact ⟨s', ho, rfl, h2⟩
 | ret => exact ⟨s', ho, rfl, h2⟩
end
end Go.Abs
end
section
namespace Go.Proofs.YtbeakmahabhacaaGreat
open Go Go.Abs Go.Abs.M Go.Proofs
def rtrSt (R : Abs.Rows) (n : Int) : St := mkSt 22 [.c (.t (.lst false R)), .junk, .junk, vi .i64 n] [none]
theorem rtrimU_call (P : List Rat) (hl : P.length <= 1000)
  (hs : ∀ q : Rat, ∃ k : Int, (k = 0 ↔ q = 0) /\ ACall Tryz.prog 58 [.val (.agg (qc q).row)] ⟨[.val (ti .i64 k)], [none]⟩) :
  ACall Tryz.prog 46 [.val (tl (ur P))] ⟨[.val (tl (ur (ptrim P)))], [none]⟩ := by
 obtain ⟨R, hR⟩ : ∃ R, R = ur P := ⟨_, rfl⟩
 obtain ⟨n, hn⟩ : ∃ n, n = P.length := ⟨_, rfl⟩
 have hRl : R.length = n := by rw [hR, qaf, hn]
 have hget : ∀ i, i < n -> ∃ q : Rat, P.getD i 0 = q /\ ∃ (s t : Bool) (r p : Abs.Rows), (qc q).row = [.v (.bool s), .lst false r, .v (.bool t), .lst false p] /\ R[i]? = some (qc q).row := fun i hi => by
  have h : P[i]? = some P[i] := List.getElem?_eq_getElem (by omega)
  have h2 := qbx h
  rw [<- hR] at h2
  exact ⟨_, by rw [List.getD_eq_getElem?_getD, h]; rfl, _, _, _, _, rfl, h2⟩
 have hwd : (R.all fun r => r.length == 4) = true := by
  refine List.all_eq_true.2 fun r hr => ?_
  rw [hR] at hr
  obtain ⟨c, _, rfl⟩ := List.mem_map.1 hr
  rfl
 obtain ⟨T, hT⟩ : ∃ T, T = tlen P P.length := ⟨_, rfl⟩
 obtain ⟨Q, hQ⟩ : ∃ Q, Q = ur (ptrim P) := ⟨_, rfl⟩
 have hend : ∀ k, tlen P k = T -> k <= n -> T = k -> Q = (R.drop 0).take k := fun k _ _ hk => by
  rw [hQ, hR, List.drop_zero, ur_take, <- hk, hT]; rfl
 rw [<- hR, <- hQ]
 rw [<- hn] at hT
 clear hR hQ
 refine callZ ccOk mixed [.val] Tryz.func46 rfl rfl (by kernel_rfl) fun zA zB zC zD zE zF zG zH zI zJ zK zL zM zN zO zP zQ zR zS zT zU zV zX zY zZ za zb zc zd ze zg zh zi zj zk zl zm zn zo zq zr zt zu zw zx zy zz zW zth A L F hS hF => ?_
 have hlx : zh R = n := by rw [hS.len, hRl]
 obtain ⟨N, hN, hN2⟩ : ∃ N : Int, N = n /\ zY (zh R) = N := ⟨_, rfl, by rw [hlx, hS.ofN]⟩
 cbv
 have hN : N = (n : Int) := hN
 refine loopZ ccOk mixed hS (fun (k : Nat) s' => ∃ I : Int, I = k /\ k <= n /\ tlen P k = T /\ s' = rtrSt R I) (n := n) (s0 := rtrSt R N) (qat ?_ ?_) rfl (Nat.le_refl 1) ?_ ?_
 ·simp [leT, rtrSt, mkSt, vi, vb, hN2]
 ·simp [leH, rtrSt, mkSt]
 ·exact ⟨N, hN, Nat.le_refl _, hT.symm, rfl⟩
 ·rintro k s1 ⟨I, hI, hk, hTk, hs1⟩
  have w1 : zd 0 I (zh R) = true := by rw [hS.cut, hlx]; exact decide_eq_true (by omega)
  have w2 : zu 4 R = true := by rw [hS.wide]; exact hwd
  have w3 : zo R 0 (zV I) = (R.drop 0).take k := by rw [hS.part, hS.nat, hI, Int.toNat_natCast]
  by_cases hk0 : k = 0
  ·have l1 : zO 0 I = false := by rw [hS.lt]; exact decide_eq_false (by omega)
   have hq := hend k hTk hk (by rw [<- hTk, hk0]; rfl)
   subst hs1
   cbv
   refine bF l1 (nd w1 (nd w2 ?_))
   rw [w3, <- hq]
   exact hF _ (ResLe.refl _)
  ·have l1 : zO 0 I = true := by rw [hS.lt]; exact decide_eq_true (by omega)
   obtain ⟨q, hqi, s, t, r, p, hrow, hnth⟩ := hget (k - 1) (by omega)
   obtain ⟨c, hc, cg⟩ := hs q
   obtain ⟨J, hJ, j1⟩ : ∃ J : Int, J = ((k - 1 : Nat) : Int) /\ zA .i64 (zC I 1) = J := ⟨I - 1, by omega, by rw [hS.sub, hS.wrap, wrap_i64 (by omega) (by omega)]⟩
   have g1 : zP 0 J = true := by rw [hS.le]; exact decide_eq_true (by omega)
   have hz : zi R (zV J) = some [.v (.bool s), .lst false r, .v (.bool t), .lst false p] := by rw [hS.nat, hJ, Int.toNat_natCast, hS.nth, hnth, hrow]
   rw [hrow] at cg
   have htl : tlen P k = if q = 0 then tlen P (k - 1) else k := by
    obtain ⟨m, rfl⟩ : ∃ m, k = m + 1 := ⟨k - 1, by omega⟩
    rw [Nat.add_sub_cancel] at hqi
    rw [Nat.add_sub_cancel]
    show (if P.getD m 0 = 0 then tlen P m else m + 1) = _
    rw [hqi]
   by_cases hq0 : q = 0
   ·have e1 : zM c 0 = true := by rw [hS.eq]; exact decide_eq_true (hc.2 hq0)
    rw [if_pos hq0] at htl
    have hkk : k - 1 < k := by omega
    have hnx : ∃ I2 : Int, I2 = ((k - 1 : Nat) : Int) /\ k - 1 <= n /\ tlen P (k - 1) = T /\ rtrSt R J = rtrSt R I2 := ⟨J, hJ, by omega, by rw [<- htl]; exact hTk, rfl⟩
    clear hget hs hend
    subst hs1
    cbv
    refine bT l1 ?_
    rw [j1, hz]
    cbv
    refine nd (g1) ?_
    refine ⟨_, hS.call (cg), ?_⟩
    cbv
    refine bT (e1) ?_
    exact again (s' := rtrSt R J) (m := k - 1) (by simp [leT, rtrSt, mkSt, vi, vb, j1]) (by simp [leH, rtrSt, mkSt]) rfl (Nat.le_refl 1) hkk hnx
   ·have e1 : zM c 0 = false := by rw [hS.eq]; exact decide_eq_false fun h => hq0 (hc.1 h)
    rw [if_neg hq0] at htl
    have hq := hend k hTk hk (by rw [<- hTk, htl])
    clear hget hs hend
    subst hs1
    cbv
    refine bT l1 ?_
    rw [j1, hz]
    cbv
    refine nd (g1) ?_
    refine ⟨_, hS.call (cg), ?_⟩
    cbv
    refine bF (e1) ?_
    refine nd (w1) ?_
    refine nd (w2) ?_
    rw [w3, <- hq]
    exact hF _ (ResLe.refl _)
open Go Go.Abs Go.Abs.M Go.Proofs
structure RW where
 n : Int
 d : Int
 k : Int
structure RW.ok (x : RW) : Prop where
 n1 : -128 <= x.n
 n2 : x.n < 128
 d1 : -128 <= x.d
 d2 : x.d < 128
 k1 : 0 <= x.k
 k2 : x.k < 256
def RW.row (x : RW) : List Tree := [.v (.int .i8 x.n), .v (.int .i8 x.d), .v (.int .u8 x.k)]
def RW.q (x : RW) : Rat := madeQ x.n x.d x.k
def rwrows (xs : List RW) : Abs.Rows := xs.map RW.row
theorem rmadeQ_call (x : RW) (hx : x.ok) : ACall Tryz.prog 47 [.val (.agg x.row)] ⟨[.val (.agg (qc x.q).row)], [none]⟩ := by
 obtain ⟨u, w, v, p, h1, h2⟩ := rmade2_call x.n x.d x.k hx.n1 hx.n2 hx.d1 hx.d2 hx.k1 hx.k2
 rw [qc_row h1] at h2
 exact h2
def rmdSt (R : Abs.Rows) (D : Int) (len : Nat) (r : Abs.Rows) (i : Int) : St := mkSt 29 [.c (.t (.lst false R)), vi .i64 D, .junk, .junk, .junk, .c (.sl 2 0 len false), vi .i64 i] [none, none, some (.rows 4 r true false)]
theorem rmadeU_call (xs : List RW) (hx : ∀ x ∈ xs, x.ok) (D : Int) (hD : 0 <= D) (hD2 : D <= 100) (hlx : xs.length < 9223372036854775808)
  (ht : ∀ P : List Rat, P.length <= 1000 -> ACall Tryz.prog 46 [.val (tl (ur P))] ⟨[.val (tl (ur (ptrim P)))], [none]⟩) :
  ACall Tryz.prog 25 [.val (tl (rwrows xs)), .val (ti .i64 D)] ⟨[.val (tl (ur (ptrim ((xs.take (D.toNat + 1)).map RW.q))))], [none, none]⟩ := by
 obtain ⟨R, hR⟩ : ∃ R, R = rwrows xs := ⟨_, rfl⟩
 obtain ⟨n, hn⟩ : ∃ n, n = xs.length := ⟨_, rfl⟩
 have hRl : R.length = n := by rw [hR, hn]; simp [rwrows]
 have hget : ∀ i, i < n -> ∃ x : RW, x.ok /\ xs[i]? = some x /\ R[i]? = some x.row := fun i hi => by
  have h : xs[i]? = some xs[i] := List.getElem?_eq_getElem (by omega)
  have h2 : (rwrows xs)[i]? = some (xs[i]).row := by simp [rwrows, h]
  rw [<- hR] at h2
  exact ⟨_, hx _ (List.mem_of_getElem? h), h, h2⟩
 rw [<- hR]
 clear hR
 refine callZ ccOk mixed [.val] Tryz.func25 rfl rfl (by kernel_rfl) fun zA zB zC zD zE zF zG zH zI zJ zK zL zM zN zO zP zQ zR zS zT zU zV zX zY zZ za zb zc zd ze zg zh zi zj zk zl zm zn zo zq zr zt zu zw zx zy zz zW zth A L F hS hF => ?_
 have hlx2 : zh R = n := by rw [hS.len, hRl]
 obtain ⟨N, hN, hN2⟩ : ∃ N : Int, N = n /\ zY (zh R) = N := ⟨_, rfl, by rw [hlx2, hS.ofN]⟩
 cbv
 have hN : N = (n : Int) := hN
 refine loopZR ccOk mixed hS (fun (m : Nat) s' => ∃ (i : Nat) (I : Int) (r : Abs.Rows), I = i /\ i + m = 101 /\ i <= n /\ i <= D.toNat + 1 /\ r = ur ((xs.take i).map RW.q) /\ s' = rmdSt R D i r I) (n := 101) (s0 := rmdSt R D 0 [] 0) (qat ?_ ?_) rfl (by show 2 <= 3; omega) ?_ ?_
 ·simp [leT, rmdSt, mkSt, vi, vb]
 ·simp [leH, rmdSt, mkSt]
 ·exact ⟨0, 0, [], rfl, rfl, by omega, by omega, rfl, rfl⟩
 ·rintro m s1 ⟨i, I, r, hI, him, hin, hiD, hr, hs1⟩
  have l1 : zO I (zY (zh R)) = decide (i < n) := by
   rw [hN2, hS.lt]
   by_cases h : i < n
   ·rw [decide_eq_true h]; exact decide_eq_true (by omega)
   ·rw [decide_eq_false h]; exact decide_eq_false (by omega)
  have l2 : zP I D = decide (i <= D.toNat) := by
   rw [hS.le]
   by_cases h : i <= D.toNat
   ·rw [decide_eq_true h]; exact decide_eq_true (by omega)
   ·rw [decide_eq_false h]; exact decide_eq_false (by omega)
  by_cases hc : i < n /\ i <= D.toNat
  ·rw [decide_eq_true hc.1] at l1
   rw [decide_eq_true hc.2] at l2
   obtain ⟨x, hxo, hxi, hnth⟩ := hget i hc.1
   have cm := rmadeQ_call x hxo
   have g1 : zP 0 I = true := by rw [hS.le]; exact decide_eq_true (by omega)
   have hz : zi R (zV I) = some [.v (.int .i8 x.n), .v (.int .i8 x.d), .v (.int .u8 x.k)] := by rw [hS.nat, hI, Int.toNat_natCast, hS.nth, hnth]; rfl
   obtain ⟨s, t, r1, q1, hrow⟩ : ∃ (s t : Bool) (r1 q1 : Abs.Rows), (qc x.q).row = [.v (.bool s), .lst false r1, .v (.bool t), .lst false q1] := ⟨_, _, _, _, rfl⟩
   rw [hrow] at cm
   unfold RW.row at cm
   have hrl : r.length = i := by rw [hr, qaf, List.length_map, List.length_take]; omega
   obtain ⟨row, hrw⟩ : ∃ row, row = [Tree.v (.bool s), .lst false r1, .v (.bool t), .lst false q1] := ⟨_, rfl⟩
   have hr4 : row.length = 4 := by rw [hrw]; rfl
   have u0 : zo [row] 0 1 = [row] := by rw [hS.part]; rfl
   have u1 : zn 0 1 [row] = true := by rw [hS.fit]; rfl
   have u2 : zQ (za (zh [row]) 0) = true := by rw [hS.len, hS.neq, hS.not]; rfl
   have u3 : zu 4 [row] = true := by rw [hS.wide]; simp [hr4]
   have u4 : ze i (zh [row]) 64 = true := by rw [hS.len, hS.room]; exact decide_eq_true (by unfold capBytes; simp only [List.length_cons, List.length_nil]; omega)
   have u5 : za (zb 0 i) (zh r) = true := by rw [hS.nadd, hS.neq, hS.len, hrl, Nat.zero_add]; exact decide_eq_true rfl
   have u6 : zb i (zh [row]) = i + 1 := by rw [hS.len, hS.nadd]; rfl
   obtain ⟨r2, hr2⟩ : ∃ r2, r2 = ur ((xs.take (i + 1)).map RW.q) := ⟨_, rfl⟩
   have u7 : zq r 0 [row] = r2 := by
    rw [hS.ext, List.drop_zero, hr, hr2, List.take_add_one, hxi, List.map_append, Option.toList_some, List.map_cons, List.map_nil, ur_app, hrow, hrw]
   obtain ⟨I', hI', i1⟩ : ∃ I' : Int, I' = ((i + 1 : Nat) : Int) /\ zA .i64 (zB I 1) = I' := ⟨I + 1, by omega, by rw [hS.add, hS.wrap, wrap_i64 (by omega) (by omega)]⟩
   have hmm : m - 1 < m := by omega
   have hnx : ∃ (i2 : Nat) (I2 : Int) (r' : Abs.Rows), I2 = i2 /\ i2 + (m - 1) = 101 /\ i2 <= n /\ i2 <= D.toNat + 1 /\ r' = ur ((xs.take i2).map RW.q) /\ rmdSt R D (i + 1) r2 I' = rmdSt R D i2 r' I2 := ⟨i + 1, I', r2, hI', by omega, by omega, by omega, hr2, rfl⟩
   clear hget ht hr hr2 hrl
   subst hs1
   cbv
   refine bT l1 (bT l2 ?_)
   rw [hz]
   cbv
   refine nd (g1) ?_
   refine ⟨_, hS.call (cm), ?_⟩
   cbv
   rw [<- hrw, u0]
   refine nd (u1) ?_
   refine nd (u2) ?_
   refine nd (u3) ?_
   refine nd (u4) ?_
   refine nd (u5) ?_
   refine againR [(2, 6)] (s' := rmdSt R D (i + 1) r2 I') (k := m - 1) ?_ ?_ ?_ ?_ rfl (by show 2 <= 3; omega) hmm hnx
   ·simp [leTR, rmdSt, mkSt, vi, AV.ren, AV.noTup, Cell.ren, renF, i1, u6]
   ·simp [leHR, rmdSt, mkSt, Abs.look, renF, Blk.ren, u7]
   ·simp [liveR, rmdSt, mkSt]
   ·simp
  ·have hend : i = min (D.toNat + 1) n := by omega
   have htk : xs.take i = xs.take (D.toNat + 1) := by
    rw [hend]
    by_cases h : D.toNat + 1 <= n
    ·rw [Nat.min_eq_left h]
    ·rw [Nat.min_eq_right (by omega), List.take_of_length_le (by omega), List.take_of_length_le (by omega)]
   have cT := ht ((xs.take i).map RW.q) (by rw [List.length_map, List.length_take]; omega)
   rw [<- hr, htk] at cT
   have hrl : r.length = i := by rw [hr, qaf, List.length_map, List.length_take]; omega
   have f1 : zn 0 i r = true := by rw [hS.fit]; exact decide_eq_true (by omega)
   have f2 : zo r 0 i = r := by rw [hS.part, List.drop_zero, List.take_of_length_le (by omega)]
   generalize ur (ptrim ((xs.take (D.toNat + 1)).map RW.q)) = res at *
   clear hget ht hr
   by_cases h1 : i < n
   ·have h2 : ¬ i <= D.toNat := fun h => hc ⟨h1, h⟩
    rw [decide_eq_true h1] at l1
    rw [decide_eq_false h2] at l2
    subst hs1
    cbv
    refine bT l1 (bF l2 (nd f1 ?_))
    rw [f2]
    refine ⟨_, hS.call (cT), ?_⟩
    cbv
    exact hF _ (ResLe.refl _)
   ·rw [decide_eq_false h1] at l1
    subst hs1
    cbv
    refine bF l1 (nd f1 ?_)
    rw [f2]
    refine ⟨_, hS.call (cT), ?_⟩
    cbv
    exact hF _ (ResLe.refl _)
open Go Go.Abs Go.Abs.M Go.Proofs
theorem qsign_call {x : Int} {s t : Bool} {r q : Abs.Rows} (c : Int) (hx : IsI x s r) (hc : c = cmpI x 0) : ACall Tryz.prog 53 [.val (.agg (iT s r ++ iT t q))] ⟨[.val (ti .i64 c)], [none]⟩ := by
 have c1 := isign_call c hx hc
 refine callZ ccOk mixed [.val] Tryz.func53 rfl rfl (by kernel_rfl) fun zA zB zC zD zE zF zG zH zI zJ zK zL zM zN zO zP zQ zR zS zT zU zV zX zY zZ za zb zc zd ze zg zh zi zj zk zl zm zn zo zq zr zt zu zw zx zy zz zW zth A L F hS hF => ?_
 cbv
 refine ⟨_, hS.call (c1), ?_⟩
 cbv
 exact hF _ (ResLe.refl _)
theorem rqsign_call {x : Int} {s t : Bool} {r q : Abs.Rows} (c : Int) (hx : IsI x s r) (hc : c = cmpI x 0) : ACall Tryz.prog 58 [.val (.agg (iT s r ++ iT t q))] ⟨[.val (ti .i64 c)], [none]⟩ := by
 have c1 := rsign_call c hx hc
 refine callZ ccOk mixed [.val] Tryz.func58 rfl rfl (by kernel_rfl) fun zA zB zC zD zE zF zG zH zI zJ zK zL zM zN zO zP zQ zR zS zT zU zV zX zY zZ za zb zc zd ze zg zh zi zj zk zl zm zn zo zq zr zt zu zw zx zy zz zW zth A L F hS hF => ?_
 cbv
 refine ⟨_, hS.call (c1), ?_⟩
 cbv
 exact hF _ (ResLe.refl _)
theorem cmp00 (x : Int) : cmpI x 0 = 0 ↔ x = 0 := by
 unfold cmpI
 by_cases h : x < 0
 ·rw [if_pos h]; omega
 ·rw [if_neg h]; split <;> omega
theorem utrim_call (P : List Rat) (hl : P.length <= 1000) : ACall Tryz.prog 46 [.val (tl (ur P))] ⟨[.val (tl (ur (ptrim P)))], [none]⟩ :=
 rtrimU_call P hl fun q => ⟨cmpI q.num 0, (cmp00 q.num).trans Rat.num_eq_zero, rqsign_call _ (qbp q).n rfl⟩
theorem umade_call (xs : List RW) (hx : ∀ x ∈ xs, x.ok) (D : Int) (hD : 0 <= D) (hD2 : D <= 100) (hlx : xs.length < 9223372036854775808) :
  ACall Tryz.prog 25 [.val (tl (rwrows xs)), .val (ti .i64 D)] ⟨[.val (tl (ur (ptrim ((xs.take (D.toNat + 1)).map RW.q))))], [none, none]⟩ :=
 rmadeU_call xs hx D hD hD2 hlx utrim_call
open Go Go.Abs Go.Abs.M Go.Proofs
theorem gcd_nl {n d : Int} {k : Nat} (h1 : nl n.natAbs <= k) (h2 : nl d.natAbs <= k) : nl (Int.gcd n d : Int).natAbs <= k := by
 rw [Int.natAbs_natCast]
 by_cases h : n = 0
 ·subst h
  have : Int.gcd 0 d = d.natAbs := by simp [Int.gcd]
  rw [this]; omega
 ·have : Int.gcd n d <= n.natAbs := Nat.gcd_le_left _ (by omega)
  have := qau this
  omega
theorem plowest_call {n d : Int} {s t : Bool} {r q : Abs.Rows} (hn : IsI n s r) (hd : IsI d t q) (hd0 : 0 < d) (h1 : nl n.natAbs <= 274877906944) (h2 : nl d.natAbs <= 274877906944) :
  ∃ u w v p, IsR (Rat.divInt n d) u w v p /\ ACall Tryz.prog 59 [.val (.agg (iT s r)), .val (.agg (iT t q))] ⟨[.val (.agg (iT u w ++ iT v p))], [none, none]⟩ := by
 obtain ⟨b1, hb1, c1⟩ := qone_ex hd
 have ln := lowest_num (n := n) (d := d) (by omega)
 have ld := lowest_den (n := n) (d := d) (by omega)
 rw [if_neg (by omega)] at ln ld
 cases b1 with
 | true =>
  have h := hb1.1 rfl
  subst h
  refine ⟨s, r, t, q, ⟨by rw [<- ln, Int.gcd_one_right]; simpa using hn, by rw [<- ld, Int.gcd_one_right]; simpa using hd⟩, ?_⟩
  refine callZ ccOk mixed [.val] Tryz.func59 rfl rfl (by kernel_rfl) fun zA zB zC zD zE zF zG zH zI zJ zK zL zM zN zO zP zQ zR zS zT zU zV zX zY zZ za zb zc zd ze zg zh zi zj zk zl zm zn zo zq zr zt zu zw zx zy zz zW zth A L F hS hF => ?_
  cbv
  refine ⟨_, hS.call (c1), ?_⟩
  cbv
  refine bT ((rfl : true = true)) ?_
  exact hF _ (ResLe.refl _)
 | false =>
  obtain ⟨w, hw, c2⟩ := igcd_call hn hd h1 h2
  obtain ⟨b2, hb2, c3⟩ := qone_ex hw
  have hg0 : (Int.gcd n d : Int) ≠ 0 := by
   have : Int.gcd n d ≠ 0 := fun h => by have := (Int.gcd_eq_zero_iff.1 h).2; omega
   omega
  cases b2 with
  | true =>
   have h := hb2.1 rfl
   rw [h] at ln ld
   refine ⟨s, r, t, q, ⟨by rw [<- ln, Int.ediv_one]; exact hn, by rw [<- ld, Int.ediv_one]; exact hd⟩, ?_⟩
   refine callZ ccOk mixed [.val] Tryz.func59 rfl rfl (by kernel_rfl) fun zA zB zC zD zE zF zG zH zI zJ zK zL zM zN zO zP zQ zR zS zT zU zV zX zY zZ za zb zc zd ze zg zh zi zj zk zl zm zn zo zq zr zt zu zw zx zy zz zW zth A L F hS hF => ?_
   cbv
   refine ⟨_, hS.call (c1), ?_⟩
   cbv
   refine bF ((rfl : false = false)) ?_
   refine ⟨_, hS.call (c2), ?_⟩
   cbv
   refine ⟨_, hS.call (c3), ?_⟩
   cbv
   refine bT ((rfl : true = true)) ?_
   exact hF _ (ResLe.refl _)
  | false =>
   have hgl := gcd_nl h1 h2
   obtain ⟨a, b, _, e1, _, c4⟩ := idivmod_call hn hw hg0 h1 hgl
   obtain ⟨a', b', _, e2, _, c5⟩ := idivmod_call hd hw hg0 h2 hgl
   refine ⟨a, b, a', b', ⟨e1.of ln, e2.of ld⟩, ?_⟩
   refine callZ ccOk mixed [.val] Tryz.func59 rfl rfl (by kernel_rfl) fun zA zB zC zD zE zF zG zH zI zJ zK zL zM zN zO zP zQ zR zS zT zU zV zX zY zZ za zb zc zd ze zg zh zi zj zk zl zm zn zo zq zr zt zu zw zx zy zz zW zth A L F hS hF => ?_
   cbv
   refine ⟨_, hS.call (c1), ?_⟩
   cbv
   refine bF ((rfl : false = false)) ?_
   refine ⟨_, hS.call (c2), ?_⟩
   cbv
   refine ⟨_, hS.call (c3), ?_⟩
   cbv
   refine bF ((rfl : false = false)) ?_
   refine ⟨_, hS.call (c4), ?_⟩
   cbv
   refine ⟨_, hS.call (c5), ?_⟩
   cbv
   exact hF _ (ResLe.refl _)
theorem padd_call {x y : Rat} {s t s' t' : Bool} {r q r' q' : Abs.Rows} (hx : IsR x s r t q) (hy : IsR y s' r' t' q') (h1 : Qs x 68719476736) (h2 : Qs y 68719476736) :
  ∃ u w v p, IsR (x + y) u w v p /\ ACall Tryz.prog 63 [.val (.agg (iT s r ++ iT t q)), .val (.agg (iT s' r' ++ iT t' q'))] ⟨[.val (.agg (iT u w ++ iT v p))], [none, none]⟩ := by
 obtain ⟨x1, x2⟩ := h1
 obtain ⟨y1, y2⟩ := h2
 have n1 := qbg x.num.natAbs y.den
 have n2 := qbg y.num.natAbs x.den
 have n3 := qbg x.den y.den
 have hx0 := x.den_pos
 have hy0 := y.den_pos
 obtain ⟨a, b, ha, ca⟩ := qbt hx.n hy.d (by omega) (by rw [Int.natAbs_natCast]; omega)
 obtain ⟨a', b', ha', ca'⟩ := qbt hy.n hx.d (by omega) (by rw [Int.natAbs_natCast]; omega)
 have m1 : nl (x.num * y.den).natAbs <= 137438953472 := by rw [Int.natAbs_mul, Int.natAbs_natCast]; omega
 have m2 : nl (y.num * x.den).natAbs <= 137438953472 := by rw [Int.natAbs_mul, Int.natAbs_natCast]; omega
 obtain ⟨e, f, he, ce⟩ := iadd_call ha ha' (by omega) (by omega)
 obtain ⟨c, d, hc, cc⟩ := qbt hx.d hy.d (by rw [Int.natAbs_natCast]; omega) (by rw [Int.natAbs_natCast]; omega)
 obtain ⟨u, w, v, p, hu, cl⟩ := plowest_call he hc (Int.mul_pos (by omega) (by omega))
  (by
   have := qau (Int.natAbs_add_le (x.num * y.den) (y.num * x.den))
   have := nl_add (x.num * y.den).natAbs (y.num * x.den).natAbs
   omega)
  (by rw [Int.natAbs_mul, Int.natAbs_natCast, Int.natAbs_natCast]; omega)
 refine ⟨u, w, v, p, ?_, ?_⟩
 ·rw [<- Rat.divInt_add_divInt _ _ (by omega) (by omega), Rat.num_divInt_den, Rat.num_divInt_den] at hu
  exact hu
 refine callZ ccOk mixed [.val] Tryz.func63 rfl rfl (by kernel_rfl) fun zA zB zC zD zE zF zG zH zI zJ zK zL zM zN zO zP zQ zR zS zT zU zV zX zY zZ za zb zc zd ze zg zh zi zj zk zl zm zn zo zq zr zt zu zw zx zy zz zW zth A L F hS hF => ?_
 have zf : ∀ (a b : Bool) (c d : Abs.Rows), zn 0 2 [[.v (.bool a), .lst false c], [.v (.bool b), .lst false d]] = true := fun a b c d => by rw [hS.fit]; rfl
 have zp : ∀ (a b : Bool) (c d : Abs.Rows), zo [[.v (.bool a), .lst false c], [.v (.bool b), .lst false d]] 0 2 = [[.v (.bool a), .lst false c], [.v (.bool b), .lst false d]] := fun a b c d => by rw [hS.part]; rfl
 cbv
 refine nd (zf ..) ?_
 rw [zp]
 refine ⟨_, hS.call (ca), ?_⟩
 cbv
 refine nd (zf ..) ?_
 rw [zp]
 refine ⟨_, hS.call (ca'), ?_⟩
 cbv
 refine ⟨_, hS.call (ce), ?_⟩
 cbv
 refine nd (zf ..) ?_
 rw [zp]
 refine ⟨_, hS.call (cc), ?_⟩
 cbv
 refine ⟨_, hS.call (cl), ?_⟩
 cbv
 exact hF _ (ResLe.refl _)
theorem Qs.neg {x : Rat} {k : Nat} (h : Qs x k) : Qs (-x) k := ⟨by show nl (-x.num).natAbs <= k; rw [Int.natAbs_neg]; exact h.1, h.2⟩
theorem divInt_red {n d : Int} (hd : 0 < d) (hg : Int.gcd n d = 1) : (Rat.divInt n d).num = n /\ ((Rat.divInt n d).den : Int) = d := by
 have ln := lowest_num (n := n) (d := d) (by omega)
 have ld := lowest_den (n := n) (d := d) (by omega)
 rw [if_neg (by omega), hg] at ln ld
 exact ⟨by rw [<- ln]; simp, by rw [<- ld]; simp⟩
theorem divInt_dvd {n d : Int} (hd : 0 < d) : (Rat.divInt n d).num ∣ n /\ ((Rat.divInt n d).den : Int) ∣ d := by
 have ln := lowest_num (n := n) (d := d) (by omega)
 have ld := lowest_den (n := n) (d := d) (by omega)
 rw [if_neg (by omega)] at ln ld
 exact ⟨by rw [<- ln]; exact Int.ediv_dvd_of_dvd (Int.gcd_dvd_left ..), by rw [<- ld]; exact Int.ediv_dvd_of_dvd (Int.gcd_dvd_right ..)⟩
theorem cop_dvd {a b c d : Int} (h : Int.gcd a b = 1) (h1 : c ∣ a) (h2 : d ∣ b) : Int.gcd c d = 1 := by
 have := Int.gcd_dvd_gcd_of_dvd_left b h1
 have h3 := Int.gcd_dvd_gcd_of_dvd_right c h2
 rw [h] at this
 exact Nat.dvd_one.1 (Nat.dvd_trans h3 this)
theorem rat_red (x : Rat) : Int.gcd x.num x.den = 1 := by
 have := x.reduced
 unfold Nat.Coprime at this
 unfold Int.gcd
 rw [Int.natAbs_natCast]; exact this
theorem mul_cross (x y : Rat) : (x * y).num = (Rat.divInt x.num y.den).num * (Rat.divInt y.num x.den).num /\ ((x * y).den : Int) = (Rat.divInt x.num y.den).den * (Rat.divInt y.num x.den).den := by
 have hx := x.den_pos
 have hy := y.den_pos
 obtain ⟨a1, a2⟩ := divInt_dvd (n := x.num) (d := y.den) (by omega)
 obtain ⟨b1, b2⟩ := divInt_dvd (n := y.num) (d := x.den) (by omega)
 have e : x * y = Rat.divInt x.num y.den * Rat.divInt y.num x.den := by
  rw [Rat.divInt_mul_divInt, Int.mul_comm (y.den : Int), <- Rat.divInt_mul_divInt, Rat.num_divInt_den, Rat.num_divInt_den]
 generalize hl : Rat.divInt x.num y.den = l at *
 generalize hr : Rat.divInt y.num x.den = r at *
 have hl0 := l.den_pos
 have hr0 := r.den_pos
 have g1 := cop_dvd (rat_red x) a1 b2
 have g2 := cop_dvd (rat_red y) b1 a2
 have hg : Int.gcd (l.num * r.num) (l.den * r.den) = 1 := by
  have c1 : Nat.Coprime l.num.natAbs (l.den : Int).natAbs := rat_red l
  have c2 : Nat.Coprime r.num.natAbs (r.den : Int).natAbs := rat_red r
  have c3 : Nat.Coprime l.num.natAbs (r.den : Int).natAbs := g1
  have c4 : Nat.Coprime r.num.natAbs (l.den : Int).natAbs := g2
  show Nat.gcd (l.num * r.num).natAbs ((l.den : Int) * r.den).natAbs = 1
  rw [Int.natAbs_mul, Int.natAbs_mul]
  exact Nat.Coprime.mul_left (Nat.Coprime.mul_right c1 c3) (Nat.Coprime.mul_right c4 c2)
 have e2 : x * y = Rat.divInt (l.num * r.num) (l.den * r.den) := by
  rw [e, <- Rat.divInt_mul_divInt, Rat.num_divInt_den, Rat.num_divInt_den]
 rw [e2]
 exact divInt_red (Int.mul_pos (by omega) (by omega)) hg
theorem pmul_call {x y : Rat} {s t s' t' : Bool} {r q r' q' : Abs.Rows} (hx : IsR x s r t q) (hy : IsR y s' r' t' q') (h1 : Qs x 68719476736) (h2 : Qs y 68719476736) :
  ∃ u w v p, IsR (x * y) u w v p /\ ACall Tryz.prog 37 [.val (.agg (iT s r ++ iT t q)), .val (.agg (iT s' r' ++ iT t' q'))] ⟨[.val (.agg (iT u w ++ iT v p))], [none, none]⟩ := by
 obtain ⟨x1, x2⟩ := h1
 obtain ⟨y1, y2⟩ := h2
 have hx0 := x.den_pos
 have hy0 := y.den_pos
 obtain ⟨a, b, c, d, hl, cl⟩ := plowest_call hx.n hy.d (by omega) (by omega) (by rw [Int.natAbs_natCast]; omega)
 obtain ⟨a', b', c', d', hr, cr⟩ := plowest_call hy.n hx.d (by omega) (by omega) (by rw [Int.natAbs_natCast]; omega)
 obtain ⟨e1, e2⟩ := mul_cross x y
 obtain ⟨k1, k2⟩ := divInt_small (n := x.num) (d := y.den) (k := 68719476736) (by omega) (by omega) (by rw [Int.natAbs_natCast]; omega)
 obtain ⟨k3, k4⟩ := divInt_small (n := y.num) (d := x.den) (k := 68719476736) (by omega) (by omega) (by rw [Int.natAbs_natCast]; omega)
 obtain ⟨u, w, hn, cn⟩ := qbt hl.n hr.n (by omega) (by omega)
 obtain ⟨v, p, hd, cd⟩ := qbt hl.d hr.d (by rw [Int.natAbs_natCast]; omega) (by rw [Int.natAbs_natCast]; omega)
 refine ⟨u, w, v, p, ⟨hn.of e1.symm, hd.of e2.symm⟩, ?_⟩
 refine callZ ccOk mixed [.val] Tryz.func37 rfl rfl (by kernel_rfl) fun zA zB zC zD zE zF zG zH zI zJ zK zL zM zN zO zP zQ zR zS zT zU zV zX zY zZ za zb zc zd ze zg zh zi zj zk zl zm zn zo zq zr zt zu zw zx zy zz zW zth A L F hS hF => ?_
 have zf : ∀ (a b : Bool) (c d : Abs.Rows), zn 0 2 [[.v (.bool a), .lst false c], [.v (.bool b), .lst false d]] = true := fun a b c d => by rw [hS.fit]; rfl
 have zp : ∀ (a b : Bool) (c d : Abs.Rows), zo [[.v (.bool a), .lst false c], [.v (.bool b), .lst false d]] 0 2 = [[.v (.bool a), .lst false c], [.v (.bool b), .lst false d]] := fun a b c d => by rw [hS.part]; rfl
 cbv
 refine ⟨_, hS.call (cl), ?_⟩
 cbv
 refine ⟨_, hS.call (cr), ?_⟩
 cbv
 refine nd (zf ..) ?_
 rw [zp]
 refine ⟨_, hS.call (cn), ?_⟩
 cbv
 refine nd (zf ..) ?_
 rw [zp]
 refine ⟨_, hS.call (cd), ?_⟩
 cbv
 exact hF _ (ResLe.refl _)
theorem inv_nd {x : Rat} (h : x ≠ 0) : (x⁻¹).num = (if x.num < 0 then -(x.den : Int) else x.den) /\ ((x⁻¹).den : Int) = if x.num < 0 then -x.num else x.num := by
 have hn : x.num ≠ 0 := fun e => h (Rat.num_eq_zero.1 e)
 have hd := x.den_pos
 rw [Rat.inv_def]
 have ln := lowest_num (n := (x.den : Int)) (d := x.num) hn
 have ld := lowest_den (n := (x.den : Int)) (d := x.num) hn
 have hg : Int.gcd (x.den : Int) x.num = 1 := by rw [Int.gcd_comm]; exact rat_red x
 rw [hg] at ln ld
 rw [<- ln, <- ld]
 by_cases h0 : x.num < 0
 ·rw [if_pos h0, if_pos h0, if_pos h0]; simp
 ·rw [if_neg h0, if_neg h0, if_neg h0]; simp
theorem pinv_call {x : Rat} {s t : Bool} {r q : Abs.Rows} (hx : IsR x s r t q) (h0 : x ≠ 0) (h1 : Qs x 68719476736) :
  ∃ u w v p, IsR x⁻¹ u w v p /\ ACall Tryz.prog 41 [.val (.agg (iT s r ++ iT t q))] ⟨[.val (.agg (iT u w ++ iT v p)), .val (ti .i64 0)], [none]⟩ := by
 obtain ⟨i1, i2⟩ := inv_nd h0
 have hn : x.num ≠ 0 := fun e => h0 (Rat.num_eq_zero.1 e)
 have cs := isign_call (cmpI x.num 0) hx.n rfl
 obtain ⟨a, b, ha, ca⟩ := ineg_call hx.d (by rw [Int.natAbs_natCast]; have := h1.2; omega)
 obtain ⟨a', b', ha', ca'⟩ := ineg_call hx.n (by have := h1.1; omega)
 by_cases h : x.num < 0
 ·rw [if_pos h] at i1 i2
  have e : cmpI x.num 0 = -1 := by unfold cmpI; rw [if_pos h]
  rw [e] at cs
  refine ⟨a, b, a', b', ⟨ha.of i1.symm, ha'.of i2.symm⟩, ?_⟩
  refine callZ ccOk mixed [.val, .val] Tryz.func41 rfl rfl (by kernel_rfl) fun zA zB zC zD zE zF zG zH zI zJ zK zL zM zN zO zP zQ zR zS zT zU zV zX zY zZ za zb zc zd ze zg zh zi zj zk zl zm zn zo zq zr zt zu zw zx zy zz zW zth A L F hS hF => ?_
  have z1 : zM (-1) 0 = false := by rw [hS.eq]; rfl
  have z2 : zM (-1) (-1) = true := by rw [hS.eq]; rfl
  cbv
  refine ⟨_, hS.call (cs), ?_⟩
  cbv
  refine bF (z1) ?_
  refine bT (z2) ?_
  refine ⟨_, hS.call (ca), ?_⟩
  cbv
  refine ⟨_, hS.call (ca'), ?_⟩
  cbv
  exact hF _ (ResLe.refl _)
 ·rw [if_neg h] at i1 i2
  have e : cmpI x.num 0 = 1 := by unfold cmpI; rw [if_neg h, if_pos (by omega)]
  rw [e] at cs
  refine ⟨t, q, s, r, ⟨hx.d.of i1.symm, hx.n.of i2.symm⟩, ?_⟩
  refine callZ ccOk mixed [.val, .val] Tryz.func41 rfl rfl (by kernel_rfl) fun zA zB zC zD zE zF zG zH zI zJ zK zL zM zN zO zP zQ zR zS zT zU zV zX zY zZ za zb zc zd ze zg zh zi zj zk zl zm zn zo zq zr zt zu zw zx zy zz zW zth A L F hS hF => ?_
  have z1 : zM 1 0 = false := by rw [hS.eq]; rfl
  have z2 : zM 1 (-1) = false := by rw [hS.eq]; rfl
  cbv
  refine ⟨_, hS.call (cs), ?_⟩
  cbv
  refine bF (z1) ?_
  refine bF (z2) ?_
  exact hF _ (ResLe.refl _)
open Go Go.Abs Go.Abs.M Go.Proofs
theorem rqWhole_call (n : Int) (h1 : -9223372036854775808 <= n) (h2 : n < 9223372036854775808) : ∃ s r v p, IsR (n : Rat) s r v p /\ ACall Tryz.prog 22 [.val (ti .i64 n)] ⟨[.val (.agg (iT s r ++ iT v p))], [none]⟩ := by
 obtain ⟨s, r, h, c⟩ := rof_call n h1 h2
 obtain ⟨v, p, h3, c2⟩ := rof_call 1 (by omega) (by omega)
 refine ⟨s, r, v, p, ⟨by rw [Rat.num_intCast]; exact h, by rw [Rat.den_intCast]; exact h3⟩, ?_⟩
 refine callZ ccOk mixed [.val] Tryz.func22 rfl rfl (by kernel_rfl) fun zA zB zC zD zE zF zG zH zI zJ zK zL zM zN zO zP zQ zR zS zT zU zV zX zY zZ za zb zc zd ze zg zh zi zj zk zl zm zn zo zq zr zt zu zw zx zy zz zW zth A L F hS hF => ?_
 cbv
 refine ⟨_, hS.call (c), ?_⟩
 cbv
 refine ⟨_, hS.call (c2), ?_⟩
 cbv
 exact hF _ (ResLe.refl _)
def qsameSt (s t : Bool) (r q : Abs.Rows) (i : Int) : St := mkSt 38 [.junk, .junk, .c (.ptr 2 0 0), .c (.ptr 3 0 0), .junk, vi .i64 i] [none, none, some (.var [.t (.v (.bool s)), .t (.lst false r)]), some (.var [.t (.v (.bool t)), .t (.lst false q)])]
theorem rqsameI_call {x y : Int} {s t : Bool} {r q : Abs.Rows} (hx : IsI x s r) (hy : IsI y t q) (hx1 : nl x.natAbs <= 2199023255552) : ACall Tryz.prog 48 [.val (.agg (iT s r)), .val (.agg (iT t q))] ⟨[.val (tb (decide (x = y)))], [none, none]⟩ := by
  have hl : r.length = nl x.natAbs := hx.m.len
  have hm : q.length = nl y.natAbs := hy.m.len
  have hne : s ≠ t -> x ≠ y := fun h e => h (by rw [hx.s, hy.s, e])
  have hle : nl x.natAbs ≠ nl y.natAbs -> x ≠ y := fun h e => h (by rw [e])
  have hwe : ∀ i, (dg x.natAbs).getD i 0 ≠ (dg y.natAbs).getD i 0 -> x ≠ y := fun i h e => h (by rw [e])
  have heq : s = t -> nl x.natAbs = nl y.natAbs -> (dg x.natAbs).take (nl x.natAbs) = (dg y.natAbs).take (nl x.natAbs) -> x = y := fun h1 h2 h3 => by
    have e1 : (dg x.natAbs).take (nl x.natAbs) = dg x.natAbs := List.take_of_length_le (Nat.le_refl _)
    have e2 : (dg y.natAbs).take (nl x.natAbs) = dg y.natAbs := List.take_of_length_le (by rw [h2]; exact Nat.le_refl _)
    rw [e1, e2] at h3
    have h4 := congrArg val h3
    rw [qae, qae] at h4
    have h5 := hx.s
    rw [h1, hy.s] at h5
    have h6 : (y < 0) ↔ (x < 0) := by
      constructor
      · intro h; rw [decide_eq_true h] at h5; exact of_decide_eq_true h5.symm
      · intro h; rw [decide_eq_true h] at h5; exact of_decide_eq_true h5
    omega
  have gx : ∀ i : Nat, ZI.std.getI r i = (dg x.natAbs).getD i 0 := fun i => by rw [hx.m, qar]
  have gy : ∀ i : Nat, ZI.std.getI q i = (dg y.natAbs).getD i 0 := fun i => by rw [hy.m, qar]
  have ix : ∀ i : Nat, i < nl x.natAbs -> ZI.std.isI .u32 r i = true := fun i h => by rw [hx.m, qax]; exact decide_eq_true h
  have iy : ∀ i : Nat, i < nl y.natAbs -> ZI.std.isI .u32 q i = true := fun i h => by rw [hy.m, qax]; exact decide_eq_true h
  have hstep : ∀ i : Nat, i < nl x.natAbs -> nl x.natAbs = nl y.natAbs -> (dg x.natAbs).take i = (dg y.natAbs).take i -> (dg x.natAbs).getD i 0 = (dg y.natAbs).getD i 0 -> (dg x.natAbs).take (i + 1) = (dg y.natAbs).take (i + 1) := fun i h h' h2 h3 => by
    have a1 : i < (dg x.natAbs).length := h
    have a2 : i < (dg y.natAbs).length := by have : i < nl y.natAbs := by omega
                                             exact this
    rw [List.take_succ_eq_append_getElem a1, List.take_succ_eq_append_getElem a2, h2]
    rw [List.getD_eq_getElem?_getD, List.getD_eq_getElem?_getD, List.getElem?_eq_getElem a1, List.getElem?_eq_getElem a2, Option.getD_some, Option.getD_some] at h3
    rw [h3]
  refine callZ ccOk mixed [.val] Tryz.func48 rfl rfl (by kernel_rfl) fun zA zB zC zD zE zF zG zH zI zJ zK zL zM zN zO zP zQ zR zS zT zU zV zX zY zZ za zb zc zd ze zg zh zi zj zk zl zm zn zo zq zr zt zu zw zx zy zz zW zth A L F hS hF => ?_
  have f0 : x ≠ y -> F ⟨[.val (.c (.v (.bool false)))], [none, none]⟩ := fun h => fin1 hF (by rw [decide_eq_false h]; rfl)
  have f1 : x = y -> F ⟨[.val (.c (.v (.bool true)))], [none, none]⟩ := fun h => fin1 hF (by rw [decide_eq_true h]; rfl)
  have e0 : zN (zY (zh r)) (zY (zh q)) = decide (nl x.natAbs ≠ nl y.natAbs) := by
    rw [hS.ne, hS.len, hS.len, hS.ofN, hS.ofN, hl, hm]
    by_cases h : nl x.natAbs = nl y.natAbs
    · rw [decide_eq_false (show ¬ nl x.natAbs ≠ nl y.natAbs by omega)]; exact decide_eq_false (by omega)
    · rw [decide_eq_true h]; exact decide_eq_true (by omega)
  have hlx : zh r = nl x.natAbs := by rw [hS.len, hl]
  generalize hLx : nl x.natAbs = Lx at *
  cbv
  refine ⟨fun h => f0 ?_, fun h => ⟨fun h' => f0 ?_, fun h' => ?_⟩⟩
  all_goals rw [hS.bne] at h
  · exact hne (by intro e; subst e; simp at h)
  all_goals rw [e0] at h'
  · exact hle (of_decide_eq_true h')
  · have hst : s = t := by cases s <;> cases t <;> first | rfl | (simp at h)
    have hll : Lx = nl y.natAbs := by have := of_decide_eq_false h'; omega
    refine loopZ ccOk mixed hS (fun (k : Nat) s' => ∃ i : Nat, i + k = Lx /\ (dg x.natAbs).take i = (dg y.natAbs).take i /\ s' = qsameSt s t r q (zY i)) (n := Lx) (s0 := qsameSt s t r q (zY 0)) (qat ?_ ?_) rfl (by show 2 <= 4; omega) ?_ ?_
    · simp [leT, qsameSt, mkSt, vi, hS.ofN]
    · simp [leH, qsameSt, mkSt]
    · exact ⟨0, by omega, rfl, rfl⟩
    · rintro k _ ⟨i, hi, he, rfl⟩
      obtain ⟨i1, hi1⟩ : ∃ i1, i1 = i + 1 := ⟨_, rfl⟩
      have c1 : zO (zY i) (zY (zh r)) = decide (k ≠ 0) := by
        rw [hlx, hS.lt, hS.ofN, hS.ofN]
        by_cases h : k = 0
        · rw [decide_eq_false (show ¬ k ≠ 0 by omega)]; exact decide_eq_false (by omega)
        · rw [decide_eq_true h]; exact decide_eq_true (by omega)
      have c2 : zP 0 (zY i) = true := by rw [hS.le, hS.ofN]; exact decide_eq_true (by omega)
      have c3 : zV (zY i) = i := by rw [hS.nat, hS.ofN]; omega
      have c4 : i < Lx -> zk .u32 r (zV (zY i)) = true := fun h => by rw [c3, hS.isI]; exact ix i h
      have c5 : i < Lx -> zk .u32 q (zV (zY i)) = true := fun h => by rw [c3, hS.isI]; exact iy i (by omega)
      have c6 : zN (zl r (zV (zY i))) (zl q (zV (zY i))) = decide ((dg x.natAbs).getD i 0 ≠ (dg y.natAbs).getD i 0) := by
        rw [c3, hS.ne, hS.getI, hS.getI, gx, gy]
      have c7 : i < Lx -> zA .i64 (zB (zY i) 1) = zY i1 := fun h => by rw [hS.wrap, hS.add, hS.ofN, hS.ofN, wrap_i64 (by omega) (by omega), hi1]; omega
      have nx : i < Lx -> (dg x.natAbs).getD i 0 = (dg y.natAbs).getD i 0 -> (dg x.natAbs).take i1 = (dg y.natAbs).take i1 := fun h h2 => by rw [hi1]; exact hstep i h hll he h2
      have ki : k ≠ 0 -> i < Lx := by omega
      have k1 : k ≠ 0 -> i1 + (k - 1) = Lx /\ k - 1 < k := by omega
      have kz : k = 0 -> x = y := fun h => heq hst hll (by rw [show i = Lx by omega] at he; exact he)
      clear hi hi1 hstep ix iy gx gy
      cbv
      refine ⟨fun h => ?_, fun h => f1 ?_⟩
      all_goals rw [c1] at h
      · have hk := of_decide_eq_true h
        refine nd c2 (nd (c4 (ki hk)) (nd c2 (nd (c5 (ki hk)) ⟨fun h2 => f0 ?_, fun h2 => ?_⟩)))
        all_goals rw [c6] at h2
        · exact hwe i (of_decide_eq_true h2)
        · rw [c7 (ki hk)]
          exact again (s' := qsameSt s t r q (zY i1)) (m := k - 1) (by simp [leT, qsameSt, mkSt, vi]) (by simp [leH, qsameSt, mkSt]) rfl (by show 2 <= 4; omega) (k1 hk).2 ⟨i1, (k1 hk).1, nx (ki hk) (Decidable.not_not.mp (of_decide_eq_false h2)), rfl⟩
      · exact kz (Decidable.not_not.mp (of_decide_eq_false h))
theorem rqsame_call {x y : Rat} {s t s' t' : Bool} {r q r' q' : Abs.Rows} (b : Bool) (hx : IsR x s r t q) (hy : IsR y s' r' t' q') (hb : b = true ↔ x = y) (h1 : Qs x 68719476736) :
  ACall Tryz.prog 20 [.val (.agg (iT s r ++ iT t q)), .val (.agg (iT s' r' ++ iT t' q'))] ⟨[.val (tb b)], [none, none]⟩ := by
 have c1 := rqsameI_call hx.n hy.n (by have := h1.1; omega)
 have c2 := rqsameI_call hx.d hy.d (by rw [Int.natAbs_natCast]; have := h1.2; omega)
 have hne : x.num ≠ y.num -> false = b := fun h => by
  cases b with
  | false => rfl
  | true => exact absurd (by rw [hb.1 rfl]) h
 have hde : x.num = y.num -> decide ((x.den : Int) = y.den) = b := fun h => by
  cases b with
  | false => exact decide_eq_false fun h2 => absurd (hb.2 (Rat.ext h (by omega))) (by simp)
  | true => exact decide_eq_true (by rw [hb.1 rfl])
 by_cases h : x.num = y.num
 ·rw [decide_eq_true h] at c1
  rw [hde h] at c2
  refine callZ ccOk mixed [.val] Tryz.func20 rfl rfl (by kernel_rfl) fun zA zB zC zD zE zF zG zH zI zJ zK zL zM zN zO zP zQ zR zS zT zU zV zX zY zZ za zb zc zd ze zg zh zi zj zk zl zm zn zo zq zr zt zu zw zx zy zz zW zth A L F hS hF => ?_
  cbv
  refine ⟨_, hS.call (c1), ?_⟩
  cbv
  refine bT ((rfl : true = true)) ?_
  refine ⟨_, hS.call (c2), ?_⟩
  cbv
  exact hF _ (ResLe.refl _)
 ·rw [decide_eq_false h] at c1
  have hf := hne h
  subst hf
  refine callZ ccOk mixed [.val] Tryz.func20 rfl rfl (by kernel_rfl) fun zA zB zC zD zE zF zG zH zI zJ zK zL zM zN zO zP zQ zR zS zT zU zV zX zY zZ za zb zc zd ze zg zh zi zj zk zl zm zn zo zq zr zt zu zw zx zy zz zW zth A L F hS hF => ?_
  cbv
  refine ⟨_, hS.call (c1), ?_⟩
  cbv
  refine bF ((rfl : false = false)) ?_
  exact hF _ (ResLe.refl _)
open Go Go.Abs Go.Abs.M Go.Proofs
def rawZ : List Tree := [.v (.bool false), .lst true [], .v (.bool false), .lst true []]
def uzSt (N : Int) (n : Nat) (X : Abs.Rows) (i : Int) : St := mkSt 17 [vi .i64 N, .junk, .junk, .c (.sl 1 0 n false), .junk, .junk, .junk, vi .i64 N, vi .i64 i] [none, some (.rows 4 X true false)]
theorem uzeros_call (n : Nat) (hn : n <= 1000) : ACall Tryz.prog 36 [.val (ti .i64 (n : Int))] ⟨[.own 4 (ur (List.replicate n 0))], [none]⟩ := by
 obtain ⟨N, hN⟩ : ∃ N : Int, N = n := ⟨_, rfl⟩
 rw [<- hN]
 obtain ⟨s, r, v, p, hz, cw⟩ := pWhole_call 0 (by omega) (by omega)
 have hrow := qc_row hz
 rw [show ((0 : Int) : Rat) = 0 from rfl] at hrow
 obtain ⟨T, hT⟩ : ∃ T, T = ur (List.replicate n 0) := ⟨_, rfl⟩
 have hzr : (qc 0).row = [.v (.bool s), .lst false r, .v (.bool v), .lst false p] := hrow.symm
 have hXs : ∀ i, i < n -> ∃ X X' : Abs.Rows, X = ur (List.replicate i 0) ++ List.replicate (n - i) rawZ /\ X' = ur (List.replicate (i + 1) 0) ++ List.replicate (n - (i + 1)) rawZ /\ X[i]? = some rawZ /\ X.set i [.v (.bool s), .lst false r, .v (.bool v), .lst false p] = X' := fun i hi => by
  have hl : (ur (List.replicate i 0)).length = i := by rw [qaf, List.length_replicate]
  obtain ⟨m, hm⟩ : ∃ m, n - i = m + 1 := ⟨n - i - 1, by omega⟩
  refine ⟨_, _, rfl, rfl, ?_, ?_⟩
  ·rw [List.getElem?_append_right (by omega), hl, Nat.sub_self, hm]; rfl
  ·rw [List.set_append_right _ _ (by omega), hl, Nat.sub_self, hm, show n - (i + 1) = m by omega, List.replicate_succ, List.set_cons_zero, List.replicate_succ' (n := i), ur_app, List.append_assoc, hzr]; rfl
 rw [<- hT]
 refine callZ ccOk mixed [.own 4] Tryz.func36 rfl rfl (by kernel_rfl) fun zA zB zC zD zE zF zG zH zI zJ zK zL zM zN zO zP zQ zR zS zT zU zV zX zY zZ za zb zc zd ze zg zh zi zj zk zl zm zn zo zq zr zt zu zw zx zy zz zW zth A L F hS hF => ?_
 have k0 : zg N N 64 = true := by rw [hS.mkok]; exact decide_eq_true (by unfold capBytes; omega)
 have k1 : zV N = n := by rw [hS.nat]; omega
 have k2 : zt n [.v (.bool false), .lst true [], .v (.bool false), .lst true []] = ur (List.replicate 0 0) ++ List.replicate (n - 0) rawZ := by rw [hS.rep]; rfl
 cbv
 have hN : N = (n : Int) := hN
 refine nd k0 ?_
 refine loopZ ccOk mixed hS (fun (m : Nat) s' => ∃ (i : Nat) (I : Int) (X : Abs.Rows), I = i /\ i + m = n /\ X = ur (List.replicate i 0) ++ List.replicate (n - i) rawZ /\ s' = uzSt N n X I) (n := n) (s0 := uzSt N n (ur (List.replicate 0 0) ++ List.replicate (n - 0) rawZ) 0) (qat ?_ ?_) rfl (by show 1 <= 2; omega) ?_ ?_
 ·simp [leT, uzSt, mkSt, vi, k1]
 ·simp [leH, uzSt, mkSt, k1, k2]
 ·exact ⟨0, 0, _, rfl, by omega, rfl, rfl⟩
 ·rintro m s1 ⟨i, I, X, hI, him, hX, hs1⟩
  by_cases hi : i < n
  ·obtain ⟨X0, X', e1, e2, e3, e4⟩ := hXs i hi
   rw [<- hX] at e1
   subst e1
   have l1 : zO I N = true := by rw [hS.lt]; exact decide_eq_true (by omega)
   have g1 : zX I n = true := by rw [hS.inb]; exact decide_eq_true (by omega)
   have g2 : zZ 0 I = i := by rw [hS.idx]; omega
   have g3 : zi X0 i = some [.v (.bool false), .lst true [], .v (.bool false), .lst true []] := by rw [hS.nth]; exact e3
   have g4 : zj X0 i [.v (.bool s), .lst false r, .v (.bool v), .lst false p] = X' := by rw [hS.setr]; exact e4
   obtain ⟨I', hI', i1⟩ : ∃ I' : Int, I' = ((i + 1 : Nat) : Int) /\ zA .i64 (zB I 1) = I' := ⟨I + 1, by omega, by rw [hS.add, hS.wrap, wrap_i64 (by omega) (by omega)]⟩
   have hmm : m - 1 < m := by omega
   have hnx : ∃ (i2 : Nat) (I2 : Int) (X2 : Abs.Rows), I2 = i2 /\ i2 + (m - 1) = n /\ X2 = ur (List.replicate i2 0) ++ List.replicate (n - i2) rawZ /\ uzSt N n X' I' = uzSt N n X2 I2 := ⟨i + 1, I', X', hI', by omega, e2, rfl⟩
   clear hXs
   subst hs1
   cbv
   refine bT l1 ?_
   refine ⟨_, hS.call (cw), ?_⟩
   cbv
   refine nd (g1) ?_
   rw [g2, g3]
   cbv
   exact again (s' := uzSt N n X' I') (m := m - 1) (by simp [leT, uzSt, mkSt, vi, i1]) (by simp [leH, uzSt, mkSt, g4]) rfl (by show 1 <= 2; omega) hmm hnx
  ·have l1 : zO I N = false := by rw [hS.lt]; exact decide_eq_false (by omega)
   have hin : i = n := by omega
   have hXT : X = T := by rw [hX, hT, hin, Nat.sub_self]; simp
   have e1 : za n (zh T) = true := by rw [hS.neq, hS.len, hT, qaf, List.length_replicate]; exact decide_eq_true rfl
   subst hXT
   subst hs1
   cbv
   refine bF l1 (nd e1 ?_)
   exact hF _ (ResLe.refl _)
def uacSt (X Y : Abs.Rows) (n : Nat) (s t : Bool) (r p : Abs.Rows) (K N i : Int) : St := mkSt 39 [.c (.sl 0 0 n false), .agg [.t (.v (.bool s)), .t (.lst false r), .t (.v (.bool t)), .t (.lst false p)], .c (.t (.lst false Y)), vi .i64 K, .junk, .c (.ptr 4 0 0), .junk, .junk, .junk, .junk, .junk, .junk, .junk, .c (.t (.lst false Y)), vi .i64 N, vi .i64 i]
 [some (.rows 4 X false false), none, none, none, some (.var [.t (.v (.bool s)), .t (.lst false r), .t (.v (.bool t)), .t (.lst false p)])]
theorem uaccum_call (R B : List Rat) (c : Rat) (k a b d : Nat) (hl : B.length + k <= R.length) (hR : R.length <= 1000) (h1 : ∀ q ∈ R, Qs q a) (h2 : Qs c b) (h3 : ∀ q ∈ B, Qs q d) (ha : a <= 68719476736) (hbd : b + d <= 68719476736) :
  ACall Tryz.prog 40 [.bor 4 (ur R), .val (.agg (qc c).row), .val (tl (ur B)), .val (ti .i64 (k : Int))] ⟨[], [some (.rows 4 (ur (pacc R c B k)) false false), none, none, none]⟩ := by
 obtain ⟨K, hK⟩ : ∃ N : Int, N = k := ⟨_, rfl⟩
 rw [<- hK]
 obtain ⟨X, hX⟩ : ∃ X, X = ur R := ⟨_, rfl⟩
 obtain ⟨Y, hY⟩ : ∃ Y, Y = ur B := ⟨_, rfl⟩
 obtain ⟨Z, hZ⟩ : ∃ Z, Z = ur (pacc R c B k) := ⟨_, rfl⟩
 obtain ⟨n, hn⟩ : ∃ n, n = R.length := ⟨_, rfl⟩
 obtain ⟨m, hm⟩ : ∃ m, m = B.length := ⟨_, rfl⟩
 have hXl : X.length = n := by rw [hX, qaf, hn]
 have hYl : Y.length = m := by rw [hY, qaf, hm]
 rw [<- hX, <- hY, <- hZ]
 have cs := qsign_call (cmpI c.num 0) (qbp c).n (t := (qc c).t) (q := W .u32 (qc c).m) rfl
 have hrc := qbp c
 obtain ⟨s, hs⟩ : ∃ s, s = (qc c).s := ⟨_, rfl⟩
 obtain ⟨t, ht⟩ : ∃ s, s = (qc c).t := ⟨_, rfl⟩
 obtain ⟨r, hr⟩ : ∃ s, s = W .u32 (qc c).l := ⟨_, rfl⟩
 obtain ⟨p, hp⟩ : ∃ s, s = W .u32 (qc c).m := ⟨_, rfl⟩
 have hrow : (qc c).row = [.v (.bool s), .lst false r, .v (.bool t), .lst false p] := by rw [hs, ht, hr, hp]; rfl
 rw [hrow]
 rw [<- hs, <- ht, <- hr, <- hp] at cs hrc
 by_cases hc0 : c = 0
 ·have hXZ : X = Z := by rw [hX, hZ, hc0]; unfold pacc; rw [accL_zero _ hl]
  have e0 : cmpI c.num 0 = 0 := (cmp00 _).2 (by rw [hc0]; rfl)
  rw [e0] at cs
  refine callZ ccOk mixed [] Tryz.func40 rfl rfl (by kernel_rfl) fun zA zB zC zD zE zF zG zH zI zJ zK zL zM zN zO zP zQ zR zS zT zU zV zX zY zZ za zb zc zd ze zg zh zi zj zk zl zm zn zo zq zr zt zu zw zx zy zz zW zth A L F hS hF => ?_
  have z1 : zM 0 0 = true := by rw [hS.eq]; rfl
  subst hXZ
  cbv
  have e1 : za (zh X) (zh X) = true := by rw [hS.neq]; exact decide_eq_true rfl
  refine ⟨_, hS.call (cs), ?_⟩
  cbv
  refine bT (z1) ?_
  refine nd (e1) ?_
  exact hF _ (ResLe.refl _)
 ·have e0 : cmpI c.num 0 ≠ 0 := fun h => hc0 (Rat.num_eq_zero.1 ((cmp00 _).1 h))
  generalize cmpI c.num 0 = sg at *
  refine callZ ccOk mixed [] Tryz.func40 rfl rfl (by kernel_rfl) fun zA zB zC zD zE zF zG zH zI zJ zK zL zM zN zO zP zQ zR zS zT zU zV zX zY zZ za zb zc zd ze zg zh zi zj zk zl zm zn zo zq zr zt zu zw zx zy zz zW zth A L F hS hF => ?_
  have z1 : zM sg 0 = false := by rw [hS.eq]; exact decide_eq_false e0
  have hlx : zh X = n := by rw [hS.len, hXl]
  obtain ⟨N, hN, hN2⟩ : ∃ N : Int, N = m /\ zY (zh Y) = N := ⟨_, rfl, by rw [hS.len, hYl, hS.ofN]⟩
  cbv
  refine ⟨_, hS.call (cs), ?_⟩
  cbv
  refine bF (z1) ?_
  have hN : N = (m : Int) := hN
  have hK : K = (k : Int) := hK
  refine loopZ ccOk mixed hS (fun (j : Nat) s' => ∃ (i : Nat) (I : Int) (X' : Abs.Rows), I = i /\ i + j = m /\ X' = ur (accL R c B k i) /\ s' = uacSt X' Y n s t r p K N I) (n := m) (s0 := uacSt X Y n s t r p K N 0) (qat ?_ ?_) rfl (by show 4 <= 5; omega) ?_ ?_
  ·simp [leT, uacSt, mkSt, vi, hN2, hlx]
  ·simp [leH, uacSt, mkSt]
  ·exact ⟨0, 0, X, rfl, by omega, hX, rfl⟩
  ·rintro j s1 ⟨i, I, X', hI, hij, hX', hs1⟩
   by_cases hi : i < m
   ·have l1 : zO I N = true := by rw [hS.lt]; exact decide_eq_true (by omega)
    obtain ⟨d0, hd0⟩ : ∃ q, q = B.getD i 0 := ⟨_, rfl⟩
    have hBi : B[i]? = some d0 := by rw [hd0, List.getD_eq_getElem?_getD, List.getElem?_eq_getElem (by omega)]; rfl
    have hYi : Y[i]? = some (qc d0).row := by rw [hY]; exact qbx hBi
    have hQd : Qs d0 d := h3 _ (List.mem_of_getElem? hBi)
    obtain ⟨s2, t2, r2, p2, hrow2, hrd⟩ : ∃ s2 t2 r2 p2, (qc d0).row = [.v (.bool s2), .lst false r2, .v (.bool t2), .lst false p2] /\ IsR d0 s2 r2 t2 p2 := ⟨_, _, _, _, rfl, qbp d0⟩
    rw [hrow2] at hYi
    have cd := qsign_call (cmpI d0.num 0) hrd.n (t := t2) (q := p2) rfl
    have j1 : zV I = i := by rw [hS.nat]; omega
    have n0 : zP 0 I = true := by rw [hS.le]; exact decide_eq_true (by omega)
    have j2 : zi Y i = some [.v (.bool s2), .lst false r2, .v (.bool t2), .lst false p2] := by rw [hS.nth]; exact hYi
    obtain ⟨I', hI', i1⟩ : ∃ I' : Int, I' = ((i + 1 : Nat) : Int) /\ zA .i64 (zB I 1) = I' := ⟨I + 1, by omega, by rw [hS.add, hS.wrap, wrap_i64 (by omega) (by omega)]⟩
    have hjj : j - 1 < j := by omega
    subst hs1
    by_cases hdz : d0 = 0
    ·have e0 : cmpI d0.num 0 = 0 := (cmp00 _).2 (by rw [hdz]; rfl)
     rw [e0] at cd
     have z2 : zN 0 0 = false := by rw [hS.ne]; rfl
     have hnx : ∃ (i2 : Nat) (I2 : Int) (X2 : Abs.Rows), I2 = i2 /\ i2 + (j - 1) = m /\ X2 = ur (accL R c B k i2) /\ uacSt X' Y n s t r p K N I' = uacSt X2 Y n s t r p K N I2 := ⟨i + 1, I', X', hI', by omega, by rw [hX', accL_skip (by omega) (by rw [<- hd0, hdz, Rat.mul_zero])], rfl⟩
     cbv
     refine bT l1 ?_
     rw [j1, j2]
     cbv
     refine nd (n0) ?_
     refine ⟨_, hS.call (cd), ?_⟩
     cbv
     refine bF (z2) ?_
     exact again (s' := uacSt X' Y n s t r p K N I') (m := j - 1) (by simp [leT, uacSt, mkSt, vi, i1]) (by simp [leH, uacSt, mkSt]) rfl (by show 4 <= 5; omega) hjj hnx
    ·have e0 : cmpI d0.num 0 ≠ 0 := fun h => hdz (Rat.num_eq_zero.1 ((cmp00 _).1 h))
     generalize cmpI d0.num 0 = sd at *
     have z2 : zN sd 0 = true := by rw [hS.ne]; exact decide_eq_true e0
     obtain ⟨x0, hx0⟩ : ∃ x0, x0 = R.getD (i + k) 0 := ⟨_, rfl⟩
     have hRx : R[i + k]? = some x0 := by rw [hx0, List.getD_eq_getElem?_getD, List.getElem?_eq_getElem (by omega)]; rfl
     have hQx : Qs x0 a := h1 _ (List.mem_of_getElem? hRx)
     have hAx : (accL R c B k i).getD (i + k) 0 = x0 := by rw [accL_get _ _ (by omega), if_neg (by omega), hx0]
     have hAg : (accL R c B k i)[i + k]? = some x0 := by
      rw [<- hAx, List.getD_eq_getElem?_getD, List.getElem?_eq_getElem (by rw [qbd]; omega)]; rfl
     have hXg : X'[i + k]? = some (qc x0).row := by rw [hX']; exact qbx hAg
     obtain ⟨s3, t3, r3, p3, hrow3, hrx⟩ : ∃ s2 t2 r2 p2, (qc x0).row = [.v (.bool s2), .lst false r2, .v (.bool t2), .lst false p2] /\ IsR x0 s2 r2 t2 p2 := ⟨_, _, _, _, rfl, qbp x0⟩
     rw [hrow3] at hXg
     obtain ⟨u1, w1, v1, q1, hm1, cm⟩ := pmul_call hrc hrd (h2.mono (by omega)) (hQd.mono (by omega))
     have hQm : Qs (c * d0) (b + d) := mul_small h2 hQd
     obtain ⟨u2, w2, v2, q2, hm2, ca⟩ := padd_call hrx hm1 (hQx.mono (by omega)) (hQm.mono (by omega))
     obtain ⟨X2, hX2⟩ : ∃ X2, X2 = ur (accL R c B k (i + 1)) := ⟨_, rfl⟩
     have hset : X'.set (i + k) [.v (.bool u2), .lst false w2, .v (.bool v2), .lst false q2] = X2 := by
      have hr2 := qc_row hm2
      rw [show [.v (.bool u2), .lst false w2, .v (.bool v2), .lst false q2] = (qc (x0 + c * d0)).row from hr2, hX', ur_set, hX2]
      show _ = ur ((accL R c B k i).set (i + k) _)
      rw [hAx, hd0]
     obtain ⟨e, he⟩ : ∃ e, e = i + k := ⟨_, rfl⟩
     rw [<- he] at hset hXg
     obtain ⟨J, hJ, i2⟩ : ∃ J : Int, J = ((i + k : Nat) : Int) /\ zA .i64 (zB I K) = J := ⟨I + K, by omega, by rw [hS.add, hS.wrap, wrap_i64 (by omega) (by omega)]⟩
     have g1 : zX (zA .i64 (zB I K)) n = true := by rw [i2, hS.inb]; exact decide_eq_true (by omega)
     have g1' : zX J n = true := i2 ▸ g1
     have g2 : zZ 0 J = e := by rw [hS.idx]; omega
     have g3 : zi X' e = some [.v (.bool s3), .lst false r3, .v (.bool t3), .lst false p3] := by rw [hS.nth]; exact hXg
     have g4 : zj X' e [.v (.bool u2), .lst false w2, .v (.bool v2), .lst false q2] = X2 := by rw [hS.setr]; exact hset
     have hnx : ∃ (i2 : Nat) (I2 : Int) (X3 : Abs.Rows), I2 = i2 /\ i2 + (j - 1) = m /\ X3 = ur (accL R c B k i2) /\ uacSt X2 Y n s t r p K N I' = uacSt X3 Y n s t r p K N I2 := ⟨i + 1, I', X2, hI', by omega, hX2, rfl⟩
     cbv
     refine bT l1 ?_
     rw [j1, j2]
     cbv
     refine nd (n0) ?_
     refine ⟨_, hS.call (cd), ?_⟩
     cbv
     refine bT (z2) ?_
     refine nd (g1) ?_
     rw [i2, g2, g3]
     cbv
     refine ⟨_, hS.call (cm), ?_⟩
     cbv
     refine ⟨_, hS.call (ca), ?_⟩
     cbv
     refine nd (g1') ?_
     rw [g2, g3]
     cbv
     exact again (s' := uacSt X2 Y n s t r p K N I') (m := j - 1) (by simp [leT, uacSt, mkSt, vi, i1]) (by simp [leH, uacSt, mkSt, g4]) rfl (by show 4 <= 5; omega) hjj hnx
   ·have l1 : zO I N = false := by rw [hS.lt]; exact decide_eq_false (by omega)
    have hXZ : X' = Z := by rw [hX', hZ, show i = B.length by omega]; rfl
    subst hXZ
    subst hs1
    cbv
    have e1 : za (zh X') (zh X) = true := by rw [hS.neq, hS.len, hS.len, hX', hX, qaf, qaf, qbd]; exact decide_eq_true rfl
    refine bF l1 (nd e1 ?_)
    exact hF _ (ResLe.refl _)
open Go Go.Abs Go.Abs.M Go.Proofs
def utrSt (R : Abs.Rows) (n : Int) : St := mkSt 22 [.c (.t (.lst false R)), .junk, .junk, vi .i64 n] [none]
theorem utrimU_call (P : List Rat) (hl : P.length <= 1000)
  (hs : ∀ q : Rat, ∃ k : Int, (k = 0 ↔ q = 0) /\ ACall Tryz.prog 53 [.val (.agg (qc q).row)] ⟨[.val (ti .i64 k)], [none]⟩) :
  ACall Tryz.prog 39 [.val (tl (ur P))] ⟨[.val (tl (ur (ptrim P)))], [none]⟩ := by
 obtain ⟨R, hR⟩ : ∃ R, R = ur P := ⟨_, rfl⟩
 obtain ⟨n, hn⟩ : ∃ n, n = P.length := ⟨_, rfl⟩
 have hRl : R.length = n := by rw [hR, qaf, hn]
 have hget : ∀ i, i < n -> ∃ q : Rat, P.getD i 0 = q /\ ∃ (s t : Bool) (r p : Abs.Rows), (qc q).row = [.v (.bool s), .lst false r, .v (.bool t), .lst false p] /\ R[i]? = some (qc q).row := fun i hi => by
  have h : P[i]? = some P[i] := List.getElem?_eq_getElem (by omega)
  have h2 := qbx h
  rw [<- hR] at h2
  exact ⟨_, by rw [List.getD_eq_getElem?_getD, h]; rfl, _, _, _, _, rfl, h2⟩
 have hwd : (R.all fun r => r.length == 4) = true := by
  refine List.all_eq_true.2 fun r hr => ?_
  rw [hR] at hr
  obtain ⟨c, _, rfl⟩ := List.mem_map.1 hr
  rfl
 obtain ⟨T, hT⟩ : ∃ T, T = tlen P P.length := ⟨_, rfl⟩
 obtain ⟨Q, hQ⟩ : ∃ Q, Q = ur (ptrim P) := ⟨_, rfl⟩
 have hend : ∀ k, tlen P k = T -> k <= n -> T = k -> Q = (R.drop 0).take k := fun k _ _ hk => by
  rw [hQ, hR, List.drop_zero, ur_take, <- hk, hT]; rfl
 rw [<- hR, <- hQ]
 rw [<- hn] at hT
 clear hR hQ
 refine callZ ccOk mixed [.val] Tryz.func39 rfl rfl (by kernel_rfl) fun zA zB zC zD zE zF zG zH zI zJ zK zL zM zN zO zP zQ zR zS zT zU zV zX zY zZ za zb zc zd ze zg zh zi zj zk zl zm zn zo zq zr zt zu zw zx zy zz zW zth A L F hS hF => ?_
 have hlx : zh R = n := by rw [hS.len, hRl]
 obtain ⟨N, hN, hN2⟩ : ∃ N : Int, N = n /\ zY (zh R) = N := ⟨_, rfl, by rw [hlx, hS.ofN]⟩
 cbv
 have hN : N = (n : Int) := hN
 refine loopZ ccOk mixed hS (fun (k : Nat) s' => ∃ I : Int, I = k /\ k <= n /\ tlen P k = T /\ s' = utrSt R I) (n := n) (s0 := utrSt R N) (qat ?_ ?_) rfl (Nat.le_refl 1) ?_ ?_
 ·simp [leT, utrSt, mkSt, vi, vb, hN2]
 ·simp [leH, utrSt, mkSt]
 ·exact ⟨N, hN, Nat.le_refl _, hT.symm, rfl⟩
 ·rintro k s1 ⟨I, hI, hk, hTk, hs1⟩
  have w1 : zd 0 I (zh R) = true := by rw [hS.cut, hlx]; exact decide_eq_true (by omega)
  have w2 : zu 4 R = true := by rw [hS.wide]; exact hwd
  have w3 : zo R 0 (zV I) = (R.drop 0).take k := by rw [hS.part, hS.nat, hI, Int.toNat_natCast]
  by_cases hk0 : k = 0
  ·have l1 : zO 0 I = false := by rw [hS.lt]; exact decide_eq_false (by omega)
   have hq := hend k hTk hk (by rw [<- hTk, hk0]; rfl)
   subst hs1
   cbv
   refine bF l1 (nd w1 (nd w2 ?_))
   rw [w3, <- hq]
   exact hF _ (ResLe.refl _)
  ·have l1 : zO 0 I = true := by rw [hS.lt]; exact decide_eq_true (by omega)
   obtain ⟨q, hqi, s, t, r, p, hrow, hnth⟩ := hget (k - 1) (by omega)
   obtain ⟨c, hc, cg⟩ := hs q
   obtain ⟨J, hJ, j1⟩ : ∃ J : Int, J = ((k - 1 : Nat) : Int) /\ zA .i64 (zC I 1) = J := ⟨I - 1, by omega, by rw [hS.sub, hS.wrap, wrap_i64 (by omega) (by omega)]⟩
   have g1 : zP 0 J = true := by rw [hS.le]; exact decide_eq_true (by omega)
   have hz : zi R (zV J) = some [.v (.bool s), .lst false r, .v (.bool t), .lst false p] := by rw [hS.nat, hJ, Int.toNat_natCast, hS.nth, hnth, hrow]
   rw [hrow] at cg
   have htl : tlen P k = if q = 0 then tlen P (k - 1) else k := by
    obtain ⟨m, rfl⟩ : ∃ m, k = m + 1 := ⟨k - 1, by omega⟩
    rw [Nat.add_sub_cancel] at hqi
    rw [Nat.add_sub_cancel]
    show (if P.getD m 0 = 0 then tlen P m else m + 1) = _
    rw [hqi]
   by_cases hq0 : q = 0
   ·have e1 : zM c 0 = true := by rw [hS.eq]; exact decide_eq_true (hc.2 hq0)
    rw [if_pos hq0] at htl
    have hkk : k - 1 < k := by omega
    have hnx : ∃ I2 : Int, I2 = ((k - 1 : Nat) : Int) /\ k - 1 <= n /\ tlen P (k - 1) = T /\ utrSt R J = utrSt R I2 := ⟨J, hJ, by omega, by rw [<- htl]; exact hTk, rfl⟩
    clear hget hs hend
    subst hs1
    cbv
    refine bT l1 ?_
    rw [j1, hz]
    cbv
    refine nd (g1) ?_
    refine ⟨_, hS.call (cg), ?_⟩
    cbv
    refine bT (e1) ?_
    exact again (s' := utrSt R J) (m := k - 1) (by simp [leT, utrSt, mkSt, vi, vb, j1]) (by simp [leH, utrSt, mkSt]) rfl (Nat.le_refl 1) hkk hnx
   ·have e1 : zM c 0 = false := by rw [hS.eq]; exact decide_eq_false fun h => hq0 (hc.1 h)
    rw [if_neg hq0] at htl
    have hq := hend k hTk hk (by rw [<- hTk, htl])
    clear hget hs hend
    subst hs1
    cbv
    refine bT l1 ?_
    rw [j1, hz]
    cbv
    refine nd (g1) ?_
    refine ⟨_, hS.call (cg), ?_⟩
    cbv
    refine bF (e1) ?_
    refine nd (w1) ?_
    refine nd (w2) ?_
    rw [w3, <- hq]
    exact hF _ (ResLe.refl _)
theorem utrim2_call (P : List Rat) (hl : P.length <= 1000) : ACall Tryz.prog 39 [.val (tl (ur P))] ⟨[.val (tl (ur (ptrim P)))], [none]⟩ :=
 utrimU_call P hl fun q => ⟨cmpI q.num 0, (cmp00 q.num).trans Rat.num_eq_zero, qsign_call _ (qbp q).n rfl⟩
open Go Go.Abs Go.Abs.M Go.Proofs
def pshift (P : List Rat) (c : Rat) (B : List Rat) (k : Nat) : List Rat := pacc (P ++ List.replicate (max P.length (B.length + k) - P.length) 0) c B k
theorem ushift_call (P B : List Rat) (c : Rat) (k a b d : Nat) (hl : B.length + k <= 1000) (hP : P.length <= 1000) (h1 : ∀ q ∈ P, Qs q a) (h2 : Qs c b) (h3 : ∀ q ∈ B, Qs q d) (ha : a <= 68719476736) (ha1 : 1 <= a) (hbd : b + d <= 68719476736) :
  ACall Tryz.prog 56 [.val (tl (ur P)), .val (.agg (qc c).row), .val (tl (ur B)), .val (ti .i64 (k : Int))] ⟨[.val (tl (ur (ptrim (pshift P c B k))))], [none, none, none, none]⟩ := by
 obtain ⟨n, hn⟩ : ∃ n, n = max P.length (B.length + k) := ⟨_, rfl⟩
 have cz := uzeros_call n (by omega)
 obtain ⟨K, hK⟩ : ∃ N : Int, N = k := ⟨_, rfl⟩
 have hR : (P ++ List.replicate (n - P.length) 0).length = n := by simp; omega
 have cac := uaccum_call (P ++ List.replicate (n - P.length) 0) B c k a b d (by omega) (by omega) (fun q hq => by
  rcases List.mem_append.1 hq with h | h
  ·exact h1 q h
  ·rw [(List.mem_replicate.1 h).2]; exact ⟨Nat.le_trans (qam (k := 1) (by decide)) ha1, Nat.le_trans (qam (k := 1) (by decide)) ha1⟩) h2 h3 ha hbd
 have ct := utrim2_call (pacc (P ++ List.replicate (n - P.length) 0) c B k) (by unfold pacc; rw [qbd]; omega)
 have hfin : pacc (P ++ List.replicate (n - P.length) 0) c B k = pshift P c B k := by unfold pshift; rw [hn]
 rw [hfin] at ct cac
 obtain ⟨X, hX⟩ : ∃ X, X = ur P := ⟨_, rfl⟩
 obtain ⟨Y, hY⟩ : ∃ Y, Y = ur B := ⟨_, rfl⟩
 obtain ⟨Z0, hZ0⟩ : ∃ X, X = ur (List.replicate n 0) := ⟨_, rfl⟩
 obtain ⟨Z1, hZ1⟩ : ∃ X, X = ur (P ++ List.replicate (n - P.length) 0) := ⟨_, rfl⟩
 obtain ⟨Z2, hZ2⟩ : ∃ X, X = ur (pshift P c B k) := ⟨_, rfl⟩
 obtain ⟨Z3, hZ3⟩ : ∃ X, X = ur (ptrim (pshift P c B k)) := ⟨_, rfl⟩
 obtain ⟨s, hs⟩ : ∃ s, s = (qc c).s := ⟨_, rfl⟩
 obtain ⟨t, ht⟩ : ∃ s, s = (qc c).t := ⟨_, rfl⟩
 obtain ⟨r, hr⟩ : ∃ s, s = W .u32 (qc c).l := ⟨_, rfl⟩
 obtain ⟨p, hp⟩ : ∃ s, s = W .u32 (qc c).m := ⟨_, rfl⟩
 have hrow : (qc c).row = [.v (.bool s), .lst false r, .v (.bool t), .lst false p] := by rw [hs, ht, hr, hp]; rfl
 rw [hrow] at cac
 rw [<- hZ0] at cz
 rw [<- hZ1, <- hZ2, <- hY, <- hK] at cac
 rw [<- hZ2, <- hZ3] at ct
 rw [hrow, <- hX, <- hY, <- hK, <- hZ3]
 obtain ⟨N, hN⟩ : ∃ N : Int, N = n := ⟨_, rfl⟩
 have hZl : Z0.length = n := by rw [hZ0, qaf, List.length_replicate]
 have hZ2l : Z2.length = n := by rw [hZ2, qaf, <- hfin]; unfold pacc; rw [qbd, hR]
 have hZ1l : Z1.length = n := by rw [hZ1, qaf, hR]
 have hwd : (X.all fun r => r.length == 4) = true := by
  refine List.all_eq_true.2 fun r hr => ?_
  rw [hX] at hr
  obtain ⟨c, _, rfl⟩ := List.mem_map.1 hr
  rfl
 have hsg : setRange Z0 0 X = Z1 := by
  rw [hZ0, hX, hZ1]
  unfold setRange
  rw [List.take_zero, List.nil_append, qaf, Nat.zero_add]
  simp only [ur, qrows, List.map_append, List.map_drop, List.drop_replicate, List.map_replicate]
 rw [<- hN] at cz
 have hXl : X.length = P.length := by rw [hX, qaf]
 have hYl : Y.length = B.length := by rw [hY, qaf]
 refine callZ ccOk mixed [.val] Tryz.func56 rfl rfl (by kernel_rfl) fun zA zB zC zD zE zF zG zH zI zJ zK zL zM zN zO zP zQ zR zS zT zU zV zX zY zZ za zb zc zd ze zg zh zi zj zk zl zm zn zo zq zr zt zu zw zx zy zz zW zth A L F hS hF => ?_
 have m1 : zT (zY (zh X)) (zA .i64 (zB (zY (zh Y)) K)) = N := by rw [hS.max, hS.ofN, hS.len, hS.ofN, hS.len, hS.add, hS.wrap, wrap_i64 (by omega) (by omega)]; omega
 have lz : zh Z0 = n := by rw [hS.len, hZl]
 have f1 : zn 0 (zh Z0) Z0 = true := by rw [hS.fit, lz, hZl]; exact decide_eq_true (by omega)
 have f2 : zu 4 X = true := by rw [hS.wide]; exact hwd
 have f3 : zP (zY (zh X)) (zY (zh Z0)) = true := by rw [hS.le, hS.ofN, hS.ofN, lz, hS.len]; exact decide_eq_true (by omega)
 have f0 : zr Z0 0 X = Z1 := by rw [hS.setg]; exact hsg
 have f4 : zn 0 (zh Z0) Z1 = true := by rw [hS.fit, lz, hZ1l]; exact decide_eq_true (by omega)
 have f5 : zo Z1 0 (zh Z0) = Z1 := by rw [hS.part, lz, <- hZ1l, List.drop_zero, List.take_length]
 have f6 : za (zh Z2) (zh Z0) = true := by rw [hS.neq, lz, hS.len, hZ2l]; exact decide_eq_true rfl
 have f7 : zr Z1 0 Z2 = Z2 := by rw [hS.setg]; unfold setRange; rw [List.take_zero, List.nil_append, Nat.zero_add, hZ2l, <- hZ1l, List.drop_length, List.append_nil]
 have f8 : zn 0 (zh Z0) Z2 = true := by rw [hS.fit, lz, hZ2l]; exact decide_eq_true (by omega)
 have f9 : zo Z2 0 (zh Z0) = Z2 := by rw [hS.part, lz, <- hZ2l, List.drop_zero, List.take_length]
 cbv
 rw [m1]
 refine ⟨_, hS.call (cz), ?_⟩
 cbv
 refine nd (f1) ?_
 refine nd (f2) ?_
 refine nd (f3) ?_
 rw [f0]
 refine nd (f4) ?_
 rw [f5]
 refine ⟨_, hS.call (cac), ?_⟩
 cbv
 refine nd (f6) ?_
 rw [f7]
 refine nd (f8) ?_
 rw [f9]
 refine ⟨_, hS.call (ct), ?_⟩
 cbv
 exact hF _ (ResLe.refl _)
open Go Go.Abs Go.Abs.M Go.Proofs
theorem pshift_len (P : List Rat) (c : Rat) (B : List Rat) (k : Nat) : (pshift P c B k).length = max P.length (B.length + k) := by
 unfold pshift pacc
 rw [qbd, List.length_append, List.length_replicate]
 omega
theorem pshift_get (P : List Rat) (c : Rat) (B : List Rat) (k j : Nat) : (pshift P c B k).getD j 0 = P.getD j 0 + if k <= j then c * B.getD (j - k) 0 else 0 := by
 have hp : ∀ m, (P ++ List.replicate m (0 : Rat)).getD j 0 = P.getD j 0 := fun m => by
  rw [List.getD_eq_getElem?_getD, List.getD_eq_getElem?_getD, List.getElem?_append]
  split
  ·rfl
  ·rename_i h
   rw [List.getElem?_eq_none (by omega : P.length <= j), List.getElem?_replicate]
   split <;> rfl
 unfold pshift pacc
 rw [accL_get _ _ (by rw [List.length_append, List.length_replicate]; omega), hp]
 by_cases h : k <= j
 ·rw [if_pos h]
  by_cases h2 : j < k + B.length
  ·rw [if_pos ⟨h, h2⟩]
  ·rw [if_neg (by omega), List.getD_eq_getElem?_getD, List.getD_eq_getElem?_getD (l := B), List.getElem?_eq_none (by omega : B.length <= j - k)]
   rw [Option.getD_none, Rat.mul_zero, Rat.add_zero]
 ·rw [if_neg (by omega), if_neg h, Rat.add_zero]
theorem Qs.whole {n : Int} {k : Nat} (h : n.natAbs < 4294967296) (hk : 1 <= k) : Qs ((n : Int) : Rat) k :=
 ⟨Nat.le_trans (qam (k := 1) (by simp only [Rat.num_intCast]; omega)) hk, Nat.le_trans (qam (k := 1) (by simp only [Rat.den_intCast]; omega)) hk⟩
theorem usub_call (P B : List Rat) (a b d : Nat) (hl : B.length <= 1000) (hP : P.length <= 1000) (h1 : ∀ q ∈ P, Qs q a) (h3 : ∀ q ∈ B, Qs q d) (ha : a <= 68719476736) (ha1 : 1 <= a) (hbd : 1 + d <= 68719476736) :
  ACall Tryz.prog 31 [.val (tl (ur P)), .val (tl (ur B))] ⟨[.val (tl (ur (ptrim (pshift P (-1) B 0))))], [none, none]⟩ := by
 obtain ⟨s, r, v, p, hz, cw⟩ := pWhole_call (-1) (by omega) (by omega)
 have hrow := qc_row hz
 rw [show ((-1 : Int) : Rat) = -1 from rfl] at hrow
 have cs := ushift_call P B (-1) 0 a 1 d (by omega) hP h1 (Qs.whole (n := -1) (by decide) (Nat.le_refl 1)) h3 ha ha1 hbd
 rw [<- hrow] at cs
 obtain ⟨X, hX⟩ : ∃ X, X = ur P := ⟨_, rfl⟩
 obtain ⟨Y, hY⟩ : ∃ Y, Y = ur B := ⟨_, rfl⟩
 obtain ⟨Z, hZ⟩ : ∃ X, X = ur (ptrim (pshift P (-1) B 0)) := ⟨_, rfl⟩
 rw [<- hX, <- hY, <- hZ] at cs
 rw [<- hX, <- hY, <- hZ]
 refine callZ ccOk mixed [.val] Tryz.func31 rfl rfl (by kernel_rfl) fun zA zB zC zD zE zF zG zH zI zJ zK zL zM zN zO zP zQ zR zS zT zU zV zX zY zZ za zb zc zd ze zg zh zi zj zk zl zm zn zo zq zr zt zu zw zx zy zz zW zth A L F hS hF => ?_
 cbv
 refine ⟨_, hS.call (cw), ?_⟩
 cbv
 refine ⟨_, hS.call (cs), ?_⟩
 cbv
 exact hF _ (ResLe.refl _)
open Go Go.Abs Go.Abs.M Go.Proofs
theorem uscale_call (B : List Rat) (c : Rat) (b d : Nat) (hl : B.length <= 1000) (h2 : Qs c b) (h3 : ∀ q ∈ B, Qs q d) (hbd : b + d <= 68719476736) :
  ACall Tryz.prog 29 [.val (.agg (qc c).row), .val (tl (ur B))] ⟨[.val (tl (ur (ptrim (pshift [] c B 0))))], [none, none]⟩ := by
 obtain ⟨n, hn⟩ : ∃ n, n = B.length := ⟨_, rfl⟩
 have cz := uzeros_call n (by omega)
 have hR : (List.replicate n (0 : Rat)).length = n := by simp
 have cac := uaccum_call (List.replicate n 0) B c 0 1 b d (by omega) (by omega) (fun q hq => by
  rw [(List.mem_replicate.1 hq).2]; exact Qs.whole (n := 0) (by decide) (Nat.le_refl 1)) h2 h3 (by omega) hbd
 have hfin : pacc (List.replicate n 0) c B 0 = pshift [] c B 0 := by unfold pshift; rw [hn]; simp
 rw [hfin] at cac
 have ct := utrim2_call (pshift [] c B 0) (by rw [<- hfin]; unfold pacc; rw [qbd]; omega)
 obtain ⟨Y, hY⟩ : ∃ Y, Y = ur B := ⟨_, rfl⟩
 obtain ⟨Z0, hZ0⟩ : ∃ X, X = ur (List.replicate n 0) := ⟨_, rfl⟩
 obtain ⟨Z2, hZ2⟩ : ∃ X, X = ur (pshift [] c B 0) := ⟨_, rfl⟩
 obtain ⟨Z3, hZ3⟩ : ∃ X, X = ur (ptrim (pshift [] c B 0)) := ⟨_, rfl⟩
 obtain ⟨s, hs⟩ : ∃ s, s = (qc c).s := ⟨_, rfl⟩
 obtain ⟨t, ht⟩ : ∃ s, s = (qc c).t := ⟨_, rfl⟩
 obtain ⟨r, hr⟩ : ∃ s, s = W .u32 (qc c).l := ⟨_, rfl⟩
 obtain ⟨p, hp⟩ : ∃ s, s = W .u32 (qc c).m := ⟨_, rfl⟩
 have hrow : (qc c).row = [.v (.bool s), .lst false r, .v (.bool t), .lst false p] := by rw [hs, ht, hr, hp]; rfl
 rw [hrow] at cac
 rw [<- hZ0] at cz
 rw [<- hZ0, <- hZ2, <- hY] at cac
 rw [<- hZ2, <- hZ3] at ct
 rw [hrow, <- hY, <- hZ3]
 obtain ⟨N, hN⟩ : ∃ N : Int, N = n := ⟨_, rfl⟩
 rw [<- hN] at cz
 have hZl : Z0.length = n := by rw [hZ0, qaf, List.length_replicate]
 have hZ2l : Z2.length = n := by rw [hZ2, qaf, <- hfin]; unfold pacc; rw [qbd, hR]
 have hYl : Y.length = n := by rw [hY, qaf, hn]
 refine callZ ccOk mixed [.val] Tryz.func29 rfl rfl (by kernel_rfl) fun zA zB zC zD zE zF zG zH zI zJ zK zL zM zN zO zP zQ zR zS zT zU zV zX zY zZ za zb zc zd ze zg zh zi zj zk zl zm zn zo zq zr zt zu zw zx zy zz zW zth A L F hS hF => ?_
 have m1 : zY (zh Y) = N := by rw [hS.ofN, hS.len, hYl, hN]
 have lz : zh Z0 = n := by rw [hS.len, hZl]
 have f4 : zn 0 (zh Z0) Z0 = true := by rw [hS.fit, lz, hZl]; exact decide_eq_true (by omega)
 have f5 : zo Z0 0 (zh Z0) = Z0 := by rw [hS.part, lz, <- hZl, List.drop_zero, List.take_length]
 have f6 : za (zh Z2) (zh Z0) = true := by rw [hS.neq, lz, hS.len, hZ2l]; exact decide_eq_true rfl
 have f7 : zr Z0 0 Z2 = Z2 := by rw [hS.setg]; unfold setRange; rw [List.take_zero, List.nil_append, Nat.zero_add, hZ2l, <- hZl, List.drop_length, List.append_nil]
 have f8 : zn 0 (zh Z0) Z2 = true := by rw [hS.fit, lz, hZ2l]; exact decide_eq_true (by omega)
 have f9 : zo Z2 0 (zh Z0) = Z2 := by rw [hS.part, lz, <- hZ2l, List.drop_zero, List.take_length]
 cbv
 rw [m1]
 refine ⟨_, hS.call (cz), ?_⟩
 cbv
 refine nd (f4) ?_
 rw [f5]
 refine ⟨_, hS.call (cac), ?_⟩
 cbv
 refine nd (f6) ?_
 rw [f7]
 refine nd (f8) ?_
 rw [f9]
 refine ⟨_, hS.call (ct), ?_⟩
 cbv
 exact hF _ (ResLe.refl _)
open Go Go.Abs Go.Abs.M Go.Proofs
def pmulL (P B : List Rat) (R : List Rat) : Nat -> List Rat
 | 0 => R
 | i + 1 => pacc (pmulL P B R i) (P.getD i 0) B i
def pmul (P B : List Rat) : List Rat := pmulL P B (List.replicate (P.length + B.length - 1) 0) P.length
theorem qa7 (P B R : List Rat) : ∀ i, (pmulL P B R i).length = R.length
 | 0 => rfl
 | i + 1 => by unfold pmulL pacc; rw [qbd, qa7 P B R i]
theorem accL_all {R B : List Rat} {c : Rat} {k a b d : Nat} (h1 : ∀ q ∈ R, Qs q a) (h2 : Qs c b) (h3 : ∀ q ∈ B, Qs q d) (hl : B.length + k <= R.length) : ∀ q ∈ pacc R c B k, Qs q (a + (b + d) + 1) := fun q hq => by
 obtain ⟨j, hj⟩ := List.getElem?_of_mem hq
 have hlt := (List.getElem?_eq_some_iff.1 hj).1
 have hq2 : (pacc R c B k).getD j 0 = q := by rw [List.getD_eq_getElem?_getD, hj]; rfl
 unfold pacc at hq2 hlt
 rw [qbd] at hlt
 rw [accL_get _ _ (by omega)] at hq2
 have hx : Qs (R.getD j 0) a := by
  rw [List.getD_eq_getElem?_getD, List.getElem?_eq_getElem hlt]
  exact h1 _ (List.getElem_mem hlt)
 by_cases h : k <= j /\ j < k + B.length
 ·rw [if_pos h] at hq2
  rw [<- hq2]
  refine add_small hx (mul_small h2 ?_)
  rw [List.getD_eq_getElem?_getD, List.getElem?_eq_getElem (by omega : j - k < B.length)]
  exact h3 _ (List.getElem_mem _)
 ·rw [if_neg h] at hq2
  rw [<- hq2]
  exact hx.mono (by omega)
theorem pmulL_all {P B R : List Rat} {a b d : Nat} (h1 : ∀ q ∈ R, Qs q a) (h2 : ∀ q ∈ P, Qs q b) (h3 : ∀ q ∈ B, Qs q d) (hl : P.length + B.length <= R.length + 1) : ∀ i, i <= P.length -> ∀ q ∈ pmulL P B R i, Qs q (a + i * (b + d + 1))
 | 0, _ => fun q hq => (h1 q hq).mono (by omega)
 | i + 1, hi => fun q hq => by
  have ih := pmulL_all h1 h2 h3 hl i (by omega)
  have hp : Qs (P.getD i 0) b := by
   rw [List.getD_eq_getElem?_getD, List.getElem?_eq_getElem (by omega : i < P.length)]
   exact h2 _ (List.getElem_mem _)
  refine (accL_all ih hp h3 (by rw [qa7]; omega) q hq).mono ?_
  rw [Nat.succ_mul]; omega
def umSt (X Y R : Abs.Rows) (n : Nat) (M i : Int) : St := mkSt 38 [.c (.t (.lst false X)), .c (.t (.lst false Y)), .junk, .junk, .junk, .c (.sl 2 0 n false), .junk, .junk, .junk, .junk, .junk, .junk, .junk, .junk, .junk, .junk, .junk, .junk, .junk, .junk, .junk, .junk, .junk, .c (.t (.lst false X)), vi .i64 M, vi .i64 i] [none, none, some (.rows 4 R true false)]
theorem umul_call (P B : List Rat) (b d : Nat) (hP0 : P ≠ []) (hB0 : B ≠ []) (hl : P.length + B.length <= 1000) (h2 : ∀ q ∈ P, Qs q b) (h3 : ∀ q ∈ B, Qs q d) (hbd : b + d <= 67108864) :
  ACall Tryz.prog 12 [.val (tl (ur P)), .val (tl (ur B))] ⟨[.val (tl (ur (ptrim (pmul P B))))], [none, none]⟩ := by
 obtain ⟨m, hm⟩ : ∃ m, m = P.length := ⟨_, rfl⟩
 obtain ⟨l, hl2⟩ : ∃ m, m = B.length := ⟨_, rfl⟩
 have hm0 : m ≠ 0 := fun h => hP0 (List.length_eq_zero_iff.1 (hm.symm.trans h))
 have hl0 : l ≠ 0 := fun h => hB0 (List.length_eq_zero_iff.1 (hl2.symm.trans h))
 obtain ⟨n, hn⟩ : ∃ n, n = m + l - 1 := ⟨_, rfl⟩
 have cz := uzeros_call n (by omega)
 obtain ⟨X, hX⟩ : ∃ Y, Y = ur P := ⟨_, rfl⟩
 obtain ⟨Y, hY⟩ : ∃ Y, Y = ur B := ⟨_, rfl⟩
 obtain ⟨Z0, hZ0⟩ : ∃ X, X = ur (List.replicate n 0) := ⟨_, rfl⟩
 obtain ⟨Z3, hZ3⟩ : ∃ X, X = ur (ptrim (pmul P B)) := ⟨_, rfl⟩
 obtain ⟨N, hN⟩ : ∃ N : Int, N = n := ⟨_, rfl⟩
 rw [<- hN, <- hZ0] at cz
 rw [<- hX, <- hY, <- hZ3]
 have hXl : X.length = m := by rw [hX, qaf, hm]
 have hYl : Y.length = l := by rw [hY, qaf, hl2]
 refine callZ ccOk mixed [.val] Tryz.func12 rfl rfl (by kernel_rfl) fun zA zB zC zD zE zF zG zH zI zJ zK zL zM zN zO zP zQ zR zS zT zU zV zX zY zZ za zb zc zd ze zg zh zi zj zk zl zm zn zo zq zr zt zu zw zx zy zz zW zth A L F hS hF => ?_
 have lx : zh X = m := by rw [hS.len, hXl]
 have ly : zh Y = l := by rw [hS.len, hYl]
 have m1 : zA .i64 (zC (zA .i64 (zB (zY (zh X)) (zY (zh Y)))) 1) = N := by rw [lx, ly, hS.sub, hS.add, hS.ofN, hS.ofN, hS.wrap, hS.wrap, wrap_i64 (x := ((m : Int) + l)) (by omega) (by omega), wrap_i64 (by omega) (by omega)]; omega
 have lz : zh Z0 = n := by rw [hS.len, hZ0, qaf, List.length_replicate]
 obtain ⟨M, hM, hM2⟩ : ∃ N : Int, N = m /\ zY (zh X) = N := ⟨_, rfl, by rw [lx, hS.ofN]⟩
 have e1 : zM (zY (zh X)) 0 = false := by rw [hS.eq, hS.ofN, lx]; exact decide_eq_false (by omega)
 have e2 : zM (zY (zh Y)) 0 = false := by rw [hS.eq, hS.ofN, ly]; exact decide_eq_false (by omega)
 cbv
 refine bF e1 (bF e2 ?_)
 rw [m1]
 refine ⟨_, hS.call (cz), ?_⟩
 cbv
 have hM : M = (m : Int) := hM
 refine loopZ ccOk mixed hS (fun (j : Nat) s' => ∃ (i : Nat) (I : Int) (R : Abs.Rows), I = i /\ i + j = m /\ R = ur (pmulL P B (List.replicate n 0) i) /\ s' = umSt X Y R n M I) (n := m) (s0 := umSt X Y Z0 n M 0) (qat ?_ ?_) rfl (by show 2 <= 3; omega) ?_ ?_
 ·simp [leT, umSt, mkSt, vi, hM2, lz]
 ·simp [leH, umSt, mkSt]
 ·exact ⟨0, 0, Z0, rfl, by omega, hZ0, rfl⟩
 ·rintro j s1 ⟨i, I, R, hI, hij, hR, hs1⟩
  by_cases hi : i < m
  ·have l1 : zO I M = true := by rw [hS.lt]; exact decide_eq_true (by omega)
   obtain ⟨c, hc⟩ : ∃ q, q = P.getD i 0 := ⟨_, rfl⟩
   have hPi : P[i]? = some c := by rw [hc, List.getD_eq_getElem?_getD, List.getElem?_eq_getElem (by omega)]; rfl
   have hXi : X[i]? = some (qc c).row := by rw [hX]; exact qbx hPi
   obtain ⟨s2, t2, r2, p2, hrow2⟩ : ∃ s2 t2 r2 p2, (qc c).row = [.v (.bool s2), .lst false r2, .v (.bool t2), .lst false p2] := ⟨_, _, _, _, rfl⟩
   have hb : i * (b + d + 1) <= 1000 * (b + d + 1) := Nat.mul_le_mul_right _ (by omega)
   have cac := uaccum_call (pmulL P B (List.replicate n 0) i) B c i (1 + i * (b + d + 1)) b d (by rw [qa7, List.length_replicate]; omega) (by rw [qa7, List.length_replicate]; omega) (pmulL_all (fun q hq => by
    rw [(List.mem_replicate.1 hq).2]; exact Qs.whole (n := 0) (by decide) (Nat.le_refl 1)) h2 h3 (by rw [List.length_replicate]; omega) i (by omega)) (h2 _ (List.mem_of_getElem? hPi)) h3 (by omega) (by omega)
   obtain ⟨R2, hR2⟩ : ∃ R, R = ur (pmulL P B (List.replicate n 0) (i + 1)) := ⟨_, rfl⟩
   have hpp : pacc (pmulL P B (List.replicate n 0) i) c B i = pmulL P B (List.replicate n 0) (i + 1) := by rw [hc]; rfl
   rw [hpp, <- hR2, <- hR, <- hY, <- hI, hrow2] at cac
   rw [hrow2] at hXi
   have hRl : R.length = n := by rw [hR, qaf, qa7, List.length_replicate]
   have hR2l : R2.length = n := by rw [hR2, qaf, qa7, List.length_replicate]
   have j1 : zV I = i := by rw [hS.nat]; omega
   have n0 : zP 0 I = true := by rw [hS.le]; exact decide_eq_true (by omega)
   have j2 : zi X i = some [.v (.bool s2), .lst false r2, .v (.bool t2), .lst false p2] := by rw [hS.nth]; exact hXi
   have f4 : zn 0 n R = true := by rw [hS.fit, hRl]; exact decide_eq_true (by omega)
   have f5 : zo R 0 n = R := by rw [hS.part, <- hRl, List.drop_zero, List.take_length]
   have f6 : za (zh R2) n = true := by rw [hS.neq, hS.len, hR2l]; exact decide_eq_true rfl
   have f7 : zr R 0 R2 = R2 := by rw [hS.setg]; unfold setRange; rw [List.take_zero, List.nil_append, Nat.zero_add, hR2l, <- hRl, List.drop_length, List.append_nil]
   have f8 : zn 0 n R2 = true := by rw [hS.fit, hR2l]; exact decide_eq_true (by omega)
   obtain ⟨I', hI', i1⟩ : ∃ I' : Int, I' = ((i + 1 : Nat) : Int) /\ zA .i64 (zB I 1) = I' := ⟨I + 1, by omega, by rw [hS.add, hS.wrap, wrap_i64 (by omega) (by omega)]⟩
   have hjj : j - 1 < j := by omega
   have hnx : ∃ (i2 : Nat) (I2 : Int) (R3 : Abs.Rows), I2 = i2 /\ i2 + (j - 1) = m /\ R3 = ur (pmulL P B (List.replicate n 0) i2) /\ umSt X Y R2 n M I' = umSt X Y R3 n M I2 := ⟨i + 1, I', R2, hI', by omega, hR2, rfl⟩
   subst hs1
   cbv
   refine bT l1 ?_
   rw [j1, j2]
   cbv
   refine nd (n0) ?_
   refine nd (f4) ?_
   rw [f5]
   refine ⟨_, hS.call (cac), ?_⟩
   cbv
   refine nd (f6) ?_
   exact again (s' := umSt X Y R2 n M I') (m := j - 1) (by simp [leT, umSt, mkSt, vi, i1]) (by simp [leH, umSt, mkSt, f7]) rfl (by show 2 <= 3; omega) hjj hnx
  ·have l1 : zO I M = false := by rw [hS.lt]; exact decide_eq_false (by omega)
   have him : i = P.length := by omega
   have hfin : pmulL P B (List.replicate n 0) i = pmul P B := by rw [him, hn, hm, hl2]; rfl
   have ct := utrim2_call (pmul P B) (by rw [<- hfin, qa7, List.length_replicate]; omega)
   rw [<- hfin, <- hR, hfin, <- hZ3] at ct
   have hRl : R.length = n := by rw [hR, qaf, qa7, List.length_replicate]
   have f4 : zn 0 n R = true := by rw [hS.fit, hRl]; exact decide_eq_true (by omega)
   have f5 : zo R 0 n = R := by rw [hS.part, <- hRl, List.drop_zero, List.take_length]
   subst hs1
   cbv
   refine bF l1 (nd f4 ?_)
   rw [f5]
   refine ⟨_, hS.call (ct), ?_⟩
   cbv
   exact hF _ (ResLe.refl _)
open Go Go.Abs Go.Abs.M Go.Proofs
def csum (P B : List Rat) (j : Nat) : Nat -> Rat
 | 0 => 0
 | i + 1 => csum P B j i + if i <= j then P.getD i 0 * B.getD (j - i) 0 else 0
theorem pacc_get (R B : List Rat) (c : Rat) (k j : Nat) (h : B.length + k <= R.length) : (pacc R c B k).getD j 0 = R.getD j 0 + if k <= j then c * B.getD (j - k) 0 else 0 := by
 unfold pacc
 rw [accL_get _ _ (by omega)]
 by_cases h1 : k <= j
 ·rw [if_pos h1]
  by_cases h2 : j < k + B.length
  ·rw [if_pos ⟨h1, h2⟩]
  ·rw [if_neg (by omega), List.getD_eq_getElem?_getD (l := B), List.getElem?_eq_none (by omega : B.length <= j - k)]
   rw [Option.getD_none, Rat.mul_zero, Rat.add_zero]
 ·rw [if_neg (by omega), if_neg h1, Rat.add_zero]
theorem pmulL_get {P B R : List Rat} (hl : P.length + B.length <= R.length + 1) (j : Nat) : ∀ i, i <= P.length -> (pmulL P B R i).getD j 0 = R.getD j 0 + csum P B j i
 | 0, _ => by unfold pmulL csum; rw [Rat.add_zero]
 | i + 1, hi => by
  unfold pmulL csum
  rw [pacc_get _ _ _ _ _ (by rw [qa7]; omega), pmulL_get hl j i (by omega), Rat.add_assoc]
open Go Go.Abs Go.Abs.M Go.Proofs
theorem umul_nil1 (B : List Rat) (hl : B.length <= 1000) :
  ACall Tryz.prog 12 [.val (tl []), .val (tl (ur B))] ⟨[.val (.c (.lst true []))], [none, none]⟩ := by
 obtain ⟨Y, hY⟩ : ∃ Y, Y = ur B := ⟨_, rfl⟩
 rw [<- hY]
 refine callZ ccOk mixed [.val] Tryz.func12 rfl rfl (by kernel_rfl) fun zA zB zC zD zE zF zG zH zI zJ zK zL zM zN zO zP zQ zR zS zT zU zV zX zY zZ za zb zc zd ze zg zh zi zj zk zl zm zn zo zq zr zt zu zw zx zy zz zW zth A L F hS hF => ?_
 have e1 : zM (zY (zh [])) 0 = true := by rw [hS.eq, hS.ofN, hS.len]; rfl
 cbv
 refine bT e1 ?_
 exact hF _ (ResLe.refl _)
theorem umul_nil2 (P : List Rat) (hP : P ≠ []) (hl : P.length <= 1000) :
  ACall Tryz.prog 12 [.val (tl (ur P)), .val (tl [])] ⟨[.val (.c (.lst true []))], [none, none]⟩ := by
 obtain ⟨Y, hY⟩ : ∃ Y, Y = ur P := ⟨_, rfl⟩
 have hYl : Y.length ≠ 0 := by rw [hY, qaf]; exact fun h => hP (List.length_eq_zero_iff.1 h)
 rw [<- hY]
 refine callZ ccOk mixed [.val] Tryz.func12 rfl rfl (by kernel_rfl) fun zA zB zC zD zE zF zG zH zI zJ zK zL zM zN zO zP zQ zR zS zT zU zV zX zY zZ za zb zc zd ze zg zh zi zj zk zl zm zn zo zq zr zt zu zw zx zy zz zW zth A L F hS hF => ?_
 have e1 : zM (zY (zh Y)) 0 = false := by rw [hS.eq, hS.ofN, hS.len]; exact decide_eq_false (by omega)
 have e2 : zM (zY (zh [])) 0 = true := by rw [hS.eq, hS.ofN, hS.len]; rfl
 cbv
 refine bF e1 (bT e2 ?_)
 exact hF _ (ResLe.refl _)
end Go.Proofs.YtbeakmahabhacaaGreat
end
section
namespace Go.Abs
theorem tlen_beyond (P : List Rat) : ∀ k, P.length <= k -> tlen P k = tlen P P.length
 | 0, h => by rw [show P.length = 0 by omega]
 | k + 1, h => by
  by_cases hk : P.length = k + 1
  ·rw [hk]
  ·unfold tlen
   rw [if_pos (by rw [List.getD_eq_getElem?_getD, List.getElem?_eq_none (by omega)]; rfl), tlen_beyond P k (by omega)]
   cases hP : P.length <;> rfl
theorem tlen_congr {P Q : List Rat} (h : ∀ j, P.getD j 0 = Q.getD j 0) : ∀ k, tlen P k = tlen Q k
 | 0 => rfl
 | k + 1 => by unfold tlen; rw [h k, tlen_congr h k]
theorem ptrim_ext {P Q : List Rat} (h : ∀ j, P.getD j 0 = Q.getD j 0) : ptrim P = ptrim Q := by
 have e : tlen P P.length = tlen Q Q.length := by
  rw [<- tlen_beyond P (max P.length Q.length) (by omega), <- tlen_beyond Q (max P.length Q.length) (by omega)]
  exact tlen_congr h _
 have h1 := tlen_le P P.length
 have h2 := tlen_le Q Q.length
 unfold ptrim
 refine List.ext_getElem? fun i => ?_
 rw [e, List.getElem?_take, List.getElem?_take]
 by_cases hi : i < tlen Q Q.length
 ·rw [if_pos hi, if_pos hi]
  have hj := h i
  rw [List.getD_eq_getElem?_getD, List.getD_eq_getElem?_getD, List.getElem?_eq_getElem (by omega : i < P.length), List.getElem?_eq_getElem (by omega : i < Q.length)] at hj
  rw [List.getElem?_eq_getElem (by omega : i < P.length), List.getElem?_eq_getElem (by omega : i < Q.length)]
  exact congrArg some hj
 ·rw [if_neg hi, if_neg hi]
theorem tlen_zero (P : List Rat) : ∀ k j, tlen P k <= j -> j < k -> P.getD j 0 = 0
 | 0, j, _, h => by omega
 | k + 1, j, h, h2 => by
  unfold tlen at h
  by_cases h0 : P.getD k 0 = 0
  ·rw [if_pos h0] at h
   by_cases hj : j = k
   ·rw [hj]; exact h0
   ·exact tlen_zero P k j h (by omega)
  ·rw [if_neg h0] at h; omega
theorem ptrim_get (P : List Rat) (j : Nat) : (ptrim P).getD j 0 = P.getD j 0 := by
 unfold ptrim
 rw [List.getD_eq_getElem?_getD, List.getElem?_take]
 by_cases h : j < tlen P P.length
 ·rw [if_pos h, List.getD_eq_getElem?_getD]
 ·rw [if_neg h, Option.getD_none]
  by_cases h2 : j < P.length
  ·exact (tlen_zero P _ j (by omega) h2).symm
  ·rw [List.getD_eq_getElem?_getD, List.getElem?_eq_none (by omega)]; rfl
theorem ptrim_idem (P : List Rat) : ptrim (ptrim P) = ptrim P := ptrim_ext (ptrim_get P)
theorem ptrim_len (P : List Rat) : (ptrim P).length <= P.length := by
 unfold ptrim
 rw [List.length_take]; omega
theorem ptrim_mem {P : List Rat} {q : Rat} (h : q ∈ ptrim P) : q ∈ P := List.mem_of_mem_take h
end Go.Abs
end
section
namespace Go.Proofs.YtbeakmahabhacaaGreat
open Go Go.Abs Go.Abs.M Go.Proofs
def rusSt (X Y : Abs.Rows) (i : Int) : St := mkSt 27 [.c (.t (.lst false X)), .c (.t (.lst false Y)), .junk, .junk, .junk, vi .i64 i] [none, none]
theorem rusame_call (P B : List Rat) (b : Bool) (hb : b = true ↔ P = B) (hl : P.length <= 1000) (hB : B.length <= 1000) (h1 : ∀ q ∈ P, Qs q 68719476736) :
  ACall Tryz.prog 13 [.val (tl (ur P)), .val (tl (ur B))] ⟨[.val (tb b)], [none, none]⟩ := by
 obtain ⟨X, hX⟩ : ∃ Y, Y = ur P := ⟨_, rfl⟩
 obtain ⟨Y, hY⟩ : ∃ Y, Y = ur B := ⟨_, rfl⟩
 obtain ⟨m, hm⟩ : ∃ m, m = P.length := ⟨_, rfl⟩
 obtain ⟨l, hl2⟩ : ∃ m, m = B.length := ⟨_, rfl⟩
 have hXl : X.length = m := by rw [hX, qaf, hm]
 have hYl : Y.length = l := by rw [hY, qaf, hl2]
 rw [<- hX, <- hY]
 by_cases hml : m = l
 ·subst hml
  refine callZ ccOk mixed [.val] Tryz.func13 rfl rfl (by kernel_rfl) fun zA zB zC zD zE zF zG zH zI zJ zK zL zM zN zO zP zQ zR zS zT zU zV zX zY zZ za zb zc zd ze zg zh zi zj zk zl zm zn zo zq zr zt zu zw zx zy zz zW zth A L F hS hF => ?_
  have e1 : zN (zY (zh X)) (zY (zh Y)) = false := by rw [hS.ne, hS.ofN, hS.ofN, hS.len, hS.len, hXl, hYl]; exact decide_eq_false (by simp)
  cbv
  refine bF e1 ?_
  refine loopZ ccOk mixed hS (fun (j : Nat) s' => ∃ (i : Nat) (I : Int), I = i /\ i + j = m /\ P.take i = B.take i /\ s' = rusSt X Y I) (n := m) (s0 := rusSt X Y 0) (qat ?_ ?_) rfl (by show 2 <= 2; omega) ?_ ?_
  ·simp [leT, rusSt, mkSt, vi]
  ·simp [leH, rusSt, mkSt]
  ·exact ⟨0, 0, rfl, by omega, rfl, rfl⟩
  ·rintro j s1 ⟨i, I, hI, hij, hT, hs1⟩
   by_cases hi : i < m
   ·have l1 : zO I (zY (zh X)) = true := by rw [hS.lt, hS.ofN, hS.len, hXl]; exact decide_eq_true (by omega)
    have hPi : P[i]? = some P[i] := List.getElem?_eq_getElem (by omega)
    have hBi : B[i]? = some B[i] := List.getElem?_eq_getElem (by omega)
    obtain ⟨x, hx⟩ : ∃ x, x = P[i] := ⟨_, rfl⟩
    obtain ⟨y, hy⟩ : ∃ x, x = B[i] := ⟨_, rfl⟩
    rw [<- hx] at hPi
    rw [<- hy] at hBi
    have hXi : X[i]? = some (qc x).row := by rw [hX]; exact qbx hPi
    have hYi : Y[i]? = some (qc y).row := by rw [hY]; exact qbx hBi
    obtain ⟨s2, t2, r2, p2, hrow2, hrx⟩ : ∃ s2 t2 r2 p2, (qc x).row = [.v (.bool s2), .lst false r2, .v (.bool t2), .lst false p2] /\ IsR x s2 r2 t2 p2 := ⟨_, _, _, _, rfl, qbp x⟩
    obtain ⟨s3, t3, r3, p3, hrow3, hry⟩ : ∃ s2 t2 r2 p2, (qc y).row = [.v (.bool s2), .lst false r2, .v (.bool t2), .lst false p2] /\ IsR y s2 r2 t2 p2 := ⟨_, _, _, _, rfl, qbp y⟩
    rw [hrow2] at hXi
    rw [hrow3] at hYi
    obtain ⟨c, hc⟩ := bool_ex (x = y)
    have cs := rqsame_call c hrx hry hc (h1 _ (List.mem_of_getElem? hPi))
    have j1 : zV I = i := by rw [hS.nat]; omega
    have n0 : zP 0 I = true := by rw [hS.le]; exact decide_eq_true (by omega)
    have j2 : zi X i = some [.v (.bool s2), .lst false r2, .v (.bool t2), .lst false p2] := by rw [hS.nth]; exact hXi
    have j3 : zi Y i = some [.v (.bool s3), .lst false r3, .v (.bool t3), .lst false p3] := by rw [hS.nth]; exact hYi
    obtain ⟨I', hI', i1⟩ : ∃ I' : Int, I' = ((i + 1 : Nat) : Int) /\ zA .i64 (zB I 1) = I' := ⟨I + 1, by omega, by rw [hS.add, hS.wrap, wrap_i64 (by omega) (by omega)]⟩
    have hjj : j - 1 < j := by omega
    have zn1 : zQ true = false := by rw [hS.not]; rfl
    have zn2 : zQ false = true := by rw [hS.not]; rfl
    by_cases hxy : x = y
    ·have hct : c = true := hc.2 hxy
     subst hct
     have hnx : ∃ (i2 : Nat) (I2 : Int), I2 = i2 /\ i2 + (j - 1) = m /\ P.take i2 = B.take i2 /\ rusSt X Y I' = rusSt X Y I2 := ⟨i + 1, I', hI', by omega, by rw [List.take_add_one, List.take_add_one, hT, hPi, hBi, hxy], rfl⟩
     subst hs1
     cbv
     refine bT l1 ?_
     rw [j1, j2]
     cbv
     refine nd (n0) ?_
     rw [j1, j3]
     cbv
     refine nd (n0) ?_
     refine ⟨_, hS.call (cs), ?_⟩
     cbv
     refine bF (zn1) ?_
     exact again (s' := rusSt X Y I') (m := j - 1) (by simp [leT, rusSt, mkSt, vi, i1]) (by simp [leH, rusSt, mkSt]) rfl (by show 2 <= 2; omega) hjj hnx
    ·have hcf : c = false := by cases c with | false => rfl | true => exact absurd (hc.1 rfl) hxy
     have hbf : b = false := by
      cases b with
      | false => rfl
      | true => exact absurd (by have := hb.1 rfl; rw [this, hBi] at hPi; exact (Option.some.inj hPi).symm) hxy
     subst hcf
     subst hbf
     subst hs1
     cbv
     refine bT l1 ?_
     rw [j1, j2]
     cbv
     refine nd (n0) ?_
     rw [j1, j3]
     cbv
     refine nd (n0) ?_
     refine ⟨_, hS.call (cs), ?_⟩
     cbv
     refine bT (zn2) ?_
     exact hF _ (ResLe.refl _)
   ·have l1 : zO I (zY (zh X)) = false := by rw [hS.lt, hS.ofN, hS.len, hXl]; exact decide_eq_false (by omega)
    have hbt : b = true := hb.2 (by rw [<- List.take_length (l := P), <- List.take_length (l := B), <- hm, <- hl2]; rw [show m = i by omega]; exact hT)
    subst hbt
    subst hs1
    cbv
    refine bF l1 ?_
    exact hF _ (ResLe.refl _)
 ·have hbf : b = false := by
   cases b with
   | false => rfl
   | true => exact absurd (by rw [hm, hl2, hb.1 rfl]) hml
  subst hbf
  refine callZ ccOk mixed [.val] Tryz.func13 rfl rfl (by kernel_rfl) fun zA zB zC zD zE zF zG zH zI zJ zK zL zM zN zO zP zQ zR zS zT zU zV zX zY zZ za zb zc zd ze zg zh zi zj zk zl zm zn zo zq zr zt zu zw zx zy zz zW zth A L F hS hF => ?_
  have e1 : zN (zY (zh X)) (zY (zh Y)) = true := by rw [hS.ne, hS.ofN, hS.ofN, hS.len, hS.len, hXl, hYl]; exact decide_eq_true (by omega)
  cbv
  refine bT e1 ?_
  exact hF _ (ResLe.refl _)
end Go.Proofs.YtbeakmahabhacaaGreat
end
section
namespace Go.Abs
def ev : List Rat -> Rat -> Rat
 | [], _ => 0
 | c :: P, x => c + x * ev P x
theorem ev_app (P Q : List Rat) (x : Rat) : ev (P ++ Q) x = ev P x + x ^ P.length * ev Q x := by
 induction P with
 | nil => simp [ev, Rat.zero_add, Rat.one_mul]
 | cons c P ih =>
  simp only [List.cons_append, ev, List.length_cons, Rat.pow_succ]
  rw [ih]
  grind
theorem ev_zeros (n : Nat) (x : Rat) : ev (List.replicate n 0) x = 0 := by
 induction n with
 | zero => rfl
 | succ n ih => simp only [List.replicate_succ, ev]; rw [ih]; grind
theorem ev_set (l : List Rat) (j : Nat) (d x : Rat) (h : j < l.length) : ev (l.set j d) x = ev l x + (d - l.getD j 0) * x ^ j := by
 induction l generalizing j with
 | nil => simp at h
 | cons c l ih =>
  cases j with
  | zero => simp only [List.set_cons_zero, ev, List.getD_cons_zero, Rat.pow_zero]; grind
  | succ j =>
   simp only [List.set_cons_succ, ev, List.getD_cons_succ, Rat.pow_succ]
   rw [ih j (by simpa using h)]; grind
theorem ev_ext {P Q : List Rat} (h : ∀ j, P.getD j 0 = Q.getD j 0) (x : Rat) : ev P x = ev Q x := by
 induction P generalizing Q with
 | nil =>
  induction Q with
  | nil => rfl
  | cons d Q ih =>
   have h0 := h 0
   simp at h0
   have := ih fun j => by have := h (j + 1); simpa using this
   simp only [ev] at this ⊢
   rw [<- this, <- h0]; grind
 | cons c P ih =>
  cases Q with
  | nil =>
   have h0 := h 0
   simp at h0
   have := ih (Q := []) fun j => by have := h (j + 1); simpa using this
   simp only [ev] at this ⊢
   rw [this, h0]; grind
  | cons d Q =>
   have h0 := h 0
   simp at h0
   have := ih (Q := Q) fun j => by have := h (j + 1); simpa using this
   simp only [ev]
   rw [this, h0]
theorem qbe (P : List Rat) (x : Rat) : ev (ptrim P) x = ev P x := ev_ext (ptrim_get P) x
theorem ev_take_succ (B : List Rat) (i : Nat) (x : Rat) (h : i < B.length) : ev (B.take (i + 1)) x = ev (B.take i) x + B.getD i 0 * x ^ i := by
 rw [List.take_add_one, ev_app, List.length_take, Nat.min_eq_left (by omega), List.getD_eq_getElem?_getD, List.getElem?_eq_getElem h]
 simp only [Option.toList_some, ev, Option.getD_some]
 grind
theorem rpow_add (x : Rat) (m : Nat) : ∀ n, x ^ (m + n) = x ^ m * x ^ n
 | 0 => by simp [Rat.mul_one]
 | n + 1 => by rw [<- Nat.add_assoc, Rat.pow_succ, Rat.pow_succ, rpow_add x m n, Rat.mul_assoc]
theorem ev_accL (R : List Rat) (c : Rat) (B : List Rat) (k : Nat) (x : Rat) (h : B.length + k <= R.length) : ∀ i, i <= B.length -> ev (accL R c B k i) x = ev R x + c * x ^ k * ev (B.take i) x
 | 0, _ => by simp [accL, ev, Rat.mul_zero, Rat.add_zero]
 | i + 1, hi => by
  unfold accL
  rw [ev_set _ _ _ _ (by rw [qbd]; omega), ev_accL R c B k x h i (by omega), ev_take_succ B i x (by omega), show i + k = k + i by omega, rpow_add]
  grind
theorem ev_pacc (R : List Rat) (c : Rat) (B : List Rat) (k : Nat) (x : Rat) (h : B.length + k <= R.length) : ev (pacc R c B k) x = ev R x + c * x ^ k * ev B x := by
 unfold pacc
 rw [ev_accL R c B k x h _ (Nat.le_refl _), List.take_length]
def syn : List Rat -> Rat -> List Rat
 | [], _ => []
 | [_], _ => []
 | _ :: d :: P, r => ev (d :: P) r :: syn (d :: P) r
theorem syn_len : ∀ (P : List Rat) (r : Rat), (syn P r).length = P.length - 1
 | [], _ => rfl
 | [_], _ => rfl
 | c :: d :: P, r => by simp only [syn, List.length_cons]; rw [syn_len (d :: P) r]; simp
theorem syn_ev : ∀ (P : List Rat) (r x : Rat), ev P x = ev P r + (x - r) * ev (syn P r) x
 | [], _, _ => by simp [ev, syn]; grind
 | [_], _, _ => by simp [ev, syn]; grind
 | c :: d :: P, r, x => by
  have ih := syn_ev (d :: P) r x
  have e1 : ev (c :: d :: P) x = c + x * ev (d :: P) x := rfl
  have e2 : ev (c :: d :: P) r = c + r * ev (d :: P) r := rfl
  have e3 : ev (syn (c :: d :: P) r) x = ev (d :: P) r + x * ev (syn (d :: P) r) x := rfl
  rw [e1, e2, e3, ih]
  grind
theorem syn_zero : ∀ (P : List Rat) (r : Rat), ev P r = 0 -> (∀ j, (syn P r).getD j 0 = 0) -> ∀ j, P.getD j 0 = 0
 | [], _, _, _, _ => by simp
 | [c], r, h, _, j => by
  simp [ev] at h
  cases j with
  | zero => simpa [Rat.mul_zero, Rat.add_zero] using h
  | succ j => simp
 | c :: d :: P, r, h, hs, j => by
  have h1 : ev (d :: P) r = 0 := by have := hs 0; simpa [syn] using this
  have ih := syn_zero (d :: P) r h1 fun j => by have := hs (j + 1); simpa [syn] using this
  have h2 : ev (c :: d :: P) r = c + r * ev (d :: P) r := rfl
  cases j with
  | zero => simp; grind
  | succ j => simpa using ih j
theorem ev_zero_aux : ∀ (n : Nat) (P : List Rat) (s : Rat), P.length <= n -> (∀ x, s <= x -> ev P x = 0) -> ∀ j, P.getD j 0 = 0
 | 0, P, s, hl, _, j => by rw [List.length_eq_zero_iff.1 (by omega : P.length = 0)]; rfl
 | n + 1, P, s, hl, h, j => by
  have hs := h s Rat.le_refl
  refine syn_zero P s hs (ev_zero_aux n (syn P s) (s + 1) (by rw [syn_len]; omega) fun x hx => ?_) j
  have h1 := h x (by grind)
  have h2 := syn_ev P s x
  rw [h1, hs] at h2
  have h3 : x - s ≠ 0 := by grind
  have h4 : (x - s) * ev (syn P s) x = 0 := by grind
  rcases Rat.mul_eq_zero.1 h4 with h5 | h5
  ·exact absurd h5 h3
  ·exact h5
theorem ev_zero {P : List Rat} (h : ∀ x, ev P x = 0) (j : Nat) : P.getD j 0 = 0 := ev_zero_aux P.length P 0 (Nat.le_refl _) (fun x _ => h x) j
end Go.Abs
end
section
namespace Go.Proofs.YtbeakmahabhacaaGreat
open Go Go.Abs Go.Abs.M Go.Proofs
structure PL (f : Rat -> Rat) (n k : Nat) (P : List Rat) : Prop where
 tr : ptrim P = P
 ev : ∀ x, ev P x = f x
 len : P.length <= n
 sz : ∀ q ∈ P, Qs q k
theorem ev_shift (P : List Rat) (c : Rat) (B : List Rat) (k : Nat) (x : Rat) : Abs.ev (pshift P c B k) x = Abs.ev P x + c * x ^ k * Abs.ev B x := by
 unfold pshift
 rw [ev_pacc _ _ _ _ _ (by simp; omega), ev_app, ev_zeros]
 grind
theorem ev_pmulL (P B R : List Rat) (x : Rat) (h : P.length + B.length <= R.length + 1) : ∀ i, i <= P.length -> Abs.ev (pmulL P B R i) x = Abs.ev R x + Abs.ev (P.take i) x * Abs.ev B x
 | 0, _ => by simp [pmulL, Abs.ev, Rat.zero_mul, Rat.add_zero]
 | i + 1, hi => by
  unfold pmulL
  rw [ev_pacc _ _ _ _ _ (by rw [qa7]; omega), ev_pmulL P B R x h i (by omega), ev_take_succ P i x (by omega)]
  grind
theorem ev_pmul (P B : List Rat) (x : Rat) : Abs.ev (pmul P B) x = Abs.ev P x * Abs.ev B x := by
 unfold pmul
 rw [ev_pmulL P B _ x (by simp; omega) _ (Nat.le_refl _), ev_zeros, List.take_length, Rat.zero_add]
theorem ev_inj {P Q : List Rat} (h : ∀ x, Abs.ev P x = Abs.ev Q x) (j : Nat) : P.getD j 0 = Q.getD j 0 := by
 have h0 := ev_zero (P := pshift P (-1) Q 0) (fun x => by rw [ev_shift, h x]; grind) j
 rw [pshift_get, if_pos (Nat.zero_le _), Nat.sub_zero] at h0
 grind
theorem PL.inj {f g : Rat -> Rat} {n k m l : Nat} {P Q : List Rat} (h1 : PL f n k P) (h2 : PL g m l Q) (h : ∀ x, f x = g x) : P = Q := by
 rw [<- h1.tr, <- h2.tr]
 exact ptrim_ext (ev_inj fun x => by rw [h1.ev, h2.ev, h])
theorem PL.mono {f : Rat -> Rat} {n k m l : Nat} {P : List Rat} (h : PL f n k P) (h1 : n <= m) (h2 : k <= l) : PL f m l P :=
 ⟨h.tr, h.ev, Nat.le_trans h.len h1, fun q hq => (h.sz q hq).mono h2⟩
theorem PL.congr {f g : Rat -> Rat} {n k : Nat} {P : List Rat} (h : PL f n k P) (e : ∀ x, f x = g x) : PL g n k P :=
 ⟨h.tr, fun x => by rw [h.ev, e], h.len, h.sz⟩
theorem PL.of_trim {f : Rat -> Rat} {n k : Nat} {P : List Rat} (h1 : ∀ x, Abs.ev P x = f x) (h2 : P.length <= n) (h3 : ∀ q ∈ P, Qs q k) : PL f n k (ptrim P) :=
 ⟨ptrim_idem P, fun x => by rw [qbe, h1], Nat.le_trans (ptrim_len P) h2, fun q hq => h3 q (ptrim_mem hq)⟩
theorem PL.nil : PL (fun _ => 0) 0 0 [] := ⟨rfl, fun _ => rfl, Nat.le_refl _, fun q hq => by cases hq⟩
theorem Qs.zero {k : Nat} : 1 <= k -> Qs 0 k := fun h => Qs.whole (n := 0) (by decide) h
theorem pshift_all {P B : List Rat} {c : Rat} {k a b d : Nat} (h1 : ∀ q ∈ P, Qs q a) (h2 : Qs c b) (h3 : ∀ q ∈ B, Qs q d) (ha : 1 <= a) : ∀ q ∈ pshift P c B k, Qs q (a + (b + d) + 1) := by
 unfold pshift
 refine accL_all (fun q hq => ?_) h2 h3 (by simp; omega)
 rcases List.mem_append.1 hq with h | h
 ·exact h1 q h
 ·rw [(List.mem_replicate.1 h).2]; exact Qs.zero ha
theorem pl_sub {f g : Rat -> Rat} {n m a b : Nat} {P B : List Rat} (hP : PL f n a P) (hB : PL g m b B) (ha : 1 <= a) (hn : n <= 1000) (hm : m <= 1000) (hs : a + b <= 68719476700) :
  ∃ R, PL (fun x => f x - g x) (max n m) (a + b + 2) R /\ ACall Tryz.prog 31 [.val (tl (ur P)), .val (tl (ur B))] ⟨[.val (tl (ur R))], [none, none]⟩ := by
 refine ⟨_, PL.of_trim (fun x => ?_) ?_ (fun q hq => ?_), usub_call P B a 1 b (Nat.le_trans hB.len hm) (Nat.le_trans hP.len hn) hP.sz hB.sz (by omega) ha (by omega)⟩
 ·rw [ev_shift, hP.ev, hB.ev]; grind
 ·rw [pshift_len]; have := hP.len; have := hB.len; omega
 ·exact (pshift_all hP.sz (Qs.whole (n := -1) (by decide) (Nat.le_refl 1)) hB.sz ha q hq).mono (by omega)
theorem pl_scale {g : Rat -> Rat} {m b d : Nat} {c : Rat} {B : List Rat} (hc : Qs c d) (hB : PL g m b B) (hm : m <= 1000) (hs : d + b <= 68719476700) :
  ∃ R, PL (fun x => c * g x) m (d + b + 2) R /\ ACall Tryz.prog 29 [.val (.agg (qc c).row), .val (tl (ur B))] ⟨[.val (tl (ur R))], [none, none]⟩ := by
 refine ⟨_, PL.of_trim (fun x => ?_) ?_ (fun q hq => ?_), uscale_call B c d b (Nat.le_trans hB.len hm) hc hB.sz (by omega)⟩
 ·rw [ev_shift, hB.ev]; simp only [Abs.ev]; grind
 ·rw [pshift_len]; have := hB.len; simp; omega
 ·exact (pshift_all (P := []) (a := 1) (fun q hq => by cases hq) hc hB.sz (Nat.le_refl 1) q hq).mono (by omega)
theorem umul_all (P B : List Rat) (b d : Nat) (hl : P.length + B.length <= 1000) (h2 : ∀ q ∈ P, Qs q b) (h3 : ∀ q ∈ B, Qs q d) (hbd : b + d <= 67108864) :
  ACall Tryz.prog 12 [.val (tl (ur P)), .val (tl (ur B))] ⟨[.val (tl (ur (ptrim (pmul P B))))], [none, none]⟩ := by
 have hw : ∀ {args : List Arg}, ACall Tryz.prog 12 args ⟨[.val (.c (.lst true []))], [none, none]⟩ -> ACall Tryz.prog 12 args ⟨[.val (tl [])], [none, none]⟩ :=
  fun h => ACall.weak (ArgsLe.refl _) (show ResLe ⟨[.val (.c (.lst true []))], [none, none]⟩ ⟨[.val (tl [])], [none, none]⟩ from ⟨⟨TLe.drop _ _, trivial⟩, rfl⟩) h
 have hz : (∀ x, Abs.ev P x * Abs.ev B x = 0) -> ptrim (pmul P B) = [] := fun h => ptrim_ext (P := pmul P B) (Q := []) (ev_inj fun x => by rw [ev_pmul, h]; rfl)
 by_cases hP : P = []
 ·subst hP
  rw [hz fun x => by simp [Abs.ev, Rat.zero_mul]]
  exact hw (umul_nil1 B (by simpa using hl))
 by_cases hB : B = []
 ·subst hB
  rw [hz fun x => by simp [Abs.ev, Rat.mul_zero]]
  exact hw (umul_nil2 P hP (by simpa using hl))
 exact umul_call P B b d hP hB hl h2 h3 hbd
theorem pmul_all {P B : List Rat} {b d : Nat} (h2 : ∀ q ∈ P, Qs q b) (h3 : ∀ q ∈ B, Qs q d) : ∀ q ∈ pmul P B, Qs q (1 + P.length * (b + d + 1)) := by
 unfold pmul
 refine pmulL_all (fun q hq => ?_) h2 h3 (by simp; omega) _ (Nat.le_refl _)
 rw [(List.mem_replicate.1 hq).2]; exact Qs.zero (Nat.le_refl 1)
theorem pl_mul {f g : Rat -> Rat} {n m a b : Nat} {P B : List Rat} (hP : PL f n a P) (hB : PL g m b B) (hn : n + m <= 1000) (hs : a + b <= 67108864) :
  ∃ R, PL (fun x => f x * g x) (n + m - 1) (1 + n * (a + b + 1)) R /\ ACall Tryz.prog 12 [.val (tl (ur P)), .val (tl (ur B))] ⟨[.val (tl (ur R))], [none, none]⟩ := by
 have h1 := hP.len
 have h2 := hB.len
 refine ⟨_, PL.of_trim (fun x => ?_) ?_ (fun q hq => ?_), umul_all P B a b (by omega) hP.sz hB.sz hs⟩
 ·rw [ev_pmul, hP.ev, hB.ev]
 ·unfold pmul
  rw [qa7, List.length_replicate]; omega
 ·exact (pmul_all hP.sz hB.sz q hq).mono (Nat.add_le_add_left (Nat.mul_le_mul_right _ h1) 1)
theorem pl_same {f g : Rat -> Rat} {n m a b : Nat} {P B : List Rat} (hP : PL f n a P) (hB : PL g m b B) (h : ∀ x, f x = g x) (hn : n <= 1000) (hm : m <= 1000) (hs : a <= 68719476736) :
  ACall Tryz.prog 13 [.val (tl (ur P)), .val (tl (ur B))] ⟨[.val (tb true)], [none, none]⟩ :=
 rusame_call P B true ⟨fun _ => hP.inj hB h, fun _ => rfl⟩ (Nat.le_trans hP.len hn) (Nat.le_trans hB.len hm) fun q hq => (hP.sz q hq).mono hs
theorem PL.uok {f : Rat -> Rat} {n a : Nat} {P : List Rat} (hP : PL f n a P) : UOk (P.map qc) := hP.tr ▸ ptrim_ok P
theorem PL.cells {f : Rat -> Rat} {n a : Nat} {P : List Rat} (hP : PL f n a P) (h : a <= 68719476736) : ∀ c ∈ P.map qc, c.ok 68719476736 := fun c hc => by
 obtain ⟨q, hq, rfl⟩ := List.mem_map.1 hc
 have := hP.sz q hq
 exact ⟨qas _, qas _, by show nl q.num.natAbs <= 68719476736; have := this.1; omega, by show nl (q.den : Int).natAbs <= 68719476736; rw [Int.natAbs_natCast]; have := this.2; omega⟩
theorem ruvalid_big (cs : List QC) (b : Bool) (hb : b = true ↔ UOk cs) (hw : ∀ c ∈ cs, c.ok 68719476736) (hl : cs.length <= 1000) : ACall Tryz.prog 33 [.val (tl (qrows cs))] ⟨[.val (tb b)], [none]⟩ := by
 refine ruvalid_gen cs b hb hl (fun c hc => ?_) (fun c hc hcan => ?_)
 ·obtain ⟨b1, hb1⟩ := bool_ex c.can
  have h := hw c hc
  exact ⟨b1, hb1, rqvalid_call b1 hb1 h.l h.m (by have := h.ll; omega) (by have := h.lm; omega)⟩
 ·obtain ⟨x, h1, h2⟩ := QC.sign hcan
  exact ⟨cmpI x 0, (cmp00 x).trans h2, rqsign_call _ h1 rfl⟩
theorem pl_valid {f : Rat -> Rat} {n a : Nat} {P : List Rat} (hP : PL f n a P) (hn : n <= 1000) (ha : a <= 68719476736) :
  ACall Tryz.prog 33 [.val (tl (ur P))] ⟨[.val (tb true)], [none]⟩ :=
 ruvalid_big (P.map qc) true ⟨fun _ => hP.uok, fun _ => rfl⟩ (hP.cells ha) (by rw [List.length_map]; exact Nat.le_trans hP.len hn)
theorem csum_top {P B : List Rat} (j : Nat) : ∀ i, i <= j + 1 -> j < i - 1 + B.length -> (∀ k, k + 1 < i -> B.getD (j - k) 0 = 0) -> csum P B j i = if i = 0 then 0 else P.getD (i - 1) 0 * B.getD (j - (i - 1)) 0
 | 0, _, _, _ => rfl
 | i + 1, h1, h2, h3 => by
  unfold csum
  rw [if_pos (by omega), if_neg (by omega), show i + 1 - 1 = i by omega]
  have hz : ∀ k, k <= i -> csum P B j k = 0 := fun k hk => by
   induction k with
   | zero => rfl
   | succ k ih =>
    unfold csum
    rw [ih (by omega), if_pos (by omega), h3 k (by omega)]; grind
  rw [hz i (Nat.le_refl _), Rat.zero_add]
theorem PL.last {f : Rat -> Rat} {n a : Nat} {P : List Rat} (hP : PL f n a P) (h : P ≠ []) : P.getD (P.length - 1) 0 ≠ 0 := by
 have h1 : tlen P P.length = P.length := by
  have := congrArg List.length hP.tr
  unfold ptrim at this
  rw [List.length_take] at this
  have := tlen_le P P.length
  omega
 have h2 : P.length ≠ 0 := fun h0 => h (List.length_eq_zero_iff.1 h0)
 have := tlen_last P P.length (by omega)
 rwa [h1] at this
theorem tlen_top {P : List Rat} (h : P ≠ []) (h0 : P.getD (P.length - 1) 0 ≠ 0) : ptrim P = P := by
 unfold ptrim
 obtain ⟨n, hn⟩ : ∃ n, P.length = n + 1 := ⟨P.length - 1, by have : P.length ≠ 0 := fun h1 => h (List.length_eq_zero_iff.1 h1); omega⟩
 rw [hn] at h0 ⊢
 unfold tlen
 rw [if_neg (by simpa using h0), <- hn, List.take_length]
theorem PL.mul_len {f g e : Rat -> Rat} {n m l a b c : Nat} {P B R : List Rat} (hP : PL f n a P) (hB : PL g m b B) (hR : PL e l c R) (he : ∀ x, e x = f x * g x) (h1 : P ≠ []) (h2 : B ≠ []) : R.length = P.length + B.length - 1 := by
 have l1 : P.length ≠ 0 := fun h => h1 (List.length_eq_zero_iff.1 h)
 have l2 : B.length ≠ 0 := fun h => h2 (List.length_eq_zero_iff.1 h)
 have hl : (pmul P B).length = P.length + B.length - 1 := by unfold pmul; rw [qa7, List.length_replicate]
 have hne : pmul P B ≠ [] := fun h => by rw [h] at hl; simp at hl; omega
 have htop : (pmul P B).getD ((pmul P B).length - 1) 0 = P.getD (P.length - 1) 0 * B.getD (B.length - 1) 0 := by
  rw [hl]
  unfold pmul
  rw [pmulL_get (by simp; omega) _ _ (Nat.le_refl _), csum_top _ _ (by omega) (by omega) (fun k hk => by rw [List.getD_eq_getElem?_getD, List.getElem?_eq_none (by omega)]; rfl), if_neg l1, show P.length + B.length - 1 - 1 - (P.length - 1) = B.length - 1 by omega]
  rw [List.getD_eq_getElem?_getD, List.getElem?_replicate]
  split <;> simp [Rat.zero_add]
 have hnz : (pmul P B).getD ((pmul P B).length - 1) 0 ≠ 0 := by
  rw [htop]
  intro h
  rcases Rat.mul_eq_zero.1 h with h | h
  ·exact hP.last h1 h
  ·exact hB.last h2 h
 have : R = pmul P B := by
  rw [<- hR.tr, <- tlen_top hne hnz]
  exact ptrim_ext (ev_inj fun x => by rw [hR.ev, he, ev_pmul, hP.ev, hB.ev])
 rw [this, hl]
open Go Go.Abs Go.Abs.M Go.Proofs
theorem qrow (x : Rat) : ∃ (s t : Bool) (r p : Abs.Rows), (qc x).row = [.v (.bool s), .lst false r, .v (.bool t), .lst false p] /\ IsR x s r t p := ⟨_, _, _, _, rfl, qbp x⟩
theorem pmul_row {x y : Rat} {a b : Nat} (h1 : Qs x a) (h2 : Qs y b) (h : a + b <= 68719476736) :
  Qs (x * y) (a + b) /\ ACall Tryz.prog 37 [.val (.agg (qc x).row), .val (.agg (qc y).row)] ⟨[.val (.agg (qc (x * y)).row)], [none, none]⟩ := by
 refine ⟨mul_small h1 h2, ?_⟩
 obtain ⟨u, w, v, p, hr, c⟩ := pmul_call (qbp x) (qbp y) (h1.mono (by omega)) (h2.mono (by omega))
 rw [qc_row hr] at c
 exact c
theorem pneg_row {x : Rat} {a : Nat} (h1 : Qs x a) (h : a <= 68719476736) :
  Qs (-x) a /\ ACall Tryz.prog 42 [.val (.agg (qc x).row)] ⟨[.val (.agg (qc (-x)).row)], [none]⟩ := by
 refine ⟨h1.neg, ?_⟩
 obtain ⟨u, w, hr, c⟩ := pneg_call (qbp x) (h1.mono (by omega))
 rw [qc_row hr] at c
 exact c
theorem inv_small {x : Rat} {a : Nat} (h0 : x ≠ 0) (h : Qs x a) : Qs x⁻¹ a := by
 obtain ⟨i1, i2⟩ := inv_nd h0
 obtain ⟨h1, h2⟩ := h
 refine ⟨?_, ?_⟩
 ·rw [i1]; split <;> simpa using h2
 ·have : (x⁻¹).den = x.num.natAbs := by split at i2 <;> omega
  rw [this]; exact h1
theorem pinv_row {x : Rat} {a : Nat} (h0 : x ≠ 0) (h1 : Qs x a) (h : a <= 68719476736) :
  Qs x⁻¹ a /\ ACall Tryz.prog 41 [.val (.agg (qc x).row)] ⟨[.val (.agg (qc x⁻¹).row), .val (ti .i64 0)], [none]⟩ := by
 refine ⟨inv_small h0 h1, ?_⟩
 obtain ⟨u, w, v, p, hr, c⟩ := pinv_call (qbp x) h0 (h1.mono (by omega))
 rw [qc_row hr] at c
 exact c
theorem pwhole_row (n : Int) (h1 : -9223372036854775808 <= n) (h2 : n < 9223372036854775808) :
  ACall Tryz.prog 38 [.val (ti .i64 n)] ⟨[.val (.agg (qc (n : Rat)).row)], [none]⟩ := by
 obtain ⟨s, r, v, p, hr, c⟩ := pWhole_call n h1 h2
 rw [qc_row hr] at c
 exact c
theorem rqwhole_row (n : Int) (h1 : -9223372036854775808 <= n) (h2 : n < 9223372036854775808) :
  ACall Tryz.prog 22 [.val (ti .i64 n)] ⟨[.val (.agg (qc (n : Rat)).row)], [none]⟩ := by
 obtain ⟨s, r, v, p, hr, c⟩ := rqWhole_call n h1 h2
 rw [qc_row hr] at c
 exact c
theorem rqmul_row {x y : Rat} {a b : Nat} (h1 : Qs x a) (h2 : Qs y b) (h : a + b <= 68719476736) :
  Qs (x * y) (a + b) /\ ACall Tryz.prog 45 [.val (.agg (qc x).row), .val (.agg (qc y).row)] ⟨[.val (.agg (qc (x * y)).row)], [none, none]⟩ := by
 refine ⟨mul_small h1 h2, ?_⟩
 obtain ⟨u, w, v, p, hr, c⟩ := qmul_call (qbp x) (qbp y) (h1.mono (by omega)) (h2.mono (by omega))
 rw [qc_row hr] at c
 exact c
theorem rqadd_row {x y : Rat} {a b : Nat} (h1 : Qs x a) (h2 : Qs y b) (h : a + b <= 68719476736) :
  Qs (x + y) (a + b + 1) /\ ACall Tryz.prog 54 [.val (.agg (qc x).row), .val (.agg (qc y).row)] ⟨[.val (.agg (qc (x + y)).row)], [none, none]⟩ := by
 refine ⟨add_small h1 h2, ?_⟩
 obtain ⟨u, w, v, p, hr, c⟩ := qadd_call (qbp x) (qbp y) (h1.mono (by omega)) (h2.mono (by omega))
 rw [qc_row hr] at c
 exact c
theorem rqsame_row {x y : Rat} {a : Nat} (h1 : Qs x a) (h : x = y) (ha : a <= 68719476736) :
  ACall Tryz.prog 20 [.val (.agg (qc x).row), .val (.agg (qc y).row)] ⟨[.val (tb true)], [none, none]⟩ :=
 rqsame_call true (qbp x) (qbp y) ⟨fun _ => h, fun _ => rfl⟩ (h1.mono (by omega))
end Go.Proofs.YtbeakmahabhacaaGreat
end
section
namespace Go.Abs
def evd : List Rat -> Rat -> Rat
 | [], _ => 0
 | _ :: P, x => ev P x + x * evd P x
theorem evd_ext {P Q : List Rat} (h : ∀ j, P.getD j 0 = Q.getD j 0) (x : Rat) : evd P x = evd Q x := by
 induction P generalizing Q with
 | nil =>
  induction Q with
  | nil => rfl
  | cons d Q ih =>
   have h2 : ∀ j, ([] : List Rat).getD j 0 = Q.getD j 0 := fun j => by have := h (j + 1); simpa using this
   have := ih h2
   have h3 := ev_ext h2 x
   simp only [evd, ev] at this h3 ⊢
   rw [<- this, <- h3]; grind
 | cons c P ih =>
  cases Q with
  | nil =>
   have h2 : ∀ j, P.getD j 0 = ([] : List Rat).getD j 0 := fun j => by have := h (j + 1); simpa using this
   have := ih h2
   have h3 := ev_ext h2 x
   simp only [evd, ev] at this h3 ⊢
   rw [this, h3]; grind
  | cons d Q =>
   have h2 : ∀ j, P.getD j 0 = Q.getD j 0 := fun j => by have := h (j + 1); simpa using this
   simp only [evd]
   rw [ih h2, ev_ext h2 x]
def ladd : List Rat -> List Rat -> List Rat
 | [], Q => Q
 | c :: P, [] => c :: P
 | c :: P, d :: Q => (c + d) :: ladd P Q
def lsc (c : Rat) (P : List Rat) : List Rat := P.map (c * ·)
def lmul : List Rat -> List Rat -> List Rat
 | [], _ => []
 | c :: P, B => ladd (lsc c B) (0 :: lmul P B)
theorem qbn : ∀ (P Q : List Rat) (x : Rat), ev (ladd P Q) x = ev P x + ev Q x
 | [], Q, x => by simp [ladd, ev, Rat.zero_add]
 | c :: P, [], x => by simp [ladd, ev, Rat.add_zero]
 | c :: P, d :: Q, x => by simp only [ladd, ev]; rw [qbn P Q x]; grind
theorem evd_ladd : ∀ (P Q : List Rat) (x : Rat), evd (ladd P Q) x = evd P x + evd Q x
 | [], Q, x => by simp [ladd, evd, Rat.zero_add]
 | c :: P, [], x => by simp [ladd, evd, Rat.add_zero]
 | c :: P, d :: Q, x => by simp only [ladd, evd]; rw [evd_ladd P Q x, qbn P Q x]; grind
theorem qa4 (c : Rat) : ∀ (P : List Rat) (x : Rat), ev (lsc c P) x = c * ev P x
 | [], x => by simp [lsc, ev, Rat.mul_zero]
 | d :: P, x => by have := qa4 c P x; simp only [lsc, List.map_cons, ev] at this ⊢; rw [this]; grind
theorem evd_lsc (c : Rat) : ∀ (P : List Rat) (x : Rat), evd (lsc c P) x = c * evd P x
 | [], x => by simp [lsc, evd, Rat.mul_zero]
 | d :: P, x => by have := evd_lsc c P x; have h2 := qa4 c P x; simp only [lsc, List.map_cons, evd] at this h2 ⊢; rw [this, h2]; grind
theorem qal : ∀ (P B : List Rat) (x : Rat), ev (lmul P B) x = ev P x * ev B x
 | [], B, x => by simp [lmul, ev, Rat.zero_mul]
 | c :: P, B, x => by
  simp only [lmul]
  rw [qbn, qa4]
  simp only [ev]
  rw [qal P B x]; grind
theorem evd_lmul : ∀ (P B : List Rat) (x : Rat), evd (lmul P B) x = evd P x * ev B x + ev P x * evd B x
 | [], B, x => by simp [lmul, ev, evd, Rat.zero_mul, Rat.add_zero]
 | c :: P, B, x => by
  simp only [lmul]
  rw [evd_ladd, evd_lsc]
  simp only [ev, evd]
  rw [evd_lmul P B x, qal P B x]; grind
theorem ev_coef {P Q : List Rat} (h : ∀ x, ev P x = ev Q x) (j : Nat) : P.getD j 0 = Q.getD j 0 := by
 have h0 := ev_zero (P := ladd P (lsc (-1) Q)) (fun x => by rw [qbn, qa4, h x]; grind) j
 have hl : ∀ (A B : List Rat) (j : Nat), (ladd A B).getD j 0 = A.getD j 0 + B.getD j 0 := fun A => by
  induction A with
  | nil => intro B j; simp [ladd, Rat.zero_add]
  | cons a A ih =>
   intro B j
   cases B with
   | nil => simp [ladd, Rat.add_zero]
   | cons b B =>
    cases j with
    | zero => simp [ladd]
    | succ j => simpa [ladd] using ih B j
 have hs : (lsc (-1) Q).getD j 0 = -1 * Q.getD j 0 := by
  rw [List.getD_eq_getElem?_getD, List.getD_eq_getElem?_getD, lsc, List.getElem?_map]
  cases Q[j]? with
  | none => simp [Rat.mul_zero]
  | some q => simp
 rw [hl, hs] at h0
 grind
theorem evd_congr {P Q : List Rat} (h : ∀ x, ev P x = ev Q x) (x : Rat) : evd P x = evd Q x := evd_ext (ev_coef h) x
def pder (P : List Rat) : List Rat := (List.range (P.length - 1)).map fun (i : Nat) => (((i + 1 : Nat) : Int) : Rat) * P.getD (i + 1) 0
theorem pder_len (P : List Rat) : (pder P).length = P.length - 1 := by simp [pder]
theorem pder_get (P : List Rat) (i : Nat) : (pder P).getD i 0 = (((i + 1 : Nat) : Int) : Rat) * P.getD (i + 1) 0 := by
 rw [List.getD_eq_getElem?_getD, pder, List.getElem?_map]
 by_cases h : i < P.length - 1
 ·rw [List.getElem?_range h]; rfl
 ·rw [List.getElem?_eq_none (by simp; omega), List.getD_eq_getElem?_getD, List.getElem?_eq_none (by omega : P.length <= i + 1)]
  simp [Rat.mul_zero]
theorem ev_pder_aux : ∀ (P Q : List Rat) (k : Nat), (∀ j, Q.getD j 0 = (((j + k : Nat) : Int) : Rat) * P.getD j 0) -> ∀ x, ev Q x = (((k : Nat) : Int) : Rat) * ev P x + x * evd P x
 | [], Q, k, h, x => by
  have := ev_ext (P := Q) (Q := []) (fun j => by rw [h]; simp [Rat.mul_zero]) x
  rw [this]; simp only [ev, evd]; grind
 | c :: P, [], k, h, x => by
  have h1 := ev_pder_aux P [] (k + 1) (fun j => by have := h (j + 1); simp at this ⊢; rw [this]; grind) x
  have h0 := h 0
  simp only [List.getD_nil, List.getD_cons_zero, Nat.zero_add] at h0
  have e : (((k + 1 : Nat) : Int) : Rat) = (((k : Nat) : Int) : Rat) + 1 := by push_cast; rfl
  rw [e] at h1
  simp only [ev, evd] at h1 ⊢
  generalize (((k : Nat) : Int) : Rat) = K at *
  grind
 | c :: P, d :: Q, k, h, x => by
  have h1 := ev_pder_aux P Q (k + 1) (fun j => by have := h (j + 1); simp only [List.getD_cons_succ] at this; rw [this, show j + (k + 1) = j + 1 + k by omega]) x
  have h0 := h 0
  simp only [List.getD_cons_zero, Nat.zero_add] at h0
  have e : (((k + 1 : Nat) : Int) : Rat) = (((k : Nat) : Int) : Rat) + 1 := by push_cast; rfl
  rw [e] at h1
  simp only [ev, evd] at h1 ⊢
  generalize (((k : Nat) : Int) : Rat) = K at *
  rw [h1, h0]
  grind
theorem ev_pder (P : List Rat) (x : Rat) : ev (pder P) x = evd P x := by
 cases P with
 | nil => rfl
 | cons c P =>
  have := ev_pder_aux P (pder (c :: P)) 1 (fun j => by rw [pder_get, List.getD_cons_succ]) x
  rw [this]
  simp only [evd]
  have : (((1 : Nat) : Int) : Rat) = 1 := rfl
  rw [this, Rat.one_mul]
end Go.Abs
end
section
namespace Go.Proofs.YtbeakmahabhacaaGreat
open Go Go.Abs Go.Abs.M Go.Proofs
theorem umonic_nil : ACall Tryz.prog 14 [.val (tl [])] ⟨[.val (tl [])], [none]⟩ := by
 refine callZ ccOk mixed [.val] Tryz.func14 rfl rfl (by kernel_rfl) fun zA zB zC zD zE zF zG zH zI zJ zK zL zM zN zO zP zQ zR zS zT zU zV zX zY zZ za zb zc zd ze zg zh zi zj zk zl zm zn zo zq zr zt zu zw zx zy zz zW zth A L F hS hF => ?_
 have e1 : zM (zY (zh [])) 0 = true := by rw [hS.eq, hS.ofN, hS.len]; rfl
 cbv
 refine bT e1 ?_
 exact fin1w hF (TLe.drop _ _)
theorem pl_monic {f : Rat -> Rat} {n k : Nat} {P : List Rat} (hP : PL f n k P) (h0 : P ≠ []) (hn : n <= 1000) (hs : k + k <= 68719476700) :
  ∃ R, PL (fun x => (P.getD (P.length - 1) 0)⁻¹ * f x) n (k + k + 2) R /\ ACall Tryz.prog 14 [.val (tl (ur P))] ⟨[.val (tl (ur R))], [none]⟩ := by
 have hl := hP.len
 have hm0 : P.length ≠ 0 := fun h => h0 (List.length_eq_zero_iff.1 h)
 obtain ⟨L, hL⟩ : ∃ L, L = P.getD (P.length - 1) 0 := ⟨_, rfl⟩
 have hL0 := hP.last h0
 have hPi : P[P.length - 1]? = some L := by rw [hL, List.getD_eq_getElem?_getD, List.getElem?_eq_getElem (by omega)]; rfl
 rw [<- hL] at hL0
 obtain ⟨hq, ci⟩ := pinv_row hL0 (hP.sz L (List.mem_of_getElem? hPi)) (by omega)
 obtain ⟨R, hR, cs⟩ := pl_scale hq hP hn (by omega)
 rw [<- hL]
 refine ⟨R, hR, ?_⟩
 obtain ⟨s, t, r, p, hrow, _⟩ := qrow L
 obtain ⟨s2, t2, r2, p2, hrow2, _⟩ := qrow L⁻¹
 rw [hrow, hrow2] at ci
 rw [hrow2] at cs
 have hX := qbx hPi
 have lX := qaf P
 rw [hrow] at hX
 generalize P.length = m at *
 generalize ur P = X at *
 generalize ur R = Y at *
 refine callZ ccOk mixed [.val] Tryz.func14 rfl rfl (by kernel_rfl) fun zA zB zC zD zE zF zG zH zI zJ zK zL zM zN zO zP zQ zR zS zT zU zV zX zY zZ za zb zc zd ze zg zh zi zj zk zl zm zn zo zq zr zt zu zw zx zy zz zW zth A L F hS hF => ?_
 have e1 : zM (zY (zh X)) 0 = false := by rw [hS.eq, hS.ofN, hS.len, lX]; exact decide_eq_false (by omega)
 obtain ⟨J, hJ, j1⟩ : ∃ J : Int, J = ((m - 1 : Nat) : Int) /\ zA .i64 (zC (zY (zh X)) 1) = J := ⟨(m : Int) - 1, by omega, by rw [hS.ofN, hS.len, lX, hS.sub, hS.wrap, wrap_i64 (by omega) (by omega)]⟩
 have g1 : zP 0 J = true := by rw [hS.le]; exact decide_eq_true (by omega)
 have hz : zi X (zV J) = some [.v (.bool s), .lst false r, .v (.bool t), .lst false p] := by rw [hS.nat, hJ, Int.toNat_natCast, hS.nth, hX]
 cbv
 refine bF e1 ?_
 rw [j1, hz]
 cbv
 refine nd (g1) ?_
 refine ⟨_, hS.call (ci), ?_⟩
 cbv
 refine ⟨_, hS.call (cs), ?_⟩
 cbv
 exact hF _ (ResLe.refl _)
theorem uderive_nil : ACall Tryz.prog 11 [.val (tl [])] ⟨[.val (tl [])], [none]⟩ := by
 refine callZ ccOk mixed [.val] Tryz.func11 rfl rfl (by kernel_rfl) fun zA zB zC zD zE zF zG zH zI zJ zK zL zM zN zO zP zQ zR zS zT zU zV zX zY zZ za zb zc zd ze zg zh zi zj zk zl zm zn zo zq zr zt zu zw zx zy zz zW zth A L F hS hF => ?_
 have e1 : zM (zY (zh [])) 0 = true := by rw [hS.eq, hS.ofN, hS.len]; rfl
 cbv
 refine bT e1 ?_
 exact fin1w hF (TLe.drop _ _)
def udeSt (X : Abs.Rows) (n : Nat) (Z : Abs.Rows) (N i : Int) : St := mkSt 32 [.c (.t (.lst false X)), .junk, .junk, .c (.sl 1 0 n false), .junk, .junk, .junk, .junk, .junk, .junk, .junk, .junk, .junk, vi .i64 N, vi .i64 i] [none, some (.rows 4 Z true false)]
theorem fill_set (L : List Rat) (i : Nat) (h : i < L.length) : (L.take i ++ List.replicate (L.length - i) 0).set i (L.getD i 0) = L.take (i + 1) ++ List.replicate (L.length - (i + 1)) 0 := by
 have hl : (L.take i).length = i := by rw [List.length_take]; omega
 obtain ⟨m, hm⟩ : ∃ m, L.length - i = m + 1 := ⟨L.length - i - 1, by omega⟩
 rw [List.set_append_right _ _ (by omega), hl, Nat.sub_self, hm, show L.length - (i + 1) = m by omega, List.replicate_succ, List.set_cons_zero, List.take_add_one, List.getD_eq_getElem?_getD, List.getElem?_eq_getElem h, Option.getD_some, Option.toList_some, List.append_assoc]
 rfl
theorem fill_get (L : List Rat) (i : Nat) (h : i < L.length) : (L.take i ++ List.replicate (L.length - i) 0)[i]? = some 0 := by
 have hl : (L.take i).length = i := by rw [List.length_take]; omega
 rw [List.getElem?_append_right (by omega), hl, Nat.sub_self, List.getElem?_replicate, if_pos (by omega)]
theorem uderive_call (P : List Rat) (a : Nat) (h0 : P ≠ []) (hl : P.length <= 1000) (h1 : ∀ q ∈ P, Qs q a) (ha : a <= 67108864) :
  ACall Tryz.prog 11 [.val (tl (ur P))] ⟨[.val (tl (ur (ptrim (pder P))))], [none]⟩ := by
 obtain ⟨n, hn⟩ : ∃ n, n = P.length := ⟨_, rfl⟩
 have hn0 : n ≠ 0 := fun h => h0 (List.length_eq_zero_iff.1 (by omega))
 obtain ⟨m, hm⟩ : ∃ m, m = n - 1 := ⟨_, rfl⟩
 have cz := uzeros_call m (by omega)
 obtain ⟨X, hX⟩ : ∃ Y, Y = ur P := ⟨_, rfl⟩
 obtain ⟨Z, hZ⟩ : ∃ Y, Y = ur (List.replicate m 0) := ⟨_, rfl⟩
 obtain ⟨T, hT⟩ : ∃ Y, Y = ur (ptrim (pder P)) := ⟨_, rfl⟩
 obtain ⟨N, hN⟩ : ∃ N : Int, N = (m : Int) := ⟨_, rfl⟩
 have hXl : X.length = n := by rw [hX, qaf, hn]
 have hZl : Z.length = m := by rw [hZ, qaf, List.length_replicate]
 rw [<- hN, <- hZ] at cz
 rw [<- hX, <- hT]
 refine callZ ccOk mixed [.val] Tryz.func11 rfl rfl (by kernel_rfl) fun zA zB zC zD zE zF zG zH zI zJ zK zL zM zN zO zP zQ zR zS zT zU zV zX zY zZ za zb zc zd ze zg zh zi zj zk zl zm zn zo zq zr zt zu zw zx zy zz zW zth A L F hS hF => ?_
 have lx : zh X = n := by rw [hS.len, hXl]
 have lz : zh Z = m := by rw [hS.len, hZl]
 have e1 : zM (zY (zh X)) 0 = false := by rw [hS.eq, hS.ofN, lx]; exact decide_eq_false (by omega)
 have m1 : zA .i64 (zC (zY (zh X)) 1) = N := by rw [lx, hS.sub, hS.ofN, hS.wrap, wrap_i64 (by omega) (by omega)]; omega
 cbv
 refine bF e1 ?_
 rw [m1]
 refine ⟨_, hS.call (cz), ?_⟩
 cbv
 have hN : N = (m : Int) := hN
 have hpl : (pder P).length = m := by rw [pder_len, hm, hn]
 have cws : ∀ j : Nat, j < n -> ACall Tryz.prog 38 [.val (ti .i64 ((j : Nat) : Int))] ⟨[.val (.agg (qc (((j : Nat) : Int) : Rat)).row)], [none]⟩ := fun j hj => pwhole_row _ (by omega) (by omega)
 refine loopZ ccOk mixed hS (fun (j : Nat) s' => ∃ (i : Nat) (I : Int) (Y : Abs.Rows), I = i /\ i + j = m /\ Y = ur ((pder P).take i ++ List.replicate ((pder P).length - i) 0) /\ s' = udeSt X m Y N I) (n := m) (s0 := udeSt X m Z N 0) (qat ?_ ?_) rfl (by show 1 <= 2; omega) ?_ ?_
 ·simp [leT, udeSt, mkSt, vi, lz, hN, hS.ofN]
 ·simp [leH, udeSt, mkSt]
 ·exact ⟨0, 0, Z, rfl, by omega, by rw [hZ, hpl]; rfl, rfl⟩
 ·rintro j s1 ⟨i, I, Y, hI, hij, hY, hs1⟩
  have hYl : Y.length = m := by rw [hY, qaf]; simp; omega
  by_cases hi : i < m
  ·have l1 : zO I N = true := by rw [hS.lt]; exact decide_eq_true (by omega)
   obtain ⟨c, hc⟩ : ∃ c, c = P.getD (i + 1) 0 := ⟨_, rfl⟩
   have hPi : P[i + 1]? = some c := by rw [hc, List.getD_eq_getElem?_getD, List.getElem?_eq_getElem (by omega)]; rfl
   have hXi : X[i + 1]? = some (qc c).row := by rw [hX]; exact qbx hPi
   have cw := cws (i + 1) (by omega)
   obtain ⟨w, hw⟩ : ∃ w : Rat, w = (((i + 1 : Nat) : Int) : Rat) := ⟨_, rfl⟩
   have hpi : (pder P).getD i 0 = w * c := by rw [pder_get, hc, hw]
   obtain ⟨hq, cm⟩ := pmul_row (x := w) (y := c) (a := 1) (b := a) (by rw [hw]; exact Qs.whole (by omega) (Nat.le_refl 1)) (h1 c (List.mem_of_getElem? hPi)) (by omega)
   rw [<- hw] at cw
   obtain ⟨s, t, r, p, hrow, _⟩ := qrow w
   obtain ⟨s2, t2, r2, p2, hrow2, _⟩ := qrow c
   obtain ⟨s3, t3, r3, p3, hrow3, _⟩ := qrow (w * c)
   obtain ⟨s4, t4, r4, p4, hrow4, _⟩ := qrow 0
   rw [hrow] at cw
   rw [hrow, hrow2, hrow3] at cm
   rw [hrow2] at hXi
   obtain ⟨Y', hY'⟩ : ∃ Y', Y' = ur ((pder P).take (i + 1) ++ List.replicate ((pder P).length - (i + 1)) 0) := ⟨_, rfl⟩
   have hset : Y.set i [.v (.bool s3), .lst false r3, .v (.bool t3), .lst false p3] = Y' := by
    rw [<- hrow3, hY, ur_set, <- hpi, fill_set _ _ (by omega), hY']
   have hget : Y[i]? = some [.v (.bool s4), .lst false r4, .v (.bool t4), .lst false p4] := by
    rw [hY, <- hrow4]; exact qbx (fill_get _ _ (by omega))
   obtain ⟨I', hI', i1⟩ : ∃ I' : Int, I' = ((i + 1 : Nat) : Int) /\ zA .i64 (zB I 1) = I' := ⟨I + 1, by omega, by rw [hS.add, hS.wrap, wrap_i64 (by omega) (by omega)]⟩
   rw [<- hI'] at cw
   have n1 : zP 0 I' = true := by rw [hS.le]; exact decide_eq_true (by omega)
   have j2 : zi X (zV I') = some [.v (.bool s2), .lst false r2, .v (.bool t2), .lst false p2] := by rw [hS.nat, hI', Int.toNat_natCast, hS.nth]; exact hXi
   have g1 : zX I m = true := by rw [hS.inb]; exact decide_eq_true (by omega)
   have g2 : zZ 0 I = i := by rw [hS.idx]; omega
   have g3 : zi Y i = some [.v (.bool s4), .lst false r4, .v (.bool t4), .lst false p4] := by rw [hS.nth]; exact hget
   have g4 : zj Y i [.v (.bool s3), .lst false r3, .v (.bool t3), .lst false p3] = Y' := by rw [hS.setr]; exact hset
   have w2 : zA .i64 I' = I' := by rw [hS.wrap, wrap_i64 (by omega) (by omega)]
   have hjj : j - 1 < j := by omega
   have hnx : ∃ (i2 : Nat) (I2 : Int) (Y2 : Abs.Rows), I2 = i2 /\ i2 + (j - 1) = m /\ Y2 = ur ((pder P).take i2 ++ List.replicate ((pder P).length - i2) 0) /\ udeSt X m Y' N I' = udeSt X m Y2 N I2 := ⟨i + 1, I', Y', hI', by omega, hY', rfl⟩
   subst hs1
   cbv
   refine bT l1 ?_
   rw [i1]
   refine ⟨_, hS.call (cw), ?_⟩
   cbv
   rw [i1, j2]
   cbv
   refine nd (n1) ?_
   refine ⟨_, hS.call (cm), ?_⟩
   cbv
   refine nd (g1) ?_
   rw [g2, g3]
   cbv
   exact again (s' := udeSt X m Y' N I') (m := j - 1) (by simp [leT, udeSt, mkSt, vi, i1]) (by simp [leH, udeSt, mkSt, g4]) rfl (by show 1 <= 2; omega) hjj hnx
  ·have l1 : zO I N = false := by rw [hS.lt]; exact decide_eq_false (by omega)
   have hin : i = m := by omega
   have ct := utrim2_call (pder P) (by omega)
   have hYP : Y = ur (pder P) := by rw [hY, hin, <- hpl, List.take_length, Nat.sub_self]; simp
   rw [<- hYP, <- hT] at ct
   have f4 : zn 0 m Y = true := by rw [hS.fit, hYl]; exact decide_eq_true (by omega)
   have f5 : zo Y 0 m = Y := by rw [hS.part, <- hYl, List.drop_zero, List.take_length]
   subst hs1
   cbv
   refine bF l1 (nd f4 ?_)
   rw [f5]
   refine ⟨_, hS.call (ct), ?_⟩
   cbv
   exact hF _ (ResLe.refl _)
theorem pl_derive {f : Rat -> Rat} {n k : Nat} {P : List Rat} (hP : PL f n k P) (hn : n <= 1000) (hk : k <= 67108864) :
  ∃ R, PL (evd P) (n - 1) (k + 1) R /\ ACall Tryz.prog 11 [.val (tl (ur P))] ⟨[.val (tl (ur R))], [none]⟩ := by
 have hl := hP.len
 refine ⟨ptrim (pder P), PL.of_trim (ev_pder P) (by rw [pder_len]; omega) (fun q hq => ?_), ?_⟩
 ·obtain ⟨i, hi⟩ := List.getElem?_of_mem hq
  have hlt := (List.getElem?_eq_some_iff.1 hi).1
  rw [pder_len] at hlt
  have e : (pder P).getD i 0 = q := by rw [List.getD_eq_getElem?_getD, hi]; rfl
  rw [pder_get, List.getD_eq_getElem?_getD, List.getElem?_eq_getElem (by omega : i + 1 < P.length)] at e
  rw [<- e]
  exact (mul_small (Qs.whole (k := 1) (by omega) (Nat.le_refl 1)) (hP.sz _ (List.getElem_mem _))).mono (by omega)
 ·by_cases h0 : P = []
  ·subst h0; exact uderive_nil
  ·exact uderive_call P k h0 (by omega) hP.sz hk
end Go.Proofs.YtbeakmahabhacaaGreat
end
section
namespace Go.Abs
theorem nd_of {q : Rat} {n d : Int} (hd : 0 < d) (h : q * (d : Rat) = (n : Rat)) : q.num.natAbs <= n.natAbs /\ (q.den : Int) <= d := by
 have hd0 : (d : Rat) ≠ 0 := fun h0 => by rw [Rat.intCast_eq_zero_iff] at h0; omega
 have hq : Rat.divInt n d = q := by
  rw [Rat.divInt_eq_div, <- h, Rat.div_def, Rat.mul_assoc, Rat.mul_inv_cancel _ hd0, Rat.mul_one]
 obtain ⟨num, den, nz, red⟩ := q
 obtain ⟨m, hm0, h1, h2⟩ := Rat.divInt_num_den (by omega) hq
 have hm : 0 < m := by
  rcases Int.lt_trichotomy m 0 with h3 | h3 | h3
  ·have : (den : Int) * m <= 0 := Int.mul_nonpos_of_nonneg_of_nonpos (by omega) (by omega)
   omega
  ·exact absurd h3 hm0
  ·exact h3
 refine ⟨?_, ?_⟩
 ·show num.natAbs <= n.natAbs
  rw [h1, Int.natAbs_mul]
  exact Nat.le_mul_of_pos_right _ (by omega)
 ·show (den : Int) <= d
  rw [h2]
  have : (den : Int) * 1 <= den * m := Int.mul_le_mul_of_nonneg_left (by omega) (by omega)
  omega
structure CD (M d : Int) (f : Nat -> Rat) : Prop where
 pos : 0 < d
 num : ∀ j, ∃ n : Int, -M <= n /\ n <= M /\ f j * (d : Rat) = (n : Rat)
def CF (s : Nat) (f : Nat -> Rat) : Prop := ∃ d : Int, d <= 2 ^ s /\ CD (2 ^ s) d f
theorem two_pow_mono {s t : Nat} (h : s <= t) : (2 : Int) ^ s <= 2 ^ t := by
 have := Nat.pow_le_pow_right (n := 2) (by omega) h
 exact_mod_cast this
theorem two_pow_pos (s : Nat) : (0 : Int) < 2 ^ s := by
 have := Nat.two_pow_pos s
 exact_mod_cast this
theorem CD.mono {M N d : Int} {f : Nat -> Rat} (h : CD M d f) (hM : M <= N) : CD N d f :=
 ⟨h.pos, fun j => by obtain ⟨n, h1, h2, h3⟩ := h.num j; exact ⟨n, by omega, by omega, h3⟩⟩
theorem CF.mono {s t : Nat} {f : Nat -> Rat} (h : CF s f) (hst : s <= t) : CF t f := by
 obtain ⟨d, h1, h2⟩ := h
 have := two_pow_mono hst
 exact ⟨d, by omega, h2.mono this⟩
theorem CF.congr {s : Nat} {f g : Nat -> Rat} (h : CF s f) (e : ∀ j, f j = g j) : CF s g := by
 have : f = g := funext e
 exact this ▸ h
theorem CF.comp {s : Nat} {f : Nat -> Rat} (h : CF s f) (k : Nat -> Nat) : CF s (fun j => f (k j)) := by
 obtain ⟨d, h1, h2⟩ := h
 exact ⟨d, h1, h2.pos, fun j => h2.num (k j)⟩
theorem CF.pick {s : Nat} {f : Nat -> Rat} (h : CF s f) (p : Nat -> Bool) : CF s (fun j => if p j = true then f j else 0) := by
 obtain ⟨d, h1, h2⟩ := h
 have := two_pow_pos s
 refine ⟨d, h1, h2.pos, fun j => ?_⟩
 by_cases hp : p j = true
 ·rw [if_pos hp]; exact h2.num j
 ·rw [if_neg hp]; exact ⟨0, by omega, by omega, by rw [Rat.zero_mul]; rfl⟩
theorem CF.zero (s : Nat) : CF s (fun _ => 0) := by
 have := two_pow_pos s
 exact ⟨1, by omega, by omega, fun j => ⟨0, by omega, by omega, by rw [Rat.zero_mul]; rfl⟩⟩
theorem qaq {a b M N : Int} (h1 : -M <= a) (h2 : a <= M) (h3 : -N <= b) (h4 : b <= N) : -(M * N) <= a * b /\ a * b <= M * N := by
 have e1 : 0 <= (M - a) * (N - b) := Int.mul_nonneg (by omega) (by omega)
 have e2 : 0 <= (M + a) * (N + b) := Int.mul_nonneg (by omega) (by omega)
 have e3 : 0 <= (M - a) * (N + b) := Int.mul_nonneg (by omega) (by omega)
 have e4 : 0 <= (M + a) * (N - b) := Int.mul_nonneg (by omega) (by omega)
 constructor <;> grind
theorem CF.add {s t : Nat} {f g : Nat -> Rat} (hf : CF s f) (hg : CF t g) : CF (s + t + 1) (fun j => f j + g j) := by
 obtain ⟨d, h1, h2⟩ := hf
 obtain ⟨e, h3, h4⟩ := hg
 have p1 := two_pow_pos s
 have p2 := two_pow_pos t
 have hd := h2.pos
 have he := h4.pos
 have e1 : (2 : Int) ^ (s + t + 1) = 2 * (2 ^ s * 2 ^ t) := by rw [Int.pow_succ, Int.pow_add]; omega
 rw [CF, e1]
 have b0 := qaq (a := d) (b := e) (M := 2 ^ s) (N := 2 ^ t) (by omega) (by omega) (by omega) (by omega)
 have bp : 0 < d * e := Int.mul_pos hd he
 refine ⟨d * e, by omega, bp, fun j => ?_⟩
 obtain ⟨n, n1, n2, n3⟩ := h2.num j
 obtain ⟨m, m1, m2, m3⟩ := h4.num j
 have b1 := qaq (a := n) (b := e) (M := 2 ^ s) (N := 2 ^ t) (by omega) (by omega) (by omega) (by omega)
 have b2 := qaq (a := d) (b := m) (M := 2 ^ s) (N := 2 ^ t) (by omega) (by omega) (by omega) (by omega)
 refine ⟨n * e + d * m, by omega, by omega, ?_⟩
 rw [Rat.intCast_add, Rat.intCast_mul, Rat.intCast_mul, Rat.intCast_mul, <- n3, <- m3]
 grind
theorem CF.scale {s t : Nat} {f : Nat -> Rat} {c : Rat} (hc : CF t (fun _ => c)) (hf : CF s f) : CF (s + t) (fun j => c * f j) := by
 obtain ⟨d, h1, h2⟩ := hf
 obtain ⟨e, h3, h4⟩ := hc
 have p1 := two_pow_pos s
 have p2 := two_pow_pos t
 have hd := h2.pos
 have he := h4.pos
 rw [CF, Int.pow_add]
 have b0 := qaq (a := d) (b := e) (M := 2 ^ s) (N := 2 ^ t) (by omega) (by omega) (by omega) (by omega)
 have bp : 0 < d * e := Int.mul_pos hd he
 obtain ⟨m, m1, m2, m3⟩ := h4.num 0
 refine ⟨d * e, by omega, bp, fun j => ?_⟩
 obtain ⟨n, n1, n2, n3⟩ := h2.num j
 have b1 := qaq (a := n) (b := m) (M := 2 ^ s) (N := 2 ^ t) (by omega) (by omega) (by omega) (by omega)
 refine ⟨n * m, b1.1, b1.2, ?_⟩
 rw [Rat.intCast_mul, Rat.intCast_mul, <- n3, <- m3]
 grind
theorem CF.neg {s : Nat} {f : Nat -> Rat} (hf : CF s f) : CF s (fun j => -f j) := by
 obtain ⟨d, h1, h2⟩ := hf
 refine ⟨d, h1, h2.pos, fun j => ?_⟩
 obtain ⟨n, n1, n2, n3⟩ := h2.num j
 refine ⟨-n, by omega, by omega, ?_⟩
 rw [Rat.intCast_neg, <- n3]; grind
theorem CF.whole {n : Int} {s : Nat} (h1 : -2 ^ s <= n) (h2 : n <= 2 ^ s) : CF s (fun _ => (n : Rat)) := by
 have := two_pow_pos s
 exact ⟨1, by omega, by omega, fun j => ⟨n, h1, h2, by show (n : Rat) * 1 = n; rw [Rat.mul_one]⟩⟩
theorem CF.wt {s t : Nat} {f : Nat -> Rat} (hf : CF s f) (c : Nat -> Int) (hc : ∀ j, f j = 0 ∨ (-2 ^ t <= c j /\ c j <= 2 ^ t)) : CF (s + t) (fun j => (c j : Rat) * f j) := by
 obtain ⟨d, h1, h2⟩ := hf
 have p1 := two_pow_pos s
 have p2 := two_pow_pos t
 have hd := h2.pos
 have b0 := qaq (a := d) (b := 1) (M := 2 ^ s) (N := 2 ^ t) (by omega) (by omega) (by omega) (by omega)
 rw [CF, Int.pow_add]
 refine ⟨d, by omega, hd, fun j => ?_⟩
 obtain ⟨n, n1, n2, n3⟩ := h2.num j
 rcases hc j with h | ⟨h3, h4⟩
 ·refine ⟨0, by omega, by omega, ?_⟩
  show (c j : Rat) * f j * _ = _
  rw [h, Rat.mul_zero, Rat.zero_mul]; rfl
 ·have b1 := qaq (a := n) (b := c j) (M := 2 ^ s) (N := 2 ^ t) (by omega) (by omega) h3 h4
  refine ⟨n * c j, b1.1, b1.2, ?_⟩
  rw [Rat.intCast_mul, <- n3]
  grind
theorem CF.div {s : Nat} {f : Nat -> Rat} (hf : CF s f) (k : Nat) (h0 : f k ≠ 0) : CF s (fun j => (f k)⁻¹ * f j) := by
 obtain ⟨d, h1, h2⟩ := hf
 obtain ⟨m, m1, m2, m3⟩ := h2.num k
 have hd := h2.pos
 have hd0 : (d : Rat) ≠ 0 := fun h => by rw [Rat.intCast_eq_zero_iff] at h; omega
 have hm0 : m ≠ 0 := fun h => by
  rw [h] at m3
  rcases Rat.mul_eq_zero.1 (show f k * (d : Rat) = 0 from m3) with h' | h'
  ·exact h0 h'
  ·exact hd0 h'
 have hk : ∀ j, ∃ n : Int, -2 ^ s <= n /\ n <= 2 ^ s /\ (f k)⁻¹ * f j * (m : Rat) = (n : Rat) := fun j => by
  obtain ⟨n, n1, n2, n3⟩ := h2.num j
  refine ⟨n, n1, n2, ?_⟩
  rw [<- m3, <- n3]
  have := Rat.inv_mul_cancel _ h0
  grind
 rcases Int.lt_or_le m 0 with hm | hm
 ·refine ⟨-m, by omega, by omega, fun j => ?_⟩
  obtain ⟨n, n1, n2, n3⟩ := hk j
  refine ⟨-n, by omega, by omega, ?_⟩
  rw [Rat.intCast_neg, Rat.intCast_neg, <- n3]; grind
 ·exact ⟨m, m2, by omega, hk⟩
theorem CF.inv {s : Nat} {c : Rat} (hc : CF s (fun _ => c)) (h0 : c ≠ 0) : CF s (fun _ => c⁻¹) := by
 obtain ⟨d, h1, h2⟩ := hc
 obtain ⟨m, m1, m2, m3⟩ := h2.num 0
 have hd := h2.pos
 have hd0 : (d : Rat) ≠ 0 := fun h => by rw [Rat.intCast_eq_zero_iff] at h; omega
 have hm0 : m ≠ 0 := fun h => by
  rw [h] at m3
  rcases Rat.mul_eq_zero.1 (show c * (d : Rat) = 0 from m3) with h' | h'
  ·exact h0 h'
  ·exact hd0 h'
 have hk : c⁻¹ * (m : Rat) = (d : Rat) := by
  rw [<- m3]
  have := Rat.inv_mul_cancel _ h0
  grind
 rcases Int.lt_or_le m 0 with hm | hm
 ·refine ⟨-m, by omega, by omega, fun j => ⟨-d, by omega, by omega, ?_⟩⟩
  rw [Rat.intCast_neg, Rat.intCast_neg, <- hk]; grind
 ·exact ⟨m, m2, by omega, fun j => ⟨d, by omega, by omega, hk⟩⟩
theorem CF.nd {s : Nat} {f : Nat -> Rat} (hf : CF s f) (j : Nat) : ((f j).num.natAbs : Int) <= 2 ^ s /\ ((f j).den : Int) <= 2 ^ s := by
 obtain ⟨d, h1, h2⟩ := hf
 obtain ⟨n, n1, n2, n3⟩ := h2.num j
 obtain ⟨q1, q2⟩ := nd_of h2.pos n3
 exact ⟨by omega, by omega⟩
theorem CF.list {s : Nat} : ∀ (P : List Rat), (∀ q ∈ P, CF s (fun _ => q)) -> CF (P.length * s) (fun j => P.getD j 0)
 | [], _ => (CF.zero _).congr fun j => by simp
 | q :: P, h => by
  have ih := CF.list P fun p hp => h p (List.mem_cons_of_mem _ hp)
  obtain ⟨d, h1, h2⟩ := h q (List.mem_cons_self ..)
  obtain ⟨e, h3, h4⟩ := ih
  obtain ⟨m, m1, m2, m3⟩ := h2.num 0
  have p1 := two_pow_pos s
  have p2 := two_pow_pos (P.length * s)
  have hd := h2.pos
  have he := h4.pos
  have b0 := qaq (a := e) (b := d) (M := 2 ^ (P.length * s)) (N := 2 ^ s) (by omega) (by omega) (by omega) (by omega)
  have b1 := qaq (a := e) (b := m) (M := 2 ^ (P.length * s)) (N := 2 ^ s) (by omega) (by omega) (by omega) (by omega)
  have bp : 0 < e * d := Int.mul_pos he hd
  rw [List.length_cons, Nat.succ_mul, CF, Int.pow_add]
  refine ⟨e * d, b0.2, bp, fun j => ?_⟩
  cases j with
  | zero =>
   refine ⟨e * m, b1.1, b1.2, ?_⟩
   rw [List.getD_cons_zero, Rat.intCast_mul, Rat.intCast_mul, <- m3]; grind
  | succ j =>
   obtain ⟨n, n1, n2, n3⟩ := h4.num j
   have b2 := qaq (a := n) (b := d) (M := 2 ^ (P.length * s)) (N := 2 ^ s) (by omega) (by omega) (by omega) (by omega)
   refine ⟨n * d, b2.1, b2.2, ?_⟩
   rw [List.getD_cons_succ, Rat.intCast_mul, Rat.intCast_mul, <- n3]; grind
def cnv (f g : Nat -> Rat) (j : Nat) : Nat -> Rat
 | 0 => 0
 | i + 1 => cnv f g j i + if i <= j then f i * g (j - i) else 0
theorem CF.prod {s t l : Nat} {f g : Nat -> Rat} (hf : CF s f) (hg : CF t g) {i : Nat} (hi : i <= 2 ^ l) : CF (s + t + l) (fun j => cnv f g j i) := by
 obtain ⟨d, h1, h2⟩ := hf
 obtain ⟨e, h3, h4⟩ := hg
 have p1 := two_pow_pos s
 have p2 := two_pow_pos t
 have p3 := two_pow_pos l
 have hd := h2.pos
 have he := h4.pos
 have b0 := qaq (a := d) (b := e) (M := 2 ^ s) (N := 2 ^ t) (by omega) (by omega) (by omega) (by omega)
 have bp : 0 < d * e := Int.mul_pos hd he
 have hk : ∀ (j k : Nat), ∃ n : Int, -((k : Int) * (2 ^ s * 2 ^ t)) <= n /\ n <= (k : Int) * (2 ^ s * 2 ^ t) /\ cnv f g j k * ((d * e : Int) : Rat) = (n : Rat) := fun j k => by
  induction k with
  | zero => exact ⟨0, by simp, by simp, by show 0 * _ = (0 : Rat); rw [Rat.zero_mul]⟩
  | succ k ih =>
   obtain ⟨n, n1, n2, n3⟩ := ih
   have e1 : ((k + 1 : Nat) : Int) * (2 ^ s * 2 ^ t) = (k : Int) * (2 ^ s * 2 ^ t) + 2 ^ s * 2 ^ t := by push_cast; grind
   have e2 : (0 : Int) <= 2 ^ s * 2 ^ t := Int.mul_nonneg (by omega) (by omega)
   rw [e1]
   by_cases hkj : k <= j
   ·obtain ⟨x, x1, x2, x3⟩ := h2.num k
    obtain ⟨y, y1, y2, y3⟩ := h4.num (j - k)
    have b1 := qaq x1 x2 y1 y2
    refine ⟨n + x * y, by omega, by omega, ?_⟩
    unfold cnv
    rw [if_pos hkj, Rat.intCast_add, <- n3, Rat.intCast_mul, Rat.intCast_mul, <- x3, <- y3]; grind
   ·refine ⟨n, by omega, by omega, ?_⟩
    unfold cnv
    rw [if_neg hkj, Rat.add_zero, n3]
 have hl : (i : Int) <= 2 ^ l := by exact_mod_cast hi
 have hle : (i : Int) * (2 ^ s * 2 ^ t) <= 2 ^ l * (2 ^ s * 2 ^ t) := Int.mul_le_mul_of_nonneg_right hl (Int.mul_nonneg (by omega) (by omega))
 have h1l : 1 * (2 ^ s * 2 ^ t) <= (2 : Int) ^ l * (2 ^ s * 2 ^ t) := Int.mul_le_mul_of_nonneg_right (by omega) (Int.mul_nonneg (by omega) (by omega))
 have e0 : (2 : Int) ^ (s + t + l) = 2 ^ l * (2 ^ s * 2 ^ t) := by rw [Int.pow_add, Int.pow_add]; grind
 rw [CF, e0]
 refine ⟨d * e, by omega, bp, fun j => ?_⟩
 obtain ⟨n, n1, n2, n3⟩ := hk j i
 exact ⟨n, by omega, by omega, n3⟩
def CF2 (s : Nat) (f g : Nat -> Rat) : Prop := ∃ d : Int, d <= 2 ^ s /\ CD (2 ^ s) d f /\ CD (2 ^ s) d g
theorem CF2.mono {s t : Nat} {f g : Nat -> Rat} (h : CF2 s f g) (hst : s <= t) : CF2 t f g := by
 obtain ⟨d, h1, h2, h3⟩ := h
 have := two_pow_mono hst
 exact ⟨d, by omega, h2.mono this, h3.mono this⟩
theorem CF2.left {s : Nat} {f g : Nat -> Rat} (h : CF2 s f g) : CF s f := by obtain ⟨d, h1, h2, h3⟩ := h; exact ⟨d, h1, h2⟩
theorem CF2.right {s : Nat} {f g : Nat -> Rat} (h : CF2 s f g) : CF s g := by obtain ⟨d, h1, h2, h3⟩ := h; exact ⟨d, h1, h3⟩
theorem CF2.round {s t : Nat} {f g b : Nat -> Rat} {v : Rat} {n : Nat} (h : CF2 s f g) (hb : CF t b) (hv : b n * v = 1) (top i : Nat) :
  CF2 (s + t + 1) (fun j => f j + if i <= j then -(f top * v) * b (j - i) else 0) (fun j => if j = i then f top * v else g j) := by
 obtain ⟨d, h1, h2, h3⟩ := h
 obtain ⟨e, h4, h5⟩ := hb
 obtain ⟨m, m1, m2, m3⟩ := h5.num n
 have hd := h2.pos
 have he := h5.pos
 have p1 := two_pow_pos s
 have p2 := two_pow_pos t
 have he0 : (e : Rat) ≠ 0 := fun h => by rw [Rat.intCast_eq_zero_iff] at h; omega
 have hm0 : m ≠ 0 := fun h => by
  rw [h] at m3
  rcases Rat.mul_eq_zero.1 (show b n * (e : Rat) = 0 from m3) with h' | h'
  ·rw [h', Rat.zero_mul] at hv; exact absurd hv (by decide)
  ·exact he0 h'
 have e1 : (2 : Int) ^ (s + t + 1) = 2 * (2 ^ s * 2 ^ t) := by rw [Int.pow_succ, Int.pow_add]; omega
 have e2 : (0 : Int) <= 2 ^ s * 2 ^ t := Int.mul_nonneg (by omega) (by omega)
 have hs : ∃ (w : Int) (y : Nat -> Int), 0 < w /\ w <= 2 ^ t /\ (∀ j, -2 ^ t <= y j /\ y j <= 2 ^ t /\ v * b j * (w : Rat) = (y j : Rat)) /\ ∃ z : Int, -2 ^ t <= z /\ z <= 2 ^ t /\ v * (w : Rat) = (z : Rat) := by
  have hvm : v * (m : Rat) = (e : Rat) := by rw [<- m3]; grind
  have hj : ∀ j, ∃ x : Int, -2 ^ t <= x /\ x <= 2 ^ t /\ v * b j * (m : Rat) = (x : Rat) := fun j => by
   obtain ⟨x, x1, x2, x3⟩ := h5.num j
   refine ⟨x, x1, x2, ?_⟩
   rw [<- x3, <- hvm]; grind
  rcases Int.lt_or_le m 0 with hm | hm
  ·refine ⟨-m, fun j => -(hj j).choose, by omega, by omega, fun j => ?_, -e, by omega, by omega, ?_⟩
   ·obtain ⟨x1, x2, x3⟩ := (hj j).choose_spec
    show -2 ^ t <= -(hj j).choose /\ -(hj j).choose <= 2 ^ t /\ v * b j * ((-m : Int) : Rat) = ((-(hj j).choose : Int) : Rat)
    refine ⟨by omega, by omega, ?_⟩
    rw [Rat.intCast_neg, Rat.intCast_neg, <- x3]; grind
   ·rw [Rat.intCast_neg, Rat.intCast_neg, <- hvm]; grind
  ·exact ⟨m, fun j => (hj j).choose, by omega, by omega, fun j => (hj j).choose_spec, e, by omega, by omega, hvm⟩
 obtain ⟨w, y, w1, w2, hy, z, z1, z2, z3⟩ := hs
 obtain ⟨x, x1, x2, x3⟩ := h2.num top
 have bp : 0 < d * w := Int.mul_pos hd w1
 have b0 := qaq (a := d) (b := w) (M := 2 ^ s) (N := 2 ^ t) (by omega) (by omega) (by omega) (by omega)
 rw [CF2, e1]
 refine ⟨d * w, by omega, ⟨bp, fun j => ?_⟩, ⟨bp, fun j => ?_⟩⟩
 ·obtain ⟨a, a1, a2, a3⟩ := h2.num j
  have b1 := qaq (a := a) (b := w) a1 a2 (N := 2 ^ t) (by omega) (by omega)
  by_cases hij : i <= j
  ·obtain ⟨y1, y2, y3⟩ := hy (j - i)
   have b2 := qaq x1 x2 y1 y2
   refine ⟨a * w - x * y (j - i), by omega, by omega, ?_⟩
   rw [if_pos hij, Rat.intCast_sub, Rat.intCast_mul, Rat.intCast_mul, Rat.intCast_mul, <- a3, <- x3, <- y3]; grind
  ·refine ⟨a * w, by omega, by omega, ?_⟩
   rw [if_neg hij, Rat.intCast_mul, Rat.intCast_mul, <- a3]; grind
 ·by_cases hij : j = i
  ·have b2 := qaq x1 x2 z1 z2
   refine ⟨x * z, by omega, by omega, ?_⟩
   rw [if_pos hij, Rat.intCast_mul, Rat.intCast_mul, <- x3, <- z3]; grind
  ·obtain ⟨a, a1, a2, a3⟩ := h3.num j
   have b1 := qaq (a := a) (b := w) a1 a2 (N := 2 ^ t) (by omega) (by omega)
   refine ⟨a * w, by omega, by omega, ?_⟩
   rw [if_neg hij, Rat.intCast_mul, Rat.intCast_mul, <- a3]; grind
end Go.Abs
end
section
namespace Go.Proofs.YtbeakmahabhacaaGreat
open Go Go.Abs Go.Abs.M Go.Proofs
def dvT (B : List Rat) (n : Nat) (v : Rat) (P : List Rat) (k : Nat) : Nat -> List Rat × List Rat
 | 0 => (P, List.replicate k 0)
 | j + 1 => (pacc (dvT B n v P k j).1 (-((dvT B n v P k j).1.getD (k - 1 - j + n) 0 * v)) B (k - 1 - j), (dvT B n v P k j).2.set (k - 1 - j) ((dvT B n v P k j).1.getD (k - 1 - j + n) 0 * v))
theorem dvT_len (B : List Rat) (n : Nat) (v : Rat) (P : List Rat) (k : Nat) : ∀ j, (dvT B n v P k j).1.length = P.length /\ (dvT B n v P k j).2.length = k
 | 0 => ⟨rfl, List.length_replicate⟩
 | j + 1 => by
  obtain ⟨h1, h2⟩ := dvT_len B n v P k j
  refine ⟨?_, ?_⟩
  ·show (pacc _ _ _ _).length = _
   unfold pacc
   rw [qbd, h1]
  ·show (List.set _ _ _).length = _
   rw [List.length_set, h2]
theorem dvT_spec {B : List Rat} {n : Nat} {v : Rat} {P : List Rat} {k : Nat} (hB : B.length = n + 1) (hv : B.getD n 0 * v = 1) (hk : P.length = k + n) : ∀ j, j <= k ->
  (∀ x, Abs.ev (dvT B n v P k j).1 x + Abs.ev (dvT B n v P k j).2 x * Abs.ev B x = Abs.ev P x) /\ (∀ i, n + (k - j) <= i -> (dvT B n v P k j).1.getD i 0 = 0) /\ (∀ i, i < k - j -> (dvT B n v P k j).2.getD i 0 = 0)
 | 0, _ => by
  refine ⟨fun x => ?_, fun i hi => ?_, fun i hi => ?_⟩
  ·show Abs.ev P x + Abs.ev (List.replicate k 0) x * _ = _
   rw [ev_zeros]; grind
  ·show P.getD i 0 = 0
   rw [List.getD_eq_getElem?_getD, List.getElem?_eq_none (by omega)]; rfl
  ·show (List.replicate k (0 : Rat)).getD i 0 = 0
   rw [List.getD_eq_getElem?_getD, List.getElem?_replicate]; split <;> rfl
 | j + 1, hj => by
  obtain ⟨h1, h2, h3⟩ := dvT_spec hB hv hk j (by omega)
  obtain ⟨l1, l2⟩ := dvT_len B n v P k j
  have e : dvT B n v P k (j + 1) = (pacc (dvT B n v P k j).1 (-((dvT B n v P k j).1.getD (k - 1 - j + n) 0 * v)) B (k - 1 - j), (dvT B n v P k j).2.set (k - 1 - j) ((dvT B n v P k j).1.getD (k - 1 - j + n) 0 * v)) := rfl
  generalize dvT B n v P k j = s at *
  obtain ⟨R, Q⟩ := s
  rw [e]
  obtain ⟨i, hi⟩ : ∃ i, i = k - 1 - j := ⟨_, rfl⟩
  rw [<- hi]
  dsimp only at h1 h2 h3 l1 l2 ⊢
  generalize hc : R.getD (i + n) 0 * v = c
  refine ⟨fun x => ?_, fun t ht => ?_, fun t ht => ?_⟩
  ·rw [ev_pacc _ _ _ _ _ (by omega), ev_set _ _ _ _ (by omega), h3 i (by omega)]
   have := h1 x
   grind
  ·rw [pacc_get _ _ _ _ _ (by omega), if_pos (by omega)]
   by_cases h : t = i + n
   ·subst h
    rw [show i + n - i = n by omega, <- hc]
    grind
   ·rw [h2 t (by omega), List.getD_eq_getElem?_getD (l := B), List.getElem?_eq_none (by omega)]
    simp [Rat.mul_zero, Rat.add_zero]
  ·rw [List.getD_eq_getElem?_getD, List.getElem?_set, if_neg (by omega), <- List.getD_eq_getElem?_getD, h3 t (by omega)]
theorem dvT_cf {B : List Rat} {n : Nat} {v : Rat} {P : List Rat} {k s t : Nat} (hB : B.length = n + 1) (hv : B.getD n 0 * v = 1) (hk : P.length = k + n) (hP : CF s (fun j => P.getD j 0)) (hb : CF t (fun j => B.getD j 0)) : ∀ j, j <= k ->
  CF2 (s + j * (t + 1)) (fun i => (dvT B n v P k j).1.getD i 0) (fun i => (dvT B n v P k j).2.getD i 0)
 | 0, _ => by
  obtain ⟨d, h1, h2⟩ := hP
  have := two_pow_pos s
  rw [Nat.zero_mul, Nat.add_zero]
  refine ⟨d, h1, h2, h2.pos, fun j => ⟨0, by omega, by omega, ?_⟩⟩
  show (List.replicate k (0 : Rat)).getD j 0 * _ = _
  rw [List.getD_eq_getElem?_getD, List.getElem?_replicate]
  split
  ·exact Rat.zero_mul _
  ·exact Rat.zero_mul _
 | j + 1, hj => by
  have ih := dvT_cf hB hv hk hP hb j (by omega)
  obtain ⟨l1, l2⟩ := dvT_len B n v P k j
  have e : dvT B n v P k (j + 1) = (pacc (dvT B n v P k j).1 (-((dvT B n v P k j).1.getD (k - 1 - j + n) 0 * v)) B (k - 1 - j), (dvT B n v P k j).2.set (k - 1 - j) ((dvT B n v P k j).1.getD (k - 1 - j + n) 0 * v)) := rfl
  rw [e]
  have h := ih.round hb hv (k - 1 - j + n) (k - 1 - j)
  rw [show s + j * (t + 1) + t + 1 = s + (j + 1) * (t + 1) by rw [Nat.succ_mul]; omega] at h
  have e1 : (fun i => (pacc (dvT B n v P k j).1 (-((dvT B n v P k j).1.getD (k - 1 - j + n) 0 * v)) B (k - 1 - j)).getD i 0) = fun i => (dvT B n v P k j).1.getD i 0 + if k - 1 - j <= i then -((dvT B n v P k j).1.getD (k - 1 - j + n) 0 * v) * B.getD (i - (k - 1 - j)) 0 else 0 := funext fun i => pacc_get _ _ _ _ _ (by omega)
  have e2 : (fun i => ((dvT B n v P k j).2.set (k - 1 - j) ((dvT B n v P k j).1.getD (k - 1 - j + n) 0 * v)).getD i 0) = fun i => if i = k - 1 - j then (dvT B n v P k j).1.getD (k - 1 - j + n) 0 * v else (dvT B n v P k j).2.getD i 0 := funext fun i => by
   rw [List.getD_eq_getElem?_getD, List.getElem?_set]
   by_cases h : k - 1 - j = i
   ·rw [if_pos h, if_pos h.symm, if_pos (by omega)]; rfl
   ·rw [if_neg h, if_neg fun h' => h h'.symm, List.getD_eq_getElem?_getD]
  show CF2 _ (fun i => (pacc _ _ _ _).getD i 0) (fun i => (List.set _ _ _).getD i 0)
  rw [e1, e2]
  exact h
theorem bits_words (s : Nat) : (2 : Int) ^ s < 4294967296 ^ (s / 32 + 1) := by
 obtain ⟨t, ht⟩ : ∃ t, t = 32 * (s / 32 + 1) := ⟨_, rfl⟩
 have h1 : (2 : Nat) ^ s < 2 ^ t := Nat.pow_lt_pow_right (by omega) (by omega)
 have h2 : (2 : Int) ^ s < 2 ^ t := by exact_mod_cast h1
 rw [ht, Int.pow_mul, show ((2 : Int) ^ 32) = 4294967296 from by decide] at h2
 exact h2
theorem cf_qs {s : Nat} {f : Nat -> Rat} (h : CF s f) (j : Nat) : Qs (f j) (s / 32 + 1) := by
 obtain ⟨h1, h2⟩ := h.nd j
 have := bits_words s
 exact ⟨qam (by omega), qam (by omega)⟩
theorem cf_qsl {s : Nat} {P : List Rat} (h : CF s (fun j => P.getD j 0)) : ∀ q ∈ P, Qs q (s / 32 + 1) := fun q hq => by
 obtain ⟨j, hj⟩ := List.getElem?_of_mem hq
 have := cf_qs h j
 rw [List.getD_eq_getElem?_getD, hj] at this
 exact this
theorem csum_cnv (P B : List Rat) (j : Nat) : ∀ i, csum P B j i = cnv (fun k => P.getD k 0) (fun k => B.getD k 0) j i
 | 0 => rfl
 | i + 1 => by unfold csum cnv; rw [csum_cnv P B j i]
theorem pmul_get (P B : List Rat) (j : Nat) : (pmul P B).getD j 0 = csum P B j P.length := by
 unfold pmul
 rw [pmulL_get (by simp; omega) _ _ (Nat.le_refl _), List.getD_eq_getElem?_getD, List.getElem?_replicate]
 split <;> simp [Rat.zero_add]
structure PB (f : Rat -> Rat) (n s : Nat) (P : List Rat) : Prop where
 tr : ptrim P = P
 ev : ∀ x, Abs.ev P x = f x
 len : P.length <= n
 cf : CF s (fun j => P.getD j 0)
theorem PB.pl {f : Rat -> Rat} {n s : Nat} {P : List Rat} (h : PB f n s P) : PL f n (s / 32 + 1) P := ⟨h.tr, h.ev, h.len, cf_qsl h.cf⟩
theorem PB.mono {f : Rat -> Rat} {n s m t : Nat} {P : List Rat} (h : PB f n s P) (h1 : n <= m) (h2 : s <= t) : PB f m t P := ⟨h.tr, h.ev, Nat.le_trans h.len h1, h.cf.mono h2⟩
theorem PB.congr {f g : Rat -> Rat} {n s : Nat} {P : List Rat} (h : PB f n s P) (e : ∀ x, f x = g x) : PB g n s P := ⟨h.tr, fun x => by rw [h.ev, e], h.len, h.cf⟩
theorem PB.of_pl {f : Rat -> Rat} {n k s : Nat} {P L : List Rat} (h : PL f n k P) (hL : ∀ x, Abs.ev L x = f x) (hc : CF s (fun j => L.getD j 0)) : PB f n s P :=
 ⟨h.tr, h.ev, h.len, hc.congr fun j => (ev_coef (fun x => by rw [hL, h.ev]) j)⟩
theorem PB.of_trim {f : Rat -> Rat} {n s : Nat} {P : List Rat} (h1 : ∀ x, Abs.ev P x = f x) (h2 : P.length <= n) (h3 : CF s (fun j => P.getD j 0)) : PB f n s (ptrim P) :=
 ⟨ptrim_idem P, fun x => by rw [qbe, h1], Nat.le_trans (ptrim_len P) h2, h3.congr fun j => (ptrim_get P j).symm⟩
theorem pb_sub {f g : Rat -> Rat} {n m s t : Nat} {P B : List Rat} (hP : PB f n s P) (hB : PB g m t B) (hn : n <= 1000) (hm : m <= 1000) (hs : s + t <= 2000000000) :
  ∃ R, PB (fun x => f x - g x) (max n m) (s + t + 1) R /\ ACall Tryz.prog 31 [.val (tl (ur P)), .val (tl (ur B))] ⟨[.val (tl (ur R))], [none, none]⟩ := by
 obtain ⟨R, hR, c⟩ := pl_sub hP.pl hB.pl (by omega) hn hm (by omega)
 refine ⟨R, PB.of_pl (L := pshift P (-1) B 0) hR (fun x => ?_) ((hP.cf.add hB.cf.neg).congr fun j => ?_), c⟩
 ·rw [ev_shift, hP.ev, hB.ev]; grind
 ·rw [pshift_get, if_pos (Nat.zero_le _), Nat.sub_zero]; grind
theorem pb_scale {g : Rat -> Rat} {m s t : Nat} {c : Rat} {B : List Rat} (hc : CF s (fun _ => c)) (hB : PB g m t B) (hm : m <= 1000) (hs : s + t <= 2000000000) :
  ∃ R, PB (fun x => c * g x) m (t + s) R /\ ACall Tryz.prog 29 [.val (.agg (qc c).row), .val (tl (ur B))] ⟨[.val (tl (ur R))], [none, none]⟩ := by
 obtain ⟨R, hR, k⟩ := pl_scale (cf_qs hc 0) hB.pl hm (by omega)
 refine ⟨R, PB.of_pl (L := pshift [] c B 0) hR (fun x => ?_) ((CF.scale hc hB.cf).congr fun j => ?_), k⟩
 ·rw [ev_shift, hB.ev]; simp only [Abs.ev]; grind
 ·rw [pshift_get, if_pos (Nat.zero_le _), Nat.sub_zero, List.getD_nil, Rat.zero_add]
theorem pb_mul {f g : Rat -> Rat} {n m s t : Nat} (l : Nat) {P B : List Rat} (hP : PB f n s P) (hB : PB g m t B) (hl : n <= 2 ^ l) (hn : n + m <= 1000) (hs : s + t <= 2000000000) :
  ∃ R, PB (fun x => f x * g x) (n + m - 1) (s + t + l) R /\ ACall Tryz.prog 12 [.val (tl (ur P)), .val (tl (ur B))] ⟨[.val (tl (ur R))], [none, none]⟩ := by
 obtain ⟨R, hR, c⟩ := pl_mul hP.pl hB.pl hn (by omega)
 refine ⟨R, PB.of_pl (L := pmul P B) hR (fun x => ?_) ((hP.cf.prod hB.cf (i := P.length) (Nat.le_trans hP.len hl)).congr fun j => ?_), c⟩
 ·rw [ev_pmul, hP.ev, hB.ev]
 ·rw [pmul_get, csum_cnv]
theorem PB.nil (s : Nat) : PB (fun _ => 0) 0 s [] := ⟨rfl, fun _ => rfl, Nat.le_refl _, (CF.zero s).congr fun j => by simp⟩
theorem PB.inj {f g : Rat -> Rat} {n k m l : Nat} {P Q : List Rat} (h1 : PB f n k P) (h2 : PB g m l Q) (h : ∀ x, f x = g x) : P = Q := h1.pl.inj h2.pl h
open Go Go.Abs Go.Abs.M Go.Proofs
theorem udivmod_zero (P : List Rat) : ACall Tryz.prog 15 [.val (tl (ur P)), .val (tl [])] ⟨[.val (tl []), .val (tl []), .val (ti .i64 10)], [none, none]⟩ := by
 obtain ⟨X, hX⟩ : ∃ Y, Y = ur P := ⟨_, rfl⟩
 rw [<- hX]
 refine callZ ccOk mixed [.val, .val, .val] Tryz.func15 rfl rfl (by kernel_rfl) fun zA zB zC zD zE zF zG zH zI zJ zK zL zM zN zO zP zQ zR zS zT zU zV zX zY zZ za zb zc zd ze zg zh zi zj zk zl zm zn zo zq zr zt zu zw zx zy zz zW zth A L F hS hF => ?_
 have e1 : zM (zY (zh [])) 0 = true := by rw [hS.eq, hS.ofN, hS.len]; rfl
 cbv
 refine bT e1 ?_
 exact fin3w hF (TLe.drop _ _) (TLe.drop _ _) (TVLe.refl _)
theorem ur_wide (P : List Rat) : ((ur P).all fun r => r.length == 4) = true := by
 refine List.all_eq_true.2 fun r hr => ?_
 obtain ⟨c, _, rfl⟩ := List.mem_map.1 hr
 rfl
theorem udivmod_short (P B : List Rat) (h : P.length < B.length) (hl : B.length <= 1000) : ACall Tryz.prog 15 [.val (tl (ur P)), .val (tl (ur B))] ⟨[.val (tl []), .val (tl (ur P)), .val (ti .i64 0)], [none, none]⟩ := by
 have lX := qaf P
 have lY := qaf B
 have wX := ur_wide P
 generalize P.length = m at *
 generalize B.length = l at *
 generalize ur P = X at *
 generalize ur B = Y at *
 refine callZ ccOk mixed [.val, .val, .val] Tryz.func15 rfl rfl (by kernel_rfl) fun zA zB zC zD zE zF zG zH zI zJ zK zL zM zN zO zP zQ zR zS zT zU zV zX zY zZ za zb zc zd ze zg zh zi zj zk zl zm zn zo zq zr zt zu zw zx zy zz zW zth A L F hS hF => ?_
 obtain ⟨M, hM, eM⟩ : ∃ M : Int, M = (m : Int) /\ zY (zh X) = M := ⟨_, rfl, by rw [hS.ofN, hS.len, lX]⟩
 obtain ⟨N, hN, eN⟩ : ∃ N : Int, N + 1 = (l : Int) /\ zA .i64 (zC (zY (zh Y)) 1) = N := ⟨(l : Int) - 1, by omega, by rw [hS.ofN, hS.len, lY, hS.sub, hS.wrap, wrap_i64 (by omega) (by omega)]⟩
 have e1 : zM (zY (zh Y)) 0 = false := by rw [hS.eq, hS.ofN, hS.len, lY]; exact decide_eq_false (by omega)
 have eMn : zV M = m := by rw [hS.nat, hM, Int.toNat_natCast]
 have k0 : zg M M 64 = true := by rw [hS.mkok]; exact decide_eq_true (by unfold capBytes; omega)
 obtain ⟨R0, hR0, r0⟩ : ∃ R0, R0 = List.replicate m rawZ /\ zt m [.v (.bool false), .lst true [], .v (.bool false), .lst true []] = R0 := ⟨_, rfl, by rw [hS.rep]; rfl⟩
 have hR0l : R0.length = m := by rw [hR0, List.length_replicate]
 have f1 : zn 0 m R0 = true := by rw [hS.fit, hR0l]; exact decide_eq_true (by omega)
 have f2 : zu 4 X = true := by rw [hS.wide]; exact wX
 have eMo : zY m = M := by rw [hS.ofN, hM]
 have f3 : zP M M = true := by rw [hS.le]; exact decide_eq_true (Int.le_refl _)
 have f0 : zr R0 0 X = X := by rw [hS.setg]; unfold setRange; rw [List.take_zero, List.nil_append, Nat.zero_add, lX, <- hR0l, List.drop_length, List.append_nil]
 have f4 : zn 0 m X = true := by rw [hS.fit, lX]; exact decide_eq_true (by omega)
 have f5 : zo X 0 m = X := by rw [hS.part, <- lX, List.drop_zero, List.take_length]
 have c1 : zP M N = true := by rw [hS.le]; exact decide_eq_true (by omega)
 cbv
 have hM : M = (m : Int) := hM
 have hN : N + 1 = (l : Int) := hN
 refine bF e1 ?_
 rw [eM, eMn, r0]
 refine nd (k0) ?_
 refine nd (f1) ?_
 refine nd (f2) ?_
 rw [eMo]
 refine nd (f3) ?_
 rw [f0, eN]
 refine bT (c1) ?_
 refine nd (f4) ?_
 rw [f5]
 exact fin3w hF (TLe.drop _ _) (TVLe.refl _) (TVLe.refl _)
def udvSt (Y R Q : Abs.Rows) (m k : Nat) (s2 : Bool) (r2 : Abs.Rows) (t2 : Bool) (p2 : Abs.Rows) (N I : Int) : St := mkSt 76 [.junk, .c (.t (.lst false Y)), .junk, .junk, .junk, .junk, .junk, .c (.sl 2 0 m false), vi .i64 N, .c (.ptr 5 0 0), .junk, .c (.sl 6 0 k false), vi .i64 I] [none, none, some (.rows 4 R true false), none, none, some (.var [.t (.v (.bool s2)), .t (.lst false r2), .t (.v (.bool t2)), .t (.lst false p2)]), some (.rows 4 Q true false)]
theorem udivmod_long (P B : List Rat) (n k a b : Nat) (hk : P.length = k + n) (hBl : B.length = n + 1) (hB : B.getD n 0 ≠ 0) (hkn : k + n <= 999) (hk1 : 1 <= k)
  (hsz : ∀ j, j <= k -> ∀ q ∈ (dvT B n (B.getD n 0)⁻¹ P k j).1, Qs q a) (h2 : ∀ q ∈ B, Qs q b) (hs : a + 2 * b <= 68719476736) :
  ACall Tryz.prog 15 [.val (tl (ur P)), .val (tl (ur B))] ⟨[.val (tl (ur (ptrim (dvT B n (B.getD n 0)⁻¹ P k k).2))), .val (tl (ur (ptrim ((dvT B n (B.getD n 0)⁻¹ P k k).1.take n)))), .val (ti .i64 0)], [none, none]⟩ := by
 obtain ⟨m, hm⟩ : ∃ m, m = k + n := ⟨_, rfl⟩
 obtain ⟨l, hl2⟩ : ∃ m, m = n + 1 := ⟨_, rfl⟩
 obtain ⟨L, hL⟩ : ∃ L, L = B.getD n 0 := ⟨_, rfl⟩
 have hBi : B[n]? = some L := by rw [hL, List.getD_eq_getElem?_getD, List.getElem?_eq_getElem (by omega)]; rfl
 rw [<- hL] at hB hsz ⊢
 have hLb := h2 L (List.mem_of_getElem? hBi)
 obtain ⟨hLi, ci⟩ := pinv_row hB hLb (by omega)
 have cz := uzeros_call k (by omega)
 obtain ⟨v, hv⟩ : ∃ v, v = L⁻¹ := ⟨_, rfl⟩
 rw [<- hv] at ci hLi hsz ⊢
 obtain ⟨T1, hT1⟩ : ∃ T, T = ur (ptrim (dvT B n v P k k).2) := ⟨_, rfl⟩
 obtain ⟨T2, hT2⟩ : ∃ T, T = ur (ptrim ((dvT B n v P k k).1.take n)) := ⟨_, rfl⟩
 rw [<- hT1, <- hT2]
 obtain ⟨s, t, r, p, hrow, _⟩ := qrow L
 obtain ⟨s2, t2, r2, p2, hrow2, _⟩ := qrow v
 rw [hrow, hrow2] at ci
 have hYn := qbx hBi
 rw [hrow] at hYn
 have lX := qaf P
 have lY := qaf B
 have wX := ur_wide P
 obtain ⟨X, hX⟩ : ∃ X, X = ur P := ⟨_, rfl⟩
 obtain ⟨Y, hY⟩ : ∃ X, X = ur B := ⟨_, rfl⟩
 obtain ⟨Z, hZ⟩ : ∃ X, X = ur (List.replicate k 0) := ⟨_, rfl⟩
 obtain ⟨K, hK⟩ : ∃ K : Int, K = (k : Int) := ⟨_, rfl⟩
 have hZl : Z.length = k := by rw [hZ, qaf, List.length_replicate]
 rw [<- hK, <- hZ] at cz
 rw [<- hX, hk, <- hm] at lX
 rw [<- hY, hBl, <- hl2] at lY
 rw [<- hY] at hYn
 rw [<- hX] at wX
 rw [<- hX, <- hY]
 refine callZ ccOk mixed [.val, .val, .val] Tryz.func15 rfl rfl (by kernel_rfl) fun zA zB zC zD zE zF zG zH zI zJ zK zL zM zN zO zP zQ zR zS zT zU zV zX zY zZ za zb zc zd ze zg zh zi zj zk zl zm zn zo zq zr zt zu zw zx zy zz zW zth A L F hS hF => ?_
 obtain ⟨M, hM, eM⟩ : ∃ M : Int, M = (m : Int) /\ zY (zh X) = M := ⟨_, rfl, by rw [hS.ofN, hS.len, lX]⟩
 obtain ⟨N, hN, eN⟩ : ∃ N : Int, N + 1 = (l : Int) /\ zA .i64 (zC (zY (zh Y)) 1) = N := ⟨(l : Int) - 1, by omega, by rw [hS.ofN, hS.len, lY, hS.sub, hS.wrap, wrap_i64 (by omega) (by omega)]⟩
 have e1 : zM (zY (zh Y)) 0 = false := by rw [hS.eq, hS.ofN, hS.len, lY]; exact decide_eq_false (by omega)
 have eMn : zV M = m := by rw [hS.nat, hM, Int.toNat_natCast]
 have k0 : zg M M 64 = true := by rw [hS.mkok]; exact decide_eq_true (by unfold capBytes; omega)
 obtain ⟨R0, hR0, r0⟩ : ∃ R0, R0 = List.replicate m rawZ /\ zt m [.v (.bool false), .lst true [], .v (.bool false), .lst true []] = R0 := ⟨_, rfl, by rw [hS.rep]; rfl⟩
 have hR0l : R0.length = m := by rw [hR0, List.length_replicate]
 have f1 : zn 0 m R0 = true := by rw [hS.fit, hR0l]; exact decide_eq_true (by omega)
 have f2 : zu 4 X = true := by rw [hS.wide]; exact wX
 have eMo : zY m = M := by rw [hS.ofN, hM]
 have f3 : zP M M = true := by rw [hS.le]; exact decide_eq_true (Int.le_refl _)
 have f0 : zr R0 0 X = X := by rw [hS.setg]; unfold setRange; rw [List.take_zero, List.nil_append, Nat.zero_add, lX, <- hR0l, List.drop_length, List.append_nil]
 have f4 : zn 0 m X = true := by rw [hS.fit, lX]; exact decide_eq_true (by omega)
 have f5 : zo X 0 m = X := by rw [hS.part, <- lX, List.drop_zero, List.take_length]
 have c1 : zP M N = false := by rw [hS.le]; exact decide_eq_false (by omega)
 have hNn : N = (n : Int) := by omega
 have g1 : zP 0 N = true := by rw [hS.le]; exact decide_eq_true (by omega)
 have hz : zi Y (zV N) = some [.v (.bool s), .lst false r, .v (.bool t), .lst false p] := by rw [hS.nat, hNn, Int.toNat_natCast, hS.nth, hYn]
 have eK : zA .i64 (zC M N) = K := by rw [hS.sub, hS.wrap, wrap_i64 (by omega) (by omega)]; omega
 have lz : zh Z = k := by rw [hS.len, hZl]
 cbv
 have hM : M = (m : Int) := hM
 have hN : N + 1 = (l : Int) := hN
 refine bF e1 ?_
 rw [eM, eMn, r0]
 refine nd (k0) ?_
 refine nd (f1) ?_
 refine nd (f2) ?_
 rw [eMo]
 refine nd (f3) ?_
 rw [f0, eN]
 refine bF c1 ?_
 rw [hz]
 cbv
 refine nd (g1) ?_
 refine ⟨_, hS.call (ci), ?_⟩
 cbv
 rw [eM, eK]
 refine ⟨_, hS.call (cz), ?_⟩
 cbv
 have hNn : N = (n : Int) := hNn
 obtain ⟨I0, hI0, eI0⟩ : ∃ I : Int, I + 1 = (k : Int) /\ zA .i64 (zC (zY (zh Z)) 1) = I := ⟨(k : Int) - 1, by omega, by rw [hS.ofN, lz, hS.sub, hS.wrap, wrap_i64 (by omega) (by omega)]⟩
 have eI1 : zA .i64 (zC (zY k) 1) = I0 := by rw [<- lz]; exact eI0
 clear hM eM eN e1 eMn k0 r0 hR0l hR0 f1 f2 eMo f3 f0 f4 f5 c1 hz eK eI0 lX lY wX hYn ci cz g1
 refine loopZ ccOk mixed hS (fun (i : Nat) s' => ∃ (j : Nat) (I : Int) (R Q : Abs.Rows), I + 1 = i /\ i + j = k /\ R = ur (dvT B n v P k j).1 /\ Q = ur (dvT B n v P k j).2 /\ s' = udvSt Y R Q m k s2 r2 t2 p2 N I) (n := k) (s0 := udvSt Y X Z m k s2 r2 t2 p2 N I0) (qat ?_ ?_) rfl (by show 2 <= 7; omega) ?_ ?_
 ·simp [leT, udvSt, mkSt, vi, lz, eI1]
 ·simp [leH, udvSt, mkSt]
 ·exact ⟨0, I0, X, Z, hI0, by omega, hX, hZ, rfl⟩
 ·rintro i s1 ⟨j, I, R, Q, hI, hij, hR, hQ, hs1⟩
  obtain ⟨dl1, dl2⟩ := dvT_len B n v P k j
  have hRl : R.length = m := by rw [hR, qaf, dl1, hk, hm]
  have hQl : Q.length = k := by rw [hQ, qaf, dl2]
  have f4 : zn 0 m R = true := by rw [hS.fit, hRl]; exact decide_eq_true (by omega)
  have f5 : zo R 0 m = R := by rw [hS.part, <- hRl, List.drop_zero, List.take_length]
  have f6 : zn 0 k Q = true := by rw [hS.fit, hQl]; exact decide_eq_true (by omega)
  have f7 : zo Q 0 k = Q := by rw [hS.part, <- hQl, List.drop_zero, List.take_length]
  by_cases hi : i = 0
  ·have l1 : zP 0 I = false := by rw [hS.le]; exact decide_eq_false (by omega)
   have hj : j = k := by omega
   rw [hj] at hR hQ dl1 dl2
   have ct1 := utrim2_call (dvT B n v P k k).2 (by omega)
   rw [<- hQ, <- hT1] at ct1
   have ct2 := utrim2_call ((dvT B n v P k k).1.take n) (by rw [List.length_take]; omega)
   rw [<- ur_take, <- hR, <- hT2] at ct2
   have g4 : zd 0 N m = true := by rw [hS.cut]; exact decide_eq_true (by omega)
   have g6 : zn 0 (zV N) R = true := by rw [hS.fit, hS.nat, hRl]; exact decide_eq_true (by omega)
   have g5 : zo R 0 (zV N) = R.take n := by rw [hS.part, hS.nat, hNn, Int.toNat_natCast, List.drop_zero]
   subst hs1
   cbv
   refine bF l1 (nd f6 ?_)
   rw [f7]
   refine ⟨_, hS.call (ct1), ?_⟩
   cbv
   refine nd (g4) ?_
   refine nd (g6) ?_
   rw [g5]
   refine ⟨_, hS.call (ct2), ?_⟩
   cbv
   exact hF _ (ResLe.refl _)
  ·have l1 : zP 0 I = true := by rw [hS.le]; exact decide_eq_true (by omega)
   obtain ⟨i', rfl⟩ : ∃ i', i = i' + 1 := ⟨i - 1, by omega⟩
   have hkj : k - 1 - j = i' := by omega
   have hIi : I = (i' : Int) := by omega
   obtain ⟨x, hx⟩ : ∃ x, x = (dvT B n v P k j).1.getD (i' + n) 0 := ⟨_, rfl⟩
   have hxi : (dvT B n v P k j).1[i' + n]? = some x := by rw [hx, List.getD_eq_getElem?_getD, List.getElem?_eq_getElem (by omega)]; rfl
   have hxs := hsz j (by omega) x (List.mem_of_getElem? hxi)
   obtain ⟨hcs, cm⟩ := pmul_row hxs hLi (by omega)
   obtain ⟨hns, cn⟩ := pneg_row hcs (by omega)
   have cac := uaccum_call (dvT B n v P k j).1 B (-(x * v)) i' a (a + b) b (by omega) (by omega) (hsz j (by omega)) hns h2 (by omega) (by omega)
   have e1 : (dvT B n v P k (j + 1)).1 = pacc (dvT B n v P k j).1 (-(x * v)) B i' := by rw [hx, <- hkj]; rfl
   have e2 : (dvT B n v P k (j + 1)).2 = (dvT B n v P k j).2.set i' (x * v) := by rw [hx, <- hkj]; rfl
   clear hkj hi
   obtain ⟨R', hR'⟩ : ∃ R', R' = ur (dvT B n v P k (j + 1)).1 := ⟨_, rfl⟩
   obtain ⟨Q', hQ'⟩ : ∃ R', R' = ur (dvT B n v P k (j + 1)).2 := ⟨_, rfl⟩
   rw [<- e1, <- hR', <- hR, <- hY, <- hIi] at cac
   have hset : Q.set i' (qc (x * v)).row = Q' := by rw [hQ, ur_set, hQ', e2]
   have hRg : R[i' + n]? = some (qc x).row := by rw [hR]; exact qbx hxi
   have hQ0 : ∃ y : Rat, Q[i']? = some (qc y).row := by
    rw [hQ]
    exact ⟨_, qbx (List.getElem?_eq_getElem (by omega : i' < (dvT B n v P k j).2.length))⟩
   obtain ⟨y, hQ0⟩ := hQ0
   have hQ1 : Q'[i']? = some (qc (x * v)).row := by
    rw [hQ', e2]
    exact qbx (by rw [List.getElem?_set, if_pos rfl, if_pos (by omega)])
   have hR'l : R'.length = m := by rw [hR', qaf, (dvT_len B n v P k (j + 1)).1, hk, hm]
   have hQ'l : Q'.length = k := by rw [hQ', qaf, (dvT_len B n v P k (j + 1)).2]
   obtain ⟨s3, t3, r3, p3, hrow3, _⟩ := qrow x
   obtain ⟨s4, t4, r4, p4, hrow4, _⟩ := qrow (x * v)
   obtain ⟨s5, t5, r5, p5, hrow5, _⟩ := qrow (-(x * v))
   obtain ⟨s6, t6, r6, p6, hrow6, _⟩ := qrow y
   rw [hrow3, hrow2, hrow4] at cm
   rw [hrow4, hrow5] at cn
   rw [hrow5] at cac
   rw [hrow3] at hRg
   rw [hrow4] at hset hQ1
   rw [hrow6] at hQ0
   obtain ⟨e, he⟩ : ∃ e, e = i' + n := ⟨_, rfl⟩
   rw [<- he] at hRg
   obtain ⟨J, hJ, i2⟩ : ∃ J : Int, J = (e : Int) /\ zA .i64 (zB I N) = J := ⟨I + N, by omega, by rw [hS.add, hS.wrap, wrap_i64 (by omega) (by omega)]⟩
   have g1 : zX (zA .i64 (zB I N)) m = true := by rw [i2, hS.inb]; exact decide_eq_true (by omega)
   have g2 : zZ 0 J = e := by rw [hS.idx]; omega
   have g3 : zi R e = some [.v (.bool s3), .lst false r3, .v (.bool t3), .lst false p3] := by rw [hS.nth]; exact hRg
   have g4 : zX I k = true := by rw [hS.inb]; exact decide_eq_true (by omega)
   have g5 : zZ 0 I = i' := by rw [hS.idx]; omega
   have g6 : zi Q i' = some [.v (.bool s6), .lst false r6, .v (.bool t6), .lst false p6] := by rw [hS.nth]; exact hQ0
   have g7 : zj Q i' [.v (.bool s4), .lst false r4, .v (.bool t4), .lst false p4] = Q' := by rw [hS.setr]; exact hset
   have g8 : zi Q' i' = some [.v (.bool s4), .lst false r4, .v (.bool t4), .lst false p4] := by rw [hS.nth]; exact hQ1
   have h6 : za (zh R') m = true := by rw [hS.neq, hS.len, hR'l]; exact decide_eq_true rfl
   have h7 : zr R 0 R' = R' := by rw [hS.setg]; unfold setRange; rw [List.take_zero, List.nil_append, Nat.zero_add, hR'l, <- hRl, List.drop_length, List.append_nil]
   obtain ⟨I', hI', i1⟩ : ∃ I' : Int, I' + 1 = (i' : Int) /\ zA .i64 (zC I 1) = I' := ⟨I - 1, by omega, by rw [hS.sub, hS.wrap, wrap_i64 (by omega) (by omega)]⟩
   have hmm : i' < i' + 1 := by omega
   have hnx : ∃ (j2 : Nat) (I2 : Int) (R2 Q2 : Abs.Rows), I2 + 1 = (i' : Int) /\ i' + j2 = k /\ R2 = ur (dvT B n v P k j2).1 /\ Q2 = ur (dvT B n v P k j2).2 /\ udvSt Y R' Q' m k s2 r2 t2 p2 N I' = udvSt Y R2 Q2 m k s2 r2 t2 p2 N I2 := ⟨j + 1, I', R', Q', hI', by omega, hR', hQ', rfl⟩
   subst hs1
   cbv
   refine bT l1 (nd g1 ?_)
   rw [i2, g2, g3]
   cbv
   refine ⟨_, hS.call (cm), ?_⟩
   cbv
   refine nd (g4) ?_
   rw [g5, g6]
   cbv
   refine nd (g4) ?_
   rw [g5, g7, g8]
   cbv
   refine ⟨_, hS.call (cn), ?_⟩
   cbv
   refine nd (f4) ?_
   rw [f5]
   refine ⟨_, hS.call (cac), ?_⟩
   cbv
   refine nd (h6) ?_
   exact again (s' := udvSt Y R' Q' m k s2 r2 t2 p2 N I') (m := i') (by simp [leT, udvSt, mkSt, vi, i1]) (by simp [leH, udvSt, mkSt, h7]) rfl (by show 2 <= 7; omega) hmm hnx
open Go Go.Abs Go.Abs.M Go.Proofs
theorem qs_any : ∀ P : List Rat, ∃ k, ∀ q ∈ P, Qs q k
 | [] => ⟨0, fun q hq => by cases hq⟩
 | p :: P => by
  obtain ⟨k, hk⟩ := qs_any P
  refine ⟨k + nl p.num.natAbs + nl p.den, fun q hq => ?_⟩
  rcases List.mem_cons.1 hq with h | h
  ·subst h; exact ⟨by omega, by omega⟩
  ·exact (hk q h).mono (by omega)
theorem PL.any {P : List Rat} (h : ptrim P = P) : ∃ k, PL (Abs.ev P) P.length k P := by
 obtain ⟨k, hk⟩ := qs_any P
 exact ⟨k, h, fun _ => rfl, Nat.le_refl _, hk⟩
theorem tr_inj {P Q : List Rat} (hP : ptrim P = P) (hQ : ptrim Q = Q) (h : ∀ x, Abs.ev P x = Abs.ev Q x) : P = Q := by
 obtain ⟨k, h1⟩ := PL.any hP
 obtain ⟨l, h2⟩ := PL.any hQ
 exact h1.inj h2 h
theorem tr_nil {P : List Rat} (hP : ptrim P = P) (h : ∀ x, Abs.ev P x = 0) : P = [] := tr_inj hP (Q := []) rfl h
theorem tr_last {P : List Rat} (hP : ptrim P = P) (h : P ≠ []) : P.getD (P.length - 1) 0 ≠ 0 := by
 obtain ⟨k, h1⟩ := PL.any hP
 exact h1.last h
theorem tr_len {P B R : List Rat} (hP : ptrim P = P) (hB : ptrim B = B) (hR : ptrim R = R) (he : ∀ x, Abs.ev R x = Abs.ev P x * Abs.ev B x) (h1 : P ≠ []) (h2 : B ≠ []) : R.length + 1 = P.length + B.length := by
 obtain ⟨k, p1⟩ := PL.any hP
 obtain ⟨l, p2⟩ := PL.any hB
 obtain ⟨m, p3⟩ := PL.any hR
 have := PL.mul_len p1 p2 p3 he h1 h2
 have l1 : P.length ≠ 0 := fun h => h1 (List.length_eq_zero_iff.1 h)
 have l2 : B.length ≠ 0 := fun h => h2 (List.length_eq_zero_iff.1 h)
 omega
theorem div_uniq {B Q R Q' R' : List Rat} (hQ : ptrim Q = Q) (hR : ptrim R = R) (hQ' : ptrim Q' = Q') (hR' : ptrim R' = R') (hB : ptrim B = B) (h1 : R.length < B.length) (h2 : R'.length < B.length)
  (h : ∀ x, Abs.ev Q x * Abs.ev B x + Abs.ev R x = Abs.ev Q' x * Abs.ev B x + Abs.ev R' x) : Q = Q' /\ R = R' := by
 have hB0 : B ≠ [] := fun h0 => by rw [h0] at h1; simp at h1
 have e1 : ∀ x, Abs.ev (ptrim (ladd Q (lsc (-1) Q'))) x * Abs.ev B x = Abs.ev (ptrim (pshift R' (-1) R 0)) x := fun x => by
  rw [qbe, qbe, qbn, qa4, ev_shift]; have := h x; grind
 have hz : ptrim (ladd Q (lsc (-1) Q')) = [] := by
  rcases Classical.em (ptrim (ladd Q (lsc (-1) Q')) = []) with h0 | h0
  ·exact h0
  ·have := tr_len (ptrim_idem _) hB (ptrim_idem _) (fun x => (e1 x).symm) h0 hB0
   have l1 : (ptrim (ladd Q (lsc (-1) Q'))).length ≠ 0 := fun h => h0 (List.length_eq_zero_iff.1 h)
   have l2 := ptrim_len (pshift R' (-1) R 0)
   rw [pshift_len] at l2
   omega
 have e2 : ∀ x, Abs.ev Q x = Abs.ev Q' x := fun x => by
  have : Abs.ev (ptrim (ladd Q (lsc (-1) Q'))) x = 0 := by rw [hz]; rfl
  rw [qbe, qbn, qa4] at this
  grind
 refine ⟨tr_inj hQ hQ' e2, tr_inj hR hR' fun x => ?_⟩
 have := h x
 rw [e2 x] at this
 grind
def Dv (D A : List Rat) : Prop := ∃ H : List Rat, ∀ x, Abs.ev A x = Abs.ev H x * Abs.ev D x
theorem Dv.refl (A : List Rat) : Dv A A := ⟨[1], fun x => by simp only [Abs.ev]; grind⟩
theorem Dv.trans {A B C : List Rat} (h1 : Dv A B) (h2 : Dv B C) : Dv A C := by
 obtain ⟨H, h1⟩ := h1
 obtain ⟨K, h2⟩ := h2
 exact ⟨lmul K H, fun x => by rw [h2, h1, qal]; grind⟩
theorem Dv.zero {D A : List Rat} (h : ∀ x, Abs.ev A x = 0) : Dv D A := ⟨[], fun x => by rw [h]; simp only [Abs.ev]; grind⟩
theorem Dv.congr {D A D' A' : List Rat} (h : Dv D A) (h1 : ∀ x, Abs.ev D x = Abs.ev D' x) (h2 : ∀ x, Abs.ev A x = Abs.ev A' x) : Dv D' A' := by
 obtain ⟨H, h⟩ := h
 exact ⟨H, fun x => by rw [<- h2, h, h1]⟩
theorem Dv.lin {D A B C U V : List Rat} (h1 : Dv D A) (h2 : Dv D B) (h : ∀ x, Abs.ev C x = Abs.ev U x * Abs.ev A x + Abs.ev V x * Abs.ev B x) : Dv D C := by
 obtain ⟨H, h1⟩ := h1
 obtain ⟨K, h2⟩ := h2
 exact ⟨ladd (lmul U H) (lmul V K), fun x => by rw [h, h1, h2, qbn, qal, qal]; grind⟩
theorem Dv.scale {D A : List Rat} {c : Rat} (hc : c ≠ 0) (h : Dv D A) : Dv (lsc c D) A := by
 obtain ⟨H, h⟩ := h
 refine ⟨lsc c⁻¹ H, fun x => ?_⟩
 rw [h, qa4, qa4]
 have := Rat.inv_mul_cancel c hc
 grind
theorem Dv.len {D A : List Rat} (hD : ptrim D = D) (hA : ptrim A = A) (h : Dv D A) (h0 : A ≠ []) : D ≠ [] /\ D.length <= A.length := by
 obtain ⟨H, h⟩ := h
 have hD0 : D ≠ [] := fun h1 => h0 (tr_nil hA fun x => by rw [h, h1]; simp only [Abs.ev]; grind)
 have hH0 : ptrim H ≠ [] := fun h1 => h0 (tr_nil hA fun x => by rw [h, <- qbe H, h1]; simp only [Abs.ev]; grind)
 have := tr_len (ptrim_idem H) hD hA (fun x => by rw [h, qbe]) hH0 hD0
 have l1 : (ptrim H).length ≠ 0 := fun h => hH0 (List.length_eq_zero_iff.1 h)
 exact ⟨hD0, by omega⟩
theorem Dv.rest {P B Q R : List Rat} (hQ : ptrim Q = Q) (hR : ptrim R = R) (hB : ptrim B = B) (h1 : R.length < B.length) (h : ∀ x, Abs.ev P x = Abs.ev Q x * Abs.ev B x + Abs.ev R x) (hd : Dv B P) : R = [] := by
 obtain ⟨H, hH⟩ := hd
 exact (div_uniq hQ hR (ptrim_idem H) (R' := []) rfl hB h1 (by simp; omega) (fun x => by rw [<- h, hH, qbe]; simp only [Abs.ev]; grind)).2
def Mon (P : List Rat) : Prop := P ≠ [] /\ P.getD (P.length - 1) 0 = 1
theorem mon_uniq {G K : List Rat} (hG : ptrim G = G) (hK : ptrim K = K) (mG : Mon G) (mK : Mon K) (h1 : Dv G K) (h2 : Dv K G) : G = K := by
 obtain ⟨_, l1⟩ := h1.len hG hK mK.1
 obtain ⟨_, l2⟩ := h2.len hK hG mG.1
 obtain ⟨H, h⟩ := h1
 have hH0 : ptrim H ≠ [] := fun h1 => mK.1 (tr_nil hK fun x => by rw [h, <- qbe H, h1]; simp only [Abs.ev]; grind)
 have hl := tr_len (ptrim_idem H) hG hK (fun x => by rw [h, qbe]) hH0 mG.1
 obtain ⟨c, hc⟩ : ∃ c, ptrim H = [c] := List.length_eq_one_iff.1 (by omega)
 have e : ∀ x, Abs.ev K x = Abs.ev (lsc c G) x := fun x => by rw [h, <- qbe H, hc, qa4]; simp only [Abs.ev]; grind
 have hj := ev_coef e (K.length - 1)
 have hs : (lsc c G).getD (K.length - 1) 0 = c * G.getD (K.length - 1) 0 := by
  rw [List.getD_eq_getElem?_getD, List.getD_eq_getElem?_getD, lsc, List.getElem?_map]
  cases G[K.length - 1]? with
  | none => simp [Rat.mul_zero]
  | some q => simp
 rw [hs, mK.2, show K.length - 1 = G.length - 1 by omega, mG.2, Rat.mul_one] at hj
 refine tr_inj hG hK fun x => ?_
 rw [e, qa4, <- hj, Rat.one_mul]
open Go Go.Abs Go.Abs.M Go.Proofs
theorem cf_take {s n : Nat} {P : List Rat} (h : CF s (fun j => P.getD j 0)) : CF s (fun j => (P.take n).getD j 0) :=
 (h.pick fun j => decide (j < n)).congr fun j => by
  rw [List.getD_eq_getElem?_getD (l := P.take n), List.getElem?_take]
  by_cases hj : j < n
  ·rw [if_pos (decide_eq_true hj), if_pos hj, List.getD_eq_getElem?_getD]
  ·rw [if_neg (by simpa using hj), if_neg hj]; rfl
theorem pb_divmod {f g : Rat -> Rat} {n m s t : Nat} (e : Nat) {P B : List Rat} (hP : PB f n s P) (hB : PB g m t B) (h0 : B ≠ []) (he : P.length + 1 <= B.length + e) (hn : n <= 499) (hm : m <= 499) (hs : s + e * (t + 1) + 2 * t <= 2000000000) :
  ∃ Q R, PB (Abs.ev Q) e (s + e * (t + 1)) Q /\ PB (Abs.ev R) (B.length - 1) (s + e * (t + 1)) R /\ R.length < B.length /\ (∀ x, f x = Abs.ev Q x * g x + Abs.ev R x) /\
   ACall Tryz.prog 15 [.val (tl (ur P)), .val (tl (ur B))] ⟨[.val (tl (ur Q)), .val (tl (ur R)), .val (ti .i64 0)], [none, none]⟩ := by
 have l1 : B.length ≠ 0 := fun h => h0 (List.length_eq_zero_iff.1 h)
 have hPl := hP.len
 have hBl := hB.len
 rcases Nat.lt_or_ge P.length B.length with h | h
 ·refine ⟨[], P, (PB.nil _).mono (Nat.zero_le _) (Nat.le_refl _) |>.congr fun x => rfl, ⟨hP.tr, fun x => rfl, by omega, hP.cf.mono (by omega)⟩, h, fun x => ?_, udivmod_short P B h (by omega)⟩
  rw [hP.ev]; simp only [Abs.ev]; grind
 ·obtain ⟨d, hd⟩ : ∃ d, B.length = d + 1 := ⟨B.length - 1, by omega⟩
  obtain ⟨k, hk⟩ : ∃ k, P.length = k + d := ⟨P.length - d, by omega⟩
  have hL : B.getD d 0 ≠ 0 := by have := tr_last hB.tr h0; rwa [hd, Nat.add_sub_cancel] at this
  have hv := Rat.mul_inv_cancel _ hL
  have hcf := fun j hj => dvT_cf (k := k) hd hv hk hP.cf hB.cf j hj
  have hke : ∀ j, j <= k -> j * (t + 1) <= e * (t + 1) := fun j hj => Nat.mul_le_mul_right _ (by omega)
  obtain ⟨q1, q2, q3⟩ := dvT_spec hd hv hk k (Nat.le_refl _)
  obtain ⟨d1, d2⟩ := dvT_len B d (B.getD d 0)⁻¹ P k k
  have hfk := (hcf k (Nat.le_refl _)).mono (t := s + e * (t + 1)) (by have := hke k (Nat.le_refl _); omega)
  have cl := udivmod_long P B d k ((s + e * (t + 1)) / 32 + 1) (t / 32 + 1) hk hd hL (by omega) (by omega) (fun j hj => cf_qsl ((hcf j hj).left.mono (by have := hke j hj; omega))) (cf_qsl hB.cf) (by omega)
  generalize dvT B d (B.getD d 0)⁻¹ P k k = S at *
  have hev : ∀ x, Abs.ev (S.1.take d) x = Abs.ev S.1 x := ev_ext fun j => by
   by_cases hj : j < d
   ·rw [List.getD_eq_getElem?_getD, List.getElem?_take, if_pos hj, List.getD_eq_getElem?_getD]
   ·rw [List.getD_eq_getElem?_getD, List.getElem?_take, if_neg hj, q2 j (by omega)]; rfl
  refine ⟨_, _, PB.of_trim (P := S.2) (fun x => (qbe S.2 x).symm) (by omega) hfk.right, PB.of_trim (P := S.1.take d) (fun x => (qbe _ x).symm) (by rw [List.length_take]; omega) (cf_take hfk.left), ?_, fun x => ?_, cl⟩
  ·have := ptrim_len (S.1.take d)
   rw [List.length_take] at this; omega
  ·rw [qbe, qbe, hev, <- hP.ev, <- q1 x, <- hB.ev]; grind
theorem pb_valid {f : Rat -> Rat} {n a : Nat} {P : List Rat} (hP : PB f n a P) (hn : n <= 1000) (ha : a <= 2000000000) :
  ACall Tryz.prog 33 [.val (tl (ur P))] ⟨[.val (tb true)], [none]⟩ := pl_valid hP.pl hn (by omega)
theorem pb_same {f g : Rat -> Rat} {n m a b : Nat} {P B : List Rat} (hP : PB f n a P) (hB : PB g m b B) (h : ∀ x, f x = g x) (hn : n <= 1000) (hm : m <= 1000) (hs : a <= 2000000000) :
  ACall Tryz.prog 13 [.val (tl (ur P)), .val (tl (ur B))] ⟨[.val (tb true)], [none, none]⟩ := pl_same hP.pl hB.pl h hn hm (by omega)
open Go Go.Abs Go.Abs.M Go.Proofs
structure IsRem (A B Q : List Rat) (c : Rat) (R : List Rat) : Prop where
 tq : ptrim Q = Q
 tr : ptrim R = R
 len : R.length < B.length
 c0 : c ≠ 0
 eq : ∀ x, c * Abs.ev A x = c * Abs.ev Q x * Abs.ev B x + Abs.ev R x
 nil : R = [] -> c = 1
 mon : R ≠ [] -> Mon R
theorem lsc_get (c : Rat) (P : List Rat) (j : Nat) : (lsc c P).getD j 0 = c * P.getD j 0 := by
 rw [List.getD_eq_getElem?_getD, List.getD_eq_getElem?_getD, lsc, List.getElem?_map]
 cases P[j]? with
 | none => simp [Rat.mul_zero]
 | some q => simp
theorem lsc_len (c : Rat) (P : List Rat) : (lsc c P).length = P.length := by simp [lsc]
theorem lsc_trim {c : Rat} (hc : c ≠ 0) {P : List Rat} (hP : ptrim P = P) : ptrim (lsc c P) = lsc c P := by
 rcases Classical.em (P = []) with h | h
 ·subst h; rfl
 ·refine tlen_top (fun h1 => h (by simpa [lsc] using h1)) ?_
  rw [lsc_len, lsc_get]
  intro h1
  rcases Rat.mul_eq_zero.1 h1 with h2 | h2
  ·exact hc h2
  ·exact tr_last hP h h2
theorem IsRem.uniq {A B Q Q' R R' : List Rat} {c c' : Rat} (hB : ptrim B = B) (h : IsRem A B Q c R) (h' : IsRem A B Q' c' R') : Q = Q' /\ c = c' /\ R = R' := by
 have i1 := Rat.inv_mul_cancel c h.c0
 have i2 := Rat.inv_mul_cancel c' h'.c0
 have n1 : c⁻¹ ≠ 0 := fun h0 => by rw [h0, Rat.zero_mul] at i1; exact absurd i1 (by decide)
 have n2 : c'⁻¹ ≠ 0 := fun h0 => by rw [h0, Rat.zero_mul] at i2; exact absurd i2 (by decide)
 have e : ∀ {c : Rat} {Q R : List Rat}, IsRem A B Q c R -> ∀ x, Abs.ev A x = Abs.ev Q x * Abs.ev B x + Abs.ev (lsc c⁻¹ R) x := fun {c Q R} h x => by
  have i1 := Rat.inv_mul_cancel c h.c0
  have := h.eq x
  rw [qa4]
  grind
 obtain ⟨hQ, hR⟩ := div_uniq h.tq (lsc_trim n1 h.tr) h'.tq (lsc_trim n2 h'.tr) hB (by rw [lsc_len]; exact h.len) (by rw [lsc_len]; exact h'.len) fun x => by rw [<- e h, <- e h']
 have hl : R.length = R'.length := by have := congrArg List.length hR; rwa [lsc_len, lsc_len] at this
 have hcc : c = c' := by
  rcases Classical.em (R = []) with h0 | h0
  ·have h0' : R' = [] := List.length_eq_zero_iff.1 (by rw [<- hl, h0]; rfl)
   rw [h.nil h0, h'.nil h0']
  ·have h0' : R' ≠ [] := fun h1 => h0 (List.length_eq_zero_iff.1 (by rw [hl, h1]; rfl))
   have m1 := (h.mon h0).2
   have m2 := (h'.mon h0').2
   have g := congrArg (fun l => l.getD (R.length - 1) 0) hR
   simp only [lsc_get] at g
   rw [m1, hl, m2, Rat.mul_one, Rat.mul_one] at g
   rw [<- Rat.inv_inv c, <- Rat.inv_inv c', g]
 refine ⟨hQ, hcc, tr_inj h.tr h'.tr fun x => ?_⟩
 have h1 := h.eq x
 have h2 := h'.eq x
 rw [<- hQ, <- hcc] at h2
 grind
inductive Eu : List Rat -> List Rat -> List Rat -> List Rat -> List Rat -> List Rat -> List Rat -> Prop
 | nil (A U N : List Rat) : Eu A [] U N A U N
 | step {A B U N Q R N' G V K : List Rat} {c : Rat} : B ≠ [] -> IsRem A B Q c R -> ptrim N' = N' -> (∀ x, Abs.ev N' x = c * (Abs.ev U x - Abs.ev Q x * Abs.ev N x)) -> Eu B R N N' G V K -> Eu A B U N G V K
theorem Eu.inv {A B U N G V K : List Rat} (h : Eu A B U N G V K) : (B = [] /\ G = A /\ V = U /\ K = N) ∨ (B ≠ [] /\ ∃ Q R N' c, IsRem A B Q c R /\ ptrim N' = N' /\ (∀ x, Abs.ev N' x = c * (Abs.ev U x - Abs.ev Q x * Abs.ev N x)) /\ Eu B R N N' G V K) := by
 cases h with
 | nil => exact .inl ⟨rfl, rfl, rfl, rfl⟩
 | step h1 h2 h3 h4 h5 => exact .inr ⟨h1, _, _, _, _, h2, h3, h4, h5⟩
theorem Eu.dvd {A B U N G V K : List Rat} (h : Eu A B U N G V K) : Dv G A /\ Dv G B /\ ∀ D, Dv D A -> Dv D B -> Dv D G := by
 induction h with
 | nil A U N => exact ⟨Dv.refl _, Dv.zero fun x => rfl, fun D h _ => h⟩
 | @step A B U N Q R N' G V K c h1 h2 h3 h4 h5 ih =>
  obtain ⟨i1, i2, i3⟩ := ih
  have ic := Rat.inv_mul_cancel c h2.c0
  refine ⟨Dv.lin (U := Q) (V := [c⁻¹]) i1 i2 fun x => ?_, i1, fun D d1 d2 => i3 D d2 (Dv.lin (U := [c]) (V := lsc (-c) Q) d1 d2 fun x => ?_)⟩
  ·have := h2.eq x; simp only [Abs.ev]; grind
  ·have := h2.eq x; rw [qa4]; simp only [Abs.ev]; grind
structure EuI (W V : Nat) (A B U N : List Rat) : Prop where
 ta : ptrim A = A
 tb : ptrim B = B
 tu : ptrim U = U
 tn : ptrim N = N
 sz : ∃ s, CF s (fun j => A.getD j 0) /\ CF s (fun j => B.getD j 0) /\ (s + 1) * (A.length + 1 - B.length + 1) * 3 ^ B.length <= W
 szu : ∃ v, CF v (fun j => U.getD j 0) /\ CF v (fun j => N.getD j 0) /\ (v + 4 * W + 4) * 2 ^ B.length <= V
 lu : U.length + (A.length + 1 - B.length) + 2 * B.length <= 200
 ln : N.length + (A.length + 1 - B.length) + 2 * B.length <= 200
 la : A.length <= 200
theorem three_pow (d : Nat) (h : 1 <= d) : d + 2 <= 3 ^ d := by
 induction d with
 | zero => omega
 | succ d ih =>
  rcases Nat.eq_zero_or_pos d with h0 | h0
  ·subst h0; decide
  ·have := ih h0; rw [Nat.pow_succ]; omega
theorem urecip_call {f : Rat -> Rat} {n s : Nat} {P : List Rat} (hP : PB f n s P) (h0 : P ≠ []) (hn : n <= 1000) (hs : s <= 2000000000) :
  ACall Tryz.prog 30 [.val (tl (ur P))] ⟨[.val (.agg (qc (P.getD (P.length - 1) 0)⁻¹).row)], [none]⟩ := by
 have hl := hP.len
 have hm0 : P.length ≠ 0 := fun h => h0 (List.length_eq_zero_iff.1 h)
 obtain ⟨L, hL⟩ : ∃ L, L = P.getD (P.length - 1) 0 := ⟨_, rfl⟩
 have hL0 := tr_last hP.tr h0
 have hPi : P[P.length - 1]? = some L := by rw [hL, List.getD_eq_getElem?_getD, List.getElem?_eq_getElem (by omega)]; rfl
 rw [<- hL] at hL0
 obtain ⟨hq, ci⟩ := pinv_row hL0 (cf_qsl hP.cf L (List.mem_of_getElem? hPi)) (by omega)
 rw [<- hL]
 obtain ⟨s, t, r, p, hrow, _⟩ := qrow L
 obtain ⟨s2, t2, r2, p2, hrow2, _⟩ := qrow L⁻¹
 rw [hrow, hrow2] at ci
 rw [hrow2]
 have hX := qbx hPi
 have lX := qaf P
 rw [hrow] at hX
 generalize P.length = m at *
 generalize ur P = X at *
 refine callZ ccOk mixed [.val] Tryz.func30 rfl rfl (by kernel_rfl) fun zA zB zC zD zE zF zG zH zI zJ zK zL zM zN zO zP zQ zR zS zT zU zV zX zY zZ za zb zc zd ze zg zh zi zj zk zl zm zn zo zq zr zt zu zw zx zy zz zW zth A L F hS hF => ?_
 have e1 : zM (zY (zh X)) 0 = false := by rw [hS.eq, hS.ofN, hS.len, lX]; exact decide_eq_false (by omega)
 obtain ⟨J, hJ, j1⟩ : ∃ J : Int, J = ((m - 1 : Nat) : Int) /\ zA .i64 (zC (zY (zh X)) 1) = J := ⟨(m : Int) - 1, by omega, by rw [hS.ofN, hS.len, lX, hS.sub, hS.wrap, wrap_i64 (by omega) (by omega)]⟩
 have g1 : zP 0 J = true := by rw [hS.le]; exact decide_eq_true (by omega)
 have hz : zi X (zV J) = some [.v (.bool s), .lst false r, .v (.bool t), .lst false p] := by rw [hS.nat, hJ, Int.toNat_natCast, hS.nth, hX]
 cbv
 refine bF e1 ?_
 rw [j1, hz]
 cbv
 refine nd (g1) ?_
 refine ⟨_, hS.call (ci), ?_⟩
 cbv
 exact hF _ (ResLe.refl _)
theorem eu_step {W V : Nat} {A B U N : List Rat} (h : EuI W V A B U N) (hB : B ≠ []) (hW : W <= 400000000) :
  ∃ Q R c R', IsRem A B Q c R' /\ R'.length = R.length /\ R.length < B.length /\ (∃ s, CF s (fun j => R'.getD j 0) /\ CF s (fun j => B.getD j 0) /\ CF s (fun _ => c) /\ CF s (fun j => Q.getD j 0) /\ s <= W /\ (s + 1) * (B.length + 1 - R'.length + 1) * 3 ^ R'.length <= W) /\ Q.length <= A.length + 1 - B.length /\ Q.length <= W /\
   ACall Tryz.prog 15 [.val (tl (ur A)), .val (tl (ur B))] ⟨[.val (tl (ur Q)), .val (tl (ur R)), .val (ti .i64 0)], [none, none]⟩ /\
   (R = [] -> R' = [] /\ c = 1) /\ (R ≠ [] -> ACall Tryz.prog 30 [.val (tl (ur R))] ⟨[.val (.agg (qc c).row)], [none]⟩ /\ ACall Tryz.prog 29 [.val (.agg (qc c).row), .val (tl (ur R))] ⟨[.val (tl (ur R'))], [none, none]⟩) := by
 obtain ⟨s, c1, c2, c3⟩ := h.sz
 have hB1 : B.length ≠ 0 := fun h0 => hB (List.length_eq_zero_iff.1 h0)
 have hla := h.la
 have hlu := h.lu
 obtain ⟨e, he⟩ : ∃ e, e = A.length + 1 - B.length := ⟨_, rfl⟩
 rw [<- he] at c3 hlu ⊢
 have p3 : 1 <= 3 ^ B.length := Nat.one_le_pow _ _ (by omega)
 have w1 : (s + 1) * (e + 1) <= W := by
  have := Nat.mul_le_mul_left ((s + 1) * (e + 1)) p3
  omega
 have e1 : (s + 1) * (e + 1) = s + e * (s + 1) + 1 := by rw [Nat.mul_comm, Nat.succ_mul]; omega
 have w2 : s + 1 <= (s + 1) * (e + 1) := Nat.le_mul_of_pos_right _ (by omega)
 have w3 : e + 1 <= (s + 1) * (e + 1) := Nat.le_mul_of_pos_left _ (by omega)
 obtain ⟨Q, R, hQ, hR, hlt, heq, cd⟩ := pb_divmod e (⟨h.ta, fun x => rfl, Nat.le_refl _, c1⟩ : PB (Abs.ev A) A.length s A) (⟨h.tb, fun x => rfl, Nat.le_refl _, c2⟩ : PB (Abs.ev B) B.length s B) hB (by omega) (by omega) (by omega) (by omega)
 generalize hS : s + e * (s + 1) = S at *
 have hpot : ∀ r, r < B.length -> (S + 1) * (B.length + 1 - r + 1) * 3 ^ r <= W := fun r hr => by
  have t := three_pow (B.length - r) (by omega)
  have t2 : 3 ^ (B.length - r) * 3 ^ r = 3 ^ B.length := by rw [<- Nat.pow_add, Nat.sub_add_cancel (by omega)]
  have t3 : (B.length + 1 - r + 1) * 3 ^ r <= 3 ^ B.length := by rw [<- t2]; exact Nat.mul_le_mul_right _ (by omega)
  rw [Nat.mul_assoc]
  exact Nat.le_trans (Nat.mul_le_mul_left _ t3) (by rw [<- e1]; exact c3)
 rcases Classical.em (R = []) with h0 | h0
 ·refine ⟨Q, R, 1, [], ⟨hQ.tr, rfl, by simp; omega, by decide, fun x => ?_, fun _ => rfl, fun h => absurd rfl h⟩, by rw [h0], hlt, ⟨S, ?_, c2.mono (by omega), ?_, hQ.cf, by omega, hpot 0 (by omega)⟩, hQ.len, by have := hQ.len; omega, cd, fun _ => ⟨rfl, rfl⟩, fun h => absurd h0 h⟩
  ·have := heq x; rw [h0] at this; simp only [Abs.ev] at this ⊢; grind
  ·exact (CF.zero S).congr fun j => by simp
  ·exact (CF.whole (n := 1) (s := S) (by have := two_pow_pos S; omega) (by have := two_pow_pos S; omega)).congr fun j => rfl
 ·have hL := tr_last hR.tr h0
  have hlR : R.length ≠ 0 := fun h1 => h0 (List.length_eq_zero_iff.1 h1)
  obtain ⟨L, hLe⟩ : ∃ L, L = R.getD (R.length - 1) 0 := ⟨_, rfl⟩
  have hcl : CF S (fun _ => L) := by rw [hLe]; exact hR.cf.comp fun _ => R.length - 1
  rw [<- hLe] at hL
  have ci := urecip_call hR h0 (by omega) (by omega)
  rw [<- hLe] at ci
  obtain ⟨R', hR', cs⟩ := pb_scale (hcl.inv hL) hR (by omega) (by omega)
  have hi := Rat.inv_mul_cancel L hL
  have hi0 : L⁻¹ ≠ 0 := fun h1 => by rw [h1, Rat.zero_mul] at hi; exact absurd hi (by decide)
  have hR'e : R' = lsc L⁻¹ R := tr_inj hR'.tr (lsc_trim hi0 hR.tr) fun x => by rw [hR'.ev, qa4]
  have hR'l : R'.length = R.length := by rw [hR'e, lsc_len]
  have hR'c : CF S (fun j => R'.getD j 0) := by
   have := hR.cf.div (R.length - 1) (by show R.getD _ 0 ≠ 0; rw [<- hLe]; exact hL)
   rw [<- hLe] at this
   exact this.congr fun j => by rw [hR'e, lsc_get]
  refine ⟨Q, R, L⁻¹, R', ⟨hQ.tr, hR'.tr, by omega, hi0, fun x => ?_, fun h1 => absurd (List.length_eq_zero_iff.1 (by rw [<- hR'l, h1]; rfl)) h0, fun h1 => ⟨h1, ?_⟩⟩, hR'l, hlt, ⟨S, hR'c, c2.mono (by omega), hcl.inv hL, hQ.cf, by omega, hpot _ (by omega)⟩, hQ.len, by have := hQ.len; omega, cd, fun h1 => absurd h1 h0, fun _ => ⟨ci, cs⟩⟩
  ·have := heq x; rw [hR'.ev]; grind
  ·rw [hR'e, lsc_get, lsc_len, <- hLe, hi]
theorem EuI.next {W V : Nat} {A B U N Q R' N' : List Rat} {c : Rat} (h : EuI W V A B U N) (hB : B ≠ []) (hr : IsRem A B Q c R') (hs : ∃ s, CF s (fun j => R'.getD j 0) /\ CF s (fun j => B.getD j 0) /\ CF s (fun _ => c) /\ CF s (fun j => Q.getD j 0) /\ s <= W /\ (s + 1) * (B.length + 1 - R'.length + 1) * 3 ^ R'.length <= W)
  (hq : Q.length <= A.length + 1 - B.length) (hN : ptrim N' = N') (hl : N'.length <= max U.length (Q.length + N.length - 1)) (hv : ∀ v, CF v (fun j => U.getD j 0) -> CF v (fun j => N.getD j 0) -> CF (2 * v + 4 * W + 1) (fun j => N'.getD j 0)) : EuI W V B R' N N' := by
 obtain ⟨s, s1, s2, s3, s4, s5, s6⟩ := hs
 obtain ⟨v, v1, v2, v3⟩ := h.szu
 have hlt := hr.len
 have a1 := h.lu
 have a2 := h.ln
 have a3 := h.la
 refine ⟨h.tb, hr.tr, h.tn, hN, ⟨s, s2, s1, s6⟩, ⟨2 * v + 4 * W + 1, v2.mono (by omega), hv v v1 v2, ?_⟩, by omega, by omega, by omega⟩
 have e : 2 ^ B.length = 2 * 2 ^ (B.length - 1) := by rw [<- Nat.pow_succ']; congr 1; omega
 have p : 2 ^ R'.length <= 2 ^ (B.length - 1) := Nat.pow_le_pow_right (by omega) (by omega)
 rw [e, <- Nat.mul_assoc] at v3
 exact Nat.le_trans (Nat.mul_le_mul_left _ p) (Nat.le_trans (Nat.mul_le_mul_right _ (by omega)) v3)
open Go Go.Abs Go.Abs.M Go.Proofs
theorem ugcdstep_call (Q : Abs.Rows) (s t : Bool) (r p : Abs.Rows) : ACall Tryz.prog 35 [.val (tl Q), .val (.agg [.v (.bool s), .lst false r, .v (.bool t), .lst false p])] ⟨[], [none, none]⟩ := by
 refine callZ ccOk mixed [] Tryz.func35 rfl rfl (by kernel_rfl) fun zA zB zC zD zE zF zG zH zI zJ zK zL zM zN zO zP zQ zR zS zT zU zV zX zY zZ za zb zc zd ze zg zh zi zj zk zl zm zn zo zq zr zt zu zw zx zy zz zW zth A L F hS hF => ?_
 cbv
 exact hF _ (ResLe.refl _)
def ueuSt (X Y : Abs.Rows) : St := mkSt 37 [.c (.t (.lst false X)), .c (.t (.lst false Y)), .c (.t (.v (.func (.func 35) #[] #[])))] [none, none, none]
theorem eu_round0 {W V : Nat} (hW : W <= 400000000) {A B G X K : List Rat} (hI : EuI W V A B [] []) (hE : Eu A B [] [] G X K) (hB : B ≠ []) :
  ∃ Q R c R', EuI W V B R' [] [] /\ Eu B R' [] [] G X K /\ R'.length = R.length /\ R'.length < B.length /\
   ACall Tryz.prog 15 [.val (tl (ur A)), .val (tl (ur B))] ⟨[.val (tl (ur Q)), .val (tl (ur R)), .val (ti .i64 0)], [none, none]⟩ /\
   (R = [] -> R' = [] /\ c = 1) /\ (R ≠ [] -> ACall Tryz.prog 30 [.val (tl (ur R))] ⟨[.val (.agg (qc c).row)], [none]⟩ /\ ACall Tryz.prog 29 [.val (.agg (qc c).row), .val (tl (ur R))] ⟨[.val (tl (ur R'))], [none, none]⟩) := by
 rcases hE.inv with ⟨h, _⟩ | ⟨_, Q2, R2, N2, d, e1, e2, e3, e4⟩
 ·exact absurd h hB
 obtain ⟨Q, R, c, R', hr, hl, hlt, hs, hq, hqW, cd, r0, r1⟩ := eu_step hI hB hW
 obtain ⟨u1, u2, u3⟩ := e1.uniq hI.tb hr
 subst u1 u2 u3
 have u4 : N2 = [] := tr_nil e2 fun x => by rw [e3]; simp only [Abs.ev]; grind
 subst u4
 exact ⟨Q2, R, d, R2, hI.next hB hr hs hq rfl (Nat.zero_le _) (fun v _ _ => (CF.zero _).congr fun j => by simp), e4, hl, by omega, cd, r0, r1⟩
theorem eu_run0 {W V : Nat} (hW : W <= 400000000) : ∀ (l : Nat) (A B : List Rat), B.length <= l -> EuI W V A B [] [] -> ∃ G X K, Eu A B [] [] G X K /\ ptrim G = G /\ CF W (fun j => G.getD j 0) /\ G.length <= 200 := by
 have stop : ∀ (A : List Rat), EuI W V A [] [] [] -> ∃ G X K, Eu A [] [] [] G X K /\ ptrim G = G /\ CF W (fun j => G.getD j 0) /\ G.length <= 200 := fun A h => by
  obtain ⟨s, c1, c2, c3⟩ := h.sz
  have a3 := h.la
  simp only [List.length_nil, Nat.pow_zero, Nat.mul_one] at c3
  have : s + 1 <= (s + 1) * (A.length + 1 - 0 + 1) := Nat.le_mul_of_pos_right _ (by omega)
  exact ⟨A, [], [], .nil A [] [], h.ta, c1.mono (by omega), a3⟩
 intro l
 induction l with
 | zero =>
  intro A B hl h
  have : B = [] := List.length_eq_zero_iff.1 (by omega)
  subst this
  exact stop A h
 | succ l ih =>
  intro A B hl h
  rcases Classical.em (B = []) with h0 | h0
  ·subst h0; exact stop A h
  ·obtain ⟨Q, R, c, R', hr, _, hlt, hs, hq, hqW, _⟩ := eu_step h h0 hW
   have hl' := hr.len
   obtain ⟨G, X, K, e, rest⟩ := ih B R' (by omega) (h.next h0 hr hs hq rfl (Nat.zero_le _) (fun v _ _ => (CF.zero _).congr fun j => by simp))
   exact ⟨G, X, K, .step h0 hr rfl (fun x => by simp only [Abs.ev]; grind) e, rest⟩
theorem ueuclid_gcd {W V : Nat} (hW : W <= 400000000) {A0 B0 G X K : List Rat} (hI : EuI W V A0 B0 [] []) (hE : Eu A0 B0 [] [] G X K) :
  ACall Tryz.prog 34 [.val (tl (ur A0)), .val (tl (ur B0)), .val (.c (.v (.func (.func 35) #[] #[])))] ⟨[.val (tl (ur G))], [none, none, none]⟩ := by
 obtain ⟨T, hT⟩ : ∃ T, T = ur G := ⟨_, rfl⟩
 obtain ⟨P, hP⟩ : ∃ T, T = ur A0 := ⟨_, rfl⟩
 obtain ⟨S, hS0⟩ : ∃ T, T = ur B0 := ⟨_, rfl⟩
 rw [<- hT, <- hP, <- hS0]
 refine callZ ccOk mixed [.val] Tryz.func34 rfl rfl (by kernel_rfl) fun zA zB zC zD zE zF zG zH zI zJ zK zL zM zN zO zP zQ zR zS zT zU zV zX zY zZ za zb zc zd ze zg zh zi zj zk zl zm zn zo zq zr zt zu zw zx zy zz zW zth A L F hS hF => ?_
 cbv
 refine loopZ ccOk mixed hS (fun (i : Nat) s' => ∃ (A' B' : List Rat) (X' Y : Abs.Rows), B'.length = i /\ EuI W V A' B' [] [] /\ Eu A' B' [] [] G X K /\ X' = ur A' /\ Y = ur B' /\ s' = ueuSt X' Y) (n := B0.length) (s0 := ueuSt P S) (qat ?_ ?_) rfl (by show 3 <= 3; omega) ?_ ?_
 ·simp [leT, ueuSt, mkSt]
 ·simp [leH, ueuSt, mkSt]
 ·exact ⟨A0, B0, P, S, rfl, hI, hE, hP, hS0, rfl⟩
 ·rintro i s1 ⟨A', B', X', Y, hi, hI', hE', hX, hY, hs1⟩
  by_cases hB : B' = []
  ·subst hB
   have hG : X' = T := by
    rcases hE'.inv with ⟨_, h, _⟩ | ⟨h, _⟩
    ·rw [hX, hT, h]
    ·exact absurd rfl h
   have l1 : zO 0 (zY (zh Y)) = false := by rw [hS.lt, hS.ofN, hS.len, hY, qaf]; rfl
   subst hG
   subst hs1
   cbv
   refine bF l1 ?_
   exact hF _ (ResLe.refl _)
  ·obtain ⟨Q, R, c, R', hI2, hE2, hl, hlt, cd, r0, r1⟩ := eu_round0 hW hI' hE' hB
   have hB1 : B'.length ≠ 0 := fun h0 => hB (List.length_eq_zero_iff.1 h0)
   have hlt' : R'.length < B'.length := hlt
   have hYl : Y.length = B'.length := by rw [hY, qaf]
   have hRl : (ur R).length = R.length := qaf R
   have hmm : R'.length < i := by omega
   obtain ⟨s, t, r, p, hrow, _⟩ := qrow c
   obtain ⟨s1, t1, r1', p1, hrow1, _⟩ := qrow 1
   have cw := pwhole_row 1 (by omega) (by omega)
   rw [show ((1 : Int) : Rat) = 1 from rfl, hrow1] at cw
   rw [<- hX, <- hY] at cd
   have l1 : zO 0 (zY (zh Y)) = true := by rw [hS.lt, hS.ofN, hS.len, hYl]; exact decide_eq_true (by omega)
   have cst := ugcdstep_call (ur Q) s t r p
   by_cases hR : R = []
   ·obtain ⟨r01, r02⟩ := r0 hR
    have l2 : zO 0 (zY (zh (ur R))) = false := by rw [hS.lt, hS.ofN, hS.len, hRl, hR]; rfl
    have hrr : ur R = ur R' := by rw [hR, r01]
    have e1 : [Tree.v (.bool s), .lst false r, .v (.bool t), .lst false p] = [Tree.v (.bool s1), .lst false r1', .v (.bool t1), .lst false p1] := by rw [<- hrow, <- hrow1, r02]
    rw [e1] at cst
    have hnx : ∃ (A' B'' : List Rat) (X' Y' : Abs.Rows), B''.length = R'.length /\ EuI W V A' B'' [] [] /\ Eu A' B'' [] [] G X K /\ X' = ur A' /\ Y' = ur B'' /\ ueuSt Y (ur R) = ueuSt X' Y' := ⟨B', R', Y, ur R', rfl, hI2, hE2, hY, rfl, by rw [hrr]⟩
    generalize ur R = UR at *
    generalize ur Q = UQ at *
    subst hs1
    cbv
    refine bT l1 ?_
    refine ⟨_, hS.call (cd), ?_⟩
    cbv
    refine ⟨_, hS.call (cw), ?_⟩
    cbv
    refine bF (l2) ?_
    refine ⟨_, hS.call (cst), ?_⟩
    cbv
    exact again (s' := ueuSt Y UR) (m := R'.length) (by simp [leT, ueuSt, mkSt]) (by simp [leH, ueuSt, mkSt]) rfl (by show 3 <= 3; omega) hmm hnx
   ·obtain ⟨r11, r12⟩ := r1 hR
    have hR1 : R.length ≠ 0 := fun h0 => hR (List.length_eq_zero_iff.1 h0)
    have l2 : zO 0 (zY (zh (ur R))) = true := by rw [hS.lt, hS.ofN, hS.len, hRl]; exact decide_eq_true (by omega)
    rw [hrow] at r11 r12
    have hnx : ∃ (A' B'' : List Rat) (X' Y' : Abs.Rows), B''.length = R'.length /\ EuI W V A' B'' [] [] /\ Eu A' B'' [] [] G X K /\ X' = ur A' /\ Y' = ur B'' /\ ueuSt Y (ur R') = ueuSt X' Y' := ⟨B', R', Y, ur R', rfl, hI2, hE2, hY, rfl, rfl⟩
    generalize ur R = UR at *
    generalize ur Q = UQ at *
    generalize ur R' = UR' at *
    subst hs1
    cbv
    refine bT l1 ?_
    refine ⟨_, hS.call (cd), ?_⟩
    cbv
    refine ⟨_, hS.call (cw), ?_⟩
    cbv
    refine bT (l2) ?_
    refine ⟨_, hS.call (r11), ?_⟩
    cbv
    refine ⟨_, hS.call (r12), ?_⟩
    cbv
    refine ⟨_, hS.call (cst), ?_⟩
    cbv
    exact again (s' := ueuSt Y UR') (m := R'.length) (by simp [leT, ueuSt, mkSt]) (by simp [leH, ueuSt, mkSt]) rfl (by show 3 <= 3; omega) hmm hnx
open Go Go.Abs Go.Abs.M Go.Proofs
structure IsG (A B G : List Rat) : Prop where
 tr : ptrim G = G
 da : Dv G A
 db : Dv G B
 gr : ∀ D, Dv D A -> Dv D B -> Dv D G
 mon : G ≠ [] -> Mon G
theorem IsG.uniq {A B G H : List Rat} (h : IsG A B G) (h' : IsG A B H) : G = H := by
 have d1 := h'.gr G h.da h.db
 have d2 := h.gr H h'.da h'.db
 rcases Classical.em (G = []) with h0 | h0
 ·obtain ⟨K, hK⟩ := d1
  rw [h0]
  exact (tr_nil h'.tr fun x => by rw [hK, h0]; simp only [Abs.ev]; grind).symm
 rcases Classical.em (H = []) with h1 | h1
 ·obtain ⟨K, hK⟩ := d2
  exact absurd (tr_nil h.tr fun x => by rw [hK, h1]; simp only [Abs.ev]; grind) h0
 exact mon_uniq h.tr h'.tr (h.mon h0) (h'.mon h1) d1 d2
theorem IsG.symm {A B G : List Rat} (h : IsG A B G) : IsG B A G := ⟨h.tr, h.db, h.da, fun D a b => h.gr D b a, h.mon⟩
theorem IsG.nil {A B G : List Rat} (hA : ptrim A = A) (hB : ptrim B = B) (h : IsG A B G) : G = [] ↔ A = [] /\ B = [] := by
 refine ⟨fun h0 => ?_, fun ⟨h1, h2⟩ => ?_⟩
 ·obtain ⟨K, hK⟩ := h.da
  obtain ⟨L, hL⟩ := h.db
  exact ⟨tr_nil hA fun x => by rw [hK, h0]; simp only [Abs.ev]; grind, tr_nil hB fun x => by rw [hL, h0]; simp only [Abs.ev]; grind⟩
 ·obtain ⟨K, hK⟩ := h.gr [] (h1 ▸ Dv.refl []) (h2 ▸ Dv.refl [])
  exact tr_nil h.tr fun x => by rw [hK]; simp only [Abs.ev]; grind
theorem eu_start {W s n : Nat} {A B : List Rat} (hA : ptrim A = A) (hB : ptrim B = B) (cA : CF s (fun j => A.getD j 0)) (cB : CF s (fun j => B.getD j 0)) (hn : A.length <= n) {m : Nat} (hm : B.length <= m) (hW : (s + 1) * (n + 2) * 3 ^ m <= W) (hl : n + 2 * m <= 190) {v V : Nat} {U N : List Rat} (hU : ptrim U = U) (hN : ptrim N = N) (cU : CF v (fun j => U.getD j 0)) (cN : CF v (fun j => N.getD j 0)) (lU : U.length <= 1) (lN : N.length <= 1) (hV : (v + 4 * W + 4) * 2 ^ m <= V) : EuI W V A B U N :=
 ⟨hA, hB, hU, hN, ⟨s, cA, cB, Nat.le_trans (Nat.mul_le_mul (Nat.mul_le_mul_left _ (by omega)) (Nat.pow_le_pow_right (by omega) hm)) hW⟩, ⟨v, cU, cN, Nat.le_trans (Nat.mul_le_mul_left _ (Nat.pow_le_pow_right (by omega) hm)) hV⟩, by omega, by omega, by omega⟩
theorem isg_of {A B U N X K R G : List Rat} (hE : Eu A B U N R X K) (hG : ptrim G = G) (hR : ptrim R = R) (h1 : R = [] -> G = []) (h2 : R ≠ [] -> ∀ x, Abs.ev G x = (R.getD (R.length - 1) 0)⁻¹ * Abs.ev R x) : IsG A B G := by
 obtain ⟨d1, d2, d3⟩ := hE.dvd
 rcases Classical.em (R = []) with h0 | h0
 ·have hG0 := h1 h0
  rw [hG0, <- h0]
  exact ⟨hR, d1, d2, d3, fun h => absurd h0 h⟩
 ·have hL := tr_last hR h0
  have hi := Rat.inv_mul_cancel _ hL
  generalize hLe : R.getD (R.length - 1) 0 = L at *
  have hi0 : L⁻¹ ≠ 0 := fun h1 => by rw [h1, Rat.zero_mul] at hi; exact absurd hi (by decide)
  have hGe : G = lsc L⁻¹ R := tr_inj hG (lsc_trim hi0 hR) fun x => by rw [h2 h0, qa4]
  refine ⟨hG, hGe ▸ d1.scale hi0, hGe ▸ d2.scale hi0, fun D e1 e2 => ?_, fun h => ⟨h, ?_⟩⟩
  ·exact Dv.lin (U := [L⁻¹]) (V := []) (d3 D e1 e2) (d3 D e1 e2) fun x => by rw [h2 h0]; simp only [Abs.ev]; grind
  ·rw [hGe, lsc_get, lsc_len, hLe, hi]
theorem pb_gcd {f g : Rat -> Rat} {n m s : Nat} {A0 B0 : List Rat} (W : Nat) (hA : PB f n s A0) (hB : PB g m s B0) (hW : (s + 1) * (n + 2) * 3 ^ m <= W) (hW2 : W <= 400000000) (hl : n + 2 * m <= 190) :
  ∃ G, IsG A0 B0 G /\ CF W (fun j => G.getD j 0) /\ G.length <= 200 /\ ACall Tryz.prog 10 [.val (tl (ur A0)), .val (tl (ur B0))] ⟨[.val (tl (ur G))], [none, none]⟩ := by
 have hz : ∀ v, CF v (fun j => ([] : List Rat).getD j 0) := fun v => (CF.zero v).congr fun j => by simp
 have hI : EuI W ((0 + 4 * W + 4) * 2 ^ m) A0 B0 [] [] := eu_start hA.tr hB.tr hA.cf hB.cf hA.len hB.len hW hl rfl rfl (hz 0) (hz 0) (Nat.zero_le _) (Nat.zero_le _) (Nat.le_refl _)
 obtain ⟨R, X, K, hE, tR, cR, lR⟩ := eu_run0 hW2 _ A0 B0 (Nat.le_refl _) hI
 have ce := ueuclid_gcd hW2 hI hE
 have hm : ∃ G, ptrim G = G /\ (R = [] -> G = []) /\ (R ≠ [] -> ∀ x, Abs.ev G x = (R.getD (R.length - 1) 0)⁻¹ * Abs.ev R x) /\ CF W (fun j => G.getD j 0) /\ G.length <= 200 /\ ACall Tryz.prog 14 [.val (tl (ur R))] ⟨[.val (tl (ur G))], [none]⟩ := by
  rcases Classical.em (R = []) with h0 | h0
  ·subst h0
   exact ⟨[], rfl, fun _ => rfl, fun h => absurd rfl h, hz W, Nat.zero_le _, umonic_nil⟩
  ·have hP : PB (Abs.ev R) 200 W R := ⟨tR, fun x => rfl, lR, cR⟩
   obtain ⟨G, hG, cG⟩ := pl_monic hP.pl h0 (by omega) (by omega)
   refine ⟨G, hG.tr, fun h => absurd h h0, fun _ => hG.ev, ?_, hG.len, cG⟩
   have hL := tr_last tR h0
   exact (cR.div (R.length - 1) hL).congr fun j => by
    rw [ev_coef (P := G) (Q := lsc (R.getD (R.length - 1) 0)⁻¹ R) (fun x => by rw [hG.ev, qa4]) j, lsc_get]
 obtain ⟨G, tG, g1, g2, cG, lG, cm⟩ := hm
 refine ⟨G, isg_of hE tG tR g1 g2, cG, lG, ?_⟩
 generalize ur A0 = X1 at *
 generalize ur B0 = X2 at *
 generalize ur R = X3 at *
 generalize ur G = X4 at *
 refine callZ ccOk mixed [.val] Tryz.func10 rfl rfl (by kernel_rfl) fun zA zB zC zD zE zF zG zH zI zJ zK zL zM zN zO zP zQ zR zS zT zU zV zX zY zZ za zb zc zd ze zg zh zi zj zk zl zm zn zo zq zr zt zu zw zx zy zz zW zth A L F hS hF => ?_
 cbv
 refine ⟨_, hS.call (ce), ?_⟩
 cbv
 refine ⟨_, hS.call (cm), ?_⟩
 cbv
 exact hF _ (ResLe.refl _)
open Go Go.Abs Go.Abs.M Go.Proofs
open Go Go.Abs Go.Abs.M Go.Proofs
open Go Go.Abs Go.Abs.M Go.Proofs
def RW.pl (x : RW) : RW := ⟨x.n, x.d, 0⟩
theorem RW.pl_ok {x : RW} (h : x.ok) : x.pl.ok := ⟨h.n1, h.n2, h.d1, h.d2, by show (0 : Int) <= 0; omega, by show (0 : Int) < 256; omega⟩
theorem rwrows_app (xs : List RW) (x : RW) : rwrows (xs ++ [x]) = rwrows xs ++ [x.row] := by simp [rwrows]
theorem rwrows_len (xs : List RW) : (rwrows xs).length = xs.length := by simp [rwrows]
def rplSt (R : Abs.Rows) (D : Int) (len : Nat) (r : Abs.Rows) (i : Int) : St := mkSt 31 [.c (.t (.lst false R)), vi .i64 D, .junk, .junk, .junk, .c (.sl 2 0 len false), vi .i64 i] [none, none, some (.rows 3 r true false)]
theorem rplain_call (xs : List RW) (hx : ∀ x ∈ xs, x.ok) (D : Int) (hD : 0 <= D) (hD2 : D <= 100) (hlx : xs.length * 3 <= 140737488355328) :
  ACall Tryz.prog 5 [.val (tl (rwrows xs)), .val (ti .i64 D)] ⟨[.val (tl (ur (ptrim (((xs.map RW.pl).take (D.toNat + 1)).map RW.q))))], [none, none]⟩ := by
 have cmd := umade_call (xs.map RW.pl) (fun x hx' => by obtain ⟨y, hy, rfl⟩ := List.mem_map.1 hx'; exact RW.pl_ok (hx y hy)) D hD hD2 (by rw [List.length_map]; omega)
 obtain ⟨R, hR⟩ : ∃ R, R = rwrows xs := ⟨_, rfl⟩
 obtain ⟨n, hn⟩ : ∃ n, n = xs.length := ⟨_, rfl⟩
 obtain ⟨ys, hys⟩ : ∃ ys, ys = xs.map RW.pl := ⟨_, rfl⟩
 rw [<- hys] at cmd ⊢
 have hRl : R.length = n := by rw [hR, hn]; simp [rwrows]
 have hget : ∀ i, i < n -> ∃ x : RW, ys[i]? = some x.pl /\ R[i]? = some x.row := fun i hi => by
  have h : xs[i]? = some xs[i] := List.getElem?_eq_getElem (by omega)
  have h2 : (rwrows xs)[i]? = some (xs[i]).row := by simp [rwrows, h]
  rw [<- hR] at h2
  exact ⟨_, by rw [hys, List.getElem?_map, h]; rfl, h2⟩
 have hyl : ys.length = n := by rw [hys, List.length_map, hn]
 rw [<- hR]
 generalize hT : ur (ptrim ((ys.take (D.toNat + 1)).map RW.q)) = T at *
 rw [<- hn] at hlx
 clear hR hx hys
 refine callZ ccOk mixed [.val] Tryz.func5 rfl rfl (by kernel_rfl) fun zA zB zC zD zE zF zG zH zI zJ zK zL zM zN zO zP zQ zR zS zT zU zV zX zY zZ za zb zc zd ze zg zh zi zj zk zl zm zn zo zq zr zt zu zw zx zy zz zW zth A L F hS hF => ?_
 have hlx2 : zh R = n := by rw [hS.len, hRl]
 obtain ⟨N, hN, hN2⟩ : ∃ N : Int, N = n /\ zY (zh R) = N := ⟨_, rfl, by rw [hlx2, hS.ofN]⟩
 cbv
 have hN : N = (n : Int) := hN
 refine loopZR ccOk mixed hS (fun (m : Nat) s' => ∃ (i : Nat) (I : Int) (r : Abs.Rows), I = i /\ i + m = n /\ r = rwrows (ys.take i) /\ s' = rplSt R D i r I) (n := n) (s0 := rplSt R D 0 [] 0) (qat ?_ ?_) rfl (by show 2 <= 3; omega) ?_ ?_
 ·simp [leT, rplSt, mkSt, vi, vb]
 ·simp [leH, rplSt, mkSt]
 ·exact ⟨0, 0, [], rfl, by omega, rfl, rfl⟩
 ·rintro m s1 ⟨i, I, r, hI, him, hr, hs1⟩
  have hrl : r.length = i := by rw [hr, rwrows_len, List.length_take]; omega
  by_cases hi : i < n
  ·have l1 : zO I (zY (zh R)) = true := by rw [hN2, hS.lt]; exact decide_eq_true (by omega)
   obtain ⟨x, hxi, hnth⟩ := hget i hi
   have g1 : zP 0 I = true := by rw [hS.le]; exact decide_eq_true (by omega)
   have hz : zi R (zV I) = some [.v (.int .i8 x.n), .v (.int .i8 x.d), .v (.int .u8 x.k)] := by rw [hS.nat, hI, Int.toNat_natCast, hS.nth, hnth]; rfl
   obtain ⟨row, hrw⟩ : ∃ row, row = [Tree.v (.int .i8 x.n), .v (.int .i8 x.d), .v (.int .u8 0)] := ⟨_, rfl⟩
   have hr4 : row.length = 3 := by rw [hrw]; rfl
   have u0 : zo [row] 0 1 = [row] := by rw [hS.part]; rfl
   have u1 : zn 0 1 [row] = true := by rw [hS.fit]; rfl
   have u2 : zQ (za (zh [row]) 0) = true := by rw [hS.len, hS.neq, hS.not]; rfl
   have u3 : zu 3 [row] = true := by rw [hS.wide]; simp [hr4]
   have u4 : ze i (zh [row]) 3 = true := by rw [hS.len, hS.room]; exact decide_eq_true (by unfold capBytes; simp only [List.length_cons, List.length_nil]; omega)
   have u5 : za (zb 0 i) (zh r) = true := by rw [hS.nadd, hS.neq, hS.len, hrl, Nat.zero_add]; exact decide_eq_true rfl
   have u6 : zb i (zh [row]) = i + 1 := by rw [hS.len, hS.nadd]; rfl
   obtain ⟨r2, hr2⟩ : ∃ r2, r2 = rwrows (ys.take (i + 1)) := ⟨_, rfl⟩
   have u7 : zq r 0 [row] = r2 := by
    rw [hS.ext, List.drop_zero, hr, hr2, List.take_add_one, hxi, Option.toList_some, rwrows_app, hrw]; rfl
   obtain ⟨I', hI', i1⟩ : ∃ I' : Int, I' = ((i + 1 : Nat) : Int) /\ zA .i64 (zB I 1) = I' := ⟨I + 1, by omega, by rw [hS.add, hS.wrap, wrap_i64 (by omega) (by omega)]⟩
   have hmm : m - 1 < m := by omega
   have hnx : ∃ (i2 : Nat) (I2 : Int) (r' : Abs.Rows), I2 = i2 /\ i2 + (m - 1) = n /\ r' = rwrows (ys.take i2) /\ rplSt R D (i + 1) r2 I' = rplSt R D i2 r' I2 := ⟨i + 1, I', r2, hI', by omega, hr2, rfl⟩
   clear hget hr hr2 hrl
   subst hs1
   cbv
   refine bT l1 ?_
   rw [hz]
   cbv
   refine nd (g1) ?_
   rw [hz]
   cbv
   refine nd (g1) ?_
   rw [<- hrw, u0]
   refine nd (u1) ?_
   refine nd (u2) ?_
   refine nd (u3) ?_
   refine nd (u4) ?_
   refine nd (u5) ?_
   refine againR [(2, 4)] (s' := rplSt R D (i + 1) r2 I') (k := m - 1) ?_ ?_ ?_ ?_ rfl (by show 2 <= 3; omega) hmm hnx
   ·simp [leTR, rplSt, mkSt, vi, AV.ren, AV.noTup, Cell.ren, renF, i1, u6]
   ·simp [leHR, rplSt, mkSt, Abs.look, renF, Blk.ren, u7]
   ·simp [liveR, rplSt, mkSt]
   ·simp
  ·have l1 : zO I (zY (zh R)) = false := by rw [hN2, hS.lt]; exact decide_eq_false (by omega)
   have hrT : r = rwrows ys := by rw [hr, show i = ys.length by omega, List.take_length]
   rw [<- hrT] at cmd
   have f1 : zn 0 i r = true := by rw [hS.fit]; exact decide_eq_true (by omega)
   have f2 : zo r 0 i = r := by rw [hS.part, List.drop_zero, List.take_of_length_le (by omega)]
   clear hget hr
   subst hs1
   cbv
   refine bF l1 (nd f1 ?_)
   rw [f2]
   refine ⟨_, hS.call (cmd), ?_⟩
   cbv
   exact hF _ (ResLe.refl _)
end Go.Proofs.YtbeakmahabhacaaGreat
end
