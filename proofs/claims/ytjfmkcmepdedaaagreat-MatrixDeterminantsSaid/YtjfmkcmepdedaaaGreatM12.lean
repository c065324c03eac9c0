/-
  A part of the proof: MxO1k.
-/
import Derived.Test.YtjfmkcmepdedaaaGreatM11
set_option maxHeartbeats 0
set_option maxRecDepth 100000
set_option linter.unusedVariables false
set_option linter.unusedSimpArgs false
set_option linter.unusedSectionVars false
section
namespace Go.Proofs.YtjfmkcmepdedaaaGreat
open Go Go.Abs Go.Abs.M Go.Proofs
theorem mclone_own (P : List Rat) (c : Nat) (hL : P.length = c + 1) (hP : P.length <= 1000) : ACall Tryz.prog 56 [.bor 4 (ur P)] ⟨[.own 4 (ur P)], [some (.rows 4 (ur P) false false)]⟩ := by
 obtain ⟨X, hX⟩ : ∃ X, X = ur P := ⟨_, rfl⟩
 have lX : X.length = c + 1 := by rw [hX, qap, hL]
 have w4 : (X.all fun r => r.length == 4) = true := by
  rw [hX]
  refine List.all_eq_true.2 fun r hr => ?_
  obtain ⟨c, _, rfl⟩ := List.mem_map.1 hr
  rfl
 rw [<- hX]
 refine callZ ccOk mixed [.own 4] Tryz.func56 rfl rfl (by kernel_rfl) fun zA zB zC zD zE zF zG zH zI zJ zK zL zM zN zO zP zQ zR zT zU zV zX zY zZ zb zc zd ze zg zh zi zj zk zl zm zn zo zq zr zs zt zu zx zy zz zmget zmset zW zth A L F hS hF => ?_
 have e0 : zj X = c + 1 := by rw [hS.len, lX]
 have e1 : zr X 0 (Nat.succ c) = X := by rw [hS.part, List.drop_zero, List.take_of_length_le (by omega)]
 have e2 : zc (zj X) 0 = false := by rw [hS.len, hS.neq]; exact decide_eq_false (by omega)
 have e3 : zq 0 (Nat.succ c) X = true := by rw [hS.fit]; exact decide_eq_true (by omega)
 have e4 : zQ (zc (zj X) 0) = true := by rw [e2, hS.not]; rfl
 have e5 : zx 4 X = true := by rw [hS.wide]; exact w4
 have e6 : zh 0 (zj X) 64 = true := by rw [hS.len, hS.room]; exact decide_eq_true (by unfold capBytes; omega)
 have e7 : zc (zd 0 0) (zj []) = true := by rw [hS.nadd, hS.len, hS.neq]; rfl
 have e8 : zs [] 0 X = X := by rw [hS.ext]; rfl
 have e9 : zc (zd 0 (zj X)) (zj (zs [] 0 X)) = true := by rw [e8, hS.nadd, hS.neq, Nat.zero_add]; exact decide_eq_true rfl
 have e10 : zc (zj X) (zj X) = true := by rw [hS.neq]; exact decide_eq_true rfl
 cbv
 rw [e0]
 cbv
 rw [e1]
 refine bF rfl (bF e2 (nd e3 (nd e4 (nd e5 (nd e6 (nd e7 (nd e9 (nd e10 ?_))))))))
 rw [e8]
 exact hF _ (ResLe.refl _)
theorem mwidth_own (n w : Nat) (hn : n <= 4) (h0 : n = 0 -> w = 0) (X : Nat -> Abs.Rows) : HCall Tryz.prog 80 ⟨[.c (.sl 0 0 n false)], mrh n w X⟩ ⟨[vi .i64 (w : Int)], mrh n w X⟩ := by
 obtain ⟨T, hT⟩ : ∃ T : Int, T = (w : Int) := ⟨_, rfl⟩
 rw [<- hT]
 by_cases hn0 : n = 0
 ·subst hn0
  refine hcallZ ccOk mixed Tryz.func80 rfl rfl (by kernel_rfl) rfl (by simp [mrh]) fun zA zB zC zD zE zF zG zH zI zJ zK zL zM zN zO zP zQ zR zT zU zV zX zY zZ zb zc zd ze zg zh zi zj zk zl zm zn zo zq zr zs zt zu zx zy zz zmget zmset zW zth A L G hS hG => ?_
  obtain rfl : zZ = fun a : Nat => (a : Int) := by funext a; exact hS.ofN a
  have e1 : zM (Int.ofNat 0) 0 = true := by rw [hS.eq]; rfl
  have hT0 : T = 0 := by rw [hT, h0 rfl]; rfl
  cbv
  refine bT e1 ?_
  refine endR hG [] ?_ ?_ ?_ ?_
  ·simp [leTR, vi, AV.ren, AV.noTup, Cell.ren, hT0]
  ·simp [leHR, mrh, Abs.look, renF, Blk.ren, Cell.ren, List.range, List.range.loop]
  ·simp [liveR, mrh, List.range, List.range.loop]
  ·simp
 ·obtain rfl | rfl | rfl | rfl : n = 1 ∨ n = 2 ∨ n = 3 ∨ n = 4 := by omega
  all_goals
   refine hcallZ ccOk mixed Tryz.func80 rfl rfl (by kernel_rfl) rfl (by simp [mrh]) fun zA zB zC zD zE zF zG zH zI zJ zK zL zM zN zO zP zQ zR zT zU zV zX zY zZ zb zc zd ze zg zh zi zj zk zl zm zn zo zq zr zs zt zu zx zy zz zmget zmset zW zth A L G hS hG => ?_
   obtain rfl : zZ = fun a : Nat => (a : Int) := by funext a; exact hS.ofN a
   have e1 : ∀ c : Nat, zM (Int.ofNat (c + 1)) 0 = false := fun c => by rw [hS.eq]; exact decide_eq_false (show ¬(((c + 1 : Nat) : Int) = 0) by omega)
   cbv
   refine bF (e1 _) ?_
   refine endR hG [] ?_ ?_ ?_ ?_
   ·simp [leTR, vi, AV.ren, AV.noTup, Cell.ren, hT]
   ·simp [leHR, mrh, Abs.look, renF, Blk.ren, Cell.ren, List.range, List.range.loop]
   ·simp [liveR, mrh, renF, List.range, List.range.loop]
   ·simp
def mqoSt (n i w : Nat) (X : Nat -> Abs.Rows) (I : Int) : St := mkSt 26 [.junk, .c (.t (.v (.func (.func 56) #[] #[]))), .junk, .junk, .junk, .c (.sl (n + 1) 0 n false), .junk, .junk, .junk, .junk, .junk, .c (.sl 0 0 n false), vi .i64 n, vi .i64 I] (mrh n w X ++ mqh n i (n + 2) w X)
theorem mqapp_own (n : Nat) (hn : n <= 4) (M : Nat -> List Rat) (w : Nat) (hw : w < 1000) (hl : ∀ i, i < n -> (M i).length = w + 1) {X : Nat -> Abs.Rows} (hX : ∀ i, i < n -> X i = ur (M i)) :
  HCall Tryz.prog 55 ⟨[.c (.sl 0 0 n false), .c (.t (.v (.func (.func 56) #[] #[])))], mrh n (w + 1) X⟩ ⟨[.c (.sl (n + 1) 0 n false)], mrh n (w + 1) X ++ mqh n n (n + 2) (w + 1) X⟩ := by
 have c : ∀ i, i < n -> (X i).length = w + 1 /\ ACall Tryz.prog 56 [.bor 4 (X i)] ⟨[.own 4 (X i)], [some (.rows 4 (X i) false false)]⟩ := fun i hi => ⟨by rw [hX i hi, qap, hl i hi], by rw [hX i hi]; exact mclone_own _ w (hl i hi) (by rw [hl i hi]; omega)⟩
 clear hX hl
 obtain ⟨v, hv1⟩ : ∃ v, v = w + 1 := ⟨_, rfl⟩
 rw [<- hv1] at c ⊢
 clear hv1
 have L4 : LN n := trivial
 obtain ⟨N, hN⟩ : ∃ N, N = n := ⟨_, rfl⟩
 rw [<- hN] at c
 obtain rfl | rfl | rfl | rfl | rfl : n = 0 ∨ n = 1 ∨ n = 2 ∨ n = 3 ∨ n = 4 := by omega
 all_goals
  refine hcallZ ccOk mixed Tryz.func55 rfl rfl (by kernel_rfl) rfl (by simp [mqh, mrh]) fun zA zB zC zD zE zF zG zH zI zJ zK zL zM zN zO zP zQ zR zT zU zV zX zY zZ zb zc zd ze zg zh zi zj zk zl zm zn zo zq zr zs zt zu zx zy zz zmget zmset zW zth A L G hS hG => ?_
  obtain rfl : zZ = fun a : Nat => (a : Int) := by funext a; exact hS.ofN a
  have hv : L4.v = N := hN.symm
  have kk : ∀ a : Nat, zX (Int.ofNat a) = a := fun a => by rw [hS.nat]; rfl
  have km : zi (Int.ofNat L4.v) (Int.ofNat L4.v) 24 = true := by rw [hS.mkok]; exact decide_eq_true (by unfold capBytes; simp [LN.v])
  cbv
  refine nd km ?_
  rw [kk]
  refine loopZR ccOk mixed hS (fun (m : Nat) s' => ∃ (i : Nat) (I : Int), I = i /\ m + i = N /\ s' = mqoSt L4.v i v X I) (n := N) (s0 := mqoSt L4.v 0 v X 0) (qav ?_ ?_) rfl (by simp [mqoSt, mkSt, mqh, mrh, LN.v]) ?_ ?_
  ·simp [leT, mqoSt, mkSt, vi, vb, LN.v]
  ·simp [leH, mqoSt, mkSt, mqh, mrh, LN.v, List.range, List.range.loop, List.replicate]
  ·exact ⟨0, 0, rfl, by omega, rfl⟩
  ·rintro m s1 ⟨i, I, hI, hm, hs1⟩
   by_cases hi : i < N
   ·have l1 : zO I (L4.v : Int) = true := by rw [hS.lt]; exact decide_eq_true (by omega)
    obtain ⟨lX, ci⟩ := c i hi
    have f1 : zq 0 v (X i) = true := by rw [hS.fit]; exact decide_eq_true (by omega)
    have p1 : zr (X i) 0 v = X i := by rw [hS.part, List.drop_zero, List.take_of_length_le (by omega)]
    have g1 : zc (zj (X i)) v = true := by rw [hS.len, hS.neq]; exact decide_eq_true lX
    have g2 : zt (X i) 0 (X i) = X i := by rw [hS.setg]; simp [setRange, lX]
    have z : zj (X i) = v := by rw [hS.len, lX]
    obtain ⟨I', hI', i1⟩ : ∃ I' : Int, I' = ((i + 1 : Nat) : Int) /\ zA .i64 (zB I 1) = I' := ⟨I + 1, by omega, by rw [hS.add, hS.wrap, wrap_i64 (by omega) (by omega)]⟩
    have i2 : zA .i64 (zB (Int.ofNat i) 1) = I' := by rw [<- i1, hI]; rfl
    have hnx : ∃ (i3 : Nat) (I3 : Int), I3 = i3 /\ (m - 1) + i3 = N /\ mqoSt L4.v (i + 1) v X I' = mqoSt L4.v i3 v X I3 := ⟨i + 1, I', hI', by omega, rfl⟩
    have hmm : m - 1 < m := by omega
    clear c lX i1 hI'
    obtain rfl | rfl | rfl | rfl : i = 0 ∨ i = 1 ∨ i = 2 ∨ i = 3 := by omega
    all_goals first | (exfalso; omega) | skip
    all_goals
     subst hI
     subst hs1
     cbv
     refine bT l1 ?_
     refine nd f1 ?_
     rw [p1]
     refine ⟨_, hS.call (ci), ?_⟩
     cbv
     refine nd (g1) ?_
     refine againR [] (s' := mqoSt L4.v (_ + 1) v X I') (k := m - 1) ?_ ?_ ?_ ?_ rfl (by simp [mqoSt, mkSt, mqh, mrh, LN.v]) hmm hnx
     ·rw [i2]; simp [leTR, mqoSt, mkSt, vi, AV.ren, AV.noTup, Cell.ren, renF, LN.v, z]
     ·simp [leHR, mqoSt, mkSt, mqh, mrh, Abs.look, renF, Blk.ren, Cell.ren, LN.v, List.range, List.range.loop, z, g2]
     ·simp [liveR, mqoSt, mkSt, renF, mqh, mrh, LN.v, List.range, List.range.loop]
     ·simp
   ·have l1 : zO I (L4.v : Int) = false := by rw [hS.lt]; exact decide_eq_false (by omega)
    obtain rfl : i = N := by omega
    clear c
    subst hN
    subst hI
    subst hs1
    cbv
    refine bF l1 ?_
    refine endR hG [] ?_ ?_ ?_ ?_
    ·simp [leTR, AV.ren, AV.noTup, Cell.ren, renF]
    ·simp [leHR, Abs.look, renF, Blk.ren, Cell.ren, mqh, mrh, List.range, List.range.loop]
    ·simp [liveR, renF, mqh, mrh, List.range, List.range.loop]
    ·simp
end Go.Proofs.YtjfmkcmepdedaaaGreat
end
