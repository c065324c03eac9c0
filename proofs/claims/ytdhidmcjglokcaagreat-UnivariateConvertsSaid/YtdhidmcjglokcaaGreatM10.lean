/-
  A part of the proof: DmT07, EvlD07, EvlE07, RupA07, GcdM07, RupB07, UcvA07, UcvB07, RupC07, RupD07, RupE07, ResA07, ResB07, ResC07, ResD07, GcdN07, GcdP07, ResE07, BezT07, BezP07, UplB07.
-/
import Derived.Test.YtdhidmcjglokcaaGreatM9
set_option maxHeartbeats 0
set_option maxRecDepth 100000
set_option linter.unusedVariables false
set_option linter.unusedSimpArgs false
set_option linter.unusedSectionVars false
section
namespace Go.Proofs.YtdhidmcjglokcaaGreat
open Go Go.Abs Go.Abs.M Go.Proofs
theorem pb_made (xs : List RW) (hx : ∀ x ∈ xs, x.ok) (D : Nat) (hD2 : D <= 100) (hlx : xs.length < 9223372036854775808) :
  ∃ P, PB (Abs.ev P) (D + 1) ((D + 1) * (32 * 8)) P /\ ACall Tryz.prog 15 [.val (tl (rwrows xs)), .val (ti .i64 (D : Int))] ⟨[.val (tl (ur P))], [none, none]⟩ := by
 obtain ⟨P, f, h, c⟩ := pl_made xs hx D hD2 hlx
 exact ⟨P, (PB.of_pl_any h).congr fun x => (h.ev x).symm, c⟩
theorem pb_same {f g : Rat -> Rat} {n m a b : Nat} {P B : List Rat} (hP : PB f n a P) (hB : PB g m b B) (h : ∀ x, f x = g x) (hn : n <= 1000) (hm : m <= 1000) (hs : a <= 2000000000) :
  ACall Tryz.prog 19 [.val (tl (ur P)), .val (tl (ur B))] ⟨[.val (tb true)], [none, none]⟩ := pl_same hP.pl hB.pl h hn hm (by omega)
open Go Go.Abs Go.Abs.M Go.Proofs
open Go Go.Abs Go.Abs.M Go.Proofs
open Go Go.Abs Go.Abs.M Go.Proofs
open Go Go.Abs Go.Abs.M Go.Proofs
structure IsRem (A B Q : List Rat) (c : Rat) (R : List Rat) : Prop where
 tq : ptrim Q = Q
 tr : ptrim R = R
 len : R.length < B.length
 c0 : c ≠ 0
 eq : ∀ x, c * Abs.ev A x = c * Abs.ev Q x * Abs.ev B x + Abs.ev R x
 nil : R = [] -> c = 1
 mon : R ≠ [] -> Mon R
structure EuI (W V : Nat) (A B U N : List Rat) : Prop where
 ta : ptrim A = A
 tb : ptrim B = B
 tu : ptrim U = U
 tn : ptrim N = N
 sz : ∃ s, CF s (fun j => A.getD j 0) /\ CF s (fun j => B.getD j 0) /\ (s + 1) * (A.length + 1 - B.length + 1) * 3 ^ B.length <= W
 szu : ∃ v, CF v (fun j => U.getD j 0) /\ CF v (fun j => N.getD j 0) /\ (v + 4 * W + 4) * 2 ^ B.length <= V
 lu : U.length + (A.length + 1 - B.length) + 2 * B.length <= 200
 ln : N.length + (A.length + 1 - B.length) + 2 * B.length <= 200
 la : A.length <= 200
theorem EuI.next {W V : Nat} {A B U N Q R' N' : List Rat} {c : Rat} (h : EuI W V A B U N) (hB : B ≠ []) (hr : IsRem A B Q c R') (hs : ∃ s, CF s (fun j => R'.getD j 0) /\ CF s (fun j => B.getD j 0) /\ CF s (fun _ => c) /\ CF s (fun j => Q.getD j 0) /\ s <= W /\ (s + 1) * (B.length + 1 - R'.length + 1) * 3 ^ R'.length <= W)
  (hq : Q.length <= A.length + 1 - B.length) (hN : ptrim N' = N') (hl : N'.length <= max U.length (Q.length + N.length - 1)) (hv : ∀ v, CF v (fun j => U.getD j 0) -> CF v (fun j => N.getD j 0) -> CF (2 * v + 4 * W + 1) (fun j => N'.getD j 0)) : EuI W V B R' N N' := by
 obtain ⟨s, s1, s2, s3, s4, s5, s6⟩ := hs
 obtain ⟨v, v1, v2, v3⟩ := h.szu
 have hlt := hr.len
 have a1 := h.lu
 have a2 := h.ln
 have a3 := h.la
 refine ⟨h.tb, hr.tr, h.tn, hN, ⟨s, s2, s1, s6⟩, ⟨2 * v + 4 * W + 1, v2.mono (by omega), hv v v1 v2, ?_⟩, by omega, by omega, by omega⟩
 have e : 2 ^ B.length = 2 * 2 ^ (B.length - 1) := by rw [<- Nat.pow_succ']; congr 1; omega
 have p : 2 ^ R'.length <= 2 ^ (B.length - 1) := Nat.pow_le_pow_right (by omega) (by omega)
 rw [e, <- Nat.mul_assoc] at v3
 exact Nat.le_trans (Nat.mul_le_mul_left _ p) (Nat.le_trans (Nat.mul_le_mul_right _ (by omega)) v3)
open Go Go.Abs Go.Abs.M Go.Proofs
open Go Go.Abs Go.Abs.M Go.Proofs
def mrow (i e : Nat) : List Tree := (List.range 8).map fun j => .v (.int .i64 (if j = i then (e : Int) else 0))
def tmT (P : List Rat) (i : Nat) : Nat -> Abs.Rows
 | 0 => []
 | k + 1 => if P.getD (P.length - (k + 1)) 0 = 0 then tmT P i k else tmT P i k ++ [(qc (P.getD (P.length - (k + 1)) 0)).row ++ mrow i (P.length - (k + 1))]
theorem tmT_len (P : List Rat) (i : Nat) : ∀ k, (tmT P i k).length <= k
 | 0 => Nat.le_refl _
 | k + 1 => by
  have h := tmT_len P i k
  unfold tmT; split
  ·omega
  ·rw [List.length_append, List.length_singleton]; omega
def utoS0 (d : Int) (X : Abs.Rows) (i : Int) : St := mkSt 46 [.c (.t (.lst false X)), vi .i64 d, .junk, .junk, .junk, .junk, .c (.t (.lst true [])), vi .i64 i] [none, none]
def utoS1 (d : Int) (X : Abs.Rows) (len : Nat) (r : Abs.Rows) (i : Int) : St := mkSt 46 [.c (.t (.lst false X)), vi .i64 d, .junk, .junk, .junk, .junk, .c (.sl 2 0 len false), vi .i64 i] [none, none, some (.rows 12 r true false)]
theorem usign_row (q : Rat) : ∃ c, (c = 0 ↔ q = 0) /\ ACall Tryz.prog 58 [.val (.agg (qc q).row)] ⟨[.val (ti .i64 c)], [none]⟩ :=
 ⟨cmpI q.num 0, (cmp00 q.num).trans Rat.num_eq_zero, qsign_call _ (qc_isR q).n rfl⟩
theorem uto_call (P : List Rat) (hP : P.length <= 1000) (i : Nat) (hi : i < 8) : ACall Tryz.prog 54 [.val (tl (ur P)), .val (ti .i64 i)] ⟨[.val (tl (tmT P i P.length)), .val (ti .i64 0)], [none, none]⟩ := by
 obtain ⟨n, hn⟩ : ∃ n, n = P.length := ⟨_, rfl⟩
 obtain ⟨X, hX⟩ : ∃ X, X = ur P := ⟨_, rfl⟩
 have lX : X.length = n := by rw [hX, ur_len, hn]
 rw [<- hX]
 obtain ⟨T, hT⟩ : ∃ T, T = tmT P i P.length := ⟨_, rfl⟩
 rw [<- hT]
 rw [<- hn] at hT
 obtain rfl | rfl | rfl | rfl | rfl | rfl | rfl | rfl : i = 0 ∨ i = 1 ∨ i = 2 ∨ i = 3 ∨ i = 4 ∨ i = 5 ∨ i = 6 ∨ i = 7 := by omega
 ·refine callZ ccOk mixed [.val, .val] Tryz.func54 rfl rfl (by kernel_rfl) fun zA zB zC zD zE zF zG zH zI zJ zK zL zM zN zO zP zQ zR zS zT zU zV zX zY zZ za zb zc zd ze zf zg zh zi zj zk zl zm zn zo zp zq zr zs zt zu zw zx zy A L F hS hF => ?_
  have hlx : zg X = n := by rw [hS.len, lX]
  obtain ⟨N, hN, hN2⟩ : ∃ N : Int, N + 1 = n /\ zA .i64 (zC (zY (zg X)) 1) = N := ⟨(n : Int) - 1, by omega, by rw [hlx, hS.ofN, hS.sub, hS.wrap, wrap_i64 (by omega) (by omega)]⟩
  have a1 : zO 0 0 = false := by rw [hS.lt]; rfl
  have a2 : zP 8 0 = false := by rw [hS.le]; rfl
  have a3 : zO 65535 N = false := by rw [hS.lt]; exact decide_eq_false (by omega)
  cbv
  have hN : N + 1 = (n : Int) := hN
  rw [hN2]
  refine bF a1 (bF a2 (bF a3 ?_))
  refine loopZR ccOk mixed hS (fun (m : Nat) s' => ∃ (k : Nat) (I : Int) (r : Abs.Rows), I + 1 = m /\ m + k = n /\ r = tmT P 0 k /\ ((r = [] /\ s' = utoS0 0 X I) ∨ ∃ l, l = r.length /\ s' = utoS1 0 X l r I)) (n := n) (s0 := utoS0 0 X N) (qaj ?_ ?_) rfl (by show 2 <= 2; omega) ?_ ?_
  ·simp [leT, utoS0, mkSt, vi, vb]
  ·simp [leH, utoS0, mkSt]
  ·exact ⟨0, N, [], hN, by omega, rfl, .inl ⟨rfl, rfl⟩⟩
  ·rintro m s1 ⟨k, I, r, hI, hmk, hr, hcase⟩
   by_cases hm : m = 0
   ·have l1 : zP 0 I = false := by rw [hS.le]; exact decide_eq_false (by omega)
    rw [show n = k by omega, <- hr] at hT
    subst hT
    rcases hcase with ⟨hr0, hs1⟩ | ⟨l, hl, hs1⟩
    ·subst hr0
     subst hs1
     cbv
     refine bF l1 ?_
     exact fin2w hF (TLe.drop _ _) (TVLe.refl _)
    ·have f1 : zm 0 l T = true := by rw [hS.fit]; exact decide_eq_true (by omega)
     have f2 : zn T 0 l = T := by rw [hS.part, List.drop_zero, List.take_of_length_le (by omega)]
     subst hs1
     cbv
     refine bF l1 (nd f1 ?_)
     rw [f2]
     exact hF _ (ResLe.refl _)
   ·have l1 : zP 0 I = true := by rw [hS.le]; exact decide_eq_true (by omega)
    obtain ⟨m', rfl⟩ : ∃ m', m = m' + 1 := ⟨m - 1, by omega⟩
    have hIi : I = (m' : Int) := by omega
    obtain ⟨c, hc⟩ : ∃ c, c = P.getD m' 0 := ⟨_, rfl⟩
    have hPi : P[m']? = some c := by rw [hc, List.getD_eq_getElem?_getD, List.getElem?_eq_getElem (by omega)]; rfl
    have hXi : X[m']? = some (qc c).row := by rw [hX]; exact qau hPi
    have hstep : tmT P 0 (k + 1) = if c = 0 then r else r ++ [(qc c).row ++ mrow 0 m'] := by
     rw [tmT, show P.length - (k + 1) = m' by omega, <- hc, hr]
    have hrlen : r.length <= k := by rw [hr]; exact tmT_len P 0 k
    obtain ⟨C, hC, cS⟩ := usign_row c
    obtain ⟨s2, t2, r2, p2, hrow2, _⟩ := qrow c
    rw [hrow2] at hXi cS hstep
    have j1 : zV I = m' := by rw [hS.nat]; omega
    have j2 : zh X m' = some [.v (.bool s2), .lst false r2, .v (.bool t2), .lst false p2] := by rw [hS.nth]; exact hXi
    obtain ⟨I', hI', i1⟩ : ∃ I' : Int, I' + 1 = (m' : Int) /\ zA .i64 (zC I 1) = I' := ⟨I - 1, by omega, by rw [hS.sub, hS.wrap, wrap_i64 (by omega) (by omega)]⟩
    have hmm : m' < m' + 1 := by omega
    by_cases hc0 : c = 0
    ·have q1 : zN C 0 = false := by rw [hS.ne]; exact decide_eq_false (by simp [hC.2 hc0])
     rw [if_pos hc0] at hstep
     rcases hcase with ⟨hr0, hs1⟩ | ⟨l, hl, hs1⟩
     ·have hnx : ∃ (k2 : Nat) (I2 : Int) (r' : Abs.Rows), I2 + 1 = (m' : Int) /\ m' + k2 = n /\ r' = tmT P 0 k2 /\ ((r' = [] /\ utoS0 0 X I' = utoS0 0 X I2) ∨ ∃ l, l = r'.length /\ utoS0 0 X I' = utoS1 0 X l r' I2) := ⟨k + 1, I', r, hI', by omega, hstep.symm, .inl ⟨hr0, rfl⟩⟩
      subst hs1
      cbv
      refine bT l1 ?_
      rw [j1, j2]
      cbv
      refine nd l1 ?_
      refine ⟨_, hS.call (cS), ?_⟩
      cbv
      refine bF q1 ?_
      refine againR [] (s' := utoS0 0 X I') (k := m') ?_ ?_ ?_ ?_ rfl (by show 2 <= 2; omega) hmm hnx
      ·simp [leTR, utoS0, mkSt, vi, AV.ren, AV.noTup, Cell.ren, renF, i1]
      ·simp [leHR, utoS0, mkSt, Abs.look, renF, Blk.ren, Cell.ren]
      ·simp [liveR, utoS0, mkSt, renF]
      ·simp
     ·have hnx : ∃ (k2 : Nat) (I2 : Int) (r' : Abs.Rows), I2 + 1 = (m' : Int) /\ m' + k2 = n /\ r' = tmT P 0 k2 /\ ((r' = [] /\ utoS1 0 X l r I' = utoS0 0 X I2) ∨ ∃ l', l' = r'.length /\ utoS1 0 X l r I' = utoS1 0 X l' r' I2) := ⟨k + 1, I', r, hI', by omega, hstep.symm, .inr ⟨l, hl, rfl⟩⟩
      subst hs1
      cbv
      refine bT l1 ?_
      rw [j1, j2]
      cbv
      refine nd l1 ?_
      refine ⟨_, hS.call (cS), ?_⟩
      cbv
      refine bF q1 ?_
      refine againR [(2, 2)] (s' := utoS1 0 X l r I') (k := m') ?_ ?_ ?_ ?_ rfl (by show 2 <= 3; omega) hmm hnx
      ·simp [leTR, utoS1, mkSt, vi, AV.ren, AV.noTup, Cell.ren, renF, i1]
      ·simp [leHR, utoS1, mkSt, Abs.look, renF, Blk.ren, Cell.ren]
      ·simp [liveR, utoS1, mkSt, renF]
      ·simp
    ·have q1 : zN C 0 = true := by rw [hS.ne]; exact decide_eq_true (fun h => hc0 (hC.1 h))
     rw [if_neg hc0] at hstep
     obtain ⟨l, hl⟩ : ∃ l, l = r.length := ⟨_, rfl⟩
     obtain ⟨row, hrw⟩ : ∃ row, row = [Tree.v (.bool s2), .lst false r2, .v (.bool t2), .lst false p2, .v (.int .i64 I), .v (.int .i64 0), .v (.int .i64 0), .v (.int .i64 0), .v (.int .i64 0), .v (.int .i64 0), .v (.int .i64 0), .v (.int .i64 0)] := ⟨_, rfl⟩
     have hrm : [Tree.v (.bool s2), .lst false r2, .v (.bool t2), .lst false p2] ++ mrow 0 m' = row := by rw [hrw, hIi]; rfl
     rw [hrm] at hstep
     have hr4 : row.length = 12 := by rw [hrw]; rfl
     have u0 : zn [row] 0 1 = [row] := by rw [hS.part]; rfl
     have u1 : zm 0 1 [row] = true := by rw [hS.fit]; rfl
     have u2 : zQ (za (zg [row]) 0) = true := by rw [hS.len, hS.neq, hS.not]; rfl
     have u3 : zr 12 [row] = true := by rw [hS.wide]; simp [hr4]
     have u3' : zr 12 [] = true := by rw [hS.wide]; rfl
     have u4 : ze l (zg [row]) 128 = true := by rw [hS.len, hS.room]; exact decide_eq_true (by unfold capBytes; simp only [List.length_cons, List.length_nil]; omega)
     have u4' : ze (zg []) (zg [row]) 128 = true := by rw [hS.len, hS.len, hS.room]; exact decide_eq_true (by unfold capBytes; simp only [List.length_cons, List.length_nil]; omega)
     have u5 : za (zb 0 l) (zg r) = true := by rw [hS.nadd, hS.neq, hS.len, <- hl, Nat.zero_add]; exact decide_eq_true rfl
     have u6 : zb l (zg [row]) = l + 1 := by rw [hS.len, hS.nadd]; rfl
     have u6' : zb (zg []) (zg [row]) = 1 := by rw [hS.len, hS.len, hS.nadd]; rfl
     have u7 : zo r 0 [row] = r ++ [row] := by rw [hS.ext, List.drop_zero]
     have u7' : zo [] 0 [row] = [row] := by rw [hS.ext]; rfl
     have hl1 : l + 1 = (r ++ [row]).length := by rw [List.length_append, hl]; rfl
     have hnx : ∃ (k2 : Nat) (I2 : Int) (r' : Abs.Rows), I2 + 1 = (m' : Int) /\ m' + k2 = n /\ r' = tmT P 0 k2 /\ ((r' = [] /\ utoS1 0 X (l + 1) (r ++ [row]) I' = utoS0 0 X I2) ∨ ∃ l', l' = r'.length /\ utoS1 0 X (l + 1) (r ++ [row]) I' = utoS1 0 X l' r' I2) := ⟨k + 1, I', r ++ [row], hI', by omega, hstep.symm, .inr ⟨l + 1, hl1, rfl⟩⟩
     rcases hcase with ⟨hr0, hs1⟩ | ⟨l', hl', hs1⟩
     ·subst hr0
      obtain rfl : l = 0 := hl
      subst hs1
      cbv
      refine bT l1 ?_
      rw [j1, j2]
      cbv
      refine nd l1 ?_
      refine ⟨_, hS.call (cS), ?_⟩
      cbv
      refine bT q1 ?_
      rw [j1, j2]
      cbv
      refine nd l1 ?_
      rw [<- hrw, u0]
      refine nd u1 (nd u2 (nd u3 (nd u3' (nd u4' ?_))))
      refine againR [(2, 6)] (s' := utoS1 0 X (0 + 1) ([] ++ [row]) I') (k := m') ?_ ?_ ?_ ?_ rfl (by show 2 <= 3; omega) hmm hnx
      ·simp [leTR, utoS1, mkSt, vi, AV.ren, AV.noTup, Cell.ren, renF, i1, u6']
      ·simp [leHR, utoS1, mkSt, Abs.look, renF, Blk.ren, u7', Cell.ren]
      ·simp [liveR, utoS1, mkSt, renF]
      ·simp
     ·obtain rfl : l' = l := by rw [hl, hl']
      subst hs1
      cbv
      refine bT l1 ?_
      rw [j1, j2]
      cbv
      refine nd l1 ?_
      refine ⟨_, hS.call (cS), ?_⟩
      cbv
      refine bT q1 ?_
      rw [j1, j2]
      cbv
      refine nd l1 ?_
      rw [<- hrw, u0]
      refine nd u1 (nd u2 (nd u3 (nd u4 (nd u5 ?_))))
      refine againR [(2, 7)] (s' := utoS1 0 X (l' + 1) (r ++ [row]) I') (k := m') ?_ ?_ ?_ ?_ rfl (by show 2 <= 3; omega) hmm hnx
      ·simp [leTR, utoS1, mkSt, vi, AV.ren, AV.noTup, Cell.ren, renF, i1, u6]
      ·simp [leHR, utoS1, mkSt, Abs.look, renF, Blk.ren, u7, Cell.ren]
      ·simp [liveR, utoS1, mkSt, renF]
      ·simp
 ·refine callZ ccOk mixed [.val, .val] Tryz.func54 rfl rfl (by kernel_rfl) fun zA zB zC zD zE zF zG zH zI zJ zK zL zM zN zO zP zQ zR zS zT zU zV zX zY zZ za zb zc zd ze zf zg zh zi zj zk zl zm zn zo zp zq zr zs zt zu zw zx zy A L F hS hF => ?_
  have hlx : zg X = n := by rw [hS.len, lX]
  obtain ⟨N, hN, hN2⟩ : ∃ N : Int, N + 1 = n /\ zA .i64 (zC (zY (zg X)) 1) = N := ⟨(n : Int) - 1, by omega, by rw [hlx, hS.ofN, hS.sub, hS.wrap, wrap_i64 (by omega) (by omega)]⟩
  have a1 : zO 1 0 = false := by rw [hS.lt]; rfl
  have a2 : zP 8 1 = false := by rw [hS.le]; rfl
  have a3 : zO 65535 N = false := by rw [hS.lt]; exact decide_eq_false (by omega)
  cbv
  have hN : N + 1 = (n : Int) := hN
  rw [hN2]
  refine bF a1 (bF a2 (bF a3 ?_))
  refine loopZR ccOk mixed hS (fun (m : Nat) s' => ∃ (k : Nat) (I : Int) (r : Abs.Rows), I + 1 = m /\ m + k = n /\ r = tmT P 1 k /\ ((r = [] /\ s' = utoS0 1 X I) ∨ ∃ l, l = r.length /\ s' = utoS1 1 X l r I)) (n := n) (s0 := utoS0 1 X N) (qaj ?_ ?_) rfl (by show 2 <= 2; omega) ?_ ?_
  ·simp [leT, utoS0, mkSt, vi, vb]
  ·simp [leH, utoS0, mkSt]
  ·exact ⟨0, N, [], hN, by omega, rfl, .inl ⟨rfl, rfl⟩⟩
  ·rintro m s1 ⟨k, I, r, hI, hmk, hr, hcase⟩
   by_cases hm : m = 0
   ·have l1 : zP 0 I = false := by rw [hS.le]; exact decide_eq_false (by omega)
    rw [show n = k by omega, <- hr] at hT
    subst hT
    rcases hcase with ⟨hr0, hs1⟩ | ⟨l, hl, hs1⟩
    ·subst hr0
     subst hs1
     cbv
     refine bF l1 ?_
     exact fin2w hF (TLe.drop _ _) (TVLe.refl _)
    ·have f1 : zm 0 l T = true := by rw [hS.fit]; exact decide_eq_true (by omega)
     have f2 : zn T 0 l = T := by rw [hS.part, List.drop_zero, List.take_of_length_le (by omega)]
     subst hs1
     cbv
     refine bF l1 (nd f1 ?_)
     rw [f2]
     exact hF _ (ResLe.refl _)
   ·have l1 : zP 0 I = true := by rw [hS.le]; exact decide_eq_true (by omega)
    obtain ⟨m', rfl⟩ : ∃ m', m = m' + 1 := ⟨m - 1, by omega⟩
    have hIi : I = (m' : Int) := by omega
    obtain ⟨c, hc⟩ : ∃ c, c = P.getD m' 0 := ⟨_, rfl⟩
    have hPi : P[m']? = some c := by rw [hc, List.getD_eq_getElem?_getD, List.getElem?_eq_getElem (by omega)]; rfl
    have hXi : X[m']? = some (qc c).row := by rw [hX]; exact qau hPi
    have hstep : tmT P 1 (k + 1) = if c = 0 then r else r ++ [(qc c).row ++ mrow 1 m'] := by
     rw [tmT, show P.length - (k + 1) = m' by omega, <- hc, hr]
    have hrlen : r.length <= k := by rw [hr]; exact tmT_len P 1 k
    obtain ⟨C, hC, cS⟩ := usign_row c
    obtain ⟨s2, t2, r2, p2, hrow2, _⟩ := qrow c
    rw [hrow2] at hXi cS hstep
    have j1 : zV I = m' := by rw [hS.nat]; omega
    have j2 : zh X m' = some [.v (.bool s2), .lst false r2, .v (.bool t2), .lst false p2] := by rw [hS.nth]; exact hXi
    obtain ⟨I', hI', i1⟩ : ∃ I' : Int, I' + 1 = (m' : Int) /\ zA .i64 (zC I 1) = I' := ⟨I - 1, by omega, by rw [hS.sub, hS.wrap, wrap_i64 (by omega) (by omega)]⟩
    have hmm : m' < m' + 1 := by omega
    by_cases hc0 : c = 0
    ·have q1 : zN C 0 = false := by rw [hS.ne]; exact decide_eq_false (by simp [hC.2 hc0])
     rw [if_pos hc0] at hstep
     rcases hcase with ⟨hr0, hs1⟩ | ⟨l, hl, hs1⟩
     ·have hnx : ∃ (k2 : Nat) (I2 : Int) (r' : Abs.Rows), I2 + 1 = (m' : Int) /\ m' + k2 = n /\ r' = tmT P 1 k2 /\ ((r' = [] /\ utoS0 1 X I' = utoS0 1 X I2) ∨ ∃ l, l = r'.length /\ utoS0 1 X I' = utoS1 1 X l r' I2) := ⟨k + 1, I', r, hI', by omega, hstep.symm, .inl ⟨hr0, rfl⟩⟩
      subst hs1
      cbv
      refine bT l1 ?_
      rw [j1, j2]
      cbv
      refine nd l1 ?_
      refine ⟨_, hS.call (cS), ?_⟩
      cbv
      refine bF q1 ?_
      refine againR [] (s' := utoS0 1 X I') (k := m') ?_ ?_ ?_ ?_ rfl (by show 2 <= 2; omega) hmm hnx
      ·simp [leTR, utoS0, mkSt, vi, AV.ren, AV.noTup, Cell.ren, renF, i1]
      ·simp [leHR, utoS0, mkSt, Abs.look, renF, Blk.ren, Cell.ren]
      ·simp [liveR, utoS0, mkSt, renF]
      ·simp
     ·have hnx : ∃ (k2 : Nat) (I2 : Int) (r' : Abs.Rows), I2 + 1 = (m' : Int) /\ m' + k2 = n /\ r' = tmT P 1 k2 /\ ((r' = [] /\ utoS1 1 X l r I' = utoS0 1 X I2) ∨ ∃ l', l' = r'.length /\ utoS1 1 X l r I' = utoS1 1 X l' r' I2) := ⟨k + 1, I', r, hI', by omega, hstep.symm, .inr ⟨l, hl, rfl⟩⟩
      subst hs1
      cbv
      refine bT l1 ?_
      rw [j1, j2]
      cbv
      refine nd l1 ?_
      refine ⟨_, hS.call (cS), ?_⟩
      cbv
      refine bF q1 ?_
      refine againR [(2, 2)] (s' := utoS1 1 X l r I') (k := m') ?_ ?_ ?_ ?_ rfl (by show 2 <= 3; omega) hmm hnx
      ·simp [leTR, utoS1, mkSt, vi, AV.ren, AV.noTup, Cell.ren, renF, i1]
      ·simp [leHR, utoS1, mkSt, Abs.look, renF, Blk.ren, Cell.ren]
      ·simp [liveR, utoS1, mkSt, renF]
      ·simp
    ·have q1 : zN C 0 = true := by rw [hS.ne]; exact decide_eq_true (fun h => hc0 (hC.1 h))
     rw [if_neg hc0] at hstep
     obtain ⟨l, hl⟩ : ∃ l, l = r.length := ⟨_, rfl⟩
     obtain ⟨row, hrw⟩ : ∃ row, row = [Tree.v (.bool s2), .lst false r2, .v (.bool t2), .lst false p2, .v (.int .i64 0), .v (.int .i64 I), .v (.int .i64 0), .v (.int .i64 0), .v (.int .i64 0), .v (.int .i64 0), .v (.int .i64 0), .v (.int .i64 0)] := ⟨_, rfl⟩
     have hrm : [Tree.v (.bool s2), .lst false r2, .v (.bool t2), .lst false p2] ++ mrow 1 m' = row := by rw [hrw, hIi]; rfl
     rw [hrm] at hstep
     have hr4 : row.length = 12 := by rw [hrw]; rfl
     have u0 : zn [row] 0 1 = [row] := by rw [hS.part]; rfl
     have u1 : zm 0 1 [row] = true := by rw [hS.fit]; rfl
     have u2 : zQ (za (zg [row]) 0) = true := by rw [hS.len, hS.neq, hS.not]; rfl
     have u3 : zr 12 [row] = true := by rw [hS.wide]; simp [hr4]
     have u3' : zr 12 [] = true := by rw [hS.wide]; rfl
     have u4 : ze l (zg [row]) 128 = true := by rw [hS.len, hS.room]; exact decide_eq_true (by unfold capBytes; simp only [List.length_cons, List.length_nil]; omega)
     have u4' : ze (zg []) (zg [row]) 128 = true := by rw [hS.len, hS.len, hS.room]; exact decide_eq_true (by unfold capBytes; simp only [List.length_cons, List.length_nil]; omega)
     have u5 : za (zb 0 l) (zg r) = true := by rw [hS.nadd, hS.neq, hS.len, <- hl, Nat.zero_add]; exact decide_eq_true rfl
     have u6 : zb l (zg [row]) = l + 1 := by rw [hS.len, hS.nadd]; rfl
     have u6' : zb (zg []) (zg [row]) = 1 := by rw [hS.len, hS.len, hS.nadd]; rfl
     have u7 : zo r 0 [row] = r ++ [row] := by rw [hS.ext, List.drop_zero]
     have u7' : zo [] 0 [row] = [row] := by rw [hS.ext]; rfl
     have hl1 : l + 1 = (r ++ [row]).length := by rw [List.length_append, hl]; rfl
     have hnx : ∃ (k2 : Nat) (I2 : Int) (r' : Abs.Rows), I2 + 1 = (m' : Int) /\ m' + k2 = n /\ r' = tmT P 1 k2 /\ ((r' = [] /\ utoS1 1 X (l + 1) (r ++ [row]) I' = utoS0 1 X I2) ∨ ∃ l', l' = r'.length /\ utoS1 1 X (l + 1) (r ++ [row]) I' = utoS1 1 X l' r' I2) := ⟨k + 1, I', r ++ [row], hI', by omega, hstep.symm, .inr ⟨l + 1, hl1, rfl⟩⟩
     rcases hcase with ⟨hr0, hs1⟩ | ⟨l', hl', hs1⟩
     ·subst hr0
      obtain rfl : l = 0 := hl
      subst hs1
      cbv
      refine bT l1 ?_
      rw [j1, j2]
      cbv
      refine nd l1 ?_
      refine ⟨_, hS.call (cS), ?_⟩
      cbv
      refine bT q1 ?_
      rw [j1, j2]
      cbv
      refine nd l1 ?_
      rw [<- hrw, u0]
      refine nd u1 (nd u2 (nd u3 (nd u3' (nd u4' ?_))))
      refine againR [(2, 6)] (s' := utoS1 1 X (0 + 1) ([] ++ [row]) I') (k := m') ?_ ?_ ?_ ?_ rfl (by show 2 <= 3; omega) hmm hnx
      ·simp [leTR, utoS1, mkSt, vi, AV.ren, AV.noTup, Cell.ren, renF, i1, u6']
      ·simp [leHR, utoS1, mkSt, Abs.look, renF, Blk.ren, u7', Cell.ren]
      ·simp [liveR, utoS1, mkSt, renF]
      ·simp
     ·obtain rfl : l' = l := by rw [hl, hl']
      subst hs1
      cbv
      refine bT l1 ?_
      rw [j1, j2]
      cbv
      refine nd l1 ?_
      refine ⟨_, hS.call (cS), ?_⟩
      cbv
      refine bT q1 ?_
      rw [j1, j2]
      cbv
      refine nd l1 ?_
      rw [<- hrw, u0]
      refine nd u1 (nd u2 (nd u3 (nd u4 (nd u5 ?_))))
      refine againR [(2, 7)] (s' := utoS1 1 X (l' + 1) (r ++ [row]) I') (k := m') ?_ ?_ ?_ ?_ rfl (by show 2 <= 3; omega) hmm hnx
      ·simp [leTR, utoS1, mkSt, vi, AV.ren, AV.noTup, Cell.ren, renF, i1, u6]
      ·simp [leHR, utoS1, mkSt, Abs.look, renF, Blk.ren, u7, Cell.ren]
      ·simp [liveR, utoS1, mkSt, renF]
      ·simp
 ·refine callZ ccOk mixed [.val, .val] Tryz.func54 rfl rfl (by kernel_rfl) fun zA zB zC zD zE zF zG zH zI zJ zK zL zM zN zO zP zQ zR zS zT zU zV zX zY zZ za zb zc zd ze zf zg zh zi zj zk zl zm zn zo zp zq zr zs zt zu zw zx zy A L F hS hF => ?_
  have hlx : zg X = n := by rw [hS.len, lX]
  obtain ⟨N, hN, hN2⟩ : ∃ N : Int, N + 1 = n /\ zA .i64 (zC (zY (zg X)) 1) = N := ⟨(n : Int) - 1, by omega, by rw [hlx, hS.ofN, hS.sub, hS.wrap, wrap_i64 (by omega) (by omega)]⟩
  have a1 : zO 2 0 = false := by rw [hS.lt]; rfl
  have a2 : zP 8 2 = false := by rw [hS.le]; rfl
  have a3 : zO 65535 N = false := by rw [hS.lt]; exact decide_eq_false (by omega)
  cbv
  have hN : N + 1 = (n : Int) := hN
  rw [hN2]
  refine bF a1 (bF a2 (bF a3 ?_))
  refine loopZR ccOk mixed hS (fun (m : Nat) s' => ∃ (k : Nat) (I : Int) (r : Abs.Rows), I + 1 = m /\ m + k = n /\ r = tmT P 2 k /\ ((r = [] /\ s' = utoS0 2 X I) ∨ ∃ l, l = r.length /\ s' = utoS1 2 X l r I)) (n := n) (s0 := utoS0 2 X N) (qaj ?_ ?_) rfl (by show 2 <= 2; omega) ?_ ?_
  ·simp [leT, utoS0, mkSt, vi, vb]
  ·simp [leH, utoS0, mkSt]
  ·exact ⟨0, N, [], hN, by omega, rfl, .inl ⟨rfl, rfl⟩⟩
  ·rintro m s1 ⟨k, I, r, hI, hmk, hr, hcase⟩
   by_cases hm : m = 0
   ·have l1 : zP 0 I = false := by rw [hS.le]; exact decide_eq_false (by omega)
    rw [show n = k by omega, <- hr] at hT
    subst hT
    rcases hcase with ⟨hr0, hs1⟩ | ⟨l, hl, hs1⟩
    ·subst hr0
     subst hs1
     cbv
     refine bF l1 ?_
     exact fin2w hF (TLe.drop _ _) (TVLe.refl _)
    ·have f1 : zm 0 l T = true := by rw [hS.fit]; exact decide_eq_true (by omega)
     have f2 : zn T 0 l = T := by rw [hS.part, List.drop_zero, List.take_of_length_le (by omega)]
     subst hs1
     cbv
     refine bF l1 (nd f1 ?_)
     rw [f2]
     exact hF _ (ResLe.refl _)
   ·have l1 : zP 0 I = true := by rw [hS.le]; exact decide_eq_true (by omega)
    obtain ⟨m', rfl⟩ : ∃ m', m = m' + 1 := ⟨m - 1, by omega⟩
    have hIi : I = (m' : Int) := by omega
    obtain ⟨c, hc⟩ : ∃ c, c = P.getD m' 0 := ⟨_, rfl⟩
    have hPi : P[m']? = some c := by rw [hc, List.getD_eq_getElem?_getD, List.getElem?_eq_getElem (by omega)]; rfl
    have hXi : X[m']? = some (qc c).row := by rw [hX]; exact qau hPi
    have hstep : tmT P 2 (k + 1) = if c = 0 then r else r ++ [(qc c).row ++ mrow 2 m'] := by
     rw [tmT, show P.length - (k + 1) = m' by omega, <- hc, hr]
    have hrlen : r.length <= k := by rw [hr]; exact tmT_len P 2 k
    obtain ⟨C, hC, cS⟩ := usign_row c
    obtain ⟨s2, t2, r2, p2, hrow2, _⟩ := qrow c
    rw [hrow2] at hXi cS hstep
    have j1 : zV I = m' := by rw [hS.nat]; omega
    have j2 : zh X m' = some [.v (.bool s2), .lst false r2, .v (.bool t2), .lst false p2] := by rw [hS.nth]; exact hXi
    obtain ⟨I', hI', i1⟩ : ∃ I' : Int, I' + 1 = (m' : Int) /\ zA .i64 (zC I 1) = I' := ⟨I - 1, by omega, by rw [hS.sub, hS.wrap, wrap_i64 (by omega) (by omega)]⟩
    have hmm : m' < m' + 1 := by omega
    by_cases hc0 : c = 0
    ·have q1 : zN C 0 = false := by rw [hS.ne]; exact decide_eq_false (by simp [hC.2 hc0])
     rw [if_pos hc0] at hstep
     rcases hcase with ⟨hr0, hs1⟩ | ⟨l, hl, hs1⟩
     ·have hnx : ∃ (k2 : Nat) (I2 : Int) (r' : Abs.Rows), I2 + 1 = (m' : Int) /\ m' + k2 = n /\ r' = tmT P 2 k2 /\ ((r' = [] /\ utoS0 2 X I' = utoS0 2 X I2) ∨ ∃ l, l = r'.length /\ utoS0 2 X I' = utoS1 2 X l r' I2) := ⟨k + 1, I', r, hI', by omega, hstep.symm, .inl ⟨hr0, rfl⟩⟩
      subst hs1
      cbv
      refine bT l1 ?_
      rw [j1, j2]
      cbv
      refine nd l1 ?_
      refine ⟨_, hS.call (cS), ?_⟩
      cbv
      refine bF q1 ?_
      refine againR [] (s' := utoS0 2 X I') (k := m') ?_ ?_ ?_ ?_ rfl (by show 2 <= 2; omega) hmm hnx
      ·simp [leTR, utoS0, mkSt, vi, AV.ren, AV.noTup, Cell.ren, renF, i1]
      ·simp [leHR, utoS0, mkSt, Abs.look, renF, Blk.ren, Cell.ren]
      ·simp [liveR, utoS0, mkSt, renF]
      ·simp
     ·have hnx : ∃ (k2 : Nat) (I2 : Int) (r' : Abs.Rows), I2 + 1 = (m' : Int) /\ m' + k2 = n /\ r' = tmT P 2 k2 /\ ((r' = [] /\ utoS1 2 X l r I' = utoS0 2 X I2) ∨ ∃ l', l' = r'.length /\ utoS1 2 X l r I' = utoS1 2 X l' r' I2) := ⟨k + 1, I', r, hI', by omega, hstep.symm, .inr ⟨l, hl, rfl⟩⟩
      subst hs1
      cbv
      refine bT l1 ?_
      rw [j1, j2]
      cbv
      refine nd l1 ?_
      refine ⟨_, hS.call (cS), ?_⟩
      cbv
      refine bF q1 ?_
      refine againR [(2, 2)] (s' := utoS1 2 X l r I') (k := m') ?_ ?_ ?_ ?_ rfl (by show 2 <= 3; omega) hmm hnx
      ·simp [leTR, utoS1, mkSt, vi, AV.ren, AV.noTup, Cell.ren, renF, i1]
      ·simp [leHR, utoS1, mkSt, Abs.look, renF, Blk.ren, Cell.ren]
      ·simp [liveR, utoS1, mkSt, renF]
      ·simp
    ·have q1 : zN C 0 = true := by rw [hS.ne]; exact decide_eq_true (fun h => hc0 (hC.1 h))
     rw [if_neg hc0] at hstep
     obtain ⟨l, hl⟩ : ∃ l, l = r.length := ⟨_, rfl⟩
     obtain ⟨row, hrw⟩ : ∃ row, row = [Tree.v (.bool s2), .lst false r2, .v (.bool t2), .lst false p2, .v (.int .i64 0), .v (.int .i64 0), .v (.int .i64 I), .v (.int .i64 0), .v (.int .i64 0), .v (.int .i64 0), .v (.int .i64 0), .v (.int .i64 0)] := ⟨_, rfl⟩
     have hrm : [Tree.v (.bool s2), .lst false r2, .v (.bool t2), .lst false p2] ++ mrow 2 m' = row := by rw [hrw, hIi]; rfl
     rw [hrm] at hstep
     have hr4 : row.length = 12 := by rw [hrw]; rfl
     have u0 : zn [row] 0 1 = [row] := by rw [hS.part]; rfl
     have u1 : zm 0 1 [row] = true := by rw [hS.fit]; rfl
     have u2 : zQ (za (zg [row]) 0) = true := by rw [hS.len, hS.neq, hS.not]; rfl
     have u3 : zr 12 [row] = true := by rw [hS.wide]; simp [hr4]
     have u3' : zr 12 [] = true := by rw [hS.wide]; rfl
     have u4 : ze l (zg [row]) 128 = true := by rw [hS.len, hS.room]; exact decide_eq_true (by unfold capBytes; simp only [List.length_cons, List.length_nil]; omega)
     have u4' : ze (zg []) (zg [row]) 128 = true := by rw [hS.len, hS.len, hS.room]; exact decide_eq_true (by unfold capBytes; simp only [List.length_cons, List.length_nil]; omega)
     have u5 : za (zb 0 l) (zg r) = true := by rw [hS.nadd, hS.neq, hS.len, <- hl, Nat.zero_add]; exact decide_eq_true rfl
     have u6 : zb l (zg [row]) = l + 1 := by rw [hS.len, hS.nadd]; rfl
     have u6' : zb (zg []) (zg [row]) = 1 := by rw [hS.len, hS.len, hS.nadd]; rfl
     have u7 : zo r 0 [row] = r ++ [row] := by rw [hS.ext, List.drop_zero]
     have u7' : zo [] 0 [row] = [row] := by rw [hS.ext]; rfl
     have hl1 : l + 1 = (r ++ [row]).length := by rw [List.length_append, hl]; rfl
     have hnx : ∃ (k2 : Nat) (I2 : Int) (r' : Abs.Rows), I2 + 1 = (m' : Int) /\ m' + k2 = n /\ r' = tmT P 2 k2 /\ ((r' = [] /\ utoS1 2 X (l + 1) (r ++ [row]) I' = utoS0 2 X I2) ∨ ∃ l', l' = r'.length /\ utoS1 2 X (l + 1) (r ++ [row]) I' = utoS1 2 X l' r' I2) := ⟨k + 1, I', r ++ [row], hI', by omega, hstep.symm, .inr ⟨l + 1, hl1, rfl⟩⟩
     rcases hcase with ⟨hr0, hs1⟩ | ⟨l', hl', hs1⟩
     ·subst hr0
      obtain rfl : l = 0 := hl
      subst hs1
      cbv
      refine bT l1 ?_
      rw [j1, j2]
      cbv
      refine nd l1 ?_
      refine ⟨_, hS.call (cS), ?_⟩
      cbv
      refine bT q1 ?_
      rw [j1, j2]
      cbv
      refine nd l1 ?_
      rw [<- hrw, u0]
      refine nd u1 (nd u2 (nd u3 (nd u3' (nd u4' ?_))))
      refine againR [(2, 6)] (s' := utoS1 2 X (0 + 1) ([] ++ [row]) I') (k := m') ?_ ?_ ?_ ?_ rfl (by show 2 <= 3; omega) hmm hnx
      ·simp [leTR, utoS1, mkSt, vi, AV.ren, AV.noTup, Cell.ren, renF, i1, u6']
      ·simp [leHR, utoS1, mkSt, Abs.look, renF, Blk.ren, u7', Cell.ren]
      ·simp [liveR, utoS1, mkSt, renF]
      ·simp
     ·obtain rfl : l' = l := by rw [hl, hl']
      subst hs1
      cbv
      refine bT l1 ?_
      rw [j1, j2]
      cbv
      refine nd l1 ?_
      refine ⟨_, hS.call (cS), ?_⟩
      cbv
      refine bT q1 ?_
      rw [j1, j2]
      cbv
      refine nd l1 ?_
      rw [<- hrw, u0]
      refine nd u1 (nd u2 (nd u3 (nd u4 (nd u5 ?_))))
      refine againR [(2, 7)] (s' := utoS1 2 X (l' + 1) (r ++ [row]) I') (k := m') ?_ ?_ ?_ ?_ rfl (by show 2 <= 3; omega) hmm hnx
      ·simp [leTR, utoS1, mkSt, vi, AV.ren, AV.noTup, Cell.ren, renF, i1, u6]
      ·simp [leHR, utoS1, mkSt, Abs.look, renF, Blk.ren, u7, Cell.ren]
      ·simp [liveR, utoS1, mkSt, renF]
      ·simp
 ·refine callZ ccOk mixed [.val, .val] Tryz.func54 rfl rfl (by kernel_rfl) fun zA zB zC zD zE zF zG zH zI zJ zK zL zM zN zO zP zQ zR zS zT zU zV zX zY zZ za zb zc zd ze zf zg zh zi zj zk zl zm zn zo zp zq zr zs zt zu zw zx zy A L F hS hF => ?_
  have hlx : zg X = n := by rw [hS.len, lX]
  obtain ⟨N, hN, hN2⟩ : ∃ N : Int, N + 1 = n /\ zA .i64 (zC (zY (zg X)) 1) = N := ⟨(n : Int) - 1, by omega, by rw [hlx, hS.ofN, hS.sub, hS.wrap, wrap_i64 (by omega) (by omega)]⟩
  have a1 : zO 3 0 = false := by rw [hS.lt]; rfl
  have a2 : zP 8 3 = false := by rw [hS.le]; rfl
  have a3 : zO 65535 N = false := by rw [hS.lt]; exact decide_eq_false (by omega)
  cbv
  have hN : N + 1 = (n : Int) := hN
  rw [hN2]
  refine bF a1 (bF a2 (bF a3 ?_))
  refine loopZR ccOk mixed hS (fun (m : Nat) s' => ∃ (k : Nat) (I : Int) (r : Abs.Rows), I + 1 = m /\ m + k = n /\ r = tmT P 3 k /\ ((r = [] /\ s' = utoS0 3 X I) ∨ ∃ l, l = r.length /\ s' = utoS1 3 X l r I)) (n := n) (s0 := utoS0 3 X N) (qaj ?_ ?_) rfl (by show 2 <= 2; omega) ?_ ?_
  ·simp [leT, utoS0, mkSt, vi, vb]
  ·simp [leH, utoS0, mkSt]
  ·exact ⟨0, N, [], hN, by omega, rfl, .inl ⟨rfl, rfl⟩⟩
  ·rintro m s1 ⟨k, I, r, hI, hmk, hr, hcase⟩
   by_cases hm : m = 0
   ·have l1 : zP 0 I = false := by rw [hS.le]; exact decide_eq_false (by omega)
    rw [show n = k by omega, <- hr] at hT
    subst hT
    rcases hcase with ⟨hr0, hs1⟩ | ⟨l, hl, hs1⟩
    ·subst hr0
     subst hs1
     cbv
     refine bF l1 ?_
     exact fin2w hF (TLe.drop _ _) (TVLe.refl _)
    ·have f1 : zm 0 l T = true := by rw [hS.fit]; exact decide_eq_true (by omega)
     have f2 : zn T 0 l = T := by rw [hS.part, List.drop_zero, List.take_of_length_le (by omega)]
     subst hs1
     cbv
     refine bF l1 (nd f1 ?_)
     rw [f2]
     exact hF _ (ResLe.refl _)
   ·have l1 : zP 0 I = true := by rw [hS.le]; exact decide_eq_true (by omega)
    obtain ⟨m', rfl⟩ : ∃ m', m = m' + 1 := ⟨m - 1, by omega⟩
    have hIi : I = (m' : Int) := by omega
    obtain ⟨c, hc⟩ : ∃ c, c = P.getD m' 0 := ⟨_, rfl⟩
    have hPi : P[m']? = some c := by rw [hc, List.getD_eq_getElem?_getD, List.getElem?_eq_getElem (by omega)]; rfl
    have hXi : X[m']? = some (qc c).row := by rw [hX]; exact qau hPi
    have hstep : tmT P 3 (k + 1) = if c = 0 then r else r ++ [(qc c).row ++ mrow 3 m'] := by
     rw [tmT, show P.length - (k + 1) = m' by omega, <- hc, hr]
    have hrlen : r.length <= k := by rw [hr]; exact tmT_len P 3 k
    obtain ⟨C, hC, cS⟩ := usign_row c
    obtain ⟨s2, t2, r2, p2, hrow2, _⟩ := qrow c
    rw [hrow2] at hXi cS hstep
    have j1 : zV I = m' := by rw [hS.nat]; omega
    have j2 : zh X m' = some [.v (.bool s2), .lst false r2, .v (.bool t2), .lst false p2] := by rw [hS.nth]; exact hXi
    obtain ⟨I', hI', i1⟩ : ∃ I' : Int, I' + 1 = (m' : Int) /\ zA .i64 (zC I 1) = I' := ⟨I - 1, by omega, by rw [hS.sub, hS.wrap, wrap_i64 (by omega) (by omega)]⟩
    have hmm : m' < m' + 1 := by omega
    by_cases hc0 : c = 0
    ·have q1 : zN C 0 = false := by rw [hS.ne]; exact decide_eq_false (by simp [hC.2 hc0])
     rw [if_pos hc0] at hstep
     rcases hcase with ⟨hr0, hs1⟩ | ⟨l, hl, hs1⟩
     ·have hnx : ∃ (k2 : Nat) (I2 : Int) (r' : Abs.Rows), I2 + 1 = (m' : Int) /\ m' + k2 = n /\ r' = tmT P 3 k2 /\ ((r' = [] /\ utoS0 3 X I' = utoS0 3 X I2) ∨ ∃ l, l = r'.length /\ utoS0 3 X I' = utoS1 3 X l r' I2) := ⟨k + 1, I', r, hI', by omega, hstep.symm, .inl ⟨hr0, rfl⟩⟩
      subst hs1
      cbv
      refine bT l1 ?_
      rw [j1, j2]
      cbv
      refine nd l1 ?_
      refine ⟨_, hS.call (cS), ?_⟩
      cbv
      refine bF q1 ?_
      refine againR [] (s' := utoS0 3 X I') (k := m') ?_ ?_ ?_ ?_ rfl (by show 2 <= 2; omega) hmm hnx
      ·simp [leTR, utoS0, mkSt, vi, AV.ren, AV.noTup, Cell.ren, renF, i1]
      ·simp [leHR, utoS0, mkSt, Abs.look, renF, Blk.ren, Cell.ren]
      ·simp [liveR, utoS0, mkSt, renF]
      ·simp
     ·have hnx : ∃ (k2 : Nat) (I2 : Int) (r' : Abs.Rows), I2 + 1 = (m' : Int) /\ m' + k2 = n /\ r' = tmT P 3 k2 /\ ((r' = [] /\ utoS1 3 X l r I' = utoS0 3 X I2) ∨ ∃ l', l' = r'.length /\ utoS1 3 X l r I' = utoS1 3 X l' r' I2) := ⟨k + 1, I', r, hI', by omega, hstep.symm, .inr ⟨l, hl, rfl⟩⟩
      subst hs1
      cbv
      refine bT l1 ?_
      rw [j1, j2]
      cbv
      refine nd l1 ?_
      refine ⟨_, hS.call (cS), ?_⟩
      cbv
      refine bF q1 ?_
      refine againR [(2, 2)] (s' := utoS1 3 X l r I') (k := m') ?_ ?_ ?_ ?_ rfl (by show 2 <= 3; omega) hmm hnx
      ·simp [leTR, utoS1, mkSt, vi, AV.ren, AV.noTup, Cell.ren, renF, i1]
      ·simp [leHR, utoS1, mkSt, Abs.look, renF, Blk.ren, Cell.ren]
      ·simp [liveR, utoS1, mkSt, renF]
      ·simp
    ·have q1 : zN C 0 = true := by rw [hS.ne]; exact decide_eq_true (fun h => hc0 (hC.1 h))
     rw [if_neg hc0] at hstep
     obtain ⟨l, hl⟩ : ∃ l, l = r.length := ⟨_, rfl⟩
     obtain ⟨row, hrw⟩ : ∃ row, row = [Tree.v (.bool s2), .lst false r2, .v (.bool t2), .lst false p2, .v (.int .i64 0), .v (.int .i64 0), .v (.int .i64 0), .v (.int .i64 I), .v (.int .i64 0), .v (.int .i64 0), .v (.int .i64 0), .v (.int .i64 0)] := ⟨_, rfl⟩
     have hrm : [Tree.v (.bool s2), .lst false r2, .v (.bool t2), .lst false p2] ++ mrow 3 m' = row := by rw [hrw, hIi]; rfl
     rw [hrm] at hstep
     have hr4 : row.length = 12 := by rw [hrw]; rfl
     have u0 : zn [row] 0 1 = [row] := by rw [hS.part]; rfl
     have u1 : zm 0 1 [row] = true := by rw [hS.fit]; rfl
     have u2 : zQ (za (zg [row]) 0) = true := by rw [hS.len, hS.neq, hS.not]; rfl
     have u3 : zr 12 [row] = true := by rw [hS.wide]; simp [hr4]
     have u3' : zr 12 [] = true := by rw [hS.wide]; rfl
     have u4 : ze l (zg [row]) 128 = true := by rw [hS.len, hS.room]; exact decide_eq_true (by unfold capBytes; simp only [List.length_cons, List.length_nil]; omega)
     have u4' : ze (zg []) (zg [row]) 128 = true := by rw [hS.len, hS.len, hS.room]; exact decide_eq_true (by unfold capBytes; simp only [List.length_cons, List.length_nil]; omega)
     have u5 : za (zb 0 l) (zg r) = true := by rw [hS.nadd, hS.neq, hS.len, <- hl, Nat.zero_add]; exact decide_eq_true rfl
     have u6 : zb l (zg [row]) = l + 1 := by rw [hS.len, hS.nadd]; rfl
     have u6' : zb (zg []) (zg [row]) = 1 := by rw [hS.len, hS.len, hS.nadd]; rfl
     have u7 : zo r 0 [row] = r ++ [row] := by rw [hS.ext, List.drop_zero]
     have u7' : zo [] 0 [row] = [row] := by rw [hS.ext]; rfl
     have hl1 : l + 1 = (r ++ [row]).length := by rw [List.length_append, hl]; rfl
     have hnx : ∃ (k2 : Nat) (I2 : Int) (r' : Abs.Rows), I2 + 1 = (m' : Int) /\ m' + k2 = n /\ r' = tmT P 3 k2 /\ ((r' = [] /\ utoS1 3 X (l + 1) (r ++ [row]) I' = utoS0 3 X I2) ∨ ∃ l', l' = r'.length /\ utoS1 3 X (l + 1) (r ++ [row]) I' = utoS1 3 X l' r' I2) := ⟨k + 1, I', r ++ [row], hI', by omega, hstep.symm, .inr ⟨l + 1, hl1, rfl⟩⟩
     rcases hcase with ⟨hr0, hs1⟩ | ⟨l', hl', hs1⟩
     ·subst hr0
      obtain rfl : l = 0 := hl
      subst hs1
      cbv
      refine bT l1 ?_
      rw [j1, j2]
      cbv
      refine nd l1 ?_
      refine ⟨_, hS.call (cS), ?_⟩
      cbv
      refine bT q1 ?_
      rw [j1, j2]
      cbv
      refine nd l1 ?_
      rw [<- hrw, u0]
      refine nd u1 (nd u2 (nd u3 (nd u3' (nd u4' ?_))))
      refine againR [(2, 6)] (s' := utoS1 3 X (0 + 1) ([] ++ [row]) I') (k := m') ?_ ?_ ?_ ?_ rfl (by show 2 <= 3; omega) hmm hnx
      ·simp [leTR, utoS1, mkSt, vi, AV.ren, AV.noTup, Cell.ren, renF, i1, u6']
      ·simp [leHR, utoS1, mkSt, Abs.look, renF, Blk.ren, u7', Cell.ren]
      ·simp [liveR, utoS1, mkSt, renF]
      ·simp
     ·obtain rfl : l' = l := by rw [hl, hl']
      subst hs1
      cbv
      refine bT l1 ?_
      rw [j1, j2]
      cbv
      refine nd l1 ?_
      refine ⟨_, hS.call (cS), ?_⟩
      cbv
      refine bT q1 ?_
      rw [j1, j2]
      cbv
      refine nd l1 ?_
      rw [<- hrw, u0]
      refine nd u1 (nd u2 (nd u3 (nd u4 (nd u5 ?_))))
      refine againR [(2, 7)] (s' := utoS1 3 X (l' + 1) (r ++ [row]) I') (k := m') ?_ ?_ ?_ ?_ rfl (by show 2 <= 3; omega) hmm hnx
      ·simp [leTR, utoS1, mkSt, vi, AV.ren, AV.noTup, Cell.ren, renF, i1, u6]
      ·simp [leHR, utoS1, mkSt, Abs.look, renF, Blk.ren, u7, Cell.ren]
      ·simp [liveR, utoS1, mkSt, renF]
      ·simp
 ·refine callZ ccOk mixed [.val, .val] Tryz.func54 rfl rfl (by kernel_rfl) fun zA zB zC zD zE zF zG zH zI zJ zK zL zM zN zO zP zQ zR zS zT zU zV zX zY zZ za zb zc zd ze zf zg zh zi zj zk zl zm zn zo zp zq zr zs zt zu zw zx zy A L F hS hF => ?_
  have hlx : zg X = n := by rw [hS.len, lX]
  obtain ⟨N, hN, hN2⟩ : ∃ N : Int, N + 1 = n /\ zA .i64 (zC (zY (zg X)) 1) = N := ⟨(n : Int) - 1, by omega, by rw [hlx, hS.ofN, hS.sub, hS.wrap, wrap_i64 (by omega) (by omega)]⟩
  have a1 : zO 4 0 = false := by rw [hS.lt]; rfl
  have a2 : zP 8 4 = false := by rw [hS.le]; rfl
  have a3 : zO 65535 N = false := by rw [hS.lt]; exact decide_eq_false (by omega)
  cbv
  have hN : N + 1 = (n : Int) := hN
  rw [hN2]
  refine bF a1 (bF a2 (bF a3 ?_))
  refine loopZR ccOk mixed hS (fun (m : Nat) s' => ∃ (k : Nat) (I : Int) (r : Abs.Rows), I + 1 = m /\ m + k = n /\ r = tmT P 4 k /\ ((r = [] /\ s' = utoS0 4 X I) ∨ ∃ l, l = r.length /\ s' = utoS1 4 X l r I)) (n := n) (s0 := utoS0 4 X N) (qaj ?_ ?_) rfl (by show 2 <= 2; omega) ?_ ?_
  ·simp [leT, utoS0, mkSt, vi, vb]
  ·simp [leH, utoS0, mkSt]
  ·exact ⟨0, N, [], hN, by omega, rfl, .inl ⟨rfl, rfl⟩⟩
  ·rintro m s1 ⟨k, I, r, hI, hmk, hr, hcase⟩
   by_cases hm : m = 0
   ·have l1 : zP 0 I = false := by rw [hS.le]; exact decide_eq_false (by omega)
    rw [show n = k by omega, <- hr] at hT
    subst hT
    rcases hcase with ⟨hr0, hs1⟩ | ⟨l, hl, hs1⟩
    ·subst hr0
     subst hs1
     cbv
     refine bF l1 ?_
     exact fin2w hF (TLe.drop _ _) (TVLe.refl _)
    ·have f1 : zm 0 l T = true := by rw [hS.fit]; exact decide_eq_true (by omega)
     have f2 : zn T 0 l = T := by rw [hS.part, List.drop_zero, List.take_of_length_le (by omega)]
     subst hs1
     cbv
     refine bF l1 (nd f1 ?_)
     rw [f2]
     exact hF _ (ResLe.refl _)
   ·have l1 : zP 0 I = true := by rw [hS.le]; exact decide_eq_true (by omega)
    obtain ⟨m', rfl⟩ : ∃ m', m = m' + 1 := ⟨m - 1, by omega⟩
    have hIi : I = (m' : Int) := by omega
    obtain ⟨c, hc⟩ : ∃ c, c = P.getD m' 0 := ⟨_, rfl⟩
    have hPi : P[m']? = some c := by rw [hc, List.getD_eq_getElem?_getD, List.getElem?_eq_getElem (by omega)]; rfl
    have hXi : X[m']? = some (qc c).row := by rw [hX]; exact qau hPi
    have hstep : tmT P 4 (k + 1) = if c = 0 then r else r ++ [(qc c).row ++ mrow 4 m'] := by
     rw [tmT, show P.length - (k + 1) = m' by omega, <- hc, hr]
    have hrlen : r.length <= k := by rw [hr]; exact tmT_len P 4 k
    obtain ⟨C, hC, cS⟩ := usign_row c
    obtain ⟨s2, t2, r2, p2, hrow2, _⟩ := qrow c
    rw [hrow2] at hXi cS hstep
    have j1 : zV I = m' := by rw [hS.nat]; omega
    have j2 : zh X m' = some [.v (.bool s2), .lst false r2, .v (.bool t2), .lst false p2] := by rw [hS.nth]; exact hXi
    obtain ⟨I', hI', i1⟩ : ∃ I' : Int, I' + 1 = (m' : Int) /\ zA .i64 (zC I 1) = I' := ⟨I - 1, by omega, by rw [hS.sub, hS.wrap, wrap_i64 (by omega) (by omega)]⟩
    have hmm : m' < m' + 1 := by omega
    by_cases hc0 : c = 0
    ·have q1 : zN C 0 = false := by rw [hS.ne]; exact decide_eq_false (by simp [hC.2 hc0])
     rw [if_pos hc0] at hstep
     rcases hcase with ⟨hr0, hs1⟩ | ⟨l, hl, hs1⟩
     ·have hnx : ∃ (k2 : Nat) (I2 : Int) (r' : Abs.Rows), I2 + 1 = (m' : Int) /\ m' + k2 = n /\ r' = tmT P 4 k2 /\ ((r' = [] /\ utoS0 4 X I' = utoS0 4 X I2) ∨ ∃ l, l = r'.length /\ utoS0 4 X I' = utoS1 4 X l r' I2) := ⟨k + 1, I', r, hI', by omega, hstep.symm, .inl ⟨hr0, rfl⟩⟩
      subst hs1
      cbv
      refine bT l1 ?_
      rw [j1, j2]
      cbv
      refine nd l1 ?_
      refine ⟨_, hS.call (cS), ?_⟩
      cbv
      refine bF q1 ?_
      refine againR [] (s' := utoS0 4 X I') (k := m') ?_ ?_ ?_ ?_ rfl (by show 2 <= 2; omega) hmm hnx
      ·simp [leTR, utoS0, mkSt, vi, AV.ren, AV.noTup, Cell.ren, renF, i1]
      ·simp [leHR, utoS0, mkSt, Abs.look, renF, Blk.ren, Cell.ren]
      ·simp [liveR, utoS0, mkSt, renF]
      ·simp
     ·have hnx : ∃ (k2 : Nat) (I2 : Int) (r' : Abs.Rows), I2 + 1 = (m' : Int) /\ m' + k2 = n /\ r' = tmT P 4 k2 /\ ((r' = [] /\ utoS1 4 X l r I' = utoS0 4 X I2) ∨ ∃ l', l' = r'.length /\ utoS1 4 X l r I' = utoS1 4 X l' r' I2) := ⟨k + 1, I', r, hI', by omega, hstep.symm, .inr ⟨l, hl, rfl⟩⟩
      subst hs1
      cbv
      refine bT l1 ?_
      rw [j1, j2]
      cbv
      refine nd l1 ?_
      refine ⟨_, hS.call (cS), ?_⟩
      cbv
      refine bF q1 ?_
      refine againR [(2, 2)] (s' := utoS1 4 X l r I') (k := m') ?_ ?_ ?_ ?_ rfl (by show 2 <= 3; omega) hmm hnx
      ·simp [leTR, utoS1, mkSt, vi, AV.ren, AV.noTup, Cell.ren, renF, i1]
      ·simp [leHR, utoS1, mkSt, Abs.look, renF, Blk.ren, Cell.ren]
      ·simp [liveR, utoS1, mkSt, renF]
      ·simp
    ·have q1 : zN C 0 = true := by rw [hS.ne]; exact decide_eq_true (fun h => hc0 (hC.1 h))
     rw [if_neg hc0] at hstep
     obtain ⟨l, hl⟩ : ∃ l, l = r.length := ⟨_, rfl⟩
     obtain ⟨row, hrw⟩ : ∃ row, row = [Tree.v (.bool s2), .lst false r2, .v (.bool t2), .lst false p2, .v (.int .i64 0), .v (.int .i64 0), .v (.int .i64 0), .v (.int .i64 0), .v (.int .i64 I), .v (.int .i64 0), .v (.int .i64 0), .v (.int .i64 0)] := ⟨_, rfl⟩
     have hrm : [Tree.v (.bool s2), .lst false r2, .v (.bool t2), .lst false p2] ++ mrow 4 m' = row := by rw [hrw, hIi]; rfl
     rw [hrm] at hstep
     have hr4 : row.length = 12 := by rw [hrw]; rfl
     have u0 : zn [row] 0 1 = [row] := by rw [hS.part]; rfl
     have u1 : zm 0 1 [row] = true := by rw [hS.fit]; rfl
     have u2 : zQ (za (zg [row]) 0) = true := by rw [hS.len, hS.neq, hS.not]; rfl
     have u3 : zr 12 [row] = true := by rw [hS.wide]; simp [hr4]
     have u3' : zr 12 [] = true := by rw [hS.wide]; rfl
     have u4 : ze l (zg [row]) 128 = true := by rw [hS.len, hS.room]; exact decide_eq_true (by unfold capBytes; simp only [List.length_cons, List.length_nil]; omega)
     have u4' : ze (zg []) (zg [row]) 128 = true := by rw [hS.len, hS.len, hS.room]; exact decide_eq_true (by unfold capBytes; simp only [List.length_cons, List.length_nil]; omega)
     have u5 : za (zb 0 l) (zg r) = true := by rw [hS.nadd, hS.neq, hS.len, <- hl, Nat.zero_add]; exact decide_eq_true rfl
     have u6 : zb l (zg [row]) = l + 1 := by rw [hS.len, hS.nadd]; rfl
     have u6' : zb (zg []) (zg [row]) = 1 := by rw [hS.len, hS.len, hS.nadd]; rfl
     have u7 : zo r 0 [row] = r ++ [row] := by rw [hS.ext, List.drop_zero]
     have u7' : zo [] 0 [row] = [row] := by rw [hS.ext]; rfl
     have hl1 : l + 1 = (r ++ [row]).length := by rw [List.length_append, hl]; rfl
     have hnx : ∃ (k2 : Nat) (I2 : Int) (r' : Abs.Rows), I2 + 1 = (m' : Int) /\ m' + k2 = n /\ r' = tmT P 4 k2 /\ ((r' = [] /\ utoS1 4 X (l + 1) (r ++ [row]) I' = utoS0 4 X I2) ∨ ∃ l', l' = r'.length /\ utoS1 4 X (l + 1) (r ++ [row]) I' = utoS1 4 X l' r' I2) := ⟨k + 1, I', r ++ [row], hI', by omega, hstep.symm, .inr ⟨l + 1, hl1, rfl⟩⟩
     rcases hcase with ⟨hr0, hs1⟩ | ⟨l', hl', hs1⟩
     ·subst hr0
      obtain rfl : l = 0 := hl
      subst hs1
      cbv
      refine bT l1 ?_
      rw [j1, j2]
      cbv
      refine nd l1 ?_
      refine ⟨_, hS.call (cS), ?_⟩
      cbv
      refine bT q1 ?_
      rw [j1, j2]
      cbv
      refine nd l1 ?_
      rw [<- hrw, u0]
      refine nd u1 (nd u2 (nd u3 (nd u3' (nd u4' ?_))))
      refine againR [(2, 6)] (s' := utoS1 4 X (0 + 1) ([] ++ [row]) I') (k := m') ?_ ?_ ?_ ?_ rfl (by show 2 <= 3; omega) hmm hnx
      ·simp [leTR, utoS1, mkSt, vi, AV.ren, AV.noTup, Cell.ren, renF, i1, u6']
      ·simp [leHR, utoS1, mkSt, Abs.look, renF, Blk.ren, u7', Cell.ren]
      ·simp [liveR, utoS1, mkSt, renF]
      ·simp
     ·obtain rfl : l' = l := by rw [hl, hl']
      subst hs1
      cbv
      refine bT l1 ?_
      rw [j1, j2]
      cbv
      refine nd l1 ?_
      refine ⟨_, hS.call (cS), ?_⟩
      cbv
      refine bT q1 ?_
      rw [j1, j2]
      cbv
      refine nd l1 ?_
      rw [<- hrw, u0]
      refine nd u1 (nd u2 (nd u3 (nd u4 (nd u5 ?_))))
      refine againR [(2, 7)] (s' := utoS1 4 X (l' + 1) (r ++ [row]) I') (k := m') ?_ ?_ ?_ ?_ rfl (by show 2 <= 3; omega) hmm hnx
      ·simp [leTR, utoS1, mkSt, vi, AV.ren, AV.noTup, Cell.ren, renF, i1, u6]
      ·simp [leHR, utoS1, mkSt, Abs.look, renF, Blk.ren, u7, Cell.ren]
      ·simp [liveR, utoS1, mkSt, renF]
      ·simp
 ·refine callZ ccOk mixed [.val, .val] Tryz.func54 rfl rfl (by kernel_rfl) fun zA zB zC zD zE zF zG zH zI zJ zK zL zM zN zO zP zQ zR zS zT zU zV zX zY zZ za zb zc zd ze zf zg zh zi zj zk zl zm zn zo zp zq zr zs zt zu zw zx zy A L F hS hF => ?_
  have hlx : zg X = n := by rw [hS.len, lX]
  obtain ⟨N, hN, hN2⟩ : ∃ N : Int, N + 1 = n /\ zA .i64 (zC (zY (zg X)) 1) = N := ⟨(n : Int) - 1, by omega, by rw [hlx, hS.ofN, hS.sub, hS.wrap, wrap_i64 (by omega) (by omega)]⟩
  have a1 : zO 5 0 = false := by rw [hS.lt]; rfl
  have a2 : zP 8 5 = false := by rw [hS.le]; rfl
  have a3 : zO 65535 N = false := by rw [hS.lt]; exact decide_eq_false (by omega)
  cbv
  have hN : N + 1 = (n : Int) := hN
  rw [hN2]
  refine bF a1 (bF a2 (bF a3 ?_))
  refine loopZR ccOk mixed hS (fun (m : Nat) s' => ∃ (k : Nat) (I : Int) (r : Abs.Rows), I + 1 = m /\ m + k = n /\ r = tmT P 5 k /\ ((r = [] /\ s' = utoS0 5 X I) ∨ ∃ l, l = r.length /\ s' = utoS1 5 X l r I)) (n := n) (s0 := utoS0 5 X N) (qaj ?_ ?_) rfl (by show 2 <= 2; omega) ?_ ?_
  ·simp [leT, utoS0, mkSt, vi, vb]
  ·simp [leH, utoS0, mkSt]
  ·exact ⟨0, N, [], hN, by omega, rfl, .inl ⟨rfl, rfl⟩⟩
  ·rintro m s1 ⟨k, I, r, hI, hmk, hr, hcase⟩
   by_cases hm : m = 0
   ·have l1 : zP 0 I = false := by rw [hS.le]; exact decide_eq_false (by omega)
    rw [show n = k by omega, <- hr] at hT
    subst hT
    rcases hcase with ⟨hr0, hs1⟩ | ⟨l, hl, hs1⟩
    ·subst hr0
     subst hs1
     cbv
     refine bF l1 ?_
     exact fin2w hF (TLe.drop _ _) (TVLe.refl _)
    ·have f1 : zm 0 l T = true := by rw [hS.fit]; exact decide_eq_true (by omega)
     have f2 : zn T 0 l = T := by rw [hS.part, List.drop_zero, List.take_of_length_le (by omega)]
     subst hs1
     cbv
     refine bF l1 (nd f1 ?_)
     rw [f2]
     exact hF _ (ResLe.refl _)
   ·have l1 : zP 0 I = true := by rw [hS.le]; exact decide_eq_true (by omega)
    obtain ⟨m', rfl⟩ : ∃ m', m = m' + 1 := ⟨m - 1, by omega⟩
    have hIi : I = (m' : Int) := by omega
    obtain ⟨c, hc⟩ : ∃ c, c = P.getD m' 0 := ⟨_, rfl⟩
    have hPi : P[m']? = some c := by rw [hc, List.getD_eq_getElem?_getD, List.getElem?_eq_getElem (by omega)]; rfl
    have hXi : X[m']? = some (qc c).row := by rw [hX]; exact qau hPi
    have hstep : tmT P 5 (k + 1) = if c = 0 then r else r ++ [(qc c).row ++ mrow 5 m'] := by
     rw [tmT, show P.length - (k + 1) = m' by omega, <- hc, hr]
    have hrlen : r.length <= k := by rw [hr]; exact tmT_len P 5 k
    obtain ⟨C, hC, cS⟩ := usign_row c
    obtain ⟨s2, t2, r2, p2, hrow2, _⟩ := qrow c
    rw [hrow2] at hXi cS hstep
    have j1 : zV I = m' := by rw [hS.nat]; omega
    have j2 : zh X m' = some [.v (.bool s2), .lst false r2, .v (.bool t2), .lst false p2] := by rw [hS.nth]; exact hXi
    obtain ⟨I', hI', i1⟩ : ∃ I' : Int, I' + 1 = (m' : Int) /\ zA .i64 (zC I 1) = I' := ⟨I - 1, by omega, by rw [hS.sub, hS.wrap, wrap_i64 (by omega) (by omega)]⟩
    have hmm : m' < m' + 1 := by omega
    by_cases hc0 : c = 0
    ·have q1 : zN C 0 = false := by rw [hS.ne]; exact decide_eq_false (by simp [hC.2 hc0])
     rw [if_pos hc0] at hstep
     rcases hcase with ⟨hr0, hs1⟩ | ⟨l, hl, hs1⟩
     ·have hnx : ∃ (k2 : Nat) (I2 : Int) (r' : Abs.Rows), I2 + 1 = (m' : Int) /\ m' + k2 = n /\ r' = tmT P 5 k2 /\ ((r' = [] /\ utoS0 5 X I' = utoS0 5 X I2) ∨ ∃ l, l = r'.length /\ utoS0 5 X I' = utoS1 5 X l r' I2) := ⟨k + 1, I', r, hI', by omega, hstep.symm, .inl ⟨hr0, rfl⟩⟩
      subst hs1
      cbv
      refine bT l1 ?_
      rw [j1, j2]
      cbv
      refine nd l1 ?_
      refine ⟨_, hS.call (cS), ?_⟩
      cbv
      refine bF q1 ?_
      refine againR [] (s' := utoS0 5 X I') (k := m') ?_ ?_ ?_ ?_ rfl (by show 2 <= 2; omega) hmm hnx
      ·simp [leTR, utoS0, mkSt, vi, AV.ren, AV.noTup, Cell.ren, renF, i1]
      ·simp [leHR, utoS0, mkSt, Abs.look, renF, Blk.ren, Cell.ren]
      ·simp [liveR, utoS0, mkSt, renF]
      ·simp
     ·have hnx : ∃ (k2 : Nat) (I2 : Int) (r' : Abs.Rows), I2 + 1 = (m' : Int) /\ m' + k2 = n /\ r' = tmT P 5 k2 /\ ((r' = [] /\ utoS1 5 X l r I' = utoS0 5 X I2) ∨ ∃ l', l' = r'.length /\ utoS1 5 X l r I' = utoS1 5 X l' r' I2) := ⟨k + 1, I', r, hI', by omega, hstep.symm, .inr ⟨l, hl, rfl⟩⟩
      subst hs1
      cbv
      refine bT l1 ?_
      rw [j1, j2]
      cbv
      refine nd l1 ?_
      refine ⟨_, hS.call (cS), ?_⟩
      cbv
      refine bF q1 ?_
      refine againR [(2, 2)] (s' := utoS1 5 X l r I') (k := m') ?_ ?_ ?_ ?_ rfl (by show 2 <= 3; omega) hmm hnx
      ·simp [leTR, utoS1, mkSt, vi, AV.ren, AV.noTup, Cell.ren, renF, i1]
      ·simp [leHR, utoS1, mkSt, Abs.look, renF, Blk.ren, Cell.ren]
      ·simp [liveR, utoS1, mkSt, renF]
      ·simp
    ·have q1 : zN C 0 = true := by rw [hS.ne]; exact decide_eq_true (fun h => hc0 (hC.1 h))
     rw [if_neg hc0] at hstep
     obtain ⟨l, hl⟩ : ∃ l, l = r.length := ⟨_, rfl⟩
     obtain ⟨row, hrw⟩ : ∃ row, row = [Tree.v (.bool s2), .lst false r2, .v (.bool t2), .lst false p2, .v (.int .i64 0), .v (.int .i64 0), .v (.int .i64 0), .v (.int .i64 0), .v (.int .i64 0), .v (.int .i64 I), .v (.int .i64 0), .v (.int .i64 0)] := ⟨_, rfl⟩
     have hrm : [Tree.v (.bool s2), .lst false r2, .v (.bool t2), .lst false p2] ++ mrow 5 m' = row := by rw [hrw, hIi]; rfl
     rw [hrm] at hstep
     have hr4 : row.length = 12 := by rw [hrw]; rfl
     have u0 : zn [row] 0 1 = [row] := by rw [hS.part]; rfl
     have u1 : zm 0 1 [row] = true := by rw [hS.fit]; rfl
     have u2 : zQ (za (zg [row]) 0) = true := by rw [hS.len, hS.neq, hS.not]; rfl
     have u3 : zr 12 [row] = true := by rw [hS.wide]; simp [hr4]
     have u3' : zr 12 [] = true := by rw [hS.wide]; rfl
     have u4 : ze l (zg [row]) 128 = true := by rw [hS.len, hS.room]; exact decide_eq_true (by unfold capBytes; simp only [List.length_cons, List.length_nil]; omega)
     have u4' : ze (zg []) (zg [row]) 128 = true := by rw [hS.len, hS.len, hS.room]; exact decide_eq_true (by unfold capBytes; simp only [List.length_cons, List.length_nil]; omega)
     have u5 : za (zb 0 l) (zg r) = true := by rw [hS.nadd, hS.neq, hS.len, <- hl, Nat.zero_add]; exact decide_eq_true rfl
     have u6 : zb l (zg [row]) = l + 1 := by rw [hS.len, hS.nadd]; rfl
     have u6' : zb (zg []) (zg [row]) = 1 := by rw [hS.len, hS.len, hS.nadd]; rfl
     have u7 : zo r 0 [row] = r ++ [row] := by rw [hS.ext, List.drop_zero]
     have u7' : zo [] 0 [row] = [row] := by rw [hS.ext]; rfl
     have hl1 : l + 1 = (r ++ [row]).length := by rw [List.length_append, hl]; rfl
     have hnx : ∃ (k2 : Nat) (I2 : Int) (r' : Abs.Rows), I2 + 1 = (m' : Int) /\ m' + k2 = n /\ r' = tmT P 5 k2 /\ ((r' = [] /\ utoS1 5 X (l + 1) (r ++ [row]) I' = utoS0 5 X I2) ∨ ∃ l', l' = r'.length /\ utoS1 5 X (l + 1) (r ++ [row]) I' = utoS1 5 X l' r' I2) := ⟨k + 1, I', r ++ [row], hI', by omega, hstep.symm, .inr ⟨l + 1, hl1, rfl⟩⟩
     rcases hcase with ⟨hr0, hs1⟩ | ⟨l', hl', hs1⟩
     ·subst hr0
      obtain rfl : l = 0 := hl
      subst hs1
      cbv
      refine bT l1 ?_
      rw [j1, j2]
      cbv
      refine nd l1 ?_
      refine ⟨_, hS.call (cS), ?_⟩
      cbv
      refine bT q1 ?_
      rw [j1, j2]
      cbv
      refine nd l1 ?_
      rw [<- hrw, u0]
      refine nd u1 (nd u2 (nd u3 (nd u3' (nd u4' ?_))))
      refine againR [(2, 6)] (s' := utoS1 5 X (0 + 1) ([] ++ [row]) I') (k := m') ?_ ?_ ?_ ?_ rfl (by show 2 <= 3; omega) hmm hnx
      ·simp [leTR, utoS1, mkSt, vi, AV.ren, AV.noTup, Cell.ren, renF, i1, u6']
      ·simp [leHR, utoS1, mkSt, Abs.look, renF, Blk.ren, u7', Cell.ren]
      ·simp [liveR, utoS1, mkSt, renF]
      ·simp
     ·obtain rfl : l' = l := by rw [hl, hl']
      subst hs1
      cbv
      refine bT l1 ?_
      rw [j1, j2]
      cbv
      refine nd l1 ?_
      refine ⟨_, hS.call (cS), ?_⟩
      cbv
      refine bT q1 ?_
      rw [j1, j2]
      cbv
      refine nd l1 ?_
      rw [<- hrw, u0]
      refine nd u1 (nd u2 (nd u3 (nd u4 (nd u5 ?_))))
      refine againR [(2, 7)] (s' := utoS1 5 X (l' + 1) (r ++ [row]) I') (k := m') ?_ ?_ ?_ ?_ rfl (by show 2 <= 3; omega) hmm hnx
      ·simp [leTR, utoS1, mkSt, vi, AV.ren, AV.noTup, Cell.ren, renF, i1, u6]
      ·simp [leHR, utoS1, mkSt, Abs.look, renF, Blk.ren, u7, Cell.ren]
      ·simp [liveR, utoS1, mkSt, renF]
      ·simp
 ·refine callZ ccOk mixed [.val, .val] Tryz.func54 rfl rfl (by kernel_rfl) fun zA zB zC zD zE zF zG zH zI zJ zK zL zM zN zO zP zQ zR zS zT zU zV zX zY zZ za zb zc zd ze zf zg zh zi zj zk zl zm zn zo zp zq zr zs zt zu zw zx zy A L F hS hF => ?_
  have hlx : zg X = n := by rw [hS.len, lX]
  obtain ⟨N, hN, hN2⟩ : ∃ N : Int, N + 1 = n /\ zA .i64 (zC (zY (zg X)) 1) = N := ⟨(n : Int) - 1, by omega, by rw [hlx, hS.ofN, hS.sub, hS.wrap, wrap_i64 (by omega) (by omega)]⟩
  have a1 : zO 6 0 = false := by rw [hS.lt]; rfl
  have a2 : zP 8 6 = false := by rw [hS.le]; rfl
  have a3 : zO 65535 N = false := by rw [hS.lt]; exact decide_eq_false (by omega)
  cbv
  have hN : N + 1 = (n : Int) := hN
  rw [hN2]
  refine bF a1 (bF a2 (bF a3 ?_))
  refine loopZR ccOk mixed hS (fun (m : Nat) s' => ∃ (k : Nat) (I : Int) (r : Abs.Rows), I + 1 = m /\ m + k = n /\ r = tmT P 6 k /\ ((r = [] /\ s' = utoS0 6 X I) ∨ ∃ l, l = r.length /\ s' = utoS1 6 X l r I)) (n := n) (s0 := utoS0 6 X N) (qaj ?_ ?_) rfl (by show 2 <= 2; omega) ?_ ?_
  ·simp [leT, utoS0, mkSt, vi, vb]
  ·simp [leH, utoS0, mkSt]
  ·exact ⟨0, N, [], hN, by omega, rfl, .inl ⟨rfl, rfl⟩⟩
  ·rintro m s1 ⟨k, I, r, hI, hmk, hr, hcase⟩
   by_cases hm : m = 0
   ·have l1 : zP 0 I = false := by rw [hS.le]; exact decide_eq_false (by omega)
    rw [show n = k by omega, <- hr] at hT
    subst hT
    rcases hcase with ⟨hr0, hs1⟩ | ⟨l, hl, hs1⟩
    ·subst hr0
     subst hs1
     cbv
     refine bF l1 ?_
     exact fin2w hF (TLe.drop _ _) (TVLe.refl _)
    ·have f1 : zm 0 l T = true := by rw [hS.fit]; exact decide_eq_true (by omega)
     have f2 : zn T 0 l = T := by rw [hS.part, List.drop_zero, List.take_of_length_le (by omega)]
     subst hs1
     cbv
     refine bF l1 (nd f1 ?_)
     rw [f2]
     exact hF _ (ResLe.refl _)
   ·have l1 : zP 0 I = true := by rw [hS.le]; exact decide_eq_true (by omega)
    obtain ⟨m', rfl⟩ : ∃ m', m = m' + 1 := ⟨m - 1, by omega⟩
    have hIi : I = (m' : Int) := by omega
    obtain ⟨c, hc⟩ : ∃ c, c = P.getD m' 0 := ⟨_, rfl⟩
    have hPi : P[m']? = some c := by rw [hc, List.getD_eq_getElem?_getD, List.getElem?_eq_getElem (by omega)]; rfl
    have hXi : X[m']? = some (qc c).row := by rw [hX]; exact qau hPi
    have hstep : tmT P 6 (k + 1) = if c = 0 then r else r ++ [(qc c).row ++ mrow 6 m'] := by
     rw [tmT, show P.length - (k + 1) = m' by omega, <- hc, hr]
    have hrlen : r.length <= k := by rw [hr]; exact tmT_len P 6 k
    obtain ⟨C, hC, cS⟩ := usign_row c
    obtain ⟨s2, t2, r2, p2, hrow2, _⟩ := qrow c
    rw [hrow2] at hXi cS hstep
    have j1 : zV I = m' := by rw [hS.nat]; omega
    have j2 : zh X m' = some [.v (.bool s2), .lst false r2, .v (.bool t2), .lst false p2] := by rw [hS.nth]; exact hXi
    obtain ⟨I', hI', i1⟩ : ∃ I' : Int, I' + 1 = (m' : Int) /\ zA .i64 (zC I 1) = I' := ⟨I - 1, by omega, by rw [hS.sub, hS.wrap, wrap_i64 (by omega) (by omega)]⟩
    have hmm : m' < m' + 1 := by omega
    by_cases hc0 : c = 0
    ·have q1 : zN C 0 = false := by rw [hS.ne]; exact decide_eq_false (by simp [hC.2 hc0])
     rw [if_pos hc0] at hstep
     rcases hcase with ⟨hr0, hs1⟩ | ⟨l, hl, hs1⟩
     ·have hnx : ∃ (k2 : Nat) (I2 : Int) (r' : Abs.Rows), I2 + 1 = (m' : Int) /\ m' + k2 = n /\ r' = tmT P 6 k2 /\ ((r' = [] /\ utoS0 6 X I' = utoS0 6 X I2) ∨ ∃ l, l = r'.length /\ utoS0 6 X I' = utoS1 6 X l r' I2) := ⟨k + 1, I', r, hI', by omega, hstep.symm, .inl ⟨hr0, rfl⟩⟩
      subst hs1
      cbv
      refine bT l1 ?_
      rw [j1, j2]
      cbv
      refine nd l1 ?_
      refine ⟨_, hS.call (cS), ?_⟩
      cbv
      refine bF q1 ?_
      refine againR [] (s' := utoS0 6 X I') (k := m') ?_ ?_ ?_ ?_ rfl (by show 2 <= 2; omega) hmm hnx
      ·simp [leTR, utoS0, mkSt, vi, AV.ren, AV.noTup, Cell.ren, renF, i1]
      ·simp [leHR, utoS0, mkSt, Abs.look, renF, Blk.ren, Cell.ren]
      ·simp [liveR, utoS0, mkSt, renF]
      ·simp
     ·have hnx : ∃ (k2 : Nat) (I2 : Int) (r' : Abs.Rows), I2 + 1 = (m' : Int) /\ m' + k2 = n /\ r' = tmT P 6 k2 /\ ((r' = [] /\ utoS1 6 X l r I' = utoS0 6 X I2) ∨ ∃ l', l' = r'.length /\ utoS1 6 X l r I' = utoS1 6 X l' r' I2) := ⟨k + 1, I', r, hI', by omega, hstep.symm, .inr ⟨l, hl, rfl⟩⟩
      subst hs1
      cbv
      refine bT l1 ?_
      rw [j1, j2]
      cbv
      refine nd l1 ?_
      refine ⟨_, hS.call (cS), ?_⟩
      cbv
      refine bF q1 ?_
      refine againR [(2, 2)] (s' := utoS1 6 X l r I') (k := m') ?_ ?_ ?_ ?_ rfl (by show 2 <= 3; omega) hmm hnx
      ·simp [leTR, utoS1, mkSt, vi, AV.ren, AV.noTup, Cell.ren, renF, i1]
      ·simp [leHR, utoS1, mkSt, Abs.look, renF, Blk.ren, Cell.ren]
      ·simp [liveR, utoS1, mkSt, renF]
      ·simp
    ·have q1 : zN C 0 = true := by rw [hS.ne]; exact decide_eq_true (fun h => hc0 (hC.1 h))
     rw [if_neg hc0] at hstep
     obtain ⟨l, hl⟩ : ∃ l, l = r.length := ⟨_, rfl⟩
     obtain ⟨row, hrw⟩ : ∃ row, row = [Tree.v (.bool s2), .lst false r2, .v (.bool t2), .lst false p2, .v (.int .i64 0), .v (.int .i64 0), .v (.int .i64 0), .v (.int .i64 0), .v (.int .i64 0), .v (.int .i64 0), .v (.int .i64 I), .v (.int .i64 0)] := ⟨_, rfl⟩
     have hrm : [Tree.v (.bool s2), .lst false r2, .v (.bool t2), .lst false p2] ++ mrow 6 m' = row := by rw [hrw, hIi]; rfl
     rw [hrm] at hstep
     have hr4 : row.length = 12 := by rw [hrw]; rfl
     have u0 : zn [row] 0 1 = [row] := by rw [hS.part]; rfl
     have u1 : zm 0 1 [row] = true := by rw [hS.fit]; rfl
     have u2 : zQ (za (zg [row]) 0) = true := by rw [hS.len, hS.neq, hS.not]; rfl
     have u3 : zr 12 [row] = true := by rw [hS.wide]; simp [hr4]
     have u3' : zr 12 [] = true := by rw [hS.wide]; rfl
     have u4 : ze l (zg [row]) 128 = true := by rw [hS.len, hS.room]; exact decide_eq_true (by unfold capBytes; simp only [List.length_cons, List.length_nil]; omega)
     have u4' : ze (zg []) (zg [row]) 128 = true := by rw [hS.len, hS.len, hS.room]; exact decide_eq_true (by unfold capBytes; simp only [List.length_cons, List.length_nil]; omega)
     have u5 : za (zb 0 l) (zg r) = true := by rw [hS.nadd, hS.neq, hS.len, <- hl, Nat.zero_add]; exact decide_eq_true rfl
     have u6 : zb l (zg [row]) = l + 1 := by rw [hS.len, hS.nadd]; rfl
     have u6' : zb (zg []) (zg [row]) = 1 := by rw [hS.len, hS.len, hS.nadd]; rfl
     have u7 : zo r 0 [row] = r ++ [row] := by rw [hS.ext, List.drop_zero]
     have u7' : zo [] 0 [row] = [row] := by rw [hS.ext]; rfl
     have hl1 : l + 1 = (r ++ [row]).length := by rw [List.length_append, hl]; rfl
     have hnx : ∃ (k2 : Nat) (I2 : Int) (r' : Abs.Rows), I2 + 1 = (m' : Int) /\ m' + k2 = n /\ r' = tmT P 6 k2 /\ ((r' = [] /\ utoS1 6 X (l + 1) (r ++ [row]) I' = utoS0 6 X I2) ∨ ∃ l', l' = r'.length /\ utoS1 6 X (l + 1) (r ++ [row]) I' = utoS1 6 X l' r' I2) := ⟨k + 1, I', r ++ [row], hI', by omega, hstep.symm, .inr ⟨l + 1, hl1, rfl⟩⟩
     rcases hcase with ⟨hr0, hs1⟩ | ⟨l', hl', hs1⟩
     ·subst hr0
      obtain rfl : l = 0 := hl
      subst hs1
      cbv
      refine bT l1 ?_
      rw [j1, j2]
      cbv
      refine nd l1 ?_
      refine ⟨_, hS.call (cS), ?_⟩
      cbv
      refine bT q1 ?_
      rw [j1, j2]
      cbv
      refine nd l1 ?_
      rw [<- hrw, u0]
      refine nd u1 (nd u2 (nd u3 (nd u3' (nd u4' ?_))))
      refine againR [(2, 6)] (s' := utoS1 6 X (0 + 1) ([] ++ [row]) I') (k := m') ?_ ?_ ?_ ?_ rfl (by show 2 <= 3; omega) hmm hnx
      ·simp [leTR, utoS1, mkSt, vi, AV.ren, AV.noTup, Cell.ren, renF, i1, u6']
      ·simp [leHR, utoS1, mkSt, Abs.look, renF, Blk.ren, u7', Cell.ren]
      ·simp [liveR, utoS1, mkSt, renF]
      ·simp
     ·obtain rfl : l' = l := by rw [hl, hl']
      subst hs1
      cbv
      refine bT l1 ?_
      rw [j1, j2]
      cbv
      refine nd l1 ?_
      refine ⟨_, hS.call (cS), ?_⟩
      cbv
      refine bT q1 ?_
      rw [j1, j2]
      cbv
      refine nd l1 ?_
      rw [<- hrw, u0]
      refine nd u1 (nd u2 (nd u3 (nd u4 (nd u5 ?_))))
      refine againR [(2, 7)] (s' := utoS1 6 X (l' + 1) (r ++ [row]) I') (k := m') ?_ ?_ ?_ ?_ rfl (by show 2 <= 3; omega) hmm hnx
      ·simp [leTR, utoS1, mkSt, vi, AV.ren, AV.noTup, Cell.ren, renF, i1, u6]
      ·simp [leHR, utoS1, mkSt, Abs.look, renF, Blk.ren, u7, Cell.ren]
      ·simp [liveR, utoS1, mkSt, renF]
      ·simp
 ·refine callZ ccOk mixed [.val, .val] Tryz.func54 rfl rfl (by kernel_rfl) fun zA zB zC zD zE zF zG zH zI zJ zK zL zM zN zO zP zQ zR zS zT zU zV zX zY zZ za zb zc zd ze zf zg zh zi zj zk zl zm zn zo zp zq zr zs zt zu zw zx zy A L F hS hF => ?_
  have hlx : zg X = n := by rw [hS.len, lX]
  obtain ⟨N, hN, hN2⟩ : ∃ N : Int, N + 1 = n /\ zA .i64 (zC (zY (zg X)) 1) = N := ⟨(n : Int) - 1, by omega, by rw [hlx, hS.ofN, hS.sub, hS.wrap, wrap_i64 (by omega) (by omega)]⟩
  have a1 : zO 7 0 = false := by rw [hS.lt]; rfl
  have a2 : zP 8 7 = false := by rw [hS.le]; rfl
  have a3 : zO 65535 N = false := by rw [hS.lt]; exact decide_eq_false (by omega)
  cbv
  have hN : N + 1 = (n : Int) := hN
  rw [hN2]
  refine bF a1 (bF a2 (bF a3 ?_))
  refine loopZR ccOk mixed hS (fun (m : Nat) s' => ∃ (k : Nat) (I : Int) (r : Abs.Rows), I + 1 = m /\ m + k = n /\ r = tmT P 7 k /\ ((r = [] /\ s' = utoS0 7 X I) ∨ ∃ l, l = r.length /\ s' = utoS1 7 X l r I)) (n := n) (s0 := utoS0 7 X N) (qaj ?_ ?_) rfl (by show 2 <= 2; omega) ?_ ?_
  ·simp [leT, utoS0, mkSt, vi, vb]
  ·simp [leH, utoS0, mkSt]
  ·exact ⟨0, N, [], hN, by omega, rfl, .inl ⟨rfl, rfl⟩⟩
  ·rintro m s1 ⟨k, I, r, hI, hmk, hr, hcase⟩
   by_cases hm : m = 0
   ·have l1 : zP 0 I = false := by rw [hS.le]; exact decide_eq_false (by omega)
    rw [show n = k by omega, <- hr] at hT
    subst hT
    rcases hcase with ⟨hr0, hs1⟩ | ⟨l, hl, hs1⟩
    ·subst hr0
     subst hs1
     cbv
     refine bF l1 ?_
     exact fin2w hF (TLe.drop _ _) (TVLe.refl _)
    ·have f1 : zm 0 l T = true := by rw [hS.fit]; exact decide_eq_true (by omega)
     have f2 : zn T 0 l = T := by rw [hS.part, List.drop_zero, List.take_of_length_le (by omega)]
     subst hs1
     cbv
     refine bF l1 (nd f1 ?_)
     rw [f2]
     exact hF _ (ResLe.refl _)
   ·have l1 : zP 0 I = true := by rw [hS.le]; exact decide_eq_true (by omega)
    obtain ⟨m', rfl⟩ : ∃ m', m = m' + 1 := ⟨m - 1, by omega⟩
    have hIi : I = (m' : Int) := by omega
    obtain ⟨c, hc⟩ : ∃ c, c = P.getD m' 0 := ⟨_, rfl⟩
    have hPi : P[m']? = some c := by rw [hc, List.getD_eq_getElem?_getD, List.getElem?_eq_getElem (by omega)]; rfl
    have hXi : X[m']? = some (qc c).row := by rw [hX]; exact qau hPi
    have hstep : tmT P 7 (k + 1) = if c = 0 then r else r ++ [(qc c).row ++ mrow 7 m'] := by
     rw [tmT, show P.length - (k + 1) = m' by omega, <- hc, hr]
    have hrlen : r.length <= k := by rw [hr]; exact tmT_len P 7 k
    obtain ⟨C, hC, cS⟩ := usign_row c
    obtain ⟨s2, t2, r2, p2, hrow2, _⟩ := qrow c
    rw [hrow2] at hXi cS hstep
    have j1 : zV I = m' := by rw [hS.nat]; omega
    have j2 : zh X m' = some [.v (.bool s2), .lst false r2, .v (.bool t2), .lst false p2] := by rw [hS.nth]; exact hXi
    obtain ⟨I', hI', i1⟩ : ∃ I' : Int, I' + 1 = (m' : Int) /\ zA .i64 (zC I 1) = I' := ⟨I - 1, by omega, by rw [hS.sub, hS.wrap, wrap_i64 (by omega) (by omega)]⟩
    have hmm : m' < m' + 1 := by omega
    by_cases hc0 : c = 0
    ·have q1 : zN C 0 = false := by rw [hS.ne]; exact decide_eq_false (by simp [hC.2 hc0])
     rw [if_pos hc0] at hstep
     rcases hcase with ⟨hr0, hs1⟩ | ⟨l, hl, hs1⟩
     ·have hnx : ∃ (k2 : Nat) (I2 : Int) (r' : Abs.Rows), I2 + 1 = (m' : Int) /\ m' + k2 = n /\ r' = tmT P 7 k2 /\ ((r' = [] /\ utoS0 7 X I' = utoS0 7 X I2) ∨ ∃ l, l = r'.length /\ utoS0 7 X I' = utoS1 7 X l r' I2) := ⟨k + 1, I', r, hI', by omega, hstep.symm, .inl ⟨hr0, rfl⟩⟩
      subst hs1
      cbv
      refine bT l1 ?_
      rw [j1, j2]
      cbv
      refine nd l1 ?_
      refine ⟨_, hS.call (cS), ?_⟩
      cbv
      refine bF q1 ?_
      refine againR [] (s' := utoS0 7 X I') (k := m') ?_ ?_ ?_ ?_ rfl (by show 2 <= 2; omega) hmm hnx
      ·simp [leTR, utoS0, mkSt, vi, AV.ren, AV.noTup, Cell.ren, renF, i1]
      ·simp [leHR, utoS0, mkSt, Abs.look, renF, Blk.ren, Cell.ren]
      ·simp [liveR, utoS0, mkSt, renF]
      ·simp
     ·have hnx : ∃ (k2 : Nat) (I2 : Int) (r' : Abs.Rows), I2 + 1 = (m' : Int) /\ m' + k2 = n /\ r' = tmT P 7 k2 /\ ((r' = [] /\ utoS1 7 X l r I' = utoS0 7 X I2) ∨ ∃ l', l' = r'.length /\ utoS1 7 X l r I' = utoS1 7 X l' r' I2) := ⟨k + 1, I', r, hI', by omega, hstep.symm, .inr ⟨l, hl, rfl⟩⟩
      subst hs1
      cbv
      refine bT l1 ?_
      rw [j1, j2]
      cbv
      refine nd l1 ?_
      refine ⟨_, hS.call (cS), ?_⟩
      cbv
      refine bF q1 ?_
      refine againR [(2, 2)] (s' := utoS1 7 X l r I') (k := m') ?_ ?_ ?_ ?_ rfl (by show 2 <= 3; omega) hmm hnx
      ·simp [leTR, utoS1, mkSt, vi, AV.ren, AV.noTup, Cell.ren, renF, i1]
      ·simp [leHR, utoS1, mkSt, Abs.look, renF, Blk.ren, Cell.ren]
      ·simp [liveR, utoS1, mkSt, renF]
      ·simp
    ·have q1 : zN C 0 = true := by rw [hS.ne]; exact decide_eq_true (fun h => hc0 (hC.1 h))
     rw [if_neg hc0] at hstep
     obtain ⟨l, hl⟩ : ∃ l, l = r.length := ⟨_, rfl⟩
     obtain ⟨row, hrw⟩ : ∃ row, row = [Tree.v (.bool s2), .lst false r2, .v (.bool t2), .lst false p2, .v (.int .i64 0), .v (.int .i64 0), .v (.int .i64 0), .v (.int .i64 0), .v (.int .i64 0), .v (.int .i64 0), .v (.int .i64 0), .v (.int .i64 I)] := ⟨_, rfl⟩
     have hrm : [Tree.v (.bool s2), .lst false r2, .v (.bool t2), .lst false p2] ++ mrow 7 m' = row := by rw [hrw, hIi]; rfl
     rw [hrm] at hstep
     have hr4 : row.length = 12 := by rw [hrw]; rfl
     have u0 : zn [row] 0 1 = [row] := by rw [hS.part]; rfl
     have u1 : zm 0 1 [row] = true := by rw [hS.fit]; rfl
     have u2 : zQ (za (zg [row]) 0) = true := by rw [hS.len, hS.neq, hS.not]; rfl
     have u3 : zr 12 [row] = true := by rw [hS.wide]; simp [hr4]
     have u3' : zr 12 [] = true := by rw [hS.wide]; rfl
     have u4 : ze l (zg [row]) 128 = true := by rw [hS.len, hS.room]; exact decide_eq_true (by unfold capBytes; simp only [List.length_cons, List.length_nil]; omega)
     have u4' : ze (zg []) (zg [row]) 128 = true := by rw [hS.len, hS.len, hS.room]; exact decide_eq_true (by unfold capBytes; simp only [List.length_cons, List.length_nil]; omega)
     have u5 : za (zb 0 l) (zg r) = true := by rw [hS.nadd, hS.neq, hS.len, <- hl, Nat.zero_add]; exact decide_eq_true rfl
     have u6 : zb l (zg [row]) = l + 1 := by rw [hS.len, hS.nadd]; rfl
     have u6' : zb (zg []) (zg [row]) = 1 := by rw [hS.len, hS.len, hS.nadd]; rfl
     have u7 : zo r 0 [row] = r ++ [row] := by rw [hS.ext, List.drop_zero]
     have u7' : zo [] 0 [row] = [row] := by rw [hS.ext]; rfl
     have hl1 : l + 1 = (r ++ [row]).length := by rw [List.length_append, hl]; rfl
     have hnx : ∃ (k2 : Nat) (I2 : Int) (r' : Abs.Rows), I2 + 1 = (m' : Int) /\ m' + k2 = n /\ r' = tmT P 7 k2 /\ ((r' = [] /\ utoS1 7 X (l + 1) (r ++ [row]) I' = utoS0 7 X I2) ∨ ∃ l', l' = r'.length /\ utoS1 7 X (l + 1) (r ++ [row]) I' = utoS1 7 X l' r' I2) := ⟨k + 1, I', r ++ [row], hI', by omega, hstep.symm, .inr ⟨l + 1, hl1, rfl⟩⟩
     rcases hcase with ⟨hr0, hs1⟩ | ⟨l', hl', hs1⟩
     ·subst hr0
      obtain rfl : l = 0 := hl
      subst hs1
      cbv
      refine bT l1 ?_
      rw [j1, j2]
      cbv
      refine nd l1 ?_
      refine ⟨_, hS.call (cS), ?_⟩
      cbv
      refine bT q1 ?_
      rw [j1, j2]
      cbv
      refine nd l1 ?_
      rw [<- hrw, u0]
      refine nd u1 (nd u2 (nd u3 (nd u3' (nd u4' ?_))))
      refine againR [(2, 6)] (s' := utoS1 7 X (0 + 1) ([] ++ [row]) I') (k := m') ?_ ?_ ?_ ?_ rfl (by show 2 <= 3; omega) hmm hnx
      ·simp [leTR, utoS1, mkSt, vi, AV.ren, AV.noTup, Cell.ren, renF, i1, u6']
      ·simp [leHR, utoS1, mkSt, Abs.look, renF, Blk.ren, u7', Cell.ren]
      ·simp [liveR, utoS1, mkSt, renF]
      ·simp
     ·obtain rfl : l' = l := by rw [hl, hl']
      subst hs1
      cbv
      refine bT l1 ?_
      rw [j1, j2]
      cbv
      refine nd l1 ?_
      refine ⟨_, hS.call (cS), ?_⟩
      cbv
      refine bT q1 ?_
      rw [j1, j2]
      cbv
      refine nd l1 ?_
      rw [<- hrw, u0]
      refine nd u1 (nd u2 (nd u3 (nd u4 (nd u5 ?_))))
      refine againR [(2, 7)] (s' := utoS1 7 X (l' + 1) (r ++ [row]) I') (k := m') ?_ ?_ ?_ ?_ rfl (by show 2 <= 3; omega) hmm hnx
      ·simp [leTR, utoS1, mkSt, vi, AV.ren, AV.noTup, Cell.ren, renF, i1, u6]
      ·simp [leHR, utoS1, mkSt, Abs.look, renF, Blk.ren, u7, Cell.ren]
      ·simp [liveR, utoS1, mkSt, renF]
      ·simp
theorem uto_err (X : Abs.Rows) (i : Int) (hi : i < 0 ∨ 7 < i) : ACall Tryz.prog 54 [.val (tl X), .val (ti .i64 i)] ⟨[.val (tl []), .val (ti .i64 1)], [none, none]⟩ := by
 by_cases h : i < 0
 ·refine callZ ccOk mixed [.val, .val] Tryz.func54 rfl rfl (by kernel_rfl) fun zA zB zC zD zE zF zG zH zI zJ zK zL zM zN zO zP zQ zR zS zT zU zV zX zY zZ za zb zc zd ze zf zg zh zi zj zk zl zm zn zo zp zq zr zs zt zu zw zx zy A L F hS hF => ?_
  have a1 : zO i 0 = true := by rw [hS.lt]; exact decide_eq_true h
  cbv
  refine bT a1 ?_
  exact fin2w hF (TLe.drop _ _) (TVLe.refl _)
 ·refine callZ ccOk mixed [.val, .val] Tryz.func54 rfl rfl (by kernel_rfl) fun zA zB zC zD zE zF zG zH zI zJ zK zL zM zN zO zP zQ zR zS zT zU zV zX zY zZ za zb zc zd ze zf zg zh zi zj zk zl zm zn zo zp zq zr zs zt zu zw zx zy A L F hS hF => ?_
  have a1 : zO i 0 = false := by rw [hS.lt]; exact decide_eq_false h
  have a2 : zP 8 i = true := by rw [hS.le]; exact decide_eq_true (by omega)
  cbv
  refine bF a1 (bT a2 ?_)
  exact fin2w hF (TLe.drop _ _) (TVLe.refl _)
open Go Go.Abs Go.Abs.M Go.Proofs
def exT (P : List Rat) : Nat -> List Nat
 | 0 => []
 | k + 1 => if P.getD (P.length - (k + 1)) 0 = 0 then exT P k else exT P k ++ [P.length - (k + 1)]
theorem qan (P : List Rat) (i : Nat) : ∀ k, tmT P i k = (exT P k).map fun e => (qc (P.getD e 0)).row ++ mrow i e
 | 0 => rfl
 | k + 1 => by
  rw [tmT, exT, qan P i k]
  split
  ·rfl
  ·rw [List.map_append]; rfl
theorem exT_len (P : List Rat) : ∀ k, (exT P k).length <= k
 | 0 => Nat.le_refl _
 | k + 1 => by
  have h := exT_len P k
  unfold exT; split
  ·omega
  ·rw [List.length_append, List.length_singleton]; omega
theorem exT_mem {P : List Rat} {e : Nat} : ∀ k, k <= P.length -> (e ∈ exT P k ↔ P.length - k <= e /\ e < P.length /\ P.getD e 0 ≠ 0)
 | 0, _ => by simp [exT]; omega
 | k + 1, h => by
  have ih := exT_mem (P := P) (e := e) k (by omega)
  rw [exT]
  by_cases he : e = P.length - (k + 1)
  ·subst he
   split
   ·rename_i h0; rw [ih]; simp only [h0]; exact ⟨fun hh => absurd hh.1 (by omega), fun hh => absurd rfl hh.2.2⟩
   ·rename_i h0; rw [List.mem_append]; simp only [List.mem_singleton, or_true, true_iff]; exact ⟨by omega, by omega, h0⟩
  ·split
   ·rw [ih]; constructor <;> intro hh <;> exact ⟨by omega, hh.2⟩
   ·rw [List.mem_append, ih, List.mem_singleton]
    constructor
    ·rintro (hh | hh)
     ·exact ⟨by omega, hh.2⟩
     ·exact absurd hh he
    ·intro hh; exact .inl ⟨by omega, hh.2⟩
theorem qba {P : List Rat} (h : P.getD (P.length - 1) 0 ≠ 0) : ∀ k, 1 <= k -> (exT P k)[0]? = some (P.length - 1)
 | 1, _ => by
  rw [exT, if_neg h]; rfl
 | k + 2, _ => by
  have ih := qba h (k + 1) (by omega)
  rw [exT]
  split
  ·exact ih
  ·rw [List.getElem?_append_left (List.getElem?_eq_some_iff.1 ih).1, ih]
def setE (P : List Rat) : List Rat -> List Nat -> List Rat
 | R, [] => R
 | R, e :: es => setE P (R.set e (P.getD e 0)) es
theorem setE_app (P : List Rat) : ∀ (R : List Rat) (a b : List Nat), setE P R (a ++ b) = setE P (setE P R a) b
 | R, [], b => rfl
 | R, e :: a, b => setE_app P _ a b
theorem qar (P : List Rat) : ∀ (R : List Rat) (a : List Nat), (setE P R a).length = R.length
 | R, [] => rfl
 | R, e :: a => by rw [setE, qar P _ a, List.length_set]
theorem setE_get (P : List Rat) (j : Nat) : ∀ (R : List Rat) (a : List Nat), (∀ e ∈ a, e < R.length) -> (setE P R a).getD j 0 = if j ∈ a then P.getD j 0 else R.getD j 0
 | R, [], _ => rfl
 | R, e :: a, h => by
  rw [setE, setE_get P j _ a (fun x hx => by rw [List.length_set]; exact h x (List.mem_cons_of_mem _ hx))]
  have he := h e List.mem_cons_self
  by_cases hj : j ∈ a
  ·rw [if_pos hj, if_pos (List.mem_cons_of_mem _ hj)]
  ·rw [if_neg hj, List.getD_eq_getElem?_getD, List.getElem?_set]
   by_cases hje : e = j
   ·subst hje
    rw [if_pos rfl, if_pos (List.mem_cons_self), if_pos he]; rfl
   ·rw [if_neg hje, if_neg (by rw [List.mem_cons]; rintro (h1 | h1); exact hje h1.symm; exact hj h1), <- List.getD_eq_getElem?_getD]
theorem setE_all (P : List Rat) : setE P (List.replicate P.length 0) (exT P P.length) = P := by
 refine List.ext_getElem? fun j => ?_
 have hl := qar P (List.replicate P.length 0) (exT P P.length)
 rw [List.length_replicate] at hl
 by_cases hj : j < P.length
 ·have h := setE_get P j (List.replicate P.length 0) (exT P P.length) fun e he => by
   rw [List.length_replicate]; exact ((exT_mem _ (Nat.le_refl _)).1 he).2.1
  rw [List.getElem?_eq_getElem hj, List.getElem?_eq_getElem (by omega)]
  rw [List.getD_eq_getElem?_getD, List.getElem?_eq_getElem (by omega)] at h
  congr 1
  rw [show P[j] = P.getD j 0 by rw [List.getD_eq_getElem?_getD, List.getElem?_eq_getElem hj]; rfl]
  refine Eq.trans h ?_
  split
  ·rfl
  ·rename_i h0
   rw [exT_mem _ (Nat.le_refl _)] at h0
   rw [List.getD_eq_getElem?_getD, List.getElem?_replicate, if_pos hj]
   have : P.getD j 0 = 0 := Classical.byContradiction fun h1 => h0 ⟨by omega, hj, h1⟩
   rw [this]; rfl
 ·rw [List.getElem?_eq_none (by omega), List.getElem?_eq_none (by omega)]
def ufrS (d : Int) (X : Abs.Rows) (N D I : Int) : St := mkSt 62 [.c (.t (.lst false X)), vi .i64 d, .junk, .junk, .junk, .junk, vi .i64 D, .junk, .junk, .junk, .junk, .junk, .junk, .junk, .junk, .junk, .junk, .junk, .junk, .c (.t (.lst false X)), vi .i64 N, vi .i64 I] [none, none]
def ufrT (d : Int) (X : Abs.Rows) (n : Nat) (R : Abs.Rows) (N I : Int) : St := mkSt 62 [.junk, vi .i64 d, .junk, .junk, .junk, .junk, .junk, .junk, .junk, .junk, .c (.sl 2 0 n false), .junk, .junk, .junk, .junk, .junk, .junk, .junk, .junk, .junk, .junk, .junk, .junk, .junk, .junk, .junk, .junk, .junk, .junk, .junk, .junk, .junk, .junk, .junk, .junk, .junk, .junk, .junk, .junk, .junk, .junk, .junk, .junk, .junk, .junk, .junk, .c (.t (.lst false X)), vi .i64 N, vi .i64 I] [none, none, some (.rows 4 R true false)]
theorem ufrom_call (P : List Rat) (hP : P.length <= 1000) (hP0 : P ≠ [] -> P.getD (P.length - 1) 0 ≠ 0) (i : Nat) (hi : i < 8) : ACall Tryz.prog 55 [.val (tl (tmT P i P.length)), .val (ti .i64 i)] ⟨[.val (tl (ur P)), .val (ti .i64 0)], [none, none]⟩ := by
 obtain ⟨n, hn⟩ : ∃ n, n = P.length := ⟨_, rfl⟩
 obtain ⟨X, hX⟩ : ∃ X, X = tmT P i P.length := ⟨_, rfl⟩
 obtain ⟨es, hes⟩ : ∃ es, es = exT P P.length := ⟨_, rfl⟩
 obtain ⟨l, hl⟩ : ∃ l, l = es.length := ⟨_, rfl⟩
 have hln : l <= n := by rw [hl, hes, hn]; exact exT_len _ _
 have lX : X.length = l := by rw [hX, qan, List.length_map, hl, hes]
 have hmem : ∀ e ∈ es, P.length - P.length <= e /\ e < P.length /\ P.getD e 0 ≠ 0 := fun e he => (exT_mem _ (Nat.le_refl _)).1 (hes ▸ he)
 have hl0 : l = 0 -> n = 0 := fun h0 => by
  by_cases hp : P = []
  ·rw [hn, hp]; rfl
  ·have hp1 : 1 <= P.length := List.length_pos_iff.2 hp
   have := qba (hP0 hp) P.length hp1
   have := (List.getElem?_eq_some_iff.1 this).1
   rw [<- hes] at this
   omega
 have cz := uzeros_call n (by omega)
 obtain ⟨Z, hZ⟩ : ∃ Z, Z = ur (List.replicate n 0) := ⟨_, rfl⟩
 have lZ : Z.length = n := by rw [hZ, ur_len, List.length_replicate]
 rw [<- hZ] at cz
 rw [<- hX]
 obtain rfl | rfl | rfl | rfl | rfl | rfl | rfl | rfl : i = 0 ∨ i = 1 ∨ i = 2 ∨ i = 3 ∨ i = 4 ∨ i = 5 ∨ i = 6 ∨ i = 7 := by omega
 ·refine callZ ccOk mixed [.val, .val] Tryz.func55 rfl rfl (by kernel_rfl) fun zA zB zC zD zE zF zG zH zI zJ zK zL zM zN zO zP zQ zR zS zT zU zV zX zY zZ za zb zc zd ze zf zg zh zi zj zk zl zm zn zo zp zq zr zs zt zu zw zx zy A L F hS hF => ?_
  obtain ⟨N, hN, hN2⟩ : ∃ N : Int, N = l /\ zY (zg X) = N := ⟨_, rfl, by rw [hS.len, lX, hS.ofN]⟩
  have lz : zg Z = n := by rw [hS.len, lZ]
  have a1 : zO 0 0 = false := by rw [hS.lt]; rfl
  have a2 : zP 8 0 = false := by rw [hS.le]; rfl
  cbv
  have hN : N = (l : Int) := hN
  rw [hN2]
  refine bF a1 (bF a2 ?_)
  refine loopZR ccOk mixed hS (fun (m : Nat) s' => ∃ (k : Nat) (I D : Int), I = k /\ m + k = l /\ D = (if k = 0 then (-1 : Int) else (n : Int) - 1) /\ s' = ufrS 0 X N D I) (n := l) (s0 := ufrS 0 X N (-1) 0) (qaj ?_ ?_) rfl (by show 2 <= 2; omega) ?_ ?_
  ·simp [leT, ufrS, mkSt, vi, vb]
  ·simp [leH, ufrS, mkSt]
  ·exact ⟨0, 0, -1, rfl, by omega, rfl, rfl⟩
  ·rintro m s1 ⟨k, I, D, hI, hmk, hD, hs1⟩
   by_cases hm : m = 0
   ·have l1 : zO I N = false := by rw [hS.lt]; exact decide_eq_false (by omega)
    have hDn : D + 1 = (n : Int) := by
     rw [hD]
     split
     ·have := hl0 (by omega); omega
     ·omega
    have hz1 : (n : Int) = zA .i64 (zB D 1) := by rw [hS.add, hS.wrap, wrap_i64 (by omega) (by omega)]; omega
    subst hs1
    cbv
    refine bF l1 ?_
    refine ⟨_, hS.call (hz1 ▸ cz), ?_⟩
    cbv
    have hN : N = (l : Int) := hN
    refine loopZR ccOk mixed hS (fun (m : Nat) s' => ∃ (k : Nat) (I : Int) (R : Abs.Rows), I = k /\ m + k = l /\ R = ur (setE P (List.replicate n 0) (es.take k)) /\ s' = ufrT 0 X n R N I) (n := l) (s0 := ufrT 0 X n Z N 0) (qaj ?_ ?_) rfl (by show 2 <= 3; omega) ?_ ?_
    ·simp [leT, ufrT, mkSt, vi, vb, hN2, lz]
    ·simp [leH, ufrT, mkSt]
    ·exact ⟨0, 0, Z, rfl, by omega, hZ, rfl⟩
    ·rintro m s1 ⟨k, I, R, hI, hmk, hR, hs1⟩
     have hRl : R.length = n := by rw [hR, ur_len, qar, List.length_replicate]
     by_cases hm : m = 0
     ·have l1 : zO I N = false := by rw [hS.lt]; exact decide_eq_false (by omega)
      have f1 : zm 0 n R = true := by rw [hS.fit]; exact decide_eq_true (by omega)
      have f2 : zn R 0 n = ur P := by rw [hS.part, List.drop_zero, List.take_of_length_le (by omega), hR, List.take_of_length_le (by omega), hes, hn, setE_all]
      subst hs1
      cbv
      refine bF l1 (nd f1 ?_)
      rw [f2]
      exact hF _ (ResLe.refl _)
     ·have l1 : zO I N = true := by rw [hS.lt]; exact decide_eq_true (by omega)
      obtain ⟨e, he⟩ : ∃ e, es[k]? = some e := ⟨_, List.getElem?_eq_getElem (by omega)⟩
      obtain ⟨he1, he2, he3⟩ := hmem e (List.mem_of_getElem? he)
      obtain ⟨c, hc⟩ : ∃ c, c = P.getD e 0 := ⟨_, rfl⟩
      obtain ⟨s2, t2, r2, p2, hrow2, _⟩ := qrow c
      obtain ⟨J, hJ⟩ : ∃ J : Int, J = (e : Int) := ⟨_, rfl⟩
      have hXk : X[k]? = some [Tree.v (.bool s2), .lst false r2, .v (.bool t2), .lst false p2, .v (.int .i64 J), .v (.int .i64 0), .v (.int .i64 0), .v (.int .i64 0), .v (.int .i64 0), .v (.int .i64 0), .v (.int .i64 0), .v (.int .i64 0)] := by
       rw [hX, qan, <- hes, List.getElem?_map, he, Option.map_some, <- hc, hrow2, hJ]; rfl
      have j1 : zV I = k := by rw [hS.nat]; omega
      have n0 : zP 0 I = true := by rw [hS.le]; exact decide_eq_true (by omega)
      have j2 : zh X k = some [Tree.v (.bool s2), .lst false r2, .v (.bool t2), .lst false p2, .v (.int .i64 J), .v (.int .i64 0), .v (.int .i64 0), .v (.int .i64 0), .v (.int .i64 0), .v (.int .i64 0), .v (.int .i64 0), .v (.int .i64 0)] := by rw [hS.nth]; exact hXk
      obtain ⟨I', hI', i1⟩ : ∃ I' : Int, I' = ((k + 1 : Nat) : Int) /\ zA .i64 (zB I 1) = I' := ⟨I + 1, by omega, by rw [hS.add, hS.wrap, wrap_i64 (by omega) (by omega)]⟩
      have hjj : m - 1 < m := by omega
      obtain ⟨R2, hR2⟩ : ∃ R2, R2 = ur (setE P (List.replicate n 0) (es.take (k + 1))) := ⟨_, rfl⟩
      have hset : R.set e [.v (.bool s2), .lst false r2, .v (.bool t2), .lst false p2] = R2 := by
       rw [hR2, List.take_add_one, he, Option.toList_some, setE_app, setE, setE, <- hc, <- ur_set, hrow2, hR]
      have g1 : zX J n = true := by rw [hS.inb]; exact decide_eq_true (by omega)
      have g2 : zZ 0 J = e := by rw [hS.idx]; omega
      obtain ⟨y, hy⟩ : ∃ y, (setE P (List.replicate n 0) (es.take k))[e]? = some y := ⟨_, List.getElem?_eq_getElem (by rw [qar, List.length_replicate]; omega)⟩
      obtain ⟨s3, t3, r3, p3, hrow3, _⟩ := qrow y
      have hRe := qau hy
      rw [<- hR, hrow3] at hRe
      have g3 : zh R e = some [.v (.bool s3), .lst false r3, .v (.bool t3), .lst false p3] := by rw [hS.nth]; exact hRe
      have g4 : zi R e [.v (.bool s2), .lst false r2, .v (.bool t2), .lst false p2] = R2 := by rw [hS.setr]; exact hset
      have hnx : ∃ (k2 : Nat) (I2 : Int) (R' : Abs.Rows), I2 = k2 /\ (m - 1) + k2 = l /\ R' = ur (setE P (List.replicate n 0) (es.take k2)) /\ ufrT 0 X n R2 N I' = ufrT 0 X n R' N I2 := ⟨k + 1, I', R2, hI', by omega, hR2, rfl⟩
      subst hs1
      cbv
      refine bT l1 ?_
      rw [j1, j2]
      cbv
      refine nd n0 (nd g1 ?_)
      rw [g2, g3]
      cbv
      refine againR [(2, 2)] (s' := ufrT 0 X n R2 N I') (k := m - 1) ?_ ?_ ?_ ?_ rfl (by show 2 <= 3; omega) hjj hnx
      ·simp [leTR, ufrT, mkSt, vi, AV.ren, AV.noTup, Cell.ren, renF, i1]
      ·simp [leHR, ufrT, mkSt, Abs.look, renF, Blk.ren, Cell.ren, g4]
      ·simp [liveR, ufrT, mkSt, renF]
      ·simp
   ·have l1 : zO I N = true := by rw [hS.lt]; exact decide_eq_true (by omega)
    obtain ⟨e, he⟩ : ∃ e, es[k]? = some e := ⟨_, List.getElem?_eq_getElem (by omega)⟩
    obtain ⟨he1, he2, he3⟩ := hmem e (List.mem_of_getElem? he)
    obtain ⟨c, hc⟩ : ∃ c, c = P.getD e 0 := ⟨_, rfl⟩
    obtain ⟨s2, t2, r2, p2, hrow2, _⟩ := qrow c
    obtain ⟨J, hJ⟩ : ∃ J : Int, J = (e : Int) := ⟨_, rfl⟩
    have hXk : X[k]? = some [Tree.v (.bool s2), .lst false r2, .v (.bool t2), .lst false p2, .v (.int .i64 J), .v (.int .i64 0), .v (.int .i64 0), .v (.int .i64 0), .v (.int .i64 0), .v (.int .i64 0), .v (.int .i64 0), .v (.int .i64 0)] := by
     rw [hX, qan, <- hes, List.getElem?_map, he, Option.map_some, <- hc, hrow2, hJ]; rfl
    have j1 : zV I = k := by rw [hS.nat]; omega
    have n0 : zP 0 I = true := by rw [hS.le]; exact decide_eq_true (by omega)
    have j2 : zh X k = some [Tree.v (.bool s2), .lst false r2, .v (.bool t2), .lst false p2, .v (.int .i64 J), .v (.int .i64 0), .v (.int .i64 0), .v (.int .i64 0), .v (.int .i64 0), .v (.int .i64 0), .v (.int .i64 0), .v (.int .i64 0)] := by rw [hS.nth]; exact hXk
    obtain ⟨I', hI', i1⟩ : ∃ I' : Int, I' = ((k + 1 : Nat) : Int) /\ zA .i64 (zB I 1) = I' := ⟨I + 1, by omega, by rw [hS.add, hS.wrap, wrap_i64 (by omega) (by omega)]⟩
    have hjj : m - 1 < m := by omega
    have z1 : zM J J = true := by rw [hS.eq]; exact decide_eq_true rfl
    have z2 : zM 0 0 = true := by rw [hS.eq]; rfl
    have x1 : zT D J = (n : Int) - 1 := by
     rw [hS.max, hD]
     by_cases hk : k = 0
     ·rw [if_pos hk]
      have hp : P ≠ [] := fun h0 => by rw [h0] at he2; simp at he2
      have hp1 : 1 <= P.length := List.length_pos_iff.2 hp
      have h1 := qba (hP0 hp) P.length hp1
      rw [<- hes, <- hk, he] at h1
      have := Option.some.inj h1
      omega
     ·rw [if_neg hk]; omega
    have hnx : ∃ (k2 : Nat) (I2 D2 : Int), I2 = k2 /\ (m - 1) + k2 = l /\ D2 = (if k2 = 0 then (-1 : Int) else (n : Int) - 1) /\ ufrS 0 X N ((n : Int) - 1) I' = ufrS 0 X N D2 I2 := ⟨k + 1, I', (n : Int) - 1, hI', by omega, by rw [if_neg (by omega)], rfl⟩
    subst hs1
    cbv
    refine bT l1 ?_
    rw [j1, j2]
    cbv
    refine nd n0 ?_
    rw [z1, z2]
    cbv
    refine bF rfl ?_
    refine againR [] (s' := ufrS 0 X N ((n : Int) - 1) I') (k := m - 1) ?_ ?_ ?_ ?_ rfl (by show 2 <= 2; omega) hjj hnx
    ·simp [leTR, ufrS, mkSt, vi, AV.ren, AV.noTup, Cell.ren, renF, i1, x1]
    ·simp [leHR, ufrS, mkSt, Abs.look, renF, Blk.ren, Cell.ren]
    ·simp [liveR, ufrS, mkSt, renF]
    ·simp
 ·refine callZ ccOk mixed [.val, .val] Tryz.func55 rfl rfl (by kernel_rfl) fun zA zB zC zD zE zF zG zH zI zJ zK zL zM zN zO zP zQ zR zS zT zU zV zX zY zZ za zb zc zd ze zf zg zh zi zj zk zl zm zn zo zp zq zr zs zt zu zw zx zy A L F hS hF => ?_
  obtain ⟨N, hN, hN2⟩ : ∃ N : Int, N = l /\ zY (zg X) = N := ⟨_, rfl, by rw [hS.len, lX, hS.ofN]⟩
  have lz : zg Z = n := by rw [hS.len, lZ]
  have a1 : zO 1 0 = false := by rw [hS.lt]; rfl
  have a2 : zP 8 1 = false := by rw [hS.le]; rfl
  cbv
  have hN : N = (l : Int) := hN
  rw [hN2]
  refine bF a1 (bF a2 ?_)
  refine loopZR ccOk mixed hS (fun (m : Nat) s' => ∃ (k : Nat) (I D : Int), I = k /\ m + k = l /\ D = (if k = 0 then (-1 : Int) else (n : Int) - 1) /\ s' = ufrS 1 X N D I) (n := l) (s0 := ufrS 1 X N (-1) 0) (qaj ?_ ?_) rfl (by show 2 <= 2; omega) ?_ ?_
  ·simp [leT, ufrS, mkSt, vi, vb]
  ·simp [leH, ufrS, mkSt]
  ·exact ⟨0, 0, -1, rfl, by omega, rfl, rfl⟩
  ·rintro m s1 ⟨k, I, D, hI, hmk, hD, hs1⟩
   by_cases hm : m = 0
   ·have l1 : zO I N = false := by rw [hS.lt]; exact decide_eq_false (by omega)
    have hDn : D + 1 = (n : Int) := by
     rw [hD]
     split
     ·have := hl0 (by omega); omega
     ·omega
    have hz1 : (n : Int) = zA .i64 (zB D 1) := by rw [hS.add, hS.wrap, wrap_i64 (by omega) (by omega)]; omega
    subst hs1
    cbv
    refine bF l1 ?_
    refine ⟨_, hS.call (hz1 ▸ cz), ?_⟩
    cbv
    have hN : N = (l : Int) := hN
    refine loopZR ccOk mixed hS (fun (m : Nat) s' => ∃ (k : Nat) (I : Int) (R : Abs.Rows), I = k /\ m + k = l /\ R = ur (setE P (List.replicate n 0) (es.take k)) /\ s' = ufrT 1 X n R N I) (n := l) (s0 := ufrT 1 X n Z N 0) (qaj ?_ ?_) rfl (by show 2 <= 3; omega) ?_ ?_
    ·simp [leT, ufrT, mkSt, vi, vb, hN2, lz]
    ·simp [leH, ufrT, mkSt]
    ·exact ⟨0, 0, Z, rfl, by omega, hZ, rfl⟩
    ·rintro m s1 ⟨k, I, R, hI, hmk, hR, hs1⟩
     have hRl : R.length = n := by rw [hR, ur_len, qar, List.length_replicate]
     by_cases hm : m = 0
     ·have l1 : zO I N = false := by rw [hS.lt]; exact decide_eq_false (by omega)
      have f1 : zm 0 n R = true := by rw [hS.fit]; exact decide_eq_true (by omega)
      have f2 : zn R 0 n = ur P := by rw [hS.part, List.drop_zero, List.take_of_length_le (by omega), hR, List.take_of_length_le (by omega), hes, hn, setE_all]
      subst hs1
      cbv
      refine bF l1 (nd f1 ?_)
      rw [f2]
      exact hF _ (ResLe.refl _)
     ·have l1 : zO I N = true := by rw [hS.lt]; exact decide_eq_true (by omega)
      obtain ⟨e, he⟩ : ∃ e, es[k]? = some e := ⟨_, List.getElem?_eq_getElem (by omega)⟩
      obtain ⟨he1, he2, he3⟩ := hmem e (List.mem_of_getElem? he)
      obtain ⟨c, hc⟩ : ∃ c, c = P.getD e 0 := ⟨_, rfl⟩
      obtain ⟨s2, t2, r2, p2, hrow2, _⟩ := qrow c
      obtain ⟨J, hJ⟩ : ∃ J : Int, J = (e : Int) := ⟨_, rfl⟩
      have hXk : X[k]? = some [Tree.v (.bool s2), .lst false r2, .v (.bool t2), .lst false p2, .v (.int .i64 0), .v (.int .i64 J), .v (.int .i64 0), .v (.int .i64 0), .v (.int .i64 0), .v (.int .i64 0), .v (.int .i64 0), .v (.int .i64 0)] := by
       rw [hX, qan, <- hes, List.getElem?_map, he, Option.map_some, <- hc, hrow2, hJ]; rfl
      have j1 : zV I = k := by rw [hS.nat]; omega
      have n0 : zP 0 I = true := by rw [hS.le]; exact decide_eq_true (by omega)
      have j2 : zh X k = some [Tree.v (.bool s2), .lst false r2, .v (.bool t2), .lst false p2, .v (.int .i64 0), .v (.int .i64 J), .v (.int .i64 0), .v (.int .i64 0), .v (.int .i64 0), .v (.int .i64 0), .v (.int .i64 0), .v (.int .i64 0)] := by rw [hS.nth]; exact hXk
      obtain ⟨I', hI', i1⟩ : ∃ I' : Int, I' = ((k + 1 : Nat) : Int) /\ zA .i64 (zB I 1) = I' := ⟨I + 1, by omega, by rw [hS.add, hS.wrap, wrap_i64 (by omega) (by omega)]⟩
      have hjj : m - 1 < m := by omega
      obtain ⟨R2, hR2⟩ : ∃ R2, R2 = ur (setE P (List.replicate n 0) (es.take (k + 1))) := ⟨_, rfl⟩
      have hset : R.set e [.v (.bool s2), .lst false r2, .v (.bool t2), .lst false p2] = R2 := by
       rw [hR2, List.take_add_one, he, Option.toList_some, setE_app, setE, setE, <- hc, <- ur_set, hrow2, hR]
      have g1 : zX J n = true := by rw [hS.inb]; exact decide_eq_true (by omega)
      have g2 : zZ 0 J = e := by rw [hS.idx]; omega
      obtain ⟨y, hy⟩ : ∃ y, (setE P (List.replicate n 0) (es.take k))[e]? = some y := ⟨_, List.getElem?_eq_getElem (by rw [qar, List.length_replicate]; omega)⟩
      obtain ⟨s3, t3, r3, p3, hrow3, _⟩ := qrow y
      have hRe := qau hy
      rw [<- hR, hrow3] at hRe
      have g3 : zh R e = some [.v (.bool s3), .lst false r3, .v (.bool t3), .lst false p3] := by rw [hS.nth]; exact hRe
      have g4 : zi R e [.v (.bool s2), .lst false r2, .v (.bool t2), .lst false p2] = R2 := by rw [hS.setr]; exact hset
      have hnx : ∃ (k2 : Nat) (I2 : Int) (R' : Abs.Rows), I2 = k2 /\ (m - 1) + k2 = l /\ R' = ur (setE P (List.replicate n 0) (es.take k2)) /\ ufrT 1 X n R2 N I' = ufrT 1 X n R' N I2 := ⟨k + 1, I', R2, hI', by omega, hR2, rfl⟩
      subst hs1
      cbv
      refine bT l1 ?_
      rw [j1, j2]
      cbv
      refine nd n0 (nd g1 ?_)
      rw [g2, g3]
      cbv
      refine againR [(2, 2)] (s' := ufrT 1 X n R2 N I') (k := m - 1) ?_ ?_ ?_ ?_ rfl (by show 2 <= 3; omega) hjj hnx
      ·simp [leTR, ufrT, mkSt, vi, AV.ren, AV.noTup, Cell.ren, renF, i1]
      ·simp [leHR, ufrT, mkSt, Abs.look, renF, Blk.ren, Cell.ren, g4]
      ·simp [liveR, ufrT, mkSt, renF]
      ·simp
   ·have l1 : zO I N = true := by rw [hS.lt]; exact decide_eq_true (by omega)
    obtain ⟨e, he⟩ : ∃ e, es[k]? = some e := ⟨_, List.getElem?_eq_getElem (by omega)⟩
    obtain ⟨he1, he2, he3⟩ := hmem e (List.mem_of_getElem? he)
    obtain ⟨c, hc⟩ : ∃ c, c = P.getD e 0 := ⟨_, rfl⟩
    obtain ⟨s2, t2, r2, p2, hrow2, _⟩ := qrow c
    obtain ⟨J, hJ⟩ : ∃ J : Int, J = (e : Int) := ⟨_, rfl⟩
    have hXk : X[k]? = some [Tree.v (.bool s2), .lst false r2, .v (.bool t2), .lst false p2, .v (.int .i64 0), .v (.int .i64 J), .v (.int .i64 0), .v (.int .i64 0), .v (.int .i64 0), .v (.int .i64 0), .v (.int .i64 0), .v (.int .i64 0)] := by
     rw [hX, qan, <- hes, List.getElem?_map, he, Option.map_some, <- hc, hrow2, hJ]; rfl
    have j1 : zV I = k := by rw [hS.nat]; omega
    have n0 : zP 0 I = true := by rw [hS.le]; exact decide_eq_true (by omega)
    have j2 : zh X k = some [Tree.v (.bool s2), .lst false r2, .v (.bool t2), .lst false p2, .v (.int .i64 0), .v (.int .i64 J), .v (.int .i64 0), .v (.int .i64 0), .v (.int .i64 0), .v (.int .i64 0), .v (.int .i64 0), .v (.int .i64 0)] := by rw [hS.nth]; exact hXk
    obtain ⟨I', hI', i1⟩ : ∃ I' : Int, I' = ((k + 1 : Nat) : Int) /\ zA .i64 (zB I 1) = I' := ⟨I + 1, by omega, by rw [hS.add, hS.wrap, wrap_i64 (by omega) (by omega)]⟩
    have hjj : m - 1 < m := by omega
    have z1 : zM J J = true := by rw [hS.eq]; exact decide_eq_true rfl
    have z2 : zM 0 0 = true := by rw [hS.eq]; rfl
    have x1 : zT D J = (n : Int) - 1 := by
     rw [hS.max, hD]
     by_cases hk : k = 0
     ·rw [if_pos hk]
      have hp : P ≠ [] := fun h0 => by rw [h0] at he2; simp at he2
      have hp1 : 1 <= P.length := List.length_pos_iff.2 hp
      have h1 := qba (hP0 hp) P.length hp1
      rw [<- hes, <- hk, he] at h1
      have := Option.some.inj h1
      omega
     ·rw [if_neg hk]; omega
    have hnx : ∃ (k2 : Nat) (I2 D2 : Int), I2 = k2 /\ (m - 1) + k2 = l /\ D2 = (if k2 = 0 then (-1 : Int) else (n : Int) - 1) /\ ufrS 1 X N ((n : Int) - 1) I' = ufrS 1 X N D2 I2 := ⟨k + 1, I', (n : Int) - 1, hI', by omega, by rw [if_neg (by omega)], rfl⟩
    subst hs1
    cbv
    refine bT l1 ?_
    rw [j1, j2]
    cbv
    refine nd n0 ?_
    rw [z1, z2]
    cbv
    refine bF rfl ?_
    refine againR [] (s' := ufrS 1 X N ((n : Int) - 1) I') (k := m - 1) ?_ ?_ ?_ ?_ rfl (by show 2 <= 2; omega) hjj hnx
    ·simp [leTR, ufrS, mkSt, vi, AV.ren, AV.noTup, Cell.ren, renF, i1, x1]
    ·simp [leHR, ufrS, mkSt, Abs.look, renF, Blk.ren, Cell.ren]
    ·simp [liveR, ufrS, mkSt, renF]
    ·simp
 ·refine callZ ccOk mixed [.val, .val] Tryz.func55 rfl rfl (by kernel_rfl) fun zA zB zC zD zE zF zG zH zI zJ zK zL zM zN zO zP zQ zR zS zT zU zV zX zY zZ za zb zc zd ze zf zg zh zi zj zk zl zm zn zo zp zq zr zs zt zu zw zx zy A L F hS hF => ?_
  obtain ⟨N, hN, hN2⟩ : ∃ N : Int, N = l /\ zY (zg X) = N := ⟨_, rfl, by rw [hS.len, lX, hS.ofN]⟩
  have lz : zg Z = n := by rw [hS.len, lZ]
  have a1 : zO 2 0 = false := by rw [hS.lt]; rfl
  have a2 : zP 8 2 = false := by rw [hS.le]; rfl
  cbv
  have hN : N = (l : Int) := hN
  rw [hN2]
  refine bF a1 (bF a2 ?_)
  refine loopZR ccOk mixed hS (fun (m : Nat) s' => ∃ (k : Nat) (I D : Int), I = k /\ m + k = l /\ D = (if k = 0 then (-1 : Int) else (n : Int) - 1) /\ s' = ufrS 2 X N D I) (n := l) (s0 := ufrS 2 X N (-1) 0) (qaj ?_ ?_) rfl (by show 2 <= 2; omega) ?_ ?_
  ·simp [leT, ufrS, mkSt, vi, vb]
  ·simp [leH, ufrS, mkSt]
  ·exact ⟨0, 0, -1, rfl, by omega, rfl, rfl⟩
  ·rintro m s1 ⟨k, I, D, hI, hmk, hD, hs1⟩
   by_cases hm : m = 0
   ·have l1 : zO I N = false := by rw [hS.lt]; exact decide_eq_false (by omega)
    have hDn : D + 1 = (n : Int) := by
     rw [hD]
     split
     ·have := hl0 (by omega); omega
     ·omega
    have hz1 : (n : Int) = zA .i64 (zB D 1) := by rw [hS.add, hS.wrap, wrap_i64 (by omega) (by omega)]; omega
    subst hs1
    cbv
    refine bF l1 ?_
    refine ⟨_, hS.call (hz1 ▸ cz), ?_⟩
    cbv
    have hN : N = (l : Int) := hN
    refine loopZR ccOk mixed hS (fun (m : Nat) s' => ∃ (k : Nat) (I : Int) (R : Abs.Rows), I = k /\ m + k = l /\ R = ur (setE P (List.replicate n 0) (es.take k)) /\ s' = ufrT 2 X n R N I) (n := l) (s0 := ufrT 2 X n Z N 0) (qaj ?_ ?_) rfl (by show 2 <= 3; omega) ?_ ?_
    ·simp [leT, ufrT, mkSt, vi, vb, hN2, lz]
    ·simp [leH, ufrT, mkSt]
    ·exact ⟨0, 0, Z, rfl, by omega, hZ, rfl⟩
    ·rintro m s1 ⟨k, I, R, hI, hmk, hR, hs1⟩
     have hRl : R.length = n := by rw [hR, ur_len, qar, List.length_replicate]
     by_cases hm : m = 0
     ·have l1 : zO I N = false := by rw [hS.lt]; exact decide_eq_false (by omega)
      have f1 : zm 0 n R = true := by rw [hS.fit]; exact decide_eq_true (by omega)
      have f2 : zn R 0 n = ur P := by rw [hS.part, List.drop_zero, List.take_of_length_le (by omega), hR, List.take_of_length_le (by omega), hes, hn, setE_all]
      subst hs1
      cbv
      refine bF l1 (nd f1 ?_)
      rw [f2]
      exact hF _ (ResLe.refl _)
     ·have l1 : zO I N = true := by rw [hS.lt]; exact decide_eq_true (by omega)
      obtain ⟨e, he⟩ : ∃ e, es[k]? = some e := ⟨_, List.getElem?_eq_getElem (by omega)⟩
      obtain ⟨he1, he2, he3⟩ := hmem e (List.mem_of_getElem? he)
      obtain ⟨c, hc⟩ : ∃ c, c = P.getD e 0 := ⟨_, rfl⟩
      obtain ⟨s2, t2, r2, p2, hrow2, _⟩ := qrow c
      obtain ⟨J, hJ⟩ : ∃ J : Int, J = (e : Int) := ⟨_, rfl⟩
      have hXk : X[k]? = some [Tree.v (.bool s2), .lst false r2, .v (.bool t2), .lst false p2, .v (.int .i64 0), .v (.int .i64 0), .v (.int .i64 J), .v (.int .i64 0), .v (.int .i64 0), .v (.int .i64 0), .v (.int .i64 0), .v (.int .i64 0)] := by
       rw [hX, qan, <- hes, List.getElem?_map, he, Option.map_some, <- hc, hrow2, hJ]; rfl
      have j1 : zV I = k := by rw [hS.nat]; omega
      have n0 : zP 0 I = true := by rw [hS.le]; exact decide_eq_true (by omega)
      have j2 : zh X k = some [Tree.v (.bool s2), .lst false r2, .v (.bool t2), .lst false p2, .v (.int .i64 0), .v (.int .i64 0), .v (.int .i64 J), .v (.int .i64 0), .v (.int .i64 0), .v (.int .i64 0), .v (.int .i64 0), .v (.int .i64 0)] := by rw [hS.nth]; exact hXk
      obtain ⟨I', hI', i1⟩ : ∃ I' : Int, I' = ((k + 1 : Nat) : Int) /\ zA .i64 (zB I 1) = I' := ⟨I + 1, by omega, by rw [hS.add, hS.wrap, wrap_i64 (by omega) (by omega)]⟩
      have hjj : m - 1 < m := by omega
      obtain ⟨R2, hR2⟩ : ∃ R2, R2 = ur (setE P (List.replicate n 0) (es.take (k + 1))) := ⟨_, rfl⟩
      have hset : R.set e [.v (.bool s2), .lst false r2, .v (.bool t2), .lst false p2] = R2 := by
       rw [hR2, List.take_add_one, he, Option.toList_some, setE_app, setE, setE, <- hc, <- ur_set, hrow2, hR]
      have g1 : zX J n = true := by rw [hS.inb]; exact decide_eq_true (by omega)
      have g2 : zZ 0 J = e := by rw [hS.idx]; omega
      obtain ⟨y, hy⟩ : ∃ y, (setE P (List.replicate n 0) (es.take k))[e]? = some y := ⟨_, List.getElem?_eq_getElem (by rw [qar, List.length_replicate]; omega)⟩
      obtain ⟨s3, t3, r3, p3, hrow3, _⟩ := qrow y
      have hRe := qau hy
      rw [<- hR, hrow3] at hRe
      have g3 : zh R e = some [.v (.bool s3), .lst false r3, .v (.bool t3), .lst false p3] := by rw [hS.nth]; exact hRe
      have g4 : zi R e [.v (.bool s2), .lst false r2, .v (.bool t2), .lst false p2] = R2 := by rw [hS.setr]; exact hset
      have hnx : ∃ (k2 : Nat) (I2 : Int) (R' : Abs.Rows), I2 = k2 /\ (m - 1) + k2 = l /\ R' = ur (setE P (List.replicate n 0) (es.take k2)) /\ ufrT 2 X n R2 N I' = ufrT 2 X n R' N I2 := ⟨k + 1, I', R2, hI', by omega, hR2, rfl⟩
      subst hs1
      cbv
      refine bT l1 ?_
      rw [j1, j2]
      cbv
      refine nd n0 (nd g1 ?_)
      rw [g2, g3]
      cbv
      refine againR [(2, 2)] (s' := ufrT 2 X n R2 N I') (k := m - 1) ?_ ?_ ?_ ?_ rfl (by show 2 <= 3; omega) hjj hnx
      ·simp [leTR, ufrT, mkSt, vi, AV.ren, AV.noTup, Cell.ren, renF, i1]
      ·simp [leHR, ufrT, mkSt, Abs.look, renF, Blk.ren, Cell.ren, g4]
      ·simp [liveR, ufrT, mkSt, renF]
      ·simp
   ·have l1 : zO I N = true := by rw [hS.lt]; exact decide_eq_true (by omega)
    obtain ⟨e, he⟩ : ∃ e, es[k]? = some e := ⟨_, List.getElem?_eq_getElem (by omega)⟩
    obtain ⟨he1, he2, he3⟩ := hmem e (List.mem_of_getElem? he)
    obtain ⟨c, hc⟩ : ∃ c, c = P.getD e 0 := ⟨_, rfl⟩
    obtain ⟨s2, t2, r2, p2, hrow2, _⟩ := qrow c
    obtain ⟨J, hJ⟩ : ∃ J : Int, J = (e : Int) := ⟨_, rfl⟩
    have hXk : X[k]? = some [Tree.v (.bool s2), .lst false r2, .v (.bool t2), .lst false p2, .v (.int .i64 0), .v (.int .i64 0), .v (.int .i64 J), .v (.int .i64 0), .v (.int .i64 0), .v (.int .i64 0), .v (.int .i64 0), .v (.int .i64 0)] := by
     rw [hX, qan, <- hes, List.getElem?_map, he, Option.map_some, <- hc, hrow2, hJ]; rfl
    have j1 : zV I = k := by rw [hS.nat]; omega
    have n0 : zP 0 I = true := by rw [hS.le]; exact decide_eq_true (by omega)
    have j2 : zh X k = some [Tree.v (.bool s2), .lst false r2, .v (.bool t2), .lst false p2, .v (.int .i64 0), .v (.int .i64 0), .v (.int .i64 J), .v (.int .i64 0), .v (.int .i64 0), .v (.int .i64 0), .v (.int .i64 0), .v (.int .i64 0)] := by rw [hS.nth]; exact hXk
    obtain ⟨I', hI', i1⟩ : ∃ I' : Int, I' = ((k + 1 : Nat) : Int) /\ zA .i64 (zB I 1) = I' := ⟨I + 1, by omega, by rw [hS.add, hS.wrap, wrap_i64 (by omega) (by omega)]⟩
    have hjj : m - 1 < m := by omega
    have z1 : zM J J = true := by rw [hS.eq]; exact decide_eq_true rfl
    have z2 : zM 0 0 = true := by rw [hS.eq]; rfl
    have x1 : zT D J = (n : Int) - 1 := by
     rw [hS.max, hD]
     by_cases hk : k = 0
     ·rw [if_pos hk]
      have hp : P ≠ [] := fun h0 => by rw [h0] at he2; simp at he2
      have hp1 : 1 <= P.length := List.length_pos_iff.2 hp
      have h1 := qba (hP0 hp) P.length hp1
      rw [<- hes, <- hk, he] at h1
      have := Option.some.inj h1
      omega
     ·rw [if_neg hk]; omega
    have hnx : ∃ (k2 : Nat) (I2 D2 : Int), I2 = k2 /\ (m - 1) + k2 = l /\ D2 = (if k2 = 0 then (-1 : Int) else (n : Int) - 1) /\ ufrS 2 X N ((n : Int) - 1) I' = ufrS 2 X N D2 I2 := ⟨k + 1, I', (n : Int) - 1, hI', by omega, by rw [if_neg (by omega)], rfl⟩
    subst hs1
    cbv
    refine bT l1 ?_
    rw [j1, j2]
    cbv
    refine nd n0 ?_
    rw [z1, z2]
    cbv
    refine bF rfl ?_
    refine againR [] (s' := ufrS 2 X N ((n : Int) - 1) I') (k := m - 1) ?_ ?_ ?_ ?_ rfl (by show 2 <= 2; omega) hjj hnx
    ·simp [leTR, ufrS, mkSt, vi, AV.ren, AV.noTup, Cell.ren, renF, i1, x1]
    ·simp [leHR, ufrS, mkSt, Abs.look, renF, Blk.ren, Cell.ren]
    ·simp [liveR, ufrS, mkSt, renF]
    ·simp
 ·refine callZ ccOk mixed [.val, .val] Tryz.func55 rfl rfl (by kernel_rfl) fun zA zB zC zD zE zF zG zH zI zJ zK zL zM zN zO zP zQ zR zS zT zU zV zX zY zZ za zb zc zd ze zf zg zh zi zj zk zl zm zn zo zp zq zr zs zt zu zw zx zy A L F hS hF => ?_
  obtain ⟨N, hN, hN2⟩ : ∃ N : Int, N = l /\ zY (zg X) = N := ⟨_, rfl, by rw [hS.len, lX, hS.ofN]⟩
  have lz : zg Z = n := by rw [hS.len, lZ]
  have a1 : zO 3 0 = false := by rw [hS.lt]; rfl
  have a2 : zP 8 3 = false := by rw [hS.le]; rfl
  cbv
  have hN : N = (l : Int) := hN
  rw [hN2]
  refine bF a1 (bF a2 ?_)
  refine loopZR ccOk mixed hS (fun (m : Nat) s' => ∃ (k : Nat) (I D : Int), I = k /\ m + k = l /\ D = (if k = 0 then (-1 : Int) else (n : Int) - 1) /\ s' = ufrS 3 X N D I) (n := l) (s0 := ufrS 3 X N (-1) 0) (qaj ?_ ?_) rfl (by show 2 <= 2; omega) ?_ ?_
  ·simp [leT, ufrS, mkSt, vi, vb]
  ·simp [leH, ufrS, mkSt]
  ·exact ⟨0, 0, -1, rfl, by omega, rfl, rfl⟩
  ·rintro m s1 ⟨k, I, D, hI, hmk, hD, hs1⟩
   by_cases hm : m = 0
   ·have l1 : zO I N = false := by rw [hS.lt]; exact decide_eq_false (by omega)
    have hDn : D + 1 = (n : Int) := by
     rw [hD]
     split
     ·have := hl0 (by omega); omega
     ·omega
    have hz1 : (n : Int) = zA .i64 (zB D 1) := by rw [hS.add, hS.wrap, wrap_i64 (by omega) (by omega)]; omega
    subst hs1
    cbv
    refine bF l1 ?_
    refine ⟨_, hS.call (hz1 ▸ cz), ?_⟩
    cbv
    have hN : N = (l : Int) := hN
    refine loopZR ccOk mixed hS (fun (m : Nat) s' => ∃ (k : Nat) (I : Int) (R : Abs.Rows), I = k /\ m + k = l /\ R = ur (setE P (List.replicate n 0) (es.take k)) /\ s' = ufrT 3 X n R N I) (n := l) (s0 := ufrT 3 X n Z N 0) (qaj ?_ ?_) rfl (by show 2 <= 3; omega) ?_ ?_
    ·simp [leT, ufrT, mkSt, vi, vb, hN2, lz]
    ·simp [leH, ufrT, mkSt]
    ·exact ⟨0, 0, Z, rfl, by omega, hZ, rfl⟩
    ·rintro m s1 ⟨k, I, R, hI, hmk, hR, hs1⟩
     have hRl : R.length = n := by rw [hR, ur_len, qar, List.length_replicate]
     by_cases hm : m = 0
     ·have l1 : zO I N = false := by rw [hS.lt]; exact decide_eq_false (by omega)
      have f1 : zm 0 n R = true := by rw [hS.fit]; exact decide_eq_true (by omega)
      have f2 : zn R 0 n = ur P := by rw [hS.part, List.drop_zero, List.take_of_length_le (by omega), hR, List.take_of_length_le (by omega), hes, hn, setE_all]
      subst hs1
      cbv
      refine bF l1 (nd f1 ?_)
      rw [f2]
      exact hF _ (ResLe.refl _)
     ·have l1 : zO I N = true := by rw [hS.lt]; exact decide_eq_true (by omega)
      obtain ⟨e, he⟩ : ∃ e, es[k]? = some e := ⟨_, List.getElem?_eq_getElem (by omega)⟩
      obtain ⟨he1, he2, he3⟩ := hmem e (List.mem_of_getElem? he)
      obtain ⟨c, hc⟩ : ∃ c, c = P.getD e 0 := ⟨_, rfl⟩
      obtain ⟨s2, t2, r2, p2, hrow2, _⟩ := qrow c
      obtain ⟨J, hJ⟩ : ∃ J : Int, J = (e : Int) := ⟨_, rfl⟩
      have hXk : X[k]? = some [Tree.v (.bool s2), .lst false r2, .v (.bool t2), .lst false p2, .v (.int .i64 0), .v (.int .i64 0), .v (.int .i64 0), .v (.int .i64 J), .v (.int .i64 0), .v (.int .i64 0), .v (.int .i64 0), .v (.int .i64 0)] := by
       rw [hX, qan, <- hes, List.getElem?_map, he, Option.map_some, <- hc, hrow2, hJ]; rfl
      have j1 : zV I = k := by rw [hS.nat]; omega
      have n0 : zP 0 I = true := by rw [hS.le]; exact decide_eq_true (by omega)
      have j2 : zh X k = some [Tree.v (.bool s2), .lst false r2, .v (.bool t2), .lst false p2, .v (.int .i64 0), .v (.int .i64 0), .v (.int .i64 0), .v (.int .i64 J), .v (.int .i64 0), .v (.int .i64 0), .v (.int .i64 0), .v (.int .i64 0)] := by rw [hS.nth]; exact hXk
      obtain ⟨I', hI', i1⟩ : ∃ I' : Int, I' = ((k + 1 : Nat) : Int) /\ zA .i64 (zB I 1) = I' := ⟨I + 1, by omega, by rw [hS.add, hS.wrap, wrap_i64 (by omega) (by omega)]⟩
      have hjj : m - 1 < m := by omega
      obtain ⟨R2, hR2⟩ : ∃ R2, R2 = ur (setE P (List.replicate n 0) (es.take (k + 1))) := ⟨_, rfl⟩
      have hset : R.set e [.v (.bool s2), .lst false r2, .v (.bool t2), .lst false p2] = R2 := by
       rw [hR2, List.take_add_one, he, Option.toList_some, setE_app, setE, setE, <- hc, <- ur_set, hrow2, hR]
      have g1 : zX J n = true := by rw [hS.inb]; exact decide_eq_true (by omega)
      have g2 : zZ 0 J = e := by rw [hS.idx]; omega
      obtain ⟨y, hy⟩ : ∃ y, (setE P (List.replicate n 0) (es.take k))[e]? = some y := ⟨_, List.getElem?_eq_getElem (by rw [qar, List.length_replicate]; omega)⟩
      obtain ⟨s3, t3, r3, p3, hrow3, _⟩ := qrow y
      have hRe := qau hy
      rw [<- hR, hrow3] at hRe
      have g3 : zh R e = some [.v (.bool s3), .lst false r3, .v (.bool t3), .lst false p3] := by rw [hS.nth]; exact hRe
      have g4 : zi R e [.v (.bool s2), .lst false r2, .v (.bool t2), .lst false p2] = R2 := by rw [hS.setr]; exact hset
      have hnx : ∃ (k2 : Nat) (I2 : Int) (R' : Abs.Rows), I2 = k2 /\ (m - 1) + k2 = l /\ R' = ur (setE P (List.replicate n 0) (es.take k2)) /\ ufrT 3 X n R2 N I' = ufrT 3 X n R' N I2 := ⟨k + 1, I', R2, hI', by omega, hR2, rfl⟩
      subst hs1
      cbv
      refine bT l1 ?_
      rw [j1, j2]
      cbv
      refine nd n0 (nd g1 ?_)
      rw [g2, g3]
      cbv
      refine againR [(2, 2)] (s' := ufrT 3 X n R2 N I') (k := m - 1) ?_ ?_ ?_ ?_ rfl (by show 2 <= 3; omega) hjj hnx
      ·simp [leTR, ufrT, mkSt, vi, AV.ren, AV.noTup, Cell.ren, renF, i1]
      ·simp [leHR, ufrT, mkSt, Abs.look, renF, Blk.ren, Cell.ren, g4]
      ·simp [liveR, ufrT, mkSt, renF]
      ·simp
   ·have l1 : zO I N = true := by rw [hS.lt]; exact decide_eq_true (by omega)
    obtain ⟨e, he⟩ : ∃ e, es[k]? = some e := ⟨_, List.getElem?_eq_getElem (by omega)⟩
    obtain ⟨he1, he2, he3⟩ := hmem e (List.mem_of_getElem? he)
    obtain ⟨c, hc⟩ : ∃ c, c = P.getD e 0 := ⟨_, rfl⟩
    obtain ⟨s2, t2, r2, p2, hrow2, _⟩ := qrow c
    obtain ⟨J, hJ⟩ : ∃ J : Int, J = (e : Int) := ⟨_, rfl⟩
    have hXk : X[k]? = some [Tree.v (.bool s2), .lst false r2, .v (.bool t2), .lst false p2, .v (.int .i64 0), .v (.int .i64 0), .v (.int .i64 0), .v (.int .i64 J), .v (.int .i64 0), .v (.int .i64 0), .v (.int .i64 0), .v (.int .i64 0)] := by
     rw [hX, qan, <- hes, List.getElem?_map, he, Option.map_some, <- hc, hrow2, hJ]; rfl
    have j1 : zV I = k := by rw [hS.nat]; omega
    have n0 : zP 0 I = true := by rw [hS.le]; exact decide_eq_true (by omega)
    have j2 : zh X k = some [Tree.v (.bool s2), .lst false r2, .v (.bool t2), .lst false p2, .v (.int .i64 0), .v (.int .i64 0), .v (.int .i64 0), .v (.int .i64 J), .v (.int .i64 0), .v (.int .i64 0), .v (.int .i64 0), .v (.int .i64 0)] := by rw [hS.nth]; exact hXk
    obtain ⟨I', hI', i1⟩ : ∃ I' : Int, I' = ((k + 1 : Nat) : Int) /\ zA .i64 (zB I 1) = I' := ⟨I + 1, by omega, by rw [hS.add, hS.wrap, wrap_i64 (by omega) (by omega)]⟩
    have hjj : m - 1 < m := by omega
    have z1 : zM J J = true := by rw [hS.eq]; exact decide_eq_true rfl
    have z2 : zM 0 0 = true := by rw [hS.eq]; rfl
    have x1 : zT D J = (n : Int) - 1 := by
     rw [hS.max, hD]
     by_cases hk : k = 0
     ·rw [if_pos hk]
      have hp : P ≠ [] := fun h0 => by rw [h0] at he2; simp at he2
      have hp1 : 1 <= P.length := List.length_pos_iff.2 hp
      have h1 := qba (hP0 hp) P.length hp1
      rw [<- hes, <- hk, he] at h1
      have := Option.some.inj h1
      omega
     ·rw [if_neg hk]; omega
    have hnx : ∃ (k2 : Nat) (I2 D2 : Int), I2 = k2 /\ (m - 1) + k2 = l /\ D2 = (if k2 = 0 then (-1 : Int) else (n : Int) - 1) /\ ufrS 3 X N ((n : Int) - 1) I' = ufrS 3 X N D2 I2 := ⟨k + 1, I', (n : Int) - 1, hI', by omega, by rw [if_neg (by omega)], rfl⟩
    subst hs1
    cbv
    refine bT l1 ?_
    rw [j1, j2]
    cbv
    refine nd n0 ?_
    rw [z1, z2]
    cbv
    refine bF rfl ?_
    refine againR [] (s' := ufrS 3 X N ((n : Int) - 1) I') (k := m - 1) ?_ ?_ ?_ ?_ rfl (by show 2 <= 2; omega) hjj hnx
    ·simp [leTR, ufrS, mkSt, vi, AV.ren, AV.noTup, Cell.ren, renF, i1, x1]
    ·simp [leHR, ufrS, mkSt, Abs.look, renF, Blk.ren, Cell.ren]
    ·simp [liveR, ufrS, mkSt, renF]
    ·simp
 ·refine callZ ccOk mixed [.val, .val] Tryz.func55 rfl rfl (by kernel_rfl) fun zA zB zC zD zE zF zG zH zI zJ zK zL zM zN zO zP zQ zR zS zT zU zV zX zY zZ za zb zc zd ze zf zg zh zi zj zk zl zm zn zo zp zq zr zs zt zu zw zx zy A L F hS hF => ?_
  obtain ⟨N, hN, hN2⟩ : ∃ N : Int, N = l /\ zY (zg X) = N := ⟨_, rfl, by rw [hS.len, lX, hS.ofN]⟩
  have lz : zg Z = n := by rw [hS.len, lZ]
  have a1 : zO 4 0 = false := by rw [hS.lt]; rfl
  have a2 : zP 8 4 = false := by rw [hS.le]; rfl
  cbv
  have hN : N = (l : Int) := hN
  rw [hN2]
  refine bF a1 (bF a2 ?_)
  refine loopZR ccOk mixed hS (fun (m : Nat) s' => ∃ (k : Nat) (I D : Int), I = k /\ m + k = l /\ D = (if k = 0 then (-1 : Int) else (n : Int) - 1) /\ s' = ufrS 4 X N D I) (n := l) (s0 := ufrS 4 X N (-1) 0) (qaj ?_ ?_) rfl (by show 2 <= 2; omega) ?_ ?_
  ·simp [leT, ufrS, mkSt, vi, vb]
  ·simp [leH, ufrS, mkSt]
  ·exact ⟨0, 0, -1, rfl, by omega, rfl, rfl⟩
  ·rintro m s1 ⟨k, I, D, hI, hmk, hD, hs1⟩
   by_cases hm : m = 0
   ·have l1 : zO I N = false := by rw [hS.lt]; exact decide_eq_false (by omega)
    have hDn : D + 1 = (n : Int) := by
     rw [hD]
     split
     ·have := hl0 (by omega); omega
     ·omega
    have hz1 : (n : Int) = zA .i64 (zB D 1) := by rw [hS.add, hS.wrap, wrap_i64 (by omega) (by omega)]; omega
    subst hs1
    cbv
    refine bF l1 ?_
    refine ⟨_, hS.call (hz1 ▸ cz), ?_⟩
    cbv
    have hN : N = (l : Int) := hN
    refine loopZR ccOk mixed hS (fun (m : Nat) s' => ∃ (k : Nat) (I : Int) (R : Abs.Rows), I = k /\ m + k = l /\ R = ur (setE P (List.replicate n 0) (es.take k)) /\ s' = ufrT 4 X n R N I) (n := l) (s0 := ufrT 4 X n Z N 0) (qaj ?_ ?_) rfl (by show 2 <= 3; omega) ?_ ?_
    ·simp [leT, ufrT, mkSt, vi, vb, hN2, lz]
    ·simp [leH, ufrT, mkSt]
    ·exact ⟨0, 0, Z, rfl, by omega, hZ, rfl⟩
    ·rintro m s1 ⟨k, I, R, hI, hmk, hR, hs1⟩
     have hRl : R.length = n := by rw [hR, ur_len, qar, List.length_replicate]
     by_cases hm : m = 0
     ·have l1 : zO I N = false := by rw [hS.lt]; exact decide_eq_false (by omega)
      have f1 : zm 0 n R = true := by rw [hS.fit]; exact decide_eq_true (by omega)
      have f2 : zn R 0 n = ur P := by rw [hS.part, List.drop_zero, List.take_of_length_le (by omega), hR, List.take_of_length_le (by omega), hes, hn, setE_all]
      subst hs1
      cbv
      refine bF l1 (nd f1 ?_)
      rw [f2]
      exact hF _ (ResLe.refl _)
     ·have l1 : zO I N = true := by rw [hS.lt]; exact decide_eq_true (by omega)
      obtain ⟨e, he⟩ : ∃ e, es[k]? = some e := ⟨_, List.getElem?_eq_getElem (by omega)⟩
      obtain ⟨he1, he2, he3⟩ := hmem e (List.mem_of_getElem? he)
      obtain ⟨c, hc⟩ : ∃ c, c = P.getD e 0 := ⟨_, rfl⟩
      obtain ⟨s2, t2, r2, p2, hrow2, _⟩ := qrow c
      obtain ⟨J, hJ⟩ : ∃ J : Int, J = (e : Int) := ⟨_, rfl⟩
      have hXk : X[k]? = some [Tree.v (.bool s2), .lst false r2, .v (.bool t2), .lst false p2, .v (.int .i64 0), .v (.int .i64 0), .v (.int .i64 0), .v (.int .i64 0), .v (.int .i64 J), .v (.int .i64 0), .v (.int .i64 0), .v (.int .i64 0)] := by
       rw [hX, qan, <- hes, List.getElem?_map, he, Option.map_some, <- hc, hrow2, hJ]; rfl
      have j1 : zV I = k := by rw [hS.nat]; omega
      have n0 : zP 0 I = true := by rw [hS.le]; exact decide_eq_true (by omega)
      have j2 : zh X k = some [Tree.v (.bool s2), .lst false r2, .v (.bool t2), .lst false p2, .v (.int .i64 0), .v (.int .i64 0), .v (.int .i64 0), .v (.int .i64 0), .v (.int .i64 J), .v (.int .i64 0), .v (.int .i64 0), .v (.int .i64 0)] := by rw [hS.nth]; exact hXk
      obtain ⟨I', hI', i1⟩ : ∃ I' : Int, I' = ((k + 1 : Nat) : Int) /\ zA .i64 (zB I 1) = I' := ⟨I + 1, by omega, by rw [hS.add, hS.wrap, wrap_i64 (by omega) (by omega)]⟩
      have hjj : m - 1 < m := by omega
      obtain ⟨R2, hR2⟩ : ∃ R2, R2 = ur (setE P (List.replicate n 0) (es.take (k + 1))) := ⟨_, rfl⟩
      have hset : R.set e [.v (.bool s2), .lst false r2, .v (.bool t2), .lst false p2] = R2 := by
       rw [hR2, List.take_add_one, he, Option.toList_some, setE_app, setE, setE, <- hc, <- ur_set, hrow2, hR]
      have g1 : zX J n = true := by rw [hS.inb]; exact decide_eq_true (by omega)
      have g2 : zZ 0 J = e := by rw [hS.idx]; omega
      obtain ⟨y, hy⟩ : ∃ y, (setE P (List.replicate n 0) (es.take k))[e]? = some y := ⟨_, List.getElem?_eq_getElem (by rw [qar, List.length_replicate]; omega)⟩
      obtain ⟨s3, t3, r3, p3, hrow3, _⟩ := qrow y
      have hRe := qau hy
      rw [<- hR, hrow3] at hRe
      have g3 : zh R e = some [.v (.bool s3), .lst false r3, .v (.bool t3), .lst false p3] := by rw [hS.nth]; exact hRe
      have g4 : zi R e [.v (.bool s2), .lst false r2, .v (.bool t2), .lst false p2] = R2 := by rw [hS.setr]; exact hset
      have hnx : ∃ (k2 : Nat) (I2 : Int) (R' : Abs.Rows), I2 = k2 /\ (m - 1) + k2 = l /\ R' = ur (setE P (List.replicate n 0) (es.take k2)) /\ ufrT 4 X n R2 N I' = ufrT 4 X n R' N I2 := ⟨k + 1, I', R2, hI', by omega, hR2, rfl⟩
      subst hs1
      cbv
      refine bT l1 ?_
      rw [j1, j2]
      cbv
      refine nd n0 (nd g1 ?_)
      rw [g2, g3]
      cbv
      refine againR [(2, 2)] (s' := ufrT 4 X n R2 N I') (k := m - 1) ?_ ?_ ?_ ?_ rfl (by show 2 <= 3; omega) hjj hnx
      ·simp [leTR, ufrT, mkSt, vi, AV.ren, AV.noTup, Cell.ren, renF, i1]
      ·simp [leHR, ufrT, mkSt, Abs.look, renF, Blk.ren, Cell.ren, g4]
      ·simp [liveR, ufrT, mkSt, renF]
      ·simp
   ·have l1 : zO I N = true := by rw [hS.lt]; exact decide_eq_true (by omega)
    obtain ⟨e, he⟩ : ∃ e, es[k]? = some e := ⟨_, List.getElem?_eq_getElem (by omega)⟩
    obtain ⟨he1, he2, he3⟩ := hmem e (List.mem_of_getElem? he)
    obtain ⟨c, hc⟩ : ∃ c, c = P.getD e 0 := ⟨_, rfl⟩
    obtain ⟨s2, t2, r2, p2, hrow2, _⟩ := qrow c
    obtain ⟨J, hJ⟩ : ∃ J : Int, J = (e : Int) := ⟨_, rfl⟩
    have hXk : X[k]? = some [Tree.v (.bool s2), .lst false r2, .v (.bool t2), .lst false p2, .v (.int .i64 0), .v (.int .i64 0), .v (.int .i64 0), .v (.int .i64 0), .v (.int .i64 J), .v (.int .i64 0), .v (.int .i64 0), .v (.int .i64 0)] := by
     rw [hX, qan, <- hes, List.getElem?_map, he, Option.map_some, <- hc, hrow2, hJ]; rfl
    have j1 : zV I = k := by rw [hS.nat]; omega
    have n0 : zP 0 I = true := by rw [hS.le]; exact decide_eq_true (by omega)
    have j2 : zh X k = some [Tree.v (.bool s2), .lst false r2, .v (.bool t2), .lst false p2, .v (.int .i64 0), .v (.int .i64 0), .v (.int .i64 0), .v (.int .i64 0), .v (.int .i64 J), .v (.int .i64 0), .v (.int .i64 0), .v (.int .i64 0)] := by rw [hS.nth]; exact hXk
    obtain ⟨I', hI', i1⟩ : ∃ I' : Int, I' = ((k + 1 : Nat) : Int) /\ zA .i64 (zB I 1) = I' := ⟨I + 1, by omega, by rw [hS.add, hS.wrap, wrap_i64 (by omega) (by omega)]⟩
    have hjj : m - 1 < m := by omega
    have z1 : zM J J = true := by rw [hS.eq]; exact decide_eq_true rfl
    have z2 : zM 0 0 = true := by rw [hS.eq]; rfl
    have x1 : zT D J = (n : Int) - 1 := by
     rw [hS.max, hD]
     by_cases hk : k = 0
     ·rw [if_pos hk]
      have hp : P ≠ [] := fun h0 => by rw [h0] at he2; simp at he2
      have hp1 : 1 <= P.length := List.length_pos_iff.2 hp
      have h1 := qba (hP0 hp) P.length hp1
      rw [<- hes, <- hk, he] at h1
      have := Option.some.inj h1
      omega
     ·rw [if_neg hk]; omega
    have hnx : ∃ (k2 : Nat) (I2 D2 : Int), I2 = k2 /\ (m - 1) + k2 = l /\ D2 = (if k2 = 0 then (-1 : Int) else (n : Int) - 1) /\ ufrS 4 X N ((n : Int) - 1) I' = ufrS 4 X N D2 I2 := ⟨k + 1, I', (n : Int) - 1, hI', by omega, by rw [if_neg (by omega)], rfl⟩
    subst hs1
    cbv
    refine bT l1 ?_
    rw [j1, j2]
    cbv
    refine nd n0 ?_
    rw [z1, z2]
    cbv
    refine bF rfl ?_
    refine againR [] (s' := ufrS 4 X N ((n : Int) - 1) I') (k := m - 1) ?_ ?_ ?_ ?_ rfl (by show 2 <= 2; omega) hjj hnx
    ·simp [leTR, ufrS, mkSt, vi, AV.ren, AV.noTup, Cell.ren, renF, i1, x1]
    ·simp [leHR, ufrS, mkSt, Abs.look, renF, Blk.ren, Cell.ren]
    ·simp [liveR, ufrS, mkSt, renF]
    ·simp
 ·refine callZ ccOk mixed [.val, .val] Tryz.func55 rfl rfl (by kernel_rfl) fun zA zB zC zD zE zF zG zH zI zJ zK zL zM zN zO zP zQ zR zS zT zU zV zX zY zZ za zb zc zd ze zf zg zh zi zj zk zl zm zn zo zp zq zr zs zt zu zw zx zy A L F hS hF => ?_
  obtain ⟨N, hN, hN2⟩ : ∃ N : Int, N = l /\ zY (zg X) = N := ⟨_, rfl, by rw [hS.len, lX, hS.ofN]⟩
  have lz : zg Z = n := by rw [hS.len, lZ]
  have a1 : zO 5 0 = false := by rw [hS.lt]; rfl
  have a2 : zP 8 5 = false := by rw [hS.le]; rfl
  cbv
  have hN : N = (l : Int) := hN
  rw [hN2]
  refine bF a1 (bF a2 ?_)
  refine loopZR ccOk mixed hS (fun (m : Nat) s' => ∃ (k : Nat) (I D : Int), I = k /\ m + k = l /\ D = (if k = 0 then (-1 : Int) else (n : Int) - 1) /\ s' = ufrS 5 X N D I) (n := l) (s0 := ufrS 5 X N (-1) 0) (qaj ?_ ?_) rfl (by show 2 <= 2; omega) ?_ ?_
  ·simp [leT, ufrS, mkSt, vi, vb]
  ·simp [leH, ufrS, mkSt]
  ·exact ⟨0, 0, -1, rfl, by omega, rfl, rfl⟩
  ·rintro m s1 ⟨k, I, D, hI, hmk, hD, hs1⟩
   by_cases hm : m = 0
   ·have l1 : zO I N = false := by rw [hS.lt]; exact decide_eq_false (by omega)
    have hDn : D + 1 = (n : Int) := by
     rw [hD]
     split
     ·have := hl0 (by omega); omega
     ·omega
    have hz1 : (n : Int) = zA .i64 (zB D 1) := by rw [hS.add, hS.wrap, wrap_i64 (by omega) (by omega)]; omega
    subst hs1
    cbv
    refine bF l1 ?_
    refine ⟨_, hS.call (hz1 ▸ cz), ?_⟩
    cbv
    have hN : N = (l : Int) := hN
    refine loopZR ccOk mixed hS (fun (m : Nat) s' => ∃ (k : Nat) (I : Int) (R : Abs.Rows), I = k /\ m + k = l /\ R = ur (setE P (List.replicate n 0) (es.take k)) /\ s' = ufrT 5 X n R N I) (n := l) (s0 := ufrT 5 X n Z N 0) (qaj ?_ ?_) rfl (by show 2 <= 3; omega) ?_ ?_
    ·simp [leT, ufrT, mkSt, vi, vb, hN2, lz]
    ·simp [leH, ufrT, mkSt]
    ·exact ⟨0, 0, Z, rfl, by omega, hZ, rfl⟩
    ·rintro m s1 ⟨k, I, R, hI, hmk, hR, hs1⟩
     have hRl : R.length = n := by rw [hR, ur_len, qar, List.length_replicate]
     by_cases hm : m = 0
     ·have l1 : zO I N = false := by rw [hS.lt]; exact decide_eq_false (by omega)
      have f1 : zm 0 n R = true := by rw [hS.fit]; exact decide_eq_true (by omega)
      have f2 : zn R 0 n = ur P := by rw [hS.part, List.drop_zero, List.take_of_length_le (by omega), hR, List.take_of_length_le (by omega), hes, hn, setE_all]
      subst hs1
      cbv
      refine bF l1 (nd f1 ?_)
      rw [f2]
      exact hF _ (ResLe.refl _)
     ·have l1 : zO I N = true := by rw [hS.lt]; exact decide_eq_true (by omega)
      obtain ⟨e, he⟩ : ∃ e, es[k]? = some e := ⟨_, List.getElem?_eq_getElem (by omega)⟩
      obtain ⟨he1, he2, he3⟩ := hmem e (List.mem_of_getElem? he)
      obtain ⟨c, hc⟩ : ∃ c, c = P.getD e 0 := ⟨_, rfl⟩
      obtain ⟨s2, t2, r2, p2, hrow2, _⟩ := qrow c
      obtain ⟨J, hJ⟩ : ∃ J : Int, J = (e : Int) := ⟨_, rfl⟩
      have hXk : X[k]? = some [Tree.v (.bool s2), .lst false r2, .v (.bool t2), .lst false p2, .v (.int .i64 0), .v (.int .i64 0), .v (.int .i64 0), .v (.int .i64 0), .v (.int .i64 0), .v (.int .i64 J), .v (.int .i64 0), .v (.int .i64 0)] := by
       rw [hX, qan, <- hes, List.getElem?_map, he, Option.map_some, <- hc, hrow2, hJ]; rfl
      have j1 : zV I = k := by rw [hS.nat]; omega
      have n0 : zP 0 I = true := by rw [hS.le]; exact decide_eq_true (by omega)
      have j2 : zh X k = some [Tree.v (.bool s2), .lst false r2, .v (.bool t2), .lst false p2, .v (.int .i64 0), .v (.int .i64 0), .v (.int .i64 0), .v (.int .i64 0), .v (.int .i64 0), .v (.int .i64 J), .v (.int .i64 0), .v (.int .i64 0)] := by rw [hS.nth]; exact hXk
      obtain ⟨I', hI', i1⟩ : ∃ I' : Int, I' = ((k + 1 : Nat) : Int) /\ zA .i64 (zB I 1) = I' := ⟨I + 1, by omega, by rw [hS.add, hS.wrap, wrap_i64 (by omega) (by omega)]⟩
      have hjj : m - 1 < m := by omega
      obtain ⟨R2, hR2⟩ : ∃ R2, R2 = ur (setE P (List.replicate n 0) (es.take (k + 1))) := ⟨_, rfl⟩
      have hset : R.set e [.v (.bool s2), .lst false r2, .v (.bool t2), .lst false p2] = R2 := by
       rw [hR2, List.take_add_one, he, Option.toList_some, setE_app, setE, setE, <- hc, <- ur_set, hrow2, hR]
      have g1 : zX J n = true := by rw [hS.inb]; exact decide_eq_true (by omega)
      have g2 : zZ 0 J = e := by rw [hS.idx]; omega
      obtain ⟨y, hy⟩ : ∃ y, (setE P (List.replicate n 0) (es.take k))[e]? = some y := ⟨_, List.getElem?_eq_getElem (by rw [qar, List.length_replicate]; omega)⟩
      obtain ⟨s3, t3, r3, p3, hrow3, _⟩ := qrow y
      have hRe := qau hy
      rw [<- hR, hrow3] at hRe
      have g3 : zh R e = some [.v (.bool s3), .lst false r3, .v (.bool t3), .lst false p3] := by rw [hS.nth]; exact hRe
      have g4 : zi R e [.v (.bool s2), .lst false r2, .v (.bool t2), .lst false p2] = R2 := by rw [hS.setr]; exact hset
      have hnx : ∃ (k2 : Nat) (I2 : Int) (R' : Abs.Rows), I2 = k2 /\ (m - 1) + k2 = l /\ R' = ur (setE P (List.replicate n 0) (es.take k2)) /\ ufrT 5 X n R2 N I' = ufrT 5 X n R' N I2 := ⟨k + 1, I', R2, hI', by omega, hR2, rfl⟩
      subst hs1
      cbv
      refine bT l1 ?_
      rw [j1, j2]
      cbv
      refine nd n0 (nd g1 ?_)
      rw [g2, g3]
      cbv
      refine againR [(2, 2)] (s' := ufrT 5 X n R2 N I') (k := m - 1) ?_ ?_ ?_ ?_ rfl (by show 2 <= 3; omega) hjj hnx
      ·simp [leTR, ufrT, mkSt, vi, AV.ren, AV.noTup, Cell.ren, renF, i1]
      ·simp [leHR, ufrT, mkSt, Abs.look, renF, Blk.ren, Cell.ren, g4]
      ·simp [liveR, ufrT, mkSt, renF]
      ·simp
   ·have l1 : zO I N = true := by rw [hS.lt]; exact decide_eq_true (by omega)
    obtain ⟨e, he⟩ : ∃ e, es[k]? = some e := ⟨_, List.getElem?_eq_getElem (by omega)⟩
    obtain ⟨he1, he2, he3⟩ := hmem e (List.mem_of_getElem? he)
    obtain ⟨c, hc⟩ : ∃ c, c = P.getD e 0 := ⟨_, rfl⟩
    obtain ⟨s2, t2, r2, p2, hrow2, _⟩ := qrow c
    obtain ⟨J, hJ⟩ : ∃ J : Int, J = (e : Int) := ⟨_, rfl⟩
    have hXk : X[k]? = some [Tree.v (.bool s2), .lst false r2, .v (.bool t2), .lst false p2, .v (.int .i64 0), .v (.int .i64 0), .v (.int .i64 0), .v (.int .i64 0), .v (.int .i64 0), .v (.int .i64 J), .v (.int .i64 0), .v (.int .i64 0)] := by
     rw [hX, qan, <- hes, List.getElem?_map, he, Option.map_some, <- hc, hrow2, hJ]; rfl
    have j1 : zV I = k := by rw [hS.nat]; omega
    have n0 : zP 0 I = true := by rw [hS.le]; exact decide_eq_true (by omega)
    have j2 : zh X k = some [Tree.v (.bool s2), .lst false r2, .v (.bool t2), .lst false p2, .v (.int .i64 0), .v (.int .i64 0), .v (.int .i64 0), .v (.int .i64 0), .v (.int .i64 0), .v (.int .i64 J), .v (.int .i64 0), .v (.int .i64 0)] := by rw [hS.nth]; exact hXk
    obtain ⟨I', hI', i1⟩ : ∃ I' : Int, I' = ((k + 1 : Nat) : Int) /\ zA .i64 (zB I 1) = I' := ⟨I + 1, by omega, by rw [hS.add, hS.wrap, wrap_i64 (by omega) (by omega)]⟩
    have hjj : m - 1 < m := by omega
    have z1 : zM J J = true := by rw [hS.eq]; exact decide_eq_true rfl
    have z2 : zM 0 0 = true := by rw [hS.eq]; rfl
    have x1 : zT D J = (n : Int) - 1 := by
     rw [hS.max, hD]
     by_cases hk : k = 0
     ·rw [if_pos hk]
      have hp : P ≠ [] := fun h0 => by rw [h0] at he2; simp at he2
      have hp1 : 1 <= P.length := List.length_pos_iff.2 hp
      have h1 := qba (hP0 hp) P.length hp1
      rw [<- hes, <- hk, he] at h1
      have := Option.some.inj h1
      omega
     ·rw [if_neg hk]; omega
    have hnx : ∃ (k2 : Nat) (I2 D2 : Int), I2 = k2 /\ (m - 1) + k2 = l /\ D2 = (if k2 = 0 then (-1 : Int) else (n : Int) - 1) /\ ufrS 5 X N ((n : Int) - 1) I' = ufrS 5 X N D2 I2 := ⟨k + 1, I', (n : Int) - 1, hI', by omega, by rw [if_neg (by omega)], rfl⟩
    subst hs1
    cbv
    refine bT l1 ?_
    rw [j1, j2]
    cbv
    refine nd n0 ?_
    rw [z1, z2]
    cbv
    refine bF rfl ?_
    refine againR [] (s' := ufrS 5 X N ((n : Int) - 1) I') (k := m - 1) ?_ ?_ ?_ ?_ rfl (by show 2 <= 2; omega) hjj hnx
    ·simp [leTR, ufrS, mkSt, vi, AV.ren, AV.noTup, Cell.ren, renF, i1, x1]
    ·simp [leHR, ufrS, mkSt, Abs.look, renF, Blk.ren, Cell.ren]
    ·simp [liveR, ufrS, mkSt, renF]
    ·simp
 ·refine callZ ccOk mixed [.val, .val] Tryz.func55 rfl rfl (by kernel_rfl) fun zA zB zC zD zE zF zG zH zI zJ zK zL zM zN zO zP zQ zR zS zT zU zV zX zY zZ za zb zc zd ze zf zg zh zi zj zk zl zm zn zo zp zq zr zs zt zu zw zx zy A L F hS hF => ?_
  obtain ⟨N, hN, hN2⟩ : ∃ N : Int, N = l /\ zY (zg X) = N := ⟨_, rfl, by rw [hS.len, lX, hS.ofN]⟩
  have lz : zg Z = n := by rw [hS.len, lZ]
  have a1 : zO 6 0 = false := by rw [hS.lt]; rfl
  have a2 : zP 8 6 = false := by rw [hS.le]; rfl
  cbv
  have hN : N = (l : Int) := hN
  rw [hN2]
  refine bF a1 (bF a2 ?_)
  refine loopZR ccOk mixed hS (fun (m : Nat) s' => ∃ (k : Nat) (I D : Int), I = k /\ m + k = l /\ D = (if k = 0 then (-1 : Int) else (n : Int) - 1) /\ s' = ufrS 6 X N D I) (n := l) (s0 := ufrS 6 X N (-1) 0) (qaj ?_ ?_) rfl (by show 2 <= 2; omega) ?_ ?_
  ·simp [leT, ufrS, mkSt, vi, vb]
  ·simp [leH, ufrS, mkSt]
  ·exact ⟨0, 0, -1, rfl, by omega, rfl, rfl⟩
  ·rintro m s1 ⟨k, I, D, hI, hmk, hD, hs1⟩
   by_cases hm : m = 0
   ·have l1 : zO I N = false := by rw [hS.lt]; exact decide_eq_false (by omega)
    have hDn : D + 1 = (n : Int) := by
     rw [hD]
     split
     ·have := hl0 (by omega); omega
     ·omega
    have hz1 : (n : Int) = zA .i64 (zB D 1) := by rw [hS.add, hS.wrap, wrap_i64 (by omega) (by omega)]; omega
    subst hs1
    cbv
    refine bF l1 ?_
    refine ⟨_, hS.call (hz1 ▸ cz), ?_⟩
    cbv
    have hN : N = (l : Int) := hN
    refine loopZR ccOk mixed hS (fun (m : Nat) s' => ∃ (k : Nat) (I : Int) (R : Abs.Rows), I = k /\ m + k = l /\ R = ur (setE P (List.replicate n 0) (es.take k)) /\ s' = ufrT 6 X n R N I) (n := l) (s0 := ufrT 6 X n Z N 0) (qaj ?_ ?_) rfl (by show 2 <= 3; omega) ?_ ?_
    ·simp [leT, ufrT, mkSt, vi, vb, hN2, lz]
    ·simp [leH, ufrT, mkSt]
    ·exact ⟨0, 0, Z, rfl, by omega, hZ, rfl⟩
    ·rintro m s1 ⟨k, I, R, hI, hmk, hR, hs1⟩
     have hRl : R.length = n := by rw [hR, ur_len, qar, List.length_replicate]
     by_cases hm : m = 0
     ·have l1 : zO I N = false := by rw [hS.lt]; exact decide_eq_false (by omega)
      have f1 : zm 0 n R = true := by rw [hS.fit]; exact decide_eq_true (by omega)
      have f2 : zn R 0 n = ur P := by rw [hS.part, List.drop_zero, List.take_of_length_le (by omega), hR, List.take_of_length_le (by omega), hes, hn, setE_all]
      subst hs1
      cbv
      refine bF l1 (nd f1 ?_)
      rw [f2]
      exact hF _ (ResLe.refl _)
     ·have l1 : zO I N = true := by rw [hS.lt]; exact decide_eq_true (by omega)
      obtain ⟨e, he⟩ : ∃ e, es[k]? = some e := ⟨_, List.getElem?_eq_getElem (by omega)⟩
      obtain ⟨he1, he2, he3⟩ := hmem e (List.mem_of_getElem? he)
      obtain ⟨c, hc⟩ : ∃ c, c = P.getD e 0 := ⟨_, rfl⟩
      obtain ⟨s2, t2, r2, p2, hrow2, _⟩ := qrow c
      obtain ⟨J, hJ⟩ : ∃ J : Int, J = (e : Int) := ⟨_, rfl⟩
      have hXk : X[k]? = some [Tree.v (.bool s2), .lst false r2, .v (.bool t2), .lst false p2, .v (.int .i64 0), .v (.int .i64 0), .v (.int .i64 0), .v (.int .i64 0), .v (.int .i64 0), .v (.int .i64 0), .v (.int .i64 J), .v (.int .i64 0)] := by
       rw [hX, qan, <- hes, List.getElem?_map, he, Option.map_some, <- hc, hrow2, hJ]; rfl
      have j1 : zV I = k := by rw [hS.nat]; omega
      have n0 : zP 0 I = true := by rw [hS.le]; exact decide_eq_true (by omega)
      have j2 : zh X k = some [Tree.v (.bool s2), .lst false r2, .v (.bool t2), .lst false p2, .v (.int .i64 0), .v (.int .i64 0), .v (.int .i64 0), .v (.int .i64 0), .v (.int .i64 0), .v (.int .i64 0), .v (.int .i64 J), .v (.int .i64 0)] := by rw [hS.nth]; exact hXk
      obtain ⟨I', hI', i1⟩ : ∃ I' : Int, I' = ((k + 1 : Nat) : Int) /\ zA .i64 (zB I 1) = I' := ⟨I + 1, by omega, by rw [hS.add, hS.wrap, wrap_i64 (by omega) (by omega)]⟩
      have hjj : m - 1 < m := by omega
      obtain ⟨R2, hR2⟩ : ∃ R2, R2 = ur (setE P (List.replicate n 0) (es.take (k + 1))) := ⟨_, rfl⟩
      have hset : R.set e [.v (.bool s2), .lst false r2, .v (.bool t2), .lst false p2] = R2 := by
       rw [hR2, List.take_add_one, he, Option.toList_some, setE_app, setE, setE, <- hc, <- ur_set, hrow2, hR]
      have g1 : zX J n = true := by rw [hS.inb]; exact decide_eq_true (by omega)
      have g2 : zZ 0 J = e := by rw [hS.idx]; omega
      obtain ⟨y, hy⟩ : ∃ y, (setE P (List.replicate n 0) (es.take k))[e]? = some y := ⟨_, List.getElem?_eq_getElem (by rw [qar, List.length_replicate]; omega)⟩
      obtain ⟨s3, t3, r3, p3, hrow3, _⟩ := qrow y
      have hRe := qau hy
      rw [<- hR, hrow3] at hRe
      have g3 : zh R e = some [.v (.bool s3), .lst false r3, .v (.bool t3), .lst false p3] := by rw [hS.nth]; exact hRe
      have g4 : zi R e [.v (.bool s2), .lst false r2, .v (.bool t2), .lst false p2] = R2 := by rw [hS.setr]; exact hset
      have hnx : ∃ (k2 : Nat) (I2 : Int) (R' : Abs.Rows), I2 = k2 /\ (m - 1) + k2 = l /\ R' = ur (setE P (List.replicate n 0) (es.take k2)) /\ ufrT 6 X n R2 N I' = ufrT 6 X n R' N I2 := ⟨k + 1, I', R2, hI', by omega, hR2, rfl⟩
      subst hs1
      cbv
      refine bT l1 ?_
      rw [j1, j2]
      cbv
      refine nd n0 (nd g1 ?_)
      rw [g2, g3]
      cbv
      refine againR [(2, 2)] (s' := ufrT 6 X n R2 N I') (k := m - 1) ?_ ?_ ?_ ?_ rfl (by show 2 <= 3; omega) hjj hnx
      ·simp [leTR, ufrT, mkSt, vi, AV.ren, AV.noTup, Cell.ren, renF, i1]
      ·simp [leHR, ufrT, mkSt, Abs.look, renF, Blk.ren, Cell.ren, g4]
      ·simp [liveR, ufrT, mkSt, renF]
      ·simp
   ·have l1 : zO I N = true := by rw [hS.lt]; exact decide_eq_true (by omega)
    obtain ⟨e, he⟩ : ∃ e, es[k]? = some e := ⟨_, List.getElem?_eq_getElem (by omega)⟩
    obtain ⟨he1, he2, he3⟩ := hmem e (List.mem_of_getElem? he)
    obtain ⟨c, hc⟩ : ∃ c, c = P.getD e 0 := ⟨_, rfl⟩
    obtain ⟨s2, t2, r2, p2, hrow2, _⟩ := qrow c
    obtain ⟨J, hJ⟩ : ∃ J : Int, J = (e : Int) := ⟨_, rfl⟩
    have hXk : X[k]? = some [Tree.v (.bool s2), .lst false r2, .v (.bool t2), .lst false p2, .v (.int .i64 0), .v (.int .i64 0), .v (.int .i64 0), .v (.int .i64 0), .v (.int .i64 0), .v (.int .i64 0), .v (.int .i64 J), .v (.int .i64 0)] := by
     rw [hX, qan, <- hes, List.getElem?_map, he, Option.map_some, <- hc, hrow2, hJ]; rfl
    have j1 : zV I = k := by rw [hS.nat]; omega
    have n0 : zP 0 I = true := by rw [hS.le]; exact decide_eq_true (by omega)
    have j2 : zh X k = some [Tree.v (.bool s2), .lst false r2, .v (.bool t2), .lst false p2, .v (.int .i64 0), .v (.int .i64 0), .v (.int .i64 0), .v (.int .i64 0), .v (.int .i64 0), .v (.int .i64 0), .v (.int .i64 J), .v (.int .i64 0)] := by rw [hS.nth]; exact hXk
    obtain ⟨I', hI', i1⟩ : ∃ I' : Int, I' = ((k + 1 : Nat) : Int) /\ zA .i64 (zB I 1) = I' := ⟨I + 1, by omega, by rw [hS.add, hS.wrap, wrap_i64 (by omega) (by omega)]⟩
    have hjj : m - 1 < m := by omega
    have z1 : zM J J = true := by rw [hS.eq]; exact decide_eq_true rfl
    have z2 : zM 0 0 = true := by rw [hS.eq]; rfl
    have x1 : zT D J = (n : Int) - 1 := by
     rw [hS.max, hD]
     by_cases hk : k = 0
     ·rw [if_pos hk]
      have hp : P ≠ [] := fun h0 => by rw [h0] at he2; simp at he2
      have hp1 : 1 <= P.length := List.length_pos_iff.2 hp
      have h1 := qba (hP0 hp) P.length hp1
      rw [<- hes, <- hk, he] at h1
      have := Option.some.inj h1
      omega
     ·rw [if_neg hk]; omega
    have hnx : ∃ (k2 : Nat) (I2 D2 : Int), I2 = k2 /\ (m - 1) + k2 = l /\ D2 = (if k2 = 0 then (-1 : Int) else (n : Int) - 1) /\ ufrS 6 X N ((n : Int) - 1) I' = ufrS 6 X N D2 I2 := ⟨k + 1, I', (n : Int) - 1, hI', by omega, by rw [if_neg (by omega)], rfl⟩
    subst hs1
    cbv
    refine bT l1 ?_
    rw [j1, j2]
    cbv
    refine nd n0 ?_
    rw [z1, z2]
    cbv
    refine bF rfl ?_
    refine againR [] (s' := ufrS 6 X N ((n : Int) - 1) I') (k := m - 1) ?_ ?_ ?_ ?_ rfl (by show 2 <= 2; omega) hjj hnx
    ·simp [leTR, ufrS, mkSt, vi, AV.ren, AV.noTup, Cell.ren, renF, i1, x1]
    ·simp [leHR, ufrS, mkSt, Abs.look, renF, Blk.ren, Cell.ren]
    ·simp [liveR, ufrS, mkSt, renF]
    ·simp
 ·refine callZ ccOk mixed [.val, .val] Tryz.func55 rfl rfl (by kernel_rfl) fun zA zB zC zD zE zF zG zH zI zJ zK zL zM zN zO zP zQ zR zS zT zU zV zX zY zZ za zb zc zd ze zf zg zh zi zj zk zl zm zn zo zp zq zr zs zt zu zw zx zy A L F hS hF => ?_
  obtain ⟨N, hN, hN2⟩ : ∃ N : Int, N = l /\ zY (zg X) = N := ⟨_, rfl, by rw [hS.len, lX, hS.ofN]⟩
  have lz : zg Z = n := by rw [hS.len, lZ]
  have a1 : zO 7 0 = false := by rw [hS.lt]; rfl
  have a2 : zP 8 7 = false := by rw [hS.le]; rfl
  cbv
  have hN : N = (l : Int) := hN
  rw [hN2]
  refine bF a1 (bF a2 ?_)
  refine loopZR ccOk mixed hS (fun (m : Nat) s' => ∃ (k : Nat) (I D : Int), I = k /\ m + k = l /\ D = (if k = 0 then (-1 : Int) else (n : Int) - 1) /\ s' = ufrS 7 X N D I) (n := l) (s0 := ufrS 7 X N (-1) 0) (qaj ?_ ?_) rfl (by show 2 <= 2; omega) ?_ ?_
  ·simp [leT, ufrS, mkSt, vi, vb]
  ·simp [leH, ufrS, mkSt]
  ·exact ⟨0, 0, -1, rfl, by omega, rfl, rfl⟩
  ·rintro m s1 ⟨k, I, D, hI, hmk, hD, hs1⟩
   by_cases hm : m = 0
   ·have l1 : zO I N = false := by rw [hS.lt]; exact decide_eq_false (by omega)
    have hDn : D + 1 = (n : Int) := by
     rw [hD]
     split
     ·have := hl0 (by omega); omega
     ·omega
    have hz1 : (n : Int) = zA .i64 (zB D 1) := by rw [hS.add, hS.wrap, wrap_i64 (by omega) (by omega)]; omega
    subst hs1
    cbv
    refine bF l1 ?_
    refine ⟨_, hS.call (hz1 ▸ cz), ?_⟩
    cbv
    have hN : N = (l : Int) := hN
    refine loopZR ccOk mixed hS (fun (m : Nat) s' => ∃ (k : Nat) (I : Int) (R : Abs.Rows), I = k /\ m + k = l /\ R = ur (setE P (List.replicate n 0) (es.take k)) /\ s' = ufrT 7 X n R N I) (n := l) (s0 := ufrT 7 X n Z N 0) (qaj ?_ ?_) rfl (by show 2 <= 3; omega) ?_ ?_
    ·simp [leT, ufrT, mkSt, vi, vb, hN2, lz]
    ·simp [leH, ufrT, mkSt]
    ·exact ⟨0, 0, Z, rfl, by omega, hZ, rfl⟩
    ·rintro m s1 ⟨k, I, R, hI, hmk, hR, hs1⟩
     have hRl : R.length = n := by rw [hR, ur_len, qar, List.length_replicate]
     by_cases hm : m = 0
     ·have l1 : zO I N = false := by rw [hS.lt]; exact decide_eq_false (by omega)
      have f1 : zm 0 n R = true := by rw [hS.fit]; exact decide_eq_true (by omega)
      have f2 : zn R 0 n = ur P := by rw [hS.part, List.drop_zero, List.take_of_length_le (by omega), hR, List.take_of_length_le (by omega), hes, hn, setE_all]
      subst hs1
      cbv
      refine bF l1 (nd f1 ?_)
      rw [f2]
      exact hF _ (ResLe.refl _)
     ·have l1 : zO I N = true := by rw [hS.lt]; exact decide_eq_true (by omega)
      obtain ⟨e, he⟩ : ∃ e, es[k]? = some e := ⟨_, List.getElem?_eq_getElem (by omega)⟩
      obtain ⟨he1, he2, he3⟩ := hmem e (List.mem_of_getElem? he)
      obtain ⟨c, hc⟩ : ∃ c, c = P.getD e 0 := ⟨_, rfl⟩
      obtain ⟨s2, t2, r2, p2, hrow2, _⟩ := qrow c
      obtain ⟨J, hJ⟩ : ∃ J : Int, J = (e : Int) := ⟨_, rfl⟩
      have hXk : X[k]? = some [Tree.v (.bool s2), .lst false r2, .v (.bool t2), .lst false p2, .v (.int .i64 0), .v (.int .i64 0), .v (.int .i64 0), .v (.int .i64 0), .v (.int .i64 0), .v (.int .i64 0), .v (.int .i64 0), .v (.int .i64 J)] := by
       rw [hX, qan, <- hes, List.getElem?_map, he, Option.map_some, <- hc, hrow2, hJ]; rfl
      have j1 : zV I = k := by rw [hS.nat]; omega
      have n0 : zP 0 I = true := by rw [hS.le]; exact decide_eq_true (by omega)
      have j2 : zh X k = some [Tree.v (.bool s2), .lst false r2, .v (.bool t2), .lst false p2, .v (.int .i64 0), .v (.int .i64 0), .v (.int .i64 0), .v (.int .i64 0), .v (.int .i64 0), .v (.int .i64 0), .v (.int .i64 0), .v (.int .i64 J)] := by rw [hS.nth]; exact hXk
      obtain ⟨I', hI', i1⟩ : ∃ I' : Int, I' = ((k + 1 : Nat) : Int) /\ zA .i64 (zB I 1) = I' := ⟨I + 1, by omega, by rw [hS.add, hS.wrap, wrap_i64 (by omega) (by omega)]⟩
      have hjj : m - 1 < m := by omega
      obtain ⟨R2, hR2⟩ : ∃ R2, R2 = ur (setE P (List.replicate n 0) (es.take (k + 1))) := ⟨_, rfl⟩
      have hset : R.set e [.v (.bool s2), .lst false r2, .v (.bool t2), .lst false p2] = R2 := by
       rw [hR2, List.take_add_one, he, Option.toList_some, setE_app, setE, setE, <- hc, <- ur_set, hrow2, hR]
      have g1 : zX J n = true := by rw [hS.inb]; exact decide_eq_true (by omega)
      have g2 : zZ 0 J = e := by rw [hS.idx]; omega
      obtain ⟨y, hy⟩ : ∃ y, (setE P (List.replicate n 0) (es.take k))[e]? = some y := ⟨_, List.getElem?_eq_getElem (by rw [qar, List.length_replicate]; omega)⟩
      obtain ⟨s3, t3, r3, p3, hrow3, _⟩ := qrow y
      have hRe := qau hy
      rw [<- hR, hrow3] at hRe
      have g3 : zh R e = some [.v (.bool s3), .lst false r3, .v (.bool t3), .lst false p3] := by rw [hS.nth]; exact hRe
      have g4 : zi R e [.v (.bool s2), .lst false r2, .v (.bool t2), .lst false p2] = R2 := by rw [hS.setr]; exact hset
      have hnx : ∃ (k2 : Nat) (I2 : Int) (R' : Abs.Rows), I2 = k2 /\ (m - 1) + k2 = l /\ R' = ur (setE P (List.replicate n 0) (es.take k2)) /\ ufrT 7 X n R2 N I' = ufrT 7 X n R' N I2 := ⟨k + 1, I', R2, hI', by omega, hR2, rfl⟩
      subst hs1
      cbv
      refine bT l1 ?_
      rw [j1, j2]
      cbv
      refine nd n0 (nd g1 ?_)
      rw [g2, g3]
      cbv
      refine againR [(2, 2)] (s' := ufrT 7 X n R2 N I') (k := m - 1) ?_ ?_ ?_ ?_ rfl (by show 2 <= 3; omega) hjj hnx
      ·simp [leTR, ufrT, mkSt, vi, AV.ren, AV.noTup, Cell.ren, renF, i1]
      ·simp [leHR, ufrT, mkSt, Abs.look, renF, Blk.ren, Cell.ren, g4]
      ·simp [liveR, ufrT, mkSt, renF]
      ·simp
   ·have l1 : zO I N = true := by rw [hS.lt]; exact decide_eq_true (by omega)
    obtain ⟨e, he⟩ : ∃ e, es[k]? = some e := ⟨_, List.getElem?_eq_getElem (by omega)⟩
    obtain ⟨he1, he2, he3⟩ := hmem e (List.mem_of_getElem? he)
    obtain ⟨c, hc⟩ : ∃ c, c = P.getD e 0 := ⟨_, rfl⟩
    obtain ⟨s2, t2, r2, p2, hrow2, _⟩ := qrow c
    obtain ⟨J, hJ⟩ : ∃ J : Int, J = (e : Int) := ⟨_, rfl⟩
    have hXk : X[k]? = some [Tree.v (.bool s2), .lst false r2, .v (.bool t2), .lst false p2, .v (.int .i64 0), .v (.int .i64 0), .v (.int .i64 0), .v (.int .i64 0), .v (.int .i64 0), .v (.int .i64 0), .v (.int .i64 0), .v (.int .i64 J)] := by
     rw [hX, qan, <- hes, List.getElem?_map, he, Option.map_some, <- hc, hrow2, hJ]; rfl
    have j1 : zV I = k := by rw [hS.nat]; omega
    have n0 : zP 0 I = true := by rw [hS.le]; exact decide_eq_true (by omega)
    have j2 : zh X k = some [Tree.v (.bool s2), .lst false r2, .v (.bool t2), .lst false p2, .v (.int .i64 0), .v (.int .i64 0), .v (.int .i64 0), .v (.int .i64 0), .v (.int .i64 0), .v (.int .i64 0), .v (.int .i64 0), .v (.int .i64 J)] := by rw [hS.nth]; exact hXk
    obtain ⟨I', hI', i1⟩ : ∃ I' : Int, I' = ((k + 1 : Nat) : Int) /\ zA .i64 (zB I 1) = I' := ⟨I + 1, by omega, by rw [hS.add, hS.wrap, wrap_i64 (by omega) (by omega)]⟩
    have hjj : m - 1 < m := by omega
    have z1 : zM J J = true := by rw [hS.eq]; exact decide_eq_true rfl
    have z2 : zM 0 0 = true := by rw [hS.eq]; rfl
    have x1 : zT D J = (n : Int) - 1 := by
     rw [hS.max, hD]
     by_cases hk : k = 0
     ·rw [if_pos hk]
      have hp : P ≠ [] := fun h0 => by rw [h0] at he2; simp at he2
      have hp1 : 1 <= P.length := List.length_pos_iff.2 hp
      have h1 := qba (hP0 hp) P.length hp1
      rw [<- hes, <- hk, he] at h1
      have := Option.some.inj h1
      omega
     ·rw [if_neg hk]; omega
    have hnx : ∃ (k2 : Nat) (I2 D2 : Int), I2 = k2 /\ (m - 1) + k2 = l /\ D2 = (if k2 = 0 then (-1 : Int) else (n : Int) - 1) /\ ufrS 7 X N ((n : Int) - 1) I' = ufrS 7 X N D2 I2 := ⟨k + 1, I', (n : Int) - 1, hI', by omega, by rw [if_neg (by omega)], rfl⟩
    subst hs1
    cbv
    refine bT l1 ?_
    rw [j1, j2]
    cbv
    refine nd n0 ?_
    rw [z1, z2]
    cbv
    refine bF rfl ?_
    refine againR [] (s' := ufrS 7 X N ((n : Int) - 1) I') (k := m - 1) ?_ ?_ ?_ ?_ rfl (by show 2 <= 2; omega) hjj hnx
    ·simp [leTR, ufrS, mkSt, vi, AV.ren, AV.noTup, Cell.ren, renF, i1, x1]
    ·simp [leHR, ufrS, mkSt, Abs.look, renF, Blk.ren, Cell.ren]
    ·simp [liveR, ufrS, mkSt, renF]
    ·simp
theorem ufrom_bad (X : Abs.Rows) (s2 t2 : Bool) (r2 p2 : Abs.Rows) (x0 x1 x2 x3 x4 x5 x6 x7 : Int) (h : X[0]? = some [.v (.bool s2), .lst false r2, .v (.bool t2), .lst false p2, .v (.int .i64 x0), .v (.int .i64 x1), .v (.int .i64 x2), .v (.int .i64 x3), .v (.int .i64 x4), .v (.int .i64 x5), .v (.int .i64 x6), .v (.int .i64 x7)]) (o : Nat) (ho : o < 8)
  (hx : (o ≠ 0 -> x0 = 0) -> (o ≠ 1 -> x1 = 0) -> (o ≠ 2 -> x2 = 0) -> (o ≠ 3 -> x3 = 0) -> (o ≠ 4 -> x4 = 0) -> (o ≠ 5 -> x5 = 0) -> (o ≠ 6 -> x6 = 0) -> (o ≠ 7 -> x7 = 0) -> False) :
  ACall Tryz.prog 55 [.val (tl X), .val (ti .i64 o)] ⟨[.val (tl []), .val (ti .i64 1)], [none, none]⟩ := by
 have hXl : 0 < X.length := (List.getElem?_eq_some_iff.1 h).1
 obtain rfl | rfl | rfl | rfl | rfl | rfl | rfl | rfl : o = 0 ∨ o = 1 ∨ o = 2 ∨ o = 3 ∨ o = 4 ∨ o = 5 ∨ o = 6 ∨ o = 7 := by omega
 ·refine callZ ccOk mixed [.val, .val] Tryz.func55 rfl rfl (by kernel_rfl) fun zA zB zC zD zE zF zG zH zI zJ zK zL zM zN zO zP zQ zR zS zT zU zV zX zY zZ za zb zc zd ze zf zg zh zi zj zk zl zm zn zo zp zq zr zs zt zu zw zx zy A L F hS hF => ?_
  have a1 : zO 0 0 = false := by rw [hS.lt]; rfl
  have a2 : zP 8 0 = false := by rw [hS.le]; rfl
  obtain ⟨N, hN, hN2⟩ : ∃ N : Int, N = X.length /\ zY (zg X) = N := ⟨_, rfl, by rw [hS.len, hS.ofN]⟩
  have l1 : zO 0 N = true := by rw [hS.lt]; exact decide_eq_true (by omega)
  cbv
  rw [hN2]
  refine bF a1 (bF a2 ?_)
  refine loopZ ccOk mixed hS (fun (m : Nat) s' => s' = ufrS 0 X N (-1) 0) (n := 1) (s0 := ufrS 0 X N (-1) 0) (qaj ?_ ?_) rfl (by show 2 <= 2; omega) rfl ?_
  ·simp [leT, ufrS, mkSt, vi, vb]
  ·simp [leH, ufrS, mkSt]
  ·rintro m s1 hs1
   have j1 : zV 0 = 0 := by rw [hS.nat]; rfl
   have j2 : zh X 0 = some [.v (.bool s2), .lst false r2, .v (.bool t2), .lst false p2, .v (.int .i64 x0), .v (.int .i64 x1), .v (.int .i64 x2), .v (.int .i64 x3), .v (.int .i64 x4), .v (.int .i64 x5), .v (.int .i64 x6), .v (.int .i64 x7)] := by rw [hS.nth]; exact h
   have n0 : zP 0 0 = true := by rw [hS.le]; rfl
   subst hs1
   cbv
   refine bT l1 ?_
   rw [j1, j2]
   cbv
   refine nd n0 (bT ?_ (fin2w hF (TLe.drop _ _) (TVLe.refl _)))
   have hb : ∀ x y : Int, ∃ b, zM x y = b /\ (b = true -> x = y) := fun x y => ⟨_, rfl, fun hh => by rw [hS.eq] at hh; exact of_decide_eq_true hh⟩
   obtain ⟨b0, e0, q0⟩ := hb x0 x0
   obtain ⟨b1, e1, q1⟩ := hb x1 0
   obtain ⟨b2, e2, q2⟩ := hb x2 0
   obtain ⟨b3, e3, q3⟩ := hb x3 0
   obtain ⟨b4, e4, q4⟩ := hb x4 0
   obtain ⟨b5, e5, q5⟩ := hb x5 0
   obtain ⟨b6, e6, q6⟩ := hb x6 0
   obtain ⟨b7, e7, q7⟩ := hb x7 0
   rw [e0, e1, e2, e3, e4, e5, e6, e7]
   rcases b0 with _ | _
   ·rfl
   rcases b1 with _ | _
   ·rfl
   rcases b2 with _ | _
   ·rfl
   rcases b3 with _ | _
   ·rfl
   rcases b4 with _ | _
   ·rfl
   rcases b5 with _ | _
   ·rfl
   rcases b6 with _ | _
   ·rfl
   rcases b7 with _ | _
   ·rfl
   exact absurd (hx (fun hh => absurd rfl hh) (fun _ => q1 rfl) (fun _ => q2 rfl) (fun _ => q3 rfl) (fun _ => q4 rfl) (fun _ => q5 rfl) (fun _ => q6 rfl) (fun _ => q7 rfl)) id
 ·refine callZ ccOk mixed [.val, .val] Tryz.func55 rfl rfl (by kernel_rfl) fun zA zB zC zD zE zF zG zH zI zJ zK zL zM zN zO zP zQ zR zS zT zU zV zX zY zZ za zb zc zd ze zf zg zh zi zj zk zl zm zn zo zp zq zr zs zt zu zw zx zy A L F hS hF => ?_
  have a1 : zO 1 0 = false := by rw [hS.lt]; rfl
  have a2 : zP 8 1 = false := by rw [hS.le]; rfl
  obtain ⟨N, hN, hN2⟩ : ∃ N : Int, N = X.length /\ zY (zg X) = N := ⟨_, rfl, by rw [hS.len, hS.ofN]⟩
  have l1 : zO 0 N = true := by rw [hS.lt]; exact decide_eq_true (by omega)
  cbv
  rw [hN2]
  refine bF a1 (bF a2 ?_)
  refine loopZ ccOk mixed hS (fun (m : Nat) s' => s' = ufrS 1 X N (-1) 0) (n := 1) (s0 := ufrS 1 X N (-1) 0) (qaj ?_ ?_) rfl (by show 2 <= 2; omega) rfl ?_
  ·simp [leT, ufrS, mkSt, vi, vb]
  ·simp [leH, ufrS, mkSt]
  ·rintro m s1 hs1
   have j1 : zV 0 = 0 := by rw [hS.nat]; rfl
   have j2 : zh X 0 = some [.v (.bool s2), .lst false r2, .v (.bool t2), .lst false p2, .v (.int .i64 x0), .v (.int .i64 x1), .v (.int .i64 x2), .v (.int .i64 x3), .v (.int .i64 x4), .v (.int .i64 x5), .v (.int .i64 x6), .v (.int .i64 x7)] := by rw [hS.nth]; exact h
   have n0 : zP 0 0 = true := by rw [hS.le]; rfl
   subst hs1
   cbv
   refine bT l1 ?_
   rw [j1, j2]
   cbv
   refine nd n0 (bT ?_ (fin2w hF (TLe.drop _ _) (TVLe.refl _)))
   have hb : ∀ x y : Int, ∃ b, zM x y = b /\ (b = true -> x = y) := fun x y => ⟨_, rfl, fun hh => by rw [hS.eq] at hh; exact of_decide_eq_true hh⟩
   obtain ⟨b0, e0, q0⟩ := hb x0 0
   obtain ⟨b1, e1, q1⟩ := hb x1 x1
   obtain ⟨b2, e2, q2⟩ := hb x2 0
   obtain ⟨b3, e3, q3⟩ := hb x3 0
   obtain ⟨b4, e4, q4⟩ := hb x4 0
   obtain ⟨b5, e5, q5⟩ := hb x5 0
   obtain ⟨b6, e6, q6⟩ := hb x6 0
   obtain ⟨b7, e7, q7⟩ := hb x7 0
   rw [e0, e1, e2, e3, e4, e5, e6, e7]
   rcases b0 with _ | _
   ·rfl
   rcases b1 with _ | _
   ·rfl
   rcases b2 with _ | _
   ·rfl
   rcases b3 with _ | _
   ·rfl
   rcases b4 with _ | _
   ·rfl
   rcases b5 with _ | _
   ·rfl
   rcases b6 with _ | _
   ·rfl
   rcases b7 with _ | _
   ·rfl
   exact absurd (hx (fun _ => q0 rfl) (fun hh => absurd rfl hh) (fun _ => q2 rfl) (fun _ => q3 rfl) (fun _ => q4 rfl) (fun _ => q5 rfl) (fun _ => q6 rfl) (fun _ => q7 rfl)) id
 ·refine callZ ccOk mixed [.val, .val] Tryz.func55 rfl rfl (by kernel_rfl) fun zA zB zC zD zE zF zG zH zI zJ zK zL zM zN zO zP zQ zR zS zT zU zV zX zY zZ za zb zc zd ze zf zg zh zi zj zk zl zm zn zo zp zq zr zs zt zu zw zx zy A L F hS hF => ?_
  have a1 : zO 2 0 = false := by rw [hS.lt]; rfl
  have a2 : zP 8 2 = false := by rw [hS.le]; rfl
  obtain ⟨N, hN, hN2⟩ : ∃ N : Int, N = X.length /\ zY (zg X) = N := ⟨_, rfl, by rw [hS.len, hS.ofN]⟩
  have l1 : zO 0 N = true := by rw [hS.lt]; exact decide_eq_true (by omega)
  cbv
  rw [hN2]
  refine bF a1 (bF a2 ?_)
  refine loopZ ccOk mixed hS (fun (m : Nat) s' => s' = ufrS 2 X N (-1) 0) (n := 1) (s0 := ufrS 2 X N (-1) 0) (qaj ?_ ?_) rfl (by show 2 <= 2; omega) rfl ?_
  ·simp [leT, ufrS, mkSt, vi, vb]
  ·simp [leH, ufrS, mkSt]
  ·rintro m s1 hs1
   have j1 : zV 0 = 0 := by rw [hS.nat]; rfl
   have j2 : zh X 0 = some [.v (.bool s2), .lst false r2, .v (.bool t2), .lst false p2, .v (.int .i64 x0), .v (.int .i64 x1), .v (.int .i64 x2), .v (.int .i64 x3), .v (.int .i64 x4), .v (.int .i64 x5), .v (.int .i64 x6), .v (.int .i64 x7)] := by rw [hS.nth]; exact h
   have n0 : zP 0 0 = true := by rw [hS.le]; rfl
   subst hs1
   cbv
   refine bT l1 ?_
   rw [j1, j2]
   cbv
   refine nd n0 (bT ?_ (fin2w hF (TLe.drop _ _) (TVLe.refl _)))
   have hb : ∀ x y : Int, ∃ b, zM x y = b /\ (b = true -> x = y) := fun x y => ⟨_, rfl, fun hh => by rw [hS.eq] at hh; exact of_decide_eq_true hh⟩
   obtain ⟨b0, e0, q0⟩ := hb x0 0
   obtain ⟨b1, e1, q1⟩ := hb x1 0
   obtain ⟨b2, e2, q2⟩ := hb x2 x2
   obtain ⟨b3, e3, q3⟩ := hb x3 0
   obtain ⟨b4, e4, q4⟩ := hb x4 0
   obtain ⟨b5, e5, q5⟩ := hb x5 0
   obtain ⟨b6, e6, q6⟩ := hb x6 0
   obtain ⟨b7, e7, q7⟩ := hb x7 0
   rw [e0, e1, e2, e3, e4, e5, e6, e7]
   rcases b0 with _ | _
   ·rfl
   rcases b1 with _ | _
   ·rfl
   rcases b2 with _ | _
   ·rfl
   rcases b3 with _ | _
   ·rfl
   rcases b4 with _ | _
   ·rfl
   rcases b5 with _ | _
   ·rfl
   rcases b6 with _ | _
   ·rfl
   rcases b7 with _ | _
   ·rfl
   exact absurd (hx (fun _ => q0 rfl) (fun _ => q1 rfl) (fun hh => absurd rfl hh) (fun _ => q3 rfl) (fun _ => q4 rfl) (fun _ => q5 rfl) (fun _ => q6 rfl) (fun _ => q7 rfl)) id
 ·refine callZ ccOk mixed [.val, .val] Tryz.func55 rfl rfl (by kernel_rfl) fun zA zB zC zD zE zF zG zH zI zJ zK zL zM zN zO zP zQ zR zS zT zU zV zX zY zZ za zb zc zd ze zf zg zh zi zj zk zl zm zn zo zp zq zr zs zt zu zw zx zy A L F hS hF => ?_
  have a1 : zO 3 0 = false := by rw [hS.lt]; rfl
  have a2 : zP 8 3 = false := by rw [hS.le]; rfl
  obtain ⟨N, hN, hN2⟩ : ∃ N : Int, N = X.length /\ zY (zg X) = N := ⟨_, rfl, by rw [hS.len, hS.ofN]⟩
  have l1 : zO 0 N = true := by rw [hS.lt]; exact decide_eq_true (by omega)
  cbv
  rw [hN2]
  refine bF a1 (bF a2 ?_)
  refine loopZ ccOk mixed hS (fun (m : Nat) s' => s' = ufrS 3 X N (-1) 0) (n := 1) (s0 := ufrS 3 X N (-1) 0) (qaj ?_ ?_) rfl (by show 2 <= 2; omega) rfl ?_
  ·simp [leT, ufrS, mkSt, vi, vb]
  ·simp [leH, ufrS, mkSt]
  ·rintro m s1 hs1
   have j1 : zV 0 = 0 := by rw [hS.nat]; rfl
   have j2 : zh X 0 = some [.v (.bool s2), .lst false r2, .v (.bool t2), .lst false p2, .v (.int .i64 x0), .v (.int .i64 x1), .v (.int .i64 x2), .v (.int .i64 x3), .v (.int .i64 x4), .v (.int .i64 x5), .v (.int .i64 x6), .v (.int .i64 x7)] := by rw [hS.nth]; exact h
   have n0 : zP 0 0 = true := by rw [hS.le]; rfl
   subst hs1
   cbv
   refine bT l1 ?_
   rw [j1, j2]
   cbv
   refine nd n0 (bT ?_ (fin2w hF (TLe.drop _ _) (TVLe.refl _)))
   have hb : ∀ x y : Int, ∃ b, zM x y = b /\ (b = true -> x = y) := fun x y => ⟨_, rfl, fun hh => by rw [hS.eq] at hh; exact of_decide_eq_true hh⟩
   obtain ⟨b0, e0, q0⟩ := hb x0 0
   obtain ⟨b1, e1, q1⟩ := hb x1 0
   obtain ⟨b2, e2, q2⟩ := hb x2 0
   obtain ⟨b3, e3, q3⟩ := hb x3 x3
   obtain ⟨b4, e4, q4⟩ := hb x4 0
   obtain ⟨b5, e5, q5⟩ := hb x5 0
   obtain ⟨b6, e6, q6⟩ := hb x6 0
   obtain ⟨b7, e7, q7⟩ := hb x7 0
   rw [e0, e1, e2, e3, e4, e5, e6, e7]
   rcases b0 with _ | _
   ·rfl
   rcases b1 with _ | _
   ·rfl
   rcases b2 with _ | _
   ·rfl
   rcases b3 with _ | _
   ·rfl
   rcases b4 with _ | _
   ·rfl
   rcases b5 with _ | _
   ·rfl
   rcases b6 with _ | _
   ·rfl
   rcases b7 with _ | _
   ·rfl
   exact absurd (hx (fun _ => q0 rfl) (fun _ => q1 rfl) (fun _ => q2 rfl) (fun hh => absurd rfl hh) (fun _ => q4 rfl) (fun _ => q5 rfl) (fun _ => q6 rfl) (fun _ => q7 rfl)) id
 ·refine callZ ccOk mixed [.val, .val] Tryz.func55 rfl rfl (by kernel_rfl) fun zA zB zC zD zE zF zG zH zI zJ zK zL zM zN zO zP zQ zR zS zT zU zV zX zY zZ za zb zc zd ze zf zg zh zi zj zk zl zm zn zo zp zq zr zs zt zu zw zx zy A L F hS hF => ?_
  have a1 : zO 4 0 = false := by rw [hS.lt]; rfl
  have a2 : zP 8 4 = false := by rw [hS.le]; rfl
  obtain ⟨N, hN, hN2⟩ : ∃ N : Int, N = X.length /\ zY (zg X) = N := ⟨_, rfl, by rw [hS.len, hS.ofN]⟩
  have l1 : zO 0 N = true := by rw [hS.lt]; exact decide_eq_true (by omega)
  cbv
  rw [hN2]
  refine bF a1 (bF a2 ?_)
  refine loopZ ccOk mixed hS (fun (m : Nat) s' => s' = ufrS 4 X N (-1) 0) (n := 1) (s0 := ufrS 4 X N (-1) 0) (qaj ?_ ?_) rfl (by show 2 <= 2; omega) rfl ?_
  ·simp [leT, ufrS, mkSt, vi, vb]
  ·simp [leH, ufrS, mkSt]
  ·rintro m s1 hs1
   have j1 : zV 0 = 0 := by rw [hS.nat]; rfl
   have j2 : zh X 0 = some [.v (.bool s2), .lst false r2, .v (.bool t2), .lst false p2, .v (.int .i64 x0), .v (.int .i64 x1), .v (.int .i64 x2), .v (.int .i64 x3), .v (.int .i64 x4), .v (.int .i64 x5), .v (.int .i64 x6), .v (.int .i64 x7)] := by rw [hS.nth]; exact h
   have n0 : zP 0 0 = true := by rw [hS.le]; rfl
   subst hs1
   cbv
   refine bT l1 ?_
   rw [j1, j2]
   cbv
   refine nd n0 (bT ?_ (fin2w hF (TLe.drop _ _) (TVLe.refl _)))
   have hb : ∀ x y : Int, ∃ b, zM x y = b /\ (b = true -> x = y) := fun x y => ⟨_, rfl, fun hh => by rw [hS.eq] at hh; exact of_decide_eq_true hh⟩
   obtain ⟨b0, e0, q0⟩ := hb x0 0
   obtain ⟨b1, e1, q1⟩ := hb x1 0
   obtain ⟨b2, e2, q2⟩ := hb x2 0
   obtain ⟨b3, e3, q3⟩ := hb x3 0
   obtain ⟨b4, e4, q4⟩ := hb x4 x4
   obtain ⟨b5, e5, q5⟩ := hb x5 0
   obtain ⟨b6, e6, q6⟩ := hb x6 0
   obtain ⟨b7, e7, q7⟩ := hb x7 0
   rw [e0, e1, e2, e3, e4, e5, e6, e7]
   rcases b0 with _ | _
   ·rfl
   rcases b1 with _ | _
   ·rfl
   rcases b2 with _ | _
   ·rfl
   rcases b3 with _ | _
   ·rfl
   rcases b4 with _ | _
   ·rfl
   rcases b5 with _ | _
   ·rfl
   rcases b6 with _ | _
   ·rfl
   rcases b7 with _ | _
   ·rfl
   exact absurd (hx (fun _ => q0 rfl) (fun _ => q1 rfl) (fun _ => q2 rfl) (fun _ => q3 rfl) (fun hh => absurd rfl hh) (fun _ => q5 rfl) (fun _ => q6 rfl) (fun _ => q7 rfl)) id
 ·refine callZ ccOk mixed [.val, .val] Tryz.func55 rfl rfl (by kernel_rfl) fun zA zB zC zD zE zF zG zH zI zJ zK zL zM zN zO zP zQ zR zS zT zU zV zX zY zZ za zb zc zd ze zf zg zh zi zj zk zl zm zn zo zp zq zr zs zt zu zw zx zy A L F hS hF => ?_
  have a1 : zO 5 0 = false := by rw [hS.lt]; rfl
  have a2 : zP 8 5 = false := by rw [hS.le]; rfl
  obtain ⟨N, hN, hN2⟩ : ∃ N : Int, N = X.length /\ zY (zg X) = N := ⟨_, rfl, by rw [hS.len, hS.ofN]⟩
  have l1 : zO 0 N = true := by rw [hS.lt]; exact decide_eq_true (by omega)
  cbv
  rw [hN2]
  refine bF a1 (bF a2 ?_)
  refine loopZ ccOk mixed hS (fun (m : Nat) s' => s' = ufrS 5 X N (-1) 0) (n := 1) (s0 := ufrS 5 X N (-1) 0) (qaj ?_ ?_) rfl (by show 2 <= 2; omega) rfl ?_
  ·simp [leT, ufrS, mkSt, vi, vb]
  ·simp [leH, ufrS, mkSt]
  ·rintro m s1 hs1
   have j1 : zV 0 = 0 := by rw [hS.nat]; rfl
   have j2 : zh X 0 = some [.v (.bool s2), .lst false r2, .v (.bool t2), .lst false p2, .v (.int .i64 x0), .v (.int .i64 x1), .v (.int .i64 x2), .v (.int .i64 x3), .v (.int .i64 x4), .v (.int .i64 x5), .v (.int .i64 x6), .v (.int .i64 x7)] := by rw [hS.nth]; exact h
   have n0 : zP 0 0 = true := by rw [hS.le]; rfl
   subst hs1
   cbv
   refine bT l1 ?_
   rw [j1, j2]
   cbv
   refine nd n0 (bT ?_ (fin2w hF (TLe.drop _ _) (TVLe.refl _)))
   have hb : ∀ x y : Int, ∃ b, zM x y = b /\ (b = true -> x = y) := fun x y => ⟨_, rfl, fun hh => by rw [hS.eq] at hh; exact of_decide_eq_true hh⟩
   obtain ⟨b0, e0, q0⟩ := hb x0 0
   obtain ⟨b1, e1, q1⟩ := hb x1 0
   obtain ⟨b2, e2, q2⟩ := hb x2 0
   obtain ⟨b3, e3, q3⟩ := hb x3 0
   obtain ⟨b4, e4, q4⟩ := hb x4 0
   obtain ⟨b5, e5, q5⟩ := hb x5 x5
   obtain ⟨b6, e6, q6⟩ := hb x6 0
   obtain ⟨b7, e7, q7⟩ := hb x7 0
   rw [e0, e1, e2, e3, e4, e5, e6, e7]
   rcases b0 with _ | _
   ·rfl
   rcases b1 with _ | _
   ·rfl
   rcases b2 with _ | _
   ·rfl
   rcases b3 with _ | _
   ·rfl
   rcases b4 with _ | _
   ·rfl
   rcases b5 with _ | _
   ·rfl
   rcases b6 with _ | _
   ·rfl
   rcases b7 with _ | _
   ·rfl
   exact absurd (hx (fun _ => q0 rfl) (fun _ => q1 rfl) (fun _ => q2 rfl) (fun _ => q3 rfl) (fun _ => q4 rfl) (fun hh => absurd rfl hh) (fun _ => q6 rfl) (fun _ => q7 rfl)) id
 ·refine callZ ccOk mixed [.val, .val] Tryz.func55 rfl rfl (by kernel_rfl) fun zA zB zC zD zE zF zG zH zI zJ zK zL zM zN zO zP zQ zR zS zT zU zV zX zY zZ za zb zc zd ze zf zg zh zi zj zk zl zm zn zo zp zq zr zs zt zu zw zx zy A L F hS hF => ?_
  have a1 : zO 6 0 = false := by rw [hS.lt]; rfl
  have a2 : zP 8 6 = false := by rw [hS.le]; rfl
  obtain ⟨N, hN, hN2⟩ : ∃ N : Int, N = X.length /\ zY (zg X) = N := ⟨_, rfl, by rw [hS.len, hS.ofN]⟩
  have l1 : zO 0 N = true := by rw [hS.lt]; exact decide_eq_true (by omega)
  cbv
  rw [hN2]
  refine bF a1 (bF a2 ?_)
  refine loopZ ccOk mixed hS (fun (m : Nat) s' => s' = ufrS 6 X N (-1) 0) (n := 1) (s0 := ufrS 6 X N (-1) 0) (qaj ?_ ?_) rfl (by show 2 <= 2; omega) rfl ?_
  ·simp [leT, ufrS, mkSt, vi, vb]
  ·simp [leH, ufrS, mkSt]
  ·rintro m s1 hs1
   have j1 : zV 0 = 0 := by rw [hS.nat]; rfl
   have j2 : zh X 0 = some [.v (.bool s2), .lst false r2, .v (.bool t2), .lst false p2, .v (.int .i64 x0), .v (.int .i64 x1), .v (.int .i64 x2), .v (.int .i64 x3), .v (.int .i64 x4), .v (.int .i64 x5), .v (.int .i64 x6), .v (.int .i64 x7)] := by rw [hS.nth]; exact h
   have n0 : zP 0 0 = true := by rw [hS.le]; rfl
   subst hs1
   cbv
   refine bT l1 ?_
   rw [j1, j2]
   cbv
   refine nd n0 (bT ?_ (fin2w hF (TLe.drop _ _) (TVLe.refl _)))
   have hb : ∀ x y : Int, ∃ b, zM x y = b /\ (b = true -> x = y) := fun x y => ⟨_, rfl, fun hh => by rw [hS.eq] at hh; exact of_decide_eq_true hh⟩
   obtain ⟨b0, e0, q0⟩ := hb x0 0
   obtain ⟨b1, e1, q1⟩ := hb x1 0
   obtain ⟨b2, e2, q2⟩ := hb x2 0
   obtain ⟨b3, e3, q3⟩ := hb x3 0
   obtain ⟨b4, e4, q4⟩ := hb x4 0
   obtain ⟨b5, e5, q5⟩ := hb x5 0
   obtain ⟨b6, e6, q6⟩ := hb x6 x6
   obtain ⟨b7, e7, q7⟩ := hb x7 0
   rw [e0, e1, e2, e3, e4, e5, e6, e7]
   rcases b0 with _ | _
   ·rfl
   rcases b1 with _ | _
   ·rfl
   rcases b2 with _ | _
   ·rfl
   rcases b3 with _ | _
   ·rfl
   rcases b4 with _ | _
   ·rfl
   rcases b5 with _ | _
   ·rfl
   rcases b6 with _ | _
   ·rfl
   rcases b7 with _ | _
   ·rfl
   exact absurd (hx (fun _ => q0 rfl) (fun _ => q1 rfl) (fun _ => q2 rfl) (fun _ => q3 rfl) (fun _ => q4 rfl) (fun _ => q5 rfl) (fun hh => absurd rfl hh) (fun _ => q7 rfl)) id
 ·refine callZ ccOk mixed [.val, .val] Tryz.func55 rfl rfl (by kernel_rfl) fun zA zB zC zD zE zF zG zH zI zJ zK zL zM zN zO zP zQ zR zS zT zU zV zX zY zZ za zb zc zd ze zf zg zh zi zj zk zl zm zn zo zp zq zr zs zt zu zw zx zy A L F hS hF => ?_
  have a1 : zO 7 0 = false := by rw [hS.lt]; rfl
  have a2 : zP 8 7 = false := by rw [hS.le]; rfl
  obtain ⟨N, hN, hN2⟩ : ∃ N : Int, N = X.length /\ zY (zg X) = N := ⟨_, rfl, by rw [hS.len, hS.ofN]⟩
  have l1 : zO 0 N = true := by rw [hS.lt]; exact decide_eq_true (by omega)
  cbv
  rw [hN2]
  refine bF a1 (bF a2 ?_)
  refine loopZ ccOk mixed hS (fun (m : Nat) s' => s' = ufrS 7 X N (-1) 0) (n := 1) (s0 := ufrS 7 X N (-1) 0) (qaj ?_ ?_) rfl (by show 2 <= 2; omega) rfl ?_
  ·simp [leT, ufrS, mkSt, vi, vb]
  ·simp [leH, ufrS, mkSt]
  ·rintro m s1 hs1
   have j1 : zV 0 = 0 := by rw [hS.nat]; rfl
   have j2 : zh X 0 = some [.v (.bool s2), .lst false r2, .v (.bool t2), .lst false p2, .v (.int .i64 x0), .v (.int .i64 x1), .v (.int .i64 x2), .v (.int .i64 x3), .v (.int .i64 x4), .v (.int .i64 x5), .v (.int .i64 x6), .v (.int .i64 x7)] := by rw [hS.nth]; exact h
   have n0 : zP 0 0 = true := by rw [hS.le]; rfl
   subst hs1
   cbv
   refine bT l1 ?_
   rw [j1, j2]
   cbv
   refine nd n0 (bT ?_ (fin2w hF (TLe.drop _ _) (TVLe.refl _)))
   have hb : ∀ x y : Int, ∃ b, zM x y = b /\ (b = true -> x = y) := fun x y => ⟨_, rfl, fun hh => by rw [hS.eq] at hh; exact of_decide_eq_true hh⟩
   obtain ⟨b0, e0, q0⟩ := hb x0 0
   obtain ⟨b1, e1, q1⟩ := hb x1 0
   obtain ⟨b2, e2, q2⟩ := hb x2 0
   obtain ⟨b3, e3, q3⟩ := hb x3 0
   obtain ⟨b4, e4, q4⟩ := hb x4 0
   obtain ⟨b5, e5, q5⟩ := hb x5 0
   obtain ⟨b6, e6, q6⟩ := hb x6 0
   obtain ⟨b7, e7, q7⟩ := hb x7 x7
   rw [e0, e1, e2, e3, e4, e5, e6, e7]
   rcases b0 with _ | _
   ·rfl
   rcases b1 with _ | _
   ·rfl
   rcases b2 with _ | _
   ·rfl
   rcases b3 with _ | _
   ·rfl
   rcases b4 with _ | _
   ·rfl
   rcases b5 with _ | _
   ·rfl
   rcases b6 with _ | _
   ·rfl
   rcases b7 with _ | _
   ·rfl
   exact absurd (hx (fun _ => q0 rfl) (fun _ => q1 rfl) (fun _ => q2 rfl) (fun _ => q3 rfl) (fun _ => q4 rfl) (fun _ => q5 rfl) (fun _ => q6 rfl) (fun hh => absurd rfl hh)) id
theorem ufrom_err (X : Abs.Rows) (i : Int) (hi : i < 0 ∨ 7 < i) : ACall Tryz.prog 55 [.val (tl X), .val (ti .i64 i)] ⟨[.val (tl []), .val (ti .i64 1)], [none, none]⟩ := by
 by_cases h : i < 0
 ·refine callZ ccOk mixed [.val, .val] Tryz.func55 rfl rfl (by kernel_rfl) fun zA zB zC zD zE zF zG zH zI zJ zK zL zM zN zO zP zQ zR zS zT zU zV zX zY zZ za zb zc zd ze zf zg zh zi zj zk zl zm zn zo zp zq zr zs zt zu zw zx zy A L F hS hF => ?_
  have a1 : zO i 0 = true := by rw [hS.lt]; exact decide_eq_true h
  cbv
  refine bT a1 ?_
  exact fin2w hF (TLe.drop _ _) (TVLe.refl _)
 ·refine callZ ccOk mixed [.val, .val] Tryz.func55 rfl rfl (by kernel_rfl) fun zA zB zC zD zE zF zG zH zI zJ zK zL zM zN zO zP zQ zR zS zT zU zV zX zY zZ za zb zc zd ze zf zg zh zi zj zk zl zm zn zo zp zq zr zs zt zu zw zx zy A L F hS hF => ?_
  have a1 : zO i 0 = false := by rw [hS.lt]; exact decide_eq_false h
  have a2 : zP 8 i = true := by rw [hS.le]; exact decide_eq_true (by omega)
  cbv
  refine bF a1 (bT a2 ?_)
  exact fin2w hF (TLe.drop _ _) (TVLe.refl _)
open Go Go.Abs Go.Abs.M Go.Proofs
open Go Go.Abs Go.Abs.M Go.Proofs
open Go Go.Abs Go.Abs.M Go.Proofs
inductive Rs : List Rat -> List Rat -> Rat -> Prop
 | zero (A B : List Rat) : A = [] ∨ B = [] -> Rs A B 0
 | const (A B : List Rat) : A ≠ [] -> B.length = 1 -> Rs A B (B.getD 0 0 ^ (A.length - 1))
 | stop (A B Q : List Rat) : A ≠ [] -> 2 <= B.length -> (∀ x, Abs.ev A x = Abs.ev Q x * Abs.ev B x) -> Rs A B 0
 | step (A B Q R : List Rat) (v : Rat) : A ≠ [] -> 2 <= B.length -> R ≠ [] -> ptrim R = R -> R.length < B.length -> (∀ x, Abs.ev A x = Abs.ev Q x * Abs.ev B x + Abs.ev R x) -> Rs B R v -> Rs A B (B.getD (B.length - 1) 0 ^ (A.length - R.length) * (if A.length % 2 = 0 /\ B.length % 2 = 0 then -1 else 1) * v)
theorem Rs.one {A B : List Rat} {v : Rat} (h : Rs A B v) (hA : A ≠ []) (hB : B.length = 1) : v = B.getD 0 0 ^ (A.length - 1) := by
 have hB0 : B ≠ [] := fun h => by rw [h] at hB; simp at hB
 cases h with
 | zero A B h =>
  rcases h with h | h
  ·exact absurd h hA
  ·exact absurd h hB0
 | const A B h1 h2 => rfl
 | stop A B Q' h1 h2 h3 => omega
 | step A B Q' R' v' h1 h2 h3 h4 h5 h6 h7 => omega
open Go Go.Abs Go.Abs.M Go.Proofs
def lc (A : List Rat) : Rat := A.getD (A.length - 1) 0
open Go Go.Abs Go.Abs.M Go.Proofs
open Go Go.Abs Go.Abs.M Go.Proofs
inductive Mo : List Rat -> Prop
 | zero : Mo [1]
 | one (a0 : Rat) : Mo [a0, 1]
 | two (a0 a1 : Rat) : Mo [a0, a1, 1]
 | three (a0 a1 a2 : Rat) : Mo [a0, a1, a2, 1]
theorem Mo.of : ∀ {A : List Rat}, A ≠ [] -> A.length <= 4 -> lc A = 1 -> Mo A
 | [], h, _, _ => absurd rfl h
 | [a], _, _, h => by simp [lc] at h; subst h; exact .zero
 | [a, b], _, _, h => by simp [lc] at h; subst h; exact .one _
 | [a, b, c], _, _, h => by simp [lc] at h; subst h; exact .two _ _
 | [a, b, c, d], _, _, h => by simp [lc] at h; subst h; exact .three _ _ _
 | _ :: _ :: _ :: _ :: _ :: _, _, h, _ => by simp at h
open Go Go.Abs Go.Abs.M Go.Proofs
theorem tr1 {a : Rat} (h : a ≠ 0) : ptrim [a] = [a] := by simp [ptrim, tlen, h]
theorem tr2 {a b : Rat} (h : b ≠ 0) : ptrim [a, b] = [a, b] := by simp [ptrim, tlen, h]
theorem tr3 {a b c : Rat} (h : c ≠ 0) : ptrim [a, b, c] = [a, b, c] := by simp [ptrim, tlen, h]
theorem tr4 {a b c d : Rat} (h : d ≠ 0) : ptrim [a, b, c, d] = [a, b, c, d] := by simp [ptrim, tlen, h]
theorem Mo.tr {A : List Rat} (h : Mo A) : ptrim A = A /\ A ≠ [] /\ lc A = 1 := by
 have h1 : (1 : Rat) ≠ 0 := by decide
 cases h
 ·exact ⟨tr1 h1, by simp, rfl⟩
 ·exact ⟨tr2 h1, by simp, rfl⟩
 ·exact ⟨tr3 h1, by simp, rfl⟩
 ·exact ⟨tr4 h1, by simp, rfl⟩
open Go Go.Abs Go.Abs.M Go.Proofs
open Go Go.Abs Go.Abs.M Go.Proofs
structure IsG (A B G : List Rat) : Prop where
 tr : ptrim G = G
 da : Dv G A
 db : Dv G B
 gr : ∀ D, Dv D A -> Dv D B -> Dv D G
 mon : G ≠ [] -> Mon G
theorem IsG.symm {A B G : List Rat} (h : IsG A B G) : IsG B A G := ⟨h.tr, h.db, h.da, fun D a b => h.gr D b a, h.mon⟩
theorem IsG.nil {A B G : List Rat} (hA : ptrim A = A) (hB : ptrim B = B) (h : IsG A B G) : G = [] ↔ A = [] /\ B = [] := by
 refine ⟨fun h0 => ?_, fun ⟨h1, h2⟩ => ?_⟩
 ·obtain ⟨K, hK⟩ := h.da
  obtain ⟨L, hL⟩ := h.db
  exact ⟨tr_nil hA fun x => by rw [hK, h0]; simp only [Abs.ev]; grind, tr_nil hB fun x => by rw [hL, h0]; simp only [Abs.ev]; grind⟩
 ·obtain ⟨K, hK⟩ := h.gr [] (h1 ▸ Dv.refl []) (h2 ▸ Dv.refl [])
  exact tr_nil h.tr fun x => by rw [hK]; simp only [Abs.ev]; grind
open Go Go.Abs Go.Abs.M Go.Proofs
open Go Go.Abs Go.Abs.M Go.Proofs
open Go Go.Abs Go.Abs.M Go.Proofs
open Go Go.Abs Go.Abs.M Go.Proofs
def RW.pl (x : RW) : RW := ⟨x.n, x.d, 0⟩
end Go.Proofs.YtdhidmcjglokcaaGreat
end
