/-
  A part of the proof: GcdM07, RupB07, RupC07, RupD07, RupE07, GcdN07, GcdP07, BezT07, BezP07, RupF07, RupG07, RupH07, UplB07.
-/
import Derived.Test.YtdhidmcjglokcaaGreatM9
set_option maxHeartbeats 0
set_option maxRecDepth 100000
set_option linter.unusedVariables false
set_option linter.unusedSimpArgs false
set_option linter.unusedSectionVars false
section
namespace Go.Proofs.YtdhidmcjglokcaaGreat
open Go Go.Abs Go.Abs.M Go.Proofs
structure IsRem (A B Q : List Rat) (c : Rat) (R : List Rat) : Prop where
 tq : ptrim Q = Q
 tr : ptrim R = R
 len : R.length < B.length
 c0 : c ≠ 0
 eq : ∀ x, c * Abs.ev A x = c * Abs.ev Q x * Abs.ev B x + Abs.ev R x
 nil : R = [] -> c = 1
 mon : R ≠ [] -> Mon R
theorem lsc_get (c : Rat) (P : List Rat) (j : Nat) : (lsc c P).getD j 0 = c * P.getD j 0 := by
 rw [List.getD_eq_getElem?_getD, List.getD_eq_getElem?_getD, lsc, List.getElem?_map]
 cases P[j]? with
 | none => simp [Rat.mul_zero]
 | some q => simp
theorem lsc_len (c : Rat) (P : List Rat) : (lsc c P).length = P.length := by simp [lsc]
theorem lsc_trim {c : Rat} (hc : c ≠ 0) {P : List Rat} (hP : ptrim P = P) : ptrim (lsc c P) = lsc c P := by
 rcases Classical.em (P = []) with h | h
 ·subst h; rfl
 ·refine tlen_top (fun h1 => h (by simpa [lsc] using h1)) ?_
  rw [lsc_len, lsc_get]
  intro h1
  rcases Rat.mul_eq_zero.1 h1 with h2 | h2
  ·exact hc h2
  ·exact tr_last hP h h2
theorem IsRem.uniq {A B Q Q' R R' : List Rat} {c c' : Rat} (hB : ptrim B = B) (h : IsRem A B Q c R) (h' : IsRem A B Q' c' R') : Q = Q' /\ c = c' /\ R = R' := by
 have i1 := Rat.inv_mul_cancel c h.c0
 have i2 := Rat.inv_mul_cancel c' h'.c0
 have n1 : c⁻¹ ≠ 0 := fun h0 => by rw [h0, Rat.zero_mul] at i1; exact absurd i1 (by decide)
 have n2 : c'⁻¹ ≠ 0 := fun h0 => by rw [h0, Rat.zero_mul] at i2; exact absurd i2 (by decide)
 have e : ∀ {c : Rat} {Q R : List Rat}, IsRem A B Q c R -> ∀ x, Abs.ev A x = Abs.ev Q x * Abs.ev B x + Abs.ev (lsc c⁻¹ R) x := fun {c Q R} h x => by
  have i1 := Rat.inv_mul_cancel c h.c0
  have := h.eq x
  rw [qaw]
  grind
 obtain ⟨hQ, hR⟩ := qbt h.tq (lsc_trim n1 h.tr) h'.tq (lsc_trim n2 h'.tr) hB (by rw [lsc_len]; exact h.len) (by rw [lsc_len]; exact h'.len) fun x => by rw [<- e h, <- e h']
 have hl : R.length = R'.length := by have := congrArg List.length hR; rwa [lsc_len, lsc_len] at this
 have hcc : c = c' := by
  rcases Classical.em (R = []) with h0 | h0
  ·have h0' : R' = [] := List.length_eq_zero_iff.1 (by rw [<- hl, h0]; rfl)
   rw [h.nil h0, h'.nil h0']
  ·have h0' : R' ≠ [] := fun h1 => h0 (List.length_eq_zero_iff.1 (by rw [hl, h1]; rfl))
   have m1 := (h.mon h0).2
   have m2 := (h'.mon h0').2
   have g := congrArg (fun l => l.getD (R.length - 1) 0) hR
   simp only [lsc_get] at g
   rw [m1, hl, m2, Rat.mul_one, Rat.mul_one] at g
   rw [<- Rat.inv_inv c, <- Rat.inv_inv c', g]
 refine ⟨hQ, hcc, qb1 h.tr h'.tr fun x => ?_⟩
 have h1 := h.eq x
 have h2 := h'.eq x
 rw [<- hQ, <- hcc] at h2
 grind
inductive Eu : List Rat -> List Rat -> List Rat -> List Rat -> List Rat -> List Rat -> List Rat -> Prop
 | nil (A U N : List Rat) : Eu A [] U N A U N
 | step {A B U N Q R N' G V K : List Rat} {c : Rat} : B ≠ [] -> IsRem A B Q c R -> ptrim N' = N' -> (∀ x, Abs.ev N' x = c * (Abs.ev U x - Abs.ev Q x * Abs.ev N x)) -> Eu B R N N' G V K -> Eu A B U N G V K
theorem Eu.inv {A B U N G V K : List Rat} (h : Eu A B U N G V K) : (B = [] /\ G = A /\ V = U /\ K = N) ∨ (B ≠ [] /\ ∃ Q R N' c, IsRem A B Q c R /\ ptrim N' = N' /\ (∀ x, Abs.ev N' x = c * (Abs.ev U x - Abs.ev Q x * Abs.ev N x)) /\ Eu B R N N' G V K) := by
 cases h with
 | nil => exact .inl ⟨rfl, rfl, rfl, rfl⟩
 | step h1 h2 h3 h4 h5 => exact .inr ⟨h1, _, _, _, _, h2, h3, h4, h5⟩
theorem Eu.dvd {A B U N G V K : List Rat} (h : Eu A B U N G V K) : Dv G A /\ Dv G B /\ ∀ D, Dv D A -> Dv D B -> Dv D G := by
 induction h with
 | nil A U N => exact ⟨Dv.refl _, Dv.zero fun x => rfl, fun D h _ => h⟩
 | @step A B U N Q R N' G V K c h1 h2 h3 h4 h5 ih =>
  obtain ⟨i1, i2, i3⟩ := ih
  have ic := Rat.inv_mul_cancel c h2.c0
  refine ⟨Dv.lin (U := Q) (V := [c⁻¹]) i1 i2 fun x => ?_, i1, fun D d1 d2 => i3 D d2 (Dv.lin (U := [c]) (V := lsc (-c) Q) d1 d2 fun x => ?_)⟩
  ·have := h2.eq x; simp only [Abs.ev]; grind
  ·have := h2.eq x; rw [qaw]; simp only [Abs.ev]; grind
theorem Eu.bez {A B U N G V K : List Rat} (h : Eu A B U N G V K) {a b : Rat -> Rat} (hA : ∃ v : List Rat, ∀ x, Abs.ev A x = Abs.ev U x * a x + Abs.ev v x * b x) (hB : ∃ v : List Rat, ∀ x, Abs.ev B x = Abs.ev N x * a x + Abs.ev v x * b x) :
  ∃ v : List Rat, ∀ x, Abs.ev G x = Abs.ev V x * a x + Abs.ev v x * b x := by
 induction h with
 | nil A U N => exact hA
 | @step A B U N Q R N' G V K c h1 h2 h3 h4 h5 ih =>
  obtain ⟨v, hv⟩ := hA
  obtain ⟨w, hw⟩ := hB
  refine ih ⟨w, hw⟩ ⟨lsc c (ladd v (lsc (-1) (lmul Q w))), fun x => ?_⟩
  have := h2.eq x
  rw [h4, qaw, qa7, qaw, qbg]
  have h6 := hv x
  have h7 := hw x
  grind
structure EuI (W V : Nat) (A B U N : List Rat) : Prop where
 ta : ptrim A = A
 tb : ptrim B = B
 tu : ptrim U = U
 tn : ptrim N = N
 sz : ∃ s, CF s (fun j => A.getD j 0) /\ CF s (fun j => B.getD j 0) /\ (s + 1) * (A.length + 1 - B.length + 1) * 3 ^ B.length <= W
 szu : ∃ v, CF v (fun j => U.getD j 0) /\ CF v (fun j => N.getD j 0) /\ (v + 4 * W + 4) * 2 ^ B.length <= V
 lu : U.length + (A.length + 1 - B.length) + 2 * B.length <= 200
 ln : N.length + (A.length + 1 - B.length) + 2 * B.length <= 200
 la : A.length <= 200
theorem three_pow (d : Nat) (h : 1 <= d) : d + 2 <= 3 ^ d := by
 induction d with
 | zero => omega
 | succ d ih =>
  rcases Nat.eq_zero_or_pos d with h0 | h0
  ·subst h0; decide
  ·have := ih h0; rw [Nat.pow_succ]; omega
theorem urecip_call {f : Rat -> Rat} {n s : Nat} {P : List Rat} (hP : PB f n s P) (h0 : P ≠ []) (hn : n <= 1000) (hs : s <= 2000000000) :
  ACall Tryz.prog 76 [.val (tl (ur P))] ⟨[.val (.agg (qc (P.getD (P.length - 1) 0)⁻¹).row)], [none]⟩ := by
 have hl := hP.len
 have hm0 : P.length ≠ 0 := fun h => h0 (List.length_eq_zero_iff.1 h)
 obtain ⟨L, hL⟩ : ∃ L, L = P.getD (P.length - 1) 0 := ⟨_, rfl⟩
 have hL0 := tr_last hP.tr h0
 have hPi : P[P.length - 1]? = some L := by rw [hL, List.getD_eq_getElem?_getD, List.getElem?_eq_getElem (by omega)]; rfl
 rw [<- hL] at hL0
 obtain ⟨hq, ci⟩ := pinv_row hL0 (cf_qsl hP.cf L (List.mem_of_getElem? hPi)) (by omega)
 rw [<- hL]
 obtain ⟨s, t, r, p, hrow, _⟩ := qrow L
 obtain ⟨s2, t2, r2, p2, hrow2, _⟩ := qrow L⁻¹
 rw [hrow, hrow2] at ci
 rw [hrow2]
 have hX := qa5 hPi
 have lX := qac P
 rw [hrow] at hX
 generalize P.length = m at *
 generalize ur P = X at *
 refine callZ ccOk mixed [.val] Tryz.func76 rfl rfl (by kernel_rfl) fun zA zB zC zD zE zF zG zH zI zJ zK zL zM zN zO zP zQ zR zS zT zU zV zX zY zZ za zb zc zd ze zg zh zi zj zk zl zm zn zo zq zr zs zt zu zw zx zy zz zth A L F hS hF => ?_
 have e1 : zM (zY (zh X)) 0 = false := by rw [hS.eq, hS.ofN, hS.len, lX]; exact decide_eq_false (by omega)
 obtain ⟨J, hJ, j1⟩ : ∃ J : Int, J = ((m - 1 : Nat) : Int) /\ zA .i64 (zC (zY (zh X)) 1) = J := ⟨(m : Int) - 1, by omega, by rw [hS.ofN, hS.len, lX, hS.sub, hS.wrap, wrap_i64 (by omega) (by omega)]⟩
 have g1 : zP 0 J = true := by rw [hS.le]; exact decide_eq_true (by omega)
 have hz : zi X (zV J) = some [.v (.bool s), .lst false r, .v (.bool t), .lst false p] := by rw [hS.nat, hJ, Int.toNat_natCast, hS.nth, hX]
 cbv
 refine bF e1 ?_
 rw [j1, hz]
 cbv
 refine nd (g1) ?_
 refine ⟨_, hS.call (ci), ?_⟩
 cbv
 exact hF _ (ResLe.refl _)
theorem eu_step {W V : Nat} {A B U N : List Rat} (h : EuI W V A B U N) (hB : B ≠ []) (hW : W <= 400000000) :
  ∃ Q R c R', IsRem A B Q c R' /\ R'.length = R.length /\ R.length < B.length /\ (∃ s, CF s (fun j => R'.getD j 0) /\ CF s (fun j => B.getD j 0) /\ CF s (fun _ => c) /\ CF s (fun j => Q.getD j 0) /\ s <= W /\ (s + 1) * (B.length + 1 - R'.length + 1) * 3 ^ R'.length <= W) /\ Q.length <= A.length + 1 - B.length /\ Q.length <= W /\
   ACall Tryz.prog 23 [.val (tl (ur A)), .val (tl (ur B))] ⟨[.val (tl (ur Q)), .val (tl (ur R)), .val (ti .i64 0)], [none, none]⟩ /\
   (R = [] -> R' = [] /\ c = 1) /\ (R ≠ [] -> ACall Tryz.prog 76 [.val (tl (ur R))] ⟨[.val (.agg (qc c).row)], [none]⟩ /\ ACall Tryz.prog 21 [.val (.agg (qc c).row), .val (tl (ur R))] ⟨[.val (tl (ur R'))], [none, none]⟩) := by
 obtain ⟨s, c1, c2, c3⟩ := h.sz
 have hB1 : B.length ≠ 0 := fun h0 => hB (List.length_eq_zero_iff.1 h0)
 have hla := h.la
 have hlu := h.lu
 obtain ⟨e, he⟩ : ∃ e, e = A.length + 1 - B.length := ⟨_, rfl⟩
 rw [<- he] at c3 hlu ⊢
 have p3 : 1 <= 3 ^ B.length := Nat.one_le_pow _ _ (by omega)
 have w1 : (s + 1) * (e + 1) <= W := by
  have := Nat.mul_le_mul_left ((s + 1) * (e + 1)) p3
  omega
 have e1 : (s + 1) * (e + 1) = s + e * (s + 1) + 1 := by rw [Nat.mul_comm, Nat.succ_mul]; omega
 have w2 : s + 1 <= (s + 1) * (e + 1) := Nat.le_mul_of_pos_right _ (by omega)
 have w3 : e + 1 <= (s + 1) * (e + 1) := Nat.le_mul_of_pos_left _ (by omega)
 obtain ⟨Q, R, hQ, hR, hlt, heq, cd⟩ := qb4 e (⟨h.ta, fun x => rfl, Nat.le_refl _, c1⟩ : PB (Abs.ev A) A.length s A) (⟨h.tb, fun x => rfl, Nat.le_refl _, c2⟩ : PB (Abs.ev B) B.length s B) hB (by omega) (by omega) (by omega) (by omega)
 generalize hS : s + e * (s + 1) = S at *
 have hpot : ∀ r, r < B.length -> (S + 1) * (B.length + 1 - r + 1) * 3 ^ r <= W := fun r hr => by
  have t := three_pow (B.length - r) (by omega)
  have t2 : 3 ^ (B.length - r) * 3 ^ r = 3 ^ B.length := by rw [<- Nat.pow_add, Nat.sub_add_cancel (by omega)]
  have t3 : (B.length + 1 - r + 1) * 3 ^ r <= 3 ^ B.length := by rw [<- t2]; exact Nat.mul_le_mul_right _ (by omega)
  rw [Nat.mul_assoc]
  exact Nat.le_trans (Nat.mul_le_mul_left _ t3) (by rw [<- e1]; exact c3)
 rcases Classical.em (R = []) with h0 | h0
 ·refine ⟨Q, R, 1, [], ⟨hQ.tr, rfl, by simp; omega, by decide, fun x => ?_, fun _ => rfl, fun h => absurd rfl h⟩, by rw [h0], hlt, ⟨S, ?_, c2.mono (by omega), ?_, hQ.cf, by omega, hpot 0 (by omega)⟩, hQ.len, by have := hQ.len; omega, cd, fun _ => ⟨rfl, rfl⟩, fun h => absurd h0 h⟩
  ·have := heq x; rw [h0] at this; simp only [Abs.ev] at this ⊢; grind
  ·exact (CF.zero S).congr fun j => by simp
  ·exact (CF.whole (n := 1) (s := S) (by have := two_pow_pos S; omega) (by have := two_pow_pos S; omega)).congr fun j => rfl
 ·have hL := tr_last hR.tr h0
  have hlR : R.length ≠ 0 := fun h1 => h0 (List.length_eq_zero_iff.1 h1)
  obtain ⟨L, hLe⟩ : ∃ L, L = R.getD (R.length - 1) 0 := ⟨_, rfl⟩
  have hcl : CF S (fun _ => L) := by rw [hLe]; exact hR.cf.comp fun _ => R.length - 1
  rw [<- hLe] at hL
  have ci := urecip_call hR h0 (by omega) (by omega)
  rw [<- hLe] at ci
  obtain ⟨R', hR', cs⟩ := pb_scale (hcl.inv hL) hR (by omega) (by omega)
  have hi := Rat.inv_mul_cancel L hL
  have hi0 : L⁻¹ ≠ 0 := fun h1 => by rw [h1, Rat.zero_mul] at hi; exact absurd hi (by decide)
  have hR'e : R' = lsc L⁻¹ R := qb1 hR'.tr (lsc_trim hi0 hR.tr) fun x => by rw [hR'.ev, qaw]
  have hR'l : R'.length = R.length := by rw [hR'e, lsc_len]
  have hR'c : CF S (fun j => R'.getD j 0) := by
   have := hR.cf.div (R.length - 1) (by show R.getD _ 0 ≠ 0; rw [<- hLe]; exact hL)
   rw [<- hLe] at this
   exact this.congr fun j => by rw [hR'e, lsc_get]
  refine ⟨Q, R, L⁻¹, R', ⟨hQ.tr, hR'.tr, by omega, hi0, fun x => ?_, fun h1 => absurd (List.length_eq_zero_iff.1 (by rw [<- hR'l, h1]; rfl)) h0, fun h1 => ⟨h1, ?_⟩⟩, hR'l, hlt, ⟨S, hR'c, c2.mono (by omega), hcl.inv hL, hQ.cf, by omega, hpot _ (by omega)⟩, hQ.len, by have := hQ.len; omega, cd, fun h1 => absurd h1 h0, fun _ => ⟨ci, cs⟩⟩
  ·have := heq x; rw [hR'.ev]; grind
  ·rw [hR'e, lsc_get, lsc_len, <- hLe, hi]
theorem EuI.next {W V : Nat} {A B U N Q R' N' : List Rat} {c : Rat} (h : EuI W V A B U N) (hB : B ≠ []) (hr : IsRem A B Q c R') (hs : ∃ s, CF s (fun j => R'.getD j 0) /\ CF s (fun j => B.getD j 0) /\ CF s (fun _ => c) /\ CF s (fun j => Q.getD j 0) /\ s <= W /\ (s + 1) * (B.length + 1 - R'.length + 1) * 3 ^ R'.length <= W)
  (hq : Q.length <= A.length + 1 - B.length) (hN : ptrim N' = N') (hl : N'.length <= max U.length (Q.length + N.length - 1)) (hv : ∀ v, CF v (fun j => U.getD j 0) -> CF v (fun j => N.getD j 0) -> CF (2 * v + 4 * W + 1) (fun j => N'.getD j 0)) : EuI W V B R' N N' := by
 obtain ⟨s, s1, s2, s3, s4, s5, s6⟩ := hs
 obtain ⟨v, v1, v2, v3⟩ := h.szu
 have hlt := hr.len
 have a1 := h.lu
 have a2 := h.ln
 have a3 := h.la
 refine ⟨h.tb, hr.tr, h.tn, hN, ⟨s, s2, s1, s6⟩, ⟨2 * v + 4 * W + 1, v2.mono (by omega), hv v v1 v2, ?_⟩, by omega, by omega, by omega⟩
 have e : 2 ^ B.length = 2 * 2 ^ (B.length - 1) := by rw [<- Nat.pow_succ']; congr 1; omega
 have p : 2 ^ R'.length <= 2 ^ (B.length - 1) := Nat.pow_le_pow_right (by omega) (by omega)
 rw [e, <- Nat.mul_assoc] at v3
 exact Nat.le_trans (Nat.mul_le_mul_left _ p) (Nat.le_trans (Nat.mul_le_mul_right _ (by omega)) v3)
open Go Go.Abs Go.Abs.M Go.Proofs
def ruscSt (s t : Bool) (R P : Abs.Rows) (X : Abs.Rows) (len : Nat) (r : Abs.Rows) (i : Int) : St := mkSt 25 [.agg [.t (.v (.bool s)), .t (.lst false R), .t (.v (.bool t)), .t (.lst false P)], .c (.t (.lst false X)), .c (.ptr 2 0 0), .junk, .junk, .c (.sl 3 0 len false), vi .i64 i] [none, none, some (.var [.t (.v (.bool s)), .t (.lst false R), .t (.v (.bool t)), .t (.lst false P)]), some (.rows 4 r true false)]
theorem ruscale_call (c : Rat) (P : List Rat) (a b : Nat) (hP : P.length <= 1000) (h0 : Qs c a) (h1 : ∀ j, Qs (P.getD j 0) b) (hab : a + b <= 68719476736) :
  ACall Tryz.prog 38 [.val (.agg (qc c).row), .val (tl (ur P))] ⟨[.val (tl (ur (ptrim (lsc c P))))], [none, none]⟩ := by
 obtain ⟨n, hn⟩ : ∃ n, n = P.length := ⟨_, rfl⟩
 obtain ⟨T, hT⟩ : ∃ L : List Rat, L = lsc c P := ⟨_, rfl⟩
 have hTl : T.length = n := by rw [hT, lsc_len, hn]
 have hTg : ∀ i, i < n -> T[i]? = some (c * P.getD i 0) /\ P[i]? = some (P.getD i 0) := fun i hi => by
  have h : P[i]? = some (P.getD i 0) := by rw [List.getD_eq_getElem?_getD, List.getElem?_eq_getElem (by omega)]; rfl
  exact ⟨by rw [hT, lsc, List.getElem?_map, h]; rfl, h⟩
 rw [<- hT]
 have ct := utrim_call T (by omega)
 have cmul := fun i => rqmul_row h0 (h1 i) hab
 have lX := qac P
 obtain ⟨X, hX⟩ : ∃ X, X = ur P := ⟨_, rfl⟩
 obtain ⟨Z, hZ⟩ : ∃ X, X = ur (ptrim T) := ⟨_, rfl⟩
 obtain ⟨s3, t3, r3, p3, hrow3, _⟩ := qrow c
 rw [<- hX] at lX
 rw [<- hX, <- hZ, hrow3]
 rw [<- hZ] at ct
 clear hT
 refine callZ ccOk mixed [.val] Tryz.func38 rfl rfl (by kernel_rfl) fun zA zB zC zD zE zF zG zH zI zJ zK zL zM zN zO zP zQ zR zS zT zU zV zX zY zZ za zb zc zd ze zg zh zi zj zk zl zm zn zo zq zr zs zt zu zw zx zy zz zth A L F hS hF => ?_
 have hlx : zh X = n := by rw [hS.len, lX, hn]
 obtain ⟨N, hN, hN2⟩ : ∃ N : Int, N = n /\ zY (zh X) = N := ⟨_, rfl, by rw [hlx, hS.ofN]⟩
 cbv
 have hN : N = (n : Int) := hN
 refine loopZR ccOk mixed hS (fun (m : Nat) s' => ∃ (i : Nat) (I : Int) (r : Abs.Rows), I = i /\ i + m = n /\ r = ur (T.take i) /\ s' = ruscSt s3 t3 r3 p3 X i r I) (n := n) (s0 := ruscSt s3 t3 r3 p3 X 0 [] 0) (qaq ?_ ?_) rfl (by show 2 <= 4; omega) ?_ ?_
 ·simp [leT, ruscSt, mkSt, vi, vb]
 ·simp [leH, ruscSt, mkSt]
 ·exact ⟨0, 0, [], rfl, by omega, rfl, rfl⟩
 ·rintro m s1 ⟨i, I, r, hI, him, hr, hs1⟩
  by_cases hi : i < n
  ·have l1 : zO I (zY (zh X)) = true := by rw [hN2, hS.lt]; exact decide_eq_true (by omega)
   obtain ⟨e1, e2⟩ := hTg i hi
   obtain ⟨_, c3⟩ := cmul i
   obtain ⟨s4, t4, r4, p4, hrow4, _⟩ := qrow (P.getD i 0)
   obtain ⟨s5, t5, r5, p5, hrow5, _⟩ := qrow (c * P.getD i 0)
   obtain ⟨row, hrw⟩ : ∃ row, row = [Tree.v (.bool s5), .lst false r5, .v (.bool t5), .lst false p5] := ⟨_, rfl⟩
   obtain ⟨r2, hr2⟩ : ∃ r2, r2 = ur (T.take (i + 1)) := ⟨_, rfl⟩
   have hap : r ++ [row] = r2 := by rw [hr2, List.take_add_one, e1, Option.toList_some, ur_app, hrow5, hr, hrw]
   have hrl : r.length = i := by rw [hr, qac, List.length_take]; omega
   have hr4 : row.length = 4 := by rw [hrw]; rfl
   have u0 : zo [row] 0 1 = [row] := by rw [hS.part]; rfl
   have u1 : zn 0 1 [row] = true := by rw [hS.fit]; rfl
   have u2 : zQ (za (zh [row]) 0) = true := by rw [hS.len, hS.neq, hS.not]; rfl
   have u3 : zt 4 [row] = true := by rw [hS.wide]; simp [hr4]
   have u4 : ze i (zh [row]) 64 = true := by rw [hS.len, hS.room]; exact decide_eq_true (by unfold capBytes; simp only [List.length_cons, List.length_nil]; omega)
   have u5 : za (zb 0 i) (zh r) = true := by rw [hS.nadd, hS.neq, hS.len, hrl, Nat.zero_add]; exact decide_eq_true rfl
   have u6 : zb i (zh [row]) = i + 1 := by rw [hS.len, hS.nadd]; rfl
   have u7 : zq r 0 [row] = r2 := by rw [hS.ext, List.drop_zero]; exact hap
   have hXi := qa5 e2
   rw [<- hX, hrow4] at hXi
   rw [hrow3, hrow4, hrow5] at c3
   have g1 : zP 0 I = true := by rw [hS.le]; exact decide_eq_true (by omega)
   have hz : zi X (zV I) = some [.v (.bool s4), .lst false r4, .v (.bool t4), .lst false p4] := by rw [hS.nat, hI, Int.toNat_natCast, hS.nth, hXi]
   obtain ⟨I', hI', i1⟩ : ∃ I' : Int, I' = ((i + 1 : Nat) : Int) /\ zA .i64 (zB I 1) = I' := ⟨I + 1, by omega, by rw [hS.add, hS.wrap, wrap_i64 (by omega) (by omega)]⟩
   have hmm : m - 1 < m := by omega
   have hnx : ∃ (i2 : Nat) (I2 : Int) (r' : Abs.Rows), I2 = i2 /\ i2 + (m - 1) = n /\ r' = ur (T.take i2) /\ ruscSt s3 t3 r3 p3 X (i + 1) r2 I' = ruscSt s3 t3 r3 p3 X i2 r' I2 := ⟨i + 1, I', r2, hI', by omega, hr2, rfl⟩
   clear cmul hTg hr hr2 hap e1 e2 hXi
   subst hs1
   cbv
   refine bT l1 ?_
   rw [hz]
   cbv
   refine nd (g1) ?_
   refine ⟨_, hS.call (c3), ?_⟩
   cbv
   rw [<- hrw, u0]
   refine nd (u1) ?_
   refine nd (u2) ?_
   refine nd (u3) ?_
   refine nd (u4) ?_
   refine nd (u5) ?_
   refine againR [(3, 7)] (s' := ruscSt s3 t3 r3 p3 X (i + 1) r2 I') (k := m - 1) ?_ ?_ ?_ ?_ rfl (by show 2 <= 4; omega) hmm hnx
   ·simp [leTR, ruscSt, mkSt, vi, AV.ren, AV.noTup, Cell.ren, renF, i1, u6]
   ·simp [leHR, ruscSt, mkSt, Abs.look, renF, Blk.ren, u7, Cell.ren]
   ·simp [liveR, ruscSt, mkSt, renF]
   ·simp
  ·have l1 : zO I (zY (zh X)) = false := by rw [hN2, hS.lt]; exact decide_eq_false (by omega)
   have hrT : r = ur T := by rw [hr, show i = T.length by omega, List.take_length]
   rw [<- hrT] at ct
   have hrl : r.length = i := by rw [hrT, qac]; omega
   have f1 : zn 0 i r = true := by rw [hS.fit]; exact decide_eq_true (by omega)
   have f2 : zo r 0 i = r := by rw [hS.part, List.drop_zero, List.take_of_length_le (by omega)]
   clear cmul hTg
   subst hs1
   cbv
   refine bF l1 (nd f1 ?_)
   rw [f2]
   refine ⟨_, hS.call (ct), ?_⟩
   cbv
   exact hF _ (ResLe.refl _)
theorem rpb_scale {g : Rat -> Rat} {m s t : Nat} {c : Rat} {B : List Rat} (hc : CF s (fun _ => c)) (hB : PB g m t B) (hm : m <= 1000) (hs : s + t <= 2000000000) :
  ∃ R, PB (fun x => c * g x) m (t + s) R /\ ACall Tryz.prog 38 [.val (.agg (qc c).row), .val (tl (ur B))] ⟨[.val (tl (ur R))], [none, none]⟩ := by
 refine ⟨_, PB.of_trim (fun x => by rw [qaw, hB.ev]) (by rw [lsc_len]; exact hB.len) ((CF.scale hc hB.cf).congr fun j => (lsc_get c B j).symm), ruscale_call c B (s / 32 + 1) (t / 32 + 1) (by have := hB.len; omega) (cf_qs hc 0) (fun j => cf_qs hB.cf j) (by omega)⟩
theorem rpb_sub {f g : Rat -> Rat} {n m s t : Nat} {P B : List Rat} (hP : PB f n s P) (hB : PB g m t B) (hn : n <= 1000) (hm : m <= 1000) (hs : s + t <= 2000000000) :
  ∃ R, PB (fun x => f x - g x) (max n m) (s + t + 1) R /\ ACall Tryz.prog 37 [.val (tl (ur P)), .val (tl (ur B))] ⟨[.val (tl (ur R))], [none, none]⟩ := by
 have hc : CF 0 (fun _ => ((-1 : Int) : Rat)) := CF.whole (n := -1) (by decide) (by decide)
 obtain ⟨M, hM, cM⟩ := rpb_scale hc hB hm (by omega)
 obtain ⟨R, hR, cR⟩ := rpb_add hP hM hn hm (by omega)
 have cw := qa4 (-1) (by omega) (by omega)
 refine ⟨R, hR.congr fun x => by rw [show ((-1 : Int) : Rat) = -1 from rfl]; grind, ?_⟩
 obtain ⟨s3, t3, r3, p3, hrow3, _⟩ := qrow ((-1 : Int) : Rat)
 rw [hrow3] at cw cM
 generalize ur P = X at *
 generalize ur B = Y at *
 generalize ur M = Z at *
 generalize ur R = T at *
 refine callZ ccOk mixed [.val] Tryz.func37 rfl rfl (by kernel_rfl) fun zA zB zC zD zE zF zG zH zI zJ zK zL zM zN zO zP zQ zR zS zT zU zV zX zY zZ za zb zc zd ze zg zh zi zj zk zl zm zn zo zq zr zs zt zu zw zx zy zz zth A L F hS hF => ?_
 cbv
 refine ⟨_, hS.call (cw), ?_⟩
 cbv
 refine ⟨_, hS.call (cM), ?_⟩
 cbv
 refine ⟨_, hS.call (cR), ?_⟩
 cbv
 exact hF _ (ResLe.refl _)
theorem rushift_call (P : List Rat) (hP : P.length <= 900) : ACall Tryz.prog 74 [.val (tl (ur P))] ⟨[.val (tl (ur (ptrim (0 :: P))))], [none]⟩ := by
 have ct := utrim_call (0 :: P) (by simp; omega)
 have cw := qa4 0 (by omega) (by omega)
 rw [show ((0 : Int) : Rat) = 0 from rfl] at cw
 have lX := qac P
 have wX := ur_wide P
 have hc : ur (0 :: P) = (qc 0).row :: ur P := by simp [ur, qrows]
 rw [hc] at ct
 obtain ⟨s3, t3, r3, p3, hrow3, _⟩ := qrow 0
 rw [hrow3] at cw ct
 generalize ur (ptrim (0 :: P)) = Z at *
 generalize P.length = n at *
 generalize ur P = X at *
 obtain ⟨row, hrw⟩ : ∃ row, row = [Tree.v (.bool s3), .lst false r3, .v (.bool t3), .lst false p3] := ⟨_, rfl⟩
 by_cases hn : n = 0
 ·have hX0 : X = [] := List.length_eq_zero_iff.1 (by omega)
  subst hX0
  refine callZ ccOk mixed [.val] Tryz.func74 rfl rfl (by kernel_rfl) fun zA zB zC zD zE zF zG zH zI zJ zK zL zM zN zO zP zQ zR zS zT zU zV zX zY zZ za zb zc zd ze zg zh zi zj zk zl zm zn zo zq zr zs zt zu zw zx zy zz zth A L F hS hF => ?_
  have u0 : zo [row] 0 1 = [row] := by rw [hS.part]; rfl
  have u1 : zn 0 1 [row] = true := by rw [hS.fit]; rfl
  have e1 : za (zh []) 0 = true := by rw [hS.neq, hS.len]; rfl
  cbv
  refine ⟨_, hS.call (cw), ?_⟩
  cbv
  refine bT (e1) ?_
  rw [<- hrw] at ct ⊢
  refine nd (u1) ?_
  rw [u0]
  refine ⟨_, hS.call (ct), ?_⟩
  cbv
  exact hF _ (ResLe.refl _)
 ·refine callZ ccOk mixed [.val] Tryz.func74 rfl rfl (by kernel_rfl) fun zA zB zC zD zE zF zG zH zI zJ zK zL zM zN zO zP zQ zR zS zT zU zV zX zY zZ za zb zc zd ze zg zh zi zj zk zl zm zn zo zq zr zs zt zu zw zx zy zz zth A L F hS hF => ?_
  have e1 : za (zh X) 0 = false := by rw [hS.neq, hS.len, lX]; exact decide_eq_false hn
  have u2 : zQ (za (zh X) 0) = true := by rw [e1, hS.not]; rfl
  have u3 : zt 4 X = true := by rw [hS.wide]; exact wX
  have u4 : ze 1 (zh X) 64 = true := by rw [hS.len, lX, hS.room]; exact decide_eq_true (by unfold capBytes; omega)
  have u5 : za (zb 0 1) (zh [row]) = true := by rw [hS.nadd, hS.neq, hS.len]; rfl
  have u6 : zb 1 (zh X) = n + 1 := by rw [hS.len, hS.nadd, lX]; omega
  have u7 : zq [row] 0 X = row :: X := by rw [hS.ext]; rfl
  have u8 : zn 0 (n + 1) (row :: X) = true := by rw [hS.fit, List.length_cons, lX]; exact decide_eq_true (by omega)
  have u9 : zo (row :: X) 0 (n + 1) = row :: X := by rw [hS.part, List.drop_zero, List.take_of_length_le (by rw [List.length_cons, lX]; omega)]
  cbv
  refine ⟨_, hS.call (cw), ?_⟩
  cbv
  refine bF (e1) ?_
  refine nd (u2) ?_
  refine nd (u3) ?_
  refine nd (u4) ?_
  rw [<- hrw] at ct ⊢
  refine nd (u5) ?_
  rw [u7, u6]
  refine nd (u8) ?_
  rw [u9]
  refine ⟨_, hS.call (ct), ?_⟩
  cbv
  exact hF _ (ResLe.refl _)
theorem rpb_shift {f : Rat -> Rat} {n s : Nat} {P : List Rat} (hP : PB f n s P) (hn : n <= 900) :
  ∃ R, PB (fun x => x * f x) (n + 1) s R /\ ACall Tryz.prog 74 [.val (tl (ur P))] ⟨[.val (tl (ur R))], [none]⟩ := by
 have hl := hP.len
 refine ⟨_, PB.of_trim (P := 0 :: P) (fun x => by simp only [Abs.ev]; rw [hP.ev]; grind) (by simp; omega) (((hP.cf.comp (· - 1)).pick fun j => decide (j ≠ 0)).congr fun j => ?_), rushift_call P (by omega)⟩
 cases j with
 | zero => simp
 | succ j => simp
def pmT (P B : List Rat) (k : Nat) : List Rat := ptrim (pmul (P.drop (P.length - k)) B)
theorem pmT_pb {f g : Rat -> Rat} {n m s t : Nat} (l : Nat) {P B : List Rat} (hP : PB f n s P) (hB : PB g m t B) (hl : n <= 2 ^ l) (k : Nat) (hk : k <= P.length) : PB (fun x => Abs.ev (P.drop (P.length - k)) x * g x) (k + m - 1) (s + t + l) (pmT P B k) := by
 have hPl := hP.len
 have hBl := hB.len
 refine PB.of_trim (fun x => by rw [ev_pmul, hB.ev]) (by unfold pmul; rw [qbb, List.length_replicate, List.length_drop]; omega) ?_
 have h1 : CF s (fun j => (P.drop (P.length - k)).getD j 0) := (hP.cf.comp fun j => P.length - k + j).congr fun j => by
  rw [List.getD_eq_getElem?_getD, List.getD_eq_getElem?_getD, List.getElem?_drop]
 exact (h1.prod hB.cf (i := (P.drop (P.length - k)).length) (l := l) (by rw [List.length_drop]; omega)).congr fun j => by rw [pmul_get, csum_cnv]
def rumS0 (X Y : Abs.Rows) (i : Int) : St := mkSt 25 [.c (.t (.lst false X)), .c (.t (.lst false Y)), .junk, .junk, .junk, .c (.sl 2 0 0 false), vi .i64 i] [none, none, some (.rows 4 [] true false)]
def rumS1 (X Y R : Abs.Rows) (i : Int) : St := mkSt 25 [.c (.t (.lst false X)), .c (.t (.lst false Y)), .junk, .junk, .junk, .c (.t (.lst false R)), vi .i64 i] [none, none]
theorem drop_cons {P : List Rat} {k i : Nat} (h : i + 1 + k = P.length) : P.drop (P.length - (k + 1)) = P.getD i 0 :: P.drop (P.length - k) := by
 rw [List.drop_eq_getElem_cons (by omega), show P.length - (k + 1) + 1 = P.length - k by omega, List.getD_eq_getElem?_getD, List.getElem?_eq_getElem (by omega)]
 congr 1
 simp only [Option.getD_some]
 congr 1
 omega
theorem rpb_mul {f g : Rat -> Rat} {n m s t : Nat} (l : Nat) {P B : List Rat} (hP : PB f n s P) (hB : PB g m t B) (hl : n <= 2 ^ l) (hn : n + m <= 800) (hs : s + t + l + s + t <= 2000000000) :
  ∃ R, PB (fun x => f x * g x) (n + m - 1) (s + t + l) R /\ ACall Tryz.prog 29 [.val (tl (ur P)), .val (tl (ur B))] ⟨[.val (tl (ur R))], [none, none]⟩ := by
 have hPl := hP.len
 have hBl := hB.len
 have hT := (pmT_pb l hP hB hl P.length (Nat.le_refl _)).mono (m := n + m - 1) (by omega) (Nat.le_refl _)
 rw [Nat.sub_self, List.drop_zero] at hT
 refine ⟨pmT P B P.length, hT.congr fun x => by rw [hP.ev], ?_⟩
 have hstep : ∀ k i, i + 1 + k = P.length -> ∃ S M, ACall Tryz.prog 74 [.val (tl (ur (pmT P B k)))] ⟨[.val (tl (ur S))], [none]⟩ /\ ACall Tryz.prog 38 [.val (.agg (qc (P.getD i 0)).row), .val (tl (ur B))] ⟨[.val (tl (ur M))], [none, none]⟩ /\
   ACall Tryz.prog 36 [.val (tl (ur S)), .val (tl (ur M))] ⟨[.val (tl (ur (pmT P B (k + 1))))], [none, none]⟩ := fun k i hki => by
  obtain ⟨S, hS, cS⟩ := rpb_shift (pmT_pb l hP hB hl k (by omega)) (by omega)
  obtain ⟨M, hM, cM⟩ := rpb_scale (hP.cf.comp fun _ => i) hB (by omega) (by omega)
  obtain ⟨R, hR, cR⟩ := rpb_add hS hM (by omega) (by omega) (by omega)
  have e : R = pmT P B (k + 1) := hR.inj (pmT_pb l hP hB hl (k + 1) (by omega)) fun x => by
   rw [drop_cons hki]; simp only [Abs.ev]; grind
  exact ⟨S, M, cS, cM, e ▸ cR⟩
 have h0 : pmT P B 0 = [] := (pmT_pb l hP hB hl 0 (by omega)).inj (PB.nil 0) fun x => by rw [Nat.sub_zero, List.drop_length]; simp only [Abs.ev]; grind
 obtain ⟨d, hd⟩ : ∃ d, d = P.length := ⟨_, rfl⟩
 obtain ⟨X, hX⟩ : ∃ Y, Y = ur P := ⟨_, rfl⟩
 obtain ⟨Y, hY⟩ : ∃ Y, Y = ur B := ⟨_, rfl⟩
 obtain ⟨T, hTT⟩ : ∃ Y, Y = ur (pmT P B P.length) := ⟨_, rfl⟩
 have hXl : X.length = d := by rw [hX, qac, hd]
 rw [<- hX, <- hY, <- hTT]
 clear hT
 refine callZ ccOk mixed [.val] Tryz.func29 rfl rfl (by kernel_rfl) fun zA zB zC zD zE zF zG zH zI zJ zK zL zM zN zO zP zQ zR zS zT zU zV zX zY zZ za zb zc zd ze zg zh zi zj zk zl zm zn zo zq zr zs zt zu zw zx zy zz zth A L F hS hF => ?_
 have lx : zh X = d := by rw [hS.len, hXl]
 obtain ⟨N, hN, hN2⟩ : ∃ N : Int, N + 1 = (d : Int) /\ zA .i64 (zC (zY (zh X)) 1) = N := ⟨(d : Int) - 1, by omega, by rw [hS.ofN, lx, hS.sub, hS.wrap, wrap_i64 (by omega) (by omega)]⟩
 have f0 : zn 0 0 [] = true := by rw [hS.fit]; rfl
 have f1 : zo [] 0 0 = [] := by rw [hS.part]; rfl
 cbv
 have hN : N + 1 = (d : Int) := hN
 refine loopZ ccOk mixed hS (fun (i : Nat) s' => ∃ (k : Nat) (I : Int), I + 1 = i /\ i + k = d /\ ((k = 0 /\ s' = rumS0 X Y I) ∨ ∃ R, R = ur (pmT P B k) /\ s' = rumS1 X Y R I)) (n := d) (s0 := rumS0 X Y N) (qaq ?_ ?_) rfl (by show 2 <= 3; omega) ?_ ?_
 ·simp [leT, rumS0, mkSt, vi, hN2]
 ·simp [leH, rumS0, mkSt]
 ·exact ⟨0, N, hN, by omega, .inl ⟨rfl, rfl⟩⟩
 ·rintro i s1 ⟨k, I, hI, hik, hcase⟩
  by_cases hi : i = 0
  ·have l1 : zP 0 I = false := by rw [hS.le]; exact decide_eq_false (by omega)
   rcases hcase with ⟨hk, hs1⟩ | ⟨R, hR, hs1⟩
   ·have hT0 : T = [] := by rw [hTT, <- hd, show d = 0 by omega, h0]; rfl
    subst hT0
    subst hs1
    cbv
    refine bF l1 (nd f0 ?_)
    rw [f1]
    exact hF _ (ResLe.refl _)
   ·have hRT : R = T := by rw [hR, hTT, <- hd, show k = d by omega]
    subst hRT
    subst hs1
    cbv
    refine bF l1 ?_
    exact hF _ (ResLe.refl _)
  ·have l1 : zP 0 I = true := by rw [hS.le]; exact decide_eq_true (by omega)
   obtain ⟨i', rfl⟩ : ∃ i', i = i' + 1 := ⟨i - 1, by omega⟩
   have hIi : I = (i' : Int) := by omega
   obtain ⟨S, M, cS, cM, cA⟩ := hstep k i' (by omega)
   obtain ⟨c, hc⟩ : ∃ c, c = P.getD i' 0 := ⟨_, rfl⟩
   have hPi : P[i']? = some c := by rw [hc, List.getD_eq_getElem?_getD, List.getElem?_eq_getElem (by omega)]; rfl
   have hXi : X[i']? = some (qc c).row := by rw [hX]; exact qa5 hPi
   rw [<- hc] at cM
   obtain ⟨s2, t2, r2, p2, hrow2, _⟩ := qrow c
   rw [hrow2] at hXi cM
   rw [<- hY] at cM
   have j1 : zV I = i' := by rw [hS.nat]; omega
   have n0 : zP 0 I = true := l1
   have j2 : zi X i' = some [.v (.bool s2), .lst false r2, .v (.bool t2), .lst false p2] := by rw [hS.nth]; exact hXi
   obtain ⟨I', hI', i1⟩ : ∃ I' : Int, I' + 1 = (i' : Int) /\ zA .i64 (zC I 1) = I' := ⟨I - 1, by omega, by rw [hS.sub, hS.wrap, wrap_i64 (by omega) (by omega)]⟩
   obtain ⟨R', hR'⟩ : ∃ R', R' = ur (pmT P B (k + 1)) := ⟨_, rfl⟩
   rw [<- hR'] at cA
   have hmm : i' < i' + 1 := by omega
   have hnx : ∃ (k2 : Nat) (I2 : Int), I2 + 1 = (i' : Int) /\ i' + k2 = d /\ ((k2 = 0 /\ rumS1 X Y R' I' = rumS0 X Y I2) ∨ ∃ R, R = ur (pmT P B k2) /\ rumS1 X Y R' I' = rumS1 X Y R I2) := ⟨k + 1, I', hI', by omega, .inr ⟨R', hR', rfl⟩⟩
   generalize ur M = UM at *
   generalize ur S = US at *
   rcases hcase with ⟨hk, hs1⟩ | ⟨R, hR, hs1⟩
   ·rw [hk, h0, show ur ([] : List Rat) = [] from rfl] at cS
    subst hs1
    cbv
    refine bT l1 (nd f0 ?_)
    rw [f1]
    refine ⟨_, hS.call (cS), ?_⟩
    cbv
    rw [j1, j2]
    cbv
    refine nd (n0) ?_
    refine ⟨_, hS.call (cM), ?_⟩
    cbv
    refine ⟨_, hS.call (cA), ?_⟩
    cbv
    exact again (s' := rumS1 X Y R' I') (m := i') (by simp [leT, rumS1, mkSt, vi, i1]) (by simp [leH, rumS1, mkSt]) rfl (by show 2 <= 2; omega) hmm hnx
   ·rw [<- hR] at cS
    subst hs1
    cbv
    refine bT l1 ?_
    refine ⟨_, hS.call (cS), ?_⟩
    cbv
    rw [j1, j2]
    cbv
    refine nd (n0) ?_
    refine ⟨_, hS.call (cM), ?_⟩
    cbv
    refine ⟨_, hS.call (cA), ?_⟩
    cbv
    exact again (s' := rumS1 X Y R' I') (m := i') (by simp [leT, rumS1, mkSt, vi, i1]) (by simp [leH, rumS1, mkSt]) rfl (by show 2 <= 2; omega) hmm hnx
open Go Go.Abs Go.Abs.M Go.Proofs
structure IsDm (P B : List Rat) (k S : Nat) (Q R : List Rat) : Prop where
 q : PB (Abs.ev Q) k S Q
 r : PB (Abs.ev R) (B.length - 1) S R
 len : R.length < B.length
 eq : ∀ x, Abs.ev (P.drop (P.length - k)) x = Abs.ev Q x * Abs.ev B x + Abs.ev R x
def rdmS0 (X Y : Abs.Rows) (i : Int) : St := mkSt 58 [.c (.t (.lst false X)), .c (.t (.lst false Y)), .junk, .junk, .junk, .junk, .junk, .c (.sl 2 0 0 false), .c (.sl 3 0 0 false), vi .i64 i] [none, none, some (.rows 4 [] true false), some (.rows 4 [] true false)]
def rdmS1 (X Y Q R : Abs.Rows) (i : Int) : St := mkSt 58 [.c (.t (.lst false X)), .c (.t (.lst false Y)), .junk, .junk, .junk, .junk, .junk, .c (.t (.lst false Q)), .c (.t (.lst false R)), vi .i64 i] [none, none]
theorem rdm_step {f g : Rat -> Rat} {n m s t : Nat} {P B : List Rat} (hP : PB f n s P) (hB : PB g m t B) (h0 : B ≠ []) (hn : n <= 400) (hm : m <= 400) {S : Nat} (hS : S = s + n * (t + 1)) (hs : 2 * S + 2 * t + 2 * s <= 1900000000) {k i : Nat} (hki : i + 1 + k = P.length) {Q R : List Rat} (h : IsDm P B k S Q R) :
  ∃ R1 C R2 Q1, ACall Tryz.prog 74 [.val (tl (ur R))] ⟨[.val (tl (ur R1))], [none]⟩ /\ ACall Tryz.prog 51 [.val (.agg (qc (P.getD i 0)).row)] ⟨[.val (tl (ur C))], [none]⟩ /\
   ACall Tryz.prog 36 [.val (tl (ur R1)), .val (tl (ur C))] ⟨[.val (tl (ur R2))], [none, none]⟩ /\ ACall Tryz.prog 74 [.val (tl (ur Q))] ⟨[.val (tl (ur Q1))], [none]⟩ /\ R2.length <= B.length /\ R2.length <= 900 /\
   (R2.length < B.length -> IsDm P B (k + 1) S Q1 R2) /\
   (R2.length = B.length -> ∃ c M R3 C2 Q2, ACall Tryz.prog 80 [.val (.agg (qc (R2.getD (R2.length - 1) 0)).row), .val (.agg (qc (B.getD (B.length - 1) 0)).row)] ⟨[.val (.agg (qc c).row), .val (ti .i64 0)], [none, none]⟩ /\
    ACall Tryz.prog 38 [.val (.agg (qc c).row), .val (tl (ur B))] ⟨[.val (tl (ur M))], [none, none]⟩ /\ ACall Tryz.prog 37 [.val (tl (ur R2)), .val (tl (ur M))] ⟨[.val (tl (ur R3))], [none, none]⟩ /\
    ACall Tryz.prog 51 [.val (.agg (qc c).row)] ⟨[.val (tl (ur C2))], [none]⟩ /\ ACall Tryz.prog 36 [.val (tl (ur Q1)), .val (tl (ur C2))] ⟨[.val (tl (ur Q2))], [none, none]⟩ /\ IsDm P B (k + 1) S Q2 R3) := by
 have hPl := hP.len
 have hBl := hB.len
 have hB1 : B.length ≠ 0 := fun h1 => h0 (List.length_eq_zero_iff.1 h1)
 have hD : PB (Abs.ev (P.drop (P.length - (k + 1)))) (k + 1) s (ptrim (P.drop (P.length - (k + 1)))) := PB.of_trim (fun x => rfl) (by rw [List.length_drop]; omega) ((hP.cf.comp fun j => P.length - (k + 1) + j).congr fun j => by
  rw [List.getD_eq_getElem?_getD, List.getD_eq_getElem?_getD, List.getElem?_drop])
 have hDl := hD.len
 have hkn : (k + 1) * (t + 1) <= n * (t + 1) := Nat.mul_le_mul_right _ (by omega)
 obtain ⟨Qn, Rn, hQn, hRn, hlt, heq, _⟩ := qb4 (k + 1) hD hB h0 (by omega) (by omega) (by omega) (by omega)
 have hQn : PB (Abs.ev Qn) (k + 1) S Qn := hQn.mono (Nat.le_refl _) (by omega)
 have hRn : PB (Abs.ev Rn) (B.length - 1) S Rn := hRn.mono (Nat.le_refl _) (by omega)
 have hnew : ∀ {Q' R' : List Rat}, ptrim Q' = Q' -> ptrim R' = R' -> R'.length < B.length -> (∀ x, Abs.ev (P.drop (P.length - (k + 1))) x = Abs.ev Q' x * Abs.ev B x + Abs.ev R' x) -> IsDm P B (k + 1) S Q' R' := fun {Q' R'} q1 r1 l1 e1 => by
  obtain ⟨e2, e3⟩ := qbt q1 r1 hQn.tr hRn.tr hB.tr l1 hlt fun x => by rw [<- e1, heq, hB.ev]
  subst e2 e3
  exact ⟨hQn, hRn, l1, e1⟩
 obtain ⟨R1, hR1, cR1⟩ := rpb_shift h.r (by omega)
 obtain ⟨C, hC, cC⟩ := pb_const (hP.cf.comp fun _ => i)
 obtain ⟨R2, hR2, cR2⟩ := rpb_add hR1 hC (by omega) (by omega) (by omega)
 obtain ⟨Q1, hQ1, cQ1⟩ := rpb_shift h.q (by omega)
 have hR2l := hR2.len
 have hev2 : ∀ x, Abs.ev (P.drop (P.length - (k + 1))) x = Abs.ev Q1 x * Abs.ev B x + Abs.ev R2 x := fun x => by
  rw [drop_cons hki, hQ1.ev, hR2.ev]
  simp only [Abs.ev]
  rw [h.eq]; grind
 refine ⟨R1, C, R2, Q1, cR1, cC, cR2, cQ1, by omega, by omega, fun hl => hnew hQ1.tr hR2.tr hl hev2, fun hl => ?_⟩
 have hR20 : R2 ≠ [] := fun h1 => by rw [h1] at hl; simp at hl; omega
 have hLB := tr_last hB.tr h0
 obtain ⟨q1, cdv⟩ := rqdiv_row hLB (cf_qs hR2.cf (R2.length - 1)) (cf_qs hB.cf (B.length - 1)) (by omega)
 have hcf : CF (S + s + 1 + t) (fun _ => R2.getD (R2.length - 1) 0 * (B.getD (B.length - 1) 0)⁻¹) := by
  have a1 := (hB.cf.comp fun _ => B.length - 1).inv hLB
  exact (CF.scale (hR2.cf.comp fun _ => R2.length - 1) a1).mono (by omega)
 obtain ⟨c, hc⟩ : ∃ c, c = R2.getD (R2.length - 1) 0 * (B.getD (B.length - 1) 0)⁻¹ := ⟨_, rfl⟩
 rw [<- hc] at cdv hcf
 obtain ⟨M, hM, cM⟩ := rpb_scale hcf hB (by omega) (by omega)
 obtain ⟨R3, hR3, cR3⟩ := rpb_sub hR2 hM (by omega) (by omega) (by omega)
 obtain ⟨C2, hC2, cC2⟩ := pb_const hcf
 obtain ⟨Q2, hQ2, cQ2⟩ := rpb_add hQ1 hC2 (by omega) (by omega) (by omega)
 refine ⟨c, M, R3, C2, Q2, cdv, cM, cR3, cC2, cQ2, hnew hQ2.tr hR3.tr ?_ fun x => by rw [hev2, hQ2.ev, hR3.ev, hQ1.ev, hR2.ev, hB.ev]; grind⟩
 have hle : R3.length <= B.length - 1 := by
  rw [<- hR3.tr]
  refine trim_len_le fun j hj => ?_
  have e := ev_coef (P := R3) (Q := pshift R2 (-1) (lsc c B) 0) (fun x => by rw [hR3.ev, qbh, qaw, hR2.ev, hB.ev]; grind) j
  rw [e, qbz, if_pos (Nat.zero_le _), Nat.sub_zero, lsc_get]
  by_cases hj2 : j = B.length - 1
  ·have hi := Rat.inv_mul_cancel _ hLB
   rw [hj2, hc, hl]
   grind
  ·rw [List.getD_eq_getElem?_getD, List.getElem?_eq_none (by omega), List.getD_eq_getElem?_getD, List.getElem?_eq_none (by omega)]
   simp only [Option.getD_none]; grind
 omega
theorem rdivmod_zero (P : List Rat) : ACall Tryz.prog 34 [.val (tl (ur P)), .val (tl [])] ⟨[.val (tl []), .val (tl []), .val (ti .i64 10)], [none, none]⟩ := by
 generalize ur P = X
 refine callZ ccOk mixed [.val, .val, .val] Tryz.func34 rfl rfl (by kernel_rfl) fun zA zB zC zD zE zF zG zH zI zJ zK zL zM zN zO zP zQ zR zS zT zU zV zX zY zZ za zb zc zd ze zg zh zi zj zk zl zm zn zo zq zr zs zt zu zw zx zy zz zth A L F hS hF => ?_
 have e1 : zM (zY (zh [])) 0 = true := by rw [hS.eq, hS.ofN, hS.len]; rfl
 cbv
 refine bT e1 ?_
 exact fin3w hF (TLe.drop _ _) (TLe.drop _ _) (TVLe.refl _)
theorem rpb_divmod {f g : Rat -> Rat} {n m s t : Nat} {P B : List Rat} (hP : PB f n s P) (hB : PB g m t B) (h0 : B ≠ []) (hn : n <= 400) (hm : m <= 400) (S : Nat) (hS0 : S = s + n * (t + 1)) (hs : 2 * S + 2 * t + 2 * s <= 1900000000) :
  ∃ Q R, PB (Abs.ev Q) n S Q /\ PB (Abs.ev R) (B.length - 1) S R /\ R.length < B.length /\ (∀ x, f x = Abs.ev Q x * g x + Abs.ev R x) /\
   ACall Tryz.prog 34 [.val (tl (ur P)), .val (tl (ur B))] ⟨[.val (tl (ur Q)), .val (tl (ur R)), .val (ti .i64 0)], [none, none]⟩ := by
 have hPl := hP.len
 have hBl := hB.len
 have hB1 : B.length ≠ 0 := fun h1 => h0 (List.length_eq_zero_iff.1 h1)
 have hkn : P.length * (t + 1) <= n * (t + 1) := Nat.mul_le_mul_right _ hPl
 obtain ⟨Qf, Rf, hQf, hRf, hltf, heqf, _⟩ := qb4 P.length hP hB h0 (by omega) (by omega) (by omega) (by omega)
 have huniq : ∀ {Q R : List Rat}, IsDm P B P.length S Q R -> Q = Qf /\ R = Rf := fun {Q R} h => qbt h.q.tr h.r.tr hQf.tr hRf.tr hB.tr h.len hltf fun x => by
  have := h.eq x
  rw [Nat.sub_self, List.drop_zero] at this
  rw [<- this, hP.ev, heqf, hB.ev]
 have hinit : IsDm P B 0 S [] [] := ⟨(PB.nil S).congr fun x => rfl, ((PB.nil S).mono (Nat.zero_le _) (Nat.le_refl _)).congr fun x => rfl, by simp; omega, fun x => by rw [Nat.sub_zero, List.drop_length]; simp only [Abs.ev]; grind⟩
 refine ⟨Qf, Rf, hQf.mono hPl (by omega), hRf.mono (Nat.le_refl _) (by omega), hltf, heqf, ?_⟩
 obtain ⟨d, hd⟩ : ∃ d, d = P.length := ⟨_, rfl⟩
 obtain ⟨X, hX⟩ : ∃ Y, Y = ur P := ⟨_, rfl⟩
 obtain ⟨Y, hY⟩ : ∃ Y, Y = ur B := ⟨_, rfl⟩
 obtain ⟨T1, hT1⟩ : ∃ Y, Y = ur Qf := ⟨_, rfl⟩
 obtain ⟨T2, hT2⟩ : ∃ Y, Y = ur Rf := ⟨_, rfl⟩
 have hXl : X.length = d := by rw [hX, qac, hd]
 have lY : Y.length = B.length := by rw [hY, qac]
 rw [<- hX, <- hY, <- hT1, <- hT2]
 refine callZ ccOk mixed [.val, .val, .val] Tryz.func34 rfl rfl (by kernel_rfl) fun zA zB zC zD zE zF zG zH zI zJ zK zL zM zN zO zP zQ zR zS zT zU zV zX zY zZ za zb zc zd ze zg zh zi zj zk zl zm zn zo zq zr zs zt zu zw zx zy zz zth A L F hS hF => ?_
 have lx : zh X = d := by rw [hS.len, hXl]
 obtain ⟨N, hN, hN2⟩ : ∃ N : Int, N + 1 = (d : Int) /\ zA .i64 (zC (zY (zh X)) 1) = N := ⟨(d : Int) - 1, by omega, by rw [hS.ofN, lx, hS.sub, hS.wrap, wrap_i64 (by omega) (by omega)]⟩
 have e1 : zM (zY (zh Y)) 0 = false := by rw [hS.eq, hS.ofN, hS.len, lY]; exact decide_eq_false (by omega)
 have f0 : zn 0 0 [] = true := by rw [hS.fit]; rfl
 have f1 : zo [] 0 0 = [] := by rw [hS.part]; rfl
 cbv
 have hN : N + 1 = (d : Int) := hN
 refine bF e1 ?_
 refine loopZ ccOk mixed hS (fun (i : Nat) s' => ∃ (k : Nat) (I : Int), I + 1 = i /\ i + k = d /\ ((k = 0 /\ s' = rdmS0 X Y I) ∨ ∃ Q R UQ UR, IsDm P B k S Q R /\ UQ = ur Q /\ UR = ur R /\ s' = rdmS1 X Y UQ UR I)) (n := d) (s0 := rdmS0 X Y N) (qaq ?_ ?_) rfl (by show 2 <= 4; omega) ?_ ?_
 ·simp [leT, rdmS0, mkSt, vi, hN2]
 ·simp [leH, rdmS0, mkSt]
 ·exact ⟨0, N, hN, by omega, .inl ⟨rfl, rfl⟩⟩
 ·rintro i s1 ⟨k, I, hI, hik, hcase⟩
  by_cases hi : i = 0
  ·have l1 : zP 0 I = false := by rw [hS.le]; exact decide_eq_false (by omega)
   rcases hcase with ⟨hk, hs1⟩ | ⟨Q, R, UQ, UR, hdm, hUQ, hUR, hs1⟩
   ·have hd0 : P.length = 0 := by omega
    obtain ⟨a1, a2⟩ := huniq (hd0 ▸ hinit)
    rw [<- a1, show ur ([] : List Rat) = [] from rfl] at hT1
    rw [<- a2, show ur ([] : List Rat) = [] from rfl] at hT2
    subst hT1 hT2
    subst hs1
    cbv
    refine bF l1 (nd f0 (nd f0 ?_))
    rw [f1]
    exact hF _ (ResLe.refl _)
   ·have hkd : k = P.length := by omega
    obtain ⟨a1, a2⟩ := huniq (hkd ▸ hdm)
    rw [hUQ, hUR, a1, a2, <- hT1, <- hT2] at hs1
    subst hs1
    cbv
    refine bF l1 ?_
    exact hF _ (ResLe.refl _)
  ·have l1 : zP 0 I = true := by rw [hS.le]; exact decide_eq_true (by omega)
   obtain ⟨i', rfl⟩ : ∃ i', i = i' + 1 := ⟨i - 1, by omega⟩
   have hIi : I = (i' : Int) := by omega
   have hdm : ∃ Q R UQ UR, IsDm P B k S Q R /\ UQ = ur Q /\ UR = ur R /\ ((k = 0 /\ Q = [] /\ R = [] /\ s1 = rdmS0 X Y I) ∨ s1 = rdmS1 X Y UQ UR I) := by
    rcases hcase with ⟨hk, h⟩ | ⟨Q, R, UQ, UR, h, hq, hr, hs⟩
    ·exact ⟨[], [], [], [], hk ▸ hinit, rfl, rfl, .inl ⟨hk, rfl, rfl, h⟩⟩
    ·exact ⟨Q, R, UQ, UR, h, hq, hr, .inr hs⟩
   obtain ⟨Q, R, UQ, UR, hdm, hUQ, hUR, hcase2⟩ := hdm
   obtain ⟨R1, C, R2, Q1, cR1, cC, cR2, cQ1, hle2, hle3, h1, h2⟩ := rdm_step hP hB h0 hn hm hS0 hs (by omega : i' + 1 + k = P.length) hdm
   obtain ⟨c, hc⟩ : ∃ c, c = P.getD i' 0 := ⟨_, rfl⟩
   have hPi : P[i']? = some c := by rw [hc, List.getD_eq_getElem?_getD, List.getElem?_eq_getElem (by omega)]; rfl
   have hXi : X[i']? = some (qc c).row := by rw [hX]; exact qa5 hPi
   rw [<- hc] at cC
   obtain ⟨s2, t2, r2, p2, hrow2, _⟩ := qrow c
   rw [hrow2] at hXi cC
   have j1 : zV I = i' := by rw [hS.nat]; omega
   have n0 : zP 0 I = true := l1
   have j2 : zi X i' = some [.v (.bool s2), .lst false r2, .v (.bool t2), .lst false p2] := by rw [hS.nth]; exact hXi
   obtain ⟨I', hI', i1⟩ : ∃ I' : Int, I' + 1 = (i' : Int) /\ zA .i64 (zC I 1) = I' := ⟨I - 1, by omega, by rw [hS.sub, hS.wrap, wrap_i64 (by omega) (by omega)]⟩
   have hmm : i' < i' + 1 := by omega
   obtain ⟨UR2, hUR2⟩ : ∃ U, U = ur R2 := ⟨_, rfl⟩
   obtain ⟨UQ1, hUQ1⟩ : ∃ U, U = ur Q1 := ⟨_, rfl⟩
   have hR2r : UR2.length = R2.length := by rw [hUR2, qac]
   rw [<- hUR2] at cR2
   rw [<- hUQ1] at cQ1
   rw [<- hUR] at cR1
   rw [<- hUQ] at cQ1
   have hBl1 : B.length <= 400 := by omega
   clear hcase hP hB hPl hBl hkn hQf hRf hltf heqf huniq hinit hPi hn hm
   generalize ur C = UC at *
   generalize ur R1 = UR1 at *
   rcases hcase2 with ⟨hk, hQ0, hR0, hs1⟩ | hs1
   ·subst hQ0 hR0
    rw [show ur ([] : List Rat) = [] from rfl] at hUR hUQ
    rw [hUR] at cR1
    rw [hUQ] at cQ1
    subst hs1
    cbv
    refine bT l1 (nd f0 ?_)
    rw [f1]
    refine ⟨_, hS.call (cR1), ?_⟩
    cbv
    rw [j1, j2]
    cbv
    refine nd (n0) ?_
    refine ⟨_, hS.call (cC), ?_⟩
    cbv
    refine ⟨_, hS.call (cR2), ?_⟩
    cbv
    refine nd (f0) ?_
    rw [f1]
    refine ⟨_, hS.call (cQ1), ?_⟩
    cbv
    by_cases hlen : R2.length = B.length
    ·obtain ⟨c, M, R3, C2, Q2, cdv, cM, cR3, cC2, cQ2, hnew⟩ := h2 hlen
     have hR20 : R2 ≠ [] := fun h1 => by rw [h1] at hlen; simp at hlen; omega
     have cl1 := qby hR20 (by omega)
     have cl2 := qby h0 (by omega)
     have e5 : zM (zY (zh UR2)) (zY (zh Y)) = true := by rw [hS.eq, hS.ofN, hS.ofN, hS.len, hS.len, hR2r, lY, hlen]; exact decide_eq_true rfl
     obtain ⟨s3, t3, r3, p3, hrow3, _⟩ := qrow (R2.getD (R2.length - 1) 0)
     obtain ⟨s4, t4, r4, p4, hrow4, _⟩ := qrow (B.getD (B.length - 1) 0)
     obtain ⟨s5, t5, r5, p5, hrow5, _⟩ := qrow c
     rw [hrow3, <- hUR2] at cl1
     rw [hrow3, hrow4, hrow5] at cdv
     rw [hrow4, <- hY] at cl2
     rw [hrow5, <- hY] at cM
     rw [hrow5] at cC2
     rw [<- hUR2] at cR3
     rw [<- hUQ1] at cQ2
     obtain ⟨UR3, hUR3⟩ : ∃ U, U = ur R3 := ⟨_, rfl⟩
     obtain ⟨UQ2, hUQ2⟩ : ∃ U, U = ur Q2 := ⟨_, rfl⟩
     rw [<- hUR3] at cR3
     rw [<- hUQ2] at cQ2
     have hnx : ∃ (k2 : Nat) (I2 : Int), I2 + 1 = (i' : Int) /\ i' + k2 = d /\ ((k2 = 0 /\ rdmS1 X Y UQ2 UR3 I' = rdmS0 X Y I2) ∨ ∃ Q R UQ UR, IsDm P B k2 S Q R /\ UQ = ur Q /\ UR = ur R /\ rdmS1 X Y UQ2 UR3 I' = rdmS1 X Y UQ UR I2) := ⟨k + 1, I', hI', by omega, .inr ⟨Q2, R3, UQ2, UR3, hnew, hUQ2, hUR3, rfl⟩⟩
     generalize ur M = UM at *
     generalize ur C2 = UC2 at *
     refine bT (e5) ?_
     refine ⟨_, hS.call (cl1), ?_⟩
     cbv
     refine ⟨_, hS.call (cl2), ?_⟩
     cbv
     refine ⟨_, hS.call (cdv), ?_⟩
     cbv
     refine ⟨_, hS.call (cM), ?_⟩
     cbv
     refine ⟨_, hS.call (cR3), ?_⟩
     cbv
     refine ⟨_, hS.call (cC2), ?_⟩
     cbv
     refine ⟨_, hS.call (cQ2), ?_⟩
     cbv
     exact again (s' := rdmS1 X Y UQ2 UR3 I') (m := i') (by simp [leT, rdmS1, mkSt, vi, i1]) (by simp [leH, rdmS1, mkSt]) rfl (by show 2 <= 2; omega) hmm hnx
    ·have hnew := h1 (by omega)
     have e5 : zM (zY (zh UR2)) (zY (zh Y)) = false := by rw [hS.eq, hS.ofN, hS.ofN, hS.len, hS.len, hR2r, lY]; exact decide_eq_false (by omega)
     have hnx : ∃ (k2 : Nat) (I2 : Int), I2 + 1 = (i' : Int) /\ i' + k2 = d /\ ((k2 = 0 /\ rdmS1 X Y UQ1 UR2 I' = rdmS0 X Y I2) ∨ ∃ Q R UQ UR, IsDm P B k2 S Q R /\ UQ = ur Q /\ UR = ur R /\ rdmS1 X Y UQ1 UR2 I' = rdmS1 X Y UQ UR I2) := ⟨k + 1, I', hI', by omega, .inr ⟨Q1, R2, UQ1, UR2, hnew, hUQ1, hUR2, rfl⟩⟩
     refine bF (e5) ?_
     exact again (s' := rdmS1 X Y UQ1 UR2 I') (m := i') (by simp [leT, rdmS1, mkSt, vi, i1]) (by simp [leH, rdmS1, mkSt]) rfl (by show 2 <= 2; omega) hmm hnx
   ·subst hs1
    cbv
    refine bT l1 ?_
    refine ⟨_, hS.call (cR1), ?_⟩
    cbv
    rw [j1, j2]
    cbv
    refine nd (n0) ?_
    refine ⟨_, hS.call (cC), ?_⟩
    cbv
    refine ⟨_, hS.call (cR2), ?_⟩
    cbv
    refine ⟨_, hS.call (cQ1), ?_⟩
    cbv
    by_cases hlen : R2.length = B.length
    ·obtain ⟨c, M, R3, C2, Q2, cdv, cM, cR3, cC2, cQ2, hnew⟩ := h2 hlen
     have hR20 : R2 ≠ [] := fun h1 => by rw [h1] at hlen; simp at hlen; omega
     have cl1 := qby hR20 (by omega)
     have cl2 := qby h0 (by omega)
     have e5 : zM (zY (zh UR2)) (zY (zh Y)) = true := by rw [hS.eq, hS.ofN, hS.ofN, hS.len, hS.len, hR2r, lY, hlen]; exact decide_eq_true rfl
     obtain ⟨s3, t3, r3, p3, hrow3, _⟩ := qrow (R2.getD (R2.length - 1) 0)
     obtain ⟨s4, t4, r4, p4, hrow4, _⟩ := qrow (B.getD (B.length - 1) 0)
     obtain ⟨s5, t5, r5, p5, hrow5, _⟩ := qrow c
     rw [hrow3, <- hUR2] at cl1
     rw [hrow3, hrow4, hrow5] at cdv
     rw [hrow4, <- hY] at cl2
     rw [hrow5, <- hY] at cM
     rw [hrow5] at cC2
     rw [<- hUR2] at cR3
     rw [<- hUQ1] at cQ2
     obtain ⟨UR3, hUR3⟩ : ∃ U, U = ur R3 := ⟨_, rfl⟩
     obtain ⟨UQ2, hUQ2⟩ : ∃ U, U = ur Q2 := ⟨_, rfl⟩
     rw [<- hUR3] at cR3
     rw [<- hUQ2] at cQ2
     have hnx : ∃ (k2 : Nat) (I2 : Int), I2 + 1 = (i' : Int) /\ i' + k2 = d /\ ((k2 = 0 /\ rdmS1 X Y UQ2 UR3 I' = rdmS0 X Y I2) ∨ ∃ Q R UQ UR, IsDm P B k2 S Q R /\ UQ = ur Q /\ UR = ur R /\ rdmS1 X Y UQ2 UR3 I' = rdmS1 X Y UQ UR I2) := ⟨k + 1, I', hI', by omega, .inr ⟨Q2, R3, UQ2, UR3, hnew, hUQ2, hUR3, rfl⟩⟩
     generalize ur M = UM at *
     generalize ur C2 = UC2 at *
     refine bT (e5) ?_
     refine ⟨_, hS.call (cl1), ?_⟩
     cbv
     refine ⟨_, hS.call (cl2), ?_⟩
     cbv
     refine ⟨_, hS.call (cdv), ?_⟩
     cbv
     refine ⟨_, hS.call (cM), ?_⟩
     cbv
     refine ⟨_, hS.call (cR3), ?_⟩
     cbv
     refine ⟨_, hS.call (cC2), ?_⟩
     cbv
     refine ⟨_, hS.call (cQ2), ?_⟩
     cbv
     exact again (s' := rdmS1 X Y UQ2 UR3 I') (m := i') (by simp [leT, rdmS1, mkSt, vi, i1]) (by simp [leH, rdmS1, mkSt]) rfl (by show 2 <= 2; omega) hmm hnx
    ·have hnew := h1 (by omega)
     have e5 : zM (zY (zh UR2)) (zY (zh Y)) = false := by rw [hS.eq, hS.ofN, hS.ofN, hS.len, hS.len, hR2r, lY]; exact decide_eq_false (by omega)
     have hnx : ∃ (k2 : Nat) (I2 : Int), I2 + 1 = (i' : Int) /\ i' + k2 = d /\ ((k2 = 0 /\ rdmS1 X Y UQ1 UR2 I' = rdmS0 X Y I2) ∨ ∃ Q R UQ UR, IsDm P B k2 S Q R /\ UQ = ur Q /\ UR = ur R /\ rdmS1 X Y UQ1 UR2 I' = rdmS1 X Y UQ UR I2) := ⟨k + 1, I', hI', by omega, .inr ⟨Q1, R2, UQ1, UR2, hnew, hUQ1, hUR2, rfl⟩⟩
     refine bF (e5) ?_
     exact again (s' := rdmS1 X Y UQ1 UR2 I') (m := i') (by simp [leT, rdmS1, mkSt, vi, i1]) (by simp [leH, rdmS1, mkSt]) rfl (by show 2 <= 2; omega) hmm hnx
open Go Go.Abs Go.Abs.M Go.Proofs
theorem rpb_quo {f g : Rat -> Rat} {n m s t : Nat} {P B : List Rat} (hP : PB f n s P) (hB : PB g m t B) (h0 : B ≠ []) (hn : n <= 400) (hm : m <= 400) (S : Nat) (hS0 : S = s + n * (t + 1)) (hs : 2 * S + 2 * t + 2 * s <= 1900000000) :
  ∃ Q R, PB (Abs.ev Q) n S Q /\ PB (Abs.ev R) (B.length - 1) S R /\ R.length < B.length /\ (∀ x, f x = Abs.ev Q x * g x + Abs.ev R x) /\
   ACall Tryz.prog 84 [.val (tl (ur P)), .val (tl (ur B))] ⟨[.val (tl (ur Q))], [none, none]⟩ /\ ACall Tryz.prog 83 [.val (tl (ur P)), .val (tl (ur B))] ⟨[.val (tl (ur R))], [none, none]⟩ := by
 obtain ⟨Q, R, h1, h2, h3, h4, c⟩ := rpb_divmod hP hB h0 hn hm S hS0 hs
 refine ⟨Q, R, h1, h2, h3, h4, ?_, ?_⟩
 all_goals
  clear h1 h2 h3 h4
  generalize ur P = X at *
  generalize ur B = Y at *
  generalize ur Q = UQ at *
  generalize ur R = UR at *
 ·refine callZ ccOk mixed [.val] Tryz.func84 rfl rfl (by kernel_rfl) fun zA zB zC zD zE zF zG zH zI zJ zK zL zM zN zO zP zQ zR zS zT zU zV zX zY zZ za zb zc zd ze zg zh zi zj zk zl zm zn zo zq zr zs zt zu zw zx zy zz zth A L F hS hF => ?_
  cbv
  refine ⟨_, hS.call (c), ?_⟩
  cbv
  exact hF _ (ResLe.refl _)
 ·refine callZ ccOk mixed [.val] Tryz.func83 rfl rfl (by kernel_rfl) fun zA zB zC zD zE zF zG zH zI zJ zK zL zM zN zO zP zQ zR zS zT zU zV zX zY zZ za zb zc zd ze zg zh zi zj zk zl zm zn zo zq zr zs zt zu zw zx zy zz zth A L F hS hF => ?_
  cbv
  refine ⟨_, hS.call (c), ?_⟩
  cbv
  exact hF _ (ResLe.refl _)
theorem rumonic_nil : ACall Tryz.prog 39 [.val (tl [])] ⟨[.val (tl [])], [none]⟩ := by
 refine callZ ccOk mixed [.val] Tryz.func39 rfl rfl (by kernel_rfl) fun zA zB zC zD zE zF zG zH zI zJ zK zL zM zN zO zP zQ zR zS zT zU zV zX zY zZ za zb zc zd ze zg zh zi zj zk zl zm zn zo zq zr zs zt zu zw zx zy zz zth A L F hS hF => ?_
 have e1 : zM (zY (zh [])) 0 = true := by rw [hS.eq, hS.ofN, hS.len]; rfl
 cbv
 refine bT e1 ?_
 exact fin1w hF (TLe.drop _ _)
theorem rpb_monic {f : Rat -> Rat} {n s : Nat} {P : List Rat} (hP : PB f n s P) (h0 : P ≠ []) (hn : n <= 1000) (hs : s <= 900000000) :
  ∃ R, PB (fun x => (P.getD (P.length - 1) 0)⁻¹ * f x) n s R /\ ACall Tryz.prog 39 [.val (tl (ur P))] ⟨[.val (tl (ur R))], [none]⟩ := by
 have hl := hP.len
 have hm0 : P.length ≠ 0 := fun h => h0 (List.length_eq_zero_iff.1 h)
 have hL0 := tr_last hP.tr h0
 have cl := qby h0 (by omega)
 obtain ⟨hq, ci⟩ := rqinv_row hL0 (cf_qs hP.cf (P.length - 1)) (by omega)
 have hcl : CF s (fun _ => P.getD (P.length - 1) 0) := hP.cf.comp fun _ => P.length - 1
 obtain ⟨R, hR, cs⟩ := rpb_scale (hcl.inv hL0) hP hn (by omega)
 have hcf : CF s (fun j => R.getD j 0) := (hP.cf.div (P.length - 1) hL0).congr fun j => by
  rw [ev_coef (P := R) (Q := lsc (P.getD (P.length - 1) 0)⁻¹ P) (fun x => by rw [hR.ev, qaw, hP.ev]) j, lsc_get]
 refine ⟨R, ⟨hR.tr, hR.ev, hR.len, hcf⟩, ?_⟩
 obtain ⟨s1, t1, r1, p1, hrow, _⟩ := qrow (P.getD (P.length - 1) 0)
 obtain ⟨s2, t2, r2, p2, hrow2, _⟩ := qrow (P.getD (P.length - 1) 0)⁻¹
 rw [hrow] at cl
 rw [hrow, hrow2] at ci
 rw [hrow2] at cs
 have lX := qac P
 generalize P.length = m at *
 generalize ur P = X at *
 generalize ur R = Y at *
 refine callZ ccOk mixed [.val] Tryz.func39 rfl rfl (by kernel_rfl) fun zA zB zC zD zE zF zG zH zI zJ zK zL zM zN zO zP zQ zR zS zT zU zV zX zY zZ za zb zc zd ze zg zh zi zj zk zl zm zn zo zq zr zs zt zu zw zx zy zz zth A L F hS hF => ?_
 have e1 : zM (zY (zh X)) 0 = false := by rw [hS.eq, hS.ofN, hS.len, lX]; exact decide_eq_false (by omega)
 cbv
 refine bF (e1) ?_
 refine ⟨_, hS.call (cl), ?_⟩
 cbv
 refine ⟨_, hS.call (ci), ?_⟩
 cbv
 refine ⟨_, hS.call (cs), ?_⟩
 cbv
 exact hF _ (ResLe.refl _)
def rudeSt (X : Abs.Rows) (len : Nat) (r : Abs.Rows) (i : Int) : St := mkSt 23 [.c (.t (.lst false X)), .junk, .junk, .c (.sl 1 0 len false), vi .i64 i] [none, some (.rows 4 r true false)]
theorem ruderive_call (P : List Rat) (b : Nat) (hP : P.length <= 1000) (h1 : ∀ j, Qs (P.getD j 0) b) (hb : b <= 67108864) :
  ACall Tryz.prog 40 [.val (tl (ur P))] ⟨[.val (tl (ur (pder P)))], [none]⟩ := by
 obtain ⟨n, hn⟩ : ∃ n, n = P.length - 1 := ⟨_, rfl⟩
 obtain ⟨T, hT⟩ : ∃ L : List Rat, L = pder P := ⟨_, rfl⟩
 have hTl : T.length = n := by rw [hT, pder_len, hn]
 obtain ⟨wt, hwt⟩ : ∃ wt : Nat -> Rat, ∀ i, wt i = (((i + 1 : Nat) : Int) : Rat) := ⟨_, fun _ => rfl⟩
 have hTg : ∀ i, i < n -> T[i]? = some (wt i * P.getD (i + 1) 0) /\ P[i + 1]? = some (P.getD (i + 1) 0) := fun i hi => by
  refine ⟨?_, ?_⟩
  ·have h := pder_get P i
   rw [<- hT, List.getD_eq_getElem?_getD, List.getElem?_eq_getElem (by omega)] at h
   rw [List.getElem?_eq_getElem (by omega), hwt, <- h]; rfl
  ·rw [List.getD_eq_getElem?_getD, List.getElem?_eq_getElem (by omega)]; rfl
 rw [<- hT]
 have cws : ∀ (i : Nat) (I : Int), I = ((i + 1 : Nat) : Int) -> i < n -> ACall Tryz.prog 22 [.val (ti .i64 I)] ⟨[.val (.agg (qc (wt i)).row)], [none]⟩ := fun i I hI h => by rw [hI, hwt]; exact qa4 _ (by omega) (by omega)
 have cmul : ∀ i, i < n -> ACall Tryz.prog 50 [.val (.agg (qc (wt i)).row), .val (.agg (qc (P.getD (i + 1) 0)).row)] ⟨[.val (.agg (qc (wt i * P.getD (i + 1) 0)).row)], [none, none]⟩ := fun i h => by rw [hwt]; exact (rqmul_row (Qs.whole (k := 1) (by omega) (Nat.le_refl 1)) (h1 (i + 1)) (by omega)).2
 have lX := qac P
 obtain ⟨X, hX⟩ : ∃ X, X = ur P := ⟨_, rfl⟩
 obtain ⟨Z, hZ⟩ : ∃ X, X = ur T := ⟨_, rfl⟩
 rw [<- hX] at lX
 rw [<- hX, <- hZ]
 obtain ⟨d, hd⟩ : ∃ d, d = P.length := ⟨_, rfl⟩
 rw [<- hd] at lX hn hP
 clear hT hwt
 refine callZ ccOk mixed [.val] Tryz.func40 rfl rfl (by kernel_rfl) fun zA zB zC zD zE zF zG zH zI zJ zK zL zM zN zO zP zQ zR zS zT zU zV zX zY zZ za zb zc zd ze zg zh zi zj zk zl zm zn zo zq zr zs zt zu zw zx zy zz zth A L F hS hF => ?_
 have hlx : zh X = d := by rw [hS.len, lX]
 obtain ⟨N, hN, hN2⟩ : ∃ N : Int, N = d /\ zY (zh X) = N := ⟨_, rfl, by rw [hlx, hS.ofN]⟩
 cbv
 have hN : N = (d : Int) := hN
 refine loopZR ccOk mixed hS (fun (m : Nat) s' => ∃ (i : Nat) (I : Int) (r : Abs.Rows), I = ((i + 1 : Nat) : Int) /\ i + m = n /\ r = ur (T.take i) /\ s' = rudeSt X i r I) (n := n) (s0 := rudeSt X 0 [] 1) (qaq ?_ ?_) rfl (by show 1 <= 2; omega) ?_ ?_
 ·simp [leT, rudeSt, mkSt, vi, vb]
 ·simp [leH, rudeSt, mkSt]
 ·exact ⟨0, 1, [], rfl, by omega, rfl, rfl⟩
 ·rintro m s1 ⟨i, I, r, hI, him, hr, hs1⟩
  by_cases hi : i < n
  ·have l1 : zO I (zY (zh X)) = true := by rw [hN2, hS.lt]; exact decide_eq_true (by omega)
   obtain ⟨e1, e2⟩ := hTg i hi
   have c1 := cws i I hI hi
   have c3 := cmul i hi
   obtain ⟨w, hw⟩ : ∃ w : Rat, w = wt i := ⟨_, rfl⟩
   rw [<- hw] at c1 c3 e1
   obtain ⟨s3, t3, r3, p3, hrow3, _⟩ := qrow w
   obtain ⟨s4, t4, r4, p4, hrow4, _⟩ := qrow (P.getD (i + 1) 0)
   obtain ⟨s5, t5, r5, p5, hrow5, _⟩ := qrow (w * P.getD (i + 1) 0)
   obtain ⟨row, hrw⟩ : ∃ row, row = [Tree.v (.bool s5), .lst false r5, .v (.bool t5), .lst false p5] := ⟨_, rfl⟩
   obtain ⟨r2, hr2⟩ : ∃ r2, r2 = ur (T.take (i + 1)) := ⟨_, rfl⟩
   have hap : r ++ [row] = r2 := by rw [hr2, List.take_add_one, e1, Option.toList_some, ur_app, hrow5, hr, hrw]
   have hrl : r.length = i := by rw [hr, qac, List.length_take]; omega
   have hr4 : row.length = 4 := by rw [hrw]; rfl
   have u0 : zo [row] 0 1 = [row] := by rw [hS.part]; rfl
   have u1 : zn 0 1 [row] = true := by rw [hS.fit]; rfl
   have u2 : zQ (za (zh [row]) 0) = true := by rw [hS.len, hS.neq, hS.not]; rfl
   have u3 : zt 4 [row] = true := by rw [hS.wide]; simp [hr4]
   have u4 : ze i (zh [row]) 64 = true := by rw [hS.len, hS.room]; exact decide_eq_true (by unfold capBytes; simp only [List.length_cons, List.length_nil]; omega)
   have u5 : za (zb 0 i) (zh r) = true := by rw [hS.nadd, hS.neq, hS.len, hrl, Nat.zero_add]; exact decide_eq_true rfl
   have u6 : zb i (zh [row]) = i + 1 := by rw [hS.len, hS.nadd]; rfl
   have u7 : zq r 0 [row] = r2 := by rw [hS.ext, List.drop_zero]; exact hap
   have hXi := qa5 e2
   rw [<- hX, hrow4] at hXi
   rw [hrow3] at c1
   rw [hrow3, hrow4, hrow5] at c3
   have g1 : zP 0 I = true := by rw [hS.le]; exact decide_eq_true (by omega)
   have hz : zi X (zV I) = some [.v (.bool s4), .lst false r4, .v (.bool t4), .lst false p4] := by rw [hS.nat, hI, Int.toNat_natCast, hS.nth, hXi]
   have w2 : zA .i64 I = I := by rw [hS.wrap, wrap_i64 (by omega) (by omega)]
   obtain ⟨I', hI', i1⟩ : ∃ I' : Int, I' = ((i + 1 + 1 : Nat) : Int) /\ zA .i64 (zB I 1) = I' := ⟨I + 1, by omega, by rw [hS.add, hS.wrap, wrap_i64 (by omega) (by omega)]⟩
   have hmm : m - 1 < m := by omega
   have hnx : ∃ (i2 : Nat) (I2 : Int) (r' : Abs.Rows), I2 = ((i2 + 1 : Nat) : Int) /\ i2 + (m - 1) = n /\ r' = ur (T.take i2) /\ rudeSt X (i + 1) r2 I' = rudeSt X i2 r' I2 := ⟨i + 1, I', r2, hI', by omega, hr2, rfl⟩
   clear cmul cws hTg hr hr2 hap e1 e2 hXi
   subst hs1
   cbv
   refine bT l1 ?_
   refine ⟨_, hS.call (c1), ?_⟩
   cbv
   rw [hz]
   cbv
   refine nd (g1) ?_
   refine ⟨_, hS.call (c3), ?_⟩
   cbv
   rw [<- hrw, u0]
   refine nd (u1) ?_
   refine nd (u2) ?_
   refine nd (u3) ?_
   refine nd (u4) ?_
   refine nd (u5) ?_
   refine againR [(1, 7)] (s' := rudeSt X (i + 1) r2 I') (k := m - 1) ?_ ?_ ?_ ?_ rfl (by show 1 <= 2; omega) hmm hnx
   ·simp [leTR, rudeSt, mkSt, vi, AV.ren, AV.noTup, Cell.ren, renF, i1, u6]
   ·simp [leHR, rudeSt, mkSt, Abs.look, renF, Blk.ren, u7]
   ·simp [liveR, rudeSt, mkSt]
   ·simp
  ·have l1 : zO I (zY (zh X)) = false := by rw [hN2, hS.lt]; exact decide_eq_false (by omega)
   have hrT : r = Z := by rw [hr, hZ, show i = T.length by omega, List.take_length]
   have hrl : r.length = i := by rw [hrT, hZ, qac]; omega
   have f1 : zn 0 i r = true := by rw [hS.fit]; exact decide_eq_true (by omega)
   have f2 : zo r 0 i = r := by rw [hS.part, List.drop_zero, List.take_of_length_le (by omega)]
   clear cmul cws hTg
   subst hrT
   subst hs1
   cbv
   refine bF l1 (nd f1 ?_)
   rw [f2]
   exact hF _ (ResLe.refl _)
theorem rpb_derive {f : Rat -> Rat} {n s : Nat} {P : List Rat} (hP : PB f n s P) (hn : n <= 1000) (hs : s <= 2000000000) :
  ∃ R, PB (evd P) (n - 1) (s + 10) R /\ ACall Tryz.prog 40 [.val (tl (ur P))] ⟨[.val (tl (ur R))], [none]⟩ := by
 have hl := hP.len
 refine ⟨pder P, ⟨?_, ev_pder P, by rw [pder_len]; omega, ((hP.cf.comp (· + 1)).wt (t := 10) (fun j => ((j + 1 : Nat) : Int)) fun j => ?_).congr fun j => (pder_get P j).symm⟩, ruderive_call P (s / 32 + 1) (by omega) (fun j => cf_qs hP.cf j) (by omega)⟩
 ·rcases Classical.em (pder P = []) with h | h
  ·rw [h]; rfl
  ·have hne : (pder P).length ≠ 0 := fun h1 => h (List.length_eq_zero_iff.1 h1)
   rw [pder_len] at hne
   refine tlen_top h ?_
   rw [pder_get, pder_len, show P.length - 1 - 1 + 1 = P.length - 1 by omega]
   intro h1
   rcases Rat.mul_eq_zero.1 h1 with h2 | h2
   ·rw [Rat.intCast_eq_zero_iff] at h2; omega
   ·exact tr_last hP.tr (fun h3 => by rw [h3] at hne; simp at hne) h2
 ·by_cases h : j + 1 < P.length
  ·right
   have : (2 : Int) ^ 10 = 1024 := by decide
   omega
  ·left
   show P.getD (j + 1) 0 = 0
   rw [List.getD_eq_getElem?_getD, List.getElem?_eq_none (by omega)]; rfl
def ruevSt (X : Abs.Rows) (s : Bool) (r : Abs.Rows) (t : Bool) (p : Abs.Rows) (s2 : Bool) (r2 : Abs.Rows) (t2 : Bool) (p2 : Abs.Rows) (i : Int) : St := mkSt 24 [.c (.t (.lst false X)), .agg [.t (.v (.bool s)), .t (.lst false r), .t (.v (.bool t)), .t (.lst false p)], .junk, .c (.ptr 2 0 0), .c (.ptr 3 0 0), .c (.ptr 6 0 0), vi .i64 i] [none, none, some (.var [.t (.v (.bool s)), .t (.lst false r), .t (.v (.bool t)), .t (.lst false p)]), some (.var (rawZ.map .t)), none, none, some (.var [.t (.v (.bool s2)), .t (.lst false r2), .t (.v (.bool t2)), .t (.lst false p2)])]
theorem rueval_call (P : List Rat) (x : Rat) (a d : Nat) (hl : P.length <= 1000) (h1 : ∀ q ∈ P, Qs q a) (h2 : Qs x d) (hbd : a + d + 1 <= 67108864) :
  Qs (Abs.ev P x) (1 + P.length * (a + d + 1)) /\ ACall Tryz.prog 43 [.val (tl (ur P)), .val (.agg (qc x).row)] ⟨[.val (.agg (qc (Abs.ev P x)).row)], [none, none]⟩ := by
 have hsz : ∀ m, m <= P.length -> Qs (Abs.ev (P.drop (P.length - m)) x) (1 + m * (a + d + 1)) := fun m => by
  induction m with
  | zero => intro _; rw [Nat.sub_zero, List.drop_length]; exact Qs.zero (by omega)
  | succ m ih =>
   intro hm
   have hd : P.drop (P.length - (m + 1)) = P[P.length - (m + 1)] :: P.drop (P.length - m) := by
    rw [List.drop_eq_getElem_cons (by omega), show P.length - (m + 1) + 1 = P.length - m by omega]
   rw [hd]
   have q1 := add_small (h1 _ (List.getElem_mem (by omega : P.length - (m + 1) < P.length))) (qa9 h2 (ih (by omega)))
   exact q1.mono (by rw [Nat.succ_mul]; omega)
 have hfin := hsz P.length (Nat.le_refl _)
 rw [Nat.sub_self, List.drop_zero] at hfin
 refine ⟨hfin, ?_⟩
 obtain ⟨n, hn⟩ : ∃ n, n = P.length := ⟨_, rfl⟩
 obtain ⟨X, hX⟩ : ∃ Y, Y = ur P := ⟨_, rfl⟩
 obtain ⟨T, hT⟩ : ∃ T, T = (qc (Abs.ev P x)).row := ⟨_, rfl⟩
 have hXl : X.length = n := by rw [hX, qac, hn]
 obtain ⟨s, t, r, p, hrow, hxr⟩ := qrow x
 rw [<- hX, hrow, <- hT]
 have cw := qa4 0 (by omega) (by omega)
 obtain ⟨s0, t0, r0, p0, hrow0, hxr0⟩ := qrow 0
 rw [show ((0 : Int) : Rat) = 0 from rfl, hrow0] at cw
 refine callZ ccOk mixed [.val] Tryz.func43 rfl rfl (by kernel_rfl) fun zA zB zC zD zE zF zG zH zI zJ zK zL zM zN zO zP zQ zR zS zT zU zV zX zY zZ za zb zc zd ze zg zh zi zj zk zl zm zn zo zq zr zs zt zu zw zx zy zz zth A L F hS hF => ?_
 have lx : zh X = n := by rw [hS.len, hXl]
 obtain ⟨N, hN, hN2⟩ : ∃ N : Int, N + 1 = n /\ zA .i64 (zC (zY (zh X)) 1) = N := ⟨(n : Int) - 1, by omega, by rw [hS.sub, hS.ofN, lx, hS.wrap, wrap_i64 (by omega) (by omega)]⟩
 cbv
 have hN : N + 1 = (n : Int) := hN
 refine ⟨_, hS.call (cw), ?_⟩
 cbv
 refine loopZ ccOk mixed hS (fun (k : Nat) s' => ∃ (I : Int) (s2 t2 : Bool) (r2 p2 : Abs.Rows), I + 1 = k /\ k <= n /\ (qc (Abs.ev (P.drop k) x)).row = [.v (.bool s2), .lst false r2, .v (.bool t2), .lst false p2] /\ s' = ruevSt X s r t p s2 r2 t2 p2 I) (n := n) (s0 := ruevSt X s r t p s0 r0 t0 p0 N) (qaq ?_ ?_) rfl (by show 2 <= 7; omega) ?_ ?_
 ·simp [leT, ruevSt, mkSt, vi, hN2]
 ·simp [leH, ruevSt, mkSt, rawZ]
 ·exact ⟨N, s0, t0, r0, p0, hN, Nat.le_refl _, by rw [hn, List.drop_length]; exact hrow0, rfl⟩
 ·rintro k s1 ⟨I, s2, t2, r2, p2, hI, hk, hv, hs1⟩
  by_cases hk0 : k = 0
  ·have l1 : zP 0 I = false := by rw [hS.le]; exact decide_eq_false (by omega)
   rw [hk0, List.drop_zero, <- hT] at hv
   subst hv
   subst hs1
   cbv
   refine bF l1 ?_
   exact hF _ (ResLe.refl _)
  ·have l1 : zP 0 I = true := by rw [hS.le]; exact decide_eq_true (by omega)
   obtain ⟨i, hi⟩ : ∃ i, k = i + 1 := ⟨k - 1, by omega⟩
   obtain ⟨c, hc⟩ : ∃ c, c = P.getD i 0 := ⟨_, rfl⟩
   have hPi : P[i]? = some c := by rw [hc, List.getD_eq_getElem?_getD, List.getElem?_eq_getElem (by omega)]; rfl
   have hdr : Abs.ev (P.drop i) x = Abs.ev (P.drop k) x * x + c := by
    have : P.drop i = c :: P.drop k := by
     have h3 := List.getElem?_eq_getElem (l := P) (i := i) (by omega)
     rw [hPi] at h3
     rw [hi, List.drop_eq_getElem_cons (by omega : i < P.length), <- Option.some.inj h3]
    rw [this]; simp only [Abs.ev]; grind
   have hXi : X[i]? = some (qc c).row := by rw [hX]; exact qa5 hPi
   obtain ⟨s4, t4, r4, p4, hrow4, _⟩ := qrow c
   have hb : (n - k) * (a + d + 1) <= 1000 * (a + d + 1) := Nat.mul_le_mul_right _ (by omega)
   have hq1 := hsz (n - k) (by omega)
   rw [show P.length - (n - k) = k by omega] at hq1
   obtain ⟨hq2, cm⟩ := rqmul_row hq1 h2 (by omega)
   obtain ⟨hq3, ca⟩ := rqadd_row hq2 (h1 c (List.mem_of_getElem? hPi)) (by omega)
   rw [<- hdr] at ca
   obtain ⟨s5, t5, r5, p5, hrow5, _⟩ := qrow (Abs.ev (P.drop k) x * x)
   obtain ⟨s6, t6, r6, p6, hrow6, _⟩ := qrow (Abs.ev (P.drop i) x)
   rw [hv, hrow, hrow5] at cm
   rw [hrow5, hrow4, hrow6] at ca
   rw [hrow4] at hXi
   have j1 : zV I = i := by rw [hS.nat]; omega
   have n0 : zP 0 I = true := l1
   have j2 : zi X i = some [.v (.bool s4), .lst false r4, .v (.bool t4), .lst false p4] := by rw [hS.nth]; exact hXi
   obtain ⟨I', hI', i1⟩ : ∃ I' : Int, I' + 1 = (i : Int) /\ zA .i64 (zC I 1) = I' := ⟨I - 1, by omega, by rw [hS.sub, hS.wrap, wrap_i64 (by omega) (by omega)]⟩
   have hmm : i < k := by omega
   have hnx : ∃ (I2 : Int) (s9 t9 : Bool) (r9 p9 : Abs.Rows), I2 + 1 = (i : Int) /\ i <= n /\ (qc (Abs.ev (P.drop i) x)).row = [.v (.bool s9), .lst false r9, .v (.bool t9), .lst false p9] /\ ruevSt X s r t p s6 r6 t6 p6 I' = ruevSt X s r t p s9 r9 t9 p9 I2 := ⟨I', s6, t6, r6, p6, hI', by omega, hrow6, rfl⟩
   subst hs1
   cbv
   refine bT l1 ?_
   refine ⟨_, hS.call (cm), ?_⟩
   cbv
   rw [j1, j2]
   cbv
   refine nd (n0) ?_
   refine ⟨_, hS.call (ca), ?_⟩
   cbv
   exact again (s' := ruevSt X s r t p s6 r6 t6 p6 I') (m := i) (by simp [leT, ruevSt, mkSt, vi, i1]) (by simp [leH, ruevSt, mkSt, rawZ]) rfl (by show 2 <= 7; omega) hmm hnx
def rupoSt (s : Bool) (r : Abs.Rows) (t : Bool) (p : Abs.Rows) (s2 : Bool) (r2 : Abs.Rows) (t2 : Bool) (p2 : Abs.Rows) (n i : Int) : St := mkSt 17 [.agg [.t (.v (.bool s)), .t (.lst false r), .t (.v (.bool t)), .t (.lst false p)], vi .i64 n, .c (.ptr 2 0 0), .junk, .c (.ptr 3 0 0), .c (.ptr 6 0 0), vi .i64 i] [none, none, some (.var [.t (.v (.bool s)), .t (.lst false r), .t (.v (.bool t)), .t (.lst false p)]), some (.var (rawZ.map .t)), none, none, some (.var [.t (.v (.bool s2)), .t (.lst false r2), .t (.v (.bool t2)), .t (.lst false p2)])]
def upoSt (s : Bool) (r : Abs.Rows) (t : Bool) (p : Abs.Rows) (s2 : Bool) (r2 : Abs.Rows) (t2 : Bool) (p2 : Abs.Rows) (n i : Int) : St := mkSt 15 [.agg [.t (.v (.bool s)), .t (.lst false r), .t (.v (.bool t)), .t (.lst false p)], .junk, .c (.ptr 2 0 0), .junk, .c (.ptr 3 0 0), .c (.ptr 6 0 0), .junk, vi .i64 n, vi .i64 i] [none, none, some (.var [.t (.v (.bool s)), .t (.lst false r), .t (.v (.bool t)), .t (.lst false p)]), some (.var (rawZ.map .t)), none, none, some (.var [.t (.v (.bool s2)), .t (.lst false r2), .t (.v (.bool t2)), .t (.lst false p2)])]
theorem rupower_call (x : Rat) (k a : Nat) (hk : k <= 100) (h1 : Qs x a) (ha : a <= 67108864) :
  Qs (x ^ k) (1 + k * a) /\ ACall Tryz.prog 89 [.val (.agg (qc x).row), .val (ti .i64 (k : Int))] ⟨[.val (.agg (qc (x ^ k)).row)], [none, none]⟩ := by
 have hsz : ∀ m, Qs (x ^ m) (1 + m * a) := fun m => by
  induction m with
  | zero => rw [Rat.pow_zero]; exact (Qs.whole (n := 1) (by decide) (Nat.le_refl 1)).mono (by omega)
  | succ m ih => rw [Rat.pow_succ]; exact (qa9 ih h1).mono (by rw [Nat.succ_mul]; omega)
 refine ⟨hsz k, ?_⟩
 have hmul : ∀ m, m < k -> ACall Tryz.prog 50 [.val (.agg (qc (x ^ m)).row), .val (.agg (qc x).row)] ⟨[.val (.agg (qc (x ^ (m + 1))).row)], [none, none]⟩ := fun m hm => by
  have hb : m * a <= 100 * a := Nat.mul_le_mul_right _ (by omega)
  have := (rqmul_row (hsz m) h1 (by omega)).2
  rwa [<- Rat.pow_succ] at this
 have cw := qa4 1 (by omega) (by omega)
 rw [show ((1 : Int) : Rat) = x ^ 0 from (Rat.pow_zero x).symm] at cw
 obtain ⟨N, hN⟩ : ∃ N : Int, N = (k : Int) := ⟨_, rfl⟩
 obtain ⟨T, hT⟩ : ∃ T, T = (qc (x ^ k)).row := ⟨_, rfl⟩
 obtain ⟨s, t, r, p, hrow, _⟩ := qrow x
 obtain ⟨s0, t0, r0, p0, hrow0, _⟩ := qrow (x ^ 0)
 rw [<- hN, <- hT, hrow]
 rw [hrow0] at cw
 rw [hrow] at hmul
 refine callZ ccOk mixed [.val] Tryz.func89 rfl rfl (by kernel_rfl) fun zA zB zC zD zE zF zG zH zI zJ zK zL zM zN zO zP zQ zR zS zT zU zV zX zY zZ za zb zc zd ze zg zh zi zj zk zl zm zn zo zq zr zs zt zu zw zx zy zz zth A L F hS hF => ?_
 cbv
 refine ⟨_, hS.call (cw), ?_⟩
 cbv
 have hN : N = (k : Int) := hN
 refine loopZ ccOk mixed hS (fun (m : Nat) s' => ∃ (i : Nat) (I : Int) (s2 t2 : Bool) (r2 p2 : Abs.Rows), I = i /\ i + m = k /\ (qc (x ^ i)).row = [.v (.bool s2), .lst false r2, .v (.bool t2), .lst false p2] /\ s' = rupoSt s r t p s2 r2 t2 p2 N I) (n := k) (s0 := rupoSt s r t p s0 r0 t0 p0 N 0) (qaq ?_ ?_) rfl (by show 2 <= 7; omega) ?_ ?_
 ·simp [leT, rupoSt, mkSt, vi]
 ·simp [leH, rupoSt, mkSt, rawZ]
 ·exact ⟨0, 0, s0, t0, r0, p0, rfl, by omega, hrow0, rfl⟩
 ·rintro m s1 ⟨i, I, s2, t2, r2, p2, hI, him, hv, hs1⟩
  by_cases hi : i < k
  ·have l1 : zO I N = true := by rw [hS.lt]; exact decide_eq_true (by omega)
   have cm := hmul i hi
   obtain ⟨s5, t5, r5, p5, hrow5, _⟩ := qrow (x ^ (i + 1))
   rw [hv, hrow5] at cm
   obtain ⟨I', hI', i1⟩ : ∃ I' : Int, I' = ((i + 1 : Nat) : Int) /\ zA .i64 (zB I 1) = I' := ⟨I + 1, by omega, by rw [hS.add, hS.wrap, wrap_i64 (by omega) (by omega)]⟩
   have hmm : m - 1 < m := by omega
   have hnx : ∃ (i2 : Nat) (I2 : Int) (s9 t9 : Bool) (r9 p9 : Abs.Rows), I2 = i2 /\ i2 + (m - 1) = k /\ (qc (x ^ i2)).row = [.v (.bool s9), .lst false r9, .v (.bool t9), .lst false p9] /\ rupoSt s r t p s5 r5 t5 p5 N I' = rupoSt s r t p s9 r9 t9 p9 N I2 := ⟨i + 1, I', s5, t5, r5, p5, hI', by omega, hrow5, rfl⟩
   clear hmul
   subst hs1
   cbv
   refine bT l1 ?_
   refine ⟨_, hS.call (cm), ?_⟩
   cbv
   exact again (s' := rupoSt s r t p s5 r5 t5 p5 N I') (m := m - 1) (by simp [leT, rupoSt, mkSt, vi, i1]) (by simp [leH, rupoSt, mkSt, rawZ]) rfl (by show 2 <= 7; omega) hmm hnx
  ·have l1 : zO I N = false := by rw [hS.lt]; exact decide_eq_false (by omega)
   have hik : i = k := by omega
   rw [hik, <- hT] at hv
   clear hmul
   subst hv
   subst hs1
   cbv
   refine bF l1 ?_
   exact hF _ (ResLe.refl _)
theorem upower_call (x : Rat) (k a : Nat) (hk : k <= 100) (h1 : Qs x a) (ha : a <= 67108864) :
  Qs (x ^ k) (1 + k * a) /\ ACall Tryz.prog 88 [.val (.agg (qc x).row), .val (ti .i64 (k : Int))] ⟨[.val (.agg (qc (x ^ k)).row)], [none, none]⟩ := by
 have hsz : ∀ m, Qs (x ^ m) (1 + m * a) := fun m => by
  induction m with
  | zero => rw [Rat.pow_zero]; exact (Qs.whole (n := 1) (by decide) (Nat.le_refl 1)).mono (by omega)
  | succ m ih => rw [Rat.pow_succ]; exact (qa9 ih h1).mono (by rw [Nat.succ_mul]; omega)
 refine ⟨hsz k, ?_⟩
 have hmul : ∀ m, m < k -> ACall Tryz.prog 68 [.val (.agg (qc (x ^ m)).row), .val (.agg (qc x).row)] ⟨[.val (.agg (qc (x ^ (m + 1))).row)], [none, none]⟩ := fun m hm => by
  have hb : m * a <= 100 * a := Nat.mul_le_mul_right _ (by omega)
  have := (pmul_row (hsz m) h1 (by omega)).2
  rwa [<- Rat.pow_succ] at this
 have cw := qbo 1 (by omega) (by omega)
 rw [show ((1 : Int) : Rat) = x ^ 0 from (Rat.pow_zero x).symm] at cw
 obtain ⟨N, hN⟩ : ∃ N : Int, N = (k : Int) := ⟨_, rfl⟩
 obtain ⟨T, hT⟩ : ∃ T, T = (qc (x ^ k)).row := ⟨_, rfl⟩
 obtain ⟨s, t, r, p, hrow, _⟩ := qrow x
 obtain ⟨s0, t0, r0, p0, hrow0, _⟩ := qrow (x ^ 0)
 rw [<- hN, <- hT, hrow]
 rw [hrow0] at cw
 rw [hrow] at hmul
 refine callZ ccOk mixed [.val] Tryz.func88 rfl rfl (by kernel_rfl) fun zA zB zC zD zE zF zG zH zI zJ zK zL zM zN zO zP zQ zR zS zT zU zV zX zY zZ za zb zc zd ze zg zh zi zj zk zl zm zn zo zq zr zs zt zu zw zx zy zz zth A L F hS hF => ?_
 cbv
 refine ⟨_, hS.call (cw), ?_⟩
 cbv
 have hN : N = (k : Int) := hN
 refine loopZ ccOk mixed hS (fun (m : Nat) s' => ∃ (i : Nat) (I : Int) (s2 t2 : Bool) (r2 p2 : Abs.Rows), I = i /\ i + m = k /\ (qc (x ^ i)).row = [.v (.bool s2), .lst false r2, .v (.bool t2), .lst false p2] /\ s' = upoSt s r t p s2 r2 t2 p2 N I) (n := k) (s0 := upoSt s r t p s0 r0 t0 p0 N 0) (qaq ?_ ?_) rfl (by show 2 <= 7; omega) ?_ ?_
 ·simp [leT, upoSt, mkSt, vi]
 ·simp [leH, upoSt, mkSt, rawZ]
 ·exact ⟨0, 0, s0, t0, r0, p0, rfl, by omega, hrow0, rfl⟩
 ·rintro m s1 ⟨i, I, s2, t2, r2, p2, hI, him, hv, hs1⟩
  by_cases hi : i < k
  ·have l1 : zO I N = true := by rw [hS.lt]; exact decide_eq_true (by omega)
   have cm := hmul i hi
   obtain ⟨s5, t5, r5, p5, hrow5, _⟩ := qrow (x ^ (i + 1))
   rw [hv, hrow5] at cm
   obtain ⟨I', hI', i1⟩ : ∃ I' : Int, I' = ((i + 1 : Nat) : Int) /\ zA .i64 (zB I 1) = I' := ⟨I + 1, by omega, by rw [hS.add, hS.wrap, wrap_i64 (by omega) (by omega)]⟩
   have hmm : m - 1 < m := by omega
   have hnx : ∃ (i2 : Nat) (I2 : Int) (s9 t9 : Bool) (r9 p9 : Abs.Rows), I2 = i2 /\ i2 + (m - 1) = k /\ (qc (x ^ i2)).row = [.v (.bool s9), .lst false r9, .v (.bool t9), .lst false p9] /\ upoSt s r t p s5 r5 t5 p5 N I' = upoSt s r t p s9 r9 t9 p9 N I2 := ⟨i + 1, I', s5, t5, r5, p5, hI', by omega, hrow5, rfl⟩
   clear hmul
   subst hs1
   cbv
   refine bT l1 ?_
   refine ⟨_, hS.call (cm), ?_⟩
   cbv
   exact again (s' := upoSt s r t p s5 r5 t5 p5 N I') (m := m - 1) (by simp [leT, upoSt, mkSt, vi, i1]) (by simp [leH, upoSt, mkSt, rawZ]) rfl (by show 2 <= 7; omega) hmm hnx
  ·have l1 : zO I N = false := by rw [hS.lt]; exact decide_eq_false (by omega)
   have hik : i = k := by omega
   rw [hik, <- hT] at hv
   clear hmul
   subst hv
   subst hs1
   cbv
   refine bF l1 ?_
   exact hF _ (ResLe.refl _)
open Go Go.Abs Go.Abs.M Go.Proofs
def rucS0 (X Y : Abs.Rows) (i : Int) : St := mkSt 25 [.c (.t (.lst false X)), .c (.t (.lst false Y)), .junk, .junk, .junk, .c (.sl 2 0 0 false), vi .i64 i] [none, none, some (.rows 4 [] true false)]
def rucS1 (X Y R : Abs.Rows) (i : Int) : St := mkSt 25 [.c (.t (.lst false X)), .c (.t (.lst false Y)), .junk, .junk, .junk, .c (.t (.lst false R)), vi .i64 i] [none, none]
theorem rpb_compose {f g : Rat -> Rat} {n m s t : Nat} {P B : List Rat} (hP : PB f n s P) (hB : PB g m t B) (hm1 : 1 <= m) (hnm : n * m + m <= 700) (hs : cmpB m s t n <= 400000000) (hst : s + t <= 400000000) :
  ∃ R, PB (fun x => f (g x)) (n * m) (cmpB m s t n) R /\ ACall Tryz.prog 45 [.val (tl (ur P)), .val (tl (ur B))] ⟨[.val (tl (ur R))], [none, none]⟩ := by
 have hmono : ∀ i j, i <= j -> cmpB m s t i <= cmpB m s t j := fun i j hij => by
  induction j with
  | zero => rw [Nat.le_zero.1 hij]; exact Nat.le_refl _
  | succ j ih =>
   rcases Nat.lt_or_ge j i with h | h
   ·rw [show i = j + 1 by omega]; exact Nat.le_refl _
   ·have := ih h
    show _ <= cmpB m s t j + t + j * m + s + 1
    omega
 have hstep : ∀ (k : Nat) (R : List Rat), k < n -> PB (fun x => Abs.ev (P.drop (P.length - k)) (g x)) (k * m) (cmpB m s t k) R -> k < P.length -> ∃ M C R', ACall Tryz.prog 29 [.val (tl (ur R)), .val (tl (ur B))] ⟨[.val (tl (ur M))], [none, none]⟩ /\
   ACall Tryz.prog 51 [.val (.agg (qc (P.getD (P.length - (k + 1)) 0)).row)] ⟨[.val (tl (ur C))], [none]⟩ /\ ACall Tryz.prog 36 [.val (tl (ur M)), .val (tl (ur C))] ⟨[.val (tl (ur R'))], [none, none]⟩ /\ PB (fun x => Abs.ev (P.drop (P.length - (k + 1))) (g x)) ((k + 1) * m) (cmpB m s t (k + 1)) R' := fun k R hk hR hkP => by
  have e1 : (k + 1) * m = k * m + m := Nat.succ_mul k m
  have e2 : (k + 1) * m <= n * m := Nat.mul_le_mul_right _ hk
  have e3 := hmono k n (by omega)
  have e5 : cmpB m s t (k + 1) = cmpB m s t k + t + k * m + s + 1 := rfl
  obtain ⟨M, hM, cM⟩ := rpb_mul (k * m) hR hB (Nat.le_of_lt Nat.lt_two_pow_self) (by omega) (by omega)
  obtain ⟨C, hC, cC⟩ := pb_const (hP.cf.comp fun _ => P.length - (k + 1))
  have e4 := hmono (k + 1) n (by omega)
  obtain ⟨R', hR', cA⟩ := rpb_add hM hC (by omega) (by omega) (by omega)
  refine ⟨M, C, R', cM, cC, cA, (hR'.mono (by omega) (by omega)).congr fun x => ?_⟩
  have hd : P.drop (P.length - (k + 1)) = P.getD (P.length - (k + 1)) 0 :: P.drop (P.length - k) := by
   rw [List.drop_eq_getElem_cons (by omega), show P.length - (k + 1) + 1 = P.length - k by omega, List.getD_eq_getElem?_getD, List.getElem?_eq_getElem (by omega)]; rfl
  rw [hd]
  simp only [Abs.ev]; grind
 have hPn := hP.len
 have hnn : n <= n * m := Nat.le_mul_of_pos_right _ hm1
 have hgoal : ∀ R, PB (fun x => Abs.ev (P.drop (P.length - P.length)) (g x)) (P.length * m) (cmpB m s t P.length) R -> PB (fun x => f (g x)) (n * m) (cmpB m s t n) R := fun R hR => by
  rw [Nat.sub_self, List.drop_zero] at hR
  exact (hR.mono (Nat.mul_le_mul_right _ hPn) (hmono _ _ hPn)).congr fun x => hP.ev _
 have hinit : PB (fun x => Abs.ev (P.drop (P.length - 0)) (g x)) (0 * m) (cmpB m s t 0) [] := ⟨rfl, fun x => by rw [Nat.sub_zero, List.drop_length]; rfl, Nat.zero_le _, (CF.zero _).congr fun j => by simp⟩
 obtain ⟨d, hd⟩ : ∃ d, d = P.length := ⟨_, rfl⟩
 have hrun : ∀ k, k <= d -> ∃ R, PB (fun x => Abs.ev (P.drop (P.length - k)) (g x)) (k * m) (cmpB m s t k) R := fun k => by
  induction k with
  | zero => exact fun _ => ⟨[], hinit⟩
  | succ k ih =>
   intro hk
   obtain ⟨R, hR⟩ := ih (by omega)
   obtain ⟨_, _, R', _, _, _, h⟩ := hstep k R (by omega) hR (by omega)
   exact ⟨R', h⟩
 obtain ⟨F, hF0⟩ := hrun d (Nat.le_refl _)
 rw [hd] at hF0
 refine ⟨F, hgoal F hF0, ?_⟩
 obtain ⟨X, hX⟩ : ∃ Y, Y = ur P := ⟨_, rfl⟩
 obtain ⟨Y, hY⟩ : ∃ Y, Y = ur B := ⟨_, rfl⟩
 obtain ⟨T, hT⟩ : ∃ Y, Y = ur F := ⟨_, rfl⟩
 have hXl : X.length = d := by rw [hX, qac, hd]
 rw [<- hX, <- hY, <- hT]
 clear hgoal hrun
 refine callZ ccOk mixed [.val] Tryz.func45 rfl rfl (by kernel_rfl) fun zA zB zC zD zE zF zG zH zI zJ zK zL zM zN zO zP zQ zR zS zT zU zV zX zY zZ za zb zc zd ze zg zh zi zj zk zl zm zn zo zq zr zs zt zu zw zx zy zz zth A L F hS hF => ?_
 have lx : zh X = d := by rw [hS.len, hXl]
 obtain ⟨N, hN, hN2⟩ : ∃ N : Int, N + 1 = (d : Int) /\ zA .i64 (zC (zY (zh X)) 1) = N := ⟨(d : Int) - 1, by omega, by rw [hS.ofN, lx, hS.sub, hS.wrap, wrap_i64 (by omega) (by omega)]⟩
 have f0 : zn 0 0 [] = true := by rw [hS.fit]; rfl
 have f1 : zo [] 0 0 = [] := by rw [hS.part]; rfl
 cbv
 have hN : N + 1 = (d : Int) := hN
 refine loopZ ccOk mixed hS (fun (i : Nat) s' => ∃ (k : Nat) (I : Int) (R : List Rat) (Z : Abs.Rows), I + 1 = i /\ i + k = d /\ PB (fun x => Abs.ev (P.drop (P.length - k)) (g x)) (k * m) (cmpB m s t k) R /\ Z = ur R /\ ((k = 0 /\ R = [] /\ s' = rucS0 X Y I) ∨ s' = rucS1 X Y Z I)) (n := d) (s0 := rucS0 X Y N) (qaq ?_ ?_) rfl (by show 2 <= 3; omega) ?_ ?_
 ·simp [leT, rucS0, mkSt, vi, hN2]
 ·simp [leH, rucS0, mkSt]
 ·exact ⟨0, N, [], [], hN, by omega, hinit, rfl, .inl ⟨rfl, rfl, rfl⟩⟩
 ·rintro i s1 ⟨k, I, R, Z, hI, hik, hR, hZ, hcase⟩
  by_cases hi : i = 0
  ·have l1 : zP 0 I = false := by rw [hS.le]; exact decide_eq_false (by omega)
   have hk : k = P.length := by omega
   rw [hk] at hR
   have hRF : Z = T := by rw [hZ, hT, hR.inj hF0 fun x => rfl]
   rcases hcase with ⟨hk0, hR0, hs1⟩ | hs1
   ·have hT0 : T = [] := by rw [<- hRF, hZ, hR0]; rfl
    subst hT0
    subst hs1
    cbv
    refine bF l1 (nd f0 ?_)
    rw [f1]
    exact hF _ (ResLe.refl _)
   ·subst hRF
    subst hs1
    cbv
    refine bF l1 ?_
    exact hF _ (ResLe.refl _)
  ·have l1 : zP 0 I = true := by rw [hS.le]; exact decide_eq_true (by omega)
   obtain ⟨i', rfl⟩ : ∃ i', i = i' + 1 := ⟨i - 1, by omega⟩
   have hIi : I = (i' : Int) := by omega
   obtain ⟨M, C, R', cM, cC, cA, hR'⟩ := hstep k R (by omega) hR (by omega)
   rw [show P.length - (k + 1) = i' by omega] at cC
   obtain ⟨c, hc⟩ : ∃ c, c = P.getD i' 0 := ⟨_, rfl⟩
   have hPi : P[i']? = some c := by rw [hc, List.getD_eq_getElem?_getD, List.getElem?_eq_getElem (by omega)]; rfl
   have hXi : X[i']? = some (qc c).row := by rw [hX]; exact qa5 hPi
   rw [<- hc] at cC
   rw [<- hZ, <- hY] at cM
   obtain ⟨s2, t2, r2, p2, hrow2, _⟩ := qrow c
   rw [hrow2] at hXi cC
   have j1 : zV I = i' := by rw [hS.nat]; omega
   have n0 : zP 0 I = true := l1
   have j2 : zi X i' = some [.v (.bool s2), .lst false r2, .v (.bool t2), .lst false p2] := by rw [hS.nth]; exact hXi
   obtain ⟨I', hI', i1⟩ : ∃ I' : Int, I' + 1 = (i' : Int) /\ zA .i64 (zC I 1) = I' := ⟨I - 1, by omega, by rw [hS.sub, hS.wrap, wrap_i64 (by omega) (by omega)]⟩
   obtain ⟨Z', hZ'⟩ : ∃ Z', Z' = ur R' := ⟨_, rfl⟩
   rw [<- hZ'] at cA
   have hmm : i' < i' + 1 := by omega
   have hnx : ∃ (k2 : Nat) (I2 : Int) (R2 : List Rat) (Z2 : Abs.Rows), I2 + 1 = (i' : Int) /\ i' + k2 = d /\ PB (fun x => Abs.ev (P.drop (P.length - k2)) (g x)) (k2 * m) (cmpB m s t k2) R2 /\ Z2 = ur R2 /\ ((k2 = 0 /\ R2 = [] /\ rucS1 X Y Z' I' = rucS0 X Y I2) ∨ rucS1 X Y Z' I' = rucS1 X Y Z2 I2) := ⟨k + 1, I', R', Z', hI', by omega, hR', hZ', .inr rfl⟩
   generalize ur M = UM at *
   generalize ur C = UC at *
   rcases hcase with ⟨hk0, hR0, hs1⟩ | hs1
   ·rw [hZ, hR0, show ur ([] : List Rat) = [] from rfl] at cM
    subst hs1
    cbv
    refine bT l1 (nd f0 ?_)
    rw [f1]
    refine ⟨_, hS.call (cM), ?_⟩
    cbv
    rw [j1, j2]
    cbv
    refine nd (n0) ?_
    refine ⟨_, hS.call (cC), ?_⟩
    cbv
    refine ⟨_, hS.call (cA), ?_⟩
    cbv
    exact again (s' := rucS1 X Y Z' I') (m := i') (by simp [leT, rucS1, mkSt, vi, i1]) (by simp [leH, rucS1, mkSt]) rfl (by show 2 <= 2; omega) hmm hnx
   ·subst hs1
    cbv
    refine bT l1 ?_
    refine ⟨_, hS.call (cM), ?_⟩
    cbv
    rw [j1, j2]
    cbv
    refine nd (n0) ?_
    refine ⟨_, hS.call (cC), ?_⟩
    cbv
    refine ⟨_, hS.call (cA), ?_⟩
    cbv
    exact again (s' := rucS1 X Y Z' I') (m := i') (by simp [leT, rucS1, mkSt, vi, i1]) (by simp [leH, rucS1, mkSt]) rfl (by show 2 <= 2; omega) hmm hnx
inductive Rs : List Rat -> List Rat -> Rat -> Prop
 | zero (A B : List Rat) : A = [] ∨ B = [] -> Rs A B 0
 | const (A B : List Rat) : A ≠ [] -> B.length = 1 -> Rs A B (B.getD 0 0 ^ (A.length - 1))
 | stop (A B Q : List Rat) : A ≠ [] -> 2 <= B.length -> (∀ x, Abs.ev A x = Abs.ev Q x * Abs.ev B x) -> Rs A B 0
 | step (A B Q R : List Rat) (v : Rat) : A ≠ [] -> 2 <= B.length -> R ≠ [] -> ptrim R = R -> R.length < B.length -> (∀ x, Abs.ev A x = Abs.ev Q x * Abs.ev B x + Abs.ev R x) -> Rs B R v -> Rs A B (B.getD (B.length - 1) 0 ^ (A.length - R.length) * (if A.length % 2 = 0 /\ B.length % 2 = 0 then -1 else 1) * v)
structure RsI (W : Nat) (A B : List Rat) : Prop where
 ta : ptrim A = A
 tb : ptrim B = B
 sz : ∃ s, CF s (fun j => A.getD j 0) /\ CF s (fun j => B.getD j 0) /\ (s + 1) * (A.length + 1 - B.length + 1) * 3 ^ B.length <= W
 la : A.length <= 90
 lb : B.length <= 90
theorem Rs.inv {A B Q R : List Rat} {v : Rat} (h : Rs A B v) (hA : A ≠ []) (hB : 2 <= B.length) (tB : ptrim B = B) (tR : ptrim R = R) (tQ : ptrim Q = Q) (hl : R.length < B.length) (e : ∀ x, Abs.ev A x = Abs.ev Q x * Abs.ev B x + Abs.ev R x) :
  (R = [] /\ v = 0) ∨ (R ≠ [] /\ ∃ v', Rs B R v' /\ v = B.getD (B.length - 1) 0 ^ (A.length - R.length) * (if A.length % 2 = 0 /\ B.length % 2 = 0 then -1 else 1) * v') := by
 have hB0 : B ≠ [] := fun h => by rw [h] at hB; simp at hB
 cases h with
 | zero A B h =>
  rcases h with h | h
  ·exact absurd h hA
  ·exact absurd h hB0
 | const A B h1 h2 => omega
 | stop A B Q' h1 h2 h3 => exact .inl ⟨Dv.rest tQ tR tB hl e ⟨Q', h3⟩, rfl⟩
 | step A B Q' R' v' h1 h2 h3 h4 h5 h6 h7 =>
  obtain ⟨_, e2⟩ := qbt tQ tR (qaz Q') h4 tB hl h5 fun x => by rw [<- e, h6, qa0]
  subst e2
  exact .inr ⟨h3, v', h7, rfl⟩
theorem Rs.one {A B : List Rat} {v : Rat} (h : Rs A B v) (hA : A ≠ []) (hB : B.length = 1) : v = B.getD 0 0 ^ (A.length - 1) := by
 have hB0 : B ≠ [] := fun h => by rw [h] at hB; simp at hB
 cases h with
 | zero A B h =>
  rcases h with h | h
  ·exact absurd h hA
  ·exact absurd h hB0
 | const A B h1 h2 => rfl
 | stop A B Q' h1 h2 h3 => omega
 | step A B Q' R' v' h1 h2 h3 h4 h5 h6 h7 => omega
theorem rs_next {W : Nat} {A B : List Rat} (h : RsI W A B) (hB : B ≠ []) (hW : W <= 1000000) :
  ∃ Q R, ptrim Q = Q /\ ptrim R = R /\ R.length < B.length /\ (∀ x, Abs.ev A x = Abs.ev Q x * Abs.ev B x + Abs.ev R x) /\ RsI W B R /\ CF W (fun j => B.getD j 0) /\ R.length <= A.length /\
   ACall Tryz.prog 23 [.val (tl (ur A)), .val (tl (ur B))] ⟨[.val (tl (ur Q)), .val (tl (ur R)), .val (ti .i64 0)], [none, none]⟩ /\
   ACall Tryz.prog 83 [.val (tl (ur A)), .val (tl (ur B))] ⟨[.val (tl (ur R))], [none, none]⟩ := by
 obtain ⟨s, c1, c2, c3⟩ := h.sz
 have hB1 : B.length ≠ 0 := fun h0 => hB (List.length_eq_zero_iff.1 h0)
 have hla := h.la
 have hlb := h.lb
 obtain ⟨e, he⟩ : ∃ e, e = A.length + 1 - B.length := ⟨_, rfl⟩
 rw [<- he] at c3
 have p3 : 1 <= 3 ^ B.length := Nat.one_le_pow _ _ (by omega)
 have w1 : (s + 1) * (e + 1) <= W := by
  have := Nat.mul_le_mul_left ((s + 1) * (e + 1)) p3
  omega
 have e1 : (s + 1) * (e + 1) = s + e * (s + 1) + 1 := by rw [Nat.mul_comm, Nat.succ_mul]; omega
 have w2 : s + 1 <= (s + 1) * (e + 1) := Nat.le_mul_of_pos_right _ (by omega)
 have hPA : PB (Abs.ev A) A.length s A := ⟨h.ta, fun x => rfl, Nat.le_refl _, c1⟩
 have hPB : PB (Abs.ev B) B.length s B := ⟨h.tb, fun x => rfl, Nat.le_refl _, c2⟩
 have hcr : A.length * (s + 1) <= 90 * (s + 1) := Nat.mul_le_mul_right _ hla
 obtain ⟨Q, R, hQ, hR, hlt, heq, cd⟩ := qb4 e hPA hPB hB (by omega) (by omega) (by omega) (by omega)
 obtain ⟨Q', R', hQ', hR', hlt', heq', _, cm⟩ := rpb_quo hPA hPB hB (by omega) (by omega) _ rfl (by omega)
 obtain ⟨u1, u2⟩ := qbt hQ.tr hR.tr hQ'.tr hR'.tr h.tb hlt hlt' fun x => by rw [<- heq, heq']
 rw [<- u2] at cm
 generalize hS : s + e * (s + 1) = S at *
 have hpot : (S + 1) * (B.length + 1 - R.length + 1) * 3 ^ R.length <= W := by
  have t := three_pow (B.length - R.length) (by omega)
  have t2 : 3 ^ (B.length - R.length) * 3 ^ R.length = 3 ^ B.length := by rw [<- Nat.pow_add, Nat.sub_add_cancel (by omega)]
  have t3 : (B.length + 1 - R.length + 1) * 3 ^ R.length <= 3 ^ B.length := by rw [<- t2]; exact Nat.mul_le_mul_right _ (by omega)
  rw [Nat.mul_assoc]
  exact Nat.le_trans (Nat.mul_le_mul_left _ t3) (by rw [<- e1]; exact c3)
 have hRA : R.length <= A.length := by
  rcases Nat.lt_or_ge A.length B.length with hh | hh
  ·have := (qbt hQ.tr hR.tr (Q' := []) rfl h.ta h.tb hlt hh fun x => by rw [<- heq]; simp only [Abs.ev]; grind).2
   rw [this]; exact Nat.le_refl _
  ·omega
 exact ⟨Q, R, hQ.tr, hR.tr, hlt, heq, ⟨h.tb, hR.tr, ⟨S, c2.mono (by omega), hR.cf, hpot⟩, hlb, by omega⟩, c2.mono (by omega), hRA, cd, cm⟩
theorem rs_run {W : Nat} (hW : W <= 1000000) : ∀ (l : Nat) (A B : List Rat), B.length <= l -> RsI W A B -> ∃ v, Rs A B v := by
 intro l
 induction l with
 | zero => exact fun A B hl h => ⟨0, .zero A B (.inr (List.length_eq_zero_iff.1 (by omega)))⟩
 | succ l ih =>
  intro A B hl h
  rcases Classical.em (A = [] ∨ B = []) with h0 | h0
  ·exact ⟨0, .zero A B h0⟩
  ·have hA : A ≠ [] := fun h1 => h0 (.inl h1)
   have hB : B ≠ [] := fun h1 => h0 (.inr h1)
   have hB1 : B.length ≠ 0 := fun h1 => hB (List.length_eq_zero_iff.1 h1)
   rcases Nat.lt_or_ge 1 B.length with h2 | h2
   ·obtain ⟨Q, R, tQ, tR, hlt, heq, hI, _, _, _, _⟩ := rs_next h hB hW
    rcases Classical.em (R = []) with h3 | h3
    ·exact ⟨0, .stop A B Q hA h2 fun x => by rw [heq, h3]; simp only [Abs.ev]; grind⟩
    ·obtain ⟨v, hv⟩ := ih B R (by omega) hI
     exact ⟨_, .step A B Q R v hA h2 h3 tR hlt heq hv⟩
   ·exact ⟨_, .const A B hA (by omega)⟩
theorem pow_small {x : Rat} {a : Nat} (h1 : Qs x a) : ∀ m, Qs (x ^ m) (1 + m * a)
 | 0 => by rw [Rat.pow_zero]; exact (Qs.whole (n := 1) (by decide) (Nat.le_refl 1)).mono (by omega)
 | m + 1 => by rw [Rat.pow_succ]; exact (qa9 (pow_small h1 m) h1).mono (by rw [Nat.succ_mul]; omega)
theorem rs_size {W w : Nat} (hW : W <= 1000000) (hw : w = W / 32 + 1) : ∀ (l : Nat) (A B : List Rat) (v : Rat), B.length <= l -> RsI W A B -> Rs A B v -> Qs v (1 + (l + 1) * (2 + 90 * w)) := by
 intro l
 induction l with
 | zero =>
  intro A B v hl h hr
  have hB : B = [] := List.length_eq_zero_iff.1 (by omega)
  cases hr with
  | zero => exact Qs.zero (by omega)
  | const _ _ h1 h2 => omega
  | stop _ _ _ h1 h2 => omega
  | step _ _ _ _ _ h1 h2 => omega
 | succ l ih =>
  intro A B v hl h hr
  rcases Classical.em (A = [] ∨ B = []) with h0 | h0
  ·have : v = 0 := by
    cases hr with
    | zero => rfl
    | const _ _ h1 h2 => simp [h0.resolve_left h1] at h2
    | stop _ _ _ h1 h2 => simp [h0.resolve_left h1] at h2
    | step _ _ _ _ _ h1 h2 => simp [h0.resolve_left h1] at h2
   rw [this]; exact Qs.zero (by omega)
  ·have hA : A ≠ [] := fun h1 => h0 (.inl h1)
   have hB : B ≠ [] := fun h1 => h0 (.inr h1)
   have hB1 : B.length ≠ 0 := fun h1 => hB (List.length_eq_zero_iff.1 h1)
   have hla := h.la
   obtain ⟨Q, R, tQ, tR, hlt, heq, hI, hc, hRA, _, _⟩ := rs_next h hB hW
   have hmo : ∀ k, k <= 90 -> k * w <= 90 * w := fun k hk => Nat.mul_le_mul_right _ hk
   have e2 : (l + 1 + 1) * (2 + 90 * w) = (l + 1) * (2 + 90 * w) + (2 + 90 * w) := Nat.succ_mul ..
   have e3 : 1 * (2 + 90 * w) <= (l + 1) * (2 + 90 * w) := Nat.mul_le_mul_right _ (by omega)
   rcases Nat.lt_or_ge 1 B.length with h2 | h2
   ·rcases hr.inv hA h2 h.tb tR tQ hlt heq with ⟨_, h3⟩ | ⟨h3, v', h4, h5⟩
    ·rw [h3]; exact Qs.zero (by omega)
    ·have q1 := ih B R v' (by omega) hI h4
     have q2 := pow_small (x := B.getD (B.length - 1) 0) (a := w) (by rw [hw]; exact cf_qs hc _) (A.length - R.length)
     have q3 : Qs (if A.length % 2 = 0 /\ B.length % 2 = 0 then (-1 : Rat) else 1) 1 := by
      split
      ·exact Qs.whole (n := -1) (by decide) (Nat.le_refl 1)
      ·exact Qs.whole (n := 1) (by decide) (Nat.le_refl 1)
     have := hmo (A.length - R.length) (by omega)
     rw [h5]
     exact (qa9 (qa9 q2 q3) q1).mono (by omega)
   ·rw [hr.one hA (by omega)]
    have q2 := pow_small (x := B.getD 0 0) (a := w) (by rw [hw]; exact cf_qs hc _) (A.length - 1)
    have := hmo (A.length - 1) (by omega)
    exact q2.mono (by omega)
def ursSt (X Y : Abs.Rows) (s : Bool) (r : Abs.Rows) (t : Bool) (p : Abs.Rows) : St := mkSt 72 [.c (.t (.lst false X)), .c (.t (.lst false Y)), .junk, .junk, .c (.ptr 2 0 0), .c (.ptr 5 0 0)] [none, none, some (.var (rawZ.map .t)), none, none, some (.var [.t (.v (.bool s)), .t (.lst false r), .t (.v (.bool t)), .t (.lst false p)])]
theorem ures_zero (P B : List Rat) (h : P = [] ∨ B = []) : ACall Tryz.prog 46 [.val (tl (ur P)), .val (tl (ur B))] ⟨[.val (.agg (qc 0).row)], [none, none]⟩ := by
 have cw := qbo 0 (by omega) (by omega)
 rw [show ((0 : Int) : Rat) = 0 from rfl] at cw
 obtain ⟨s3, t3, r3, p3, hrow3, _⟩ := qrow 0
 rw [hrow3] at cw ⊢
 have lX := qac P
 have lY := qac B
 by_cases hP : P = []
 ·have h0 : P.length = 0 := by rw [hP]; rfl
  generalize P.length = m at *
  generalize ur P = X at *
  generalize ur B = Y at *
  refine callZ ccOk mixed [.val] Tryz.func46 rfl rfl (by kernel_rfl) fun zA zB zC zD zE zF zG zH zI zJ zK zL zM zN zO zP zQ zR zS zT zU zV zX zY zZ za zb zc zd ze zg zh zi zj zk zl zm zn zo zq zr zs zt zu zw zx zy zz zth A L F hS hF => ?_
  have e1 : zM (zY (zh X)) 0 = true := by rw [hS.eq, hS.ofN, hS.len, lX]; exact decide_eq_true (by omega)
  cbv
  refine bT (e1) ?_
  refine ⟨_, hS.call (cw), ?_⟩
  cbv
  exact hF _ (ResLe.refl _)
 ·have h0 : B.length = 0 := by simp [h.resolve_left hP]
  have h1 : P.length ≠ 0 := fun h1 => hP (List.length_eq_zero_iff.1 h1)
  generalize P.length = m at *
  generalize B.length = l at *
  generalize ur P = X at *
  generalize ur B = Y at *
  refine callZ ccOk mixed [.val] Tryz.func46 rfl rfl (by kernel_rfl) fun zA zB zC zD zE zF zG zH zI zJ zK zL zM zN zO zP zQ zR zS zT zU zV zX zY zZ za zb zc zd ze zg zh zi zj zk zl zm zn zo zq zr zs zt zu zw zx zy zz zth A L F hS hF => ?_
  have e1 : zM (zY (zh X)) 0 = false := by rw [hS.eq, hS.ofN, hS.len, lX]; exact decide_eq_false (by omega)
  have e2 : zM (zY (zh Y)) 0 = true := by rw [hS.eq, hS.ofN, hS.len, lY]; exact decide_eq_true (by omega)
  cbv
  refine bF (e1) ?_
  refine bT (e2) ?_
  refine ⟨_, hS.call (cw), ?_⟩
  cbv
  exact hF _ (ResLe.refl _)
theorem ures_call {W : Nat} (hW : W <= 1000000) {A0 B0 : List Rat} {v : Rat} (hI : RsI W A0 B0) (hR : Rs A0 B0 v) (hA0 : A0 ≠ []) (hB0 : B0 ≠ []) :
  ACall Tryz.prog 46 [.val (tl (ur A0)), .val (tl (ur B0))] ⟨[.val (.agg (qc v).row)], [none, none]⟩ := by
 obtain ⟨w, hw⟩ : ∃ w, w = W / 32 + 1 := ⟨_, rfl⟩
 have cw := qbo 1 (by omega) (by omega)
 rw [show ((1 : Int) : Rat) = 1 from rfl] at cw
 have cw0 := qbo 0 (by omega) (by omega)
 rw [show ((0 : Int) : Rat) = 0 from rfl] at cw0
 obtain ⟨T, hT⟩ : ∃ T, T = (qc v).row := ⟨_, rfl⟩
 obtain ⟨P, hP⟩ : ∃ T, T = ur A0 := ⟨_, rfl⟩
 obtain ⟨S, hS0⟩ : ∃ T, T = ur B0 := ⟨_, rfl⟩
 obtain ⟨s3, t3, r3, p3, hrow3, _⟩ := qrow 1
 obtain ⟨s4, t4, r4, p4, hrow4, _⟩ := qrow 0
 rw [hrow3] at cw
 rw [hrow4] at cw0
 have lP := qac A0
 have lS := qac B0
 have hA1 : A0.length ≠ 0 := fun h1 => hA0 (List.length_eq_zero_iff.1 h1)
 have hB1 : B0.length ≠ 0 := fun h1 => hB0 (List.length_eq_zero_iff.1 h1)
 rw [<- hP] at lP
 rw [<- hS0] at lS
 rw [<- hP, <- hS0, <- hT]
 refine callZ ccOk mixed [.val] Tryz.func46 rfl rfl (by kernel_rfl) fun zA zB zC zD zE zF zG zH zI zJ zK zL zM zN zO zP zQ zR zS zT zU zV zX zY zZ za zb zc zd ze zg zh zi zj zk zl zm zn zo zq zr zs zt zu zw zx zy zz zth A L F hS hF => ?_
 have e1 : zM (zY (zh P)) 0 = false := by rw [hS.eq, hS.ofN, hS.len, lP]; exact decide_eq_false (by omega)
 have e2 : zM (zY (zh S)) 0 = false := by rw [hS.eq, hS.ofN, hS.len, lS]; exact decide_eq_false (by omega)
 cbv
 refine bF (e1) ?_
 refine bF (e2) ?_
 refine ⟨_, hS.call (cw), ?_⟩
 cbv
 refine loopZ ccOk mixed hS (fun (i : Nat) s' => ∃ (A' B' : List Rat) (u v' : Rat) (X' Y : Abs.Rows) (s2 t2 : Bool) (r2 p2 : Abs.Rows), B'.length = i /\ i <= 90 /\ RsI W A' B' /\ A' ≠ [] /\ B' ≠ [] /\ Rs A' B' v' /\ v = u * v' /\ Qs u (1 + (90 - i) * (2 + 90 * w)) /\ X' = ur A' /\ Y = ur B' /\ (qc u).row = [.v (.bool s2), .lst false r2, .v (.bool t2), .lst false p2] /\ s' = ursSt X' Y s2 r2 t2 p2) (n := B0.length) (s0 := ursSt P S s3 r3 t3 p3) (qaq ?_ ?_) rfl (by show 2 <= 6; omega) ?_ ?_
 ·simp [leT, ursSt, mkSt]
 ·simp [leH, ursSt, mkSt, rawZ]
 ·exact ⟨A0, B0, 1, v, P, S, s3, t3, r3, p3, rfl, hI.lb, hI, hA0, hB0, hR, by rw [Rat.one_mul], (Qs.whole (n := 1) (by decide) (Nat.le_refl 1)).mono (by omega), hP, hS0, hrow3, rfl⟩
 ·rintro i s1 ⟨A', B', u, v', X', Y, s2, t2, r2, p2, hi, hi90, hI', hA', hB', hR', hv, hu, hX, hY, hrow2, hs1⟩
  have lX' : X'.length = A'.length := by rw [hX, qac]
  have lY' : Y.length = B'.length := by rw [hY, qac]
  have hA1' : A'.length ≠ 0 := fun h1 => hA' (List.length_eq_zero_iff.1 h1)
  have hB1' : B'.length ≠ 0 := fun h1 => hB' (List.length_eq_zero_iff.1 h1)
  by_cases hone : B'.length = 1
  ·have l1 : zO 1 (zY (zh Y)) = false := by rw [hS.lt, hS.ofN, hS.len, lY']; exact decide_eq_false (by omega)
   obtain ⟨_, _, _, _, _, _, _, hcB, _, _, _⟩ := rs_next hI' hB' hW
   have hla := hI'.la
   obtain ⟨b, hb⟩ : ∃ b, b = B'.getD 0 0 := ⟨_, rfl⟩
   have hBi : B'[0]? = some b := by rw [hb, List.getD_eq_getElem?_getD, List.getElem?_eq_getElem (by omega)]; rfl
   have hYi := qa5 hBi
   rw [<- hY] at hYi
   have hbs : Qs b w := by rw [hb, hw]; exact cf_qs hcB _
   obtain ⟨K, hK⟩ : ∃ K, K = A'.length - 1 := ⟨_, rfl⟩
   obtain ⟨hps, cp⟩ := upower_call b K w (by omega) hbs (by omega)
   have hKw : K * w <= 90 * w := Nat.mul_le_mul_right _ (by omega)
   have hiw : (90 - i) * (2 + 90 * w) <= 90 * (2 + 90 * w) := Nat.mul_le_mul_right _ (by omega)
   obtain ⟨hms, cmu⟩ := pmul_row hu hps (by omega)
   have hTe : T = (qc (u * b ^ K)).row := by rw [hT, hv, hR'.one hA' hone, hb, hK]
   rw [<- hTe] at cmu
   obtain ⟨s5, t5, r5, p5, hrow5, _⟩ := qrow b
   obtain ⟨s6, t6, r6, p6, hrow6, _⟩ := qrow (b ^ K)
   obtain ⟨s7, t7, r7, p7, hrow7, _⟩ := qrow v
   rw [hrow7] at hT
   rw [hrow5] at hYi
   rw [hrow5, hrow6] at cp
   rw [hrow2, hrow6] at cmu
   obtain ⟨M, hM, ek⟩ : ∃ J : Int, J = (K : Int) /\ zA .i64 (zC (zY (zh X')) 1) = J := ⟨(A'.length : Int) - 1, by omega, by rw [hS.ofN, hS.len, lX', hS.sub, hS.wrap, wrap_i64 (by omega) (by omega)]⟩
   rw [<- hM] at cp
   have g0 : zP 0 0 = true := by rw [hS.le]; rfl
   have hz : zi Y (zV 0) = some [.v (.bool s5), .lst false r5, .v (.bool t5), .lst false p5] := by rw [hS.nat, hS.nth]; exact hYi
   clear hTe hv hR' hI hI' hR hcB hu hps hms
   subst hT
   subst hs1
   cbv
   refine bF l1 ?_
   rw [hz]
   cbv
   refine nd (g0) ?_
   rw [ek]
   refine ⟨_, hS.call (cp), ?_⟩
   cbv
   refine ⟨_, hS.call (cmu), ?_⟩
   cbv
   exact hF _ (ResLe.refl _)
  ·have l1 : zO 1 (zY (zh Y)) = true := by rw [hS.lt, hS.ofN, hS.len, lY']; exact decide_eq_true (by omega)
   obtain ⟨Q, R, tQ, tR, hlt, heq, hI2, hcB, hRA, cd, _⟩ := rs_next hI' hB' hW
   rw [<- hX, <- hY] at cd
   have lR := qac R
   have hla := hI'.la
   rcases hR'.inv hA' (by omega) hI'.tb tR tQ hlt heq with ⟨hR0, hv0⟩ | ⟨hR0, v2, hv2, hve⟩
   ·have l2 : zM (zY (zh (ur R))) 0 = true := by rw [hS.eq, hS.ofN, hS.len, lR, hR0]; rfl
    have hT0 : T = [.v (.bool s4), .lst false r4, .v (.bool t4), .lst false p4] := by rw [hT, hv, hv0, Rat.mul_zero, hrow4]
    generalize ur R = UR at *
    generalize ur Q = UQ at *
    subst hT0
    subst hs1
    cbv
    refine bT l1 ?_
    refine ⟨_, hS.call (cd), ?_⟩
    cbv
    refine bT (l2) ?_
    refine ⟨_, hS.call (cw0), ?_⟩
    cbv
    exact hF _ (ResLe.refl _)
   ·have hR1 : R.length ≠ 0 := fun h1 => hR0 (List.length_eq_zero_iff.1 h1)
    have l2 : zM (zY (zh (ur R))) 0 = false := by rw [hS.eq, hS.ofN, hS.len, lR]; exact decide_eq_false (by omega)
    obtain ⟨b, hb⟩ : ∃ b, b = B'.getD (B'.length - 1) 0 := ⟨_, rfl⟩
    have hBi : B'[B'.length - 1]? = some b := by rw [hb, List.getD_eq_getElem?_getD, List.getElem?_eq_getElem (by omega)]; rfl
    have hYi := qa5 hBi
    rw [<- hY] at hYi
    have hbs : Qs b w := by rw [hb, hw]; exact cf_qs hcB _
    obtain ⟨K, hK⟩ : ∃ K, K = A'.length - R.length := ⟨_, rfl⟩
    obtain ⟨hps, cp⟩ := upower_call b K w (by omega) hbs (by omega)
    have hKw : K * w <= 90 * w := Nat.mul_le_mul_right _ (by omega)
    have hiw : (90 - i) * (2 + 90 * w) <= 90 * (2 + 90 * w) := Nat.mul_le_mul_right _ (by omega)
    obtain ⟨hms, cmu⟩ := pmul_row hu hps (by omega)
    obtain ⟨hns, cn⟩ := pneg_row hms (by omega)
    obtain ⟨s5, t5, r5, p5, hrow5, _⟩ := qrow b
    obtain ⟨s6, t6, r6, p6, hrow6, _⟩ := qrow (b ^ K)
    obtain ⟨s7, t7, r7, p7, hrow7, _⟩ := qrow (u * b ^ K)
    obtain ⟨s8, t8, r8, p8, hrow8, _⟩ := qrow (-(u * b ^ K))
    rw [hrow5] at hYi
    rw [hrow5, hrow6] at cp
    rw [hrow2, hrow6, hrow7] at cmu
    rw [hrow7, hrow8] at cn
    obtain ⟨J, hJ, j1⟩ : ∃ J : Int, J = ((B'.length - 1 : Nat) : Int) /\ zA .i64 (zC (zY (zh Y)) 1) = J := ⟨(B'.length : Int) - 1, by omega, by rw [hS.ofN, hS.len, lY', hS.sub, hS.wrap, wrap_i64 (by omega) (by omega)]⟩
    obtain ⟨Z, hZ, z1⟩ : ∃ J : Int, J = ((A'.length - 1 : Nat) : Int) /\ zA .i64 (zC (zY (zh X')) 1) = J := ⟨(A'.length : Int) - 1, by omega, by rw [hS.ofN, hS.len, lX', hS.sub, hS.wrap, wrap_i64 (by omega) (by omega)]⟩
    obtain ⟨M, hM, m1⟩ : ∃ J : Int, J = (K : Int) /\ zA .i64 (zC (zY (zh X')) (zY (zh (ur R)))) = J := ⟨(A'.length : Int) - R.length, by omega, by rw [hS.ofN, hS.len, lX', hS.ofN, hS.len, lR, hS.sub, hS.wrap, wrap_i64 (by omega) (by omega)]⟩
    rw [<- hM] at cp
    have g1 : zP 0 J = true := by rw [hS.le]; exact decide_eq_true (by omega)
    have hzz : zi Y (zV J) = some [.v (.bool s5), .lst false r5, .v (.bool t5), .lst false p5] := by rw [hS.nat, hJ, Int.toNat_natCast, hS.nth, hYi]
    have ea : zM (zF Z 2) 1 = decide (A'.length % 2 = 0) := by
     rw [hS.eq, hS.rem, hZ]
     exact decide_eq_decide.2 (by rw [show ((A'.length - 1 : Nat) : Int).tmod 2 = (((A'.length - 1) % 2 : Nat) : Int) from rfl]; omega)
    have eb : zM (zF J 2) 1 = decide (B'.length % 2 = 0) := by
     rw [hS.eq, hS.rem, hJ]
     exact decide_eq_decide.2 (by rw [show ((B'.length - 1 : Nat) : Int).tmod 2 = (((B'.length - 1) % 2 : Nat) : Int) from rfl]; omega)
    have hmm : R.length < i := by omega
    have hsz : Qs (u * b ^ K) (1 + (90 - R.length) * (2 + 90 * w)) := by
     refine hms.mono ?_
     have e1 : (90 - i + 1) * (2 + 90 * w) <= (90 - R.length) * (2 + 90 * w) := Nat.mul_le_mul_right _ (by omega)
     rw [Nat.succ_mul] at e1
     omega
    have hpos : ¬ (A'.length % 2 = 0 /\ B'.length % 2 = 0) -> ∃ (A2 B2 : List Rat) (u2 v3 : Rat) (X2 Y2 : Abs.Rows) (s9 t9 : Bool) (r9 p9 : Abs.Rows), B2.length = R.length /\ R.length <= 90 /\ RsI W A2 B2 /\ A2 ≠ [] /\ B2 ≠ [] /\ Rs A2 B2 v3 /\ v = u2 * v3 /\ Qs u2 (1 + (90 - R.length) * (2 + 90 * w)) /\ X2 = ur A2 /\ Y2 = ur B2 /\ (qc u2).row = [.v (.bool s9), .lst false r9, .v (.bool t9), .lst false p9] /\ ursSt Y (ur R) s7 r7 t7 p7 = ursSt X2 Y2 s9 r9 t9 p9 := fun hc => by
     rw [if_neg hc] at hve
     exact ⟨B', R, u * b ^ K, v2, Y, ur R, s7, t7, r7, p7, rfl, by omega, hI2, hB', hR0, hv2, by rw [hv, hve, hb, hK]; grind, hsz, hY, rfl, hrow7, rfl⟩
    have hneg : (A'.length % 2 = 0 /\ B'.length % 2 = 0) -> ∃ (A2 B2 : List Rat) (u2 v3 : Rat) (X2 Y2 : Abs.Rows) (s9 t9 : Bool) (r9 p9 : Abs.Rows), B2.length = R.length /\ R.length <= 90 /\ RsI W A2 B2 /\ A2 ≠ [] /\ B2 ≠ [] /\ Rs A2 B2 v3 /\ v = u2 * v3 /\ Qs u2 (1 + (90 - R.length) * (2 + 90 * w)) /\ X2 = ur A2 /\ Y2 = ur B2 /\ (qc u2).row = [.v (.bool s9), .lst false r9, .v (.bool t9), .lst false p9] /\ ursSt Y (ur R) s8 r8 t8 p8 = ursSt X2 Y2 s9 r9 t9 p9 := fun hc => by
     rw [if_pos hc] at hve
     exact ⟨B', R, -(u * b ^ K), v2, Y, ur R, s8, t8, r8, p8, rfl, by omega, hI2, hB', hR0, hv2, by rw [hv, hve, hb, hK]; grind, hsz.neg, hY, rfl, hrow8, rfl⟩
    clear hv hve hv2 hR' hI hI' hI2 hR hcB heq hu hps hms hns hsz hJ hZ hM
    generalize ur R = UR at *
    generalize ur Q = UQ at *
    generalize A'.length = la at *
    generalize B'.length = lb at *
    by_cases ha : la % 2 = 0
    ·rw [decide_eq_true ha] at ea
     by_cases hbb : lb % 2 = 0
     ·rw [decide_eq_true hbb] at eb
      have hnx := hneg ⟨ha, hbb⟩
      clear hneg hpos
      subst hs1
      cbv
      refine bT l1 ?_
      refine ⟨_, hS.call (cd), ?_⟩
      cbv
      refine bF (l2) ?_
      rw [j1, hzz]
      cbv
      refine nd (g1) ?_
      rw [m1]
      refine ⟨_, hS.call (cp), ?_⟩
      cbv
      refine ⟨_, hS.call (cmu), ?_⟩
      cbv
      rw [z1]
      refine bT (ea) ?_
      rw [j1]
      refine bT (eb) ?_
      refine ⟨_, hS.call (cn), ?_⟩
      cbv
      exact again (s' := ursSt Y UR s8 r8 t8 p8) (m := R.length) (by simp [leT, ursSt, mkSt]) (by simp [leH, ursSt, mkSt, rawZ]) rfl (by show 2 <= 6; omega) hmm hnx
     ·rw [decide_eq_false hbb] at eb
      have hnx := hpos fun h => hbb h.2
      clear hneg hpos
      subst hs1
      cbv
      refine bT l1 ?_
      refine ⟨_, hS.call (cd), ?_⟩
      cbv
      refine bF (l2) ?_
      rw [j1, hzz]
      cbv
      refine nd (g1) ?_
      rw [m1]
      refine ⟨_, hS.call (cp), ?_⟩
      cbv
      refine ⟨_, hS.call (cmu), ?_⟩
      cbv
      rw [z1]
      refine bT (ea) ?_
      rw [j1]
      refine bF (eb) ?_
      exact again (s' := ursSt Y UR s7 r7 t7 p7) (m := R.length) (by simp [leT, ursSt, mkSt]) (by simp [leH, ursSt, mkSt, rawZ]) rfl (by show 2 <= 6; omega) hmm hnx
    ·rw [decide_eq_false ha] at ea
     have hnx := hpos fun h => ha h.1
     clear hneg hpos
     subst hs1
     cbv
     refine bT l1 ?_
     refine ⟨_, hS.call (cd), ?_⟩
     cbv
     refine bF (l2) ?_
     rw [j1, hzz]
     cbv
     refine nd (g1) ?_
     rw [m1]
     refine ⟨_, hS.call (cp), ?_⟩
     cbv
     refine ⟨_, hS.call (cmu), ?_⟩
     cbv
     rw [z1]
     refine bF (ea) ?_
     exact again (s' := ursSt Y UR s7 r7 t7 p7) (m := R.length) (by simp [leT, ursSt, mkSt]) (by simp [leH, ursSt, mkSt, rawZ]) rfl (by show 2 <= 6; omega) hmm hnx
open Go Go.Abs Go.Abs.M Go.Proofs
theorem bz_step {W V : Nat} {A B U N Q : List Rat} {c : Rat} (h : EuI W V A B U N) (hB : B ≠ []) (hQ : ptrim Q = Q) (hq : Q.length <= A.length + 1 - B.length) (hqW : Q.length <= W) (hs : ∃ s, CF s (fun _ => c) /\ CF s (fun j => Q.getD j 0) /\ s <= W) (hV : V <= 400000000) :
  ∃ M D N', ACall Tryz.prog 17 [.val (tl (ur Q)), .val (tl (ur N))] ⟨[.val (tl (ur M))], [none, none]⟩ /\ ACall Tryz.prog 18 [.val (tl (ur U)), .val (tl (ur M))] ⟨[.val (tl (ur D))], [none, none]⟩ /\
   ACall Tryz.prog 21 [.val (.agg (qc c).row), .val (tl (ur D))] ⟨[.val (tl (ur N'))], [none, none]⟩ /\ ptrim N' = N' /\ (∀ x, Abs.ev N' x = c * (Abs.ev U x - Abs.ev Q x * Abs.ev N x)) /\
   N'.length <= max U.length (Q.length + N.length - 1) /\ (∀ v, CF v (fun j => U.getD j 0) -> CF v (fun j => N.getD j 0) -> CF (2 * v + 4 * W + 1) (fun j => N'.getD j 0)) := by
 obtain ⟨s, s3, s4, s5⟩ := hs
 obtain ⟨v, v1, v2, v3⟩ := h.szu
 have a1 := h.lu
 have a2 := h.ln
 have a3 := h.la
 have p : 1 <= 2 ^ B.length := Nat.one_le_two_pow
 have w1 : v + 4 * W + 4 <= V := by have := Nat.mul_le_mul_left (v + 4 * W + 4) p; omega
 have hB1 : B.length ≠ 0 := fun h0 => hB (List.length_eq_zero_iff.1 h0)
 obtain ⟨M, hM, cM⟩ := pb_mul (f := Abs.ev Q) (g := Abs.ev N) Q.length (⟨hQ, fun x => rfl, Nat.le_refl _, s4⟩ : PB (Abs.ev Q) Q.length s Q) (⟨h.tn, fun x => rfl, Nat.le_refl _, v2⟩ : PB (Abs.ev N) N.length v N) (Nat.le_of_lt Nat.lt_two_pow_self) (by omega) (by omega)
 obtain ⟨D, hD, cD⟩ := pb_sub (⟨h.tu, fun x => rfl, Nat.le_refl _, v1⟩ : PB (Abs.ev U) U.length v U) hM (by omega) (by omega) (by omega)
 obtain ⟨N', hN', cN⟩ := pb_scale s3 hD (by omega) (by omega)
 refine ⟨M, D, N', cM, cD, cN, hN'.tr, hN'.ev, hN'.len, fun w w1 w2 => ?_⟩
 have e := (CF.scale s3 (w1.add (s4.prod w2 (i := Q.length) (l := Q.length) (Nat.le_of_lt Nat.lt_two_pow_self)).neg)).mono (t := 2 * w + 4 * W + 1) (by omega)
 refine e.congr fun j => ?_
 have hc := ev_coef (P := N') (Q := lsc c (pshift U (-1) (pmul Q N) 0)) (fun x => by rw [hN'.ev, qaw, qbh, ev_pmul]; grind) j
 show _ = N'.getD j 0
 rw [hc, lsc_get, qbz, if_pos (Nat.zero_le _), Nat.sub_zero, pmul_get, csum_cnv]
 grind
theorem eu_run {W V : Nat} (hW : W <= 400000000) (hV : V <= 400000000) : ∀ (l : Nat) (A B U N : List Rat), B.length <= l -> EuI W V A B U N -> ∃ G X K, Eu A B U N G X K /\ ptrim G = G /\ ptrim X = X /\ ptrim K = K /\ CF W (fun j => G.getD j 0) /\ CF V (fun j => X.getD j 0) /\ CF V (fun j => K.getD j 0) /\ G.length <= 200 /\ X.length <= 200 := by
 have stop : ∀ (A U N : List Rat), EuI W V A [] U N -> ∃ G X K, Eu A [] U N G X K /\ ptrim G = G /\ ptrim X = X /\ ptrim K = K /\ CF W (fun j => G.getD j 0) /\ CF V (fun j => X.getD j 0) /\ CF V (fun j => K.getD j 0) /\ G.length <= 200 /\ X.length <= 200 := fun A U N h => by
  obtain ⟨s, c1, c2, c3⟩ := h.sz
  obtain ⟨v, v1, v2, v3⟩ := h.szu
  have a1 := h.lu
  have a3 := h.la
  simp only [List.length_nil, Nat.pow_zero, Nat.mul_one] at c3 v3
  have : s + 1 <= (s + 1) * (A.length + 1 - 0 + 1) := Nat.le_mul_of_pos_right _ (by omega)
  exact ⟨A, U, N, .nil A U N, h.ta, h.tu, h.tn, c1.mono (by omega), v1.mono (by omega), v2.mono (by omega), a3, by omega⟩
 intro l
 induction l with
 | zero =>
  intro A B U N hl h
  have : B = [] := List.length_eq_zero_iff.1 (by omega)
  subst this
  exact stop A U N h
 | succ l ih =>
  intro A B U N hl h
  rcases Classical.em (B = []) with h0 | h0
  ·subst h0; exact stop A U N h
  ·obtain ⟨Q, R, c, R', hr, _, hlt, hs, hq, hqW, _⟩ := eu_step h h0 hW
   obtain ⟨s, s1, s2, s3, s4, s5, s6⟩ := hs
   obtain ⟨M, D, N', _, _, _, n1, n2, n3, n4⟩ := bz_step h h0 hr.tq hq hqW ⟨s, s3, s4, s5⟩ hV
   have hl' := hr.len
   obtain ⟨G, X, K, e, rest⟩ := ih B R' N N' (by omega) (h.next h0 hr ⟨s, s1, s2, s3, s4, s5, s6⟩ hq n1 n3 n4)
   exact ⟨G, X, K, .step h0 hr n1 n2 e, rest⟩
theorem ugcdstep_call (Q : Abs.Rows) (s t : Bool) (r p : Abs.Rows) : ACall Tryz.prog 71 [.val (tl Q), .val (.agg [.v (.bool s), .lst false r, .v (.bool t), .lst false p])] ⟨[], [none, none]⟩ := by
 refine callZ ccOk mixed [] Tryz.func71 rfl rfl (by kernel_rfl) fun zA zB zC zD zE zF zG zH zI zJ zK zL zM zN zO zP zQ zR zS zT zU zV zX zY zZ za zb zc zd ze zg zh zi zj zk zl zm zn zo zq zr zs zt zu zw zx zy zz zth A L F hS hF => ?_
 cbv
 exact hF _ (ResLe.refl _)
theorem ubezstep_call {Q N U M D N' : Abs.Rows} {s t : Bool} {r p : Abs.Rows} (c1 : ACall Tryz.prog 17 [.val (tl Q), .val (tl N)] ⟨[.val (tl M)], [none, none]⟩) (c2 : ACall Tryz.prog 18 [.val (tl U), .val (tl M)] ⟨[.val (tl D)], [none, none]⟩)
  (c3 : ACall Tryz.prog 21 [.val (.agg [.v (.bool s), .lst false r, .v (.bool t), .lst false p]), .val (tl D)] ⟨[.val (tl N')], [none, none]⟩) :
  ACall Tryz.prog 73 [.val (tl Q), .val (.agg [.v (.bool s), .lst false r, .v (.bool t), .lst false p]), .ref [.lst false N], .ref [.lst false U]] ⟨[], [none, none, some (.var [.t (.lst false N')]), some (.var [.t (.lst false N)])]⟩ := by
 refine callZ ccOk mixed [] Tryz.func73 rfl rfl (by kernel_rfl) fun zA zB zC zD zE zF zG zH zI zJ zK zL zM zN zO zP zQ zR zS zT zU zV zX zY zZ za zb zc zd ze zg zh zi zj zk zl zm zn zo zq zr zs zt zu zw zx zy zz zth A L F hS hF => ?_
 cbv
 refine ⟨_, hS.call (c1), ?_⟩
 cbv
 refine ⟨_, hS.call (c2), ?_⟩
 cbv
 refine ⟨_, hS.call (c3), ?_⟩
 cbv
 exact hF _ (ResLe.refl _)
def ueuSt (X Y : Abs.Rows) : St := mkSt 37 [.c (.t (.lst false X)), .c (.t (.lst false Y)), .c (.t (.v (.func (.func 71) #[] #[])))] [none, none, none]
theorem eu_round {W V : Nat} (hW : W <= 400000000) (hV : V <= 400000000) {A B U N G X K : List Rat} (hI : EuI W V A B U N) (hE : Eu A B U N G X K) (hB : B ≠ []) :
  ∃ Q R c R' N', EuI W V B R' N N' /\ Eu B R' N N' G X K /\ R'.length = R.length /\ R'.length < B.length /\
   ACall Tryz.prog 23 [.val (tl (ur A)), .val (tl (ur B))] ⟨[.val (tl (ur Q)), .val (tl (ur R)), .val (ti .i64 0)], [none, none]⟩ /\
   (R = [] -> R' = [] /\ c = 1) /\ (R ≠ [] -> ACall Tryz.prog 76 [.val (tl (ur R))] ⟨[.val (.agg (qc c).row)], [none]⟩ /\ ACall Tryz.prog 21 [.val (.agg (qc c).row), .val (tl (ur R))] ⟨[.val (tl (ur R'))], [none, none]⟩) /\
   ∃ M D, ACall Tryz.prog 17 [.val (tl (ur Q)), .val (tl (ur N))] ⟨[.val (tl (ur M))], [none, none]⟩ /\ ACall Tryz.prog 18 [.val (tl (ur U)), .val (tl (ur M))] ⟨[.val (tl (ur D))], [none, none]⟩ /\
   ACall Tryz.prog 21 [.val (.agg (qc c).row), .val (tl (ur D))] ⟨[.val (tl (ur N'))], [none, none]⟩ := by
 rcases hE.inv with ⟨h, _⟩ | ⟨_, Q2, R2, N2, d, e1, e2, e3, e4⟩
 ·exact absurd h hB
 obtain ⟨Q, R, c, R', hr, hl, hlt, hs, hq, hqW, cd, r0, r1⟩ := eu_step hI hB hW
 obtain ⟨s, s1, s2, s3, s4, s5, s6⟩ := hs
 obtain ⟨M, D, N', cM, cD, cN, n1, n2, n3, n4⟩ := bz_step hI hB hr.tq hq hqW ⟨s, s3, s4, s5⟩ hV
 obtain ⟨u1, u2, u3⟩ := e1.uniq hI.tb hr
 subst u1 u2 u3
 have u4 : N2 = N' := qb1 e2 n1 fun x => by rw [e3, n2]
 subst u4
 exact ⟨Q2, R, d, R2, N2, hI.next hB hr ⟨s, s1, s2, s3, s4, s5, s6⟩ hq n1 n3 n4, e4, hl, by omega, cd, r0, r1, M, D, cM, cD, cN⟩
theorem eu_round0 {W V : Nat} (hW : W <= 400000000) {A B G X K : List Rat} (hI : EuI W V A B [] []) (hE : Eu A B [] [] G X K) (hB : B ≠ []) :
  ∃ Q R c R', EuI W V B R' [] [] /\ Eu B R' [] [] G X K /\ R'.length = R.length /\ R'.length < B.length /\
   ACall Tryz.prog 23 [.val (tl (ur A)), .val (tl (ur B))] ⟨[.val (tl (ur Q)), .val (tl (ur R)), .val (ti .i64 0)], [none, none]⟩ /\
   (R = [] -> R' = [] /\ c = 1) /\ (R ≠ [] -> ACall Tryz.prog 76 [.val (tl (ur R))] ⟨[.val (.agg (qc c).row)], [none]⟩ /\ ACall Tryz.prog 21 [.val (.agg (qc c).row), .val (tl (ur R))] ⟨[.val (tl (ur R'))], [none, none]⟩) := by
 rcases hE.inv with ⟨h, _⟩ | ⟨_, Q2, R2, N2, d, e1, e2, e3, e4⟩
 ·exact absurd h hB
 obtain ⟨Q, R, c, R', hr, hl, hlt, hs, hq, hqW, cd, r0, r1⟩ := eu_step hI hB hW
 obtain ⟨u1, u2, u3⟩ := e1.uniq hI.tb hr
 subst u1 u2 u3
 have u4 : N2 = [] := tr_nil e2 fun x => by rw [e3]; simp only [Abs.ev]; grind
 subst u4
 exact ⟨Q2, R, d, R2, hI.next hB hr hs hq rfl (Nat.zero_le _) (fun v _ _ => (CF.zero _).congr fun j => by simp), e4, hl, by omega, cd, r0, r1⟩
theorem eu_run0 {W V : Nat} (hW : W <= 400000000) : ∀ (l : Nat) (A B : List Rat), B.length <= l -> EuI W V A B [] [] -> ∃ G X K, Eu A B [] [] G X K /\ ptrim G = G /\ CF W (fun j => G.getD j 0) /\ G.length <= 200 := by
 have stop : ∀ (A : List Rat), EuI W V A [] [] [] -> ∃ G X K, Eu A [] [] [] G X K /\ ptrim G = G /\ CF W (fun j => G.getD j 0) /\ G.length <= 200 := fun A h => by
  obtain ⟨s, c1, c2, c3⟩ := h.sz
  have a3 := h.la
  simp only [List.length_nil, Nat.pow_zero, Nat.mul_one] at c3
  have : s + 1 <= (s + 1) * (A.length + 1 - 0 + 1) := Nat.le_mul_of_pos_right _ (by omega)
  exact ⟨A, [], [], .nil A [] [], h.ta, c1.mono (by omega), a3⟩
 intro l
 induction l with
 | zero =>
  intro A B hl h
  have : B = [] := List.length_eq_zero_iff.1 (by omega)
  subst this
  exact stop A h
 | succ l ih =>
  intro A B hl h
  rcases Classical.em (B = []) with h0 | h0
  ·subst h0; exact stop A h
  ·obtain ⟨Q, R, c, R', hr, _, hlt, hs, hq, hqW, _⟩ := eu_step h h0 hW
   have hl' := hr.len
   obtain ⟨G, X, K, e, rest⟩ := ih B R' (by omega) (h.next h0 hr hs hq rfl (Nat.zero_le _) (fun v _ _ => (CF.zero _).congr fun j => by simp))
   exact ⟨G, X, K, .step h0 hr rfl (fun x => by simp only [Abs.ev]; grind) e, rest⟩
theorem ueuclid_gcd {W V : Nat} (hW : W <= 400000000) {A0 B0 G X K : List Rat} (hI : EuI W V A0 B0 [] []) (hE : Eu A0 B0 [] [] G X K) :
  ACall Tryz.prog 70 [.val (tl (ur A0)), .val (tl (ur B0)), .val (.c (.v (.func (.func 71) #[] #[])))] ⟨[.val (tl (ur G))], [none, none, none]⟩ := by
 obtain ⟨T, hT⟩ : ∃ T, T = ur G := ⟨_, rfl⟩
 obtain ⟨P, hP⟩ : ∃ T, T = ur A0 := ⟨_, rfl⟩
 obtain ⟨S, hS0⟩ : ∃ T, T = ur B0 := ⟨_, rfl⟩
 rw [<- hT, <- hP, <- hS0]
 refine callZ ccOk mixed [.val] Tryz.func70 rfl rfl (by kernel_rfl) fun zA zB zC zD zE zF zG zH zI zJ zK zL zM zN zO zP zQ zR zS zT zU zV zX zY zZ za zb zc zd ze zg zh zi zj zk zl zm zn zo zq zr zs zt zu zw zx zy zz zth A L F hS hF => ?_
 cbv
 refine loopZ ccOk mixed hS (fun (i : Nat) s' => ∃ (A' B' : List Rat) (X' Y : Abs.Rows), B'.length = i /\ EuI W V A' B' [] [] /\ Eu A' B' [] [] G X K /\ X' = ur A' /\ Y = ur B' /\ s' = ueuSt X' Y) (n := B0.length) (s0 := ueuSt P S) (qaq ?_ ?_) rfl (by show 3 <= 3; omega) ?_ ?_
 ·simp [leT, ueuSt, mkSt]
 ·simp [leH, ueuSt, mkSt]
 ·exact ⟨A0, B0, P, S, rfl, hI, hE, hP, hS0, rfl⟩
 ·rintro i s1 ⟨A', B', X', Y, hi, hI', hE', hX, hY, hs1⟩
  by_cases hB : B' = []
  ·subst hB
   have hG : X' = T := by
    rcases hE'.inv with ⟨_, h, _⟩ | ⟨h, _⟩
    ·rw [hX, hT, h]
    ·exact absurd rfl h
   have l1 : zO 0 (zY (zh Y)) = false := by rw [hS.lt, hS.ofN, hS.len, hY, qac]; rfl
   subst hG
   subst hs1
   cbv
   refine bF l1 ?_
   exact hF _ (ResLe.refl _)
  ·obtain ⟨Q, R, c, R', hI2, hE2, hl, hlt, cd, r0, r1⟩ := eu_round0 hW hI' hE' hB
   have hB1 : B'.length ≠ 0 := fun h0 => hB (List.length_eq_zero_iff.1 h0)
   have hlt' : R'.length < B'.length := hlt
   have hYl : Y.length = B'.length := by rw [hY, qac]
   have hRl : (ur R).length = R.length := qac R
   have hmm : R'.length < i := by omega
   obtain ⟨s, t, r, p, hrow, _⟩ := qrow c
   obtain ⟨s1, t1, r1', p1, hrow1, _⟩ := qrow 1
   have cw := qbo 1 (by omega) (by omega)
   rw [show ((1 : Int) : Rat) = 1 from rfl, hrow1] at cw
   rw [<- hX, <- hY] at cd
   have l1 : zO 0 (zY (zh Y)) = true := by rw [hS.lt, hS.ofN, hS.len, hYl]; exact decide_eq_true (by omega)
   have cst := ugcdstep_call (ur Q) s t r p
   by_cases hR : R = []
   ·obtain ⟨r01, r02⟩ := r0 hR
    have l2 : zO 0 (zY (zh (ur R))) = false := by rw [hS.lt, hS.ofN, hS.len, hRl, hR]; rfl
    have hrr : ur R = ur R' := by rw [hR, r01]
    have e1 : [Tree.v (.bool s), .lst false r, .v (.bool t), .lst false p] = [Tree.v (.bool s1), .lst false r1', .v (.bool t1), .lst false p1] := by rw [<- hrow, <- hrow1, r02]
    rw [e1] at cst
    have hnx : ∃ (A' B'' : List Rat) (X' Y' : Abs.Rows), B''.length = R'.length /\ EuI W V A' B'' [] [] /\ Eu A' B'' [] [] G X K /\ X' = ur A' /\ Y' = ur B'' /\ ueuSt Y (ur R) = ueuSt X' Y' := ⟨B', R', Y, ur R', rfl, hI2, hE2, hY, rfl, by rw [hrr]⟩
    generalize ur R = UR at *
    generalize ur Q = UQ at *
    subst hs1
    cbv
    refine bT l1 ?_
    refine ⟨_, hS.call (cd), ?_⟩
    cbv
    refine ⟨_, hS.call (cw), ?_⟩
    cbv
    refine bF (l2) ?_
    refine ⟨_, hS.call (cst), ?_⟩
    cbv
    exact again (s' := ueuSt Y UR) (m := R'.length) (by simp [leT, ueuSt, mkSt]) (by simp [leH, ueuSt, mkSt]) rfl (by show 3 <= 3; omega) hmm hnx
   ·obtain ⟨r11, r12⟩ := r1 hR
    have hR1 : R.length ≠ 0 := fun h0 => hR (List.length_eq_zero_iff.1 h0)
    have l2 : zO 0 (zY (zh (ur R))) = true := by rw [hS.lt, hS.ofN, hS.len, hRl]; exact decide_eq_true (by omega)
    rw [hrow] at r11 r12
    have hnx : ∃ (A' B'' : List Rat) (X' Y' : Abs.Rows), B''.length = R'.length /\ EuI W V A' B'' [] [] /\ Eu A' B'' [] [] G X K /\ X' = ur A' /\ Y' = ur B'' /\ ueuSt Y (ur R') = ueuSt X' Y' := ⟨B', R', Y, ur R', rfl, hI2, hE2, hY, rfl, rfl⟩
    generalize ur R = UR at *
    generalize ur Q = UQ at *
    generalize ur R' = UR' at *
    subst hs1
    cbv
    refine bT l1 ?_
    refine ⟨_, hS.call (cd), ?_⟩
    cbv
    refine ⟨_, hS.call (cw), ?_⟩
    cbv
    refine bT (l2) ?_
    refine ⟨_, hS.call (r11), ?_⟩
    cbv
    refine ⟨_, hS.call (r12), ?_⟩
    cbv
    refine ⟨_, hS.call (cst), ?_⟩
    cbv
    exact again (s' := ueuSt Y UR') (m := R'.length) (by simp [leT, ueuSt, mkSt]) (by simp [leH, ueuSt, mkSt]) rfl (by show 3 <= 3; omega) hmm hnx
open Go Go.Abs Go.Abs.M Go.Proofs
structure IsG (A B G : List Rat) : Prop where
 tr : ptrim G = G
 da : Dv G A
 db : Dv G B
 gr : ∀ D, Dv D A -> Dv D B -> Dv D G
 mon : G ≠ [] -> Mon G
theorem IsG.uniq {A B G H : List Rat} (h : IsG A B G) (h' : IsG A B H) : G = H := by
 have d1 := h'.gr G h.da h.db
 have d2 := h.gr H h'.da h'.db
 rcases Classical.em (G = []) with h0 | h0
 ·obtain ⟨K, hK⟩ := d1
  rw [h0]
  exact (tr_nil h'.tr fun x => by rw [hK, h0]; simp only [Abs.ev]; grind).symm
 rcases Classical.em (H = []) with h1 | h1
 ·obtain ⟨K, hK⟩ := d2
  exact absurd (tr_nil h.tr fun x => by rw [hK, h1]; simp only [Abs.ev]; grind) h0
 exact mon_uniq h.tr h'.tr (h.mon h0) (h'.mon h1) d1 d2
theorem IsG.symm {A B G : List Rat} (h : IsG A B G) : IsG B A G := ⟨h.tr, h.db, h.da, fun D a b => h.gr D b a, h.mon⟩
theorem IsG.nil {A B G : List Rat} (hA : ptrim A = A) (hB : ptrim B = B) (h : IsG A B G) : G = [] ↔ A = [] /\ B = [] := by
 refine ⟨fun h0 => ?_, fun ⟨h1, h2⟩ => ?_⟩
 ·obtain ⟨K, hK⟩ := h.da
  obtain ⟨L, hL⟩ := h.db
  exact ⟨tr_nil hA fun x => by rw [hK, h0]; simp only [Abs.ev]; grind, tr_nil hB fun x => by rw [hL, h0]; simp only [Abs.ev]; grind⟩
 ·obtain ⟨K, hK⟩ := h.gr [] (h1 ▸ Dv.refl []) (h2 ▸ Dv.refl [])
  exact tr_nil h.tr fun x => by rw [hK]; simp only [Abs.ev]; grind
theorem eu_start {W s n : Nat} {A B : List Rat} (hA : ptrim A = A) (hB : ptrim B = B) (cA : CF s (fun j => A.getD j 0)) (cB : CF s (fun j => B.getD j 0)) (hn : A.length <= n) {m : Nat} (hm : B.length <= m) (hW : (s + 1) * (n + 2) * 3 ^ m <= W) (hl : n + 2 * m <= 190) {v V : Nat} {U N : List Rat} (hU : ptrim U = U) (hN : ptrim N = N) (cU : CF v (fun j => U.getD j 0)) (cN : CF v (fun j => N.getD j 0)) (lU : U.length <= 1) (lN : N.length <= 1) (hV : (v + 4 * W + 4) * 2 ^ m <= V) : EuI W V A B U N :=
 ⟨hA, hB, hU, hN, ⟨s, cA, cB, Nat.le_trans (Nat.mul_le_mul (Nat.mul_le_mul_left _ (by omega)) (Nat.pow_le_pow_right (by omega) hm)) hW⟩, ⟨v, cU, cN, Nat.le_trans (Nat.mul_le_mul_left _ (Nat.pow_le_pow_right (by omega) hm)) hV⟩, by omega, by omega, by omega⟩
theorem isg_of {A B U N X K R G : List Rat} (hE : Eu A B U N R X K) (hG : ptrim G = G) (hR : ptrim R = R) (h1 : R = [] -> G = []) (h2 : R ≠ [] -> ∀ x, Abs.ev G x = (R.getD (R.length - 1) 0)⁻¹ * Abs.ev R x) : IsG A B G := by
 obtain ⟨d1, d2, d3⟩ := hE.dvd
 rcases Classical.em (R = []) with h0 | h0
 ·have hG0 := h1 h0
  rw [hG0, <- h0]
  exact ⟨hR, d1, d2, d3, fun h => absurd h0 h⟩
 ·have hL := tr_last hR h0
  have hi := Rat.inv_mul_cancel _ hL
  generalize hLe : R.getD (R.length - 1) 0 = L at *
  have hi0 : L⁻¹ ≠ 0 := fun h1 => by rw [h1, Rat.zero_mul] at hi; exact absurd hi (by decide)
  have hGe : G = lsc L⁻¹ R := qb1 hG (lsc_trim hi0 hR) fun x => by rw [h2 h0, qaw]
  refine ⟨hG, hGe ▸ d1.scale hi0, hGe ▸ d2.scale hi0, fun D e1 e2 => ?_, fun h => ⟨h, ?_⟩⟩
  ·exact Dv.lin (U := [L⁻¹]) (V := []) (d3 D e1 e2) (d3 D e1 e2) fun x => by rw [h2 h0]; simp only [Abs.ev]; grind
  ·rw [hGe, lsc_get, lsc_len, hLe, hi]
theorem pb_gcd {f g : Rat -> Rat} {n m s : Nat} {A0 B0 : List Rat} (W : Nat) (hA : PB f n s A0) (hB : PB g m s B0) (hW : (s + 1) * (n + 2) * 3 ^ m <= W) (hW2 : W <= 400000000) (hl : n + 2 * m <= 190) :
  ∃ G, IsG A0 B0 G /\ CF W (fun j => G.getD j 0) /\ G.length <= 200 /\ ACall Tryz.prog 25 [.val (tl (ur A0)), .val (tl (ur B0))] ⟨[.val (tl (ur G))], [none, none]⟩ := by
 have hz : ∀ v, CF v (fun j => ([] : List Rat).getD j 0) := fun v => (CF.zero v).congr fun j => by simp
 have hI : EuI W ((0 + 4 * W + 4) * 2 ^ m) A0 B0 [] [] := eu_start hA.tr hB.tr hA.cf hB.cf hA.len hB.len hW hl rfl rfl (hz 0) (hz 0) (Nat.zero_le _) (Nat.zero_le _) (Nat.le_refl _)
 obtain ⟨R, X, K, hE, tR, cR, lR⟩ := eu_run0 hW2 _ A0 B0 (Nat.le_refl _) hI
 have ce := ueuclid_gcd hW2 hI hE
 have hm : ∃ G, ptrim G = G /\ (R = [] -> G = []) /\ (R ≠ [] -> ∀ x, Abs.ev G x = (R.getD (R.length - 1) 0)⁻¹ * Abs.ev R x) /\ CF W (fun j => G.getD j 0) /\ G.length <= 200 /\ ACall Tryz.prog 32 [.val (tl (ur R))] ⟨[.val (tl (ur G))], [none]⟩ := by
  rcases Classical.em (R = []) with h0 | h0
  ·subst h0
   exact ⟨[], rfl, fun _ => rfl, fun h => absurd rfl h, hz W, Nat.zero_le _, umonic_nil⟩
  ·have hP : PB (Abs.ev R) 200 W R := ⟨tR, fun x => rfl, lR, cR⟩
   obtain ⟨G, hG, cG⟩ := pl_monic hP.pl h0 (by omega) (by omega)
   refine ⟨G, hG.tr, fun h => absurd h h0, fun _ => hG.ev, ?_, hG.len, cG⟩
   have hL := tr_last tR h0
   exact (cR.div (R.length - 1) hL).congr fun j => by
    rw [ev_coef (P := G) (Q := lsc (R.getD (R.length - 1) 0)⁻¹ R) (fun x => by rw [hG.ev, qaw]) j, lsc_get]
 obtain ⟨G, tG, g1, g2, cG, lG, cm⟩ := hm
 refine ⟨G, isg_of hE tG tR g1 g2, cG, lG, ?_⟩
 generalize ur A0 = X1 at *
 generalize ur B0 = X2 at *
 generalize ur R = X3 at *
 generalize ur G = X4 at *
 refine callZ ccOk mixed [.val] Tryz.func25 rfl rfl (by kernel_rfl) fun zA zB zC zD zE zF zG zH zI zJ zK zL zM zN zO zP zQ zR zS zT zU zV zX zY zZ za zb zc zd ze zg zh zi zj zk zl zm zn zo zq zr zs zt zu zw zx zy zz zth A L F hS hF => ?_
 cbv
 refine ⟨_, hS.call (ce), ?_⟩
 cbv
 refine ⟨_, hS.call (cm), ?_⟩
 cbv
 exact hF _ (ResLe.refl _)
open Go Go.Abs Go.Abs.M Go.Proofs
def ueubSt (X Y N U : Abs.Rows) : St := mkSt 37 [.c (.t (.lst false X)), .c (.t (.lst false Y)), .c (.clo 73 [(3, 0, 0), (4, 0, 0)])] [none, none, none, some (.var [.t (.lst false N)]), some (.var [.t (.lst false U)])]
theorem ueuclid_bez {W V : Nat} (hW : W <= 400000000) (hV : V <= 400000000) {A0 B0 U0 N0 G X K : List Rat} (hI : EuI W V A0 B0 U0 N0) (hE : Eu A0 B0 U0 N0 G X K) :
  ACall Tryz.prog 70 [.val (tl (ur A0)), .val (tl (ur B0)), .clo 73 [(3, 0, 0), (4, 0, 0)], .gh [.lst false (ur N0)], .gh [.lst false (ur U0)]] ⟨[.val (tl (ur G))], [none, none, none, some (.var [.t (.lst false (ur K))]), some (.var [.t (.lst false (ur X))])]⟩ := by
 obtain ⟨T, hT⟩ : ∃ T, T = ur G := ⟨_, rfl⟩
 obtain ⟨T1, hT1⟩ : ∃ T, T = ur X := ⟨_, rfl⟩
 obtain ⟨T2, hT2⟩ : ∃ T, T = ur K := ⟨_, rfl⟩
 obtain ⟨P, hP⟩ : ∃ T, T = ur A0 := ⟨_, rfl⟩
 obtain ⟨S, hS0⟩ : ∃ T, T = ur B0 := ⟨_, rfl⟩
 obtain ⟨P1, hP1⟩ : ∃ T, T = ur U0 := ⟨_, rfl⟩
 obtain ⟨S1, hS1⟩ : ∃ T, T = ur N0 := ⟨_, rfl⟩
 rw [<- hT, <- hP, <- hS0, <- hT1, <- hT2, <- hP1, <- hS1]
 refine callZ ccOk mixed [.val] Tryz.func70 rfl rfl (by kernel_rfl) fun zA zB zC zD zE zF zG zH zI zJ zK zL zM zN zO zP zQ zR zS zT zU zV zX zY zZ za zb zc zd ze zg zh zi zj zk zl zm zn zo zq zr zs zt zu zw zx zy zz zth A L F hS hF => ?_
 cbv
 refine loopZ ccOk mixed hS (fun (i : Nat) s' => ∃ (A' B' U' N' : List Rat) (X' Y Z1 Z2 : Abs.Rows), B'.length = i /\ EuI W V A' B' U' N' /\ Eu A' B' U' N' G X K /\ X' = ur A' /\ Y = ur B' /\ Z1 = ur N' /\ Z2 = ur U' /\ s' = ueubSt X' Y Z1 Z2) (n := B0.length) (s0 := ueubSt P S S1 P1) (qaq ?_ ?_) rfl (by show 5 <= 5; omega) ?_ ?_
 ·simp [leT, ueubSt, mkSt]
 ·simp [leH, ueubSt, mkSt]
 ·exact ⟨A0, B0, U0, N0, P, S, S1, P1, rfl, hI, hE, hP, hS0, hS1, hP1, rfl⟩
 ·rintro i s1 ⟨A', B', U', N', X', Y, Z1, Z2, hi, hI', hE', hX, hY, hZ1, hZ2, hs1⟩
  by_cases hB : B' = []
  ·subst hB
   have hG : X' = T /\ Z1 = T2 /\ Z2 = T1 := by
    rcases hE'.inv with ⟨_, h1, h2, h3⟩ | ⟨h, _⟩
    ·exact ⟨by rw [hX, hT, h1], by rw [hZ1, hT2, h3], by rw [hZ2, hT1, h2]⟩
    ·exact absurd rfl h
   obtain ⟨g1, g2, g3⟩ := hG
   have l1 : zO 0 (zY (zh Y)) = false := by rw [hS.lt, hS.ofN, hS.len, hY, qac]; rfl
   subst g1 g2 g3
   subst hs1
   cbv
   refine bF l1 ?_
   exact hF _ (ResLe.refl _)
  ·obtain ⟨Q, R, c, R', N2, hI2, hE2, hl, hlt, cd, r0, r1, M, D, cM, cD, cN⟩ := eu_round hW hV hI' hE' hB
   have hB1 : B'.length ≠ 0 := fun h0 => hB (List.length_eq_zero_iff.1 h0)
   have hlt' : R'.length < B'.length := hlt
   have hYl : Y.length = B'.length := by rw [hY, qac]
   have hRl : (ur R).length = R.length := qac R
   have hmm : R'.length < i := by omega
   obtain ⟨s, t, r, p, hrow, _⟩ := qrow c
   obtain ⟨s1, t1, r1', p1, hrow1, _⟩ := qrow 1
   have cw := qbo 1 (by omega) (by omega)
   rw [show ((1 : Int) : Rat) = 1 from rfl, hrow1] at cw
   rw [<- hX, <- hY] at cd
   have l1 : zO 0 (zY (zh Y)) = true := by rw [hS.lt, hS.ofN, hS.len, hYl]; exact decide_eq_true (by omega)
   rw [hrow] at cN
   have cst := ubezstep_call cM cD cN
   rw [<- hZ1, <- hZ2] at cst
   by_cases hR : R = []
   ·obtain ⟨r01, r02⟩ := r0 hR
    have l2 : zO 0 (zY (zh (ur R))) = false := by rw [hS.lt, hS.ofN, hS.len, hRl, hR]; rfl
    have hrr : ur R = ur R' := by rw [hR, r01]
    have e1 : [Tree.v (.bool s), .lst false r, .v (.bool t), .lst false p] = [Tree.v (.bool s1), .lst false r1', .v (.bool t1), .lst false p1] := by rw [<- hrow, <- hrow1, r02]
    rw [e1] at cst
    have hnx : ∃ (A' B'' U' N' : List Rat) (X' Y' Z1' Z2' : Abs.Rows), B''.length = R'.length /\ EuI W V A' B'' U' N' /\ Eu A' B'' U' N' G X K /\ X' = ur A' /\ Y' = ur B'' /\ Z1' = ur N' /\ Z2' = ur U' /\ ueubSt Y (ur R) (ur N2) Z1 = ueubSt X' Y' Z1' Z2' := ⟨B', R', _, _, Y, ur R', ur N2, Z1, rfl, hI2, hE2, hY, rfl, rfl, hZ1, by rw [hrr]⟩
    generalize ur R = UR at *
    generalize ur Q = UQ at *
    generalize ur N2 = UN at *
    subst hs1
    cbv
    refine bT l1 ?_
    refine ⟨_, hS.call (cd), ?_⟩
    cbv
    refine ⟨_, hS.call (cw), ?_⟩
    cbv
    refine bF (l2) ?_
    refine ⟨_, hS.call (cst), ?_⟩
    cbv
    exact again (s' := ueubSt Y UR UN Z1) (m := R'.length) (by simp [leT, ueubSt, mkSt]) (by simp [leH, ueubSt, mkSt]) rfl (by show 5 <= 5; omega) hmm hnx
   ·obtain ⟨r11, r12⟩ := r1 hR
    have hR1 : R.length ≠ 0 := fun h0 => hR (List.length_eq_zero_iff.1 h0)
    have l2 : zO 0 (zY (zh (ur R))) = true := by rw [hS.lt, hS.ofN, hS.len, hRl]; exact decide_eq_true (by omega)
    rw [hrow] at r11 r12
    have hnx : ∃ (A' B'' U' N' : List Rat) (X' Y' Z1' Z2' : Abs.Rows), B''.length = R'.length /\ EuI W V A' B'' U' N' /\ Eu A' B'' U' N' G X K /\ X' = ur A' /\ Y' = ur B'' /\ Z1' = ur N' /\ Z2' = ur U' /\ ueubSt Y (ur R') (ur N2) Z1 = ueubSt X' Y' Z1' Z2' := ⟨B', R', _, _, Y, ur R', ur N2, Z1, rfl, hI2, hE2, hY, rfl, rfl, hZ1, rfl⟩
    generalize ur R = UR at *
    generalize ur Q = UQ at *
    generalize ur R' = UR' at *
    generalize ur N2 = UN at *
    subst hs1
    cbv
    refine bT l1 ?_
    refine ⟨_, hS.call (cd), ?_⟩
    cbv
    refine ⟨_, hS.call (cw), ?_⟩
    cbv
    refine bT (l2) ?_
    refine ⟨_, hS.call (r11), ?_⟩
    cbv
    refine ⟨_, hS.call (r12), ?_⟩
    cbv
    refine ⟨_, hS.call (cst), ?_⟩
    cbv
    exact again (s' := ueubSt Y UR' UN Z1) (m := R'.length) (by simp [leT, ueubSt, mkSt]) (by simp [leH, ueubSt, mkSt]) rfl (by show 5 <= 5; omega) hmm hnx
theorem uconst_call (n : Int) (h1 : -9223372036854775808 <= n) (h2 : n < 9223372036854775808) : ACall Tryz.prog 72 [.val (ti .i64 n)] ⟨[.val (tl (ur (ptrim [(n : Rat)])))], [none]⟩ := by
 have cw := qbo n h1 h2
 have ct := qbj [(n : Rat)] (by simp)
 rw [ur_single] at ct
 obtain ⟨s, t, r, p, hrow, _⟩ := qrow (n : Rat)
 rw [hrow] at cw ct
 generalize ur (ptrim [(n : Rat)]) = Z at *
 refine callZ ccOk mixed [.val] Tryz.func72 rfl rfl (by kernel_rfl) fun zA zB zC zD zE zF zG zH zI zJ zK zL zM zN zO zP zQ zR zS zT zU zV zX zY zZ za zb zc zd ze zg zh zi zj zk zl zm zn zo zq zr zs zt zu zw zx zy zz zth A L F hS hF => ?_
 have u1 : zn 0 1 [[Tree.v (.bool s), .lst false r, .v (.bool t), .lst false p]] = true := by rw [hS.fit]; rfl
 have u0 : zo [[Tree.v (.bool s), .lst false r, .v (.bool t), .lst false p]] 0 1 = [[Tree.v (.bool s), .lst false r, .v (.bool t), .lst false p]] := by rw [hS.part]; rfl
 cbv
 refine ⟨_, hS.call (cw), ?_⟩
 cbv
 refine nd (u1) ?_
 rw [u0]
 refine ⟨_, hS.call (ct), ?_⟩
 cbv
 exact hF _ (ResLe.refl _)
open Go Go.Abs Go.Abs.M Go.Proofs
structure IsBz (A B G U V : List Rat) : Prop where
 g : IsG A B G
 tu : ptrim U = U
 tv : ptrim V = V
 eq : ∀ x, Abs.ev U x * Abs.ev A x + Abs.ev V x * Abs.ev B x = Abs.ev G x
 zero : G = [] -> U = [] /\ V = []
 one : G ≠ [] -> B = [] -> U.length = 1 /\ V = []
 len : B ≠ [] -> U.length <= B.length - G.length
theorem ptrim_one : ptrim [((1 : Int) : Rat)] = [1] := by rfl
theorem ptrim_zero : ptrim [((0 : Int) : Rat)] = [] := by rfl
theorem pb_bezout {f g : Rat -> Rat} {n m s : Nat} {A0 B0 : List Rat} (W V : Nat) (hA : PB f n s A0) (hB : PB g m s B0) (hW : (s + 1) * (n + 2) * 3 ^ m <= W) (hV : (1 + 4 * W + 4) * 2 ^ m <= V) (hl : n + 2 * m <= 190) (hbig : V + 2 * W + 201 * (s + m * (W + 1) + 2) + 600 * (s + 1) + 1000 <= 1500000000) (hV2 : V <= 400000000) :
  ∃ G U K, IsBz A0 B0 G U K /\ CF W (fun j => G.getD j 0) /\ G.length <= 200 /\ U.length <= 200 /\ K.length <= 499 /\ CF (V + 2 * W + 201 * (s + m * (W + 1) + 2) + 600 * (s + 1) + 1000) (fun j => U.getD j 0) /\ CF (V + 2 * W + 201 * (s + m * (W + 1) + 2) + 600 * (s + 1) + 1000) (fun j => K.getD j 0) /\
   ACall Tryz.prog 26 [.val (tl (ur A0)), .val (tl (ur B0))] ⟨[.val (tl (ur G)), .val (tl (ur U)), .val (tl (ur K))], [none, none]⟩ := by
 generalize hBD : V + 2 * W + 201 * (s + m * (W + 1) + 2) + 600 * (s + 1) + 1000 = BD at *
 have hWV : W <= V := by
  have := Nat.mul_le_mul_left (1 + 4 * W + 4) (Nat.one_le_two_pow (n := m))
  omega
 have hz : ∀ v, CF v (fun j => ([] : List Rat).getD j 0) := fun v => (CF.zero v).congr fun j => by simp
 have h1c : CF 1 (fun j => ([1] : List Rat).getD j 0) := ((CF.whole (n := 1) (s := 1) (by decide) (by decide)).pick fun j => decide (j = 0)).congr fun j => by
  cases j with
  | zero => simp
  | succ j => simp
 have hI : EuI W V A0 B0 [1] [] := eu_start hA.tr hB.tr hA.cf hB.cf hA.len hB.len hW hl rfl rfl h1c (hz 1) (Nat.le_refl _) (Nat.zero_le _) hV
 obtain ⟨R, X, K0, hE, tR, tX, tK, cR, cX, cK, lR, lX⟩ := eu_run (by omega) (by omega) _ A0 B0 [1] [] (Nat.le_refl _) hI
 have ce := ueuclid_bez (by omega) (by omega) hI hE
 have cu := uconst_call 1 (by omega) (by omega)
 have cn := uconst_call 0 (by omega) (by omega)
 rw [ptrim_one] at cu
 rw [ptrim_zero] at cn
 have hBl := hB.len
 have hAl := hA.len
 obtain ⟨v, hv⟩ := hE.bez (a := Abs.ev A0) (b := Abs.ev B0) ⟨[], fun x => by simp only [Abs.ev]; grind⟩ ⟨[1], fun x => by simp only [Abs.ev]; grind⟩
 obtain ⟨Y1, hY1⟩ : ∃ Y, Y = ur [1] := ⟨_, rfl⟩
 obtain ⟨Y0, hY0⟩ : ∃ Y : Abs.Rows, Y = ur [] := ⟨_, rfl⟩
 rw [<- hY1] at ce cu
 rw [<- hY0] at ce cn
 have lRr := qac R
 have lBr := qac B0
 rcases Classical.em (R = []) with h0 | h0
 ·subst h0
  refine ⟨[], [], [], ⟨isg_of hE rfl rfl (fun _ => rfl) (fun h => absurd rfl h), rfl, rfl, fun x => by simp only [Abs.ev]; grind, fun _ => ⟨rfl, rfl⟩, fun h => absurd rfl h, fun _ => Nat.zero_le _⟩, hz W, Nat.zero_le _, Nat.zero_le _, Nat.zero_le _, hz _, hz _, ?_⟩
  generalize ur A0 = XA at *
  generalize ur B0 = XB at *
  generalize ur X = XX at *
  generalize ur K0 = XK at *
  rw [show ur ([] : List Rat) = [] from rfl] at ce ⊢
  refine callZ ccOk mixed [.val, .val, .val] Tryz.func26 rfl rfl (by kernel_rfl) fun zA zB zC zD zE zF zG zH zI zJ zK zL zM zN zO zP zQ zR zS zT zU zV zX zY zZ za zb zc zd ze zg zh zi zj zk zl zm zn zo zq zr zs zt zu zw zx zy zz zth A L F hS hF => ?_
  have l1 : zM (zY (zh [])) 0 = true := by rw [hS.eq, hS.ofN, hS.len]; rfl
  cbv
  refine ⟨_, hS.call (cu), ?_⟩
  cbv
  refine ⟨_, hS.call (cn), ?_⟩
  cbv
  refine ⟨_, hS.call (ce), ?_⟩
  cbv
  refine bT (l1) ?_
  exact fin3w hF (TLe.drop _ _) (TLe.drop _ _) (TLe.drop _ _)
 ·have hL := tr_last tR h0
  have hRlen : R.length ≠ 0 := fun h1 => h0 (List.length_eq_zero_iff.1 h1)
  obtain ⟨L, hLe⟩ : ∃ L, L = R.getD (R.length - 1) 0 := ⟨_, rfl⟩
  have hcl : CF W (fun _ => L) := by rw [hLe]; exact cR.comp fun _ => R.length - 1
  have hPB : PB (Abs.ev R) 200 W R := ⟨tR, fun x => rfl, lR, cR⟩
  obtain ⟨G, hG, cm⟩ := pl_monic hPB.pl h0 (by omega) (by omega)
  have cG : CF W (fun j => G.getD j 0) := (cR.div (R.length - 1) hL).congr fun j => by
   rw [ev_coef (P := G) (Q := lsc (R.getD (R.length - 1) 0)⁻¹ R) (fun x => by rw [hG.ev, qaw]) j, lsc_get]
  have isg : IsG A0 B0 G := isg_of hE hG.tr tR (fun h => absurd h h0) fun _ => hG.ev
  rw [<- hLe] at hL hG
  have hi := Rat.inv_mul_cancel L hL
  have hi0 : L⁻¹ ≠ 0 := fun h1 => by rw [h1, Rat.zero_mul] at hi; exact absurd hi (by decide)
  have hG0 : G ≠ [] := fun h1 => h0 (tr_nil tR fun x => by
   have := hG.ev x
   rw [h1] at this
   simp only [Abs.ev] at this
   rcases Rat.mul_eq_zero.1 this.symm with h2 | h2
   ·exact absurd h2 hi0
   ·exact h2)
  have hGe : G = lsc L⁻¹ R := qb1 hG.tr (lsc_trim hi0 tR) fun x => by rw [hG.ev, qaw]
  have hGl : G.length = R.length := by rw [hGe, lsc_len]
  have hPi : R[R.length - 1]? = some L := by rw [hLe, List.getD_eq_getElem?_getD, List.getElem?_eq_getElem (by omega)]; rfl
  obtain ⟨hq, ci⟩ := pinv_row hL (cf_qs hcl 0) (by omega)
  obtain ⟨U1, hU1, cU1⟩ := pb_scale (hcl.inv hL) (⟨tX, fun x => rfl, lX, cX⟩ : PB (Abs.ev X) 200 V X) (by omega) (by omega)
  have hXr := qa5 hPi
  obtain ⟨s1, t1, r1, p1, hrow, _⟩ := qrow L
  obtain ⟨s2, t2, r2, p2, hrow2, _⟩ := qrow L⁻¹
  rw [hrow, hrow2] at ci
  rw [hrow2] at cU1
  rw [hrow] at hXr
  have hGe2 : ∀ x, Abs.ev G x = Abs.ev U1 x * Abs.ev A0 x + L⁻¹ * Abs.ev v x * Abs.ev B0 x := fun x => by rw [hG.ev, hU1.ev, hv]; grind
  by_cases hB0 : B0 = []
  ·have hX1 : X = [1] := by
    rcases hE.inv with ⟨_, _, h2, _⟩ | ⟨h, _⟩
    ·exact h2
    ·exact absurd hB0 h
   have hU1e : U1 = [L⁻¹] := qb1 hU1.tr (by
    refine tlen_top (by simp) ?_
    simpa using hi0) fun x => by rw [hU1.ev, hX1]; simp only [Abs.ev]; grind
   refine ⟨G, U1, [], ⟨isg, hU1.tr, rfl, fun x => ?_, fun h => absurd h hG0, fun _ _ => ⟨by rw [hU1e]; rfl, rfl⟩, fun h => absurd hB0 h⟩, cG, hG.len, hU1.len, Nat.zero_le _, hU1.cf.mono (by omega), hz _, ?_⟩
   ·rw [hGe2, hB0]; simp only [Abs.ev]; grind
   ·have hBr : (ur B0).length = 0 := by rw [qac, hB0]; rfl
    generalize R.length = rl at *
    generalize ur A0 = XA at *
    generalize ur B0 = XB at *
    generalize ur X = XX at *
    generalize ur K0 = XK at *
    generalize ur R = XR at *
    generalize ur G = XG at *
    generalize ur U1 = XU at *
    rw [show ur ([] : List Rat) = [] from rfl]
    refine callZ ccOk mixed [.val, .val, .val] Tryz.func26 rfl rfl (by kernel_rfl) fun zA zB zC zD zE zF zG zH zI zJ zK zL zM zN zO zP zQ zR zS zT zU zV zX zY zZ za zb zc zd ze zg zh zi zj zk zl zm zn zo zq zr zs zt zu zw zx zy zz zth A L F hS hF => ?_
    have l1 : zM (zY (zh XR)) 0 = false := by rw [hS.eq, hS.ofN, hS.len, lRr]; exact decide_eq_false (by omega)
    obtain ⟨J, hJ, j1⟩ : ∃ J : Int, J = ((rl - 1 : Nat) : Int) /\ zA .i64 (zC (zY (zh XR)) 1) = J := ⟨(rl : Int) - 1, by omega, by rw [hS.ofN, hS.len, lRr, hS.sub, hS.wrap, wrap_i64 (by omega) (by omega)]⟩
    have g1 : zP 0 J = true := by rw [hS.le]; exact decide_eq_true (by omega)
    have hzz : zi XR (zV J) = some [.v (.bool s1), .lst false r1, .v (.bool t1), .lst false p1] := by rw [hS.nat, hJ, Int.toNat_natCast, hS.nth, hXr]
    have l2 : zM (zY (zh XB)) 0 = true := by rw [hS.eq, hS.ofN, hS.len, hBr]; rfl
    cbv
    refine ⟨_, hS.call (cu), ?_⟩
    cbv
    refine ⟨_, hS.call (cn), ?_⟩
    cbv
    refine ⟨_, hS.call (ce), ?_⟩
    cbv
    refine bF (l1) ?_
    refine ⟨_, hS.call (cm), ?_⟩
    cbv
    rw [j1, hzz]
    cbv
    refine nd (g1) ?_
    refine ⟨_, hS.call (ci), ?_⟩
    cbv
    refine ⟨_, hS.call (cU1), ?_⟩
    cbv
    refine bT (l2) ?_
    exact fin3w hF (TVLe.refl _) (TVLe.refl _) (TLe.drop _ _)
  ·have hGPB : PB (Abs.ev G) 200 W G := ⟨hG.tr, fun x => rfl, hG.len, cG⟩
   have hG1 : G.length ≠ 0 := fun h1 => hG0 (List.length_eq_zero_iff.1 h1)
   obtain ⟨Pd, R1, hPd, hR1, hlt1, he1, cd1⟩ := qb4 m hB hGPB hG0 (by omega) (by omega) (by omega) (by omega)
   have hR10 : R1 = [] := Dv.rest hPd.tr hR1.tr hG.tr hlt1 (fun x => by rw [hB.ev, he1]) isg.db
   have he1' : ∀ x, Abs.ev B0 x = Abs.ev Pd x * Abs.ev G x := fun x => by rw [hB.ev, he1, hR10]; simp only [Abs.ev]; grind
   have hPd0 : Pd ≠ [] := fun h1 => hB0 (tr_nil hB.tr fun x => by rw [he1', h1]; simp only [Abs.ev]; grind)
   have hPdl := tr_len hPd.tr hG.tr hB.tr he1' hPd0 hG0
   have hPd1 : Pd.length ≠ 0 := fun h1 => hPd0 (List.length_eq_zero_iff.1 h1)
   have hU1l := hU1.len
   obtain ⟨Q2, U2, hQ2, hU2, hlt2, he2, cd2⟩ := qb4 200 hU1 hPd hPd0 (by omega) (by omega) (by omega) (by omega)
   have hU2l := hU2.len
   obtain ⟨M, hM, cM⟩ := pb_mul 8 hU2 hA (by omega) (by omega) (by omega)
   obtain ⟨D, hD, cD⟩ := pb_sub hGPB hM (by omega) (by omega) (by omega)
   have hDl := hD.len
   have hB1 : B0.length ≠ 0 := fun h1 => hB0 (List.length_eq_zero_iff.1 h1)
   obtain ⟨K, R3, hK, hR3, hlt3, he3, cd3⟩ := qb4 400 hD hB hB0 (by omega) (by omega) (by omega) (by omega)
   have hdv : Dv B0 D := by
    obtain ⟨H, hH⟩ := isg.da
    refine ⟨ladd (lsc L⁻¹ v) (lmul Q2 H), fun x => ?_⟩
    rw [hD.ev, qa7, qaw, qbg]
    have a1 := hGe2 x
    have a2 := he2 x
    have a3 := hH x
    have a4 := he1' x
    have a5 := hA.ev x
    have a6 := hU1.ev x
    grind
   have hR30 : R3 = [] := Dv.rest hK.tr hR3.tr hB.tr hlt3 (fun x => by rw [hD.ev, he3, hB.ev]) hdv
   refine ⟨G, U2, K, ⟨isg, hU2.tr, hK.tr, fun x => ?_, fun h => absurd h hG0, fun _ h => absurd h hB0, fun _ => by omega⟩, cG, hG.len, by omega, by have := hK.len; omega, hU2.cf.mono (by omega), hK.cf.mono (by omega), ?_⟩
   ·have a1 := he3 x
    rw [hR30] at a1
    simp only [Abs.ev] at a1
    rw [hA.ev, hB.ev]
    grind
   ·clear hG hU1 hGPB hPd hR1 hQ2 hU2 hM hD hK hR3 hv he1 he1' he2 he3 hGe2 hGe hdv hI hE isg
    have hBr : (ur B0).length ≠ 0 := by rw [qac]; exact hB1
    generalize R.length = rl at *
    generalize ur A0 = XA at *
    generalize ur B0 = XB at *
    generalize ur X = XX at *
    generalize ur K0 = XK0 at *
    generalize ur R = XR at *
    generalize ur G = XG at *
    generalize ur U1 = XU at *
    generalize ur Pd = XPd at *
    generalize ur R1 = XR1 at *
    generalize ur Q2 = XQ2 at *
    generalize ur U2 = XU2 at *
    generalize ur M = XM at *
    generalize ur D = XD at *
    generalize ur K = XK at *
    generalize ur R3 = XR3 at *
    refine callZ ccOk mixed [.val, .val, .val] Tryz.func26 rfl rfl (by kernel_rfl) fun zA zB zC zD zE zF zG zH zI zJ zK zL zM zN zO zP zQ zR zS zT zU zV zX zY zZ za zb zc zd ze zg zh zi zj zk zl zm zn zo zq zr zs zt zu zw zx zy zz zth A L F hS hF => ?_
    have l1 : zM (zY (zh XR)) 0 = false := by rw [hS.eq, hS.ofN, hS.len, lRr]; exact decide_eq_false (by omega)
    obtain ⟨J, hJ, j1⟩ : ∃ J : Int, J = ((rl - 1 : Nat) : Int) /\ zA .i64 (zC (zY (zh XR)) 1) = J := ⟨(rl : Int) - 1, by omega, by rw [hS.ofN, hS.len, lRr, hS.sub, hS.wrap, wrap_i64 (by omega) (by omega)]⟩
    have g1 : zP 0 J = true := by rw [hS.le]; exact decide_eq_true (by omega)
    have hzz : zi XR (zV J) = some [.v (.bool s1), .lst false r1, .v (.bool t1), .lst false p1] := by rw [hS.nat, hJ, Int.toNat_natCast, hS.nth, hXr]
    have l2 : zM (zY (zh XB)) 0 = false := by rw [hS.eq, hS.ofN, hS.len]; exact decide_eq_false (by omega)
    cbv
    refine ⟨_, hS.call (cu), ?_⟩
    cbv
    refine ⟨_, hS.call (cn), ?_⟩
    cbv
    refine ⟨_, hS.call (ce), ?_⟩
    cbv
    refine bF (l1) ?_
    refine ⟨_, hS.call (cm), ?_⟩
    cbv
    rw [j1, hzz]
    cbv
    refine nd (g1) ?_
    refine ⟨_, hS.call (ci), ?_⟩
    cbv
    refine ⟨_, hS.call (cU1), ?_⟩
    cbv
    refine bF (l2) ?_
    refine ⟨_, hS.call (cd1), ?_⟩
    cbv
    refine ⟨_, hS.call (cd2), ?_⟩
    cbv
    refine ⟨_, hS.call (cM), ?_⟩
    cbv
    refine ⟨_, hS.call (cD), ?_⟩
    cbv
    refine ⟨_, hS.call (cd3), ?_⟩
    cbv
    exact hF _ (ResLe.refl _)
open Go Go.Abs Go.Abs.M Go.Proofs
theorem rures_zero (P B : List Rat) (h : P = [] ∨ B = []) : ACall Tryz.prog 47 [.val (tl (ur P)), .val (tl (ur B))] ⟨[.val (.agg (qc 0).row)], [none, none]⟩ := by
 have cw := qa4 0 (by omega) (by omega)
 rw [show ((0 : Int) : Rat) = 0 from rfl] at cw
 obtain ⟨s3, t3, r3, p3, hrow3, _⟩ := qrow 0
 rw [hrow3] at cw ⊢
 have lX := qac P
 have lY := qac B
 by_cases hP : P = []
 ·have h0 : P.length = 0 := by simp [hP]
  generalize P.length = m at *
  generalize ur P = X at *
  generalize ur B = Y at *
  refine callZ ccOk mixed [.val] Tryz.func47 rfl rfl (by kernel_rfl) fun zA zB zC zD zE zF zG zH zI zJ zK zL zM zN zO zP zQ zR zS zT zU zV zX zY zZ za zb zc zd ze zg zh zi zj zk zl zm zn zo zq zr zs zt zu zw zx zy zz zth A L F hS hF => ?_
  have e1 : zM (zY (zh X)) 0 = true := by rw [hS.eq, hS.ofN, hS.len, lX]; exact decide_eq_true (by omega)
  cbv
  refine bT (e1) ?_
  refine ⟨_, hS.call (cw), ?_⟩
  cbv
  exact hF _ (ResLe.refl _)
 ·have h0 : B.length = 0 := by simp [h.resolve_left hP]
  have h1 : P.length ≠ 0 := fun h1 => hP (List.length_eq_zero_iff.1 h1)
  generalize P.length = m at *
  generalize B.length = l at *
  generalize ur P = X at *
  generalize ur B = Y at *
  refine callZ ccOk mixed [.val] Tryz.func47 rfl rfl (by kernel_rfl) fun zA zB zC zD zE zF zG zH zI zJ zK zL zM zN zO zP zQ zR zS zT zU zV zX zY zZ za zb zc zd ze zg zh zi zj zk zl zm zn zo zq zr zs zt zu zw zx zy zz zth A L F hS hF => ?_
  have e1 : zM (zY (zh X)) 0 = false := by rw [hS.eq, hS.ofN, hS.len, lX]; exact decide_eq_false (by omega)
  have e2 : zM (zY (zh Y)) 0 = true := by rw [hS.eq, hS.ofN, hS.len, lY]; exact decide_eq_true (by omega)
  cbv
  refine bF (e1) ?_
  refine bT (e2) ?_
  refine ⟨_, hS.call (cw), ?_⟩
  cbv
  exact hF _ (ResLe.refl _)
theorem rures_call {W : Nat} (hW : W <= 1000000) : ∀ (l : Nat) (A B : List Rat) (v : Rat), B.length <= l -> l <= 90 -> RsI W A B -> Rs A B v -> A ≠ [] -> B ≠ [] ->
  ACall Tryz.prog 47 [.val (tl (ur A)), .val (tl (ur B))] ⟨[.val (.agg (qc v).row)], [none, none]⟩ := by
 obtain ⟨w, hw⟩ : ∃ w, w = W / 32 + 1 := ⟨_, rfl⟩
 intro l
 induction l with
 | zero => exact fun A B v hl _ h hr hA hB => absurd (List.length_eq_zero_iff.1 (by omega)) hB
 | succ l ih =>
  intro A0 B0 v hl hl9 h hr hA hB
  have hA1 : A0.length ≠ 0 := fun h1 => hA (List.length_eq_zero_iff.1 h1)
  have hB1 : B0.length ≠ 0 := fun h1 => hB (List.length_eq_zero_iff.1 h1)
  have hla := h.la
  have hlb := h.lb
  obtain ⟨Q, R, tQ, tR, hlt, heq, hI, hc, hRA, _, cm⟩ := rs_next h hB hW
  have lX := qac A0
  have lY := qac B0
  have lR := qac R
  have hmo : ∀ k, k <= 90 -> k * w <= 90 * w := fun k hk => Nat.mul_le_mul_right _ hk
  rcases Nat.lt_or_ge 1 B0.length with h2 | h2
  ·have cw1 := qa4 1 (by omega) (by omega)
   rw [show ((1 : Int) : Rat) = 1 from rfl] at cw1
   have cw0 := qa4 0 (by omega) (by omega)
   rw [show ((0 : Int) : Rat) = 0 from rfl] at cw0
   have cwm := qa4 (-1) (by omega) (by omega)
   rw [show ((-1 : Int) : Rat) = -1 from rfl] at cwm
   obtain ⟨b, hb⟩ : ∃ b, b = B0.getD (B0.length - 1) 0 := ⟨_, rfl⟩
   have cld := qby hB (by omega)
   rw [<- hb] at cld
   have hbs : Qs b w := by rw [hb, hw]; exact cf_qs hc _
   obtain ⟨K, hK⟩ : ∃ K, K = A0.length - R.length := ⟨_, rfl⟩
   obtain ⟨hps, cp⟩ := rupower_call b K w (by omega) hbs (by omega)
   have hKw := hmo K (by omega)
   have hlw : (l + 1) * (2 + 90 * w) <= 91 * (2 + 90 * w) := Nat.mul_le_mul_right _ (by omega)
   have hsh : A0.length < B0.length -> R = A0 /\ ∃ v2, Rs B0 A0 v2 /\ v = (if A0.length % 2 = 0 /\ B0.length % 2 = 0 then -1 else 1) * v2 := fun hlen => by
    have hRA0 := (qbt tQ tR (Q' := []) rfl h.ta h.tb hlt hlen fun x => by rw [<- heq]; simp only [Abs.ev]; grind).2
    rcases hr.inv hA h2 h.tb tR tQ hlt heq with ⟨e1, _⟩ | ⟨_, v2, e2, e3⟩
    ·exact absurd (hRA0 ▸ e1) hA
    ·rw [hRA0] at e2 e3
     refine ⟨hRA0, v2, e2, ?_⟩
     rw [e3, Nat.sub_self, Rat.pow_zero, Rat.one_mul]
   obtain ⟨la, hlae⟩ : ∃ n, n = A0.length := ⟨_, rfl⟩
   obtain ⟨lb, hlbe⟩ : ∃ n, n = B0.length := ⟨_, rfl⟩
   obtain ⟨lr, hlre⟩ : ∃ n, n = R.length := ⟨_, rfl⟩
   obtain ⟨sg, hsg⟩ : ∃ sg : Rat, sg = if A0.length % 2 = 0 /\ B0.length % 2 = 0 then -1 else 1 := ⟨_, rfl⟩
   rw [<- hsg] at hsh
   have hsgs : Qs sg 1 := by
    rw [hsg]
    split
    ·exact Qs.whole (n := -1) (by decide) (Nat.le_refl 1)
    ·exact Qs.whole (n := 1) (by decide) (Nat.le_refl 1)
   rw [<- hlae] at lX hA1 hla hRA hK
   rw [<- hlbe] at lY hB1 hlb h2 hlt
   rw [<- hlae, <- hlbe] at hsh hsg
   rw [<- hlre] at lR hRA hlt hK
   rcases Nat.lt_or_ge la lb with hlen | hlen
   ·obtain ⟨hR0, v2, hv2, hve⟩ := hsh hlen
    have hv2s := rs_size hW hw l B0 A0 v2 (by omega) (hR0 ▸ hI) hv2
    have cre := ih B0 A0 v2 (by omega) (by omega) (hR0 ▸ hI) hv2 hB hA
    obtain ⟨_, cmu⟩ := rqmul_row hsgs hv2s (by omega)
    rw [<- hve] at cmu
    obtain ⟨s3, t3, r3, p3, hrow3, _⟩ := qrow sg
    obtain ⟨s4, t4, r4, p4, hrow4, _⟩ := qrow v2
    obtain ⟨s5, t5, r5, p5, hrow5, _⟩ := qrow 1
    rw [hrow4] at cre
    rw [hrow3, hrow4] at cmu
    rw [hrow5] at cw1
    have cwm' : sg = -1 -> ACall Tryz.prog 22 [.val (ti .i64 (-1))] ⟨[.val (.agg [.v (.bool s3), .lst false r3, .v (.bool t3), .lst false p3])], [none]⟩ := fun h => by rw [<- hrow3, h]; exact cwm
    have hone : sg = 1 -> [Tree.v (.bool s5), .lst false r5, .v (.bool t5), .lst false p5] = [Tree.v (.bool s3), .lst false r3, .v (.bool t3), .lst false p3] := fun h => by rw [<- hrow5, <- hrow3, h]
    obtain ⟨T, hT⟩ : ∃ T, T = (qc v).row := ⟨_, rfl⟩
    obtain ⟨s6, t6, r6, p6, hrow6, _⟩ := qrow v
    rw [hrow6] at cmu ⊢
    clear hr hI h heq hc hv2 hve hv2s ih cp hps hsh hR0
    generalize ur A0 = X at *
    generalize ur B0 = Y at *
    generalize ur R = UR at *
    by_cases ha : la % 2 = 0
    ·by_cases hbb : lb % 2 = 0
     ·rw [if_pos ⟨ha, hbb⟩] at hsg
      have cwm2 := cwm' hsg
      clear cwm' hone hsg hsgs hrow3 hrow5 hT
      refine callZ ccOk mixed [.val] Tryz.func47 rfl rfl (by kernel_rfl) fun zA zB zC zD zE zF zG zH zI zJ zK zL zM zN zO zP zQ zR zS zT zU zV zX zY zZ za zb zc zd ze zg zh zi zj zk zl zm zn zo zq zr zs zt zu zw zx zy zz zth A L F hS hF => ?_
      have e1 : zM (zY (zh X)) 0 = false := by rw [hS.eq, hS.ofN, hS.len, lX]; exact decide_eq_false (by omega)
      have e2 : zM (zY (zh Y)) 0 = false := by rw [hS.eq, hS.ofN, hS.len, lY]; exact decide_eq_false (by omega)
      obtain ⟨J, hJ, j1⟩ : ∃ J : Int, J = ((lb - 1 : Nat) : Int) /\ zA .i64 (zC (zY (zh Y)) 1) = J := ⟨(lb : Int) - 1, by omega, by rw [hS.ofN, hS.len, lY, hS.sub, hS.wrap, wrap_i64 (by omega) (by omega)]⟩
      obtain ⟨Z, hZ, z1⟩ : ∃ J : Int, J = ((la - 1 : Nat) : Int) /\ zA .i64 (zC (zY (zh X)) 1) = J := ⟨(la : Int) - 1, by omega, by rw [hS.ofN, hS.len, lX, hS.sub, hS.wrap, wrap_i64 (by omega) (by omega)]⟩
      obtain ⟨M, hM, m1⟩ : ∃ J : Int, J = ((la - lr : Nat) : Int) /\ zA .i64 (zC (zA .i64 (zB Z 1)) (zY (zh UR))) = J := ⟨(la : Int) - lr, by omega, by rw [show zA .i64 (zB Z 1) = (la : Int) from by rw [hS.add, hS.wrap, wrap_i64 (by omega) (by omega)]; omega, hS.ofN, hS.len, lR, hS.sub, hS.wrap, wrap_i64 (by omega) (by omega)]⟩
      have e3 : zM J 0 = false := by rw [hS.eq]; exact decide_eq_false (by omega)
      have ea : zM (zF Z 2) 1 = decide (la % 2 = 0) := by
       rw [hS.eq, hS.rem, hZ]
       exact decide_eq_decide.2 (by rw [show ((la - 1 : Nat) : Int).tmod 2 = (((la - 1) % 2 : Nat) : Int) from rfl]; omega)
      have eb : zM (zF J 2) 1 = decide (lb % 2 = 0) := by
       rw [hS.eq, hS.rem, hJ]
       exact decide_eq_decide.2 (by rw [show ((lb - 1 : Nat) : Int).tmod 2 = (((lb - 1) % 2 : Nat) : Int) from rfl]; omega)
      rw [decide_eq_true ha] at ea; rw [decide_eq_true hbb] at eb
      have e4 : zO Z J = true := by rw [hS.lt]; exact decide_eq_true (by omega)
      cbv
      refine bF (e1) ?_
      refine bF (e2) ?_
      rw [j1]
      refine bF (e3) ?_
      refine ⟨_, hS.call (cw1), ?_⟩
      cbv
      rw [z1]
      refine bT (ea) ?_
      refine bT (eb) ?_
      refine ⟨_, hS.call (cwm2), ?_⟩
      cbv
      refine bT (e4) ?_
      refine ⟨_, hS.call (cre), ?_⟩
      cbv
      refine ⟨_, hS.call (cmu), ?_⟩
      cbv
      exact hF _ (ResLe.refl _)
     ·rw [if_neg fun h => hbb h.2] at hsg
      have ho := hone hsg
      rw [ho] at cw1
      clear cwm' hone hsg hsgs hrow3 hrow5 hT ho
      refine callZ ccOk mixed [.val] Tryz.func47 rfl rfl (by kernel_rfl) fun zA zB zC zD zE zF zG zH zI zJ zK zL zM zN zO zP zQ zR zS zT zU zV zX zY zZ za zb zc zd ze zg zh zi zj zk zl zm zn zo zq zr zs zt zu zw zx zy zz zth A L F hS hF => ?_
      have e1 : zM (zY (zh X)) 0 = false := by rw [hS.eq, hS.ofN, hS.len, lX]; exact decide_eq_false (by omega)
      have e2 : zM (zY (zh Y)) 0 = false := by rw [hS.eq, hS.ofN, hS.len, lY]; exact decide_eq_false (by omega)
      obtain ⟨J, hJ, j1⟩ : ∃ J : Int, J = ((lb - 1 : Nat) : Int) /\ zA .i64 (zC (zY (zh Y)) 1) = J := ⟨(lb : Int) - 1, by omega, by rw [hS.ofN, hS.len, lY, hS.sub, hS.wrap, wrap_i64 (by omega) (by omega)]⟩
      obtain ⟨Z, hZ, z1⟩ : ∃ J : Int, J = ((la - 1 : Nat) : Int) /\ zA .i64 (zC (zY (zh X)) 1) = J := ⟨(la : Int) - 1, by omega, by rw [hS.ofN, hS.len, lX, hS.sub, hS.wrap, wrap_i64 (by omega) (by omega)]⟩
      obtain ⟨M, hM, m1⟩ : ∃ J : Int, J = ((la - lr : Nat) : Int) /\ zA .i64 (zC (zA .i64 (zB Z 1)) (zY (zh UR))) = J := ⟨(la : Int) - lr, by omega, by rw [show zA .i64 (zB Z 1) = (la : Int) from by rw [hS.add, hS.wrap, wrap_i64 (by omega) (by omega)]; omega, hS.ofN, hS.len, lR, hS.sub, hS.wrap, wrap_i64 (by omega) (by omega)]⟩
      have e3 : zM J 0 = false := by rw [hS.eq]; exact decide_eq_false (by omega)
      have ea : zM (zF Z 2) 1 = decide (la % 2 = 0) := by
       rw [hS.eq, hS.rem, hZ]
       exact decide_eq_decide.2 (by rw [show ((la - 1 : Nat) : Int).tmod 2 = (((la - 1) % 2 : Nat) : Int) from rfl]; omega)
      have eb : zM (zF J 2) 1 = decide (lb % 2 = 0) := by
       rw [hS.eq, hS.rem, hJ]
       exact decide_eq_decide.2 (by rw [show ((lb - 1 : Nat) : Int).tmod 2 = (((lb - 1) % 2 : Nat) : Int) from rfl]; omega)
      rw [decide_eq_true ha] at ea; rw [decide_eq_false hbb] at eb
      have e4 : zO Z J = true := by rw [hS.lt]; exact decide_eq_true (by omega)
      cbv
      refine bF (e1) ?_
      refine bF (e2) ?_
      rw [j1]
      refine bF (e3) ?_
      refine ⟨_, hS.call (cw1), ?_⟩
      cbv
      rw [z1]
      refine bT (ea) ?_
      refine bF (eb) ?_
      refine bT (e4) ?_
      refine ⟨_, hS.call (cre), ?_⟩
      cbv
      refine ⟨_, hS.call (cmu), ?_⟩
      cbv
      exact hF _ (ResLe.refl _)
    ·rw [if_neg fun h => ha h.1] at hsg
     have ho := hone hsg
     rw [ho] at cw1
     clear cwm' hone hsg hsgs hrow3 hrow5 hT ho
     refine callZ ccOk mixed [.val] Tryz.func47 rfl rfl (by kernel_rfl) fun zA zB zC zD zE zF zG zH zI zJ zK zL zM zN zO zP zQ zR zS zT zU zV zX zY zZ za zb zc zd ze zg zh zi zj zk zl zm zn zo zq zr zs zt zu zw zx zy zz zth A L F hS hF => ?_
     have e1 : zM (zY (zh X)) 0 = false := by rw [hS.eq, hS.ofN, hS.len, lX]; exact decide_eq_false (by omega)
     have e2 : zM (zY (zh Y)) 0 = false := by rw [hS.eq, hS.ofN, hS.len, lY]; exact decide_eq_false (by omega)
     obtain ⟨J, hJ, j1⟩ : ∃ J : Int, J = ((lb - 1 : Nat) : Int) /\ zA .i64 (zC (zY (zh Y)) 1) = J := ⟨(lb : Int) - 1, by omega, by rw [hS.ofN, hS.len, lY, hS.sub, hS.wrap, wrap_i64 (by omega) (by omega)]⟩
     obtain ⟨Z, hZ, z1⟩ : ∃ J : Int, J = ((la - 1 : Nat) : Int) /\ zA .i64 (zC (zY (zh X)) 1) = J := ⟨(la : Int) - 1, by omega, by rw [hS.ofN, hS.len, lX, hS.sub, hS.wrap, wrap_i64 (by omega) (by omega)]⟩
     obtain ⟨M, hM, m1⟩ : ∃ J : Int, J = ((la - lr : Nat) : Int) /\ zA .i64 (zC (zA .i64 (zB Z 1)) (zY (zh UR))) = J := ⟨(la : Int) - lr, by omega, by rw [show zA .i64 (zB Z 1) = (la : Int) from by rw [hS.add, hS.wrap, wrap_i64 (by omega) (by omega)]; omega, hS.ofN, hS.len, lR, hS.sub, hS.wrap, wrap_i64 (by omega) (by omega)]⟩
     have e3 : zM J 0 = false := by rw [hS.eq]; exact decide_eq_false (by omega)
     have ea : zM (zF Z 2) 1 = decide (la % 2 = 0) := by
      rw [hS.eq, hS.rem, hZ]
      exact decide_eq_decide.2 (by rw [show ((la - 1 : Nat) : Int).tmod 2 = (((la - 1) % 2 : Nat) : Int) from rfl]; omega)
     have eb : zM (zF J 2) 1 = decide (lb % 2 = 0) := by
      rw [hS.eq, hS.rem, hJ]
      exact decide_eq_decide.2 (by rw [show ((lb - 1 : Nat) : Int).tmod 2 = (((lb - 1) % 2 : Nat) : Int) from rfl]; omega)
     rw [decide_eq_false ha] at ea
     have e4 : zO Z J = true := by rw [hS.lt]; exact decide_eq_true (by omega)
     cbv
     refine bF (e1) ?_
     refine bF (e2) ?_
     rw [j1]
     refine bF (e3) ?_
     refine ⟨_, hS.call (cw1), ?_⟩
     cbv
     rw [z1]
     refine bF (ea) ?_
     refine bT (e4) ?_
     refine ⟨_, hS.call (cre), ?_⟩
     cbv
     refine ⟨_, hS.call (cmu), ?_⟩
     cbv
     exact hF _ (ResLe.refl _)
   ·have hinv := hr.inv hA (by omega) h.tb tR tQ (by omega) heq
    by_cases hR0 : R = []
    ·have hv0 : v = 0 := by
      rcases hinv with ⟨_, h0⟩ | ⟨h0, _⟩
      ·exact h0
      ·exact absurd hR0 h0
     have hlr0 : lr = 0 := by rw [hlre, hR0]; rfl
     obtain ⟨s5, t5, r5, p5, hrow5, _⟩ := qrow 1
     obtain ⟨s3, t3, r3, p3, hrow3, _⟩ := qrow (-1)
     obtain ⟨s4, t4, r4, p4, hrow4, _⟩ := qrow 0
     rw [hv0, hrow4]
     rw [hrow5] at cw1
     rw [hrow3] at cwm
     rw [hrow4] at cw0
     clear hr hI h heq hc ih cp hps hsh hinv hsg hsgs
     generalize ur A0 = X at *
     generalize ur B0 = Y at *
     generalize ur R = UR at *
     by_cases ha : la % 2 = 0
     ·by_cases hbb : lb % 2 = 0
      ·refine callZ ccOk mixed [.val] Tryz.func47 rfl rfl (by kernel_rfl) fun zA zB zC zD zE zF zG zH zI zJ zK zL zM zN zO zP zQ zR zS zT zU zV zX zY zZ za zb zc zd ze zg zh zi zj zk zl zm zn zo zq zr zs zt zu zw zx zy zz zth A L F hS hF => ?_
       have e1 : zM (zY (zh X)) 0 = false := by rw [hS.eq, hS.ofN, hS.len, lX]; exact decide_eq_false (by omega)
       have e2 : zM (zY (zh Y)) 0 = false := by rw [hS.eq, hS.ofN, hS.len, lY]; exact decide_eq_false (by omega)
       obtain ⟨J, hJ, j1⟩ : ∃ J : Int, J = ((lb - 1 : Nat) : Int) /\ zA .i64 (zC (zY (zh Y)) 1) = J := ⟨(lb : Int) - 1, by omega, by rw [hS.ofN, hS.len, lY, hS.sub, hS.wrap, wrap_i64 (by omega) (by omega)]⟩
       obtain ⟨Z, hZ, z1⟩ : ∃ J : Int, J = ((la - 1 : Nat) : Int) /\ zA .i64 (zC (zY (zh X)) 1) = J := ⟨(la : Int) - 1, by omega, by rw [hS.ofN, hS.len, lX, hS.sub, hS.wrap, wrap_i64 (by omega) (by omega)]⟩
       obtain ⟨M, hM, m1⟩ : ∃ J : Int, J = ((la - lr : Nat) : Int) /\ zA .i64 (zC (zA .i64 (zB Z 1)) (zY (zh UR))) = J := ⟨(la : Int) - lr, by omega, by rw [show zA .i64 (zB Z 1) = (la : Int) from by rw [hS.add, hS.wrap, wrap_i64 (by omega) (by omega)]; omega, hS.ofN, hS.len, lR, hS.sub, hS.wrap, wrap_i64 (by omega) (by omega)]⟩
       have e3 : zM J 0 = false := by rw [hS.eq]; exact decide_eq_false (by omega)
       have ea : zM (zF Z 2) 1 = decide (la % 2 = 0) := by
        rw [hS.eq, hS.rem, hZ]
        exact decide_eq_decide.2 (by rw [show ((la - 1 : Nat) : Int).tmod 2 = (((la - 1) % 2 : Nat) : Int) from rfl]; omega)
       have eb : zM (zF J 2) 1 = decide (lb % 2 = 0) := by
        rw [hS.eq, hS.rem, hJ]
        exact decide_eq_decide.2 (by rw [show ((lb - 1 : Nat) : Int).tmod 2 = (((lb - 1) % 2 : Nat) : Int) from rfl]; omega)
       rw [decide_eq_true ha] at ea; rw [decide_eq_true hbb] at eb
       have e4 : zO Z J = false := by rw [hS.lt]; exact decide_eq_false (by omega)
       have e5 : zM (zY (zh UR)) 0 = true := by rw [hS.eq, hS.ofN, hS.len, lR]; exact decide_eq_true (by omega)
       cbv
       refine bF (e1) ?_
       refine bF (e2) ?_
       rw [j1]
       refine bF (e3) ?_
       refine ⟨_, hS.call (cw1), ?_⟩
       cbv
       rw [z1]
       refine bT (ea) ?_
       refine bT (eb) ?_
       refine ⟨_, hS.call (cwm), ?_⟩
       cbv
       refine bF (e4) ?_
       refine ⟨_, hS.call (cm), ?_⟩
       cbv
       refine bT (e5) ?_
       refine ⟨_, hS.call (cw0), ?_⟩
       cbv
       exact hF _ (ResLe.refl _)
      ·refine callZ ccOk mixed [.val] Tryz.func47 rfl rfl (by kernel_rfl) fun zA zB zC zD zE zF zG zH zI zJ zK zL zM zN zO zP zQ zR zS zT zU zV zX zY zZ za zb zc zd ze zg zh zi zj zk zl zm zn zo zq zr zs zt zu zw zx zy zz zth A L F hS hF => ?_
       have e1 : zM (zY (zh X)) 0 = false := by rw [hS.eq, hS.ofN, hS.len, lX]; exact decide_eq_false (by omega)
       have e2 : zM (zY (zh Y)) 0 = false := by rw [hS.eq, hS.ofN, hS.len, lY]; exact decide_eq_false (by omega)
       obtain ⟨J, hJ, j1⟩ : ∃ J : Int, J = ((lb - 1 : Nat) : Int) /\ zA .i64 (zC (zY (zh Y)) 1) = J := ⟨(lb : Int) - 1, by omega, by rw [hS.ofN, hS.len, lY, hS.sub, hS.wrap, wrap_i64 (by omega) (by omega)]⟩
       obtain ⟨Z, hZ, z1⟩ : ∃ J : Int, J = ((la - 1 : Nat) : Int) /\ zA .i64 (zC (zY (zh X)) 1) = J := ⟨(la : Int) - 1, by omega, by rw [hS.ofN, hS.len, lX, hS.sub, hS.wrap, wrap_i64 (by omega) (by omega)]⟩
       obtain ⟨M, hM, m1⟩ : ∃ J : Int, J = ((la - lr : Nat) : Int) /\ zA .i64 (zC (zA .i64 (zB Z 1)) (zY (zh UR))) = J := ⟨(la : Int) - lr, by omega, by rw [show zA .i64 (zB Z 1) = (la : Int) from by rw [hS.add, hS.wrap, wrap_i64 (by omega) (by omega)]; omega, hS.ofN, hS.len, lR, hS.sub, hS.wrap, wrap_i64 (by omega) (by omega)]⟩
       have e3 : zM J 0 = false := by rw [hS.eq]; exact decide_eq_false (by omega)
       have ea : zM (zF Z 2) 1 = decide (la % 2 = 0) := by
        rw [hS.eq, hS.rem, hZ]
        exact decide_eq_decide.2 (by rw [show ((la - 1 : Nat) : Int).tmod 2 = (((la - 1) % 2 : Nat) : Int) from rfl]; omega)
       have eb : zM (zF J 2) 1 = decide (lb % 2 = 0) := by
        rw [hS.eq, hS.rem, hJ]
        exact decide_eq_decide.2 (by rw [show ((lb - 1 : Nat) : Int).tmod 2 = (((lb - 1) % 2 : Nat) : Int) from rfl]; omega)
       rw [decide_eq_true ha] at ea; rw [decide_eq_false hbb] at eb
       have e4 : zO Z J = false := by rw [hS.lt]; exact decide_eq_false (by omega)
       have e5 : zM (zY (zh UR)) 0 = true := by rw [hS.eq, hS.ofN, hS.len, lR]; exact decide_eq_true (by omega)
       cbv
       refine bF (e1) ?_
       refine bF (e2) ?_
       rw [j1]
       refine bF (e3) ?_
       refine ⟨_, hS.call (cw1), ?_⟩
       cbv
       rw [z1]
       refine bT (ea) ?_
       refine bF (eb) ?_
       refine bF (e4) ?_
       refine ⟨_, hS.call (cm), ?_⟩
       cbv
       refine bT (e5) ?_
       refine ⟨_, hS.call (cw0), ?_⟩
       cbv
       exact hF _ (ResLe.refl _)
     ·refine callZ ccOk mixed [.val] Tryz.func47 rfl rfl (by kernel_rfl) fun zA zB zC zD zE zF zG zH zI zJ zK zL zM zN zO zP zQ zR zS zT zU zV zX zY zZ za zb zc zd ze zg zh zi zj zk zl zm zn zo zq zr zs zt zu zw zx zy zz zth A L F hS hF => ?_
      have e1 : zM (zY (zh X)) 0 = false := by rw [hS.eq, hS.ofN, hS.len, lX]; exact decide_eq_false (by omega)
      have e2 : zM (zY (zh Y)) 0 = false := by rw [hS.eq, hS.ofN, hS.len, lY]; exact decide_eq_false (by omega)
      obtain ⟨J, hJ, j1⟩ : ∃ J : Int, J = ((lb - 1 : Nat) : Int) /\ zA .i64 (zC (zY (zh Y)) 1) = J := ⟨(lb : Int) - 1, by omega, by rw [hS.ofN, hS.len, lY, hS.sub, hS.wrap, wrap_i64 (by omega) (by omega)]⟩
      obtain ⟨Z, hZ, z1⟩ : ∃ J : Int, J = ((la - 1 : Nat) : Int) /\ zA .i64 (zC (zY (zh X)) 1) = J := ⟨(la : Int) - 1, by omega, by rw [hS.ofN, hS.len, lX, hS.sub, hS.wrap, wrap_i64 (by omega) (by omega)]⟩
      obtain ⟨M, hM, m1⟩ : ∃ J : Int, J = ((la - lr : Nat) : Int) /\ zA .i64 (zC (zA .i64 (zB Z 1)) (zY (zh UR))) = J := ⟨(la : Int) - lr, by omega, by rw [show zA .i64 (zB Z 1) = (la : Int) from by rw [hS.add, hS.wrap, wrap_i64 (by omega) (by omega)]; omega, hS.ofN, hS.len, lR, hS.sub, hS.wrap, wrap_i64 (by omega) (by omega)]⟩
      have e3 : zM J 0 = false := by rw [hS.eq]; exact decide_eq_false (by omega)
      have ea : zM (zF Z 2) 1 = decide (la % 2 = 0) := by
       rw [hS.eq, hS.rem, hZ]
       exact decide_eq_decide.2 (by rw [show ((la - 1 : Nat) : Int).tmod 2 = (((la - 1) % 2 : Nat) : Int) from rfl]; omega)
      have eb : zM (zF J 2) 1 = decide (lb % 2 = 0) := by
       rw [hS.eq, hS.rem, hJ]
       exact decide_eq_decide.2 (by rw [show ((lb - 1 : Nat) : Int).tmod 2 = (((lb - 1) % 2 : Nat) : Int) from rfl]; omega)
      rw [decide_eq_false ha] at ea
      have e4 : zO Z J = false := by rw [hS.lt]; exact decide_eq_false (by omega)
      have e5 : zM (zY (zh UR)) 0 = true := by rw [hS.eq, hS.ofN, hS.len, lR]; exact decide_eq_true (by omega)
      cbv
      refine bF (e1) ?_
      refine bF (e2) ?_
      rw [j1]
      refine bF (e3) ?_
      refine ⟨_, hS.call (cw1), ?_⟩
      cbv
      rw [z1]
      refine bF (ea) ?_
      refine bF (e4) ?_
      refine ⟨_, hS.call (cm), ?_⟩
      cbv
      refine bT (e5) ?_
      refine ⟨_, hS.call (cw0), ?_⟩
      cbv
      exact hF _ (ResLe.refl _)
    ·obtain ⟨v2, hv2, hve⟩ : ∃ v2, Rs B0 R v2 /\ v = sg * b ^ K * v2 := by
      rcases hinv with ⟨h0, _⟩ | ⟨_, v2, h3, h4⟩
      ·exact absurd h0 hR0
      ·refine ⟨v2, h3, ?_⟩
       rw [<- hlae, <- hlbe] at h4
       rw [<- hlre, <- hsg, <- hK] at h4
       rw [h4, hb, hlbe]; grind
     have hlr0 : lr ≠ 0 := fun h0 => hR0 (List.length_eq_zero_iff.1 (by omega))
     have hv2s := rs_size hW hw l B0 R v2 (by omega) hI hv2
     have cre := ih B0 R v2 (by omega) (by omega) hI hv2 hB hR0
     obtain ⟨hq1, cm1⟩ := rqmul_row hsgs hps (by omega)
     obtain ⟨_, cm2⟩ := rqmul_row hq1 hv2s (by omega)
     rw [<- hve] at cm2
     obtain ⟨s3, t3, r3, p3, hrow3, _⟩ := qrow sg
     obtain ⟨s4, t4, r4, p4, hrow4, _⟩ := qrow v2
     obtain ⟨s5, t5, r5, p5, hrow5, _⟩ := qrow 1
     obtain ⟨s6, t6, r6, p6, hrow6, _⟩ := qrow v
     obtain ⟨s7, t7, r7, p7, hrow7, _⟩ := qrow (b ^ K)
     obtain ⟨s8, t8, r8, p8, hrow8, _⟩ := qrow (sg * b ^ K)
     obtain ⟨s9, t9, r9, p9, hrow9, _⟩ := qrow b
     rw [hrow9] at cld
     rw [hrow9, hrow7] at cp
     rw [hrow3, hrow7, hrow8] at cm1
     rw [hrow8, hrow4, hrow6] at cm2
     rw [hrow4] at cre
     rw [hrow5] at cw1
     rw [hrow6]
     rw [hK] at cp
     have cwm' : sg = -1 -> ACall Tryz.prog 22 [.val (ti .i64 (-1))] ⟨[.val (.agg [.v (.bool s3), .lst false r3, .v (.bool t3), .lst false p3])], [none]⟩ := fun h => by rw [<- hrow3, h]; exact cwm
     have hone : sg = 1 -> [Tree.v (.bool s5), .lst false r5, .v (.bool t5), .lst false p5] = [Tree.v (.bool s3), .lst false r3, .v (.bool t3), .lst false p3] := fun h => by rw [<- hrow5, <- hrow3, h]
     clear hr hI h heq hc hv2 hve hv2s ih hps hsh hinv hq1
     generalize ur A0 = X at *
     generalize ur B0 = Y at *
     generalize ur R = UR at *
     by_cases ha : la % 2 = 0
     ·by_cases hbb : lb % 2 = 0
      ·rw [if_pos ⟨ha, hbb⟩] at hsg
       have cwm2 := cwm' hsg
       clear cwm' hone hsg hsgs hrow3 hrow5
       refine callZ ccOk mixed [.val] Tryz.func47 rfl rfl (by kernel_rfl) fun zA zB zC zD zE zF zG zH zI zJ zK zL zM zN zO zP zQ zR zS zT zU zV zX zY zZ za zb zc zd ze zg zh zi zj zk zl zm zn zo zq zr zs zt zu zw zx zy zz zth A L F hS hF => ?_
       have e1 : zM (zY (zh X)) 0 = false := by rw [hS.eq, hS.ofN, hS.len, lX]; exact decide_eq_false (by omega)
       have e2 : zM (zY (zh Y)) 0 = false := by rw [hS.eq, hS.ofN, hS.len, lY]; exact decide_eq_false (by omega)
       obtain ⟨J, hJ, j1⟩ : ∃ J : Int, J = ((lb - 1 : Nat) : Int) /\ zA .i64 (zC (zY (zh Y)) 1) = J := ⟨(lb : Int) - 1, by omega, by rw [hS.ofN, hS.len, lY, hS.sub, hS.wrap, wrap_i64 (by omega) (by omega)]⟩
       obtain ⟨Z, hZ, z1⟩ : ∃ J : Int, J = ((la - 1 : Nat) : Int) /\ zA .i64 (zC (zY (zh X)) 1) = J := ⟨(la : Int) - 1, by omega, by rw [hS.ofN, hS.len, lX, hS.sub, hS.wrap, wrap_i64 (by omega) (by omega)]⟩
       obtain ⟨M, hM, m1⟩ : ∃ J : Int, J = ((la - lr : Nat) : Int) /\ zA .i64 (zC (zA .i64 (zB Z 1)) (zY (zh UR))) = J := ⟨(la : Int) - lr, by omega, by rw [show zA .i64 (zB Z 1) = (la : Int) from by rw [hS.add, hS.wrap, wrap_i64 (by omega) (by omega)]; omega, hS.ofN, hS.len, lR, hS.sub, hS.wrap, wrap_i64 (by omega) (by omega)]⟩
       have e3 : zM J 0 = false := by rw [hS.eq]; exact decide_eq_false (by omega)
       have ea : zM (zF Z 2) 1 = decide (la % 2 = 0) := by
        rw [hS.eq, hS.rem, hZ]
        exact decide_eq_decide.2 (by rw [show ((la - 1 : Nat) : Int).tmod 2 = (((la - 1) % 2 : Nat) : Int) from rfl]; omega)
       have eb : zM (zF J 2) 1 = decide (lb % 2 = 0) := by
        rw [hS.eq, hS.rem, hJ]
        exact decide_eq_decide.2 (by rw [show ((lb - 1 : Nat) : Int).tmod 2 = (((lb - 1) % 2 : Nat) : Int) from rfl]; omega)
       rw [decide_eq_true ha] at ea; rw [decide_eq_true hbb] at eb
       have e4 : zO Z J = false := by rw [hS.lt]; exact decide_eq_false (by omega)
       have e5 : zM (zY (zh UR)) 0 = false := by rw [hS.eq, hS.ofN, hS.len, lR]; exact decide_eq_false (by omega)
       rw [<- hM] at cp
       cbv
       refine bF (e1) ?_
       refine bF (e2) ?_
       rw [j1]
       refine bF (e3) ?_
       refine ⟨_, hS.call (cw1), ?_⟩
       cbv
       rw [z1]
       refine bT (ea) ?_
       refine bT (eb) ?_
       refine ⟨_, hS.call (cwm2), ?_⟩
       cbv
       refine bF (e4) ?_
       refine ⟨_, hS.call (cm), ?_⟩
       cbv
       refine bF (e5) ?_
       refine ⟨_, hS.call (cld), ?_⟩
       cbv
       rw [m1]
       refine ⟨_, hS.call (cp), ?_⟩
       cbv
       refine ⟨_, hS.call (cm1), ?_⟩
       cbv
       refine ⟨_, hS.call (cre), ?_⟩
       cbv
       refine ⟨_, hS.call (cm2), ?_⟩
       cbv
       exact hF _ (ResLe.refl _)
      ·rw [if_neg fun h => hbb h.2] at hsg
       have ho := hone hsg
       rw [ho] at cw1
       clear cwm' hone hsg hsgs hrow3 hrow5 ho
       refine callZ ccOk mixed [.val] Tryz.func47 rfl rfl (by kernel_rfl) fun zA zB zC zD zE zF zG zH zI zJ zK zL zM zN zO zP zQ zR zS zT zU zV zX zY zZ za zb zc zd ze zg zh zi zj zk zl zm zn zo zq zr zs zt zu zw zx zy zz zth A L F hS hF => ?_
       have e1 : zM (zY (zh X)) 0 = false := by rw [hS.eq, hS.ofN, hS.len, lX]; exact decide_eq_false (by omega)
       have e2 : zM (zY (zh Y)) 0 = false := by rw [hS.eq, hS.ofN, hS.len, lY]; exact decide_eq_false (by omega)
       obtain ⟨J, hJ, j1⟩ : ∃ J : Int, J = ((lb - 1 : Nat) : Int) /\ zA .i64 (zC (zY (zh Y)) 1) = J := ⟨(lb : Int) - 1, by omega, by rw [hS.ofN, hS.len, lY, hS.sub, hS.wrap, wrap_i64 (by omega) (by omega)]⟩
       obtain ⟨Z, hZ, z1⟩ : ∃ J : Int, J = ((la - 1 : Nat) : Int) /\ zA .i64 (zC (zY (zh X)) 1) = J := ⟨(la : Int) - 1, by omega, by rw [hS.ofN, hS.len, lX, hS.sub, hS.wrap, wrap_i64 (by omega) (by omega)]⟩
       obtain ⟨M, hM, m1⟩ : ∃ J : Int, J = ((la - lr : Nat) : Int) /\ zA .i64 (zC (zA .i64 (zB Z 1)) (zY (zh UR))) = J := ⟨(la : Int) - lr, by omega, by rw [show zA .i64 (zB Z 1) = (la : Int) from by rw [hS.add, hS.wrap, wrap_i64 (by omega) (by omega)]; omega, hS.ofN, hS.len, lR, hS.sub, hS.wrap, wrap_i64 (by omega) (by omega)]⟩
       have e3 : zM J 0 = false := by rw [hS.eq]; exact decide_eq_false (by omega)
       have ea : zM (zF Z 2) 1 = decide (la % 2 = 0) := by
        rw [hS.eq, hS.rem, hZ]
        exact decide_eq_decide.2 (by rw [show ((la - 1 : Nat) : Int).tmod 2 = (((la - 1) % 2 : Nat) : Int) from rfl]; omega)
       have eb : zM (zF J 2) 1 = decide (lb % 2 = 0) := by
        rw [hS.eq, hS.rem, hJ]
        exact decide_eq_decide.2 (by rw [show ((lb - 1 : Nat) : Int).tmod 2 = (((lb - 1) % 2 : Nat) : Int) from rfl]; omega)
       rw [decide_eq_true ha] at ea; rw [decide_eq_false hbb] at eb
       have e4 : zO Z J = false := by rw [hS.lt]; exact decide_eq_false (by omega)
       have e5 : zM (zY (zh UR)) 0 = false := by rw [hS.eq, hS.ofN, hS.len, lR]; exact decide_eq_false (by omega)
       rw [<- hM] at cp
       cbv
       refine bF (e1) ?_
       refine bF (e2) ?_
       rw [j1]
       refine bF (e3) ?_
       refine ⟨_, hS.call (cw1), ?_⟩
       cbv
       rw [z1]
       refine bT (ea) ?_
       refine bF (eb) ?_
       refine bF (e4) ?_
       refine ⟨_, hS.call (cm), ?_⟩
       cbv
       refine bF (e5) ?_
       refine ⟨_, hS.call (cld), ?_⟩
       cbv
       rw [m1]
       refine ⟨_, hS.call (cp), ?_⟩
       cbv
       refine ⟨_, hS.call (cm1), ?_⟩
       cbv
       refine ⟨_, hS.call (cre), ?_⟩
       cbv
       refine ⟨_, hS.call (cm2), ?_⟩
       cbv
       exact hF _ (ResLe.refl _)
     ·rw [if_neg fun h => ha h.1] at hsg
      have ho := hone hsg
      rw [ho] at cw1
      clear cwm' hone hsg hsgs hrow3 hrow5 ho
      refine callZ ccOk mixed [.val] Tryz.func47 rfl rfl (by kernel_rfl) fun zA zB zC zD zE zF zG zH zI zJ zK zL zM zN zO zP zQ zR zS zT zU zV zX zY zZ za zb zc zd ze zg zh zi zj zk zl zm zn zo zq zr zs zt zu zw zx zy zz zth A L F hS hF => ?_
      have e1 : zM (zY (zh X)) 0 = false := by rw [hS.eq, hS.ofN, hS.len, lX]; exact decide_eq_false (by omega)
      have e2 : zM (zY (zh Y)) 0 = false := by rw [hS.eq, hS.ofN, hS.len, lY]; exact decide_eq_false (by omega)
      obtain ⟨J, hJ, j1⟩ : ∃ J : Int, J = ((lb - 1 : Nat) : Int) /\ zA .i64 (zC (zY (zh Y)) 1) = J := ⟨(lb : Int) - 1, by omega, by rw [hS.ofN, hS.len, lY, hS.sub, hS.wrap, wrap_i64 (by omega) (by omega)]⟩
      obtain ⟨Z, hZ, z1⟩ : ∃ J : Int, J = ((la - 1 : Nat) : Int) /\ zA .i64 (zC (zY (zh X)) 1) = J := ⟨(la : Int) - 1, by omega, by rw [hS.ofN, hS.len, lX, hS.sub, hS.wrap, wrap_i64 (by omega) (by omega)]⟩
      obtain ⟨M, hM, m1⟩ : ∃ J : Int, J = ((la - lr : Nat) : Int) /\ zA .i64 (zC (zA .i64 (zB Z 1)) (zY (zh UR))) = J := ⟨(la : Int) - lr, by omega, by rw [show zA .i64 (zB Z 1) = (la : Int) from by rw [hS.add, hS.wrap, wrap_i64 (by omega) (by omega)]; omega, hS.ofN, hS.len, lR, hS.sub, hS.wrap, wrap_i64 (by omega) (by omega)]⟩
      have e3 : zM J 0 = false := by rw [hS.eq]; exact decide_eq_false (by omega)
      have ea : zM (zF Z 2) 1 = decide (la % 2 = 0) := by
       rw [hS.eq, hS.rem, hZ]
       exact decide_eq_decide.2 (by rw [show ((la - 1 : Nat) : Int).tmod 2 = (((la - 1) % 2 : Nat) : Int) from rfl]; omega)
      have eb : zM (zF J 2) 1 = decide (lb % 2 = 0) := by
       rw [hS.eq, hS.rem, hJ]
       exact decide_eq_decide.2 (by rw [show ((lb - 1 : Nat) : Int).tmod 2 = (((lb - 1) % 2 : Nat) : Int) from rfl]; omega)
      rw [decide_eq_false ha] at ea
      have e4 : zO Z J = false := by rw [hS.lt]; exact decide_eq_false (by omega)
      have e5 : zM (zY (zh UR)) 0 = false := by rw [hS.eq, hS.ofN, hS.len, lR]; exact decide_eq_false (by omega)
      rw [<- hM] at cp
      cbv
      refine bF (e1) ?_
      refine bF (e2) ?_
      rw [j1]
      refine bF (e3) ?_
      refine ⟨_, hS.call (cw1), ?_⟩
      cbv
      rw [z1]
      refine bF (ea) ?_
      refine bF (e4) ?_
      refine ⟨_, hS.call (cm), ?_⟩
      cbv
      refine bF (e5) ?_
      refine ⟨_, hS.call (cld), ?_⟩
      cbv
      rw [m1]
      refine ⟨_, hS.call (cp), ?_⟩
      cbv
      refine ⟨_, hS.call (cm1), ?_⟩
      cbv
      refine ⟨_, hS.call (cre), ?_⟩
      cbv
      refine ⟨_, hS.call (cm2), ?_⟩
      cbv
      exact hF _ (ResLe.refl _)
  ·
   have hone : B0.length = 1 := by omega
   obtain ⟨b, hb⟩ : ∃ b, b = B0.getD 0 0 := ⟨_, rfl⟩
   have hBi : B0[0]? = some b := by rw [hb, List.getD_eq_getElem?_getD, List.getElem?_eq_getElem (by omega)]; rfl
   have hYi := qa5 hBi
   have hbs : Qs b w := by rw [hb, hw]; exact cf_qs hc _
   obtain ⟨_, cp⟩ := rupower_call b (A0.length - 1) w (by omega) hbs (by omega)
   rw [hb, <- hr.one hA hone, <- hb] at cp
   obtain ⟨s3, t3, r3, p3, hrow3, _⟩ := qrow b
   rw [hrow3] at hYi cp
   generalize hT : (qc v).row = T at *
   have hT4 : ∃ (s t : Bool) (r p : Abs.Rows), T = [.v (.bool s), .lst false r, .v (.bool t), .lst false p] := by
    obtain ⟨s, t, r, p, h, _⟩ := qrow v
    exact ⟨s, t, r, p, hT ▸ h⟩
   obtain ⟨s4, t4, r4, p4, hT4⟩ := hT4
   subst hT4
   clear hr hI h heq hc ih hT
   generalize A0.length = la at *
   generalize B0.length = lb at *
   generalize ur A0 = X at *
   generalize ur B0 = Y at *
   refine callZ ccOk mixed [.val] Tryz.func47 rfl rfl (by kernel_rfl) fun zA zB zC zD zE zF zG zH zI zJ zK zL zM zN zO zP zQ zR zS zT zU zV zX zY zZ za zb zc zd ze zg zh zi zj zk zl zm zn zo zq zr zs zt zu zw zx zy zz zth A L F hS hF => ?_
   have e1 : zM (zY (zh X)) 0 = false := by rw [hS.eq, hS.ofN, hS.len, lX]; exact decide_eq_false (by omega)
   have e2 : zM (zY (zh Y)) 0 = false := by rw [hS.eq, hS.ofN, hS.len, lY]; exact decide_eq_false (by omega)
   have e3 : zM (zA .i64 (zC (zY (zh Y)) 1)) 0 = true := by rw [hS.ofN, hS.len, lY, hS.sub, hS.wrap, wrap_i64 (by omega) (by omega), hS.eq]; exact decide_eq_true (by omega)
   obtain ⟨Z, hZ, z1⟩ : ∃ J : Int, J = ((la - 1 : Nat) : Int) /\ zA .i64 (zC (zY (zh X)) 1) = J := ⟨(la : Int) - 1, by omega, by rw [hS.ofN, hS.len, lX, hS.sub, hS.wrap, wrap_i64 (by omega) (by omega)]⟩
   rw [<- hZ] at cp
   have g0 : zP 0 0 = true := by rw [hS.le]; rfl
   have hz : zi Y (zV 0) = some [.v (.bool s3), .lst false r3, .v (.bool t3), .lst false p3] := by rw [hS.nat, hS.nth]; exact hYi
   cbv
   refine bF (e1) ?_
   refine bF (e2) ?_
   refine bT (e3) ?_
   rw [hz]
   cbv
   refine nd (g0) ?_
   rw [z1]
   refine ⟨_, hS.call (cp), ?_⟩
   cbv
   exact hF _ (ResLe.refl _)
open Go Go.Abs Go.Abs.M Go.Proofs
theorem IsBz.uniq {A B G U V U' V' : List Rat} (tA : ptrim A = A) (tB : ptrim B = B) (h : IsBz A B G U V) (h' : IsBz A B G U' V') : U = U' /\ V = V' := by
 rcases Classical.em (G = []) with h0 | h0
 ·obtain ⟨a1, a2⟩ := h.zero h0
  obtain ⟨b1, b2⟩ := h'.zero h0
  rw [a1, a2, b1, b2]; exact ⟨rfl, rfl⟩
 rcases Classical.em (B = []) with hB | hB
 ·obtain ⟨a1, a2⟩ := h.one h0 hB
  obtain ⟨b1, b2⟩ := h'.one h0 hB
  have hA : A ≠ [] := fun hA => h0 ((h.g.nil tA tB).2 ⟨hA, hB⟩)
  refine ⟨qb1 h.tu h'.tu (ev_mul_cancel (tr_ne tA hA) fun x => ?_), by rw [a2, b2]⟩
  have e1 := h.eq x
  have e2 := h'.eq x
  rw [a2] at e1
  rw [b2] at e2
  simp only [Abs.ev] at e1 e2
  grind
 ·obtain ⟨A1, hA1⟩ := h.g.da
  obtain ⟨B1, hB1⟩ := h.g.db
  obtain ⟨y, hy⟩ := tr_ne h.g.tr h0
  have hone : ∀ x, Abs.ev U x * Abs.ev A1 x + Abs.ev V x * Abs.ev B1 x = 1 := fun x => by
   have := ev_mul_cancel (P := ladd (lmul U A1) (lmul V B1)) (Q := [1]) ⟨y, hy⟩ (fun x => by
    rw [qa7, qbg, qbg]
    have e1 := h.eq x
    have e2 := hA1 x
    have e3 := hB1 x
    simp only [Abs.ev]; grind) x
   rw [qa7, qbg, qbg] at this
   simp only [Abs.ev] at this
   rw [this]; grind
  have hcr : ∀ x, (Abs.ev U x - Abs.ev U' x) * Abs.ev A1 x = (Abs.ev V' x - Abs.ev V x) * Abs.ev B1 x := fun x => by
   have := ev_mul_cancel (P := lmul (ladd U (lsc (-1) U')) A1) (Q := lmul (ladd V' (lsc (-1) V)) B1) ⟨y, hy⟩ (fun x => by
    rw [qbg, qbg, qa7, qa7, qaw, qaw]
    have e1 := h.eq x
    have e2 := h'.eq x
    have e3 := hA1 x
    have e4 := hB1 x
    grind) x
   rw [qbg, qbg, qa7, qa7, qaw, qaw] at this
   grind
  have hB1t : ∀ x, Abs.ev B x = Abs.ev (ptrim B1) x * Abs.ev G x := fun x => by rw [hB1, qa0]
  have hB10 : ptrim B1 ≠ [] := fun h1 => hB (tr_nil tB fun x => by rw [hB1t, h1]; simp only [Abs.ev]; grind)
  have hl := tr_len (qaz B1) h.g.tr tB hB1t hB10 h0
  have hD : Dv (ptrim B1) (ptrim (pshift U (-1) U' 0)) := ⟨ladd (lmul U (ladd V' (lsc (-1) V))) (lmul V (ladd U (lsc (-1) U'))), fun x => by
   rw [qa0, qbh, qa0, qa7, qbg, qbg, qa7, qaw, qa7, qaw]
   have e1 := hone x
   have e2 := hcr x
   grind⟩
  have hlen : (ptrim (pshift U (-1) U' 0)).length <= B.length - G.length := by
   refine Nat.le_trans (ptrim_len _) ?_
   rw [pshift_len]
   have := h.len hB
   have := h'.len hB
   omega
  have hz : ptrim (pshift U (-1) U' 0) = [] := by
   rcases Classical.em (ptrim (pshift U (-1) U' 0) = []) with h1 | h1
   ·exact h1
   ·have := (hD.len (qaz B1) (qaz _) h1).2
    have hG1 : G.length ≠ 0 := fun h2 => h0 (List.length_eq_zero_iff.1 h2)
    have hG2 : (ptrim B1).length ≠ 0 := fun h2 => hB10 (List.length_eq_zero_iff.1 h2)
    omega
  have hU : U = U' := qb1 h.tu h'.tu fun x => by
   have : Abs.ev (ptrim (pshift U (-1) U' 0)) x = 0 := by rw [hz]; rfl
   rw [qa0, qbh] at this
   grind
  subst hU
  refine ⟨rfl, qb1 h.tv h'.tv (ev_mul_cancel (tr_ne tB hB) fun x => ?_)⟩
  have e1 := h.eq x
  have e2 := h'.eq x
  grind
inductive Eb : List Rat -> List Rat -> List Rat -> List Rat -> List Rat -> List Rat -> Prop
 | nil (A U N : List Rat) : Eb A [] U N A U
 | step {A B U N Q R N' G V : List Rat} : B ≠ [] -> ptrim Q = Q -> ptrim R = R -> R.length < B.length -> (∀ x, Abs.ev A x = Abs.ev Q x * Abs.ev B x + Abs.ev R x) -> ptrim N' = N' -> (∀ x, Abs.ev N' x = Abs.ev U x - Abs.ev Q x * Abs.ev N x) -> Eb B R N N' G V -> Eb A B U N G V
theorem Eb.inv {A B U N G V : List Rat} (h : Eb A B U N G V) : (B = [] /\ G = A /\ V = U) ∨ (B ≠ [] /\ ∃ Q R N', ptrim Q = Q /\ ptrim R = R /\ R.length < B.length /\ (∀ x, Abs.ev A x = Abs.ev Q x * Abs.ev B x + Abs.ev R x) /\ ptrim N' = N' /\ (∀ x, Abs.ev N' x = Abs.ev U x - Abs.ev Q x * Abs.ev N x) /\ Eb B R N N' G V) := by
 cases h with
 | nil => exact .inl ⟨rfl, rfl, rfl⟩
 | step h1 h2 h3 h4 h5 h6 h7 h8 => exact .inr ⟨h1, _, _, _, h2, h3, h4, h5, h6, h7, h8⟩
theorem Eb.dvd {A B U N G V : List Rat} (h : Eb A B U N G V) : Dv G A /\ Dv G B /\ ∀ D, Dv D A -> Dv D B -> Dv D G := by
 induction h with
 | nil A U N => exact ⟨Dv.refl _, Dv.zero fun x => rfl, fun D h _ => h⟩
 | @step A B U N Q R N' G V h1 h2 h3 h4 h5 h6 h7 h8 ih =>
  obtain ⟨i1, i2, i3⟩ := ih
  refine ⟨Dv.lin (U := Q) (V := [1]) i1 i2 fun x => ?_, i1, fun D d1 d2 => i3 D d2 (Dv.lin (U := [1]) (V := lsc (-1) Q) d1 d2 fun x => ?_)⟩
  ·have := h5 x; simp only [Abs.ev]; grind
  ·have := h5 x; rw [qaw]; simp only [Abs.ev]; grind
theorem Eb.bez {A B U N G V : List Rat} (h : Eb A B U N G V) {a b : Rat -> Rat} (hA : ∃ v : List Rat, ∀ x, Abs.ev A x = Abs.ev U x * a x + Abs.ev v x * b x) (hB : ∃ v : List Rat, ∀ x, Abs.ev B x = Abs.ev N x * a x + Abs.ev v x * b x) :
  ∃ v : List Rat, ∀ x, Abs.ev G x = Abs.ev V x * a x + Abs.ev v x * b x := by
 induction h with
 | nil A U N => exact hA
 | @step A B U N Q R N' G V h1 h2 h3 h4 h5 h6 h7 h8 ih =>
  obtain ⟨v, hv⟩ := hA
  obtain ⟨w, hw⟩ := hB
  refine ih ⟨w, hw⟩ ⟨ladd v (lsc (-1) (lmul Q w)), fun x => ?_⟩
  have h9 := h5 x
  rw [h7, qa7, qaw, qbg]
  have h6 := hv x
  have h7 := hw x
  grind
theorem EuI.nextR {W V : Nat} {A B U N Q R' N' : List Rat} (h : EuI W V A B U N) (hB : B ≠ []) (tR : ptrim R' = R') (hlt : R'.length < B.length) (hs : ∃ s, CF s (fun j => R'.getD j 0) /\ CF s (fun j => B.getD j 0) /\ (s + 1) * (B.length + 1 - R'.length + 1) * 3 ^ R'.length <= W)
  (hq : Q.length <= A.length + 1 - B.length) (hN : ptrim N' = N') (hl : N'.length <= max U.length (Q.length + N.length - 1)) (hv : ∀ v, CF v (fun j => U.getD j 0) -> CF v (fun j => N.getD j 0) -> CF (2 * v + 4 * W + 1) (fun j => N'.getD j 0)) : EuI W V B R' N N' := by
 obtain ⟨s, s1, s2, s6⟩ := hs
 obtain ⟨v, v1, v2, v3⟩ := h.szu
 have a1 := h.lu
 have a2 := h.ln
 have a3 := h.la
 refine ⟨h.tb, tR, h.tn, hN, ⟨s, s2, s1, s6⟩, ⟨2 * v + 4 * W + 1, v2.mono (by omega), hv v v1 v2, ?_⟩, by omega, by omega, by omega⟩
 have e : 2 ^ B.length = 2 * 2 ^ (B.length - 1) := by rw [<- Nat.pow_succ']; congr 1; omega
 have p : 2 ^ R'.length <= 2 ^ (B.length - 1) := Nat.pow_le_pow_right (by omega) (by omega)
 rw [e, <- Nat.mul_assoc] at v3
 exact Nat.le_trans (Nat.mul_le_mul_left _ p) (Nat.le_trans (Nat.mul_le_mul_right _ (by omega)) v3)
theorem eb_step {W V : Nat} {A B U N : List Rat} (h : EuI W V A B U N) (hB : B ≠ []) (hW : W <= 1000000) (hV : V <= 400000000) :
  ∃ Q R N' M M2, ptrim Q = Q /\ ptrim R = R /\ R.length < B.length /\ (∀ x, Abs.ev A x = Abs.ev Q x * Abs.ev B x + Abs.ev R x) /\ ptrim N' = N' /\ (∀ x, Abs.ev N' x = Abs.ev U x - Abs.ev Q x * Abs.ev N x) /\ EuI W V B R N N' /\
   ACall Tryz.prog 84 [.val (tl (ur A)), .val (tl (ur B))] ⟨[.val (tl (ur Q))], [none, none]⟩ /\ ACall Tryz.prog 29 [.val (tl (ur Q)), .val (tl (ur B))] ⟨[.val (tl (ur M))], [none, none]⟩ /\
   ACall Tryz.prog 37 [.val (tl (ur A)), .val (tl (ur M))] ⟨[.val (tl (ur R))], [none, none]⟩ /\ ACall Tryz.prog 29 [.val (tl (ur Q)), .val (tl (ur N))] ⟨[.val (tl (ur M2))], [none, none]⟩ /\
   ACall Tryz.prog 37 [.val (tl (ur U)), .val (tl (ur M2))] ⟨[.val (tl (ur N'))], [none, none]⟩ := by
 obtain ⟨s, c1, c2, c3⟩ := h.sz
 obtain ⟨v, v1, v2, v3⟩ := h.szu
 have hB1 : B.length ≠ 0 := fun h0 => hB (List.length_eq_zero_iff.1 h0)
 have hla := h.la
 have hlu := h.lu
 have hln := h.ln
 obtain ⟨e, he⟩ : ∃ e, e = A.length + 1 - B.length := ⟨_, rfl⟩
 rw [<- he] at c3 hlu hln
 have p3 : 1 <= 3 ^ B.length := Nat.one_le_pow _ _ (by omega)
 have w1 : (s + 1) * (e + 1) <= W := by
  have := Nat.mul_le_mul_left ((s + 1) * (e + 1)) p3
  omega
 have e1 : (s + 1) * (e + 1) = s + e * (s + 1) + 1 := by rw [Nat.mul_comm, Nat.succ_mul]; omega
 have w2 : s + 1 <= (s + 1) * (e + 1) := Nat.le_mul_of_pos_right _ (by omega)
 have w3 : e + 1 <= (s + 1) * (e + 1) := Nat.le_mul_of_pos_left _ (by omega)
 have p : 1 <= 2 ^ B.length := Nat.one_le_two_pow
 have wv : v + 4 * W + 4 <= V := by have := Nat.mul_le_mul_left (v + 4 * W + 4) p; omega
 have hPA : PB (Abs.ev A) A.length s A := ⟨h.ta, fun x => rfl, Nat.le_refl _, c1⟩
 have hPB : PB (Abs.ev B) B.length s B := ⟨h.tb, fun x => rfl, Nat.le_refl _, c2⟩
 have hPU : PB (Abs.ev U) U.length v U := ⟨h.tu, fun x => rfl, Nat.le_refl _, v1⟩
 have hPN : PB (Abs.ev N) N.length v N := ⟨h.tn, fun x => rfl, Nat.le_refl _, v2⟩
 have hcr : A.length * (s + 1) <= 200 * (s + 1) := Nat.mul_le_mul_right _ hla
 obtain ⟨Q, R, hQ, hR, hlt, heq, _⟩ := qb4 e hPA hPB hB (by omega) (by omega) (by omega) (by omega)
 obtain ⟨Q', R', hQ', hR', hlt', heq', cq, _⟩ := rpb_quo hPA hPB hB (by omega) (by omega) _ rfl (by omega)
 obtain ⟨u1, u2⟩ := qbt hQ.tr hR.tr hQ'.tr hR'.tr h.tb hlt hlt' fun x => by rw [<- heq, heq']
 rw [<- u1] at cq
 have hQl := hQ.len
 generalize hS : s + e * (s + 1) = S at *
 have hpot : (S + 1) * (B.length + 1 - R.length + 1) * 3 ^ R.length <= W := by
  have t := three_pow (B.length - R.length) (by omega)
  have t2 : 3 ^ (B.length - R.length) * 3 ^ R.length = 3 ^ B.length := by rw [<- Nat.pow_add, Nat.sub_add_cancel (by omega)]
  have t3 : (B.length + 1 - R.length + 1) * 3 ^ R.length <= 3 ^ B.length := by rw [<- t2]; exact Nat.mul_le_mul_right _ (by omega)
  rw [Nat.mul_assoc]
  exact Nat.le_trans (Nat.mul_le_mul_left _ t3) (by rw [<- e1]; exact c3)
 have hSW : S <= W := by omega
 have hPQ : PB (Abs.ev Q) Q.length S Q := ⟨hQ.tr, fun x => rfl, Nat.le_refl _, hQ.cf⟩
 obtain ⟨M, hM, cM⟩ := rpb_mul Q.length hPQ hPB (Nat.le_of_lt Nat.lt_two_pow_self) (by omega) (by omega)
 obtain ⟨R2, hR2, cR⟩ := rpb_sub hPA hM (by omega) (by omega) (by omega)
 have hRR : R2 = R := qb1 hR2.tr hR.tr fun x => by rw [hR2.ev, heq]; grind
 rw [hRR] at cR
 obtain ⟨M2, hM2, cM2⟩ := rpb_mul Q.length hPQ hPN (Nat.le_of_lt Nat.lt_two_pow_self) (by omega) (by omega)
 obtain ⟨N', hN', cN⟩ := rpb_sub hPU hM2 (by omega) (by omega) (by omega)
 refine ⟨Q, R, N', M, M2, hQ.tr, hR.tr, hlt, heq, hN'.tr, hN'.ev, h.nextR hB hR.tr hlt ⟨S, hR.cf, c2.mono (by omega), hpot⟩ (by rw [<- he]; exact hQl) hN'.tr (by have := hN'.len; omega) (fun w w1 w2 => ?_), cq, cM, cR, cM2, cN⟩
 have e3 := (w1.add (hQ.cf.prod w2 (i := Q.length) (l := Q.length) (Nat.le_of_lt Nat.lt_two_pow_self)).neg).mono (t := 2 * w + 4 * W + 1) (by omega)
 refine e3.congr fun j => ?_
 have hc := ev_coef (P := N') (Q := pshift U (-1) (pmul Q N) 0) (fun x => by rw [hN'.ev, qbh, ev_pmul]; grind) j
 show _ = N'.getD j 0
 rw [hc, qbz, if_pos (Nat.zero_le _), Nat.sub_zero, pmul_get, csum_cnv]
 grind
theorem eb_run {W V : Nat} (hW : W <= 1000000) (hV : V <= 400000000) : ∀ (l : Nat) (A B U N : List Rat), B.length <= l -> EuI W V A B U N -> ∃ G X, Eb A B U N G X /\ ptrim G = G /\ ptrim X = X /\ CF W (fun j => G.getD j 0) /\ CF V (fun j => X.getD j 0) /\ G.length <= 200 /\ X.length <= 200 := by
 have stop : ∀ (A U N : List Rat), EuI W V A [] U N -> ∃ G X, Eb A [] U N G X /\ ptrim G = G /\ ptrim X = X /\ CF W (fun j => G.getD j 0) /\ CF V (fun j => X.getD j 0) /\ G.length <= 200 /\ X.length <= 200 := fun A U N h => by
  obtain ⟨s, c1, c2, c3⟩ := h.sz
  obtain ⟨v, v1, v2, v3⟩ := h.szu
  have a1 := h.lu
  have a3 := h.la
  simp only [List.length_nil, Nat.pow_zero, Nat.mul_one] at c3 v3
  have : s + 1 <= (s + 1) * (A.length + 1 - 0 + 1) := Nat.le_mul_of_pos_right _ (by omega)
  exact ⟨A, U, .nil A U N, h.ta, h.tu, c1.mono (by omega), v1.mono (by omega), a3, by omega⟩
 intro l
 induction l with
 | zero =>
  intro A B U N hl h
  have : B = [] := List.length_eq_zero_iff.1 (by omega)
  subst this
  exact stop A U N h
 | succ l ih =>
  intro A B U N hl h
  rcases Classical.em (B = []) with h0 | h0
  ·subst h0; exact stop A U N h
  ·obtain ⟨Q, R, N', M, M2, q1, q2, q3, q4, q5, q6, q7, _⟩ := eb_step h h0 hW hV
   obtain ⟨G, X, e, rest⟩ := ih B R N N' (by omega) q7
   exact ⟨G, X, .step h0 q1 q2 q3 q4 q5 q6 e, rest⟩
def rbzS0 (XA XB X Y T : Abs.Rows) : St := mkSt 92 [.c (.t (.lst false XA)), .c (.t (.lst false XB)), .junk, .junk, .junk, .junk, .junk, .junk, .junk, .c (.t (.lst false X)), .c (.t (.lst false Y)), .c (.sl 4 0 0 false), .c (.t (.lst false T))] [none, none, none, none, some (.rows 4 [] true false)]
def rbzS1 (XA XB X Y S T : Abs.Rows) : St := mkSt 92 [.c (.t (.lst false XA)), .c (.t (.lst false XB)), .junk, .junk, .junk, .junk, .junk, .junk, .junk, .c (.t (.lst false X)), .c (.t (.lst false Y)), .c (.t (.lst false S)), .c (.t (.lst false T))] [none, none]
theorem rbz_zero : ACall Tryz.prog 35 [.val (tl []), .val (tl [])] ⟨[.val (tl []), .val (tl []), .val (tl [])], [none, none]⟩ := by
 refine callZ ccOk mixed [.val, .val, .val] Tryz.func35 rfl rfl (by kernel_rfl) fun zA zB zC zD zE zF zG zH zI zJ zK zL zM zN zO zP zQ zR zS zT zU zV zX zY zZ za zb zc zd ze zg zh zi zj zk zl zm zn zo zq zr zs zt zu zw zx zy zz zth A L F hS hF => ?_
 have e1 : zM (zY (zh [])) 0 = true := by rw [hS.eq, hS.ofN, hS.len]; rfl
 cbv
 refine bT e1 (bT e1 ?_)
 exact fin3w hF (TLe.drop _ _) (TLe.drop _ _) (TLe.drop _ _)
theorem rbz_one {f : Rat -> Rat} {n s : Nat} {P : List Rat} (hP : PB f n s P) (h0 : P ≠ []) (hn : n <= 400) (hs : s <= 400000000) :
  ∃ G U, IsBz P [] G U [] /\ CF s (fun j => G.getD j 0) /\ CF s (fun j => U.getD j 0) /\ G.length <= n /\ U.length <= 1 /\ ACall Tryz.prog 35 [.val (tl (ur P)), .val (tl [])] ⟨[.val (tl (ur G)), .val (tl (ur U)), .val (tl [])], [none, none]⟩ := by
 have hl := hP.len
 have hm0 : P.length ≠ 0 := fun h => h0 (List.length_eq_zero_iff.1 h)
 have hL0 := tr_last hP.tr h0
 have cl := qby h0 (by omega)
 have hcl : CF s (fun _ => P.getD (P.length - 1) 0) := hP.cf.comp fun _ => P.length - 1
 obtain ⟨hq, ci⟩ := rqinv_row hL0 (cf_qs hcl 0) (by omega)
 obtain ⟨G, hG, cG⟩ := rpb_monic hP h0 (by omega) (by omega)
 have cc := rconst_call (P.getD (P.length - 1) 0)⁻¹
 have hi := Rat.inv_mul_cancel _ hL0
 obtain ⟨L, hLe⟩ : ∃ L, L = P.getD (P.length - 1) 0 := ⟨_, rfl⟩
 rw [<- hLe] at hL0 hi cl ci cc hG hcl
 have hi0 : L⁻¹ ≠ 0 := fun h1 => by rw [h1, Rat.zero_mul] at hi; exact absurd hi (by decide)
 have hU : ptrim [L⁻¹] = [L⁻¹] := tlen_top (by simp) (by simpa using hi0)
 have hGe : G = lsc L⁻¹ P := qb1 hG.tr (lsc_trim hi0 hP.tr) fun x => by rw [hG.ev, qaw, hP.ev]
 rw [hU] at cc
 have hg : IsG P [] G := isg_of (X := []) (K := []) (U := []) (N := []) (.nil P [] []) hG.tr hP.tr (fun h => absurd h h0) fun _ x => by rw [hG.ev, hP.ev, <- hLe]
 refine ⟨G, [L⁻¹], ⟨hg, hU, rfl, fun x => ?_, fun h => ?_, fun _ _ => ⟨rfl, rfl⟩, fun h => absurd rfl h⟩, hG.cf, ((hcl.inv hL0).pick fun j => decide (j = 0)).congr fun j => ?_, hG.len, Nat.le_refl _, ?_⟩
 ·rw [hG.ev, hP.ev]; simp only [Abs.ev]; grind
 ·exact absurd ((hg.nil hP.tr rfl).1 h).1 h0
 ·cases j with
  | zero => simp
  | succ j => simp
 ·have lX := qac P
  obtain ⟨s1, t1, r1, p1, hrow, _⟩ := qrow L
  obtain ⟨s2, t2, r2, p2, hrow2, _⟩ := qrow L⁻¹
  rw [hrow] at cl
  rw [hrow, hrow2] at ci
  rw [hrow2] at cc
  generalize P.length = m at *
  generalize ur P = X at *
  generalize ur G = UG at *
  generalize ur [L⁻¹] = UU at *
  refine callZ ccOk mixed [.val, .val, .val] Tryz.func35 rfl rfl (by kernel_rfl) fun zA zB zC zD zE zF zG zH zI zJ zK zL zM zN zO zP zQ zR zS zT zU zV zX zY zZ za zb zc zd ze zg zh zi zj zk zl zm zn zo zq zr zs zt zu zw zx zy zz zth A L F hS hF => ?_
  have e1 : zM (zY (zh X)) 0 = false := by rw [hS.eq, hS.ofN, hS.len, lX]; exact decide_eq_false (by omega)
  have e2 : zM (zY (zh [])) 0 = true := by rw [hS.eq, hS.ofN, hS.len]; rfl
  cbv
  refine bF (e1) ?_
  refine bT (e2) ?_
  refine ⟨_, hS.call (cl), ?_⟩
  cbv
  refine ⟨_, hS.call (ci), ?_⟩
  cbv
  refine ⟨_, hS.call (cG), ?_⟩
  cbv
  refine ⟨_, hS.call (cc), ?_⟩
  cbv
  exact fin3w hF (TVLe.refl _) (TVLe.refl _) (TLe.drop _ _)
open Go Go.Abs Go.Abs.M Go.Proofs
theorem eb_round {W V : Nat} (hW : W <= 1000000) (hV : V <= 400000000) {A B U N G X : List Rat} (hI : EuI W V A B U N) (hE : Eb A B U N G X) (hB : B ≠ []) :
  ∃ Q R N' M M2, (ptrim Q = Q /\ ptrim R = R /\ (∀ x, Abs.ev A x = Abs.ev Q x * Abs.ev B x + Abs.ev R x) /\ ptrim N' = N' /\ ∀ x, Abs.ev N' x = Abs.ev U x - Abs.ev Q x * Abs.ev N x) /\ EuI W V B R N N' /\ Eb B R N N' G X /\ R.length < B.length /\
   ACall Tryz.prog 84 [.val (tl (ur A)), .val (tl (ur B))] ⟨[.val (tl (ur Q))], [none, none]⟩ /\ ACall Tryz.prog 29 [.val (tl (ur Q)), .val (tl (ur B))] ⟨[.val (tl (ur M))], [none, none]⟩ /\
   ACall Tryz.prog 37 [.val (tl (ur A)), .val (tl (ur M))] ⟨[.val (tl (ur R))], [none, none]⟩ /\ ACall Tryz.prog 29 [.val (tl (ur Q)), .val (tl (ur N))] ⟨[.val (tl (ur M2))], [none, none]⟩ /\
   ACall Tryz.prog 37 [.val (tl (ur U)), .val (tl (ur M2))] ⟨[.val (tl (ur N'))], [none, none]⟩ := by
 rcases hE.inv with ⟨h, _⟩ | ⟨_, Q2, R2, N2, e1, e2, e3, e4, e5, e6, e7⟩
 ·exact absurd h hB
 obtain ⟨Q, R, N', M, M2, q1, q2, q3, q4, q5, q6, q7, c1, c2, c3, c4, c5⟩ := eb_step hI hB hW hV
 obtain ⟨u1, u2⟩ := qbt e1 e2 q1 q2 hI.tb e3 q3 fun x => by rw [<- e4, q4]
 subst u1 u2
 have u4 : N2 = N' := qb1 e5 q5 fun x => by rw [e6, q6]
 subst u4
 exact ⟨Q2, R2, N2, M, M2, ⟨q1, q2, q4, q5, q6⟩, q7, e7, q3, c1, c2, c3, c4, c5⟩
theorem rpb_bezout {f g : Rat -> Rat} {n m s : Nat} {A0 B0 : List Rat} (W V : Nat) (hA : PB f n s A0) (hB : PB g m s B0) (hB0 : B0 ≠ []) (hn6 : n <= 6) (hm7 : m <= 6) (hW : (s + 1) * (n + 2) * 3 ^ m <= W) (hW3 : W <= 260000) (hV : (1 + 4 * W + 4) * 2 ^ m <= V) (hV3 : V <= 68000000) (hs : s <= 1000) :
  ∃ G U K, IsBz A0 B0 G U K /\ ACall Tryz.prog 35 [.val (tl (ur A0)), .val (tl (ur B0))] ⟨[.val (tl (ur G)), .val (tl (ur U)), .val (tl (ur K))], [none, none]⟩ := by
 have hW2 : W <= 1000000 := by omega
 have hV2 : V <= 400000000 := by omega
 have hz : ∀ v, CF v (fun j => ([] : List Rat).getD j 0) := fun v => (CF.zero v).congr fun j => by simp
 have h1c : CF 1 (fun j => ([1] : List Rat).getD j 0) := ((CF.whole (n := 1) (s := 1) (by decide) (by decide)).pick fun j => decide (j = 0)).congr fun j => by
  cases j with
  | zero => simp
  | succ j => simp
 have hBl := hB.len
 have hAl := hA.len
 have hB1 : B0.length ≠ 0 := fun h1 => hB0 (List.length_eq_zero_iff.1 h1)
 have hn7 : n * (s + 1) <= 6 * (s + 1) := Nat.mul_le_mul_right _ hn6
 obtain ⟨Q0, Y0, hQ0, hY0, hlt0, heq0, _, cm0⟩ := rpb_quo hA hB hB0 (by omega) (by omega) _ rfl (by omega)
 have hI0 : EuI W V A0 B0 [1] [] := eu_start hA.tr hB.tr hA.cf hB.cf hA.len hB.len hW (by omega) rfl rfl h1c (hz 1) (Nat.le_refl _) (Nat.zero_le _) hV
 obtain ⟨G0, X0, hE, tG0, tX0, cG0, cX0, lG0, lX0⟩ := eb_run hW2 hV2 _ A0 B0 [1] [] (Nat.le_refl _) hI0
 obtain ⟨Q1, R1, N1, _, _, ⟨p1, p2, p3, p4, p5⟩, hI1, hE1, hlt1, _⟩ := eb_round hW2 hV2 hI0 hE hB0
 have hR1 : R1 = Y0 := (qbt p1 p2 hQ0.tr hY0.tr hB.tr hlt1 hlt0 fun x => by rw [<- p3, hA.ev, heq0, hB.ev]).2
 have hN1 : N1 = [1] := qb1 p4 rfl fun x => by rw [p5]; simp only [Abs.ev]; grind
 subst hR1 hN1
 obtain ⟨v, hv⟩ := hE.bez (a := Abs.ev A0) (b := Abs.ev B0) ⟨[], fun x => by simp only [Abs.ev]; grind⟩ ⟨[1], fun x => by simp only [Abs.ev]; grind⟩
 obtain ⟨d1, d2, d3⟩ := hE.dvd
 have hG00 : G0 ≠ [] := fun h0 => by
  obtain ⟨H, hH⟩ := d2
  exact hB0 (tr_nil hB.tr fun x => by rw [hH, h0]; simp only [Abs.ev]; grind)
 have hGlen : G0.length ≠ 0 := fun h1 => hG00 (List.length_eq_zero_iff.1 h1)
 have hL := tr_last tG0 hG00
 have cl := qby hG00 (by omega)
 obtain ⟨L, hLe⟩ : ∃ L, L = G0.getD (G0.length - 1) 0 := ⟨_, rfl⟩
 have hcl : CF W (fun _ => L) := by rw [hLe]; exact cG0.comp fun _ => G0.length - 1
 have hPB : PB (Abs.ev G0) 200 W G0 := ⟨tG0, fun x => rfl, lG0, cG0⟩
 obtain ⟨G, hG, cmon⟩ := rpb_monic hPB hG00 (by omega) (by omega)
 rw [<- hLe] at hL hG cl
 have hi := Rat.inv_mul_cancel L hL
 have hi0 : L⁻¹ ≠ 0 := fun h1 => by rw [h1, Rat.zero_mul] at hi; exact absurd hi (by decide)
 have hGe : G = lsc L⁻¹ G0 := qb1 hG.tr (lsc_trim hi0 tG0) fun x => by rw [hG.ev, qaw]
 have hGl : G.length = G0.length := by rw [hGe, lsc_len]
 have hG0' : G ≠ [] := fun h1 => hGlen (by rw [<- hGl, h1]; rfl)
 have isg : IsG A0 B0 G := ⟨hG.tr, hGe ▸ d1.scale hi0, hGe ▸ d2.scale hi0, fun D e1 e2 => Dv.lin (U := [L⁻¹]) (V := []) (d3 D e1 e2) (d3 D e1 e2) fun x => by rw [hG.ev]; simp only [Abs.ev]; grind, fun h => ⟨h, by rw [hGe, lsc_get, lsc_len, <- hLe, hi]⟩⟩
 obtain ⟨hq, ci⟩ := rqinv_row hL (cf_qs hcl 0) (by omega)
 obtain ⟨U1, hU1, csc⟩ := rpb_scale (hcl.inv hL) (⟨tX0, fun x => rfl, lX0, cX0⟩ : PB (Abs.ev X0) 200 V X0) (by omega) (by omega)
 have hGe2 : ∀ x, Abs.ev G x = Abs.ev U1 x * Abs.ev A0 x + L⁻¹ * Abs.ev v x * Abs.ev B0 x := fun x => by rw [hG.ev, hU1.ev, hv]; grind
 have hm8 : m * (W + 1) <= 6 * (W + 1) := Nat.mul_le_mul_right _ hm7
 obtain ⟨Pd, Rp, hPd, hRp, hltp, hep, cquo, _⟩ := rpb_quo hB (hG.congr fun x => (hG.ev x).symm) hG0' (by omega) (by omega) _ rfl (by omega)
 have hR10 : Rp = [] := Dv.rest hPd.tr hRp.tr hG.tr hltp (fun x => by rw [hB.ev, hep]) isg.db
 have he1' : ∀ x, Abs.ev B0 x = Abs.ev Pd x * Abs.ev G x := fun x => by rw [hB.ev, hep, hR10]; simp only [Abs.ev]; grind
 have hPd0 : Pd ≠ [] := fun h1 => hB0 (tr_nil hB.tr fun x => by rw [he1', h1]; simp only [Abs.ev]; grind)
 have hPdl := tr_len hPd.tr hG.tr hB.tr he1' hPd0 hG0'
 have hPd1 : Pd.length ≠ 0 := fun h1 => hPd0 (List.length_eq_zero_iff.1 h1)
 have hU1l := hU1.len
 obtain ⟨S2, hS2⟩ : ∃ S2, S2 = V + W + 200 * (s + m * (W + 1) + 1) := ⟨_, rfl⟩
 obtain ⟨Qm, U2, hQm, hU2, hltm, hem, _, cmod⟩ := rpb_quo hU1 hPd hPd0 (by omega) (by omega) S2 (by rw [hS2]) (by omega)
 have hU2l := hU2.len
 obtain ⟨M, hM, cmu⟩ := rpb_mul 8 (hU2.mono (m := 200) (by omega) (Nat.le_refl _)) hA (by omega) (by omega) (by omega)
 obtain ⟨D, hD, csub⟩ := rpb_sub (hG.congr fun x => (hG.ev x).symm) hM (by omega) (by omega) (by omega)
 have hDl := hD.len
 have hD8 : PB (fun x => Abs.ev G x - Abs.ev U2 x * f x) 210 (W + (S2 + s + 8) + 1) D := hD.mono (by omega) (Nat.le_refl _)
 obtain ⟨K, R3, hK, hR3, hlt3, he3, cq2, _⟩ := rpb_quo hD8 hB hB0 (by omega) (by omega) _ rfl (by omega)
 have hdv : Dv B0 D := by
  obtain ⟨H, hH⟩ := isg.da
  refine ⟨ladd (lsc L⁻¹ v) (lmul Qm H), fun x => ?_⟩
  rw [hD.ev, qa7, qaw, qbg]
  have a1 := hGe2 x
  have a2 := hem x
  have a3 := hH x
  have a4 := he1' x
  have a5 := hA.ev x
  have a6 := hU1.ev x
  grind
 have hR30 : R3 = [] := Dv.rest hK.tr hR3.tr hB.tr hlt3 (fun x => by rw [hD.ev, he3, hB.ev]) hdv
 refine ⟨G, U2, K, ⟨isg, hU2.tr, hK.tr, fun x => ?_, fun h => absurd h hG0', fun _ h => absurd h hB0, fun _ => by omega⟩, ?_⟩
 ·have a1 := he3 x
  rw [hR30] at a1
  simp only [Abs.ev] at a1
  rw [hA.ev, hB.ev]
  grind
 ·have lA := qac A0
  have lB := qac B0
  have cw := qa4 1 (by omega) (by omega)
  rw [show ((1 : Int) : Rat) = 1 from rfl] at cw
  have cc := rconst_call 1
  rw [show ptrim [(1 : Rat)] = [1] from rfl] at cc
  obtain ⟨s1, t1, r1, q1, hrow, _⟩ := qrow 1
  obtain ⟨s2, t2, r2, q2, hrow2, _⟩ := qrow L
  obtain ⟨s3, t3, r3, q3, hrow3, _⟩ := qrow L⁻¹
  rw [hrow] at cw cc
  rw [hrow2] at cl
  rw [hrow2, hrow3] at ci
  rw [hrow3] at csc
  obtain ⟨XA, hXA⟩ : ∃ U, U = ur A0 := ⟨_, rfl⟩
  obtain ⟨XB, hXB⟩ : ∃ U, U = ur B0 := ⟨_, rfl⟩
  obtain ⟨XR, hXR⟩ : ∃ U, U = ur R1 := ⟨_, rfl⟩
  obtain ⟨XT, hXT⟩ : ∃ U, U = ur [1] := ⟨_, rfl⟩
  obtain ⟨XG0, hXG0⟩ : ∃ U, U = ur G0 := ⟨_, rfl⟩
  obtain ⟨XX0, hXX0⟩ : ∃ U, U = ur X0 := ⟨_, rfl⟩
  rw [<- hXA, <- hXB, <- hXR] at cm0
  rw [<- hXT] at cc
  rw [<- hXG0] at cl cmon
  rw [<- hXX0] at csc
  rw [<- hXB] at cquo cq2
  rw [<- hXA] at cmu
  rw [<- hXA] at lA
  rw [<- hXB] at lB
  rw [<- hXA, <- hXB]
  clear hA hB hG hU1 hPd hRp hQm hU2 hM hD hD8 hK hR3 hv hem he3 hGe2 hGe hdv isg hQ0 hY0 heq0 hep he1' hPB d1 d2 d3 hE hI0 p1 p2 p3 p4 p5 hR30 hR10 hPdl
  generalize ur G = UG at *
  generalize ur U1 = UU1 at *
  generalize ur Pd = UPd at *
  generalize ur U2 = UU2 at *
  generalize ur M = UMf at *
  generalize ur D = UD at *
  generalize ur K = UK at *
  refine callZ ccOk mixed [.val, .val, .val] Tryz.func35 rfl rfl (by kernel_rfl) fun zA zB zC zD zE zF zG zH zI zJ zK zL zM zN zO zP zQ zR zS zT zU zV zX zY zZ za zb zc zd ze zg zh zi zj zk zl zm zn zo zq zr zs zt zu zw zx zy zz zth A L F hS hF => ?_
  have e2 : zM (zY (zh XB)) 0 = false := by rw [hS.eq, hS.ofN, hS.len, lB]; exact decide_eq_false (by omega)
  have f0 : zn 0 0 [] = true := by rw [hS.fit]; rfl
  have f1 : zo [] 0 0 = [] := by rw [hS.part]; rfl
  have e1 : zM (zY (zh XA)) 0 = decide (A0.length = 0) := by rw [hS.eq, hS.ofN, hS.len, lA]; exact decide_eq_decide.2 (by omega)
  have hinit : ∃ (A' B' U' N' : List Rat) (X' Y S' T' : Abs.Rows), B'.length = R1.length /\ EuI W V A' B' U' N' /\ Eb A' B' U' N' G0 X0 /\ X' = ur A' /\ Y = ur B' /\ S' = ur U' /\ T' = ur N' /\ ((U' = [] /\ rbzS0 XA XB XB XR XT = rbzS0 XA XB X' Y T') ∨ rbzS0 XA XB XB XR XT = rbzS1 XA XB X' Y S' T') := ⟨B0, R1, [], [1], XB, XR, [], XT, rfl, hI1, hE1, hXB, hXR, rfl, hXT, .inl ⟨rfl, rfl⟩⟩
  cbv
  by_cases ha : A0.length = 0
  ·rw [decide_eq_true ha] at e1
   refine bT (e1) ?_
   refine bF (e2) ?_
   refine bF (e2) ?_
   refine ⟨_, hS.call (cm0), ?_⟩
   cbv
   refine ⟨_, hS.call (cw), ?_⟩
   cbv
   refine ⟨_, hS.call (cc), ?_⟩
   cbv
   refine loopZ ccOk mixed hS (fun (i : Nat) s' => ∃ (A' B' U' N' : List Rat) (X' Y S' T' : Abs.Rows), B'.length = i /\ EuI W V A' B' U' N' /\ Eb A' B' U' N' G0 X0 /\ X' = ur A' /\ Y = ur B' /\ S' = ur U' /\ T' = ur N' /\ ((U' = [] /\ s' = rbzS0 XA XB X' Y T') ∨ s' = rbzS1 XA XB X' Y S' T')) (n := R1.length) (s0 := rbzS0 XA XB XB XR XT) (qaq ?_ ?_) rfl (by show 2 <= 5; omega) hinit ?_
   ·simp [leT, rbzS0, mkSt]
   ·simp [leH, rbzS0, mkSt]
   ·rintro i s1 ⟨A', B', U', N', X', Yc, S', Tc, hi, hI', hE', hX, hY, hS', hT, hcase⟩
    by_cases hB' : B' = []
    ·have l1 : zO 0 (zY (zh Yc)) = false := by rw [hS.lt, hS.ofN, hS.len, hY, qac, hB']; rfl
     have hG0 : X' = XG0 /\ S' = XX0 := by
      rcases hE'.inv with ⟨_, a1, a2⟩ | ⟨h, _⟩
      ·exact ⟨by rw [hX, hXG0, a1], by rw [hS', hXX0, a2]⟩
      ·exact absurd hB' h
     obtain ⟨g1, g2⟩ := hG0
     rcases hcase with ⟨hU0, hs1⟩ | hs1
     ·rw [hU0, show ur ([] : List Rat) = [] from rfl] at hS'
      rw [<- g2, hS'] at csc
      subst g1
      subst hs1
      cbv
      refine bF l1 ?_
      refine ⟨_, hS.call (cl), ?_⟩
      cbv
      refine ⟨_, hS.call (ci), ?_⟩
      cbv
      refine ⟨_, hS.call (cmon), ?_⟩
      cbv
      refine nd (f0) ?_
      rw [f1]
      refine ⟨_, hS.call (csc), ?_⟩
      cbv
      refine ⟨_, hS.call (cquo), ?_⟩
      cbv
      refine ⟨_, hS.call (cmod), ?_⟩
      cbv
      refine ⟨_, hS.call (cmu), ?_⟩
      cbv
      refine ⟨_, hS.call (csub), ?_⟩
      cbv
      refine ⟨_, hS.call (cq2), ?_⟩
      cbv
      exact hF _ (ResLe.refl _)
     ·subst g1 g2
      subst hs1
      cbv
      refine bF l1 ?_
      refine ⟨_, hS.call (cl), ?_⟩
      cbv
      refine ⟨_, hS.call (ci), ?_⟩
      cbv
      refine ⟨_, hS.call (cmon), ?_⟩
      cbv
      refine ⟨_, hS.call (csc), ?_⟩
      cbv
      refine ⟨_, hS.call (cquo), ?_⟩
      cbv
      refine ⟨_, hS.call (cmod), ?_⟩
      cbv
      refine ⟨_, hS.call (cmu), ?_⟩
      cbv
      refine ⟨_, hS.call (csub), ?_⟩
      cbv
      refine ⟨_, hS.call (cq2), ?_⟩
      cbv
      exact hF _ (ResLe.refl _)
    ·have hBl' : B'.length ≠ 0 := fun h1 => hB' (List.length_eq_zero_iff.1 h1)
     have l1 : zO 0 (zY (zh Yc)) = true := by rw [hS.lt, hS.ofN, hS.len, hY, qac]; exact decide_eq_true (by omega)
     obtain ⟨Q, R, N', M, M2, _, hI2, hE2, hlt, c1, c2, c3, c4, c5⟩ := eb_round hW2 hV2 hI' hE' hB'
     have hmm : R.length < i := by omega
     rw [<- hX, <- hY] at c1
     rw [<- hY] at c2
     rw [<- hX] at c3
     rw [<- hT] at c4
     obtain ⟨UR, hUR⟩ : ∃ U, U = ur R := ⟨_, rfl⟩
     obtain ⟨UN, hUN⟩ : ∃ U, U = ur N' := ⟨_, rfl⟩
     rw [<- hUR] at c3
     rw [<- hUN] at c5
     have hnx : ∃ (A' B' U' N' : List Rat) (X' Y S' T' : Abs.Rows), B'.length = R.length /\ EuI W V A' B' U' N' /\ Eb A' B' U' N' G0 X0 /\ X' = ur A' /\ Y = ur B' /\ S' = ur U' /\ T' = ur N' /\ ((U' = [] /\ rbzS1 XA XB Yc UR Tc UN = rbzS0 XA XB X' Y T') ∨ rbzS1 XA XB Yc UR Tc UN = rbzS1 XA XB X' Y S' T') := ⟨_, R, _, N', Yc, UR, Tc, UN, rfl, hI2, hE2, hY, hUR, hT, hUN, .inr rfl⟩
     generalize ur Q = UQ at *
     generalize ur M = UM at *
     generalize ur M2 = UM2 at *
     rcases hcase with ⟨hU0, hs1⟩ | hs1
     ·rw [hU0, show ur ([] : List Rat) = [] from rfl] at c5
      subst hs1
      cbv
      refine bT l1 ?_
      refine ⟨_, hS.call (c1), ?_⟩
      cbv
      refine ⟨_, hS.call (c2), ?_⟩
      cbv
      refine ⟨_, hS.call (c3), ?_⟩
      cbv
      refine ⟨_, hS.call (c4), ?_⟩
      cbv
      refine nd (f0) ?_
      rw [f1]
      refine ⟨_, hS.call (c5), ?_⟩
      cbv
      exact again (s' := rbzS1 XA XB Yc UR Tc UN) (m := R.length) (by simp [leT, rbzS1, mkSt]) (by simp [leH, rbzS1, mkSt]) rfl (by show 2 <= 2; omega) hmm hnx
     ·rw [<- hS'] at c5
      subst hs1
      cbv
      refine bT l1 ?_
      refine ⟨_, hS.call (c1), ?_⟩
      cbv
      refine ⟨_, hS.call (c2), ?_⟩
      cbv
      refine ⟨_, hS.call (c3), ?_⟩
      cbv
      refine ⟨_, hS.call (c4), ?_⟩
      cbv
      refine ⟨_, hS.call (c5), ?_⟩
      cbv
      exact again (s' := rbzS1 XA XB Yc UR Tc UN) (m := R.length) (by simp [leT, rbzS1, mkSt]) (by simp [leH, rbzS1, mkSt]) rfl (by show 2 <= 2; omega) hmm hnx
  ·rw [decide_eq_false ha] at e1
   refine bF (e1) ?_
   refine bF (e2) ?_
   refine ⟨_, hS.call (cm0), ?_⟩
   cbv
   refine ⟨_, hS.call (cw), ?_⟩
   cbv
   refine ⟨_, hS.call (cc), ?_⟩
   cbv
   refine loopZ ccOk mixed hS (fun (i : Nat) s' => ∃ (A' B' U' N' : List Rat) (X' Y S' T' : Abs.Rows), B'.length = i /\ EuI W V A' B' U' N' /\ Eb A' B' U' N' G0 X0 /\ X' = ur A' /\ Y = ur B' /\ S' = ur U' /\ T' = ur N' /\ ((U' = [] /\ s' = rbzS0 XA XB X' Y T') ∨ s' = rbzS1 XA XB X' Y S' T')) (n := R1.length) (s0 := rbzS0 XA XB XB XR XT) (qaq ?_ ?_) rfl (by show 2 <= 5; omega) hinit ?_
   ·simp [leT, rbzS0, mkSt]
   ·simp [leH, rbzS0, mkSt]
   ·rintro i s1 ⟨A', B', U', N', X', Yc, S', Tc, hi, hI', hE', hX, hY, hS', hT, hcase⟩
    by_cases hB' : B' = []
    ·have l1 : zO 0 (zY (zh Yc)) = false := by rw [hS.lt, hS.ofN, hS.len, hY, qac, hB']; rfl
     have hG0 : X' = XG0 /\ S' = XX0 := by
      rcases hE'.inv with ⟨_, a1, a2⟩ | ⟨h, _⟩
      ·exact ⟨by rw [hX, hXG0, a1], by rw [hS', hXX0, a2]⟩
      ·exact absurd hB' h
     obtain ⟨g1, g2⟩ := hG0
     rcases hcase with ⟨hU0, hs1⟩ | hs1
     ·rw [hU0, show ur ([] : List Rat) = [] from rfl] at hS'
      rw [<- g2, hS'] at csc
      subst g1
      subst hs1
      cbv
      refine bF l1 ?_
      refine ⟨_, hS.call (cl), ?_⟩
      cbv
      refine ⟨_, hS.call (ci), ?_⟩
      cbv
      refine ⟨_, hS.call (cmon), ?_⟩
      cbv
      refine nd (f0) ?_
      rw [f1]
      refine ⟨_, hS.call (csc), ?_⟩
      cbv
      refine ⟨_, hS.call (cquo), ?_⟩
      cbv
      refine ⟨_, hS.call (cmod), ?_⟩
      cbv
      refine ⟨_, hS.call (cmu), ?_⟩
      cbv
      refine ⟨_, hS.call (csub), ?_⟩
      cbv
      refine ⟨_, hS.call (cq2), ?_⟩
      cbv
      exact hF _ (ResLe.refl _)
     ·subst g1 g2
      subst hs1
      cbv
      refine bF l1 ?_
      refine ⟨_, hS.call (cl), ?_⟩
      cbv
      refine ⟨_, hS.call (ci), ?_⟩
      cbv
      refine ⟨_, hS.call (cmon), ?_⟩
      cbv
      refine ⟨_, hS.call (csc), ?_⟩
      cbv
      refine ⟨_, hS.call (cquo), ?_⟩
      cbv
      refine ⟨_, hS.call (cmod), ?_⟩
      cbv
      refine ⟨_, hS.call (cmu), ?_⟩
      cbv
      refine ⟨_, hS.call (csub), ?_⟩
      cbv
      refine ⟨_, hS.call (cq2), ?_⟩
      cbv
      exact hF _ (ResLe.refl _)
    ·have hBl' : B'.length ≠ 0 := fun h1 => hB' (List.length_eq_zero_iff.1 h1)
     have l1 : zO 0 (zY (zh Yc)) = true := by rw [hS.lt, hS.ofN, hS.len, hY, qac]; exact decide_eq_true (by omega)
     obtain ⟨Q, R, N', M, M2, _, hI2, hE2, hlt, c1, c2, c3, c4, c5⟩ := eb_round hW2 hV2 hI' hE' hB'
     have hmm : R.length < i := by omega
     rw [<- hX, <- hY] at c1
     rw [<- hY] at c2
     rw [<- hX] at c3
     rw [<- hT] at c4
     obtain ⟨UR, hUR⟩ : ∃ U, U = ur R := ⟨_, rfl⟩
     obtain ⟨UN, hUN⟩ : ∃ U, U = ur N' := ⟨_, rfl⟩
     rw [<- hUR] at c3
     rw [<- hUN] at c5
     have hnx : ∃ (A' B' U' N' : List Rat) (X' Y S' T' : Abs.Rows), B'.length = R.length /\ EuI W V A' B' U' N' /\ Eb A' B' U' N' G0 X0 /\ X' = ur A' /\ Y = ur B' /\ S' = ur U' /\ T' = ur N' /\ ((U' = [] /\ rbzS1 XA XB Yc UR Tc UN = rbzS0 XA XB X' Y T') ∨ rbzS1 XA XB Yc UR Tc UN = rbzS1 XA XB X' Y S' T') := ⟨_, R, _, N', Yc, UR, Tc, UN, rfl, hI2, hE2, hY, hUR, hT, hUN, .inr rfl⟩
     generalize ur Q = UQ at *
     generalize ur M = UM at *
     generalize ur M2 = UM2 at *
     rcases hcase with ⟨hU0, hs1⟩ | hs1
     ·rw [hU0, show ur ([] : List Rat) = [] from rfl] at c5
      subst hs1
      cbv
      refine bT l1 ?_
      refine ⟨_, hS.call (c1), ?_⟩
      cbv
      refine ⟨_, hS.call (c2), ?_⟩
      cbv
      refine ⟨_, hS.call (c3), ?_⟩
      cbv
      refine ⟨_, hS.call (c4), ?_⟩
      cbv
      refine nd (f0) ?_
      rw [f1]
      refine ⟨_, hS.call (c5), ?_⟩
      cbv
      exact again (s' := rbzS1 XA XB Yc UR Tc UN) (m := R.length) (by simp [leT, rbzS1, mkSt]) (by simp [leH, rbzS1, mkSt]) rfl (by show 2 <= 2; omega) hmm hnx
     ·rw [<- hS'] at c5
      subst hs1
      cbv
      refine bT l1 ?_
      refine ⟨_, hS.call (c1), ?_⟩
      cbv
      refine ⟨_, hS.call (c2), ?_⟩
      cbv
      refine ⟨_, hS.call (c3), ?_⟩
      cbv
      refine ⟨_, hS.call (c4), ?_⟩
      cbv
      refine ⟨_, hS.call (c5), ?_⟩
      cbv
      exact again (s' := rbzS1 XA XB Yc UR Tc UN) (m := R.length) (by simp [leT, rbzS1, mkSt]) (by simp [leH, rbzS1, mkSt]) rfl (by show 2 <= 2; omega) hmm hnx
open Go Go.Abs Go.Abs.M Go.Proofs
def RW.pl (x : RW) : RW := ⟨x.n, x.d, 0⟩
theorem RW.pl_ok {x : RW} (h : x.ok) : x.pl.ok := ⟨h.n1, h.n2, h.d1, h.d2, by show (0 : Int) <= 0; omega, by show (0 : Int) < 256; omega⟩
theorem rwrows_app (xs : List RW) (x : RW) : rwrows (xs ++ [x]) = rwrows xs ++ [x.row] := by simp [rwrows]
theorem rwrows_len (xs : List RW) : (rwrows xs).length = xs.length := by simp [rwrows]
def rplSt (R : Abs.Rows) (D : Int) (len : Nat) (r : Abs.Rows) (i : Int) : St := mkSt 31 [.c (.t (.lst false R)), vi .i64 D, .junk, .junk, .junk, .c (.sl 2 0 len false), vi .i64 i] [none, none, some (.rows 3 r true false)]
theorem rplain_call (xs : List RW) (hx : ∀ x ∈ xs, x.ok) (D : Int) (hD : 0 <= D) (hD2 : D <= 100) (hlx : xs.length * 3 <= 140737488355328) :
  ACall Tryz.prog 24 [.val (tl (rwrows xs)), .val (ti .i64 D)] ⟨[.val (tl (ur (ptrim (((xs.map RW.pl).take (D.toNat + 1)).map RW.q))))], [none, none]⟩ := by
 have cmd := umade_call (xs.map RW.pl) (fun x hx' => by obtain ⟨y, hy, rfl⟩ := List.mem_map.1 hx'; exact RW.pl_ok (hx y hy)) D hD hD2 (by rw [List.length_map]; omega)
 obtain ⟨R, hR⟩ : ∃ R, R = rwrows xs := ⟨_, rfl⟩
 obtain ⟨n, hn⟩ : ∃ n, n = xs.length := ⟨_, rfl⟩
 obtain ⟨ys, hys⟩ : ∃ ys, ys = xs.map RW.pl := ⟨_, rfl⟩
 rw [<- hys] at cmd ⊢
 have hRl : R.length = n := by rw [hR, hn]; simp [rwrows]
 have hget : ∀ i, i < n -> ∃ x : RW, ys[i]? = some x.pl /\ R[i]? = some x.row := fun i hi => by
  have h : xs[i]? = some xs[i] := List.getElem?_eq_getElem (by omega)
  have h2 : (rwrows xs)[i]? = some (xs[i]).row := by simp [rwrows, h]
  rw [<- hR] at h2
  exact ⟨_, by rw [hys, List.getElem?_map, h]; rfl, h2⟩
 have hyl : ys.length = n := by rw [hys, List.length_map, hn]
 rw [<- hR]
 generalize hT : ur (ptrim ((ys.take (D.toNat + 1)).map RW.q)) = T at *
 rw [<- hn] at hlx
 clear hR hx hys
 refine callZ ccOk mixed [.val] Tryz.func24 rfl rfl (by kernel_rfl) fun zA zB zC zD zE zF zG zH zI zJ zK zL zM zN zO zP zQ zR zS zT zU zV zX zY zZ za zb zc zd ze zg zh zi zj zk zl zm zn zo zq zr zs zt zu zw zx zy zz zth A L F hS hF => ?_
 have hlx2 : zh R = n := by rw [hS.len, hRl]
 obtain ⟨N, hN, hN2⟩ : ∃ N : Int, N = n /\ zY (zh R) = N := ⟨_, rfl, by rw [hlx2, hS.ofN]⟩
 cbv
 have hN : N = (n : Int) := hN
 refine loopZR ccOk mixed hS (fun (m : Nat) s' => ∃ (i : Nat) (I : Int) (r : Abs.Rows), I = i /\ i + m = n /\ r = rwrows (ys.take i) /\ s' = rplSt R D i r I) (n := n) (s0 := rplSt R D 0 [] 0) (qaq ?_ ?_) rfl (by show 2 <= 3; omega) ?_ ?_
 ·simp [leT, rplSt, mkSt, vi, vb]
 ·simp [leH, rplSt, mkSt]
 ·exact ⟨0, 0, [], rfl, by omega, rfl, rfl⟩
 ·rintro m s1 ⟨i, I, r, hI, him, hr, hs1⟩
  have hrl : r.length = i := by rw [hr, rwrows_len, List.length_take]; omega
  by_cases hi : i < n
  ·have l1 : zO I (zY (zh R)) = true := by rw [hN2, hS.lt]; exact decide_eq_true (by omega)
   obtain ⟨x, hxi, hnth⟩ := hget i hi
   have g1 : zP 0 I = true := by rw [hS.le]; exact decide_eq_true (by omega)
   have hz : zi R (zV I) = some [.v (.int .i8 x.n), .v (.int .i8 x.d), .v (.int .u8 x.k)] := by rw [hS.nat, hI, Int.toNat_natCast, hS.nth, hnth]; rfl
   obtain ⟨row, hrw⟩ : ∃ row, row = [Tree.v (.int .i8 x.n), .v (.int .i8 x.d), .v (.int .u8 0)] := ⟨_, rfl⟩
   have hr4 : row.length = 3 := by rw [hrw]; rfl
   have u0 : zo [row] 0 1 = [row] := by rw [hS.part]; rfl
   have u1 : zn 0 1 [row] = true := by rw [hS.fit]; rfl
   have u2 : zQ (za (zh [row]) 0) = true := by rw [hS.len, hS.neq, hS.not]; rfl
   have u3 : zt 3 [row] = true := by rw [hS.wide]; simp [hr4]
   have u4 : ze i (zh [row]) 3 = true := by rw [hS.len, hS.room]; exact decide_eq_true (by unfold capBytes; simp only [List.length_cons, List.length_nil]; omega)
   have u5 : za (zb 0 i) (zh r) = true := by rw [hS.nadd, hS.neq, hS.len, hrl, Nat.zero_add]; exact decide_eq_true rfl
   have u6 : zb i (zh [row]) = i + 1 := by rw [hS.len, hS.nadd]; rfl
   obtain ⟨r2, hr2⟩ : ∃ r2, r2 = rwrows (ys.take (i + 1)) := ⟨_, rfl⟩
   have u7 : zq r 0 [row] = r2 := by
    rw [hS.ext, List.drop_zero, hr, hr2, List.take_add_one, hxi, Option.toList_some, rwrows_app, hrw]; rfl
   obtain ⟨I', hI', i1⟩ : ∃ I' : Int, I' = ((i + 1 : Nat) : Int) /\ zA .i64 (zB I 1) = I' := ⟨I + 1, by omega, by rw [hS.add, hS.wrap, wrap_i64 (by omega) (by omega)]⟩
   have hmm : m - 1 < m := by omega
   have hnx : ∃ (i2 : Nat) (I2 : Int) (r' : Abs.Rows), I2 = i2 /\ i2 + (m - 1) = n /\ r' = rwrows (ys.take i2) /\ rplSt R D (i + 1) r2 I' = rplSt R D i2 r' I2 := ⟨i + 1, I', r2, hI', by omega, hr2, rfl⟩
   clear hget hr hr2 hrl
   subst hs1
   cbv
   refine bT l1 ?_
   rw [hz]
   cbv
   refine nd (g1) ?_
   rw [hz]
   cbv
   refine nd (g1) ?_
   rw [<- hrw, u0]
   refine nd (u1) ?_
   refine nd (u2) ?_
   refine nd (u3) ?_
   refine nd (u4) ?_
   refine nd (u5) ?_
   refine againR [(2, 4)] (s' := rplSt R D (i + 1) r2 I') (k := m - 1) ?_ ?_ ?_ ?_ rfl (by show 2 <= 3; omega) hmm hnx
   ·simp [leTR, rplSt, mkSt, vi, AV.ren, AV.noTup, Cell.ren, renF, i1, u6]
   ·simp [leHR, rplSt, mkSt, Abs.look, renF, Blk.ren, u7]
   ·simp [liveR, rplSt, mkSt]
   ·simp
  ·have l1 : zO I (zY (zh R)) = false := by rw [hN2, hS.lt]; exact decide_eq_false (by omega)
   have hrT : r = rwrows ys := by rw [hr, show i = ys.length by omega, List.take_length]
   rw [<- hrT] at cmd
   have f1 : zn 0 i r = true := by rw [hS.fit]; exact decide_eq_true (by omega)
   have f2 : zo r 0 i = r := by rw [hS.part, List.drop_zero, List.take_of_length_le (by omega)]
   clear hget hr
   subst hs1
   cbv
   refine bF l1 (nd f1 ?_)
   rw [f2]
   refine ⟨_, hS.call (cmd), ?_⟩
   cbv
   exact hF _ (ResLe.refl _)
end Go.Proofs.YtdhidmcjglokcaaGreat
end
