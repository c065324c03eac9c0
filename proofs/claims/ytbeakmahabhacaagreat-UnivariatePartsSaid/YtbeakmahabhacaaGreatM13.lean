/-
  A part of the proof: GabsSized, LawDvs7p, RnU7p, LawPar7p, SqfM, SqfF, SqfN7p, SqfW7p, QrbC7p, RupA7p, RupB7p, LawPaz7p, GabsMemo, Memo7pA, Memo7pB, Memo7pC, Memo7pD, Memo7pE, Memo7pF, Poly7p.
-/
import Derived.Test.YtbeakmahabhacaaGreatM12
import Derived.SizedLaws
set_option maxHeartbeats 0
set_option maxRecDepth 100000
set_option linter.unusedVariables false
set_option linter.unusedSimpArgs false
set_option linter.unusedSectionVars false
section
namespace Go.Abs
open Go.RowKit Go.WideShapes Go.ChangeShapes Go.ChangeAt
def okSz (P : Program) (t : TypeId) (ts : List Tree) : Prop := ∀ e cp rows, P.underlying t = some (.slice e) -> ts = [.lst cp rows] -> rows.length * P.bytesOf e <= reachBytes
def szAll (P : Program) : List TypeId -> List (List Tree) -> Prop
 | t :: tys, ts :: tss => okSz P t ts /\ szAll P tys tss
 | _, _ => True
section
variable {H : Type} {enc : TypeId × Value -> H} {P : Program} {w : World} {sp : Nat -> Bool} {hd : Bool}
theorem slice_len {t e : TypeId} {n : Nat} {cs : List Value} {x : DataW H × List MemPlace} (hu : P.underlying t = some (.slice e)) (hx : DataW.trod enc P w 0 sp hd n t cs = some x) {cp : Bool} {rows : List (List Tree)} (h : TRepL w [.lst cp rows] cs) :
  rows.length = 0 ∨ ∃ elems spare, x.1 = .slice elems spare /\ rows.length = elems.length := by
 have hl : ∀ b len cap, cs = [.slice b len cap] -> rows.length = len := fun b len cap hc => by
  have h2 := h.2 0 _ _ rfl (by rw [hc]; rfl)
  cases h2 with
  | lst => rfl
 rcases DataW.trod_slice hu hx with ⟨h1, h2⟩ | ⟨a, len, cap, elems, rest, n', h0, h1, h2, _, _, _, hel, _⟩
 ·exact .inl (hl _ _ _ h1)
 ·exact .inr ⟨_, _, by rw [h2], by rw [hl _ _ _ h1, List.length_map, hel]⟩
theorem args_read_sized : ∀ {tys : List TypeId} {shs : List Shape} {vs : List Value} {ds : List (DataW H)} {ps : List MemPlace}, DataW.TrodAll enc P w 0 sp true tys vs ds ps -> fitsAll P tys shs = true ->
  (∀ (j : Nat) t v, tys[j]? = some t -> vs[j]? = some v -> Value.okWide P w .any 0 t v) ->
  (∀ (j : Nat) t e elems spare, tys[j]? = some t -> ds[j]? = some (.slice elems spare) -> P.underlying t = some (.slice e) -> elems.length * P.bytesOf e <= reachBytes) ->
  ∃ tss, okAll shs tss /\ szAll P tys tss /\ vs.length = (tvs shs tss).length /\ ds.length = shs.length /\ ∀ (i : Nat) (x : TV), (tvs shs tss)[i]? = some x -> ∃ v, vs[i]? = some v /\ VRep noβ (old w) w x.av v
 | [], [], [], [], ps, h, hf, hv, hz => ⟨[], rfl, trivial, rfl, rfl, fun i x hx => by simp [tvs] at hx⟩
 | t :: ts, s :: ss, v :: vs, d :: ds, ps, h, hf, hv, hz => by
  obtain ⟨p, q, ⟨n, h1⟩, h2, _⟩ := h
  simp only [fitsAll, Bool.and_eq_true] at hf
  obtain ⟨⟨⟨f1, f2⟩, f3⟩, f4⟩ := hf
  obtain ⟨tss, g1, g0, g2, g3, g4⟩ := args_read_sized h2 f4 (fun j t v ht hx => hv (j + 1) t v (by simpa using ht) (by simpa using hx)) (fun j t e elems spare ht hd hu => hz (j + 1) t e elems spare (by simpa using ht) (by simpa using hd) hu)
  obtain ⟨tr, k1, k2⟩ := s.read t f1 n _ _ h1
  refine ⟨tr :: tss, ⟨tr, tss, rfl, k1, g1⟩, ⟨fun e cp rows hu ht => ?_, g0⟩, by simp [tvs, g2], by simp [g3], fun i x hx => ?_⟩
  ·subst ht
   rcases slice_len hu h1 k2 with e0 | ⟨elems, spare, e1, e2⟩
   ·rw [e0, Nat.zero_mul]; exact Nat.zero_le _
   rw [e2]
   exact hz 0 t e elems spare rfl (by rw [<- e1]; rfl) hu
  cases i with
  | zero =>
   simp only [tvs, List.getElem?_cons_zero, Option.some.injEq] at hx
   subst hx
   exact ⟨v, rfl, Shape.rep f1 (hv 0 t v rfl rfl) k1 k2⟩
  | succ i => simp only [tvs, List.getElem?_cons_succ] at hx ⊢; exact g4 i x hx
 | [], _ :: _, _, _, _, _, hf, _, _ => by simp [fitsAll] at hf
 | _ :: _, [], _, _, _, _, hf, _, _ => by simp [fitsAll] at hf
 | [], [], _ :: _, _, _, h, _, _, _ => by simp [DataW.TrodAll] at h
 | [], [], [], _ :: _, _, h, _, _, _ => by simp [DataW.TrodAll] at h
 | _ :: _, _ :: _, [], _, _, h, _, _, _ => by simp [DataW.TrodAll] at h
 | _ :: _, _ :: _, _ :: _, [], _, h, _, _, _ => by simp [DataW.TrodAll] at h
theorem law_row_sized {f : FuncId} {fn : Func} {spec : ChangeSpec} {shs : List Shape} {outs : List (Option Blk)} (hl : laidOutB P = true) (hf : fitsAll P fn.params.toList shs = true) (hvars : spec.vars = []) {tb0 : TypeId} (hres : fn.resultTypes = #[tb0]) (hb4 : P.underlying tb0 = some .bool)
  {apart fresh handsOn again : Bool} (hfn : ∀ ds : List (DataW H), ds.length = shs.length -> (spec.fn H ds).args = ds /\ (spec.fn H ds).results = [.lit (.bool true)] /\ (spec.fn H ds).vars = [])
  (hc : ∀ tss, okAll shs tss -> szAll P fn.params.toList tss -> ACall P f ((tvs shs tss).map .val) ⟨[.val (tb true)], outs⟩)
  {W : World} {args : Array Value} {ds gs : List (DataW H)} {before : List MemPlace} (hval : ∀ (j : Nat) t v, fn.params[j]? = some t -> args[j]? = some v -> Value.okWide P W .any 0 t v)
  (hW : DataW.Whole enc P fn.params.toList spec.vars apart W args.toList ds gs before) {vt : List TypeId}
  (hz : (DataW.weightsEach P (fn.params.toList ++ vt) (ds ++ gs)).all (· <= reachBytes) = true) :
  Calls P f args W fun e W' => ∃ v, e = .returned v /\ spec.post enc P fn apart fresh handsOn again W args v W' := by
 have hW' := hW
 obtain ⟨p, q, hA, hV, rfl, hfz, hnd⟩ := hW
 rw [hvars] at hV
 have hgq : gs = [] /\ q = [] := by
  cases gs with
  | nil => exact ⟨rfl, hV⟩
  | cons g gs => exact hV.elim
 obtain ⟨rfl, rfl⟩ := hgq
 obtain ⟨tss, hok, hsz, hlen, hdl, hrep⟩ := args_read_sized hA hf (fun j t v ht hv => hval j t v (by simpa using ht) (by simpa using hv)) (fun j t e elems spare ht hd hu => by
  have h1 := sized_slice hz (j := j) (t := t) (by rw [List.getElem?_append_left (List.getElem?_eq_some_iff.1 ht).1]; exact ht) (by rw [List.append_nil]; exact hd) hu
  exact Nat.le_trans (Nat.mul_le_mul_right _ (Nat.le_add_right _ _)) h1)
 have h := law_calls (hc tss hok hsz) W args.toList hlen hrep
 have hargs : args.toList.toArray = args := rfl
 rw [hargs] at h
 obtain ⟨e1, e2, e3⟩ := hfn ds hdl
 have hbefore : ∀ x ∈ p, x.block < W.heap.size := fun x hx => hW'.lt x (List.mem_append_left _ hx)
 refine h.mono fun e W' ⟨he, hg⟩ => ?_
 subst he
 refine ⟨_, rfl, post_of_below (pa := p) (pv := []) hW' (fun b sp hd => ?_) (fun sp hs => ?_) (fun sp hs => ?_) rfl hg ?_⟩
 ·rw [List.append_nil, e2, hres]
  exact trodAll_cons_mk (shut_bool hb4 _) trodAll_mk0
 ·rw [List.append_nil, e1]
  exact args_stay hl hg hA hf hbefore (fun x hx => hs x (List.mem_append_left _ hx))
 ·rw [List.append_nil, e3, hvars]; rfl
 ·exact ok_one hres rfl (okWide_bool_mk hb4 _)
theorem TRepL.cut {ts : List Tree} {cs : List Value} (h : TRepL w ts cs) (i m : Nat) : TRepL w ((ts.drop i).take m) ((cs.drop i).take m) := by
 refine ⟨by rw [List.length_take, List.length_take, List.length_drop, List.length_drop, h.1], fun j t v ht hv => ?_⟩
 rw [List.getElem?_take] at ht hv
 split at ht
 ·rename_i hj
  rw [if_pos hj] at hv
  rw [List.getElem?_drop] at ht hv
  exact h.2 _ t v ht hv
 ·cases ht
end
end Go.Abs
end
section
namespace Go.Proofs.YtbeakmahabhacaaGreat
open Go Go.Abs Go.Abs.M Go.Proofs
theorem monic_call {f : Rat -> Rat} {n s : Nat} {P : List Rat} (hP : PB f n s P) (hm : Mon P) (hn : n <= 1000) (hs : s <= 2000000000) :
  ACall Tryz.prog 9 [.val (tl (ur P))] ⟨[.val (tb true)], [none]⟩ := by
 have cv := pb_valid hP hn hs
 have cw := rqwhole_row 1 (by omega) (by omega)
 rw [show ((1 : Int) : Rat) = 1 from rfl] at cw
 have hl := hP.len
 have h1 : P.length ≠ 0 := fun h1 => hm.1 (List.length_eq_zero_iff.1 h1)
 have hPi : P[P.length - 1]? = some 1 := by rw [<- hm.2, List.getD_eq_getElem?_getD, List.getElem?_eq_getElem (by omega)]; rfl
 have cs := rqsame_row (x := 1) (y := 1) (Qs.whole (n := 1) (by decide) (Nat.le_refl 1)) rfl (by omega)
 have lP := qaf P
 have hX := qbx hPi
 obtain ⟨s1, t1, r1, p1, hrow, _⟩ := qrow 1
 rw [hrow] at cw cs hX
 generalize P.length = m at *
 generalize ur P = X at *
 refine callZ ccOk mixed [.val] Tryz.func9 rfl rfl (by kernel_rfl) fun zA zB zC zD zE zF zG zH zI zJ zK zL zM zN zO zP zQ zR zS zT zU zV zX zY zZ za zb zc zd ze zg zh zi zj zk zl zm zn zo zq zr zt zu zw zx zy zz zW zth A L F hS hF => ?_
 have e1 : zO 0 (zY (zh X)) = true := by rw [hS.lt, hS.ofN, hS.len, lP]; exact decide_eq_true (by omega)
 obtain ⟨J, hJ, j1⟩ : ∃ J : Int, J = ((m - 1 : Nat) : Int) /\ zT (zA .i64 (zC (zY (zh X)) 1)) 0 = J := ⟨(m : Int) - 1, by omega, by rw [hS.ofN, hS.len, lP, hS.sub, hS.wrap, wrap_i64 (by omega) (by omega), hS.max, if_neg (by omega)]⟩
 have g1 : zP 0 J = true := by rw [hS.le]; exact decide_eq_true (by omega)
 have hz : zi X (zV J) = some [.v (.bool s1), .lst false r1, .v (.bool t1), .lst false p1] := by rw [hS.nat, hJ, Int.toNat_natCast, hS.nth, hX]
 cbv
 refine bT (e1) ?_
 refine ⟨_, hS.call (cv), ?_⟩
 cbv
 refine bT ((rfl : true = true)) ?_
 rw [j1, hz]
 cbv
 refine nd (g1) ?_
 refine ⟨_, hS.call (cw), ?_⟩
 cbv
 refine ⟨_, hS.call (cs), ?_⟩
 cbv
 exact hF _ (ResLe.refl _)
theorem cf_divInt {s : Nat} {n d : Int} (hd : d ≠ 0) (n1 : -2 ^ s <= n) (n2 : n <= 2 ^ s) (d1 : -2 ^ s <= d) (d2 : d <= 2 ^ s) : CF s (fun _ => Rat.divInt n d) := by
 have hd0 : (d : Rat) ≠ 0 := fun h => by rw [Rat.intCast_eq_zero_iff] at h; omega
 have e : Rat.divInt n d * (d : Rat) = (n : Rat) := by rw [Rat.divInt_eq_div, Rat.div_mul_cancel hd0]
 rcases Int.lt_or_le d 0 with h | h
 ·refine ⟨-d, by omega, by omega, fun _ => ⟨-n, by omega, by omega, ?_⟩⟩
  rw [Rat.intCast_neg, Rat.intCast_neg, <- e]; grind
 ·exact ⟨d, d2, by omega, fun _ => ⟨n, n1, n2, e⟩⟩
theorem pb_plain (xs : List RW) (hx : ∀ x ∈ xs, x.ok) (D : Nat) (hD2 : D <= 100) (hlx : xs.length * 3 <= 140737488355328) :
  ∃ P, PB (Abs.ev P) (D + 1) ((D + 1) * 7) P /\ ACall Tryz.prog 5 [.val (tl (rwrows xs)), .val (ti .i64 (D : Int))] ⟨[.val (tl (ur P))], [none, none]⟩ := by
 have c := rplain_call xs hx D (by omega) (by omega) hlx
 rw [Int.toNat_natCast] at c
 refine ⟨_, ?_, c⟩
 have hc := CF.list (s := 7) (((xs.map RW.pl).take (D + 1)).map RW.q) fun q hq => by
  obtain ⟨y, hy, rfl⟩ := List.mem_map.1 hq
  obtain ⟨x, hx', rfl⟩ := List.mem_map.1 (List.mem_of_mem_take hy)
  have ho := hx x hx'
  have h1 := ho.n1
  have h2 := ho.n2
  have h3 := ho.d1
  have h4 := ho.d2
  have e7 : (2 : Int) ^ 7 = 128 := by decide
  show CF 7 fun _ => madeQ x.n x.d 0
  have en : madeN x.n 0 = x.n := rfl
  have ed : madeD x.d 0 = if x.d = 0 then 1 else x.d := rfl
  unfold madeQ
  rw [en, ed]
  by_cases h0 : x.d = 0
  ·rw [if_pos h0]; exact cf_divInt (by decide) (by omega) (by omega) (by omega) (by omega)
  ·rw [if_neg h0]; exact cf_divInt h0 (by omega) (by omega) (by omega) (by omega)
 have hl : (((xs.map RW.pl).take (D + 1)).map RW.q).length <= D + 1 := by rw [List.length_map, List.length_take]; omega
 exact (PB.of_trim (fun x => rfl) hl (hc.mono (Nat.mul_le_mul_right 7 hl))).congr fun x => (qbe _ x).symm
open Go Go.Abs Go.Proofs
structure RN where
 s : Bool
 r : Abs.Rows
 t : Bool
 p : Abs.Rows
def RN.row (c : RN) : List Tree := [.v (.bool c.s), .lst false c.r, .v (.bool c.t), .lst false c.p]
theorem hideP {L : Code -> St -> (AExit -> ST -> Prop) -> Prop} {c : Code} {st : St} {Q : AExit -> ST -> Prop} {e : AExit} {s : ST} (Pr : Prop) (main : ∀ Q' : AExit -> ST -> Prop, (Pr -> Q' e s) -> (∀ s, Q .ret s -> Q' .ret s) -> L c st Q') (rest : Pr -> Q e s) : L c st Q := main Q rest fun _ h => h
open Go Go.Abs Go.Abs.M Go.Proofs
structure PtR (R : Abs.Rows) (q : Nat) (f : Nat -> Abs.Rows) (ν : Nat -> Nat) : Prop where
 len : R.length = q
 row : ∀ i, i < q -> R[i]? = some [.lst false (f i), .v (.int .i64 (ν i : Int))]
 qb : q <= 20
 nb : ∀ i, i < q -> 1 <= ν i /\ ν i <= 20
def ptS (UA UP R Q : Abs.Rows) (g I : Int) : St := mkSt 200 [.junk, .junk, .junk, .junk, .junk, .junk, .junk, vb true, .c (.t (.lst false UA)), .junk, .junk, .c (.t (.lst false UP)), .c (.t (.lst false R)), .c (.t (.lst false Q)), vi .i64 g, vi .i64 I] [none, none, none]
def ptS1 (UA UP R Q : Abs.Rows) (g I : Int) (f : Abs.Rows) (K : Int) : St := mkSt 200 [.junk, .junk, .junk, .junk, .junk, .junk, .junk, vb true, .c (.t (.lst false UA)), .junk, .junk, .c (.t (.lst false UP)), .c (.t (.lst false R)), .c (.t (.lst false Q)), vi .i64 g, vi .i64 I, .c (.t (.lst false f)), vi .i64 K] [none, none, none]
def ptS2 (UA UP R Q : Abs.Rows) (g I : Int) (f : Abs.Rows) (K : Int) : St := mkSt 200 [.junk, .junk, .junk, .junk, .junk, .junk, .junk, vb true, .c (.t (.lst false UA)), .junk, .junk, .c (.t (.lst false UP)), .c (.t (.lst false R)), .c (.t (.lst false Q)), vi .i64 g, vi .i64 I, .c (.t (.lst false f)), .junk, vi .i64 K] [none, none, none]
def ptT (UA UP R Q S : Abs.Rows) (I : Int) : St := mkSt 200 [.junk, .junk, .junk, .junk, .junk, .junk, .junk, vb true, .c (.t (.lst false UA)), .junk, .junk, .c (.t (.lst false UP)), .c (.t (.lst false R)), .c (.t (.lst false Q)), .junk, .junk, .junk, .junk, .junk, .c (.t (.lst false S)), vi .i64 I] [none, none, none]
structure PtC (UA UP R UAA S : Abs.Rows) (q s : Nat) (f fs : Nat -> Abs.Rows) (ν νs : Nat -> Nat) (dg : Nat -> Nat) (Q : Nat -> Nat -> Abs.Rows) : Prop where
 h : PtR R q f ν
 inc : ∀ i, i + 1 < q -> ν i < ν (i + 1)
 d0 : dg 0 = 0
 ds : ∀ i, i < q -> dg (i + 1) = dg i + ν i * ((f i).length - 1)
 dl : ∀ i, i < q -> dg (i + 1) + 1 <= UP.length
 lp : UP.length <= 20
 la : UA.length <= 20
 fl : ∀ i, i < q -> 2 <= (f i).length
 cm : ∀ i, i < q -> ACall Tryz.prog 9 [.val (tl (f i))] ⟨[.val (tb true)], [none]⟩
 cd : ∀ i, i < q -> ∃ D O, ACall Tryz.prog 11 [.val (tl (f i))] ⟨[.val (tl D)], [none]⟩ /\ ACall Tryz.prog 10 [.val (tl (f i)), .val (tl D)] ⟨[.val (tl O)], [none, none]⟩ /\ O.length = 1
 cg : ∀ i, i < q -> ∀ k, k < i -> ∃ O, ACall Tryz.prog 10 [.val (tl (f i)), .val (tl (f k))] ⟨[.val (tl O)], [none, none]⟩ /\ O.length = 1
 q0 : Q 0 0 = ur [1]
 qn : ∀ i, i < q -> Q (i + 1) 0 = Q i (ν i)
 cp : ∀ i, i < q -> ∀ k, k < ν i -> ACall Tryz.prog 12 [.val (tl (Q i k)), .val (tl (f i))] ⟨[.val (tl (Q i (k + 1)))], [none, none]⟩
 hs : PtR S s fs νs
 ev : ∀ i, i < s -> νs i % 2 = 0
 e0 : UP.length = 0 -> q = 0
 fin : UP.length ≠ 0 -> (0 < s ↔ 1 < UA.length) /\ ∃ M, ACall Tryz.prog 14 [.val (tl UP)] ⟨[.val (tl M)], [none]⟩ /\ ACall Tryz.prog 13 [.val (tl (Q q 0)), .val (tl M)] ⟨[.val (tb true)], [none, none]⟩
theorem parts_walk (hsan : ACall Tryz.prog 4 [] ⟨[.val (tb true)], []⟩) (hp1 : ACall Tryz.prog 8 [.val (.c (.lst false [[.v (.int .i8 1)]]))] ⟨[.val (tl (ur [1]))], [none]⟩)
  {RX RY RZ UA UB UC U1 U2 U3 U4 UP R UAA S : Abs.Rows} {q s : Nat} {f fs : Nat -> Abs.Rows} {ν νs : Nat -> Nat} {dg : Nat -> Nat} {Q : Nat -> Nat -> Abs.Rows} (H : PtC UA UP R UAA S q s f fs ν νs dg Q)
  (ca : ACall Tryz.prog 5 [.val (tl RX), .val (ti .i64 2)] ⟨[.val (tl UA)], [none, none]⟩)
  (cb : ACall Tryz.prog 5 [.val (tl RY), .val (ti .i64 2)] ⟨[.val (tl UB)], [none, none]⟩)
  (cc : ACall Tryz.prog 5 [.val (tl RZ), .val (ti .i64 1)] ⟨[.val (tl UC)], [none, none]⟩)
  (m1 : ACall Tryz.prog 6 [.val (tl UB), .val (tl UB)] ⟨[.val (tl U1)], [none, none]⟩)
  (m2 : ACall Tryz.prog 6 [.val (tl UA), .val (tl U1)] ⟨[.val (tl U2)], [none, none]⟩)
  (m3 : ACall Tryz.prog 6 [.val (tl UC), .val (tl UC)] ⟨[.val (tl U3)], [none, none]⟩)
  (m4 : ACall Tryz.prog 6 [.val (tl UC), .val (tl U3)] ⟨[.val (tl U4)], [none, none]⟩)
  (m5 : ACall Tryz.prog 6 [.val (tl U2), .val (tl U4)] ⟨[.val (tl UP)], [none, none]⟩)
  (cl : ACall Tryz.prog 7 [.val (tl UP)] ⟨[.val (tl R)], [none]⟩)
  (ms : ACall Tryz.prog 6 [.val (tl UA), .val (tl UA)] ⟨[.val (tl UAA)], [none, none]⟩)
  (cs : ACall Tryz.prog 7 [.val (tl UAA)] ⟨[.val (tl S)], [none]⟩) :
  ACall Tryz.prog 3 [.val (tl RX), .val (tl RY), .val (tl RZ)] ⟨[.val (tb true)], [none, none, none]⟩ := by
 obtain ⟨W0, hW0⟩ : ∃ x, x = ur [1] := ⟨_, rfl⟩
 rw [<- hW0] at hp1
 have hqb := H.h.qb
 have hsb := H.hs.qb
 have hlp := H.lp
 have hla := H.la
 refine callZ ccOk mixed [.val] Tryz.func3 rfl rfl (by kernel_rfl) fun zA zB zC zD zE zF zG zH zI zJ zK zL zM zN zO zP zQ zR zS zT zU zV zX zY zZ za zb zc zd ze zg zh zi zj zk zl zm zn zo zq zr zt zu zw zx zy zz zW zth A L F hS hF => ?_
 have y0 : zQ true = false := by rw [hS.not]; rfl
 have f0 : zn 0 1 [[Tree.v (Value.int IntKind.i8 1)]] = true := by rw [hS.fit]; rfl
 have f1 : zo [[Tree.v (Value.int IntKind.i8 1)]] 0 1 = [[Tree.v (Value.int IntKind.i8 1)]] := by rw [hS.part]; rfl
 obtain ⟨RQ, hRQ, hRQ2⟩ : ∃ N : Int, N = q /\ zY (zh R) = N := ⟨_, rfl, by rw [hS.ofN, hS.len, H.h.len]⟩
 obtain ⟨SQ, hSQ, hSQ2⟩ : ∃ N : Int, N = s /\ zY (zh S) = N := ⟨_, rfl, by rw [hS.ofN, hS.len, H.hs.len]⟩
 have ePN : zY (zh UP) = (UP.length : Int) := by rw [hS.ofN, hS.len]
 have eAN : zY (zh UA) = (UA.length : Int) := by rw [hS.ofN, hS.len]
 obtain ⟨PN, hPN⟩ : ∃ x : Int, x = (UP.length : Int) := ⟨_, rfl⟩
 rw [<- hPN] at ePN
 cbv
 refine ⟨_, hS.call (hsan), ?_⟩
 cbv
 refine bF (y0) ?_
 refine ⟨_, hS.call (ca), ?_⟩
 cbv
 refine ⟨_, hS.call (cb), ?_⟩
 cbv
 refine ⟨_, hS.call (cc), ?_⟩
 cbv
 refine ⟨_, hS.call (m1), ?_⟩
 cbv
 refine ⟨_, hS.call (m2), ?_⟩
 cbv
 refine ⟨_, hS.call (m3), ?_⟩
 cbv
 refine ⟨_, hS.call (m4), ?_⟩
 cbv
 refine ⟨_, hS.call (m5), ?_⟩
 cbv
 refine ⟨_, hS.call (cl), ?_⟩
 cbv
 refine nd (f0) ?_
 rw [f1]
 refine ⟨_, hS.call (hp1), ?_⟩
 cbv
 have hRQ : RQ = (q : Int) := hRQ
 have hSQ : SQ = (s : Int) := hSQ
 have hPN : PN = (UP.length : Int) := hPN
 obtain ⟨UQ, hUQ⟩ : ∃ x, x = Q q 0 := ⟨_, rfl⟩
 obtain ⟨DQ, hDQ⟩ : ∃ x : Int, x = (dg q : Int) := ⟨_, rfl⟩
 apply hideP (L := L) True
 ·intro Q1 hqq hret1
  refine loopZR ccOk mixed hS (fun (m : Nat) s' => ∃ (i : Nat) (I g : Int) (V : Abs.Rows), I = i /\ m + i = q /\ g = (dg i : Int) /\ V = Q i 0 /\ s' = ptS UA UP R V g I) (n := q) (s0 := ptS UA UP R W0 0 0) (qat ?_ ?_) rfl (Nat.succ_le_succ (Nat.succ_le_succ (Nat.succ_le_succ (Nat.zero_le _)))) ?_ ?_
  ·simp [leT, ptS, mkSt, vi, vb]
  ·simp [leH, ptS, mkSt]
  ·exact ⟨0, 0, 0, W0, rfl, by omega, by rw [H.d0]; rfl, by rw [hW0, H.q0], rfl⟩
  ·rintro m sx ⟨i, I, DG, U, hI, hm, hDG, hU, hs1⟩
   have hI : I = (i : Int) := hI
   by_cases hin : i = q
   ·have l1 : zO RQ RQ = false := by rw [hS.lt]; exact decide_eq_false (by omega)
    obtain rfl : RQ = I := by have hRQ : RQ = (q : Int) := hRQ; omega
    obtain rfl : UQ = U := by rw [hU, hUQ, hin]
    obtain rfl : DQ = DG := by rw [hDG, hDQ, hin]
    subst hs1
    cbv
    rw [hRQ2]
    refine bF l1 ?_
    exact hqq trivial
   ·have hin : i < q := by omega
    have l1 : zO I RQ = true := by rw [hS.lt]; exact decide_eq_true (by omega)
    obtain ⟨fi, hfi⟩ : ∃ x, x = f i := ⟨_, rfl⟩
    obtain ⟨NI, hNI⟩ : ∃ x : Int, x = (ν i : Int) := ⟨_, rfl⟩
    have j1 : zV I = i := by rw [hS.nat]; omega
    have j2 : zi R i = some [.lst false fi, .v (.int .i64 NI)] := by rw [hS.nth, hfi, hNI]; exact H.h.row i hin
    have n0 : zP 0 I = true := by rw [hS.le]; exact decide_eq_true (by omega)
    have cmi := H.cm i hin
    obtain ⟨D, O, cd1, cd2, lO⟩ := H.cd i hin
    have hfl := H.fl i hin
    have hds := H.ds i hin
    have hdl := H.dl i hin
    obtain ⟨nb1, nb2⟩ := H.h.nb i hin
    rw [<- hfi] at cmi cd1 cd2 hfl hds
    have hfb : fi.length - 1 <= ν i * (fi.length - 1) := Nat.le_mul_of_pos_left _ (by omega)
    have e2 : zO (zY (zh fi)) 2 = false := by rw [hS.ofN, hS.len, hS.lt]; exact decide_eq_false (by omega)
    have e3 : zO NI 1 = false := by rw [hS.lt]; exact decide_eq_false (by omega)
    have e4 : zO 20 NI = false := by rw [hS.lt]; exact decide_eq_false (by omega)
    obtain ⟨LF, hLF, q1⟩ : ∃ LF : Int, LF = (fi.length : Int) - 1 /\ zA .i64 (zC (zY (zh fi)) 1) = LF := ⟨(fi.length : Int) - 1, rfl, by rw [hS.ofN, hS.len, hS.sub, hS.wrap, wrap_i64 (by omega) (by omega)]⟩
    have hmu : ((ν i * (fi.length - 1) : Nat) : Int) = NI * LF := by rw [Int.natCast_mul, hNI, hLF]; congr 1; omega
    obtain ⟨ML, hML, q2⟩ : ∃ ML : Int, ML = ((ν i * (fi.length - 1) : Nat) : Int) /\ zA .i64 (zD NI LF) = ML := ⟨_, rfl, by rw [hS.mul, <- hmu, hS.wrap, wrap_i64 (by omega) (by omega)]⟩
    obtain ⟨DG', hdd, q3⟩ : ∃ DG' : Int, DG' = (dg (i + 1) : Int) /\ zA .i64 (zB DG ML) = DG' := ⟨DG + ML, by omega, by rw [hS.add, hS.wrap, wrap_i64 (by omega) (by omega)]⟩
    obtain ⟨LP, hLP, q4⟩ : ∃ LP : Int, LP = PN - 1 /\ zA .i64 (zC PN 1) = LP := ⟨PN - 1, rfl, by rw [hS.sub, hS.wrap, wrap_i64 (by omega) (by omega)]⟩
    have e7 : zO LP DG' = false := by rw [hS.lt]; exact decide_eq_false (by omega)
    have o1 : zN (zY (zh O)) 1 = false := by rw [hS.ofN, hS.len, lO, hS.ne]; exact decide_eq_false (by omega)
    obtain ⟨U', hU'⟩ : ∃ x, x = Q (i + 1) 0 := ⟨_, rfl⟩
    by_cases hi0 : i = 0
    ·have e5 : zO 0 I = false := by rw [hS.lt]; exact decide_eq_false (by omega)
     clear hmu hML hLF hLP
     subst hs1
     cbv
     rw [hRQ2]
     refine bT l1 ?_
     rw [j1, j2]
     cbv
     refine nd (n0) ?_
     refine ⟨_, hS.call (cmi), ?_⟩
     cbv
     refine bF (y0) ?_
     refine bF (e2) ?_
     rw [j1, j2]
     cbv
     refine nd (n0) ?_
     refine bF (e3) ?_
     rw [j1, j2]
     cbv
     refine nd (n0) ?_
     refine bF (e4) ?_
     refine bF (e5) ?_
     rw [j1, j2]
     cbv
     refine nd (n0) ?_
     rw [q1, q2, q3, ePN, q4]
     refine bF (e7) ?_
     rw [j1, j2]
     cbv
     refine nd (n0) ?_
     rw [q1, q2, q3]
     refine ⟨_, hS.call (cd1), ?_⟩
     cbv
     refine ⟨_, hS.call (cd2), ?_⟩
     cbv
     refine bF (o1) ?_
     apply hideP (L := L) True
     ·intro Q' hq hret
      refine loopZR ccOk mixed hS (fun (m : Nat) s' => ∃ (k : Nat) (K : Int), K = k /\ m + k = i /\ s' = ptS1 UA UP R U DG' I fi K) (n := i) (s0 := ptS1 UA UP R U DG' I fi 0) (qat ?_ ?_) rfl (Nat.succ_le_succ (Nat.succ_le_succ (Nat.succ_le_succ (Nat.zero_le _)))) ?_ ?_
      ·simp [leT, ptS1, mkSt, vi, vb, iT]
      ·simp [leH, ptS1, mkSt]
      ·exact ⟨0, 0, rfl, by omega, rfl⟩
      ·rintro m2 sx ⟨k, K, hK, hm2, hs1⟩
       have hK : K = (k : Int) := hK
       have hI : I = (i : Int) := hI
       by_cases hk : k = i
       ·have l3 : zO K I = false := by rw [hS.lt]; exact decide_eq_false (by omega)
        have hKI : K = I := by omega
        subst hKI
        subst hs1
        cbv
        refine bF l3 ?_
        exact hq trivial
       ·have hk : k < i := by omega
        have l3 : zO K I = true := by rw [hS.lt]; exact decide_eq_true (by omega)
        obtain ⟨O2, cO, lO2⟩ := H.cg i hin k hk
        have k1 : zV K = k := by rw [hS.nat]; omega
        obtain ⟨fk, hfk⟩ : ∃ x, x = f k := ⟨_, rfl⟩
        obtain ⟨nk, hnk⟩ : ∃ x : Int, x = (ν k : Int) := ⟨_, rfl⟩
        have k2 : zi R k = some [.lst false fk, .v (.int .i64 nk)] := by rw [hS.nth, hfk, hnk]; exact H.h.row k (by omega)
        rw [<- hfi, <- hfk] at cO
        have n2 : zP 0 K = true := by rw [hS.le]; exact decide_eq_true (by omega)
        have o2 : zN (zY (zh O2)) 1 = false := by rw [hS.ofN, hS.len, lO2, hS.ne]; exact decide_eq_false (by omega)
        obtain ⟨K', hK', i1⟩ : ∃ K' : Int, K' = ((k + 1 : Nat) : Int) /\ zA .i64 (zB K 1) = K' := ⟨K + 1, by omega, by rw [hS.add, hS.wrap, wrap_i64 (by omega) (by omega)]⟩
        have hmm : m2 - 1 < m2 := by omega
        have hnx : ∃ (k2 : Nat) (K2 : Int), K2 = k2 /\ (m2 - 1) + k2 = i /\ ptS1 UA UP R U DG' I fi K' = ptS1 UA UP R U DG' I fi K2 := ⟨k + 1, K', hK', by omega, rfl⟩
        clear hfk hnk
        subst hs1
        cbv
        refine bT l3 ?_
        rw [k1, k2]
        cbv
        refine nd (n2) ?_
        refine ⟨_, hS.call (cO), ?_⟩
        cbv
        refine bF (o2) ?_
        exact againR [] (s' := ptS1 UA UP R U DG' I fi K') (k := m2 - 1) (by simp [leTR, ptS1, mkSt, vi, vb, AV.ren, AV.noTup, Cell.ren, i1, renF]) (by simp [leHR, ptS1, mkSt]) (by simp [liveR, ptS1, mkSt]) (by simp) rfl (Nat.succ_le_succ (Nat.succ_le_succ (Nat.succ_le_succ (Nat.zero_le _)))) hmm hnx
     ·intro _
      cbv
      apply hideP (L := L) True
      ·intro Q' hq hret
       refine loopZR ccOk mixed hS (fun (m : Nat) s' => ∃ (k : Nat) (K : Int) (V : Abs.Rows), K = k /\ m + k = ν i /\ V = Q i k /\ s' = ptS2 UA UP R V DG' I fi K) (n := ν i) (s0 := ptS2 UA UP R U DG' I fi 0) (qat ?_ ?_) rfl (Nat.succ_le_succ (Nat.succ_le_succ (Nat.succ_le_succ (Nat.zero_le _)))) ?_ ?_
       ·simp [leT, ptS2, mkSt, vi, vb]
       ·simp [leH, ptS2, mkSt]
       ·exact ⟨0, 0, U, rfl, by omega, hU, rfl⟩
       ·rintro m2 sx ⟨k, K, V, hK, hm2, hV, hs1⟩
        have hK : K = (k : Int) := hK
        have hI : I = (i : Int) := hI
        have hNI : NI = (ν i : Int) := hNI
        by_cases hk : k = ν i
        ·have hKI : K = NI := by omega
         have hVU : V = U' := by rw [hV, hU', hk]; exact (H.qn i hin).symm
         subst hVU
         subst hKI
         have l3 : zO K K = false := by rw [hS.lt]; exact decide_eq_false (by omega)
         subst hs1
         cbv
         rw [j1, j2]
         cbv
         refine nd (n0) ?_
         refine bF l3 ?_
         exact hq trivial
        ·have hk : k < ν i := by omega
         have l3 : zO K NI = true := by rw [hS.lt]; exact decide_eq_true (by omega)
         have cO := H.cp i hin k hk
         obtain ⟨V', hV'⟩ : ∃ x, x = Q i (k + 1) := ⟨_, rfl⟩
         rw [<- hfi, <- hV, <- hV'] at cO
         obtain ⟨K', hK', i1⟩ : ∃ K' : Int, K' = ((k + 1 : Nat) : Int) /\ zA .i64 (zB K 1) = K' := ⟨K + 1, by omega, by rw [hS.add, hS.wrap, wrap_i64 (by omega) (by omega)]⟩
         have hmm : m2 - 1 < m2 := by omega
         have hnx : ∃ (k2 : Nat) (K2 : Int) (V2 : Abs.Rows), K2 = k2 /\ (m2 - 1) + k2 = ν i /\ V2 = Q i k2 /\ ptS2 UA UP R V' DG' I fi K' = ptS2 UA UP R V2 DG' I fi K2 := ⟨k + 1, K', V', hK', by omega, hV', rfl⟩
         clear hV hV'
         subst hs1
         cbv
         rw [j1, j2]
         cbv
         refine nd (n0) ?_
         refine bT l3 ?_
         refine ⟨_, hS.call (cO), ?_⟩
         cbv
         exact againR [] (s' := ptS2 UA UP R V' DG' I fi K') (k := m2 - 1) (by simp [leTR, ptS2, mkSt, vi, vb, AV.ren, AV.noTup, Cell.ren, i1, renF]) (by simp [leHR, ptS2, mkSt]) (by simp [liveR, ptS2, mkSt]) (by simp) rfl (Nat.succ_le_succ (Nat.succ_le_succ (Nat.succ_le_succ (Nat.zero_le _)))) hmm hnx
      ·intro _
       have hI : I = (i : Int) := hI
       obtain ⟨I', hI', i1⟩ : ∃ I' : Int, I' = ((i + 1 : Nat) : Int) /\ zA .i64 (zB I 1) = I' := ⟨I + 1, by omega, by rw [hS.add, hS.wrap, wrap_i64 (by omega) (by omega)]⟩
       have hmm : m - 1 < m := by omega
       have hnx : ∃ (i2 : Nat) (I2 g2 : Int) (V2 : Abs.Rows), I2 = i2 /\ (m - 1) + i2 = q /\ g2 = (dg i2 : Int) /\ V2 = Q i2 0 /\ ptS UA UP R U' DG' I' = ptS UA UP R V2 g2 I2 := ⟨i + 1, I', DG', U', hI', by omega, hdd, hU', rfl⟩
       cbv
       exact againR [] (s' := ptS UA UP R U' DG' I') (k := m - 1) (by simp [leTR, ptS, mkSt, vi, vb, AV.ren, AV.noTup, Cell.ren, i1, renF]) (by simp [leHR, ptS, mkSt]) (by simp [liveR, ptS, mkSt]) (by simp) rfl (Nat.succ_le_succ (Nat.succ_le_succ (Nat.succ_le_succ (Nat.zero_le _)))) hmm hnx
    ·have e5 : zO 0 I = true := by rw [hS.lt]; exact decide_eq_true (by omega)
     obtain ⟨J, hJ, jj⟩ : ∃ J : Int, J = ((i - 1 : Nat) : Int) /\ zA .i64 (zC I 1) = J := ⟨I - 1, by omega, by rw [hS.sub, hS.wrap, wrap_i64 (by omega) (by omega)]⟩
     obtain ⟨NJ, hNJ⟩ : ∃ x : Int, x = (ν (i - 1) : Int) := ⟨_, rfl⟩
     obtain ⟨fj, hfj⟩ : ∃ x, x = f (i - 1) := ⟨_, rfl⟩
     have g1 : zV J = i - 1 := by rw [hS.nat]; omega
     have g2 : zi R (i - 1) = some [.lst false fj, .v (.int .i64 NJ)] := by rw [hS.nth, hfj, hNJ]; exact H.h.row (i - 1) (by omega)
     have n1 : zP 0 J = true := by rw [hS.le]; exact decide_eq_true (by omega)
     have e6 : zP NI NJ = false := by
      have hh := H.inc (i - 1) (by omega)
      rw [show i - 1 + 1 = i by omega] at hh
      rw [hS.le]; exact decide_eq_false (by omega)
     clear hmu hML hLF hLP hJ hNJ hfj
     subst hs1
     cbv
     rw [hRQ2]
     refine bT l1 ?_
     rw [j1, j2]
     cbv
     refine nd (n0) ?_
     refine ⟨_, hS.call (cmi), ?_⟩
     cbv
     refine bF (y0) ?_
     refine bF (e2) ?_
     rw [j1, j2]
     cbv
     refine nd (n0) ?_
     refine bF (e3) ?_
     rw [j1, j2]
     cbv
     refine nd (n0) ?_
     refine bF (e4) ?_
     refine bT (e5) ?_
     rw [j1, j2]
     cbv
     refine nd (n0) ?_
     rw [jj, g1, g2]
     cbv
     refine nd (n1) ?_
     refine bF (e6) ?_
     rw [j1, j2]
     cbv
     refine nd (n0) ?_
     rw [q1, q2, q3, ePN, q4]
     refine bF (e7) ?_
     rw [j1, j2]
     cbv
     refine nd (n0) ?_
     rw [q1, q2, q3]
     refine ⟨_, hS.call (cd1), ?_⟩
     cbv
     refine ⟨_, hS.call (cd2), ?_⟩
     cbv
     refine bF (o1) ?_
     apply hideP (L := L) True
     ·intro Q' hq hret
      refine loopZR ccOk mixed hS (fun (m : Nat) s' => ∃ (k : Nat) (K : Int), K = k /\ m + k = i /\ s' = ptS1 UA UP R U DG' I fi K) (n := i) (s0 := ptS1 UA UP R U DG' I fi 0) (qat ?_ ?_) rfl (Nat.succ_le_succ (Nat.succ_le_succ (Nat.succ_le_succ (Nat.zero_le _)))) ?_ ?_
      ·simp [leT, ptS1, mkSt, vi, vb, iT]
      ·simp [leH, ptS1, mkSt]
      ·exact ⟨0, 0, rfl, by omega, rfl⟩
      ·rintro m2 sx ⟨k, K, hK, hm2, hs1⟩
       have hK : K = (k : Int) := hK
       have hI : I = (i : Int) := hI
       by_cases hk : k = i
       ·have l3 : zO K I = false := by rw [hS.lt]; exact decide_eq_false (by omega)
        have hKI : K = I := by omega
        subst hKI
        subst hs1
        cbv
        refine bF l3 ?_
        exact hq trivial
       ·have hk : k < i := by omega
        have l3 : zO K I = true := by rw [hS.lt]; exact decide_eq_true (by omega)
        obtain ⟨O2, cO, lO2⟩ := H.cg i hin k hk
        have k1 : zV K = k := by rw [hS.nat]; omega
        obtain ⟨fk, hfk⟩ : ∃ x, x = f k := ⟨_, rfl⟩
        obtain ⟨nk, hnk⟩ : ∃ x : Int, x = (ν k : Int) := ⟨_, rfl⟩
        have k2 : zi R k = some [.lst false fk, .v (.int .i64 nk)] := by rw [hS.nth, hfk, hnk]; exact H.h.row k (by omega)
        rw [<- hfi, <- hfk] at cO
        have n2 : zP 0 K = true := by rw [hS.le]; exact decide_eq_true (by omega)
        have o2 : zN (zY (zh O2)) 1 = false := by rw [hS.ofN, hS.len, lO2, hS.ne]; exact decide_eq_false (by omega)
        obtain ⟨K', hK', i1⟩ : ∃ K' : Int, K' = ((k + 1 : Nat) : Int) /\ zA .i64 (zB K 1) = K' := ⟨K + 1, by omega, by rw [hS.add, hS.wrap, wrap_i64 (by omega) (by omega)]⟩
        have hmm : m2 - 1 < m2 := by omega
        have hnx : ∃ (k2 : Nat) (K2 : Int), K2 = k2 /\ (m2 - 1) + k2 = i /\ ptS1 UA UP R U DG' I fi K' = ptS1 UA UP R U DG' I fi K2 := ⟨k + 1, K', hK', by omega, rfl⟩
        clear hfk hnk
        subst hs1
        cbv
        refine bT l3 ?_
        rw [k1, k2]
        cbv
        refine nd (n2) ?_
        refine ⟨_, hS.call (cO), ?_⟩
        cbv
        refine bF (o2) ?_
        exact againR [] (s' := ptS1 UA UP R U DG' I fi K') (k := m2 - 1) (by simp [leTR, ptS1, mkSt, vi, vb, AV.ren, AV.noTup, Cell.ren, i1, renF]) (by simp [leHR, ptS1, mkSt]) (by simp [liveR, ptS1, mkSt]) (by simp) rfl (Nat.succ_le_succ (Nat.succ_le_succ (Nat.succ_le_succ (Nat.zero_le _)))) hmm hnx
     ·intro _
      cbv
      apply hideP (L := L) True
      ·intro Q' hq hret
       refine loopZR ccOk mixed hS (fun (m : Nat) s' => ∃ (k : Nat) (K : Int) (V : Abs.Rows), K = k /\ m + k = ν i /\ V = Q i k /\ s' = ptS2 UA UP R V DG' I fi K) (n := ν i) (s0 := ptS2 UA UP R U DG' I fi 0) (qat ?_ ?_) rfl (Nat.succ_le_succ (Nat.succ_le_succ (Nat.succ_le_succ (Nat.zero_le _)))) ?_ ?_
       ·simp [leT, ptS2, mkSt, vi, vb]
       ·simp [leH, ptS2, mkSt]
       ·exact ⟨0, 0, U, rfl, by omega, hU, rfl⟩
       ·rintro m2 sx ⟨k, K, V, hK, hm2, hV, hs1⟩
        have hK : K = (k : Int) := hK
        have hI : I = (i : Int) := hI
        have hNI : NI = (ν i : Int) := hNI
        by_cases hk : k = ν i
        ·have hKI : K = NI := by omega
         have hVU : V = U' := by rw [hV, hU', hk]; exact (H.qn i hin).symm
         subst hVU
         subst hKI
         have l3 : zO K K = false := by rw [hS.lt]; exact decide_eq_false (by omega)
         subst hs1
         cbv
         rw [j1, j2]
         cbv
         refine nd (n0) ?_
         refine bF l3 ?_
         exact hq trivial
        ·have hk : k < ν i := by omega
         have l3 : zO K NI = true := by rw [hS.lt]; exact decide_eq_true (by omega)
         have cO := H.cp i hin k hk
         obtain ⟨V', hV'⟩ : ∃ x, x = Q i (k + 1) := ⟨_, rfl⟩
         rw [<- hfi, <- hV, <- hV'] at cO
         obtain ⟨K', hK', i1⟩ : ∃ K' : Int, K' = ((k + 1 : Nat) : Int) /\ zA .i64 (zB K 1) = K' := ⟨K + 1, by omega, by rw [hS.add, hS.wrap, wrap_i64 (by omega) (by omega)]⟩
         have hmm : m2 - 1 < m2 := by omega
         have hnx : ∃ (k2 : Nat) (K2 : Int) (V2 : Abs.Rows), K2 = k2 /\ (m2 - 1) + k2 = ν i /\ V2 = Q i k2 /\ ptS2 UA UP R V' DG' I fi K' = ptS2 UA UP R V2 DG' I fi K2 := ⟨k + 1, K', V', hK', by omega, hV', rfl⟩
         clear hV hV'
         subst hs1
         cbv
         rw [j1, j2]
         cbv
         refine nd (n0) ?_
         refine bT l3 ?_
         refine ⟨_, hS.call (cO), ?_⟩
         cbv
         exact againR [] (s' := ptS2 UA UP R V' DG' I fi K') (k := m2 - 1) (by simp [leTR, ptS2, mkSt, vi, vb, AV.ren, AV.noTup, Cell.ren, i1, renF]) (by simp [leHR, ptS2, mkSt]) (by simp [liveR, ptS2, mkSt]) (by simp) rfl (Nat.succ_le_succ (Nat.succ_le_succ (Nat.succ_le_succ (Nat.zero_le _)))) hmm hnx
      ·intro _
       have hI : I = (i : Int) := hI
       obtain ⟨I', hI', i1⟩ : ∃ I' : Int, I' = ((i + 1 : Nat) : Int) /\ zA .i64 (zB I 1) = I' := ⟨I + 1, by omega, by rw [hS.add, hS.wrap, wrap_i64 (by omega) (by omega)]⟩
       have hmm : m - 1 < m := by omega
       have hnx : ∃ (i2 : Nat) (I2 g2 : Int) (V2 : Abs.Rows), I2 = i2 /\ (m - 1) + i2 = q /\ g2 = (dg i2 : Int) /\ V2 = Q i2 0 /\ ptS UA UP R U' DG' I' = ptS UA UP R V2 g2 I2 := ⟨i + 1, I', DG', U', hI', by omega, hdd, hU', rfl⟩
       cbv
       exact againR [] (s' := ptS UA UP R U' DG' I') (k := m - 1) (by simp [leTR, ptS, mkSt, vi, vb, AV.ren, AV.noTup, Cell.ren, i1, renF]) (by simp [leHR, ptS, mkSt]) (by simp [liveR, ptS, mkSt]) (by simp) rfl (Nat.succ_le_succ (Nat.succ_le_succ (Nat.succ_le_succ (Nat.zero_le _)))) hmm hnx
 ·intro _
  have hSQ : SQ = (s : Int) := hSQ
  cbv
  refine ⟨_, hS.call (ms), ?_⟩
  cbv
  refine ⟨_, hS.call (cs), ?_⟩
  cbv
  refine loopZR ccOk mixed hS (fun (m : Nat) s' => ∃ (i : Nat) (I : Int), I = i /\ m + i = s /\ s' = ptT UA UP R UQ S I) (n := s) (s0 := ptT UA UP R UQ S 0) (qat ?_ ?_) rfl (Nat.succ_le_succ (Nat.succ_le_succ (Nat.succ_le_succ (Nat.zero_le _)))) ?_ ?_
  ·simp [leT, ptT, mkSt, vi, vb]
  ·simp [leH, ptT, mkSt]
  ·exact ⟨0, 0, rfl, by omega, rfl⟩
  ·rintro m sx ⟨i, I, hI, hm, hs1⟩
   have hI : I = (i : Int) := hI
   have hSQ : SQ = (s : Int) := hSQ
   by_cases hin : i = s
   ·have l1 : zO I SQ = false := by rw [hS.lt]; exact decide_eq_false (by omega)
    have hPN : PN = (UP.length : Int) := hPN
    by_cases hp0 : UP.length = 0
    ·have t1 : zM PN 0 = true := by rw [hS.eq]; exact decide_eq_true (by omega)
     have t2 : zM RQ 0 = true := by have := H.e0 hp0; have hRQ : RQ = (q : Int) := hRQ; rw [hS.eq]; exact decide_eq_true (by omega)
     subst hs1
     cbv
     rw [hSQ2]
     refine bF l1 ?_
     rw [ePN]
     refine bT (t1) ?_
     refine bT ((rfl : true = true)) ?_
     rw [hRQ2]
     exact fin1 hF (tv_bool t2)
    ·have t1 : zM PN 0 = false := by rw [hS.eq]; exact decide_eq_false (by omega)
     obtain ⟨g1, M, g2, g3⟩ := H.fin hp0
     rw [<- hUQ] at g3
     have t3 : zR (zO 0 SQ) (zO 1 (zY (zh UA))) = true := by
      rw [eAN, hS.lt, hS.lt, hS.beq]
      by_cases h1 : 0 < s
      ·rw [decide_eq_true (show (0 : Int) < SQ by omega), decide_eq_true (show (1 : Int) < (UA.length : Int) by have := g1.1 h1; omega)]; rfl
      ·rw [decide_eq_false (show ¬ (0 : Int) < SQ by omega), decide_eq_false (show ¬ (1 : Int) < (UA.length : Int) by intro h; exact h1 (g1.2 (by omega)))]; rfl
     subst hs1
     cbv
     rw [hSQ2]
     refine bF l1 ?_
     rw [ePN]
     refine bF (t1) ?_
     refine bT ((rfl : true = true)) ?_
     refine ⟨_, hS.call (g2), ?_⟩
     cbv
     refine ⟨_, hS.call (g3), ?_⟩
     cbv
     refine bT ((rfl : true = true)) ?_
     rw [hSQ2]
     exact fin1 hF (tv_bool t3)
   ·have hin : i < s := by omega
    have l1 : zO I SQ = true := by rw [hS.lt]; exact decide_eq_true (by omega)
    obtain ⟨fi, hfi⟩ : ∃ x, x = fs i := ⟨_, rfl⟩
    obtain ⟨NI, hNI⟩ : ∃ x : Int, x = (νs i : Int) := ⟨_, rfl⟩
    have j1 : zV I = i := by rw [hS.nat]; omega
    have j2 : zi S i = some [.lst false fi, .v (.int .i64 NI)] := by rw [hS.nth, hfi, hNI]; exact H.hs.row i hin
    have n0 : zP 0 I = true := by rw [hS.le]; exact decide_eq_true (by omega)
    have hev := H.ev i hin
    have t4 : zN (zF NI 2) 0 = false := by
     rw [hS.rem, hS.ne, hNI]
     refine decide_eq_false (fun h => h ?_)
     rw [show (2 : Int) = ((2 : Nat) : Int) from rfl, <- Int.ofNat_tmod, hev]; rfl
    obtain ⟨I', hI', i1⟩ : ∃ I' : Int, I' = ((i + 1 : Nat) : Int) /\ zA .i64 (zB I 1) = I' := ⟨I + 1, by omega, by rw [hS.add, hS.wrap, wrap_i64 (by omega) (by omega)]⟩
    have hmm : m - 1 < m := by omega
    have hnx : ∃ (i2 : Nat) (I2 : Int), I2 = i2 /\ (m - 1) + i2 = s /\ ptT UA UP R UQ S I' = ptT UA UP R UQ S I2 := ⟨i + 1, I', hI', by omega, rfl⟩
    clear hfi hNI hev
    subst hs1
    cbv
    rw [hSQ2]
    refine bT l1 ?_
    rw [j1, j2]
    cbv
    refine nd (n0) ?_
    refine bF (t4) ?_
    exact againR [] (s' := ptT UA UP R UQ S I') (k := m - 1) (by simp [leTR, ptT, mkSt, vi, vb, AV.ren, AV.noTup, Cell.ren, i1, renF]) (by simp [leHR, ptT, mkSt]) (by simp [liveR, ptT, mkSt]) (by simp) rfl (Nat.succ_le_succ (Nat.succ_le_succ (Nat.succ_le_succ (Nat.zero_le _)))) hmm hnx
end Go.Proofs.YtbeakmahabhacaaGreat
end
section
namespace Go.Abs
def Cop (A B : List Rat) : Prop := ∃ U V : List Rat, ∀ x, ev U x * ev A x + ev V x * ev B x = 1
theorem Cop.symm {A B : List Rat} (h : Cop A B) : Cop B A := by
 obtain ⟨U, V, h⟩ := h
 exact ⟨V, U, fun x => by rw [<- h x]; grind⟩
theorem Cop.congr {A B A' B' : List Rat} (h : Cop A B) (h1 : ∀ x, ev A' x = ev A x) (h2 : ∀ x, ev B' x = ev B x) : Cop A' B' := by
 obtain ⟨U, V, h⟩ := h
 exact ⟨U, V, fun x => by rw [h1, h2, h]⟩
theorem Cop.one (A : List Rat) : Cop A [1] := ⟨[], [1], fun x => by simp only [ev]; grind⟩
theorem Cop.mul {A B C D : List Rat} (h1 : Cop A B) (h2 : Cop A C) (hD : ∀ x, ev D x = ev B x * ev C x) : Cop A D := by
 obtain ⟨U, V, h1⟩ := h1
 obtain ⟨X, Y, h2⟩ := h2
 refine ⟨ladd (lmul (lmul U X) A) (ladd (lmul (lmul U Y) C) (lmul (lmul V X) B)), lmul V Y, fun x => ?_⟩
 have a := h1 x
 have b := h2 x
 simp only [qbn, qal, hD]
 generalize ev U x = u at *; generalize ev V x = v at *; generalize ev X x = p at *; generalize ev Y x = q at *
 generalize ev A x = a1 at *; generalize ev B x = b1 at *; generalize ev C x = c1 at *
 have e : (u * a1 + v * b1) * (p * a1 + q * c1) = 1 := by rw [a, b, Rat.mul_one]
 rw [<- e]; grind
theorem Cop.add {A B C T : List Rat} (h : Cop A B) (hC : ∀ x, ev C x = ev B x + ev T x * ev A x) : Cop A C := by
 obtain ⟨U, V, h⟩ := h
 refine ⟨ladd U (lsc (-1) (lmul V T)), V, fun x => ?_⟩
 have a := h x
 simp only [qbn, qa4, qal, hC]
 rw [<- a]; grind
theorem Cop.scale {A B C : List Rat} {k : Rat} (hk : k ≠ 0) (h : Cop A B) (hC : ∀ x, ev C x = k * ev B x) : Cop A C := by
 obtain ⟨U, V, h⟩ := h
 refine ⟨U, lsc k⁻¹ V, fun x => ?_⟩
 have a := h x
 have e := Rat.inv_mul_cancel k hk
 simp only [qa4, hC]
 rw [<- a]; grind
abbrev FL := List (List Rat × Nat)
def prP (c : Nat -> Bool) : FL -> List Rat
 | [] => [1]
 | (m, e) :: L => if c e = true then lmul m (prP c L) else prP c L
def suP (c : Nat -> Bool) (k : Nat -> Rat) : FL -> List Rat
 | [] => []
 | (m, e) :: L => if c e = true then ladd (lsc (k e) (lmul (pder m) (prP c L))) (lmul m (suP c k L)) else suP c k L
def lpow (m : List Rat) : Nat -> List Rat
 | 0 => [1]
 | n + 1 => lmul m (lpow m n)
def pwP (f : Nat -> Nat) : FL -> List Rat
 | [] => [1]
 | (m, e) :: L => lmul (lpow m (f e)) (pwP f L)
theorem qbu (c : Nat -> Bool) (m : List Rat) (e : Nat) (L : FL) : prP c ((m, e) :: L) = if c e = true then lmul m (prP c L) else prP c L := rfl
theorem suP_cons (c : Nat -> Bool) (k : Nat -> Rat) (m : List Rat) (e : Nat) (L : FL) : suP c k ((m, e) :: L) = if c e = true then ladd (lsc (k e) (lmul (pder m) (prP c L))) (lmul m (suP c k L)) else suP c k L := rfl
theorem evd_prP (c : Nat -> Bool) : ∀ (L : FL) (x : Rat), evd (prP c L) x = ev (suP c (fun _ => 1) L) x
 | [], x => by simp [prP, suP, evd, ev, Rat.mul_zero, Rat.add_zero]
 | (m, e) :: L, x => by
  rw [qbu, suP_cons]
  split
  ·rw [evd_lmul, qbn, qa4, qal, qal, ev_pder, evd_prP c L x]; grind
  ·exact evd_prP c L x
theorem suP_sub (c : Nat -> Bool) (k l : Nat -> Rat) : ∀ (L : FL) (x : Rat), ev (suP c (fun e => k e - l e) L) x = ev (suP c k L) x - ev (suP c l L) x
 | [], x => by simp [suP, ev]; grind
 | (m, e) :: L, x => by
  unfold suP
  split
  ·simp only [qbn, qa4, qal]; rw [suP_sub c k l L x]; grind
  ·exact suP_sub c k l L x
theorem suP_congr (c : Nat -> Bool) (k l : Nat -> Rat) : ∀ (L : FL), (∀ p ∈ L, c p.2 = true -> k p.2 = l p.2) -> suP c k L = suP c l L
 | [], _ => rfl
 | (m, e) :: L, h => by
  unfold suP
  rw [suP_congr c k l L fun p hp => h p (.tail _ hp)]
  split
  ·rename_i hc; rw [h (m, e) (.head _) hc]
  ·rfl
theorem prP_congr (c d : Nat -> Bool) : ∀ (L : FL), (∀ p ∈ L, c p.2 = d p.2) -> prP c L = prP d L
 | [], _ => rfl
 | (m, e) :: L, h => by
  unfold prP
  rw [prP_congr c d L fun p hp => h p (.tail _ hp), h (m, e) (.head _)]
theorem suP_congr2 (c d : Nat -> Bool) (k : Nat -> Rat) : ∀ (L : FL), (∀ p ∈ L, c p.2 = d p.2) -> suP c k L = suP d k L
 | [], _ => rfl
 | (m, e) :: L, h => by
  unfold suP
  rw [suP_congr2 c d k L fun p hp => h p (.tail _ hp), prP_congr c d L fun p hp => h p (.tail _ hp), h (m, e) (.head _)]
theorem prP_split (a b c : Nat -> Bool) (h : ∀ e, c e = (a e || b e)) (h2 : ∀ e, (a e && b e) = false) : ∀ (L : FL) (x : Rat), ev (prP c L) x = ev (prP a L) x * ev (prP b L) x
 | [], x => by simp [prP, ev]; grind
 | (m, e) :: L, x => by
  rw [qbu, qbu, qbu, h e]
  have := h2 e
  have ih := prP_split a b c h h2 L x
  cases ha : a e <;> cases hb : b e <;> simp_all [qal] <;> grind
theorem suP_split (a b c : Nat -> Bool) (k : Nat -> Rat) (h : ∀ e, c e = (a e || b e)) (h2 : ∀ e, (a e && b e) = false) (hk : ∀ e, a e = true -> k e = 0) : ∀ (L : FL) (x : Rat), ev (suP c k L) x = ev (prP a L) x * ev (suP b k L) x
 | [], x => by simp [suP, prP, ev, Rat.mul_zero]
 | (m, e) :: L, x => by
  rw [suP_cons, qbu, suP_cons, h e]
  have := h2 e
  have ih := suP_split a b c k h h2 hk L x
  have ip := prP_split a b c h h2 L x
  have hz := hk e
  cases ha : a e <;> cases hb : b e <;> simp_all [qal, qbn, qa4] <;> grind
structure FOk (L : FL) : Prop where
 pos : ∀ p ∈ L, 1 <= p.2
 sq : ∀ p ∈ L, Cop p.1 (pder p.1)
 pw : L.Pairwise fun p q => Cop p.1 q.1
theorem FOk.tail {p : List Rat × Nat} {L : FL} (h : FOk (p :: L)) : FOk L := ⟨fun q hq => h.pos q (.tail _ hq), fun q hq => h.sq q (.tail _ hq), (List.pairwise_cons.1 h.pw).2⟩
theorem cop_prP {A : List Rat} (c : Nat -> Bool) : ∀ (L : FL), (∀ p ∈ L, c p.2 = true -> Cop A p.1) -> Cop A (prP c L)
 | [], _ => Cop.one A
 | (m, e) :: L, h => by
  unfold prP
  split
  ·rename_i hc
   exact (h (m, e) (.head _) hc).mul (cop_prP c L fun p hp => h p (.tail _ hp)) fun x => qal _ _ _
  ·exact cop_prP c L fun p hp => h p (.tail _ hp)
theorem cop_su (c : Nat -> Bool) (k : Nat -> Rat) : ∀ (L : FL), FOk L -> (∀ p ∈ L, c p.2 = true -> k p.2 ≠ 0) -> Cop (prP c L) (suP c k L)
 | [], _, _ => (Cop.one _).symm
 | (m, e) :: L, h, hk => by
  have ih := cop_su c k L h.tail fun p hp => hk p (.tail _ hp)
  rw [qbu, suP_cons]
  split
  ·rename_i hc
   have hm := List.pairwise_cons.1 h.pw
   have c1 : Cop m (prP c L) := cop_prP c L fun p hp _ => hm.1 p hp
   have c2 : Cop m (lmul (pder m) (prP c L)) := (h.sq (m, e) (.head _)).mul c1 fun x => qal _ _ _
   have c3 : Cop m (lsc (k e) (lmul (pder m) (prP c L))) := c2.scale (hk (m, e) (.head _) hc) fun x => qa4 _ _ _
   have c4 : Cop m (ladd (lsc (k e) (lmul (pder m) (prP c L))) (lmul m (suP c k L))) := c3.add (T := suP c k L) fun x => by rw [qbn, qal m]; grind
   have c5 : Cop (prP c L) (lmul m (suP c k L)) := c1.symm.mul ih fun x => qal _ _ _
   have c6 : Cop (prP c L) (ladd (lsc (k e) (lmul (pder m) (prP c L))) (lmul m (suP c k L))) := c5.add (T := lsc (k e) (pder m)) fun x => by simp only [qbn, qal, qa4]; grind
   exact (c4.symm.mul c6.symm fun x => qal _ _ _).symm
  ·exact ih
theorem pw_split : ∀ (L : FL), (∀ p ∈ L, 1 <= p.2) -> ∀ x, ev (pwP (fun e => e) L) x = ev (pwP (fun e => e - 1) L) x * ev (prP (fun _ => true) L) x
 | [], _, x => by simp [pwP, prP, ev]; grind
 | (m, e) :: L, h, x => by
  have ih := pw_split L (fun p hp => h p (.tail _ hp)) x
  obtain ⟨n, hn⟩ : ∃ n, e = n + 1 := ⟨e - 1, by have := h (m, e) (.head _); simp only at this; omega⟩
  subst hn
  simp only [pwP, prP, if_true, qal, Nat.add_sub_cancel, lpow] at ih ⊢
  rw [ih]; grind
theorem evd_lpow (m : List Rat) : ∀ (n : Nat) (x : Rat), evd (lpow m (n + 1)) x = ((n + 1 : Nat) : Rat) * (ev (lpow m n) x * evd m x)
 | 0, x => by simp [lpow, evd_lmul, evd, ev]; grind
 | n + 1, x => by
  rw [lpow, evd_lmul, evd_lpow m n x]
  simp only [lpow, qal]
  have e : ((n + 1 + 1 : Nat) : Rat) = ((n + 1 : Nat) : Rat) + 1 := by push_cast; rfl
  rw [e]; grind
theorem evd_pw : ∀ (L : FL), (∀ p ∈ L, 1 <= p.2) -> ∀ x, evd (pwP (fun e => e) L) x = ev (pwP (fun e => e - 1) L) x * ev (suP (fun _ => true) (fun e => (e : Rat)) L) x
 | [], _, x => by simp [pwP, suP, ev, evd, Rat.mul_zero, Rat.add_zero]
 | (m, e) :: L, h, x => by
  have ih := evd_pw L (fun p hp => h p (.tail _ hp)) x
  have is := pw_split L (fun p hp => h p (.tail _ hp)) x
  obtain ⟨n, hn⟩ : ∃ n, e = n + 1 := ⟨e - 1, by have := h (m, e) (.head _); simp only at this; omega⟩
  subst hn
  simp only [pwP, suP, if_true, evd_lmul, qal, qbn, qa4, Nat.add_sub_cancel, ev_pder] at ih is ⊢
  rw [ih, is, evd_lpow]
  simp only [lpow, qal]
  grind
def MlP (P : List Rat) : Prop := P ≠ [] /\ P.getD (P.length - 1) 0 = 1
theorem lsc_length (c : Rat) (P : List Rat) : (lsc c P).length = P.length := by simp [lsc]
theorem ladd_length : ∀ (P Q : List Rat), (ladd P Q).length = max P.length Q.length
 | [], Q => by simp [ladd]
 | c :: P, [] => by simp [ladd]
 | c :: P, d :: Q => by simp only [ladd, List.length_cons, ladd_length P Q]; omega
theorem qbf : ∀ (P B : List Rat), P ≠ [] -> B ≠ [] -> (lmul P B).length + 1 = P.length + B.length
 | [], _, h, _ => absurd rfl h
 | [c], B, _, hB => by
  have : B.length ≠ 0 := fun h => hB (List.length_eq_zero_iff.1 h)
  simp only [lmul, ladd_length, lsc_length, List.length_cons, List.length_nil]; omega
 | c :: d :: P, B, _, hB => by
  have ih := qbf (d :: P) B (by simp) hB
  have : B.length ≠ 0 := fun h => hB (List.length_eq_zero_iff.1 h)
  rw [lmul, ladd_length, lsc_length, List.length_cons, List.length_cons]
  simp only [List.length_cons] at ih ⊢
  omega
theorem ladd_getD : ∀ (A B : List Rat) (j : Nat), (ladd A B).getD j 0 = A.getD j 0 + B.getD j 0
 | [], B, j => by simp [ladd, Rat.zero_add]
 | a :: A, [], j => by simp [ladd, Rat.add_zero]
 | a :: A, b :: B, 0 => by simp [ladd]
 | a :: A, b :: B, j + 1 => by simpa [ladd] using ladd_getD A B j
theorem lsc_getD (c : Rat) (P : List Rat) (j : Nat) : (lsc c P).getD j 0 = c * P.getD j 0 := by
 rw [List.getD_eq_getElem?_getD, List.getD_eq_getElem?_getD, lsc, List.getElem?_map]
 cases P[j]? with
 | none => simp [Rat.mul_zero]
 | some q => simp
theorem lmul_last : ∀ (P B : List Rat), P ≠ [] -> B ≠ [] -> (lmul P B).getD (P.length + B.length - 2) 0 = P.getD (P.length - 1) 0 * B.getD (B.length - 1) 0
 | [], _, h, _ => absurd rfl h
 | [c], B, _, hB => by
  have : B.length ≠ 0 := fun h => hB (List.length_eq_zero_iff.1 h)
  rw [lmul, ladd_getD, lsc_getD, lmul]
  have e1 : ([c] : List Rat).length + B.length - 2 = B.length - 1 := by simp only [List.length_cons, List.length_nil]; omega
  rw [e1]
  have e2 : ([0] : List Rat).getD (B.length - 1) 0 = 0 := by
   cases B.length - 1 with
   | zero => rfl
   | succ n => simp
  rw [e2]
  simp [Rat.add_zero]
 | c :: d :: P, B, _, hB => by
  have ih := lmul_last (d :: P) B (by simp) hB
  have : B.length ≠ 0 := fun h => hB (List.length_eq_zero_iff.1 h)
  rw [lmul, ladd_getD, lsc_getD]
  have e1 : (c :: d :: P).length + B.length - 2 = ((d :: P).length + B.length - 2) + 1 := by simp only [List.length_cons]; omega
  have e2 : B.getD ((d :: P).length + B.length - 2 + 1) 0 = 0 := by
   rw [List.getD_eq_getElem?_getD, List.getElem?_eq_none (by simp only [List.length_cons]; omega)]; rfl
  rw [e1, e2, List.getD_cons_succ, ih]
  have e3 : (c :: d :: P).getD ((c :: d :: P).length - 1) 0 = (d :: P).getD ((d :: P).length - 1) 0 := by
   simp only [List.length_cons, Nat.add_sub_cancel]
   rfl
  rw [e3]; grind
theorem MlP.one : MlP [1] := ⟨by simp, rfl⟩
theorem MlP.mul {P B : List Rat} (hP : MlP P) (hB : MlP B) : MlP (lmul P B) := by
 have l := qbf P B hP.1 hB.1
 have h1 : P.length ≠ 0 := fun h => hP.1 (List.length_eq_zero_iff.1 h)
 have h2 : B.length ≠ 0 := fun h => hB.1 (List.length_eq_zero_iff.1 h)
 refine ⟨fun h => ?_, ?_⟩
 ·rw [h] at l; simp at l; omega
 ·rw [show (lmul P B).length - 1 = P.length + B.length - 2 by omega, lmul_last P B hP.1 hB.1, hP.2, hB.2, Rat.mul_one]
theorem MlP.prP (c : Nat -> Bool) : ∀ (L : FL), (∀ p ∈ L, MlP p.1) -> MlP (prP c L)
 | [], _ => MlP.one
 | (m, e) :: L, h => by
  rw [qbu]
  have ih := MlP.prP c L fun p hp => h p (.tail _ hp)
  split
  ·exact (h (m, e) (.head _)).mul ih
  ·exact ih
theorem MlP.lpow {m : List Rat} (hm : MlP m) : ∀ n, MlP (lpow m n)
 | 0 => MlP.one
 | n + 1 => hm.mul (MlP.lpow hm n)
theorem MlP.pwP (f : Nat -> Nat) : ∀ (L : FL), (∀ p ∈ L, MlP p.1) -> MlP (pwP f L)
 | [], _ => MlP.one
 | (m, e) :: L, h => (MlP.lpow (h (m, e) (.head _)) _).mul (MlP.pwP f L fun p hp => h p (.tail _ hp))
def dgs (f : Nat -> Nat) : FL -> Nat
 | [] => 0
 | (m, e) :: L => f e * (m.length - 1) + dgs f L
theorem lpow_length {m : List Rat} (hm : MlP m) : ∀ n, (Go.Abs.lpow m n).length = n * (m.length - 1) + 1
 | 0 => by simp [Go.Abs.lpow]
 | n + 1 => by
  have h1 := qbf m (Go.Abs.lpow m n) hm.1 (MlP.lpow hm n).1
  have h2 : m.length ≠ 0 := fun h => hm.1 (List.length_eq_zero_iff.1 h)
  rw [lpow_length hm n] at h1
  rw [Go.Abs.lpow, Nat.succ_mul]; omega
theorem pwP_length (f : Nat -> Nat) : ∀ (L : FL), (∀ p ∈ L, MlP p.1) -> (Go.Abs.pwP f L).length = dgs f L + 1
 | [], _ => rfl
 | (m, e) :: L, h => by
  have ih := pwP_length f L fun p hp => h p (.tail _ hp)
  have hm := h (m, e) (.head _)
  have h1 := qbf (Go.Abs.lpow m (f e)) (Go.Abs.pwP f L) (MlP.lpow hm _).1 (MlP.pwP f L fun p hp => h p (.tail _ hp)).1
  rw [lpow_length hm, ih] at h1
  simp only [Go.Abs.pwP, dgs] at h1 ⊢; omega
theorem prP_length (c : Nat -> Bool) : ∀ (L : FL), (∀ p ∈ L, MlP p.1) -> (Go.Abs.prP c L).length = dgs (fun e => if c e = true then 1 else 0) L + 1
 | [], _ => rfl
 | (m, e) :: L, h => by
  have ih := prP_length c L fun p hp => h p (.tail _ hp)
  have hm := h (m, e) (.head _)
  have h2 : m.length ≠ 0 := fun h => hm.1 (List.length_eq_zero_iff.1 h)
  rw [qbu]
  simp only [dgs]
  split
  ·have h1 := qbf m (Go.Abs.prP c L) hm.1 (MlP.prP c L fun p hp => h p (.tail _ hp)).1
   rw [ih] at h1; omega
  ·rw [ih]; omega
def Fc (m : List Rat) : Prop := (∃ r, m = [-r, 1]) ∨ ∃ c b, m = [c, b, 1] /\ ∀ x, c + b * x + x * x ≠ 0
theorem ev_two (a b x : Rat) : ev [a, b] x = a + b * x := by simp only [ev]; grind
theorem ev_three (a b c x : Rat) : ev [a, b, c] x = a + b * x + c * (x * x) := by simp only [ev]; grind
theorem Fc.ml {m : List Rat} (h : Fc m) : MlP m := by
 rcases h with ⟨r, rfl⟩ | ⟨c, b, rfl, _⟩ <;> exact ⟨by simp, rfl⟩
theorem Fc.len {m : List Rat} (h : Fc m) : 2 <= m.length /\ m.length <= 3 := by
 rcases h with ⟨r, rfl⟩ | ⟨c, b, rfl, _⟩ <;> simp
theorem cop_lin {r s : Rat} (h : r ≠ s) : Cop [-r, 1] [-s, 1] := by
 have h0 : r - s ≠ 0 := fun h1 => h (by grind)
 have e := Rat.inv_mul_cancel _ h0
 refine ⟨[-(r - s)⁻¹], [(r - s)⁻¹], fun x => ?_⟩
 rw [ev_two, ev_two]
 simp only [ev]
 generalize (r - s)⁻¹ = i at *
 rw [<- e]; grind
theorem cop_lq {r b c : Rat} (h : c + b * r + r * r ≠ 0) : Cop [-r, 1] [c, b, 1] := by
 have e := Rat.inv_mul_cancel _ h
 refine ⟨lsc (-(c + b * r + r * r)⁻¹) [r + b, 1], [(c + b * r + r * r)⁻¹], fun x => ?_⟩
 rw [qa4, ev_two, ev_two, ev_three]
 simp only [ev]
 generalize (c + b * r + r * r)⁻¹ = i at *
 rw [<- e]; grind
theorem cop_qq {b c b' c' : Rat} (h : b = b' -> c ≠ c') (hq : ∀ x, c + b * x + x * x ≠ 0) : Cop [c, b, 1] [c', b', 1] := by
 by_cases hb : b = b'
 ·have h0 : c' - c ≠ 0 := fun h1 => h hb (by grind)
  have e := Rat.inv_mul_cancel _ h0
  refine ⟨[-(c' - c)⁻¹], [(c' - c)⁻¹], fun x => ?_⟩
  rw [ev_three, ev_three]
  simp only [ev]
  generalize (c' - c)⁻¹ = i at *
  rw [<- e, hb]; grind
 ·have h0 : b' - b ≠ 0 := fun h1 => hb (by grind)
  have e := Rat.inv_mul_cancel _ h0
  have k1 := (cop_lq (hq (-((b' - b)⁻¹ * (c' - c))))).symm
  have k2 : Cop [c, b, 1] [c' - c, b' - b] := k1.scale h0 fun x => by
   rw [ev_two, ev_two]
   generalize (b' - b)⁻¹ = i at *
   grind
  exact k2.add (T := [1]) fun x => by
   rw [ev_two, ev_three, ev_three]
   simp only [ev]
   grind
theorem Fc.cop {m n : List Rat} (hm : Fc m) (hn : Fc n) (h : m ≠ n) : Cop m n := by
 rcases hm with ⟨r, rfl⟩ | ⟨c, b, rfl, hq⟩ <;> rcases hn with ⟨s, rfl⟩ | ⟨c', b', rfl, hq'⟩
 ·exact cop_lin fun h1 => h (by rw [h1])
 ·exact cop_lq (hq' r)
 ·exact (cop_lq (hq s)).symm
 ·exact cop_qq (fun h1 h2 => h (by rw [h1, h2])) hq
theorem Fc.sq {m : List Rat} (hm : Fc m) : Cop m (pder m) := by
 rcases hm with ⟨r, rfl⟩ | ⟨c, b, rfl, hq⟩
 ·exact (Cop.one _).congr (fun _ => rfl) fun x => by rw [ev_pder]; simp only [evd, ev]; grind
 ·refine ((cop_lq (hq (-(b * 2⁻¹)))).symm).scale (k := 2) (by decide) fun x => ?_
  have e : (2 : Rat)⁻¹ * 2 = 1 := Rat.inv_mul_cancel _ (by decide)
  rw [ev_pder, ev_two]
  simp only [evd, ev]
  generalize (2 : Rat)⁻¹ = i at *
  grind
def lprd : List (List Rat) -> Rat -> Rat
 | [], _ => 1
 | m :: L, x => ev m x * lprd L x
def ldeg : List (List Rat) -> Nat
 | [] => 0
 | m :: L => (m.length - 1) + ldeg L
theorem cf_two {t : Nat} {r : Rat} (h : CF t (fun _ => r)) : CF (2 * t) (fun j => [-r, 1].getD j 0) := by
 have := CF.list (s := t) [-r, 1] fun q hq => by
  rcases List.mem_cons.1 hq with rfl | hq
  ·exact h.neg
  ·rw [List.mem_singleton.1 hq]
   have := two_pow_pos t
   exact CF.whole (n := 1) (by omega) (by omega)
 exact this
theorem root_size {s : Nat} {c0 c1 c2 r : Rat} (h : CF s (fun j => [c0, c1, c2].getD j 0)) (h2 : c2 ≠ 0) (hr : c0 + c1 * r + c2 * (r * r) = 0) : CF (s + 2) (fun _ => r) := by
 obtain ⟨d, d1, hd⟩ := h
 have hp := hd.pos
 obtain ⟨n0, a1, a2, a3⟩ := hd.num 0
 obtain ⟨n1, b1, b2, b3⟩ := hd.num 1
 obtain ⟨n2, e1, e2, e3⟩ := hd.num 2
 have a3 : c0 * (d : Rat) = (n0 : Rat) := a3
 have b3 : c1 * (d : Rat) = (n1 : Rat) := b3
 have e3 : c2 * (d : Rat) = (n2 : Rat) := e3
 have hd0 : (d : Rat) ≠ 0 := fun h => by rw [Rat.intCast_eq_zero_iff] at h; omega
 have hn2 : n2 ≠ 0 := fun h => by
  rw [h] at e3
  rcases Rat.mul_eq_zero.1 (show c2 * (d : Rat) = 0 from e3) with h' | h'
  ·exact h2 h'
  ·exact hd0 h'
 have hs := two_pow_pos s
 have hq : (n0 : Rat) + n1 * r + n2 * (r * r) = 0 := by
  rw [<- a3, <- b3, <- e3]
  have : c0 * (d : Rat) + c1 * d * r + c2 * d * (r * r) = (c0 + c1 * r + c2 * (r * r)) * d := by grind
  rw [this, hr, Rat.zero_mul]
 obtain ⟨y, hy⟩ : ∃ y : Rat, y = 2 * n2 * r + n1 := ⟨_, rfl⟩
 have hy2 : y ^ 2 = ((n1 * n1 - 4 * (n0 * n2) : Int) : Rat) := by
  rw [hy, Rat.intCast_sub, Rat.intCast_mul, Rat.intCast_mul, Rat.intCast_mul]
  have e4 : ((4 : Int) : Rat) = 4 := rfl
  rw [e4]
  grind
 have hden : y.den = 1 := by
  have h1 := congrArg Rat.den hy2
  rw [Rat.den_pow, Rat.den_intCast] at h1
  have h3 : y.den * y.den = 1 := by rw [<- h1, Nat.pow_two]
  exact Nat.eq_one_of_mul_eq_one_right h3
 have hnum : y.num * y.num = n1 * n1 - 4 * (n0 * n2) := by
  have h1 := congrArg Rat.num hy2
  rw [Rat.num_pow, Rat.num_intCast] at h1
  rw [<- h1]; exact (by grind : y.num * y.num = y.num ^ 2)
 have hyn : y = (y.num : Rat) := by
  have := Rat.num_divInt_den y
  rw [hden, Rat.divInt_eq_div] at this
  have e5 : (((1 : Nat) : Int) : Rat) = 1 := rfl
  rw [e5, Rat.div_def] at this
  have e6 : (1 : Rat)⁻¹ = 1 := by grind
  rw [e6, Rat.mul_one] at this
  exact this.symm
 obtain ⟨k, hk⟩ : ∃ k, k = y.num := ⟨_, rfl⟩
 rw [<- hk] at hnum hyn
 have m1 := qaq b1 b2 b1 b2
 have m2 := qaq a1 a2 e1 e2
 have hMM : (2 : Int) ^ (s + 2) = 4 * 2 ^ s := by rw [Int.pow_add]; omega
 rw [CF, hMM]
 clear hMM hd
 generalize (2 : Int) ^ s = M at *
 have hk1 : k <= 3 * M := by
  rcases Int.lt_or_le (3 * M) k with h | h
  ·have : (3 * M) * (3 * M) <= k * k := Int.mul_le_mul (by omega) (by omega) (by omega) (by omega)
   have e6 : (3 * M) * (3 * M) = 9 * (M * M) := by grind
   have : 0 < M * M := Int.mul_pos (by omega) (by omega)
   omega
  ·exact h
 have hk2 : -(3 * M) <= k := by
  rcases Int.lt_or_le k (-(3 * M)) with h | h
  ·have : (3 * M) * (3 * M) <= -k * -k := Int.mul_le_mul (by omega) (by omega) (by omega) (by omega)
   have e6 : (3 * M) * (3 * M) = 9 * (M * M) := by grind
   have e7 : -k * -k = k * k := by grind
   have : 0 < M * M := Int.mul_pos (by omega) (by omega)
   omega
  ·exact h
 have hr2 : r * ((2 * n2 : Int) : Rat) = ((k - n1 : Int) : Rat) := by
  rw [Rat.intCast_sub, <- hyn, hy, Rat.intCast_mul]
  have e5 : ((2 : Int) : Rat) = 2 := rfl
  rw [e5]; grind
 rcases Int.lt_or_le n2 0 with hneg | hpos
 ·refine ⟨-(2 * n2), by omega, by omega, fun _ => ⟨-(k - n1), by omega, by omega, ?_⟩⟩
  rw [Rat.intCast_neg, Rat.intCast_neg, <- hr2]; grind
 ·exact ⟨2 * n2, by omega, by omega, fun _ => ⟨k - n1, by omega, by omega, hr2⟩⟩
theorem fac_list {s : Nat} {P : List Rat} (h0 : P ≠ []) (hl : P.length <= 3) (ht : P.getD (P.length - 1) 0 ≠ 0) (hc : CF s (fun j => P.getD j 0)) :
  ∃ L : List (List Rat), (∀ m ∈ L, Fc m /\ CF (2 * (s + 2)) (fun j => m.getD j 0)) /\ ldeg L + 1 = P.length /\ ∃ k : Rat, k ≠ 0 /\ ∀ x, ev P x = k * lprd L x := by
 match P, h0, hl, ht, hc with
 | [c], _, _, ht, hc => exact ⟨[], by simp, rfl, c, ht, fun x => by simp only [ev, lprd]; grind⟩
 | [c0, c1], _, _, ht, hc =>
  have ht : c1 ≠ 0 := ht
  have e := Rat.inv_mul_cancel _ ht
  have h1 := hc.div 1 ht
  have h2 : CF s (fun _ => -(c1⁻¹ * c0)) := (h1.comp (fun _ => 0)).neg
  refine ⟨[[-(-(c1⁻¹ * c0)), 1]], fun m hm => ?_, rfl, c1, ht, fun x => ?_⟩
  ·rw [List.mem_singleton.1 hm]
   exact ⟨.inl ⟨_, rfl⟩, (cf_two h2).mono (by omega)⟩
  ·simp only [lprd]
   rw [ev_two, ev_two]
   generalize c1⁻¹ = i at *
   have : c0 = i * c1 * c0 := by rw [e, Rat.one_mul]
   grind
 | [c0, c1, c2], _, _, ht, hc =>
  have ht : c2 ≠ 0 := ht
  have e := Rat.inv_mul_cancel _ ht
  by_cases hr : ∃ r, c0 + c1 * r + c2 * (r * r) = 0
  ·obtain ⟨r, hr⟩ := hr
   obtain ⟨r', hr'⟩ : ∃ r', r' = -(c2⁻¹ * c1) - r := ⟨_, rfl⟩
   have hi : c2 * r' = -c1 - c2 * r := by
    rw [hr']
    generalize c2⁻¹ = i at *
    have : c2 * (-(i * c1) - r) = -(i * c2 * c1) - c2 * r := by grind
    rw [this, e]; grind
   have hr2 : c0 + c1 * r' + c2 * (r' * r') = 0 := by
    have : c2 * (r' * r') = (c2 * r') * r' := by grind
    rw [this, hi]
    have : c0 + c1 * r' + (-c1 - c2 * r) * r' = c0 - r * (c2 * r') := by grind
    rw [this, hi]; grind
   refine ⟨[[-r, 1], [-r', 1]], fun m hm => ?_, rfl, c2, ht, fun x => ?_⟩
   ·rcases List.mem_cons.1 hm with rfl | hm
    ·exact ⟨.inl ⟨_, rfl⟩, (cf_two (root_size hc ht hr)).mono (by omega)⟩
    ·rw [List.mem_singleton.1 hm]
     exact ⟨.inl ⟨_, rfl⟩, (cf_two (root_size hc ht hr2)).mono (by omega)⟩
   ·simp only [lprd]
    rw [ev_three, ev_two, ev_two]
    have : c0 = r * (c2 * r') := by rw [hi]; grind
    have h3 : c2 * ((-r + 1 * x) * ((-r' + 1 * x) * 1)) = r * (c2 * r') - (c2 * r + c2 * r') * x + c2 * (x * x) := by grind
    rw [h3, <- this, hi]; grind
  ·have hf : ∀ j, (c2⁻¹ * [c0, c1, c2].getD j 0) = [c2⁻¹ * c0, c2⁻¹ * c1, 1].getD j 0 := fun j => by
    match j with
    | 0 => rfl
    | 1 => rfl
    | 2 => exact e
    | j + 3 => simp [Rat.mul_zero]
   have hx : ∀ x, c2 * (c2⁻¹ * c0 + c2⁻¹ * c1 * x + 1 * (x * x)) = c0 + c1 * x + c2 * (x * x) := fun x => by
    generalize c2⁻¹ = i at *
    have : c2 * (i * c0 + i * c1 * x + 1 * (x * x)) = i * c2 * c0 + i * c2 * c1 * x + c2 * (x * x) := by grind
    rw [this, e]; grind
   refine ⟨[[c2⁻¹ * c0, c2⁻¹ * c1, 1]], fun m hm => ?_, rfl, c2, ht, fun x => ?_⟩
   ·rw [List.mem_singleton.1 hm]
    refine ⟨.inr ⟨_, _, rfl, fun x h1 => hr ⟨x, ?_⟩⟩, ((hc.div 2 ht).congr hf).mono (by omega)⟩
    rw [<- hx]
    have : c2⁻¹ * c0 + c2⁻¹ * c1 * x + 1 * (x * x) = c2⁻¹ * c0 + c2⁻¹ * c1 * x + x * x := by grind
    rw [this, h1, Rat.mul_zero]
   ·simp only [lprd]
    rw [ev_three, ev_three, <- hx x, Rat.mul_one]
 | _ :: _ :: _ :: _ :: _, _, hl, _, _ => simp at hl
def ins (m : List Rat) (e : Nat) : FL -> FL
 | [] => [(m, e)]
 | (n, f) :: L => if n = m then (n, f + e) :: L else (n, f) :: ins m e L
theorem ins_fst (m : List Rat) (e : Nat) : ∀ (L : FL), ∀ p ∈ ins m e L, p.1 = m ∨ ∃ q ∈ L, q.1 = p.1
 | [], p, h => by
  rw [ins, List.mem_singleton] at h
  exact .inl (by rw [h])
 | (n, f) :: L, p, h => by
  rw [ins] at h
  split at h
  ·rcases List.mem_cons.1 h with rfl | h
   ·exact .inr ⟨(n, f), .head _, rfl⟩
   ·exact .inr ⟨p, .tail _ h, rfl⟩
  ·rcases List.mem_cons.1 h with rfl | h
   ·exact .inr ⟨(n, f), .head _, rfl⟩
   ·rcases ins_fst m e L p h with h | ⟨q, hq, h⟩
    ·exact .inl h
    ·exact .inr ⟨q, .tail _ hq, h⟩
theorem ins_snd {R : Nat -> Prop} (hR : ∀ a b, R a -> R b -> R (a + b)) {m : List Rat} {e : Nat} (he : R e) : ∀ (L : FL), (∀ p ∈ L, R p.2) -> ∀ p ∈ ins m e L, R p.2
 | [], _, p, h => by
  rw [ins, List.mem_singleton] at h
  rw [h]; exact he
 | (n, f) :: L, hL, p, h => by
  rw [ins] at h
  split at h
  ·rcases List.mem_cons.1 h with rfl | h
   ·exact hR _ _ (hL _ (.head _)) he
   ·exact hL p (.tail _ h)
  ·rcases List.mem_cons.1 h with rfl | h
   ·exact hL _ (.head _)
   ·exact ins_snd hR he L (fun q hq => hL q (.tail _ hq)) p h
theorem ins_pw (m : List Rat) (e : Nat) : ∀ (L : FL), L.Pairwise (fun p q => p.1 ≠ q.1) -> (ins m e L).Pairwise (fun p q => p.1 ≠ q.1)
 | [], _ => List.pairwise_singleton ..
 | (n, f) :: L, h => by
  have h1 := List.pairwise_cons.1 h
  rw [ins]
  split
  ·exact List.pairwise_cons.2 ⟨h1.1, h1.2⟩
  ·rename_i hne
   refine List.pairwise_cons.2 ⟨fun q hq => ?_, ins_pw m e L h1.2⟩
   rcases ins_fst m e L q hq with h3 | ⟨r, hr, h3⟩
   ·rw [h3]; exact hne
   ·rw [<- h3]; exact h1.1 r hr
theorem ev_lpow (m : List Rat) (x : Rat) : ∀ n, ev (lpow m n) x = ev m x ^ n
 | 0 => by simp only [lpow, ev]; grind
 | n + 1 => by rw [lpow, qal, ev_lpow m x n, Rat.pow_succ, Rat.mul_comm]
theorem rat_pow_add (x : Rat) (a : Nat) : ∀ b : Nat, x ^ (a + b) = x ^ a * x ^ b
 | 0 => by simp
 | b + 1 => by rw [<- Nat.add_assoc, Rat.pow_succ, Rat.pow_succ, rat_pow_add x a b]; grind
theorem rat_mul_pow (x y : Rat) : ∀ b : Nat, (x * y) ^ b = x ^ b * y ^ b
 | 0 => by simp
 | b + 1 => by rw [Rat.pow_succ, Rat.pow_succ, Rat.pow_succ, rat_mul_pow x y b]; grind
theorem ins_ev (m : List Rat) (e : Nat) (x : Rat) : ∀ (L : FL), ev (pwP (fun e => e) (ins m e L)) x = ev m x ^ e * ev (pwP (fun e => e) L) x
 | [] => by simp only [ins, pwP, qal, ev_lpow]
 | (n, f) :: L => by
  rw [ins]
  split
  ·rename_i h
   subst h
   simp only [pwP, qal, ev_lpow, rat_pow_add]; grind
  ·simp only [pwP, qal, ev_lpow] at *
   rw [ins_ev m e x L]; grind
theorem ins_dgs (m : List Rat) (e : Nat) : ∀ (L : FL), dgs (fun _ => 1) (ins m e L) <= (m.length - 1) + dgs (fun _ => 1) L
 | [] => by simp [ins, dgs]
 | (n, f) :: L => by
  have ih := ins_dgs m e L
  rw [ins]
  split <;> simp only [dgs] <;> omega
def inss (e : Nat) : List (List Rat) -> FL -> FL
 | [], L => L
 | m :: l, L => ins m e (inss e l L)
theorem inss_ev (e : Nat) (x : Rat) (L : FL) : ∀ l, ev (pwP (fun e => e) (inss e l L)) x = lprd l x ^ e * ev (pwP (fun e => e) L) x
 | [] => by
  have : ∀ n : Nat, (1 : Rat) ^ n = 1 := fun n => by induction n with | zero => rfl | succ n ih => rw [Rat.pow_succ, ih, Rat.mul_one]
  simp only [inss, lprd]; rw [this, Rat.one_mul]
 | m :: l => by rw [inss, ins_ev, inss_ev e x L l, lprd, rat_mul_pow]; grind
theorem inss_dgs (e : Nat) (L : FL) : ∀ l, dgs (fun _ => 1) (inss e l L) <= ldeg l + dgs (fun _ => 1) L
 | [] => by simp [inss, ldeg]
 | m :: l => by
  have h1 := inss_dgs e L l
  have h2 := ins_dgs m e (inss e l L)
  rw [inss, ldeg]; omega
structure FcL (t : Nat) (L : FL) : Prop where
 fc : ∀ p ∈ L, Fc p.1 /\ CF t (fun j => p.1.getD j 0)
 pos : ∀ p ∈ L, 1 <= p.2
 ne : L.Pairwise fun p q => p.1 ≠ q.1
theorem FcL.nil (t : Nat) : FcL t [] := ⟨by simp, by simp, List.Pairwise.nil⟩
theorem FcL.ins {t : Nat} {L : FL} (h : FcL t L) {m : List Rat} {e : Nat} (hm : Fc m) (hc : CF t (fun j => m.getD j 0)) (he : 1 <= e) : FcL t (ins m e L) := by
 refine ⟨fun p hp => ?_, ins_snd (R := fun n => 1 <= n) (fun a b h1 h2 => by omega) he L h.pos, ins_pw m e L h.ne⟩
 rcases ins_fst m e L p hp with h1 | ⟨q, hq, h1⟩
 ·rw [h1]; exact ⟨hm, hc⟩
 ·rw [<- h1]; exact h.fc q hq
theorem FcL.inss {t : Nat} {L : FL} (h : FcL t L) {e : Nat} (he : 1 <= e) : ∀ l, (∀ m ∈ l, Fc m /\ CF t (fun j => m.getD j 0)) -> FcL t (inss e l L)
 | [], _ => h
 | m :: l, hl => (FcL.inss h he l fun k hk => hl k (.tail _ hk)).ins (hl m (.head _)).1 (hl m (.head _)).2 he
theorem pairwise_mp {α : Type} {R S : α -> α -> Prop} : ∀ {L : List α}, (∀ a ∈ L, ∀ b ∈ L, R a b -> S a b) -> L.Pairwise R -> L.Pairwise S
 | [], _, _ => List.Pairwise.nil
 | a :: L, h, hp => by
  have h1 := List.pairwise_cons.1 hp
  exact List.pairwise_cons.2 ⟨fun b hb => h a (.head _) b (.tail _ hb) (h1.1 b hb), pairwise_mp (fun x hx y hy => h x (.tail _ hx) y (.tail _ hy)) h1.2⟩
theorem FcL.ok {t : Nat} {L : FL} (h : FcL t L) : FOk L :=
 ⟨h.pos, fun p hp => (h.fc p hp).1.sq, pairwise_mp (fun a ha b hb hne => (h.fc a ha).1.cop (h.fc b hb).1 hne) h.ne⟩
theorem FcL.ml {t : Nat} {L : FL} (h : FcL t L) : ∀ p ∈ L, MlP p.1 := fun p hp => (h.fc p hp).1.ml
theorem FcL.len {t : Nat} : ∀ {L : FL}, FcL t L -> L.length <= dgs (fun _ => 1) L
 | [], _ => Nat.zero_le _
 | (m, e) :: L, h => by
  have h1 : FcL t L := ⟨fun p hp => h.fc p (.tail _ hp), fun p hp => h.pos p (.tail _ hp), (List.pairwise_cons.1 h.ne).2⟩
  have h2 := (h.fc (m, e) (.head _)).1.len
  have h3 := FcL.len h1
  simp only [dgs, List.length_cons]
  simp only at h2
  omega
theorem exp_dgs {t : Nat} : ∀ {L : FL}, FcL t L -> ∀ p ∈ L, p.2 <= dgs (fun e => e) L
 | (m, e) :: L, h, p, hp => by
  have h1 : FcL t L := ⟨fun p hp => h.fc p (.tail _ hp), fun p hp => h.pos p (.tail _ hp), (List.pairwise_cons.1 h.ne).2⟩
  have h2 := (h.fc (m, e) (.head _)).1.len
  simp only [dgs]
  simp only at h2
  rcases List.mem_cons.1 hp with rfl | hp
  ·have : e * 1 <= e * (m.length - 1) := Nat.mul_le_mul_left _ (by omega)
   simp only; omega
  ·have := exp_dgs h1 p hp
   omega
end Go.Abs
end
section
namespace Go.Proofs.YtbeakmahabhacaaGreat
open Go Go.Abs Go.Abs.M Go.Proofs
theorem ml_trim {P : List Rat} (h : MlP P) : ptrim P = P := tlen_top h.1 (by rw [h.2]; decide)
theorem cf_lmul {s t : Nat} (l : Nat) {P B : List Rat} (hP : CF s (fun j => P.getD j 0)) (hB : CF t (fun j => B.getD j 0)) (hl : P.length <= 2 ^ l) : CF (s + t + l) (fun j => (lmul P B).getD j 0) :=
 (hP.prod hB (i := P.length) hl).congr fun j => by rw [<- csum_cnv, <- pmul_get]; exact ev_coef (fun x => by rw [ev_pmul, qal]) j
theorem cf_ladd {s t : Nat} {P B : List Rat} (hP : CF s (fun j => P.getD j 0)) (hB : CF t (fun j => B.getD j 0)) : CF (s + t + 1) (fun j => (ladd P B).getD j 0) :=
 (hP.add hB).congr fun j => (ladd_getD P B j).symm
theorem cf_lsc {s t : Nat} {c : Rat} {B : List Rat} (hc : CF s (fun _ => c)) (hB : CF t (fun j => B.getD j 0)) : CF (t + s) (fun j => (lsc c B).getD j 0) :=
 (CF.scale hc hB).congr fun j => (lsc_getD c B j).symm
theorem cf_pder {t : Nat} {P : List Rat} (h : CF t (fun j => P.getD j 0)) (hl : P.length <= 3) : CF (t + 1) (fun j => (pder P).getD j 0) := by
 refine ((h.comp (· + 1)).wt (t := 1) (fun j => ((j + 1 : Nat) : Int)) fun j => ?_).congr fun j => (pder_get P j).symm
 by_cases hj : j + 1 < P.length
 ·right
  have : (2 : Int) ^ 1 = 2 := by decide
  omega
 ·left
  show P.getD (j + 1) 0 = 0
  rw [List.getD_eq_getElem?_getD, List.getElem?_eq_none (by omega)]; rfl
theorem cf_one (s : Nat) : CF s (fun j => ([1] : List Rat).getD j 0) := by
 have h := CF.list (s := 0) [((1 : Int) : Rat)] fun q hq => by
  rw [List.mem_singleton.1 hq]
  exact CF.whole (by decide) (by decide)
 exact CF.mono h (Nat.zero_le _)
theorem cf_nil (s : Nat) : CF s (fun j => ([] : List Rat).getD j 0) := (CF.zero s).congr fun j => by simp
def Sml (t : Nat) (L : FL) : Prop := ∀ p ∈ L, CF t (fun j => p.1.getD j 0) /\ p.1.length <= 3
theorem fc_sml {t : Nat} {L : FL} (h : FcL t L) : Sml t L := fun p hp => ⟨(h.fc p hp).2, (h.fc p hp).1.len.2⟩
theorem cf_prP {t : Nat} (c : Nat -> Bool) : ∀ (L : FL), Sml t L -> CF (L.length * (t + 2)) (fun j => (prP c L).getD j 0)
 | [], _ => cf_one _
 | (m, e) :: L, h => by
  have ih := cf_prP c L fun p hp => h p (.tail _ hp)
  have hm := h (m, e) (.head _)
  rw [qbu, List.length_cons, Nat.succ_mul]
  split
  ·exact (cf_lmul 2 hm.1 ih (by have := hm.2; simp only at this; omega)).mono (by omega)
  ·exact ih.mono (by omega)
theorem cf_suP {t κ N : Nat} (c : Nat -> Bool) (k : Nat -> Rat) : ∀ (L : FL), Sml t L -> L.length <= N -> (∀ p ∈ L, CF κ (fun _ => k p.2)) -> CF (L.length * (κ + 2 * t + 7 + N * (t + 2))) (fun j => (suP c k L).getD j 0)
 | [], _, _, _ => cf_nil _
 | (m, e) :: L, h, hN, hk => by
  rw [List.length_cons] at hN
  have h' : Sml t L := fun p hp => h p (.tail _ hp)
  have ih := cf_suP (N := N) c k L h' (by omega) fun p hp => hk p (.tail _ hp)
  have hm := h (m, e) (.head _)
  have hp := (cf_prP c L h').mono (Nat.mul_le_mul_right (t + 2) (show L.length <= N by omega))
  rw [suP_cons, List.length_cons, Nat.succ_mul]
  have hl := hm.2
  simp only at hl
  split
  ·have q1 := cf_lmul 2 (cf_pder hm.1 hm.2) hp (by rw [pder_len]; show m.length - 1 <= _; omega)
   have q2 := cf_lsc (hk (m, e) (.head _)) q1
   have q3 := cf_lmul 2 hm.1 ih (by show m.length <= _; omega)
   exact (cf_ladd q2 q3).mono (by omega)
  ·exact ih.mono (by omega)
theorem cf_lpow {t : Nat} {m : List Rat} (h : CF t (fun j => m.getD j 0)) (hl : m.length <= 3) : ∀ n, CF (n * (t + 2)) (fun j => (lpow m n).getD j 0)
 | 0 => cf_one _
 | n + 1 => (cf_lmul 2 h (cf_lpow h hl n) (by omega)).mono (by rw [Nat.succ_mul]; omega)
theorem cf_pwP {t : Nat} (f : Nat -> Nat) (L0 : FL) (h1 : dgs f L0 <= 15) : ∀ (L : FL), Sml t L -> (∀ p ∈ L, MlP p.1) -> (∀ p ∈ L, 2 <= p.1.length) -> dgs f L <= 15 -> CF (dgs f L * (t + 2) + L.length * 4) (fun j => (pwP f L).getD j 0)
 | [], _, _, _, _ => cf_one _
 | (m, e) :: L, h, hM, h2, hd => by
  simp only [dgs] at hd ⊢
  have ih := cf_pwP f L0 h1 L (fun p hp => h p (.tail _ hp)) (fun p hp => hM p (.tail _ hp)) (fun p hp => h2 p (.tail _ hp)) (by omega)
  have hm := h (m, e) (.head _)
  have h3 := h2 (m, e) (.head _)
  have hm2 := hm.2
  simp only at h3 hm2
  have l1 := lpow_length (hM (m, e) (.head _)) (f e)
  have l2 : f e * (m.length - 1) <= 15 := by omega
  have q1 := cf_lpow hm.1 hm.2 (f e)
  have q2 := cf_lmul 4 q1 ih (by simp only at l1 ⊢; omega)
  have l3 : f e * 1 <= f e * (m.length - 1) := Nat.mul_le_mul_left _ (by omega)
  have l4 := Nat.mul_le_mul_right (t + 2) (show f e <= f e * (m.length - 1) by omega)
  rw [List.length_cons, Nat.add_mul]
  exact q2.mono (by omega)
theorem lmul_len_le (m B : List Rat) : (lmul m B).length <= m.length + (B.length - 1) := by
 rcases Classical.em (m = []) with h | h
 ·subst h; simp [lmul]
 rcases Classical.em (B = []) with h2 | h2
 ·subst h2
  have : ∀ m : List Rat, (lmul m []).length <= m.length := fun m => by
   induction m with
   | nil => simp [lmul]
   | cons a m ih => rw [lmul, ladd_length]; simp only [lsc_length, List.length_cons, List.length_nil]; omega
  exact Nat.le_trans (this m) (by omega)
 ·have := qbf m B h h2
  have : B.length ≠ 0 := fun h => h2 (List.length_eq_zero_iff.1 h)
  omega
theorem suP_len (c : Nat -> Bool) (k : Nat -> Rat) : ∀ (L : FL), (∀ p ∈ L, MlP p.1) -> (∀ p ∈ L, 2 <= p.1.length) -> (suP c k L).length <= dgs (fun _ => 1) L + 1 /\ (prP c L).length <= dgs (fun _ => 1) L + 1
 | [], _, _ => by simp [suP, prP, dgs]
 | (m, e) :: L, h, h2 => by
  obtain ⟨i1, i2⟩ := suP_len c k L (fun p hp => h p (.tail _ hp)) (fun p hp => h2 p (.tail _ hp))
  have hm := h2 (m, e) (.head _)
  simp only at hm
  rw [suP_cons, qbu]
  simp only [dgs]
  split
  ·have a1 := lmul_len_le (pder m) (prP c L)
   have a2 := lmul_len_le m (suP c k L)
   have a3 := lmul_len_le m (prP c L)
   rw [pder_len] at a1
   rw [ladd_length, lsc_length]
   omega
  ·omega
def Wn (L : FL) (n : Nat) : List Rat := prP (fun e => decide (n <= e)) L
def Pn (L : FL) (n : Nat) : List Rat := prP (fun e => decide (e = n)) L
def Zn (L : FL) (n : Nat) : List Rat := suP (fun e => decide (n <= e)) (fun e => (e : Rat) - n) L
def Yn (L : FL) (n : Nat) : List Rat := suP (fun e => decide (n <= e)) (fun e => (e : Rat) - n + 1) L
theorem zn_ev (L : FL) (n : Nat) (x : Rat) : Abs.ev (Zn L n) x = Abs.ev (Yn L n) x - evd (Wn L n) x := by
 unfold Zn Yn Wn
 rw [evd_prP, <- suP_sub]
 exact congrArg (fun l => Abs.ev l x) (suP_congr _ _ _ L fun p _ _ => by grind)
theorem wn_split (L : FL) (n : Nat) (x : Rat) : Abs.ev (Wn L n) x = Abs.ev (Wn L (n + 1)) x * Abs.ev (Pn L n) x := by
 have := prP_split (fun e => decide (e = n)) (fun e => decide (n + 1 <= e)) (fun e => decide (n <= e)) (fun e => by
  rw [Bool.eq_iff_iff]; simp; omega) (fun e => by
  rw [<- Bool.not_eq_true, Bool.and_eq_true, decide_eq_true_iff, decide_eq_true_iff]; omega) L x
 unfold Wn Pn
 rw [this]; grind
theorem zn_split (L : FL) (n : Nat) (x : Rat) : Abs.ev (Zn L n) x = Abs.ev (Yn L (n + 1)) x * Abs.ev (Pn L n) x := by
 have := suP_split (fun e => decide (e = n)) (fun e => decide (n + 1 <= e)) (fun e => decide (n <= e)) (fun e => (e : Rat) - n) (fun e => by
  rw [Bool.eq_iff_iff]; simp; omega) (fun e => by
  rw [<- Bool.not_eq_true, Bool.and_eq_true, decide_eq_true_iff, decide_eq_true_iff]; omega) (fun e he => by
  rw [of_decide_eq_true he]; grind) L x
 have h2 : suP (fun e => decide (n + 1 <= e)) (fun e => (e : Rat) - n) L = Yn L (n + 1) := suP_congr _ _ _ L fun p _ _ => by
  have : ((n + 1 : Nat) : Rat) = (n : Rat) + 1 := by push_cast; rfl
  rw [this]; grind
 unfold Zn Pn
 rw [this, h2]; grind
theorem nat_rat_ne {a b : Nat} (h : a ≠ b) : (a : Rat) - (b : Rat) ≠ 0 := fun h1 => h (by
 have h2 : (a : Rat) = (b : Rat) := by grind
 exact_mod_cast h2)
theorem wy_cop {L : FL} (h : FOk L) (n : Nat) (hn : 1 <= n) : Cop (Wn L n) (Yn L n) := by
 refine cop_su _ _ L h fun p hp hc => ?_
 have hc := of_decide_eq_true hc
 obtain ⟨m, rfl⟩ : ∃ m, n = m + 1 := ⟨n - 1, by omega⟩
 have e : ((m + 1 : Nat) : Rat) = (m : Rat) + 1 := by push_cast; rfl
 have := nat_rat_ne (a := p.2) (b := m) (by omega)
 rw [e]
 intro h0
 exact this (by grind)
theorem isg_cop {A B G W S : List Rat} (hG : MlP G) (hA : ∀ x, Abs.ev A x = Abs.ev W x * Abs.ev G x) (hB : ∀ x, Abs.ev B x = Abs.ev S x * Abs.ev G x) (hc : Cop W S) : IsG A B G := by
 obtain ⟨U, V, hc⟩ := hc
 refine ⟨ml_trim hG, ⟨W, hA⟩, ⟨S, hB⟩, fun D h1 h2 => Dv.lin (U := U) (V := V) h1 h2 fun x => ?_, fun _ => hG⟩
 rw [hA, hB]
 have := hc x
 have e : Abs.ev U x * (Abs.ev W x * Abs.ev G x) + Abs.ev V x * (Abs.ev S x * Abs.ev G x) = (Abs.ev U x * Abs.ev W x + Abs.ev V x * Abs.ev S x) * Abs.ev G x := by grind
 rw [e, this, Rat.one_mul]
theorem pb_quo {f g h : Rat -> Rat} {n m k s t u : Nat} (e : Nat) {P B Q : List Rat} (hP : PB f n s P) (hB : PB g m t B) (h0 : B ≠ []) (hQ : PB h k u Q) (hf : ∀ x, f x = h x * g x) (he : P.length + 1 <= B.length + e) (hn : n <= 499) (hm : m <= 499) (hs : s + e * (t + 1) + 2 * t <= 2000000000) :
  ACall Tryz.prog 28 [.val (tl (ur P)), .val (tl (ur B))] ⟨[.val (tl (ur Q))], [none, none]⟩ := by
 obtain ⟨Q', R, hQ', hR, hlt, heq, c⟩ := pb_divmod e hP hB h0 he hn hm hs
 have hB0 : 0 < B.length := by rcases Nat.eq_zero_or_pos B.length with h1 | h1; exact absurd (List.length_eq_zero_iff.1 h1) h0; exact h1
 have hq := (div_uniq hQ'.tr hR.tr hQ.tr (R' := []) rfl hB.tr hlt hB0 fun x => by rw [hB.ev, <- heq, hf, hQ.ev]; simp only [Abs.ev]; grind).1
 subst hq
 generalize ur P = X1 at *
 generalize ur B = X2 at *
 generalize ur Q' = X3 at *
 generalize ur R = X4 at *
 refine callZ ccOk mixed [.val] Tryz.func28 rfl rfl (by kernel_rfl) fun zA zB zC zD zE zF zG zH zI zJ zK zL zM zN zO zP zQ zR zS zT zU zV zX zY zZ za zb zc zd ze zg zh zi zj zk zl zm zn zo zq zr zt zu zw zx zy zz zW zth A L F hS hF => ?_
 cbv
 refine ⟨_, hS.call (c), ?_⟩
 cbv
 exact hF _ (ResLe.refl _)
structure SqA (A : List Rat) (s t : Nat) (L : FL) (k : Rat) : Prop where
 tr : ptrim A = A
 cf : CF s (fun j => A.getD j 0)
 s0 : s <= 600
 k0 : k ≠ 0
 ev : ∀ x, Abs.ev A x = k * Abs.ev (pwP (fun e => e) L) x
 fl : FcL t L
 t0 : t <= 60
 dg : dgs (fun _ => 1) L <= 5
 ln : A.length <= 10
theorem SqA.two {A : List Rat} {s t : Nat} {L : FL} {k : Rat} (h : SqA A s t L k) : ∀ p ∈ L, 2 <= p.1.length := fun p hp => (h.fl.fc p hp).1.len.1
theorem SqA.eq {A : List Rat} {s t : Nat} {L : FL} {k : Rat} (h : SqA A s t L k) : A = lsc k (pwP (fun e => e) L) :=
 tr_inj h.tr (lsc_trim h.k0 (ml_trim (MlP.pwP _ L h.fl.ml))) fun x => by rw [h.ev, qa4]
theorem SqA.len {A : List Rat} {s t : Nat} {L : FL} {k : Rat} (h : SqA A s t L k) : A.length = dgs (fun e => e) L + 1 := by
 rw [h.eq, lsc_length, pwP_length _ _ h.fl.ml]
theorem SqA.ne {A : List Rat} {s t : Nat} {L : FL} {k : Rat} (h : SqA A s t L k) : A ≠ [] := fun h0 => by
 have := h.len
 rw [h0] at this; simp at this
theorem SqA.lead {A : List Rat} {s t : Nat} {L : FL} {k : Rat} (h : SqA A s t L k) : A.getD (A.length - 1) 0 = k := by
 have hm := MlP.pwP (fun e => e) L h.fl.ml
 rw [h.eq, lsc_getD, lsc_length, hm.2, Rat.mul_one]
theorem SqA.exp {A : List Rat} {s t : Nat} {L : FL} {k : Rat} (h : SqA A s t L k) : ∀ p ∈ L, p.2 + 1 <= A.length := fun p hp => by
 have := exp_dgs h.fl p hp
 have := h.len
 omega
theorem SqA.five {A : List Rat} {s t : Nat} {L : FL} {k : Rat} (h : SqA A s t L k) : L.length <= 5 := Nat.le_trans h.fl.len h.dg
theorem sq_pr {A : List Rat} {s t : Nat} {L : FL} {k : Rat} (h : SqA A s t L k) (c : Nat -> Bool) : PB (Abs.ev (prP c L)) 6 2300 (prP c L) := by
 refine ⟨ml_trim (MlP.prP c L h.fl.ml), fun _ => rfl, ?_, (cf_prP c L (fc_sml h.fl)).mono ?_⟩
 ·have := (suP_len c (fun _ => 0) L h.fl.ml h.two).2
  have := h.dg
  omega
 ·have h5 := Nat.mul_le_mul h.five (Nat.add_le_add_right h.t0 2)
  omega
theorem cf_diff {a b : Nat} (ha : a <= 10) (hb : b <= 11) : CF 5 (fun _ => (a : Rat) - (b : Rat)) /\ CF 5 (fun _ => (a : Rat) - (b : Rat) + 1) := by
 have e2 : (2 : Int) ^ 5 = 32 := by decide
 have h1 := CF.whole (n := (a : Int) - b) (s := 5) (by omega) (by omega)
 have h2 := CF.whole (n := (a : Int) - b + 1) (s := 5) (by omega) (by omega)
 refine ⟨h1.congr fun _ => ?_, h2.congr fun _ => ?_⟩
 ·rw [Rat.intCast_sub]; rfl
 ·rw [Rat.intCast_add, Rat.intCast_sub]; rfl
theorem sq_su {A : List Rat} {s t : Nat} {L : FL} {k : Rat} (h : SqA A s t L k) (c : Nat -> Bool) (w : Nat -> Rat) (hw : ∀ p ∈ L, CF 5 (fun _ => w p.2)) : PB (Abs.ev (suP c w L)) 6 2300 (ptrim (suP c w L)) := by
 refine PB.of_trim (fun _ => rfl) ?_ ((cf_suP (N := 5) c w L (fc_sml h.fl) h.five hw).mono ?_)
 ·have := (suP_len c w L h.fl.ml h.two).1
  have := h.dg
  omega
 ·have h0 := h.t0
  have h5 := Nat.mul_le_mul h.five (show 5 + 2 * t + 7 + 5 * (t + 2) <= 442 by omega)
  omega
theorem sq_w {A : List Rat} {s t : Nat} {L : FL} {k : Rat} (h : SqA A s t L k) (n : Nat) : PB (Abs.ev (Wn L n)) 6 2300 (Wn L n) := sq_pr h _
theorem sq_p {A : List Rat} {s t : Nat} {L : FL} {k : Rat} (h : SqA A s t L k) (n : Nat) : PB (Abs.ev (Pn L n)) 6 2300 (Pn L n) := sq_pr h _
theorem sq_y {A : List Rat} {s t : Nat} {L : FL} {k : Rat} (h : SqA A s t L k) (n : Nat) (hn : n <= 11) : PB (Abs.ev (Yn L n)) 6 2300 (ptrim (Yn L n)) :=
 sq_su h _ _ fun p hp => (cf_diff (by have := h.exp p hp; have := h.ln; omega) hn).2
theorem sq_z {A : List Rat} {s t : Nat} {L : FL} {k : Rat} (h : SqA A s t L k) (n : Nat) (hn : n <= 11) : PB (Abs.ev (Zn L n)) 6 2300 (ptrim (Zn L n)) :=
 sq_su h _ _ fun p hp => (cf_diff (by have := h.exp p hp; have := h.ln; omega) hn).1
theorem sq_pw {A : List Rat} {s t : Nat} {L : FL} {k : Rat} (h : SqA A s t L k) (f : Nat -> Nat) (hf : ∀ e, f e <= e) : PB (Abs.ev (pwP f L)) 10 2300 (pwP f L) := by
 have hd : ∀ L : FL, dgs f L <= dgs (fun e => e) L := fun L => by
  induction L with
  | nil => exact Nat.le_refl _
  | cons p L ih =>
   obtain ⟨m, e⟩ := p
   simp only [dgs]
   have := Nat.mul_le_mul_right (m.length - 1) (hf e)
   omega
 have h1 := hd L
 have h2 := h.len
 have h3 := h.ln
 refine ⟨ml_trim (MlP.pwP f L h.fl.ml), fun _ => rfl, ?_, (cf_pwP f L (by omega) L (fc_sml h.fl) h.fl.ml h.two (by omega)).mono ?_⟩
 ·rw [pwP_length _ _ h.fl.ml]; omega
 ·have h4 := h.five
  have h5 := Nat.mul_le_mul (show dgs f L <= 9 by omega) (Nat.add_le_add_right h.t0 2)
  omega
theorem sq_round {A : List Rat} {s t : Nat} {L : FL} {k : Rat} (h : SqA A s t L k) (n : Nat) (h1 : 1 <= n) (h2 : n <= 10) :
  ∃ D, ACall Tryz.prog 11 [.val (tl (ur (Wn L n)))] ⟨[.val (tl (ur D))], [none]⟩ /\
   ACall Tryz.prog 31 [.val (tl (ur (ptrim (Yn L n)))), .val (tl (ur D))] ⟨[.val (tl (ur (ptrim (Zn L n))))], [none, none]⟩ /\
   ACall Tryz.prog 10 [.val (tl (ur (Wn L n))), .val (tl (ur (ptrim (Zn L n))))] ⟨[.val (tl (ur (Pn L n)))], [none, none]⟩ /\
   ACall Tryz.prog 28 [.val (tl (ur (Wn L n))), .val (tl (ur (Pn L n)))] ⟨[.val (tl (ur (Wn L (n + 1))))], [none, none]⟩ /\
   ACall Tryz.prog 28 [.val (tl (ur (ptrim (Zn L n)))), .val (tl (ur (Pn L n)))] ⟨[.val (tl (ur (ptrim (Yn L (n + 1)))))], [none, none]⟩ := by
 have pW := sq_w h n
 have pY := sq_y h n (by omega)
 have pZ := sq_z h n (by omega)
 have pP := sq_p h n
 have pP0 : Pn L n ≠ [] := (MlP.prP _ L h.fl.ml).1
 obtain ⟨D, hD, cd⟩ := pb_derive pW (by omega) (by omega)
 obtain ⟨Z, hZ, cz⟩ := pb_sub pY hD (by omega) (by omega) (by omega)
 have eZ : Z = ptrim (Zn L n) := PB.inj hZ pZ fun x => (zn_ev L n x).symm
 rw [eZ] at cz
 obtain ⟨G, ig, _, _, cg⟩ := pb_gcd 14000000 pW pZ (by decide) (by omega) (by omega)
 have eG : G = Pn L n := ig.uniq (isg_cop (W := Wn L (n + 1)) (S := Yn L (n + 1)) (MlP.prP _ L h.fl.ml) (wn_split L n) (fun x => by rw [qbe, zn_split]) (wy_cop h.fl.ok (n + 1) (by omega)))
 rw [eG] at cg
 have pP1 : 1 <= (Pn L n).length := by rcases Nat.eq_zero_or_pos (Pn L n).length with h3 | h3; exact absurd (List.length_eq_zero_iff.1 h3) pP0; exact h3
 refine ⟨D, cd, cz, cg, pb_quo 6 pW pP pP0 (sq_w h (n + 1)) (wn_split L n) (by have := pW.len; omega) (by omega) (by omega) (by omega), pb_quo 6 pZ pP pP0 (sq_y h (n + 1) (by omega)) (zn_split L n) (by have := pZ.len; omega) (by omega) (by omega) (by omega)⟩
theorem sq_start {A : List Rat} {s t : Nat} {L : FL} {k : Rat} (h : SqA A s t L k) :
  ∃ D G M S, ACall Tryz.prog 11 [.val (tl (ur A))] ⟨[.val (tl (ur D))], [none]⟩ /\
   ACall Tryz.prog 10 [.val (tl (ur A)), .val (tl (ur D))] ⟨[.val (tl (ur G))], [none, none]⟩ /\
   ACall Tryz.prog 14 [.val (tl (ur A))] ⟨[.val (tl (ur M))], [none]⟩ /\
   ACall Tryz.prog 28 [.val (tl (ur M)), .val (tl (ur G))] ⟨[.val (tl (ur (Wn L 1)))], [none, none]⟩ /\
   ACall Tryz.prog 30 [.val (tl (ur A))] ⟨[.val (.agg (qc k⁻¹).row)], [none]⟩ /\
   ACall Tryz.prog 29 [.val (.agg (qc k⁻¹).row), .val (tl (ur D))] ⟨[.val (tl (ur S))], [none, none]⟩ /\
   ACall Tryz.prog 28 [.val (tl (ur S)), .val (tl (ur G))] ⟨[.val (tl (ur (ptrim (Yn L 1))))], [none, none]⟩ /\ PB (Abs.ev (pwP (fun e => e) L)) 10 2300 M := by
 have hs := h.s0
 have pA : PB (Abs.ev A) 10 s A := ⟨h.tr, fun _ => rfl, h.ln, h.cf⟩
 have pA2 : PB (Abs.ev A) 10 610 A := pA.mono (Nat.le_refl _) (by omega)
 obtain ⟨D, hD, cd⟩ := pb_derive pA (by omega) (by omega)
 have hD2 : PB (evd A) 9 610 D := hD.mono (by omega) (by omega)
 have hpw := sq_pw h (fun e => e - 1) (fun e => Nat.sub_le e 1)
 have hpi := sq_pw h (fun e => e) (fun e => Nat.le_refl e)
 have hG0 := MlP.pwP (fun e => e - 1) L h.fl.ml
 have w1 : Wn L 1 = prP (fun _ => true) L := prP_congr _ _ L fun p hp => decide_eq_true (h.fl.pos p hp)
 have y1 : Yn L 1 = suP (fun _ => true) (fun e => (e : Rat)) L := by
  unfold Yn
  rw [suP_congr2 (fun e => decide (1 <= e)) (fun _ => true) _ L fun p hp => decide_eq_true (h.fl.pos p hp)]
  exact suP_congr _ _ _ L fun p _ _ => by
   have : ((1 : Nat) : Rat) = 1 := rfl
   rw [this]; grind
 have sA : ∀ x, Abs.ev (pwP (fun e => e) L) x = Abs.ev (Wn L 1) x * Abs.ev (pwP (fun e => e - 1) L) x := fun x => by
  rw [pw_split L h.fl.pos x, w1]; grind
 have sD : ∀ x, evd (pwP (fun e => e) L) x = Abs.ev (Yn L 1) x * Abs.ev (pwP (fun e => e - 1) L) x := fun x => by
  rw [evd_pw L h.fl.pos x, y1]; grind
 have eD : ∀ x, evd A x = k * evd (pwP (fun e => e) L) x := fun x => by
  rw [evd_congr (Q := lsc k (pwP (fun e => e) L)) (fun x => by rw [h.ev, qa4]) x, evd_lsc]
 obtain ⟨G, ig, _, _, cg⟩ := pb_gcd 145000000 pA2 hD2 (by decide) (by omega) (by omega)
 have hcop := wy_cop h.fl.ok 1 (by omega)
 have c1 : Cop (lsc k (Wn L 1)) (lsc k (Yn L 1)) := ((hcop.scale h.k0 (fun x => qa4 k _ x)).symm.scale h.k0 fun x => qa4 k _ x).symm
 have eG : G = pwP (fun e => e - 1) L := ig.uniq (isg_cop hG0 (fun x => by rw [h.ev, sA, qa4]; grind) (fun x => by rw [hD.ev, eD, sD, qa4]; grind) c1)
 subst eG
 obtain ⟨M, hM, cm⟩ := pl_monic pA.pl h.ne (by omega) (by omega)
 have hkk := Rat.inv_mul_cancel k h.k0
 have eM : M = pwP (fun e => e) L := tr_inj hM.tr hpi.tr fun x => by
  rw [hM.ev, h.lead, h.ev]
  have : k⁻¹ * (k * Abs.ev (pwP (fun e => e) L) x) = k⁻¹ * k * Abs.ev (pwP (fun e => e) L) x := by grind
  rw [this, hkk, Rat.one_mul]
 subst eM
 have cr := urecip_call pA h.ne (by omega) (by omega)
 rw [h.lead] at cr
 have hk1 : CF s (fun _ => k⁻¹) := by
  have : CF s (fun _ => A.getD (A.length - 1) 0) := h.cf.comp (fun _ => A.length - 1)
  rw [h.lead] at this
  exact this.inv h.k0
 obtain ⟨S, hS, cs⟩ := pb_scale hk1 hD2 (by omega) (by omega)
 have eS : ∀ x, k⁻¹ * evd A x = Abs.ev (Yn L 1) x * Abs.ev (pwP (fun e => e - 1) L) x := fun x => by
  rw [<- sD, eD]
  have : k⁻¹ * (k * evd (pwP (fun e => e) L) x) = k⁻¹ * k * evd (pwP (fun e => e) L) x := by grind
  rw [this, hkk, Rat.one_mul]
 have l1 : 1 <= (pwP (fun e => e - 1) L).length := by rcases Nat.eq_zero_or_pos (pwP (fun e => e - 1) L).length with h3 | h3; exact absurd (List.length_eq_zero_iff.1 h3) hG0.1; exact h3
 refine ⟨D, _, _, S, cd, cg, cm, pb_quo 10 hpi hpw hG0.1 (sq_w h 1) sA (by have := hpi.len; omega) (by omega) (by omega) (by omega), cr, cs, pb_quo 10 hS hpw hG0.1 (sq_y h 1 (by omega)) eS (by have := hS.len; omega) (by omega) (by omega) (by omega), hpi⟩
open Go Go.Abs Go.Abs.M Go.Proofs
def sqp (L : FL) : Nat -> List (List Rat × Nat)
 | 0 => []
 | n + 1 => if 1 < (Pn L (n + 1)).length then sqp L n ++ [(Pn L (n + 1), n + 1)] else sqp L n
def sqR (l : List (List Rat × Nat)) : Abs.Rows := l.map fun p => [.lst false (ur p.1), .v (.int .i64 (p.2 : Int))]
theorem sqp_len (L : FL) : ∀ n, (sqp L n).length <= n
 | 0 => Nat.le_refl _
 | n + 1 => by
  have := sqp_len L n
  unfold sqp
  split
  ·rw [List.length_append, List.length_singleton]; omega
  ·omega
theorem sqR_len (l : List (List Rat × Nat)) : (sqR l).length = l.length := by simp [sqR]
theorem sqR_app (l : List (List Rat × Nat)) (P : List Rat) (n : Nat) : sqR (l ++ [(P, n)]) = sqR l ++ [[.lst false (ur P), .v (.int .i64 (n : Int))]] := by simp [sqR]
theorem dgs_zero (c : Nat -> Bool) : ∀ (L : FL), (∀ p ∈ L, c p.2 = false) -> dgs (fun e => if c e = true then 1 else 0) L = 0
 | [], _ => rfl
 | (m, e) :: L, h => by
  simp only [dgs, dgs_zero c L fun p hp => h p (.tail _ hp)]
  rw [show c e = false from h (m, e) (.head _)]
  simp
theorem dgs_pos (c : Nat -> Bool) : ∀ (L : FL), (∀ p ∈ L, 2 <= p.1.length) -> ∀ p ∈ L, c p.2 = true -> 1 <= dgs (fun e => if c e = true then 1 else 0) L
 | (m, e) :: L, h, p, hp, hc => by
  simp only [dgs]
  rcases List.mem_cons.1 hp with rfl | hp
  ·have := h (m, e) (.head _)
   simp only at this hc
   rw [if_pos hc, Nat.one_mul]; omega
  ·have := dgs_pos c L (fun p hp => h p (.tail _ hp)) p hp hc
   omega
theorem pn_one {A : List Rat} {s t : Nat} {L : FL} {k : Rat} (h : SqA A s t L k) {n : Nat} (hw : (Wn L n).length <= 1) : ∀ j, n <= j -> ¬ 1 < (Pn L j).length := fun j hj => by
 unfold Wn at hw
 unfold Pn
 rw [prP_length _ _ h.fl.ml] at hw ⊢
 have hz : ∀ p ∈ L, decide (p.2 = j) = false := fun p hp => by
  rw [decide_eq_false_iff_not]
  intro he
  have := dgs_pos (fun e => decide (n <= e)) L h.two p hp (decide_eq_true (by omega))
  omega
 have := dgs_zero (fun e => decide (e = j)) L hz
 omega
theorem sqp_end {A : List Rat} {s t : Nat} {L : FL} {k : Rat} (h : SqA A s t L k) {n : Nat} (hw : (Wn L (n + 1)).length <= 1) : ∀ d, sqp L (n + d) = sqp L n
 | 0 => rfl
 | d + 1 => by rw [<- Nat.add_assoc, sqp, if_neg (pn_one h hw _ (by omega)), sqp_end h hw d]
def sfS0 (X W Y : Abs.Rows) (i : Int) : St := mkSt 60 [.c (.t (.lst false X)), .junk, .junk, .c (.t (.lst true [])), .junk, .junk, .c (.t (.lst false W)), .c (.t (.lst false Y)), vi .i64 i] [none]
def sfS1 (X W Y : Abs.Rows) (len : Nat) (r : Abs.Rows) (i : Int) : St := mkSt 60 [.c (.t (.lst false X)), .junk, .junk, .c (.sl 1 0 len false), .junk, .junk, .c (.t (.lst false W)), .c (.t (.lst false Y)), vi .i64 i] [none, some (.rows 2 r true false)]
theorem usqf_call {Pa : List Rat} {s t : Nat} {Fs : FL} {k : Rat} (h : SqA Pa s t Fs k) :
  ACall Tryz.prog 7 [.val (tl (ur Pa))] ⟨[.val (tl (sqR (sqp Fs (Pa.length - 1))))], [none]⟩ := by
 obtain ⟨D, G, M, S, c1, c2, c3, c4, c5, c6, c7, _⟩ := sq_start h
 have hrd := sq_round h
 have hl0 : 1 <= Pa.length := by rcases Nat.eq_zero_or_pos Pa.length with h3 | h3; exact absurd (List.length_eq_zero_iff.1 h3) h.ne; exact h3
 have hl1 := h.ln
 have lX := qaf Pa
 have hend : ∀ n, 1 <= n -> n <= Pa.length -> (Wn Fs n).length <= 1 -> sqp Fs (Pa.length - 1) = sqp Fs (n - 1) := fun n h1 h2 hw => by
  obtain ⟨j, rfl⟩ : ∃ j, n = j + 1 := ⟨n - 1, by omega⟩
  have := sqp_end h hw (Pa.length - 1 - j)
  rw [show j + (Pa.length - 1 - j) = Pa.length - 1 by omega] at this
  rw [this, Nat.add_sub_cancel]
 obtain ⟨s3, t3, r3, p3, hrow3, _⟩ := qrow k⁻¹
 rw [hrow3] at c5 c6
 obtain ⟨w0, hw0⟩ : ∃ w0, w0 = ur (Wn Fs 1) := ⟨_, rfl⟩
 obtain ⟨y0, hy0⟩ : ∃ y0, y0 = ur (ptrim (Yn Fs 1)) := ⟨_, rfl⟩
 obtain ⟨T, hT⟩ : ∃ T, T = sqR (sqp Fs (Pa.length - 1)) := ⟨_, rfl⟩
 rw [<- hw0] at c4
 rw [<- hy0] at c7
 rw [<- hT]
 clear h
 generalize Pa.length = N at *
 generalize ur Pa = X at *
 generalize ur D = UD at *
 generalize ur G = UG at *
 generalize ur M = UM at *
 generalize ur S = US at *
 refine callZ ccOk mixed [.val] Tryz.func7 rfl rfl (by kernel_rfl) fun zA zB zC zD zE zF zG zH zI zJ zK zL zM zN zO zP zQ zR zS zT zU zV zX zY zZ za zb zc zd ze zg zh zi zj zk zl zm zn zo zq zr zt zu zw zx zy zz zW zth A L F hS hF => ?_
 obtain ⟨NX, hNX, hlx⟩ : ∃ NX : Int, NX = N /\ zY (zh X) = NX := ⟨_, rfl, by rw [hS.ofN, hS.len, lX]⟩
 cbv
 refine ⟨_, hS.call (c1), ?_⟩
 cbv
 refine ⟨_, hS.call (c2), ?_⟩
 cbv
 refine ⟨_, hS.call (c3), ?_⟩
 cbv
 refine ⟨_, hS.call (c4), ?_⟩
 cbv
 refine ⟨_, hS.call (c5), ?_⟩
 cbv
 refine ⟨_, hS.call (c6), ?_⟩
 cbv
 refine ⟨_, hS.call (c7), ?_⟩
 cbv
 have hNX : NX = (N : Int) := hNX
 refine loopZR ccOk mixed hS (fun (m : Nat) s' => ∃ (n : Nat) (I : Int) (w y r : Abs.Rows), I = n /\ 1 <= n /\ n + m = N /\ w = ur (Wn Fs n) /\ y = ur (ptrim (Yn Fs n)) /\ r = sqR (sqp Fs (n - 1)) /\ ((r = [] /\ s' = sfS0 X w y I) ∨ ∃ l, l = r.length /\ s' = sfS1 X w y l r I)) (n := N - 1) (s0 := sfS0 X w0 y0 1) (qat ?_ ?_) rfl (Nat.succ_le_succ (Nat.zero_le _)) ?_ ?_
 ·simp [leT, sfS0, mkSt, vi, vb]
 ·simp [leH, sfS0, mkSt]
 ·exact ⟨1, 1, w0, y0, [], rfl, by omega, by omega, hw0, hy0, rfl, .inl ⟨rfl, rfl⟩⟩
 ·rintro m s1 ⟨n, I, w, y, r, hI, hn1, hnm, hw, hy, hr, hcase⟩
  have lw := qaf (Wn Fs n)
  rw [<- hw] at lw
  have hI : I = (n : Int) := hI
  by_cases hgo : 1 < (Wn Fs n).length /\ n < N
  ·have l1 : zO 1 (zY (zh w)) = true := by rw [hS.ofN, hS.len, lw, hS.lt]; exact decide_eq_true (by omega)
   have l2 : zO I (zY (zh X)) = true := by rw [hlx, hS.lt]; exact decide_eq_true (by omega)
   obtain ⟨V, d1, d2, d3, d4, d5⟩ := hrd n hn1 (by omega)
   have lp := qaf (Pn Fs n)
   have hstep : sqp Fs n = if 1 < (Pn Fs n).length then sqp Fs (n - 1) ++ [(Pn Fs n, n)] else sqp Fs (n - 1) := by
    obtain ⟨j, rfl⟩ : ∃ j, n = j + 1 := ⟨n - 1, by omega⟩
    rw [Nat.add_sub_cancel, sqp]
   rw [<- hw] at d1 d3 d4
   rw [<- hy] at d2
   obtain ⟨w', hw'⟩ : ∃ w', w' = ur (Wn Fs (n + 1)) := ⟨_, rfl⟩
   obtain ⟨y', hy'⟩ : ∃ y', y' = ur (ptrim (Yn Fs (n + 1))) := ⟨_, rfl⟩
   obtain ⟨p, hp⟩ : ∃ p, p = ur (Pn Fs n) := ⟨_, rfl⟩
   rw [<- hw'] at d4
   rw [<- hy'] at d5
   rw [<- hp] at d3 d4 d5 lp
   generalize ur (ptrim (Zn Fs n)) = z at *
   generalize ur V = v at *
   obtain ⟨I', hI', i1⟩ : ∃ I' : Int, I' = ((n + 1 : Nat) : Int) /\ zA .i64 (zB I 1) = I' := ⟨I + 1, by omega, by rw [hS.add, hS.wrap, wrap_i64 (by omega) (by omega)]⟩
   have hmm : m - 1 < m := by omega
   by_cases hp1 : 1 < (Pn Fs n).length
   ·have l3 : zO 1 (zY (zh p)) = true := by rw [hS.ofN, hS.len, lp, hS.lt]; exact decide_eq_true (by omega)
    rw [if_pos hp1] at hstep
    obtain ⟨row, hrw⟩ : ∃ row, row = [Tree.lst false p, .v (.int .i64 I)] := ⟨_, rfl⟩
    have hr4 : row.length = 2 := by rw [hrw]; rfl
    obtain ⟨l, hl⟩ : ∃ l, l = r.length := ⟨_, rfl⟩
    have hll : l <= 10 := by rw [hl, hr, sqR_len]; have := sqp_len Fs (n - 1); omega
    have u0 : zo [row] 0 1 = [row] := by rw [hS.part]; rfl
    have u1 : zn 0 1 [row] = true := by rw [hS.fit]; rfl
    have u2 : zQ (za (zh [row]) 0) = true := by rw [hS.len, hS.neq, hS.not]; rfl
    have u3 : zu 2 [row] = true := by rw [hS.wide]; simp [hr4]
    have u3' : zu 2 [] = true := by rw [hS.wide]; rfl
    have u4 : ze l (zh [row]) 32 = true := by rw [hS.len, hS.room]; exact decide_eq_true (by unfold capBytes; simp only [List.length_cons, List.length_nil]; omega)
    have u4' : ze (zh []) (zh [row]) 32 = true := by rw [hS.len, hS.len, hS.room]; exact decide_eq_true (by unfold capBytes; simp only [List.length_cons, List.length_nil]; omega)
    have u5 : za (zb 0 l) (zh r) = true := by rw [hS.nadd, hS.neq, hS.len, <- hl, Nat.zero_add]; exact decide_eq_true rfl
    have u6 : zb l (zh [row]) = l + 1 := by rw [hS.len, hS.nadd]; rfl
    have u6' : zb (zh []) (zh [row]) = 1 := by rw [hS.len, hS.len, hS.nadd]; rfl
    have u7 : zq r 0 [row] = r ++ [row] := by rw [hS.ext, List.drop_zero]
    have u7' : zq [] 0 [row] = [row] := by rw [hS.ext]; rfl
    have hap : r ++ [row] = sqR (sqp Fs n) := by rw [hstep, sqR_app, hr, hrw, hI, hp]
    have hl1 : l + 1 = (r ++ [row]).length := by rw [List.length_append, hl]; rfl
    have hnx : ∃ (n2 : Nat) (I2 : Int) (w2 y2 r2 : Abs.Rows), I2 = n2 /\ 1 <= n2 /\ n2 + (m - 1) = N /\ w2 = ur (Wn Fs n2) /\ y2 = ur (ptrim (Yn Fs n2)) /\ r2 = sqR (sqp Fs (n2 - 1)) /\ ((r2 = [] /\ sfS1 X w' y' (l + 1) (r ++ [row]) I' = sfS0 X w2 y2 I2) ∨ ∃ l2, l2 = r2.length /\ sfS1 X w' y' (l + 1) (r ++ [row]) I' = sfS1 X w2 y2 l2 r2 I2) :=
     ⟨n + 1, I', w', y', r ++ [row], hI', by omega, by omega, hw', hy', by rw [Nat.add_sub_cancel]; exact hap, .inr ⟨l + 1, hl1, rfl⟩⟩
    clear hstep hap hrd hend
    rcases hcase with ⟨hr0, hs1⟩ | ⟨l', hl', hs1⟩
    ·subst hr0
     obtain rfl : l = 0 := hl
     subst hs1
     cbv
     refine bT (l1) ?_
     refine bT (l2) ?_
     refine ⟨_, hS.call (d1), ?_⟩
     cbv
     refine ⟨_, hS.call (d2), ?_⟩
     cbv
     refine ⟨_, hS.call (d3), ?_⟩
     cbv
     refine bT (l3) ?_
     rw [<- hrw, u0]
     refine nd (u1) ?_
     refine nd (u2) ?_
     refine nd (u3) ?_
     refine nd (u3') ?_
     refine nd (u4') ?_
     refine ⟨_, hS.call (d4), ?_⟩
     cbv
     refine ⟨_, hS.call (d5), ?_⟩
     cbv
     refine againR [(1, 8)] (s' := sfS1 X w' y' (0 + 1) ([] ++ [row]) I') (k := m - 1) ?_ ?_ ?_ ?_ rfl (Nat.succ_le_succ (Nat.zero_le _)) hmm hnx
     ·simp [leTR, sfS1, mkSt, vi, AV.ren, AV.noTup, Cell.ren, renF, i1, u6']
     ·simp [leHR, sfS1, mkSt, Abs.look, renF, Blk.ren, u7', Cell.ren]
     ·simp [liveR, sfS1, mkSt, renF]
     ·simp
    ·obtain rfl : l' = l := by rw [hl, hl']
     subst hs1
     cbv
     refine bT (l1) ?_
     refine bT (l2) ?_
     refine ⟨_, hS.call (d1), ?_⟩
     cbv
     refine ⟨_, hS.call (d2), ?_⟩
     cbv
     refine ⟨_, hS.call (d3), ?_⟩
     cbv
     refine bT (l3) ?_
     rw [<- hrw, u0]
     refine nd (u1) ?_
     refine nd (u2) ?_
     refine nd (u3) ?_
     refine nd (u4) ?_
     refine nd (u5) ?_
     refine ⟨_, hS.call (d4), ?_⟩
     cbv
     refine ⟨_, hS.call (d5), ?_⟩
     cbv
     refine againR [(1, 9)] (s' := sfS1 X w' y' (l' + 1) (r ++ [row]) I') (k := m - 1) ?_ ?_ ?_ ?_ rfl (Nat.succ_le_succ (Nat.zero_le _)) hmm hnx
     ·simp [leTR, sfS1, mkSt, vi, AV.ren, AV.noTup, Cell.ren, renF, i1, u6]
     ·simp [leHR, sfS1, mkSt, Abs.look, renF, Blk.ren, u7, Cell.ren]
     ·simp [liveR, sfS1, mkSt, renF]
     ·simp
   ·have l3 : zO 1 (zY (zh p)) = false := by rw [hS.ofN, hS.len, lp, hS.lt]; exact decide_eq_false (by omega)
    rw [if_neg hp1] at hstep
    clear hrd hend
    rcases hcase with ⟨hr0, hs1⟩ | ⟨l, hl, hs1⟩
    ·have hnx : ∃ (n2 : Nat) (I2 : Int) (w2 y2 r2 : Abs.Rows), I2 = n2 /\ 1 <= n2 /\ n2 + (m - 1) = N /\ w2 = ur (Wn Fs n2) /\ y2 = ur (ptrim (Yn Fs n2)) /\ r2 = sqR (sqp Fs (n2 - 1)) /\ ((r2 = [] /\ sfS0 X w' y' I' = sfS0 X w2 y2 I2) ∨ ∃ l2, l2 = r2.length /\ sfS0 X w' y' I' = sfS1 X w2 y2 l2 r2 I2) :=
      ⟨n + 1, I', w', y', r, hI', by omega, by omega, hw', hy', by rw [Nat.add_sub_cancel, hstep, hr], .inl ⟨hr0, rfl⟩⟩
     clear hstep
     subst hs1
     cbv
     refine bT (l1) ?_
     refine bT (l2) ?_
     refine ⟨_, hS.call (d1), ?_⟩
     cbv
     refine ⟨_, hS.call (d2), ?_⟩
     cbv
     refine ⟨_, hS.call (d3), ?_⟩
     cbv
     refine bF (l3) ?_
     refine ⟨_, hS.call (d4), ?_⟩
     cbv
     refine ⟨_, hS.call (d5), ?_⟩
     cbv
     refine againR [] (s' := sfS0 X w' y' I') (k := m - 1) ?_ ?_ ?_ ?_ rfl (Nat.succ_le_succ (Nat.zero_le _)) hmm hnx
     ·simp [leTR, sfS0, mkSt, vi, AV.ren, AV.noTup, Cell.ren, renF, i1]
     ·simp [leHR, sfS0, mkSt, Abs.look, renF, Blk.ren, Cell.ren]
     ·simp [liveR, sfS0, mkSt, renF]
     ·simp
    ·have hnx : ∃ (n2 : Nat) (I2 : Int) (w2 y2 r2 : Abs.Rows), I2 = n2 /\ 1 <= n2 /\ n2 + (m - 1) = N /\ w2 = ur (Wn Fs n2) /\ y2 = ur (ptrim (Yn Fs n2)) /\ r2 = sqR (sqp Fs (n2 - 1)) /\ ((r2 = [] /\ sfS1 X w' y' l r I' = sfS0 X w2 y2 I2) ∨ ∃ l2, l2 = r2.length /\ sfS1 X w' y' l r I' = sfS1 X w2 y2 l2 r2 I2) :=
      ⟨n + 1, I', w', y', r, hI', by omega, by omega, hw', hy', by rw [Nat.add_sub_cancel, hstep, hr], .inr ⟨l, hl, rfl⟩⟩
     clear hstep
     subst hs1
     cbv
     refine bT (l1) ?_
     refine bT (l2) ?_
     refine ⟨_, hS.call (d1), ?_⟩
     cbv
     refine ⟨_, hS.call (d2), ?_⟩
     cbv
     refine ⟨_, hS.call (d3), ?_⟩
     cbv
     refine bF (l3) ?_
     refine ⟨_, hS.call (d4), ?_⟩
     cbv
     refine ⟨_, hS.call (d5), ?_⟩
     cbv
     refine againR [(1, 1)] (s' := sfS1 X w' y' l r I') (k := m - 1) ?_ ?_ ?_ ?_ rfl (Nat.succ_le_succ (Nat.zero_le _)) hmm hnx
     ·simp [leTR, sfS1, mkSt, vi, AV.ren, AV.noTup, Cell.ren, renF, i1]
     ·simp [leHR, sfS1, mkSt, Abs.look, renF, Blk.ren, Cell.ren]
     ·simp [liveR, sfS1, mkSt, renF]
     ·simp
  ·have hrT : r = T := by
    rw [hr, hT]
    by_cases hw1 : (Wn Fs n).length <= 1
    ·rw [hend n hn1 (by omega) hw1]
    ·rw [show n = N by omega]
   subst hrT
   clear hrd hend
   by_cases hw1 : (Wn Fs n).length <= 1
   ·have l1 : zO 1 (zY (zh w)) = false := by rw [hS.ofN, hS.len, lw, hS.lt]; exact decide_eq_false (by omega)
    rcases hcase with ⟨hr0, hs1⟩ | ⟨l, hl, hs1⟩
    ·subst hr0
     subst hs1
     cbv
     refine bF (l1) ?_
     exact fin1w hF (TLe.drop _ _)
    ·have f1 : zn 0 l r = true := by rw [hS.fit]; exact decide_eq_true (by omega)
     have f2 : zo r 0 l = r := by rw [hS.part, List.drop_zero, List.take_of_length_le (by omega)]
     subst hs1
     cbv
     refine bF (l1) ?_
     refine nd (f1) ?_
     rw [f2]
     exact hF _ (ResLe.refl _)
   ·have l1 : zO 1 (zY (zh w)) = true := by rw [hS.ofN, hS.len, lw, hS.lt]; exact decide_eq_true (by omega)
    have l2 : zO I (zY (zh X)) = false := by rw [hlx, hS.lt]; exact decide_eq_false (by omega)
    rcases hcase with ⟨hr0, hs1⟩ | ⟨l, hl, hs1⟩
    ·subst hr0
     subst hs1
     cbv
     refine bT (l1) ?_
     refine bF (l2) ?_
     exact fin1w hF (TLe.drop _ _)
    ·have f1 : zn 0 l r = true := by rw [hS.fit]; exact decide_eq_true (by omega)
     have f2 : zo r 0 l = r := by rw [hS.part, List.drop_zero, List.take_of_length_le (by omega)]
     subst hs1
     cbv
     refine bT (l1) ?_
     refine bF (l2) ?_
     refine nd (f1) ?_
     rw [f2]
     exact hF _ (ResLe.refl _)
open Go Go.Abs Go.Abs.M Go.Proofs
open Go Go.Abs Go.Abs.M Go.Proofs
theorem rat_call (P : List Rat) (i : Nat) (hl : P.length <= 1000) (hi : i <= 2000) : ACall Tryz.prog 55 [.val (tl (ur P)), .val (ti .i64 (i : Int))] ⟨[.val (.agg (qc (P.getD i 0)).row)], [none, none]⟩ := by
 have cw := rqwhole_row 0 (by omega) (by omega)
 rw [show ((0 : Int) : Rat) = 0 from rfl] at cw
 have lX := qaf P
 obtain ⟨I, hI⟩ : ∃ I : Int, I = (i : Int) := ⟨_, rfl⟩
 rw [<- hI]
 by_cases h : i < P.length
 ·have hPi : P[i]? = some (P.getD i 0) := by rw [List.getD_eq_getElem?_getD, List.getElem?_eq_getElem h]; rfl
  have hX := qbx hPi
  obtain ⟨s, t, r, p, hrow, _⟩ := qrow (P.getD i 0)
  rw [hrow] at hX ⊢
  generalize P.length = m at *
  generalize ur P = X at *
  refine callZ ccOk mixed [.val] Tryz.func55 rfl rfl (by kernel_rfl) fun zA zB zC zD zE zF zG zH zI zJ zK zL zM zN zO zP zQ zR zS zT zU zV zX zY zZ za zb zc zd ze zg zh zi zj zk zl zm zn zo zq zr zt zu zw zx zy zz zW zth A L F hS hF => ?_
  have e1 : zO I (zY (zh X)) = true := by rw [hS.lt, hS.ofN, hS.len, lX]; exact decide_eq_true (by omega)
  have g1 : zP 0 I = true := by rw [hS.le]; exact decide_eq_true (by omega)
  have hz : zi X (zV I) = some [.v (.bool s), .lst false r, .v (.bool t), .lst false p] := by rw [hS.nat, hI, Int.toNat_natCast, hS.nth, hX]
  cbv
  refine bT e1 ?_
  rw [hz]
  cbv
  refine nd (g1) ?_
  exact hF _ (ResLe.refl _)
 ·have h0 : P.getD i 0 = 0 := by rw [List.getD_eq_getElem?_getD, List.getElem?_eq_none (by omega)]; rfl
  rw [h0]
  obtain ⟨s, t, r, p, hrow, _⟩ := qrow 0
  rw [hrow] at cw ⊢
  generalize P.length = m at *
  generalize ur P = X at *
  refine callZ ccOk mixed [.val] Tryz.func55 rfl rfl (by kernel_rfl) fun zA zB zC zD zE zF zG zH zI zJ zK zL zM zN zO zP zQ zR zS zT zU zV zX zY zZ za zb zc zd ze zg zh zi zj zk zl zm zn zo zq zr zt zu zw zx zy zz zW zth A L F hS hF => ?_
  have e1 : zO I (zY (zh X)) = false := by rw [hS.lt, hS.ofN, hS.len, lX]; exact decide_eq_false (by omega)
  cbv
  refine bF (e1) ?_
  refine ⟨_, hS.call (cw), ?_⟩
  cbv
  exact hF _ (ResLe.refl _)
def ruaddSt (X Y : Abs.Rows) (len : Nat) (r : Abs.Rows) (i : Int) : St := mkSt 29 [.c (.t (.lst false X)), .c (.t (.lst false Y)), .junk, .junk, .junk, .c (.sl 2 0 len false), vi .i64 i] [none, none, some (.rows 4 r true false)]
theorem ruadd_call (P B : List Rat) (a b : Nat) (hP : P.length <= 1000) (hB : B.length <= 1000) (h1 : ∀ j, Qs (P.getD j 0) a) (h2 : ∀ j, Qs (B.getD j 0) b) (hab : a + b <= 68719476736) :
  ACall Tryz.prog 26 [.val (tl (ur P)), .val (tl (ur B))] ⟨[.val (tl (ur (ptrim ((List.range (max P.length B.length)).map fun i => P.getD i 0 + B.getD i 0))))], [none, none]⟩ := by
 obtain ⟨n, hn⟩ : ∃ n, n = max P.length B.length := ⟨_, rfl⟩
 obtain ⟨T, hT⟩ : ∃ L : List Rat, L = (List.range n).map fun i => P.getD i 0 + B.getD i 0 := ⟨_, rfl⟩
 have hTl : T.length = n := by rw [hT, List.length_map, List.length_range]
 have hTg : ∀ i, i < n -> T[i]? = some (P.getD i 0 + B.getD i 0) := fun i hi => by rw [hT, List.getElem?_map, List.getElem?_range hi]; rfl
 rw [<- hn, <- hT]
 have ct := utrim_call T (by omega)
 have cat1 : ∀ (i : Nat) (I : Int), I = (i : Int) -> i <= 2000 -> ACall Tryz.prog 55 [.val (tl (ur P)), .val (ti .i64 I)] ⟨[.val (.agg (qc (P.getD i 0)).row)], [none, none]⟩ := fun i I hI h => by rw [hI]; exact rat_call P i hP h
 have cat2 : ∀ (i : Nat) (I : Int), I = (i : Int) -> i <= 2000 -> ACall Tryz.prog 55 [.val (tl (ur B)), .val (ti .i64 I)] ⟨[.val (.agg (qc (B.getD i 0)).row)], [none, none]⟩ := fun i I hI h => by rw [hI]; exact rat_call B i hB h
 have cadd := fun i => rqadd_row (h1 i) (h2 i) hab
 have lX := qaf P
 have lY := qaf B
 obtain ⟨X, hX⟩ : ∃ X, X = ur P := ⟨_, rfl⟩
 obtain ⟨Y, hY⟩ : ∃ X, X = ur B := ⟨_, rfl⟩
 obtain ⟨Z, hZ⟩ : ∃ X, X = ur (ptrim T) := ⟨_, rfl⟩
 rw [<- hX] at lX cat1
 rw [<- hY] at lY cat2
 rw [<- hX, <- hY, <- hZ]
 rw [<- hZ] at ct
 clear hT
 refine callZ ccOk mixed [.val] Tryz.func26 rfl rfl (by kernel_rfl) fun zA zB zC zD zE zF zG zH zI zJ zK zL zM zN zO zP zQ zR zS zT zU zV zX zY zZ za zb zc zd ze zg zh zi zj zk zl zm zn zo zq zr zt zu zw zx zy zz zW zth A L F hS hF => ?_
 obtain ⟨N, hN, em⟩ : ∃ N : Int, N = n /\ zT (zY (zh X)) (zY (zh Y)) = N := ⟨_, rfl, by rw [hS.ofN, hS.ofN, hS.len, hS.len, lX, lY, hS.max]; split <;> omega⟩
 cbv
 have hN : N = (n : Int) := hN
 refine loopZR ccOk mixed hS (fun (m : Nat) s' => ∃ (i : Nat) (I : Int) (r : Abs.Rows), I = i /\ i + m = n /\ r = ur (T.take i) /\ s' = ruaddSt X Y i r I) (n := n) (s0 := ruaddSt X Y 0 [] 0) (qat ?_ ?_) rfl (by show 2 <= 3; omega) ?_ ?_
 ·simp [leT, ruaddSt, mkSt, vi, vb]
 ·simp [leH, ruaddSt, mkSt]
 ·exact ⟨0, 0, [], rfl, by omega, rfl, rfl⟩
 ·rintro m s1 ⟨i, I, r, hI, him, hr, hs1⟩
  by_cases hi : i < n
  ·have l1 : zO I (zT (zY (zh X)) (zY (zh Y))) = true := by rw [em, hS.lt]; exact decide_eq_true (by omega)
   have c1 := cat1 i I hI (by omega)
   have c2 := cat2 i I hI (by omega)
   obtain ⟨_, c3⟩ := cadd i
   obtain ⟨s3, t3, r3, p3, hrow3, _⟩ := qrow (P.getD i 0)
   obtain ⟨s4, t4, r4, p4, hrow4, _⟩ := qrow (B.getD i 0)
   obtain ⟨s5, t5, r5, p5, hrow5, _⟩ := qrow (P.getD i 0 + B.getD i 0)
   obtain ⟨row, hrw⟩ : ∃ row, row = [Tree.v (.bool s5), .lst false r5, .v (.bool t5), .lst false p5] := ⟨_, rfl⟩
   obtain ⟨r2, hr2⟩ : ∃ r2, r2 = ur (T.take (i + 1)) := ⟨_, rfl⟩
   have hap : r ++ [row] = r2 := by rw [hr2, List.take_add_one, hTg i hi, Option.toList_some, ur_app, hrow5, hr, hrw]
   have hrl : r.length = i := by rw [hr, qaf, List.length_take]; omega
   have hr4 : row.length = 4 := by rw [hrw]; rfl
   have u0 : zo [row] 0 1 = [row] := by rw [hS.part]; rfl
   have u1 : zn 0 1 [row] = true := by rw [hS.fit]; rfl
   have u2 : zQ (za (zh [row]) 0) = true := by rw [hS.len, hS.neq, hS.not]; rfl
   have u3 : zu 4 [row] = true := by rw [hS.wide]; simp [hr4]
   have u4 : ze i (zh [row]) 64 = true := by rw [hS.len, hS.room]; exact decide_eq_true (by unfold capBytes; simp only [List.length_cons, List.length_nil]; omega)
   have u5 : za (zb 0 i) (zh r) = true := by rw [hS.nadd, hS.neq, hS.len, hrl, Nat.zero_add]; exact decide_eq_true rfl
   have u6 : zb i (zh [row]) = i + 1 := by rw [hS.len, hS.nadd]; rfl
   have u7 : zq r 0 [row] = r2 := by rw [hS.ext, List.drop_zero]; exact hap
   rw [hrow3] at c1
   rw [hrow4] at c2
   rw [hrow3, hrow4, hrow5] at c3
   obtain ⟨I', hI', i1⟩ : ∃ I' : Int, I' = ((i + 1 : Nat) : Int) /\ zA .i64 (zB I 1) = I' := ⟨I + 1, by omega, by rw [hS.add, hS.wrap, wrap_i64 (by omega) (by omega)]⟩
   have hmm : m - 1 < m := by omega
   have hnx : ∃ (i2 : Nat) (I2 : Int) (r' : Abs.Rows), I2 = i2 /\ i2 + (m - 1) = n /\ r' = ur (T.take i2) /\ ruaddSt X Y (i + 1) r2 I' = ruaddSt X Y i2 r' I2 := ⟨i + 1, I', r2, hI', by omega, hr2, rfl⟩
   clear cat1 cat2 cadd hTg hr hr2 hap em
   subst hs1
   cbv
   refine bT l1 ?_
   refine ⟨_, hS.call (c1), ?_⟩
   cbv
   refine ⟨_, hS.call (c2), ?_⟩
   cbv
   refine ⟨_, hS.call (c3), ?_⟩
   cbv
   rw [<- hrw, u0]
   refine nd (u1) ?_
   refine nd (u2) ?_
   refine nd (u3) ?_
   refine nd (u4) ?_
   refine nd (u5) ?_
   refine againR [(2, 10)] (s' := ruaddSt X Y (i + 1) r2 I') (k := m - 1) ?_ ?_ ?_ ?_ rfl (by show 2 <= 3; omega) hmm hnx
   ·simp [leTR, ruaddSt, mkSt, vi, AV.ren, AV.noTup, Cell.ren, renF, i1, u6]
   ·simp [leHR, ruaddSt, mkSt, Abs.look, renF, Blk.ren, u7]
   ·simp [liveR, ruaddSt, mkSt]
   ·simp
  ·have l1 : zO I (zT (zY (zh X)) (zY (zh Y))) = false := by rw [em, hS.lt]; exact decide_eq_false (by omega)
   have hrT : r = ur T := by rw [hr, show i = T.length by omega, List.take_length]
   rw [<- hrT] at ct
   have hrl : r.length = i := by rw [hrT, qaf]; omega
   have f1 : zn 0 i r = true := by rw [hS.fit]; exact decide_eq_true (by omega)
   have f2 : zo r 0 i = r := by rw [hS.part, List.drop_zero, List.take_of_length_le (by omega)]
   clear cat1 cat2 cadd hTg
   subst hs1
   cbv
   refine bF l1 (nd f1 ?_)
   rw [f2]
   refine ⟨_, hS.call (ct), ?_⟩
   cbv
   exact hF _ (ResLe.refl _)
theorem rpb_add {f g : Rat -> Rat} {n m s t : Nat} {P B : List Rat} (hP : PB f n s P) (hB : PB g m t B) (hn : n <= 1000) (hm : m <= 1000) (hs : s + t <= 2000000000) :
  ∃ R, PB (fun x => f x + g x) (max n m) (s + t + 1) R /\ ACall Tryz.prog 26 [.val (tl (ur P)), .val (tl (ur B))] ⟨[.val (tl (ur R))], [none, none]⟩ := by
 have hPl := hP.len
 have hBl := hB.len
 have hg : ∀ j, ((List.range (max P.length B.length)).map fun i => P.getD i 0 + B.getD i 0).getD j 0 = P.getD j 0 + B.getD j 0 := fun j => by
  rw [List.getD_eq_getElem?_getD, List.getElem?_map]
  by_cases h : j < max P.length B.length
  ·rw [List.getElem?_range h]; rfl
  ·rw [List.getElem?_eq_none (by simp; omega), List.getD_eq_getElem?_getD (l := P), List.getElem?_eq_none (by omega), List.getD_eq_getElem?_getD (l := B), List.getElem?_eq_none (by omega)]
   simp [Rat.add_zero]
 refine ⟨_, PB.of_trim (fun x => ?_) (by rw [List.length_map, List.length_range]; omega) ((hP.cf.add hB.cf).congr fun j => (hg j).symm), ruadd_call P B (s / 32 + 1) (t / 32 + 1) (by omega) (by omega) (fun j => cf_qs hP.cf j) (fun j => cf_qs hB.cf j) (by omega)⟩
 rw [ev_ext (Q := pshift P 1 B 0) (fun j => by rw [hg, pshift_get, if_pos (Nat.zero_le _), Nat.sub_zero, Rat.one_mul]) x, ev_shift, hP.ev, hB.ev]; grind
open Go Go.Abs Go.Abs.M Go.Proofs
def ruscSt (s t : Bool) (R P : Abs.Rows) (X : Abs.Rows) (len : Nat) (r : Abs.Rows) (i : Int) : St := mkSt 25 [.agg [.t (.v (.bool s)), .t (.lst false R), .t (.v (.bool t)), .t (.lst false P)], .c (.t (.lst false X)), .c (.ptr 2 0 0), .junk, .junk, .c (.sl 3 0 len false), vi .i64 i] [none, none, some (.var [.t (.v (.bool s)), .t (.lst false R), .t (.v (.bool t)), .t (.lst false P)]), some (.rows 4 r true false)]
theorem ruscale_call (c : Rat) (P : List Rat) (a b : Nat) (hP : P.length <= 1000) (h0 : Qs c a) (h1 : ∀ j, Qs (P.getD j 0) b) (hab : a + b <= 68719476736) :
  ACall Tryz.prog 17 [.val (.agg (qc c).row), .val (tl (ur P))] ⟨[.val (tl (ur (ptrim (lsc c P))))], [none, none]⟩ := by
 obtain ⟨n, hn⟩ : ∃ n, n = P.length := ⟨_, rfl⟩
 obtain ⟨T, hT⟩ : ∃ L : List Rat, L = lsc c P := ⟨_, rfl⟩
 have hTl : T.length = n := by rw [hT, lsc_len, hn]
 have hTg : ∀ i, i < n -> T[i]? = some (c * P.getD i 0) /\ P[i]? = some (P.getD i 0) := fun i hi => by
  have h : P[i]? = some (P.getD i 0) := by rw [List.getD_eq_getElem?_getD, List.getElem?_eq_getElem (by omega)]; rfl
  exact ⟨by rw [hT, lsc, List.getElem?_map, h]; rfl, h⟩
 rw [<- hT]
 have ct := utrim_call T (by omega)
 have cmul := fun i => rqmul_row h0 (h1 i) hab
 have lX := qaf P
 obtain ⟨X, hX⟩ : ∃ X, X = ur P := ⟨_, rfl⟩
 obtain ⟨Z, hZ⟩ : ∃ X, X = ur (ptrim T) := ⟨_, rfl⟩
 obtain ⟨s3, t3, r3, p3, hrow3, _⟩ := qrow c
 rw [<- hX] at lX
 rw [<- hX, <- hZ, hrow3]
 rw [<- hZ] at ct
 clear hT
 refine callZ ccOk mixed [.val] Tryz.func17 rfl rfl (by kernel_rfl) fun zA zB zC zD zE zF zG zH zI zJ zK zL zM zN zO zP zQ zR zS zT zU zV zX zY zZ za zb zc zd ze zg zh zi zj zk zl zm zn zo zq zr zt zu zw zx zy zz zW zth A L F hS hF => ?_
 have hlx : zh X = n := by rw [hS.len, lX, hn]
 obtain ⟨N, hN, hN2⟩ : ∃ N : Int, N = n /\ zY (zh X) = N := ⟨_, rfl, by rw [hlx, hS.ofN]⟩
 cbv
 have hN : N = (n : Int) := hN
 refine loopZR ccOk mixed hS (fun (m : Nat) s' => ∃ (i : Nat) (I : Int) (r : Abs.Rows), I = i /\ i + m = n /\ r = ur (T.take i) /\ s' = ruscSt s3 t3 r3 p3 X i r I) (n := n) (s0 := ruscSt s3 t3 r3 p3 X 0 [] 0) (qat ?_ ?_) rfl (by show 2 <= 4; omega) ?_ ?_
 ·simp [leT, ruscSt, mkSt, vi, vb]
 ·simp [leH, ruscSt, mkSt]
 ·exact ⟨0, 0, [], rfl, by omega, rfl, rfl⟩
 ·rintro m s1 ⟨i, I, r, hI, him, hr, hs1⟩
  by_cases hi : i < n
  ·have l1 : zO I (zY (zh X)) = true := by rw [hN2, hS.lt]; exact decide_eq_true (by omega)
   obtain ⟨e1, e2⟩ := hTg i hi
   obtain ⟨_, c3⟩ := cmul i
   obtain ⟨s4, t4, r4, p4, hrow4, _⟩ := qrow (P.getD i 0)
   obtain ⟨s5, t5, r5, p5, hrow5, _⟩ := qrow (c * P.getD i 0)
   obtain ⟨row, hrw⟩ : ∃ row, row = [Tree.v (.bool s5), .lst false r5, .v (.bool t5), .lst false p5] := ⟨_, rfl⟩
   obtain ⟨r2, hr2⟩ : ∃ r2, r2 = ur (T.take (i + 1)) := ⟨_, rfl⟩
   have hap : r ++ [row] = r2 := by rw [hr2, List.take_add_one, e1, Option.toList_some, ur_app, hrow5, hr, hrw]
   have hrl : r.length = i := by rw [hr, qaf, List.length_take]; omega
   have hr4 : row.length = 4 := by rw [hrw]; rfl
   have u0 : zo [row] 0 1 = [row] := by rw [hS.part]; rfl
   have u1 : zn 0 1 [row] = true := by rw [hS.fit]; rfl
   have u2 : zQ (za (zh [row]) 0) = true := by rw [hS.len, hS.neq, hS.not]; rfl
   have u3 : zu 4 [row] = true := by rw [hS.wide]; simp [hr4]
   have u4 : ze i (zh [row]) 64 = true := by rw [hS.len, hS.room]; exact decide_eq_true (by unfold capBytes; simp only [List.length_cons, List.length_nil]; omega)
   have u5 : za (zb 0 i) (zh r) = true := by rw [hS.nadd, hS.neq, hS.len, hrl, Nat.zero_add]; exact decide_eq_true rfl
   have u6 : zb i (zh [row]) = i + 1 := by rw [hS.len, hS.nadd]; rfl
   have u7 : zq r 0 [row] = r2 := by rw [hS.ext, List.drop_zero]; exact hap
   have hXi := qbx e2
   rw [<- hX, hrow4] at hXi
   rw [hrow3, hrow4, hrow5] at c3
   have g1 : zP 0 I = true := by rw [hS.le]; exact decide_eq_true (by omega)
   have hz : zi X (zV I) = some [.v (.bool s4), .lst false r4, .v (.bool t4), .lst false p4] := by rw [hS.nat, hI, Int.toNat_natCast, hS.nth, hXi]
   obtain ⟨I', hI', i1⟩ : ∃ I' : Int, I' = ((i + 1 : Nat) : Int) /\ zA .i64 (zB I 1) = I' := ⟨I + 1, by omega, by rw [hS.add, hS.wrap, wrap_i64 (by omega) (by omega)]⟩
   have hmm : m - 1 < m := by omega
   have hnx : ∃ (i2 : Nat) (I2 : Int) (r' : Abs.Rows), I2 = i2 /\ i2 + (m - 1) = n /\ r' = ur (T.take i2) /\ ruscSt s3 t3 r3 p3 X (i + 1) r2 I' = ruscSt s3 t3 r3 p3 X i2 r' I2 := ⟨i + 1, I', r2, hI', by omega, hr2, rfl⟩
   clear cmul hTg hr hr2 hap e1 e2 hXi
   subst hs1
   cbv
   refine bT l1 ?_
   rw [hz]
   cbv
   refine nd (g1) ?_
   refine ⟨_, hS.call (c3), ?_⟩
   cbv
   rw [<- hrw, u0]
   refine nd (u1) ?_
   refine nd (u2) ?_
   refine nd (u3) ?_
   refine nd (u4) ?_
   refine nd (u5) ?_
   refine againR [(3, 7)] (s' := ruscSt s3 t3 r3 p3 X (i + 1) r2 I') (k := m - 1) ?_ ?_ ?_ ?_ rfl (by show 2 <= 4; omega) hmm hnx
   ·simp [leTR, ruscSt, mkSt, vi, AV.ren, AV.noTup, Cell.ren, renF, i1, u6]
   ·simp [leHR, ruscSt, mkSt, Abs.look, renF, Blk.ren, u7, Cell.ren]
   ·simp [liveR, ruscSt, mkSt, renF]
   ·simp
  ·have l1 : zO I (zY (zh X)) = false := by rw [hN2, hS.lt]; exact decide_eq_false (by omega)
   have hrT : r = ur T := by rw [hr, show i = T.length by omega, List.take_length]
   rw [<- hrT] at ct
   have hrl : r.length = i := by rw [hrT, qaf]; omega
   have f1 : zn 0 i r = true := by rw [hS.fit]; exact decide_eq_true (by omega)
   have f2 : zo r 0 i = r := by rw [hS.part, List.drop_zero, List.take_of_length_le (by omega)]
   clear cmul hTg
   subst hs1
   cbv
   refine bF l1 (nd f1 ?_)
   rw [f2]
   refine ⟨_, hS.call (ct), ?_⟩
   cbv
   exact hF _ (ResLe.refl _)
theorem rpb_scale {g : Rat -> Rat} {m s t : Nat} {c : Rat} {B : List Rat} (hc : CF s (fun _ => c)) (hB : PB g m t B) (hm : m <= 1000) (hs : s + t <= 2000000000) :
  ∃ R, PB (fun x => c * g x) m (t + s) R /\ ACall Tryz.prog 17 [.val (.agg (qc c).row), .val (tl (ur B))] ⟨[.val (tl (ur R))], [none, none]⟩ := by
 refine ⟨_, PB.of_trim (fun x => by rw [qa4, hB.ev]) (by rw [lsc_len]; exact hB.len) ((CF.scale hc hB.cf).congr fun j => (lsc_get c B j).symm), ruscale_call c B (s / 32 + 1) (t / 32 + 1) (by have := hB.len; omega) (cf_qs hc 0) (fun j => cf_qs hB.cf j) (by omega)⟩
theorem rushift_call (P : List Rat) (hP : P.length <= 900) : ACall Tryz.prog 27 [.val (tl (ur P))] ⟨[.val (tl (ur (ptrim (0 :: P))))], [none]⟩ := by
 have ct := utrim_call (0 :: P) (by simp; omega)
 have cw := rqwhole_row 0 (by omega) (by omega)
 rw [show ((0 : Int) : Rat) = 0 from rfl] at cw
 have lX := qaf P
 have wX := ur_wide P
 have hc : ur (0 :: P) = (qc 0).row :: ur P := by simp [ur, qrows]
 rw [hc] at ct
 obtain ⟨s3, t3, r3, p3, hrow3, _⟩ := qrow 0
 rw [hrow3] at cw ct
 generalize ur (ptrim (0 :: P)) = Z at *
 generalize P.length = n at *
 generalize ur P = X at *
 obtain ⟨row, hrw⟩ : ∃ row, row = [Tree.v (.bool s3), .lst false r3, .v (.bool t3), .lst false p3] := ⟨_, rfl⟩
 by_cases hn : n = 0
 ·have hX0 : X = [] := List.length_eq_zero_iff.1 (by omega)
  subst hX0
  refine callZ ccOk mixed [.val] Tryz.func27 rfl rfl (by kernel_rfl) fun zA zB zC zD zE zF zG zH zI zJ zK zL zM zN zO zP zQ zR zS zT zU zV zX zY zZ za zb zc zd ze zg zh zi zj zk zl zm zn zo zq zr zt zu zw zx zy zz zW zth A L F hS hF => ?_
  have u0 : zo [row] 0 1 = [row] := by rw [hS.part]; rfl
  have u1 : zn 0 1 [row] = true := by rw [hS.fit]; rfl
  have e1 : za (zh []) 0 = true := by rw [hS.neq, hS.len]; rfl
  cbv
  refine ⟨_, hS.call (cw), ?_⟩
  cbv
  refine bT (e1) ?_
  rw [<- hrw] at ct ⊢
  refine nd (u1) ?_
  rw [u0]
  refine ⟨_, hS.call (ct), ?_⟩
  cbv
  exact hF _ (ResLe.refl _)
 ·refine callZ ccOk mixed [.val] Tryz.func27 rfl rfl (by kernel_rfl) fun zA zB zC zD zE zF zG zH zI zJ zK zL zM zN zO zP zQ zR zS zT zU zV zX zY zZ za zb zc zd ze zg zh zi zj zk zl zm zn zo zq zr zt zu zw zx zy zz zW zth A L F hS hF => ?_
  have e1 : za (zh X) 0 = false := by rw [hS.neq, hS.len, lX]; exact decide_eq_false hn
  have u2 : zQ (za (zh X) 0) = true := by rw [e1, hS.not]; rfl
  have u3 : zu 4 X = true := by rw [hS.wide]; exact wX
  have u4 : ze 1 (zh X) 64 = true := by rw [hS.len, lX, hS.room]; exact decide_eq_true (by unfold capBytes; omega)
  have u5 : za (zb 0 1) (zh [row]) = true := by rw [hS.nadd, hS.neq, hS.len]; rfl
  have u6 : zb 1 (zh X) = n + 1 := by rw [hS.len, hS.nadd, lX]; omega
  have u7 : zq [row] 0 X = row :: X := by rw [hS.ext]; rfl
  have u8 : zn 0 (n + 1) (row :: X) = true := by rw [hS.fit, List.length_cons, lX]; exact decide_eq_true (by omega)
  have u9 : zo (row :: X) 0 (n + 1) = row :: X := by rw [hS.part, List.drop_zero, List.take_of_length_le (by rw [List.length_cons, lX]; omega)]
  cbv
  refine ⟨_, hS.call (cw), ?_⟩
  cbv
  refine bF (e1) ?_
  refine nd (u2) ?_
  refine nd (u3) ?_
  refine nd (u4) ?_
  rw [<- hrw] at ct ⊢
  refine nd (u5) ?_
  rw [u7, u6]
  refine nd (u8) ?_
  rw [u9]
  refine ⟨_, hS.call (ct), ?_⟩
  cbv
  exact hF _ (ResLe.refl _)
theorem rpb_shift {f : Rat -> Rat} {n s : Nat} {P : List Rat} (hP : PB f n s P) (hn : n <= 900) :
  ∃ R, PB (fun x => x * f x) (n + 1) s R /\ ACall Tryz.prog 27 [.val (tl (ur P))] ⟨[.val (tl (ur R))], [none]⟩ := by
 have hl := hP.len
 refine ⟨_, PB.of_trim (P := 0 :: P) (fun x => by simp only [Abs.ev]; rw [hP.ev]; grind) (by simp; omega) (((hP.cf.comp (· - 1)).pick fun j => decide (j ≠ 0)).congr fun j => ?_), rushift_call P (by omega)⟩
 cases j with
 | zero => simp
 | succ j => simp
def pmT (P B : List Rat) (k : Nat) : List Rat := ptrim (pmul (P.drop (P.length - k)) B)
theorem pmT_pb {f g : Rat -> Rat} {n m s t : Nat} (l : Nat) {P B : List Rat} (hP : PB f n s P) (hB : PB g m t B) (hl : n <= 2 ^ l) (k : Nat) (hk : k <= P.length) : PB (fun x => Abs.ev (P.drop (P.length - k)) x * g x) (k + m - 1) (s + t + l) (pmT P B k) := by
 have hPl := hP.len
 have hBl := hB.len
 refine PB.of_trim (fun x => by rw [ev_pmul, hB.ev]) (by unfold pmul; rw [qa7, List.length_replicate, List.length_drop]; omega) ?_
 have h1 : CF s (fun j => (P.drop (P.length - k)).getD j 0) := (hP.cf.comp fun j => P.length - k + j).congr fun j => by
  rw [List.getD_eq_getElem?_getD, List.getD_eq_getElem?_getD, List.getElem?_drop]
 exact (h1.prod hB.cf (i := (P.drop (P.length - k)).length) (l := l) (by rw [List.length_drop]; omega)).congr fun j => by rw [pmul_get, csum_cnv]
def rumS0 (X Y : Abs.Rows) (i : Int) : St := mkSt 25 [.c (.t (.lst false X)), .c (.t (.lst false Y)), .junk, .junk, .junk, .c (.sl 2 0 0 false), vi .i64 i] [none, none, some (.rows 4 [] true false)]
def rumS1 (X Y R : Abs.Rows) (i : Int) : St := mkSt 25 [.c (.t (.lst false X)), .c (.t (.lst false Y)), .junk, .junk, .junk, .c (.t (.lst false R)), vi .i64 i] [none, none]
theorem drop_cons {P : List Rat} {k i : Nat} (h : i + 1 + k = P.length) : P.drop (P.length - (k + 1)) = P.getD i 0 :: P.drop (P.length - k) := by
 rw [List.drop_eq_getElem_cons (by omega), show P.length - (k + 1) + 1 = P.length - k by omega, List.getD_eq_getElem?_getD, List.getElem?_eq_getElem (by omega)]
 congr 1
 simp only [Option.getD_some]
 congr 1
 omega
theorem rpb_mul {f g : Rat -> Rat} {n m s t : Nat} (l : Nat) {P B : List Rat} (hP : PB f n s P) (hB : PB g m t B) (hl : n <= 2 ^ l) (hn : n + m <= 800) (hs : s + t + l + s + t <= 2000000000) :
  ∃ R, PB (fun x => f x * g x) (n + m - 1) (s + t + l) R /\ ACall Tryz.prog 6 [.val (tl (ur P)), .val (tl (ur B))] ⟨[.val (tl (ur R))], [none, none]⟩ := by
 have hPl := hP.len
 have hBl := hB.len
 have hT := (pmT_pb l hP hB hl P.length (Nat.le_refl _)).mono (m := n + m - 1) (by omega) (Nat.le_refl _)
 rw [Nat.sub_self, List.drop_zero] at hT
 refine ⟨pmT P B P.length, hT.congr fun x => by rw [hP.ev], ?_⟩
 have hstep : ∀ k i, i + 1 + k = P.length -> ∃ S M, ACall Tryz.prog 27 [.val (tl (ur (pmT P B k)))] ⟨[.val (tl (ur S))], [none]⟩ /\ ACall Tryz.prog 17 [.val (.agg (qc (P.getD i 0)).row), .val (tl (ur B))] ⟨[.val (tl (ur M))], [none, none]⟩ /\
   ACall Tryz.prog 26 [.val (tl (ur S)), .val (tl (ur M))] ⟨[.val (tl (ur (pmT P B (k + 1))))], [none, none]⟩ := fun k i hki => by
  obtain ⟨S, hS, cS⟩ := rpb_shift (pmT_pb l hP hB hl k (by omega)) (by omega)
  obtain ⟨M, hM, cM⟩ := rpb_scale (hP.cf.comp fun _ => i) hB (by omega) (by omega)
  obtain ⟨R, hR, cR⟩ := rpb_add hS hM (by omega) (by omega) (by omega)
  have e : R = pmT P B (k + 1) := hR.inj (pmT_pb l hP hB hl (k + 1) (by omega)) fun x => by
   rw [drop_cons hki]; simp only [Abs.ev]; grind
  exact ⟨S, M, cS, cM, e ▸ cR⟩
 have h0 : pmT P B 0 = [] := (pmT_pb l hP hB hl 0 (by omega)).inj (PB.nil 0) fun x => by rw [Nat.sub_zero, List.drop_length]; simp only [Abs.ev]; grind
 obtain ⟨d, hd⟩ : ∃ d, d = P.length := ⟨_, rfl⟩
 obtain ⟨X, hX⟩ : ∃ Y, Y = ur P := ⟨_, rfl⟩
 obtain ⟨Y, hY⟩ : ∃ Y, Y = ur B := ⟨_, rfl⟩
 obtain ⟨T, hTT⟩ : ∃ Y, Y = ur (pmT P B P.length) := ⟨_, rfl⟩
 have hXl : X.length = d := by rw [hX, qaf, hd]
 rw [<- hX, <- hY, <- hTT]
 clear hT
 refine callZ ccOk mixed [.val] Tryz.func6 rfl rfl (by kernel_rfl) fun zA zB zC zD zE zF zG zH zI zJ zK zL zM zN zO zP zQ zR zS zT zU zV zX zY zZ za zb zc zd ze zg zh zi zj zk zl zm zn zo zq zr zt zu zw zx zy zz zW zth A L F hS hF => ?_
 have lx : zh X = d := by rw [hS.len, hXl]
 obtain ⟨N, hN, hN2⟩ : ∃ N : Int, N + 1 = (d : Int) /\ zA .i64 (zC (zY (zh X)) 1) = N := ⟨(d : Int) - 1, by omega, by rw [hS.ofN, lx, hS.sub, hS.wrap, wrap_i64 (by omega) (by omega)]⟩
 have f0 : zn 0 0 [] = true := by rw [hS.fit]; rfl
 have f1 : zo [] 0 0 = [] := by rw [hS.part]; rfl
 cbv
 have hN : N + 1 = (d : Int) := hN
 refine loopZ ccOk mixed hS (fun (i : Nat) s' => ∃ (k : Nat) (I : Int), I + 1 = i /\ i + k = d /\ ((k = 0 /\ s' = rumS0 X Y I) ∨ ∃ R, R = ur (pmT P B k) /\ s' = rumS1 X Y R I)) (n := d) (s0 := rumS0 X Y N) (qat ?_ ?_) rfl (by show 2 <= 3; omega) ?_ ?_
 ·simp [leT, rumS0, mkSt, vi, hN2]
 ·simp [leH, rumS0, mkSt]
 ·exact ⟨0, N, hN, by omega, .inl ⟨rfl, rfl⟩⟩
 ·rintro i s1 ⟨k, I, hI, hik, hcase⟩
  by_cases hi : i = 0
  ·have l1 : zP 0 I = false := by rw [hS.le]; exact decide_eq_false (by omega)
   rcases hcase with ⟨hk, hs1⟩ | ⟨R, hR, hs1⟩
   ·have hT0 : T = [] := by rw [hTT, <- hd, show d = 0 by omega, h0]; rfl
    subst hT0
    subst hs1
    cbv
    refine bF l1 (nd f0 ?_)
    rw [f1]
    exact hF _ (ResLe.refl _)
   ·have hRT : R = T := by rw [hR, hTT, <- hd, show k = d by omega]
    subst hRT
    subst hs1
    cbv
    refine bF l1 ?_
    exact hF _ (ResLe.refl _)
  ·have l1 : zP 0 I = true := by rw [hS.le]; exact decide_eq_true (by omega)
   obtain ⟨i', rfl⟩ : ∃ i', i = i' + 1 := ⟨i - 1, by omega⟩
   have hIi : I = (i' : Int) := by omega
   obtain ⟨S, M, cS, cM, cA⟩ := hstep k i' (by omega)
   obtain ⟨c, hc⟩ : ∃ c, c = P.getD i' 0 := ⟨_, rfl⟩
   have hPi : P[i']? = some c := by rw [hc, List.getD_eq_getElem?_getD, List.getElem?_eq_getElem (by omega)]; rfl
   have hXi : X[i']? = some (qc c).row := by rw [hX]; exact qbx hPi
   rw [<- hc] at cM
   obtain ⟨s2, t2, r2, p2, hrow2, _⟩ := qrow c
   rw [hrow2] at hXi cM
   rw [<- hY] at cM
   have j1 : zV I = i' := by rw [hS.nat]; omega
   have n0 : zP 0 I = true := l1
   have j2 : zi X i' = some [.v (.bool s2), .lst false r2, .v (.bool t2), .lst false p2] := by rw [hS.nth]; exact hXi
   obtain ⟨I', hI', i1⟩ : ∃ I' : Int, I' + 1 = (i' : Int) /\ zA .i64 (zC I 1) = I' := ⟨I - 1, by omega, by rw [hS.sub, hS.wrap, wrap_i64 (by omega) (by omega)]⟩
   obtain ⟨R', hR'⟩ : ∃ R', R' = ur (pmT P B (k + 1)) := ⟨_, rfl⟩
   rw [<- hR'] at cA
   have hmm : i' < i' + 1 := by omega
   have hnx : ∃ (k2 : Nat) (I2 : Int), I2 + 1 = (i' : Int) /\ i' + k2 = d /\ ((k2 = 0 /\ rumS1 X Y R' I' = rumS0 X Y I2) ∨ ∃ R, R = ur (pmT P B k2) /\ rumS1 X Y R' I' = rumS1 X Y R I2) := ⟨k + 1, I', hI', by omega, .inr ⟨R', hR', rfl⟩⟩
   generalize ur M = UM at *
   generalize ur S = US at *
   rcases hcase with ⟨hk, hs1⟩ | ⟨R, hR, hs1⟩
   ·rw [hk, h0, show ur ([] : List Rat) = [] from rfl] at cS
    subst hs1
    cbv
    refine bT l1 (nd f0 ?_)
    rw [f1]
    refine ⟨_, hS.call (cS), ?_⟩
    cbv
    rw [j1, j2]
    cbv
    refine nd (n0) ?_
    refine ⟨_, hS.call (cM), ?_⟩
    cbv
    refine ⟨_, hS.call (cA), ?_⟩
    cbv
    exact again (s' := rumS1 X Y R' I') (m := i') (by simp [leT, rumS1, mkSt, vi, i1]) (by simp [leH, rumS1, mkSt]) rfl (by show 2 <= 2; omega) hmm hnx
   ·rw [<- hR] at cS
    subst hs1
    cbv
    refine bT l1 ?_
    refine ⟨_, hS.call (cS), ?_⟩
    cbv
    rw [j1, j2]
    cbv
    refine nd (n0) ?_
    refine ⟨_, hS.call (cM), ?_⟩
    cbv
    refine ⟨_, hS.call (cA), ?_⟩
    cbv
    exact again (s' := rumS1 X Y R' I') (m := i') (by simp [leT, rumS1, mkSt, vi, i1]) (by simp [leH, rumS1, mkSt]) rfl (by show 2 <= 2; omega) hmm hnx
open Go Go.Abs Go.Abs.M Go.Proofs
theorem len0 {P : List Rat} {f : Rat -> Rat} {n s : Nat} (h : PB f n s P) (hn : n = 0) : P = [] := List.length_eq_zero_iff.1 (by have := h.len; omega)
theorem urecip_nil : ACall Tryz.prog 30 [.val (tl [])] ⟨[.val (.agg (qc ((1 : Int) : Rat)).row)], [none]⟩ := by
 have cw := pwhole_row 1 (by omega) (by omega)
 obtain ⟨s, t, r, p, hrow, _⟩ := qrow ((1 : Int) : Rat)
 rw [hrow] at cw ⊢
 refine callZ ccOk mixed [.val] Tryz.func30 rfl rfl (by kernel_rfl) fun zA zB zC zD zE zF zG zH zI zJ zK zL zM zN zO zP zQ zR zS zT zU zV zX zY zZ za zb zc zd ze zg zh zi zj zk zl zm zn zo zq zr zt zu zw zx zy zz zW zth A L F hS hF => ?_
 have e1 : zM (zY (zh [])) 0 = true := by rw [hS.eq, hS.ofN, hS.len]; rfl
 cbv
 refine bT (e1) ?_
 refine ⟨_, hS.call (cw), ?_⟩
 cbv
 exact hF _ (ResLe.refl _)
theorem uquo_nil : ACall Tryz.prog 28 [.val (tl []), .val (tl [])] ⟨[.val (tl [])], [none, none]⟩ := by
 have c := udivmod_zero []
 rw [show ur ([] : List Rat) = [] from rfl] at c
 refine callZ ccOk mixed [.val] Tryz.func28 rfl rfl (by kernel_rfl) fun zA zB zC zD zE zF zG zH zI zJ zK zL zM zN zO zP zQ zR zS zT zU zV zX zY zZ za zb zc zd ze zg zh zi zj zk zl zm zn zo zq zr zt zu zw zx zy zz zW zth A L F hS hF => ?_
 cbv
 refine ⟨_, hS.call (c), ?_⟩
 cbv
 exact hF _ (ResLe.refl _)
theorem usqf_nil : ACall Tryz.prog 7 [.val (tl [])] ⟨[.val (tl [])], [none]⟩ := by
 obtain ⟨D, hD, c1⟩ := pb_derive (PB.nil 0) (by omega) (by omega)
 have eD := len0 hD rfl
 subst eD
 obtain ⟨G, ig, _, _, c2⟩ := pb_gcd 2 (PB.nil 0) (PB.nil 0) (by decide) (by omega) (by omega)
 have eG : G = [] := (ig.nil rfl rfl).2 ⟨rfl, rfl⟩
 subst eG
 have hone : CF 0 (fun _ => ((1 : Int) : Rat)) := CF.whole (by decide) (by decide)
 obtain ⟨S, hS1, c6⟩ := pb_scale hone (PB.nil 0) (by omega) (by omega)
 have eS := len0 hS1 rfl
 subst eS
 rw [show ur ([] : List Rat) = [] from rfl] at c1 c2 c6
 have c3 := umonic_nil
 have c4 := uquo_nil
 have c5 := urecip_nil
 obtain ⟨s3, t3, r3, p3, hrow3, _⟩ := qrow ((1 : Int) : Rat)
 rw [hrow3] at c5 c6
 refine callZ ccOk mixed [.val] Tryz.func7 rfl rfl (by kernel_rfl) fun zA zB zC zD zE zF zG zH zI zJ zK zL zM zN zO zP zQ zR zS zT zU zV zX zY zZ za zb zc zd ze zg zh zi zj zk zl zm zn zo zq zr zt zu zw zx zy zz zW zth A L F hS hF => ?_
 have l1 : zO 1 (zY (zh [])) = false := by rw [hS.ofN, hS.len, hS.lt]; rfl
 cbv
 refine ⟨_, hS.call (c1), ?_⟩
 cbv
 refine ⟨_, hS.call (c2), ?_⟩
 cbv
 refine ⟨_, hS.call (c3), ?_⟩
 cbv
 refine ⟨_, hS.call (c4), ?_⟩
 cbv
 refine ⟨_, hS.call (c5), ?_⟩
 cbv
 refine ⟨_, hS.call (c6), ?_⟩
 cbv
 refine ⟨_, hS.call (c4), ?_⟩
 cbv
 refine loopZR ccOk mixed hS (fun (m : Nat) s' => s' = sfS0 [] [] [] 1) (n := 0) (s0 := sfS0 [] [] [] 1) (qat ?_ ?_) rfl (Nat.succ_le_succ (Nat.zero_le _)) ?_ ?_
 ·simp [leT, sfS0, mkSt, vi, vb]
 ·simp [leH, sfS0, mkSt]
 ·rfl
 ·rintro m s1 hs1
  subst hs1
  cbv
  refine bF (l1) ?_
  exact fin1w hF (TLe.drop _ _)
theorem sqp_mem (L : FL) : ∀ n, ∀ p ∈ sqp L n, p.1 = Pn L p.2 /\ 1 <= p.2 /\ p.2 <= n /\ 1 < p.1.length
 | 0, p, h => by simp [sqp] at h
 | n + 1, p, h => by
  unfold sqp at h
  split at h
  ·rename_i hl
   rcases List.mem_append.1 h with h | h
   ·obtain ⟨h1, h2, h3, h4⟩ := sqp_mem L n p h
    exact ⟨h1, h2, by omega, h4⟩
   ·rw [List.mem_singleton] at h
    rw [h]
    exact ⟨rfl, by simp, by simp, hl⟩
  ·obtain ⟨h1, h2, h3, h4⟩ := sqp_mem L n p h
   exact ⟨h1, h2, by omega, h4⟩
theorem sqp_inc (L : FL) : ∀ n, (sqp L n).Pairwise fun p q => p.2 < q.2
 | 0 => List.Pairwise.nil
 | n + 1 => by
  unfold sqp
  split
  ·refine List.pairwise_append.2 ⟨sqp_inc L n, List.pairwise_singleton .., fun a ha b hb => ?_⟩
   rw [List.mem_singleton] at hb
   rw [hb]
   have := (sqp_mem L n a ha).2.2.1
   simp only; omega
  ·exact sqp_inc L n
abbrev PL2 := List (List Rat × Nat)
def dsum : PL2 -> Nat
 | [] => 0
 | p :: l => p.2 * (p.1.length - 1) + dsum l
def lev : PL2 -> Rat -> Rat
 | [], _ => 1
 | p :: l, x => Abs.ev p.1 x ^ p.2 * lev l x
theorem dsum_app : ∀ (l m : PL2), dsum (l ++ m) = dsum l + dsum m
 | [], m => by simp [dsum]
 | p :: l, m => by rw [List.cons_append, dsum, dsum, dsum_app l m]; omega
theorem lev_app (x : Rat) : ∀ (l m : PL2), lev (l ++ m) x = lev l x * lev m x
 | [], m => by simp only [List.nil_append, lev, Rat.one_mul]
 | p :: l, m => by rw [List.cons_append, lev, lev, lev_app x l m, Rat.mul_assoc]
theorem dgs_upto (n : Nat) : ∀ L : FL, dgs (fun e => if e <= n + 1 then e else 0) L = dgs (fun e => if e <= n then e else 0) L + (n + 1) * dgs (fun e => if decide (e = n + 1) = true then 1 else 0) L
 | [] => rfl
 | (m, e) :: L => by
  simp only [dgs]
  rw [dgs_upto n L]
  simp only [decide_eq_true_eq]
  by_cases h1 : e <= n
  ·rw [if_pos h1, if_pos (show e <= n + 1 by omega), if_neg (show ¬ e = n + 1 by omega)]
   simp only [Nat.zero_mul, Nat.zero_add]; omega
  ·by_cases h2 : e = n + 1
   ·rw [if_neg h1, if_pos (show e <= n + 1 by omega), if_pos h2, h2, Nat.mul_add, Nat.one_mul]; omega
   ·rw [if_neg h1, if_neg (show ¬ e <= n + 1 by omega), if_neg h2]
    simp only [Nat.zero_mul, Nat.zero_add]
theorem pn_len {L : FL} (hM : ∀ p ∈ L, MlP p.1) (n : Nat) : (Pn L n).length = dgs (fun e => if decide (e = n) = true then 1 else 0) L + 1 := prP_length _ _ hM
theorem sqp_succ (L : FL) (n : Nat) : sqp L (n + 1) = if 1 < (Pn L (n + 1)).length then sqp L n ++ [(Pn L (n + 1), n + 1)] else sqp L n := rfl
theorem sqp_dsum {L : FL} (hM : ∀ p ∈ L, MlP p.1) : ∀ n, dsum (sqp L n) = dgs (fun e => if e <= n then e else 0) L
 | 0 => by
  have : ∀ L : FL, dgs (fun e => if e <= 0 then e else 0) L = 0 := fun L => by
   induction L with
   | nil => rfl
   | cons p L ih =>
    obtain ⟨m, e⟩ := p
    simp only [dgs, ih]
    by_cases h : e <= 0
    ·rw [if_pos h, show e = 0 by omega]; simp
    ·rw [if_neg h]; simp
  rw [this]; rfl
 | n + 1 => by
  have ih := sqp_dsum hM n
  have hl := pn_len hM (n + 1)
  rw [dgs_upto, <- ih, sqp_succ]
  split
  ·rw [dsum_app]
   simp only [dsum]
   rw [hl, Nat.add_sub_cancel]; omega
  ·rw [show dgs (fun e => if decide (e = n + 1) = true then 1 else 0) L = 0 by omega]; omega
theorem ev_upto (n : Nat) (x : Rat) : ∀ L : FL, Abs.ev (pwP (fun e => if e <= n + 1 then e else 0) L) x = Abs.ev (pwP (fun e => if e <= n then e else 0) L) x * Abs.ev (Pn L (n + 1)) x ^ (n + 1)
 | [] => by
  have : ∀ n : Nat, (1 : Rat) ^ n = 1 := fun n => by induction n with | zero => rfl | succ n ih => rw [Rat.pow_succ, ih, Rat.mul_one]
  show Abs.ev [1] x = Abs.ev [1] x * Abs.ev [1] x ^ (n + 1)
  have e : Abs.ev [1] x = 1 := by simp only [Abs.ev]; grind
  rw [e, this, Rat.mul_one]
 | (m, e) :: L => by
  have ih := ev_upto n x L
  unfold Pn at ih ⊢
  rw [qbu]
  simp only [pwP, qal, ev_lpow, decide_eq_true_eq]
  rw [ih]
  by_cases h1 : e <= n
  ·rw [if_pos h1, if_pos (show e <= n + 1 by omega), if_neg (show ¬ e = n + 1 by omega), Rat.mul_assoc]
  ·by_cases h2 : e = n + 1
   ·rw [if_neg h1, if_pos (show e <= n + 1 by omega), if_pos h2, h2, qal, rat_mul_pow]; grind
   ·rw [if_neg h1, if_neg (show ¬ e <= n + 1 by omega), if_neg h2]; grind
theorem sqp_lev {L : FL} (hM : ∀ p ∈ L, MlP p.1) (x : Rat) : ∀ n, lev (sqp L n) x = Abs.ev (pwP (fun e => if e <= n then e else 0) L) x
 | 0 => by
  have : ∀ L : FL, Abs.ev (pwP (fun e => if e <= 0 then e else 0) L) x = 1 := fun L => by
   induction L with
   | nil => simp only [pwP, Abs.ev]; grind
   | cons p L ih =>
    obtain ⟨m, e⟩ := p
    simp only [pwP, qal, ev_lpow, ih]
    by_cases h : e <= 0
    ·rw [if_pos h, show e = 0 by omega]; simp
    ·rw [if_neg h]; simp
  rw [this]; rfl
 | n + 1 => by
  have ih := sqp_lev hM x n
  have hl := pn_len hM (n + 1)
  rw [ev_upto, <- ih, sqp_succ]
  split
  ·rw [lev_app]
   simp only [lev, Rat.mul_one]
  ·have hm := MlP.prP (fun e => decide (e = n + 1)) L hM
   have h1 : Pn L (n + 1) = [1] := by
    have hm : MlP (Pn L (n + 1)) := hm
    obtain ⟨h2, h3⟩ := hm
    match hP : Pn L (n + 1), h2, h3, hl with
    | [c], _, h3, _ => have h3 : c = 1 := h3; rw [h3]
    | a :: b :: t, _, _, hl => simp only [hP, List.length_cons] at *; omega
   have this : ∀ n : Nat, (1 : Rat) ^ n = 1 := fun n => by induction n with | zero => rfl | succ n ih => rw [Rat.pow_succ, ih, Rat.mul_one]
   rw [h1]
   have e : Abs.ev [1] x = 1 := by simp only [Abs.ev]; grind
   rw [e, this, Rat.mul_one]
theorem pwP_all {N : Nat} (f g : Nat -> Nat) : ∀ L : FL, (∀ p ∈ L, f p.2 = g p.2) -> pwP f L = pwP g L /\ dgs f L = dgs g L
 | [], _ => ⟨rfl, rfl⟩
 | (m, e) :: L, h => by
  obtain ⟨h1, h2⟩ := pwP_all (N := N) f g L fun p hp => h p (.tail _ hp)
  have := h (m, e) (.head _)
  simp only at this
  simp only [pwP, dgs, h1, h2, this, and_self]
theorem pair_eq : ∀ {L : FL}, L.Pairwise (fun p q => p.1 ≠ q.1) -> ∀ p ∈ L, ∀ q ∈ L, p.1 = q.1 -> p = q
 | a :: L, h, p, hp, q, hq, e => by
  have h1 := List.pairwise_cons.1 h
  rcases List.mem_cons.1 hp with k1 | k1 <;> rcases List.mem_cons.1 hq with k2 | k2
  ·rw [k1, k2]
  ·rw [k1] at e; exact absurd e (h1.1 q k2)
  ·rw [k2] at e; exact absurd e.symm (h1.1 p k1)
  ·exact pair_eq h1.2 p k1 q k2 e
theorem pn_cop {t : Nat} {L : FL} (h : FcL t L) {m n : Nat} (hmn : m ≠ n) : Cop (Pn L m) (Pn L n) := by
 refine cop_prP _ L fun q hq hcq => (cop_prP _ L fun p hp hcp => ?_).symm
 have h1 := of_decide_eq_true hcq
 have h2 := of_decide_eq_true hcp
 refine (h.fc q hq).1.cop (h.fc p hp).1 fun he => ?_
 have := pair_eq h.ne q hq p hp he
 rw [this] at h1
 omega
theorem pn_sq {t : Nat} {L : FL} (h : FcL t L) (n : Nat) : Cop (Pn L n) (pder (Pn L n)) :=
 (cop_su (fun e => decide (e = n)) (fun _ => 1) L h.ok fun p _ _ => by decide).congr (fun _ => rfl) fun x => by rw [ev_pder]; exact evd_prP _ L x
theorem gcd_one {f g : Rat -> Rat} {n m s W : Nat} {P B : List Rat} (hP : PB f n s P) (hB : PB g m s B) (hW : (s + 1) * (n + 2) * 3 ^ m <= W) (hW2 : W <= 400000000) (hl : n + 2 * m <= 190) (hc : Cop P B) :
  ACall Tryz.prog 10 [.val (tl (ur P)), .val (tl (ur B))] ⟨[.val (tl (ur [1]))], [none, none]⟩ := by
 obtain ⟨G, ig, _, _, c⟩ := pb_gcd W hP hB hW hW2 hl
 have e : Abs.ev [1] = fun _ => (1 : Rat) := by funext x; simp only [Abs.ev]; grind
 have : G = [1] := ig.uniq (isg_cop MlP.one (fun x => by rw [e, Rat.mul_one]) (fun x => by rw [e, Rat.mul_one]) hc)
 rw [<- this]; exact c
theorem cf_lpowl {t l : Nat} {m : List Rat} (h : CF t (fun j => m.getD j 0)) (hl : m.length <= 2 ^ l) : ∀ n, CF (n * (t + l)) (fun j => (lpow m n).getD j 0)
 | 0 => cf_one _
 | n + 1 => (cf_lmul l h (cf_lpowl h hl n) hl).mono (by rw [Nat.succ_mul]; omega)
def sqB : PL2 -> List Rat
 | [] => [1]
 | p :: l => lmul (lpow p.1 p.2) (sqB l)
theorem sqB_ml : ∀ l : PL2, (∀ p ∈ l, MlP p.1) -> MlP (sqB l)
 | [], _ => MlP.one
 | p :: l, h => (MlP.lpow (h p (.head _)) _).mul (sqB_ml l fun q hq => h q (.tail _ hq))
theorem sqB_ev (x : Rat) : ∀ l : PL2, Abs.ev (sqB l) x = lev l x
 | [] => by simp only [sqB, lev, Abs.ev]; grind
 | p :: l => by simp only [sqB, lev, qal, ev_lpow, sqB_ev x l]
theorem sqB_len : ∀ l : PL2, (∀ p ∈ l, MlP p.1) -> (sqB l).length = dsum l + 1
 | [], _ => rfl
 | p :: l, h => by
  have hm := h p (.head _)
  have h1 := qbf (lpow p.1 p.2) (sqB l) (MlP.lpow hm _).1 (sqB_ml l fun q hq => h q (.tail _ hq)).1
  rw [lpow_length hm, sqB_len l fun q hq => h q (.tail _ hq)] at h1
  simp only [sqB, dsum]; omega
theorem sqB_cf : ∀ l : PL2, (∀ p ∈ l, MlP p.1 /\ CF 2300 (fun j => p.1.getD j 0) /\ p.1.length <= 6 /\ 2 <= p.1.length) -> dsum l <= 15 -> CF (l.length * 40000) (fun j => (sqB l).getD j 0)
 | [], _, _ => cf_one _
 | p :: l, h, hd => by
  obtain ⟨h1, h2, h3, h4⟩ := h p (.head _)
  simp only [dsum] at hd
  have ih := sqB_cf l (fun q hq => h q (.tail _ hq)) (by omega)
  have l1 := lpow_length h1 p.2
  have l2 : p.2 * 1 <= p.2 * (p.1.length - 1) := Nat.mul_le_mul_left _ (by omega)
  have q1 := cf_lpowl (l := 3) h2 (by omega) p.2
  have q2 := cf_lmul 4 q1 ih (by omega)
  rw [List.length_cons, Nat.succ_mul]
  refine q2.mono ?_
  have : p.2 * (2300 + 3) <= 15 * 2303 := Nat.mul_le_mul (by omega) (by omega)
  omega
def pd : List Rat × Nat := ([], 0)
def sqQ (l : PL2) (i k : Nat) : List Rat := lmul (lpow (l.getD i pd).1 k) (sqB (l.take i))
theorem qay {l : PL2} {i : Nat} (h : i < l.length) : l.getD i pd ∈ l := by
 rw [List.getD_eq_getElem?_getD, List.getElem?_eq_getElem h]
 exact List.getElem_mem h
theorem take_next {l : PL2} {i : Nat} (h : i < l.length) : l.take (i + 1) = l.take i ++ [l.getD i pd] := by
 rw [List.take_add_one, List.getElem?_eq_getElem h, List.getD_eq_getElem?_getD, List.getElem?_eq_getElem h]; rfl
theorem dsum_take {l : PL2} (i : Nat) : dsum (l.take i) <= dsum l := by
 have := dsum_app (l.take i) (l.drop i)
 rw [List.take_append_drop] at this
 omega
theorem parts_ok {a : List Rat} {s t : Nat} {L : FL} {k : Rat} (h : SqA a s t L k) {UA UAA S : Abs.Rows} {s2 : Nat} {fs : Nat -> Abs.Rows} {νs : Nat -> Nat} (la : UA.length <= 20) (hs : PtR S s2 fs νs) (ev : ∀ i, i < s2 -> νs i % 2 = 0) (hsl : 0 < s2 ↔ 1 < UA.length) :
  ∃ q f ν dg Q, PtC UA (ur a) (sqR (sqp L (a.length - 1))) UAA S q s2 f fs ν νs dg Q := by
 obtain ⟨l, hl⟩ : ∃ l, l = sqp L (a.length - 1) := ⟨_, rfl⟩
 have hM := h.fl.ml
 have hmem := sqp_mem L (a.length - 1)
 have hinc := sqp_inc L (a.length - 1)
 have hds := sqp_dsum hM (a.length - 1)
 have hlev := fun x => sqp_lev hM x (a.length - 1)
 have hall := pwP_all (N := 0) (fun e => if e <= a.length - 1 then e else 0) (fun e => e) L fun p hp => by
  have := h.exp p hp
  rw [if_pos (by omega)]
 rw [hall.2] at hds
 rw [hall.1] at hlev
 rw [<- hl] at hmem hinc hds hlev ⊢
 have hlen := h.len
 have hln := h.ln
 have hql : l.length <= 9 := by rw [hl]; exact Nat.le_trans (sqp_len L _) (by omega)
 obtain ⟨D0, G0, M0, S0, _, _, c3, _, _, _, _, hM0⟩ := sq_start h
 have pm : ∀ p ∈ l, MlP p.1 /\ CF 2300 (fun j => p.1.getD j 0) /\ p.1.length <= 6 /\ 2 <= p.1.length := fun p hp => by
  obtain ⟨h1, h2, h3, h4⟩ := hmem p hp
  have hp := sq_p h p.2
  rw [h1]
  rw [h1] at h4
  exact ⟨MlP.prP _ L hM, hp.cf, hp.len, by omega⟩
 have pmt : ∀ i, ∀ p ∈ l.take i, MlP p.1 /\ CF 2300 (fun j => p.1.getD j 0) /\ p.1.length <= 6 /\ 2 <= p.1.length := fun i p hp => pm p (List.mem_of_mem_take hp)
 have hQm : ∀ i k, (i < l.length ∨ k = 0) -> MlP (sqQ l i k) := fun i k hik => by
  refine MlP.mul ?_ (sqB_ml _ fun p hp => (pmt i p hp).1)
  rcases hik with hi | hk
  ·exact MlP.lpow (pm _ (qay hi)).1 k
  ·rw [hk]; exact MlP.one
 have hPB : ∀ i, i < l.length -> PB (Abs.ev (l.getD i pd).1) 6 2300 (l.getD i pd).1 := fun i hi => by
  obtain ⟨h1, h2, h3, h4⟩ := pm _ (qay hi)
  exact ⟨ml_trim h1, fun _ => rfl, h3, h2⟩
 have hnext : ∀ i, i < l.length -> dsum (l.take (i + 1)) = dsum (l.take i) + (l.getD i pd).2 * ((l.getD i pd).1.length - 1) := fun i hi => by
  rw [take_next hi, dsum_app]; simp [dsum]
 have hQB : ∀ i k, i < l.length -> k <= (l.getD i pd).2 -> PB (Abs.ev (sqQ l i k)) 16 600000 (sqQ l i k) := fun i k hi hk => by
  obtain ⟨h1, h2, h3, h4⟩ := pm _ (qay hi)
  have hd1 := hnext i hi
  have hd2 := dsum_take (l := l) (i + 1)
  have hd3 : k * ((l.getD i pd).1.length - 1) <= (l.getD i pd).2 * ((l.getD i pd).1.length - 1) := Nat.mul_le_mul_right _ hk
  have hd4 : k * 1 <= k * ((l.getD i pd).1.length - 1) := Nat.mul_le_mul_left _ (by omega)
  have l1 := lpow_length h1 k
  have l2 := sqB_len (l.take i) fun p hp => (pmt i p hp).1
  have q1 := cf_lpowl (l := 3) h2 (by omega) k
  have q2 := sqB_cf (l.take i) (pmt i) (by omega)
  have q3 := cf_lmul 4 q1 q2 (by omega)
  have l3 := qbf (lpow (l.getD i pd).1 k) (sqB (l.take i)) (MlP.lpow h1 k).1 (sqB_ml _ fun p hp => (pmt i p hp).1).1
  have e1 : (l.take i).length <= 9 := by rw [List.length_take]; omega
  have e2 : k * (2300 + 3) <= 15 * 2303 := Nat.mul_le_mul (by omega) (by omega)
  have e3 : (l.take i).length * 40000 <= 9 * 40000 := Nat.mul_le_mul_right _ e1
  refine ⟨ml_trim (hQm i k (.inl hi)), fun _ => rfl, ?_, q3.mono (by omega)⟩
  show (lmul (lpow (l.getD i pd).1 k) (sqB (l.take i))).length <= 16
  omega
 refine ⟨l.length, fun i => ur (l.getD i pd).1, fun i => (l.getD i pd).2, fun i => dsum (l.take i), fun i k => ur (sqQ l i k), ?_⟩
 refine ⟨⟨sqR_len l, fun i hi => ?_, by omega, fun i hi => ?_⟩, fun i hi => ?_, rfl, fun i hi => ?_, fun i hi => ?_, by rw [qaf]; omega, la, fun i hi => ?_, fun i hi => ?_, fun i hi => ?_, fun i hi k hk => ?_, ?_, fun i hi => ?_, fun i hi k hk => ?_, hs, ev, fun h0 => ?_, fun h0 => ?_⟩
 ·unfold sqR
  rw [List.getElem?_map, List.getElem?_eq_getElem hi, List.getD_eq_getElem?_getD, List.getElem?_eq_getElem hi]
  rfl
 ·obtain ⟨h1, h2, h3, h4⟩ := hmem _ (qay hi)
  omega
 ·have := List.pairwise_iff_getElem.1 hinc i (i + 1) (by omega) hi (by omega)
  rw [List.getD_eq_getElem?_getD, List.getElem?_eq_getElem (show i < l.length by omega), List.getD_eq_getElem?_getD, List.getElem?_eq_getElem hi]
  exact this
 ·show dsum _ = dsum _ + (l.getD i pd).2 * ((ur (l.getD i pd).1).length - 1)
  rw [qaf]; exact hnext i hi
 ·have := dsum_take (l := l) (i + 1)
  rw [qaf]; omega
 ·rw [qaf]; exact (pm _ (qay hi)).2.2.2
 ·exact monic_call (hPB i hi) (pm _ (qay hi)).1 (by omega) (by omega)
 ·obtain ⟨D, hD, cd⟩ := pb_derive (hPB i hi) (by omega) (by omega)
  have e1 := (hmem _ (qay hi)).1
  refine ⟨ur D, ur [1], cd, gcd_one ((hPB i hi).mono (Nat.le_refl 6) (show 2300 <= 2310 by omega)) hD (W := 14000000) (by decide) (by omega) (by omega) ?_, rfl⟩
  have hc := pn_sq h.fl (l.getD i pd).2
  rw [<- e1] at hc
  exact hc.congr (fun _ => rfl) fun x => by rw [hD.ev, ev_pder]
 ·have e1 := (hmem _ (qay hi)).1
  have hk' : k < l.length := by omega
  have e2 := (hmem _ (qay hk')).1
  refine ⟨ur [1], gcd_one (hPB i hi) (hPB k hk') (W := 14000000) (by decide) (by omega) (by omega) ?_, rfl⟩
  have hne : (l.getD i pd).2 ≠ (l.getD k pd).2 := by
   have := List.pairwise_iff_getElem.1 hinc k i hk' hi hk
   rw [List.getD_eq_getElem?_getD, List.getElem?_eq_getElem hi, List.getD_eq_getElem?_getD, List.getElem?_eq_getElem hk']
   simp only [Option.getD_some]; omega
  have hc := pn_cop h.fl hne
  rw [<- e1, <- e2] at hc
  exact hc
 ·have : sqQ l 0 0 = [1] := tr_inj (ml_trim (hQm 0 0 (.inr rfl))) rfl fun x => by
   show Abs.ev (lmul [1] [1]) x = _
   rw [qal]; simp only [Abs.ev]; grind
  exact congrArg ur this
 ·refine congrArg ur (tr_inj (ml_trim (hQm (i + 1) 0 (.inr rfl))) (ml_trim (hQm i _ (.inl hi))) fun x => ?_)
  show Abs.ev (lmul [1] (sqB (l.take (i + 1)))) x = Abs.ev (lmul (lpow (l.getD i pd).1 (l.getD i pd).2) (sqB (l.take i))) x
  rw [qal, qal, sqB_ev, sqB_ev, take_next hi, lev_app, ev_lpow]
  simp only [lev, Abs.ev]; grind
 ·obtain ⟨R, hR, c⟩ := pb_mul 4 (hQB i k hi (Nat.le_of_lt hk)) (hPB i hi) (by omega) (by omega) (by omega)
  have e : R = sqQ l i (k + 1) := tr_inj hR.tr (ml_trim (hQm i (k + 1) (.inl hi))) fun x => by
   rw [hR.ev]
   show Abs.ev (lmul (lpow (l.getD i pd).1 k) (sqB (l.take i))) x * _ = Abs.ev (lmul (lpow (l.getD i pd).1 (k + 1)) (sqB (l.take i))) x
   rw [qal, qal, lpow, qal]; grind
  rw [<- e]; exact c
 ·exact absurd (List.length_eq_zero_iff.1 (by rw [qaf] at h0; exact h0)) h.ne
 ·refine ⟨hsl, ur M0, c3, ?_⟩
  have e : sqQ l l.length 0 = M0 := tr_inj (ml_trim (hQm _ 0 (.inr rfl))) hM0.tr fun x => by
   show Abs.ev (lmul [1] (sqB (l.take l.length))) x = _
   rw [qal, sqB_ev, List.take_length, hlev, hM0.ev]; simp only [Abs.ev]; grind
  rw [e]
  exact pb_same hM0 hM0 (fun _ => rfl) (by omega) (by omega) (by omega)
theorem parts_none {UA UAA S : Abs.Rows} {s2 : Nat} {fs : Nat -> Abs.Rows} {νs : Nat -> Nat} (la : UA.length <= 20) (hs : PtR S s2 fs νs) (ev : ∀ i, i < s2 -> νs i % 2 = 0) :
  ∃ q f ν dg Q, PtC UA [] [] UAA S q s2 f fs ν νs dg Q :=
 ⟨0, fun _ => [], fun _ => 0, fun _ => 0, fun _ _ => ur [1], ⟨rfl, fun i hi => absurd hi (by omega), by omega, fun i hi => absurd hi (by omega)⟩, fun i hi => absurd hi (by omega), rfl, fun i hi => absurd hi (by omega), fun i hi => absurd hi (by omega), by simp, la, fun i hi => absurd hi (by omega), fun i hi => absurd hi (by omega), fun i hi => absurd hi (by omega), fun i hi => absurd hi (by omega), rfl, fun i hi => absurd hi (by omega), fun i hi => absurd hi (by omega), hs, ev, fun _ => rfl, fun h => absurd rfl h⟩
theorem inss_snd {R : Nat -> Prop} (hR : ∀ a b, R a -> R b -> R (a + b)) {e : Nat} (he : R e) {L : FL} (hL : ∀ p ∈ L, R p.2) : ∀ l, ∀ p ∈ inss e l L, R p.2
 | [] => hL
 | m :: l => ins_snd hR he _ (inss_snd hR he hL l)
theorem sq_even {a : List Rat} {s t : Nat} {L : FL} {k : Rat} (h : SqA a s t L k) (hev : ∀ p ∈ L, p.2 % 2 = 0) :
  ∃ s2 fs νs, PtR (sqR (sqp L (a.length - 1))) s2 fs νs /\ (∀ i, i < s2 -> νs i % 2 = 0) /\ (0 < s2 ↔ 1 < a.length) := by
 obtain ⟨l, hl⟩ : ∃ l, l = sqp L (a.length - 1) := ⟨_, rfl⟩
 have hM := h.fl.ml
 have hmem := sqp_mem L (a.length - 1)
 have hds := sqp_dsum hM (a.length - 1)
 have hall := pwP_all (N := 0) (fun e => if e <= a.length - 1 then e else 0) (fun e => e) L fun p hp => by
  have := h.exp p hp
  rw [if_pos (by omega)]
 rw [hall.2] at hds
 rw [<- hl] at hmem hds ⊢
 have hlen := h.len
 have hln := h.ln
 have hql : l.length <= 9 := by rw [hl]; exact Nat.le_trans (sqp_len L _) (by omega)
 refine ⟨l.length, fun i => ur (l.getD i pd).1, fun i => (l.getD i pd).2, ⟨sqR_len l, fun i hi => ?_, by omega, fun i hi => ?_⟩, fun i hi => ?_, ?_⟩
 ·unfold sqR
  rw [List.getElem?_map, List.getElem?_eq_getElem hi, List.getD_eq_getElem?_getD, List.getElem?_eq_getElem hi]
  rfl
 ·obtain ⟨h1, h2, h3, h4⟩ := hmem _ (qay hi)
  omega
 ·obtain ⟨h1, h2, h3, h4⟩ := hmem _ (qay hi)
  show (l.getD i pd).2 % 2 = 0
  by_cases hp : ∃ p ∈ L, p.2 = (l.getD i pd).2
  ·obtain ⟨p, hp, he⟩ := hp
   rw [<- he]; exact hev p hp
  ·have hz := dgs_zero (fun e => decide (e = (l.getD i pd).2)) L fun p hp2 => decide_eq_false fun he => hp ⟨p, hp2, he⟩
   have h5 := pn_len hM (l.getD i pd).2
   rw [h1, h5] at h4
   omega
 ·constructor
  ·intro h0
   obtain ⟨h1, h2, h3, h4⟩ := hmem _ (qay h0)
   omega
  ·intro h1
   rcases Nat.eq_zero_or_pos l.length with h0 | h0
   ·rw [List.length_eq_zero_iff.1 h0] at hds
    simp only [dsum] at hds
    omega
   ·exact h0
theorem fac_of {s : Nat} {a : List Rat} {n : Nat} {f : Rat -> Rat} (h : PB f n s a) (hn : n <= 3) (h0 : a ≠ []) : ∃ l : List (List Rat), (∀ m ∈ l, Fc m /\ CF (2 * (s + 2)) (fun j => m.getD j 0)) /\ ldeg l + 1 = a.length /\ ∃ k : Rat, k ≠ 0 /\ ∀ x, Abs.ev a x = k * lprd l x :=
 fac_list h0 (by have := h.len; omega) (tr_last h.tr h0) h.cf
theorem rat_mul_ne {a b : Rat} (h1 : a ≠ 0) (h2 : b ≠ 0) : a * b ≠ 0 := fun h => by
 rcases Rat.mul_eq_zero.1 h with h | h
 ·exact h1 h
 ·exact h2 h
theorem parts_call (hsan : ACall Tryz.prog 4 [] ⟨[.val (tb true)], []⟩) (hp1 : ACall Tryz.prog 8 [.val (.c (.lst false [[.v (.int .i8 1)]]))] ⟨[.val (tl (ur [1]))], [none]⟩)
  (xs ys zs : List RW) (hx : ∀ x ∈ xs, x.ok) (hy : ∀ x ∈ ys, x.ok) (hz : ∀ x ∈ zs, x.ok) (l1 : xs.length * 3 <= 140737488355328) (l2 : ys.length * 3 <= 140737488355328) (l3 : zs.length * 3 <= 140737488355328) :
  ACall Tryz.prog 3 [.val (tl (rwrows xs)), .val (tl (rwrows ys)), .val (tl (rwrows zs))] ⟨[.val (tb true)], [none, none, none]⟩ := by
 obtain ⟨a, ha, ca⟩ := pb_plain xs hx 2 (by omega) l1
 obtain ⟨b, hb, cb⟩ := pb_plain ys hy 2 (by omega) l2
 obtain ⟨c, hc, cc⟩ := pb_plain zs hz 1 (by omega) l3
 have ha : PB (Abs.ev a) 3 21 a := ha
 have hb : PB (Abs.ev b) 3 21 b := hb
 have hc : PB (Abs.ev c) 2 14 c := hc
 obtain ⟨b2, hb2, m1⟩ := rpb_mul 2 hb hb (by omega) (by omega) (by omega)
 obtain ⟨ab, hab, m2⟩ := rpb_mul 2 ha hb2 (by omega) (by omega) (by omega)
 obtain ⟨c2, hc2, m3⟩ := rpb_mul 1 hc hc (by omega) (by omega) (by omega)
 obtain ⟨c3, hc3, m4⟩ := rpb_mul 1 hc hc2 (by omega) (by omega) (by omega)
 obtain ⟨p, hp, m5⟩ := rpb_mul 3 hab hc3 (by omega) (by omega) (by omega)
 obtain ⟨aa, haa, ms⟩ := rpb_mul 2 ha ha (by omega) (by omega) (by omega)
 have hla : (ur a).length <= 20 := by rw [qaf]; have := ha.len; omega
 have hsq : ∃ S s2 fs νs, ACall Tryz.prog 7 [.val (tl (ur aa))] ⟨[.val (tl S)], [none]⟩ /\ PtR S s2 fs νs /\ (∀ i, i < s2 -> νs i % 2 = 0) /\ (a ≠ [] -> (0 < s2 ↔ 1 < (ur a).length)) := by
  by_cases h0 : a = []
  ·have : aa = [] := tr_nil haa.tr fun x => by rw [haa.ev, h0]; simp only [Abs.ev]; grind
   rw [this]
   exact ⟨[], 0, fun _ => [], fun _ => 0, usqf_nil, ⟨rfl, fun i hi => absurd hi (by omega), by omega, fun i hi => absurd hi (by omega)⟩, fun i hi => absurd hi (by omega), fun h => absurd h0 h⟩
  ·obtain ⟨l, hl, hld, k, hk, hkl⟩ := fac_of ha (by omega) h0
   have hal := ha.len
   have hF : FcL 46 (inss 2 l []) := (FcL.nil 46).inss (by omega) l fun m hm => ⟨(hl m hm).1, (hl m hm).2.mono (by omega)⟩
   have hdg := inss_dgs 2 [] l
   simp only [dgs] at hdg
   have hA : SqA aa 44 46 (inss 2 l []) (k * k) := by
    refine ⟨haa.tr, haa.cf.mono (by omega), by omega, rat_mul_ne hk hk, fun x => ?_, hF, by omega, by omega, Nat.le_trans haa.len (by omega)⟩
    rw [haa.ev, inss_ev, hkl]
    simp only [pwP, Abs.ev]
    have e : lprd l x ^ 2 = lprd l x * lprd l x := by rw [Rat.pow_succ, Rat.pow_succ, Rat.pow_zero, Rat.one_mul]
    rw [e]; grind
   obtain ⟨s2, fs, νs, h1, h2, h3⟩ := sq_even hA fun p hp => by
    have := inss_snd (R := fun n => n % 2 = 0) (fun a b h1 h2 => by omega) (e := 2) rfl (L := []) (by simp) l p hp
    exact this
   refine ⟨_, s2, fs, νs, usqf_call hA, h1, h2, fun _ => ?_⟩
   rw [h3, qaf]
   have e := tr_len ha.tr ha.tr haa.tr (fun x => haa.ev x) h0 h0
   omega
 obtain ⟨S, s2, fs, νs, cs, hs1, hs2, hs3⟩ := hsq
 by_cases h0 : p = []
 ·subst h0
  obtain ⟨q, f, ν, dg, Q, H⟩ := parts_none (UA := ur a) (UAA := ur aa) hla hs1 hs2
  exact parts_walk hsan hp1 H ca cb cc m1 m2 m3 m4 m5 usqf_nil ms cs
 ·have ea : a ≠ [] := fun h => h0 (tr_nil hp.tr fun x => by rw [hp.ev, h]; simp only [Abs.ev]; grind)
  have eb : b ≠ [] := fun h => h0 (tr_nil hp.tr fun x => by rw [hp.ev, h]; simp only [Abs.ev]; grind)
  have ec : c ≠ [] := fun h => h0 (tr_nil hp.tr fun x => by rw [hp.ev, h]; simp only [Abs.ev]; grind)
  obtain ⟨la, hla1, hla2, ka, hka, hkal⟩ := fac_of ha (by omega) ea
  obtain ⟨lb, hlb1, hlb2, kb, hkb, hkbl⟩ := fac_of hb (by omega) eb
  obtain ⟨lc, hlc1, hlc2, kc, hkc, hkcl⟩ := fac_of hc (by omega) ec
  have hal := ha.len
  have hbl := hb.len
  have hcl := hc.len
  have hF : FcL 46 (inss 1 la (inss 2 lb (inss 3 lc []))) :=
   (((FcL.nil 46).inss (by omega) lc fun m hm => ⟨(hlc1 m hm).1, (hlc1 m hm).2.mono (by omega)⟩).inss (by omega) lb fun m hm => ⟨(hlb1 m hm).1, (hlb1 m hm).2.mono (by omega)⟩).inss (by omega) la fun m hm => ⟨(hla1 m hm).1, (hla1 m hm).2.mono (by omega)⟩
  have d1 := inss_dgs 1 (inss 2 lb (inss 3 lc [])) la
  have d2 := inss_dgs 2 (inss 3 lc []) lb
  have d3 := inss_dgs 3 [] lc
  simp only [dgs] at d3
  have hA : SqA p 114 46 (inss 1 la (inss 2 lb (inss 3 lc []))) (ka * ((kb * kb) * (kc * (kc * kc)))) := by
   refine ⟨hp.tr, hp.cf.mono (by omega), by omega, rat_mul_ne hka (rat_mul_ne (rat_mul_ne hkb hkb) (rat_mul_ne hkc (rat_mul_ne hkc hkc))), fun x => ?_, hF, by omega, by omega, Nat.le_trans hp.len (by omega)⟩
   rw [hp.ev, inss_ev, inss_ev, inss_ev, hkal, hkbl, hkcl]
   simp only [pwP, Abs.ev]
   generalize lprd la x = u
   generalize lprd lb x = v
   generalize lprd lc x = w
   have e1 : u ^ 1 = u := by rw [Rat.pow_succ, Rat.pow_zero, Rat.one_mul]
   have e2 : v ^ 2 = v * v := by rw [Rat.pow_succ, Rat.pow_succ, Rat.pow_zero, Rat.one_mul]
   have e3 : w ^ 3 = w * w * w := by rw [Rat.pow_succ, Rat.pow_succ, Rat.pow_succ, Rat.pow_zero, Rat.one_mul]
   rw [e1, e2, e3]; grind
  obtain ⟨q, f, ν, dg, Q, H⟩ := parts_ok hA (UAA := ur aa) hla hs1 hs2 (hs3 ea)
  exact parts_walk hsan hp1 H ca cb cc m1 m2 m3 m4 m5 (usqf_call hA) ms cs
theorem parts_row (hsan : ACall Tryz.prog 4 [] ⟨[.val (tb true)], []⟩) (hp1 : ACall Tryz.prog 8 [.val (.c (.lst false [[.v (.int .i8 1)]]))] ⟨[.val (tl (ur [1]))], [none]⟩)
  {t e : TypeId} (hu : Tryz.prog.underlying t = some (.slice e)) (he : Tryz.prog.bytesOf e = 3)
  (tss : List (List Tree)) (h : okAll [.slice rawQ, .slice rawQ, .slice rawQ] tss) (hz : szAll Tryz.prog [t, t, t] tss) :
  ACall Tryz.prog 3 ((tvs [.slice rawQ, .slice rawQ, .slice rawQ] tss).map .val) ⟨[.val (tb true)], [none, none, none]⟩ := by
 obtain ⟨_, _, rfl, ⟨cp, rows, rfl, n1, h1⟩, _, _, rfl, ⟨cp2, rows2, rfl, n2, h2⟩, _, _, rfl, ⟨cp3, rows3, rfl, n3, h3⟩, rfl⟩ := h
 obtain ⟨z1, z2, z3, _⟩ := hz
 have b1 := z1 e _ _ hu rfl
 have b2 := z2 e _ _ hu rfl
 have b3 := z3 e _ _ hu rfl
 have hr : reachBytes = 140737488351232 := by decide
 rw [he, hr] at b1 b2 b3
 obtain ⟨xs, rfl, x1, x2⟩ := raws_ok rows h1
 obtain ⟨ys, rfl, y1, y2⟩ := raws_ok rows2 h2
 obtain ⟨zs, rfl, w1, w2⟩ := raws_ok rows3 h3
 have c := parts_call hsan hp1 xs ys zs x1 y1 w1 (by omega) (by omega) (by omega)
 have hle : ArgsLe [.val (.c (.lst cp (rwrows xs))), .val (.c (.lst cp2 (rwrows ys))), .val (.c (.lst cp3 (rwrows zs)))] [.val (tl (rwrows xs)), .val (tl (rwrows ys)), .val (tl (rwrows zs))] := ⟨TLe.drop _ _, TLe.drop _ _, TLe.drop _ _, trivial⟩
 exact ACall.weak hle (ResLe.refl _) c
end Go.Proofs.YtbeakmahabhacaaGreat
end
section
namespace Go.Abs
mutual
def eqT : Tree -> Tree -> Bool
 | .v x, .v y => match x, y with
  | .int k a, .int k' b => decide (k = k') && decide (a = b)
  | .bool a, .bool b => decide (a = b)
  | .string a, .string b => decide (a.data.toList = b.data.toList)
  | .func (.func f) ⟨[]⟩ ⟨[]⟩, .func (.func g) ⟨[]⟩ ⟨[]⟩ => decide (f = g)
  | _, _ => false
 | .lst c l, .lst c' l' => decide (c = c') && eqRR l l'
 | _, _ => false
def eqTs : List Tree -> List Tree -> Bool
 | [], [] => true
 | x :: xs, y :: ys => eqT x y && eqTs xs ys
 | _, _ => false
def eqRR : List (List Tree) -> List (List Tree) -> Bool
 | [], [] => true
 | x :: xs, y :: ys => eqTs x y && eqRR xs ys
 | _, _ => false
end
mutual
theorem eqT_eq : ∀ {x y : Tree}, eqT x y = true -> x = y
 | .v x, .v y, h => by
  unfold eqT at h
  split at h
  ·simp only [Bool.and_eq_true, decide_eq_true_eq] at h; rw [h.1, h.2]
  ·rw [of_decide_eq_true h]
  ·rename_i a b
   have := of_decide_eq_true h
   have e : a = b := by
    cases a with | mk da => cases b with | mk db => exact congrArg ByteArray.mk (Array.ext' this)
   rw [e]
  ·rw [of_decide_eq_true h]
  ·cases h
 | .lst c l, .lst c' l', h => by
  unfold eqT at h
  simp only [Bool.and_eq_true, decide_eq_true_eq] at h
  rw [h.1, eqRR_eq h.2]
 | .v _, .lst _ _, h => by unfold eqT at h; cases h
 | .lst _ _, .v _, h => by unfold eqT at h; cases h
theorem eqTs_eq : ∀ {x y : List Tree}, eqTs x y = true -> x = y
 | [], [], _ => rfl
 | x :: xs, y :: ys, h => by
  unfold eqTs at h
  simp only [Bool.and_eq_true] at h
  rw [eqT_eq h.1, eqTs_eq h.2]
 | [], _ :: _, h => by unfold eqTs at h; cases h
 | _ :: _, [], h => by unfold eqTs at h; cases h
theorem eqRR_eq : ∀ {x y : List (List Tree)}, eqRR x y = true -> x = y
 | [], [], _ => rfl
 | x :: xs, y :: ys, h => by
  unfold eqRR at h
  simp only [Bool.and_eq_true] at h
  rw [eqTs_eq h.1, eqRR_eq h.2]
 | [], _ :: _, h => by unfold eqRR at h; cases h
 | _ :: _, [], h => by unfold eqRR at h; cases h
end
def eqArg : Arg -> Arg -> Bool
 | .val (.c x), .val (.c y) => eqT x y
 | .val (.agg x), .val (.agg y) => eqTs x y
 | .bor s x, .bor s' y => decide (s = s') && eqRR x y
 | .own s x, .own s' y => decide (s = s') && eqRR x y
 | .ref x, .ref y => eqTs x y
 | .gh x, .gh y => eqTs x y
 | .clo f x, .clo g y => decide (f = g) && decide (x = y)
 | _, _ => false
theorem eqArg_eq {x y : Arg} (h : eqArg x y = true) : x = y := by
 unfold eqArg at h
 split at h
 ·rw [eqT_eq h]
 ·rw [eqTs_eq h]
 ·simp only [Bool.and_eq_true, decide_eq_true_eq] at h; rw [h.1, eqRR_eq h.2]
 ·simp only [Bool.and_eq_true, decide_eq_true_eq] at h; rw [h.1, eqRR_eq h.2]
 ·rw [eqTs_eq h]
 ·rw [eqTs_eq h]
 ·simp only [Bool.and_eq_true, decide_eq_true_eq] at h; rw [h.1, h.2]
 ·cases h
def eqArgs : List Arg -> List Arg -> Bool
 | [], [] => true
 | x :: xs, y :: ys => eqArg x y && eqArgs xs ys
 | _, _ => false
theorem eqArgs_eq : ∀ {x y : List Arg}, eqArgs x y = true -> x = y
 | [], [], _ => rfl
 | x :: xs, y :: ys, h => by
  unfold eqArgs at h
  simp only [Bool.and_eq_true] at h
  rw [eqArg_eq h.1, eqArgs_eq h.2]
 | [], _ :: _, h => by cases h
 | _ :: _, [], h => by cases h
def eqL3 (l m : List (Nat × Nat × Nat)) : Bool := decide (l = m)
def eqC : Cell -> Cell -> Bool
 | .t x, .t y => eqT x y
 | .ptr b r c, .ptr b' r' c' => decide (b = b') && decide (r = r') && decide (c = c')
 | .tp l c, .tp l' c' => eqTs l l' && decide (c = c')
 | .sl b o n c, .sl b' o' n' c' => decide (b = b') && decide (o = o') && decide (n = n') && decide (c = c')
 | .mp b, .mp b' => decide (b = b')
 | .clo f l, .clo g m => decide (f = g) && eqL3 l m
 | _, _ => false
def eqCs : List Cell -> List Cell -> Bool
 | [], [] => true
 | x :: xs, y :: ys => eqC x y && eqCs xs ys
 | _, _ => false
def eqAV : AV -> AV -> Bool
 | .c x, .c y => eqC x y
 | .agg x, .agg y => eqCs x y
 | .junk, .junk => true
 | _, _ => false
def eqAVs : List AV -> List AV -> Bool
 | [], [] => true
 | x :: xs, y :: ys => eqAV x y && eqAVs xs ys
 | _, _ => false
def eqB : Option Blk -> Option Blk -> Bool
 | none, none => true
 | some (.var x), some (.var y) => eqCs x y
 | some (.rows s l g z), some (.rows s' l' g' z') => decide (s = s') && eqRR l l' && decide (g = g') && decide (z = z')
 | some (.old s l), some (.old s' l') => decide (s = s') && eqRR l l'
 | _, _ => false
def eqH : Heap -> Heap -> Bool
 | [], [] => true
 | x :: xs, y :: ys => eqB x y && eqH xs ys
 | _, _ => false
theorem eqC_eq {x y : Cell} (h : eqC x y = true) : x = y := by
 unfold eqC at h
 split at h
 ·rw [eqT_eq h]
 ·simp only [Bool.and_eq_true, decide_eq_true_eq] at h; obtain ⟨⟨rfl, rfl⟩, rfl⟩ := h; rfl
 ·simp only [Bool.and_eq_true, decide_eq_true_eq] at h; rw [eqTs_eq h.1, h.2]
 ·simp only [Bool.and_eq_true, decide_eq_true_eq] at h; obtain ⟨⟨⟨rfl, rfl⟩, rfl⟩, rfl⟩ := h; rfl
 ·rw [of_decide_eq_true h]
 ·simp only [Bool.and_eq_true, decide_eq_true_eq, eqL3] at h; rw [h.1, h.2]
 ·cases h
theorem eqCs_eq : ∀ {x y : List Cell}, eqCs x y = true -> x = y
 | [], [], _ => rfl
 | x :: xs, y :: ys, h => by
  unfold eqCs at h
  simp only [Bool.and_eq_true] at h
  rw [eqC_eq h.1, eqCs_eq h.2]
 | [], _ :: _, h => by cases h
 | _ :: _, [], h => by cases h
theorem eqAV_eq {x y : AV} (h : eqAV x y = true) : x = y := by
 unfold eqAV at h
 split at h
 ·rw [eqC_eq h]
 ·rw [eqCs_eq h]
 ·rfl
 ·cases h
theorem eqAVs_eq : ∀ {x y : List AV}, eqAVs x y = true -> x = y
 | [], [], _ => rfl
 | x :: xs, y :: ys, h => by
  unfold eqAVs at h
  simp only [Bool.and_eq_true] at h
  rw [eqAV_eq h.1, eqAVs_eq h.2]
 | [], _ :: _, h => by cases h
 | _ :: _, [], h => by cases h
theorem eqB_eq {x y : Option Blk} (h : eqB x y = true) : x = y := by
 unfold eqB at h
 split at h
 ·rfl
 ·rw [eqCs_eq h]
 ·simp only [Bool.and_eq_true, decide_eq_true_eq] at h; obtain ⟨⟨⟨rfl, h2⟩, rfl⟩, rfl⟩ := h; rw [eqRR_eq h2]
 ·simp only [Bool.and_eq_true, decide_eq_true_eq] at h; obtain ⟨rfl, h2⟩ := h; rw [eqRR_eq h2]
 ·cases h
theorem eqH_eq : ∀ {x y : Heap}, eqH x y = true -> x = y
 | [], [], _ => rfl
 | x :: xs, y :: ys, h => by
  unfold eqH at h
  simp only [Bool.and_eq_true] at h
  rw [eqB_eq h.1, eqH_eq h.2]
 | [], _ :: _, h => by cases h
 | _ :: _, [], h => by cases h
def eqAsk : Ask -> Ask -> Bool
 | .a x, .a y => eqArgs x y
 | .h ⟨t, m⟩, .h ⟨t', m'⟩ => eqAVs t t' && eqH m m'
 | _, _ => false
theorem eqAsk_eq {x y : Ask} (h : eqAsk x y = true) : x = y := by
 unfold eqAsk at h
 split at h
 ·rw [eqArgs_eq h]
 ·simp only [Bool.and_eq_true] at h; rw [eqAVs_eq h.1, eqH_eq h.2]
 ·cases h
inductive Known (P : Program) : List (FuncId × Ask × Ans) -> Prop where
 | nil : Known P []
 | cons {f : FuncId} {x : Ask} {y : Ans} {l : List (FuncId × Ask × Ans)} (h : Shows P f x y) (t : Known P l) : Known P ((f, x, y) :: l)
def findK : List (FuncId × Ask × Ans) -> FuncId -> Ask -> Option Ans
 | [], _, _ => none
 | (f, x, r) :: l, g, y => match Nat.beq f g with
  | true => match eqAsk x y with
   | true => some r
   | false => findK l g y
  | false => findK l g y
theorem Known.find {P : Program} {l : List (FuncId × Ask × Ans)} (h : Known P l) : ∀ f x y, findK l f x = some y -> Shows P f x y := by
 induction h with
 | nil => intro f x y h; cases h
 | cons h t ih =>
  rename_i f x r l
  intro g y res hr
  unfold findK at hr
  split at hr
  ·rename_i h1
   split at hr
   ·rename_i h2
    cases hr
    obtain rfl := Nat.eq_of_beq_eq_true h1
    obtain rfl := eqAsk_eq h2
    exact h
   ·exact ih _ _ _ hr
  ·exact ih _ _ _ hr
theorem execBody_sound {P : Program} {C : Cfg} {om : FuncId -> List Mode} (hC : CfgOk P C) (hmix : P.follows .mixedOrders = true) {l : List (FuncId × Ask × Ans)} (hl : Known P l) {n : Nat} {f : FuncId} {x : Ask} {y : Ans}
  (h : execAsk P C om (findK l) n f x = some y) : Shows P f x y := execAsk_sound hC hmix hl.find h
end Go.Abs
end
section
namespace Go.Proofs.YtbeakmahabhacaaGreat.Mem
open Go Go.Abs Go.Proofs
def u (n : Int) : List Tree := [.v (.int .u32 n)]
def n64 (n : Int) : Tree := .v (.int .i64 n)
def w64 (n : Int) : Tree := .v (.int .u64 n)
def bT : Tree := .v (.bool true)
def bF : Tree := .v (.bool false)
def lF (l : List (List Tree)) : Tree := .lst false l
def lT (l : List (List Tree)) : Tree := .lst true l
def l1 : Tree := .lst false [u 1]
def o0 : List Tree := [bF, lF [], bF, l1]
def o1 : List Tree := [bF, l1, bF, l1]
def o2 : List Tree := [bT, l1, bF, l1]
def w (n : Int) : List Tree := [bF, lF [u n], bF, l1]
def v (n : Int) : List Tree := [bT, lF [u n], bF, l1]
abbrev AC (f : FuncId) (a : List Arg) (r : List RC) (o : List (Option Blk)) : Prop := Shows Tryz.prog f (.a a) (.a ⟨r, o⟩)
abbrev x (t : Tree) : Arg := .val (.c t)
abbrev y (t : Tree) : RC := .val (.c t)
abbrev g (l : List Tree) : Arg := .val (.agg l)
abbrev h (l : List Tree) : RC := .val (.agg l)
abbrev n1 : List (Option Blk) := [none]
abbrev n2 : List (Option Blk) := [none, none]
abbrev n4 : List (Option Blk) := [none, none, none, none]
section
variable {P : Program} {l : List (FuncId × Abs.Ask × Abs.Ans)} {f1 f2 f3 f4 : FuncId} {a1 a2 a3 a4 : Abs.Ask} {r1 r2 r3 r4 : Abs.Ans}
theorem c1 (h1 : Shows P f1 a1 r1) : Known P [(f1, a1, r1)] := .cons h1 .nil
theorem c2 (h1 : Shows P f1 a1 r1) (h2 : Shows P f2 a2 r2) : Known P [(f1, a1, r1), (f2, a2, r2)] := .cons h1 (c1 h2)
theorem c3 (h1 : Shows P f1 a1 r1) (h2 : Shows P f2 a2 r2) (h3 : Shows P f3 a3 r3) : Known P [(f1, a1, r1), (f2, a2, r2), (f3, a3, r3)] := .cons h1 (c2 h2 h3)
theorem c4 (h1 : Shows P f1 a1 r1) (h2 : Shows P f2 a2 r2) (h3 : Shows P f3 a3 r3) (h4 : Shows P f4 a4 r4) : Known P [(f1, a1, r1), (f2, a2, r2), (f3, a3, r3), (f4, a4, r4)] := .cons h1 (c3 h2 h3 h4)
theorem d4 (h1 : Shows P f1 a1 r1) (h2 : Shows P f2 a2 r2) (h3 : Shows P f3 a3 r3) (h4 : Shows P f4 a4 r4) (t : Known P l) : Known P ((f1, a1, r1) :: (f2, a2, r2) :: (f3, a3, r3) :: (f4, a4, r4) :: l) := .cons h1 (.cons h2 (.cons h3 (.cons h4 t)))
end
noncomputable def om : FuncId -> List Abs.Mode := omOf Tryz.prog [(36, [.own 4])]
theorem ex {l : List (FuncId × Abs.Ask × Abs.Ans)} {f : FuncId} {x : Abs.Ask} {y : Abs.Ans} (hl : Known Tryz.prog l) (h : execAsk Tryz.prog CC om (findK l) 100000 f x = some y) : Shows Tryz.prog f x y := execBody_sound ccOk mixed hl h
theorem k0 : AC 90 [x (lF [u 1, u 0])] [y l1] n1 := ex .nil (by kernel_rfl)
theorem k1 : AC 70 [x (w64 1)] [y l1] n1 := ex (c1 k0) (by kernel_rfl)
theorem k2 : AC 90 [x l1] [y l1] n1 := ex .nil (by kernel_rfl)
theorem k3 : AC 69 [x bF, x l1] [h [bF, l1]] n2 := ex (c1 k2) (by kernel_rfl)
theorem k4 : AC 50 [x (n64 1)] [h [bF, l1]] n1 := ex (c2 k1 k3) (by kernel_rfl)
theorem k5 : AC 22 [x (n64 1)] [h o1] n1 := ex (c1 k4) (by kernel_rfl)
theorem k6 : AC 90 [x (lF [u 0, u 0])] [y (lF [])] n1 := ex .nil (by kernel_rfl)
theorem k7 : AC 70 [x (w64 0)] [y (lF [])] n1 := ex (c1 k6) (by kernel_rfl)
theorem k8 : AC 90 [x (lF [])] [y (lF [])] n1 := ex .nil (by kernel_rfl)
theorem k9 : AC 69 [x bF, x (lF [])] [h [bF, lF []]] n2 := ex (c1 k8) (by kernel_rfl)
theorem k10 : AC 50 [x (n64 0)] [h [bF, lF []]] n1 := ex (c2 k7 k9) (by kernel_rfl)
theorem k11 : AC 22 [x (n64 0)] [h o0] n1 := ex (c2 k10 k4) (by kernel_rfl)
theorem k12 : AC 75 [g [bF, l1]] [y (n64 1)] n1 := ex .nil (by kernel_rfl)
theorem k13 : AC 58 [g o1] [y (n64 1)] n1 := ex (c1 k12) (by kernel_rfl)
theorem k14 : AC 46 [x (lF [o1, o0, o1])] [y (lF [o1, o0, o1])] n1 := ex (c1 k13) (by kernel_rfl)
theorem k15 : AC 32 [x (lF [[.v (.int .i8 1)], [.v (.int .i8 0)], [.v (.int .i8 1)]]), x (n64 20)] [y (lF [o1, o0, o1])] n2 := ex (c3 k5 k11 k14) (by kernel_rfl)
theorem k16 : AC 8 [x (lF [[.v (.int .i8 1)], [.v (.int .i8 0)], [.v (.int .i8 1)]])] [y (lF [o1, o0, o1])] n1 := ex (c1 k15) (by kernel_rfl)
theorem k17 : AC 90 [x (lF [u 2, u 0])] [y (lF [u 2])] n1 := ex .nil (by kernel_rfl)
theorem k18 : AC 70 [x (w64 2)] [y (lF [u 2])] n1 := ex (c1 k17) (by kernel_rfl)
theorem k19 : AC 90 [x (lF [u 2])] [y (lF [u 2])] n1 := ex .nil (by kernel_rfl)
theorem k20 : AC 69 [x bF, x (lF [u 2])] [h [bF, lF [u 2]]] n2 := ex (c1 k19) (by kernel_rfl)
theorem k21 : AC 50 [x (n64 2)] [h [bF, lF [u 2]]] n1 := ex (c2 k18 k20) (by kernel_rfl)
theorem k22 : AC 22 [x (n64 2)] [h (w 2)] n1 := ex (c2 k21 k4) (by kernel_rfl)
theorem k23 : AC 75 [g [bF, lF [u 2]]] [y (n64 1)] n1 := ex .nil (by kernel_rfl)
theorem k24 : AC 58 [g (w 2)] [y (n64 1)] n1 := ex (c1 k23) (by kernel_rfl)
theorem k25 : AC 46 [x (lF [o0, (w 2)])] [y (lF [o0, (w 2)])] n1 := ex (c1 k24) (by kernel_rfl)
theorem k26 : AC 32 [x (lF [[.v (.int .i8 0)], [.v (.int .i8 2)]]), x (n64 20)] [y (lF [o0, (w 2)])] n2 := ex (c3 k11 k22 k25) (by kernel_rfl)
theorem k27 : AC 8 [x (lF [[.v (.int .i8 0)], [.v (.int .i8 2)]])] [y (lF [o0, (w 2)])] n1 := ex (c1 k26) (by kernel_rfl)
theorem k28 : AC 64 [g [bF, lF [u 2]]] [y (n64 1)] n1 := ex .nil (by kernel_rfl)
theorem k29 : AC 41 [g (w 2)] [h [bF, l1, bF, lF [u 2]], y (n64 0)] n1 := ex (c1 k28) (by kernel_rfl)
theorem k30 : AC 91 [x (lF [u 0, u 0])] [y (lF [])] n1 := ex .nil (by kernel_rfl)
theorem k31 : AC 81 [x (w64 0)] [y (lF [])] n1 := ex (c1 k30) (by kernel_rfl)
theorem k32 : AC 91 [x (lF [])] [y (lF [])] n1 := ex .nil (by kernel_rfl)
theorem k33 : AC 80 [x bF, x (lF [])] [h [bF, lT []]] n2 := ex (c1 k32) (by kernel_rfl)
theorem k34 : AC 62 [x (n64 0)] [h [bF, lT []]] n1 := ex (c2 k31 k33) (by kernel_rfl)
theorem k35 : AC 91 [x (lF [u 1, u 0])] [y l1] n1 := ex .nil (by kernel_rfl)
theorem k36 : AC 81 [x (w64 1)] [y l1] n1 := ex (c1 k35) (by kernel_rfl)
theorem k37 : AC 91 [x l1] [y l1] n1 := ex .nil (by kernel_rfl)
theorem k38 : AC 80 [x bF, x l1] [h [bF, l1]] n2 := ex (c1 k37) (by kernel_rfl)
theorem k39 : AC 62 [x (n64 1)] [h [bF, l1]] n1 := ex (c2 k36 k38) (by kernel_rfl)
theorem k40 : AC 61 [g [bF, lT []]] [h [bF, lT [], bF, l1]] n1 := ex (c1 k39) (by kernel_rfl)
theorem k41 : AC 38 [x (n64 0)] [h [bF, lT [], bF, l1]] n1 := ex (c2 k34 k40) (by kernel_rfl)
theorem k42 : AC 36 [x (n64 2)] [.own 4 [[bF, lT [], bF, l1], [bF, lT [], bF, l1]]] n1 := ex (c1 k41) (by kernel_rfl)
theorem k43 : AC 72 [g [bF, lF [u 2]]] [y bF] n1 := ex .nil (by kernel_rfl)
theorem k44 : AC 83 [x l1] [y l1] n1 := ex .nil (by kernel_rfl)
theorem k45 : AC 91 [x (lF [u 2])] [y (lF [u 2])] n1 := ex .nil (by kernel_rfl)
theorem k46 : AC 83 [x (lF [u 2])] [y (lF [u 2])] n1 := ex .nil (by kernel_rfl)
theorem k47 : AC 92 [x l1] [y (w64 1)] n1 := ex .nil (by kernel_rfl)
theorem k48 : AC 92 [x (lF [u 2])] [y (w64 2)] n1 := ex .nil (by kernel_rfl)
theorem k49 : AC 73 [g [bF, l1], g [bF, lF [u 2]]] [h [bF, l1]] n2 := ex (d4 k37 k44 k45 k46 (c4 k47 k48 k36 k38)) (by kernel_rfl)
theorem k50 : AC 72 [g [bF, l1]] [y bT] n1 := ex .nil (by kernel_rfl)
theorem k51 : AC 59 [g [bF, l1], g [bF, lF [u 2]]] [h [bF, l1, bF, lF [u 2]]] n2 := ex (c3 k43 k49 k50) (by kernel_rfl)
theorem k52 : AC 59 [g [bF, l1], g [bF, l1]] [h o1] n2 := ex (c1 k50) (by kernel_rfl)
theorem k53 : AC 60 [x (lF [[bF, l1], [bF, l1]])] [h [bF, l1]] n1 := ex (c2 k39 k50) (by kernel_rfl)
theorem k54 : AC 60 [x (lF [[bF, lF [u 2]], [bF, l1]])] [h [bF, lF [u 2]]] n1 := ex (c3 k39 k43 k50) (by kernel_rfl)
theorem k55 : AC 37 [g o1, g [bF, l1, bF, lF [u 2]]] [h [bF, l1, bF, lF [u 2]]] n2 := ex (c4 k51 k52 k53 k54) (by kernel_rfl)
theorem k56 : AC 80 [x bT, x l1] [h [bT, l1]] n2 := ex (c1 k37) (by kernel_rfl)
theorem k57 : AC 65 [g [bF, l1]] [h [bT, l1]] n1 := ex (c2 k44 k56) (by kernel_rfl)
theorem k58 : AC 42 [g [bF, l1, bF, lF [u 2]]] [h [bT, l1, bF, lF [u 2]]] n1 := ex (c1 k57) (by kernel_rfl)
theorem k59 : AC 64 [g [bT, l1]] [y (n64 (-1))] n1 := ex .nil (by kernel_rfl)
theorem k60 : AC 53 [g [bT, l1, bF, lF [u 2]]] [y (n64 (-1))] n1 := ex (c1 k59) (by kernel_rfl)
theorem k61 : AC 64 [g [bF, lF []]] [y (n64 0)] n1 := ex .nil (by kernel_rfl)
theorem k62 : AC 53 [g o0] [y (n64 0)] n1 := ex (c1 k61) (by kernel_rfl)
theorem k63 : AC 53 [g (w 2)] [y (n64 1)] n1 := ex (c1 k28) (by kernel_rfl)
theorem k64 : AC 59 [g [bT, l1], g [bF, l1]] [h o2] n2 := ex (c1 k50) (by kernel_rfl)
theorem k65 : AC 91 [x (lF [u 2, u 0])] [y (lF [u 2])] n1 := ex .nil (by kernel_rfl)
theorem k66 : AC 81 [x (w64 2)] [y (lF [u 2])] n1 := ex (c1 k65) (by kernel_rfl)
theorem k67 : AC 80 [x bF, x (lF [u 2])] [h [bF, lF [u 2]]] n2 := ex (c1 k45) (by kernel_rfl)
theorem k68 : AC 73 [g [bF, lF [u 2]], g [bF, lF [u 2]]] [h [bF, lF [u 2]]] n2 := ex (d4 k45 k46 k48 k66 (c1 k67)) (by kernel_rfl)
theorem k69 : AC 98 [x (lF [u 2]), x (lF [u 2])] [y (n64 0)] n2 := ex .nil (by kernel_rfl)
theorem k70 : AC 101 [x (lF [u 2]), x (w64 2)] [y l1, y (w64 0)] n2 := ex (c1 k37) (by kernel_rfl)
theorem k71 : AC 93 [x (lF [u 2]), x (lF [u 2])] [y l1, y (lF [])] n2 := ex (c4 k45 k69 k70 k31) (by kernel_rfl)
theorem k72 : AC 78 [g [bF, lF [u 2]], g [bF, lF [u 2]]] [h [bF, l1], h [bF, lT []], y (n64 0)] n2 := ex (c4 k45 k71 k38 k33) (by kernel_rfl)
theorem k73 : AC 59 [g [bF, lF [u 2]], g [bF, lF [u 2]]] [h o1] n2 := ex (c3 k43 k68 k72) (by kernel_rfl)
theorem k74 : AC 72 [g [bT, l1]] [y bF] n1 := ex .nil (by kernel_rfl)
theorem k75 : AC 60 [x (lF [[bT, l1], [bF, l1]])] [h [bT, l1]] n1 := ex (c3 k39 k74 k50) (by kernel_rfl)
theorem k76 : AC 37 [g [bT, l1, bF, lF [u 2]], g (w 2)] [h o2] n2 := ex (c4 k64 k73 k75 k53) (by kernel_rfl)
theorem k77 : AC 98 [x l1, x l1] [y (n64 0)] n2 := ex .nil (by kernel_rfl)
theorem k78 : AC 91 [x (lF [u 0])] [y (lF [])] n1 := ex .nil (by kernel_rfl)
theorem k79 : AC 96 [x l1, x l1] [y (lF [])] n2 := ex (c1 k78) (by kernel_rfl)
theorem k80 : AC 82 [g [bF, l1], g [bT, l1]] [h [bF, lT []]] n2 := ex (c3 k77 k79 k33) (by kernel_rfl)
theorem k81 : AC 59 [g [bF, lT []], g [bF, l1]] [h [bF, lT [], bF, l1]] n2 := ex (c1 k50) (by kernel_rfl)
theorem k82 : AC 63 [g o1, g o2] [h [bF, lT [], bF, l1]] n2 := ex (c4 k53 k75 k80 k81) (by kernel_rfl)
theorem k83 : AC 40 [.bor 4 [o1, o0, o1], g [bT, l1, bF, lF [u 2]], x (lF [o0, (w 2)]), x (n64 1)] [] [some (.rows 4 [o1, o0, [bF, lT [], bF, l1]] false false), none, none, none] := ex (d4 k60 k62 k63 k76 (c1 k82)) (by kernel_rfl)
theorem k84 : AC 83 [x (lF [])] [y (lT [])] n1 := ex .nil (by kernel_rfl)
theorem k85 : AC 92 [x (lT [])] [y (w64 0)] n1 := ex .nil (by kernel_rfl)
theorem k86 : AC 73 [g [bF, lF []], g [bF, lF [u 2]]] [h [bF, lF [u 2]]] n2 := ex (d4 k32 k84 k45 k46 (c4 k85 k48 k66 k67)) (by kernel_rfl)
theorem k87 : AC 98 [x (lF []), x (lF [u 2])] [y (n64 (-1))] n2 := ex .nil (by kernel_rfl)
theorem k88 : AC 93 [x (lF []), x (lF [u 2])] [y (lT []), y (lT [])] n2 := ex (c4 k32 k45 k87 k84) (by kernel_rfl)
theorem k89 : AC 91 [x (lT [])] [y (lT [])] n1 := ex .nil (by kernel_rfl)
theorem k90 : AC 80 [x bF, x (lT [])] [h [bF, lT []]] n2 := ex (c1 k89) (by kernel_rfl)
theorem k91 : AC 78 [g [bF, lF []], g [bF, lF [u 2]]] [h [bF, lT []], h [bF, lT []], y (n64 0)] n2 := ex (c3 k45 k88 k90) (by kernel_rfl)
theorem k92 : AC 59 [g [bF, lF []], g [bF, lF [u 2]]] [h [bF, lT [], bF, l1]] n2 := ex (c4 k43 k86 k91 k72) (by kernel_rfl)
theorem k93 : AC 72 [g [bF, lT []]] [y bF] n1 := ex .nil (by kernel_rfl)
theorem k94 : AC 60 [x (lF [[bF, lT []], [bF, l1]])] [h [bF, lT []]] n1 := ex (c3 k39 k93 k50) (by kernel_rfl)
theorem k95 : AC 37 [g o0, g [bF, l1, bF, lF [u 2]]] [h [bF, lT [], bF, l1]] n2 := ex (c4 k92 k52 k94 k53) (by kernel_rfl)
theorem k96 : AC 83 [x (lT [])] [y (lT [])] n1 := ex .nil (by kernel_rfl)
theorem k97 : AC 80 [x bT, x (lT [])] [h [bF, lT []]] n2 := ex (c1 k89) (by kernel_rfl)
theorem k98 : AC 65 [g [bF, lT []]] [h [bF, lT []]] n1 := ex (c2 k96 k97) (by kernel_rfl)
theorem k99 : AC 42 [g [bF, lT [], bF, l1]] [h [bF, lT [], bF, l1]] n1 := ex (c1 k98) (by kernel_rfl)
theorem k100 : AC 64 [g [bF, lT []]] [y (n64 0)] n1 := ex .nil (by kernel_rfl)
theorem k101 : AC 53 [g [bF, lT [], bF, l1]] [y (n64 0)] n1 := ex (c1 k100) (by kernel_rfl)
theorem k102 : AC 40 [.bor 4 [o1, o0, [bF, lT [], bF, l1]], g [bF, lT [], bF, l1], x (lF [o0, (w 2)]), x (n64 0)] [] [some (.rows 4 [o1, o0, [bF, lT [], bF, l1]] false false), none, none, none] := ex (c1 k101) (by kernel_rfl)
theorem k103 : AC 64 [g [bF, l1]] [y (n64 1)] n1 := ex .nil (by kernel_rfl)
theorem k104 : AC 53 [g [bF, l1, bF, lF [u 2]]] [y (n64 1)] n1 := ex (c1 k103) (by kernel_rfl)
theorem k105 : AC 39 [x (lF [[bF, lT [], bF, l1], [bF, l1, bF, lF [u 2]]])] [y (lF [[bF, lT [], bF, l1], [bF, l1, bF, lF [u 2]]])] n1 := ex (c1 k104) (by kernel_rfl)
theorem k106 : AC 53 [g o1] [y (n64 1)] n1 := ex (c1 k103) (by kernel_rfl)
theorem k107 : AC 39 [x (lF [o1])] [y (lF [o1])] n1 := ex (c1 k106) (by kernel_rfl)
theorem k108 : AC 15 [x (lF [o1, o0, o1]), x (lF [o0, (w 2)])] [y (lF [[bF, lT [], bF, l1], [bF, l1, bF, lF [u 2]]]), y (lF [o1]), y (n64 0)] n2 := ex (d4 k29 k42 k55 k58 (d4 k83 k95 k99 k102 (c2 k105 k107))) (by kernel_rfl)
theorem k109 : AC 46 [x (lF [o1])] [y (lF [o1])] n1 := ex (c1 k13) (by kernel_rfl)
theorem k110 : AC 32 [x (lF [[.v (.int .i8 1)]]), x (n64 20)] [y (lF [o1])] n2 := ex (c2 k5 k109) (by kernel_rfl)
theorem k111 : AC 8 [x (lF [[.v (.int .i8 1)]])] [y (lF [o1])] n1 := ex (c1 k110) (by kernel_rfl)
theorem k112 : AC 15 [x (lF [o1]), x (lT [])] [y (lT []), y (lT []), y (n64 10)] n2 := ex .nil (by kernel_rfl)
theorem k113 : AC 46 [x (lF [o0, o1])] [y (lF [o0, o1])] n1 := ex (c1 k13) (by kernel_rfl)
theorem k114 : AC 32 [x (lF [[.v (.int .i8 0)], [.v (.int .i8 1)]]), x (n64 20)] [y (lF [o0, o1])] n2 := ex (c3 k11 k5 k113) (by kernel_rfl)
theorem k115 : AC 8 [x (lF [[.v (.int .i8 0)], [.v (.int .i8 1)]])] [y (lF [o0, o1])] n1 := ex (c1 k114) (by kernel_rfl)
theorem k116 : AC 46 [x (lF [o1, o1])] [y (lF [o1, o1])] n1 := ex (c1 k13) (by kernel_rfl)
theorem k117 : AC 32 [x (lF [[.v (.int .i8 1)], [.v (.int .i8 1)]]), x (n64 20)] [y (lF [o1, o1])] n2 := ex (c2 k5 k116) (by kernel_rfl)
theorem k118 : AC 8 [x (lF [[.v (.int .i8 1)], [.v (.int .i8 1)]])] [y (lF [o1, o1])] n1 := ex (c1 k117) (by kernel_rfl)
theorem k119 : AC 61 [g [bF, l1]] [h o1] n1 := ex (c1 k39) (by kernel_rfl)
theorem k120 : AC 38 [x (n64 1)] [h o1] n1 := ex (c2 k39 k119) (by kernel_rfl)
theorem k121 : AC 43 [x (n64 1)] [y (lF [o1])] n1 := ex (c2 k120 k107) (by kernel_rfl)
theorem k122 : AC 39 [x (lF [[bF, lT [], bF, l1]])] [y (lF [])] n1 := ex (c1 k101) (by kernel_rfl)
theorem k123 : AC 43 [x (n64 0)] [y (lF [])] n1 := ex (c2 k41 k122) (by kernel_rfl)
theorem k124 : AC 41 [g o1] [h o1, y (n64 0)] n1 := ex (c1 k103) (by kernel_rfl)
open Go Go.Abs Go.Proofs
theorem k125 : AC 36 [x (n64 1)] [.own 4 [[bF, lT [], bF, l1]]] n1 := ex (c1 k41) (by kernel_rfl)
theorem k126 : AC 37 [g o1, g o1] [h o1] n2 := ex (c2 k52 k53) (by kernel_rfl)
theorem k127 : AC 42 [g o1] [h o2] n1 := ex (c1 k57) (by kernel_rfl)
theorem k128 : AC 53 [g o2] [y (n64 (-1))] n1 := ex (c1 k59) (by kernel_rfl)
theorem k129 : AC 37 [g o2, g o1] [h o2] n2 := ex (c4 k64 k52 k75 k53) (by kernel_rfl)
theorem k130 : AC 72 [g [bF, lF []]] [y bF] n1 := ex .nil (by kernel_rfl)
theorem k131 : AC 60 [x (lF [[bF, lF []], [bF, l1]])] [h [bF, lF []]] n1 := ex (c3 k39 k130 k50) (by kernel_rfl)
theorem k132 : AC 98 [x (lF []), x l1] [y (n64 (-1))] n2 := ex .nil (by kernel_rfl)
theorem k133 : AC 96 [x l1, x (lF [])] [y l1] n2 := ex (c1 k37) (by kernel_rfl)
theorem k134 : AC 82 [g [bF, lF []], g [bT, l1]] [h [bT, l1]] n2 := ex (c3 k132 k133 k56) (by kernel_rfl)
theorem k135 : AC 63 [g o0, g o2] [h o2] n2 := ex (d4 k131 k75 k134 k53 (c1 k64)) (by kernel_rfl)
theorem k136 : AC 40 [.bor 4 [o0, o1], g o2, x (lF [o1, o1]), x (n64 0)] [] [some (.rows 4 [o2, [bF, lT [], bF, l1]] false false), none, none, none] := ex (d4 k128 k106 k129 k135 (c1 k82)) (by kernel_rfl)
theorem k137 : AC 39 [x (lF [o2])] [y (lF [o2])] n1 := ex (c1 k128) (by kernel_rfl)
theorem k138 : AC 15 [x (lF [o0, o1]), x (lF [o1, o1])] [y (lF [o1]), y (lF [o2]), y (n64 0)] n2 := ex (d4 k124 k125 k126 k127 (c3 k136 k107 k137)) (by kernel_rfl)
theorem k139 : AC 65 [g [bT, l1]] [h [bF, l1]] n1 := ex (c2 k44 k38) (by kernel_rfl)
theorem k140 : AC 41 [g o2] [h o2, y (n64 0)] n1 := ex (c3 k59 k57 k139) (by kernel_rfl)
theorem k141 : AC 30 [x (lF [o2])] [h o2] n1 := ex (c1 k140) (by kernel_rfl)
theorem k142 : AC 97 [x l1, x l1] [y l1] n2 := ex (c1 k35) (by kernel_rfl)
theorem k143 : AC 79 [g [bT, l1], g [bT, l1]] [h [bF, l1]] n2 := ex (c2 k142 k38) (by kernel_rfl)
theorem k144 : AC 60 [x (lF [[bT, l1], [bT, l1]])] [h [bF, l1]] n1 := ex (c4 k39 k74 k50 k143) (by kernel_rfl)
theorem k145 : AC 37 [g o2, g o2] [h o1] n2 := ex (c3 k64 k144 k53) (by kernel_rfl)
theorem k146 : AC 95 [x (lT []), x l1] [y l1] n2 := ex (c1 k35) (by kernel_rfl)
theorem k147 : AC 82 [g [bF, lT []], g [bF, l1]] [h [bF, l1]] n2 := ex (c2 k146 k38) (by kernel_rfl)
theorem k148 : AC 63 [g [bF, lT [], bF, l1], g o1] [h o1] n2 := ex (c4 k94 k53 k147 k52) (by kernel_rfl)
theorem k149 : AC 40 [.bor 4 [[bF, lT [], bF, l1]], g o2, x (lF [o2]), x (n64 0)] [] [some (.rows 4 [o1] false false), none, none, none] := ex (c3 k128 k145 k148) (by kernel_rfl)
theorem k150 : AC 29 [g o2, x (lF [o2])] [y (lF [o1])] n2 := ex (c3 k125 k149 k107) (by kernel_rfl)
theorem k151 : AC 12 [x (lF [o1]), x (lF [])] [y (lT [])] n2 := ex .nil (by kernel_rfl)
theorem k152 : AC 62 [x (n64 (-1))] [h [bT, l1]] n1 := ex (c2 k36 k56) (by kernel_rfl)
theorem k153 : AC 61 [g [bT, l1]] [h o2] n1 := ex (c1 k39) (by kernel_rfl)
theorem k154 : AC 38 [x (n64 (-1))] [h o2] n1 := ex (c2 k152 k153) (by kernel_rfl)
theorem k155 : AC 40 [.bor 4 [o1], g o2, x (lT []), x (n64 0)] [] [some (.rows 4 [o1] false false), none, none, none] := ex (c1 k128) (by kernel_rfl)
theorem k156 : AC 56 [x (lF [o1]), g o2, x (lT []), x (n64 0)] [y (lF [o1])] n4 := ex (c3 k125 k155 k107) (by kernel_rfl)
theorem k157 : AC 31 [x (lF [o1]), x (lT [])] [y (lF [o1])] n2 := ex (c2 k154 k156) (by kernel_rfl)
theorem k158 : AC 98 [x (lT []), x l1] [y (n64 (-1))] n2 := ex .nil (by kernel_rfl)
theorem k159 : AC 96 [x l1, x (lT [])] [y l1] n2 := ex (c1 k37) (by kernel_rfl)
theorem k160 : AC 82 [g [bF, lT []], g [bT, l1]] [h [bT, l1]] n2 := ex (c3 k158 k159 k56) (by kernel_rfl)
theorem k161 : AC 63 [g [bF, lT [], bF, l1], g o2] [h o2] n2 := ex (d4 k94 k75 k160 k53 (c1 k64)) (by kernel_rfl)
theorem k162 : AC 40 [.bor 4 [[bF, lT [], bF, l1]], g o2, x (lF [o1]), x (n64 0)] [] [some (.rows 4 [o2] false false), none, none, none] := ex (c4 k128 k106 k129 k161) (by kernel_rfl)
theorem k163 : AC 29 [g o2, x (lF [o1])] [y (lF [o2])] n2 := ex (c3 k125 k162 k137) (by kernel_rfl)
theorem k164 : AC 44 [x (lF [o1]), g o2, .ref [lF []], .ref [lF [o1]]] [] [none, none, some (.var [.t (lF [o2])]), some (.var [.t (lF [])])] := ex (c3 k151 k157 k163) (by kernel_rfl)
theorem k165 : AC 40 [.bor 4 [o1, o1], g o2, x (lF [o1]), x (n64 1)] [] [some (.rows 4 [o1, [bF, lT [], bF, l1]] false false), none, none, none] := ex (c4 k128 k106 k129 k82) (by kernel_rfl)
theorem k166 : AC 40 [.bor 4 [o1, [bF, lT [], bF, l1]], g o2, x (lF [o1]), x (n64 0)] [] [some (.rows 4 [[bF, lT [], bF, l1], [bF, lT [], bF, l1]] false false), none, none, none] := ex (c4 k128 k106 k129 k82) (by kernel_rfl)
theorem k167 : AC 39 [x (lF [o1, o1])] [y (lF [o1, o1])] n1 := ex (c1 k106) (by kernel_rfl)
theorem k168 : AC 39 [x (lF [])] [y (lF [])] n1 := ex .nil (by kernel_rfl)
theorem k169 : AC 15 [x (lF [o1, o1]), x (lF [o1])] [y (lF [o1, o1]), y (lF []), y (n64 0)] n2 := ex (d4 k124 k42 k126 k127 (c4 k165 k166 k167 k168)) (by kernel_rfl)
theorem k170 : AC 60 [x (lF [[bF, l1], [bT, l1]])] [h [bT, l1]] n1 := ex (c3 k39 k50 k74) (by kernel_rfl)
theorem k171 : AC 37 [g o1, g o2] [h o2] n2 := ex (c4 k52 k64 k170 k53) (by kernel_rfl)
theorem k172 : AC 40 [.bor 4 [[bF, lT [], bF, l1], [bF, lT [], bF, l1]], g o1, x (lF [o2]), x (n64 0)] [] [some (.rows 4 [o2, [bF, lT [], bF, l1]] false false), none, none, none] := ex (c4 k106 k128 k171 k161) (by kernel_rfl)
theorem k173 : AC 40 [.bor 4 [o2, [bF, lT [], bF, l1]], g o1, x (lF [o2]), x (n64 1)] [] [some (.rows 4 [o2, o2] false false), none, none, none] := ex (c4 k106 k128 k171 k161) (by kernel_rfl)
theorem k174 : AC 39 [x (lF [o2, o2])] [y (lF [o2, o2])] n1 := ex (c1 k128) (by kernel_rfl)
theorem k175 : AC 12 [x (lF [o1, o1]), x (lF [o2])] [y (lF [o2, o2])] n2 := ex (c4 k42 k172 k173 k174) (by kernel_rfl)
theorem k176 : AC 40 [.bor 4 [[bF, lT [], bF, l1], [bF, lT [], bF, l1]], g o2, x (lF [o2, o2]), x (n64 0)] [] [some (.rows 4 [o1, o1] false false), none, none, none] := ex (c3 k128 k145 k148) (by kernel_rfl)
theorem k177 : AC 56 [x (lF []), g o2, x (lF [o2, o2]), x (n64 0)] [y (lF [o1, o1])] n4 := ex (c3 k42 k176 k167) (by kernel_rfl)
theorem k178 : AC 31 [x (lF []), x (lF [o2, o2])] [y (lF [o1, o1])] n2 := ex (c2 k154 k177) (by kernel_rfl)
theorem k179 : AC 40 [.bor 4 [[bF, lT [], bF, l1], [bF, lT [], bF, l1]], g o1, x (lF [o1, o1]), x (n64 0)] [] [some (.rows 4 [o1, o1] false false), none, none, none] := ex (c3 k106 k126 k148) (by kernel_rfl)
theorem k180 : AC 29 [g o1, x (lF [o1, o1])] [y (lF [o1, o1])] n2 := ex (c3 k42 k179 k167) (by kernel_rfl)
theorem k181 : AC 44 [x (lF [o1, o1]), g o1, .ref [lF [o2]], .ref [lF []]] [] [none, none, some (.var [.t (lF [o1, o1])]), some (.var [.t (lF [o2])])] := ex (c3 k175 k178 k180) (by kernel_rfl)
theorem k182 : AC 34 [x (lF [o0, o1]), x (lF [o1, o1]), .clo 44 [(3, (0, 0)), (4, (0, 0))], .gh [lF []], .gh [lF [o1]]] [y (lF [o1])] [none, none, none, some (.var [.t (lF [o1, o1])]), some (.var [.t (lF [o2])])] := ex (d4 k138 k120 k141 k150 (c3 k164 k169 k181)) (by kernel_rfl)
theorem k183 : AC 40 [.bor 4 [[bF, lT [], bF, l1]], g o1, x (lF [o1]), x (n64 0)] [] [some (.rows 4 [o1] false false), none, none, none] := ex (c3 k106 k126 k148) (by kernel_rfl)
theorem k184 : AC 29 [g o1, x (lF [o1])] [y (lF [o1])] n2 := ex (c3 k125 k183 k107) (by kernel_rfl)
theorem k185 : AC 14 [x (lF [o1])] [y (lF [o1])] n1 := ex (c2 k124 k184) (by kernel_rfl)
theorem k186 : AC 40 [.bor 4 [[bF, lT [], bF, l1]], g o1, x (lF [o2]), x (n64 0)] [] [some (.rows 4 [o2] false false), none, none, none] := ex (c4 k106 k128 k171 k161) (by kernel_rfl)
theorem k187 : AC 29 [g o1, x (lF [o2])] [y (lF [o2])] n2 := ex (c3 k125 k186 k137) (by kernel_rfl)
theorem k188 : AC 15 [x (lF [o2]), x (lF [o1, o1])] [y (lT []), y (lF [o2]), y (n64 0)] n2 := ex .nil (by kernel_rfl)
theorem k189 : AC 40 [.bor 4 [[bF, lT [], bF, l1], [bF, lT [], bF, l1]], g o2, x (lF [o0, o1]), x (n64 0)] [] [some (.rows 4 [[bF, lT [], bF, l1], o2] false false), none, none, none] := ex (d4 k128 k62 k106 k129 (c1 k161)) (by kernel_rfl)
theorem k190 : AC 39 [x (lF [[bF, lT [], bF, l1], o2])] [y (lF [[bF, lT [], bF, l1], o2])] n1 := ex (c1 k128) (by kernel_rfl)
theorem k191 : AC 12 [x (lF [o2]), x (lF [o0, o1])] [y (lF [[bF, lT [], bF, l1], o2])] n2 := ex (c3 k42 k189 k190) (by kernel_rfl)
theorem k192 : AC 40 [.bor 4 [o1, [bF, lT [], bF, l1]], g o2, x (lF [[bF, lT [], bF, l1], o2]), x (n64 0)] [] [some (.rows 4 [o1, o1] false false), none, none, none] := ex (c4 k128 k101 k145 k148) (by kernel_rfl)
theorem k193 : AC 56 [x (lF [o1]), g o2, x (lF [[bF, lT [], bF, l1], o2]), x (n64 0)] [y (lF [o1, o1])] n4 := ex (c3 k42 k192 k167) (by kernel_rfl)
theorem k194 : AC 31 [x (lF [o1]), x (lF [[bF, lT [], bF, l1], o2])] [y (lF [o1, o1])] n2 := ex (c2 k154 k193) (by kernel_rfl)
theorem k195 : AC 40 [.bor 4 [o1, o1], g o2, x (lF [o1, o1]), x (n64 0)] [] [some (.rows 4 [[bF, lT [], bF, l1], [bF, lT [], bF, l1]] false false), none, none, none] := ex (c4 k128 k106 k129 k82) (by kernel_rfl)
theorem k196 : AC 15 [x (lF [o1, o1]), x (lF [o1, o1])] [y (lF [o1]), y (lF []), y (n64 0)] n2 := ex (d4 k124 k125 k126 k127 (c3 k195 k107 k122)) (by kernel_rfl)
theorem k197 : AC 16 [x (lF [o0, o1]), x (lF [o1, o1])] [y (lF [o1]), y (lF [o2]), y (lF [o1])] n2 := ex (d4 k121 k123 k182 k185 (d4 k124 k187 k169 k188 (c3 k191 k194 k196))) (by kernel_rfl)
theorem k198 : AC 46 [x (lF [(w 2)])] [y (lF [(w 2)])] n1 := ex (c1 k24) (by kernel_rfl)
theorem k199 : AC 32 [x (lF [[.v (.int .i8 2)]]), x (n64 20)] [y (lF [(w 2)])] n2 := ex (c2 k22 k198) (by kernel_rfl)
theorem k200 : AC 8 [x (lF [[.v (.int .i8 2)]])] [y (lF [(w 2)])] n1 := ex (c1 k199) (by kernel_rfl)
theorem k201 : AC 34 [x (lF [(w 2)]), x (lT []), .clo 44 [(3, (0, 0)), (4, (0, 0))], .gh [lF []], .gh [lF [o1]]] [y (lF [(w 2)])] [none, none, none, some (.var [.t (lF [])]), some (.var [.t (lF [o1])])] := ex .nil (by kernel_rfl)
theorem k202 : AC 37 [g [bF, l1, bF, lF [u 2]], g (w 2)] [h o1] n2 := ex (c3 k52 k73 k53) (by kernel_rfl)
theorem k203 : AC 40 [.bor 4 [[bF, lT [], bF, l1]], g [bF, l1, bF, lF [u 2]], x (lF [(w 2)]), x (n64 0)] [] [some (.rows 4 [o1] false false), none, none, none] := ex (c4 k104 k63 k202 k148) (by kernel_rfl)
theorem k204 : AC 29 [g [bF, l1, bF, lF [u 2]], x (lF [(w 2)])] [y (lF [o1])] n2 := ex (c3 k125 k203 k107) (by kernel_rfl)
theorem k205 : AC 14 [x (lF [(w 2)])] [y (lF [o1])] n1 := ex (c2 k29 k204) (by kernel_rfl)
theorem k206 : AC 60 [x (lF [[bF, l1], [bF, lF [u 2]]])] [h [bF, lF [u 2]]] n1 := ex (c3 k39 k50 k43) (by kernel_rfl)
theorem k207 : AC 37 [g [bF, l1, bF, lF [u 2]], g o1] [h [bF, l1, bF, lF [u 2]]] n2 := ex (c4 k52 k51 k53 k206) (by kernel_rfl)
theorem k208 : AC 97 [x (lT []), x (lF [u 2])] [y (lF [])] n2 := ex (c1 k78) (by kernel_rfl)
theorem k209 : AC 79 [g [bF, lT []], g [bF, lF [u 2]]] [h [bF, lT []]] n2 := ex (c2 k208 k33) (by kernel_rfl)
theorem k210 : AC 60 [x (lF [[bF, lT []], [bF, lF [u 2]]])] [h [bF, lT []]] n1 := ex (d4 k39 k93 k50 k43 (c1 k209)) (by kernel_rfl)
theorem k211 : AC 63 [g [bF, lT [], bF, l1], g [bF, l1, bF, lF [u 2]]] [h [bF, l1, bF, lF [u 2]]] n2 := ex (d4 k210 k53 k147 k206 (c1 k51)) (by kernel_rfl)
theorem k212 : AC 40 [.bor 4 [[bF, lT [], bF, l1]], g [bF, l1, bF, lF [u 2]], x (lF [o1]), x (n64 0)] [] [some (.rows 4 [[bF, l1, bF, lF [u 2]]] false false), none, none, none] := ex (c4 k104 k106 k207 k211) (by kernel_rfl)
theorem k213 : AC 39 [x (lF [[bF, l1, bF, lF [u 2]]])] [y (lF [[bF, l1, bF, lF [u 2]]])] n1 := ex (c1 k104) (by kernel_rfl)
theorem k214 : AC 29 [g [bF, l1, bF, lF [u 2]], x (lF [o1])] [y (lF [[bF, l1, bF, lF [u 2]]])] n2 := ex (c3 k125 k212 k213) (by kernel_rfl)
theorem k215 : AC 16 [x (lF [(w 2)]), x (lT [])] [y (lF [o1]), y (lF [[bF, l1, bF, lF [u 2]]]), y (lT [])] n2 := ex (d4 k121 k123 k201 k205 (c2 k29 k214)) (by kernel_rfl)
theorem k216 : AC 69 [x bT, x (lF [u 2])] [h [bT, lF [u 2]]] n2 := ex (c1 k19) (by kernel_rfl)
theorem k217 : AC 50 [x (n64 (-2))] [h [bT, lF [u 2]]] n1 := ex (c2 k18 k216) (by kernel_rfl)
theorem k218 : AC 22 [x (n64 (-2))] [h (v 2)] n1 := ex (c2 k217 k4) (by kernel_rfl)
theorem k219 : AC 46 [x (lF [o0, o0, (v 2), (w 2)])] [y (lF [o0, o0, (v 2), (w 2)])] n1 := ex (c1 k24) (by kernel_rfl)
theorem k220 : AC 32 [x (lF [[.v (.int .i8 0)], [.v (.int .i8 0)], [.v (.int .i8 (-2))], [.v (.int .i8 2)]]), x (n64 20)] [y (lF [o0, o0, (v 2), (w 2)])] n2 := ex (c4 k11 k218 k22 k219) (by kernel_rfl)
theorem k221 : AC 8 [x (lF [[.v (.int .i8 0)], [.v (.int .i8 0)], [.v (.int .i8 (-2))], [.v (.int .i8 2)]])] [y (lF [o0, o0, (v 2), (w 2)])] n1 := ex (c1 k220) (by kernel_rfl)
theorem k222 : AC 36 [x (n64 3)] [.own 4 [[bF, lT [], bF, l1], [bF, lT [], bF, l1], [bF, lT [], bF, l1]]] n1 := ex (c1 k41) (by kernel_rfl)
theorem k223 : AC 59 [g [bF, lF []], g [bF, l1]] [h o0] n2 := ex (c1 k50) (by kernel_rfl)
theorem k224 : AC 60 [x (lF [[bF, l1], [bF, lF []]])] [h [bF, lF []]] n1 := ex (c3 k39 k50 k130) (by kernel_rfl)
theorem k225 : AC 37 [g o1, g o0] [h o0] n2 := ex (c4 k52 k223 k224 k53) (by kernel_rfl)
theorem k226 : AC 62 [x (n64 2)] [h [bF, lF [u 2]]] n1 := ex (c2 k66 k67) (by kernel_rfl)
theorem k227 : AC 61 [g [bF, lF [u 2]]] [h (w 2)] n1 := ex (c1 k39) (by kernel_rfl)
theorem k228 : AC 38 [x (n64 2)] [h (w 2)] n1 := ex (c2 k226 k227) (by kernel_rfl)
theorem k229 : AC 59 [g [bF, lF [u 2]], g [bF, l1]] [h (w 2)] n2 := ex (c1 k50) (by kernel_rfl)
theorem k230 : AC 59 [g [bT, lF [u 2]], g [bF, l1]] [h (v 2)] n2 := ex (c1 k50) (by kernel_rfl)
theorem k231 : AC 72 [g [bT, lF [u 2]]] [y bF] n1 := ex .nil (by kernel_rfl)
theorem k232 : AC 91 [x (lF [u 4, u 0])] [y (lF [u 4])] n1 := ex .nil (by kernel_rfl)
theorem k233 : AC 97 [x (lF [u 2]), x (lF [u 2])] [y (lF [u 4])] n2 := ex (c1 k232) (by kernel_rfl)
theorem k234 : AC 91 [x (lF [u 4])] [y (lF [u 4])] n1 := ex .nil (by kernel_rfl)
theorem k235 : AC 80 [x bT, x (lF [u 4])] [h [bT, lF [u 4]]] n2 := ex (c1 k234) (by kernel_rfl)
theorem k236 : AC 79 [g [bF, lF [u 2]], g [bT, lF [u 2]]] [h [bT, lF [u 4]]] n2 := ex (c2 k233 k235) (by kernel_rfl)
theorem k237 : AC 60 [x (lF [[bF, lF [u 2]], [bT, lF [u 2]]])] [h [bT, lF [u 4]]] n1 := ex (d4 k39 k43 k50 k231 (c1 k236)) (by kernel_rfl)
theorem k238 : AC 37 [g (w 2), g (v 2)] [h (v 4)] n2 := ex (c4 k229 k230 k237 k53) (by kernel_rfl)
theorem k239 : AC 91 [x (lF [u 3, u 0])] [y (lF [u 3])] n1 := ex .nil (by kernel_rfl)
theorem k240 : AC 81 [x (w64 3)] [y (lF [u 3])] n1 := ex (c1 k239) (by kernel_rfl)
theorem k241 : AC 91 [x (lF [u 3])] [y (lF [u 3])] n1 := ex .nil (by kernel_rfl)
theorem k242 : AC 80 [x bF, x (lF [u 3])] [h [bF, lF [u 3]]] n2 := ex (c1 k241) (by kernel_rfl)
theorem k243 : AC 62 [x (n64 3)] [h [bF, lF [u 3]]] n1 := ex (c2 k240 k242) (by kernel_rfl)
theorem k244 : AC 61 [g [bF, lF [u 3]]] [h (w 3)] n1 := ex (c1 k39) (by kernel_rfl)
theorem k245 : AC 38 [x (n64 3)] [h (w 3)] n1 := ex (c2 k243 k244) (by kernel_rfl)
theorem k246 : AC 59 [g [bF, lF [u 3]], g [bF, l1]] [h (w 3)] n2 := ex (c1 k50) (by kernel_rfl)
theorem k247 : AC 72 [g [bF, lF [u 3]]] [y bF] n1 := ex .nil (by kernel_rfl)
theorem k248 : AC 91 [x (lF [u 6, u 0])] [y (lF [u 6])] n1 := ex .nil (by kernel_rfl)
theorem k249 : AC 97 [x (lF [u 3]), x (lF [u 2])] [y (lF [u 6])] n2 := ex (c1 k248) (by kernel_rfl)
open Go Go.Abs Go.Proofs
theorem k250 : AC 91 [x (lF [u 6])] [y (lF [u 6])] n1 := ex .nil (by kernel_rfl)
theorem k251 : AC 80 [x bF, x (lF [u 6])] [h [bF, lF [u 6]]] n2 := ex (c1 k250) (by kernel_rfl)
theorem k252 : AC 79 [g [bF, lF [u 3]], g [bF, lF [u 2]]] [h [bF, lF [u 6]]] n2 := ex (c2 k249 k251) (by kernel_rfl)
theorem k253 : AC 60 [x (lF [[bF, lF [u 3]], [bF, lF [u 2]]])] [h [bF, lF [u 6]]] n1 := ex (d4 k39 k247 k50 k43 (c1 k252)) (by kernel_rfl)
theorem k254 : AC 37 [g (w 3), g (w 2)] [h (w 6)] n2 := ex (c4 k246 k229 k253 k53) (by kernel_rfl)
theorem k255 : AC 64 [g [bF, lF [u 6]]] [y (n64 1)] n1 := ex .nil (by kernel_rfl)
theorem k256 : AC 53 [g (w 6)] [y (n64 1)] n1 := ex (c1 k255) (by kernel_rfl)
theorem k257 : AC 39 [x (lF [o0, (v 4), (w 6)])] [y (lF [o0, (v 4), (w 6)])] n1 := ex (c1 k256) (by kernel_rfl)
theorem k258 : AC 11 [x (lF [o0, o0, (v 2), (w 2)])] [y (lF [o0, (v 4), (w 6)])] n1 := ex (d4 k222 k120 k225 k228 (c4 k238 k245 k254 k257)) (by kernel_rfl)
theorem k259 : AC 41 [g (w 6)] [h [bF, l1, bF, lF [u 6]], y (n64 0)] n1 := ex (c1 k255) (by kernel_rfl)
theorem k260 : AC 72 [g [bF, lF [u 6]]] [y bF] n1 := ex .nil (by kernel_rfl)
theorem k261 : AC 83 [x (lF [u 6])] [y (lF [u 6])] n1 := ex .nil (by kernel_rfl)
theorem k262 : AC 92 [x (lF [u 6])] [y (w64 6)] n1 := ex .nil (by kernel_rfl)
theorem k263 : AC 73 [g [bF, lF [u 2]], g [bF, lF [u 6]]] [h [bF, lF [u 2]]] n2 := ex (d4 k45 k46 k250 k261 (c4 k48 k262 k66 k67)) (by kernel_rfl)
theorem k264 : AC 98 [x (lF [u 6]), x (lF [u 2])] [y (n64 1)] n2 := ex .nil (by kernel_rfl)
theorem k265 : AC 101 [x (lF [u 6]), x (w64 2)] [y (lF [u 3]), y (w64 0)] n2 := ex (c1 k241) (by kernel_rfl)
theorem k266 : AC 93 [x (lF [u 6]), x (lF [u 2])] [y (lF [u 3]), y (lF [])] n2 := ex (d4 k250 k45 k264 k265 (c1 k31)) (by kernel_rfl)
theorem k267 : AC 78 [g [bF, lF [u 6]], g [bF, lF [u 2]]] [h [bF, lF [u 3]], h [bF, lT []], y (n64 0)] n2 := ex (c4 k45 k266 k242 k33) (by kernel_rfl)
theorem k268 : AC 59 [g [bF, lF [u 2]], g [bF, lF [u 6]]] [h [bF, l1, bF, lF [u 3]]] n2 := ex (d4 k260 k263 k43 k72 (c1 k267)) (by kernel_rfl)
theorem k269 : AC 60 [x (lF [[bF, lF [u 3]], [bF, l1]])] [h [bF, lF [u 3]]] n1 := ex (c3 k39 k247 k50) (by kernel_rfl)
theorem k270 : AC 37 [g (w 2), g [bF, l1, bF, lF [u 6]]] [h [bF, l1, bF, lF [u 3]]] n2 := ex (c4 k268 k52 k53 k269) (by kernel_rfl)
theorem k271 : AC 42 [g [bF, l1, bF, lF [u 3]]] [h [bT, l1, bF, lF [u 3]]] n1 := ex (c1 k57) (by kernel_rfl)
theorem k272 : AC 53 [g [bT, l1, bF, lF [u 3]]] [y (n64 (-1))] n1 := ex (c1 k59) (by kernel_rfl)
theorem k273 : AC 64 [g [bT, lF [u 4]]] [y (n64 (-1))] n1 := ex .nil (by kernel_rfl)
theorem k274 : AC 53 [g (v 4)] [y (n64 (-1))] n1 := ex (c1 k273) (by kernel_rfl)
theorem k275 : AC 83 [x (lF [u 4])] [y (lF [u 4])] n1 := ex .nil (by kernel_rfl)
theorem k276 : AC 83 [x (lF [u 3])] [y (lF [u 3])] n1 := ex .nil (by kernel_rfl)
theorem k277 : AC 92 [x (lF [u 4])] [y (w64 4)] n1 := ex .nil (by kernel_rfl)
theorem k278 : AC 92 [x (lF [u 3])] [y (w64 3)] n1 := ex .nil (by kernel_rfl)
theorem k279 : AC 73 [g [bT, lF [u 4]], g [bF, lF [u 3]]] [h [bF, l1]] n2 := ex (d4 k234 k275 k241 k276 (c4 k277 k278 k36 k38)) (by kernel_rfl)
theorem k280 : AC 59 [g [bT, lF [u 4]], g [bF, lF [u 3]]] [h [bT, lF [u 4], bF, lF [u 3]]] n2 := ex (c3 k247 k279 k50) (by kernel_rfl)
theorem k281 : AC 72 [g [bT, lF [u 4]]] [y bF] n1 := ex .nil (by kernel_rfl)
theorem k282 : AC 97 [x l1, x (lF [u 4])] [y (lF [u 4])] n2 := ex (c1 k232) (by kernel_rfl)
theorem k283 : AC 80 [x bF, x (lF [u 4])] [h [bF, lF [u 4]]] n2 := ex (c1 k234) (by kernel_rfl)
theorem k284 : AC 79 [g [bT, l1], g [bT, lF [u 4]]] [h [bF, lF [u 4]]] n2 := ex (c2 k282 k283) (by kernel_rfl)
theorem k285 : AC 60 [x (lF [[bT, l1], [bT, lF [u 4]]])] [h [bF, lF [u 4]]] n1 := ex (d4 k39 k74 k50 k281 (c1 k284)) (by kernel_rfl)
theorem k286 : AC 60 [x (lF [[bF, l1], [bF, lF [u 3]]])] [h [bF, lF [u 3]]] n1 := ex (c3 k39 k50 k247) (by kernel_rfl)
theorem k287 : AC 37 [g [bT, l1, bF, lF [u 3]], g (v 4)] [h [bF, lF [u 4], bF, lF [u 3]]] n2 := ex (c4 k64 k280 k285 k286) (by kernel_rfl)
theorem k288 : AC 97 [x (lF [u 2]), x (lF [u 3])] [y (lF [u 6])] n2 := ex (c1 k248) (by kernel_rfl)
theorem k289 : AC 80 [x bT, x (lF [u 6])] [h [bT, lF [u 6]]] n2 := ex (c1 k250) (by kernel_rfl)
theorem k290 : AC 79 [g [bT, lF [u 2]], g [bF, lF [u 3]]] [h [bT, lF [u 6]]] n2 := ex (c2 k288 k289) (by kernel_rfl)
theorem k291 : AC 60 [x (lF [[bT, lF [u 2]], [bF, lF [u 3]]])] [h [bT, lF [u 6]]] n1 := ex (d4 k39 k231 k50 k247 (c1 k290)) (by kernel_rfl)
theorem k292 : AC 72 [g [bF, lF [u 4]]] [y bF] n1 := ex .nil (by kernel_rfl)
theorem k293 : AC 60 [x (lF [[bF, lF [u 4]], [bF, l1]])] [h [bF, lF [u 4]]] n1 := ex (c3 k39 k292 k50) (by kernel_rfl)
theorem k294 : AC 98 [x (lF [u 6]), x (lF [u 4])] [y (n64 1)] n2 := ex .nil (by kernel_rfl)
theorem k295 : AC 96 [x (lF [u 6]), x (lF [u 4])] [y (lF [u 2])] n2 := ex (c1 k45) (by kernel_rfl)
theorem k296 : AC 80 [x bT, x (lF [u 2])] [h [bT, lF [u 2]]] n2 := ex (c1 k45) (by kernel_rfl)
theorem k297 : AC 82 [g [bT, lF [u 6]], g [bF, lF [u 4]]] [h [bT, lF [u 2]]] n2 := ex (c3 k294 k295 k296) (by kernel_rfl)
theorem k298 : AC 73 [g [bT, lF [u 2]], g [bF, lF [u 3]]] [h [bF, l1]] n2 := ex (d4 k45 k46 k241 k276 (c4 k48 k278 k36 k38)) (by kernel_rfl)
theorem k299 : AC 59 [g [bT, lF [u 2]], g [bF, lF [u 3]]] [h [bT, lF [u 2], bF, lF [u 3]]] n2 := ex (c3 k247 k298 k50) (by kernel_rfl)
theorem k300 : AC 63 [g (v 2), g [bF, lF [u 4], bF, lF [u 3]]] [h [bT, lF [u 2], bF, lF [u 3]]] n2 := ex (d4 k291 k293 k297 k286 (c1 k299)) (by kernel_rfl)
theorem k301 : AC 73 [g [bF, lF [u 6]], g [bF, lF [u 3]]] [h [bF, lF [u 3]]] n2 := ex (d4 k250 k261 k241 k276 (c4 k262 k278 k240 k242)) (by kernel_rfl)
theorem k302 : AC 98 [x (lF [u 6]), x (lF [u 3])] [y (n64 1)] n2 := ex .nil (by kernel_rfl)
theorem k303 : AC 101 [x (lF [u 6]), x (w64 3)] [y (lF [u 2]), y (w64 0)] n2 := ex (c1 k45) (by kernel_rfl)
theorem k304 : AC 93 [x (lF [u 6]), x (lF [u 3])] [y (lF [u 2]), y (lF [])] n2 := ex (d4 k250 k241 k302 k303 (c1 k31)) (by kernel_rfl)
theorem k305 : AC 78 [g [bF, lF [u 6]], g [bF, lF [u 3]]] [h [bF, lF [u 2]], h [bF, lT []], y (n64 0)] n2 := ex (c4 k241 k304 k67 k33) (by kernel_rfl)
theorem k306 : AC 98 [x (lF [u 3]), x (lF [u 3])] [y (n64 0)] n2 := ex .nil (by kernel_rfl)
theorem k307 : AC 101 [x (lF [u 3]), x (w64 3)] [y l1, y (w64 0)] n2 := ex (c1 k37) (by kernel_rfl)
theorem k308 : AC 93 [x (lF [u 3]), x (lF [u 3])] [y l1, y (lF [])] n2 := ex (c4 k241 k306 k307 k31) (by kernel_rfl)
theorem k309 : AC 78 [g [bF, lF [u 3]], g [bF, lF [u 3]]] [h [bF, l1], h [bF, lT []], y (n64 0)] n2 := ex (c4 k241 k308 k38 k33) (by kernel_rfl)
theorem k310 : AC 59 [g [bF, lF [u 6]], g [bF, lF [u 3]]] [h (w 2)] n2 := ex (c4 k247 k301 k305 k309) (by kernel_rfl)
theorem k311 : AC 97 [x l1, x (lF [u 2])] [y (lF [u 2])] n2 := ex (c1 k65) (by kernel_rfl)
theorem k312 : AC 79 [g [bT, l1], g [bF, lF [u 2]]] [h [bT, lF [u 2]]] n2 := ex (c2 k311 k296) (by kernel_rfl)
theorem k313 : AC 60 [x (lF [[bT, l1], [bF, lF [u 2]]])] [h [bT, lF [u 2]]] n1 := ex (d4 k39 k74 k50 k43 (c1 k312)) (by kernel_rfl)
theorem k314 : AC 37 [g [bT, l1, bF, lF [u 3]], g (w 6)] [h (v 2)] n2 := ex (c4 k64 k310 k313 k53) (by kernel_rfl)
theorem k315 : AC 60 [x (lF [[bT, lF [u 2]], [bF, l1]])] [h [bT, lF [u 2]]] n1 := ex (c3 k39 k231 k50) (by kernel_rfl)
theorem k316 : AC 96 [x (lF [u 2]), x (lF [u 2])] [y (lF [])] n2 := ex (c1 k78) (by kernel_rfl)
theorem k317 : AC 82 [g [bF, lF [u 2]], g [bT, lF [u 2]]] [h [bF, lT []]] n2 := ex (c3 k69 k316 k33) (by kernel_rfl)
theorem k318 : AC 63 [g (w 2), g (v 2)] [h [bF, lT [], bF, l1]] n2 := ex (d4 k54 k315 k317 k53 (c1 k81)) (by kernel_rfl)
theorem k319 : AC 40 [.bor 4 [o0, o0, (v 2), (w 2)], g [bT, l1, bF, lF [u 3]], x (lF [o0, (v 4), (w 6)]), x (n64 1)] [] [some (.rows 4 [o0, o0, [bT, lF [u 2], bF, lF [u 3]], [bF, lT [], bF, l1]] false false), none, none, none] := ex (d4 k272 k62 k274 k287 (c4 k300 k256 k314 k318)) (by kernel_rfl)
theorem k320 : AC 73 [g [bT, lF [u 2]], g [bF, lF [u 6]]] [h [bF, lF [u 2]]] n2 := ex (d4 k45 k46 k250 k261 (c4 k48 k262 k66 k67)) (by kernel_rfl)
theorem k321 : AC 78 [g [bT, lF [u 2]], g [bF, lF [u 2]]] [h [bT, l1], h [bF, lT []], y (n64 0)] n2 := ex (c4 k45 k71 k56 k33) (by kernel_rfl)
theorem k322 : AC 59 [g [bT, lF [u 2]], g [bF, lF [u 6]]] [h [bT, l1, bF, lF [u 3]]] n2 := ex (d4 k260 k320 k43 k321 (c1 k267)) (by kernel_rfl)
theorem k323 : AC 73 [g [bF, l1], g [bF, lF [u 3]]] [h [bF, l1]] n2 := ex (d4 k37 k44 k241 k276 (c4 k47 k278 k36 k38)) (by kernel_rfl)
theorem k324 : AC 59 [g [bF, l1], g [bF, lF [u 3]]] [h [bF, l1, bF, lF [u 3]]] n2 := ex (c3 k247 k323 k50) (by kernel_rfl)
theorem k325 : AC 91 [x (lF [u 9, u 0])] [y (lF [u 9])] n1 := ex .nil (by kernel_rfl)
theorem k326 : AC 97 [x (lF [u 3]), x (lF [u 3])] [y (lF [u 9])] n2 := ex (c1 k325) (by kernel_rfl)
theorem k327 : AC 91 [x (lF [u 9])] [y (lF [u 9])] n1 := ex .nil (by kernel_rfl)
theorem k328 : AC 80 [x bF, x (lF [u 9])] [h [bF, lF [u 9]]] n2 := ex (c1 k327) (by kernel_rfl)
theorem k329 : AC 79 [g [bF, lF [u 3]], g [bF, lF [u 3]]] [h [bF, lF [u 9]]] n2 := ex (c2 k326 k328) (by kernel_rfl)
theorem k330 : AC 60 [x (lF [[bF, lF [u 3]], [bF, lF [u 3]]])] [h [bF, lF [u 9]]] n1 := ex (c4 k39 k247 k50 k329) (by kernel_rfl)
theorem k331 : AC 37 [g [bT, lF [u 2], bF, lF [u 3]], g [bF, l1, bF, lF [u 6]]] [h [bT, l1, bF, lF [u 9]]] n2 := ex (c4 k322 k324 k75 k330) (by kernel_rfl)
theorem k332 : AC 42 [g [bT, l1, bF, lF [u 9]]] [h [bF, l1, bF, lF [u 9]]] n1 := ex (c1 k139) (by kernel_rfl)
theorem k333 : AC 53 [g [bF, l1, bF, lF [u 9]]] [y (n64 1)] n1 := ex (c1 k103) (by kernel_rfl)
theorem k334 : AC 72 [g [bF, lF [u 9]]] [y bF] n1 := ex .nil (by kernel_rfl)
theorem k335 : AC 83 [x (lF [u 9])] [y (lF [u 9])] n1 := ex .nil (by kernel_rfl)
theorem k336 : AC 92 [x (lF [u 9])] [y (w64 9)] n1 := ex .nil (by kernel_rfl)
theorem k337 : AC 73 [g [bT, lF [u 4]], g [bF, lF [u 9]]] [h [bF, l1]] n2 := ex (d4 k234 k275 k327 k335 (c4 k277 k336 k36 k38)) (by kernel_rfl)
theorem k338 : AC 59 [g [bT, lF [u 4]], g [bF, lF [u 9]]] [h [bT, lF [u 4], bF, lF [u 9]]] n2 := ex (c3 k334 k337 k50) (by kernel_rfl)
theorem k339 : AC 60 [x (lF [[bF, l1], [bT, lF [u 4]]])] [h [bT, lF [u 4]]] n1 := ex (c3 k39 k50 k281) (by kernel_rfl)
theorem k340 : AC 60 [x (lF [[bF, l1], [bF, lF [u 9]]])] [h [bF, lF [u 9]]] n1 := ex (c3 k39 k50 k334) (by kernel_rfl)
theorem k341 : AC 37 [g [bF, l1, bF, lF [u 9]], g (v 4)] [h [bT, lF [u 4], bF, lF [u 9]]] n2 := ex (c4 k52 k338 k339 k340) (by kernel_rfl)
theorem k342 : AC 97 [x (lF []), x (lF [u 9])] [y (lF [])] n2 := ex (c1 k78) (by kernel_rfl)
theorem k343 : AC 79 [g [bF, lF []], g [bF, lF [u 9]]] [h [bF, lT []]] n2 := ex (c2 k342 k33) (by kernel_rfl)
theorem k344 : AC 60 [x (lF [[bF, lF []], [bF, lF [u 9]]])] [h [bF, lT []]] n1 := ex (d4 k39 k130 k50 k334 (c1 k343)) (by kernel_rfl)
theorem k345 : AC 60 [x (lF [[bT, lF [u 4]], [bF, l1]])] [h [bT, lF [u 4]]] n1 := ex (c3 k39 k281 k50) (by kernel_rfl)
theorem k346 : AC 98 [x (lT []), x (lF [u 4])] [y (n64 (-1))] n2 := ex .nil (by kernel_rfl)
theorem k347 : AC 96 [x (lF [u 4]), x (lT [])] [y (lF [u 4])] n2 := ex (c1 k234) (by kernel_rfl)
theorem k348 : AC 82 [g [bF, lT []], g [bT, lF [u 4]]] [h [bT, lF [u 4]]] n2 := ex (c3 k346 k347 k235) (by kernel_rfl)
theorem k349 : AC 63 [g o0, g [bT, lF [u 4], bF, lF [u 9]]] [h [bT, lF [u 4], bF, lF [u 9]]] n2 := ex (d4 k344 k345 k348 k340 (c1 k338)) (by kernel_rfl)
theorem k350 : AC 73 [g [bF, lF [u 6]], g [bF, lF [u 9]]] [h [bF, lF [u 3]]] n2 := ex (d4 k250 k261 k327 k335 (c4 k262 k336 k240 k242)) (by kernel_rfl)
theorem k351 : AC 98 [x (lF [u 9]), x (lF [u 3])] [y (n64 1)] n2 := ex .nil (by kernel_rfl)
theorem k352 : AC 101 [x (lF [u 9]), x (w64 3)] [y (lF [u 3]), y (w64 0)] n2 := ex (c1 k241) (by kernel_rfl)
theorem k353 : AC 93 [x (lF [u 9]), x (lF [u 3])] [y (lF [u 3]), y (lF [])] n2 := ex (d4 k327 k241 k351 k352 (c1 k31)) (by kernel_rfl)
theorem k354 : AC 78 [g [bF, lF [u 9]], g [bF, lF [u 3]]] [h [bF, lF [u 3]], h [bF, lT []], y (n64 0)] n2 := ex (c4 k241 k353 k242 k33) (by kernel_rfl)
theorem k355 : AC 59 [g [bF, lF [u 6]], g [bF, lF [u 9]]] [h [bF, lF [u 2], bF, lF [u 3]]] n2 := ex (d4 k334 k350 k247 k305 (c1 k354)) (by kernel_rfl)
theorem k356 : AC 37 [g [bF, l1, bF, lF [u 9]], g (w 6)] [h [bF, lF [u 2], bF, lF [u 3]]] n2 := ex (c4 k52 k355 k206 k286) (by kernel_rfl)
theorem k357 : AC 79 [g [bF, lF [u 2]], g [bF, lF [u 3]]] [h [bF, lF [u 6]]] n2 := ex (c2 k288 k251) (by kernel_rfl)
theorem k358 : AC 60 [x (lF [[bF, lF [u 2]], [bF, lF [u 3]]])] [h [bF, lF [u 6]]] n1 := ex (d4 k39 k43 k50 k247 (c1 k357)) (by kernel_rfl)
theorem k359 : AC 98 [x (lF [u 6]), x (lF [u 6])] [y (n64 0)] n2 := ex .nil (by kernel_rfl)
theorem k360 : AC 96 [x (lF [u 6]), x (lF [u 6])] [y (lF [])] n2 := ex (c1 k78) (by kernel_rfl)
theorem k361 : AC 80 [x bT, x (lF [])] [h [bF, lT []]] n2 := ex (c1 k32) (by kernel_rfl)
theorem k362 : AC 82 [g [bT, lF [u 6]], g [bF, lF [u 6]]] [h [bF, lT []]] n2 := ex (c3 k359 k360 k361) (by kernel_rfl)
theorem k363 : AC 81 [x (w64 9)] [y (lF [u 9])] n1 := ex (c1 k325) (by kernel_rfl)
theorem k364 : AC 73 [g [bF, lT []], g [bF, lF [u 9]]] [h [bF, lF [u 9]]] n2 := ex (d4 k89 k96 k327 k335 (c4 k85 k336 k363 k328)) (by kernel_rfl)
theorem k365 : AC 98 [x (lT []), x (lF [u 9])] [y (n64 (-1))] n2 := ex .nil (by kernel_rfl)
theorem k366 : AC 93 [x (lT []), x (lF [u 9])] [y (lT []), y (lT [])] n2 := ex (c4 k89 k327 k365 k96) (by kernel_rfl)
theorem k367 : AC 78 [g [bF, lT []], g [bF, lF [u 9]]] [h [bF, lT []], h [bF, lT []], y (n64 0)] n2 := ex (c3 k327 k366 k90) (by kernel_rfl)
theorem k368 : AC 98 [x (lF [u 9]), x (lF [u 9])] [y (n64 0)] n2 := ex .nil (by kernel_rfl)
theorem k369 : AC 101 [x (lF [u 9]), x (w64 9)] [y l1, y (w64 0)] n2 := ex (c1 k37) (by kernel_rfl)
theorem k370 : AC 93 [x (lF [u 9]), x (lF [u 9])] [y l1, y (lF [])] n2 := ex (c4 k327 k368 k369 k31) (by kernel_rfl)
theorem k371 : AC 78 [g [bF, lF [u 9]], g [bF, lF [u 9]]] [h [bF, l1], h [bF, lT []], y (n64 0)] n2 := ex (c4 k327 k370 k38 k33) (by kernel_rfl)
theorem k372 : AC 59 [g [bF, lT []], g [bF, lF [u 9]]] [h [bF, lT [], bF, l1]] n2 := ex (c4 k334 k364 k367 k371) (by kernel_rfl)
theorem k373 : AC 63 [g [bT, lF [u 2], bF, lF [u 3]], g [bF, lF [u 2], bF, lF [u 3]]] [h [bF, lT [], bF, l1]] n2 := ex (d4 k291 k358 k362 k330 (c1 k372)) (by kernel_rfl)
theorem k374 : AC 40 [.bor 4 [o0, o0, [bT, lF [u 2], bF, lF [u 3]], [bF, lT [], bF, l1]], g [bF, l1, bF, lF [u 9]], x (lF [o0, (v 4), (w 6)]), x (n64 0)] [] [some (.rows 4 [o0, [bT, lF [u 4], bF, lF [u 9]], [bF, lT [], bF, l1], [bF, lT [], bF, l1]] false false), none, none, none] := ex (d4 k333 k62 k274 k341 (c4 k349 k256 k356 k373)) (by kernel_rfl)
open Go Go.Abs Go.Proofs
theorem k375 : AC 53 [g [bF, l1, bF, lF [u 3]]] [y (n64 1)] n1 := ex (c1 k103) (by kernel_rfl)
theorem k376 : AC 39 [x (lF [[bT, l1, bF, lF [u 9]], [bF, l1, bF, lF [u 3]]])] [y (lF [[bT, l1, bF, lF [u 9]], [bF, l1, bF, lF [u 3]]])] n1 := ex (c1 k375) (by kernel_rfl)
theorem k377 : AC 53 [g [bT, lF [u 4], bF, lF [u 9]]] [y (n64 (-1))] n1 := ex (c1 k273) (by kernel_rfl)
theorem k378 : AC 39 [x (lF [o0, [bT, lF [u 4], bF, lF [u 9]]])] [y (lF [o0, [bT, lF [u 4], bF, lF [u 9]]])] n1 := ex (c1 k377) (by kernel_rfl)
theorem k379 : AC 15 [x (lF [o0, o0, (v 2), (w 2)]), x (lF [o0, (v 4), (w 6)])] [y (lF [[bT, l1, bF, lF [u 9]], [bF, l1, bF, lF [u 3]]]), y (lF [o0, [bT, lF [u 4], bF, lF [u 9]]]), y (n64 0)] n2 := ex (d4 k259 k42 k270 k271 (d4 k319 k331 k332 k374 (c2 k376 k378))) (by kernel_rfl)
theorem k380 : AC 80 [x bT, x (lF [u 9])] [h [bT, lF [u 9]]] n2 := ex (c1 k327) (by kernel_rfl)
theorem k381 : AC 65 [g [bF, lF [u 9]]] [h [bT, lF [u 9]]] n1 := ex (c2 k335 k380) (by kernel_rfl)
theorem k382 : AC 65 [g [bT, lF [u 4]]] [h [bF, lF [u 4]]] n1 := ex (c2 k275 k283) (by kernel_rfl)
theorem k383 : AC 41 [g [bT, lF [u 4], bF, lF [u 9]]] [h [bT, lF [u 9], bF, lF [u 4]], y (n64 0)] n1 := ex (c3 k273 k381 k382) (by kernel_rfl)
theorem k384 : AC 30 [x (lF [o0, [bT, lF [u 4], bF, lF [u 9]]])] [h [bT, lF [u 9], bF, lF [u 4]]] n1 := ex (c1 k383) (by kernel_rfl)
theorem k385 : AC 64 [g [bT, lF [u 9]]] [y (n64 (-1))] n1 := ex .nil (by kernel_rfl)
theorem k386 : AC 53 [g [bT, lF [u 9], bF, lF [u 4]]] [y (n64 (-1))] n1 := ex (c1 k385) (by kernel_rfl)
theorem k387 : AC 73 [g [bT, lF [u 9]], g [bF, lF [u 9]]] [h [bF, lF [u 9]]] n2 := ex (d4 k327 k335 k336 k363 (c1 k328)) (by kernel_rfl)
theorem k388 : AC 78 [g [bT, lF [u 9]], g [bF, lF [u 9]]] [h [bT, l1], h [bF, lT []], y (n64 0)] n2 := ex (c4 k327 k370 k56 k33) (by kernel_rfl)
theorem k389 : AC 59 [g [bT, lF [u 9]], g [bF, lF [u 9]]] [h o2] n2 := ex (c4 k334 k387 k388 k371) (by kernel_rfl)
theorem k390 : AC 81 [x (w64 4)] [y (lF [u 4])] n1 := ex (c1 k232) (by kernel_rfl)
theorem k391 : AC 73 [g [bT, lF [u 4]], g [bF, lF [u 4]]] [h [bF, lF [u 4]]] n2 := ex (d4 k234 k275 k277 k390 (c1 k283)) (by kernel_rfl)
theorem k392 : AC 98 [x (lF [u 4]), x (lF [u 4])] [y (n64 0)] n2 := ex .nil (by kernel_rfl)
theorem k393 : AC 101 [x (lF [u 4]), x (w64 4)] [y l1, y (w64 0)] n2 := ex (c1 k37) (by kernel_rfl)
theorem k394 : AC 93 [x (lF [u 4]), x (lF [u 4])] [y l1, y (lF [])] n2 := ex (c4 k234 k392 k393 k31) (by kernel_rfl)
theorem k395 : AC 78 [g [bT, lF [u 4]], g [bF, lF [u 4]]] [h [bT, l1], h [bF, lT []], y (n64 0)] n2 := ex (c4 k234 k394 k56 k33) (by kernel_rfl)
theorem k396 : AC 78 [g [bF, lF [u 4]], g [bF, lF [u 4]]] [h [bF, l1], h [bF, lT []], y (n64 0)] n2 := ex (c4 k234 k394 k38 k33) (by kernel_rfl)
theorem k397 : AC 59 [g [bT, lF [u 4]], g [bF, lF [u 4]]] [h o2] n2 := ex (c4 k292 k391 k395 k396) (by kernel_rfl)
theorem k398 : AC 37 [g [bT, lF [u 9], bF, lF [u 4]], g [bT, lF [u 4], bF, lF [u 9]]] [h o1] n2 := ex (c4 k389 k397 k144 k53) (by kernel_rfl)
theorem k399 : AC 40 [.bor 4 [[bF, lT [], bF, l1], [bF, lT [], bF, l1]], g [bT, lF [u 9], bF, lF [u 4]], x (lF [o0, [bT, lF [u 4], bF, lF [u 9]]]), x (n64 0)] [] [some (.rows 4 [[bF, lT [], bF, l1], o1] false false), none, none, none] := ex (d4 k386 k62 k377 k398 (c1 k148)) (by kernel_rfl)
theorem k400 : AC 39 [x (lF [[bF, lT [], bF, l1], o1])] [y (lF [[bF, lT [], bF, l1], o1])] n1 := ex (c1 k106) (by kernel_rfl)
theorem k401 : AC 29 [g [bT, lF [u 9], bF, lF [u 4]], x (lF [o0, [bT, lF [u 4], bF, lF [u 9]]])] [y (lF [[bF, lT [], bF, l1], o1])] n2 := ex (c3 k42 k399 k400) (by kernel_rfl)
theorem k402 : AC 35 [x (lF [[bT, l1, bF, lF [u 9]], [bF, l1, bF, lF [u 3]]]), g [bT, lF [u 9], bF, lF [u 4]]] [] n2 := ex .nil (by kernel_rfl)
theorem k403 : AC 59 [g [bF, lF [u 6]], g [bF, l1]] [h (w 6)] n2 := ex (c1 k50) (by kernel_rfl)
theorem k404 : AC 60 [x (lF [[bF, lF [u 6]], [bF, l1]])] [h [bF, lF [u 6]]] n1 := ex (c3 k39 k260 k50) (by kernel_rfl)
theorem k405 : AC 37 [g (w 6), g o1] [h (w 6)] n2 := ex (c4 k403 k52 k404 k53) (by kernel_rfl)
theorem k406 : AC 65 [g [bF, lF [u 6]]] [h [bT, lF [u 6]]] n1 := ex (c2 k261 k289) (by kernel_rfl)
theorem k407 : AC 42 [g (w 6)] [h (v 6)] n1 := ex (c1 k406) (by kernel_rfl)
theorem k408 : AC 64 [g [bT, lF [u 6]]] [y (n64 (-1))] n1 := ex .nil (by kernel_rfl)
theorem k409 : AC 53 [g (v 6)] [y (n64 (-1))] n1 := ex (c1 k408) (by kernel_rfl)
theorem k410 : AC 59 [g [bT, lF [u 6]], g [bF, l1]] [h (v 6)] n2 := ex (c1 k50) (by kernel_rfl)
theorem k411 : AC 72 [g [bT, lF [u 6]]] [y bF] n1 := ex .nil (by kernel_rfl)
theorem k412 : AC 60 [x (lF [[bT, lF [u 6]], [bF, l1]])] [h [bT, lF [u 6]]] n1 := ex (c3 k39 k411 k50) (by kernel_rfl)
theorem k413 : AC 37 [g (v 6), g o1] [h (v 6)] n2 := ex (c4 k410 k52 k412 k53) (by kernel_rfl)
theorem k414 : AC 82 [g [bF, lF [u 6]], g [bT, lF [u 6]]] [h [bF, lT []]] n2 := ex (c3 k359 k360 k33) (by kernel_rfl)
theorem k415 : AC 63 [g (w 6), g (v 6)] [h [bF, lT [], bF, l1]] n2 := ex (d4 k404 k412 k414 k53 (c1 k81)) (by kernel_rfl)
theorem k416 : AC 40 [.bor 4 [o0, (v 4), (w 6)], g (v 6), x (lF [[bF, lT [], bF, l1], o1]), x (n64 1)] [] [some (.rows 4 [o0, (v 4), [bF, lT [], bF, l1]] false false), none, none, none] := ex (d4 k409 k101 k106 k413 (c1 k415)) (by kernel_rfl)
theorem k417 : AC 59 [g [bT, lF [u 4]], g [bF, l1]] [h (v 4)] n2 := ex (c1 k50) (by kernel_rfl)
theorem k418 : AC 37 [g (v 4), g o1] [h (v 4)] n2 := ex (c4 k417 k52 k345 k53) (by kernel_rfl)
theorem k419 : AC 42 [g (v 4)] [h (w 4)] n1 := ex (c1 k382) (by kernel_rfl)
theorem k420 : AC 64 [g [bF, lF [u 4]]] [y (n64 1)] n1 := ex .nil (by kernel_rfl)
theorem k421 : AC 53 [g (w 4)] [y (n64 1)] n1 := ex (c1 k420) (by kernel_rfl)
theorem k422 : AC 59 [g [bF, lF [u 4]], g [bF, l1]] [h (w 4)] n2 := ex (c1 k50) (by kernel_rfl)
theorem k423 : AC 37 [g (w 4), g o1] [h (w 4)] n2 := ex (c4 k422 k52 k293 k53) (by kernel_rfl)
theorem k424 : AC 96 [x (lF [u 4]), x (lF [u 4])] [y (lF [])] n2 := ex (c1 k78) (by kernel_rfl)
theorem k425 : AC 82 [g [bT, lF [u 4]], g [bF, lF [u 4]]] [h [bF, lT []]] n2 := ex (c3 k392 k424 k361) (by kernel_rfl)
theorem k426 : AC 63 [g (v 4), g (w 4)] [h [bF, lT [], bF, l1]] n2 := ex (d4 k345 k293 k425 k53 (c1 k81)) (by kernel_rfl)
theorem k427 : AC 40 [.bor 4 [o0, (v 4), [bF, lT [], bF, l1]], g (w 4), x (lF [[bF, lT [], bF, l1], o1]), x (n64 0)] [] [some (.rows 4 [o0, [bF, lT [], bF, l1], [bF, lT [], bF, l1]] false false), none, none, none] := ex (d4 k421 k101 k106 k423 (c1 k426)) (by kernel_rfl)
theorem k428 : AC 39 [x (lF [(v 4), (w 6)])] [y (lF [(v 4), (w 6)])] n1 := ex (c1 k256) (by kernel_rfl)
theorem k429 : AC 39 [x (lF [o0])] [y (lF [])] n1 := ex (c1 k62) (by kernel_rfl)
theorem k430 : AC 15 [x (lF [o0, (v 4), (w 6)]), x (lF [[bF, lT [], bF, l1], o1])] [y (lF [(v 4), (w 6)]), y (lF []), y (n64 0)] n2 := ex (d4 k124 k42 k405 k407 (d4 k416 k418 k419 k427 (c2 k428 k429))) (by kernel_rfl)
theorem k431 : AC 35 [x (lF [(v 4), (w 6)]), g o1] [] n2 := ex .nil (by kernel_rfl)
theorem k432 : AC 34 [x (lF [o0, o0, (v 2), (w 2)]), x (lF [o0, (v 4), (w 6)]), x (.v (.func (.func 35) #[] #[]))] [y (lF [[bF, lT [], bF, l1], o1])] [none, none, none] := ex (d4 k379 k120 k384 k401 (c3 k402 k430 k431)) (by kernel_rfl)
theorem k433 : AC 40 [.bor 4 [[bF, lT [], bF, l1], [bF, lT [], bF, l1]], g o1, x (lF [[bF, lT [], bF, l1], o1]), x (n64 0)] [] [some (.rows 4 [[bF, lT [], bF, l1], o1] false false), none, none, none] := ex (c4 k106 k101 k126 k148) (by kernel_rfl)
theorem k434 : AC 29 [g o1, x (lF [[bF, lT [], bF, l1], o1])] [y (lF [[bF, lT [], bF, l1], o1])] n2 := ex (c3 k42 k433 k400) (by kernel_rfl)
theorem k435 : AC 14 [x (lF [[bF, lT [], bF, l1], o1])] [y (lF [[bF, lT [], bF, l1], o1])] n1 := ex (c2 k124 k434) (by kernel_rfl)
theorem k436 : AC 10 [x (lF [o0, o0, (v 2), (w 2)]), x (lF [o0, (v 4), (w 6)])] [y (lF [[bF, lT [], bF, l1], o1])] n2 := ex (c2 k432 k435) (by kernel_rfl)
theorem k437 : AC 36 [x (n64 4)] [.own 4 [[bF, lT [], bF, l1], [bF, lT [], bF, l1], [bF, lT [], bF, l1], [bF, lT [], bF, l1]]] n1 := ex (c1 k41) (by kernel_rfl)
theorem k438 : AC 64 [g [bT, lF [u 2]]] [y (n64 (-1))] n1 := ex .nil (by kernel_rfl)
theorem k439 : AC 53 [g (v 2)] [y (n64 (-1))] n1 := ex (c1 k438) (by kernel_rfl)
theorem k440 : AC 73 [g [bT, lF [u 2]], g [bF, lF [u 2]]] [h [bF, lF [u 2]]] n2 := ex (d4 k45 k46 k48 k66 (c1 k67)) (by kernel_rfl)
theorem k441 : AC 59 [g [bT, lF [u 2]], g [bF, lF [u 2]]] [h o2] n2 := ex (c4 k43 k440 k321 k72) (by kernel_rfl)
theorem k442 : AC 37 [g [bF, l1, bF, lF [u 2]], g (v 2)] [h o2] n2 := ex (c4 k52 k441 k170 k53) (by kernel_rfl)
theorem k443 : AC 40 [.bor 4 [[bF, lT [], bF, l1], [bF, lT [], bF, l1], [bF, lT [], bF, l1], [bF, lT [], bF, l1]], g [bF, l1, bF, lF [u 2]], x (lF [o0, o0, (v 2), (w 2)]), x (n64 0)] [] [some (.rows 4 [[bF, lT [], bF, l1], [bF, lT [], bF, l1], o2, o1] false false), none, none, none] := ex (d4 k104 k62 k439 k442 (c4 k161 k63 k202 k148)) (by kernel_rfl)
theorem k444 : AC 39 [x (lF [[bF, lT [], bF, l1], [bF, lT [], bF, l1], o2, o1])] [y (lF [[bF, lT [], bF, l1], [bF, lT [], bF, l1], o2, o1])] n1 := ex (c1 k106) (by kernel_rfl)
theorem k445 : AC 29 [g [bF, l1, bF, lF [u 2]], x (lF [o0, o0, (v 2), (w 2)])] [y (lF [[bF, lT [], bF, l1], [bF, lT [], bF, l1], o2, o1])] n2 := ex (c3 k437 k443 k444) (by kernel_rfl)
theorem k446 : AC 14 [x (lF [o0, o0, (v 2), (w 2)])] [y (lF [[bF, lT [], bF, l1], [bF, lT [], bF, l1], o2, o1])] n1 := ex (c2 k29 k445) (by kernel_rfl)
theorem k447 : AC 40 [.bor 4 [[bF, lT [], bF, l1], [bF, lT [], bF, l1], o2, o1], g o2, x (lF [[bF, lT [], bF, l1], o1]), x (n64 2)] [] [some (.rows 4 [[bF, lT [], bF, l1], [bF, lT [], bF, l1], o2, [bF, lT [], bF, l1]] false false), none, none, none] := ex (d4 k128 k101 k106 k129 (c1 k82)) (by kernel_rfl)
theorem k448 : AC 42 [g o2] [h o1] n1 := ex (c1 k139) (by kernel_rfl)
theorem k449 : AC 82 [g [bT, l1], g [bF, l1]] [h [bF, lT []]] n2 := ex (c3 k77 k79 k361) (by kernel_rfl)
theorem k450 : AC 63 [g o2, g o1] [h [bF, lT [], bF, l1]] n2 := ex (c4 k75 k53 k449 k81) (by kernel_rfl)
theorem k451 : AC 40 [.bor 4 [[bF, lT [], bF, l1], [bF, lT [], bF, l1], o2, [bF, lT [], bF, l1]], g o1, x (lF [[bF, lT [], bF, l1], o1]), x (n64 1)] [] [some (.rows 4 [[bF, lT [], bF, l1], [bF, lT [], bF, l1], [bF, lT [], bF, l1], [bF, lT [], bF, l1]] false false), none, none, none] := ex (c4 k106 k101 k126 k450) (by kernel_rfl)
theorem k452 : AC 37 [g [bF, lT [], bF, l1], g o1] [h [bF, lT [], bF, l1]] n2 := ex (c4 k81 k52 k94 k53) (by kernel_rfl)
theorem k453 : AC 40 [.bor 4 [[bF, lT [], bF, l1], [bF, lT [], bF, l1], [bF, lT [], bF, l1], [bF, lT [], bF, l1]], g [bF, lT [], bF, l1], x (lF [[bF, lT [], bF, l1], o1]), x (n64 0)] [] [some (.rows 4 [[bF, lT [], bF, l1], [bF, lT [], bF, l1], [bF, lT [], bF, l1], [bF, lT [], bF, l1]] false false), none, none, none] := ex (c1 k101) (by kernel_rfl)
theorem k454 : AC 39 [x (lF [[bF, lT [], bF, l1], o2, o1])] [y (lF [[bF, lT [], bF, l1], o2, o1])] n1 := ex (c1 k106) (by kernel_rfl)
theorem k455 : AC 15 [x (lF [[bF, lT [], bF, l1], [bF, lT [], bF, l1], o2, o1]), x (lF [[bF, lT [], bF, l1], o1])] [y (lF [[bF, lT [], bF, l1], o2, o1]), y (lF []), y (n64 0)] n2 := ex (d4 k124 k222 k126 k127 (d4 k447 k129 k448 k451 (d4 k452 k99 k453 k454 (c1 k122)))) (by kernel_rfl)
theorem k456 : AC 28 [x (lF [[bF, lT [], bF, l1], [bF, lT [], bF, l1], o2, o1]), x (lF [[bF, lT [], bF, l1], o1])] [y (lF [[bF, lT [], bF, l1], o2, o1])] n2 := ex (c1 k455) (by kernel_rfl)
theorem k457 : AC 30 [x (lF [o0, o0, (v 2), (w 2)])] [h [bF, l1, bF, lF [u 2]]] n1 := ex (c1 k29) (by kernel_rfl)
theorem k458 : AC 73 [g [bT, lF [u 4]], g [bF, lF [u 2]]] [h [bF, lF [u 2]]] n2 := ex (d4 k234 k275 k45 k46 (c4 k277 k48 k66 k67)) (by kernel_rfl)
theorem k459 : AC 98 [x (lF [u 4]), x (lF [u 2])] [y (n64 1)] n2 := ex .nil (by kernel_rfl)
theorem k460 : AC 101 [x (lF [u 4]), x (w64 2)] [y (lF [u 2]), y (w64 0)] n2 := ex (c1 k45) (by kernel_rfl)
theorem k461 : AC 93 [x (lF [u 4]), x (lF [u 2])] [y (lF [u 2]), y (lF [])] n2 := ex (d4 k234 k45 k459 k460 (c1 k31)) (by kernel_rfl)
theorem k462 : AC 78 [g [bT, lF [u 4]], g [bF, lF [u 2]]] [h [bT, lF [u 2]], h [bF, lT []], y (n64 0)] n2 := ex (c4 k45 k461 k296 k33) (by kernel_rfl)
theorem k463 : AC 59 [g [bT, lF [u 4]], g [bF, lF [u 2]]] [h (v 2)] n2 := ex (c4 k43 k458 k462 k72) (by kernel_rfl)
theorem k464 : AC 60 [x (lF [[bF, l1], [bT, lF [u 2]]])] [h [bT, lF [u 2]]] n1 := ex (c3 k39 k50 k231) (by kernel_rfl)
theorem k465 : AC 37 [g [bF, l1, bF, lF [u 2]], g (v 4)] [h (v 2)] n2 := ex (c4 k52 k463 k464 k53) (by kernel_rfl)
theorem k466 : AC 98 [x (lT []), x (lF [u 2])] [y (n64 (-1))] n2 := ex .nil (by kernel_rfl)
theorem k467 : AC 96 [x (lF [u 2]), x (lT [])] [y (lF [u 2])] n2 := ex (c1 k45) (by kernel_rfl)
theorem k468 : AC 82 [g [bF, lT []], g [bT, lF [u 2]]] [h [bT, lF [u 2]]] n2 := ex (c3 k466 k467 k296) (by kernel_rfl)
theorem k469 : AC 63 [g [bF, lT [], bF, l1], g (v 2)] [h (v 2)] n2 := ex (d4 k94 k315 k468 k53 (c1 k230)) (by kernel_rfl)
theorem k470 : AC 73 [g [bF, lF [u 6]], g [bF, lF [u 2]]] [h [bF, lF [u 2]]] n2 := ex (d4 k250 k261 k45 k46 (c4 k262 k48 k66 k67)) (by kernel_rfl)
theorem k471 : AC 59 [g [bF, lF [u 6]], g [bF, lF [u 2]]] [h (w 3)] n2 := ex (c4 k43 k470 k267 k72) (by kernel_rfl)
theorem k472 : AC 37 [g [bF, l1, bF, lF [u 2]], g (w 6)] [h (w 3)] n2 := ex (c4 k52 k471 k286 k53) (by kernel_rfl)
theorem k473 : AC 95 [x (lT []), x (lF [u 3])] [y (lF [u 3])] n2 := ex (c1 k239) (by kernel_rfl)
theorem k474 : AC 82 [g [bF, lT []], g [bF, lF [u 3]]] [h [bF, lF [u 3]]] n2 := ex (c2 k473 k242) (by kernel_rfl)
theorem k475 : AC 63 [g [bF, lT [], bF, l1], g (w 3)] [h (w 3)] n2 := ex (d4 k94 k269 k474 k53 (c1 k246)) (by kernel_rfl)
theorem k476 : AC 40 [.bor 4 [[bF, lT [], bF, l1], [bF, lT [], bF, l1], [bF, lT [], bF, l1]], g [bF, l1, bF, lF [u 2]], x (lF [o0, (v 4), (w 6)]), x (n64 0)] [] [some (.rows 4 [[bF, lT [], bF, l1], (v 2), (w 3)] false false), none, none, none] := ex (d4 k104 k62 k274 k465 (c4 k469 k256 k472 k475)) (by kernel_rfl)
theorem k477 : AC 64 [g [bF, lF [u 3]]] [y (n64 1)] n1 := ex .nil (by kernel_rfl)
theorem k478 : AC 53 [g (w 3)] [y (n64 1)] n1 := ex (c1 k477) (by kernel_rfl)
theorem k479 : AC 39 [x (lF [[bF, lT [], bF, l1], (v 2), (w 3)])] [y (lF [[bF, lT [], bF, l1], (v 2), (w 3)])] n1 := ex (c1 k478) (by kernel_rfl)
theorem k480 : AC 29 [g [bF, l1, bF, lF [u 2]], x (lF [o0, (v 4), (w 6)])] [y (lF [[bF, lT [], bF, l1], (v 2), (w 3)])] n2 := ex (c3 k222 k476 k479) (by kernel_rfl)
theorem k481 : AC 37 [g (w 3), g o1] [h (w 3)] n2 := ex (c4 k246 k52 k269 k53) (by kernel_rfl)
theorem k482 : AC 80 [x bT, x (lF [u 3])] [h [bT, lF [u 3]]] n2 := ex (c1 k241) (by kernel_rfl)
theorem k483 : AC 65 [g [bF, lF [u 3]]] [h [bT, lF [u 3]]] n1 := ex (c2 k276 k482) (by kernel_rfl)
theorem k484 : AC 42 [g (w 3)] [h (v 3)] n1 := ex (c1 k483) (by kernel_rfl)
theorem k485 : AC 64 [g [bT, lF [u 3]]] [y (n64 (-1))] n1 := ex .nil (by kernel_rfl)
theorem k486 : AC 53 [g (v 3)] [y (n64 (-1))] n1 := ex (c1 k485) (by kernel_rfl)
theorem k487 : AC 59 [g [bT, lF [u 3]], g [bF, l1]] [h (v 3)] n2 := ex (c1 k50) (by kernel_rfl)
theorem k488 : AC 72 [g [bT, lF [u 3]]] [y bF] n1 := ex .nil (by kernel_rfl)
theorem k489 : AC 60 [x (lF [[bT, lF [u 3]], [bF, l1]])] [h [bT, lF [u 3]]] n1 := ex (c3 k39 k488 k50) (by kernel_rfl)
theorem k490 : AC 37 [g (v 3), g o1] [h (v 3)] n2 := ex (c4 k487 k52 k489 k53) (by kernel_rfl)
theorem k491 : AC 96 [x (lF [u 3]), x (lF [u 3])] [y (lF [])] n2 := ex (c1 k78) (by kernel_rfl)
theorem k492 : AC 82 [g [bF, lF [u 3]], g [bT, lF [u 3]]] [h [bF, lT []]] n2 := ex (c3 k306 k491 k33) (by kernel_rfl)
theorem k493 : AC 63 [g (w 3), g (v 3)] [h [bF, lT [], bF, l1]] n2 := ex (d4 k269 k489 k492 k53 (c1 k81)) (by kernel_rfl)
theorem k494 : AC 40 [.bor 4 [[bF, lT [], bF, l1], (v 2), (w 3)], g (v 3), x (lF [[bF, lT [], bF, l1], o1]), x (n64 1)] [] [some (.rows 4 [[bF, lT [], bF, l1], (v 2), [bF, lT [], bF, l1]] false false), none, none, none] := ex (d4 k486 k101 k106 k490 (c1 k493)) (by kernel_rfl)
theorem k495 : AC 37 [g (v 2), g o1] [h (v 2)] n2 := ex (c4 k230 k52 k315 k53) (by kernel_rfl)
theorem k496 : AC 65 [g [bT, lF [u 2]]] [h [bF, lF [u 2]]] n1 := ex (c2 k46 k67) (by kernel_rfl)
theorem k497 : AC 42 [g (v 2)] [h (w 2)] n1 := ex (c1 k496) (by kernel_rfl)
theorem k498 : AC 37 [g (w 2), g o1] [h (w 2)] n2 := ex (c4 k229 k52 k54 k53) (by kernel_rfl)
theorem k499 : AC 82 [g [bT, lF [u 2]], g [bF, lF [u 2]]] [h [bF, lT []]] n2 := ex (c3 k69 k316 k361) (by kernel_rfl)
open Go Go.Abs Go.Proofs
theorem k500 : AC 63 [g (v 2), g (w 2)] [h [bF, lT [], bF, l1]] n2 := ex (d4 k315 k54 k499 k53 (c1 k81)) (by kernel_rfl)
theorem k501 : AC 40 [.bor 4 [[bF, lT [], bF, l1], (v 2), [bF, lT [], bF, l1]], g (w 2), x (lF [[bF, lT [], bF, l1], o1]), x (n64 0)] [] [some (.rows 4 [[bF, lT [], bF, l1], [bF, lT [], bF, l1], [bF, lT [], bF, l1]] false false), none, none, none] := ex (d4 k63 k101 k106 k498 (c1 k500)) (by kernel_rfl)
theorem k502 : AC 39 [x (lF [(v 2), (w 3)])] [y (lF [(v 2), (w 3)])] n1 := ex (c1 k478) (by kernel_rfl)
theorem k503 : AC 15 [x (lF [[bF, lT [], bF, l1], (v 2), (w 3)]), x (lF [[bF, lT [], bF, l1], o1])] [y (lF [(v 2), (w 3)]), y (lF []), y (n64 0)] n2 := ex (d4 k124 k42 k481 k484 (d4 k494 k495 k497 k501 (c2 k502 k122))) (by kernel_rfl)
theorem k504 : AC 28 [x (lF [[bF, lT [], bF, l1], (v 2), (w 3)]), x (lF [[bF, lT [], bF, l1], o1])] [y (lF [(v 2), (w 3)])] n2 := ex (c1 k503) (by kernel_rfl)
theorem k505 : AC 39 [x (lF [o2, (w 2)])] [y (lF [o2, (w 2)])] n1 := ex (c1 k63) (by kernel_rfl)
theorem k506 : AC 11 [x (lF [[bF, lT [], bF, l1], o2, o1])] [y (lF [o2, (w 2)])] n1 := ex (d4 k42 k120 k171 k228 (c2 k498 k505)) (by kernel_rfl)
theorem k507 : AC 98 [x (lF [u 2]), x l1] [y (n64 1)] n2 := ex .nil (by kernel_rfl)
theorem k508 : AC 96 [x (lF [u 2]), x l1] [y l1] n2 := ex (c1 k37) (by kernel_rfl)
theorem k509 : AC 82 [g [bT, lF [u 2]], g [bF, l1]] [h [bT, l1]] n2 := ex (c3 k507 k508 k56) (by kernel_rfl)
theorem k510 : AC 63 [g (v 2), g o1] [h o2] n2 := ex (c4 k315 k53 k509 k64) (by kernel_rfl)
theorem k511 : AC 37 [g o2, g (w 2)] [h (v 2)] n2 := ex (c4 k64 k229 k313 k53) (by kernel_rfl)
theorem k512 : AC 98 [x (lF [u 3]), x (lF [u 2])] [y (n64 1)] n2 := ex .nil (by kernel_rfl)
theorem k513 : AC 96 [x (lF [u 3]), x (lF [u 2])] [y l1] n2 := ex (c1 k37) (by kernel_rfl)
theorem k514 : AC 82 [g [bF, lF [u 3]], g [bT, lF [u 2]]] [h [bF, l1]] n2 := ex (c3 k512 k513 k38) (by kernel_rfl)
theorem k515 : AC 63 [g (w 3), g (v 2)] [h o1] n2 := ex (d4 k269 k315 k514 k53 (c1 k52)) (by kernel_rfl)
theorem k516 : AC 40 [.bor 4 [(v 2), (w 3)], g o2, x (lF [o2, (w 2)]), x (n64 0)] [] [some (.rows 4 [o2, o1] false false), none, none, none] := ex (d4 k128 k145 k510 k63 (c2 k511 k515)) (by kernel_rfl)
theorem k517 : AC 39 [x (lF [o2, o1])] [y (lF [o2, o1])] n1 := ex (c1 k106) (by kernel_rfl)
theorem k518 : AC 56 [x (lF [(v 2), (w 3)]), g o2, x (lF [o2, (w 2)]), x (n64 0)] [y (lF [o2, o1])] n4 := ex (c3 k42 k516 k517) (by kernel_rfl)
theorem k519 : AC 31 [x (lF [(v 2), (w 3)]), x (lF [o2, (w 2)])] [y (lF [o2, o1])] n2 := ex (c2 k154 k518) (by kernel_rfl)
theorem k520 : AC 40 [.bor 4 [[bF, lT [], bF, l1], o2, o1], g o2, x (lF [o2, o1]), x (n64 1)] [] [some (.rows 4 [[bF, lT [], bF, l1], [bF, lT [], bF, l1], [bF, lT [], bF, l1]] false false), none, none, none] := ex (d4 k128 k145 k450 k106 (c2 k129 k82)) (by kernel_rfl)
theorem k521 : AC 40 [.bor 4 [[bF, lT [], bF, l1], [bF, lT [], bF, l1], [bF, lT [], bF, l1]], g [bF, lT [], bF, l1], x (lF [o2, o1]), x (n64 0)] [] [some (.rows 4 [[bF, lT [], bF, l1], [bF, lT [], bF, l1], [bF, lT [], bF, l1]] false false), none, none, none] := ex (c1 k101) (by kernel_rfl)
theorem k522 : AC 15 [x (lF [[bF, lT [], bF, l1], o2, o1]), x (lF [o2, o1])] [y (lF [[bF, lT [], bF, l1], o1]), y (lF []), y (n64 0)] n2 := ex (d4 k124 k42 k126 k127 (d4 k520 k452 k99 k521 (c2 k400 k122))) (by kernel_rfl)
theorem k523 : AC 35 [x (lF [[bF, lT [], bF, l1], o1]), g o1] [] n2 := ex .nil (by kernel_rfl)
theorem k524 : AC 34 [x (lF [[bF, lT [], bF, l1], o2, o1]), x (lF [o2, o1]), x (.v (.func (.func 35) #[] #[]))] [y (lF [o2, o1])] [none, none, none] := ex (c3 k522 k120 k523) (by kernel_rfl)
theorem k525 : AC 40 [.bor 4 [[bF, lT [], bF, l1], [bF, lT [], bF, l1]], g o1, x (lF [o2, o1]), x (n64 0)] [] [some (.rows 4 [o2, o1] false false), none, none, none] := ex (d4 k106 k128 k171 k161 (c2 k126 k148)) (by kernel_rfl)
theorem k526 : AC 29 [g o1, x (lF [o2, o1])] [y (lF [o2, o1])] n2 := ex (c3 k42 k525 k517) (by kernel_rfl)
theorem k527 : AC 14 [x (lF [o2, o1])] [y (lF [o2, o1])] n1 := ex (c2 k124 k526) (by kernel_rfl)
theorem k528 : AC 10 [x (lF [[bF, lT [], bF, l1], o2, o1]), x (lF [o2, o1])] [y (lF [o2, o1])] n2 := ex (c2 k524 k527) (by kernel_rfl)
theorem k529 : AC 28 [x (lF [[bF, lT [], bF, l1], o2, o1]), x (lF [o2, o1])] [y (lF [[bF, lT [], bF, l1], o1])] n2 := ex (c1 k522) (by kernel_rfl)
theorem k530 : AC 40 [.bor 4 [o2, o1], g o2, x (lF [o2, o1]), x (n64 0)] [] [some (.rows 4 [[bF, lT [], bF, l1], [bF, lT [], bF, l1]] false false), none, none, none] := ex (d4 k128 k145 k450 k106 (c2 k129 k82)) (by kernel_rfl)
theorem k531 : AC 15 [x (lF [o2, o1]), x (lF [o2, o1])] [y (lF [o1]), y (lF []), y (n64 0)] n2 := ex (d4 k124 k125 k126 k127 (c3 k530 k107 k122)) (by kernel_rfl)
theorem k532 : AC 28 [x (lF [o2, o1]), x (lF [o2, o1])] [y (lF [o1])] n2 := ex (c1 k531) (by kernel_rfl)
theorem k533 : AC 11 [x (lF [[bF, lT [], bF, l1], o1])] [y (lF [o1])] n1 := ex (c4 k125 k120 k126 k107) (by kernel_rfl)
theorem k534 : AC 40 [.bor 4 [o1], g o2, x (lF [o1]), x (n64 0)] [] [some (.rows 4 [[bF, lT [], bF, l1]] false false), none, none, none] := ex (c4 k128 k106 k129 k82) (by kernel_rfl)
theorem k535 : AC 56 [x (lF [o1]), g o2, x (lF [o1]), x (n64 0)] [y (lF [])] n4 := ex (c3 k125 k534 k122) (by kernel_rfl)
theorem k536 : AC 31 [x (lF [o1]), x (lF [o1])] [y (lF [])] n2 := ex (c2 k154 k535) (by kernel_rfl)
theorem k537 : AC 34 [x (lF [[bF, lT [], bF, l1], o1]), x (lF []), x (.v (.func (.func 35) #[] #[]))] [y (lF [[bF, lT [], bF, l1], o1])] [none, none, none] := ex .nil (by kernel_rfl)
theorem k538 : AC 10 [x (lF [[bF, lT [], bF, l1], o1]), x (lF [])] [y (lF [[bF, lT [], bF, l1], o1])] n2 := ex (c2 k537 k435) (by kernel_rfl)
theorem k539 : AC 40 [.bor 4 [[bF, lT [], bF, l1], o1], g o2, x (lF [[bF, lT [], bF, l1], o1]), x (n64 0)] [] [some (.rows 4 [[bF, lT [], bF, l1], [bF, lT [], bF, l1]] false false), none, none, none] := ex (d4 k128 k101 k106 k129 (c1 k82)) (by kernel_rfl)
theorem k540 : AC 15 [x (lF [[bF, lT [], bF, l1], o1]), x (lF [[bF, lT [], bF, l1], o1])] [y (lF [o1]), y (lF []), y (n64 0)] n2 := ex (d4 k124 k125 k126 k127 (c3 k539 k107 k122)) (by kernel_rfl)
theorem k541 : AC 28 [x (lF [[bF, lT [], bF, l1], o1]), x (lF [[bF, lT [], bF, l1], o1])] [y (lF [o1])] n2 := ex (c1 k540) (by kernel_rfl)
theorem k542 : AC 15 [x (lF []), x (lF [[bF, lT [], bF, l1], o1])] [y (lT []), y (lF []), y (n64 0)] n2 := ex .nil (by kernel_rfl)
theorem k543 : AC 28 [x (lF []), x (lF [[bF, lT [], bF, l1], o1])] [y (lT [])] n2 := ex (c1 k542) (by kernel_rfl)
theorem k544 : AC 7 [x (lF [o0, o0, (v 2), (w 2)])] [y (lF [[lF [o2, o1], n64 1], [lF [[bF, lT [], bF, l1], o1], n64 2]])] n1 := ex (d4 k258 k436 k446 k456 (d4 k457 k480 k504 k506 (d4 k519 k528 k529 k532 (d4 k533 k536 k538 k541 (c1 k543))))) (by kernel_rfl)
theorem k545 : AC 90 [x (lF [u 0, u 1073741824])] [y (lF [u 0, u 1073741824])] n1 := ex .nil (by kernel_rfl)
theorem k546 : AC 70 [x (w64 4611686018427387904)] [y (lF [u 0, u 1073741824])] n1 := ex (c1 k545) (by kernel_rfl)
theorem k547 : AC 69 [x bF, x (lF [u 0, u 1073741824])] [h [bF, lF [u 0, u 1073741824]]] n2 := ex (c1 k545) (by kernel_rfl)
theorem k548 : AC 50 [x (n64 4611686018427387904)] [h [bF, lF [u 0, u 1073741824]]] n1 := ex (c2 k546 k547) (by kernel_rfl)
theorem k549 : AC 100 [x l1, x (n64 1)] [y (w64 0)] n2 := ex .nil (by kernel_rfl)
theorem k550 : AC 100 [x l1, x (n64 0)] [y (w64 1)] n2 := ex .nil (by kernel_rfl)
theorem k551 : AC 107 [x l1] [y (w64 1)] n1 := ex (c2 k549 k550) (by kernel_rfl)
theorem k552 : AC 100 [x (lF [u 2]), x (n64 1)] [y (w64 0)] n2 := ex .nil (by kernel_rfl)
theorem k553 : AC 100 [x (lF [u 2]), x (n64 0)] [y (w64 2)] n2 := ex .nil (by kernel_rfl)
theorem k554 : AC 107 [x (lF [u 2])] [y (w64 2)] n1 := ex (c2 k552 k553) (by kernel_rfl)
theorem k555 : AC 106 [x (w64 1), x (w64 2)] [y (w64 1)] n2 := ex .nil (by kernel_rfl)
theorem k556 : AC 94 [x l1, x (lF [u 2])] [y l1] n2 := ex (c4 k551 k554 k555 k1) (by kernel_rfl)
theorem k557 : AC 77 [g [bF, l1], g [bF, lF [u 2]]] [h [bF, l1]] n2 := ex (c2 k556 k3) (by kernel_rfl)
theorem k558 : AC 88 [x l1, x l1] [y (n64 0)] n2 := ex .nil (by kernel_rfl)
theorem k559 : AC 110 [x l1, x (w64 1)] [y l1, y (w64 0)] n2 := ex (c1 k2) (by kernel_rfl)
theorem k560 : AC 108 [x l1, x l1] [y l1, y (lF [])] n2 := ex (c3 k558 k559 k7) (by kernel_rfl)
theorem k561 : AC 99 [g [bF, l1], g [bF, l1]] [h [bF, l1], h [bF, lF []], y (n64 0)] n2 := ex (c3 k560 k3 k9) (by kernel_rfl)
theorem k562 : AC 85 [g [bF, l1], g [bF, l1]] [h [bF, l1]] n2 := ex (c1 k561) (by kernel_rfl)
theorem k563 : AC 88 [x (lF [u 2]), x l1] [y (n64 1)] n2 := ex .nil (by kernel_rfl)
theorem k564 : AC 110 [x (lF [u 2]), x (w64 1)] [y (lF [u 2]), y (w64 0)] n2 := ex (c1 k19) (by kernel_rfl)
theorem k565 : AC 108 [x (lF [u 2]), x l1] [y (lF [u 2]), y (lF [])] n2 := ex (c3 k563 k564 k7) (by kernel_rfl)
theorem k566 : AC 99 [g [bF, lF [u 2]], g [bF, l1]] [h [bF, lF [u 2]], h [bF, lF []], y (n64 0)] n2 := ex (c3 k565 k20 k9) (by kernel_rfl)
theorem k567 : AC 85 [g [bF, lF [u 2]], g [bF, l1]] [h [bF, lF [u 2]]] n2 := ex (c1 k566) (by kernel_rfl)
theorem k568 : AC 66 [g [bF, l1], g [bF, lF [u 2]]] [h [bF, l1, bF, lF [u 2]]] n2 := ex (c4 k557 k23 k562 k567) (by kernel_rfl)
theorem k569 : AC 47 [g [.v (.int .i8 1), .v (.int .i8 2), .v (.int .u8 0)]] [h [bF, l1, bF, lF [u 2]]] n1 := ex (c4 k4 k21 k548 k568) (by kernel_rfl)
theorem k570 : AC 18 [] [h [bF, l1, bF, lF [u 2]]] [] := ex (c1 k569) (by kernel_rfl)
theorem k571 : AC 90 [x (lF [u 0])] [y (lF [])] n1 := ex .nil (by kernel_rfl)
theorem k572 : AC 86 [x l1, x (lF [])] [y (lF [])] n2 := ex (c1 k571) (by kernel_rfl)
theorem k573 : AC 67 [g [bF, l1], g [bF, lF []]] [h [bF, lF []]] n2 := ex (c2 k572 k9) (by kernel_rfl)
theorem k574 : AC 86 [x (lF [u 2]), x l1] [y (lF [u 2])] n2 := ex (c1 k17) (by kernel_rfl)
theorem k575 : AC 67 [g [bF, lF [u 2]], g [bF, l1]] [h [bF, lF [u 2]]] n2 := ex (c2 k574 k20) (by kernel_rfl)
theorem k576 : AC 100 [x (lF []), x (n64 1)] [y (w64 0)] n2 := ex .nil (by kernel_rfl)
theorem k577 : AC 100 [x (lF []), x (n64 0)] [y (w64 0)] n2 := ex .nil (by kernel_rfl)
theorem k578 : AC 107 [x (lF [])] [y (w64 0)] n1 := ex (c2 k576 k577) (by kernel_rfl)
theorem k579 : AC 106 [x (w64 0), x (w64 2)] [y (w64 2)] n2 := ex .nil (by kernel_rfl)
theorem k580 : AC 94 [x (lF []), x (lF [u 2])] [y (lF [u 2])] n2 := ex (c4 k578 k554 k579 k18) (by kernel_rfl)
theorem k581 : AC 77 [g [bF, lF []], g [bF, lF [u 2]]] [h [bF, lF [u 2]]] n2 := ex (c2 k580 k20) (by kernel_rfl)
theorem k582 : AC 88 [x (lF []), x (lF [u 2])] [y (n64 (-1))] n2 := ex .nil (by kernel_rfl)
theorem k583 : AC 108 [x (lF []), x (lF [u 2])] [y (lT []), y (lF [])] n2 := ex (c1 k582) (by kernel_rfl)
theorem k584 : AC 90 [x (lT [])] [y (lT [])] n1 := ex .nil (by kernel_rfl)
theorem k585 : AC 69 [x bF, x (lT [])] [h [bF, lT []]] n2 := ex (c1 k584) (by kernel_rfl)
theorem k586 : AC 99 [g [bF, lF []], g [bF, lF [u 2]]] [h [bF, lT []], h [bF, lF []], y (n64 0)] n2 := ex (c3 k583 k585 k9) (by kernel_rfl)
theorem k587 : AC 85 [g [bF, lF []], g [bF, lF [u 2]]] [h [bF, lT []]] n2 := ex (c1 k586) (by kernel_rfl)
theorem k588 : AC 88 [x (lF [u 2]), x (lF [u 2])] [y (n64 0)] n2 := ex .nil (by kernel_rfl)
theorem k589 : AC 110 [x (lF [u 2]), x (w64 2)] [y l1, y (w64 0)] n2 := ex (c1 k2) (by kernel_rfl)
theorem k590 : AC 108 [x (lF [u 2]), x (lF [u 2])] [y l1, y (lF [])] n2 := ex (c3 k588 k589 k7) (by kernel_rfl)
theorem k591 : AC 99 [g [bF, lF [u 2]], g [bF, lF [u 2]]] [h [bF, l1], h [bF, lF []], y (n64 0)] n2 := ex (c3 k590 k3 k9) (by kernel_rfl)
theorem k592 : AC 85 [g [bF, lF [u 2]], g [bF, lF [u 2]]] [h [bF, l1]] n2 := ex (c1 k591) (by kernel_rfl)
theorem k593 : AC 66 [g [bF, lF []], g [bF, lF [u 2]]] [h [bF, lT [], bF, l1]] n2 := ex (c4 k581 k23 k587 k592) (by kernel_rfl)
theorem k594 : AC 45 [g [bF, l1, bF, lF [u 2]], g o0] [h [bF, lT [], bF, l1]] n2 := ex (c3 k573 k575 k593) (by kernel_rfl)
theorem k595 : AC 86 [x l1, x l1] [y l1] n2 := ex (c1 k0) (by kernel_rfl)
theorem k596 : AC 67 [g [bF, l1], g [bF, l1]] [h [bF, l1]] n2 := ex (c2 k595 k3) (by kernel_rfl)
theorem k597 : AC 45 [g [bF, l1, bF, lF [u 2]], g o1] [h [bF, l1, bF, lF [u 2]]] n2 := ex (c3 k596 k575 k568) (by kernel_rfl)
theorem k598 : AC 58 [g [bF, l1, bF, lF [u 2]]] [y (n64 1)] n1 := ex (c1 k12) (by kernel_rfl)
theorem k599 : AC 46 [x (lF [[bF, lT [], bF, l1], [bF, l1, bF, lF [u 2]]])] [y (lF [[bF, lT [], bF, l1], [bF, l1, bF, lF [u 2]]])] n1 := ex (c1 k598) (by kernel_rfl)
theorem k600 : AC 17 [g [bF, l1, bF, lF [u 2]], x (lF [o0, o1])] [y (lF [[bF, lT [], bF, l1], [bF, l1, bF, lF [u 2]]])] n2 := ex (c3 k594 k597 k599) (by kernel_rfl)
theorem k601 : AC 48 [g [bF, lT []], g [bF, lT []]] [y bT] n2 := ex .nil (by kernel_rfl)
theorem k602 : AC 48 [g [bF, l1], g [bF, l1]] [y bT] n2 := ex .nil (by kernel_rfl)
theorem k603 : AC 20 [g [bF, lT [], bF, l1], g [bF, lT [], bF, l1]] [y bT] n2 := ex (c2 k601 k602) (by kernel_rfl)
theorem k604 : AC 48 [g [bF, lF [u 2]], g [bF, lF [u 2]]] [y bT] n2 := ex .nil (by kernel_rfl)
theorem k605 : AC 20 [g [bF, l1, bF, lF [u 2]], g [bF, l1, bF, lF [u 2]]] [y bT] n2 := ex (c2 k602 k604) (by kernel_rfl)
theorem k606 : AC 13 [x (lF [[bF, lT [], bF, l1], [bF, l1, bF, lF [u 2]]]), x (lF [[bF, lT [], bF, l1], [bF, l1, bF, lF [u 2]]])] [y bT] n2 := ex (c2 k603 k605) (by kernel_rfl)
theorem k607 : AC 20 [g o1, g o1] [y bT] n2 := ex (c1 k602) (by kernel_rfl)
theorem k608 : AC 13 [x (lF [o1]), x (lF [o1])] [y bT] n2 := ex (c1 k607) (by kernel_rfl)
theorem k609 : AC 69 [x bT, x l1] [h [bT, l1]] n2 := ex (c1 k2) (by kernel_rfl)
theorem k610 : AC 50 [x (n64 (-1))] [h [bT, l1]] n1 := ex (c2 k1 k609) (by kernel_rfl)
theorem k611 : AC 22 [x (n64 (-1))] [h o2] n1 := ex (c2 k610 k4) (by kernel_rfl)
theorem k612 : AC 46 [x (lF [o2, o0, o1])] [y (lF [o2, o0, o1])] n1 := ex (c1 k13) (by kernel_rfl)
theorem k613 : AC 32 [x (lF [[.v (.int .i8 (-1))], [.v (.int .i8 0)], [.v (.int .i8 1)]]), x (n64 20)] [y (lF [o2, o0, o1])] n2 := ex (c4 k611 k11 k5 k612) (by kernel_rfl)
theorem k614 : AC 8 [x (lF [[.v (.int .i8 (-1))], [.v (.int .i8 0)], [.v (.int .i8 1)]])] [y (lF [o2, o0, o1])] n1 := ex (c1 k613) (by kernel_rfl)
theorem k615 : AC 46 [x (lF [(v 2), (w 2)])] [y (lF [(v 2), (w 2)])] n1 := ex (c1 k24) (by kernel_rfl)
theorem k616 : AC 32 [x (lF [[.v (.int .i8 (-2))], [.v (.int .i8 2)]]), x (n64 20)] [y (lF [(v 2), (w 2)])] n2 := ex (c3 k218 k22 k615) (by kernel_rfl)
theorem k617 : AC 8 [x (lF [[.v (.int .i8 (-2))], [.v (.int .i8 2)]])] [y (lF [(v 2), (w 2)])] n1 := ex (c1 k616) (by kernel_rfl)
theorem k618 : AC 37 [g [bT, l1, bF, lF [u 2]], g (v 2)] [h o1] n2 := ex (c4 k64 k441 k144 k53) (by kernel_rfl)
theorem k619 : AC 95 [x (lF []), x l1] [y l1] n2 := ex (c1 k35) (by kernel_rfl)
theorem k620 : AC 82 [g [bF, lF []], g [bF, l1]] [h [bF, l1]] n2 := ex (c2 k619 k38) (by kernel_rfl)
theorem k621 : AC 63 [g o0, g o1] [h o1] n2 := ex (c4 k131 k53 k620 k52) (by kernel_rfl)
theorem k622 : AC 40 [.bor 4 [o2, o0, o1], g [bT, l1, bF, lF [u 2]], x (lF [(v 2), (w 2)]), x (n64 1)] [] [some (.rows 4 [o2, o1, [bF, lT [], bF, l1]] false false), none, none, none] := ex (d4 k60 k439 k618 k621 (c3 k63 k76 k82)) (by kernel_rfl)
theorem k623 : AC 40 [.bor 4 [o2, o1, [bF, lT [], bF, l1]], g [bT, l1, bF, lF [u 2]], x (lF [(v 2), (w 2)]), x (n64 0)] [] [some (.rows 4 [[bF, lT [], bF, l1], [bF, lT [], bF, l1], [bF, lT [], bF, l1]] false false), none, none, none] := ex (d4 k60 k439 k618 k450 (c3 k63 k76 k82)) (by kernel_rfl)
theorem k624 : AC 39 [x (lF [[bF, l1, bF, lF [u 2]], [bF, l1, bF, lF [u 2]]])] [y (lF [[bF, l1, bF, lF [u 2]], [bF, l1, bF, lF [u 2]]])] n1 := ex (c1 k104) (by kernel_rfl)
open Go Go.Abs Go.Proofs
theorem k625 : AC 15 [x (lF [o2, o0, o1]), x (lF [(v 2), (w 2)])] [y (lF [[bF, l1, bF, lF [u 2]], [bF, l1, bF, lF [u 2]]]), y (lF []), y (n64 0)] n2 := ex (d4 k29 k42 k55 k58 (c4 k622 k623 k624 k122)) (by kernel_rfl)
theorem k626 : AC 35 [x (lF [[bF, l1, bF, lF [u 2]], [bF, l1, bF, lF [u 2]]]), g o1] [] n2 := ex .nil (by kernel_rfl)
theorem k627 : AC 34 [x (lF [o2, o0, o1]), x (lF [(v 2), (w 2)]), x (.v (.func (.func 35) #[] #[]))] [y (lF [(v 2), (w 2)])] [none, none, none] := ex (c3 k625 k120 k626) (by kernel_rfl)
theorem k628 : AC 40 [.bor 4 [[bF, lT [], bF, l1], [bF, lT [], bF, l1]], g [bF, l1, bF, lF [u 2]], x (lF [(v 2), (w 2)]), x (n64 0)] [] [some (.rows 4 [o2, o1] false false), none, none, none] := ex (d4 k104 k439 k442 k161 (c3 k63 k202 k148)) (by kernel_rfl)
theorem k629 : AC 29 [g [bF, l1, bF, lF [u 2]], x (lF [(v 2), (w 2)])] [y (lF [o2, o1])] n2 := ex (c3 k42 k628 k517) (by kernel_rfl)
theorem k630 : AC 14 [x (lF [(v 2), (w 2)])] [y (lF [o2, o1])] n1 := ex (c2 k29 k629) (by kernel_rfl)
theorem k631 : AC 10 [x (lF [o2, o0, o1]), x (lF [(v 2), (w 2)])] [y (lF [o2, o1])] n2 := ex (c2 k627 k630) (by kernel_rfl)
theorem k632 : AC 46 [x (lF [o2, o1])] [y (lF [o2, o1])] n1 := ex (c1 k13) (by kernel_rfl)
theorem k633 : AC 32 [x (lF [[.v (.int .i8 (-1))], [.v (.int .i8 1)]]), x (n64 20)] [y (lF [o2, o1])] n2 := ex (c3 k611 k5 k632) (by kernel_rfl)
theorem k634 : AC 8 [x (lF [[.v (.int .i8 (-1))], [.v (.int .i8 1)]])] [y (lF [o2, o1])] n1 := ex (c1 k633) (by kernel_rfl)
theorem k635 : AC 48 [g [bT, l1], g [bT, l1]] [y bT] n2 := ex .nil (by kernel_rfl)
theorem k636 : AC 20 [g o2, g o2] [y bT] n2 := ex (c2 k635 k602) (by kernel_rfl)
theorem k637 : AC 13 [x (lF [o2, o1]), x (lF [o2, o1])] [y bT] n2 := ex (c2 k636 k607) (by kernel_rfl)
theorem k638 : AC 34 [x (lT []), x (lT []), x (.v (.func (.func 35) #[] #[]))] [y (lT [])] [none, none, none] := ex .nil (by kernel_rfl)
theorem k639 : AC 14 [x (lT [])] [y (lT [])] n1 := ex .nil (by kernel_rfl)
theorem k640 : AC 10 [x (lT []), x (lT [])] [y (lT [])] n2 := ex (c2 k638 k639) (by kernel_rfl)
theorem k641 : AC 90 [x (lF [u 3, u 0])] [y (lF [u 3])] n1 := ex .nil (by kernel_rfl)
theorem k642 : AC 70 [x (w64 3)] [y (lF [u 3])] n1 := ex (c1 k641) (by kernel_rfl)
theorem k643 : AC 90 [x (lF [u 3])] [y (lF [u 3])] n1 := ex .nil (by kernel_rfl)
theorem k644 : AC 69 [x bF, x (lF [u 3])] [h [bF, lF [u 3]]] n2 := ex (c1 k643) (by kernel_rfl)
theorem k645 : AC 50 [x (n64 3)] [h [bF, lF [u 3]]] n1 := ex (c2 k642 k644) (by kernel_rfl)
theorem k646 : AC 22 [x (n64 3)] [h (w 3)] n1 := ex (c2 k645 k4) (by kernel_rfl)
theorem k647 : AC 75 [g [bF, lF [u 3]]] [y (n64 1)] n1 := ex .nil (by kernel_rfl)
theorem k648 : AC 58 [g (w 3)] [y (n64 1)] n1 := ex (c1 k647) (by kernel_rfl)
theorem k649 : AC 46 [x (lF [(w 3)])] [y (lF [(w 3)])] n1 := ex (c1 k648) (by kernel_rfl)
theorem k650 : AC 32 [x (lF [[.v (.int .i8 3)]]), x (n64 20)] [y (lF [(w 3)])] n2 := ex (c2 k646 k649) (by kernel_rfl)
theorem k651 : AC 8 [x (lF [[.v (.int .i8 3)]])] [y (lF [(w 3)])] n1 := ex (c1 k650) (by kernel_rfl)
theorem k652 : AC 34 [x (lF [(w 3)]), x (lT []), x (.v (.func (.func 35) #[] #[]))] [y (lF [(w 3)])] [none, none, none] := ex .nil (by kernel_rfl)
theorem k653 : AC 41 [g (w 3)] [h [bF, l1, bF, lF [u 3]], y (n64 0)] n1 := ex (c1 k477) (by kernel_rfl)
theorem k654 : AC 73 [g [bF, lF [u 3]], g [bF, lF [u 3]]] [h [bF, lF [u 3]]] n2 := ex (d4 k241 k276 k278 k240 (c1 k242)) (by kernel_rfl)
theorem k655 : AC 59 [g [bF, lF [u 3]], g [bF, lF [u 3]]] [h o1] n2 := ex (c3 k247 k654 k309) (by kernel_rfl)
theorem k656 : AC 37 [g [bF, l1, bF, lF [u 3]], g (w 3)] [h o1] n2 := ex (c3 k52 k655 k53) (by kernel_rfl)
theorem k657 : AC 40 [.bor 4 [[bF, lT [], bF, l1]], g [bF, l1, bF, lF [u 3]], x (lF [(w 3)]), x (n64 0)] [] [some (.rows 4 [o1] false false), none, none, none] := ex (c4 k375 k478 k656 k148) (by kernel_rfl)
theorem k658 : AC 29 [g [bF, l1, bF, lF [u 3]], x (lF [(w 3)])] [y (lF [o1])] n2 := ex (c3 k125 k657 k107) (by kernel_rfl)
theorem k659 : AC 14 [x (lF [(w 3)])] [y (lF [o1])] n1 := ex (c2 k653 k658) (by kernel_rfl)
theorem k660 : AC 10 [x (lF [(w 3)]), x (lT [])] [y (lF [o1])] n2 := ex (c2 k652 k659) (by kernel_rfl)
theorem k661 : AC 75 [g [bT, l1]] [y (n64 (-1))] n1 := ex .nil (by kernel_rfl)
theorem k662 : AC 58 [g o2] [y (n64 (-1))] n1 := ex (c1 k661) (by kernel_rfl)
theorem k663 : AC 46 [x (lF [o2])] [y (lF [o2])] n1 := ex (c1 k662) (by kernel_rfl)
theorem k664 : AC 32 [x (lF [[.v (.int .i8 (-1))]]), x (n64 20)] [y (lF [o2])] n2 := ex (c2 k611 k663) (by kernel_rfl)
theorem k665 : AC 8 [x (lF [[.v (.int .i8 (-1))]])] [y (lF [o2])] n1 := ex (c1 k664) (by kernel_rfl)
theorem k666 : AC 13 [x (lF [o2]), x (lF [o2])] [y bT] n2 := ex (c1 k636) (by kernel_rfl)
theorem k667 : AC 46 [x (lF [[bF, l1, bF, lF [u 2]]])] [y (lF [[bF, l1, bF, lF [u 2]]])] n1 := ex (c1 k598) (by kernel_rfl)
theorem k668 : AC 19 [g [bF, l1, bF, lF [u 2]]] [y (lF [[bF, l1, bF, lF [u 2]]])] n1 := ex (c1 k667) (by kernel_rfl)
theorem k669 : AC 13 [x (lF [[bF, l1, bF, lF [u 2]]]), x (lF [[bF, l1, bF, lF [u 2]]])] [y bT] n2 := ex (c1 k605) (by kernel_rfl)
theorem k670 : AC 48 [g [bF, lT []], g [bF, lF []]] [y bT] n2 := ex .nil (by kernel_rfl)
theorem k671 : AC 20 [g [bF, lT [], bF, l1], g o0] [y bT] n2 := ex (c2 k670 k602) (by kernel_rfl)
theorem k672 : AC 13 [x (lF [[bF, lT [], bF, l1], o1]), x (lF [o0, o1])] [y bT] n2 := ex (c2 k671 k607) (by kernel_rfl)
theorem k673 : AC 46 [x (lF [(v 2), o0, o1])] [y (lF [(v 2), o0, o1])] n1 := ex (c1 k13) (by kernel_rfl)
theorem k674 : AC 32 [x (lF [[.v (.int .i8 (-2))], [.v (.int .i8 0)], [.v (.int .i8 1)]]), x (n64 20)] [y (lF [(v 2), o0, o1])] n2 := ex (c4 k218 k11 k5 k673) (by kernel_rfl)
theorem k675 : AC 8 [x (lF [[.v (.int .i8 (-2))], [.v (.int .i8 0)], [.v (.int .i8 1)]])] [y (lF [(v 2), o0, o1])] n1 := ex (c1 k674) (by kernel_rfl)
theorem k676 : AC 40 [.bor 4 [(v 2), o0, o1], g o2, x (lF [o2, o1]), x (n64 1)] [] [some (.rows 4 [(v 2), o1, [bF, lT [], bF, l1]] false false), none, none, none] := ex (d4 k128 k145 k621 k106 (c2 k129 k82)) (by kernel_rfl)
theorem k677 : AC 40 [.bor 4 [(v 2), o1, [bF, lT [], bF, l1]], g o2, x (lF [o2, o1]), x (n64 0)] [] [some (.rows 4 [o2, [bF, lT [], bF, l1], [bF, lT [], bF, l1]] false false), none, none, none] := ex (d4 k128 k145 k510 k106 (c2 k129 k82)) (by kernel_rfl)
theorem k678 : AC 15 [x (lF [(v 2), o0, o1]), x (lF [o2, o1])] [y (lF [o1, o1]), y (lF [o2]), y (n64 0)] n2 := ex (d4 k124 k42 k126 k127 (c4 k676 k677 k167 k137)) (by kernel_rfl)
theorem k679 : AC 49 [g o1, x (n64 2)] [h o1] n2 := ex (c2 k120 k126) (by kernel_rfl)
theorem k680 : AC 49 [g o2, x (n64 1)] [h o2] n2 := ex (c2 k120 k171) (by kernel_rfl)
theorem k681 : AC 21 [x (lF [(v 2), o0, o1]), x (lF [o2, o1])] [h o2] n2 := ex (d4 k120 k678 k679 k126 (c2 k680 k171)) (by kernel_rfl)
theorem k682 : AC 15 [x (lF [(w 3)]), x (lF [o1, o0, o1])] [y (lT []), y (lF [(w 3)]), y (n64 0)] n2 := ex .nil (by kernel_rfl)
theorem k683 : AC 49 [g o1, x (n64 0)] [h o1] n2 := ex (c1 k120) (by kernel_rfl)
theorem k684 : AC 37 [g o1, g (w 3)] [h (w 3)] n2 := ex (c4 k52 k246 k286 k53) (by kernel_rfl)
theorem k685 : AC 37 [g (w 3), g (w 3)] [h (w 9)] n2 := ex (c3 k246 k330 k53) (by kernel_rfl)
theorem k686 : AC 49 [g (w 3), x (n64 2)] [h (w 9)] n2 := ex (c3 k120 k684 k685) (by kernel_rfl)
theorem k687 : AC 59 [g [bF, lF [u 9]], g [bF, l1]] [h (w 9)] n2 := ex (c1 k50) (by kernel_rfl)
theorem k688 : AC 37 [g o1, g (w 9)] [h (w 9)] n2 := ex (c4 k52 k687 k340 k53) (by kernel_rfl)
theorem k689 : AC 21 [x (lF [(w 3)]), x (lF [o1, o0, o1])] [h (w 9)] n2 := ex (d4 k120 k682 k683 k126 (c2 k686 k688)) (by kernel_rfl)
theorem k690 : AC 90 [x (lF [u 9, u 0])] [y (lF [u 9])] n1 := ex .nil (by kernel_rfl)
theorem k691 : AC 70 [x (w64 9)] [y (lF [u 9])] n1 := ex (c1 k690) (by kernel_rfl)
theorem k692 : AC 90 [x (lF [u 9])] [y (lF [u 9])] n1 := ex .nil (by kernel_rfl)
theorem k693 : AC 69 [x bF, x (lF [u 9])] [h [bF, lF [u 9]]] n2 := ex (c1 k692) (by kernel_rfl)
theorem k694 : AC 50 [x (n64 9)] [h [bF, lF [u 9]]] n1 := ex (c2 k691 k693) (by kernel_rfl)
theorem k695 : AC 22 [x (n64 9)] [h (w 9)] n1 := ex (c2 k694 k4) (by kernel_rfl)
theorem k696 : AC 48 [g [bF, lF [u 9]], g [bF, lF [u 9]]] [y bT] n2 := ex .nil (by kernel_rfl)
theorem k697 : AC 20 [g (w 9), g (w 9)] [y bT] n2 := ex (c2 k696 k602) (by kernel_rfl)
theorem k698 : AC 90 [x (lF [u 5, u 0])] [y (lF [u 5])] n1 := ex .nil (by kernel_rfl)
theorem k699 : AC 70 [x (w64 5)] [y (lF [u 5])] n1 := ex (c1 k698) (by kernel_rfl)
theorem k700 : AC 90 [x (lF [u 5])] [y (lF [u 5])] n1 := ex .nil (by kernel_rfl)
theorem k701 : AC 69 [x bF, x (lF [u 5])] [h [bF, lF [u 5]]] n2 := ex (c1 k700) (by kernel_rfl)
theorem k702 : AC 50 [x (n64 5)] [h [bF, lF [u 5]]] n1 := ex (c2 k699 k701) (by kernel_rfl)
theorem k703 : AC 22 [x (n64 5)] [h (w 5)] n1 := ex (c2 k702 k4) (by kernel_rfl)
theorem k704 : AC 75 [g [bF, lF [u 5]]] [y (n64 1)] n1 := ex .nil (by kernel_rfl)
theorem k705 : AC 58 [g (w 5)] [y (n64 1)] n1 := ex (c1 k704) (by kernel_rfl)
theorem k706 : AC 46 [x (lF [(w 5)])] [y (lF [(w 5)])] n1 := ex (c1 k705) (by kernel_rfl)
theorem k707 : AC 32 [x (lF [[.v (.int .i8 5)]]), x (n64 20)] [y (lF [(w 5)])] n2 := ex (c2 k703 k706) (by kernel_rfl)
theorem k708 : AC 8 [x (lF [[.v (.int .i8 5)]])] [y (lF [(w 5)])] n1 := ex (c1 k707) (by kernel_rfl)
theorem k709 : AC 49 [g (w 5), x (n64 0)] [h o1] n2 := ex (c1 k120) (by kernel_rfl)
theorem k710 : AC 21 [x (lF [(w 2)]), x (lF [(w 5)])] [h o1] n2 := ex (c3 k120 k709 k126) (by kernel_rfl)
theorem k711 : AC 21 [x (lF [o0, o1]), x (lT [])] [h [bF, lT [], bF, l1]] n2 := ex (c1 k41) (by kernel_rfl)
theorem k712 : AC 46 [x (lF [o0, o0, o1])] [y (lF [o0, o0, o1])] n1 := ex (c1 k13) (by kernel_rfl)
theorem k713 : AC 32 [x (lF [[.v (.int .i8 0)], [.v (.int .i8 0)], [.v (.int .i8 1)]]), x (n64 20)] [y (lF [o0, o0, o1])] n2 := ex (c3 k11 k5 k712) (by kernel_rfl)
theorem k714 : AC 8 [x (lF [[.v (.int .i8 0)], [.v (.int .i8 0)], [.v (.int .i8 1)]])] [y (lF [o0, o0, o1])] n1 := ex (c1 k713) (by kernel_rfl)
theorem k715 : AC 12 [x (lT []), x (lF [o1, o1])] [y (lT [])] n2 := ex .nil (by kernel_rfl)
theorem k716 : AC 56 [x (lT []), g o1, x (lF [o1]), x (n64 0)] [y (lF [o1])] n4 := ex (c3 k125 k183 k107) (by kernel_rfl)
theorem k717 : AC 51 [x (lT []), x (lF [o1])] [y (lF [o1])] n2 := ex (c2 k120 k716) (by kernel_rfl)
theorem k718 : AC 12 [x (lF [o1]), x (lF [o1, o1])] [y (lF [o1, o1])] n2 := ex (c3 k42 k179 k167) (by kernel_rfl)
theorem k719 : AC 40 [.bor 4 [o1, o1], g o1, x (lF []), x (n64 0)] [] [some (.rows 4 [o1, o1] false false), none, none, none] := ex (c1 k106) (by kernel_rfl)
theorem k720 : AC 56 [x (lF [o1, o1]), g o1, x (lF []), x (n64 0)] [y (lF [o1, o1])] n4 := ex (c3 k42 k719 k167) (by kernel_rfl)
theorem k721 : AC 51 [x (lF [o1, o1]), x (lF [])] [y (lF [o1, o1])] n2 := ex (c2 k120 k720) (by kernel_rfl)
theorem k722 : AC 40 [.bor 4 [[bF, lT [], bF, l1], [bF, lT [], bF, l1], [bF, lT [], bF, l1]], g o1, x (lF [o1, o1]), x (n64 0)] [] [some (.rows 4 [o1, o1, [bF, lT [], bF, l1]] false false), none, none, none] := ex (c3 k106 k126 k148) (by kernel_rfl)
theorem k723 : AC 95 [x l1, x l1] [y (lF [u 2])] n2 := ex (c1 k65) (by kernel_rfl)
theorem k724 : AC 82 [g [bF, l1], g [bF, l1]] [h [bF, lF [u 2]]] n2 := ex (c2 k723 k67) (by kernel_rfl)
theorem k725 : AC 63 [g o1, g o1] [h (w 2)] n2 := ex (c3 k53 k724 k229) (by kernel_rfl)
theorem k726 : AC 40 [.bor 4 [o1, o1, [bF, lT [], bF, l1]], g o1, x (lF [o1, o1]), x (n64 1)] [] [some (.rows 4 [o1, (w 2), o1] false false), none, none, none] := ex (c4 k106 k126 k725 k148) (by kernel_rfl)
theorem k727 : AC 39 [x (lF [o1, (w 2), o1])] [y (lF [o1, (w 2), o1])] n1 := ex (c1 k106) (by kernel_rfl)
theorem k728 : AC 12 [x (lF [o1, o1]), x (lF [o1, o1])] [y (lF [o1, (w 2), o1])] n2 := ex (c4 k222 k722 k726 k727) (by kernel_rfl)
theorem k729 : AC 40 [.bor 4 [o1, (w 2), o1], g o1, x (lF []), x (n64 0)] [] [some (.rows 4 [o1, (w 2), o1] false false), none, none, none] := ex (c1 k106) (by kernel_rfl)
theorem k730 : AC 56 [x (lF [o1, (w 2), o1]), g o1, x (lF []), x (n64 0)] [y (lF [o1, (w 2), o1])] n4 := ex (c3 k222 k729 k727) (by kernel_rfl)
theorem k731 : AC 51 [x (lF [o1, (w 2), o1]), x (lF [])] [y (lF [o1, (w 2), o1])] n2 := ex (c2 k120 k730) (by kernel_rfl)
theorem k732 : AC 23 [x (lF [o0, o0, o1]), x (lF [o1, o1])] [y (lF [o1, (w 2), o1])] n2 := ex (d4 k715 k107 k717 k718 (c4 k429 k721 k728 k731)) (by kernel_rfl)
theorem k733 : AC 46 [x (lF [o1, (w 2), o1])] [y (lF [o1, (w 2), o1])] n1 := ex (c1 k13) (by kernel_rfl)
theorem k734 : AC 32 [x (lF [[.v (.int .i8 1)], [.v (.int .i8 2)], [.v (.int .i8 1)]]), x (n64 20)] [y (lF [o1, (w 2), o1])] n2 := ex (c3 k5 k22 k733) (by kernel_rfl)
theorem k735 : AC 8 [x (lF [[.v (.int .i8 1)], [.v (.int .i8 2)], [.v (.int .i8 1)]])] [y (lF [o1, (w 2), o1])] n1 := ex (c1 k734) (by kernel_rfl)
theorem k736 : AC 20 [g (w 2), g (w 2)] [y bT] n2 := ex (c2 k604 k602) (by kernel_rfl)
theorem k737 : AC 13 [x (lF [o1, (w 2), o1]), x (lF [o1, (w 2), o1])] [y bT] n2 := ex (c2 k607 k736) (by kernel_rfl)
theorem k738 : AC 71 [g [bF, lF []]] [y bT] n1 := ex .nil (by kernel_rfl)
theorem k739 : AC 71 [g [bF, l1]] [y bT] n1 := ex .nil (by kernel_rfl)
theorem k740 : AC 52 [g o0] [y bT] n1 := ex (c4 k738 k739 k103 k50) (by kernel_rfl)
theorem k741 : AC 52 [g o1] [y bT] n1 := ex (c3 k739 k103 k50) (by kernel_rfl)
theorem k742 : AC 24 [x (lF [o0, o1])] [y bT] n1 := ex (c3 k740 k741 k106) (by kernel_rfl)
theorem k743 : AC 24 [x (lF [o0])] [y bF] n1 := ex (c2 k740 k62) (by kernel_rfl)
theorem k744 : AC 4 [] [y bT] [] := ex (d4 k16 k27 k108 k111 (d4 k112 k115 k118 k197 (d4 k200 k215 k221 k544 (d4 k570 k600 k606 k608 (d4 k614 k617 k631 k634 (d4 k637 k640 k651 k660 (d4 k665 k666 k668 k669 (d4 k672 k675 k681 k611 (d4 k636 k689 k695 k697 (d4 k708 k710 k5 k607 (d4 k711 k11 k671 k714 (d4 k732 k735 k737 k742 (c1 k743))))))))))))) (by kernel_rfl)
end Go.Proofs.YtbeakmahabhacaaGreat.Mem
end
section
namespace Go.Proofs.YtbeakmahabhacaaGreat
open Go Go.Abs Go.Proofs
theorem ur_one : ur [1] = [[.v (.bool false), .lst false [[.v (.int .u32 1)]], .v (.bool false), .lst false [[.v (.int .u32 1)]]]] := by kernel_rfl
theorem poly_one : ACall Tryz.prog 8 [.val (.c (.lst false [[.v (.int .i8 1)]]))] ⟨[.val (tl (ur [1]))], [none]⟩ := by
 rw [ur_one]
 exact Mem.k111
end Go.Proofs.YtbeakmahabhacaaGreat
end
