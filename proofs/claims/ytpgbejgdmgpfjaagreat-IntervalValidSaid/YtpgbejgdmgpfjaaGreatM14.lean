/-
  A part of the proof: GabsSized, LawIvV24, GabsMemo, Memo24A, Memo24B, Memo24C, Memo24D, Memo24E, Memo24F.
-/
import Derived.Test.YtpgbejgdmgpfjaaGreatM13
import Derived.Calls
import Derived.Laws.Cells
import Derived.Below
import Derived.ChangeKeysEq
import Derived.Laws.StructEq
import Derived.Laws.Small
import Derived.Laws.IdiomCopy
import Derived.Laws.BytesString
import Derived.Laws.Append
import Derived.Laws.Tables
import Derived.Great.BuildSlice
import Derived.IntWalk
import Derived.Orders
import Derived.Laws.BitsLemmas
import Derived.Test.YtpgbejgdmgpfjaaGreatProg
import Derived.ChangeSame
import Derived.Carry
import Derived.ProofKit
import Derived.WideKeyArgs
import Derived.OpenShut
import Derived.WalkKit
import Derived.SizedLaws

section
set_option linter.unusedVariables false
set_option linter.unusedSimpArgs false
/-
  The abstract layer: a law's arguments with the bound of their slices (each takes less than 2^47 bytes).
-/
set_option linter.unusedSimpArgs false
set_option linter.unusedVariables false
namespace Go.Abs
open Go.RowKit Go.WideShapes Go.ChangeShapes Go.ChangeAt

/-- A slice's rows take at most so many bytes. -/
def okSz (P : Program) (t : TypeId) (ts : List Tree) : Prop := ∀ e cp rows, P.underlying t = some (.slice e) → ts = [.lst cp rows] → rows.length * P.bytesOf e ≤ reachBytes
def szAll (P : Program) : List TypeId → List (List Tree) → Prop
  | t :: tys, ts :: tss => okSz P t ts ∧ szAll P tys tss
  | _, _ => True

section
variable {H : Type} {enc : TypeId × Value → H} {P : Program} {w : World} {sp : Nat → Bool} {hd : Bool}

theorem slice_len {t e : TypeId} {n : Nat} {cs : List Value} {x : DataW H × List MemPlace} (hu : P.underlying t = some (.slice e)) (hx : DataW.trod enc P w 0 sp hd n t cs = some x) {cp : Bool} {rows : List (List Tree)} (h : TRepL w [.lst cp rows] cs) :
    rows.length = 0 ∨ ∃ elems spare, x.1 = .slice elems spare ∧ rows.length = elems.length := by
  have hl : ∀ b len cap, cs = [.slice b len cap] → rows.length = len := fun b len cap hc => by
    have h2 := h.2 0 _ _ rfl (by rw [hc]; rfl)
    cases h2 with
    | lst => rfl
  rcases DataW.trod_slice hu hx with ⟨h1, h2⟩ | ⟨a, len, cap, elems, rest, n', h0, h1, h2, _, _, _, hel, _⟩
  · exact .inl (hl _ _ _ h1)
  · exact .inr ⟨_, _, by rw [h2], by rw [hl _ _ _ h1, List.length_map, hel]⟩

theorem args_read_sized : ∀ {tys : List TypeId} {shs : List Shape} {vs : List Value} {ds : List (DataW H)} {ps : List MemPlace}, DataW.TrodAll enc P w 0 sp true tys vs ds ps → fitsAll P tys shs = true →
    (∀ (j : Nat) t v, tys[j]? = some t → vs[j]? = some v → Value.okWide P w .any 0 t v) →
    (∀ (j : Nat) t e elems spare, tys[j]? = some t → ds[j]? = some (.slice elems spare) → P.underlying t = some (.slice e) → elems.length * P.bytesOf e ≤ reachBytes) →
    ∃ tss, okAll shs tss ∧ szAll P tys tss ∧ vs.length = (tvs shs tss).length ∧ ds.length = shs.length ∧ ∀ (i : Nat) (x : TV), (tvs shs tss)[i]? = some x → ∃ v, vs[i]? = some v ∧ VRep noβ (old w) w x.av v
  | [], [], [], [], ps, h, hf, hv, hz => ⟨[], rfl, trivial, rfl, rfl, fun i x hx => by simp [tvs] at hx⟩
  | t :: ts, s :: ss, v :: vs, d :: ds, ps, h, hf, hv, hz => by
    obtain ⟨p, q, ⟨n, h1⟩, h2, _⟩ := h
    simp only [fitsAll, Bool.and_eq_true] at hf
    obtain ⟨⟨⟨f1, f2⟩, f3⟩, f4⟩ := hf
    obtain ⟨tss, g1, g0, g2, g3, g4⟩ := args_read_sized h2 f4 (fun j t v ht hx => hv (j + 1) t v (by simpa using ht) (by simpa using hx)) (fun j t e elems spare ht hd hu => hz (j + 1) t e elems spare (by simpa using ht) (by simpa using hd) hu)
    obtain ⟨tr, k1, k2⟩ := s.read t f1 n _ _ h1
    refine ⟨tr :: tss, ⟨tr, tss, rfl, k1, g1⟩, ⟨fun e cp rows hu ht => ?_, g0⟩, by simp [tvs, g2], by simp [g3], fun i x hx => ?_⟩
    · subst ht
      rcases slice_len hu h1 k2 with e0 | ⟨elems, spare, e1, e2⟩
      · rw [e0, Nat.zero_mul]; exact Nat.zero_le _
      rw [e2]
      exact hz 0 t e elems spare rfl (by rw [← e1]; rfl) hu
    cases i with
    | zero =>
      simp only [tvs, List.getElem?_cons_zero, Option.some.injEq] at hx
      subst hx
      exact ⟨v, rfl, Shape.rep f1 (hv 0 t v rfl rfl) k1 k2⟩
    | succ i => simp only [tvs, List.getElem?_cons_succ] at hx ⊢; exact g4 i x hx
  | [], _ :: _, _, _, _, _, hf, _, _ => by simp [fitsAll] at hf
  | _ :: _, [], _, _, _, _, hf, _, _ => by simp [fitsAll] at hf
  | [], [], _ :: _, _, _, h, _, _, _ => by simp [DataW.TrodAll] at h
  | [], [], [], _ :: _, _, h, _, _, _ => by simp [DataW.TrodAll] at h
  | _ :: _, _ :: _, [], _, _, h, _, _, _ => by simp [DataW.TrodAll] at h
  | _ :: _, _ :: _, _ :: _, [], _, h, _, _, _ => by simp [DataW.TrodAll] at h

/-- A law's contract, with the bound of its slices. -/
theorem law_row_sized {f : FuncId} {fn : Func} {spec : ChangeSpec} {shs : List Shape} {outs : List (Option Blk)} (hl : laidOutB P = true) (hf : fitsAll P fn.params.toList shs = true) (hvars : spec.vars = []) {tb0 : TypeId} (hres : fn.resultTypes = #[tb0]) (hb4 : P.underlying tb0 = some .bool)
    {apart fresh handsOn again : Bool} (hfn : ∀ ds : List (DataW H), ds.length = shs.length → (spec.fn H ds).args = ds ∧ (spec.fn H ds).results = [.lit (.bool true)] ∧ (spec.fn H ds).vars = [])
    (hc : ∀ tss, okAll shs tss → szAll P fn.params.toList tss → ACall P f ((tvs shs tss).map .val) ⟨[.val (tb true)], outs⟩)
    {W : World} {args : Array Value} {ds gs : List (DataW H)} {before : List MemPlace} (hval : ∀ (j : Nat) t v, fn.params[j]? = some t → args[j]? = some v → Value.okWide P W .any 0 t v)
    (hW : DataW.Whole enc P fn.params.toList spec.vars apart W args.toList ds gs before) {vt : List TypeId}
    (hz : (DataW.weightsEach P (fn.params.toList ++ vt) (ds ++ gs)).all (· ≤ reachBytes) = true) :
    Calls P f args W fun e W' => ∃ v, e = .returned v ∧ spec.post enc P fn apart fresh handsOn again W args v W' := by
  have hW' := hW
  obtain ⟨p, q, hA, hV, rfl, hfz, hnd⟩ := hW
  rw [hvars] at hV
  have hgq : gs = [] ∧ q = [] := by
    cases gs with
    | nil => exact ⟨rfl, hV⟩
    | cons g gs => exact hV.elim
  obtain ⟨rfl, rfl⟩ := hgq
  obtain ⟨tss, hok, hsz, hlen, hdl, hrep⟩ := args_read_sized hA hf (fun j t v ht hv => hval j t v (by simpa using ht) (by simpa using hv)) (fun j t e elems spare ht hd hu => by
    have h1 := sized_slice hz (j := j) (t := t) (by rw [List.getElem?_append_left (List.getElem?_eq_some_iff.1 ht).1]; exact ht) (by rw [List.append_nil]; exact hd) hu
    exact Nat.le_trans (Nat.mul_le_mul_right _ (Nat.le_add_right _ _)) h1)
  have h := law_calls (hc tss hok hsz) W args.toList hlen hrep
  have hargs : args.toList.toArray = args := rfl
  rw [hargs] at h
  obtain ⟨e1, e2, e3⟩ := hfn ds hdl
  have hbefore : ∀ x ∈ p, x.block < W.heap.size := fun x hx => hW'.lt x (List.mem_append_left _ hx)
  refine h.mono fun e W' ⟨he, hg⟩ => ?_
  subst he
  refine ⟨_, rfl, post_of_below (pa := p) (pv := []) hW' (fun b sp hd => ?_) (fun sp hs => ?_) (fun sp hs => ?_) rfl hg ?_⟩
  · rw [List.append_nil, e2, hres]
    exact trodAll_cons_mk (shut_bool hb4 _) trodAll_mk0
  · rw [List.append_nil, e1]
    exact args_stay hl hg hA hf hbefore (fun x hx => hs x (List.mem_append_left _ hx))
  · rw [List.append_nil, e3, hvars]; rfl
  · exact ok_one hres rfl (okWide_bool_mk hb4 _)

/-- Slices, also those inside of structs, take at most so many bytes. -/
def szT (P : Program) : Nat → TypeId → List Tree → Prop
  | 0, _, _ => True
  | d + 1, t, ts => (∀ e cp rows, P.underlying t = some (.slice e) → ts = [.lst cp rows] → rows.length * P.bytesOf e ≤ reachBytes) ∧
      ∀ (fs : Array Field) (i : Nat) (f : Field), P.underlying t = some (.struct fs) → fs[i]? = some f → szT P d f.type ((ts.drop f.offset).take (P.cellsOf f.type))
def szAllT (P : Program) (d : Nat) : List TypeId → List (List Tree) → Prop
  | t :: tys, ts :: tss => szT P d t ts ∧ szAllT P d tys tss
  | _, _ => True

theorem TRepL.cut {ts : List Tree} {cs : List Value} (h : TRepL w ts cs) (i m : Nat) : TRepL w ((ts.drop i).take m) ((cs.drop i).take m) := by
  refine ⟨by rw [List.length_take, List.length_take, List.length_drop, List.length_drop, h.1], fun j t v ht hv => ?_⟩
  rw [List.getElem?_take] at ht hv
  split at ht
  · rename_i hj
    rw [if_pos hj] at hv
    rw [List.getElem?_drop] at ht hv
    exact h.2 _ t v ht hv
  · cases ht

theorem szT_of : ∀ (d : Nat) {t : TypeId} {n : Nat} {cs : List Value} {x : DataW H × List MemPlace} {ts : List Tree}, DataW.trod enc P w 0 sp hd n t cs = some x → TRepL w ts cs → (∀ m ∈ x.1.weights P t, m ≤ reachBytes) → szT P d t ts
  | 0, _, _, _, _, _, _, _, _ => trivial
  | d + 1, t, n, cs, x, ts, hx, hr, hw => by
    refine ⟨fun e cp rows hu ht => ?_, fun fs i f hu hf => ?_⟩
    · subst ht
      rcases slice_len hu hx hr with e0 | ⟨elems, spare, e1, e2⟩
      · rw [e0, Nat.zero_mul]; exact Nat.zero_le _
      · rw [e2]
        refine Nat.le_trans (Nat.mul_le_mul_right _ (Nat.le_add_right _ spare.length)) (hw _ ?_)
        rw [e1]
        simp [DataW.weights, hu]
    · obtain ⟨xs, n', rfl, rfl, hl, hxl, hfs⟩ := DataW.trod_struct hu hx
      have hi : i < xs.length := by rw [hxl]; exact (Array.getElem?_eq_some_iff.1 hf).1
      have h1 := hfs i f hf
      rw [List.getElem?_eq_getElem hi] at h1
      refine szT_of d h1 (hr.cut _ _) fun m hm => hw m ?_
      show m ∈ DataW.weights P t (.agg (xs.map (·.1)))
      simp only [DataW.weights, hu]
      exact DataW.weights_mem_each (j := i) (t := f.type) (d := xs[i].1) (by rw [List.getElem?_map, Array.getElem?_toList, hf]; rfl) (by rw [List.getElem?_map, List.getElem?_eq_getElem hi]; rfl) m hm

def pathSz (P : Program) : List Nat → TypeId → List Tree → Option (TypeId × List Tree)
  | [], t, ts => some (t, ts)
  | i :: p, t, ts => match P.underlying t with
    | some (.struct fs) => match fs[i]? with
      | some f => pathSz P p f.type ((ts.drop f.offset).take (P.cellsOf f.type))
      | none => none
    | _ => none

theorem szT_path : ∀ (p : List Nat) {d : Nat} {t t' : TypeId} {ts ts' : List Tree}, szT P (d + p.length) t ts → pathSz P p t ts = some (t', ts') → szT P d t' ts'
  | [], d, t, t', ts, ts', h, hp => by
    simp only [pathSz, Option.some.injEq, Prod.mk.injEq] at hp
    obtain ⟨rfl, rfl⟩ := hp
    exact h
  | i :: p, d, t, t', ts, ts', h, hp => by
    unfold pathSz at hp
    split at hp
    · rename_i fs hu
      split at hp
      · rename_i f hf
        exact szT_path p (h.2 fs i f hu hf) hp
      · cases hp
    · cases hp

theorem args_read_deep {D : Nat} : ∀ {tys : List TypeId} {shs : List Shape} {vs : List Value} {ds : List (DataW H)} {ps : List MemPlace}, DataW.TrodAll enc P w 0 sp true tys vs ds ps → fitsAll P tys shs = true →
    (∀ (j : Nat) t v, tys[j]? = some t → vs[j]? = some v → Value.okWide P w .any 0 t v) →
    (∀ (j : Nat) t d, tys[j]? = some t → ds[j]? = some d → ∀ m ∈ d.weights P t, m ≤ reachBytes) →
    ∃ tss, okAll shs tss ∧ szAllT P D tys tss ∧ vs.length = (tvs shs tss).length ∧ ds.length = shs.length ∧ ∀ (i : Nat) (x : TV), (tvs shs tss)[i]? = some x → ∃ v, vs[i]? = some v ∧ VRep noβ (old w) w x.av v
  | [], [], [], [], ps, h, hf, hv, hz => ⟨[], rfl, trivial, rfl, rfl, fun i x hx => by simp [tvs] at hx⟩
  | t :: ts, s :: ss, v :: vs, d :: ds, ps, h, hf, hv, hz => by
    obtain ⟨p, q, ⟨n, h1⟩, h2, _⟩ := h
    simp only [fitsAll, Bool.and_eq_true] at hf
    obtain ⟨⟨⟨f1, f2⟩, f3⟩, f4⟩ := hf
    obtain ⟨tss, g1, g0, g2, g3, g4⟩ := args_read_deep h2 f4 (fun j t v ht hx => hv (j + 1) t v (by simpa using ht) (by simpa using hx)) (fun j t d ht hd => hz (j + 1) t d (by simpa using ht) (by simpa using hd))
    obtain ⟨tr, k1, k2⟩ := s.read t f1 n _ _ h1
    refine ⟨tr :: tss, ⟨tr, tss, rfl, k1, g1⟩, ⟨szT_of D h1 k2 (hz 0 t d rfl rfl), g0⟩, by simp [tvs, g2], by simp [g3], fun i x hx => ?_⟩
    cases i with
    | zero =>
      simp only [tvs, List.getElem?_cons_zero, Option.some.injEq] at hx
      subst hx
      exact ⟨v, rfl, Shape.rep f1 (hv 0 t v rfl rfl) k1 k2⟩
    | succ i => simp only [tvs, List.getElem?_cons_succ] at hx ⊢; exact g4 i x hx
  | [], _ :: _, _, _, _, _, hf, _, _ => by simp [fitsAll] at hf
  | _ :: _, [], _, _, _, _, hf, _, _ => by simp [fitsAll] at hf
  | [], [], _ :: _, _, _, h, _, _, _ => by simp [DataW.TrodAll] at h
  | [], [], [], _ :: _, _, h, _, _, _ => by simp [DataW.TrodAll] at h
  | _ :: _, _ :: _, [], _, _, h, _, _, _ => by simp [DataW.TrodAll] at h
  | _ :: _, _ :: _, _ :: _, [], _, h, _, _, _ => by simp [DataW.TrodAll] at h

/-- A law's contract, with the bound of its slices, those inside of structs as well. -/
theorem law_row_deep {f : FuncId} {fn : Func} {spec : ChangeSpec} {shs : List Shape} {outs : List (Option Blk)} (hl : laidOutB P = true) (hf : fitsAll P fn.params.toList shs = true) (hvars : spec.vars = []) {tb0 : TypeId} (hres : fn.resultTypes = #[tb0]) (hb4 : P.underlying tb0 = some .bool)
    {apart fresh handsOn again : Bool} (hfn : ∀ ds : List (DataW H), ds.length = shs.length → (spec.fn H ds).args = ds ∧ (spec.fn H ds).results = [.lit (.bool true)] ∧ (spec.fn H ds).vars = [])
    (hc : ∀ tss, okAll shs tss → szAllT P 5 fn.params.toList tss → ACall P f ((tvs shs tss).map .val) ⟨[.val (tb true)], outs⟩)
    {W : World} {args : Array Value} {ds gs : List (DataW H)} {before : List MemPlace} (hval : ∀ (j : Nat) t v, fn.params[j]? = some t → args[j]? = some v → Value.okWide P W .any 0 t v)
    (hW : DataW.Whole enc P fn.params.toList spec.vars apart W args.toList ds gs before) {vt : List TypeId}
    (hz : (DataW.weightsEach P (fn.params.toList ++ vt) (ds ++ gs)).all (· ≤ reachBytes) = true) :
    Calls P f args W fun e W' => ∃ v, e = .returned v ∧ spec.post enc P fn apart fresh handsOn again W args v W' := by
  have hW' := hW
  obtain ⟨p, q, hA, hV, rfl, hfz, hnd⟩ := hW
  rw [hvars] at hV
  have hgq : gs = [] ∧ q = [] := by
    cases gs with
    | nil => exact ⟨rfl, hV⟩
    | cons g gs => exact hV.elim
  obtain ⟨rfl, rfl⟩ := hgq
  obtain ⟨tss, hok, hsz, hlen, hdl, hrep⟩ := args_read_deep hA hf (fun j t v ht hv => hval j t v (by simpa using ht) (by simpa using hv)) (fun j t d ht hd m hm => by
    have := List.all_eq_true.1 hz m (DataW.weights_mem_each (j := j) (t := t) (by rw [List.getElem?_append_left (List.getElem?_eq_some_iff.1 ht).1]; exact ht) (by rw [List.append_nil]; exact hd) m hm)
    simpa using this)
  have h := law_calls (hc tss hok hsz) W args.toList hlen hrep
  have hargs : args.toList.toArray = args := rfl
  rw [hargs] at h
  obtain ⟨e1, e2, e3⟩ := hfn ds hdl
  have hbefore : ∀ x ∈ p, x.block < W.heap.size := fun x hx => hW'.lt x (List.mem_append_left _ hx)
  refine h.mono fun e W' ⟨he, hg⟩ => ?_
  subst he
  refine ⟨_, rfl, post_of_below (pa := p) (pv := []) hW' (fun b sp hd => ?_) (fun sp hs => ?_) (fun sp hs => ?_) rfl hg ?_⟩
  · rw [List.append_nil, e2, hres]
    exact trodAll_cons_mk (shut_bool hb4 _) trodAll_mk0
  · rw [List.append_nil, e1]
    exact args_stay hl hg hA hf hbefore (fun x hx => hs x (List.mem_append_left _ hx))
  · rw [List.append_nil, e3, hvars]; rfl
  · exact ok_one hres rfl (okWide_bool_mk hb4 _)

end
end Go.Abs
end

section
set_option linter.unusedVariables false
set_option linter.unusedSimpArgs false
set_option maxHeartbeats 8000000
set_option linter.unusedVariables false
set_option linter.unusedSimpArgs false
set_option maxRecDepth 100000
namespace Go.Proofs.YtpgbejgdmgpfjaaGreat
open Go Go.Abs Go.Abs.M Go.Proofs

theorem ivv_call (hsan : ACall Tryz.prog 11 [] ⟨[.val (tb true)], []⟩) (a b : QC) (ha : Wd a.l ∧ Wd a.m) (hb : Wd b.l ∧ Wd b.m)
    (z1 : a.l.length < 1152921504606846976) (z2 : a.m.length < 1152921504606846976) (z3 : b.l.length < 1152921504606846976) (z4 : b.m.length < 1152921504606846976) :
    ACall Tryz.prog 4 [.val (.agg (a.row ++ b.row))] ⟨[.val (tb true)], [none]⟩ := by
  have hval : a.l.length + a.m.length + b.l.length + b.m.length ≤ 6 → ∃ v : Bool, ACall Tryz.prog 16 [.val (.agg (a.row ++ b.row))] ⟨[.val (tb v)], [none]⟩ ∧ ACall Tryz.prog 17 [.val (.agg (a.row ++ b.row))] ⟨[.val (tb v)], [none]⟩ :=
    fun h => ivalid_ex a b ⟨ha.1, ha.2, by omega, by omega⟩ ⟨hb.1, hb.2, by omega, by omega⟩
  obtain ⟨s1, l1, t1, m1⟩ := a
  obtain ⟨s2, l2, t2, m2⟩ := b
  rw [show QC.row ⟨s1, l1, t1, m1⟩ ++ QC.row ⟨s2, l2, t2, m2⟩ = [.v (.bool s1), .lst false (W .u32 l1), .v (.bool t1), .lst false (W .u32 m1), .v (.bool s2), .lst false (W .u32 l2), .v (.bool t2), .lst false (W .u32 m2)] from rfl] at hval ⊢
  have w1 := W_len .u32 l1
  have w2 := W_len .u32 m1
  have w3 := W_len .u32 l2
  have w4 := W_len .u32 m2
  simp only at *
  generalize W .u32 l1 = A1 at *
  generalize W .u32 m1 = B1 at *
  generalize W .u32 l2 = A2 at *
  generalize W .u32 m2 = B2 at *
  by_cases h6 : l1.length + m1.length + l2.length + m2.length ≤ 6
  · obtain ⟨v, c1, c2⟩ := hval h6
    refine callZ ccOk mixed [.val] Tryz.func4 rfl rfl (by kernel_rfl) fun zwrap zadd zsub zmul zquo zrem zshl zshr zband zbor zbxor zbandn zeq zne zlt zle znot zbeq zbne zmax zmin znat zinb zofN zidx zneq znadd zdif zcut zroom zmkok zlen znth zsetr zisI zgetI zsetI zfit zpart zext zsetg zrep zwide zall zmok zmget zmset zW zth A L F hS hF => ?_
    have b0 : znot true = false := by rw [hS.not]; rfl
    have e6 : zlt 6 (zwrap IntKind.i64 (zadd (zwrap IntKind.i64 (zadd (zwrap IntKind.i64 (zadd (zofN (zlen A1)) (zofN (zlen B1)))) (zofN (zlen A2)))) (zofN (zlen B2)))) = false := by
      simp only [hS.len, hS.ofN, hS.add, hS.wrap, hS.lt]
      rw [wrap_i64 (x := (A1.length : Int) + (B1.length : Int)) (by omega) (by omega), wrap_i64 (x := (A1.length : Int) + (B1.length : Int) + (A2.length : Int)) (by omega) (by omega), wrap_i64 (x := (A1.length : Int) + (B1.length : Int) + (A2.length : Int) + (B2.length : Int)) (by omega) (by omega)]
      exact decide_eq_false (by omega)
    have e7 : zbeq v v = true := by rw [hS.beq]; simp
    cbv
    refine ⟨_, hS.call (hsan), ?_⟩
    cbv
    refine bF (b0) ?_
    refine bF (e6) ?_
    refine ⟨_, hS.call (c1), ?_⟩
    cbv
    refine ⟨_, hS.call (c2), ?_⟩
    cbv
    refine bT e7 ?_
    exact hF _ (ResLe.refl _)
  · refine callZ ccOk mixed [.val] Tryz.func4 rfl rfl (by kernel_rfl) fun zwrap zadd zsub zmul zquo zrem zshl zshr zband zbor zbxor zbandn zeq zne zlt zle znot zbeq zbne zmax zmin znat zinb zofN zidx zneq znadd zdif zcut zroom zmkok zlen znth zsetr zisI zgetI zsetI zfit zpart zext zsetg zrep zwide zall zmok zmget zmset zW zth A L F hS hF => ?_
    have b0 : znot true = false := by rw [hS.not]; rfl
    have e6 : zlt 6 (zwrap IntKind.i64 (zadd (zwrap IntKind.i64 (zadd (zwrap IntKind.i64 (zadd (zofN (zlen A1)) (zofN (zlen B1)))) (zofN (zlen A2)))) (zofN (zlen B2)))) = true := by
      simp only [hS.len, hS.ofN, hS.add, hS.wrap, hS.lt]
      rw [wrap_i64 (x := (A1.length : Int) + (B1.length : Int)) (by omega) (by omega), wrap_i64 (x := (A1.length : Int) + (B1.length : Int) + (A2.length : Int)) (by omega) (by omega), wrap_i64 (x := (A1.length : Int) + (B1.length : Int) + (A2.length : Int) + (B2.length : Int)) (by omega) (by omega)]
      exact decide_eq_true (by omega)
    cbv
    refine ⟨_, hS.call (hsan), ?_⟩
    cbv
    refine bF (b0) ?_
    refine bT (e6) ?_
    exact hF _ (ResLe.refl _)

theorem ivv_row (hsan : ACall Tryz.prog 11 [] ⟨[.val (tb true)], []⟩) {T M e : TypeId} (hu : Tryz.prog.underlying M = some (.slice e)) (he : Tryz.prog.bytesOf e = 4)
    (p1 : ∀ a b c d f g h i : Tree, pathSz Tryz.prog [0, 0, 1] T [a, b, c, d, f, g, h, i] = some (M, [b])) (p2 : ∀ a b c d f g h i : Tree, pathSz Tryz.prog [0, 1, 1] T [a, b, c, d, f, g, h, i] = some (M, [d]))
    (p3 : ∀ a b c d f g h i : Tree, pathSz Tryz.prog [1, 0, 1] T [a, b, c, d, f, g, h, i] = some (M, [g])) (p4 : ∀ a b c d f g h i : Tree, pathSz Tryz.prog [1, 1, 1] T [a, b, c, d, f, g, h, i] = some (M, [i]))
    (tss : List (List Tree)) (h : okAll [.struct [ratS, ratS]] tss) (hz : szAllT Tryz.prog 5 [T] tss) :
    ACall Tryz.prog 4 ((tvs [.struct [ratS, ratS]] tss).map .val) ⟨[.val (tb true)], [none]⟩ := by
  obtain ⟨_, _, rfl, ⟨_, _, rfl, h1, _, _, rfl, h2, rfl⟩, rfl⟩ := h
  obtain ⟨_, _, rfl, ⟨_, _, rfl, ⟨s1, rfl⟩, _, _, rfl, ⟨c1, r1, rfl, _, g1⟩, rfl⟩, _, _, rfl, ⟨_, _, rfl, ⟨t1, rfl⟩, _, _, rfl, ⟨c2, r2, rfl, _, g2⟩, rfl⟩, rfl⟩ := h1
  obtain ⟨_, _, rfl, ⟨_, _, rfl, ⟨s2, rfl⟩, _, _, rfl, ⟨c3, r3, rfl, _, g3⟩, rfl⟩, _, _, rfl, ⟨_, _, rfl, ⟨t2, rfl⟩, _, _, rfl, ⟨c4, r4, rfl, _, g4⟩, rfl⟩, rfl⟩ := h2
  obtain ⟨z, _⟩ := hz
  have z1 := (szT_path (d := 2) [0, 0, 1] z (p1 _ _ _ _ _ _ _ _)).1 e _ _ hu rfl
  have z2 := (szT_path (d := 2) [0, 1, 1] z (p2 _ _ _ _ _ _ _ _)).1 e _ _ hu rfl
  have z3 := (szT_path (d := 2) [1, 0, 1] z (p3 _ _ _ _ _ _ _ _)).1 e _ _ hu rfl
  have z4 := (szT_path (d := 2) [1, 1, 1] z (p4 _ _ _ _ _ _ _ _)).1 e _ _ hu rfl
  have hr : reachBytes = 140737488351232 := by decide
  rw [he, hr] at z1 z2 z3 z4
  obtain ⟨l1, rfl, w1⟩ := words_ok r1 g1
  obtain ⟨m1, rfl, w2⟩ := words_ok r2 g2
  obtain ⟨l2, rfl, w3⟩ := words_ok r3 g3
  obtain ⟨m2, rfl, w4⟩ := words_ok r4 g4
  rw [W_len] at z1 z2 z3 z4
  have c := ivv_call hsan ⟨s1, l1, t1, m1⟩ ⟨s2, l2, t2, m2⟩ ⟨w1, w2⟩ ⟨w3, w4⟩ (by show l1.length < _; omega) (by show m1.length < _; omega) (by show l2.length < _; omega) (by show m2.length < _; omega)
  have ht : TsLe [.v (.bool s1), .lst c1 (W .u32 l1), .v (.bool t1), .lst c2 (W .u32 m1), .v (.bool s2), .lst c3 (W .u32 l2), .v (.bool t2), .lst c4 (W .u32 m2)] [.v (.bool s1), .lst false (W .u32 l1), .v (.bool t1), .lst false (W .u32 m1), .v (.bool s2), .lst false (W .u32 l2), .v (.bool t2), .lst false (W .u32 m2)] := ⟨.v _, .drop _ _, .v _, .drop _ _, .v _, .drop _ _, .v _, .drop _ _, trivial⟩
  have hle : ArgsLe [.val (.agg [.v (.bool s1), .lst c1 (W .u32 l1), .v (.bool t1), .lst c2 (W .u32 m1), .v (.bool s2), .lst c3 (W .u32 l2), .v (.bool t2), .lst c4 (W .u32 m2)])] [.val (.agg (QC.row ⟨s1, l1, t1, m1⟩ ++ QC.row ⟨s2, l2, t2, m2⟩))] := ⟨ht, trivial⟩
  exact ACall.weak hle (ResLe.refl _) c
end Go.Proofs.YtpgbejgdmgpfjaaGreat
end

section
set_option linter.unusedVariables false
set_option linter.unusedSimpArgs false
/-
  The abstract layer: calls whose arguments are given, one function at a time; what a function calls is looked up among what was shown before.
-/
set_option linter.unusedSimpArgs false
set_option linter.unusedVariables false
namespace Go.Abs

/-- The interpreter for one function; its calls are asked of 'call'. -/
def execBody (P : Program) (C : Cfg) (om : FuncId → List Mode) (call : FuncId → List Arg → Option Res) (n : Nat) (f : FuncId) (args : List Arg) : Option Res :=
  match P.funcs[f]? with
  | some fn =>
    if fn.name == "runtime.NumGoroutine" then none else
    match fn.body with
    | some c =>
      match execCode C call n c (startSt args fn.ntmps) with
      | some (.normal, s) => finish C s args fn.results.toList (om f)
      | some (.ret, s) => finish C s args fn.results.toList (om f)
      | _ => none
    | none => none
  | none => none

mutual
def eqT : Tree → Tree → Bool
  | .v x, .v y => match x, y with
    | .int k a, .int k' b => decide (k = k') && decide (a = b)
    | .bool a, .bool b => decide (a = b)
    | .string a, .string b => decide (a.data.toList = b.data.toList)
    | .func (.func f) ⟨[]⟩ ⟨[]⟩, .func (.func g) ⟨[]⟩ ⟨[]⟩ => decide (f = g)
    | _, _ => false
  | .lst c l, .lst c' l' => decide (c = c') && eqRR l l'
  | _, _ => false
def eqTs : List Tree → List Tree → Bool
  | [], [] => true
  | x :: xs, y :: ys => eqT x y && eqTs xs ys
  | _, _ => false
def eqRR : List (List Tree) → List (List Tree) → Bool
  | [], [] => true
  | x :: xs, y :: ys => eqTs x y && eqRR xs ys
  | _, _ => false
end

mutual
theorem eqT_eq : ∀ {x y : Tree}, eqT x y = true → x = y
  | .v x, .v y, h => by
    unfold eqT at h
    split at h
    · simp only [Bool.and_eq_true, decide_eq_true_eq] at h; rw [h.1, h.2]
    · rw [of_decide_eq_true h]
    · rename_i a b
      have := of_decide_eq_true h
      have e : a = b := by
        cases a with | mk da => cases b with | mk db => exact congrArg ByteArray.mk (Array.ext' this)
      rw [e]
    · rw [of_decide_eq_true h]
    · cases h
  | .lst c l, .lst c' l', h => by
    unfold eqT at h
    simp only [Bool.and_eq_true, decide_eq_true_eq] at h
    rw [h.1, eqRR_eq h.2]
  | .v _, .lst _ _, h => by unfold eqT at h; cases h
  | .lst _ _, .v _, h => by unfold eqT at h; cases h
theorem eqTs_eq : ∀ {x y : List Tree}, eqTs x y = true → x = y
  | [], [], _ => rfl
  | x :: xs, y :: ys, h => by
    unfold eqTs at h
    simp only [Bool.and_eq_true] at h
    rw [eqT_eq h.1, eqTs_eq h.2]
  | [], _ :: _, h => by unfold eqTs at h; cases h
  | _ :: _, [], h => by unfold eqTs at h; cases h
theorem eqRR_eq : ∀ {x y : List (List Tree)}, eqRR x y = true → x = y
  | [], [], _ => rfl
  | x :: xs, y :: ys, h => by
    unfold eqRR at h
    simp only [Bool.and_eq_true] at h
    rw [eqTs_eq h.1, eqRR_eq h.2]
  | [], _ :: _, h => by unfold eqRR at h; cases h
  | _ :: _, [], h => by unfold eqRR at h; cases h
end

def eqArg : Arg → Arg → Bool
  | .val (.c x), .val (.c y) => eqT x y
  | .val (.agg x), .val (.agg y) => eqTs x y
  | .bor s x, .bor s' y => decide (s = s') && eqRR x y
  | .own s x, .own s' y => decide (s = s') && eqRR x y
  | .ref x, .ref y => eqTs x y
  | .gh x, .gh y => eqTs x y
  | .clo f x, .clo g y => decide (f = g) && decide (x = y)
  | _, _ => false

theorem eqArg_eq {x y : Arg} (h : eqArg x y = true) : x = y := by
  unfold eqArg at h
  split at h
  · rw [eqT_eq h]
  · rw [eqTs_eq h]
  · simp only [Bool.and_eq_true, decide_eq_true_eq] at h; rw [h.1, eqRR_eq h.2]
  · simp only [Bool.and_eq_true, decide_eq_true_eq] at h; rw [h.1, eqRR_eq h.2]
  · rw [eqTs_eq h]
  · rw [eqTs_eq h]
  · simp only [Bool.and_eq_true, decide_eq_true_eq] at h; rw [h.1, h.2]
  · cases h

def eqArgs : List Arg → List Arg → Bool
  | [], [] => true
  | x :: xs, y :: ys => eqArg x y && eqArgs xs ys
  | _, _ => false

theorem eqArgs_eq : ∀ {x y : List Arg}, eqArgs x y = true → x = y
  | [], [], _ => rfl
  | x :: xs, y :: ys, h => by
    unfold eqArgs at h
    simp only [Bool.and_eq_true] at h
    rw [eqArg_eq h.1, eqArgs_eq h.2]
  | [], _ :: _, h => by cases h
  | _ :: _, [], h => by cases h

/-- Calls that were shown. -/
inductive Known (P : Program) : List (FuncId × List Arg × Res) → Prop where
  | nil : Known P []
  | cons {f : FuncId} {args : List Arg} {res : Res} {l : List (FuncId × List Arg × Res)} (h : ACall P f args res) (t : Known P l) : Known P ((f, args, res) :: l)

def findK : List (FuncId × List Arg × Res) → FuncId → List Arg → Option Res
  | [], _, _ => none
  | (f, aas, r) :: l, g, bs => match Nat.beq f g with
    | true => match eqArgs aas bs with
      | true => some r
      | false => findK l g bs
    | false => findK l g bs

theorem Known.find {P : Program} {l : List (FuncId × List Arg × Res)} (h : Known P l) : ∀ f aas res, findK l f aas = some res → ACall P f aas res := by
  induction h with
  | nil => intro f aas res h; cases h
  | cons h t ih =>
    rename_i f args r l
    intro g bs res hr
    unfold findK at hr
    split at hr
    · rename_i h1
      split at hr
      · rename_i h2
        cases hr
        obtain rfl := Nat.eq_of_beq_eq_true h1
        obtain rfl := eqArgs_eq h2
        exact h
      · exact ih _ _ _ hr
    · exact ih _ _ _ hr

theorem execBody_sound {P : Program} {C : Cfg} {om : FuncId → List Mode} (hC : CfgOk P C) (hmix : P.follows .mixedOrders = true) {l : List (FuncId × List Arg × Res)} (hl : Known P l) {n : Nat} {f : FuncId} {args : List Arg} {res : Res}
    (h : execBody P C om (findK l) n f args = some res) : ACall P f args res := by
  unfold execBody at h
  split at h
  · rename_i fn hfn
    split at h
    · cases h
    · rename_i hname
      split at h
      · rename_i c hbody
        refine ACall.of_body hC hfn (by simpa using hname) hbody (om := om f) ?_
        split at h
        · rename_i s h1
          exact execCode_sound hC hmix hl.find n c _ h1 ⟨.inl rfl, h⟩
        · rename_i s h1
          exact execCode_sound hC hmix hl.find n c _ h1 ⟨.inr rfl, h⟩
        · cases h
      · cases h
  · cases h
end Go.Abs
end

section
set_option linter.unusedVariables false
set_option linter.unusedSimpArgs false
/-
  A closed call, one function at a time, part 1 (printed by a program of mine).
-/
set_option maxRecDepth 100000
set_option maxHeartbeats 0
namespace Go.Proofs.YtpgbejgdmgpfjaaGreat.Mem
open Go Go.Abs Go.Proofs
def u (n : Int) : List Tree := [.v (.int .u32 n)]
def n64 (n : Int) : Tree := .v (.int .i64 n)
def w64 (n : Int) : Tree := .v (.int .u64 n)
def bT : Tree := .v (.bool true)
def bF : Tree := .v (.bool false)
def lF (l : List (List Tree)) : Tree := .lst false l
def lT (l : List (List Tree)) : Tree := .lst true l
def l1 : Tree := .lst false [u 1]
noncomputable def om : FuncId → List Abs.Mode := omOf Tryz.prog [(145, [.own 4]), (146, [.own 4]), (148, [.own 1])]
theorem ex {l : List (FuncId × List Arg × Res)} {f : FuncId} {args : List Arg} {res : Res} (hl : Known Tryz.prog l) (h : execBody Tryz.prog CC om (findK l) 100000 f args = some res) : ACall Tryz.prog f args res := execBody_sound ccOk mixed hl h
theorem k0 : ACall Tryz.prog 165 [.val (.c (lF [u 1, u 0]))] ⟨[.val (.c (l1))], [none]⟩ := ex (.nil) (by kernel_rfl)
theorem k1 : ACall Tryz.prog 127 [.val (.c (w64 1))] ⟨[.val (.c (l1))], [none]⟩ := ex (.cons k0 .nil) (by kernel_rfl)
theorem k2 : ACall Tryz.prog 165 [.val (.c (l1))] ⟨[.val (.c (l1))], [none]⟩ := ex (.nil) (by kernel_rfl)
theorem k3 : ACall Tryz.prog 126 [.val (.c (bT)), .val (.c (l1))] ⟨[.val (.agg [bT, l1])], [none, none]⟩ := ex (.cons k2 .nil) (by kernel_rfl)
theorem k4 : ACall Tryz.prog 77 [.val (.c (n64 (-1)))] ⟨[.val (.agg [bT, l1])], [none]⟩ := ex (.cons k1 (.cons k3 .nil)) (by kernel_rfl)
theorem k5 : ACall Tryz.prog 126 [.val (.c (bF)), .val (.c (l1))] ⟨[.val (.agg [bF, l1])], [none, none]⟩ := ex (.cons k2 .nil) (by kernel_rfl)
theorem k6 : ACall Tryz.prog 77 [.val (.c (n64 1))] ⟨[.val (.agg [bF, l1])], [none]⟩ := ex (.cons k1 (.cons k5 .nil)) (by kernel_rfl)
theorem k7 : ACall Tryz.prog 29 [.val (.c (n64 (-1)))] ⟨[.val (.agg [bT, l1, bF, l1])], [none]⟩ := ex (.cons k4 (.cons k6 .nil)) (by kernel_rfl)
theorem k8 : ACall Tryz.prog 165 [.val (.c (lF [u 2, u 0]))] ⟨[.val (.c (lF [u 2]))], [none]⟩ := ex (.nil) (by kernel_rfl)
theorem k9 : ACall Tryz.prog 127 [.val (.c (w64 2))] ⟨[.val (.c (lF [u 2]))], [none]⟩ := ex (.cons k8 .nil) (by kernel_rfl)
theorem k10 : ACall Tryz.prog 165 [.val (.c (lF [u 2]))] ⟨[.val (.c (lF [u 2]))], [none]⟩ := ex (.nil) (by kernel_rfl)
theorem k11 : ACall Tryz.prog 126 [.val (.c (bF)), .val (.c (lF [u 2]))] ⟨[.val (.agg [bF, lF [u 2]])], [none, none]⟩ := ex (.cons k10 .nil) (by kernel_rfl)
theorem k12 : ACall Tryz.prog 77 [.val (.c (n64 2))] ⟨[.val (.agg [bF, lF [u 2]])], [none]⟩ := ex (.cons k9 (.cons k11 .nil)) (by kernel_rfl)
theorem k13 : ACall Tryz.prog 29 [.val (.c (n64 2))] ⟨[.val (.agg [bF, lF [u 2], bF, l1])], [none]⟩ := ex (.cons k12 (.cons k6 .nil)) (by kernel_rfl)
theorem k14 : ACall Tryz.prog 57 [.val (.c (n64 (-1))), .val (.c (n64 2))] ⟨[.val (.agg [bT, l1, bF, l1, bF, lF [u 2], bF, l1])], [none, none]⟩ := ex (.cons k7 (.cons k13 .nil)) (by kernel_rfl)
theorem k15 : ACall Tryz.prog 29 [.val (.c (n64 1))] ⟨[.val (.agg [bF, l1, bF, l1])], [none]⟩ := ex (.cons k6 .nil) (by kernel_rfl)
theorem k16 : ACall Tryz.prog 165 [.val (.c (lF [u 5, u 0]))] ⟨[.val (.c (lF [u 5]))], [none]⟩ := ex (.nil) (by kernel_rfl)
theorem k17 : ACall Tryz.prog 127 [.val (.c (w64 5))] ⟨[.val (.c (lF [u 5]))], [none]⟩ := ex (.cons k16 .nil) (by kernel_rfl)
theorem k18 : ACall Tryz.prog 165 [.val (.c (lF [u 5]))] ⟨[.val (.c (lF [u 5]))], [none]⟩ := ex (.nil) (by kernel_rfl)
theorem k19 : ACall Tryz.prog 126 [.val (.c (bF)), .val (.c (lF [u 5]))] ⟨[.val (.agg [bF, lF [u 5]])], [none, none]⟩ := ex (.cons k18 .nil) (by kernel_rfl)
theorem k20 : ACall Tryz.prog 77 [.val (.c (n64 5))] ⟨[.val (.agg [bF, lF [u 5]])], [none]⟩ := ex (.cons k17 (.cons k19 .nil)) (by kernel_rfl)
theorem k21 : ACall Tryz.prog 29 [.val (.c (n64 5))] ⟨[.val (.agg [bF, lF [u 5], bF, l1])], [none]⟩ := ex (.cons k20 (.cons k6 .nil)) (by kernel_rfl)
theorem k22 : ACall Tryz.prog 57 [.val (.c (n64 1)), .val (.c (n64 5))] ⟨[.val (.agg [bF, l1, bF, l1, bF, lF [u 5], bF, l1])], [none, none]⟩ := ex (.cons k15 (.cons k21 .nil)) (by kernel_rfl)
theorem k23 : ACall Tryz.prog 118 [.val (.agg [bF, l1])] ⟨[.val (.c (n64 1))], [none]⟩ := ex (.nil) (by kernel_rfl)
theorem k24 : ACall Tryz.prog 113 [.val (.agg [bF, l1, bF, l1])] ⟨[.val (.c (n64 1))], [none]⟩ := ex (.cons k23 .nil) (by kernel_rfl)
theorem k25 : ACall Tryz.prog 118 [.val (.agg [bT, l1])] ⟨[.val (.c (n64 (-1)))], [none]⟩ := ex (.nil) (by kernel_rfl)
theorem k26 : ACall Tryz.prog 113 [.val (.agg [bT, l1, bF, l1])] ⟨[.val (.c (n64 (-1)))], [none]⟩ := ex (.cons k25 .nil) (by kernel_rfl)
theorem k27 : ACall Tryz.prog 67 [.val (.agg [bF, l1, bF, l1]), .val (.agg [bT, l1, bF, l1])] ⟨[.val (.c (n64 1))], [none, none]⟩ := ex (.cons k24 (.cons k26 .nil)) (by kernel_rfl)
theorem k28 : ACall Tryz.prog 65 [.val (.c (lF [[bT, l1, bF, l1], [bF, l1, bF, l1]]))] ⟨[.val (.agg [bF, l1, bF, l1])], [none]⟩ := ex (.cons k27 .nil) (by kernel_rfl)
theorem k29 : ACall Tryz.prog 118 [.val (.agg [bF, lF [u 5]])] ⟨[.val (.c (n64 1))], [none]⟩ := ex (.nil) (by kernel_rfl)
theorem k30 : ACall Tryz.prog 113 [.val (.agg [bF, lF [u 5], bF, l1])] ⟨[.val (.c (n64 1))], [none]⟩ := ex (.cons k29 .nil) (by kernel_rfl)
theorem k31 : ACall Tryz.prog 118 [.val (.agg [bF, lF [u 2]])] ⟨[.val (.c (n64 1))], [none]⟩ := ex (.nil) (by kernel_rfl)
theorem k32 : ACall Tryz.prog 113 [.val (.agg [bF, lF [u 2], bF, l1])] ⟨[.val (.c (n64 1))], [none]⟩ := ex (.cons k31 .nil) (by kernel_rfl)
theorem k33 : ACall Tryz.prog 158 [.val (.c (lF [u 1, u 0]))] ⟨[.val (.c (l1))], [none]⟩ := ex (.nil) (by kernel_rfl)
theorem k34 : ACall Tryz.prog 161 [.val (.c (w64 1))] ⟨[.val (.c (l1))], [none]⟩ := ex (.cons k33 .nil) (by kernel_rfl)
theorem k35 : ACall Tryz.prog 158 [.val (.c (l1))] ⟨[.val (.c (l1))], [none]⟩ := ex (.nil) (by kernel_rfl)
theorem k36 : ACall Tryz.prog 160 [.val (.c (bF)), .val (.c (l1))] ⟨[.val (.agg [bF, l1])], [none, none]⟩ := ex (.cons k35 .nil) (by kernel_rfl)
theorem k37 : ACall Tryz.prog 142 [.val (.c (n64 1))] ⟨[.val (.agg [bF, l1])], [none]⟩ := ex (.cons k34 (.cons k36 .nil)) (by kernel_rfl)
theorem k38 : ACall Tryz.prog 119 [.val (.agg [bF, lF [u 5]])] ⟨[.val (.c (bF))], [none]⟩ := ex (.nil) (by kernel_rfl)
theorem k39 : ACall Tryz.prog 119 [.val (.agg [bF, l1])] ⟨[.val (.c (bT))], [none]⟩ := ex (.nil) (by kernel_rfl)
theorem k40 : ACall Tryz.prog 115 [.val (.c (lF [[bF, lF [u 5]], [bF, l1]]))] ⟨[.val (.agg [bF, lF [u 5]])], [none]⟩ := ex (.cons k37 (.cons k38 (.cons k39 .nil))) (by kernel_rfl)
theorem k41 : ACall Tryz.prog 119 [.val (.agg [bF, lF [u 2]])] ⟨[.val (.c (bF))], [none]⟩ := ex (.nil) (by kernel_rfl)
theorem k42 : ACall Tryz.prog 115 [.val (.c (lF [[bF, lF [u 2]], [bF, l1]]))] ⟨[.val (.agg [bF, lF [u 2]])], [none]⟩ := ex (.cons k37 (.cons k41 (.cons k39 .nil))) (by kernel_rfl)
theorem k43 : ACall Tryz.prog 155 [.val (.c (lF [u 5])), .val (.c (lF [u 2]))] ⟨[.val (.c (n64 1))], [none, none]⟩ := ex (.nil) (by kernel_rfl)
theorem k44 : ACall Tryz.prog 114 [.val (.agg [bF, lF [u 5]]), .val (.agg [bF, lF [u 2]])] ⟨[.val (.c (n64 1))], [none, none]⟩ := ex (.cons k29 (.cons k31 (.cons k43 .nil))) (by kernel_rfl)
theorem k45 : ACall Tryz.prog 67 [.val (.agg [bF, lF [u 5], bF, l1]), .val (.agg [bF, lF [u 2], bF, l1])] ⟨[.val (.c (n64 1))], [none, none]⟩ := ex (.cons k30 (.cons k32 (.cons k40 (.cons k42 (.cons k44 .nil))))) (by kernel_rfl)
theorem k46 : ACall Tryz.prog 66 [.val (.c (lF [[bF, lF [u 2], bF, l1], [bF, lF [u 5], bF, l1]]))] ⟨[.val (.agg [bF, lF [u 2], bF, l1])], [none]⟩ := ex (.cons k45 .nil) (by kernel_rfl)
theorem k47 : ACall Tryz.prog 115 [.val (.c (lF [[bF, l1], [bF, l1]]))] ⟨[.val (.agg [bF, l1])], [none]⟩ := ex (.cons k37 (.cons k39 .nil)) (by kernel_rfl)
theorem k48 : ACall Tryz.prog 155 [.val (.c (l1)), .val (.c (lF [u 2]))] ⟨[.val (.c (n64 (-1)))], [none, none]⟩ := ex (.nil) (by kernel_rfl)
theorem k49 : ACall Tryz.prog 114 [.val (.agg [bF, l1]), .val (.agg [bF, lF [u 2]])] ⟨[.val (.c (n64 (-1)))], [none, none]⟩ := ex (.cons k23 (.cons k31 (.cons k48 .nil))) (by kernel_rfl)
theorem k50 : ACall Tryz.prog 67 [.val (.agg [bF, l1, bF, l1]), .val (.agg [bF, lF [u 2], bF, l1])] ⟨[.val (.c (n64 (-1)))], [none, none]⟩ := ex (.cons k24 (.cons k32 (.cons k47 (.cons k42 (.cons k49 .nil))))) (by kernel_rfl)
theorem k51 : ACall Tryz.prog 13 [.val (.agg [bT, l1, bF, l1, bF, lF [u 2], bF, l1]), .val (.agg [bF, l1, bF, l1, bF, lF [u 5], bF, l1])] ⟨[.val (.agg [bF, l1, bF, l1, bF, lF [u 2], bF, l1]), .val (.c (bT))], [none, none]⟩ := ex (.cons k28 (.cons k46 (.cons k50 .nil))) (by kernel_rfl)
theorem k52 : ACall Tryz.prog 165 [.val (.c (lF [u 3, u 0]))] ⟨[.val (.c (lF [u 3]))], [none]⟩ := ex (.nil) (by kernel_rfl)
theorem k53 : ACall Tryz.prog 127 [.val (.c (w64 3))] ⟨[.val (.c (lF [u 3]))], [none]⟩ := ex (.cons k52 .nil) (by kernel_rfl)
theorem k54 : ACall Tryz.prog 165 [.val (.c (lF [u 3]))] ⟨[.val (.c (lF [u 3]))], [none]⟩ := ex (.nil) (by kernel_rfl)
theorem k55 : ACall Tryz.prog 126 [.val (.c (bF)), .val (.c (lF [u 3]))] ⟨[.val (.agg [bF, lF [u 3]])], [none, none]⟩ := ex (.cons k54 .nil) (by kernel_rfl)
theorem k56 : ACall Tryz.prog 77 [.val (.c (n64 3))] ⟨[.val (.agg [bF, lF [u 3]])], [none]⟩ := ex (.cons k53 (.cons k55 .nil)) (by kernel_rfl)
theorem k57 : ACall Tryz.prog 29 [.val (.c (n64 3))] ⟨[.val (.agg [bF, lF [u 3], bF, l1])], [none]⟩ := ex (.cons k56 (.cons k6 .nil)) (by kernel_rfl)
theorem k58 : ACall Tryz.prog 57 [.val (.c (n64 3)), .val (.c (n64 5))] ⟨[.val (.agg [bF, lF [u 3], bF, l1, bF, lF [u 5], bF, l1])], [none, none]⟩ := ex (.cons k57 (.cons k21 .nil)) (by kernel_rfl)
theorem k59 : ACall Tryz.prog 118 [.val (.agg [bF, lF [u 3]])] ⟨[.val (.c (n64 1))], [none]⟩ := ex (.nil) (by kernel_rfl)
theorem k60 : ACall Tryz.prog 113 [.val (.agg [bF, lF [u 3], bF, l1])] ⟨[.val (.c (n64 1))], [none]⟩ := ex (.cons k59 .nil) (by kernel_rfl)
theorem k61 : ACall Tryz.prog 67 [.val (.agg [bF, lF [u 3], bF, l1]), .val (.agg [bT, l1, bF, l1])] ⟨[.val (.c (n64 1))], [none, none]⟩ := ex (.cons k60 (.cons k26 .nil)) (by kernel_rfl)
theorem k62 : ACall Tryz.prog 65 [.val (.c (lF [[bT, l1, bF, l1], [bF, lF [u 3], bF, l1]]))] ⟨[.val (.agg [bF, lF [u 3], bF, l1])], [none]⟩ := ex (.cons k61 .nil) (by kernel_rfl)
theorem k63 : ACall Tryz.prog 119 [.val (.agg [bF, lF [u 3]])] ⟨[.val (.c (bF))], [none]⟩ := ex (.nil) (by kernel_rfl)
theorem k64 : ACall Tryz.prog 115 [.val (.c (lF [[bF, lF [u 3]], [bF, l1]]))] ⟨[.val (.agg [bF, lF [u 3]])], [none]⟩ := ex (.cons k37 (.cons k63 (.cons k39 .nil))) (by kernel_rfl)
theorem k65 : ACall Tryz.prog 155 [.val (.c (lF [u 3])), .val (.c (lF [u 2]))] ⟨[.val (.c (n64 1))], [none, none]⟩ := ex (.nil) (by kernel_rfl)
theorem k66 : ACall Tryz.prog 114 [.val (.agg [bF, lF [u 3]]), .val (.agg [bF, lF [u 2]])] ⟨[.val (.c (n64 1))], [none, none]⟩ := ex (.cons k59 (.cons k31 (.cons k65 .nil))) (by kernel_rfl)
theorem k67 : ACall Tryz.prog 67 [.val (.agg [bF, lF [u 3], bF, l1]), .val (.agg [bF, lF [u 2], bF, l1])] ⟨[.val (.c (n64 1))], [none, none]⟩ := ex (.cons k60 (.cons k32 (.cons k64 (.cons k42 (.cons k66 .nil))))) (by kernel_rfl)
theorem k68 : ACall Tryz.prog 13 [.val (.agg [bT, l1, bF, l1, bF, lF [u 2], bF, l1]), .val (.agg [bF, lF [u 3], bF, l1, bF, lF [u 5], bF, l1])] ⟨[.val (.agg [bF, lT [], bF, lT [], bF, lT [], bF, lT []]), .val (.c (bF))], [none, none]⟩ := ex (.cons k62 (.cons k46 (.cons k67 .nil))) (by kernel_rfl)
theorem k69 : ACall Tryz.prog 126 [.val (.c (bT)), .val (.c (lF [u 3]))] ⟨[.val (.agg [bT, lF [u 3]])], [none, none]⟩ := ex (.cons k54 .nil) (by kernel_rfl)
theorem k70 : ACall Tryz.prog 77 [.val (.c (n64 (-3)))] ⟨[.val (.agg [bT, lF [u 3]])], [none]⟩ := ex (.cons k53 (.cons k69 .nil)) (by kernel_rfl)
theorem k71 : ACall Tryz.prog 29 [.val (.c (n64 (-3)))] ⟨[.val (.agg [bT, lF [u 3], bF, l1])], [none]⟩ := ex (.cons k70 (.cons k6 .nil)) (by kernel_rfl)
theorem k72 : ACall Tryz.prog 57 [.val (.c (n64 (-3))), .val (.c (n64 1))] ⟨[.val (.agg [bT, lF [u 3], bF, l1, bF, l1, bF, l1])], [none, none]⟩ := ex (.cons k71 (.cons k15 .nil)) (by kernel_rfl)
theorem k73 : ACall Tryz.prog 140 [.val (.agg [bT, l1]), .val (.agg [bF, l1])] ⟨[.val (.agg [bT, l1, bF, l1])], [none, none]⟩ := ex (.cons k39 .nil) (by kernel_rfl)
theorem k74 : ACall Tryz.prog 140 [.val (.agg [bT, lF [u 3]]), .val (.agg [bF, l1])] ⟨[.val (.agg [bT, lF [u 3], bF, l1])], [none, none]⟩ := ex (.cons k39 .nil) (by kernel_rfl)
theorem k75 : ACall Tryz.prog 119 [.val (.agg [bT, l1])] ⟨[.val (.c (bF))], [none]⟩ := ex (.nil) (by kernel_rfl)
theorem k76 : ACall Tryz.prog 119 [.val (.agg [bT, lF [u 3]])] ⟨[.val (.c (bF))], [none]⟩ := ex (.nil) (by kernel_rfl)
theorem k77 : ACall Tryz.prog 158 [.val (.c (lF [u 3, u 0]))] ⟨[.val (.c (lF [u 3]))], [none]⟩ := ex (.nil) (by kernel_rfl)
theorem k78 : ACall Tryz.prog 183 [.val (.c (l1)), .val (.c (lF [u 3]))] ⟨[.val (.c (lF [u 3]))], [none, none]⟩ := ex (.cons k77 .nil) (by kernel_rfl)
theorem k79 : ACall Tryz.prog 158 [.val (.c (lF [u 3]))] ⟨[.val (.c (lF [u 3]))], [none]⟩ := ex (.nil) (by kernel_rfl)
theorem k80 : ACall Tryz.prog 160 [.val (.c (bF)), .val (.c (lF [u 3]))] ⟨[.val (.agg [bF, lF [u 3]])], [none, none]⟩ := ex (.cons k79 .nil) (by kernel_rfl)
theorem k81 : ACall Tryz.prog 156 [.val (.agg [bT, l1]), .val (.agg [bT, lF [u 3]])] ⟨[.val (.agg [bF, lF [u 3]])], [none, none]⟩ := ex (.cons k78 (.cons k80 .nil)) (by kernel_rfl)
theorem k82 : ACall Tryz.prog 115 [.val (.c (lF [[bT, l1], [bT, lF [u 3]]]))] ⟨[.val (.agg [bF, lF [u 3]])], [none]⟩ := ex (.cons k37 (.cons k75 (.cons k39 (.cons k76 (.cons k81 .nil))))) (by kernel_rfl)
theorem k83 : ACall Tryz.prog 99 [.val (.agg [bT, l1, bF, l1]), .val (.agg [bT, lF [u 3], bF, l1])] ⟨[.val (.agg [bF, lF [u 3], bF, l1])], [none, none]⟩ := ex (.cons k73 (.cons k74 (.cons k82 (.cons k47 .nil)))) (by kernel_rfl)
theorem k84 : ACall Tryz.prog 140 [.val (.agg [bF, l1]), .val (.agg [bF, l1])] ⟨[.val (.agg [bF, l1, bF, l1])], [none, none]⟩ := ex (.cons k39 .nil) (by kernel_rfl)
theorem k85 : ACall Tryz.prog 115 [.val (.c (lF [[bT, l1], [bF, l1]]))] ⟨[.val (.agg [bT, l1])], [none]⟩ := ex (.cons k37 (.cons k75 (.cons k39 .nil))) (by kernel_rfl)
theorem k86 : ACall Tryz.prog 99 [.val (.agg [bT, l1, bF, l1]), .val (.agg [bF, l1, bF, l1])] ⟨[.val (.agg [bT, l1, bF, l1])], [none, none]⟩ := ex (.cons k73 (.cons k84 (.cons k85 (.cons k47 .nil)))) (by kernel_rfl)
theorem k87 : ACall Tryz.prog 140 [.val (.agg [bF, lF [u 2]]), .val (.agg [bF, l1])] ⟨[.val (.agg [bF, lF [u 2], bF, l1])], [none, none]⟩ := ex (.cons k39 .nil) (by kernel_rfl)
theorem k88 : ACall Tryz.prog 158 [.val (.c (lF [u 6, u 0]))] ⟨[.val (.c (lF [u 6]))], [none]⟩ := ex (.nil) (by kernel_rfl)
theorem k89 : ACall Tryz.prog 183 [.val (.c (lF [u 2])), .val (.c (lF [u 3]))] ⟨[.val (.c (lF [u 6]))], [none, none]⟩ := ex (.cons k88 .nil) (by kernel_rfl)
theorem k90 : ACall Tryz.prog 158 [.val (.c (lF [u 6]))] ⟨[.val (.c (lF [u 6]))], [none]⟩ := ex (.nil) (by kernel_rfl)
theorem k91 : ACall Tryz.prog 160 [.val (.c (bT)), .val (.c (lF [u 6]))] ⟨[.val (.agg [bT, lF [u 6]])], [none, none]⟩ := ex (.cons k90 .nil) (by kernel_rfl)
theorem k92 : ACall Tryz.prog 156 [.val (.agg [bF, lF [u 2]]), .val (.agg [bT, lF [u 3]])] ⟨[.val (.agg [bT, lF [u 6]])], [none, none]⟩ := ex (.cons k89 (.cons k91 .nil)) (by kernel_rfl)
theorem k93 : ACall Tryz.prog 115 [.val (.c (lF [[bF, lF [u 2]], [bT, lF [u 3]]]))] ⟨[.val (.agg [bT, lF [u 6]])], [none]⟩ := ex (.cons k37 (.cons k41 (.cons k39 (.cons k76 (.cons k92 .nil))))) (by kernel_rfl)
theorem k94 : ACall Tryz.prog 99 [.val (.agg [bF, lF [u 2], bF, l1]), .val (.agg [bT, lF [u 3], bF, l1])] ⟨[.val (.agg [bT, lF [u 6], bF, l1])], [none, none]⟩ := ex (.cons k87 (.cons k74 (.cons k93 (.cons k47 .nil)))) (by kernel_rfl)
theorem k95 : ACall Tryz.prog 99 [.val (.agg [bF, lF [u 2], bF, l1]), .val (.agg [bF, l1, bF, l1])] ⟨[.val (.agg [bF, lF [u 2], bF, l1])], [none, none]⟩ := ex (.cons k87 (.cons k84 (.cons k42 (.cons k47 .nil)))) (by kernel_rfl)
theorem k96 : ACall Tryz.prog 67 [.val (.agg [bT, l1, bF, l1]), .val (.agg [bF, lF [u 3], bF, l1])] ⟨[.val (.c (n64 (-1)))], [none, none]⟩ := ex (.cons k26 (.cons k60 .nil)) (by kernel_rfl)
theorem k97 : ACall Tryz.prog 118 [.val (.agg [bT, lF [u 6]])] ⟨[.val (.c (n64 (-1)))], [none]⟩ := ex (.nil) (by kernel_rfl)
theorem k98 : ACall Tryz.prog 113 [.val (.agg [bT, lF [u 6], bF, l1])] ⟨[.val (.c (n64 (-1)))], [none]⟩ := ex (.cons k97 .nil) (by kernel_rfl)
theorem k99 : ACall Tryz.prog 119 [.val (.agg [bT, lF [u 6]])] ⟨[.val (.c (bF))], [none]⟩ := ex (.nil) (by kernel_rfl)
theorem k100 : ACall Tryz.prog 115 [.val (.c (lF [[bT, lF [u 6]], [bF, l1]]))] ⟨[.val (.agg [bT, lF [u 6]])], [none]⟩ := ex (.cons k37 (.cons k99 (.cons k39 .nil))) (by kernel_rfl)
theorem k101 : ACall Tryz.prog 155 [.val (.c (l1)), .val (.c (lF [u 6]))] ⟨[.val (.c (n64 (-1)))], [none, none]⟩ := ex (.nil) (by kernel_rfl)
theorem k102 : ACall Tryz.prog 114 [.val (.agg [bT, lF [u 6]]), .val (.agg [bT, l1])] ⟨[.val (.c (n64 (-1)))], [none, none]⟩ := ex (.cons k97 (.cons k25 (.cons k101 .nil))) (by kernel_rfl)
theorem k103 : ACall Tryz.prog 67 [.val (.agg [bT, lF [u 6], bF, l1]), .val (.agg [bT, l1, bF, l1])] ⟨[.val (.c (n64 (-1)))], [none, none]⟩ := ex (.cons k98 (.cons k26 (.cons k100 (.cons k85 (.cons k102 .nil))))) (by kernel_rfl)
theorem k104 : ACall Tryz.prog 67 [.val (.agg [bF, lF [u 2], bF, l1]), .val (.agg [bT, lF [u 6], bF, l1])] ⟨[.val (.c (n64 1))], [none, none]⟩ := ex (.cons k32 (.cons k98 .nil)) (by kernel_rfl)
theorem k105 : ACall Tryz.prog 66 [.val (.c (lF [[bF, lF [u 3], bF, l1], [bT, l1, bF, l1], [bT, lF [u 6], bF, l1], [bF, lF [u 2], bF, l1]]))] ⟨[.val (.agg [bT, lF [u 6], bF, l1])], [none]⟩ := ex (.cons k96 (.cons k103 (.cons k104 .nil))) (by kernel_rfl)
theorem k106 : ACall Tryz.prog 67 [.val (.agg [bT, lF [u 6], bF, l1]), .val (.agg [bF, lF [u 3], bF, l1])] ⟨[.val (.c (n64 (-1)))], [none, none]⟩ := ex (.cons k98 (.cons k60 .nil)) (by kernel_rfl)
theorem k107 : ACall Tryz.prog 155 [.val (.c (lF [u 2])), .val (.c (lF [u 3]))] ⟨[.val (.c (n64 (-1)))], [none, none]⟩ := ex (.nil) (by kernel_rfl)
theorem k108 : ACall Tryz.prog 114 [.val (.agg [bF, lF [u 2]]), .val (.agg [bF, lF [u 3]])] ⟨[.val (.c (n64 (-1)))], [none, none]⟩ := ex (.cons k31 (.cons k59 (.cons k107 .nil))) (by kernel_rfl)
theorem k109 : ACall Tryz.prog 67 [.val (.agg [bF, lF [u 2], bF, l1]), .val (.agg [bF, lF [u 3], bF, l1])] ⟨[.val (.c (n64 (-1)))], [none, none]⟩ := ex (.cons k32 (.cons k60 (.cons k42 (.cons k64 (.cons k108 .nil))))) (by kernel_rfl)
theorem k110 : ACall Tryz.prog 65 [.val (.c (lF [[bF, lF [u 3], bF, l1], [bT, l1, bF, l1], [bT, lF [u 6], bF, l1], [bF, lF [u 2], bF, l1]]))] ⟨[.val (.agg [bF, lF [u 3], bF, l1])], [none]⟩ := ex (.cons k96 (.cons k106 (.cons k109 .nil))) (by kernel_rfl)
theorem k111 : ACall Tryz.prog 124 [.val (.c (lF [[bF, lF [u 3], bF, l1], [bT, l1, bF, l1], [bT, lF [u 6], bF, l1], [bF, lF [u 2], bF, l1]]))] ⟨[.val (.agg [bT, lF [u 6], bF, l1, bF, lF [u 3], bF, l1])], [none]⟩ := ex (.cons k105 (.cons k110 .nil)) (by kernel_rfl)
theorem k112 : ACall Tryz.prog 74 [.val (.agg [bT, l1, bF, l1, bF, lF [u 2], bF, l1]), .val (.agg [bT, lF [u 3], bF, l1, bF, l1, bF, l1])] ⟨[.val (.agg [bT, lF [u 6], bF, l1, bF, lF [u 3], bF, l1])], [none, none]⟩ := ex (.cons k83 (.cons k86 (.cons k94 (.cons k95 (.cons k111 .nil))))) (by kernel_rfl)
theorem k113 : ACall Tryz.prog 71 [.val (.c (.v (.func (.func 74) #[] #[]))), .val (.agg [bT, l1, bF, l1, bF, lF [u 2], bF, l1]), .val (.agg [bT, lF [u 3], bF, l1, bF, l1, bF, l1])] ⟨[.val (.agg [bT, lF [u 6], bF, l1, bF, lF [u 3], bF, l1])], [none, none, none]⟩ := ex (.cons k112 .nil) (by kernel_rfl)
theorem k114 : ACall Tryz.prog 24 [.val (.agg [bT, l1, bF, l1, bF, lF [u 2], bF, l1]), .val (.agg [bT, lF [u 3], bF, l1, bF, l1, bF, l1])] ⟨[.val (.agg [bT, lF [u 6], bF, l1, bF, lF [u 3], bF, l1])], [none, none]⟩ := ex (.cons k113 .nil) (by kernel_rfl)
theorem k115 : ACall Tryz.prog 165 [.val (.c (lF [u 6, u 0]))] ⟨[.val (.c (lF [u 6]))], [none]⟩ := ex (.nil) (by kernel_rfl)
theorem k116 : ACall Tryz.prog 127 [.val (.c (w64 6))] ⟨[.val (.c (lF [u 6]))], [none]⟩ := ex (.cons k115 .nil) (by kernel_rfl)
theorem k117 : ACall Tryz.prog 165 [.val (.c (lF [u 6]))] ⟨[.val (.c (lF [u 6]))], [none]⟩ := ex (.nil) (by kernel_rfl)
theorem k118 : ACall Tryz.prog 126 [.val (.c (bT)), .val (.c (lF [u 6]))] ⟨[.val (.agg [bT, lF [u 6]])], [none, none]⟩ := ex (.cons k117 .nil) (by kernel_rfl)
theorem k119 : ACall Tryz.prog 77 [.val (.c (n64 (-6)))] ⟨[.val (.agg [bT, lF [u 6]])], [none]⟩ := ex (.cons k116 (.cons k118 .nil)) (by kernel_rfl)
theorem k120 : ACall Tryz.prog 29 [.val (.c (n64 (-6)))] ⟨[.val (.agg [bT, lF [u 6], bF, l1])], [none]⟩ := ex (.cons k119 (.cons k6 .nil)) (by kernel_rfl)
theorem k121 : ACall Tryz.prog 57 [.val (.c (n64 (-6))), .val (.c (n64 3))] ⟨[.val (.agg [bT, lF [u 6], bF, l1, bF, lF [u 3], bF, l1])], [none, none]⟩ := ex (.cons k120 (.cons k57 .nil)) (by kernel_rfl)
theorem k122 : ACall Tryz.prog 82 [.val (.agg [bT, lF [u 6]]), .val (.agg [bT, lF [u 6]])] ⟨[.val (.c (bT))], [none, none]⟩ := ex (.nil) (by kernel_rfl)
theorem k123 : ACall Tryz.prog 82 [.val (.agg [bF, l1]), .val (.agg [bF, l1])] ⟨[.val (.c (bT))], [none, none]⟩ := ex (.nil) (by kernel_rfl)
theorem k124 : ACall Tryz.prog 33 [.val (.agg [bT, lF [u 6], bF, l1]), .val (.agg [bT, lF [u 6], bF, l1])] ⟨[.val (.c (bT))], [none, none]⟩ := ex (.cons k122 (.cons k123 .nil)) (by kernel_rfl)
theorem k125 : ACall Tryz.prog 82 [.val (.agg [bF, lF [u 3]]), .val (.agg [bF, lF [u 3]])] ⟨[.val (.c (bT))], [none, none]⟩ := ex (.nil) (by kernel_rfl)
theorem k126 : ACall Tryz.prog 33 [.val (.agg [bF, lF [u 3], bF, l1]), .val (.agg [bF, lF [u 3], bF, l1])] ⟨[.val (.c (bT))], [none, none]⟩ := ex (.cons k125 (.cons k123 .nil)) (by kernel_rfl)
theorem k127 : ACall Tryz.prog 15 [.val (.agg [bT, lF [u 6], bF, l1, bF, lF [u 3], bF, l1]), .val (.agg [bT, lF [u 6], bF, l1, bF, lF [u 3], bF, l1])] ⟨[.val (.c (bT))], [none, none]⟩ := ex (.cons k124 (.cons k126 .nil)) (by kernel_rfl)
theorem k128 : ACall Tryz.prog 141 [.val (.agg [bF, l1])] ⟨[.val (.agg [bF, l1, bF, l1])], [none]⟩ := ex (.cons k37 .nil) (by kernel_rfl)
theorem k129 : ACall Tryz.prog 94 [.val (.c (n64 1))] ⟨[.val (.agg [bF, l1, bF, l1])], [none]⟩ := ex (.cons k37 (.cons k128 .nil)) (by kernel_rfl)
theorem k130 : ACall Tryz.prog 115 [.val (.c (lF [[bF, l1], [bT, l1]]))] ⟨[.val (.agg [bT, l1])], [none]⟩ := ex (.cons k37 (.cons k39 (.cons k75 .nil))) (by kernel_rfl)
theorem k131 : ACall Tryz.prog 99 [.val (.agg [bF, l1, bF, l1]), .val (.agg [bT, l1, bF, l1])] ⟨[.val (.agg [bT, l1, bF, l1])], [none, none]⟩ := ex (.cons k84 (.cons k73 (.cons k130 (.cons k47 .nil)))) (by kernel_rfl)
theorem k132 : ACall Tryz.prog 183 [.val (.c (l1)), .val (.c (l1))] ⟨[.val (.c (l1))], [none, none]⟩ := ex (.cons k33 .nil) (by kernel_rfl)
theorem k133 : ACall Tryz.prog 156 [.val (.agg [bT, l1]), .val (.agg [bT, l1])] ⟨[.val (.agg [bF, l1])], [none, none]⟩ := ex (.cons k132 (.cons k36 .nil)) (by kernel_rfl)
theorem k134 : ACall Tryz.prog 115 [.val (.c (lF [[bT, l1], [bT, l1]]))] ⟨[.val (.agg [bF, l1])], [none]⟩ := ex (.cons k37 (.cons k75 (.cons k39 (.cons k133 .nil)))) (by kernel_rfl)
theorem k135 : ACall Tryz.prog 99 [.val (.agg [bT, l1, bF, l1]), .val (.agg [bT, l1, bF, l1])] ⟨[.val (.agg [bF, l1, bF, l1])], [none, none]⟩ := ex (.cons k73 (.cons k134 (.cons k47 .nil))) (by kernel_rfl)
theorem k136 : ACall Tryz.prog 125 [.val (.agg [bT, l1, bF, l1]), .val (.c (n64 2))] ⟨[.val (.agg [bF, l1, bF, l1])], [none, none]⟩ := ex (.cons k129 (.cons k131 (.cons k135 .nil))) (by kernel_rfl)
theorem k137 : ACall Tryz.prog 115 [.val (.c (lF [[bF, l1], [bF, lF [u 2]]]))] ⟨[.val (.agg [bF, lF [u 2]])], [none]⟩ := ex (.cons k37 (.cons k39 (.cons k41 .nil))) (by kernel_rfl)
theorem k138 : ACall Tryz.prog 99 [.val (.agg [bF, l1, bF, l1]), .val (.agg [bF, lF [u 2], bF, l1])] ⟨[.val (.agg [bF, lF [u 2], bF, l1])], [none, none]⟩ := ex (.cons k84 (.cons k87 (.cons k137 (.cons k47 .nil)))) (by kernel_rfl)
theorem k139 : ACall Tryz.prog 158 [.val (.c (lF [u 4, u 0]))] ⟨[.val (.c (lF [u 4]))], [none]⟩ := ex (.nil) (by kernel_rfl)
end Go.Proofs.YtpgbejgdmgpfjaaGreat.Mem
end

section
set_option linter.unusedVariables false
set_option linter.unusedSimpArgs false
/-
  A closed call, one function at a time, part 2 (printed by a program of mine).
-/
set_option maxRecDepth 100000
set_option maxHeartbeats 0
namespace Go.Proofs.YtpgbejgdmgpfjaaGreat.Mem
open Go Go.Abs Go.Proofs
theorem k140 : ACall Tryz.prog 183 [.val (.c (lF [u 2])), .val (.c (lF [u 2]))] ⟨[.val (.c (lF [u 4]))], [none, none]⟩ := ex (.cons k139 .nil) (by kernel_rfl)
theorem k141 : ACall Tryz.prog 158 [.val (.c (lF [u 4]))] ⟨[.val (.c (lF [u 4]))], [none]⟩ := ex (.nil) (by kernel_rfl)
theorem k142 : ACall Tryz.prog 160 [.val (.c (bF)), .val (.c (lF [u 4]))] ⟨[.val (.agg [bF, lF [u 4]])], [none, none]⟩ := ex (.cons k141 .nil) (by kernel_rfl)
theorem k143 : ACall Tryz.prog 156 [.val (.agg [bF, lF [u 2]]), .val (.agg [bF, lF [u 2]])] ⟨[.val (.agg [bF, lF [u 4]])], [none, none]⟩ := ex (.cons k140 (.cons k142 .nil)) (by kernel_rfl)
theorem k144 : ACall Tryz.prog 115 [.val (.c (lF [[bF, lF [u 2]], [bF, lF [u 2]]]))] ⟨[.val (.agg [bF, lF [u 4]])], [none]⟩ := ex (.cons k37 (.cons k41 (.cons k39 (.cons k143 .nil)))) (by kernel_rfl)
theorem k145 : ACall Tryz.prog 99 [.val (.agg [bF, lF [u 2], bF, l1]), .val (.agg [bF, lF [u 2], bF, l1])] ⟨[.val (.agg [bF, lF [u 4], bF, l1])], [none, none]⟩ := ex (.cons k87 (.cons k144 (.cons k47 .nil))) (by kernel_rfl)
theorem k146 : ACall Tryz.prog 125 [.val (.agg [bF, lF [u 2], bF, l1]), .val (.c (n64 2))] ⟨[.val (.agg [bF, lF [u 4], bF, l1])], [none, none]⟩ := ex (.cons k129 (.cons k138 (.cons k145 .nil))) (by kernel_rfl)
theorem k147 : ACall Tryz.prog 158 [.val (.c (lF [u 0, u 0]))] ⟨[.val (.c (lF []))], [none]⟩ := ex (.nil) (by kernel_rfl)
theorem k148 : ACall Tryz.prog 161 [.val (.c (w64 0))] ⟨[.val (.c (lF []))], [none]⟩ := ex (.cons k147 .nil) (by kernel_rfl)
theorem k149 : ACall Tryz.prog 158 [.val (.c (lF []))] ⟨[.val (.c (lF []))], [none]⟩ := ex (.nil) (by kernel_rfl)
theorem k150 : ACall Tryz.prog 160 [.val (.c (bF)), .val (.c (lF []))] ⟨[.val (.agg [bF, lT []])], [none, none]⟩ := ex (.cons k149 .nil) (by kernel_rfl)
theorem k151 : ACall Tryz.prog 142 [.val (.c (n64 0))] ⟨[.val (.agg [bF, lT []])], [none]⟩ := ex (.cons k148 (.cons k150 .nil)) (by kernel_rfl)
theorem k152 : ACall Tryz.prog 141 [.val (.agg [bF, lT []])] ⟨[.val (.agg [bF, lT [], bF, l1])], [none]⟩ := ex (.cons k37 .nil) (by kernel_rfl)
theorem k153 : ACall Tryz.prog 94 [.val (.c (n64 0))] ⟨[.val (.agg [bF, lT [], bF, l1])], [none]⟩ := ex (.cons k151 (.cons k152 .nil)) (by kernel_rfl)
theorem k154 : ACall Tryz.prog 118 [.val (.agg [bF, lT []])] ⟨[.val (.c (n64 0))], [none]⟩ := ex (.nil) (by kernel_rfl)
theorem k155 : ACall Tryz.prog 113 [.val (.agg [bF, lT [], bF, l1])] ⟨[.val (.c (n64 0))], [none]⟩ := ex (.cons k154 .nil) (by kernel_rfl)
theorem k156 : ACall Tryz.prog 67 [.val (.agg [bF, l1, bF, l1]), .val (.agg [bF, lT [], bF, l1])] ⟨[.val (.c (n64 1))], [none, none]⟩ := ex (.cons k24 (.cons k155 .nil)) (by kernel_rfl)
theorem k157 : ACall Tryz.prog 118 [.val (.agg [bF, lF [u 4]])] ⟨[.val (.c (n64 1))], [none]⟩ := ex (.nil) (by kernel_rfl)
theorem k158 : ACall Tryz.prog 113 [.val (.agg [bF, lF [u 4], bF, l1])] ⟨[.val (.c (n64 1))], [none]⟩ := ex (.cons k157 .nil) (by kernel_rfl)
theorem k159 : ACall Tryz.prog 67 [.val (.agg [bF, lF [u 4], bF, l1]), .val (.agg [bF, lT [], bF, l1])] ⟨[.val (.c (n64 1))], [none, none]⟩ := ex (.cons k158 (.cons k155 .nil)) (by kernel_rfl)
theorem k160 : ACall Tryz.prog 66 [.val (.c (lF [[bF, lT [], bF, l1], [bF, l1, bF, l1], [bF, lF [u 4], bF, l1]]))] ⟨[.val (.agg [bF, lT [], bF, l1])], [none]⟩ := ex (.cons k156 (.cons k159 .nil)) (by kernel_rfl)
theorem k161 : ACall Tryz.prog 119 [.val (.agg [bF, lF [u 4]])] ⟨[.val (.c (bF))], [none]⟩ := ex (.nil) (by kernel_rfl)
theorem k162 : ACall Tryz.prog 115 [.val (.c (lF [[bF, lF [u 4]], [bF, l1]]))] ⟨[.val (.agg [bF, lF [u 4]])], [none]⟩ := ex (.cons k37 (.cons k161 (.cons k39 .nil))) (by kernel_rfl)
theorem k163 : ACall Tryz.prog 155 [.val (.c (lF [u 4])), .val (.c (l1))] ⟨[.val (.c (n64 1))], [none, none]⟩ := ex (.nil) (by kernel_rfl)
theorem k164 : ACall Tryz.prog 114 [.val (.agg [bF, lF [u 4]]), .val (.agg [bF, l1])] ⟨[.val (.c (n64 1))], [none, none]⟩ := ex (.cons k157 (.cons k23 (.cons k163 .nil))) (by kernel_rfl)
theorem k165 : ACall Tryz.prog 67 [.val (.agg [bF, lF [u 4], bF, l1]), .val (.agg [bF, l1, bF, l1])] ⟨[.val (.c (n64 1))], [none, none]⟩ := ex (.cons k158 (.cons k24 (.cons k162 (.cons k47 (.cons k164 .nil))))) (by kernel_rfl)
theorem k166 : ACall Tryz.prog 65 [.val (.c (lF [[bF, lT [], bF, l1], [bF, l1, bF, l1], [bF, lF [u 4], bF, l1]]))] ⟨[.val (.agg [bF, lF [u 4], bF, l1])], [none]⟩ := ex (.cons k156 (.cons k165 .nil)) (by kernel_rfl)
theorem k167 : ACall Tryz.prog 124 [.val (.c (lF [[bF, lT [], bF, l1], [bF, l1, bF, l1], [bF, lF [u 4], bF, l1]]))] ⟨[.val (.agg [bF, lT [], bF, l1, bF, lF [u 4], bF, l1])], [none]⟩ := ex (.cons k160 (.cons k166 .nil)) (by kernel_rfl)
theorem k168 : ACall Tryz.prog 75 [.val (.agg [bT, l1, bF, l1, bF, lF [u 2], bF, l1]), .val (.c (n64 2))] ⟨[.val (.agg [bF, lT [], bF, l1, bF, lF [u 4], bF, l1])], [none, none]⟩ := ex (.cons k136 (.cons k146 (.cons k26 (.cons k32 (.cons k153 (.cons k167 .nil)))))) (by kernel_rfl)
theorem k169 : ACall Tryz.prog 26 [.val (.agg [bT, l1, bF, l1, bF, lF [u 2], bF, l1]), .val (.c (n64 2))] ⟨[.val (.agg [bF, lT [], bF, l1, bF, lF [u 4], bF, l1])], [none, none]⟩ := ex (.cons k168 .nil) (by kernel_rfl)
theorem k170 : ACall Tryz.prog 165 [.val (.c (lF [u 0, u 0]))] ⟨[.val (.c (lF []))], [none]⟩ := ex (.nil) (by kernel_rfl)
theorem k171 : ACall Tryz.prog 127 [.val (.c (w64 0))] ⟨[.val (.c (lF []))], [none]⟩ := ex (.cons k170 .nil) (by kernel_rfl)
theorem k172 : ACall Tryz.prog 165 [.val (.c (lF []))] ⟨[.val (.c (lF []))], [none]⟩ := ex (.nil) (by kernel_rfl)
theorem k173 : ACall Tryz.prog 126 [.val (.c (bF)), .val (.c (lF []))] ⟨[.val (.agg [bF, lF []])], [none, none]⟩ := ex (.cons k172 .nil) (by kernel_rfl)
theorem k174 : ACall Tryz.prog 77 [.val (.c (n64 0))] ⟨[.val (.agg [bF, lF []])], [none]⟩ := ex (.cons k171 (.cons k173 .nil)) (by kernel_rfl)
theorem k175 : ACall Tryz.prog 29 [.val (.c (n64 0))] ⟨[.val (.agg [bF, lF [], bF, l1])], [none]⟩ := ex (.cons k174 (.cons k6 .nil)) (by kernel_rfl)
theorem k176 : ACall Tryz.prog 165 [.val (.c (lF [u 4, u 0]))] ⟨[.val (.c (lF [u 4]))], [none]⟩ := ex (.nil) (by kernel_rfl)
theorem k177 : ACall Tryz.prog 127 [.val (.c (w64 4))] ⟨[.val (.c (lF [u 4]))], [none]⟩ := ex (.cons k176 .nil) (by kernel_rfl)
theorem k178 : ACall Tryz.prog 165 [.val (.c (lF [u 4]))] ⟨[.val (.c (lF [u 4]))], [none]⟩ := ex (.nil) (by kernel_rfl)
theorem k179 : ACall Tryz.prog 126 [.val (.c (bF)), .val (.c (lF [u 4]))] ⟨[.val (.agg [bF, lF [u 4]])], [none, none]⟩ := ex (.cons k178 .nil) (by kernel_rfl)
theorem k180 : ACall Tryz.prog 77 [.val (.c (n64 4))] ⟨[.val (.agg [bF, lF [u 4]])], [none]⟩ := ex (.cons k177 (.cons k179 .nil)) (by kernel_rfl)
theorem k181 : ACall Tryz.prog 29 [.val (.c (n64 4))] ⟨[.val (.agg [bF, lF [u 4], bF, l1])], [none]⟩ := ex (.cons k180 (.cons k6 .nil)) (by kernel_rfl)
theorem k182 : ACall Tryz.prog 57 [.val (.c (n64 0)), .val (.c (n64 4))] ⟨[.val (.agg [bF, lF [], bF, l1, bF, lF [u 4], bF, l1])], [none, none]⟩ := ex (.cons k175 (.cons k181 .nil)) (by kernel_rfl)
theorem k183 : ACall Tryz.prog 82 [.val (.agg [bF, lT []]), .val (.agg [bF, lF []])] ⟨[.val (.c (bT))], [none, none]⟩ := ex (.nil) (by kernel_rfl)
theorem k184 : ACall Tryz.prog 33 [.val (.agg [bF, lT [], bF, l1]), .val (.agg [bF, lF [], bF, l1])] ⟨[.val (.c (bT))], [none, none]⟩ := ex (.cons k183 (.cons k123 .nil)) (by kernel_rfl)
theorem k185 : ACall Tryz.prog 82 [.val (.agg [bF, lF [u 4]]), .val (.agg [bF, lF [u 4]])] ⟨[.val (.c (bT))], [none, none]⟩ := ex (.nil) (by kernel_rfl)
theorem k186 : ACall Tryz.prog 33 [.val (.agg [bF, lF [u 4], bF, l1]), .val (.agg [bF, lF [u 4], bF, l1])] ⟨[.val (.c (bT))], [none, none]⟩ := ex (.cons k185 (.cons k123 .nil)) (by kernel_rfl)
theorem k187 : ACall Tryz.prog 15 [.val (.agg [bF, lT [], bF, l1, bF, lF [u 4], bF, l1]), .val (.agg [bF, lF [], bF, l1, bF, lF [u 4], bF, l1])] ⟨[.val (.c (bT))], [none, none]⟩ := ex (.cons k184 (.cons k186 .nil)) (by kernel_rfl)
theorem k188 : ACall Tryz.prog 158 [.val (.c (lF [u 2, u 0]))] ⟨[.val (.c (lF [u 2]))], [none]⟩ := ex (.nil) (by kernel_rfl)
theorem k189 : ACall Tryz.prog 170 [.val (.c (l1)), .val (.c (l1))] ⟨[.val (.c (lF [u 2]))], [none, none]⟩ := ex (.cons k188 .nil) (by kernel_rfl)
theorem k190 : ACall Tryz.prog 158 [.val (.c (lF [u 2]))] ⟨[.val (.c (lF [u 2]))], [none]⟩ := ex (.nil) (by kernel_rfl)
theorem k191 : ACall Tryz.prog 160 [.val (.c (bT)), .val (.c (lF [u 2]))] ⟨[.val (.agg [bT, lF [u 2]])], [none, none]⟩ := ex (.cons k190 .nil) (by kernel_rfl)
theorem k192 : ACall Tryz.prog 139 [.val (.agg [bT, l1]), .val (.agg [bT, l1])] ⟨[.val (.agg [bT, lF [u 2]])], [none, none]⟩ := ex (.cons k189 (.cons k191 .nil)) (by kernel_rfl)
theorem k193 : ACall Tryz.prog 140 [.val (.agg [bT, lF [u 2]]), .val (.agg [bF, l1])] ⟨[.val (.agg [bT, lF [u 2], bF, l1])], [none, none]⟩ := ex (.cons k39 .nil) (by kernel_rfl)
theorem k194 : ACall Tryz.prog 93 [.val (.agg [bT, l1, bF, l1]), .val (.agg [bT, l1, bF, l1])] ⟨[.val (.agg [bT, lF [u 2], bF, l1])], [none, none]⟩ := ex (.cons k85 (.cons k192 (.cons k47 (.cons k193 .nil)))) (by kernel_rfl)
theorem k195 : ACall Tryz.prog 170 [.val (.c (lF [u 2])), .val (.c (lF [u 2]))] ⟨[.val (.c (lF [u 4]))], [none, none]⟩ := ex (.cons k139 .nil) (by kernel_rfl)
theorem k196 : ACall Tryz.prog 139 [.val (.agg [bF, lF [u 2]]), .val (.agg [bF, lF [u 2]])] ⟨[.val (.agg [bF, lF [u 4]])], [none, none]⟩ := ex (.cons k195 (.cons k142 .nil)) (by kernel_rfl)
theorem k197 : ACall Tryz.prog 140 [.val (.agg [bF, lF [u 4]]), .val (.agg [bF, l1])] ⟨[.val (.agg [bF, lF [u 4], bF, l1])], [none, none]⟩ := ex (.cons k39 .nil) (by kernel_rfl)
theorem k198 : ACall Tryz.prog 93 [.val (.agg [bF, lF [u 2], bF, l1]), .val (.agg [bF, lF [u 2], bF, l1])] ⟨[.val (.agg [bF, lF [u 4], bF, l1])], [none, none]⟩ := ex (.cons k42 (.cons k196 (.cons k47 (.cons k197 .nil)))) (by kernel_rfl)
theorem k199 : ACall Tryz.prog 72 [.val (.agg [bT, l1, bF, l1, bF, lF [u 2], bF, l1]), .val (.agg [bT, l1, bF, l1, bF, lF [u 2], bF, l1])] ⟨[.val (.agg [bT, lF [u 2], bF, l1, bF, lF [u 4], bF, l1])], [none, none]⟩ := ex (.cons k194 (.cons k198 .nil)) (by kernel_rfl)
theorem k200 : ACall Tryz.prog 71 [.val (.c (.v (.func (.func 72) #[] #[]))), .val (.agg [bT, l1, bF, l1, bF, lF [u 2], bF, l1]), .val (.agg [bT, l1, bF, l1, bF, lF [u 2], bF, l1])] ⟨[.val (.agg [bT, lF [u 2], bF, l1, bF, lF [u 4], bF, l1])], [none, none, none]⟩ := ex (.cons k199 .nil) (by kernel_rfl)
theorem k201 : ACall Tryz.prog 20 [.val (.agg [bT, l1, bF, l1, bF, lF [u 2], bF, l1]), .val (.agg [bT, l1, bF, l1, bF, lF [u 2], bF, l1])] ⟨[.val (.agg [bT, lF [u 2], bF, l1, bF, lF [u 4], bF, l1])], [none, none]⟩ := ex (.cons k200 .nil) (by kernel_rfl)
theorem k202 : ACall Tryz.prog 126 [.val (.c (bT)), .val (.c (lF [u 2]))] ⟨[.val (.agg [bT, lF [u 2]])], [none, none]⟩ := ex (.cons k10 .nil) (by kernel_rfl)
theorem k203 : ACall Tryz.prog 77 [.val (.c (n64 (-2)))] ⟨[.val (.agg [bT, lF [u 2]])], [none]⟩ := ex (.cons k9 (.cons k202 .nil)) (by kernel_rfl)
theorem k204 : ACall Tryz.prog 29 [.val (.c (n64 (-2)))] ⟨[.val (.agg [bT, lF [u 2], bF, l1])], [none]⟩ := ex (.cons k203 (.cons k6 .nil)) (by kernel_rfl)
theorem k205 : ACall Tryz.prog 57 [.val (.c (n64 (-2))), .val (.c (n64 4))] ⟨[.val (.agg [bT, lF [u 2], bF, l1, bF, lF [u 4], bF, l1])], [none, none]⟩ := ex (.cons k204 (.cons k181 .nil)) (by kernel_rfl)
theorem k206 : ACall Tryz.prog 82 [.val (.agg [bT, lF [u 2]]), .val (.agg [bT, lF [u 2]])] ⟨[.val (.c (bT))], [none, none]⟩ := ex (.nil) (by kernel_rfl)
theorem k207 : ACall Tryz.prog 33 [.val (.agg [bT, lF [u 2], bF, l1]), .val (.agg [bT, lF [u 2], bF, l1])] ⟨[.val (.c (bT))], [none, none]⟩ := ex (.cons k206 (.cons k123 .nil)) (by kernel_rfl)
theorem k208 : ACall Tryz.prog 15 [.val (.agg [bT, lF [u 2], bF, l1, bF, lF [u 4], bF, l1]), .val (.agg [bT, lF [u 2], bF, l1, bF, lF [u 4], bF, l1])] ⟨[.val (.c (bT))], [none, none]⟩ := ex (.cons k207 (.cons k186 .nil)) (by kernel_rfl)
theorem k209 : ACall Tryz.prog 157 [.val (.c (lF [u 2]))] ⟨[.val (.c (lF [u 2]))], [none]⟩ := ex (.nil) (by kernel_rfl)
theorem k210 : ACall Tryz.prog 169 [.val (.agg [bF, lF [u 2]])] ⟨[.val (.agg [bT, lF [u 2]])], [none]⟩ := ex (.cons k209 (.cons k191 .nil)) (by kernel_rfl)
theorem k211 : ACall Tryz.prog 164 [.val (.agg [bF, lF [u 2], bF, l1])] ⟨[.val (.agg [bT, lF [u 2], bF, l1])], [none]⟩ := ex (.cons k210 .nil) (by kernel_rfl)
theorem k212 : ACall Tryz.prog 119 [.val (.agg [bT, lF [u 2]])] ⟨[.val (.c (bF))], [none]⟩ := ex (.nil) (by kernel_rfl)
theorem k213 : ACall Tryz.prog 115 [.val (.c (lF [[bT, lF [u 2]], [bF, l1]]))] ⟨[.val (.agg [bT, lF [u 2]])], [none]⟩ := ex (.cons k37 (.cons k212 (.cons k39 .nil))) (by kernel_rfl)
theorem k214 : ACall Tryz.prog 170 [.val (.c (l1)), .val (.c (lF [u 2]))] ⟨[.val (.c (lF [u 3]))], [none, none]⟩ := ex (.cons k77 .nil) (by kernel_rfl)
theorem k215 : ACall Tryz.prog 160 [.val (.c (bT)), .val (.c (lF [u 3]))] ⟨[.val (.agg [bT, lF [u 3]])], [none, none]⟩ := ex (.cons k79 .nil) (by kernel_rfl)
theorem k216 : ACall Tryz.prog 139 [.val (.agg [bT, l1]), .val (.agg [bT, lF [u 2]])] ⟨[.val (.agg [bT, lF [u 3]])], [none, none]⟩ := ex (.cons k214 (.cons k215 .nil)) (by kernel_rfl)
theorem k217 : ACall Tryz.prog 93 [.val (.agg [bT, l1, bF, l1]), .val (.agg [bT, lF [u 2], bF, l1])] ⟨[.val (.agg [bT, lF [u 3], bF, l1])], [none, none]⟩ := ex (.cons k85 (.cons k213 (.cons k216 (.cons k47 (.cons k74 .nil))))) (by kernel_rfl)
theorem k218 : ACall Tryz.prog 123 [.val (.agg [bT, l1, bF, l1]), .val (.agg [bF, lF [u 2], bF, l1])] ⟨[.val (.agg [bT, lF [u 3], bF, l1])], [none, none]⟩ := ex (.cons k211 (.cons k217 .nil)) (by kernel_rfl)
theorem k219 : ACall Tryz.prog 157 [.val (.c (l1))] ⟨[.val (.c (l1))], [none]⟩ := ex (.nil) (by kernel_rfl)
theorem k220 : ACall Tryz.prog 169 [.val (.agg [bT, l1])] ⟨[.val (.agg [bF, l1])], [none]⟩ := ex (.cons k219 (.cons k36 .nil)) (by kernel_rfl)
theorem k221 : ACall Tryz.prog 164 [.val (.agg [bT, l1, bF, l1])] ⟨[.val (.agg [bF, l1, bF, l1])], [none]⟩ := ex (.cons k220 .nil) (by kernel_rfl)
theorem k222 : ACall Tryz.prog 170 [.val (.c (lF [u 2])), .val (.c (l1))] ⟨[.val (.c (lF [u 3]))], [none, none]⟩ := ex (.cons k77 .nil) (by kernel_rfl)
theorem k223 : ACall Tryz.prog 139 [.val (.agg [bF, lF [u 2]]), .val (.agg [bF, l1])] ⟨[.val (.agg [bF, lF [u 3]])], [none, none]⟩ := ex (.cons k222 (.cons k80 .nil)) (by kernel_rfl)
theorem k224 : ACall Tryz.prog 140 [.val (.agg [bF, lF [u 3]]), .val (.agg [bF, l1])] ⟨[.val (.agg [bF, lF [u 3], bF, l1])], [none, none]⟩ := ex (.cons k39 .nil) (by kernel_rfl)
theorem k225 : ACall Tryz.prog 93 [.val (.agg [bF, lF [u 2], bF, l1]), .val (.agg [bF, l1, bF, l1])] ⟨[.val (.agg [bF, lF [u 3], bF, l1])], [none, none]⟩ := ex (.cons k42 (.cons k47 (.cons k223 (.cons k224 .nil)))) (by kernel_rfl)
theorem k226 : ACall Tryz.prog 123 [.val (.agg [bF, lF [u 2], bF, l1]), .val (.agg [bT, l1, bF, l1])] ⟨[.val (.agg [bF, lF [u 3], bF, l1])], [none, none]⟩ := ex (.cons k221 (.cons k225 .nil)) (by kernel_rfl)
theorem k227 : ACall Tryz.prog 73 [.val (.agg [bT, l1, bF, l1, bF, lF [u 2], bF, l1]), .val (.agg [bT, l1, bF, l1, bF, lF [u 2], bF, l1])] ⟨[.val (.agg [bT, lF [u 3], bF, l1, bF, lF [u 3], bF, l1])], [none, none]⟩ := ex (.cons k218 (.cons k226 .nil)) (by kernel_rfl)
theorem k228 : ACall Tryz.prog 71 [.val (.c (.v (.func (.func 73) #[] #[]))), .val (.agg [bT, l1, bF, l1, bF, lF [u 2], bF, l1]), .val (.agg [bT, l1, bF, l1, bF, lF [u 2], bF, l1])] ⟨[.val (.agg [bT, lF [u 3], bF, l1, bF, lF [u 3], bF, l1])], [none, none, none]⟩ := ex (.cons k227 .nil) (by kernel_rfl)
theorem k229 : ACall Tryz.prog 22 [.val (.agg [bT, l1, bF, l1, bF, lF [u 2], bF, l1]), .val (.agg [bT, l1, bF, l1, bF, lF [u 2], bF, l1])] ⟨[.val (.agg [bT, lF [u 3], bF, l1, bF, lF [u 3], bF, l1])], [none, none]⟩ := ex (.cons k228 .nil) (by kernel_rfl)
theorem k230 : ACall Tryz.prog 57 [.val (.c (n64 (-3))), .val (.c (n64 3))] ⟨[.val (.agg [bT, lF [u 3], bF, l1, bF, lF [u 3], bF, l1])], [none, none]⟩ := ex (.cons k71 (.cons k57 .nil)) (by kernel_rfl)
theorem k231 : ACall Tryz.prog 82 [.val (.agg [bT, lF [u 3]]), .val (.agg [bT, lF [u 3]])] ⟨[.val (.c (bT))], [none, none]⟩ := ex (.nil) (by kernel_rfl)
theorem k232 : ACall Tryz.prog 33 [.val (.agg [bT, lF [u 3], bF, l1]), .val (.agg [bT, lF [u 3], bF, l1])] ⟨[.val (.c (bT))], [none, none]⟩ := ex (.cons k231 (.cons k123 .nil)) (by kernel_rfl)
theorem k233 : ACall Tryz.prog 15 [.val (.agg [bT, lF [u 3], bF, l1, bF, lF [u 3], bF, l1]), .val (.agg [bT, lF [u 3], bF, l1, bF, lF [u 3], bF, l1])] ⟨[.val (.c (bT))], [none, none]⟩ := ex (.cons k232 (.cons k126 .nil)) (by kernel_rfl)
theorem k234 : ACall Tryz.prog 105 [.val (.agg [bF, lF [], bF, l1])] ⟨[.val (.agg [bF, lF [], bF, l1, bF, lF [], bF, l1])], [none]⟩ := ex (.nil) (by kernel_rfl)
theorem k235 : ACall Tryz.prog 58 [] ⟨[.val (.agg [bF, lF [], bF, l1, bF, lF [], bF, l1, bF, lF [], bF, l1, bF, lF [], bF, l1, bF, lF [], bF, l1, bF, lF [], bF, l1, bF, lF [], bF, l1, bF, lF [], bF, l1, bF, lF [], bF, l1, bF, lF [], bF, l1, bF, lF [], bF, l1, bF, lF [], bF, l1, bF, lF [], bF, l1, bF, lF [], bF, l1, bF, lF [], bF, l1, bF, lF [], bF, l1])], []⟩ := ex (.cons k175 (.cons k234 .nil)) (by kernel_rfl)
theorem k236 : ACall Tryz.prog 57 [.val (.c (n64 1)), .val (.c (n64 2))] ⟨[.val (.agg [bF, l1, bF, l1, bF, lF [u 2], bF, l1])], [none, none]⟩ := ex (.cons k15 (.cons k13 .nil)) (by kernel_rfl)
theorem k237 : ACall Tryz.prog 111 [.val (.c (n64 0))] ⟨[.val (.c (lF [[bF, l1, bF, l1, n64 1, n64 0, n64 0, n64 0, n64 0, n64 0, n64 0, n64 0]])), .val (.c (n64 0))], [none]⟩ := ex (.cons k15 .nil) (by kernel_rfl)
theorem k238 : ACall Tryz.prog 61 [.val (.c (n64 0))] ⟨[.val (.c (lF [[bF, l1, bF, l1, n64 1, n64 0, n64 0, n64 0, n64 0, n64 0, n64 0, n64 0]]))], [none]⟩ := ex (.cons k237 .nil) (by kernel_rfl)
theorem k239 : ACall Tryz.prog 107 [.val (.agg [bF, l1])] ⟨[.val (.c (n64 1))], [none]⟩ := ex (.nil) (by kernel_rfl)
theorem k240 : ACall Tryz.prog 51 [.val (.agg [bF, l1, bF, l1])] ⟨[.val (.c (n64 1))], [none]⟩ := ex (.cons k239 .nil) (by kernel_rfl)
theorem k241 : ACall Tryz.prog 192 [.val (.agg [n64 2, n64 0, n64 0, n64 0, n64 0, n64 0, n64 0, n64 0])] ⟨[.val (.c (bT))], [none]⟩ := ex (.nil) (by kernel_rfl)
theorem k242 : ACall Tryz.prog 168 [.val (.agg [n64 1, n64 0, n64 0, n64 0, n64 0, n64 0, n64 0, n64 0]), .val (.agg [n64 1, n64 0, n64 0, n64 0, n64 0, n64 0, n64 0, n64 0])] ⟨[.val (.agg [n64 2, n64 0, n64 0, n64 0, n64 0, n64 0, n64 0, n64 0]), .val (.c (n64 0))], [none, none]⟩ := ex (.cons k241 .nil) (by kernel_rfl)
theorem k243 : ACall Tryz.prog 130 [.val (.c (l1)), .val (.c (l1))] ⟨[.val (.c (l1))], [none, none]⟩ := ex (.cons k0 .nil) (by kernel_rfl)
theorem k244 : ACall Tryz.prog 79 [.val (.agg [bF, l1]), .val (.agg [bF, l1])] ⟨[.val (.agg [bF, l1])], [none, none]⟩ := ex (.cons k243 (.cons k5 .nil)) (by kernel_rfl)
theorem k245 : ACall Tryz.prog 167 [.val (.c (l1)), .val (.c (n64 1))] ⟨[.val (.c (w64 0))], [none, none]⟩ := ex (.nil) (by kernel_rfl)
theorem k246 : ACall Tryz.prog 167 [.val (.c (l1)), .val (.c (n64 0))] ⟨[.val (.c (w64 1))], [none, none]⟩ := ex (.nil) (by kernel_rfl)
theorem k247 : ACall Tryz.prog 190 [.val (.c (l1))] ⟨[.val (.c (w64 1))], [none]⟩ := ex (.cons k245 (.cons k246 .nil)) (by kernel_rfl)
theorem k248 : ACall Tryz.prog 189 [.val (.c (w64 1)), .val (.c (w64 1))] ⟨[.val (.c (w64 1))], [none, none]⟩ := ex (.nil) (by kernel_rfl)
theorem k249 : ACall Tryz.prog 163 [.val (.c (l1)), .val (.c (l1))] ⟨[.val (.c (l1))], [none, none]⟩ := ex (.cons k247 (.cons k248 (.cons k1 .nil))) (by kernel_rfl)
theorem k250 : ACall Tryz.prog 122 [.val (.agg [bF, l1]), .val (.agg [bF, l1])] ⟨[.val (.agg [bF, l1])], [none, none]⟩ := ex (.cons k249 (.cons k5 .nil)) (by kernel_rfl)
theorem k251 : ACall Tryz.prog 132 [.val (.c (l1)), .val (.c (l1))] ⟨[.val (.c (n64 0))], [none, none]⟩ := ex (.nil) (by kernel_rfl)
theorem k252 : ACall Tryz.prog 201 [.val (.c (l1)), .val (.c (w64 1))] ⟨[.val (.c (l1)), .val (.c (w64 0))], [none, none]⟩ := ex (.cons k2 .nil) (by kernel_rfl)
theorem k253 : ACall Tryz.prog 191 [.val (.c (l1)), .val (.c (l1))] ⟨[.val (.c (l1)), .val (.c (lF []))], [none, none]⟩ := ex (.cons k251 (.cons k252 (.cons k171 .nil))) (by kernel_rfl)
theorem k254 : ACall Tryz.prog 166 [.val (.agg [bF, l1]), .val (.agg [bF, l1])] ⟨[.val (.agg [bF, l1]), .val (.agg [bF, lF []]), .val (.c (n64 0))], [none, none]⟩ := ex (.cons k253 (.cons k5 (.cons k173 .nil))) (by kernel_rfl)
theorem k255 : ACall Tryz.prog 129 [.val (.agg [bF, l1]), .val (.agg [bF, l1])] ⟨[.val (.agg [bF, l1])], [none, none]⟩ := ex (.cons k254 .nil) (by kernel_rfl)
theorem k256 : ACall Tryz.prog 78 [.val (.agg [bF, l1]), .val (.agg [bF, l1])] ⟨[.val (.agg [bF, l1, bF, l1])], [none, none]⟩ := ex (.cons k250 (.cons k239 (.cons k255 .nil))) (by kernel_rfl)
theorem k257 : ACall Tryz.prog 30 [.val (.agg [bF, l1, bF, l1]), .val (.agg [bF, l1, bF, l1])] ⟨[.val (.agg [bF, l1, bF, l1])], [none, none]⟩ := ex (.cons k244 (.cons k256 .nil)) (by kernel_rfl)
theorem k258 : ACall Tryz.prog 135 [.val (.agg [bF, l1, bF, l1]), .val (.agg [n64 1, n64 0, n64 0, n64 0, n64 0, n64 0, n64 0, n64 0]), .val (.c (lF [[bF, l1, bF, l1, n64 1, n64 0, n64 0, n64 0, n64 0, n64 0, n64 0, n64 0]]))] ⟨[.val (.c (lF [[bF, l1, bF, l1, n64 2, n64 0, n64 0, n64 0, n64 0, n64 0, n64 0, n64 0]])), .val (.c (n64 0))], [none, none, none]⟩ := ex (.cons k240 (.cons k242 (.cons k257 .nil))) (by kernel_rfl)
theorem k259 : ACall Tryz.prog 84 [.val (.c (lF [])), .val (.c (lF [[bF, l1, bF, l1, n64 2, n64 0, n64 0, n64 0, n64 0, n64 0, n64 0, n64 0]]))] ⟨[.val (.c (lF [[bF, l1, bF, l1, n64 2, n64 0, n64 0, n64 0, n64 0, n64 0, n64 0, n64 0]]))], [none, none]⟩ := ex (.nil) (by kernel_rfl)
theorem k260 : ACall Tryz.prog 110 [.val (.c (lF [[bF, l1, bF, l1, n64 1, n64 0, n64 0, n64 0, n64 0, n64 0, n64 0, n64 0]])), .val (.c (lF [[bF, l1, bF, l1, n64 1, n64 0, n64 0, n64 0, n64 0, n64 0, n64 0, n64 0]]))] ⟨[.val (.c (lF [[bF, l1, bF, l1, n64 2, n64 0, n64 0, n64 0, n64 0, n64 0, n64 0, n64 0]])), .val (.c (n64 0))], [none, none]⟩ := ex (.cons k258 (.cons k259 .nil)) (by kernel_rfl)
theorem k261 : ACall Tryz.prog 60 [.val (.c (lF [[bF, l1, bF, l1, n64 1, n64 0, n64 0, n64 0, n64 0, n64 0, n64 0, n64 0]])), .val (.c (lF [[bF, l1, bF, l1, n64 1, n64 0, n64 0, n64 0, n64 0, n64 0, n64 0, n64 0]]))] ⟨[.val (.c (lF [[bF, l1, bF, l1, n64 2, n64 0, n64 0, n64 0, n64 0, n64 0, n64 0, n64 0]]))], [none, none]⟩ := ex (.cons k260 .nil) (by kernel_rfl)
theorem k262 : ACall Tryz.prog 107 [.val (.agg [bF, lF [u 2]])] ⟨[.val (.c (n64 1))], [none]⟩ := ex (.nil) (by kernel_rfl)
theorem k263 : ACall Tryz.prog 51 [.val (.agg [bF, lF [u 2], bF, l1])] ⟨[.val (.c (n64 1))], [none]⟩ := ex (.cons k262 .nil) (by kernel_rfl)
theorem k264 : ACall Tryz.prog 112 [.val (.agg [bF, lF [u 2], bF, l1])] ⟨[.val (.c (lF [[bF, lF [u 2], bF, l1, n64 0, n64 0, n64 0, n64 0, n64 0, n64 0, n64 0, n64 0]]))], [none]⟩ := ex (.cons k263 .nil) (by kernel_rfl)
theorem k265 : ACall Tryz.prog 62 [.val (.c (n64 2))] ⟨[.val (.c (lF [[bF, lF [u 2], bF, l1, n64 0, n64 0, n64 0, n64 0, n64 0, n64 0, n64 0, n64 0]]))], [none]⟩ := ex (.cons k13 (.cons k264 .nil)) (by kernel_rfl)
theorem k266 : ACall Tryz.prog 107 [.val (.agg [bT, l1])] ⟨[.val (.c (n64 (-1)))], [none]⟩ := ex (.nil) (by kernel_rfl)
theorem k267 : ACall Tryz.prog 51 [.val (.agg [bT, l1, bF, l1])] ⟨[.val (.c (n64 (-1)))], [none]⟩ := ex (.cons k266 .nil) (by kernel_rfl)
theorem k268 : ACall Tryz.prog 192 [.val (.agg [n64 0, n64 0, n64 0, n64 0, n64 0, n64 0, n64 0, n64 0])] ⟨[.val (.c (bT))], [none]⟩ := ex (.nil) (by kernel_rfl)
theorem k269 : ACall Tryz.prog 168 [.val (.agg [n64 0, n64 0, n64 0, n64 0, n64 0, n64 0, n64 0, n64 0]), .val (.agg [n64 0, n64 0, n64 0, n64 0, n64 0, n64 0, n64 0, n64 0])] ⟨[.val (.agg [n64 0, n64 0, n64 0, n64 0, n64 0, n64 0, n64 0, n64 0]), .val (.c (n64 0))], [none, none]⟩ := ex (.cons k268 .nil) (by kernel_rfl)
theorem k270 : ACall Tryz.prog 130 [.val (.c (l1)), .val (.c (lF [u 2]))] ⟨[.val (.c (lF [u 2]))], [none, none]⟩ := ex (.cons k8 .nil) (by kernel_rfl)
theorem k271 : ACall Tryz.prog 79 [.val (.agg [bT, l1]), .val (.agg [bF, lF [u 2]])] ⟨[.val (.agg [bT, lF [u 2]])], [none, none]⟩ := ex (.cons k270 (.cons k202 .nil)) (by kernel_rfl)
theorem k272 : ACall Tryz.prog 167 [.val (.c (lF [u 2])), .val (.c (n64 1))] ⟨[.val (.c (w64 0))], [none, none]⟩ := ex (.nil) (by kernel_rfl)
theorem k273 : ACall Tryz.prog 167 [.val (.c (lF [u 2])), .val (.c (n64 0))] ⟨[.val (.c (w64 2))], [none, none]⟩ := ex (.nil) (by kernel_rfl)
theorem k274 : ACall Tryz.prog 190 [.val (.c (lF [u 2]))] ⟨[.val (.c (w64 2))], [none]⟩ := ex (.cons k272 (.cons k273 .nil)) (by kernel_rfl)
theorem k275 : ACall Tryz.prog 189 [.val (.c (w64 2)), .val (.c (w64 1))] ⟨[.val (.c (w64 1))], [none, none]⟩ := ex (.nil) (by kernel_rfl)
theorem k276 : ACall Tryz.prog 163 [.val (.c (lF [u 2])), .val (.c (l1))] ⟨[.val (.c (l1))], [none, none]⟩ := ex (.cons k274 (.cons k247 (.cons k275 (.cons k1 .nil)))) (by kernel_rfl)
theorem k277 : ACall Tryz.prog 122 [.val (.agg [bT, lF [u 2]]), .val (.agg [bF, l1])] ⟨[.val (.agg [bF, l1])], [none, none]⟩ := ex (.cons k276 (.cons k5 .nil)) (by kernel_rfl)
theorem k278 : ACall Tryz.prog 132 [.val (.c (lF [u 2])), .val (.c (l1))] ⟨[.val (.c (n64 1))], [none, none]⟩ := ex (.nil) (by kernel_rfl)
theorem k279 : ACall Tryz.prog 201 [.val (.c (lF [u 2])), .val (.c (w64 1))] ⟨[.val (.c (lF [u 2])), .val (.c (w64 0))], [none, none]⟩ := ex (.cons k10 .nil) (by kernel_rfl)
end Go.Proofs.YtpgbejgdmgpfjaaGreat.Mem
end

section
set_option linter.unusedVariables false
set_option linter.unusedSimpArgs false
/-
  A closed call, one function at a time, part 3 (printed by a program of mine).
-/
set_option maxRecDepth 100000
set_option maxHeartbeats 0
namespace Go.Proofs.YtpgbejgdmgpfjaaGreat.Mem
open Go Go.Abs Go.Proofs
theorem k280 : ACall Tryz.prog 191 [.val (.c (lF [u 2])), .val (.c (l1))] ⟨[.val (.c (lF [u 2])), .val (.c (lF []))], [none, none]⟩ := ex (.cons k278 (.cons k279 (.cons k171 .nil))) (by kernel_rfl)
theorem k281 : ACall Tryz.prog 166 [.val (.agg [bT, lF [u 2]]), .val (.agg [bF, l1])] ⟨[.val (.agg [bT, lF [u 2]]), .val (.agg [bF, lF []]), .val (.c (n64 0))], [none, none]⟩ := ex (.cons k280 (.cons k202 (.cons k173 .nil))) (by kernel_rfl)
theorem k282 : ACall Tryz.prog 129 [.val (.agg [bT, lF [u 2]]), .val (.agg [bF, l1])] ⟨[.val (.agg [bT, lF [u 2]])], [none, none]⟩ := ex (.cons k281 .nil) (by kernel_rfl)
theorem k283 : ACall Tryz.prog 78 [.val (.agg [bT, lF [u 2]]), .val (.agg [bF, l1])] ⟨[.val (.agg [bT, lF [u 2], bF, l1])], [none, none]⟩ := ex (.cons k277 (.cons k239 (.cons k282 (.cons k255 .nil)))) (by kernel_rfl)
theorem k284 : ACall Tryz.prog 30 [.val (.agg [bT, l1, bF, l1]), .val (.agg [bF, lF [u 2], bF, l1])] ⟨[.val (.agg [bT, lF [u 2], bF, l1])], [none, none]⟩ := ex (.cons k271 (.cons k244 (.cons k283 .nil))) (by kernel_rfl)
theorem k285 : ACall Tryz.prog 135 [.val (.agg [bT, l1, bF, l1]), .val (.agg [n64 0, n64 0, n64 0, n64 0, n64 0, n64 0, n64 0, n64 0]), .val (.c (lF [[bF, lF [u 2], bF, l1, n64 0, n64 0, n64 0, n64 0, n64 0, n64 0, n64 0, n64 0]]))] ⟨[.val (.c (lF [[bT, lF [u 2], bF, l1, n64 0, n64 0, n64 0, n64 0, n64 0, n64 0, n64 0, n64 0]])), .val (.c (n64 0))], [none, none, none]⟩ := ex (.cons k267 (.cons k269 (.cons k284 .nil))) (by kernel_rfl)
theorem k286 : ACall Tryz.prog 85 [.val (.agg [bT, l1, bF, l1]), .val (.c (lF [[bF, lF [u 2], bF, l1, n64 0, n64 0, n64 0, n64 0, n64 0, n64 0, n64 0, n64 0]]))] ⟨[.val (.c (lF [[bT, lF [u 2], bF, l1, n64 0, n64 0, n64 0, n64 0, n64 0, n64 0, n64 0, n64 0]]))], [none, none]⟩ := ex (.cons k285 .nil) (by kernel_rfl)
theorem k287 : ACall Tryz.prog 134 [.val (.agg [n64 2, n64 0, n64 0, n64 0, n64 0, n64 0, n64 0, n64 0]), .val (.agg [n64 0, n64 0, n64 0, n64 0, n64 0, n64 0, n64 0, n64 0])] ⟨[.val (.c (n64 1))], [none, none]⟩ := ex (.nil) (by kernel_rfl)
theorem k288 : ACall Tryz.prog 84 [.val (.c (lF [[bF, l1, bF, l1, n64 2, n64 0, n64 0, n64 0, n64 0, n64 0, n64 0, n64 0]])), .val (.c (lF [[bT, lF [u 2], bF, l1, n64 0, n64 0, n64 0, n64 0, n64 0, n64 0, n64 0, n64 0]]))] ⟨[.val (.c (lF [[bF, l1, bF, l1, n64 2, n64 0, n64 0, n64 0, n64 0, n64 0, n64 0, n64 0], [bT, lF [u 2], bF, l1, n64 0, n64 0, n64 0, n64 0, n64 0, n64 0, n64 0, n64 0]]))], [none, none]⟩ := ex (.cons k287 .nil) (by kernel_rfl)
theorem k289 : ACall Tryz.prog 59 [.val (.c (lF [[bF, l1, bF, l1, n64 2, n64 0, n64 0, n64 0, n64 0, n64 0, n64 0, n64 0]])), .val (.c (lF [[bF, lF [u 2], bF, l1, n64 0, n64 0, n64 0, n64 0, n64 0, n64 0, n64 0, n64 0]]))] ⟨[.val (.c (lF [[bF, l1, bF, l1, n64 2, n64 0, n64 0, n64 0, n64 0, n64 0, n64 0, n64 0], [bT, lF [u 2], bF, l1, n64 0, n64 0, n64 0, n64 0, n64 0, n64 0, n64 0, n64 0]]))], [none, none]⟩ := ex (.cons k7 (.cons k286 (.cons k288 .nil))) (by kernel_rfl)
theorem k290 : ACall Tryz.prog 137 [.val (.agg [n64 2, n64 0, n64 0, n64 0, n64 0, n64 0, n64 0, n64 0])] ⟨[.val (.c (.v (.int .u8 1)))], [none]⟩ := ex (.nil) (by kernel_rfl)
theorem k291 : ACall Tryz.prog 137 [.val (.agg [n64 0, n64 0, n64 0, n64 0, n64 0, n64 0, n64 0, n64 0])] ⟨[.val (.c (.v (.int .u8 0)))], [none]⟩ := ex (.nil) (by kernel_rfl)
theorem k292 : ACall Tryz.prog 91 [.val (.c (lF [[bF, l1, bF, l1, n64 2, n64 0, n64 0, n64 0, n64 0, n64 0, n64 0, n64 0], [bT, lF [u 2], bF, l1, n64 0, n64 0, n64 0, n64 0, n64 0, n64 0, n64 0, n64 0]]))] ⟨[.val (.c (.v (.int .u8 1)))], [none]⟩ := ex (.cons k290 (.cons k291 .nil)) (by kernel_rfl)
theorem k293 : ACall Tryz.prog 139 [.val (.agg [bF, l1]), .val (.agg [bF, lF [u 2]])] ⟨[.val (.agg [bF, lF [u 3]])], [none, none]⟩ := ex (.cons k214 (.cons k80 .nil)) (by kernel_rfl)
theorem k294 : ACall Tryz.prog 93 [.val (.agg [bF, l1, bF, l1]), .val (.agg [bF, lF [u 2], bF, l1])] ⟨[.val (.agg [bF, lF [u 3], bF, l1])], [none, none]⟩ := ex (.cons k47 (.cons k42 (.cons k293 (.cons k224 .nil)))) (by kernel_rfl)
theorem k295 : ACall Tryz.prog 161 [.val (.c (w64 2))] ⟨[.val (.c (lF [u 2]))], [none]⟩ := ex (.cons k188 .nil) (by kernel_rfl)
theorem k296 : ACall Tryz.prog 160 [.val (.c (bF)), .val (.c (lF [u 2]))] ⟨[.val (.agg [bF, lF [u 2]])], [none, none]⟩ := ex (.cons k190 .nil) (by kernel_rfl)
theorem k297 : ACall Tryz.prog 142 [.val (.c (n64 2))] ⟨[.val (.agg [bF, lF [u 2]])], [none]⟩ := ex (.cons k295 (.cons k296 .nil)) (by kernel_rfl)
theorem k298 : ACall Tryz.prog 141 [.val (.agg [bF, lF [u 2]])] ⟨[.val (.agg [bF, lF [u 2], bF, l1])], [none]⟩ := ex (.cons k37 .nil) (by kernel_rfl)
theorem k299 : ACall Tryz.prog 94 [.val (.c (n64 2))] ⟨[.val (.agg [bF, lF [u 2], bF, l1])], [none]⟩ := ex (.cons k297 (.cons k298 .nil)) (by kernel_rfl)
theorem k300 : ACall Tryz.prog 138 [.val (.agg [bF, lF [u 2], bF, l1])] ⟨[.val (.agg [bF, l1, bF, lF [u 2]]), .val (.c (n64 0))], [none]⟩ := ex (.cons k31 .nil) (by kernel_rfl)
theorem k301 : ACall Tryz.prog 157 [.val (.c (lF [u 3]))] ⟨[.val (.c (lF [u 3]))], [none]⟩ := ex (.nil) (by kernel_rfl)
theorem k302 : ACall Tryz.prog 159 [.val (.c (lF [u 3]))] ⟨[.val (.c (w64 3))], [none]⟩ := ex (.nil) (by kernel_rfl)
theorem k303 : ACall Tryz.prog 159 [.val (.c (lF [u 2]))] ⟨[.val (.c (w64 2))], [none]⟩ := ex (.nil) (by kernel_rfl)
theorem k304 : ACall Tryz.prog 120 [.val (.agg [bF, lF [u 3]]), .val (.agg [bF, lF [u 2]])] ⟨[.val (.agg [bF, l1])], [none, none]⟩ := ex (.cons k79 (.cons k301 (.cons k190 (.cons k209 (.cons k302 (.cons k303 (.cons k34 (.cons k36 .nil)))))))) (by kernel_rfl)
theorem k305 : ACall Tryz.prog 140 [.val (.agg [bF, lF [u 3]]), .val (.agg [bF, lF [u 2]])] ⟨[.val (.agg [bF, lF [u 3], bF, lF [u 2]])], [none, none]⟩ := ex (.cons k41 (.cons k304 (.cons k39 .nil))) (by kernel_rfl)
theorem k306 : ACall Tryz.prog 99 [.val (.agg [bF, lF [u 3], bF, l1]), .val (.agg [bF, l1, bF, lF [u 2]])] ⟨[.val (.agg [bF, lF [u 3], bF, lF [u 2]])], [none, none]⟩ := ex (.cons k305 (.cons k84 (.cons k64 (.cons k42 .nil)))) (by kernel_rfl)
theorem k307 : ACall Tryz.prog 92 [.val (.agg [bF, lF [u 3], bF, l1]), .val (.agg [bF, lF [u 2], bF, l1])] ⟨[.val (.agg [bF, lF [u 3], bF, lF [u 2]]), .val (.c (n64 0))], [none, none]⟩ := ex (.cons k300 (.cons k306 .nil)) (by kernel_rfl)
theorem k308 : ACall Tryz.prog 119 [.val (.agg [bF, lF []])] ⟨[.val (.c (bF))], [none]⟩ := ex (.nil) (by kernel_rfl)
theorem k309 : ACall Tryz.prog 115 [.val (.c (lF [[bF, lF []], [bF, l1]]))] ⟨[.val (.agg [bF, lF []])], [none]⟩ := ex (.cons k37 (.cons k308 (.cons k39 .nil))) (by kernel_rfl)
theorem k310 : ACall Tryz.prog 158 [.val (.c (lF [u 0]))] ⟨[.val (.c (lF []))], [none]⟩ := ex (.nil) (by kernel_rfl)
theorem k311 : ACall Tryz.prog 170 [.val (.c (lF [])), .val (.c (lF []))] ⟨[.val (.c (lF []))], [none, none]⟩ := ex (.cons k310 .nil) (by kernel_rfl)
theorem k312 : ACall Tryz.prog 139 [.val (.agg [bF, lF []]), .val (.agg [bF, lF []])] ⟨[.val (.agg [bF, lT []])], [none, none]⟩ := ex (.cons k311 (.cons k150 .nil)) (by kernel_rfl)
theorem k313 : ACall Tryz.prog 140 [.val (.agg [bF, lT []]), .val (.agg [bF, l1])] ⟨[.val (.agg [bF, lT [], bF, l1])], [none, none]⟩ := ex (.cons k39 .nil) (by kernel_rfl)
theorem k314 : ACall Tryz.prog 93 [.val (.agg [bF, lF [], bF, l1]), .val (.agg [bF, lF [], bF, l1])] ⟨[.val (.agg [bF, lT [], bF, l1])], [none, none]⟩ := ex (.cons k309 (.cons k312 (.cons k47 (.cons k313 .nil)))) (by kernel_rfl)
theorem k315 : ACall Tryz.prog 158 [.val (.c (lT []))] ⟨[.val (.c (lT []))], [none]⟩ := ex (.nil) (by kernel_rfl)
theorem k316 : ACall Tryz.prog 157 [.val (.c (lT []))] ⟨[.val (.c (lT []))], [none]⟩ := ex (.nil) (by kernel_rfl)
theorem k317 : ACall Tryz.prog 159 [.val (.c (lT []))] ⟨[.val (.c (w64 0))], [none]⟩ := ex (.nil) (by kernel_rfl)
theorem k318 : ACall Tryz.prog 120 [.val (.agg [bF, lT []]), .val (.agg [bF, lF [u 2]])] ⟨[.val (.agg [bF, lF [u 2]])], [none, none]⟩ := ex (.cons k315 (.cons k316 (.cons k190 (.cons k209 (.cons k317 (.cons k303 (.cons k295 (.cons k296 .nil)))))))) (by kernel_rfl)
theorem k319 : ACall Tryz.prog 155 [.val (.c (lT [])), .val (.c (lF [u 2]))] ⟨[.val (.c (n64 (-1)))], [none, none]⟩ := ex (.nil) (by kernel_rfl)
theorem k320 : ACall Tryz.prog 162 [.val (.c (lT [])), .val (.c (lF [u 2]))] ⟨[.val (.c (lT [])), .val (.c (lT []))], [none, none]⟩ := ex (.cons k315 (.cons k190 (.cons k319 (.cons k316 .nil)))) (by kernel_rfl)
theorem k321 : ACall Tryz.prog 160 [.val (.c (bF)), .val (.c (lT []))] ⟨[.val (.agg [bF, lT []])], [none, none]⟩ := ex (.cons k315 .nil) (by kernel_rfl)
theorem k322 : ACall Tryz.prog 172 [.val (.agg [bF, lT []]), .val (.agg [bF, lF [u 2]])] ⟨[.val (.agg [bF, lT []]), .val (.agg [bF, lT []]), .val (.c (n64 0))], [none, none]⟩ := ex (.cons k190 (.cons k320 (.cons k321 .nil))) (by kernel_rfl)
theorem k323 : ACall Tryz.prog 155 [.val (.c (lF [u 2])), .val (.c (lF [u 2]))] ⟨[.val (.c (n64 0))], [none, none]⟩ := ex (.nil) (by kernel_rfl)
theorem k324 : ACall Tryz.prog 184 [.val (.c (lF [u 2])), .val (.c (w64 2))] ⟨[.val (.c (l1)), .val (.c (w64 0))], [none, none]⟩ := ex (.cons k35 .nil) (by kernel_rfl)
theorem k325 : ACall Tryz.prog 162 [.val (.c (lF [u 2])), .val (.c (lF [u 2]))] ⟨[.val (.c (l1)), .val (.c (lF []))], [none, none]⟩ := ex (.cons k190 (.cons k323 (.cons k324 (.cons k148 .nil)))) (by kernel_rfl)
theorem k326 : ACall Tryz.prog 172 [.val (.agg [bF, lF [u 2]]), .val (.agg [bF, lF [u 2]])] ⟨[.val (.agg [bF, l1]), .val (.agg [bF, lT []]), .val (.c (n64 0))], [none, none]⟩ := ex (.cons k190 (.cons k325 (.cons k36 (.cons k150 .nil)))) (by kernel_rfl)
theorem k327 : ACall Tryz.prog 140 [.val (.agg [bF, lT []]), .val (.agg [bF, lF [u 2]])] ⟨[.val (.agg [bF, lT [], bF, l1])], [none, none]⟩ := ex (.cons k41 (.cons k318 (.cons k322 (.cons k326 .nil)))) (by kernel_rfl)
theorem k328 : ACall Tryz.prog 119 [.val (.agg [bF, lT []])] ⟨[.val (.c (bF))], [none]⟩ := ex (.nil) (by kernel_rfl)
theorem k329 : ACall Tryz.prog 115 [.val (.c (lF [[bF, lT []], [bF, l1]]))] ⟨[.val (.agg [bF, lT []])], [none]⟩ := ex (.cons k37 (.cons k328 (.cons k39 .nil))) (by kernel_rfl)
theorem k330 : ACall Tryz.prog 99 [.val (.agg [bF, lT [], bF, l1]), .val (.agg [bF, l1, bF, lF [u 2]])] ⟨[.val (.agg [bF, lT [], bF, l1])], [none, none]⟩ := ex (.cons k327 (.cons k84 (.cons k329 (.cons k47 .nil)))) (by kernel_rfl)
theorem k331 : ACall Tryz.prog 92 [.val (.agg [bF, lT [], bF, l1]), .val (.agg [bF, lF [u 2], bF, l1])] ⟨[.val (.agg [bF, lT [], bF, l1]), .val (.c (n64 0))], [none, none]⟩ := ex (.cons k300 (.cons k330 .nil)) (by kernel_rfl)
theorem k332 : ACall Tryz.prog 158 [.val (.c (lF [u 9, u 0]))] ⟨[.val (.c (lF [u 9]))], [none]⟩ := ex (.nil) (by kernel_rfl)
theorem k333 : ACall Tryz.prog 183 [.val (.c (lF [u 3])), .val (.c (lF [u 3]))] ⟨[.val (.c (lF [u 9]))], [none, none]⟩ := ex (.cons k332 .nil) (by kernel_rfl)
theorem k334 : ACall Tryz.prog 158 [.val (.c (lF [u 9]))] ⟨[.val (.c (lF [u 9]))], [none]⟩ := ex (.nil) (by kernel_rfl)
theorem k335 : ACall Tryz.prog 160 [.val (.c (bF)), .val (.c (lF [u 9]))] ⟨[.val (.agg [bF, lF [u 9]])], [none, none]⟩ := ex (.cons k334 .nil) (by kernel_rfl)
theorem k336 : ACall Tryz.prog 156 [.val (.agg [bF, lF [u 3]]), .val (.agg [bF, lF [u 3]])] ⟨[.val (.agg [bF, lF [u 9]])], [none, none]⟩ := ex (.cons k333 (.cons k335 .nil)) (by kernel_rfl)
theorem k337 : ACall Tryz.prog 115 [.val (.c (lF [[bF, lF [u 3]], [bF, lF [u 3]]]))] ⟨[.val (.agg [bF, lF [u 9]])], [none]⟩ := ex (.cons k37 (.cons k63 (.cons k39 (.cons k336 .nil)))) (by kernel_rfl)
theorem k338 : ACall Tryz.prog 99 [.val (.agg [bF, lF [u 3], bF, lF [u 2]]), .val (.agg [bF, lF [u 3], bF, lF [u 2]])] ⟨[.val (.agg [bF, lF [u 9], bF, lF [u 4]])], [none, none]⟩ := ex (.cons k305 (.cons k337 (.cons k144 .nil))) (by kernel_rfl)
theorem k339 : ACall Tryz.prog 157 [.val (.c (lF [u 4]))] ⟨[.val (.c (lF [u 4]))], [none]⟩ := ex (.nil) (by kernel_rfl)
theorem k340 : ACall Tryz.prog 159 [.val (.c (l1))] ⟨[.val (.c (w64 1))], [none]⟩ := ex (.nil) (by kernel_rfl)
theorem k341 : ACall Tryz.prog 159 [.val (.c (lF [u 4]))] ⟨[.val (.c (w64 4))], [none]⟩ := ex (.nil) (by kernel_rfl)
theorem k342 : ACall Tryz.prog 120 [.val (.agg [bF, l1]), .val (.agg [bF, lF [u 4]])] ⟨[.val (.agg [bF, l1])], [none, none]⟩ := ex (.cons k35 (.cons k219 (.cons k141 (.cons k339 (.cons k340 (.cons k341 (.cons k34 (.cons k36 .nil)))))))) (by kernel_rfl)
theorem k343 : ACall Tryz.prog 140 [.val (.agg [bF, l1]), .val (.agg [bF, lF [u 4]])] ⟨[.val (.agg [bF, l1, bF, lF [u 4]])], [none, none]⟩ := ex (.cons k161 (.cons k342 (.cons k39 .nil))) (by kernel_rfl)
theorem k344 : ACall Tryz.prog 140 [.val (.agg [bF, lF [u 9]]), .val (.agg [bF, l1])] ⟨[.val (.agg [bF, lF [u 9], bF, l1])], [none, none]⟩ := ex (.cons k39 .nil) (by kernel_rfl)
theorem k345 : ACall Tryz.prog 119 [.val (.agg [bF, lF [u 9]])] ⟨[.val (.c (bF))], [none]⟩ := ex (.nil) (by kernel_rfl)
theorem k346 : ACall Tryz.prog 115 [.val (.c (lF [[bF, l1], [bF, lF [u 9]]]))] ⟨[.val (.agg [bF, lF [u 9]])], [none]⟩ := ex (.cons k37 (.cons k39 (.cons k345 .nil))) (by kernel_rfl)
theorem k347 : ACall Tryz.prog 99 [.val (.agg [bF, l1, bF, l1]), .val (.agg [bF, lF [u 9], bF, lF [u 4]])] ⟨[.val (.agg [bF, lF [u 9], bF, lF [u 4]])], [none, none]⟩ := ex (.cons k343 (.cons k344 (.cons k346 (.cons k162 .nil)))) (by kernel_rfl)
theorem k348 : ACall Tryz.prog 143 [.val (.agg [bF, lF [u 3], bF, lF [u 2]]), .val (.c (n64 2))] ⟨[.val (.agg [bF, lF [u 9], bF, lF [u 4]])], [none, none]⟩ := ex (.cons k129 (.cons k338 (.cons k347 .nil))) (by kernel_rfl)
theorem k349 : ACall Tryz.prog 183 [.val (.c (lT [])), .val (.c (lF [u 4]))] ⟨[.val (.c (lF []))], [none, none]⟩ := ex (.cons k310 .nil) (by kernel_rfl)
theorem k350 : ACall Tryz.prog 156 [.val (.agg [bF, lT []]), .val (.agg [bF, lF [u 4]])] ⟨[.val (.agg [bF, lT []])], [none, none]⟩ := ex (.cons k349 (.cons k150 .nil)) (by kernel_rfl)
theorem k351 : ACall Tryz.prog 115 [.val (.c (lF [[bF, lT []], [bF, lF [u 4]]]))] ⟨[.val (.agg [bF, lT []])], [none]⟩ := ex (.cons k37 (.cons k328 (.cons k39 (.cons k161 (.cons k350 .nil))))) (by kernel_rfl)
theorem k352 : ACall Tryz.prog 115 [.val (.c (lF [[bF, lF [u 9]], [bF, l1]]))] ⟨[.val (.agg [bF, lF [u 9]])], [none]⟩ := ex (.cons k37 (.cons k345 (.cons k39 .nil))) (by kernel_rfl)
theorem k353 : ACall Tryz.prog 170 [.val (.c (lT [])), .val (.c (lF [u 9]))] ⟨[.val (.c (lF [u 9]))], [none, none]⟩ := ex (.cons k332 .nil) (by kernel_rfl)
theorem k354 : ACall Tryz.prog 139 [.val (.agg [bF, lT []]), .val (.agg [bF, lF [u 9]])] ⟨[.val (.agg [bF, lF [u 9]])], [none, none]⟩ := ex (.cons k353 (.cons k335 .nil)) (by kernel_rfl)
theorem k355 : ACall Tryz.prog 115 [.val (.c (lF [[bF, l1], [bF, lF [u 4]]]))] ⟨[.val (.agg [bF, lF [u 4]])], [none]⟩ := ex (.cons k37 (.cons k39 (.cons k161 .nil))) (by kernel_rfl)
theorem k356 : ACall Tryz.prog 157 [.val (.c (lF [u 9]))] ⟨[.val (.c (lF [u 9]))], [none]⟩ := ex (.nil) (by kernel_rfl)
theorem k357 : ACall Tryz.prog 159 [.val (.c (lF [u 9]))] ⟨[.val (.c (w64 9))], [none]⟩ := ex (.nil) (by kernel_rfl)
theorem k358 : ACall Tryz.prog 120 [.val (.agg [bF, lF [u 9]]), .val (.agg [bF, lF [u 4]])] ⟨[.val (.agg [bF, l1])], [none, none]⟩ := ex (.cons k334 (.cons k356 (.cons k141 (.cons k339 (.cons k357 (.cons k341 (.cons k34 (.cons k36 .nil)))))))) (by kernel_rfl)
theorem k359 : ACall Tryz.prog 140 [.val (.agg [bF, lF [u 9]]), .val (.agg [bF, lF [u 4]])] ⟨[.val (.agg [bF, lF [u 9], bF, lF [u 4]])], [none, none]⟩ := ex (.cons k161 (.cons k358 (.cons k39 .nil))) (by kernel_rfl)
theorem k360 : ACall Tryz.prog 93 [.val (.agg [bF, lT [], bF, l1]), .val (.agg [bF, lF [u 9], bF, lF [u 4]])] ⟨[.val (.agg [bF, lF [u 9], bF, lF [u 4]])], [none, none]⟩ := ex (.cons k351 (.cons k352 (.cons k354 (.cons k355 (.cons k359 .nil))))) (by kernel_rfl)
theorem k361 : ACall Tryz.prog 158 [.val (.c (lF [u 8, u 0]))] ⟨[.val (.c (lF [u 8]))], [none]⟩ := ex (.nil) (by kernel_rfl)
theorem k362 : ACall Tryz.prog 183 [.val (.c (lF [u 2])), .val (.c (lF [u 4]))] ⟨[.val (.c (lF [u 8]))], [none, none]⟩ := ex (.cons k361 .nil) (by kernel_rfl)
theorem k363 : ACall Tryz.prog 158 [.val (.c (lF [u 8]))] ⟨[.val (.c (lF [u 8]))], [none]⟩ := ex (.nil) (by kernel_rfl)
theorem k364 : ACall Tryz.prog 160 [.val (.c (bT)), .val (.c (lF [u 8]))] ⟨[.val (.agg [bT, lF [u 8]])], [none, none]⟩ := ex (.cons k363 .nil) (by kernel_rfl)
theorem k365 : ACall Tryz.prog 156 [.val (.agg [bT, lF [u 2]]), .val (.agg [bF, lF [u 4]])] ⟨[.val (.agg [bT, lF [u 8]])], [none, none]⟩ := ex (.cons k362 (.cons k364 .nil)) (by kernel_rfl)
theorem k366 : ACall Tryz.prog 115 [.val (.c (lF [[bT, lF [u 2]], [bF, lF [u 4]]]))] ⟨[.val (.agg [bT, lF [u 8]])], [none]⟩ := ex (.cons k37 (.cons k212 (.cons k39 (.cons k161 (.cons k365 .nil))))) (by kernel_rfl)
theorem k367 : ACall Tryz.prog 155 [.val (.c (lF [u 9])), .val (.c (lF [u 8]))] ⟨[.val (.c (n64 1))], [none, none]⟩ := ex (.nil) (by kernel_rfl)
theorem k368 : ACall Tryz.prog 171 [.val (.c (lF [u 9])), .val (.c (lF [u 8]))] ⟨[.val (.c (l1))], [none, none]⟩ := ex (.cons k35 .nil) (by kernel_rfl)
theorem k369 : ACall Tryz.prog 139 [.val (.agg [bF, lF [u 9]]), .val (.agg [bT, lF [u 8]])] ⟨[.val (.agg [bF, l1])], [none, none]⟩ := ex (.cons k367 (.cons k368 (.cons k36 .nil))) (by kernel_rfl)
theorem k370 : ACall Tryz.prog 93 [.val (.agg [bF, lF [u 9], bF, lF [u 4]]), .val (.agg [bT, lF [u 2], bF, l1])] ⟨[.val (.agg [bF, l1, bF, lF [u 4]])], [none, none]⟩ := ex (.cons k352 (.cons k366 (.cons k369 (.cons k162 (.cons k343 .nil))))) (by kernel_rfl)
theorem k371 : ACall Tryz.prog 95 [.val (.c (lF [[bF, l1, bF, l1, n64 2, n64 0, n64 0, n64 0, n64 0, n64 0, n64 0, n64 0], [bT, lF [u 2], bF, l1, n64 0, n64 0, n64 0, n64 0, n64 0, n64 0, n64 0, n64 0]])), .val (.agg [bF, lF [u 3], bF, lF [u 2], bF, lT [], bF, l1, bF, lT [], bF, l1, bF, lT [], bF, l1, bF, lT [], bF, l1, bF, lT [], bF, l1, bF, lT [], bF, l1, bF, lT [], bF, l1])] ⟨[.val (.agg [bF, l1, bF, lF [u 4]])], [none, none]⟩ := ex (.cons k153 (.cons k348 (.cons k347 (.cons k360 (.cons k370 .nil))))) (by kernel_rfl)
theorem k372 : ACall Tryz.prog 96 [.val (.c (lF [[bF, l1, bF, l1, n64 2, n64 0, n64 0, n64 0, n64 0, n64 0, n64 0, n64 0], [bT, lF [u 2], bF, l1, n64 0, n64 0, n64 0, n64 0, n64 0, n64 0, n64 0, n64 0]])), .val (.c (n64 0))] ⟨[.val (.c (lF [[bF, lF [u 2], bF, l1, n64 1, n64 0, n64 0, n64 0, n64 0, n64 0, n64 0, n64 0]])), .val (.c (n64 0))], [none, none]⟩ := ex (.cons k299 (.cons k95 .nil)) (by kernel_rfl)
theorem k373 : ACall Tryz.prog 120 [.val (.agg [bF, l1]), .val (.agg [bF, lF [u 2]])] ⟨[.val (.agg [bF, l1])], [none, none]⟩ := ex (.cons k35 (.cons k219 (.cons k190 (.cons k209 (.cons k340 (.cons k303 (.cons k34 (.cons k36 .nil)))))))) (by kernel_rfl)
theorem k374 : ACall Tryz.prog 140 [.val (.agg [bF, l1]), .val (.agg [bF, lF [u 2]])] ⟨[.val (.agg [bF, l1, bF, lF [u 2]])], [none, none]⟩ := ex (.cons k41 (.cons k373 (.cons k39 .nil))) (by kernel_rfl)
theorem k375 : ACall Tryz.prog 115 [.val (.c (lF [[bF, l1], [bF, lF [u 3]]]))] ⟨[.val (.agg [bF, lF [u 3]])], [none]⟩ := ex (.cons k37 (.cons k39 (.cons k63 .nil))) (by kernel_rfl)
theorem k376 : ACall Tryz.prog 99 [.val (.agg [bF, l1, bF, l1]), .val (.agg [bF, lF [u 3], bF, lF [u 2]])] ⟨[.val (.agg [bF, lF [u 3], bF, lF [u 2]])], [none, none]⟩ := ex (.cons k374 (.cons k224 (.cons k375 (.cons k42 .nil)))) (by kernel_rfl)
theorem k377 : ACall Tryz.prog 143 [.val (.agg [bF, lF [u 3], bF, lF [u 2]]), .val (.c (n64 1))] ⟨[.val (.agg [bF, lF [u 3], bF, lF [u 2]])], [none, none]⟩ := ex (.cons k129 (.cons k376 .nil)) (by kernel_rfl)
theorem k378 : ACall Tryz.prog 120 [.val (.agg [bF, lF [u 2]]), .val (.agg [bF, lF [u 2]])] ⟨[.val (.agg [bF, lF [u 2]])], [none, none]⟩ := ex (.cons k190 (.cons k209 (.cons k303 (.cons k295 (.cons k296 .nil))))) (by kernel_rfl)
theorem k379 : ACall Tryz.prog 140 [.val (.agg [bF, lF [u 2]]), .val (.agg [bF, lF [u 2]])] ⟨[.val (.agg [bF, l1, bF, l1])], [none, none]⟩ := ex (.cons k41 (.cons k378 (.cons k326 .nil))) (by kernel_rfl)
theorem k380 : ACall Tryz.prog 99 [.val (.agg [bF, lF [u 2], bF, l1]), .val (.agg [bF, lF [u 3], bF, lF [u 2]])] ⟨[.val (.agg [bF, lF [u 3], bF, l1])], [none, none]⟩ := ex (.cons k379 (.cons k224 (.cons k375 (.cons k47 .nil)))) (by kernel_rfl)
theorem k381 : ACall Tryz.prog 170 [.val (.c (lT [])), .val (.c (lF [u 3]))] ⟨[.val (.c (lF [u 3]))], [none, none]⟩ := ex (.cons k77 .nil) (by kernel_rfl)
theorem k382 : ACall Tryz.prog 139 [.val (.agg [bF, lT []]), .val (.agg [bF, lF [u 3]])] ⟨[.val (.agg [bF, lF [u 3]])], [none, none]⟩ := ex (.cons k381 (.cons k80 .nil)) (by kernel_rfl)
theorem k383 : ACall Tryz.prog 93 [.val (.agg [bF, lT [], bF, l1]), .val (.agg [bF, lF [u 3], bF, l1])] ⟨[.val (.agg [bF, lF [u 3], bF, l1])], [none, none]⟩ := ex (.cons k329 (.cons k64 (.cons k382 (.cons k47 (.cons k224 .nil))))) (by kernel_rfl)
theorem k384 : ACall Tryz.prog 95 [.val (.c (lF [[bF, lF [u 2], bF, l1, n64 1, n64 0, n64 0, n64 0, n64 0, n64 0, n64 0, n64 0]])), .val (.agg [bF, lF [u 3], bF, lF [u 2], bF, lT [], bF, l1, bF, lT [], bF, l1, bF, lT [], bF, l1, bF, lT [], bF, l1, bF, lT [], bF, l1, bF, lT [], bF, l1, bF, lT [], bF, l1])] ⟨[.val (.agg [bF, lF [u 3], bF, l1])], [none, none]⟩ := ex (.cons k153 (.cons k377 (.cons k380 (.cons k383 .nil)))) (by kernel_rfl)
theorem k385 : ACall Tryz.prog 173 [.val (.c (lF [[lF [[bF, lF [u 3], bF, l1]]]]))] ⟨[.val (.c (n64 1))], [none]⟩ := ex (.nil) (by kernel_rfl)
theorem k386 : ACall Tryz.prog 144 [.val (.c (lF [[lF [[bF, lF [u 3], bF, l1]]]]))] ⟨[.val (.c (bT))], [none]⟩ := ex (.cons k385 .nil) (by kernel_rfl)
theorem k387 : ACall Tryz.prog 145 [.val (.c (n64 1))] ⟨[.own 4 [[bF, lT [], bF, l1]]], [none]⟩ := ex (.cons k153 .nil) (by kernel_rfl)
theorem k388 : ACall Tryz.prog 146 [.val (.c (lF [[bF, lF [u 3], bF, l1]]))] ⟨[.own 4 [[bF, lF [u 3], bF, l1]]], [none]⟩ := ex (.nil) (by kernel_rfl)
theorem k389 : ACall Tryz.prog 146 [.val (.c (lF [[bF, lF [u 3], bF, l1], [bF, l1, bF, l1]]))] ⟨[.own 4 [[bF, lF [u 3], bF, l1], [bF, l1, bF, l1]]], [none]⟩ := ex (.nil) (by kernel_rfl)
theorem k390 : ACall Tryz.prog 148 [.val (.c (lF [[lF [[bF, lF [u 3], bF, l1], [bF, l1, bF, l1]]]])), .val (.c (.v (.func (.func 146) #[] #[])))] ⟨[.own 1 [[lF [[bF, lF [u 3], bF, l1], [bF, l1, bF, l1]]]]], [none, none]⟩ := ex (.cons k389 .nil) (by kernel_rfl)
theorem k391 : ACall Tryz.prog 173 [.val (.c (lF [[lF [[bF, lF [u 3], bF, l1], [bF, l1, bF, l1]]]]))] ⟨[.val (.c (n64 2))], [none]⟩ := ex (.nil) (by kernel_rfl)
theorem k392 : ACall Tryz.prog 174 [.val (.c (lF [[lF [[bF, lF [u 3], bF, l1], [bF, l1, bF, l1]]]])), .val (.c (n64 0)), .val (.c (n64 0))] ⟨[.val (.c (n64 0))], [none, none, none]⟩ := ex (.cons k60 .nil) (by kernel_rfl)
theorem k393 : ACall Tryz.prog 138 [.val (.agg [bF, lF [u 3], bF, l1])] ⟨[.val (.agg [bF, l1, bF, lF [u 3]]), .val (.c (n64 0))], [none]⟩ := ex (.cons k59 .nil) (by kernel_rfl)
theorem k394 : ACall Tryz.prog 161 [.val (.c (w64 3))] ⟨[.val (.c (lF [u 3]))], [none]⟩ := ex (.cons k77 .nil) (by kernel_rfl)
theorem k395 : ACall Tryz.prog 120 [.val (.agg [bF, lF [u 3]]), .val (.agg [bF, lF [u 3]])] ⟨[.val (.agg [bF, lF [u 3]])], [none, none]⟩ := ex (.cons k79 (.cons k301 (.cons k302 (.cons k394 (.cons k80 .nil))))) (by kernel_rfl)
theorem k396 : ACall Tryz.prog 155 [.val (.c (lF [u 3])), .val (.c (lF [u 3]))] ⟨[.val (.c (n64 0))], [none, none]⟩ := ex (.nil) (by kernel_rfl)
theorem k397 : ACall Tryz.prog 184 [.val (.c (lF [u 3])), .val (.c (w64 3))] ⟨[.val (.c (l1)), .val (.c (w64 0))], [none, none]⟩ := ex (.cons k35 .nil) (by kernel_rfl)
theorem k398 : ACall Tryz.prog 162 [.val (.c (lF [u 3])), .val (.c (lF [u 3]))] ⟨[.val (.c (l1)), .val (.c (lF []))], [none, none]⟩ := ex (.cons k79 (.cons k396 (.cons k397 (.cons k148 .nil)))) (by kernel_rfl)
theorem k399 : ACall Tryz.prog 172 [.val (.agg [bF, lF [u 3]]), .val (.agg [bF, lF [u 3]])] ⟨[.val (.agg [bF, l1]), .val (.agg [bF, lT []]), .val (.c (n64 0))], [none, none]⟩ := ex (.cons k79 (.cons k398 (.cons k36 (.cons k150 .nil)))) (by kernel_rfl)
theorem k400 : ACall Tryz.prog 140 [.val (.agg [bF, lF [u 3]]), .val (.agg [bF, lF [u 3]])] ⟨[.val (.agg [bF, l1, bF, l1])], [none, none]⟩ := ex (.cons k63 (.cons k395 (.cons k399 .nil))) (by kernel_rfl)
theorem k401 : ACall Tryz.prog 99 [.val (.agg [bF, l1, bF, lF [u 3]]), .val (.agg [bF, lF [u 3], bF, l1])] ⟨[.val (.agg [bF, l1, bF, l1])], [none, none]⟩ := ex (.cons k84 (.cons k400 (.cons k47 .nil))) (by kernel_rfl)
theorem k402 : ACall Tryz.prog 176 [.val (.agg [bF, lF [u 3], bF, l1]), .ref [bF, l1, bF, lF [u 3]]] ⟨[.val (.agg [bF, l1, bF, l1])], [none, some (.var [.t (bF), .t (l1), .t (bF), .t (lF [u 3])])]⟩ := ex (.cons k401 .nil) (by kernel_rfl)
theorem k403 : ACall Tryz.prog 120 [.val (.agg [bF, l1]), .val (.agg [bF, lF [u 3]])] ⟨[.val (.agg [bF, l1])], [none, none]⟩ := ex (.cons k35 (.cons k219 (.cons k79 (.cons k301 (.cons k340 (.cons k302 (.cons k34 (.cons k36 .nil)))))))) (by kernel_rfl)
theorem k404 : ACall Tryz.prog 140 [.val (.agg [bF, l1]), .val (.agg [bF, lF [u 3]])] ⟨[.val (.agg [bF, l1, bF, lF [u 3]])], [none, none]⟩ := ex (.cons k63 (.cons k403 (.cons k39 .nil))) (by kernel_rfl)
theorem k405 : ACall Tryz.prog 99 [.val (.agg [bF, l1, bF, lF [u 3]]), .val (.agg [bF, l1, bF, l1])] ⟨[.val (.agg [bF, l1, bF, lF [u 3]])], [none, none]⟩ := ex (.cons k84 (.cons k404 (.cons k47 (.cons k375 .nil)))) (by kernel_rfl)
theorem k406 : ACall Tryz.prog 176 [.val (.agg [bF, l1, bF, l1]), .ref [bF, l1, bF, lF [u 3]]] ⟨[.val (.agg [bF, l1, bF, lF [u 3]])], [none, some (.var [.t (bF), .t (l1), .t (bF), .t (lF [u 3])])]⟩ := ex (.cons k405 .nil) (by kernel_rfl)
theorem k407 : ACall Tryz.prog 175 [.val (.c (lF [[bF, lF [u 3], bF, l1], [bF, l1, bF, l1]])), .clo 176 [(2, (0, 0))], .gh [bF, l1, bF, lF [u 3]]] ⟨[.val (.c (lF [[bF, l1, bF, l1], [bF, l1, bF, lF [u 3]]]))], [none, none, some (.var [.t (bF), .t (l1), .t (bF), .t (lF [u 3])])]⟩ := ex (.cons k402 (.cons k406 .nil)) (by kernel_rfl)
theorem k408 : ACall Tryz.prog 177 [.val (.c (lF [])), .val (.c (lF [[bF, l1, bF, l1], [bF, l1, bF, lF [u 3]]])), .val (.c (n64 0))] ⟨[], [none, none, none]⟩ := ex (.nil) (by kernel_rfl)
theorem k409 : ACall Tryz.prog 174 [.val (.c (lF [[lF [[bF, l1, bF, l1], [bF, l1, bF, lF [u 3]]]]])), .val (.c (n64 1)), .val (.c (n64 1))] ⟨[.val (.c (n64 (-1)))], [none, none, none]⟩ := ex (.nil) (by kernel_rfl)
theorem k410 : ACall Tryz.prog 147 [.val (.c (lF [[lF [[bF, lF [u 3], bF, l1], [bF, l1, bF, l1]]]]))] ⟨[.val (.c (lF [[lF [[bF, l1, bF, l1], [bF, l1, bF, lF [u 3]]]]])), .val (.c (lF [[n64 0]]))], [none]⟩ := ex (.cons k390 (.cons k391 (.cons k392 (.cons k393 (.cons k407 (.cons k408 (.cons k409 .nil))))))) (by kernel_rfl)
theorem k411 : ACall Tryz.prog 149 [.val (.c (lF [[bF, l1, bF, l1], [bF, l1, bF, lF [u 3]]])), .ref [n64 1]] ⟨[.val (.c (lF [[bF, l1, bF, lF [u 3]]]))], [none, some (.var [.t (n64 1)])]⟩ := ex (.nil) (by kernel_rfl)
theorem k412 : ACall Tryz.prog 148 [.val (.c (lF [[lF [[bF, l1, bF, l1], [bF, l1, bF, lF [u 3]]]]])), .clo 149 [(2, (0, 0))], .gh [n64 1]] ⟨[.own 1 [[lF [[bF, l1, bF, lF [u 3]]]]]], [none, none, some (.var [.t (n64 1)])]⟩ := ex (.cons k411 .nil) (by kernel_rfl)
theorem k413 : ACall Tryz.prog 97 [.val (.c (lF [[lF [[bF, lF [u 3], bF, l1]]]]))] ⟨[.val (.c (lF [[lF [[bF, l1, bF, lF [u 3]]]]])), .val (.c (n64 0))], [none]⟩ := ex (.cons k386 (.cons k387 (.cons k129 (.cons k388 (.cons k410 (.cons k412 .nil)))))) (by kernel_rfl)
theorem k414 : ACall Tryz.prog 87 [.val (.agg [bF, lT [], bF, l1])] ⟨[.val (.agg [bF, lT [], bF, l1, bF, lT [], bF, l1])], [none]⟩ := ex (.nil) (by kernel_rfl)
theorem k415 : ACall Tryz.prog 87 [.val (.agg [bF, lF [u 2], bF, l1])] ⟨[.val (.agg [bF, lF [u 2], bF, l1, bF, lF [u 2], bF, l1])], [none]⟩ := ex (.nil) (by kernel_rfl)
theorem k416 : ACall Tryz.prog 99 [.val (.agg [bF, l1, bF, l1]), .val (.agg [bF, l1, bF, l1])] ⟨[.val (.agg [bF, l1, bF, l1])], [none, none]⟩ := ex (.cons k84 (.cons k47 .nil)) (by kernel_rfl)
theorem k417 : ACall Tryz.prog 125 [.val (.agg [bF, l1, bF, l1]), .val (.c (n64 1))] ⟨[.val (.agg [bF, l1, bF, l1])], [none, none]⟩ := ex (.cons k129 (.cons k416 .nil)) (by kernel_rfl)
theorem k418 : ACall Tryz.prog 125 [.val (.agg [bF, lF [u 2], bF, l1]), .val (.c (n64 1))] ⟨[.val (.agg [bF, lF [u 2], bF, l1])], [none, none]⟩ := ex (.cons k129 (.cons k138 .nil)) (by kernel_rfl)
theorem k419 : ACall Tryz.prog 155 [.val (.c (lF [u 2])), .val (.c (l1))] ⟨[.val (.c (n64 1))], [none, none]⟩ := ex (.nil) (by kernel_rfl)
end Go.Proofs.YtpgbejgdmgpfjaaGreat.Mem
end

section
set_option linter.unusedVariables false
set_option linter.unusedSimpArgs false
/-
  A closed call, one function at a time, part 4 (printed by a program of mine).
-/
set_option maxRecDepth 100000
set_option maxHeartbeats 0
namespace Go.Proofs.YtpgbejgdmgpfjaaGreat.Mem
open Go Go.Abs Go.Proofs
theorem k420 : ACall Tryz.prog 114 [.val (.agg [bF, lF [u 2]]), .val (.agg [bF, l1])] ⟨[.val (.c (n64 1))], [none, none]⟩ := ex (.cons k31 (.cons k23 (.cons k419 .nil))) (by kernel_rfl)
theorem k421 : ACall Tryz.prog 67 [.val (.agg [bF, lF [u 2], bF, l1]), .val (.agg [bF, l1, bF, l1])] ⟨[.val (.c (n64 1))], [none, none]⟩ := ex (.cons k32 (.cons k24 (.cons k42 (.cons k47 (.cons k420 .nil))))) (by kernel_rfl)
theorem k422 : ACall Tryz.prog 66 [.val (.c (lF [[bF, l1, bF, l1], [bF, lF [u 2], bF, l1]]))] ⟨[.val (.agg [bF, l1, bF, l1])], [none]⟩ := ex (.cons k421 .nil) (by kernel_rfl)
theorem k423 : ACall Tryz.prog 65 [.val (.c (lF [[bF, l1, bF, l1], [bF, lF [u 2], bF, l1]]))] ⟨[.val (.agg [bF, lF [u 2], bF, l1])], [none]⟩ := ex (.cons k421 .nil) (by kernel_rfl)
theorem k424 : ACall Tryz.prog 124 [.val (.c (lF [[bF, l1, bF, l1], [bF, lF [u 2], bF, l1]]))] ⟨[.val (.agg [bF, l1, bF, l1, bF, lF [u 2], bF, l1])], [none]⟩ := ex (.cons k422 (.cons k423 .nil)) (by kernel_rfl)
theorem k425 : ACall Tryz.prog 75 [.val (.agg [bF, l1, bF, l1, bF, lF [u 2], bF, l1]), .val (.c (n64 1))] ⟨[.val (.agg [bF, l1, bF, l1, bF, lF [u 2], bF, l1])], [none, none]⟩ := ex (.cons k417 (.cons k418 (.cons k424 .nil))) (by kernel_rfl)
theorem k426 : ACall Tryz.prog 155 [.val (.c (lF [u 4])), .val (.c (lF [u 2]))] ⟨[.val (.c (n64 1))], [none, none]⟩ := ex (.nil) (by kernel_rfl)
theorem k427 : ACall Tryz.prog 114 [.val (.agg [bF, lF [u 4]]), .val (.agg [bF, lF [u 2]])] ⟨[.val (.c (n64 1))], [none, none]⟩ := ex (.cons k157 (.cons k31 (.cons k426 .nil))) (by kernel_rfl)
theorem k428 : ACall Tryz.prog 67 [.val (.agg [bF, lF [u 4], bF, l1]), .val (.agg [bF, lF [u 2], bF, l1])] ⟨[.val (.c (n64 1))], [none, none]⟩ := ex (.cons k158 (.cons k32 (.cons k162 (.cons k42 (.cons k427 .nil))))) (by kernel_rfl)
theorem k429 : ACall Tryz.prog 114 [.val (.agg [bF, lF [u 2]]), .val (.agg [bF, lF [u 2]])] ⟨[.val (.c (n64 0))], [none, none]⟩ := ex (.cons k31 (.cons k323 .nil)) (by kernel_rfl)
theorem k430 : ACall Tryz.prog 67 [.val (.agg [bF, lF [u 2], bF, l1]), .val (.agg [bF, lF [u 2], bF, l1])] ⟨[.val (.c (n64 0))], [none, none]⟩ := ex (.cons k32 (.cons k42 (.cons k429 .nil))) (by kernel_rfl)
theorem k431 : ACall Tryz.prog 66 [.val (.c (lF [[bF, lF [u 2], bF, l1], [bF, lF [u 4], bF, l1], [bF, lF [u 2], bF, l1], [bF, lF [u 4], bF, l1]]))] ⟨[.val (.agg [bF, lF [u 2], bF, l1])], [none]⟩ := ex (.cons k428 (.cons k430 .nil)) (by kernel_rfl)
theorem k432 : ACall Tryz.prog 155 [.val (.c (lF [u 2])), .val (.c (lF [u 4]))] ⟨[.val (.c (n64 (-1)))], [none, none]⟩ := ex (.nil) (by kernel_rfl)
theorem k433 : ACall Tryz.prog 114 [.val (.agg [bF, lF [u 2]]), .val (.agg [bF, lF [u 4]])] ⟨[.val (.c (n64 (-1)))], [none, none]⟩ := ex (.cons k31 (.cons k157 (.cons k432 .nil))) (by kernel_rfl)
theorem k434 : ACall Tryz.prog 67 [.val (.agg [bF, lF [u 2], bF, l1]), .val (.agg [bF, lF [u 4], bF, l1])] ⟨[.val (.c (n64 (-1)))], [none, none]⟩ := ex (.cons k32 (.cons k158 (.cons k42 (.cons k162 (.cons k433 .nil))))) (by kernel_rfl)
theorem k435 : ACall Tryz.prog 155 [.val (.c (lF [u 4])), .val (.c (lF [u 4]))] ⟨[.val (.c (n64 0))], [none, none]⟩ := ex (.nil) (by kernel_rfl)
theorem k436 : ACall Tryz.prog 114 [.val (.agg [bF, lF [u 4]]), .val (.agg [bF, lF [u 4]])] ⟨[.val (.c (n64 0))], [none, none]⟩ := ex (.cons k157 (.cons k435 .nil)) (by kernel_rfl)
theorem k437 : ACall Tryz.prog 67 [.val (.agg [bF, lF [u 4], bF, l1]), .val (.agg [bF, lF [u 4], bF, l1])] ⟨[.val (.c (n64 0))], [none, none]⟩ := ex (.cons k158 (.cons k162 (.cons k436 .nil))) (by kernel_rfl)
theorem k438 : ACall Tryz.prog 65 [.val (.c (lF [[bF, lF [u 2], bF, l1], [bF, lF [u 4], bF, l1], [bF, lF [u 2], bF, l1], [bF, lF [u 4], bF, l1]]))] ⟨[.val (.agg [bF, lF [u 4], bF, l1])], [none]⟩ := ex (.cons k428 (.cons k434 (.cons k437 .nil))) (by kernel_rfl)
theorem k439 : ACall Tryz.prog 124 [.val (.c (lF [[bF, lF [u 2], bF, l1], [bF, lF [u 4], bF, l1], [bF, lF [u 2], bF, l1], [bF, lF [u 4], bF, l1]]))] ⟨[.val (.agg [bF, lF [u 2], bF, l1, bF, lF [u 4], bF, l1])], [none]⟩ := ex (.cons k431 (.cons k438 .nil)) (by kernel_rfl)
theorem k440 : ACall Tryz.prog 74 [.val (.agg [bF, lF [u 2], bF, l1, bF, lF [u 2], bF, l1]), .val (.agg [bF, l1, bF, l1, bF, lF [u 2], bF, l1])] ⟨[.val (.agg [bF, lF [u 2], bF, l1, bF, lF [u 4], bF, l1])], [none, none]⟩ := ex (.cons k95 (.cons k145 (.cons k439 .nil))) (by kernel_rfl)
theorem k441 : ACall Tryz.prog 86 [.val (.c (n64 0)), .ref [lF [[bF, lF [u 2], bF, l1, n64 1, n64 0, n64 0, n64 0, n64 0, n64 0, n64 0, n64 0]]], .ref [bF, l1, bF, l1, bF, lF [u 2], bF, l1, bF, lF [], bF, l1, bF, lF [], bF, l1, bF, lF [], bF, l1, bF, lF [], bF, l1, bF, lF [], bF, l1, bF, lF [], bF, l1, bF, lF [], bF, l1, bF, lF [], bF, l1, bF, lF [], bF, l1, bF, lF [], bF, l1, bF, lF [], bF, l1, bF, lF [], bF, l1, bF, lF [], bF, l1, bF, lF [], bF, l1]] ⟨[.val (.agg [bF, lF [u 2], bF, l1, bF, lF [u 4], bF, l1])], [none, some (.var [.t (lF [[bF, lF [u 2], bF, l1, n64 1, n64 0, n64 0, n64 0, n64 0, n64 0, n64 0, n64 0]])]), some (.var [.t (bF), .t (l1), .t (bF), .t (l1), .t (bF), .t (lF [u 2]), .t (bF), .t (l1), .t (bF), .t (lF []), .t (bF), .t (l1), .t (bF), .t (lF []), .t (bF), .t (l1), .t (bF), .t (lF []), .t (bF), .t (l1), .t (bF), .t (lF []), .t (bF), .t (l1), .t (bF), .t (lF []), .t (bF), .t (l1), .t (bF), .t (lF []), .t (bF), .t (l1), .t (bF), .t (lF []), .t (bF), .t (l1), .t (bF), .t (lF []), .t (bF), .t (l1), .t (bF), .t (lF []), .t (bF), .t (l1), .t (bF), .t (lF []), .t (bF), .t (l1), .t (bF), .t (lF []), .t (bF), .t (l1), .t (bF), .t (lF []), .t (bF), .t (l1), .t (bF), .t (lF []), .t (bF), .t (l1), .t (bF), .t (lF []), .t (bF), .t (l1)])]⟩ := ex (.cons k415 (.cons k425 (.cons k440 .nil))) (by kernel_rfl)
theorem k442 : ACall Tryz.prog 170 [.val (.c (lT [])), .val (.c (lF [u 2]))] ⟨[.val (.c (lF [u 2]))], [none, none]⟩ := ex (.cons k188 .nil) (by kernel_rfl)
theorem k443 : ACall Tryz.prog 139 [.val (.agg [bF, lT []]), .val (.agg [bF, lF [u 2]])] ⟨[.val (.agg [bF, lF [u 2]])], [none, none]⟩ := ex (.cons k442 (.cons k296 .nil)) (by kernel_rfl)
theorem k444 : ACall Tryz.prog 93 [.val (.agg [bF, lT [], bF, l1]), .val (.agg [bF, lF [u 2], bF, l1])] ⟨[.val (.agg [bF, lF [u 2], bF, l1])], [none, none]⟩ := ex (.cons k329 (.cons k42 (.cons k443 (.cons k47 (.cons k87 .nil))))) (by kernel_rfl)
theorem k445 : ACall Tryz.prog 170 [.val (.c (lT [])), .val (.c (lF [u 4]))] ⟨[.val (.c (lF [u 4]))], [none, none]⟩ := ex (.cons k139 .nil) (by kernel_rfl)
theorem k446 : ACall Tryz.prog 139 [.val (.agg [bF, lT []]), .val (.agg [bF, lF [u 4]])] ⟨[.val (.agg [bF, lF [u 4]])], [none, none]⟩ := ex (.cons k445 (.cons k142 .nil)) (by kernel_rfl)
theorem k447 : ACall Tryz.prog 93 [.val (.agg [bF, lT [], bF, l1]), .val (.agg [bF, lF [u 4], bF, l1])] ⟨[.val (.agg [bF, lF [u 4], bF, l1])], [none, none]⟩ := ex (.cons k329 (.cons k162 (.cons k446 (.cons k47 (.cons k197 .nil))))) (by kernel_rfl)
theorem k448 : ACall Tryz.prog 72 [.val (.agg [bF, lT [], bF, l1, bF, lT [], bF, l1]), .val (.agg [bF, lF [u 2], bF, l1, bF, lF [u 4], bF, l1])] ⟨[.val (.agg [bF, lF [u 2], bF, l1, bF, lF [u 4], bF, l1])], [none, none]⟩ := ex (.cons k444 (.cons k447 .nil)) (by kernel_rfl)
theorem k449 : ACall Tryz.prog 88 [.val (.c (n64 1)), .clo 86 [(2, (0, 0)), (3, (0, 0))], .gh [lF [[bF, lF [u 2], bF, l1, n64 1, n64 0, n64 0, n64 0, n64 0, n64 0, n64 0, n64 0]]], .gh [bF, l1, bF, l1, bF, lF [u 2], bF, l1, bF, lF [], bF, l1, bF, lF [], bF, l1, bF, lF [], bF, l1, bF, lF [], bF, l1, bF, lF [], bF, l1, bF, lF [], bF, l1, bF, lF [], bF, l1, bF, lF [], bF, l1, bF, lF [], bF, l1, bF, lF [], bF, l1, bF, lF [], bF, l1, bF, lF [], bF, l1, bF, lF [], bF, l1, bF, lF [], bF, l1]] ⟨[.val (.agg [bF, lF [u 2], bF, l1, bF, lF [u 4], bF, l1])], [none, none, some (.var [.t (lF [[bF, lF [u 2], bF, l1, n64 1, n64 0, n64 0, n64 0, n64 0, n64 0, n64 0, n64 0]])]), some (.var [.t (bF), .t (l1), .t (bF), .t (l1), .t (bF), .t (lF [u 2]), .t (bF), .t (l1), .t (bF), .t (lF []), .t (bF), .t (l1), .t (bF), .t (lF []), .t (bF), .t (l1), .t (bF), .t (lF []), .t (bF), .t (l1), .t (bF), .t (lF []), .t (bF), .t (l1), .t (bF), .t (lF []), .t (bF), .t (l1), .t (bF), .t (lF []), .t (bF), .t (l1), .t (bF), .t (lF []), .t (bF), .t (l1), .t (bF), .t (lF []), .t (bF), .t (l1), .t (bF), .t (lF []), .t (bF), .t (l1), .t (bF), .t (lF []), .t (bF), .t (l1), .t (bF), .t (lF []), .t (bF), .t (l1), .t (bF), .t (lF []), .t (bF), .t (l1), .t (bF), .t (lF []), .t (bF), .t (l1), .t (bF), .t (lF []), .t (bF), .t (l1)])]⟩ := ex (.cons k153 (.cons k414 (.cons k441 (.cons k448 .nil)))) (by kernel_rfl)
theorem k450 : ACall Tryz.prog 39 [.val (.c (lF [[bF, lF [u 2], bF, l1, n64 1, n64 0, n64 0, n64 0, n64 0, n64 0, n64 0, n64 0]])), .val (.agg [bF, l1, bF, l1, bF, lF [u 2], bF, l1, bF, lF [], bF, l1, bF, lF [], bF, l1, bF, lF [], bF, l1, bF, lF [], bF, l1, bF, lF [], bF, l1, bF, lF [], bF, l1, bF, lF [], bF, l1, bF, lF [], bF, l1, bF, lF [], bF, l1, bF, lF [], bF, l1, bF, lF [], bF, l1, bF, lF [], bF, l1, bF, lF [], bF, l1, bF, lF [], bF, l1])] ⟨[.val (.agg [bF, lF [u 2], bF, l1, bF, lF [u 4], bF, l1])], [none, none]⟩ := ex (.cons k449 .nil) (by kernel_rfl)
theorem k451 : ACall Tryz.prog 158 [.val (.c (lF [u 12, u 0]))] ⟨[.val (.c (lF [u 12]))], [none]⟩ := ex (.nil) (by kernel_rfl)
theorem k452 : ACall Tryz.prog 183 [.val (.c (lF [u 4])), .val (.c (lF [u 3]))] ⟨[.val (.c (lF [u 12]))], [none, none]⟩ := ex (.cons k451 .nil) (by kernel_rfl)
theorem k453 : ACall Tryz.prog 158 [.val (.c (lF [u 12]))] ⟨[.val (.c (lF [u 12]))], [none]⟩ := ex (.nil) (by kernel_rfl)
theorem k454 : ACall Tryz.prog 160 [.val (.c (bF)), .val (.c (lF [u 12]))] ⟨[.val (.agg [bF, lF [u 12]])], [none, none]⟩ := ex (.cons k453 .nil) (by kernel_rfl)
theorem k455 : ACall Tryz.prog 156 [.val (.agg [bF, lF [u 4]]), .val (.agg [bF, lF [u 3]])] ⟨[.val (.agg [bF, lF [u 12]])], [none, none]⟩ := ex (.cons k452 (.cons k454 .nil)) (by kernel_rfl)
theorem k456 : ACall Tryz.prog 115 [.val (.c (lF [[bF, lF [u 4]], [bF, lF [u 3]]]))] ⟨[.val (.agg [bF, lF [u 12]])], [none]⟩ := ex (.cons k37 (.cons k161 (.cons k39 (.cons k63 (.cons k455 .nil))))) (by kernel_rfl)
theorem k457 : ACall Tryz.prog 99 [.val (.agg [bF, l1, bF, lF [u 3]]), .val (.agg [bF, l1, bF, lF [u 4]])] ⟨[.val (.agg [bF, l1, bF, lF [u 12]])], [none, none]⟩ := ex (.cons k343 (.cons k404 (.cons k47 (.cons k456 .nil)))) (by kernel_rfl)
theorem k458 : ACall Tryz.prog 87 [.val (.agg [bF, l1, bF, lF [u 12]])] ⟨[.val (.agg [bF, l1, bF, lF [u 12], bF, l1, bF, lF [u 12]])], [none]⟩ := ex (.nil) (by kernel_rfl)
theorem k459 : ACall Tryz.prog 98 [.val (.c (n64 0)), .ref [lF [[lF [[bF, l1, bF, lF [u 3]]]]]], .ref [n64 0], .ref [lF [[bF, l1, bF, lF [u 4]]]]] ⟨[.val (.agg [bF, l1, bF, lF [u 12], bF, l1, bF, lF [u 12]])], [none, some (.var [.t (lF [[lF [[bF, l1, bF, lF [u 3]]]]])]), some (.var [.t (n64 0)]), some (.var [.t (lF [[bF, l1, bF, lF [u 4]]])])]⟩ := ex (.cons k457 (.cons k458 .nil)) (by kernel_rfl)
theorem k460 : ACall Tryz.prog 119 [.val (.agg [bF, lF [u 12]])] ⟨[.val (.c (bF))], [none]⟩ := ex (.nil) (by kernel_rfl)
theorem k461 : ACall Tryz.prog 183 [.val (.c (lT [])), .val (.c (lF [u 12]))] ⟨[.val (.c (lF []))], [none, none]⟩ := ex (.cons k310 .nil) (by kernel_rfl)
theorem k462 : ACall Tryz.prog 156 [.val (.agg [bF, lT []]), .val (.agg [bF, lF [u 12]])] ⟨[.val (.agg [bF, lT []])], [none, none]⟩ := ex (.cons k461 (.cons k150 .nil)) (by kernel_rfl)
theorem k463 : ACall Tryz.prog 115 [.val (.c (lF [[bF, lT []], [bF, lF [u 12]]]))] ⟨[.val (.agg [bF, lT []])], [none]⟩ := ex (.cons k37 (.cons k328 (.cons k39 (.cons k460 (.cons k462 .nil))))) (by kernel_rfl)
theorem k464 : ACall Tryz.prog 170 [.val (.c (lT [])), .val (.c (l1))] ⟨[.val (.c (l1))], [none, none]⟩ := ex (.cons k33 .nil) (by kernel_rfl)
theorem k465 : ACall Tryz.prog 139 [.val (.agg [bF, lT []]), .val (.agg [bF, l1])] ⟨[.val (.agg [bF, l1])], [none, none]⟩ := ex (.cons k464 (.cons k36 .nil)) (by kernel_rfl)
theorem k466 : ACall Tryz.prog 115 [.val (.c (lF [[bF, l1], [bF, lF [u 12]]]))] ⟨[.val (.agg [bF, lF [u 12]])], [none]⟩ := ex (.cons k37 (.cons k39 (.cons k460 .nil))) (by kernel_rfl)
theorem k467 : ACall Tryz.prog 157 [.val (.c (lF [u 12]))] ⟨[.val (.c (lF [u 12]))], [none]⟩ := ex (.nil) (by kernel_rfl)
theorem k468 : ACall Tryz.prog 159 [.val (.c (lF [u 12]))] ⟨[.val (.c (w64 12))], [none]⟩ := ex (.nil) (by kernel_rfl)
theorem k469 : ACall Tryz.prog 120 [.val (.agg [bF, l1]), .val (.agg [bF, lF [u 12]])] ⟨[.val (.agg [bF, l1])], [none, none]⟩ := ex (.cons k35 (.cons k219 (.cons k453 (.cons k467 (.cons k340 (.cons k468 (.cons k34 (.cons k36 .nil)))))))) (by kernel_rfl)
theorem k470 : ACall Tryz.prog 140 [.val (.agg [bF, l1]), .val (.agg [bF, lF [u 12]])] ⟨[.val (.agg [bF, l1, bF, lF [u 12]])], [none, none]⟩ := ex (.cons k460 (.cons k469 (.cons k39 .nil))) (by kernel_rfl)
theorem k471 : ACall Tryz.prog 93 [.val (.agg [bF, lT [], bF, l1]), .val (.agg [bF, l1, bF, lF [u 12]])] ⟨[.val (.agg [bF, l1, bF, lF [u 12]])], [none, none]⟩ := ex (.cons k463 (.cons k47 (.cons k465 (.cons k466 (.cons k470 .nil))))) (by kernel_rfl)
theorem k472 : ACall Tryz.prog 72 [.val (.agg [bF, lT [], bF, l1, bF, lT [], bF, l1]), .val (.agg [bF, l1, bF, lF [u 12], bF, l1, bF, lF [u 12]])] ⟨[.val (.agg [bF, l1, bF, lF [u 12], bF, l1, bF, lF [u 12]])], [none, none]⟩ := ex (.cons k471 .nil) (by kernel_rfl)
theorem k473 : ACall Tryz.prog 88 [.val (.c (n64 1)), .clo 98 [(2, (0, 0)), (3, (0, 0)), (4, (0, 0))], .gh [lF [[lF [[bF, l1, bF, lF [u 3]]]]]], .gh [n64 0], .gh [lF [[bF, l1, bF, lF [u 4]]]]] ⟨[.val (.agg [bF, l1, bF, lF [u 12], bF, l1, bF, lF [u 12]])], [none, none, some (.var [.t (lF [[lF [[bF, l1, bF, lF [u 3]]]]])]), some (.var [.t (n64 0)]), some (.var [.t (lF [[bF, l1, bF, lF [u 4]]])])]⟩ := ex (.cons k153 (.cons k414 (.cons k459 (.cons k472 .nil)))) (by kernel_rfl)
theorem k474 : ACall Tryz.prog 87 [.val (.agg [bF, l1, bF, l1])] ⟨[.val (.agg [bF, l1, bF, l1, bF, l1, bF, l1])], [none]⟩ := ex (.nil) (by kernel_rfl)
theorem k475 : ACall Tryz.prog 87 [.val (.agg [bF, l1, bF, lF [u 3]])] ⟨[.val (.agg [bF, l1, bF, lF [u 3], bF, l1, bF, lF [u 3]])], [none]⟩ := ex (.nil) (by kernel_rfl)
theorem k476 : ACall Tryz.prog 120 [.val (.agg [bF, lF [u 2]]), .val (.agg [bF, lF [u 3]])] ⟨[.val (.agg [bF, l1])], [none, none]⟩ := ex (.cons k190 (.cons k209 (.cons k79 (.cons k301 (.cons k303 (.cons k302 (.cons k34 (.cons k36 .nil)))))))) (by kernel_rfl)
theorem k477 : ACall Tryz.prog 140 [.val (.agg [bF, lF [u 2]]), .val (.agg [bF, lF [u 3]])] ⟨[.val (.agg [bF, lF [u 2], bF, lF [u 3]])], [none, none]⟩ := ex (.cons k63 (.cons k476 (.cons k39 .nil))) (by kernel_rfl)
theorem k478 : ACall Tryz.prog 99 [.val (.agg [bF, l1, bF, lF [u 3]]), .val (.agg [bF, lF [u 2], bF, l1])] ⟨[.val (.agg [bF, lF [u 2], bF, lF [u 3]])], [none, none]⟩ := ex (.cons k84 (.cons k477 (.cons k137 (.cons k375 .nil)))) (by kernel_rfl)
theorem k479 : ACall Tryz.prog 120 [.val (.agg [bF, lF [u 4]]), .val (.agg [bF, lF [u 3]])] ⟨[.val (.agg [bF, l1])], [none, none]⟩ := ex (.cons k141 (.cons k339 (.cons k79 (.cons k301 (.cons k341 (.cons k302 (.cons k34 (.cons k36 .nil)))))))) (by kernel_rfl)
theorem k480 : ACall Tryz.prog 140 [.val (.agg [bF, lF [u 4]]), .val (.agg [bF, lF [u 3]])] ⟨[.val (.agg [bF, lF [u 4], bF, lF [u 3]])], [none, none]⟩ := ex (.cons k63 (.cons k479 (.cons k39 .nil))) (by kernel_rfl)
theorem k481 : ACall Tryz.prog 99 [.val (.agg [bF, l1, bF, lF [u 3]]), .val (.agg [bF, lF [u 4], bF, l1])] ⟨[.val (.agg [bF, lF [u 4], bF, lF [u 3]])], [none, none]⟩ := ex (.cons k84 (.cons k480 (.cons k355 (.cons k375 .nil)))) (by kernel_rfl)
theorem k482 : ACall Tryz.prog 113 [.val (.agg [bF, lF [u 4], bF, lF [u 3]])] ⟨[.val (.c (n64 1))], [none]⟩ := ex (.cons k157 .nil) (by kernel_rfl)
theorem k483 : ACall Tryz.prog 113 [.val (.agg [bF, lF [u 2], bF, lF [u 3]])] ⟨[.val (.c (n64 1))], [none]⟩ := ex (.cons k31 .nil) (by kernel_rfl)
theorem k484 : ACall Tryz.prog 160 [.val (.c (bF)), .val (.c (lF [u 6]))] ⟨[.val (.agg [bF, lF [u 6]])], [none, none]⟩ := ex (.cons k90 .nil) (by kernel_rfl)
theorem k485 : ACall Tryz.prog 156 [.val (.agg [bF, lF [u 2]]), .val (.agg [bF, lF [u 3]])] ⟨[.val (.agg [bF, lF [u 6]])], [none, none]⟩ := ex (.cons k89 (.cons k484 .nil)) (by kernel_rfl)
theorem k486 : ACall Tryz.prog 115 [.val (.c (lF [[bF, lF [u 2]], [bF, lF [u 3]]]))] ⟨[.val (.agg [bF, lF [u 6]])], [none]⟩ := ex (.cons k37 (.cons k41 (.cons k39 (.cons k63 (.cons k485 .nil))))) (by kernel_rfl)
theorem k487 : ACall Tryz.prog 118 [.val (.agg [bF, lF [u 12]])] ⟨[.val (.c (n64 1))], [none]⟩ := ex (.nil) (by kernel_rfl)
theorem k488 : ACall Tryz.prog 118 [.val (.agg [bF, lF [u 6]])] ⟨[.val (.c (n64 1))], [none]⟩ := ex (.nil) (by kernel_rfl)
theorem k489 : ACall Tryz.prog 155 [.val (.c (lF [u 12])), .val (.c (lF [u 6]))] ⟨[.val (.c (n64 1))], [none, none]⟩ := ex (.nil) (by kernel_rfl)
theorem k490 : ACall Tryz.prog 114 [.val (.agg [bF, lF [u 12]]), .val (.agg [bF, lF [u 6]])] ⟨[.val (.c (n64 1))], [none, none]⟩ := ex (.cons k487 (.cons k488 (.cons k489 .nil))) (by kernel_rfl)
theorem k491 : ACall Tryz.prog 67 [.val (.agg [bF, lF [u 4], bF, lF [u 3]]), .val (.agg [bF, lF [u 2], bF, lF [u 3]])] ⟨[.val (.c (n64 1))], [none, none]⟩ := ex (.cons k482 (.cons k483 (.cons k456 (.cons k486 (.cons k490 .nil))))) (by kernel_rfl)
theorem k492 : ACall Tryz.prog 155 [.val (.c (lF [u 6])), .val (.c (lF [u 6]))] ⟨[.val (.c (n64 0))], [none, none]⟩ := ex (.nil) (by kernel_rfl)
theorem k493 : ACall Tryz.prog 114 [.val (.agg [bF, lF [u 6]]), .val (.agg [bF, lF [u 6]])] ⟨[.val (.c (n64 0))], [none, none]⟩ := ex (.cons k488 (.cons k492 .nil)) (by kernel_rfl)
theorem k494 : ACall Tryz.prog 67 [.val (.agg [bF, lF [u 2], bF, lF [u 3]]), .val (.agg [bF, lF [u 2], bF, lF [u 3]])] ⟨[.val (.c (n64 0))], [none, none]⟩ := ex (.cons k483 (.cons k486 (.cons k493 .nil))) (by kernel_rfl)
theorem k495 : ACall Tryz.prog 66 [.val (.c (lF [[bF, lF [u 2], bF, lF [u 3]], [bF, lF [u 4], bF, lF [u 3]], [bF, lF [u 2], bF, lF [u 3]], [bF, lF [u 4], bF, lF [u 3]]]))] ⟨[.val (.agg [bF, lF [u 2], bF, lF [u 3]])], [none]⟩ := ex (.cons k491 (.cons k494 .nil)) (by kernel_rfl)
theorem k496 : ACall Tryz.prog 155 [.val (.c (lF [u 6])), .val (.c (lF [u 12]))] ⟨[.val (.c (n64 (-1)))], [none, none]⟩ := ex (.nil) (by kernel_rfl)
theorem k497 : ACall Tryz.prog 114 [.val (.agg [bF, lF [u 6]]), .val (.agg [bF, lF [u 12]])] ⟨[.val (.c (n64 (-1)))], [none, none]⟩ := ex (.cons k488 (.cons k487 (.cons k496 .nil))) (by kernel_rfl)
theorem k498 : ACall Tryz.prog 67 [.val (.agg [bF, lF [u 2], bF, lF [u 3]]), .val (.agg [bF, lF [u 4], bF, lF [u 3]])] ⟨[.val (.c (n64 (-1)))], [none, none]⟩ := ex (.cons k483 (.cons k482 (.cons k486 (.cons k456 (.cons k497 .nil))))) (by kernel_rfl)
theorem k499 : ACall Tryz.prog 155 [.val (.c (lF [u 12])), .val (.c (lF [u 12]))] ⟨[.val (.c (n64 0))], [none, none]⟩ := ex (.nil) (by kernel_rfl)
theorem k500 : ACall Tryz.prog 114 [.val (.agg [bF, lF [u 12]]), .val (.agg [bF, lF [u 12]])] ⟨[.val (.c (n64 0))], [none, none]⟩ := ex (.cons k487 (.cons k499 .nil)) (by kernel_rfl)
theorem k501 : ACall Tryz.prog 67 [.val (.agg [bF, lF [u 4], bF, lF [u 3]]), .val (.agg [bF, lF [u 4], bF, lF [u 3]])] ⟨[.val (.c (n64 0))], [none, none]⟩ := ex (.cons k482 (.cons k456 (.cons k500 .nil))) (by kernel_rfl)
theorem k502 : ACall Tryz.prog 65 [.val (.c (lF [[bF, lF [u 2], bF, lF [u 3]], [bF, lF [u 4], bF, lF [u 3]], [bF, lF [u 2], bF, lF [u 3]], [bF, lF [u 4], bF, lF [u 3]]]))] ⟨[.val (.agg [bF, lF [u 4], bF, lF [u 3]])], [none]⟩ := ex (.cons k491 (.cons k498 (.cons k501 .nil))) (by kernel_rfl)
theorem k503 : ACall Tryz.prog 124 [.val (.c (lF [[bF, lF [u 2], bF, lF [u 3]], [bF, lF [u 4], bF, lF [u 3]], [bF, lF [u 2], bF, lF [u 3]], [bF, lF [u 4], bF, lF [u 3]]]))] ⟨[.val (.agg [bF, lF [u 2], bF, lF [u 3], bF, lF [u 4], bF, lF [u 3]])], [none]⟩ := ex (.cons k495 (.cons k502 .nil)) (by kernel_rfl)
theorem k504 : ACall Tryz.prog 74 [.val (.agg [bF, l1, bF, lF [u 3], bF, l1, bF, lF [u 3]]), .val (.agg [bF, lF [u 2], bF, l1, bF, lF [u 4], bF, l1])] ⟨[.val (.agg [bF, lF [u 2], bF, lF [u 3], bF, lF [u 4], bF, lF [u 3]])], [none, none]⟩ := ex (.cons k478 (.cons k481 (.cons k503 .nil))) (by kernel_rfl)
theorem k505 : ACall Tryz.prog 101 [.val (.c (n64 0)), .ref [lF [[lF [[bF, l1, bF, lF [u 3]]]]]], .ref [n64 0], .ref [lF [[lF [[bF, lF [u 2], bF, l1, bF, lF [u 4], bF, l1]]]]], .ref [n64 0]] ⟨[.val (.agg [bF, lF [u 2], bF, lF [u 3], bF, lF [u 4], bF, lF [u 3]])], [none, some (.var [.t (lF [[lF [[bF, l1, bF, lF [u 3]]]]])]), some (.var [.t (n64 0)]), some (.var [.t (lF [[lF [[bF, lF [u 2], bF, l1, bF, lF [u 4], bF, l1]]]])]), some (.var [.t (n64 0)])]⟩ := ex (.cons k475 (.cons k504 .nil)) (by kernel_rfl)
theorem k506 : ACall Tryz.prog 183 [.val (.c (lT [])), .val (.c (lF [u 3]))] ⟨[.val (.c (lF []))], [none, none]⟩ := ex (.cons k310 .nil) (by kernel_rfl)
theorem k507 : ACall Tryz.prog 156 [.val (.agg [bF, lT []]), .val (.agg [bF, lF [u 3]])] ⟨[.val (.agg [bF, lT []])], [none, none]⟩ := ex (.cons k506 (.cons k150 .nil)) (by kernel_rfl)
theorem k508 : ACall Tryz.prog 115 [.val (.c (lF [[bF, lT []], [bF, lF [u 3]]]))] ⟨[.val (.agg [bF, lT []])], [none]⟩ := ex (.cons k37 (.cons k328 (.cons k39 (.cons k63 (.cons k507 .nil))))) (by kernel_rfl)
theorem k509 : ACall Tryz.prog 93 [.val (.agg [bF, lT [], bF, l1]), .val (.agg [bF, lF [u 2], bF, lF [u 3]])] ⟨[.val (.agg [bF, lF [u 2], bF, lF [u 3]])], [none, none]⟩ := ex (.cons k508 (.cons k42 (.cons k443 (.cons k375 (.cons k477 .nil))))) (by kernel_rfl)
theorem k510 : ACall Tryz.prog 93 [.val (.agg [bF, lT [], bF, l1]), .val (.agg [bF, lF [u 4], bF, lF [u 3]])] ⟨[.val (.agg [bF, lF [u 4], bF, lF [u 3]])], [none, none]⟩ := ex (.cons k508 (.cons k162 (.cons k446 (.cons k375 (.cons k480 .nil))))) (by kernel_rfl)
theorem k511 : ACall Tryz.prog 72 [.val (.agg [bF, lT [], bF, l1, bF, lT [], bF, l1]), .val (.agg [bF, lF [u 2], bF, lF [u 3], bF, lF [u 4], bF, lF [u 3]])] ⟨[.val (.agg [bF, lF [u 2], bF, lF [u 3], bF, lF [u 4], bF, lF [u 3]])], [none, none]⟩ := ex (.cons k509 (.cons k510 .nil)) (by kernel_rfl)
theorem k512 : ACall Tryz.prog 88 [.val (.c (n64 1)), .clo 101 [(2, (0, 0)), (3, (0, 0)), (4, (0, 0)), (5, (0, 0))], .gh [lF [[lF [[bF, l1, bF, lF [u 3]]]]]], .gh [n64 0], .gh [lF [[lF [[bF, lF [u 2], bF, l1, bF, lF [u 4], bF, l1]]]]], .gh [n64 0]] ⟨[.val (.agg [bF, lF [u 2], bF, lF [u 3], bF, lF [u 4], bF, lF [u 3]])], [none, none, some (.var [.t (lF [[lF [[bF, l1, bF, lF [u 3]]]]])]), some (.var [.t (n64 0)]), some (.var [.t (lF [[lF [[bF, lF [u 2], bF, l1, bF, lF [u 4], bF, l1]]]])]), some (.var [.t (n64 0)])]⟩ := ex (.cons k153 (.cons k414 (.cons k505 (.cons k511 .nil)))) (by kernel_rfl)
theorem k513 : ACall Tryz.prog 160 [.val (.c (bT)), .val (.c (lF [u 4]))] ⟨[.val (.agg [bT, lF [u 4]])], [none, none]⟩ := ex (.cons k141 .nil) (by kernel_rfl)
theorem k514 : ACall Tryz.prog 169 [.val (.agg [bF, lF [u 4]])] ⟨[.val (.agg [bT, lF [u 4]])], [none]⟩ := ex (.cons k339 (.cons k513 .nil)) (by kernel_rfl)
theorem k515 : ACall Tryz.prog 164 [.val (.agg [bF, lF [u 4], bF, lF [u 3]])] ⟨[.val (.agg [bT, lF [u 4], bF, lF [u 3]])], [none]⟩ := ex (.cons k514 .nil) (by kernel_rfl)
theorem k516 : ACall Tryz.prog 119 [.val (.agg [bT, lF [u 4]])] ⟨[.val (.c (bF))], [none]⟩ := ex (.nil) (by kernel_rfl)
theorem k517 : ACall Tryz.prog 115 [.val (.c (lF [[bT, lF [u 4]], [bF, l1]]))] ⟨[.val (.agg [bT, lF [u 4]])], [none]⟩ := ex (.cons k37 (.cons k516 (.cons k39 .nil))) (by kernel_rfl)
theorem k518 : ACall Tryz.prog 155 [.val (.c (lF [u 3])), .val (.c (lF [u 4]))] ⟨[.val (.c (n64 (-1)))], [none, none]⟩ := ex (.nil) (by kernel_rfl)
theorem k519 : ACall Tryz.prog 171 [.val (.c (lF [u 4])), .val (.c (lF [u 3]))] ⟨[.val (.c (l1))], [none, none]⟩ := ex (.cons k35 .nil) (by kernel_rfl)
theorem k520 : ACall Tryz.prog 160 [.val (.c (bT)), .val (.c (l1))] ⟨[.val (.agg [bT, l1])], [none, none]⟩ := ex (.cons k35 .nil) (by kernel_rfl)
theorem k521 : ACall Tryz.prog 139 [.val (.agg [bF, lF [u 3]]), .val (.agg [bT, lF [u 4]])] ⟨[.val (.agg [bT, l1])], [none, none]⟩ := ex (.cons k518 (.cons k519 (.cons k520 .nil))) (by kernel_rfl)
theorem k522 : ACall Tryz.prog 120 [.val (.agg [bT, l1]), .val (.agg [bF, lF [u 3]])] ⟨[.val (.agg [bF, l1])], [none, none]⟩ := ex (.cons k35 (.cons k219 (.cons k79 (.cons k301 (.cons k340 (.cons k302 (.cons k34 (.cons k36 .nil)))))))) (by kernel_rfl)
theorem k523 : ACall Tryz.prog 140 [.val (.agg [bT, l1]), .val (.agg [bF, lF [u 3]])] ⟨[.val (.agg [bT, l1, bF, lF [u 3]])], [none, none]⟩ := ex (.cons k63 (.cons k522 (.cons k39 .nil))) (by kernel_rfl)
theorem k524 : ACall Tryz.prog 93 [.val (.agg [bF, l1, bF, l1]), .val (.agg [bT, lF [u 4], bF, lF [u 3]])] ⟨[.val (.agg [bT, l1, bF, lF [u 3]])], [none, none]⟩ := ex (.cons k375 (.cons k517 (.cons k521 (.cons k523 .nil)))) (by kernel_rfl)
theorem k525 : ACall Tryz.prog 123 [.val (.agg [bF, l1, bF, l1]), .val (.agg [bF, lF [u 4], bF, lF [u 3]])] ⟨[.val (.agg [bT, l1, bF, lF [u 3]])], [none, none]⟩ := ex (.cons k515 (.cons k524 .nil)) (by kernel_rfl)
theorem k526 : ACall Tryz.prog 164 [.val (.agg [bF, lF [u 2], bF, lF [u 3]])] ⟨[.val (.agg [bT, lF [u 2], bF, lF [u 3]])], [none]⟩ := ex (.cons k210 .nil) (by kernel_rfl)
theorem k527 : ACall Tryz.prog 171 [.val (.c (lF [u 3])), .val (.c (lF [u 2]))] ⟨[.val (.c (l1))], [none, none]⟩ := ex (.cons k35 .nil) (by kernel_rfl)
theorem k528 : ACall Tryz.prog 139 [.val (.agg [bF, lF [u 3]]), .val (.agg [bT, lF [u 2]])] ⟨[.val (.agg [bF, l1])], [none, none]⟩ := ex (.cons k65 (.cons k527 (.cons k36 .nil))) (by kernel_rfl)
theorem k529 : ACall Tryz.prog 93 [.val (.agg [bF, l1, bF, l1]), .val (.agg [bT, lF [u 2], bF, lF [u 3]])] ⟨[.val (.agg [bF, l1, bF, lF [u 3]])], [none, none]⟩ := ex (.cons k375 (.cons k213 (.cons k528 (.cons k404 .nil)))) (by kernel_rfl)
theorem k530 : ACall Tryz.prog 123 [.val (.agg [bF, l1, bF, l1]), .val (.agg [bF, lF [u 2], bF, lF [u 3]])] ⟨[.val (.agg [bF, l1, bF, lF [u 3]])], [none, none]⟩ := ex (.cons k526 (.cons k529 .nil)) (by kernel_rfl)
theorem k531 : ACall Tryz.prog 73 [.val (.agg [bF, l1, bF, l1, bF, l1, bF, l1]), .val (.agg [bF, lF [u 2], bF, lF [u 3], bF, lF [u 4], bF, lF [u 3]])] ⟨[.val (.agg [bT, l1, bF, lF [u 3], bF, l1, bF, lF [u 3]])], [none, none]⟩ := ex (.cons k525 (.cons k530 .nil)) (by kernel_rfl)
theorem k532 : ACall Tryz.prog 87 [.val (.agg [bF, lF [u 3], bF, lF [u 2]])] ⟨[.val (.agg [bF, lF [u 3], bF, lF [u 2], bF, lF [u 3], bF, lF [u 2]])], [none]⟩ := ex (.nil) (by kernel_rfl)
theorem k533 : ACall Tryz.prog 169 [.val (.agg [bF, lF [u 3]])] ⟨[.val (.agg [bT, lF [u 3]])], [none]⟩ := ex (.cons k301 (.cons k215 .nil)) (by kernel_rfl)
theorem k534 : ACall Tryz.prog 164 [.val (.agg [bF, lF [u 3], bF, lF [u 2]])] ⟨[.val (.agg [bT, lF [u 3], bF, lF [u 2]])], [none]⟩ := ex (.cons k533 .nil) (by kernel_rfl)
theorem k535 : ACall Tryz.prog 115 [.val (.c (lF [[bT, lF [u 3]], [bF, l1]]))] ⟨[.val (.agg [bT, lF [u 3]])], [none]⟩ := ex (.cons k37 (.cons k76 (.cons k39 .nil))) (by kernel_rfl)
theorem k536 : ACall Tryz.prog 139 [.val (.agg [bF, lF [u 2]]), .val (.agg [bT, lF [u 3]])] ⟨[.val (.agg [bT, l1])], [none, none]⟩ := ex (.cons k107 (.cons k527 (.cons k520 .nil))) (by kernel_rfl)
theorem k537 : ACall Tryz.prog 120 [.val (.agg [bT, l1]), .val (.agg [bF, lF [u 2]])] ⟨[.val (.agg [bF, l1])], [none, none]⟩ := ex (.cons k35 (.cons k219 (.cons k190 (.cons k209 (.cons k340 (.cons k303 (.cons k34 (.cons k36 .nil)))))))) (by kernel_rfl)
theorem k538 : ACall Tryz.prog 140 [.val (.agg [bT, l1]), .val (.agg [bF, lF [u 2]])] ⟨[.val (.agg [bT, l1, bF, lF [u 2]])], [none, none]⟩ := ex (.cons k41 (.cons k537 (.cons k39 .nil))) (by kernel_rfl)
theorem k539 : ACall Tryz.prog 93 [.val (.agg [bF, l1, bF, l1]), .val (.agg [bT, lF [u 3], bF, lF [u 2]])] ⟨[.val (.agg [bT, l1, bF, lF [u 2]])], [none, none]⟩ := ex (.cons k137 (.cons k535 (.cons k536 (.cons k538 .nil)))) (by kernel_rfl)
theorem k540 : ACall Tryz.prog 123 [.val (.agg [bF, l1, bF, l1]), .val (.agg [bF, lF [u 3], bF, lF [u 2]])] ⟨[.val (.agg [bT, l1, bF, lF [u 2]])], [none, none]⟩ := ex (.cons k534 (.cons k539 .nil)) (by kernel_rfl)
theorem k541 : ACall Tryz.prog 155 [.val (.c (lF [u 4])), .val (.c (lF [u 3]))] ⟨[.val (.c (n64 1))], [none, none]⟩ := ex (.nil) (by kernel_rfl)
theorem k542 : ACall Tryz.prog 139 [.val (.agg [bF, lF [u 4]]), .val (.agg [bT, lF [u 3]])] ⟨[.val (.agg [bF, l1])], [none, none]⟩ := ex (.cons k541 (.cons k519 (.cons k36 .nil))) (by kernel_rfl)
theorem k543 : ACall Tryz.prog 93 [.val (.agg [bF, lF [u 2], bF, l1]), .val (.agg [bT, lF [u 3], bF, lF [u 2]])] ⟨[.val (.agg [bF, l1, bF, lF [u 2]])], [none, none]⟩ := ex (.cons k144 (.cons k535 (.cons k542 (.cons k137 (.cons k374 .nil))))) (by kernel_rfl)
theorem k544 : ACall Tryz.prog 123 [.val (.agg [bF, lF [u 2], bF, l1]), .val (.agg [bF, lF [u 3], bF, lF [u 2]])] ⟨[.val (.agg [bF, l1, bF, lF [u 2]])], [none, none]⟩ := ex (.cons k534 (.cons k543 .nil)) (by kernel_rfl)
theorem k545 : ACall Tryz.prog 73 [.val (.agg [bF, l1, bF, l1, bF, lF [u 2], bF, l1]), .val (.agg [bF, lF [u 3], bF, lF [u 2], bF, lF [u 3], bF, lF [u 2]])] ⟨[.val (.agg [bT, l1, bF, lF [u 2], bF, l1, bF, lF [u 2]])], [none, none]⟩ := ex (.cons k540 (.cons k544 .nil)) (by kernel_rfl)
theorem k546 : ACall Tryz.prog 99 [.val (.agg [bT, l1, bF, lF [u 3]]), .val (.agg [bT, l1, bF, lF [u 2]])] ⟨[.val (.agg [bF, l1, bF, lF [u 6]])], [none, none]⟩ := ex (.cons k538 (.cons k523 (.cons k134 (.cons k486 .nil)))) (by kernel_rfl)
theorem k547 : ACall Tryz.prog 99 [.val (.agg [bT, l1, bF, lF [u 3]]), .val (.agg [bF, l1, bF, lF [u 2]])] ⟨[.val (.agg [bT, l1, bF, lF [u 6]])], [none, none]⟩ := ex (.cons k538 (.cons k404 (.cons k85 (.cons k486 .nil)))) (by kernel_rfl)
theorem k548 : ACall Tryz.prog 99 [.val (.agg [bF, l1, bF, lF [u 3]]), .val (.agg [bT, l1, bF, lF [u 2]])] ⟨[.val (.agg [bT, l1, bF, lF [u 6]])], [none, none]⟩ := ex (.cons k374 (.cons k523 (.cons k130 (.cons k486 .nil)))) (by kernel_rfl)
theorem k549 : ACall Tryz.prog 99 [.val (.agg [bF, l1, bF, lF [u 3]]), .val (.agg [bF, l1, bF, lF [u 2]])] ⟨[.val (.agg [bF, l1, bF, lF [u 6]])], [none, none]⟩ := ex (.cons k374 (.cons k404 (.cons k47 (.cons k486 .nil)))) (by kernel_rfl)
theorem k550 : ACall Tryz.prog 113 [.val (.agg [bT, l1, bF, lF [u 6]])] ⟨[.val (.c (n64 (-1)))], [none]⟩ := ex (.cons k25 .nil) (by kernel_rfl)
theorem k551 : ACall Tryz.prog 113 [.val (.agg [bF, l1, bF, lF [u 6]])] ⟨[.val (.c (n64 1))], [none]⟩ := ex (.cons k23 .nil) (by kernel_rfl)
theorem k552 : ACall Tryz.prog 67 [.val (.agg [bT, l1, bF, lF [u 6]]), .val (.agg [bF, l1, bF, lF [u 6]])] ⟨[.val (.c (n64 (-1)))], [none, none]⟩ := ex (.cons k550 (.cons k551 .nil)) (by kernel_rfl)
theorem k553 : ACall Tryz.prog 119 [.val (.agg [bF, lF [u 6]])] ⟨[.val (.c (bF))], [none]⟩ := ex (.nil) (by kernel_rfl)
theorem k554 : ACall Tryz.prog 183 [.val (.c (l1)), .val (.c (lF [u 6]))] ⟨[.val (.c (lF [u 6]))], [none, none]⟩ := ex (.cons k88 .nil) (by kernel_rfl)
theorem k555 : ACall Tryz.prog 156 [.val (.agg [bT, l1]), .val (.agg [bF, lF [u 6]])] ⟨[.val (.agg [bT, lF [u 6]])], [none, none]⟩ := ex (.cons k554 (.cons k91 .nil)) (by kernel_rfl)
theorem k556 : ACall Tryz.prog 115 [.val (.c (lF [[bT, l1], [bF, lF [u 6]]]))] ⟨[.val (.agg [bT, lF [u 6]])], [none]⟩ := ex (.cons k37 (.cons k75 (.cons k39 (.cons k553 (.cons k555 .nil))))) (by kernel_rfl)
theorem k557 : ACall Tryz.prog 114 [.val (.agg [bT, lF [u 6]]), .val (.agg [bT, lF [u 6]])] ⟨[.val (.c (n64 0))], [none, none]⟩ := ex (.cons k97 (.cons k492 .nil)) (by kernel_rfl)
theorem k558 : ACall Tryz.prog 67 [.val (.agg [bT, l1, bF, lF [u 6]]), .val (.agg [bT, l1, bF, lF [u 6]])] ⟨[.val (.c (n64 0))], [none, none]⟩ := ex (.cons k550 (.cons k556 (.cons k557 .nil))) (by kernel_rfl)
theorem k559 : ACall Tryz.prog 67 [.val (.agg [bF, l1, bF, lF [u 6]]), .val (.agg [bT, l1, bF, lF [u 6]])] ⟨[.val (.c (n64 1))], [none, none]⟩ := ex (.cons k551 (.cons k550 .nil)) (by kernel_rfl)
end Go.Proofs.YtpgbejgdmgpfjaaGreat.Mem
end

section
set_option linter.unusedVariables false
set_option linter.unusedSimpArgs false
/-
  A closed call, one function at a time, part 5 (printed by a program of mine).
-/
set_option maxRecDepth 100000
set_option maxHeartbeats 0
namespace Go.Proofs.YtpgbejgdmgpfjaaGreat.Mem
open Go Go.Abs Go.Proofs
theorem k560 : ACall Tryz.prog 66 [.val (.c (lF [[bF, l1, bF, lF [u 6]], [bT, l1, bF, lF [u 6]], [bT, l1, bF, lF [u 6]], [bF, l1, bF, lF [u 6]]]))] ⟨[.val (.agg [bT, l1, bF, lF [u 6]])], [none]⟩ := ex (.cons k552 (.cons k558 (.cons k559 .nil))) (by kernel_rfl)
theorem k561 : ACall Tryz.prog 115 [.val (.c (lF [[bF, l1], [bF, lF [u 6]]]))] ⟨[.val (.agg [bF, lF [u 6]])], [none]⟩ := ex (.cons k37 (.cons k39 (.cons k553 .nil))) (by kernel_rfl)
theorem k562 : ACall Tryz.prog 67 [.val (.agg [bF, l1, bF, lF [u 6]]), .val (.agg [bF, l1, bF, lF [u 6]])] ⟨[.val (.c (n64 0))], [none, none]⟩ := ex (.cons k551 (.cons k561 (.cons k493 .nil))) (by kernel_rfl)
theorem k563 : ACall Tryz.prog 65 [.val (.c (lF [[bF, l1, bF, lF [u 6]], [bT, l1, bF, lF [u 6]], [bT, l1, bF, lF [u 6]], [bF, l1, bF, lF [u 6]]]))] ⟨[.val (.agg [bF, l1, bF, lF [u 6]])], [none]⟩ := ex (.cons k552 (.cons k562 .nil)) (by kernel_rfl)
theorem k564 : ACall Tryz.prog 124 [.val (.c (lF [[bF, l1, bF, lF [u 6]], [bT, l1, bF, lF [u 6]], [bT, l1, bF, lF [u 6]], [bF, l1, bF, lF [u 6]]]))] ⟨[.val (.agg [bT, l1, bF, lF [u 6], bF, l1, bF, lF [u 6]])], [none]⟩ := ex (.cons k560 (.cons k563 .nil)) (by kernel_rfl)
theorem k565 : ACall Tryz.prog 74 [.val (.agg [bT, l1, bF, lF [u 3], bF, l1, bF, lF [u 3]]), .val (.agg [bT, l1, bF, lF [u 2], bF, l1, bF, lF [u 2]])] ⟨[.val (.agg [bT, l1, bF, lF [u 6], bF, l1, bF, lF [u 6]])], [none, none]⟩ := ex (.cons k546 (.cons k547 (.cons k548 (.cons k549 (.cons k564 .nil))))) (by kernel_rfl)
theorem k566 : ACall Tryz.prog 100 [.val (.c (n64 0)), .ref [n64 0], .ref [n64 1], .ref [lF [[lF [[bF, l1, bF, lF [u 3]]]]]], .ref [lF [[lF [[bF, lF [u 2], bF, l1, bF, lF [u 4], bF, l1]]]]], .ref [bF, l1, bF, l1, bF, lF [u 2], bF, l1, bF, lF [], bF, l1, bF, lF [], bF, l1, bF, lF [], bF, l1, bF, lF [], bF, l1, bF, lF [], bF, l1, bF, lF [], bF, l1, bF, lF [], bF, l1, bF, lF [], bF, l1, bF, lF [], bF, l1, bF, lF [], bF, l1, bF, lF [], bF, l1, bF, lF [], bF, l1, bF, lF [], bF, l1, bF, lF [], bF, l1], .ref [bF, lF [u 3], bF, lF [u 2], bF, lT [], bF, l1, bF, lT [], bF, l1, bF, lT [], bF, l1, bF, lT [], bF, l1, bF, lT [], bF, l1, bF, lT [], bF, l1, bF, lT [], bF, l1]] ⟨[.val (.agg [bT, l1, bF, lF [u 6], bF, l1, bF, lF [u 6]])], [none, some (.var [.t (n64 0)]), some (.var [.t (n64 1)]), some (.var [.t (lF [[lF [[bF, l1, bF, lF [u 3]]]]])]), some (.var [.t (lF [[lF [[bF, lF [u 2], bF, l1, bF, lF [u 4], bF, l1]]]])]), some (.var [.t (bF), .t (l1), .t (bF), .t (l1), .t (bF), .t (lF [u 2]), .t (bF), .t (l1), .t (bF), .t (lF []), .t (bF), .t (l1), .t (bF), .t (lF []), .t (bF), .t (l1), .t (bF), .t (lF []), .t (bF), .t (l1), .t (bF), .t (lF []), .t (bF), .t (l1), .t (bF), .t (lF []), .t (bF), .t (l1), .t (bF), .t (lF []), .t (bF), .t (l1), .t (bF), .t (lF []), .t (bF), .t (l1), .t (bF), .t (lF []), .t (bF), .t (l1), .t (bF), .t (lF []), .t (bF), .t (l1), .t (bF), .t (lF []), .t (bF), .t (l1), .t (bF), .t (lF []), .t (bF), .t (l1), .t (bF), .t (lF []), .t (bF), .t (l1), .t (bF), .t (lF []), .t (bF), .t (l1), .t (bF), .t (lF []), .t (bF), .t (l1)]), some (.var [.t (bF), .t (lF [u 3]), .t (bF), .t (lF [u 2]), .t (bF), .t (lT []), .t (bF), .t (l1), .t (bF), .t (lT []), .t (bF), .t (l1), .t (bF), .t (lT []), .t (bF), .t (l1), .t (bF), .t (lT []), .t (bF), .t (l1), .t (bF), .t (lT []), .t (bF), .t (l1), .t (bF), .t (lT []), .t (bF), .t (l1), .t (bF), .t (lT []), .t (bF), .t (l1)])]⟩ := ex (.cons k153 (.cons k414 (.cons k129 (.cons k474 (.cons k512 (.cons k531 (.cons k532 (.cons k545 (.cons k565 .nil))))))))) (by kernel_rfl)
theorem k567 : ACall Tryz.prog 183 [.val (.c (lT [])), .val (.c (lF [u 6]))] ⟨[.val (.c (lF []))], [none, none]⟩ := ex (.cons k310 .nil) (by kernel_rfl)
theorem k568 : ACall Tryz.prog 156 [.val (.agg [bF, lT []]), .val (.agg [bF, lF [u 6]])] ⟨[.val (.agg [bF, lT []])], [none, none]⟩ := ex (.cons k567 (.cons k150 .nil)) (by kernel_rfl)
theorem k569 : ACall Tryz.prog 115 [.val (.c (lF [[bF, lT []], [bF, lF [u 6]]]))] ⟨[.val (.agg [bF, lT []])], [none]⟩ := ex (.cons k37 (.cons k328 (.cons k39 (.cons k553 (.cons k568 .nil))))) (by kernel_rfl)
theorem k570 : ACall Tryz.prog 155 [.val (.c (lT [])), .val (.c (l1))] ⟨[.val (.c (n64 (-1)))], [none, none]⟩ := ex (.nil) (by kernel_rfl)
theorem k571 : ACall Tryz.prog 171 [.val (.c (l1)), .val (.c (lT []))] ⟨[.val (.c (l1))], [none, none]⟩ := ex (.cons k35 .nil) (by kernel_rfl)
theorem k572 : ACall Tryz.prog 139 [.val (.agg [bF, lT []]), .val (.agg [bT, l1])] ⟨[.val (.agg [bT, l1])], [none, none]⟩ := ex (.cons k570 (.cons k571 (.cons k520 .nil))) (by kernel_rfl)
theorem k573 : ACall Tryz.prog 157 [.val (.c (lF [u 6]))] ⟨[.val (.c (lF [u 6]))], [none]⟩ := ex (.nil) (by kernel_rfl)
theorem k574 : ACall Tryz.prog 159 [.val (.c (lF [u 6]))] ⟨[.val (.c (w64 6))], [none]⟩ := ex (.nil) (by kernel_rfl)
theorem k575 : ACall Tryz.prog 120 [.val (.agg [bT, l1]), .val (.agg [bF, lF [u 6]])] ⟨[.val (.agg [bF, l1])], [none, none]⟩ := ex (.cons k35 (.cons k219 (.cons k90 (.cons k573 (.cons k340 (.cons k574 (.cons k34 (.cons k36 .nil)))))))) (by kernel_rfl)
theorem k576 : ACall Tryz.prog 140 [.val (.agg [bT, l1]), .val (.agg [bF, lF [u 6]])] ⟨[.val (.agg [bT, l1, bF, lF [u 6]])], [none, none]⟩ := ex (.cons k553 (.cons k575 (.cons k39 .nil))) (by kernel_rfl)
theorem k577 : ACall Tryz.prog 93 [.val (.agg [bF, lT [], bF, l1]), .val (.agg [bT, l1, bF, lF [u 6]])] ⟨[.val (.agg [bT, l1, bF, lF [u 6]])], [none, none]⟩ := ex (.cons k569 (.cons k85 (.cons k572 (.cons k561 (.cons k576 .nil))))) (by kernel_rfl)
theorem k578 : ACall Tryz.prog 120 [.val (.agg [bF, l1]), .val (.agg [bF, lF [u 6]])] ⟨[.val (.agg [bF, l1])], [none, none]⟩ := ex (.cons k35 (.cons k219 (.cons k90 (.cons k573 (.cons k340 (.cons k574 (.cons k34 (.cons k36 .nil)))))))) (by kernel_rfl)
theorem k579 : ACall Tryz.prog 140 [.val (.agg [bF, l1]), .val (.agg [bF, lF [u 6]])] ⟨[.val (.agg [bF, l1, bF, lF [u 6]])], [none, none]⟩ := ex (.cons k553 (.cons k578 (.cons k39 .nil))) (by kernel_rfl)
theorem k580 : ACall Tryz.prog 93 [.val (.agg [bF, lT [], bF, l1]), .val (.agg [bF, l1, bF, lF [u 6]])] ⟨[.val (.agg [bF, l1, bF, lF [u 6]])], [none, none]⟩ := ex (.cons k569 (.cons k47 (.cons k465 (.cons k561 (.cons k579 .nil))))) (by kernel_rfl)
theorem k581 : ACall Tryz.prog 72 [.val (.agg [bF, lT [], bF, l1, bF, lT [], bF, l1]), .val (.agg [bT, l1, bF, lF [u 6], bF, l1, bF, lF [u 6]])] ⟨[.val (.agg [bT, l1, bF, lF [u 6], bF, l1, bF, lF [u 6]])], [none, none]⟩ := ex (.cons k577 (.cons k580 .nil)) (by kernel_rfl)
theorem k582 : ACall Tryz.prog 88 [.val (.c (n64 1)), .clo 100 [(2, (0, 0)), (3, (0, 0)), (4, (0, 0)), (5, (0, 0)), (6, (0, 0)), (7, (0, 0))], .gh [n64 0], .gh [n64 1], .gh [lF [[lF [[bF, l1, bF, lF [u 3]]]]]], .gh [lF [[lF [[bF, lF [u 2], bF, l1, bF, lF [u 4], bF, l1]]]]], .gh [bF, l1, bF, l1, bF, lF [u 2], bF, l1, bF, lF [], bF, l1, bF, lF [], bF, l1, bF, lF [], bF, l1, bF, lF [], bF, l1, bF, lF [], bF, l1, bF, lF [], bF, l1, bF, lF [], bF, l1, bF, lF [], bF, l1, bF, lF [], bF, l1, bF, lF [], bF, l1, bF, lF [], bF, l1, bF, lF [], bF, l1, bF, lF [], bF, l1, bF, lF [], bF, l1], .gh [bF, lF [u 3], bF, lF [u 2], bF, lT [], bF, l1, bF, lT [], bF, l1, bF, lT [], bF, l1, bF, lT [], bF, l1, bF, lT [], bF, l1, bF, lT [], bF, l1, bF, lT [], bF, l1]] ⟨[.val (.agg [bT, l1, bF, lF [u 6], bF, l1, bF, lF [u 6]])], [none, none, some (.var [.t (n64 0)]), some (.var [.t (n64 1)]), some (.var [.t (lF [[lF [[bF, l1, bF, lF [u 3]]]]])]), some (.var [.t (lF [[lF [[bF, lF [u 2], bF, l1, bF, lF [u 4], bF, l1]]]])]), some (.var [.t (bF), .t (l1), .t (bF), .t (l1), .t (bF), .t (lF [u 2]), .t (bF), .t (l1), .t (bF), .t (lF []), .t (bF), .t (l1), .t (bF), .t (lF []), .t (bF), .t (l1), .t (bF), .t (lF []), .t (bF), .t (l1), .t (bF), .t (lF []), .t (bF), .t (l1), .t (bF), .t (lF []), .t (bF), .t (l1), .t (bF), .t (lF []), .t (bF), .t (l1), .t (bF), .t (lF []), .t (bF), .t (l1), .t (bF), .t (lF []), .t (bF), .t (l1), .t (bF), .t (lF []), .t (bF), .t (l1), .t (bF), .t (lF []), .t (bF), .t (l1), .t (bF), .t (lF []), .t (bF), .t (l1), .t (bF), .t (lF []), .t (bF), .t (l1), .t (bF), .t (lF []), .t (bF), .t (l1), .t (bF), .t (lF []), .t (bF), .t (l1)]), some (.var [.t (bF), .t (lF [u 3]), .t (bF), .t (lF [u 2]), .t (bF), .t (lT []), .t (bF), .t (l1), .t (bF), .t (lT []), .t (bF), .t (l1), .t (bF), .t (lT []), .t (bF), .t (l1), .t (bF), .t (lT []), .t (bF), .t (l1), .t (bF), .t (lT []), .t (bF), .t (l1), .t (bF), .t (lT []), .t (bF), .t (l1), .t (bF), .t (lT []), .t (bF), .t (l1)])]⟩ := ex (.cons k153 (.cons k414 (.cons k566 (.cons k581 .nil)))) (by kernel_rfl)
theorem k583 : ACall Tryz.prog 169 [.val (.agg [bF, l1])] ⟨[.val (.agg [bT, l1])], [none]⟩ := ex (.cons k219 (.cons k520 .nil)) (by kernel_rfl)
theorem k584 : ACall Tryz.prog 164 [.val (.agg [bF, l1, bF, lF [u 12]])] ⟨[.val (.agg [bT, l1, bF, lF [u 12]])], [none]⟩ := ex (.cons k583 .nil) (by kernel_rfl)
theorem k585 : ACall Tryz.prog 158 [.val (.c (lF [u 36, u 0]))] ⟨[.val (.c (lF [u 36]))], [none]⟩ := ex (.nil) (by kernel_rfl)
theorem k586 : ACall Tryz.prog 183 [.val (.c (lF [u 3])), .val (.c (lF [u 12]))] ⟨[.val (.c (lF [u 36]))], [none, none]⟩ := ex (.cons k585 .nil) (by kernel_rfl)
theorem k587 : ACall Tryz.prog 158 [.val (.c (lF [u 36]))] ⟨[.val (.c (lF [u 36]))], [none]⟩ := ex (.nil) (by kernel_rfl)
theorem k588 : ACall Tryz.prog 160 [.val (.c (bF)), .val (.c (lF [u 36]))] ⟨[.val (.agg [bF, lF [u 36]])], [none, none]⟩ := ex (.cons k587 .nil) (by kernel_rfl)
theorem k589 : ACall Tryz.prog 156 [.val (.agg [bF, lF [u 3]]), .val (.agg [bF, lF [u 12]])] ⟨[.val (.agg [bF, lF [u 36]])], [none, none]⟩ := ex (.cons k586 (.cons k588 .nil)) (by kernel_rfl)
theorem k590 : ACall Tryz.prog 115 [.val (.c (lF [[bF, lF [u 3]], [bF, lF [u 12]]]))] ⟨[.val (.agg [bF, lF [u 36]])], [none]⟩ := ex (.cons k37 (.cons k63 (.cons k39 (.cons k460 (.cons k589 .nil))))) (by kernel_rfl)
theorem k591 : ACall Tryz.prog 183 [.val (.c (l1)), .val (.c (lF [u 2]))] ⟨[.val (.c (lF [u 2]))], [none, none]⟩ := ex (.cons k188 .nil) (by kernel_rfl)
theorem k592 : ACall Tryz.prog 156 [.val (.agg [bT, l1]), .val (.agg [bF, lF [u 2]])] ⟨[.val (.agg [bT, lF [u 2]])], [none, none]⟩ := ex (.cons k591 (.cons k191 .nil)) (by kernel_rfl)
theorem k593 : ACall Tryz.prog 115 [.val (.c (lF [[bT, l1], [bF, lF [u 2]]]))] ⟨[.val (.agg [bT, lF [u 2]])], [none]⟩ := ex (.cons k37 (.cons k75 (.cons k39 (.cons k41 (.cons k592 .nil))))) (by kernel_rfl)
theorem k594 : ACall Tryz.prog 155 [.val (.c (lF [u 36])), .val (.c (lF [u 2]))] ⟨[.val (.c (n64 1))], [none, none]⟩ := ex (.nil) (by kernel_rfl)
theorem k595 : ACall Tryz.prog 158 [.val (.c (lF [u 34]))] ⟨[.val (.c (lF [u 34]))], [none]⟩ := ex (.nil) (by kernel_rfl)
theorem k596 : ACall Tryz.prog 171 [.val (.c (lF [u 36])), .val (.c (lF [u 2]))] ⟨[.val (.c (lF [u 34]))], [none, none]⟩ := ex (.cons k595 .nil) (by kernel_rfl)
theorem k597 : ACall Tryz.prog 160 [.val (.c (bF)), .val (.c (lF [u 34]))] ⟨[.val (.agg [bF, lF [u 34]])], [none, none]⟩ := ex (.cons k595 .nil) (by kernel_rfl)
theorem k598 : ACall Tryz.prog 139 [.val (.agg [bF, lF [u 36]]), .val (.agg [bT, lF [u 2]])] ⟨[.val (.agg [bF, lF [u 34]])], [none, none]⟩ := ex (.cons k594 (.cons k596 (.cons k597 .nil))) (by kernel_rfl)
theorem k599 : ACall Tryz.prog 158 [.val (.c (lF [u 24, u 0]))] ⟨[.val (.c (lF [u 24]))], [none]⟩ := ex (.nil) (by kernel_rfl)
theorem k600 : ACall Tryz.prog 183 [.val (.c (lF [u 2])), .val (.c (lF [u 12]))] ⟨[.val (.c (lF [u 24]))], [none, none]⟩ := ex (.cons k599 .nil) (by kernel_rfl)
theorem k601 : ACall Tryz.prog 158 [.val (.c (lF [u 24]))] ⟨[.val (.c (lF [u 24]))], [none]⟩ := ex (.nil) (by kernel_rfl)
theorem k602 : ACall Tryz.prog 160 [.val (.c (bF)), .val (.c (lF [u 24]))] ⟨[.val (.agg [bF, lF [u 24]])], [none, none]⟩ := ex (.cons k601 .nil) (by kernel_rfl)
theorem k603 : ACall Tryz.prog 156 [.val (.agg [bF, lF [u 2]]), .val (.agg [bF, lF [u 12]])] ⟨[.val (.agg [bF, lF [u 24]])], [none, none]⟩ := ex (.cons k600 (.cons k602 .nil)) (by kernel_rfl)
theorem k604 : ACall Tryz.prog 115 [.val (.c (lF [[bF, lF [u 2]], [bF, lF [u 12]]]))] ⟨[.val (.agg [bF, lF [u 24]])], [none]⟩ := ex (.cons k37 (.cons k41 (.cons k39 (.cons k460 (.cons k603 .nil))))) (by kernel_rfl)
theorem k605 : ACall Tryz.prog 119 [.val (.agg [bF, lF [u 24]])] ⟨[.val (.c (bF))], [none]⟩ := ex (.nil) (by kernel_rfl)
theorem k606 : ACall Tryz.prog 157 [.val (.c (lF [u 34]))] ⟨[.val (.c (lF [u 34]))], [none]⟩ := ex (.nil) (by kernel_rfl)
theorem k607 : ACall Tryz.prog 157 [.val (.c (lF [u 24]))] ⟨[.val (.c (lF [u 24]))], [none]⟩ := ex (.nil) (by kernel_rfl)
theorem k608 : ACall Tryz.prog 159 [.val (.c (lF [u 34]))] ⟨[.val (.c (w64 34))], [none]⟩ := ex (.nil) (by kernel_rfl)
theorem k609 : ACall Tryz.prog 159 [.val (.c (lF [u 24]))] ⟨[.val (.c (w64 24))], [none]⟩ := ex (.nil) (by kernel_rfl)
theorem k610 : ACall Tryz.prog 120 [.val (.agg [bF, lF [u 34]]), .val (.agg [bF, lF [u 24]])] ⟨[.val (.agg [bF, lF [u 2]])], [none, none]⟩ := ex (.cons k595 (.cons k606 (.cons k601 (.cons k607 (.cons k608 (.cons k609 (.cons k295 (.cons k296 .nil)))))))) (by kernel_rfl)
theorem k611 : ACall Tryz.prog 155 [.val (.c (lF [u 34])), .val (.c (lF [u 2]))] ⟨[.val (.c (n64 1))], [none, none]⟩ := ex (.nil) (by kernel_rfl)
theorem k612 : ACall Tryz.prog 158 [.val (.c (lF [u 17]))] ⟨[.val (.c (lF [u 17]))], [none]⟩ := ex (.nil) (by kernel_rfl)
theorem k613 : ACall Tryz.prog 184 [.val (.c (lF [u 34])), .val (.c (w64 2))] ⟨[.val (.c (lF [u 17])), .val (.c (w64 0))], [none, none]⟩ := ex (.cons k612 .nil) (by kernel_rfl)
theorem k614 : ACall Tryz.prog 162 [.val (.c (lF [u 34])), .val (.c (lF [u 2]))] ⟨[.val (.c (lF [u 17])), .val (.c (lF []))], [none, none]⟩ := ex (.cons k595 (.cons k190 (.cons k611 (.cons k613 (.cons k148 .nil))))) (by kernel_rfl)
theorem k615 : ACall Tryz.prog 160 [.val (.c (bF)), .val (.c (lF [u 17]))] ⟨[.val (.agg [bF, lF [u 17]])], [none, none]⟩ := ex (.cons k612 .nil) (by kernel_rfl)
theorem k616 : ACall Tryz.prog 172 [.val (.agg [bF, lF [u 34]]), .val (.agg [bF, lF [u 2]])] ⟨[.val (.agg [bF, lF [u 17]]), .val (.agg [bF, lT []]), .val (.c (n64 0))], [none, none]⟩ := ex (.cons k190 (.cons k614 (.cons k615 (.cons k150 .nil)))) (by kernel_rfl)
theorem k617 : ACall Tryz.prog 155 [.val (.c (lF [u 24])), .val (.c (lF [u 2]))] ⟨[.val (.c (n64 1))], [none, none]⟩ := ex (.nil) (by kernel_rfl)
theorem k618 : ACall Tryz.prog 184 [.val (.c (lF [u 24])), .val (.c (w64 2))] ⟨[.val (.c (lF [u 12])), .val (.c (w64 0))], [none, none]⟩ := ex (.cons k453 .nil) (by kernel_rfl)
theorem k619 : ACall Tryz.prog 162 [.val (.c (lF [u 24])), .val (.c (lF [u 2]))] ⟨[.val (.c (lF [u 12])), .val (.c (lF []))], [none, none]⟩ := ex (.cons k601 (.cons k190 (.cons k617 (.cons k618 (.cons k148 .nil))))) (by kernel_rfl)
theorem k620 : ACall Tryz.prog 172 [.val (.agg [bF, lF [u 24]]), .val (.agg [bF, lF [u 2]])] ⟨[.val (.agg [bF, lF [u 12]]), .val (.agg [bF, lT []]), .val (.c (n64 0))], [none, none]⟩ := ex (.cons k190 (.cons k619 (.cons k454 (.cons k150 .nil)))) (by kernel_rfl)
theorem k621 : ACall Tryz.prog 140 [.val (.agg [bF, lF [u 34]]), .val (.agg [bF, lF [u 24]])] ⟨[.val (.agg [bF, lF [u 17], bF, lF [u 12]])], [none, none]⟩ := ex (.cons k605 (.cons k610 (.cons k41 (.cons k616 (.cons k620 .nil))))) (by kernel_rfl)
theorem k622 : ACall Tryz.prog 93 [.val (.agg [bF, lF [u 3], bF, lF [u 2]]), .val (.agg [bT, l1, bF, lF [u 12]])] ⟨[.val (.agg [bF, lF [u 17], bF, lF [u 12]])], [none, none]⟩ := ex (.cons k590 (.cons k593 (.cons k598 (.cons k604 (.cons k621 .nil))))) (by kernel_rfl)
theorem k623 : ACall Tryz.prog 123 [.val (.agg [bF, lF [u 3], bF, lF [u 2]]), .val (.agg [bF, l1, bF, lF [u 12]])] ⟨[.val (.agg [bF, lF [u 17], bF, lF [u 12]])], [none, none]⟩ := ex (.cons k584 (.cons k622 .nil)) (by kernel_rfl)
theorem k624 : ACall Tryz.prog 73 [.val (.agg [bF, lF [u 3], bF, lF [u 2], bF, lF [u 3], bF, lF [u 2]]), .val (.agg [bF, l1, bF, lF [u 12], bF, l1, bF, lF [u 12]])] ⟨[.val (.agg [bF, lF [u 17], bF, lF [u 12], bF, lF [u 17], bF, lF [u 12]])], [none, none]⟩ := ex (.cons k623 .nil) (by kernel_rfl)
theorem k625 : ACall Tryz.prog 119 [.val (.agg [bF, lF [u 17]])] ⟨[.val (.c (bF))], [none]⟩ := ex (.nil) (by kernel_rfl)
theorem k626 : ACall Tryz.prog 158 [.val (.c (lF [u 102, u 0]))] ⟨[.val (.c (lF [u 102]))], [none]⟩ := ex (.nil) (by kernel_rfl)
theorem k627 : ACall Tryz.prog 183 [.val (.c (lF [u 17])), .val (.c (lF [u 6]))] ⟨[.val (.c (lF [u 102]))], [none, none]⟩ := ex (.cons k626 .nil) (by kernel_rfl)
theorem k628 : ACall Tryz.prog 158 [.val (.c (lF [u 102]))] ⟨[.val (.c (lF [u 102]))], [none]⟩ := ex (.nil) (by kernel_rfl)
theorem k629 : ACall Tryz.prog 160 [.val (.c (bF)), .val (.c (lF [u 102]))] ⟨[.val (.agg [bF, lF [u 102]])], [none, none]⟩ := ex (.cons k628 .nil) (by kernel_rfl)
theorem k630 : ACall Tryz.prog 156 [.val (.agg [bF, lF [u 17]]), .val (.agg [bF, lF [u 6]])] ⟨[.val (.agg [bF, lF [u 102]])], [none, none]⟩ := ex (.cons k627 (.cons k629 .nil)) (by kernel_rfl)
theorem k631 : ACall Tryz.prog 115 [.val (.c (lF [[bF, lF [u 17]], [bF, lF [u 6]]]))] ⟨[.val (.agg [bF, lF [u 102]])], [none]⟩ := ex (.cons k37 (.cons k625 (.cons k39 (.cons k553 (.cons k630 .nil))))) (by kernel_rfl)
theorem k632 : ACall Tryz.prog 183 [.val (.c (l1)), .val (.c (lF [u 12]))] ⟨[.val (.c (lF [u 12]))], [none, none]⟩ := ex (.cons k451 .nil) (by kernel_rfl)
theorem k633 : ACall Tryz.prog 160 [.val (.c (bT)), .val (.c (lF [u 12]))] ⟨[.val (.agg [bT, lF [u 12]])], [none, none]⟩ := ex (.cons k453 .nil) (by kernel_rfl)
theorem k634 : ACall Tryz.prog 156 [.val (.agg [bT, l1]), .val (.agg [bF, lF [u 12]])] ⟨[.val (.agg [bT, lF [u 12]])], [none, none]⟩ := ex (.cons k632 (.cons k633 .nil)) (by kernel_rfl)
theorem k635 : ACall Tryz.prog 115 [.val (.c (lF [[bT, l1], [bF, lF [u 12]]]))] ⟨[.val (.agg [bT, lF [u 12]])], [none]⟩ := ex (.cons k37 (.cons k75 (.cons k39 (.cons k460 (.cons k634 .nil))))) (by kernel_rfl)
theorem k636 : ACall Tryz.prog 155 [.val (.c (lF [u 102])), .val (.c (lF [u 12]))] ⟨[.val (.c (n64 1))], [none, none]⟩ := ex (.nil) (by kernel_rfl)
theorem k637 : ACall Tryz.prog 158 [.val (.c (lF [u 90]))] ⟨[.val (.c (lF [u 90]))], [none]⟩ := ex (.nil) (by kernel_rfl)
theorem k638 : ACall Tryz.prog 171 [.val (.c (lF [u 102])), .val (.c (lF [u 12]))] ⟨[.val (.c (lF [u 90]))], [none, none]⟩ := ex (.cons k637 .nil) (by kernel_rfl)
theorem k639 : ACall Tryz.prog 160 [.val (.c (bF)), .val (.c (lF [u 90]))] ⟨[.val (.agg [bF, lF [u 90]])], [none, none]⟩ := ex (.cons k637 .nil) (by kernel_rfl)
theorem k640 : ACall Tryz.prog 139 [.val (.agg [bF, lF [u 102]]), .val (.agg [bT, lF [u 12]])] ⟨[.val (.agg [bF, lF [u 90]])], [none, none]⟩ := ex (.cons k636 (.cons k638 (.cons k639 .nil))) (by kernel_rfl)
theorem k641 : ACall Tryz.prog 158 [.val (.c (lF [u 72, u 0]))] ⟨[.val (.c (lF [u 72]))], [none]⟩ := ex (.nil) (by kernel_rfl)
theorem k642 : ACall Tryz.prog 183 [.val (.c (lF [u 12])), .val (.c (lF [u 6]))] ⟨[.val (.c (lF [u 72]))], [none, none]⟩ := ex (.cons k641 .nil) (by kernel_rfl)
theorem k643 : ACall Tryz.prog 158 [.val (.c (lF [u 72]))] ⟨[.val (.c (lF [u 72]))], [none]⟩ := ex (.nil) (by kernel_rfl)
theorem k644 : ACall Tryz.prog 160 [.val (.c (bF)), .val (.c (lF [u 72]))] ⟨[.val (.agg [bF, lF [u 72]])], [none, none]⟩ := ex (.cons k643 .nil) (by kernel_rfl)
theorem k645 : ACall Tryz.prog 156 [.val (.agg [bF, lF [u 12]]), .val (.agg [bF, lF [u 6]])] ⟨[.val (.agg [bF, lF [u 72]])], [none, none]⟩ := ex (.cons k642 (.cons k644 .nil)) (by kernel_rfl)
theorem k646 : ACall Tryz.prog 115 [.val (.c (lF [[bF, lF [u 12]], [bF, lF [u 6]]]))] ⟨[.val (.agg [bF, lF [u 72]])], [none]⟩ := ex (.cons k37 (.cons k460 (.cons k39 (.cons k553 (.cons k645 .nil))))) (by kernel_rfl)
theorem k647 : ACall Tryz.prog 119 [.val (.agg [bF, lF [u 72]])] ⟨[.val (.c (bF))], [none]⟩ := ex (.nil) (by kernel_rfl)
theorem k648 : ACall Tryz.prog 157 [.val (.c (lF [u 90]))] ⟨[.val (.c (lF [u 90]))], [none]⟩ := ex (.nil) (by kernel_rfl)
theorem k649 : ACall Tryz.prog 157 [.val (.c (lF [u 72]))] ⟨[.val (.c (lF [u 72]))], [none]⟩ := ex (.nil) (by kernel_rfl)
theorem k650 : ACall Tryz.prog 159 [.val (.c (lF [u 90]))] ⟨[.val (.c (w64 90))], [none]⟩ := ex (.nil) (by kernel_rfl)
theorem k651 : ACall Tryz.prog 159 [.val (.c (lF [u 72]))] ⟨[.val (.c (w64 72))], [none]⟩ := ex (.nil) (by kernel_rfl)
theorem k652 : ACall Tryz.prog 158 [.val (.c (lF [u 18, u 0]))] ⟨[.val (.c (lF [u 18]))], [none]⟩ := ex (.nil) (by kernel_rfl)
theorem k653 : ACall Tryz.prog 161 [.val (.c (w64 18))] ⟨[.val (.c (lF [u 18]))], [none]⟩ := ex (.cons k652 .nil) (by kernel_rfl)
theorem k654 : ACall Tryz.prog 158 [.val (.c (lF [u 18]))] ⟨[.val (.c (lF [u 18]))], [none]⟩ := ex (.nil) (by kernel_rfl)
theorem k655 : ACall Tryz.prog 160 [.val (.c (bF)), .val (.c (lF [u 18]))] ⟨[.val (.agg [bF, lF [u 18]])], [none, none]⟩ := ex (.cons k654 .nil) (by kernel_rfl)
theorem k656 : ACall Tryz.prog 120 [.val (.agg [bF, lF [u 90]]), .val (.agg [bF, lF [u 72]])] ⟨[.val (.agg [bF, lF [u 18]])], [none, none]⟩ := ex (.cons k637 (.cons k648 (.cons k643 (.cons k649 (.cons k650 (.cons k651 (.cons k653 (.cons k655 .nil)))))))) (by kernel_rfl)
theorem k657 : ACall Tryz.prog 119 [.val (.agg [bF, lF [u 18]])] ⟨[.val (.c (bF))], [none]⟩ := ex (.nil) (by kernel_rfl)
theorem k658 : ACall Tryz.prog 155 [.val (.c (lF [u 90])), .val (.c (lF [u 18]))] ⟨[.val (.c (n64 1))], [none, none]⟩ := ex (.nil) (by kernel_rfl)
theorem k659 : ACall Tryz.prog 158 [.val (.c (lF [u 5]))] ⟨[.val (.c (lF [u 5]))], [none]⟩ := ex (.nil) (by kernel_rfl)
theorem k660 : ACall Tryz.prog 184 [.val (.c (lF [u 90])), .val (.c (w64 18))] ⟨[.val (.c (lF [u 5])), .val (.c (w64 0))], [none, none]⟩ := ex (.cons k659 .nil) (by kernel_rfl)
theorem k661 : ACall Tryz.prog 162 [.val (.c (lF [u 90])), .val (.c (lF [u 18]))] ⟨[.val (.c (lF [u 5])), .val (.c (lF []))], [none, none]⟩ := ex (.cons k637 (.cons k654 (.cons k658 (.cons k660 (.cons k148 .nil))))) (by kernel_rfl)
theorem k662 : ACall Tryz.prog 160 [.val (.c (bF)), .val (.c (lF [u 5]))] ⟨[.val (.agg [bF, lF [u 5]])], [none, none]⟩ := ex (.cons k659 .nil) (by kernel_rfl)
theorem k663 : ACall Tryz.prog 172 [.val (.agg [bF, lF [u 90]]), .val (.agg [bF, lF [u 18]])] ⟨[.val (.agg [bF, lF [u 5]]), .val (.agg [bF, lT []]), .val (.c (n64 0))], [none, none]⟩ := ex (.cons k654 (.cons k661 (.cons k662 (.cons k150 .nil)))) (by kernel_rfl)
theorem k664 : ACall Tryz.prog 155 [.val (.c (lF [u 72])), .val (.c (lF [u 18]))] ⟨[.val (.c (n64 1))], [none, none]⟩ := ex (.nil) (by kernel_rfl)
theorem k665 : ACall Tryz.prog 184 [.val (.c (lF [u 72])), .val (.c (w64 18))] ⟨[.val (.c (lF [u 4])), .val (.c (w64 0))], [none, none]⟩ := ex (.cons k141 .nil) (by kernel_rfl)
theorem k666 : ACall Tryz.prog 162 [.val (.c (lF [u 72])), .val (.c (lF [u 18]))] ⟨[.val (.c (lF [u 4])), .val (.c (lF []))], [none, none]⟩ := ex (.cons k643 (.cons k654 (.cons k664 (.cons k665 (.cons k148 .nil))))) (by kernel_rfl)
theorem k667 : ACall Tryz.prog 172 [.val (.agg [bF, lF [u 72]]), .val (.agg [bF, lF [u 18]])] ⟨[.val (.agg [bF, lF [u 4]]), .val (.agg [bF, lT []]), .val (.c (n64 0))], [none, none]⟩ := ex (.cons k654 (.cons k666 (.cons k142 (.cons k150 .nil)))) (by kernel_rfl)
theorem k668 : ACall Tryz.prog 140 [.val (.agg [bF, lF [u 90]]), .val (.agg [bF, lF [u 72]])] ⟨[.val (.agg [bF, lF [u 5], bF, lF [u 4]])], [none, none]⟩ := ex (.cons k647 (.cons k656 (.cons k657 (.cons k663 (.cons k667 .nil))))) (by kernel_rfl)
theorem k669 : ACall Tryz.prog 93 [.val (.agg [bF, lF [u 17], bF, lF [u 12]]), .val (.agg [bT, l1, bF, lF [u 6]])] ⟨[.val (.agg [bF, lF [u 5], bF, lF [u 4]])], [none, none]⟩ := ex (.cons k631 (.cons k635 (.cons k640 (.cons k646 (.cons k668 .nil))))) (by kernel_rfl)
theorem k670 : ACall Tryz.prog 158 [.val (.c (lF [u 114, u 0]))] ⟨[.val (.c (lF [u 114]))], [none]⟩ := ex (.nil) (by kernel_rfl)
theorem k671 : ACall Tryz.prog 170 [.val (.c (lF [u 102])), .val (.c (lF [u 12]))] ⟨[.val (.c (lF [u 114]))], [none, none]⟩ := ex (.cons k670 .nil) (by kernel_rfl)
theorem k672 : ACall Tryz.prog 158 [.val (.c (lF [u 114]))] ⟨[.val (.c (lF [u 114]))], [none]⟩ := ex (.nil) (by kernel_rfl)
theorem k673 : ACall Tryz.prog 160 [.val (.c (bF)), .val (.c (lF [u 114]))] ⟨[.val (.agg [bF, lF [u 114]])], [none, none]⟩ := ex (.cons k672 .nil) (by kernel_rfl)
theorem k674 : ACall Tryz.prog 139 [.val (.agg [bF, lF [u 102]]), .val (.agg [bF, lF [u 12]])] ⟨[.val (.agg [bF, lF [u 114]])], [none, none]⟩ := ex (.cons k671 (.cons k673 .nil)) (by kernel_rfl)
theorem k675 : ACall Tryz.prog 157 [.val (.c (lF [u 114]))] ⟨[.val (.c (lF [u 114]))], [none]⟩ := ex (.nil) (by kernel_rfl)
theorem k676 : ACall Tryz.prog 159 [.val (.c (lF [u 114]))] ⟨[.val (.c (w64 114))], [none]⟩ := ex (.nil) (by kernel_rfl)
theorem k677 : ACall Tryz.prog 161 [.val (.c (w64 6))] ⟨[.val (.c (lF [u 6]))], [none]⟩ := ex (.cons k88 .nil) (by kernel_rfl)
theorem k678 : ACall Tryz.prog 120 [.val (.agg [bF, lF [u 114]]), .val (.agg [bF, lF [u 72]])] ⟨[.val (.agg [bF, lF [u 6]])], [none, none]⟩ := ex (.cons k672 (.cons k675 (.cons k643 (.cons k649 (.cons k676 (.cons k651 (.cons k677 (.cons k484 .nil)))))))) (by kernel_rfl)
theorem k679 : ACall Tryz.prog 155 [.val (.c (lF [u 114])), .val (.c (lF [u 6]))] ⟨[.val (.c (n64 1))], [none, none]⟩ := ex (.nil) (by kernel_rfl)
theorem k680 : ACall Tryz.prog 158 [.val (.c (lF [u 19]))] ⟨[.val (.c (lF [u 19]))], [none]⟩ := ex (.nil) (by kernel_rfl)
theorem k681 : ACall Tryz.prog 184 [.val (.c (lF [u 114])), .val (.c (w64 6))] ⟨[.val (.c (lF [u 19])), .val (.c (w64 0))], [none, none]⟩ := ex (.cons k680 .nil) (by kernel_rfl)
theorem k682 : ACall Tryz.prog 162 [.val (.c (lF [u 114])), .val (.c (lF [u 6]))] ⟨[.val (.c (lF [u 19])), .val (.c (lF []))], [none, none]⟩ := ex (.cons k672 (.cons k90 (.cons k679 (.cons k681 (.cons k148 .nil))))) (by kernel_rfl)
theorem k683 : ACall Tryz.prog 160 [.val (.c (bF)), .val (.c (lF [u 19]))] ⟨[.val (.agg [bF, lF [u 19]])], [none, none]⟩ := ex (.cons k680 .nil) (by kernel_rfl)
theorem k684 : ACall Tryz.prog 172 [.val (.agg [bF, lF [u 114]]), .val (.agg [bF, lF [u 6]])] ⟨[.val (.agg [bF, lF [u 19]]), .val (.agg [bF, lT []]), .val (.c (n64 0))], [none, none]⟩ := ex (.cons k90 (.cons k682 (.cons k683 (.cons k150 .nil)))) (by kernel_rfl)
theorem k685 : ACall Tryz.prog 155 [.val (.c (lF [u 72])), .val (.c (lF [u 6]))] ⟨[.val (.c (n64 1))], [none, none]⟩ := ex (.nil) (by kernel_rfl)
theorem k686 : ACall Tryz.prog 184 [.val (.c (lF [u 72])), .val (.c (w64 6))] ⟨[.val (.c (lF [u 12])), .val (.c (w64 0))], [none, none]⟩ := ex (.cons k453 .nil) (by kernel_rfl)
theorem k687 : ACall Tryz.prog 162 [.val (.c (lF [u 72])), .val (.c (lF [u 6]))] ⟨[.val (.c (lF [u 12])), .val (.c (lF []))], [none, none]⟩ := ex (.cons k643 (.cons k90 (.cons k685 (.cons k686 (.cons k148 .nil))))) (by kernel_rfl)
theorem k688 : ACall Tryz.prog 172 [.val (.agg [bF, lF [u 72]]), .val (.agg [bF, lF [u 6]])] ⟨[.val (.agg [bF, lF [u 12]]), .val (.agg [bF, lT []]), .val (.c (n64 0))], [none, none]⟩ := ex (.cons k90 (.cons k687 (.cons k454 (.cons k150 .nil)))) (by kernel_rfl)
theorem k689 : ACall Tryz.prog 140 [.val (.agg [bF, lF [u 114]]), .val (.agg [bF, lF [u 72]])] ⟨[.val (.agg [bF, lF [u 19], bF, lF [u 12]])], [none, none]⟩ := ex (.cons k647 (.cons k678 (.cons k553 (.cons k684 (.cons k688 .nil))))) (by kernel_rfl)
theorem k690 : ACall Tryz.prog 93 [.val (.agg [bF, lF [u 17], bF, lF [u 12]]), .val (.agg [bF, l1, bF, lF [u 6]])] ⟨[.val (.agg [bF, lF [u 19], bF, lF [u 12]])], [none, none]⟩ := ex (.cons k631 (.cons k466 (.cons k674 (.cons k646 (.cons k689 .nil))))) (by kernel_rfl)
theorem k691 : ACall Tryz.prog 72 [.val (.agg [bF, lF [u 17], bF, lF [u 12], bF, lF [u 17], bF, lF [u 12]]), .val (.agg [bT, l1, bF, lF [u 6], bF, l1, bF, lF [u 6]])] ⟨[.val (.agg [bF, lF [u 5], bF, lF [u 4], bF, lF [u 19], bF, lF [u 12]])], [none, none]⟩ := ex (.cons k669 (.cons k690 .nil)) (by kernel_rfl)
theorem k692 : ACall Tryz.prog 42 [.val (.c (lF [[lF [[bF, l1, bF, l1, n64 2, n64 0, n64 0, n64 0, n64 0, n64 0, n64 0, n64 0], [bT, lF [u 2], bF, l1, n64 0, n64 0, n64 0, n64 0, n64 0, n64 0, n64 0, n64 0]]]])), .val (.c (n64 1)), .val (.agg [bF, l1, bF, l1, bF, lF [u 2], bF, l1, bF, lF [], bF, l1, bF, lF [], bF, l1, bF, lF [], bF, l1, bF, lF [], bF, l1, bF, lF [], bF, l1, bF, lF [], bF, l1, bF, lF [], bF, l1, bF, lF [], bF, l1, bF, lF [], bF, l1, bF, lF [], bF, l1, bF, lF [], bF, l1, bF, lF [], bF, l1, bF, lF [], bF, l1, bF, lF [], bF, l1])] ⟨[.val (.agg [bF, lF [u 5], bF, lF [u 4], bF, lF [u 19], bF, lF [u 12], bF, lF [], bF, l1, bF, lF [], bF, l1, bF, lF [], bF, l1, bF, lF [], bF, l1, bF, lF [], bF, l1, bF, lF [], bF, l1, bF, lF [], bF, l1, bF, lF [], bF, l1, bF, lF [], bF, l1, bF, lF [], bF, l1, bF, lF [], bF, l1, bF, lF [], bF, l1, bF, lF [], bF, l1, bF, lF [], bF, l1]), .val (.c (n64 0))], [none, none, none]⟩ := ex (.cons k292 (.cons k294 (.cons k299 (.cons k307 (.cons k314 (.cons k331 (.cons k371 (.cons k372 (.cons k384 (.cons k413 (.cons k450 (.cons k473 (.cons k582 (.cons k532 (.cons k624 (.cons k691 .nil)))))))))))))))) (by kernel_rfl)
theorem k693 : ACall Tryz.prog 42 [.val (.c (lF [[lF [[bF, l1, bF, l1, n64 2, n64 0, n64 0, n64 0, n64 0, n64 0, n64 0, n64 0], [bT, lF [u 2], bF, l1, n64 0, n64 0, n64 0, n64 0, n64 0, n64 0, n64 0, n64 0]]]])), .val (.c (n64 2)), .val (.agg [bF, l1, bF, l1, bF, lF [u 2], bF, l1, bF, lF [], bF, l1, bF, lF [], bF, l1, bF, lF [], bF, l1, bF, lF [], bF, l1, bF, lF [], bF, l1, bF, lF [], bF, l1, bF, lF [], bF, l1, bF, lF [], bF, l1, bF, lF [], bF, l1, bF, lF [], bF, l1, bF, lF [], bF, l1, bF, lF [], bF, l1, bF, lF [], bF, l1, bF, lF [], bF, l1])] ⟨[.val (.agg [bF, lT [], bF, lT [], bF, lT [], bF, lT [], bF, lT [], bF, lT [], bF, lT [], bF, lT [], bF, lT [], bF, lT [], bF, lT [], bF, lT [], bF, lT [], bF, lT [], bF, lT [], bF, lT [], bF, lT [], bF, lT [], bF, lT [], bF, lT [], bF, lT [], bF, lT [], bF, lT [], bF, lT [], bF, lT [], bF, lT [], bF, lT [], bF, lT [], bF, lT [], bF, lT [], bF, lT [], bF, lT []]), .val (.c (n64 1))], [none, none, none]⟩ := ex (.nil) (by kernel_rfl)
theorem k694 : ACall Tryz.prog 130 [.val (.c (lF [u 5])), .val (.c (l1))] ⟨[.val (.c (lF [u 5]))], [none, none]⟩ := ex (.cons k16 .nil) (by kernel_rfl)
theorem k695 : ACall Tryz.prog 79 [.val (.agg [bF, lF [u 5]]), .val (.agg [bF, l1])] ⟨[.val (.agg [bF, lF [u 5]])], [none, none]⟩ := ex (.cons k694 (.cons k19 .nil)) (by kernel_rfl)
theorem k696 : ACall Tryz.prog 130 [.val (.c (l1)), .val (.c (lF [u 4]))] ⟨[.val (.c (lF [u 4]))], [none, none]⟩ := ex (.cons k176 .nil) (by kernel_rfl)
theorem k697 : ACall Tryz.prog 79 [.val (.agg [bF, l1]), .val (.agg [bF, lF [u 4]])] ⟨[.val (.agg [bF, lF [u 4]])], [none, none]⟩ := ex (.cons k696 (.cons k179 .nil)) (by kernel_rfl)
theorem k698 : ACall Tryz.prog 107 [.val (.agg [bF, lF [u 4]])] ⟨[.val (.c (n64 1))], [none]⟩ := ex (.nil) (by kernel_rfl)
theorem k699 : ACall Tryz.prog 167 [.val (.c (lF [u 5])), .val (.c (n64 1))] ⟨[.val (.c (w64 0))], [none, none]⟩ := ex (.nil) (by kernel_rfl)
end Go.Proofs.YtpgbejgdmgpfjaaGreat.Mem
end

section
set_option linter.unusedVariables false
set_option linter.unusedSimpArgs false
/-
  A closed call, one function at a time, part 6 (printed by a program of mine).
-/
set_option maxRecDepth 100000
set_option maxHeartbeats 0
namespace Go.Proofs.YtpgbejgdmgpfjaaGreat.Mem
open Go Go.Abs Go.Proofs
theorem k700 : ACall Tryz.prog 167 [.val (.c (lF [u 5])), .val (.c (n64 0))] ⟨[.val (.c (w64 5))], [none, none]⟩ := ex (.nil) (by kernel_rfl)
theorem k701 : ACall Tryz.prog 190 [.val (.c (lF [u 5]))] ⟨[.val (.c (w64 5))], [none]⟩ := ex (.cons k699 (.cons k700 .nil)) (by kernel_rfl)
theorem k702 : ACall Tryz.prog 167 [.val (.c (lF [u 4])), .val (.c (n64 1))] ⟨[.val (.c (w64 0))], [none, none]⟩ := ex (.nil) (by kernel_rfl)
theorem k703 : ACall Tryz.prog 167 [.val (.c (lF [u 4])), .val (.c (n64 0))] ⟨[.val (.c (w64 4))], [none, none]⟩ := ex (.nil) (by kernel_rfl)
theorem k704 : ACall Tryz.prog 190 [.val (.c (lF [u 4]))] ⟨[.val (.c (w64 4))], [none]⟩ := ex (.cons k702 (.cons k703 .nil)) (by kernel_rfl)
theorem k705 : ACall Tryz.prog 189 [.val (.c (w64 5)), .val (.c (w64 4))] ⟨[.val (.c (w64 1))], [none, none]⟩ := ex (.nil) (by kernel_rfl)
theorem k706 : ACall Tryz.prog 163 [.val (.c (lF [u 5])), .val (.c (lF [u 4]))] ⟨[.val (.c (l1))], [none, none]⟩ := ex (.cons k701 (.cons k704 (.cons k705 (.cons k1 .nil)))) (by kernel_rfl)
theorem k707 : ACall Tryz.prog 122 [.val (.agg [bF, lF [u 5]]), .val (.agg [bF, lF [u 4]])] ⟨[.val (.agg [bF, l1])], [none, none]⟩ := ex (.cons k706 (.cons k5 .nil)) (by kernel_rfl)
theorem k708 : ACall Tryz.prog 132 [.val (.c (lF [u 5])), .val (.c (l1))] ⟨[.val (.c (n64 1))], [none, none]⟩ := ex (.nil) (by kernel_rfl)
theorem k709 : ACall Tryz.prog 201 [.val (.c (lF [u 5])), .val (.c (w64 1))] ⟨[.val (.c (lF [u 5])), .val (.c (w64 0))], [none, none]⟩ := ex (.cons k18 .nil) (by kernel_rfl)
theorem k710 : ACall Tryz.prog 191 [.val (.c (lF [u 5])), .val (.c (l1))] ⟨[.val (.c (lF [u 5])), .val (.c (lF []))], [none, none]⟩ := ex (.cons k708 (.cons k709 (.cons k171 .nil))) (by kernel_rfl)
theorem k711 : ACall Tryz.prog 166 [.val (.agg [bF, lF [u 5]]), .val (.agg [bF, l1])] ⟨[.val (.agg [bF, lF [u 5]]), .val (.agg [bF, lF []]), .val (.c (n64 0))], [none, none]⟩ := ex (.cons k710 (.cons k19 (.cons k173 .nil))) (by kernel_rfl)
theorem k712 : ACall Tryz.prog 129 [.val (.agg [bF, lF [u 5]]), .val (.agg [bF, l1])] ⟨[.val (.agg [bF, lF [u 5]])], [none, none]⟩ := ex (.cons k711 .nil) (by kernel_rfl)
theorem k713 : ACall Tryz.prog 132 [.val (.c (lF [u 4])), .val (.c (l1))] ⟨[.val (.c (n64 1))], [none, none]⟩ := ex (.nil) (by kernel_rfl)
theorem k714 : ACall Tryz.prog 201 [.val (.c (lF [u 4])), .val (.c (w64 1))] ⟨[.val (.c (lF [u 4])), .val (.c (w64 0))], [none, none]⟩ := ex (.cons k178 .nil) (by kernel_rfl)
theorem k715 : ACall Tryz.prog 191 [.val (.c (lF [u 4])), .val (.c (l1))] ⟨[.val (.c (lF [u 4])), .val (.c (lF []))], [none, none]⟩ := ex (.cons k713 (.cons k714 (.cons k171 .nil))) (by kernel_rfl)
theorem k716 : ACall Tryz.prog 166 [.val (.agg [bF, lF [u 4]]), .val (.agg [bF, l1])] ⟨[.val (.agg [bF, lF [u 4]]), .val (.agg [bF, lF []]), .val (.c (n64 0))], [none, none]⟩ := ex (.cons k715 (.cons k179 (.cons k173 .nil))) (by kernel_rfl)
theorem k717 : ACall Tryz.prog 129 [.val (.agg [bF, lF [u 4]]), .val (.agg [bF, l1])] ⟨[.val (.agg [bF, lF [u 4]])], [none, none]⟩ := ex (.cons k716 .nil) (by kernel_rfl)
theorem k718 : ACall Tryz.prog 78 [.val (.agg [bF, lF [u 5]]), .val (.agg [bF, lF [u 4]])] ⟨[.val (.agg [bF, lF [u 5], bF, lF [u 4]])], [none, none]⟩ := ex (.cons k707 (.cons k698 (.cons k712 (.cons k717 .nil)))) (by kernel_rfl)
theorem k719 : ACall Tryz.prog 90 [.val (.agg [bF, lF [u 5]]), .val (.agg [bF, lF [u 4]])] ⟨[.val (.agg [bF, lF [u 5], bF, lF [u 4]]), .val (.c (n64 0))], [none, none]⟩ := ex (.cons k698 (.cons k718 .nil)) (by kernel_rfl)
theorem k720 : ACall Tryz.prog 41 [.val (.agg [bF, lF [u 5], bF, l1]), .val (.agg [bF, lF [u 4], bF, l1])] ⟨[.val (.agg [bF, lF [u 5], bF, lF [u 4]]), .val (.c (n64 0))], [none, none]⟩ := ex (.cons k695 (.cons k697 (.cons k719 .nil))) (by kernel_rfl)
theorem k721 : ACall Tryz.prog 165 [.val (.c (lF [u 19, u 0]))] ⟨[.val (.c (lF [u 19]))], [none]⟩ := ex (.nil) (by kernel_rfl)
theorem k722 : ACall Tryz.prog 127 [.val (.c (w64 19))] ⟨[.val (.c (lF [u 19]))], [none]⟩ := ex (.cons k721 .nil) (by kernel_rfl)
theorem k723 : ACall Tryz.prog 165 [.val (.c (lF [u 19]))] ⟨[.val (.c (lF [u 19]))], [none]⟩ := ex (.nil) (by kernel_rfl)
theorem k724 : ACall Tryz.prog 126 [.val (.c (bF)), .val (.c (lF [u 19]))] ⟨[.val (.agg [bF, lF [u 19]])], [none, none]⟩ := ex (.cons k723 .nil) (by kernel_rfl)
theorem k725 : ACall Tryz.prog 77 [.val (.c (n64 19))] ⟨[.val (.agg [bF, lF [u 19]])], [none]⟩ := ex (.cons k722 (.cons k724 .nil)) (by kernel_rfl)
theorem k726 : ACall Tryz.prog 29 [.val (.c (n64 19))] ⟨[.val (.agg [bF, lF [u 19], bF, l1])], [none]⟩ := ex (.cons k725 (.cons k6 .nil)) (by kernel_rfl)
theorem k727 : ACall Tryz.prog 165 [.val (.c (lF [u 12, u 0]))] ⟨[.val (.c (lF [u 12]))], [none]⟩ := ex (.nil) (by kernel_rfl)
theorem k728 : ACall Tryz.prog 127 [.val (.c (w64 12))] ⟨[.val (.c (lF [u 12]))], [none]⟩ := ex (.cons k727 .nil) (by kernel_rfl)
theorem k729 : ACall Tryz.prog 165 [.val (.c (lF [u 12]))] ⟨[.val (.c (lF [u 12]))], [none]⟩ := ex (.nil) (by kernel_rfl)
theorem k730 : ACall Tryz.prog 126 [.val (.c (bF)), .val (.c (lF [u 12]))] ⟨[.val (.agg [bF, lF [u 12]])], [none, none]⟩ := ex (.cons k729 .nil) (by kernel_rfl)
theorem k731 : ACall Tryz.prog 77 [.val (.c (n64 12))] ⟨[.val (.agg [bF, lF [u 12]])], [none]⟩ := ex (.cons k728 (.cons k730 .nil)) (by kernel_rfl)
theorem k732 : ACall Tryz.prog 29 [.val (.c (n64 12))] ⟨[.val (.agg [bF, lF [u 12], bF, l1])], [none]⟩ := ex (.cons k731 (.cons k6 .nil)) (by kernel_rfl)
theorem k733 : ACall Tryz.prog 130 [.val (.c (lF [u 19])), .val (.c (l1))] ⟨[.val (.c (lF [u 19]))], [none, none]⟩ := ex (.cons k721 .nil) (by kernel_rfl)
theorem k734 : ACall Tryz.prog 79 [.val (.agg [bF, lF [u 19]]), .val (.agg [bF, l1])] ⟨[.val (.agg [bF, lF [u 19]])], [none, none]⟩ := ex (.cons k733 (.cons k724 .nil)) (by kernel_rfl)
theorem k735 : ACall Tryz.prog 130 [.val (.c (l1)), .val (.c (lF [u 12]))] ⟨[.val (.c (lF [u 12]))], [none, none]⟩ := ex (.cons k727 .nil) (by kernel_rfl)
theorem k736 : ACall Tryz.prog 79 [.val (.agg [bF, l1]), .val (.agg [bF, lF [u 12]])] ⟨[.val (.agg [bF, lF [u 12]])], [none, none]⟩ := ex (.cons k735 (.cons k730 .nil)) (by kernel_rfl)
theorem k737 : ACall Tryz.prog 107 [.val (.agg [bF, lF [u 12]])] ⟨[.val (.c (n64 1))], [none]⟩ := ex (.nil) (by kernel_rfl)
theorem k738 : ACall Tryz.prog 167 [.val (.c (lF [u 19])), .val (.c (n64 1))] ⟨[.val (.c (w64 0))], [none, none]⟩ := ex (.nil) (by kernel_rfl)
theorem k739 : ACall Tryz.prog 167 [.val (.c (lF [u 19])), .val (.c (n64 0))] ⟨[.val (.c (w64 19))], [none, none]⟩ := ex (.nil) (by kernel_rfl)
theorem k740 : ACall Tryz.prog 190 [.val (.c (lF [u 19]))] ⟨[.val (.c (w64 19))], [none]⟩ := ex (.cons k738 (.cons k739 .nil)) (by kernel_rfl)
theorem k741 : ACall Tryz.prog 167 [.val (.c (lF [u 12])), .val (.c (n64 1))] ⟨[.val (.c (w64 0))], [none, none]⟩ := ex (.nil) (by kernel_rfl)
theorem k742 : ACall Tryz.prog 167 [.val (.c (lF [u 12])), .val (.c (n64 0))] ⟨[.val (.c (w64 12))], [none, none]⟩ := ex (.nil) (by kernel_rfl)
theorem k743 : ACall Tryz.prog 190 [.val (.c (lF [u 12]))] ⟨[.val (.c (w64 12))], [none]⟩ := ex (.cons k741 (.cons k742 .nil)) (by kernel_rfl)
theorem k744 : ACall Tryz.prog 189 [.val (.c (w64 19)), .val (.c (w64 12))] ⟨[.val (.c (w64 1))], [none, none]⟩ := ex (.nil) (by kernel_rfl)
theorem k745 : ACall Tryz.prog 163 [.val (.c (lF [u 19])), .val (.c (lF [u 12]))] ⟨[.val (.c (l1))], [none, none]⟩ := ex (.cons k740 (.cons k743 (.cons k744 (.cons k1 .nil)))) (by kernel_rfl)
theorem k746 : ACall Tryz.prog 122 [.val (.agg [bF, lF [u 19]]), .val (.agg [bF, lF [u 12]])] ⟨[.val (.agg [bF, l1])], [none, none]⟩ := ex (.cons k745 (.cons k5 .nil)) (by kernel_rfl)
theorem k747 : ACall Tryz.prog 132 [.val (.c (lF [u 19])), .val (.c (l1))] ⟨[.val (.c (n64 1))], [none, none]⟩ := ex (.nil) (by kernel_rfl)
theorem k748 : ACall Tryz.prog 201 [.val (.c (lF [u 19])), .val (.c (w64 1))] ⟨[.val (.c (lF [u 19])), .val (.c (w64 0))], [none, none]⟩ := ex (.cons k723 .nil) (by kernel_rfl)
theorem k749 : ACall Tryz.prog 191 [.val (.c (lF [u 19])), .val (.c (l1))] ⟨[.val (.c (lF [u 19])), .val (.c (lF []))], [none, none]⟩ := ex (.cons k747 (.cons k748 (.cons k171 .nil))) (by kernel_rfl)
theorem k750 : ACall Tryz.prog 166 [.val (.agg [bF, lF [u 19]]), .val (.agg [bF, l1])] ⟨[.val (.agg [bF, lF [u 19]]), .val (.agg [bF, lF []]), .val (.c (n64 0))], [none, none]⟩ := ex (.cons k749 (.cons k724 (.cons k173 .nil))) (by kernel_rfl)
theorem k751 : ACall Tryz.prog 129 [.val (.agg [bF, lF [u 19]]), .val (.agg [bF, l1])] ⟨[.val (.agg [bF, lF [u 19]])], [none, none]⟩ := ex (.cons k750 .nil) (by kernel_rfl)
theorem k752 : ACall Tryz.prog 132 [.val (.c (lF [u 12])), .val (.c (l1))] ⟨[.val (.c (n64 1))], [none, none]⟩ := ex (.nil) (by kernel_rfl)
theorem k753 : ACall Tryz.prog 201 [.val (.c (lF [u 12])), .val (.c (w64 1))] ⟨[.val (.c (lF [u 12])), .val (.c (w64 0))], [none, none]⟩ := ex (.cons k729 .nil) (by kernel_rfl)
theorem k754 : ACall Tryz.prog 191 [.val (.c (lF [u 12])), .val (.c (l1))] ⟨[.val (.c (lF [u 12])), .val (.c (lF []))], [none, none]⟩ := ex (.cons k752 (.cons k753 (.cons k171 .nil))) (by kernel_rfl)
theorem k755 : ACall Tryz.prog 166 [.val (.agg [bF, lF [u 12]]), .val (.agg [bF, l1])] ⟨[.val (.agg [bF, lF [u 12]]), .val (.agg [bF, lF []]), .val (.c (n64 0))], [none, none]⟩ := ex (.cons k754 (.cons k730 (.cons k173 .nil))) (by kernel_rfl)
theorem k756 : ACall Tryz.prog 129 [.val (.agg [bF, lF [u 12]]), .val (.agg [bF, l1])] ⟨[.val (.agg [bF, lF [u 12]])], [none, none]⟩ := ex (.cons k755 .nil) (by kernel_rfl)
theorem k757 : ACall Tryz.prog 78 [.val (.agg [bF, lF [u 19]]), .val (.agg [bF, lF [u 12]])] ⟨[.val (.agg [bF, lF [u 19], bF, lF [u 12]])], [none, none]⟩ := ex (.cons k746 (.cons k737 (.cons k751 (.cons k756 .nil)))) (by kernel_rfl)
theorem k758 : ACall Tryz.prog 90 [.val (.agg [bF, lF [u 19]]), .val (.agg [bF, lF [u 12]])] ⟨[.val (.agg [bF, lF [u 19], bF, lF [u 12]]), .val (.c (n64 0))], [none, none]⟩ := ex (.cons k737 (.cons k757 .nil)) (by kernel_rfl)
theorem k759 : ACall Tryz.prog 41 [.val (.agg [bF, lF [u 19], bF, l1]), .val (.agg [bF, lF [u 12], bF, l1])] ⟨[.val (.agg [bF, lF [u 19], bF, lF [u 12]]), .val (.c (n64 0))], [none, none]⟩ := ex (.cons k734 (.cons k736 (.cons k758 .nil))) (by kernel_rfl)
theorem k760 : ACall Tryz.prog 82 [.val (.agg [bF, lF [u 5]]), .val (.agg [bF, lF [u 5]])] ⟨[.val (.c (bT))], [none, none]⟩ := ex (.nil) (by kernel_rfl)
theorem k761 : ACall Tryz.prog 33 [.val (.agg [bF, lF [u 5], bF, lF [u 4]]), .val (.agg [bF, lF [u 5], bF, lF [u 4]])] ⟨[.val (.c (bT))], [none, none]⟩ := ex (.cons k760 (.cons k185 .nil)) (by kernel_rfl)
theorem k762 : ACall Tryz.prog 82 [.val (.agg [bF, lF [u 19]]), .val (.agg [bF, lF [u 19]])] ⟨[.val (.c (bT))], [none, none]⟩ := ex (.nil) (by kernel_rfl)
theorem k763 : ACall Tryz.prog 82 [.val (.agg [bF, lF [u 12]]), .val (.agg [bF, lF [u 12]])] ⟨[.val (.c (bT))], [none, none]⟩ := ex (.nil) (by kernel_rfl)
theorem k764 : ACall Tryz.prog 33 [.val (.agg [bF, lF [u 19], bF, lF [u 12]]), .val (.agg [bF, lF [u 19], bF, lF [u 12]])] ⟨[.val (.c (bT))], [none, none]⟩ := ex (.cons k762 (.cons k763 .nil)) (by kernel_rfl)
theorem k765 : ACall Tryz.prog 15 [.val (.agg [bF, lF [u 5], bF, lF [u 4], bF, lF [u 19], bF, lF [u 12]]), .val (.agg [bF, lF [u 5], bF, lF [u 4], bF, lF [u 19], bF, lF [u 12]])] ⟨[.val (.c (bT))], [none, none]⟩ := ex (.cons k761 (.cons k764 .nil)) (by kernel_rfl)
theorem k766 : ACall Tryz.prog 113 [.val (.agg [bF, lF [u 5], bF, lF [u 4]])] ⟨[.val (.c (n64 1))], [none]⟩ := ex (.cons k29 .nil) (by kernel_rfl)
theorem k767 : ACall Tryz.prog 155 [.val (.c (lF [u 5])), .val (.c (lF [u 4]))] ⟨[.val (.c (n64 1))], [none, none]⟩ := ex (.nil) (by kernel_rfl)
theorem k768 : ACall Tryz.prog 114 [.val (.agg [bF, lF [u 5]]), .val (.agg [bF, lF [u 4]])] ⟨[.val (.c (n64 1))], [none, none]⟩ := ex (.cons k29 (.cons k157 (.cons k767 .nil))) (by kernel_rfl)
theorem k769 : ACall Tryz.prog 67 [.val (.agg [bF, lF [u 5], bF, lF [u 4]]), .val (.agg [bF, l1, bF, l1])] ⟨[.val (.c (n64 1))], [none, none]⟩ := ex (.cons k766 (.cons k24 (.cons k40 (.cons k355 (.cons k768 .nil))))) (by kernel_rfl)
theorem k770 : ACall Tryz.prog 118 [.val (.agg [bF, lF [u 19]])] ⟨[.val (.c (n64 1))], [none]⟩ := ex (.nil) (by kernel_rfl)
theorem k771 : ACall Tryz.prog 113 [.val (.agg [bF, lF [u 19], bF, lF [u 12]])] ⟨[.val (.c (n64 1))], [none]⟩ := ex (.cons k770 .nil) (by kernel_rfl)
theorem k772 : ACall Tryz.prog 119 [.val (.agg [bF, lF [u 19]])] ⟨[.val (.c (bF))], [none]⟩ := ex (.nil) (by kernel_rfl)
theorem k773 : ACall Tryz.prog 115 [.val (.c (lF [[bF, lF [u 19]], [bF, l1]]))] ⟨[.val (.agg [bF, lF [u 19]])], [none]⟩ := ex (.cons k37 (.cons k772 (.cons k39 .nil))) (by kernel_rfl)
theorem k774 : ACall Tryz.prog 118 [.val (.agg [bF, lF [u 24]])] ⟨[.val (.c (n64 1))], [none]⟩ := ex (.nil) (by kernel_rfl)
theorem k775 : ACall Tryz.prog 155 [.val (.c (lF [u 19])), .val (.c (lF [u 24]))] ⟨[.val (.c (n64 (-1)))], [none, none]⟩ := ex (.nil) (by kernel_rfl)
theorem k776 : ACall Tryz.prog 114 [.val (.agg [bF, lF [u 19]]), .val (.agg [bF, lF [u 24]])] ⟨[.val (.c (n64 (-1)))], [none, none]⟩ := ex (.cons k770 (.cons k774 (.cons k775 .nil))) (by kernel_rfl)
theorem k777 : ACall Tryz.prog 67 [.val (.agg [bF, lF [u 19], bF, lF [u 12]]), .val (.agg [bF, lF [u 2], bF, l1])] ⟨[.val (.c (n64 (-1)))], [none, none]⟩ := ex (.cons k771 (.cons k32 (.cons k773 (.cons k604 (.cons k776 .nil))))) (by kernel_rfl)
theorem k778 : ACall Tryz.prog 44 [.val (.c (lF [[lF [[bF, l1, bF, l1, n64 2, n64 0, n64 0, n64 0, n64 0, n64 0, n64 0, n64 0], [bT, lF [u 2], bF, l1, n64 0, n64 0, n64 0, n64 0, n64 0, n64 0, n64 0, n64 0]]]])), .val (.c (n64 1)), .val (.agg [bF, l1, bF, l1, bF, lF [u 2], bF, l1, bF, lF [], bF, l1, bF, lF [], bF, l1, bF, lF [], bF, l1, bF, lF [], bF, l1, bF, lF [], bF, l1, bF, lF [], bF, l1, bF, lF [], bF, l1, bF, lF [], bF, l1, bF, lF [], bF, l1, bF, lF [], bF, l1, bF, lF [], bF, l1, bF, lF [], bF, l1, bF, lF [], bF, l1, bF, lF [], bF, l1])] ⟨[.val (.c (bT))], [none, none, none]⟩ := ex (.cons k692 (.cons k769 (.cons k777 .nil))) (by kernel_rfl)
theorem k779 : ACall Tryz.prog 183 [.val (.c (lT [])), .val (.c (lT []))] ⟨[.val (.c (lF []))], [none, none]⟩ := ex (.cons k149 .nil) (by kernel_rfl)
theorem k780 : ACall Tryz.prog 156 [.val (.agg [bF, lT []]), .val (.agg [bF, lT []])] ⟨[.val (.agg [bF, lT []])], [none, none]⟩ := ex (.cons k779 (.cons k150 .nil)) (by kernel_rfl)
theorem k781 : ACall Tryz.prog 115 [.val (.c (lF [[bF, lT []], [bF, lT []]]))] ⟨[.val (.agg [bF, lT []])], [none]⟩ := ex (.cons k37 (.cons k328 (.cons k39 (.cons k780 .nil)))) (by kernel_rfl)
theorem k782 : ACall Tryz.prog 99 [.val (.agg [bF, lT [], bF, l1]), .val (.agg [bF, lT [], bF, l1])] ⟨[.val (.agg [bF, lT [], bF, l1])], [none, none]⟩ := ex (.cons k313 (.cons k781 (.cons k47 .nil))) (by kernel_rfl)
theorem k783 : ACall Tryz.prog 115 [.val (.c (lF [[bF, l1], [bF, lT []]]))] ⟨[.val (.agg [bF, lT []])], [none]⟩ := ex (.cons k37 (.cons k39 (.cons k328 .nil))) (by kernel_rfl)
theorem k784 : ACall Tryz.prog 99 [.val (.agg [bF, l1, bF, l1]), .val (.agg [bF, lT [], bF, l1])] ⟨[.val (.agg [bF, lT [], bF, l1])], [none, none]⟩ := ex (.cons k84 (.cons k313 (.cons k783 (.cons k47 .nil)))) (by kernel_rfl)
theorem k785 : ACall Tryz.prog 143 [.val (.agg [bF, lT [], bF, l1]), .val (.c (n64 2))] ⟨[.val (.agg [bF, lT [], bF, l1])], [none, none]⟩ := ex (.cons k129 (.cons k782 (.cons k784 .nil))) (by kernel_rfl)
theorem k786 : ACall Tryz.prog 170 [.val (.c (lT [])), .val (.c (lT []))] ⟨[.val (.c (lF []))], [none, none]⟩ := ex (.cons k310 .nil) (by kernel_rfl)
theorem k787 : ACall Tryz.prog 139 [.val (.agg [bF, lT []]), .val (.agg [bF, lT []])] ⟨[.val (.agg [bF, lT []])], [none, none]⟩ := ex (.cons k786 (.cons k150 .nil)) (by kernel_rfl)
theorem k788 : ACall Tryz.prog 93 [.val (.agg [bF, lT [], bF, l1]), .val (.agg [bF, lT [], bF, l1])] ⟨[.val (.agg [bF, lT [], bF, l1])], [none, none]⟩ := ex (.cons k329 (.cons k787 (.cons k47 (.cons k313 .nil)))) (by kernel_rfl)
theorem k789 : ACall Tryz.prog 171 [.val (.c (lF [u 2])), .val (.c (lT []))] ⟨[.val (.c (lF [u 2]))], [none, none]⟩ := ex (.cons k190 .nil) (by kernel_rfl)
theorem k790 : ACall Tryz.prog 139 [.val (.agg [bF, lT []]), .val (.agg [bT, lF [u 2]])] ⟨[.val (.agg [bT, lF [u 2]])], [none, none]⟩ := ex (.cons k319 (.cons k789 (.cons k191 .nil))) (by kernel_rfl)
theorem k791 : ACall Tryz.prog 93 [.val (.agg [bF, lT [], bF, l1]), .val (.agg [bT, lF [u 2], bF, l1])] ⟨[.val (.agg [bT, lF [u 2], bF, l1])], [none, none]⟩ := ex (.cons k329 (.cons k213 (.cons k790 (.cons k47 (.cons k193 .nil))))) (by kernel_rfl)
theorem k792 : ACall Tryz.prog 95 [.val (.c (lF [[bF, l1, bF, l1, n64 2, n64 0, n64 0, n64 0, n64 0, n64 0, n64 0, n64 0], [bT, lF [u 2], bF, l1, n64 0, n64 0, n64 0, n64 0, n64 0, n64 0, n64 0, n64 0]])), .val (.agg [bF, lT [], bF, l1, bF, lT [], bF, l1, bF, lT [], bF, l1, bF, lT [], bF, l1, bF, lT [], bF, l1, bF, lT [], bF, l1, bF, lT [], bF, l1, bF, lT [], bF, l1])] ⟨[.val (.agg [bT, lF [u 2], bF, l1])], [none, none]⟩ := ex (.cons k153 (.cons k785 (.cons k784 (.cons k788 (.cons k791 .nil))))) (by kernel_rfl)
theorem k793 : ACall Tryz.prog 143 [.val (.agg [bF, lT [], bF, l1]), .val (.c (n64 1))] ⟨[.val (.agg [bF, lT [], bF, l1])], [none, none]⟩ := ex (.cons k129 (.cons k784 .nil)) (by kernel_rfl)
theorem k794 : ACall Tryz.prog 183 [.val (.c (lF [u 2])), .val (.c (lT []))] ⟨[.val (.c (lF []))], [none, none]⟩ := ex (.cons k310 .nil) (by kernel_rfl)
theorem k795 : ACall Tryz.prog 156 [.val (.agg [bF, lF [u 2]]), .val (.agg [bF, lT []])] ⟨[.val (.agg [bF, lT []])], [none, none]⟩ := ex (.cons k794 (.cons k150 .nil)) (by kernel_rfl)
theorem k796 : ACall Tryz.prog 115 [.val (.c (lF [[bF, lF [u 2]], [bF, lT []]]))] ⟨[.val (.agg [bF, lT []])], [none]⟩ := ex (.cons k37 (.cons k41 (.cons k39 (.cons k328 (.cons k795 .nil))))) (by kernel_rfl)
theorem k797 : ACall Tryz.prog 99 [.val (.agg [bF, lF [u 2], bF, l1]), .val (.agg [bF, lT [], bF, l1])] ⟨[.val (.agg [bF, lT [], bF, l1])], [none, none]⟩ := ex (.cons k87 (.cons k313 (.cons k796 (.cons k47 .nil)))) (by kernel_rfl)
theorem k798 : ACall Tryz.prog 95 [.val (.c (lF [[bF, lF [u 2], bF, l1, n64 1, n64 0, n64 0, n64 0, n64 0, n64 0, n64 0, n64 0]])), .val (.agg [bF, lT [], bF, l1, bF, lT [], bF, l1, bF, lT [], bF, l1, bF, lT [], bF, l1, bF, lT [], bF, l1, bF, lT [], bF, l1, bF, lT [], bF, l1, bF, lT [], bF, l1])] ⟨[.val (.agg [bF, lT [], bF, l1])], [none, none]⟩ := ex (.cons k153 (.cons k793 (.cons k797 (.cons k788 .nil)))) (by kernel_rfl)
theorem k799 : ACall Tryz.prog 173 [.val (.c (lF [[lF [[bF, lT [], bF, l1]]]]))] ⟨[.val (.c (n64 1))], [none]⟩ := ex (.nil) (by kernel_rfl)
theorem k800 : ACall Tryz.prog 144 [.val (.c (lF [[lF [[bF, lT [], bF, l1]]]]))] ⟨[.val (.c (bT))], [none]⟩ := ex (.cons k799 .nil) (by kernel_rfl)
theorem k801 : ACall Tryz.prog 146 [.val (.c (lF [[bF, lT [], bF, l1]]))] ⟨[.own 4 [[bF, lT [], bF, l1]]], [none]⟩ := ex (.nil) (by kernel_rfl)
theorem k802 : ACall Tryz.prog 146 [.val (.c (lF [[bF, lT [], bF, l1], [bF, l1, bF, l1]]))] ⟨[.own 4 [[bF, lT [], bF, l1], [bF, l1, bF, l1]]], [none]⟩ := ex (.nil) (by kernel_rfl)
theorem k803 : ACall Tryz.prog 148 [.val (.c (lF [[lF [[bF, lT [], bF, l1], [bF, l1, bF, l1]]]])), .val (.c (.v (.func (.func 146) #[] #[])))] ⟨[.own 1 [[lF [[bF, lT [], bF, l1], [bF, l1, bF, l1]]]]], [none, none]⟩ := ex (.cons k802 .nil) (by kernel_rfl)
theorem k804 : ACall Tryz.prog 173 [.val (.c (lF [[lF [[bF, lT [], bF, l1], [bF, l1, bF, l1]]]]))] ⟨[.val (.c (n64 2))], [none]⟩ := ex (.nil) (by kernel_rfl)
theorem k805 : ACall Tryz.prog 174 [.val (.c (lF [[lF [[bF, lT [], bF, l1], [bF, l1, bF, l1]]]])), .val (.c (n64 0)), .val (.c (n64 0))] ⟨[.val (.c (n64 (-1)))], [none, none, none]⟩ := ex (.cons k155 .nil) (by kernel_rfl)
theorem k806 : ACall Tryz.prog 174 [.val (.c (lF [[lF [[bF, lT [], bF, l1], [bF, l1, bF, l1]]]])), .val (.c (n64 0)), .val (.c (n64 1))] ⟨[.val (.c (n64 0))], [none, none, none]⟩ := ex (.cons k24 .nil) (by kernel_rfl)
theorem k807 : ACall Tryz.prog 138 [.val (.agg [bF, l1, bF, l1])] ⟨[.val (.agg [bF, l1, bF, l1]), .val (.c (n64 0))], [none]⟩ := ex (.cons k23 .nil) (by kernel_rfl)
theorem k808 : ACall Tryz.prog 176 [.val (.agg [bF, lT [], bF, l1]), .ref [bF, l1, bF, l1]] ⟨[.val (.agg [bF, lT [], bF, l1])], [none, some (.var [.t (bF), .t (l1), .t (bF), .t (l1)])]⟩ := ex (.cons k784 .nil) (by kernel_rfl)
theorem k809 : ACall Tryz.prog 176 [.val (.agg [bF, l1, bF, l1]), .ref [bF, l1, bF, l1]] ⟨[.val (.agg [bF, l1, bF, l1])], [none, some (.var [.t (bF), .t (l1), .t (bF), .t (l1)])]⟩ := ex (.cons k416 .nil) (by kernel_rfl)
theorem k810 : ACall Tryz.prog 175 [.val (.c (lF [[bF, lT [], bF, l1], [bF, l1, bF, l1]])), .clo 176 [(2, (0, 0))], .gh [bF, l1, bF, l1]] ⟨[.val (.c (lF [[bF, lT [], bF, l1], [bF, l1, bF, l1]]))], [none, none, some (.var [.t (bF), .t (l1), .t (bF), .t (l1)])]⟩ := ex (.cons k808 (.cons k809 .nil)) (by kernel_rfl)
theorem k811 : ACall Tryz.prog 177 [.val (.c (lF [])), .val (.c (lF [[bF, lT [], bF, l1], [bF, l1, bF, l1]])), .val (.c (n64 1))] ⟨[], [none, none, none]⟩ := ex (.nil) (by kernel_rfl)
theorem k812 : ACall Tryz.prog 147 [.val (.c (lF [[lF [[bF, lT [], bF, l1], [bF, l1, bF, l1]]]]))] ⟨[.val (.c (lF [[lF [[bF, lT [], bF, l1], [bF, l1, bF, l1]]]])), .val (.c (lF [[n64 1]]))], [none]⟩ := ex (.cons k803 (.cons k804 (.cons k805 (.cons k806 (.cons k807 (.cons k810 (.cons k811 .nil))))))) (by kernel_rfl)
theorem k813 : ACall Tryz.prog 97 [.val (.c (lF [[lF [[bF, lT [], bF, l1]]]]))] ⟨[.val (.c (lT [])), .val (.c (n64 110))], [none]⟩ := ex (.cons k800 (.cons k387 (.cons k129 (.cons k801 (.cons k812 .nil))))) (by kernel_rfl)
theorem k814 : ACall Tryz.prog 42 [.val (.c (lF [[lF [[bF, l1, bF, l1, n64 2, n64 0, n64 0, n64 0, n64 0, n64 0, n64 0, n64 0], [bT, lF [u 2], bF, l1, n64 0, n64 0, n64 0, n64 0, n64 0, n64 0, n64 0, n64 0]]]])), .val (.c (n64 1)), .val (.agg [bF, lF [], bF, l1, bF, lF [], bF, l1, bF, lF [], bF, l1, bF, lF [], bF, l1, bF, lF [], bF, l1, bF, lF [], bF, l1, bF, lF [], bF, l1, bF, lF [], bF, l1, bF, lF [], bF, l1, bF, lF [], bF, l1, bF, lF [], bF, l1, bF, lF [], bF, l1, bF, lF [], bF, l1, bF, lF [], bF, l1, bF, lF [], bF, l1, bF, lF [], bF, l1])] ⟨[.val (.agg [bF, lT [], bF, lT [], bF, lT [], bF, lT [], bF, lT [], bF, lT [], bF, lT [], bF, lT [], bF, lT [], bF, lT [], bF, lT [], bF, lT [], bF, lT [], bF, lT [], bF, lT [], bF, lT [], bF, lT [], bF, lT [], bF, lT [], bF, lT [], bF, lT [], bF, lT [], bF, lT [], bF, lT [], bF, lT [], bF, lT [], bF, lT [], bF, lT [], bF, lT [], bF, lT [], bF, lT [], bF, lT []]), .val (.c (n64 110))], [none, none, none]⟩ := ex (.cons k292 (.cons k314 (.cons k299 (.cons k331 (.cons k792 (.cons k372 (.cons k798 (.cons k813 .nil)))))))) (by kernel_rfl)
theorem k815 : ACall Tryz.prog 44 [.val (.c (lF [[lF [[bF, l1, bF, l1, n64 2, n64 0, n64 0, n64 0, n64 0, n64 0, n64 0, n64 0], [bT, lF [u 2], bF, l1, n64 0, n64 0, n64 0, n64 0, n64 0, n64 0, n64 0, n64 0]]]])), .val (.c (n64 1)), .val (.agg [bF, lF [], bF, l1, bF, lF [], bF, l1, bF, lF [], bF, l1, bF, lF [], bF, l1, bF, lF [], bF, l1, bF, lF [], bF, l1, bF, lF [], bF, l1, bF, lF [], bF, l1, bF, lF [], bF, l1, bF, lF [], bF, l1, bF, lF [], bF, l1, bF, lF [], bF, l1, bF, lF [], bF, l1, bF, lF [], bF, l1, bF, lF [], bF, l1, bF, lF [], bF, l1])] ⟨[.val (.c (bF))], [none, none, none]⟩ := ex (.cons k814 .nil) (by kernel_rfl)
theorem k816 : ACall Tryz.prog 33 [.val (.agg [bF, l1, bF, l1]), .val (.agg [bF, l1, bF, l1])] ⟨[.val (.c (bT))], [none, none]⟩ := ex (.cons k123 .nil) (by kernel_rfl)
theorem k817 : ACall Tryz.prog 82 [.val (.agg [bF, lF [u 2]]), .val (.agg [bF, lF [u 2]])] ⟨[.val (.c (bT))], [none, none]⟩ := ex (.nil) (by kernel_rfl)
theorem k818 : ACall Tryz.prog 33 [.val (.agg [bF, lF [u 2], bF, l1]), .val (.agg [bF, lF [u 2], bF, l1])] ⟨[.val (.c (bT))], [none, none]⟩ := ex (.cons k817 (.cons k123 .nil)) (by kernel_rfl)
theorem k819 : ACall Tryz.prog 15 [.val (.agg [bF, l1, bF, l1, bF, lF [u 2], bF, l1]), .val (.agg [bF, l1, bF, l1, bF, lF [u 2], bF, l1])] ⟨[.val (.c (bT))], [none, none]⟩ := ex (.cons k816 (.cons k818 .nil)) (by kernel_rfl)
theorem k820 : ACall Tryz.prog 117 [.val (.agg [bT, l1])] ⟨[.val (.c (bT))], [none]⟩ := ex (.nil) (by kernel_rfl)
theorem k821 : ACall Tryz.prog 117 [.val (.agg [bF, l1])] ⟨[.val (.c (bT))], [none]⟩ := ex (.nil) (by kernel_rfl)
theorem k822 : ACall Tryz.prog 69 [.val (.agg [bT, l1, bF, l1])] ⟨[.val (.c (bT))], [none]⟩ := ex (.cons k820 (.cons k821 (.cons k23 (.cons k39 .nil)))) (by kernel_rfl)
theorem k823 : ACall Tryz.prog 117 [.val (.agg [bF, lF [u 2]])] ⟨[.val (.c (bT))], [none]⟩ := ex (.nil) (by kernel_rfl)
theorem k824 : ACall Tryz.prog 69 [.val (.agg [bF, lF [u 2], bF, l1])] ⟨[.val (.c (bT))], [none]⟩ := ex (.cons k823 (.cons k821 (.cons k23 (.cons k39 .nil)))) (by kernel_rfl)
theorem k825 : ACall Tryz.prog 67 [.val (.agg [bT, l1, bF, l1]), .val (.agg [bF, lF [u 2], bF, l1])] ⟨[.val (.c (n64 (-1)))], [none, none]⟩ := ex (.cons k26 (.cons k32 .nil)) (by kernel_rfl)
theorem k826 : ACall Tryz.prog 16 [.val (.agg [bT, l1, bF, l1, bF, lF [u 2], bF, l1])] ⟨[.val (.c (bT))], [none]⟩ := ex (.cons k822 (.cons k824 (.cons k825 .nil))) (by kernel_rfl)
theorem k827 : ACall Tryz.prog 57 [.val (.c (n64 2)), .val (.c (n64 1))] ⟨[.val (.agg [bF, lF [u 2], bF, l1, bF, l1, bF, l1])], [none, none]⟩ := ex (.cons k13 (.cons k15 .nil)) (by kernel_rfl)
theorem k828 : ACall Tryz.prog 69 [.val (.agg [bF, l1, bF, l1])] ⟨[.val (.c (bT))], [none]⟩ := ex (.cons k821 (.cons k23 (.cons k39 .nil))) (by kernel_rfl)
theorem k829 : ACall Tryz.prog 16 [.val (.agg [bF, lF [u 2], bF, l1, bF, l1, bF, l1])] ⟨[.val (.c (bF))], [none]⟩ := ex (.cons k824 (.cons k828 (.cons k421 .nil))) (by kernel_rfl)
theorem k830 : ACall Tryz.prog 18 [.val (.agg [bT, l1, bF, l1, bF, lF [u 2], bF, l1]), .val (.agg [bF, lF [u 2], bF, l1])] ⟨[.val (.c (bT))], [none, none]⟩ := ex (.cons k825 (.cons k430 .nil)) (by kernel_rfl)
theorem k831 : ACall Tryz.prog 88 [.val (.c (n64 0)), .clo 86 [(2, (0, 0)), (3, (0, 0))], .gh [lT []], .gh [bF, l1, bF, l1, bF, lF [u 2], bF, l1, bF, lF [], bF, l1, bF, lF [], bF, l1, bF, lF [], bF, l1, bF, lF [], bF, l1, bF, lF [], bF, l1, bF, lF [], bF, l1, bF, lF [], bF, l1, bF, lF [], bF, l1, bF, lF [], bF, l1, bF, lF [], bF, l1, bF, lF [], bF, l1, bF, lF [], bF, l1, bF, lF [], bF, l1, bF, lF [], bF, l1]] ⟨[.val (.agg [bF, lT [], bF, l1, bF, lT [], bF, l1])], [none, none, some (.var [.t (lT [])]), some (.var [.t (bF), .t (l1), .t (bF), .t (l1), .t (bF), .t (lF [u 2]), .t (bF), .t (l1), .t (bF), .t (lF []), .t (bF), .t (l1), .t (bF), .t (lF []), .t (bF), .t (l1), .t (bF), .t (lF []), .t (bF), .t (l1), .t (bF), .t (lF []), .t (bF), .t (l1), .t (bF), .t (lF []), .t (bF), .t (l1), .t (bF), .t (lF []), .t (bF), .t (l1), .t (bF), .t (lF []), .t (bF), .t (l1), .t (bF), .t (lF []), .t (bF), .t (l1), .t (bF), .t (lF []), .t (bF), .t (l1), .t (bF), .t (lF []), .t (bF), .t (l1), .t (bF), .t (lF []), .t (bF), .t (l1), .t (bF), .t (lF []), .t (bF), .t (l1), .t (bF), .t (lF []), .t (bF), .t (l1), .t (bF), .t (lF []), .t (bF), .t (l1)])]⟩ := ex (.cons k153 (.cons k414 .nil)) (by kernel_rfl)
theorem k832 : ACall Tryz.prog 39 [.val (.c (lT [])), .val (.agg [bF, l1, bF, l1, bF, lF [u 2], bF, l1, bF, lF [], bF, l1, bF, lF [], bF, l1, bF, lF [], bF, l1, bF, lF [], bF, l1, bF, lF [], bF, l1, bF, lF [], bF, l1, bF, lF [], bF, l1, bF, lF [], bF, l1, bF, lF [], bF, l1, bF, lF [], bF, l1, bF, lF [], bF, l1, bF, lF [], bF, l1, bF, lF [], bF, l1, bF, lF [], bF, l1])] ⟨[.val (.agg [bF, lT [], bF, l1, bF, lT [], bF, l1])], [none, none]⟩ := ex (.cons k831 .nil) (by kernel_rfl)
theorem k833 : ACall Tryz.prog 57 [.val (.c (n64 0)), .val (.c (n64 0))] ⟨[.val (.agg [bF, lF [], bF, l1, bF, lF [], bF, l1])], [none, none]⟩ := ex (.cons k175 .nil) (by kernel_rfl)
theorem k834 : ACall Tryz.prog 15 [.val (.agg [bF, lT [], bF, l1, bF, lT [], bF, l1]), .val (.agg [bF, lF [], bF, l1, bF, lF [], bF, l1])] ⟨[.val (.c (bT))], [none, none]⟩ := ex (.cons k184 .nil) (by kernel_rfl)
theorem k835 : ACall Tryz.prog 11 [] ⟨[.val (.c (bT))], []⟩ := ex (.cons k14 (.cons k22 (.cons k51 (.cons k58 (.cons k68 (.cons k72 (.cons k114 (.cons k121 (.cons k127 (.cons k169 (.cons k182 (.cons k187 (.cons k201 (.cons k205 (.cons k208 (.cons k229 (.cons k230 (.cons k233 (.cons k235 (.cons k236 (.cons k238 (.cons k261 (.cons k265 (.cons k289 (.cons k692 (.cons k693 (.cons k21 (.cons k181 (.cons k720 (.cons k726 (.cons k732 (.cons k759 (.cons k765 (.cons k778 (.cons k815 (.cons k819 (.cons k826 (.cons k827 (.cons k829 (.cons k13 (.cons k830 (.cons k832 (.cons k833 (.cons k834 .nil)))))))))))))))))))))))))))))))))))))))))))) (by kernel_rfl)
end Go.Proofs.YtpgbejgdmgpfjaaGreat.Mem
end

