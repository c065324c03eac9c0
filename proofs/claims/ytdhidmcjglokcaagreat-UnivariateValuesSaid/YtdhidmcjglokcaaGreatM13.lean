/-
  A part of the proof: GabsFrame, LawCanon07, LawRing07, LawDivs07, LawVals07, GabsMemo, Memo07A, Memo07B, Memo07C, Memo07D, Memo07E, Memo07F.
-/
import Derived.Test.YtdhidmcjglokcaaGreatM12
import Derived.Calls
import Derived.Laws.Cells
import Derived.Below
import Derived.Laws.Small
import Derived.Laws.IdiomCopy
import Derived.Laws.BytesString
import Derived.Laws.Append
import Derived.Laws.Tables
import Derived.Great.BuildSlice
import Derived.IntWalk
import Derived.Orders
import Derived.Laws.BitsLemmas
import Derived.Test.YtdhidmcjglokcaaGreatProg
import Derived.ChangeSame
import Derived.Carry
import Derived.ProofKit
import Derived.WideKeyArgs
import Derived.OpenShut
import Derived.WalkKit

section
set_option linter.unusedVariables false
set_option linter.unusedSimpArgs false
/-
  The abstract layer: a law's arguments, of whatever plain types, read as trees; and read again behind the call.
-/
set_option linter.unusedSimpArgs false
set_option linter.unusedVariables false
namespace Go.Abs
open Go.RowKit Go.WideShapes Go.ChangeShapes Go.ChangeAt

/-- What a type's data look like. -/
inductive Shape where
  | int (k : IntKind)
  | bool
  | slice (s : Shape)
  | struct (l : List Shape)
  | arr (n : Nat) (s : Shape)

mutual
def Shape.size : Shape → Nat
  | .int _ => 1
  | .bool => 1
  | .slice _ => 1
  | .struct l => sizeL l
  | .arr n s => n * s.size
def sizeL : List Shape → Nat
  | [] => 0
  | s :: l => s.size + sizeL l
end

mutual
/-- Does the type look so? -/
def Shape.fits (P : Program) (t : TypeId) : Shape → Bool
  | .int k => match P.underlying t with
    | some (.int k') => decide (k' = k)
    | _ => false
  | .bool => match P.underlying t with
    | some .bool => true
    | _ => false
  | .slice s => match P.underlying t with
    | some (.slice e) => P.cellsOf e == s.size && decide (0 < s.size) && s.fits P e
    | _ => false
  | .struct l => match P.underlying t with
    | some (.struct fs) => P.cellsOf t == sizeL l && fitsL P 0 fs.toList l
    | _ => false
  | .arr n s => match P.underlying t with
    | some (.array m e) => m == n && P.cellsOf t == n * s.size && P.cellsOf e == s.size && s.fits P e
    | _ => false
def fitsL (P : Program) (off : Nat) : List Field → List Shape → Bool
  | [], [] => true
  | f :: fs, s :: l => f.offset == off && P.cellsOf f.type == s.size && s.fits P f.type && fitsL P (off + s.size) fs l
  | _, _ => false
end

/-- A list that comes in n parts. -/
def okN (p : List Tree → Prop) : Nat → List Tree → Prop
  | 0, ts => ts = []
  | n + 1, ts => ∃ a b, ts = a ++ b ∧ p a ∧ okN p n b

mutual
/-- Trees of that look. -/
def Shape.ok : Shape → List Tree → Prop
  | .int k, ts => ∃ n, ts = [.v (.int k n)] ∧ (Lit.int k n).wf = true
  | .bool, ts => ∃ b, ts = [.v (.bool b)]
  | .slice s, ts => ∃ cp rows, ts = [.lst cp rows] ∧ rows.length < 2 ^ 63 ∧ ∀ r ∈ rows, s.ok r
  | .struct l, ts => okL l ts
  | .arr n s, ts => okN s.ok n ts
def okL : List Shape → List Tree → Prop
  | [], ts => ts = []
  | s :: l, ts => ∃ a b, ts = a ++ b ∧ s.ok a ∧ okL l b
end

theorem okN_len {p : List Tree → Prop} {m : Nat} (hp : ∀ ts, p ts → ts.length = m) : ∀ (n : Nat) (ts : List Tree), okN p n ts → ts.length = n * m
  | 0, ts, h => by rw [show ts = [] from h]; simp
  | n + 1, ts, ⟨a, b, h1, h2, h3⟩ => by rw [h1, List.length_append, hp a h2, okN_len hp n b h3, Nat.succ_mul]; omega

mutual
theorem Shape.ok_len : ∀ (s : Shape) (ts : List Tree), s.ok ts → ts.length = s.size
  | .int k, ts, h => by obtain ⟨n, rfl, _⟩ := h; rfl
  | .bool, ts, h => by obtain ⟨n, rfl⟩ := h; rfl
  | .slice s, ts, h => by obtain ⟨_, _, rfl, _⟩ := h; rfl
  | .struct l, ts, h => okL_len l ts h
  | .arr n s, ts, h => okN_len (fun ts h => s.ok_len ts h) n ts h
theorem okL_len : ∀ (l : List Shape) (ts : List Tree), okL l ts → ts.length = sizeL l
  | [], ts, h => by rw [show ts = [] from h]; rfl
  | s :: l, ts, h => by
    obtain ⟨a, b, h1, h2, h3⟩ := h
    rw [h1, List.length_append, s.ok_len a h2, okL_len l b h3]; rfl
end

section
variable {H : Type} {enc : TypeId × Value → H} {P : Program} {w : World} {sp : Nat → Bool} {hd : Bool}

/-- Cell by cell. -/
def TRepL (w : World) (ts : List Tree) (cs : List Value) : Prop := ts.length = cs.length ∧ ∀ (i : Nat) (t : Tree) (v : Value), ts[i]? = some t → cs[i]? = some v → TRep (old w) w t v

theorem TRepL.append {a b : List Tree} {c d : List Value} (h1 : TRepL w a c) (h2 : TRepL w b d) : TRepL w (a ++ b) (c ++ d) := by
  refine ⟨by rw [List.length_append, List.length_append, h1.1, h2.1], fun i t v ht hv => ?_⟩
  rcases Nat.lt_or_ge i a.length with h | h
  · rw [List.getElem?_append_left h] at ht
    rw [List.getElem?_append_left (by rw [← h1.1]; exact h)] at hv
    exact h1.2 i t v ht hv
  · rw [List.getElem?_append_right h] at ht
    rw [List.getElem?_append_right (by rw [← h1.1]; exact h), ← h1.1] at hv
    exact h2.2 _ t v ht hv

theorem TRepL.one {t : Tree} {v : Value} (h : TRep (old w) w t v) : TRepL w [t] [v] := by
  refine ⟨rfl, fun i t' v' ht hv => ?_⟩
  cases i with
  | zero => simp at ht hv; subst ht hv; exact h
  | succ i => simp at ht

def Read (enc : TypeId × Value → H) (P : Program) (w : World) (sp : Nat → Bool) (hd : Bool) (s : Shape) : Prop :=
  ∀ (t : TypeId), s.fits P t = true → ∀ (n : Nat) (cs : List Value) (x : DataW H × List MemPlace), DataW.trod enc P w 0 sp hd n t cs = some x → ∃ ts, s.ok ts ∧ TRepL w ts cs

theorem row_split {cs : List Value} (i m : Nat) : cs.drop i = (cs.drop i).take m ++ cs.drop (i + m) := by
  rw [← List.drop_drop, List.take_append_drop]

theorem fitsL_len : ∀ {l : List Shape} {fs : List Field} {off : Nat}, fitsL P off fs l = true → fs.length = l.length
  | [], [], _, _ => rfl
  | [], _ :: _, _, h => by simp [fitsL] at h
  | _ :: _, [], _, h => by simp [fitsL] at h
  | s :: l, f :: fs, off, h => by
    simp only [fitsL, Bool.and_eq_true] at h
    simp [fitsL_len h.2]

theorem readL : ∀ (l : List Shape), (∀ s ∈ l, Read enc P w sp hd s) → ∀ (fs : List Field) (off : Nat), fitsL P off fs l = true → ∀ (n : Nat) (cs : List Value), cs.length = off + sizeL l →
    (∀ f ∈ fs, ∃ x, DataW.trod enc P w 0 sp hd n f.type ((cs.drop f.offset).take (P.cellsOf f.type)) = some x) → ∃ ts, okL l ts ∧ TRepL w ts (cs.drop off)
  | [], hl, [], off, hf, n, cs, hn, hx => by
    refine ⟨[], rfl, ?_⟩
    rw [List.drop_of_length_le (by rw [hn]; simp [sizeL])]
    exact ⟨rfl, fun i t v h => by simp at h⟩
  | [], hl, f :: fs, off, hf, n, cs, hn, hx => by simp [fitsL] at hf
  | s :: l, hl, [], off, hf, n, cs, hn, hx => by simp [fitsL] at hf
  | s :: l, hl, f :: fs, off, hf, n, cs, hn, hx => by
    simp only [fitsL, Bool.and_eq_true, beq_iff_eq] at hf
    obtain ⟨⟨⟨h1, h2⟩, h3⟩, h4⟩ := hf
    obtain ⟨x, hx1⟩ := hx f (List.mem_cons_self ..)
    rw [h1, h2] at hx1
    obtain ⟨a, ha, hra⟩ := hl s (List.mem_cons_self ..) f.type h3 n _ x hx1
    obtain ⟨b, hb, hrb⟩ := readL l (fun s' hs' => hl s' (List.mem_cons_of_mem _ hs')) fs (off + s.size) h4 n cs (by rw [hn, sizeL]; omega) (fun f' hf' => hx f' (List.mem_cons_of_mem _ hf'))
    refine ⟨a ++ b, ⟨a, b, rfl, ha, hb⟩, ?_⟩
    rw [row_split off s.size]
    exact hra.append hrb

theorem readN {s : Shape} (hs : Read enc P w sp hd s) {e : TypeId} (he : s.fits P e = true) : ∀ (m i : Nat) (n : Nat) (cs : List Value), cs.length = (i + m) * s.size →
    (∀ j, j < m → ∃ x, DataW.trod enc P w 0 sp hd n e ((cs.drop ((i + j) * s.size)).take s.size) = some x) → ∃ ts, okN s.ok m ts ∧ TRepL w ts (cs.drop (i * s.size))
  | 0, i, n, cs, hn, hx => by
    refine ⟨[], rfl, ?_⟩
    rw [List.drop_of_length_le (by rw [hn]; simp)]
    exact ⟨rfl, fun i t v h => by simp at h⟩
  | m + 1, i, n, cs, hn, hx => by
    obtain ⟨x, hx1⟩ := hx 0 (by omega)
    rw [Nat.add_zero] at hx1
    obtain ⟨a, ha, hra⟩ := hs e he n _ x hx1
    obtain ⟨b, hb, hrb⟩ := readN hs he m (i + 1) n cs (by rw [hn]; congr 1; omega) (fun j hj => by
      have := hx (j + 1) (by omega)
      rwa [show i + (j + 1) = i + 1 + j by omega] at this)
    refine ⟨a ++ b, ⟨a, b, rfl, ha, hb⟩, ?_⟩
    rw [row_split (i * s.size) s.size]
    rw [Nat.succ_mul] at hrb
    exact hra.append hrb

theorem add_none (b o n : Nat) : (⟨b, o, none⟩ : Addr).add n = ⟨b, o + n, none⟩ := by
  unfold Addr.add
  split
  · rename_i h; subst h; rfl
  · rfl

theorem wf_one {k : IntKind} {n : Int} : one (.int k n) := by intro l; exact ⟨by simp, by simp⟩

theorem Shape.read : ∀ (s : Shape), Read enc P w sp hd s
  | .int k => fun t hf n cs x hx => by
    have hu : P.underlying t = some (.int k) := by
      unfold Shape.fits at hf
      split at hf
      · rename_i k' h; rw [h, of_decide_eq_true hf]
      · cases hf
    obtain ⟨m, rfl, _, hw⟩ := DataW.trod_int hu hx
    exact ⟨_, ⟨m, rfl, hw⟩, .one (.v _ wf_one)⟩
  | .bool => fun t hf n cs x hx => by
    have hu : P.underlying t = some .bool := by
      unfold Shape.fits at hf
      split at hf
      · rename_i h; exact h
      · cases hf
    obtain ⟨b, rfl, _⟩ := DataW.trod_bool hu hx
    exact ⟨_, ⟨b, rfl⟩, .one (.v _ (by intro l; exact ⟨by simp, by simp⟩))⟩
  | .struct l => fun t hf n cs x hx => by
    unfold Shape.fits at hf
    split at hf
    · rename_i fs hu
      simp only [Bool.and_eq_true, beq_iff_eq] at hf
      obtain ⟨xs, n', rfl, _, hl, hxl, hfs⟩ := DataW.trod_struct hu hx
      obtain ⟨ts, h1, h2⟩ := readL l (fun s hs => Shape.read s) fs.toList 0 hf.2 n' cs (by rw [hl, hf.1]; omega) (fun f hfm => by
        obtain ⟨i, hi, hfi⟩ := List.mem_iff_getElem.1 hfm
        have hi' : i < fs.size := by simpa using hi
        have hg : fs[i]? = some f := by rw [Array.getElem?_eq_getElem hi']; simpa using hfi
        have := hfs i f hg
        have hxi : i < xs.length := by rw [hxl]; exact hi'
        rw [List.getElem?_eq_getElem hxi] at this
        exact ⟨_, this⟩)
      exact ⟨ts, h1, by simpa using h2⟩
    · cases hf
  | .arr m s => fun t hf n cs x hx => by
    unfold Shape.fits at hf
    split at hf
    · rename_i m' e hu
      simp only [Bool.and_eq_true, beq_iff_eq] at hf
      obtain ⟨⟨⟨rfl, h1⟩, h2⟩, h3⟩ := hf
      cases n with
      | zero => simp [DataW.trod] at hx
      | succ n =>
        unfold DataW.trod at hx
        rw [hu] at hx
        simp only at hx
        split at hx
        · rename_i hl
          obtain ⟨xs, hxs, _⟩ := Option.map_eq_some_iff.1 hx
          obtain ⟨ts, h4, h5⟩ := readN (Shape.read s) h3 m' 0 n cs (by rw [hl, h1, Nat.zero_add]) (fun j hj => by
            have := mapM_some_get hxs j j (by simp [hj])
            have hlen := mapM_some_length hxs
            rw [List.length_range] at hlen
            rw [List.getElem?_eq_getElem (by omega)] at this
            rw [h2] at this
            rw [Nat.zero_add]
            exact ⟨_, this⟩)
          exact ⟨ts, h4, by simpa using h5⟩
        · cases hx
    · cases hf
  | .slice s => fun t hf n cs x hx => by
    unfold Shape.fits at hf
    split at hf
    · rename_i e hu
      simp only [Bool.and_eq_true, beq_iff_eq, decide_eq_true_eq] at hf
      obtain ⟨⟨h1, h2⟩, h3⟩ := hf
      rcases DataW.trod_slice hu hx with ⟨rfl, _⟩ | ⟨a, len, cap, elems, rest, n', rfl, rfl, _, _, hlc, hcap, hel, hread, _, _⟩
      · refine ⟨[.lst false []], ⟨false, [], rfl, by simp, by simp⟩, .one (.lst false [] none 0 0 0 0 (fun _ _ => default) (by simp) (by omega) (by simp) (by simp) (by simp) (by simp) (by simp) (fun i j t ht => by simp [at2] at ht) (fun i j t ht => by simp [at2] at ht))⟩
      · have hm : maxLen = 2 ^ 63 - 1 := rfl
        have hrow : ∀ i, i < len → ∃ ts css, s.ok ts ∧ TRepL w ts css ∧ w.cells? 0 (a.add (i * s.size)) s.size = some css := fun i hi => by
          have hr := hread i hi
          rw [List.getElem?_eq_getElem (by omega), h1] at hr
          obtain ⟨css, hc, hx2⟩ := Option.bind_eq_some_iff.1 hr
          obtain ⟨ts, h4, h5⟩ := Shape.read s e h3 _ _ _ hx2
          exact ⟨ts, css, h4, h5, hc⟩
        let f : Nat → List Tree := fun i => if h : i < len then (hrow i h).choose else []
        let g : Nat → List Value := fun i => if h : i < len then (hrow i h).choose_spec.choose else []
        have hfg : ∀ i, i < len → s.ok (f i) ∧ TRepL w (f i) (g i) ∧ w.cells? 0 (a.add (i * s.size)) s.size = some (g i) := fun i hi => by
          have hfi : f i = (hrow i hi).choose := dif_pos hi
          have hgi : g i = (hrow i hi).choose_spec.choose := dif_pos hi
          rw [hfi, hgi]
          exact (hrow i hi).choose_spec.choose_spec
        have hspot : 0 < len → a = ⟨a.block, a.off, none⟩ ∧ a.block < w.heap.size := fun h0 => by
          obtain ⟨hok, hrep, hc⟩ := hfg 0 h0
          obtain ⟨_, hl, hce⟩ := World.cells?_some hc
          have := hce 0 h2
          rw [List.getElem?_eq_getElem (by omega)] at this
          have ha : (a.add (0 * s.size)).add 0 = a := by simp [Addr.add]
          rw [ha] at this
          refine ⟨?_, ?_⟩
          · unfold World.cell? at this
            split at this
            · split at this
              · cases this
              · rename_i hs
                obtain ⟨b, o, sp'⟩ := a
                cases sp' with
                | none => rfl
                | some _ => simp at hs
            · cases this
          · have := World.cells?_block hc h2
            simpa [Addr.add] using this
        have hrows : ∀ i, (((List.range len).map f)[i]?) = if i < len then some (f i) else none := fun i => by
          rw [List.getElem?_map]
          by_cases h : i < len
          · rw [if_pos h, List.getElem?_range h]; rfl
          · rw [if_neg h, List.getElem?_eq_none (by simpa using h)]; rfl
        have hat : ∀ i j t, at2 ((List.range len).map f) i j = some t → i < len ∧ (f i)[j]? = some t := fun i j t ht => by
          unfold at2 at ht
          rw [hrows] at ht
          by_cases h : i < len
          · rw [if_pos h] at ht; exact ⟨h, ht⟩
          · rw [if_neg h] at ht; cases ht
        have hcell : ∀ i j t, at2 ((List.range len).map f) i j = some t → ∃ v, (g i)[j]? = some v ∧ w.cell? ⟨a.block, a.off + i * s.size + j, none⟩ = some v ∧ TRep (old w) w t v ∧ a.block < w.heap.size := fun i j t ht => by
          obtain ⟨hi, hj⟩ := hat i j t ht
          obtain ⟨hok, hrep, hc⟩ := hfg i hi
          obtain ⟨_, hl, hce⟩ := World.cells?_some hc
          have hjl : j < s.size := by
            have := (List.getElem?_eq_some_iff.1 hj).1
            rw [s.ok_len _ hok] at this; exact this
          have hv := hce j hjl
          obtain ⟨hs1, hs2⟩ := hspot (by omega)
          refine ⟨(g i)[j]'(by omega), List.getElem?_eq_getElem (by omega), ?_, hrep.2 j t _ hj (List.getElem?_eq_getElem (by omega)), hs2⟩
          rw [List.getElem?_eq_getElem (by omega)] at hv
          rw [← hv]
          rw [hs1, add_none, add_none]
        refine ⟨[.lst false ((List.range len).map f)], ⟨false, _, rfl, by rw [List.length_map, List.length_range]; omega, fun r hr => ?_⟩, ?_⟩
        · obtain ⟨i, hi, rfl⟩ := List.mem_map.1 hr
          exact (hfg i (List.mem_range.1 hi)).1
        · refine .one ?_
          have hl : ((List.range len).map f).length = len := by rw [List.length_map, List.length_range]
          have := TRep.lst (S := old w) (w := w) false ((List.range len).map f) (some a) a.block a.off s.size cap (fun i j => ((g i)[j]?).getD default) (by rw [hl]; exact hlc) (by omega) (by rw [hl]; omega) (by simp)
            (fun hne => by rw [(hspot (by rcases Nat.eq_zero_or_pos len with h | h; · subst h; simp at hne
                                          · exact h)).1]) (by simp)
            (fun r hr => by obtain ⟨i, hi, rfl⟩ := List.mem_map.1 hr; exact s.ok_len _ (hfg i (List.mem_range.1 hi)).1)
            (fun i j t ht => by obtain ⟨v, h4, h5, h6, h7⟩ := hcell i j t ht; exact ⟨h7, by rw [h5, h4]; rfl⟩)
            (fun i j t ht => by obtain ⟨v, h4, h5, h6, h7⟩ := hcell i j t ht; rw [h4]; exact h6)
          rw [hl] at this
          exact this
    · cases hf
termination_by s => SizeOf.sizeOf s

/-- An argument as an abstract one. -/
def Shape.tv (s : Shape) (ts : List Tree) : TV :=
  match s, ts with
  | .struct _, ts => .agg ts
  | .arr _ _, ts => .agg ts
  | _, [t] => .c t
  | _, ts => .agg ts

def isAggT (P : Program) (t : TypeId) : Bool := match P.underlying t with
  | some (.struct _) | some (.array _ _) => true
  | _ => false

theorem Shape.rep {s : Shape} {t : TypeId} (hf : s.fits P t = true) {v : Value} (hok : Value.okWide P w .any 0 t v) {ts : List Tree} (hs : s.ok ts) (h : TRepL w ts v.cells.toList) : VRep noβ (old w) w (s.tv ts).av v := by
  have agg : ∀ (cs : Array Value), v = .agg cs → VRep noβ (old w) w (TV.agg ts).av v := fun cs hv => by
    subst hv
    have : Array.mk cs.toList = cs := rfl
    rw [show TV.av (.agg ts) = AV.agg (ts.map .t) from rfl, ← this]
    refine .agg cs.toList (by rw [List.length_map]; exact h.1.symm) fun i c hc => ?_
    rw [List.getElem?_map] at hc
    obtain ⟨t', ht, rfl⟩ := Option.map_eq_some_iff.1 hc
    have hi := (List.getElem?_eq_some_iff.1 ht).1
    have hi2 : i < cs.toList.length := by have := h.1; simp only [Value.cells] at this; omega
    exact ⟨_, List.getElem?_eq_getElem hi2, .t (h.2 i t' _ ht (List.getElem?_eq_getElem hi2))⟩
  have scal : isAggT P t = false → ts.length = 1 → VRep noβ (old w) w (match ts with | [t] => TV.c t | ts => .agg ts).av v := fun hna hl => by
    match ts, hl, h with
    | [t'], _, h =>
      have hc : v.cells = #[v] := by
        cases v with
        | agg cs =>
          unfold Value.okWide at hok
          unfold isAggT at hna
          split at hok
          · rename_i h1; rw [h1] at hna; cases hna
          · rename_i h1; rw [h1] at hna; cases hna
          · unfold Cell.okWide at hok
            split at hok <;> first | (rename_i h1 h2; cases h2; done) | skip
            all_goals first | (unfold Cell.ok at hok; split at hok <;> first | (rename_i h1 h2; cases h2; done) | exact hok.elim) | skip
        | _ => rfl
      have := h.2 0 t' v rfl (by rw [hc]; rfl)
      exact .c (.t this)
  cases s with
  | int k =>
    have hu : P.underlying t = some (.int k) := by
      unfold Shape.fits at hf
      split at hf
      · rename_i k' h; rw [h, of_decide_eq_true hf]
      · cases hf
    obtain ⟨m, rfl, _⟩ := hs
    exact scal (by unfold isAggT; rw [hu]) rfl
  | bool =>
    have hu : P.underlying t = some .bool := by
      unfold Shape.fits at hf
      split at hf
      · rename_i h; exact h
      · cases hf
    obtain ⟨m, rfl⟩ := hs
    exact scal (by unfold isAggT; rw [hu]) rfl
  | slice s =>
    unfold Shape.fits at hf
    split at hf
    · rename_i e hu
      obtain ⟨_, _, rfl, _⟩ := hs
      exact scal (by unfold isAggT; rw [hu]) rfl
    · cases hf
  | struct l =>
    unfold Shape.fits at hf
    split at hf
    · rename_i fs hu
      unfold Value.okWide at hok
      rw [hu] at hok
      obtain ⟨cs, hv, _⟩ := hok
      exact agg cs hv
    · cases hf
  | arr n s =>
    unfold Shape.fits at hf
    split at hf
    · rename_i m e hu
      unfold Value.okWide at hok
      rw [hu] at hok
      obtain ⟨cs, hv, _⟩ := hok
      exact agg cs hv
    · cases hf

/-- The arguments, one after the other. -/
def okAll : List Shape → List (List Tree) → Prop
  | [], l => l = []
  | s :: ss, l => ∃ ts r, l = ts :: r ∧ s.ok ts ∧ okAll ss r

def tvs : List Shape → List (List Tree) → List TV
  | s :: ss, ts :: r => s.tv ts :: tvs ss r
  | _, _ => []

def fitsAll (P : Program) : List TypeId → List Shape → Bool
  | [], [] => true
  | t :: ts, s :: ss => s.fits P t && decide (t < P.types.size) && P.readableRec t && fitsAll P ts ss
  | _, _ => false

theorem args_read : ∀ {tys : List TypeId} {shs : List Shape} {vs : List Value} {ds : List (DataW H)} {ps : List MemPlace}, DataW.TrodAll enc P w 0 sp true tys vs ds ps → fitsAll P tys shs = true →
    (∀ (j : Nat) t v, tys[j]? = some t → vs[j]? = some v → Value.okWide P w .any 0 t v) →
    ∃ tss, okAll shs tss ∧ vs.length = (tvs shs tss).length ∧ ds.length = shs.length ∧ ∀ (i : Nat) (x : TV), (tvs shs tss)[i]? = some x → ∃ v, vs[i]? = some v ∧ VRep noβ (old w) w x.av v
  | [], [], [], [], ps, h, hf, hv => ⟨[], rfl, rfl, rfl, fun i x hx => by simp [tvs] at hx⟩
  | t :: ts, s :: ss, v :: vs, d :: ds, ps, h, hf, hv => by
    obtain ⟨p, q, ⟨n, h1⟩, h2, _⟩ := h
    simp only [fitsAll, Bool.and_eq_true] at hf
    obtain ⟨⟨⟨f1, f2⟩, f3⟩, f4⟩ := hf
    obtain ⟨tss, g1, g2, g3, g4⟩ := args_read h2 f4 (fun j t v ht hx => hv (j + 1) t v (by simpa using ht) (by simpa using hx))
    obtain ⟨tr, k1, k2⟩ := s.read t f1 n _ _ h1
    refine ⟨tr :: tss, ⟨tr, tss, rfl, k1, g1⟩, by simp [tvs, g2], by simp [g3], fun i x hx => ?_⟩
    cases i with
    | zero =>
      simp only [tvs, List.getElem?_cons_zero, Option.some.injEq] at hx
      subst hx
      exact ⟨v, rfl, Shape.rep f1 (hv 0 t v rfl rfl) k1 k2⟩
    | succ i => simp only [tvs, List.getElem?_cons_succ] at hx ⊢; exact g4 i x hx
  | [], _ :: _, _, _, _, _, hf, _ => by simp [fitsAll] at hf
  | _ :: _, [], _, _, _, _, hf, _ => by simp [fitsAll] at hf
  | [], [], _ :: _, _, _, h, _, _ => by simp [DataW.TrodAll] at h
  | [], [], [], _ :: _, _, h, _, _ => by simp [DataW.TrodAll] at h
  | _ :: _, _ :: _, [], _, _, h, _, _ => by simp [DataW.TrodAll] at h
  | _ :: _, _ :: _, _ :: _, [], _, h, _, _ => by simp [DataW.TrodAll] at h

theorem args_stay (hl : laidOutB P = true) {W W' : World} {sp' : Nat → Bool} (hb : Below W.heap.size W W') : ∀ {tys : List TypeId} {shs : List Shape} {vs : List Value} {ds : List (DataW H)} {ps : List MemPlace}, DataW.TrodAll enc P W 0 (fun _ => true) true tys vs ds ps → fitsAll P tys shs = true →
    (∀ p ∈ ps, p.block < W.heap.size) → (∀ p ∈ ps, sp' p.block = true) → DataW.TrodAll enc P W' 0 sp' true tys vs ds ps
  | [], [], [], [], ps, h, hf, h1, h2 => h
  | t :: ts, s :: ss, v :: vs, d :: ds, ps, h, hf, h1, h2 => by
    obtain ⟨p, q, k1, k2, rfl⟩ := h
    simp only [fitsAll, Bool.and_eq_true, decide_eq_true_eq] at hf
    obtain ⟨⟨⟨f1, f2⟩, f3⟩, f4⟩ := hf
    exact ⟨p, q, Go.WideElems.Trod_stays hl f3 f2 k1 (fun x hx => hb.same (h1 x (List.mem_append_left _ hx))) (fun x hx => h2 x (List.mem_append_left _ hx)),
      args_stay hl hb k2 f4 (fun x hx => h1 x (List.mem_append_right _ hx)) (fun x hx => h2 x (List.mem_append_right _ hx)), rfl⟩
  | [], _ :: _, _, _, _, _, hf, _, _ => by simp [fitsAll] at hf
  | _ :: _, [], _, _, _, _, hf, _, _ => by simp [fitsAll] at hf
  | [], [], _ :: _, _, _, h, _, _, _ => by simp [DataW.TrodAll] at h
  | [], [], [], _ :: _, _, h, _, _, _ => by simp [DataW.TrodAll] at h
  | _ :: _, _ :: _, [], _, _, h, _, _, _ => by simp [DataW.TrodAll] at h
  | _ :: _, _ :: _, _ :: _, [], _, h, _, _, _ => by simp [DataW.TrodAll] at h

/-- A law's contract, for whatever arguments of that look: the call, as the given statements ask for it. -/
theorem law_row {f : FuncId} {fn : Func} {spec : ChangeSpec} {shs : List Shape} {outs : List (Option Blk)} (hl : laidOutB P = true) (hf : fitsAll P fn.params.toList shs = true) (hvars : spec.vars = []) {tb0 : TypeId} (hres : fn.resultTypes = #[tb0]) (hb4 : P.underlying tb0 = some .bool)
    {apart fresh handsOn again : Bool} (hfn : ∀ ds : List (DataW H), ds.length = shs.length → (spec.fn H ds).args = ds ∧ (spec.fn H ds).results = [.lit (.bool true)] ∧ (spec.fn H ds).vars = [])
    (hc : ∀ tss, okAll shs tss → ACall P f ((tvs shs tss).map .val) ⟨[.val (tb true)], outs⟩)
    {W : World} {args : Array Value} {ds gs : List (DataW H)} {before : List MemPlace} (hval : ∀ (j : Nat) t v, fn.params[j]? = some t → args[j]? = some v → Value.okWide P W .any 0 t v)
    (hW : DataW.Whole enc P fn.params.toList spec.vars apart W args.toList ds gs before) :
    Calls P f args W fun e W' => ∃ v, e = .returned v ∧ spec.post enc P fn apart fresh handsOn again W args v W' := by
  have hW' := hW
  obtain ⟨p, q, hA, hV, rfl, hfz, hnd⟩ := hW
  rw [hvars] at hV
  have hgq : gs = [] ∧ q = [] := by
    cases gs with
    | nil => exact ⟨rfl, hV⟩
    | cons g gs => exact hV.elim
  obtain ⟨rfl, rfl⟩ := hgq
  obtain ⟨tss, hok, hlen, hdl, hrep⟩ := args_read hA hf (fun j t v ht hv => hval j t v (by simpa using ht) (by simpa using hv))
  have h := law_calls (hc tss hok) W args.toList hlen hrep
  have hargs : args.toList.toArray = args := rfl
  rw [hargs] at h
  obtain ⟨e1, e2, e3⟩ := hfn ds hdl
  have hbefore : ∀ x ∈ p, x.block < W.heap.size := fun x hx => hW'.lt x (List.mem_append_left _ hx)
  refine h.mono fun e W' ⟨he, hg⟩ => ?_
  subst he
  refine ⟨_, rfl, post_of_below (pa := p) (pv := []) hW' (fun b sp hd => ?_) (fun sp hs => ?_) (fun sp hs => ?_) rfl hg ?_⟩
  · rw [List.append_nil, e2, hres]
    exact trodAll_cons_mk (shut_bool hb4 _) trodAll_mk0
  · rw [List.append_nil, e1]
    exact args_stay hl hg hA hf hbefore (fun x hx => hs x (List.mem_append_left _ hx))
  · rw [List.append_nil, e3, hvars]; rfl
  · exact ok_one hres rfl (okWide_bool_mk hb4 _)

end
end Go.Abs
end

section
set_option linter.unusedVariables false
set_option linter.unusedSimpArgs false
set_option maxHeartbeats 8000000
set_option linter.unusedVariables false
set_option linter.unusedSimpArgs false
set_option maxRecDepth 100000
namespace Go.Proofs.YtdhidmcjglokcaaGreat
open Go Go.Abs Go.Abs.M Go.Proofs

theorem list_ex {α β : Type} {p : α → β → Prop} : ∀ (l : List α), (∀ a ∈ l, ∃ b, p a b) → ∃ m : List β, m.length = l.length ∧ (∀ (i : Nat) (a : α) (b : β), l[i]? = some a → m[i]? = some b → p a b) ∧ ∀ b ∈ m, ∃ a ∈ l, p a b
  | [], _ => ⟨[], rfl, by simp, by simp⟩
  | a :: l, h => by
    obtain ⟨b, hb⟩ := h a (.head _)
    obtain ⟨m, h1, h2, h3⟩ := list_ex l fun x hx => h x (.tail _ hx)
    refine ⟨b :: m, by simp [h1], fun i x y hx hy => ?_, fun y hy => ?_⟩
    · cases i with
      | zero => simp at hx hy; subst hx hy; exact hb
      | succ i => exact h2 i x y (by simpa using hx) (by simpa using hy)
    · rcases List.mem_cons.1 hy with rfl | hy
      · exact ⟨a, .head _, hb⟩
      · obtain ⟨x, e1, e2⟩ := h3 y hy
        exact ⟨x, .tail _ e1, e2⟩

def rawQ : Shape := .struct [.int .i8, .int .i8, .int .u8]

theorem rawQ_ok {ts : List Tree} (h : rawQ.ok ts) : ∃ x : RW, ts = x.row ∧ x.ok := by
  obtain ⟨_, _, rfl, ⟨a, rfl, ha⟩, _, _, rfl, ⟨b, rfl, hb⟩, _, _, rfl, ⟨c, rfl, hc⟩, rfl⟩ := h
  have ha := bd_i8 ha
  have hb := bd_i8 hb
  have hc := bd_u8 hc
  exact ⟨⟨a, b, c⟩, rfl, ha.1, ha.2, hb.1, hb.2, hc.1, hc.2⟩

end Go.Proofs.YtdhidmcjglokcaaGreat
end

section
set_option linter.unusedVariables false
set_option linter.unusedSimpArgs false
set_option maxHeartbeats 8000000
set_option linter.unusedVariables false
set_option linter.unusedSimpArgs false
set_option maxRecDepth 100000
namespace Go.Proofs.YtdhidmcjglokcaaGreat
open Go Go.Abs Go.Abs.M Go.Proofs

theorem raws_ok (rows : Abs.Rows) (h : ∀ r ∈ rows, rawQ.ok r) : ∃ xs, rows = rwrows xs ∧ (∀ x ∈ xs, x.ok) ∧ xs.length = rows.length := by
  obtain ⟨xs, f1, f2, f3⟩ := list_ex rows fun r hr => rawQ_ok (h r hr)
  refine ⟨xs, ?_, fun x hx => by obtain ⟨_, _, q⟩ := f3 x hx; exact q.2, f1⟩
  refine List.ext_getElem? fun i => ?_
  cases hi : rows[i]? with
  | none =>
    rw [List.getElem?_eq_none]
    have := List.getElem?_eq_none_iff.1 hi
    simp [rwrows]; omega
  | some r =>
    have hlt := (List.getElem?_eq_some_iff.1 hi).1
    have hx : xs[i]? = some (xs[i]'(by omega)) := List.getElem?_eq_getElem (by omega)
    have := (f2 i r _ hi hx).1
    simp [rwrows, hx, this]

end Go.Proofs.YtdhidmcjglokcaaGreat
end

section
set_option linter.unusedVariables false
set_option linter.unusedSimpArgs false
set_option maxHeartbeats 8000000
set_option linter.unusedVariables false
set_option linter.unusedSimpArgs false
set_option maxRecDepth 100000
namespace Go.Proofs.YtdhidmcjglokcaaGreat
open Go Go.Abs Go.Abs.M Go.Proofs

end Go.Proofs.YtdhidmcjglokcaaGreat
end

section
set_option linter.unusedVariables false
set_option linter.unusedSimpArgs false
set_option maxHeartbeats 8000000
set_option linter.unusedVariables false
set_option linter.unusedSimpArgs false
set_option maxRecDepth 100000
namespace Go.Proofs.YtdhidmcjglokcaaGreat
open Go Go.Abs Go.Abs.M Go.Proofs

theorem values_call (hsan : ACall Tryz.prog 12 [] ⟨[.val (tb true)], []⟩) (xs ys : List RW) (z : RW) (hx : ∀ x ∈ xs, x.ok) (hy : ∀ x ∈ ys, x.ok) (hz : z.ok) (l1 : xs.length < 9223372036854775808) (l2 : ys.length < 9223372036854775808) :
    ACall Tryz.prog 9 [.val (tl (rwrows xs)), .val (tl (rwrows ys)), .val (.agg z.row)] ⟨[.val (tb true)], [none, none, none]⟩ := by
  obtain ⟨P, hP, ca⟩ := pb_made xs hx 3 (by omega) l1
  obtain ⟨B, hB, cb⟩ := pb_made ys hy 3 (by omega) l2
  have hP : PB (Abs.ev P) 4 1024 P := hP
  have hB : PB (Abs.ev B) 4 1024 B := hB
  have ct := rmadeQ_call z hz
  have hts : Qs z.q 8 := madeQ_small hz.n1 hz.n2 hz.d1 hz.d2 hz.k1 hz.k2
  obtain ⟨n0, d0, k0, hzr⟩ : ∃ n d k, z.row = [.v (.int .i8 n), .v (.int .i8 d), .v (.int .u8 k)] := ⟨_, _, _, rfl⟩
  obtain ⟨t, ht⟩ : ∃ t, t = z.q := ⟨_, rfl⟩
  rw [← ht] at ct hts
  have htc := cf_of_qs hts
  obtain ⟨hv, cv⟩ := pb_eval hP htc (by omega) (by omega)
  obtain ⟨hw, cw⟩ := pb_eval hB htc (by omega) (by omega)
  have hcB : cmpB 4 1024 1024 4 = 8220 := by decide
  have hcD : cmpB 4 1034 1024 3 = 6189 := by decide
  obtain ⟨C, hC, cc⟩ := pb_compose hP hB (by omega) (by omega) (by omega) (by omega)
  rw [hcB] at hC
  have v1 := rqvalid_row hv (by omega)
  have v2 := rqvalid_row hw (by omega)
  have v3 := pb_valid hC (by omega) (by omega)
  obtain ⟨S, hS1, cs⟩ := pb_add hP hB (by omega) (by omega) (by omega)
  obtain ⟨h1, e1⟩ := pb_eval hS1 htc (by omega) (by omega)
  obtain ⟨_, a1⟩ := rqadd_row hv hw (by omega)
  have q1 := rqsame_row h1 rfl (by omega)
  obtain ⟨M, hM, cm⟩ := pb_mul 2 hP hB (by omega) (by omega) (by omega)
  obtain ⟨h2, e2⟩ := pb_eval hM htc (by omega) (by omega)
  obtain ⟨_, a2⟩ := rqmul_row hv hw (by omega)
  have q2 := rqsame_row h2 rfl (by omega)
  obtain ⟨h3, e3⟩ := pb_eval hC htc (by omega) (by omega)
  have hwc := cf_of_qs hw
  obtain ⟨h4, e4⟩ := pb_eval hP hwc (by omega) (by omega)
  have q3 := rqsame_row h3 rfl (by omega)
  obtain ⟨D, hD, cd⟩ := pb_derive hP (by omega) (by omega)
  obtain ⟨E, hE, ce⟩ := pb_derive hB (by omega) (by omega)
  obtain ⟨M1, hM1, cm1⟩ := pb_mul 2 hD hB (by omega) (by omega) (by omega)
  obtain ⟨M2, hM2, cm2⟩ := pb_mul 2 hP hE (by omega) (by omega) (by omega)
  obtain ⟨K, hK, ck⟩ := pb_add hM1 hM2 (by omega) (by omega) (by omega)
  obtain ⟨DS, hDS, cds⟩ := pb_derive hS1 (by omega) (by omega)
  obtain ⟨DE, hDE, cde⟩ := pb_add hD hE (by omega) (by omega) (by omega)
  have s1 := pb_same hDS hDE (fun x => evd_add hS1.ev x) (by omega) (by omega) (by omega)
  obtain ⟨DM, hDM, cdm⟩ := pb_derive hM (by omega) (by omega)
  have s2 := pb_same hDM hK (fun x => evd_mul hM.ev x) (by omega) (by omega) (by omega)
  obtain ⟨DC, hDC, cdc⟩ := pb_derive hC (by omega) (by omega)
  obtain ⟨CD, hCD, ccd⟩ := pb_compose hD hB (by omega) (by omega) (by rw [show (4 - 1 : Nat) = 3 from rfl, show (1024 + 10 : Nat) = 1034 from rfl]; omega) (by omega)
  rw [show (4 - 1 : Nat) = 3 from rfl, show (1024 + 10 : Nat) = 1034 from rfl, hcD] at hCD
  obtain ⟨M3, hM3, cm3⟩ := pb_mul 4 hCD hE (by omega) (by omega) (by omega)
  have s3 := pb_same hDC hM3 (fun x => evd_comp hC.ev x) (by omega) (by omega) (by omega)
  have w0 := rqwhole_row 0 (by omega) (by omega)
  rw [show ((0 : Int) : Rat) = 0 from rfl] at w0
  have hz0 : CF 1 (fun _ => (0 : Rat)) := CF.zero 1
  obtain ⟨h5, e5⟩ := pb_eval hP hz0 (by omega) (by omega)
  have hvc := cf_of_qs hv
  obtain ⟨G, hG, cg⟩ := pb_const hvc
  obtain ⟨T, hT, cT⟩ := pb_sub hP hG (by omega) (by omega) (by omega)
  obtain ⟨h6, e6⟩ := pb_eval hT hz0 (by omega) (by omega)
  obtain ⟨h7, a7⟩ := rqadd_row h6 hv (by omega)
  have q4 := rqsame_row (y := Abs.ev P 0 - Abs.ev P t + Abs.ev P t) h5 (by grind) (by omega)
  obtain ⟨sg, tg, rg, pg, hrow, _⟩ := qrow t
  obtain ⟨sv, tv, rv, pv, hrv, _⟩ := qrow (Abs.ev P t)
  obtain ⟨sw, tw, rw', pw, hrw, _⟩ := qrow (Abs.ev B t)
  obtain ⟨s0, t0, r0, p0, hr0, _⟩ := qrow 0
  clear hP hB hC hS1 hM hD hE hM1 hM2 hK hDS hDE hDM hDC hCD hM3 hG hT hts htc hv hw h1 h2 h3 hwc h4 h5 hvc h6 h7 hz0 ht hcB hcD
  rw [hzr] at ct ⊢
  rw [hrow] at ct cv cw e1 e2 e3
  rw [hrv] at cv v1 a1 a2 cg a7
  rw [hrw] at cw v2 a1 a2 e4
  rw [hr0] at w0 e5 e6
  obtain ⟨sx0, tx0, rx0, px0, hx0, _⟩ := qrow (Abs.ev P t + Abs.ev B t)
  rw [hx0] at a1 e1 q1
  obtain ⟨sx1, tx1, rx1, px1, hx1, _⟩ := qrow (Abs.ev P t * Abs.ev B t)
  rw [hx1] at a2 e2 q2
  obtain ⟨sx2, tx2, rx2, px2, hx2, _⟩ := qrow (Abs.ev P (Abs.ev B t))
  rw [hx2] at e3 e4 q3
  obtain ⟨sx3, tx3, rx3, px3, hx3, _⟩ := qrow (Abs.ev P 0 - Abs.ev P t + Abs.ev P t)
  rw [hx3] at a7 q4
  obtain ⟨sx4, tx4, rx4, px4, hx4, _⟩ := qrow (Abs.ev P 0 - Abs.ev P t)
  rw [hx4] at e6 a7
  obtain ⟨sx5, tx5, rx5, px5, hx5, _⟩ := qrow (Abs.ev P 0)
  rw [hx5] at e5 q4
  generalize rwrows xs = X at *
  generalize rwrows ys = Y at *
  generalize ur P = UP at *
  generalize ur B = UB at *
  generalize ur C = UC at *
  generalize ur S = US at *
  generalize ur M = UM at *
  generalize ur D = UD at *
  generalize ur E = UE at *
  generalize ur M1 = UM1 at *
  generalize ur M2 = UM2 at *
  generalize ur K = UK at *
  generalize ur DS = UDS at *
  generalize ur DE = UDE at *
  generalize ur DM = UDM at *
  generalize ur DC = UDC at *
  generalize ur CD = UCD at *
  generalize ur M3 = UM3 at *
  generalize ur G = UG at *
  generalize ur T = UT at *
  refine callZ ccOk mixed [.val] Tryz.func9 rfl rfl (by kernel_rfl) fun zwrap zadd zsub zmul zquo zrem zshl zshr zband zbor zbxor zbandn zeq zne zlt zle znot zbeq zbne zmax zmin znat zinb zofN zidx zneq znadd zdif zcut zroom zmkok zlen znth zsetr zisI zgetI zsetI zfit zpart zext zsetg zrep zwide zall zmok zmget zmset zW zth A L F hS hF => ?_
  have y1 : znot true = false := hS.not true
  cbv
  refine ⟨_, hS.call (hsan), ?_⟩
  cbv
  refine bF (y1) ?_
  refine ⟨_, hS.call (ca), ?_⟩
  cbv
  refine ⟨_, hS.call (cb), ?_⟩
  cbv
  refine ⟨_, hS.call (ct), ?_⟩
  cbv
  refine ⟨_, hS.call (cv), ?_⟩
  cbv
  refine ⟨_, hS.call (cw), ?_⟩
  cbv
  refine ⟨_, hS.call (cc), ?_⟩
  cbv
  refine ⟨_, hS.call (v1), ?_⟩
  cbv
  refine bF (y1) ?_
  refine ⟨_, hS.call (v2), ?_⟩
  cbv
  refine bF (y1) ?_
  refine ⟨_, hS.call (v3), ?_⟩
  cbv
  refine bF (y1) ?_
  refine ⟨_, hS.call (cs), ?_⟩
  cbv
  refine ⟨_, hS.call (e1), ?_⟩
  cbv
  refine ⟨_, hS.call (a1), ?_⟩
  cbv
  refine ⟨_, hS.call (q1), ?_⟩
  cbv
  refine bF (y1) ?_
  refine ⟨_, hS.call (cm), ?_⟩
  cbv
  refine ⟨_, hS.call (e2), ?_⟩
  cbv
  refine ⟨_, hS.call (a2), ?_⟩
  cbv
  refine ⟨_, hS.call (q2), ?_⟩
  cbv
  refine bF (y1) ?_
  refine ⟨_, hS.call (e3), ?_⟩
  cbv
  refine ⟨_, hS.call (e4), ?_⟩
  cbv
  refine ⟨_, hS.call (q3), ?_⟩
  cbv
  refine bF (y1) ?_
  refine ⟨_, hS.call (cd), ?_⟩
  cbv
  refine ⟨_, hS.call (ce), ?_⟩
  cbv
  refine ⟨_, hS.call (cm1), ?_⟩
  cbv
  refine ⟨_, hS.call (cm2), ?_⟩
  cbv
  refine ⟨_, hS.call (ck), ?_⟩
  cbv
  refine bT ((rfl : true = true)) ?_
  refine ⟨_, hS.call (cs), ?_⟩
  cbv
  refine ⟨_, hS.call (cds), ?_⟩
  cbv
  refine ⟨_, hS.call (cde), ?_⟩
  cbv
  refine ⟨_, hS.call (s1), ?_⟩
  cbv
  refine bT ((rfl : true = true)) ?_
  refine ⟨_, hS.call (cm), ?_⟩
  cbv
  refine ⟨_, hS.call (cdm), ?_⟩
  cbv
  refine ⟨_, hS.call (s2), ?_⟩
  cbv
  refine bT ((rfl : true = true)) ?_
  refine ⟨_, hS.call (cdc), ?_⟩
  cbv
  refine ⟨_, hS.call (ccd), ?_⟩
  cbv
  refine ⟨_, hS.call (cm3), ?_⟩
  cbv
  refine ⟨_, hS.call (s3), ?_⟩
  cbv
  refine bT ((rfl : true = true)) ?_
  refine ⟨_, hS.call (w0), ?_⟩
  cbv
  refine ⟨_, hS.call (e5), ?_⟩
  cbv
  refine ⟨_, hS.call (cg), ?_⟩
  cbv
  refine ⟨_, hS.call (cT), ?_⟩
  cbv
  refine ⟨_, hS.call (w0), ?_⟩
  cbv
  refine ⟨_, hS.call (e6), ?_⟩
  cbv
  refine ⟨_, hS.call (a7), ?_⟩
  cbv
  refine ⟨_, hS.call (q4), ?_⟩
  cbv
  exact hF _ (ResLe.refl _)
theorem values_row (hsan : ACall Tryz.prog 12 [] ⟨[.val (tb true)], []⟩)
    (tss : List (List Tree)) (h : okAll [.slice rawQ, .slice rawQ, rawQ] tss) :
    ACall Tryz.prog 9 ((tvs [.slice rawQ, .slice rawQ, rawQ] tss).map .val) ⟨[.val (tb true)], [none, none, none]⟩ := by
  obtain ⟨_, _, rfl, ⟨cp, rows, rfl, n1, h1⟩, _, _, rfl, ⟨cp2, rows2, rfl, n2, h2⟩, _, _, rfl, h3, rfl⟩ := h
  obtain ⟨xs, rfl, x1, x2⟩ := raws_ok rows h1
  obtain ⟨ys, rfl, y1, y2⟩ := raws_ok rows2 h2
  obtain ⟨z, rfl, hz⟩ := rawQ_ok h3
  have c := values_call hsan xs ys z x1 y1 hz (by omega) (by omega)
  have hle : ArgsLe [.val (.c (.lst cp (rwrows xs))), .val (.c (.lst cp2 (rwrows ys))), .val (.agg z.row)] [.val (tl (rwrows xs)), .val (tl (rwrows ys)), .val (.agg z.row)] := ⟨TLe.drop _ _, TLe.drop _ _, show TVLe (.agg z.row) (.agg z.row) from TVLe.refl _, trivial⟩
  exact ACall.weak hle (ResLe.refl _) c
end Go.Proofs.YtdhidmcjglokcaaGreat
end

section
set_option linter.unusedVariables false
set_option linter.unusedSimpArgs false
/-
  The abstract layer: calls whose arguments are given, one function at a time; what a function calls is looked up among what was shown before.
-/
set_option linter.unusedSimpArgs false
set_option linter.unusedVariables false
namespace Go.Abs

/-- The interpreter for one function; its calls are asked of 'call'. -/
def execBody (P : Program) (C : Cfg) (om : FuncId → List Mode) (call : FuncId → List Arg → Option Res) (n : Nat) (f : FuncId) (args : List Arg) : Option Res :=
  match P.funcs[f]? with
  | some fn =>
    if fn.name == "runtime.NumGoroutine" then none else
    match fn.body with
    | some c =>
      match execCode C call n c (startSt args fn.ntmps) with
      | some (.normal, s) => finish C s args fn.results.toList (om f)
      | some (.ret, s) => finish C s args fn.results.toList (om f)
      | _ => none
    | none => none
  | none => none

mutual
def eqT : Tree → Tree → Bool
  | .v x, .v y => match x, y with
    | .int k a, .int k' b => decide (k = k') && decide (a = b)
    | .bool a, .bool b => decide (a = b)
    | .string a, .string b => decide (a.data.toList = b.data.toList)
    | .func (.func f) ⟨[]⟩ ⟨[]⟩, .func (.func g) ⟨[]⟩ ⟨[]⟩ => decide (f = g)
    | _, _ => false
  | .lst c l, .lst c' l' => decide (c = c') && eqRR l l'
  | _, _ => false
def eqTs : List Tree → List Tree → Bool
  | [], [] => true
  | x :: xs, y :: ys => eqT x y && eqTs xs ys
  | _, _ => false
def eqRR : List (List Tree) → List (List Tree) → Bool
  | [], [] => true
  | x :: xs, y :: ys => eqTs x y && eqRR xs ys
  | _, _ => false
end

mutual
theorem eqT_eq : ∀ {x y : Tree}, eqT x y = true → x = y
  | .v x, .v y, h => by
    unfold eqT at h
    split at h
    · simp only [Bool.and_eq_true, decide_eq_true_eq] at h; rw [h.1, h.2]
    · rw [of_decide_eq_true h]
    · rename_i a b
      have := of_decide_eq_true h
      have e : a = b := by
        cases a with | mk da => cases b with | mk db => exact congrArg ByteArray.mk (Array.ext' this)
      rw [e]
    · rw [of_decide_eq_true h]
    · cases h
  | .lst c l, .lst c' l', h => by
    unfold eqT at h
    simp only [Bool.and_eq_true, decide_eq_true_eq] at h
    rw [h.1, eqRR_eq h.2]
  | .v _, .lst _ _, h => by unfold eqT at h; cases h
  | .lst _ _, .v _, h => by unfold eqT at h; cases h
theorem eqTs_eq : ∀ {x y : List Tree}, eqTs x y = true → x = y
  | [], [], _ => rfl
  | x :: xs, y :: ys, h => by
    unfold eqTs at h
    simp only [Bool.and_eq_true] at h
    rw [eqT_eq h.1, eqTs_eq h.2]
  | [], _ :: _, h => by unfold eqTs at h; cases h
  | _ :: _, [], h => by unfold eqTs at h; cases h
theorem eqRR_eq : ∀ {x y : List (List Tree)}, eqRR x y = true → x = y
  | [], [], _ => rfl
  | x :: xs, y :: ys, h => by
    unfold eqRR at h
    simp only [Bool.and_eq_true] at h
    rw [eqTs_eq h.1, eqRR_eq h.2]
  | [], _ :: _, h => by unfold eqRR at h; cases h
  | _ :: _, [], h => by unfold eqRR at h; cases h
end

def eqArg : Arg → Arg → Bool
  | .val (.c x), .val (.c y) => eqT x y
  | .val (.agg x), .val (.agg y) => eqTs x y
  | .bor s x, .bor s' y => decide (s = s') && eqRR x y
  | .own s x, .own s' y => decide (s = s') && eqRR x y
  | .ref x, .ref y => eqTs x y
  | .gh x, .gh y => eqTs x y
  | .clo f x, .clo g y => decide (f = g) && decide (x = y)
  | _, _ => false

theorem eqArg_eq {x y : Arg} (h : eqArg x y = true) : x = y := by
  unfold eqArg at h
  split at h
  · rw [eqT_eq h]
  · rw [eqTs_eq h]
  · simp only [Bool.and_eq_true, decide_eq_true_eq] at h; rw [h.1, eqRR_eq h.2]
  · simp only [Bool.and_eq_true, decide_eq_true_eq] at h; rw [h.1, eqRR_eq h.2]
  · rw [eqTs_eq h]
  · rw [eqTs_eq h]
  · simp only [Bool.and_eq_true, decide_eq_true_eq] at h; rw [h.1, h.2]
  · cases h

def eqArgs : List Arg → List Arg → Bool
  | [], [] => true
  | x :: xs, y :: ys => eqArg x y && eqArgs xs ys
  | _, _ => false

theorem eqArgs_eq : ∀ {x y : List Arg}, eqArgs x y = true → x = y
  | [], [], _ => rfl
  | x :: xs, y :: ys, h => by
    unfold eqArgs at h
    simp only [Bool.and_eq_true] at h
    rw [eqArg_eq h.1, eqArgs_eq h.2]
  | [], _ :: _, h => by cases h
  | _ :: _, [], h => by cases h

/-- Calls that were shown. -/
inductive Known (P : Program) : List (FuncId × List Arg × Res) → Prop where
  | nil : Known P []
  | cons {f : FuncId} {args : List Arg} {res : Res} {l : List (FuncId × List Arg × Res)} (h : ACall P f args res) (t : Known P l) : Known P ((f, args, res) :: l)

def findK : List (FuncId × List Arg × Res) → FuncId → List Arg → Option Res
  | [], _, _ => none
  | (f, aas, r) :: l, g, bs => match Nat.beq f g with
    | true => match eqArgs aas bs with
      | true => some r
      | false => findK l g bs
    | false => findK l g bs

theorem Known.find {P : Program} {l : List (FuncId × List Arg × Res)} (h : Known P l) : ∀ f aas res, findK l f aas = some res → ACall P f aas res := by
  induction h with
  | nil => intro f aas res h; cases h
  | cons h t ih =>
    rename_i f args r l
    intro g bs res hr
    unfold findK at hr
    split at hr
    · rename_i h1
      split at hr
      · rename_i h2
        cases hr
        obtain rfl := Nat.eq_of_beq_eq_true h1
        obtain rfl := eqArgs_eq h2
        exact h
      · exact ih _ _ _ hr
    · exact ih _ _ _ hr

theorem execBody_sound {P : Program} {C : Cfg} {om : FuncId → List Mode} (hC : CfgOk P C) (hmix : P.follows .mixedOrders = true) {l : List (FuncId × List Arg × Res)} (hl : Known P l) {n : Nat} {f : FuncId} {args : List Arg} {res : Res}
    (h : execBody P C om (findK l) n f args = some res) : ACall P f args res := by
  unfold execBody at h
  split at h
  · rename_i fn hfn
    split at h
    · cases h
    · rename_i hname
      split at h
      · rename_i c hbody
        refine ACall.of_body hC hfn (by simpa using hname) hbody (om := om f) ?_
        split at h
        · rename_i s h1
          exact execCode_sound hC hmix hl.find n c _ h1 ⟨.inl rfl, h⟩
        · rename_i s h1
          exact execCode_sound hC hmix hl.find n c _ h1 ⟨.inr rfl, h⟩
        · cases h
      · cases h
  · cases h
end Go.Abs
end

section
set_option linter.unusedVariables false
set_option linter.unusedSimpArgs false
/-
  A closed call, one function at a time, part 1 (printed by a program of mine).
-/
set_option maxRecDepth 100000
set_option maxHeartbeats 0
namespace Go.Proofs.YtdhidmcjglokcaaGreat.Mem
open Go Go.Abs Go.Proofs
def u (n : Int) : List Tree := [.v (.int .u32 n)]
def n64 (n : Int) : Tree := .v (.int .i64 n)
def w64 (n : Int) : Tree := .v (.int .u64 n)
def bT : Tree := .v (.bool true)
def bF : Tree := .v (.bool false)
def lF (l : List (List Tree)) : Tree := .lst false l
def lT (l : List (List Tree)) : Tree := .lst true l
def l1 : Tree := .lst false [u 1]
noncomputable def om : FuncId → List Abs.Mode := omOf Tryz.prog [(62, [.own 4])]
theorem ex {l : List (FuncId × List Arg × Res)} {f : FuncId} {args : List Arg} {res : Res} (hl : Known Tryz.prog l) (h : execBody Tryz.prog CC om (findK l) 100000 f args = some res) : ACall Tryz.prog f args res := execBody_sound ccOk mixed hl h
theorem k0 : ACall Tryz.prog 120 [.val (.c (lF [u 1, u 0]))] ⟨[.val (.c (l1))], [none]⟩ := ex (.nil) (by kernel_rfl)
theorem k1 : ACall Tryz.prog 102 [.val (.c (w64 1))] ⟨[.val (.c (l1))], [none]⟩ := ex (.cons k0 .nil) (by kernel_rfl)
theorem k2 : ACall Tryz.prog 120 [.val (.c (l1))] ⟨[.val (.c (l1))], [none]⟩ := ex (.nil) (by kernel_rfl)
theorem k3 : ACall Tryz.prog 101 [.val (.c (bF)), .val (.c (l1))] ⟨[.val (.agg [bF, l1])], [none, none]⟩ := ex (.cons k2 .nil) (by kernel_rfl)
theorem k4 : ACall Tryz.prog 66 [.val (.c (n64 1))] ⟨[.val (.agg [bF, l1])], [none]⟩ := ex (.cons k1 (.cons k3 .nil)) (by kernel_rfl)
theorem k5 : ACall Tryz.prog 22 [.val (.c (n64 1))] ⟨[.val (.agg [bF, l1, bF, l1])], [none]⟩ := ex (.cons k4 .nil) (by kernel_rfl)
theorem k6 : ACall Tryz.prog 120 [.val (.c (lF [u 0, u 0]))] ⟨[.val (.c (lF []))], [none]⟩ := ex (.nil) (by kernel_rfl)
theorem k7 : ACall Tryz.prog 102 [.val (.c (w64 0))] ⟨[.val (.c (lF []))], [none]⟩ := ex (.cons k6 .nil) (by kernel_rfl)
theorem k8 : ACall Tryz.prog 120 [.val (.c (lF []))] ⟨[.val (.c (lF []))], [none]⟩ := ex (.nil) (by kernel_rfl)
theorem k9 : ACall Tryz.prog 101 [.val (.c (bF)), .val (.c (lF []))] ⟨[.val (.agg [bF, lF []])], [none, none]⟩ := ex (.cons k8 .nil) (by kernel_rfl)
theorem k10 : ACall Tryz.prog 66 [.val (.c (n64 0))] ⟨[.val (.agg [bF, lF []])], [none]⟩ := ex (.cons k7 (.cons k9 .nil)) (by kernel_rfl)
theorem k11 : ACall Tryz.prog 22 [.val (.c (n64 0))] ⟨[.val (.agg [bF, lF [], bF, l1])], [none]⟩ := ex (.cons k10 (.cons k4 .nil)) (by kernel_rfl)
theorem k12 : ACall Tryz.prog 91 [.val (.agg [bF, l1])] ⟨[.val (.c (n64 1))], [none]⟩ := ex (.nil) (by kernel_rfl)
theorem k13 : ACall Tryz.prog 53 [.val (.agg [bF, l1, bF, l1])] ⟨[.val (.c (n64 1))], [none]⟩ := ex (.cons k12 .nil) (by kernel_rfl)
theorem k14 : ACall Tryz.prog 59 [.val (.c (lF [[bF, l1, bF, l1], [bF, lF [], bF, l1], [bF, l1, bF, l1]]))] ⟨[.val (.c (lF [[bF, l1, bF, l1], [bF, lF [], bF, l1], [bF, l1, bF, l1]]))], [none]⟩ := ex (.cons k13 .nil) (by kernel_rfl)
theorem k15 : ACall Tryz.prog 65 [.val (.c (lF [[.v (.int .i8 1)], [.v (.int .i8 0)], [.v (.int .i8 1)]])), .val (.c (n64 20))] ⟨[.val (.c (lF [[bF, l1, bF, l1], [bF, lF [], bF, l1], [bF, l1, bF, l1]]))], [none, none]⟩ := ex (.cons k5 (.cons k11 (.cons k14 .nil))) (by kernel_rfl)
theorem k16 : ACall Tryz.prog 20 [.val (.c (lF [[.v (.int .i8 1)], [.v (.int .i8 0)], [.v (.int .i8 1)]]))] ⟨[.val (.c (lF [[bF, l1, bF, l1], [bF, lF [], bF, l1], [bF, l1, bF, l1]]))], [none]⟩ := ex (.cons k15 .nil) (by kernel_rfl)
theorem k17 : ACall Tryz.prog 120 [.val (.c (lF [u 2, u 0]))] ⟨[.val (.c (lF [u 2]))], [none]⟩ := ex (.nil) (by kernel_rfl)
theorem k18 : ACall Tryz.prog 102 [.val (.c (w64 2))] ⟨[.val (.c (lF [u 2]))], [none]⟩ := ex (.cons k17 .nil) (by kernel_rfl)
theorem k19 : ACall Tryz.prog 120 [.val (.c (lF [u 2]))] ⟨[.val (.c (lF [u 2]))], [none]⟩ := ex (.nil) (by kernel_rfl)
theorem k20 : ACall Tryz.prog 101 [.val (.c (bF)), .val (.c (lF [u 2]))] ⟨[.val (.agg [bF, lF [u 2]])], [none, none]⟩ := ex (.cons k19 .nil) (by kernel_rfl)
theorem k21 : ACall Tryz.prog 66 [.val (.c (n64 2))] ⟨[.val (.agg [bF, lF [u 2]])], [none]⟩ := ex (.cons k18 (.cons k20 .nil)) (by kernel_rfl)
theorem k22 : ACall Tryz.prog 22 [.val (.c (n64 2))] ⟨[.val (.agg [bF, lF [u 2], bF, l1])], [none]⟩ := ex (.cons k21 (.cons k4 .nil)) (by kernel_rfl)
theorem k23 : ACall Tryz.prog 91 [.val (.agg [bF, lF [u 2]])] ⟨[.val (.c (n64 1))], [none]⟩ := ex (.nil) (by kernel_rfl)
theorem k24 : ACall Tryz.prog 53 [.val (.agg [bF, lF [u 2], bF, l1])] ⟨[.val (.c (n64 1))], [none]⟩ := ex (.cons k23 .nil) (by kernel_rfl)
theorem k25 : ACall Tryz.prog 59 [.val (.c (lF [[bF, lF [], bF, l1], [bF, lF [u 2], bF, l1]]))] ⟨[.val (.c (lF [[bF, lF [], bF, l1], [bF, lF [u 2], bF, l1]]))], [none]⟩ := ex (.cons k24 .nil) (by kernel_rfl)
theorem k26 : ACall Tryz.prog 65 [.val (.c (lF [[.v (.int .i8 0)], [.v (.int .i8 2)]])), .val (.c (n64 20))] ⟨[.val (.c (lF [[bF, lF [], bF, l1], [bF, lF [u 2], bF, l1]]))], [none, none]⟩ := ex (.cons k11 (.cons k22 (.cons k25 .nil))) (by kernel_rfl)
theorem k27 : ACall Tryz.prog 20 [.val (.c (lF [[.v (.int .i8 0)], [.v (.int .i8 2)]]))] ⟨[.val (.c (lF [[bF, lF [], bF, l1], [bF, lF [u 2], bF, l1]]))], [none]⟩ := ex (.cons k26 .nil) (by kernel_rfl)
theorem k28 : ACall Tryz.prog 96 [.val (.agg [bF, lF [u 2]])] ⟨[.val (.c (n64 1))], [none]⟩ := ex (.nil) (by kernel_rfl)
theorem k29 : ACall Tryz.prog 67 [.val (.agg [bF, lF [u 2], bF, l1])] ⟨[.val (.agg [bF, l1, bF, lF [u 2]]), .val (.c (n64 0))], [none]⟩ := ex (.cons k28 .nil) (by kernel_rfl)
theorem k30 : ACall Tryz.prog 115 [.val (.c (lF [u 0, u 0]))] ⟨[.val (.c (lF []))], [none]⟩ := ex (.nil) (by kernel_rfl)
theorem k31 : ACall Tryz.prog 118 [.val (.c (w64 0))] ⟨[.val (.c (lF []))], [none]⟩ := ex (.cons k30 .nil) (by kernel_rfl)
theorem k32 : ACall Tryz.prog 115 [.val (.c (lF []))] ⟨[.val (.c (lF []))], [none]⟩ := ex (.nil) (by kernel_rfl)
theorem k33 : ACall Tryz.prog 117 [.val (.c (bF)), .val (.c (lF []))] ⟨[.val (.agg [bF, lT []])], [none, none]⟩ := ex (.cons k32 .nil) (by kernel_rfl)
theorem k34 : ACall Tryz.prog 100 [.val (.c (n64 0))] ⟨[.val (.agg [bF, lT []])], [none]⟩ := ex (.cons k31 (.cons k33 .nil)) (by kernel_rfl)
theorem k35 : ACall Tryz.prog 115 [.val (.c (lF [u 1, u 0]))] ⟨[.val (.c (l1))], [none]⟩ := ex (.nil) (by kernel_rfl)
theorem k36 : ACall Tryz.prog 118 [.val (.c (w64 1))] ⟨[.val (.c (l1))], [none]⟩ := ex (.cons k35 .nil) (by kernel_rfl)
theorem k37 : ACall Tryz.prog 115 [.val (.c (l1))] ⟨[.val (.c (l1))], [none]⟩ := ex (.nil) (by kernel_rfl)
theorem k38 : ACall Tryz.prog 117 [.val (.c (bF)), .val (.c (l1))] ⟨[.val (.agg [bF, l1])], [none, none]⟩ := ex (.cons k37 .nil) (by kernel_rfl)
theorem k39 : ACall Tryz.prog 100 [.val (.c (n64 1))] ⟨[.val (.agg [bF, l1])], [none]⟩ := ex (.cons k36 (.cons k38 .nil)) (by kernel_rfl)
theorem k40 : ACall Tryz.prog 99 [.val (.agg [bF, lT []])] ⟨[.val (.agg [bF, lT [], bF, l1])], [none]⟩ := ex (.cons k39 .nil) (by kernel_rfl)
theorem k41 : ACall Tryz.prog 61 [.val (.c (n64 0))] ⟨[.val (.agg [bF, lT [], bF, l1])], [none]⟩ := ex (.cons k34 (.cons k40 .nil)) (by kernel_rfl)
theorem k42 : ACall Tryz.prog 62 [.val (.c (n64 2))] ⟨[.own 4 [[bF, lT [], bF, l1], [bF, lT [], bF, l1]]], [none]⟩ := ex (.cons k41 .nil) (by kernel_rfl)
theorem k43 : ACall Tryz.prog 97 [.val (.agg [bF, lF [u 2]])] ⟨[.val (.c (bF))], [none]⟩ := ex (.nil) (by kernel_rfl)
theorem k44 : ACall Tryz.prog 114 [.val (.c (l1))] ⟨[.val (.c (l1))], [none]⟩ := ex (.nil) (by kernel_rfl)
theorem k45 : ACall Tryz.prog 115 [.val (.c (lF [u 2]))] ⟨[.val (.c (lF [u 2]))], [none]⟩ := ex (.nil) (by kernel_rfl)
theorem k46 : ACall Tryz.prog 114 [.val (.c (lF [u 2]))] ⟨[.val (.c (lF [u 2]))], [none]⟩ := ex (.nil) (by kernel_rfl)
theorem k47 : ACall Tryz.prog 116 [.val (.c (l1))] ⟨[.val (.c (w64 1))], [none]⟩ := ex (.nil) (by kernel_rfl)
theorem k48 : ACall Tryz.prog 116 [.val (.c (lF [u 2]))] ⟨[.val (.c (w64 2))], [none]⟩ := ex (.nil) (by kernel_rfl)
theorem k49 : ACall Tryz.prog 98 [.val (.agg [bF, l1]), .val (.agg [bF, lF [u 2]])] ⟨[.val (.agg [bF, l1])], [none, none]⟩ := ex (.cons k37 (.cons k44 (.cons k45 (.cons k46 (.cons k47 (.cons k48 (.cons k36 (.cons k38 .nil)))))))) (by kernel_rfl)
theorem k50 : ACall Tryz.prog 97 [.val (.agg [bF, l1])] ⟨[.val (.c (bT))], [none]⟩ := ex (.nil) (by kernel_rfl)
theorem k51 : ACall Tryz.prog 104 [.val (.agg [bF, l1]), .val (.agg [bF, lF [u 2]])] ⟨[.val (.agg [bF, l1, bF, lF [u 2]])], [none, none]⟩ := ex (.cons k43 (.cons k49 (.cons k50 .nil))) (by kernel_rfl)
theorem k52 : ACall Tryz.prog 104 [.val (.agg [bF, l1]), .val (.agg [bF, l1])] ⟨[.val (.agg [bF, l1, bF, l1])], [none, none]⟩ := ex (.cons k50 .nil) (by kernel_rfl)
theorem k53 : ACall Tryz.prog 105 [.val (.c (lF [[bF, l1], [bF, l1]]))] ⟨[.val (.agg [bF, l1])], [none]⟩ := ex (.cons k39 (.cons k50 .nil)) (by kernel_rfl)
theorem k54 : ACall Tryz.prog 105 [.val (.c (lF [[bF, lF [u 2]], [bF, l1]]))] ⟨[.val (.agg [bF, lF [u 2]])], [none]⟩ := ex (.cons k39 (.cons k43 (.cons k50 .nil))) (by kernel_rfl)
theorem k55 : ACall Tryz.prog 68 [.val (.agg [bF, l1, bF, l1]), .val (.agg [bF, l1, bF, lF [u 2]])] ⟨[.val (.agg [bF, l1, bF, lF [u 2]])], [none, none]⟩ := ex (.cons k51 (.cons k52 (.cons k53 (.cons k54 .nil)))) (by kernel_rfl)
theorem k56 : ACall Tryz.prog 117 [.val (.c (bT)), .val (.c (l1))] ⟨[.val (.agg [bT, l1])], [none, none]⟩ := ex (.cons k37 .nil) (by kernel_rfl)
theorem k57 : ACall Tryz.prog 103 [.val (.agg [bF, l1])] ⟨[.val (.agg [bT, l1])], [none]⟩ := ex (.cons k44 (.cons k56 .nil)) (by kernel_rfl)
theorem k58 : ACall Tryz.prog 69 [.val (.agg [bF, l1, bF, lF [u 2]])] ⟨[.val (.agg [bT, l1, bF, lF [u 2]])], [none]⟩ := ex (.cons k57 .nil) (by kernel_rfl)
theorem k59 : ACall Tryz.prog 96 [.val (.agg [bT, l1])] ⟨[.val (.c (n64 (-1)))], [none]⟩ := ex (.nil) (by kernel_rfl)
theorem k60 : ACall Tryz.prog 58 [.val (.agg [bT, l1, bF, lF [u 2]])] ⟨[.val (.c (n64 (-1)))], [none]⟩ := ex (.cons k59 .nil) (by kernel_rfl)
theorem k61 : ACall Tryz.prog 96 [.val (.agg [bF, lF []])] ⟨[.val (.c (n64 0))], [none]⟩ := ex (.nil) (by kernel_rfl)
theorem k62 : ACall Tryz.prog 58 [.val (.agg [bF, lF [], bF, l1])] ⟨[.val (.c (n64 0))], [none]⟩ := ex (.cons k61 .nil) (by kernel_rfl)
theorem k63 : ACall Tryz.prog 58 [.val (.agg [bF, lF [u 2], bF, l1])] ⟨[.val (.c (n64 1))], [none]⟩ := ex (.cons k28 .nil) (by kernel_rfl)
theorem k64 : ACall Tryz.prog 104 [.val (.agg [bT, l1]), .val (.agg [bF, l1])] ⟨[.val (.agg [bT, l1, bF, l1])], [none, none]⟩ := ex (.cons k50 .nil) (by kernel_rfl)
theorem k65 : ACall Tryz.prog 115 [.val (.c (lF [u 2, u 0]))] ⟨[.val (.c (lF [u 2]))], [none]⟩ := ex (.nil) (by kernel_rfl)
theorem k66 : ACall Tryz.prog 118 [.val (.c (w64 2))] ⟨[.val (.c (lF [u 2]))], [none]⟩ := ex (.cons k65 .nil) (by kernel_rfl)
theorem k67 : ACall Tryz.prog 117 [.val (.c (bF)), .val (.c (lF [u 2]))] ⟨[.val (.agg [bF, lF [u 2]])], [none, none]⟩ := ex (.cons k45 .nil) (by kernel_rfl)
theorem k68 : ACall Tryz.prog 98 [.val (.agg [bF, lF [u 2]]), .val (.agg [bF, lF [u 2]])] ⟨[.val (.agg [bF, lF [u 2]])], [none, none]⟩ := ex (.cons k45 (.cons k46 (.cons k48 (.cons k66 (.cons k67 .nil))))) (by kernel_rfl)
theorem k69 : ACall Tryz.prog 126 [.val (.c (lF [u 2])), .val (.c (lF [u 2]))] ⟨[.val (.c (n64 0))], [none, none]⟩ := ex (.nil) (by kernel_rfl)
theorem k70 : ACall Tryz.prog 131 [.val (.c (lF [u 2])), .val (.c (w64 2))] ⟨[.val (.c (l1)), .val (.c (w64 0))], [none, none]⟩ := ex (.cons k37 .nil) (by kernel_rfl)
theorem k71 : ACall Tryz.prog 119 [.val (.c (lF [u 2])), .val (.c (lF [u 2]))] ⟨[.val (.c (l1)), .val (.c (lF []))], [none, none]⟩ := ex (.cons k45 (.cons k69 (.cons k70 (.cons k31 .nil)))) (by kernel_rfl)
theorem k72 : ACall Tryz.prog 121 [.val (.agg [bF, lF [u 2]]), .val (.agg [bF, lF [u 2]])] ⟨[.val (.agg [bF, l1]), .val (.agg [bF, lT []]), .val (.c (n64 0))], [none, none]⟩ := ex (.cons k45 (.cons k71 (.cons k38 (.cons k33 .nil)))) (by kernel_rfl)
theorem k73 : ACall Tryz.prog 104 [.val (.agg [bF, lF [u 2]]), .val (.agg [bF, lF [u 2]])] ⟨[.val (.agg [bF, l1, bF, l1])], [none, none]⟩ := ex (.cons k43 (.cons k68 (.cons k72 .nil))) (by kernel_rfl)
theorem k74 : ACall Tryz.prog 97 [.val (.agg [bT, l1])] ⟨[.val (.c (bF))], [none]⟩ := ex (.nil) (by kernel_rfl)
theorem k75 : ACall Tryz.prog 105 [.val (.c (lF [[bT, l1], [bF, l1]]))] ⟨[.val (.agg [bT, l1])], [none]⟩ := ex (.cons k39 (.cons k74 (.cons k50 .nil))) (by kernel_rfl)
theorem k76 : ACall Tryz.prog 68 [.val (.agg [bT, l1, bF, lF [u 2]]), .val (.agg [bF, lF [u 2], bF, l1])] ⟨[.val (.agg [bT, l1, bF, l1])], [none, none]⟩ := ex (.cons k64 (.cons k73 (.cons k75 (.cons k53 .nil)))) (by kernel_rfl)
theorem k77 : ACall Tryz.prog 126 [.val (.c (l1)), .val (.c (l1))] ⟨[.val (.c (n64 0))], [none, none]⟩ := ex (.nil) (by kernel_rfl)
theorem k78 : ACall Tryz.prog 115 [.val (.c (lF [u 0]))] ⟨[.val (.c (lF []))], [none]⟩ := ex (.nil) (by kernel_rfl)
theorem k79 : ACall Tryz.prog 127 [.val (.c (l1)), .val (.c (l1))] ⟨[.val (.c (lF []))], [none, none]⟩ := ex (.cons k78 .nil) (by kernel_rfl)
theorem k80 : ACall Tryz.prog 112 [.val (.agg [bF, l1]), .val (.agg [bT, l1])] ⟨[.val (.agg [bF, lT []])], [none, none]⟩ := ex (.cons k77 (.cons k79 (.cons k33 .nil))) (by kernel_rfl)
theorem k81 : ACall Tryz.prog 104 [.val (.agg [bF, lT []]), .val (.agg [bF, l1])] ⟨[.val (.agg [bF, lT [], bF, l1])], [none, none]⟩ := ex (.cons k50 .nil) (by kernel_rfl)
theorem k82 : ACall Tryz.prog 87 [.val (.agg [bF, l1, bF, l1]), .val (.agg [bT, l1, bF, l1])] ⟨[.val (.agg [bF, lT [], bF, l1])], [none, none]⟩ := ex (.cons k53 (.cons k75 (.cons k80 (.cons k81 .nil)))) (by kernel_rfl)
theorem k83 : ACall Tryz.prog 63 [.bor 4 [[bF, l1, bF, l1], [bF, lF [], bF, l1], [bF, l1, bF, l1]], .val (.agg [bT, l1, bF, lF [u 2]]), .val (.c (lF [[bF, lF [], bF, l1], [bF, lF [u 2], bF, l1]])), .val (.c (n64 1))] ⟨[], [some (.rows 4 [[bF, l1, bF, l1], [bF, lF [], bF, l1], [bF, lT [], bF, l1]] false false), none, none, none]⟩ := ex (.cons k60 (.cons k62 (.cons k63 (.cons k76 (.cons k82 .nil))))) (by kernel_rfl)
theorem k84 : ACall Tryz.prog 114 [.val (.c (lF []))] ⟨[.val (.c (lT []))], [none]⟩ := ex (.nil) (by kernel_rfl)
theorem k85 : ACall Tryz.prog 116 [.val (.c (lT []))] ⟨[.val (.c (w64 0))], [none]⟩ := ex (.nil) (by kernel_rfl)
theorem k86 : ACall Tryz.prog 98 [.val (.agg [bF, lF []]), .val (.agg [bF, lF [u 2]])] ⟨[.val (.agg [bF, lF [u 2]])], [none, none]⟩ := ex (.cons k32 (.cons k84 (.cons k45 (.cons k46 (.cons k85 (.cons k48 (.cons k66 (.cons k67 .nil)))))))) (by kernel_rfl)
theorem k87 : ACall Tryz.prog 126 [.val (.c (lF [])), .val (.c (lF [u 2]))] ⟨[.val (.c (n64 (-1)))], [none, none]⟩ := ex (.nil) (by kernel_rfl)
theorem k88 : ACall Tryz.prog 119 [.val (.c (lF [])), .val (.c (lF [u 2]))] ⟨[.val (.c (lT [])), .val (.c (lT []))], [none, none]⟩ := ex (.cons k32 (.cons k45 (.cons k87 (.cons k84 .nil)))) (by kernel_rfl)
theorem k89 : ACall Tryz.prog 115 [.val (.c (lT []))] ⟨[.val (.c (lT []))], [none]⟩ := ex (.nil) (by kernel_rfl)
theorem k90 : ACall Tryz.prog 117 [.val (.c (bF)), .val (.c (lT []))] ⟨[.val (.agg [bF, lT []])], [none, none]⟩ := ex (.cons k89 .nil) (by kernel_rfl)
theorem k91 : ACall Tryz.prog 121 [.val (.agg [bF, lF []]), .val (.agg [bF, lF [u 2]])] ⟨[.val (.agg [bF, lT []]), .val (.agg [bF, lT []]), .val (.c (n64 0))], [none, none]⟩ := ex (.cons k45 (.cons k88 (.cons k90 .nil))) (by kernel_rfl)
theorem k92 : ACall Tryz.prog 104 [.val (.agg [bF, lF []]), .val (.agg [bF, lF [u 2]])] ⟨[.val (.agg [bF, lT [], bF, l1])], [none, none]⟩ := ex (.cons k43 (.cons k86 (.cons k91 (.cons k72 .nil)))) (by kernel_rfl)
theorem k93 : ACall Tryz.prog 97 [.val (.agg [bF, lT []])] ⟨[.val (.c (bF))], [none]⟩ := ex (.nil) (by kernel_rfl)
theorem k94 : ACall Tryz.prog 105 [.val (.c (lF [[bF, lT []], [bF, l1]]))] ⟨[.val (.agg [bF, lT []])], [none]⟩ := ex (.cons k39 (.cons k93 (.cons k50 .nil))) (by kernel_rfl)
theorem k95 : ACall Tryz.prog 68 [.val (.agg [bF, lF [], bF, l1]), .val (.agg [bF, l1, bF, lF [u 2]])] ⟨[.val (.agg [bF, lT [], bF, l1])], [none, none]⟩ := ex (.cons k92 (.cons k52 (.cons k94 (.cons k53 .nil)))) (by kernel_rfl)
theorem k96 : ACall Tryz.prog 114 [.val (.c (lT []))] ⟨[.val (.c (lT []))], [none]⟩ := ex (.nil) (by kernel_rfl)
theorem k97 : ACall Tryz.prog 117 [.val (.c (bT)), .val (.c (lT []))] ⟨[.val (.agg [bF, lT []])], [none, none]⟩ := ex (.cons k89 .nil) (by kernel_rfl)
theorem k98 : ACall Tryz.prog 103 [.val (.agg [bF, lT []])] ⟨[.val (.agg [bF, lT []])], [none]⟩ := ex (.cons k96 (.cons k97 .nil)) (by kernel_rfl)
theorem k99 : ACall Tryz.prog 69 [.val (.agg [bF, lT [], bF, l1])] ⟨[.val (.agg [bF, lT [], bF, l1])], [none]⟩ := ex (.cons k98 .nil) (by kernel_rfl)
theorem k100 : ACall Tryz.prog 96 [.val (.agg [bF, lT []])] ⟨[.val (.c (n64 0))], [none]⟩ := ex (.nil) (by kernel_rfl)
theorem k101 : ACall Tryz.prog 58 [.val (.agg [bF, lT [], bF, l1])] ⟨[.val (.c (n64 0))], [none]⟩ := ex (.cons k100 .nil) (by kernel_rfl)
theorem k102 : ACall Tryz.prog 63 [.bor 4 [[bF, l1, bF, l1], [bF, lF [], bF, l1], [bF, lT [], bF, l1]], .val (.agg [bF, lT [], bF, l1]), .val (.c (lF [[bF, lF [], bF, l1], [bF, lF [u 2], bF, l1]])), .val (.c (n64 0))] ⟨[], [some (.rows 4 [[bF, l1, bF, l1], [bF, lF [], bF, l1], [bF, lT [], bF, l1]] false false), none, none, none]⟩ := ex (.cons k101 .nil) (by kernel_rfl)
theorem k103 : ACall Tryz.prog 96 [.val (.agg [bF, l1])] ⟨[.val (.c (n64 1))], [none]⟩ := ex (.nil) (by kernel_rfl)
theorem k104 : ACall Tryz.prog 58 [.val (.agg [bF, l1, bF, lF [u 2]])] ⟨[.val (.c (n64 1))], [none]⟩ := ex (.cons k103 .nil) (by kernel_rfl)
theorem k105 : ACall Tryz.prog 64 [.val (.c (lF [[bF, lT [], bF, l1], [bF, l1, bF, lF [u 2]]]))] ⟨[.val (.c (lF [[bF, lT [], bF, l1], [bF, l1, bF, lF [u 2]]]))], [none]⟩ := ex (.cons k104 .nil) (by kernel_rfl)
theorem k106 : ACall Tryz.prog 58 [.val (.agg [bF, l1, bF, l1])] ⟨[.val (.c (n64 1))], [none]⟩ := ex (.cons k103 .nil) (by kernel_rfl)
theorem k107 : ACall Tryz.prog 64 [.val (.c (lF [[bF, l1, bF, l1]]))] ⟨[.val (.c (lF [[bF, l1, bF, l1]]))], [none]⟩ := ex (.cons k106 .nil) (by kernel_rfl)
theorem k108 : ACall Tryz.prog 23 [.val (.c (lF [[bF, l1, bF, l1], [bF, lF [], bF, l1], [bF, l1, bF, l1]])), .val (.c (lF [[bF, lF [], bF, l1], [bF, lF [u 2], bF, l1]]))] ⟨[.val (.c (lF [[bF, lT [], bF, l1], [bF, l1, bF, lF [u 2]]])), .val (.c (lF [[bF, l1, bF, l1]])), .val (.c (n64 0))], [none, none]⟩ := ex (.cons k29 (.cons k42 (.cons k55 (.cons k58 (.cons k83 (.cons k95 (.cons k99 (.cons k102 (.cons k105 (.cons k107 .nil)))))))))) (by kernel_rfl)
theorem k109 : ACall Tryz.prog 59 [.val (.c (lF [[bF, l1, bF, l1]]))] ⟨[.val (.c (lF [[bF, l1, bF, l1]]))], [none]⟩ := ex (.cons k13 .nil) (by kernel_rfl)
theorem k110 : ACall Tryz.prog 65 [.val (.c (lF [[.v (.int .i8 1)]])), .val (.c (n64 20))] ⟨[.val (.c (lF [[bF, l1, bF, l1]]))], [none, none]⟩ := ex (.cons k5 (.cons k109 .nil)) (by kernel_rfl)
theorem k111 : ACall Tryz.prog 20 [.val (.c (lF [[.v (.int .i8 1)]]))] ⟨[.val (.c (lF [[bF, l1, bF, l1]]))], [none]⟩ := ex (.cons k110 .nil) (by kernel_rfl)
theorem k112 : ACall Tryz.prog 23 [.val (.c (lF [[bF, l1, bF, l1]])), .val (.c (lT []))] ⟨[.val (.c (lT [])), .val (.c (lT [])), .val (.c (n64 10))], [none, none]⟩ := ex (.nil) (by kernel_rfl)
theorem k113 : ACall Tryz.prog 59 [.val (.c (lF [[bF, lF [], bF, l1], [bF, l1, bF, l1]]))] ⟨[.val (.c (lF [[bF, lF [], bF, l1], [bF, l1, bF, l1]]))], [none]⟩ := ex (.cons k13 .nil) (by kernel_rfl)
theorem k114 : ACall Tryz.prog 65 [.val (.c (lF [[.v (.int .i8 0)], [.v (.int .i8 1)]])), .val (.c (n64 20))] ⟨[.val (.c (lF [[bF, lF [], bF, l1], [bF, l1, bF, l1]]))], [none, none]⟩ := ex (.cons k11 (.cons k5 (.cons k113 .nil))) (by kernel_rfl)
theorem k115 : ACall Tryz.prog 20 [.val (.c (lF [[.v (.int .i8 0)], [.v (.int .i8 1)]]))] ⟨[.val (.c (lF [[bF, lF [], bF, l1], [bF, l1, bF, l1]]))], [none]⟩ := ex (.cons k114 .nil) (by kernel_rfl)
theorem k116 : ACall Tryz.prog 59 [.val (.c (lF [[bF, l1, bF, l1], [bF, l1, bF, l1]]))] ⟨[.val (.c (lF [[bF, l1, bF, l1], [bF, l1, bF, l1]]))], [none]⟩ := ex (.cons k13 .nil) (by kernel_rfl)
theorem k117 : ACall Tryz.prog 65 [.val (.c (lF [[.v (.int .i8 1)], [.v (.int .i8 1)]])), .val (.c (n64 20))] ⟨[.val (.c (lF [[bF, l1, bF, l1], [bF, l1, bF, l1]]))], [none, none]⟩ := ex (.cons k5 (.cons k116 .nil)) (by kernel_rfl)
theorem k118 : ACall Tryz.prog 20 [.val (.c (lF [[.v (.int .i8 1)], [.v (.int .i8 1)]]))] ⟨[.val (.c (lF [[bF, l1, bF, l1], [bF, l1, bF, l1]]))], [none]⟩ := ex (.cons k117 .nil) (by kernel_rfl)
theorem k119 : ACall Tryz.prog 99 [.val (.agg [bF, l1])] ⟨[.val (.agg [bF, l1, bF, l1])], [none]⟩ := ex (.cons k39 .nil) (by kernel_rfl)
theorem k120 : ACall Tryz.prog 61 [.val (.c (n64 1))] ⟨[.val (.agg [bF, l1, bF, l1])], [none]⟩ := ex (.cons k39 (.cons k119 .nil)) (by kernel_rfl)
theorem k121 : ACall Tryz.prog 72 [.val (.c (n64 1))] ⟨[.val (.c (lF [[bF, l1, bF, l1]]))], [none]⟩ := ex (.cons k120 (.cons k107 .nil)) (by kernel_rfl)
theorem k122 : ACall Tryz.prog 64 [.val (.c (lF [[bF, lT [], bF, l1]]))] ⟨[.val (.c (lF []))], [none]⟩ := ex (.cons k101 .nil) (by kernel_rfl)
theorem k123 : ACall Tryz.prog 72 [.val (.c (n64 0))] ⟨[.val (.c (lF []))], [none]⟩ := ex (.cons k41 (.cons k122 .nil)) (by kernel_rfl)
theorem k124 : ACall Tryz.prog 67 [.val (.agg [bF, l1, bF, l1])] ⟨[.val (.agg [bF, l1, bF, l1]), .val (.c (n64 0))], [none]⟩ := ex (.cons k103 .nil) (by kernel_rfl)
end Go.Proofs.YtdhidmcjglokcaaGreat.Mem
end

section
set_option linter.unusedVariables false
set_option linter.unusedSimpArgs false
/-
  A closed call, one function at a time, part 2 (printed by a program of mine).
-/
set_option maxRecDepth 100000
set_option maxHeartbeats 0
namespace Go.Proofs.YtdhidmcjglokcaaGreat.Mem
open Go Go.Abs Go.Proofs
theorem k125 : ACall Tryz.prog 62 [.val (.c (n64 1))] ⟨[.own 4 [[bF, lT [], bF, l1]]], [none]⟩ := ex (.cons k41 .nil) (by kernel_rfl)
theorem k126 : ACall Tryz.prog 68 [.val (.agg [bF, l1, bF, l1]), .val (.agg [bF, l1, bF, l1])] ⟨[.val (.agg [bF, l1, bF, l1])], [none, none]⟩ := ex (.cons k52 (.cons k53 .nil)) (by kernel_rfl)
theorem k127 : ACall Tryz.prog 69 [.val (.agg [bF, l1, bF, l1])] ⟨[.val (.agg [bT, l1, bF, l1])], [none]⟩ := ex (.cons k57 .nil) (by kernel_rfl)
theorem k128 : ACall Tryz.prog 58 [.val (.agg [bT, l1, bF, l1])] ⟨[.val (.c (n64 (-1)))], [none]⟩ := ex (.cons k59 .nil) (by kernel_rfl)
theorem k129 : ACall Tryz.prog 68 [.val (.agg [bT, l1, bF, l1]), .val (.agg [bF, l1, bF, l1])] ⟨[.val (.agg [bT, l1, bF, l1])], [none, none]⟩ := ex (.cons k64 (.cons k52 (.cons k75 (.cons k53 .nil)))) (by kernel_rfl)
theorem k130 : ACall Tryz.prog 97 [.val (.agg [bF, lF []])] ⟨[.val (.c (bF))], [none]⟩ := ex (.nil) (by kernel_rfl)
theorem k131 : ACall Tryz.prog 105 [.val (.c (lF [[bF, lF []], [bF, l1]]))] ⟨[.val (.agg [bF, lF []])], [none]⟩ := ex (.cons k39 (.cons k130 (.cons k50 .nil))) (by kernel_rfl)
theorem k132 : ACall Tryz.prog 126 [.val (.c (lF [])), .val (.c (l1))] ⟨[.val (.c (n64 (-1)))], [none, none]⟩ := ex (.nil) (by kernel_rfl)
theorem k133 : ACall Tryz.prog 127 [.val (.c (l1)), .val (.c (lF []))] ⟨[.val (.c (l1))], [none, none]⟩ := ex (.cons k37 .nil) (by kernel_rfl)
theorem k134 : ACall Tryz.prog 112 [.val (.agg [bF, lF []]), .val (.agg [bT, l1])] ⟨[.val (.agg [bT, l1])], [none, none]⟩ := ex (.cons k132 (.cons k133 (.cons k56 .nil))) (by kernel_rfl)
theorem k135 : ACall Tryz.prog 87 [.val (.agg [bF, lF [], bF, l1]), .val (.agg [bT, l1, bF, l1])] ⟨[.val (.agg [bT, l1, bF, l1])], [none, none]⟩ := ex (.cons k131 (.cons k75 (.cons k134 (.cons k53 (.cons k64 .nil))))) (by kernel_rfl)
theorem k136 : ACall Tryz.prog 63 [.bor 4 [[bF, lF [], bF, l1], [bF, l1, bF, l1]], .val (.agg [bT, l1, bF, l1]), .val (.c (lF [[bF, l1, bF, l1], [bF, l1, bF, l1]])), .val (.c (n64 0))] ⟨[], [some (.rows 4 [[bT, l1, bF, l1], [bF, lT [], bF, l1]] false false), none, none, none]⟩ := ex (.cons k128 (.cons k106 (.cons k129 (.cons k135 (.cons k82 .nil))))) (by kernel_rfl)
theorem k137 : ACall Tryz.prog 64 [.val (.c (lF [[bT, l1, bF, l1]]))] ⟨[.val (.c (lF [[bT, l1, bF, l1]]))], [none]⟩ := ex (.cons k128 .nil) (by kernel_rfl)
theorem k138 : ACall Tryz.prog 23 [.val (.c (lF [[bF, lF [], bF, l1], [bF, l1, bF, l1]])), .val (.c (lF [[bF, l1, bF, l1], [bF, l1, bF, l1]]))] ⟨[.val (.c (lF [[bF, l1, bF, l1]])), .val (.c (lF [[bT, l1, bF, l1]])), .val (.c (n64 0))], [none, none]⟩ := ex (.cons k124 (.cons k125 (.cons k126 (.cons k127 (.cons k136 (.cons k107 (.cons k137 .nil))))))) (by kernel_rfl)
theorem k139 : ACall Tryz.prog 103 [.val (.agg [bT, l1])] ⟨[.val (.agg [bF, l1])], [none]⟩ := ex (.cons k44 (.cons k38 .nil)) (by kernel_rfl)
theorem k140 : ACall Tryz.prog 67 [.val (.agg [bT, l1, bF, l1])] ⟨[.val (.agg [bT, l1, bF, l1]), .val (.c (n64 0))], [none]⟩ := ex (.cons k59 (.cons k57 (.cons k139 .nil))) (by kernel_rfl)
theorem k141 : ACall Tryz.prog 76 [.val (.c (lF [[bT, l1, bF, l1]]))] ⟨[.val (.agg [bT, l1, bF, l1])], [none]⟩ := ex (.cons k140 .nil) (by kernel_rfl)
theorem k142 : ACall Tryz.prog 136 [.val (.c (l1)), .val (.c (l1))] ⟨[.val (.c (l1))], [none, none]⟩ := ex (.cons k35 .nil) (by kernel_rfl)
theorem k143 : ACall Tryz.prog 122 [.val (.agg [bT, l1]), .val (.agg [bT, l1])] ⟨[.val (.agg [bF, l1])], [none, none]⟩ := ex (.cons k142 (.cons k38 .nil)) (by kernel_rfl)
theorem k144 : ACall Tryz.prog 105 [.val (.c (lF [[bT, l1], [bT, l1]]))] ⟨[.val (.agg [bF, l1])], [none]⟩ := ex (.cons k39 (.cons k74 (.cons k50 (.cons k143 .nil)))) (by kernel_rfl)
theorem k145 : ACall Tryz.prog 68 [.val (.agg [bT, l1, bF, l1]), .val (.agg [bT, l1, bF, l1])] ⟨[.val (.agg [bF, l1, bF, l1])], [none, none]⟩ := ex (.cons k64 (.cons k144 (.cons k53 .nil))) (by kernel_rfl)
theorem k146 : ACall Tryz.prog 125 [.val (.c (lT [])), .val (.c (l1))] ⟨[.val (.c (l1))], [none, none]⟩ := ex (.cons k35 .nil) (by kernel_rfl)
theorem k147 : ACall Tryz.prog 112 [.val (.agg [bF, lT []]), .val (.agg [bF, l1])] ⟨[.val (.agg [bF, l1])], [none, none]⟩ := ex (.cons k146 (.cons k38 .nil)) (by kernel_rfl)
theorem k148 : ACall Tryz.prog 87 [.val (.agg [bF, lT [], bF, l1]), .val (.agg [bF, l1, bF, l1])] ⟨[.val (.agg [bF, l1, bF, l1])], [none, none]⟩ := ex (.cons k94 (.cons k53 (.cons k147 (.cons k52 .nil)))) (by kernel_rfl)
theorem k149 : ACall Tryz.prog 63 [.bor 4 [[bF, lT [], bF, l1]], .val (.agg [bT, l1, bF, l1]), .val (.c (lF [[bT, l1, bF, l1]])), .val (.c (n64 0))] ⟨[], [some (.rows 4 [[bF, l1, bF, l1]] false false), none, none, none]⟩ := ex (.cons k128 (.cons k145 (.cons k148 .nil))) (by kernel_rfl)
theorem k150 : ACall Tryz.prog 21 [.val (.agg [bT, l1, bF, l1]), .val (.c (lF [[bT, l1, bF, l1]]))] ⟨[.val (.c (lF [[bF, l1, bF, l1]]))], [none, none]⟩ := ex (.cons k125 (.cons k149 (.cons k107 .nil))) (by kernel_rfl)
theorem k151 : ACall Tryz.prog 17 [.val (.c (lF [[bF, l1, bF, l1]])), .val (.c (lF []))] ⟨[.val (.c (lT []))], [none, none]⟩ := ex (.nil) (by kernel_rfl)
theorem k152 : ACall Tryz.prog 100 [.val (.c (n64 (-1)))] ⟨[.val (.agg [bT, l1])], [none]⟩ := ex (.cons k36 (.cons k56 .nil)) (by kernel_rfl)
theorem k153 : ACall Tryz.prog 99 [.val (.agg [bT, l1])] ⟨[.val (.agg [bT, l1, bF, l1])], [none]⟩ := ex (.cons k39 .nil) (by kernel_rfl)
theorem k154 : ACall Tryz.prog 61 [.val (.c (n64 (-1)))] ⟨[.val (.agg [bT, l1, bF, l1])], [none]⟩ := ex (.cons k152 (.cons k153 .nil)) (by kernel_rfl)
theorem k155 : ACall Tryz.prog 63 [.bor 4 [[bF, l1, bF, l1]], .val (.agg [bT, l1, bF, l1]), .val (.c (lT [])), .val (.c (n64 0))] ⟨[], [some (.rows 4 [[bF, l1, bF, l1]] false false), none, none, none]⟩ := ex (.cons k128 .nil) (by kernel_rfl)
theorem k156 : ACall Tryz.prog 60 [.val (.c (lF [[bF, l1, bF, l1]])), .val (.agg [bT, l1, bF, l1]), .val (.c (lT [])), .val (.c (n64 0))] ⟨[.val (.c (lF [[bF, l1, bF, l1]]))], [none, none, none, none]⟩ := ex (.cons k125 (.cons k155 (.cons k107 .nil))) (by kernel_rfl)
theorem k157 : ACall Tryz.prog 18 [.val (.c (lF [[bF, l1, bF, l1]])), .val (.c (lT []))] ⟨[.val (.c (lF [[bF, l1, bF, l1]]))], [none, none]⟩ := ex (.cons k154 (.cons k156 .nil)) (by kernel_rfl)
theorem k158 : ACall Tryz.prog 126 [.val (.c (lT [])), .val (.c (l1))] ⟨[.val (.c (n64 (-1)))], [none, none]⟩ := ex (.nil) (by kernel_rfl)
theorem k159 : ACall Tryz.prog 127 [.val (.c (l1)), .val (.c (lT []))] ⟨[.val (.c (l1))], [none, none]⟩ := ex (.cons k37 .nil) (by kernel_rfl)
theorem k160 : ACall Tryz.prog 112 [.val (.agg [bF, lT []]), .val (.agg [bT, l1])] ⟨[.val (.agg [bT, l1])], [none, none]⟩ := ex (.cons k158 (.cons k159 (.cons k56 .nil))) (by kernel_rfl)
theorem k161 : ACall Tryz.prog 87 [.val (.agg [bF, lT [], bF, l1]), .val (.agg [bT, l1, bF, l1])] ⟨[.val (.agg [bT, l1, bF, l1])], [none, none]⟩ := ex (.cons k94 (.cons k75 (.cons k160 (.cons k53 (.cons k64 .nil))))) (by kernel_rfl)
theorem k162 : ACall Tryz.prog 63 [.bor 4 [[bF, lT [], bF, l1]], .val (.agg [bT, l1, bF, l1]), .val (.c (lF [[bF, l1, bF, l1]])), .val (.c (n64 0))] ⟨[], [some (.rows 4 [[bT, l1, bF, l1]] false false), none, none, none]⟩ := ex (.cons k128 (.cons k106 (.cons k129 (.cons k161 .nil)))) (by kernel_rfl)
theorem k163 : ACall Tryz.prog 21 [.val (.agg [bT, l1, bF, l1]), .val (.c (lF [[bF, l1, bF, l1]]))] ⟨[.val (.c (lF [[bT, l1, bF, l1]]))], [none, none]⟩ := ex (.cons k125 (.cons k162 (.cons k137 .nil))) (by kernel_rfl)
theorem k164 : ACall Tryz.prog 73 [.val (.c (lF [[bF, l1, bF, l1]])), .val (.agg [bT, l1, bF, l1]), .ref [lF []], .ref [lF [[bF, l1, bF, l1]]]] ⟨[], [none, none, some (.var [.t (lF [[bT, l1, bF, l1]])]), some (.var [.t (lF [])])]⟩ := ex (.cons k151 (.cons k157 (.cons k163 .nil))) (by kernel_rfl)
theorem k165 : ACall Tryz.prog 63 [.bor 4 [[bF, l1, bF, l1], [bF, l1, bF, l1]], .val (.agg [bT, l1, bF, l1]), .val (.c (lF [[bF, l1, bF, l1]])), .val (.c (n64 1))] ⟨[], [some (.rows 4 [[bF, l1, bF, l1], [bF, lT [], bF, l1]] false false), none, none, none]⟩ := ex (.cons k128 (.cons k106 (.cons k129 (.cons k82 .nil)))) (by kernel_rfl)
theorem k166 : ACall Tryz.prog 63 [.bor 4 [[bF, l1, bF, l1], [bF, lT [], bF, l1]], .val (.agg [bT, l1, bF, l1]), .val (.c (lF [[bF, l1, bF, l1]])), .val (.c (n64 0))] ⟨[], [some (.rows 4 [[bF, lT [], bF, l1], [bF, lT [], bF, l1]] false false), none, none, none]⟩ := ex (.cons k128 (.cons k106 (.cons k129 (.cons k82 .nil)))) (by kernel_rfl)
theorem k167 : ACall Tryz.prog 64 [.val (.c (lF [[bF, l1, bF, l1], [bF, l1, bF, l1]]))] ⟨[.val (.c (lF [[bF, l1, bF, l1], [bF, l1, bF, l1]]))], [none]⟩ := ex (.cons k106 .nil) (by kernel_rfl)
theorem k168 : ACall Tryz.prog 64 [.val (.c (lF []))] ⟨[.val (.c (lF []))], [none]⟩ := ex (.nil) (by kernel_rfl)
theorem k169 : ACall Tryz.prog 23 [.val (.c (lF [[bF, l1, bF, l1], [bF, l1, bF, l1]])), .val (.c (lF [[bF, l1, bF, l1]]))] ⟨[.val (.c (lF [[bF, l1, bF, l1], [bF, l1, bF, l1]])), .val (.c (lF [])), .val (.c (n64 0))], [none, none]⟩ := ex (.cons k124 (.cons k42 (.cons k126 (.cons k127 (.cons k165 (.cons k166 (.cons k167 (.cons k168 .nil)))))))) (by kernel_rfl)
theorem k170 : ACall Tryz.prog 105 [.val (.c (lF [[bF, l1], [bT, l1]]))] ⟨[.val (.agg [bT, l1])], [none]⟩ := ex (.cons k39 (.cons k50 (.cons k74 .nil))) (by kernel_rfl)
theorem k171 : ACall Tryz.prog 68 [.val (.agg [bF, l1, bF, l1]), .val (.agg [bT, l1, bF, l1])] ⟨[.val (.agg [bT, l1, bF, l1])], [none, none]⟩ := ex (.cons k52 (.cons k64 (.cons k170 (.cons k53 .nil)))) (by kernel_rfl)
theorem k172 : ACall Tryz.prog 63 [.bor 4 [[bF, lT [], bF, l1], [bF, lT [], bF, l1]], .val (.agg [bF, l1, bF, l1]), .val (.c (lF [[bT, l1, bF, l1]])), .val (.c (n64 0))] ⟨[], [some (.rows 4 [[bT, l1, bF, l1], [bF, lT [], bF, l1]] false false), none, none, none]⟩ := ex (.cons k106 (.cons k128 (.cons k171 (.cons k161 .nil)))) (by kernel_rfl)
theorem k173 : ACall Tryz.prog 63 [.bor 4 [[bT, l1, bF, l1], [bF, lT [], bF, l1]], .val (.agg [bF, l1, bF, l1]), .val (.c (lF [[bT, l1, bF, l1]])), .val (.c (n64 1))] ⟨[], [some (.rows 4 [[bT, l1, bF, l1], [bT, l1, bF, l1]] false false), none, none, none]⟩ := ex (.cons k106 (.cons k128 (.cons k171 (.cons k161 .nil)))) (by kernel_rfl)
theorem k174 : ACall Tryz.prog 64 [.val (.c (lF [[bT, l1, bF, l1], [bT, l1, bF, l1]]))] ⟨[.val (.c (lF [[bT, l1, bF, l1], [bT, l1, bF, l1]]))], [none]⟩ := ex (.cons k128 .nil) (by kernel_rfl)
theorem k175 : ACall Tryz.prog 17 [.val (.c (lF [[bF, l1, bF, l1], [bF, l1, bF, l1]])), .val (.c (lF [[bT, l1, bF, l1]]))] ⟨[.val (.c (lF [[bT, l1, bF, l1], [bT, l1, bF, l1]]))], [none, none]⟩ := ex (.cons k42 (.cons k172 (.cons k173 (.cons k174 .nil)))) (by kernel_rfl)
theorem k176 : ACall Tryz.prog 63 [.bor 4 [[bF, lT [], bF, l1], [bF, lT [], bF, l1]], .val (.agg [bT, l1, bF, l1]), .val (.c (lF [[bT, l1, bF, l1], [bT, l1, bF, l1]])), .val (.c (n64 0))] ⟨[], [some (.rows 4 [[bF, l1, bF, l1], [bF, l1, bF, l1]] false false), none, none, none]⟩ := ex (.cons k128 (.cons k145 (.cons k148 .nil))) (by kernel_rfl)
theorem k177 : ACall Tryz.prog 60 [.val (.c (lF [])), .val (.agg [bT, l1, bF, l1]), .val (.c (lF [[bT, l1, bF, l1], [bT, l1, bF, l1]])), .val (.c (n64 0))] ⟨[.val (.c (lF [[bF, l1, bF, l1], [bF, l1, bF, l1]]))], [none, none, none, none]⟩ := ex (.cons k42 (.cons k176 (.cons k167 .nil))) (by kernel_rfl)
theorem k178 : ACall Tryz.prog 18 [.val (.c (lF [])), .val (.c (lF [[bT, l1, bF, l1], [bT, l1, bF, l1]]))] ⟨[.val (.c (lF [[bF, l1, bF, l1], [bF, l1, bF, l1]]))], [none, none]⟩ := ex (.cons k154 (.cons k177 .nil)) (by kernel_rfl)
theorem k179 : ACall Tryz.prog 63 [.bor 4 [[bF, lT [], bF, l1], [bF, lT [], bF, l1]], .val (.agg [bF, l1, bF, l1]), .val (.c (lF [[bF, l1, bF, l1], [bF, l1, bF, l1]])), .val (.c (n64 0))] ⟨[], [some (.rows 4 [[bF, l1, bF, l1], [bF, l1, bF, l1]] false false), none, none, none]⟩ := ex (.cons k106 (.cons k126 (.cons k148 .nil))) (by kernel_rfl)
theorem k180 : ACall Tryz.prog 21 [.val (.agg [bF, l1, bF, l1]), .val (.c (lF [[bF, l1, bF, l1], [bF, l1, bF, l1]]))] ⟨[.val (.c (lF [[bF, l1, bF, l1], [bF, l1, bF, l1]]))], [none, none]⟩ := ex (.cons k42 (.cons k179 (.cons k167 .nil))) (by kernel_rfl)
theorem k181 : ACall Tryz.prog 73 [.val (.c (lF [[bF, l1, bF, l1], [bF, l1, bF, l1]])), .val (.agg [bF, l1, bF, l1]), .ref [lF [[bT, l1, bF, l1]]], .ref [lF []]] ⟨[], [none, none, some (.var [.t (lF [[bF, l1, bF, l1], [bF, l1, bF, l1]])]), some (.var [.t (lF [[bT, l1, bF, l1]])])]⟩ := ex (.cons k175 (.cons k178 (.cons k180 .nil))) (by kernel_rfl)
theorem k182 : ACall Tryz.prog 70 [.val (.c (lF [[bF, lF [], bF, l1], [bF, l1, bF, l1]])), .val (.c (lF [[bF, l1, bF, l1], [bF, l1, bF, l1]])), .clo 73 [(3, (0, 0)), (4, (0, 0))], .gh [lF []], .gh [lF [[bF, l1, bF, l1]]]] ⟨[.val (.c (lF [[bF, l1, bF, l1]]))], [none, none, none, some (.var [.t (lF [[bF, l1, bF, l1], [bF, l1, bF, l1]])]), some (.var [.t (lF [[bT, l1, bF, l1]])])]⟩ := ex (.cons k138 (.cons k120 (.cons k141 (.cons k150 (.cons k164 (.cons k169 (.cons k181 .nil))))))) (by kernel_rfl)
theorem k183 : ACall Tryz.prog 63 [.bor 4 [[bF, lT [], bF, l1]], .val (.agg [bF, l1, bF, l1]), .val (.c (lF [[bF, l1, bF, l1]])), .val (.c (n64 0))] ⟨[], [some (.rows 4 [[bF, l1, bF, l1]] false false), none, none, none]⟩ := ex (.cons k106 (.cons k126 (.cons k148 .nil))) (by kernel_rfl)
theorem k184 : ACall Tryz.prog 21 [.val (.agg [bF, l1, bF, l1]), .val (.c (lF [[bF, l1, bF, l1]]))] ⟨[.val (.c (lF [[bF, l1, bF, l1]]))], [none, none]⟩ := ex (.cons k125 (.cons k183 (.cons k107 .nil))) (by kernel_rfl)
theorem k185 : ACall Tryz.prog 32 [.val (.c (lF [[bF, l1, bF, l1]]))] ⟨[.val (.c (lF [[bF, l1, bF, l1]]))], [none]⟩ := ex (.cons k124 (.cons k184 .nil)) (by kernel_rfl)
theorem k186 : ACall Tryz.prog 63 [.bor 4 [[bF, lT [], bF, l1]], .val (.agg [bF, l1, bF, l1]), .val (.c (lF [[bT, l1, bF, l1]])), .val (.c (n64 0))] ⟨[], [some (.rows 4 [[bT, l1, bF, l1]] false false), none, none, none]⟩ := ex (.cons k106 (.cons k128 (.cons k171 (.cons k161 .nil)))) (by kernel_rfl)
theorem k187 : ACall Tryz.prog 21 [.val (.agg [bF, l1, bF, l1]), .val (.c (lF [[bT, l1, bF, l1]]))] ⟨[.val (.c (lF [[bT, l1, bF, l1]]))], [none, none]⟩ := ex (.cons k125 (.cons k186 (.cons k137 .nil))) (by kernel_rfl)
theorem k188 : ACall Tryz.prog 23 [.val (.c (lF [[bT, l1, bF, l1]])), .val (.c (lF [[bF, l1, bF, l1], [bF, l1, bF, l1]]))] ⟨[.val (.c (lT [])), .val (.c (lF [[bT, l1, bF, l1]])), .val (.c (n64 0))], [none, none]⟩ := ex (.nil) (by kernel_rfl)
theorem k189 : ACall Tryz.prog 63 [.bor 4 [[bF, lT [], bF, l1], [bF, lT [], bF, l1]], .val (.agg [bT, l1, bF, l1]), .val (.c (lF [[bF, lF [], bF, l1], [bF, l1, bF, l1]])), .val (.c (n64 0))] ⟨[], [some (.rows 4 [[bF, lT [], bF, l1], [bT, l1, bF, l1]] false false), none, none, none]⟩ := ex (.cons k128 (.cons k62 (.cons k106 (.cons k129 (.cons k161 .nil))))) (by kernel_rfl)
theorem k190 : ACall Tryz.prog 64 [.val (.c (lF [[bF, lT [], bF, l1], [bT, l1, bF, l1]]))] ⟨[.val (.c (lF [[bF, lT [], bF, l1], [bT, l1, bF, l1]]))], [none]⟩ := ex (.cons k128 .nil) (by kernel_rfl)
theorem k191 : ACall Tryz.prog 17 [.val (.c (lF [[bT, l1, bF, l1]])), .val (.c (lF [[bF, lF [], bF, l1], [bF, l1, bF, l1]]))] ⟨[.val (.c (lF [[bF, lT [], bF, l1], [bT, l1, bF, l1]]))], [none, none]⟩ := ex (.cons k42 (.cons k189 (.cons k190 .nil))) (by kernel_rfl)
theorem k192 : ACall Tryz.prog 63 [.bor 4 [[bF, l1, bF, l1], [bF, lT [], bF, l1]], .val (.agg [bT, l1, bF, l1]), .val (.c (lF [[bF, lT [], bF, l1], [bT, l1, bF, l1]])), .val (.c (n64 0))] ⟨[], [some (.rows 4 [[bF, l1, bF, l1], [bF, l1, bF, l1]] false false), none, none, none]⟩ := ex (.cons k128 (.cons k101 (.cons k145 (.cons k148 .nil)))) (by kernel_rfl)
theorem k193 : ACall Tryz.prog 60 [.val (.c (lF [[bF, l1, bF, l1]])), .val (.agg [bT, l1, bF, l1]), .val (.c (lF [[bF, lT [], bF, l1], [bT, l1, bF, l1]])), .val (.c (n64 0))] ⟨[.val (.c (lF [[bF, l1, bF, l1], [bF, l1, bF, l1]]))], [none, none, none, none]⟩ := ex (.cons k42 (.cons k192 (.cons k167 .nil))) (by kernel_rfl)
theorem k194 : ACall Tryz.prog 18 [.val (.c (lF [[bF, l1, bF, l1]])), .val (.c (lF [[bF, lT [], bF, l1], [bT, l1, bF, l1]]))] ⟨[.val (.c (lF [[bF, l1, bF, l1], [bF, l1, bF, l1]]))], [none, none]⟩ := ex (.cons k154 (.cons k193 .nil)) (by kernel_rfl)
theorem k195 : ACall Tryz.prog 63 [.bor 4 [[bF, l1, bF, l1], [bF, l1, bF, l1]], .val (.agg [bT, l1, bF, l1]), .val (.c (lF [[bF, l1, bF, l1], [bF, l1, bF, l1]])), .val (.c (n64 0))] ⟨[], [some (.rows 4 [[bF, lT [], bF, l1], [bF, lT [], bF, l1]] false false), none, none, none]⟩ := ex (.cons k128 (.cons k106 (.cons k129 (.cons k82 .nil)))) (by kernel_rfl)
theorem k196 : ACall Tryz.prog 23 [.val (.c (lF [[bF, l1, bF, l1], [bF, l1, bF, l1]])), .val (.c (lF [[bF, l1, bF, l1], [bF, l1, bF, l1]]))] ⟨[.val (.c (lF [[bF, l1, bF, l1]])), .val (.c (lF [])), .val (.c (n64 0))], [none, none]⟩ := ex (.cons k124 (.cons k125 (.cons k126 (.cons k127 (.cons k195 (.cons k107 (.cons k122 .nil))))))) (by kernel_rfl)
theorem k197 : ACall Tryz.prog 26 [.val (.c (lF [[bF, lF [], bF, l1], [bF, l1, bF, l1]])), .val (.c (lF [[bF, l1, bF, l1], [bF, l1, bF, l1]]))] ⟨[.val (.c (lF [[bF, l1, bF, l1]])), .val (.c (lF [[bT, l1, bF, l1]])), .val (.c (lF [[bF, l1, bF, l1]]))], [none, none]⟩ := ex (.cons k121 (.cons k123 (.cons k182 (.cons k185 (.cons k124 (.cons k187 (.cons k169 (.cons k188 (.cons k191 (.cons k194 (.cons k196 .nil))))))))))) (by kernel_rfl)
theorem k198 : ACall Tryz.prog 59 [.val (.c (lF [[bF, lF [u 2], bF, l1]]))] ⟨[.val (.c (lF [[bF, lF [u 2], bF, l1]]))], [none]⟩ := ex (.cons k24 .nil) (by kernel_rfl)
theorem k199 : ACall Tryz.prog 65 [.val (.c (lF [[.v (.int .i8 2)]])), .val (.c (n64 20))] ⟨[.val (.c (lF [[bF, lF [u 2], bF, l1]]))], [none, none]⟩ := ex (.cons k22 (.cons k198 .nil)) (by kernel_rfl)
theorem k200 : ACall Tryz.prog 20 [.val (.c (lF [[.v (.int .i8 2)]]))] ⟨[.val (.c (lF [[bF, lF [u 2], bF, l1]]))], [none]⟩ := ex (.cons k199 .nil) (by kernel_rfl)
theorem k201 : ACall Tryz.prog 70 [.val (.c (lF [[bF, lF [u 2], bF, l1]])), .val (.c (lT [])), .clo 73 [(3, (0, 0)), (4, (0, 0))], .gh [lF []], .gh [lF [[bF, l1, bF, l1]]]] ⟨[.val (.c (lF [[bF, lF [u 2], bF, l1]]))], [none, none, none, some (.var [.t (lF [])]), some (.var [.t (lF [[bF, l1, bF, l1]])])]⟩ := ex (.nil) (by kernel_rfl)
theorem k202 : ACall Tryz.prog 68 [.val (.agg [bF, l1, bF, lF [u 2]]), .val (.agg [bF, lF [u 2], bF, l1])] ⟨[.val (.agg [bF, l1, bF, l1])], [none, none]⟩ := ex (.cons k52 (.cons k73 (.cons k53 .nil))) (by kernel_rfl)
theorem k203 : ACall Tryz.prog 63 [.bor 4 [[bF, lT [], bF, l1]], .val (.agg [bF, l1, bF, lF [u 2]]), .val (.c (lF [[bF, lF [u 2], bF, l1]])), .val (.c (n64 0))] ⟨[], [some (.rows 4 [[bF, l1, bF, l1]] false false), none, none, none]⟩ := ex (.cons k104 (.cons k63 (.cons k202 (.cons k148 .nil)))) (by kernel_rfl)
theorem k204 : ACall Tryz.prog 21 [.val (.agg [bF, l1, bF, lF [u 2]]), .val (.c (lF [[bF, lF [u 2], bF, l1]]))] ⟨[.val (.c (lF [[bF, l1, bF, l1]]))], [none, none]⟩ := ex (.cons k125 (.cons k203 (.cons k107 .nil))) (by kernel_rfl)
theorem k205 : ACall Tryz.prog 32 [.val (.c (lF [[bF, lF [u 2], bF, l1]]))] ⟨[.val (.c (lF [[bF, l1, bF, l1]]))], [none]⟩ := ex (.cons k29 (.cons k204 .nil)) (by kernel_rfl)
theorem k206 : ACall Tryz.prog 105 [.val (.c (lF [[bF, l1], [bF, lF [u 2]]]))] ⟨[.val (.agg [bF, lF [u 2]])], [none]⟩ := ex (.cons k39 (.cons k50 (.cons k43 .nil))) (by kernel_rfl)
theorem k207 : ACall Tryz.prog 68 [.val (.agg [bF, l1, bF, lF [u 2]]), .val (.agg [bF, l1, bF, l1])] ⟨[.val (.agg [bF, l1, bF, lF [u 2]])], [none, none]⟩ := ex (.cons k52 (.cons k51 (.cons k53 (.cons k206 .nil)))) (by kernel_rfl)
theorem k208 : ACall Tryz.prog 136 [.val (.c (lT [])), .val (.c (lF [u 2]))] ⟨[.val (.c (lF []))], [none, none]⟩ := ex (.cons k78 .nil) (by kernel_rfl)
theorem k209 : ACall Tryz.prog 122 [.val (.agg [bF, lT []]), .val (.agg [bF, lF [u 2]])] ⟨[.val (.agg [bF, lT []])], [none, none]⟩ := ex (.cons k208 (.cons k33 .nil)) (by kernel_rfl)
theorem k210 : ACall Tryz.prog 105 [.val (.c (lF [[bF, lT []], [bF, lF [u 2]]]))] ⟨[.val (.agg [bF, lT []])], [none]⟩ := ex (.cons k39 (.cons k93 (.cons k50 (.cons k43 (.cons k209 .nil))))) (by kernel_rfl)
theorem k211 : ACall Tryz.prog 87 [.val (.agg [bF, lT [], bF, l1]), .val (.agg [bF, l1, bF, lF [u 2]])] ⟨[.val (.agg [bF, l1, bF, lF [u 2]])], [none, none]⟩ := ex (.cons k210 (.cons k53 (.cons k147 (.cons k206 (.cons k51 .nil))))) (by kernel_rfl)
theorem k212 : ACall Tryz.prog 63 [.bor 4 [[bF, lT [], bF, l1]], .val (.agg [bF, l1, bF, lF [u 2]]), .val (.c (lF [[bF, l1, bF, l1]])), .val (.c (n64 0))] ⟨[], [some (.rows 4 [[bF, l1, bF, lF [u 2]]] false false), none, none, none]⟩ := ex (.cons k104 (.cons k106 (.cons k207 (.cons k211 .nil)))) (by kernel_rfl)
theorem k213 : ACall Tryz.prog 64 [.val (.c (lF [[bF, l1, bF, lF [u 2]]]))] ⟨[.val (.c (lF [[bF, l1, bF, lF [u 2]]]))], [none]⟩ := ex (.cons k104 .nil) (by kernel_rfl)
theorem k214 : ACall Tryz.prog 21 [.val (.agg [bF, l1, bF, lF [u 2]]), .val (.c (lF [[bF, l1, bF, l1]]))] ⟨[.val (.c (lF [[bF, l1, bF, lF [u 2]]]))], [none, none]⟩ := ex (.cons k125 (.cons k212 (.cons k213 .nil))) (by kernel_rfl)
theorem k215 : ACall Tryz.prog 26 [.val (.c (lF [[bF, lF [u 2], bF, l1]])), .val (.c (lT []))] ⟨[.val (.c (lF [[bF, l1, bF, l1]])), .val (.c (lF [[bF, l1, bF, lF [u 2]]])), .val (.c (lT []))], [none, none]⟩ := ex (.cons k121 (.cons k123 (.cons k201 (.cons k205 (.cons k29 (.cons k214 .nil)))))) (by kernel_rfl)
theorem k216 : ACall Tryz.prog 101 [.val (.c (bT)), .val (.c (lF [u 2]))] ⟨[.val (.agg [bT, lF [u 2]])], [none, none]⟩ := ex (.cons k19 .nil) (by kernel_rfl)
theorem k217 : ACall Tryz.prog 66 [.val (.c (n64 (-2)))] ⟨[.val (.agg [bT, lF [u 2]])], [none]⟩ := ex (.cons k18 (.cons k216 .nil)) (by kernel_rfl)
theorem k218 : ACall Tryz.prog 22 [.val (.c (n64 (-2)))] ⟨[.val (.agg [bT, lF [u 2], bF, l1])], [none]⟩ := ex (.cons k217 (.cons k4 .nil)) (by kernel_rfl)
theorem k219 : ACall Tryz.prog 59 [.val (.c (lF [[bF, lF [], bF, l1], [bF, lF [], bF, l1], [bT, lF [u 2], bF, l1], [bF, lF [u 2], bF, l1]]))] ⟨[.val (.c (lF [[bF, lF [], bF, l1], [bF, lF [], bF, l1], [bT, lF [u 2], bF, l1], [bF, lF [u 2], bF, l1]]))], [none]⟩ := ex (.cons k24 .nil) (by kernel_rfl)
theorem k220 : ACall Tryz.prog 65 [.val (.c (lF [[.v (.int .i8 0)], [.v (.int .i8 0)], [.v (.int .i8 (-2))], [.v (.int .i8 2)]])), .val (.c (n64 20))] ⟨[.val (.c (lF [[bF, lF [], bF, l1], [bF, lF [], bF, l1], [bT, lF [u 2], bF, l1], [bF, lF [u 2], bF, l1]]))], [none, none]⟩ := ex (.cons k11 (.cons k218 (.cons k22 (.cons k219 .nil)))) (by kernel_rfl)
theorem k221 : ACall Tryz.prog 20 [.val (.c (lF [[.v (.int .i8 0)], [.v (.int .i8 0)], [.v (.int .i8 (-2))], [.v (.int .i8 2)]]))] ⟨[.val (.c (lF [[bF, lF [], bF, l1], [bF, lF [], bF, l1], [bT, lF [u 2], bF, l1], [bF, lF [u 2], bF, l1]]))], [none]⟩ := ex (.cons k220 .nil) (by kernel_rfl)
theorem k222 : ACall Tryz.prog 62 [.val (.c (n64 3))] ⟨[.own 4 [[bF, lT [], bF, l1], [bF, lT [], bF, l1], [bF, lT [], bF, l1]]], [none]⟩ := ex (.cons k41 .nil) (by kernel_rfl)
theorem k223 : ACall Tryz.prog 104 [.val (.agg [bF, lF []]), .val (.agg [bF, l1])] ⟨[.val (.agg [bF, lF [], bF, l1])], [none, none]⟩ := ex (.cons k50 .nil) (by kernel_rfl)
theorem k224 : ACall Tryz.prog 105 [.val (.c (lF [[bF, l1], [bF, lF []]]))] ⟨[.val (.agg [bF, lF []])], [none]⟩ := ex (.cons k39 (.cons k50 (.cons k130 .nil))) (by kernel_rfl)
theorem k225 : ACall Tryz.prog 68 [.val (.agg [bF, l1, bF, l1]), .val (.agg [bF, lF [], bF, l1])] ⟨[.val (.agg [bF, lF [], bF, l1])], [none, none]⟩ := ex (.cons k52 (.cons k223 (.cons k224 (.cons k53 .nil)))) (by kernel_rfl)
theorem k226 : ACall Tryz.prog 100 [.val (.c (n64 2))] ⟨[.val (.agg [bF, lF [u 2]])], [none]⟩ := ex (.cons k66 (.cons k67 .nil)) (by kernel_rfl)
theorem k227 : ACall Tryz.prog 99 [.val (.agg [bF, lF [u 2]])] ⟨[.val (.agg [bF, lF [u 2], bF, l1])], [none]⟩ := ex (.cons k39 .nil) (by kernel_rfl)
theorem k228 : ACall Tryz.prog 61 [.val (.c (n64 2))] ⟨[.val (.agg [bF, lF [u 2], bF, l1])], [none]⟩ := ex (.cons k226 (.cons k227 .nil)) (by kernel_rfl)
theorem k229 : ACall Tryz.prog 104 [.val (.agg [bF, lF [u 2]]), .val (.agg [bF, l1])] ⟨[.val (.agg [bF, lF [u 2], bF, l1])], [none, none]⟩ := ex (.cons k50 .nil) (by kernel_rfl)
theorem k230 : ACall Tryz.prog 104 [.val (.agg [bT, lF [u 2]]), .val (.agg [bF, l1])] ⟨[.val (.agg [bT, lF [u 2], bF, l1])], [none, none]⟩ := ex (.cons k50 .nil) (by kernel_rfl)
theorem k231 : ACall Tryz.prog 97 [.val (.agg [bT, lF [u 2]])] ⟨[.val (.c (bF))], [none]⟩ := ex (.nil) (by kernel_rfl)
theorem k232 : ACall Tryz.prog 115 [.val (.c (lF [u 4, u 0]))] ⟨[.val (.c (lF [u 4]))], [none]⟩ := ex (.nil) (by kernel_rfl)
theorem k233 : ACall Tryz.prog 136 [.val (.c (lF [u 2])), .val (.c (lF [u 2]))] ⟨[.val (.c (lF [u 4]))], [none, none]⟩ := ex (.cons k232 .nil) (by kernel_rfl)
theorem k234 : ACall Tryz.prog 115 [.val (.c (lF [u 4]))] ⟨[.val (.c (lF [u 4]))], [none]⟩ := ex (.nil) (by kernel_rfl)
theorem k235 : ACall Tryz.prog 117 [.val (.c (bT)), .val (.c (lF [u 4]))] ⟨[.val (.agg [bT, lF [u 4]])], [none, none]⟩ := ex (.cons k234 .nil) (by kernel_rfl)
theorem k236 : ACall Tryz.prog 122 [.val (.agg [bF, lF [u 2]]), .val (.agg [bT, lF [u 2]])] ⟨[.val (.agg [bT, lF [u 4]])], [none, none]⟩ := ex (.cons k233 (.cons k235 .nil)) (by kernel_rfl)
theorem k237 : ACall Tryz.prog 105 [.val (.c (lF [[bF, lF [u 2]], [bT, lF [u 2]]]))] ⟨[.val (.agg [bT, lF [u 4]])], [none]⟩ := ex (.cons k39 (.cons k43 (.cons k50 (.cons k231 (.cons k236 .nil))))) (by kernel_rfl)
theorem k238 : ACall Tryz.prog 68 [.val (.agg [bF, lF [u 2], bF, l1]), .val (.agg [bT, lF [u 2], bF, l1])] ⟨[.val (.agg [bT, lF [u 4], bF, l1])], [none, none]⟩ := ex (.cons k229 (.cons k230 (.cons k237 (.cons k53 .nil)))) (by kernel_rfl)
theorem k239 : ACall Tryz.prog 115 [.val (.c (lF [u 3, u 0]))] ⟨[.val (.c (lF [u 3]))], [none]⟩ := ex (.nil) (by kernel_rfl)
theorem k240 : ACall Tryz.prog 118 [.val (.c (w64 3))] ⟨[.val (.c (lF [u 3]))], [none]⟩ := ex (.cons k239 .nil) (by kernel_rfl)
theorem k241 : ACall Tryz.prog 115 [.val (.c (lF [u 3]))] ⟨[.val (.c (lF [u 3]))], [none]⟩ := ex (.nil) (by kernel_rfl)
theorem k242 : ACall Tryz.prog 117 [.val (.c (bF)), .val (.c (lF [u 3]))] ⟨[.val (.agg [bF, lF [u 3]])], [none, none]⟩ := ex (.cons k241 .nil) (by kernel_rfl)
theorem k243 : ACall Tryz.prog 100 [.val (.c (n64 3))] ⟨[.val (.agg [bF, lF [u 3]])], [none]⟩ := ex (.cons k240 (.cons k242 .nil)) (by kernel_rfl)
theorem k244 : ACall Tryz.prog 99 [.val (.agg [bF, lF [u 3]])] ⟨[.val (.agg [bF, lF [u 3], bF, l1])], [none]⟩ := ex (.cons k39 .nil) (by kernel_rfl)
theorem k245 : ACall Tryz.prog 61 [.val (.c (n64 3))] ⟨[.val (.agg [bF, lF [u 3], bF, l1])], [none]⟩ := ex (.cons k243 (.cons k244 .nil)) (by kernel_rfl)
theorem k246 : ACall Tryz.prog 104 [.val (.agg [bF, lF [u 3]]), .val (.agg [bF, l1])] ⟨[.val (.agg [bF, lF [u 3], bF, l1])], [none, none]⟩ := ex (.cons k50 .nil) (by kernel_rfl)
theorem k247 : ACall Tryz.prog 97 [.val (.agg [bF, lF [u 3]])] ⟨[.val (.c (bF))], [none]⟩ := ex (.nil) (by kernel_rfl)
theorem k248 : ACall Tryz.prog 115 [.val (.c (lF [u 6, u 0]))] ⟨[.val (.c (lF [u 6]))], [none]⟩ := ex (.nil) (by kernel_rfl)
theorem k249 : ACall Tryz.prog 136 [.val (.c (lF [u 3])), .val (.c (lF [u 2]))] ⟨[.val (.c (lF [u 6]))], [none, none]⟩ := ex (.cons k248 .nil) (by kernel_rfl)
end Go.Proofs.YtdhidmcjglokcaaGreat.Mem
end

section
set_option linter.unusedVariables false
set_option linter.unusedSimpArgs false
/-
  A closed call, one function at a time, part 3 (printed by a program of mine).
-/
set_option maxRecDepth 100000
set_option maxHeartbeats 0
namespace Go.Proofs.YtdhidmcjglokcaaGreat.Mem
open Go Go.Abs Go.Proofs
theorem k250 : ACall Tryz.prog 115 [.val (.c (lF [u 6]))] ⟨[.val (.c (lF [u 6]))], [none]⟩ := ex (.nil) (by kernel_rfl)
theorem k251 : ACall Tryz.prog 117 [.val (.c (bF)), .val (.c (lF [u 6]))] ⟨[.val (.agg [bF, lF [u 6]])], [none, none]⟩ := ex (.cons k250 .nil) (by kernel_rfl)
theorem k252 : ACall Tryz.prog 122 [.val (.agg [bF, lF [u 3]]), .val (.agg [bF, lF [u 2]])] ⟨[.val (.agg [bF, lF [u 6]])], [none, none]⟩ := ex (.cons k249 (.cons k251 .nil)) (by kernel_rfl)
theorem k253 : ACall Tryz.prog 105 [.val (.c (lF [[bF, lF [u 3]], [bF, lF [u 2]]]))] ⟨[.val (.agg [bF, lF [u 6]])], [none]⟩ := ex (.cons k39 (.cons k247 (.cons k50 (.cons k43 (.cons k252 .nil))))) (by kernel_rfl)
theorem k254 : ACall Tryz.prog 68 [.val (.agg [bF, lF [u 3], bF, l1]), .val (.agg [bF, lF [u 2], bF, l1])] ⟨[.val (.agg [bF, lF [u 6], bF, l1])], [none, none]⟩ := ex (.cons k246 (.cons k229 (.cons k253 (.cons k53 .nil)))) (by kernel_rfl)
theorem k255 : ACall Tryz.prog 96 [.val (.agg [bF, lF [u 6]])] ⟨[.val (.c (n64 1))], [none]⟩ := ex (.nil) (by kernel_rfl)
theorem k256 : ACall Tryz.prog 58 [.val (.agg [bF, lF [u 6], bF, l1])] ⟨[.val (.c (n64 1))], [none]⟩ := ex (.cons k255 .nil) (by kernel_rfl)
theorem k257 : ACall Tryz.prog 64 [.val (.c (lF [[bF, lF [], bF, l1], [bT, lF [u 4], bF, l1], [bF, lF [u 6], bF, l1]]))] ⟨[.val (.c (lF [[bF, lF [], bF, l1], [bT, lF [u 4], bF, l1], [bF, lF [u 6], bF, l1]]))], [none]⟩ := ex (.cons k256 .nil) (by kernel_rfl)
theorem k258 : ACall Tryz.prog 31 [.val (.c (lF [[bF, lF [], bF, l1], [bF, lF [], bF, l1], [bT, lF [u 2], bF, l1], [bF, lF [u 2], bF, l1]]))] ⟨[.val (.c (lF [[bF, lF [], bF, l1], [bT, lF [u 4], bF, l1], [bF, lF [u 6], bF, l1]]))], [none]⟩ := ex (.cons k222 (.cons k120 (.cons k225 (.cons k228 (.cons k238 (.cons k245 (.cons k254 (.cons k257 .nil)))))))) (by kernel_rfl)
theorem k259 : ACall Tryz.prog 67 [.val (.agg [bF, lF [u 6], bF, l1])] ⟨[.val (.agg [bF, l1, bF, lF [u 6]]), .val (.c (n64 0))], [none]⟩ := ex (.cons k255 .nil) (by kernel_rfl)
theorem k260 : ACall Tryz.prog 97 [.val (.agg [bF, lF [u 6]])] ⟨[.val (.c (bF))], [none]⟩ := ex (.nil) (by kernel_rfl)
theorem k261 : ACall Tryz.prog 114 [.val (.c (lF [u 6]))] ⟨[.val (.c (lF [u 6]))], [none]⟩ := ex (.nil) (by kernel_rfl)
theorem k262 : ACall Tryz.prog 116 [.val (.c (lF [u 6]))] ⟨[.val (.c (w64 6))], [none]⟩ := ex (.nil) (by kernel_rfl)
theorem k263 : ACall Tryz.prog 98 [.val (.agg [bF, lF [u 2]]), .val (.agg [bF, lF [u 6]])] ⟨[.val (.agg [bF, lF [u 2]])], [none, none]⟩ := ex (.cons k45 (.cons k46 (.cons k250 (.cons k261 (.cons k48 (.cons k262 (.cons k66 (.cons k67 .nil)))))))) (by kernel_rfl)
theorem k264 : ACall Tryz.prog 126 [.val (.c (lF [u 6])), .val (.c (lF [u 2]))] ⟨[.val (.c (n64 1))], [none, none]⟩ := ex (.nil) (by kernel_rfl)
theorem k265 : ACall Tryz.prog 131 [.val (.c (lF [u 6])), .val (.c (w64 2))] ⟨[.val (.c (lF [u 3])), .val (.c (w64 0))], [none, none]⟩ := ex (.cons k241 .nil) (by kernel_rfl)
theorem k266 : ACall Tryz.prog 119 [.val (.c (lF [u 6])), .val (.c (lF [u 2]))] ⟨[.val (.c (lF [u 3])), .val (.c (lF []))], [none, none]⟩ := ex (.cons k250 (.cons k45 (.cons k264 (.cons k265 (.cons k31 .nil))))) (by kernel_rfl)
theorem k267 : ACall Tryz.prog 121 [.val (.agg [bF, lF [u 6]]), .val (.agg [bF, lF [u 2]])] ⟨[.val (.agg [bF, lF [u 3]]), .val (.agg [bF, lT []]), .val (.c (n64 0))], [none, none]⟩ := ex (.cons k45 (.cons k266 (.cons k242 (.cons k33 .nil)))) (by kernel_rfl)
theorem k268 : ACall Tryz.prog 104 [.val (.agg [bF, lF [u 2]]), .val (.agg [bF, lF [u 6]])] ⟨[.val (.agg [bF, l1, bF, lF [u 3]])], [none, none]⟩ := ex (.cons k260 (.cons k263 (.cons k43 (.cons k72 (.cons k267 .nil))))) (by kernel_rfl)
theorem k269 : ACall Tryz.prog 105 [.val (.c (lF [[bF, lF [u 3]], [bF, l1]]))] ⟨[.val (.agg [bF, lF [u 3]])], [none]⟩ := ex (.cons k39 (.cons k247 (.cons k50 .nil))) (by kernel_rfl)
theorem k270 : ACall Tryz.prog 68 [.val (.agg [bF, lF [u 2], bF, l1]), .val (.agg [bF, l1, bF, lF [u 6]])] ⟨[.val (.agg [bF, l1, bF, lF [u 3]])], [none, none]⟩ := ex (.cons k268 (.cons k52 (.cons k53 (.cons k269 .nil)))) (by kernel_rfl)
theorem k271 : ACall Tryz.prog 69 [.val (.agg [bF, l1, bF, lF [u 3]])] ⟨[.val (.agg [bT, l1, bF, lF [u 3]])], [none]⟩ := ex (.cons k57 .nil) (by kernel_rfl)
theorem k272 : ACall Tryz.prog 58 [.val (.agg [bT, l1, bF, lF [u 3]])] ⟨[.val (.c (n64 (-1)))], [none]⟩ := ex (.cons k59 .nil) (by kernel_rfl)
theorem k273 : ACall Tryz.prog 96 [.val (.agg [bT, lF [u 4]])] ⟨[.val (.c (n64 (-1)))], [none]⟩ := ex (.nil) (by kernel_rfl)
theorem k274 : ACall Tryz.prog 58 [.val (.agg [bT, lF [u 4], bF, l1])] ⟨[.val (.c (n64 (-1)))], [none]⟩ := ex (.cons k273 .nil) (by kernel_rfl)
theorem k275 : ACall Tryz.prog 114 [.val (.c (lF [u 4]))] ⟨[.val (.c (lF [u 4]))], [none]⟩ := ex (.nil) (by kernel_rfl)
theorem k276 : ACall Tryz.prog 114 [.val (.c (lF [u 3]))] ⟨[.val (.c (lF [u 3]))], [none]⟩ := ex (.nil) (by kernel_rfl)
theorem k277 : ACall Tryz.prog 116 [.val (.c (lF [u 4]))] ⟨[.val (.c (w64 4))], [none]⟩ := ex (.nil) (by kernel_rfl)
theorem k278 : ACall Tryz.prog 116 [.val (.c (lF [u 3]))] ⟨[.val (.c (w64 3))], [none]⟩ := ex (.nil) (by kernel_rfl)
theorem k279 : ACall Tryz.prog 98 [.val (.agg [bT, lF [u 4]]), .val (.agg [bF, lF [u 3]])] ⟨[.val (.agg [bF, l1])], [none, none]⟩ := ex (.cons k234 (.cons k275 (.cons k241 (.cons k276 (.cons k277 (.cons k278 (.cons k36 (.cons k38 .nil)))))))) (by kernel_rfl)
theorem k280 : ACall Tryz.prog 104 [.val (.agg [bT, lF [u 4]]), .val (.agg [bF, lF [u 3]])] ⟨[.val (.agg [bT, lF [u 4], bF, lF [u 3]])], [none, none]⟩ := ex (.cons k247 (.cons k279 (.cons k50 .nil))) (by kernel_rfl)
theorem k281 : ACall Tryz.prog 97 [.val (.agg [bT, lF [u 4]])] ⟨[.val (.c (bF))], [none]⟩ := ex (.nil) (by kernel_rfl)
theorem k282 : ACall Tryz.prog 136 [.val (.c (l1)), .val (.c (lF [u 4]))] ⟨[.val (.c (lF [u 4]))], [none, none]⟩ := ex (.cons k232 .nil) (by kernel_rfl)
theorem k283 : ACall Tryz.prog 117 [.val (.c (bF)), .val (.c (lF [u 4]))] ⟨[.val (.agg [bF, lF [u 4]])], [none, none]⟩ := ex (.cons k234 .nil) (by kernel_rfl)
theorem k284 : ACall Tryz.prog 122 [.val (.agg [bT, l1]), .val (.agg [bT, lF [u 4]])] ⟨[.val (.agg [bF, lF [u 4]])], [none, none]⟩ := ex (.cons k282 (.cons k283 .nil)) (by kernel_rfl)
theorem k285 : ACall Tryz.prog 105 [.val (.c (lF [[bT, l1], [bT, lF [u 4]]]))] ⟨[.val (.agg [bF, lF [u 4]])], [none]⟩ := ex (.cons k39 (.cons k74 (.cons k50 (.cons k281 (.cons k284 .nil))))) (by kernel_rfl)
theorem k286 : ACall Tryz.prog 105 [.val (.c (lF [[bF, l1], [bF, lF [u 3]]]))] ⟨[.val (.agg [bF, lF [u 3]])], [none]⟩ := ex (.cons k39 (.cons k50 (.cons k247 .nil))) (by kernel_rfl)
theorem k287 : ACall Tryz.prog 68 [.val (.agg [bT, l1, bF, lF [u 3]]), .val (.agg [bT, lF [u 4], bF, l1])] ⟨[.val (.agg [bF, lF [u 4], bF, lF [u 3]])], [none, none]⟩ := ex (.cons k64 (.cons k280 (.cons k285 (.cons k286 .nil)))) (by kernel_rfl)
theorem k288 : ACall Tryz.prog 136 [.val (.c (lF [u 2])), .val (.c (lF [u 3]))] ⟨[.val (.c (lF [u 6]))], [none, none]⟩ := ex (.cons k248 .nil) (by kernel_rfl)
theorem k289 : ACall Tryz.prog 117 [.val (.c (bT)), .val (.c (lF [u 6]))] ⟨[.val (.agg [bT, lF [u 6]])], [none, none]⟩ := ex (.cons k250 .nil) (by kernel_rfl)
theorem k290 : ACall Tryz.prog 122 [.val (.agg [bT, lF [u 2]]), .val (.agg [bF, lF [u 3]])] ⟨[.val (.agg [bT, lF [u 6]])], [none, none]⟩ := ex (.cons k288 (.cons k289 .nil)) (by kernel_rfl)
theorem k291 : ACall Tryz.prog 105 [.val (.c (lF [[bT, lF [u 2]], [bF, lF [u 3]]]))] ⟨[.val (.agg [bT, lF [u 6]])], [none]⟩ := ex (.cons k39 (.cons k231 (.cons k50 (.cons k247 (.cons k290 .nil))))) (by kernel_rfl)
theorem k292 : ACall Tryz.prog 97 [.val (.agg [bF, lF [u 4]])] ⟨[.val (.c (bF))], [none]⟩ := ex (.nil) (by kernel_rfl)
theorem k293 : ACall Tryz.prog 105 [.val (.c (lF [[bF, lF [u 4]], [bF, l1]]))] ⟨[.val (.agg [bF, lF [u 4]])], [none]⟩ := ex (.cons k39 (.cons k292 (.cons k50 .nil))) (by kernel_rfl)
theorem k294 : ACall Tryz.prog 126 [.val (.c (lF [u 6])), .val (.c (lF [u 4]))] ⟨[.val (.c (n64 1))], [none, none]⟩ := ex (.nil) (by kernel_rfl)
theorem k295 : ACall Tryz.prog 127 [.val (.c (lF [u 6])), .val (.c (lF [u 4]))] ⟨[.val (.c (lF [u 2]))], [none, none]⟩ := ex (.cons k45 .nil) (by kernel_rfl)
theorem k296 : ACall Tryz.prog 117 [.val (.c (bT)), .val (.c (lF [u 2]))] ⟨[.val (.agg [bT, lF [u 2]])], [none, none]⟩ := ex (.cons k45 .nil) (by kernel_rfl)
theorem k297 : ACall Tryz.prog 112 [.val (.agg [bT, lF [u 6]]), .val (.agg [bF, lF [u 4]])] ⟨[.val (.agg [bT, lF [u 2]])], [none, none]⟩ := ex (.cons k294 (.cons k295 (.cons k296 .nil))) (by kernel_rfl)
theorem k298 : ACall Tryz.prog 98 [.val (.agg [bT, lF [u 2]]), .val (.agg [bF, lF [u 3]])] ⟨[.val (.agg [bF, l1])], [none, none]⟩ := ex (.cons k45 (.cons k46 (.cons k241 (.cons k276 (.cons k48 (.cons k278 (.cons k36 (.cons k38 .nil)))))))) (by kernel_rfl)
theorem k299 : ACall Tryz.prog 104 [.val (.agg [bT, lF [u 2]]), .val (.agg [bF, lF [u 3]])] ⟨[.val (.agg [bT, lF [u 2], bF, lF [u 3]])], [none, none]⟩ := ex (.cons k247 (.cons k298 (.cons k50 .nil))) (by kernel_rfl)
theorem k300 : ACall Tryz.prog 87 [.val (.agg [bT, lF [u 2], bF, l1]), .val (.agg [bF, lF [u 4], bF, lF [u 3]])] ⟨[.val (.agg [bT, lF [u 2], bF, lF [u 3]])], [none, none]⟩ := ex (.cons k291 (.cons k293 (.cons k297 (.cons k286 (.cons k299 .nil))))) (by kernel_rfl)
theorem k301 : ACall Tryz.prog 98 [.val (.agg [bF, lF [u 6]]), .val (.agg [bF, lF [u 3]])] ⟨[.val (.agg [bF, lF [u 3]])], [none, none]⟩ := ex (.cons k250 (.cons k261 (.cons k241 (.cons k276 (.cons k262 (.cons k278 (.cons k240 (.cons k242 .nil)))))))) (by kernel_rfl)
theorem k302 : ACall Tryz.prog 126 [.val (.c (lF [u 6])), .val (.c (lF [u 3]))] ⟨[.val (.c (n64 1))], [none, none]⟩ := ex (.nil) (by kernel_rfl)
theorem k303 : ACall Tryz.prog 131 [.val (.c (lF [u 6])), .val (.c (w64 3))] ⟨[.val (.c (lF [u 2])), .val (.c (w64 0))], [none, none]⟩ := ex (.cons k45 .nil) (by kernel_rfl)
theorem k304 : ACall Tryz.prog 119 [.val (.c (lF [u 6])), .val (.c (lF [u 3]))] ⟨[.val (.c (lF [u 2])), .val (.c (lF []))], [none, none]⟩ := ex (.cons k250 (.cons k241 (.cons k302 (.cons k303 (.cons k31 .nil))))) (by kernel_rfl)
theorem k305 : ACall Tryz.prog 121 [.val (.agg [bF, lF [u 6]]), .val (.agg [bF, lF [u 3]])] ⟨[.val (.agg [bF, lF [u 2]]), .val (.agg [bF, lT []]), .val (.c (n64 0))], [none, none]⟩ := ex (.cons k241 (.cons k304 (.cons k67 (.cons k33 .nil)))) (by kernel_rfl)
theorem k306 : ACall Tryz.prog 126 [.val (.c (lF [u 3])), .val (.c (lF [u 3]))] ⟨[.val (.c (n64 0))], [none, none]⟩ := ex (.nil) (by kernel_rfl)
theorem k307 : ACall Tryz.prog 131 [.val (.c (lF [u 3])), .val (.c (w64 3))] ⟨[.val (.c (l1)), .val (.c (w64 0))], [none, none]⟩ := ex (.cons k37 .nil) (by kernel_rfl)
theorem k308 : ACall Tryz.prog 119 [.val (.c (lF [u 3])), .val (.c (lF [u 3]))] ⟨[.val (.c (l1)), .val (.c (lF []))], [none, none]⟩ := ex (.cons k241 (.cons k306 (.cons k307 (.cons k31 .nil)))) (by kernel_rfl)
theorem k309 : ACall Tryz.prog 121 [.val (.agg [bF, lF [u 3]]), .val (.agg [bF, lF [u 3]])] ⟨[.val (.agg [bF, l1]), .val (.agg [bF, lT []]), .val (.c (n64 0))], [none, none]⟩ := ex (.cons k241 (.cons k308 (.cons k38 (.cons k33 .nil)))) (by kernel_rfl)
theorem k310 : ACall Tryz.prog 104 [.val (.agg [bF, lF [u 6]]), .val (.agg [bF, lF [u 3]])] ⟨[.val (.agg [bF, lF [u 2], bF, l1])], [none, none]⟩ := ex (.cons k247 (.cons k301 (.cons k305 (.cons k309 .nil)))) (by kernel_rfl)
theorem k311 : ACall Tryz.prog 136 [.val (.c (l1)), .val (.c (lF [u 2]))] ⟨[.val (.c (lF [u 2]))], [none, none]⟩ := ex (.cons k65 .nil) (by kernel_rfl)
theorem k312 : ACall Tryz.prog 122 [.val (.agg [bT, l1]), .val (.agg [bF, lF [u 2]])] ⟨[.val (.agg [bT, lF [u 2]])], [none, none]⟩ := ex (.cons k311 (.cons k296 .nil)) (by kernel_rfl)
theorem k313 : ACall Tryz.prog 105 [.val (.c (lF [[bT, l1], [bF, lF [u 2]]]))] ⟨[.val (.agg [bT, lF [u 2]])], [none]⟩ := ex (.cons k39 (.cons k74 (.cons k50 (.cons k43 (.cons k312 .nil))))) (by kernel_rfl)
theorem k314 : ACall Tryz.prog 68 [.val (.agg [bT, l1, bF, lF [u 3]]), .val (.agg [bF, lF [u 6], bF, l1])] ⟨[.val (.agg [bT, lF [u 2], bF, l1])], [none, none]⟩ := ex (.cons k64 (.cons k310 (.cons k313 (.cons k53 .nil)))) (by kernel_rfl)
theorem k315 : ACall Tryz.prog 105 [.val (.c (lF [[bT, lF [u 2]], [bF, l1]]))] ⟨[.val (.agg [bT, lF [u 2]])], [none]⟩ := ex (.cons k39 (.cons k231 (.cons k50 .nil))) (by kernel_rfl)
theorem k316 : ACall Tryz.prog 127 [.val (.c (lF [u 2])), .val (.c (lF [u 2]))] ⟨[.val (.c (lF []))], [none, none]⟩ := ex (.cons k78 .nil) (by kernel_rfl)
theorem k317 : ACall Tryz.prog 112 [.val (.agg [bF, lF [u 2]]), .val (.agg [bT, lF [u 2]])] ⟨[.val (.agg [bF, lT []])], [none, none]⟩ := ex (.cons k69 (.cons k316 (.cons k33 .nil))) (by kernel_rfl)
theorem k318 : ACall Tryz.prog 87 [.val (.agg [bF, lF [u 2], bF, l1]), .val (.agg [bT, lF [u 2], bF, l1])] ⟨[.val (.agg [bF, lT [], bF, l1])], [none, none]⟩ := ex (.cons k54 (.cons k315 (.cons k317 (.cons k53 (.cons k81 .nil))))) (by kernel_rfl)
theorem k319 : ACall Tryz.prog 63 [.bor 4 [[bF, lF [], bF, l1], [bF, lF [], bF, l1], [bT, lF [u 2], bF, l1], [bF, lF [u 2], bF, l1]], .val (.agg [bT, l1, bF, lF [u 3]]), .val (.c (lF [[bF, lF [], bF, l1], [bT, lF [u 4], bF, l1], [bF, lF [u 6], bF, l1]])), .val (.c (n64 1))] ⟨[], [some (.rows 4 [[bF, lF [], bF, l1], [bF, lF [], bF, l1], [bT, lF [u 2], bF, lF [u 3]], [bF, lT [], bF, l1]] false false), none, none, none]⟩ := ex (.cons k272 (.cons k62 (.cons k274 (.cons k287 (.cons k300 (.cons k256 (.cons k314 (.cons k318 .nil)))))))) (by kernel_rfl)
theorem k320 : ACall Tryz.prog 98 [.val (.agg [bT, lF [u 2]]), .val (.agg [bF, lF [u 6]])] ⟨[.val (.agg [bF, lF [u 2]])], [none, none]⟩ := ex (.cons k45 (.cons k46 (.cons k250 (.cons k261 (.cons k48 (.cons k262 (.cons k66 (.cons k67 .nil)))))))) (by kernel_rfl)
theorem k321 : ACall Tryz.prog 121 [.val (.agg [bT, lF [u 2]]), .val (.agg [bF, lF [u 2]])] ⟨[.val (.agg [bT, l1]), .val (.agg [bF, lT []]), .val (.c (n64 0))], [none, none]⟩ := ex (.cons k45 (.cons k71 (.cons k56 (.cons k33 .nil)))) (by kernel_rfl)
theorem k322 : ACall Tryz.prog 104 [.val (.agg [bT, lF [u 2]]), .val (.agg [bF, lF [u 6]])] ⟨[.val (.agg [bT, l1, bF, lF [u 3]])], [none, none]⟩ := ex (.cons k260 (.cons k320 (.cons k43 (.cons k321 (.cons k267 .nil))))) (by kernel_rfl)
theorem k323 : ACall Tryz.prog 98 [.val (.agg [bF, l1]), .val (.agg [bF, lF [u 3]])] ⟨[.val (.agg [bF, l1])], [none, none]⟩ := ex (.cons k37 (.cons k44 (.cons k241 (.cons k276 (.cons k47 (.cons k278 (.cons k36 (.cons k38 .nil)))))))) (by kernel_rfl)
theorem k324 : ACall Tryz.prog 104 [.val (.agg [bF, l1]), .val (.agg [bF, lF [u 3]])] ⟨[.val (.agg [bF, l1, bF, lF [u 3]])], [none, none]⟩ := ex (.cons k247 (.cons k323 (.cons k50 .nil))) (by kernel_rfl)
theorem k325 : ACall Tryz.prog 115 [.val (.c (lF [u 9, u 0]))] ⟨[.val (.c (lF [u 9]))], [none]⟩ := ex (.nil) (by kernel_rfl)
theorem k326 : ACall Tryz.prog 136 [.val (.c (lF [u 3])), .val (.c (lF [u 3]))] ⟨[.val (.c (lF [u 9]))], [none, none]⟩ := ex (.cons k325 .nil) (by kernel_rfl)
theorem k327 : ACall Tryz.prog 115 [.val (.c (lF [u 9]))] ⟨[.val (.c (lF [u 9]))], [none]⟩ := ex (.nil) (by kernel_rfl)
theorem k328 : ACall Tryz.prog 117 [.val (.c (bF)), .val (.c (lF [u 9]))] ⟨[.val (.agg [bF, lF [u 9]])], [none, none]⟩ := ex (.cons k327 .nil) (by kernel_rfl)
theorem k329 : ACall Tryz.prog 122 [.val (.agg [bF, lF [u 3]]), .val (.agg [bF, lF [u 3]])] ⟨[.val (.agg [bF, lF [u 9]])], [none, none]⟩ := ex (.cons k326 (.cons k328 .nil)) (by kernel_rfl)
theorem k330 : ACall Tryz.prog 105 [.val (.c (lF [[bF, lF [u 3]], [bF, lF [u 3]]]))] ⟨[.val (.agg [bF, lF [u 9]])], [none]⟩ := ex (.cons k39 (.cons k247 (.cons k50 (.cons k329 .nil)))) (by kernel_rfl)
theorem k331 : ACall Tryz.prog 68 [.val (.agg [bT, lF [u 2], bF, lF [u 3]]), .val (.agg [bF, l1, bF, lF [u 6]])] ⟨[.val (.agg [bT, l1, bF, lF [u 9]])], [none, none]⟩ := ex (.cons k322 (.cons k324 (.cons k75 (.cons k330 .nil)))) (by kernel_rfl)
theorem k332 : ACall Tryz.prog 69 [.val (.agg [bT, l1, bF, lF [u 9]])] ⟨[.val (.agg [bF, l1, bF, lF [u 9]])], [none]⟩ := ex (.cons k139 .nil) (by kernel_rfl)
theorem k333 : ACall Tryz.prog 58 [.val (.agg [bF, l1, bF, lF [u 9]])] ⟨[.val (.c (n64 1))], [none]⟩ := ex (.cons k103 .nil) (by kernel_rfl)
theorem k334 : ACall Tryz.prog 97 [.val (.agg [bF, lF [u 9]])] ⟨[.val (.c (bF))], [none]⟩ := ex (.nil) (by kernel_rfl)
theorem k335 : ACall Tryz.prog 114 [.val (.c (lF [u 9]))] ⟨[.val (.c (lF [u 9]))], [none]⟩ := ex (.nil) (by kernel_rfl)
theorem k336 : ACall Tryz.prog 116 [.val (.c (lF [u 9]))] ⟨[.val (.c (w64 9))], [none]⟩ := ex (.nil) (by kernel_rfl)
theorem k337 : ACall Tryz.prog 98 [.val (.agg [bT, lF [u 4]]), .val (.agg [bF, lF [u 9]])] ⟨[.val (.agg [bF, l1])], [none, none]⟩ := ex (.cons k234 (.cons k275 (.cons k327 (.cons k335 (.cons k277 (.cons k336 (.cons k36 (.cons k38 .nil)))))))) (by kernel_rfl)
theorem k338 : ACall Tryz.prog 104 [.val (.agg [bT, lF [u 4]]), .val (.agg [bF, lF [u 9]])] ⟨[.val (.agg [bT, lF [u 4], bF, lF [u 9]])], [none, none]⟩ := ex (.cons k334 (.cons k337 (.cons k50 .nil))) (by kernel_rfl)
theorem k339 : ACall Tryz.prog 105 [.val (.c (lF [[bF, l1], [bT, lF [u 4]]]))] ⟨[.val (.agg [bT, lF [u 4]])], [none]⟩ := ex (.cons k39 (.cons k50 (.cons k281 .nil))) (by kernel_rfl)
theorem k340 : ACall Tryz.prog 105 [.val (.c (lF [[bF, l1], [bF, lF [u 9]]]))] ⟨[.val (.agg [bF, lF [u 9]])], [none]⟩ := ex (.cons k39 (.cons k50 (.cons k334 .nil))) (by kernel_rfl)
theorem k341 : ACall Tryz.prog 68 [.val (.agg [bF, l1, bF, lF [u 9]]), .val (.agg [bT, lF [u 4], bF, l1])] ⟨[.val (.agg [bT, lF [u 4], bF, lF [u 9]])], [none, none]⟩ := ex (.cons k52 (.cons k338 (.cons k339 (.cons k340 .nil)))) (by kernel_rfl)
theorem k342 : ACall Tryz.prog 136 [.val (.c (lF [])), .val (.c (lF [u 9]))] ⟨[.val (.c (lF []))], [none, none]⟩ := ex (.cons k78 .nil) (by kernel_rfl)
theorem k343 : ACall Tryz.prog 122 [.val (.agg [bF, lF []]), .val (.agg [bF, lF [u 9]])] ⟨[.val (.agg [bF, lT []])], [none, none]⟩ := ex (.cons k342 (.cons k33 .nil)) (by kernel_rfl)
theorem k344 : ACall Tryz.prog 105 [.val (.c (lF [[bF, lF []], [bF, lF [u 9]]]))] ⟨[.val (.agg [bF, lT []])], [none]⟩ := ex (.cons k39 (.cons k130 (.cons k50 (.cons k334 (.cons k343 .nil))))) (by kernel_rfl)
theorem k345 : ACall Tryz.prog 105 [.val (.c (lF [[bT, lF [u 4]], [bF, l1]]))] ⟨[.val (.agg [bT, lF [u 4]])], [none]⟩ := ex (.cons k39 (.cons k281 (.cons k50 .nil))) (by kernel_rfl)
theorem k346 : ACall Tryz.prog 126 [.val (.c (lT [])), .val (.c (lF [u 4]))] ⟨[.val (.c (n64 (-1)))], [none, none]⟩ := ex (.nil) (by kernel_rfl)
theorem k347 : ACall Tryz.prog 127 [.val (.c (lF [u 4])), .val (.c (lT []))] ⟨[.val (.c (lF [u 4]))], [none, none]⟩ := ex (.cons k234 .nil) (by kernel_rfl)
theorem k348 : ACall Tryz.prog 112 [.val (.agg [bF, lT []]), .val (.agg [bT, lF [u 4]])] ⟨[.val (.agg [bT, lF [u 4]])], [none, none]⟩ := ex (.cons k346 (.cons k347 (.cons k235 .nil))) (by kernel_rfl)
theorem k349 : ACall Tryz.prog 87 [.val (.agg [bF, lF [], bF, l1]), .val (.agg [bT, lF [u 4], bF, lF [u 9]])] ⟨[.val (.agg [bT, lF [u 4], bF, lF [u 9]])], [none, none]⟩ := ex (.cons k344 (.cons k345 (.cons k348 (.cons k340 (.cons k338 .nil))))) (by kernel_rfl)
theorem k350 : ACall Tryz.prog 98 [.val (.agg [bF, lF [u 6]]), .val (.agg [bF, lF [u 9]])] ⟨[.val (.agg [bF, lF [u 3]])], [none, none]⟩ := ex (.cons k250 (.cons k261 (.cons k327 (.cons k335 (.cons k262 (.cons k336 (.cons k240 (.cons k242 .nil)))))))) (by kernel_rfl)
theorem k351 : ACall Tryz.prog 126 [.val (.c (lF [u 9])), .val (.c (lF [u 3]))] ⟨[.val (.c (n64 1))], [none, none]⟩ := ex (.nil) (by kernel_rfl)
theorem k352 : ACall Tryz.prog 131 [.val (.c (lF [u 9])), .val (.c (w64 3))] ⟨[.val (.c (lF [u 3])), .val (.c (w64 0))], [none, none]⟩ := ex (.cons k241 .nil) (by kernel_rfl)
theorem k353 : ACall Tryz.prog 119 [.val (.c (lF [u 9])), .val (.c (lF [u 3]))] ⟨[.val (.c (lF [u 3])), .val (.c (lF []))], [none, none]⟩ := ex (.cons k327 (.cons k241 (.cons k351 (.cons k352 (.cons k31 .nil))))) (by kernel_rfl)
theorem k354 : ACall Tryz.prog 121 [.val (.agg [bF, lF [u 9]]), .val (.agg [bF, lF [u 3]])] ⟨[.val (.agg [bF, lF [u 3]]), .val (.agg [bF, lT []]), .val (.c (n64 0))], [none, none]⟩ := ex (.cons k241 (.cons k353 (.cons k242 (.cons k33 .nil)))) (by kernel_rfl)
theorem k355 : ACall Tryz.prog 104 [.val (.agg [bF, lF [u 6]]), .val (.agg [bF, lF [u 9]])] ⟨[.val (.agg [bF, lF [u 2], bF, lF [u 3]])], [none, none]⟩ := ex (.cons k334 (.cons k350 (.cons k247 (.cons k305 (.cons k354 .nil))))) (by kernel_rfl)
theorem k356 : ACall Tryz.prog 68 [.val (.agg [bF, l1, bF, lF [u 9]]), .val (.agg [bF, lF [u 6], bF, l1])] ⟨[.val (.agg [bF, lF [u 2], bF, lF [u 3]])], [none, none]⟩ := ex (.cons k52 (.cons k355 (.cons k206 (.cons k286 .nil)))) (by kernel_rfl)
theorem k357 : ACall Tryz.prog 122 [.val (.agg [bF, lF [u 2]]), .val (.agg [bF, lF [u 3]])] ⟨[.val (.agg [bF, lF [u 6]])], [none, none]⟩ := ex (.cons k288 (.cons k251 .nil)) (by kernel_rfl)
theorem k358 : ACall Tryz.prog 105 [.val (.c (lF [[bF, lF [u 2]], [bF, lF [u 3]]]))] ⟨[.val (.agg [bF, lF [u 6]])], [none]⟩ := ex (.cons k39 (.cons k43 (.cons k50 (.cons k247 (.cons k357 .nil))))) (by kernel_rfl)
theorem k359 : ACall Tryz.prog 126 [.val (.c (lF [u 6])), .val (.c (lF [u 6]))] ⟨[.val (.c (n64 0))], [none, none]⟩ := ex (.nil) (by kernel_rfl)
theorem k360 : ACall Tryz.prog 127 [.val (.c (lF [u 6])), .val (.c (lF [u 6]))] ⟨[.val (.c (lF []))], [none, none]⟩ := ex (.cons k78 .nil) (by kernel_rfl)
theorem k361 : ACall Tryz.prog 117 [.val (.c (bT)), .val (.c (lF []))] ⟨[.val (.agg [bF, lT []])], [none, none]⟩ := ex (.cons k32 .nil) (by kernel_rfl)
theorem k362 : ACall Tryz.prog 112 [.val (.agg [bT, lF [u 6]]), .val (.agg [bF, lF [u 6]])] ⟨[.val (.agg [bF, lT []])], [none, none]⟩ := ex (.cons k359 (.cons k360 (.cons k361 .nil))) (by kernel_rfl)
theorem k363 : ACall Tryz.prog 118 [.val (.c (w64 9))] ⟨[.val (.c (lF [u 9]))], [none]⟩ := ex (.cons k325 .nil) (by kernel_rfl)
theorem k364 : ACall Tryz.prog 98 [.val (.agg [bF, lT []]), .val (.agg [bF, lF [u 9]])] ⟨[.val (.agg [bF, lF [u 9]])], [none, none]⟩ := ex (.cons k89 (.cons k96 (.cons k327 (.cons k335 (.cons k85 (.cons k336 (.cons k363 (.cons k328 .nil)))))))) (by kernel_rfl)
theorem k365 : ACall Tryz.prog 126 [.val (.c (lT [])), .val (.c (lF [u 9]))] ⟨[.val (.c (n64 (-1)))], [none, none]⟩ := ex (.nil) (by kernel_rfl)
theorem k366 : ACall Tryz.prog 119 [.val (.c (lT [])), .val (.c (lF [u 9]))] ⟨[.val (.c (lT [])), .val (.c (lT []))], [none, none]⟩ := ex (.cons k89 (.cons k327 (.cons k365 (.cons k96 .nil)))) (by kernel_rfl)
theorem k367 : ACall Tryz.prog 121 [.val (.agg [bF, lT []]), .val (.agg [bF, lF [u 9]])] ⟨[.val (.agg [bF, lT []]), .val (.agg [bF, lT []]), .val (.c (n64 0))], [none, none]⟩ := ex (.cons k327 (.cons k366 (.cons k90 .nil))) (by kernel_rfl)
theorem k368 : ACall Tryz.prog 126 [.val (.c (lF [u 9])), .val (.c (lF [u 9]))] ⟨[.val (.c (n64 0))], [none, none]⟩ := ex (.nil) (by kernel_rfl)
theorem k369 : ACall Tryz.prog 131 [.val (.c (lF [u 9])), .val (.c (w64 9))] ⟨[.val (.c (l1)), .val (.c (w64 0))], [none, none]⟩ := ex (.cons k37 .nil) (by kernel_rfl)
theorem k370 : ACall Tryz.prog 119 [.val (.c (lF [u 9])), .val (.c (lF [u 9]))] ⟨[.val (.c (l1)), .val (.c (lF []))], [none, none]⟩ := ex (.cons k327 (.cons k368 (.cons k369 (.cons k31 .nil)))) (by kernel_rfl)
theorem k371 : ACall Tryz.prog 121 [.val (.agg [bF, lF [u 9]]), .val (.agg [bF, lF [u 9]])] ⟨[.val (.agg [bF, l1]), .val (.agg [bF, lT []]), .val (.c (n64 0))], [none, none]⟩ := ex (.cons k327 (.cons k370 (.cons k38 (.cons k33 .nil)))) (by kernel_rfl)
theorem k372 : ACall Tryz.prog 104 [.val (.agg [bF, lT []]), .val (.agg [bF, lF [u 9]])] ⟨[.val (.agg [bF, lT [], bF, l1])], [none, none]⟩ := ex (.cons k334 (.cons k364 (.cons k367 (.cons k371 .nil)))) (by kernel_rfl)
theorem k373 : ACall Tryz.prog 87 [.val (.agg [bT, lF [u 2], bF, lF [u 3]]), .val (.agg [bF, lF [u 2], bF, lF [u 3]])] ⟨[.val (.agg [bF, lT [], bF, l1])], [none, none]⟩ := ex (.cons k291 (.cons k358 (.cons k362 (.cons k330 (.cons k372 .nil))))) (by kernel_rfl)
theorem k374 : ACall Tryz.prog 63 [.bor 4 [[bF, lF [], bF, l1], [bF, lF [], bF, l1], [bT, lF [u 2], bF, lF [u 3]], [bF, lT [], bF, l1]], .val (.agg [bF, l1, bF, lF [u 9]]), .val (.c (lF [[bF, lF [], bF, l1], [bT, lF [u 4], bF, l1], [bF, lF [u 6], bF, l1]])), .val (.c (n64 0))] ⟨[], [some (.rows 4 [[bF, lF [], bF, l1], [bT, lF [u 4], bF, lF [u 9]], [bF, lT [], bF, l1], [bF, lT [], bF, l1]] false false), none, none, none]⟩ := ex (.cons k333 (.cons k62 (.cons k274 (.cons k341 (.cons k349 (.cons k256 (.cons k356 (.cons k373 .nil)))))))) (by kernel_rfl)
end Go.Proofs.YtdhidmcjglokcaaGreat.Mem
end

section
set_option linter.unusedVariables false
set_option linter.unusedSimpArgs false
/-
  A closed call, one function at a time, part 4 (printed by a program of mine).
-/
set_option maxRecDepth 100000
set_option maxHeartbeats 0
namespace Go.Proofs.YtdhidmcjglokcaaGreat.Mem
open Go Go.Abs Go.Proofs
theorem k375 : ACall Tryz.prog 58 [.val (.agg [bF, l1, bF, lF [u 3]])] ⟨[.val (.c (n64 1))], [none]⟩ := ex (.cons k103 .nil) (by kernel_rfl)
theorem k376 : ACall Tryz.prog 64 [.val (.c (lF [[bT, l1, bF, lF [u 9]], [bF, l1, bF, lF [u 3]]]))] ⟨[.val (.c (lF [[bT, l1, bF, lF [u 9]], [bF, l1, bF, lF [u 3]]]))], [none]⟩ := ex (.cons k375 .nil) (by kernel_rfl)
theorem k377 : ACall Tryz.prog 58 [.val (.agg [bT, lF [u 4], bF, lF [u 9]])] ⟨[.val (.c (n64 (-1)))], [none]⟩ := ex (.cons k273 .nil) (by kernel_rfl)
theorem k378 : ACall Tryz.prog 64 [.val (.c (lF [[bF, lF [], bF, l1], [bT, lF [u 4], bF, lF [u 9]]]))] ⟨[.val (.c (lF [[bF, lF [], bF, l1], [bT, lF [u 4], bF, lF [u 9]]]))], [none]⟩ := ex (.cons k377 .nil) (by kernel_rfl)
theorem k379 : ACall Tryz.prog 23 [.val (.c (lF [[bF, lF [], bF, l1], [bF, lF [], bF, l1], [bT, lF [u 2], bF, l1], [bF, lF [u 2], bF, l1]])), .val (.c (lF [[bF, lF [], bF, l1], [bT, lF [u 4], bF, l1], [bF, lF [u 6], bF, l1]]))] ⟨[.val (.c (lF [[bT, l1, bF, lF [u 9]], [bF, l1, bF, lF [u 3]]])), .val (.c (lF [[bF, lF [], bF, l1], [bT, lF [u 4], bF, lF [u 9]]])), .val (.c (n64 0))], [none, none]⟩ := ex (.cons k259 (.cons k42 (.cons k270 (.cons k271 (.cons k319 (.cons k331 (.cons k332 (.cons k374 (.cons k376 (.cons k378 .nil)))))))))) (by kernel_rfl)
theorem k380 : ACall Tryz.prog 117 [.val (.c (bT)), .val (.c (lF [u 9]))] ⟨[.val (.agg [bT, lF [u 9]])], [none, none]⟩ := ex (.cons k327 .nil) (by kernel_rfl)
theorem k381 : ACall Tryz.prog 103 [.val (.agg [bF, lF [u 9]])] ⟨[.val (.agg [bT, lF [u 9]])], [none]⟩ := ex (.cons k335 (.cons k380 .nil)) (by kernel_rfl)
theorem k382 : ACall Tryz.prog 103 [.val (.agg [bT, lF [u 4]])] ⟨[.val (.agg [bF, lF [u 4]])], [none]⟩ := ex (.cons k275 (.cons k283 .nil)) (by kernel_rfl)
theorem k383 : ACall Tryz.prog 67 [.val (.agg [bT, lF [u 4], bF, lF [u 9]])] ⟨[.val (.agg [bT, lF [u 9], bF, lF [u 4]]), .val (.c (n64 0))], [none]⟩ := ex (.cons k273 (.cons k381 (.cons k382 .nil))) (by kernel_rfl)
theorem k384 : ACall Tryz.prog 76 [.val (.c (lF [[bF, lF [], bF, l1], [bT, lF [u 4], bF, lF [u 9]]]))] ⟨[.val (.agg [bT, lF [u 9], bF, lF [u 4]])], [none]⟩ := ex (.cons k383 .nil) (by kernel_rfl)
theorem k385 : ACall Tryz.prog 96 [.val (.agg [bT, lF [u 9]])] ⟨[.val (.c (n64 (-1)))], [none]⟩ := ex (.nil) (by kernel_rfl)
theorem k386 : ACall Tryz.prog 58 [.val (.agg [bT, lF [u 9], bF, lF [u 4]])] ⟨[.val (.c (n64 (-1)))], [none]⟩ := ex (.cons k385 .nil) (by kernel_rfl)
theorem k387 : ACall Tryz.prog 98 [.val (.agg [bT, lF [u 9]]), .val (.agg [bF, lF [u 9]])] ⟨[.val (.agg [bF, lF [u 9]])], [none, none]⟩ := ex (.cons k327 (.cons k335 (.cons k336 (.cons k363 (.cons k328 .nil))))) (by kernel_rfl)
theorem k388 : ACall Tryz.prog 121 [.val (.agg [bT, lF [u 9]]), .val (.agg [bF, lF [u 9]])] ⟨[.val (.agg [bT, l1]), .val (.agg [bF, lT []]), .val (.c (n64 0))], [none, none]⟩ := ex (.cons k327 (.cons k370 (.cons k56 (.cons k33 .nil)))) (by kernel_rfl)
theorem k389 : ACall Tryz.prog 104 [.val (.agg [bT, lF [u 9]]), .val (.agg [bF, lF [u 9]])] ⟨[.val (.agg [bT, l1, bF, l1])], [none, none]⟩ := ex (.cons k334 (.cons k387 (.cons k388 (.cons k371 .nil)))) (by kernel_rfl)
theorem k390 : ACall Tryz.prog 118 [.val (.c (w64 4))] ⟨[.val (.c (lF [u 4]))], [none]⟩ := ex (.cons k232 .nil) (by kernel_rfl)
theorem k391 : ACall Tryz.prog 98 [.val (.agg [bT, lF [u 4]]), .val (.agg [bF, lF [u 4]])] ⟨[.val (.agg [bF, lF [u 4]])], [none, none]⟩ := ex (.cons k234 (.cons k275 (.cons k277 (.cons k390 (.cons k283 .nil))))) (by kernel_rfl)
theorem k392 : ACall Tryz.prog 126 [.val (.c (lF [u 4])), .val (.c (lF [u 4]))] ⟨[.val (.c (n64 0))], [none, none]⟩ := ex (.nil) (by kernel_rfl)
theorem k393 : ACall Tryz.prog 131 [.val (.c (lF [u 4])), .val (.c (w64 4))] ⟨[.val (.c (l1)), .val (.c (w64 0))], [none, none]⟩ := ex (.cons k37 .nil) (by kernel_rfl)
theorem k394 : ACall Tryz.prog 119 [.val (.c (lF [u 4])), .val (.c (lF [u 4]))] ⟨[.val (.c (l1)), .val (.c (lF []))], [none, none]⟩ := ex (.cons k234 (.cons k392 (.cons k393 (.cons k31 .nil)))) (by kernel_rfl)
theorem k395 : ACall Tryz.prog 121 [.val (.agg [bT, lF [u 4]]), .val (.agg [bF, lF [u 4]])] ⟨[.val (.agg [bT, l1]), .val (.agg [bF, lT []]), .val (.c (n64 0))], [none, none]⟩ := ex (.cons k234 (.cons k394 (.cons k56 (.cons k33 .nil)))) (by kernel_rfl)
theorem k396 : ACall Tryz.prog 121 [.val (.agg [bF, lF [u 4]]), .val (.agg [bF, lF [u 4]])] ⟨[.val (.agg [bF, l1]), .val (.agg [bF, lT []]), .val (.c (n64 0))], [none, none]⟩ := ex (.cons k234 (.cons k394 (.cons k38 (.cons k33 .nil)))) (by kernel_rfl)
theorem k397 : ACall Tryz.prog 104 [.val (.agg [bT, lF [u 4]]), .val (.agg [bF, lF [u 4]])] ⟨[.val (.agg [bT, l1, bF, l1])], [none, none]⟩ := ex (.cons k292 (.cons k391 (.cons k395 (.cons k396 .nil)))) (by kernel_rfl)
theorem k398 : ACall Tryz.prog 68 [.val (.agg [bT, lF [u 9], bF, lF [u 4]]), .val (.agg [bT, lF [u 4], bF, lF [u 9]])] ⟨[.val (.agg [bF, l1, bF, l1])], [none, none]⟩ := ex (.cons k389 (.cons k397 (.cons k144 (.cons k53 .nil)))) (by kernel_rfl)
theorem k399 : ACall Tryz.prog 63 [.bor 4 [[bF, lT [], bF, l1], [bF, lT [], bF, l1]], .val (.agg [bT, lF [u 9], bF, lF [u 4]]), .val (.c (lF [[bF, lF [], bF, l1], [bT, lF [u 4], bF, lF [u 9]]])), .val (.c (n64 0))] ⟨[], [some (.rows 4 [[bF, lT [], bF, l1], [bF, l1, bF, l1]] false false), none, none, none]⟩ := ex (.cons k386 (.cons k62 (.cons k377 (.cons k398 (.cons k148 .nil))))) (by kernel_rfl)
theorem k400 : ACall Tryz.prog 64 [.val (.c (lF [[bF, lT [], bF, l1], [bF, l1, bF, l1]]))] ⟨[.val (.c (lF [[bF, lT [], bF, l1], [bF, l1, bF, l1]]))], [none]⟩ := ex (.cons k106 .nil) (by kernel_rfl)
theorem k401 : ACall Tryz.prog 21 [.val (.agg [bT, lF [u 9], bF, lF [u 4]]), .val (.c (lF [[bF, lF [], bF, l1], [bT, lF [u 4], bF, lF [u 9]]]))] ⟨[.val (.c (lF [[bF, lT [], bF, l1], [bF, l1, bF, l1]]))], [none, none]⟩ := ex (.cons k42 (.cons k399 (.cons k400 .nil))) (by kernel_rfl)
theorem k402 : ACall Tryz.prog 71 [.val (.c (lF [[bT, l1, bF, lF [u 9]], [bF, l1, bF, lF [u 3]]])), .val (.agg [bT, lF [u 9], bF, lF [u 4]])] ⟨[], [none, none]⟩ := ex (.nil) (by kernel_rfl)
theorem k403 : ACall Tryz.prog 104 [.val (.agg [bF, lF [u 6]]), .val (.agg [bF, l1])] ⟨[.val (.agg [bF, lF [u 6], bF, l1])], [none, none]⟩ := ex (.cons k50 .nil) (by kernel_rfl)
theorem k404 : ACall Tryz.prog 105 [.val (.c (lF [[bF, lF [u 6]], [bF, l1]]))] ⟨[.val (.agg [bF, lF [u 6]])], [none]⟩ := ex (.cons k39 (.cons k260 (.cons k50 .nil))) (by kernel_rfl)
theorem k405 : ACall Tryz.prog 68 [.val (.agg [bF, lF [u 6], bF, l1]), .val (.agg [bF, l1, bF, l1])] ⟨[.val (.agg [bF, lF [u 6], bF, l1])], [none, none]⟩ := ex (.cons k403 (.cons k52 (.cons k404 (.cons k53 .nil)))) (by kernel_rfl)
theorem k406 : ACall Tryz.prog 103 [.val (.agg [bF, lF [u 6]])] ⟨[.val (.agg [bT, lF [u 6]])], [none]⟩ := ex (.cons k261 (.cons k289 .nil)) (by kernel_rfl)
theorem k407 : ACall Tryz.prog 69 [.val (.agg [bF, lF [u 6], bF, l1])] ⟨[.val (.agg [bT, lF [u 6], bF, l1])], [none]⟩ := ex (.cons k406 .nil) (by kernel_rfl)
theorem k408 : ACall Tryz.prog 96 [.val (.agg [bT, lF [u 6]])] ⟨[.val (.c (n64 (-1)))], [none]⟩ := ex (.nil) (by kernel_rfl)
theorem k409 : ACall Tryz.prog 58 [.val (.agg [bT, lF [u 6], bF, l1])] ⟨[.val (.c (n64 (-1)))], [none]⟩ := ex (.cons k408 .nil) (by kernel_rfl)
theorem k410 : ACall Tryz.prog 104 [.val (.agg [bT, lF [u 6]]), .val (.agg [bF, l1])] ⟨[.val (.agg [bT, lF [u 6], bF, l1])], [none, none]⟩ := ex (.cons k50 .nil) (by kernel_rfl)
theorem k411 : ACall Tryz.prog 97 [.val (.agg [bT, lF [u 6]])] ⟨[.val (.c (bF))], [none]⟩ := ex (.nil) (by kernel_rfl)
theorem k412 : ACall Tryz.prog 105 [.val (.c (lF [[bT, lF [u 6]], [bF, l1]]))] ⟨[.val (.agg [bT, lF [u 6]])], [none]⟩ := ex (.cons k39 (.cons k411 (.cons k50 .nil))) (by kernel_rfl)
theorem k413 : ACall Tryz.prog 68 [.val (.agg [bT, lF [u 6], bF, l1]), .val (.agg [bF, l1, bF, l1])] ⟨[.val (.agg [bT, lF [u 6], bF, l1])], [none, none]⟩ := ex (.cons k410 (.cons k52 (.cons k412 (.cons k53 .nil)))) (by kernel_rfl)
theorem k414 : ACall Tryz.prog 112 [.val (.agg [bF, lF [u 6]]), .val (.agg [bT, lF [u 6]])] ⟨[.val (.agg [bF, lT []])], [none, none]⟩ := ex (.cons k359 (.cons k360 (.cons k33 .nil))) (by kernel_rfl)
theorem k415 : ACall Tryz.prog 87 [.val (.agg [bF, lF [u 6], bF, l1]), .val (.agg [bT, lF [u 6], bF, l1])] ⟨[.val (.agg [bF, lT [], bF, l1])], [none, none]⟩ := ex (.cons k404 (.cons k412 (.cons k414 (.cons k53 (.cons k81 .nil))))) (by kernel_rfl)
theorem k416 : ACall Tryz.prog 63 [.bor 4 [[bF, lF [], bF, l1], [bT, lF [u 4], bF, l1], [bF, lF [u 6], bF, l1]], .val (.agg [bT, lF [u 6], bF, l1]), .val (.c (lF [[bF, lT [], bF, l1], [bF, l1, bF, l1]])), .val (.c (n64 1))] ⟨[], [some (.rows 4 [[bF, lF [], bF, l1], [bT, lF [u 4], bF, l1], [bF, lT [], bF, l1]] false false), none, none, none]⟩ := ex (.cons k409 (.cons k101 (.cons k106 (.cons k413 (.cons k415 .nil))))) (by kernel_rfl)
theorem k417 : ACall Tryz.prog 104 [.val (.agg [bT, lF [u 4]]), .val (.agg [bF, l1])] ⟨[.val (.agg [bT, lF [u 4], bF, l1])], [none, none]⟩ := ex (.cons k50 .nil) (by kernel_rfl)
theorem k418 : ACall Tryz.prog 68 [.val (.agg [bT, lF [u 4], bF, l1]), .val (.agg [bF, l1, bF, l1])] ⟨[.val (.agg [bT, lF [u 4], bF, l1])], [none, none]⟩ := ex (.cons k417 (.cons k52 (.cons k345 (.cons k53 .nil)))) (by kernel_rfl)
theorem k419 : ACall Tryz.prog 69 [.val (.agg [bT, lF [u 4], bF, l1])] ⟨[.val (.agg [bF, lF [u 4], bF, l1])], [none]⟩ := ex (.cons k382 .nil) (by kernel_rfl)
theorem k420 : ACall Tryz.prog 96 [.val (.agg [bF, lF [u 4]])] ⟨[.val (.c (n64 1))], [none]⟩ := ex (.nil) (by kernel_rfl)
theorem k421 : ACall Tryz.prog 58 [.val (.agg [bF, lF [u 4], bF, l1])] ⟨[.val (.c (n64 1))], [none]⟩ := ex (.cons k420 .nil) (by kernel_rfl)
theorem k422 : ACall Tryz.prog 104 [.val (.agg [bF, lF [u 4]]), .val (.agg [bF, l1])] ⟨[.val (.agg [bF, lF [u 4], bF, l1])], [none, none]⟩ := ex (.cons k50 .nil) (by kernel_rfl)
theorem k423 : ACall Tryz.prog 68 [.val (.agg [bF, lF [u 4], bF, l1]), .val (.agg [bF, l1, bF, l1])] ⟨[.val (.agg [bF, lF [u 4], bF, l1])], [none, none]⟩ := ex (.cons k422 (.cons k52 (.cons k293 (.cons k53 .nil)))) (by kernel_rfl)
theorem k424 : ACall Tryz.prog 127 [.val (.c (lF [u 4])), .val (.c (lF [u 4]))] ⟨[.val (.c (lF []))], [none, none]⟩ := ex (.cons k78 .nil) (by kernel_rfl)
theorem k425 : ACall Tryz.prog 112 [.val (.agg [bT, lF [u 4]]), .val (.agg [bF, lF [u 4]])] ⟨[.val (.agg [bF, lT []])], [none, none]⟩ := ex (.cons k392 (.cons k424 (.cons k361 .nil))) (by kernel_rfl)
theorem k426 : ACall Tryz.prog 87 [.val (.agg [bT, lF [u 4], bF, l1]), .val (.agg [bF, lF [u 4], bF, l1])] ⟨[.val (.agg [bF, lT [], bF, l1])], [none, none]⟩ := ex (.cons k345 (.cons k293 (.cons k425 (.cons k53 (.cons k81 .nil))))) (by kernel_rfl)
theorem k427 : ACall Tryz.prog 63 [.bor 4 [[bF, lF [], bF, l1], [bT, lF [u 4], bF, l1], [bF, lT [], bF, l1]], .val (.agg [bF, lF [u 4], bF, l1]), .val (.c (lF [[bF, lT [], bF, l1], [bF, l1, bF, l1]])), .val (.c (n64 0))] ⟨[], [some (.rows 4 [[bF, lF [], bF, l1], [bF, lT [], bF, l1], [bF, lT [], bF, l1]] false false), none, none, none]⟩ := ex (.cons k421 (.cons k101 (.cons k106 (.cons k423 (.cons k426 .nil))))) (by kernel_rfl)
theorem k428 : ACall Tryz.prog 64 [.val (.c (lF [[bT, lF [u 4], bF, l1], [bF, lF [u 6], bF, l1]]))] ⟨[.val (.c (lF [[bT, lF [u 4], bF, l1], [bF, lF [u 6], bF, l1]]))], [none]⟩ := ex (.cons k256 .nil) (by kernel_rfl)
theorem k429 : ACall Tryz.prog 64 [.val (.c (lF [[bF, lF [], bF, l1]]))] ⟨[.val (.c (lF []))], [none]⟩ := ex (.cons k62 .nil) (by kernel_rfl)
theorem k430 : ACall Tryz.prog 23 [.val (.c (lF [[bF, lF [], bF, l1], [bT, lF [u 4], bF, l1], [bF, lF [u 6], bF, l1]])), .val (.c (lF [[bF, lT [], bF, l1], [bF, l1, bF, l1]]))] ⟨[.val (.c (lF [[bT, lF [u 4], bF, l1], [bF, lF [u 6], bF, l1]])), .val (.c (lF [])), .val (.c (n64 0))], [none, none]⟩ := ex (.cons k124 (.cons k42 (.cons k405 (.cons k407 (.cons k416 (.cons k418 (.cons k419 (.cons k427 (.cons k428 (.cons k429 .nil)))))))))) (by kernel_rfl)
theorem k431 : ACall Tryz.prog 71 [.val (.c (lF [[bT, lF [u 4], bF, l1], [bF, lF [u 6], bF, l1]])), .val (.agg [bF, l1, bF, l1])] ⟨[], [none, none]⟩ := ex (.nil) (by kernel_rfl)
theorem k432 : ACall Tryz.prog 70 [.val (.c (lF [[bF, lF [], bF, l1], [bF, lF [], bF, l1], [bT, lF [u 2], bF, l1], [bF, lF [u 2], bF, l1]])), .val (.c (lF [[bF, lF [], bF, l1], [bT, lF [u 4], bF, l1], [bF, lF [u 6], bF, l1]])), .val (.c (.v (.func (.func 71) #[] #[])))] ⟨[.val (.c (lF [[bF, lT [], bF, l1], [bF, l1, bF, l1]]))], [none, none, none]⟩ := ex (.cons k379 (.cons k120 (.cons k384 (.cons k401 (.cons k402 (.cons k430 (.cons k431 .nil))))))) (by kernel_rfl)
theorem k433 : ACall Tryz.prog 63 [.bor 4 [[bF, lT [], bF, l1], [bF, lT [], bF, l1]], .val (.agg [bF, l1, bF, l1]), .val (.c (lF [[bF, lT [], bF, l1], [bF, l1, bF, l1]])), .val (.c (n64 0))] ⟨[], [some (.rows 4 [[bF, lT [], bF, l1], [bF, l1, bF, l1]] false false), none, none, none]⟩ := ex (.cons k106 (.cons k101 (.cons k126 (.cons k148 .nil)))) (by kernel_rfl)
theorem k434 : ACall Tryz.prog 21 [.val (.agg [bF, l1, bF, l1]), .val (.c (lF [[bF, lT [], bF, l1], [bF, l1, bF, l1]]))] ⟨[.val (.c (lF [[bF, lT [], bF, l1], [bF, l1, bF, l1]]))], [none, none]⟩ := ex (.cons k42 (.cons k433 (.cons k400 .nil))) (by kernel_rfl)
theorem k435 : ACall Tryz.prog 32 [.val (.c (lF [[bF, lT [], bF, l1], [bF, l1, bF, l1]]))] ⟨[.val (.c (lF [[bF, lT [], bF, l1], [bF, l1, bF, l1]]))], [none]⟩ := ex (.cons k124 (.cons k434 .nil)) (by kernel_rfl)
theorem k436 : ACall Tryz.prog 25 [.val (.c (lF [[bF, lF [], bF, l1], [bF, lF [], bF, l1], [bT, lF [u 2], bF, l1], [bF, lF [u 2], bF, l1]])), .val (.c (lF [[bF, lF [], bF, l1], [bT, lF [u 4], bF, l1], [bF, lF [u 6], bF, l1]]))] ⟨[.val (.c (lF [[bF, lT [], bF, l1], [bF, l1, bF, l1]]))], [none, none]⟩ := ex (.cons k432 (.cons k435 .nil)) (by kernel_rfl)
theorem k437 : ACall Tryz.prog 62 [.val (.c (n64 4))] ⟨[.own 4 [[bF, lT [], bF, l1], [bF, lT [], bF, l1], [bF, lT [], bF, l1], [bF, lT [], bF, l1]]], [none]⟩ := ex (.cons k41 .nil) (by kernel_rfl)
theorem k438 : ACall Tryz.prog 96 [.val (.agg [bT, lF [u 2]])] ⟨[.val (.c (n64 (-1)))], [none]⟩ := ex (.nil) (by kernel_rfl)
theorem k439 : ACall Tryz.prog 58 [.val (.agg [bT, lF [u 2], bF, l1])] ⟨[.val (.c (n64 (-1)))], [none]⟩ := ex (.cons k438 .nil) (by kernel_rfl)
theorem k440 : ACall Tryz.prog 98 [.val (.agg [bT, lF [u 2]]), .val (.agg [bF, lF [u 2]])] ⟨[.val (.agg [bF, lF [u 2]])], [none, none]⟩ := ex (.cons k45 (.cons k46 (.cons k48 (.cons k66 (.cons k67 .nil))))) (by kernel_rfl)
theorem k441 : ACall Tryz.prog 104 [.val (.agg [bT, lF [u 2]]), .val (.agg [bF, lF [u 2]])] ⟨[.val (.agg [bT, l1, bF, l1])], [none, none]⟩ := ex (.cons k43 (.cons k440 (.cons k321 (.cons k72 .nil)))) (by kernel_rfl)
theorem k442 : ACall Tryz.prog 68 [.val (.agg [bF, l1, bF, lF [u 2]]), .val (.agg [bT, lF [u 2], bF, l1])] ⟨[.val (.agg [bT, l1, bF, l1])], [none, none]⟩ := ex (.cons k52 (.cons k441 (.cons k170 (.cons k53 .nil)))) (by kernel_rfl)
theorem k443 : ACall Tryz.prog 63 [.bor 4 [[bF, lT [], bF, l1], [bF, lT [], bF, l1], [bF, lT [], bF, l1], [bF, lT [], bF, l1]], .val (.agg [bF, l1, bF, lF [u 2]]), .val (.c (lF [[bF, lF [], bF, l1], [bF, lF [], bF, l1], [bT, lF [u 2], bF, l1], [bF, lF [u 2], bF, l1]])), .val (.c (n64 0))] ⟨[], [some (.rows 4 [[bF, lT [], bF, l1], [bF, lT [], bF, l1], [bT, l1, bF, l1], [bF, l1, bF, l1]] false false), none, none, none]⟩ := ex (.cons k104 (.cons k62 (.cons k439 (.cons k442 (.cons k161 (.cons k63 (.cons k202 (.cons k148 .nil)))))))) (by kernel_rfl)
theorem k444 : ACall Tryz.prog 64 [.val (.c (lF [[bF, lT [], bF, l1], [bF, lT [], bF, l1], [bT, l1, bF, l1], [bF, l1, bF, l1]]))] ⟨[.val (.c (lF [[bF, lT [], bF, l1], [bF, lT [], bF, l1], [bT, l1, bF, l1], [bF, l1, bF, l1]]))], [none]⟩ := ex (.cons k106 .nil) (by kernel_rfl)
theorem k445 : ACall Tryz.prog 21 [.val (.agg [bF, l1, bF, lF [u 2]]), .val (.c (lF [[bF, lF [], bF, l1], [bF, lF [], bF, l1], [bT, lF [u 2], bF, l1], [bF, lF [u 2], bF, l1]]))] ⟨[.val (.c (lF [[bF, lT [], bF, l1], [bF, lT [], bF, l1], [bT, l1, bF, l1], [bF, l1, bF, l1]]))], [none, none]⟩ := ex (.cons k437 (.cons k443 (.cons k444 .nil))) (by kernel_rfl)
theorem k446 : ACall Tryz.prog 32 [.val (.c (lF [[bF, lF [], bF, l1], [bF, lF [], bF, l1], [bT, lF [u 2], bF, l1], [bF, lF [u 2], bF, l1]]))] ⟨[.val (.c (lF [[bF, lT [], bF, l1], [bF, lT [], bF, l1], [bT, l1, bF, l1], [bF, l1, bF, l1]]))], [none]⟩ := ex (.cons k29 (.cons k445 .nil)) (by kernel_rfl)
theorem k447 : ACall Tryz.prog 63 [.bor 4 [[bF, lT [], bF, l1], [bF, lT [], bF, l1], [bT, l1, bF, l1], [bF, l1, bF, l1]], .val (.agg [bT, l1, bF, l1]), .val (.c (lF [[bF, lT [], bF, l1], [bF, l1, bF, l1]])), .val (.c (n64 2))] ⟨[], [some (.rows 4 [[bF, lT [], bF, l1], [bF, lT [], bF, l1], [bT, l1, bF, l1], [bF, lT [], bF, l1]] false false), none, none, none]⟩ := ex (.cons k128 (.cons k101 (.cons k106 (.cons k129 (.cons k82 .nil))))) (by kernel_rfl)
theorem k448 : ACall Tryz.prog 69 [.val (.agg [bT, l1, bF, l1])] ⟨[.val (.agg [bF, l1, bF, l1])], [none]⟩ := ex (.cons k139 .nil) (by kernel_rfl)
theorem k449 : ACall Tryz.prog 112 [.val (.agg [bT, l1]), .val (.agg [bF, l1])] ⟨[.val (.agg [bF, lT []])], [none, none]⟩ := ex (.cons k77 (.cons k79 (.cons k361 .nil))) (by kernel_rfl)
theorem k450 : ACall Tryz.prog 87 [.val (.agg [bT, l1, bF, l1]), .val (.agg [bF, l1, bF, l1])] ⟨[.val (.agg [bF, lT [], bF, l1])], [none, none]⟩ := ex (.cons k75 (.cons k53 (.cons k449 (.cons k81 .nil)))) (by kernel_rfl)
theorem k451 : ACall Tryz.prog 63 [.bor 4 [[bF, lT [], bF, l1], [bF, lT [], bF, l1], [bT, l1, bF, l1], [bF, lT [], bF, l1]], .val (.agg [bF, l1, bF, l1]), .val (.c (lF [[bF, lT [], bF, l1], [bF, l1, bF, l1]])), .val (.c (n64 1))] ⟨[], [some (.rows 4 [[bF, lT [], bF, l1], [bF, lT [], bF, l1], [bF, lT [], bF, l1], [bF, lT [], bF, l1]] false false), none, none, none]⟩ := ex (.cons k106 (.cons k101 (.cons k126 (.cons k450 .nil)))) (by kernel_rfl)
theorem k452 : ACall Tryz.prog 68 [.val (.agg [bF, lT [], bF, l1]), .val (.agg [bF, l1, bF, l1])] ⟨[.val (.agg [bF, lT [], bF, l1])], [none, none]⟩ := ex (.cons k81 (.cons k52 (.cons k94 (.cons k53 .nil)))) (by kernel_rfl)
theorem k453 : ACall Tryz.prog 63 [.bor 4 [[bF, lT [], bF, l1], [bF, lT [], bF, l1], [bF, lT [], bF, l1], [bF, lT [], bF, l1]], .val (.agg [bF, lT [], bF, l1]), .val (.c (lF [[bF, lT [], bF, l1], [bF, l1, bF, l1]])), .val (.c (n64 0))] ⟨[], [some (.rows 4 [[bF, lT [], bF, l1], [bF, lT [], bF, l1], [bF, lT [], bF, l1], [bF, lT [], bF, l1]] false false), none, none, none]⟩ := ex (.cons k101 .nil) (by kernel_rfl)
theorem k454 : ACall Tryz.prog 64 [.val (.c (lF [[bF, lT [], bF, l1], [bT, l1, bF, l1], [bF, l1, bF, l1]]))] ⟨[.val (.c (lF [[bF, lT [], bF, l1], [bT, l1, bF, l1], [bF, l1, bF, l1]]))], [none]⟩ := ex (.cons k106 .nil) (by kernel_rfl)
theorem k455 : ACall Tryz.prog 23 [.val (.c (lF [[bF, lT [], bF, l1], [bF, lT [], bF, l1], [bT, l1, bF, l1], [bF, l1, bF, l1]])), .val (.c (lF [[bF, lT [], bF, l1], [bF, l1, bF, l1]]))] ⟨[.val (.c (lF [[bF, lT [], bF, l1], [bT, l1, bF, l1], [bF, l1, bF, l1]])), .val (.c (lF [])), .val (.c (n64 0))], [none, none]⟩ := ex (.cons k124 (.cons k222 (.cons k126 (.cons k127 (.cons k447 (.cons k129 (.cons k448 (.cons k451 (.cons k452 (.cons k99 (.cons k453 (.cons k454 (.cons k122 .nil))))))))))))) (by kernel_rfl)
theorem k456 : ACall Tryz.prog 75 [.val (.c (lF [[bF, lT [], bF, l1], [bF, lT [], bF, l1], [bT, l1, bF, l1], [bF, l1, bF, l1]])), .val (.c (lF [[bF, lT [], bF, l1], [bF, l1, bF, l1]]))] ⟨[.val (.c (lF [[bF, lT [], bF, l1], [bT, l1, bF, l1], [bF, l1, bF, l1]]))], [none, none]⟩ := ex (.cons k455 .nil) (by kernel_rfl)
theorem k457 : ACall Tryz.prog 76 [.val (.c (lF [[bF, lF [], bF, l1], [bF, lF [], bF, l1], [bT, lF [u 2], bF, l1], [bF, lF [u 2], bF, l1]]))] ⟨[.val (.agg [bF, l1, bF, lF [u 2]])], [none]⟩ := ex (.cons k29 .nil) (by kernel_rfl)
theorem k458 : ACall Tryz.prog 98 [.val (.agg [bT, lF [u 4]]), .val (.agg [bF, lF [u 2]])] ⟨[.val (.agg [bF, lF [u 2]])], [none, none]⟩ := ex (.cons k234 (.cons k275 (.cons k45 (.cons k46 (.cons k277 (.cons k48 (.cons k66 (.cons k67 .nil)))))))) (by kernel_rfl)
theorem k459 : ACall Tryz.prog 126 [.val (.c (lF [u 4])), .val (.c (lF [u 2]))] ⟨[.val (.c (n64 1))], [none, none]⟩ := ex (.nil) (by kernel_rfl)
theorem k460 : ACall Tryz.prog 131 [.val (.c (lF [u 4])), .val (.c (w64 2))] ⟨[.val (.c (lF [u 2])), .val (.c (w64 0))], [none, none]⟩ := ex (.cons k45 .nil) (by kernel_rfl)
theorem k461 : ACall Tryz.prog 119 [.val (.c (lF [u 4])), .val (.c (lF [u 2]))] ⟨[.val (.c (lF [u 2])), .val (.c (lF []))], [none, none]⟩ := ex (.cons k234 (.cons k45 (.cons k459 (.cons k460 (.cons k31 .nil))))) (by kernel_rfl)
theorem k462 : ACall Tryz.prog 121 [.val (.agg [bT, lF [u 4]]), .val (.agg [bF, lF [u 2]])] ⟨[.val (.agg [bT, lF [u 2]]), .val (.agg [bF, lT []]), .val (.c (n64 0))], [none, none]⟩ := ex (.cons k45 (.cons k461 (.cons k296 (.cons k33 .nil)))) (by kernel_rfl)
theorem k463 : ACall Tryz.prog 104 [.val (.agg [bT, lF [u 4]]), .val (.agg [bF, lF [u 2]])] ⟨[.val (.agg [bT, lF [u 2], bF, l1])], [none, none]⟩ := ex (.cons k43 (.cons k458 (.cons k462 (.cons k72 .nil)))) (by kernel_rfl)
theorem k464 : ACall Tryz.prog 105 [.val (.c (lF [[bF, l1], [bT, lF [u 2]]]))] ⟨[.val (.agg [bT, lF [u 2]])], [none]⟩ := ex (.cons k39 (.cons k50 (.cons k231 .nil))) (by kernel_rfl)
theorem k465 : ACall Tryz.prog 68 [.val (.agg [bF, l1, bF, lF [u 2]]), .val (.agg [bT, lF [u 4], bF, l1])] ⟨[.val (.agg [bT, lF [u 2], bF, l1])], [none, none]⟩ := ex (.cons k52 (.cons k463 (.cons k464 (.cons k53 .nil)))) (by kernel_rfl)
theorem k466 : ACall Tryz.prog 126 [.val (.c (lT [])), .val (.c (lF [u 2]))] ⟨[.val (.c (n64 (-1)))], [none, none]⟩ := ex (.nil) (by kernel_rfl)
theorem k467 : ACall Tryz.prog 127 [.val (.c (lF [u 2])), .val (.c (lT []))] ⟨[.val (.c (lF [u 2]))], [none, none]⟩ := ex (.cons k45 .nil) (by kernel_rfl)
theorem k468 : ACall Tryz.prog 112 [.val (.agg [bF, lT []]), .val (.agg [bT, lF [u 2]])] ⟨[.val (.agg [bT, lF [u 2]])], [none, none]⟩ := ex (.cons k466 (.cons k467 (.cons k296 .nil))) (by kernel_rfl)
theorem k469 : ACall Tryz.prog 87 [.val (.agg [bF, lT [], bF, l1]), .val (.agg [bT, lF [u 2], bF, l1])] ⟨[.val (.agg [bT, lF [u 2], bF, l1])], [none, none]⟩ := ex (.cons k94 (.cons k315 (.cons k468 (.cons k53 (.cons k230 .nil))))) (by kernel_rfl)
theorem k470 : ACall Tryz.prog 98 [.val (.agg [bF, lF [u 6]]), .val (.agg [bF, lF [u 2]])] ⟨[.val (.agg [bF, lF [u 2]])], [none, none]⟩ := ex (.cons k250 (.cons k261 (.cons k45 (.cons k46 (.cons k262 (.cons k48 (.cons k66 (.cons k67 .nil)))))))) (by kernel_rfl)
theorem k471 : ACall Tryz.prog 104 [.val (.agg [bF, lF [u 6]]), .val (.agg [bF, lF [u 2]])] ⟨[.val (.agg [bF, lF [u 3], bF, l1])], [none, none]⟩ := ex (.cons k43 (.cons k470 (.cons k267 (.cons k72 .nil)))) (by kernel_rfl)
theorem k472 : ACall Tryz.prog 68 [.val (.agg [bF, l1, bF, lF [u 2]]), .val (.agg [bF, lF [u 6], bF, l1])] ⟨[.val (.agg [bF, lF [u 3], bF, l1])], [none, none]⟩ := ex (.cons k52 (.cons k471 (.cons k286 (.cons k53 .nil)))) (by kernel_rfl)
theorem k473 : ACall Tryz.prog 125 [.val (.c (lT [])), .val (.c (lF [u 3]))] ⟨[.val (.c (lF [u 3]))], [none, none]⟩ := ex (.cons k239 .nil) (by kernel_rfl)
theorem k474 : ACall Tryz.prog 112 [.val (.agg [bF, lT []]), .val (.agg [bF, lF [u 3]])] ⟨[.val (.agg [bF, lF [u 3]])], [none, none]⟩ := ex (.cons k473 (.cons k242 .nil)) (by kernel_rfl)
theorem k475 : ACall Tryz.prog 87 [.val (.agg [bF, lT [], bF, l1]), .val (.agg [bF, lF [u 3], bF, l1])] ⟨[.val (.agg [bF, lF [u 3], bF, l1])], [none, none]⟩ := ex (.cons k94 (.cons k269 (.cons k474 (.cons k53 (.cons k246 .nil))))) (by kernel_rfl)
theorem k476 : ACall Tryz.prog 63 [.bor 4 [[bF, lT [], bF, l1], [bF, lT [], bF, l1], [bF, lT [], bF, l1]], .val (.agg [bF, l1, bF, lF [u 2]]), .val (.c (lF [[bF, lF [], bF, l1], [bT, lF [u 4], bF, l1], [bF, lF [u 6], bF, l1]])), .val (.c (n64 0))] ⟨[], [some (.rows 4 [[bF, lT [], bF, l1], [bT, lF [u 2], bF, l1], [bF, lF [u 3], bF, l1]] false false), none, none, none]⟩ := ex (.cons k104 (.cons k62 (.cons k274 (.cons k465 (.cons k469 (.cons k256 (.cons k472 (.cons k475 .nil)))))))) (by kernel_rfl)
theorem k477 : ACall Tryz.prog 96 [.val (.agg [bF, lF [u 3]])] ⟨[.val (.c (n64 1))], [none]⟩ := ex (.nil) (by kernel_rfl)
theorem k478 : ACall Tryz.prog 58 [.val (.agg [bF, lF [u 3], bF, l1])] ⟨[.val (.c (n64 1))], [none]⟩ := ex (.cons k477 .nil) (by kernel_rfl)
theorem k479 : ACall Tryz.prog 64 [.val (.c (lF [[bF, lT [], bF, l1], [bT, lF [u 2], bF, l1], [bF, lF [u 3], bF, l1]]))] ⟨[.val (.c (lF [[bF, lT [], bF, l1], [bT, lF [u 2], bF, l1], [bF, lF [u 3], bF, l1]]))], [none]⟩ := ex (.cons k478 .nil) (by kernel_rfl)
theorem k480 : ACall Tryz.prog 21 [.val (.agg [bF, l1, bF, lF [u 2]]), .val (.c (lF [[bF, lF [], bF, l1], [bT, lF [u 4], bF, l1], [bF, lF [u 6], bF, l1]]))] ⟨[.val (.c (lF [[bF, lT [], bF, l1], [bT, lF [u 2], bF, l1], [bF, lF [u 3], bF, l1]]))], [none, none]⟩ := ex (.cons k222 (.cons k476 (.cons k479 .nil))) (by kernel_rfl)
theorem k481 : ACall Tryz.prog 68 [.val (.agg [bF, lF [u 3], bF, l1]), .val (.agg [bF, l1, bF, l1])] ⟨[.val (.agg [bF, lF [u 3], bF, l1])], [none, none]⟩ := ex (.cons k246 (.cons k52 (.cons k269 (.cons k53 .nil)))) (by kernel_rfl)
theorem k482 : ACall Tryz.prog 117 [.val (.c (bT)), .val (.c (lF [u 3]))] ⟨[.val (.agg [bT, lF [u 3]])], [none, none]⟩ := ex (.cons k241 .nil) (by kernel_rfl)
theorem k483 : ACall Tryz.prog 103 [.val (.agg [bF, lF [u 3]])] ⟨[.val (.agg [bT, lF [u 3]])], [none]⟩ := ex (.cons k276 (.cons k482 .nil)) (by kernel_rfl)
theorem k484 : ACall Tryz.prog 69 [.val (.agg [bF, lF [u 3], bF, l1])] ⟨[.val (.agg [bT, lF [u 3], bF, l1])], [none]⟩ := ex (.cons k483 .nil) (by kernel_rfl)
theorem k485 : ACall Tryz.prog 96 [.val (.agg [bT, lF [u 3]])] ⟨[.val (.c (n64 (-1)))], [none]⟩ := ex (.nil) (by kernel_rfl)
theorem k486 : ACall Tryz.prog 58 [.val (.agg [bT, lF [u 3], bF, l1])] ⟨[.val (.c (n64 (-1)))], [none]⟩ := ex (.cons k485 .nil) (by kernel_rfl)
theorem k487 : ACall Tryz.prog 104 [.val (.agg [bT, lF [u 3]]), .val (.agg [bF, l1])] ⟨[.val (.agg [bT, lF [u 3], bF, l1])], [none, none]⟩ := ex (.cons k50 .nil) (by kernel_rfl)
theorem k488 : ACall Tryz.prog 97 [.val (.agg [bT, lF [u 3]])] ⟨[.val (.c (bF))], [none]⟩ := ex (.nil) (by kernel_rfl)
theorem k489 : ACall Tryz.prog 105 [.val (.c (lF [[bT, lF [u 3]], [bF, l1]]))] ⟨[.val (.agg [bT, lF [u 3]])], [none]⟩ := ex (.cons k39 (.cons k488 (.cons k50 .nil))) (by kernel_rfl)
theorem k490 : ACall Tryz.prog 68 [.val (.agg [bT, lF [u 3], bF, l1]), .val (.agg [bF, l1, bF, l1])] ⟨[.val (.agg [bT, lF [u 3], bF, l1])], [none, none]⟩ := ex (.cons k487 (.cons k52 (.cons k489 (.cons k53 .nil)))) (by kernel_rfl)
theorem k491 : ACall Tryz.prog 127 [.val (.c (lF [u 3])), .val (.c (lF [u 3]))] ⟨[.val (.c (lF []))], [none, none]⟩ := ex (.cons k78 .nil) (by kernel_rfl)
theorem k492 : ACall Tryz.prog 112 [.val (.agg [bF, lF [u 3]]), .val (.agg [bT, lF [u 3]])] ⟨[.val (.agg [bF, lT []])], [none, none]⟩ := ex (.cons k306 (.cons k491 (.cons k33 .nil))) (by kernel_rfl)
theorem k493 : ACall Tryz.prog 87 [.val (.agg [bF, lF [u 3], bF, l1]), .val (.agg [bT, lF [u 3], bF, l1])] ⟨[.val (.agg [bF, lT [], bF, l1])], [none, none]⟩ := ex (.cons k269 (.cons k489 (.cons k492 (.cons k53 (.cons k81 .nil))))) (by kernel_rfl)
theorem k494 : ACall Tryz.prog 63 [.bor 4 [[bF, lT [], bF, l1], [bT, lF [u 2], bF, l1], [bF, lF [u 3], bF, l1]], .val (.agg [bT, lF [u 3], bF, l1]), .val (.c (lF [[bF, lT [], bF, l1], [bF, l1, bF, l1]])), .val (.c (n64 1))] ⟨[], [some (.rows 4 [[bF, lT [], bF, l1], [bT, lF [u 2], bF, l1], [bF, lT [], bF, l1]] false false), none, none, none]⟩ := ex (.cons k486 (.cons k101 (.cons k106 (.cons k490 (.cons k493 .nil))))) (by kernel_rfl)
theorem k495 : ACall Tryz.prog 68 [.val (.agg [bT, lF [u 2], bF, l1]), .val (.agg [bF, l1, bF, l1])] ⟨[.val (.agg [bT, lF [u 2], bF, l1])], [none, none]⟩ := ex (.cons k230 (.cons k52 (.cons k315 (.cons k53 .nil)))) (by kernel_rfl)
theorem k496 : ACall Tryz.prog 103 [.val (.agg [bT, lF [u 2]])] ⟨[.val (.agg [bF, lF [u 2]])], [none]⟩ := ex (.cons k46 (.cons k67 .nil)) (by kernel_rfl)
theorem k497 : ACall Tryz.prog 69 [.val (.agg [bT, lF [u 2], bF, l1])] ⟨[.val (.agg [bF, lF [u 2], bF, l1])], [none]⟩ := ex (.cons k496 .nil) (by kernel_rfl)
theorem k498 : ACall Tryz.prog 68 [.val (.agg [bF, lF [u 2], bF, l1]), .val (.agg [bF, l1, bF, l1])] ⟨[.val (.agg [bF, lF [u 2], bF, l1])], [none, none]⟩ := ex (.cons k229 (.cons k52 (.cons k54 (.cons k53 .nil)))) (by kernel_rfl)
theorem k499 : ACall Tryz.prog 112 [.val (.agg [bT, lF [u 2]]), .val (.agg [bF, lF [u 2]])] ⟨[.val (.agg [bF, lT []])], [none, none]⟩ := ex (.cons k69 (.cons k316 (.cons k361 .nil))) (by kernel_rfl)
end Go.Proofs.YtdhidmcjglokcaaGreat.Mem
end

section
set_option linter.unusedVariables false
set_option linter.unusedSimpArgs false
/-
  A closed call, one function at a time, part 5 (printed by a program of mine).
-/
set_option maxRecDepth 100000
set_option maxHeartbeats 0
namespace Go.Proofs.YtdhidmcjglokcaaGreat.Mem
open Go Go.Abs Go.Proofs
theorem k500 : ACall Tryz.prog 87 [.val (.agg [bT, lF [u 2], bF, l1]), .val (.agg [bF, lF [u 2], bF, l1])] ⟨[.val (.agg [bF, lT [], bF, l1])], [none, none]⟩ := ex (.cons k315 (.cons k54 (.cons k499 (.cons k53 (.cons k81 .nil))))) (by kernel_rfl)
theorem k501 : ACall Tryz.prog 63 [.bor 4 [[bF, lT [], bF, l1], [bT, lF [u 2], bF, l1], [bF, lT [], bF, l1]], .val (.agg [bF, lF [u 2], bF, l1]), .val (.c (lF [[bF, lT [], bF, l1], [bF, l1, bF, l1]])), .val (.c (n64 0))] ⟨[], [some (.rows 4 [[bF, lT [], bF, l1], [bF, lT [], bF, l1], [bF, lT [], bF, l1]] false false), none, none, none]⟩ := ex (.cons k63 (.cons k101 (.cons k106 (.cons k498 (.cons k500 .nil))))) (by kernel_rfl)
theorem k502 : ACall Tryz.prog 64 [.val (.c (lF [[bT, lF [u 2], bF, l1], [bF, lF [u 3], bF, l1]]))] ⟨[.val (.c (lF [[bT, lF [u 2], bF, l1], [bF, lF [u 3], bF, l1]]))], [none]⟩ := ex (.cons k478 .nil) (by kernel_rfl)
theorem k503 : ACall Tryz.prog 23 [.val (.c (lF [[bF, lT [], bF, l1], [bT, lF [u 2], bF, l1], [bF, lF [u 3], bF, l1]])), .val (.c (lF [[bF, lT [], bF, l1], [bF, l1, bF, l1]]))] ⟨[.val (.c (lF [[bT, lF [u 2], bF, l1], [bF, lF [u 3], bF, l1]])), .val (.c (lF [])), .val (.c (n64 0))], [none, none]⟩ := ex (.cons k124 (.cons k42 (.cons k481 (.cons k484 (.cons k494 (.cons k495 (.cons k497 (.cons k501 (.cons k502 (.cons k122 .nil)))))))))) (by kernel_rfl)
theorem k504 : ACall Tryz.prog 75 [.val (.c (lF [[bF, lT [], bF, l1], [bT, lF [u 2], bF, l1], [bF, lF [u 3], bF, l1]])), .val (.c (lF [[bF, lT [], bF, l1], [bF, l1, bF, l1]]))] ⟨[.val (.c (lF [[bT, lF [u 2], bF, l1], [bF, lF [u 3], bF, l1]]))], [none, none]⟩ := ex (.cons k503 .nil) (by kernel_rfl)
theorem k505 : ACall Tryz.prog 64 [.val (.c (lF [[bT, l1, bF, l1], [bF, lF [u 2], bF, l1]]))] ⟨[.val (.c (lF [[bT, l1, bF, l1], [bF, lF [u 2], bF, l1]]))], [none]⟩ := ex (.cons k63 .nil) (by kernel_rfl)
theorem k506 : ACall Tryz.prog 31 [.val (.c (lF [[bF, lT [], bF, l1], [bT, l1, bF, l1], [bF, l1, bF, l1]]))] ⟨[.val (.c (lF [[bT, l1, bF, l1], [bF, lF [u 2], bF, l1]]))], [none]⟩ := ex (.cons k42 (.cons k120 (.cons k171 (.cons k228 (.cons k498 (.cons k505 .nil)))))) (by kernel_rfl)
theorem k507 : ACall Tryz.prog 126 [.val (.c (lF [u 2])), .val (.c (l1))] ⟨[.val (.c (n64 1))], [none, none]⟩ := ex (.nil) (by kernel_rfl)
theorem k508 : ACall Tryz.prog 127 [.val (.c (lF [u 2])), .val (.c (l1))] ⟨[.val (.c (l1))], [none, none]⟩ := ex (.cons k37 .nil) (by kernel_rfl)
theorem k509 : ACall Tryz.prog 112 [.val (.agg [bT, lF [u 2]]), .val (.agg [bF, l1])] ⟨[.val (.agg [bT, l1])], [none, none]⟩ := ex (.cons k507 (.cons k508 (.cons k56 .nil))) (by kernel_rfl)
theorem k510 : ACall Tryz.prog 87 [.val (.agg [bT, lF [u 2], bF, l1]), .val (.agg [bF, l1, bF, l1])] ⟨[.val (.agg [bT, l1, bF, l1])], [none, none]⟩ := ex (.cons k315 (.cons k53 (.cons k509 (.cons k64 .nil)))) (by kernel_rfl)
theorem k511 : ACall Tryz.prog 68 [.val (.agg [bT, l1, bF, l1]), .val (.agg [bF, lF [u 2], bF, l1])] ⟨[.val (.agg [bT, lF [u 2], bF, l1])], [none, none]⟩ := ex (.cons k64 (.cons k229 (.cons k313 (.cons k53 .nil)))) (by kernel_rfl)
theorem k512 : ACall Tryz.prog 126 [.val (.c (lF [u 3])), .val (.c (lF [u 2]))] ⟨[.val (.c (n64 1))], [none, none]⟩ := ex (.nil) (by kernel_rfl)
theorem k513 : ACall Tryz.prog 127 [.val (.c (lF [u 3])), .val (.c (lF [u 2]))] ⟨[.val (.c (l1))], [none, none]⟩ := ex (.cons k37 .nil) (by kernel_rfl)
theorem k514 : ACall Tryz.prog 112 [.val (.agg [bF, lF [u 3]]), .val (.agg [bT, lF [u 2]])] ⟨[.val (.agg [bF, l1])], [none, none]⟩ := ex (.cons k512 (.cons k513 (.cons k38 .nil))) (by kernel_rfl)
theorem k515 : ACall Tryz.prog 87 [.val (.agg [bF, lF [u 3], bF, l1]), .val (.agg [bT, lF [u 2], bF, l1])] ⟨[.val (.agg [bF, l1, bF, l1])], [none, none]⟩ := ex (.cons k269 (.cons k315 (.cons k514 (.cons k53 (.cons k52 .nil))))) (by kernel_rfl)
theorem k516 : ACall Tryz.prog 63 [.bor 4 [[bT, lF [u 2], bF, l1], [bF, lF [u 3], bF, l1]], .val (.agg [bT, l1, bF, l1]), .val (.c (lF [[bT, l1, bF, l1], [bF, lF [u 2], bF, l1]])), .val (.c (n64 0))] ⟨[], [some (.rows 4 [[bT, l1, bF, l1], [bF, l1, bF, l1]] false false), none, none, none]⟩ := ex (.cons k128 (.cons k145 (.cons k510 (.cons k63 (.cons k511 (.cons k515 .nil)))))) (by kernel_rfl)
theorem k517 : ACall Tryz.prog 64 [.val (.c (lF [[bT, l1, bF, l1], [bF, l1, bF, l1]]))] ⟨[.val (.c (lF [[bT, l1, bF, l1], [bF, l1, bF, l1]]))], [none]⟩ := ex (.cons k106 .nil) (by kernel_rfl)
theorem k518 : ACall Tryz.prog 60 [.val (.c (lF [[bT, lF [u 2], bF, l1], [bF, lF [u 3], bF, l1]])), .val (.agg [bT, l1, bF, l1]), .val (.c (lF [[bT, l1, bF, l1], [bF, lF [u 2], bF, l1]])), .val (.c (n64 0))] ⟨[.val (.c (lF [[bT, l1, bF, l1], [bF, l1, bF, l1]]))], [none, none, none, none]⟩ := ex (.cons k42 (.cons k516 (.cons k517 .nil))) (by kernel_rfl)
theorem k519 : ACall Tryz.prog 18 [.val (.c (lF [[bT, lF [u 2], bF, l1], [bF, lF [u 3], bF, l1]])), .val (.c (lF [[bT, l1, bF, l1], [bF, lF [u 2], bF, l1]]))] ⟨[.val (.c (lF [[bT, l1, bF, l1], [bF, l1, bF, l1]]))], [none, none]⟩ := ex (.cons k154 (.cons k518 .nil)) (by kernel_rfl)
theorem k520 : ACall Tryz.prog 63 [.bor 4 [[bF, lT [], bF, l1], [bT, l1, bF, l1], [bF, l1, bF, l1]], .val (.agg [bT, l1, bF, l1]), .val (.c (lF [[bT, l1, bF, l1], [bF, l1, bF, l1]])), .val (.c (n64 1))] ⟨[], [some (.rows 4 [[bF, lT [], bF, l1], [bF, lT [], bF, l1], [bF, lT [], bF, l1]] false false), none, none, none]⟩ := ex (.cons k128 (.cons k145 (.cons k450 (.cons k106 (.cons k129 (.cons k82 .nil)))))) (by kernel_rfl)
theorem k521 : ACall Tryz.prog 63 [.bor 4 [[bF, lT [], bF, l1], [bF, lT [], bF, l1], [bF, lT [], bF, l1]], .val (.agg [bF, lT [], bF, l1]), .val (.c (lF [[bT, l1, bF, l1], [bF, l1, bF, l1]])), .val (.c (n64 0))] ⟨[], [some (.rows 4 [[bF, lT [], bF, l1], [bF, lT [], bF, l1], [bF, lT [], bF, l1]] false false), none, none, none]⟩ := ex (.cons k101 .nil) (by kernel_rfl)
theorem k522 : ACall Tryz.prog 23 [.val (.c (lF [[bF, lT [], bF, l1], [bT, l1, bF, l1], [bF, l1, bF, l1]])), .val (.c (lF [[bT, l1, bF, l1], [bF, l1, bF, l1]]))] ⟨[.val (.c (lF [[bF, lT [], bF, l1], [bF, l1, bF, l1]])), .val (.c (lF [])), .val (.c (n64 0))], [none, none]⟩ := ex (.cons k124 (.cons k42 (.cons k126 (.cons k127 (.cons k520 (.cons k452 (.cons k99 (.cons k521 (.cons k400 (.cons k122 .nil)))))))))) (by kernel_rfl)
theorem k523 : ACall Tryz.prog 71 [.val (.c (lF [[bF, lT [], bF, l1], [bF, l1, bF, l1]])), .val (.agg [bF, l1, bF, l1])] ⟨[], [none, none]⟩ := ex (.nil) (by kernel_rfl)
theorem k524 : ACall Tryz.prog 70 [.val (.c (lF [[bF, lT [], bF, l1], [bT, l1, bF, l1], [bF, l1, bF, l1]])), .val (.c (lF [[bT, l1, bF, l1], [bF, l1, bF, l1]])), .val (.c (.v (.func (.func 71) #[] #[])))] ⟨[.val (.c (lF [[bT, l1, bF, l1], [bF, l1, bF, l1]]))], [none, none, none]⟩ := ex (.cons k522 (.cons k120 (.cons k523 .nil))) (by kernel_rfl)
theorem k525 : ACall Tryz.prog 63 [.bor 4 [[bF, lT [], bF, l1], [bF, lT [], bF, l1]], .val (.agg [bF, l1, bF, l1]), .val (.c (lF [[bT, l1, bF, l1], [bF, l1, bF, l1]])), .val (.c (n64 0))] ⟨[], [some (.rows 4 [[bT, l1, bF, l1], [bF, l1, bF, l1]] false false), none, none, none]⟩ := ex (.cons k106 (.cons k128 (.cons k171 (.cons k161 (.cons k126 (.cons k148 .nil)))))) (by kernel_rfl)
theorem k526 : ACall Tryz.prog 21 [.val (.agg [bF, l1, bF, l1]), .val (.c (lF [[bT, l1, bF, l1], [bF, l1, bF, l1]]))] ⟨[.val (.c (lF [[bT, l1, bF, l1], [bF, l1, bF, l1]]))], [none, none]⟩ := ex (.cons k42 (.cons k525 (.cons k517 .nil))) (by kernel_rfl)
theorem k527 : ACall Tryz.prog 32 [.val (.c (lF [[bT, l1, bF, l1], [bF, l1, bF, l1]]))] ⟨[.val (.c (lF [[bT, l1, bF, l1], [bF, l1, bF, l1]]))], [none]⟩ := ex (.cons k124 (.cons k526 .nil)) (by kernel_rfl)
theorem k528 : ACall Tryz.prog 25 [.val (.c (lF [[bF, lT [], bF, l1], [bT, l1, bF, l1], [bF, l1, bF, l1]])), .val (.c (lF [[bT, l1, bF, l1], [bF, l1, bF, l1]]))] ⟨[.val (.c (lF [[bT, l1, bF, l1], [bF, l1, bF, l1]]))], [none, none]⟩ := ex (.cons k524 (.cons k527 .nil)) (by kernel_rfl)
theorem k529 : ACall Tryz.prog 75 [.val (.c (lF [[bF, lT [], bF, l1], [bT, l1, bF, l1], [bF, l1, bF, l1]])), .val (.c (lF [[bT, l1, bF, l1], [bF, l1, bF, l1]]))] ⟨[.val (.c (lF [[bF, lT [], bF, l1], [bF, l1, bF, l1]]))], [none, none]⟩ := ex (.cons k522 .nil) (by kernel_rfl)
theorem k530 : ACall Tryz.prog 63 [.bor 4 [[bT, l1, bF, l1], [bF, l1, bF, l1]], .val (.agg [bT, l1, bF, l1]), .val (.c (lF [[bT, l1, bF, l1], [bF, l1, bF, l1]])), .val (.c (n64 0))] ⟨[], [some (.rows 4 [[bF, lT [], bF, l1], [bF, lT [], bF, l1]] false false), none, none, none]⟩ := ex (.cons k128 (.cons k145 (.cons k450 (.cons k106 (.cons k129 (.cons k82 .nil)))))) (by kernel_rfl)
theorem k531 : ACall Tryz.prog 23 [.val (.c (lF [[bT, l1, bF, l1], [bF, l1, bF, l1]])), .val (.c (lF [[bT, l1, bF, l1], [bF, l1, bF, l1]]))] ⟨[.val (.c (lF [[bF, l1, bF, l1]])), .val (.c (lF [])), .val (.c (n64 0))], [none, none]⟩ := ex (.cons k124 (.cons k125 (.cons k126 (.cons k127 (.cons k530 (.cons k107 (.cons k122 .nil))))))) (by kernel_rfl)
theorem k532 : ACall Tryz.prog 75 [.val (.c (lF [[bT, l1, bF, l1], [bF, l1, bF, l1]])), .val (.c (lF [[bT, l1, bF, l1], [bF, l1, bF, l1]]))] ⟨[.val (.c (lF [[bF, l1, bF, l1]]))], [none, none]⟩ := ex (.cons k531 .nil) (by kernel_rfl)
theorem k533 : ACall Tryz.prog 31 [.val (.c (lF [[bF, lT [], bF, l1], [bF, l1, bF, l1]]))] ⟨[.val (.c (lF [[bF, l1, bF, l1]]))], [none]⟩ := ex (.cons k125 (.cons k120 (.cons k126 (.cons k107 .nil)))) (by kernel_rfl)
theorem k534 : ACall Tryz.prog 63 [.bor 4 [[bF, l1, bF, l1]], .val (.agg [bT, l1, bF, l1]), .val (.c (lF [[bF, l1, bF, l1]])), .val (.c (n64 0))] ⟨[], [some (.rows 4 [[bF, lT [], bF, l1]] false false), none, none, none]⟩ := ex (.cons k128 (.cons k106 (.cons k129 (.cons k82 .nil)))) (by kernel_rfl)
theorem k535 : ACall Tryz.prog 60 [.val (.c (lF [[bF, l1, bF, l1]])), .val (.agg [bT, l1, bF, l1]), .val (.c (lF [[bF, l1, bF, l1]])), .val (.c (n64 0))] ⟨[.val (.c (lF []))], [none, none, none, none]⟩ := ex (.cons k125 (.cons k534 (.cons k122 .nil))) (by kernel_rfl)
theorem k536 : ACall Tryz.prog 18 [.val (.c (lF [[bF, l1, bF, l1]])), .val (.c (lF [[bF, l1, bF, l1]]))] ⟨[.val (.c (lF []))], [none, none]⟩ := ex (.cons k154 (.cons k535 .nil)) (by kernel_rfl)
theorem k537 : ACall Tryz.prog 70 [.val (.c (lF [[bF, lT [], bF, l1], [bF, l1, bF, l1]])), .val (.c (lF [])), .val (.c (.v (.func (.func 71) #[] #[])))] ⟨[.val (.c (lF [[bF, lT [], bF, l1], [bF, l1, bF, l1]]))], [none, none, none]⟩ := ex (.nil) (by kernel_rfl)
theorem k538 : ACall Tryz.prog 25 [.val (.c (lF [[bF, lT [], bF, l1], [bF, l1, bF, l1]])), .val (.c (lF []))] ⟨[.val (.c (lF [[bF, lT [], bF, l1], [bF, l1, bF, l1]]))], [none, none]⟩ := ex (.cons k537 (.cons k435 .nil)) (by kernel_rfl)
theorem k539 : ACall Tryz.prog 63 [.bor 4 [[bF, lT [], bF, l1], [bF, l1, bF, l1]], .val (.agg [bT, l1, bF, l1]), .val (.c (lF [[bF, lT [], bF, l1], [bF, l1, bF, l1]])), .val (.c (n64 0))] ⟨[], [some (.rows 4 [[bF, lT [], bF, l1], [bF, lT [], bF, l1]] false false), none, none, none]⟩ := ex (.cons k128 (.cons k101 (.cons k106 (.cons k129 (.cons k82 .nil))))) (by kernel_rfl)
theorem k540 : ACall Tryz.prog 23 [.val (.c (lF [[bF, lT [], bF, l1], [bF, l1, bF, l1]])), .val (.c (lF [[bF, lT [], bF, l1], [bF, l1, bF, l1]]))] ⟨[.val (.c (lF [[bF, l1, bF, l1]])), .val (.c (lF [])), .val (.c (n64 0))], [none, none]⟩ := ex (.cons k124 (.cons k125 (.cons k126 (.cons k127 (.cons k539 (.cons k107 (.cons k122 .nil))))))) (by kernel_rfl)
theorem k541 : ACall Tryz.prog 75 [.val (.c (lF [[bF, lT [], bF, l1], [bF, l1, bF, l1]])), .val (.c (lF [[bF, lT [], bF, l1], [bF, l1, bF, l1]]))] ⟨[.val (.c (lF [[bF, l1, bF, l1]]))], [none, none]⟩ := ex (.cons k540 .nil) (by kernel_rfl)
theorem k542 : ACall Tryz.prog 23 [.val (.c (lF [])), .val (.c (lF [[bF, lT [], bF, l1], [bF, l1, bF, l1]]))] ⟨[.val (.c (lT [])), .val (.c (lF [])), .val (.c (n64 0))], [none, none]⟩ := ex (.nil) (by kernel_rfl)
theorem k543 : ACall Tryz.prog 75 [.val (.c (lF [])), .val (.c (lF [[bF, lT [], bF, l1], [bF, l1, bF, l1]]))] ⟨[.val (.c (lT []))], [none, none]⟩ := ex (.cons k542 .nil) (by kernel_rfl)
theorem k544 : ACall Tryz.prog 30 [.val (.c (lF [[bF, lF [], bF, l1], [bF, lF [], bF, l1], [bT, lF [u 2], bF, l1], [bF, lF [u 2], bF, l1]]))] ⟨[.val (.c (lF [[lF [[bT, l1, bF, l1], [bF, l1, bF, l1]], n64 1], [lF [[bF, lT [], bF, l1], [bF, l1, bF, l1]], n64 2]]))], [none]⟩ := ex (.cons k258 (.cons k436 (.cons k446 (.cons k456 (.cons k457 (.cons k480 (.cons k504 (.cons k506 (.cons k519 (.cons k528 (.cons k529 (.cons k532 (.cons k533 (.cons k536 (.cons k538 (.cons k541 (.cons k543 .nil))))))))))))))))) (by kernel_rfl)
theorem k545 : ACall Tryz.prog 120 [.val (.c (lF [u 0, u 1073741824]))] ⟨[.val (.c (lF [u 0, u 1073741824]))], [none]⟩ := ex (.nil) (by kernel_rfl)
theorem k546 : ACall Tryz.prog 102 [.val (.c (w64 4611686018427387904))] ⟨[.val (.c (lF [u 0, u 1073741824]))], [none]⟩ := ex (.cons k545 .nil) (by kernel_rfl)
theorem k547 : ACall Tryz.prog 101 [.val (.c (bF)), .val (.c (lF [u 0, u 1073741824]))] ⟨[.val (.agg [bF, lF [u 0, u 1073741824]])], [none, none]⟩ := ex (.cons k545 .nil) (by kernel_rfl)
theorem k548 : ACall Tryz.prog 66 [.val (.c (n64 4611686018427387904))] ⟨[.val (.agg [bF, lF [u 0, u 1073741824]])], [none]⟩ := ex (.cons k546 (.cons k547 .nil)) (by kernel_rfl)
theorem k549 : ACall Tryz.prog 123 [.val (.c (l1)), .val (.c (n64 1))] ⟨[.val (.c (w64 0))], [none, none]⟩ := ex (.nil) (by kernel_rfl)
theorem k550 : ACall Tryz.prog 123 [.val (.c (l1)), .val (.c (n64 0))] ⟨[.val (.c (w64 1))], [none, none]⟩ := ex (.nil) (by kernel_rfl)
theorem k551 : ACall Tryz.prog 129 [.val (.c (l1))] ⟨[.val (.c (w64 1))], [none]⟩ := ex (.cons k549 (.cons k550 .nil)) (by kernel_rfl)
theorem k552 : ACall Tryz.prog 123 [.val (.c (lF [u 2])), .val (.c (n64 1))] ⟨[.val (.c (w64 0))], [none, none]⟩ := ex (.nil) (by kernel_rfl)
theorem k553 : ACall Tryz.prog 123 [.val (.c (lF [u 2])), .val (.c (n64 0))] ⟨[.val (.c (w64 2))], [none, none]⟩ := ex (.nil) (by kernel_rfl)
theorem k554 : ACall Tryz.prog 129 [.val (.c (lF [u 2]))] ⟨[.val (.c (w64 2))], [none]⟩ := ex (.cons k552 (.cons k553 .nil)) (by kernel_rfl)
theorem k555 : ACall Tryz.prog 128 [.val (.c (w64 1)), .val (.c (w64 2))] ⟨[.val (.c (w64 1))], [none, none]⟩ := ex (.nil) (by kernel_rfl)
theorem k556 : ACall Tryz.prog 113 [.val (.c (l1)), .val (.c (lF [u 2]))] ⟨[.val (.c (l1))], [none, none]⟩ := ex (.cons k551 (.cons k554 (.cons k555 (.cons k1 .nil)))) (by kernel_rfl)
theorem k557 : ACall Tryz.prog 93 [.val (.agg [bF, l1]), .val (.agg [bF, lF [u 2]])] ⟨[.val (.agg [bF, l1])], [none, none]⟩ := ex (.cons k556 (.cons k3 .nil)) (by kernel_rfl)
theorem k558 : ACall Tryz.prog 107 [.val (.c (l1)), .val (.c (l1))] ⟨[.val (.c (n64 0))], [none, none]⟩ := ex (.nil) (by kernel_rfl)
theorem k559 : ACall Tryz.prog 137 [.val (.c (l1)), .val (.c (w64 1))] ⟨[.val (.c (l1)), .val (.c (w64 0))], [none, none]⟩ := ex (.cons k2 .nil) (by kernel_rfl)
theorem k560 : ACall Tryz.prog 130 [.val (.c (l1)), .val (.c (l1))] ⟨[.val (.c (l1)), .val (.c (lF []))], [none, none]⟩ := ex (.cons k558 (.cons k559 (.cons k7 .nil))) (by kernel_rfl)
theorem k561 : ACall Tryz.prog 124 [.val (.agg [bF, l1]), .val (.agg [bF, l1])] ⟨[.val (.agg [bF, l1]), .val (.agg [bF, lF []]), .val (.c (n64 0))], [none, none]⟩ := ex (.cons k560 (.cons k3 (.cons k9 .nil))) (by kernel_rfl)
theorem k562 : ACall Tryz.prog 110 [.val (.agg [bF, l1]), .val (.agg [bF, l1])] ⟨[.val (.agg [bF, l1])], [none, none]⟩ := ex (.cons k561 .nil) (by kernel_rfl)
theorem k563 : ACall Tryz.prog 107 [.val (.c (lF [u 2])), .val (.c (l1))] ⟨[.val (.c (n64 1))], [none, none]⟩ := ex (.nil) (by kernel_rfl)
theorem k564 : ACall Tryz.prog 137 [.val (.c (lF [u 2])), .val (.c (w64 1))] ⟨[.val (.c (lF [u 2])), .val (.c (w64 0))], [none, none]⟩ := ex (.cons k19 .nil) (by kernel_rfl)
theorem k565 : ACall Tryz.prog 130 [.val (.c (lF [u 2])), .val (.c (l1))] ⟨[.val (.c (lF [u 2])), .val (.c (lF []))], [none, none]⟩ := ex (.cons k563 (.cons k564 (.cons k7 .nil))) (by kernel_rfl)
theorem k566 : ACall Tryz.prog 124 [.val (.agg [bF, lF [u 2]]), .val (.agg [bF, l1])] ⟨[.val (.agg [bF, lF [u 2]]), .val (.agg [bF, lF []]), .val (.c (n64 0))], [none, none]⟩ := ex (.cons k565 (.cons k20 (.cons k9 .nil))) (by kernel_rfl)
theorem k567 : ACall Tryz.prog 110 [.val (.agg [bF, lF [u 2]]), .val (.agg [bF, l1])] ⟨[.val (.agg [bF, lF [u 2]])], [none, none]⟩ := ex (.cons k566 .nil) (by kernel_rfl)
theorem k568 : ACall Tryz.prog 79 [.val (.agg [bF, l1]), .val (.agg [bF, lF [u 2]])] ⟨[.val (.agg [bF, l1, bF, lF [u 2]])], [none, none]⟩ := ex (.cons k557 (.cons k23 (.cons k562 (.cons k567 .nil)))) (by kernel_rfl)
theorem k569 : ACall Tryz.prog 33 [.val (.agg [.v (.int .i8 1), .v (.int .i8 2), .v (.int .u8 0)])] ⟨[.val (.agg [bF, l1, bF, lF [u 2]])], [none]⟩ := ex (.cons k4 (.cons k21 (.cons k548 (.cons k568 .nil)))) (by kernel_rfl)
theorem k570 : ACall Tryz.prog 56 [] ⟨[.val (.agg [bF, l1, bF, lF [u 2]])], []⟩ := ex (.cons k569 .nil) (by kernel_rfl)
theorem k571 : ACall Tryz.prog 120 [.val (.c (lF [u 0]))] ⟨[.val (.c (lF []))], [none]⟩ := ex (.nil) (by kernel_rfl)
theorem k572 : ACall Tryz.prog 109 [.val (.c (l1)), .val (.c (lF []))] ⟨[.val (.c (lF []))], [none, none]⟩ := ex (.cons k571 .nil) (by kernel_rfl)
theorem k573 : ACall Tryz.prog 78 [.val (.agg [bF, l1]), .val (.agg [bF, lF []])] ⟨[.val (.agg [bF, lF []])], [none, none]⟩ := ex (.cons k572 (.cons k9 .nil)) (by kernel_rfl)
theorem k574 : ACall Tryz.prog 109 [.val (.c (lF [u 2])), .val (.c (l1))] ⟨[.val (.c (lF [u 2]))], [none, none]⟩ := ex (.cons k17 .nil) (by kernel_rfl)
theorem k575 : ACall Tryz.prog 78 [.val (.agg [bF, lF [u 2]]), .val (.agg [bF, l1])] ⟨[.val (.agg [bF, lF [u 2]])], [none, none]⟩ := ex (.cons k574 (.cons k20 .nil)) (by kernel_rfl)
theorem k576 : ACall Tryz.prog 123 [.val (.c (lF [])), .val (.c (n64 1))] ⟨[.val (.c (w64 0))], [none, none]⟩ := ex (.nil) (by kernel_rfl)
theorem k577 : ACall Tryz.prog 123 [.val (.c (lF [])), .val (.c (n64 0))] ⟨[.val (.c (w64 0))], [none, none]⟩ := ex (.nil) (by kernel_rfl)
theorem k578 : ACall Tryz.prog 129 [.val (.c (lF []))] ⟨[.val (.c (w64 0))], [none]⟩ := ex (.cons k576 (.cons k577 .nil)) (by kernel_rfl)
theorem k579 : ACall Tryz.prog 128 [.val (.c (w64 0)), .val (.c (w64 2))] ⟨[.val (.c (w64 2))], [none, none]⟩ := ex (.nil) (by kernel_rfl)
theorem k580 : ACall Tryz.prog 113 [.val (.c (lF [])), .val (.c (lF [u 2]))] ⟨[.val (.c (lF [u 2]))], [none, none]⟩ := ex (.cons k578 (.cons k554 (.cons k579 (.cons k18 .nil)))) (by kernel_rfl)
theorem k581 : ACall Tryz.prog 93 [.val (.agg [bF, lF []]), .val (.agg [bF, lF [u 2]])] ⟨[.val (.agg [bF, lF [u 2]])], [none, none]⟩ := ex (.cons k580 (.cons k20 .nil)) (by kernel_rfl)
theorem k582 : ACall Tryz.prog 107 [.val (.c (lF [])), .val (.c (lF [u 2]))] ⟨[.val (.c (n64 (-1)))], [none, none]⟩ := ex (.nil) (by kernel_rfl)
theorem k583 : ACall Tryz.prog 130 [.val (.c (lF [])), .val (.c (lF [u 2]))] ⟨[.val (.c (lT [])), .val (.c (lF []))], [none, none]⟩ := ex (.cons k582 .nil) (by kernel_rfl)
theorem k584 : ACall Tryz.prog 120 [.val (.c (lT []))] ⟨[.val (.c (lT []))], [none]⟩ := ex (.nil) (by kernel_rfl)
theorem k585 : ACall Tryz.prog 101 [.val (.c (bF)), .val (.c (lT []))] ⟨[.val (.agg [bF, lT []])], [none, none]⟩ := ex (.cons k584 .nil) (by kernel_rfl)
theorem k586 : ACall Tryz.prog 124 [.val (.agg [bF, lF []]), .val (.agg [bF, lF [u 2]])] ⟨[.val (.agg [bF, lT []]), .val (.agg [bF, lF []]), .val (.c (n64 0))], [none, none]⟩ := ex (.cons k583 (.cons k585 (.cons k9 .nil))) (by kernel_rfl)
theorem k587 : ACall Tryz.prog 110 [.val (.agg [bF, lF []]), .val (.agg [bF, lF [u 2]])] ⟨[.val (.agg [bF, lT []])], [none, none]⟩ := ex (.cons k586 .nil) (by kernel_rfl)
theorem k588 : ACall Tryz.prog 107 [.val (.c (lF [u 2])), .val (.c (lF [u 2]))] ⟨[.val (.c (n64 0))], [none, none]⟩ := ex (.nil) (by kernel_rfl)
theorem k589 : ACall Tryz.prog 137 [.val (.c (lF [u 2])), .val (.c (w64 2))] ⟨[.val (.c (l1)), .val (.c (w64 0))], [none, none]⟩ := ex (.cons k2 .nil) (by kernel_rfl)
theorem k590 : ACall Tryz.prog 130 [.val (.c (lF [u 2])), .val (.c (lF [u 2]))] ⟨[.val (.c (l1)), .val (.c (lF []))], [none, none]⟩ := ex (.cons k588 (.cons k589 (.cons k7 .nil))) (by kernel_rfl)
theorem k591 : ACall Tryz.prog 124 [.val (.agg [bF, lF [u 2]]), .val (.agg [bF, lF [u 2]])] ⟨[.val (.agg [bF, l1]), .val (.agg [bF, lF []]), .val (.c (n64 0))], [none, none]⟩ := ex (.cons k590 (.cons k3 (.cons k9 .nil))) (by kernel_rfl)
theorem k592 : ACall Tryz.prog 110 [.val (.agg [bF, lF [u 2]]), .val (.agg [bF, lF [u 2]])] ⟨[.val (.agg [bF, l1])], [none, none]⟩ := ex (.cons k591 .nil) (by kernel_rfl)
theorem k593 : ACall Tryz.prog 79 [.val (.agg [bF, lF []]), .val (.agg [bF, lF [u 2]])] ⟨[.val (.agg [bF, lT [], bF, l1])], [none, none]⟩ := ex (.cons k581 (.cons k23 (.cons k587 (.cons k592 .nil)))) (by kernel_rfl)
theorem k594 : ACall Tryz.prog 50 [.val (.agg [bF, l1, bF, lF [u 2]]), .val (.agg [bF, lF [], bF, l1])] ⟨[.val (.agg [bF, lT [], bF, l1])], [none, none]⟩ := ex (.cons k573 (.cons k575 (.cons k593 .nil))) (by kernel_rfl)
theorem k595 : ACall Tryz.prog 109 [.val (.c (l1)), .val (.c (l1))] ⟨[.val (.c (l1))], [none, none]⟩ := ex (.cons k0 .nil) (by kernel_rfl)
theorem k596 : ACall Tryz.prog 78 [.val (.agg [bF, l1]), .val (.agg [bF, l1])] ⟨[.val (.agg [bF, l1])], [none, none]⟩ := ex (.cons k595 (.cons k3 .nil)) (by kernel_rfl)
theorem k597 : ACall Tryz.prog 50 [.val (.agg [bF, l1, bF, lF [u 2]]), .val (.agg [bF, l1, bF, l1])] ⟨[.val (.agg [bF, l1, bF, lF [u 2]])], [none, none]⟩ := ex (.cons k596 (.cons k575 (.cons k568 .nil))) (by kernel_rfl)
theorem k598 : ACall Tryz.prog 53 [.val (.agg [bF, l1, bF, lF [u 2]])] ⟨[.val (.c (n64 1))], [none]⟩ := ex (.cons k12 .nil) (by kernel_rfl)
theorem k599 : ACall Tryz.prog 59 [.val (.c (lF [[bF, lT [], bF, l1], [bF, l1, bF, lF [u 2]]]))] ⟨[.val (.c (lF [[bF, lT [], bF, l1], [bF, l1, bF, lF [u 2]]]))], [none]⟩ := ex (.cons k598 .nil) (by kernel_rfl)
theorem k600 : ACall Tryz.prog 38 [.val (.agg [bF, l1, bF, lF [u 2]]), .val (.c (lF [[bF, lF [], bF, l1], [bF, l1, bF, l1]]))] ⟨[.val (.c (lF [[bF, lT [], bF, l1], [bF, l1, bF, lF [u 2]]]))], [none, none]⟩ := ex (.cons k594 (.cons k597 (.cons k599 .nil))) (by kernel_rfl)
theorem k601 : ACall Tryz.prog 86 [.val (.agg [bF, lT []]), .val (.agg [bF, lT []])] ⟨[.val (.c (bT))], [none, none]⟩ := ex (.nil) (by kernel_rfl)
theorem k602 : ACall Tryz.prog 86 [.val (.agg [bF, l1]), .val (.agg [bF, l1])] ⟨[.val (.c (bT))], [none, none]⟩ := ex (.nil) (by kernel_rfl)
theorem k603 : ACall Tryz.prog 41 [.val (.agg [bF, lT [], bF, l1]), .val (.agg [bF, lT [], bF, l1])] ⟨[.val (.c (bT))], [none, none]⟩ := ex (.cons k601 (.cons k602 .nil)) (by kernel_rfl)
theorem k604 : ACall Tryz.prog 86 [.val (.agg [bF, lF [u 2]]), .val (.agg [bF, lF [u 2]])] ⟨[.val (.c (bT))], [none, none]⟩ := ex (.nil) (by kernel_rfl)
theorem k605 : ACall Tryz.prog 41 [.val (.agg [bF, l1, bF, lF [u 2]]), .val (.agg [bF, l1, bF, lF [u 2]])] ⟨[.val (.c (bT))], [none, none]⟩ := ex (.cons k602 (.cons k604 .nil)) (by kernel_rfl)
theorem k606 : ACall Tryz.prog 19 [.val (.c (lF [[bF, lT [], bF, l1], [bF, l1, bF, lF [u 2]]])), .val (.c (lF [[bF, lT [], bF, l1], [bF, l1, bF, lF [u 2]]]))] ⟨[.val (.c (bT))], [none, none]⟩ := ex (.cons k603 (.cons k605 .nil)) (by kernel_rfl)
theorem k607 : ACall Tryz.prog 41 [.val (.agg [bF, l1, bF, l1]), .val (.agg [bF, l1, bF, l1])] ⟨[.val (.c (bT))], [none, none]⟩ := ex (.cons k602 .nil) (by kernel_rfl)
theorem k608 : ACall Tryz.prog 19 [.val (.c (lF [[bF, l1, bF, l1]])), .val (.c (lF [[bF, l1, bF, l1]]))] ⟨[.val (.c (bT))], [none, none]⟩ := ex (.cons k607 .nil) (by kernel_rfl)
theorem k609 : ACall Tryz.prog 101 [.val (.c (bT)), .val (.c (l1))] ⟨[.val (.agg [bT, l1])], [none, none]⟩ := ex (.cons k2 .nil) (by kernel_rfl)
theorem k610 : ACall Tryz.prog 66 [.val (.c (n64 (-1)))] ⟨[.val (.agg [bT, l1])], [none]⟩ := ex (.cons k1 (.cons k609 .nil)) (by kernel_rfl)
theorem k611 : ACall Tryz.prog 22 [.val (.c (n64 (-1)))] ⟨[.val (.agg [bT, l1, bF, l1])], [none]⟩ := ex (.cons k610 (.cons k4 .nil)) (by kernel_rfl)
theorem k612 : ACall Tryz.prog 59 [.val (.c (lF [[bT, l1, bF, l1], [bF, lF [], bF, l1], [bF, l1, bF, l1]]))] ⟨[.val (.c (lF [[bT, l1, bF, l1], [bF, lF [], bF, l1], [bF, l1, bF, l1]]))], [none]⟩ := ex (.cons k13 .nil) (by kernel_rfl)
theorem k613 : ACall Tryz.prog 65 [.val (.c (lF [[.v (.int .i8 (-1))], [.v (.int .i8 0)], [.v (.int .i8 1)]])), .val (.c (n64 20))] ⟨[.val (.c (lF [[bT, l1, bF, l1], [bF, lF [], bF, l1], [bF, l1, bF, l1]]))], [none, none]⟩ := ex (.cons k611 (.cons k11 (.cons k5 (.cons k612 .nil)))) (by kernel_rfl)
theorem k614 : ACall Tryz.prog 20 [.val (.c (lF [[.v (.int .i8 (-1))], [.v (.int .i8 0)], [.v (.int .i8 1)]]))] ⟨[.val (.c (lF [[bT, l1, bF, l1], [bF, lF [], bF, l1], [bF, l1, bF, l1]]))], [none]⟩ := ex (.cons k613 .nil) (by kernel_rfl)
theorem k615 : ACall Tryz.prog 59 [.val (.c (lF [[bT, lF [u 2], bF, l1], [bF, lF [u 2], bF, l1]]))] ⟨[.val (.c (lF [[bT, lF [u 2], bF, l1], [bF, lF [u 2], bF, l1]]))], [none]⟩ := ex (.cons k24 .nil) (by kernel_rfl)
theorem k616 : ACall Tryz.prog 65 [.val (.c (lF [[.v (.int .i8 (-2))], [.v (.int .i8 2)]])), .val (.c (n64 20))] ⟨[.val (.c (lF [[bT, lF [u 2], bF, l1], [bF, lF [u 2], bF, l1]]))], [none, none]⟩ := ex (.cons k218 (.cons k22 (.cons k615 .nil))) (by kernel_rfl)
theorem k617 : ACall Tryz.prog 20 [.val (.c (lF [[.v (.int .i8 (-2))], [.v (.int .i8 2)]]))] ⟨[.val (.c (lF [[bT, lF [u 2], bF, l1], [bF, lF [u 2], bF, l1]]))], [none]⟩ := ex (.cons k616 .nil) (by kernel_rfl)
theorem k618 : ACall Tryz.prog 68 [.val (.agg [bT, l1, bF, lF [u 2]]), .val (.agg [bT, lF [u 2], bF, l1])] ⟨[.val (.agg [bF, l1, bF, l1])], [none, none]⟩ := ex (.cons k64 (.cons k441 (.cons k144 (.cons k53 .nil)))) (by kernel_rfl)
theorem k619 : ACall Tryz.prog 125 [.val (.c (lF [])), .val (.c (l1))] ⟨[.val (.c (l1))], [none, none]⟩ := ex (.cons k35 .nil) (by kernel_rfl)
theorem k620 : ACall Tryz.prog 112 [.val (.agg [bF, lF []]), .val (.agg [bF, l1])] ⟨[.val (.agg [bF, l1])], [none, none]⟩ := ex (.cons k619 (.cons k38 .nil)) (by kernel_rfl)
theorem k621 : ACall Tryz.prog 87 [.val (.agg [bF, lF [], bF, l1]), .val (.agg [bF, l1, bF, l1])] ⟨[.val (.agg [bF, l1, bF, l1])], [none, none]⟩ := ex (.cons k131 (.cons k53 (.cons k620 (.cons k52 .nil)))) (by kernel_rfl)
theorem k622 : ACall Tryz.prog 63 [.bor 4 [[bT, l1, bF, l1], [bF, lF [], bF, l1], [bF, l1, bF, l1]], .val (.agg [bT, l1, bF, lF [u 2]]), .val (.c (lF [[bT, lF [u 2], bF, l1], [bF, lF [u 2], bF, l1]])), .val (.c (n64 1))] ⟨[], [some (.rows 4 [[bT, l1, bF, l1], [bF, l1, bF, l1], [bF, lT [], bF, l1]] false false), none, none, none]⟩ := ex (.cons k60 (.cons k439 (.cons k618 (.cons k621 (.cons k63 (.cons k76 (.cons k82 .nil))))))) (by kernel_rfl)
theorem k623 : ACall Tryz.prog 63 [.bor 4 [[bT, l1, bF, l1], [bF, l1, bF, l1], [bF, lT [], bF, l1]], .val (.agg [bT, l1, bF, lF [u 2]]), .val (.c (lF [[bT, lF [u 2], bF, l1], [bF, lF [u 2], bF, l1]])), .val (.c (n64 0))] ⟨[], [some (.rows 4 [[bF, lT [], bF, l1], [bF, lT [], bF, l1], [bF, lT [], bF, l1]] false false), none, none, none]⟩ := ex (.cons k60 (.cons k439 (.cons k618 (.cons k450 (.cons k63 (.cons k76 (.cons k82 .nil))))))) (by kernel_rfl)
theorem k624 : ACall Tryz.prog 64 [.val (.c (lF [[bF, l1, bF, lF [u 2]], [bF, l1, bF, lF [u 2]]]))] ⟨[.val (.c (lF [[bF, l1, bF, lF [u 2]], [bF, l1, bF, lF [u 2]]]))], [none]⟩ := ex (.cons k104 .nil) (by kernel_rfl)
end Go.Proofs.YtdhidmcjglokcaaGreat.Mem
end

section
set_option linter.unusedVariables false
set_option linter.unusedSimpArgs false
/-
  A closed call, one function at a time, part 6 (printed by a program of mine).
-/
set_option maxRecDepth 100000
set_option maxHeartbeats 0
namespace Go.Proofs.YtdhidmcjglokcaaGreat.Mem
open Go Go.Abs Go.Proofs
theorem k625 : ACall Tryz.prog 23 [.val (.c (lF [[bT, l1, bF, l1], [bF, lF [], bF, l1], [bF, l1, bF, l1]])), .val (.c (lF [[bT, lF [u 2], bF, l1], [bF, lF [u 2], bF, l1]]))] ⟨[.val (.c (lF [[bF, l1, bF, lF [u 2]], [bF, l1, bF, lF [u 2]]])), .val (.c (lF [])), .val (.c (n64 0))], [none, none]⟩ := ex (.cons k29 (.cons k42 (.cons k55 (.cons k58 (.cons k622 (.cons k623 (.cons k624 (.cons k122 .nil)))))))) (by kernel_rfl)
theorem k626 : ACall Tryz.prog 71 [.val (.c (lF [[bF, l1, bF, lF [u 2]], [bF, l1, bF, lF [u 2]]])), .val (.agg [bF, l1, bF, l1])] ⟨[], [none, none]⟩ := ex (.nil) (by kernel_rfl)
theorem k627 : ACall Tryz.prog 70 [.val (.c (lF [[bT, l1, bF, l1], [bF, lF [], bF, l1], [bF, l1, bF, l1]])), .val (.c (lF [[bT, lF [u 2], bF, l1], [bF, lF [u 2], bF, l1]])), .val (.c (.v (.func (.func 71) #[] #[])))] ⟨[.val (.c (lF [[bT, lF [u 2], bF, l1], [bF, lF [u 2], bF, l1]]))], [none, none, none]⟩ := ex (.cons k625 (.cons k120 (.cons k626 .nil))) (by kernel_rfl)
theorem k628 : ACall Tryz.prog 63 [.bor 4 [[bF, lT [], bF, l1], [bF, lT [], bF, l1]], .val (.agg [bF, l1, bF, lF [u 2]]), .val (.c (lF [[bT, lF [u 2], bF, l1], [bF, lF [u 2], bF, l1]])), .val (.c (n64 0))] ⟨[], [some (.rows 4 [[bT, l1, bF, l1], [bF, l1, bF, l1]] false false), none, none, none]⟩ := ex (.cons k104 (.cons k439 (.cons k442 (.cons k161 (.cons k63 (.cons k202 (.cons k148 .nil))))))) (by kernel_rfl)
theorem k629 : ACall Tryz.prog 21 [.val (.agg [bF, l1, bF, lF [u 2]]), .val (.c (lF [[bT, lF [u 2], bF, l1], [bF, lF [u 2], bF, l1]]))] ⟨[.val (.c (lF [[bT, l1, bF, l1], [bF, l1, bF, l1]]))], [none, none]⟩ := ex (.cons k42 (.cons k628 (.cons k517 .nil))) (by kernel_rfl)
theorem k630 : ACall Tryz.prog 32 [.val (.c (lF [[bT, lF [u 2], bF, l1], [bF, lF [u 2], bF, l1]]))] ⟨[.val (.c (lF [[bT, l1, bF, l1], [bF, l1, bF, l1]]))], [none]⟩ := ex (.cons k29 (.cons k629 .nil)) (by kernel_rfl)
theorem k631 : ACall Tryz.prog 25 [.val (.c (lF [[bT, l1, bF, l1], [bF, lF [], bF, l1], [bF, l1, bF, l1]])), .val (.c (lF [[bT, lF [u 2], bF, l1], [bF, lF [u 2], bF, l1]]))] ⟨[.val (.c (lF [[bT, l1, bF, l1], [bF, l1, bF, l1]]))], [none, none]⟩ := ex (.cons k627 (.cons k630 .nil)) (by kernel_rfl)
theorem k632 : ACall Tryz.prog 59 [.val (.c (lF [[bT, l1, bF, l1], [bF, l1, bF, l1]]))] ⟨[.val (.c (lF [[bT, l1, bF, l1], [bF, l1, bF, l1]]))], [none]⟩ := ex (.cons k13 .nil) (by kernel_rfl)
theorem k633 : ACall Tryz.prog 65 [.val (.c (lF [[.v (.int .i8 (-1))], [.v (.int .i8 1)]])), .val (.c (n64 20))] ⟨[.val (.c (lF [[bT, l1, bF, l1], [bF, l1, bF, l1]]))], [none, none]⟩ := ex (.cons k611 (.cons k5 (.cons k632 .nil))) (by kernel_rfl)
theorem k634 : ACall Tryz.prog 20 [.val (.c (lF [[.v (.int .i8 (-1))], [.v (.int .i8 1)]]))] ⟨[.val (.c (lF [[bT, l1, bF, l1], [bF, l1, bF, l1]]))], [none]⟩ := ex (.cons k633 .nil) (by kernel_rfl)
theorem k635 : ACall Tryz.prog 86 [.val (.agg [bT, l1]), .val (.agg [bT, l1])] ⟨[.val (.c (bT))], [none, none]⟩ := ex (.nil) (by kernel_rfl)
theorem k636 : ACall Tryz.prog 41 [.val (.agg [bT, l1, bF, l1]), .val (.agg [bT, l1, bF, l1])] ⟨[.val (.c (bT))], [none, none]⟩ := ex (.cons k635 (.cons k602 .nil)) (by kernel_rfl)
theorem k637 : ACall Tryz.prog 19 [.val (.c (lF [[bT, l1, bF, l1], [bF, l1, bF, l1]])), .val (.c (lF [[bT, l1, bF, l1], [bF, l1, bF, l1]]))] ⟨[.val (.c (bT))], [none, none]⟩ := ex (.cons k636 (.cons k607 .nil)) (by kernel_rfl)
theorem k638 : ACall Tryz.prog 70 [.val (.c (lT [])), .val (.c (lT [])), .val (.c (.v (.func (.func 71) #[] #[])))] ⟨[.val (.c (lT []))], [none, none, none]⟩ := ex (.nil) (by kernel_rfl)
theorem k639 : ACall Tryz.prog 32 [.val (.c (lT []))] ⟨[.val (.c (lT []))], [none]⟩ := ex (.nil) (by kernel_rfl)
theorem k640 : ACall Tryz.prog 25 [.val (.c (lT [])), .val (.c (lT []))] ⟨[.val (.c (lT []))], [none, none]⟩ := ex (.cons k638 (.cons k639 .nil)) (by kernel_rfl)
theorem k641 : ACall Tryz.prog 120 [.val (.c (lF [u 3, u 0]))] ⟨[.val (.c (lF [u 3]))], [none]⟩ := ex (.nil) (by kernel_rfl)
theorem k642 : ACall Tryz.prog 102 [.val (.c (w64 3))] ⟨[.val (.c (lF [u 3]))], [none]⟩ := ex (.cons k641 .nil) (by kernel_rfl)
theorem k643 : ACall Tryz.prog 120 [.val (.c (lF [u 3]))] ⟨[.val (.c (lF [u 3]))], [none]⟩ := ex (.nil) (by kernel_rfl)
theorem k644 : ACall Tryz.prog 101 [.val (.c (bF)), .val (.c (lF [u 3]))] ⟨[.val (.agg [bF, lF [u 3]])], [none, none]⟩ := ex (.cons k643 .nil) (by kernel_rfl)
theorem k645 : ACall Tryz.prog 66 [.val (.c (n64 3))] ⟨[.val (.agg [bF, lF [u 3]])], [none]⟩ := ex (.cons k642 (.cons k644 .nil)) (by kernel_rfl)
theorem k646 : ACall Tryz.prog 22 [.val (.c (n64 3))] ⟨[.val (.agg [bF, lF [u 3], bF, l1])], [none]⟩ := ex (.cons k645 (.cons k4 .nil)) (by kernel_rfl)
theorem k647 : ACall Tryz.prog 91 [.val (.agg [bF, lF [u 3]])] ⟨[.val (.c (n64 1))], [none]⟩ := ex (.nil) (by kernel_rfl)
theorem k648 : ACall Tryz.prog 53 [.val (.agg [bF, lF [u 3], bF, l1])] ⟨[.val (.c (n64 1))], [none]⟩ := ex (.cons k647 .nil) (by kernel_rfl)
theorem k649 : ACall Tryz.prog 59 [.val (.c (lF [[bF, lF [u 3], bF, l1]]))] ⟨[.val (.c (lF [[bF, lF [u 3], bF, l1]]))], [none]⟩ := ex (.cons k648 .nil) (by kernel_rfl)
theorem k650 : ACall Tryz.prog 65 [.val (.c (lF [[.v (.int .i8 3)]])), .val (.c (n64 20))] ⟨[.val (.c (lF [[bF, lF [u 3], bF, l1]]))], [none, none]⟩ := ex (.cons k646 (.cons k649 .nil)) (by kernel_rfl)
theorem k651 : ACall Tryz.prog 20 [.val (.c (lF [[.v (.int .i8 3)]]))] ⟨[.val (.c (lF [[bF, lF [u 3], bF, l1]]))], [none]⟩ := ex (.cons k650 .nil) (by kernel_rfl)
theorem k652 : ACall Tryz.prog 70 [.val (.c (lF [[bF, lF [u 3], bF, l1]])), .val (.c (lT [])), .val (.c (.v (.func (.func 71) #[] #[])))] ⟨[.val (.c (lF [[bF, lF [u 3], bF, l1]]))], [none, none, none]⟩ := ex (.nil) (by kernel_rfl)
theorem k653 : ACall Tryz.prog 67 [.val (.agg [bF, lF [u 3], bF, l1])] ⟨[.val (.agg [bF, l1, bF, lF [u 3]]), .val (.c (n64 0))], [none]⟩ := ex (.cons k477 .nil) (by kernel_rfl)
theorem k654 : ACall Tryz.prog 98 [.val (.agg [bF, lF [u 3]]), .val (.agg [bF, lF [u 3]])] ⟨[.val (.agg [bF, lF [u 3]])], [none, none]⟩ := ex (.cons k241 (.cons k276 (.cons k278 (.cons k240 (.cons k242 .nil))))) (by kernel_rfl)
theorem k655 : ACall Tryz.prog 104 [.val (.agg [bF, lF [u 3]]), .val (.agg [bF, lF [u 3]])] ⟨[.val (.agg [bF, l1, bF, l1])], [none, none]⟩ := ex (.cons k247 (.cons k654 (.cons k309 .nil))) (by kernel_rfl)
theorem k656 : ACall Tryz.prog 68 [.val (.agg [bF, l1, bF, lF [u 3]]), .val (.agg [bF, lF [u 3], bF, l1])] ⟨[.val (.agg [bF, l1, bF, l1])], [none, none]⟩ := ex (.cons k52 (.cons k655 (.cons k53 .nil))) (by kernel_rfl)
theorem k657 : ACall Tryz.prog 63 [.bor 4 [[bF, lT [], bF, l1]], .val (.agg [bF, l1, bF, lF [u 3]]), .val (.c (lF [[bF, lF [u 3], bF, l1]])), .val (.c (n64 0))] ⟨[], [some (.rows 4 [[bF, l1, bF, l1]] false false), none, none, none]⟩ := ex (.cons k375 (.cons k478 (.cons k656 (.cons k148 .nil)))) (by kernel_rfl)
theorem k658 : ACall Tryz.prog 21 [.val (.agg [bF, l1, bF, lF [u 3]]), .val (.c (lF [[bF, lF [u 3], bF, l1]]))] ⟨[.val (.c (lF [[bF, l1, bF, l1]]))], [none, none]⟩ := ex (.cons k125 (.cons k657 (.cons k107 .nil))) (by kernel_rfl)
theorem k659 : ACall Tryz.prog 32 [.val (.c (lF [[bF, lF [u 3], bF, l1]]))] ⟨[.val (.c (lF [[bF, l1, bF, l1]]))], [none]⟩ := ex (.cons k653 (.cons k658 .nil)) (by kernel_rfl)
theorem k660 : ACall Tryz.prog 25 [.val (.c (lF [[bF, lF [u 3], bF, l1]])), .val (.c (lT []))] ⟨[.val (.c (lF [[bF, l1, bF, l1]]))], [none, none]⟩ := ex (.cons k652 (.cons k659 .nil)) (by kernel_rfl)
theorem k661 : ACall Tryz.prog 91 [.val (.agg [bT, l1])] ⟨[.val (.c (n64 (-1)))], [none]⟩ := ex (.nil) (by kernel_rfl)
theorem k662 : ACall Tryz.prog 53 [.val (.agg [bT, l1, bF, l1])] ⟨[.val (.c (n64 (-1)))], [none]⟩ := ex (.cons k661 .nil) (by kernel_rfl)
theorem k663 : ACall Tryz.prog 59 [.val (.c (lF [[bT, l1, bF, l1]]))] ⟨[.val (.c (lF [[bT, l1, bF, l1]]))], [none]⟩ := ex (.cons k662 .nil) (by kernel_rfl)
theorem k664 : ACall Tryz.prog 65 [.val (.c (lF [[.v (.int .i8 (-1))]])), .val (.c (n64 20))] ⟨[.val (.c (lF [[bT, l1, bF, l1]]))], [none, none]⟩ := ex (.cons k611 (.cons k663 .nil)) (by kernel_rfl)
theorem k665 : ACall Tryz.prog 20 [.val (.c (lF [[.v (.int .i8 (-1))]]))] ⟨[.val (.c (lF [[bT, l1, bF, l1]]))], [none]⟩ := ex (.cons k664 .nil) (by kernel_rfl)
theorem k666 : ACall Tryz.prog 19 [.val (.c (lF [[bT, l1, bF, l1]])), .val (.c (lF [[bT, l1, bF, l1]]))] ⟨[.val (.c (bT))], [none, none]⟩ := ex (.cons k636 .nil) (by kernel_rfl)
theorem k667 : ACall Tryz.prog 59 [.val (.c (lF [[bF, l1, bF, lF [u 2]]]))] ⟨[.val (.c (lF [[bF, l1, bF, lF [u 2]]]))], [none]⟩ := ex (.cons k598 .nil) (by kernel_rfl)
theorem k668 : ACall Tryz.prog 51 [.val (.agg [bF, l1, bF, lF [u 2]])] ⟨[.val (.c (lF [[bF, l1, bF, lF [u 2]]]))], [none]⟩ := ex (.cons k667 .nil) (by kernel_rfl)
theorem k669 : ACall Tryz.prog 19 [.val (.c (lF [[bF, l1, bF, lF [u 2]]])), .val (.c (lF [[bF, l1, bF, lF [u 2]]]))] ⟨[.val (.c (bT))], [none, none]⟩ := ex (.cons k605 .nil) (by kernel_rfl)
theorem k670 : ACall Tryz.prog 86 [.val (.agg [bF, lT []]), .val (.agg [bF, lF []])] ⟨[.val (.c (bT))], [none, none]⟩ := ex (.nil) (by kernel_rfl)
theorem k671 : ACall Tryz.prog 41 [.val (.agg [bF, lT [], bF, l1]), .val (.agg [bF, lF [], bF, l1])] ⟨[.val (.c (bT))], [none, none]⟩ := ex (.cons k670 (.cons k602 .nil)) (by kernel_rfl)
theorem k672 : ACall Tryz.prog 19 [.val (.c (lF [[bF, lT [], bF, l1], [bF, l1, bF, l1]])), .val (.c (lF [[bF, lF [], bF, l1], [bF, l1, bF, l1]]))] ⟨[.val (.c (bT))], [none, none]⟩ := ex (.cons k671 (.cons k607 .nil)) (by kernel_rfl)
theorem k673 : ACall Tryz.prog 59 [.val (.c (lF [[bT, lF [u 2], bF, l1], [bF, lF [], bF, l1], [bF, l1, bF, l1]]))] ⟨[.val (.c (lF [[bT, lF [u 2], bF, l1], [bF, lF [], bF, l1], [bF, l1, bF, l1]]))], [none]⟩ := ex (.cons k13 .nil) (by kernel_rfl)
theorem k674 : ACall Tryz.prog 65 [.val (.c (lF [[.v (.int .i8 (-2))], [.v (.int .i8 0)], [.v (.int .i8 1)]])), .val (.c (n64 20))] ⟨[.val (.c (lF [[bT, lF [u 2], bF, l1], [bF, lF [], bF, l1], [bF, l1, bF, l1]]))], [none, none]⟩ := ex (.cons k218 (.cons k11 (.cons k5 (.cons k673 .nil)))) (by kernel_rfl)
theorem k675 : ACall Tryz.prog 20 [.val (.c (lF [[.v (.int .i8 (-2))], [.v (.int .i8 0)], [.v (.int .i8 1)]]))] ⟨[.val (.c (lF [[bT, lF [u 2], bF, l1], [bF, lF [], bF, l1], [bF, l1, bF, l1]]))], [none]⟩ := ex (.cons k674 .nil) (by kernel_rfl)
theorem k676 : ACall Tryz.prog 63 [.bor 4 [[bT, lF [u 2], bF, l1], [bF, lF [], bF, l1], [bF, l1, bF, l1]], .val (.agg [bT, l1, bF, l1]), .val (.c (lF [[bT, l1, bF, l1], [bF, l1, bF, l1]])), .val (.c (n64 1))] ⟨[], [some (.rows 4 [[bT, lF [u 2], bF, l1], [bF, l1, bF, l1], [bF, lT [], bF, l1]] false false), none, none, none]⟩ := ex (.cons k128 (.cons k145 (.cons k621 (.cons k106 (.cons k129 (.cons k82 .nil)))))) (by kernel_rfl)
theorem k677 : ACall Tryz.prog 63 [.bor 4 [[bT, lF [u 2], bF, l1], [bF, l1, bF, l1], [bF, lT [], bF, l1]], .val (.agg [bT, l1, bF, l1]), .val (.c (lF [[bT, l1, bF, l1], [bF, l1, bF, l1]])), .val (.c (n64 0))] ⟨[], [some (.rows 4 [[bT, l1, bF, l1], [bF, lT [], bF, l1], [bF, lT [], bF, l1]] false false), none, none, none]⟩ := ex (.cons k128 (.cons k145 (.cons k510 (.cons k106 (.cons k129 (.cons k82 .nil)))))) (by kernel_rfl)
theorem k678 : ACall Tryz.prog 23 [.val (.c (lF [[bT, lF [u 2], bF, l1], [bF, lF [], bF, l1], [bF, l1, bF, l1]])), .val (.c (lF [[bT, l1, bF, l1], [bF, l1, bF, l1]]))] ⟨[.val (.c (lF [[bF, l1, bF, l1], [bF, l1, bF, l1]])), .val (.c (lF [[bT, l1, bF, l1]])), .val (.c (n64 0))], [none, none]⟩ := ex (.cons k124 (.cons k42 (.cons k126 (.cons k127 (.cons k676 (.cons k677 (.cons k167 (.cons k137 .nil)))))))) (by kernel_rfl)
theorem k679 : ACall Tryz.prog 88 [.val (.agg [bF, l1, bF, l1]), .val (.c (n64 2))] ⟨[.val (.agg [bF, l1, bF, l1])], [none, none]⟩ := ex (.cons k120 (.cons k126 .nil)) (by kernel_rfl)
theorem k680 : ACall Tryz.prog 88 [.val (.agg [bT, l1, bF, l1]), .val (.c (n64 1))] ⟨[.val (.agg [bT, l1, bF, l1])], [none, none]⟩ := ex (.cons k120 (.cons k171 .nil)) (by kernel_rfl)
theorem k681 : ACall Tryz.prog 46 [.val (.c (lF [[bT, lF [u 2], bF, l1], [bF, lF [], bF, l1], [bF, l1, bF, l1]])), .val (.c (lF [[bT, l1, bF, l1], [bF, l1, bF, l1]]))] ⟨[.val (.agg [bT, l1, bF, l1])], [none, none]⟩ := ex (.cons k120 (.cons k678 (.cons k679 (.cons k126 (.cons k680 (.cons k171 .nil)))))) (by kernel_rfl)
theorem k682 : ACall Tryz.prog 23 [.val (.c (lF [[bF, lF [u 3], bF, l1]])), .val (.c (lF [[bF, l1, bF, l1], [bF, lF [], bF, l1], [bF, l1, bF, l1]]))] ⟨[.val (.c (lT [])), .val (.c (lF [[bF, lF [u 3], bF, l1]])), .val (.c (n64 0))], [none, none]⟩ := ex (.nil) (by kernel_rfl)
theorem k683 : ACall Tryz.prog 88 [.val (.agg [bF, l1, bF, l1]), .val (.c (n64 0))] ⟨[.val (.agg [bF, l1, bF, l1])], [none, none]⟩ := ex (.cons k120 .nil) (by kernel_rfl)
theorem k684 : ACall Tryz.prog 68 [.val (.agg [bF, l1, bF, l1]), .val (.agg [bF, lF [u 3], bF, l1])] ⟨[.val (.agg [bF, lF [u 3], bF, l1])], [none, none]⟩ := ex (.cons k52 (.cons k246 (.cons k286 (.cons k53 .nil)))) (by kernel_rfl)
theorem k685 : ACall Tryz.prog 68 [.val (.agg [bF, lF [u 3], bF, l1]), .val (.agg [bF, lF [u 3], bF, l1])] ⟨[.val (.agg [bF, lF [u 9], bF, l1])], [none, none]⟩ := ex (.cons k246 (.cons k330 (.cons k53 .nil))) (by kernel_rfl)
theorem k686 : ACall Tryz.prog 88 [.val (.agg [bF, lF [u 3], bF, l1]), .val (.c (n64 2))] ⟨[.val (.agg [bF, lF [u 9], bF, l1])], [none, none]⟩ := ex (.cons k120 (.cons k684 (.cons k685 .nil))) (by kernel_rfl)
theorem k687 : ACall Tryz.prog 104 [.val (.agg [bF, lF [u 9]]), .val (.agg [bF, l1])] ⟨[.val (.agg [bF, lF [u 9], bF, l1])], [none, none]⟩ := ex (.cons k50 .nil) (by kernel_rfl)
theorem k688 : ACall Tryz.prog 68 [.val (.agg [bF, l1, bF, l1]), .val (.agg [bF, lF [u 9], bF, l1])] ⟨[.val (.agg [bF, lF [u 9], bF, l1])], [none, none]⟩ := ex (.cons k52 (.cons k687 (.cons k340 (.cons k53 .nil)))) (by kernel_rfl)
theorem k689 : ACall Tryz.prog 46 [.val (.c (lF [[bF, lF [u 3], bF, l1]])), .val (.c (lF [[bF, l1, bF, l1], [bF, lF [], bF, l1], [bF, l1, bF, l1]]))] ⟨[.val (.agg [bF, lF [u 9], bF, l1])], [none, none]⟩ := ex (.cons k120 (.cons k682 (.cons k683 (.cons k126 (.cons k686 (.cons k688 .nil)))))) (by kernel_rfl)
theorem k690 : ACall Tryz.prog 120 [.val (.c (lF [u 9, u 0]))] ⟨[.val (.c (lF [u 9]))], [none]⟩ := ex (.nil) (by kernel_rfl)
theorem k691 : ACall Tryz.prog 102 [.val (.c (w64 9))] ⟨[.val (.c (lF [u 9]))], [none]⟩ := ex (.cons k690 .nil) (by kernel_rfl)
theorem k692 : ACall Tryz.prog 120 [.val (.c (lF [u 9]))] ⟨[.val (.c (lF [u 9]))], [none]⟩ := ex (.nil) (by kernel_rfl)
theorem k693 : ACall Tryz.prog 101 [.val (.c (bF)), .val (.c (lF [u 9]))] ⟨[.val (.agg [bF, lF [u 9]])], [none, none]⟩ := ex (.cons k692 .nil) (by kernel_rfl)
theorem k694 : ACall Tryz.prog 66 [.val (.c (n64 9))] ⟨[.val (.agg [bF, lF [u 9]])], [none]⟩ := ex (.cons k691 (.cons k693 .nil)) (by kernel_rfl)
theorem k695 : ACall Tryz.prog 22 [.val (.c (n64 9))] ⟨[.val (.agg [bF, lF [u 9], bF, l1])], [none]⟩ := ex (.cons k694 (.cons k4 .nil)) (by kernel_rfl)
theorem k696 : ACall Tryz.prog 86 [.val (.agg [bF, lF [u 9]]), .val (.agg [bF, lF [u 9]])] ⟨[.val (.c (bT))], [none, none]⟩ := ex (.nil) (by kernel_rfl)
theorem k697 : ACall Tryz.prog 41 [.val (.agg [bF, lF [u 9], bF, l1]), .val (.agg [bF, lF [u 9], bF, l1])] ⟨[.val (.c (bT))], [none, none]⟩ := ex (.cons k696 (.cons k602 .nil)) (by kernel_rfl)
theorem k698 : ACall Tryz.prog 120 [.val (.c (lF [u 5, u 0]))] ⟨[.val (.c (lF [u 5]))], [none]⟩ := ex (.nil) (by kernel_rfl)
theorem k699 : ACall Tryz.prog 102 [.val (.c (w64 5))] ⟨[.val (.c (lF [u 5]))], [none]⟩ := ex (.cons k698 .nil) (by kernel_rfl)
theorem k700 : ACall Tryz.prog 120 [.val (.c (lF [u 5]))] ⟨[.val (.c (lF [u 5]))], [none]⟩ := ex (.nil) (by kernel_rfl)
theorem k701 : ACall Tryz.prog 101 [.val (.c (bF)), .val (.c (lF [u 5]))] ⟨[.val (.agg [bF, lF [u 5]])], [none, none]⟩ := ex (.cons k700 .nil) (by kernel_rfl)
theorem k702 : ACall Tryz.prog 66 [.val (.c (n64 5))] ⟨[.val (.agg [bF, lF [u 5]])], [none]⟩ := ex (.cons k699 (.cons k701 .nil)) (by kernel_rfl)
theorem k703 : ACall Tryz.prog 22 [.val (.c (n64 5))] ⟨[.val (.agg [bF, lF [u 5], bF, l1])], [none]⟩ := ex (.cons k702 (.cons k4 .nil)) (by kernel_rfl)
theorem k704 : ACall Tryz.prog 91 [.val (.agg [bF, lF [u 5]])] ⟨[.val (.c (n64 1))], [none]⟩ := ex (.nil) (by kernel_rfl)
theorem k705 : ACall Tryz.prog 53 [.val (.agg [bF, lF [u 5], bF, l1])] ⟨[.val (.c (n64 1))], [none]⟩ := ex (.cons k704 .nil) (by kernel_rfl)
theorem k706 : ACall Tryz.prog 59 [.val (.c (lF [[bF, lF [u 5], bF, l1]]))] ⟨[.val (.c (lF [[bF, lF [u 5], bF, l1]]))], [none]⟩ := ex (.cons k705 .nil) (by kernel_rfl)
theorem k707 : ACall Tryz.prog 65 [.val (.c (lF [[.v (.int .i8 5)]])), .val (.c (n64 20))] ⟨[.val (.c (lF [[bF, lF [u 5], bF, l1]]))], [none, none]⟩ := ex (.cons k703 (.cons k706 .nil)) (by kernel_rfl)
theorem k708 : ACall Tryz.prog 20 [.val (.c (lF [[.v (.int .i8 5)]]))] ⟨[.val (.c (lF [[bF, lF [u 5], bF, l1]]))], [none]⟩ := ex (.cons k707 .nil) (by kernel_rfl)
theorem k709 : ACall Tryz.prog 88 [.val (.agg [bF, lF [u 5], bF, l1]), .val (.c (n64 0))] ⟨[.val (.agg [bF, l1, bF, l1])], [none, none]⟩ := ex (.cons k120 .nil) (by kernel_rfl)
theorem k710 : ACall Tryz.prog 46 [.val (.c (lF [[bF, lF [u 2], bF, l1]])), .val (.c (lF [[bF, lF [u 5], bF, l1]]))] ⟨[.val (.agg [bF, l1, bF, l1])], [none, none]⟩ := ex (.cons k120 (.cons k709 (.cons k126 .nil))) (by kernel_rfl)
theorem k711 : ACall Tryz.prog 46 [.val (.c (lF [[bF, lF [], bF, l1], [bF, l1, bF, l1]])), .val (.c (lT []))] ⟨[.val (.agg [bF, lT [], bF, l1])], [none, none]⟩ := ex (.cons k41 .nil) (by kernel_rfl)
theorem k712 : ACall Tryz.prog 59 [.val (.c (lF [[bF, lF [], bF, l1], [bF, lF [], bF, l1], [bF, l1, bF, l1]]))] ⟨[.val (.c (lF [[bF, lF [], bF, l1], [bF, lF [], bF, l1], [bF, l1, bF, l1]]))], [none]⟩ := ex (.cons k13 .nil) (by kernel_rfl)
theorem k713 : ACall Tryz.prog 65 [.val (.c (lF [[.v (.int .i8 0)], [.v (.int .i8 0)], [.v (.int .i8 1)]])), .val (.c (n64 20))] ⟨[.val (.c (lF [[bF, lF [], bF, l1], [bF, lF [], bF, l1], [bF, l1, bF, l1]]))], [none, none]⟩ := ex (.cons k11 (.cons k5 (.cons k712 .nil))) (by kernel_rfl)
theorem k714 : ACall Tryz.prog 20 [.val (.c (lF [[.v (.int .i8 0)], [.v (.int .i8 0)], [.v (.int .i8 1)]]))] ⟨[.val (.c (lF [[bF, lF [], bF, l1], [bF, lF [], bF, l1], [bF, l1, bF, l1]]))], [none]⟩ := ex (.cons k713 .nil) (by kernel_rfl)
theorem k715 : ACall Tryz.prog 17 [.val (.c (lT [])), .val (.c (lF [[bF, l1, bF, l1], [bF, l1, bF, l1]]))] ⟨[.val (.c (lT []))], [none, none]⟩ := ex (.nil) (by kernel_rfl)
theorem k716 : ACall Tryz.prog 60 [.val (.c (lT [])), .val (.agg [bF, l1, bF, l1]), .val (.c (lF [[bF, l1, bF, l1]])), .val (.c (n64 0))] ⟨[.val (.c (lF [[bF, l1, bF, l1]]))], [none, none, none, none]⟩ := ex (.cons k125 (.cons k183 (.cons k107 .nil))) (by kernel_rfl)
theorem k717 : ACall Tryz.prog 16 [.val (.c (lT [])), .val (.c (lF [[bF, l1, bF, l1]]))] ⟨[.val (.c (lF [[bF, l1, bF, l1]]))], [none, none]⟩ := ex (.cons k120 (.cons k716 .nil)) (by kernel_rfl)
theorem k718 : ACall Tryz.prog 17 [.val (.c (lF [[bF, l1, bF, l1]])), .val (.c (lF [[bF, l1, bF, l1], [bF, l1, bF, l1]]))] ⟨[.val (.c (lF [[bF, l1, bF, l1], [bF, l1, bF, l1]]))], [none, none]⟩ := ex (.cons k42 (.cons k179 (.cons k167 .nil))) (by kernel_rfl)
theorem k719 : ACall Tryz.prog 63 [.bor 4 [[bF, l1, bF, l1], [bF, l1, bF, l1]], .val (.agg [bF, l1, bF, l1]), .val (.c (lF [])), .val (.c (n64 0))] ⟨[], [some (.rows 4 [[bF, l1, bF, l1], [bF, l1, bF, l1]] false false), none, none, none]⟩ := ex (.cons k106 .nil) (by kernel_rfl)
theorem k720 : ACall Tryz.prog 60 [.val (.c (lF [[bF, l1, bF, l1], [bF, l1, bF, l1]])), .val (.agg [bF, l1, bF, l1]), .val (.c (lF [])), .val (.c (n64 0))] ⟨[.val (.c (lF [[bF, l1, bF, l1], [bF, l1, bF, l1]]))], [none, none, none, none]⟩ := ex (.cons k42 (.cons k719 (.cons k167 .nil))) (by kernel_rfl)
theorem k721 : ACall Tryz.prog 16 [.val (.c (lF [[bF, l1, bF, l1], [bF, l1, bF, l1]])), .val (.c (lF []))] ⟨[.val (.c (lF [[bF, l1, bF, l1], [bF, l1, bF, l1]]))], [none, none]⟩ := ex (.cons k120 (.cons k720 .nil)) (by kernel_rfl)
theorem k722 : ACall Tryz.prog 63 [.bor 4 [[bF, lT [], bF, l1], [bF, lT [], bF, l1], [bF, lT [], bF, l1]], .val (.agg [bF, l1, bF, l1]), .val (.c (lF [[bF, l1, bF, l1], [bF, l1, bF, l1]])), .val (.c (n64 0))] ⟨[], [some (.rows 4 [[bF, l1, bF, l1], [bF, l1, bF, l1], [bF, lT [], bF, l1]] false false), none, none, none]⟩ := ex (.cons k106 (.cons k126 (.cons k148 .nil))) (by kernel_rfl)
theorem k723 : ACall Tryz.prog 125 [.val (.c (l1)), .val (.c (l1))] ⟨[.val (.c (lF [u 2]))], [none, none]⟩ := ex (.cons k65 .nil) (by kernel_rfl)
theorem k724 : ACall Tryz.prog 112 [.val (.agg [bF, l1]), .val (.agg [bF, l1])] ⟨[.val (.agg [bF, lF [u 2]])], [none, none]⟩ := ex (.cons k723 (.cons k67 .nil)) (by kernel_rfl)
theorem k725 : ACall Tryz.prog 87 [.val (.agg [bF, l1, bF, l1]), .val (.agg [bF, l1, bF, l1])] ⟨[.val (.agg [bF, lF [u 2], bF, l1])], [none, none]⟩ := ex (.cons k53 (.cons k724 (.cons k229 .nil))) (by kernel_rfl)
theorem k726 : ACall Tryz.prog 63 [.bor 4 [[bF, l1, bF, l1], [bF, l1, bF, l1], [bF, lT [], bF, l1]], .val (.agg [bF, l1, bF, l1]), .val (.c (lF [[bF, l1, bF, l1], [bF, l1, bF, l1]])), .val (.c (n64 1))] ⟨[], [some (.rows 4 [[bF, l1, bF, l1], [bF, lF [u 2], bF, l1], [bF, l1, bF, l1]] false false), none, none, none]⟩ := ex (.cons k106 (.cons k126 (.cons k725 (.cons k148 .nil)))) (by kernel_rfl)
theorem k727 : ACall Tryz.prog 64 [.val (.c (lF [[bF, l1, bF, l1], [bF, lF [u 2], bF, l1], [bF, l1, bF, l1]]))] ⟨[.val (.c (lF [[bF, l1, bF, l1], [bF, lF [u 2], bF, l1], [bF, l1, bF, l1]]))], [none]⟩ := ex (.cons k106 .nil) (by kernel_rfl)
theorem k728 : ACall Tryz.prog 17 [.val (.c (lF [[bF, l1, bF, l1], [bF, l1, bF, l1]])), .val (.c (lF [[bF, l1, bF, l1], [bF, l1, bF, l1]]))] ⟨[.val (.c (lF [[bF, l1, bF, l1], [bF, lF [u 2], bF, l1], [bF, l1, bF, l1]]))], [none, none]⟩ := ex (.cons k222 (.cons k722 (.cons k726 (.cons k727 .nil)))) (by kernel_rfl)
theorem k729 : ACall Tryz.prog 63 [.bor 4 [[bF, l1, bF, l1], [bF, lF [u 2], bF, l1], [bF, l1, bF, l1]], .val (.agg [bF, l1, bF, l1]), .val (.c (lF [])), .val (.c (n64 0))] ⟨[], [some (.rows 4 [[bF, l1, bF, l1], [bF, lF [u 2], bF, l1], [bF, l1, bF, l1]] false false), none, none, none]⟩ := ex (.cons k106 .nil) (by kernel_rfl)
theorem k730 : ACall Tryz.prog 60 [.val (.c (lF [[bF, l1, bF, l1], [bF, lF [u 2], bF, l1], [bF, l1, bF, l1]])), .val (.agg [bF, l1, bF, l1]), .val (.c (lF [])), .val (.c (n64 0))] ⟨[.val (.c (lF [[bF, l1, bF, l1], [bF, lF [u 2], bF, l1], [bF, l1, bF, l1]]))], [none, none, none, none]⟩ := ex (.cons k222 (.cons k729 (.cons k727 .nil))) (by kernel_rfl)
theorem k731 : ACall Tryz.prog 16 [.val (.c (lF [[bF, l1, bF, l1], [bF, lF [u 2], bF, l1], [bF, l1, bF, l1]])), .val (.c (lF []))] ⟨[.val (.c (lF [[bF, l1, bF, l1], [bF, lF [u 2], bF, l1], [bF, l1, bF, l1]]))], [none, none]⟩ := ex (.cons k120 (.cons k730 .nil)) (by kernel_rfl)
theorem k732 : ACall Tryz.prog 44 [.val (.c (lF [[bF, lF [], bF, l1], [bF, lF [], bF, l1], [bF, l1, bF, l1]])), .val (.c (lF [[bF, l1, bF, l1], [bF, l1, bF, l1]]))] ⟨[.val (.c (lF [[bF, l1, bF, l1], [bF, lF [u 2], bF, l1], [bF, l1, bF, l1]]))], [none, none]⟩ := ex (.cons k715 (.cons k107 (.cons k717 (.cons k718 (.cons k429 (.cons k721 (.cons k728 (.cons k731 .nil)))))))) (by kernel_rfl)
theorem k733 : ACall Tryz.prog 59 [.val (.c (lF [[bF, l1, bF, l1], [bF, lF [u 2], bF, l1], [bF, l1, bF, l1]]))] ⟨[.val (.c (lF [[bF, l1, bF, l1], [bF, lF [u 2], bF, l1], [bF, l1, bF, l1]]))], [none]⟩ := ex (.cons k13 .nil) (by kernel_rfl)
theorem k734 : ACall Tryz.prog 65 [.val (.c (lF [[.v (.int .i8 1)], [.v (.int .i8 2)], [.v (.int .i8 1)]])), .val (.c (n64 20))] ⟨[.val (.c (lF [[bF, l1, bF, l1], [bF, lF [u 2], bF, l1], [bF, l1, bF, l1]]))], [none, none]⟩ := ex (.cons k5 (.cons k22 (.cons k733 .nil))) (by kernel_rfl)
theorem k735 : ACall Tryz.prog 20 [.val (.c (lF [[.v (.int .i8 1)], [.v (.int .i8 2)], [.v (.int .i8 1)]]))] ⟨[.val (.c (lF [[bF, l1, bF, l1], [bF, lF [u 2], bF, l1], [bF, l1, bF, l1]]))], [none]⟩ := ex (.cons k734 .nil) (by kernel_rfl)
theorem k736 : ACall Tryz.prog 41 [.val (.agg [bF, lF [u 2], bF, l1]), .val (.agg [bF, lF [u 2], bF, l1])] ⟨[.val (.c (bT))], [none, none]⟩ := ex (.cons k604 (.cons k602 .nil)) (by kernel_rfl)
theorem k737 : ACall Tryz.prog 19 [.val (.c (lF [[bF, l1, bF, l1], [bF, lF [u 2], bF, l1], [bF, l1, bF, l1]])), .val (.c (lF [[bF, l1, bF, l1], [bF, lF [u 2], bF, l1], [bF, l1, bF, l1]]))] ⟨[.val (.c (bT))], [none, none]⟩ := ex (.cons k607 (.cons k736 .nil)) (by kernel_rfl)
theorem k738 : ACall Tryz.prog 95 [.val (.agg [bF, lF []])] ⟨[.val (.c (bT))], [none]⟩ := ex (.nil) (by kernel_rfl)
theorem k739 : ACall Tryz.prog 95 [.val (.agg [bF, l1])] ⟨[.val (.c (bT))], [none]⟩ := ex (.nil) (by kernel_rfl)
theorem k740 : ACall Tryz.prog 57 [.val (.agg [bF, lF [], bF, l1])] ⟨[.val (.c (bT))], [none]⟩ := ex (.cons k738 (.cons k739 (.cons k103 (.cons k50 .nil)))) (by kernel_rfl)
theorem k741 : ACall Tryz.prog 57 [.val (.agg [bF, l1, bF, l1])] ⟨[.val (.c (bT))], [none]⟩ := ex (.cons k739 (.cons k103 (.cons k50 .nil))) (by kernel_rfl)
theorem k742 : ACall Tryz.prog 13 [.val (.c (lF [[bF, lF [], bF, l1], [bF, l1, bF, l1]]))] ⟨[.val (.c (bT))], [none]⟩ := ex (.cons k740 (.cons k741 (.cons k106 .nil))) (by kernel_rfl)
theorem k743 : ACall Tryz.prog 13 [.val (.c (lF [[bF, lF [], bF, l1]]))] ⟨[.val (.c (bF))], [none]⟩ := ex (.cons k740 (.cons k62 .nil)) (by kernel_rfl)
theorem k744 : ACall Tryz.prog 12 [] ⟨[.val (.c (bT))], []⟩ := ex (.cons k16 (.cons k27 (.cons k108 (.cons k111 (.cons k112 (.cons k115 (.cons k118 (.cons k197 (.cons k200 (.cons k215 (.cons k221 (.cons k544 (.cons k570 (.cons k600 (.cons k606 (.cons k608 (.cons k614 (.cons k617 (.cons k631 (.cons k634 (.cons k637 (.cons k640 (.cons k651 (.cons k660 (.cons k665 (.cons k666 (.cons k668 (.cons k669 (.cons k672 (.cons k675 (.cons k681 (.cons k611 (.cons k636 (.cons k689 (.cons k695 (.cons k697 (.cons k708 (.cons k710 (.cons k5 (.cons k607 (.cons k711 (.cons k11 (.cons k671 (.cons k714 (.cons k732 (.cons k735 (.cons k737 (.cons k742 (.cons k743 .nil))))))))))))))))))))))))))))))))))))))))))))))))) (by kernel_rfl)
end Go.Proofs.YtdhidmcjglokcaaGreat.Mem
end

