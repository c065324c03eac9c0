/-
  A part of the proof: GabsFrame, LawSmall03, Sanity03, SanityWalk03.
-/
import Derived.Test.YtgncmjcoojmccaaM10
import Derived.Calls
import Derived.Laws.Cells
import Derived.Below
import Derived.Laws.Small
import Derived.Laws.IdiomCopy
import Derived.Laws.BytesString
import Derived.Laws.Append
import Derived.Laws.Tables
import Derived.Great.BuildSlice
import Derived.IntWalk
import Derived.Orders
import Derived.Laws.BitsLemmas
import Derived.Test.YtgncmjcoojmccaaProg
import Derived.ChangeSame
import Derived.Carry
import Derived.ProofKit
import Derived.WideKeyArgs
import Derived.OpenShut
import Derived.WalkKit

section
set_option linter.unusedVariables false
set_option linter.unusedSimpArgs false
/-
  The abstract layer: a law's arguments, of whatever plain types, read as trees; and read again behind the call.
-/
set_option linter.unusedSimpArgs false
set_option linter.unusedVariables false
namespace Go.Abs
open Go.RowKit Go.WideShapes Go.ChangeShapes Go.ChangeAt

/-- What a type's data look like. -/
inductive Shape where
  | int (k : IntKind)
  | bool
  | slice (s : Shape)
  | struct (l : List Shape)
  | arr (n : Nat) (s : Shape)

mutual
def Shape.size : Shape → Nat
  | .int _ => 1
  | .bool => 1
  | .slice _ => 1
  | .struct l => sizeL l
  | .arr n s => n * s.size
def sizeL : List Shape → Nat
  | [] => 0
  | s :: l => s.size + sizeL l
end

mutual
/-- Does the type look so? -/
def Shape.fits (P : Program) (t : TypeId) : Shape → Bool
  | .int k => match P.underlying t with
    | some (.int k') => decide (k' = k)
    | _ => false
  | .bool => match P.underlying t with
    | some .bool => true
    | _ => false
  | .slice s => match P.underlying t with
    | some (.slice e) => P.cellsOf e == s.size && decide (0 < s.size) && s.fits P e
    | _ => false
  | .struct l => match P.underlying t with
    | some (.struct fs) => P.cellsOf t == sizeL l && fitsL P 0 fs.toList l
    | _ => false
  | .arr n s => match P.underlying t with
    | some (.array m e) => m == n && P.cellsOf t == n * s.size && P.cellsOf e == s.size && s.fits P e
    | _ => false
def fitsL (P : Program) (off : Nat) : List Field → List Shape → Bool
  | [], [] => true
  | f :: fs, s :: l => f.offset == off && P.cellsOf f.type == s.size && s.fits P f.type && fitsL P (off + s.size) fs l
  | _, _ => false
end

/-- A list that comes in n parts. -/
def okN (p : List Tree → Prop) : Nat → List Tree → Prop
  | 0, ts => ts = []
  | n + 1, ts => ∃ a b, ts = a ++ b ∧ p a ∧ okN p n b

mutual
/-- Trees of that look. -/
def Shape.ok : Shape → List Tree → Prop
  | .int k, ts => ∃ n, ts = [.v (.int k n)] ∧ (Lit.int k n).wf = true
  | .bool, ts => ∃ b, ts = [.v (.bool b)]
  | .slice s, ts => ∃ cp rows, ts = [.lst cp rows] ∧ rows.length < 2 ^ 63 ∧ ∀ r ∈ rows, s.ok r
  | .struct l, ts => okL l ts
  | .arr n s, ts => okN s.ok n ts
def okL : List Shape → List Tree → Prop
  | [], ts => ts = []
  | s :: l, ts => ∃ a b, ts = a ++ b ∧ s.ok a ∧ okL l b
end

theorem okN_len {p : List Tree → Prop} {m : Nat} (hp : ∀ ts, p ts → ts.length = m) : ∀ (n : Nat) (ts : List Tree), okN p n ts → ts.length = n * m
  | 0, ts, h => by rw [show ts = [] from h]; simp
  | n + 1, ts, ⟨a, b, h1, h2, h3⟩ => by rw [h1, List.length_append, hp a h2, okN_len hp n b h3, Nat.succ_mul]; omega

mutual
theorem Shape.ok_len : ∀ (s : Shape) (ts : List Tree), s.ok ts → ts.length = s.size
  | .int k, ts, h => by obtain ⟨n, rfl, _⟩ := h; rfl
  | .bool, ts, h => by obtain ⟨n, rfl⟩ := h; rfl
  | .slice s, ts, h => by obtain ⟨_, _, rfl, _⟩ := h; rfl
  | .struct l, ts, h => okL_len l ts h
  | .arr n s, ts, h => okN_len (fun ts h => s.ok_len ts h) n ts h
theorem okL_len : ∀ (l : List Shape) (ts : List Tree), okL l ts → ts.length = sizeL l
  | [], ts, h => by rw [show ts = [] from h]; rfl
  | s :: l, ts, h => by
    obtain ⟨a, b, h1, h2, h3⟩ := h
    rw [h1, List.length_append, s.ok_len a h2, okL_len l b h3]; rfl
end

section
variable {H : Type} {enc : TypeId × Value → H} {P : Program} {w : World} {sp : Nat → Bool} {hd : Bool}

/-- Cell by cell. -/
def TRepL (w : World) (ts : List Tree) (cs : List Value) : Prop := ts.length = cs.length ∧ ∀ (i : Nat) (t : Tree) (v : Value), ts[i]? = some t → cs[i]? = some v → TRep (old w) w t v

theorem TRepL.append {a b : List Tree} {c d : List Value} (h1 : TRepL w a c) (h2 : TRepL w b d) : TRepL w (a ++ b) (c ++ d) := by
  refine ⟨by rw [List.length_append, List.length_append, h1.1, h2.1], fun i t v ht hv => ?_⟩
  rcases Nat.lt_or_ge i a.length with h | h
  · rw [List.getElem?_append_left h] at ht
    rw [List.getElem?_append_left (by rw [← h1.1]; exact h)] at hv
    exact h1.2 i t v ht hv
  · rw [List.getElem?_append_right h] at ht
    rw [List.getElem?_append_right (by rw [← h1.1]; exact h), ← h1.1] at hv
    exact h2.2 _ t v ht hv

theorem TRepL.one {t : Tree} {v : Value} (h : TRep (old w) w t v) : TRepL w [t] [v] := by
  refine ⟨rfl, fun i t' v' ht hv => ?_⟩
  cases i with
  | zero => simp at ht hv; subst ht hv; exact h
  | succ i => simp at ht

def Read (enc : TypeId × Value → H) (P : Program) (w : World) (sp : Nat → Bool) (hd : Bool) (s : Shape) : Prop :=
  ∀ (t : TypeId), s.fits P t = true → ∀ (n : Nat) (cs : List Value) (x : DataW H × List MemPlace), DataW.trod enc P w 0 sp hd n t cs = some x → ∃ ts, s.ok ts ∧ TRepL w ts cs

theorem row_split {cs : List Value} (i m : Nat) : cs.drop i = (cs.drop i).take m ++ cs.drop (i + m) := by
  rw [← List.drop_drop, List.take_append_drop]

theorem fitsL_len : ∀ {l : List Shape} {fs : List Field} {off : Nat}, fitsL P off fs l = true → fs.length = l.length
  | [], [], _, _ => rfl
  | [], _ :: _, _, h => by simp [fitsL] at h
  | _ :: _, [], _, h => by simp [fitsL] at h
  | s :: l, f :: fs, off, h => by
    simp only [fitsL, Bool.and_eq_true] at h
    simp [fitsL_len h.2]

theorem readL : ∀ (l : List Shape), (∀ s ∈ l, Read enc P w sp hd s) → ∀ (fs : List Field) (off : Nat), fitsL P off fs l = true → ∀ (n : Nat) (cs : List Value), cs.length = off + sizeL l →
    (∀ f ∈ fs, ∃ x, DataW.trod enc P w 0 sp hd n f.type ((cs.drop f.offset).take (P.cellsOf f.type)) = some x) → ∃ ts, okL l ts ∧ TRepL w ts (cs.drop off)
  | [], hl, [], off, hf, n, cs, hn, hx => by
    refine ⟨[], rfl, ?_⟩
    rw [List.drop_of_length_le (by rw [hn]; simp [sizeL])]
    exact ⟨rfl, fun i t v h => by simp at h⟩
  | [], hl, f :: fs, off, hf, n, cs, hn, hx => by simp [fitsL] at hf
  | s :: l, hl, [], off, hf, n, cs, hn, hx => by simp [fitsL] at hf
  | s :: l, hl, f :: fs, off, hf, n, cs, hn, hx => by
    simp only [fitsL, Bool.and_eq_true, beq_iff_eq] at hf
    obtain ⟨⟨⟨h1, h2⟩, h3⟩, h4⟩ := hf
    obtain ⟨x, hx1⟩ := hx f (List.mem_cons_self ..)
    rw [h1, h2] at hx1
    obtain ⟨a, ha, hra⟩ := hl s (List.mem_cons_self ..) f.type h3 n _ x hx1
    obtain ⟨b, hb, hrb⟩ := readL l (fun s' hs' => hl s' (List.mem_cons_of_mem _ hs')) fs (off + s.size) h4 n cs (by rw [hn, sizeL]; omega) (fun f' hf' => hx f' (List.mem_cons_of_mem _ hf'))
    refine ⟨a ++ b, ⟨a, b, rfl, ha, hb⟩, ?_⟩
    rw [row_split off s.size]
    exact hra.append hrb

theorem readN {s : Shape} (hs : Read enc P w sp hd s) {e : TypeId} (he : s.fits P e = true) : ∀ (m i : Nat) (n : Nat) (cs : List Value), cs.length = (i + m) * s.size →
    (∀ j, j < m → ∃ x, DataW.trod enc P w 0 sp hd n e ((cs.drop ((i + j) * s.size)).take s.size) = some x) → ∃ ts, okN s.ok m ts ∧ TRepL w ts (cs.drop (i * s.size))
  | 0, i, n, cs, hn, hx => by
    refine ⟨[], rfl, ?_⟩
    rw [List.drop_of_length_le (by rw [hn]; simp)]
    exact ⟨rfl, fun i t v h => by simp at h⟩
  | m + 1, i, n, cs, hn, hx => by
    obtain ⟨x, hx1⟩ := hx 0 (by omega)
    rw [Nat.add_zero] at hx1
    obtain ⟨a, ha, hra⟩ := hs e he n _ x hx1
    obtain ⟨b, hb, hrb⟩ := readN hs he m (i + 1) n cs (by rw [hn]; congr 1; omega) (fun j hj => by
      have := hx (j + 1) (by omega)
      rwa [show i + (j + 1) = i + 1 + j by omega] at this)
    refine ⟨a ++ b, ⟨a, b, rfl, ha, hb⟩, ?_⟩
    rw [row_split (i * s.size) s.size]
    rw [Nat.succ_mul] at hrb
    exact hra.append hrb

theorem add_none (b o n : Nat) : (⟨b, o, none⟩ : Addr).add n = ⟨b, o + n, none⟩ := by
  unfold Addr.add
  split
  · rename_i h; subst h; rfl
  · rfl

theorem wf_one {k : IntKind} {n : Int} : one (.int k n) := by intro l; exact ⟨by simp, by simp⟩

theorem Shape.read : ∀ (s : Shape), Read enc P w sp hd s
  | .int k => fun t hf n cs x hx => by
    have hu : P.underlying t = some (.int k) := by
      unfold Shape.fits at hf
      split at hf
      · rename_i k' h; rw [h, of_decide_eq_true hf]
      · cases hf
    obtain ⟨m, rfl, _, hw⟩ := DataW.trod_int hu hx
    exact ⟨_, ⟨m, rfl, hw⟩, .one (.v _ wf_one)⟩
  | .bool => fun t hf n cs x hx => by
    have hu : P.underlying t = some .bool := by
      unfold Shape.fits at hf
      split at hf
      · rename_i h; exact h
      · cases hf
    obtain ⟨b, rfl, _⟩ := DataW.trod_bool hu hx
    exact ⟨_, ⟨b, rfl⟩, .one (.v _ (by intro l; exact ⟨by simp, by simp⟩))⟩
  | .struct l => fun t hf n cs x hx => by
    unfold Shape.fits at hf
    split at hf
    · rename_i fs hu
      simp only [Bool.and_eq_true, beq_iff_eq] at hf
      obtain ⟨xs, n', rfl, _, hl, hxl, hfs⟩ := DataW.trod_struct hu hx
      obtain ⟨ts, h1, h2⟩ := readL l (fun s hs => Shape.read s) fs.toList 0 hf.2 n' cs (by rw [hl, hf.1]; omega) (fun f hfm => by
        obtain ⟨i, hi, hfi⟩ := List.mem_iff_getElem.1 hfm
        have hi' : i < fs.size := by simpa using hi
        have hg : fs[i]? = some f := by rw [Array.getElem?_eq_getElem hi']; simpa using hfi
        have := hfs i f hg
        have hxi : i < xs.length := by rw [hxl]; exact hi'
        rw [List.getElem?_eq_getElem hxi] at this
        exact ⟨_, this⟩)
      exact ⟨ts, h1, by simpa using h2⟩
    · cases hf
  | .arr m s => fun t hf n cs x hx => by
    unfold Shape.fits at hf
    split at hf
    · rename_i m' e hu
      simp only [Bool.and_eq_true, beq_iff_eq] at hf
      obtain ⟨⟨⟨rfl, h1⟩, h2⟩, h3⟩ := hf
      cases n with
      | zero => simp [DataW.trod] at hx
      | succ n =>
        unfold DataW.trod at hx
        rw [hu] at hx
        simp only at hx
        split at hx
        · rename_i hl
          obtain ⟨xs, hxs, _⟩ := Option.map_eq_some_iff.1 hx
          obtain ⟨ts, h4, h5⟩ := readN (Shape.read s) h3 m' 0 n cs (by rw [hl, h1, Nat.zero_add]) (fun j hj => by
            have := mapM_some_get hxs j j (by simp [hj])
            have hlen := mapM_some_length hxs
            rw [List.length_range] at hlen
            rw [List.getElem?_eq_getElem (by omega)] at this
            rw [h2] at this
            rw [Nat.zero_add]
            exact ⟨_, this⟩)
          exact ⟨ts, h4, by simpa using h5⟩
        · cases hx
    · cases hf
  | .slice s => fun t hf n cs x hx => by
    unfold Shape.fits at hf
    split at hf
    · rename_i e hu
      simp only [Bool.and_eq_true, beq_iff_eq, decide_eq_true_eq] at hf
      obtain ⟨⟨h1, h2⟩, h3⟩ := hf
      rcases DataW.trod_slice hu hx with ⟨rfl, _⟩ | ⟨a, len, cap, elems, rest, n', rfl, rfl, _, _, hlc, hcap, hel, hread, _, _⟩
      · refine ⟨[.lst false []], ⟨false, [], rfl, by simp, by simp⟩, .one (.lst false [] none 0 0 0 0 (fun _ _ => default) (by simp) (by omega) (by simp) (by simp) (by simp) (by simp) (by simp) (fun i j t ht => by simp [at2] at ht) (fun i j t ht => by simp [at2] at ht))⟩
      · have hm : maxLen = 2 ^ 63 - 1 := rfl
        have hrow : ∀ i, i < len → ∃ ts css, s.ok ts ∧ TRepL w ts css ∧ w.cells? 0 (a.add (i * s.size)) s.size = some css := fun i hi => by
          have hr := hread i hi
          rw [List.getElem?_eq_getElem (by omega), h1] at hr
          obtain ⟨css, hc, hx2⟩ := Option.bind_eq_some_iff.1 hr
          obtain ⟨ts, h4, h5⟩ := Shape.read s e h3 _ _ _ hx2
          exact ⟨ts, css, h4, h5, hc⟩
        let f : Nat → List Tree := fun i => if h : i < len then (hrow i h).choose else []
        let g : Nat → List Value := fun i => if h : i < len then (hrow i h).choose_spec.choose else []
        have hfg : ∀ i, i < len → s.ok (f i) ∧ TRepL w (f i) (g i) ∧ w.cells? 0 (a.add (i * s.size)) s.size = some (g i) := fun i hi => by
          have hfi : f i = (hrow i hi).choose := dif_pos hi
          have hgi : g i = (hrow i hi).choose_spec.choose := dif_pos hi
          rw [hfi, hgi]
          exact (hrow i hi).choose_spec.choose_spec
        have hspot : 0 < len → a = ⟨a.block, a.off, none⟩ ∧ a.block < w.heap.size := fun h0 => by
          obtain ⟨hok, hrep, hc⟩ := hfg 0 h0
          obtain ⟨_, hl, hce⟩ := World.cells?_some hc
          have := hce 0 h2
          rw [List.getElem?_eq_getElem (by omega)] at this
          have ha : (a.add (0 * s.size)).add 0 = a := by simp [Addr.add]
          rw [ha] at this
          refine ⟨?_, ?_⟩
          · unfold World.cell? at this
            split at this
            · split at this
              · cases this
              · rename_i hs
                obtain ⟨b, o, sp'⟩ := a
                cases sp' with
                | none => rfl
                | some _ => simp at hs
            · cases this
          · have := World.cells?_block hc h2
            simpa [Addr.add] using this
        have hrows : ∀ i, (((List.range len).map f)[i]?) = if i < len then some (f i) else none := fun i => by
          rw [List.getElem?_map]
          by_cases h : i < len
          · rw [if_pos h, List.getElem?_range h]; rfl
          · rw [if_neg h, List.getElem?_eq_none (by simpa using h)]; rfl
        have hat : ∀ i j t, at2 ((List.range len).map f) i j = some t → i < len ∧ (f i)[j]? = some t := fun i j t ht => by
          unfold at2 at ht
          rw [hrows] at ht
          by_cases h : i < len
          · rw [if_pos h] at ht; exact ⟨h, ht⟩
          · rw [if_neg h] at ht; cases ht
        have hcell : ∀ i j t, at2 ((List.range len).map f) i j = some t → ∃ v, (g i)[j]? = some v ∧ w.cell? ⟨a.block, a.off + i * s.size + j, none⟩ = some v ∧ TRep (old w) w t v ∧ a.block < w.heap.size := fun i j t ht => by
          obtain ⟨hi, hj⟩ := hat i j t ht
          obtain ⟨hok, hrep, hc⟩ := hfg i hi
          obtain ⟨_, hl, hce⟩ := World.cells?_some hc
          have hjl : j < s.size := by
            have := (List.getElem?_eq_some_iff.1 hj).1
            rw [s.ok_len _ hok] at this; exact this
          have hv := hce j hjl
          obtain ⟨hs1, hs2⟩ := hspot (by omega)
          refine ⟨(g i)[j]'(by omega), List.getElem?_eq_getElem (by omega), ?_, hrep.2 j t _ hj (List.getElem?_eq_getElem (by omega)), hs2⟩
          rw [List.getElem?_eq_getElem (by omega)] at hv
          rw [← hv]
          rw [hs1, add_none, add_none]
        refine ⟨[.lst false ((List.range len).map f)], ⟨false, _, rfl, by rw [List.length_map, List.length_range]; omega, fun r hr => ?_⟩, ?_⟩
        · obtain ⟨i, hi, rfl⟩ := List.mem_map.1 hr
          exact (hfg i (List.mem_range.1 hi)).1
        · refine .one ?_
          have hl : ((List.range len).map f).length = len := by rw [List.length_map, List.length_range]
          have := TRep.lst (S := old w) (w := w) false ((List.range len).map f) (some a) a.block a.off s.size cap (fun i j => ((g i)[j]?).getD default) (by rw [hl]; exact hlc) (by omega) (by rw [hl]; omega) (by simp)
            (fun hne => by rw [(hspot (by rcases Nat.eq_zero_or_pos len with h | h; · subst h; simp at hne
                                          · exact h)).1]) (by simp)
            (fun r hr => by obtain ⟨i, hi, rfl⟩ := List.mem_map.1 hr; exact s.ok_len _ (hfg i (List.mem_range.1 hi)).1)
            (fun i j t ht => by obtain ⟨v, h4, h5, h6, h7⟩ := hcell i j t ht; exact ⟨h7, by rw [h5, h4]; rfl⟩)
            (fun i j t ht => by obtain ⟨v, h4, h5, h6, h7⟩ := hcell i j t ht; rw [h4]; exact h6)
          rw [hl] at this
          exact this
    · cases hf
termination_by s => SizeOf.sizeOf s

/-- An argument as an abstract one. -/
def Shape.tv (s : Shape) (ts : List Tree) : TV :=
  match s, ts with
  | .struct _, ts => .agg ts
  | .arr _ _, ts => .agg ts
  | _, [t] => .c t
  | _, ts => .agg ts

def isAggT (P : Program) (t : TypeId) : Bool := match P.underlying t with
  | some (.struct _) | some (.array _ _) => true
  | _ => false

theorem Shape.rep {s : Shape} {t : TypeId} (hf : s.fits P t = true) {v : Value} (hok : Value.okWide P w .any 0 t v) {ts : List Tree} (hs : s.ok ts) (h : TRepL w ts v.cells.toList) : VRep noβ (old w) w (s.tv ts).av v := by
  have agg : ∀ (cs : Array Value), v = .agg cs → VRep noβ (old w) w (TV.agg ts).av v := fun cs hv => by
    subst hv
    have : Array.mk cs.toList = cs := rfl
    rw [show TV.av (.agg ts) = AV.agg (ts.map .t) from rfl, ← this]
    refine .agg cs.toList (by rw [List.length_map]; exact h.1.symm) fun i c hc => ?_
    rw [List.getElem?_map] at hc
    obtain ⟨t', ht, rfl⟩ := Option.map_eq_some_iff.1 hc
    have hi := (List.getElem?_eq_some_iff.1 ht).1
    have hi2 : i < cs.toList.length := by have := h.1; simp only [Value.cells] at this; omega
    exact ⟨_, List.getElem?_eq_getElem hi2, .t (h.2 i t' _ ht (List.getElem?_eq_getElem hi2))⟩
  have scal : isAggT P t = false → ts.length = 1 → VRep noβ (old w) w (match ts with | [t] => TV.c t | ts => .agg ts).av v := fun hna hl => by
    match ts, hl, h with
    | [t'], _, h =>
      have hc : v.cells = #[v] := by
        cases v with
        | agg cs =>
          unfold Value.okWide at hok
          unfold isAggT at hna
          split at hok
          · rename_i h1; rw [h1] at hna; cases hna
          · rename_i h1; rw [h1] at hna; cases hna
          · unfold Cell.okWide at hok
            split at hok <;> first | (rename_i h1 h2; cases h2; done) | skip
            all_goals first | (unfold Cell.ok at hok; split at hok <;> first | (rename_i h1 h2; cases h2; done) | exact hok.elim) | skip
        | _ => rfl
      have := h.2 0 t' v rfl (by rw [hc]; rfl)
      exact .c (.t this)
  cases s with
  | int k =>
    have hu : P.underlying t = some (.int k) := by
      unfold Shape.fits at hf
      split at hf
      · rename_i k' h; rw [h, of_decide_eq_true hf]
      · cases hf
    obtain ⟨m, rfl, _⟩ := hs
    exact scal (by unfold isAggT; rw [hu]) rfl
  | bool =>
    have hu : P.underlying t = some .bool := by
      unfold Shape.fits at hf
      split at hf
      · rename_i h; exact h
      · cases hf
    obtain ⟨m, rfl⟩ := hs
    exact scal (by unfold isAggT; rw [hu]) rfl
  | slice s =>
    unfold Shape.fits at hf
    split at hf
    · rename_i e hu
      obtain ⟨_, _, rfl, _⟩ := hs
      exact scal (by unfold isAggT; rw [hu]) rfl
    · cases hf
  | struct l =>
    unfold Shape.fits at hf
    split at hf
    · rename_i fs hu
      unfold Value.okWide at hok
      rw [hu] at hok
      obtain ⟨cs, hv, _⟩ := hok
      exact agg cs hv
    · cases hf
  | arr n s =>
    unfold Shape.fits at hf
    split at hf
    · rename_i m e hu
      unfold Value.okWide at hok
      rw [hu] at hok
      obtain ⟨cs, hv, _⟩ := hok
      exact agg cs hv
    · cases hf

/-- The arguments, one after the other. -/
def okAll : List Shape → List (List Tree) → Prop
  | [], l => l = []
  | s :: ss, l => ∃ ts r, l = ts :: r ∧ s.ok ts ∧ okAll ss r

def tvs : List Shape → List (List Tree) → List TV
  | s :: ss, ts :: r => s.tv ts :: tvs ss r
  | _, _ => []

def fitsAll (P : Program) : List TypeId → List Shape → Bool
  | [], [] => true
  | t :: ts, s :: ss => s.fits P t && decide (t < P.types.size) && P.readableRec t && fitsAll P ts ss
  | _, _ => false

theorem args_read : ∀ {tys : List TypeId} {shs : List Shape} {vs : List Value} {ds : List (DataW H)} {ps : List MemPlace}, DataW.TrodAll enc P w 0 sp true tys vs ds ps → fitsAll P tys shs = true →
    (∀ (j : Nat) t v, tys[j]? = some t → vs[j]? = some v → Value.okWide P w .any 0 t v) →
    ∃ tss, okAll shs tss ∧ vs.length = (tvs shs tss).length ∧ ds.length = shs.length ∧ ∀ (i : Nat) (x : TV), (tvs shs tss)[i]? = some x → ∃ v, vs[i]? = some v ∧ VRep noβ (old w) w x.av v
  | [], [], [], [], ps, h, hf, hv => ⟨[], rfl, rfl, rfl, fun i x hx => by simp [tvs] at hx⟩
  | t :: ts, s :: ss, v :: vs, d :: ds, ps, h, hf, hv => by
    obtain ⟨p, q, ⟨n, h1⟩, h2, _⟩ := h
    simp only [fitsAll, Bool.and_eq_true] at hf
    obtain ⟨⟨⟨f1, f2⟩, f3⟩, f4⟩ := hf
    obtain ⟨tss, g1, g2, g3, g4⟩ := args_read h2 f4 (fun j t v ht hx => hv (j + 1) t v (by simpa using ht) (by simpa using hx))
    obtain ⟨tr, k1, k2⟩ := s.read t f1 n _ _ h1
    refine ⟨tr :: tss, ⟨tr, tss, rfl, k1, g1⟩, by simp [tvs, g2], by simp [g3], fun i x hx => ?_⟩
    cases i with
    | zero =>
      simp only [tvs, List.getElem?_cons_zero, Option.some.injEq] at hx
      subst hx
      exact ⟨v, rfl, Shape.rep f1 (hv 0 t v rfl rfl) k1 k2⟩
    | succ i => simp only [tvs, List.getElem?_cons_succ] at hx ⊢; exact g4 i x hx
  | [], _ :: _, _, _, _, _, hf, _ => by simp [fitsAll] at hf
  | _ :: _, [], _, _, _, _, hf, _ => by simp [fitsAll] at hf
  | [], [], _ :: _, _, _, h, _, _ => by simp [DataW.TrodAll] at h
  | [], [], [], _ :: _, _, h, _, _ => by simp [DataW.TrodAll] at h
  | _ :: _, _ :: _, [], _, _, h, _, _ => by simp [DataW.TrodAll] at h
  | _ :: _, _ :: _, _ :: _, [], _, h, _, _ => by simp [DataW.TrodAll] at h

theorem args_stay (hl : laidOutB P = true) {W W' : World} {sp' : Nat → Bool} (hb : Below W.heap.size W W') : ∀ {tys : List TypeId} {shs : List Shape} {vs : List Value} {ds : List (DataW H)} {ps : List MemPlace}, DataW.TrodAll enc P W 0 (fun _ => true) true tys vs ds ps → fitsAll P tys shs = true →
    (∀ p ∈ ps, p.block < W.heap.size) → (∀ p ∈ ps, sp' p.block = true) → DataW.TrodAll enc P W' 0 sp' true tys vs ds ps
  | [], [], [], [], ps, h, hf, h1, h2 => h
  | t :: ts, s :: ss, v :: vs, d :: ds, ps, h, hf, h1, h2 => by
    obtain ⟨p, q, k1, k2, rfl⟩ := h
    simp only [fitsAll, Bool.and_eq_true, decide_eq_true_eq] at hf
    obtain ⟨⟨⟨f1, f2⟩, f3⟩, f4⟩ := hf
    exact ⟨p, q, Go.WideElems.Trod_stays hl f3 f2 k1 (fun x hx => hb.same (h1 x (List.mem_append_left _ hx))) (fun x hx => h2 x (List.mem_append_left _ hx)),
      args_stay hl hb k2 f4 (fun x hx => h1 x (List.mem_append_right _ hx)) (fun x hx => h2 x (List.mem_append_right _ hx)), rfl⟩
  | [], _ :: _, _, _, _, _, hf, _, _ => by simp [fitsAll] at hf
  | _ :: _, [], _, _, _, _, hf, _, _ => by simp [fitsAll] at hf
  | [], [], _ :: _, _, _, h, _, _, _ => by simp [DataW.TrodAll] at h
  | [], [], [], _ :: _, _, h, _, _, _ => by simp [DataW.TrodAll] at h
  | _ :: _, _ :: _, [], _, _, h, _, _, _ => by simp [DataW.TrodAll] at h
  | _ :: _, _ :: _, _ :: _, [], _, h, _, _, _ => by simp [DataW.TrodAll] at h

/-- A law's contract, for whatever arguments of that look: the call, as the given statements ask for it. -/
theorem law_row {f : FuncId} {fn : Func} {spec : ChangeSpec} {shs : List Shape} {outs : List (Option Blk)} (hl : laidOutB P = true) (hf : fitsAll P fn.params.toList shs = true) (hvars : spec.vars = []) {tb0 : TypeId} (hres : fn.resultTypes = #[tb0]) (hb4 : P.underlying tb0 = some .bool)
    {apart fresh handsOn again : Bool} (hfn : ∀ ds : List (DataW H), ds.length = shs.length → (spec.fn H ds).args = ds ∧ (spec.fn H ds).results = [.lit (.bool true)] ∧ (spec.fn H ds).vars = [])
    (hc : ∀ tss, okAll shs tss → ACall P f ((tvs shs tss).map .val) ⟨[.val (tb true)], outs⟩)
    {W : World} {args : Array Value} {ds gs : List (DataW H)} {before : List MemPlace} (hval : ∀ (j : Nat) t v, fn.params[j]? = some t → args[j]? = some v → Value.okWide P W .any 0 t v)
    (hW : DataW.Whole enc P fn.params.toList spec.vars apart W args.toList ds gs before) :
    Calls P f args W fun e W' => ∃ v, e = .returned v ∧ spec.post enc P fn apart fresh handsOn again W args v W' := by
  have hW' := hW
  obtain ⟨p, q, hA, hV, rfl, hfz, hnd⟩ := hW
  rw [hvars] at hV
  have hgq : gs = [] ∧ q = [] := by
    cases gs with
    | nil => exact ⟨rfl, hV⟩
    | cons g gs => exact hV.elim
  obtain ⟨rfl, rfl⟩ := hgq
  obtain ⟨tss, hok, hlen, hdl, hrep⟩ := args_read hA hf (fun j t v ht hv => hval j t v (by simpa using ht) (by simpa using hv))
  have h := law_calls (hc tss hok) W args.toList hlen hrep
  have hargs : args.toList.toArray = args := rfl
  rw [hargs] at h
  obtain ⟨e1, e2, e3⟩ := hfn ds hdl
  have hbefore : ∀ x ∈ p, x.block < W.heap.size := fun x hx => hW'.lt x (List.mem_append_left _ hx)
  refine h.mono fun e W' ⟨he, hg⟩ => ?_
  subst he
  refine ⟨_, rfl, post_of_below (pa := p) (pv := []) hW' (fun b sp hd => ?_) (fun sp hs => ?_) (fun sp hs => ?_) rfl hg ?_⟩
  · rw [List.append_nil, e2, hres]
    exact trodAll_cons_mk (shut_bool hb4 _) trodAll_mk0
  · rw [List.append_nil, e1]
    exact args_stay hl hg hA hf hbefore (fun x hx => hs x (List.mem_append_left _ hx))
  · rw [List.append_nil, e3, hvars]; rfl
  · exact ok_one hres rfl (okWide_bool_mk hb4 _)

end
end Go.Abs
end

section
set_option linter.unusedVariables false
set_option linter.unusedSimpArgs false
set_option maxHeartbeats 8000000
set_option linter.unusedVariables false
set_option linter.unusedSimpArgs false
set_option maxRecDepth 100000
namespace Go.Proofs.Ytgncmjcoojmccaa
open Go Go.Abs Go.Abs.M Go.Proofs

def lgcdSt (a b : Int) : St := mkSt 12 [vi .i64 a, vi .i64 b] [none, none]
theorem lgcd_call (a b : Nat) (g : Int) (ha : a < 9223372036854775808) (hb : b < 9223372036854775808) (hg : g = Nat.gcd a b) : ACall Try.prog 37 [.val (ti .i64 (a : Int)), .val (ti .i64 (b : Int))] ⟨[.val (ti .i64 g)], [none, none]⟩ := by
  obtain ⟨x, hx⟩ : ∃ x : Int, x = a := ⟨_, rfl⟩
  obtain ⟨y, hy⟩ : ∃ y : Int, y = b := ⟨_, rfl⟩
  rw [← hx, ← hy]
  refine callZ ccOk mixed [.val] Try.func37 rfl rfl (by kernel_rfl) fun zwrap zadd zsub zmul zquo zrem zshl zshr zband zbor zbxor zbandn zeq zne zlt zle znot zbeq zbne zmax zmin znat zinb zofN zidx zneq znadd zdif zcut zroom zmkok zlen znth zsetr zisI zgetI zsetI zfit zpart zext zsetg zrep zwide zall zmok zmget zmset zW zth A L F hS hF => ?_
  cbv
  refine loopZ ccOk mixed hS (fun (m : Nat) s => ∃ c : Nat, c < 9223372036854775808 ∧ m < 9223372036854775808 ∧ Nat.gcd c m = Nat.gcd a b ∧ s = lgcdSt (zofN c) (zofN m)) (n := b) (s0 := lgcdSt (zofN a) (zofN b)) (le_of ?_ ?_) rfl (Nat.le_refl 2) ?_ ?_
  · simp [leT, lgcdSt, mkSt, vi, hS.ofN, hx, hy]
  · simp [leH, lgcdSt, mkSt]
  · exact ⟨a, ha, hb, rfl, rfl⟩
  · rintro m _ ⟨c, hc, hm, hgc, rfl⟩
    have e1 : 0 < m → zrem (zofN c) (zofN m) = zofN (c % m) := fun h => by rw [hS.rem, hS.ofN, hS.ofN, hS.ofN, Int.tmod_eq_emod_of_nonneg (by omega)]; rfl
    have e2 : zlt 0 (zofN m) = decide (0 < m) := by
      rw [hS.lt, hS.ofN]
      by_cases h : 0 < m
      · rw [decide_eq_true h]; exact decide_eq_true (by omega)
      · rw [decide_eq_false h]; exact decide_eq_false (by omega)
    have e3 : 0 < m → zne (zofN m) 0 = true := fun h => by rw [hS.ne, hS.ofN]; exact decide_eq_true (by omega)
    have e4 : m = 0 → zofN c = g := fun h => by subst h; rw [Nat.gcd_zero_right] at hgc; rw [hS.ofN, hg, hgc]
    cbv
    refine ⟨fun h => ?_, fun h => ?_⟩
    all_goals rw [e2] at h
    · have h := of_decide_eq_true h
      rw [e1 h]
      refine nd (e3 h) ?_
      refine again (s' := lgcdSt (zofN m) (zofN (c % m))) (m := c % m) (by simp [leT, lgcdSt, mkSt, vi]) (by simp [leH, lgcdSt, mkSt]) rfl (Nat.le_refl 2) (Nat.mod_lt _ h) ⟨m, hm, ?_, ?_, rfl⟩
      · have := Nat.mod_lt c h; omega
      · rw [← hgc, Nat.gcd_comm c m, Nat.gcd_rec m c, Nat.gcd_comm]
    · have h := of_decide_eq_false h
      exact fin1 hF (tv_int (e4 (by omega)))

/-- Nothing is rebuilt for a modulus that is not positive. -/
theorem prebuild_zero {u m : Int} {s t : Bool} {r q : Abs.Rows} (hu : IsI u s r) (hm : IsI m t q) (hpos : ¬ 0 < m) :
    ACall Try.prog 33 [.val (.agg (iT s r)), .val (.agg (iT t q))] ⟨[.val (.agg (iT false [] ++ iT false [])), .val (tb false)], [none, none]⟩ := by
  obtain ⟨c, hc, hc0⟩ : ∃ c, c = cmpI m 0 ∧ c ≤ 0 := ⟨_, rfl, (cmpI_cases m 0).1.2 (by omega)⟩
  have csg := isign_call c hm hc
  refine callZ ccOk mixed [.val, .val] Try.func33 rfl rfl (by kernel_rfl) fun zwrap zadd zsub zmul zquo zrem zshl zshr zband zbor zbxor zbandn zeq zne zlt zle znot zbeq zbne zmax zmin znat zinb zofN zidx zneq znadd zdif zcut zroom zmkok zlen znth zsetr zisI zgetI zsetI zfit zpart zext zsetg zrep zwide zall zmok zmget zmset zW zth A L F hS hF => ?_
  have w1 : zle c 0 = true := by rw [hS.le]; exact decide_eq_true hc0
  cbv
  refine ⟨_, hS.call (csg), ?_⟩
  cbv
  refine bT (w1) ?_
  exact fin2w hF ⟨.v _, TLe.drop _ _, .v _, TLe.drop _ _, trivial⟩ (TVLe.refl _)

def lsmSt (u m : Int) (is : Bool) (s : Bool) (r : Abs.Rows) (t : Bool) (q : Abs.Rows) (f d : Int) : St := mkSt 130 [vi .i16 u, .junk, .junk, .junk, .junk, vb true, vi .i64 m, .c (.ptr 10 0 0), vb is, vi .i64 f, vi .i64 d]
  [none, none, none, none, none, none, none, none, none, none, some (.var [.t (.v (.bool s)), .t (.lst false r), .t (.v (.bool t)), .t (.lst false q)])]
def lsm2St (u m : Int) (is : Bool) (s : Bool) (r : Abs.Rows) (t : Bool) (q : Abs.Rows) (f d n : Int) : St := mkSt 130 [vi .i16 u, .junk, .junk, .junk, .junk, vb true, vi .i64 m, .c (.ptr 10 0 0), vb is, vi .i64 f, vi .i64 d, vi .i64 n]
  [none, none, none, none, none, none, none, none, none, none, some (.var [.t (.v (.bool s)), .t (.lst false r), .t (.v (.bool t)), .t (.lst false q)])]

/-- A solution, if the modulus is positive. -/
def Sol (u m n d : Int) : Prop := 0 < m ∧ RebSol u m n d

theorem small_bound {m x : Int} (hm : m ≤ 255) (h : x * x + x * x ≤ m - 1) : -11 ≤ x ∧ x ≤ 11 := by
  constructor
  · rcases Int.lt_or_le x (-11) with h' | h'
    · have := sq_le (show (0 : Int) ≤ 12 by omega) (show (12 : Int) ≤ -x by omega)
      have e : (-x) * (-x) = x * x := by grind
      omega
    · exact h'
  · rcases Int.lt_or_le 11 x with h' | h'
    · have := sq_le (show (0 : Int) ≤ 12 by omega) (show (12 : Int) ≤ x by omega)
      omega
    · exact h'

theorem Sol.bd {u m n d : Int} (hm : m ≤ 255) (h : Sol u m n d) : (-11 ≤ n ∧ n ≤ 11) ∧ (1 ≤ d ∧ d ≤ 11) := by
  have h1 := h.2.pos
  have h2 := small_bound hm h.2.sd
  exact ⟨small_bound hm h.2.sn, by omega⟩

def InvO (u m f d : Int) : Prop := (f = 0 ∧ ∀ n0 d0, Sol u m n0 d0 → ¬ d0 < d) ∨ (f = 1 ∧ ∃ n0 d0, Sol u m n0 d0 ∧ d0 < d)
def InvI (u m f d n : Int) : Prop := (f = 0 ∧ ∀ n0 d0, Sol u m n0 d0 → ¬ (d0 < d ∨ d0 = d ∧ n0 < n)) ∨ (f = 1 ∧ ∃ n0 d0, Sol u m n0 d0 ∧ (d0 < d ∨ d0 = d ∧ n0 < n))

section
variable {u m f d n : Int}
theorem InvO.start (hm : m ≤ 255) : InvO u m 0 1 := .inl ⟨rfl, fun n0 d0 h hd => by have := (h.bd hm).2; omega⟩
theorem InvO.inner (hm : m ≤ 255) (h : InvO u m f d) : InvI u m f d (-15) := by
  rcases h with ⟨h1, h2⟩ | ⟨h1, n0, d0, h2, h3⟩
  · exact .inl ⟨h1, fun n0 d0 hs h => by have := h2 n0 d0 hs; have := (hs.bd hm).1; omega⟩
  · exact .inr ⟨h1, n0, d0, h2, .inl h3⟩
theorem InvI.skip (hns : ¬ Sol u m n d) (h : InvI u m f d n) : InvI u m f d (n + 1) := by
  rcases h with ⟨h1, h2⟩ | ⟨h1, n0, d0, h2, h3⟩
  · refine .inl ⟨h1, fun n0 d0 hs h => ?_⟩
    by_cases he : d0 = d ∧ n0 = n
    · obtain ⟨rfl, rfl⟩ := he; exact hns hs
    · exact h2 n0 d0 hs (by omega)
  · exact .inr ⟨h1, n0, d0, h2, by omega⟩
theorem InvI.hit (hs : Sol u m n d) (h : InvI u m f d n) : f = 0 ∧ InvI u m 1 d (n + 1) := by
  refine ⟨?_, .inr ⟨rfl, n, d, hs, .inr ⟨rfl, by omega⟩⟩⟩
  rcases h with ⟨h1, h2⟩ | ⟨h1, n0, d0, h2, h3⟩
  · exact h1
  · exfalso
    obtain ⟨e1, e2⟩ := hs.2.unique h2.2
    omega
theorem InvI.outer (hm : m ≤ 255) (h : InvI u m f d 16) : InvO u m f (d + 1) := by
  rcases h with ⟨h1, h2⟩ | ⟨h1, n0, d0, h2, h3⟩
  · exact .inl ⟨h1, fun n0 d0 hs hlt => h2 n0 d0 hs (by have := (hs.bd hm).1; omega)⟩
  · exact .inr ⟨h1, n0, d0, h2, by omega⟩
theorem InvO.last (hd : 1 ≤ d) (hout : ¬ d * d + d * d ≤ m - 1) (h : InvO u m f d) : (f = 0 ∧ ∀ n0 d0, ¬ Sol u m n0 d0) ∨ (f = 1 ∧ ∃ n0 d0, Sol u m n0 d0) := by
  rcases h with ⟨h1, h2⟩ | ⟨h1, n0, d0, h2, h3⟩
  · refine .inl ⟨h1, fun n0 d0 hs => h2 n0 d0 hs ?_⟩
    rcases Int.lt_or_le d0 d with h | h
    · exact h
    · have := sq_le (show 0 ≤ d by omega) h
      have := hs.2.sd
      omega
  · exact .inr ⟨h1, n0, d0, h2⟩
theorem dd_bd (h1 : 1 ≤ d) (h2 : d ≤ 12) : 0 ≤ d * d ∧ d * d ≤ 144 := by
  have h := sq_le (show 0 ≤ d by omega) h2
  exact ⟨sq_nn d, by omega⟩
theorem nn_bd (h1 : -15 ≤ n) (h2 : n ≤ 15) : 0 ≤ n * n ∧ n * n ≤ 225 := by
  refine ⟨sq_nn n, ?_⟩
  rcases Int.le_total 0 n with h | h
  · have := sq_le h h2; omega
  · have := sq_le (show 0 ≤ -n by omega) (show -n ≤ 15 by omega)
    have e : (-n) * (-n) = n * n := by grind
    omega
theorem ud_bd (hu0 : -32768 ≤ u) (hu1 : u < 32768) (h1 : 1 ≤ d) (h2 : d ≤ 12) : -400000 ≤ u * d ∧ u * d ≤ 400000 := by
  rcases Int.le_total 0 u with h | h
  · have := Int.mul_nonneg h (show 0 ≤ d by omega)
    have : u * d ≤ 32768 * 12 := Int.mul_le_mul (by omega) (by omega) (by omega) (by omega)
    omega
  · have := Int.mul_nonpos_of_nonpos_of_nonneg h (show 0 ≤ d by omega)
    have : (-u) * d ≤ 32768 * 12 := Int.mul_le_mul (by omega) (by omega) (by omega) (by omega)
    have e : (-u) * d = -(u * d) := Int.neg_mul ..
    omega
theorem sol_of (h0 : 0 < m) (hd : 1 ≤ d) (h1 : d * d + d * d ≤ m - 1) (h2 : n * n + n * n ≤ m - 1) (h3 : Int.gcd d m = 1) (h4 : Int.gcd n d = 1) (h5 : (n - u * d).tmod m = 0) : Sol u m n d :=
  ⟨h0, by omega, h2, h1, h4, h3, Int.dvd_of_tmod_eq_zero h5⟩
theorem gcd_ne (g : Nat) {zne : Int → Int → Bool} (h : ∀ a b, zne a b = decide (a ≠ b)) : zne (g : Int) 1 = decide (g ≠ 1) := by
  rw [h]
  by_cases hg : g = 1
  · rw [decide_eq_false (show ¬ g ≠ 1 by omega)]; exact decide_eq_false (by omega)
  · rw [decide_eq_true hg]; exact decide_eq_true (by omega)
end



theorem small_call (hsan : ACall Try.prog 10 [] ⟨[.val (tb true)], []⟩) (u m : Int) (hu0 : -32768 ≤ u) (hu1 : u < 32768) (hm0 : 0 ≤ m) (hm1 : m < 256) :
    ACall Try.prog 9 [.val (ti .i16 u), .val (ti .u8 m)] ⟨[.val (tb true)], [none, none]⟩ := by
  obtain ⟨us, ur, hu, cu⟩ := rof_call u (by omega) (by omega)
  obtain ⟨ms, mr, hm, cm⟩ := rof_call m (by omega) (by omega)
  obtain ⟨is, s, r, t, q, crb, hT, hF0⟩ : ∃ (is s : Bool) (r : Abs.Rows) (t : Bool) (q : Abs.Rows), ACall Try.prog 33 [.val (.agg (iT us ur)), .val (.agg (iT ms mr))] ⟨[.val (.agg (iT s r ++ iT t q)), .val (tb is)], [none, none]⟩ ∧
      (is = true → ∃ n0 d0, Sol u m n0 d0 ∧ IsI n0 s r ∧ IsI d0 t q) ∧ (is = false → (∀ n d, ¬ Sol u m n d) ∧ r = [] ∧ q = []) := by
    have su : nl u.natAbs ≤ 1 := nl_le_of (by omega)
    have sm : nl m.natAbs ≤ 1 := nl_le_of (by omega)
    by_cases hpos : 0 < m
    · obtain ⟨X, b, hX⟩ := rebres_ex u m
      have c := prebuild_call hu hm hpos (by omega) (by omega) hX
      cases hX with
      | found hs i1 i2 => exact ⟨_, _, _, _, _, c, fun _ => ⟨_, _, ⟨hpos, hs⟩, i1, i2⟩, fun h => (by cases h)⟩
      | none hs => exact ⟨_, _, _, _, _, c, fun h => (by cases h), fun _ => ⟨fun n d h => hs n d h.2, rfl, rfl⟩⟩
    · exact ⟨_, _, _, _, _, prebuild_zero hu hm hpos, fun h => (by cases h), fun _ => ⟨fun n d h => hpos h.1, rfl, rfl⟩⟩
  clear hu hm
  have hm255 : m ≤ 255 := by omega
  refine callZ ccOk mixed [.val] Try.func9 rfl rfl (by kernel_rfl) fun zwrap zadd zsub zmul zquo zrem zshl zshr zband zbor zbxor zbandn zeq zne zlt zle znot zbeq zbne zmax zmin znat zinb zofN zidx zneq znadd zdif zcut zroom zmkok zlen znth zsetr zisI zgetI zsetI zfit zpart zext zsetg zrep zwide zall zmok zmget zmset zW zth A L F hS hF => ?_
  have w1 : zwrap .i64 m = m := by rw [hS.wrap, wrap_i64 (by omega) (by omega)]
  have w2 : zwrap .i64 u = u := by rw [hS.wrap, wrap_i64 (by omega) (by omega)]
  have y11 : znot true = false := hS.not true
  have wm : zwrap .i64 (zsub m 1) = m - 1 := by rw [hS.sub, hS.wrap, wrap_i64 (by omega) (by omega)]
  have X1 : ∀ d : Int, 1 ≤ d → d ≤ 12 → zle (zwrap .i64 (zmul (zwrap .i64 (zmul 2 d)) d)) (zwrap .i64 (zsub m 1)) = decide (d * d + d * d ≤ m - 1) := fun d h1 h2 => by
    have := dd_bd h1 h2
    have e : 2 * d * d = d * d + d * d := by grind
    rw [wm, hS.wrap, hS.mul, hS.wrap, hS.mul, wrap_i64 (x := 2 * d) (by omega) (by omega), e, wrap_i64 (by omega) (by omega), hS.le]
  have X2 : ∀ n : Int, -15 ≤ n → n ≤ 15 → zlt (zwrap .i64 (zsub m 1)) (zwrap .i64 (zmul (zwrap .i64 (zmul 2 n)) n)) = decide (m - 1 < n * n + n * n) := fun n h1 h2 => by
    have := nn_bd h1 h2
    have e : 2 * n * n = n * n + n * n := by grind
    rw [wm, hS.wrap, hS.wrap, hS.mul, hS.mul, wrap_i64 (x := 2 * n) (by omega) (by omega), e, wrap_i64 (by omega) (by omega), hS.lt]
  have X3 : ∀ n d : Int, -15 ≤ n → n ≤ 15 → 1 ≤ d → d ≤ 12 → zne (zrem (zwrap .i64 (zsub n (zwrap .i64 (zmul (zwrap .i64 u) d)))) m) 0 = decide ((n - u * d).tmod m ≠ 0) := fun n d h1 h2 h3 h4 => by
    have := ud_bd hu0 hu1 h3 h4
    rw [w2, hS.wrap, hS.wrap, hS.mul, hS.sub, wrap_i64 (x := u * d) (by omega) (by omega), wrap_i64 (by omega) (by omega), hS.rem, hS.ne]
  have X4 : ∀ n : Int, -15 ≤ n → n ≤ 15 → zmax n (zwrap .i64 (zsub 0 n)) = n.natAbs := fun n h1 h2 => by
    rw [hS.wrap, hS.sub, wrap_i64 (by omega) (by omega), hS.max]
    split <;> omega
  have X5 : ∀ x : Int, -100 ≤ x → x ≤ 100 → zwrap .i64 (zadd x 1) = x + 1 := fun x h1 h2 => by rw [hS.wrap, hS.add, wrap_i64 (by omega) (by omega)]
  have y13 : ∀ f : Int, f = 0 → zwrap .i64 (zadd f 1) = 1 := fun f h => by rw [h, X5 0 (by omega) (by omega)]; rfl

  have G2 : ∀ d : Int, 1 ≤ d → d ≤ 12 → ∃ (g : Nat) (G : Int), Int.gcd d m = g ∧ zne G 1 = decide (g ≠ 1) ∧ ACall Try.prog 37 [.val (ti .i64 d), .val (ti .i64 m)] ⟨[.val (ti .i64 G)], [none, none]⟩ := fun d h1 h2 => by
    have c := lgcd_call d.toNat m.toNat (Int.gcd d m) (by omega) (by omega) (by unfold Int.gcd; congr 2 <;> omega)
    rw [show ((d.toNat : Nat) : Int) = d by omega, show ((m.toNat : Nat) : Int) = m by omega] at c
    exact ⟨_, _, rfl, gcd_ne _ hS.ne, c⟩
  have G3 : ∀ n d : Int, -15 ≤ n → n ≤ 15 → 1 ≤ d → d ≤ 12 → ∃ (g : Nat) (G : Int), Int.gcd n d = g ∧ zne G 1 = decide (g ≠ 1) ∧ ACall Try.prog 37 [.val (ti .i64 d), .val (ti .i64 (zmax n (zwrap .i64 (zsub 0 n))))] ⟨[.val (ti .i64 G)], [none, none]⟩ := fun n d h1 h2 h3 h4 => by
    have c := lgcd_call d.toNat n.natAbs (Int.gcd n d) (by omega) (by omega) (by rw [Nat.gcd_comm]; unfold Int.gcd; congr 2; omega)
    rw [show ((d.toNat : Nat) : Int) = d by omega, ← X4 n h1 h2] at c
    exact ⟨_, _, rfl, gcd_ne _ hS.ne, c⟩
  have G4 : ∀ n : Int, -15 ≤ n → n ≤ 15 → ∃ a b, ACall Try.prog 27 [.val (ti .i64 n)] ⟨[.val (.agg (iT a b))], [none]⟩ ∧ ∀ s r, IsI n s r → ACall Try.prog 30 [.val (.agg (iT s r)), .val (.agg (iT a b))] ⟨[.val (tb true)], [none, none]⟩ := fun n h1 h2 => by
    obtain ⟨a, b, h, c⟩ := rof_call n (by omega) (by omega)
    refine ⟨a, b, c, fun s r i => ?_⟩
    have sn : nl n.natAbs ≤ 1 := nl_le_of (by omega)
    have := rsame_call i h (by omega)
    rw [decide_eq_true (rfl : n = n)] at this
    exact this
  cbv
  refine ⟨_, hS.call (hsan), ?_⟩
  cbv
  refine bF (y11) ?_
  rw [w1, w2]
  refine ⟨_, hS.call (cu), ?_⟩
  cbv
  refine ⟨_, hS.call (cm), ?_⟩
  cbv
  refine ⟨_, hS.call (crb), ?_⟩
  cbv
  clear crb cu cm hu0 hu1
  refine loopZ ccOk mixed hS (fun (k : Nat) s' => ∃ f d : Int, d + k = 12 ∧ 1 ≤ d ∧ InvO u m f d ∧ s' = lsmSt u m is s r t q f d) (n := 11) (s0 := lsmSt u m is s r t q 0 1) (le_of ?_ ?_) rfl (by show 2 ≤ 11; omega) ?_ ?_
  · simp [leT, lsmSt, mkSt, vi, vb]
  · simp [leH, lsmSt, mkSt]
  · exact ⟨0, 1, by omega, by omega, .start hm255, rfl⟩
  · rintro k s1 ⟨f, d, hk, hd1, hinv, hs1⟩
    have hd12 : d ≤ 12 := by omega
    have x1 := X1 d hd1 hd12
    by_cases hlt : d * d + d * d ≤ m - 1
    · have hd11 := (small_bound hm255 hlt).2
      have hmp : 0 < m := by have := dd_bd hd1 hd12; omega
      rw [decide_eq_true hlt] at x1
      obtain ⟨cd1, cd2, cd, csd0⟩ := G4 d (by omega) (by omega)
      have csd := csd0 t q
      obtain ⟨g1, G1, hG1, y3, cg1⟩ := G2 d hd1 hd12
      have y8 : zne d 1 = decide (d ≠ 1) := hS.ne ..
      have y9 : zne m 0 = true := by rw [hS.ne]; exact decide_eq_true (by omega)
      obtain ⟨d', hd'⟩ : ∃ d', d' = d + 1 := ⟨_, rfl⟩
      have z1 : zwrap .i64 (zadd d 1) = d' := by rw [X5 d (by omega) (by omega), hd']
      have hout : ∀ f : Int, InvI u m f d 16 → ∃ f' dd : Int, dd + ((k - 1 : Nat) : Int) = 12 ∧ 1 ≤ dd ∧ InvO u m f' dd ∧ lsmSt u m is s r t q f d' = lsmSt u m is s r t q f' dd := fun f h =>
        ⟨f, d', by omega, by omega, by rw [hd']; exact h.outer hm255, rfl⟩
      have hkk : k - 1 < k := by omega
      have hin := hinv.inner hm255
      clear hinv hk
      subst hs1
      cbv
      refine bT x1 ?_
      refine loopZ ccOk mixed hS (fun (k' : Nat) s' => ∃ f n : Int, n + k' = 16 ∧ -15 ≤ n ∧ InvI u m f d n ∧ s' = lsm2St u m is s r t q f d n) (n := 31) (s0 := lsm2St u m is s r t q f d (-15)) (le_of ?_ ?_) rfl (by show 2 ≤ 11; omega) ?_ ?_
      · simp [leT, lsm2St, mkSt, vi, vb]
      · simp [leH, lsm2St, mkSt]
      · exact ⟨f, -15, by omega, by omega, hin, rfl⟩
      · clear hin
        rintro k' s1 ⟨f, n, hk', hn15, hinv, hs1⟩
        have y1 : zle n 15 = decide (n ≤ 15) := hS.le ..
        by_cases hn16 : n ≤ 15
        · rw [decide_eq_true hn16] at y1
          obtain ⟨cn1, cn2, cn, csn0⟩ := G4 n hn15 hn16
          have csn := csn0 s r
          obtain ⟨n1, hn1⟩ : ∃ n1, n1 = n + 1 := ⟨_, rfl⟩
          have y1' : zwrap .i64 (zadd n 1) = n1 := by rw [X5 n (by omega) (by omega), hn1]
          have y2 := X2 n hn15 hn16
          have y4 : zne n 0 = decide (n ≠ 0) := hS.ne ..
          obtain ⟨g2, G2', hG2, y6, cg2⟩ := G3 n d hn15 hn16 hd1 hd12
          have y7 : zeq n 0 = decide (n = 0) := hS.eq ..
          have y10 := X3 n d hn15 hn16 hd1 hd12
          have hk1 : k' - 1 < k' := by omega
          have hb1 : n1 + ((k' - 1 : Nat) : Int) = 16 ∧ -15 ≤ n1 := by omega
          have hskip : ¬ Sol u m n d → ∃ f' nn : Int, nn + ((k' - 1 : Nat) : Int) = 16 ∧ -15 ≤ nn ∧ InvI u m f' d nn ∧ lsm2St u m is s r t q f d n1 = lsm2St u m is s r t q f' d nn := fun hns =>
            ⟨f, n1, hb1.1, hb1.2, by rw [hn1]; exact hinv.skip hns, rfl⟩
          have hhit : Sol u m n d → is = true ∧ f = 0 ∧ IsI n s r ∧ IsI d t q ∧ ∃ f' nn : Int, nn + ((k' - 1 : Nat) : Int) = 16 ∧ -15 ≤ nn ∧ InvI u m f' d nn ∧ lsm2St u m is s r t q 1 d n1 = lsm2St u m is s r t q f' d nn := fun hs => by
            have his : is = true := by
              cases is with
              | true => rfl
              | false => exact absurd hs ((hF0 rfl).1 n d)
            obtain ⟨n0, d0, h1, h2, h3⟩ := hT his
            obtain ⟨e1, e2⟩ := hs.2.unique h1.2
            subst e1 e2
            obtain ⟨q1, q2⟩ := hinv.hit hs
            exact ⟨his, q1, h2, h3, 1, n1, hb1.1, hb1.2, by rw [hn1]; exact q2, rfl⟩
          have hsol := fun h2 h3 h4 h5 => sol_of (u := u) (n := n) hmp hd1 hlt h2 h3 h4 h5
          have sn := fun (hs : Sol u m n d) => hs.2.sn
          rw [hG1, hG2] at hsol
          have q1 : Sol u m n d → g1 = 1 := fun hs => by rw [← hG1]; exact hs.2.cm
          have q2 : Sol u m n d → g2 = 1 := fun hs => by rw [← hG2]; exact hs.2.co
          have q3 : n = 0 → (g2 = 1 ↔ d = 1) := fun h => by
            rw [← hG2, h]
            have : Int.gcd 0 d = d.natAbs := by simp [Int.gcd]
            rw [this]; omega
          clear hinv hT hF0 hout x1 X1 X2 X3 X4 X5 G2 G3 G4 hk' hb1 hG2
          subst hs1
          cbv
          refine bT y1 ⟨fun h => ?_, fun h2 => ⟨_, hS.call cg1, ?_⟩⟩
          · rw [y2] at h
            have h := of_decide_eq_true h
            exact again (s' := lsm2St u m is s r t q f d n1) (m := k' - 1) (by simp [leT, lsm2St, mkSt, vi, vb, y1']) (by simp [leH, lsm2St, mkSt]) rfl (by show 2 ≤ 11; omega) hk1 (hskip (fun hs => by have := sn hs; omega))
          rw [y2] at h2
          have h2 := of_decide_eq_false h2
          cbv
          refine ⟨fun h => ?_, fun h3 => ⟨fun h4 => ?_, fun h4 => ?_⟩⟩
          · rw [y3] at h
            have h := of_decide_eq_true h
            exact again (s' := lsm2St u m is s r t q f d n1) (m := k' - 1) (by simp [leT, lsm2St, mkSt, vi, vb, y1']) (by simp [leH, lsm2St, mkSt]) rfl (by show 2 ≤ 11; omega) hk1 (hskip (fun hs => h (q1 hs)))
          all_goals rw [y3] at h3
          all_goals have h3 := Decidable.not_not.mp (of_decide_eq_false h3)
          all_goals rw [y4] at h4
          · have h4 := of_decide_eq_true h4
            refine ⟨_, hS.call cg2, ?_⟩
            cbv
            refine ⟨fun h => ?_, fun h5 => bF (by rw [y7]; exact decide_eq_false h4) ?_⟩
            · rw [y6] at h
              have h := of_decide_eq_true h
              exact again (s' := lsm2St u m is s r t q f d n1) (m := k' - 1) (by simp [leT, lsm2St, mkSt, vi, vb, y1']) (by simp [leH, lsm2St, mkSt]) rfl (by show 2 ≤ 11; omega) hk1 (hskip (fun hs => h (q2 hs)))
            · rw [y6] at h5
              have h5 := Decidable.not_not.mp (of_decide_eq_false h5)
              refine nd y9 ⟨fun h => ?_, fun h => ?_⟩
              · rw [y10] at h
                have h := of_decide_eq_true h
                exact again (s' := lsm2St u m is s r t q f d n1) (m := k' - 1) (by simp [leT, lsm2St, mkSt, vi, vb, y1']) (by simp [leH, lsm2St, mkSt]) rfl (by show 2 ≤ 11; omega) hk1 (hskip (fun hs => h (Int.tmod_eq_zero_of_dvd hs.2.dv)))
              · rw [y10] at h
                have h := Decidable.not_not.mp (of_decide_eq_false h)
                obtain ⟨e1, e2, i1, i2, hnx⟩ := hhit (hsol (by omega) h3 h5 h)
                refine bF (by rw [e1]; exact y11) ⟨_, hS.call cn, ?_⟩
                cbv
                refine ⟨_, hS.call (csn i1), ?_⟩
                cbv
                refine bF y11 ⟨_, hS.call cd, ?_⟩
                cbv
                refine ⟨_, hS.call (csd i2), ?_⟩
                cbv
                refine bF y11 ?_
                exact again (s' := lsm2St u m is s r t q 1 d n1) (m := k' - 1) (by simp [leT, lsm2St, mkSt, vi, vb, y1', y13 f e2]) (by simp [leH, lsm2St, mkSt]) rfl (by show 2 ≤ 11; omega) hk1 hnx
          · have h4 := Decidable.not_not.mp (of_decide_eq_false h4)
            refine bT (by rw [y7]; exact decide_eq_true h4) ⟨fun h => ?_, fun h5 => ?_⟩
            · rw [y8] at h
              have h := of_decide_eq_true h
              exact again (s' := lsm2St u m is s r t q f d n1) (m := k' - 1) (by simp [leT, lsm2St, mkSt, vi, vb, y1']) (by simp [leH, lsm2St, mkSt]) rfl (by show 2 ≤ 11; omega) hk1 (hskip (fun hs => h ((q3 h4).1 (q2 hs))))
            · rw [y8] at h5
              have h5 := Decidable.not_not.mp (of_decide_eq_false h5)
              refine nd y9 ⟨fun h => ?_, fun h => ?_⟩
              · rw [y10] at h
                have h := of_decide_eq_true h
                exact again (s' := lsm2St u m is s r t q f d n1) (m := k' - 1) (by simp [leT, lsm2St, mkSt, vi, vb, y1']) (by simp [leH, lsm2St, mkSt]) rfl (by show 2 ≤ 11; omega) hk1 (hskip (fun hs => h (Int.tmod_eq_zero_of_dvd hs.2.dv)))
              · rw [y10] at h
                have h := Decidable.not_not.mp (of_decide_eq_false h)
                obtain ⟨e1, e2, i1, i2, hnx⟩ := hhit (hsol (by omega) h3 ((q3 h4).2 h5) h)
                refine bF (by rw [e1]; exact y11) ⟨_, hS.call cn, ?_⟩
                cbv
                refine ⟨_, hS.call (csn i1), ?_⟩
                cbv
                refine bF y11 ⟨_, hS.call cd, ?_⟩
                cbv
                refine ⟨_, hS.call (csd i2), ?_⟩
                cbv
                refine bF y11 ?_
                exact again (s' := lsm2St u m is s r t q 1 d n1) (m := k' - 1) (by simp [leT, lsm2St, mkSt, vi, vb, y1', y13 f e2]) (by simp [leH, lsm2St, mkSt]) rfl (by show 2 ≤ 11; omega) hk1 hnx
        · rw [decide_eq_false hn16] at y1
          obtain rfl : n = 16 := by omega
          have hnx := hout f hinv
          clear hinv hT hF0 hout x1 X1 X2 X3 X4 X5 G2 G3 G4 hk'
          subst hs1
          cbv
          refine bF y1 ?_
          rw [z1]
          exact again (s' := lsmSt u m is s r t q f d') (m := k - 1) (by simp [leT, lsmSt, mkSt, vi, vb]) (by simp [leH, lsmSt, mkSt]) rfl (by show 2 ≤ 11; omega) hkk hnx
    · rw [decide_eq_false hlt] at x1
      have hl := hinv.last hd1 hlt
      have e1 : zbeq is (zeq f 1) = true := by
        rw [hS.beq, hS.eq]
        rcases hl with ⟨h1, h2⟩ | ⟨h1, n0, d0, h2⟩
        · cases is with
          | true => obtain ⟨n0, d0, h3, _⟩ := hT rfl; exact absurd h3 (h2 n0 d0)
          | false => rw [h1]; rfl
        · cases is with
          | true => rw [h1]; rfl
          | false => exact absurd h2 ((hF0 rfl).1 n0 d0)
      have e2 : zle f 1 = true := by rw [hS.le]; rcases hl with ⟨h1, _⟩ | ⟨h1, _⟩ <;> rw [h1] <;> rfl
      have e3 : is = false → zeq (zwrap .i64 (zadd (zofN (zlen r)) (zofN (zlen q)))) 0 = true := fun h => by
        obtain ⟨_, h1, h2⟩ := hF0 h
        rw [h1, h2, hS.len, hS.ofN, hS.add, hS.wrap, hS.eq]; rfl
      clear hl hinv hT hF0 X1 X2 X3 X4 X5 G2 G3 G4
      subst hs1
      cbv
      refine bF x1 (bT e1 (bT e2 ⟨fun h => ?_, fun h => bT (e3 h) ?_⟩))
      · exact hF _ (ResLe.refl _)
      · exact hF _ (ResLe.refl _)

theorem small_row (hsan : ACall Try.prog 10 [] ⟨[.val (tb true)], []⟩) (tss : List (List Tree)) (h : okAll [.int .i16, .int .u8] tss) :
    ACall Try.prog 9 ((tvs [.int .i16, .int .u8] tss).map .val) ⟨[.val (tb true)], [none, none]⟩ := by
  obtain ⟨_, _, rfl, ⟨u, rfl, hu⟩, _, _, rfl, ⟨m, rfl, hm⟩, rfl⟩ := h
  have hu := bd_i16 hu
  have hm := bd_u8 hm
  exact small_call hsan u m hu.1 hu.2 hm.1 hm.2
end Go.Proofs.Ytgncmjcoojmccaa
end

section
set_option linter.unusedVariables false
set_option linter.unusedSimpArgs false
set_option maxHeartbeats 4000000
set_option maxRecDepth 100000
set_option linter.unusedVariables false
set_option linter.unusedSimpArgs false
namespace Go.Proofs.Ytgncmjcoojmccaa
open Go Go.Abs Go.Proofs
noncomputable def sm : FuncId → List Abs.Mode := omOf Try.prog []
theorem ex {f : Nat} {args : List Arg} {res : Res} (n : Nat) (h : execCall Try.prog CC sm n f args = some res) : ACall Try.prog f args res := execCall_sound ccOk mixed n f args res h
/-- An integer of one word. -/
def i1 (n : Int) : List Tree := [.v (.bool false), .lst false [[.v (.int .u32 n)]]]
def i0 : List Tree := [.v (.bool false), .lst true []]
theorem s1 : execCall Try.prog CC sm 1000 11 [.val (ti .u64 7)] = some ⟨[.val (ti .u64 11), .val (ti .i64 0)], [none]⟩ := by kernel_rfl
theorem s2 : execCall Try.prog CC sm 1000 16 [.val (ti .u64 3), .val (ti .u64 7)] = some ⟨[.val (ti .u64 5), .val (ti .i64 0)], [none, none]⟩ := by kernel_rfl
theorem o1 : execCall Try.prog CC sm 1000 27 [.val (ti .i64 1)] = some ⟨[.val (.agg (i1 1))], [none]⟩ := by kernel_rfl
theorem o2 : execCall Try.prog CC sm 1000 27 [.val (ti .i64 2)] = some ⟨[.val (.agg (i1 2))], [none]⟩ := by kernel_rfl
theorem o51 : execCall Try.prog CC sm 1000 27 [.val (ti .i64 51)] = some ⟨[.val (.agg (i1 51))], [none]⟩ := by kernel_rfl
theorem o101 : execCall Try.prog CC sm 1000 27 [.val (ti .i64 101)] = some ⟨[.val (.agg (i1 101))], [none]⟩ := by kernel_rfl
theorem o4 : execCall Try.prog CC sm 1000 27 [.val (ti .i64 4)] = some ⟨[.val (.agg (i1 4))], [none]⟩ := by kernel_rfl
theorem o7 : execCall Try.prog CC sm 1000 27 [.val (ti .i64 7)] = some ⟨[.val (.agg (i1 7))], [none]⟩ := by kernel_rfl
theorem o8 : execCall Try.prog CC sm 1000 27 [.val (ti .i64 8)] = some ⟨[.val (.agg (i1 8))], [none]⟩ := by kernel_rfl
theorem o15 : execCall Try.prog CC sm 1000 27 [.val (ti .i64 15)] = some ⟨[.val (.agg (i1 15))], [none]⟩ := by kernel_rfl
theorem r1 : execCall Try.prog CC sm 1000 18 [.val (.agg (i1 1 ++ i1 2)), .val (ti .u64 7)] = some ⟨[.val (ti .u64 4), .val (ti .i64 0)], [none, none]⟩ := by kernel_rfl
theorem c1 : execCall Try.prog CC sm 1000 26 [.val (.c (.lst false [[.v (.int .u64 2)], [.v (.int .u64 3)]])), .val (.c (.lst false [[.v (.int .u64 3)], [.v (.int .u64 5)]]))] = some ⟨[.val (.agg (i1 8)), .val (.agg (i1 15)), .val (ti .i64 0)], [none, none]⟩ := by kernel_rfl
theorem b1 : execCall Try.prog CC sm 1000 33 [.val (.agg (i1 51)), .val (.agg (i1 101))] = some ⟨[.val (.agg (i1 1 ++ i1 2)), .val (tb true)], [none, none]⟩ := by kernel_rfl
theorem b2 : execCall Try.prog CC sm 1000 33 [.val (.agg (i1 4)), .val (.agg (i1 7))] = some ⟨[.val (.agg (i0 ++ i0)), .val (tb false)], [none, none]⟩ := by kernel_rfl
theorem p2 : execCall Try.prog CC sm 1000 13 [.val (ti .u64 2)] = some ⟨[.val (tb true)], [none]⟩ := by kernel_rfl
theorem p9 : execCall Try.prog CC sm 1000 13 [.val (ti .u64 9)] = some ⟨[.val (tb false)], [none]⟩ := by kernel_rfl
theorem e8 : execCall Try.prog CC sm 1000 30 [.val (.agg (i1 8)), .val (.agg (i1 8))] = some ⟨[.val (tb true)], [none, none]⟩ := by kernel_rfl
theorem e15 : execCall Try.prog CC sm 1000 30 [.val (.agg (i1 15)), .val (.agg (i1 15))] = some ⟨[.val (tb true)], [none, none]⟩ := by kernel_rfl
theorem e1 : execCall Try.prog CC sm 1000 30 [.val (.agg (i1 1)), .val (.agg (i1 1))] = some ⟨[.val (tb true)], [none, none]⟩ := by kernel_rfl
theorem e2 : execCall Try.prog CC sm 1000 30 [.val (.agg (i1 2)), .val (.agg (i1 2))] = some ⟨[.val (tb true)], [none, none]⟩ := by kernel_rfl
theorem w1 : execCall Try.prog CC sm 1000 20 [.val (ti .u64 2), .val (ti .u64 10), .val (ti .u64 1000)] = some ⟨[.val (ti .u64 24)], [none, none, none]⟩ := by kernel_rfl
end Go.Proofs.Ytgncmjcoojmccaa
end

section
set_option linter.unusedVariables false
set_option linter.unusedSimpArgs false
set_option linter.unusedVariables false
set_option linter.unusedSimpArgs false
set_option maxHeartbeats 4000000
set_option maxRecDepth 100000
namespace Go.Proofs.Ytgncmjcoojmccaa
open Go Go.Abs Go.Proofs
theorem sanity_call : ACall Try.prog 10 [] ⟨[.val (tb true)], []⟩ := by
  refine callZ ccOk mixed [.val] Try.func10 rfl rfl (by kernel_rfl) fun zwrap zadd zsub zmul zquo zrem zshl zshr zband zbor zbxor zbandn zeq zne zlt zle znot zbeq zbne zmax zmin znat zinb zofN zidx zneq znadd zdif zcut zroom zmkok zlen znth zsetr zisI zgetI zsetI zfit zpart zext zsetg zrep zwide zall zmok zmget zmset zW zth A L F hS hF => ?_
  cbv
  refine ⟨_, hS.call (ex _ s1), ?_⟩
  cbv
  refine ⟨_, hS.call (ex _ s2), ?_⟩
  cbv
  refine ⟨_, hS.call (ex _ o1), ?_⟩
  cbv
  refine ⟨_, hS.call (ex _ o2), ?_⟩
  cbv
  refine ⟨_, hS.call (ex _ r1), ?_⟩
  cbv
  refine nd (hS.fit ..) (nd (hS.fit ..) ?_)
  rw [hS.part, hS.part]
  refine ⟨_, hS.call (ex _ c1), ?_⟩
  cbv
  refine ⟨_, hS.call (ex _ o51), ?_⟩
  cbv
  refine ⟨_, hS.call (ex _ o101), ?_⟩
  cbv
  refine ⟨_, hS.call (ex _ b1), ?_⟩
  cbv
  refine ⟨_, hS.call (ex _ o4), ?_⟩
  cbv
  refine ⟨_, hS.call (ex _ o7), ?_⟩
  cbv
  refine ⟨_, hS.call (ex _ b2), ?_⟩
  cbv
  have z0 : zeq 0 0 = true := by rw [hS.eq]; rfl
  refine bT z0 (bT z0 (bT z0 (bT z0 ?_)))
  refine ⟨_, hS.call (ex _ p2), ?_⟩
  cbv
  refine bT rfl ?_
  refine ⟨_, hS.call (ex _ p9), ?_⟩
  cbv
  refine bT (hS.not _) ?_
  refine bT (by rw [hS.eq]; rfl) (bT (by rw [hS.eq]; rfl) (bT (by rw [hS.eq]; rfl) ?_))
  refine ⟨_, hS.call (ex _ o8), ?_⟩
  cbv
  refine ⟨_, hS.call (ex _ e8), ?_⟩
  cbv
  refine bT rfl ?_
  refine ⟨_, hS.call (ex _ o15), ?_⟩
  cbv
  refine ⟨_, hS.call (ex _ e15), ?_⟩
  cbv
  refine bT rfl (bT rfl ?_)
  refine ⟨_, hS.call (ex _ o1), ?_⟩
  cbv
  refine ⟨_, hS.call (ex _ e1), ?_⟩
  cbv
  refine bT rfl ?_
  refine ⟨_, hS.call (ex _ o2), ?_⟩
  cbv
  refine ⟨_, hS.call (ex _ e2), ?_⟩
  cbv
  refine bT rfl (bT (hS.not _) ?_)
  refine ⟨_, hS.call (ex _ w1), ?_⟩
  cbv
  exact fin1 hF (tv_bool (by rw [hS.eq]; rfl))
end Go.Proofs.Ytgncmjcoojmccaa
end

