/-
  A part of the proof: GabsFrame, MGap, MGapA, MGapB, MGapC, MGapD, MGapZ, LawPrimes03, Sanity03, SanityWalk03.
-/
import Derived.Test.YtgncmjcoojmccaaM10
import Derived.Calls
import Derived.Laws.Cells
import Derived.Below
import Derived.Laws.Small
import Derived.Laws.IdiomCopy
import Derived.Laws.BytesString
import Derived.Laws.Append
import Derived.Laws.Tables
import Derived.Great.BuildSlice
import Derived.IntWalk
import Derived.Orders
import Derived.Laws.BitsLemmas
import Derived.Test.YtgncmjcoojmccaaProg
import Derived.ChangeSame
import Derived.Carry
import Derived.ProofKit
import Derived.WideKeyArgs
import Derived.OpenShut
import Derived.WalkKit

section
set_option linter.unusedVariables false
set_option linter.unusedSimpArgs false
/-
  The abstract layer: a law's arguments, of whatever plain types, read as trees; and read again behind the call.
-/
set_option linter.unusedSimpArgs false
set_option linter.unusedVariables false
namespace Go.Abs
open Go.RowKit Go.WideShapes Go.ChangeShapes Go.ChangeAt

/-- What a type's data look like. -/
inductive Shape where
  | int (k : IntKind)
  | bool
  | slice (s : Shape)
  | struct (l : List Shape)
  | arr (n : Nat) (s : Shape)

mutual
def Shape.size : Shape → Nat
  | .int _ => 1
  | .bool => 1
  | .slice _ => 1
  | .struct l => sizeL l
  | .arr n s => n * s.size
def sizeL : List Shape → Nat
  | [] => 0
  | s :: l => s.size + sizeL l
end

mutual
/-- Does the type look so? -/
def Shape.fits (P : Program) (t : TypeId) : Shape → Bool
  | .int k => match P.underlying t with
    | some (.int k') => decide (k' = k)
    | _ => false
  | .bool => match P.underlying t with
    | some .bool => true
    | _ => false
  | .slice s => match P.underlying t with
    | some (.slice e) => P.cellsOf e == s.size && decide (0 < s.size) && s.fits P e
    | _ => false
  | .struct l => match P.underlying t with
    | some (.struct fs) => P.cellsOf t == sizeL l && fitsL P 0 fs.toList l
    | _ => false
  | .arr n s => match P.underlying t with
    | some (.array m e) => m == n && P.cellsOf t == n * s.size && P.cellsOf e == s.size && s.fits P e
    | _ => false
def fitsL (P : Program) (off : Nat) : List Field → List Shape → Bool
  | [], [] => true
  | f :: fs, s :: l => f.offset == off && P.cellsOf f.type == s.size && s.fits P f.type && fitsL P (off + s.size) fs l
  | _, _ => false
end

/-- A list that comes in n parts. -/
def okN (p : List Tree → Prop) : Nat → List Tree → Prop
  | 0, ts => ts = []
  | n + 1, ts => ∃ a b, ts = a ++ b ∧ p a ∧ okN p n b

mutual
/-- Trees of that look. -/
def Shape.ok : Shape → List Tree → Prop
  | .int k, ts => ∃ n, ts = [.v (.int k n)] ∧ (Lit.int k n).wf = true
  | .bool, ts => ∃ b, ts = [.v (.bool b)]
  | .slice s, ts => ∃ cp rows, ts = [.lst cp rows] ∧ rows.length < 2 ^ 63 ∧ ∀ r ∈ rows, s.ok r
  | .struct l, ts => okL l ts
  | .arr n s, ts => okN s.ok n ts
def okL : List Shape → List Tree → Prop
  | [], ts => ts = []
  | s :: l, ts => ∃ a b, ts = a ++ b ∧ s.ok a ∧ okL l b
end

theorem okN_len {p : List Tree → Prop} {m : Nat} (hp : ∀ ts, p ts → ts.length = m) : ∀ (n : Nat) (ts : List Tree), okN p n ts → ts.length = n * m
  | 0, ts, h => by rw [show ts = [] from h]; simp
  | n + 1, ts, ⟨a, b, h1, h2, h3⟩ => by rw [h1, List.length_append, hp a h2, okN_len hp n b h3, Nat.succ_mul]; omega

mutual
theorem Shape.ok_len : ∀ (s : Shape) (ts : List Tree), s.ok ts → ts.length = s.size
  | .int k, ts, h => by obtain ⟨n, rfl, _⟩ := h; rfl
  | .bool, ts, h => by obtain ⟨n, rfl⟩ := h; rfl
  | .slice s, ts, h => by obtain ⟨_, _, rfl, _⟩ := h; rfl
  | .struct l, ts, h => okL_len l ts h
  | .arr n s, ts, h => okN_len (fun ts h => s.ok_len ts h) n ts h
theorem okL_len : ∀ (l : List Shape) (ts : List Tree), okL l ts → ts.length = sizeL l
  | [], ts, h => by rw [show ts = [] from h]; rfl
  | s :: l, ts, h => by
    obtain ⟨a, b, h1, h2, h3⟩ := h
    rw [h1, List.length_append, s.ok_len a h2, okL_len l b h3]; rfl
end

section
variable {H : Type} {enc : TypeId × Value → H} {P : Program} {w : World} {sp : Nat → Bool} {hd : Bool}

/-- Cell by cell. -/
def TRepL (w : World) (ts : List Tree) (cs : List Value) : Prop := ts.length = cs.length ∧ ∀ (i : Nat) (t : Tree) (v : Value), ts[i]? = some t → cs[i]? = some v → TRep (old w) w t v

theorem TRepL.append {a b : List Tree} {c d : List Value} (h1 : TRepL w a c) (h2 : TRepL w b d) : TRepL w (a ++ b) (c ++ d) := by
  refine ⟨by rw [List.length_append, List.length_append, h1.1, h2.1], fun i t v ht hv => ?_⟩
  rcases Nat.lt_or_ge i a.length with h | h
  · rw [List.getElem?_append_left h] at ht
    rw [List.getElem?_append_left (by rw [← h1.1]; exact h)] at hv
    exact h1.2 i t v ht hv
  · rw [List.getElem?_append_right h] at ht
    rw [List.getElem?_append_right (by rw [← h1.1]; exact h), ← h1.1] at hv
    exact h2.2 _ t v ht hv

theorem TRepL.one {t : Tree} {v : Value} (h : TRep (old w) w t v) : TRepL w [t] [v] := by
  refine ⟨rfl, fun i t' v' ht hv => ?_⟩
  cases i with
  | zero => simp at ht hv; subst ht hv; exact h
  | succ i => simp at ht

def Read (enc : TypeId × Value → H) (P : Program) (w : World) (sp : Nat → Bool) (hd : Bool) (s : Shape) : Prop :=
  ∀ (t : TypeId), s.fits P t = true → ∀ (n : Nat) (cs : List Value) (x : DataW H × List MemPlace), DataW.trod enc P w 0 sp hd n t cs = some x → ∃ ts, s.ok ts ∧ TRepL w ts cs

theorem row_split {cs : List Value} (i m : Nat) : cs.drop i = (cs.drop i).take m ++ cs.drop (i + m) := by
  rw [← List.drop_drop, List.take_append_drop]

theorem fitsL_len : ∀ {l : List Shape} {fs : List Field} {off : Nat}, fitsL P off fs l = true → fs.length = l.length
  | [], [], _, _ => rfl
  | [], _ :: _, _, h => by simp [fitsL] at h
  | _ :: _, [], _, h => by simp [fitsL] at h
  | s :: l, f :: fs, off, h => by
    simp only [fitsL, Bool.and_eq_true] at h
    simp [fitsL_len h.2]

theorem readL : ∀ (l : List Shape), (∀ s ∈ l, Read enc P w sp hd s) → ∀ (fs : List Field) (off : Nat), fitsL P off fs l = true → ∀ (n : Nat) (cs : List Value), cs.length = off + sizeL l →
    (∀ f ∈ fs, ∃ x, DataW.trod enc P w 0 sp hd n f.type ((cs.drop f.offset).take (P.cellsOf f.type)) = some x) → ∃ ts, okL l ts ∧ TRepL w ts (cs.drop off)
  | [], hl, [], off, hf, n, cs, hn, hx => by
    refine ⟨[], rfl, ?_⟩
    rw [List.drop_of_length_le (by rw [hn]; simp [sizeL])]
    exact ⟨rfl, fun i t v h => by simp at h⟩
  | [], hl, f :: fs, off, hf, n, cs, hn, hx => by simp [fitsL] at hf
  | s :: l, hl, [], off, hf, n, cs, hn, hx => by simp [fitsL] at hf
  | s :: l, hl, f :: fs, off, hf, n, cs, hn, hx => by
    simp only [fitsL, Bool.and_eq_true, beq_iff_eq] at hf
    obtain ⟨⟨⟨h1, h2⟩, h3⟩, h4⟩ := hf
    obtain ⟨x, hx1⟩ := hx f (List.mem_cons_self ..)
    rw [h1, h2] at hx1
    obtain ⟨a, ha, hra⟩ := hl s (List.mem_cons_self ..) f.type h3 n _ x hx1
    obtain ⟨b, hb, hrb⟩ := readL l (fun s' hs' => hl s' (List.mem_cons_of_mem _ hs')) fs (off + s.size) h4 n cs (by rw [hn, sizeL]; omega) (fun f' hf' => hx f' (List.mem_cons_of_mem _ hf'))
    refine ⟨a ++ b, ⟨a, b, rfl, ha, hb⟩, ?_⟩
    rw [row_split off s.size]
    exact hra.append hrb

theorem readN {s : Shape} (hs : Read enc P w sp hd s) {e : TypeId} (he : s.fits P e = true) : ∀ (m i : Nat) (n : Nat) (cs : List Value), cs.length = (i + m) * s.size →
    (∀ j, j < m → ∃ x, DataW.trod enc P w 0 sp hd n e ((cs.drop ((i + j) * s.size)).take s.size) = some x) → ∃ ts, okN s.ok m ts ∧ TRepL w ts (cs.drop (i * s.size))
  | 0, i, n, cs, hn, hx => by
    refine ⟨[], rfl, ?_⟩
    rw [List.drop_of_length_le (by rw [hn]; simp)]
    exact ⟨rfl, fun i t v h => by simp at h⟩
  | m + 1, i, n, cs, hn, hx => by
    obtain ⟨x, hx1⟩ := hx 0 (by omega)
    rw [Nat.add_zero] at hx1
    obtain ⟨a, ha, hra⟩ := hs e he n _ x hx1
    obtain ⟨b, hb, hrb⟩ := readN hs he m (i + 1) n cs (by rw [hn]; congr 1; omega) (fun j hj => by
      have := hx (j + 1) (by omega)
      rwa [show i + (j + 1) = i + 1 + j by omega] at this)
    refine ⟨a ++ b, ⟨a, b, rfl, ha, hb⟩, ?_⟩
    rw [row_split (i * s.size) s.size]
    rw [Nat.succ_mul] at hrb
    exact hra.append hrb

theorem add_none (b o n : Nat) : (⟨b, o, none⟩ : Addr).add n = ⟨b, o + n, none⟩ := by
  unfold Addr.add
  split
  · rename_i h; subst h; rfl
  · rfl

theorem wf_one {k : IntKind} {n : Int} : one (.int k n) := by intro l; exact ⟨by simp, by simp⟩

theorem Shape.read : ∀ (s : Shape), Read enc P w sp hd s
  | .int k => fun t hf n cs x hx => by
    have hu : P.underlying t = some (.int k) := by
      unfold Shape.fits at hf
      split at hf
      · rename_i k' h; rw [h, of_decide_eq_true hf]
      · cases hf
    obtain ⟨m, rfl, _, hw⟩ := DataW.trod_int hu hx
    exact ⟨_, ⟨m, rfl, hw⟩, .one (.v _ wf_one)⟩
  | .bool => fun t hf n cs x hx => by
    have hu : P.underlying t = some .bool := by
      unfold Shape.fits at hf
      split at hf
      · rename_i h; exact h
      · cases hf
    obtain ⟨b, rfl, _⟩ := DataW.trod_bool hu hx
    exact ⟨_, ⟨b, rfl⟩, .one (.v _ (by intro l; exact ⟨by simp, by simp⟩))⟩
  | .struct l => fun t hf n cs x hx => by
    unfold Shape.fits at hf
    split at hf
    · rename_i fs hu
      simp only [Bool.and_eq_true, beq_iff_eq] at hf
      obtain ⟨xs, n', rfl, _, hl, hxl, hfs⟩ := DataW.trod_struct hu hx
      obtain ⟨ts, h1, h2⟩ := readL l (fun s hs => Shape.read s) fs.toList 0 hf.2 n' cs (by rw [hl, hf.1]; omega) (fun f hfm => by
        obtain ⟨i, hi, hfi⟩ := List.mem_iff_getElem.1 hfm
        have hi' : i < fs.size := by simpa using hi
        have hg : fs[i]? = some f := by rw [Array.getElem?_eq_getElem hi']; simpa using hfi
        have := hfs i f hg
        have hxi : i < xs.length := by rw [hxl]; exact hi'
        rw [List.getElem?_eq_getElem hxi] at this
        exact ⟨_, this⟩)
      exact ⟨ts, h1, by simpa using h2⟩
    · cases hf
  | .arr m s => fun t hf n cs x hx => by
    unfold Shape.fits at hf
    split at hf
    · rename_i m' e hu
      simp only [Bool.and_eq_true, beq_iff_eq] at hf
      obtain ⟨⟨⟨rfl, h1⟩, h2⟩, h3⟩ := hf
      cases n with
      | zero => simp [DataW.trod] at hx
      | succ n =>
        unfold DataW.trod at hx
        rw [hu] at hx
        simp only at hx
        split at hx
        · rename_i hl
          obtain ⟨xs, hxs, _⟩ := Option.map_eq_some_iff.1 hx
          obtain ⟨ts, h4, h5⟩ := readN (Shape.read s) h3 m' 0 n cs (by rw [hl, h1, Nat.zero_add]) (fun j hj => by
            have := mapM_some_get hxs j j (by simp [hj])
            have hlen := mapM_some_length hxs
            rw [List.length_range] at hlen
            rw [List.getElem?_eq_getElem (by omega)] at this
            rw [h2] at this
            rw [Nat.zero_add]
            exact ⟨_, this⟩)
          exact ⟨ts, h4, by simpa using h5⟩
        · cases hx
    · cases hf
  | .slice s => fun t hf n cs x hx => by
    unfold Shape.fits at hf
    split at hf
    · rename_i e hu
      simp only [Bool.and_eq_true, beq_iff_eq, decide_eq_true_eq] at hf
      obtain ⟨⟨h1, h2⟩, h3⟩ := hf
      rcases DataW.trod_slice hu hx with ⟨rfl, _⟩ | ⟨a, len, cap, elems, rest, n', rfl, rfl, _, _, hlc, hcap, hel, hread, _, _⟩
      · refine ⟨[.lst false []], ⟨false, [], rfl, by simp, by simp⟩, .one (.lst false [] none 0 0 0 0 (fun _ _ => default) (by simp) (by omega) (by simp) (by simp) (by simp) (by simp) (by simp) (fun i j t ht => by simp [at2] at ht) (fun i j t ht => by simp [at2] at ht))⟩
      · have hm : maxLen = 2 ^ 63 - 1 := rfl
        have hrow : ∀ i, i < len → ∃ ts css, s.ok ts ∧ TRepL w ts css ∧ w.cells? 0 (a.add (i * s.size)) s.size = some css := fun i hi => by
          have hr := hread i hi
          rw [List.getElem?_eq_getElem (by omega), h1] at hr
          obtain ⟨css, hc, hx2⟩ := Option.bind_eq_some_iff.1 hr
          obtain ⟨ts, h4, h5⟩ := Shape.read s e h3 _ _ _ hx2
          exact ⟨ts, css, h4, h5, hc⟩
        let f : Nat → List Tree := fun i => if h : i < len then (hrow i h).choose else []
        let g : Nat → List Value := fun i => if h : i < len then (hrow i h).choose_spec.choose else []
        have hfg : ∀ i, i < len → s.ok (f i) ∧ TRepL w (f i) (g i) ∧ w.cells? 0 (a.add (i * s.size)) s.size = some (g i) := fun i hi => by
          have hfi : f i = (hrow i hi).choose := dif_pos hi
          have hgi : g i = (hrow i hi).choose_spec.choose := dif_pos hi
          rw [hfi, hgi]
          exact (hrow i hi).choose_spec.choose_spec
        have hspot : 0 < len → a = ⟨a.block, a.off, none⟩ ∧ a.block < w.heap.size := fun h0 => by
          obtain ⟨hok, hrep, hc⟩ := hfg 0 h0
          obtain ⟨_, hl, hce⟩ := World.cells?_some hc
          have := hce 0 h2
          rw [List.getElem?_eq_getElem (by omega)] at this
          have ha : (a.add (0 * s.size)).add 0 = a := by simp [Addr.add]
          rw [ha] at this
          refine ⟨?_, ?_⟩
          · unfold World.cell? at this
            split at this
            · split at this
              · cases this
              · rename_i hs
                obtain ⟨b, o, sp'⟩ := a
                cases sp' with
                | none => rfl
                | some _ => simp at hs
            · cases this
          · have := World.cells?_block hc h2
            simpa [Addr.add] using this
        have hrows : ∀ i, (((List.range len).map f)[i]?) = if i < len then some (f i) else none := fun i => by
          rw [List.getElem?_map]
          by_cases h : i < len
          · rw [if_pos h, List.getElem?_range h]; rfl
          · rw [if_neg h, List.getElem?_eq_none (by simpa using h)]; rfl
        have hat : ∀ i j t, at2 ((List.range len).map f) i j = some t → i < len ∧ (f i)[j]? = some t := fun i j t ht => by
          unfold at2 at ht
          rw [hrows] at ht
          by_cases h : i < len
          · rw [if_pos h] at ht; exact ⟨h, ht⟩
          · rw [if_neg h] at ht; cases ht
        have hcell : ∀ i j t, at2 ((List.range len).map f) i j = some t → ∃ v, (g i)[j]? = some v ∧ w.cell? ⟨a.block, a.off + i * s.size + j, none⟩ = some v ∧ TRep (old w) w t v ∧ a.block < w.heap.size := fun i j t ht => by
          obtain ⟨hi, hj⟩ := hat i j t ht
          obtain ⟨hok, hrep, hc⟩ := hfg i hi
          obtain ⟨_, hl, hce⟩ := World.cells?_some hc
          have hjl : j < s.size := by
            have := (List.getElem?_eq_some_iff.1 hj).1
            rw [s.ok_len _ hok] at this; exact this
          have hv := hce j hjl
          obtain ⟨hs1, hs2⟩ := hspot (by omega)
          refine ⟨(g i)[j]'(by omega), List.getElem?_eq_getElem (by omega), ?_, hrep.2 j t _ hj (List.getElem?_eq_getElem (by omega)), hs2⟩
          rw [List.getElem?_eq_getElem (by omega)] at hv
          rw [← hv]
          rw [hs1, add_none, add_none]
        refine ⟨[.lst false ((List.range len).map f)], ⟨false, _, rfl, by rw [List.length_map, List.length_range]; omega, fun r hr => ?_⟩, ?_⟩
        · obtain ⟨i, hi, rfl⟩ := List.mem_map.1 hr
          exact (hfg i (List.mem_range.1 hi)).1
        · refine .one ?_
          have hl : ((List.range len).map f).length = len := by rw [List.length_map, List.length_range]
          have := TRep.lst (S := old w) (w := w) false ((List.range len).map f) (some a) a.block a.off s.size cap (fun i j => ((g i)[j]?).getD default) (by rw [hl]; exact hlc) (by omega) (by rw [hl]; omega) (by simp)
            (fun hne => by rw [(hspot (by rcases Nat.eq_zero_or_pos len with h | h; · subst h; simp at hne
                                          · exact h)).1]) (by simp)
            (fun r hr => by obtain ⟨i, hi, rfl⟩ := List.mem_map.1 hr; exact s.ok_len _ (hfg i (List.mem_range.1 hi)).1)
            (fun i j t ht => by obtain ⟨v, h4, h5, h6, h7⟩ := hcell i j t ht; exact ⟨h7, by rw [h5, h4]; rfl⟩)
            (fun i j t ht => by obtain ⟨v, h4, h5, h6, h7⟩ := hcell i j t ht; rw [h4]; exact h6)
          rw [hl] at this
          exact this
    · cases hf
termination_by s => SizeOf.sizeOf s

/-- An argument as an abstract one. -/
def Shape.tv (s : Shape) (ts : List Tree) : TV :=
  match s, ts with
  | .struct _, ts => .agg ts
  | .arr _ _, ts => .agg ts
  | _, [t] => .c t
  | _, ts => .agg ts

def isAggT (P : Program) (t : TypeId) : Bool := match P.underlying t with
  | some (.struct _) | some (.array _ _) => true
  | _ => false

theorem Shape.rep {s : Shape} {t : TypeId} (hf : s.fits P t = true) {v : Value} (hok : Value.okWide P w .any 0 t v) {ts : List Tree} (hs : s.ok ts) (h : TRepL w ts v.cells.toList) : VRep noβ (old w) w (s.tv ts).av v := by
  have agg : ∀ (cs : Array Value), v = .agg cs → VRep noβ (old w) w (TV.agg ts).av v := fun cs hv => by
    subst hv
    have : Array.mk cs.toList = cs := rfl
    rw [show TV.av (.agg ts) = AV.agg (ts.map .t) from rfl, ← this]
    refine .agg cs.toList (by rw [List.length_map]; exact h.1.symm) fun i c hc => ?_
    rw [List.getElem?_map] at hc
    obtain ⟨t', ht, rfl⟩ := Option.map_eq_some_iff.1 hc
    have hi := (List.getElem?_eq_some_iff.1 ht).1
    have hi2 : i < cs.toList.length := by have := h.1; simp only [Value.cells] at this; omega
    exact ⟨_, List.getElem?_eq_getElem hi2, .t (h.2 i t' _ ht (List.getElem?_eq_getElem hi2))⟩
  have scal : isAggT P t = false → ts.length = 1 → VRep noβ (old w) w (match ts with | [t] => TV.c t | ts => .agg ts).av v := fun hna hl => by
    match ts, hl, h with
    | [t'], _, h =>
      have hc : v.cells = #[v] := by
        cases v with
        | agg cs =>
          unfold Value.okWide at hok
          unfold isAggT at hna
          split at hok
          · rename_i h1; rw [h1] at hna; cases hna
          · rename_i h1; rw [h1] at hna; cases hna
          · unfold Cell.okWide at hok
            split at hok <;> first | (rename_i h1 h2; cases h2; done) | skip
            all_goals first | (unfold Cell.ok at hok; split at hok <;> first | (rename_i h1 h2; cases h2; done) | exact hok.elim) | skip
        | _ => rfl
      have := h.2 0 t' v rfl (by rw [hc]; rfl)
      exact .c (.t this)
  cases s with
  | int k =>
    have hu : P.underlying t = some (.int k) := by
      unfold Shape.fits at hf
      split at hf
      · rename_i k' h; rw [h, of_decide_eq_true hf]
      · cases hf
    obtain ⟨m, rfl, _⟩ := hs
    exact scal (by unfold isAggT; rw [hu]) rfl
  | bool =>
    have hu : P.underlying t = some .bool := by
      unfold Shape.fits at hf
      split at hf
      · rename_i h; exact h
      · cases hf
    obtain ⟨m, rfl⟩ := hs
    exact scal (by unfold isAggT; rw [hu]) rfl
  | slice s =>
    unfold Shape.fits at hf
    split at hf
    · rename_i e hu
      obtain ⟨_, _, rfl, _⟩ := hs
      exact scal (by unfold isAggT; rw [hu]) rfl
    · cases hf
  | struct l =>
    unfold Shape.fits at hf
    split at hf
    · rename_i fs hu
      unfold Value.okWide at hok
      rw [hu] at hok
      obtain ⟨cs, hv, _⟩ := hok
      exact agg cs hv
    · cases hf
  | arr n s =>
    unfold Shape.fits at hf
    split at hf
    · rename_i m e hu
      unfold Value.okWide at hok
      rw [hu] at hok
      obtain ⟨cs, hv, _⟩ := hok
      exact agg cs hv
    · cases hf

/-- The arguments, one after the other. -/
def okAll : List Shape → List (List Tree) → Prop
  | [], l => l = []
  | s :: ss, l => ∃ ts r, l = ts :: r ∧ s.ok ts ∧ okAll ss r

def tvs : List Shape → List (List Tree) → List TV
  | s :: ss, ts :: r => s.tv ts :: tvs ss r
  | _, _ => []

def fitsAll (P : Program) : List TypeId → List Shape → Bool
  | [], [] => true
  | t :: ts, s :: ss => s.fits P t && decide (t < P.types.size) && P.readableRec t && fitsAll P ts ss
  | _, _ => false

theorem args_read : ∀ {tys : List TypeId} {shs : List Shape} {vs : List Value} {ds : List (DataW H)} {ps : List MemPlace}, DataW.TrodAll enc P w 0 sp true tys vs ds ps → fitsAll P tys shs = true →
    (∀ (j : Nat) t v, tys[j]? = some t → vs[j]? = some v → Value.okWide P w .any 0 t v) →
    ∃ tss, okAll shs tss ∧ vs.length = (tvs shs tss).length ∧ ds.length = shs.length ∧ ∀ (i : Nat) (x : TV), (tvs shs tss)[i]? = some x → ∃ v, vs[i]? = some v ∧ VRep noβ (old w) w x.av v
  | [], [], [], [], ps, h, hf, hv => ⟨[], rfl, rfl, rfl, fun i x hx => by simp [tvs] at hx⟩
  | t :: ts, s :: ss, v :: vs, d :: ds, ps, h, hf, hv => by
    obtain ⟨p, q, ⟨n, h1⟩, h2, _⟩ := h
    simp only [fitsAll, Bool.and_eq_true] at hf
    obtain ⟨⟨⟨f1, f2⟩, f3⟩, f4⟩ := hf
    obtain ⟨tss, g1, g2, g3, g4⟩ := args_read h2 f4 (fun j t v ht hx => hv (j + 1) t v (by simpa using ht) (by simpa using hx))
    obtain ⟨tr, k1, k2⟩ := s.read t f1 n _ _ h1
    refine ⟨tr :: tss, ⟨tr, tss, rfl, k1, g1⟩, by simp [tvs, g2], by simp [g3], fun i x hx => ?_⟩
    cases i with
    | zero =>
      simp only [tvs, List.getElem?_cons_zero, Option.some.injEq] at hx
      subst hx
      exact ⟨v, rfl, Shape.rep f1 (hv 0 t v rfl rfl) k1 k2⟩
    | succ i => simp only [tvs, List.getElem?_cons_succ] at hx ⊢; exact g4 i x hx
  | [], _ :: _, _, _, _, _, hf, _ => by simp [fitsAll] at hf
  | _ :: _, [], _, _, _, _, hf, _ => by simp [fitsAll] at hf
  | [], [], _ :: _, _, _, h, _, _ => by simp [DataW.TrodAll] at h
  | [], [], [], _ :: _, _, h, _, _ => by simp [DataW.TrodAll] at h
  | _ :: _, _ :: _, [], _, _, h, _, _ => by simp [DataW.TrodAll] at h
  | _ :: _, _ :: _, _ :: _, [], _, h, _, _ => by simp [DataW.TrodAll] at h

theorem args_stay (hl : laidOutB P = true) {W W' : World} {sp' : Nat → Bool} (hb : Below W.heap.size W W') : ∀ {tys : List TypeId} {shs : List Shape} {vs : List Value} {ds : List (DataW H)} {ps : List MemPlace}, DataW.TrodAll enc P W 0 (fun _ => true) true tys vs ds ps → fitsAll P tys shs = true →
    (∀ p ∈ ps, p.block < W.heap.size) → (∀ p ∈ ps, sp' p.block = true) → DataW.TrodAll enc P W' 0 sp' true tys vs ds ps
  | [], [], [], [], ps, h, hf, h1, h2 => h
  | t :: ts, s :: ss, v :: vs, d :: ds, ps, h, hf, h1, h2 => by
    obtain ⟨p, q, k1, k2, rfl⟩ := h
    simp only [fitsAll, Bool.and_eq_true, decide_eq_true_eq] at hf
    obtain ⟨⟨⟨f1, f2⟩, f3⟩, f4⟩ := hf
    exact ⟨p, q, Go.WideElems.Trod_stays hl f3 f2 k1 (fun x hx => hb.same (h1 x (List.mem_append_left _ hx))) (fun x hx => h2 x (List.mem_append_left _ hx)),
      args_stay hl hb k2 f4 (fun x hx => h1 x (List.mem_append_right _ hx)) (fun x hx => h2 x (List.mem_append_right _ hx)), rfl⟩
  | [], _ :: _, _, _, _, _, hf, _, _ => by simp [fitsAll] at hf
  | _ :: _, [], _, _, _, _, hf, _, _ => by simp [fitsAll] at hf
  | [], [], _ :: _, _, _, h, _, _, _ => by simp [DataW.TrodAll] at h
  | [], [], [], _ :: _, _, h, _, _, _ => by simp [DataW.TrodAll] at h
  | _ :: _, _ :: _, [], _, _, h, _, _, _ => by simp [DataW.TrodAll] at h
  | _ :: _, _ :: _, _ :: _, [], _, h, _, _, _ => by simp [DataW.TrodAll] at h

/-- A law's contract, for whatever arguments of that look: the call, as the given statements ask for it. -/
theorem law_row {f : FuncId} {fn : Func} {spec : ChangeSpec} {shs : List Shape} {outs : List (Option Blk)} (hl : laidOutB P = true) (hf : fitsAll P fn.params.toList shs = true) (hvars : spec.vars = []) {tb0 : TypeId} (hres : fn.resultTypes = #[tb0]) (hb4 : P.underlying tb0 = some .bool)
    {apart fresh handsOn again : Bool} (hfn : ∀ ds : List (DataW H), ds.length = shs.length → (spec.fn H ds).args = ds ∧ (spec.fn H ds).results = [.lit (.bool true)] ∧ (spec.fn H ds).vars = [])
    (hc : ∀ tss, okAll shs tss → ACall P f ((tvs shs tss).map .val) ⟨[.val (tb true)], outs⟩)
    {W : World} {args : Array Value} {ds gs : List (DataW H)} {before : List MemPlace} (hval : ∀ (j : Nat) t v, fn.params[j]? = some t → args[j]? = some v → Value.okWide P W .any 0 t v)
    (hW : DataW.Whole enc P fn.params.toList spec.vars apart W args.toList ds gs before) :
    Calls P f args W fun e W' => ∃ v, e = .returned v ∧ spec.post enc P fn apart fresh handsOn again W args v W' := by
  have hW' := hW
  obtain ⟨p, q, hA, hV, rfl, hfz, hnd⟩ := hW
  rw [hvars] at hV
  have hgq : gs = [] ∧ q = [] := by
    cases gs with
    | nil => exact ⟨rfl, hV⟩
    | cons g gs => exact hV.elim
  obtain ⟨rfl, rfl⟩ := hgq
  obtain ⟨tss, hok, hlen, hdl, hrep⟩ := args_read hA hf (fun j t v ht hv => hval j t v (by simpa using ht) (by simpa using hv))
  have h := law_calls (hc tss hok) W args.toList hlen hrep
  have hargs : args.toList.toArray = args := rfl
  rw [hargs] at h
  obtain ⟨e1, e2, e3⟩ := hfn ds hdl
  have hbefore : ∀ x ∈ p, x.block < W.heap.size := fun x hx => hW'.lt x (List.mem_append_left _ hx)
  refine h.mono fun e W' ⟨he, hg⟩ => ?_
  subst he
  refine ⟨_, rfl, post_of_below (pa := p) (pv := []) hW' (fun b sp hd => ?_) (fun sp hs => ?_) (fun sp hs => ?_) rfl hg ?_⟩
  · rw [List.append_nil, e2, hres]
    exact trodAll_cons_mk (shut_bool hb4 _) trodAll_mk0
  · rw [List.append_nil, e1]
    exact args_stay hl hg hA hf hbefore (fun x hx => hs x (List.mem_append_left _ hx))
  · rw [List.append_nil, e3, hvars]; rfl
  · exact ok_one hres rfl (okWide_bool_mk hb4 _)

end
end Go.Abs
end

section
set_option linter.unusedVariables false
set_option linter.unusedSimpArgs false
/-
  A chain of primes: blocks of thirty numbers that have a prime, at most 32 blocks apart (made for the kernel).
-/
set_option linter.unusedVariables false
set_option maxRecDepth 100000
namespace Go.Abs.M

/-- One of the eight numbers of the block has no common divisor with c. -/
noncomputable def good (c m : Nat) : Bool := (fun b =>
  @Bool.rec (fun _ => Bool) (@Bool.rec (fun _ => Bool) (@Bool.rec (fun _ => Bool) (@Bool.rec (fun _ => Bool) (@Bool.rec (fun _ => Bool) (@Bool.rec (fun _ => Bool) (@Bool.rec (fun _ => Bool) (Nat.beq (Nat.gcd c (Nat.add b 29)) 1) true (Nat.beq (Nat.gcd c (Nat.add b 23)) 1)) true (Nat.beq (Nat.gcd c (Nat.add b 19)) 1)) true (Nat.beq (Nat.gcd c (Nat.add b 17)) 1)) true (Nat.beq (Nat.gcd c (Nat.add b 13)) 1)) true (Nat.beq (Nat.gcd c (Nat.add b 11)) 1)) true (Nat.beq (Nat.gcd c (Nat.add b 7)) 1)) true (Nat.beq (Nat.gcd c (Nat.add b 1)) 1)) (Nat.mul 30 m)

noncomputable def chain (c N m e : Nat) : Bool :=
  @Nat.rec (fun _ => Nat → Bool) (fun m => Nat.ble e m)
    (fun _ ih m => @Nat.rec (fun _ => Bool) false (fun j nx => @Bool.rec (fun _ => Bool) nx (ih (Nat.add m (Nat.succ j))) (good c (Nat.add m (Nat.succ j)))) 32) N m

theorem rec_true {a b : Bool} (h : @Bool.rec (fun _ => Bool) a true b = true) : b = true ∨ a = true := by
  cases b with
  | true => exact .inl rfl
  | false => exact .inr h

theorem good_spec {c m : Nat} (h : good c m = true) : ∃ n, 30 * m < n ∧ n < 30 * m + 30 ∧ Nat.gcd c n = 1 := by
  unfold good at h
  have fin : ∀ r, 0 < r → r < 30 → Nat.beq (Nat.gcd c (Nat.add (Nat.mul 30 m) r)) 1 = true → ∃ n, 30 * m < n ∧ n < 30 * m + 30 ∧ Nat.gcd c n = 1 := fun r h1 h2 h3 =>
    ⟨30 * m + r, by omega, by omega, Nat.eq_of_beq_eq_true h3⟩
  rcases rec_true h with h | h
  · exact fin _ (by omega) (by omega) h
  rcases rec_true h with h | h
  · exact fin _ (by omega) (by omega) h
  rcases rec_true h with h | h
  · exact fin _ (by omega) (by omega) h
  rcases rec_true h with h | h
  · exact fin _ (by omega) (by omega) h
  rcases rec_true h with h | h
  · exact fin _ (by omega) (by omega) h
  rcases rec_true h with h | h
  · exact fin _ (by omega) (by omega) h
  rcases rec_true h with h | h
  · exact fin _ (by omega) (by omega) h
  · exact fin _ (by omega) (by omega) h

noncomputable def look (c N m e : Nat) (k : Nat) : Bool := @Nat.rec (fun _ => Bool) false (fun j nx => @Bool.rec (fun _ => Bool) nx (chain c N (Nat.add m (Nat.succ j)) e) (good c (Nat.add m (Nat.succ j)))) k

theorem look_spec {c N m e : Nat} : ∀ k, look c N m e k = true → ∃ g, m < g ∧ g ≤ m + k ∧ good c g = true ∧ chain c N g e = true
  | 0, h => by cases h
  | k + 1, h => by
    have h : @Bool.rec (fun _ => Bool) (look c N m e k) (chain c N (m + (k + 1)) e) (good c (m + (k + 1))) = true := h
    cases hg : good c (m + (k + 1)) with
    | true => rw [hg] at h; exact ⟨m + (k + 1), by omega, by omega, hg, h⟩
    | false =>
      rw [hg] at h
      obtain ⟨g, h1, h2, h3⟩ := look_spec k h
      exact ⟨g, h1, by omega, h3⟩

theorem chain_spec {c e : Nat} : ∀ (N m : Nat), chain c N m e = true → ∀ k, m ≤ k → k < e → ∃ g, k < g ∧ g ≤ k + 32 ∧ good c g = true
  | 0, m, h, k, h1, h2 => by
    have : e ≤ m := Nat.le_of_ble_eq_true h
    omega
  | N + 1, m, h, k, h1, h2 => by
    have h : look c N m e 32 = true := h
    obtain ⟨g, h3, h4, h5, h6⟩ := look_spec 32 h
    rcases Nat.lt_or_ge k g with hk | hk
    · exact ⟨g, hk, by omega, h5⟩
    · exact chain_spec N g h6 k hk h2

/-- Each block up to b is followed by one with a prime. -/
def Reach (c a b : Nat) : Prop := ∀ k, a ≤ k → k < b → ∃ g, k < g ∧ g ≤ k + 32 ∧ good c g = true
theorem Reach.join {c x y z : Nat} (h1 : Reach c x y) (h2 : Reach c y z) : Reach c x z := fun k h3 h4 => by
  rcases Nat.lt_or_ge k y with h | h
  · exact h1 k h3 h
  · exact h2 k h h4

theorem gap_small : Reach lc2 8 1545 := chain_spec 60 8 (by decide +kernel)

theorem pr241 : Pr 241 := pr_of_gcd (c := lc2) (fun d h1 h2 => lc2_dvd h1 h2) (by decide +kernel) (by omega) (by omega)

/-- After each number below 2147482646 there is a prime at a distance of at most 1000. -/
theorem gap_of (h : Reach lc 1545 71582756) (k : Nat) (hk : k < 2147482680) : ∃ p, k < p ∧ p ≤ k + 1000 ∧ Pr p := by
  rcases Nat.lt_or_ge k 241 with h0 | h0
  · exact ⟨241, h0, by omega, pr241⟩
  rcases Nat.lt_or_ge (k / 30) 1545 with h1 | h1
  · obtain ⟨g, h2, h3, h4⟩ := gap_small (k / 30) (by omega) h1
    obtain ⟨n, h5, h6, h7⟩ := good_spec h4
    exact ⟨n, by omega, by omega, pr_of_gcd (B := 222) (fun d h1 h2 => lc2_dvd h1 h2) h7 (by omega) (by omega)⟩
  · obtain ⟨g, h2, h3, h4⟩ := h (k / 30) h1 (by omega)
    obtain ⟨n, h5, h6, h7⟩ := good_spec h4
    exact ⟨n, by omega, by omega, pr_of_gcd (B := 46340) (fun d h1 h2 => lc_dvd h1 h2) h7 (by omega) (by omega)⟩
end Go.Abs.M
end

section
set_option linter.unusedVariables false
set_option linter.unusedSimpArgs false
/-
  The chain of primes, part 1 of 4 (the kernel computes it).
-/
set_option maxRecDepth 100000
set_option maxHeartbeats 0
namespace Go.Abs.M
theorem gap0 : Reach lc 1545 2238457 := chain_spec 70209 1545 (by decide +kernel)
theorem gap1 : Reach lc 2238457 4475370 := chain_spec 70278 2238457 (by decide +kernel)
theorem gap2 : Reach lc 4475370 6712283 := chain_spec 70318 4475370 (by decide +kernel)
theorem gap3 : Reach lc 6712283 8949196 := chain_spec 70334 6712283 (by decide +kernel)
theorem gap4 : Reach lc 8949196 11186109 := chain_spec 70348 8949196 (by decide +kernel)
theorem gap5 : Reach lc 11186109 13423022 := chain_spec 70360 11186109 (by decide +kernel)
theorem gap6 : Reach lc 13423022 15659934 := chain_spec 70369 13423022 (by decide +kernel)
theorem gap7 : Reach lc 15659934 17896847 := chain_spec 70379 15659934 (by decide +kernel)
theorem gapPart0 : Reach lc 1545 17896847 := ((((((gap0.join gap1).join gap2).join gap3).join gap4).join gap5).join gap6).join gap7
end Go.Abs.M
end

section
set_option linter.unusedVariables false
set_option linter.unusedSimpArgs false
/-
  The chain of primes, part 2 of 4 (the kernel computes it).
-/
set_option maxRecDepth 100000
set_option maxHeartbeats 0
namespace Go.Abs.M
theorem gap8 : Reach lc 17896847 20133760 := chain_spec 70377 17896847 (by decide +kernel)
theorem gap9 : Reach lc 20133760 22370673 := chain_spec 70387 20133760 (by decide +kernel)
theorem gap10 : Reach lc 22370673 24607586 := chain_spec 70399 22370673 (by decide +kernel)
theorem gap11 : Reach lc 24607586 26844499 := chain_spec 70399 24607586 (by decide +kernel)
theorem gap12 : Reach lc 26844499 29081411 := chain_spec 70404 26844499 (by decide +kernel)
theorem gap13 : Reach lc 29081411 31318324 := chain_spec 70417 29081411 (by decide +kernel)
theorem gap14 : Reach lc 31318324 33555237 := chain_spec 70416 31318324 (by decide +kernel)
theorem gap15 : Reach lc 33555237 35792150 := chain_spec 70416 33555237 (by decide +kernel)
theorem gapPart1 : Reach lc 17896847 35792150 := ((((((gap8.join gap9).join gap10).join gap11).join gap12).join gap13).join gap14).join gap15
end Go.Abs.M
end

section
set_option linter.unusedVariables false
set_option linter.unusedSimpArgs false
/-
  The chain of primes, part 3 of 4 (the kernel computes it).
-/
set_option maxRecDepth 100000
set_option maxHeartbeats 0
namespace Go.Abs.M
theorem gap16 : Reach lc 35792150 38029063 := chain_spec 70422 35792150 (by decide +kernel)
theorem gap17 : Reach lc 38029063 40265976 := chain_spec 70429 38029063 (by decide +kernel)
theorem gap18 : Reach lc 40265976 42502889 := chain_spec 70433 40265976 (by decide +kernel)
theorem gap19 : Reach lc 42502889 44739801 := chain_spec 70439 42502889 (by decide +kernel)
theorem gap20 : Reach lc 44739801 46976714 := chain_spec 70435 44739801 (by decide +kernel)
theorem gap21 : Reach lc 46976714 49213627 := chain_spec 70434 46976714 (by decide +kernel)
theorem gap22 : Reach lc 49213627 51450540 := chain_spec 70440 49213627 (by decide +kernel)
theorem gap23 : Reach lc 51450540 53687453 := chain_spec 70447 51450540 (by decide +kernel)
theorem gapPart2 : Reach lc 35792150 53687453 := ((((((gap16.join gap17).join gap18).join gap19).join gap20).join gap21).join gap22).join gap23
end Go.Abs.M
end

section
set_option linter.unusedVariables false
set_option linter.unusedSimpArgs false
/-
  The chain of primes, part 4 of 4 (the kernel computes it).
-/
set_option maxRecDepth 100000
set_option maxHeartbeats 0
namespace Go.Abs.M
theorem gap24 : Reach lc 53687453 55924366 := chain_spec 70448 53687453 (by decide +kernel)
theorem gap25 : Reach lc 55924366 58161278 := chain_spec 70448 55924366 (by decide +kernel)
theorem gap26 : Reach lc 58161278 60398191 := chain_spec 70462 58161278 (by decide +kernel)
theorem gap27 : Reach lc 60398191 62635104 := chain_spec 70456 60398191 (by decide +kernel)
theorem gap28 : Reach lc 62635104 64872017 := chain_spec 70456 62635104 (by decide +kernel)
theorem gap29 : Reach lc 64872017 67108930 := chain_spec 70464 64872017 (by decide +kernel)
theorem gap30 : Reach lc 67108930 69345843 := chain_spec 70454 67108930 (by decide +kernel)
theorem gap31 : Reach lc 69345843 71582756 := chain_spec 70467 69345843 (by decide +kernel)
theorem gapPart3 : Reach lc 53687453 71582756 := ((((((gap24.join gap25).join gap26).join gap27).join gap28).join gap29).join gap30).join gap31
end Go.Abs.M
end

section
set_option linter.unusedVariables false
set_option linter.unusedSimpArgs false
/-
  Below 2^31 the next prime is at most 1000 away.
-/
namespace Go.Abs.M
theorem gap_all : Reach lc 1545 71582756 := ((gapPart0.join gapPart1).join gapPart2).join gapPart3
theorem gap1000 (k : Nat) (hk : k < 2147482680) : ∃ p, k < p ∧ p ≤ k + 1000 ∧ Pr p := gap_of gap_all k hk
end Go.Abs.M
end

section
set_option linter.unusedVariables false
set_option linter.unusedSimpArgs false
set_option maxHeartbeats 8000000
set_option linter.unusedVariables false
set_option linter.unusedSimpArgs false
set_option maxRecDepth 100000
namespace Go.Proofs.Ytgncmjcoojmccaa
open Go Go.Abs Go.Abs.M Go.Proofs

/-- What the law needs of the next prime. -/
structure NextP (k p : Int) : Prop where
  lt : k < p
  prm : Prm p
  no : ∀ j : Int, k < j → j < p → ¬ Prm j
  near : p ≤ k + 1000

def lp1St (a k p q : Int) : St := mkSt 87 [.junk, vi .u64 a, .junk, .junk, vb false, vb true, vi .u64 k, vi .u64 p, .junk, vi .u64 q] [none, none]
def lp2St (a p d : Int) : St := mkSt 87 [.junk, vi .u64 a, .junk, .junk, vb false, vb true, .junk, vi .u64 p, .junk, .junk, vi .u64 d] [none, none]

theorem primes_call (hsan : ACall Try.prog 10 [] ⟨[.val (tb true)], []⟩) (n a k p : Int) (h0 : 0 ≤ n) (h1 : n < 4294967296) (ha : 0 ≤ a) (ha1 : a < 18446744073709551616) (hk : k = n % 2147483647) (hp : NextP k p) :
    ACall Try.prog 4 [.val (ti .u32 n), .val (ti .u64 a)] ⟨[.val (tb true)], [none, none]⟩ := by
  obtain ⟨p1, p2, p3, p4⟩ := hp
  have q1 := p2.1
  have q2 := p2.2.1
  have cn := pnext_call k p (by omega) p1 p2 p3
  have cp := pprime_call p true (by omega) (by omega) ⟨fun _ => p2.pf, fun _ => rfl⟩
  obtain ⟨k1, hk1⟩ : ∃ k1, k1 = k + 1 := ⟨_, rfl⟩
  obtain ⟨w, hw, cw⟩ : ∃ w, w = a ^ (p - 1).toNat % p ∧ ACall Try.prog 20 [.val (ti .u64 a), .val (ti .u64 (p - 1)), .val (ti .u64 p)] ⟨[.val (ti .u64 w)], [none, none, none]⟩ := ⟨_, rfl, pow_call a (p - 1) p (by omega) (by omega) ha (by omega) (by omega)⟩
  obtain ⟨p', hp'⟩ : ∃ p', p' = p - 1 := ⟨_, rfl⟩
  rw [← hp'] at cw
  have r1 : a % p ≠ 0 → w = 1 := fun h => by rw [hw]; exact p2.fermat ha h
  have r0 : a % p = 0 → w = 0 := fun h => by
    rw [hw]
    have : (p - 1).toNat = (p - 1).toNat - 1 + 1 := by omega
    rw [this, Int.pow_succ]
    exact Int.emod_eq_zero_of_dvd (Int.dvd_mul_of_dvd_right (Int.dvd_of_emod_eq_zero h))
  refine callZ ccOk mixed [.val] Try.func4 rfl rfl (by kernel_rfl) fun zwrap zadd zsub zmul zquo zrem zshl zshr zband zbor zbxor zbandn zeq zne zlt zle znot zbeq zbne zmax zmin znat zinb zofN zidx zneq znadd zdif zcut zroom zmkok zlen znth zsetr zisI zgetI zsetI zfit zpart zext zsetg zrep zwide zall zmok zmget zmset zW zth A L F hS hF => ?_
  have y1 : znot true = false := hS.not true
  have w1 : zwrap .u64 (zrem n 2147483647) = k := by rw [hS.wrap, hS.rem, Int.tmod_eq_emod_of_nonneg h0, ← hk]; exact wrap_u64 (by omega) (by omega)
  have e1 : zne 0 0 = false := by rw [hS.ne]; rfl
  have e2 : zle p k = false := by rw [hS.le]; exact decide_eq_false (by omega)
  have e3 : zlt 1000 (zwrap .u64 (zsub p k)) = false := by rw [hS.sub, hS.wrap, wrap_u64 (by omega) (by omega), hS.lt]; exact decide_eq_false (by omega)
  have e4 : zwrap .u64 (zadd k 1) = k1 := by rw [hS.add, hS.wrap, wrap_u64 (by omega) (by omega), hk1]
  have e5 : zwrap .u64 (zsub p 1) = p' := by rw [hS.sub, hS.wrap, wrap_u64 (by omega) (by omega), hp']
  cbv
  refine ⟨_, hS.call (hsan), ?_⟩
  cbv
  refine bF (y1) ?_
  rw [w1]
  refine ⟨_, hS.call (cn), ?_⟩
  cbv
  refine bF (e1) ?_
  refine bF (e2) ?_
  refine ⟨_, hS.call (cp), ?_⟩
  cbv
  refine bF (y1) ?_
  refine bF (e3) ?_
  refine loopZ ccOk mixed hS (fun (m : Nat) s => ∃ q : Int, k < q ∧ q ≤ p ∧ (p - q).toNat = m ∧ s = lp1St a k p q) (n := (p - k1).toNat) (s0 := lp1St a k p k1) (le_of ?_ ?_) rfl (Nat.le_refl 2) ?_ ?_
  · simp [leT, lp1St, mkSt, vi, vb, e4]
  · simp [leH, lp1St, mkSt]
  · exact ⟨k1, by omega, by omega, rfl, rfl⟩
  · rintro m s1 ⟨q, g1, g2, g3, hs1⟩
    by_cases he : q = p
    · have l1 : zlt q p = false := by rw [hS.lt]; exact decide_eq_false (by omega)
      subst hs1
      cbv
      refine bF l1 ?_
      refine loopZ ccOk mixed hS (fun (m : Nat) s => ∃ d : Int, 2 ≤ d ∧ d ≤ 50000 ∧ (50000 - d).toNat = m ∧ s = lp2St a p d) (n := 49998) (s0 := lp2St a p 2) (le_of ?_ ?_) rfl (Nat.le_refl 2) ?_ ?_
      · simp [leT, lp1St, lp2St, mkSt, vi, vb]
      · simp [leH, lp1St, lp2St, mkSt]
      · exact ⟨2, by omega, by omega, rfl, rfl⟩
      · rintro m s1 ⟨d, d1, d2, d3, hs1⟩
        have hdd : 0 ≤ d * d ∧ d * d ≤ 50000 * 50000 := ⟨Int.mul_nonneg (by omega) (by omega), Int.mul_le_mul d2 d2 (by omega) (by omega)⟩
        have hw2 : zwrap .u64 (zmul d d) = d * d := by rw [hS.wrap, hS.mul]; exact wrap_u64 hdd.1 (by omega)
        obtain ⟨dd, hdde⟩ : ∃ dd, dd = d * d := ⟨_, rfl⟩
        have hd0 : zne d 0 = true := by rw [hS.ne]; exact decide_eq_true (by omega)
        by_cases hle : d * d ≤ p
        · have l2 : zle (zwrap .u64 (zmul d d)) p = true := by rw [hw2, hS.le]; exact decide_eq_true hle
          have l3 : zeq (zrem p d) 0 = false := by rw [hS.eq, hS.rem, Int.tmod_eq_emod_of_nonneg (by omega)]; exact decide_eq_false (p2.2.2 d d1 hle)
          have hd46 : d < 46341 := by
            rcases Int.lt_or_le d 46341 with h | h
            · exact h
            · have := Int.mul_le_mul h h (by omega) (by omega); omega
          have i1 : zwrap .u64 (zadd d 1) = d + 1 := by rw [hS.wrap, hS.add]; exact wrap_u64 (by omega) (by omega)
          have hm : m - 1 < m := by omega
          have hnx : ∃ d' : Int, 2 ≤ d' ∧ d' ≤ 50000 ∧ (50000 - d').toNat = m - 1 ∧ lp2St a p (d + 1) = lp2St a p d' := ⟨d + 1, by omega, by omega, by omega, rfl⟩
          subst hs1
          cbv
          refine bT l2 (nd hd0 (bF l3 ?_))
          exact again (s' := lp2St a p (d + 1)) (m := m - 1) (by simp [leT, lp2St, mkSt, vi, vb, i1]) (by simp [leH, lp2St, mkSt]) rfl (Nat.le_refl 2) hm hnx
        · have l2 : zle (zwrap .u64 (zmul d d)) p = false := by rw [hw2, hS.le]; exact decide_eq_false hle
          have z0 : zne p 0 = true := by rw [hS.ne]; exact decide_eq_true (by omega)
          have u1 : a % p = 0 → zeq (zrem a p) 0 = true ∧ zne (zrem a p) 0 = false ∧ zeq w 0 = true := fun h => by
            rw [hS.eq, hS.ne, hS.rem, Int.tmod_eq_emod_of_nonneg ha, h, r0 h, hS.eq]; exact ⟨rfl, rfl, rfl⟩
          have u2 : a % p ≠ 0 → zeq (zrem a p) 0 = false ∧ zne (zrem a p) 0 = true ∧ zeq w 1 = true := fun h => by
            rw [hS.eq, hS.ne, hS.rem, Int.tmod_eq_emod_of_nonneg ha, r1 h, hS.eq]; exact ⟨decide_eq_false h, decide_eq_true h, rfl⟩
          by_cases hm0 : a % p = 0
          · obtain ⟨u3, u4, u5⟩ := u1 hm0
            subst hs1
            cbv
            refine bF l2 ?_
            rw [e5]
            refine ⟨_, hS.call (cw), ?_⟩
            cbv
            refine nd (z0) ?_
            refine bT (u3) ?_
            refine nd (z0) ?_
            refine bF (u4) ?_
            refine bT (u5) ?_
            exact hF _ (ResLe.refl _)
          · obtain ⟨u3, u4, u5⟩ := u2 hm0
            subst hs1
            cbv
            refine bF l2 ?_
            rw [e5]
            refine ⟨_, hS.call (cw), ?_⟩
            cbv
            refine nd (z0) ?_
            refine bF (u3) ?_
            refine bT (u5) ?_
            refine nd (z0) ?_
            refine bT (u4) ?_
            exact hF _ (ResLe.refl _)
    · have l1 : zlt q p = true := by rw [hS.lt]; exact decide_eq_true (by omega)
      have c := pprime_call q false (by omega) (by omega) ⟨fun h => (nomatch h), fun h => absurd h.prm (p3 q g1 (by omega))⟩
      have i1 : zwrap .u64 (zadd q 1) = q + 1 := by rw [hS.wrap, hS.add]; exact wrap_u64 (by omega) (by omega)
      have hm : m - 1 < m := by omega
      have hnx : ∃ q' : Int, k < q' ∧ q' ≤ p ∧ (p - q').toNat = m - 1 ∧ lp1St a k p (q + 1) = lp1St a k p q' := ⟨q + 1, by omega, by omega, by omega, rfl⟩
      subst hs1
      cbv
      refine bT (l1) ?_
      refine ⟨_, hS.call (c), ?_⟩
      cbv
      refine bF ((rfl : false = false)) ?_
      exact again (s' := lp1St a k p (q + 1)) (m := m - 1) (by simp [leT, lp1St, mkSt, vi, vb, i1]) (by simp [leH, lp1St, mkSt]) rfl (Nat.le_refl 2) hm hnx

theorem primes_row (hsan : ACall Try.prog 10 [] ⟨[.val (tb true)], []⟩) (tss : List (List Tree)) (h : okAll [.int .u32, .int .u64] tss) :
    ACall Try.prog 4 ((tvs [.int .u32, .int .u64] tss).map .val) ⟨[.val (tb true)], [none, none]⟩ := by
  obtain ⟨_, _, rfl, ⟨n, rfl, hn⟩, _, _, rfl, ⟨a, rfl, ha⟩, rfl⟩ := h
  have hn := bd_u32 hn
  have ha := bd_u64 ha
  obtain ⟨q, q1, q2, q3⟩ := next_ex _ (n % 2147483647) (by omega) rfl
  refine primes_call hsan n a _ q hn.1 hn.2 ha.1 ha.2 rfl ⟨q1, q2, q3, ?_⟩
  rcases Int.lt_or_le (n % 2147483647) 2147482680 with h | h
  · obtain ⟨r, r1, r2, r3⟩ := gap1000 (n % 2147483647).toNat (by omega)
    have qq := q2.2.1
    rcases Int.lt_or_le (r : Int) q with g | g
    · exact absurd (prm_of_pr (n := (r : Int)) (by rwa [Int.toNat_natCast]) (by omega) (by omega)) (q3 r (by omega) g)
    · omega
  · have := q2.2.1
    omega
end Go.Proofs.Ytgncmjcoojmccaa
end

section
set_option linter.unusedVariables false
set_option linter.unusedSimpArgs false
set_option maxHeartbeats 4000000
set_option maxRecDepth 100000
set_option linter.unusedVariables false
set_option linter.unusedSimpArgs false
namespace Go.Proofs.Ytgncmjcoojmccaa
open Go Go.Abs Go.Proofs
noncomputable def sm : FuncId → List Abs.Mode := omOf Try.prog []
theorem ex {f : Nat} {args : List Arg} {res : Res} (n : Nat) (h : execCall Try.prog CC sm n f args = some res) : ACall Try.prog f args res := execCall_sound ccOk mixed n f args res h
/-- An integer of one word. -/
def i1 (n : Int) : List Tree := [.v (.bool false), .lst false [[.v (.int .u32 n)]]]
def i0 : List Tree := [.v (.bool false), .lst true []]
theorem s1 : execCall Try.prog CC sm 1000 11 [.val (ti .u64 7)] = some ⟨[.val (ti .u64 11), .val (ti .i64 0)], [none]⟩ := by kernel_rfl
theorem s2 : execCall Try.prog CC sm 1000 16 [.val (ti .u64 3), .val (ti .u64 7)] = some ⟨[.val (ti .u64 5), .val (ti .i64 0)], [none, none]⟩ := by kernel_rfl
theorem o1 : execCall Try.prog CC sm 1000 27 [.val (ti .i64 1)] = some ⟨[.val (.agg (i1 1))], [none]⟩ := by kernel_rfl
theorem o2 : execCall Try.prog CC sm 1000 27 [.val (ti .i64 2)] = some ⟨[.val (.agg (i1 2))], [none]⟩ := by kernel_rfl
theorem o51 : execCall Try.prog CC sm 1000 27 [.val (ti .i64 51)] = some ⟨[.val (.agg (i1 51))], [none]⟩ := by kernel_rfl
theorem o101 : execCall Try.prog CC sm 1000 27 [.val (ti .i64 101)] = some ⟨[.val (.agg (i1 101))], [none]⟩ := by kernel_rfl
theorem o4 : execCall Try.prog CC sm 1000 27 [.val (ti .i64 4)] = some ⟨[.val (.agg (i1 4))], [none]⟩ := by kernel_rfl
theorem o7 : execCall Try.prog CC sm 1000 27 [.val (ti .i64 7)] = some ⟨[.val (.agg (i1 7))], [none]⟩ := by kernel_rfl
theorem o8 : execCall Try.prog CC sm 1000 27 [.val (ti .i64 8)] = some ⟨[.val (.agg (i1 8))], [none]⟩ := by kernel_rfl
theorem o15 : execCall Try.prog CC sm 1000 27 [.val (ti .i64 15)] = some ⟨[.val (.agg (i1 15))], [none]⟩ := by kernel_rfl
theorem r1 : execCall Try.prog CC sm 1000 18 [.val (.agg (i1 1 ++ i1 2)), .val (ti .u64 7)] = some ⟨[.val (ti .u64 4), .val (ti .i64 0)], [none, none]⟩ := by kernel_rfl
theorem c1 : execCall Try.prog CC sm 1000 26 [.val (.c (.lst false [[.v (.int .u64 2)], [.v (.int .u64 3)]])), .val (.c (.lst false [[.v (.int .u64 3)], [.v (.int .u64 5)]]))] = some ⟨[.val (.agg (i1 8)), .val (.agg (i1 15)), .val (ti .i64 0)], [none, none]⟩ := by kernel_rfl
theorem b1 : execCall Try.prog CC sm 1000 33 [.val (.agg (i1 51)), .val (.agg (i1 101))] = some ⟨[.val (.agg (i1 1 ++ i1 2)), .val (tb true)], [none, none]⟩ := by kernel_rfl
theorem b2 : execCall Try.prog CC sm 1000 33 [.val (.agg (i1 4)), .val (.agg (i1 7))] = some ⟨[.val (.agg (i0 ++ i0)), .val (tb false)], [none, none]⟩ := by kernel_rfl
theorem p2 : execCall Try.prog CC sm 1000 13 [.val (ti .u64 2)] = some ⟨[.val (tb true)], [none]⟩ := by kernel_rfl
theorem p9 : execCall Try.prog CC sm 1000 13 [.val (ti .u64 9)] = some ⟨[.val (tb false)], [none]⟩ := by kernel_rfl
theorem e8 : execCall Try.prog CC sm 1000 30 [.val (.agg (i1 8)), .val (.agg (i1 8))] = some ⟨[.val (tb true)], [none, none]⟩ := by kernel_rfl
theorem e15 : execCall Try.prog CC sm 1000 30 [.val (.agg (i1 15)), .val (.agg (i1 15))] = some ⟨[.val (tb true)], [none, none]⟩ := by kernel_rfl
theorem e1 : execCall Try.prog CC sm 1000 30 [.val (.agg (i1 1)), .val (.agg (i1 1))] = some ⟨[.val (tb true)], [none, none]⟩ := by kernel_rfl
theorem e2 : execCall Try.prog CC sm 1000 30 [.val (.agg (i1 2)), .val (.agg (i1 2))] = some ⟨[.val (tb true)], [none, none]⟩ := by kernel_rfl
theorem w1 : execCall Try.prog CC sm 1000 20 [.val (ti .u64 2), .val (ti .u64 10), .val (ti .u64 1000)] = some ⟨[.val (ti .u64 24)], [none, none, none]⟩ := by kernel_rfl
end Go.Proofs.Ytgncmjcoojmccaa
end

section
set_option linter.unusedVariables false
set_option linter.unusedSimpArgs false
set_option linter.unusedVariables false
set_option linter.unusedSimpArgs false
set_option maxHeartbeats 4000000
set_option maxRecDepth 100000
namespace Go.Proofs.Ytgncmjcoojmccaa
open Go Go.Abs Go.Proofs
theorem sanity_call : ACall Try.prog 10 [] ⟨[.val (tb true)], []⟩ := by
  refine callZ ccOk mixed [.val] Try.func10 rfl rfl (by kernel_rfl) fun zwrap zadd zsub zmul zquo zrem zshl zshr zband zbor zbxor zbandn zeq zne zlt zle znot zbeq zbne zmax zmin znat zinb zofN zidx zneq znadd zdif zcut zroom zmkok zlen znth zsetr zisI zgetI zsetI zfit zpart zext zsetg zrep zwide zall zmok zmget zmset zW zth A L F hS hF => ?_
  cbv
  refine ⟨_, hS.call (ex _ s1), ?_⟩
  cbv
  refine ⟨_, hS.call (ex _ s2), ?_⟩
  cbv
  refine ⟨_, hS.call (ex _ o1), ?_⟩
  cbv
  refine ⟨_, hS.call (ex _ o2), ?_⟩
  cbv
  refine ⟨_, hS.call (ex _ r1), ?_⟩
  cbv
  refine nd (hS.fit ..) (nd (hS.fit ..) ?_)
  rw [hS.part, hS.part]
  refine ⟨_, hS.call (ex _ c1), ?_⟩
  cbv
  refine ⟨_, hS.call (ex _ o51), ?_⟩
  cbv
  refine ⟨_, hS.call (ex _ o101), ?_⟩
  cbv
  refine ⟨_, hS.call (ex _ b1), ?_⟩
  cbv
  refine ⟨_, hS.call (ex _ o4), ?_⟩
  cbv
  refine ⟨_, hS.call (ex _ o7), ?_⟩
  cbv
  refine ⟨_, hS.call (ex _ b2), ?_⟩
  cbv
  have z0 : zeq 0 0 = true := by rw [hS.eq]; rfl
  refine bT z0 (bT z0 (bT z0 (bT z0 ?_)))
  refine ⟨_, hS.call (ex _ p2), ?_⟩
  cbv
  refine bT rfl ?_
  refine ⟨_, hS.call (ex _ p9), ?_⟩
  cbv
  refine bT (hS.not _) ?_
  refine bT (by rw [hS.eq]; rfl) (bT (by rw [hS.eq]; rfl) (bT (by rw [hS.eq]; rfl) ?_))
  refine ⟨_, hS.call (ex _ o8), ?_⟩
  cbv
  refine ⟨_, hS.call (ex _ e8), ?_⟩
  cbv
  refine bT rfl ?_
  refine ⟨_, hS.call (ex _ o15), ?_⟩
  cbv
  refine ⟨_, hS.call (ex _ e15), ?_⟩
  cbv
  refine bT rfl (bT rfl ?_)
  refine ⟨_, hS.call (ex _ o1), ?_⟩
  cbv
  refine ⟨_, hS.call (ex _ e1), ?_⟩
  cbv
  refine bT rfl ?_
  refine ⟨_, hS.call (ex _ o2), ?_⟩
  cbv
  refine ⟨_, hS.call (ex _ e2), ?_⟩
  cbv
  refine bT rfl (bT (hS.not _) ?_)
  refine ⟨_, hS.call (ex _ w1), ?_⟩
  cbv
  exact fin1 hF (tv_bool (by rw [hS.eq]; rfl))
end Go.Proofs.Ytgncmjcoojmccaa
end

