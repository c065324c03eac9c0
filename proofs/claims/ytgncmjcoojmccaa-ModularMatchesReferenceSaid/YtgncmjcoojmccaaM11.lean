/-
  A part of the proof: GabsFrame, LawReduces03, LawMatch03, Sanity03, SanityWalk03.
-/
import Derived.Test.YtgncmjcoojmccaaM10
import Derived.Calls
import Derived.Laws.Cells
import Derived.Below
import Derived.Laws.Small
import Derived.Laws.IdiomCopy
import Derived.Laws.BytesString
import Derived.Laws.Append
import Derived.Laws.Tables
import Derived.Great.BuildSlice
import Derived.IntWalk
import Derived.Orders
import Derived.Laws.BitsLemmas
import Derived.Test.YtgncmjcoojmccaaProg
import Derived.ChangeSame
import Derived.Carry
import Derived.ProofKit
import Derived.WideKeyArgs
import Derived.OpenShut
import Derived.WalkKit

section
set_option linter.unusedVariables false
set_option linter.unusedSimpArgs false
/-
  The abstract layer: a law's arguments, of whatever plain types, read as trees; and read again behind the call.
-/
set_option linter.unusedSimpArgs false
set_option linter.unusedVariables false
namespace Go.Abs
open Go.RowKit Go.WideShapes Go.ChangeShapes Go.ChangeAt

/-- What a type's data look like. -/
inductive Shape where
  | int (k : IntKind)
  | bool
  | slice (s : Shape)
  | struct (l : List Shape)
  | arr (n : Nat) (s : Shape)

mutual
def Shape.size : Shape → Nat
  | .int _ => 1
  | .bool => 1
  | .slice _ => 1
  | .struct l => sizeL l
  | .arr n s => n * s.size
def sizeL : List Shape → Nat
  | [] => 0
  | s :: l => s.size + sizeL l
end

mutual
/-- Does the type look so? -/
def Shape.fits (P : Program) (t : TypeId) : Shape → Bool
  | .int k => match P.underlying t with
    | some (.int k') => decide (k' = k)
    | _ => false
  | .bool => match P.underlying t with
    | some .bool => true
    | _ => false
  | .slice s => match P.underlying t with
    | some (.slice e) => P.cellsOf e == s.size && decide (0 < s.size) && s.fits P e
    | _ => false
  | .struct l => match P.underlying t with
    | some (.struct fs) => P.cellsOf t == sizeL l && fitsL P 0 fs.toList l
    | _ => false
  | .arr n s => match P.underlying t with
    | some (.array m e) => m == n && P.cellsOf t == n * s.size && P.cellsOf e == s.size && s.fits P e
    | _ => false
def fitsL (P : Program) (off : Nat) : List Field → List Shape → Bool
  | [], [] => true
  | f :: fs, s :: l => f.offset == off && P.cellsOf f.type == s.size && s.fits P f.type && fitsL P (off + s.size) fs l
  | _, _ => false
end

/-- A list that comes in n parts. -/
def okN (p : List Tree → Prop) : Nat → List Tree → Prop
  | 0, ts => ts = []
  | n + 1, ts => ∃ a b, ts = a ++ b ∧ p a ∧ okN p n b

mutual
/-- Trees of that look. -/
def Shape.ok : Shape → List Tree → Prop
  | .int k, ts => ∃ n, ts = [.v (.int k n)] ∧ (Lit.int k n).wf = true
  | .bool, ts => ∃ b, ts = [.v (.bool b)]
  | .slice s, ts => ∃ cp rows, ts = [.lst cp rows] ∧ rows.length < 2 ^ 63 ∧ ∀ r ∈ rows, s.ok r
  | .struct l, ts => okL l ts
  | .arr n s, ts => okN s.ok n ts
def okL : List Shape → List Tree → Prop
  | [], ts => ts = []
  | s :: l, ts => ∃ a b, ts = a ++ b ∧ s.ok a ∧ okL l b
end

theorem okN_len {p : List Tree → Prop} {m : Nat} (hp : ∀ ts, p ts → ts.length = m) : ∀ (n : Nat) (ts : List Tree), okN p n ts → ts.length = n * m
  | 0, ts, h => by rw [show ts = [] from h]; simp
  | n + 1, ts, ⟨a, b, h1, h2, h3⟩ => by rw [h1, List.length_append, hp a h2, okN_len hp n b h3, Nat.succ_mul]; omega

mutual
theorem Shape.ok_len : ∀ (s : Shape) (ts : List Tree), s.ok ts → ts.length = s.size
  | .int k, ts, h => by obtain ⟨n, rfl, _⟩ := h; rfl
  | .bool, ts, h => by obtain ⟨n, rfl⟩ := h; rfl
  | .slice s, ts, h => by obtain ⟨_, _, rfl, _⟩ := h; rfl
  | .struct l, ts, h => okL_len l ts h
  | .arr n s, ts, h => okN_len (fun ts h => s.ok_len ts h) n ts h
theorem okL_len : ∀ (l : List Shape) (ts : List Tree), okL l ts → ts.length = sizeL l
  | [], ts, h => by rw [show ts = [] from h]; rfl
  | s :: l, ts, h => by
    obtain ⟨a, b, h1, h2, h3⟩ := h
    rw [h1, List.length_append, s.ok_len a h2, okL_len l b h3]; rfl
end

section
variable {H : Type} {enc : TypeId × Value → H} {P : Program} {w : World} {sp : Nat → Bool} {hd : Bool}

/-- Cell by cell. -/
def TRepL (w : World) (ts : List Tree) (cs : List Value) : Prop := ts.length = cs.length ∧ ∀ (i : Nat) (t : Tree) (v : Value), ts[i]? = some t → cs[i]? = some v → TRep (old w) w t v

theorem TRepL.append {a b : List Tree} {c d : List Value} (h1 : TRepL w a c) (h2 : TRepL w b d) : TRepL w (a ++ b) (c ++ d) := by
  refine ⟨by rw [List.length_append, List.length_append, h1.1, h2.1], fun i t v ht hv => ?_⟩
  rcases Nat.lt_or_ge i a.length with h | h
  · rw [List.getElem?_append_left h] at ht
    rw [List.getElem?_append_left (by rw [← h1.1]; exact h)] at hv
    exact h1.2 i t v ht hv
  · rw [List.getElem?_append_right h] at ht
    rw [List.getElem?_append_right (by rw [← h1.1]; exact h), ← h1.1] at hv
    exact h2.2 _ t v ht hv

theorem TRepL.one {t : Tree} {v : Value} (h : TRep (old w) w t v) : TRepL w [t] [v] := by
  refine ⟨rfl, fun i t' v' ht hv => ?_⟩
  cases i with
  | zero => simp at ht hv; subst ht hv; exact h
  | succ i => simp at ht

def Read (enc : TypeId × Value → H) (P : Program) (w : World) (sp : Nat → Bool) (hd : Bool) (s : Shape) : Prop :=
  ∀ (t : TypeId), s.fits P t = true → ∀ (n : Nat) (cs : List Value) (x : DataW H × List MemPlace), DataW.trod enc P w 0 sp hd n t cs = some x → ∃ ts, s.ok ts ∧ TRepL w ts cs

theorem row_split {cs : List Value} (i m : Nat) : cs.drop i = (cs.drop i).take m ++ cs.drop (i + m) := by
  rw [← List.drop_drop, List.take_append_drop]

theorem fitsL_len : ∀ {l : List Shape} {fs : List Field} {off : Nat}, fitsL P off fs l = true → fs.length = l.length
  | [], [], _, _ => rfl
  | [], _ :: _, _, h => by simp [fitsL] at h
  | _ :: _, [], _, h => by simp [fitsL] at h
  | s :: l, f :: fs, off, h => by
    simp only [fitsL, Bool.and_eq_true] at h
    simp [fitsL_len h.2]

theorem readL : ∀ (l : List Shape), (∀ s ∈ l, Read enc P w sp hd s) → ∀ (fs : List Field) (off : Nat), fitsL P off fs l = true → ∀ (n : Nat) (cs : List Value), cs.length = off + sizeL l →
    (∀ f ∈ fs, ∃ x, DataW.trod enc P w 0 sp hd n f.type ((cs.drop f.offset).take (P.cellsOf f.type)) = some x) → ∃ ts, okL l ts ∧ TRepL w ts (cs.drop off)
  | [], hl, [], off, hf, n, cs, hn, hx => by
    refine ⟨[], rfl, ?_⟩
    rw [List.drop_of_length_le (by rw [hn]; simp [sizeL])]
    exact ⟨rfl, fun i t v h => by simp at h⟩
  | [], hl, f :: fs, off, hf, n, cs, hn, hx => by simp [fitsL] at hf
  | s :: l, hl, [], off, hf, n, cs, hn, hx => by simp [fitsL] at hf
  | s :: l, hl, f :: fs, off, hf, n, cs, hn, hx => by
    simp only [fitsL, Bool.and_eq_true, beq_iff_eq] at hf
    obtain ⟨⟨⟨h1, h2⟩, h3⟩, h4⟩ := hf
    obtain ⟨x, hx1⟩ := hx f (List.mem_cons_self ..)
    rw [h1, h2] at hx1
    obtain ⟨a, ha, hra⟩ := hl s (List.mem_cons_self ..) f.type h3 n _ x hx1
    obtain ⟨b, hb, hrb⟩ := readL l (fun s' hs' => hl s' (List.mem_cons_of_mem _ hs')) fs (off + s.size) h4 n cs (by rw [hn, sizeL]; omega) (fun f' hf' => hx f' (List.mem_cons_of_mem _ hf'))
    refine ⟨a ++ b, ⟨a, b, rfl, ha, hb⟩, ?_⟩
    rw [row_split off s.size]
    exact hra.append hrb

theorem readN {s : Shape} (hs : Read enc P w sp hd s) {e : TypeId} (he : s.fits P e = true) : ∀ (m i : Nat) (n : Nat) (cs : List Value), cs.length = (i + m) * s.size →
    (∀ j, j < m → ∃ x, DataW.trod enc P w 0 sp hd n e ((cs.drop ((i + j) * s.size)).take s.size) = some x) → ∃ ts, okN s.ok m ts ∧ TRepL w ts (cs.drop (i * s.size))
  | 0, i, n, cs, hn, hx => by
    refine ⟨[], rfl, ?_⟩
    rw [List.drop_of_length_le (by rw [hn]; simp)]
    exact ⟨rfl, fun i t v h => by simp at h⟩
  | m + 1, i, n, cs, hn, hx => by
    obtain ⟨x, hx1⟩ := hx 0 (by omega)
    rw [Nat.add_zero] at hx1
    obtain ⟨a, ha, hra⟩ := hs e he n _ x hx1
    obtain ⟨b, hb, hrb⟩ := readN hs he m (i + 1) n cs (by rw [hn]; congr 1; omega) (fun j hj => by
      have := hx (j + 1) (by omega)
      rwa [show i + (j + 1) = i + 1 + j by omega] at this)
    refine ⟨a ++ b, ⟨a, b, rfl, ha, hb⟩, ?_⟩
    rw [row_split (i * s.size) s.size]
    rw [Nat.succ_mul] at hrb
    exact hra.append hrb

theorem add_none (b o n : Nat) : (⟨b, o, none⟩ : Addr).add n = ⟨b, o + n, none⟩ := by
  unfold Addr.add
  split
  · rename_i h; subst h; rfl
  · rfl

theorem wf_one {k : IntKind} {n : Int} : one (.int k n) := by intro l; exact ⟨by simp, by simp⟩

theorem Shape.read : ∀ (s : Shape), Read enc P w sp hd s
  | .int k => fun t hf n cs x hx => by
    have hu : P.underlying t = some (.int k) := by
      unfold Shape.fits at hf
      split at hf
      · rename_i k' h; rw [h, of_decide_eq_true hf]
      · cases hf
    obtain ⟨m, rfl, _, hw⟩ := DataW.trod_int hu hx
    exact ⟨_, ⟨m, rfl, hw⟩, .one (.v _ wf_one)⟩
  | .bool => fun t hf n cs x hx => by
    have hu : P.underlying t = some .bool := by
      unfold Shape.fits at hf
      split at hf
      · rename_i h; exact h
      · cases hf
    obtain ⟨b, rfl, _⟩ := DataW.trod_bool hu hx
    exact ⟨_, ⟨b, rfl⟩, .one (.v _ (by intro l; exact ⟨by simp, by simp⟩))⟩
  | .struct l => fun t hf n cs x hx => by
    unfold Shape.fits at hf
    split at hf
    · rename_i fs hu
      simp only [Bool.and_eq_true, beq_iff_eq] at hf
      obtain ⟨xs, n', rfl, _, hl, hxl, hfs⟩ := DataW.trod_struct hu hx
      obtain ⟨ts, h1, h2⟩ := readL l (fun s hs => Shape.read s) fs.toList 0 hf.2 n' cs (by rw [hl, hf.1]; omega) (fun f hfm => by
        obtain ⟨i, hi, hfi⟩ := List.mem_iff_getElem.1 hfm
        have hi' : i < fs.size := by simpa using hi
        have hg : fs[i]? = some f := by rw [Array.getElem?_eq_getElem hi']; simpa using hfi
        have := hfs i f hg
        have hxi : i < xs.length := by rw [hxl]; exact hi'
        rw [List.getElem?_eq_getElem hxi] at this
        exact ⟨_, this⟩)
      exact ⟨ts, h1, by simpa using h2⟩
    · cases hf
  | .arr m s => fun t hf n cs x hx => by
    unfold Shape.fits at hf
    split at hf
    · rename_i m' e hu
      simp only [Bool.and_eq_true, beq_iff_eq] at hf
      obtain ⟨⟨⟨rfl, h1⟩, h2⟩, h3⟩ := hf
      cases n with
      | zero => simp [DataW.trod] at hx
      | succ n =>
        unfold DataW.trod at hx
        rw [hu] at hx
        simp only at hx
        split at hx
        · rename_i hl
          obtain ⟨xs, hxs, _⟩ := Option.map_eq_some_iff.1 hx
          obtain ⟨ts, h4, h5⟩ := readN (Shape.read s) h3 m' 0 n cs (by rw [hl, h1, Nat.zero_add]) (fun j hj => by
            have := mapM_some_get hxs j j (by simp [hj])
            have hlen := mapM_some_length hxs
            rw [List.length_range] at hlen
            rw [List.getElem?_eq_getElem (by omega)] at this
            rw [h2] at this
            rw [Nat.zero_add]
            exact ⟨_, this⟩)
          exact ⟨ts, h4, by simpa using h5⟩
        · cases hx
    · cases hf
  | .slice s => fun t hf n cs x hx => by
    unfold Shape.fits at hf
    split at hf
    · rename_i e hu
      simp only [Bool.and_eq_true, beq_iff_eq, decide_eq_true_eq] at hf
      obtain ⟨⟨h1, h2⟩, h3⟩ := hf
      rcases DataW.trod_slice hu hx with ⟨rfl, _⟩ | ⟨a, len, cap, elems, rest, n', rfl, rfl, _, _, hlc, hcap, hel, hread, _, _⟩
      · refine ⟨[.lst false []], ⟨false, [], rfl, by simp, by simp⟩, .one (.lst false [] none 0 0 0 0 (fun _ _ => default) (by simp) (by omega) (by simp) (by simp) (by simp) (by simp) (by simp) (fun i j t ht => by simp [at2] at ht) (fun i j t ht => by simp [at2] at ht))⟩
      · have hm : maxLen = 2 ^ 63 - 1 := rfl
        have hrow : ∀ i, i < len → ∃ ts css, s.ok ts ∧ TRepL w ts css ∧ w.cells? 0 (a.add (i * s.size)) s.size = some css := fun i hi => by
          have hr := hread i hi
          rw [List.getElem?_eq_getElem (by omega), h1] at hr
          obtain ⟨css, hc, hx2⟩ := Option.bind_eq_some_iff.1 hr
          obtain ⟨ts, h4, h5⟩ := Shape.read s e h3 _ _ _ hx2
          exact ⟨ts, css, h4, h5, hc⟩
        let f : Nat → List Tree := fun i => if h : i < len then (hrow i h).choose else []
        let g : Nat → List Value := fun i => if h : i < len then (hrow i h).choose_spec.choose else []
        have hfg : ∀ i, i < len → s.ok (f i) ∧ TRepL w (f i) (g i) ∧ w.cells? 0 (a.add (i * s.size)) s.size = some (g i) := fun i hi => by
          have hfi : f i = (hrow i hi).choose := dif_pos hi
          have hgi : g i = (hrow i hi).choose_spec.choose := dif_pos hi
          rw [hfi, hgi]
          exact (hrow i hi).choose_spec.choose_spec
        have hspot : 0 < len → a = ⟨a.block, a.off, none⟩ ∧ a.block < w.heap.size := fun h0 => by
          obtain ⟨hok, hrep, hc⟩ := hfg 0 h0
          obtain ⟨_, hl, hce⟩ := World.cells?_some hc
          have := hce 0 h2
          rw [List.getElem?_eq_getElem (by omega)] at this
          have ha : (a.add (0 * s.size)).add 0 = a := by simp [Addr.add]
          rw [ha] at this
          refine ⟨?_, ?_⟩
          · unfold World.cell? at this
            split at this
            · split at this
              · cases this
              · rename_i hs
                obtain ⟨b, o, sp'⟩ := a
                cases sp' with
                | none => rfl
                | some _ => simp at hs
            · cases this
          · have := World.cells?_block hc h2
            simpa [Addr.add] using this
        have hrows : ∀ i, (((List.range len).map f)[i]?) = if i < len then some (f i) else none := fun i => by
          rw [List.getElem?_map]
          by_cases h : i < len
          · rw [if_pos h, List.getElem?_range h]; rfl
          · rw [if_neg h, List.getElem?_eq_none (by simpa using h)]; rfl
        have hat : ∀ i j t, at2 ((List.range len).map f) i j = some t → i < len ∧ (f i)[j]? = some t := fun i j t ht => by
          unfold at2 at ht
          rw [hrows] at ht
          by_cases h : i < len
          · rw [if_pos h] at ht; exact ⟨h, ht⟩
          · rw [if_neg h] at ht; cases ht
        have hcell : ∀ i j t, at2 ((List.range len).map f) i j = some t → ∃ v, (g i)[j]? = some v ∧ w.cell? ⟨a.block, a.off + i * s.size + j, none⟩ = some v ∧ TRep (old w) w t v ∧ a.block < w.heap.size := fun i j t ht => by
          obtain ⟨hi, hj⟩ := hat i j t ht
          obtain ⟨hok, hrep, hc⟩ := hfg i hi
          obtain ⟨_, hl, hce⟩ := World.cells?_some hc
          have hjl : j < s.size := by
            have := (List.getElem?_eq_some_iff.1 hj).1
            rw [s.ok_len _ hok] at this; exact this
          have hv := hce j hjl
          obtain ⟨hs1, hs2⟩ := hspot (by omega)
          refine ⟨(g i)[j]'(by omega), List.getElem?_eq_getElem (by omega), ?_, hrep.2 j t _ hj (List.getElem?_eq_getElem (by omega)), hs2⟩
          rw [List.getElem?_eq_getElem (by omega)] at hv
          rw [← hv]
          rw [hs1, add_none, add_none]
        refine ⟨[.lst false ((List.range len).map f)], ⟨false, _, rfl, by rw [List.length_map, List.length_range]; omega, fun r hr => ?_⟩, ?_⟩
        · obtain ⟨i, hi, rfl⟩ := List.mem_map.1 hr
          exact (hfg i (List.mem_range.1 hi)).1
        · refine .one ?_
          have hl : ((List.range len).map f).length = len := by rw [List.length_map, List.length_range]
          have := TRep.lst (S := old w) (w := w) false ((List.range len).map f) (some a) a.block a.off s.size cap (fun i j => ((g i)[j]?).getD default) (by rw [hl]; exact hlc) (by omega) (by rw [hl]; omega) (by simp)
            (fun hne => by rw [(hspot (by rcases Nat.eq_zero_or_pos len with h | h; · subst h; simp at hne
                                          · exact h)).1]) (by simp)
            (fun r hr => by obtain ⟨i, hi, rfl⟩ := List.mem_map.1 hr; exact s.ok_len _ (hfg i (List.mem_range.1 hi)).1)
            (fun i j t ht => by obtain ⟨v, h4, h5, h6, h7⟩ := hcell i j t ht; exact ⟨h7, by rw [h5, h4]; rfl⟩)
            (fun i j t ht => by obtain ⟨v, h4, h5, h6, h7⟩ := hcell i j t ht; rw [h4]; exact h6)
          rw [hl] at this
          exact this
    · cases hf
termination_by s => SizeOf.sizeOf s

/-- An argument as an abstract one. -/
def Shape.tv (s : Shape) (ts : List Tree) : TV :=
  match s, ts with
  | .struct _, ts => .agg ts
  | .arr _ _, ts => .agg ts
  | _, [t] => .c t
  | _, ts => .agg ts

def isAggT (P : Program) (t : TypeId) : Bool := match P.underlying t with
  | some (.struct _) | some (.array _ _) => true
  | _ => false

theorem Shape.rep {s : Shape} {t : TypeId} (hf : s.fits P t = true) {v : Value} (hok : Value.okWide P w .any 0 t v) {ts : List Tree} (hs : s.ok ts) (h : TRepL w ts v.cells.toList) : VRep noβ (old w) w (s.tv ts).av v := by
  have agg : ∀ (cs : Array Value), v = .agg cs → VRep noβ (old w) w (TV.agg ts).av v := fun cs hv => by
    subst hv
    have : Array.mk cs.toList = cs := rfl
    rw [show TV.av (.agg ts) = AV.agg (ts.map .t) from rfl, ← this]
    refine .agg cs.toList (by rw [List.length_map]; exact h.1.symm) fun i c hc => ?_
    rw [List.getElem?_map] at hc
    obtain ⟨t', ht, rfl⟩ := Option.map_eq_some_iff.1 hc
    have hi := (List.getElem?_eq_some_iff.1 ht).1
    have hi2 : i < cs.toList.length := by have := h.1; simp only [Value.cells] at this; omega
    exact ⟨_, List.getElem?_eq_getElem hi2, .t (h.2 i t' _ ht (List.getElem?_eq_getElem hi2))⟩
  have scal : isAggT P t = false → ts.length = 1 → VRep noβ (old w) w (match ts with | [t] => TV.c t | ts => .agg ts).av v := fun hna hl => by
    match ts, hl, h with
    | [t'], _, h =>
      have hc : v.cells = #[v] := by
        cases v with
        | agg cs =>
          unfold Value.okWide at hok
          unfold isAggT at hna
          split at hok
          · rename_i h1; rw [h1] at hna; cases hna
          · rename_i h1; rw [h1] at hna; cases hna
          · unfold Cell.okWide at hok
            split at hok <;> first | (rename_i h1 h2; cases h2; done) | skip
            all_goals first | (unfold Cell.ok at hok; split at hok <;> first | (rename_i h1 h2; cases h2; done) | exact hok.elim) | skip
        | _ => rfl
      have := h.2 0 t' v rfl (by rw [hc]; rfl)
      exact .c (.t this)
  cases s with
  | int k =>
    have hu : P.underlying t = some (.int k) := by
      unfold Shape.fits at hf
      split at hf
      · rename_i k' h; rw [h, of_decide_eq_true hf]
      · cases hf
    obtain ⟨m, rfl, _⟩ := hs
    exact scal (by unfold isAggT; rw [hu]) rfl
  | bool =>
    have hu : P.underlying t = some .bool := by
      unfold Shape.fits at hf
      split at hf
      · rename_i h; exact h
      · cases hf
    obtain ⟨m, rfl⟩ := hs
    exact scal (by unfold isAggT; rw [hu]) rfl
  | slice s =>
    unfold Shape.fits at hf
    split at hf
    · rename_i e hu
      obtain ⟨_, _, rfl, _⟩ := hs
      exact scal (by unfold isAggT; rw [hu]) rfl
    · cases hf
  | struct l =>
    unfold Shape.fits at hf
    split at hf
    · rename_i fs hu
      unfold Value.okWide at hok
      rw [hu] at hok
      obtain ⟨cs, hv, _⟩ := hok
      exact agg cs hv
    · cases hf
  | arr n s =>
    unfold Shape.fits at hf
    split at hf
    · rename_i m e hu
      unfold Value.okWide at hok
      rw [hu] at hok
      obtain ⟨cs, hv, _⟩ := hok
      exact agg cs hv
    · cases hf

/-- The arguments, one after the other. -/
def okAll : List Shape → List (List Tree) → Prop
  | [], l => l = []
  | s :: ss, l => ∃ ts r, l = ts :: r ∧ s.ok ts ∧ okAll ss r

def tvs : List Shape → List (List Tree) → List TV
  | s :: ss, ts :: r => s.tv ts :: tvs ss r
  | _, _ => []

def fitsAll (P : Program) : List TypeId → List Shape → Bool
  | [], [] => true
  | t :: ts, s :: ss => s.fits P t && decide (t < P.types.size) && P.readableRec t && fitsAll P ts ss
  | _, _ => false

theorem args_read : ∀ {tys : List TypeId} {shs : List Shape} {vs : List Value} {ds : List (DataW H)} {ps : List MemPlace}, DataW.TrodAll enc P w 0 sp true tys vs ds ps → fitsAll P tys shs = true →
    (∀ (j : Nat) t v, tys[j]? = some t → vs[j]? = some v → Value.okWide P w .any 0 t v) →
    ∃ tss, okAll shs tss ∧ vs.length = (tvs shs tss).length ∧ ds.length = shs.length ∧ ∀ (i : Nat) (x : TV), (tvs shs tss)[i]? = some x → ∃ v, vs[i]? = some v ∧ VRep noβ (old w) w x.av v
  | [], [], [], [], ps, h, hf, hv => ⟨[], rfl, rfl, rfl, fun i x hx => by simp [tvs] at hx⟩
  | t :: ts, s :: ss, v :: vs, d :: ds, ps, h, hf, hv => by
    obtain ⟨p, q, ⟨n, h1⟩, h2, _⟩ := h
    simp only [fitsAll, Bool.and_eq_true] at hf
    obtain ⟨⟨⟨f1, f2⟩, f3⟩, f4⟩ := hf
    obtain ⟨tss, g1, g2, g3, g4⟩ := args_read h2 f4 (fun j t v ht hx => hv (j + 1) t v (by simpa using ht) (by simpa using hx))
    obtain ⟨tr, k1, k2⟩ := s.read t f1 n _ _ h1
    refine ⟨tr :: tss, ⟨tr, tss, rfl, k1, g1⟩, by simp [tvs, g2], by simp [g3], fun i x hx => ?_⟩
    cases i with
    | zero =>
      simp only [tvs, List.getElem?_cons_zero, Option.some.injEq] at hx
      subst hx
      exact ⟨v, rfl, Shape.rep f1 (hv 0 t v rfl rfl) k1 k2⟩
    | succ i => simp only [tvs, List.getElem?_cons_succ] at hx ⊢; exact g4 i x hx
  | [], _ :: _, _, _, _, _, hf, _ => by simp [fitsAll] at hf
  | _ :: _, [], _, _, _, _, hf, _ => by simp [fitsAll] at hf
  | [], [], _ :: _, _, _, h, _, _ => by simp [DataW.TrodAll] at h
  | [], [], [], _ :: _, _, h, _, _ => by simp [DataW.TrodAll] at h
  | _ :: _, _ :: _, [], _, _, h, _, _ => by simp [DataW.TrodAll] at h
  | _ :: _, _ :: _, _ :: _, [], _, h, _, _ => by simp [DataW.TrodAll] at h

theorem args_stay (hl : laidOutB P = true) {W W' : World} {sp' : Nat → Bool} (hb : Below W.heap.size W W') : ∀ {tys : List TypeId} {shs : List Shape} {vs : List Value} {ds : List (DataW H)} {ps : List MemPlace}, DataW.TrodAll enc P W 0 (fun _ => true) true tys vs ds ps → fitsAll P tys shs = true →
    (∀ p ∈ ps, p.block < W.heap.size) → (∀ p ∈ ps, sp' p.block = true) → DataW.TrodAll enc P W' 0 sp' true tys vs ds ps
  | [], [], [], [], ps, h, hf, h1, h2 => h
  | t :: ts, s :: ss, v :: vs, d :: ds, ps, h, hf, h1, h2 => by
    obtain ⟨p, q, k1, k2, rfl⟩ := h
    simp only [fitsAll, Bool.and_eq_true, decide_eq_true_eq] at hf
    obtain ⟨⟨⟨f1, f2⟩, f3⟩, f4⟩ := hf
    exact ⟨p, q, Go.WideElems.Trod_stays hl f3 f2 k1 (fun x hx => hb.same (h1 x (List.mem_append_left _ hx))) (fun x hx => h2 x (List.mem_append_left _ hx)),
      args_stay hl hb k2 f4 (fun x hx => h1 x (List.mem_append_right _ hx)) (fun x hx => h2 x (List.mem_append_right _ hx)), rfl⟩
  | [], _ :: _, _, _, _, _, hf, _, _ => by simp [fitsAll] at hf
  | _ :: _, [], _, _, _, _, hf, _, _ => by simp [fitsAll] at hf
  | [], [], _ :: _, _, _, h, _, _, _ => by simp [DataW.TrodAll] at h
  | [], [], [], _ :: _, _, h, _, _, _ => by simp [DataW.TrodAll] at h
  | _ :: _, _ :: _, [], _, _, h, _, _, _ => by simp [DataW.TrodAll] at h
  | _ :: _, _ :: _, _ :: _, [], _, h, _, _, _ => by simp [DataW.TrodAll] at h

/-- A law's contract, for whatever arguments of that look: the call, as the given statements ask for it. -/
theorem law_row {f : FuncId} {fn : Func} {spec : ChangeSpec} {shs : List Shape} {outs : List (Option Blk)} (hl : laidOutB P = true) (hf : fitsAll P fn.params.toList shs = true) (hvars : spec.vars = []) {tb0 : TypeId} (hres : fn.resultTypes = #[tb0]) (hb4 : P.underlying tb0 = some .bool)
    {apart fresh handsOn again : Bool} (hfn : ∀ ds : List (DataW H), ds.length = shs.length → (spec.fn H ds).args = ds ∧ (spec.fn H ds).results = [.lit (.bool true)] ∧ (spec.fn H ds).vars = [])
    (hc : ∀ tss, okAll shs tss → ACall P f ((tvs shs tss).map .val) ⟨[.val (tb true)], outs⟩)
    {W : World} {args : Array Value} {ds gs : List (DataW H)} {before : List MemPlace} (hval : ∀ (j : Nat) t v, fn.params[j]? = some t → args[j]? = some v → Value.okWide P W .any 0 t v)
    (hW : DataW.Whole enc P fn.params.toList spec.vars apart W args.toList ds gs before) :
    Calls P f args W fun e W' => ∃ v, e = .returned v ∧ spec.post enc P fn apart fresh handsOn again W args v W' := by
  have hW' := hW
  obtain ⟨p, q, hA, hV, rfl, hfz, hnd⟩ := hW
  rw [hvars] at hV
  have hgq : gs = [] ∧ q = [] := by
    cases gs with
    | nil => exact ⟨rfl, hV⟩
    | cons g gs => exact hV.elim
  obtain ⟨rfl, rfl⟩ := hgq
  obtain ⟨tss, hok, hlen, hdl, hrep⟩ := args_read hA hf (fun j t v ht hv => hval j t v (by simpa using ht) (by simpa using hv))
  have h := law_calls (hc tss hok) W args.toList hlen hrep
  have hargs : args.toList.toArray = args := rfl
  rw [hargs] at h
  obtain ⟨e1, e2, e3⟩ := hfn ds hdl
  have hbefore : ∀ x ∈ p, x.block < W.heap.size := fun x hx => hW'.lt x (List.mem_append_left _ hx)
  refine h.mono fun e W' ⟨he, hg⟩ => ?_
  subst he
  refine ⟨_, rfl, post_of_below (pa := p) (pv := []) hW' (fun b sp hd => ?_) (fun sp hs => ?_) (fun sp hs => ?_) rfl hg ?_⟩
  · rw [List.append_nil, e2, hres]
    exact trodAll_cons_mk (shut_bool hb4 _) trodAll_mk0
  · rw [List.append_nil, e1]
    exact args_stay hl hg hA hf hbefore (fun x hx => hs x (List.mem_append_left _ hx))
  · rw [List.append_nil, e3, hvars]; rfl
  · exact ok_one hres rfl (okWide_bool_mk hb4 _)

end
end Go.Abs
end

section
set_option linter.unusedVariables false
set_option linter.unusedSimpArgs false
set_option maxHeartbeats 8000000
set_option linter.unusedVariables false
set_option linter.unusedSimpArgs false
set_option maxRecDepth 100000
namespace Go.Proofs.Ytgncmjcoojmccaa
open Go Go.Abs Go.Abs.M Go.Proofs

theorem divInt_small {n d : Int} {k : Nat} (hd : d ≠ 0) (h1 : nl n.natAbs ≤ k) (h2 : nl d.natAbs ≤ k) : Qs (Rat.divInt n d) k := by
  constructor
  · rw [← lowest_num hd]
    have := nl_mono (Int.natAbs_ediv_le_natAbs n (if d < 0 then -(Int.gcd n d : Int) else (Int.gcd n d : Int)))
    omega
  · have e := lowest_den (n := n) hd
    have := nl_mono (Int.natAbs_ediv_le_natAbs d (if d < 0 then -(Int.gcd n d : Int) else (Int.gcd n d : Int)))
    rw [e, Int.natAbs_natCast] at this
    omega

theorem madeQ_small {n d k : Int} (n1 : -128 ≤ n) (n2 : n < 128) (d1 : -128 ≤ d) (d2 : d < 128) (k1 : 0 ≤ k) (k2 : k < 256) : Qs (madeQ n d k) 8 := by
  obtain ⟨h1, h2, h3⟩ := made_nd n1 n2 d1 d2 k1 k2
  exact divInt_small h3 h1 h2

theorem Qs.mono {x : Rat} {a b : Nat} (h : Qs x a) (hab : a ≤ b) : Qs x b := ⟨Nat.le_trans h.1 hab, Nat.le_trans h.2 hab⟩

theorem add_small {x y : Rat} {a b : Nat} (hx : Qs x a) (hy : Qs y b) : Qs (x + y) (a + b + 1) := by
  obtain ⟨x1, x2⟩ := hx
  obtain ⟨y1, y2⟩ := hy
  have hx0 := x.den_nz
  have hy0 := y.den_nz
  have h : x + y = Rat.divInt (x.num * y.den + y.num * x.den) (x.den * y.den) := by
    rw [← Rat.divInt_add_divInt _ _ (by omega) (by omega), Rat.num_divInt_den, Rat.num_divInt_den]
  rw [h]
  have n1 := nl_mul x.num.natAbs y.den
  have n2 := nl_mul y.num.natAbs x.den
  have n3 := nl_mul x.den y.den
  refine divInt_small (Int.mul_ne_zero (by omega) (by omega)) ?_ ?_
  · have h1 := nl_mono (Int.natAbs_add_le (x.num * y.den) (y.num * x.den))
    have h2 := nl_add (x.num * y.den).natAbs (y.num * x.den).natAbs
    rw [Int.natAbs_mul, Int.natAbs_mul, Int.natAbs_natCast, Int.natAbs_natCast] at h2
    rw [Int.natAbs_mul, Int.natAbs_mul, Int.natAbs_natCast, Int.natAbs_natCast] at h1
    omega
  · rw [Int.natAbs_mul, Int.natAbs_natCast, Int.natAbs_natCast]; omega

theorem mul_small {x y : Rat} {a b : Nat} (hx : Qs x a) (hy : Qs y b) : Qs (x * y) (a + b) := by
  obtain ⟨x1, x2⟩ := hx
  obtain ⟨y1, y2⟩ := hy
  have hx0 := x.den_nz
  have hy0 := y.den_nz
  have h : x * y = Rat.divInt (x.num * y.num) (x.den * y.den) := by
    rw [← Rat.divInt_mul_divInt, Rat.num_divInt_den, Rat.num_divInt_den]
  rw [h]
  have n1 := nl_mul x.num.natAbs y.num.natAbs
  have n3 := nl_mul x.den y.den
  refine divInt_small (Int.mul_ne_zero (by omega) (by omega)) ?_ ?_
  · rw [Int.natAbs_mul]; omega
  · rw [Int.natAbs_mul, Int.natAbs_natCast, Int.natAbs_natCast]; omega

theorem reduces_call (hsan : ACall Try.prog 10 [] ⟨[.val (tb true)], []⟩) (n a b c a' b' c' : Int) (h0 : 0 ≤ n) (h1 : n < 2 ^ 32)
    (a1 : -128 ≤ a) (a2 : a < 128) (b1 : -128 ≤ b) (b2 : b < 128) (c1 : 0 ≤ c) (c2 : c < 256) (a1' : -128 ≤ a') (a2' : a' < 128) (b1' : -128 ≤ b') (b2' : b' < 128) (c1' : 0 ≤ c') (c2' : c' < 256) :
    ACall Try.prog 6 [.val (ti .u32 n), .val (.agg [.v (.int .i8 a), .v (.int .i8 b), .v (.int .u8 c)]), .val (.agg [.v (.int .i8 a'), .v (.int .i8 b'), .v (.int .u8 c')])] ⟨[.val (tb true)], [none, none, none]⟩ := by
  obtain ⟨p, hp1, hp2, hp3⟩ := next_ex _ (n % 2147483647) (by omega) rfl
  have cn := next_call (n % 2147483647) p (by omega) hp1 hp2 hp3
  have p2 := hp2.1
  have p3 := hp2.2.1
  obtain ⟨xs, xr, xt, xq, hx, cx⟩ := rmade2_call a b c a1 a2 b1 b2 c1 c2
  obtain ⟨ys, yr, yt, yq, hy, cy⟩ := rmade2_call a' b' c' a1' a2' b1' b2' c1' c2'
  have sx := madeQ_small a1 a2 b1 b2 c1 c2
  have sy := madeQ_small a1' a2' b1' b2' c1' c2'
  generalize madeQ a b c = x at *
  generalize madeQ a' b' c' = y at *
  have sx' := sx.mono (show 8 ≤ 68719476736 by omega)
  have sy' := sy.mono (show 8 ≤ 68719476736 by omega)
  obtain ⟨zs, zr, zt, zq, hz, cz⟩ := qadd_call hx hy sx' sy'
  obtain ⟨ws, wr, wt, wq, hw, cw⟩ := qmul_call hx hy sx' sy'
  have sz := (add_small sx sy).mono (show 8 + 8 + 1 ≤ 68719476736 by omega)
  have sw := (mul_small sx sy).mono (show 8 + 8 ≤ 68719476736 by omega)
  have cxd := rresidue_call (p := p) hx.d (by rw [Int.natAbs_natCast]; have := sx.2; omega) (by omega) (by omega) rfl
  have cxn := rresidue_call (p := p) hx.n (by have := sx.1; omega) (by omega) (by omega) rfl
  by_cases hxd : (x.den : Int) % p = 0
  · have crx := preduce_call p 0 30 hx sx' p2 (by omega) (by rw [if_pos hxd]) (by rw [if_pos hxd])
    obtain ⟨v, f, cry⟩ : ∃ v f, ACall Try.prog 18 [.val (.agg (iT ys yr ++ iT yt yq)), .val (ti .u64 p)] ⟨[.val (ti .u64 v), .val (ti .i64 f)], [none, none]⟩ := ⟨_, _, preduce_call p _ _ hy sy' p2 (by omega) rfl rfl⟩
    rw [hxd] at cxd
    refine callZ ccOk mixed [.val] Try.func6 rfl rfl (by kernel_rfl) fun zwrap zadd zsub zmul zquo zrem zshl zshr zband zbor zbxor zbandn zeq zne zlt zle znot zbeq zbne zmax zmin znat zinb zofN zidx zneq znadd zdif zcut zroom zmkok zlen znth zsetr zisI zgetI zsetI zfit zpart zext zsetg zrep zwide zall zmok zmget zmset zW zth A L F hS hF => ?_
    have hn : zwrap .u64 (zrem n 2147483647) = n % 2147483647 := by rw [hS.wrap, hS.rem, Int.tmod_eq_emod_of_nonneg h0]; exact wrap_u64 (by omega) (by omega)
    generalize n % 2147483647 = k at *
    cbv
    refine ⟨_, hS.call (hsan), ?_⟩
    cbv
    refine bF (hS.not _) ?_
    rw [hn]
    refine ⟨_, hS.call (cn), ?_⟩
    cbv
    refine ⟨_, hS.call (cx), ?_⟩
    cbv
    refine ⟨_, hS.call (cy), ?_⟩
    cbv
    refine ⟨_, hS.call (crx), ?_⟩
    cbv
    refine ⟨_, hS.call (cry), ?_⟩
    cbv
    refine ⟨_, hS.call (cxd), ?_⟩
    cbv
    have e1 : zbne (zeq 30 30) (zeq 0 0) = false := by rw [hS.bne, hS.eq, hS.eq]; rfl
    have e2 : zne 30 0 = true := by rw [hS.ne]; rfl
    have e3 : zne 30 30 = false := by rw [hS.ne]; rfl
    have e4 : zne 0 0 = false := by rw [hS.ne]; rfl
    exact bF e1 (bT e2 (bF e3 (bF e4 (bT e2 (hF _ (ResLe.refl _))))))
  · have crx := preduce_call p (redQ p x) 0 hx sx' p2 (by omega) (by rw [if_neg hxd]) (by rw [if_neg hxd])
    have rx := redQ_range (show 0 < p by omega) x
    by_cases hyd : (y.den : Int) % p = 0
    · have cry := preduce_call p 0 30 hy sy' p2 (by omega) (by rw [if_pos hyd]) (by rw [if_pos hyd])
      generalize (x.den : Int) % p = xd at *
      refine callZ ccOk mixed [.val] Try.func6 rfl rfl (by kernel_rfl) fun zwrap zadd zsub zmul zquo zrem zshl zshr zband zbor zbxor zbandn zeq zne zlt zle znot zbeq zbne zmax zmin znat zinb zofN zidx zneq znadd zdif zcut zroom zmkok zlen znth zsetr zisI zgetI zsetI zfit zpart zext zsetg zrep zwide zall zmok zmget zmset zW zth A L F hS hF => ?_
      have hn : zwrap .u64 (zrem n 2147483647) = n % 2147483647 := by rw [hS.wrap, hS.rem, Int.tmod_eq_emod_of_nonneg h0]; exact wrap_u64 (by omega) (by omega)
      generalize n % 2147483647 = k at *
      generalize redQ p x = u at *
      cbv
      refine ⟨_, hS.call (hsan), ?_⟩
      cbv
      refine bF (hS.not _) ?_
      rw [hn]
      refine ⟨_, hS.call (cn), ?_⟩
      cbv
      refine ⟨_, hS.call (cx), ?_⟩
      cbv
      refine ⟨_, hS.call (cy), ?_⟩
      cbv
      refine ⟨_, hS.call (crx), ?_⟩
      cbv
      refine ⟨_, hS.call (cry), ?_⟩
      cbv
      refine ⟨_, hS.call (cxd), ?_⟩
      cbv
      have e1 : zbne (zeq 0 30) (zeq xd 0) = false := by rw [hS.bne, hS.eq, hS.eq, decide_eq_false hxd]; rfl
      have e2 : zne 0 0 = false := by rw [hS.ne]; rfl
      have e3 : zne 30 0 = true := by rw [hS.ne]; rfl
      exact bF e1 (bF e2 (bF e2 (bT e3 (hF _ (ResLe.refl _)))))
    · have cry := preduce_call p (redQ p y) 0 hy sy' p2 (by omega) (by rw [if_neg hyd]) (by rw [if_neg hyd])
      have ry := redQ_range (show 0 < p by omega) y
      have hzd := den_add_ok hp2 hxd hyd
      have hwd := den_mul_ok hp2 hxd hyd
      have crz := preduce_call p (redQ p (x + y)) 0 hz sz p2 (by omega) (by rw [if_neg hzd]) (by rw [if_neg hzd])
      have crw := preduce_call p (redQ p (x * y)) 0 hw sw p2 (by omega) (by rw [if_neg hwd]) (by rw [if_neg hwd])
      have E1 := redQ_add hp2 hxd hyd
      have E2 := redQ_prod hp2 hxd hyd
      have E3 := redQ_back hp2 hxd
      have bd := And.intro (Int.emod_nonneg (x.den : Int) (show p ≠ 0 by omega)) (Int.emod_lt_of_pos (x.den : Int) (show 0 < p by omega))
      have m1 := mul_lt rx.1 rx.2 ry.1 ry.2 (by omega)
      have m2 := mul_lt bd.1 bd.2 rx.1 rx.2 (by omega)
      generalize (x.den : Int) % p = xd at *
      generalize x.num % p = xn at *
      refine callZ ccOk mixed [.val] Try.func6 rfl rfl (by kernel_rfl) fun zwrap zadd zsub zmul zquo zrem zshl zshr zband zbor zbxor zbandn zeq zne zlt zle znot zbeq zbne zmax zmin znat zinb zofN zidx zneq znadd zdif zcut zroom zmkok zlen znth zsetr zisI zgetI zsetI zfit zpart zext zsetg zrep zwide zall zmok zmget zmset zW zth A L F hS hF => ?_
      have hn : zwrap .u64 (zrem n 2147483647) = n % 2147483647 := by rw [hS.wrap, hS.rem, Int.tmod_eq_emod_of_nonneg h0]; exact wrap_u64 (by omega) (by omega)
      generalize n % 2147483647 = k at *
      generalize redQ p x = u at *
      generalize redQ p y = v at *
      generalize redQ p (x + y) = su at *
      generalize redQ p (x * y) = tu at *
      cbv
      refine ⟨_, hS.call (hsan), ?_⟩
      cbv
      refine bF (hS.not _) ?_
      rw [hn]
      refine ⟨_, hS.call (cn), ?_⟩
      cbv
      refine ⟨_, hS.call (cx), ?_⟩
      cbv
      refine ⟨_, hS.call (cy), ?_⟩
      cbv
      refine ⟨_, hS.call (crx), ?_⟩
      cbv
      refine ⟨_, hS.call (cry), ?_⟩
      cbv
      refine ⟨_, hS.call (cxd), ?_⟩
      cbv
      have e1 : zbne (zeq 0 30) (zeq xd 0) = false := by rw [hS.bne, hS.eq, hS.eq, decide_eq_false hxd]; rfl
      have e2 : zne 0 0 = false := by rw [hS.ne]; rfl
      have e3 : zeq 0 0 = true := by rw [hS.eq]; rfl
      have e4 : zlt u p = true := by rw [hS.lt]; exact decide_eq_true rx.2
      have hz0 : zne p 0 = true := by rw [hS.ne]; exact decide_eq_true (by omega)
      have e5 : zeq su (zrem (zwrap .u64 (zadd u v)) p) = true := by
        rw [hS.eq, hS.rem, hS.wrap, hS.add, wrap_u64 (by omega) (by omega), Int.tmod_eq_emod_of_nonneg (by omega)]; exact decide_eq_true E1
      have e6 : zeq tu (zrem (zwrap .u64 (zmul u v)) p) = true := by
        rw [hS.eq, hS.rem, hS.wrap, hS.mul, wrap_u64 m1.1 m1.2, Int.tmod_eq_emod_of_nonneg m1.1]; exact decide_eq_true E2
      have e7 : zeq (zrem (zwrap .u64 (zmul xd u)) p) xn = true := by
        rw [hS.eq, hS.rem, hS.wrap, hS.mul, wrap_u64 m2.1 m2.2, Int.tmod_eq_emod_of_nonneg m2.1]; exact decide_eq_true E3
      refine bF e1 (bF e2 (bF e2 (bF e2 ?_)))
      refine ⟨_, hS.call (cz), ?_⟩
      cbv
      refine ⟨_, hS.call (crz), ?_⟩
      cbv
      refine ⟨_, hS.call (cw), ?_⟩
      cbv
      refine ⟨_, hS.call (crw), ?_⟩
      cbv
      refine ⟨_, hS.call (cxd), ?_⟩
      cbv
      refine nd hz0 (bT e4 (bT e3 (bT e3 (nd hz0 (bT e5 (nd hz0 (bT e6 ?_)))))))
      refine ⟨_, hS.call (cxn), ?_⟩
      cbv
      exact bT e7 (hF _ (ResLe.refl _))
/-- The three shapes. -/
def rawS : Shape := .struct [.int .i8, .int .i8, .int .u8]

theorem rawS_ok {ts : List Tree} (h : rawS.ok ts) : ∃ a b c : Int, ts = [.v (.int .i8 a), .v (.int .i8 b), .v (.int .u8 c)] ∧ (-128 ≤ a ∧ a < 128) ∧ (-128 ≤ b ∧ b < 128) ∧ (0 ≤ c ∧ c < 256) := by
  obtain ⟨_, _, rfl, ⟨a, rfl, ha⟩, _, _, rfl, ⟨b, rfl, hb⟩, _, _, rfl, ⟨c, rfl, hc⟩, rfl⟩ := h
  exact ⟨a, b, c, rfl, bd_i8 ha, bd_i8 hb, bd_u8 hc⟩

theorem reduces_row (hsan : ACall Try.prog 10 [] ⟨[.val (tb true)], []⟩) (tss : List (List Tree)) (h : okAll [.int .u32, rawS, rawS] tss) :
    ACall Try.prog 6 ((tvs [.int .u32, rawS, rawS] tss).map .val) ⟨[.val (tb true)], [none, none, none]⟩ := by
  obtain ⟨_, _, rfl, ⟨n, rfl, hn⟩, _, _, rfl, hx, _, _, rfl, hy, rfl⟩ := h
  obtain ⟨a, b, c, rfl, ha, hb, hc⟩ := rawS_ok hx
  obtain ⟨a', b', c', rfl, ha', hb', hc'⟩ := rawS_ok hy
  have hn := bd_u32 hn
  exact reduces_call hsan n a b c a' b' c' hn.1 hn.2 ha.1 ha.2 hb.1 hb.2 hc.1 hc.2 ha'.1 ha'.2 hb'.1 hb'.2 hc'.1 hc'.2
end Go.Proofs.Ytgncmjcoojmccaa
end

section
set_option linter.unusedVariables false
set_option linter.unusedSimpArgs false
set_option maxHeartbeats 8000000
set_option linter.unusedVariables false
set_option linter.unusedSimpArgs false
set_option maxRecDepth 100000
namespace Go.Proofs.Ytgncmjcoojmccaa
open Go Go.Abs Go.Abs.M Go.Proofs

/-- A Bool that says a proposition. -/
theorem bool_of (p : Prop) : ∃ b : Bool, b = true ↔ p := by
  rcases Classical.em p with h | h
  · exact ⟨true, fun _ => h, fun _ => rfl⟩
  · exact ⟨false, fun h' => (by cases h'), fun h' => absurd h' h⟩

theorem match_call (hsan : ACall Try.prog 10 [] ⟨[.val (tb true)], []⟩) (n a x y z : Int) (h0 : 0 ≤ n) (h1 : n < 4294967296) (ha : 0 ≤ a) (ha1 : a < 18446744073709551616)
    (x1 : -128 ≤ x) (x2 : x < 128) (y1 : -128 ≤ y) (y2 : y < 128) (z1 : 0 ≤ z) (z2 : z < 256) :
    ACall Try.prog 3 [.val (ti .u32 n), .val (ti .u64 a), .val (.agg [.v (.int .i8 x), .v (.int .i8 y), .v (.int .u8 z)])] ⟨[.val (tb true)], [none, none, none]⟩ := by
  obtain ⟨b, hb⟩ := bool_of (Prm n)
  have cp := pprime_call n b h0 (by omega) (hb.trans pf_iff.symm)
  have cr := prime_call n h0 (by omega) b hb
  obtain ⟨c, c1, c2, hc⟩ := bor31 ha ha1
  have cb := pprime_call c false (by omega) (by omega) ⟨fun h => (nomatch h), fun h => absurd h.2.1 (by omega)⟩
  have ce := pnext_err c (by omega)
  by_cases hn : n < 2147483647
  · obtain ⟨q, q1, q2, q3⟩ := next_ex _ n hn rfl
    have p2 := q2.1
    have p3 := q2.2.1
    have cn := pnext_call n q h0 q1 q2 q3
    have cm := next_call n q h0 q1 q2 q3
    obtain ⟨xs, xr, xt, xq, hx, cx⟩ := rmade2_call x y z x1 x2 y1 y2 z1 z2
    have sx := (madeQ_small x1 x2 y1 y2 z1 z2).mono (show 8 ≤ 68719476736 by omega)
    generalize madeQ x y z = r at *
    obtain ⟨u, s, cu, ct⟩ : ∃ u s, ACall Try.prog 18 [.val (.agg (iT xs xr ++ iT xt xq)), .val (ti .u64 q)] ⟨[.val (ti .u64 u), .val (ti .i64 s)], [none, none]⟩ ∧ ACall Try.prog 19 [.val (.agg (iT xs xr ++ iT xt xq)), .val (ti .u64 q)] ⟨[.val (ti .u64 u), .val (ti .i64 s)], [none, none]⟩ :=
      ⟨_, _, preduce_call q _ _ hx sx p2 (by omega) rfl rfl, rreduce_call q _ _ hx sx p2 (by omega) rfl rfl⟩
    obtain ⟨i, g, ci, cj⟩ : ∃ u s, ACall Try.prog 16 [.val (ti .u64 a), .val (ti .u64 q)] ⟨[.val (ti .u64 u), .val (ti .i64 s)], [none, none]⟩ ∧ ACall Try.prog 17 [.val (ti .u64 a), .val (ti .u64 q)] ⟨[.val (ti .u64 u), .val (ti .i64 s)], [none, none]⟩ :=
      ⟨_, _, inv_call a q p2 (by omega) ha (by omega) _ _ rfl rfl, rinv_call a q _ _ p2 (by omega) ha (by omega) rfl rfl⟩
    obtain ⟨w, cw, cv⟩ : ∃ w, ACall Try.prog 20 [.val (ti .u64 a), .val (ti .u64 n), .val (ti .u64 q)] ⟨[.val (ti .u64 w)], [none, none, none]⟩ ∧ ACall Try.prog 21 [.val (ti .u64 a), .val (ti .u64 n), .val (ti .u64 q)] ⟨[.val (ti .u64 w)], [none, none, none]⟩ :=
      ⟨_, pow_call a n q (by omega) (by omega) ha h0 (by omega), rpow_call a n q (by omega) (by omega) ha h0 (by omega)⟩
    refine callZ ccOk mixed [.val] Try.func3 rfl rfl (by kernel_rfl) fun zwrap zadd zsub zmul zquo zrem zshl zshr zband zbor zbxor zbandn zeq zne zlt zle znot zbeq zbne zmax zmin znat zinb zofN zidx zneq znadd zdif zcut zroom zmkok zlen znth zsetr zisI zgetI zsetI zfit zpart zext zsetg zrep zwide zall zmok zmget zmset zW zth A L F hS hF => ?_
    have v1 : znot true = false := hS.not true
    have w1 : zwrap .u64 n = n := by rw [hS.wrap]; exact wrap_u64 (by omega) (by omega)
    have w2 : zbor .u64 a 2147483648 = c := by rw [hS.bor, ← hc]; rfl
    have e1 : zbne b b = false := by rw [hS.bne]; cases b <;> rfl
    have e2 : zne 1 1 = false := by rw [hS.ne]; rfl
    have e3 : zne q q = false := by rw [hS.ne]; simp
    have e4 : zne 0 0 = false := by rw [hS.ne]; rfl
    have f1 : ∀ v : Int, zeq v v = true := fun v => by rw [hS.eq]; simp
    have f2 := f1 w
    have f3 := f1 i
    have f4 := f1 g
    have f5 := f1 u
    have f6 := f1 s
    clear f1
    cbv
    refine ⟨_, hS.call (hsan), ?_⟩
    cbv
    refine bF (v1) ?_
    rw [w1]
    refine ⟨_, hS.call (cn), ?_⟩
    cbv
    refine ⟨_, hS.call (cm), ?_⟩
    cbv
    rw [w2]
    refine ⟨_, hS.call (ce), ?_⟩
    cbv
    refine ⟨_, hS.call (cp), ?_⟩
    cbv
    refine ⟨_, hS.call (cr), ?_⟩
    cbv
    refine bF (e1) ?_
    rw [w2]
    refine ⟨_, hS.call (cb), ?_⟩
    cbv
    refine bF ((rfl : false = false)) ?_
    refine bF (e2) ?_
    refine bF (e3) ?_
    refine bF (e4) ?_
    refine bF (e4) ?_
    refine ⟨_, hS.call (cx), ?_⟩
    cbv
    refine ⟨_, hS.call (ci), ?_⟩
    cbv
    refine ⟨_, hS.call (cj), ?_⟩
    cbv
    refine ⟨_, hS.call (cu), ?_⟩
    cbv
    refine ⟨_, hS.call (ct), ?_⟩
    cbv
    refine ⟨_, hS.call (cw), ?_⟩
    cbv
    refine ⟨_, hS.call (cv), ?_⟩
    cbv
    refine bT (f2) ?_
    refine bT (f3) ?_
    refine bT (f4) ?_
    refine bT (f5) ?_
    refine bT (f6) ?_
    exact hF _ (ResLe.refl _)
  · have cn := pnext_err n (by omega)
    have cm := next_err n (by omega)
    refine callZ ccOk mixed [.val] Try.func3 rfl rfl (by kernel_rfl) fun zwrap zadd zsub zmul zquo zrem zshl zshr zband zbor zbxor zbandn zeq zne zlt zle znot zbeq zbne zmax zmin znat zinb zofN zidx zneq znadd zdif zcut zroom zmkok zlen znth zsetr zisI zgetI zsetI zfit zpart zext zsetg zrep zwide zall zmok zmget zmset zW zth A L F hS hF => ?_
    have v1 : znot true = false := hS.not true
    have w1 : zwrap .u64 n = n := by rw [hS.wrap]; exact wrap_u64 (by omega) (by omega)
    have w2 : zbor .u64 a 2147483648 = c := by rw [hS.bor, ← hc]; rfl
    have e1 : zbne b b = false := by rw [hS.bne]; cases b <;> rfl
    have e2 : zne 1 1 = false := by rw [hS.ne]; rfl
    have e3 : zne 0 0 = false := by rw [hS.ne]; rfl
    have e4 : zne 1 0 = true := by rw [hS.ne]; rfl
    cbv
    refine ⟨_, hS.call (hsan), ?_⟩
    cbv
    refine bF (v1) ?_
    rw [w1]
    refine ⟨_, hS.call (cn), ?_⟩
    cbv
    refine ⟨_, hS.call (cm), ?_⟩
    cbv
    rw [w2]
    refine ⟨_, hS.call (ce), ?_⟩
    cbv
    refine ⟨_, hS.call (cp), ?_⟩
    cbv
    refine ⟨_, hS.call (cr), ?_⟩
    cbv
    refine bF (e1) ?_
    rw [w2]
    refine ⟨_, hS.call (cb), ?_⟩
    cbv
    refine bF ((rfl : false = false)) ?_
    refine bF (e2) ?_
    refine bF (e3) ?_
    refine bF (e2) ?_
    refine bT (e4) ?_
    exact hF _ (ResLe.refl _)

theorem match_row (hsan : ACall Try.prog 10 [] ⟨[.val (tb true)], []⟩) (tss : List (List Tree)) (h : okAll [.int .u32, .int .u64, rawS] tss) :
    ACall Try.prog 3 ((tvs [.int .u32, .int .u64, rawS] tss).map .val) ⟨[.val (tb true)], [none, none, none]⟩ := by
  obtain ⟨_, _, rfl, ⟨n, rfl, hn⟩, _, _, rfl, ⟨a, rfl, ha⟩, _, _, rfl, hx, rfl⟩ := h
  obtain ⟨x, y, z, rfl, hx, hy, hz⟩ := rawS_ok hx
  have hn := bd_u32 hn
  have ha := bd_u64 ha
  exact match_call hsan n a x y z hn.1 hn.2 ha.1 ha.2 hx.1 hx.2 hy.1 hy.2 hz.1 hz.2
end Go.Proofs.Ytgncmjcoojmccaa
end

section
set_option linter.unusedVariables false
set_option linter.unusedSimpArgs false
set_option maxHeartbeats 4000000
set_option maxRecDepth 100000
set_option linter.unusedVariables false
set_option linter.unusedSimpArgs false
namespace Go.Proofs.Ytgncmjcoojmccaa
open Go Go.Abs Go.Proofs
noncomputable def sm : FuncId → List Abs.Mode := omOf Try.prog []
theorem ex {f : Nat} {args : List Arg} {res : Res} (n : Nat) (h : execCall Try.prog CC sm n f args = some res) : ACall Try.prog f args res := execCall_sound ccOk mixed n f args res h
/-- An integer of one word. -/
def i1 (n : Int) : List Tree := [.v (.bool false), .lst false [[.v (.int .u32 n)]]]
def i0 : List Tree := [.v (.bool false), .lst true []]
theorem s1 : execCall Try.prog CC sm 1000 11 [.val (ti .u64 7)] = some ⟨[.val (ti .u64 11), .val (ti .i64 0)], [none]⟩ := by kernel_rfl
theorem s2 : execCall Try.prog CC sm 1000 16 [.val (ti .u64 3), .val (ti .u64 7)] = some ⟨[.val (ti .u64 5), .val (ti .i64 0)], [none, none]⟩ := by kernel_rfl
theorem o1 : execCall Try.prog CC sm 1000 27 [.val (ti .i64 1)] = some ⟨[.val (.agg (i1 1))], [none]⟩ := by kernel_rfl
theorem o2 : execCall Try.prog CC sm 1000 27 [.val (ti .i64 2)] = some ⟨[.val (.agg (i1 2))], [none]⟩ := by kernel_rfl
theorem o51 : execCall Try.prog CC sm 1000 27 [.val (ti .i64 51)] = some ⟨[.val (.agg (i1 51))], [none]⟩ := by kernel_rfl
theorem o101 : execCall Try.prog CC sm 1000 27 [.val (ti .i64 101)] = some ⟨[.val (.agg (i1 101))], [none]⟩ := by kernel_rfl
theorem o4 : execCall Try.prog CC sm 1000 27 [.val (ti .i64 4)] = some ⟨[.val (.agg (i1 4))], [none]⟩ := by kernel_rfl
theorem o7 : execCall Try.prog CC sm 1000 27 [.val (ti .i64 7)] = some ⟨[.val (.agg (i1 7))], [none]⟩ := by kernel_rfl
theorem o8 : execCall Try.prog CC sm 1000 27 [.val (ti .i64 8)] = some ⟨[.val (.agg (i1 8))], [none]⟩ := by kernel_rfl
theorem o15 : execCall Try.prog CC sm 1000 27 [.val (ti .i64 15)] = some ⟨[.val (.agg (i1 15))], [none]⟩ := by kernel_rfl
theorem r1 : execCall Try.prog CC sm 1000 18 [.val (.agg (i1 1 ++ i1 2)), .val (ti .u64 7)] = some ⟨[.val (ti .u64 4), .val (ti .i64 0)], [none, none]⟩ := by kernel_rfl
theorem c1 : execCall Try.prog CC sm 1000 26 [.val (.c (.lst false [[.v (.int .u64 2)], [.v (.int .u64 3)]])), .val (.c (.lst false [[.v (.int .u64 3)], [.v (.int .u64 5)]]))] = some ⟨[.val (.agg (i1 8)), .val (.agg (i1 15)), .val (ti .i64 0)], [none, none]⟩ := by kernel_rfl
theorem b1 : execCall Try.prog CC sm 1000 33 [.val (.agg (i1 51)), .val (.agg (i1 101))] = some ⟨[.val (.agg (i1 1 ++ i1 2)), .val (tb true)], [none, none]⟩ := by kernel_rfl
theorem b2 : execCall Try.prog CC sm 1000 33 [.val (.agg (i1 4)), .val (.agg (i1 7))] = some ⟨[.val (.agg (i0 ++ i0)), .val (tb false)], [none, none]⟩ := by kernel_rfl
theorem p2 : execCall Try.prog CC sm 1000 13 [.val (ti .u64 2)] = some ⟨[.val (tb true)], [none]⟩ := by kernel_rfl
theorem p9 : execCall Try.prog CC sm 1000 13 [.val (ti .u64 9)] = some ⟨[.val (tb false)], [none]⟩ := by kernel_rfl
theorem e8 : execCall Try.prog CC sm 1000 30 [.val (.agg (i1 8)), .val (.agg (i1 8))] = some ⟨[.val (tb true)], [none, none]⟩ := by kernel_rfl
theorem e15 : execCall Try.prog CC sm 1000 30 [.val (.agg (i1 15)), .val (.agg (i1 15))] = some ⟨[.val (tb true)], [none, none]⟩ := by kernel_rfl
theorem e1 : execCall Try.prog CC sm 1000 30 [.val (.agg (i1 1)), .val (.agg (i1 1))] = some ⟨[.val (tb true)], [none, none]⟩ := by kernel_rfl
theorem e2 : execCall Try.prog CC sm 1000 30 [.val (.agg (i1 2)), .val (.agg (i1 2))] = some ⟨[.val (tb true)], [none, none]⟩ := by kernel_rfl
theorem w1 : execCall Try.prog CC sm 1000 20 [.val (ti .u64 2), .val (ti .u64 10), .val (ti .u64 1000)] = some ⟨[.val (ti .u64 24)], [none, none, none]⟩ := by kernel_rfl
end Go.Proofs.Ytgncmjcoojmccaa
end

section
set_option linter.unusedVariables false
set_option linter.unusedSimpArgs false
set_option linter.unusedVariables false
set_option linter.unusedSimpArgs false
set_option maxHeartbeats 4000000
set_option maxRecDepth 100000
namespace Go.Proofs.Ytgncmjcoojmccaa
open Go Go.Abs Go.Proofs
theorem sanity_call : ACall Try.prog 10 [] ⟨[.val (tb true)], []⟩ := by
  refine callZ ccOk mixed [.val] Try.func10 rfl rfl (by kernel_rfl) fun zwrap zadd zsub zmul zquo zrem zshl zshr zband zbor zbxor zbandn zeq zne zlt zle znot zbeq zbne zmax zmin znat zinb zofN zidx zneq znadd zdif zcut zroom zmkok zlen znth zsetr zisI zgetI zsetI zfit zpart zext zsetg zrep zwide zall zmok zmget zmset zW zth A L F hS hF => ?_
  cbv
  refine ⟨_, hS.call (ex _ s1), ?_⟩
  cbv
  refine ⟨_, hS.call (ex _ s2), ?_⟩
  cbv
  refine ⟨_, hS.call (ex _ o1), ?_⟩
  cbv
  refine ⟨_, hS.call (ex _ o2), ?_⟩
  cbv
  refine ⟨_, hS.call (ex _ r1), ?_⟩
  cbv
  refine nd (hS.fit ..) (nd (hS.fit ..) ?_)
  rw [hS.part, hS.part]
  refine ⟨_, hS.call (ex _ c1), ?_⟩
  cbv
  refine ⟨_, hS.call (ex _ o51), ?_⟩
  cbv
  refine ⟨_, hS.call (ex _ o101), ?_⟩
  cbv
  refine ⟨_, hS.call (ex _ b1), ?_⟩
  cbv
  refine ⟨_, hS.call (ex _ o4), ?_⟩
  cbv
  refine ⟨_, hS.call (ex _ o7), ?_⟩
  cbv
  refine ⟨_, hS.call (ex _ b2), ?_⟩
  cbv
  have z0 : zeq 0 0 = true := by rw [hS.eq]; rfl
  refine bT z0 (bT z0 (bT z0 (bT z0 ?_)))
  refine ⟨_, hS.call (ex _ p2), ?_⟩
  cbv
  refine bT rfl ?_
  refine ⟨_, hS.call (ex _ p9), ?_⟩
  cbv
  refine bT (hS.not _) ?_
  refine bT (by rw [hS.eq]; rfl) (bT (by rw [hS.eq]; rfl) (bT (by rw [hS.eq]; rfl) ?_))
  refine ⟨_, hS.call (ex _ o8), ?_⟩
  cbv
  refine ⟨_, hS.call (ex _ e8), ?_⟩
  cbv
  refine bT rfl ?_
  refine ⟨_, hS.call (ex _ o15), ?_⟩
  cbv
  refine ⟨_, hS.call (ex _ e15), ?_⟩
  cbv
  refine bT rfl (bT rfl ?_)
  refine ⟨_, hS.call (ex _ o1), ?_⟩
  cbv
  refine ⟨_, hS.call (ex _ e1), ?_⟩
  cbv
  refine bT rfl ?_
  refine ⟨_, hS.call (ex _ o2), ?_⟩
  cbv
  refine ⟨_, hS.call (ex _ e2), ?_⟩
  cbv
  refine bT rfl (bT (hS.not _) ?_)
  refine ⟨_, hS.call (ex _ w1), ?_⟩
  cbv
  exact fin1 hF (tv_bool (by rw [hS.eq]; rfl))
end Go.Proofs.Ytgncmjcoojmccaa
end

