/-
  A part of the proof: GabsFrame, LawReduces03, RefO03, RefP03, MBits, RefR03, ProC03, MReb, ProD03, RefS03, LawRebuilds03, JoinM03, LawJoins03, LawJoinsZ03, Sanity03, SanityWalk03.
-/
import Derived.Test.YtgncmjcoojmccaaM11
import Derived.Calls
import Derived.Laws.Cells
import Derived.Below
import Derived.Laws.Small
import Derived.Laws.IdiomCopy
import Derived.Laws.BytesString
import Derived.Laws.Append
import Derived.Laws.Tables
import Derived.Great.BuildSlice
import Derived.IntWalk
import Derived.Orders
import Derived.Laws.BitsLemmas
import Derived.Test.YtgncmjcoojmccaaProg
import Derived.ChangeSame
import Derived.Carry
import Derived.ProofKit
import Derived.WideKeyArgs
import Derived.OpenShut
import Derived.WalkKit

section
set_option linter.unusedVariables false
set_option linter.unusedSimpArgs false
/-
  The abstract layer: a law's arguments, of whatever plain types, read as trees; and read again behind the call.
-/
set_option linter.unusedSimpArgs false
set_option linter.unusedVariables false
namespace Go.Abs
open Go.RowKit Go.WideShapes Go.ChangeShapes Go.ChangeAt

/-- What a type's data look like. -/
inductive Shape where
  | int (k : IntKind)
  | bool
  | slice (s : Shape)
  | struct (l : List Shape)
  | arr (n : Nat) (s : Shape)

mutual
def Shape.size : Shape → Nat
  | .int _ => 1
  | .bool => 1
  | .slice _ => 1
  | .struct l => sizeL l
  | .arr n s => n * s.size
def sizeL : List Shape → Nat
  | [] => 0
  | s :: l => s.size + sizeL l
end

mutual
/-- Does the type look so? -/
def Shape.fits (P : Program) (t : TypeId) : Shape → Bool
  | .int k => match P.underlying t with
    | some (.int k') => decide (k' = k)
    | _ => false
  | .bool => match P.underlying t with
    | some .bool => true
    | _ => false
  | .slice s => match P.underlying t with
    | some (.slice e) => P.cellsOf e == s.size && decide (0 < s.size) && s.fits P e
    | _ => false
  | .struct l => match P.underlying t with
    | some (.struct fs) => P.cellsOf t == sizeL l && fitsL P 0 fs.toList l
    | _ => false
  | .arr n s => match P.underlying t with
    | some (.array m e) => m == n && P.cellsOf t == n * s.size && P.cellsOf e == s.size && s.fits P e
    | _ => false
def fitsL (P : Program) (off : Nat) : List Field → List Shape → Bool
  | [], [] => true
  | f :: fs, s :: l => f.offset == off && P.cellsOf f.type == s.size && s.fits P f.type && fitsL P (off + s.size) fs l
  | _, _ => false
end

/-- A list that comes in n parts. -/
def okN (p : List Tree → Prop) : Nat → List Tree → Prop
  | 0, ts => ts = []
  | n + 1, ts => ∃ a b, ts = a ++ b ∧ p a ∧ okN p n b

mutual
/-- Trees of that look. -/
def Shape.ok : Shape → List Tree → Prop
  | .int k, ts => ∃ n, ts = [.v (.int k n)] ∧ (Lit.int k n).wf = true
  | .bool, ts => ∃ b, ts = [.v (.bool b)]
  | .slice s, ts => ∃ cp rows, ts = [.lst cp rows] ∧ rows.length < 2 ^ 63 ∧ ∀ r ∈ rows, s.ok r
  | .struct l, ts => okL l ts
  | .arr n s, ts => okN s.ok n ts
def okL : List Shape → List Tree → Prop
  | [], ts => ts = []
  | s :: l, ts => ∃ a b, ts = a ++ b ∧ s.ok a ∧ okL l b
end

theorem okN_len {p : List Tree → Prop} {m : Nat} (hp : ∀ ts, p ts → ts.length = m) : ∀ (n : Nat) (ts : List Tree), okN p n ts → ts.length = n * m
  | 0, ts, h => by rw [show ts = [] from h]; simp
  | n + 1, ts, ⟨a, b, h1, h2, h3⟩ => by rw [h1, List.length_append, hp a h2, okN_len hp n b h3, Nat.succ_mul]; omega

mutual
theorem Shape.ok_len : ∀ (s : Shape) (ts : List Tree), s.ok ts → ts.length = s.size
  | .int k, ts, h => by obtain ⟨n, rfl, _⟩ := h; rfl
  | .bool, ts, h => by obtain ⟨n, rfl⟩ := h; rfl
  | .slice s, ts, h => by obtain ⟨_, _, rfl, _⟩ := h; rfl
  | .struct l, ts, h => okL_len l ts h
  | .arr n s, ts, h => okN_len (fun ts h => s.ok_len ts h) n ts h
theorem okL_len : ∀ (l : List Shape) (ts : List Tree), okL l ts → ts.length = sizeL l
  | [], ts, h => by rw [show ts = [] from h]; rfl
  | s :: l, ts, h => by
    obtain ⟨a, b, h1, h2, h3⟩ := h
    rw [h1, List.length_append, s.ok_len a h2, okL_len l b h3]; rfl
end

section
variable {H : Type} {enc : TypeId × Value → H} {P : Program} {w : World} {sp : Nat → Bool} {hd : Bool}

/-- Cell by cell. -/
def TRepL (w : World) (ts : List Tree) (cs : List Value) : Prop := ts.length = cs.length ∧ ∀ (i : Nat) (t : Tree) (v : Value), ts[i]? = some t → cs[i]? = some v → TRep (old w) w t v

theorem TRepL.append {a b : List Tree} {c d : List Value} (h1 : TRepL w a c) (h2 : TRepL w b d) : TRepL w (a ++ b) (c ++ d) := by
  refine ⟨by rw [List.length_append, List.length_append, h1.1, h2.1], fun i t v ht hv => ?_⟩
  rcases Nat.lt_or_ge i a.length with h | h
  · rw [List.getElem?_append_left h] at ht
    rw [List.getElem?_append_left (by rw [← h1.1]; exact h)] at hv
    exact h1.2 i t v ht hv
  · rw [List.getElem?_append_right h] at ht
    rw [List.getElem?_append_right (by rw [← h1.1]; exact h), ← h1.1] at hv
    exact h2.2 _ t v ht hv

theorem TRepL.one {t : Tree} {v : Value} (h : TRep (old w) w t v) : TRepL w [t] [v] := by
  refine ⟨rfl, fun i t' v' ht hv => ?_⟩
  cases i with
  | zero => simp at ht hv; subst ht hv; exact h
  | succ i => simp at ht

def Read (enc : TypeId × Value → H) (P : Program) (w : World) (sp : Nat → Bool) (hd : Bool) (s : Shape) : Prop :=
  ∀ (t : TypeId), s.fits P t = true → ∀ (n : Nat) (cs : List Value) (x : DataW H × List MemPlace), DataW.trod enc P w 0 sp hd n t cs = some x → ∃ ts, s.ok ts ∧ TRepL w ts cs

theorem row_split {cs : List Value} (i m : Nat) : cs.drop i = (cs.drop i).take m ++ cs.drop (i + m) := by
  rw [← List.drop_drop, List.take_append_drop]

theorem fitsL_len : ∀ {l : List Shape} {fs : List Field} {off : Nat}, fitsL P off fs l = true → fs.length = l.length
  | [], [], _, _ => rfl
  | [], _ :: _, _, h => by simp [fitsL] at h
  | _ :: _, [], _, h => by simp [fitsL] at h
  | s :: l, f :: fs, off, h => by
    simp only [fitsL, Bool.and_eq_true] at h
    simp [fitsL_len h.2]

theorem readL : ∀ (l : List Shape), (∀ s ∈ l, Read enc P w sp hd s) → ∀ (fs : List Field) (off : Nat), fitsL P off fs l = true → ∀ (n : Nat) (cs : List Value), cs.length = off + sizeL l →
    (∀ f ∈ fs, ∃ x, DataW.trod enc P w 0 sp hd n f.type ((cs.drop f.offset).take (P.cellsOf f.type)) = some x) → ∃ ts, okL l ts ∧ TRepL w ts (cs.drop off)
  | [], hl, [], off, hf, n, cs, hn, hx => by
    refine ⟨[], rfl, ?_⟩
    rw [List.drop_of_length_le (by rw [hn]; simp [sizeL])]
    exact ⟨rfl, fun i t v h => by simp at h⟩
  | [], hl, f :: fs, off, hf, n, cs, hn, hx => by simp [fitsL] at hf
  | s :: l, hl, [], off, hf, n, cs, hn, hx => by simp [fitsL] at hf
  | s :: l, hl, f :: fs, off, hf, n, cs, hn, hx => by
    simp only [fitsL, Bool.and_eq_true, beq_iff_eq] at hf
    obtain ⟨⟨⟨h1, h2⟩, h3⟩, h4⟩ := hf
    obtain ⟨x, hx1⟩ := hx f (List.mem_cons_self ..)
    rw [h1, h2] at hx1
    obtain ⟨a, ha, hra⟩ := hl s (List.mem_cons_self ..) f.type h3 n _ x hx1
    obtain ⟨b, hb, hrb⟩ := readL l (fun s' hs' => hl s' (List.mem_cons_of_mem _ hs')) fs (off + s.size) h4 n cs (by rw [hn, sizeL]; omega) (fun f' hf' => hx f' (List.mem_cons_of_mem _ hf'))
    refine ⟨a ++ b, ⟨a, b, rfl, ha, hb⟩, ?_⟩
    rw [row_split off s.size]
    exact hra.append hrb

theorem readN {s : Shape} (hs : Read enc P w sp hd s) {e : TypeId} (he : s.fits P e = true) : ∀ (m i : Nat) (n : Nat) (cs : List Value), cs.length = (i + m) * s.size →
    (∀ j, j < m → ∃ x, DataW.trod enc P w 0 sp hd n e ((cs.drop ((i + j) * s.size)).take s.size) = some x) → ∃ ts, okN s.ok m ts ∧ TRepL w ts (cs.drop (i * s.size))
  | 0, i, n, cs, hn, hx => by
    refine ⟨[], rfl, ?_⟩
    rw [List.drop_of_length_le (by rw [hn]; simp)]
    exact ⟨rfl, fun i t v h => by simp at h⟩
  | m + 1, i, n, cs, hn, hx => by
    obtain ⟨x, hx1⟩ := hx 0 (by omega)
    rw [Nat.add_zero] at hx1
    obtain ⟨a, ha, hra⟩ := hs e he n _ x hx1
    obtain ⟨b, hb, hrb⟩ := readN hs he m (i + 1) n cs (by rw [hn]; congr 1; omega) (fun j hj => by
      have := hx (j + 1) (by omega)
      rwa [show i + (j + 1) = i + 1 + j by omega] at this)
    refine ⟨a ++ b, ⟨a, b, rfl, ha, hb⟩, ?_⟩
    rw [row_split (i * s.size) s.size]
    rw [Nat.succ_mul] at hrb
    exact hra.append hrb

theorem add_none (b o n : Nat) : (⟨b, o, none⟩ : Addr).add n = ⟨b, o + n, none⟩ := by
  unfold Addr.add
  split
  · rename_i h; subst h; rfl
  · rfl

theorem wf_one {k : IntKind} {n : Int} : one (.int k n) := by intro l; exact ⟨by simp, by simp⟩

theorem Shape.read : ∀ (s : Shape), Read enc P w sp hd s
  | .int k => fun t hf n cs x hx => by
    have hu : P.underlying t = some (.int k) := by
      unfold Shape.fits at hf
      split at hf
      · rename_i k' h; rw [h, of_decide_eq_true hf]
      · cases hf
    obtain ⟨m, rfl, _, hw⟩ := DataW.trod_int hu hx
    exact ⟨_, ⟨m, rfl, hw⟩, .one (.v _ wf_one)⟩
  | .bool => fun t hf n cs x hx => by
    have hu : P.underlying t = some .bool := by
      unfold Shape.fits at hf
      split at hf
      · rename_i h; exact h
      · cases hf
    obtain ⟨b, rfl, _⟩ := DataW.trod_bool hu hx
    exact ⟨_, ⟨b, rfl⟩, .one (.v _ (by intro l; exact ⟨by simp, by simp⟩))⟩
  | .struct l => fun t hf n cs x hx => by
    unfold Shape.fits at hf
    split at hf
    · rename_i fs hu
      simp only [Bool.and_eq_true, beq_iff_eq] at hf
      obtain ⟨xs, n', rfl, _, hl, hxl, hfs⟩ := DataW.trod_struct hu hx
      obtain ⟨ts, h1, h2⟩ := readL l (fun s hs => Shape.read s) fs.toList 0 hf.2 n' cs (by rw [hl, hf.1]; omega) (fun f hfm => by
        obtain ⟨i, hi, hfi⟩ := List.mem_iff_getElem.1 hfm
        have hi' : i < fs.size := by simpa using hi
        have hg : fs[i]? = some f := by rw [Array.getElem?_eq_getElem hi']; simpa using hfi
        have := hfs i f hg
        have hxi : i < xs.length := by rw [hxl]; exact hi'
        rw [List.getElem?_eq_getElem hxi] at this
        exact ⟨_, this⟩)
      exact ⟨ts, h1, by simpa using h2⟩
    · cases hf
  | .arr m s => fun t hf n cs x hx => by
    unfold Shape.fits at hf
    split at hf
    · rename_i m' e hu
      simp only [Bool.and_eq_true, beq_iff_eq] at hf
      obtain ⟨⟨⟨rfl, h1⟩, h2⟩, h3⟩ := hf
      cases n with
      | zero => simp [DataW.trod] at hx
      | succ n =>
        unfold DataW.trod at hx
        rw [hu] at hx
        simp only at hx
        split at hx
        · rename_i hl
          obtain ⟨xs, hxs, _⟩ := Option.map_eq_some_iff.1 hx
          obtain ⟨ts, h4, h5⟩ := readN (Shape.read s) h3 m' 0 n cs (by rw [hl, h1, Nat.zero_add]) (fun j hj => by
            have := mapM_some_get hxs j j (by simp [hj])
            have hlen := mapM_some_length hxs
            rw [List.length_range] at hlen
            rw [List.getElem?_eq_getElem (by omega)] at this
            rw [h2] at this
            rw [Nat.zero_add]
            exact ⟨_, this⟩)
          exact ⟨ts, h4, by simpa using h5⟩
        · cases hx
    · cases hf
  | .slice s => fun t hf n cs x hx => by
    unfold Shape.fits at hf
    split at hf
    · rename_i e hu
      simp only [Bool.and_eq_true, beq_iff_eq, decide_eq_true_eq] at hf
      obtain ⟨⟨h1, h2⟩, h3⟩ := hf
      rcases DataW.trod_slice hu hx with ⟨rfl, _⟩ | ⟨a, len, cap, elems, rest, n', rfl, rfl, _, _, hlc, hcap, hel, hread, _, _⟩
      · refine ⟨[.lst false []], ⟨false, [], rfl, by simp, by simp⟩, .one (.lst false [] none 0 0 0 0 (fun _ _ => default) (by simp) (by omega) (by simp) (by simp) (by simp) (by simp) (by simp) (fun i j t ht => by simp [at2] at ht) (fun i j t ht => by simp [at2] at ht))⟩
      · have hm : maxLen = 2 ^ 63 - 1 := rfl
        have hrow : ∀ i, i < len → ∃ ts css, s.ok ts ∧ TRepL w ts css ∧ w.cells? 0 (a.add (i * s.size)) s.size = some css := fun i hi => by
          have hr := hread i hi
          rw [List.getElem?_eq_getElem (by omega), h1] at hr
          obtain ⟨css, hc, hx2⟩ := Option.bind_eq_some_iff.1 hr
          obtain ⟨ts, h4, h5⟩ := Shape.read s e h3 _ _ _ hx2
          exact ⟨ts, css, h4, h5, hc⟩
        let f : Nat → List Tree := fun i => if h : i < len then (hrow i h).choose else []
        let g : Nat → List Value := fun i => if h : i < len then (hrow i h).choose_spec.choose else []
        have hfg : ∀ i, i < len → s.ok (f i) ∧ TRepL w (f i) (g i) ∧ w.cells? 0 (a.add (i * s.size)) s.size = some (g i) := fun i hi => by
          have hfi : f i = (hrow i hi).choose := dif_pos hi
          have hgi : g i = (hrow i hi).choose_spec.choose := dif_pos hi
          rw [hfi, hgi]
          exact (hrow i hi).choose_spec.choose_spec
        have hspot : 0 < len → a = ⟨a.block, a.off, none⟩ ∧ a.block < w.heap.size := fun h0 => by
          obtain ⟨hok, hrep, hc⟩ := hfg 0 h0
          obtain ⟨_, hl, hce⟩ := World.cells?_some hc
          have := hce 0 h2
          rw [List.getElem?_eq_getElem (by omega)] at this
          have ha : (a.add (0 * s.size)).add 0 = a := by simp [Addr.add]
          rw [ha] at this
          refine ⟨?_, ?_⟩
          · unfold World.cell? at this
            split at this
            · split at this
              · cases this
              · rename_i hs
                obtain ⟨b, o, sp'⟩ := a
                cases sp' with
                | none => rfl
                | some _ => simp at hs
            · cases this
          · have := World.cells?_block hc h2
            simpa [Addr.add] using this
        have hrows : ∀ i, (((List.range len).map f)[i]?) = if i < len then some (f i) else none := fun i => by
          rw [List.getElem?_map]
          by_cases h : i < len
          · rw [if_pos h, List.getElem?_range h]; rfl
          · rw [if_neg h, List.getElem?_eq_none (by simpa using h)]; rfl
        have hat : ∀ i j t, at2 ((List.range len).map f) i j = some t → i < len ∧ (f i)[j]? = some t := fun i j t ht => by
          unfold at2 at ht
          rw [hrows] at ht
          by_cases h : i < len
          · rw [if_pos h] at ht; exact ⟨h, ht⟩
          · rw [if_neg h] at ht; cases ht
        have hcell : ∀ i j t, at2 ((List.range len).map f) i j = some t → ∃ v, (g i)[j]? = some v ∧ w.cell? ⟨a.block, a.off + i * s.size + j, none⟩ = some v ∧ TRep (old w) w t v ∧ a.block < w.heap.size := fun i j t ht => by
          obtain ⟨hi, hj⟩ := hat i j t ht
          obtain ⟨hok, hrep, hc⟩ := hfg i hi
          obtain ⟨_, hl, hce⟩ := World.cells?_some hc
          have hjl : j < s.size := by
            have := (List.getElem?_eq_some_iff.1 hj).1
            rw [s.ok_len _ hok] at this; exact this
          have hv := hce j hjl
          obtain ⟨hs1, hs2⟩ := hspot (by omega)
          refine ⟨(g i)[j]'(by omega), List.getElem?_eq_getElem (by omega), ?_, hrep.2 j t _ hj (List.getElem?_eq_getElem (by omega)), hs2⟩
          rw [List.getElem?_eq_getElem (by omega)] at hv
          rw [← hv]
          rw [hs1, add_none, add_none]
        refine ⟨[.lst false ((List.range len).map f)], ⟨false, _, rfl, by rw [List.length_map, List.length_range]; omega, fun r hr => ?_⟩, ?_⟩
        · obtain ⟨i, hi, rfl⟩ := List.mem_map.1 hr
          exact (hfg i (List.mem_range.1 hi)).1
        · refine .one ?_
          have hl : ((List.range len).map f).length = len := by rw [List.length_map, List.length_range]
          have := TRep.lst (S := old w) (w := w) false ((List.range len).map f) (some a) a.block a.off s.size cap (fun i j => ((g i)[j]?).getD default) (by rw [hl]; exact hlc) (by omega) (by rw [hl]; omega) (by simp)
            (fun hne => by rw [(hspot (by rcases Nat.eq_zero_or_pos len with h | h; · subst h; simp at hne
                                          · exact h)).1]) (by simp)
            (fun r hr => by obtain ⟨i, hi, rfl⟩ := List.mem_map.1 hr; exact s.ok_len _ (hfg i (List.mem_range.1 hi)).1)
            (fun i j t ht => by obtain ⟨v, h4, h5, h6, h7⟩ := hcell i j t ht; exact ⟨h7, by rw [h5, h4]; rfl⟩)
            (fun i j t ht => by obtain ⟨v, h4, h5, h6, h7⟩ := hcell i j t ht; rw [h4]; exact h6)
          rw [hl] at this
          exact this
    · cases hf
termination_by s => SizeOf.sizeOf s

/-- An argument as an abstract one. -/
def Shape.tv (s : Shape) (ts : List Tree) : TV :=
  match s, ts with
  | .struct _, ts => .agg ts
  | .arr _ _, ts => .agg ts
  | _, [t] => .c t
  | _, ts => .agg ts

def isAggT (P : Program) (t : TypeId) : Bool := match P.underlying t with
  | some (.struct _) | some (.array _ _) => true
  | _ => false

theorem Shape.rep {s : Shape} {t : TypeId} (hf : s.fits P t = true) {v : Value} (hok : Value.okWide P w .any 0 t v) {ts : List Tree} (hs : s.ok ts) (h : TRepL w ts v.cells.toList) : VRep noβ (old w) w (s.tv ts).av v := by
  have agg : ∀ (cs : Array Value), v = .agg cs → VRep noβ (old w) w (TV.agg ts).av v := fun cs hv => by
    subst hv
    have : Array.mk cs.toList = cs := rfl
    rw [show TV.av (.agg ts) = AV.agg (ts.map .t) from rfl, ← this]
    refine .agg cs.toList (by rw [List.length_map]; exact h.1.symm) fun i c hc => ?_
    rw [List.getElem?_map] at hc
    obtain ⟨t', ht, rfl⟩ := Option.map_eq_some_iff.1 hc
    have hi := (List.getElem?_eq_some_iff.1 ht).1
    have hi2 : i < cs.toList.length := by have := h.1; simp only [Value.cells] at this; omega
    exact ⟨_, List.getElem?_eq_getElem hi2, .t (h.2 i t' _ ht (List.getElem?_eq_getElem hi2))⟩
  have scal : isAggT P t = false → ts.length = 1 → VRep noβ (old w) w (match ts with | [t] => TV.c t | ts => .agg ts).av v := fun hna hl => by
    match ts, hl, h with
    | [t'], _, h =>
      have hc : v.cells = #[v] := by
        cases v with
        | agg cs =>
          unfold Value.okWide at hok
          unfold isAggT at hna
          split at hok
          · rename_i h1; rw [h1] at hna; cases hna
          · rename_i h1; rw [h1] at hna; cases hna
          · unfold Cell.okWide at hok
            split at hok <;> first | (rename_i h1 h2; cases h2; done) | skip
            all_goals first | (unfold Cell.ok at hok; split at hok <;> first | (rename_i h1 h2; cases h2; done) | exact hok.elim) | skip
        | _ => rfl
      have := h.2 0 t' v rfl (by rw [hc]; rfl)
      exact .c (.t this)
  cases s with
  | int k =>
    have hu : P.underlying t = some (.int k) := by
      unfold Shape.fits at hf
      split at hf
      · rename_i k' h; rw [h, of_decide_eq_true hf]
      · cases hf
    obtain ⟨m, rfl, _⟩ := hs
    exact scal (by unfold isAggT; rw [hu]) rfl
  | bool =>
    have hu : P.underlying t = some .bool := by
      unfold Shape.fits at hf
      split at hf
      · rename_i h; exact h
      · cases hf
    obtain ⟨m, rfl⟩ := hs
    exact scal (by unfold isAggT; rw [hu]) rfl
  | slice s =>
    unfold Shape.fits at hf
    split at hf
    · rename_i e hu
      obtain ⟨_, _, rfl, _⟩ := hs
      exact scal (by unfold isAggT; rw [hu]) rfl
    · cases hf
  | struct l =>
    unfold Shape.fits at hf
    split at hf
    · rename_i fs hu
      unfold Value.okWide at hok
      rw [hu] at hok
      obtain ⟨cs, hv, _⟩ := hok
      exact agg cs hv
    · cases hf
  | arr n s =>
    unfold Shape.fits at hf
    split at hf
    · rename_i m e hu
      unfold Value.okWide at hok
      rw [hu] at hok
      obtain ⟨cs, hv, _⟩ := hok
      exact agg cs hv
    · cases hf

/-- The arguments, one after the other. -/
def okAll : List Shape → List (List Tree) → Prop
  | [], l => l = []
  | s :: ss, l => ∃ ts r, l = ts :: r ∧ s.ok ts ∧ okAll ss r

def tvs : List Shape → List (List Tree) → List TV
  | s :: ss, ts :: r => s.tv ts :: tvs ss r
  | _, _ => []

def fitsAll (P : Program) : List TypeId → List Shape → Bool
  | [], [] => true
  | t :: ts, s :: ss => s.fits P t && decide (t < P.types.size) && P.readableRec t && fitsAll P ts ss
  | _, _ => false

theorem args_read : ∀ {tys : List TypeId} {shs : List Shape} {vs : List Value} {ds : List (DataW H)} {ps : List MemPlace}, DataW.TrodAll enc P w 0 sp true tys vs ds ps → fitsAll P tys shs = true →
    (∀ (j : Nat) t v, tys[j]? = some t → vs[j]? = some v → Value.okWide P w .any 0 t v) →
    ∃ tss, okAll shs tss ∧ vs.length = (tvs shs tss).length ∧ ds.length = shs.length ∧ ∀ (i : Nat) (x : TV), (tvs shs tss)[i]? = some x → ∃ v, vs[i]? = some v ∧ VRep noβ (old w) w x.av v
  | [], [], [], [], ps, h, hf, hv => ⟨[], rfl, rfl, rfl, fun i x hx => by simp [tvs] at hx⟩
  | t :: ts, s :: ss, v :: vs, d :: ds, ps, h, hf, hv => by
    obtain ⟨p, q, ⟨n, h1⟩, h2, _⟩ := h
    simp only [fitsAll, Bool.and_eq_true] at hf
    obtain ⟨⟨⟨f1, f2⟩, f3⟩, f4⟩ := hf
    obtain ⟨tss, g1, g2, g3, g4⟩ := args_read h2 f4 (fun j t v ht hx => hv (j + 1) t v (by simpa using ht) (by simpa using hx))
    obtain ⟨tr, k1, k2⟩ := s.read t f1 n _ _ h1
    refine ⟨tr :: tss, ⟨tr, tss, rfl, k1, g1⟩, by simp [tvs, g2], by simp [g3], fun i x hx => ?_⟩
    cases i with
    | zero =>
      simp only [tvs, List.getElem?_cons_zero, Option.some.injEq] at hx
      subst hx
      exact ⟨v, rfl, Shape.rep f1 (hv 0 t v rfl rfl) k1 k2⟩
    | succ i => simp only [tvs, List.getElem?_cons_succ] at hx ⊢; exact g4 i x hx
  | [], _ :: _, _, _, _, _, hf, _ => by simp [fitsAll] at hf
  | _ :: _, [], _, _, _, _, hf, _ => by simp [fitsAll] at hf
  | [], [], _ :: _, _, _, h, _, _ => by simp [DataW.TrodAll] at h
  | [], [], [], _ :: _, _, h, _, _ => by simp [DataW.TrodAll] at h
  | _ :: _, _ :: _, [], _, _, h, _, _ => by simp [DataW.TrodAll] at h
  | _ :: _, _ :: _, _ :: _, [], _, h, _, _ => by simp [DataW.TrodAll] at h

theorem args_stay (hl : laidOutB P = true) {W W' : World} {sp' : Nat → Bool} (hb : Below W.heap.size W W') : ∀ {tys : List TypeId} {shs : List Shape} {vs : List Value} {ds : List (DataW H)} {ps : List MemPlace}, DataW.TrodAll enc P W 0 (fun _ => true) true tys vs ds ps → fitsAll P tys shs = true →
    (∀ p ∈ ps, p.block < W.heap.size) → (∀ p ∈ ps, sp' p.block = true) → DataW.TrodAll enc P W' 0 sp' true tys vs ds ps
  | [], [], [], [], ps, h, hf, h1, h2 => h
  | t :: ts, s :: ss, v :: vs, d :: ds, ps, h, hf, h1, h2 => by
    obtain ⟨p, q, k1, k2, rfl⟩ := h
    simp only [fitsAll, Bool.and_eq_true, decide_eq_true_eq] at hf
    obtain ⟨⟨⟨f1, f2⟩, f3⟩, f4⟩ := hf
    exact ⟨p, q, Go.WideElems.Trod_stays hl f3 f2 k1 (fun x hx => hb.same (h1 x (List.mem_append_left _ hx))) (fun x hx => h2 x (List.mem_append_left _ hx)),
      args_stay hl hb k2 f4 (fun x hx => h1 x (List.mem_append_right _ hx)) (fun x hx => h2 x (List.mem_append_right _ hx)), rfl⟩
  | [], _ :: _, _, _, _, _, hf, _, _ => by simp [fitsAll] at hf
  | _ :: _, [], _, _, _, _, hf, _, _ => by simp [fitsAll] at hf
  | [], [], _ :: _, _, _, h, _, _, _ => by simp [DataW.TrodAll] at h
  | [], [], [], _ :: _, _, h, _, _, _ => by simp [DataW.TrodAll] at h
  | _ :: _, _ :: _, [], _, _, h, _, _, _ => by simp [DataW.TrodAll] at h
  | _ :: _, _ :: _, _ :: _, [], _, h, _, _, _ => by simp [DataW.TrodAll] at h

/-- A law's contract, for whatever arguments of that look: the call, as the given statements ask for it. -/
theorem law_row {f : FuncId} {fn : Func} {spec : ChangeSpec} {shs : List Shape} {outs : List (Option Blk)} (hl : laidOutB P = true) (hf : fitsAll P fn.params.toList shs = true) (hvars : spec.vars = []) {tb0 : TypeId} (hres : fn.resultTypes = #[tb0]) (hb4 : P.underlying tb0 = some .bool)
    {apart fresh handsOn again : Bool} (hfn : ∀ ds : List (DataW H), ds.length = shs.length → (spec.fn H ds).args = ds ∧ (spec.fn H ds).results = [.lit (.bool true)] ∧ (spec.fn H ds).vars = [])
    (hc : ∀ tss, okAll shs tss → ACall P f ((tvs shs tss).map .val) ⟨[.val (tb true)], outs⟩)
    {W : World} {args : Array Value} {ds gs : List (DataW H)} {before : List MemPlace} (hval : ∀ (j : Nat) t v, fn.params[j]? = some t → args[j]? = some v → Value.okWide P W .any 0 t v)
    (hW : DataW.Whole enc P fn.params.toList spec.vars apart W args.toList ds gs before) :
    Calls P f args W fun e W' => ∃ v, e = .returned v ∧ spec.post enc P fn apart fresh handsOn again W args v W' := by
  have hW' := hW
  obtain ⟨p, q, hA, hV, rfl, hfz, hnd⟩ := hW
  rw [hvars] at hV
  have hgq : gs = [] ∧ q = [] := by
    cases gs with
    | nil => exact ⟨rfl, hV⟩
    | cons g gs => exact hV.elim
  obtain ⟨rfl, rfl⟩ := hgq
  obtain ⟨tss, hok, hlen, hdl, hrep⟩ := args_read hA hf (fun j t v ht hv => hval j t v (by simpa using ht) (by simpa using hv))
  have h := law_calls (hc tss hok) W args.toList hlen hrep
  have hargs : args.toList.toArray = args := rfl
  rw [hargs] at h
  obtain ⟨e1, e2, e3⟩ := hfn ds hdl
  have hbefore : ∀ x ∈ p, x.block < W.heap.size := fun x hx => hW'.lt x (List.mem_append_left _ hx)
  refine h.mono fun e W' ⟨he, hg⟩ => ?_
  subst he
  refine ⟨_, rfl, post_of_below (pa := p) (pv := []) hW' (fun b sp hd => ?_) (fun sp hs => ?_) (fun sp hs => ?_) rfl hg ?_⟩
  · rw [List.append_nil, e2, hres]
    exact trodAll_cons_mk (shut_bool hb4 _) trodAll_mk0
  · rw [List.append_nil, e1]
    exact args_stay hl hg hA hf hbefore (fun x hx => hs x (List.mem_append_left _ hx))
  · rw [List.append_nil, e3, hvars]; rfl
  · exact ok_one hres rfl (okWide_bool_mk hb4 _)

end
end Go.Abs
end

section
set_option linter.unusedVariables false
set_option linter.unusedSimpArgs false
set_option maxHeartbeats 8000000
set_option linter.unusedVariables false
set_option linter.unusedSimpArgs false
set_option maxRecDepth 100000
namespace Go.Proofs.Ytgncmjcoojmccaa
open Go Go.Abs Go.Abs.M Go.Proofs

theorem divInt_small {n d : Int} {k : Nat} (hd : d ≠ 0) (h1 : nl n.natAbs ≤ k) (h2 : nl d.natAbs ≤ k) : Qs (Rat.divInt n d) k := by
  constructor
  · rw [← lowest_num hd]
    have := nl_mono (Int.natAbs_ediv_le_natAbs n (if d < 0 then -(Int.gcd n d : Int) else (Int.gcd n d : Int)))
    omega
  · have e := lowest_den (n := n) hd
    have := nl_mono (Int.natAbs_ediv_le_natAbs d (if d < 0 then -(Int.gcd n d : Int) else (Int.gcd n d : Int)))
    rw [e, Int.natAbs_natCast] at this
    omega

theorem madeQ_small {n d k : Int} (n1 : -128 ≤ n) (n2 : n < 128) (d1 : -128 ≤ d) (d2 : d < 128) (k1 : 0 ≤ k) (k2 : k < 256) : Qs (madeQ n d k) 8 := by
  obtain ⟨h1, h2, h3⟩ := made_nd n1 n2 d1 d2 k1 k2
  exact divInt_small h3 h1 h2

theorem Qs.mono {x : Rat} {a b : Nat} (h : Qs x a) (hab : a ≤ b) : Qs x b := ⟨Nat.le_trans h.1 hab, Nat.le_trans h.2 hab⟩

theorem add_small {x y : Rat} {a b : Nat} (hx : Qs x a) (hy : Qs y b) : Qs (x + y) (a + b + 1) := by
  obtain ⟨x1, x2⟩ := hx
  obtain ⟨y1, y2⟩ := hy
  have hx0 := x.den_nz
  have hy0 := y.den_nz
  have h : x + y = Rat.divInt (x.num * y.den + y.num * x.den) (x.den * y.den) := by
    rw [← Rat.divInt_add_divInt _ _ (by omega) (by omega), Rat.num_divInt_den, Rat.num_divInt_den]
  rw [h]
  have n1 := nl_mul x.num.natAbs y.den
  have n2 := nl_mul y.num.natAbs x.den
  have n3 := nl_mul x.den y.den
  refine divInt_small (Int.mul_ne_zero (by omega) (by omega)) ?_ ?_
  · have h1 := nl_mono (Int.natAbs_add_le (x.num * y.den) (y.num * x.den))
    have h2 := nl_add (x.num * y.den).natAbs (y.num * x.den).natAbs
    rw [Int.natAbs_mul, Int.natAbs_mul, Int.natAbs_natCast, Int.natAbs_natCast] at h2
    rw [Int.natAbs_mul, Int.natAbs_mul, Int.natAbs_natCast, Int.natAbs_natCast] at h1
    omega
  · rw [Int.natAbs_mul, Int.natAbs_natCast, Int.natAbs_natCast]; omega

theorem mul_small {x y : Rat} {a b : Nat} (hx : Qs x a) (hy : Qs y b) : Qs (x * y) (a + b) := by
  obtain ⟨x1, x2⟩ := hx
  obtain ⟨y1, y2⟩ := hy
  have hx0 := x.den_nz
  have hy0 := y.den_nz
  have h : x * y = Rat.divInt (x.num * y.num) (x.den * y.den) := by
    rw [← Rat.divInt_mul_divInt, Rat.num_divInt_den, Rat.num_divInt_den]
  rw [h]
  have n1 := nl_mul x.num.natAbs y.num.natAbs
  have n3 := nl_mul x.den y.den
  refine divInt_small (Int.mul_ne_zero (by omega) (by omega)) ?_ ?_
  · rw [Int.natAbs_mul]; omega
  · rw [Int.natAbs_mul, Int.natAbs_natCast, Int.natAbs_natCast]; omega

theorem reduces_call (hsan : ACall Try.prog 10 [] ⟨[.val (tb true)], []⟩) (n a b c a' b' c' : Int) (h0 : 0 ≤ n) (h1 : n < 2 ^ 32)
    (a1 : -128 ≤ a) (a2 : a < 128) (b1 : -128 ≤ b) (b2 : b < 128) (c1 : 0 ≤ c) (c2 : c < 256) (a1' : -128 ≤ a') (a2' : a' < 128) (b1' : -128 ≤ b') (b2' : b' < 128) (c1' : 0 ≤ c') (c2' : c' < 256) :
    ACall Try.prog 6 [.val (ti .u32 n), .val (.agg [.v (.int .i8 a), .v (.int .i8 b), .v (.int .u8 c)]), .val (.agg [.v (.int .i8 a'), .v (.int .i8 b'), .v (.int .u8 c')])] ⟨[.val (tb true)], [none, none, none]⟩ := by
  obtain ⟨p, hp1, hp2, hp3⟩ := next_ex _ (n % 2147483647) (by omega) rfl
  have cn := next_call (n % 2147483647) p (by omega) hp1 hp2 hp3
  have p2 := hp2.1
  have p3 := hp2.2.1
  obtain ⟨xs, xr, xt, xq, hx, cx⟩ := rmade2_call a b c a1 a2 b1 b2 c1 c2
  obtain ⟨ys, yr, yt, yq, hy, cy⟩ := rmade2_call a' b' c' a1' a2' b1' b2' c1' c2'
  have sx := madeQ_small a1 a2 b1 b2 c1 c2
  have sy := madeQ_small a1' a2' b1' b2' c1' c2'
  generalize madeQ a b c = x at *
  generalize madeQ a' b' c' = y at *
  have sx' := sx.mono (show 8 ≤ 68719476736 by omega)
  have sy' := sy.mono (show 8 ≤ 68719476736 by omega)
  obtain ⟨zs, zr, zt, zq, hz, cz⟩ := qadd_call hx hy sx' sy'
  obtain ⟨ws, wr, wt, wq, hw, cw⟩ := qmul_call hx hy sx' sy'
  have sz := (add_small sx sy).mono (show 8 + 8 + 1 ≤ 68719476736 by omega)
  have sw := (mul_small sx sy).mono (show 8 + 8 ≤ 68719476736 by omega)
  have cxd := rresidue_call (p := p) hx.d (by rw [Int.natAbs_natCast]; have := sx.2; omega) (by omega) (by omega) rfl
  have cxn := rresidue_call (p := p) hx.n (by have := sx.1; omega) (by omega) (by omega) rfl
  by_cases hxd : (x.den : Int) % p = 0
  · have crx := preduce_call p 0 30 hx sx' p2 (by omega) (by rw [if_pos hxd]) (by rw [if_pos hxd])
    obtain ⟨v, f, cry⟩ : ∃ v f, ACall Try.prog 18 [.val (.agg (iT ys yr ++ iT yt yq)), .val (ti .u64 p)] ⟨[.val (ti .u64 v), .val (ti .i64 f)], [none, none]⟩ := ⟨_, _, preduce_call p _ _ hy sy' p2 (by omega) rfl rfl⟩
    rw [hxd] at cxd
    refine callZ ccOk mixed [.val] Try.func6 rfl rfl (by kernel_rfl) fun zwrap zadd zsub zmul zquo zrem zshl zshr zband zbor zbxor zbandn zeq zne zlt zle znot zbeq zbne zmax zmin znat zinb zofN zidx zneq znadd zdif zcut zroom zmkok zlen znth zsetr zisI zgetI zsetI zfit zpart zext zsetg zrep zwide zall zmok zmget zmset zW zth A L F hS hF => ?_
    have hn : zwrap .u64 (zrem n 2147483647) = n % 2147483647 := by rw [hS.wrap, hS.rem, Int.tmod_eq_emod_of_nonneg h0]; exact wrap_u64 (by omega) (by omega)
    generalize n % 2147483647 = k at *
    cbv
    refine ⟨_, hS.call (hsan), ?_⟩
    cbv
    refine bF (hS.not _) ?_
    rw [hn]
    refine ⟨_, hS.call (cn), ?_⟩
    cbv
    refine ⟨_, hS.call (cx), ?_⟩
    cbv
    refine ⟨_, hS.call (cy), ?_⟩
    cbv
    refine ⟨_, hS.call (crx), ?_⟩
    cbv
    refine ⟨_, hS.call (cry), ?_⟩
    cbv
    refine ⟨_, hS.call (cxd), ?_⟩
    cbv
    have e1 : zbne (zeq 30 30) (zeq 0 0) = false := by rw [hS.bne, hS.eq, hS.eq]; rfl
    have e2 : zne 30 0 = true := by rw [hS.ne]; rfl
    have e3 : zne 30 30 = false := by rw [hS.ne]; rfl
    have e4 : zne 0 0 = false := by rw [hS.ne]; rfl
    exact bF e1 (bT e2 (bF e3 (bF e4 (bT e2 (hF _ (ResLe.refl _))))))
  · have crx := preduce_call p (redQ p x) 0 hx sx' p2 (by omega) (by rw [if_neg hxd]) (by rw [if_neg hxd])
    have rx := redQ_range (show 0 < p by omega) x
    by_cases hyd : (y.den : Int) % p = 0
    · have cry := preduce_call p 0 30 hy sy' p2 (by omega) (by rw [if_pos hyd]) (by rw [if_pos hyd])
      generalize (x.den : Int) % p = xd at *
      refine callZ ccOk mixed [.val] Try.func6 rfl rfl (by kernel_rfl) fun zwrap zadd zsub zmul zquo zrem zshl zshr zband zbor zbxor zbandn zeq zne zlt zle znot zbeq zbne zmax zmin znat zinb zofN zidx zneq znadd zdif zcut zroom zmkok zlen znth zsetr zisI zgetI zsetI zfit zpart zext zsetg zrep zwide zall zmok zmget zmset zW zth A L F hS hF => ?_
      have hn : zwrap .u64 (zrem n 2147483647) = n % 2147483647 := by rw [hS.wrap, hS.rem, Int.tmod_eq_emod_of_nonneg h0]; exact wrap_u64 (by omega) (by omega)
      generalize n % 2147483647 = k at *
      generalize redQ p x = u at *
      cbv
      refine ⟨_, hS.call (hsan), ?_⟩
      cbv
      refine bF (hS.not _) ?_
      rw [hn]
      refine ⟨_, hS.call (cn), ?_⟩
      cbv
      refine ⟨_, hS.call (cx), ?_⟩
      cbv
      refine ⟨_, hS.call (cy), ?_⟩
      cbv
      refine ⟨_, hS.call (crx), ?_⟩
      cbv
      refine ⟨_, hS.call (cry), ?_⟩
      cbv
      refine ⟨_, hS.call (cxd), ?_⟩
      cbv
      have e1 : zbne (zeq 0 30) (zeq xd 0) = false := by rw [hS.bne, hS.eq, hS.eq, decide_eq_false hxd]; rfl
      have e2 : zne 0 0 = false := by rw [hS.ne]; rfl
      have e3 : zne 30 0 = true := by rw [hS.ne]; rfl
      exact bF e1 (bF e2 (bF e2 (bT e3 (hF _ (ResLe.refl _)))))
    · have cry := preduce_call p (redQ p y) 0 hy sy' p2 (by omega) (by rw [if_neg hyd]) (by rw [if_neg hyd])
      have ry := redQ_range (show 0 < p by omega) y
      have hzd := den_add_ok hp2 hxd hyd
      have hwd := den_mul_ok hp2 hxd hyd
      have crz := preduce_call p (redQ p (x + y)) 0 hz sz p2 (by omega) (by rw [if_neg hzd]) (by rw [if_neg hzd])
      have crw := preduce_call p (redQ p (x * y)) 0 hw sw p2 (by omega) (by rw [if_neg hwd]) (by rw [if_neg hwd])
      have E1 := redQ_add hp2 hxd hyd
      have E2 := redQ_prod hp2 hxd hyd
      have E3 := redQ_back hp2 hxd
      have bd := And.intro (Int.emod_nonneg (x.den : Int) (show p ≠ 0 by omega)) (Int.emod_lt_of_pos (x.den : Int) (show 0 < p by omega))
      have m1 := mul_lt rx.1 rx.2 ry.1 ry.2 (by omega)
      have m2 := mul_lt bd.1 bd.2 rx.1 rx.2 (by omega)
      generalize (x.den : Int) % p = xd at *
      generalize x.num % p = xn at *
      refine callZ ccOk mixed [.val] Try.func6 rfl rfl (by kernel_rfl) fun zwrap zadd zsub zmul zquo zrem zshl zshr zband zbor zbxor zbandn zeq zne zlt zle znot zbeq zbne zmax zmin znat zinb zofN zidx zneq znadd zdif zcut zroom zmkok zlen znth zsetr zisI zgetI zsetI zfit zpart zext zsetg zrep zwide zall zmok zmget zmset zW zth A L F hS hF => ?_
      have hn : zwrap .u64 (zrem n 2147483647) = n % 2147483647 := by rw [hS.wrap, hS.rem, Int.tmod_eq_emod_of_nonneg h0]; exact wrap_u64 (by omega) (by omega)
      generalize n % 2147483647 = k at *
      generalize redQ p x = u at *
      generalize redQ p y = v at *
      generalize redQ p (x + y) = su at *
      generalize redQ p (x * y) = tu at *
      cbv
      refine ⟨_, hS.call (hsan), ?_⟩
      cbv
      refine bF (hS.not _) ?_
      rw [hn]
      refine ⟨_, hS.call (cn), ?_⟩
      cbv
      refine ⟨_, hS.call (cx), ?_⟩
      cbv
      refine ⟨_, hS.call (cy), ?_⟩
      cbv
      refine ⟨_, hS.call (crx), ?_⟩
      cbv
      refine ⟨_, hS.call (cry), ?_⟩
      cbv
      refine ⟨_, hS.call (cxd), ?_⟩
      cbv
      have e1 : zbne (zeq 0 30) (zeq xd 0) = false := by rw [hS.bne, hS.eq, hS.eq, decide_eq_false hxd]; rfl
      have e2 : zne 0 0 = false := by rw [hS.ne]; rfl
      have e3 : zeq 0 0 = true := by rw [hS.eq]; rfl
      have e4 : zlt u p = true := by rw [hS.lt]; exact decide_eq_true rx.2
      have hz0 : zne p 0 = true := by rw [hS.ne]; exact decide_eq_true (by omega)
      have e5 : zeq su (zrem (zwrap .u64 (zadd u v)) p) = true := by
        rw [hS.eq, hS.rem, hS.wrap, hS.add, wrap_u64 (by omega) (by omega), Int.tmod_eq_emod_of_nonneg (by omega)]; exact decide_eq_true E1
      have e6 : zeq tu (zrem (zwrap .u64 (zmul u v)) p) = true := by
        rw [hS.eq, hS.rem, hS.wrap, hS.mul, wrap_u64 m1.1 m1.2, Int.tmod_eq_emod_of_nonneg m1.1]; exact decide_eq_true E2
      have e7 : zeq (zrem (zwrap .u64 (zmul xd u)) p) xn = true := by
        rw [hS.eq, hS.rem, hS.wrap, hS.mul, wrap_u64 m2.1 m2.2, Int.tmod_eq_emod_of_nonneg m2.1]; exact decide_eq_true E3
      refine bF e1 (bF e2 (bF e2 (bF e2 ?_)))
      refine ⟨_, hS.call (cz), ?_⟩
      cbv
      refine ⟨_, hS.call (crz), ?_⟩
      cbv
      refine ⟨_, hS.call (cw), ?_⟩
      cbv
      refine ⟨_, hS.call (crw), ?_⟩
      cbv
      refine ⟨_, hS.call (cxd), ?_⟩
      cbv
      refine nd hz0 (bT e4 (bT e3 (bT e3 (nd hz0 (bT e5 (nd hz0 (bT e6 ?_)))))))
      refine ⟨_, hS.call (cxn), ?_⟩
      cbv
      exact bT e7 (hF _ (ResLe.refl _))
/-- The three shapes. -/
def rawS : Shape := .struct [.int .i8, .int .i8, .int .u8]

theorem rawS_ok {ts : List Tree} (h : rawS.ok ts) : ∃ a b c : Int, ts = [.v (.int .i8 a), .v (.int .i8 b), .v (.int .u8 c)] ∧ (-128 ≤ a ∧ a < 128) ∧ (-128 ≤ b ∧ b < 128) ∧ (0 ≤ c ∧ c < 256) := by
  obtain ⟨_, _, rfl, ⟨a, rfl, ha⟩, _, _, rfl, ⟨b, rfl, hb⟩, _, _, rfl, ⟨c, rfl, hc⟩, rfl⟩ := h
  exact ⟨a, b, c, rfl, bd_i8 ha, bd_i8 hb, bd_u8 hc⟩

theorem reduces_row (hsan : ACall Try.prog 10 [] ⟨[.val (tb true)], []⟩) (tss : List (List Tree)) (h : okAll [.int .u32, rawS, rawS] tss) :
    ACall Try.prog 6 ((tvs [.int .u32, rawS, rawS] tss).map .val) ⟨[.val (tb true)], [none, none, none]⟩ := by
  obtain ⟨_, _, rfl, ⟨n, rfl, hn⟩, _, _, rfl, hx, _, _, rfl, hy, rfl⟩ := h
  obtain ⟨a, b, c, rfl, ha, hb, hc⟩ := rawS_ok hx
  obtain ⟨a', b', c', rfl, ha', hb', hc'⟩ := rawS_ok hy
  have hn := bd_u32 hn
  exact reduces_call hsan n a b c a' b' c' hn.1 hn.2 ha.1 ha.2 hb.1 hb.2 hc.1 hc.2 ha'.1 ha'.2 hb'.1 hb'.2 hc'.1 hc'.2
end Go.Proofs.Ytgncmjcoojmccaa
end

section
set_option linter.unusedVariables false
set_option linter.unusedSimpArgs false
set_option maxHeartbeats 8000000
set_option linter.unusedVariables false
set_option linter.unusedSimpArgs false
set_option maxRecDepth 100000
namespace Go.Proofs.Ytgncmjcoojmccaa
open Go Go.Abs Go.Abs.M Go.Proofs

def rsameSt (s t : Bool) (r q : Abs.Rows) (i : Int) : St := mkSt 38 [.junk, .junk, .c (.ptr 2 0 0), .c (.ptr 3 0 0), .junk, vi .i64 i] [none, none, some (.var [.t (.v (.bool s)), .t (.lst false r)]), some (.var [.t (.v (.bool t)), .t (.lst false q)])]
theorem rsame_call {x y : Int} {s t : Bool} {r q : Abs.Rows} (hx : IsI x s r) (hy : IsI y t q) (hx1 : nl x.natAbs ≤ 2199023255552) : ACall Try.prog 30 [.val (.agg (iT s r)), .val (.agg (iT t q))] ⟨[.val (tb (decide (x = y)))], [none, none]⟩ := by
  have hl : r.length = nl x.natAbs := hx.m.len
  have hm : q.length = nl y.natAbs := hy.m.len
  have hne : s ≠ t → x ≠ y := fun h e => h (by rw [hx.s, hy.s, e])
  have hle : nl x.natAbs ≠ nl y.natAbs → x ≠ y := fun h e => h (by rw [e])
  have hwe : ∀ i, (dg x.natAbs).getD i 0 ≠ (dg y.natAbs).getD i 0 → x ≠ y := fun i h e => h (by rw [e])
  have heq : s = t → nl x.natAbs = nl y.natAbs → (dg x.natAbs).take (nl x.natAbs) = (dg y.natAbs).take (nl x.natAbs) → x = y := fun h1 h2 h3 => by
    have e1 : (dg x.natAbs).take (nl x.natAbs) = dg x.natAbs := List.take_of_length_le (Nat.le_refl _)
    have e2 : (dg y.natAbs).take (nl x.natAbs) = dg y.natAbs := List.take_of_length_le (by rw [h2]; exact Nat.le_refl _)
    rw [e1, e2] at h3
    have h4 := congrArg val h3
    rw [dg_val, dg_val] at h4
    have h5 := hx.s
    rw [h1, hy.s] at h5
    have h6 : (y < 0) ↔ (x < 0) := by
      constructor
      · intro h; rw [decide_eq_true h] at h5; exact of_decide_eq_true h5.symm
      · intro h; rw [decide_eq_true h] at h5; exact of_decide_eq_true h5
    omega
  have gx : ∀ i : Nat, ZI.std.getI r i = (dg x.natAbs).getD i 0 := fun i => by rw [hx.m, W_getI]
  have gy : ∀ i : Nat, ZI.std.getI q i = (dg y.natAbs).getD i 0 := fun i => by rw [hy.m, W_getI]
  have ix : ∀ i : Nat, i < nl x.natAbs → ZI.std.isI .u32 r i = true := fun i h => by rw [hx.m, W_isI]; exact decide_eq_true h
  have iy : ∀ i : Nat, i < nl y.natAbs → ZI.std.isI .u32 q i = true := fun i h => by rw [hy.m, W_isI]; exact decide_eq_true h
  have hstep : ∀ i : Nat, i < nl x.natAbs → nl x.natAbs = nl y.natAbs → (dg x.natAbs).take i = (dg y.natAbs).take i → (dg x.natAbs).getD i 0 = (dg y.natAbs).getD i 0 → (dg x.natAbs).take (i + 1) = (dg y.natAbs).take (i + 1) := fun i h h' h2 h3 => by
    have a1 : i < (dg x.natAbs).length := h
    have a2 : i < (dg y.natAbs).length := by have : i < nl y.natAbs := by omega
                                             exact this
    rw [List.take_succ_eq_append_getElem a1, List.take_succ_eq_append_getElem a2, h2]
    rw [List.getD_eq_getElem?_getD, List.getD_eq_getElem?_getD, List.getElem?_eq_getElem a1, List.getElem?_eq_getElem a2, Option.getD_some, Option.getD_some] at h3
    rw [h3]
  refine callZ ccOk mixed [.val] Try.func30 rfl rfl (by kernel_rfl) fun zwrap zadd zsub zmul zquo zrem zshl zshr zband zbor zbxor zbandn zeq zne zlt zle znot zbeq zbne zmax zmin znat zinb zofN zidx zneq znadd zdif zcut zroom zmkok zlen znth zsetr zisI zgetI zsetI zfit zpart zext zsetg zrep zwide zall zmok zmget zmset zW zth A L F hS hF => ?_
  have f0 : x ≠ y → F ⟨[.val (.c (.v (.bool false)))], [none, none]⟩ := fun h => fin1 hF (by rw [decide_eq_false h]; rfl)
  have f1 : x = y → F ⟨[.val (.c (.v (.bool true)))], [none, none]⟩ := fun h => fin1 hF (by rw [decide_eq_true h]; rfl)
  have e0 : zne (zofN (zlen r)) (zofN (zlen q)) = decide (nl x.natAbs ≠ nl y.natAbs) := by
    rw [hS.ne, hS.len, hS.len, hS.ofN, hS.ofN, hl, hm]
    by_cases h : nl x.natAbs = nl y.natAbs
    · rw [decide_eq_false (show ¬ nl x.natAbs ≠ nl y.natAbs by omega)]; exact decide_eq_false (by omega)
    · rw [decide_eq_true h]; exact decide_eq_true (by omega)
  have hlx : zlen r = nl x.natAbs := by rw [hS.len, hl]
  generalize hLx : nl x.natAbs = Lx at *
  cbv
  refine ⟨fun h => f0 ?_, fun h => ⟨fun h' => f0 ?_, fun h' => ?_⟩⟩
  all_goals rw [hS.bne] at h
  · exact hne (by intro e; subst e; simp at h)
  all_goals rw [e0] at h'
  · exact hle (of_decide_eq_true h')
  · have hst : s = t := by cases s <;> cases t <;> first | rfl | (simp at h)
    have hll : Lx = nl y.natAbs := by have := of_decide_eq_false h'; omega
    refine loopZ ccOk mixed hS (fun (k : Nat) s' => ∃ i : Nat, i + k = Lx ∧ (dg x.natAbs).take i = (dg y.natAbs).take i ∧ s' = rsameSt s t r q (zofN i)) (n := Lx) (s0 := rsameSt s t r q (zofN 0)) (le_of ?_ ?_) rfl (by show 2 ≤ 4; omega) ?_ ?_
    · simp [leT, rsameSt, mkSt, vi, hS.ofN]
    · simp [leH, rsameSt, mkSt]
    · exact ⟨0, by omega, rfl, rfl⟩
    · rintro k _ ⟨i, hi, he, rfl⟩
      obtain ⟨i1, hi1⟩ : ∃ i1, i1 = i + 1 := ⟨_, rfl⟩
      have c1 : zlt (zofN i) (zofN (zlen r)) = decide (k ≠ 0) := by
        rw [hlx, hS.lt, hS.ofN, hS.ofN]
        by_cases h : k = 0
        · rw [decide_eq_false (show ¬ k ≠ 0 by omega)]; exact decide_eq_false (by omega)
        · rw [decide_eq_true h]; exact decide_eq_true (by omega)
      have c2 : zle 0 (zofN i) = true := by rw [hS.le, hS.ofN]; exact decide_eq_true (by omega)
      have c3 : znat (zofN i) = i := by rw [hS.nat, hS.ofN]; omega
      have c4 : i < Lx → zisI .u32 r (znat (zofN i)) = true := fun h => by rw [c3, hS.isI]; exact ix i h
      have c5 : i < Lx → zisI .u32 q (znat (zofN i)) = true := fun h => by rw [c3, hS.isI]; exact iy i (by omega)
      have c6 : zne (zgetI r (znat (zofN i))) (zgetI q (znat (zofN i))) = decide ((dg x.natAbs).getD i 0 ≠ (dg y.natAbs).getD i 0) := by
        rw [c3, hS.ne, hS.getI, hS.getI, gx, gy]
      have c7 : i < Lx → zwrap .i64 (zadd (zofN i) 1) = zofN i1 := fun h => by rw [hS.wrap, hS.add, hS.ofN, hS.ofN, wrap_i64 (by omega) (by omega), hi1]; omega
      have nx : i < Lx → (dg x.natAbs).getD i 0 = (dg y.natAbs).getD i 0 → (dg x.natAbs).take i1 = (dg y.natAbs).take i1 := fun h h2 => by rw [hi1]; exact hstep i h hll he h2
      have ki : k ≠ 0 → i < Lx := by omega
      have k1 : k ≠ 0 → i1 + (k - 1) = Lx ∧ k - 1 < k := by omega
      have kz : k = 0 → x = y := fun h => heq hst hll (by rw [show i = Lx by omega] at he; exact he)
      clear hi hi1 hstep ix iy gx gy
      cbv
      refine ⟨fun h => ?_, fun h => f1 ?_⟩
      all_goals rw [c1] at h
      · have hk := of_decide_eq_true h
        refine nd c2 (nd (c4 (ki hk)) (nd c2 (nd (c5 (ki hk)) ⟨fun h2 => f0 ?_, fun h2 => ?_⟩)))
        all_goals rw [c6] at h2
        · exact hwe i (of_decide_eq_true h2)
        · rw [c7 (ki hk)]
          exact again (s' := rsameSt s t r q (zofN i1)) (m := k - 1) (by simp [leT, rsameSt, mkSt, vi]) (by simp [leH, rsameSt, mkSt]) rfl (by show 2 ≤ 4; omega) (k1 hk).2 ⟨i1, (k1 hk).1, nx (ki hk) (Decidable.not_not.mp (of_decide_eq_false h2)), rfl⟩
      · exact kz (Decidable.not_not.mp (of_decide_eq_false h))
end Go.Proofs.Ytgncmjcoojmccaa
end

section
set_option linter.unusedVariables false
set_option linter.unusedSimpArgs false
set_option maxHeartbeats 8000000
set_option linter.unusedVariables false
set_option linter.unusedSimpArgs false
set_option maxRecDepth 100000
namespace Go.Proofs.Ytgncmjcoojmccaa
open Go Go.Abs Go.Abs.M Go.Proofs

theorem rvalid_call {x : Int} {s : Bool} {r : Abs.Rows} (hx : IsI x s r) (hx1 : nl x.natAbs ≤ 2199023255552) : ACall Try.prog 29 [.val (.agg (iT s r))] ⟨[.val (tb true)], [none]⟩ := by
  have hl : r.length = nl x.natAbs := hx.m.len
  have gx : ∀ i : Nat, ZI.std.getI r i = (dg x.natAbs).getD i 0 := fun i => by rw [hx.m, W_getI]
  have ix : ∀ i : Nat, i < nl x.natAbs → ZI.std.isI .u32 r i = true := fun i h => by rw [hx.m, W_isI]; exact decide_eq_true h
  have hz : nl x.natAbs = 0 → s = false := fun h => by
    rw [hx.s]; exact decide_eq_false (by have := nl_zero.mp h; omega)
  have htop : nl x.natAbs ≠ 0 → (dg x.natAbs).getD (nl x.natAbs - 1) 0 ≠ 0 := fun h => by
    rcases dg_tr x.natAbs with k | k
    · exact absurd (nl_zero.mpr (dg_eq_nil.mp k)) h
    · exact k
  generalize nl x.natAbs = n at *
  refine callZ ccOk mixed [.val] Try.func29 rfl rfl (by kernel_rfl) fun zwrap zadd zsub zmul zquo zrem zshl zshr zband zbor zbxor zbandn zeq zne zlt zle znot zbeq zbne zmax zmin znat zinb zofN zidx zneq znadd zdif zcut zroom zmkok zlen znth zsetr zisI zgetI zsetI zfit zpart zext zsetg zrep zwide zall zmok zmget zmset zW zth A L F hS hF => ?_
  have hlx : zlen r = n := by rw [hS.len, hl]
  have e0 : zeq (zofN (zlen r)) 0 = decide (n = 0) := by
    rw [hlx, hS.eq, hS.ofN]
    by_cases h : n = 0
    · rw [decide_eq_true h]; exact decide_eq_true (by omega)
    · rw [decide_eq_false h]; exact decide_eq_false (by omega)
  have e1 : n ≠ 0 → zwrap .i64 (zsub (zofN (zlen r)) 1) = zofN (n - 1) := fun h => by rw [hlx, hS.wrap, hS.sub, hS.ofN, hS.ofN, wrap_i64 (by omega) (by omega)]; omega
  have e2 : zle 0 (zofN (n - 1)) = true := by rw [hS.le, hS.ofN]; exact decide_eq_true (by omega)
  have e3 : znat (zofN (n - 1)) = n - 1 := by rw [hS.nat, hS.ofN]; omega
  have e4 : n ≠ 0 → zisI .u32 r (znat (zofN (n - 1))) = true := fun h => by rw [e3, hS.isI]; exact ix _ (by omega)
  have e5 : n ≠ 0 → zne (zgetI r (znat (zofN (n - 1)))) 0 = true := fun h => by rw [e3, hS.ne, hS.getI, gx]; exact decide_eq_true (htop h)
  generalize zofN (n - 1) = top at *
  clear ix gx htop
  cbv
  refine ⟨fun h => ?_, fun h => ?_⟩
  all_goals rw [e0] at h
  · rw [hz (of_decide_eq_true h)]
    exact fin1 hF (by simp [hS.not]; rfl)
  · have hn := of_decide_eq_false h
    rw [e1 hn]
    refine nd e2 (nd (e4 hn) ?_)
    rw [e5 hn]
    exact fin1 hF rfl
end Go.Proofs.Ytgncmjcoojmccaa
end

section
set_option linter.unusedVariables false
set_option linter.unusedSimpArgs false
/-
  The number of bits; square roots, bit by bit.
-/
set_option linter.unusedVariables false
namespace Go.Abs.M

def blen (t : Nat) : Nat := if t = 0 then 0 else t.log2 + 1

theorem blen_zero : blen 0 = 0 := rfl
theorem blen_step {t : Nat} (h : 0 < t) : blen (t / 2) + 1 = blen t := by
  by_cases h2 : 2 ≤ t
  · unfold blen
    rw [if_neg (by omega), if_neg (by omega), Nat.log2_def t, if_pos h2]
  · obtain rfl : t = 1 := by omega
    decide
theorem lt_blen (t : Nat) : t < 2 ^ blen t := by
  unfold blen
  by_cases h : t = 0
  · subst h; simp
  · rw [if_neg h]; exact Nat.lt_log2_self
theorem blen_le {t : Nat} (h : t < 4294967296) : blen t ≤ 32 := by
  unfold blen
  by_cases h0 : t = 0
  · rw [if_pos h0]; omega
  · rw [if_neg h0]; exact (Nat.log2_lt (k := 32) h0).2 (by omega)

/-- The bits of a number. -/
def bitsN (x : Nat) : Nat := if nl x = 0 then 0 else 32 * (nl x - 1) + blen ((dg x).getD (nl x - 1) 0).toNat

theorem bitsN_le (x : Nat) : bitsN x ≤ 32 * nl x := by
  unfold bitsN
  by_cases h : nl x = 0
  · rw [if_pos h]; omega
  · rw [if_neg h]
    have hw := (dg_wd x).get (nl x - 1)
    have := blen_le (t := ((dg x).getD (nl x - 1) 0).toNat) (by omega)
    omega

theorem bitsN_lt (x : Nat) : x < 2 ^ bitsN x := by
  unfold bitsN
  by_cases h : nl x = 0
  · rw [if_pos h]
    have := (nl_zero (n := x)).1 h
    subst this; simp
  · rw [if_neg h]
    have hw := (dg_wd x).get (nl x - 1)
    obtain ⟨t, ht⟩ : ∃ t, t = ((dg x).getD (nl x - 1) 0).toNat := ⟨_, rfl⟩
    have e := val_take_drop (dg x) (nl x - 1) (by unfold nl; omega)
    rw [val_drop_succ (by unfold nl at h ⊢; omega), show nl x - 1 + 1 = nl x by omega, show (dg x).drop (nl x) = [] by unfold nl; exact List.drop_length, dg_val] at e
    have h1 := val_lt ((dg_wd x).take (nl x - 1))
    rw [List.length_take, Nat.min_eq_left (by unfold nl; omega)] at h1
    have h2 := lt_blen t
    rw [← ht]
    obtain ⟨P, hP⟩ : ∃ P : Nat, P = 4294967296 ^ (nl x - 1) := ⟨_, rfl⟩
    have hP2 : (4294967296 : Int) ^ (nl x - 1) = P := by rw [hP, Int.natCast_pow]; rfl
    have hP3 : 2 ^ (32 * (nl x - 1) + blen t) = P * 2 ^ blen t := by rw [Nat.pow_add, Nat.pow_mul, hP]
    rw [hP3]
    rw [hP2] at e h1
    have h3 : P * (t + 1) ≤ P * 2 ^ blen t := Nat.mul_le_mul_left P h2
    have h4 : ((dg x).getD (nl x - 1) 0) = t := by omega
    rw [h4] at e
    simp only [val, Int.mul_zero, Int.add_zero] at e
    have h5 : ((P * (t + 1) : Nat) : Int) = (P : Int) * t + P := by rw [Int.natCast_mul, Int.natCast_add, Int.mul_add]; simp
    omega

/-- The square root, rounded down. -/
def IsRoot (a b : Int) : Prop := 0 ≤ b ∧ b * b ≤ a ∧ a < (b + 1) * (b + 1)

theorem sq_mono {x y : Int} (hx : 0 ≤ x) (h : x ≤ y) : x * x ≤ y * y := Int.mul_le_mul h h hx (by omega)

theorem IsRoot.unique {a b c : Int} (h : IsRoot a b) (h' : IsRoot a c) : b = c := by
  obtain ⟨h1, h2, h3⟩ := h
  obtain ⟨g1, g2, g3⟩ := h'
  rcases Int.lt_trichotomy b c with h | h | h
  · have := sq_mono (x := b + 1) (y := c) (by omega) (by omega); omega
  · exact h
  · have := sq_mono (x := c + 1) (y := b) (by omega) (by omega); omega

/-- x*x <= a says that x is at most the root. -/
theorem IsRoot.le_iff {a b x : Int} (h : IsRoot a b) (hx : 0 ≤ x) : x * x ≤ a ↔ x ≤ b := by
  obtain ⟨h1, h2, h3⟩ := h
  constructor
  · intro hh
    rcases Int.lt_or_le b x with g | g
    · have := sq_mono (x := b + 1) (y := x) (by omega) (by omega); omega
    · exact g
  · intro hh
    have := sq_mono hx hh; omega

theorem nl_le_pow {y : Int} {k : Nat} (h0 : 0 ≤ y) (h : y < 2 ^ k) : nl y.natAbs ≤ k := by
  apply nl_le_of
  have h1 : (2 : Nat) ^ k ≤ 4294967296 ^ k := Nat.pow_le_pow_left (by omega) k
  have h2 : (((2 : Nat) ^ k : Nat) : Int) ≤ ((4294967296 ^ k : Nat) : Int) := Int.ofNat_le.2 h1
  rw [Int.natCast_pow, Int.natCast_pow] at h2
  have h3 : (2 : Int) ^ k = ((2 : Nat) : Int) ^ k := rfl
  have h4 : (4294967296 : Int) ^ k = ((4294967296 : Nat) : Int) ^ k := rfl
  rw [h4]; omega

theorem two_pow_mono {i j : Nat} (h : i ≤ j) : (2 : Int) ^ i ≤ 2 ^ j := by
  have h1 : (2 : Nat) ^ i ≤ 2 ^ j := Nat.pow_le_pow_right (by omega) h
  have h2 : (((2 : Nat) ^ i : Nat) : Int) ≤ ((2 ^ j : Nat) : Int) := Int.ofNat_le.2 h1
  rw [Int.natCast_pow, Int.natCast_pow] at h2
  exact h2

theorem two_pow_pos' (i : Nat) : (0 : Int) < 2 ^ i := Int.pow_pos (by omega)

theorem two_pow_lt_succ (j : Nat) : (2 : Int) ^ j < 2 ^ (j + 1) := by
  have := two_pow_pos' j
  rw [Int.pow_succ]; omega

/-- k more bits are to be found behind o. -/
structure RootI (x o : Int) (k : Nat) : Prop where
  lo : 0 ≤ o
  le : o * o ≤ x
  hi : x < (o + 2 ^ k) * (o + 2 ^ k)

theorem RootI.start {x : Int} {B : Nat} (h0 : 0 ≤ x) (h : x < 2 ^ B) : RootI x 0 (B / 2 + 1) := by
  refine ⟨by omega, by omega, ?_⟩
  rw [Int.zero_add, ← Int.pow_add]
  exact Int.lt_of_lt_of_le h (two_pow_mono (by omega))

theorem RootI.yes {x o : Int} {i : Nat} (h : RootI x o (i + 1)) (hn : (o + 2 ^ i) * (o + 2 ^ i) ≤ x) : RootI x (o + 2 ^ i) i := by
  refine ⟨by have := h.lo; have := two_pow_pos' i; omega, hn, ?_⟩
  have := h.hi
  rw [Int.pow_succ] at this
  rw [show o + 2 ^ i + 2 ^ i = o + 2 ^ i * 2 by omega]
  exact this

theorem RootI.no {x o : Int} {i : Nat} (h : RootI x o (i + 1)) (hn : ¬ (o + 2 ^ i) * (o + 2 ^ i) ≤ x) : RootI x o i := ⟨h.lo, h.le, by omega⟩

theorem RootI.root {x o : Int} (h : RootI x o 0) : IsRoot x o := ⟨h.lo, h.le, by have := h.hi; rwa [Int.pow_zero] at this⟩

theorem RootI.lt {x o : Int} {k B : Nat} (h : RootI x o k) (hx : x < 2 ^ B) : o < 2 ^ B := by
  rcases Int.lt_or_le o (2 ^ B) with g | g
  · exact g
  · have h1 := sq_mono (x := 1) (y := 2 ^ B) (by omega) (by have := two_pow_pos' B; omega)
    have h2 := sq_mono (by have := two_pow_pos' B; omega) g
    have h3 : (2 : Int) ^ B * 1 ≤ 2 ^ B * 2 ^ B := Int.mul_le_mul_of_nonneg_left (by have := two_pow_pos' B; omega) (by have := two_pow_pos' B; omega)
    have := h.le
    omega
end Go.Abs.M
end

section
set_option linter.unusedVariables false
set_option linter.unusedSimpArgs false
set_option maxHeartbeats 8000000
set_option linter.unusedVariables false
set_option linter.unusedSimpArgs false
set_option maxRecDepth 100000
namespace Go.Proofs.Ytgncmjcoojmccaa
open Go Go.Abs Go.Abs.M Go.Proofs

theorem rpower_call {a : Int} {s : Bool} {r : Abs.Rows} (ha : IsI a s r) : ∀ n : Nat, n < 1000000 → (∀ j, j ≤ n → nl (a ^ j).natAbs ≤ 1000000) → ∀ u w, IsI (a ^ n) u w → ACall Try.prog 79 [.val (.agg (iT s r)), .val (ti .i64 (n : Int))] ⟨[.val (.agg (iT u w))], [none, none]⟩ := by
  intro n
  induction n using Nat.strongRecOn with
  | _ n ih =>
    intro hn hb u w hw
    obtain ⟨N, hN⟩ : ∃ N : Int, N = n := ⟨_, rfl⟩
    by_cases h0 : n = 0
    · obtain ⟨u', w', hw', c1⟩ := rof_call 1 (by omega) (by omega)
      obtain ⟨rfl, rfl⟩ := hw.inj (hw'.of (by rw [h0, Int.pow_zero]))
      rw [← hN]
      refine callZ ccOk mixed [.val] Try.func79 rfl rfl (by kernel_rfl) fun zwrap zadd zsub zmul zquo zrem zshl zshr zband zbor zbxor zbandn zeq zne zlt zle znot zbeq zbne zmax zmin znat zinb zofN zidx zneq znadd zdif zcut zroom zmkok zlen znth zsetr zisI zgetI zsetI zfit zpart zext zsetg zrep zwide zall zmok zmget zmset zW zth A L F hS hF => ?_
      have e : zeq N 0 = true := by rw [hS.eq]; exact decide_eq_true (by omega)
      cbv
      refine bT (e) ?_
      refine ⟨_, hS.call (c1), ?_⟩
      cbv
      exact hF _ (ResLe.refl _)
    · have hl1 : nl (a ^ (n / 2)).natAbs ≤ 1000000 := hb _ (by omega)
      have hl2 : nl (a ^ (n / 2) * a ^ (n / 2)).natAbs ≤ 1000000 := by rw [← Int.pow_add]; exact hb _ (by omega)
      have hl3 : nl a.natAbs ≤ 1000000 := by have := hb 1 (by omega); rwa [Int.pow_one] at this
      have c1 := ih (n / 2) (by omega) (by omega) (fun j hj => hb j (by omega)) _ _ (IsI.mk' _)
      have i1 := IsI.mk' (a ^ (n / 2))
      generalize decide (a ^ (n / 2) < 0) = hs at *
      generalize W .u32 (dg (a ^ (n / 2)).natAbs) = hr at *
      obtain ⟨u2, w2, i2, c2⟩ := rmul_call i1 i1 (by omega) (by omega)
      obtain ⟨u3, w3, i3, c3⟩ := rmul_call i2 ha (by omega) (by omega)
      obtain ⟨H, hH⟩ : ∃ H : Int, H = ((n / 2 : Nat) : Int) := ⟨_, rfl⟩
      rw [← hH] at c1
      rw [← hN]
      by_cases ho : n % 2 = 1
      · have e2 : a ^ (n / 2) * a ^ (n / 2) * a = a ^ n := by rw [← Int.pow_add, ← Int.pow_succ]; congr 1; omega
        obtain ⟨rfl, rfl⟩ := hw.inj (i3.of e2)
        clear ih hb hw i1 i2 i3 e2 hl1 hl2 hl3
        refine callZ ccOk mixed [.val] Try.func79 rfl rfl (by kernel_rfl) fun zwrap zadd zsub zmul zquo zrem zshl zshr zband zbor zbxor zbandn zeq zne zlt zle znot zbeq zbne zmax zmin znat zinb zofN zidx zneq znadd zdif zcut zroom zmkok zlen znth zsetr zisI zgetI zsetI zfit zpart zext zsetg zrep zwide zall zmok zmget zmset zW zth A L F hS hF => ?_
        have e : zeq N 0 = false := by rw [hS.eq]; exact decide_eq_false (by omega)
        have e1 : zwrap .i64 (zquo N 2) = H := by rw [hS.quo, hS.wrap, Int.tdiv_eq_ediv_of_nonneg (by omega), wrap_i64 (by omega) (by omega)]; omega
        have e3 : zeq (zrem N 2) 1 = true := by rw [hS.eq, hS.rem, Int.tmod_eq_emod_of_nonneg (by omega)]; exact decide_eq_true (by omega)
        cbv
        refine bF (e) ?_
        rw [e1]
        refine ⟨_, hS.call (c1), ?_⟩
        cbv
        refine ⟨_, hS.call (c2), ?_⟩
        cbv
        refine bT (e3) ?_
        refine ⟨_, hS.call (c3), ?_⟩
        cbv
        exact hF _ (ResLe.refl _)
      · have e2 : a ^ (n / 2) * a ^ (n / 2) = a ^ n := by rw [← Int.pow_add]; congr 1; omega
        obtain ⟨rfl, rfl⟩ := hw.inj (i2.of e2)
        clear ih hb hw i1 i2 i3 e2 hl1 hl2 hl3
        refine callZ ccOk mixed [.val] Try.func79 rfl rfl (by kernel_rfl) fun zwrap zadd zsub zmul zquo zrem zshl zshr zband zbor zbxor zbandn zeq zne zlt zle znot zbeq zbne zmax zmin znat zinb zofN zidx zneq znadd zdif zcut zroom zmkok zlen znth zsetr zisI zgetI zsetI zfit zpart zext zsetg zrep zwide zall zmok zmget zmset zW zth A L F hS hF => ?_
        have e : zeq N 0 = false := by rw [hS.eq]; exact decide_eq_false (by omega)
        have e1 : zwrap .i64 (zquo N 2) = H := by rw [hS.quo, hS.wrap, Int.tdiv_eq_ediv_of_nonneg (by omega), wrap_i64 (by omega) (by omega)]; omega
        have e3 : zeq (zrem N 2) 1 = false := by rw [hS.eq, hS.rem, Int.tmod_eq_emod_of_nonneg (by omega)]; exact decide_eq_false (by omega)
        cbv
        refine bF (e) ?_
        rw [e1]
        refine ⟨_, hS.call (c1), ?_⟩
        cbv
        refine ⟨_, hS.call (c2), ?_⟩
        cbv
        refine bF (e3) ?_
        exact hF _ (ResLe.refl _)

def rbtSt (o t : Int) : St := mkSt 27 [.junk, .junk, .junk, .junk, vi .i64 o, vi .u32 t] [none]

theorem rbits_call {x : Int} {s : Bool} {r : Abs.Rows} (hx : IsI x s r) (hx1 : nl x.natAbs ≤ 1000000) : ACall Try.prog 78 [.val (.agg (iT s r))] ⟨[.val (ti .i64 (bitsN x.natAbs : Nat))], [none]⟩ := by
  have hl : r.length = nl x.natAbs := hx.m.len
  have gx : ∀ i : Nat, ZI.std.getI r i = (dg x.natAbs).getD i 0 := fun i => by rw [hx.m, W_getI]
  have ix : ∀ i : Nat, i < nl x.natAbs → ZI.std.isI .u32 r i = true := fun i h => by rw [hx.m, W_isI]; exact decide_eq_true h
  have hw := (dg_wd x.natAbs).get (nl x.natAbs - 1)
  have hble := bitsN_le x.natAbs
  obtain ⟨B, hB⟩ : ∃ B : Int, B = (bitsN x.natAbs : Nat) := ⟨_, rfl⟩
  have hB2 : bitsN x.natAbs = if nl x.natAbs = 0 then 0 else 32 * (nl x.natAbs - 1) + blen ((dg x.natAbs).getD (nl x.natAbs - 1) 0).toNat := rfl
  rw [← hB]
  generalize bitsN x.natAbs = bn at *
  obtain ⟨n, hn⟩ : ∃ n, n = nl x.natAbs := ⟨_, rfl⟩
  rw [← hn] at hl ix hw hble hB2 hx1
  obtain ⟨t, ht⟩ : ∃ t, t = ((dg x.natAbs).getD (n - 1) 0).toNat := ⟨_, rfl⟩
  have ht2 : (dg x.natAbs).getD (n - 1) 0 = t := by omega
  rw [← ht] at hB2
  by_cases h0 : n = 0
  · rw [if_pos h0] at hB2
    refine callZ ccOk mixed [.val] Try.func78 rfl rfl (by kernel_rfl) fun zwrap zadd zsub zmul zquo zrem zshl zshr zband zbor zbxor zbandn zeq zne zlt zle znot zbeq zbne zmax zmin znat zinb zofN zidx zneq znadd zdif zcut zroom zmkok zlen znth zsetr zisI zgetI zsetI zfit zpart zext zsetg zrep zwide zall zmok zmget zmset zW zth A L F hS hF => ?_
    have x1 : zeq (zofN (zlen r)) 0 = true := by rw [hS.eq, hS.ofN, hS.len, hl]; exact decide_eq_true (by omega)
    have e : (0 : Int) = B := by omega
    cbv
    exact bT x1 (fin1 hF (tv_int e))
  · rw [if_neg h0] at hB2
    have hbl := blen_le (t := t) (by omega)
    obtain ⟨T, hT⟩ : ∃ T : Int, T = t := ⟨_, rfl⟩
    obtain ⟨O, hO⟩ : ∃ O : Int, O = ((32 * (n - 1) : Nat) : Int) := ⟨_, rfl⟩
    refine callZ ccOk mixed [.val] Try.func78 rfl rfl (by kernel_rfl) fun zwrap zadd zsub zmul zquo zrem zshl zshr zband zbor zbxor zbandn zeq zne zlt zle znot zbeq zbne zmax zmin znat zinb zofN zidx zneq znadd zdif zcut zroom zmkok zlen znth zsetr zisI zgetI zsetI zfit zpart zext zsetg zrep zwide zall zmok zmget zmset zW zth A L F hS hF => ?_
    have x1 : zeq (zofN (zlen r)) 0 = false := by rw [hS.eq, hS.ofN, hS.len, hl]; exact decide_eq_false (by omega)
    have x2 : zwrap .i64 (zsub (zofN (zlen r)) 1) = ((n - 1 : Nat) : Int) := by rw [hS.ofN, hS.len, hl, hS.sub, hS.wrap, wrap_i64 (by omega) (by omega)]; omega
    have n1 : zle 0 (zwrap .i64 (zsub (zofN (zlen r)) 1)) = true := by rw [x2, hS.le]; exact decide_eq_true (by omega)
    have x3 : znat (zwrap .i64 (zsub (zofN (zlen r)) 1)) = n - 1 := by rw [x2, hS.nat]; omega
    have n2 : zisI .u32 r (znat (zwrap .i64 (zsub (zofN (zlen r)) 1))) = true := by rw [x3, hS.isI]; exact ix _ (by omega)
    have x4 : zgetI r (znat (zwrap .i64 (zsub (zofN (zlen r)) 1))) = T := by rw [x3, hS.getI, gx, ht2, hT]
    have x5 : zwrap .i64 (zmul 32 (zwrap .i64 (zsub (zofN (zlen r)) 1))) = O := by rw [x2, hS.mul, hS.wrap, wrap_i64 (by omega) (by omega)]; omega
    have A1 : ∀ (i : Nat) (I : Int), I = i → i ≤ 100000000 → ∃ I' : Int, I' = ((i + 1 : Nat) : Int) ∧ zwrap .i64 (zadd I 1) = I' := fun i I hI h => by
      refine ⟨_, rfl, ?_⟩
      rw [hS.add, hS.wrap, wrap_i64 (by omega) (by omega)]; omega
    have A2 : ∀ (i : Nat) (I : Int), I = i → i < 4294967296 → ∃ I' : Int, I' = ((i / 2 : Nat) : Int) ∧ zwrap .u32 (zquo I 2) = I' := fun i I hI h => by
      refine ⟨_, rfl, ?_⟩
      rw [hS.quo, hS.wrap, Int.tdiv_eq_ediv_of_nonneg (by omega), wrap_u32 (by omega) (by omega)]; omega
    have A3 : ∀ (i : Nat) (I : Int), I = i → zlt 0 I = decide (0 < i) := fun i I hI => by
      rw [hS.lt]
      by_cases h : 0 < i
      · rw [decide_eq_true h]; exact decide_eq_true (by omega)
      · rw [decide_eq_false h]; exact decide_eq_false (by omega)
    have htt : t < 4294967296 := by omega
    clear hw ix gx
    cbv
    refine bF (x1) ?_
    refine nd (n1) ?_
    refine nd (n2) ?_
    rw [x4, x5]
    refine loopZ ccOk mixed hS (fun (k : Nat) s' => ∃ (o : Nat) (O K : Int), K = k ∧ O = o ∧ k ≤ t ∧ o + blen k = bn ∧ s' = rbtSt O K) (n := t) (s0 := rbtSt O T) (le_of ?_ ?_) rfl (by show 1 ≤ 1; omega) ?_ ?_
    · simp [leT, rbtSt, mkSt, vi]
    · simp [leH, rbtSt, mkSt]
    · exact ⟨32 * (n - 1), O, T, hT, hO, Nat.le_refl _, hB2.symm, rfl⟩
    · rintro k s1 ⟨o, O', K, hK, hO', hkt, hob, hs1⟩
      have l1 := A3 k K hK
      by_cases hk : 0 < k
      · rw [decide_eq_true hk] at l1
        obtain ⟨O2, hO2, a1⟩ := A1 o O' hO' (by omega)
        obtain ⟨K2, hK2, a2⟩ := A2 k K hK (by omega)
        have hst := blen_step hk
        have hlt : k / 2 < k := by omega
        have hnx : ∃ (o : Nat) (O K : Int), K = ((k / 2 : Nat) : Int) ∧ O = o ∧ k / 2 ≤ t ∧ o + blen (k / 2) = bn ∧ rbtSt O2 K2 = rbtSt O K := ⟨o + 1, O2, K2, hK2, hO2, by omega, by omega, rfl⟩
        subst hs1
        cbv
        refine bT l1 ?_
        exact again (s' := rbtSt O2 K2) (m := k / 2) (by simp [leT, rbtSt, mkSt, vi, a1, a2]) (by simp [leH, rbtSt, mkSt]) rfl (by show 1 ≤ 1; omega) hlt hnx
      · rw [decide_eq_false hk] at l1
        have hk0 : k = 0 := by omega
        have hfin : O' = B := by rw [hO', hB, ← hob, hk0, blen_zero]; rfl
        subst hs1
        cbv
        exact bF l1 (fin1 hF (tv_int hfin))

def rrtSt (r : Abs.Rows) (cc us : Bool) (ur : Abs.Rows) (i : Int) : St := mkSt 53 [.junk, vi .i64 2, .c (.ptr 2 0 0), .junk, .c (.ptr 3 0 0), vi .i64 0, .junk, .c (.ptr 6 0 0), vi .i64 i] [none, none, some (.var [.t (.v (.bool false)), .t (.lst false r)]), some (.var [.t (.v (.bool false)), .t (.lst true [])]), none, none, some (.var [.t (.v (.bool us)), .t (.lst cc ur)])]

theorem cmpI_le (a b : Int) : cmpI a b ≤ 0 ↔ a ≤ b := by
  unfold cmpI
  split
  · omega
  · split <;> omega

theorem rroot_call {x : Int} {s : Bool} {r : Abs.Rows} {b : Int} {u : Bool} {w : Abs.Rows} (hx : IsI x s r) (h0 : 0 ≤ x) (hx1 : nl x.natAbs ≤ 1000) (hb : IsRoot x b) (hu : IsI b u w) : ACall Try.prog 60 [.val (.agg (iT s r)), .val (ti .i64 2)] ⟨[.val (.agg (iT u w)), .val (ti .i64 0)], [none, none]⟩ := by
  have e5 : s = false := by rw [hx.s]; exact decide_eq_false (by omega)
  subst e5
  have cb := rbits_call hx (by omega)
  have hB1 := bitsN_le x.natAbs
  have hB2 := bitsN_lt x.natAbs
  have hr : r.length = nl x.natAbs := hx.m.len
  have hz := @nl_zero x.natAbs
  have hB3 : x < 2 ^ bitsN x.natAbs := by
    have h2 : ((x.natAbs : Nat) : Int) < ((2 ^ bitsN x.natAbs : Nat) : Int) := Int.ofNat_lt.2 hB2
    rw [Int.natCast_pow] at h2
    have h3 : (2 : Int) ^ bitsN x.natAbs = ((2 : Nat) : Int) ^ bitsN x.natAbs := rfl
    omega
  clear hB2
  generalize bitsN x.natAbs = bn at *
  have hend : ∀ o us ur, RootI x o 0 → IsI o us ur → us = u ∧ ur = w := fun o us ur h1 h2 => (h2.of (h1.root.unique hb)).inj hu
  obtain ⟨B, hB⟩ : ∃ B : Int, B = (bn : Nat) := ⟨_, rfl⟩
  rw [← hB] at cb
  obtain ⟨us1, ur1, i1, c1⟩ := rof_call 1 (by omega) (by omega)
  obtain ⟨us2, ur2, i2, c2⟩ := rof_call 2 (by omega) (by omega)
  by_cases hx0 : x = 0
  · have hb0 : b = 0 := by
      obtain ⟨g1, g2, g3⟩ := hb
      rcases Int.lt_or_le 0 b with g | g
      · have := sq_mono (x := 1) (y := b) (by omega) (by omega); omega
      · omega
    obtain ⟨e6, rfl⟩ := hx.inj (hu.of (by rw [hb0, hx0]))
    subst e6
    refine callZ ccOk mixed [.val, .val] Try.func60 rfl rfl (by kernel_rfl) fun zwrap zadd zsub zmul zquo zrem zshl zshr zband zbor zbxor zbandn zeq zne zlt zle znot zbeq zbne zmax zmin znat zinb zofN zidx zneq znadd zdif zcut zroom zmkok zlen znth zsetr zisI zgetI zsetI zfit zpart zext zsetg zrep zwide zall zmok zmget zmset zW zth A L F hS hF => ?_
    have e1 : zeq (zofN (zlen r)) 0 = true := by rw [hS.eq, hS.ofN, hS.len, hr]; exact decide_eq_true (by omega)
    have e2 : zlt 2 1 = false := by rw [hS.lt]; rfl
    have e3 : zeq 2 1 = false := by rw [hS.eq]; rfl
    cbv
    refine bF (rfl) ?_
    refine bF (e2) ?_
    refine bF (e3) ?_
    refine bT (e1) ?_
    exact hF _ (ResLe.refl _)
  by_cases hB4 : bn ≤ 2
  · have hb1 : b = 1 := by
      have h4 : x < 4 := by
        have := two_pow_mono hB4
        have e : (2 : Int) ^ 2 = 4 := rfl
        omega
      exact hb.unique ⟨by omega, by omega, by omega⟩
    obtain ⟨rfl, rfl⟩ := hu.inj (i1.of hb1.symm)
    refine callZ ccOk mixed [.val, .val] Try.func60 rfl rfl (by kernel_rfl) fun zwrap zadd zsub zmul zquo zrem zshl zshr zband zbor zbxor zbandn zeq zne zlt zle znot zbeq zbne zmax zmin znat zinb zofN zidx zneq znadd zdif zcut zroom zmkok zlen znth zsetr zisI zgetI zsetI zfit zpart zext zsetg zrep zwide zall zmok zmget zmset zW zth A L F hS hF => ?_
    have e1 : zeq (zofN (zlen r)) 0 = false := by rw [hS.eq, hS.ofN, hS.len, hr]; exact decide_eq_false (by omega)
    have e2 : zlt 2 1 = false := by rw [hS.lt]; rfl
    have e3 : zeq 2 1 = false := by rw [hS.eq]; rfl
    have e4 : zle B 2 = true := by rw [hS.le]; exact decide_eq_true (by omega)
    cbv
    refine bF (rfl) ?_
    refine bF (e2) ?_
    refine bF (e3) ?_
    refine bF (e1) ?_
    refine ⟨_, hS.call (cb), ?_⟩
    cbv
    refine bT (e4) ?_
    refine ⟨_, hS.call (c1), ?_⟩
    cbv
    exact hF _ (ResLe.refl _)
  obtain ⟨K, hK⟩ : ∃ K : Int, K = ((bn / 2 : Nat) : Int) := ⟨_, rfl⟩
  have hstep : ∀ (i : Nat) (o : Int) (us : Bool) (ur : Abs.Rows) (I : Int), I = i → i ≤ bn / 2 → RootI x o (i + 1) → IsI o us ur → ∃ (ps : Bool) (pr : Abs.Rows) (ns : Bool) (nr : Abs.Rows) (qs : Bool) (qr : Abs.Rows) (c : Int),
      ACall Try.prog 79 [.val (.agg (iT us2 ur2)), .val (ti .i64 I)] ⟨[.val (.agg (iT ps pr))], [none, none]⟩ ∧
      ACall Try.prog 39 [.val (.agg (iT us ur)), .val (.agg (iT ps pr))] ⟨[.val (.agg (iT ns nr))], [none, none]⟩ ∧
      ACall Try.prog 79 [.val (.agg (iT ns nr)), .val (ti .i64 2)] ⟨[.val (.agg (iT qs qr))], [none, none]⟩ ∧
      ACall Try.prog 32 [.val (.agg (iT qs qr)), .val (.agg (iT false r))] ⟨[.val (ti .i64 c)], [none, none]⟩ ∧
      (c ≤ 0 → RootI x (o + 2 ^ i) i ∧ IsI (o + 2 ^ i) ns nr) ∧ (¬ c ≤ 0 → RootI x o i) := fun i o us ur I hI hib hro io => by
    have ho := hro.lt hB3
    have ho0 := hro.lo
    have p1 := two_pow_pos' i
    have p2 := two_pow_mono (show i ≤ bn by omega)
    have p3 := two_pow_pos' bn
    have e3 : (2 : Int) ^ (bn + 1) = 2 ^ bn * 2 := Int.pow_succ ..
    have b1 : nl o.natAbs ≤ bn := nl_le_pow ho0 ho
    have b2 : nl ((2 : Int) ^ i).natAbs ≤ bn + 1 := nl_le_pow (by omega) (by omega)
    have b3 : nl (o + 2 ^ i).natAbs ≤ bn + 1 := nl_le_pow (by omega) (by omega)
    have b4 : nl ((o + 2 ^ i) ^ 2).natAbs ≤ bn + 1 + (bn + 1) := by
      have h1 : (o + 2 ^ i) * (o + 2 ^ i) < 2 ^ (bn + 1) * 2 ^ (bn + 1) := by
        have := sq_mono (x := o + 2 ^ i + 1) (y := 2 ^ (bn + 1)) (by omega) (by omega)
        have e : (o + 2 ^ i + 1) * (o + 2 ^ i + 1) = (o + 2 ^ i) * (o + 2 ^ i) + 2 * (o + 2 ^ i) + 1 := by grind
        omega
      rw [← Int.pow_add] at h1
      have e : (o + 2 ^ i) ^ 2 = (o + 2 ^ i) * (o + 2 ^ i) := by rw [Int.pow_succ, Int.pow_succ, Int.pow_zero, Int.one_mul]
      rw [e]
      exact nl_le_pow (Int.mul_nonneg (by omega) (by omega)) h1
    have c3 := rpower_call i2 i (by omega) (fun j hj => by
      have := nl_le_pow (y := 2 ^ j) (k := j + 1) (Int.le_of_lt (two_pow_pos' j)) (two_pow_lt_succ j)
      omega) _ _ (IsI.mk' _)
    obtain ⟨ns, nr, i3, c4⟩ := radd_call io (IsI.mk' (2 ^ i)) (by omega) (by omega)
    have c5 := rpower_call i3 2 (by omega) (fun j hj => by
      have hj3 : j = 0 ∨ j = 1 ∨ j = 2 := by omega
      rcases hj3 with rfl | rfl | rfl
      · rw [Int.pow_zero]; have : nl (1 : Int).natAbs ≤ 1 := nl_le_of (by omega)
        omega
      · rw [Int.pow_one]; omega
      · omega) _ _ (IsI.mk' _)
    have c6 := rcmp_call _ (IsI.mk' ((o + 2 ^ i) ^ 2)) hx rfl (by omega) (by omega)
    rw [hI]
    refine ⟨_, _, ns, nr, _, _, _, c3, c4, c5, c6, fun hc => ⟨hro.yes ?_, i3⟩, fun hc => hro.no ?_⟩
    · have := (cmpI_le ((o + 2 ^ i) ^ 2) x).1 hc
      rwa [Int.pow_succ, Int.pow_succ, Int.pow_zero, Int.one_mul] at this
    · intro h
      apply hc
      apply (cmpI_le ((o + 2 ^ i) ^ 2) x).2
      rw [Int.pow_succ, Int.pow_succ, Int.pow_zero, Int.one_mul]
      exact h
  have h00 : IsI 0 false [] := ⟨rfl, rfl⟩
  have hst := RootI.start h0 hB3
  clear hz hB3 hu hb
  refine callZ ccOk mixed [.val, .val] Try.func60 rfl rfl (by kernel_rfl) fun zwrap zadd zsub zmul zquo zrem zshl zshr zband zbor zbxor zbandn zeq zne zlt zle znot zbeq zbne zmax zmin znat zinb zofN zidx zneq znadd zdif zcut zroom zmkok zlen znth zsetr zisI zgetI zsetI zfit zpart zext zsetg zrep zwide zall zmok zmget zmset zW zth A L F hS hF => ?_
  have e1 : zeq (zofN (zlen r)) 0 = false := by rw [hS.eq, hS.ofN, hS.len, hr]; exact decide_eq_false (by omega)
  have e2 : zlt 2 1 = false := by rw [hS.lt]; rfl
  have e3 : zeq 2 1 = false := by rw [hS.eq]; rfl
  have e4 : zle B 2 = false := by rw [hS.le]; exact decide_eq_false (by omega)
  have e6 : zne 2 0 = true := by rw [hS.ne]; rfl
  have e7 : zwrap .i64 (zquo B 2) = K := by rw [hS.quo, hS.wrap, Int.tdiv_eq_ediv_of_nonneg (by omega), wrap_i64 (by omega) (by omega)]; omega
  have A1 : ∀ (k : Nat) (I : Int), I + 1 = k → zle 0 I = decide (0 < k) := fun k I hI => by
    rw [hS.le]
    by_cases h : 0 < k
    · rw [decide_eq_true h]; exact decide_eq_true (by omega)
    · rw [decide_eq_false h]; exact decide_eq_false (by omega)
  have A2 : ∀ (k : Nat) (I : Int), I + 1 = k → 0 < k → k ≤ 1000000 → ∃ I' : Int, I' + 1 = ((k - 1 : Nat) : Int) ∧ zwrap .i64 (zsub I 1) = I' := fun k I hI h1 h2 => by
    refine ⟨I - 1, by omega, ?_⟩
    rw [hS.sub, hS.wrap, wrap_i64 (by omega) (by omega)]
  have A3 : ∀ c : Int, zle c 0 = decide (c ≤ 0) := fun c => hS.le ..
  cbv
  refine bF (rfl) ?_
  refine bF (e2) ?_
  refine bF (e3) ?_
  refine bF (e1) ?_
  refine ⟨_, hS.call (cb), ?_⟩
  cbv
  refine bF (e4) ?_
  refine nd (e6) ?_
  rw [e7]
  have hK : K = ((bn / 2 : Nat) : Int) := hK
  refine loopZ ccOk mixed hS (fun (k : Nat) s' => ∃ (I o : Int) (cc us : Bool) (ur : Abs.Rows), I + 1 = k ∧ k ≤ bn / 2 + 1 ∧ RootI x o k ∧ IsI o us ur ∧ s' = rrtSt r cc us ur I) (n := bn / 2 + 1) (s0 := rrtSt r true false [] K) (le_of ?_ ?_) rfl (by show 2 ≤ 7; omega) ?_ ?_
  · simp [leT, rrtSt, mkSt, vi]
  · simp [leH, rrtSt, mkSt]
  · exact ⟨K, 0, true, false, [], by omega, Nat.le_refl _, hst, h00, rfl⟩
  · rintro k s1 ⟨I, o, cc, us, ur, hI, hkb, hro, io, hs1⟩
    have l1 := A1 k I hI
    by_cases hk : 0 < k
    · rw [decide_eq_true hk] at l1
      obtain ⟨i, hi⟩ : ∃ i, k = i + 1 := ⟨k - 1, by omega⟩
      rw [hi] at hro
      obtain ⟨ps, pr, ns, nr, qs, qr, c, c3, c4, c5, c6, hy, hn⟩ := hstep i o us ur I (show I = ((i : Nat) : Int) by omega) (by omega) hro io
      obtain ⟨I', hI', i1'⟩ := A2 k I hI hk (by omega)
      have hlt : k - 1 < k := by omega
      have hi' : k - 1 = i := by omega
      rw [← hi'] at hy hn
      have a3 := A3 c
      have hkb' : k - 1 ≤ bn / 2 + 1 := by omega
      clear hstep A1 A2 A3 hro hI hkb hB hK hend hst hi hi' h0 hx hr
      subst hs1
      cbv
      refine bT (l1) ?_
      refine ⟨_, hS.call (c2), ?_⟩
      cbv
      refine ⟨_, hS.call (c3), ?_⟩
      cbv
      refine ⟨_, hS.callw c4 ⟨⟨.v _, TLe.drop _ _, trivial⟩, TVLe.refl (.agg (iT ps pr)), trivial⟩, ?_⟩
      cbv
      refine ⟨_, hS.call (c5), ?_⟩
      cbv
      refine ⟨_, hS.call (c6), ?_⟩
      cbv
      refine ⟨fun h => ?_, fun h => ?_⟩
      all_goals rw [a3] at h
      · obtain ⟨y1, y2⟩ := hy (of_decide_eq_true h)
        exact again (s' := rrtSt r false ns nr I') (m := k - 1) (by simp [leT, rrtSt, mkSt, vi, i1']) (by simp [leH, rrtSt, mkSt]) rfl (by show 2 ≤ 7; omega) hlt ⟨I', _, false, ns, nr, hI', hkb', y1, y2, rfl⟩
      · have y1 := hn (of_decide_eq_false h)
        exact again (s' := rrtSt r cc us ur I') (m := k - 1) (by simp [leT, rrtSt, mkSt, vi, i1']) (by simp [leH, rrtSt, mkSt]) rfl (by show 2 ≤ 7; omega) hlt ⟨I', o, cc, us, ur, hI', hkb', y1, io, rfl⟩
    · rw [decide_eq_false hk] at l1
      obtain rfl : k = 0 := by omega
      obtain ⟨rfl, rfl⟩ := hend o us ur hro io
      clear hstep A1 A2 A3 hro hI hkb hB hK hend hst h0 hx hr
      subst hs1
      cbv
      refine bF l1 ?_
      exact fin2w hF ⟨.v _, TLe.drop _ _, trivial⟩ (TVLe.refl _)
end Go.Proofs.Ytgncmjcoojmccaa
end

section
set_option linter.unusedVariables false
set_option linter.unusedSimpArgs false
set_option maxHeartbeats 8000000
set_option linter.unusedVariables false
set_option linter.unusedSimpArgs false
set_option maxRecDepth 100000
namespace Go.Proofs.Ytgncmjcoojmccaa
open Go Go.Abs Go.Abs.M Go.Proofs

theorem cmpI_cases (x y : Int) : (cmpI x y ≤ 0 ↔ x ≤ y) ∧ (cmpI x y = 0 ↔ x = y) ∧ (cmpI x y < 0 ↔ x < y) := by
  unfold cmpI
  split
  · omega
  · split <;> omega

/-- 'small': twice the square is at most the limit. -/
theorem psmall_call {x l : Int} {s c : Bool} {r d : Abs.Rows} (hx : IsI x s r) (hl : IsI l c d) (h1 : nl x.natAbs ≤ 68719476736) (h2 : nl l.natAbs ≤ 68719476736) :
    ACall Try.prog 53 [.val (.agg (iT s r)), .ref (iT c d)] ⟨[.val (tb (decide (x * x + x * x ≤ l)))], [none, some (.var [.t (.v (.bool c)), .t (.lst false d)])]⟩ := by
  obtain ⟨a1, a2, ha, ca⟩ := imul_call hx hx (by omega) (by omega)
  have n1 := nl_mul x.natAbs x.natAbs
  have n2 : nl (x * x).natAbs ≤ 137438953472 := by rw [Int.natAbs_mul]; omega
  obtain ⟨b1, b2, hb, cb⟩ := iadd_call ha ha (by omega) (by omega)
  have n3 := nl_mono (Int.natAbs_add_le (x * x) (x * x))
  have n4 := nl_add (x * x).natAbs (x * x).natAbs
  obtain ⟨v, hv⟩ : ∃ v, v = cmpI (x * x + x * x) l := ⟨_, rfl⟩
  have cc := icmp_call v hb hl hv (by omega) (by omega)
  have hz := (cmpI_cases (x * x + x * x) l).1
  rw [← hv] at hz
  have hd : decide (v ≤ 0) = decide (x * x + x * x ≤ l) := by simp [hz]
  rw [← hd]
  refine callZ ccOk mixed [.val] Try.func53 rfl rfl (by kernel_rfl) fun zwrap zadd zsub zmul zquo zrem zshl zshr zband zbor zbxor zbandn zeq zne zlt zle znot zbeq zbne zmax zmin znat zinb zofN zidx zneq znadd zdif zcut zroom zmkok zlen znth zsetr zisI zgetI zsetI zfit zpart zext zsetg zrep zwide zall zmok zmget zmset zW zth A L F hS hF => ?_
  have e : zle v 0 = decide (v ≤ 0) := hS.le ..
  clear hv hz hd n1 n2 n3 n4
  cbv
  refine ⟨_, hS.call (ca), ?_⟩
  cbv
  refine ⟨_, hS.call (cb), ?_⟩
  cbv
  refine ⟨_, hS.call (cc), ?_⟩
  cbv
  exact fin1 hF (tv_bool e)

theorem pcombine_call {ar ad br bd q : Int} {s1 s2 s3 s4 s5 : Bool} {r1 r2 r3 r4 r5 : Abs.Rows} (h1 : IsI ar s1 r1) (h2 : IsI ad s2 r2) (h3 : IsI br s3 r3) (h4 : IsI bd s4 r4) (h5 : IsI q s5 r5)
    (l1 : nl ar.natAbs ≤ 68719476736) (l2 : nl ad.natAbs ≤ 68719476736) (l3 : nl br.natAbs ≤ 68719476736) (l4 : nl bd.natAbs ≤ 68719476736) (l5 : nl q.natAbs ≤ 68719476736) :
    ∃ u w v p, IsI (ar - q * br) u w ∧ IsI (ad - q * bd) v p ∧ ACall Try.prog 55 [.val (.agg (iT s1 r1 ++ iT s2 r2)), .val (.agg (iT s3 r3 ++ iT s4 r4)), .val (.agg (iT s5 r5))] ⟨[.val (.agg (iT u w ++ iT v p))], [none, none, none]⟩ := by
  have n1 := nl_mul q.natAbs br.natAbs
  have n2 := nl_mul q.natAbs bd.natAbs
  obtain ⟨a1, a2, ha, ca⟩ := imul_call h5 h3 (by omega) (by omega)
  obtain ⟨b1, b2, hb, cb⟩ := isub_call h1 ha (by omega) (by rw [Int.natAbs_mul]; omega)
  obtain ⟨c1, c2, hc, cc⟩ := imul_call h5 h4 (by omega) (by omega)
  obtain ⟨d1, d2, hd, cd⟩ := isub_call h2 hc (by omega) (by rw [Int.natAbs_mul]; omega)
  refine ⟨_, _, _, _, hb, hd, ?_⟩
  refine callZ ccOk mixed [.val] Try.func55 rfl rfl (by kernel_rfl) fun zwrap zadd zsub zmul zquo zrem zshl zshr zband zbor zbxor zbandn zeq zne zlt zle znot zbeq zbne zmax zmin znat zinb zofN zidx zneq znadd zdif zcut zroom zmkok zlen znth zsetr zisI zgetI zsetI zfit zpart zext zsetg zrep zwide zall zmok zmget zmset zW zth A L F hS hF => ?_
  cbv
  refine ⟨_, hS.call (ca), ?_⟩
  cbv
  refine ⟨_, hS.call (cb), ?_⟩
  cbv
  refine ⟨_, hS.call (cc), ?_⟩
  cbv
  refine ⟨_, hS.call (cd), ?_⟩
  cbv
  exact hF _ (ResLe.refl _)

theorem pcoprime_call {x y : Int} {s t : Bool} {r q : Abs.Rows} (hx : IsI x s r) (hy : IsI y t q) (h1 : nl x.natAbs ≤ 274877906944) (h2 : nl y.natAbs ≤ 274877906944) :
    ACall Try.prog 58 [.val (.agg (iT s r)), .val (.agg (iT t q))] ⟨[.val (tb (decide (Int.gcd x y = 1)))], [none, none]⟩ := by
  obtain ⟨w, hw, cg⟩ := igcd_call hx hy h1 h2
  obtain ⟨a1, a2, ha, ca⟩ := iof_call 1 (by omega) (by omega)
  have hb : nl (Int.gcd x y) ≤ 274877906944 := by
    by_cases h : x = 0
    · subst h
      have : Int.gcd 0 y = y.natAbs := by simp [Int.gcd]
      rw [this]; omega
    · have : Int.gcd x y ≤ x.natAbs := Nat.gcd_le_left _ (by omega)
      have := nl_mono this
      omega
  have n1 : nl (1 : Int).natAbs ≤ 1 := nl_le_of (by omega)
  obtain ⟨v, hv⟩ : ∃ v, v = cmpI (Int.gcd x y) 1 := ⟨_, rfl⟩
  have cc := icmp_call v hw ha hv (by rw [Int.natAbs_natCast]; omega) (by omega)
  have hz := (cmpI_cases (Int.gcd x y) 1).2.1
  rw [← hv] at hz
  have hd : decide (v = 0) = decide (Int.gcd x y = 1) := by
    by_cases h : v = 0
    · rw [decide_eq_true h]; have := hz.1 h; exact (decide_eq_true (by omega)).symm
    · rw [decide_eq_false h]; have := fun h' => h (hz.2 h'); exact (decide_eq_false (by omega)).symm
  rw [← hd]
  refine callZ ccOk mixed [.val] Try.func58 rfl rfl (by kernel_rfl) fun zwrap zadd zsub zmul zquo zrem zshl zshr zband zbor zbxor zbandn zeq zne zlt zle znot zbeq zbne zmax zmin znat zinb zofN zidx zneq znadd zdif zcut zroom zmkok zlen znth zsetr zisI zgetI zsetI zfit zpart zext zsetg zrep zwide zall zmok zmget zmset zW zth A L F hS hF => ?_
  have e : zeq v 0 = decide (v = 0) := hS.eq ..
  clear hv hz hd hb n1
  cbv
  refine ⟨_, hS.call (cg), ?_⟩
  cbv
  refine ⟨_, hS.call (ca), ?_⟩
  cbv
  refine ⟨_, hS.call (cc), ?_⟩
  cbv
  exact fin1 hF (tv_bool e)
end Go.Proofs.Ytgncmjcoojmccaa
end

section
set_option linter.unusedVariables false
set_option linter.unusedSimpArgs false
/-
  Small fractions with a given residue: the extended Euclidean algorithm finds the only one.
-/
set_option linter.unusedVariables false
namespace Go.Abs.M

theorem sq_nn (x : Int) : 0 ≤ x * x := by
  rcases Int.le_total 0 x with h | h
  · exact Int.mul_nonneg h h
  · exact Int.mul_nonneg_of_nonpos_of_nonpos h h

theorem two_mul_le (x y : Int) : x * y + x * y ≤ x * x + y * y := by
  have h := sq_nn (x - y)
  have e : (x - y) * (x - y) = x * x - (x * y + x * y) + y * y := by grind
  omega

theorem sq_le {x y : Int} (hx : 0 ≤ x) (h : x ≤ y) : x * x ≤ y * y := Int.mul_le_mul h h hx (by omega)

/-- A solution: a small fraction in lowest terms with the residue u modulo m. -/
structure RebSol (u m n d : Int) : Prop where
  pos : 0 < d
  sn : n * n + n * n ≤ m - 1
  sd : d * d + d * d ≤ m - 1
  co : Int.gcd n d = 1
  cm : Int.gcd d m = 1
  dv : m ∣ n - u * d

structure RInv (u m ra da rb db e : Int) : Prop where
  mp : 0 < m
  ca : m ∣ ra - u * da
  cb : m ∣ rb - u * db
  r0 : 0 ≤ rb
  rl : rb < ra
  det : ra * db - rb * da = e * m
  he : e = 1 ∨ e = -1
  pb : 0 < e * db
  pa : e * da ≤ 0
  big : m - 1 < ra * ra + ra * ra

section
variable {u m ra da rb db e n d : Int}

theorem RInv.start (hm : 0 < m) : RInv u m m 0 (u % m) 1 1 := by
  refine ⟨hm, ⟨1, by grind⟩, ?_, Int.emod_nonneg _ (by omega), Int.emod_lt_of_pos _ hm, by grind, .inl rfl, by omega, by omega, ?_⟩
  · have := Int.emod_add_mul_ediv u m
    exact ⟨-(u / m), by grind⟩
  · have : m * 1 ≤ m * m := Int.mul_le_mul_of_nonneg_left (by omega) (by omega)
    omega

theorem RInv.step (h : RInv u m ra da rb db e) (hb : ¬ rb * rb + rb * rb ≤ m - 1) : 0 < rb ∧ RInv u m rb db (ra - ra / rb * rb) (da - ra / rb * db) (-e) ∧ ra - ra / rb * rb < rb := by
  obtain ⟨mp, ca, cb, r0, rl, det, he, pb, pa, big⟩ := h
  have hr : 0 < rb := by
    rcases Int.lt_or_le 0 rb with h | h
    · exact h
    · have : rb = 0 := by omega
      subst this; simp at hb; omega
  have e1 := Int.emod_add_mul_ediv ra rb
  have m0 := Int.emod_nonneg ra (show rb ≠ 0 by omega)
  have m1 := Int.emod_lt_of_pos ra hr
  have q1 : 1 ≤ ra / rb := by
    rcases Int.lt_or_le 0 (ra / rb) with h | h
    · omega
    · have : rb * (ra / rb) ≤ rb * 0 := Int.mul_le_mul_of_nonneg_left h (by omega)
      omega
  have e2 : ra - ra / rb * rb = ra % rb := by rw [Int.mul_comm]; omega
  rw [e2]
  refine ⟨hr, ⟨mp, cb, ?_, m0, m1, ?_, ?_, ?_, ?_, by omega⟩, m1⟩
  · obtain ⟨x, hx⟩ := ca
    obtain ⟨y, hy⟩ := cb
    refine ⟨x - ra / rb * y, ?_⟩
    rw [← e2]
    generalize ra / rb = q at *
    grind
  · rw [← e2]
    generalize ra / rb = q at *
    grind
  · rcases he with rfl | rfl
    · right; rfl
    · left; rfl
  · have x1 : -e * (da - ra / rb * db) = -(e * da) + ra / rb * (e * db) := by grind
    have x2 : 1 * (e * db) ≤ ra / rb * (e * db) := Int.mul_le_mul_of_nonneg_right q1 (by omega)
    omega
  · have : -e * db = -(e * db) := Int.neg_mul ..
    omega

theorem RInv.small (h : RInv u m ra da rb db e) : (e * db) * ra ≤ m ∧ (-(e * da)) * rb ≤ m ∧ e * db ≤ m := by
  obtain ⟨mp, ca, cb, r0, rl, det, he, pb, pa, big⟩ := h
  have k : (e * db) * ra + (-(e * da)) * rb = m := by
    have : e * (ra * db - rb * da) = e * (e * m) := by rw [det]
    have ee : e * e = 1 := by rcases he with rfl | rfl <;> rfl
    have : e * (e * m) = m := by rw [← Int.mul_assoc, ee, Int.one_mul]
    grind
  have x1 : 0 ≤ (e * db) * ra := Int.mul_nonneg (by omega) (by omega)
  have x2 : 0 ≤ (-(e * da)) * rb := Int.mul_nonneg (by omega) r0
  have x3 : e * db * 1 ≤ e * db * ra := Int.mul_le_mul_of_nonneg_left (by omega) (by omega)
  omega

theorem RInv.complete (h : RInv u m ra da rb db e) (hs : rb * rb + rb * rb ≤ m - 1) (sol : RebSol u m n d) : n = e * rb ∧ d = e * db := by
  obtain ⟨mp, ca, cb, r0, rl, det, he, pb, pa, big⟩ := h
  obtain ⟨dp, sn, sd, co, cm, dv⟩ := sol
  have ee : e * e = 1 := by rcases he with rfl | rfl <;> rfl
  obtain ⟨x, hx⟩ := ca
  obtain ⟨y, hy⟩ := cb
  obtain ⟨z, hz⟩ := dv
  obtain ⟨A, hA⟩ : ∃ A, A = z * db - y * d := ⟨_, rfl⟩
  obtain ⟨B, hB⟩ : ∃ B, B = x * d - z * da := ⟨_, rfl⟩
  have tA : n * db - rb * d = m * A := by grind
  have tB : ra * d - n * da = m * B := by grind
  have n1 : e * n = A * ra + B * rb := by
    have : m * (e * n) = m * (A * ra + B * rb) := by grind
    exact Int.eq_of_mul_eq_mul_left (by omega) this
  have d1 : e * d = A * da + B * db := by
    have : m * (e * d) = m * (A * da + B * db) := by grind
    exact Int.eq_of_mul_eq_mul_left (by omega) this
  have d2 : d = A * (e * da) + B * (e * db) := by grind
  have nsq : n * n = (A * ra + B * rb) * (A * ra + B * rb) := by grind
  have far : ∀ k : Int, ra ≤ k → n * n = k * k → False := fun k hk h => by
    have := sq_le (show 0 ≤ ra by omega) hk
    omega
  have hA0 : A = 0 := by
    rcases Int.lt_trichotomy A 0 with h | h | h
    · exfalso
      rcases Int.lt_or_le 0 B with hb | hb
      · -- the other way: the numbers are too small
        have y1 : 0 ≤ A * (e * da) := Int.mul_nonneg_of_nonpos_of_nonpos (by omega) pa
        have y2 : 1 * (e * db) ≤ B * (e * db) := Int.mul_le_mul_of_nonneg_right (by omega) (by omega)
        have hP : e * db ≤ d := by omega
        have t1 := two_mul_le rb d
        have hm1 : m * A ≤ m * (-1) := Int.mul_le_mul_of_nonneg_left (by omega) (by omega)
        have e3 : n * db = (e * n) * (e * db) := by
          have : (e * n) * (e * db) = e * e * (n * db) := by grind
          rw [this, ee, Int.one_mul]
        have hen : (e * n) * (e * n) = n * n := by
          have : (e * n) * (e * n) = e * e * (n * n) := by grind
          rw [this, ee, Int.one_mul]
        generalize e * n = N at *
        rcases Int.le_total 0 N with hN | hN
        · have : 0 ≤ N * (e * db) := Int.mul_nonneg hN (by omega)
          omega
        · have y3 : (-N) * (e * db) ≤ (-N) * d := Int.mul_le_mul_of_nonneg_left hP (by omega)
          have t2 := two_mul_le (-N) d
          have y4 : (-N) * (-N) = N * N := by grind
          have y5 : (-N) * (e * db) = -(N * (e * db)) := Int.neg_mul ..
          omega
      · refine far (-(A * ra + B * rb)) ?_ (by rw [nsq]; grind)
        have y1 : (-A) * ra ≥ 1 * ra := Int.mul_le_mul_of_nonneg_right (by omega) (by omega)
        have y2 : 0 ≤ (-B) * rb := Int.mul_nonneg (by omega) r0
        have y3 : -(A * ra + B * rb) = (-A) * ra + (-B) * rb := by grind
        omega
    · exact h
    · exfalso
      rcases Int.lt_or_le B 0 with hb | hb
      · have y1 : A * (e * da) ≤ 0 := Int.mul_nonpos_of_nonneg_of_nonpos (by omega) pa
        have y2 : B * (e * db) ≤ 0 := Int.mul_nonpos_of_nonpos_of_nonneg (by omega) (by omega)
        omega
      · refine far (A * ra + B * rb) ?_ nsq
        have y1 : 1 * ra ≤ A * ra := Int.mul_le_mul_of_nonneg_right (by omega) (by omega)
        have y2 : 0 ≤ B * rb := Int.mul_nonneg hb r0
        omega
  subst hA0
  have n2 : n = (e * B) * rb := by
    have : e * (e * n) = e * (0 * ra + B * rb) := by rw [n1]
    have k : e * (e * n) = n := by rw [← Int.mul_assoc, ee, Int.one_mul]
    grind
  have d3 : d = (e * B) * db := by
    have : e * (e * d) = e * (0 * da + B * db) := by rw [d1]
    have k : e * (e * d) = d := by rw [← Int.mul_assoc, ee, Int.one_mul]
    grind
  have hg : (e * B).natAbs ∣ 1 := by
    rw [← co]
    refine Nat.dvd_gcd ?_ ?_
    · exact Int.natAbs_dvd_natAbs.2 ⟨rb, n2⟩
    · exact Int.natAbs_dvd_natAbs.2 ⟨db, d3⟩
  have h1 : (e * B).natAbs = 1 := Nat.dvd_one.1 hg
  have hBp : 0 < B := by
    rcases Int.lt_or_le 0 B with h | h
    · exact h
    · have : B * (e * db) ≤ 0 := Int.mul_nonpos_of_nonpos_of_nonneg h (by omega)
      omega
  have hB1 : B = 1 := by
    rcases he with rfl | rfl
    · omega
    · omega
  subst hB1
  exact ⟨by rw [n2, Int.mul_one], by rw [d3, Int.mul_one]⟩

/-- What is found is a solution. -/
theorem RInv.sound (h : RInv u m ra da rb db e) (hs : rb * rb + rb * rb ≤ m - 1) (h1 : (e * db) * (e * db) + (e * db) * (e * db) ≤ m - 1) (h2 : Int.gcd (e * rb) (e * db) = 1) (h3 : Int.gcd (e * db) m = 1) : RebSol u m (e * rb) (e * db) := by
  have ee : e * e = 1 := by rcases h.he with rfl | rfl <;> rfl
  refine ⟨h.pb, ?_, h1, h2, h3, ?_⟩
  · have : (e * rb) * (e * rb) = e * e * (rb * rb) := by grind
    rw [this, ee, Int.one_mul]; exact hs
  · obtain ⟨y, hy⟩ := h.cb
    exact ⟨e * y, by grind⟩

end
theorem int_cop {a b c : Int} (h : a ∣ b * c) (hg : Int.gcd b a = 1) : a ∣ c := by
  have hc : Nat.Coprime a.natAbs b.natAbs := by
    have : Nat.gcd b.natAbs a.natAbs = 1 := hg
    rw [Nat.gcd_comm] at this; exact this
  have h2 : a.natAbs ∣ b.natAbs * c.natAbs := by rw [← Int.natAbs_mul]; exact Int.natAbs_dvd_natAbs.2 h
  exact Int.natAbs_dvd_natAbs.1 (hc.dvd_of_dvd_mul_left h2)

/-- There is at most one. -/
theorem RebSol.unique {u m n d n' d' : Int} (h : RebSol u m n d) (h' : RebSol u m n' d') : n = n' ∧ d = d' := by
  obtain ⟨x, hx⟩ := h.dv
  obtain ⟨y, hy⟩ := h'.dv
  have e : n * d' - n' * d = m * (x * d' - y * d) := by grind
  have t1 := two_mul_le n d'
  have t2 := two_mul_le (-n) d'
  have t3 := two_mul_le n' d
  have t4 := two_mul_le (-n') d
  have k1 : (-n) * d' = -(n * d') := Int.neg_mul ..
  have k2 : (-n) * (-n) = n * n := by grind
  have k3 : (-n') * d = -(n' * d) := Int.neg_mul ..
  have k4 : (-n') * (-n') = n' * n' := by grind
  have s1 := h.sn
  have s2 := h.sd
  have s3 := h'.sn
  have s4 := h'.sd
  have hm : 0 < m := by have := sq_nn n; omega
  have hz : n * d' = n' * d := by
    generalize x * d' - y * d = z at *
    rcases Int.lt_trichotomy z 0 with h | h | h
    · have : m * z ≤ m * (-1) := Int.mul_le_mul_of_nonneg_left (by omega) (by omega); omega
    · subst h; omega
    · have : m * 1 ≤ m * z := Int.mul_le_mul_of_nonneg_left (by omega) (by omega); omega
  have c1 : d ∣ d' := int_cop (b := n) ⟨n', by grind⟩ h.co
  have c2 : d' ∣ d := int_cop (b := n') ⟨n, by grind⟩ h'.co
  have hd : d = d' := Int.dvd_antisymm (by have := h.pos; omega) (by have := h'.pos; omega) c1 c2
  subst hd
  exact ⟨Int.eq_of_mul_eq_mul_right (by have := h.pos; omega) hz, rfl⟩

end Go.Abs.M
end

section
set_option linter.unusedVariables false
set_option linter.unusedSimpArgs false
set_option maxHeartbeats 8000000
set_option linter.unusedVariables false
set_option linter.unusedSimpArgs false
set_option maxRecDepth 100000
namespace Go.Proofs.Ytgncmjcoojmccaa
open Go Go.Abs Go.Abs.M Go.Proofs

def prebSt (m l ra da rb db : Bool × Abs.Rows) : St := mkSt 91 [.junk, .junk, .junk, .c (.ptr 3 0 0), .c (.ptr 4 0 0), .junk, .junk, .c (.clo 53 [(11, 0, 0)]), .c (.t (.v (.func (.func 55) #[] #[]))), .junk, .junk, .junk, .c (.ptr 20 0 0), .c (.ptr 21 0 0)]
  [none, none, none, some (.var [.t (.v (.bool m.1)), .t (.lst false m.2)]), some (.var [.t (.v (.bool false)), .t (.lst true []), .t (.v (.bool false)), .t (.lst true [])]), none, none, none, none, none, none,
   some (.var [.t (.v (.bool l.1)), .t (.lst false l.2)]), none, none, none, none, none, none, none, none,
   some (.var [.t (.v (.bool ra.1)), .t (.lst false ra.2), .t (.v (.bool da.1)), .t (.lst false da.2)]), some (.var [.t (.v (.bool rb.1)), .t (.lst false rb.2), .t (.v (.bool db.1)), .t (.lst false db.2)])]

/-- What is found: the fraction, or nothing. -/
inductive RebRes (u m : Int) : List Tree → Bool → Prop where
  | found {n d : Int} {s t : Bool} {r q : Abs.Rows} : RebSol u m n d → IsI n s r → IsI d t q → RebRes u m (iT s r ++ iT t q) true
  | none : (∀ n d, ¬ RebSol u m n d) → RebRes u m (iT false [] ++ iT false []) false

theorem rebres_ex (u m : Int) : ∃ X b, RebRes u m X b := by
  by_cases h : ∃ n d, RebSol u m n d
  · obtain ⟨n, d, h⟩ := h
    exact ⟨_, _, .found h (.mk' n) (.mk' d)⟩
  · exact ⟨_, _, .none fun n d hs => h ⟨n, d, hs⟩⟩

theorem prebuild_call {u m : Int} {s t : Bool} {r q : Abs.Rows} {X : List Tree} {b : Bool} (hu : IsI u s r) (hm : IsI m t q) (hpos : 0 < m) (h1 : nl u.natAbs ≤ 274877906944) (h2 : nl m.natAbs ≤ 4294967296) (hX : RebRes u m X b) :
    ACall Try.prog 33 [.val (.agg (iT s r)), .val (.agg (iT t q))] ⟨[.val (.agg X), .val (tb b)], [none, none]⟩ := by
  obtain ⟨o1, o2, ho, co⟩ := iof_call 1 (by omega) (by omega)
  obtain ⟨z1, z2, hz, cz⟩ := iof_call 0 (by omega) (by omega)
  have n1 : nl (1 : Int).natAbs ≤ 1 := nl_le_of (by omega)
  obtain ⟨l1, l2, hl, cl⟩ := isub_call hm ho (by omega) (by omega)
  have csg := isign_call 1 hm (cmpI_gt hpos).symm
  obtain ⟨q1, q2, q3, _, hr, cd⟩ := idivmod_call hu hm (by omega) h1 (by omega)
  -- what lies between - m and m is short
  have sz : ∀ x : Int, x.natAbs ≤ m.natAbs → nl x.natAbs ≤ 4294967296 := fun x hx => Nat.le_trans (nl_mono hx) h2
  have lsz : nl (m - 1).natAbs ≤ 4294967296 := sz _ (by omega)
  refine callZ ccOk mixed [.val, .val] Try.func33 rfl rfl (by kernel_rfl) fun zwrap zadd zsub zmul zquo zrem zshl zshr zband zbor zbxor zbandn zeq zne zlt zle znot zbeq zbne zmax zmin znat zinb zofN zidx zneq znadd zdif zcut zroom zmkok zlen znth zsetr zisI zgetI zsetI zfit zpart zext zsetg zrep zwide zall zmok zmget zmset zW zth A L F hS hF => ?_
  have w1 : zle 1 0 = false := by rw [hS.le]; rfl
  cbv
  refine ⟨_, hS.call (csg), ?_⟩
  cbv
  refine bF (w1) ?_
  refine ⟨_, hS.call (co), ?_⟩
  cbv
  refine ⟨_, hS.call (cl), ?_⟩
  cbv
  refine ⟨_, hS.call (cd), ?_⟩
  cbv
  refine ⟨_, hS.call (cz), ?_⟩
  cbv
  refine ⟨_, hS.call (co), ?_⟩
  cbv
  refine loopZ ccOk mixed hS (fun (k : Nat) s' => ∃ (ra da rb db e : Int) (a1 : Bool) (a2 : Abs.Rows) (b1 : Bool) (b2 : Abs.Rows) (c1 : Bool) (c2 : Abs.Rows) (d1 : Bool) (d2 : Abs.Rows), RInv u m ra da rb db e ∧ (ra ≤ m ∧ -(e * da) ≤ m) ∧ rb = (k : Int) ∧ IsI ra a1 a2 ∧ IsI da b1 b2 ∧ IsI rb c1 c2 ∧ IsI db d1 d2 ∧ s' = prebSt (t, q) (l1, l2) (a1, a2) (b1, b2) (c1, c2) (d1, d2)) (n := (u % m).toNat)
    (s0 := prebSt (t, q) (l1, l2) (t, q) (z1, z2) (false, q3) (o1, o2)) (le_of ?_ ?_) rfl (by show 2 ≤ 22; omega) ?_ ?_
  · simp [leT, prebSt, mkSt]
  · simp [leH, prebSt, mkSt]
  · have := Int.emod_nonneg u (show m ≠ 0 by omega)
    exact ⟨m, 0, u % m, 1, 1, _, _, _, _, _, _, _, _, .start hpos, by omega, by omega, hm, hz, hr, ho, rfl⟩
  · rintro k _ ⟨ra, da, rb, db, e, a1, a2, b1, b2, c1, c2, d1, d2, hI, hle, hk, ha, hda, hb, hdb, rfl⟩
    have cs := psmall_call hb hl (by have := sz rb (by have := hI.r0; have := hI.rl; omega); omega) (by omega)
    obtain ⟨k1, k2, k3⟩ := hI.small
    have he := hI.he
    have hr0 := hI.r0
    have hrl := hI.rl
    have hpb := hI.pb
    have hpa := hI.pa
    have adb : db.natAbs ≤ m.natAbs := by rcases he with rfl | rfl <;> omega
    have ada : da.natAbs ≤ m.natAbs := by rcases he with rfl | rfl <;> omega
    have sra := sz ra (by omega)
    have srb := sz rb (by omega)
    have sda := sz da ada
    have sdb := sz db adb
    by_cases hsm : rb * rb + rb * rb ≤ m - 1
    · rw [decide_eq_true hsm] at cs
      -- the end: sign, size and common factors are asked
      obtain ⟨n, hn⟩ : ∃ n, n = e * rb := ⟨_, rfl⟩
      obtain ⟨d, hd⟩ : ∃ d, d = e * db := ⟨_, rfl⟩
      have hnn : n.natAbs = rb.natAbs := by rcases he with rfl | rfl <;> omega
      have hdd : d.natAbs = db.natAbs := by rcases he with rfl | rfl <;> omega
      have snn : nl n.natAbs ≤ 4294967296 := by rw [hnn]; exact srb
      have sdd : nl d.natAbs ≤ 4294967296 := by rw [hdd]; exact sdb
      have csn := isign_call (cmpI db 0) hdb rfl
      obtain ⟨e1, e2, hne, cne⟩ := ineg_call hb (by omega)
      obtain ⟨f1, f2, hnf, cnf⟩ := ineg_call hdb (by omega)
      have fin_t : d * d + d * d ≤ m - 1 → Int.gcd n d = 1 → Int.gcd d m = 1 → ∀ (x1 y1 : Bool) (x2 y2 : Abs.Rows), IsI n x1 x2 → IsI d y1 y2 → X = iT x1 x2 ++ iT y1 y2 ∧ b = true := fun g1 g2 g3 x1 y1 x2 y2 i1 i2 => by
        have hsol := hI.sound hsm (by rw [← hd]; exact g1) (by rw [← hd, ← hn]; exact g2) (by rw [← hd]; exact g3)
        cases hX with
        | found hs i3 i4 =>
          obtain ⟨r1, r2⟩ := hI.complete hsm hs
          rw [← hn] at r1
          rw [← hd] at r2
          obtain ⟨rfl, rfl⟩ := (i3.of r1).inj i1
          obtain ⟨rfl, rfl⟩ := (i4.of r2).inj i2
          exact ⟨rfl, rfl⟩
        | none hs => exact absurd hsol (hs _ _)
      have fin_f : ¬ (d * d + d * d ≤ m - 1 ∧ Int.gcd n d = 1 ∧ Int.gcd d m = 1) → X = iT false [] ++ iT false [] ∧ b = false := fun hnot => by
        cases hX with
        | found hs i3 i4 =>
          obtain ⟨r1, r2⟩ := hI.complete hsm hs
          rw [← hn] at r1
          rw [← hd] at r2
          subst r1 r2
          exact absurd ⟨hs.sd, hs.co, hs.cm⟩ hnot
        | none hs => exact ⟨rfl, rfl⟩
      clear hI hX hle hk k1 k2 k3 sra sda ada ha hda
      have tail : ∀ (x1 y1 : Bool) (x2 y2 : Abs.Rows), IsI n x1 x2 → IsI d y1 y2 → ACall Try.prog 53 [.val (.agg (iT y1 y2)), .ref (iT l1 l2)] ⟨[.val (tb (decide (d * d + d * d ≤ m - 1)))], [none, some (.var [.t (.v (.bool l1)), .t (.lst false l2)])]⟩ ∧
          ACall Try.prog 58 [.val (.agg (iT x1 x2)), .val (.agg (iT y1 y2))] ⟨[.val (tb (decide (Int.gcd n d = 1)))], [none, none]⟩ ∧
          ACall Try.prog 58 [.val (.agg (iT y1 y2)), .val (.agg (iT t q))] ⟨[.val (tb (decide (Int.gcd d m = 1)))], [none, none]⟩ := fun x1 y1 x2 y2 i1 i2 =>
        ⟨psmall_call i2 hl (by omega) (by omega), pcoprime_call i1 i2 (by omega) (by omega), pcoprime_call i2 hm (by omega) (by omega)⟩
      have fin_z : X = iT false [] ++ iT false [] ∧ b = false → F ⟨[.val (.agg [.v (.bool false), .lst true [], .v (.bool false), .lst true []]), .val (tb false)], [none, none]⟩ := fun ⟨g1, g2⟩ => by
        rw [g1, g2] at hF
        exact fin2w hF ⟨.v _, TLe.drop _ _, .v _, TLe.drop _ _, trivial⟩ (TVLe.refl _)
      obtain ⟨P1, hP1⟩ : ∃ P, P = decide (d * d + d * d ≤ m - 1) := ⟨_, rfl⟩
      obtain ⟨P2, hP2⟩ : ∃ P, P = decide (Int.gcd n d = 1) := ⟨_, rfl⟩
      obtain ⟨P3, hP3⟩ : ∃ P, P = decide (Int.gcd d m = 1) := ⟨_, rfl⟩
      rw [← hP1, ← hP2, ← hP3] at tail
      have fin_z1 : P1 = false → X = iT false [] ++ iT false [] ∧ b = false := fun h => fin_f fun h' => of_decide_eq_false (hP1.symm.trans h) h'.1
      have fin_z2 : P2 = false → X = iT false [] ++ iT false [] ∧ b = false := fun h => fin_f fun h' => of_decide_eq_false (hP2.symm.trans h) h'.2.1
      have fin_z3 : P3 = false → X = iT false [] ++ iT false [] ∧ b = false := fun h => fin_f fun h' => of_decide_eq_false (hP3.symm.trans h) h'.2.2
      have fin_y : P1 = true → P2 = true → P3 = true → ∀ (x1 y1 : Bool) (x2 y2 : Abs.Rows), IsI n x1 x2 → IsI d y1 y2 → F ⟨[.val (.agg (iT x1 x2 ++ iT y1 y2)), .val (tb true)], [none, none]⟩ := fun g1 g2 g3 x1 y1 x2 y2 i1 i2 => by
        obtain ⟨k1, k2⟩ := fin_t (of_decide_eq_true (hP1.symm.trans g1)) (of_decide_eq_true (hP2.symm.trans g2)) (of_decide_eq_true (hP3.symm.trans g3)) x1 y1 x2 y2 i1 i2
        rw [k1, k2] at hF
        exact hF _ (ResLe.refl _)
      clear hP1 hP2 hP3 fin_t fin_f
      have w2 : znot true = false := hS.not true
      rcases he with rfl | rfl
      · rw [Int.one_mul] at hn hd hpb
        subst hn hd
        obtain ⟨t1, t2, t3⟩ := tail _ _ _ _ hb hdb
        have fin := fun g1 g2 g3 => fin_y g1 g2 g3 _ _ _ _ hb hdb
        rw [cmpI_gt hpb] at csn
        clear tail fin_y
        have w3 : zlt 1 0 = false := by rw [hS.lt]; rfl
        cbv
        refine ⟨_, hS.call (cs), ?_⟩
        cbv
        refine bF (w2) ?_
        refine ⟨_, hS.call (csn), ?_⟩
        cbv
        refine bF (w3) ?_
        refine ⟨_, hS.call (t1), ?_⟩
        cbv
        refine ⟨fun g1 => ?_, fun g1 => ?_⟩
        · rw [hS.not] at g1
          cases P1 with
          | true => cases g1
          | false => exact fin_z (fin_z1 rfl)
        · rw [hS.not] at g1
          cases P1 with
          | false => cases g1
          | true =>
            refine ⟨_, hS.call t2, ?_⟩
            cbv
            refine ⟨fun g2 => ?_, fun g2 => ?_⟩
            · rw [hS.not] at g2
              cases P2 with
              | true => cases g2
              | false => exact fin_z (fin_z2 rfl)
            · rw [hS.not] at g2
              cases P2 with
              | false => cases g2
              | true =>
                refine ⟨_, hS.call t3, ?_⟩
                cbv
                refine ⟨fun g3 => ?_, fun g3 => ?_⟩
                · rw [hS.not] at g3
                  cases P3 with
                  | true => cases g3
                  | false => exact fin_z (fin_z3 rfl)
                · rw [hS.not] at g3
                  cases P3 with
                  | false => cases g3
                  | true => exact fin rfl rfl rfl
      · have hn' : n = -rb := by omega
        have hd' : d = -db := by omega
        subst hn' hd'
        obtain ⟨t1, t2, t3⟩ := tail _ _ _ _ hne hnf
        have fin := fun g1 g2 g3 => fin_y g1 g2 g3 _ _ _ _ hne hnf
        rw [cmpI_lt (by omega)] at csn
        clear tail fin_y
        have w3 : zlt (-1) 0 = true := by rw [hS.lt]; rfl
        cbv
        refine ⟨_, hS.call (cs), ?_⟩
        cbv
        refine bF (w2) ?_
        refine ⟨_, hS.call (csn), ?_⟩
        cbv
        refine bT (w3) ?_
        refine ⟨_, hS.call (cne), ?_⟩
        cbv
        refine ⟨_, hS.call (cnf), ?_⟩
        cbv
        refine ⟨_, hS.call (t1), ?_⟩
        cbv
        refine ⟨fun g1 => ?_, fun g1 => ?_⟩
        · rw [hS.not] at g1
          cases P1 with
          | true => cases g1
          | false => exact fin_z (fin_z1 rfl)
        · rw [hS.not] at g1
          cases P1 with
          | false => cases g1
          | true =>
            refine ⟨_, hS.call t2, ?_⟩
            cbv
            refine ⟨fun g2 => ?_, fun g2 => ?_⟩
            · rw [hS.not] at g2
              cases P2 with
              | true => cases g2
              | false => exact fin_z (fin_z2 rfl)
            · rw [hS.not] at g2
              cases P2 with
              | false => cases g2
              | true =>
                refine ⟨_, hS.call t3, ?_⟩
                cbv
                refine ⟨fun g3 => ?_, fun g3 => ?_⟩
                · rw [hS.not] at g3
                  cases P3 with
                  | true => cases g3
                  | false => exact fin_z (fin_z3 rfl)
                · rw [hS.not] at g3
                  cases P3 with
                  | false => cases g3
                  | true => exact fin rfl rfl rfl
    · rw [decide_eq_false hsm] at cs
      obtain ⟨hrb, hI', hlt⟩ := hI.step hsm
      obtain ⟨g1, g2, g3, hq, _, cdm⟩ := idivmod_call ha hb (by omega) (by omega) (by omega)
      have hqle : (ra / rb).natAbs ≤ m.natAbs := by
        have h1 : 0 ≤ ra / rb := Int.ediv_nonneg (by omega) (by omega)
        have h2 : ra / rb ≤ ra := Int.ediv_le_self _ (by omega)
        omega
      obtain ⟨i1, i2, j1, j2, hi, hj, ccm⟩ := pcombine_call ha hda hb hdb hq (by omega) (by omega) (by omega) (by omega) (by have := sz _ hqle; omega)
      have hnx : ∃ (ra' da' rb' db' e' : Int) (a1 : Bool) (a2 : Abs.Rows) (b1 : Bool) (b2 : Abs.Rows) (c1' : Bool) (c2' : Abs.Rows) (d1' : Bool) (d2' : Abs.Rows), RInv u m ra' da' rb' db' e' ∧ (ra' ≤ m ∧ -(e' * da') ≤ m) ∧ rb' = (((ra - ra / rb * rb).toNat : Nat) : Int) ∧ IsI ra' a1 a2 ∧ IsI da' b1 b2 ∧ IsI rb' c1' c2' ∧ IsI db' d1' d2' ∧ prebSt (t, q) (l1, l2) (c1, c2) (d1, d2) (i1, i2) (j1, j2) = prebSt (t, q) (l1, l2) (a1, a2) (b1, b2) (c1', c2') (d1', d2') :=
        ⟨_, _, _, _, _, _, _, _, _, _, _, _, _, hI', ⟨by omega, by have : - -e * db = e * db := by rw [Int.neg_neg]
                                                                   have e2 : -(-e * db) = e * db := by rw [Int.neg_mul, Int.neg_neg]
                                                                   omega⟩, by have := hI'.r0; omega, hb, hdb, hi, hj, rfl⟩
      have hdec : (ra - ra / rb * rb).toNat < k := by have := hI'.r0; omega
      have w2 : znot false = true := hS.not false
      generalize (ra - ra / rb * rb).toNat = k' at *
      clear hI hI' hX
      cbv
      refine ⟨_, hS.call (cs), ?_⟩
      cbv
      refine bT (w2) ?_
      refine ⟨_, hS.call (cdm), ?_⟩
      cbv
      refine ⟨_, hS.call (ccm), ?_⟩
      cbv
      exact again (s' := prebSt (t, q) (l1, l2) (c1, c2) (d1, d2) (i1, i2) (j1, j2)) (m := k') (by simp [leT, prebSt, mkSt]) (by simp [leH, prebSt, mkSt]) rfl (by show 2 ≤ 22; omega) hdec hnx
end Go.Proofs.Ytgncmjcoojmccaa
end

section
set_option linter.unusedVariables false
set_option linter.unusedSimpArgs false
set_option maxHeartbeats 8000000
set_option linter.unusedVariables false
set_option linter.unusedSimpArgs false
set_option maxRecDepth 100000
namespace Go.Proofs.Ytgncmjcoojmccaa
open Go Go.Abs Go.Abs.M Go.Proofs

theorem isroot_ex : ∀ (n : Nat), ∃ b, IsRoot (n : Int) b
  | 0 => ⟨0, by omega, by omega, by omega⟩
  | n + 1 => by
    obtain ⟨b, h1, h2, h3⟩ := isroot_ex n
    by_cases h : (b + 1) * (b + 1) ≤ ((n + 1 : Nat) : Int)
    · refine ⟨b + 1, by omega, h, ?_⟩
      have e : (b + 1 + 1) * (b + 1 + 1) = (b + 1) * (b + 1) + 2 * b + 3 := by grind
      omega
    · exact ⟨b, h1, by omega, by omega⟩

/-- The bound of numerators and denominators. -/
def RootB (m b : Int) : Prop := IsRoot ((m - 1) / 2) b

theorem rootB_ex {m : Int} (h : 0 < m) : ∃ b, RootB m b := by
  obtain ⟨b, hb⟩ := isroot_ex ((m - 1) / 2).toNat
  rw [Int.toNat_of_nonneg (by omega)] at hb
  exact ⟨b, hb⟩

theorem RootB.iff {m b x : Int} (h : RootB m b) (hx : 0 ≤ x) : x * x + x * x ≤ m - 1 ↔ x ≤ b := by
  rw [← h.le_iff hx]; omega

theorem RootB.le {m b : Int} (h : RootB m b) (hm : 0 < m) : 0 ≤ b ∧ b ≤ m := by
  have h1 := h.1
  have h2 := (h.iff h1).2 (Int.le_refl _)
  refine ⟨h1, ?_⟩
  rcases Int.lt_or_le m b with g | g
  · have := sq_mono (x := 1) (y := b) (by omega) (by omega)
    have h3 : b * 1 ≤ b * b := Int.mul_le_mul_of_nonneg_left (by omega) (by omega)
    omega
  · exact g

theorem rrroot_call {m b : Int} {s : Bool} {r : Abs.Rows} {u : Bool} {w : Abs.Rows} (hm : IsI m s r) (h0 : 0 < m) (hm1 : nl m.natAbs ≤ 1000) (hb : RootB m b) (hu : IsI b u w) : ACall Try.prog 34 [.val (.agg (iT s r))] ⟨[.val (.agg (iT u w))], [none]⟩ := by
  obtain ⟨o1, o2, ho, co⟩ := rof_call 1 (by omega) (by omega)
  obtain ⟨t1, t2, ht, ct⟩ := rof_call 2 (by omega) (by omega)
  have n1 : nl (1 : Int).natAbs ≤ 1 := nl_le_of (by omega)
  have n2 : nl (2 : Int).natAbs ≤ 1 := nl_le_of (by omega)
  have n3 : nl (m - 1).natAbs ≤ 1000 := Nat.le_trans (nl_mono (by omega)) hm1
  have n4 : nl ((m - 1) / 2).natAbs ≤ 1000 := Nat.le_trans (nl_mono (by omega)) hm1
  obtain ⟨s1, s2, hs, cs⟩ := rsub_call hm ho (by omega) (by omega)
  obtain ⟨q1, q2, q3, hq, _, cd⟩ := rdivmod_call hs ht (by omega) (by omega) (by omega)
  have cr := rroot_call hq (by omega) n4 hb hu
  clear hm ho ht hs hq hb hu
  refine callZ ccOk mixed [.val] Try.func34 rfl rfl (by kernel_rfl) fun zwrap zadd zsub zmul zquo zrem zshl zshr zband zbor zbxor zbandn zeq zne zlt zle znot zbeq zbne zmax zmin znat zinb zofN zidx zneq znadd zdif zcut zroom zmkok zlen znth zsetr zisI zgetI zsetI zfit zpart zext zsetg zrep zwide zall zmok zmget zmset zW zth A L F hS hF => ?_
  cbv
  refine ⟨_, hS.call (co), ?_⟩
  cbv
  refine ⟨_, hS.call (cs), ?_⟩
  cbv
  refine ⟨_, hS.call (ct), ?_⟩
  cbv
  refine ⟨_, hS.call (cd), ?_⟩
  cbv
  refine ⟨_, hS.call (cr), ?_⟩
  cbv
  exact hF _ (ResLe.refl _)

/-- What the sign and the two questions need. -/
theorem rinv_cop {u m ra da rb db e : Int} (h : RInv u m ra da rb db e) (hc : Int.gcd (e * db) m = 1) : Int.gcd (e * rb) (e * db) = 1 := by
  have hg : Int.gcd (e * rb) (e * db) ∣ 1 := by
    rw [← hc]
    refine Int.dvd_gcd ?_ ?_ |> fun h => by exact_mod_cast h
    · exact Int.gcd_dvd_right ..
    · obtain ⟨x, hx⟩ := Int.gcd_dvd_left (a := e * rb) (b := e * db)
      obtain ⟨y, hy⟩ := Int.gcd_dvd_right (a := e * rb) (b := e * db)
      generalize ((Int.gcd (e * rb) (e * db) : Nat) : Int) = g at *
      have ee : e * e = 1 := by rcases h.he with rfl | rfl <;> rfl
      have hd := h.det
      have e1 : m = ra * (e * db) - (e * rb) * da := by
        have : e * (e * m) = m := by rw [← Int.mul_assoc, ee, Int.one_mul]
        rw [← hd] at this
        grind
      exact ⟨ra * y - x * da, by rw [e1, hx, hy]; grind⟩
  exact Nat.dvd_one.1 hg

def rrbSt (m b ra da rb db : Bool × Abs.Rows) : St := mkSt 81 [.junk, .junk, .junk, .c (.ptr 3 0 0), .c (.ptr 4 0 0), vb false, .c (.ptr 9 0 0), .junk, .c (.ptr 13 0 0), .junk, .c (.ptr 18 0 0), .c (.ptr 19 0 0), .c (.ptr 20 0 0)]
  [none, none, none, some (.var [.t (.v (.bool m.1)), .t (.lst false m.2)]), some (.var [.t (.v (.bool false)), .t (.lst true []), .t (.v (.bool false)), .t (.lst true [])]), none, none, none, none,
   some (.var [.t (.v (.bool b.1)), .t (.lst false b.2)]), none, none, none, some (.var [.t (.v (.bool rb.1)), .t (.lst false rb.2)]), none, none, none, none,
   some (.var [.t (.v (.bool ra.1)), .t (.lst false ra.2)]), some (.var [.t (.v (.bool da.1)), .t (.lst false da.2)]), some (.var [.t (.v (.bool db.1)), .t (.lst false db.2)])]

theorem rrebuild_call {u m : Int} {s t : Bool} {r q : Abs.Rows} {X : List Tree} {b : Bool} (hu : IsI u s r) (hm : IsI m t q) (hpos : 0 < m) (h1 : nl u.natAbs ≤ 1000) (h2 : nl m.natAbs ≤ 1000) (hX : RebRes u m X b) :
    ACall Try.prog 36 [.val (.agg (iT s r)), .val (.agg (iT t q))] ⟨[.val (.agg X), .val (tb b)], [none, none]⟩ := by
  obtain ⟨o1, o2, ho, co⟩ := rof_call 1 (by omega) (by omega)
  obtain ⟨z1, z2, hz, cz⟩ := rof_call 0 (by omega) (by omega)
  have n1 : nl (1 : Int).natAbs ≤ 1 := nl_le_of (by omega)
  have csg := rsign_call 1 hm (cmpI_gt hpos).symm
  obtain ⟨q1, q2, q3, _, hr, cd⟩ := rdivmod_call hu hm (by omega) (by omega) (by omega)
  obtain ⟨B, hB⟩ := rootB_ex hpos
  obtain ⟨bs, br, hbI⟩ : ∃ bs br, IsI B bs br := ⟨_, _, .mk' B⟩
  have crt := rrroot_call hm hpos h2 hB hbI
  have sz : ∀ x : Int, x.natAbs ≤ m.natAbs → nl x.natAbs ≤ 1000 := fun x hx => Nat.le_trans (nl_mono hx) h2
  have hBle := hB.le hpos
  have szB := sz B (by omega)
  have hround : ∀ (ra da rb db e : Int) (a1 : Bool) (a2 : Abs.Rows) (b1 : Bool) (b2 : Abs.Rows) (c1 : Bool) (c2 : Abs.Rows) (d1 : Bool) (d2 : Abs.Rows), RInv u m ra da rb db e → (ra ≤ m ∧ -(e * da) ≤ m) → IsI ra a1 a2 → IsI da b1 b2 → IsI rb c1 c2 → IsI db d1 d2 →
      ACall Try.prog 32 [.val (.agg (iT c1 c2)), .val (.agg (iT bs br))] ⟨[.val (ti .i64 (cmpI rb B))], [none, none]⟩ ∧
      (¬ rb ≤ B → ∃ (g1 : Bool) (g2 : Abs.Rows) (i2 : Abs.Rows) (p1 : Bool) (p2 : Abs.Rows) (j1 : Bool) (j2 : Abs.Rows),
        ACall Try.prog 42 [.val (.agg (iT a1 a2)), .val (.agg (iT c1 c2))] ⟨[.val (.agg (iT g1 g2)), .val (.agg (iT false i2)), .val (ti .i64 0)], [none, none]⟩ ∧
        ACall Try.prog 28 [.val (.agg (iT g1 g2)), .val (.agg (iT d1 d2))] ⟨[.val (.agg (iT p1 p2))], [none, none]⟩ ∧
        ACall Try.prog 59 [.val (.agg (iT b1 b2)), .val (.agg (iT p1 p2))] ⟨[.val (.agg (iT j1 j2))], [none, none]⟩ ∧
        RInv u m rb db (ra - ra / rb * rb) (da - ra / rb * db) (-e) ∧ (rb ≤ m ∧ -(-e * db) ≤ m) ∧ IsI (ra - ra / rb * rb) false i2 ∧ IsI (da - ra / rb * db) j1 j2 ∧ 0 ≤ ra - ra / rb * rb ∧ ra - ra / rb * rb < rb) ∧
      (rb ≤ B → ∃ (n d : Int) (x1 : Bool) (x2 : Abs.Rows) (y1 : Bool) (y2 : Abs.Rows) (w : Abs.Rows), 
        (e = 1 ∧ iT x1 x2 = iT c1 c2 ∧ iT y1 y2 = iT d1 d2 ∧ ACall Try.prog 31 [.val (.agg (iT d1 d2))] ⟨[.val (ti .i64 1)], [none]⟩ ∨
         e = -1 ∧ ACall Try.prog 31 [.val (.agg (iT d1 d2))] ⟨[.val (ti .i64 (-1))], [none]⟩ ∧ ACall Try.prog 35 [.val (.agg (iT c1 c2))] ⟨[.val (.agg (iT x1 x2))], [none]⟩ ∧ ACall Try.prog 35 [.val (.agg (iT d1 d2))] ⟨[.val (.agg (iT y1 y2))], [none]⟩) ∧
        ACall Try.prog 31 [.val (.agg (iT y1 y2))] ⟨[.val (ti .i64 1)], [none]⟩ ∧
        ACall Try.prog 32 [.val (.agg (iT y1 y2)), .val (.agg (iT bs br))] ⟨[.val (ti .i64 (cmpI d B))], [none, none]⟩ ∧
        ACall Try.prog 61 [.val (.agg (iT y1 y2)), .val (.agg (iT t q))] ⟨[.val (.agg (iT false w))], [none, none]⟩ ∧
        ACall Try.prog 32 [.val (.agg (iT false w)), .val (.agg (iT o1 o2))] ⟨[.val (ti .i64 (cmpI (Int.gcd d m) 1))], [none, none]⟩ ∧
        (d ≤ B → Int.gcd d m = 1 → X = iT x1 x2 ++ iT y1 y2 ∧ b = true) ∧ (¬ (d ≤ B ∧ Int.gcd d m = 1) → X = iT false [] ++ iT false [] ∧ b = false)) := by
    intro ra da rb db e a1 a2 b1 b2 c1 c2 d1 d2 hI hle ha hda hb hdb
    obtain ⟨k1, k2, k3⟩ := hI.small
    have he := hI.he
    have hr0 := hI.r0
    have hrl := hI.rl
    have hpb := hI.pb
    have hpa := hI.pa
    have adb : db.natAbs ≤ m.natAbs := by rcases he with rfl | rfl <;> omega
    have ada : da.natAbs ≤ m.natAbs := by rcases he with rfl | rfl <;> omega
    have sra := sz ra (by omega)
    have srb := sz rb (by omega)
    have sda := sz da ada
    have sdb := sz db adb
    have hiff := hB.iff hr0
    refine ⟨rcmp_call _ hb hbI rfl (by omega) (by omega), fun hgt => ?_, fun hsm' => ?_⟩
    · obtain ⟨hrb, hI', hlt⟩ := hI.step (fun h => hgt (hiff.1 h))
      obtain ⟨g1, g2, g3, hq, hrest, cdm⟩ := rdivmod_call ha hb (by omega) (by omega) (by omega)
      have hqle : (ra / rb).natAbs ≤ m.natAbs := by
        have h1 : 0 ≤ ra / rb := Int.ediv_nonneg (by omega) (by omega)
        have h2 : ra / rb ≤ ra := Int.ediv_le_self _ (by omega)
        omega
      have sq := sz _ hqle
      obtain ⟨p1, p2, hp, cm⟩ := rmul_call hq hdb (by omega) (by omega)
      have sp : nl (ra / rb * db).natAbs ≤ 2000 := by
        rw [Int.natAbs_mul]
        have := nl_mul (ra / rb).natAbs db.natAbs
        omega
      obtain ⟨j1, j2, hj, cs⟩ := rsub_call hda hp (by omega) (by omega)
      have e2 : ra - ra / rb * rb = ra % rb := by have := Int.emod_add_mul_ediv ra rb; rw [Int.mul_comm]; omega
      refine ⟨g1, g2, g3, p1, p2, j1, j2, cdm, cm, cs, hI', ⟨by omega, ?_⟩, by rw [e2]; exact hrest, hj, by rw [e2]; exact Int.emod_nonneg _ (by omega), hlt⟩
      have e3 : -(-e * db) = e * db := by rw [Int.neg_mul, Int.neg_neg]
      omega
    · have hsm := hiff.2 hsm'
      obtain ⟨n, hn⟩ : ∃ n, n = e * rb := ⟨_, rfl⟩
      obtain ⟨d, hd⟩ : ∃ d, d = e * db := ⟨_, rfl⟩
      have hd0 : 0 < d := by rw [hd]; exact hpb
      have hdd : d.natAbs = db.natAbs := by rcases he with rfl | rfl <;> omega
      have sdd : nl d.natAbs ≤ 1000 := by rw [hdd]; exact sdb
      have hiffd := hB.iff (show 0 ≤ d by omega)
      obtain ⟨x1, x2, y1, y2, i1, i2, hway⟩ : ∃ (x1 : Bool) (x2 : Abs.Rows) (y1 : Bool) (y2 : Abs.Rows), IsI n x1 x2 ∧ IsI d y1 y2 ∧
        (e = 1 ∧ iT x1 x2 = iT c1 c2 ∧ iT y1 y2 = iT d1 d2 ∧ ACall Try.prog 31 [.val (.agg (iT d1 d2))] ⟨[.val (ti .i64 1)], [none]⟩ ∨
         e = -1 ∧ ACall Try.prog 31 [.val (.agg (iT d1 d2))] ⟨[.val (ti .i64 (-1))], [none]⟩ ∧ ACall Try.prog 35 [.val (.agg (iT c1 c2))] ⟨[.val (.agg (iT x1 x2))], [none]⟩ ∧ ACall Try.prog 35 [.val (.agg (iT d1 d2))] ⟨[.val (.agg (iT y1 y2))], [none]⟩) := by
        rcases he with rfl | rfl
        · rw [Int.one_mul] at hn hd hpb
          exact ⟨c1, c2, d1, d2, hb.of hn.symm, hdb.of hd.symm, .inl ⟨rfl, rfl, rfl, rsign_call 1 hdb (cmpI_gt hpb).symm⟩⟩
        · obtain ⟨e1, e2, hne, cne⟩ := rneg_call hb (by omega)
          obtain ⟨f1, f2, hnf, cnf⟩ := rneg_call hdb (by omega)
          exact ⟨e1, e2, f1, f2, hne.of (by omega), hnf.of (by omega), .inr ⟨rfl, rsign_call (-1) hdb (cmpI_lt (by omega)).symm, cne, cnf⟩⟩
      obtain ⟨w, hw, cg⟩ := rgcd_call i2 hm (by omega) (by omega)
      have sg : nl (((Int.gcd d m : Nat) : Int)).natAbs ≤ 1000 := Nat.le_trans (nl_mono (by
        have := Nat.le_of_dvd (by omega) (Nat.gcd_dvd_left d.natAbs m.natAbs)
        show (((Int.gcd d m : Nat) : Int)).natAbs ≤ d.natAbs
        rw [Int.natAbs_natCast]; exact this)) sdd
      refine ⟨n, d, x1, x2, y1, y2, w, hway, rsign_call 1 i2 (cmpI_gt hd0).symm, rcmp_call _ i2 hbI rfl (by omega) (by omega), cg, rcmp_call _ hw ho rfl (by omega) (by omega), fun g1 g3 => ?_, fun hnot => ?_⟩
      · have g2 := rinv_cop hI (by rw [← hd]; exact g3)
        have hsol := hI.sound hsm (by rw [← hd]; exact hiffd.2 g1) g2 (by rw [← hd]; exact g3)
        cases hX with
        | found hs i3 i4 =>
          obtain ⟨r1, r2⟩ := hI.complete hsm hs
          rw [← hn] at r1
          rw [← hd] at r2
          obtain ⟨rfl, rfl⟩ := (i3.of r1).inj i1
          obtain ⟨rfl, rfl⟩ := (i4.of r2).inj i2
          exact ⟨rfl, rfl⟩
        | none hs => exact absurd hsol (hs _ _)
      · cases hX with
        | found hs i3 i4 =>
          obtain ⟨r1, r2⟩ := hI.complete hsm hs
          rw [← hd] at r2
          subst r2
          exact absurd ⟨hiffd.1 hs.sd, hs.cm⟩ hnot
        | none hs => exact ⟨rfl, rfl⟩
  have hr0 := Int.emod_nonneg u (show m ≠ 0 by omega)
  have hcmp : ∀ x y : Int, (0 < cmpI x y ↔ ¬ x ≤ y) ∧ (cmpI x y = 0 ↔ x = y) := fun x y => by
    unfold cmpI
    split
    · constructor <;> omega
    · split <;> constructor <;> omega
  clear hX szB n1
  refine callZ ccOk mixed [.val, .val] Try.func36 rfl rfl (by kernel_rfl) fun zwrap zadd zsub zmul zquo zrem zshl zshr zband zbor zbxor zbandn zeq zne zlt zle znot zbeq zbne zmax zmin znat zinb zofN zidx zneq znadd zdif zcut zroom zmkok zlen znth zsetr zisI zgetI zsetI zfit zpart zext zsetg zrep zwide zall zmok zmget zmset zW zth A L F hS hF => ?_
  have w1 : zle 1 0 = false := by rw [hS.le]; rfl
  have w2 : zlt 1 0 = false := by rw [hS.lt]; rfl
  have w3 : zlt (-1) 0 = true := by rw [hS.lt]; rfl
  have w4 : zeq 1 0 = false := by rw [hS.eq]; rfl
  have A1 : ∀ x y : Int, ∃ c : Int, cmpI x y = c ∧ zlt 0 c = decide (¬ x ≤ y) := fun x y => ⟨_, rfl, by
    rw [hS.lt]; exact decide_eq_decide.2 (hcmp x y).1⟩
  have A2 : ∀ x y : Int, ∃ c : Int, cmpI x y = c ∧ zne c 0 = decide (x ≠ y) := fun x y => ⟨_, rfl, by
    rw [hS.ne]; exact decide_eq_decide.2 (not_congr (hcmp x y).2)⟩
  cbv
  refine ⟨_, hS.call (csg), ?_⟩
  cbv
  refine bF (w1) ?_
  refine ⟨_, hS.call (crt), ?_⟩
  cbv
  refine ⟨_, hS.call (cd), ?_⟩
  cbv
  refine ⟨_, hS.call (cz), ?_⟩
  cbv
  refine ⟨_, hS.call (co), ?_⟩
  cbv
  refine loopZ ccOk mixed hS (fun (k : Nat) s' => ∃ (ra da rb db e : Int) (a1 : Bool) (a2 : Abs.Rows) (b1 : Bool) (b2 : Abs.Rows) (c1 : Bool) (c2 : Abs.Rows) (d1 : Bool) (d2 : Abs.Rows), RInv u m ra da rb db e ∧ (ra ≤ m ∧ -(e * da) ≤ m) ∧ rb = (k : Int) ∧ IsI ra a1 a2 ∧ IsI da b1 b2 ∧ IsI rb c1 c2 ∧ IsI db d1 d2 ∧ s' = rrbSt (t, q) (bs, br) (a1, a2) (b1, b2) (c1, c2) (d1, d2)) (n := (u % m).toNat)
    (s0 := rrbSt (t, q) (bs, br) (t, q) (z1, z2) (false, q3) (o1, o2)) (le_of ?_ ?_) rfl (by show 2 ≤ 21; omega) ?_ ?_
  · simp [leT, rrbSt, mkSt, vb]
  · simp [leH, rrbSt, mkSt]
  · exact ⟨m, 0, u % m, 1, 1, _, _, _, _, _, _, _, _, .start hpos, by omega, by omega, hm, hz, hr, ho, rfl⟩
  · rintro k s1 ⟨ra, da, rb, db, e, a1, a2, b1, b2, c1, c2, d1, d2, hI, hle, hk, ha, hda, hb, hdb, hs1⟩
    obtain ⟨cc, hgo, hend⟩ := hround ra da rb db e a1 a2 b1 b2 c1 c2 d1 d2 hI hle ha hda hb hdb
    obtain ⟨C, hC, hC2⟩ := A1 rb B
    rw [hC] at cc
    by_cases hsm : rb ≤ B
    · rw [decide_eq_false (fun h => h hsm)] at hC2
      obtain ⟨n, d, x1, x2, y1, y2, w, hway, t1, t2, t3, t4, fT, fF⟩ := hend hsm
      obtain ⟨D, hD, hD2⟩ := A1 d B
      obtain ⟨G, hG, hG2⟩ := A2 (Int.gcd d m) 1
      rw [hD] at t2
      rw [hG] at t4
      have fT' : d ≤ B → Int.gcd d m = 1 → F ⟨[.val (.agg (iT x1 x2 ++ iT y1 y2)), .val (tb true)], [none, none]⟩ := fun g1 g2 => by
        obtain ⟨k1, k2⟩ := fT g1 g2
        rw [k1, k2] at hF
        exact hF _ (ResLe.refl _)
      have fF' : ¬ (d ≤ B ∧ Int.gcd d m = 1) → F ⟨[.val (.agg [.v (.bool false), .lst true [], .v (.bool false), .lst true []]), .val (tb false)], [none, none]⟩ := fun g => by
        obtain ⟨k1, k2⟩ := fF g
        rw [k1, k2] at hF
        exact fin2w hF ⟨.v _, TLe.drop _ _, .v _, TLe.drop _ _, trivial⟩ (TVLe.refl _)
      clear hround hgo hend A1 A2 hcmp fT fF hF hI hle hk ha hda hb hdb hC hD hG
      rcases hway with ⟨-, E1, E2, s1c⟩ | ⟨-, s1c, nc, nd'⟩
      · cases E1
        cases E2
        subst hs1
        cbv
        refine ⟨_, hS.call (cc), ?_⟩
        cbv
        refine bF (hC2) ?_
        refine ⟨_, hS.call (s1c), ?_⟩
        cbv
        refine bF (w2) ?_
        refine ⟨_, hS.call (t1), ?_⟩
        cbv
        refine bF (w4) ?_
        refine ⟨_, hS.call (t2), ?_⟩
        cbv
        refine ⟨fun g => ?_, fun g => ?_⟩
        all_goals rw [hD2] at g
        · exact fF' fun h => of_decide_eq_true g h.1
        · have g := Decidable.not_not.1 (of_decide_eq_false g)
          refine ⟨_, hS.call (t3), ?_⟩
          cbv
          refine ⟨_, hS.call (co), ?_⟩
          cbv
          refine ⟨_, hS.call (t4), ?_⟩
          cbv
          refine ⟨fun g' => ?_, fun g' => ?_⟩
          all_goals rw [hG2] at g'
          · exact fF' fun h => of_decide_eq_true g' (by rw [h.2]; rfl)
          · have g' := Decidable.not_not.1 (of_decide_eq_false g')
            exact fT' g (Int.ofNat_inj.1 (show ((Int.gcd d m : Nat) : Int) = ((1 : Nat) : Int) from g'))
      · subst hs1
        cbv
        refine ⟨_, hS.call (cc), ?_⟩
        cbv
        refine bF (hC2) ?_
        refine ⟨_, hS.call (s1c), ?_⟩
        cbv
        refine bT (w3) ?_
        refine ⟨_, hS.call (nc), ?_⟩
        cbv
        refine ⟨_, hS.call (nd'), ?_⟩
        cbv
        refine ⟨_, hS.call (t1), ?_⟩
        cbv
        refine bF (w4) ?_
        refine ⟨_, hS.call (t2), ?_⟩
        cbv
        refine ⟨fun g => ?_, fun g => ?_⟩
        all_goals rw [hD2] at g
        · exact fF' fun h => of_decide_eq_true g h.1
        · have g := Decidable.not_not.1 (of_decide_eq_false g)
          refine ⟨_, hS.call (t3), ?_⟩
          cbv
          refine ⟨_, hS.call (co), ?_⟩
          cbv
          refine ⟨_, hS.call (t4), ?_⟩
          cbv
          refine ⟨fun g' => ?_, fun g' => ?_⟩
          all_goals rw [hG2] at g'
          · exact fF' fun h => of_decide_eq_true g' (by rw [h.2]; rfl)
          · have g' := Decidable.not_not.1 (of_decide_eq_false g')
            exact fT' g (Int.ofNat_inj.1 (show ((Int.gcd d m : Nat) : Int) = ((1 : Nat) : Int) from g'))
    · rw [decide_eq_true hsm] at hC2
      obtain ⟨g1, g2, i2, p1, p2, j1, j2, cdm, cm, cs, hI', hle', hi, hj, r1, r2⟩ := hgo hsm
      have hnx : ∃ (ra' da' rb' db' e' : Int) (a1 : Bool) (a2 : Abs.Rows) (b1 : Bool) (b2 : Abs.Rows) (c1' : Bool) (c2' : Abs.Rows) (d1' : Bool) (d2' : Abs.Rows), RInv u m ra' da' rb' db' e' ∧ (ra' ≤ m ∧ -(e' * da') ≤ m) ∧ rb' = (((ra - ra / rb * rb).toNat : Nat) : Int) ∧ IsI ra' a1 a2 ∧ IsI da' b1 b2 ∧ IsI rb' c1' c2' ∧ IsI db' d1' d2' ∧ rrbSt (t, q) (bs, br) (c1, c2) (d1, d2) (false, i2) (j1, j2) = rrbSt (t, q) (bs, br) (a1, a2) (b1, b2) (c1', c2') (d1', d2') :=
        ⟨_, _, _, _, _, _, _, _, _, _, _, _, _, hI', hle', by omega, hb, hdb, hi, hj, rfl⟩
      have hdec : (ra - ra / rb * rb).toNat < k := by omega
      generalize (ra - ra / rb * rb).toNat = k' at *
      clear hround hgo hend A1 A2 hcmp hI hI' hle hle' hC hk hi hj
      subst hs1
      cbv
      refine ⟨_, hS.call (cc), ?_⟩
      cbv
      refine bT (hC2) ?_
      refine ⟨_, hS.call (cdm), ?_⟩
      cbv
      refine ⟨_, hS.call (cm), ?_⟩
      cbv
      refine ⟨_, hS.call (cs), ?_⟩
      cbv
      exact again (s' := rrbSt (t, q) (bs, br) (c1, c2) (d1, d2) (false, i2) (j1, j2)) (m := k') (by simp [leT, rrbSt, mkSt, vb]) (by simp [leH, rrbSt, mkSt]) rfl (by show 2 ≤ 21; omega) hdec hnx
end Go.Proofs.Ytgncmjcoojmccaa
end

section
set_option linter.unusedVariables false
set_option linter.unusedSimpArgs false
set_option maxHeartbeats 8000000
set_option linter.unusedVariables false
set_option linter.unusedSimpArgs false
set_option maxRecDepth 100000
namespace Go.Proofs.Ytgncmjcoojmccaa
open Go Go.Abs Go.Abs.M Go.Proofs

def lrbSt (xs : Bool) (xr : Abs.Rows) (xt : Bool) (xq ar : Abs.Rows) (i : Int) (pr lr : Abs.Rows) (len : Nat) : St := mkSt 158 [.junk, .junk, .junk, .junk, .junk, .junk, vb false, vb true, .c (.ptr 8 0 0), vl ar, .c (.sl 11 0 len false), .c (.sl 12 0 len false), vi .i64 i]
  [none, none, none, none, none, none, none, none, some (.var [.t (.v (.bool xs)), .t (.lst false xr), .t (.v (.bool xt)), .t (.lst false xq)]), none, none, some (.rows 1 pr true false), some (.rows 1 lr true false)]

/-- The primes that do not divide the denominator. -/
def goodP (x : Rat) (q : Int) : Bool := decide ((x.den : Int) % q ≠ 0)
def redI (x : Rat) (q : Int) : Int := x.num % q * (((x.den : Int) % q) ^ (q - 2).toNat % q) % q

theorem lprod_cop {d : Int} : ∀ {l : List Int}, (∀ q ∈ l, IPrime q ∧ d % q ≠ 0) → Int.gcd d (lprod l) = 1
  | [], _ => by show Int.gcd d 1 = 1; exact Int.gcd_one ..
  | q :: l, h => by
    have ih := lprod_cop (l := l) fun q hq => h q (.tail _ hq)
    obtain ⟨h1, h2⟩ := h q (.head _)
    show Nat.gcd d.natAbs (q * lprod l).natAbs = 1
    rw [Int.natAbs_mul]
    refine Nat.Coprime.mul_right ?_ ih
    have hc := h1.2.coprime (k := d.natAbs) fun hd => h2 (by
      have : ((q.toNat : Nat) : Int) ∣ d := Int.natAbs_dvd_natAbs.1 (by rw [Int.natAbs_natCast]; exact hd)
      rw [Int.toNat_of_nonneg (by have := h1.1; omega)] at this
      exact Int.emod_eq_zero_of_dvd this)
    rw [show q.natAbs = q.toNat by have := h1.1; omega]
    exact Nat.Coprime.symm hc

theorem reb_sol {x : Rat} {l : List Int} {u m b : Int} (hl : ∀ q ∈ l, Prm q ∧ (x.den : Int) % q ≠ 0) (hnd : l.Nodup) (hc : CrtP l (redI x) u m) (hb : RootB m b) (h1 : (x.num.natAbs : Int) ≤ b) (h2 : (x.den : Int) ≤ b) : RebSol u m x.num x.den := by
  have hn := (hb.iff (show (0 : Int) ≤ x.num.natAbs by omega)).2 h1
  have hd := (hb.iff (show (0 : Int) ≤ x.den by omega)).2 h2
  have e : (x.num.natAbs : Int) * x.num.natAbs = x.num * x.num := Int.natAbs_mul_self' _
  rw [e] at hn
  refine ⟨by have := x.den_pos; omega, hn, hd, ?_, ?_, ?_⟩
  · have := x.reduced
    show Nat.gcd x.num.natAbs (x.den : Int).natAbs = 1
    rw [Int.natAbs_natCast]; exact this
  · rw [hc.prod]
    exact lprod_cop fun q hq => ⟨(hl q hq).1.ip, (hl q hq).2⟩
  · rw [hc.prod]
    refine lprod_dvd_of (fun q hq => (hl q hq).1.ip) hnd fun q hq => ?_
    obtain ⟨g1, g2⟩ := hl q hq
    have h3 := redQ_back g1 g2
    have h4 := hc.res q hq
    have e2 : redQ q x = redI x q := rfl
    rw [e2] at h3
    have h5 := Int.emod_nonneg (x.num % q * (((x.den : Int) % q) ^ (q - 2).toNat % q)) (show q ≠ 0 by have := g1.1; omega)
    have h6 := Int.emod_lt_of_pos (x.num % q * (((x.den : Int) % q) ^ (q - 2).toNat % q)) (show 0 < q by have := g1.1; omega)
    rw [show redI x q % q = redI x q from Int.emod_eq_of_lt h5 h6] at h4
    rw [← h4] at h3
    apply Int.dvd_of_emod_eq_zero
    rw [Int.sub_emod, ← h3, Int.mul_emod u, Int.mul_emod ((x.den : Int) % q), Int.emod_emod_of_dvd _ (Int.dvd_refl q), Int.emod_emod_of_dvd _ (Int.dvd_refl q), Int.mul_comm, Int.sub_self, Int.zero_emod]

theorem lprod_bd : ∀ {l : List Int}, (∀ q ∈ l, 0 ≤ q ∧ q ≤ 2147483648) → 0 ≤ lprod l ∧ lprod l ≤ 2147483648 ^ l.length
  | [], _ => ⟨by decide, by decide⟩
  | q :: l, h => by
    obtain ⟨a, b⟩ := lprod_bd (l := l) fun x hx => h x (.tail _ hx)
    obtain ⟨c, d⟩ := h q (.head _)
    refine ⟨Int.mul_nonneg c a, ?_⟩
    show q * lprod l ≤ 2147483648 ^ (l.length + 1)
    rw [Int.pow_succ, Int.mul_comm q]
    exact Int.mul_le_mul b d c (Int.pow_nonneg (by omega))

/-- The fraction that is found (0 if there is none), its parts' rows, and what is known. -/
theorem rebres_parts {u m : Int} {X : List Tree} {b : Bool} (hm : 0 < m) (h : RebRes u m X b) : ∃ (n d : Int) (s : Bool) (r : Abs.Rows) (t : Bool) (q : Abs.Rows), X = [.v (.bool s), .lst false r, .v (.bool t), .lst false q] ∧ IsI n s r ∧ IsI d t q ∧ n.natAbs ≤ m.natAbs ∧ d.natAbs ≤ m.natAbs ∧ ∀ n' d', RebSol u m n' d' → b = true ∧ n = n' ∧ d = d' := by
  have hb : ∀ x : Int, x * x + x * x ≤ m - 1 → x.natAbs ≤ m.natAbs := fun x hx => by
    rcases Nat.lt_or_ge m.natAbs x.natAbs with g | g
    · have e : (x.natAbs : Int) * x.natAbs = x * x := Int.natAbs_mul_self' _
      have h3 : (x.natAbs : Int) * 1 ≤ x.natAbs * x.natAbs := Int.mul_le_mul_of_nonneg_left (by omega) (by omega)
      omega
    · exact g
  cases h with
  | found hs i1 i2 => exact ⟨_, _, _, _, _, _, rfl, i1, i2, hb _ hs.sn, hb _ hs.sd, fun n' d' h' => ⟨rfl, hs.unique h'⟩⟩
  | none hs => exact ⟨0, 0, false, [], false, [], rfl, ⟨rfl, rfl⟩, ⟨rfl, rfl⟩, by omega, by omega, fun n' d' h' => absurd h' (hs _ _)⟩



theorem rebuilds_call (hsan : ACall Try.prog 10 [] ⟨[.val (tb true)], []⟩) (a b c n y : Int) (a1 : -128 ≤ a) (a2 : a < 128) (b1 : -128 ≤ b) (b2 : b < 128) (c1 : 0 ≤ c) (c2 : c < 256) (h0 : 0 ≤ n) (h1 : n < 4294967296) (y0 : 0 ≤ y) (y1 : y < 256) :
    ACall Try.prog 8 [.val (.agg [.v (.int .i8 a), .v (.int .i8 b), .v (.int .u8 c)]), .val (ti .u32 n), .val (ti .u8 y)] ⟨[.val (tb true)], [none, none, none]⟩ := by
  obtain ⟨k, hk⟩ : ∃ k : Nat, (k : Int) = y % 9 := ⟨(y % 9).toNat, by omega⟩
  have hk8 : k ≤ 8 := by omega
  have cch := chosen_call n k h0 h1 (by omega)
  have hch := chsL_ok (s := n % 2147000000) (by omega) (by omega) k (by omega)
  obtain ⟨al, hal⟩ : ∃ al, al = (chsL (n % 2147000000) k).2 := ⟨_, rfl⟩
  rw [← hal] at cch
  obtain ⟨ar, har⟩ : ∃ ar, ar = W .u64 al := ⟨_, rfl⟩
  rw [← har] at cch
  obtain ⟨K, hK⟩ : ∃ K : Int, K = k := ⟨_, rfl⟩
  rw [← hK] at cch
  have hlen : al.length = k := by rw [hal]; exact hch.len
  have hprm : ∀ q ∈ al, Prm q := fun q hq => (hch.mem q (hal ▸ hq)).1
  have hnd : al.Nodup := by rw [hal]; exact hch.nd
  obtain ⟨xs, xr, xt, xq, hx, cx⟩ := rmade2_call a b c a1 a2 b1 b2 c1 c2
  have sx := madeQ_small a1 a2 b1 b2 c1 c2
  generalize madeQ a b c = x at *
  have hget : ∀ i, i < k → Prm (al.getD i 0) ∧ al.take (i + 1) = al.take i ++ [al.getD i 0] := fun i hi => by
    have hg : al.getD i 0 = al[i] := by rw [List.getD_eq_getElem?_getD, List.getElem?_eq_getElem (by omega)]; rfl
    rw [hg]
    exact ⟨hprm _ (List.getElem_mem (by omega)), by rw [List.take_add_one, List.getElem?_eq_getElem (by omega)]; rfl⟩
  have hfl : ∀ i, i < k → (al.take (i + 1)).filter (goodP x) = if (x.den : Int) % al.getD i 0 = 0 then (al.take i).filter (goodP x) else (al.take i).filter (goodP x) ++ [al.getD i 0] := fun i hi => by
    rw [(hget i hi).2, List.filter_append]
    by_cases hg : (x.den : Int) % al.getD i 0 = 0
    · rw [if_pos hg, List.filter_cons_of_neg (by unfold goodP; rw [decide_eq_false (fun h => h hg)]; decide), List.filter_nil, List.append_nil]
    · rw [if_neg hg, List.filter_cons_of_pos (by unfold goodP; exact decide_eq_true hg), List.filter_nil]
  have hred : ∀ i, i < k → ∃ q v e : Int, al.getD i 0 = q ∧ ACall Try.prog 19 [.val (.agg (iT xs xr ++ iT xt xq)), .val (ti .u64 q)] ⟨[.val (ti .u64 v), .val (ti .i64 e)], [none, none]⟩ ∧
      ((x.den : Int) % q = 0 → e = 30) ∧ ((x.den : Int) % q ≠ 0 → e = 0 ∧ v = redI x q) := fun i hi => by
    have g1 := (hget i hi).1
    have := rreduce_call (al.getD i 0) _ _ hx (sx.mono (show 8 ≤ 68719476736 by omega)) g1.1 (by have := g1.2.1; omega) rfl rfl
    exact ⟨_, _, _, rfl, this, fun h => if_pos h, fun h => ⟨if_neg h, if_neg h⟩⟩
  obtain ⟨pl, hpl⟩ : ∃ pl, pl = al.filter (goodP x) := ⟨_, rfl⟩
  have hplk : (al.take k).filter (goodP x) = pl := by rw [hpl, ← hlen, List.take_length]
  have hpl1 : ∀ q ∈ pl, Prm q ∧ (x.den : Int) % q ≠ 0 := fun q hq => by
    rw [hpl, List.mem_filter] at hq
    exact ⟨hprm q hq.1, by have := hq.2; unfold goodP at this; exact of_decide_eq_true this⟩
  have hpl2 : pl.Nodup := by rw [hpl]; exact hnd.filter _
  have hpl3 : pl.length ≤ 8 := by have := List.length_filter_le (goodP x) al; rw [hpl]; omega
  obtain ⟨u, m, hcr⟩ := crt_ex (r := redI x) (fun q hq => (hpl1 q hq).1) hpl2 pl.length (Nat.le_refl _)
  rw [List.take_length] at hcr
  have hpos : 0 < m := by have := hcr.lo; have := hcr.hi; omega
  have hmb : m ≤ 452312848583266388373324160190187140051835877600158453279131187530910662656 := by
    have := lprod_bd (l := pl) fun q hq => by
      have h1 := (hpl1 q hq).1.1
      have h2 := (hpl1 q hq).1.2.1
      omega
    exact pow_bd (by rw [hcr.prod]; exact this.2) hpl3
  have nm : nl m.natAbs ≤ 100 := nl_le_of (by omega)
  have nu : nl u.natAbs ≤ 100 := Nat.le_trans (nl_mono (by have := hcr.lo; have := hcr.hi; omega)) nm
  obtain ⟨us, ur, iu⟩ : ∃ us ur, IsI u us ur := ⟨_, _, .mk' u⟩
  obtain ⟨ms, mr, im⟩ : ∃ ms mr, IsI m ms mr := ⟨_, _, .mk' m⟩
  have hred2 : ∀ i, i < pl.length → 0 ≤ (pl.map (redI x)).getD i 0 ∧ (pl.map (redI x)).getD i 0 < 18446744073709551616 ∧ redI x (pl.getD i 0) % pl.getD i 0 = (pl.map (redI x)).getD i 0 % pl.getD i 0 := fun i hi => by
    have hg : pl.getD i 0 = pl[i] := by rw [List.getD_eq_getElem?_getD, List.getElem?_eq_getElem hi]; rfl
    have hg2 : (pl.map (redI x)).getD i 0 = redI x pl[i] := by rw [List.getD_eq_getElem?_getD, List.getElem?_map, List.getElem?_eq_getElem hi]; rfl
    have g1 := (hpl1 _ (List.getElem_mem hi)).1
    rw [hg, hg2]
    have h5 := Int.emod_nonneg (x.num % pl[i] * (((x.den : Int) % pl[i]) ^ (pl[i] - 2).toNat % pl[i])) (show pl[i] ≠ 0 by have := g1.1; omega)
    have h6 := Int.emod_lt_of_pos (x.num % pl[i] * (((x.den : Int) % pl[i]) ^ (pl[i] - 2).toNat % pl[i])) (show 0 < pl[i] by have := g1.1; omega)
    have h7 := g1.2.1
    exact ⟨h5, by unfold redI; omega, rfl⟩
  have cchn := pchin_call (l := pl.map (redI x)) (p := pl) (r := redI x) (by rw [List.length_map]) hpl3 (fun i hi => ⟨(hred2 i hi).1, (hred2 i hi).2.1⟩) (fun q hq => (hpl1 q hq).1) hpl2 (fun i hi => (hred2 i hi).2.2) hcr iu im
  have cv1 := rvalid_call iu (by omega)
  have cv2 := rvalid_call im (by omega)
  have csm := rsign_call 1 im (cmpI_gt hpos).symm
  obtain ⟨X, bb, hX⟩ := rebres_ex u m
  have cr1 := prebuild_call iu im hpos (by omega) (by omega) hX
  have cr2 := rrebuild_call iu im hpos (by omega) (by omega) hX
  obtain ⟨B, hB⟩ := rootB_ex hpos
  obtain ⟨bs, br, hbI⟩ : ∃ bs br, IsI B bs br := ⟨_, _, .mk' B⟩
  have crt := rrroot_call im hpos (by omega) hB hbI
  have hBle := hB.le hpos
  have nB : nl B.natAbs ≤ 100 := Nat.le_trans (nl_mono (by omega)) nm
  obtain ⟨nn, dd, s1', r1', t1', q1', hX1, i1', i2', hn1, hd1, hun⟩ := rebres_parts hpos hX
  have nnn : nl nn.natAbs ≤ 100 := Nat.le_trans (nl_mono hn1) nm
  have ndd : nl dd.natAbs ≤ 100 := Nat.le_trans (nl_mono hd1) nm
  have csa := rsame_call i1' i1' (by omega)
  have csb := rsame_call i2' i2' (by omega)
  rw [decide_eq_true rfl] at csa csb
  have csc := rsame_call i1' hx.n (by omega)
  have csd := rsame_call i2' hx.d (by omega)
  -- the size of the numerator
  obtain ⟨sa, ar', hab⟩ : ∃ sa ar', IsI (x.num.natAbs : Int) sa ar' := ⟨_, _, .mk' _⟩
  have nx1 := sx.1
  have nx2 := sx.2
  have cC1 := rcmp_call _ hab hbI rfl (by rw [Int.natAbs_natCast]; omega) (by omega)
  have cC2 := rcmp_call _ hx.d hbI rfl (by rw [Int.natAbs_natCast]; omega) (by omega)
  obtain ⟨C1, hC1⟩ : ∃ C1, C1 = cmpI (x.num.natAbs : Int) B := ⟨_, rfl⟩
  obtain ⟨C2, hC2⟩ : ∃ C2, C2 = cmpI (x.den : Int) B := ⟨_, rfl⟩
  rw [← hC1] at cC1
  rw [← hC2] at cC2
  have hboth : C1 ≤ 0 → C2 ≤ 0 → bb = true ∧ nn = x.num ∧ dd = (x.den : Int) := fun g1 g2 => hun _ _ (reb_sol hpl1 hpl2 hcr hB ((cmpI_le _ _).1 (hC1 ▸ g1)) ((cmpI_le _ _).1 (hC2 ▸ g2)))
  have hsgn : (∃ c : Int, 0 ≤ c ∧ ACall Try.prog 31 [.val (.agg (iT xs xr))] ⟨[.val (ti .i64 c)], [none]⟩ ∧ iT sa ar' = iT xs xr) ∨ (ACall Try.prog 31 [.val (.agg (iT xs xr))] ⟨[.val (ti .i64 (-1))], [none]⟩ ∧ ACall Try.prog 35 [.val (.agg (iT xs xr))] ⟨[.val (.agg (iT sa ar'))], [none]⟩) := by
    by_cases hneg : x.num < 0
    · right
      obtain ⟨e1, e2, hne, cne⟩ := rneg_call hx.n (by omega)
      obtain ⟨rfl, rfl⟩ := (hne.of (show -x.num = (x.num.natAbs : Int) by omega)).inj hab
      exact ⟨rsign_call (-1) hx.n (cmpI_lt hneg).symm, cne⟩
    · left
      obtain ⟨rfl, rfl⟩ := (hx.n.of (show x.num = (x.num.natAbs : Int) by omega)).inj hab
      refine ⟨_, ?_, rsign_call _ hx.n rfl, rfl⟩
      unfold cmpI
      rw [if_neg hneg]
      split <;> omega
  have hW : ∀ (lr pr : Abs.Rows) (len : Nat), pr = W .u64 pl → lr = W .u64 (pl.map (redI x)) → len = pl.length → ZI.std.fit 0 len lr = true ∧ ZI.std.fit 0 len pr = true ∧ (lr.drop 0).take len = W .u64 (pl.map (redI x)) ∧ (pr.drop 0).take len = W .u64 pl := fun lr pr len h1 h2 h3 => by
    refine ⟨?_, ?_, ?_, ?_⟩
    · show decide (0 + len ≤ lr.length) = true
      rw [h2, W_len, List.length_map]; exact decide_eq_true (by omega)
    · show decide (0 + len ≤ pr.length) = true
      rw [h1, W_len]; exact decide_eq_true (by omega)
    · rw [h2, W_part, h3, List.drop_zero, List.take_of_length_le (by rw [List.length_map]; omega)]
    · rw [h1, W_part, h3, List.drop_zero, List.take_length]
  obtain ⟨P, hP⟩ : ∃ P, P = W .u64 pl := ⟨_, rfl⟩
  obtain ⟨Q, hQ⟩ : ∃ Q, Q = W .u64 (pl.map (redI x)) := ⟨_, rfl⟩
  rw [← hP, ← hQ] at cchn
  clear hun hX hC1 hC2 hcr hpos hmb nm nu iu im hred2 hpl1 hpl2 hpl3 hB hBle nB hbI hn1 hd1 nnn ndd i1' i2' hab nx1 nx2 hprm hnd hpl
  subst hX1
  refine callZ ccOk mixed [.val] Try.func8 rfl rfl (by kernel_rfl) fun zwrap zadd zsub zmul zquo zrem zshl zshr zband zbor zbxor zbandn zeq zne zlt zle znot zbeq zbne zmax zmin znat zinb zofN zidx zneq znadd zdif zcut zroom zmkok zlen znth zsetr zisI zgetI zsetI zfit zpart zext zsetg zrep zwide zall zmok zmget zmset zW zth A L F hS hF => ?_
  have v1 : zne 0 0 = false := by rw [hS.ne]; rfl
  have v2 : znot true = false := hS.not true
  have v3 : zle 1 0 = false := by rw [hS.le]; rfl
  have v4 : ∀ c : Int, zlt c 0 = decide (c < 0) := fun c => hS.lt ..
  have v5 : ∀ c : Int, zle c 0 = decide (c ≤ 0) := fun c => hS.le ..
  have v6 : ∀ c : Bool, zbeq c c = true := fun c => by rw [hS.beq]; cases c <;> rfl
  have w1 : zwrap .i64 (zrem y 9) = K := by rw [hS.rem, hS.wrap, Int.tmod_eq_emod_of_nonneg y0, wrap_i64 (by omega) (by omega)]; omega
  have A1 : ∀ (i : Nat) (I : Int), I = i → zlt I (zofN (zlen ar)) = decide (i < k) := fun i I hI => by
    rw [hS.lt, hS.ofN, hS.len, har, W_len, hlen]
    exact decide_eq_decide.2 (by omega)
  have A2 : ∀ (i : Nat) (I : Int), I = i → i < 100 → ∃ I' : Int, I' = ((i + 1 : Nat) : Int) ∧ zwrap .i64 (zadd I 1) = I' := fun i I hI h => by
    refine ⟨_, rfl, ?_⟩
    rw [hS.add, hS.wrap, wrap_i64 (by omega) (by omega)]; omega
  have A3 : ∀ (i : Nat) (I : Int), I = i → zle 0 I = true := fun i I hI => by rw [hS.le]; exact decide_eq_true (by omega)
  have A4 : ∀ (i : Nat) (I : Int), I = i → i < k → zisI .u64 ar (znat I) = true ∧ zgetI ar (znat I) = al.getD i 0 := fun i I hI hi => by
    have e : znat I = i := by rw [hS.nat]; omega
    rw [e, hS.isI, hS.getI, har, W_isI, W_getI]
    exact ⟨decide_eq_true (by omega), rfl⟩
  have z0 : zeq 0 0 = true := by rw [hS.eq]; rfl
  have z30 : zeq 30 0 = false := by rw [hS.eq]; rfl
  cbv
  refine ⟨_, hS.call (hsan), ?_⟩
  cbv
  refine bF (hS.not _) ?_
  refine ⟨_, hS.call (cx), ?_⟩
  cbv
  rw [w1]
  refine ⟨_, hS.call (cch), ?_⟩
  cbv
  refine loopZR ccOk mixed hS (fun (m : Nat) s' => ∃ (i : Nat) (I : Int) (pr lr : Abs.Rows) (len : Nat), I = i ∧ i + m = k ∧ pr = W .u64 ((al.take i).filter (goodP x)) ∧ lr = W .u64 (((al.take i).filter (goodP x)).map (redI x)) ∧ len = ((al.take i).filter (goodP x)).length ∧ s' = lrbSt xs xr xt xq ar I pr lr len) (n := k) (s0 := lrbSt xs xr xt xq ar 0 [] [] 0) (le_of ?_ ?_) rfl (by show 3 ≤ 13; omega) ?_ ?_
  · simp [leT, lrbSt, mkSt, vi, vb, vl]
  · simp [leH, lrbSt, mkSt]
  · exact ⟨0, 0, [], [], 0, rfl, by omega, rfl, rfl, rfl, rfl⟩
  · rintro m s1 ⟨i, I, pr, lr, len, hI, him, hpr, hlr, hlen', hs1⟩
    have l1 := A1 i I hI
    by_cases hik : i < k
    · rw [decide_eq_true hik] at l1
      obtain ⟨q, v, e, hq, crd, he0, he1⟩ := hred i hik
      obtain ⟨g1, g2⟩ := A4 i I hI hik
      have g3 := A3 i I hI
      obtain ⟨I', hI', i1⟩ := A2 i I hI (by omega)
      have hf := hfl i hik
      rw [hq] at g2 hf
      have hm1 : m - 1 < m := by omega
      have him' : i + 1 + (m - 1) = k := by omega
      have hl8 : len ≤ 8 := by
        have := List.length_filter_le (goodP x) (al.take i)
        rw [List.length_take] at this
        omega
      by_cases hg : (x.den : Int) % q = 0
      · have he := he0 hg
        subst he
        rw [if_pos hg] at hf
        rw [← hf] at hpr hlr hlen'
        clear A1 A2 A3 A4 hred hfl hget he0 he1 hch
        subst hs1
        cbv
        refine bT (l1) ?_
        refine nd (g3) ?_
        refine nd (g1) ?_
        rw [g2]
        refine ⟨_, hS.call (crd), ?_⟩
        cbv
        refine bF (z30) ?_
        refine againR [] (s' := lrbSt xs xr xt xq ar I' pr lr len) (k := m - 1) ?_ ?_ ?_ ?_ rfl (by show 3 ≤ 13; omega) hm1 ⟨i + 1, I', pr, lr, len, hI', him', hpr, hlr, hlen', rfl⟩
        · simp [leTR, lrbSt, mkSt, vi, vb, vl, AV.ren, AV.noTup, Cell.ren, renF, i1]
        · simp [leHR, lrbSt, mkSt, Abs.look, renF, Blk.ren, Cell.ren]
        · simp [liveR, lrbSt, mkSt, renF]
        · simp
      · obtain ⟨rfl, hv⟩ := he1 hg
        rw [if_neg hg] at hf
        have hlenl : len = (((al.take i).filter (goodP x)).map (redI x)).length := by rw [List.length_map]; exact hlen'
        have pa0 : zpart [[Tree.v (.int .u64 q)]] 0 1 = W .u64 [q] := by rw [hS.part]; rfl
        have pa1 : zfit 0 1 [[Tree.v (.int .u64 q)]] = true := by rw [hS.fit]; rfl
        have pa2 : znot (zneq (zlen (zpart [[Tree.v (.int .u64 q)]] 0 1)) 0) = true := by rw [pa0, hS.len, hS.neq, hS.not]; rfl
        have pa3 : zwide 1 (zpart [[Tree.v (.int .u64 q)]] 0 1) = true := by rw [pa0, hS.wide]; rfl
        have pa4 : zroom len (zlen (zpart [[Tree.v (.int .u64 q)]] 0 1)) 8 = true := by rw [pa0, hS.len, hS.room]; exact decide_eq_true (by unfold capBytes; simp [W]; omega)
        have pa5 : zneq (znadd 0 len) (zlen pr) = true := by rw [hS.nadd, hS.neq, hS.len, hpr, W_len, hlen', Nat.zero_add]; exact decide_eq_true rfl
        have pa6 : znadd len (zlen (zpart [[Tree.v (.int .u64 q)]] 0 1)) = len + 1 := by rw [pa0, hS.len, hS.nadd]; rfl
        have pa7 : zext pr 0 (zpart [[Tree.v (.int .u64 q)]] 0 1) = W .u64 (((al.take i).filter (goodP x)) ++ [q]) := by rw [pa0, hS.ext, hpr, List.drop_zero]; simp [W]
        have la0 : zpart [[Tree.v (.int .u64 v)]] 0 1 = W .u64 [v] := by rw [hS.part]; rfl
        have la1 : zfit 0 1 [[Tree.v (.int .u64 v)]] = true := by rw [hS.fit]; rfl
        have la2 : znot (zneq (zlen (zpart [[Tree.v (.int .u64 v)]] 0 1)) 0) = true := by rw [la0, hS.len, hS.neq, hS.not]; rfl
        have la3 : zwide 1 (zpart [[Tree.v (.int .u64 v)]] 0 1) = true := by rw [la0, hS.wide]; rfl
        have la4 : zroom len (zlen (zpart [[Tree.v (.int .u64 v)]] 0 1)) 8 = true := by rw [la0, hS.len, hS.room]; exact decide_eq_true (by unfold capBytes; simp [W]; omega)
        have la5 : zneq (znadd 0 len) (zlen lr) = true := by rw [hS.nadd, hS.neq, hS.len, hlr, W_len, hlenl, Nat.zero_add]; exact decide_eq_true rfl
        have la6 : znadd len (zlen (zpart [[Tree.v (.int .u64 v)]] 0 1)) = len + 1 := by rw [la0, hS.len, hS.nadd]; rfl
        have la7 : zext lr 0 (zpart [[Tree.v (.int .u64 v)]] 0 1) = W .u64 ((((al.take i).filter (goodP x)).map (redI x)) ++ [v]) := by rw [la0, hS.ext, hlr, List.drop_zero]; simp [W]
        obtain ⟨pr', hpr'⟩ : ∃ pr', pr' = W .u64 ((al.take i).filter (goodP x) ++ [q]) := ⟨_, rfl⟩
        obtain ⟨lr', hlr'⟩ : ∃ lr', lr' = W .u64 (((al.take i).filter (goodP x)).map (redI x) ++ [v]) := ⟨_, rfl⟩
        rw [← hpr'] at pa7
        rw [← hlr'] at la7
        have hq1 : pr' = W .u64 ((al.take (i + 1)).filter (goodP x)) := by rw [hf]; exact hpr'
        have hq2 : lr' = W .u64 (((al.take (i + 1)).filter (goodP x)).map (redI x)) := by rw [hf, List.map_append, hlr', hv]; rfl
        have hq3 : len + 1 = ((al.take (i + 1)).filter (goodP x)).length := by rw [hf, List.length_append, hlen']; rfl
        clear A1 A2 A3 A4 hred hfl hget he0 he1 hch pa0 la0 hlenl hpr hlr hlen' hpr' hlr'
        subst hs1
        cbv
        refine bT (l1) ?_
        refine nd (g3) ?_
        refine nd (g1) ?_
        rw [g2]
        refine ⟨_, hS.call (crd), ?_⟩
        cbv
        refine bT (z0) ?_
        refine nd (g3) ?_
        refine nd (g1) ?_
        rw [g2]
        refine nd (pa1) ?_
        refine nd (pa2) ?_
        refine nd (pa3) ?_
        refine nd (pa4) ?_
        refine nd (pa5) ?_
        refine nd (la1) ?_
        refine nd (la2) ?_
        refine nd (la3) ?_
        refine nd (la4) ?_
        refine nd (la5) ?_
        refine againR [(11, 16), (12, 18)] (s' := lrbSt xs xr xt xq ar I' pr' lr' (len + 1)) (k := m - 1) ?_ ?_ ?_ ?_ rfl (by show 3 ≤ 13; omega) hm1 ⟨i + 1, I', pr', lr', len + 1, hI', him', hq1, hq2, hq3, rfl⟩
        · simp [leTR, lrbSt, mkSt, vi, vb, vl, AV.ren, AV.noTup, Cell.ren, renF, i1, pa6, la6]
        · simp [leHR, lrbSt, mkSt, Abs.look, renF, Blk.ren, Cell.ren, pa7, la7]
        · simp [liveR, lrbSt, mkSt, renF]
        · simp
    · rw [decide_eq_false hik] at l1
      obtain rfl : i = k := by omega
      rw [hplk] at hpr hlr hlen'
      obtain ⟨W1, W2, W3, W4⟩ := hW lr pr len hpr hlr hlen'
      have f1 : zfit 0 len lr = true := by rw [hS.fit]; exact W1
      have f2 : zfit 0 len pr = true := by rw [hS.fit]; exact W2
      have f3 : zpart lr 0 len = Q := by rw [hS.part, W3, hQ]
      have f4 : zpart pr 0 len = P := by rw [hS.part, W4, hP]
      clear A1 A2 A3 A4 hred hfl hget hch hW W1 W2 W3 W4 hpr hlr hlen' hP hQ
      subst hs1
      cbv
      refine bF (l1) ?_
      refine nd (f1) ?_
      refine nd (f2) ?_
      rw [f3, f4]
      refine ⟨_, hS.call (cchn), ?_⟩
      cbv
      refine bF (v1) ?_
      refine ⟨_, hS.call (cv1), ?_⟩
      cbv
      refine bF (v2) ?_
      refine ⟨_, hS.call (cv2), ?_⟩
      cbv
      refine bF (v2) ?_
      refine ⟨_, hS.call (csm), ?_⟩
      cbv
      refine bF (v3) ?_
      refine ⟨_, hS.call (cr1), ?_⟩
      cbv
      refine ⟨_, hS.call (crt), ?_⟩
      cbv
      rcases hsgn with ⟨sc, hsc, csg, E1⟩ | ⟨csg, cne⟩
      · cases E1
        have v7 : zlt sc 0 = false := by rw [v4]; exact decide_eq_false (by omega)
        refine ⟨_, hS.call (csg), ?_⟩
        cbv
        refine bF (v7) ?_
        refine ⟨_, hS.call (cC1), ?_⟩
        cbv
        refine ⟨fun g => ?_, fun g => ?_⟩
        · rw [v5] at g
          have g := of_decide_eq_true g
          refine ⟨_, hS.call (cC2), ?_⟩
          cbv
          refine ⟨fun g' => ?_, fun g' => ?_⟩
          · rw [v5] at g'
            obtain ⟨b1', b2', b3'⟩ := hboth g (of_decide_eq_true g')
            rw [decide_eq_true b2'] at csc
            rw [decide_eq_true b3'] at csd
            refine bT b1' ?_
            refine ⟨_, hS.call (csc), ?_⟩
            cbv
            refine bT (rfl) ?_
            refine ⟨_, hS.call (csd), ?_⟩
            cbv
            exact bT rfl (hF _ (ResLe.refl _))
          · clear hboth
            refine ⟨_, hS.call (cr2), ?_⟩
            cbv
            refine bT (v6 _) ?_
            refine ⟨_, hS.call (csa), ?_⟩
            cbv
            refine bT (rfl) ?_
            refine ⟨_, hS.call (csb), ?_⟩
            cbv
            exact bT rfl (hF _ (ResLe.refl _))
        · clear hboth
          refine ⟨_, hS.call (cr2), ?_⟩
          cbv
          refine bT (v6 _) ?_
          refine ⟨_, hS.call (csa), ?_⟩
          cbv
          refine bT (rfl) ?_
          refine ⟨_, hS.call (csb), ?_⟩
          cbv
          exact bT rfl (hF _ (ResLe.refl _))
      · have v7 : zlt (-1) 0 = true := by rw [v4]; rfl
        refine ⟨_, hS.call (csg), ?_⟩
        cbv
        refine bT (v7) ?_
        refine ⟨_, hS.call (cne), ?_⟩
        cbv
        refine ⟨_, hS.call (cC1), ?_⟩
        cbv
        refine ⟨fun g => ?_, fun g => ?_⟩
        · rw [v5] at g
          have g := of_decide_eq_true g
          refine ⟨_, hS.call (cC2), ?_⟩
          cbv
          refine ⟨fun g' => ?_, fun g' => ?_⟩
          · rw [v5] at g'
            obtain ⟨b1', b2', b3'⟩ := hboth g (of_decide_eq_true g')
            rw [decide_eq_true b2'] at csc
            rw [decide_eq_true b3'] at csd
            refine bT b1' ?_
            refine ⟨_, hS.call (csc), ?_⟩
            cbv
            refine bT (rfl) ?_
            refine ⟨_, hS.call (csd), ?_⟩
            cbv
            exact bT rfl (hF _ (ResLe.refl _))
          · clear hboth
            refine ⟨_, hS.call (cr2), ?_⟩
            cbv
            refine bT (v6 _) ?_
            refine ⟨_, hS.call (csa), ?_⟩
            cbv
            refine bT (rfl) ?_
            refine ⟨_, hS.call (csb), ?_⟩
            cbv
            exact bT rfl (hF _ (ResLe.refl _))
        · clear hboth
          refine ⟨_, hS.call (cr2), ?_⟩
          cbv
          refine bT (v6 _) ?_
          refine ⟨_, hS.call (csa), ?_⟩
          cbv
          refine bT (rfl) ?_
          refine ⟨_, hS.call (csb), ?_⟩
          cbv
          exact bT rfl (hF _ (ResLe.refl _))

theorem rebuilds_row (hsan : ACall Try.prog 10 [] ⟨[.val (tb true)], []⟩) (tss : List (List Tree)) (h : okAll [rawS, .int .u32, .int .u8] tss) :
    ACall Try.prog 8 ((tvs [rawS, .int .u32, .int .u8] tss).map .val) ⟨[.val (tb true)], [none, none, none]⟩ := by
  obtain ⟨_, _, rfl, hx, _, _, rfl, ⟨n, rfl, hn⟩, _, _, rfl, ⟨m, rfl, hm⟩, rfl⟩ := h
  obtain ⟨a, b, c, rfl, ha, hb, hc⟩ := rawS_ok hx
  have hn := bd_u32 hn
  have hm := bd_u8 hm
  exact rebuilds_call hsan a b c n m ha.1 ha.2 hb.1 hb.2 hc.1 hc.2 hn.1 hn.2 hm.1 hm.2
end Go.Proofs.Ytgncmjcoojmccaa
end

section
set_option linter.unusedVariables false
set_option linter.unusedSimpArgs false
set_option maxHeartbeats 8000000
set_option linter.unusedVariables false
set_option linter.unusedSimpArgs false
namespace Go.Proofs.Ytgncmjcoojmccaa
open Go Go.Abs Go.Abs.M Go.Proofs

/-! Lists of residues and primes, in both orders. -/
theorem lprod_reverse : ∀ l : List Int, lprod l.reverse = lprod l
  | [] => rfl
  | q :: l => by
    rw [List.reverse_cons, lprod_append, lprod_reverse l]
    show lprod l * (q * 1) = q * lprod l
    rw [Int.mul_one, Int.mul_comm]

theorem CrtP.reverse {p : List Int} {r : Int → Int} {u m : Int} (h : CrtP p r u m) : CrtP p.reverse r u m :=
  ⟨h.lo, h.hi, by rw [lprod_reverse]; exact h.prod, fun q hq => h.res q (List.mem_reverse.1 hq)⟩

def rOf : List Int → List Int → Int → Int
  | q :: p, a :: l, x => if x = q then a else rOf p l x
  | _, _, _ => 0

theorem rOf_get : ∀ {p l : List Int}, p.Nodup → p.length = l.length → ∀ i, i < p.length → rOf p l (p.getD i 0) = l.getD i 0
  | [], _, _, _, i, hi => by simp at hi
  | q :: p, [], _, hl, _, _ => by simp at hl
  | q :: p, a :: l, hn, hl, 0, hi => by simp [rOf]
  | q :: p, a :: l, hn, hl, i + 1, hi => by
    obtain ⟨h1, h2⟩ := List.nodup_cons.1 hn
    have hi' : i < p.length := by simpa using hi
    have hg : (q :: p).getD (i + 1) 0 = p.getD i 0 := rfl
    have hne : p.getD i 0 ≠ q := fun e => h1 (by
      have : p.getD i 0 = p[i] := by rw [List.getD_eq_getElem?_getD, List.getElem?_eq_getElem hi']; rfl
      rw [← e, this]; exact List.getElem_mem hi')
    rw [hg]
    show (if p.getD i 0 = q then a else rOf p l (p.getD i 0)) = l.getD i 0
    rw [if_neg hne]
    exact rOf_get h2 (by simpa using hl) i hi'

theorem rev_get {l : List Int} {i : Nat} (h : i < l.length) : l.reverse.getD i 0 = l.getD (l.length - 1 - i) 0 := by
  rw [List.getD_eq_getElem?_getD, List.getD_eq_getElem?_getD, List.getElem?_reverse h]

theorem drop_rev {l : List Int} {j : Nat} (h : 0 < j) (hj : j ≤ l.length) : (l.drop (j - 1)).reverse = (l.drop j).reverse ++ [l.getD (j - 1) 0] ∧ lprod (l.drop (j - 1)) = lprod (l.drop j) * l.getD (j - 1) 0 := by
  have e : l.drop (j - 1) = l.getD (j - 1) 0 :: l.drop j := by
    have := drop_getD (l := l) (k := j - 1) (by omega)
    rw [show j - 1 + 1 = j by omega] at this
    exact this
  rw [e]
  refine ⟨by rw [List.reverse_cons], ?_⟩
  show l.getD (j - 1) 0 * lprod (l.drop j) = _
  rw [Int.mul_comm]

theorem prm_two : Prm 2 := ⟨by omega, by omega, fun d h1 h2 => by
  have : d * d ≥ 2 * 2 := Int.mul_le_mul h1 h1 (by omega) (by omega)
  omega⟩

theorem not_pf4 : ¬ PF 4 := fun h => by
  have := h.2.2
  have e : Pch 4 [2, 3, 5, 7] := this
  unfold Pch at e
  simp at e

/-- What the two last lists begin with, and their first element that does not fit. -/
theorem odd_lists {p : List Int} (hp : ∀ q ∈ p, Prm q) (hn : p.Nodup) : ∃ good rest : List Int, p ++ [2, 2] = good ++ 2 :: rest ∧ (∀ q ∈ good, Prm q) ∧ good.Nodup ∧ (2 : Int) ∈ good := by
  by_cases h : (2 : Int) ∈ p
  · exact ⟨p, [2], rfl, hp, hn, h⟩
  · refine ⟨p ++ [2], [], by simp, fun q hq => ?_, ?_, by simp⟩
    · rcases List.mem_append.1 hq with hq | hq
      · exact hp q hq
      · rw [List.mem_singleton.1 hq]; exact prm_two
    · rw [List.nodup_append]
      exact ⟨hn, by simp, fun a ha b hb => by rw [List.mem_singleton.1 hb]; rintro rfl; exact h ha⟩

/-- All that the law's calls return. -/
theorem joins_facts {p a : List Int} {k : Nat} (hk : k ≤ 4) (hp : ∀ q ∈ p, Prm q) (hn : p.Nodup) (lp : p.length = k) (la : a.length = k) (ha : ∀ i, i < k → 0 ≤ a.getD i 0 ∧ a.getD i 0 < 18446744073709551616) :
    ∃ (us : Bool) (ur : Abs.Rows) (ms : Bool) (mr : Abs.Rows) (c : Int), 0 ≤ c ∧
      ACall Try.prog 26 [.val (tl (W .u64 a)), .val (tl (W .u64 p))] ⟨[.val (.agg (iT us ur)), .val (.agg (iT ms mr)), .val (ti .i64 0)], [none, none]⟩ ∧
      ACall Try.prog 26 [.val (tl (W .u64 a.reverse)), .val (tl (W .u64 p.reverse))] ⟨[.val (.agg (iT us ur)), .val (.agg (iT ms mr)), .val (ti .i64 0)], [none, none]⟩ ∧
      ACall Try.prog 29 [.val (.agg (iT us ur))] ⟨[.val (tb true)], [none]⟩ ∧
      ACall Try.prog 30 [.val (.agg (iT ms mr)), .val (.agg (iT ms mr))] ⟨[.val (tb true)], [none, none]⟩ ∧
      ACall Try.prog 30 [.val (.agg (iT us ur)), .val (.agg (iT us ur))] ⟨[.val (tb true)], [none, none]⟩ ∧
      ACall Try.prog 31 [.val (.agg (iT us ur))] ⟨[.val (ti .i64 c)], [none]⟩ ∧
      ACall Try.prog 32 [.val (.agg (iT us ur)), .val (.agg (iT ms mr))] ⟨[.val (ti .i64 (-1))], [none, none]⟩ ∧
      (∀ i, i < k → ∃ q e v : Int, p.getD i 0 = q ∧ a.getD i 0 = e ∧ 2 ≤ q ∧ q ≤ 2147483647 ∧ 0 ≤ e ∧ e % q = v ∧ ACall Try.prog 22 [.val (.agg (iT us ur)), .val (ti .u64 q)] ⟨[.val (ti .u64 v)], [none, none]⟩) ∧
      ACall Try.prog 26 [.val (tl (W .u64 (a ++ [1]))), .val (tl (W .u64 p))] ⟨[.val (.agg (iT false [])), .val (.agg (iT false [])), .val (ti .i64 1)], [none, none]⟩ ∧
      ACall Try.prog 26 [.val (tl (W .u64 (a ++ [1, 2]))), .val (tl (W .u64 (p ++ [2, 2])))] ⟨[.val (.agg (iT false [])), .val (.agg (iT false [])), .val (ti .i64 1)], [none, none]⟩ ∧
      ACall Try.prog 26 [.val (tl (W .u64 [1])), .val (tl (W .u64 [4]))] ⟨[.val (.agg (iT false [])), .val (.agg (iT false [])), .val (ti .i64 1)], [none, none]⟩ ∧
      (∃ (os : Bool) (or' : Abs.Rows), IsI (lprod (p.drop k)) os or' ∧ ACall Try.prog 27 [.val (ti .i64 1)] ⟨[.val (.agg (iT os or'))], [none]⟩) ∧
      (∀ j, 0 < j → j ≤ k → ∀ (ps : Bool) (pr : Abs.Rows), IsI (lprod (p.drop j)) ps pr → ∃ (q : Int) (ts : Bool) (tr : Abs.Rows) (qs : Bool) (qr : Abs.Rows), p.getD (j - 1) 0 = q ∧ 0 ≤ q ∧ q ≤ 2147483647 ∧
        ACall Try.prog 27 [.val (ti .i64 q)] ⟨[.val (.agg (iT ts tr))], [none]⟩ ∧
        ACall Try.prog 28 [.val (.agg (iT ps pr)), .val (.agg (iT ts tr))] ⟨[.val (.agg (iT qs qr))], [none, none]⟩ ∧ IsI (lprod (p.drop (j - 1))) qs qr) ∧
      (∀ (ps : Bool) (pr : Abs.Rows), IsI (lprod (p.drop 0)) ps pr → ps = ms ∧ pr = mr) := by
  obtain ⟨u, m, hcr⟩ := crt_ex (r := rOf p a) hp hn p.length (Nat.le_refl _)
  rw [List.take_length] at hcr
  have hpg : ∀ i, i < k → p.getD i 0 ∈ p := fun i hi => by
    have : p.getD i 0 = p[i] := by rw [List.getD_eq_getElem?_getD, List.getElem?_eq_getElem (by omega)]; rfl
    rw [this]; exact List.getElem_mem (by omega)
  have hr : ∀ i, i < p.length → rOf p a (p.getD i 0) % p.getD i 0 = a.getD i 0 % p.getD i 0 := fun i hi => by rw [rOf_get hn (by omega) i hi]
  have hr' : ∀ i, i < p.reverse.length → rOf p a (p.reverse.getD i 0) % p.reverse.getD i 0 = a.reverse.getD i 0 % p.reverse.getD i 0 := fun i hi => by
    rw [List.length_reverse] at hi
    rw [rev_get hi, rev_get (by omega), la, ← lp]
    exact hr _ (by omega)
  have hpos : 0 < m := by have := hcr.lo; have := hcr.hi; omega
  have hbd : ∀ j, lprod (p.drop j) ≤ 452312848583266388373324160190187140051835877600158453279131187530910662656 ∧ 0 ≤ lprod (p.drop j) := fun j => by
    have := lprod_bd (l := p.drop j) fun q hq => by
      have h1 := (hp q (List.mem_of_mem_drop hq)).1
      have h2 := (hp q (List.mem_of_mem_drop hq)).2.1
      omega
    exact ⟨pow_bd this.2 (by rw [List.length_drop]; omega), this.1⟩
  have hmb : m ≤ 452312848583266388373324160190187140051835877600158453279131187530910662656 := by rw [hcr.prod]; exact (hbd 0).1
  have nm : nl m.natAbs ≤ 100 := nl_le_of (by omega)
  have nu : nl u.natAbs ≤ 100 := Nat.le_trans (nl_mono (by have := hcr.lo; have := hcr.hi; omega)) nm
  obtain ⟨us, ur, iu⟩ : ∃ us ur, IsI u us ur := ⟨_, _, .mk' u⟩
  obtain ⟨ms, mr, im⟩ : ∃ ms mr, IsI m ms mr := ⟨_, _, .mk' m⟩
  have c1 := pchin_call (l := a) (p := p) (by omega) (by omega) (fun i hi => ha i (by omega)) hp hn hr hcr iu im
  have c2 := pchin_call (l := a.reverse) (p := p.reverse) (by rw [List.length_reverse, List.length_reverse]; omega) (by rw [List.length_reverse]; omega) (fun i hi => by
    rw [List.length_reverse] at hi
    rw [rev_get (by omega)]; exact ha _ (by omega)) (fun q hq => hp q (List.mem_reverse.1 hq)) (List.pairwise_reverse.2 (hn.imp fun h => h.symm)) hr' (CrtP.reverse hcr) iu im
  have s1 := rsame_call im im (by omega)
  have s2 := rsame_call iu iu (by omega)
  rw [decide_eq_true rfl] at s1 s2
  have sg := rsign_call (cmpI u 0) iu rfl
  have cm := rcmp_call (-1) iu im (cmpI_lt hcr.hi).symm (by omega) (by omega)
  obtain ⟨good, rest, o1, o2, o3, o4⟩ := odd_lists hp hn
  obtain ⟨os, or', io, co⟩ := rof_call 1 (by omega) (by omega)
  refine ⟨us, ur, ms, mr, cmpI u 0, ?_, c1, c2, rvalid_call iu (by omega), s1, s2, sg, cm, fun i hi => ?_, pchin_long (by rw [List.length_append]; simp; omega), ?_, ?_, ⟨os, or', ?_, co⟩, fun j hj hjk ps pr ip => ?_, fun ps pr ip => ?_⟩
  · unfold cmpI
    have := hcr.lo
    rw [if_neg (by omega)]
    split <;> omega
  · have hq := hp _ (hpg i hi)
    have h1 := hcr.res _ (hpg i hi)
    rw [hr i (by omega)] at h1
    exact ⟨_, _, _, rfl, rfl, hq.1, hq.2.1, (ha i hi).1, h1.symm, rresidue_call iu (by omega) (by have := hq.1; omega) (by have := hq.2.1; omega) rfl⟩
  · exact pchin_bad (good := good) (rest := rest) (x := 2) (by rw [List.length_append, List.length_append]; simp; omega) (by rw [List.length_append]; simp; omega) o1 o2 o3 (by omega) (by omega) (.inr o4)
  · exact pchin_bad (good := []) (rest := []) (x := 4) rfl (by simp) rfl (fun q hq => by cases hq) List.nodup_nil (by omega) (by omega) (.inl not_pf4)
  · rw [← lp, List.drop_length]; exact io
  · have hq := hp _ (hpg (j - 1) (by omega))
    have b1 := hbd j
    obtain ⟨ts, tr, it, c3⟩ := rof_call (p.getD (j - 1) 0) (by have := hq.1; omega) (by have := hq.2.1; omega)
    have n1 : nl (lprod (p.drop j)).natAbs ≤ 100 := nl_le_of (by omega)
    have n2 : nl (p.getD (j - 1) 0).natAbs ≤ 2 := nl_le_of (by have := hq.1; have := hq.2.1; omega)
    obtain ⟨qs, qr, iq, c4⟩ := rmul_call ip it (by omega) (by omega)
    exact ⟨_, ts, tr, qs, qr, rfl, by have := hq.1; omega, hq.2.1, c3, c4, iq.of (drop_rev hj (by omega)).2.symm⟩
  · exact ip.inj (im.of hcr.prod)
end Go.Proofs.Ytgncmjcoojmccaa
end

section
set_option linter.unusedVariables false
set_option linter.unusedSimpArgs false
set_option maxHeartbeats 8000000
set_option linter.unusedVariables false
set_option linter.unusedSimpArgs false
set_option maxRecDepth 100000
namespace Go.Proofs.Ytgncmjcoojmccaa
open Go Go.Abs Go.Abs.M Go.Proofs

def jn1St (ab : Nat) (h8 h9 : Option Blk) (K : Int) (kk : Nat) (pr : Abs.Rows) (us : Bool) (ur : Abs.Rows) (ms : Bool) (mr : Abs.Rows) (ps : Bool) (qr br tr : Abs.Rows) (len : Nat) (i : Int) : St := mkSt 194 [.junk, .junk, .junk, .junk, .junk, .junk, vb false, vb true, vi .i64 K, vl pr, .c (.sl ab 0 kk false), .c (.ptr 12 0 0), .c (.ptr 13 0 0), vi .i64 0, .c (.ptr 16 0 0), .c (.sl 17 0 len false), .c (.sl 18 0 len false), vi .i64 i]
  [none, none, none, none, none, none, none, none, h8, h9, none, none, some (.var [.t (.v (.bool us)), .t (.lst false ur)]), some (.var [.t (.v (.bool ms)), .t (.lst false mr)]), none, none, some (.var [.t (.v (.bool ps)), .t (.lst false qr)]), some (.rows 1 br true false), some (.rows 1 tr true false)]


def jn2St (ab : Nat) (h8 h9 : Option Blk) (K : Int) (kk : Nat) (pr : Abs.Rows) (us : Bool) (ur : Abs.Rows) (i : Int) : St := mkSt 194 [.junk, .junk, .junk, .junk, .junk, .junk, vb false, vb true, vi .i64 K, vl pr, .c (.sl ab 0 kk false), .c (.ptr 12 0 0), .junk, .junk, .junk, .junk, .junk, .junk, .junk, .junk, .junk, vi .i64 i]
  [none, none, none, none, none, none, none, none, h8, h9, none, none, some (.var [.t (.v (.bool us)), .t (.lst false ur)])]


theorem joins_call1 (hsan : ACall Try.prog 10 [] ⟨[.val (tb true)], []⟩) (a b c d n m : Int) (hm : m % 5 = 1) (hm0 : 0 ≤ m) (h1 : 0 ≤ n) (h2 : n < 4294967296) (ha : 0 ≤ a ∧ a < 18446744073709551616) (hb : 0 ≤ b ∧ b < 18446744073709551616) (hc : 0 ≤ c ∧ c < 18446744073709551616) (hd : 0 ≤ d ∧ d < 18446744073709551616) :
    ACall Try.prog 7 [.val (.agg [.v (.int .u64 a), .v (.int .u64 b), .v (.int .u64 c), .v (.int .u64 d)]), .val (ti .u32 n), .val (ti .u8 m)] ⟨[.val (tb true)], [none, none, none]⟩ := by
  have cch := chosen_call n 1 h1 h2 (by omega)
  have hch := chsL_ok (s := n % 2147000000) (by omega) (by omega) 1 (by omega)
  obtain ⟨p, hp⟩ : ∃ p, p = (chsL (n % 2147000000) 1).2 := ⟨_, rfl⟩
  rw [← hp] at cch
  have hprm : ∀ q ∈ p, Prm q := fun q hq => (hch.mem q (hp ▸ hq)).1
  have hnd : p.Nodup := by rw [hp]; exact hch.nd
  obtain ⟨us, ur, ms, mr, sc, hsc, C1, C2, V1, S1, S2, G1, M1, R1, L1, O1, F1, ⟨os, or', io, co⟩, P1, P2⟩ := joins_facts (p := p) (a := [a]) (k := 1) (by omega) hprm hnd (by rw [hp]; exact hch.len) rfl (fun i hi => by
    have h4 : i = 0 ∨ i = 1 ∨ i = 2 ∨ i = 3 := by omega
    rcases h4 with rfl | rfl | rfl | rfl
    all_goals first
      | exact ha
      | exact hb
      | exact hc
      | exact hd
      | exact absurd hi (by omega))
  obtain ⟨ar, har⟩ : ∃ ar, ar = W .u64 [a] := ⟨_, rfl⟩
  obtain ⟨pr, hpr⟩ : ∃ pr, pr = W .u64 p := ⟨_, rfl⟩
  rw [← hpr] at cch
  have cch : ACall Try.prog 25 [.val (ti .u32 n), .val (ti .i64 1)] ⟨[.val (tl pr)], [none, none]⟩ := cch
  refine callZ ccOk mixed [.val] Try.func7 rfl rfl (by kernel_rfl) fun zwrap zadd zsub zmul zquo zrem zshl zshr zband zbor zbxor zbandn zeq zne zlt zle znot zbeq zbne zmax zmin znat zinb zofN zidx zneq znadd zdif zcut zroom zmkok zlen znth zsetr zisI zgetI zsetI zfit zpart zext zsetg zrep zwide zall zmok zmget zmset zW zth A L F hS hF => ?_
  have y11 : znot true = false := hS.not true
  have w1 : zwrap .i64 (zrem m 5) = 1 := by rw [hS.rem, hS.wrap, Int.tmod_eq_emod_of_nonneg hm0, hm]; rfl
  cbv
  refine ⟨_, hS.call (hsan), ?_⟩
  cbv
  refine bF (y11) ?_
  rw [w1]
  refine ⟨_, hS.call (cch), ?_⟩
  cbv
  have q0 : zneq (zlen [[Tree.v (.int .u64 a)]]) 0 = false := by rw [hS.len, hS.neq]; rfl
  have q1 : znot (zneq (zlen [[Tree.v (.int .u64 a)]]) 0) = true := by rw [q0, hS.not]; rfl
  have q2 : zwide 1 [[Tree.v (.int .u64 a)]] = true := by rw [hS.wide]; rfl
  have q3 : zroom 0 (zlen [[Tree.v (.int .u64 a)]]) 8 = true := by rw [hS.len, hS.room]; exact decide_eq_true (by unfold capBytes; simp)
  have q4 : zneq (znadd 0 0) (zlen []) = true := by rw [hS.nadd, hS.len, hS.neq]; rfl
  have q5 : zext [] 0 [[Tree.v (.int .u64 a)]] = ar := by rw [hS.ext, har]; rfl
  have q6 : znadd 0 (zlen [[Tree.v (.int .u64 a)]]) = 1 := by rw [hS.nadd, hS.len]; rfl
  have q7 : zfit 0 1 ar = true := by rw [hS.fit, har]; rfl
  have q8 : zpart ar 0 1 = ar := by rw [hS.part, har]; rfl
  rw [← har, ← hpr] at C1
  refine bF q0 (nd q1 (nd q2 (nd q3 (nd q4 ?_))))
  rw [q5, q6]
  refine nd (q7) ?_
  rw [q8]
  refine ⟨_, hS.call (C1), ?_⟩
  cbv
  refine ⟨_, hS.call (co), ?_⟩
  cbv
  have w2 : zwrap .i64 (zsub 1 1) = 0 := by rw [hS.sub, hS.wrap]; rfl
  rw [w2]
  refine loopZR ccOk mixed hS (fun (j : Nat) s' => ∃ (I : Int) (ps : Bool) (qr br tr : Abs.Rows) (len : Nat), I + 1 = j ∧ j ≤ 1 ∧ IsI (lprod (p.drop j)) ps qr ∧ br = W .u64 (([a] : List Int).drop j).reverse ∧ tr = W .u64 (p.drop j).reverse ∧ len = 1 - j ∧ s' = jn1St 9 none (some (.rows 1 ar true true)) 1 1 pr us ur ms mr ps qr br tr len I) (n := 1) (s0 := jn1St 9 none (some (.rows 1 ar true true)) 1 1 pr us ur ms mr os or' [] [] 0 0) (le_of ?_ ?_) rfl (by show 3 ≤ 19; omega) ?_ ?_
  · simp [leT, jn1St, mkSt, vi, vb, vl]
  · simp [leH, jn1St, mkSt]
  · refine ⟨0, os, or', [], [], 0, rfl, Nat.le_refl _, io, rfl, ?_, rfl, rfl⟩
    rw [List.drop_of_length_le (by rw [hp, hch.len]; exact Nat.le_refl _)]; rfl
  · rintro j s1 ⟨I, ps, qr, br, tr, len, hI, hj, ip, hbr, htr, hlen, hs1⟩
    by_cases hj0 : 0 < j
    · have l1 : zle 0 I = true := by rw [hS.le]; exact decide_eq_true (by omega)
      obtain ⟨q, ts, tr1, qs, qr', hq, hq0, hq1, c3, c4, iq⟩ := P1 j hj0 hj ps qr ip
      have hnat : znat I = j - 1 := by rw [hS.nat]; omega
      have hidx : zidx 0 I = j - 1 := by rw [hS.idx]; omega
      have g1 : zisI .u64 pr (znat I) = true := by rw [hnat, hS.isI, hpr, W_isI]; exact decide_eq_true (by rw [hp, hch.len]; omega)
      have g2 : zgetI pr (znat I) = q := by rw [hnat, hS.getI, hpr, W_getI, hq]
      obtain ⟨v, hv⟩ : ∃ v, v = ([a] : List Int).getD (j - 1) 0 := ⟨_, rfl⟩
      have g3 : zisI .u64 ar (zidx 0 I) = true := by rw [hidx, hS.isI, har, W_isI]; exact decide_eq_true (by simp; omega)
      have g4 : zgetI ar (zidx 0 I) = v := by rw [hidx, hS.getI, har, W_getI, hv]
      have g5 : zinb I 1 = true := by rw [hS.inb]; exact decide_eq_true (by omega)
      have w3 : zwrap .i64 q = q := by rw [hS.wrap, wrap_i64 (by omega) (by omega)]
      obtain ⟨I', hI', i1⟩ : ∃ I' : Int, I' + 1 = ((j - 1 : Nat) : Int) ∧ zwrap .i64 (zsub I 1) = I' := ⟨I - 1, by omega, by rw [hS.sub, hS.wrap, wrap_i64 (by omega) (by omega)]⟩
      have hl8 : len ≤ 8 := by omega
      have hlb : len = (([a] : List Int).drop j).reverse.length := by rw [List.length_reverse, List.length_drop]; simpa using hlen
      have hlt : len = (p.drop j).reverse.length := by rw [List.length_reverse, List.length_drop, hp, hch.len]; exact hlen
      have ba0 : zpart [[Tree.v (.int .u64 v)]] 0 1 = W .u64 [v] := by rw [hS.part]; rfl
      have ba1 : zfit 0 1 [[Tree.v (.int .u64 v)]] = true := by rw [hS.fit]; rfl
      have ba2 : znot (zneq (zlen (zpart [[Tree.v (.int .u64 v)]] 0 1)) 0) = true := by rw [ba0, hS.len, hS.neq, hS.not]; rfl
      have ba3 : zwide 1 (zpart [[Tree.v (.int .u64 v)]] 0 1) = true := by rw [ba0, hS.wide]; rfl
      have ba4 : zroom len (zlen (zpart [[Tree.v (.int .u64 v)]] 0 1)) 8 = true := by rw [ba0, hS.len, hS.room]; exact decide_eq_true (by unfold capBytes; simp only [W, List.map_cons, List.map_nil, List.length_cons, List.length_nil]; omega)
      have ba5 : zneq (znadd 0 len) (zlen br) = true := by rw [hS.nadd, hS.neq, hS.len, hbr, W_len, hlb, Nat.zero_add]; exact decide_eq_true rfl
      have ba6 : znadd len (zlen (zpart [[Tree.v (.int .u64 v)]] 0 1)) = len + 1 := by rw [ba0, hS.len, hS.nadd]; rfl
      have ba7 : zext br 0 (zpart [[Tree.v (.int .u64 v)]] 0 1) = W .u64 ((([a] : List Int).drop j).reverse ++ [v]) := by rw [ba0, hS.ext, hbr, List.drop_zero]; simp [W]
      have ta0 : zpart [[Tree.v (.int .u64 q)]] 0 1 = W .u64 [q] := by rw [hS.part]; rfl
      have ta1 : zfit 0 1 [[Tree.v (.int .u64 q)]] = true := by rw [hS.fit]; rfl
      have ta2 : znot (zneq (zlen (zpart [[Tree.v (.int .u64 q)]] 0 1)) 0) = true := by rw [ta0, hS.len, hS.neq, hS.not]; rfl
      have ta3 : zwide 1 (zpart [[Tree.v (.int .u64 q)]] 0 1) = true := by rw [ta0, hS.wide]; rfl
      have ta4 : zroom len (zlen (zpart [[Tree.v (.int .u64 q)]] 0 1)) 8 = true := by rw [ta0, hS.len, hS.room]; exact decide_eq_true (by unfold capBytes; simp only [W, List.map_cons, List.map_nil, List.length_cons, List.length_nil]; omega)
      have ta5 : zneq (znadd 0 len) (zlen tr) = true := by rw [hS.nadd, hS.neq, hS.len, htr, W_len, hlt, Nat.zero_add]; exact decide_eq_true rfl
      have ta6 : znadd len (zlen (zpart [[Tree.v (.int .u64 q)]] 0 1)) = len + 1 := by rw [ta0, hS.len, hS.nadd]; rfl
      have ta7 : zext tr 0 (zpart [[Tree.v (.int .u64 q)]] 0 1) = W .u64 ((p.drop j).reverse ++ [q]) := by rw [ta0, hS.ext, htr, List.drop_zero]; simp [W]
      have d1 := drop_rev (l := [a]) hj0 (by simpa using hj)
      have d2 := drop_rev (l := p) hj0 (by rw [hp, hch.len]; exact hj)
      rw [← hv] at d1
      rw [hq] at d2
      rw [← d1.1] at ba7
      rw [← d2.1] at ta7
      obtain ⟨br', hbr'⟩ : ∃ r, r = W .u64 (([a] : List Int).drop (j - 1)).reverse := ⟨_, rfl⟩
      obtain ⟨tr2, htr2⟩ : ∃ r, r = W .u64 (p.drop (j - 1)).reverse := ⟨_, rfl⟩
      rw [← hbr'] at ba7
      rw [← htr2] at ta7
      have hjj : j - 1 < j := by omega
      have hnx : ∃ (I : Int) (ps : Bool) (qr br tr : Abs.Rows) (len' : Nat), I + 1 = ((j - 1 : Nat) : Int) ∧ j - 1 ≤ 1 ∧ IsI (lprod (p.drop (j - 1))) ps qr ∧ br = W .u64 (([a] : List Int).drop (j - 1)).reverse ∧ tr = W .u64 (p.drop (j - 1)).reverse ∧ len' = 1 - (j - 1) ∧ jn1St 9 none (some (.rows 1 ar true true)) 1 1 pr us ur ms mr qs qr' br' tr2 (len + 1) I' = jn1St 9 none (some (.rows 1 ar true true)) 1 1 pr us ur ms mr ps qr br tr len' I :=
        ⟨I', qs, qr', br', tr2, len + 1, hI', by omega, iq, hbr', htr2, by omega, rfl⟩
      clear P1 P2 R1 V1 S1 S2 G1 M1 L1 O1 F1 C1 C2 hbr htr hlb hlt d1 d2 ba0 ta0 hnat hidx ip iq
      subst hs1
      cbv
      refine bT (l1) ?_
      refine nd (l1) ?_
      refine nd (g1) ?_
      rw [g2, w3]
      refine ⟨_, hS.call (c3), ?_⟩
      cbv
      refine ⟨_, hS.call (c4), ?_⟩
      cbv
      refine nd (g5) ?_
      refine nd (g3) ?_
      rw [g4]
      refine nd (ba1) ?_
      refine nd (ba2) ?_
      refine nd (ba3) ?_
      refine nd (ba4) ?_
      refine nd (ba5) ?_
      refine nd (l1) ?_
      refine nd (g1) ?_
      rw [g2]
      refine nd (ta1) ?_
      refine nd (ta2) ?_
      refine nd (ta3) ?_
      refine nd (ta4) ?_
      refine nd (ta5) ?_
      refine againR [(17, 24), (18, 26)] (s' := jn1St 9 none (some (.rows 1 ar true true)) 1 1 pr us ur ms mr qs qr' br' tr2 (len + 1) I') (k := j - 1) ?_ ?_ ?_ ?_ rfl (by show 3 ≤ 19; omega) hjj hnx
      · simp [leTR, jn1St, mkSt, vi, vb, vl, AV.ren, AV.noTup, Cell.ren, renF, i1, ba6, ta6]
      · simp [leHR, jn1St, mkSt, Abs.look, renF, Blk.ren, Cell.ren, ba7, ta7]
      · simp [liveR, jn1St, mkSt, renF]
      · simp
    · have l1 : zle 0 I = false := by rw [hS.le]; exact decide_eq_false (by omega)
      obtain rfl : j = 0 := by omega
      obtain ⟨rfl, rfl⟩ := P2 ps qr ip
      rw [List.drop_zero] at hbr htr
      have hl2 : len = 1 := by omega
      subst hl2
      obtain ⟨P, hP⟩ : ∃ P, P = W .u64 p.reverse := ⟨_, rfl⟩
      obtain ⟨Q, hQ⟩ : ∃ Q, Q = W .u64 ([a] : List Int).reverse := ⟨_, rfl⟩
      rw [← hP, ← hQ] at C2
      have f1 : zfit 0 1 br = true := by rw [hS.fit, hbr, W_len, List.length_reverse]; rfl
      have f2 : zfit 0 1 tr = true := by rw [hS.fit, htr, W_len, List.length_reverse]; exact decide_eq_true (by rw [hp, hch.len]; exact Nat.le_refl _)
      have f3 : zpart br 0 1 = Q := by rw [hS.part, hbr, W_part, List.drop_zero, List.take_of_length_le (by rw [List.length_reverse]; exact Nat.le_refl _), hQ]
      have f4 : zpart tr 0 1 = P := by rw [hS.part, htr, W_part, List.drop_zero, List.take_of_length_le (by rw [List.length_reverse, hp, hch.len]; exact Nat.le_refl _), hP]
      have v1 : zne 0 0 = false := by rw [hS.ne]; rfl
      have v2 : zlt sc 0 = false := by rw [hS.lt]; exact decide_eq_false (by omega)
      have v3 : zle 0 (-1) = false := by rw [hS.le]; rfl
      clear P1 P2 hbr htr hP hQ ip hI
      subst hs1
      cbv
      refine bF (l1) ?_
      refine nd (f1) ?_
      refine nd (f2) ?_
      rw [f3, f4]
      refine ⟨_, hS.call (C2), ?_⟩
      cbv
      refine bF (v1) ?_
      refine bF (v1) ?_
      refine ⟨_, hS.call (V1), ?_⟩
      cbv
      refine bF (y11) ?_
      refine ⟨_, hS.call (S1), ?_⟩
      cbv
      refine bF (y11) ?_
      refine ⟨_, hS.call (S2), ?_⟩
      cbv
      refine bF (y11) ?_
      refine ⟨_, hS.call (S1), ?_⟩
      cbv
      refine bF (y11) ?_
      refine ⟨_, hS.call (G1), ?_⟩
      cbv
      refine bF (v2) ?_
      refine ⟨_, hS.call (M1), ?_⟩
      cbv
      refine bF (v3) ?_
      refine loopZ ccOk mixed hS (fun (j : Nat) s' => ∃ (i : Nat) (I : Int), I = i ∧ i + j = 1 ∧ s' = jn2St 9 none (some (.rows 1 ar true true)) 1 1 pr us ur I) (n := 1) (s0 := jn2St 9 none (some (.rows 1 ar true true)) 1 1 pr us ur 0) (le_of ?_ ?_) rfl (by show 3 ≤ 13; omega) ?_ ?_
      · simp [leT, jn2St, mkSt, vi, vb, vl]
      · simp [leH, jn2St, mkSt]
      · exact ⟨0, 0, rfl, rfl, rfl⟩
      · rintro j s1 ⟨i, I, hI, hij, hs1⟩
        by_cases hi : i < 1
        · have l2 : zlt I 1 = true := by rw [hS.lt]; exact decide_eq_true (by omega)
          obtain ⟨q, e, v, hq, he, q2, q3, e0, hv, c5⟩ := R1 i hi
          have hnat : znat I = i := by rw [hS.nat]; omega
          have hidx : zidx 0 I = i := by rw [hS.idx]; omega
          have g0 : zle 0 I = true := by rw [hS.le]; exact decide_eq_true (by omega)
          have g1 : zisI .u64 pr (znat I) = true := by rw [hnat, hS.isI, hpr, W_isI]; exact decide_eq_true (by rw [hp, hch.len]; omega)
          have g2 : zgetI pr (znat I) = q := by rw [hnat, hS.getI, hpr, W_getI, hq]
          have g3 : zisI .u64 ar (zidx 0 I) = true := by rw [hidx, hS.isI, har, W_isI]; exact decide_eq_true (by simp; omega)
          have g4 : zgetI ar (zidx 0 I) = e := by rw [hidx, hS.getI, har, W_getI, he]
          have g5 : zinb I 1 = true := by rw [hS.inb]; exact decide_eq_true (by omega)
          have g6 : zne q 0 = true := by rw [hS.ne]; exact decide_eq_true (by omega)
          have g7 : zne v (zrem e q) = false := by rw [hS.ne, hS.rem, Int.tmod_eq_emod_of_nonneg e0, hv]; exact decide_eq_false (by simp)
          obtain ⟨I', hI', i1⟩ : ∃ I' : Int, I' = ((i + 1 : Nat) : Int) ∧ zwrap .i64 (zadd I 1) = I' := ⟨I + 1, by omega, by rw [hS.add, hS.wrap, wrap_i64 (by omega) (by omega)]⟩
          have hjj : j - 1 < j := by omega
          have hij' : i + 1 + (j - 1) = 1 := by omega
          clear R1 V1 S1 S2 G1 M1 L1 O1 F1 C1 C2 hnat hidx hI
          subst hs1
          cbv
          refine bT (l2) ?_
          refine nd (g0) ?_
          refine nd (g1) ?_
          rw [g2]
          refine ⟨_, hS.call (c5), ?_⟩
          cbv
          refine nd (g5) ?_
          refine nd (g3) ?_
          refine nd (g0) ?_
          refine nd (g1) ?_
          rw [g2, g4]
          refine nd (g6) ?_
          refine bF (g7) ?_
          exact again (s' := jn2St 9 none (some (.rows 1 ar true true)) 1 1 pr us ur I') (m := j - 1) (by simp [leT, jn2St, mkSt, vi, vb, vl, i1]) (by simp [leH, jn2St, mkSt]) rfl (by show 3 ≤ 13; omega) hjj ⟨i + 1, I', hI', hij', rfl⟩
        · have l2 : zlt I 1 = false := by rw [hS.lt]; exact decide_eq_false (by omega)
          obtain ⟨X, hX⟩ : ∃ X, X = W .u64 ([a] ++ [1]) := ⟨_, rfl⟩
          have hlen2 : 1 = ([a] : List Int).length := rfl
          have xa0 : zpart [[Tree.v (.int .u64 1)]] 0 1 = W .u64 [1] := by rw [hS.part]; rfl
          have xa1 : zfit 0 1 [[Tree.v (.int .u64 1)]] = true := by rw [hS.fit]; rfl
          have xa2 : znot (zneq (zlen (zpart [[Tree.v (.int .u64 1)]] 0 1)) 0) = true := by rw [xa0, hS.len, hS.neq, hS.not]; rfl
          have xa3 : zwide 1 (zpart [[Tree.v (.int .u64 1)]] 0 1) = true := by rw [xa0, hS.wide]; rfl
          have xa4 : zroom 1 (zlen (zpart [[Tree.v (.int .u64 1)]] 0 1)) 8 = true := by rw [xa0, hS.len, hS.room]; exact decide_eq_true (by unfold capBytes; simp only [W, List.map_cons, List.map_nil, List.length_cons, List.length_nil]; omega)
          have xa5 : zneq (znadd 0 1) (zlen ar) = true := by rw [hS.nadd, hS.neq, hS.len, har, W_len, hlen2, Nat.zero_add]; exact decide_eq_true rfl
          have xa6 : znadd 1 (zlen (zpart [[Tree.v (.int .u64 1)]] 0 1)) = 1 + 1 := by rw [xa0, hS.len, hS.nadd]; rfl
          have xa7 : zext ar 0 (zpart [[Tree.v (.int .u64 1)]] 0 1) = W .u64 (([a] : List Int) ++ [1]) := by rw [xa0, hS.ext, har, List.drop_zero]; simp [W]
          rw [← hX] at xa7
          rw [← hX, ← hpr] at L1
          have xa8 : zfit 0 2 X = true := by rw [hS.fit, hX]; rfl
          have xa9 : zpart X 0 2 = X := by rw [hS.part, hX]; rfl
          obtain ⟨L1', hL1'⟩ : ∃ L, L = ([[Tree.v (.int .u64 1)], [Tree.v (.int .u64 2)]] : Abs.Rows) := ⟨_, rfl⟩
          obtain ⟨L2', hL2'⟩ : ∃ L, L = ([[Tree.v (.int .u64 2)], [Tree.v (.int .u64 2)]] : Abs.Rows) := ⟨_, rfl⟩
          obtain ⟨A', hA'⟩ : ∃ L, L = W .u64 ([a] ++ [1, 2]) := ⟨_, rfl⟩
          obtain ⟨P', hP'⟩ : ∃ L, L = W .u64 (p ++ [2, 2]) := ⟨_, rfl⟩
          rw [← hA', ← hP'] at O1
          have F1' : ACall Try.prog 26 [.val (tl [[.v (.int .u64 1)]]), .val (tl [[.v (.int .u64 4)]])] ⟨[.val (.agg (iT false [])), .val (.agg (iT false [])), .val (ti .i64 1)], [none, none]⟩ := F1
          have lar : zlen ar = 1 := by rw [hS.len, har]; rfl
          have lpr : zlen pr = 1 := by rw [hS.len, hpr, W_len, hp, hch.len]
          have ll1 : zlen L1' = 2 := by rw [hS.len, hL1']; rfl
          have ll2 : zlen L2' = 2 := by rw [hS.len, hL2']; rfl
          have ln : zlen [] = 0 := by rw [hS.len]; rfl
          have m1 : zpart L1' 0 2 = L1' := by rw [hS.part, hL1']; rfl
          have m2 : zpart L2' 0 2 = L2' := by rw [hS.part, hL2']; rfl
          have m3 : zpart [[Tree.v (.int .u64 1)]] 0 1 = [[Tree.v (.int .u64 1)]] := by rw [hS.part]; rfl
          have m4 : zpart [[Tree.v (.int .u64 4)]] 0 1 = [[Tree.v (.int .u64 4)]] := by rw [hS.part]; rfl
          have t1 : zneq 1 0 = false := by rw [hS.neq]; rfl
          have t0 : zneq 2 0 = false := by rw [hS.neq]; rfl
          have t2 : znot false = true := hS.not false
          have t3 : zneq 0 0 = true := by rw [hS.neq]; rfl
          have t4 : znadd 0 0 = 0 := by rw [hS.nadd]
          have t5 : znadd 0 1 = 1 := by rw [hS.nadd]
          have t6 : znadd 1 2 = 1 + 2 := by rw [hS.nadd]
          have t7 : zneq 1 1 = true := by rw [hS.neq]; rfl
          have t8 : zroom 0 1 8 = true := by rw [hS.room]; exact decide_eq_true (by unfold capBytes; omega)
          have t8' : zroom 0 2 8 = true := by rw [hS.room]; exact decide_eq_true (by unfold capBytes; omega)
          have t9 : zroom 1 2 8 = true := by rw [hS.room]; exact decide_eq_true (by unfold capBytes; omega)
          have k1 : zwide 1 ar = true := by rw [hS.wide, har]; rfl
          have k2 : zwide 1 pr = true := by rw [hS.wide, hpr]; simp [W]
          have k3 : zwide 1 L1' = true := by rw [hS.wide, hL1']; rfl
          have k4 : zwide 1 L2' = true := by rw [hS.wide, hL2']; rfl
          have k5 : zfit 0 2 L1' = true := by rw [hS.fit, hL1']; rfl
          have k6 : zfit 0 2 L2' = true := by rw [hS.fit, hL2']; rfl
          have n1 : zext [] 0 ar = ar := by rw [hS.ext]; rfl
          have n2 : zext [] 0 pr = pr := by rw [hS.ext]; rfl
          have n3 : zext ar 0 L1' = A' := by rw [hS.ext, har, hL1', hA']; rfl
          have n4 : zext pr 0 L2' = P' := by rw [hS.ext, hpr, hL2', hP', List.drop_zero]; simp [W]
          have n5 : zfit 0 (1 + 2) A' = true := by rw [hS.fit, hA']; rfl
          have n6 : zfit 0 (1 + 2) P' = true := by rw [hS.fit, hP', W_len, List.length_append, hp, hch.len]; rfl
          have n7 : zpart A' 0 (1 + 2) = A' := by rw [hS.part, hA']; rfl
          have n8 : zpart P' 0 (1 + 2) = P' := by rw [hS.part, hP', W_part, List.drop_zero, List.take_of_length_le (by rw [List.length_append, hp, hch.len]; exact Nat.le_refl _)]
          have u1 : zfit 0 1 [[Tree.v (.int .u64 1)]] = true := by rw [hS.fit]; rfl
          have u2 : zfit 0 1 [[Tree.v (.int .u64 4)]] = true := by rw [hS.fit]; rfl
          have u3 : zeq 1 1 = true := by rw [hS.eq]; rfl
          clear R1 V1 S1 S2 G1 M1 C1 C2 hI xa0
          subst hs1
          cbv
          refine bF l2 ?_
          refine nd (xa1) ?_
          refine nd (xa2) ?_
          refine nd (xa3) ?_
          refine nd (xa4) ?_
          refine nd (xa5) ?_
          rw [xa6, xa7]
          refine nd (xa8) ?_
          rw [xa9]
          refine ⟨_, hS.call (L1), ?_⟩
          cbv
          rw [← hL1', ← hL2']
          refine bF (by simp only [q8, lar, t1]) ?_
          repeat refine nd (by simp only [q7, q8, lar, lpr, ll1, ll2, ln, m1, m2, t0, t1, t2, t3, t4, t5, t6, t7, t8, t8', t9, k1, k2, k3, k4, k5, k6, n1, n2, n3, n4, n5, n6, n7, n8]) ?_
          refine bF (by simp only [lpr, t1]) ?_
          repeat refine nd (by simp only [q7, q8, lar, lpr, ll1, ll2, ln, m1, m2, t0, t1, t2, t3, t4, t5, t6, t7, t8, t8', t9, k1, k2, k3, k4, k5, k6, n1, n2, n3, n4, n5, n6, n7, n8]) ?_
          rw [show zpart (zext (zext [] 0 (zpart ar 0 1)) 0 (zpart L1' 0 2)) 0 (znadd (znadd 0 (zlen (zpart ar 0 1))) (zlen (zpart L1' 0 2))) = A' from by simp only [q8, lar, ll1, m1, t5, t6, n1, n3, n7],
            show zpart (zext (zext [] 0 pr) 0 (zpart L2' 0 2)) 0 (znadd (znadd 0 (zlen pr)) (zlen (zpart L2' 0 2))) = P' from by simp only [lpr, ll2, m2, t5, t6, n2, n4, n8]]
          refine ⟨_, hS.call (O1), ?_⟩
          cbv
          refine nd (u1) ?_
          refine nd (u2) ?_
          rw [m3, m4]
          refine ⟨_, hS.call (F1'), ?_⟩
          cbv
          refine bT (u3) ?_
          refine bT (u3) ?_
          refine bT (u3) ?_
          exact hF _ (ResLe.refl _)

theorem joins_call2 (hsan : ACall Try.prog 10 [] ⟨[.val (tb true)], []⟩) (a b c d n m : Int) (hm : m % 5 = 2) (hm0 : 0 ≤ m) (h1 : 0 ≤ n) (h2 : n < 4294967296) (ha : 0 ≤ a ∧ a < 18446744073709551616) (hb : 0 ≤ b ∧ b < 18446744073709551616) (hc : 0 ≤ c ∧ c < 18446744073709551616) (hd : 0 ≤ d ∧ d < 18446744073709551616) :
    ACall Try.prog 7 [.val (.agg [.v (.int .u64 a), .v (.int .u64 b), .v (.int .u64 c), .v (.int .u64 d)]), .val (ti .u32 n), .val (ti .u8 m)] ⟨[.val (tb true)], [none, none, none]⟩ := by
  have cch := chosen_call n 2 h1 h2 (by omega)
  have hch := chsL_ok (s := n % 2147000000) (by omega) (by omega) 2 (by omega)
  obtain ⟨p, hp⟩ : ∃ p, p = (chsL (n % 2147000000) 2).2 := ⟨_, rfl⟩
  rw [← hp] at cch
  have hprm : ∀ q ∈ p, Prm q := fun q hq => (hch.mem q (hp ▸ hq)).1
  have hnd : p.Nodup := by rw [hp]; exact hch.nd
  obtain ⟨us, ur, ms, mr, sc, hsc, C1, C2, V1, S1, S2, G1, M1, R1, L1, O1, F1, ⟨os, or', io, co⟩, P1, P2⟩ := joins_facts (p := p) (a := [a, b]) (k := 2) (by omega) hprm hnd (by rw [hp]; exact hch.len) rfl (fun i hi => by
    have h4 : i = 0 ∨ i = 1 ∨ i = 2 ∨ i = 3 := by omega
    rcases h4 with rfl | rfl | rfl | rfl
    all_goals first
      | exact ha
      | exact hb
      | exact hc
      | exact hd
      | exact absurd hi (by omega))
  obtain ⟨ar, har⟩ : ∃ ar, ar = W .u64 [a, b] := ⟨_, rfl⟩
  obtain ⟨pr, hpr⟩ : ∃ pr, pr = W .u64 p := ⟨_, rfl⟩
  rw [← hpr] at cch
  have cch : ACall Try.prog 25 [.val (ti .u32 n), .val (ti .i64 2)] ⟨[.val (tl pr)], [none, none]⟩ := cch
  refine callZ ccOk mixed [.val] Try.func7 rfl rfl (by kernel_rfl) fun zwrap zadd zsub zmul zquo zrem zshl zshr zband zbor zbxor zbandn zeq zne zlt zle znot zbeq zbne zmax zmin znat zinb zofN zidx zneq znadd zdif zcut zroom zmkok zlen znth zsetr zisI zgetI zsetI zfit zpart zext zsetg zrep zwide zall zmok zmget zmset zW zth A L F hS hF => ?_
  have y11 : znot true = false := hS.not true
  have w1 : zwrap .i64 (zrem m 5) = 2 := by rw [hS.rem, hS.wrap, Int.tmod_eq_emod_of_nonneg hm0, hm]; rfl
  cbv
  refine ⟨_, hS.call (hsan), ?_⟩
  cbv
  refine bF (y11) ?_
  rw [w1]
  refine ⟨_, hS.call (cch), ?_⟩
  cbv
  have q0 : zneq (zlen [[Tree.v (.int .u64 a)], [Tree.v (.int .u64 b)]]) 0 = false := by rw [hS.len, hS.neq]; rfl
  have q1 : znot (zneq (zlen [[Tree.v (.int .u64 a)], [Tree.v (.int .u64 b)]]) 0) = true := by rw [q0, hS.not]; rfl
  have q2 : zwide 1 [[Tree.v (.int .u64 a)], [Tree.v (.int .u64 b)]] = true := by rw [hS.wide]; rfl
  have q3 : zroom 0 (zlen [[Tree.v (.int .u64 a)], [Tree.v (.int .u64 b)]]) 8 = true := by rw [hS.len, hS.room]; exact decide_eq_true (by unfold capBytes; simp)
  have q4 : zneq (znadd 0 0) (zlen []) = true := by rw [hS.nadd, hS.len, hS.neq]; rfl
  have q5 : zext [] 0 [[Tree.v (.int .u64 a)], [Tree.v (.int .u64 b)]] = ar := by rw [hS.ext, har]; rfl
  have q6 : znadd 0 (zlen [[Tree.v (.int .u64 a)], [Tree.v (.int .u64 b)]]) = 2 := by rw [hS.nadd, hS.len]; rfl
  have q7 : zfit 0 2 ar = true := by rw [hS.fit, har]; rfl
  have q8 : zpart ar 0 2 = ar := by rw [hS.part, har]; rfl
  rw [← har, ← hpr] at C1
  refine bF q0 (nd q1 (nd q2 (nd q3 (nd q4 ?_))))
  rw [q5, q6]
  refine nd (q7) ?_
  rw [q8]
  refine ⟨_, hS.call (C1), ?_⟩
  cbv
  refine ⟨_, hS.call (co), ?_⟩
  cbv
  have w2 : zwrap .i64 (zsub 2 1) = 1 := by rw [hS.sub, hS.wrap]; rfl
  rw [w2]
  refine loopZR ccOk mixed hS (fun (j : Nat) s' => ∃ (I : Int) (ps : Bool) (qr br tr : Abs.Rows) (len : Nat), I + 1 = j ∧ j ≤ 2 ∧ IsI (lprod (p.drop j)) ps qr ∧ br = W .u64 (([a, b] : List Int).drop j).reverse ∧ tr = W .u64 (p.drop j).reverse ∧ len = 2 - j ∧ s' = jn1St 9 none (some (.rows 1 ar true true)) 2 2 pr us ur ms mr ps qr br tr len I) (n := 2) (s0 := jn1St 9 none (some (.rows 1 ar true true)) 2 2 pr us ur ms mr os or' [] [] 0 1) (le_of ?_ ?_) rfl (by show 3 ≤ 19; omega) ?_ ?_
  · simp [leT, jn1St, mkSt, vi, vb, vl]
  · simp [leH, jn1St, mkSt]
  · refine ⟨1, os, or', [], [], 0, rfl, Nat.le_refl _, io, rfl, ?_, rfl, rfl⟩
    rw [List.drop_of_length_le (by rw [hp, hch.len]; exact Nat.le_refl _)]; rfl
  · rintro j s1 ⟨I, ps, qr, br, tr, len, hI, hj, ip, hbr, htr, hlen, hs1⟩
    by_cases hj0 : 0 < j
    · have l1 : zle 0 I = true := by rw [hS.le]; exact decide_eq_true (by omega)
      obtain ⟨q, ts, tr1, qs, qr', hq, hq0, hq1, c3, c4, iq⟩ := P1 j hj0 hj ps qr ip
      have hnat : znat I = j - 1 := by rw [hS.nat]; omega
      have hidx : zidx 0 I = j - 1 := by rw [hS.idx]; omega
      have g1 : zisI .u64 pr (znat I) = true := by rw [hnat, hS.isI, hpr, W_isI]; exact decide_eq_true (by rw [hp, hch.len]; omega)
      have g2 : zgetI pr (znat I) = q := by rw [hnat, hS.getI, hpr, W_getI, hq]
      obtain ⟨v, hv⟩ : ∃ v, v = ([a, b] : List Int).getD (j - 1) 0 := ⟨_, rfl⟩
      have g3 : zisI .u64 ar (zidx 0 I) = true := by rw [hidx, hS.isI, har, W_isI]; exact decide_eq_true (by simp; omega)
      have g4 : zgetI ar (zidx 0 I) = v := by rw [hidx, hS.getI, har, W_getI, hv]
      have g5 : zinb I 2 = true := by rw [hS.inb]; exact decide_eq_true (by omega)
      have w3 : zwrap .i64 q = q := by rw [hS.wrap, wrap_i64 (by omega) (by omega)]
      obtain ⟨I', hI', i1⟩ : ∃ I' : Int, I' + 1 = ((j - 1 : Nat) : Int) ∧ zwrap .i64 (zsub I 1) = I' := ⟨I - 1, by omega, by rw [hS.sub, hS.wrap, wrap_i64 (by omega) (by omega)]⟩
      have hl8 : len ≤ 8 := by omega
      have hlb : len = (([a, b] : List Int).drop j).reverse.length := by rw [List.length_reverse, List.length_drop]; simpa using hlen
      have hlt : len = (p.drop j).reverse.length := by rw [List.length_reverse, List.length_drop, hp, hch.len]; exact hlen
      have ba0 : zpart [[Tree.v (.int .u64 v)]] 0 1 = W .u64 [v] := by rw [hS.part]; rfl
      have ba1 : zfit 0 1 [[Tree.v (.int .u64 v)]] = true := by rw [hS.fit]; rfl
      have ba2 : znot (zneq (zlen (zpart [[Tree.v (.int .u64 v)]] 0 1)) 0) = true := by rw [ba0, hS.len, hS.neq, hS.not]; rfl
      have ba3 : zwide 1 (zpart [[Tree.v (.int .u64 v)]] 0 1) = true := by rw [ba0, hS.wide]; rfl
      have ba4 : zroom len (zlen (zpart [[Tree.v (.int .u64 v)]] 0 1)) 8 = true := by rw [ba0, hS.len, hS.room]; exact decide_eq_true (by unfold capBytes; simp only [W, List.map_cons, List.map_nil, List.length_cons, List.length_nil]; omega)
      have ba5 : zneq (znadd 0 len) (zlen br) = true := by rw [hS.nadd, hS.neq, hS.len, hbr, W_len, hlb, Nat.zero_add]; exact decide_eq_true rfl
      have ba6 : znadd len (zlen (zpart [[Tree.v (.int .u64 v)]] 0 1)) = len + 1 := by rw [ba0, hS.len, hS.nadd]; rfl
      have ba7 : zext br 0 (zpart [[Tree.v (.int .u64 v)]] 0 1) = W .u64 ((([a, b] : List Int).drop j).reverse ++ [v]) := by rw [ba0, hS.ext, hbr, List.drop_zero]; simp [W]
      have ta0 : zpart [[Tree.v (.int .u64 q)]] 0 1 = W .u64 [q] := by rw [hS.part]; rfl
      have ta1 : zfit 0 1 [[Tree.v (.int .u64 q)]] = true := by rw [hS.fit]; rfl
      have ta2 : znot (zneq (zlen (zpart [[Tree.v (.int .u64 q)]] 0 1)) 0) = true := by rw [ta0, hS.len, hS.neq, hS.not]; rfl
      have ta3 : zwide 1 (zpart [[Tree.v (.int .u64 q)]] 0 1) = true := by rw [ta0, hS.wide]; rfl
      have ta4 : zroom len (zlen (zpart [[Tree.v (.int .u64 q)]] 0 1)) 8 = true := by rw [ta0, hS.len, hS.room]; exact decide_eq_true (by unfold capBytes; simp only [W, List.map_cons, List.map_nil, List.length_cons, List.length_nil]; omega)
      have ta5 : zneq (znadd 0 len) (zlen tr) = true := by rw [hS.nadd, hS.neq, hS.len, htr, W_len, hlt, Nat.zero_add]; exact decide_eq_true rfl
      have ta6 : znadd len (zlen (zpart [[Tree.v (.int .u64 q)]] 0 1)) = len + 1 := by rw [ta0, hS.len, hS.nadd]; rfl
      have ta7 : zext tr 0 (zpart [[Tree.v (.int .u64 q)]] 0 1) = W .u64 ((p.drop j).reverse ++ [q]) := by rw [ta0, hS.ext, htr, List.drop_zero]; simp [W]
      have d1 := drop_rev (l := [a, b]) hj0 (by simpa using hj)
      have d2 := drop_rev (l := p) hj0 (by rw [hp, hch.len]; exact hj)
      rw [← hv] at d1
      rw [hq] at d2
      rw [← d1.1] at ba7
      rw [← d2.1] at ta7
      obtain ⟨br', hbr'⟩ : ∃ r, r = W .u64 (([a, b] : List Int).drop (j - 1)).reverse := ⟨_, rfl⟩
      obtain ⟨tr2, htr2⟩ : ∃ r, r = W .u64 (p.drop (j - 1)).reverse := ⟨_, rfl⟩
      rw [← hbr'] at ba7
      rw [← htr2] at ta7
      have hjj : j - 1 < j := by omega
      have hnx : ∃ (I : Int) (ps : Bool) (qr br tr : Abs.Rows) (len' : Nat), I + 1 = ((j - 1 : Nat) : Int) ∧ j - 1 ≤ 2 ∧ IsI (lprod (p.drop (j - 1))) ps qr ∧ br = W .u64 (([a, b] : List Int).drop (j - 1)).reverse ∧ tr = W .u64 (p.drop (j - 1)).reverse ∧ len' = 2 - (j - 1) ∧ jn1St 9 none (some (.rows 1 ar true true)) 2 2 pr us ur ms mr qs qr' br' tr2 (len + 1) I' = jn1St 9 none (some (.rows 1 ar true true)) 2 2 pr us ur ms mr ps qr br tr len' I :=
        ⟨I', qs, qr', br', tr2, len + 1, hI', by omega, iq, hbr', htr2, by omega, rfl⟩
      clear P1 P2 R1 V1 S1 S2 G1 M1 L1 O1 F1 C1 C2 hbr htr hlb hlt d1 d2 ba0 ta0 hnat hidx ip iq
      subst hs1
      cbv
      refine bT (l1) ?_
      refine nd (l1) ?_
      refine nd (g1) ?_
      rw [g2, w3]
      refine ⟨_, hS.call (c3), ?_⟩
      cbv
      refine ⟨_, hS.call (c4), ?_⟩
      cbv
      refine nd (g5) ?_
      refine nd (g3) ?_
      rw [g4]
      refine nd (ba1) ?_
      refine nd (ba2) ?_
      refine nd (ba3) ?_
      refine nd (ba4) ?_
      refine nd (ba5) ?_
      refine nd (l1) ?_
      refine nd (g1) ?_
      rw [g2]
      refine nd (ta1) ?_
      refine nd (ta2) ?_
      refine nd (ta3) ?_
      refine nd (ta4) ?_
      refine nd (ta5) ?_
      refine againR [(17, 24), (18, 26)] (s' := jn1St 9 none (some (.rows 1 ar true true)) 2 2 pr us ur ms mr qs qr' br' tr2 (len + 1) I') (k := j - 1) ?_ ?_ ?_ ?_ rfl (by show 3 ≤ 19; omega) hjj hnx
      · simp [leTR, jn1St, mkSt, vi, vb, vl, AV.ren, AV.noTup, Cell.ren, renF, i1, ba6, ta6]
      · simp [leHR, jn1St, mkSt, Abs.look, renF, Blk.ren, Cell.ren, ba7, ta7]
      · simp [liveR, jn1St, mkSt, renF]
      · simp
    · have l1 : zle 0 I = false := by rw [hS.le]; exact decide_eq_false (by omega)
      obtain rfl : j = 0 := by omega
      obtain ⟨rfl, rfl⟩ := P2 ps qr ip
      rw [List.drop_zero] at hbr htr
      have hl2 : len = 2 := by omega
      subst hl2
      obtain ⟨P, hP⟩ : ∃ P, P = W .u64 p.reverse := ⟨_, rfl⟩
      obtain ⟨Q, hQ⟩ : ∃ Q, Q = W .u64 ([a, b] : List Int).reverse := ⟨_, rfl⟩
      rw [← hP, ← hQ] at C2
      have f1 : zfit 0 2 br = true := by rw [hS.fit, hbr, W_len, List.length_reverse]; rfl
      have f2 : zfit 0 2 tr = true := by rw [hS.fit, htr, W_len, List.length_reverse]; exact decide_eq_true (by rw [hp, hch.len]; exact Nat.le_refl _)
      have f3 : zpart br 0 2 = Q := by rw [hS.part, hbr, W_part, List.drop_zero, List.take_of_length_le (by rw [List.length_reverse]; exact Nat.le_refl _), hQ]
      have f4 : zpart tr 0 2 = P := by rw [hS.part, htr, W_part, List.drop_zero, List.take_of_length_le (by rw [List.length_reverse, hp, hch.len]; exact Nat.le_refl _), hP]
      have v1 : zne 0 0 = false := by rw [hS.ne]; rfl
      have v2 : zlt sc 0 = false := by rw [hS.lt]; exact decide_eq_false (by omega)
      have v3 : zle 0 (-1) = false := by rw [hS.le]; rfl
      clear P1 P2 hbr htr hP hQ ip hI
      subst hs1
      cbv
      refine bF (l1) ?_
      refine nd (f1) ?_
      refine nd (f2) ?_
      rw [f3, f4]
      refine ⟨_, hS.call (C2), ?_⟩
      cbv
      refine bF (v1) ?_
      refine bF (v1) ?_
      refine ⟨_, hS.call (V1), ?_⟩
      cbv
      refine bF (y11) ?_
      refine ⟨_, hS.call (S1), ?_⟩
      cbv
      refine bF (y11) ?_
      refine ⟨_, hS.call (S2), ?_⟩
      cbv
      refine bF (y11) ?_
      refine ⟨_, hS.call (S1), ?_⟩
      cbv
      refine bF (y11) ?_
      refine ⟨_, hS.call (G1), ?_⟩
      cbv
      refine bF (v2) ?_
      refine ⟨_, hS.call (M1), ?_⟩
      cbv
      refine bF (v3) ?_
      refine loopZ ccOk mixed hS (fun (j : Nat) s' => ∃ (i : Nat) (I : Int), I = i ∧ i + j = 2 ∧ s' = jn2St 9 none (some (.rows 1 ar true true)) 2 2 pr us ur I) (n := 2) (s0 := jn2St 9 none (some (.rows 1 ar true true)) 2 2 pr us ur 0) (le_of ?_ ?_) rfl (by show 3 ≤ 13; omega) ?_ ?_
      · simp [leT, jn2St, mkSt, vi, vb, vl]
      · simp [leH, jn2St, mkSt]
      · exact ⟨0, 0, rfl, rfl, rfl⟩
      · rintro j s1 ⟨i, I, hI, hij, hs1⟩
        by_cases hi : i < 2
        · have l2 : zlt I 2 = true := by rw [hS.lt]; exact decide_eq_true (by omega)
          obtain ⟨q, e, v, hq, he, q2, q3, e0, hv, c5⟩ := R1 i hi
          have hnat : znat I = i := by rw [hS.nat]; omega
          have hidx : zidx 0 I = i := by rw [hS.idx]; omega
          have g0 : zle 0 I = true := by rw [hS.le]; exact decide_eq_true (by omega)
          have g1 : zisI .u64 pr (znat I) = true := by rw [hnat, hS.isI, hpr, W_isI]; exact decide_eq_true (by rw [hp, hch.len]; omega)
          have g2 : zgetI pr (znat I) = q := by rw [hnat, hS.getI, hpr, W_getI, hq]
          have g3 : zisI .u64 ar (zidx 0 I) = true := by rw [hidx, hS.isI, har, W_isI]; exact decide_eq_true (by simp; omega)
          have g4 : zgetI ar (zidx 0 I) = e := by rw [hidx, hS.getI, har, W_getI, he]
          have g5 : zinb I 2 = true := by rw [hS.inb]; exact decide_eq_true (by omega)
          have g6 : zne q 0 = true := by rw [hS.ne]; exact decide_eq_true (by omega)
          have g7 : zne v (zrem e q) = false := by rw [hS.ne, hS.rem, Int.tmod_eq_emod_of_nonneg e0, hv]; exact decide_eq_false (by simp)
          obtain ⟨I', hI', i1⟩ : ∃ I' : Int, I' = ((i + 1 : Nat) : Int) ∧ zwrap .i64 (zadd I 1) = I' := ⟨I + 1, by omega, by rw [hS.add, hS.wrap, wrap_i64 (by omega) (by omega)]⟩
          have hjj : j - 1 < j := by omega
          have hij' : i + 1 + (j - 1) = 2 := by omega
          clear R1 V1 S1 S2 G1 M1 L1 O1 F1 C1 C2 hnat hidx hI
          subst hs1
          cbv
          refine bT (l2) ?_
          refine nd (g0) ?_
          refine nd (g1) ?_
          rw [g2]
          refine ⟨_, hS.call (c5), ?_⟩
          cbv
          refine nd (g5) ?_
          refine nd (g3) ?_
          refine nd (g0) ?_
          refine nd (g1) ?_
          rw [g2, g4]
          refine nd (g6) ?_
          refine bF (g7) ?_
          exact again (s' := jn2St 9 none (some (.rows 1 ar true true)) 2 2 pr us ur I') (m := j - 1) (by simp [leT, jn2St, mkSt, vi, vb, vl, i1]) (by simp [leH, jn2St, mkSt]) rfl (by show 3 ≤ 13; omega) hjj ⟨i + 1, I', hI', hij', rfl⟩
        · have l2 : zlt I 2 = false := by rw [hS.lt]; exact decide_eq_false (by omega)
          obtain ⟨X, hX⟩ : ∃ X, X = W .u64 ([a, b] ++ [1]) := ⟨_, rfl⟩
          have hlen2 : 2 = ([a, b] : List Int).length := rfl
          have xa0 : zpart [[Tree.v (.int .u64 1)]] 0 1 = W .u64 [1] := by rw [hS.part]; rfl
          have xa1 : zfit 0 1 [[Tree.v (.int .u64 1)]] = true := by rw [hS.fit]; rfl
          have xa2 : znot (zneq (zlen (zpart [[Tree.v (.int .u64 1)]] 0 1)) 0) = true := by rw [xa0, hS.len, hS.neq, hS.not]; rfl
          have xa3 : zwide 1 (zpart [[Tree.v (.int .u64 1)]] 0 1) = true := by rw [xa0, hS.wide]; rfl
          have xa4 : zroom 2 (zlen (zpart [[Tree.v (.int .u64 1)]] 0 1)) 8 = true := by rw [xa0, hS.len, hS.room]; exact decide_eq_true (by unfold capBytes; simp only [W, List.map_cons, List.map_nil, List.length_cons, List.length_nil]; omega)
          have xa5 : zneq (znadd 0 2) (zlen ar) = true := by rw [hS.nadd, hS.neq, hS.len, har, W_len, hlen2, Nat.zero_add]; exact decide_eq_true rfl
          have xa6 : znadd 2 (zlen (zpart [[Tree.v (.int .u64 1)]] 0 1)) = 2 + 1 := by rw [xa0, hS.len, hS.nadd]; rfl
          have xa7 : zext ar 0 (zpart [[Tree.v (.int .u64 1)]] 0 1) = W .u64 (([a, b] : List Int) ++ [1]) := by rw [xa0, hS.ext, har, List.drop_zero]; simp [W]
          rw [← hX] at xa7
          rw [← hX, ← hpr] at L1
          have xa8 : zfit 0 3 X = true := by rw [hS.fit, hX]; rfl
          have xa9 : zpart X 0 3 = X := by rw [hS.part, hX]; rfl
          obtain ⟨L1', hL1'⟩ : ∃ L, L = ([[Tree.v (.int .u64 1)], [Tree.v (.int .u64 2)]] : Abs.Rows) := ⟨_, rfl⟩
          obtain ⟨L2', hL2'⟩ : ∃ L, L = ([[Tree.v (.int .u64 2)], [Tree.v (.int .u64 2)]] : Abs.Rows) := ⟨_, rfl⟩
          obtain ⟨A', hA'⟩ : ∃ L, L = W .u64 ([a, b] ++ [1, 2]) := ⟨_, rfl⟩
          obtain ⟨P', hP'⟩ : ∃ L, L = W .u64 (p ++ [2, 2]) := ⟨_, rfl⟩
          rw [← hA', ← hP'] at O1
          have F1' : ACall Try.prog 26 [.val (tl [[.v (.int .u64 1)]]), .val (tl [[.v (.int .u64 4)]])] ⟨[.val (.agg (iT false [])), .val (.agg (iT false [])), .val (ti .i64 1)], [none, none]⟩ := F1
          have lar : zlen ar = 2 := by rw [hS.len, har]; rfl
          have lpr : zlen pr = 2 := by rw [hS.len, hpr, W_len, hp, hch.len]
          have ll1 : zlen L1' = 2 := by rw [hS.len, hL1']; rfl
          have ll2 : zlen L2' = 2 := by rw [hS.len, hL2']; rfl
          have ln : zlen [] = 0 := by rw [hS.len]; rfl
          have m1 : zpart L1' 0 2 = L1' := by rw [hS.part, hL1']; rfl
          have m2 : zpart L2' 0 2 = L2' := by rw [hS.part, hL2']; rfl
          have m3 : zpart [[Tree.v (.int .u64 1)]] 0 1 = [[Tree.v (.int .u64 1)]] := by rw [hS.part]; rfl
          have m4 : zpart [[Tree.v (.int .u64 4)]] 0 1 = [[Tree.v (.int .u64 4)]] := by rw [hS.part]; rfl
          have t1 : zneq 2 0 = false := by rw [hS.neq]; rfl
          have t0 : zneq 2 0 = false := by rw [hS.neq]; rfl
          have t2 : znot false = true := hS.not false
          have t3 : zneq 0 0 = true := by rw [hS.neq]; rfl
          have t4 : znadd 0 0 = 0 := by rw [hS.nadd]
          have t5 : znadd 0 2 = 2 := by rw [hS.nadd]
          have t6 : znadd 2 2 = 2 + 2 := by rw [hS.nadd]
          have t7 : zneq 2 2 = true := by rw [hS.neq]; rfl
          have t8 : zroom 0 2 8 = true := by rw [hS.room]; exact decide_eq_true (by unfold capBytes; omega)
          have t8' : zroom 0 2 8 = true := by rw [hS.room]; exact decide_eq_true (by unfold capBytes; omega)
          have t9 : zroom 2 2 8 = true := by rw [hS.room]; exact decide_eq_true (by unfold capBytes; omega)
          have k1 : zwide 1 ar = true := by rw [hS.wide, har]; rfl
          have k2 : zwide 1 pr = true := by rw [hS.wide, hpr]; simp [W]
          have k3 : zwide 1 L1' = true := by rw [hS.wide, hL1']; rfl
          have k4 : zwide 1 L2' = true := by rw [hS.wide, hL2']; rfl
          have k5 : zfit 0 2 L1' = true := by rw [hS.fit, hL1']; rfl
          have k6 : zfit 0 2 L2' = true := by rw [hS.fit, hL2']; rfl
          have n1 : zext [] 0 ar = ar := by rw [hS.ext]; rfl
          have n2 : zext [] 0 pr = pr := by rw [hS.ext]; rfl
          have n3 : zext ar 0 L1' = A' := by rw [hS.ext, har, hL1', hA']; rfl
          have n4 : zext pr 0 L2' = P' := by rw [hS.ext, hpr, hL2', hP', List.drop_zero]; simp [W]
          have n5 : zfit 0 (2 + 2) A' = true := by rw [hS.fit, hA']; rfl
          have n6 : zfit 0 (2 + 2) P' = true := by rw [hS.fit, hP', W_len, List.length_append, hp, hch.len]; rfl
          have n7 : zpart A' 0 (2 + 2) = A' := by rw [hS.part, hA']; rfl
          have n8 : zpart P' 0 (2 + 2) = P' := by rw [hS.part, hP', W_part, List.drop_zero, List.take_of_length_le (by rw [List.length_append, hp, hch.len]; exact Nat.le_refl _)]
          have u1 : zfit 0 1 [[Tree.v (.int .u64 1)]] = true := by rw [hS.fit]; rfl
          have u2 : zfit 0 1 [[Tree.v (.int .u64 4)]] = true := by rw [hS.fit]; rfl
          have u3 : zeq 1 1 = true := by rw [hS.eq]; rfl
          clear R1 V1 S1 S2 G1 M1 C1 C2 hI xa0
          subst hs1
          cbv
          refine bF l2 ?_
          refine nd (xa1) ?_
          refine nd (xa2) ?_
          refine nd (xa3) ?_
          refine nd (xa4) ?_
          refine nd (xa5) ?_
          rw [xa6, xa7]
          refine nd (xa8) ?_
          rw [xa9]
          refine ⟨_, hS.call (L1), ?_⟩
          cbv
          rw [← hL1', ← hL2']
          refine bF (by simp only [q8, lar, t1]) ?_
          repeat refine nd (by simp only [q7, q8, lar, lpr, ll1, ll2, ln, m1, m2, t0, t1, t2, t3, t4, t5, t6, t7, t8, t8', t9, k1, k2, k3, k4, k5, k6, n1, n2, n3, n4, n5, n6, n7, n8]) ?_
          refine bF (by simp only [lpr, t1]) ?_
          repeat refine nd (by simp only [q7, q8, lar, lpr, ll1, ll2, ln, m1, m2, t0, t1, t2, t3, t4, t5, t6, t7, t8, t8', t9, k1, k2, k3, k4, k5, k6, n1, n2, n3, n4, n5, n6, n7, n8]) ?_
          rw [show zpart (zext (zext [] 0 (zpart ar 0 2)) 0 (zpart L1' 0 2)) 0 (znadd (znadd 0 (zlen (zpart ar 0 2))) (zlen (zpart L1' 0 2))) = A' from by simp only [q8, lar, ll1, m1, t5, t6, n1, n3, n7],
            show zpart (zext (zext [] 0 pr) 0 (zpart L2' 0 2)) 0 (znadd (znadd 0 (zlen pr)) (zlen (zpart L2' 0 2))) = P' from by simp only [lpr, ll2, m2, t5, t6, n2, n4, n8]]
          refine ⟨_, hS.call (O1), ?_⟩
          cbv
          refine nd (u1) ?_
          refine nd (u2) ?_
          rw [m3, m4]
          refine ⟨_, hS.call (F1'), ?_⟩
          cbv
          refine bT (u3) ?_
          refine bT (u3) ?_
          refine bT (u3) ?_
          exact hF _ (ResLe.refl _)

theorem joins_call3 (hsan : ACall Try.prog 10 [] ⟨[.val (tb true)], []⟩) (a b c d n m : Int) (hm : m % 5 = 3) (hm0 : 0 ≤ m) (h1 : 0 ≤ n) (h2 : n < 4294967296) (ha : 0 ≤ a ∧ a < 18446744073709551616) (hb : 0 ≤ b ∧ b < 18446744073709551616) (hc : 0 ≤ c ∧ c < 18446744073709551616) (hd : 0 ≤ d ∧ d < 18446744073709551616) :
    ACall Try.prog 7 [.val (.agg [.v (.int .u64 a), .v (.int .u64 b), .v (.int .u64 c), .v (.int .u64 d)]), .val (ti .u32 n), .val (ti .u8 m)] ⟨[.val (tb true)], [none, none, none]⟩ := by
  have cch := chosen_call n 3 h1 h2 (by omega)
  have hch := chsL_ok (s := n % 2147000000) (by omega) (by omega) 3 (by omega)
  obtain ⟨p, hp⟩ : ∃ p, p = (chsL (n % 2147000000) 3).2 := ⟨_, rfl⟩
  rw [← hp] at cch
  have hprm : ∀ q ∈ p, Prm q := fun q hq => (hch.mem q (hp ▸ hq)).1
  have hnd : p.Nodup := by rw [hp]; exact hch.nd
  obtain ⟨us, ur, ms, mr, sc, hsc, C1, C2, V1, S1, S2, G1, M1, R1, L1, O1, F1, ⟨os, or', io, co⟩, P1, P2⟩ := joins_facts (p := p) (a := [a, b, c]) (k := 3) (by omega) hprm hnd (by rw [hp]; exact hch.len) rfl (fun i hi => by
    have h4 : i = 0 ∨ i = 1 ∨ i = 2 ∨ i = 3 := by omega
    rcases h4 with rfl | rfl | rfl | rfl
    all_goals first
      | exact ha
      | exact hb
      | exact hc
      | exact hd
      | exact absurd hi (by omega))
  obtain ⟨ar, har⟩ : ∃ ar, ar = W .u64 [a, b, c] := ⟨_, rfl⟩
  obtain ⟨pr, hpr⟩ : ∃ pr, pr = W .u64 p := ⟨_, rfl⟩
  rw [← hpr] at cch
  have cch : ACall Try.prog 25 [.val (ti .u32 n), .val (ti .i64 3)] ⟨[.val (tl pr)], [none, none]⟩ := cch
  refine callZ ccOk mixed [.val] Try.func7 rfl rfl (by kernel_rfl) fun zwrap zadd zsub zmul zquo zrem zshl zshr zband zbor zbxor zbandn zeq zne zlt zle znot zbeq zbne zmax zmin znat zinb zofN zidx zneq znadd zdif zcut zroom zmkok zlen znth zsetr zisI zgetI zsetI zfit zpart zext zsetg zrep zwide zall zmok zmget zmset zW zth A L F hS hF => ?_
  have y11 : znot true = false := hS.not true
  have w1 : zwrap .i64 (zrem m 5) = 3 := by rw [hS.rem, hS.wrap, Int.tmod_eq_emod_of_nonneg hm0, hm]; rfl
  cbv
  refine ⟨_, hS.call (hsan), ?_⟩
  cbv
  refine bF (y11) ?_
  rw [w1]
  refine ⟨_, hS.call (cch), ?_⟩
  cbv
  have q0 : zneq (zlen [[Tree.v (.int .u64 a)], [Tree.v (.int .u64 b)], [Tree.v (.int .u64 c)]]) 0 = false := by rw [hS.len, hS.neq]; rfl
  have q1 : znot (zneq (zlen [[Tree.v (.int .u64 a)], [Tree.v (.int .u64 b)], [Tree.v (.int .u64 c)]]) 0) = true := by rw [q0, hS.not]; rfl
  have q2 : zwide 1 [[Tree.v (.int .u64 a)], [Tree.v (.int .u64 b)], [Tree.v (.int .u64 c)]] = true := by rw [hS.wide]; rfl
  have q3 : zroom 0 (zlen [[Tree.v (.int .u64 a)], [Tree.v (.int .u64 b)], [Tree.v (.int .u64 c)]]) 8 = true := by rw [hS.len, hS.room]; exact decide_eq_true (by unfold capBytes; simp)
  have q4 : zneq (znadd 0 0) (zlen []) = true := by rw [hS.nadd, hS.len, hS.neq]; rfl
  have q5 : zext [] 0 [[Tree.v (.int .u64 a)], [Tree.v (.int .u64 b)], [Tree.v (.int .u64 c)]] = ar := by rw [hS.ext, har]; rfl
  have q6 : znadd 0 (zlen [[Tree.v (.int .u64 a)], [Tree.v (.int .u64 b)], [Tree.v (.int .u64 c)]]) = 3 := by rw [hS.nadd, hS.len]; rfl
  have q7 : zfit 0 3 ar = true := by rw [hS.fit, har]; rfl
  have q8 : zpart ar 0 3 = ar := by rw [hS.part, har]; rfl
  rw [← har, ← hpr] at C1
  refine bF q0 (nd q1 (nd q2 (nd q3 (nd q4 ?_))))
  rw [q5, q6]
  refine nd (q7) ?_
  rw [q8]
  refine ⟨_, hS.call (C1), ?_⟩
  cbv
  refine ⟨_, hS.call (co), ?_⟩
  cbv
  have w2 : zwrap .i64 (zsub 3 1) = 2 := by rw [hS.sub, hS.wrap]; rfl
  rw [w2]
  refine loopZR ccOk mixed hS (fun (j : Nat) s' => ∃ (I : Int) (ps : Bool) (qr br tr : Abs.Rows) (len : Nat), I + 1 = j ∧ j ≤ 3 ∧ IsI (lprod (p.drop j)) ps qr ∧ br = W .u64 (([a, b, c] : List Int).drop j).reverse ∧ tr = W .u64 (p.drop j).reverse ∧ len = 3 - j ∧ s' = jn1St 9 none (some (.rows 1 ar true true)) 3 3 pr us ur ms mr ps qr br tr len I) (n := 3) (s0 := jn1St 9 none (some (.rows 1 ar true true)) 3 3 pr us ur ms mr os or' [] [] 0 2) (le_of ?_ ?_) rfl (by show 3 ≤ 19; omega) ?_ ?_
  · simp [leT, jn1St, mkSt, vi, vb, vl]
  · simp [leH, jn1St, mkSt]
  · refine ⟨2, os, or', [], [], 0, rfl, Nat.le_refl _, io, rfl, ?_, rfl, rfl⟩
    rw [List.drop_of_length_le (by rw [hp, hch.len]; exact Nat.le_refl _)]; rfl
  · rintro j s1 ⟨I, ps, qr, br, tr, len, hI, hj, ip, hbr, htr, hlen, hs1⟩
    by_cases hj0 : 0 < j
    · have l1 : zle 0 I = true := by rw [hS.le]; exact decide_eq_true (by omega)
      obtain ⟨q, ts, tr1, qs, qr', hq, hq0, hq1, c3, c4, iq⟩ := P1 j hj0 hj ps qr ip
      have hnat : znat I = j - 1 := by rw [hS.nat]; omega
      have hidx : zidx 0 I = j - 1 := by rw [hS.idx]; omega
      have g1 : zisI .u64 pr (znat I) = true := by rw [hnat, hS.isI, hpr, W_isI]; exact decide_eq_true (by rw [hp, hch.len]; omega)
      have g2 : zgetI pr (znat I) = q := by rw [hnat, hS.getI, hpr, W_getI, hq]
      obtain ⟨v, hv⟩ : ∃ v, v = ([a, b, c] : List Int).getD (j - 1) 0 := ⟨_, rfl⟩
      have g3 : zisI .u64 ar (zidx 0 I) = true := by rw [hidx, hS.isI, har, W_isI]; exact decide_eq_true (by simp; omega)
      have g4 : zgetI ar (zidx 0 I) = v := by rw [hidx, hS.getI, har, W_getI, hv]
      have g5 : zinb I 3 = true := by rw [hS.inb]; exact decide_eq_true (by omega)
      have w3 : zwrap .i64 q = q := by rw [hS.wrap, wrap_i64 (by omega) (by omega)]
      obtain ⟨I', hI', i1⟩ : ∃ I' : Int, I' + 1 = ((j - 1 : Nat) : Int) ∧ zwrap .i64 (zsub I 1) = I' := ⟨I - 1, by omega, by rw [hS.sub, hS.wrap, wrap_i64 (by omega) (by omega)]⟩
      have hl8 : len ≤ 8 := by omega
      have hlb : len = (([a, b, c] : List Int).drop j).reverse.length := by rw [List.length_reverse, List.length_drop]; simpa using hlen
      have hlt : len = (p.drop j).reverse.length := by rw [List.length_reverse, List.length_drop, hp, hch.len]; exact hlen
      have ba0 : zpart [[Tree.v (.int .u64 v)]] 0 1 = W .u64 [v] := by rw [hS.part]; rfl
      have ba1 : zfit 0 1 [[Tree.v (.int .u64 v)]] = true := by rw [hS.fit]; rfl
      have ba2 : znot (zneq (zlen (zpart [[Tree.v (.int .u64 v)]] 0 1)) 0) = true := by rw [ba0, hS.len, hS.neq, hS.not]; rfl
      have ba3 : zwide 1 (zpart [[Tree.v (.int .u64 v)]] 0 1) = true := by rw [ba0, hS.wide]; rfl
      have ba4 : zroom len (zlen (zpart [[Tree.v (.int .u64 v)]] 0 1)) 8 = true := by rw [ba0, hS.len, hS.room]; exact decide_eq_true (by unfold capBytes; simp only [W, List.map_cons, List.map_nil, List.length_cons, List.length_nil]; omega)
      have ba5 : zneq (znadd 0 len) (zlen br) = true := by rw [hS.nadd, hS.neq, hS.len, hbr, W_len, hlb, Nat.zero_add]; exact decide_eq_true rfl
      have ba6 : znadd len (zlen (zpart [[Tree.v (.int .u64 v)]] 0 1)) = len + 1 := by rw [ba0, hS.len, hS.nadd]; rfl
      have ba7 : zext br 0 (zpart [[Tree.v (.int .u64 v)]] 0 1) = W .u64 ((([a, b, c] : List Int).drop j).reverse ++ [v]) := by rw [ba0, hS.ext, hbr, List.drop_zero]; simp [W]
      have ta0 : zpart [[Tree.v (.int .u64 q)]] 0 1 = W .u64 [q] := by rw [hS.part]; rfl
      have ta1 : zfit 0 1 [[Tree.v (.int .u64 q)]] = true := by rw [hS.fit]; rfl
      have ta2 : znot (zneq (zlen (zpart [[Tree.v (.int .u64 q)]] 0 1)) 0) = true := by rw [ta0, hS.len, hS.neq, hS.not]; rfl
      have ta3 : zwide 1 (zpart [[Tree.v (.int .u64 q)]] 0 1) = true := by rw [ta0, hS.wide]; rfl
      have ta4 : zroom len (zlen (zpart [[Tree.v (.int .u64 q)]] 0 1)) 8 = true := by rw [ta0, hS.len, hS.room]; exact decide_eq_true (by unfold capBytes; simp only [W, List.map_cons, List.map_nil, List.length_cons, List.length_nil]; omega)
      have ta5 : zneq (znadd 0 len) (zlen tr) = true := by rw [hS.nadd, hS.neq, hS.len, htr, W_len, hlt, Nat.zero_add]; exact decide_eq_true rfl
      have ta6 : znadd len (zlen (zpart [[Tree.v (.int .u64 q)]] 0 1)) = len + 1 := by rw [ta0, hS.len, hS.nadd]; rfl
      have ta7 : zext tr 0 (zpart [[Tree.v (.int .u64 q)]] 0 1) = W .u64 ((p.drop j).reverse ++ [q]) := by rw [ta0, hS.ext, htr, List.drop_zero]; simp [W]
      have d1 := drop_rev (l := [a, b, c]) hj0 (by simpa using hj)
      have d2 := drop_rev (l := p) hj0 (by rw [hp, hch.len]; exact hj)
      rw [← hv] at d1
      rw [hq] at d2
      rw [← d1.1] at ba7
      rw [← d2.1] at ta7
      obtain ⟨br', hbr'⟩ : ∃ r, r = W .u64 (([a, b, c] : List Int).drop (j - 1)).reverse := ⟨_, rfl⟩
      obtain ⟨tr2, htr2⟩ : ∃ r, r = W .u64 (p.drop (j - 1)).reverse := ⟨_, rfl⟩
      rw [← hbr'] at ba7
      rw [← htr2] at ta7
      have hjj : j - 1 < j := by omega
      have hnx : ∃ (I : Int) (ps : Bool) (qr br tr : Abs.Rows) (len' : Nat), I + 1 = ((j - 1 : Nat) : Int) ∧ j - 1 ≤ 3 ∧ IsI (lprod (p.drop (j - 1))) ps qr ∧ br = W .u64 (([a, b, c] : List Int).drop (j - 1)).reverse ∧ tr = W .u64 (p.drop (j - 1)).reverse ∧ len' = 3 - (j - 1) ∧ jn1St 9 none (some (.rows 1 ar true true)) 3 3 pr us ur ms mr qs qr' br' tr2 (len + 1) I' = jn1St 9 none (some (.rows 1 ar true true)) 3 3 pr us ur ms mr ps qr br tr len' I :=
        ⟨I', qs, qr', br', tr2, len + 1, hI', by omega, iq, hbr', htr2, by omega, rfl⟩
      clear P1 P2 R1 V1 S1 S2 G1 M1 L1 O1 F1 C1 C2 hbr htr hlb hlt d1 d2 ba0 ta0 hnat hidx ip iq
      subst hs1
      cbv
      refine bT (l1) ?_
      refine nd (l1) ?_
      refine nd (g1) ?_
      rw [g2, w3]
      refine ⟨_, hS.call (c3), ?_⟩
      cbv
      refine ⟨_, hS.call (c4), ?_⟩
      cbv
      refine nd (g5) ?_
      refine nd (g3) ?_
      rw [g4]
      refine nd (ba1) ?_
      refine nd (ba2) ?_
      refine nd (ba3) ?_
      refine nd (ba4) ?_
      refine nd (ba5) ?_
      refine nd (l1) ?_
      refine nd (g1) ?_
      rw [g2]
      refine nd (ta1) ?_
      refine nd (ta2) ?_
      refine nd (ta3) ?_
      refine nd (ta4) ?_
      refine nd (ta5) ?_
      refine againR [(17, 24), (18, 26)] (s' := jn1St 9 none (some (.rows 1 ar true true)) 3 3 pr us ur ms mr qs qr' br' tr2 (len + 1) I') (k := j - 1) ?_ ?_ ?_ ?_ rfl (by show 3 ≤ 19; omega) hjj hnx
      · simp [leTR, jn1St, mkSt, vi, vb, vl, AV.ren, AV.noTup, Cell.ren, renF, i1, ba6, ta6]
      · simp [leHR, jn1St, mkSt, Abs.look, renF, Blk.ren, Cell.ren, ba7, ta7]
      · simp [liveR, jn1St, mkSt, renF]
      · simp
    · have l1 : zle 0 I = false := by rw [hS.le]; exact decide_eq_false (by omega)
      obtain rfl : j = 0 := by omega
      obtain ⟨rfl, rfl⟩ := P2 ps qr ip
      rw [List.drop_zero] at hbr htr
      have hl2 : len = 3 := by omega
      subst hl2
      obtain ⟨P, hP⟩ : ∃ P, P = W .u64 p.reverse := ⟨_, rfl⟩
      obtain ⟨Q, hQ⟩ : ∃ Q, Q = W .u64 ([a, b, c] : List Int).reverse := ⟨_, rfl⟩
      rw [← hP, ← hQ] at C2
      have f1 : zfit 0 3 br = true := by rw [hS.fit, hbr, W_len, List.length_reverse]; rfl
      have f2 : zfit 0 3 tr = true := by rw [hS.fit, htr, W_len, List.length_reverse]; exact decide_eq_true (by rw [hp, hch.len]; exact Nat.le_refl _)
      have f3 : zpart br 0 3 = Q := by rw [hS.part, hbr, W_part, List.drop_zero, List.take_of_length_le (by rw [List.length_reverse]; exact Nat.le_refl _), hQ]
      have f4 : zpart tr 0 3 = P := by rw [hS.part, htr, W_part, List.drop_zero, List.take_of_length_le (by rw [List.length_reverse, hp, hch.len]; exact Nat.le_refl _), hP]
      have v1 : zne 0 0 = false := by rw [hS.ne]; rfl
      have v2 : zlt sc 0 = false := by rw [hS.lt]; exact decide_eq_false (by omega)
      have v3 : zle 0 (-1) = false := by rw [hS.le]; rfl
      clear P1 P2 hbr htr hP hQ ip hI
      subst hs1
      cbv
      refine bF (l1) ?_
      refine nd (f1) ?_
      refine nd (f2) ?_
      rw [f3, f4]
      refine ⟨_, hS.call (C2), ?_⟩
      cbv
      refine bF (v1) ?_
      refine bF (v1) ?_
      refine ⟨_, hS.call (V1), ?_⟩
      cbv
      refine bF (y11) ?_
      refine ⟨_, hS.call (S1), ?_⟩
      cbv
      refine bF (y11) ?_
      refine ⟨_, hS.call (S2), ?_⟩
      cbv
      refine bF (y11) ?_
      refine ⟨_, hS.call (S1), ?_⟩
      cbv
      refine bF (y11) ?_
      refine ⟨_, hS.call (G1), ?_⟩
      cbv
      refine bF (v2) ?_
      refine ⟨_, hS.call (M1), ?_⟩
      cbv
      refine bF (v3) ?_
      refine loopZ ccOk mixed hS (fun (j : Nat) s' => ∃ (i : Nat) (I : Int), I = i ∧ i + j = 3 ∧ s' = jn2St 9 none (some (.rows 1 ar true true)) 3 3 pr us ur I) (n := 3) (s0 := jn2St 9 none (some (.rows 1 ar true true)) 3 3 pr us ur 0) (le_of ?_ ?_) rfl (by show 3 ≤ 13; omega) ?_ ?_
      · simp [leT, jn2St, mkSt, vi, vb, vl]
      · simp [leH, jn2St, mkSt]
      · exact ⟨0, 0, rfl, rfl, rfl⟩
      · rintro j s1 ⟨i, I, hI, hij, hs1⟩
        by_cases hi : i < 3
        · have l2 : zlt I 3 = true := by rw [hS.lt]; exact decide_eq_true (by omega)
          obtain ⟨q, e, v, hq, he, q2, q3, e0, hv, c5⟩ := R1 i hi
          have hnat : znat I = i := by rw [hS.nat]; omega
          have hidx : zidx 0 I = i := by rw [hS.idx]; omega
          have g0 : zle 0 I = true := by rw [hS.le]; exact decide_eq_true (by omega)
          have g1 : zisI .u64 pr (znat I) = true := by rw [hnat, hS.isI, hpr, W_isI]; exact decide_eq_true (by rw [hp, hch.len]; omega)
          have g2 : zgetI pr (znat I) = q := by rw [hnat, hS.getI, hpr, W_getI, hq]
          have g3 : zisI .u64 ar (zidx 0 I) = true := by rw [hidx, hS.isI, har, W_isI]; exact decide_eq_true (by simp; omega)
          have g4 : zgetI ar (zidx 0 I) = e := by rw [hidx, hS.getI, har, W_getI, he]
          have g5 : zinb I 3 = true := by rw [hS.inb]; exact decide_eq_true (by omega)
          have g6 : zne q 0 = true := by rw [hS.ne]; exact decide_eq_true (by omega)
          have g7 : zne v (zrem e q) = false := by rw [hS.ne, hS.rem, Int.tmod_eq_emod_of_nonneg e0, hv]; exact decide_eq_false (by simp)
          obtain ⟨I', hI', i1⟩ : ∃ I' : Int, I' = ((i + 1 : Nat) : Int) ∧ zwrap .i64 (zadd I 1) = I' := ⟨I + 1, by omega, by rw [hS.add, hS.wrap, wrap_i64 (by omega) (by omega)]⟩
          have hjj : j - 1 < j := by omega
          have hij' : i + 1 + (j - 1) = 3 := by omega
          clear R1 V1 S1 S2 G1 M1 L1 O1 F1 C1 C2 hnat hidx hI
          subst hs1
          cbv
          refine bT (l2) ?_
          refine nd (g0) ?_
          refine nd (g1) ?_
          rw [g2]
          refine ⟨_, hS.call (c5), ?_⟩
          cbv
          refine nd (g5) ?_
          refine nd (g3) ?_
          refine nd (g0) ?_
          refine nd (g1) ?_
          rw [g2, g4]
          refine nd (g6) ?_
          refine bF (g7) ?_
          exact again (s' := jn2St 9 none (some (.rows 1 ar true true)) 3 3 pr us ur I') (m := j - 1) (by simp [leT, jn2St, mkSt, vi, vb, vl, i1]) (by simp [leH, jn2St, mkSt]) rfl (by show 3 ≤ 13; omega) hjj ⟨i + 1, I', hI', hij', rfl⟩
        · have l2 : zlt I 3 = false := by rw [hS.lt]; exact decide_eq_false (by omega)
          obtain ⟨X, hX⟩ : ∃ X, X = W .u64 ([a, b, c] ++ [1]) := ⟨_, rfl⟩
          have hlen2 : 3 = ([a, b, c] : List Int).length := rfl
          have xa0 : zpart [[Tree.v (.int .u64 1)]] 0 1 = W .u64 [1] := by rw [hS.part]; rfl
          have xa1 : zfit 0 1 [[Tree.v (.int .u64 1)]] = true := by rw [hS.fit]; rfl
          have xa2 : znot (zneq (zlen (zpart [[Tree.v (.int .u64 1)]] 0 1)) 0) = true := by rw [xa0, hS.len, hS.neq, hS.not]; rfl
          have xa3 : zwide 1 (zpart [[Tree.v (.int .u64 1)]] 0 1) = true := by rw [xa0, hS.wide]; rfl
          have xa4 : zroom 3 (zlen (zpart [[Tree.v (.int .u64 1)]] 0 1)) 8 = true := by rw [xa0, hS.len, hS.room]; exact decide_eq_true (by unfold capBytes; simp only [W, List.map_cons, List.map_nil, List.length_cons, List.length_nil]; omega)
          have xa5 : zneq (znadd 0 3) (zlen ar) = true := by rw [hS.nadd, hS.neq, hS.len, har, W_len, hlen2, Nat.zero_add]; exact decide_eq_true rfl
          have xa6 : znadd 3 (zlen (zpart [[Tree.v (.int .u64 1)]] 0 1)) = 3 + 1 := by rw [xa0, hS.len, hS.nadd]; rfl
          have xa7 : zext ar 0 (zpart [[Tree.v (.int .u64 1)]] 0 1) = W .u64 (([a, b, c] : List Int) ++ [1]) := by rw [xa0, hS.ext, har, List.drop_zero]; simp [W]
          rw [← hX] at xa7
          rw [← hX, ← hpr] at L1
          have xa8 : zfit 0 4 X = true := by rw [hS.fit, hX]; rfl
          have xa9 : zpart X 0 4 = X := by rw [hS.part, hX]; rfl
          obtain ⟨L1', hL1'⟩ : ∃ L, L = ([[Tree.v (.int .u64 1)], [Tree.v (.int .u64 2)]] : Abs.Rows) := ⟨_, rfl⟩
          obtain ⟨L2', hL2'⟩ : ∃ L, L = ([[Tree.v (.int .u64 2)], [Tree.v (.int .u64 2)]] : Abs.Rows) := ⟨_, rfl⟩
          obtain ⟨A', hA'⟩ : ∃ L, L = W .u64 ([a, b, c] ++ [1, 2]) := ⟨_, rfl⟩
          obtain ⟨P', hP'⟩ : ∃ L, L = W .u64 (p ++ [2, 2]) := ⟨_, rfl⟩
          rw [← hA', ← hP'] at O1
          have F1' : ACall Try.prog 26 [.val (tl [[.v (.int .u64 1)]]), .val (tl [[.v (.int .u64 4)]])] ⟨[.val (.agg (iT false [])), .val (.agg (iT false [])), .val (ti .i64 1)], [none, none]⟩ := F1
          have lar : zlen ar = 3 := by rw [hS.len, har]; rfl
          have lpr : zlen pr = 3 := by rw [hS.len, hpr, W_len, hp, hch.len]
          have ll1 : zlen L1' = 2 := by rw [hS.len, hL1']; rfl
          have ll2 : zlen L2' = 2 := by rw [hS.len, hL2']; rfl
          have ln : zlen [] = 0 := by rw [hS.len]; rfl
          have m1 : zpart L1' 0 2 = L1' := by rw [hS.part, hL1']; rfl
          have m2 : zpart L2' 0 2 = L2' := by rw [hS.part, hL2']; rfl
          have m3 : zpart [[Tree.v (.int .u64 1)]] 0 1 = [[Tree.v (.int .u64 1)]] := by rw [hS.part]; rfl
          have m4 : zpart [[Tree.v (.int .u64 4)]] 0 1 = [[Tree.v (.int .u64 4)]] := by rw [hS.part]; rfl
          have t1 : zneq 3 0 = false := by rw [hS.neq]; rfl
          have t0 : zneq 2 0 = false := by rw [hS.neq]; rfl
          have t2 : znot false = true := hS.not false
          have t3 : zneq 0 0 = true := by rw [hS.neq]; rfl
          have t4 : znadd 0 0 = 0 := by rw [hS.nadd]
          have t5 : znadd 0 3 = 3 := by rw [hS.nadd]
          have t6 : znadd 3 2 = 3 + 2 := by rw [hS.nadd]
          have t7 : zneq 3 3 = true := by rw [hS.neq]; rfl
          have t8 : zroom 0 3 8 = true := by rw [hS.room]; exact decide_eq_true (by unfold capBytes; omega)
          have t8' : zroom 0 2 8 = true := by rw [hS.room]; exact decide_eq_true (by unfold capBytes; omega)
          have t9 : zroom 3 2 8 = true := by rw [hS.room]; exact decide_eq_true (by unfold capBytes; omega)
          have k1 : zwide 1 ar = true := by rw [hS.wide, har]; rfl
          have k2 : zwide 1 pr = true := by rw [hS.wide, hpr]; simp [W]
          have k3 : zwide 1 L1' = true := by rw [hS.wide, hL1']; rfl
          have k4 : zwide 1 L2' = true := by rw [hS.wide, hL2']; rfl
          have k5 : zfit 0 2 L1' = true := by rw [hS.fit, hL1']; rfl
          have k6 : zfit 0 2 L2' = true := by rw [hS.fit, hL2']; rfl
          have n1 : zext [] 0 ar = ar := by rw [hS.ext]; rfl
          have n2 : zext [] 0 pr = pr := by rw [hS.ext]; rfl
          have n3 : zext ar 0 L1' = A' := by rw [hS.ext, har, hL1', hA']; rfl
          have n4 : zext pr 0 L2' = P' := by rw [hS.ext, hpr, hL2', hP', List.drop_zero]; simp [W]
          have n5 : zfit 0 (3 + 2) A' = true := by rw [hS.fit, hA']; rfl
          have n6 : zfit 0 (3 + 2) P' = true := by rw [hS.fit, hP', W_len, List.length_append, hp, hch.len]; rfl
          have n7 : zpart A' 0 (3 + 2) = A' := by rw [hS.part, hA']; rfl
          have n8 : zpart P' 0 (3 + 2) = P' := by rw [hS.part, hP', W_part, List.drop_zero, List.take_of_length_le (by rw [List.length_append, hp, hch.len]; exact Nat.le_refl _)]
          have u1 : zfit 0 1 [[Tree.v (.int .u64 1)]] = true := by rw [hS.fit]; rfl
          have u2 : zfit 0 1 [[Tree.v (.int .u64 4)]] = true := by rw [hS.fit]; rfl
          have u3 : zeq 1 1 = true := by rw [hS.eq]; rfl
          clear R1 V1 S1 S2 G1 M1 C1 C2 hI xa0
          subst hs1
          cbv
          refine bF l2 ?_
          refine nd (xa1) ?_
          refine nd (xa2) ?_
          refine nd (xa3) ?_
          refine nd (xa4) ?_
          refine nd (xa5) ?_
          rw [xa6, xa7]
          refine nd (xa8) ?_
          rw [xa9]
          refine ⟨_, hS.call (L1), ?_⟩
          cbv
          rw [← hL1', ← hL2']
          refine bF (by simp only [q8, lar, t1]) ?_
          repeat refine nd (by simp only [q7, q8, lar, lpr, ll1, ll2, ln, m1, m2, t0, t1, t2, t3, t4, t5, t6, t7, t8, t8', t9, k1, k2, k3, k4, k5, k6, n1, n2, n3, n4, n5, n6, n7, n8]) ?_
          refine bF (by simp only [lpr, t1]) ?_
          repeat refine nd (by simp only [q7, q8, lar, lpr, ll1, ll2, ln, m1, m2, t0, t1, t2, t3, t4, t5, t6, t7, t8, t8', t9, k1, k2, k3, k4, k5, k6, n1, n2, n3, n4, n5, n6, n7, n8]) ?_
          rw [show zpart (zext (zext [] 0 (zpart ar 0 3)) 0 (zpart L1' 0 2)) 0 (znadd (znadd 0 (zlen (zpart ar 0 3))) (zlen (zpart L1' 0 2))) = A' from by simp only [q8, lar, ll1, m1, t5, t6, n1, n3, n7],
            show zpart (zext (zext [] 0 pr) 0 (zpart L2' 0 2)) 0 (znadd (znadd 0 (zlen pr)) (zlen (zpart L2' 0 2))) = P' from by simp only [lpr, ll2, m2, t5, t6, n2, n4, n8]]
          refine ⟨_, hS.call (O1), ?_⟩
          cbv
          refine nd (u1) ?_
          refine nd (u2) ?_
          rw [m3, m4]
          refine ⟨_, hS.call (F1'), ?_⟩
          cbv
          refine bT (u3) ?_
          refine bT (u3) ?_
          refine bT (u3) ?_
          exact hF _ (ResLe.refl _)

theorem joins_call4 (hsan : ACall Try.prog 10 [] ⟨[.val (tb true)], []⟩) (a b c d n m : Int) (hm : m % 5 = 4) (hm0 : 0 ≤ m) (h1 : 0 ≤ n) (h2 : n < 4294967296) (ha : 0 ≤ a ∧ a < 18446744073709551616) (hb : 0 ≤ b ∧ b < 18446744073709551616) (hc : 0 ≤ c ∧ c < 18446744073709551616) (hd : 0 ≤ d ∧ d < 18446744073709551616) :
    ACall Try.prog 7 [.val (.agg [.v (.int .u64 a), .v (.int .u64 b), .v (.int .u64 c), .v (.int .u64 d)]), .val (ti .u32 n), .val (ti .u8 m)] ⟨[.val (tb true)], [none, none, none]⟩ := by
  have cch := chosen_call n 4 h1 h2 (by omega)
  have hch := chsL_ok (s := n % 2147000000) (by omega) (by omega) 4 (by omega)
  obtain ⟨p, hp⟩ : ∃ p, p = (chsL (n % 2147000000) 4).2 := ⟨_, rfl⟩
  rw [← hp] at cch
  have hprm : ∀ q ∈ p, Prm q := fun q hq => (hch.mem q (hp ▸ hq)).1
  have hnd : p.Nodup := by rw [hp]; exact hch.nd
  obtain ⟨us, ur, ms, mr, sc, hsc, C1, C2, V1, S1, S2, G1, M1, R1, L1, O1, F1, ⟨os, or', io, co⟩, P1, P2⟩ := joins_facts (p := p) (a := [a, b, c, d]) (k := 4) (by omega) hprm hnd (by rw [hp]; exact hch.len) rfl (fun i hi => by
    have h4 : i = 0 ∨ i = 1 ∨ i = 2 ∨ i = 3 := by omega
    rcases h4 with rfl | rfl | rfl | rfl
    all_goals first
      | exact ha
      | exact hb
      | exact hc
      | exact hd
      | exact absurd hi (by omega))
  obtain ⟨ar, har⟩ : ∃ ar, ar = W .u64 [a, b, c, d] := ⟨_, rfl⟩
  obtain ⟨pr, hpr⟩ : ∃ pr, pr = W .u64 p := ⟨_, rfl⟩
  rw [← hpr] at cch
  have cch : ACall Try.prog 25 [.val (ti .u32 n), .val (ti .i64 4)] ⟨[.val (tl pr)], [none, none]⟩ := cch
  refine callZ ccOk mixed [.val] Try.func7 rfl rfl (by kernel_rfl) fun zwrap zadd zsub zmul zquo zrem zshl zshr zband zbor zbxor zbandn zeq zne zlt zle znot zbeq zbne zmax zmin znat zinb zofN zidx zneq znadd zdif zcut zroom zmkok zlen znth zsetr zisI zgetI zsetI zfit zpart zext zsetg zrep zwide zall zmok zmget zmset zW zth A L F hS hF => ?_
  have y11 : znot true = false := hS.not true
  have w1 : zwrap .i64 (zrem m 5) = 4 := by rw [hS.rem, hS.wrap, Int.tmod_eq_emod_of_nonneg hm0, hm]; rfl
  cbv
  refine ⟨_, hS.call (hsan), ?_⟩
  cbv
  refine bF (y11) ?_
  rw [w1]
  refine ⟨_, hS.call (cch), ?_⟩
  cbv
  have q0 : zneq (zlen [[Tree.v (.int .u64 a)], [Tree.v (.int .u64 b)], [Tree.v (.int .u64 c)], [Tree.v (.int .u64 d)]]) 0 = false := by rw [hS.len, hS.neq]; rfl
  have q1 : znot (zneq (zlen [[Tree.v (.int .u64 a)], [Tree.v (.int .u64 b)], [Tree.v (.int .u64 c)], [Tree.v (.int .u64 d)]]) 0) = true := by rw [q0, hS.not]; rfl
  have q2 : zwide 1 [[Tree.v (.int .u64 a)], [Tree.v (.int .u64 b)], [Tree.v (.int .u64 c)], [Tree.v (.int .u64 d)]] = true := by rw [hS.wide]; rfl
  have q3 : zroom 0 (zlen [[Tree.v (.int .u64 a)], [Tree.v (.int .u64 b)], [Tree.v (.int .u64 c)], [Tree.v (.int .u64 d)]]) 8 = true := by rw [hS.len, hS.room]; exact decide_eq_true (by unfold capBytes; simp)
  have q4 : zneq (znadd 0 0) (zlen []) = true := by rw [hS.nadd, hS.len, hS.neq]; rfl
  have q5 : zext [] 0 [[Tree.v (.int .u64 a)], [Tree.v (.int .u64 b)], [Tree.v (.int .u64 c)], [Tree.v (.int .u64 d)]] = ar := by rw [hS.ext, har]; rfl
  have q6 : znadd 0 (zlen [[Tree.v (.int .u64 a)], [Tree.v (.int .u64 b)], [Tree.v (.int .u64 c)], [Tree.v (.int .u64 d)]]) = 4 := by rw [hS.nadd, hS.len]; rfl
  have q7 : zfit 0 4 ar = true := by rw [hS.fit, har]; rfl
  have q8 : zpart ar 0 4 = ar := by rw [hS.part, har]; rfl
  rw [← har, ← hpr] at C1
  refine bF q0 (nd q1 (nd q2 (nd q3 (nd q4 ?_))))
  rw [q5, q6]
  refine nd (q7) ?_
  rw [q8]
  refine ⟨_, hS.call (C1), ?_⟩
  cbv
  refine ⟨_, hS.call (co), ?_⟩
  cbv
  have w2 : zwrap .i64 (zsub 4 1) = 3 := by rw [hS.sub, hS.wrap]; rfl
  rw [w2]
  refine loopZR ccOk mixed hS (fun (j : Nat) s' => ∃ (I : Int) (ps : Bool) (qr br tr : Abs.Rows) (len : Nat), I + 1 = j ∧ j ≤ 4 ∧ IsI (lprod (p.drop j)) ps qr ∧ br = W .u64 (([a, b, c, d] : List Int).drop j).reverse ∧ tr = W .u64 (p.drop j).reverse ∧ len = 4 - j ∧ s' = jn1St 9 none (some (.rows 1 ar true true)) 4 4 pr us ur ms mr ps qr br tr len I) (n := 4) (s0 := jn1St 9 none (some (.rows 1 ar true true)) 4 4 pr us ur ms mr os or' [] [] 0 3) (le_of ?_ ?_) rfl (by show 3 ≤ 19; omega) ?_ ?_
  · simp [leT, jn1St, mkSt, vi, vb, vl]
  · simp [leH, jn1St, mkSt]
  · refine ⟨3, os, or', [], [], 0, rfl, Nat.le_refl _, io, rfl, ?_, rfl, rfl⟩
    rw [List.drop_of_length_le (by rw [hp, hch.len]; exact Nat.le_refl _)]; rfl
  · rintro j s1 ⟨I, ps, qr, br, tr, len, hI, hj, ip, hbr, htr, hlen, hs1⟩
    by_cases hj0 : 0 < j
    · have l1 : zle 0 I = true := by rw [hS.le]; exact decide_eq_true (by omega)
      obtain ⟨q, ts, tr1, qs, qr', hq, hq0, hq1, c3, c4, iq⟩ := P1 j hj0 hj ps qr ip
      have hnat : znat I = j - 1 := by rw [hS.nat]; omega
      have hidx : zidx 0 I = j - 1 := by rw [hS.idx]; omega
      have g1 : zisI .u64 pr (znat I) = true := by rw [hnat, hS.isI, hpr, W_isI]; exact decide_eq_true (by rw [hp, hch.len]; omega)
      have g2 : zgetI pr (znat I) = q := by rw [hnat, hS.getI, hpr, W_getI, hq]
      obtain ⟨v, hv⟩ : ∃ v, v = ([a, b, c, d] : List Int).getD (j - 1) 0 := ⟨_, rfl⟩
      have g3 : zisI .u64 ar (zidx 0 I) = true := by rw [hidx, hS.isI, har, W_isI]; exact decide_eq_true (by simp; omega)
      have g4 : zgetI ar (zidx 0 I) = v := by rw [hidx, hS.getI, har, W_getI, hv]
      have g5 : zinb I 4 = true := by rw [hS.inb]; exact decide_eq_true (by omega)
      have w3 : zwrap .i64 q = q := by rw [hS.wrap, wrap_i64 (by omega) (by omega)]
      obtain ⟨I', hI', i1⟩ : ∃ I' : Int, I' + 1 = ((j - 1 : Nat) : Int) ∧ zwrap .i64 (zsub I 1) = I' := ⟨I - 1, by omega, by rw [hS.sub, hS.wrap, wrap_i64 (by omega) (by omega)]⟩
      have hl8 : len ≤ 8 := by omega
      have hlb : len = (([a, b, c, d] : List Int).drop j).reverse.length := by rw [List.length_reverse, List.length_drop]; simpa using hlen
      have hlt : len = (p.drop j).reverse.length := by rw [List.length_reverse, List.length_drop, hp, hch.len]; exact hlen
      have ba0 : zpart [[Tree.v (.int .u64 v)]] 0 1 = W .u64 [v] := by rw [hS.part]; rfl
      have ba1 : zfit 0 1 [[Tree.v (.int .u64 v)]] = true := by rw [hS.fit]; rfl
      have ba2 : znot (zneq (zlen (zpart [[Tree.v (.int .u64 v)]] 0 1)) 0) = true := by rw [ba0, hS.len, hS.neq, hS.not]; rfl
      have ba3 : zwide 1 (zpart [[Tree.v (.int .u64 v)]] 0 1) = true := by rw [ba0, hS.wide]; rfl
      have ba4 : zroom len (zlen (zpart [[Tree.v (.int .u64 v)]] 0 1)) 8 = true := by rw [ba0, hS.len, hS.room]; exact decide_eq_true (by unfold capBytes; simp only [W, List.map_cons, List.map_nil, List.length_cons, List.length_nil]; omega)
      have ba5 : zneq (znadd 0 len) (zlen br) = true := by rw [hS.nadd, hS.neq, hS.len, hbr, W_len, hlb, Nat.zero_add]; exact decide_eq_true rfl
      have ba6 : znadd len (zlen (zpart [[Tree.v (.int .u64 v)]] 0 1)) = len + 1 := by rw [ba0, hS.len, hS.nadd]; rfl
      have ba7 : zext br 0 (zpart [[Tree.v (.int .u64 v)]] 0 1) = W .u64 ((([a, b, c, d] : List Int).drop j).reverse ++ [v]) := by rw [ba0, hS.ext, hbr, List.drop_zero]; simp [W]
      have ta0 : zpart [[Tree.v (.int .u64 q)]] 0 1 = W .u64 [q] := by rw [hS.part]; rfl
      have ta1 : zfit 0 1 [[Tree.v (.int .u64 q)]] = true := by rw [hS.fit]; rfl
      have ta2 : znot (zneq (zlen (zpart [[Tree.v (.int .u64 q)]] 0 1)) 0) = true := by rw [ta0, hS.len, hS.neq, hS.not]; rfl
      have ta3 : zwide 1 (zpart [[Tree.v (.int .u64 q)]] 0 1) = true := by rw [ta0, hS.wide]; rfl
      have ta4 : zroom len (zlen (zpart [[Tree.v (.int .u64 q)]] 0 1)) 8 = true := by rw [ta0, hS.len, hS.room]; exact decide_eq_true (by unfold capBytes; simp only [W, List.map_cons, List.map_nil, List.length_cons, List.length_nil]; omega)
      have ta5 : zneq (znadd 0 len) (zlen tr) = true := by rw [hS.nadd, hS.neq, hS.len, htr, W_len, hlt, Nat.zero_add]; exact decide_eq_true rfl
      have ta6 : znadd len (zlen (zpart [[Tree.v (.int .u64 q)]] 0 1)) = len + 1 := by rw [ta0, hS.len, hS.nadd]; rfl
      have ta7 : zext tr 0 (zpart [[Tree.v (.int .u64 q)]] 0 1) = W .u64 ((p.drop j).reverse ++ [q]) := by rw [ta0, hS.ext, htr, List.drop_zero]; simp [W]
      have d1 := drop_rev (l := [a, b, c, d]) hj0 (by simpa using hj)
      have d2 := drop_rev (l := p) hj0 (by rw [hp, hch.len]; exact hj)
      rw [← hv] at d1
      rw [hq] at d2
      rw [← d1.1] at ba7
      rw [← d2.1] at ta7
      obtain ⟨br', hbr'⟩ : ∃ r, r = W .u64 (([a, b, c, d] : List Int).drop (j - 1)).reverse := ⟨_, rfl⟩
      obtain ⟨tr2, htr2⟩ : ∃ r, r = W .u64 (p.drop (j - 1)).reverse := ⟨_, rfl⟩
      rw [← hbr'] at ba7
      rw [← htr2] at ta7
      have hjj : j - 1 < j := by omega
      have hnx : ∃ (I : Int) (ps : Bool) (qr br tr : Abs.Rows) (len' : Nat), I + 1 = ((j - 1 : Nat) : Int) ∧ j - 1 ≤ 4 ∧ IsI (lprod (p.drop (j - 1))) ps qr ∧ br = W .u64 (([a, b, c, d] : List Int).drop (j - 1)).reverse ∧ tr = W .u64 (p.drop (j - 1)).reverse ∧ len' = 4 - (j - 1) ∧ jn1St 9 none (some (.rows 1 ar true true)) 4 4 pr us ur ms mr qs qr' br' tr2 (len + 1) I' = jn1St 9 none (some (.rows 1 ar true true)) 4 4 pr us ur ms mr ps qr br tr len' I :=
        ⟨I', qs, qr', br', tr2, len + 1, hI', by omega, iq, hbr', htr2, by omega, rfl⟩
      clear P1 P2 R1 V1 S1 S2 G1 M1 L1 O1 F1 C1 C2 hbr htr hlb hlt d1 d2 ba0 ta0 hnat hidx ip iq
      subst hs1
      cbv
      refine bT (l1) ?_
      refine nd (l1) ?_
      refine nd (g1) ?_
      rw [g2, w3]
      refine ⟨_, hS.call (c3), ?_⟩
      cbv
      refine ⟨_, hS.call (c4), ?_⟩
      cbv
      refine nd (g5) ?_
      refine nd (g3) ?_
      rw [g4]
      refine nd (ba1) ?_
      refine nd (ba2) ?_
      refine nd (ba3) ?_
      refine nd (ba4) ?_
      refine nd (ba5) ?_
      refine nd (l1) ?_
      refine nd (g1) ?_
      rw [g2]
      refine nd (ta1) ?_
      refine nd (ta2) ?_
      refine nd (ta3) ?_
      refine nd (ta4) ?_
      refine nd (ta5) ?_
      refine againR [(17, 24), (18, 26)] (s' := jn1St 9 none (some (.rows 1 ar true true)) 4 4 pr us ur ms mr qs qr' br' tr2 (len + 1) I') (k := j - 1) ?_ ?_ ?_ ?_ rfl (by show 3 ≤ 19; omega) hjj hnx
      · simp [leTR, jn1St, mkSt, vi, vb, vl, AV.ren, AV.noTup, Cell.ren, renF, i1, ba6, ta6]
      · simp [leHR, jn1St, mkSt, Abs.look, renF, Blk.ren, Cell.ren, ba7, ta7]
      · simp [liveR, jn1St, mkSt, renF]
      · simp
    · have l1 : zle 0 I = false := by rw [hS.le]; exact decide_eq_false (by omega)
      obtain rfl : j = 0 := by omega
      obtain ⟨rfl, rfl⟩ := P2 ps qr ip
      rw [List.drop_zero] at hbr htr
      have hl2 : len = 4 := by omega
      subst hl2
      obtain ⟨P, hP⟩ : ∃ P, P = W .u64 p.reverse := ⟨_, rfl⟩
      obtain ⟨Q, hQ⟩ : ∃ Q, Q = W .u64 ([a, b, c, d] : List Int).reverse := ⟨_, rfl⟩
      rw [← hP, ← hQ] at C2
      have f1 : zfit 0 4 br = true := by rw [hS.fit, hbr, W_len, List.length_reverse]; rfl
      have f2 : zfit 0 4 tr = true := by rw [hS.fit, htr, W_len, List.length_reverse]; exact decide_eq_true (by rw [hp, hch.len]; exact Nat.le_refl _)
      have f3 : zpart br 0 4 = Q := by rw [hS.part, hbr, W_part, List.drop_zero, List.take_of_length_le (by rw [List.length_reverse]; exact Nat.le_refl _), hQ]
      have f4 : zpart tr 0 4 = P := by rw [hS.part, htr, W_part, List.drop_zero, List.take_of_length_le (by rw [List.length_reverse, hp, hch.len]; exact Nat.le_refl _), hP]
      have v1 : zne 0 0 = false := by rw [hS.ne]; rfl
      have v2 : zlt sc 0 = false := by rw [hS.lt]; exact decide_eq_false (by omega)
      have v3 : zle 0 (-1) = false := by rw [hS.le]; rfl
      clear P1 P2 hbr htr hP hQ ip hI
      subst hs1
      cbv
      refine bF (l1) ?_
      refine nd (f1) ?_
      refine nd (f2) ?_
      rw [f3, f4]
      refine ⟨_, hS.call (C2), ?_⟩
      cbv
      refine bF (v1) ?_
      refine bF (v1) ?_
      refine ⟨_, hS.call (V1), ?_⟩
      cbv
      refine bF (y11) ?_
      refine ⟨_, hS.call (S1), ?_⟩
      cbv
      refine bF (y11) ?_
      refine ⟨_, hS.call (S2), ?_⟩
      cbv
      refine bF (y11) ?_
      refine ⟨_, hS.call (S1), ?_⟩
      cbv
      refine bF (y11) ?_
      refine ⟨_, hS.call (G1), ?_⟩
      cbv
      refine bF (v2) ?_
      refine ⟨_, hS.call (M1), ?_⟩
      cbv
      refine bF (v3) ?_
      refine loopZ ccOk mixed hS (fun (j : Nat) s' => ∃ (i : Nat) (I : Int), I = i ∧ i + j = 4 ∧ s' = jn2St 9 none (some (.rows 1 ar true true)) 4 4 pr us ur I) (n := 4) (s0 := jn2St 9 none (some (.rows 1 ar true true)) 4 4 pr us ur 0) (le_of ?_ ?_) rfl (by show 3 ≤ 13; omega) ?_ ?_
      · simp [leT, jn2St, mkSt, vi, vb, vl]
      · simp [leH, jn2St, mkSt]
      · exact ⟨0, 0, rfl, rfl, rfl⟩
      · rintro j s1 ⟨i, I, hI, hij, hs1⟩
        by_cases hi : i < 4
        · have l2 : zlt I 4 = true := by rw [hS.lt]; exact decide_eq_true (by omega)
          obtain ⟨q, e, v, hq, he, q2, q3, e0, hv, c5⟩ := R1 i hi
          have hnat : znat I = i := by rw [hS.nat]; omega
          have hidx : zidx 0 I = i := by rw [hS.idx]; omega
          have g0 : zle 0 I = true := by rw [hS.le]; exact decide_eq_true (by omega)
          have g1 : zisI .u64 pr (znat I) = true := by rw [hnat, hS.isI, hpr, W_isI]; exact decide_eq_true (by rw [hp, hch.len]; omega)
          have g2 : zgetI pr (znat I) = q := by rw [hnat, hS.getI, hpr, W_getI, hq]
          have g3 : zisI .u64 ar (zidx 0 I) = true := by rw [hidx, hS.isI, har, W_isI]; exact decide_eq_true (by simp; omega)
          have g4 : zgetI ar (zidx 0 I) = e := by rw [hidx, hS.getI, har, W_getI, he]
          have g5 : zinb I 4 = true := by rw [hS.inb]; exact decide_eq_true (by omega)
          have g6 : zne q 0 = true := by rw [hS.ne]; exact decide_eq_true (by omega)
          have g7 : zne v (zrem e q) = false := by rw [hS.ne, hS.rem, Int.tmod_eq_emod_of_nonneg e0, hv]; exact decide_eq_false (by simp)
          obtain ⟨I', hI', i1⟩ : ∃ I' : Int, I' = ((i + 1 : Nat) : Int) ∧ zwrap .i64 (zadd I 1) = I' := ⟨I + 1, by omega, by rw [hS.add, hS.wrap, wrap_i64 (by omega) (by omega)]⟩
          have hjj : j - 1 < j := by omega
          have hij' : i + 1 + (j - 1) = 4 := by omega
          clear R1 V1 S1 S2 G1 M1 L1 O1 F1 C1 C2 hnat hidx hI
          subst hs1
          cbv
          refine bT (l2) ?_
          refine nd (g0) ?_
          refine nd (g1) ?_
          rw [g2]
          refine ⟨_, hS.call (c5), ?_⟩
          cbv
          refine nd (g5) ?_
          refine nd (g3) ?_
          refine nd (g0) ?_
          refine nd (g1) ?_
          rw [g2, g4]
          refine nd (g6) ?_
          refine bF (g7) ?_
          exact again (s' := jn2St 9 none (some (.rows 1 ar true true)) 4 4 pr us ur I') (m := j - 1) (by simp [leT, jn2St, mkSt, vi, vb, vl, i1]) (by simp [leH, jn2St, mkSt]) rfl (by show 3 ≤ 13; omega) hjj ⟨i + 1, I', hI', hij', rfl⟩
        · have l2 : zlt I 4 = false := by rw [hS.lt]; exact decide_eq_false (by omega)
          obtain ⟨X, hX⟩ : ∃ X, X = W .u64 ([a, b, c, d] ++ [1]) := ⟨_, rfl⟩
          have hlen2 : 4 = ([a, b, c, d] : List Int).length := rfl
          have xa0 : zpart [[Tree.v (.int .u64 1)]] 0 1 = W .u64 [1] := by rw [hS.part]; rfl
          have xa1 : zfit 0 1 [[Tree.v (.int .u64 1)]] = true := by rw [hS.fit]; rfl
          have xa2 : znot (zneq (zlen (zpart [[Tree.v (.int .u64 1)]] 0 1)) 0) = true := by rw [xa0, hS.len, hS.neq, hS.not]; rfl
          have xa3 : zwide 1 (zpart [[Tree.v (.int .u64 1)]] 0 1) = true := by rw [xa0, hS.wide]; rfl
          have xa4 : zroom 4 (zlen (zpart [[Tree.v (.int .u64 1)]] 0 1)) 8 = true := by rw [xa0, hS.len, hS.room]; exact decide_eq_true (by unfold capBytes; simp only [W, List.map_cons, List.map_nil, List.length_cons, List.length_nil]; omega)
          have xa5 : zneq (znadd 0 4) (zlen ar) = true := by rw [hS.nadd, hS.neq, hS.len, har, W_len, hlen2, Nat.zero_add]; exact decide_eq_true rfl
          have xa6 : znadd 4 (zlen (zpart [[Tree.v (.int .u64 1)]] 0 1)) = 4 + 1 := by rw [xa0, hS.len, hS.nadd]; rfl
          have xa7 : zext ar 0 (zpart [[Tree.v (.int .u64 1)]] 0 1) = W .u64 (([a, b, c, d] : List Int) ++ [1]) := by rw [xa0, hS.ext, har, List.drop_zero]; simp [W]
          rw [← hX] at xa7
          rw [← hX, ← hpr] at L1
          have xa8 : zfit 0 5 X = true := by rw [hS.fit, hX]; rfl
          have xa9 : zpart X 0 5 = X := by rw [hS.part, hX]; rfl
          obtain ⟨L1', hL1'⟩ : ∃ L, L = ([[Tree.v (.int .u64 1)], [Tree.v (.int .u64 2)]] : Abs.Rows) := ⟨_, rfl⟩
          obtain ⟨L2', hL2'⟩ : ∃ L, L = ([[Tree.v (.int .u64 2)], [Tree.v (.int .u64 2)]] : Abs.Rows) := ⟨_, rfl⟩
          obtain ⟨A', hA'⟩ : ∃ L, L = W .u64 ([a, b, c, d] ++ [1, 2]) := ⟨_, rfl⟩
          obtain ⟨P', hP'⟩ : ∃ L, L = W .u64 (p ++ [2, 2]) := ⟨_, rfl⟩
          rw [← hA', ← hP'] at O1
          have F1' : ACall Try.prog 26 [.val (tl [[.v (.int .u64 1)]]), .val (tl [[.v (.int .u64 4)]])] ⟨[.val (.agg (iT false [])), .val (.agg (iT false [])), .val (ti .i64 1)], [none, none]⟩ := F1
          have lar : zlen ar = 4 := by rw [hS.len, har]; rfl
          have lpr : zlen pr = 4 := by rw [hS.len, hpr, W_len, hp, hch.len]
          have ll1 : zlen L1' = 2 := by rw [hS.len, hL1']; rfl
          have ll2 : zlen L2' = 2 := by rw [hS.len, hL2']; rfl
          have ln : zlen [] = 0 := by rw [hS.len]; rfl
          have m1 : zpart L1' 0 2 = L1' := by rw [hS.part, hL1']; rfl
          have m2 : zpart L2' 0 2 = L2' := by rw [hS.part, hL2']; rfl
          have m3 : zpart [[Tree.v (.int .u64 1)]] 0 1 = [[Tree.v (.int .u64 1)]] := by rw [hS.part]; rfl
          have m4 : zpart [[Tree.v (.int .u64 4)]] 0 1 = [[Tree.v (.int .u64 4)]] := by rw [hS.part]; rfl
          have t1 : zneq 4 0 = false := by rw [hS.neq]; rfl
          have t0 : zneq 2 0 = false := by rw [hS.neq]; rfl
          have t2 : znot false = true := hS.not false
          have t3 : zneq 0 0 = true := by rw [hS.neq]; rfl
          have t4 : znadd 0 0 = 0 := by rw [hS.nadd]
          have t5 : znadd 0 4 = 4 := by rw [hS.nadd]
          have t6 : znadd 4 2 = 4 + 2 := by rw [hS.nadd]
          have t7 : zneq 4 4 = true := by rw [hS.neq]; rfl
          have t8 : zroom 0 4 8 = true := by rw [hS.room]; exact decide_eq_true (by unfold capBytes; omega)
          have t8' : zroom 0 2 8 = true := by rw [hS.room]; exact decide_eq_true (by unfold capBytes; omega)
          have t9 : zroom 4 2 8 = true := by rw [hS.room]; exact decide_eq_true (by unfold capBytes; omega)
          have k1 : zwide 1 ar = true := by rw [hS.wide, har]; rfl
          have k2 : zwide 1 pr = true := by rw [hS.wide, hpr]; simp [W]
          have k3 : zwide 1 L1' = true := by rw [hS.wide, hL1']; rfl
          have k4 : zwide 1 L2' = true := by rw [hS.wide, hL2']; rfl
          have k5 : zfit 0 2 L1' = true := by rw [hS.fit, hL1']; rfl
          have k6 : zfit 0 2 L2' = true := by rw [hS.fit, hL2']; rfl
          have n1 : zext [] 0 ar = ar := by rw [hS.ext]; rfl
          have n2 : zext [] 0 pr = pr := by rw [hS.ext]; rfl
          have n3 : zext ar 0 L1' = A' := by rw [hS.ext, har, hL1', hA']; rfl
          have n4 : zext pr 0 L2' = P' := by rw [hS.ext, hpr, hL2', hP', List.drop_zero]; simp [W]
          have n5 : zfit 0 (4 + 2) A' = true := by rw [hS.fit, hA']; rfl
          have n6 : zfit 0 (4 + 2) P' = true := by rw [hS.fit, hP', W_len, List.length_append, hp, hch.len]; rfl
          have n7 : zpart A' 0 (4 + 2) = A' := by rw [hS.part, hA']; rfl
          have n8 : zpart P' 0 (4 + 2) = P' := by rw [hS.part, hP', W_part, List.drop_zero, List.take_of_length_le (by rw [List.length_append, hp, hch.len]; exact Nat.le_refl _)]
          have u1 : zfit 0 1 [[Tree.v (.int .u64 1)]] = true := by rw [hS.fit]; rfl
          have u2 : zfit 0 1 [[Tree.v (.int .u64 4)]] = true := by rw [hS.fit]; rfl
          have u3 : zeq 1 1 = true := by rw [hS.eq]; rfl
          clear R1 V1 S1 S2 G1 M1 C1 C2 hI xa0
          subst hs1
          cbv
          refine bF l2 ?_
          refine nd (xa1) ?_
          refine nd (xa2) ?_
          refine nd (xa3) ?_
          refine nd (xa4) ?_
          refine nd (xa5) ?_
          rw [xa6, xa7]
          refine nd (xa8) ?_
          rw [xa9]
          refine ⟨_, hS.call (L1), ?_⟩
          cbv
          rw [← hL1', ← hL2']
          refine bF (by simp only [q8, lar, t1]) ?_
          repeat refine nd (by simp only [q7, q8, lar, lpr, ll1, ll2, ln, m1, m2, t0, t1, t2, t3, t4, t5, t6, t7, t8, t8', t9, k1, k2, k3, k4, k5, k6, n1, n2, n3, n4, n5, n6, n7, n8]) ?_
          refine bF (by simp only [lpr, t1]) ?_
          repeat refine nd (by simp only [q7, q8, lar, lpr, ll1, ll2, ln, m1, m2, t0, t1, t2, t3, t4, t5, t6, t7, t8, t8', t9, k1, k2, k3, k4, k5, k6, n1, n2, n3, n4, n5, n6, n7, n8]) ?_
          rw [show zpart (zext (zext [] 0 (zpart ar 0 4)) 0 (zpart L1' 0 2)) 0 (znadd (znadd 0 (zlen (zpart ar 0 4))) (zlen (zpart L1' 0 2))) = A' from by simp only [q8, lar, ll1, m1, t5, t6, n1, n3, n7],
            show zpart (zext (zext [] 0 pr) 0 (zpart L2' 0 2)) 0 (znadd (znadd 0 (zlen pr)) (zlen (zpart L2' 0 2))) = P' from by simp only [lpr, ll2, m2, t5, t6, n2, n4, n8]]
          refine ⟨_, hS.call (O1), ?_⟩
          cbv
          refine nd (u1) ?_
          refine nd (u2) ?_
          rw [m3, m4]
          refine ⟨_, hS.call (F1'), ?_⟩
          cbv
          refine bT (u3) ?_
          refine bT (u3) ?_
          refine bT (u3) ?_
          exact hF _ (ResLe.refl _)

end Go.Proofs.Ytgncmjcoojmccaa
end

section
set_option linter.unusedVariables false
set_option linter.unusedSimpArgs false
set_option maxHeartbeats 8000000
set_option linter.unusedVariables false
set_option linter.unusedSimpArgs false
set_option maxRecDepth 100000
namespace Go.Proofs.Ytgncmjcoojmccaa
open Go Go.Abs Go.Abs.M Go.Proofs


theorem joins_call0 (hsan : ACall Try.prog 10 [] ⟨[.val (tb true)], []⟩) (a b c d n m : Int) (hm : m % 5 = 0) (hm0 : 0 ≤ m) (h1 : 0 ≤ n) (h2 : n < 4294967296) :
    ACall Try.prog 7 [.val (.agg [.v (.int .u64 a), .v (.int .u64 b), .v (.int .u64 c), .v (.int .u64 d)]), .val (ti .u32 n), .val (ti .u8 m)] ⟨[.val (tb true)], [none, none, none]⟩ := by
  have cch := chosen_call n 0 h1 h2 (by omega)
  have hch := chsL_ok (s := n % 2147000000) (by omega) (by omega) 0 (by omega)
  obtain ⟨p, hp⟩ : ∃ p, p = (chsL (n % 2147000000) 0).2 := ⟨_, rfl⟩
  rw [← hp] at cch
  have hp0 : p = [] := List.length_eq_zero_iff.1 (by rw [hp]; exact hch.len)
  subst hp0
  clear hp
  obtain ⟨us, ur, ms, mr, sc, hsc, C1, C2, V1, S1, S2, G1, M1, R1, L1, O1, F1, ⟨os, or', io, co⟩, P1, P2⟩ := joins_facts (p := []) (a := []) (k := 0) (by omega) (by simp) List.nodup_nil rfl rfl (fun i hi => by omega)
  obtain ⟨rfl, rfl⟩ := P2 os or' io
  have cch : ACall Try.prog 25 [.val (ti .u32 n), .val (ti .i64 0)] ⟨[.val (tl [])], [none, none]⟩ := cch
  refine callZ ccOk mixed [.val] Try.func7 rfl rfl (by kernel_rfl) fun zwrap zadd zsub zmul zquo zrem zshl zshr zband zbor zbxor zbandn zeq zne zlt zle znot zbeq zbne zmax zmin znat zinb zofN zidx zneq znadd zdif zcut zroom zmkok zlen znth zsetr zisI zgetI zsetI zfit zpart zext zsetg zrep zwide zall zmok zmget zmset zW zth A L F hS hF => ?_
  have y11 : znot true = false := hS.not true
  have w1 : zwrap .i64 (zrem m 5) = 0 := by rw [hS.rem, hS.wrap, Int.tmod_eq_emod_of_nonneg hm0, hm]; rfl
  have ln : zlen [] = 0 := by rw [hS.len]; rfl
  have t3 : zneq 0 0 = true := by rw [hS.neq]; rfl
  clear P1 P2 R1 hch
  cbv
  refine ⟨_, hS.call (hsan), ?_⟩
  cbv
  refine bF (y11) ?_
  rw [w1]
  refine ⟨_, hS.call (cch), ?_⟩
  cbv
  have z1 : zneq (zlen []) 0 = true := by rw [ln]; exact t3
  have z2 : zfit 0 0 [] = true := by rw [hS.fit]; rfl
  have z3 : zpart [] 0 0 = [] := by rw [hS.part]; rfl
  have C1' : ACall Try.prog 26 [.val (tl []), .val (tl [])] ⟨[.val (.agg (iT us ur)), .val (.agg (iT os or')), .val (ti .i64 0)], [none, none]⟩ := C1
  have w2 : zwrap .i64 (zsub 0 1) = -1 := by rw [hS.sub, hS.wrap]; rfl
  refine bT (z1) ?_
  refine nd (z2) ?_
  rw [z3]
  refine ⟨_, hS.call (C1'), ?_⟩
  cbv
  refine ⟨_, hS.call (co), ?_⟩
  cbv
  rw [w2]
  have F1' : ACall Try.prog 26 [.val (tl [[.v (.int .u64 1)]]), .val (tl [[.v (.int .u64 4)]])] ⟨[.val (.agg (iT false [])), .val (.agg (iT false [])), .val (ti .i64 1)], [none, none]⟩ := F1
  have L1' : ACall Try.prog 26 [.val (tl [[.v (.int .u64 1)]]), .val (tl [])] ⟨[.val (.agg (iT false [])), .val (.agg (iT false [])), .val (ti .i64 1)], [none, none]⟩ := L1
  have O1' : ACall Try.prog 26 [.val (tl [[.v (.int .u64 1)], [.v (.int .u64 2)]]), .val (tl [[.v (.int .u64 2)], [.v (.int .u64 2)]])] ⟨[.val (.agg (iT false [])), .val (.agg (iT false [])), .val (ti .i64 1)], [none, none]⟩ := O1
  have l1 : zle 0 (-1) = false := by rw [hS.le]; rfl
  have v1 : zne 0 0 = false := by rw [hS.ne]; rfl
  have v2 : zlt sc 0 = false := by rw [hS.lt]; exact decide_eq_false (by omega)
  have v4 : zlt 0 0 = false := by rw [hS.lt]; rfl
  refine loopZ ccOk mixed hS (fun (j : Nat) s' => s' = jn1St 8 (some (.rows 1 [] true true)) none 0 0 [] us ur os or' os or' [] [] 0 (-1)) (n := 0) (s0 := jn1St 8 (some (.rows 1 [] true true)) none 0 0 [] us ur os or' os or' [] [] 0 (-1)) (le_of ?_ ?_) rfl (by show 3 ≤ 19; omega) rfl ?_
  · simp [leT, jn1St, mkSt, vi, vb, vl]
  · simp [leH, jn1St, mkSt]
  · rintro j s1 hs1
    subst hs1
    cbv
    refine bF (l1) ?_
    refine nd (z2) ?_
    refine nd (z2) ?_
    rw [z3]
    refine ⟨_, hS.call (C1'), ?_⟩
    cbv
    refine bF (v1) ?_
    refine bF (v1) ?_
    refine ⟨_, hS.call (V1), ?_⟩
    cbv
    refine bF (y11) ?_
    refine ⟨_, hS.call (S1), ?_⟩
    cbv
    refine bF (y11) ?_
    refine ⟨_, hS.call (S2), ?_⟩
    cbv
    refine bF (y11) ?_
    refine ⟨_, hS.call (S1), ?_⟩
    cbv
    refine bF (y11) ?_
    refine ⟨_, hS.call (G1), ?_⟩
    cbv
    refine bF (v2) ?_
    refine ⟨_, hS.call (M1), ?_⟩
    cbv
    refine bF (l1) ?_
    refine loopZ ccOk mixed hS (fun (j : Nat) s' => s' = jn2St 8 (some (.rows 1 [] true true)) none 0 0 [] us ur 0) (n := 0) (s0 := jn2St 8 (some (.rows 1 [] true true)) none 0 0 [] us ur 0) (le_of ?_ ?_) rfl (by show 3 ≤ 13; omega) rfl ?_
    · simp [leT, jn2St, mkSt, vi, vb, vl]
    · simp [leH, jn2St, mkSt]
    · rintro j s1 hs1
      have xa0 : zpart [[Tree.v (.int .u64 1)]] 0 1 = [[Tree.v (.int .u64 1)]] := by rw [hS.part]; rfl
      have xa1 : zfit 0 1 [[Tree.v (.int .u64 1)]] = true := by rw [hS.fit]; rfl
      have xa2 : znot (zneq (zlen (zpart [[Tree.v (.int .u64 1)]] 0 1)) 0) = true := by rw [xa0, hS.len, hS.neq, hS.not]; rfl
      have xa3 : zwide 1 (zpart [[Tree.v (.int .u64 1)]] 0 1) = true := by rw [xa0, hS.wide]; rfl
      have xa4 : zroom 0 (zlen (zpart [[Tree.v (.int .u64 1)]] 0 1)) 8 = true := by rw [xa0, hS.len, hS.room]; exact decide_eq_true (by unfold capBytes; simp)
      have xa5 : zneq (znadd 0 0) (zlen []) = true := by rw [hS.nadd, ln]; exact t3
      have xa6 : znadd 0 (zlen (zpart [[Tree.v (.int .u64 1)]] 0 1)) = 1 := by rw [xa0, hS.len, hS.nadd]; rfl
      have xa7 : zext [] 0 (zpart [[Tree.v (.int .u64 1)]] 0 1) = [[Tree.v (.int .u64 1)]] := by rw [xa0, hS.ext]; rfl
      have u1 : zfit 0 1 [[Tree.v (.int .u64 1)]] = true := by rw [hS.fit]; rfl
      have u2 : zfit 0 1 [[Tree.v (.int .u64 4)]] = true := by rw [hS.fit]; rfl
      have u3 : zeq 1 1 = true := by rw [hS.eq]; rfl
      have m3 : zpart [[Tree.v (.int .u64 1)]] 0 1 = [[Tree.v (.int .u64 1)]] := by rw [hS.part]; rfl
      have m4 : zpart [[Tree.v (.int .u64 4)]] 0 1 = [[Tree.v (.int .u64 4)]] := by rw [hS.part]; rfl
      obtain ⟨g1, hg1⟩ : ∃ L, L = ([[Tree.v (.int .u64 1)], [Tree.v (.int .u64 2)]] : Abs.Rows) := ⟨_, rfl⟩
      obtain ⟨g2, hg2⟩ : ∃ L, L = ([[Tree.v (.int .u64 2)], [Tree.v (.int .u64 2)]] : Abs.Rows) := ⟨_, rfl⟩
      rw [show ([[.v (.int .u64 1)], [.v (.int .u64 2)]] : Abs.Rows) = g1 from hg1.symm, show ([[.v (.int .u64 2)], [.v (.int .u64 2)]] : Abs.Rows) = g2 from hg2.symm] at O1'
      have ll1 : zlen g1 = 2 := by rw [hS.len, hg1]; rfl
      have ll2 : zlen g2 = 2 := by rw [hS.len, hg2]; rfl
      have m1 : zpart g1 0 2 = g1 := by rw [hS.part, hg1]; rfl
      have m2 : zpart g2 0 2 = g2 := by rw [hS.part, hg2]; rfl
      have t0 : zneq 2 0 = false := by rw [hS.neq]; rfl
      have t2 : znot false = true := hS.not false
      have t4 : znadd 0 0 = 0 := by rw [hS.nadd]
      have t5 : znadd 0 2 = 2 := by rw [hS.nadd]
      have t8 : zroom 0 2 8 = true := by rw [hS.room]; exact decide_eq_true (by unfold capBytes; omega)
      have k3 : zwide 1 g1 = true := by rw [hS.wide, hg1]; rfl
      have k4 : zwide 1 g2 = true := by rw [hS.wide, hg2]; rfl
      have k5 : zfit 0 2 g1 = true := by rw [hS.fit, hg1]; rfl
      have k6 : zfit 0 2 g2 = true := by rw [hS.fit, hg2]; rfl
      have n3 : zext [] 0 g1 = g1 := by rw [hS.ext]; rfl
      have n4 : zext [] 0 g2 = g2 := by rw [hS.ext]; rfl
      clear xa0
      subst hs1
      cbv
      refine bF v4 ?_
      refine nd (xa1) ?_
      refine nd (xa2) ?_
      refine nd (xa3) ?_
      refine nd (xa4) ?_
      refine nd (xa5) ?_
      rw [xa6, xa7]
      refine nd (u1) ?_
      rw [m3]
      refine ⟨_, hS.call (L1'), ?_⟩
      cbv
      rw [← hg1, ← hg2]
      refine bT (by simp only [z3, ln, t3]) ?_
      repeat refine nd (by simp only [z2, z3, ln, ll1, ll2, m1, m2, t0, t2, t3, t4, t5, t8, k3, k4, k5, k6, n3, n4]) ?_
      refine bT (by simp only [ln, t3]) ?_
      repeat refine nd (by simp only [z2, z3, ln, ll1, ll2, m1, m2, t0, t2, t3, t4, t5, t8, k3, k4, k5, k6, n3, n4]) ?_
      rw [show zpart (zext [] 0 (zpart g1 0 2)) 0 (znadd 0 (zlen (zpart g1 0 2))) = g1 from by simp only [ll1, m1, t5, n3],
        show zpart (zext [] 0 (zpart g2 0 2)) 0 (znadd 0 (zlen (zpart g2 0 2))) = g2 from by simp only [ll2, m2, t5, n4]]
      refine ⟨_, hS.call (O1'), ?_⟩
      cbv
      refine nd (u1) ?_
      refine nd (u2) ?_
      rw [m3, m4]
      refine ⟨_, hS.call (F1'), ?_⟩
      cbv
      refine bT (u3) ?_
      refine bT (u3) ?_
      refine bT (u3) ?_
      exact hF _ (ResLe.refl _)

theorem joins_row (hsan : ACall Try.prog 10 [] ⟨[.val (tb true)], []⟩) (tss : List (List Tree)) (h : okAll [.arr 4 (.int .u64), .int .u32, .int .u8] tss) :
    ACall Try.prog 7 ((tvs [.arr 4 (.int .u64), .int .u32, .int .u8] tss).map .val) ⟨[.val (tb true)], [none, none, none]⟩ := by
  obtain ⟨_, _, rfl, ⟨_, _, rfl, ⟨a, rfl, ha⟩, _, _, rfl, ⟨b, rfl, hb⟩, _, _, rfl, ⟨c, rfl, hc⟩, _, _, rfl, ⟨d, rfl, hd⟩, rfl⟩, _, _, rfl, ⟨n, rfl, hn⟩, _, _, rfl, ⟨m, rfl, hm⟩, rfl⟩ := h
  have ha := bd_u64 ha
  have hb := bd_u64 hb
  have hc := bd_u64 hc
  have hd := bd_u64 hd
  have hn := bd_u32 hn
  have hm := bd_u8 hm
  have h5 : m % 5 = 0 ∨ m % 5 = 1 ∨ m % 5 = 2 ∨ m % 5 = 3 ∨ m % 5 = 4 := by omega
  rcases h5 with h | h | h | h | h
  · exact joins_call0 hsan a b c d n m h hm.1 hn.1 hn.2
  · exact joins_call1 hsan a b c d n m h hm.1 hn.1 hn.2 ha hb hc hd
  · exact joins_call2 hsan a b c d n m h hm.1 hn.1 hn.2 ha hb hc hd
  · exact joins_call3 hsan a b c d n m h hm.1 hn.1 hn.2 ha hb hc hd
  · exact joins_call4 hsan a b c d n m h hm.1 hn.1 hn.2 ha hb hc hd
end Go.Proofs.Ytgncmjcoojmccaa
end

section
set_option linter.unusedVariables false
set_option linter.unusedSimpArgs false
set_option maxHeartbeats 4000000
set_option maxRecDepth 100000
set_option linter.unusedVariables false
set_option linter.unusedSimpArgs false
namespace Go.Proofs.Ytgncmjcoojmccaa
open Go Go.Abs Go.Proofs
noncomputable def sm : FuncId → List Abs.Mode := omOf Try.prog []
theorem ex {f : Nat} {args : List Arg} {res : Res} (n : Nat) (h : execCall Try.prog CC sm n f args = some res) : ACall Try.prog f args res := execCall_sound ccOk mixed n f args res h
/-- An integer of one word. -/
def i1 (n : Int) : List Tree := [.v (.bool false), .lst false [[.v (.int .u32 n)]]]
def i0 : List Tree := [.v (.bool false), .lst true []]
theorem s1 : execCall Try.prog CC sm 1000 11 [.val (ti .u64 7)] = some ⟨[.val (ti .u64 11), .val (ti .i64 0)], [none]⟩ := by kernel_rfl
theorem s2 : execCall Try.prog CC sm 1000 16 [.val (ti .u64 3), .val (ti .u64 7)] = some ⟨[.val (ti .u64 5), .val (ti .i64 0)], [none, none]⟩ := by kernel_rfl
theorem o1 : execCall Try.prog CC sm 1000 27 [.val (ti .i64 1)] = some ⟨[.val (.agg (i1 1))], [none]⟩ := by kernel_rfl
theorem o2 : execCall Try.prog CC sm 1000 27 [.val (ti .i64 2)] = some ⟨[.val (.agg (i1 2))], [none]⟩ := by kernel_rfl
theorem o51 : execCall Try.prog CC sm 1000 27 [.val (ti .i64 51)] = some ⟨[.val (.agg (i1 51))], [none]⟩ := by kernel_rfl
theorem o101 : execCall Try.prog CC sm 1000 27 [.val (ti .i64 101)] = some ⟨[.val (.agg (i1 101))], [none]⟩ := by kernel_rfl
theorem o4 : execCall Try.prog CC sm 1000 27 [.val (ti .i64 4)] = some ⟨[.val (.agg (i1 4))], [none]⟩ := by kernel_rfl
theorem o7 : execCall Try.prog CC sm 1000 27 [.val (ti .i64 7)] = some ⟨[.val (.agg (i1 7))], [none]⟩ := by kernel_rfl
theorem o8 : execCall Try.prog CC sm 1000 27 [.val (ti .i64 8)] = some ⟨[.val (.agg (i1 8))], [none]⟩ := by kernel_rfl
theorem o15 : execCall Try.prog CC sm 1000 27 [.val (ti .i64 15)] = some ⟨[.val (.agg (i1 15))], [none]⟩ := by kernel_rfl
theorem r1 : execCall Try.prog CC sm 1000 18 [.val (.agg (i1 1 ++ i1 2)), .val (ti .u64 7)] = some ⟨[.val (ti .u64 4), .val (ti .i64 0)], [none, none]⟩ := by kernel_rfl
theorem c1 : execCall Try.prog CC sm 1000 26 [.val (.c (.lst false [[.v (.int .u64 2)], [.v (.int .u64 3)]])), .val (.c (.lst false [[.v (.int .u64 3)], [.v (.int .u64 5)]]))] = some ⟨[.val (.agg (i1 8)), .val (.agg (i1 15)), .val (ti .i64 0)], [none, none]⟩ := by kernel_rfl
theorem b1 : execCall Try.prog CC sm 1000 33 [.val (.agg (i1 51)), .val (.agg (i1 101))] = some ⟨[.val (.agg (i1 1 ++ i1 2)), .val (tb true)], [none, none]⟩ := by kernel_rfl
theorem b2 : execCall Try.prog CC sm 1000 33 [.val (.agg (i1 4)), .val (.agg (i1 7))] = some ⟨[.val (.agg (i0 ++ i0)), .val (tb false)], [none, none]⟩ := by kernel_rfl
theorem p2 : execCall Try.prog CC sm 1000 13 [.val (ti .u64 2)] = some ⟨[.val (tb true)], [none]⟩ := by kernel_rfl
theorem p9 : execCall Try.prog CC sm 1000 13 [.val (ti .u64 9)] = some ⟨[.val (tb false)], [none]⟩ := by kernel_rfl
theorem e8 : execCall Try.prog CC sm 1000 30 [.val (.agg (i1 8)), .val (.agg (i1 8))] = some ⟨[.val (tb true)], [none, none]⟩ := by kernel_rfl
theorem e15 : execCall Try.prog CC sm 1000 30 [.val (.agg (i1 15)), .val (.agg (i1 15))] = some ⟨[.val (tb true)], [none, none]⟩ := by kernel_rfl
theorem e1 : execCall Try.prog CC sm 1000 30 [.val (.agg (i1 1)), .val (.agg (i1 1))] = some ⟨[.val (tb true)], [none, none]⟩ := by kernel_rfl
theorem e2 : execCall Try.prog CC sm 1000 30 [.val (.agg (i1 2)), .val (.agg (i1 2))] = some ⟨[.val (tb true)], [none, none]⟩ := by kernel_rfl
theorem w1 : execCall Try.prog CC sm 1000 20 [.val (ti .u64 2), .val (ti .u64 10), .val (ti .u64 1000)] = some ⟨[.val (ti .u64 24)], [none, none, none]⟩ := by kernel_rfl
end Go.Proofs.Ytgncmjcoojmccaa
end

section
set_option linter.unusedVariables false
set_option linter.unusedSimpArgs false
set_option linter.unusedVariables false
set_option linter.unusedSimpArgs false
set_option maxHeartbeats 4000000
set_option maxRecDepth 100000
namespace Go.Proofs.Ytgncmjcoojmccaa
open Go Go.Abs Go.Proofs
theorem sanity_call : ACall Try.prog 10 [] ⟨[.val (tb true)], []⟩ := by
  refine callZ ccOk mixed [.val] Try.func10 rfl rfl (by kernel_rfl) fun zwrap zadd zsub zmul zquo zrem zshl zshr zband zbor zbxor zbandn zeq zne zlt zle znot zbeq zbne zmax zmin znat zinb zofN zidx zneq znadd zdif zcut zroom zmkok zlen znth zsetr zisI zgetI zsetI zfit zpart zext zsetg zrep zwide zall zmok zmget zmset zW zth A L F hS hF => ?_
  cbv
  refine ⟨_, hS.call (ex _ s1), ?_⟩
  cbv
  refine ⟨_, hS.call (ex _ s2), ?_⟩
  cbv
  refine ⟨_, hS.call (ex _ o1), ?_⟩
  cbv
  refine ⟨_, hS.call (ex _ o2), ?_⟩
  cbv
  refine ⟨_, hS.call (ex _ r1), ?_⟩
  cbv
  refine nd (hS.fit ..) (nd (hS.fit ..) ?_)
  rw [hS.part, hS.part]
  refine ⟨_, hS.call (ex _ c1), ?_⟩
  cbv
  refine ⟨_, hS.call (ex _ o51), ?_⟩
  cbv
  refine ⟨_, hS.call (ex _ o101), ?_⟩
  cbv
  refine ⟨_, hS.call (ex _ b1), ?_⟩
  cbv
  refine ⟨_, hS.call (ex _ o4), ?_⟩
  cbv
  refine ⟨_, hS.call (ex _ o7), ?_⟩
  cbv
  refine ⟨_, hS.call (ex _ b2), ?_⟩
  cbv
  have z0 : zeq 0 0 = true := by rw [hS.eq]; rfl
  refine bT z0 (bT z0 (bT z0 (bT z0 ?_)))
  refine ⟨_, hS.call (ex _ p2), ?_⟩
  cbv
  refine bT rfl ?_
  refine ⟨_, hS.call (ex _ p9), ?_⟩
  cbv
  refine bT (hS.not _) ?_
  refine bT (by rw [hS.eq]; rfl) (bT (by rw [hS.eq]; rfl) (bT (by rw [hS.eq]; rfl) ?_))
  refine ⟨_, hS.call (ex _ o8), ?_⟩
  cbv
  refine ⟨_, hS.call (ex _ e8), ?_⟩
  cbv
  refine bT rfl ?_
  refine ⟨_, hS.call (ex _ o15), ?_⟩
  cbv
  refine ⟨_, hS.call (ex _ e15), ?_⟩
  cbv
  refine bT rfl (bT rfl ?_)
  refine ⟨_, hS.call (ex _ o1), ?_⟩
  cbv
  refine ⟨_, hS.call (ex _ e1), ?_⟩
  cbv
  refine bT rfl ?_
  refine ⟨_, hS.call (ex _ o2), ?_⟩
  cbv
  refine ⟨_, hS.call (ex _ e2), ?_⟩
  cbv
  refine bT rfl (bT (hS.not _) ?_)
  refine ⟨_, hS.call (ex _ w1), ?_⟩
  cbv
  exact fin1 hF (tv_bool (by rw [hS.eq]; rfl))
end Go.Proofs.Ytgncmjcoojmccaa
end

