/-
  A part of the proof: GabsFrame, LawReduces03, RefO03, RefP03, MBits, RefR03, IntA03, IntB03, IntC03, IntD03, IntF03, MQw, IntE03, IntG03, IntH03, IntI03, IntJ03, IntK03, ProC03, MReb.
-/
import Derived.Test.YtgncmjcoojmccaaM9
import Derived.Calls
import Derived.Laws.Cells
import Derived.Below
import Derived.Laws.Small
import Derived.Laws.IdiomCopy
import Derived.Laws.BytesString
import Derived.Laws.Append
import Derived.Laws.Tables
import Derived.Great.BuildSlice
import Derived.IntWalk
import Derived.Orders
import Derived.Laws.BitsLemmas
import Derived.Test.YtgncmjcoojmccaaProg
import Derived.ChangeSame
import Derived.Carry
import Derived.ProofKit
import Derived.WideKeyArgs
import Derived.OpenShut
import Derived.WalkKit

section
set_option linter.unusedVariables false
set_option linter.unusedSimpArgs false
/-
  The abstract layer: a law's arguments, of whatever plain types, read as trees; and read again behind the call.
-/
set_option linter.unusedSimpArgs false
set_option linter.unusedVariables false
namespace Go.Abs
open Go.RowKit Go.WideShapes Go.ChangeShapes Go.ChangeAt

/-- What a type's data look like. -/
inductive Shape where
  | int (k : IntKind)
  | bool
  | slice (s : Shape)
  | struct (l : List Shape)
  | arr (n : Nat) (s : Shape)

mutual
def Shape.size : Shape → Nat
  | .int _ => 1
  | .bool => 1
  | .slice _ => 1
  | .struct l => sizeL l
  | .arr n s => n * s.size
def sizeL : List Shape → Nat
  | [] => 0
  | s :: l => s.size + sizeL l
end

mutual
/-- Does the type look so? -/
def Shape.fits (P : Program) (t : TypeId) : Shape → Bool
  | .int k => match P.underlying t with
    | some (.int k') => decide (k' = k)
    | _ => false
  | .bool => match P.underlying t with
    | some .bool => true
    | _ => false
  | .slice s => match P.underlying t with
    | some (.slice e) => P.cellsOf e == s.size && decide (0 < s.size) && s.fits P e
    | _ => false
  | .struct l => match P.underlying t with
    | some (.struct fs) => P.cellsOf t == sizeL l && fitsL P 0 fs.toList l
    | _ => false
  | .arr n s => match P.underlying t with
    | some (.array m e) => m == n && P.cellsOf t == n * s.size && P.cellsOf e == s.size && s.fits P e
    | _ => false
def fitsL (P : Program) (off : Nat) : List Field → List Shape → Bool
  | [], [] => true
  | f :: fs, s :: l => f.offset == off && P.cellsOf f.type == s.size && s.fits P f.type && fitsL P (off + s.size) fs l
  | _, _ => false
end

/-- A list that comes in n parts. -/
def okN (p : List Tree → Prop) : Nat → List Tree → Prop
  | 0, ts => ts = []
  | n + 1, ts => ∃ a b, ts = a ++ b ∧ p a ∧ okN p n b

mutual
/-- Trees of that look. -/
def Shape.ok : Shape → List Tree → Prop
  | .int k, ts => ∃ n, ts = [.v (.int k n)] ∧ (Lit.int k n).wf = true
  | .bool, ts => ∃ b, ts = [.v (.bool b)]
  | .slice s, ts => ∃ cp rows, ts = [.lst cp rows] ∧ rows.length < 2 ^ 63 ∧ ∀ r ∈ rows, s.ok r
  | .struct l, ts => okL l ts
  | .arr n s, ts => okN s.ok n ts
def okL : List Shape → List Tree → Prop
  | [], ts => ts = []
  | s :: l, ts => ∃ a b, ts = a ++ b ∧ s.ok a ∧ okL l b
end

theorem okN_len {p : List Tree → Prop} {m : Nat} (hp : ∀ ts, p ts → ts.length = m) : ∀ (n : Nat) (ts : List Tree), okN p n ts → ts.length = n * m
  | 0, ts, h => by rw [show ts = [] from h]; simp
  | n + 1, ts, ⟨a, b, h1, h2, h3⟩ => by rw [h1, List.length_append, hp a h2, okN_len hp n b h3, Nat.succ_mul]; omega

mutual
theorem Shape.ok_len : ∀ (s : Shape) (ts : List Tree), s.ok ts → ts.length = s.size
  | .int k, ts, h => by obtain ⟨n, rfl, _⟩ := h; rfl
  | .bool, ts, h => by obtain ⟨n, rfl⟩ := h; rfl
  | .slice s, ts, h => by obtain ⟨_, _, rfl, _⟩ := h; rfl
  | .struct l, ts, h => okL_len l ts h
  | .arr n s, ts, h => okN_len (fun ts h => s.ok_len ts h) n ts h
theorem okL_len : ∀ (l : List Shape) (ts : List Tree), okL l ts → ts.length = sizeL l
  | [], ts, h => by rw [show ts = [] from h]; rfl
  | s :: l, ts, h => by
    obtain ⟨a, b, h1, h2, h3⟩ := h
    rw [h1, List.length_append, s.ok_len a h2, okL_len l b h3]; rfl
end

section
variable {H : Type} {enc : TypeId × Value → H} {P : Program} {w : World} {sp : Nat → Bool} {hd : Bool}

/-- Cell by cell. -/
def TRepL (w : World) (ts : List Tree) (cs : List Value) : Prop := ts.length = cs.length ∧ ∀ (i : Nat) (t : Tree) (v : Value), ts[i]? = some t → cs[i]? = some v → TRep (old w) w t v

theorem TRepL.append {a b : List Tree} {c d : List Value} (h1 : TRepL w a c) (h2 : TRepL w b d) : TRepL w (a ++ b) (c ++ d) := by
  refine ⟨by rw [List.length_append, List.length_append, h1.1, h2.1], fun i t v ht hv => ?_⟩
  rcases Nat.lt_or_ge i a.length with h | h
  · rw [List.getElem?_append_left h] at ht
    rw [List.getElem?_append_left (by rw [← h1.1]; exact h)] at hv
    exact h1.2 i t v ht hv
  · rw [List.getElem?_append_right h] at ht
    rw [List.getElem?_append_right (by rw [← h1.1]; exact h), ← h1.1] at hv
    exact h2.2 _ t v ht hv

theorem TRepL.one {t : Tree} {v : Value} (h : TRep (old w) w t v) : TRepL w [t] [v] := by
  refine ⟨rfl, fun i t' v' ht hv => ?_⟩
  cases i with
  | zero => simp at ht hv; subst ht hv; exact h
  | succ i => simp at ht

def Read (enc : TypeId × Value → H) (P : Program) (w : World) (sp : Nat → Bool) (hd : Bool) (s : Shape) : Prop :=
  ∀ (t : TypeId), s.fits P t = true → ∀ (n : Nat) (cs : List Value) (x : DataW H × List MemPlace), DataW.trod enc P w 0 sp hd n t cs = some x → ∃ ts, s.ok ts ∧ TRepL w ts cs

theorem row_split {cs : List Value} (i m : Nat) : cs.drop i = (cs.drop i).take m ++ cs.drop (i + m) := by
  rw [← List.drop_drop, List.take_append_drop]

theorem fitsL_len : ∀ {l : List Shape} {fs : List Field} {off : Nat}, fitsL P off fs l = true → fs.length = l.length
  | [], [], _, _ => rfl
  | [], _ :: _, _, h => by simp [fitsL] at h
  | _ :: _, [], _, h => by simp [fitsL] at h
  | s :: l, f :: fs, off, h => by
    simp only [fitsL, Bool.and_eq_true] at h
    simp [fitsL_len h.2]

theorem readL : ∀ (l : List Shape), (∀ s ∈ l, Read enc P w sp hd s) → ∀ (fs : List Field) (off : Nat), fitsL P off fs l = true → ∀ (n : Nat) (cs : List Value), cs.length = off + sizeL l →
    (∀ f ∈ fs, ∃ x, DataW.trod enc P w 0 sp hd n f.type ((cs.drop f.offset).take (P.cellsOf f.type)) = some x) → ∃ ts, okL l ts ∧ TRepL w ts (cs.drop off)
  | [], hl, [], off, hf, n, cs, hn, hx => by
    refine ⟨[], rfl, ?_⟩
    rw [List.drop_of_length_le (by rw [hn]; simp [sizeL])]
    exact ⟨rfl, fun i t v h => by simp at h⟩
  | [], hl, f :: fs, off, hf, n, cs, hn, hx => by simp [fitsL] at hf
  | s :: l, hl, [], off, hf, n, cs, hn, hx => by simp [fitsL] at hf
  | s :: l, hl, f :: fs, off, hf, n, cs, hn, hx => by
    simp only [fitsL, Bool.and_eq_true, beq_iff_eq] at hf
    obtain ⟨⟨⟨h1, h2⟩, h3⟩, h4⟩ := hf
    obtain ⟨x, hx1⟩ := hx f (List.mem_cons_self ..)
    rw [h1, h2] at hx1
    obtain ⟨a, ha, hra⟩ := hl s (List.mem_cons_self ..) f.type h3 n _ x hx1
    obtain ⟨b, hb, hrb⟩ := readL l (fun s' hs' => hl s' (List.mem_cons_of_mem _ hs')) fs (off + s.size) h4 n cs (by rw [hn, sizeL]; omega) (fun f' hf' => hx f' (List.mem_cons_of_mem _ hf'))
    refine ⟨a ++ b, ⟨a, b, rfl, ha, hb⟩, ?_⟩
    rw [row_split off s.size]
    exact hra.append hrb

theorem readN {s : Shape} (hs : Read enc P w sp hd s) {e : TypeId} (he : s.fits P e = true) : ∀ (m i : Nat) (n : Nat) (cs : List Value), cs.length = (i + m) * s.size →
    (∀ j, j < m → ∃ x, DataW.trod enc P w 0 sp hd n e ((cs.drop ((i + j) * s.size)).take s.size) = some x) → ∃ ts, okN s.ok m ts ∧ TRepL w ts (cs.drop (i * s.size))
  | 0, i, n, cs, hn, hx => by
    refine ⟨[], rfl, ?_⟩
    rw [List.drop_of_length_le (by rw [hn]; simp)]
    exact ⟨rfl, fun i t v h => by simp at h⟩
  | m + 1, i, n, cs, hn, hx => by
    obtain ⟨x, hx1⟩ := hx 0 (by omega)
    rw [Nat.add_zero] at hx1
    obtain ⟨a, ha, hra⟩ := hs e he n _ x hx1
    obtain ⟨b, hb, hrb⟩ := readN hs he m (i + 1) n cs (by rw [hn]; congr 1; omega) (fun j hj => by
      have := hx (j + 1) (by omega)
      rwa [show i + (j + 1) = i + 1 + j by omega] at this)
    refine ⟨a ++ b, ⟨a, b, rfl, ha, hb⟩, ?_⟩
    rw [row_split (i * s.size) s.size]
    rw [Nat.succ_mul] at hrb
    exact hra.append hrb

theorem add_none (b o n : Nat) : (⟨b, o, none⟩ : Addr).add n = ⟨b, o + n, none⟩ := by
  unfold Addr.add
  split
  · rename_i h; subst h; rfl
  · rfl

theorem wf_one {k : IntKind} {n : Int} : one (.int k n) := by intro l; exact ⟨by simp, by simp⟩

theorem Shape.read : ∀ (s : Shape), Read enc P w sp hd s
  | .int k => fun t hf n cs x hx => by
    have hu : P.underlying t = some (.int k) := by
      unfold Shape.fits at hf
      split at hf
      · rename_i k' h; rw [h, of_decide_eq_true hf]
      · cases hf
    obtain ⟨m, rfl, _, hw⟩ := DataW.trod_int hu hx
    exact ⟨_, ⟨m, rfl, hw⟩, .one (.v _ wf_one)⟩
  | .bool => fun t hf n cs x hx => by
    have hu : P.underlying t = some .bool := by
      unfold Shape.fits at hf
      split at hf
      · rename_i h; exact h
      · cases hf
    obtain ⟨b, rfl, _⟩ := DataW.trod_bool hu hx
    exact ⟨_, ⟨b, rfl⟩, .one (.v _ (by intro l; exact ⟨by simp, by simp⟩))⟩
  | .struct l => fun t hf n cs x hx => by
    unfold Shape.fits at hf
    split at hf
    · rename_i fs hu
      simp only [Bool.and_eq_true, beq_iff_eq] at hf
      obtain ⟨xs, n', rfl, _, hl, hxl, hfs⟩ := DataW.trod_struct hu hx
      obtain ⟨ts, h1, h2⟩ := readL l (fun s hs => Shape.read s) fs.toList 0 hf.2 n' cs (by rw [hl, hf.1]; omega) (fun f hfm => by
        obtain ⟨i, hi, hfi⟩ := List.mem_iff_getElem.1 hfm
        have hi' : i < fs.size := by simpa using hi
        have hg : fs[i]? = some f := by rw [Array.getElem?_eq_getElem hi']; simpa using hfi
        have := hfs i f hg
        have hxi : i < xs.length := by rw [hxl]; exact hi'
        rw [List.getElem?_eq_getElem hxi] at this
        exact ⟨_, this⟩)
      exact ⟨ts, h1, by simpa using h2⟩
    · cases hf
  | .arr m s => fun t hf n cs x hx => by
    unfold Shape.fits at hf
    split at hf
    · rename_i m' e hu
      simp only [Bool.and_eq_true, beq_iff_eq] at hf
      obtain ⟨⟨⟨rfl, h1⟩, h2⟩, h3⟩ := hf
      cases n with
      | zero => simp [DataW.trod] at hx
      | succ n =>
        unfold DataW.trod at hx
        rw [hu] at hx
        simp only at hx
        split at hx
        · rename_i hl
          obtain ⟨xs, hxs, _⟩ := Option.map_eq_some_iff.1 hx
          obtain ⟨ts, h4, h5⟩ := readN (Shape.read s) h3 m' 0 n cs (by rw [hl, h1, Nat.zero_add]) (fun j hj => by
            have := mapM_some_get hxs j j (by simp [hj])
            have hlen := mapM_some_length hxs
            rw [List.length_range] at hlen
            rw [List.getElem?_eq_getElem (by omega)] at this
            rw [h2] at this
            rw [Nat.zero_add]
            exact ⟨_, this⟩)
          exact ⟨ts, h4, by simpa using h5⟩
        · cases hx
    · cases hf
  | .slice s => fun t hf n cs x hx => by
    unfold Shape.fits at hf
    split at hf
    · rename_i e hu
      simp only [Bool.and_eq_true, beq_iff_eq, decide_eq_true_eq] at hf
      obtain ⟨⟨h1, h2⟩, h3⟩ := hf
      rcases DataW.trod_slice hu hx with ⟨rfl, _⟩ | ⟨a, len, cap, elems, rest, n', rfl, rfl, _, _, hlc, hcap, hel, hread, _, _⟩
      · refine ⟨[.lst false []], ⟨false, [], rfl, by simp, by simp⟩, .one (.lst false [] none 0 0 0 0 (fun _ _ => default) (by simp) (by omega) (by simp) (by simp) (by simp) (by simp) (by simp) (fun i j t ht => by simp [at2] at ht) (fun i j t ht => by simp [at2] at ht))⟩
      · have hm : maxLen = 2 ^ 63 - 1 := rfl
        have hrow : ∀ i, i < len → ∃ ts css, s.ok ts ∧ TRepL w ts css ∧ w.cells? 0 (a.add (i * s.size)) s.size = some css := fun i hi => by
          have hr := hread i hi
          rw [List.getElem?_eq_getElem (by omega), h1] at hr
          obtain ⟨css, hc, hx2⟩ := Option.bind_eq_some_iff.1 hr
          obtain ⟨ts, h4, h5⟩ := Shape.read s e h3 _ _ _ hx2
          exact ⟨ts, css, h4, h5, hc⟩
        let f : Nat → List Tree := fun i => if h : i < len then (hrow i h).choose else []
        let g : Nat → List Value := fun i => if h : i < len then (hrow i h).choose_spec.choose else []
        have hfg : ∀ i, i < len → s.ok (f i) ∧ TRepL w (f i) (g i) ∧ w.cells? 0 (a.add (i * s.size)) s.size = some (g i) := fun i hi => by
          have hfi : f i = (hrow i hi).choose := dif_pos hi
          have hgi : g i = (hrow i hi).choose_spec.choose := dif_pos hi
          rw [hfi, hgi]
          exact (hrow i hi).choose_spec.choose_spec
        have hspot : 0 < len → a = ⟨a.block, a.off, none⟩ ∧ a.block < w.heap.size := fun h0 => by
          obtain ⟨hok, hrep, hc⟩ := hfg 0 h0
          obtain ⟨_, hl, hce⟩ := World.cells?_some hc
          have := hce 0 h2
          rw [List.getElem?_eq_getElem (by omega)] at this
          have ha : (a.add (0 * s.size)).add 0 = a := by simp [Addr.add]
          rw [ha] at this
          refine ⟨?_, ?_⟩
          · unfold World.cell? at this
            split at this
            · split at this
              · cases this
              · rename_i hs
                obtain ⟨b, o, sp'⟩ := a
                cases sp' with
                | none => rfl
                | some _ => simp at hs
            · cases this
          · have := World.cells?_block hc h2
            simpa [Addr.add] using this
        have hrows : ∀ i, (((List.range len).map f)[i]?) = if i < len then some (f i) else none := fun i => by
          rw [List.getElem?_map]
          by_cases h : i < len
          · rw [if_pos h, List.getElem?_range h]; rfl
          · rw [if_neg h, List.getElem?_eq_none (by simpa using h)]; rfl
        have hat : ∀ i j t, at2 ((List.range len).map f) i j = some t → i < len ∧ (f i)[j]? = some t := fun i j t ht => by
          unfold at2 at ht
          rw [hrows] at ht
          by_cases h : i < len
          · rw [if_pos h] at ht; exact ⟨h, ht⟩
          · rw [if_neg h] at ht; cases ht
        have hcell : ∀ i j t, at2 ((List.range len).map f) i j = some t → ∃ v, (g i)[j]? = some v ∧ w.cell? ⟨a.block, a.off + i * s.size + j, none⟩ = some v ∧ TRep (old w) w t v ∧ a.block < w.heap.size := fun i j t ht => by
          obtain ⟨hi, hj⟩ := hat i j t ht
          obtain ⟨hok, hrep, hc⟩ := hfg i hi
          obtain ⟨_, hl, hce⟩ := World.cells?_some hc
          have hjl : j < s.size := by
            have := (List.getElem?_eq_some_iff.1 hj).1
            rw [s.ok_len _ hok] at this; exact this
          have hv := hce j hjl
          obtain ⟨hs1, hs2⟩ := hspot (by omega)
          refine ⟨(g i)[j]'(by omega), List.getElem?_eq_getElem (by omega), ?_, hrep.2 j t _ hj (List.getElem?_eq_getElem (by omega)), hs2⟩
          rw [List.getElem?_eq_getElem (by omega)] at hv
          rw [← hv]
          rw [hs1, add_none, add_none]
        refine ⟨[.lst false ((List.range len).map f)], ⟨false, _, rfl, by rw [List.length_map, List.length_range]; omega, fun r hr => ?_⟩, ?_⟩
        · obtain ⟨i, hi, rfl⟩ := List.mem_map.1 hr
          exact (hfg i (List.mem_range.1 hi)).1
        · refine .one ?_
          have hl : ((List.range len).map f).length = len := by rw [List.length_map, List.length_range]
          have := TRep.lst (S := old w) (w := w) false ((List.range len).map f) (some a) a.block a.off s.size cap (fun i j => ((g i)[j]?).getD default) (by rw [hl]; exact hlc) (by omega) (by rw [hl]; omega) (by simp)
            (fun hne => by rw [(hspot (by rcases Nat.eq_zero_or_pos len with h | h; · subst h; simp at hne
                                          · exact h)).1]) (by simp)
            (fun r hr => by obtain ⟨i, hi, rfl⟩ := List.mem_map.1 hr; exact s.ok_len _ (hfg i (List.mem_range.1 hi)).1)
            (fun i j t ht => by obtain ⟨v, h4, h5, h6, h7⟩ := hcell i j t ht; exact ⟨h7, by rw [h5, h4]; rfl⟩)
            (fun i j t ht => by obtain ⟨v, h4, h5, h6, h7⟩ := hcell i j t ht; rw [h4]; exact h6)
          rw [hl] at this
          exact this
    · cases hf
termination_by s => SizeOf.sizeOf s

/-- An argument as an abstract one. -/
def Shape.tv (s : Shape) (ts : List Tree) : TV :=
  match s, ts with
  | .struct _, ts => .agg ts
  | .arr _ _, ts => .agg ts
  | _, [t] => .c t
  | _, ts => .agg ts

def isAggT (P : Program) (t : TypeId) : Bool := match P.underlying t with
  | some (.struct _) | some (.array _ _) => true
  | _ => false

theorem Shape.rep {s : Shape} {t : TypeId} (hf : s.fits P t = true) {v : Value} (hok : Value.okWide P w .any 0 t v) {ts : List Tree} (hs : s.ok ts) (h : TRepL w ts v.cells.toList) : VRep noβ (old w) w (s.tv ts).av v := by
  have agg : ∀ (cs : Array Value), v = .agg cs → VRep noβ (old w) w (TV.agg ts).av v := fun cs hv => by
    subst hv
    have : Array.mk cs.toList = cs := rfl
    rw [show TV.av (.agg ts) = AV.agg (ts.map .t) from rfl, ← this]
    refine .agg cs.toList (by rw [List.length_map]; exact h.1.symm) fun i c hc => ?_
    rw [List.getElem?_map] at hc
    obtain ⟨t', ht, rfl⟩ := Option.map_eq_some_iff.1 hc
    have hi := (List.getElem?_eq_some_iff.1 ht).1
    have hi2 : i < cs.toList.length := by have := h.1; simp only [Value.cells] at this; omega
    exact ⟨_, List.getElem?_eq_getElem hi2, .t (h.2 i t' _ ht (List.getElem?_eq_getElem hi2))⟩
  have scal : isAggT P t = false → ts.length = 1 → VRep noβ (old w) w (match ts with | [t] => TV.c t | ts => .agg ts).av v := fun hna hl => by
    match ts, hl, h with
    | [t'], _, h =>
      have hc : v.cells = #[v] := by
        cases v with
        | agg cs =>
          unfold Value.okWide at hok
          unfold isAggT at hna
          split at hok
          · rename_i h1; rw [h1] at hna; cases hna
          · rename_i h1; rw [h1] at hna; cases hna
          · unfold Cell.okWide at hok
            split at hok <;> first | (rename_i h1 h2; cases h2; done) | skip
            all_goals first | (unfold Cell.ok at hok; split at hok <;> first | (rename_i h1 h2; cases h2; done) | exact hok.elim) | skip
        | _ => rfl
      have := h.2 0 t' v rfl (by rw [hc]; rfl)
      exact .c (.t this)
  cases s with
  | int k =>
    have hu : P.underlying t = some (.int k) := by
      unfold Shape.fits at hf
      split at hf
      · rename_i k' h; rw [h, of_decide_eq_true hf]
      · cases hf
    obtain ⟨m, rfl, _⟩ := hs
    exact scal (by unfold isAggT; rw [hu]) rfl
  | bool =>
    have hu : P.underlying t = some .bool := by
      unfold Shape.fits at hf
      split at hf
      · rename_i h; exact h
      · cases hf
    obtain ⟨m, rfl⟩ := hs
    exact scal (by unfold isAggT; rw [hu]) rfl
  | slice s =>
    unfold Shape.fits at hf
    split at hf
    · rename_i e hu
      obtain ⟨_, _, rfl, _⟩ := hs
      exact scal (by unfold isAggT; rw [hu]) rfl
    · cases hf
  | struct l =>
    unfold Shape.fits at hf
    split at hf
    · rename_i fs hu
      unfold Value.okWide at hok
      rw [hu] at hok
      obtain ⟨cs, hv, _⟩ := hok
      exact agg cs hv
    · cases hf
  | arr n s =>
    unfold Shape.fits at hf
    split at hf
    · rename_i m e hu
      unfold Value.okWide at hok
      rw [hu] at hok
      obtain ⟨cs, hv, _⟩ := hok
      exact agg cs hv
    · cases hf

/-- The arguments, one after the other. -/
def okAll : List Shape → List (List Tree) → Prop
  | [], l => l = []
  | s :: ss, l => ∃ ts r, l = ts :: r ∧ s.ok ts ∧ okAll ss r

def tvs : List Shape → List (List Tree) → List TV
  | s :: ss, ts :: r => s.tv ts :: tvs ss r
  | _, _ => []

def fitsAll (P : Program) : List TypeId → List Shape → Bool
  | [], [] => true
  | t :: ts, s :: ss => s.fits P t && decide (t < P.types.size) && P.readableRec t && fitsAll P ts ss
  | _, _ => false

theorem args_read : ∀ {tys : List TypeId} {shs : List Shape} {vs : List Value} {ds : List (DataW H)} {ps : List MemPlace}, DataW.TrodAll enc P w 0 sp true tys vs ds ps → fitsAll P tys shs = true →
    (∀ (j : Nat) t v, tys[j]? = some t → vs[j]? = some v → Value.okWide P w .any 0 t v) →
    ∃ tss, okAll shs tss ∧ vs.length = (tvs shs tss).length ∧ ds.length = shs.length ∧ ∀ (i : Nat) (x : TV), (tvs shs tss)[i]? = some x → ∃ v, vs[i]? = some v ∧ VRep noβ (old w) w x.av v
  | [], [], [], [], ps, h, hf, hv => ⟨[], rfl, rfl, rfl, fun i x hx => by simp [tvs] at hx⟩
  | t :: ts, s :: ss, v :: vs, d :: ds, ps, h, hf, hv => by
    obtain ⟨p, q, ⟨n, h1⟩, h2, _⟩ := h
    simp only [fitsAll, Bool.and_eq_true] at hf
    obtain ⟨⟨⟨f1, f2⟩, f3⟩, f4⟩ := hf
    obtain ⟨tss, g1, g2, g3, g4⟩ := args_read h2 f4 (fun j t v ht hx => hv (j + 1) t v (by simpa using ht) (by simpa using hx))
    obtain ⟨tr, k1, k2⟩ := s.read t f1 n _ _ h1
    refine ⟨tr :: tss, ⟨tr, tss, rfl, k1, g1⟩, by simp [tvs, g2], by simp [g3], fun i x hx => ?_⟩
    cases i with
    | zero =>
      simp only [tvs, List.getElem?_cons_zero, Option.some.injEq] at hx
      subst hx
      exact ⟨v, rfl, Shape.rep f1 (hv 0 t v rfl rfl) k1 k2⟩
    | succ i => simp only [tvs, List.getElem?_cons_succ] at hx ⊢; exact g4 i x hx
  | [], _ :: _, _, _, _, _, hf, _ => by simp [fitsAll] at hf
  | _ :: _, [], _, _, _, _, hf, _ => by simp [fitsAll] at hf
  | [], [], _ :: _, _, _, h, _, _ => by simp [DataW.TrodAll] at h
  | [], [], [], _ :: _, _, h, _, _ => by simp [DataW.TrodAll] at h
  | _ :: _, _ :: _, [], _, _, h, _, _ => by simp [DataW.TrodAll] at h
  | _ :: _, _ :: _, _ :: _, [], _, h, _, _ => by simp [DataW.TrodAll] at h

theorem args_stay (hl : laidOutB P = true) {W W' : World} {sp' : Nat → Bool} (hb : Below W.heap.size W W') : ∀ {tys : List TypeId} {shs : List Shape} {vs : List Value} {ds : List (DataW H)} {ps : List MemPlace}, DataW.TrodAll enc P W 0 (fun _ => true) true tys vs ds ps → fitsAll P tys shs = true →
    (∀ p ∈ ps, p.block < W.heap.size) → (∀ p ∈ ps, sp' p.block = true) → DataW.TrodAll enc P W' 0 sp' true tys vs ds ps
  | [], [], [], [], ps, h, hf, h1, h2 => h
  | t :: ts, s :: ss, v :: vs, d :: ds, ps, h, hf, h1, h2 => by
    obtain ⟨p, q, k1, k2, rfl⟩ := h
    simp only [fitsAll, Bool.and_eq_true, decide_eq_true_eq] at hf
    obtain ⟨⟨⟨f1, f2⟩, f3⟩, f4⟩ := hf
    exact ⟨p, q, Go.WideElems.Trod_stays hl f3 f2 k1 (fun x hx => hb.same (h1 x (List.mem_append_left _ hx))) (fun x hx => h2 x (List.mem_append_left _ hx)),
      args_stay hl hb k2 f4 (fun x hx => h1 x (List.mem_append_right _ hx)) (fun x hx => h2 x (List.mem_append_right _ hx)), rfl⟩
  | [], _ :: _, _, _, _, _, hf, _, _ => by simp [fitsAll] at hf
  | _ :: _, [], _, _, _, _, hf, _, _ => by simp [fitsAll] at hf
  | [], [], _ :: _, _, _, h, _, _, _ => by simp [DataW.TrodAll] at h
  | [], [], [], _ :: _, _, h, _, _, _ => by simp [DataW.TrodAll] at h
  | _ :: _, _ :: _, [], _, _, h, _, _, _ => by simp [DataW.TrodAll] at h
  | _ :: _, _ :: _, _ :: _, [], _, h, _, _, _ => by simp [DataW.TrodAll] at h

/-- A law's contract, for whatever arguments of that look: the call, as the given statements ask for it. -/
theorem law_row {f : FuncId} {fn : Func} {spec : ChangeSpec} {shs : List Shape} {outs : List (Option Blk)} (hl : laidOutB P = true) (hf : fitsAll P fn.params.toList shs = true) (hvars : spec.vars = []) {tb0 : TypeId} (hres : fn.resultTypes = #[tb0]) (hb4 : P.underlying tb0 = some .bool)
    {apart fresh handsOn again : Bool} (hfn : ∀ ds : List (DataW H), ds.length = shs.length → (spec.fn H ds).args = ds ∧ (spec.fn H ds).results = [.lit (.bool true)] ∧ (spec.fn H ds).vars = [])
    (hc : ∀ tss, okAll shs tss → ACall P f ((tvs shs tss).map .val) ⟨[.val (tb true)], outs⟩)
    {W : World} {args : Array Value} {ds gs : List (DataW H)} {before : List MemPlace} (hval : ∀ (j : Nat) t v, fn.params[j]? = some t → args[j]? = some v → Value.okWide P W .any 0 t v)
    (hW : DataW.Whole enc P fn.params.toList spec.vars apart W args.toList ds gs before) :
    Calls P f args W fun e W' => ∃ v, e = .returned v ∧ spec.post enc P fn apart fresh handsOn again W args v W' := by
  have hW' := hW
  obtain ⟨p, q, hA, hV, rfl, hfz, hnd⟩ := hW
  rw [hvars] at hV
  have hgq : gs = [] ∧ q = [] := by
    cases gs with
    | nil => exact ⟨rfl, hV⟩
    | cons g gs => exact hV.elim
  obtain ⟨rfl, rfl⟩ := hgq
  obtain ⟨tss, hok, hlen, hdl, hrep⟩ := args_read hA hf (fun j t v ht hv => hval j t v (by simpa using ht) (by simpa using hv))
  have h := law_calls (hc tss hok) W args.toList hlen hrep
  have hargs : args.toList.toArray = args := rfl
  rw [hargs] at h
  obtain ⟨e1, e2, e3⟩ := hfn ds hdl
  have hbefore : ∀ x ∈ p, x.block < W.heap.size := fun x hx => hW'.lt x (List.mem_append_left _ hx)
  refine h.mono fun e W' ⟨he, hg⟩ => ?_
  subst he
  refine ⟨_, rfl, post_of_below (pa := p) (pv := []) hW' (fun b sp hd => ?_) (fun sp hs => ?_) (fun sp hs => ?_) rfl hg ?_⟩
  · rw [List.append_nil, e2, hres]
    exact trodAll_cons_mk (shut_bool hb4 _) trodAll_mk0
  · rw [List.append_nil, e1]
    exact args_stay hl hg hA hf hbefore (fun x hx => hs x (List.mem_append_left _ hx))
  · rw [List.append_nil, e3, hvars]; rfl
  · exact ok_one hres rfl (okWide_bool_mk hb4 _)

end
end Go.Abs
end

section
set_option linter.unusedVariables false
set_option linter.unusedSimpArgs false
set_option maxHeartbeats 8000000
set_option linter.unusedVariables false
set_option linter.unusedSimpArgs false
set_option maxRecDepth 100000
namespace Go.Proofs.Ytgncmjcoojmccaa
open Go Go.Abs Go.Abs.M Go.Proofs

theorem divInt_small {n d : Int} {k : Nat} (hd : d ≠ 0) (h1 : nl n.natAbs ≤ k) (h2 : nl d.natAbs ≤ k) : Qs (Rat.divInt n d) k := by
  constructor
  · rw [← lowest_num hd]
    have := nl_mono (Int.natAbs_ediv_le_natAbs n (if d < 0 then -(Int.gcd n d : Int) else (Int.gcd n d : Int)))
    omega
  · have e := lowest_den (n := n) hd
    have := nl_mono (Int.natAbs_ediv_le_natAbs d (if d < 0 then -(Int.gcd n d : Int) else (Int.gcd n d : Int)))
    rw [e, Int.natAbs_natCast] at this
    omega

theorem madeQ_small {n d k : Int} (n1 : -128 ≤ n) (n2 : n < 128) (d1 : -128 ≤ d) (d2 : d < 128) (k1 : 0 ≤ k) (k2 : k < 256) : Qs (madeQ n d k) 8 := by
  obtain ⟨h1, h2, h3⟩ := made_nd n1 n2 d1 d2 k1 k2
  exact divInt_small h3 h1 h2

theorem Qs.mono {x : Rat} {a b : Nat} (h : Qs x a) (hab : a ≤ b) : Qs x b := ⟨Nat.le_trans h.1 hab, Nat.le_trans h.2 hab⟩

theorem add_small {x y : Rat} {a b : Nat} (hx : Qs x a) (hy : Qs y b) : Qs (x + y) (a + b + 1) := by
  obtain ⟨x1, x2⟩ := hx
  obtain ⟨y1, y2⟩ := hy
  have hx0 := x.den_nz
  have hy0 := y.den_nz
  have h : x + y = Rat.divInt (x.num * y.den + y.num * x.den) (x.den * y.den) := by
    rw [← Rat.divInt_add_divInt _ _ (by omega) (by omega), Rat.num_divInt_den, Rat.num_divInt_den]
  rw [h]
  have n1 := nl_mul x.num.natAbs y.den
  have n2 := nl_mul y.num.natAbs x.den
  have n3 := nl_mul x.den y.den
  refine divInt_small (Int.mul_ne_zero (by omega) (by omega)) ?_ ?_
  · have h1 := nl_mono (Int.natAbs_add_le (x.num * y.den) (y.num * x.den))
    have h2 := nl_add (x.num * y.den).natAbs (y.num * x.den).natAbs
    rw [Int.natAbs_mul, Int.natAbs_mul, Int.natAbs_natCast, Int.natAbs_natCast] at h2
    rw [Int.natAbs_mul, Int.natAbs_mul, Int.natAbs_natCast, Int.natAbs_natCast] at h1
    omega
  · rw [Int.natAbs_mul, Int.natAbs_natCast, Int.natAbs_natCast]; omega

theorem mul_small {x y : Rat} {a b : Nat} (hx : Qs x a) (hy : Qs y b) : Qs (x * y) (a + b) := by
  obtain ⟨x1, x2⟩ := hx
  obtain ⟨y1, y2⟩ := hy
  have hx0 := x.den_nz
  have hy0 := y.den_nz
  have h : x * y = Rat.divInt (x.num * y.num) (x.den * y.den) := by
    rw [← Rat.divInt_mul_divInt, Rat.num_divInt_den, Rat.num_divInt_den]
  rw [h]
  have n1 := nl_mul x.num.natAbs y.num.natAbs
  have n3 := nl_mul x.den y.den
  refine divInt_small (Int.mul_ne_zero (by omega) (by omega)) ?_ ?_
  · rw [Int.natAbs_mul]; omega
  · rw [Int.natAbs_mul, Int.natAbs_natCast, Int.natAbs_natCast]; omega

theorem reduces_call (hsan : ACall Try.prog 10 [] ⟨[.val (tb true)], []⟩) (n a b c a' b' c' : Int) (h0 : 0 ≤ n) (h1 : n < 2 ^ 32)
    (a1 : -128 ≤ a) (a2 : a < 128) (b1 : -128 ≤ b) (b2 : b < 128) (c1 : 0 ≤ c) (c2 : c < 256) (a1' : -128 ≤ a') (a2' : a' < 128) (b1' : -128 ≤ b') (b2' : b' < 128) (c1' : 0 ≤ c') (c2' : c' < 256) :
    ACall Try.prog 6 [.val (ti .u32 n), .val (.agg [.v (.int .i8 a), .v (.int .i8 b), .v (.int .u8 c)]), .val (.agg [.v (.int .i8 a'), .v (.int .i8 b'), .v (.int .u8 c')])] ⟨[.val (tb true)], [none, none, none]⟩ := by
  obtain ⟨p, hp1, hp2, hp3⟩ := next_ex _ (n % 2147483647) (by omega) rfl
  have cn := next_call (n % 2147483647) p (by omega) hp1 hp2 hp3
  have p2 := hp2.1
  have p3 := hp2.2.1
  obtain ⟨xs, xr, xt, xq, hx, cx⟩ := rmade2_call a b c a1 a2 b1 b2 c1 c2
  obtain ⟨ys, yr, yt, yq, hy, cy⟩ := rmade2_call a' b' c' a1' a2' b1' b2' c1' c2'
  have sx := madeQ_small a1 a2 b1 b2 c1 c2
  have sy := madeQ_small a1' a2' b1' b2' c1' c2'
  generalize madeQ a b c = x at *
  generalize madeQ a' b' c' = y at *
  have sx' := sx.mono (show 8 ≤ 68719476736 by omega)
  have sy' := sy.mono (show 8 ≤ 68719476736 by omega)
  obtain ⟨zs, zr, zt, zq, hz, cz⟩ := qadd_call hx hy sx' sy'
  obtain ⟨ws, wr, wt, wq, hw, cw⟩ := qmul_call hx hy sx' sy'
  have sz := (add_small sx sy).mono (show 8 + 8 + 1 ≤ 68719476736 by omega)
  have sw := (mul_small sx sy).mono (show 8 + 8 ≤ 68719476736 by omega)
  have cxd := rresidue_call (p := p) hx.d (by rw [Int.natAbs_natCast]; have := sx.2; omega) (by omega) (by omega) rfl
  have cxn := rresidue_call (p := p) hx.n (by have := sx.1; omega) (by omega) (by omega) rfl
  by_cases hxd : (x.den : Int) % p = 0
  · have crx := preduce_call p 0 30 hx sx' p2 (by omega) (by rw [if_pos hxd]) (by rw [if_pos hxd])
    obtain ⟨v, f, cry⟩ : ∃ v f, ACall Try.prog 18 [.val (.agg (iT ys yr ++ iT yt yq)), .val (ti .u64 p)] ⟨[.val (ti .u64 v), .val (ti .i64 f)], [none, none]⟩ := ⟨_, _, preduce_call p _ _ hy sy' p2 (by omega) rfl rfl⟩
    rw [hxd] at cxd
    refine callZ ccOk mixed [.val] Try.func6 rfl rfl (by kernel_rfl) fun zwrap zadd zsub zmul zquo zrem zshl zshr zband zbor zbxor zbandn zeq zne zlt zle znot zbeq zbne zmax zmin znat zinb zofN zidx zneq znadd zdif zcut zroom zmkok zlen znth zsetr zisI zgetI zsetI zfit zpart zext zsetg zrep zwide zall zmok zmget zmset zW zth A L F hS hF => ?_
    have hn : zwrap .u64 (zrem n 2147483647) = n % 2147483647 := by rw [hS.wrap, hS.rem, Int.tmod_eq_emod_of_nonneg h0]; exact wrap_u64 (by omega) (by omega)
    generalize n % 2147483647 = k at *
    cbv
    refine ⟨_, hS.call (hsan), ?_⟩
    cbv
    refine bF (hS.not _) ?_
    rw [hn]
    refine ⟨_, hS.call (cn), ?_⟩
    cbv
    refine ⟨_, hS.call (cx), ?_⟩
    cbv
    refine ⟨_, hS.call (cy), ?_⟩
    cbv
    refine ⟨_, hS.call (crx), ?_⟩
    cbv
    refine ⟨_, hS.call (cry), ?_⟩
    cbv
    refine ⟨_, hS.call (cxd), ?_⟩
    cbv
    have e1 : zbne (zeq 30 30) (zeq 0 0) = false := by rw [hS.bne, hS.eq, hS.eq]; rfl
    have e2 : zne 30 0 = true := by rw [hS.ne]; rfl
    have e3 : zne 30 30 = false := by rw [hS.ne]; rfl
    have e4 : zne 0 0 = false := by rw [hS.ne]; rfl
    exact bF e1 (bT e2 (bF e3 (bF e4 (bT e2 (hF _ (ResLe.refl _))))))
  · have crx := preduce_call p (redQ p x) 0 hx sx' p2 (by omega) (by rw [if_neg hxd]) (by rw [if_neg hxd])
    have rx := redQ_range (show 0 < p by omega) x
    by_cases hyd : (y.den : Int) % p = 0
    · have cry := preduce_call p 0 30 hy sy' p2 (by omega) (by rw [if_pos hyd]) (by rw [if_pos hyd])
      generalize (x.den : Int) % p = xd at *
      refine callZ ccOk mixed [.val] Try.func6 rfl rfl (by kernel_rfl) fun zwrap zadd zsub zmul zquo zrem zshl zshr zband zbor zbxor zbandn zeq zne zlt zle znot zbeq zbne zmax zmin znat zinb zofN zidx zneq znadd zdif zcut zroom zmkok zlen znth zsetr zisI zgetI zsetI zfit zpart zext zsetg zrep zwide zall zmok zmget zmset zW zth A L F hS hF => ?_
      have hn : zwrap .u64 (zrem n 2147483647) = n % 2147483647 := by rw [hS.wrap, hS.rem, Int.tmod_eq_emod_of_nonneg h0]; exact wrap_u64 (by omega) (by omega)
      generalize n % 2147483647 = k at *
      generalize redQ p x = u at *
      cbv
      refine ⟨_, hS.call (hsan), ?_⟩
      cbv
      refine bF (hS.not _) ?_
      rw [hn]
      refine ⟨_, hS.call (cn), ?_⟩
      cbv
      refine ⟨_, hS.call (cx), ?_⟩
      cbv
      refine ⟨_, hS.call (cy), ?_⟩
      cbv
      refine ⟨_, hS.call (crx), ?_⟩
      cbv
      refine ⟨_, hS.call (cry), ?_⟩
      cbv
      refine ⟨_, hS.call (cxd), ?_⟩
      cbv
      have e1 : zbne (zeq 0 30) (zeq xd 0) = false := by rw [hS.bne, hS.eq, hS.eq, decide_eq_false hxd]; rfl
      have e2 : zne 0 0 = false := by rw [hS.ne]; rfl
      have e3 : zne 30 0 = true := by rw [hS.ne]; rfl
      exact bF e1 (bF e2 (bF e2 (bT e3 (hF _ (ResLe.refl _)))))
    · have cry := preduce_call p (redQ p y) 0 hy sy' p2 (by omega) (by rw [if_neg hyd]) (by rw [if_neg hyd])
      have ry := redQ_range (show 0 < p by omega) y
      have hzd := den_add_ok hp2 hxd hyd
      have hwd := den_mul_ok hp2 hxd hyd
      have crz := preduce_call p (redQ p (x + y)) 0 hz sz p2 (by omega) (by rw [if_neg hzd]) (by rw [if_neg hzd])
      have crw := preduce_call p (redQ p (x * y)) 0 hw sw p2 (by omega) (by rw [if_neg hwd]) (by rw [if_neg hwd])
      have E1 := redQ_add hp2 hxd hyd
      have E2 := redQ_prod hp2 hxd hyd
      have E3 := redQ_back hp2 hxd
      have bd := And.intro (Int.emod_nonneg (x.den : Int) (show p ≠ 0 by omega)) (Int.emod_lt_of_pos (x.den : Int) (show 0 < p by omega))
      have m1 := mul_lt rx.1 rx.2 ry.1 ry.2 (by omega)
      have m2 := mul_lt bd.1 bd.2 rx.1 rx.2 (by omega)
      generalize (x.den : Int) % p = xd at *
      generalize x.num % p = xn at *
      refine callZ ccOk mixed [.val] Try.func6 rfl rfl (by kernel_rfl) fun zwrap zadd zsub zmul zquo zrem zshl zshr zband zbor zbxor zbandn zeq zne zlt zle znot zbeq zbne zmax zmin znat zinb zofN zidx zneq znadd zdif zcut zroom zmkok zlen znth zsetr zisI zgetI zsetI zfit zpart zext zsetg zrep zwide zall zmok zmget zmset zW zth A L F hS hF => ?_
      have hn : zwrap .u64 (zrem n 2147483647) = n % 2147483647 := by rw [hS.wrap, hS.rem, Int.tmod_eq_emod_of_nonneg h0]; exact wrap_u64 (by omega) (by omega)
      generalize n % 2147483647 = k at *
      generalize redQ p x = u at *
      generalize redQ p y = v at *
      generalize redQ p (x + y) = su at *
      generalize redQ p (x * y) = tu at *
      cbv
      refine ⟨_, hS.call (hsan), ?_⟩
      cbv
      refine bF (hS.not _) ?_
      rw [hn]
      refine ⟨_, hS.call (cn), ?_⟩
      cbv
      refine ⟨_, hS.call (cx), ?_⟩
      cbv
      refine ⟨_, hS.call (cy), ?_⟩
      cbv
      refine ⟨_, hS.call (crx), ?_⟩
      cbv
      refine ⟨_, hS.call (cry), ?_⟩
      cbv
      refine ⟨_, hS.call (cxd), ?_⟩
      cbv
      have e1 : zbne (zeq 0 30) (zeq xd 0) = false := by rw [hS.bne, hS.eq, hS.eq, decide_eq_false hxd]; rfl
      have e2 : zne 0 0 = false := by rw [hS.ne]; rfl
      have e3 : zeq 0 0 = true := by rw [hS.eq]; rfl
      have e4 : zlt u p = true := by rw [hS.lt]; exact decide_eq_true rx.2
      have hz0 : zne p 0 = true := by rw [hS.ne]; exact decide_eq_true (by omega)
      have e5 : zeq su (zrem (zwrap .u64 (zadd u v)) p) = true := by
        rw [hS.eq, hS.rem, hS.wrap, hS.add, wrap_u64 (by omega) (by omega), Int.tmod_eq_emod_of_nonneg (by omega)]; exact decide_eq_true E1
      have e6 : zeq tu (zrem (zwrap .u64 (zmul u v)) p) = true := by
        rw [hS.eq, hS.rem, hS.wrap, hS.mul, wrap_u64 m1.1 m1.2, Int.tmod_eq_emod_of_nonneg m1.1]; exact decide_eq_true E2
      have e7 : zeq (zrem (zwrap .u64 (zmul xd u)) p) xn = true := by
        rw [hS.eq, hS.rem, hS.wrap, hS.mul, wrap_u64 m2.1 m2.2, Int.tmod_eq_emod_of_nonneg m2.1]; exact decide_eq_true E3
      refine bF e1 (bF e2 (bF e2 (bF e2 ?_)))
      refine ⟨_, hS.call (cz), ?_⟩
      cbv
      refine ⟨_, hS.call (crz), ?_⟩
      cbv
      refine ⟨_, hS.call (cw), ?_⟩
      cbv
      refine ⟨_, hS.call (crw), ?_⟩
      cbv
      refine ⟨_, hS.call (cxd), ?_⟩
      cbv
      refine nd hz0 (bT e4 (bT e3 (bT e3 (nd hz0 (bT e5 (nd hz0 (bT e6 ?_)))))))
      refine ⟨_, hS.call (cxn), ?_⟩
      cbv
      exact bT e7 (hF _ (ResLe.refl _))
/-- The three shapes. -/
def rawS : Shape := .struct [.int .i8, .int .i8, .int .u8]

theorem rawS_ok {ts : List Tree} (h : rawS.ok ts) : ∃ a b c : Int, ts = [.v (.int .i8 a), .v (.int .i8 b), .v (.int .u8 c)] ∧ (-128 ≤ a ∧ a < 128) ∧ (-128 ≤ b ∧ b < 128) ∧ (0 ≤ c ∧ c < 256) := by
  obtain ⟨_, _, rfl, ⟨a, rfl, ha⟩, _, _, rfl, ⟨b, rfl, hb⟩, _, _, rfl, ⟨c, rfl, hc⟩, rfl⟩ := h
  exact ⟨a, b, c, rfl, bd_i8 ha, bd_i8 hb, bd_u8 hc⟩

theorem reduces_row (hsan : ACall Try.prog 10 [] ⟨[.val (tb true)], []⟩) (tss : List (List Tree)) (h : okAll [.int .u32, rawS, rawS] tss) :
    ACall Try.prog 6 ((tvs [.int .u32, rawS, rawS] tss).map .val) ⟨[.val (tb true)], [none, none, none]⟩ := by
  obtain ⟨_, _, rfl, ⟨n, rfl, hn⟩, _, _, rfl, hx, _, _, rfl, hy, rfl⟩ := h
  obtain ⟨a, b, c, rfl, ha, hb, hc⟩ := rawS_ok hx
  obtain ⟨a', b', c', rfl, ha', hb', hc'⟩ := rawS_ok hy
  have hn := bd_u32 hn
  exact reduces_call hsan n a b c a' b' c' hn.1 hn.2 ha.1 ha.2 hb.1 hb.2 hc.1 hc.2 ha'.1 ha'.2 hb'.1 hb'.2 hc'.1 hc'.2
end Go.Proofs.Ytgncmjcoojmccaa
end

section
set_option linter.unusedVariables false
set_option linter.unusedSimpArgs false
set_option maxHeartbeats 8000000
set_option linter.unusedVariables false
set_option linter.unusedSimpArgs false
set_option maxRecDepth 100000
namespace Go.Proofs.Ytgncmjcoojmccaa
open Go Go.Abs Go.Abs.M Go.Proofs

def rsameSt (s t : Bool) (r q : Abs.Rows) (i : Int) : St := mkSt 38 [.junk, .junk, .c (.ptr 2 0 0), .c (.ptr 3 0 0), .junk, vi .i64 i] [none, none, some (.var [.t (.v (.bool s)), .t (.lst false r)]), some (.var [.t (.v (.bool t)), .t (.lst false q)])]
theorem rsame_call {x y : Int} {s t : Bool} {r q : Abs.Rows} (hx : IsI x s r) (hy : IsI y t q) (hx1 : nl x.natAbs ≤ 2199023255552) : ACall Try.prog 30 [.val (.agg (iT s r)), .val (.agg (iT t q))] ⟨[.val (tb (decide (x = y)))], [none, none]⟩ := by
  have hl : r.length = nl x.natAbs := hx.m.len
  have hm : q.length = nl y.natAbs := hy.m.len
  have hne : s ≠ t → x ≠ y := fun h e => h (by rw [hx.s, hy.s, e])
  have hle : nl x.natAbs ≠ nl y.natAbs → x ≠ y := fun h e => h (by rw [e])
  have hwe : ∀ i, (dg x.natAbs).getD i 0 ≠ (dg y.natAbs).getD i 0 → x ≠ y := fun i h e => h (by rw [e])
  have heq : s = t → nl x.natAbs = nl y.natAbs → (dg x.natAbs).take (nl x.natAbs) = (dg y.natAbs).take (nl x.natAbs) → x = y := fun h1 h2 h3 => by
    have e1 : (dg x.natAbs).take (nl x.natAbs) = dg x.natAbs := List.take_of_length_le (Nat.le_refl _)
    have e2 : (dg y.natAbs).take (nl x.natAbs) = dg y.natAbs := List.take_of_length_le (by rw [h2]; exact Nat.le_refl _)
    rw [e1, e2] at h3
    have h4 := congrArg val h3
    rw [dg_val, dg_val] at h4
    have h5 := hx.s
    rw [h1, hy.s] at h5
    have h6 : (y < 0) ↔ (x < 0) := by
      constructor
      · intro h; rw [decide_eq_true h] at h5; exact of_decide_eq_true h5.symm
      · intro h; rw [decide_eq_true h] at h5; exact of_decide_eq_true h5
    omega
  have gx : ∀ i : Nat, ZI.std.getI r i = (dg x.natAbs).getD i 0 := fun i => by rw [hx.m, W_getI]
  have gy : ∀ i : Nat, ZI.std.getI q i = (dg y.natAbs).getD i 0 := fun i => by rw [hy.m, W_getI]
  have ix : ∀ i : Nat, i < nl x.natAbs → ZI.std.isI .u32 r i = true := fun i h => by rw [hx.m, W_isI]; exact decide_eq_true h
  have iy : ∀ i : Nat, i < nl y.natAbs → ZI.std.isI .u32 q i = true := fun i h => by rw [hy.m, W_isI]; exact decide_eq_true h
  have hstep : ∀ i : Nat, i < nl x.natAbs → nl x.natAbs = nl y.natAbs → (dg x.natAbs).take i = (dg y.natAbs).take i → (dg x.natAbs).getD i 0 = (dg y.natAbs).getD i 0 → (dg x.natAbs).take (i + 1) = (dg y.natAbs).take (i + 1) := fun i h h' h2 h3 => by
    have a1 : i < (dg x.natAbs).length := h
    have a2 : i < (dg y.natAbs).length := by have : i < nl y.natAbs := by omega
                                             exact this
    rw [List.take_succ_eq_append_getElem a1, List.take_succ_eq_append_getElem a2, h2]
    rw [List.getD_eq_getElem?_getD, List.getD_eq_getElem?_getD, List.getElem?_eq_getElem a1, List.getElem?_eq_getElem a2, Option.getD_some, Option.getD_some] at h3
    rw [h3]
  refine callZ ccOk mixed [.val] Try.func30 rfl rfl (by kernel_rfl) fun zwrap zadd zsub zmul zquo zrem zshl zshr zband zbor zbxor zbandn zeq zne zlt zle znot zbeq zbne zmax zmin znat zinb zofN zidx zneq znadd zdif zcut zroom zmkok zlen znth zsetr zisI zgetI zsetI zfit zpart zext zsetg zrep zwide zall zmok zmget zmset zW zth A L F hS hF => ?_
  have f0 : x ≠ y → F ⟨[.val (.c (.v (.bool false)))], [none, none]⟩ := fun h => fin1 hF (by rw [decide_eq_false h]; rfl)
  have f1 : x = y → F ⟨[.val (.c (.v (.bool true)))], [none, none]⟩ := fun h => fin1 hF (by rw [decide_eq_true h]; rfl)
  have e0 : zne (zofN (zlen r)) (zofN (zlen q)) = decide (nl x.natAbs ≠ nl y.natAbs) := by
    rw [hS.ne, hS.len, hS.len, hS.ofN, hS.ofN, hl, hm]
    by_cases h : nl x.natAbs = nl y.natAbs
    · rw [decide_eq_false (show ¬ nl x.natAbs ≠ nl y.natAbs by omega)]; exact decide_eq_false (by omega)
    · rw [decide_eq_true h]; exact decide_eq_true (by omega)
  have hlx : zlen r = nl x.natAbs := by rw [hS.len, hl]
  generalize hLx : nl x.natAbs = Lx at *
  cbv
  refine ⟨fun h => f0 ?_, fun h => ⟨fun h' => f0 ?_, fun h' => ?_⟩⟩
  all_goals rw [hS.bne] at h
  · exact hne (by intro e; subst e; simp at h)
  all_goals rw [e0] at h'
  · exact hle (of_decide_eq_true h')
  · have hst : s = t := by cases s <;> cases t <;> first | rfl | (simp at h)
    have hll : Lx = nl y.natAbs := by have := of_decide_eq_false h'; omega
    refine loopZ ccOk mixed hS (fun (k : Nat) s' => ∃ i : Nat, i + k = Lx ∧ (dg x.natAbs).take i = (dg y.natAbs).take i ∧ s' = rsameSt s t r q (zofN i)) (n := Lx) (s0 := rsameSt s t r q (zofN 0)) (le_of ?_ ?_) rfl (by show 2 ≤ 4; omega) ?_ ?_
    · simp [leT, rsameSt, mkSt, vi, hS.ofN]
    · simp [leH, rsameSt, mkSt]
    · exact ⟨0, by omega, rfl, rfl⟩
    · rintro k _ ⟨i, hi, he, rfl⟩
      obtain ⟨i1, hi1⟩ : ∃ i1, i1 = i + 1 := ⟨_, rfl⟩
      have c1 : zlt (zofN i) (zofN (zlen r)) = decide (k ≠ 0) := by
        rw [hlx, hS.lt, hS.ofN, hS.ofN]
        by_cases h : k = 0
        · rw [decide_eq_false (show ¬ k ≠ 0 by omega)]; exact decide_eq_false (by omega)
        · rw [decide_eq_true h]; exact decide_eq_true (by omega)
      have c2 : zle 0 (zofN i) = true := by rw [hS.le, hS.ofN]; exact decide_eq_true (by omega)
      have c3 : znat (zofN i) = i := by rw [hS.nat, hS.ofN]; omega
      have c4 : i < Lx → zisI .u32 r (znat (zofN i)) = true := fun h => by rw [c3, hS.isI]; exact ix i h
      have c5 : i < Lx → zisI .u32 q (znat (zofN i)) = true := fun h => by rw [c3, hS.isI]; exact iy i (by omega)
      have c6 : zne (zgetI r (znat (zofN i))) (zgetI q (znat (zofN i))) = decide ((dg x.natAbs).getD i 0 ≠ (dg y.natAbs).getD i 0) := by
        rw [c3, hS.ne, hS.getI, hS.getI, gx, gy]
      have c7 : i < Lx → zwrap .i64 (zadd (zofN i) 1) = zofN i1 := fun h => by rw [hS.wrap, hS.add, hS.ofN, hS.ofN, wrap_i64 (by omega) (by omega), hi1]; omega
      have nx : i < Lx → (dg x.natAbs).getD i 0 = (dg y.natAbs).getD i 0 → (dg x.natAbs).take i1 = (dg y.natAbs).take i1 := fun h h2 => by rw [hi1]; exact hstep i h hll he h2
      have ki : k ≠ 0 → i < Lx := by omega
      have k1 : k ≠ 0 → i1 + (k - 1) = Lx ∧ k - 1 < k := by omega
      have kz : k = 0 → x = y := fun h => heq hst hll (by rw [show i = Lx by omega] at he; exact he)
      clear hi hi1 hstep ix iy gx gy
      cbv
      refine ⟨fun h => ?_, fun h => f1 ?_⟩
      all_goals rw [c1] at h
      · have hk := of_decide_eq_true h
        refine nd c2 (nd (c4 (ki hk)) (nd c2 (nd (c5 (ki hk)) ⟨fun h2 => f0 ?_, fun h2 => ?_⟩)))
        all_goals rw [c6] at h2
        · exact hwe i (of_decide_eq_true h2)
        · rw [c7 (ki hk)]
          exact again (s' := rsameSt s t r q (zofN i1)) (m := k - 1) (by simp [leT, rsameSt, mkSt, vi]) (by simp [leH, rsameSt, mkSt]) rfl (by show 2 ≤ 4; omega) (k1 hk).2 ⟨i1, (k1 hk).1, nx (ki hk) (Decidable.not_not.mp (of_decide_eq_false h2)), rfl⟩
      · exact kz (Decidable.not_not.mp (of_decide_eq_false h))
end Go.Proofs.Ytgncmjcoojmccaa
end

section
set_option linter.unusedVariables false
set_option linter.unusedSimpArgs false
set_option maxHeartbeats 8000000
set_option linter.unusedVariables false
set_option linter.unusedSimpArgs false
set_option maxRecDepth 100000
namespace Go.Proofs.Ytgncmjcoojmccaa
open Go Go.Abs Go.Abs.M Go.Proofs

theorem rvalid_call {x : Int} {s : Bool} {r : Abs.Rows} (hx : IsI x s r) (hx1 : nl x.natAbs ≤ 2199023255552) : ACall Try.prog 29 [.val (.agg (iT s r))] ⟨[.val (tb true)], [none]⟩ := by
  have hl : r.length = nl x.natAbs := hx.m.len
  have gx : ∀ i : Nat, ZI.std.getI r i = (dg x.natAbs).getD i 0 := fun i => by rw [hx.m, W_getI]
  have ix : ∀ i : Nat, i < nl x.natAbs → ZI.std.isI .u32 r i = true := fun i h => by rw [hx.m, W_isI]; exact decide_eq_true h
  have hz : nl x.natAbs = 0 → s = false := fun h => by
    rw [hx.s]; exact decide_eq_false (by have := nl_zero.mp h; omega)
  have htop : nl x.natAbs ≠ 0 → (dg x.natAbs).getD (nl x.natAbs - 1) 0 ≠ 0 := fun h => by
    rcases dg_tr x.natAbs with k | k
    · exact absurd (nl_zero.mpr (dg_eq_nil.mp k)) h
    · exact k
  generalize nl x.natAbs = n at *
  refine callZ ccOk mixed [.val] Try.func29 rfl rfl (by kernel_rfl) fun zwrap zadd zsub zmul zquo zrem zshl zshr zband zbor zbxor zbandn zeq zne zlt zle znot zbeq zbne zmax zmin znat zinb zofN zidx zneq znadd zdif zcut zroom zmkok zlen znth zsetr zisI zgetI zsetI zfit zpart zext zsetg zrep zwide zall zmok zmget zmset zW zth A L F hS hF => ?_
  have hlx : zlen r = n := by rw [hS.len, hl]
  have e0 : zeq (zofN (zlen r)) 0 = decide (n = 0) := by
    rw [hlx, hS.eq, hS.ofN]
    by_cases h : n = 0
    · rw [decide_eq_true h]; exact decide_eq_true (by omega)
    · rw [decide_eq_false h]; exact decide_eq_false (by omega)
  have e1 : n ≠ 0 → zwrap .i64 (zsub (zofN (zlen r)) 1) = zofN (n - 1) := fun h => by rw [hlx, hS.wrap, hS.sub, hS.ofN, hS.ofN, wrap_i64 (by omega) (by omega)]; omega
  have e2 : zle 0 (zofN (n - 1)) = true := by rw [hS.le, hS.ofN]; exact decide_eq_true (by omega)
  have e3 : znat (zofN (n - 1)) = n - 1 := by rw [hS.nat, hS.ofN]; omega
  have e4 : n ≠ 0 → zisI .u32 r (znat (zofN (n - 1))) = true := fun h => by rw [e3, hS.isI]; exact ix _ (by omega)
  have e5 : n ≠ 0 → zne (zgetI r (znat (zofN (n - 1)))) 0 = true := fun h => by rw [e3, hS.ne, hS.getI, gx]; exact decide_eq_true (htop h)
  generalize zofN (n - 1) = top at *
  clear ix gx htop
  cbv
  refine ⟨fun h => ?_, fun h => ?_⟩
  all_goals rw [e0] at h
  · rw [hz (of_decide_eq_true h)]
    exact fin1 hF (by simp [hS.not]; rfl)
  · have hn := of_decide_eq_false h
    rw [e1 hn]
    refine nd e2 (nd (e4 hn) ?_)
    rw [e5 hn]
    exact fin1 hF rfl
end Go.Proofs.Ytgncmjcoojmccaa
end

section
set_option linter.unusedVariables false
set_option linter.unusedSimpArgs false
/-
  The number of bits; square roots, bit by bit.
-/
set_option linter.unusedVariables false
namespace Go.Abs.M

def blen (t : Nat) : Nat := if t = 0 then 0 else t.log2 + 1

theorem blen_zero : blen 0 = 0 := rfl
theorem blen_step {t : Nat} (h : 0 < t) : blen (t / 2) + 1 = blen t := by
  by_cases h2 : 2 ≤ t
  · unfold blen
    rw [if_neg (by omega), if_neg (by omega), Nat.log2_def t, if_pos h2]
  · obtain rfl : t = 1 := by omega
    decide
theorem lt_blen (t : Nat) : t < 2 ^ blen t := by
  unfold blen
  by_cases h : t = 0
  · subst h; simp
  · rw [if_neg h]; exact Nat.lt_log2_self
theorem blen_le {t : Nat} (h : t < 4294967296) : blen t ≤ 32 := by
  unfold blen
  by_cases h0 : t = 0
  · rw [if_pos h0]; omega
  · rw [if_neg h0]; exact (Nat.log2_lt (k := 32) h0).2 (by omega)

/-- The bits of a number. -/
def bitsN (x : Nat) : Nat := if nl x = 0 then 0 else 32 * (nl x - 1) + blen ((dg x).getD (nl x - 1) 0).toNat

theorem bitsN_le (x : Nat) : bitsN x ≤ 32 * nl x := by
  unfold bitsN
  by_cases h : nl x = 0
  · rw [if_pos h]; omega
  · rw [if_neg h]
    have hw := (dg_wd x).get (nl x - 1)
    have := blen_le (t := ((dg x).getD (nl x - 1) 0).toNat) (by omega)
    omega

theorem bitsN_lt (x : Nat) : x < 2 ^ bitsN x := by
  unfold bitsN
  by_cases h : nl x = 0
  · rw [if_pos h]
    have := (nl_zero (n := x)).1 h
    subst this; simp
  · rw [if_neg h]
    have hw := (dg_wd x).get (nl x - 1)
    obtain ⟨t, ht⟩ : ∃ t, t = ((dg x).getD (nl x - 1) 0).toNat := ⟨_, rfl⟩
    have e := val_take_drop (dg x) (nl x - 1) (by unfold nl; omega)
    rw [val_drop_succ (by unfold nl at h ⊢; omega), show nl x - 1 + 1 = nl x by omega, show (dg x).drop (nl x) = [] by unfold nl; exact List.drop_length, dg_val] at e
    have h1 := val_lt ((dg_wd x).take (nl x - 1))
    rw [List.length_take, Nat.min_eq_left (by unfold nl; omega)] at h1
    have h2 := lt_blen t
    rw [← ht]
    obtain ⟨P, hP⟩ : ∃ P : Nat, P = 4294967296 ^ (nl x - 1) := ⟨_, rfl⟩
    have hP2 : (4294967296 : Int) ^ (nl x - 1) = P := by rw [hP, Int.natCast_pow]; rfl
    have hP3 : 2 ^ (32 * (nl x - 1) + blen t) = P * 2 ^ blen t := by rw [Nat.pow_add, Nat.pow_mul, hP]
    rw [hP3]
    rw [hP2] at e h1
    have h3 : P * (t + 1) ≤ P * 2 ^ blen t := Nat.mul_le_mul_left P h2
    have h4 : ((dg x).getD (nl x - 1) 0) = t := by omega
    rw [h4] at e
    simp only [val, Int.mul_zero, Int.add_zero] at e
    have h5 : ((P * (t + 1) : Nat) : Int) = (P : Int) * t + P := by rw [Int.natCast_mul, Int.natCast_add, Int.mul_add]; simp
    omega

/-- The square root, rounded down. -/
def IsRoot (a b : Int) : Prop := 0 ≤ b ∧ b * b ≤ a ∧ a < (b + 1) * (b + 1)

theorem sq_mono {x y : Int} (hx : 0 ≤ x) (h : x ≤ y) : x * x ≤ y * y := Int.mul_le_mul h h hx (by omega)

theorem IsRoot.unique {a b c : Int} (h : IsRoot a b) (h' : IsRoot a c) : b = c := by
  obtain ⟨h1, h2, h3⟩ := h
  obtain ⟨g1, g2, g3⟩ := h'
  rcases Int.lt_trichotomy b c with h | h | h
  · have := sq_mono (x := b + 1) (y := c) (by omega) (by omega); omega
  · exact h
  · have := sq_mono (x := c + 1) (y := b) (by omega) (by omega); omega

/-- x*x <= a says that x is at most the root. -/
theorem IsRoot.le_iff {a b x : Int} (h : IsRoot a b) (hx : 0 ≤ x) : x * x ≤ a ↔ x ≤ b := by
  obtain ⟨h1, h2, h3⟩ := h
  constructor
  · intro hh
    rcases Int.lt_or_le b x with g | g
    · have := sq_mono (x := b + 1) (y := x) (by omega) (by omega); omega
    · exact g
  · intro hh
    have := sq_mono hx hh; omega

theorem nl_le_pow {y : Int} {k : Nat} (h0 : 0 ≤ y) (h : y < 2 ^ k) : nl y.natAbs ≤ k := by
  apply nl_le_of
  have h1 : (2 : Nat) ^ k ≤ 4294967296 ^ k := Nat.pow_le_pow_left (by omega) k
  have h2 : (((2 : Nat) ^ k : Nat) : Int) ≤ ((4294967296 ^ k : Nat) : Int) := Int.ofNat_le.2 h1
  rw [Int.natCast_pow, Int.natCast_pow] at h2
  have h3 : (2 : Int) ^ k = ((2 : Nat) : Int) ^ k := rfl
  have h4 : (4294967296 : Int) ^ k = ((4294967296 : Nat) : Int) ^ k := rfl
  rw [h4]; omega

theorem two_pow_mono {i j : Nat} (h : i ≤ j) : (2 : Int) ^ i ≤ 2 ^ j := by
  have h1 : (2 : Nat) ^ i ≤ 2 ^ j := Nat.pow_le_pow_right (by omega) h
  have h2 : (((2 : Nat) ^ i : Nat) : Int) ≤ ((2 ^ j : Nat) : Int) := Int.ofNat_le.2 h1
  rw [Int.natCast_pow, Int.natCast_pow] at h2
  exact h2

theorem two_pow_pos' (i : Nat) : (0 : Int) < 2 ^ i := Int.pow_pos (by omega)

theorem two_pow_lt_succ (j : Nat) : (2 : Int) ^ j < 2 ^ (j + 1) := by
  have := two_pow_pos' j
  rw [Int.pow_succ]; omega

/-- k more bits are to be found behind o. -/
structure RootI (x o : Int) (k : Nat) : Prop where
  lo : 0 ≤ o
  le : o * o ≤ x
  hi : x < (o + 2 ^ k) * (o + 2 ^ k)

theorem RootI.start {x : Int} {B : Nat} (h0 : 0 ≤ x) (h : x < 2 ^ B) : RootI x 0 (B / 2 + 1) := by
  refine ⟨by omega, by omega, ?_⟩
  rw [Int.zero_add, ← Int.pow_add]
  exact Int.lt_of_lt_of_le h (two_pow_mono (by omega))

theorem RootI.yes {x o : Int} {i : Nat} (h : RootI x o (i + 1)) (hn : (o + 2 ^ i) * (o + 2 ^ i) ≤ x) : RootI x (o + 2 ^ i) i := by
  refine ⟨by have := h.lo; have := two_pow_pos' i; omega, hn, ?_⟩
  have := h.hi
  rw [Int.pow_succ] at this
  rw [show o + 2 ^ i + 2 ^ i = o + 2 ^ i * 2 by omega]
  exact this

theorem RootI.no {x o : Int} {i : Nat} (h : RootI x o (i + 1)) (hn : ¬ (o + 2 ^ i) * (o + 2 ^ i) ≤ x) : RootI x o i := ⟨h.lo, h.le, by omega⟩

theorem RootI.root {x o : Int} (h : RootI x o 0) : IsRoot x o := ⟨h.lo, h.le, by have := h.hi; rwa [Int.pow_zero] at this⟩

theorem RootI.lt {x o : Int} {k B : Nat} (h : RootI x o k) (hx : x < 2 ^ B) : o < 2 ^ B := by
  rcases Int.lt_or_le o (2 ^ B) with g | g
  · exact g
  · have h1 := sq_mono (x := 1) (y := 2 ^ B) (by omega) (by have := two_pow_pos' B; omega)
    have h2 := sq_mono (by have := two_pow_pos' B; omega) g
    have h3 : (2 : Int) ^ B * 1 ≤ 2 ^ B * 2 ^ B := Int.mul_le_mul_of_nonneg_left (by have := two_pow_pos' B; omega) (by have := two_pow_pos' B; omega)
    have := h.le
    omega
end Go.Abs.M
end

section
set_option linter.unusedVariables false
set_option linter.unusedSimpArgs false
set_option maxHeartbeats 8000000
set_option linter.unusedVariables false
set_option linter.unusedSimpArgs false
set_option maxRecDepth 100000
namespace Go.Proofs.Ytgncmjcoojmccaa
open Go Go.Abs Go.Abs.M Go.Proofs

theorem rpower_call {a : Int} {s : Bool} {r : Abs.Rows} (ha : IsI a s r) : ∀ n : Nat, n < 1000000 → (∀ j, j ≤ n → nl (a ^ j).natAbs ≤ 1000000) → ∀ u w, IsI (a ^ n) u w → ACall Try.prog 79 [.val (.agg (iT s r)), .val (ti .i64 (n : Int))] ⟨[.val (.agg (iT u w))], [none, none]⟩ := by
  intro n
  induction n using Nat.strongRecOn with
  | _ n ih =>
    intro hn hb u w hw
    obtain ⟨N, hN⟩ : ∃ N : Int, N = n := ⟨_, rfl⟩
    by_cases h0 : n = 0
    · obtain ⟨u', w', hw', c1⟩ := rof_call 1 (by omega) (by omega)
      obtain ⟨rfl, rfl⟩ := hw.inj (hw'.of (by rw [h0, Int.pow_zero]))
      rw [← hN]
      refine callZ ccOk mixed [.val] Try.func79 rfl rfl (by kernel_rfl) fun zwrap zadd zsub zmul zquo zrem zshl zshr zband zbor zbxor zbandn zeq zne zlt zle znot zbeq zbne zmax zmin znat zinb zofN zidx zneq znadd zdif zcut zroom zmkok zlen znth zsetr zisI zgetI zsetI zfit zpart zext zsetg zrep zwide zall zmok zmget zmset zW zth A L F hS hF => ?_
      have e : zeq N 0 = true := by rw [hS.eq]; exact decide_eq_true (by omega)
      cbv
      refine bT (e) ?_
      refine ⟨_, hS.call (c1), ?_⟩
      cbv
      exact hF _ (ResLe.refl _)
    · have hl1 : nl (a ^ (n / 2)).natAbs ≤ 1000000 := hb _ (by omega)
      have hl2 : nl (a ^ (n / 2) * a ^ (n / 2)).natAbs ≤ 1000000 := by rw [← Int.pow_add]; exact hb _ (by omega)
      have hl3 : nl a.natAbs ≤ 1000000 := by have := hb 1 (by omega); rwa [Int.pow_one] at this
      have c1 := ih (n / 2) (by omega) (by omega) (fun j hj => hb j (by omega)) _ _ (IsI.mk' _)
      have i1 := IsI.mk' (a ^ (n / 2))
      generalize decide (a ^ (n / 2) < 0) = hs at *
      generalize W .u32 (dg (a ^ (n / 2)).natAbs) = hr at *
      obtain ⟨u2, w2, i2, c2⟩ := rmul_call i1 i1 (by omega) (by omega)
      obtain ⟨u3, w3, i3, c3⟩ := rmul_call i2 ha (by omega) (by omega)
      obtain ⟨H, hH⟩ : ∃ H : Int, H = ((n / 2 : Nat) : Int) := ⟨_, rfl⟩
      rw [← hH] at c1
      rw [← hN]
      by_cases ho : n % 2 = 1
      · have e2 : a ^ (n / 2) * a ^ (n / 2) * a = a ^ n := by rw [← Int.pow_add, ← Int.pow_succ]; congr 1; omega
        obtain ⟨rfl, rfl⟩ := hw.inj (i3.of e2)
        clear ih hb hw i1 i2 i3 e2 hl1 hl2 hl3
        refine callZ ccOk mixed [.val] Try.func79 rfl rfl (by kernel_rfl) fun zwrap zadd zsub zmul zquo zrem zshl zshr zband zbor zbxor zbandn zeq zne zlt zle znot zbeq zbne zmax zmin znat zinb zofN zidx zneq znadd zdif zcut zroom zmkok zlen znth zsetr zisI zgetI zsetI zfit zpart zext zsetg zrep zwide zall zmok zmget zmset zW zth A L F hS hF => ?_
        have e : zeq N 0 = false := by rw [hS.eq]; exact decide_eq_false (by omega)
        have e1 : zwrap .i64 (zquo N 2) = H := by rw [hS.quo, hS.wrap, Int.tdiv_eq_ediv_of_nonneg (by omega), wrap_i64 (by omega) (by omega)]; omega
        have e3 : zeq (zrem N 2) 1 = true := by rw [hS.eq, hS.rem, Int.tmod_eq_emod_of_nonneg (by omega)]; exact decide_eq_true (by omega)
        cbv
        refine bF (e) ?_
        rw [e1]
        refine ⟨_, hS.call (c1), ?_⟩
        cbv
        refine ⟨_, hS.call (c2), ?_⟩
        cbv
        refine bT (e3) ?_
        refine ⟨_, hS.call (c3), ?_⟩
        cbv
        exact hF _ (ResLe.refl _)
      · have e2 : a ^ (n / 2) * a ^ (n / 2) = a ^ n := by rw [← Int.pow_add]; congr 1; omega
        obtain ⟨rfl, rfl⟩ := hw.inj (i2.of e2)
        clear ih hb hw i1 i2 i3 e2 hl1 hl2 hl3
        refine callZ ccOk mixed [.val] Try.func79 rfl rfl (by kernel_rfl) fun zwrap zadd zsub zmul zquo zrem zshl zshr zband zbor zbxor zbandn zeq zne zlt zle znot zbeq zbne zmax zmin znat zinb zofN zidx zneq znadd zdif zcut zroom zmkok zlen znth zsetr zisI zgetI zsetI zfit zpart zext zsetg zrep zwide zall zmok zmget zmset zW zth A L F hS hF => ?_
        have e : zeq N 0 = false := by rw [hS.eq]; exact decide_eq_false (by omega)
        have e1 : zwrap .i64 (zquo N 2) = H := by rw [hS.quo, hS.wrap, Int.tdiv_eq_ediv_of_nonneg (by omega), wrap_i64 (by omega) (by omega)]; omega
        have e3 : zeq (zrem N 2) 1 = false := by rw [hS.eq, hS.rem, Int.tmod_eq_emod_of_nonneg (by omega)]; exact decide_eq_false (by omega)
        cbv
        refine bF (e) ?_
        rw [e1]
        refine ⟨_, hS.call (c1), ?_⟩
        cbv
        refine ⟨_, hS.call (c2), ?_⟩
        cbv
        refine bF (e3) ?_
        exact hF _ (ResLe.refl _)

def rbtSt (o t : Int) : St := mkSt 27 [.junk, .junk, .junk, .junk, vi .i64 o, vi .u32 t] [none]

theorem rbits_call {x : Int} {s : Bool} {r : Abs.Rows} (hx : IsI x s r) (hx1 : nl x.natAbs ≤ 1000000) : ACall Try.prog 78 [.val (.agg (iT s r))] ⟨[.val (ti .i64 (bitsN x.natAbs : Nat))], [none]⟩ := by
  have hl : r.length = nl x.natAbs := hx.m.len
  have gx : ∀ i : Nat, ZI.std.getI r i = (dg x.natAbs).getD i 0 := fun i => by rw [hx.m, W_getI]
  have ix : ∀ i : Nat, i < nl x.natAbs → ZI.std.isI .u32 r i = true := fun i h => by rw [hx.m, W_isI]; exact decide_eq_true h
  have hw := (dg_wd x.natAbs).get (nl x.natAbs - 1)
  have hble := bitsN_le x.natAbs
  obtain ⟨B, hB⟩ : ∃ B : Int, B = (bitsN x.natAbs : Nat) := ⟨_, rfl⟩
  have hB2 : bitsN x.natAbs = if nl x.natAbs = 0 then 0 else 32 * (nl x.natAbs - 1) + blen ((dg x.natAbs).getD (nl x.natAbs - 1) 0).toNat := rfl
  rw [← hB]
  generalize bitsN x.natAbs = bn at *
  obtain ⟨n, hn⟩ : ∃ n, n = nl x.natAbs := ⟨_, rfl⟩
  rw [← hn] at hl ix hw hble hB2 hx1
  obtain ⟨t, ht⟩ : ∃ t, t = ((dg x.natAbs).getD (n - 1) 0).toNat := ⟨_, rfl⟩
  have ht2 : (dg x.natAbs).getD (n - 1) 0 = t := by omega
  rw [← ht] at hB2
  by_cases h0 : n = 0
  · rw [if_pos h0] at hB2
    refine callZ ccOk mixed [.val] Try.func78 rfl rfl (by kernel_rfl) fun zwrap zadd zsub zmul zquo zrem zshl zshr zband zbor zbxor zbandn zeq zne zlt zle znot zbeq zbne zmax zmin znat zinb zofN zidx zneq znadd zdif zcut zroom zmkok zlen znth zsetr zisI zgetI zsetI zfit zpart zext zsetg zrep zwide zall zmok zmget zmset zW zth A L F hS hF => ?_
    have x1 : zeq (zofN (zlen r)) 0 = true := by rw [hS.eq, hS.ofN, hS.len, hl]; exact decide_eq_true (by omega)
    have e : (0 : Int) = B := by omega
    cbv
    exact bT x1 (fin1 hF (tv_int e))
  · rw [if_neg h0] at hB2
    have hbl := blen_le (t := t) (by omega)
    obtain ⟨T, hT⟩ : ∃ T : Int, T = t := ⟨_, rfl⟩
    obtain ⟨O, hO⟩ : ∃ O : Int, O = ((32 * (n - 1) : Nat) : Int) := ⟨_, rfl⟩
    refine callZ ccOk mixed [.val] Try.func78 rfl rfl (by kernel_rfl) fun zwrap zadd zsub zmul zquo zrem zshl zshr zband zbor zbxor zbandn zeq zne zlt zle znot zbeq zbne zmax zmin znat zinb zofN zidx zneq znadd zdif zcut zroom zmkok zlen znth zsetr zisI zgetI zsetI zfit zpart zext zsetg zrep zwide zall zmok zmget zmset zW zth A L F hS hF => ?_
    have x1 : zeq (zofN (zlen r)) 0 = false := by rw [hS.eq, hS.ofN, hS.len, hl]; exact decide_eq_false (by omega)
    have x2 : zwrap .i64 (zsub (zofN (zlen r)) 1) = ((n - 1 : Nat) : Int) := by rw [hS.ofN, hS.len, hl, hS.sub, hS.wrap, wrap_i64 (by omega) (by omega)]; omega
    have n1 : zle 0 (zwrap .i64 (zsub (zofN (zlen r)) 1)) = true := by rw [x2, hS.le]; exact decide_eq_true (by omega)
    have x3 : znat (zwrap .i64 (zsub (zofN (zlen r)) 1)) = n - 1 := by rw [x2, hS.nat]; omega
    have n2 : zisI .u32 r (znat (zwrap .i64 (zsub (zofN (zlen r)) 1))) = true := by rw [x3, hS.isI]; exact ix _ (by omega)
    have x4 : zgetI r (znat (zwrap .i64 (zsub (zofN (zlen r)) 1))) = T := by rw [x3, hS.getI, gx, ht2, hT]
    have x5 : zwrap .i64 (zmul 32 (zwrap .i64 (zsub (zofN (zlen r)) 1))) = O := by rw [x2, hS.mul, hS.wrap, wrap_i64 (by omega) (by omega)]; omega
    have A1 : ∀ (i : Nat) (I : Int), I = i → i ≤ 100000000 → ∃ I' : Int, I' = ((i + 1 : Nat) : Int) ∧ zwrap .i64 (zadd I 1) = I' := fun i I hI h => by
      refine ⟨_, rfl, ?_⟩
      rw [hS.add, hS.wrap, wrap_i64 (by omega) (by omega)]; omega
    have A2 : ∀ (i : Nat) (I : Int), I = i → i < 4294967296 → ∃ I' : Int, I' = ((i / 2 : Nat) : Int) ∧ zwrap .u32 (zquo I 2) = I' := fun i I hI h => by
      refine ⟨_, rfl, ?_⟩
      rw [hS.quo, hS.wrap, Int.tdiv_eq_ediv_of_nonneg (by omega), wrap_u32 (by omega) (by omega)]; omega
    have A3 : ∀ (i : Nat) (I : Int), I = i → zlt 0 I = decide (0 < i) := fun i I hI => by
      rw [hS.lt]
      by_cases h : 0 < i
      · rw [decide_eq_true h]; exact decide_eq_true (by omega)
      · rw [decide_eq_false h]; exact decide_eq_false (by omega)
    have htt : t < 4294967296 := by omega
    clear hw ix gx
    cbv
    refine bF (x1) ?_
    refine nd (n1) ?_
    refine nd (n2) ?_
    rw [x4, x5]
    refine loopZ ccOk mixed hS (fun (k : Nat) s' => ∃ (o : Nat) (O K : Int), K = k ∧ O = o ∧ k ≤ t ∧ o + blen k = bn ∧ s' = rbtSt O K) (n := t) (s0 := rbtSt O T) (le_of ?_ ?_) rfl (by show 1 ≤ 1; omega) ?_ ?_
    · simp [leT, rbtSt, mkSt, vi]
    · simp [leH, rbtSt, mkSt]
    · exact ⟨32 * (n - 1), O, T, hT, hO, Nat.le_refl _, hB2.symm, rfl⟩
    · rintro k s1 ⟨o, O', K, hK, hO', hkt, hob, hs1⟩
      have l1 := A3 k K hK
      by_cases hk : 0 < k
      · rw [decide_eq_true hk] at l1
        obtain ⟨O2, hO2, a1⟩ := A1 o O' hO' (by omega)
        obtain ⟨K2, hK2, a2⟩ := A2 k K hK (by omega)
        have hst := blen_step hk
        have hlt : k / 2 < k := by omega
        have hnx : ∃ (o : Nat) (O K : Int), K = ((k / 2 : Nat) : Int) ∧ O = o ∧ k / 2 ≤ t ∧ o + blen (k / 2) = bn ∧ rbtSt O2 K2 = rbtSt O K := ⟨o + 1, O2, K2, hK2, hO2, by omega, by omega, rfl⟩
        subst hs1
        cbv
        refine bT l1 ?_
        exact again (s' := rbtSt O2 K2) (m := k / 2) (by simp [leT, rbtSt, mkSt, vi, a1, a2]) (by simp [leH, rbtSt, mkSt]) rfl (by show 1 ≤ 1; omega) hlt hnx
      · rw [decide_eq_false hk] at l1
        have hk0 : k = 0 := by omega
        have hfin : O' = B := by rw [hO', hB, ← hob, hk0, blen_zero]; rfl
        subst hs1
        cbv
        exact bF l1 (fin1 hF (tv_int hfin))

def rrtSt (r : Abs.Rows) (cc us : Bool) (ur : Abs.Rows) (i : Int) : St := mkSt 53 [.junk, vi .i64 2, .c (.ptr 2 0 0), .junk, .c (.ptr 3 0 0), vi .i64 0, .junk, .c (.ptr 6 0 0), vi .i64 i] [none, none, some (.var [.t (.v (.bool false)), .t (.lst false r)]), some (.var [.t (.v (.bool false)), .t (.lst true [])]), none, none, some (.var [.t (.v (.bool us)), .t (.lst cc ur)])]

theorem cmpI_le (a b : Int) : cmpI a b ≤ 0 ↔ a ≤ b := by
  unfold cmpI
  split
  · omega
  · split <;> omega

theorem rroot_call {x : Int} {s : Bool} {r : Abs.Rows} {b : Int} {u : Bool} {w : Abs.Rows} (hx : IsI x s r) (h0 : 0 ≤ x) (hx1 : nl x.natAbs ≤ 1000) (hb : IsRoot x b) (hu : IsI b u w) : ACall Try.prog 60 [.val (.agg (iT s r)), .val (ti .i64 2)] ⟨[.val (.agg (iT u w)), .val (ti .i64 0)], [none, none]⟩ := by
  have e5 : s = false := by rw [hx.s]; exact decide_eq_false (by omega)
  subst e5
  have cb := rbits_call hx (by omega)
  have hB1 := bitsN_le x.natAbs
  have hB2 := bitsN_lt x.natAbs
  have hr : r.length = nl x.natAbs := hx.m.len
  have hz := @nl_zero x.natAbs
  have hB3 : x < 2 ^ bitsN x.natAbs := by
    have h2 : ((x.natAbs : Nat) : Int) < ((2 ^ bitsN x.natAbs : Nat) : Int) := Int.ofNat_lt.2 hB2
    rw [Int.natCast_pow] at h2
    have h3 : (2 : Int) ^ bitsN x.natAbs = ((2 : Nat) : Int) ^ bitsN x.natAbs := rfl
    omega
  clear hB2
  generalize bitsN x.natAbs = bn at *
  have hend : ∀ o us ur, RootI x o 0 → IsI o us ur → us = u ∧ ur = w := fun o us ur h1 h2 => (h2.of (h1.root.unique hb)).inj hu
  obtain ⟨B, hB⟩ : ∃ B : Int, B = (bn : Nat) := ⟨_, rfl⟩
  rw [← hB] at cb
  obtain ⟨us1, ur1, i1, c1⟩ := rof_call 1 (by omega) (by omega)
  obtain ⟨us2, ur2, i2, c2⟩ := rof_call 2 (by omega) (by omega)
  by_cases hx0 : x = 0
  · have hb0 : b = 0 := by
      obtain ⟨g1, g2, g3⟩ := hb
      rcases Int.lt_or_le 0 b with g | g
      · have := sq_mono (x := 1) (y := b) (by omega) (by omega); omega
      · omega
    obtain ⟨e6, rfl⟩ := hx.inj (hu.of (by rw [hb0, hx0]))
    subst e6
    refine callZ ccOk mixed [.val, .val] Try.func60 rfl rfl (by kernel_rfl) fun zwrap zadd zsub zmul zquo zrem zshl zshr zband zbor zbxor zbandn zeq zne zlt zle znot zbeq zbne zmax zmin znat zinb zofN zidx zneq znadd zdif zcut zroom zmkok zlen znth zsetr zisI zgetI zsetI zfit zpart zext zsetg zrep zwide zall zmok zmget zmset zW zth A L F hS hF => ?_
    have e1 : zeq (zofN (zlen r)) 0 = true := by rw [hS.eq, hS.ofN, hS.len, hr]; exact decide_eq_true (by omega)
    have e2 : zlt 2 1 = false := by rw [hS.lt]; rfl
    have e3 : zeq 2 1 = false := by rw [hS.eq]; rfl
    cbv
    refine bF (rfl) ?_
    refine bF (e2) ?_
    refine bF (e3) ?_
    refine bT (e1) ?_
    exact hF _ (ResLe.refl _)
  by_cases hB4 : bn ≤ 2
  · have hb1 : b = 1 := by
      have h4 : x < 4 := by
        have := two_pow_mono hB4
        have e : (2 : Int) ^ 2 = 4 := rfl
        omega
      exact hb.unique ⟨by omega, by omega, by omega⟩
    obtain ⟨rfl, rfl⟩ := hu.inj (i1.of hb1.symm)
    refine callZ ccOk mixed [.val, .val] Try.func60 rfl rfl (by kernel_rfl) fun zwrap zadd zsub zmul zquo zrem zshl zshr zband zbor zbxor zbandn zeq zne zlt zle znot zbeq zbne zmax zmin znat zinb zofN zidx zneq znadd zdif zcut zroom zmkok zlen znth zsetr zisI zgetI zsetI zfit zpart zext zsetg zrep zwide zall zmok zmget zmset zW zth A L F hS hF => ?_
    have e1 : zeq (zofN (zlen r)) 0 = false := by rw [hS.eq, hS.ofN, hS.len, hr]; exact decide_eq_false (by omega)
    have e2 : zlt 2 1 = false := by rw [hS.lt]; rfl
    have e3 : zeq 2 1 = false := by rw [hS.eq]; rfl
    have e4 : zle B 2 = true := by rw [hS.le]; exact decide_eq_true (by omega)
    cbv
    refine bF (rfl) ?_
    refine bF (e2) ?_
    refine bF (e3) ?_
    refine bF (e1) ?_
    refine ⟨_, hS.call (cb), ?_⟩
    cbv
    refine bT (e4) ?_
    refine ⟨_, hS.call (c1), ?_⟩
    cbv
    exact hF _ (ResLe.refl _)
  obtain ⟨K, hK⟩ : ∃ K : Int, K = ((bn / 2 : Nat) : Int) := ⟨_, rfl⟩
  have hstep : ∀ (i : Nat) (o : Int) (us : Bool) (ur : Abs.Rows) (I : Int), I = i → i ≤ bn / 2 → RootI x o (i + 1) → IsI o us ur → ∃ (ps : Bool) (pr : Abs.Rows) (ns : Bool) (nr : Abs.Rows) (qs : Bool) (qr : Abs.Rows) (c : Int),
      ACall Try.prog 79 [.val (.agg (iT us2 ur2)), .val (ti .i64 I)] ⟨[.val (.agg (iT ps pr))], [none, none]⟩ ∧
      ACall Try.prog 39 [.val (.agg (iT us ur)), .val (.agg (iT ps pr))] ⟨[.val (.agg (iT ns nr))], [none, none]⟩ ∧
      ACall Try.prog 79 [.val (.agg (iT ns nr)), .val (ti .i64 2)] ⟨[.val (.agg (iT qs qr))], [none, none]⟩ ∧
      ACall Try.prog 32 [.val (.agg (iT qs qr)), .val (.agg (iT false r))] ⟨[.val (ti .i64 c)], [none, none]⟩ ∧
      (c ≤ 0 → RootI x (o + 2 ^ i) i ∧ IsI (o + 2 ^ i) ns nr) ∧ (¬ c ≤ 0 → RootI x o i) := fun i o us ur I hI hib hro io => by
    have ho := hro.lt hB3
    have ho0 := hro.lo
    have p1 := two_pow_pos' i
    have p2 := two_pow_mono (show i ≤ bn by omega)
    have p3 := two_pow_pos' bn
    have e3 : (2 : Int) ^ (bn + 1) = 2 ^ bn * 2 := Int.pow_succ ..
    have b1 : nl o.natAbs ≤ bn := nl_le_pow ho0 ho
    have b2 : nl ((2 : Int) ^ i).natAbs ≤ bn + 1 := nl_le_pow (by omega) (by omega)
    have b3 : nl (o + 2 ^ i).natAbs ≤ bn + 1 := nl_le_pow (by omega) (by omega)
    have b4 : nl ((o + 2 ^ i) ^ 2).natAbs ≤ bn + 1 + (bn + 1) := by
      have h1 : (o + 2 ^ i) * (o + 2 ^ i) < 2 ^ (bn + 1) * 2 ^ (bn + 1) := by
        have := sq_mono (x := o + 2 ^ i + 1) (y := 2 ^ (bn + 1)) (by omega) (by omega)
        have e : (o + 2 ^ i + 1) * (o + 2 ^ i + 1) = (o + 2 ^ i) * (o + 2 ^ i) + 2 * (o + 2 ^ i) + 1 := by grind
        omega
      rw [← Int.pow_add] at h1
      have e : (o + 2 ^ i) ^ 2 = (o + 2 ^ i) * (o + 2 ^ i) := by rw [Int.pow_succ, Int.pow_succ, Int.pow_zero, Int.one_mul]
      rw [e]
      exact nl_le_pow (Int.mul_nonneg (by omega) (by omega)) h1
    have c3 := rpower_call i2 i (by omega) (fun j hj => by
      have := nl_le_pow (y := 2 ^ j) (k := j + 1) (Int.le_of_lt (two_pow_pos' j)) (two_pow_lt_succ j)
      omega) _ _ (IsI.mk' _)
    obtain ⟨ns, nr, i3, c4⟩ := radd_call io (IsI.mk' (2 ^ i)) (by omega) (by omega)
    have c5 := rpower_call i3 2 (by omega) (fun j hj => by
      have hj3 : j = 0 ∨ j = 1 ∨ j = 2 := by omega
      rcases hj3 with rfl | rfl | rfl
      · rw [Int.pow_zero]; have : nl (1 : Int).natAbs ≤ 1 := nl_le_of (by omega)
        omega
      · rw [Int.pow_one]; omega
      · omega) _ _ (IsI.mk' _)
    have c6 := rcmp_call _ (IsI.mk' ((o + 2 ^ i) ^ 2)) hx rfl (by omega) (by omega)
    rw [hI]
    refine ⟨_, _, ns, nr, _, _, _, c3, c4, c5, c6, fun hc => ⟨hro.yes ?_, i3⟩, fun hc => hro.no ?_⟩
    · have := (cmpI_le ((o + 2 ^ i) ^ 2) x).1 hc
      rwa [Int.pow_succ, Int.pow_succ, Int.pow_zero, Int.one_mul] at this
    · intro h
      apply hc
      apply (cmpI_le ((o + 2 ^ i) ^ 2) x).2
      rw [Int.pow_succ, Int.pow_succ, Int.pow_zero, Int.one_mul]
      exact h
  have h00 : IsI 0 false [] := ⟨rfl, rfl⟩
  have hst := RootI.start h0 hB3
  clear hz hB3 hu hb
  refine callZ ccOk mixed [.val, .val] Try.func60 rfl rfl (by kernel_rfl) fun zwrap zadd zsub zmul zquo zrem zshl zshr zband zbor zbxor zbandn zeq zne zlt zle znot zbeq zbne zmax zmin znat zinb zofN zidx zneq znadd zdif zcut zroom zmkok zlen znth zsetr zisI zgetI zsetI zfit zpart zext zsetg zrep zwide zall zmok zmget zmset zW zth A L F hS hF => ?_
  have e1 : zeq (zofN (zlen r)) 0 = false := by rw [hS.eq, hS.ofN, hS.len, hr]; exact decide_eq_false (by omega)
  have e2 : zlt 2 1 = false := by rw [hS.lt]; rfl
  have e3 : zeq 2 1 = false := by rw [hS.eq]; rfl
  have e4 : zle B 2 = false := by rw [hS.le]; exact decide_eq_false (by omega)
  have e6 : zne 2 0 = true := by rw [hS.ne]; rfl
  have e7 : zwrap .i64 (zquo B 2) = K := by rw [hS.quo, hS.wrap, Int.tdiv_eq_ediv_of_nonneg (by omega), wrap_i64 (by omega) (by omega)]; omega
  have A1 : ∀ (k : Nat) (I : Int), I + 1 = k → zle 0 I = decide (0 < k) := fun k I hI => by
    rw [hS.le]
    by_cases h : 0 < k
    · rw [decide_eq_true h]; exact decide_eq_true (by omega)
    · rw [decide_eq_false h]; exact decide_eq_false (by omega)
  have A2 : ∀ (k : Nat) (I : Int), I + 1 = k → 0 < k → k ≤ 1000000 → ∃ I' : Int, I' + 1 = ((k - 1 : Nat) : Int) ∧ zwrap .i64 (zsub I 1) = I' := fun k I hI h1 h2 => by
    refine ⟨I - 1, by omega, ?_⟩
    rw [hS.sub, hS.wrap, wrap_i64 (by omega) (by omega)]
  have A3 : ∀ c : Int, zle c 0 = decide (c ≤ 0) := fun c => hS.le ..
  cbv
  refine bF (rfl) ?_
  refine bF (e2) ?_
  refine bF (e3) ?_
  refine bF (e1) ?_
  refine ⟨_, hS.call (cb), ?_⟩
  cbv
  refine bF (e4) ?_
  refine nd (e6) ?_
  rw [e7]
  have hK : K = ((bn / 2 : Nat) : Int) := hK
  refine loopZ ccOk mixed hS (fun (k : Nat) s' => ∃ (I o : Int) (cc us : Bool) (ur : Abs.Rows), I + 1 = k ∧ k ≤ bn / 2 + 1 ∧ RootI x o k ∧ IsI o us ur ∧ s' = rrtSt r cc us ur I) (n := bn / 2 + 1) (s0 := rrtSt r true false [] K) (le_of ?_ ?_) rfl (by show 2 ≤ 7; omega) ?_ ?_
  · simp [leT, rrtSt, mkSt, vi]
  · simp [leH, rrtSt, mkSt]
  · exact ⟨K, 0, true, false, [], by omega, Nat.le_refl _, hst, h00, rfl⟩
  · rintro k s1 ⟨I, o, cc, us, ur, hI, hkb, hro, io, hs1⟩
    have l1 := A1 k I hI
    by_cases hk : 0 < k
    · rw [decide_eq_true hk] at l1
      obtain ⟨i, hi⟩ : ∃ i, k = i + 1 := ⟨k - 1, by omega⟩
      rw [hi] at hro
      obtain ⟨ps, pr, ns, nr, qs, qr, c, c3, c4, c5, c6, hy, hn⟩ := hstep i o us ur I (show I = ((i : Nat) : Int) by omega) (by omega) hro io
      obtain ⟨I', hI', i1'⟩ := A2 k I hI hk (by omega)
      have hlt : k - 1 < k := by omega
      have hi' : k - 1 = i := by omega
      rw [← hi'] at hy hn
      have a3 := A3 c
      have hkb' : k - 1 ≤ bn / 2 + 1 := by omega
      clear hstep A1 A2 A3 hro hI hkb hB hK hend hst hi hi' h0 hx hr
      subst hs1
      cbv
      refine bT (l1) ?_
      refine ⟨_, hS.call (c2), ?_⟩
      cbv
      refine ⟨_, hS.call (c3), ?_⟩
      cbv
      refine ⟨_, hS.callw c4 ⟨⟨.v _, TLe.drop _ _, trivial⟩, TVLe.refl (.agg (iT ps pr)), trivial⟩, ?_⟩
      cbv
      refine ⟨_, hS.call (c5), ?_⟩
      cbv
      refine ⟨_, hS.call (c6), ?_⟩
      cbv
      refine ⟨fun h => ?_, fun h => ?_⟩
      all_goals rw [a3] at h
      · obtain ⟨y1, y2⟩ := hy (of_decide_eq_true h)
        exact again (s' := rrtSt r false ns nr I') (m := k - 1) (by simp [leT, rrtSt, mkSt, vi, i1']) (by simp [leH, rrtSt, mkSt]) rfl (by show 2 ≤ 7; omega) hlt ⟨I', _, false, ns, nr, hI', hkb', y1, y2, rfl⟩
      · have y1 := hn (of_decide_eq_false h)
        exact again (s' := rrtSt r cc us ur I') (m := k - 1) (by simp [leT, rrtSt, mkSt, vi, i1']) (by simp [leH, rrtSt, mkSt]) rfl (by show 2 ≤ 7; omega) hlt ⟨I', o, cc, us, ur, hI', hkb', y1, io, rfl⟩
    · rw [decide_eq_false hk] at l1
      obtain rfl : k = 0 := by omega
      obtain ⟨rfl, rfl⟩ := hend o us ur hro io
      clear hstep A1 A2 A3 hro hI hkb hB hK hend hst h0 hx hr
      subst hs1
      cbv
      refine bF l1 ?_
      exact fin2w hF ⟨.v _, TLe.drop _ _, trivial⟩ (TVLe.refl _)
end Go.Proofs.Ytgncmjcoojmccaa
end

section
set_option linter.unusedVariables false
set_option linter.unusedSimpArgs false
set_option maxHeartbeats 8000000
set_option linter.unusedVariables false
set_option linter.unusedSimpArgs false
set_option maxRecDepth 100000
namespace Go.Proofs.Ytgncmjcoojmccaa
open Go Go.Abs Go.Abs.M Go.Proofs

def itrimSt (r : Abs.Rows) (n : Int) : St := mkSt 21 [vl r, .junk, vnil, vi .i64 n] [none]
theorem itrim_call {r : Abs.Rows} {l : List Int} (hr : r = W .u32 l) (hl : l.length ≤ 2199023255552) (hw : Wd l) : ACall Try.prog 74 [.val (.c (.lst false r))] ⟨[.val (.c (.lst false (W .u32 (dg (val l).toNat))))], [none]⟩ := by
  refine callZ ccOk mixed [.val] Try.func74 rfl rfl (by kernel_rfl) fun zwrap zadd zsub zmul zquo zrem zshl zshr zband zbor zbxor zbandn zeq zne zlt zle znot zbeq zbne zmax zmin znat zinb zofN zidx zneq znadd zdif zcut zroom zmkok zlen znth zsetr zisI zgetI zsetI zfit zpart zext zsetg zrep zwide zall zmok zmget zmset zW zth A L F hS hF => ?_
  have hlen : zlen r = l.length := by rw [hS.len, hr, W_len]
  cbv
  refine loopZ ccOk mixed hS (fun m s => ∃ n : Nat, n = m ∧ n ≤ l.length ∧ val (l.take n) = val l ∧ s = itrimSt r (zofN n)) (n := l.length) (s0 := itrimSt r (zofN l.length)) (le_of ?_ ?_) rfl (Nat.le_refl 1) ?_ ?_
  · simp [leT, itrimSt, mkSt, vnil, vi, vl, hlen]
  · simp [leH, itrimSt, mkSt]
  · exact ⟨_, rfl, Nat.le_refl _, by rw [List.take_length], rfl⟩
  · rintro m _ ⟨n, rfl, hn, hv, rfl⟩
    have hp : 0 < n → zwrap .i64 (zsub (zofN n) 1) = zofN (n - 1) := fun h => by rw [hS.wrap, hS.sub, hS.ofN, hS.ofN, wrap_i64 (by omega) (by omega)]; omega
    have hg : 0 < n → zgetI r (znat (zofN (n - 1))) = l.getD (n - 1) 0 := fun h => by rw [hS.getI, hS.nat, hS.ofN, hr, W_getI, Int.toNat_natCast]
    have hc : zcut 0 (zofN n) (zlen r) = true := by rw [hS.cut, hlen, hS.ofN]; exact decide_eq_true (by omega)
    have hwd : zwide 1 r = true := by rw [hS.wide, hr]; exact W_wide _ _
    have hF' : n = 0 ∨ l.getD (n - 1) 0 ≠ 0 → F ⟨[.val (.c (.lst false (zpart r 0 (znat (zofN n)))))], [none]⟩ := fun h => fin1 hF (by
      rw [hS.part, hS.nat, hS.ofN, hr, W_part, Int.toNat_natCast, List.drop_zero, trim_dg hw hn hv h])
    cbv
    refine ⟨fun h => ?_, fun h => nd hc (nd hwd (hF' ?_))⟩
    all_goals rw [hS.lt, hS.ofN] at h
    · have h : 0 < n := by simpa using h
      rw [hp h, hg h]
      refine nd (by rw [hS.le, hS.ofN]; exact decide_eq_true (by omega)) (nd (by rw [hS.isI, hS.nat, hS.ofN, hr, W_isI]; exact decide_eq_true (by omega)) ⟨fun h2 => ?_, fun h2 => nd hc (nd hwd (hF' (.inr ?_)))⟩)
      all_goals rw [hS.eq] at h2
      · refine again (s' := itrimSt r (zofN (n - 1))) (m := n - 1) (by simp [leT, itrimSt, mkSt, vnil, vi, vl]) (by simp [leH, itrimSt, mkSt]) rfl (Nat.le_refl 1) (by omega) ⟨_, rfl, by omega, ?_, rfl⟩
        have := val_take_succ (l := l) (k := n - 1) (by omega)
        rw [show n - 1 + 1 = n by omega, of_decide_eq_true h2] at this
        omega
      · exact of_decide_eq_false h2
    · exact .inl (by simpa using h)

theorem iwords_call (n : Int) (hn : 0 ≤ n) (hn2 : n < 18446744073709551616) : ACall Try.prog 68 [.val (ti .u64 n)] ⟨[.val (tl (W .u32 (dg n.toNat)))], [none]⟩ := by
  refine callZ ccOk mixed [.val] Try.func68 rfl rfl (by kernel_rfl) fun zwrap zadd zsub zmul zquo zrem zshl zshr zband zbor zbxor zbandn zeq zne zlt zle znot zbeq zbne zmax zmin znat zinb zofN zidx zneq znadd zdif zcut zroom zmkok zlen znth zsetr zisI zgetI zsetI zfit zpart zext zsetg zrep zwide zall zmok zmget zmset zW zth A L F hS hF => ?_
  have e1 : zwrap .u32 n = n % 4294967296 := by rw [hS.wrap]; exact wrap_u32m _
  have e2 : zwrap .u32 (zshr .u64 n 32) = n / 4294967296 := by
    rw [show zshr .u64 n 32 = ZI.std.shr .u64 n 32 from hS.shr .., shr32 hn, hS.wrap]; exact wrap_u32 (by omega) (by omega)
  have hT := itrim_call (r := W .u32 [n % 4294967296, n / 4294967296]) rfl (by simp) (Wd.cons (by omega) (by omega) (Wd.cons (by omega) (by omega) Wd.nil))
  cbv
  rw [e1, e2]
  refine nd (by rw [hS.fit]; rfl) ?_
  rw [hS.part]
  refine ⟨_, hS.call hT, ?_⟩
  rw [show val [n % 4294967296, n / 4294967296] = n by simp only [val]; omega]
  generalize W .u32 (dg n.toNat) = x at *
  cbv
  exact hF _ (ResLe.refl _)

theorem isigned_call {r : Abs.Rows} {l : List Int} (s t : Bool) (hr : r = W .u32 l) (hl : l.length ≤ 2199023255552) (hw : Wd l) (ht : t = (s && decide (0 < val l))) : ACall Try.prog 67 [.val (tb s), .val (tl r)] ⟨[.val (.agg (iT t (W .u32 (dg (val l).toNat))))], [none, none]⟩ := by
  refine callZ ccOk mixed [.val] Try.func67 rfl rfl (by kernel_rfl) fun zwrap zadd zsub zmul zquo zrem zshl zshr zband zbor zbxor zbandn zeq zne zlt zle znot zbeq zbne zmax zmin znat zinb zofN zidx zneq znadd zdif zcut zroom zmkok zlen znth zsetr zisI zgetI zsetI zfit zpart zext zsetg zrep zwide zall zmok zmget zmset zW zth A L F hS hF => ?_
  have hT := itrim_call hr hl hw
  have hz : zeq (zofN (zlen (W .u32 (dg (val l).toNat)))) 0 = decide (¬ 0 < val l) := by
    rw [hS.eq, hS.ofN, hS.len, W_len]
    have := val_nonneg hw
    have h2 := @nl_zero (val l).toNat
    unfold nl at h2
    by_cases h : 0 < val l
    · rw [decide_eq_false (show ¬ ¬ 0 < val l by omega)]; exact decide_eq_false (by omega)
    · rw [decide_eq_true h]; exact decide_eq_true (by omega)
  have h0 : ¬ 0 < val l → W .u32 (dg (val l).toNat) = [] := fun h => by rw [show (val l).toNat = 0 by omega]; rfl
  generalize W .u32 (dg (val l).toNat) = x at *
  cbv
  refine ⟨_, hS.call hT, ?_⟩
  cbv
  rw [hz]
  refine ⟨fun h => fin1w hF ?_, fun h => fin1w hF ?_⟩
  · have h' := of_decide_eq_true h
    rw [ht, decide_eq_false h', Bool.and_false, h0 h']
    exact ⟨.v _, TLe.drop _ _, trivial⟩
  · have h' := of_decide_eq_false h
    rw [ht, decide_eq_true (by omega), Bool.and_true]
    exact TVLe.refl _

theorem isignedM {n : Nat} {r : Abs.Rows} (s t : Bool) (hr : IsM n r) (hl : nl n ≤ 2199023255552) (ht : t = (s && decide (n ≠ 0))) : ACall Try.prog 67 [.val (tb s), .val (tl r)] ⟨[.val (.agg (iT t r))], [none, none]⟩ := by
  have h := isigned_call s t hr hl (dg_wd n) (by
    rw [dg_val, ht]
    by_cases h : n = 0
    · subst h; rfl
    · rw [decide_eq_true h, decide_eq_true (by omega)])
  rw [dg_val, Int.toNat_natCast, ← hr] at h
  exact h

theorem iclone_call {r : Abs.Rows} {l : List Int} (hr : r = W .u32 l) (hl : l.length ≤ 2199023255552) : ACall Try.prog 76 [.val (tl r)] ⟨[.val (tl r)], [none]⟩ := by
  refine callZ ccOk mixed [.val] Try.func76 rfl rfl (by kernel_rfl) fun zwrap zadd zsub zmul zquo zrem zshl zshr zband zbor zbxor zbandn zeq zne zlt zle znot zbeq zbne zmax zmin znat zinb zofN zidx zneq znadd zdif zcut zroom zmkok zlen znth zsetr zisI zgetI zsetI zfit zpart zext zsetg zrep zwide zall zmok zmget zmset zW zth A L F hS hF => ?_
  have h1 : zlen r = l.length := by rw [hS.len, hr, W_len]
  have h2 : zneq (zlen r) 0 = decide (l.length = 0) := by rw [hS.neq, h1]
  have h3 : zext [] 0 r = r := by rw [hS.ext]; rfl
  have h4 : znadd (zlen []) (zlen r) = l.length := by rw [hS.nadd, h1, hS.len]; exact Nat.zero_add _
  have h5 : zpart r 0 l.length = r := by rw [hS.part, hr, W_part, List.drop_zero, List.take_length]
  have hwd : zwide 1 r = true := by rw [hS.wide, hr]; exact W_wide _ _
  cbv
  refine ⟨fun h => fin1w hF ?_, fun h => nd ?_ (nd hwd (nd (by rw [hS.wide]; rfl) (nd ?_ ?_)))⟩
  · rw [h2] at h
    have h0 := of_decide_eq_true h
    have : l = [] := List.length_eq_zero_iff.1 h0
    rw [hr, this]
    exact TLe.drop _ _
  · rw [h, hS.not]; rfl
  · rw [hS.room, h1, hS.len]; exact decide_eq_true (by unfold capBytes; simp; omega)
  · rw [h3, h4]
    refine nd (by rw [hS.fit, hr, W_len]; exact decide_eq_true (by omega)) ?_
    rw [h5]
    exact hF _ (ResLe.refl _)

def icmpSt (r s : Abs.Rows) (i : Int) : St := mkSt 41 [vl r, vl s, .junk, .junk, vi .i64 0, vi .i64 i] [none, none]
theorem icompare_call {r s : Abs.Rows} {l m : List Int} (c : Int) (hr : r = W .u32 l) (hs : s = W .u32 m) (hl : l.length ≤ 2199023255552) (hm : m.length ≤ 2199023255552) (hlw : Wd l) (hmw : Wd m) (hlt : Tr l) (hmt : Tr m) (hc : c = cmpI (val l) (val m)) :
    ACall Try.prog 70 [.val (tl r), .val (tl s)] ⟨[.val (ti .i64 c)], [none, none]⟩ := by
  refine callZ ccOk mixed [.val] Try.func70 rfl rfl (by kernel_rfl) fun zwrap zadd zsub zmul zquo zrem zshl zshr zband zbor zbxor zbandn zeq zne zlt zle znot zbeq zbne zmax zmin znat zinb zofN zidx zneq znadd zdif zcut zroom zmkok zlen znth zsetr zisI zgetI zsetI zfit zpart zext zsetg zrep zwide zall zmok zmget zmset zW zth A L F hS hF => ?_
  have h1 : zlen r = l.length := by rw [hS.len, hr, W_len]
  have h2 : zlen s = m.length := by rw [hS.len, hs, W_len]
  cbv
  rw [h1, h2]
  refine ⟨fun h => ⟨fun h' => ?_, fun h' => ?_⟩, fun h => ?_⟩
  all_goals rw [hS.ne, hS.ofN, hS.ofN] at h
  · rw [hS.lt, hS.ofN, hS.ofN] at h'
    have h' : (l.length : Int) < m.length := of_decide_eq_true h'
    exact fin1 hF (tv_int (by rw [hc, cmpI_lt (val_lt_of_len hlw hmw hmt (by omega))]))
  · rw [hS.lt, hS.ofN, hS.ofN] at h'
    have h' := of_decide_eq_false h'
    have h := of_decide_eq_true h
    exact fin1 hF (tv_int (by rw [hc, cmpI_gt (val_lt_of_len hmw hlw hlt (by omega))]))
  · have h := of_decide_eq_false h
    have hlen : l.length = m.length := by omega
    have hi0 : zwrap .i64 (zsub (zofN l.length) 1) = zsub (zofN l.length) 1 := by rw [hS.wrap, hS.sub, hS.ofN]; exact wrap_i64 (by omega) (by omega)
    rw [hi0]
    refine loopZ ccOk mixed hS (fun (k : Nat) s' => k ≤ l.length ∧ l.drop k = m.drop k ∧ s' = icmpSt r s (zsub (zofN k) 1)) (n := l.length) (s0 := icmpSt r s (zsub (zofN l.length) 1)) (le_of ?_ ?_) rfl (Nat.le_refl 2) ?_ ?_
    · simp [leT, icmpSt, mkSt, vi, vl]
    · simp [leH, icmpSt, mkSt]
    · refine ⟨Nat.le_refl _, ?_, rfl⟩
      rw [List.drop_length, hlen, List.drop_length]
    · rintro k _ ⟨hk, he, rfl⟩
      have hi : zsub (zofN k) 1 = (k : Int) - 1 := by rw [hS.sub, hS.ofN]
      have hz : zle 0 (zsub (zofN k) 1) = decide (1 ≤ k) := by
        rw [hS.le, hi]
        by_cases h : 1 ≤ k
        · rw [decide_eq_true h]; exact decide_eq_true (by omega)
        · rw [decide_eq_false h]; exact decide_eq_false (by omega)
      have hnt : 1 ≤ k → znat (zsub (zofN k) 1) = k - 1 := fun h => by rw [hS.nat, hi]; omega
      have g1 : 1 ≤ k → zgetI r (znat (zsub (zofN k) 1)) = l.getD (k - 1) 0 := fun h => by rw [hnt h, hS.getI, hr, W_getI]
      have g2 : 1 ≤ k → zgetI s (znat (zsub (zofN k) 1)) = m.getD (k - 1) 0 := fun h => by rw [hnt h, hS.getI, hs, W_getI]
      have hF0 : ∀ x : Int, x = c → F ⟨[.val (.c (.v (.int .i64 x)))], [none, none]⟩ := fun x hx => fin1 hF (tv_int hx)
      have hn2 : 1 ≤ k → zisI .u32 r (znat (zsub (zofN k) 1)) = true := fun h => by rw [hnt h, hS.isI, hr, W_isI]; exact decide_eq_true (by omega)
      have hn3 : 1 ≤ k → zisI .u32 s (znat (zsub (zofN k) 1)) = true := fun h => by rw [hnt h, hS.isI, hs, W_isI]; exact decide_eq_true (by omega)
      have hw1 : 1 ≤ k → zwrap .i64 (zsub (zsub (zofN k) 1) 1) = zsub (zofN (k - 1)) 1 := fun h => by rw [hi, hS.wrap, hS.sub, hS.sub, hS.ofN, wrap_i64 (by omega) (by omega)]; omega
      cbv
      refine ⟨fun h => ?_, fun h => hF0 _ ?_⟩
      · have a1 := h
        rw [hz] at h
        have h := of_decide_eq_true h
        have a2 := hn2 h
        have a3 := hn3 h
        rw [hw1 h, g1 h, g2 h]
        refine nd a1 (nd a2 (nd a1 (nd a3 ⟨fun h3 => nd a1 (nd a2 (nd a1 (nd a3 ⟨fun h4 => hF0 _ ?_, fun h4 => hF0 _ ?_⟩))), fun h3 => ?_⟩)))
        all_goals rw [hS.ne] at h3
        · rw [hS.lt] at h4
          rw [hc, cmpI_lt (val_lt_of_word (i := k - 1) hlw hmw hlen (by omega) (by rw [show k - 1 + 1 = k by omega]; exact he) (of_decide_eq_true h4))]
        · rw [hS.lt] at h4
          have e3 := of_decide_eq_true h3
          have e4 := of_decide_eq_false h4
          rw [hc, cmpI_gt (val_lt_of_word (i := k - 1) hmw hlw hlen.symm (by omega) (by rw [show k - 1 + 1 = k by omega]; exact he.symm) (by omega))]
        · refine again (s' := icmpSt r s (zsub (zofN (k - 1)) 1)) (m := k - 1) (by simp [leT, icmpSt, mkSt, vi, vl]) (by simp [leH, icmpSt, mkSt]) rfl (Nat.le_refl 2) (by omega) ⟨by omega, ?_, rfl⟩
          have e3 := of_decide_eq_false h3
          rw [drop_getD (show k - 1 < l.length by omega), drop_getD (show k - 1 < m.length by omega), show k - 1 + 1 = k by omega, he, show l.getD (k - 1) 0 = m.getD (k - 1) 0 by omega]
      · rw [hz] at h
        have h := of_decide_eq_false h
        obtain rfl : k = 0 := by omega
        simp only [List.drop_zero] at he
        rw [hc, he, cmpI_eq]
end Go.Proofs.Ytgncmjcoojmccaa
end

section
set_option linter.unusedVariables false
set_option linter.unusedSimpArgs false
set_option maxHeartbeats 8000000
set_option linter.unusedVariables false
set_option linter.unusedSimpArgs false
set_option maxRecDepth 100000
namespace Go.Proofs.Ytgncmjcoojmccaa
open Go Go.Abs Go.Abs.M Go.Proofs

theorem getD_out {l : List Int} {k : Nat} (h : ¬ k < l.length) : l.getD k 0 = 0 := by
  rw [List.getD_eq_getElem?_getD, List.getElem?_eq_none (by omega)]; rfl

def isumSt (r s R : Abs.Rows) (n : Nat) (c len i : Int) : St := mkSt 59 [vl r, vl s, .junk, .junk, vnil, .c (.sl 2 0 n false), vi .u64 c, .junk, .junk, .junk, .junk, .junk, .junk, .junk, .junk, .junk, .junk, .junk, .junk, .junk, .junk, vi .i64 len, vi .i64 i] [none, none, some (.rows 1 R true false)]


theorem isum_call {r s : Abs.Rows} {l m : List Int} (hr : r = W .u32 l) (hs : s = W .u32 m) (hl : l.length ≤ 1099511627776) (hm : m.length ≤ 1099511627776) (hlw : Wd l) (hmw : Wd m) :
    ACall Try.prog 69 [.val (tl r), .val (tl s)] ⟨[.val (tl (W .u32 (dg (val l + val m).toNat)))], [none, none]⟩ := by
  rcases Nat.lt_or_ge l.length m.length with hlm | hlm
  · obtain ⟨N, hN⟩ : ∃ N : Nat, N = m.length := ⟨_, rfl⟩
    refine callZ ccOk mixed [.val] Try.func69 rfl rfl (by kernel_rfl) fun zwrap zadd zsub zmul zquo zrem zshl zshr zband zbor zbxor zbandn zeq zne zlt zle znot zbeq zbne zmax zmin znat zinb zofN zidx zneq znadd zdif zcut zroom zmkok zlen znth zsetr zisI zgetI zsetI zfit zpart zext zsetg zrep zwide zall zmok zmget zmset zW zth A L F hS hF => ?_
    have h1 : zlen s = N := by rw [hS.len, hs, W_len, hN]
    have h2 : zlen r = l.length := by rw [hS.len, hr, W_len]
    have hn1 : zwrap .i64 (zadd (zofN (zlen s)) 1) = ((N + 1 : Nat) : Int) := by rw [h1, hS.ofN, hS.add, hS.wrap, wrap_i64 (by omega) (by omega)]; omega
    have hnn : znat ((N + 1 : Nat) : Int) = N + 1 := by rw [hS.nat]; omega
    obtain ⟨n, hn⟩ : ∃ n : Nat, n = N + 1 := ⟨_, rfl⟩
    rw [← hn] at hn1 hnn
    have hrep : zrep n [.v (.int .u32 0)] = zW .u32 (List.replicate n 0) := by rw [hS.rep, hS.W]; exact W_rep ..
    have hbr := zlt_nat hS.lt hS.ofN
    cbv
    refine bT (by simp only [hS.len, hr, hs, W_len, hbr]; first | exact decide_eq_true (by omega) | exact decide_eq_false (by omega)) ?_
    rw [hn1, hnn, hrep]
    have hcap : (n : Int) * 4 ≤ 70368744177664 := by omega
    refine nd (by rw [hS.mkok]; exact decide_eq_true ⟨Int.natCast_nonneg n, Int.le_refl _, by unfold capBytes; omega⟩) ?_
    refine loopZ ccOk mixed hS (fun (j : Nat) s' => ∃ (k : Nat) (o : List Int) (c : Int), k + j = N ∧ o.length = n ∧ Wd o ∧ (0 ≤ c ∧ c ≤ 1) ∧ val (o.take k) + c * 4294967296 ^ k = val (m.take k) + val (l.take k) ∧ s' = isumSt s r (zW .u32 o) n c (zofN N) (zofN k)) (n := N)
      (s0 := isumSt s r (zW .u32 (List.replicate n 0)) n 0 (zofN N) (zofN 0)) (le_of ?_ ?_) rfl (Nat.le_succ 2) ?_ ?_
    · simp [leT, isumSt, mkSt, vi, vl, vnil, hS.ofN, h1]
    · simp [leH, isumSt, mkSt]
    · exact ⟨0, _, 0, by omega, by simp, Wd.rep _, by omega, by simp [val], rfl⟩
    · rintro j _ ⟨k, o, c, hk, ho, hw, hc, hv, rfl⟩
      have ga := hmw.get k
      have gb := hlw.get k
      obtain ⟨t, ht⟩ : ∃ t, t = m.getD k 0 + l.getD k 0 + c := ⟨_, rfl⟩
      have hst := add_step hv ht
      have e1 : zgetI s (znat (zofN k)) = m.getD k 0 := by rw [hS.getI, hS.nat, hS.ofN, hs, W_getI, Int.toNat_natCast]
      have e2 : zgetI r (znat (zofN k)) = l.getD k 0 := by rw [hS.getI, hS.nat, hS.ofN, hr, W_getI, Int.toNat_natCast]
      have hout := fun h => getD_out (l := l) (k := k) h
      have t1 : zwrap .u64 (zadd (zwrap .u64 (zadd (zwrap .u64 (m.getD k 0)) c)) (zwrap .u64 (l.getD k 0))) = t := by
        rw [hS.wrap, hS.wrap, hS.wrap, hS.wrap, hS.add, hS.add, wrap_u64 (x := m.getD k 0) (by omega) (by omega), wrap_u64 (x := l.getD k 0) (by omega) (by omega), wrap_u64 (x := m.getD k 0 + c) (by omega) (by omega), wrap_u64 (by omega) (by omega), ht]; omega
      have t2 : ¬ k < l.length → zwrap .u64 (zadd (zwrap .u64 (m.getD k 0)) c) = t := fun h => by
        rw [hS.wrap, hS.wrap, hS.add, wrap_u64 (x := m.getD k 0) (by omega) (by omega), wrap_u64 (by omega) (by omega), ht, hout h]; omega
      have t3 : zwrap .u32 t = t % 4294967296 := by rw [hS.wrap]; exact wrap_u32m _
      have t4 : zshr .u64 t 32 = t / 4294967296 := by rw [show zshr .u64 t 32 = ZI.std.shr .u64 t 32 from hS.shr ..]; exact shr32 (by omega)
      have e4 : k < N → zwrap .i64 (zadd (zofN k) 1) = zofN (k + 1) := fun h => by rw [hS.wrap, hS.add, hS.ofN, hS.ofN, wrap_i64 (by omega) (by omega)]; omega
      have e5 : zidx 0 (zofN k) = k := by rw [hS.idx, hS.ofN]; omega
      have e5' : zidx 0 (zofN (zlen s)) = N := by rw [hS.idx, hS.ofN, h1]; omega
      have e6 := hbr k N
      have e6' := hbr k l.length
      have e7 : ∀ i x, zsetI .u32 (zW .u32 o) i x = zW .u32 (o.set i x) := fun i x => by rw [hS.setI, hS.W, W_set]
      have e8 : k < N → zinb (zofN k) n = true := fun h => by rw [hS.inb, hS.ofN]; exact decide_eq_true (by omega)
      have e8' : zinb (zofN (zlen s)) n = true := by rw [hS.inb, hS.ofN, h1]; exact decide_eq_true (by omega)
      have e9 : ∀ i, i < n → zisI .u32 (zW .u32 o) i = true := fun i h => by rw [hS.isI, hS.W, W_isI]; exact decide_eq_true (by omega)
      have e12 : k < N → zisI .u32 s (znat (zofN k)) = true := fun h => by rw [hS.isI, hs, hS.nat, hS.ofN, W_isI]; exact decide_eq_true (by omega)
      have e13 : k < l.length → zisI .u32 r (znat (zofN k)) = true := fun h => by rw [hS.isI, hr, hS.nat, hS.ofN, W_isI]; exact decide_eq_true (by omega)
      have e14 : zle 0 (zofN k) = true := by rw [hS.le, hS.ofN]; exact decide_eq_true (by omega)
      have e15 : zwrap .u32 c = c := by rw [hS.wrap]; exact wrap_u32 (by omega) (by omega)
      have e10 : zfit 0 n (zW .u32 (o.set N c)) = true := by rw [hS.fit, hS.W, W_len]; exact decide_eq_true (by simp; omega)
      have e11 : zpart (zW .u32 (o.set N c)) 0 n = W .u32 (o.set N c) := by rw [hS.part, hS.W, W_part, List.drop_zero, List.take_of_length_le (by simp; omega)]
      have hT := itrim_call (r := W .u32 (o.set N c)) rfl (by simp; omega) (hw.set N (x := c) (by omega) (by omega))
      have hend : k = N → val (o.set N c) = val m + val l := fun h => by
        have a1 := val_take_set (l := o) (k := N) c (by omega)
        rw [List.take_of_length_le (by simp; omega)] at a1
        subst h
        rw [List.take_of_length_le (l := m) (by omega), List.take_of_length_le (l := l) (by omega)] at hv
        rw [a1, Int.mul_comm _ c]; exact hv
      have hset : k < N → val ((o.set k (t % 4294967296)).take (k + 1)) = val (o.take k) + 4294967296 ^ k * (t % 4294967296) := fun h => val_take_set _ (by omega)
      have hnext : k < N → ∃ k' o' c', k' + (j - 1) = N ∧ o'.length = n ∧ Wd o' ∧ (0 ≤ c' ∧ c' ≤ 1) ∧ val (o'.take k') + c' * 4294967296 ^ k' = val (m.take k') + val (l.take k') ∧ isumSt s r (zW .u32 (o.set k (t % 4294967296))) n (t / 4294967296) (zofN N) (zofN (k + 1)) = isumSt s r (zW .u32 o') n c' (zofN N) (zofN k') := fun h => by
        refine ⟨k + 1, _, _, by omega, by simpa using ho, hw.set _ (by omega) (by omega), by omega, ?_, rfl⟩
        rw [hset h, val_take_succ' m, val_take_succ' l, Int.pow_succ]
        exact hst
      have hjk : k < N → j - 1 < j := fun h => by omega
      generalize m.getD k 0 = a at *
      generalize l.getD k 0 = b at *
      clear hset hst hv ga gb
      cbv
      refine ⟨fun h => ?_, fun h => ?_⟩
      all_goals rw [e6] at h
      · have h := of_decide_eq_true h
        refine nd e14 (nd (e12 h) ⟨fun h' => nd e14 (nd (e13 (by rw [h2, e6'] at h'; exact of_decide_eq_true h')) (nd (e8 h) ?_)), fun h' => nd (e8 h) ?_⟩)
        · rw [e1, e2, t1, t3, t4, e4 h, e5, e7]
          exact nd (e9 k (by omega)) (again (s' := isumSt s r (zW .u32 (o.set k (t % 4294967296))) n (t / 4294967296) (zofN N) (zofN (k + 1))) (m := j - 1) (by simp [leT, isumSt, mkSt, vi, vl, vnil]) (by simp [leH, isumSt, mkSt]) rfl (Nat.le_succ 2) (hjk h) (hnext h))
        · rw [h2, e6'] at h'
          rw [e1, t2 (of_decide_eq_false h'), t3, t4, e4 h, e5, e7]
          exact nd (e9 k (by omega)) (again (s' := isumSt s r (zW .u32 (o.set k (t % 4294967296))) n (t / 4294967296) (zofN N) (zofN (k + 1))) (m := j - 1) (by simp [leT, isumSt, mkSt, vi, vl, vnil]) (by simp [leH, isumSt, mkSt]) rfl (Nat.le_succ 2) (hjk h) (hnext h))
      · have h := of_decide_eq_false h
        refine nd e8' ?_
        rw [e5', e15, e7]
        refine nd (e9 N (by omega)) ?_
        rw [e11]
        refine nd e10 ⟨_, hS.call hT, ?_⟩
        rw [hend (by omega)]
        generalize hx : W .u32 (dg (val m + val l).toNat) = x at *
        cbv
        first | exact hF _ (ResLe.refl _) | (subst hx; exact fin1 hF (by rw [Int.add_comm]; rfl))
  · obtain ⟨N, hN⟩ : ∃ N : Nat, N = l.length := ⟨_, rfl⟩
    refine callZ ccOk mixed [.val] Try.func69 rfl rfl (by kernel_rfl) fun zwrap zadd zsub zmul zquo zrem zshl zshr zband zbor zbxor zbandn zeq zne zlt zle znot zbeq zbne zmax zmin znat zinb zofN zidx zneq znadd zdif zcut zroom zmkok zlen znth zsetr zisI zgetI zsetI zfit zpart zext zsetg zrep zwide zall zmok zmget zmset zW zth A L F hS hF => ?_
    have h1 : zlen r = N := by rw [hS.len, hr, W_len, hN]
    have h2 : zlen s = m.length := by rw [hS.len, hs, W_len]
    have hn1 : zwrap .i64 (zadd (zofN (zlen r)) 1) = ((N + 1 : Nat) : Int) := by rw [h1, hS.ofN, hS.add, hS.wrap, wrap_i64 (by omega) (by omega)]; omega
    have hnn : znat ((N + 1 : Nat) : Int) = N + 1 := by rw [hS.nat]; omega
    obtain ⟨n, hn⟩ : ∃ n : Nat, n = N + 1 := ⟨_, rfl⟩
    rw [← hn] at hn1 hnn
    have hrep : zrep n [.v (.int .u32 0)] = zW .u32 (List.replicate n 0) := by rw [hS.rep, hS.W]; exact W_rep ..
    have hbr := zlt_nat hS.lt hS.ofN
    cbv
    refine bF (by simp only [hS.len, hr, hs, W_len, hbr]; first | exact decide_eq_true (by omega) | exact decide_eq_false (by omega)) ?_
    rw [hn1, hnn, hrep]
    have hcap : (n : Int) * 4 ≤ 70368744177664 := by omega
    refine nd (by rw [hS.mkok]; exact decide_eq_true ⟨Int.natCast_nonneg n, Int.le_refl _, by unfold capBytes; omega⟩) ?_
    refine loopZ ccOk mixed hS (fun (j : Nat) s' => ∃ (k : Nat) (o : List Int) (c : Int), k + j = N ∧ o.length = n ∧ Wd o ∧ (0 ≤ c ∧ c ≤ 1) ∧ val (o.take k) + c * 4294967296 ^ k = val (l.take k) + val (m.take k) ∧ s' = isumSt r s (zW .u32 o) n c (zofN N) (zofN k)) (n := N)
      (s0 := isumSt r s (zW .u32 (List.replicate n 0)) n 0 (zofN N) (zofN 0)) (le_of ?_ ?_) rfl (Nat.le_succ 2) ?_ ?_
    · simp [leT, isumSt, mkSt, vi, vl, vnil, hS.ofN, h1]
    · simp [leH, isumSt, mkSt]
    · exact ⟨0, _, 0, by omega, by simp, Wd.rep _, by omega, by simp [val], rfl⟩
    · rintro j _ ⟨k, o, c, hk, ho, hw, hc, hv, rfl⟩
      have ga := hlw.get k
      have gb := hmw.get k
      obtain ⟨t, ht⟩ : ∃ t, t = l.getD k 0 + m.getD k 0 + c := ⟨_, rfl⟩
      have hst := add_step hv ht
      have e1 : zgetI r (znat (zofN k)) = l.getD k 0 := by rw [hS.getI, hS.nat, hS.ofN, hr, W_getI, Int.toNat_natCast]
      have e2 : zgetI s (znat (zofN k)) = m.getD k 0 := by rw [hS.getI, hS.nat, hS.ofN, hs, W_getI, Int.toNat_natCast]
      have hout := fun h => getD_out (l := m) (k := k) h
      have t1 : zwrap .u64 (zadd (zwrap .u64 (zadd (zwrap .u64 (l.getD k 0)) c)) (zwrap .u64 (m.getD k 0))) = t := by
        rw [hS.wrap, hS.wrap, hS.wrap, hS.wrap, hS.add, hS.add, wrap_u64 (x := l.getD k 0) (by omega) (by omega), wrap_u64 (x := m.getD k 0) (by omega) (by omega), wrap_u64 (x := l.getD k 0 + c) (by omega) (by omega), wrap_u64 (by omega) (by omega), ht]; omega
      have t2 : ¬ k < m.length → zwrap .u64 (zadd (zwrap .u64 (l.getD k 0)) c) = t := fun h => by
        rw [hS.wrap, hS.wrap, hS.add, wrap_u64 (x := l.getD k 0) (by omega) (by omega), wrap_u64 (by omega) (by omega), ht, hout h]; omega
      have t3 : zwrap .u32 t = t % 4294967296 := by rw [hS.wrap]; exact wrap_u32m _
      have t4 : zshr .u64 t 32 = t / 4294967296 := by rw [show zshr .u64 t 32 = ZI.std.shr .u64 t 32 from hS.shr ..]; exact shr32 (by omega)
      have e4 : k < N → zwrap .i64 (zadd (zofN k) 1) = zofN (k + 1) := fun h => by rw [hS.wrap, hS.add, hS.ofN, hS.ofN, wrap_i64 (by omega) (by omega)]; omega
      have e5 : zidx 0 (zofN k) = k := by rw [hS.idx, hS.ofN]; omega
      have e5' : zidx 0 (zofN (zlen r)) = N := by rw [hS.idx, hS.ofN, h1]; omega
      have e6 := hbr k N
      have e6' := hbr k m.length
      have e7 : ∀ i x, zsetI .u32 (zW .u32 o) i x = zW .u32 (o.set i x) := fun i x => by rw [hS.setI, hS.W, W_set]
      have e8 : k < N → zinb (zofN k) n = true := fun h => by rw [hS.inb, hS.ofN]; exact decide_eq_true (by omega)
      have e8' : zinb (zofN (zlen r)) n = true := by rw [hS.inb, hS.ofN, h1]; exact decide_eq_true (by omega)
      have e9 : ∀ i, i < n → zisI .u32 (zW .u32 o) i = true := fun i h => by rw [hS.isI, hS.W, W_isI]; exact decide_eq_true (by omega)
      have e12 : k < N → zisI .u32 r (znat (zofN k)) = true := fun h => by rw [hS.isI, hr, hS.nat, hS.ofN, W_isI]; exact decide_eq_true (by omega)
      have e13 : k < m.length → zisI .u32 s (znat (zofN k)) = true := fun h => by rw [hS.isI, hs, hS.nat, hS.ofN, W_isI]; exact decide_eq_true (by omega)
      have e14 : zle 0 (zofN k) = true := by rw [hS.le, hS.ofN]; exact decide_eq_true (by omega)
      have e15 : zwrap .u32 c = c := by rw [hS.wrap]; exact wrap_u32 (by omega) (by omega)
      have e10 : zfit 0 n (zW .u32 (o.set N c)) = true := by rw [hS.fit, hS.W, W_len]; exact decide_eq_true (by simp; omega)
      have e11 : zpart (zW .u32 (o.set N c)) 0 n = W .u32 (o.set N c) := by rw [hS.part, hS.W, W_part, List.drop_zero, List.take_of_length_le (by simp; omega)]
      have hT := itrim_call (r := W .u32 (o.set N c)) rfl (by simp; omega) (hw.set N (x := c) (by omega) (by omega))
      have hend : k = N → val (o.set N c) = val l + val m := fun h => by
        have a1 := val_take_set (l := o) (k := N) c (by omega)
        rw [List.take_of_length_le (by simp; omega)] at a1
        subst h
        rw [List.take_of_length_le (l := l) (by omega), List.take_of_length_le (l := m) (by omega)] at hv
        rw [a1, Int.mul_comm _ c]; exact hv
      have hset : k < N → val ((o.set k (t % 4294967296)).take (k + 1)) = val (o.take k) + 4294967296 ^ k * (t % 4294967296) := fun h => val_take_set _ (by omega)
      have hnext : k < N → ∃ k' o' c', k' + (j - 1) = N ∧ o'.length = n ∧ Wd o' ∧ (0 ≤ c' ∧ c' ≤ 1) ∧ val (o'.take k') + c' * 4294967296 ^ k' = val (l.take k') + val (m.take k') ∧ isumSt r s (zW .u32 (o.set k (t % 4294967296))) n (t / 4294967296) (zofN N) (zofN (k + 1)) = isumSt r s (zW .u32 o') n c' (zofN N) (zofN k') := fun h => by
        refine ⟨k + 1, _, _, by omega, by simpa using ho, hw.set _ (by omega) (by omega), by omega, ?_, rfl⟩
        rw [hset h, val_take_succ' l, val_take_succ' m, Int.pow_succ]
        exact hst
      have hjk : k < N → j - 1 < j := fun h => by omega
      generalize l.getD k 0 = a at *
      generalize m.getD k 0 = b at *
      clear hset hst hv ga gb
      cbv
      refine ⟨fun h => ?_, fun h => ?_⟩
      all_goals rw [e6] at h
      · have h := of_decide_eq_true h
        refine nd e14 (nd (e12 h) ⟨fun h' => nd e14 (nd (e13 (by rw [h2, e6'] at h'; exact of_decide_eq_true h')) (nd (e8 h) ?_)), fun h' => nd (e8 h) ?_⟩)
        · rw [e1, e2, t1, t3, t4, e4 h, e5, e7]
          exact nd (e9 k (by omega)) (again (s' := isumSt r s (zW .u32 (o.set k (t % 4294967296))) n (t / 4294967296) (zofN N) (zofN (k + 1))) (m := j - 1) (by simp [leT, isumSt, mkSt, vi, vl, vnil]) (by simp [leH, isumSt, mkSt]) rfl (Nat.le_succ 2) (hjk h) (hnext h))
        · rw [h2, e6'] at h'
          rw [e1, t2 (of_decide_eq_false h'), t3, t4, e4 h, e5, e7]
          exact nd (e9 k (by omega)) (again (s' := isumSt r s (zW .u32 (o.set k (t % 4294967296))) n (t / 4294967296) (zofN N) (zofN (k + 1))) (m := j - 1) (by simp [leT, isumSt, mkSt, vi, vl, vnil]) (by simp [leH, isumSt, mkSt]) rfl (Nat.le_succ 2) (hjk h) (hnext h))
      · have h := of_decide_eq_false h
        refine nd e8' ?_
        rw [e5', e15, e7]
        refine nd (e9 N (by omega)) ?_
        rw [e11]
        refine nd e10 ⟨_, hS.call hT, ?_⟩
        rw [hend (by omega)]
        generalize hx : W .u32 (dg (val l + val m).toNat) = x at *
        cbv
        first | exact hF _ (ResLe.refl _) | (subst hx; exact fin1 hF (by rw [Int.add_comm]; rfl))

end Go.Proofs.Ytgncmjcoojmccaa
end

section
set_option linter.unusedVariables false
set_option linter.unusedSimpArgs false
set_option maxHeartbeats 8000000
set_option linter.unusedVariables false
set_option linter.unusedSimpArgs false
set_option maxRecDepth 100000
namespace Go.Proofs.Ytgncmjcoojmccaa
open Go Go.Abs Go.Abs.M Go.Proofs

theorem dif_word {a b c d : Int} (ha : 0 ≤ a ∧ a < 4294967296) (hb : 0 ≤ b ∧ b < 4294967296) (hc : 0 ≤ c ∧ c ≤ 1) (hd : d = ((a - c) % 18446744073709551616 - b) % 18446744073709551616) :
    d % 4294967296 = (4294967296 + a - b - c) % 4294967296 ∧ d / 9223372036854775808 = 1 - (4294967296 + a - b - c) / 4294967296 ∧ 0 ≤ d := by omega

def idifSt (r s R : Abs.Rows) (n : Nat) (c len i : Int) : St := mkSt 45 [vl r, vl s, .junk, .junk, vnil, .c (.sl 2 0 n false), vi .u64 c, .junk, .junk, .junk, .junk, .junk, .junk, vi .i64 len, vi .i64 i] [none, none, some (.rows 1 R true false)]

theorem idifference_call {r s : Abs.Rows} {l m : List Int} (hr : r = W .u32 l) (hs : s = W .u32 m) (hl : l.length ≤ 1099511627776) (hm : m.length ≤ l.length) (hlw : Wd l) (hmw : Wd m) (hge : val m ≤ val l) :
    ACall Try.prog 71 [.val (tl r), .val (tl s)] ⟨[.val (tl (W .u32 (dg (val l - val m).toNat)))], [none, none]⟩ := by
  obtain ⟨n, hn⟩ : ∃ n : Nat, n = l.length := ⟨_, rfl⟩
  refine callZ ccOk mixed [.val] Try.func71 rfl rfl (by kernel_rfl) fun zwrap zadd zsub zmul zquo zrem zshl zshr zband zbor zbxor zbandn zeq zne zlt zle znot zbeq zbne zmax zmin znat zinb zofN zidx zneq znadd zdif zcut zroom zmkok zlen znth zsetr zisI zgetI zsetI zfit zpart zext zsetg zrep zwide zall zmok zmget zmset zW zth A L F hS hF => ?_
  have h1 : zlen r = n := by rw [hS.len, hr, W_len, hn]
  have h2 : zlen s = m.length := by rw [hS.len, hs, W_len]
  have hnn : znat (zofN n) = n := by rw [hS.nat, hS.ofN]; omega
  have hrep : zrep n [.v (.int .u32 0)] = zW .u32 (List.replicate n 0) := by rw [hS.rep, hS.W]; exact W_rep ..
  have hcap : (n : Int) * 4 ≤ 70368744177664 := by omega
  cbv
  rw [h1, hnn, hrep]
  refine nd (by rw [hS.mkok, hS.ofN]; exact decide_eq_true ⟨Int.natCast_nonneg n, Int.le_refl _, by unfold capBytes; omega⟩) ?_
  refine loopZ ccOk mixed hS (fun (j : Nat) s' => ∃ (k : Nat) (o : List Int) (c : Int), k + j = n ∧ o.length = n ∧ Wd o ∧ (0 ≤ c ∧ c ≤ 1) ∧ val (o.take k) = val (l.take k) - val (m.take k) + c * 4294967296 ^ k ∧ s' = idifSt r s (zW .u32 o) n c (zofN n) (zofN k)) (n := n)
    (s0 := idifSt r s (zW .u32 (List.replicate n 0)) n 0 (zofN n) (zofN 0)) (le_of ?_ ?_) rfl (Nat.le_succ 2) ?_ ?_
  · simp [leT, idifSt, mkSt, vi, vl, vnil, hS.ofN]
  · simp [leH, idifSt, mkSt]
  · exact ⟨0, _, 0, by omega, by simp, Wd.rep _, by omega, by simp [val], rfl⟩
  · rintro j _ ⟨k, o, c, hk, ho, hw, hc, hv, rfl⟩
    have ga := hlw.get k
    have gb := hmw.get k
    obtain ⟨t, ht⟩ : ∃ t, t = 4294967296 + l.getD k 0 - m.getD k 0 - c := ⟨_, rfl⟩
    have hst := sub_step hv ht
    have hout := fun h => getD_out (l := m) (k := k) h
    obtain ⟨d, hd⟩ : ∃ d, d = ((l.getD k 0 - c) % 18446744073709551616 - m.getD k 0) % 18446744073709551616 := ⟨_, rfl⟩
    obtain ⟨d1, d2, d3⟩ := dif_word ga gb hc hd
    rw [← ht] at d1 d2
    have e1 : zgetI r (znat (zofN k)) = l.getD k 0 := by rw [hS.getI, hS.nat, hS.ofN, hr, W_getI, Int.toNat_natCast]
    have e2 : zgetI s (znat (zofN k)) = m.getD k 0 := by rw [hS.getI, hS.nat, hS.ofN, hs, W_getI, Int.toNat_natCast]
    have t1 : zwrap .u64 (zsub (zwrap .u64 (zsub (zwrap .u64 (l.getD k 0)) c)) (zwrap .u64 (m.getD k 0))) = d := by
      rw [hS.wrap, hS.wrap, hS.wrap, hS.wrap, hS.sub, hS.sub, wrap_u64 (x := l.getD k 0) (by omega) (by omega), wrap_u64 (x := m.getD k 0) (by omega) (by omega), wrap_u64m, wrap_u64m, hd]
    have t2 : ¬ k < m.length → zwrap .u64 (zsub (zwrap .u64 (l.getD k 0)) c) = d := fun h => by
      rw [hS.wrap, hS.wrap, hS.sub, wrap_u64 (x := l.getD k 0) (by omega) (by omega), wrap_u64m, hd, hout h]; omega
    have t3 : zwrap .u32 d = t % 4294967296 := by rw [hS.wrap, wrap_u32m]; exact d1
    have t4 : zshr .u64 d 63 = 1 - t / 4294967296 := by rw [show zshr .u64 d 63 = ZI.std.shr .u64 d 63 from hS.shr .., shr63 d3]; exact d2
    have e4 : k < n → zwrap .i64 (zadd (zofN k) 1) = zofN (k + 1) := fun h => by rw [hS.wrap, hS.add, hS.ofN, hS.ofN, wrap_i64 (by omega) (by omega)]; omega
    have e5 : zidx 0 (zofN k) = k := by rw [hS.idx, hS.ofN]; omega
    have e6 := zlt_nat hS.lt hS.ofN k n
    have e6' := zlt_nat hS.lt hS.ofN k m.length
    have e7 : ∀ x, zsetI .u32 (zW .u32 o) k x = zW .u32 (o.set k x) := fun x => by rw [hS.setI, hS.W, W_set]
    have e8 : k < n → zinb (zofN k) n = true := fun h => by rw [hS.inb, hS.ofN]; exact decide_eq_true (by omega)
    have e9 : k < n → zisI .u32 (zW .u32 o) k = true := fun h => by rw [hS.isI, hS.W, W_isI]; exact decide_eq_true (by omega)
    have e12 : k < n → zisI .u32 r (znat (zofN k)) = true := fun h => by rw [hS.isI, hr, hS.nat, hS.ofN, W_isI]; exact decide_eq_true (by omega)
    have e13 : k < m.length → zisI .u32 s (znat (zofN k)) = true := fun h => by rw [hS.isI, hs, hS.nat, hS.ofN, W_isI]; exact decide_eq_true (by omega)
    have e14 : zle 0 (zofN k) = true := by rw [hS.le, hS.ofN]; exact decide_eq_true (by omega)
    have e10 : zfit 0 n (zW .u32 o) = true := by rw [hS.fit, hS.W, W_len]; exact decide_eq_true (by omega)
    have e11 : zpart (zW .u32 o) 0 n = W .u32 o := by rw [hS.part, hS.W, W_part, List.drop_zero, List.take_of_length_le (by omega)]
    have hT := itrim_call (r := W .u32 o) rfl (by omega) hw
    have hend : k = n → val o = val l - val m := fun h => by
      subst h
      rw [List.take_of_length_le (by omega), List.take_of_length_le (by omega), List.take_of_length_le (by omega)] at hv
      have b1 := val_lt hw
      rw [ho] at b1
      have b7 := pow_pos' k
      rcases (show c = 0 ∨ c = 1 by omega) with rfl | rfl
      · omega
      · omega
    have hset : k < n → val ((o.set k (t % 4294967296)).take (k + 1)) = val (o.take k) + 4294967296 ^ k * (t % 4294967296) := fun h => val_take_set _ (by omega)
    have hnext : k < n → ∃ k' o' c', k' + (j - 1) = n ∧ o'.length = n ∧ Wd o' ∧ (0 ≤ c' ∧ c' ≤ 1) ∧ val (o'.take k') = val (l.take k') - val (m.take k') + c' * 4294967296 ^ k' ∧ idifSt r s (zW .u32 (o.set k (t % 4294967296))) n (1 - t / 4294967296) (zofN n) (zofN (k + 1)) = idifSt r s (zW .u32 o') n c' (zofN n) (zofN k') := fun h => by
      refine ⟨k + 1, _, _, by omega, by simpa using ho, hw.set _ (by omega) (by omega), by omega, ?_, rfl⟩
      rw [hset h, val_take_succ' l, val_take_succ' m, Int.pow_succ]
      exact hst
    have hjk : k < n → j - 1 < j := fun h => by omega
    generalize l.getD k 0 = a at *
    generalize m.getD k 0 = b at *
    have hkn : ¬ k < n → k = n := fun h => by omega
    clear hset hst hv ga gb d1 d2 d3 hd hk
    cbv
    refine ⟨fun h => ?_, fun h => ?_⟩
    all_goals rw [e6] at h
    · have h := of_decide_eq_true h
      refine nd e14 (nd (e12 h) ⟨fun h' => nd e14 (nd (e13 (by rw [h2, e6'] at h'; exact of_decide_eq_true h')) (nd (e8 h) ?_)), fun h' => nd (e8 h) ?_⟩)
      · rw [e1, e2, t1, t3, t4, e4 h, e5, e7]
        exact nd (e9 h) (again (s' := idifSt r s (zW .u32 (o.set k (t % 4294967296))) n (1 - t / 4294967296) (zofN n) (zofN (k + 1))) (m := j - 1) (by simp [leT, idifSt, mkSt, vi, vl, vnil]) (by simp [leH, idifSt, mkSt]) rfl (Nat.le_succ 2) (hjk h) (hnext h))
      · rw [h2, e6'] at h'
        rw [e1, t2 (of_decide_eq_false h'), t3, t4, e4 h, e5, e7]
        exact nd (e9 h) (again (s' := idifSt r s (zW .u32 (o.set k (t % 4294967296))) n (1 - t / 4294967296) (zofN n) (zofN (k + 1))) (m := j - 1) (by simp [leT, idifSt, mkSt, vi, vl, vnil]) (by simp [leH, idifSt, mkSt]) rfl (Nat.le_succ 2) (hjk h) (hnext h))
    · have h := of_decide_eq_false h
      rw [e11]
      refine nd e10 ⟨_, hS.call hT, ?_⟩
      rw [hend (hkn h)]
      generalize W .u32 (dg (val l - val m).toNat) = x at *
      cbv
      exact hF _ (ResLe.refl _)
end Go.Proofs.Ytgncmjcoojmccaa
end

section
set_option linter.unusedVariables false
set_option linter.unusedSimpArgs false
set_option maxHeartbeats 8000000
set_option linter.unusedVariables false
set_option linter.unusedSimpArgs false
set_option maxRecDepth 100000
namespace Go.Proofs.Ytgncmjcoojmccaa
open Go Go.Abs Go.Abs.M Go.Proofs

def iproSt (r s R : Abs.Rows) (n : Nat) (len i : Int) : St := mkSt 70 [vl r, vl s, .junk, .junk, vnil, .c (.sl 2 0 n false), .junk, .junk, .junk, .junk, .junk, .junk, .junk, .junk, .junk, .junk, .junk, .junk, vi .i64 len, vi .i64 i] [none, none, some (.rows 1 R true false)]
def ipro2St (r s R : Abs.Rows) (n : Nat) (len i x c len2 j : Int) : St := mkSt 70 [vl r, vl s, .junk, .junk, vnil, .c (.sl 2 0 n false), vi .i64 i, vi .u64 c, vi .u64 x, .junk, .junk, .junk, .junk, .junk, .junk, .junk, .junk, .junk, vi .i64 len, vi .i64 i, .junk, .junk, .junk, .junk, .junk, .junk, .junk, .junk, vi .i64 len2, vi .i64 j] [none, none, some (.rows 1 R true false)]
theorem iproduct_call {r s : Abs.Rows} {l m : List Int} (hr : r = W .u32 l) (hs : s = W .u32 m) (hl : l.length ≤ 1099511627776) (hm : m.length ≤ 1099511627776) (hlw : Wd l) (hmw : Wd m) :
    ACall Try.prog 72 [.val (tl r), .val (tl s)] ⟨[.val (tl (W .u32 (dg (val l * val m).toNat)))], [none, none]⟩ := by
  obtain ⟨n, hn⟩ : ∃ n : Nat, n = l.length + m.length := ⟨_, rfl⟩
  refine callZ ccOk mixed [.val] Try.func72 rfl rfl (by kernel_rfl) fun zwrap zadd zsub zmul zquo zrem zshl zshr zband zbor zbxor zbandn zeq zne zlt zle znot zbeq zbne zmax zmin znat zinb zofN zidx zneq znadd zdif zcut zroom zmkok zlen znth zsetr zisI zgetI zsetI zfit zpart zext zsetg zrep zwide zall zmok zmget zmset zW zth A L F hS hF => ?_
  have h1 : zlen r = l.length := by rw [hS.len, hr, W_len]
  have h2 : zlen s = m.length := by rw [hS.len, hs, W_len]
  have hN : zwrap .i64 (zadd (zofN (zlen r)) (zofN (zlen s))) = zofN n := by
    rw [h1, h2, hS.wrap, hS.add, hS.ofN, hS.ofN, hS.ofN, hn, wrap_i64 (by omega) (by omega)]; omega
  have hnn : znat (zofN n) = n := by rw [hS.nat, hS.ofN]; omega
  have hrep : zrep n [.v (.int .u32 0)] = zW .u32 (List.replicate n 0) := by rw [hS.rep, hS.W]; exact W_rep ..
  cbv
  rw [hN, hnn, hrep]
  refine nd (by rw [hS.mkok, hS.ofN]; exact decide_eq_true (by unfold capBytes; omega)) ?_
  refine loopZ ccOk mixed hS (fun (u : Nat) s' => ∃ (k : Nat) (o : List Int), k + u = l.length ∧ o.length = n ∧ Wd o ∧ val o = val (l.take k) * val m ∧ s' = iproSt r s (zW .u32 o) n (zofN l.length) (zofN k)) (n := l.length)
    (s0 := iproSt r s (zW .u32 (List.replicate n 0)) n (zofN l.length) (zofN 0)) (le_of ?_ ?_) rfl (Nat.le_succ 2) ?_ ?_
  · simp [leT, iproSt, mkSt, vi, vl, vnil, hS.ofN, h1]
  · simp [leH, iproSt, mkSt]
  · exact ⟨0, _, by omega, by simp, Wd.rep _, by rw [val_rep]; simp [val], rfl⟩
  · rintro u _ ⟨k, o, hk, ho, hw, hv, rfl⟩
    have gx := hlw.get k
    have e10 : zfit 0 n (zW .u32 o) = true := by rw [hS.fit, hS.W, W_len]; exact decide_eq_true (by omega)
    have e11 : zpart (zW .u32 o) 0 n = W .u32 o := by rw [hS.part, hS.W, W_part, List.drop_zero, List.take_of_length_le (by omega)]
    have hT := itrim_call (r := W .u32 o) rfl (by omega) hw
    have e6 := zlt_nat hS.lt hS.ofN k l.length
    have e9' : k < l.length → zisI .u32 r (znat (zofN k)) = true := fun h => by rw [hS.isI, hr, hS.nat, hS.ofN, W_isI]; exact decide_eq_true (by omega)
    have e9'' : zle 0 (zofN k) = true := by rw [hS.le, hS.ofN]; exact decide_eq_true (by omega)
    have e0 : zgetI r (znat (zofN k)) = l.getD k 0 := by rw [hS.getI, hS.nat, hS.ofN, hr, W_getI, Int.toNat_natCast]
    have ew : zwrap .u64 (l.getD k 0) = l.getD k 0 := by rw [hS.wrap, wrap_u64 (by omega) (by omega)]
    have hvk := val_take_succ' l k
    have hend : k = l.length → val o = val l * val m := fun h => by
      subst h
      rw [List.take_of_length_le (Nat.le_refl _)] at hv
      exact hv
    have htop : val o < 4294967296 ^ (k + m.length) := by
      rw [hv]
      have b := val_lt (hlw.take k)
      rw [List.length_take, Nat.min_eq_left (by omega)] at b
      exact mul_lt_pow (val_nonneg (hlw.take k)) (val_nonneg hmw) b (val_lt hmw)
    generalize hga : l.getD k 0 = x at *
    cbv
    refine ⟨fun h => ?_, fun h => ?_⟩
    all_goals rw [e6] at h
    · have h := of_decide_eq_true h
      refine nd e9'' (nd (e9' h) ?_)
      refine loopZ ccOk mixed hS (fun (u' : Nat) s' => ∃ (j : Nat) (o' : List Int) (c : Int), j + u' = m.length ∧ o'.length = n ∧ Wd o' ∧ (0 ≤ c ∧ c < 4294967296) ∧ o'.drop (k + j) = o.drop (k + j) ∧ val o' + c * 4294967296 ^ (k + j) = val o + x * 4294967296 ^ k * val (m.take j) ∧ s' = ipro2St r s (zW .u32 o') n (zofN l.length) (zofN k) x c (zofN m.length) (zofN j)) (n := m.length)
        (s0 := ipro2St r s (zW .u32 o) n (zofN l.length) (zofN k) x 0 (zofN m.length) (zofN 0)) (le_of ?_ ?_) rfl (Nat.le_succ 2) ?_ ?_
      · have e0' := e0
        rw [hS.ofN] at e0'
        simp [leT, ipro2St, mkSt, vi, vl, vnil, hS.ofN, h2, e0', ew]
      · simp [leH, ipro2St, mkSt]
      · exact ⟨0, _, 0, by omega, ho, hw, by omega, rfl, by simp [val], rfl⟩
      · rintro u' _ ⟨j, o', c, hj, ho', hw', hc, hdr, hv', rfl⟩
        have gm := hmw.get j
        have gw := hw'.get (k + j)
        have hb := mul_bound gx gm gw hc
        obtain ⟨t, ht⟩ : ∃ t, t = x * m.getD j 0 + o'.getD (k + j) 0 + c := ⟨_, rfl⟩
        have hst := mul_step hv' ht (Int.pow_add 4294967296 k j)
        have f6 := zlt_nat hS.lt hS.ofN j m.length
        have f9 : j < m.length → zisI .u32 s (znat (zofN j)) = true := fun h => by rw [hS.isI, hs, hS.nat, hS.ofN, W_isI]; exact decide_eq_true (by omega)
        have f9'' : zle 0 (zofN j) = true := by rw [hS.le, hS.ofN]; exact decide_eq_true (by omega)
        have f0 : zgetI s (znat (zofN j)) = m.getD j 0 := by rw [hS.getI, hS.nat, hS.ofN, hs, W_getI, Int.toNat_natCast]
        have f1 : j ≤ m.length → zwrap .i64 (zadd (zofN k) (zofN j)) = zofN (k + j) := fun h => by rw [hS.wrap, hS.add, hS.ofN, hS.ofN, hS.ofN, wrap_i64 (by omega) (by omega)]; omega
        have f1' : zwrap .i64 (zadd (zofN k) (zofN m.length)) = zofN (k + m.length) := by rw [hS.wrap, hS.add, hS.ofN, hS.ofN, hS.ofN, wrap_i64 (by omega) (by omega)]; omega
        have f2 : ∀ q, zidx 0 (zofN q) = q := fun q => by rw [hS.idx, hS.ofN]; omega
        have f3 : ∀ q, q < n → zinb (zofN q) n = true := fun q hq => by rw [hS.inb, hS.ofN]; exact decide_eq_true (by omega)
        have f4 : ∀ q, q < n → zisI .u32 (zW .u32 o') q = true := fun q hq => by rw [hS.isI, hS.W, W_isI]; exact decide_eq_true (by omega)
        have f5 : ∀ q, zgetI (zW .u32 o') q = o'.getD q 0 := fun q => by rw [hS.getI, hS.W, W_getI]
        have f7 : ∀ q y, zsetI .u32 (zW .u32 o') q y = zW .u32 (o'.set q y) := fun q y => by rw [hS.setI, hS.W, W_set]
        have fw1 : zwrap .u64 (m.getD j 0) = m.getD j 0 := by rw [hS.wrap, wrap_u64 (by omega) (by omega)]
        have fw2 : zwrap .u64 (o'.getD (k + j) 0) = o'.getD (k + j) 0 := by rw [hS.wrap, wrap_u64 (by omega) (by omega)]
        have f8 : zwrap .u64 (zadd (zwrap .u64 (zadd (zwrap .u64 (zmul x (m.getD j 0))) (o'.getD (k + j) 0))) c) = t := by
          rw [hS.wrap, hS.wrap, hS.wrap, hS.mul, hS.add, hS.add, wrap_u64 (x := x * m.getD j 0) (by omega) (by omega), wrap_u64 (x := x * m.getD j 0 + o'.getD (k + j) 0) (by omega) (by omega), wrap_u64 (by omega) (by omega), ht]
        have e2 : zwrap .u32 t = t % 4294967296 := by rw [hS.wrap]; exact wrap_u32m _
        have e3 : zshr .u64 t 32 = t / 4294967296 := by rw [show zshr .u64 t 32 = ZI.std.shr .u64 t 32 from hS.shr ..]; exact shr32 (by omega)
        have e3' : zwrap .u32 c = c := by rw [hS.wrap]; exact wrap_u32 (by omega) (by omega)
        have e4 : j < m.length → zwrap .i64 (zadd (zofN j) 1) = zofN (j + 1) := fun h => by rw [hS.wrap, hS.add, hS.ofN, hS.ofN, wrap_i64 (by omega) (by omega)]; omega
        have e4' : zwrap .i64 (zadd (zofN k) 1) = zofN (k + 1) := by rw [hS.wrap, hS.add, hS.ofN, hS.ofN, wrap_i64 (by omega) (by omega)]; omega
        have hset : ∀ q y, q < n → val (o'.set q y) = val o' + (y - o'.getD q 0) * 4294967296 ^ q := fun q y hq => val_set _ _ _ (by omega)
        have htz : j = m.length → o'.getD (k + j) 0 = 0 := fun hj => by
          have e : o'.getD (k + j) 0 = o.getD (k + j) 0 := by
            have := congrArg (fun y => List.getD y 0 0) hdr
            simpa [List.getD_eq_getElem?_getD] using this
          rw [e, hj]
          exact top_zero hw (by omega) htop
        have htt : 0 ≤ t := by omega
        have htb : t < 18446744073709551616 := by omega
        have hmj := val_take_succ' m j
        have hmm : j = m.length → m.take j = m := fun h => List.take_of_length_le (by omega)
        clear ht hb
        generalize hgb : m.getD j 0 = y at *
        generalize hgc : o'.getD (k + j) 0 = w at *
        cbv
        refine ⟨fun h' => ?_, fun h' => ?_⟩
        all_goals rw [f6] at h'
        · have h' := of_decide_eq_true h'
          rw [f1 (by omega), f2, f0, fw1, f5, hgc, fw2, f8, e2, e3, e4 h', f7]
          refine nd f9'' (nd (f9 h') (nd (f3 _ (by omega)) (nd (f4 _ (by omega)) (nd (f3 _ (by omega)) (nd (f4 _ (by omega)) ?_)))))
          refine again (s' := ipro2St r s (zW .u32 (o'.set (k + j) (t % 4294967296))) n (zofN l.length) (zofN k) x (t / 4294967296) (zofN m.length) (zofN (j + 1))) (m := u' - 1) (by simp [leT, ipro2St, mkSt, vi, vl, vnil]) (by simp [leH, ipro2St, mkSt]) rfl (Nat.le_succ 2) (by omega)
            ⟨_, _, _, by omega, by simpa using ho', hw'.set _ (by omega) (by omega), by omega, ?_, ?_, rfl⟩
          · rw [show k + (j + 1) = k + j + 1 by omega, drop_set_succ]
            have := congrArg (List.drop 1) hdr
            simpa [List.drop_drop] using this
          · rw [hset _ _ (by omega), hgc, show k + (j + 1) = k + j + 1 by omega, Int.pow_succ, hmj]
            exact hst
        · have h' := of_decide_eq_false h'
          have hjm : j = m.length := by omega
          rw [h2, f1', f2, e3', e4', f7]
          refine nd (f3 _ (by omega)) (nd (f4 _ (by omega)) ?_)
          refine again (s' := iproSt r s (zW .u32 (o'.set (k + m.length) c)) n (zofN l.length) (zofN (k + 1))) (m := u - 1) (by simp [leT, iproSt, mkSt, vi, vl, vnil]) (by simp [leH, iproSt, mkSt]) rfl (Nat.le_succ 2) (by omega)
            ⟨_, _, by omega, by simpa using ho', hw'.set _ (by omega) (by omega), ?_, rfl⟩
          have e := hset (k + j) c (by omega)
          rw [hgc, htz hjm] at e
          rw [hmm hjm, hv] at hv'
          rw [← hjm, e, hvk]
          clear e hgc
          generalize val (List.take k l) = p1 at *
          generalize val m = p2 at *
          generalize val o' = p3 at *
          generalize (4294967296 : Int) ^ k = p4 at *
          generalize (4294967296 : Int) ^ (k + j) = p5 at *
          grind
    · have h := of_decide_eq_false h
      rw [e11]
      refine nd e10 ⟨_, hS.call hT, ?_⟩
      rw [hend (by omega)]
      generalize W .u32 (dg (val l * val m).toNat) = z at *
      cbv
      exact hF _ (ResLe.refl _)
def idvsSt (r R : Abs.Rows) (d : Int) (len : Nat) (c i : Int) : St := mkSt 41 [vl r, vi .u64 d, .junk, .junk, vnil, vi .u64 0, .c (.sl 2 0 len false), vi .u64 c, vi .i64 i] [none, none, some (.rows 1 R true false)]
theorem idivideSmall_call {r : Abs.Rows} {l : List Int} (d q e : Int) (hr : r = W .u32 l) (hl : l.length ≤ 1099511627776) (hlw : Wd l) (hd : 0 < d) (hd2 : d < 4294967296) (hq : q = val l / d) (he : e = val l % d) :
    ACall Try.prog 86 [.val (tl r), .val (ti .u64 d)] ⟨[.val (tl (W .u32 (dg q.toNat))), .val (ti .u64 e)], [none, none]⟩ := by
  obtain ⟨n, hn⟩ : ∃ n : Nat, n = l.length := ⟨_, rfl⟩
  refine callZ ccOk mixed [.val, .val] Try.func86 rfl rfl (by kernel_rfl) fun zwrap zadd zsub zmul zquo zrem zshl zshr zband zbor zbxor zbandn zeq zne zlt zle znot zbeq zbne zmax zmin znat zinb zofN zidx zneq znadd zdif zcut zroom zmkok zlen znth zsetr zisI zgetI zsetI zfit zpart zext zsetg zrep zwide zall zmok zmget zmset zW zth A L F hS hF => ?_
  have h1 : zlen r = n := by rw [hS.len, hr, W_len, hn]
  have hnn : znat (zofN n) = n := by rw [hS.nat, hS.ofN]; omega
  have hrep : zrep n [.v (.int .u32 0)] = zW .u32 (List.replicate n 0) := by rw [hS.rep, hS.W]; exact W_rep ..
  have hi0 : zwrap .i64 (zsub (zofN n) 1) = zsub (zofN n) 1 := by rw [hS.wrap, hS.sub, hS.ofN]; exact wrap_i64 (by omega) (by omega)
  have hdz : zne d 0 = true := by rw [hS.ne]; exact decide_eq_true (by omega)
  cbv
  rw [h1, hnn, hrep, hi0]
  refine nd (by rw [hS.mkok, hS.ofN]; exact decide_eq_true (by unfold capBytes; omega)) ?_
  refine loopZ ccOk mixed hS (fun (k : Nat) s' => ∃ (o : List Int) (c : Int), k ≤ n ∧ o.length = n ∧ Wd o ∧ (0 ≤ c ∧ c < d) ∧ val (l.drop k) = d * val (o.drop k) + c ∧ s' = idvsSt r (zW .u32 o) d n c (zsub (zofN k) 1)) (n := n)
    (s0 := idvsSt r (zW .u32 (List.replicate n 0)) d n 0 (zsub (zofN n) 1)) (le_of ?_ ?_) rfl (Nat.le_succ 2) ?_ ?_
  · simp [leT, idvsSt, mkSt, vi, vl, vnil, hS.ofN]
  · simp [leH, idvsSt, mkSt]
  · refine ⟨_, 0, Nat.le_refl _, by simp, Wd.rep _, by omega, ?_, rfl⟩
    rw [List.drop_of_length_le (by omega), List.drop_of_length_le (by simp)]; simp [val]
  · rintro k _ ⟨o, c, hk, ho, hw, hc, hv, rfl⟩
    have ga := hlw.get (k - 1)
    obtain ⟨t, ht⟩ : ∃ t, t = c * 4294967296 + l.getD (k - 1) 0 := ⟨_, rfl⟩
    have hst := short_step hv ht
    have hb := short_bound hd hc ga
    rw [← ht] at hb
    have hcm : 0 ≤ c * 4294967296 ∧ c * 4294967296 ≤ 4294967294 * 4294967296 := by omega
    have hmod := Int.emod_nonneg t (show d ≠ 0 by omega)
    have hmod2 := Int.emod_lt_of_pos t hd
    have hi : zsub (zofN k) 1 = (k : Int) - 1 := by rw [hS.sub, hS.ofN]
    have hz : zle 0 (zsub (zofN k) 1) = decide (1 ≤ k) := by
      rw [hS.le, hi]
      by_cases h : 1 ≤ k
      · rw [decide_eq_true h]; exact decide_eq_true (by omega)
      · rw [decide_eq_false h]; exact decide_eq_false (by omega)
    have hnt : 1 ≤ k → znat (zsub (zofN k) 1) = k - 1 := fun h => by rw [hS.nat, hi]; omega
    have e0 : 1 ≤ k → zgetI r (znat (zsub (zofN k) 1)) = l.getD (k - 1) 0 := fun h => by rw [hS.getI, hnt h, hr, W_getI]
    have e1 : zbor .u64 (zshl .u64 c 32) (zwrap .u64 (l.getD (k - 1) 0)) = t := by
      rw [hS.wrap, wrap_u64 (x := l.getD (k - 1) 0) (by omega) (by omega), show zshl .u64 c 32 = ZI.std.shl .u64 c 32 from hS.shl .., show ∀ x y, zbor .u64 x y = ZI.std.bor .u64 x y from fun _ _ => hS.bor .., two_words hc.1 (by omega) ga.1 ga.2, ht]
    have e2 : zwrap .u32 (zwrap .u64 (zquo t d)) = t / d := by rw [hS.quo, Int.tdiv_eq_ediv_of_nonneg (by omega), hS.wrap, hS.wrap, wrap_u64 (x := t / d) (by omega) (by omega)]; exact wrap_u32 (by omega) (by omega)
    have e3 : zrem t d = t % d := by rw [hS.rem, Int.tmod_eq_emod_of_nonneg (by omega)]
    have e4 : 1 ≤ k → zwrap .i64 (zsub (zsub (zofN k) 1) 1) = zsub (zofN (k - 1)) 1 := fun h => by rw [hi, hS.wrap, hS.sub, hS.sub, hS.ofN, wrap_i64 (by omega) (by omega)]; omega
    have e5 : 1 ≤ k → zidx 0 (zsub (zofN k) 1) = k - 1 := fun h => by rw [hS.idx, hi]; omega
    have e7 : ∀ x, zsetI .u32 (zW .u32 o) (k - 1) x = zW .u32 (o.set (k - 1) x) := fun x => by rw [hS.setI, hS.W, W_set]
    have e8 : 1 ≤ k → zinb (zsub (zofN k) 1) n = true := fun h => by rw [hS.inb, hi]; exact decide_eq_true (by omega)
    have e9 : 1 ≤ k → zisI .u32 (zW .u32 o) (k - 1) = true := fun h => by rw [hS.isI, hS.W, W_isI]; exact decide_eq_true (by omega)
    have e9' : 1 ≤ k → zisI .u32 r (znat (zsub (zofN k) 1)) = true := fun h => by rw [hS.isI, hr, hnt h, W_isI]; exact decide_eq_true (by omega)
    have e10 : zfit 0 n (zW .u32 o) = true := by rw [hS.fit, hS.W, W_len]; exact decide_eq_true (by omega)
    have e11 : zpart (zW .u32 o) 0 n = W .u32 o := by rw [hS.part, hS.W, W_part, List.drop_zero, List.take_of_length_le (by omega)]
    have hT := itrim_call (r := W .u32 o) rfl (by omega) hw
    have hend : k = 0 → val o = q ∧ c = e := fun h => by
      subst h
      simp only [List.drop_zero] at hv
      rw [hq, he, hv]
      exact ⟨by rw [Int.add_comm, Int.add_mul_ediv_left _ _ (by omega), Int.ediv_eq_zero_of_lt hc.1 hc.2, Int.zero_add], by rw [Int.add_comm, Int.add_mul_emod_self_left, Int.emod_eq_of_lt hc.1 hc.2]⟩
    have hset : 1 ≤ k → val (l.drop (k - 1)) = d * val ((o.set (k - 1) (t / d)).drop (k - 1)) + t % d := fun h => by
      rw [val_drop_succ (l := l) (by omega), val_drop_succ (l := o.set (k - 1) (t / d)) (by simp; omega), getD_set_self _ (by omega), drop_set_succ, show k - 1 + 1 = k by omega]
      exact hst
    generalize hga : l.getD (k - 1) 0 = a at *
    cbv
    refine ⟨fun h => ?_, fun h => ?_⟩
    · have a1 := h
      rw [hz] at h
      have h := of_decide_eq_true h
      refine nd a1 (nd (e9' h) ?_)
      rw [e0 h, e1, e2, e3, e4 h, e5 h, e7]
      refine nd hdz (nd (e8 h) (nd (e9 h) (nd hdz ?_)))
      refine again (s' := idvsSt r (zW .u32 (o.set (k - 1) (t / d))) d n (t % d) (zsub (zofN (k - 1)) 1)) (m := k - 1) (by simp [leT, idvsSt, mkSt, vi, vl, vnil]) (by simp [leH, idvsSt, mkSt]) rfl (Nat.le_succ 2) (by omega) ⟨_, _, by omega, by simpa using ho, hw.set _ (by omega) (by omega), by omega, hset h, rfl⟩
    · rw [hz] at h
      have h := of_decide_eq_false h
      rw [e11]
      obtain ⟨z1, z2⟩ := hend (by omega)
      refine nd e10 ⟨_, hS.call hT, ?_⟩
      rw [z1]
      generalize W .u32 (dg q.toNat) = x at *
      cbv
      exact fin2 hF rfl (tv_int z2)

end Go.Proofs.Ytgncmjcoojmccaa
end

section
set_option linter.unusedVariables false
set_option linter.unusedSimpArgs false
set_option maxHeartbeats 8000000
set_option linter.unusedVariables false
set_option linter.unusedSimpArgs false
set_option maxRecDepth 100000
namespace Go.Proofs.Ytgncmjcoojmccaa
open Go Go.Abs Go.Abs.M Go.Proofs

theorem cast_pow2 (s : Nat) : ((2 ^ s : Nat) : Int) = 2 ^ s := by simp
theorem pow2_pos (s : Nat) : (0 : Int) < 2 ^ s := Int.pow_pos (by omega)
theorem pow2_le {s : Nat} (h : s < 32) : (2 : Int) ^ s ≤ 2147483648 := by
  have : 2 ^ s ≤ 2 ^ 31 := Nat.pow_le_pow_right (by omega) (by omega)
  rw [← cast_pow2]; omega

theorem shl_up {a c t : Int} {s : Nat} (hs : s < 32) (ha : 0 ≤ a ∧ a < 4294967296) (hc : 0 ≤ c ∧ c < 2 ^ s) (ht : t = a * 2 ^ s + c) : (0 ≤ a * 2 ^ s ∧ a * 2 ^ s < 18446744073709551616) ∧ (0 ≤ t ∧ t < 18446744073709551616) ∧ 0 ≤ t / 4294967296 ∧ t / 4294967296 < 2 ^ s := by
  have hp := pow2_pos s
  have hq := pow2_le hs
  have h1 : 0 ≤ a * 2 ^ s := Int.mul_nonneg ha.1 (by omega)
  have h2 : a * 2 ^ s ≤ 4294967295 * 2 ^ s := Int.mul_le_mul_of_nonneg_right (by omega) (by omega)
  refine ⟨by omega, by omega, Int.ediv_nonneg (by omega) (by omega), Int.ediv_lt_of_lt_mul (by omega) (by omega)⟩

theorem shl_step {t vo vl a c p : Int} {e : Int} (h : vo + c * p = e * vl) (ht : t = a * e + c) : vo + p * (t % 4294967296) + t / 4294967296 * (p * 4294967296) = e * (vl + p * a) := by
  have := Int.emod_add_mul_ediv t 4294967296
  have e1 : t % 4294967296 = t - 4294967296 * (t / 4294967296) := by omega
  rw [e1, ht]
  generalize (a * e + c) / 4294967296 = z at *
  clear this e1 ht
  grind

def ishlSt (r R : Abs.Rows) (s : Int) (n : Nat) (c len i : Int) : St := mkSt 42 [vl r, vi .i64 s, .junk, .junk, vnil, .c (.sl 2 0 n false), vi .u64 c, .junk, .junk, .junk, .junk, .junk, .junk, .junk, vi .i64 len, vi .i64 i] [none, none, some (.rows 1 R true false)]


theorem ishiftLeft_call {r : Abs.Rows} {l : List Int} (s : Nat) (hr : r = W .u32 l) (hl : l.length ≤ 1099511627776) (hlw : Wd l) (hs : s < 32) :
    ACall Try.prog 88 [.val (tl r), .val (ti .i64 (s : Int))] ⟨[.val (tl (W .u32 (wds (l.length + 1) (2 ^ s * val l))))], [none, none]⟩ := by
  obtain ⟨N, hN⟩ : ∃ N : Nat, N = l.length := ⟨_, rfl⟩
  obtain ⟨n, hn⟩ : ∃ n : Nat, n = N + 1 := ⟨_, rfl⟩
  have hcap : (n : Int) * 4 ≤ 70368744177664 := by omega
  rw [← hN, ← hn]
  obtain ⟨S, hS0⟩ : ∃ S : Int, S = (s : Int) := ⟨_, rfl⟩
  rw [← hS0]
  refine callZ ccOk mixed [.val] Try.func88 rfl rfl (by kernel_rfl) fun zwrap zadd zsub zmul zquo zrem zshl zshr zband zbor zbxor zbandn zeq zne zlt zle znot zbeq zbne zmax zmin znat zinb zofN zidx zneq znadd zdif zcut zroom zmkok zlen znth zsetr zisI zgetI zsetI zfit zpart zext zsetg zrep zwide zall zmok zmget zmset zW zth A L F hS hF => ?_
  have h1 : zlen r = N := by rw [hS.len, hr, W_len, hN]
  have hn1 : zwrap .i64 (zadd (zofN (zlen r)) 1) = zofN n := by rw [h1, hS.ofN, hS.ofN, hS.add, hS.wrap, wrap_i64 (by omega) (by omega)]; omega
  have hnn : znat (zofN n) = n := by rw [hS.nat, hS.ofN]; omega
  have hrep : zrep n [.v (.int .u32 0)] = zW .u32 (List.replicate n 0) := by rw [hS.rep, hS.W]; exact W_rep ..
  have L2 := zlt_nat hS.lt hS.ofN
  have hs0 : zle 0 S = true := by rw [hS.le]; exact decide_eq_true (by omega)
  have A1 : ∀ (k : Nat) (o : List Int) (c : Int), o.length = n → Wd o → (0 ≤ c ∧ c < 2 ^ s) → val (o.take k) + c * 4294967296 ^ k = 2 ^ s * val (l.take k) → k < N → ∃ (t : Int) (k1 : Nat), zgetI r (znat (zofN k)) = l.getD k 0 ∧ zbor .u64 (zshl .u64 (zwrap .u64 (l.getD k 0)) S) c = t ∧ zwrap .u32 t = t % 4294967296 ∧ zshr .u64 t 32 = t / 4294967296 ∧
      zwrap .i64 (zadd (zofN k) 1) = zofN k1 ∧ zidx 0 (zofN k) = k ∧ (∀ x, zsetI .u32 (zW .u32 o) k x = zW .u32 (o.set k x)) ∧ zinb (zofN k) n = true ∧ zisI .u32 (zW .u32 o) k = true ∧ zisI .u32 r (znat (zofN k)) = true ∧ zle 0 (zofN k) = true ∧ k1 = k + 1 ∧
      (o.set k (t % 4294967296)).length = n ∧ Wd (o.set k (t % 4294967296)) ∧ (0 ≤ t / 4294967296 ∧ t / 4294967296 < 2 ^ s) ∧ val ((o.set k (t % 4294967296)).take k1) + t / 4294967296 * 4294967296 ^ k1 = 2 ^ s * val (l.take k1) := fun k o c ho hw hc hv hk => by
    have ga := hlw.get k
    obtain ⟨t, ht⟩ : ∃ t, t = l.getD k 0 * 2 ^ s + c := ⟨_, rfl⟩
    obtain ⟨b1, b2, b3⟩ := shl_up hs ga hc ht
    have hst := shl_step hv ht
    refine ⟨t, k + 1, by rw [hS.getI, hS.nat, hS.ofN, hr, W_getI, Int.toNat_natCast], ?_, by rw [hS.wrap, wrap_u32m], ?_, ?_, by rw [hS.idx, hS.ofN]; omega, fun x => by rw [hS.setI, hS.W, W_set], ?_, ?_, ?_, ?_, rfl, by simpa using ho, hw.set _ (by omega) (by omega), b3, ?_⟩
    · rw [hS.wrap, wrap_u64 (by omega) (by omega), show ∀ x, zshl .u64 x S = ZI.std.shl .u64 x S from fun _ => hS.shl .., shl_std s hS0 (by show s ≤ 64; omega), wrap_u64 b1.1 b1.2, show ∀ x y, zbor .u64 x y = ZI.std.bor .u64 x y from fun _ _ => hS.bor .., bor_hi s ga.1 hc.1 hc.2 (by omega), ht]
    · rw [show ∀ x, zshr .u64 x 32 = ZI.std.shr .u64 x 32 from fun _ => hS.shr ..]; exact shr32 b2.1
    · rw [hS.wrap, hS.add, hS.ofN, hS.ofN, wrap_i64 (by omega) (by omega)]; omega
    · rw [hS.inb, hS.ofN]; exact decide_eq_true (by omega)
    · rw [hS.isI, hS.W, W_isI]; exact decide_eq_true (by omega)
    · rw [hS.isI, hr, hS.nat, hS.ofN, W_isI]; exact decide_eq_true (by omega)
    · rw [hS.le, hS.ofN]; exact decide_eq_true (by omega)
    · rw [val_take_set _ (by omega), val_take_succ' l, Int.pow_succ]; exact hst
  have A2 : ∀ (o : List Int) (c : Int), o.length = n → Wd o → (0 ≤ c ∧ c < 2 ^ s) → val (o.take N) + c * 4294967296 ^ N = 2 ^ s * val (l.take N) → zidx 0 (zofN (zlen r)) = N ∧ zwrap .u32 c = c ∧ zsetI .u32 (zW .u32 o) N c = zW .u32 (o.set N c) ∧ zinb (zofN (zlen r)) n = true ∧ zisI .u32 (zW .u32 o) N = true ∧ zfit 0 n (zW .u32 (o.set N c)) = true ∧
      zpart (zW .u32 (o.set N c)) 0 n = W .u32 (wds n (2 ^ s * val l)) ∧ zW .u32 (o.set N c) = W .u32 (wds n (2 ^ s * val l)) ∧ zneq n (zlen (W .u32 (wds n (2 ^ s * val l)))) = true := fun o c ho hw hc hv => by
    have hq := pow2_le hs
    refine ⟨by rw [hS.idx, hS.ofN, h1]; omega, by rw [hS.wrap]; exact wrap_u32 hc.1 (by omega), by rw [hS.setI, hS.W, W_set], by rw [hS.inb, hS.ofN, h1]; exact decide_eq_true (by omega), by rw [hS.isI, hS.W, W_isI]; exact decide_eq_true (by omega), by rw [hS.fit, hS.W, W_len]; exact decide_eq_true (by simp; omega), ?_, ?_, by rw [hS.neq, hS.len, W_len, wds_length]; exact decide_eq_true rfl⟩
    all_goals have a1 := val_take_set (l := o) (k := N) c (by omega)
    all_goals rw [List.take_of_length_le (by simp; omega)] at a1
    all_goals rw [List.take_of_length_le (l := l) (by omega)] at hv
    · rw [hS.part, hS.W, W_part, List.drop_zero, List.take_of_length_le (by simp; omega)]
      congr 1
      exact wds_of (b := 0) (hw.set N hc.1 (by omega)) (by simpa using ho) (by rw [a1, ← hv]; grind)
    · rw [hS.W]
      congr 1
      exact wds_of (b := 0) (hw.set N hc.1 (by omega)) (by simpa using ho) (by rw [a1, ← hv]; grind)
  cbv
  rw [hn1, hnn, hrep]
  refine nd (by rw [hS.mkok, hS.ofN]; exact decide_eq_true ⟨Int.natCast_nonneg n, Int.le_refl _, by unfold capBytes; omega⟩) ?_
  refine loopZ ccOk mixed hS (fun (j : Nat) s' => ∃ (k : Nat) (o : List Int) (c : Int), k + j = N ∧ (o.length = n ∧ Wd o ∧ (0 ≤ c ∧ c < 2 ^ s) ∧ val (o.take k) + c * 4294967296 ^ k = 2 ^ s * val (l.take k)) ∧ s' = ishlSt r (zW .u32 o) S n c (zofN N) (zofN k)) (n := N)
    (s0 := ishlSt r (zW .u32 (List.replicate n 0)) S n 0 (zofN N) (zofN 0)) (le_of ?_ ?_) rfl (Nat.le_succ 2) ?_ ?_
  · simp [leT, ishlSt, mkSt, vi, vl, vnil, hS.ofN, h1]
  · simp [leH, ishlSt, mkSt]
  · exact ⟨0, _, 0, by omega, ⟨by simp, Wd.rep _, ⟨by omega, pow2_pos s⟩, by simp [val]⟩, rfl⟩
  · rintro j _ ⟨k, o, c, hk, ⟨ho, hw, hc, hv⟩, rfl⟩
    rcases Nat.lt_or_ge k N with hkn | hkn
    · obtain ⟨t, k1, E1, E2, E3, E4, E5, E6, E7, E8, E9, E10, E11, hk1, I1, I2, I3, I4⟩ := A1 k o c ho hw hc hv hkn
      have e6 : zlt (zofN k) (zofN N) = true := (L2 k N).trans (decide_eq_true hkn)
      have hj : k1 + (j - 1) = N ∧ j - 1 < j := by clear A1 A2; omega
      generalize l.getD k 0 = a at E1 E2
      clear A1 A2 hc hv
      cbv
      refine bT e6 ?_
      rw [E1, E2, E3, E4, E5, E6, E7]
      refine nd E11 (nd E10 (nd hs0 (nd E8 (nd E9 ?_))))
      exact again (s' := ishlSt r (zW .u32 (o.set k (t % 4294967296))) S n (t / 4294967296) (zofN N) (zofN k1)) (m := j - 1) (by simp [leT, ishlSt, mkSt, vi, vl, vnil]) (by simp [leH, ishlSt, mkSt]) rfl (Nat.le_succ 2) hj.2 ⟨k1, _, _, hj.1, ⟨I1, I2, I3, I4⟩, rfl⟩
    · obtain rfl : k = N := by clear A1 A2; omega
      obtain ⟨E1, E2, E3, E4, E5, E6, E7, E8, E9⟩ := A2 o c ho hw hc hv
      have e6 : zlt (zofN k) (zofN k) = false := (L2 k k).trans (decide_eq_false (Nat.lt_irrefl k))
      clear A1 A2 hc hv
      generalize wds n (2 ^ s * val l) = fin at *
      cbv
      refine bF e6 ?_
      rw [E1, E2, E3, E7]; exact nd E4 (nd E5 (nd E6 (hF _ (ResLe.refl _))))

theorem ishiftLeft_own {r : Abs.Rows} {l : List Int} (s : Nat) (hr : r = W .u32 l) (hl : l.length ≤ 1099511627776) (hlw : Wd l) (hs : s < 32) :
    ACall Try.prog 88 [.val (tl r), .val (ti .i64 (s : Int))] ⟨[.own 1 (W .u32 (wds (l.length + 1) (2 ^ s * val l)))], [none, none]⟩ := by
  obtain ⟨N, hN⟩ : ∃ N : Nat, N = l.length := ⟨_, rfl⟩
  obtain ⟨n, hn⟩ : ∃ n : Nat, n = N + 1 := ⟨_, rfl⟩
  have hcap : (n : Int) * 4 ≤ 70368744177664 := by omega
  rw [← hN, ← hn]
  obtain ⟨S, hS0⟩ : ∃ S : Int, S = (s : Int) := ⟨_, rfl⟩
  rw [← hS0]
  refine callZ ccOk mixed [.own 1] Try.func88 rfl rfl (by kernel_rfl) fun zwrap zadd zsub zmul zquo zrem zshl zshr zband zbor zbxor zbandn zeq zne zlt zle znot zbeq zbne zmax zmin znat zinb zofN zidx zneq znadd zdif zcut zroom zmkok zlen znth zsetr zisI zgetI zsetI zfit zpart zext zsetg zrep zwide zall zmok zmget zmset zW zth A L F hS hF => ?_
  have h1 : zlen r = N := by rw [hS.len, hr, W_len, hN]
  have hn1 : zwrap .i64 (zadd (zofN (zlen r)) 1) = zofN n := by rw [h1, hS.ofN, hS.ofN, hS.add, hS.wrap, wrap_i64 (by omega) (by omega)]; omega
  have hnn : znat (zofN n) = n := by rw [hS.nat, hS.ofN]; omega
  have hrep : zrep n [.v (.int .u32 0)] = zW .u32 (List.replicate n 0) := by rw [hS.rep, hS.W]; exact W_rep ..
  have L2 := zlt_nat hS.lt hS.ofN
  have hs0 : zle 0 S = true := by rw [hS.le]; exact decide_eq_true (by omega)
  have A1 : ∀ (k : Nat) (o : List Int) (c : Int), o.length = n → Wd o → (0 ≤ c ∧ c < 2 ^ s) → val (o.take k) + c * 4294967296 ^ k = 2 ^ s * val (l.take k) → k < N → ∃ (t : Int) (k1 : Nat), zgetI r (znat (zofN k)) = l.getD k 0 ∧ zbor .u64 (zshl .u64 (zwrap .u64 (l.getD k 0)) S) c = t ∧ zwrap .u32 t = t % 4294967296 ∧ zshr .u64 t 32 = t / 4294967296 ∧
      zwrap .i64 (zadd (zofN k) 1) = zofN k1 ∧ zidx 0 (zofN k) = k ∧ (∀ x, zsetI .u32 (zW .u32 o) k x = zW .u32 (o.set k x)) ∧ zinb (zofN k) n = true ∧ zisI .u32 (zW .u32 o) k = true ∧ zisI .u32 r (znat (zofN k)) = true ∧ zle 0 (zofN k) = true ∧ k1 = k + 1 ∧
      (o.set k (t % 4294967296)).length = n ∧ Wd (o.set k (t % 4294967296)) ∧ (0 ≤ t / 4294967296 ∧ t / 4294967296 < 2 ^ s) ∧ val ((o.set k (t % 4294967296)).take k1) + t / 4294967296 * 4294967296 ^ k1 = 2 ^ s * val (l.take k1) := fun k o c ho hw hc hv hk => by
    have ga := hlw.get k
    obtain ⟨t, ht⟩ : ∃ t, t = l.getD k 0 * 2 ^ s + c := ⟨_, rfl⟩
    obtain ⟨b1, b2, b3⟩ := shl_up hs ga hc ht
    have hst := shl_step hv ht
    refine ⟨t, k + 1, by rw [hS.getI, hS.nat, hS.ofN, hr, W_getI, Int.toNat_natCast], ?_, by rw [hS.wrap, wrap_u32m], ?_, ?_, by rw [hS.idx, hS.ofN]; omega, fun x => by rw [hS.setI, hS.W, W_set], ?_, ?_, ?_, ?_, rfl, by simpa using ho, hw.set _ (by omega) (by omega), b3, ?_⟩
    · rw [hS.wrap, wrap_u64 (by omega) (by omega), show ∀ x, zshl .u64 x S = ZI.std.shl .u64 x S from fun _ => hS.shl .., shl_std s hS0 (by show s ≤ 64; omega), wrap_u64 b1.1 b1.2, show ∀ x y, zbor .u64 x y = ZI.std.bor .u64 x y from fun _ _ => hS.bor .., bor_hi s ga.1 hc.1 hc.2 (by omega), ht]
    · rw [show ∀ x, zshr .u64 x 32 = ZI.std.shr .u64 x 32 from fun _ => hS.shr ..]; exact shr32 b2.1
    · rw [hS.wrap, hS.add, hS.ofN, hS.ofN, wrap_i64 (by omega) (by omega)]; omega
    · rw [hS.inb, hS.ofN]; exact decide_eq_true (by omega)
    · rw [hS.isI, hS.W, W_isI]; exact decide_eq_true (by omega)
    · rw [hS.isI, hr, hS.nat, hS.ofN, W_isI]; exact decide_eq_true (by omega)
    · rw [hS.le, hS.ofN]; exact decide_eq_true (by omega)
    · rw [val_take_set _ (by omega), val_take_succ' l, Int.pow_succ]; exact hst
  have A2 : ∀ (o : List Int) (c : Int), o.length = n → Wd o → (0 ≤ c ∧ c < 2 ^ s) → val (o.take N) + c * 4294967296 ^ N = 2 ^ s * val (l.take N) → zidx 0 (zofN (zlen r)) = N ∧ zwrap .u32 c = c ∧ zsetI .u32 (zW .u32 o) N c = zW .u32 (o.set N c) ∧ zinb (zofN (zlen r)) n = true ∧ zisI .u32 (zW .u32 o) N = true ∧ zfit 0 n (zW .u32 (o.set N c)) = true ∧
      zpart (zW .u32 (o.set N c)) 0 n = W .u32 (wds n (2 ^ s * val l)) ∧ zW .u32 (o.set N c) = W .u32 (wds n (2 ^ s * val l)) ∧ zneq n (zlen (W .u32 (wds n (2 ^ s * val l)))) = true := fun o c ho hw hc hv => by
    have hq := pow2_le hs
    refine ⟨by rw [hS.idx, hS.ofN, h1]; omega, by rw [hS.wrap]; exact wrap_u32 hc.1 (by omega), by rw [hS.setI, hS.W, W_set], by rw [hS.inb, hS.ofN, h1]; exact decide_eq_true (by omega), by rw [hS.isI, hS.W, W_isI]; exact decide_eq_true (by omega), by rw [hS.fit, hS.W, W_len]; exact decide_eq_true (by simp; omega), ?_, ?_, by rw [hS.neq, hS.len, W_len, wds_length]; exact decide_eq_true rfl⟩
    all_goals have a1 := val_take_set (l := o) (k := N) c (by omega)
    all_goals rw [List.take_of_length_le (by simp; omega)] at a1
    all_goals rw [List.take_of_length_le (l := l) (by omega)] at hv
    · rw [hS.part, hS.W, W_part, List.drop_zero, List.take_of_length_le (by simp; omega)]
      congr 1
      exact wds_of (b := 0) (hw.set N hc.1 (by omega)) (by simpa using ho) (by rw [a1, ← hv]; grind)
    · rw [hS.W]
      congr 1
      exact wds_of (b := 0) (hw.set N hc.1 (by omega)) (by simpa using ho) (by rw [a1, ← hv]; grind)
  cbv
  rw [hn1, hnn, hrep]
  refine nd (by rw [hS.mkok, hS.ofN]; exact decide_eq_true ⟨Int.natCast_nonneg n, Int.le_refl _, by unfold capBytes; omega⟩) ?_
  refine loopZ ccOk mixed hS (fun (j : Nat) s' => ∃ (k : Nat) (o : List Int) (c : Int), k + j = N ∧ (o.length = n ∧ Wd o ∧ (0 ≤ c ∧ c < 2 ^ s) ∧ val (o.take k) + c * 4294967296 ^ k = 2 ^ s * val (l.take k)) ∧ s' = ishlSt r (zW .u32 o) S n c (zofN N) (zofN k)) (n := N)
    (s0 := ishlSt r (zW .u32 (List.replicate n 0)) S n 0 (zofN N) (zofN 0)) (le_of ?_ ?_) rfl (Nat.le_succ 2) ?_ ?_
  · simp [leT, ishlSt, mkSt, vi, vl, vnil, hS.ofN, h1]
  · simp [leH, ishlSt, mkSt]
  · exact ⟨0, _, 0, by omega, ⟨by simp, Wd.rep _, ⟨by omega, pow2_pos s⟩, by simp [val]⟩, rfl⟩
  · rintro j _ ⟨k, o, c, hk, ⟨ho, hw, hc, hv⟩, rfl⟩
    rcases Nat.lt_or_ge k N with hkn | hkn
    · obtain ⟨t, k1, E1, E2, E3, E4, E5, E6, E7, E8, E9, E10, E11, hk1, I1, I2, I3, I4⟩ := A1 k o c ho hw hc hv hkn
      have e6 : zlt (zofN k) (zofN N) = true := (L2 k N).trans (decide_eq_true hkn)
      have hj : k1 + (j - 1) = N ∧ j - 1 < j := by clear A1 A2; omega
      generalize l.getD k 0 = a at E1 E2
      clear A1 A2 hc hv
      cbv
      refine bT e6 ?_
      rw [E1, E2, E3, E4, E5, E6, E7]
      refine nd E11 (nd E10 (nd hs0 (nd E8 (nd E9 ?_))))
      exact again (s' := ishlSt r (zW .u32 (o.set k (t % 4294967296))) S n (t / 4294967296) (zofN N) (zofN k1)) (m := j - 1) (by simp [leT, ishlSt, mkSt, vi, vl, vnil]) (by simp [leH, ishlSt, mkSt]) rfl (Nat.le_succ 2) hj.2 ⟨k1, _, _, hj.1, ⟨I1, I2, I3, I4⟩, rfl⟩
    · obtain rfl : k = N := by clear A1 A2; omega
      obtain ⟨E1, E2, E3, E4, E5, E6, E7, E8, E9⟩ := A2 o c ho hw hc hv
      have e6 : zlt (zofN k) (zofN k) = false := (L2 k k).trans (decide_eq_false (Nat.lt_irrefl k))
      clear A1 A2 hc hv
      generalize wds n (2 ^ s * val l) = fin at *
      cbv
      refine bF e6 ?_
      rw [E1, E2, E3, E8]; exact nd E4 (nd E5 (nd E9 (hF _ (ResLe.refl _))))

/-! Down. -/
theorem mask_std {t : Int} (s : Nat) (hs : s < 32) (h0 : 0 ≤ t) (h1 : t < 18446744073709551616) : ZI.std.band .u64 t (2 ^ s - 1) = t % 2 ^ s := by
  obtain ⟨x, rfl⟩ := Int.eq_ofNat_of_zero_le h0
  have hp : 0 < 2 ^ s := Nat.two_pow_pos s
  have hq : 2 ^ s ≤ 2 ^ 31 := Nat.pow_le_pow_right (by omega) (by omega)
  have e : (2 : Int) ^ s - 1 = ((2 ^ s - 1 : Nat) : Int) := by rw [← cast_pow2]; omega
  rw [e, band_u64 (by omega) (by omega), Nat.and_two_pow_sub_one_eq_mod, Int.natCast_emod, cast_pow2]

def ishrSt (r R : Abs.Rows) (s : Int) (n : Nat) (c i : Int) : St := mkSt 41 [vl r, vi .i64 s, .junk, .junk, vnil, .c (.sl 2 0 n false), vi .u64 c, vi .i64 i] [none, none, some (.rows 1 R true false)]

theorem ishiftRight_call {r : Abs.Rows} {l : List Int} (s : Nat) (hr : r = W .u32 l) (hl : l.length ≤ 1099511627776) (hlw : Wd l) (hs : s < 32) :
    ACall Try.prog 90 [.val (tl r), .val (ti .i64 (s : Int))] ⟨[.val (tl (W .u32 (dg (val l / 2 ^ s).toNat)))], [none, none]⟩ := by
  obtain ⟨n, hn⟩ : ∃ n : Nat, n = l.length := ⟨_, rfl⟩
  have hcap : (n : Int) * 4 ≤ 70368744177664 := by omega
  obtain ⟨S, hS0⟩ : ∃ S : Int, S = (s : Int) := ⟨_, rfl⟩
  obtain ⟨q, hq⟩ : ∃ q, q = val l / 2 ^ s := ⟨_, rfl⟩
  rw [← hS0, ← hq]
  have hp := pow2_pos s
  have hp2 := pow2_le hs
  refine callZ ccOk mixed [.val] Try.func90 rfl rfl (by kernel_rfl) fun zwrap zadd zsub zmul zquo zrem zshl zshr zband zbor zbxor zbandn zeq zne zlt zle znot zbeq zbne zmax zmin znat zinb zofN zidx zneq znadd zdif zcut zroom zmkok zlen znth zsetr zisI zgetI zsetI zfit zpart zext zsetg zrep zwide zall zmok zmget zmset zW zth A L F hS hF => ?_
  have h1 : zlen r = n := by rw [hS.len, hr, W_len, hn]
  have hnn : znat (zofN n) = n := by rw [hS.nat, hS.ofN]; omega
  have hrep : zrep n [.v (.int .u32 0)] = zW .u32 (List.replicate n 0) := by rw [hS.rep, hS.W]; exact W_rep ..
  have hi0 : zwrap .i64 (zsub (zofN n) 1) = zsub (zofN n) 1 := by rw [hS.wrap, hS.sub, hS.ofN]; exact wrap_i64 (by omega) (by omega)
  have hs0 : zle 0 S = true := by rw [hS.le]; exact decide_eq_true (by omega)
  have hmask : zwrap .u64 (zsub (zshl .u64 1 S) 1) = 2 ^ s - 1 := by
    rw [show ∀ x, zshl .u64 x S = ZI.std.shl .u64 x S from fun _ => hS.shl .., shl_std s hS0 (by show s ≤ 64; omega), Int.one_mul, wrap_u64 (by omega) (by omega), hS.sub, hS.wrap, wrap_u64 (by omega) (by omega)]
  obtain ⟨M, hM⟩ : ∃ M : Int, M = 2 ^ s - 1 := ⟨_, rfl⟩
  rw [← hM] at hmask
  have A1 : ∀ (k : Nat) (o : List Int) (c : Int), k ≤ n → o.length = n → Wd o → (0 ≤ c ∧ c < 2 ^ s) → val (l.drop k) = 2 ^ s * val (o.drop k) + c → 1 ≤ k → ∃ (t q e : Int), zgetI r (znat (zsub (zofN k) 1)) = l.getD (k - 1) 0 ∧ zbor .u64 (zshl .u64 c 32) (zwrap .u64 (l.getD (k - 1) 0)) = t ∧ zshr .u64 t S = q ∧ zwrap .u32 q = q ∧ zband .u64 t M = e ∧
      zwrap .i64 (zsub (zsub (zofN k) 1) 1) = zsub (zofN (k - 1)) 1 ∧ zidx 0 (zsub (zofN k) 1) = k - 1 ∧ (∀ x, zsetI .u32 (zW .u32 o) (k - 1) x = zW .u32 (o.set (k - 1) x)) ∧ zinb (zsub (zofN k) 1) n = true ∧ zisI .u32 (zW .u32 o) (k - 1) = true ∧ zisI .u32 r (znat (zsub (zofN k) 1)) = true ∧ zle 0 (zsub (zofN k) 1) = true ∧
      k - 1 ≤ n ∧ (o.set (k - 1) q).length = n ∧ Wd (o.set (k - 1) q) ∧ (0 ≤ e ∧ e < 2 ^ s) ∧ val (l.drop (k - 1)) = 2 ^ s * val ((o.set (k - 1) q).drop (k - 1)) + e := fun k o c hk ho hw hc hv h => by
    have ga := hlw.get (k - 1)
    obtain ⟨t, ht⟩ : ∃ t, t = c * 4294967296 + l.getD (k - 1) 0 := ⟨_, rfl⟩
    have hst := short_step hv ht
    have hb := short_bound hp hc ga
    rw [← ht] at hb
    have hmod := Int.emod_nonneg t (show (2 : Int) ^ s ≠ 0 by omega)
    have hmod2 := Int.emod_lt_of_pos t hp
    have hi : zsub (zofN k) 1 = (k : Int) - 1 := by rw [hS.sub, hS.ofN]
    have hnt : znat (zsub (zofN k) 1) = k - 1 := by rw [hS.nat, hi]; omega
    have htb : 0 ≤ t ∧ t < 18446744073709551616 := by omega
    refine ⟨t, t / 2 ^ s, t % 2 ^ s, by rw [hS.getI, hnt, hr, W_getI], ?_, ?_, ?_, ?_, ?_, ?_, fun x => by rw [hS.setI, hS.W, W_set], ?_, ?_, ?_, ?_, by omega, by simpa using ho, hw.set _ hb.1 hb.2, ⟨hmod, hmod2⟩, ?_⟩
    · rw [hS.wrap, wrap_u64 (x := l.getD (k - 1) 0) (by omega) (by omega), show zshl .u64 c 32 = ZI.std.shl .u64 c 32 from hS.shl .., show ∀ x y, zbor .u64 x y = ZI.std.bor .u64 x y from fun _ _ => hS.bor .., two_words hc.1 (by omega) ga.1 ga.2, ht]
    · rw [show ∀ x, zshr .u64 x S = ZI.std.shr .u64 x S from fun _ => hS.shr .., shr_std s hS0 (by show s ≤ 64; omega) htb.1]
    · rw [hS.wrap]; exact wrap_u32 hb.1 (by omega)
    · rw [show ∀ x y, zband .u64 x y = ZI.std.band .u64 x y from fun _ _ => hS.band .., hM, mask_std s hs htb.1 htb.2]
    · rw [hi, hS.wrap, hS.sub, hS.sub, hS.ofN, wrap_i64 (by omega) (by omega)]; omega
    · rw [hS.idx, hi]; omega
    · rw [hS.inb, hi]; exact decide_eq_true (by omega)
    · rw [hS.isI, hS.W, W_isI]; exact decide_eq_true (by omega)
    · rw [hS.isI, hr, hnt, W_isI]; exact decide_eq_true (by omega)
    · rw [hS.le, hi]; exact decide_eq_true (by omega)
    · rw [val_drop_succ (l := l) (by omega), val_drop_succ (l := o.set (k - 1) (t / 2 ^ s)) (by simp; omega), getD_set_self _ (by omega), drop_set_succ, show k - 1 + 1 = k by omega]
      exact hst
  cbv
  rw [h1, hnn, hrep, hi0]
  refine nd (by rw [hS.mkok, hS.ofN]; exact decide_eq_true ⟨Int.natCast_nonneg n, Int.le_refl _, by unfold capBytes; omega⟩) ?_
  refine loopZ ccOk mixed hS (fun (k : Nat) s' => ∃ (o : List Int) (c : Int), (k ≤ n ∧ o.length = n ∧ Wd o ∧ (0 ≤ c ∧ c < 2 ^ s) ∧ val (l.drop k) = 2 ^ s * val (o.drop k) + c) ∧ s' = ishrSt r (zW .u32 o) S n c (zsub (zofN k) 1)) (n := n)
    (s0 := ishrSt r (zW .u32 (List.replicate n 0)) S n 0 (zsub (zofN n) 1)) (le_of ?_ ?_) rfl (Nat.le_succ 2) ?_ ?_
  · simp [leT, ishrSt, mkSt, vi, vl, vnil, hS.ofN]
  · simp [leH, ishrSt, mkSt]
  · refine ⟨_, 0, ⟨Nat.le_refl _, by simp, Wd.rep _, ⟨by omega, hp⟩, ?_⟩, rfl⟩
    rw [List.drop_of_length_le (by omega), List.drop_of_length_le (by simp)]; simp [val]
  · rintro k _ ⟨o, c, ⟨hk, ho, hw, hc, hv⟩, rfl⟩
    rcases Nat.eq_zero_or_pos k with hk0 | hk0
    · subst hk0
      have e6 : zle 0 (zsub (zofN 0) 1) = false := by rw [hS.le, hS.sub, hS.ofN]; rfl
      have e10 : zfit 0 n (zW .u32 o) = true := by rw [hS.fit, hS.W, W_len]; exact decide_eq_true (by omega)
      have e11 : zpart (zW .u32 o) 0 n = W .u32 o := by rw [hS.part, hS.W, W_part, List.drop_zero, List.take_of_length_le (by omega)]
      have hT := itrim_call (r := W .u32 o) rfl (by omega) hw
      have hend : val o = q := by
        simp only [List.drop_zero] at hv
        rw [hq, hv, Int.add_comm, Int.add_mul_ediv_left _ _ (by omega), Int.ediv_eq_zero_of_lt hc.1 hc.2, Int.zero_add]
      rw [hend] at hT
      clear A1 hv hc hmask hM hq hp hp2
      generalize W .u32 (dg q.toNat) = x at *
      cbv
      refine bF e6 (nd e10 ?_)
      rw [e11]
      refine ⟨_, hS.call hT, ?_⟩
      cbv
      exact hF _ (ResLe.refl _)
    · obtain ⟨t, d, e, E1, E2, E3, E4, E5, E6, E7, E8, E9, E10, E11, E12, I⟩ := A1 k o c hk ho hw hc hv hk0
      have hj : k - 1 < k := by clear A1; omega
      obtain ⟨k1, hk1⟩ : ∃ k1, k1 = k - 1 := ⟨_, rfl⟩
      rw [← hk1] at E1 E2 E6 E7 E8 E10 I hj
      generalize l.getD k1 0 = a at E1 E2
      clear A1 hc hv hk1
      cbv
      refine bT E12 ?_
      rw [E1, E2, E3, E4, hmask, E5, E6, E7, E8]
      refine nd E12 (nd E11 (nd hs0 (nd E9 (nd E10 (nd hs0 ?_)))))
      exact again (s' := ishrSt r (zW .u32 (o.set k1 d)) S n e (zsub (zofN k1) 1)) (m := k1) (by simp [leT, ishrSt, mkSt, vi, vl, vnil]) (by simp [leH, ishrSt, mkSt]) rfl (Nat.le_succ 2) hj ⟨_, _, I, rfl⟩
end Go.Proofs.Ytgncmjcoojmccaa
end

section
set_option linter.unusedVariables false
set_option linter.unusedSimpArgs false
/-
  The digit of a quotient, its multiple taken away, and given back: two loops over words.
-/
set_option linter.unusedVariables false
namespace Go.Abs.M

theorem dif_word2 {a b c d : Int} (ha : 0 ≤ a ∧ a < 4294967296) (hb : 0 ≤ b ∧ b < 4294967296) (hc : 0 ≤ c ∧ c ≤ 1) (hd : d = ((a - b) % 18446744073709551616 - c) % 18446744073709551616) :
    d % 4294967296 = (4294967296 + a - b - c) % 4294967296 ∧ d / 9223372036854775808 = 1 - (4294967296 + a - b - c) / 4294967296 ∧ 0 ≤ d := by omega

structure QwI (u v : List Int) (n : Nat) (g : Int) (k : Nat) (o : List Int) (c b : Int) : Prop where
  lo : o.length = n + 1
  wo : Wd o
  hc : 0 ≤ c ∧ c < 4294967296
  hb : 0 ≤ b ∧ b ≤ 1
  dr : o.drop k = u.drop k
  eq : val (o.take k) = val (u.take k) - g * val (v.take k) + (b + c) * 4294967296 ^ k

theorem drop_getD_eq {o u : List Int} {k : Nat} (h : o.drop k = u.drop k) : o.getD k 0 = u.getD k 0 := by
  have := congrArg (fun y => List.getD y 0 0) h
  simpa [List.getD_eq_getElem?_getD] using this

theorem drop_set_eq {o u : List Int} {k : Nat} (x : Int) (h : o.drop k = u.drop k) : (o.set k x).drop (k + 1) = u.drop (k + 1) := by
  rw [drop_set_succ]
  have := congrArg (List.drop 1) h
  simpa [List.drop_drop] using this

section
variable {u v o : List Int} {n k : Nat} {g c b pr d : Int}

theorem QwI.start (hu : u.length = n + 1) (hw : Wd u) : QwI u v n g 0 u 0 0 := ⟨hu, hw, by omega, by omega, rfl, by simp [val]⟩

theorem QwI.step (h : QwI u v n g k o c b) (huw : Wd u) (hvw : Wd v) (hg0 : 0 ≤ g) (hg1 : g ≤ 4294967296) (hk : k < n) (hpr : pr = g * v.getD k 0 + c) (hd : d = ((u.getD k 0 - pr % 4294967296) % 18446744073709551616 - b) % 18446744073709551616) :
    (0 ≤ g * v.getD k 0 ∧ g * v.getD k 0 < 18446744073709551616) ∧ (0 ≤ pr ∧ pr < 18446744073709551616) ∧ 0 ≤ d ∧ o.getD k 0 = u.getD k 0 ∧ QwI u v n g (k + 1) (o.set k (d % 4294967296)) (pr / 4294967296) (d / 9223372036854775808) := by
  obtain ⟨lo, wo, hc, hb, dr, eq⟩ := h
  have ga := huw.get k
  have gv := hvw.get k
  have hgv : 0 ≤ g * v.getD k 0 ∧ g * v.getD k 0 ≤ 4294967296 * 4294967295 := ⟨Int.mul_nonneg hg0 gv.1, Int.mul_le_mul hg1 (by omega) gv.1 (by omega)⟩
  obtain ⟨t, ht⟩ : ∃ t, t = 4294967296 + u.getD k 0 - pr % 4294967296 - b := ⟨_, rfl⟩
  have hst := lessen_step eq hpr ht
  obtain ⟨d1, d2, d3⟩ := dif_word2 ga (show 0 ≤ pr % 4294967296 ∧ pr % 4294967296 < 4294967296 by omega) hb hd
  rw [← ht] at d1 d2
  refine ⟨by omega, by omega, d3, drop_getD_eq dr, ?_⟩
  rw [d1, d2]
  refine ⟨by simpa using lo, wo.set _ (by omega) (by omega), by omega, by omega, drop_set_eq _ dr, ?_⟩
  rw [val_take_set _ (by omega), val_take_succ' u, val_take_succ' v, Int.pow_succ, hst, Int.mul_add]

theorem QwI.last (h : QwI u v n g n o c b) (hu : u.length = n + 1) (hv : v.length = n) (huw : Wd u) (hd : d = ((u.getD n 0 - c) % 18446744073709551616 - b) % 18446744073709551616) :
    0 ≤ d ∧ o.getD n 0 = u.getD n 0 ∧ (d / 9223372036854775808 = 0 ↔ ¬ val u - g * val v < 0) ∧ o.set n (d % 4294967296) = wds (n + 1) (val u - g * val v) ∧ (o.set n (d % 4294967296)).length = n + 1 := by
  obtain ⟨lo, wo, hc, hb, dr, eq⟩ := h
  have gun := huw.get n
  obtain ⟨n1, n2, n3⟩ := dif_word2 gun hc hb hd
  obtain ⟨y, hy⟩ : ∃ y, y = 4294967296 + u.getD n 0 - c - b := ⟨_, rfl⟩
  rw [← hy] at n1 n2
  rw [n1, n2]
  have wo2 : Wd (o.set n (y % 4294967296)) := wo.set _ (by omega) (by omega)
  have lo2 : (o.set n (y % 4294967296)).length = n + 1 := by simpa using lo
  have hsum : val (o.set n (y % 4294967296)) = (val u - g * val v) + (1 - y / 4294967296) * 4294967296 ^ (n + 1) := by
    have a1 := val_take_set (l := o) (k := n) (y % 4294967296) (by omega)
    rw [List.take_of_length_le (by omega)] at a1
    have a2 := val_take_succ' u n
    rw [List.take_of_length_le (by omega)] at a2
    rw [List.take_of_length_le (l := v) (by omega)] at eq
    have a3 := Int.emod_add_mul_ediv y 4294967296
    have a4 : y % 4294967296 = 4294967296 + u.getD n 0 - c - b - 4294967296 * (y / 4294967296) := by omega
    rw [a1, a2, eq, Int.pow_succ, a4]
    generalize y / 4294967296 = z at *
    generalize (4294967296 : Int) ^ n = p at *
    generalize val v = vv at *
    generalize val (u.take n) = uu at *
    generalize u.getD n 0 = w at *
    clear a1 a2 a3 a4 eq n1 n2 hd hy wo2 lo2 dr
    grind
  refine ⟨n3, drop_getD_eq dr, ?_, wds_of wo2 lo2 hsum, lo2⟩
  have a2 := val_lt wo2
  have a3 := val_nonneg wo2
  rw [lo2] at a2
  have a4 := pow_pos' (n + 1)
  rcases (show 1 - y / 4294967296 = 0 ∨ 1 - y / 4294967296 = 1 by omega) with h1 | h1
  · rw [h1] at hsum ⊢; constructor <;> intro <;> omega
  · rw [h1] at hsum ⊢; constructor <;> intro <;> omega

structure QrI (u v : List Int) (n : Nat) (k : Nat) (o : List Int) (c : Int) : Prop where
  lo : o.length = n + 1
  wo : Wd o
  hc : 0 ≤ c ∧ c ≤ 1
  dr : o.drop k = u.drop k
  eq : val (o.take k) + c * 4294967296 ^ k = val (u.take k) + val (v.take k)

theorem QrI.start (hu : u.length = n + 1) (hw : Wd u) : QrI u v n 0 u 0 := ⟨hu, hw, by omega, rfl, by simp [val]⟩

theorem QrI.step {t : Int} (h : QrI u v n k o c) (huw : Wd u) (hvw : Wd v) (hk : k < n) (ht : t = u.getD k 0 + v.getD k 0 + c) :
    (0 ≤ t ∧ t < 18446744073709551616) ∧ o.getD k 0 = u.getD k 0 ∧ QrI u v n (k + 1) (o.set k (t % 4294967296)) (t / 4294967296) := by
  obtain ⟨lo, wo, hc, dr, eq⟩ := h
  have ga := huw.get k
  have gv := hvw.get k
  have hst := add_step eq ht
  refine ⟨by omega, drop_getD_eq dr, by simpa using lo, wo.set _ (by omega) (by omega), by omega, drop_set_eq _ dr, ?_⟩
  rw [val_take_set _ (by omega), val_take_succ' u, val_take_succ' v, Int.pow_succ]
  exact hst

theorem QrI.last (h : QrI u v n n o c) (hu : u.length = n + 1) (hv : v.length = n) (huw : Wd u) : o.getD n 0 = u.getD n 0 ∧ o.set n ((u.getD n 0 + c) % 4294967296) = wds (n + 1) (val u + val v) ∧ (o.set n ((u.getD n 0 + c) % 4294967296)).length = n + 1 := by
  obtain ⟨lo, wo, hc, dr, eq⟩ := h
  have gun := huw.get n
  obtain ⟨y, hy⟩ : ∃ y, y = u.getD n 0 + c := ⟨_, rfl⟩
  rw [← hy]
  have wo2 : Wd (o.set n (y % 4294967296)) := wo.set _ (by omega) (by omega)
  have lo2 : (o.set n (y % 4294967296)).length = n + 1 := by simpa using lo
  refine ⟨drop_getD_eq dr, wds_of (b := -(y / 4294967296)) wo2 lo2 ?_, lo2⟩
  have a1 := val_take_set (l := o) (k := n) (y % 4294967296) (by omega)
  rw [List.take_of_length_le (by omega)] at a1
  have a2 := val_take_succ' u n
  rw [List.take_of_length_le (by omega)] at a2
  rw [List.take_of_length_le (l := v) (by omega)] at eq
  have a3 := Int.emod_add_mul_ediv y 4294967296
  have a4 : y % 4294967296 = u.getD n 0 + c - 4294967296 * (y / 4294967296) := by omega
  have a5 : val (o.take n) = val (u.take n) + val v - c * 4294967296 ^ n := by omega
  rw [a1, a2, a5, Int.pow_succ, a4]
  generalize y / 4294967296 = z at *
  generalize (4294967296 : Int) ^ n = p at *
  generalize val v = vv at *
  generalize val (u.take n) = uu at *
  generalize u.getD n 0 = w at *
  clear a1 a2 a3 a4 a5 eq hy wo2 lo2 dr
  grind
end
end Go.Abs.M
end

section
set_option linter.unusedVariables false
set_option linter.unusedSimpArgs false
set_option maxHeartbeats 8000000
set_option linter.unusedVariables false
set_option linter.unusedSimpArgs false
set_option maxRecDepth 100000
namespace Go.Proofs.Ytgncmjcoojmccaa
open Go Go.Abs Go.Abs.M Go.Proofs

def iqw3St (r s : Abs.Rows) (l : Nat) (n q c i : Int) : St := mkSt 171 [.c (.sl 0 0 l false), vl s, .junk, .junk, vi .u32 0, vi .i64 n, .junk, vi .u64 q, .junk, vi .u64 c, .junk, .junk, .junk, .junk, .junk, .junk, .junk, .junk, .junk, .junk, .junk, .junk, .junk, .junk, .junk, .junk, .junk, .junk, .junk, .junk, .junk, .junk, .junk, .junk, .junk, .junk, .junk, .junk, .junk, .junk, .junk, .junk, .junk, .junk, .junk, .junk, .junk, .junk, .junk, .junk, .junk, .junk, .junk, .junk, .junk, .junk, .junk, .junk, .junk, .junk, .junk, .junk, .junk, .junk, .junk, .junk, .junk, .junk, .junk, .junk, .junk, .junk, .junk, .junk, .junk, .junk, .junk, .junk, .junk, .junk, .junk, .junk, .junk, .junk, .junk, .junk, .junk, .junk, .junk, .junk, .junk, .junk, .junk, .junk, .junk, .junk, .junk, .junk, .junk, .junk, .junk, .junk, .junk, .junk, .junk, .junk, .junk, .junk, .junk, .junk, .junk, .junk, .junk, .junk, .junk, .junk, .junk, .junk, .junk, .junk, .junk, .junk, .junk, .junk, .junk, .junk, .junk, .junk, .junk, .junk, .junk, .junk, .junk, .junk, .junk, vi .i64 n, vi .i64 i] [some (.rows 1 r false false), none]

/-- Ways that come together again: what is behind them is shown once. -/
theorem shared {L : Code → St → (AExit → ST → Prop) → Prop} {G : Prop} {c : Code} {Q : AExit → ST → Prop} {S : List AV → Heap → Prop} (main : (∀ T H, S T H → L c (St.mk T H) Q) → G) (rest : ∀ T H, S T H → L c (St.mk T H) Q) : G := main rest

def iqw2St (r s : Abs.Rows) (l : Nat) (n q c b i : Int) : St := mkSt 171 [.c (.sl 0 0 l false), vl s, .junk, .junk, vi .u32 0, vi .i64 n, .junk, vi .u64 q, .junk, vi .u64 c, vi .u64 b, .junk, .junk, .junk, .junk, .junk, .junk, .junk, .junk, .junk, .junk, .junk, .junk, .junk, .junk, .junk, .junk, .junk, .junk, .junk, .junk, .junk, .junk, .junk, .junk, .junk, .junk, .junk, .junk, .junk, .junk, .junk, .junk, .junk, .junk, .junk, .junk, .junk, .junk, .junk, .junk, .junk, .junk, .junk, .junk, .junk, .junk, .junk, .junk, .junk, .junk, .junk, .junk, .junk, .junk, .junk, .junk, .junk, .junk, .junk, .junk, .junk, .junk, .junk, .junk, .junk, .junk, .junk, .junk, .junk, .junk, .junk, vi .i64 n, vi .i64 i] [some (.rows 1 r false false), none]

def iqw1St (r s : Abs.Rows) (len : Nat) (n t q e : Int) : St := mkSt 171 [.c (.sl 0 0 len false), vl s, .junk, .junk, vi .u32 0, vi .i64 n, vi .u64 t, vi .u64 q, vi .u64 e] [some (.rows 1 r false false), none]

theorem iquotientWord_call {r s : Abs.Rows} {u v x : List Int} {n : Nat} (g qd : Int) (hr : r = W .u32 u) (hs : s = W .u32 v) (hu : u.length = n + 1) (hv : v.length = n) (hn : 2 ≤ n) (hn2 : n ≤ 1099511627776) (huw : Wd u) (hvw : Wd v) (htop : 2147483648 ≤ v.getD (n - 1) 0)
    (hg : g = guess0 (v.getD (n - 1) 0) (v.getD (n - 2) 0) (u.getD (n - 2) 0) (u.getD n 0 * 4294967296 + u.getD (n - 1) 0)) (hg0 : 0 ≤ g) (hg1 : g ≤ 4294967296) (hqd : 0 ≤ qd ∧ qd < 4294967296)
    (hneg : val u - g * val v < 0 → g - 1 = qd ∧ x = wds (n + 1) (val u - g * val v + val v)) (hpos' : ¬ val u - g * val v < 0 → g = qd ∧ x = wds (n + 1) (val u - g * val v)) :
    ACall Try.prog 89 [.bor 1 r, .val (tl s)] ⟨[.val (ti .u32 qd)], [some (.rows 1 (W .u32 x) false false), none]⟩ := by
  have g1' := huw.get n
  have g2 := huw.get (n - 1)
  have g3 := huw.get (n - 2)
  have g4 := hvw.get (n - 1)
  have g5 := hvw.get (n - 2)
  obtain ⟨t, ht⟩ : ∃ t, t = u.getD n 0 * 4294967296 + u.getD (n - 1) 0 := ⟨_, rfl⟩
  rw [← ht] at hg
  refine callZ ccOk mixed [.val] Try.func89 rfl rfl (by kernel_rfl) fun zwrap zadd zsub zmul zquo zrem zshl zshr zband zbor zbxor zbandn zeq zne zlt zle znot zbeq zbne zmax zmin znat zinb zofN zidx zneq znadd zdif zcut zroom zmkok zlen znth zsetr zisI zgetI zsetI zfit zpart zext zsetg zrep zwide zall zmok zmget zmset zW zth A L F hS hF => ?_
  have h1 : zlen r = n + 1 := by rw [hS.len, hr, W_len, hu]
  have h2 : zlen s = n := by rw [hS.len, hs, W_len, hv]
  have hrW : r = zW .u32 u := by rw [hS.W]; exact hr
  have w1 : zwrap .i64 (zsub (zofN n) 1) = zofN (n - 1) := by rw [hS.wrap, hS.sub, hS.ofN, hS.ofN, wrap_i64 (by omega) (by omega)]; omega
  have w2 : zwrap .i64 (zsub (zofN n) 2) = zofN (n - 2) := by rw [hS.wrap, hS.sub, hS.ofN, hS.ofN, wrap_i64 (by omega) (by omega)]; omega
  have f2 : ∀ q, zidx 0 (zofN q) = q := fun q => by rw [hS.idx, hS.ofN]; omega
  have f3 : ∀ q, q < n + 1 → zinb (zofN q) (zlen r) = true := fun q hq => by rw [h1, hS.inb, hS.ofN]; exact decide_eq_true (by omega)
  have f4 : ∀ q, q < n + 1 → zisI .u32 r q = true := fun q hq => by rw [hS.isI, hr, W_isI]; exact decide_eq_true (by omega)
  have f5 : ∀ q, zgetI r q = u.getD q 0 := fun q => by rw [hS.getI, hr, W_getI]
  have f6 : ∀ q, zle 0 (zofN q) = true := fun q => by rw [hS.le, hS.ofN]; exact decide_eq_true (by omega)
  have f7 : ∀ q, q < n → zisI .u32 s (znat (zofN q)) = true := fun q hq => by rw [hS.isI, hs, hS.nat, hS.ofN, W_isI]; exact decide_eq_true (by omega)
  have f8 : ∀ q, zgetI s (znat (zofN q)) = v.getD q 0 := fun q => by rw [hS.getI, hS.nat, hS.ofN, hs, W_getI, Int.toNat_natCast]
  have eu : ∀ q, zwrap .u64 (u.getD q 0) = u.getD q 0 := fun q => by have := huw.get q; rw [hS.wrap, wrap_u64 (by omega) (by omega)]
  have ev : ∀ q, zwrap .u64 (v.getD q 0) = v.getD q 0 := fun q => by have := hvw.get q; rw [hS.wrap, wrap_u64 (by omega) (by omega)]
  have et : zbor .u64 (zshl .u64 (u.getD n 0) 32) (u.getD (n - 1) 0) = t := by
    rw [show zshl .u64 (u.getD n 0) 32 = ZI.std.shl .u64 (u.getD n 0) 32 from hS.shl .., show ∀ x y, zbor .u64 x y = ZI.std.bor .u64 x y from fun _ _ => hS.bor .., two_words g1'.1 g1'.2 g2.1 g2.2, ht]
  have htb : 0 ≤ t ∧ t < 18446744073709551616 := by omega
  have hnz : zne (v.getD (n - 1) 0) 0 = true := by rw [hS.ne]; exact decide_eq_true (by omega)
  have hq0 : 0 ≤ t / v.getD (n - 1) 0 := Int.ediv_nonneg (by omega) (by omega)
  have hq1 : t / v.getD (n - 1) 0 < 8589934592 := Int.ediv_lt_of_lt_mul (by omega) (by omega)
  have hm0 := Int.emod_nonneg t (show v.getD (n - 1) 0 ≠ 0 by omega)
  have hm1 := Int.emod_lt_of_pos t (show 0 < v.getD (n - 1) 0 by omega)
  have eq : zwrap .u64 (zquo t (v.getD (n - 1) 0)) = t / v.getD (n - 1) 0 := by rw [hS.quo, Int.tdiv_eq_ediv_of_nonneg (by omega), hS.wrap]; exact wrap_u64 (by omega) (by omega)
  have er : zrem t (v.getD (n - 1) 0) = t % v.getD (n - 1) 0 := by rw [hS.rem, Int.tmod_eq_emod_of_nonneg (by omega)]
  have hstart : guessF (v.getD (n - 1) 0) (v.getD (n - 2) 0) (u.getD (n - 2) 0) 3 (t / v.getD (n - 1) 0) (t % v.getD (n - 1) 0) = g := hg.symm
  have e10 : zneq (zlen r) (zlen r) = true := by rw [hS.neq]; exact decide_eq_true rfl
  have L2 := zlt_nat hS.lt hS.ofN
  have W1 : ∀ z, z = qd → zwrap .u32 z = qd := fun z hz => by rw [hS.wrap, hz]; exact wrap_u32 hqd.1 (by omega)
  have A2 : ∀ (k : Nat) (o : List Int) (c b : Int), QwI u v n g k o c b → k < n → ∃ (pr d : Int) (k1 : Nat), zgetI (zW .u32 o) k = u.getD k 0 ∧ zwrap .u64 (zadd (zwrap .u64 (zmul g (v.getD k 0))) c) = pr ∧ zwrap .u64 (zwrap .u32 pr) = pr % 4294967296 ∧ zshr .u64 pr 32 = pr / 4294967296 ∧
      zwrap .u64 (zsub (zwrap .u64 (zsub (u.getD k 0) (pr % 4294967296))) b) = d ∧ zwrap .u32 d = d % 4294967296 ∧ zshr .u64 d 63 = d / 9223372036854775808 ∧ zwrap .i64 (zadd (zofN k) 1) = zofN k1 ∧ zwrap .u64 (u.getD k 0) = u.getD k 0 ∧ zwrap .u64 (v.getD k 0) = v.getD k 0 ∧
      (∀ x, zsetI .u32 (zW .u32 o) k x = zW .u32 (o.set k x)) ∧ zisI .u32 (zW .u32 o) k = true ∧ zgetI s (znat (zofN k)) = v.getD k 0 ∧ k1 = k + 1 ∧ QwI u v n g k1 (o.set k (d % 4294967296)) (pr / 4294967296) (d / 9223372036854775808) := fun k o c b hI hk => by
    obtain ⟨i1, i2, i3, i4, i5⟩ := hI.step huw hvw hg0 hg1 hk rfl rfl
    have hlo := hI.lo
    have hc := hI.hc
    refine ⟨_, _, k + 1, by rw [hS.getI, hS.W, W_getI, i4], ?_, ?_, ?_, ?_, ?_, ?_, ?_, eu k, ev k, fun x => by rw [hS.setI, hS.W, W_set], by rw [hS.isI, hS.W, W_isI]; exact decide_eq_true (by omega), f8 k, rfl, i5⟩
    · rw [hS.wrap, hS.wrap, hS.mul, hS.add, wrap_u64 i1.1 i1.2, wrap_u64 i2.1 i2.2]
    · rw [hS.wrap, hS.wrap, wrap_u32m, wrap_u64 (by omega) (by omega)]
    · rw [show ∀ x, zshr .u64 x 32 = ZI.std.shr .u64 x 32 from fun _ => hS.shr ..]; exact shr32 i2.1
    · rw [hS.wrap, hS.wrap, hS.sub, hS.sub, wrap_u64m, wrap_u64m]
    · rw [hS.wrap, wrap_u32m]
    · rw [show ∀ x, zshr .u64 x 63 = ZI.std.shr .u64 x 63 from fun _ => hS.shr ..]; exact shr63 i3
    · rw [hS.wrap, hS.add, hS.ofN, hS.ofN, wrap_i64 (by omega) (by omega)]; omega
  have A3 : ∀ (o : List Int) (c b : Int), QwI u v n g n o c b → ∃ (un d : Int) (y : List Int), zgetI (zW .u32 o) n = un ∧ zwrap .u64 un = un ∧ zwrap .u64 (zsub (zwrap .u64 (zsub un c)) b) = d ∧ zwrap .u32 d = d % 4294967296 ∧ zsetI .u32 (zW .u32 o) n (d % 4294967296) = zW .u32 y ∧
      zisI .u32 (zW .u32 o) n = true ∧ zneq (zlen (zW .u32 y)) (zlen r) = true ∧ (zeq (zshr .u64 d 63) 0 = true → g = qd ∧ y = x) ∧ (zeq (zshr .u64 d 63) 0 = false → g - 1 = qd ∧ x = wds (n + 1) (val y + val v)) ∧ Wd y ∧ y.length = n + 1 := fun o c b hI => by
    obtain ⟨i1, i2, i3, i4, i5⟩ := hI.last hu hv huw rfl
    have hlo := hI.lo
    refine ⟨u.getD n 0, _, _, by rw [hS.getI, hS.W, W_getI, i2], eu n, by rw [hS.wrap, hS.wrap, hS.sub, hS.sub, wrap_u64m, wrap_u64m], by rw [hS.wrap, wrap_u32m], by rw [hS.setI, hS.W, W_set], by rw [hS.isI, hS.W, W_isI]; exact decide_eq_true (by omega), ?_, fun h => ?_, fun h => ?_, by rw [i4]; exact wds_wd _ _, i5⟩
    · rw [h1, hS.neq, hS.len, hS.W, W_len, i5]; exact decide_eq_true rfl
    · rw [show ∀ x, zshr .u64 x 63 = ZI.std.shr .u64 x 63 from fun _ => hS.shr .., shr63 i1, hS.eq] at h
      obtain ⟨j1, j2⟩ := hpos' (i3.1 (of_decide_eq_true h))
      exact ⟨j1, by rw [i4, j2]⟩
    · rw [show ∀ x, zshr .u64 x 63 = ZI.std.shr .u64 x 63 from fun _ => hS.shr .., shr63 i1, hS.eq] at h
      have h' : val u - g * val v < 0 := Decidable.byContradiction fun h6 => of_decide_eq_false h (i3.2 h6)
      obtain ⟨j1, j2⟩ := hneg h'
      exact ⟨j1, by rw [i4, j2, wds_back]⟩
  have A4 : ∀ (y : List Int), Wd y → y.length = n + 1 → x = wds (n + 1) (val y + val v) → (∀ (k : Nat) (o : List Int) (c : Int), QrI y v n k o c → k < n → ∃ (t : Int) (k1 : Nat), zgetI (zW .u32 o) k = y.getD k 0 ∧ zwrap .u64 (zadd (zwrap .u64 (zadd (y.getD k 0) (v.getD k 0))) c) = t ∧ zwrap .u32 t = t % 4294967296 ∧ zshr .u64 t 32 = t / 4294967296 ∧
      zwrap .i64 (zadd (zofN k) 1) = zofN k1 ∧ zwrap .u64 (y.getD k 0) = y.getD k 0 ∧ zwrap .u64 (v.getD k 0) = v.getD k 0 ∧ (∀ z, zsetI .u32 (zW .u32 o) k z = zW .u32 (o.set k z)) ∧ zisI .u32 (zW .u32 o) k = true ∧ zgetI s (znat (zofN k)) = v.getD k 0 ∧ k1 = k + 1 ∧ QrI y v n k1 (o.set k (t % 4294967296)) (t / 4294967296)) ∧
      (∀ (o : List Int) (c : Int), QrI y v n n o c → ∃ (yn d : Int), zgetI (zW .u32 o) n = yn ∧ zwrap .u32 c = c ∧ zwrap .u32 (zadd yn c) = d ∧ zsetI .u32 (zW .u32 o) n d = zW .u32 x ∧ zisI .u32 (zW .u32 o) n = true ∧ zneq (zlen (zW .u32 x)) (zlen r) = true) := fun y wy ly hx => by
    refine ⟨fun k o c hI hk => ?_, fun o c hI => ?_⟩
    · obtain ⟨i1, i2, i3⟩ := hI.step wy hvw hk rfl
      have hlo := hI.lo
      have hc := hI.hc
      have b1 := wy.get k
      have b2 := hvw.get k
      refine ⟨_, k + 1, by rw [hS.getI, hS.W, W_getI, i2], ?_, ?_, ?_, ?_, ?_, ev k, fun x => by rw [hS.setI, hS.W, W_set], by rw [hS.isI, hS.W, W_isI]; exact decide_eq_true (by omega), f8 k, rfl, i3⟩
      · rw [hS.wrap, hS.wrap, hS.add, hS.add, wrap_u64 (x := y.getD k 0 + v.getD k 0) (by omega) (by omega), wrap_u64 i1.1 i1.2]
      · rw [hS.wrap, wrap_u32m]
      · rw [show ∀ x, zshr .u64 x 32 = ZI.std.shr .u64 x 32 from fun _ => hS.shr ..]; exact shr32 i1.1
      · rw [hS.wrap, hS.add, hS.ofN, hS.ofN, wrap_i64 (by omega) (by omega)]; omega
      · rw [hS.wrap, wrap_u64 (by omega) (by omega)]
    · obtain ⟨i1, i2, i3⟩ := hI.last ly hv wy
      have hlo := hI.lo
      have hc := hI.hc
      refine ⟨y.getD n 0, (y.getD n 0 + c) % 4294967296, by rw [hS.getI, hS.W, W_getI, i1], by rw [hS.wrap]; exact wrap_u32 (by omega) (by omega), by rw [hS.wrap, hS.add, wrap_u32m], ?_, by rw [hS.isI, hS.W, W_isI]; exact decide_eq_true (by omega), ?_⟩
      · rw [hS.setI, hS.W, W_set, i2, hx]
      · rw [h1, hS.neq, hS.len, hS.W, W_len, hx, wds_length]; exact decide_eq_true rfl
  have g1q : g - 1 = qd → zwrap .u64 (zsub g 1) = qd := fun h => by rw [hS.wrap, hS.sub, wrap_u64 (by omega) (by omega), h]
  clear hg ht
  generalize ha1 : v.getD (n - 1) 0 = v1 at *
  generalize ha2 : v.getD (n - 2) 0 = v2 at *
  generalize ha3 : u.getD (n - 2) 0 = u2 at *
  generalize ha4 : u.getD n 0 = u0 at *
  generalize ha5 : u.getD (n - 1) 0 = u1 at *
  have eu0 := eu n
  have eu1 := eu (n - 1)
  have eu2 := eu (n - 2)
  have ev1 := ev (n - 1)
  have ev2 := ev (n - 2)
  rw [ha4] at eu0
  rw [ha5] at eu1
  rw [ha3] at eu2
  rw [ha1] at ev1
  rw [ha2] at ev2
  cbv
  rw [h2, w1, f2, f2, f5, f5, f8, ha1, ha4, ha5, eu0, eu1, ev1, et, eq, er]
  refine nd (f3 _ (by omega)) (nd (f4 _ (by omega)) (nd (f3 _ (by omega)) (nd (f4 _ (by omega)) (nd (f6 _) (nd (f7 _ (by omega)) (nd hnz (nd (f6 _) (nd (f7 _ (by omega)) (nd hnz ?_)))))))))
  generalize t / v1 = q0 at *
  generalize t % v1 = m0 at *
  apply shared (L := L) (S := fun T H => leT T (iqw2St (zW .u32 u) s (zlen r) (zofN n) g 0 0 (zofN 0)).tmps ∧ leH H (iqw2St (zW .u32 u) s (zlen r) (zofN n) g 0 0 (zofN 0)).heap)
  · intro rest
    refine loopZ ccOk mixed hS (fun (j : Nat) s' => ∃ (q e : Int), 0 ≤ q ∧ q < 8589934592 ∧ 0 ≤ e ∧ e < 4294967296 ∧ guessF v1 v2 u2 j q e = g ∧ 4294967296 ≤ e + j * v1 ∧ s' = iqw1St r s (zlen r) (zofN n) t q e) (n := 3)
      (s0 := iqw1St r s (zlen r) (zofN n) t q0 m0) (le_of ?_ ?_) rfl (Nat.le_refl 2) ?_ ?_
    · simp [leT, iqw1St, mkSt, vi, vl, vb, hS.ofN]
    · simp [leH, iqw1St, mkSt]
    · exact ⟨q0, m0, hq0, hq1, hm0, by omega, hstart, by push_cast; omega, rfl⟩
    · rintro j _ ⟨q, e, b1, b2, b3, b4, hgF, hme, rfl⟩
      have j0 : j ≠ 0 := by
        rintro rfl
        simp at hme
        omega
      obtain ⟨j, rfl⟩ : ∃ i, j = i + 1 := ⟨j - 1, by omega⟩
      have hme' : 4294967296 ≤ (e + v1) + j * v1 := by
        have : ((j + 1 : Nat) : Int) * v1 = j * v1 + v1 := by push_cast; grind
        omega
      simp only [guessF] at hgF
      have x1 : zle 4294967296 q = decide (4294967296 ≤ q) := by rw [hS.le]
      have x2 : zwrap .u64 (zadd e v1) = e + v1 := by rw [hS.wrap, hS.add]; exact wrap_u64 (by omega) (by omega)
      have x3 : zle 4294967296 (e + v1) = decide (4294967296 ≤ e + v1) := by rw [hS.le]
      have x4 : 0 < q → zwrap .u64 (zsub q 1) = q - 1 := fun h => by rw [hS.wrap, hS.sub]; exact wrap_u64 (by omega) (by omega)
      have hq2 : q < 4294967296 → 0 ≤ q * v2 ∧ q * v2 ≤ 4294967295 * 4294967295 := fun h => ⟨Int.mul_nonneg b1 g5.1, Int.mul_le_mul (by omega) (by omega) g5.1 (by omega)⟩
      have x5 : q < 4294967296 → zlt (zbor .u64 (zshl .u64 e 32) u2) (zwrap .u64 (zmul q v2)) = decide (e * 4294967296 + u2 < q * v2) := fun h => by
        have := hq2 h
        rw [hS.lt, hS.wrap, hS.mul, show zshl .u64 e 32 = ZI.std.shl .u64 e 32 from hS.shl .., show ∀ x y, zbor .u64 x y = ZI.std.bor .u64 x y from fun _ _ => hS.bor .., two_words b3 b4 g3.1 g3.2, wrap_u64 (x := q * v2) (by omega) (by omega)]
      have hpos : e * 4294967296 + u2 < q * v2 → 0 < q := fun h => by
        rcases Int.lt_or_le 0 q with h' | h'
        · exact h'
        · obtain rfl : q = 0 := by omega
          omega
      have step : (4294967296 ≤ q ∨ e * 4294967296 + u2 < q * v2) → ¬ 4294967296 ≤ e + v1 → 0 < q → ∀ (T : List AV) (H : Heap), leT T (iqw1St r s (zlen r) (zofN n) t (q - 1) (e + v1)).tmps → leH H (iqw1St r s (zlen r) (zofN n) t (q - 1) (e + v1)).heap → ∃ s' : St, (St.mk T H).Le s' ∧ s'.refsLt = true ∧ [Arg.bor 1 r, Arg.val (tl s)].length ≤ s'.heap.length ∧ ∃ m, m < j + 1 ∧ ∃ (q e : Int), 0 ≤ q ∧ q < 8589934592 ∧ 0 ≤ e ∧ e < 4294967296 ∧ guessF v1 v2 u2 m q e = g ∧ 4294967296 ≤ e + m * v1 ∧ s' = iqw1St r s (zlen r) (zofN n) t q e := fun hb hc hp T H hT hH => by
        rw [if_pos hb, if_neg hc] at hgF
        exact ⟨_, le_of hT hH, rfl, Nat.le_refl 2, j, by omega, q - 1, e + v1, by omega, by omega, by omega, by omega, hgF, hme', rfl⟩
      cbv
      rw [w1, w2, f2, f8, f8, f5, ha1, ha2, ha3, ev1, ev2, eu2, x2]
      refine ⟨fun h => ?_, fun h => ?_⟩
      all_goals rw [x1] at h
      · have h := of_decide_eq_true h
        rw [x4 (by omega)]
        refine nd (f6 _) (nd (f7 _ (by omega)) ⟨fun h' => ?_, fun h' => ?_⟩)
        all_goals rw [x3] at h'
        · rw [if_pos (.inl h), if_pos (of_decide_eq_true h')] at hgF
          rw [hgF]
          exact rest _ _ ⟨by simp [leT, iqw2St, mkSt, vi, vl, vb, hS.ofN], by simp [leH, iqw2St, mkSt, hrW]⟩
        · exact step (.inl h) (of_decide_eq_false h') (by omega) _ _ (by simp [leT, iqw1St, mkSt, vi, vl, vb]) (by simp [leH, iqw1St, mkSt])
      · have h := of_decide_eq_false h
        refine nd (f6 _) (nd (f7 _ (by omega)) (nd (f3 _ (by omega)) (nd (f4 _ (by omega)) ⟨fun h'' => ?_, fun h'' => ?_⟩)))
        all_goals rw [x5 (by omega)] at h''
        · have h'' := of_decide_eq_true h''
          have hp := hpos h''
          rw [x4 hp]
          refine nd (f6 _) (nd (f7 _ (by omega)) ⟨fun h' => ?_, fun h' => ?_⟩)
          all_goals rw [x3] at h'
          · rw [if_pos (.inr h''), if_pos (of_decide_eq_true h')] at hgF
            rw [hgF]
            exact rest _ _ ⟨by simp [leT, iqw2St, mkSt, vi, vl, vb, hS.ofN], by simp [leH, iqw2St, mkSt, hrW]⟩
          · exact step (.inr h'') (of_decide_eq_false h') hp _ _ (by simp [leT, iqw1St, mkSt, vi, vl, vb]) (by simp [leH, iqw1St, mkSt])
        · have h'' := of_decide_eq_false h''
          rw [if_neg (by omega)] at hgF
          rw [hgF]
          exact rest _ _ ⟨by simp [leT, iqw2St, mkSt, vi, vl, vb, hS.ofN], by simp [leH, iqw2St, mkSt, hrW]⟩
  · intro T H hT
    refine loopZ ccOk mixed hS (fun (j : Nat) s' => ∃ (k : Nat) (o : List Int) (c b : Int), k + j = n ∧ QwI u v n g k o c b ∧ s' = iqw2St (zW .u32 o) s (zlen r) (zofN n) g c b (zofN k)) (n := n)
      (s0 := iqw2St (zW .u32 u) s (zlen r) (zofN n) g 0 0 (zofN 0)) (le_of hT.1 hT.2) rfl (Nat.le_refl 2) ?_ ?_
    · exact ⟨0, u, 0, 0, Nat.zero_add n, QwI.start hu huw, rfl⟩
    · rintro j _ ⟨k, o, c, b', hk, hI, rfl⟩
      rcases Nat.lt_or_ge k n with hkn | hkn
      · obtain ⟨pr, d, k1, E1, E2, E3, E4, E5, E6, E7, E8, E9, E10, E11, E12, E13, hk1, hI'⟩ := A2 k o c b' hI hkn
        have e6 : zlt (zofN k) (zofN n) = true := (L2 k n).trans (decide_eq_true hkn)
        have hj : k1 + (j - 1) = n ∧ j - 1 < j := by clear A2 A3 A4; omega
        generalize u.getD k 0 = a at E1 E5 E9
        generalize v.getD k 0 = m at E2 E10 E13
        cbv
        refine bT e6 ?_
        rw [f2, E13, E10, E1, E9, E2, E3, E4, E5, E6, E7, E8, E11]
        refine nd (f6 _) (nd (f7 k hkn) (nd (f3 k (Nat.lt_succ_of_lt hkn)) (nd E12 (nd (f3 k (Nat.lt_succ_of_lt hkn)) (nd E12 ?_)))))
        exact again (s' := iqw2St (zW .u32 (o.set k (d % 4294967296))) s (zlen r) (zofN n) g (pr / 4294967296) (d / 9223372036854775808) (zofN k1)) (m := j - 1) (by simp [leT, iqw2St, mkSt, vi, vl, vb]) (by simp [leH, iqw2St, mkSt]) rfl (Nat.le_refl 2) hj.2 ⟨k1, _, _, _, hj.1, hI', rfl⟩
      · obtain rfl : k = n := by clear A2 A3 A4; omega
        obtain ⟨un, d, y, E1, E2, E3, E4, E5, E6, E7, E8, E9, wy, ly⟩ := A3 o c b' hI
        have e6 : zlt (zofN k) (zofN k) = false := (L2 k k).trans (decide_eq_false (Nat.lt_irrefl k))
        cbv
        refine bF e6 ?_
        rw [f2, E1, E2, E3, E4, E5]
        refine nd (f3 k (Nat.lt_succ_self k)) (nd E6 (nd (f3 k (Nat.lt_succ_self k)) (nd E6 ⟨fun h5 => ?_, fun h5 => ?_⟩)))
        · obtain ⟨x1, x2⟩ := (E8 h5 : g = qd ∧ y = x)
          rw [W1 g x1]
          refine nd E7 ?_
          rw [x2, hS.W]
          exact hF _ (ResLe.refl _)
        · obtain ⟨x1, x2⟩ := E9 h5
          obtain ⟨B1, B2⟩ := A4 y wy ly x2
          have G1 := g1q x1
          have G2 := W1 qd rfl
          clear E1 E2 E3 E4 E5 E6 E7 E8 E9 A2 A3 A4 hI h5 h1 h2 w1 w2 hstart e10 eq er et
          refine loopZ ccOk mixed hS (fun (j : Nat) s' => ∃ (i : Nat) (o : List Int) (c : Int), i + j = k ∧ QrI y v k i o c ∧ s' = iqw3St (zW .u32 o) s (zlen r) (zofN k) g c (zofN i)) (n := k)
            (s0 := iqw3St (zW .u32 y) s (zlen r) (zofN k) g 0 (zofN 0)) (le_of ?_ ?_) rfl (Nat.le_refl 2) ?_ ?_
          · simp [leT, iqw3St, mkSt, vi, vl, vb, hS.ofN]
          · simp [leH, iqw3St, mkSt]
          · exact ⟨0, y, 0, Nat.zero_add k, QrI.start ly wy, rfl⟩
          · rintro j _ ⟨i, o, c, hk, hI, rfl⟩
            rcases Nat.lt_or_ge i k with hik | hik
            · obtain ⟨t, i1, E1, E2, E3, E4, E5, E6, E7, E8, E9, E10, hi1, hI'⟩ := B1 i o c hI hik
              have e6 : zlt (zofN i) (zofN k) = true := (L2 i k).trans (decide_eq_true hik)
              have hj : i1 + (j - 1) = k ∧ j - 1 < j := by clear B1 B2; omega
              generalize y.getD i 0 = a at E1 E2 E6
              generalize v.getD i 0 = m at E2 E7 E10
              cbv
              refine bT e6 ?_
              rw [f2, E10, E7, E1, E6, E2, E3, E4, E5, E8]
              refine nd (f3 i (Nat.lt_succ_of_lt hik)) (nd E9 (nd (f6 _) (nd (f7 i hik) (nd (f3 i (Nat.lt_succ_of_lt hik)) (nd E9 ?_)))))
              exact again (s' := iqw3St (zW .u32 (o.set i (t % 4294967296))) s (zlen r) (zofN k) g (t / 4294967296) (zofN i1)) (m := j - 1) (by simp [leT, iqw3St, mkSt, vi, vl, vb]) (by simp [leH, iqw3St, mkSt]) rfl (Nat.le_refl 2) hj.2 ⟨i1, _, _, hj.1, hI', rfl⟩
            · obtain rfl : i = k := by clear B1 B2; omega
              obtain ⟨yn, d, E1, E2, E3, E4, E5, E6⟩ := B2 o c hI
              have e6 : zlt (zofN i) (zofN i) = false := (L2 i i).trans (decide_eq_false (Nat.lt_irrefl i))
              cbv
              refine bF e6 ?_
              rw [f2, E1, E2, E3, E4, G1, G2]
              refine nd (f3 i (Nat.lt_succ_self i)) (nd E5 (nd (f3 i (Nat.lt_succ_self i)) (nd E5 (nd E6 ?_))))
              rw [hS.W]
              exact hF _ (ResLe.refl _)
end Go.Proofs.Ytgncmjcoojmccaa
end

section
set_option linter.unusedVariables false
set_option linter.unusedSimpArgs false
set_option maxHeartbeats 8000000
set_option linter.unusedVariables false
set_option linter.unusedSimpArgs false
set_option maxRecDepth 100000
namespace Go.Proofs.Ytgncmjcoojmccaa
open Go Go.Abs Go.Abs.M Go.Proofs

/-- The table of lengths of the numbers below 256. -/
def len8rows : Abs.Rows := W .u8 ((List.range 256).map fun i => if i = 0 then (0 : Int) else (i.log2 + 1 : Nat))

theorem len8_key {T : Abs.Rows} (hT : T = len8rows) {i : Nat} {q : Int} (hq : ZI.std.getI T i = q) (h1 : 1 ≤ i) (h2 : i < 256) : ∃ m : Nat, q = m ∧ 1 ≤ m ∧ m ≤ 8 ∧ 2 ^ (m - 1) ≤ i ∧ i < 2 ^ m := by
  subst hT
  unfold len8rows at hq
  rw [W_getI, List.getD_eq_getElem?_getD, List.getElem?_map, List.getElem?_range h2] at hq
  simp only [Option.map_some, Option.getD_some] at hq
  rw [if_neg (by omega)] at hq
  have a1 := Nat.log2_self_le (n := i) (by omega)
  have a2 := Nat.lt_log2_self (n := i)
  have a3 : i.log2 < 8 := (Nat.log2_lt (by omega)).2 (by omega)
  exact ⟨i.log2 + 1, hq.symm, by omega, by omega, by simpa using a1, a2⟩

theorem len8_is {T : Abs.Rows} (hT : T = len8rows) {i : Nat} (h2 : i < 256) : ZI.std.isI .u8 T i = true := by
  subst hT
  unfold len8rows
  rw [W_isI]
  exact decide_eq_true (by simpa using h2)

theorem ilen32_call (x : Int) (h0 : 1 ≤ x) (h1 : x < 4294967296) : ∃ m : Nat, (1 ≤ m ∧ m ≤ 32) ∧ 2 ^ (m - 1) ≤ x ∧ x < 2 ^ m ∧ ACall Try.prog 93 [.val (ti .u32 x)] ⟨[.val (ti .i64 (m : Int))], [none]⟩ := by
  have hl := (Nat.log2_lt (n := x.toNat) (k := 32) (by omega)).2 (by omega)
  have a1 := Nat.log2_self_le (n := x.toNat) (by omega)
  have a2 := Nat.lt_log2_self (n := x.toNat)
  refine ⟨x.toNat.log2 + 1, ⟨by omega, by omega⟩, ?_, ?_, ?_⟩
  · rw [Nat.add_sub_cancel, ← cast_pow2]; omega
  · rw [← cast_pow2]; omega
  obtain ⟨M, hM⟩ : ∃ M : Int, M = ((x.toNat.log2 + 1 : Nat) : Int) := ⟨_, rfl⟩
  rw [← hM]
  -- what a shorter number's length says
  have key : ∀ (y : Int) (e m : Nat), y = x / 2 ^ e → 1 ≤ m → 2 ^ (m - 1) ≤ y.toNat → y.toNat < 2 ^ m → 1 ≤ y → M = (m : Int) + e := fun y e m hy hm b1 b2 b3 => by
    have hp : (0 : Int) < 2 ^ e := pow2_pos e
    have c1 : 2 ^ (m - 1) * 2 ^ e ≤ x.toNat := by
      have : y * 2 ^ e ≤ x := by rw [hy]; exact Int.ediv_mul_le _ (by omega)
      have c2 : ((2 ^ (m - 1) : Nat) : Int) * 2 ^ e ≤ y * 2 ^ e := Int.mul_le_mul_of_nonneg_right (by omega) (by omega)
      rw [← cast_pow2] at c2 this
      have c3 : ((2 ^ (m - 1) * 2 ^ e : Nat) : Int) ≤ x := by rw [Int.natCast_mul]; omega
      omega
    have c2 : x.toNat < 2 ^ m * 2 ^ e := by
      have h3 : x < (y + 1) * 2 ^ e := by rw [hy]; exact Int.lt_ediv_add_one_mul_self _ hp
      have h4 : (y + 1) * 2 ^ e ≤ ((2 ^ m : Nat) : Int) * 2 ^ e := Int.mul_le_mul_of_nonneg_right (by omega) (by omega)
      rw [← cast_pow2] at h3 h4
      have c3 : x < ((2 ^ m * 2 ^ e : Nat) : Int) := by rw [Int.natCast_mul]; omega
      omega
    rw [← Nat.pow_add] at c1 c2
    have d1 : m - 1 + e ≤ x.toNat.log2 := (Nat.le_log2 (by omega)).2 c1
    have d2 : x.toNat.log2 < m + e := (Nat.log2_lt (by omega)).2 c2
    omega
  clear hM hl a1 a2
  have hb : 65536 ≤ x → x / 65536 < 65536 ∧ 1 ≤ x / 65536 := fun h => by omega
  refine callZ ccOk mixed [.val] Try.func93 rfl rfl (by kernel_rfl) fun zwrap zadd zsub zmul zquo zrem zshl zshr zband zbor zbxor zbandn zeq zne zlt zle znot zbeq zbne zmax zmin znat zinb zofN zidx zneq znadd zdif zcut zroom zmkok zlen znth zsetr zisI zgetI zsetI zfit zpart zext zsetg zrep zwide zall zmok zmget zmset zW zth A L F hS hF => ?_
  have s16 : ∀ y, 0 ≤ y → zshr .u32 y 16 = y / 65536 := fun y hy => by rw [show ∀ x, zshr .u32 x 16 = ZI.std.shr .u32 x 16 from fun _ => hS.shr .., shr_std (b := 16) 16 rfl (by decide) hy]; rfl
  have s8 : ∀ y, 0 ≤ y → zshr .u32 y 8 = y / 256 := fun y hy => by rw [show ∀ x, zshr .u32 x 8 = ZI.std.shr .u32 x 8 from fun _ => hS.shr .., shr_std (b := 8) 8 rfl (by decide) hy]; rfl
  have fin : ∀ (T : Abs.Rows) (y : Int) (e : Nat), T = len8rows → y = x / 2 ^ e → 1 ≤ y → y < 256 → e ≤ 24 → ∀ (z : Int), z = e → zle 0 (zwrap .u8 y) = true ∧ zisI .u8 T (znat (zwrap .u8 y)) = true ∧ zwrap .i64 (zadd z (zwrap .i64 (zgetI T (znat (zwrap .u8 y))))) = M := fun T y e hT hy h1 h2 h3 z hz => by
    have hw : zwrap .u8 y = y := by rw [hS.wrap]; exact wrap_u8 (by omega) h2
    have hn : znat y = y.toNat := hS.nat y
    rw [hw, hn]
    refine ⟨by rw [hS.le]; exact decide_eq_true (by omega), by rw [hS.isI]; exact len8_is hT (by omega), ?_⟩
    obtain ⟨m, m1, m2, m3, m4, m5⟩ := len8_key hT (q := zgetI T y.toNat) (hS.getI ..).symm (by omega) (by omega)
    have := key y e m hy m2 m4 m5 h1
    rw [m1, hS.wrap, hS.wrap, hS.add, wrap_i64 (x := (m : Int)) (by omega) (by omega), wrap_i64 (by omega) (by omega)]; omega
  have w8 : zwrap .i64 (zadd 16 8) = 24 := by rw [hS.wrap, hS.add]; rfl
  have w8' : zwrap .i64 (zadd 0 8) = 8 := by rw [hS.wrap, hS.add]; rfl
  cbv
  refine ⟨fun h => ⟨fun h' => ?_, fun h' => ?_⟩, fun h => ⟨fun h' => ?_, fun h' => ?_⟩⟩
  all_goals rw [hS.le] at h
  · have h := of_decide_eq_true h
    rw [s16 x (by omega), hS.le] at h'
    have h' := of_decide_eq_true h'
    rw [s16 x (by omega), s8 _ (by omega), w8]
    generalize hy : x / 65536 / 256 = y
    obtain ⟨f1, f2, f3⟩ := fin _ y 24 (by rfl) (by rw [← hy, Int.ediv_ediv_of_nonneg (by omega)]; rfl) (by omega) (by omega) (by omega) 24 rfl
    refine nd f1 (nd f2 ?_)
    exact fin1 hF (tv_int f3)
  · have h := of_decide_eq_true h
    rw [s16 x (by omega), hS.le] at h'
    have h' := of_decide_eq_false h'
    rw [s16 x (by omega)]
    generalize hy : x / 65536 = y
    obtain ⟨f1, f2, f3⟩ := fin _ y 16 (by rfl) (by rw [← hy]; rfl) (by omega) (by omega) (by omega) 16 rfl
    refine nd f1 (nd f2 ?_)
    exact fin1 hF (tv_int f3)
  · have h := of_decide_eq_false h
    rw [hS.le] at h'
    have h' := of_decide_eq_true h'
    rw [s8 _ (by omega), w8']
    generalize hy : x / 256 = y
    obtain ⟨f1, f2, f3⟩ := fin _ y 8 (by rfl) (by rw [← hy]; rfl) (by omega) (by omega) (by omega) 8 rfl
    refine nd f1 (nd f2 ?_)
    exact fin1 hF (tv_int f3)
  · have h := of_decide_eq_false h
    rw [hS.le] at h'
    have h' := of_decide_eq_false h'
    obtain ⟨f1, f2, f3⟩ := fin _ x 0 (by rfl) (by rw [Int.pow_zero, Int.ediv_one]) (by omega) (by omega) (by omega) 0 rfl
    refine nd f1 (nd f2 ?_)
    exact fin1 hF (tv_int f3)

theorem ilz32_call (x : Int) (h0 : 1 ≤ x) (h1 : x < 4294967296) : ∃ s : Nat, s < 32 ∧ 2147483648 ≤ x * 2 ^ s ∧ x * 2 ^ s < 4294967296 ∧ ACall Try.prog 87 [.val (ti .u32 x)] ⟨[.val (ti .i64 (s : Int))], [none]⟩ := by
  obtain ⟨m, ⟨m1, m2⟩, m3, m4, c⟩ := ilen32_call x h0 h1
  have hp := pow2_pos (32 - m)
  have e1 : (2 : Int) ^ (m - 1) * 2 ^ (32 - m) = 2147483648 := by rw [← Int.pow_add, show m - 1 + (32 - m) = 31 by omega]; rfl
  have e2 : (2 : Int) ^ m * 2 ^ (32 - m) = 4294967296 := by rw [← Int.pow_add, show m + (32 - m) = 32 by omega]; rfl
  refine ⟨32 - m, by omega, ?_, ?_, ?_⟩
  · have := Int.mul_le_mul_of_nonneg_right m3 (show (0 : Int) ≤ 2 ^ (32 - m) by omega); omega
  · have := Int.mul_lt_mul_of_pos_right m4 hp; omega
  have hm : ((32 - m : Nat) : Int) = 32 - (m : Int) := by omega
  rw [hm]
  generalize hM : (m : Int) = M at *
  refine callZ ccOk mixed [.val] Try.func87 rfl rfl (by kernel_rfl) fun zwrap zadd zsub zmul zquo zrem zshl zshr zband zbor zbxor zbandn zeq zne zlt zle znot zbeq zbne zmax zmin znat zinb zofN zidx zneq znadd zdif zcut zroom zmkok zlen znth zsetr zisI zgetI zsetI zfit zpart zext zsetg zrep zwide zall zmok zmget zmset zW zth A L F hS hF => ?_
  have w : zwrap .i64 (zsub 32 M) = 32 - M := by rw [hS.wrap, hS.sub, wrap_i64 (by omega) (by omega)]
  cbv
  refine ⟨_, hS.call (c), ?_⟩
  cbv
  exact fin1 hF (tv_int w)
end Go.Proofs.Ytgncmjcoojmccaa
end

section
set_option linter.unusedVariables false
set_option linter.unusedSimpArgs false
set_option maxHeartbeats 8000000
set_option linter.unusedVariables false
set_option linter.unusedSimpArgs false
set_option maxRecDepth 100000
namespace Go.Proofs.Ytgncmjcoojmccaa
open Go Go.Abs Go.Abs.M Go.Proofs
def idivSt (r s v U Q : Abs.Rows) (ul ql : Nat) (n d j : Int) : St := mkSt 88 [vl r, vl s, .junk, .junk, vnil, vnil, .junk, .junk, vi .i64 n, vi .i64 d, .c (.sl 10 0 ul false), vl v, .c (.sl 14 0 ql false), vi .i64 j] [none, none, none, none, none, none, none, none, none, none, some (.rows 1 U true false), none, none, none, some (.rows 1 Q true false)]

/-- The walk of the long division: what is to be known of the numbers comes as premises. -/
theorem idivide_walk {r s v0 v A2 A3 : Abs.Rows} {U V w1 c : Int} {n la m l1 m1 n1 n' sh : Nat} {lr ls lv lv0 u0 : List Int}
    (hr : r = W .u32 lr) (hs : s = W .u32 ls) (hv0 : v0 = W .u32 lv0) (hv0l : lv0.length = n1) (hv0v : lv0.take n = lv) (hv : v = W .u32 lv) (lrl : lr.length = la) (lsl : ls.length = n) (hsz : la ≤ 549755813888) (hn : 2 ≤ n) (hm : la = n + m) (hl1 : l1 = la + 1) (hm1 : m1 = m + 1) (hn1 : n1 = n + 1) (hn' : n = n' + 1)
    (hw1 : ls.getD n' 0 = w1) (hc : ¬ c < 0) (hu0l : u0.length = l1)
    (llv : lv.length = n) (wlv : Wd lv) (vlv : val lv = V) (htop : 2147483648 ≤ lv.getD (n - 1) 0)
    (hstart : DInv U V n m (m + 1) u0 (List.replicate m1 0))
    (t1 : ACall Try.prog 74 [.val (tl r)] ⟨[.val (tl r)], [none]⟩)
    (t2 : ACall Try.prog 74 [.val (tl s)] ⟨[.val (tl s)], [none]⟩)
    (cc : ACall Try.prog 70 [.val (tl r), .val (tl s)] ⟨[.val (ti .i64 c)], [none, none]⟩)
    (cz : ACall Try.prog 87 [.val (ti .u32 w1)] ⟨[.val (ti .i64 (sh : Int))], [none]⟩)
    (c1 : ACall Try.prog 88 [.val (tl r), .val (ti .i64 (sh : Int))] ⟨[.own 1 (W .u32 u0)], [none, none]⟩)
    (c2 : ACall Try.prog 88 [.val (tl s), .val (ti .i64 (sh : Int))] ⟨[.val (tl v0)], [none, none]⟩)
    (hlast : ∀ u q, DInv U V n m 0 u q → ACall Try.prog 74 [.val (tl (W .u32 q))] ⟨[.val (tl A2)], [none]⟩ ∧
      ACall Try.prog 90 [.val (tl (W .u32 (u.take n))), .val (ti .i64 (sh : Int))] ⟨[.val (tl A3)], [none, none]⟩) :
    ACall Try.prog 75 [.val (tl r), .val (tl s)] ⟨[.val (tl A2), .val (tl A3)], [none, none]⟩ := by
  obtain ⟨SH, hSH⟩ : ∃ SH : Int, SH = sh := ⟨_, rfl⟩
  rw [← hSH] at cz c1 c2
  simp only [← hSH] at hlast
  refine callZ ccOk mixed [.val, .val] Try.func75 rfl rfl (by kernel_rfl) fun zwrap zadd zsub zmul zquo zrem zshl zshr zband zbor zbxor zbandn zeq zne zlt zle znot zbeq zbne zmax zmin znat zinb zofN zidx zneq znadd zdif zcut zroom zmkok zlen znth zsetr zisI zgetI zsetI zfit zpart zext zsetg zrep zwide zall zmok zmget zmset zW zth A L F hS hF => ?_
  have z1 : zlen r = la := by rw [hS.len, hr, W_len, lrl]
  have z2 : zlen s = n := by rw [hS.len, hs, W_len, lsl]
  have z3 : zwrap .i64 (zsub (zofN n) 1) = zofN n' := by rw [hS.wrap, hS.sub, hS.ofN, hS.ofN, wrap_i64 (by omega) (by omega)]; omega
  have z4 : zgetI s (znat (zofN n')) = w1 := by rw [hS.getI, hS.nat, hS.ofN, hs, W_getI, Int.toNat_natCast, hw1]
  have z8 : zwrap .i64 (zsub (zofN la) (zofN n)) = zsub (zofN (m + 1)) 1 := by rw [hS.wrap, hS.sub, hS.ofN, hS.ofN, hS.sub, hS.ofN, wrap_i64 (by omega) (by omega)]; omega
  have z9 : zwrap .i64 (zadd (zsub (zofN (m + 1)) 1) 1) = zofN m1 := by rw [hS.wrap, hS.add, hS.sub, hS.ofN, hS.ofN, wrap_i64 (by omega) (by omega)]; omega
  have znt : ∀ k, znat (zofN k) = k := fun k => by rw [hS.nat, hS.ofN]; omega
  have hrep : ∀ k, zrep k [.v (.int .u32 0)] = zW .u32 (List.replicate k 0) := fun k => by rw [hS.rep, hS.W]; exact W_rep ..
  have o1 : zlt c 0 = false := by rw [hS.lt]; exact decide_eq_false hc
  have o2 : zeq (zofN n) 1 = false := by rw [hS.eq, hS.ofN]; exact decide_eq_false (by omega)
  have o3 : zle 0 (zofN n') = true := by rw [hS.le, hS.ofN]; exact decide_eq_true (by omega)
  have o4 : zisI .u32 s (znat (zofN n')) = true := by rw [hS.isI, znt, hs, W_isI]; exact decide_eq_true (by omega)
  have o6 : zcut 0 (zofN n) (zlen v0) = true := by rw [hS.cut, hS.ofN, hS.len, hv0, W_len]; exact decide_eq_true (by omega)
  have o8 : zwide 1 v0 = true := by rw [hS.wide, hv0]; exact W_wide _ _
  have o9 : zpart v0 0 n = v := by rw [hS.part, hv0, W_part, List.drop_zero, hv0v, hv]
  have hcap : (m1 : Int) * 4 ≤ 70368744177664 := by omega
  have o10 : zmkok (zofN m1) (zofN m1) 4 = true := by rw [hS.mkok, hS.ofN]; exact decide_eq_true ⟨Int.natCast_nonneg m1, Int.le_refl _, by unfold capBytes; omega⟩
  have z10 : zlen (zW .u32 u0) = l1 := by rw [hS.len, hS.W, W_len, hu0l]
  rw [← hS.W] at c1
  clear hr hs lrl lsl hw1 hc hv0 hv0l hv0v
  cbv
  refine ⟨_, hS.call (t1), ?_⟩
  cbv
  refine ⟨_, hS.call (t2), ?_⟩
  cbv
  refine ⟨_, hS.call (cc), ?_⟩
  cbv
  rw [z2, z3, z4]
  refine bF (o1) ?_
  refine bF (o2) ?_
  refine nd (o3) ?_
  refine nd (o4) ?_
  refine ⟨_, hS.call (cz), ?_⟩
  cbv
  refine ⟨_, hS.call (c1), ?_⟩
  cbv
  refine ⟨_, hS.call (c2), ?_⟩
  cbv
  rw [z1, z8, z9, znt, znt, hrep, o9, z10]
  refine nd o6 (nd o8 (nd o10 ?_))
  clear z2 z3 z4 z8 z9 o1 o2 o3 o4 o6 o8 o9 o10 cc c1 c2 z1 z10 t1 t2 cz
  refine loopZ ccOk mixed hS (fun (k : Nat) s' => ∃ (u q : List Int), DInv U V n m k u q ∧ s' = idivSt r s v (zW .u32 u) (zW .u32 q) l1 m1 (zofN n) SH (zsub (zofN k) 1)) (n := m + 1)
    (s0 := idivSt r s v (zW .u32 u0) (zW .u32 (List.replicate m1 0)) l1 m1 (zofN n) SH (zsub (zofN (m + 1)) 1)) (le_of ?_ ?_) rfl (by show 2 ≤ 15; omega) ?_ ?_
  · simp [leT, idivSt, mkSt, vi, vl, vnil]
  · simp [leH, idivSt, mkSt]
  · exact ⟨_, _, by rw [← hm1] at hstart ⊢; exact hstart, rfl⟩
  · rintro k _ ⟨u, q, hI, rfl⟩
    cases k with
    | zero =>
      have hul := hI.ul
      have hql := hI.ql
      obtain ⟨x1, x2⟩ := hlast u q hI
      have hz : zle 0 (zsub (zofN 0) 1) = false := by rw [hS.le, hS.sub, hS.ofN]; rfl
      have e10 : zfit 0 m1 (zW .u32 q) = true := by rw [hS.fit, hS.W, W_len]; exact decide_eq_true (by omega)
      have e11 : zpart (zW .u32 q) 0 m1 = W .u32 q := by rw [hS.part, hS.W, W_part, List.drop_zero, List.take_of_length_le (by omega)]
      have e12 : zcut 0 (zofN n) l1 = true := by rw [hS.cut, hS.ofN]; exact decide_eq_true (by omega)
      have e13 : zfit 0 n (zW .u32 u) = true := by rw [hS.fit, hS.W, W_len]; exact decide_eq_true (by omega)
      have e14 : zpart (zW .u32 u) 0 n = W .u32 (u.take n) := by rw [hS.part, hS.W, W_part, List.drop_zero]
      clear hlast hI
      generalize W .u32 (u.take n) = ut at *
      generalize W .u32 q = qt at *
      cbv
      refine bF hz ?_
      rw [e11]
      refine nd e10 ⟨_, hS.call x1, ?_⟩
      cbv
      rw [znt, e14]
      refine nd e12 (nd e13 ⟨_, hS.call x2, ?_⟩)
      cbv
      exact hF _ (ResLe.refl _)
    | succ j =>
      obtain ⟨g, qd, b, x1, hg, g0, g1, q0, q1, hb, hx1, lx1, wx1, hjm, hul, hql, pl, pw, ht, hf⟩ := div_round hI hn llv wlv vlv htop
      obtain ⟨x, lx, hneg, hpos, hI2⟩ : ∃ x : List Int, x.length = n + 1 ∧ (val (dpart n j u) - g * val lv < 0 → g - 1 = qd ∧ x = wds (n + 1) (val (dpart n j u) - g * val lv + val lv)) ∧ (¬ val (dpart n j u) - g * val lv < 0 → g = qd ∧ x = wds (n + 1) (val (dpart n j u) - g * val lv)) ∧ DInv U V n m j (setRg u j x) (q.set j qd) := by
        cases b with
        | true =>
          obtain ⟨a1, x2, a2, a3, a4⟩ := ht rfl
          refine ⟨x2, a3, fun _ => ⟨a1, ?_⟩, fun h => absurd (of_decide_eq_true hb.symm) h, a4⟩
          rw [a2, lx1, hx1, wds_back]
        | false =>
          obtain ⟨a1, a2⟩ := hf rfl
          exact ⟨x1, lx1, fun h => absurd h (of_decide_eq_false hb.symm), fun _ => ⟨a1, hx1⟩, a2⟩
      have cq := iquotientWord_call (r := zW .u32 (dpart n j u)) (s := v) (u := dpart n j u) (v := lv) (x := x) (n := n) g qd (by rw [hS.W]) hv pl llv hn (by omega) pw wlv htop hg g0 g1 ⟨q0, q1⟩ hneg hpos
      rw [← hS.W] at cq
      clear hg hb hx1 ht hf hneg hpos
      have hi : zsub (zofN (j + 1)) 1 = (j : Int) := by rw [hS.sub, hS.ofN]; omega
      have hz : zle 0 (zsub (zofN (j + 1)) 1) = true := by rw [hS.le, hi]; exact decide_eq_true (by omega)
      have hw1' : zwrap .i64 (zsub (zsub (zofN (j + 1)) 1) 1) = zsub (zofN j) 1 := by rw [hi, hS.wrap, hS.sub, hS.sub, hS.ofN, wrap_i64 (by omega) (by omega)]
      have y1 : zwrap .i64 (zadd (zwrap .i64 (zadd (zsub (zofN (j + 1)) 1) (zofN n))) 1) = zofN (j + n1) := by
        rw [hi, hS.wrap, hS.wrap, hS.add, hS.add, hS.ofN, hS.ofN, wrap_i64 (x := (j : Int) + n) (by omega) (by omega), wrap_i64 (by omega) (by omega)]; omega
      have y2 : zidx 0 (zsub (zofN (j + 1)) 1) = j := by rw [hS.idx, hi]; omega
      have y3 : zdif (zofN (j + n1)) (zsub (zofN (j + 1)) 1) = n1 := by rw [hS.dif, hi, hS.ofN]; omega
      have y4 : ∀ u' : List Int, zpart (zW .u32 u') j n1 = zW .u32 (dpart n j u') := fun u' => by rw [hS.part, hS.W, W_part, hn1]; rfl
      have y5 : ∀ u' x : List Int, zsetg (zW .u32 u') j (zW .u32 x) = zW .u32 (setRg u' j x) := fun u' x => by rw [hS.setg, hS.W, W_setg]; rfl
      have y6 : zcut (zsub (zofN (j + 1)) 1) (zofN (j + n1)) l1 = true := by rw [hS.cut, hi, hS.ofN]; exact decide_eq_true (by omega)
      have y7 : zfit j n1 (zW .u32 u) = true := by rw [hS.fit, hS.W, W_len]; exact decide_eq_true (by omega)
      have y8 : zneq (zlen (zW .u32 x)) n1 = true := by rw [hS.neq, hS.len, hS.W, W_len, hn1]; exact decide_eq_true lx
      have y13 : zinb (zsub (zofN (j + 1)) 1) m1 = true := by rw [hS.inb, hi]; exact decide_eq_true (by omega)
      have y14 : zisI .u32 (zW .u32 q) j = true := by rw [hS.isI, hS.W, W_isI]; exact decide_eq_true (by omega)
      have y15 : ∀ x, zsetI .u32 (zW .u32 q) j x = zW .u32 (q.set j x) := fun x => by rw [hS.setI, hS.W, W_set]
      clear hI hi hlast
      cbv
      refine bT hz ?_
      rw [y1, y2, y3, y4]
      refine nd y6 (nd y7 ⟨_, hS.call cq, ?_⟩)
      cbv
      rw [y2, y5, y15, hw1']
      refine nd y8 (nd y13 (nd y14 ?_))
      exact again (s' := idivSt r s v (zW .u32 (setRg u j x)) (zW .u32 (q.set j qd)) l1 m1 (zofN n) SH (zsub (zofN j) 1)) (m := j) (by simp [leT, idivSt, mkSt, vi, vl, vnil]) (by simp [leH, idivSt, mkSt]) rfl (by show 2 ≤ 15; omega) (by omega) ⟨_, _, hI2, rfl⟩
end Go.Proofs.Ytgncmjcoojmccaa
end

section
set_option linter.unusedVariables false
set_option linter.unusedSimpArgs false
set_option maxHeartbeats 8000000
set_option linter.unusedVariables false
set_option linter.unusedSimpArgs false
set_option maxRecDepth 100000
namespace Go.Proofs.Ytgncmjcoojmccaa
open Go Go.Abs Go.Abs.M Go.Proofs

theorem itrimM {n : Nat} {r : Abs.Rows} (hr : IsM n r) (hl : nl n ≤ 2199023255552) : ACall Try.prog 74 [.val (tl r)] ⟨[.val (tl r)], [none]⟩ := by
  have h := itrim_call hr hl (dg_wd n)
  rw [dg_val, Int.toNat_natCast, ← hr] at h
  exact h

theorem idivide_long {r s : Abs.Rows} {a b : Nat} (hr : IsM a r) (hs : IsM b s) (h2 : 2 ≤ nl b) (hab : b ≤ a) (hsz : nl a ≤ 549755813888) :
    ACall Try.prog 75 [.val (tl r), .val (tl s)] ⟨[.val (tl (W .u32 (dg (a / b)))), .val (tl (W .u32 (dg (a % b))))], [none, none]⟩ := by
  obtain ⟨n, hn⟩ : ∃ n, n = nl b := ⟨_, rfl⟩
  obtain ⟨la, hla⟩ : ∃ la, la = nl a := ⟨_, rfl⟩
  have hmono := nl_mono hab
  obtain ⟨m, hm⟩ : ∃ m, la = n + m := ⟨la - n, by omega⟩
  obtain ⟨n', hn'⟩ : ∃ n', n = n' + 1 := ⟨n - 1, by omega⟩
  have lb : (dg b).length = n := hn.symm
  have laa : (dg a).length = la := hla.symm
  obtain ⟨w1, hw1⟩ : ∃ w1, w1 = (dg b).getD n' 0 := ⟨_, rfl⟩
  have hw1b := (dg_wd b).get n'
  rw [← hw1] at hw1b
  have htw := top_word (dg_wd b) (n := n') (by omega)
  rw [← hw1, dg_val] at htw
  have hw1p : 1 ≤ w1 := by
    rcases dg_tr b with h | h
    · rw [h] at lb; simp at lb; omega
    · rw [lb, hn', Nat.add_sub_cancel, ← hw1] at h; omega
  obtain ⟨sh, s1, s2, s3, cz⟩ := ilz32_call w1 hw1p hw1b.2
  have hbpos : 0 < (b : Int) := by
    rcases Nat.eq_zero_or_pos b with h | h
    · subst h; simp [dg_zero] at lb; omega
    · omega
  obtain ⟨d, hd⟩ : ∃ d : Int, d = 2 ^ sh := ⟨_, rfl⟩
  have d1 : 1 ≤ d := by have := pow2_pos sh; omega
  have d2 : d ≤ 2147483648 := by have := pow2_le s1; omega
  rw [← hd] at s2 s3
  obtain ⟨V, hV⟩ : ∃ V, V = d * b := ⟨_, rfl⟩
  have hV0 : 0 < V := by rw [hV]; exact Int.mul_pos (by omega) hbpos
  have hpow : (4294967296 : Int) ^ n = 4294967296 ^ n' * 4294967296 := by rw [hn', Int.pow_succ]
  have hp' := pow_pos' n'
  have hVlt : V < 4294967296 ^ n := by
    have x1 : d * (b : Int) < d * ((w1 + 1) * 4294967296 ^ n') := Int.mul_lt_mul_of_pos_left htw.2 (by omega)
    have x2 : d * ((w1 + 1) * (4294967296 : Int) ^ n') = (w1 * d + d) * 4294967296 ^ n' := by grind
    have x3 : (w1 * d + d) * (4294967296 : Int) ^ n' ≤ 4294967296 * 4294967296 ^ n' := by
      refine Int.mul_le_mul_of_nonneg_right ?_ (by omega)
      have : (w1 + 1) * d ≤ 4294967296 := by
        -- w1 * d is a multiple of d below 2^32, and d divides 2^32
        obtain ⟨e, he⟩ : ∃ e : Int, 4294967296 = e * d := ⟨2 ^ (32 - sh), by rw [hd, ← Int.pow_add, show 32 - sh + sh = 32 by omega]; rfl⟩
        have y1 : w1 < e := by
          rcases Int.lt_or_le w1 e with h | h
          · exact h
          · exfalso
            have := Int.mul_le_mul_of_nonneg_right h (show 0 ≤ d by omega)
            omega
        have := Int.mul_le_mul_of_nonneg_right (show w1 + 1 ≤ e by omega) (show 0 ≤ d by omega)
        omega
      have y2 : (w1 + 1) * d = w1 * d + d := by grind
      omega
    rw [hpow, hV]; omega
  have hVge : 2147483648 * 4294967296 ^ n' ≤ V := by
    have x1 : w1 * 4294967296 ^ n' * d ≤ (b : Int) * d := Int.mul_le_mul_of_nonneg_right htw.1 (by omega)
    have x2 : 2147483648 * 4294967296 ^ n' ≤ w1 * d * 4294967296 ^ n' := Int.mul_le_mul_of_nonneg_right s2 (by omega)
    have x3 : w1 * d * (4294967296 : Int) ^ n' = w1 * 4294967296 ^ n' * d := by grind
    rw [hV, Int.mul_comm d]; omega
  have hpow1 : (4294967296 : Int) ^ n < 4294967296 ^ (n + 1) := by rw [Int.pow_succ]; have := pow_pos' n; omega
  obtain ⟨lv0, hlv0⟩ : ∃ lv0, lv0 = wds (n + 1) V := ⟨_, rfl⟩
  have llv0 : lv0.length = n + 1 := by rw [hlv0, wds_length]
  have wlv0 : Wd lv0 := by rw [hlv0]; exact wds_wd _ _
  have vlv0 : val lv0 = V := by rw [hlv0]; exact wds_eq (by omega) (by omega)
  obtain ⟨lv, hlv⟩ : ∃ lv, lv0.take n = lv := ⟨_, rfl⟩
  have vlv : val lv = V := by rw [← hlv, (val_take_eq wlv0 (p := n) (by rw [vlv0]; exact hVlt)).1, vlv0]
  have wlv : Wd lv := by rw [← hlv]; exact wlv0.take n
  have llv : lv.length = n := by rw [← hlv]; simp; omega
  have htop : 2147483648 ≤ lv.getD (n - 1) 0 := by
    have t := (top_word wlv (n := n') (by omega)).2
    rw [vlv] at t
    rw [hn', Nat.add_sub_cancel]
    rcases Int.lt_or_le (lv.getD n' 0) 2147483648 with h | h
    · exfalso
      have := Int.mul_le_mul_of_nonneg_right (show lv.getD n' 0 + 1 ≤ 2147483648 by omega) (show (0 : Int) ≤ 4294967296 ^ n' by omega)
      omega
    · exact h
  obtain ⟨u0, hu0⟩ : ∃ u0, u0 = wds (la + 1) (d * a) := ⟨_, rfl⟩
  have hda : 0 ≤ d * (a : Int) := Int.mul_nonneg (by omega) (by omega)
  have hdalt : d * (a : Int) < 4294967296 ^ (la + 1) := by
    have x1 := lt_nl a
    rw [← hla] at x1
    have x2 : d * (a : Int) ≤ 4294967296 * a := Int.mul_le_mul_of_nonneg_right (by omega) (by omega)
    rw [Int.pow_succ]
    omega
  have vu0 : val u0 = d * a := by rw [hu0]; exact wds_eq hda hdalt
  have lu0 : u0.length = la + 1 := by rw [hu0, wds_length]
  have wu0 : Wd u0 := by rw [hu0]; exact wds_wd _ _
  have t1 := itrimM hr (by omega)
  have t2 := itrimM hs (by omega)
  have cc := icompare_call (cmpI a b) hr hs (by omega) (by omega) (dg_wd _) (dg_wd _) (dg_tr _) (dg_tr _) (by rw [dg_val, dg_val])
  have c1 := ishiftLeft_own sh hr (by omega) (dg_wd _) s1
  rw [laa, dg_val, ← hd, ← hu0] at c1
  have c2 := ishiftLeft_call sh hs (by omega) (dg_wd _) s1
  rw [lb, dg_val, ← hd, ← hV, ← hlv0] at c2
  have hUlt : d * (a : Int) < V * 4294967296 ^ (m + 1) := by
    have x1 := lt_nl a
    rw [← hla, hm] at x1
    have x2 : (4294967296 : Int) ^ (n + m) = 4294967296 ^ n' * 4294967296 ^ (m + 1) := by rw [← Int.pow_add]; congr 1; omega
    have x3 : w1 * 4294967296 ^ n' * 4294967296 ^ (m + 1) ≤ (b : Int) * 4294967296 ^ (m + 1) := Int.mul_le_mul_of_nonneg_right htw.1 (by have := pow_pos' (m + 1); omega)
    have x4 : 1 * (4294967296 ^ n' * 4294967296 ^ (m + 1)) ≤ w1 * (4294967296 ^ n' * (4294967296 : Int) ^ (m + 1)) := Int.mul_le_mul_of_nonneg_right hw1p (by have := Int.mul_pos (pow_pos' n') (pow_pos' (m + 1)); omega)
    have x5 : w1 * 4294967296 ^ n' * 4294967296 ^ (m + 1) = w1 * (4294967296 ^ n' * (4294967296 : Int) ^ (m + 1)) := by grind
    have x6 : d * (a : Int) < d * (b * 4294967296 ^ (m + 1)) := Int.mul_lt_mul_of_pos_left (by omega) (by omega)
    have x7 : d * ((b : Int) * 4294967296 ^ (m + 1)) = d * b * 4294967296 ^ (m + 1) := by grind
    rw [hV]; omega
  have hstart := DInv.start (n := n) (m := m) (by rw [lu0, hm]) wu0 vu0 hUlt
  refine idivide_walk hr hs rfl llv0 hlv rfl laa lb (by omega) (by omega) hm rfl rfl rfl hn' hw1.symm (c := cmpI a b) (by unfold cmpI; rw [if_neg (by omega)]; split <;> omega) lu0 llv wlv vlv htop hstart t1 t2 cc cz c1 c2 fun u q hI => ?_
  rw [hV] at hI
  obtain ⟨l1, l2⟩ := hI.last (by omega) hbpos
  have vu0 := val_nonneg hI.uw
  have hul := hI.ul
  have hql := hI.ql
  have hlt := hI.lt
  rw [List.drop_zero] at hlt
  have hut := (val_take_eq hI.uw (p := n) (by omega)).1
  have t2 := itrim_call (r := W .u32 q) rfl (by omega) hI.qw
  have t3 := ishiftRight_call (r := W .u32 (u.take n)) sh rfl (by simp; omega) (hI.uw.take n) s1
  rw [hut, ← hd, l2] at t3
  rw [l1] at t2
  exact ⟨t2, t3⟩

/-- Division of absolute values. -/
theorem idivide_call {r s : Abs.Rows} {a b : Nat} (hr : IsM a r) (hs : IsM b s) (hb : b ≠ 0) (hsz : nl a ≤ 549755813888) (hszb : nl b ≤ 549755813888) :
    ∃ x y, IsM (a / b) x ∧ IsM (a % b) y ∧ ACall Try.prog 75 [.val (tl r), .val (tl s)] ⟨[.val (tl x), .val (tl y)], [none, none]⟩ := by
  have cc := icompare_call (cmpI a b) hr hs (by unfold nl at hsz; omega) (by unfold nl at hszb; omega) (dg_wd _) (dg_wd _) (dg_tr _) (dg_tr _) (by rw [dg_val, dg_val])
  have t1 := itrimM hr (by omega)
  have t2 := itrimM hs (by omega)
  have tc := iclone_call hr (by unfold nl at hsz; omega)
  by_cases hab : a < b
  · refine ⟨[], r, by rw [Nat.div_eq_of_lt hab]; rfl, by rw [Nat.mod_eq_of_lt hab]; exact hr, ?_⟩
    rw [cmpI_lt (by omega)] at cc
    refine callZ ccOk mixed [.val, .val] Try.func75 rfl rfl (by kernel_rfl) fun zwrap zadd zsub zmul zquo zrem zshl zshr zband zbor zbxor zbandn zeq zne zlt zle znot zbeq zbne zmax zmin znat zinb zofN zidx zneq znadd zdif zcut zroom zmkok zlen znth zsetr zisI zgetI zsetI zfit zpart zext zsetg zrep zwide zall zmok zmget zmset zW zth A L F hS hF => ?_
    have z0 : zlt (-1) 0 = true := by rw [hS.lt]; rfl
    cbv
    refine ⟨_, hS.call (t1), ?_⟩
    cbv
    refine ⟨_, hS.call (t2), ?_⟩
    cbv
    refine ⟨_, hS.call (cc), ?_⟩
    cbv
    refine bT (z0) ?_
    refine ⟨_, hS.call (tc), ?_⟩
    cbv
    exact fin2w hF (TLe.drop _ _) (TVLe.refl _)
  · by_cases h1 : nl b = 1
    · obtain ⟨x, hx⟩ : ∃ x, IsM (a / b) x := ⟨_, rfl⟩
      obtain ⟨y, hy⟩ : ∃ y, IsM (a % b) y := ⟨_, rfl⟩
      refine ⟨x, y, hx, hy, ?_⟩
      have hblt : (b : Int) < 4294967296 := by have := lt_nl b; rw [h1] at this; omega
      have hdgb : dg b = [(b : Int)] := by
        rw [dg_pos hb, show b % 4294967296 = b by omega, show b / 4294967296 = 0 by omega, dg_zero]
      have hmod : (a : Int) % b < b := Int.emod_lt_of_pos _ (by omega)
      have hmod0 : 0 ≤ (a : Int) % b := Int.emod_nonneg _ (by omega)
      have c1 := idivideSmall_call b ((a : Int) / b) ((a : Int) % b) hr (by unfold nl at hsz; omega) (dg_wd _) (by omega) hblt (by rw [dg_val]) (by rw [dg_val])
      have c2 := iwords_call ((a : Int) % b) hmod0 (by omega)
      have q1 : W .u32 (dg ((a : Int) / b).toNat) = x := hx.symm
      have q2 : W .u32 (dg ((a : Int) % b).toNat) = y := hy.symm
      rw [q1] at c1
      rw [q2] at c2
      obtain ⟨c, hc, hc0⟩ : ∃ c, cmpI (a : Int) b = c ∧ ¬ c < 0 := ⟨_, rfl, by
        unfold cmpI
        rw [if_neg (by omega)]
        split <;> omega⟩
      rw [hc] at cc
      generalize (a : Int) % b = e at *
      generalize hbv : (b : Int) = d at *
      refine callZ ccOk mixed [.val, .val] Try.func75 rfl rfl (by kernel_rfl) fun zwrap zadd zsub zmul zquo zrem zshl zshr zband zbor zbxor zbandn zeq zne zlt zle znot zbeq zbne zmax zmin znat zinb zofN zidx zneq znadd zdif zcut zroom zmkok zlen znth zsetr zisI zgetI zsetI zfit zpart zext zsetg zrep zwide zall zmok zmget zmset zW zth A L F hS hF => ?_
      have z1 : zlt c 0 = false := by rw [hS.lt]; exact decide_eq_false hc0
      have z2 : zeq (zofN (zlen s)) 1 = true := by rw [hS.len, hs, W_len, hdgb, hS.ofN, hS.eq]; rfl
      have z3 : zisI .u32 s (znat 0) = true := by rw [hS.isI, hs, hS.nat, hdgb]; rfl
      have z4 : zwrap .u64 (zgetI s (znat 0)) = d := by rw [hS.getI, hs, hS.nat, W_getI, hdgb, hS.wrap]; exact wrap_u64 (by show 0 ≤ d; omega) (by show d < _; omega)
      have z5 : zle 0 0 = true := by rw [hS.le]; rfl
      cbv
      refine ⟨_, hS.call (t1), ?_⟩
      cbv
      refine ⟨_, hS.call (t2), ?_⟩
      cbv
      refine ⟨_, hS.call (cc), ?_⟩
      cbv
      rw [z4]
      refine bF (z1) ?_
      refine bT (z2) ?_
      refine nd (z5) ?_
      refine nd (z3) ?_
      refine ⟨_, hS.call (c1), ?_⟩
      cbv
      refine ⟨_, hS.call (c2), ?_⟩
      cbv
      exact hF _ (ResLe.refl _)
    · have h0 : nl b ≠ 0 := fun h => hb (nl_zero.1 h)
      exact ⟨_, _, rfl, rfl, idivide_long hr hs (by omega) (by omega) hsz⟩
end Go.Proofs.Ytgncmjcoojmccaa
end

section
set_option linter.unusedVariables false
set_option linter.unusedSimpArgs false
set_option maxHeartbeats 8000000
set_option linter.unusedVariables false
set_option linter.unusedSimpArgs false
set_option maxRecDepth 100000
namespace Go.Proofs.Ytgncmjcoojmccaa
open Go Go.Abs Go.Abs.M Go.Proofs

/-- The cells of an integer, 'minus zero' too. -/
def IsS (x : Int) (s : Bool) (r : Abs.Rows) : Prop := IsM x.natAbs r ∧ ((s = true → x ≤ 0) ∧ (s = false → 0 ≤ x))

theorem IsS.of {x : Int} {s : Bool} {r : Abs.Rows} (h : IsI x s r) : IsS x s r := by
  refine ⟨h.m, fun hs => ?_, fun hs => ?_⟩
  · rw [h.s] at hs; have := of_decide_eq_true hs; omega
  · rw [h.s] at hs; have := of_decide_eq_false hs; omega

theorem IsS.neg {x : Int} {s : Bool} {r : Abs.Rows} (h : IsS x s r) : IsS (-x) (!s) r := by
  obtain ⟨h1, h2, h3⟩ := h
  refine ⟨by rw [Int.natAbs_neg]; exact h1, fun hs => ?_, fun hs => ?_⟩
  · have := h3 (by simpa using hs); omega
  · have := h2 (by simpa using hs); omega

/-- What a sign and an absolute value make. -/
theorem isignedS {x : Int} {r : Abs.Rows} (s : Bool) (hx : IsS x s r) (hl : nl x.natAbs ≤ 2199023255552) : ∃ u, IsI x u r ∧ ACall Try.prog 67 [.val (tb s), .val (tl r)] ⟨[.val (.agg (iT u r))], [none, none]⟩ := by
  obtain ⟨h1, h2, h3⟩ := hx
  refine ⟨decide (x < 0), ⟨rfl, h1⟩, isignedM s _ h1 hl ?_⟩
  cases s with
  | true => have := h2 rfl; rw [Bool.true_and, Bool.eq_iff_iff]; simp; omega
  | false => have := h3 rfl; rw [Bool.false_and]; exact decide_eq_false (by omega)

theorem iof_call (n : Int) (h1 : -9223372036854775808 ≤ n) (h2 : n < 9223372036854775808) : ∃ u w, IsI n u w ∧ ACall Try.prog 44 [.val (ti .i64 n)] ⟨[.val (.agg (iT u w))], [none]⟩ := by
  obtain ⟨w, hw⟩ : ∃ w, IsM n.natAbs w := ⟨_, rfl⟩
  have hl : nl n.natAbs ≤ 2 := nl_le_of (by omega)
  have hwords := iwords_call n.natAbs (by omega) (by omega)
  rw [Int.toNat_natCast, show W .u32 (dg n.natAbs) = w from hw.symm] at hwords
  obtain ⟨u, hu, cs⟩ := isignedS (x := n) (decide (n < 0)) ⟨hw, fun h => by have := of_decide_eq_true h; omega, fun h => by have := of_decide_eq_false h; omega⟩ (by omega)
  refine ⟨u, w, hu, ?_⟩
  obtain ⟨M, hM⟩ : ∃ M : Int, M = n.natAbs := ⟨_, rfl⟩
  obtain ⟨D, hD⟩ : ∃ D, D = decide (n < 0) := ⟨_, rfl⟩
  rw [← hM] at hwords
  rw [← hD] at cs
  refine callZ ccOk mixed [.val] Try.func44 rfl rfl (by kernel_rfl) fun zwrap zadd zsub zmul zquo zrem zshl zshr zband zbor zbxor zbandn zeq zne zlt zle znot zbeq zbne zmax zmin znat zinb zofN zidx zneq znadd zdif zcut zroom zmkok zlen znth zsetr zisI zgetI zsetI zfit zpart zext zsetg zrep zwide zall zmok zmget zmset zW zth A L F hS hF => ?_
  have hlt : zlt n 0 = D := by rw [hD]; exact hS.lt ..
  have e1 : D = true → zwrap .u64 (zsub 0 (zwrap .u64 n)) = M := fun h => by
    rw [hD] at h
    have := of_decide_eq_true h
    rw [hS.wrap, hS.wrap, hS.sub, wrap_u64m, wrap_u64m]; omega
  have e2 : D = false → zwrap .u64 n = M := fun h => by
    rw [hD] at h
    have := of_decide_eq_false h
    rw [hS.wrap, wrap_u64 (by omega) (by omega)]; omega
  clear hM hD hw hl hu
  cbv
  rw [hlt]
  refine ⟨fun h => ?_, fun h => ?_⟩
  · rw [e1 h]
    refine ⟨_, hS.call (hwords), ?_⟩
    cbv
    refine ⟨_, hS.call (cs), ?_⟩
    cbv
    exact hF _ (ResLe.refl _)
  · rw [e2 h]
    refine ⟨_, hS.call (hwords), ?_⟩
    cbv
    refine ⟨_, hS.call (cs), ?_⟩
    cbv
    exact hF _ (ResLe.refl _)

theorem isign_call {x : Int} {s : Bool} {r : Abs.Rows} (c : Int) (hx : IsI x s r) (hc : c = cmpI x 0) : ACall Try.prog 51 [.val (.agg (iT s r))] ⟨[.val (ti .i64 c)], [none]⟩ := by
  have hl : r.length = nl x.natAbs := hx.m.len
  have hz := @nl_zero x.natAbs
  refine callZ ccOk mixed [.val] Try.func51 rfl rfl (by kernel_rfl) fun zwrap zadd zsub zmul zquo zrem zshl zshr zband zbor zbxor zbandn zeq zne zlt zle znot zbeq zbne zmax zmin znat zinb zofN zidx zneq znadd zdif zcut zroom zmkok zlen znth zsetr zisI zgetI zsetI zfit zpart zext zsetg zrep zwide zall zmok zmget zmset zW zth A L F hS hF => ?_
  have e1 : zeq (zofN (zlen r)) 0 = decide (x = 0) := by
    rw [hS.eq, hS.ofN, hS.len, hl]
    by_cases h : x = 0
    · rw [decide_eq_true h]; exact decide_eq_true (by omega)
    · rw [decide_eq_false h]; exact decide_eq_false (by omega)
  cbv
  rw [e1]
  refine ⟨fun h => fin1 hF (tv_int ?_), fun h => ⟨fun h' => fin1 hF (tv_int ?_), fun h' => fin1 hF (tv_int ?_)⟩⟩
  · rw [hc, of_decide_eq_true h]; rfl
  · rw [hx.s] at h'; rw [hc, cmpI_lt (of_decide_eq_true h')]
  · rw [hx.s] at h'
    have := of_decide_eq_false h'
    have := of_decide_eq_false h
    rw [hc, cmpI_gt (by omega)]

theorem icmp_call {x y : Int} {s t : Bool} {r q : Abs.Rows} (c : Int) (hx : IsI x s r) (hy : IsI y t q) (hc : c = cmpI x y) (h1 : nl x.natAbs ≤ 2199023255552) (h2 : nl y.natAbs ≤ 2199023255552) :
    ACall Try.prog 54 [.val (.agg (iT s r)), .val (.agg (iT t q))] ⟨[.val (ti .i64 c)], [none, none]⟩ := by
  have c1 := icompare_call (cmpI x.natAbs y.natAbs) hx.m hy.m h1 h2 (dg_wd _) (dg_wd _) (dg_tr _) (dg_tr _) (by rw [dg_val, dg_val])
  have c2 := icompare_call (cmpI y.natAbs x.natAbs) hy.m hx.m h2 h1 (dg_wd _) (dg_wd _) (dg_tr _) (dg_tr _) (by rw [dg_val, dg_val])
  have s1 := isign_call (cmpI x 0) hx rfl
  have s2 := isign_call (cmpI y 0) hy rfl
  have b : ∀ z : Int, (z < 0 → cmpI z 0 = -1) ∧ (z = 0 → cmpI z 0 = 0) ∧ (0 < z → cmpI z 0 = 1) := fun z => ⟨fun h => cmpI_lt h, fun h => by rw [h]; rfl, fun h => cmpI_gt h⟩
  have bx := b x
  have by' := b y
  have n1 : x < 0 → y < 0 → cmpI y.natAbs x.natAbs = c := fun h h' => by rw [show (y.natAbs : Int) = -y by omega, show (x.natAbs : Int) = -x by omega, cmpI_neg, hc]
  have n2 : ¬ x < 0 → ¬ y < 0 → cmpI x.natAbs y.natAbs = c := fun h h' => by rw [show (y.natAbs : Int) = y by omega, show (x.natAbs : Int) = x by omega, hc]
  have n3 : x < y → -1 = c := fun h => by rw [hc, cmpI_lt h]
  have n4 : y < x → 1 = c := fun h => by rw [hc, cmpI_gt h]
  generalize cmpI x.natAbs y.natAbs = u at *
  generalize cmpI y.natAbs x.natAbs = v at *
  generalize cmpI x 0 = a at *
  generalize cmpI y 0 = d at *
  refine callZ ccOk mixed [.val] Try.func54 rfl rfl (by kernel_rfl) fun zwrap zadd zsub zmul zquo zrem zshl zshr zband zbor zbxor zbandn zeq zne zlt zle znot zbeq zbne zmax zmin znat zinb zofN zidx zneq znadd zdif zcut zroom zmkok zlen znth zsetr zisI zgetI zsetI zfit zpart zext zsetg zrep zwide zall zmok zmget zmset zW zth A L F hS hF => ?_
  have e1 : zne a d = decide (a ≠ d) := hS.ne ..
  have e2 : zlt a d = decide (a < d) := hS.lt ..
  have e3 : zlt a 0 = decide (a < 0) := hS.lt ..
  cbv
  refine ⟨_, hS.call (s1), ?_⟩
  cbv
  refine ⟨_, hS.call (s2), ?_⟩
  cbv
  refine ⟨fun h => ⟨fun h' => fin1 hF (tv_int (n3 ?_)), fun h' => fin1 hF (tv_int (n4 ?_))⟩, fun h => ⟨fun h' => ⟨_, hS.call c2, ?_⟩, fun h' => ⟨_, hS.call c1, ?_⟩⟩⟩
  all_goals rw [e1] at h
  · rw [e2] at h'; have := of_decide_eq_true h'; omega
  · rw [e2] at h'; have := of_decide_eq_false h'; have := of_decide_eq_true h; omega
  · rw [e3] at h'; have h1 := of_decide_eq_true h'; have h2 := of_decide_eq_false h
    cbv
    exact fin1 hF (tv_int (n1 (by omega) (by omega)))
  · rw [e3] at h'; have h1 := of_decide_eq_false h'; have h2 := of_decide_eq_false h
    cbv
    exact fin1 hF (tv_int (n2 (by omega) (by omega)))

theorem ineg_call {x : Int} {s : Bool} {r : Abs.Rows} (hx : IsI x s r) (h1 : nl x.natAbs ≤ 2199023255552) : ∃ u w, IsI (-x) u w ∧ ACall Try.prog 57 [.val (.agg (iT s r))] ⟨[.val (.agg (iT u w))], [none]⟩ := by
  have cl := iclone_call hx.m (by unfold nl at h1; omega)
  obtain ⟨u, hu, cs⟩ := isignedS (!s) (IsS.of hx).neg (by rw [Int.natAbs_neg]; exact h1)
  refine ⟨u, r, hu, ?_⟩
  refine callZ ccOk mixed [.val] Try.func57 rfl rfl (by kernel_rfl) fun zwrap zadd zsub zmul zquo zrem zshl zshr zband zbor zbxor zbandn zeq zne zlt zle znot zbeq zbne zmax zmin znat zinb zofN zidx zneq znadd zdif zcut zroom zmkok zlen znth zsetr zisI zgetI zsetI zfit zpart zext zsetg zrep zwide zall zmok zmget zmset zW zth A L F hS hF => ?_
  have e : znot s = !s := hS.not s
  cbv
  refine ⟨_, hS.call (cl), ?_⟩
  cbv
  rw [e]
  refine ⟨_, hS.call (cs), ?_⟩
  cbv
  exact hF _ (ResLe.refl _)

theorem iadd_callS {x y : Int} {s t : Bool} {r q : Abs.Rows} (hx : IsS x s r) (hy : IsS y t q) (h1 : nl x.natAbs ≤ 549755813888) (h2 : nl y.natAbs ≤ 549755813888) :
    ∃ u w, IsI (x + y) u w ∧ ACall Try.prog 45 [.val (.agg (iT s r)), .val (.agg (iT t q))] ⟨[.val (.agg (iT u w))], [none, none]⟩ := by
  have hb : nl (x + y).natAbs ≤ 1099511627776 := by
    have a := nl_mono (show (x + y).natAbs ≤ x.natAbs + y.natAbs by omega)
    have b := nl_add x.natAbs y.natAbs
    omega
  obtain ⟨w, hw⟩ : ∃ w, IsM (x + y).natAbs w := ⟨_, rfl⟩
  obtain ⟨xm, xs, xs'⟩ := hx
  obtain ⟨ym, ys, ys'⟩ := hy
  by_cases hst : s = t
  · have ca := isum_call xm ym (by unfold nl at h1; omega) (by unfold nl at h2; omega) (dg_wd _) (dg_wd _)
    simp only [dg_val] at ca
    have e1 : W .u32 (dg ((x.natAbs : Int) + y.natAbs).toNat) = w := by
      rw [hw]; congr 2
      subst hst
      cases s with
      | true => have := xs rfl; have := ys rfl; omega
      | false => have := xs' rfl; have := ys' rfl; omega
    rw [e1] at ca
    obtain ⟨u, hu, cs⟩ := isignedS (x := x + y) s ⟨hw, fun h => by subst hst; have := xs h; have := ys h; omega, fun h => by subst hst; have := xs' h; have := ys' h; omega⟩ (by omega)
    refine ⟨u, w, hu, ?_⟩
    refine callZ ccOk mixed [.val] Try.func45 rfl rfl (by kernel_rfl) fun zwrap zadd zsub zmul zquo zrem zshl zshr zband zbor zbxor zbandn zeq zne zlt zle znot zbeq zbne zmax zmin znat zinb zofN zidx zneq znadd zdif zcut zroom zmkok zlen znth zsetr zisI zgetI zsetI zfit zpart zext zsetg zrep zwide zall zmok zmget zmset zW zth A L F hS hF => ?_
    have e : zbeq s t = true := by rw [hS.beq]; simpa using hst
    cbv
    refine bT (e) ?_
    refine ⟨_, hS.call (ca), ?_⟩
    cbv
    refine ⟨_, hS.call (cs), ?_⟩
    cbv
    exact hF _ (ResLe.refl _)
  · have cc := icompare_call (cmpI x.natAbs y.natAbs) xm ym (by unfold nl at h1; omega) (by unfold nl at h2; omega) (dg_wd _) (dg_wd _) (dg_tr _) (dg_tr _) (by rw [dg_val, dg_val])
    by_cases hlt : x.natAbs < y.natAbs
    · have c := idifference_call ym xm (by unfold nl at h2; omega) (show nl x.natAbs ≤ nl y.natAbs from nl_mono (by omega)) (dg_wd _) (dg_wd _) (by rw [dg_val, dg_val]; omega)
      simp only [dg_val] at c
      have e1 : W .u32 (dg ((y.natAbs : Int) - x.natAbs).toNat) = w := by
        rw [hw]; congr 2
        cases s <;> cases t <;> first | exact absurd rfl hst | skip
        · have := xs' rfl; have := ys rfl; omega
        · have := xs rfl; have := ys' rfl; omega
      rw [e1] at c
      obtain ⟨u, hu, cs⟩ := isignedS (x := x + y) t ⟨hw, fun h => by
        cases s <;> cases t <;> first | exact absurd rfl hst | (cases h; done) | skip
        have := xs' rfl; have := ys rfl; omega, fun h => by
        cases s <;> cases t <;> first | exact absurd rfl hst | (cases h; done) | skip
        have := xs rfl; have := ys' rfl; omega⟩ (by omega)
      rw [cmpI_lt (by omega)] at cc
      refine ⟨u, w, hu, ?_⟩
      refine callZ ccOk mixed [.val] Try.func45 rfl rfl (by kernel_rfl) fun zwrap zadd zsub zmul zquo zrem zshl zshr zband zbor zbxor zbandn zeq zne zlt zle znot zbeq zbne zmax zmin znat zinb zofN zidx zneq znadd zdif zcut zroom zmkok zlen znth zsetr zisI zgetI zsetI zfit zpart zext zsetg zrep zwide zall zmok zmget zmset zW zth A L F hS hF => ?_
      have e : zbeq s t = false := by rw [hS.beq]; simpa using hst
      have e2 : zle 0 (-1) = false := by rw [hS.le]; rfl
      cbv
      refine bF (e) ?_
      refine ⟨_, hS.call (cc), ?_⟩
      cbv
      refine bF (e2) ?_
      refine ⟨_, hS.call (c), ?_⟩
      cbv
      refine ⟨_, hS.call (cs), ?_⟩
      cbv
      exact hF _ (ResLe.refl _)
    · have c := idifference_call xm ym (by unfold nl at h1; omega) (show nl y.natAbs ≤ nl x.natAbs from nl_mono (by omega)) (dg_wd _) (dg_wd _) (by rw [dg_val, dg_val]; omega)
      simp only [dg_val] at c
      have e1 : W .u32 (dg ((x.natAbs : Int) - y.natAbs).toNat) = w := by
        rw [hw]; congr 2
        cases s <;> cases t <;> first | exact absurd rfl hst | skip
        · have := xs' rfl; have := ys rfl; omega
        · have := xs rfl; have := ys' rfl; omega
      rw [e1] at c
      obtain ⟨u, hu, cs⟩ := isignedS (x := x + y) s ⟨hw, fun h => by
        cases s <;> cases t <;> first | exact absurd rfl hst | (cases h; done) | skip
        have := xs rfl; have := ys' rfl; omega, fun h => by
        cases s <;> cases t <;> first | exact absurd rfl hst | (cases h; done) | skip
        have := xs' rfl; have := ys rfl; omega⟩ (by omega)
      obtain ⟨v, hv, hv0⟩ : ∃ v, cmpI (x.natAbs : Int) y.natAbs = v ∧ 0 ≤ v := ⟨_, rfl, by
        unfold cmpI
        rw [if_neg (by omega)]
        split <;> omega⟩
      rw [hv] at cc
      refine ⟨u, w, hu, ?_⟩
      refine callZ ccOk mixed [.val] Try.func45 rfl rfl (by kernel_rfl) fun zwrap zadd zsub zmul zquo zrem zshl zshr zband zbor zbxor zbandn zeq zne zlt zle znot zbeq zbne zmax zmin znat zinb zofN zidx zneq znadd zdif zcut zroom zmkok zlen znth zsetr zisI zgetI zsetI zfit zpart zext zsetg zrep zwide zall zmok zmget zmset zW zth A L F hS hF => ?_
      have e : zbeq s t = false := by rw [hS.beq]; simpa using hst
      have e2 : zle 0 v = true := by rw [hS.le]; exact decide_eq_true hv0
      cbv
      refine bF (e) ?_
      refine ⟨_, hS.call (cc), ?_⟩
      cbv
      refine bT (e2) ?_
      refine ⟨_, hS.call (c), ?_⟩
      cbv
      refine ⟨_, hS.call (cs), ?_⟩
      cbv
      exact hF _ (ResLe.refl _)

theorem iadd_call {x y : Int} {s t : Bool} {r q : Abs.Rows} (hx : IsI x s r) (hy : IsI y t q) (h1 : nl x.natAbs ≤ 549755813888) (h2 : nl y.natAbs ≤ 549755813888) :
    ∃ u w, IsI (x + y) u w ∧ ACall Try.prog 45 [.val (.agg (iT s r)), .val (.agg (iT t q))] ⟨[.val (.agg (iT u w))], [none, none]⟩ := iadd_callS (.of hx) (.of hy) h1 h2

theorem isub_call {x y : Int} {s t : Bool} {r q : Abs.Rows} (hx : IsI x s r) (hy : IsI y t q) (h1 : nl x.natAbs ≤ 549755813888) (h2 : nl y.natAbs ≤ 549755813888) :
    ∃ u w, IsI (x - y) u w ∧ ACall Try.prog 52 [.val (.agg (iT s r)), .val (.agg (iT t q))] ⟨[.val (.agg (iT u w))], [none, none]⟩ := by
  obtain ⟨u, w, hu, c⟩ := iadd_callS (.of hx) (IsS.of hy).neg h1 (by rw [Int.natAbs_neg]; exact h2)
  refine ⟨u, w, hu.of (by omega), ?_⟩
  refine callZ ccOk mixed [.val] Try.func52 rfl rfl (by kernel_rfl) fun zwrap zadd zsub zmul zquo zrem zshl zshr zband zbor zbxor zbandn zeq zne zlt zle znot zbeq zbne zmax zmin znat zinb zofN zidx zneq znadd zdif zcut zroom zmkok zlen znth zsetr zisI zgetI zsetI zfit zpart zext zsetg zrep zwide zall zmok zmget zmset zW zth A L F hS hF => ?_
  have e : znot t = !t := hS.not t
  cbv
  rw [e]
  refine ⟨_, hS.call (c), ?_⟩
  cbv
  exact hF _ (ResLe.refl _)

theorem imul_call {x y : Int} {s t : Bool} {r q : Abs.Rows} (hx : IsI x s r) (hy : IsI y t q) (h1 : nl x.natAbs ≤ 549755813888) (h2 : nl y.natAbs ≤ 549755813888) :
    ∃ u w, IsI (x * y) u w ∧ ACall Try.prog 46 [.val (.agg (iT s r)), .val (.agg (iT t q))] ⟨[.val (.agg (iT u w))], [none, none]⟩ := by
  obtain ⟨w, hw⟩ : ∃ w, IsM (x * y).natAbs w := ⟨_, rfl⟩
  have hb : nl (x * y).natAbs ≤ 1099511627776 := by
    rw [Int.natAbs_mul]
    have b := nl_mul x.natAbs y.natAbs
    omega
  have hs := hx.s
  have ht := hy.s
  have c := iproduct_call hx.m hy.m (by unfold nl at h1; omega) (by unfold nl at h2; omega) (dg_wd _) (dg_wd _)
  simp only [dg_val] at c
  have e1 : W .u32 (dg ((x.natAbs : Int) * y.natAbs).toNat) = w := by
    rw [hw]; congr 2
    rw [Int.natAbs_mul]
    have : ((x.natAbs : Int) * y.natAbs) = ((x.natAbs * y.natAbs : Nat) : Int) := by push_cast; rfl
    omega
  rw [e1] at c
  obtain ⟨u, hu, cs⟩ := isignedS (x := x * y) (!(s == t)) ⟨hw, fun h => by
      rw [hs, ht] at h
      by_cases h1 : x < 0 <;> by_cases h2 : y < 0 <;> simp [h1, h2] at h
      · exact Int.mul_nonpos_of_nonpos_of_nonneg (by omega) (by omega)
      · exact Int.mul_nonpos_of_nonneg_of_nonpos (by omega) (by omega), fun h => by
      rw [hs, ht] at h
      by_cases h1 : x < 0 <;> by_cases h2 : y < 0 <;> simp [h1, h2] at h
      · exact Int.mul_nonneg_of_nonpos_of_nonpos (by omega) (by omega)
      · exact Int.mul_nonneg (by omega) (by omega)⟩ (by omega)
  refine ⟨u, w, hu, ?_⟩
  refine callZ ccOk mixed [.val] Try.func46 rfl rfl (by kernel_rfl) fun zwrap zadd zsub zmul zquo zrem zshl zshr zband zbor zbxor zbandn zeq zne zlt zle znot zbeq zbne zmax zmin znat zinb zofN zidx zneq znadd zdif zcut zroom zmkok zlen znth zsetr zisI zgetI zsetI zfit zpart zext zsetg zrep zwide zall zmok zmget zmset zW zth A L F hS hF => ?_
  have e : zbne s t = !(s == t) := hS.bne s t
  cbv
  refine ⟨_, hS.call (c), ?_⟩
  cbv
  rw [e]
  refine ⟨_, hS.call (cs), ?_⟩
  cbv
  exact hF _ (ResLe.refl _)
end Go.Proofs.Ytgncmjcoojmccaa
end

section
set_option linter.unusedVariables false
set_option linter.unusedSimpArgs false
set_option maxHeartbeats 8000000
set_option linter.unusedVariables false
set_option linter.unusedSimpArgs false
set_option maxRecDepth 100000
namespace Go.Proofs.Ytgncmjcoojmccaa
open Go Go.Abs Go.Abs.M Go.Proofs

theorem idivmod_call {x y : Int} {s t : Bool} {r q : Abs.Rows} (hx : IsI x s r) (hy : IsI y t q) (hy0 : y ≠ 0) (h1 : nl x.natAbs ≤ 274877906944) (h2 : nl y.natAbs ≤ 274877906944) :
    ∃ u w p, IsI (x / y) u w ∧ IsI (x % y) false p ∧ ACall Try.prog 56 [.val (.agg (iT s r)), .val (.agg (iT t q))] ⟨[.val (.agg (iT u w)), .val (.agg (iT false p)), .val (ti .i64 0)], [none, none]⟩ := by
  obtain ⟨a1, a2, ha1, ha2, cd⟩ := idivide_call hx.m hy.m (by omega) (by omega) (by omega)
  obtain ⟨m1, m2, m3⟩ := divmod_abs (x := x) hy0
  obtain ⟨u, hu⟩ : ∃ u, u = decide (x / y < 0) := ⟨_, rfl⟩
  obtain ⟨w, hw⟩ : ∃ w, IsM (x / y).natAbs w := ⟨_, rfl⟩
  obtain ⟨p, hp⟩ : ∃ p, IsM (x % y).natAbs p := ⟨_, rfl⟩
  have hmod0 := Int.emod_nonneg x hy0
  have hyn : y.natAbs ≠ 0 := by omega
  have hdle : x.natAbs / y.natAbs ≤ x.natAbs := Nat.div_le_self ..
  have hmlt : x.natAbs % y.natAbs < y.natAbs := Nat.mod_lt _ (by omega)
  have hs := hx.s
  have ht := hy.s
  have hbq : nl (x / y).natAbs ≤ 549755813888 := by
    have a := nl_mono (show (x / y).natAbs ≤ x.natAbs + 1 by
      by_cases h : x < 0 ∧ x.natAbs % y.natAbs ≠ 0
      · have := (m2 h).1; omega
      · have := (m1 h).1; omega)
    have b := nl_add x.natAbs 1
    have c : nl 1 ≤ 1 := nl_le_of (by omega)
    omega
  have hbr : nl (x % y).natAbs ≤ 549755813888 := by
    have a := nl_mono (show (x % y).natAbs ≤ y.natAbs by
      by_cases h : x < 0 ∧ x.natAbs % y.natAbs ≠ 0
      · have := (m2 h).2; omega
      · have := (m1 h).2; omega)
    omega
  have cm1 := isignedM (!(s == t)) u hw (by omega) (by
    rw [hu, hs, ht, Bool.eq_iff_iff]
    by_cases h : x < 0 <;> by_cases h' : y < 0 <;> simp [h, h'] at m3 ⊢ <;> omega)
  have cm2 := isignedM false false hp (by omega) rfl
  have hql : q.length = nl y.natAbs := hy.m.len
  have hql0 : nl y.natAbs ≠ 0 := fun h => hyn (nl_zero.1 h)
  have ha2l : a2.length = nl (x.natAbs % y.natAbs) := ha2.len
  have ha2z := @nl_zero (x.natAbs % y.natAbs)
  have ctr := itrimM hy.m (by omega)
  refine ⟨u, w, p, ⟨hu, hw⟩, ⟨(decide_eq_false (by omega)).symm, hp⟩, ?_⟩
  by_cases hc : x < 0 ∧ x.natAbs % y.natAbs ≠ 0
  · obtain ⟨n1, n2⟩ := m2 hc
    have ca := isum_call (s := W .u32 [1]) ha1 rfl (by have := nl_mono hdle; unfold nl at *; omega) (by simp) (dg_wd _) (Wd.cons (by omega) (by omega) Wd.nil)
    have ct := idifference_call hy.m ha2 (by unfold nl at *; omega) (by have := nl_mono (Nat.le_of_lt hmlt); unfold nl at *; omega) (dg_wd _) (dg_wd _) (by rw [dg_val, dg_val]; omega)
    rw [dg_val, dg_val] at ct
    rw [dg_val, show val [1] = 1 from rfl] at ca
    have e1 : W .u32 (dg (((x.natAbs / y.natAbs : Nat) : Int) + 1).toNat) = w := by rw [hw]; congr 2; omega
    have e2 : W .u32 (dg ((y.natAbs : Int) - ((x.natAbs % y.natAbs : Nat) : Int)).toNat) = p := by rw [hp]; congr 2; omega
    rw [e1] at ca
    rw [e2] at ct
    have hs' : s = true := by rw [hs]; exact decide_eq_true hc.1
    subst hs'
    clear m1 m2 m3 hbq hbr
    refine callZ ccOk mixed [.val, .val, .val] Try.func56 rfl rfl (by kernel_rfl) fun zwrap zadd zsub zmul zquo zrem zshl zshr zband zbor zbxor zbandn zeq zne zlt zle znot zbeq zbne zmax zmin znat zinb zofN zidx zneq znadd zdif zcut zroom zmkok zlen znth zsetr zisI zgetI zsetI zfit zpart zext zsetg zrep zwide zall zmok zmget zmset zW zth A L F hS hF => ?_
    have z1 : zeq (zofN (zlen q)) 0 = false := by rw [hS.len, hql, hS.ofN, hS.eq]; exact decide_eq_false (by omega)
    have z2 : zlt 0 (zofN (zlen a2)) = true := by rw [hS.len, ha2l, hS.ofN, hS.lt]; exact decide_eq_true (by omega)
    have z3 : zpart [[.v (.int .u32 1)]] 0 1 = W .u32 [1] := by rw [hS.part]; rfl
    have z4 : zfit 0 1 [[.v (.int .u32 1)]] = true := by rw [hS.fit]; rfl
    cbv
    refine ⟨_, hS.call ctr, ?_⟩
    cbv
    refine bF z1 ⟨_, hS.call cd, ?_⟩
    cbv
    refine bT rfl (bT z2 (nd z4 ?_))
    rw [z3]
    refine ⟨_, hS.call ca, ?_⟩
    cbv
    refine ⟨_, hS.call ct, ?_⟩
    cbv
    rw [hS.bne]
    refine ⟨_, hS.call cm1, ?_⟩
    cbv
    refine ⟨_, hS.call cm2, ?_⟩
    cbv
    exact hF _ (ResLe.refl _)
  · obtain ⟨n1, n2⟩ := m1 hc
    obtain rfl : w = a1 := by rw [hw, ha1, n1]
    obtain rfl : p = a2 := by rw [hp, ha2, n2]; rfl
    clear m1 m2 m3 hbq hbr
    refine callZ ccOk mixed [.val, .val, .val] Try.func56 rfl rfl (by kernel_rfl) fun zwrap zadd zsub zmul zquo zrem zshl zshr zband zbor zbxor zbandn zeq zne zlt zle znot zbeq zbne zmax zmin znat zinb zofN zidx zneq znadd zdif zcut zroom zmkok zlen znth zsetr zisI zgetI zsetI zfit zpart zext zsetg zrep zwide zall zmok zmget zmset zW zth A L F hS hF => ?_
    have z1 : zeq (zofN (zlen q)) 0 = false := by rw [hS.len, hql, hS.ofN, hS.eq]; exact decide_eq_false (by omega)
    have z2 : s = true → zlt 0 (zofN (zlen p)) = false := fun h => by
      rw [hS.len, ha2l, hS.ofN, hS.lt]
      rw [h] at hs
      have := of_decide_eq_true hs.symm
      exact decide_eq_false (by omega)
    have fin : A 67 [.val (tb (!(s == t))), .val (tl w)] ⟨[.val (.agg (iT u w))], [none, none]⟩ := hS.call cm1
    cbv
    refine ⟨_, hS.call ctr, ?_⟩
    cbv
    refine bF z1 ⟨_, hS.call cd, ?_⟩
    cbv
    refine ⟨fun h => bF (z2 h) ?_, fun h => ?_⟩
    all_goals
      rw [hS.bne]
      refine ⟨_, fin, ?_⟩
      cbv
      refine ⟨_, hS.call cm2, ?_⟩
      cbv
      exact hF _ (ResLe.refl _)

def ivalSt (r : Abs.Rows) (m len i : Int) : St := mkSt 22 [vl r, .junk, vi .u64 0, vi .u64 m, .junk, .junk, vi .i64 len, vi .i64 i] [none]
theorem ivalue_call {l : List Int} {r : Abs.Rows} (n : Int) (hr : r = W .u32 l) (hl : l.length ≤ 2) (hw : Wd l) (hn : n = val l) : ACall Try.prog 91 [.val (tl r)] ⟨[.val (ti .u64 n)], [none]⟩ := by
  obtain ⟨N, hN⟩ : ∃ N, N = l.length := ⟨_, rfl⟩
  refine callZ ccOk mixed [.val] Try.func91 rfl rfl (by kernel_rfl) fun zwrap zadd zsub zmul zquo zrem zshl zshr zband zbor zbxor zbandn zeq zne zlt zle znot zbeq zbne zmax zmin znat zinb zofN zidx zneq znadd zdif zcut zroom zmkok zlen znth zsetr zisI zgetI zsetI zfit zpart zext zsetg zrep zwide zall zmok zmget zmset zW zth A L F hS hF => ?_
  have h1 : zlen r = N := by rw [hS.len, hr, W_len, hN]
  have L2 := zlt_nat hS.lt hS.ofN
  have A1 : ∀ (k : Nat), k < N → ∃ (a s m' : Int) (k1 : Nat), zgetI r (znat (zofN k)) = a ∧ zwrap .u64 a = a ∧ zwrap .i64 (zmul 32 (zofN k)) = s ∧ zle 0 s = true ∧ zbor .u64 (val (l.take k)) (zshl .u64 a s) = m' ∧ zwrap .i64 (zadd (zofN k) 1) = zofN k1 ∧ zisI .u32 r (znat (zofN k)) = true ∧ zle 0 (zofN k) = true ∧ k1 = k + 1 ∧ m' = val (l.take k1) := fun k hk => by
    have ga := hw.get k
    have hv := val_take_succ' l k
    have hv0 := val_nonneg (hw.take k)
    have hv1 := val_lt (hw.take k)
    have e2 : (k : Int) = 0 ∨ (k : Int) = 1 := by omega
    refine ⟨l.getD k 0, ((32 * k : Nat) : Int), val (l.take (k + 1)), k + 1, by rw [hS.getI, hS.nat, hS.ofN, hr, W_getI, Int.toNat_natCast], by rw [hS.wrap, wrap_u64 (by omega) (by omega)], ?_, ?_, ?_, ?_, ?_, ?_, rfl, rfl⟩
    · rw [hS.wrap, hS.mul, hS.ofN, wrap_i64 (by omega) (by omega)]; omega
    · rw [hS.le]; exact decide_eq_true (by omega)
    · rw [show ∀ x y, zshl .u64 x y = ZI.std.shl .u64 x y from fun _ _ => hS.shl .., shl_std (32 * k) rfl (by show 32 * k ≤ 64; omega), show ∀ x y, zbor .u64 x y = ZI.std.bor .u64 x y from fun _ _ => hS.bor ..]
      rw [List.length_take] at hv1
      rcases (show k = 0 ∨ k = 1 by omega) with rfl | rfl
      · have z : val (l.take 0) = 0 := by simp [val]
        rw [z] at hv ⊢
        generalize l.getD 0 0 = g at *
        rw [wrap_u64 (by simp; omega) (by simp; omega), bor_lo 0 ga.1 (Int.le_refl 0) (by simp) (by simp; omega), hv]; simp
      · rw [Nat.min_eq_left (by omega)] at hv1
        rw [wrap_u64 (by omega) (by omega), bor_lo 32 ga.1 hv0 (by simpa using hv1) (by omega), hv]; omega
    · rw [hS.wrap, hS.add, hS.ofN, hS.ofN, wrap_i64 (by omega) (by omega)]; omega
    · rw [hS.isI, hr, hS.nat, hS.ofN, W_isI]; exact decide_eq_true (by omega)
    · rw [hS.le, hS.ofN]; exact decide_eq_true (by omega)
  cbv
  refine loopZ ccOk mixed hS (fun (j : Nat) s' => ∃ (k : Nat) (m : Int), k + j = N ∧ m = val (l.take k) ∧ s' = ivalSt r m (zofN N) (zofN k)) (n := N) (s0 := ivalSt r 0 (zofN N) (zofN 0)) (le_of ?_ ?_) rfl (Nat.le_refl 1) ?_ ?_
  · simp [leT, ivalSt, mkSt, vi, vl, hS.ofN, h1]
  · simp [leH, ivalSt, mkSt]
  · exact ⟨0, 0, by omega, by simp [val], rfl⟩
  · rintro j _ ⟨k, m, hk, hm, rfl⟩
    rcases Nat.lt_or_ge k N with hkn | hkn
    · obtain ⟨a, s, m', k1, E1, E2, E3, E4, E5, E6, E7, E8, hk1, hm'⟩ := A1 k hkn
      rw [← hm] at E5
      have e6 : zlt (zofN k) (zofN N) = true := (L2 k N).trans (decide_eq_true hkn)
      cbv
      refine bT e6 ?_
      rw [E1, E2, E3, E5, E6]
      refine nd E8 (nd E7 (nd E4 ?_))
      exact again (s' := ivalSt r m' (zofN N) (zofN k1)) (m := j - 1) (by simp [leT, ivalSt, mkSt, vi, vl]) (by simp [leH, ivalSt, mkSt]) rfl (Nat.le_refl 1) (by omega) ⟨k1, m', by omega, hm', rfl⟩
    · obtain rfl : k = N := by omega
      have e6 : zlt (zofN k) (zofN k) = false := (L2 k k).trans (decide_eq_false (Nat.lt_irrefl k))
      have hmn : m = n := by rw [hm, hn, List.take_of_length_le (by omega)]
      cbv
      exact bF e6 (fin1 hF (tv_int hmn))

def igcdSt (a : Bool) (b : Abs.Rows) (c : Bool) (d x y : Abs.Rows) : St := mkSt 53 [.junk, .junk, .c (.ptr 2 0 0), .c (.ptr 3 0 0), .c (.ptr 4 0 0), vl x, vl y] [none, none, some (.var [.t (.v (.bool a)), .t (.lst false b)]), some (.var [.t (.v (.bool c)), .t (.lst false d)]), some (.var [.t (.v (.bool false)), .t (.lst true [])])]
def igcd2St (a : Bool) (b : Abs.Rows) (c : Bool) (d : Abs.Rows) (m n : Int) : St := mkSt 53 [.junk, .junk, .c (.ptr 2 0 0), .c (.ptr 3 0 0), .c (.ptr 4 0 0), .junk, .junk, vi .u64 m, vi .u64 n] [none, none, some (.var [.t (.v (.bool a)), .t (.lst false b)]), some (.var [.t (.v (.bool c)), .t (.lst false d)]), some (.var [.t (.v (.bool false)), .t (.lst true [])])]
theorem igcd_call {x y : Int} {s t : Bool} {r q : Abs.Rows} (hx : IsI x s r) (hy : IsI y t q) (h1 : nl x.natAbs ≤ 274877906944) (h2 : nl y.natAbs ≤ 274877906944) :
    ∃ w, IsI (Int.gcd x y) false w ∧ ACall Try.prog 77 [.val (.agg (iT s r)), .val (.agg (iT t q))] ⟨[.val (.agg (iT false w))], [none, none]⟩ := by
  obtain ⟨w, hg⟩ : ∃ w, IsM (Int.gcd x y) w := ⟨_, rfl⟩
  have hb : nl (Int.gcd x y) ≤ 2199023255552 := by
    by_cases h : x = 0
    · subst h
      have : Int.gcd 0 y = y.natAbs := by simp [Int.gcd]
      rw [this]; omega
    · have : Int.gcd x y ≤ x.natAbs := Nat.gcd_le_left _ (by omega)
      have := nl_mono this
      omega
  refine ⟨w, ⟨(decide_eq_false (by omega)).symm, hg⟩, ?_⟩
  have cw := isignedM false false hg hb rfl
  have ct := itrimM hx.m (by omega)
  have ct2 := itrimM hy.m (by omega)
  have cl := iclone_call hx.m (by unfold nl at h1; omega)
  have cl2 := iclone_call hy.m (by unfold nl at h2; omega)
  have hr := hx.m
  have hs := hy.m
  clear hx hy
  have hgg : Int.gcd x y = Nat.gcd x.natAbs y.natAbs := rfl
  rw [hgg] at hg hb
  clear hgg
  generalize x.natAbs = a at *
  generalize y.natAbs = b at *
  refine callZ ccOk mixed [.val] Try.func77 rfl rfl (by kernel_rfl) fun zwrap zadd zsub zmul zquo zrem zshl zshr zband zbor zbxor zbandn zeq zne zlt zle znot zbeq zbne zmax zmin znat zinb zofN zidx zneq znadd zdif zcut zroom zmkok zlen znth zsetr zisI zgetI zsetI zfit zpart zext zsetg zrep zwide zall zmok zmget zmset zW zth A L F hS hF => ?_
  cbv
  refine ⟨_, hS.call (ct), ?_⟩
  cbv
  refine ⟨_, hS.call (cl), ?_⟩
  cbv
  refine ⟨_, hS.call (ct2), ?_⟩
  cbv
  refine ⟨_, hS.call (cl2), ?_⟩
  cbv
  refine loopZ ccOk mixed hS (fun (m : Nat) s' => ∃ (c : Nat) (x y : Abs.Rows), IsM c x ∧ IsM m y ∧ nl c ≤ 274877906944 ∧ nl m ≤ 274877906944 ∧ Nat.gcd c m = Nat.gcd a b ∧ s' = igcdSt s r t q x y) (n := b) (s0 := igcdSt s r t q r q) (le_of ?_ ?_) rfl (by show 2 ≤ 5; omega) ?_ ?_
  · simp [leT, igcdSt, mkSt, vl, vnil]
  · simp [leH, igcdSt, mkSt]
  · exact ⟨a, r, q, hr, hs, h1, h2, rfl, rfl⟩
  · rintro m _ ⟨c, x, y, hx, hy, l1, l2, hgc, rfl⟩
    have hmz := @nl_zero m
    have hxl : zlen x = nl c := by rw [hS.len, hx.len]
    have hyl : zlen y = nl m := by rw [hS.len, hy.len]
    have e1 : zlt 0 (zofN (zlen y)) = decide (m ≠ 0) := by
      rw [hyl, hS.lt, hS.ofN]
      by_cases h : m = 0
      · rw [decide_eq_false (show ¬ m ≠ 0 by omega)]; exact decide_eq_false (by omega)
      · rw [decide_eq_true h]; exact decide_eq_true (by omega)
    have e2 : zle (zofN (zlen x)) 2 = decide (nl c ≤ 2) := by
      rw [hxl, hS.le, hS.ofN]
      by_cases h : nl c ≤ 2
      · rw [decide_eq_true h]; exact decide_eq_true (by omega)
      · rw [decide_eq_false h]; exact decide_eq_false (by omega)
    have e3 : zle (zofN (zlen y)) 2 = decide (nl m ≤ 2) := by
      rw [hyl, hS.le, hS.ofN]
      by_cases h : nl m ≤ 2
      · rw [decide_eq_true h]; exact decide_eq_true (by omega)
      · rw [decide_eq_false h]; exact decide_eq_false (by omega)
    have hdiv : m ≠ 0 → ∃ p q, IsM (c / m) p ∧ IsM (c % m) q ∧ ACall Try.prog 75 [.val (tl x), .val (tl y)] ⟨[.val (tl p), .val (tl q)], [none, none]⟩ := fun h => idivide_call hx hy h (by omega) (by omega)
    have hend : m = 0 → x = w := fun h => by
      subst h
      rw [Nat.gcd_zero_right] at hgc
      rw [hx, hg, hgc]
    by_cases hm0 : m = 0
    · rw [hend hm0] at *
      cbv
      refine bF (by rw [e1]; exact decide_eq_false (by omega)) ?_
      refine ⟨_, hS.call (cw), ?_⟩
      cbv
      exact hF _ (ResLe.refl _)
    · by_cases hsh : nl c ≤ 2 ∧ nl m ≤ 2
      · obtain ⟨k1, k2⟩ := hsh
        have b1 := lt_nl c
        have b2 := lt_nl m
        have b3 := ipow_le k1
        have b4 := ipow_le k2
        obtain ⟨C, hC⟩ : ∃ C : Int, C = c := ⟨_, rfl⟩
        obtain ⟨M, hM⟩ : ∃ M : Int, M = m := ⟨_, rfl⟩
        have n1 := ivalue_call C hx k1 (dg_wd _) (by rw [dg_val, hC])
        have n2 := ivalue_call M hy k2 (dg_wd _) (by rw [dg_val, hM])
        have hgb : Nat.gcd c m < 18446744073709551616 := by
          have := Nat.gcd_le_right c (Nat.pos_of_ne_zero hm0); omega
        have n4 : ∀ g : Nat, g = Nat.gcd a b → ∀ G : Int, G = g → ACall Try.prog 68 [.val (ti .u64 G)] ⟨[.val (tl w)], [none]⟩ := fun g hgv G hG => by
          have := iwords_call G (by omega) (by rw [hG, hgv, ← hgc]; omega)
          rw [hG, Int.toNat_natCast, hgv, ← show w = W .u32 (dg (Nat.gcd a b)) from hg, ← hgv, ← hG] at this
          exact this
        have hcb : c < 18446744073709551616 := by omega
        have hmb : m < 18446744073709551616 := by omega
        clear b1 b2 b3 b4 l1 l2
        cbv
        refine bT (by rw [e1]; exact decide_eq_true hm0) (bT (by rw [e2]; exact decide_eq_true k1) (bT (by rw [e3]; exact decide_eq_true k2) ⟨_, hS.call n1, ?_⟩))
        cbv
        refine ⟨_, hS.call n2, ?_⟩
        cbv
        refine loopZ ccOk mixed hS (fun (j : Nat) s' => ∃ c' : Nat, c' < 18446744073709551616 ∧ j < 18446744073709551616 ∧ Nat.gcd c' j = Nat.gcd a b ∧ s' = igcd2St s r t q (zofN c') (zofN j)) (n := m) (s0 := igcd2St s r t q (zofN c) (zofN m)) (le_of ?_ ?_) rfl (by show 2 ≤ 5; omega) ?_ ?_
        · simp [leT, igcd2St, mkSt, vi, hS.ofN, hC, hM]
        · simp [leH, igcd2St, mkSt]
        · exact ⟨c, hcb, hmb, hgc, rfl⟩
        · rintro j _ ⟨c', hc', hj, hgc', rfl⟩
          have f1 : 0 < j → zrem (zofN c') (zofN j) = zofN (c' % j) := fun h => by rw [hS.rem, hS.ofN, hS.ofN, hS.ofN, Int.tmod_eq_emod_of_nonneg (by omega)]; rfl
          have f2 : zlt 0 (zofN j) = decide (0 < j) := by
            rw [hS.lt, hS.ofN]
            by_cases h : 0 < j
            · rw [decide_eq_true h]; exact decide_eq_true (by omega)
            · rw [decide_eq_false h]; exact decide_eq_false (by omega)
          have f3 : 0 < j → zne (zofN j) 0 = true := fun h => by rw [hS.ne, hS.ofN]; exact decide_eq_true (by omega)
          have f4 : j = 0 → ACall Try.prog 68 [.val (ti .u64 (zofN c'))] ⟨[.val (tl w)], [none]⟩ := fun h => by
            subst h
            rw [Nat.gcd_zero_right] at hgc'
            exact n4 c' hgc' _ (hS.ofN _)
          cbv
          refine ⟨fun h => ?_, fun h => ?_⟩
          all_goals rw [f2] at h
          · have h := of_decide_eq_true h
            rw [f1 h]
            refine nd (f3 h) ?_
            refine again (s' := igcd2St s r t q (zofN j) (zofN (c' % j))) (m := c' % j) (by simp [leT, igcd2St, mkSt, vi]) (by simp [leH, igcd2St, mkSt]) rfl (by show 2 ≤ 5; omega) (Nat.mod_lt _ h) ⟨j, hj, ?_, ?_, rfl⟩
            · have := Nat.mod_lt c' h; omega
            · rw [← hgc', Nat.gcd_comm c' j, Nat.gcd_rec j c', Nat.gcd_comm]
          · have h := of_decide_eq_false h
            refine ⟨_, hS.call (f4 (by omega)), ?_⟩
            cbv
            refine ⟨_, hS.call (cw), ?_⟩
            cbv
            exact hF _ (ResLe.refl _)
      · obtain ⟨p, q', _, hq, cd⟩ := hdiv hm0
        have nx : ∃ (c' : Nat) (x' y' : Abs.Rows), IsM c' x' ∧ IsM (c % m) y' ∧ nl c' ≤ 274877906944 ∧ nl (c % m) ≤ 274877906944 ∧ Nat.gcd c' (c % m) = Nat.gcd a b ∧ igcdSt s r t q y q' = igcdSt s r t q x' y' :=
          ⟨m, y, q', hy, hq, l2, Nat.le_trans (nl_mono (Nat.le_of_lt (Nat.mod_lt _ (Nat.pos_of_ne_zero hm0)))) l2, by rw [← hgc, Nat.gcd_comm c m, Nat.gcd_rec m c, Nat.gcd_comm], rfl⟩
        have e1' : zlt 0 (zofN (zlen y)) = true := by rw [e1]; exact decide_eq_true hm0
        cbv
        refine bT e1' ⟨fun h2 => bF ?_ ?_, fun h2 => ?_⟩
        · rw [e3]; rw [e2] at h2; have := of_decide_eq_true h2; exact decide_eq_false (by omega)
        all_goals
          refine ⟨_, hS.call cd, ?_⟩
          cbv
          exact again (s' := igcdSt s r t q y q') (m := c % m) (by simp [leT, igcdSt, mkSt, vl, vnil]) (by simp [leH, igcdSt, mkSt]) rfl (by show 2 ≤ 5; omega) (Nat.mod_lt _ (Nat.pos_of_ne_zero hm0)) nx
end Go.Proofs.Ytgncmjcoojmccaa
end

section
set_option linter.unusedVariables false
set_option linter.unusedSimpArgs false
set_option maxHeartbeats 8000000
set_option linter.unusedVariables false
set_option linter.unusedSimpArgs false
set_option maxRecDepth 100000
namespace Go.Proofs.Ytgncmjcoojmccaa
open Go Go.Abs Go.Abs.M Go.Proofs

theorem cmpI_cases (x y : Int) : (cmpI x y ≤ 0 ↔ x ≤ y) ∧ (cmpI x y = 0 ↔ x = y) ∧ (cmpI x y < 0 ↔ x < y) := by
  unfold cmpI
  split
  · omega
  · split <;> omega

/-- 'small': twice the square is at most the limit. -/
theorem psmall_call {x l : Int} {s c : Bool} {r d : Abs.Rows} (hx : IsI x s r) (hl : IsI l c d) (h1 : nl x.natAbs ≤ 68719476736) (h2 : nl l.natAbs ≤ 68719476736) :
    ACall Try.prog 53 [.val (.agg (iT s r)), .ref (iT c d)] ⟨[.val (tb (decide (x * x + x * x ≤ l)))], [none, some (.var [.t (.v (.bool c)), .t (.lst false d)])]⟩ := by
  obtain ⟨a1, a2, ha, ca⟩ := imul_call hx hx (by omega) (by omega)
  have n1 := nl_mul x.natAbs x.natAbs
  have n2 : nl (x * x).natAbs ≤ 137438953472 := by rw [Int.natAbs_mul]; omega
  obtain ⟨b1, b2, hb, cb⟩ := iadd_call ha ha (by omega) (by omega)
  have n3 := nl_mono (Int.natAbs_add_le (x * x) (x * x))
  have n4 := nl_add (x * x).natAbs (x * x).natAbs
  obtain ⟨v, hv⟩ : ∃ v, v = cmpI (x * x + x * x) l := ⟨_, rfl⟩
  have cc := icmp_call v hb hl hv (by omega) (by omega)
  have hz := (cmpI_cases (x * x + x * x) l).1
  rw [← hv] at hz
  have hd : decide (v ≤ 0) = decide (x * x + x * x ≤ l) := by simp [hz]
  rw [← hd]
  refine callZ ccOk mixed [.val] Try.func53 rfl rfl (by kernel_rfl) fun zwrap zadd zsub zmul zquo zrem zshl zshr zband zbor zbxor zbandn zeq zne zlt zle znot zbeq zbne zmax zmin znat zinb zofN zidx zneq znadd zdif zcut zroom zmkok zlen znth zsetr zisI zgetI zsetI zfit zpart zext zsetg zrep zwide zall zmok zmget zmset zW zth A L F hS hF => ?_
  have e : zle v 0 = decide (v ≤ 0) := hS.le ..
  clear hv hz hd n1 n2 n3 n4
  cbv
  refine ⟨_, hS.call (ca), ?_⟩
  cbv
  refine ⟨_, hS.call (cb), ?_⟩
  cbv
  refine ⟨_, hS.call (cc), ?_⟩
  cbv
  exact fin1 hF (tv_bool e)

theorem pcombine_call {ar ad br bd q : Int} {s1 s2 s3 s4 s5 : Bool} {r1 r2 r3 r4 r5 : Abs.Rows} (h1 : IsI ar s1 r1) (h2 : IsI ad s2 r2) (h3 : IsI br s3 r3) (h4 : IsI bd s4 r4) (h5 : IsI q s5 r5)
    (l1 : nl ar.natAbs ≤ 68719476736) (l2 : nl ad.natAbs ≤ 68719476736) (l3 : nl br.natAbs ≤ 68719476736) (l4 : nl bd.natAbs ≤ 68719476736) (l5 : nl q.natAbs ≤ 68719476736) :
    ∃ u w v p, IsI (ar - q * br) u w ∧ IsI (ad - q * bd) v p ∧ ACall Try.prog 55 [.val (.agg (iT s1 r1 ++ iT s2 r2)), .val (.agg (iT s3 r3 ++ iT s4 r4)), .val (.agg (iT s5 r5))] ⟨[.val (.agg (iT u w ++ iT v p))], [none, none, none]⟩ := by
  have n1 := nl_mul q.natAbs br.natAbs
  have n2 := nl_mul q.natAbs bd.natAbs
  obtain ⟨a1, a2, ha, ca⟩ := imul_call h5 h3 (by omega) (by omega)
  obtain ⟨b1, b2, hb, cb⟩ := isub_call h1 ha (by omega) (by rw [Int.natAbs_mul]; omega)
  obtain ⟨c1, c2, hc, cc⟩ := imul_call h5 h4 (by omega) (by omega)
  obtain ⟨d1, d2, hd, cd⟩ := isub_call h2 hc (by omega) (by rw [Int.natAbs_mul]; omega)
  refine ⟨_, _, _, _, hb, hd, ?_⟩
  refine callZ ccOk mixed [.val] Try.func55 rfl rfl (by kernel_rfl) fun zwrap zadd zsub zmul zquo zrem zshl zshr zband zbor zbxor zbandn zeq zne zlt zle znot zbeq zbne zmax zmin znat zinb zofN zidx zneq znadd zdif zcut zroom zmkok zlen znth zsetr zisI zgetI zsetI zfit zpart zext zsetg zrep zwide zall zmok zmget zmset zW zth A L F hS hF => ?_
  cbv
  refine ⟨_, hS.call (ca), ?_⟩
  cbv
  refine ⟨_, hS.call (cb), ?_⟩
  cbv
  refine ⟨_, hS.call (cc), ?_⟩
  cbv
  refine ⟨_, hS.call (cd), ?_⟩
  cbv
  exact hF _ (ResLe.refl _)

theorem pcoprime_call {x y : Int} {s t : Bool} {r q : Abs.Rows} (hx : IsI x s r) (hy : IsI y t q) (h1 : nl x.natAbs ≤ 274877906944) (h2 : nl y.natAbs ≤ 274877906944) :
    ACall Try.prog 58 [.val (.agg (iT s r)), .val (.agg (iT t q))] ⟨[.val (tb (decide (Int.gcd x y = 1)))], [none, none]⟩ := by
  obtain ⟨w, hw, cg⟩ := igcd_call hx hy h1 h2
  obtain ⟨a1, a2, ha, ca⟩ := iof_call 1 (by omega) (by omega)
  have hb : nl (Int.gcd x y) ≤ 274877906944 := by
    by_cases h : x = 0
    · subst h
      have : Int.gcd 0 y = y.natAbs := by simp [Int.gcd]
      rw [this]; omega
    · have : Int.gcd x y ≤ x.natAbs := Nat.gcd_le_left _ (by omega)
      have := nl_mono this
      omega
  have n1 : nl (1 : Int).natAbs ≤ 1 := nl_le_of (by omega)
  obtain ⟨v, hv⟩ : ∃ v, v = cmpI (Int.gcd x y) 1 := ⟨_, rfl⟩
  have cc := icmp_call v hw ha hv (by rw [Int.natAbs_natCast]; omega) (by omega)
  have hz := (cmpI_cases (Int.gcd x y) 1).2.1
  rw [← hv] at hz
  have hd : decide (v = 0) = decide (Int.gcd x y = 1) := by
    by_cases h : v = 0
    · rw [decide_eq_true h]; have := hz.1 h; exact (decide_eq_true (by omega)).symm
    · rw [decide_eq_false h]; have := fun h' => h (hz.2 h'); exact (decide_eq_false (by omega)).symm
  rw [← hd]
  refine callZ ccOk mixed [.val] Try.func58 rfl rfl (by kernel_rfl) fun zwrap zadd zsub zmul zquo zrem zshl zshr zband zbor zbxor zbandn zeq zne zlt zle znot zbeq zbne zmax zmin znat zinb zofN zidx zneq znadd zdif zcut zroom zmkok zlen znth zsetr zisI zgetI zsetI zfit zpart zext zsetg zrep zwide zall zmok zmget zmset zW zth A L F hS hF => ?_
  have e : zeq v 0 = decide (v = 0) := hS.eq ..
  clear hv hz hd hb n1
  cbv
  refine ⟨_, hS.call (cg), ?_⟩
  cbv
  refine ⟨_, hS.call (ca), ?_⟩
  cbv
  refine ⟨_, hS.call (cc), ?_⟩
  cbv
  exact fin1 hF (tv_bool e)
end Go.Proofs.Ytgncmjcoojmccaa
end

section
set_option linter.unusedVariables false
set_option linter.unusedSimpArgs false
/-
  Small fractions with a given residue: the extended Euclidean algorithm finds the only one.
-/
set_option linter.unusedVariables false
namespace Go.Abs.M

theorem sq_nn (x : Int) : 0 ≤ x * x := by
  rcases Int.le_total 0 x with h | h
  · exact Int.mul_nonneg h h
  · exact Int.mul_nonneg_of_nonpos_of_nonpos h h

theorem two_mul_le (x y : Int) : x * y + x * y ≤ x * x + y * y := by
  have h := sq_nn (x - y)
  have e : (x - y) * (x - y) = x * x - (x * y + x * y) + y * y := by grind
  omega

theorem sq_le {x y : Int} (hx : 0 ≤ x) (h : x ≤ y) : x * x ≤ y * y := Int.mul_le_mul h h hx (by omega)

/-- A solution: a small fraction in lowest terms with the residue u modulo m. -/
structure RebSol (u m n d : Int) : Prop where
  pos : 0 < d
  sn : n * n + n * n ≤ m - 1
  sd : d * d + d * d ≤ m - 1
  co : Int.gcd n d = 1
  cm : Int.gcd d m = 1
  dv : m ∣ n - u * d

structure RInv (u m ra da rb db e : Int) : Prop where
  mp : 0 < m
  ca : m ∣ ra - u * da
  cb : m ∣ rb - u * db
  r0 : 0 ≤ rb
  rl : rb < ra
  det : ra * db - rb * da = e * m
  he : e = 1 ∨ e = -1
  pb : 0 < e * db
  pa : e * da ≤ 0
  big : m - 1 < ra * ra + ra * ra

section
variable {u m ra da rb db e n d : Int}

theorem RInv.start (hm : 0 < m) : RInv u m m 0 (u % m) 1 1 := by
  refine ⟨hm, ⟨1, by grind⟩, ?_, Int.emod_nonneg _ (by omega), Int.emod_lt_of_pos _ hm, by grind, .inl rfl, by omega, by omega, ?_⟩
  · have := Int.emod_add_mul_ediv u m
    exact ⟨-(u / m), by grind⟩
  · have : m * 1 ≤ m * m := Int.mul_le_mul_of_nonneg_left (by omega) (by omega)
    omega

theorem RInv.step (h : RInv u m ra da rb db e) (hb : ¬ rb * rb + rb * rb ≤ m - 1) : 0 < rb ∧ RInv u m rb db (ra - ra / rb * rb) (da - ra / rb * db) (-e) ∧ ra - ra / rb * rb < rb := by
  obtain ⟨mp, ca, cb, r0, rl, det, he, pb, pa, big⟩ := h
  have hr : 0 < rb := by
    rcases Int.lt_or_le 0 rb with h | h
    · exact h
    · have : rb = 0 := by omega
      subst this; simp at hb; omega
  have e1 := Int.emod_add_mul_ediv ra rb
  have m0 := Int.emod_nonneg ra (show rb ≠ 0 by omega)
  have m1 := Int.emod_lt_of_pos ra hr
  have q1 : 1 ≤ ra / rb := by
    rcases Int.lt_or_le 0 (ra / rb) with h | h
    · omega
    · have : rb * (ra / rb) ≤ rb * 0 := Int.mul_le_mul_of_nonneg_left h (by omega)
      omega
  have e2 : ra - ra / rb * rb = ra % rb := by rw [Int.mul_comm]; omega
  rw [e2]
  refine ⟨hr, ⟨mp, cb, ?_, m0, m1, ?_, ?_, ?_, ?_, by omega⟩, m1⟩
  · obtain ⟨x, hx⟩ := ca
    obtain ⟨y, hy⟩ := cb
    refine ⟨x - ra / rb * y, ?_⟩
    rw [← e2]
    generalize ra / rb = q at *
    grind
  · rw [← e2]
    generalize ra / rb = q at *
    grind
  · rcases he with rfl | rfl
    · right; rfl
    · left; rfl
  · have x1 : -e * (da - ra / rb * db) = -(e * da) + ra / rb * (e * db) := by grind
    have x2 : 1 * (e * db) ≤ ra / rb * (e * db) := Int.mul_le_mul_of_nonneg_right q1 (by omega)
    omega
  · have : -e * db = -(e * db) := Int.neg_mul ..
    omega

theorem RInv.small (h : RInv u m ra da rb db e) : (e * db) * ra ≤ m ∧ (-(e * da)) * rb ≤ m ∧ e * db ≤ m := by
  obtain ⟨mp, ca, cb, r0, rl, det, he, pb, pa, big⟩ := h
  have k : (e * db) * ra + (-(e * da)) * rb = m := by
    have : e * (ra * db - rb * da) = e * (e * m) := by rw [det]
    have ee : e * e = 1 := by rcases he with rfl | rfl <;> rfl
    have : e * (e * m) = m := by rw [← Int.mul_assoc, ee, Int.one_mul]
    grind
  have x1 : 0 ≤ (e * db) * ra := Int.mul_nonneg (by omega) (by omega)
  have x2 : 0 ≤ (-(e * da)) * rb := Int.mul_nonneg (by omega) r0
  have x3 : e * db * 1 ≤ e * db * ra := Int.mul_le_mul_of_nonneg_left (by omega) (by omega)
  omega

theorem RInv.complete (h : RInv u m ra da rb db e) (hs : rb * rb + rb * rb ≤ m - 1) (sol : RebSol u m n d) : n = e * rb ∧ d = e * db := by
  obtain ⟨mp, ca, cb, r0, rl, det, he, pb, pa, big⟩ := h
  obtain ⟨dp, sn, sd, co, cm, dv⟩ := sol
  have ee : e * e = 1 := by rcases he with rfl | rfl <;> rfl
  obtain ⟨x, hx⟩ := ca
  obtain ⟨y, hy⟩ := cb
  obtain ⟨z, hz⟩ := dv
  obtain ⟨A, hA⟩ : ∃ A, A = z * db - y * d := ⟨_, rfl⟩
  obtain ⟨B, hB⟩ : ∃ B, B = x * d - z * da := ⟨_, rfl⟩
  have tA : n * db - rb * d = m * A := by grind
  have tB : ra * d - n * da = m * B := by grind
  have n1 : e * n = A * ra + B * rb := by
    have : m * (e * n) = m * (A * ra + B * rb) := by grind
    exact Int.eq_of_mul_eq_mul_left (by omega) this
  have d1 : e * d = A * da + B * db := by
    have : m * (e * d) = m * (A * da + B * db) := by grind
    exact Int.eq_of_mul_eq_mul_left (by omega) this
  have d2 : d = A * (e * da) + B * (e * db) := by grind
  have nsq : n * n = (A * ra + B * rb) * (A * ra + B * rb) := by grind
  have far : ∀ k : Int, ra ≤ k → n * n = k * k → False := fun k hk h => by
    have := sq_le (show 0 ≤ ra by omega) hk
    omega
  have hA0 : A = 0 := by
    rcases Int.lt_trichotomy A 0 with h | h | h
    · exfalso
      rcases Int.lt_or_le 0 B with hb | hb
      · -- the other way: the numbers are too small
        have y1 : 0 ≤ A * (e * da) := Int.mul_nonneg_of_nonpos_of_nonpos (by omega) pa
        have y2 : 1 * (e * db) ≤ B * (e * db) := Int.mul_le_mul_of_nonneg_right (by omega) (by omega)
        have hP : e * db ≤ d := by omega
        have t1 := two_mul_le rb d
        have hm1 : m * A ≤ m * (-1) := Int.mul_le_mul_of_nonneg_left (by omega) (by omega)
        have e3 : n * db = (e * n) * (e * db) := by
          have : (e * n) * (e * db) = e * e * (n * db) := by grind
          rw [this, ee, Int.one_mul]
        have hen : (e * n) * (e * n) = n * n := by
          have : (e * n) * (e * n) = e * e * (n * n) := by grind
          rw [this, ee, Int.one_mul]
        generalize e * n = N at *
        rcases Int.le_total 0 N with hN | hN
        · have : 0 ≤ N * (e * db) := Int.mul_nonneg hN (by omega)
          omega
        · have y3 : (-N) * (e * db) ≤ (-N) * d := Int.mul_le_mul_of_nonneg_left hP (by omega)
          have t2 := two_mul_le (-N) d
          have y4 : (-N) * (-N) = N * N := by grind
          have y5 : (-N) * (e * db) = -(N * (e * db)) := Int.neg_mul ..
          omega
      · refine far (-(A * ra + B * rb)) ?_ (by rw [nsq]; grind)
        have y1 : (-A) * ra ≥ 1 * ra := Int.mul_le_mul_of_nonneg_right (by omega) (by omega)
        have y2 : 0 ≤ (-B) * rb := Int.mul_nonneg (by omega) r0
        have y3 : -(A * ra + B * rb) = (-A) * ra + (-B) * rb := by grind
        omega
    · exact h
    · exfalso
      rcases Int.lt_or_le B 0 with hb | hb
      · have y1 : A * (e * da) ≤ 0 := Int.mul_nonpos_of_nonneg_of_nonpos (by omega) pa
        have y2 : B * (e * db) ≤ 0 := Int.mul_nonpos_of_nonpos_of_nonneg (by omega) (by omega)
        omega
      · refine far (A * ra + B * rb) ?_ nsq
        have y1 : 1 * ra ≤ A * ra := Int.mul_le_mul_of_nonneg_right (by omega) (by omega)
        have y2 : 0 ≤ B * rb := Int.mul_nonneg hb r0
        omega
  subst hA0
  have n2 : n = (e * B) * rb := by
    have : e * (e * n) = e * (0 * ra + B * rb) := by rw [n1]
    have k : e * (e * n) = n := by rw [← Int.mul_assoc, ee, Int.one_mul]
    grind
  have d3 : d = (e * B) * db := by
    have : e * (e * d) = e * (0 * da + B * db) := by rw [d1]
    have k : e * (e * d) = d := by rw [← Int.mul_assoc, ee, Int.one_mul]
    grind
  have hg : (e * B).natAbs ∣ 1 := by
    rw [← co]
    refine Nat.dvd_gcd ?_ ?_
    · exact Int.natAbs_dvd_natAbs.2 ⟨rb, n2⟩
    · exact Int.natAbs_dvd_natAbs.2 ⟨db, d3⟩
  have h1 : (e * B).natAbs = 1 := Nat.dvd_one.1 hg
  have hBp : 0 < B := by
    rcases Int.lt_or_le 0 B with h | h
    · exact h
    · have : B * (e * db) ≤ 0 := Int.mul_nonpos_of_nonpos_of_nonneg h (by omega)
      omega
  have hB1 : B = 1 := by
    rcases he with rfl | rfl
    · omega
    · omega
  subst hB1
  exact ⟨by rw [n2, Int.mul_one], by rw [d3, Int.mul_one]⟩

/-- What is found is a solution. -/
theorem RInv.sound (h : RInv u m ra da rb db e) (hs : rb * rb + rb * rb ≤ m - 1) (h1 : (e * db) * (e * db) + (e * db) * (e * db) ≤ m - 1) (h2 : Int.gcd (e * rb) (e * db) = 1) (h3 : Int.gcd (e * db) m = 1) : RebSol u m (e * rb) (e * db) := by
  have ee : e * e = 1 := by rcases h.he with rfl | rfl <;> rfl
  refine ⟨h.pb, ?_, h1, h2, h3, ?_⟩
  · have : (e * rb) * (e * rb) = e * e * (rb * rb) := by grind
    rw [this, ee, Int.one_mul]; exact hs
  · obtain ⟨y, hy⟩ := h.cb
    exact ⟨e * y, by grind⟩

end
theorem int_cop {a b c : Int} (h : a ∣ b * c) (hg : Int.gcd b a = 1) : a ∣ c := by
  have hc : Nat.Coprime a.natAbs b.natAbs := by
    have : Nat.gcd b.natAbs a.natAbs = 1 := hg
    rw [Nat.gcd_comm] at this; exact this
  have h2 : a.natAbs ∣ b.natAbs * c.natAbs := by rw [← Int.natAbs_mul]; exact Int.natAbs_dvd_natAbs.2 h
  exact Int.natAbs_dvd_natAbs.1 (hc.dvd_of_dvd_mul_left h2)

/-- There is at most one. -/
theorem RebSol.unique {u m n d n' d' : Int} (h : RebSol u m n d) (h' : RebSol u m n' d') : n = n' ∧ d = d' := by
  obtain ⟨x, hx⟩ := h.dv
  obtain ⟨y, hy⟩ := h'.dv
  have e : n * d' - n' * d = m * (x * d' - y * d) := by grind
  have t1 := two_mul_le n d'
  have t2 := two_mul_le (-n) d'
  have t3 := two_mul_le n' d
  have t4 := two_mul_le (-n') d
  have k1 : (-n) * d' = -(n * d') := Int.neg_mul ..
  have k2 : (-n) * (-n) = n * n := by grind
  have k3 : (-n') * d = -(n' * d) := Int.neg_mul ..
  have k4 : (-n') * (-n') = n' * n' := by grind
  have s1 := h.sn
  have s2 := h.sd
  have s3 := h'.sn
  have s4 := h'.sd
  have hm : 0 < m := by have := sq_nn n; omega
  have hz : n * d' = n' * d := by
    generalize x * d' - y * d = z at *
    rcases Int.lt_trichotomy z 0 with h | h | h
    · have : m * z ≤ m * (-1) := Int.mul_le_mul_of_nonneg_left (by omega) (by omega); omega
    · subst h; omega
    · have : m * 1 ≤ m * z := Int.mul_le_mul_of_nonneg_left (by omega) (by omega); omega
  have c1 : d ∣ d' := int_cop (b := n) ⟨n', by grind⟩ h.co
  have c2 : d' ∣ d := int_cop (b := n') ⟨n, by grind⟩ h'.co
  have hd : d = d' := Int.dvd_antisymm (by have := h.pos; omega) (by have := h'.pos; omega) c1 c2
  subst hd
  exact ⟨Int.eq_of_mul_eq_mul_right (by have := h.pos; omega) hz, rfl⟩

end Go.Abs.M
end

