/-
  A part of the proof: GabsFrame, LawCanon7p, LawRing7p, LawDivs7p, EvlD7p, EvlE7p.
-/
import Derived.Test.YtbeakmahabhacaaGreatM11
import Derived.WideKeyArgs
import Derived.OpenShut
import Derived.WalkKit
set_option maxHeartbeats 0
set_option maxRecDepth 100000
set_option linter.unusedVariables false
set_option linter.unusedSimpArgs false
set_option linter.unusedSectionVars false
section
namespace Go.Abs
open Go.RowKit Go.WideShapes Go.ChangeShapes Go.ChangeAt
inductive Shape where
 | int (k : IntKind)
 | bool
 | slice (s : Shape)
 | struct (l : List Shape)
 | arr (n : Nat) (s : Shape)
mutual
def Shape.size : Shape -> Nat
 | .int _ => 1
 | .bool => 1
 | .slice _ => 1
 | .struct l => sizeL l
 | .arr n s => n * s.size
def sizeL : List Shape -> Nat
 | [] => 0
 | s :: l => s.size + sizeL l
end
mutual
def Shape.fits (P : Program) (t : TypeId) : Shape -> Bool
 | .int k => match P.underlying t with
  | some (.int k') => decide (k' = k)
  | _ => false
 | .bool => match P.underlying t with
  | some .bool => true
  | _ => false
 | .slice s => match P.underlying t with
  | some (.slice e) => P.cellsOf e == s.size && decide (0 < s.size) && s.fits P e
  | _ => false
 | .struct l => match P.underlying t with
  | some (.struct fs) => P.cellsOf t == sizeL l && fitsL P 0 fs.toList l
  | _ => false
 | .arr n s => match P.underlying t with
  | some (.array m e) => m == n && P.cellsOf t == n * s.size && P.cellsOf e == s.size && s.fits P e
  | _ => false
def fitsL (P : Program) (off : Nat) : List Field -> List Shape -> Bool
 | [], [] => true
 | f :: fs, s :: l => f.offset == off && P.cellsOf f.type == s.size && s.fits P f.type && fitsL P (off + s.size) fs l
 | _, _ => false
end
def okN (p : List Tree -> Prop) : Nat -> List Tree -> Prop
 | 0, ts => ts = []
 | n + 1, ts => ∃ a b, ts = a ++ b /\ p a /\ okN p n b
mutual
def Shape.ok : Shape -> List Tree -> Prop
 | .int k, ts => ∃ n, ts = [.v (.int k n)] /\ (Lit.int k n).wf = true
 | .bool, ts => ∃ b, ts = [.v (.bool b)]
 | .slice s, ts => ∃ cp rows, ts = [.lst cp rows] /\ rows.length < 2 ^ 63 /\ ∀ r ∈ rows, s.ok r
 | .struct l, ts => okL l ts
 | .arr n s, ts => okN s.ok n ts
def okL : List Shape -> List Tree -> Prop
 | [], ts => ts = []
 | s :: l, ts => ∃ a b, ts = a ++ b /\ s.ok a /\ okL l b
end
theorem okN_len {p : List Tree -> Prop} {m : Nat} (hp : ∀ ts, p ts -> ts.length = m) : ∀ (n : Nat) (ts : List Tree), okN p n ts -> ts.length = n * m
 | 0, ts, h => by rw [show ts = [] from h]; simp
 | n + 1, ts, ⟨a, b, h1, h2, h3⟩ => by rw [h1, List.length_append, hp a h2, okN_len hp n b h3, Nat.succ_mul]; omega
mutual
theorem Shape.ok_len : ∀ (s : Shape) (ts : List Tree), s.ok ts -> ts.length = s.size
 | .int k, ts, h => by obtain ⟨n, rfl, _⟩ := h; rfl
 | .bool, ts, h => by obtain ⟨n, rfl⟩ := h; rfl
 | .slice s, ts, h => by obtain ⟨_, _, rfl, _⟩ := h; rfl
 | .struct l, ts, h => okL_len l ts h
 | .arr n s, ts, h => okN_len (fun ts h => s.ok_len ts h) n ts h
theorem okL_len : ∀ (l : List Shape) (ts : List Tree), okL l ts -> ts.length = sizeL l
 | [], ts, h => by rw [show ts = [] from h]; rfl
 | s :: l, ts, h => by
  obtain ⟨a, b, h1, h2, h3⟩ := h
  rw [h1, List.length_append, s.ok_len a h2, okL_len l b h3]; rfl
end
section
variable {H : Type} {enc : TypeId × Value -> H} {P : Program} {w : World} {sp : Nat -> Bool} {hd : Bool}
def TRepL (w : World) (ts : List Tree) (cs : List Value) : Prop := ts.length = cs.length /\ ∀ (i : Nat) (t : Tree) (v : Value), ts[i]? = some t -> cs[i]? = some v -> TRep (old w) w t v
theorem TRepL.append {a b : List Tree} {c d : List Value} (h1 : TRepL w a c) (h2 : TRepL w b d) : TRepL w (a ++ b) (c ++ d) := by
 refine ⟨by rw [List.length_append, List.length_append, h1.1, h2.1], fun i t v ht hv => ?_⟩
 rcases Nat.lt_or_ge i a.length with h | h
 ·rw [List.getElem?_append_left h] at ht
  rw [List.getElem?_append_left (by rw [<- h1.1]; exact h)] at hv
  exact h1.2 i t v ht hv
 ·rw [List.getElem?_append_right h] at ht
  rw [List.getElem?_append_right (by rw [<- h1.1]; exact h), <- h1.1] at hv
  exact h2.2 _ t v ht hv
theorem TRepL.one {t : Tree} {v : Value} (h : TRep (old w) w t v) : TRepL w [t] [v] := by
 refine ⟨rfl, fun i t' v' ht hv => ?_⟩
 cases i with
 | zero => simp at ht hv; subst ht hv; exact h
 | succ i => simp at ht
def Read (enc : TypeId × Value -> H) (P : Program) (w : World) (sp : Nat -> Bool) (hd : Bool) (s : Shape) : Prop :=
 ∀ (t : TypeId), s.fits P t = true -> ∀ (n : Nat) (cs : List Value) (x : DataW H × List MemPlace), DataW.trod enc P w 0 sp hd n t cs = some x -> ∃ ts, s.ok ts /\ TRepL w ts cs
theorem row_split {cs : List Value} (i m : Nat) : cs.drop i = (cs.drop i).take m ++ cs.drop (i + m) := by
 rw [<- List.drop_drop, List.take_append_drop]
theorem readL : ∀ (l : List Shape), (∀ s ∈ l, Read enc P w sp hd s) -> ∀ (fs : List Field) (off : Nat), fitsL P off fs l = true -> ∀ (n : Nat) (cs : List Value), cs.length = off + sizeL l ->
  (∀ f ∈ fs, ∃ x, DataW.trod enc P w 0 sp hd n f.type ((cs.drop f.offset).take (P.cellsOf f.type)) = some x) -> ∃ ts, okL l ts /\ TRepL w ts (cs.drop off)
 | [], hl, [], off, hf, n, cs, hn, hx => by
  refine ⟨[], rfl, ?_⟩
  rw [List.drop_of_length_le (by rw [hn]; simp [sizeL])]
  exact ⟨rfl, fun i t v h => by simp at h⟩
 | [], hl, f :: fs, off, hf, n, cs, hn, hx => by simp [fitsL] at hf
 | s :: l, hl, [], off, hf, n, cs, hn, hx => by simp [fitsL] at hf
 | s :: l, hl, f :: fs, off, hf, n, cs, hn, hx => by
  simp only [fitsL, Bool.and_eq_true, beq_iff_eq] at hf
  obtain ⟨⟨⟨h1, h2⟩, h3⟩, h4⟩ := hf
  obtain ⟨x, hx1⟩ := hx f (List.mem_cons_self ..)
  rw [h1, h2] at hx1
  obtain ⟨a, ha, hra⟩ := hl s (List.mem_cons_self ..) f.type h3 n _ x hx1
  obtain ⟨b, hb, hrb⟩ := readL l (fun s' hs' => hl s' (List.mem_cons_of_mem _ hs')) fs (off + s.size) h4 n cs (by rw [hn, sizeL]; omega) (fun f' hf' => hx f' (List.mem_cons_of_mem _ hf'))
  refine ⟨a ++ b, ⟨a, b, rfl, ha, hb⟩, ?_⟩
  rw [row_split off s.size]
  exact hra.append hrb
theorem readN {s : Shape} (hs : Read enc P w sp hd s) {e : TypeId} (he : s.fits P e = true) : ∀ (m i : Nat) (n : Nat) (cs : List Value), cs.length = (i + m) * s.size ->
  (∀ j, j < m -> ∃ x, DataW.trod enc P w 0 sp hd n e ((cs.drop ((i + j) * s.size)).take s.size) = some x) -> ∃ ts, okN s.ok m ts /\ TRepL w ts (cs.drop (i * s.size))
 | 0, i, n, cs, hn, hx => by
  refine ⟨[], rfl, ?_⟩
  rw [List.drop_of_length_le (by rw [hn]; simp)]
  exact ⟨rfl, fun i t v h => by simp at h⟩
 | m + 1, i, n, cs, hn, hx => by
  obtain ⟨x, hx1⟩ := hx 0 (by omega)
  rw [Nat.add_zero] at hx1
  obtain ⟨a, ha, hra⟩ := hs e he n _ x hx1
  obtain ⟨b, hb, hrb⟩ := readN hs he m (i + 1) n cs (by rw [hn]; congr 1; omega) (fun j hj => by
   have := hx (j + 1) (by omega)
   rwa [show i + (j + 1) = i + 1 + j by omega] at this)
  refine ⟨a ++ b, ⟨a, b, rfl, ha, hb⟩, ?_⟩
  rw [row_split (i * s.size) s.size]
  rw [Nat.succ_mul] at hrb
  exact hra.append hrb
theorem add_none (b o n : Nat) : (⟨b, o, none⟩ : Addr).add n = ⟨b, o + n, none⟩ := by
 unfold Addr.add
 split
 ·rename_i h; subst h; rfl
 ·rfl
theorem wf_one {k : IntKind} {n : Int} : one (.int k n) := by intro l; exact ⟨by simp, by simp⟩
theorem Shape.read : ∀ (s : Shape), Read enc P w sp hd s
  | .int k => fun t hf n cs x hx => by
    have hu : P.underlying t = some (.int k) := by
      unfold Shape.fits at hf
      split at hf
      · rename_i k' h; rw [h, of_decide_eq_true hf]
      · cases hf
    obtain ⟨m, rfl, _, hw⟩ := DataW.trod_int hu hx
    exact ⟨_, ⟨m, rfl, hw⟩, .one (.v _ wf_one)⟩
  | .bool => fun t hf n cs x hx => by
    have hu : P.underlying t = some .bool := by
      unfold Shape.fits at hf
      split at hf
      · rename_i h; exact h
      · cases hf
    obtain ⟨b, rfl, _⟩ := DataW.trod_bool hu hx
    exact ⟨_, ⟨b, rfl⟩, .one (.v _ (by intro l; exact ⟨by simp, by simp⟩))⟩
  | .struct l => fun t hf n cs x hx => by
    unfold Shape.fits at hf
    split at hf
    · rename_i fs hu
      simp only [Bool.and_eq_true, beq_iff_eq] at hf
      obtain ⟨xs, n', rfl, _, hl, hxl, hfs⟩ := DataW.trod_struct hu hx
      obtain ⟨ts, h1, h2⟩ := readL l (fun s hs => Shape.read s) fs.toList 0 hf.2 n' cs (by rw [hl, hf.1]; omega) (fun f hfm => by
        obtain ⟨i, hi, hfi⟩ := List.mem_iff_getElem.1 hfm
        have hi' : i < fs.size := by simpa using hi
        have hg : fs[i]? = some f := by rw [Array.getElem?_eq_getElem hi']; simpa using hfi
        have := hfs i f hg
        have hxi : i < xs.length := by rw [hxl]; exact hi'
        rw [List.getElem?_eq_getElem hxi] at this
        exact ⟨_, this⟩)
      exact ⟨ts, h1, by simpa using h2⟩
    · cases hf
  | .arr m s => fun t hf n cs x hx => by
    unfold Shape.fits at hf
    split at hf
    · rename_i m' e hu
      simp only [Bool.and_eq_true, beq_iff_eq] at hf
      obtain ⟨⟨⟨rfl, h1⟩, h2⟩, h3⟩ := hf
      cases n with
      | zero => simp [DataW.trod] at hx
      | succ n =>
        unfold DataW.trod at hx
        rw [hu] at hx
        simp only at hx
        split at hx
        · rename_i hl
          obtain ⟨xs, hxs, _⟩ := Option.map_eq_some_iff.1 hx
          obtain ⟨ts, h4, h5⟩ := readN (Shape.read s) h3 m' 0 n cs (by rw [hl, h1, Nat.zero_add]) (fun j hj => by
            have := mapM_some_get hxs j j (by simp [hj])
            have hlen := mapM_some_length hxs
            rw [List.length_range] at hlen
            rw [List.getElem?_eq_getElem (by omega)] at this
            rw [h2] at this
            rw [Nat.zero_add]
            exact ⟨_, this⟩)
          exact ⟨ts, h4, by simpa using h5⟩
        · cases hx
    · cases hf
  | .slice s => fun t hf n cs x hx => by
    unfold Shape.fits at hf
    split at hf
    · rename_i e hu
      simp only [Bool.and_eq_true, beq_iff_eq, decide_eq_true_eq] at hf
      obtain ⟨⟨h1, h2⟩, h3⟩ := hf
      rcases DataW.trod_slice hu hx with ⟨rfl, _⟩ | ⟨a, len, cap, elems, rest, n', rfl, rfl, _, _, hlc, hcap, hel, hread, _, _⟩
      · refine ⟨[.lst false []], ⟨false, [], rfl, by simp, by simp⟩, .one (.lst false [] none 0 0 0 0 (fun _ _ => default) (by simp) (by omega) (by simp) (by simp) (by simp) (by simp) (by simp) (fun i j t ht => by simp [at2] at ht) (fun i j t ht => by simp [at2] at ht))⟩
      · have hm : maxLen = 2 ^ 63 - 1 := rfl
        have hrow : ∀ i, i < len -> ∃ ts css, s.ok ts /\ TRepL w ts css /\ w.cells? 0 (a.add (i * s.size)) s.size = some css := fun i hi => by
          have hr := hread i hi
          rw [List.getElem?_eq_getElem (by omega), h1] at hr
          obtain ⟨css, hc, hx2⟩ := Option.bind_eq_some_iff.1 hr
          obtain ⟨ts, h4, h5⟩ := Shape.read s e h3 _ _ _ hx2
          exact ⟨ts, css, h4, h5, hc⟩
        let f : Nat -> List Tree := fun i => if h : i < len then (hrow i h).choose else []
        let g : Nat -> List Value := fun i => if h : i < len then (hrow i h).choose_spec.choose else []
        have hfg : ∀ i, i < len -> s.ok (f i) /\ TRepL w (f i) (g i) /\ w.cells? 0 (a.add (i * s.size)) s.size = some (g i) := fun i hi => by
          have hfi : f i = (hrow i hi).choose := dif_pos hi
          have hgi : g i = (hrow i hi).choose_spec.choose := dif_pos hi
          rw [hfi, hgi]
          exact (hrow i hi).choose_spec.choose_spec
        have hspot : 0 < len -> a = ⟨a.block, a.off, none⟩ /\ a.block < w.heap.size := fun h0 => by
          obtain ⟨hok, hrep, hc⟩ := hfg 0 h0
          obtain ⟨_, hl, hce⟩ := World.cells?_some hc
          have := hce 0 h2
          rw [List.getElem?_eq_getElem (by omega)] at this
          have ha : (a.add (0 * s.size)).add 0 = a := by simp [Addr.add]
          rw [ha] at this
          refine ⟨?_, ?_⟩
          · unfold World.cell? at this
            split at this
            · split at this
              · cases this
              · rename_i hs
                obtain ⟨b, o, sp'⟩ := a
                cases sp' with
                | none => rfl
                | some _ => simp at hs
            · cases this
          · have := World.cells?_block hc h2
            simpa [Addr.add] using this
        have hrows : ∀ i, (((List.range len).map f)[i]?) = if i < len then some (f i) else none := fun i => by
          rw [List.getElem?_map]
          by_cases h : i < len
          · rw [if_pos h, List.getElem?_range h]; rfl
          · rw [if_neg h, List.getElem?_eq_none (by simpa using h)]; rfl
        have hat : ∀ i j t, at2 ((List.range len).map f) i j = some t -> i < len /\ (f i)[j]? = some t := fun i j t ht => by
          unfold at2 at ht
          rw [hrows] at ht
          by_cases h : i < len
          · rw [if_pos h] at ht; exact ⟨h, ht⟩
          · rw [if_neg h] at ht; cases ht
        have hcell : ∀ i j t, at2 ((List.range len).map f) i j = some t -> ∃ v, (g i)[j]? = some v /\ w.cell? ⟨a.block, a.off + i * s.size + j, none⟩ = some v /\ TRep (old w) w t v /\ a.block < w.heap.size := fun i j t ht => by
          obtain ⟨hi, hj⟩ := hat i j t ht
          obtain ⟨hok, hrep, hc⟩ := hfg i hi
          obtain ⟨_, hl, hce⟩ := World.cells?_some hc
          have hjl : j < s.size := by
            have := (List.getElem?_eq_some_iff.1 hj).1
            rw [s.ok_len _ hok] at this; exact this
          have hv := hce j hjl
          obtain ⟨hs1, hs2⟩ := hspot (by omega)
          refine ⟨(g i)[j]'(by omega), List.getElem?_eq_getElem (by omega), ?_, hrep.2 j t _ hj (List.getElem?_eq_getElem (by omega)), hs2⟩
          rw [List.getElem?_eq_getElem (by omega)] at hv
          rw [<- hv]
          rw [hs1, add_none, add_none]
        refine ⟨[.lst false ((List.range len).map f)], ⟨false, _, rfl, by rw [List.length_map, List.length_range]; omega, fun r hr => ?_⟩, ?_⟩
        · obtain ⟨i, hi, rfl⟩ := List.mem_map.1 hr
          exact (hfg i (List.mem_range.1 hi)).1
        · refine .one ?_
          have hl : ((List.range len).map f).length = len := by rw [List.length_map, List.length_range]
          have := TRep.lst (S := old w) (w := w) false ((List.range len).map f) (some a) a.block a.off s.size cap (fun i j => ((g i)[j]?).getD default) (by rw [hl]; exact hlc) (by omega) (by rw [hl]; omega) (by simp)
            (fun hne => by rw [(hspot (by rcases Nat.eq_zero_or_pos len with h | h; · subst h; simp at hne
                                          · exact h)).1]) (by simp)
            (fun r hr => by obtain ⟨i, hi, rfl⟩ := List.mem_map.1 hr; exact s.ok_len _ (hfg i (List.mem_range.1 hi)).1)
            (fun i j t ht => by obtain ⟨v, h4, h5, h6, h7⟩ := hcell i j t ht; exact ⟨h7, by rw [h5, h4]; rfl⟩)
            (fun i j t ht => by obtain ⟨v, h4, h5, h6, h7⟩ := hcell i j t ht; rw [h4]; exact h6)
          rw [hl] at this
          exact this
    · cases hf
termination_by s => SizeOf.sizeOf s
def Shape.tv (s : Shape) (ts : List Tree) : TV :=
 match s, ts with
 | .struct _, ts => .agg ts
 | .arr _ _, ts => .agg ts
 | _, [t] => .c t
 | _, ts => .agg ts
def isAggT (P : Program) (t : TypeId) : Bool := match P.underlying t with
 | some (.struct _) | some (.array _ _) => true
 | _ => false
theorem Shape.rep {s : Shape} {t : TypeId} (hf : s.fits P t = true) {v : Value} (hok : Value.okWide P w .any 0 t v) {ts : List Tree} (hs : s.ok ts) (h : TRepL w ts v.cells.toList) : VRep noβ (old w) w (s.tv ts).av v := by
 have agg : ∀ (cs : Array Value), v = .agg cs -> VRep noβ (old w) w (TV.agg ts).av v := fun cs hv => by
  subst hv
  have : Array.mk cs.toList = cs := rfl
  rw [show TV.av (.agg ts) = AV.agg (ts.map .t) from rfl, <- this]
  refine .agg cs.toList (by rw [List.length_map]; exact h.1.symm) fun i c hc => ?_
  rw [List.getElem?_map] at hc
  obtain ⟨t', ht, rfl⟩ := Option.map_eq_some_iff.1 hc
  have hi := (List.getElem?_eq_some_iff.1 ht).1
  have hi2 : i < cs.toList.length := by have := h.1; simp only [Value.cells] at this; omega
  exact ⟨_, List.getElem?_eq_getElem hi2, .t (h.2 i t' _ ht (List.getElem?_eq_getElem hi2))⟩
 have scal : isAggT P t = false -> ts.length = 1 -> VRep noβ (old w) w (match ts with | [t] => TV.c t | ts => .agg ts).av v := fun hna hl => by
  match ts, hl, h with
  | [t'], _, h =>
   have hc : v.cells = #[v] := by
    cases v with
    | agg cs =>
     unfold Value.okWide at hok
     unfold isAggT at hna
     split at hok
     ·rename_i h1; rw [h1] at hna; cases hna
     ·rename_i h1; rw [h1] at hna; cases hna
     ·unfold Cell.okWide at hok
      split at hok <;> first | (rename_i h1 h2; cases h2; done) | skip
      all_goals first | (unfold Cell.ok at hok; split at hok <;> first | (rename_i h1 h2; cases h2; done) | exact hok.elim) | skip
    | _ => rfl
   have := h.2 0 t' v rfl (by rw [hc]; rfl)
   exact .c (.t this)
 cases s with
 | int k =>
  have hu : P.underlying t = some (.int k) := by
   unfold Shape.fits at hf
   split at hf
   ·rename_i k' h; rw [h, of_decide_eq_true hf]
   ·cases hf
  obtain ⟨m, rfl, _⟩ := hs
  exact scal (by unfold isAggT; rw [hu]) rfl
 | bool =>
  have hu : P.underlying t = some .bool := by
   unfold Shape.fits at hf
   split at hf
   ·rename_i h; exact h
   ·cases hf
  obtain ⟨m, rfl⟩ := hs
  exact scal (by unfold isAggT; rw [hu]) rfl
 | slice s =>
  unfold Shape.fits at hf
  split at hf
  ·rename_i e hu
   obtain ⟨_, _, rfl, _⟩ := hs
   exact scal (by unfold isAggT; rw [hu]) rfl
  ·cases hf
 | struct l =>
  unfold Shape.fits at hf
  split at hf
  ·rename_i fs hu
   unfold Value.okWide at hok
   rw [hu] at hok
   obtain ⟨cs, hv, _⟩ := hok
   exact agg cs hv
  ·cases hf
 | arr n s =>
  unfold Shape.fits at hf
  split at hf
  ·rename_i m e hu
   unfold Value.okWide at hok
   rw [hu] at hok
   obtain ⟨cs, hv, _⟩ := hok
   exact agg cs hv
  ·cases hf
def okAll : List Shape -> List (List Tree) -> Prop
 | [], l => l = []
 | s :: ss, l => ∃ ts r, l = ts :: r /\ s.ok ts /\ okAll ss r
def tvs : List Shape -> List (List Tree) -> List TV
 | s :: ss, ts :: r => s.tv ts :: tvs ss r
 | _, _ => []
def fitsAll (P : Program) : List TypeId -> List Shape -> Bool
 | [], [] => true
 | t :: ts, s :: ss => s.fits P t && decide (t < P.types.size) && P.readableRec t && fitsAll P ts ss
 | _, _ => false
theorem args_stay (hl : laidOutB P = true) {W W' : World} {sp' : Nat -> Bool} (hb : Below W.heap.size W W') : ∀ {tys : List TypeId} {shs : List Shape} {vs : List Value} {ds : List (DataW H)} {ps : List MemPlace}, DataW.TrodAll enc P W 0 (fun _ => true) true tys vs ds ps -> fitsAll P tys shs = true ->
  (∀ p ∈ ps, p.block < W.heap.size) -> (∀ p ∈ ps, sp' p.block = true) -> DataW.TrodAll enc P W' 0 sp' true tys vs ds ps
 | [], [], [], [], ps, h, hf, h1, h2 => h
 | t :: ts, s :: ss, v :: vs, d :: ds, ps, h, hf, h1, h2 => by
  obtain ⟨p, q, k1, k2, rfl⟩ := h
  simp only [fitsAll, Bool.and_eq_true, decide_eq_true_eq] at hf
  obtain ⟨⟨⟨f1, f2⟩, f3⟩, f4⟩ := hf
  exact ⟨p, q, Go.WideElems.Trod_stays hl f3 f2 k1 (fun x hx => hb.same (h1 x (List.mem_append_left _ hx))) (fun x hx => h2 x (List.mem_append_left _ hx)),
   args_stay hl hb k2 f4 (fun x hx => h1 x (List.mem_append_right _ hx)) (fun x hx => h2 x (List.mem_append_right _ hx)), rfl⟩
 | [], _ :: _, _, _, _, _, hf, _, _ => by simp [fitsAll] at hf
 | _ :: _, [], _, _, _, _, hf, _, _ => by simp [fitsAll] at hf
 | [], [], _ :: _, _, _, h, _, _, _ => by simp [DataW.TrodAll] at h
 | [], [], [], _ :: _, _, h, _, _, _ => by simp [DataW.TrodAll] at h
 | _ :: _, _ :: _, [], _, _, h, _, _, _ => by simp [DataW.TrodAll] at h
 | _ :: _, _ :: _, _ :: _, [], _, h, _, _, _ => by simp [DataW.TrodAll] at h
end
end Go.Abs
end
section
namespace Go.Proofs.YtbeakmahabhacaaGreat
open Go Go.Abs Go.Abs.M Go.Proofs
theorem list_ex {α β : Type} {p : α -> β -> Prop} : ∀ (l : List α), (∀ a ∈ l, ∃ b, p a b) -> ∃ m : List β, m.length = l.length /\ (∀ (i : Nat) (a : α) (b : β), l[i]? = some a -> m[i]? = some b -> p a b) /\ ∀ b ∈ m, ∃ a ∈ l, p a b
 | [], _ => ⟨[], rfl, by simp, by simp⟩
 | a :: l, h => by
  obtain ⟨b, hb⟩ := h a (.head _)
  obtain ⟨m, h1, h2, h3⟩ := list_ex l fun x hx => h x (.tail _ hx)
  refine ⟨b :: m, by simp [h1], fun i x y hx hy => ?_, fun y hy => ?_⟩
  ·cases i with
   | zero => simp at hx hy; subst hx hy; exact hb
   | succ i => exact h2 i x y (by simpa using hx) (by simpa using hy)
  ·rcases List.mem_cons.1 hy with rfl | hy
   ·exact ⟨a, .head _, hb⟩
   ·obtain ⟨x, e1, e2⟩ := h3 y hy
    exact ⟨x, .tail _ e1, e2⟩
def rawQ : Shape := .struct [.int .i8, .int .i8, .int .u8]
theorem rawQ_ok {ts : List Tree} (h : rawQ.ok ts) : ∃ x : RW, ts = x.row /\ x.ok := by
 obtain ⟨_, _, rfl, ⟨a, rfl, ha⟩, _, _, rfl, ⟨b, rfl, hb⟩, _, _, rfl, ⟨c, rfl, hc⟩, rfl⟩ := h
 have ha := bd_i8 ha
 have hb := bd_i8 hb
 have hc := bd_u8 hc
 exact ⟨⟨a, b, c⟩, rfl, ha.1, ha.2, hb.1, hb.2, hc.1, hc.2⟩
open Go Go.Abs Go.Abs.M Go.Proofs
theorem raws_ok (rows : Abs.Rows) (h : ∀ r ∈ rows, rawQ.ok r) : ∃ xs, rows = rwrows xs /\ (∀ x ∈ xs, x.ok) /\ xs.length = rows.length := by
 obtain ⟨xs, f1, f2, f3⟩ := list_ex rows fun r hr => rawQ_ok (h r hr)
 refine ⟨xs, ?_, fun x hx => by obtain ⟨_, _, q⟩ := f3 x hx; exact q.2, f1⟩
 refine List.ext_getElem? fun i => ?_
 cases hi : rows[i]? with
 | none =>
  rw [List.getElem?_eq_none]
  have := List.getElem?_eq_none_iff.1 hi
  simp [rwrows]; omega
 | some r =>
  have hlt := (List.getElem?_eq_some_iff.1 hi).1
  have hx : xs[i]? = some (xs[i]'(by omega)) := List.getElem?_eq_getElem (by omega)
  have := (f2 i r _ hi hx).1
  simp [rwrows, hx, this]
open Go Go.Abs Go.Abs.M Go.Proofs
open Go Go.Abs Go.Abs.M Go.Proofs
open Go Go.Abs Go.Abs.M Go.Proofs
theorem pb_derive {f : Rat -> Rat} {n s : Nat} {P : List Rat} (hP : PB f n s P) (hn : n <= 1000) (hs : s <= 2000000000) :
  ∃ R, PB (evd P) (n - 1) (s + 10) R /\ ACall Tryz.prog 11 [.val (tl (ur P))] ⟨[.val (tl (ur R))], [none]⟩ := by
 obtain ⟨R, hR, c⟩ := pl_derive hP.pl hn (by omega)
 refine ⟨R, PB.of_pl (L := pder P) hR (ev_pder P) (((hP.cf.comp (· + 1)).wt (t := 10) (fun j => ((j + 1 : Nat) : Int)) fun j => ?_).congr fun j => (pder_get P j).symm), c⟩
 have hl := hP.len
 by_cases h : j + 1 < P.length
 ·right
  have : (2 : Int) ^ 10 = 1024 := by decide
  omega
 ·left
  show P.getD (j + 1) 0 = 0
  rw [List.getD_eq_getElem?_getD, List.getElem?_eq_none (by omega)]; rfl
end Go.Proofs.YtbeakmahabhacaaGreat
end
