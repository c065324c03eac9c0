/-
  A part of the proof: GabsFrame, LawTw37, GabsMemo, Memo37A, Memo37B.
-/
import Derived.Test.YtlhbidjdkginkaaM10
import Derived.WideKeyArgs
import Derived.OpenShut
import Derived.WalkKit
set_option maxHeartbeats 0
set_option maxRecDepth 100000
set_option linter.unusedVariables false
set_option linter.unusedSimpArgs false
set_option linter.unusedSectionVars false
section
namespace Go.Abs
open Go.RowKit Go.WideShapes Go.ChangeShapes Go.ChangeAt
inductive Shape where
 | int (k : IntKind)
 | bool
 | slice (s : Shape)
 | struct (l : List Shape)
 | arr (n : Nat) (s : Shape)
mutual
def Shape.size : Shape -> Nat
 | .int _ => 1
 | .bool => 1
 | .slice _ => 1
 | .struct l => sizeL l
 | .arr n s => n * s.size
def sizeL : List Shape -> Nat
 | [] => 0
 | s :: l => s.size + sizeL l
end
mutual
def Shape.fits (P : Program) (t : TypeId) : Shape -> Bool
 | .int k => match P.underlying t with
  | some (.int k') => decide (k' = k)
  | _ => false
 | .bool => match P.underlying t with
  | some .bool => true
  | _ => false
 | .slice s => match P.underlying t with
  | some (.slice e) => P.cellsOf e == s.size && decide (0 < s.size) && s.fits P e
  | _ => false
 | .struct l => match P.underlying t with
  | some (.struct fs) => P.cellsOf t == sizeL l && fitsL P 0 fs.toList l
  | _ => false
 | .arr n s => match P.underlying t with
  | some (.array m e) => m == n && P.cellsOf t == n * s.size && P.cellsOf e == s.size && s.fits P e
  | _ => false
def fitsL (P : Program) (off : Nat) : List Field -> List Shape -> Bool
 | [], [] => true
 | f :: fs, s :: l => f.offset == off && P.cellsOf f.type == s.size && s.fits P f.type && fitsL P (off + s.size) fs l
 | _, _ => false
end
def okN (p : List Tree -> Prop) : Nat -> List Tree -> Prop
 | 0, ts => ts = []
 | n + 1, ts => ∃ a b, ts = a ++ b /\ p a /\ okN p n b
mutual
def Shape.ok : Shape -> List Tree -> Prop
 | .int k, ts => ∃ n, ts = [.v (.int k n)] /\ (Lit.int k n).wf = true
 | .bool, ts => ∃ b, ts = [.v (.bool b)]
 | .slice s, ts => ∃ cp rows, ts = [.lst cp rows] /\ rows.length < 2 ^ 63 /\ ∀ r ∈ rows, s.ok r
 | .struct l, ts => okL l ts
 | .arr n s, ts => okN s.ok n ts
def okL : List Shape -> List Tree -> Prop
 | [], ts => ts = []
 | s :: l, ts => ∃ a b, ts = a ++ b /\ s.ok a /\ okL l b
end
theorem okN_len {p : List Tree -> Prop} {m : Nat} (hp : ∀ ts, p ts -> ts.length = m) : ∀ (n : Nat) (ts : List Tree), okN p n ts -> ts.length = n * m
 | 0, ts, h => by rw [show ts = [] from h]; simp
 | n + 1, ts, ⟨a, b, h1, h2, h3⟩ => by rw [h1, List.length_append, hp a h2, okN_len hp n b h3, Nat.succ_mul]; omega
mutual
theorem Shape.ok_len : ∀ (s : Shape) (ts : List Tree), s.ok ts -> ts.length = s.size
 | .int k, ts, h => by obtain ⟨n, rfl, _⟩ := h; rfl
 | .bool, ts, h => by obtain ⟨n, rfl⟩ := h; rfl
 | .slice s, ts, h => by obtain ⟨_, _, rfl, _⟩ := h; rfl
 | .struct l, ts, h => okL_len l ts h
 | .arr n s, ts, h => okN_len (fun ts h => s.ok_len ts h) n ts h
theorem okL_len : ∀ (l : List Shape) (ts : List Tree), okL l ts -> ts.length = sizeL l
 | [], ts, h => by rw [show ts = [] from h]; rfl
 | s :: l, ts, h => by
  obtain ⟨a, b, h1, h2, h3⟩ := h
  rw [h1, List.length_append, s.ok_len a h2, okL_len l b h3]; rfl
end
section
variable {H : Type} {enc : TypeId × Value -> H} {P : Program} {w : World} {sp : Nat -> Bool} {hd : Bool}
def TRepL (w : World) (ts : List Tree) (cs : List Value) : Prop := ts.length = cs.length /\ ∀ (i : Nat) (t : Tree) (v : Value), ts[i]? = some t -> cs[i]? = some v -> TRep (old w) w t v
theorem TRepL.append {a b : List Tree} {c d : List Value} (h1 : TRepL w a c) (h2 : TRepL w b d) : TRepL w (a ++ b) (c ++ d) := by
 refine ⟨by rw [List.length_append, List.length_append, h1.1, h2.1], fun i t v ht hv => ?_⟩
 rcases Nat.lt_or_ge i a.length with h | h
 ·rw [List.getElem?_append_left h] at ht
  rw [List.getElem?_append_left (by rw [<- h1.1]; exact h)] at hv
  exact h1.2 i t v ht hv
 ·rw [List.getElem?_append_right h] at ht
  rw [List.getElem?_append_right (by rw [<- h1.1]; exact h), <- h1.1] at hv
  exact h2.2 _ t v ht hv
theorem TRepL.one {t : Tree} {v : Value} (h : TRep (old w) w t v) : TRepL w [t] [v] := by
 refine ⟨rfl, fun i t' v' ht hv => ?_⟩
 cases i with
 | zero => simp at ht hv; subst ht hv; exact h
 | succ i => simp at ht
def Read (enc : TypeId × Value -> H) (P : Program) (w : World) (sp : Nat -> Bool) (hd : Bool) (s : Shape) : Prop :=
 ∀ (t : TypeId), s.fits P t = true -> ∀ (n : Nat) (cs : List Value) (x : DataW H × List MemPlace), DataW.trod enc P w 0 sp hd n t cs = some x -> ∃ ts, s.ok ts /\ TRepL w ts cs
theorem row_split {cs : List Value} (i m : Nat) : cs.drop i = (cs.drop i).take m ++ cs.drop (i + m) := by
 rw [<- List.drop_drop, List.take_append_drop]
theorem readL : ∀ (l : List Shape), (∀ s ∈ l, Read enc P w sp hd s) -> ∀ (fs : List Field) (off : Nat), fitsL P off fs l = true -> ∀ (n : Nat) (cs : List Value), cs.length = off + sizeL l ->
  (∀ f ∈ fs, ∃ x, DataW.trod enc P w 0 sp hd n f.type ((cs.drop f.offset).take (P.cellsOf f.type)) = some x) -> ∃ ts, okL l ts /\ TRepL w ts (cs.drop off)
 | [], hl, [], off, hf, n, cs, hn, hx => by
  refine ⟨[], rfl, ?_⟩
  rw [List.drop_of_length_le (by rw [hn]; simp [sizeL])]
  exact ⟨rfl, fun i t v h => by simp at h⟩
 | [], hl, f :: fs, off, hf, n, cs, hn, hx => by simp [fitsL] at hf
 | s :: l, hl, [], off, hf, n, cs, hn, hx => by simp [fitsL] at hf
 | s :: l, hl, f :: fs, off, hf, n, cs, hn, hx => by
  simp only [fitsL, Bool.and_eq_true, beq_iff_eq] at hf
  obtain ⟨⟨⟨h1, h2⟩, h3⟩, h4⟩ := hf
  obtain ⟨x, hx1⟩ := hx f (List.mem_cons_self ..)
  rw [h1, h2] at hx1
  obtain ⟨a, ha, hra⟩ := hl s (List.mem_cons_self ..) f.type h3 n _ x hx1
  obtain ⟨b, hb, hrb⟩ := readL l (fun s' hs' => hl s' (List.mem_cons_of_mem _ hs')) fs (off + s.size) h4 n cs (by rw [hn, sizeL]; omega) (fun f' hf' => hx f' (List.mem_cons_of_mem _ hf'))
  refine ⟨a ++ b, ⟨a, b, rfl, ha, hb⟩, ?_⟩
  rw [row_split off s.size]
  exact hra.append hrb
theorem readN {s : Shape} (hs : Read enc P w sp hd s) {e : TypeId} (he : s.fits P e = true) : ∀ (m i : Nat) (n : Nat) (cs : List Value), cs.length = (i + m) * s.size ->
  (∀ j, j < m -> ∃ x, DataW.trod enc P w 0 sp hd n e ((cs.drop ((i + j) * s.size)).take s.size) = some x) -> ∃ ts, okN s.ok m ts /\ TRepL w ts (cs.drop (i * s.size))
 | 0, i, n, cs, hn, hx => by
  refine ⟨[], rfl, ?_⟩
  rw [List.drop_of_length_le (by rw [hn]; simp)]
  exact ⟨rfl, fun i t v h => by simp at h⟩
 | m + 1, i, n, cs, hn, hx => by
  obtain ⟨x, hx1⟩ := hx 0 (by omega)
  rw [Nat.add_zero] at hx1
  obtain ⟨a, ha, hra⟩ := hs e he n _ x hx1
  obtain ⟨b, hb, hrb⟩ := readN hs he m (i + 1) n cs (by rw [hn]; congr 1; omega) (fun j hj => by
   have := hx (j + 1) (by omega)
   rwa [show i + (j + 1) = i + 1 + j by omega] at this)
  refine ⟨a ++ b, ⟨a, b, rfl, ha, hb⟩, ?_⟩
  rw [row_split (i * s.size) s.size]
  rw [Nat.succ_mul] at hrb
  exact hra.append hrb
theorem add_none (b o n : Nat) : (⟨b, o, none⟩ : Addr).add n = ⟨b, o + n, none⟩ := by
 unfold Addr.add
 split
 ·rename_i h; subst h; rfl
 ·rfl
theorem wf_one {k : IntKind} {n : Int} : one (.int k n) := by intro l; exact ⟨by simp, by simp⟩
theorem Shape.read : ∀ (s : Shape), Read enc P w sp hd s
  | .int k => fun t hf n cs x hx => by
    have hu : P.underlying t = some (.int k) := by
      unfold Shape.fits at hf
      split at hf
      · rename_i k' h; rw [h, of_decide_eq_true hf]
      · cases hf
    obtain ⟨m, rfl, _, hw⟩ := DataW.trod_int hu hx
    exact ⟨_, ⟨m, rfl, hw⟩, .one (.v _ wf_one)⟩
  | .bool => fun t hf n cs x hx => by
    have hu : P.underlying t = some .bool := by
      unfold Shape.fits at hf
      split at hf
      · rename_i h; exact h
      · cases hf
    obtain ⟨b, rfl, _⟩ := DataW.trod_bool hu hx
    exact ⟨_, ⟨b, rfl⟩, .one (.v _ (by intro l; exact ⟨by simp, by simp⟩))⟩
  | .struct l => fun t hf n cs x hx => by
    unfold Shape.fits at hf
    split at hf
    · rename_i fs hu
      simp only [Bool.and_eq_true, beq_iff_eq] at hf
      obtain ⟨xs, n', rfl, _, hl, hxl, hfs⟩ := DataW.trod_struct hu hx
      obtain ⟨ts, h1, h2⟩ := readL l (fun s hs => Shape.read s) fs.toList 0 hf.2 n' cs (by rw [hl, hf.1]; omega) (fun f hfm => by
        obtain ⟨i, hi, hfi⟩ := List.mem_iff_getElem.1 hfm
        have hi' : i < fs.size := by simpa using hi
        have hg : fs[i]? = some f := by rw [Array.getElem?_eq_getElem hi']; simpa using hfi
        have := hfs i f hg
        have hxi : i < xs.length := by rw [hxl]; exact hi'
        rw [List.getElem?_eq_getElem hxi] at this
        exact ⟨_, this⟩)
      exact ⟨ts, h1, by simpa using h2⟩
    · cases hf
  | .arr m s => fun t hf n cs x hx => by
    unfold Shape.fits at hf
    split at hf
    · rename_i m' e hu
      simp only [Bool.and_eq_true, beq_iff_eq] at hf
      obtain ⟨⟨⟨rfl, h1⟩, h2⟩, h3⟩ := hf
      cases n with
      | zero => simp [DataW.trod] at hx
      | succ n =>
        unfold DataW.trod at hx
        rw [hu] at hx
        simp only at hx
        split at hx
        · rename_i hl
          obtain ⟨xs, hxs, _⟩ := Option.map_eq_some_iff.1 hx
          obtain ⟨ts, h4, h5⟩ := readN (Shape.read s) h3 m' 0 n cs (by rw [hl, h1, Nat.zero_add]) (fun j hj => by
            have := mapM_some_get hxs j j (by simp [hj])
            have hlen := mapM_some_length hxs
            rw [List.length_range] at hlen
            rw [List.getElem?_eq_getElem (by omega)] at this
            rw [h2] at this
            rw [Nat.zero_add]
            exact ⟨_, this⟩)
          exact ⟨ts, h4, by simpa using h5⟩
        · cases hx
    · cases hf
  | .slice s => fun t hf n cs x hx => by
    unfold Shape.fits at hf
    split at hf
    · rename_i e hu
      simp only [Bool.and_eq_true, beq_iff_eq, decide_eq_true_eq] at hf
      obtain ⟨⟨h1, h2⟩, h3⟩ := hf
      rcases DataW.trod_slice hu hx with ⟨rfl, _⟩ | ⟨a, len, cap, elems, rest, n', rfl, rfl, _, _, hlc, hcap, hel, hread, _, _⟩
      · refine ⟨[.lst false []], ⟨false, [], rfl, by simp, by simp⟩, .one (.lst false [] none 0 0 0 0 (fun _ _ => default) (by simp) (by omega) (by simp) (by simp) (by simp) (by simp) (by simp) (fun i j t ht => by simp [at2] at ht) (fun i j t ht => by simp [at2] at ht))⟩
      · have hm : maxLen = 2 ^ 63 - 1 := rfl
        have hrow : ∀ i, i < len -> ∃ ts css, s.ok ts /\ TRepL w ts css /\ w.cells? 0 (a.add (i * s.size)) s.size = some css := fun i hi => by
          have hr := hread i hi
          rw [List.getElem?_eq_getElem (by omega), h1] at hr
          obtain ⟨css, hc, hx2⟩ := Option.bind_eq_some_iff.1 hr
          obtain ⟨ts, h4, h5⟩ := Shape.read s e h3 _ _ _ hx2
          exact ⟨ts, css, h4, h5, hc⟩
        let f : Nat -> List Tree := fun i => if h : i < len then (hrow i h).choose else []
        let g : Nat -> List Value := fun i => if h : i < len then (hrow i h).choose_spec.choose else []
        have hfg : ∀ i, i < len -> s.ok (f i) /\ TRepL w (f i) (g i) /\ w.cells? 0 (a.add (i * s.size)) s.size = some (g i) := fun i hi => by
          have hfi : f i = (hrow i hi).choose := dif_pos hi
          have hgi : g i = (hrow i hi).choose_spec.choose := dif_pos hi
          rw [hfi, hgi]
          exact (hrow i hi).choose_spec.choose_spec
        have hspot : 0 < len -> a = ⟨a.block, a.off, none⟩ /\ a.block < w.heap.size := fun h0 => by
          obtain ⟨hok, hrep, hc⟩ := hfg 0 h0
          obtain ⟨_, hl, hce⟩ := World.cells?_some hc
          have := hce 0 h2
          rw [List.getElem?_eq_getElem (by omega)] at this
          have ha : (a.add (0 * s.size)).add 0 = a := by simp [Addr.add]
          rw [ha] at this
          refine ⟨?_, ?_⟩
          · unfold World.cell? at this
            split at this
            · split at this
              · cases this
              · rename_i hs
                obtain ⟨b, o, sp'⟩ := a
                cases sp' with
                | none => rfl
                | some _ => simp at hs
            · cases this
          · have := World.cells?_block hc h2
            simpa [Addr.add] using this
        have hrows : ∀ i, (((List.range len).map f)[i]?) = if i < len then some (f i) else none := fun i => by
          rw [List.getElem?_map]
          by_cases h : i < len
          · rw [if_pos h, List.getElem?_range h]; rfl
          · rw [if_neg h, List.getElem?_eq_none (by simpa using h)]; rfl
        have hat : ∀ i j t, at2 ((List.range len).map f) i j = some t -> i < len /\ (f i)[j]? = some t := fun i j t ht => by
          unfold at2 at ht
          rw [hrows] at ht
          by_cases h : i < len
          · rw [if_pos h] at ht; exact ⟨h, ht⟩
          · rw [if_neg h] at ht; cases ht
        have hcell : ∀ i j t, at2 ((List.range len).map f) i j = some t -> ∃ v, (g i)[j]? = some v /\ w.cell? ⟨a.block, a.off + i * s.size + j, none⟩ = some v /\ TRep (old w) w t v /\ a.block < w.heap.size := fun i j t ht => by
          obtain ⟨hi, hj⟩ := hat i j t ht
          obtain ⟨hok, hrep, hc⟩ := hfg i hi
          obtain ⟨_, hl, hce⟩ := World.cells?_some hc
          have hjl : j < s.size := by
            have := (List.getElem?_eq_some_iff.1 hj).1
            rw [s.ok_len _ hok] at this; exact this
          have hv := hce j hjl
          obtain ⟨hs1, hs2⟩ := hspot (by omega)
          refine ⟨(g i)[j]'(by omega), List.getElem?_eq_getElem (by omega), ?_, hrep.2 j t _ hj (List.getElem?_eq_getElem (by omega)), hs2⟩
          rw [List.getElem?_eq_getElem (by omega)] at hv
          rw [<- hv]
          rw [hs1, add_none, add_none]
        refine ⟨[.lst false ((List.range len).map f)], ⟨false, _, rfl, by rw [List.length_map, List.length_range]; omega, fun r hr => ?_⟩, ?_⟩
        · obtain ⟨i, hi, rfl⟩ := List.mem_map.1 hr
          exact (hfg i (List.mem_range.1 hi)).1
        · refine .one ?_
          have hl : ((List.range len).map f).length = len := by rw [List.length_map, List.length_range]
          have := TRep.lst (S := old w) (w := w) false ((List.range len).map f) (some a) a.block a.off s.size cap (fun i j => ((g i)[j]?).getD default) (by rw [hl]; exact hlc) (by omega) (by rw [hl]; omega) (by simp)
            (fun hne => by rw [(hspot (by rcases Nat.eq_zero_or_pos len with h | h; · subst h; simp at hne
                                          · exact h)).1]) (by simp)
            (fun r hr => by obtain ⟨i, hi, rfl⟩ := List.mem_map.1 hr; exact s.ok_len _ (hfg i (List.mem_range.1 hi)).1)
            (fun i j t ht => by obtain ⟨v, h4, h5, h6, h7⟩ := hcell i j t ht; exact ⟨h7, by rw [h5, h4]; rfl⟩)
            (fun i j t ht => by obtain ⟨v, h4, h5, h6, h7⟩ := hcell i j t ht; rw [h4]; exact h6)
          rw [hl] at this
          exact this
    · cases hf
termination_by s => SizeOf.sizeOf s
def Shape.tv (s : Shape) (ts : List Tree) : TV :=
 match s, ts with
 | .struct _, ts => .agg ts
 | .arr _ _, ts => .agg ts
 | _, [t] => .c t
 | _, ts => .agg ts
def isAggT (P : Program) (t : TypeId) : Bool := match P.underlying t with
 | some (.struct _) | some (.array _ _) => true
 | _ => false
theorem Shape.rep {s : Shape} {t : TypeId} (hf : s.fits P t = true) {v : Value} (hok : Value.okWide P w .any 0 t v) {ts : List Tree} (hs : s.ok ts) (h : TRepL w ts v.cells.toList) : VRep noβ (old w) w (s.tv ts).av v := by
 have agg : ∀ (cs : Array Value), v = .agg cs -> VRep noβ (old w) w (TV.agg ts).av v := fun cs hv => by
  subst hv
  have : Array.mk cs.toList = cs := rfl
  rw [show TV.av (.agg ts) = AV.agg (ts.map .t) from rfl, <- this]
  refine .agg cs.toList (by rw [List.length_map]; exact h.1.symm) fun i c hc => ?_
  rw [List.getElem?_map] at hc
  obtain ⟨t', ht, rfl⟩ := Option.map_eq_some_iff.1 hc
  have hi := (List.getElem?_eq_some_iff.1 ht).1
  have hi2 : i < cs.toList.length := by have := h.1; simp only [Value.cells] at this; omega
  exact ⟨_, List.getElem?_eq_getElem hi2, .t (h.2 i t' _ ht (List.getElem?_eq_getElem hi2))⟩
 have scal : isAggT P t = false -> ts.length = 1 -> VRep noβ (old w) w (match ts with | [t] => TV.c t | ts => .agg ts).av v := fun hna hl => by
  match ts, hl, h with
  | [t'], _, h =>
   have hc : v.cells = #[v] := by
    cases v with
    | agg cs =>
     unfold Value.okWide at hok
     unfold isAggT at hna
     split at hok
     ·rename_i h1; rw [h1] at hna; cases hna
     ·rename_i h1; rw [h1] at hna; cases hna
     ·unfold Cell.okWide at hok
      split at hok <;> first | (rename_i h1 h2; cases h2; done) | skip
      all_goals first | (unfold Cell.ok at hok; split at hok <;> first | (rename_i h1 h2; cases h2; done) | exact hok.elim) | skip
    | _ => rfl
   have := h.2 0 t' v rfl (by rw [hc]; rfl)
   exact .c (.t this)
 cases s with
 | int k =>
  have hu : P.underlying t = some (.int k) := by
   unfold Shape.fits at hf
   split at hf
   ·rename_i k' h; rw [h, of_decide_eq_true hf]
   ·cases hf
  obtain ⟨m, rfl, _⟩ := hs
  exact scal (by unfold isAggT; rw [hu]) rfl
 | bool =>
  have hu : P.underlying t = some .bool := by
   unfold Shape.fits at hf
   split at hf
   ·rename_i h; exact h
   ·cases hf
  obtain ⟨m, rfl⟩ := hs
  exact scal (by unfold isAggT; rw [hu]) rfl
 | slice s =>
  unfold Shape.fits at hf
  split at hf
  ·rename_i e hu
   obtain ⟨_, _, rfl, _⟩ := hs
   exact scal (by unfold isAggT; rw [hu]) rfl
  ·cases hf
 | struct l =>
  unfold Shape.fits at hf
  split at hf
  ·rename_i fs hu
   unfold Value.okWide at hok
   rw [hu] at hok
   obtain ⟨cs, hv, _⟩ := hok
   exact agg cs hv
  ·cases hf
 | arr n s =>
  unfold Shape.fits at hf
  split at hf
  ·rename_i m e hu
   unfold Value.okWide at hok
   rw [hu] at hok
   obtain ⟨cs, hv, _⟩ := hok
   exact agg cs hv
  ·cases hf
def okAll : List Shape -> List (List Tree) -> Prop
 | [], l => l = []
 | s :: ss, l => ∃ ts r, l = ts :: r /\ s.ok ts /\ okAll ss r
def tvs : List Shape -> List (List Tree) -> List TV
 | s :: ss, ts :: r => s.tv ts :: tvs ss r
 | _, _ => []
def fitsAll (P : Program) : List TypeId -> List Shape -> Bool
 | [], [] => true
 | t :: ts, s :: ss => s.fits P t && decide (t < P.types.size) && P.readableRec t && fitsAll P ts ss
 | _, _ => false
theorem args_read : ∀ {tys : List TypeId} {shs : List Shape} {vs : List Value} {ds : List (DataW H)} {ps : List MemPlace}, DataW.TrodAll enc P w 0 sp true tys vs ds ps -> fitsAll P tys shs = true ->
  (∀ (j : Nat) t v, tys[j]? = some t -> vs[j]? = some v -> Value.okWide P w .any 0 t v) ->
  ∃ tss, okAll shs tss /\ vs.length = (tvs shs tss).length /\ ds.length = shs.length /\ ∀ (i : Nat) (x : TV), (tvs shs tss)[i]? = some x -> ∃ v, vs[i]? = some v /\ VRep noβ (old w) w x.av v
 | [], [], [], [], ps, h, hf, hv => ⟨[], rfl, rfl, rfl, fun i x hx => by simp [tvs] at hx⟩
 | t :: ts, s :: ss, v :: vs, d :: ds, ps, h, hf, hv => by
  obtain ⟨p, q, ⟨n, h1⟩, h2, _⟩ := h
  simp only [fitsAll, Bool.and_eq_true] at hf
  obtain ⟨⟨⟨f1, f2⟩, f3⟩, f4⟩ := hf
  obtain ⟨tss, g1, g2, g3, g4⟩ := args_read h2 f4 (fun j t v ht hx => hv (j + 1) t v (by simpa using ht) (by simpa using hx))
  obtain ⟨tr, k1, k2⟩ := s.read t f1 n _ _ h1
  refine ⟨tr :: tss, ⟨tr, tss, rfl, k1, g1⟩, by simp [tvs, g2], by simp [g3], fun i x hx => ?_⟩
  cases i with
  | zero =>
   simp only [tvs, List.getElem?_cons_zero, Option.some.injEq] at hx
   subst hx
   exact ⟨v, rfl, Shape.rep f1 (hv 0 t v rfl rfl) k1 k2⟩
  | succ i => simp only [tvs, List.getElem?_cons_succ] at hx ⊢; exact g4 i x hx
 | [], _ :: _, _, _, _, _, hf, _ => by simp [fitsAll] at hf
 | _ :: _, [], _, _, _, _, hf, _ => by simp [fitsAll] at hf
 | [], [], _ :: _, _, _, h, _, _ => by simp [DataW.TrodAll] at h
 | [], [], [], _ :: _, _, h, _, _ => by simp [DataW.TrodAll] at h
 | _ :: _, _ :: _, [], _, _, h, _, _ => by simp [DataW.TrodAll] at h
 | _ :: _, _ :: _, _ :: _, [], _, h, _, _ => by simp [DataW.TrodAll] at h
theorem args_stay (hl : laidOutB P = true) {W W' : World} {sp' : Nat -> Bool} (hb : Below W.heap.size W W') : ∀ {tys : List TypeId} {shs : List Shape} {vs : List Value} {ds : List (DataW H)} {ps : List MemPlace}, DataW.TrodAll enc P W 0 (fun _ => true) true tys vs ds ps -> fitsAll P tys shs = true ->
  (∀ p ∈ ps, p.block < W.heap.size) -> (∀ p ∈ ps, sp' p.block = true) -> DataW.TrodAll enc P W' 0 sp' true tys vs ds ps
 | [], [], [], [], ps, h, hf, h1, h2 => h
 | t :: ts, s :: ss, v :: vs, d :: ds, ps, h, hf, h1, h2 => by
  obtain ⟨p, q, k1, k2, rfl⟩ := h
  simp only [fitsAll, Bool.and_eq_true, decide_eq_true_eq] at hf
  obtain ⟨⟨⟨f1, f2⟩, f3⟩, f4⟩ := hf
  exact ⟨p, q, Go.WideElems.Trod_stays hl f3 f2 k1 (fun x hx => hb.same (h1 x (List.mem_append_left _ hx))) (fun x hx => h2 x (List.mem_append_left _ hx)),
   args_stay hl hb k2 f4 (fun x hx => h1 x (List.mem_append_right _ hx)) (fun x hx => h2 x (List.mem_append_right _ hx)), rfl⟩
 | [], _ :: _, _, _, _, _, hf, _, _ => by simp [fitsAll] at hf
 | _ :: _, [], _, _, _, _, hf, _, _ => by simp [fitsAll] at hf
 | [], [], _ :: _, _, _, h, _, _, _ => by simp [DataW.TrodAll] at h
 | [], [], [], _ :: _, _, h, _, _, _ => by simp [DataW.TrodAll] at h
 | _ :: _, _ :: _, [], _, _, h, _, _, _ => by simp [DataW.TrodAll] at h
 | _ :: _, _ :: _, _ :: _, [], _, h, _, _, _ => by simp [DataW.TrodAll] at h
theorem law_row {f : FuncId} {fn : Func} {spec : ChangeSpec} {shs : List Shape} {outs : List (Option Blk)} (hl : laidOutB P = true) (hf : fitsAll P fn.params.toList shs = true) (hvars : spec.vars = []) {tb0 : TypeId} (hres : fn.resultTypes = #[tb0]) (hb4 : P.underlying tb0 = some .bool)
  {apart fresh handsOn again : Bool} (hfn : ∀ ds : List (DataW H), ds.length = shs.length -> (spec.fn H ds).args = ds /\ (spec.fn H ds).results = [.lit (.bool true)] /\ (spec.fn H ds).vars = [])
  (hc : ∀ tss, okAll shs tss -> ACall P f ((tvs shs tss).map .val) ⟨[.val (tb true)], outs⟩)
  {W : World} {args : Array Value} {ds gs : List (DataW H)} {before : List MemPlace} (hval : ∀ (j : Nat) t v, fn.params[j]? = some t -> args[j]? = some v -> Value.okWide P W .any 0 t v)
  (hW : DataW.Whole enc P fn.params.toList spec.vars apart W args.toList ds gs before) :
  Calls P f args W fun e W' => ∃ v, e = .returned v /\ spec.post enc P fn apart fresh handsOn again W args v W' := by
 have hW' := hW
 obtain ⟨p, q, hA, hV, rfl, hfz, hnd⟩ := hW
 rw [hvars] at hV
 have hgq : gs = [] /\ q = [] := by
  cases gs with
  | nil => exact ⟨rfl, hV⟩
  | cons g gs => exact hV.elim
 obtain ⟨rfl, rfl⟩ := hgq
 obtain ⟨tss, hok, hlen, hdl, hrep⟩ := args_read hA hf (fun j t v ht hv => hval j t v (by simpa using ht) (by simpa using hv))
 have h := law_calls (hc tss hok) W args.toList hlen hrep
 have hargs : args.toList.toArray = args := rfl
 rw [hargs] at h
 obtain ⟨e1, e2, e3⟩ := hfn ds hdl
 have hbefore : ∀ x ∈ p, x.block < W.heap.size := fun x hx => hW'.lt x (List.mem_append_left _ hx)
 refine h.mono fun e W' ⟨he, hg⟩ => ?_
 subst he
 refine ⟨_, rfl, post_of_below (pa := p) (pv := []) hW' (fun b sp hd => ?_) (fun sp hs => ?_) (fun sp hs => ?_) rfl hg ?_⟩
 ·rw [List.append_nil, e2, hres]
  exact trodAll_cons_mk (shut_bool hb4 _) trodAll_mk0
 ·rw [List.append_nil, e1]
  exact args_stay hl hg hA hf hbefore (fun x hx => hs x (List.mem_append_left _ hx))
 ·rw [List.append_nil, e3, hvars]; rfl
 ·exact ok_one hres rfl (okWide_bool_mk hb4 _)
end
end Go.Abs
end
section
namespace Go.Proofs.Ytlhbidjdkginkaa
open Go Go.Abs Go.Proofs
theorem whole_call (K : Int) (b : Bool) (hb : b = true ↔ (K = 2 ∨ 4 <= K /\ K <= 8 ∨ K = 11 ∨ K = 13)) :
  ACall Try.prog 5 [.val (.agg [.v (.int .i64 K), .lst true [], .v (.int .i64 0), .v (.int .i64 0), .v (.int .i64 0), .lst true [], .lst true [], .lst true [], .lst true []])] ⟨[.val (tb b)], [none]⟩ := by
 refine callZ ccOk mixed [.val] Try.func5 rfl rfl (by kernel_rfl) fun zA zB zC zD zE zF zG zH zI zJ zK zL zM zN zO zP zQ zR zS zT zU zV zX zY zZ za zb zc zd ze zf zg zh zi zj zk zl zm zn zo zp zq zr zs zt zu zw zx zy A L F hS hF => ?_
 have hz : ∀ c : Int, zM K c = decide (K = c) := fun c => hS.eq K c
 cbv
 by_cases k2 : K = 2
 ·have z : zM K 2 = true := by rw [hS.eq]; exact decide_eq_true k2
  have hbt : true = b := (hb.2 (by omega)).symm
  exact bT z (bT z (fin1 hF (qas hbt)))
 have z2 : zM K 2 = false := by rw [hS.eq]; exact decide_eq_false k2
 refine bF z2 ?_
 by_cases k4 : K = 4
 ·have z : zM K 4 = true := by rw [hS.eq]; exact decide_eq_true k4
  have hbt : true = b := (hb.2 (by omega)).symm
  exact bT z (bT z (fin1 hF (qas hbt)))
 have z4 : zM K 4 = false := by rw [hS.eq]; exact decide_eq_false k4
 refine bF z4 ?_
 by_cases k5 : K = 5
 ·have z : zM K 5 = true := by rw [hS.eq]; exact decide_eq_true k5
  have hbt : true = b := (hb.2 (by omega)).symm
  exact bT z (bT z (fin1 hF (qas hbt)))
 have z5 : zM K 5 = false := by rw [hS.eq]; exact decide_eq_false k5
 refine bF z5 ?_
 by_cases k6 : K = 6
 ·have z : zM K 6 = true := by rw [hS.eq]; exact decide_eq_true k6
  have hbt : true = b := (hb.2 (by omega)).symm
  exact bT z (bT z (fin1 hF (qas hbt)))
 have z6 : zM K 6 = false := by rw [hS.eq]; exact decide_eq_false k6
 refine bF z6 ?_
 by_cases k7 : K = 7
 ·have z : zM K 7 = true := by rw [hS.eq]; exact decide_eq_true k7
  have hbt : true = b := (hb.2 (by omega)).symm
  exact bT z (bT z (fin1 hF (qas hbt)))
 have z7 : zM K 7 = false := by rw [hS.eq]; exact decide_eq_false k7
 refine bF z7 ?_
 by_cases k8 : K = 8
 ·have z : zM K 8 = true := by rw [hS.eq]; exact decide_eq_true k8
  have hbt : true = b := (hb.2 (by omega)).symm
  exact bT z (bT z (fin1 hF (qas hbt)))
 have z8 : zM K 8 = false := by rw [hS.eq]; exact decide_eq_false k8
 refine bF z8 ?_
 by_cases k11 : K = 11
 ·have z : zM K 11 = true := by rw [hS.eq]; exact decide_eq_true k11
  have hbt : true = b := (hb.2 (by omega)).symm
  exact bT z (bT z (fin1 hF (qas hbt)))
 have z11 : zM K 11 = false := by rw [hS.eq]; exact decide_eq_false k11
 refine bF z11 ?_
 by_cases k13 : K = 13
 ·have z : zM K 13 = true := by rw [hS.eq]; exact decide_eq_true k13
  have hbt : true = b := (hb.2 (by omega)).symm
  exact bT z (fin1 hF (qas hbt))
 have z13 : zM K 13 = false := by rw [hS.eq]; exact decide_eq_false k13
 refine bF z13 ?_
 have hbf : false = b := by
  cases hb' : b with
  | false => rfl
  | true => have := hb.1 hb'; omega
 exact fin1 hF (qas hbf)
theorem tw_call (hsan : ACall Try.prog 4 [] ⟨[.val (tb true)], []⟩) (K : Int) :
  ACall Try.prog 3 [.val (ti .i64 K)] ⟨[.val (tb true)], [none]⟩ := by
 obtain ⟨b, hb⟩ : ∃ b : Bool, b = true ↔ (K = 2 ∨ 4 <= K /\ K <= 8 ∨ K = 11 ∨ K = 13) := by
  by_cases h : K = 2 ∨ 4 <= K /\ K <= 8 ∨ K = 11 ∨ K = 13
  ·exact ⟨true, fun _ => h, fun _ => rfl⟩
  ·exact ⟨false, fun h' => (by cases h'), fun h' => absurd h' h⟩
 have cw := whole_call K b hb
 refine callZ ccOk mixed [.val] Try.func3 rfl rfl (by kernel_rfl) fun zA zB zC zD zE zF zG zH zI zJ zK zL zM zN zO zP zQ zR zS zT zU zV zX zY zZ za zb zc zd ze zf zg zh zi zj zk zl zm zn zo zp zq zr zs zt zu zw zx zy A L F hS hF => ?_
 have y0 : zQ true = false := by rw [hS.not]; rfl
 cbv
 refine ⟨_, hS.call (hsan), ?_⟩
 cbv
 refine bF (y0) ?_
 have bt : (K = 2 ∨ 4 <= K /\ K <= 8 ∨ K = 11 ∨ K = 13) -> zR b true = true := fun h => by rw [hb.2 h, hS.beq]; rfl
 have bx : (K ≠ 2 /\ ¬ (4 <= K /\ K <= 8) /\ K ≠ 11) -> zR b (zM K 13) = true := fun h => by
  rw [hS.beq, hS.eq]
  by_cases h13 : K = 13
  ·have e : b = true := hb.2 (by omega)
   rw [decide_eq_true h13, e]; rfl
  ·have e : b = false := by
    cases hb' : b with
    | false => rfl
    | true => have := hb.1 hb'; omega
   rw [decide_eq_false h13, e]; rfl
 by_cases k2 : K = 2
 ·have z : zM K 2 = true := by rw [hS.eq]; exact decide_eq_true k2
  have e := bt (by omega)
  refine bT (z) ?_
  refine bT ((rfl : true = true)) ?_
  refine ⟨_, hS.call (cw), ?_⟩
  cbv
  exact fin1 hF (qas e)
 have z2 : zM K 2 = false := by rw [hS.eq]; exact decide_eq_false k2
 refine bF (z2) ?_
 by_cases k4 : 4 <= K
 ·have z4 : zP 4 K = true := by rw [hS.le]; exact decide_eq_true k4
  refine bT (z4) ?_
  by_cases k8 : K <= 8
  ·have z8 : zP K 8 = true := by rw [hS.le]; exact decide_eq_true k8
   have e := bt (by omega)
   refine bT (z8) ?_
   refine bT ((rfl : true = true)) ?_
   refine ⟨_, hS.call (cw), ?_⟩
   cbv
   exact fin1 hF (qas e)
  ·have z8 : zP K 8 = false := by rw [hS.le]; exact decide_eq_false k8
   refine bF (z8) ?_
   by_cases k11 : K = 11
   ·have z : zM K 11 = true := by rw [hS.eq]; exact decide_eq_true k11
    have e := bt (by omega)
    refine bT (z) ?_
    refine bT ((rfl : true = true)) ?_
    refine ⟨_, hS.call (cw), ?_⟩
    cbv
    exact fin1 hF (qas e)
   ·have z : zM K 11 = false := by rw [hS.eq]; exact decide_eq_false k11
    have e := bx (by omega)
    refine bF (z) ?_
    refine bT ((rfl : true = true)) ?_
    refine ⟨_, hS.call (cw), ?_⟩
    cbv
    exact fin1 hF (qas e)
 ·have z4 : zP 4 K = false := by rw [hS.le]; exact decide_eq_false k4
  have z : zM K 11 = false := by rw [hS.eq]; exact decide_eq_false (by omega)
  have e := bx (by omega)
  refine bF (z4) ?_
  refine bF (z) ?_
  refine bT ((rfl : true = true)) ?_
  refine ⟨_, hS.call (cw), ?_⟩
  cbv
  exact fin1 hF (qas e)
theorem tw_row (hsan : ACall Try.prog 4 [] ⟨[.val (tb true)], []⟩) (tss : List (List Tree)) (h : okAll [.int .i64] tss) :
  ACall Try.prog 3 ((tvs [.int .i64] tss).map .val) ⟨[.val (tb true)], [none]⟩ := by
 obtain ⟨_, _, rfl, ⟨K, rfl, _⟩, rfl⟩ := h
 exact tw_call hsan K
end Go.Proofs.Ytlhbidjdkginkaa
end
section
namespace Go.Abs
mutual
def eqT : Tree -> Tree -> Bool
 | .v x, .v y => match x, y with
  | .int k a, .int k' b => decide (k = k') && decide (a = b)
  | .bool a, .bool b => decide (a = b)
  | .string a, .string b => decide (a.data.toList = b.data.toList)
  | .func (.func f) ⟨[]⟩ ⟨[]⟩, .func (.func g) ⟨[]⟩ ⟨[]⟩ => decide (f = g)
  | _, _ => false
 | .lst c l, .lst c' l' => decide (c = c') && eqRR l l'
 | _, _ => false
def eqTs : List Tree -> List Tree -> Bool
 | [], [] => true
 | x :: xs, y :: ys => eqT x y && eqTs xs ys
 | _, _ => false
def eqRR : List (List Tree) -> List (List Tree) -> Bool
 | [], [] => true
 | x :: xs, y :: ys => eqTs x y && eqRR xs ys
 | _, _ => false
end
mutual
theorem eqT_eq : ∀ {x y : Tree}, eqT x y = true -> x = y
 | .v x, .v y, h => by
  unfold eqT at h
  split at h
  ·simp only [Bool.and_eq_true, decide_eq_true_eq] at h; rw [h.1, h.2]
  ·rw [of_decide_eq_true h]
  ·rename_i a b
   have := of_decide_eq_true h
   have e : a = b := by
    cases a with | mk da => cases b with | mk db => exact congrArg ByteArray.mk (Array.ext' this)
   rw [e]
  ·rw [of_decide_eq_true h]
  ·cases h
 | .lst c l, .lst c' l', h => by
  unfold eqT at h
  simp only [Bool.and_eq_true, decide_eq_true_eq] at h
  rw [h.1, eqRR_eq h.2]
 | .v _, .lst _ _, h => by unfold eqT at h; cases h
 | .lst _ _, .v _, h => by unfold eqT at h; cases h
theorem eqTs_eq : ∀ {x y : List Tree}, eqTs x y = true -> x = y
 | [], [], _ => rfl
 | x :: xs, y :: ys, h => by
  unfold eqTs at h
  simp only [Bool.and_eq_true] at h
  rw [eqT_eq h.1, eqTs_eq h.2]
 | [], _ :: _, h => by unfold eqTs at h; cases h
 | _ :: _, [], h => by unfold eqTs at h; cases h
theorem eqRR_eq : ∀ {x y : List (List Tree)}, eqRR x y = true -> x = y
 | [], [], _ => rfl
 | x :: xs, y :: ys, h => by
  unfold eqRR at h
  simp only [Bool.and_eq_true] at h
  rw [eqTs_eq h.1, eqRR_eq h.2]
 | [], _ :: _, h => by unfold eqRR at h; cases h
 | _ :: _, [], h => by unfold eqRR at h; cases h
end
def eqArg : Arg -> Arg -> Bool
 | .val (.c x), .val (.c y) => eqT x y
 | .val (.agg x), .val (.agg y) => eqTs x y
 | .bor s x, .bor s' y => decide (s = s') && eqRR x y
 | .own s x, .own s' y => decide (s = s') && eqRR x y
 | .ref x, .ref y => eqTs x y
 | .gh x, .gh y => eqTs x y
 | .clo f x, .clo g y => decide (f = g) && decide (x = y)
 | _, _ => false
theorem eqArg_eq {x y : Arg} (h : eqArg x y = true) : x = y := by
 unfold eqArg at h
 split at h
 ·rw [eqT_eq h]
 ·rw [eqTs_eq h]
 ·simp only [Bool.and_eq_true, decide_eq_true_eq] at h; rw [h.1, eqRR_eq h.2]
 ·simp only [Bool.and_eq_true, decide_eq_true_eq] at h; rw [h.1, eqRR_eq h.2]
 ·rw [eqTs_eq h]
 ·rw [eqTs_eq h]
 ·simp only [Bool.and_eq_true, decide_eq_true_eq] at h; rw [h.1, h.2]
 ·cases h
def eqArgs : List Arg -> List Arg -> Bool
 | [], [] => true
 | x :: xs, y :: ys => eqArg x y && eqArgs xs ys
 | _, _ => false
theorem eqArgs_eq : ∀ {x y : List Arg}, eqArgs x y = true -> x = y
 | [], [], _ => rfl
 | x :: xs, y :: ys, h => by
  unfold eqArgs at h
  simp only [Bool.and_eq_true] at h
  rw [eqArg_eq h.1, eqArgs_eq h.2]
 | [], _ :: _, h => by cases h
 | _ :: _, [], h => by cases h
def eqL3 (l m : List (Nat × Nat × Nat)) : Bool := decide (l = m)
def eqC : Cell -> Cell -> Bool
 | .t x, .t y => eqT x y
 | .ptr b r c, .ptr b' r' c' => decide (b = b') && decide (r = r') && decide (c = c')
 | .tp l c, .tp l' c' => eqTs l l' && decide (c = c')
 | .sl b o n c, .sl b' o' n' c' => decide (b = b') && decide (o = o') && decide (n = n') && decide (c = c')
 | .mp b, .mp b' => decide (b = b')
 | .clo f l, .clo g m => decide (f = g) && eqL3 l m
 | _, _ => false
def eqCs : List Cell -> List Cell -> Bool
 | [], [] => true
 | x :: xs, y :: ys => eqC x y && eqCs xs ys
 | _, _ => false
def eqAV : AV -> AV -> Bool
 | .c x, .c y => eqC x y
 | .agg x, .agg y => eqCs x y
 | .junk, .junk => true
 | _, _ => false
def eqAVs : List AV -> List AV -> Bool
 | [], [] => true
 | x :: xs, y :: ys => eqAV x y && eqAVs xs ys
 | _, _ => false
def eqB : Option Blk -> Option Blk -> Bool
 | none, none => true
 | some (.var x), some (.var y) => eqCs x y
 | some (.rows s l g z), some (.rows s' l' g' z') => decide (s = s') && eqRR l l' && decide (g = g') && decide (z = z')
 | some (.old s l), some (.old s' l') => decide (s = s') && eqRR l l'
 | _, _ => false
def eqH : Heap -> Heap -> Bool
 | [], [] => true
 | x :: xs, y :: ys => eqB x y && eqH xs ys
 | _, _ => false
theorem eqC_eq {x y : Cell} (h : eqC x y = true) : x = y := by
 unfold eqC at h
 split at h
 ·rw [eqT_eq h]
 ·simp only [Bool.and_eq_true, decide_eq_true_eq] at h; obtain ⟨⟨rfl, rfl⟩, rfl⟩ := h; rfl
 ·simp only [Bool.and_eq_true, decide_eq_true_eq] at h; rw [eqTs_eq h.1, h.2]
 ·simp only [Bool.and_eq_true, decide_eq_true_eq] at h; obtain ⟨⟨⟨rfl, rfl⟩, rfl⟩, rfl⟩ := h; rfl
 ·rw [of_decide_eq_true h]
 ·simp only [Bool.and_eq_true, decide_eq_true_eq, eqL3] at h; rw [h.1, h.2]
 ·cases h
theorem eqCs_eq : ∀ {x y : List Cell}, eqCs x y = true -> x = y
 | [], [], _ => rfl
 | x :: xs, y :: ys, h => by
  unfold eqCs at h
  simp only [Bool.and_eq_true] at h
  rw [eqC_eq h.1, eqCs_eq h.2]
 | [], _ :: _, h => by cases h
 | _ :: _, [], h => by cases h
theorem eqAV_eq {x y : AV} (h : eqAV x y = true) : x = y := by
 unfold eqAV at h
 split at h
 ·rw [eqC_eq h]
 ·rw [eqCs_eq h]
 ·rfl
 ·cases h
theorem eqAVs_eq : ∀ {x y : List AV}, eqAVs x y = true -> x = y
 | [], [], _ => rfl
 | x :: xs, y :: ys, h => by
  unfold eqAVs at h
  simp only [Bool.and_eq_true] at h
  rw [eqAV_eq h.1, eqAVs_eq h.2]
 | [], _ :: _, h => by cases h
 | _ :: _, [], h => by cases h
theorem eqB_eq {x y : Option Blk} (h : eqB x y = true) : x = y := by
 unfold eqB at h
 split at h
 ·rfl
 ·rw [eqCs_eq h]
 ·simp only [Bool.and_eq_true, decide_eq_true_eq] at h; obtain ⟨⟨⟨rfl, h2⟩, rfl⟩, rfl⟩ := h; rw [eqRR_eq h2]
 ·simp only [Bool.and_eq_true, decide_eq_true_eq] at h; obtain ⟨rfl, h2⟩ := h; rw [eqRR_eq h2]
 ·cases h
theorem eqH_eq : ∀ {x y : Heap}, eqH x y = true -> x = y
 | [], [], _ => rfl
 | x :: xs, y :: ys, h => by
  unfold eqH at h
  simp only [Bool.and_eq_true] at h
  rw [eqB_eq h.1, eqH_eq h.2]
 | [], _ :: _, h => by cases h
 | _ :: _, [], h => by cases h
def eqAsk : Ask -> Ask -> Bool
 | .a x, .a y => eqArgs x y
 | .h ⟨t, m⟩, .h ⟨t', m'⟩ => eqAVs t t' && eqH m m'
 | _, _ => false
theorem eqAsk_eq {x y : Ask} (h : eqAsk x y = true) : x = y := by
 unfold eqAsk at h
 split at h
 ·rw [eqArgs_eq h]
 ·simp only [Bool.and_eq_true] at h; rw [eqAVs_eq h.1, eqH_eq h.2]
 ·cases h
inductive Known (P : Program) : List (FuncId × Ask × Ans) -> Prop where
 | nil : Known P []
 | cons {f : FuncId} {x : Ask} {y : Ans} {l : List (FuncId × Ask × Ans)} (h : Shows P f x y) (t : Known P l) : Known P ((f, x, y) :: l)
def findK : List (FuncId × Ask × Ans) -> FuncId -> Ask -> Option Ans
 | [], _, _ => none
 | (f, x, r) :: l, g, y => match Nat.beq f g with
  | true => match eqAsk x y with
   | true => some r
   | false => findK l g y
  | false => findK l g y
theorem Known.find {P : Program} {l : List (FuncId × Ask × Ans)} (h : Known P l) : ∀ f x y, findK l f x = some y -> Shows P f x y := by
 induction h with
 | nil => intro f x y h; cases h
 | cons h t ih =>
  rename_i f x r l
  intro g y res hr
  unfold findK at hr
  split at hr
  ·rename_i h1
   split at hr
   ·rename_i h2
    cases hr
    obtain rfl := Nat.eq_of_beq_eq_true h1
    obtain rfl := eqAsk_eq h2
    exact h
   ·exact ih _ _ _ hr
  ·exact ih _ _ _ hr
theorem execBody_sound {P : Program} {C : Cfg} {om : FuncId -> List Mode} (hC : CfgOk P C) (hmix : P.follows .mixedOrders = true) {l : List (FuncId × Ask × Ans)} (hl : Known P l) {n : Nat} {f : FuncId} {x : Ask} {y : Ans}
  (h : execAsk P C om (findK l) n f x = some y) : Shows P f x y := execAsk_sound hC hmix hl.find h
end Go.Abs
end
section
namespace Go.Proofs.Ytlhbidjdkginkaa.Mem
open Go Go.Abs Go.Proofs
def u (n : Int) : List Tree := [.v (.int .u32 n)]
def n64 (n : Int) : Tree := .v (.int .i64 n)
def w64 (n : Int) : Tree := .v (.int .u64 n)
def bT : Tree := .v (.bool true)
def bF : Tree := .v (.bool false)
def lF (l : List (List Tree)) : Tree := .lst false l
def lT (l : List (List Tree)) : Tree := .lst true l
def l1 : Tree := .lst false [u 1]
noncomputable def om : FuncId -> List Abs.Mode := omOf Try.prog []
theorem ex {l : List (FuncId × Abs.Ask × Abs.Ans)} {f : FuncId} {x : Abs.Ask} {y : Abs.Ans} (hl : Known Try.prog l) (h : execAsk Try.prog CC om (findK l) 100000 f x = some y) : Shows Try.prog f x y := execBody_sound ccOk mixed hl h
theorem k0 : Shows Try.prog 55 (.a [.val (.c (lF [u 1, u 0]))]) (.a ⟨[.val (.c (l1))], [none]⟩) := ex (.nil) (by kernel_rfl)
theorem k1 : Shows Try.prog 46 (.a [.val (.c (w64 1))]) (.a ⟨[.val (.c (l1))], [none]⟩) := ex (.cons k0 .nil) (by kernel_rfl)
theorem k2 : Shows Try.prog 55 (.a [.val (.c (l1))]) (.a ⟨[.val (.c (l1))], [none]⟩) := ex (.nil) (by kernel_rfl)
theorem k3 : Shows Try.prog 41 (.a [.val (.c (bF)), .val (.c (l1))]) (.a ⟨[.val (.agg [bF, l1])], [none, none]⟩) := ex (.cons k2 .nil) (by kernel_rfl)
theorem k4 : Shows Try.prog 33 (.a [.val (.c (n64 1))]) (.a ⟨[.val (.agg [bF, l1])], [none]⟩) := ex (.cons k1 (.cons k3 .nil)) (by kernel_rfl)
theorem k5 : Shows Try.prog 21 (.a [.val (.c (n64 1))]) (.a ⟨[.val (.agg [bF, l1, bF, l1])], [none]⟩) := ex (.cons k4 .nil) (by kernel_rfl)
theorem k6 : Shows Try.prog 15 (.a [.val (.c (n64 0))]) (.a ⟨[.val (.c (lF [[bF, l1, bF, l1, n64 1, n64 0, n64 0, n64 0, n64 0, n64 0, n64 0, n64 0]])), .val (.c (n64 0))], [none]⟩) := ex (.cons k5 .nil) (by kernel_rfl)
theorem k7 : Shows Try.prog 6 (.a [.val (.c (n64 0))]) (.a ⟨[.val (.c (lF [[bF, l1, bF, l1, n64 1, n64 0, n64 0, n64 0, n64 0, n64 0, n64 0, n64 0]]))], [none]⟩) := ex (.cons k6 .nil) (by kernel_rfl)
theorem k8 : Shows Try.prog 15 (.a [.val (.c (n64 1))]) (.a ⟨[.val (.c (lF [[bF, l1, bF, l1, n64 0, n64 1, n64 0, n64 0, n64 0, n64 0, n64 0, n64 0]])), .val (.c (n64 0))], [none]⟩) := ex (.cons k5 .nil) (by kernel_rfl)
theorem k9 : Shows Try.prog 6 (.a [.val (.c (n64 1))]) (.a ⟨[.val (.c (lF [[bF, l1, bF, l1, n64 0, n64 1, n64 0, n64 0, n64 0, n64 0, n64 0, n64 0]]))], [none]⟩) := ex (.cons k8 .nil) (by kernel_rfl)
theorem k10 : Shows Try.prog 32 (.a [.val (.agg [bF, l1])]) (.a ⟨[.val (.c (n64 1))], [none]⟩) := ex (.nil) (by kernel_rfl)
theorem k11 : Shows Try.prog 19 (.a [.val (.agg [bF, l1, bF, l1])]) (.a ⟨[.val (.c (n64 1))], [none]⟩) := ex (.cons k10 .nil) (by kernel_rfl)
theorem k12 : Shows Try.prog 63 (.a [.val (.agg [n64 2, n64 0, n64 0, n64 0, n64 0, n64 0, n64 0, n64 0])]) (.a ⟨[.val (.c (bT))], [none]⟩) := ex (.nil) (by kernel_rfl)
theorem k13 : Shows Try.prog 50 (.a [.val (.agg [n64 1, n64 0, n64 0, n64 0, n64 0, n64 0, n64 0, n64 0]), .val (.agg [n64 1, n64 0, n64 0, n64 0, n64 0, n64 0, n64 0, n64 0])]) (.a ⟨[.val (.agg [n64 2, n64 0, n64 0, n64 0, n64 0, n64 0, n64 0, n64 0]), .val (.c (n64 0))], [none, none]⟩) := ex (.cons k12 .nil) (by kernel_rfl)
theorem k14 : Shows Try.prog 45 (.a [.val (.c (l1)), .val (.c (l1))]) (.a ⟨[.val (.c (l1))], [none, none]⟩) := ex (.cons k0 .nil) (by kernel_rfl)
theorem k15 : Shows Try.prog 31 (.a [.val (.agg [bF, l1]), .val (.agg [bF, l1])]) (.a ⟨[.val (.agg [bF, l1])], [none, none]⟩) := ex (.cons k14 (.cons k3 .nil)) (by kernel_rfl)
theorem k16 : Shows Try.prog 56 (.a [.val (.c (l1)), .val (.c (n64 1))]) (.a ⟨[.val (.c (w64 0))], [none, none]⟩) := ex (.nil) (by kernel_rfl)
theorem k17 : Shows Try.prog 56 (.a [.val (.c (l1)), .val (.c (n64 0))]) (.a ⟨[.val (.c (w64 1))], [none, none]⟩) := ex (.nil) (by kernel_rfl)
theorem k18 : Shows Try.prog 66 (.a [.val (.c (l1))]) (.a ⟨[.val (.c (w64 1))], [none]⟩) := ex (.cons k16 (.cons k17 .nil)) (by kernel_rfl)
theorem k19 : Shows Try.prog 65 (.a [.val (.c (w64 1)), .val (.c (w64 1))]) (.a ⟨[.val (.c (w64 1))], [none, none]⟩) := ex (.nil) (by kernel_rfl)
theorem k20 : Shows Try.prog 53 (.a [.val (.c (l1)), .val (.c (l1))]) (.a ⟨[.val (.c (l1))], [none, none]⟩) := ex (.cons k18 (.cons k19 (.cons k1 .nil))) (by kernel_rfl)
theorem k21 : Shows Try.prog 38 (.a [.val (.agg [bF, l1]), .val (.agg [bF, l1])]) (.a ⟨[.val (.agg [bF, l1])], [none, none]⟩) := ex (.cons k20 (.cons k3 .nil)) (by kernel_rfl)
theorem k22 : Shows Try.prog 43 (.a [.val (.c (l1)), .val (.c (l1))]) (.a ⟨[.val (.c (n64 0))], [none, none]⟩) := ex (.nil) (by kernel_rfl)
theorem k23 : Shows Try.prog 76 (.a [.val (.c (l1)), .val (.c (w64 1))]) (.a ⟨[.val (.c (l1)), .val (.c (w64 0))], [none, none]⟩) := ex (.cons k2 .nil) (by kernel_rfl)
theorem k24 : Shows Try.prog 55 (.a [.val (.c (lF [u 0, u 0]))]) (.a ⟨[.val (.c (lF []))], [none]⟩) := ex (.nil) (by kernel_rfl)
theorem k25 : Shows Try.prog 46 (.a [.val (.c (w64 0))]) (.a ⟨[.val (.c (lF []))], [none]⟩) := ex (.cons k24 .nil) (by kernel_rfl)
theorem k26 : Shows Try.prog 67 (.a [.val (.c (l1)), .val (.c (l1))]) (.a ⟨[.val (.c (l1)), .val (.c (lF []))], [none, none]⟩) := ex (.cons k22 (.cons k23 (.cons k25 .nil))) (by kernel_rfl)
theorem k27 : Shows Try.prog 55 (.a [.val (.c (lF []))]) (.a ⟨[.val (.c (lF []))], [none]⟩) := ex (.nil) (by kernel_rfl)
theorem k28 : Shows Try.prog 41 (.a [.val (.c (bF)), .val (.c (lF []))]) (.a ⟨[.val (.agg [bF, lF []])], [none, none]⟩) := ex (.cons k27 .nil) (by kernel_rfl)
theorem k29 : Shows Try.prog 54 (.a [.val (.agg [bF, l1]), .val (.agg [bF, l1])]) (.a ⟨[.val (.agg [bF, l1]), .val (.agg [bF, lF []]), .val (.c (n64 0))], [none, none]⟩) := ex (.cons k26 (.cons k3 (.cons k28 .nil))) (by kernel_rfl)
theorem k30 : Shows Try.prog 40 (.a [.val (.agg [bF, l1]), .val (.agg [bF, l1])]) (.a ⟨[.val (.agg [bF, l1])], [none, none]⟩) := ex (.cons k29 .nil) (by kernel_rfl)
theorem k31 : Shows Try.prog 29 (.a [.val (.agg [bF, l1]), .val (.agg [bF, l1])]) (.a ⟨[.val (.agg [bF, l1, bF, l1])], [none, none]⟩) := ex (.cons k21 (.cons k10 (.cons k30 .nil))) (by kernel_rfl)
theorem k32 : Shows Try.prog 51 (.a [.val (.agg [bF, l1, bF, l1]), .val (.agg [bF, l1, bF, l1])]) (.a ⟨[.val (.agg [bF, l1, bF, l1])], [none, none]⟩) := ex (.cons k15 (.cons k31 .nil)) (by kernel_rfl)
theorem k33 : Shows Try.prog 36 (.a [.val (.agg [bF, l1, bF, l1]), .val (.agg [n64 1, n64 0, n64 0, n64 0, n64 0, n64 0, n64 0, n64 0]), .val (.c (lF [[bF, l1, bF, l1, n64 1, n64 0, n64 0, n64 0, n64 0, n64 0, n64 0, n64 0]]))]) (.a ⟨[.val (.c (lF [[bF, l1, bF, l1, n64 2, n64 0, n64 0, n64 0, n64 0, n64 0, n64 0, n64 0]])), .val (.c (n64 0))], [none, none, none]⟩) := ex (.cons k11 (.cons k13 (.cons k32 .nil))) (by kernel_rfl)
theorem k34 : Shows Try.prog 8 (.a [.val (.c (lF [])), .val (.c (lF [[bF, l1, bF, l1, n64 2, n64 0, n64 0, n64 0, n64 0, n64 0, n64 0, n64 0]]))]) (.a ⟨[.val (.c (lF [[bF, l1, bF, l1, n64 2, n64 0, n64 0, n64 0, n64 0, n64 0, n64 0, n64 0]]))], [none, none]⟩) := ex (.nil) (by kernel_rfl)
theorem k35 : Shows Try.prog 28 (.a [.val (.c (lF [[bF, l1, bF, l1, n64 1, n64 0, n64 0, n64 0, n64 0, n64 0, n64 0, n64 0]])), .val (.c (lF [[bF, l1, bF, l1, n64 1, n64 0, n64 0, n64 0, n64 0, n64 0, n64 0, n64 0]]))]) (.a ⟨[.val (.c (lF [[bF, l1, bF, l1, n64 2, n64 0, n64 0, n64 0, n64 0, n64 0, n64 0, n64 0]])), .val (.c (n64 0))], [none, none]⟩) := ex (.cons k33 (.cons k34 .nil)) (by kernel_rfl)
theorem k36 : Shows Try.prog 16 (.a [.val (.c (lF [[bF, l1, bF, l1, n64 1, n64 0, n64 0, n64 0, n64 0, n64 0, n64 0, n64 0]])), .val (.c (lF [[bF, l1, bF, l1, n64 1, n64 0, n64 0, n64 0, n64 0, n64 0, n64 0, n64 0]]))]) (.a ⟨[.val (.c (lF [[bF, l1, bF, l1, n64 2, n64 0, n64 0, n64 0, n64 0, n64 0, n64 0, n64 0]]))], [none, none]⟩) := ex (.cons k35 .nil) (by kernel_rfl)
theorem k37 : Shows Try.prog 7 (.a []) (.a ⟨[.val (.agg [n64 2, lF [[lF [[bF, l1, bF, l1, n64 0, n64 1, n64 0, n64 0, n64 0, n64 0, n64 0, n64 0]]], [lF [[bF, l1, bF, l1, n64 1, n64 0, n64 0, n64 0, n64 0, n64 0, n64 0, n64 0]]]], lT [], n64 1, lF [[bF, l1, bF, l1, n64 2, n64 0, n64 0, n64 0, n64 0, n64 0, n64 0, n64 0]], n64 0, n64 0, n64 0, lT [], lT [], lT [], lT [], n64 0, lF [[lT []], [lF [[bF, l1, bF, l1, n64 1, n64 0, n64 0, n64 0, n64 0, n64 0, n64 0, n64 0]]]], lT [], lT [], lT [], lT [], lT [], n64 0, n64 0, n64 0, n64 0, n64 0, n64 0, n64 0, n64 0, lT [], lT [], lT [], lT [], lT [], lT [], lT [], lT [], lT [], lT [], lT [], lT [], lT []])], []⟩) := ex (.cons k7 (.cons k9 (.cons k36 .nil))) (by kernel_rfl)
theorem k38 : Shows Try.prog 17 (.a [.val (.agg [n64 1, n64 0, n64 0, n64 0, n64 0, n64 0, n64 0, n64 0]), .val (.agg [n64 0, n64 1, n64 0, n64 0, n64 0, n64 0, n64 0, n64 0])]) (.a ⟨[.val (.c (n64 1))], [none, none]⟩) := ex (.nil) (by kernel_rfl)
theorem k39 : Shows Try.prog 8 (.a [.val (.c (lF [[bF, l1, bF, l1, n64 1, n64 0, n64 0, n64 0, n64 0, n64 0, n64 0, n64 0]])), .val (.c (lF [[bF, l1, bF, l1, n64 0, n64 1, n64 0, n64 0, n64 0, n64 0, n64 0, n64 0]]))]) (.a ⟨[.val (.c (lF [[bF, l1, bF, l1, n64 1, n64 0, n64 0, n64 0, n64 0, n64 0, n64 0, n64 0], [bF, l1, bF, l1, n64 0, n64 1, n64 0, n64 0, n64 0, n64 0, n64 0, n64 0]]))], [none, none]⟩) := ex (.cons k38 .nil) (by kernel_rfl)
theorem k40 : Shows Try.prog 20 (.a [.val (.agg [bF, l1, bF, l1])]) (.a ⟨[.val (.c (lF [[bF, l1, bF, l1, n64 0, n64 0, n64 0, n64 0, n64 0, n64 0, n64 0, n64 0]]))], [none]⟩) := ex (.cons k11 .nil) (by kernel_rfl)
theorem k41 : Shows Try.prog 9 (.a [.val (.c (n64 1))]) (.a ⟨[.val (.c (lF [[bF, l1, bF, l1, n64 0, n64 0, n64 0, n64 0, n64 0, n64 0, n64 0, n64 0]]))], [none]⟩) := ex (.cons k5 (.cons k40 .nil)) (by kernel_rfl)
theorem k42 : Shows Try.prog 5 (.a [.val (.agg [n64 1, lF [[bF, l1, bF, l1, n64 2, n64 0, n64 0, n64 0, n64 0, n64 0, n64 0, n64 0]], n64 0, n64 0, n64 0, lT [], lT [], lT [], lT []])]) (.a ⟨[.val (.c (bF))], [none]⟩) := ex (.nil) (by kernel_rfl)
theorem k43 : Shows Try.prog 22 (.a [.val (.agg [n64 2, lF [[lF [[bF, l1, bF, l1, n64 0, n64 1, n64 0, n64 0, n64 0, n64 0, n64 0, n64 0]]], [lF [[bF, l1, bF, l1, n64 1, n64 0, n64 0, n64 0, n64 0, n64 0, n64 0, n64 0]]]], lT [], n64 1, lF [[bF, l1, bF, l1, n64 2, n64 0, n64 0, n64 0, n64 0, n64 0, n64 0, n64 0]], n64 0, n64 0, n64 0, lT [], lT [], lT [], lT [], n64 0, lF [[lT []], [lF [[bF, l1, bF, l1, n64 1, n64 0, n64 0, n64 0, n64 0, n64 0, n64 0, n64 0]]]], lT [], lT [], lT [], lT [], lT [], n64 0, n64 0, n64 0, n64 0, n64 0, n64 0, n64 0, n64 0, lT [], lT [], lT [], lT [], lT [], lT [], lT [], lT [], lT [], lT [], lT [], lT [], lT []]), .val (.c (n64 0))]) (.a ⟨[.val (.c (bF))], [none, none]⟩) := ex (.nil) (by kernel_rfl)
theorem k44 : Shows Try.prog 22 (.a [.val (.agg [n64 2, lF [[lF [[bF, l1, bF, l1, n64 0, n64 1, n64 0, n64 0, n64 0, n64 0, n64 0, n64 0]]], [lF [[bF, l1, bF, l1, n64 1, n64 0, n64 0, n64 0, n64 0, n64 0, n64 0, n64 0]]]], lT [], n64 1, lF [[bF, l1, bF, l1, n64 2, n64 0, n64 0, n64 0, n64 0, n64 0, n64 0, n64 0]], n64 0, n64 0, n64 0, lT [], lT [], lT [], lT [], n64 0, lF [[lT []], [lF [[bF, l1, bF, l1, n64 1, n64 0, n64 0, n64 0, n64 0, n64 0, n64 0, n64 0]]]], lT [], lT [], lT [], lT [], lT [], n64 0, n64 0, n64 0, n64 0, n64 0, n64 0, n64 0, n64 0, lT [], lT [], lT [], lT [], lT [], lT [], lT [], lT [], lT [], lT [], lT [], lT [], lT []]), .val (.c (n64 1))]) (.a ⟨[.val (.c (bT))], [none, none]⟩) := ex (.nil) (by kernel_rfl)
theorem k45 : Shows Try.prog 10 (.a [.val (.agg [n64 2, lF [[lF [[bF, l1, bF, l1, n64 0, n64 1, n64 0, n64 0, n64 0, n64 0, n64 0, n64 0]]], [lF [[bF, l1, bF, l1, n64 1, n64 0, n64 0, n64 0, n64 0, n64 0, n64 0, n64 0]]]], lT [], n64 1, lF [[bF, l1, bF, l1, n64 2, n64 0, n64 0, n64 0, n64 0, n64 0, n64 0, n64 0]], n64 0, n64 0, n64 0, lT [], lT [], lT [], lT [], n64 0, lF [[lT []], [lF [[bF, l1, bF, l1, n64 1, n64 0, n64 0, n64 0, n64 0, n64 0, n64 0, n64 0]]]], lT [], lT [], lT [], lT [], lT [], n64 0, n64 0, n64 0, n64 0, n64 0, n64 0, n64 0, n64 0, lT [], lT [], lT [], lT [], lT [], lT [], lT [], lT [], lT [], lT [], lT [], lT [], lT []])]) (.a ⟨[.val (.c (lF [[n64 1]]))], [none]⟩) := ex (.cons k42 (.cons k43 (.cons k44 .nil))) (by kernel_rfl)
theorem k46 : Shows Try.prog 23 (.a [.val (.agg [n64 2, lF [[lF [[bF, l1, bF, l1, n64 0, n64 1, n64 0, n64 0, n64 0, n64 0, n64 0, n64 0]]], [lF [[bF, l1, bF, l1, n64 1, n64 0, n64 0, n64 0, n64 0, n64 0, n64 0, n64 0]]]], lT [], n64 1, lF [[bF, l1, bF, l1, n64 2, n64 0, n64 0, n64 0, n64 0, n64 0, n64 0, n64 0]], n64 0, n64 0, n64 0, lT [], lT [], lT [], lT [], n64 0, lF [[lT []], [lF [[bF, l1, bF, l1, n64 1, n64 0, n64 0, n64 0, n64 0, n64 0, n64 0, n64 0]]]], lT [], lT [], lT [], lT [], lT [], n64 0, n64 0, n64 0, n64 0, n64 0, n64 0, n64 0, n64 0, lT [], lT [], lT [], lT [], lT [], lT [], lT [], lT [], lT [], lT [], lT [], lT [], lT []]), .val (.agg [n64 2, lF [[lF [[bF, l1, bF, l1, n64 0, n64 1, n64 0, n64 0, n64 0, n64 0, n64 0, n64 0]]], [lF [[bF, l1, bF, l1, n64 1, n64 0, n64 0, n64 0, n64 0, n64 0, n64 0, n64 0], [bF, l1, bF, l1, n64 0, n64 1, n64 0, n64 0, n64 0, n64 0, n64 0, n64 0]]]], lT []])]) (.a ⟨[.val (.c (bT))], [none, none]⟩) := ex (.cons k42 .nil) (by kernel_rfl)
theorem k47 : Shows Try.prog 71 (.h ⟨[.c (.ptr 0 0 0), .c (.t (w64 0))], [some (.var [.t (lT [])])]⟩) (.h ⟨[], [some (.var [.sl 1 0 1 false]), some (.rows 1 [[.v (.int .u8 0)]] true false)]⟩) := ex (.nil) (by kernel_rfl)
theorem k48 : Shows Try.prog 60 (.h ⟨[.c (.ptr 0 0 0), .c (.t (n64 0))], [some (.var [.t (lT [])])]⟩) (.h ⟨[], [some (.var [.sl 1 0 1 false]), some (.rows 1 [[.v (.int .u8 0)]] true false)]⟩) := ex (.cons k47 .nil) (by kernel_rfl)
theorem k49 : Shows Try.prog 71 (.h ⟨[.c (.ptr 0 0 0), .c (.t (w64 1))], [some (.var [.sl 1 0 1 false]), some (.rows 1 [[.v (.int .u8 0)]] true false)]⟩) (.h ⟨[], [some (.var [.sl 2 0 2 false]), none, some (.rows 1 [[.v (.int .u8 0)], [.v (.int .u8 1)]] true false)]⟩) := ex (.nil) (by kernel_rfl)
theorem k50 : Shows Try.prog 71 (.h ⟨[.c (.ptr 0 0 0), .c (.t (w64 2))], [some (.var [.sl 1 0 2 false]), some (.rows 1 [[.v (.int .u8 0)], [.v (.int .u8 1)]] true false)]⟩) (.h ⟨[], [some (.var [.sl 2 0 3 false]), none, some (.rows 1 [[.v (.int .u8 0)], [.v (.int .u8 1)], [.v (.int .u8 2)]] true false)]⟩) := ex (.nil) (by kernel_rfl)
theorem k51 : Shows Try.prog 89 (.h ⟨[.c (.ptr 0 0 0), .agg [.t (bF), .t (l1)]], [some (.var [.sl 1 0 2 false]), some (.rows 1 [[.v (.int .u8 0)], [.v (.int .u8 1)]] true false)]⟩) (.h ⟨[], [some (.var [.sl 2 0 7 false]), none, some (.rows 1 [[.v (.int .u8 0)], [.v (.int .u8 1)], [.v (.int .u8 2)], [.v (.int .u8 0)], [.v (.int .u8 0)], [.v (.int .u8 0)], [.v (.int .u8 1)]] true false)]⟩) := ex (.cons k50 .nil) (by kernel_rfl)
theorem k52 : Shows Try.prog 71 (.h ⟨[.c (.ptr 0 0 0), .c (.t (w64 2))], [some (.var [.sl 1 0 7 false]), some (.rows 1 [[.v (.int .u8 0)], [.v (.int .u8 1)], [.v (.int .u8 2)], [.v (.int .u8 0)], [.v (.int .u8 0)], [.v (.int .u8 0)], [.v (.int .u8 1)]] true false)]⟩) (.h ⟨[], [some (.var [.sl 2 0 8 false]), none, some (.rows 1 [[.v (.int .u8 0)], [.v (.int .u8 1)], [.v (.int .u8 2)], [.v (.int .u8 0)], [.v (.int .u8 0)], [.v (.int .u8 0)], [.v (.int .u8 1)], [.v (.int .u8 2)]] true false)]⟩) := ex (.nil) (by kernel_rfl)
theorem k53 : Shows Try.prog 89 (.h ⟨[.c (.ptr 0 0 0), .agg [.t (bF), .t (l1)]], [some (.var [.sl 1 0 7 false]), some (.rows 1 [[.v (.int .u8 0)], [.v (.int .u8 1)], [.v (.int .u8 2)], [.v (.int .u8 0)], [.v (.int .u8 0)], [.v (.int .u8 0)], [.v (.int .u8 1)]] true false)]⟩) (.h ⟨[], [some (.var [.sl 2 0 12 false]), none, some (.rows 1 [[.v (.int .u8 0)], [.v (.int .u8 1)], [.v (.int .u8 2)], [.v (.int .u8 0)], [.v (.int .u8 0)], [.v (.int .u8 0)], [.v (.int .u8 1)], [.v (.int .u8 2)], [.v (.int .u8 0)], [.v (.int .u8 0)], [.v (.int .u8 0)], [.v (.int .u8 1)]] true false)]⟩) := ex (.cons k52 .nil) (by kernel_rfl)
theorem k54 : Shows Try.prog 85 (.h ⟨[.c (.ptr 0 0 0), .agg [.t (bF), .t (l1), .t (bF), .t (l1)]], [some (.var [.sl 1 0 2 false]), some (.rows 1 [[.v (.int .u8 0)], [.v (.int .u8 1)]] true false)]⟩) (.h ⟨[], [some (.var [.sl 2 0 12 false]), none, some (.rows 1 [[.v (.int .u8 0)], [.v (.int .u8 1)], [.v (.int .u8 2)], [.v (.int .u8 0)], [.v (.int .u8 0)], [.v (.int .u8 0)], [.v (.int .u8 1)], [.v (.int .u8 2)], [.v (.int .u8 0)], [.v (.int .u8 0)], [.v (.int .u8 0)], [.v (.int .u8 1)]] true false)]⟩) := ex (.cons k51 (.cons k53 .nil)) (by kernel_rfl)
theorem k55 : Shows Try.prog 71 (.h ⟨[.c (.ptr 0 0 0), .c (.t (w64 0))], [some (.var [.sl 1 0 12 false]), some (.rows 1 [[.v (.int .u8 0)], [.v (.int .u8 1)], [.v (.int .u8 2)], [.v (.int .u8 0)], [.v (.int .u8 0)], [.v (.int .u8 0)], [.v (.int .u8 1)], [.v (.int .u8 2)], [.v (.int .u8 0)], [.v (.int .u8 0)], [.v (.int .u8 0)], [.v (.int .u8 1)]] true false)]⟩) (.h ⟨[], [some (.var [.sl 2 0 13 false]), none, some (.rows 1 [[.v (.int .u8 0)], [.v (.int .u8 1)], [.v (.int .u8 2)], [.v (.int .u8 0)], [.v (.int .u8 0)], [.v (.int .u8 0)], [.v (.int .u8 1)], [.v (.int .u8 2)], [.v (.int .u8 0)], [.v (.int .u8 0)], [.v (.int .u8 0)], [.v (.int .u8 1)], [.v (.int .u8 0)]] true false)]⟩) := ex (.nil) (by kernel_rfl)
theorem k56 : Shows Try.prog 71 (.h ⟨[.c (.ptr 0 0 0), .c (.t (w64 1))], [some (.var [.sl 1 0 13 false]), some (.rows 1 [[.v (.int .u8 0)], [.v (.int .u8 1)], [.v (.int .u8 2)], [.v (.int .u8 0)], [.v (.int .u8 0)], [.v (.int .u8 0)], [.v (.int .u8 1)], [.v (.int .u8 2)], [.v (.int .u8 0)], [.v (.int .u8 0)], [.v (.int .u8 0)], [.v (.int .u8 1)], [.v (.int .u8 0)]] true false)]⟩) (.h ⟨[], [some (.var [.sl 2 0 14 false]), none, some (.rows 1 [[.v (.int .u8 0)], [.v (.int .u8 1)], [.v (.int .u8 2)], [.v (.int .u8 0)], [.v (.int .u8 0)], [.v (.int .u8 0)], [.v (.int .u8 1)], [.v (.int .u8 2)], [.v (.int .u8 0)], [.v (.int .u8 0)], [.v (.int .u8 0)], [.v (.int .u8 1)], [.v (.int .u8 0)], [.v (.int .u8 1)]] true false)]⟩) := ex (.nil) (by kernel_rfl)
theorem k57 : Shows Try.prog 71 (.h ⟨[.c (.ptr 0 0 0), .c (.t (w64 0))], [some (.var [.sl 1 0 14 false]), some (.rows 1 [[.v (.int .u8 0)], [.v (.int .u8 1)], [.v (.int .u8 2)], [.v (.int .u8 0)], [.v (.int .u8 0)], [.v (.int .u8 0)], [.v (.int .u8 1)], [.v (.int .u8 2)], [.v (.int .u8 0)], [.v (.int .u8 0)], [.v (.int .u8 0)], [.v (.int .u8 1)], [.v (.int .u8 0)], [.v (.int .u8 1)]] true false)]⟩) (.h ⟨[], [some (.var [.sl 2 0 15 false]), none, some (.rows 1 [[.v (.int .u8 0)], [.v (.int .u8 1)], [.v (.int .u8 2)], [.v (.int .u8 0)], [.v (.int .u8 0)], [.v (.int .u8 0)], [.v (.int .u8 1)], [.v (.int .u8 2)], [.v (.int .u8 0)], [.v (.int .u8 0)], [.v (.int .u8 0)], [.v (.int .u8 1)], [.v (.int .u8 0)], [.v (.int .u8 1)], [.v (.int .u8 0)]] true false)]⟩) := ex (.nil) (by kernel_rfl)
theorem k58 : Shows Try.prog 71 (.h ⟨[.c (.ptr 0 0 0), .c (.t (w64 0))], [some (.var [.sl 1 0 15 false]), some (.rows 1 [[.v (.int .u8 0)], [.v (.int .u8 1)], [.v (.int .u8 2)], [.v (.int .u8 0)], [.v (.int .u8 0)], [.v (.int .u8 0)], [.v (.int .u8 1)], [.v (.int .u8 2)], [.v (.int .u8 0)], [.v (.int .u8 0)], [.v (.int .u8 0)], [.v (.int .u8 1)], [.v (.int .u8 0)], [.v (.int .u8 1)], [.v (.int .u8 0)]] true false)]⟩) (.h ⟨[], [some (.var [.sl 2 0 16 false]), none, some (.rows 1 [[.v (.int .u8 0)], [.v (.int .u8 1)], [.v (.int .u8 2)], [.v (.int .u8 0)], [.v (.int .u8 0)], [.v (.int .u8 0)], [.v (.int .u8 1)], [.v (.int .u8 2)], [.v (.int .u8 0)], [.v (.int .u8 0)], [.v (.int .u8 0)], [.v (.int .u8 1)], [.v (.int .u8 0)], [.v (.int .u8 1)], [.v (.int .u8 0)], [.v (.int .u8 0)]] true false)]⟩) := ex (.nil) (by kernel_rfl)
theorem k59 : Shows Try.prog 71 (.h ⟨[.c (.ptr 0 0 0), .c (.t (w64 0))], [some (.var [.sl 1 0 16 false]), some (.rows 1 [[.v (.int .u8 0)], [.v (.int .u8 1)], [.v (.int .u8 2)], [.v (.int .u8 0)], [.v (.int .u8 0)], [.v (.int .u8 0)], [.v (.int .u8 1)], [.v (.int .u8 2)], [.v (.int .u8 0)], [.v (.int .u8 0)], [.v (.int .u8 0)], [.v (.int .u8 1)], [.v (.int .u8 0)], [.v (.int .u8 1)], [.v (.int .u8 0)], [.v (.int .u8 0)]] true false)]⟩) (.h ⟨[], [some (.var [.sl 2 0 17 false]), none, some (.rows 1 [[.v (.int .u8 0)], [.v (.int .u8 1)], [.v (.int .u8 2)], [.v (.int .u8 0)], [.v (.int .u8 0)], [.v (.int .u8 0)], [.v (.int .u8 1)], [.v (.int .u8 2)], [.v (.int .u8 0)], [.v (.int .u8 0)], [.v (.int .u8 0)], [.v (.int .u8 1)], [.v (.int .u8 0)], [.v (.int .u8 1)], [.v (.int .u8 0)], [.v (.int .u8 0)], [.v (.int .u8 0)]] true false)]⟩) := ex (.nil) (by kernel_rfl)
theorem k60 : Shows Try.prog 71 (.h ⟨[.c (.ptr 0 0 0), .c (.t (w64 0))], [some (.var [.sl 1 0 17 false]), some (.rows 1 [[.v (.int .u8 0)], [.v (.int .u8 1)], [.v (.int .u8 2)], [.v (.int .u8 0)], [.v (.int .u8 0)], [.v (.int .u8 0)], [.v (.int .u8 1)], [.v (.int .u8 2)], [.v (.int .u8 0)], [.v (.int .u8 0)], [.v (.int .u8 0)], [.v (.int .u8 1)], [.v (.int .u8 0)], [.v (.int .u8 1)], [.v (.int .u8 0)], [.v (.int .u8 0)], [.v (.int .u8 0)]] true false)]⟩) (.h ⟨[], [some (.var [.sl 2 0 18 false]), none, some (.rows 1 [[.v (.int .u8 0)], [.v (.int .u8 1)], [.v (.int .u8 2)], [.v (.int .u8 0)], [.v (.int .u8 0)], [.v (.int .u8 0)], [.v (.int .u8 1)], [.v (.int .u8 2)], [.v (.int .u8 0)], [.v (.int .u8 0)], [.v (.int .u8 0)], [.v (.int .u8 1)], [.v (.int .u8 0)], [.v (.int .u8 1)], [.v (.int .u8 0)], [.v (.int .u8 0)], [.v (.int .u8 0)], [.v (.int .u8 0)]] true false)]⟩) := ex (.nil) (by kernel_rfl)
theorem k61 : Shows Try.prog 71 (.h ⟨[.c (.ptr 0 0 0), .c (.t (w64 0))], [some (.var [.sl 1 0 18 false]), some (.rows 1 [[.v (.int .u8 0)], [.v (.int .u8 1)], [.v (.int .u8 2)], [.v (.int .u8 0)], [.v (.int .u8 0)], [.v (.int .u8 0)], [.v (.int .u8 1)], [.v (.int .u8 2)], [.v (.int .u8 0)], [.v (.int .u8 0)], [.v (.int .u8 0)], [.v (.int .u8 1)], [.v (.int .u8 0)], [.v (.int .u8 1)], [.v (.int .u8 0)], [.v (.int .u8 0)], [.v (.int .u8 0)], [.v (.int .u8 0)]] true false)]⟩) (.h ⟨[], [some (.var [.sl 2 0 19 false]), none, some (.rows 1 [[.v (.int .u8 0)], [.v (.int .u8 1)], [.v (.int .u8 2)], [.v (.int .u8 0)], [.v (.int .u8 0)], [.v (.int .u8 0)], [.v (.int .u8 1)], [.v (.int .u8 2)], [.v (.int .u8 0)], [.v (.int .u8 0)], [.v (.int .u8 0)], [.v (.int .u8 1)], [.v (.int .u8 0)], [.v (.int .u8 1)], [.v (.int .u8 0)], [.v (.int .u8 0)], [.v (.int .u8 0)], [.v (.int .u8 0)], [.v (.int .u8 0)]] true false)]⟩) := ex (.nil) (by kernel_rfl)
theorem k62 : Shows Try.prog 71 (.h ⟨[.c (.ptr 0 0 0), .c (.t (w64 0))], [some (.var [.sl 1 0 19 false]), some (.rows 1 [[.v (.int .u8 0)], [.v (.int .u8 1)], [.v (.int .u8 2)], [.v (.int .u8 0)], [.v (.int .u8 0)], [.v (.int .u8 0)], [.v (.int .u8 1)], [.v (.int .u8 2)], [.v (.int .u8 0)], [.v (.int .u8 0)], [.v (.int .u8 0)], [.v (.int .u8 1)], [.v (.int .u8 0)], [.v (.int .u8 1)], [.v (.int .u8 0)], [.v (.int .u8 0)], [.v (.int .u8 0)], [.v (.int .u8 0)], [.v (.int .u8 0)]] true false)]⟩) (.h ⟨[], [some (.var [.sl 2 0 20 false]), none, some (.rows 1 [[.v (.int .u8 0)], [.v (.int .u8 1)], [.v (.int .u8 2)], [.v (.int .u8 0)], [.v (.int .u8 0)], [.v (.int .u8 0)], [.v (.int .u8 1)], [.v (.int .u8 2)], [.v (.int .u8 0)], [.v (.int .u8 0)], [.v (.int .u8 0)], [.v (.int .u8 1)], [.v (.int .u8 0)], [.v (.int .u8 1)], [.v (.int .u8 0)], [.v (.int .u8 0)], [.v (.int .u8 0)], [.v (.int .u8 0)], [.v (.int .u8 0)], [.v (.int .u8 0)]] true false)]⟩) := ex (.nil) (by kernel_rfl)
theorem k63 : Shows Try.prog 73 (.h ⟨[.c (.ptr 0 0 0), .agg [.t (bF), .t (l1), .t (bF), .t (l1), .t (n64 0), .t (n64 1), .t (n64 0), .t (n64 0), .t (n64 0), .t (n64 0), .t (n64 0), .t (n64 0)]], [some (.var [.sl 1 0 2 false]), some (.rows 1 [[.v (.int .u8 0)], [.v (.int .u8 1)]] true false)]⟩) (.h ⟨[], [some (.var [.sl 2 0 20 false]), none, some (.rows 1 [[.v (.int .u8 0)], [.v (.int .u8 1)], [.v (.int .u8 2)], [.v (.int .u8 0)], [.v (.int .u8 0)], [.v (.int .u8 0)], [.v (.int .u8 1)], [.v (.int .u8 2)], [.v (.int .u8 0)], [.v (.int .u8 0)], [.v (.int .u8 0)], [.v (.int .u8 1)], [.v (.int .u8 0)], [.v (.int .u8 1)], [.v (.int .u8 0)], [.v (.int .u8 0)], [.v (.int .u8 0)], [.v (.int .u8 0)], [.v (.int .u8 0)], [.v (.int .u8 0)]] true false)]⟩) := ex (.cons k54 (.cons k55 (.cons k56 (.cons k57 (.cons k58 (.cons k59 (.cons k60 (.cons k61 (.cons k62 .nil))))))))) (by kernel_rfl)
theorem k64 : Shows Try.prog 72 (.h ⟨[.c (.ptr 0 0 0), .c (.t (lF [[bF, l1, bF, l1, n64 0, n64 1, n64 0, n64 0, n64 0, n64 0, n64 0, n64 0]])), .c (.clo 1000000000073 [(0, (0, 0))])], [some (.var [.sl 1 0 1 false]), some (.rows 1 [[.v (.int .u8 0)]] true false)]⟩) (.h ⟨[], [some (.var [.sl 2 0 20 false]), none, some (.rows 1 [[.v (.int .u8 0)], [.v (.int .u8 1)], [.v (.int .u8 2)], [.v (.int .u8 0)], [.v (.int .u8 0)], [.v (.int .u8 0)], [.v (.int .u8 1)], [.v (.int .u8 2)], [.v (.int .u8 0)], [.v (.int .u8 0)], [.v (.int .u8 0)], [.v (.int .u8 1)], [.v (.int .u8 0)], [.v (.int .u8 1)], [.v (.int .u8 0)], [.v (.int .u8 0)], [.v (.int .u8 0)], [.v (.int .u8 0)], [.v (.int .u8 0)], [.v (.int .u8 0)]] true false)]⟩) := ex (.cons k49 (.cons k63 .nil)) (by kernel_rfl)
theorem k65 : Shows Try.prog 61 (.h ⟨[.c (.ptr 0 0 0), .c (.t (lF [[bF, l1, bF, l1, n64 0, n64 1, n64 0, n64 0, n64 0, n64 0, n64 0, n64 0]]))], [some (.var [.sl 1 0 1 false]), some (.rows 1 [[.v (.int .u8 0)]] true false)]⟩) (.h ⟨[], [some (.var [.sl 2 0 20 false]), none, some (.rows 1 [[.v (.int .u8 0)], [.v (.int .u8 1)], [.v (.int .u8 2)], [.v (.int .u8 0)], [.v (.int .u8 0)], [.v (.int .u8 0)], [.v (.int .u8 1)], [.v (.int .u8 2)], [.v (.int .u8 0)], [.v (.int .u8 0)], [.v (.int .u8 0)], [.v (.int .u8 1)], [.v (.int .u8 0)], [.v (.int .u8 1)], [.v (.int .u8 0)], [.v (.int .u8 0)], [.v (.int .u8 0)], [.v (.int .u8 0)], [.v (.int .u8 0)], [.v (.int .u8 0)]] true false)]⟩) := ex (.cons k64 .nil) (by kernel_rfl)
theorem k66 : Shows Try.prog 71 (.h ⟨[.c (.ptr 0 0 0), .c (.t (w64 0))], [some (.var [.sl 1 0 20 false]), some (.rows 1 [[.v (.int .u8 0)], [.v (.int .u8 1)], [.v (.int .u8 2)], [.v (.int .u8 0)], [.v (.int .u8 0)], [.v (.int .u8 0)], [.v (.int .u8 1)], [.v (.int .u8 2)], [.v (.int .u8 0)], [.v (.int .u8 0)], [.v (.int .u8 0)], [.v (.int .u8 1)], [.v (.int .u8 0)], [.v (.int .u8 1)], [.v (.int .u8 0)], [.v (.int .u8 0)], [.v (.int .u8 0)], [.v (.int .u8 0)], [.v (.int .u8 0)], [.v (.int .u8 0)]] true false)]⟩) (.h ⟨[], [some (.var [.sl 2 0 21 false]), none, some (.rows 1 [[.v (.int .u8 0)], [.v (.int .u8 1)], [.v (.int .u8 2)], [.v (.int .u8 0)], [.v (.int .u8 0)], [.v (.int .u8 0)], [.v (.int .u8 1)], [.v (.int .u8 2)], [.v (.int .u8 0)], [.v (.int .u8 0)], [.v (.int .u8 0)], [.v (.int .u8 1)], [.v (.int .u8 0)], [.v (.int .u8 1)], [.v (.int .u8 0)], [.v (.int .u8 0)], [.v (.int .u8 0)], [.v (.int .u8 0)], [.v (.int .u8 0)], [.v (.int .u8 0)], [.v (.int .u8 0)]] true false)]⟩) := ex (.nil) (by kernel_rfl)
theorem k67 : Shows Try.prog 74 (.h ⟨[.c (.ptr 0 0 0), .c (.t (lT [])), .c (.clo 1000000000075 [(0, (0, 0))])], [some (.var [.sl 1 0 20 false]), some (.rows 1 [[.v (.int .u8 0)], [.v (.int .u8 1)], [.v (.int .u8 2)], [.v (.int .u8 0)], [.v (.int .u8 0)], [.v (.int .u8 0)], [.v (.int .u8 1)], [.v (.int .u8 2)], [.v (.int .u8 0)], [.v (.int .u8 0)], [.v (.int .u8 0)], [.v (.int .u8 1)], [.v (.int .u8 0)], [.v (.int .u8 1)], [.v (.int .u8 0)], [.v (.int .u8 0)], [.v (.int .u8 0)], [.v (.int .u8 0)], [.v (.int .u8 0)], [.v (.int .u8 0)]] true false)]⟩) (.h ⟨[], [some (.var [.sl 2 0 21 false]), none, some (.rows 1 [[.v (.int .u8 0)], [.v (.int .u8 1)], [.v (.int .u8 2)], [.v (.int .u8 0)], [.v (.int .u8 0)], [.v (.int .u8 0)], [.v (.int .u8 1)], [.v (.int .u8 2)], [.v (.int .u8 0)], [.v (.int .u8 0)], [.v (.int .u8 0)], [.v (.int .u8 1)], [.v (.int .u8 0)], [.v (.int .u8 1)], [.v (.int .u8 0)], [.v (.int .u8 0)], [.v (.int .u8 0)], [.v (.int .u8 0)], [.v (.int .u8 0)], [.v (.int .u8 0)], [.v (.int .u8 0)]] true false)]⟩) := ex (.cons k66 .nil) (by kernel_rfl)
theorem k68 : Shows Try.prog 62 (.h ⟨[.c (.ptr 0 0 0), .c (.t (lT []))], [some (.var [.sl 1 0 20 false]), some (.rows 1 [[.v (.int .u8 0)], [.v (.int .u8 1)], [.v (.int .u8 2)], [.v (.int .u8 0)], [.v (.int .u8 0)], [.v (.int .u8 0)], [.v (.int .u8 1)], [.v (.int .u8 2)], [.v (.int .u8 0)], [.v (.int .u8 0)], [.v (.int .u8 0)], [.v (.int .u8 1)], [.v (.int .u8 0)], [.v (.int .u8 1)], [.v (.int .u8 0)], [.v (.int .u8 0)], [.v (.int .u8 0)], [.v (.int .u8 0)], [.v (.int .u8 0)], [.v (.int .u8 0)]] true false)]⟩) (.h ⟨[], [some (.var [.sl 2 0 21 false]), none, some (.rows 1 [[.v (.int .u8 0)], [.v (.int .u8 1)], [.v (.int .u8 2)], [.v (.int .u8 0)], [.v (.int .u8 0)], [.v (.int .u8 0)], [.v (.int .u8 1)], [.v (.int .u8 2)], [.v (.int .u8 0)], [.v (.int .u8 0)], [.v (.int .u8 0)], [.v (.int .u8 1)], [.v (.int .u8 0)], [.v (.int .u8 1)], [.v (.int .u8 0)], [.v (.int .u8 0)], [.v (.int .u8 0)], [.v (.int .u8 0)], [.v (.int .u8 0)], [.v (.int .u8 0)], [.v (.int .u8 0)]] true false)]⟩) := ex (.cons k67 .nil) (by kernel_rfl)
theorem k69 : Shows Try.prog 49 (.a [.val (.agg [n64 0, lF [[bF, l1, bF, l1, n64 0, n64 1, n64 0, n64 0, n64 0, n64 0, n64 0, n64 0]], lT []])]) (.a ⟨[.val (.c (.v (.string ⟨#[0, 1, 2, 0, 0, 0, 1, 2, 0, 0, 0, 1, 0, 1, 0, 0, 0, 0, 0, 0, 0]⟩)))], [none]⟩) := ex (.cons k48 (.cons k65 (.cons k68 .nil))) (by kernel_rfl)
theorem k70 : Shows Try.prog 35 (.a [.val (.c (lF [[bF, l1, bF, l1, n64 0, n64 1, n64 0, n64 0, n64 0, n64 0, n64 0, n64 0]]))]) (.a ⟨[.val (.c (.v (.string ⟨#[0, 1, 2, 0, 0, 0, 1, 2, 0, 0, 0, 1, 0, 1, 0, 0, 0, 0, 0, 0, 0]⟩)))], [none]⟩) := ex (.cons k69 .nil) (by kernel_rfl)
theorem k71 : Shows Try.prog 71 (.h ⟨[.c (.ptr 0 0 0), .c (.t (w64 2))], [some (.var [.sl 1 0 1 false]), some (.rows 1 [[.v (.int .u8 0)]] true false)]⟩) (.h ⟨[], [some (.var [.sl 2 0 2 false]), none, some (.rows 1 [[.v (.int .u8 0)], [.v (.int .u8 2)]] true false)]⟩) := ex (.nil) (by kernel_rfl)
theorem k72 : Shows Try.prog 71 (.h ⟨[.c (.ptr 0 0 0), .c (.t (w64 2))], [some (.var [.sl 1 0 2 false]), some (.rows 1 [[.v (.int .u8 0)], [.v (.int .u8 2)]] true false)]⟩) (.h ⟨[], [some (.var [.sl 2 0 3 false]), none, some (.rows 1 [[.v (.int .u8 0)], [.v (.int .u8 2)], [.v (.int .u8 2)]] true false)]⟩) := ex (.nil) (by kernel_rfl)
theorem k73 : Shows Try.prog 89 (.h ⟨[.c (.ptr 0 0 0), .agg [.t (bF), .t (l1)]], [some (.var [.sl 1 0 2 false]), some (.rows 1 [[.v (.int .u8 0)], [.v (.int .u8 2)]] true false)]⟩) (.h ⟨[], [some (.var [.sl 2 0 7 false]), none, some (.rows 1 [[.v (.int .u8 0)], [.v (.int .u8 2)], [.v (.int .u8 2)], [.v (.int .u8 0)], [.v (.int .u8 0)], [.v (.int .u8 0)], [.v (.int .u8 1)]] true false)]⟩) := ex (.cons k72 .nil) (by kernel_rfl)
theorem k74 : Shows Try.prog 71 (.h ⟨[.c (.ptr 0 0 0), .c (.t (w64 2))], [some (.var [.sl 1 0 7 false]), some (.rows 1 [[.v (.int .u8 0)], [.v (.int .u8 2)], [.v (.int .u8 2)], [.v (.int .u8 0)], [.v (.int .u8 0)], [.v (.int .u8 0)], [.v (.int .u8 1)]] true false)]⟩) (.h ⟨[], [some (.var [.sl 2 0 8 false]), none, some (.rows 1 [[.v (.int .u8 0)], [.v (.int .u8 2)], [.v (.int .u8 2)], [.v (.int .u8 0)], [.v (.int .u8 0)], [.v (.int .u8 0)], [.v (.int .u8 1)], [.v (.int .u8 2)]] true false)]⟩) := ex (.nil) (by kernel_rfl)
theorem k75 : Shows Try.prog 89 (.h ⟨[.c (.ptr 0 0 0), .agg [.t (bF), .t (l1)]], [some (.var [.sl 1 0 7 false]), some (.rows 1 [[.v (.int .u8 0)], [.v (.int .u8 2)], [.v (.int .u8 2)], [.v (.int .u8 0)], [.v (.int .u8 0)], [.v (.int .u8 0)], [.v (.int .u8 1)]] true false)]⟩) (.h ⟨[], [some (.var [.sl 2 0 12 false]), none, some (.rows 1 [[.v (.int .u8 0)], [.v (.int .u8 2)], [.v (.int .u8 2)], [.v (.int .u8 0)], [.v (.int .u8 0)], [.v (.int .u8 0)], [.v (.int .u8 1)], [.v (.int .u8 2)], [.v (.int .u8 0)], [.v (.int .u8 0)], [.v (.int .u8 0)], [.v (.int .u8 1)]] true false)]⟩) := ex (.cons k74 .nil) (by kernel_rfl)
theorem k76 : Shows Try.prog 85 (.h ⟨[.c (.ptr 0 0 0), .agg [.t (bF), .t (l1), .t (bF), .t (l1)]], [some (.var [.sl 1 0 2 false]), some (.rows 1 [[.v (.int .u8 0)], [.v (.int .u8 2)]] true false)]⟩) (.h ⟨[], [some (.var [.sl 2 0 12 false]), none, some (.rows 1 [[.v (.int .u8 0)], [.v (.int .u8 2)], [.v (.int .u8 2)], [.v (.int .u8 0)], [.v (.int .u8 0)], [.v (.int .u8 0)], [.v (.int .u8 1)], [.v (.int .u8 2)], [.v (.int .u8 0)], [.v (.int .u8 0)], [.v (.int .u8 0)], [.v (.int .u8 1)]] true false)]⟩) := ex (.cons k73 (.cons k75 .nil)) (by kernel_rfl)
theorem k77 : Shows Try.prog 71 (.h ⟨[.c (.ptr 0 0 0), .c (.t (w64 1))], [some (.var [.sl 1 0 12 false]), some (.rows 1 [[.v (.int .u8 0)], [.v (.int .u8 2)], [.v (.int .u8 2)], [.v (.int .u8 0)], [.v (.int .u8 0)], [.v (.int .u8 0)], [.v (.int .u8 1)], [.v (.int .u8 2)], [.v (.int .u8 0)], [.v (.int .u8 0)], [.v (.int .u8 0)], [.v (.int .u8 1)]] true false)]⟩) (.h ⟨[], [some (.var [.sl 2 0 13 false]), none, some (.rows 1 [[.v (.int .u8 0)], [.v (.int .u8 2)], [.v (.int .u8 2)], [.v (.int .u8 0)], [.v (.int .u8 0)], [.v (.int .u8 0)], [.v (.int .u8 1)], [.v (.int .u8 2)], [.v (.int .u8 0)], [.v (.int .u8 0)], [.v (.int .u8 0)], [.v (.int .u8 1)], [.v (.int .u8 1)]] true false)]⟩) := ex (.nil) (by kernel_rfl)
theorem k78 : Shows Try.prog 71 (.h ⟨[.c (.ptr 0 0 0), .c (.t (w64 0))], [some (.var [.sl 1 0 13 false]), some (.rows 1 [[.v (.int .u8 0)], [.v (.int .u8 2)], [.v (.int .u8 2)], [.v (.int .u8 0)], [.v (.int .u8 0)], [.v (.int .u8 0)], [.v (.int .u8 1)], [.v (.int .u8 2)], [.v (.int .u8 0)], [.v (.int .u8 0)], [.v (.int .u8 0)], [.v (.int .u8 1)], [.v (.int .u8 1)]] true false)]⟩) (.h ⟨[], [some (.var [.sl 2 0 14 false]), none, some (.rows 1 [[.v (.int .u8 0)], [.v (.int .u8 2)], [.v (.int .u8 2)], [.v (.int .u8 0)], [.v (.int .u8 0)], [.v (.int .u8 0)], [.v (.int .u8 1)], [.v (.int .u8 2)], [.v (.int .u8 0)], [.v (.int .u8 0)], [.v (.int .u8 0)], [.v (.int .u8 1)], [.v (.int .u8 1)], [.v (.int .u8 0)]] true false)]⟩) := ex (.nil) (by kernel_rfl)
theorem k79 : Shows Try.prog 71 (.h ⟨[.c (.ptr 0 0 0), .c (.t (w64 0))], [some (.var [.sl 1 0 14 false]), some (.rows 1 [[.v (.int .u8 0)], [.v (.int .u8 2)], [.v (.int .u8 2)], [.v (.int .u8 0)], [.v (.int .u8 0)], [.v (.int .u8 0)], [.v (.int .u8 1)], [.v (.int .u8 2)], [.v (.int .u8 0)], [.v (.int .u8 0)], [.v (.int .u8 0)], [.v (.int .u8 1)], [.v (.int .u8 1)], [.v (.int .u8 0)]] true false)]⟩) (.h ⟨[], [some (.var [.sl 2 0 15 false]), none, some (.rows 1 [[.v (.int .u8 0)], [.v (.int .u8 2)], [.v (.int .u8 2)], [.v (.int .u8 0)], [.v (.int .u8 0)], [.v (.int .u8 0)], [.v (.int .u8 1)], [.v (.int .u8 2)], [.v (.int .u8 0)], [.v (.int .u8 0)], [.v (.int .u8 0)], [.v (.int .u8 1)], [.v (.int .u8 1)], [.v (.int .u8 0)], [.v (.int .u8 0)]] true false)]⟩) := ex (.nil) (by kernel_rfl)
theorem k80 : Shows Try.prog 71 (.h ⟨[.c (.ptr 0 0 0), .c (.t (w64 0))], [some (.var [.sl 1 0 15 false]), some (.rows 1 [[.v (.int .u8 0)], [.v (.int .u8 2)], [.v (.int .u8 2)], [.v (.int .u8 0)], [.v (.int .u8 0)], [.v (.int .u8 0)], [.v (.int .u8 1)], [.v (.int .u8 2)], [.v (.int .u8 0)], [.v (.int .u8 0)], [.v (.int .u8 0)], [.v (.int .u8 1)], [.v (.int .u8 1)], [.v (.int .u8 0)], [.v (.int .u8 0)]] true false)]⟩) (.h ⟨[], [some (.var [.sl 2 0 16 false]), none, some (.rows 1 [[.v (.int .u8 0)], [.v (.int .u8 2)], [.v (.int .u8 2)], [.v (.int .u8 0)], [.v (.int .u8 0)], [.v (.int .u8 0)], [.v (.int .u8 1)], [.v (.int .u8 2)], [.v (.int .u8 0)], [.v (.int .u8 0)], [.v (.int .u8 0)], [.v (.int .u8 1)], [.v (.int .u8 1)], [.v (.int .u8 0)], [.v (.int .u8 0)], [.v (.int .u8 0)]] true false)]⟩) := ex (.nil) (by kernel_rfl)
theorem k81 : Shows Try.prog 71 (.h ⟨[.c (.ptr 0 0 0), .c (.t (w64 0))], [some (.var [.sl 1 0 16 false]), some (.rows 1 [[.v (.int .u8 0)], [.v (.int .u8 2)], [.v (.int .u8 2)], [.v (.int .u8 0)], [.v (.int .u8 0)], [.v (.int .u8 0)], [.v (.int .u8 1)], [.v (.int .u8 2)], [.v (.int .u8 0)], [.v (.int .u8 0)], [.v (.int .u8 0)], [.v (.int .u8 1)], [.v (.int .u8 1)], [.v (.int .u8 0)], [.v (.int .u8 0)], [.v (.int .u8 0)]] true false)]⟩) (.h ⟨[], [some (.var [.sl 2 0 17 false]), none, some (.rows 1 [[.v (.int .u8 0)], [.v (.int .u8 2)], [.v (.int .u8 2)], [.v (.int .u8 0)], [.v (.int .u8 0)], [.v (.int .u8 0)], [.v (.int .u8 1)], [.v (.int .u8 2)], [.v (.int .u8 0)], [.v (.int .u8 0)], [.v (.int .u8 0)], [.v (.int .u8 1)], [.v (.int .u8 1)], [.v (.int .u8 0)], [.v (.int .u8 0)], [.v (.int .u8 0)], [.v (.int .u8 0)]] true false)]⟩) := ex (.nil) (by kernel_rfl)
theorem k82 : Shows Try.prog 71 (.h ⟨[.c (.ptr 0 0 0), .c (.t (w64 0))], [some (.var [.sl 1 0 17 false]), some (.rows 1 [[.v (.int .u8 0)], [.v (.int .u8 2)], [.v (.int .u8 2)], [.v (.int .u8 0)], [.v (.int .u8 0)], [.v (.int .u8 0)], [.v (.int .u8 1)], [.v (.int .u8 2)], [.v (.int .u8 0)], [.v (.int .u8 0)], [.v (.int .u8 0)], [.v (.int .u8 1)], [.v (.int .u8 1)], [.v (.int .u8 0)], [.v (.int .u8 0)], [.v (.int .u8 0)], [.v (.int .u8 0)]] true false)]⟩) (.h ⟨[], [some (.var [.sl 2 0 18 false]), none, some (.rows 1 [[.v (.int .u8 0)], [.v (.int .u8 2)], [.v (.int .u8 2)], [.v (.int .u8 0)], [.v (.int .u8 0)], [.v (.int .u8 0)], [.v (.int .u8 1)], [.v (.int .u8 2)], [.v (.int .u8 0)], [.v (.int .u8 0)], [.v (.int .u8 0)], [.v (.int .u8 1)], [.v (.int .u8 1)], [.v (.int .u8 0)], [.v (.int .u8 0)], [.v (.int .u8 0)], [.v (.int .u8 0)], [.v (.int .u8 0)]] true false)]⟩) := ex (.nil) (by kernel_rfl)
theorem k83 : Shows Try.prog 71 (.h ⟨[.c (.ptr 0 0 0), .c (.t (w64 0))], [some (.var [.sl 1 0 18 false]), some (.rows 1 [[.v (.int .u8 0)], [.v (.int .u8 2)], [.v (.int .u8 2)], [.v (.int .u8 0)], [.v (.int .u8 0)], [.v (.int .u8 0)], [.v (.int .u8 1)], [.v (.int .u8 2)], [.v (.int .u8 0)], [.v (.int .u8 0)], [.v (.int .u8 0)], [.v (.int .u8 1)], [.v (.int .u8 1)], [.v (.int .u8 0)], [.v (.int .u8 0)], [.v (.int .u8 0)], [.v (.int .u8 0)], [.v (.int .u8 0)]] true false)]⟩) (.h ⟨[], [some (.var [.sl 2 0 19 false]), none, some (.rows 1 [[.v (.int .u8 0)], [.v (.int .u8 2)], [.v (.int .u8 2)], [.v (.int .u8 0)], [.v (.int .u8 0)], [.v (.int .u8 0)], [.v (.int .u8 1)], [.v (.int .u8 2)], [.v (.int .u8 0)], [.v (.int .u8 0)], [.v (.int .u8 0)], [.v (.int .u8 1)], [.v (.int .u8 1)], [.v (.int .u8 0)], [.v (.int .u8 0)], [.v (.int .u8 0)], [.v (.int .u8 0)], [.v (.int .u8 0)], [.v (.int .u8 0)]] true false)]⟩) := ex (.nil) (by kernel_rfl)
theorem k84 : Shows Try.prog 71 (.h ⟨[.c (.ptr 0 0 0), .c (.t (w64 0))], [some (.var [.sl 1 0 19 false]), some (.rows 1 [[.v (.int .u8 0)], [.v (.int .u8 2)], [.v (.int .u8 2)], [.v (.int .u8 0)], [.v (.int .u8 0)], [.v (.int .u8 0)], [.v (.int .u8 1)], [.v (.int .u8 2)], [.v (.int .u8 0)], [.v (.int .u8 0)], [.v (.int .u8 0)], [.v (.int .u8 1)], [.v (.int .u8 1)], [.v (.int .u8 0)], [.v (.int .u8 0)], [.v (.int .u8 0)], [.v (.int .u8 0)], [.v (.int .u8 0)], [.v (.int .u8 0)]] true false)]⟩) (.h ⟨[], [some (.var [.sl 2 0 20 false]), none, some (.rows 1 [[.v (.int .u8 0)], [.v (.int .u8 2)], [.v (.int .u8 2)], [.v (.int .u8 0)], [.v (.int .u8 0)], [.v (.int .u8 0)], [.v (.int .u8 1)], [.v (.int .u8 2)], [.v (.int .u8 0)], [.v (.int .u8 0)], [.v (.int .u8 0)], [.v (.int .u8 1)], [.v (.int .u8 1)], [.v (.int .u8 0)], [.v (.int .u8 0)], [.v (.int .u8 0)], [.v (.int .u8 0)], [.v (.int .u8 0)], [.v (.int .u8 0)], [.v (.int .u8 0)]] true false)]⟩) := ex (.nil) (by kernel_rfl)
theorem k85 : Shows Try.prog 73 (.h ⟨[.c (.ptr 0 0 0), .agg [.t (bF), .t (l1), .t (bF), .t (l1), .t (n64 1), .t (n64 0), .t (n64 0), .t (n64 0), .t (n64 0), .t (n64 0), .t (n64 0), .t (n64 0)]], [some (.var [.sl 1 0 2 false]), some (.rows 1 [[.v (.int .u8 0)], [.v (.int .u8 2)]] true false)]⟩) (.h ⟨[], [some (.var [.sl 2 0 20 false]), none, some (.rows 1 [[.v (.int .u8 0)], [.v (.int .u8 2)], [.v (.int .u8 2)], [.v (.int .u8 0)], [.v (.int .u8 0)], [.v (.int .u8 0)], [.v (.int .u8 1)], [.v (.int .u8 2)], [.v (.int .u8 0)], [.v (.int .u8 0)], [.v (.int .u8 0)], [.v (.int .u8 1)], [.v (.int .u8 1)], [.v (.int .u8 0)], [.v (.int .u8 0)], [.v (.int .u8 0)], [.v (.int .u8 0)], [.v (.int .u8 0)], [.v (.int .u8 0)], [.v (.int .u8 0)]] true false)]⟩) := ex (.cons k76 (.cons k77 (.cons k78 (.cons k79 (.cons k80 (.cons k81 (.cons k82 (.cons k83 (.cons k84 .nil))))))))) (by kernel_rfl)
theorem k86 : Shows Try.prog 71 (.h ⟨[.c (.ptr 0 0 0), .c (.t (w64 2))], [some (.var [.sl 1 0 20 false]), some (.rows 1 [[.v (.int .u8 0)], [.v (.int .u8 2)], [.v (.int .u8 2)], [.v (.int .u8 0)], [.v (.int .u8 0)], [.v (.int .u8 0)], [.v (.int .u8 1)], [.v (.int .u8 2)], [.v (.int .u8 0)], [.v (.int .u8 0)], [.v (.int .u8 0)], [.v (.int .u8 1)], [.v (.int .u8 1)], [.v (.int .u8 0)], [.v (.int .u8 0)], [.v (.int .u8 0)], [.v (.int .u8 0)], [.v (.int .u8 0)], [.v (.int .u8 0)], [.v (.int .u8 0)]] true false)]⟩) (.h ⟨[], [some (.var [.sl 2 0 21 false]), none, some (.rows 1 [[.v (.int .u8 0)], [.v (.int .u8 2)], [.v (.int .u8 2)], [.v (.int .u8 0)], [.v (.int .u8 0)], [.v (.int .u8 0)], [.v (.int .u8 1)], [.v (.int .u8 2)], [.v (.int .u8 0)], [.v (.int .u8 0)], [.v (.int .u8 0)], [.v (.int .u8 1)], [.v (.int .u8 1)], [.v (.int .u8 0)], [.v (.int .u8 0)], [.v (.int .u8 0)], [.v (.int .u8 0)], [.v (.int .u8 0)], [.v (.int .u8 0)], [.v (.int .u8 0)], [.v (.int .u8 2)]] true false)]⟩) := ex (.nil) (by kernel_rfl)
theorem k87 : Shows Try.prog 89 (.h ⟨[.c (.ptr 0 0 0), .agg [.t (bF), .t (l1)]], [some (.var [.sl 1 0 20 false]), some (.rows 1 [[.v (.int .u8 0)], [.v (.int .u8 2)], [.v (.int .u8 2)], [.v (.int .u8 0)], [.v (.int .u8 0)], [.v (.int .u8 0)], [.v (.int .u8 1)], [.v (.int .u8 2)], [.v (.int .u8 0)], [.v (.int .u8 0)], [.v (.int .u8 0)], [.v (.int .u8 1)], [.v (.int .u8 1)], [.v (.int .u8 0)], [.v (.int .u8 0)], [.v (.int .u8 0)], [.v (.int .u8 0)], [.v (.int .u8 0)], [.v (.int .u8 0)], [.v (.int .u8 0)]] true false)]⟩) (.h ⟨[], [some (.var [.sl 2 0 25 false]), none, some (.rows 1 [[.v (.int .u8 0)], [.v (.int .u8 2)], [.v (.int .u8 2)], [.v (.int .u8 0)], [.v (.int .u8 0)], [.v (.int .u8 0)], [.v (.int .u8 1)], [.v (.int .u8 2)], [.v (.int .u8 0)], [.v (.int .u8 0)], [.v (.int .u8 0)], [.v (.int .u8 1)], [.v (.int .u8 1)], [.v (.int .u8 0)], [.v (.int .u8 0)], [.v (.int .u8 0)], [.v (.int .u8 0)], [.v (.int .u8 0)], [.v (.int .u8 0)], [.v (.int .u8 0)], [.v (.int .u8 2)], [.v (.int .u8 0)], [.v (.int .u8 0)], [.v (.int .u8 0)], [.v (.int .u8 1)]] true false)]⟩) := ex (.cons k86 .nil) (by kernel_rfl)
theorem k88 : Shows Try.prog 71 (.h ⟨[.c (.ptr 0 0 0), .c (.t (w64 2))], [some (.var [.sl 1 0 25 false]), some (.rows 1 [[.v (.int .u8 0)], [.v (.int .u8 2)], [.v (.int .u8 2)], [.v (.int .u8 0)], [.v (.int .u8 0)], [.v (.int .u8 0)], [.v (.int .u8 1)], [.v (.int .u8 2)], [.v (.int .u8 0)], [.v (.int .u8 0)], [.v (.int .u8 0)], [.v (.int .u8 1)], [.v (.int .u8 1)], [.v (.int .u8 0)], [.v (.int .u8 0)], [.v (.int .u8 0)], [.v (.int .u8 0)], [.v (.int .u8 0)], [.v (.int .u8 0)], [.v (.int .u8 0)], [.v (.int .u8 2)], [.v (.int .u8 0)], [.v (.int .u8 0)], [.v (.int .u8 0)], [.v (.int .u8 1)]] true false)]⟩) (.h ⟨[], [some (.var [.sl 2 0 26 false]), none, some (.rows 1 [[.v (.int .u8 0)], [.v (.int .u8 2)], [.v (.int .u8 2)], [.v (.int .u8 0)], [.v (.int .u8 0)], [.v (.int .u8 0)], [.v (.int .u8 1)], [.v (.int .u8 2)], [.v (.int .u8 0)], [.v (.int .u8 0)], [.v (.int .u8 0)], [.v (.int .u8 1)], [.v (.int .u8 1)], [.v (.int .u8 0)], [.v (.int .u8 0)], [.v (.int .u8 0)], [.v (.int .u8 0)], [.v (.int .u8 0)], [.v (.int .u8 0)], [.v (.int .u8 0)], [.v (.int .u8 2)], [.v (.int .u8 0)], [.v (.int .u8 0)], [.v (.int .u8 0)], [.v (.int .u8 1)], [.v (.int .u8 2)]] true false)]⟩) := ex (.nil) (by kernel_rfl)
theorem k89 : Shows Try.prog 89 (.h ⟨[.c (.ptr 0 0 0), .agg [.t (bF), .t (l1)]], [some (.var [.sl 1 0 25 false]), some (.rows 1 [[.v (.int .u8 0)], [.v (.int .u8 2)], [.v (.int .u8 2)], [.v (.int .u8 0)], [.v (.int .u8 0)], [.v (.int .u8 0)], [.v (.int .u8 1)], [.v (.int .u8 2)], [.v (.int .u8 0)], [.v (.int .u8 0)], [.v (.int .u8 0)], [.v (.int .u8 1)], [.v (.int .u8 1)], [.v (.int .u8 0)], [.v (.int .u8 0)], [.v (.int .u8 0)], [.v (.int .u8 0)], [.v (.int .u8 0)], [.v (.int .u8 0)], [.v (.int .u8 0)], [.v (.int .u8 2)], [.v (.int .u8 0)], [.v (.int .u8 0)], [.v (.int .u8 0)], [.v (.int .u8 1)]] true false)]⟩) (.h ⟨[], [some (.var [.sl 2 0 30 false]), none, some (.rows 1 [[.v (.int .u8 0)], [.v (.int .u8 2)], [.v (.int .u8 2)], [.v (.int .u8 0)], [.v (.int .u8 0)], [.v (.int .u8 0)], [.v (.int .u8 1)], [.v (.int .u8 2)], [.v (.int .u8 0)], [.v (.int .u8 0)], [.v (.int .u8 0)], [.v (.int .u8 1)], [.v (.int .u8 1)], [.v (.int .u8 0)], [.v (.int .u8 0)], [.v (.int .u8 0)], [.v (.int .u8 0)], [.v (.int .u8 0)], [.v (.int .u8 0)], [.v (.int .u8 0)], [.v (.int .u8 2)], [.v (.int .u8 0)], [.v (.int .u8 0)], [.v (.int .u8 0)], [.v (.int .u8 1)], [.v (.int .u8 2)], [.v (.int .u8 0)], [.v (.int .u8 0)], [.v (.int .u8 0)], [.v (.int .u8 1)]] true false)]⟩) := ex (.cons k88 .nil) (by kernel_rfl)
theorem k90 : Shows Try.prog 85 (.h ⟨[.c (.ptr 0 0 0), .agg [.t (bF), .t (l1), .t (bF), .t (l1)]], [some (.var [.sl 1 0 20 false]), some (.rows 1 [[.v (.int .u8 0)], [.v (.int .u8 2)], [.v (.int .u8 2)], [.v (.int .u8 0)], [.v (.int .u8 0)], [.v (.int .u8 0)], [.v (.int .u8 1)], [.v (.int .u8 2)], [.v (.int .u8 0)], [.v (.int .u8 0)], [.v (.int .u8 0)], [.v (.int .u8 1)], [.v (.int .u8 1)], [.v (.int .u8 0)], [.v (.int .u8 0)], [.v (.int .u8 0)], [.v (.int .u8 0)], [.v (.int .u8 0)], [.v (.int .u8 0)], [.v (.int .u8 0)]] true false)]⟩) (.h ⟨[], [some (.var [.sl 2 0 30 false]), none, some (.rows 1 [[.v (.int .u8 0)], [.v (.int .u8 2)], [.v (.int .u8 2)], [.v (.int .u8 0)], [.v (.int .u8 0)], [.v (.int .u8 0)], [.v (.int .u8 1)], [.v (.int .u8 2)], [.v (.int .u8 0)], [.v (.int .u8 0)], [.v (.int .u8 0)], [.v (.int .u8 1)], [.v (.int .u8 1)], [.v (.int .u8 0)], [.v (.int .u8 0)], [.v (.int .u8 0)], [.v (.int .u8 0)], [.v (.int .u8 0)], [.v (.int .u8 0)], [.v (.int .u8 0)], [.v (.int .u8 2)], [.v (.int .u8 0)], [.v (.int .u8 0)], [.v (.int .u8 0)], [.v (.int .u8 1)], [.v (.int .u8 2)], [.v (.int .u8 0)], [.v (.int .u8 0)], [.v (.int .u8 0)], [.v (.int .u8 1)]] true false)]⟩) := ex (.cons k87 (.cons k89 .nil)) (by kernel_rfl)
theorem k91 : Shows Try.prog 71 (.h ⟨[.c (.ptr 0 0 0), .c (.t (w64 0))], [some (.var [.sl 1 0 30 false]), some (.rows 1 [[.v (.int .u8 0)], [.v (.int .u8 2)], [.v (.int .u8 2)], [.v (.int .u8 0)], [.v (.int .u8 0)], [.v (.int .u8 0)], [.v (.int .u8 1)], [.v (.int .u8 2)], [.v (.int .u8 0)], [.v (.int .u8 0)], [.v (.int .u8 0)], [.v (.int .u8 1)], [.v (.int .u8 1)], [.v (.int .u8 0)], [.v (.int .u8 0)], [.v (.int .u8 0)], [.v (.int .u8 0)], [.v (.int .u8 0)], [.v (.int .u8 0)], [.v (.int .u8 0)], [.v (.int .u8 2)], [.v (.int .u8 0)], [.v (.int .u8 0)], [.v (.int .u8 0)], [.v (.int .u8 1)], [.v (.int .u8 2)], [.v (.int .u8 0)], [.v (.int .u8 0)], [.v (.int .u8 0)], [.v (.int .u8 1)]] true false)]⟩) (.h ⟨[], [some (.var [.sl 2 0 31 false]), none, some (.rows 1 [[.v (.int .u8 0)], [.v (.int .u8 2)], [.v (.int .u8 2)], [.v (.int .u8 0)], [.v (.int .u8 0)], [.v (.int .u8 0)], [.v (.int .u8 1)], [.v (.int .u8 2)], [.v (.int .u8 0)], [.v (.int .u8 0)], [.v (.int .u8 0)], [.v (.int .u8 1)], [.v (.int .u8 1)], [.v (.int .u8 0)], [.v (.int .u8 0)], [.v (.int .u8 0)], [.v (.int .u8 0)], [.v (.int .u8 0)], [.v (.int .u8 0)], [.v (.int .u8 0)], [.v (.int .u8 2)], [.v (.int .u8 0)], [.v (.int .u8 0)], [.v (.int .u8 0)], [.v (.int .u8 1)], [.v (.int .u8 2)], [.v (.int .u8 0)], [.v (.int .u8 0)], [.v (.int .u8 0)], [.v (.int .u8 1)], [.v (.int .u8 0)]] true false)]⟩) := ex (.nil) (by kernel_rfl)
theorem k92 : Shows Try.prog 71 (.h ⟨[.c (.ptr 0 0 0), .c (.t (w64 1))], [some (.var [.sl 1 0 31 false]), some (.rows 1 [[.v (.int .u8 0)], [.v (.int .u8 2)], [.v (.int .u8 2)], [.v (.int .u8 0)], [.v (.int .u8 0)], [.v (.int .u8 0)], [.v (.int .u8 1)], [.v (.int .u8 2)], [.v (.int .u8 0)], [.v (.int .u8 0)], [.v (.int .u8 0)], [.v (.int .u8 1)], [.v (.int .u8 1)], [.v (.int .u8 0)], [.v (.int .u8 0)], [.v (.int .u8 0)], [.v (.int .u8 0)], [.v (.int .u8 0)], [.v (.int .u8 0)], [.v (.int .u8 0)], [.v (.int .u8 2)], [.v (.int .u8 0)], [.v (.int .u8 0)], [.v (.int .u8 0)], [.v (.int .u8 1)], [.v (.int .u8 2)], [.v (.int .u8 0)], [.v (.int .u8 0)], [.v (.int .u8 0)], [.v (.int .u8 1)], [.v (.int .u8 0)]] true false)]⟩) (.h ⟨[], [some (.var [.sl 2 0 32 false]), none, some (.rows 1 [[.v (.int .u8 0)], [.v (.int .u8 2)], [.v (.int .u8 2)], [.v (.int .u8 0)], [.v (.int .u8 0)], [.v (.int .u8 0)], [.v (.int .u8 1)], [.v (.int .u8 2)], [.v (.int .u8 0)], [.v (.int .u8 0)], [.v (.int .u8 0)], [.v (.int .u8 1)], [.v (.int .u8 1)], [.v (.int .u8 0)], [.v (.int .u8 0)], [.v (.int .u8 0)], [.v (.int .u8 0)], [.v (.int .u8 0)], [.v (.int .u8 0)], [.v (.int .u8 0)], [.v (.int .u8 2)], [.v (.int .u8 0)], [.v (.int .u8 0)], [.v (.int .u8 0)], [.v (.int .u8 1)], [.v (.int .u8 2)], [.v (.int .u8 0)], [.v (.int .u8 0)], [.v (.int .u8 0)], [.v (.int .u8 1)], [.v (.int .u8 0)], [.v (.int .u8 1)]] true false)]⟩) := ex (.nil) (by kernel_rfl)
theorem k93 : Shows Try.prog 71 (.h ⟨[.c (.ptr 0 0 0), .c (.t (w64 0))], [some (.var [.sl 1 0 32 false]), some (.rows 1 [[.v (.int .u8 0)], [.v (.int .u8 2)], [.v (.int .u8 2)], [.v (.int .u8 0)], [.v (.int .u8 0)], [.v (.int .u8 0)], [.v (.int .u8 1)], [.v (.int .u8 2)], [.v (.int .u8 0)], [.v (.int .u8 0)], [.v (.int .u8 0)], [.v (.int .u8 1)], [.v (.int .u8 1)], [.v (.int .u8 0)], [.v (.int .u8 0)], [.v (.int .u8 0)], [.v (.int .u8 0)], [.v (.int .u8 0)], [.v (.int .u8 0)], [.v (.int .u8 0)], [.v (.int .u8 2)], [.v (.int .u8 0)], [.v (.int .u8 0)], [.v (.int .u8 0)], [.v (.int .u8 1)], [.v (.int .u8 2)], [.v (.int .u8 0)], [.v (.int .u8 0)], [.v (.int .u8 0)], [.v (.int .u8 1)], [.v (.int .u8 0)], [.v (.int .u8 1)]] true false)]⟩) (.h ⟨[], [some (.var [.sl 2 0 33 false]), none, some (.rows 1 [[.v (.int .u8 0)], [.v (.int .u8 2)], [.v (.int .u8 2)], [.v (.int .u8 0)], [.v (.int .u8 0)], [.v (.int .u8 0)], [.v (.int .u8 1)], [.v (.int .u8 2)], [.v (.int .u8 0)], [.v (.int .u8 0)], [.v (.int .u8 0)], [.v (.int .u8 1)], [.v (.int .u8 1)], [.v (.int .u8 0)], [.v (.int .u8 0)], [.v (.int .u8 0)], [.v (.int .u8 0)], [.v (.int .u8 0)], [.v (.int .u8 0)], [.v (.int .u8 0)], [.v (.int .u8 2)], [.v (.int .u8 0)], [.v (.int .u8 0)], [.v (.int .u8 0)], [.v (.int .u8 1)], [.v (.int .u8 2)], [.v (.int .u8 0)], [.v (.int .u8 0)], [.v (.int .u8 0)], [.v (.int .u8 1)], [.v (.int .u8 0)], [.v (.int .u8 1)], [.v (.int .u8 0)]] true false)]⟩) := ex (.nil) (by kernel_rfl)
theorem k94 : Shows Try.prog 71 (.h ⟨[.c (.ptr 0 0 0), .c (.t (w64 0))], [some (.var [.sl 1 0 33 false]), some (.rows 1 [[.v (.int .u8 0)], [.v (.int .u8 2)], [.v (.int .u8 2)], [.v (.int .u8 0)], [.v (.int .u8 0)], [.v (.int .u8 0)], [.v (.int .u8 1)], [.v (.int .u8 2)], [.v (.int .u8 0)], [.v (.int .u8 0)], [.v (.int .u8 0)], [.v (.int .u8 1)], [.v (.int .u8 1)], [.v (.int .u8 0)], [.v (.int .u8 0)], [.v (.int .u8 0)], [.v (.int .u8 0)], [.v (.int .u8 0)], [.v (.int .u8 0)], [.v (.int .u8 0)], [.v (.int .u8 2)], [.v (.int .u8 0)], [.v (.int .u8 0)], [.v (.int .u8 0)], [.v (.int .u8 1)], [.v (.int .u8 2)], [.v (.int .u8 0)], [.v (.int .u8 0)], [.v (.int .u8 0)], [.v (.int .u8 1)], [.v (.int .u8 0)], [.v (.int .u8 1)], [.v (.int .u8 0)]] true false)]⟩) (.h ⟨[], [some (.var [.sl 2 0 34 false]), none, some (.rows 1 [[.v (.int .u8 0)], [.v (.int .u8 2)], [.v (.int .u8 2)], [.v (.int .u8 0)], [.v (.int .u8 0)], [.v (.int .u8 0)], [.v (.int .u8 1)], [.v (.int .u8 2)], [.v (.int .u8 0)], [.v (.int .u8 0)], [.v (.int .u8 0)], [.v (.int .u8 1)], [.v (.int .u8 1)], [.v (.int .u8 0)], [.v (.int .u8 0)], [.v (.int .u8 0)], [.v (.int .u8 0)], [.v (.int .u8 0)], [.v (.int .u8 0)], [.v (.int .u8 0)], [.v (.int .u8 2)], [.v (.int .u8 0)], [.v (.int .u8 0)], [.v (.int .u8 0)], [.v (.int .u8 1)], [.v (.int .u8 2)], [.v (.int .u8 0)], [.v (.int .u8 0)], [.v (.int .u8 0)], [.v (.int .u8 1)], [.v (.int .u8 0)], [.v (.int .u8 1)], [.v (.int .u8 0)], [.v (.int .u8 0)]] true false)]⟩) := ex (.nil) (by kernel_rfl)
theorem k95 : Shows Try.prog 71 (.h ⟨[.c (.ptr 0 0 0), .c (.t (w64 0))], [some (.var [.sl 1 0 34 false]), some (.rows 1 [[.v (.int .u8 0)], [.v (.int .u8 2)], [.v (.int .u8 2)], [.v (.int .u8 0)], [.v (.int .u8 0)], [.v (.int .u8 0)], [.v (.int .u8 1)], [.v (.int .u8 2)], [.v (.int .u8 0)], [.v (.int .u8 0)], [.v (.int .u8 0)], [.v (.int .u8 1)], [.v (.int .u8 1)], [.v (.int .u8 0)], [.v (.int .u8 0)], [.v (.int .u8 0)], [.v (.int .u8 0)], [.v (.int .u8 0)], [.v (.int .u8 0)], [.v (.int .u8 0)], [.v (.int .u8 2)], [.v (.int .u8 0)], [.v (.int .u8 0)], [.v (.int .u8 0)], [.v (.int .u8 1)], [.v (.int .u8 2)], [.v (.int .u8 0)], [.v (.int .u8 0)], [.v (.int .u8 0)], [.v (.int .u8 1)], [.v (.int .u8 0)], [.v (.int .u8 1)], [.v (.int .u8 0)], [.v (.int .u8 0)]] true false)]⟩) (.h ⟨[], [some (.var [.sl 2 0 35 false]), none, some (.rows 1 [[.v (.int .u8 0)], [.v (.int .u8 2)], [.v (.int .u8 2)], [.v (.int .u8 0)], [.v (.int .u8 0)], [.v (.int .u8 0)], [.v (.int .u8 1)], [.v (.int .u8 2)], [.v (.int .u8 0)], [.v (.int .u8 0)], [.v (.int .u8 0)], [.v (.int .u8 1)], [.v (.int .u8 1)], [.v (.int .u8 0)], [.v (.int .u8 0)], [.v (.int .u8 0)], [.v (.int .u8 0)], [.v (.int .u8 0)], [.v (.int .u8 0)], [.v (.int .u8 0)], [.v (.int .u8 2)], [.v (.int .u8 0)], [.v (.int .u8 0)], [.v (.int .u8 0)], [.v (.int .u8 1)], [.v (.int .u8 2)], [.v (.int .u8 0)], [.v (.int .u8 0)], [.v (.int .u8 0)], [.v (.int .u8 1)], [.v (.int .u8 0)], [.v (.int .u8 1)], [.v (.int .u8 0)], [.v (.int .u8 0)], [.v (.int .u8 0)]] true false)]⟩) := ex (.nil) (by kernel_rfl)
theorem k96 : Shows Try.prog 71 (.h ⟨[.c (.ptr 0 0 0), .c (.t (w64 0))], [some (.var [.sl 1 0 35 false]), some (.rows 1 [[.v (.int .u8 0)], [.v (.int .u8 2)], [.v (.int .u8 2)], [.v (.int .u8 0)], [.v (.int .u8 0)], [.v (.int .u8 0)], [.v (.int .u8 1)], [.v (.int .u8 2)], [.v (.int .u8 0)], [.v (.int .u8 0)], [.v (.int .u8 0)], [.v (.int .u8 1)], [.v (.int .u8 1)], [.v (.int .u8 0)], [.v (.int .u8 0)], [.v (.int .u8 0)], [.v (.int .u8 0)], [.v (.int .u8 0)], [.v (.int .u8 0)], [.v (.int .u8 0)], [.v (.int .u8 2)], [.v (.int .u8 0)], [.v (.int .u8 0)], [.v (.int .u8 0)], [.v (.int .u8 1)], [.v (.int .u8 2)], [.v (.int .u8 0)], [.v (.int .u8 0)], [.v (.int .u8 0)], [.v (.int .u8 1)], [.v (.int .u8 0)], [.v (.int .u8 1)], [.v (.int .u8 0)], [.v (.int .u8 0)], [.v (.int .u8 0)]] true false)]⟩) (.h ⟨[], [some (.var [.sl 2 0 36 false]), none, some (.rows 1 [[.v (.int .u8 0)], [.v (.int .u8 2)], [.v (.int .u8 2)], [.v (.int .u8 0)], [.v (.int .u8 0)], [.v (.int .u8 0)], [.v (.int .u8 1)], [.v (.int .u8 2)], [.v (.int .u8 0)], [.v (.int .u8 0)], [.v (.int .u8 0)], [.v (.int .u8 1)], [.v (.int .u8 1)], [.v (.int .u8 0)], [.v (.int .u8 0)], [.v (.int .u8 0)], [.v (.int .u8 0)], [.v (.int .u8 0)], [.v (.int .u8 0)], [.v (.int .u8 0)], [.v (.int .u8 2)], [.v (.int .u8 0)], [.v (.int .u8 0)], [.v (.int .u8 0)], [.v (.int .u8 1)], [.v (.int .u8 2)], [.v (.int .u8 0)], [.v (.int .u8 0)], [.v (.int .u8 0)], [.v (.int .u8 1)], [.v (.int .u8 0)], [.v (.int .u8 1)], [.v (.int .u8 0)], [.v (.int .u8 0)], [.v (.int .u8 0)], [.v (.int .u8 0)]] true false)]⟩) := ex (.nil) (by kernel_rfl)
theorem k97 : Shows Try.prog 71 (.h ⟨[.c (.ptr 0 0 0), .c (.t (w64 0))], [some (.var [.sl 1 0 36 false]), some (.rows 1 [[.v (.int .u8 0)], [.v (.int .u8 2)], [.v (.int .u8 2)], [.v (.int .u8 0)], [.v (.int .u8 0)], [.v (.int .u8 0)], [.v (.int .u8 1)], [.v (.int .u8 2)], [.v (.int .u8 0)], [.v (.int .u8 0)], [.v (.int .u8 0)], [.v (.int .u8 1)], [.v (.int .u8 1)], [.v (.int .u8 0)], [.v (.int .u8 0)], [.v (.int .u8 0)], [.v (.int .u8 0)], [.v (.int .u8 0)], [.v (.int .u8 0)], [.v (.int .u8 0)], [.v (.int .u8 2)], [.v (.int .u8 0)], [.v (.int .u8 0)], [.v (.int .u8 0)], [.v (.int .u8 1)], [.v (.int .u8 2)], [.v (.int .u8 0)], [.v (.int .u8 0)], [.v (.int .u8 0)], [.v (.int .u8 1)], [.v (.int .u8 0)], [.v (.int .u8 1)], [.v (.int .u8 0)], [.v (.int .u8 0)], [.v (.int .u8 0)], [.v (.int .u8 0)]] true false)]⟩) (.h ⟨[], [some (.var [.sl 2 0 37 false]), none, some (.rows 1 [[.v (.int .u8 0)], [.v (.int .u8 2)], [.v (.int .u8 2)], [.v (.int .u8 0)], [.v (.int .u8 0)], [.v (.int .u8 0)], [.v (.int .u8 1)], [.v (.int .u8 2)], [.v (.int .u8 0)], [.v (.int .u8 0)], [.v (.int .u8 0)], [.v (.int .u8 1)], [.v (.int .u8 1)], [.v (.int .u8 0)], [.v (.int .u8 0)], [.v (.int .u8 0)], [.v (.int .u8 0)], [.v (.int .u8 0)], [.v (.int .u8 0)], [.v (.int .u8 0)], [.v (.int .u8 2)], [.v (.int .u8 0)], [.v (.int .u8 0)], [.v (.int .u8 0)], [.v (.int .u8 1)], [.v (.int .u8 2)], [.v (.int .u8 0)], [.v (.int .u8 0)], [.v (.int .u8 0)], [.v (.int .u8 1)], [.v (.int .u8 0)], [.v (.int .u8 1)], [.v (.int .u8 0)], [.v (.int .u8 0)], [.v (.int .u8 0)], [.v (.int .u8 0)], [.v (.int .u8 0)]] true false)]⟩) := ex (.nil) (by kernel_rfl)
theorem k98 : Shows Try.prog 71 (.h ⟨[.c (.ptr 0 0 0), .c (.t (w64 0))], [some (.var [.sl 1 0 37 false]), some (.rows 1 [[.v (.int .u8 0)], [.v (.int .u8 2)], [.v (.int .u8 2)], [.v (.int .u8 0)], [.v (.int .u8 0)], [.v (.int .u8 0)], [.v (.int .u8 1)], [.v (.int .u8 2)], [.v (.int .u8 0)], [.v (.int .u8 0)], [.v (.int .u8 0)], [.v (.int .u8 1)], [.v (.int .u8 1)], [.v (.int .u8 0)], [.v (.int .u8 0)], [.v (.int .u8 0)], [.v (.int .u8 0)], [.v (.int .u8 0)], [.v (.int .u8 0)], [.v (.int .u8 0)], [.v (.int .u8 2)], [.v (.int .u8 0)], [.v (.int .u8 0)], [.v (.int .u8 0)], [.v (.int .u8 1)], [.v (.int .u8 2)], [.v (.int .u8 0)], [.v (.int .u8 0)], [.v (.int .u8 0)], [.v (.int .u8 1)], [.v (.int .u8 0)], [.v (.int .u8 1)], [.v (.int .u8 0)], [.v (.int .u8 0)], [.v (.int .u8 0)], [.v (.int .u8 0)], [.v (.int .u8 0)]] true false)]⟩) (.h ⟨[], [some (.var [.sl 2 0 38 false]), none, some (.rows 1 [[.v (.int .u8 0)], [.v (.int .u8 2)], [.v (.int .u8 2)], [.v (.int .u8 0)], [.v (.int .u8 0)], [.v (.int .u8 0)], [.v (.int .u8 1)], [.v (.int .u8 2)], [.v (.int .u8 0)], [.v (.int .u8 0)], [.v (.int .u8 0)], [.v (.int .u8 1)], [.v (.int .u8 1)], [.v (.int .u8 0)], [.v (.int .u8 0)], [.v (.int .u8 0)], [.v (.int .u8 0)], [.v (.int .u8 0)], [.v (.int .u8 0)], [.v (.int .u8 0)], [.v (.int .u8 2)], [.v (.int .u8 0)], [.v (.int .u8 0)], [.v (.int .u8 0)], [.v (.int .u8 1)], [.v (.int .u8 2)], [.v (.int .u8 0)], [.v (.int .u8 0)], [.v (.int .u8 0)], [.v (.int .u8 1)], [.v (.int .u8 0)], [.v (.int .u8 1)], [.v (.int .u8 0)], [.v (.int .u8 0)], [.v (.int .u8 0)], [.v (.int .u8 0)], [.v (.int .u8 0)], [.v (.int .u8 0)]] true false)]⟩) := ex (.nil) (by kernel_rfl)
theorem k99 : Shows Try.prog 73 (.h ⟨[.c (.ptr 0 0 0), .agg [.t (bF), .t (l1), .t (bF), .t (l1), .t (n64 0), .t (n64 1), .t (n64 0), .t (n64 0), .t (n64 0), .t (n64 0), .t (n64 0), .t (n64 0)]], [some (.var [.sl 1 0 20 false]), some (.rows 1 [[.v (.int .u8 0)], [.v (.int .u8 2)], [.v (.int .u8 2)], [.v (.int .u8 0)], [.v (.int .u8 0)], [.v (.int .u8 0)], [.v (.int .u8 1)], [.v (.int .u8 2)], [.v (.int .u8 0)], [.v (.int .u8 0)], [.v (.int .u8 0)], [.v (.int .u8 1)], [.v (.int .u8 1)], [.v (.int .u8 0)], [.v (.int .u8 0)], [.v (.int .u8 0)], [.v (.int .u8 0)], [.v (.int .u8 0)], [.v (.int .u8 0)], [.v (.int .u8 0)]] true false)]⟩) (.h ⟨[], [some (.var [.sl 2 0 38 false]), none, some (.rows 1 [[.v (.int .u8 0)], [.v (.int .u8 2)], [.v (.int .u8 2)], [.v (.int .u8 0)], [.v (.int .u8 0)], [.v (.int .u8 0)], [.v (.int .u8 1)], [.v (.int .u8 2)], [.v (.int .u8 0)], [.v (.int .u8 0)], [.v (.int .u8 0)], [.v (.int .u8 1)], [.v (.int .u8 1)], [.v (.int .u8 0)], [.v (.int .u8 0)], [.v (.int .u8 0)], [.v (.int .u8 0)], [.v (.int .u8 0)], [.v (.int .u8 0)], [.v (.int .u8 0)], [.v (.int .u8 2)], [.v (.int .u8 0)], [.v (.int .u8 0)], [.v (.int .u8 0)], [.v (.int .u8 1)], [.v (.int .u8 2)], [.v (.int .u8 0)], [.v (.int .u8 0)], [.v (.int .u8 0)], [.v (.int .u8 1)], [.v (.int .u8 0)], [.v (.int .u8 1)], [.v (.int .u8 0)], [.v (.int .u8 0)], [.v (.int .u8 0)], [.v (.int .u8 0)], [.v (.int .u8 0)], [.v (.int .u8 0)]] true false)]⟩) := ex (.cons k90 (.cons k91 (.cons k92 (.cons k93 (.cons k94 (.cons k95 (.cons k96 (.cons k97 (.cons k98 .nil))))))))) (by kernel_rfl)
open Go Go.Abs Go.Proofs
theorem k100 : Shows Try.prog 72 (.h ⟨[.c (.ptr 0 0 0), .c (.t (lF [[bF, l1, bF, l1, n64 1, n64 0, n64 0, n64 0, n64 0, n64 0, n64 0, n64 0], [bF, l1, bF, l1, n64 0, n64 1, n64 0, n64 0, n64 0, n64 0, n64 0, n64 0]])), .c (.clo 1000000000073 [(0, (0, 0))])], [some (.var [.sl 1 0 1 false]), some (.rows 1 [[.v (.int .u8 0)]] true false)]⟩) (.h ⟨[], [some (.var [.sl 2 0 38 false]), none, some (.rows 1 [[.v (.int .u8 0)], [.v (.int .u8 2)], [.v (.int .u8 2)], [.v (.int .u8 0)], [.v (.int .u8 0)], [.v (.int .u8 0)], [.v (.int .u8 1)], [.v (.int .u8 2)], [.v (.int .u8 0)], [.v (.int .u8 0)], [.v (.int .u8 0)], [.v (.int .u8 1)], [.v (.int .u8 1)], [.v (.int .u8 0)], [.v (.int .u8 0)], [.v (.int .u8 0)], [.v (.int .u8 0)], [.v (.int .u8 0)], [.v (.int .u8 0)], [.v (.int .u8 0)], [.v (.int .u8 2)], [.v (.int .u8 0)], [.v (.int .u8 0)], [.v (.int .u8 0)], [.v (.int .u8 1)], [.v (.int .u8 2)], [.v (.int .u8 0)], [.v (.int .u8 0)], [.v (.int .u8 0)], [.v (.int .u8 1)], [.v (.int .u8 0)], [.v (.int .u8 1)], [.v (.int .u8 0)], [.v (.int .u8 0)], [.v (.int .u8 0)], [.v (.int .u8 0)], [.v (.int .u8 0)], [.v (.int .u8 0)]] true false)]⟩) := ex (.cons k71 (.cons k85 (.cons k99 .nil))) (by kernel_rfl)
theorem k101 : Shows Try.prog 61 (.h ⟨[.c (.ptr 0 0 0), .c (.t (lF [[bF, l1, bF, l1, n64 1, n64 0, n64 0, n64 0, n64 0, n64 0, n64 0, n64 0], [bF, l1, bF, l1, n64 0, n64 1, n64 0, n64 0, n64 0, n64 0, n64 0, n64 0]]))], [some (.var [.sl 1 0 1 false]), some (.rows 1 [[.v (.int .u8 0)]] true false)]⟩) (.h ⟨[], [some (.var [.sl 2 0 38 false]), none, some (.rows 1 [[.v (.int .u8 0)], [.v (.int .u8 2)], [.v (.int .u8 2)], [.v (.int .u8 0)], [.v (.int .u8 0)], [.v (.int .u8 0)], [.v (.int .u8 1)], [.v (.int .u8 2)], [.v (.int .u8 0)], [.v (.int .u8 0)], [.v (.int .u8 0)], [.v (.int .u8 1)], [.v (.int .u8 1)], [.v (.int .u8 0)], [.v (.int .u8 0)], [.v (.int .u8 0)], [.v (.int .u8 0)], [.v (.int .u8 0)], [.v (.int .u8 0)], [.v (.int .u8 0)], [.v (.int .u8 2)], [.v (.int .u8 0)], [.v (.int .u8 0)], [.v (.int .u8 0)], [.v (.int .u8 1)], [.v (.int .u8 2)], [.v (.int .u8 0)], [.v (.int .u8 0)], [.v (.int .u8 0)], [.v (.int .u8 1)], [.v (.int .u8 0)], [.v (.int .u8 1)], [.v (.int .u8 0)], [.v (.int .u8 0)], [.v (.int .u8 0)], [.v (.int .u8 0)], [.v (.int .u8 0)], [.v (.int .u8 0)]] true false)]⟩) := ex (.cons k100 .nil) (by kernel_rfl)
theorem k102 : Shows Try.prog 71 (.h ⟨[.c (.ptr 0 0 0), .c (.t (w64 0))], [some (.var [.sl 1 0 38 false]), some (.rows 1 [[.v (.int .u8 0)], [.v (.int .u8 2)], [.v (.int .u8 2)], [.v (.int .u8 0)], [.v (.int .u8 0)], [.v (.int .u8 0)], [.v (.int .u8 1)], [.v (.int .u8 2)], [.v (.int .u8 0)], [.v (.int .u8 0)], [.v (.int .u8 0)], [.v (.int .u8 1)], [.v (.int .u8 1)], [.v (.int .u8 0)], [.v (.int .u8 0)], [.v (.int .u8 0)], [.v (.int .u8 0)], [.v (.int .u8 0)], [.v (.int .u8 0)], [.v (.int .u8 0)], [.v (.int .u8 2)], [.v (.int .u8 0)], [.v (.int .u8 0)], [.v (.int .u8 0)], [.v (.int .u8 1)], [.v (.int .u8 2)], [.v (.int .u8 0)], [.v (.int .u8 0)], [.v (.int .u8 0)], [.v (.int .u8 1)], [.v (.int .u8 0)], [.v (.int .u8 1)], [.v (.int .u8 0)], [.v (.int .u8 0)], [.v (.int .u8 0)], [.v (.int .u8 0)], [.v (.int .u8 0)], [.v (.int .u8 0)]] true false)]⟩) (.h ⟨[], [some (.var [.sl 2 0 39 false]), none, some (.rows 1 [[.v (.int .u8 0)], [.v (.int .u8 2)], [.v (.int .u8 2)], [.v (.int .u8 0)], [.v (.int .u8 0)], [.v (.int .u8 0)], [.v (.int .u8 1)], [.v (.int .u8 2)], [.v (.int .u8 0)], [.v (.int .u8 0)], [.v (.int .u8 0)], [.v (.int .u8 1)], [.v (.int .u8 1)], [.v (.int .u8 0)], [.v (.int .u8 0)], [.v (.int .u8 0)], [.v (.int .u8 0)], [.v (.int .u8 0)], [.v (.int .u8 0)], [.v (.int .u8 0)], [.v (.int .u8 2)], [.v (.int .u8 0)], [.v (.int .u8 0)], [.v (.int .u8 0)], [.v (.int .u8 1)], [.v (.int .u8 2)], [.v (.int .u8 0)], [.v (.int .u8 0)], [.v (.int .u8 0)], [.v (.int .u8 1)], [.v (.int .u8 0)], [.v (.int .u8 1)], [.v (.int .u8 0)], [.v (.int .u8 0)], [.v (.int .u8 0)], [.v (.int .u8 0)], [.v (.int .u8 0)], [.v (.int .u8 0)], [.v (.int .u8 0)]] true false)]⟩) := ex (.nil) (by kernel_rfl)
theorem k103 : Shows Try.prog 74 (.h ⟨[.c (.ptr 0 0 0), .c (.t (lT [])), .c (.clo 1000000000075 [(0, (0, 0))])], [some (.var [.sl 1 0 38 false]), some (.rows 1 [[.v (.int .u8 0)], [.v (.int .u8 2)], [.v (.int .u8 2)], [.v (.int .u8 0)], [.v (.int .u8 0)], [.v (.int .u8 0)], [.v (.int .u8 1)], [.v (.int .u8 2)], [.v (.int .u8 0)], [.v (.int .u8 0)], [.v (.int .u8 0)], [.v (.int .u8 1)], [.v (.int .u8 1)], [.v (.int .u8 0)], [.v (.int .u8 0)], [.v (.int .u8 0)], [.v (.int .u8 0)], [.v (.int .u8 0)], [.v (.int .u8 0)], [.v (.int .u8 0)], [.v (.int .u8 2)], [.v (.int .u8 0)], [.v (.int .u8 0)], [.v (.int .u8 0)], [.v (.int .u8 1)], [.v (.int .u8 2)], [.v (.int .u8 0)], [.v (.int .u8 0)], [.v (.int .u8 0)], [.v (.int .u8 1)], [.v (.int .u8 0)], [.v (.int .u8 1)], [.v (.int .u8 0)], [.v (.int .u8 0)], [.v (.int .u8 0)], [.v (.int .u8 0)], [.v (.int .u8 0)], [.v (.int .u8 0)]] true false)]⟩) (.h ⟨[], [some (.var [.sl 2 0 39 false]), none, some (.rows 1 [[.v (.int .u8 0)], [.v (.int .u8 2)], [.v (.int .u8 2)], [.v (.int .u8 0)], [.v (.int .u8 0)], [.v (.int .u8 0)], [.v (.int .u8 1)], [.v (.int .u8 2)], [.v (.int .u8 0)], [.v (.int .u8 0)], [.v (.int .u8 0)], [.v (.int .u8 1)], [.v (.int .u8 1)], [.v (.int .u8 0)], [.v (.int .u8 0)], [.v (.int .u8 0)], [.v (.int .u8 0)], [.v (.int .u8 0)], [.v (.int .u8 0)], [.v (.int .u8 0)], [.v (.int .u8 2)], [.v (.int .u8 0)], [.v (.int .u8 0)], [.v (.int .u8 0)], [.v (.int .u8 1)], [.v (.int .u8 2)], [.v (.int .u8 0)], [.v (.int .u8 0)], [.v (.int .u8 0)], [.v (.int .u8 1)], [.v (.int .u8 0)], [.v (.int .u8 1)], [.v (.int .u8 0)], [.v (.int .u8 0)], [.v (.int .u8 0)], [.v (.int .u8 0)], [.v (.int .u8 0)], [.v (.int .u8 0)], [.v (.int .u8 0)]] true false)]⟩) := ex (.cons k102 .nil) (by kernel_rfl)
theorem k104 : Shows Try.prog 62 (.h ⟨[.c (.ptr 0 0 0), .c (.t (lT []))], [some (.var [.sl 1 0 38 false]), some (.rows 1 [[.v (.int .u8 0)], [.v (.int .u8 2)], [.v (.int .u8 2)], [.v (.int .u8 0)], [.v (.int .u8 0)], [.v (.int .u8 0)], [.v (.int .u8 1)], [.v (.int .u8 2)], [.v (.int .u8 0)], [.v (.int .u8 0)], [.v (.int .u8 0)], [.v (.int .u8 1)], [.v (.int .u8 1)], [.v (.int .u8 0)], [.v (.int .u8 0)], [.v (.int .u8 0)], [.v (.int .u8 0)], [.v (.int .u8 0)], [.v (.int .u8 0)], [.v (.int .u8 0)], [.v (.int .u8 2)], [.v (.int .u8 0)], [.v (.int .u8 0)], [.v (.int .u8 0)], [.v (.int .u8 1)], [.v (.int .u8 2)], [.v (.int .u8 0)], [.v (.int .u8 0)], [.v (.int .u8 0)], [.v (.int .u8 1)], [.v (.int .u8 0)], [.v (.int .u8 1)], [.v (.int .u8 0)], [.v (.int .u8 0)], [.v (.int .u8 0)], [.v (.int .u8 0)], [.v (.int .u8 0)], [.v (.int .u8 0)]] true false)]⟩) (.h ⟨[], [some (.var [.sl 2 0 39 false]), none, some (.rows 1 [[.v (.int .u8 0)], [.v (.int .u8 2)], [.v (.int .u8 2)], [.v (.int .u8 0)], [.v (.int .u8 0)], [.v (.int .u8 0)], [.v (.int .u8 1)], [.v (.int .u8 2)], [.v (.int .u8 0)], [.v (.int .u8 0)], [.v (.int .u8 0)], [.v (.int .u8 1)], [.v (.int .u8 1)], [.v (.int .u8 0)], [.v (.int .u8 0)], [.v (.int .u8 0)], [.v (.int .u8 0)], [.v (.int .u8 0)], [.v (.int .u8 0)], [.v (.int .u8 0)], [.v (.int .u8 2)], [.v (.int .u8 0)], [.v (.int .u8 0)], [.v (.int .u8 0)], [.v (.int .u8 1)], [.v (.int .u8 2)], [.v (.int .u8 0)], [.v (.int .u8 0)], [.v (.int .u8 0)], [.v (.int .u8 1)], [.v (.int .u8 0)], [.v (.int .u8 1)], [.v (.int .u8 0)], [.v (.int .u8 0)], [.v (.int .u8 0)], [.v (.int .u8 0)], [.v (.int .u8 0)], [.v (.int .u8 0)], [.v (.int .u8 0)]] true false)]⟩) := ex (.cons k103 .nil) (by kernel_rfl)
theorem k105 : Shows Try.prog 49 (.a [.val (.agg [n64 0, lF [[bF, l1, bF, l1, n64 1, n64 0, n64 0, n64 0, n64 0, n64 0, n64 0, n64 0], [bF, l1, bF, l1, n64 0, n64 1, n64 0, n64 0, n64 0, n64 0, n64 0, n64 0]], lT []])]) (.a ⟨[.val (.c (.v (.string ⟨#[0, 2, 2, 0, 0, 0, 1, 2, 0, 0, 0, 1, 1, 0, 0, 0, 0, 0, 0, 0, 2, 0, 0, 0, 1, 2, 0, 0, 0, 1, 0, 1, 0, 0, 0, 0, 0, 0, 0]⟩)))], [none]⟩) := ex (.cons k48 (.cons k101 (.cons k104 .nil))) (by kernel_rfl)
theorem k106 : Shows Try.prog 35 (.a [.val (.c (lF [[bF, l1, bF, l1, n64 1, n64 0, n64 0, n64 0, n64 0, n64 0, n64 0, n64 0], [bF, l1, bF, l1, n64 0, n64 1, n64 0, n64 0, n64 0, n64 0, n64 0, n64 0]]))]) (.a ⟨[.val (.c (.v (.string ⟨#[0, 2, 2, 0, 0, 0, 1, 2, 0, 0, 0, 1, 1, 0, 0, 0, 0, 0, 0, 0, 2, 0, 0, 0, 1, 2, 0, 0, 0, 1, 0, 1, 0, 0, 0, 0, 0, 0, 0]⟩)))], [none]⟩) := ex (.cons k105 .nil) (by kernel_rfl)
theorem k107 : Shows Try.prog 71 (.h ⟨[.c (.ptr 0 0 0), .c (.t (w64 1))], [some (.var [.sl 1 0 12 false]), some (.rows 1 [[.v (.int .u8 0)], [.v (.int .u8 1)], [.v (.int .u8 2)], [.v (.int .u8 0)], [.v (.int .u8 0)], [.v (.int .u8 0)], [.v (.int .u8 1)], [.v (.int .u8 2)], [.v (.int .u8 0)], [.v (.int .u8 0)], [.v (.int .u8 0)], [.v (.int .u8 1)]] true false)]⟩) (.h ⟨[], [some (.var [.sl 2 0 13 false]), none, some (.rows 1 [[.v (.int .u8 0)], [.v (.int .u8 1)], [.v (.int .u8 2)], [.v (.int .u8 0)], [.v (.int .u8 0)], [.v (.int .u8 0)], [.v (.int .u8 1)], [.v (.int .u8 2)], [.v (.int .u8 0)], [.v (.int .u8 0)], [.v (.int .u8 0)], [.v (.int .u8 1)], [.v (.int .u8 1)]] true false)]⟩) := ex (.nil) (by kernel_rfl)
theorem k108 : Shows Try.prog 71 (.h ⟨[.c (.ptr 0 0 0), .c (.t (w64 0))], [some (.var [.sl 1 0 13 false]), some (.rows 1 [[.v (.int .u8 0)], [.v (.int .u8 1)], [.v (.int .u8 2)], [.v (.int .u8 0)], [.v (.int .u8 0)], [.v (.int .u8 0)], [.v (.int .u8 1)], [.v (.int .u8 2)], [.v (.int .u8 0)], [.v (.int .u8 0)], [.v (.int .u8 0)], [.v (.int .u8 1)], [.v (.int .u8 1)]] true false)]⟩) (.h ⟨[], [some (.var [.sl 2 0 14 false]), none, some (.rows 1 [[.v (.int .u8 0)], [.v (.int .u8 1)], [.v (.int .u8 2)], [.v (.int .u8 0)], [.v (.int .u8 0)], [.v (.int .u8 0)], [.v (.int .u8 1)], [.v (.int .u8 2)], [.v (.int .u8 0)], [.v (.int .u8 0)], [.v (.int .u8 0)], [.v (.int .u8 1)], [.v (.int .u8 1)], [.v (.int .u8 0)]] true false)]⟩) := ex (.nil) (by kernel_rfl)
theorem k109 : Shows Try.prog 71 (.h ⟨[.c (.ptr 0 0 0), .c (.t (w64 0))], [some (.var [.sl 1 0 14 false]), some (.rows 1 [[.v (.int .u8 0)], [.v (.int .u8 1)], [.v (.int .u8 2)], [.v (.int .u8 0)], [.v (.int .u8 0)], [.v (.int .u8 0)], [.v (.int .u8 1)], [.v (.int .u8 2)], [.v (.int .u8 0)], [.v (.int .u8 0)], [.v (.int .u8 0)], [.v (.int .u8 1)], [.v (.int .u8 1)], [.v (.int .u8 0)]] true false)]⟩) (.h ⟨[], [some (.var [.sl 2 0 15 false]), none, some (.rows 1 [[.v (.int .u8 0)], [.v (.int .u8 1)], [.v (.int .u8 2)], [.v (.int .u8 0)], [.v (.int .u8 0)], [.v (.int .u8 0)], [.v (.int .u8 1)], [.v (.int .u8 2)], [.v (.int .u8 0)], [.v (.int .u8 0)], [.v (.int .u8 0)], [.v (.int .u8 1)], [.v (.int .u8 1)], [.v (.int .u8 0)], [.v (.int .u8 0)]] true false)]⟩) := ex (.nil) (by kernel_rfl)
theorem k110 : Shows Try.prog 71 (.h ⟨[.c (.ptr 0 0 0), .c (.t (w64 0))], [some (.var [.sl 1 0 15 false]), some (.rows 1 [[.v (.int .u8 0)], [.v (.int .u8 1)], [.v (.int .u8 2)], [.v (.int .u8 0)], [.v (.int .u8 0)], [.v (.int .u8 0)], [.v (.int .u8 1)], [.v (.int .u8 2)], [.v (.int .u8 0)], [.v (.int .u8 0)], [.v (.int .u8 0)], [.v (.int .u8 1)], [.v (.int .u8 1)], [.v (.int .u8 0)], [.v (.int .u8 0)]] true false)]⟩) (.h ⟨[], [some (.var [.sl 2 0 16 false]), none, some (.rows 1 [[.v (.int .u8 0)], [.v (.int .u8 1)], [.v (.int .u8 2)], [.v (.int .u8 0)], [.v (.int .u8 0)], [.v (.int .u8 0)], [.v (.int .u8 1)], [.v (.int .u8 2)], [.v (.int .u8 0)], [.v (.int .u8 0)], [.v (.int .u8 0)], [.v (.int .u8 1)], [.v (.int .u8 1)], [.v (.int .u8 0)], [.v (.int .u8 0)], [.v (.int .u8 0)]] true false)]⟩) := ex (.nil) (by kernel_rfl)
theorem k111 : Shows Try.prog 71 (.h ⟨[.c (.ptr 0 0 0), .c (.t (w64 0))], [some (.var [.sl 1 0 16 false]), some (.rows 1 [[.v (.int .u8 0)], [.v (.int .u8 1)], [.v (.int .u8 2)], [.v (.int .u8 0)], [.v (.int .u8 0)], [.v (.int .u8 0)], [.v (.int .u8 1)], [.v (.int .u8 2)], [.v (.int .u8 0)], [.v (.int .u8 0)], [.v (.int .u8 0)], [.v (.int .u8 1)], [.v (.int .u8 1)], [.v (.int .u8 0)], [.v (.int .u8 0)], [.v (.int .u8 0)]] true false)]⟩) (.h ⟨[], [some (.var [.sl 2 0 17 false]), none, some (.rows 1 [[.v (.int .u8 0)], [.v (.int .u8 1)], [.v (.int .u8 2)], [.v (.int .u8 0)], [.v (.int .u8 0)], [.v (.int .u8 0)], [.v (.int .u8 1)], [.v (.int .u8 2)], [.v (.int .u8 0)], [.v (.int .u8 0)], [.v (.int .u8 0)], [.v (.int .u8 1)], [.v (.int .u8 1)], [.v (.int .u8 0)], [.v (.int .u8 0)], [.v (.int .u8 0)], [.v (.int .u8 0)]] true false)]⟩) := ex (.nil) (by kernel_rfl)
theorem k112 : Shows Try.prog 71 (.h ⟨[.c (.ptr 0 0 0), .c (.t (w64 0))], [some (.var [.sl 1 0 17 false]), some (.rows 1 [[.v (.int .u8 0)], [.v (.int .u8 1)], [.v (.int .u8 2)], [.v (.int .u8 0)], [.v (.int .u8 0)], [.v (.int .u8 0)], [.v (.int .u8 1)], [.v (.int .u8 2)], [.v (.int .u8 0)], [.v (.int .u8 0)], [.v (.int .u8 0)], [.v (.int .u8 1)], [.v (.int .u8 1)], [.v (.int .u8 0)], [.v (.int .u8 0)], [.v (.int .u8 0)], [.v (.int .u8 0)]] true false)]⟩) (.h ⟨[], [some (.var [.sl 2 0 18 false]), none, some (.rows 1 [[.v (.int .u8 0)], [.v (.int .u8 1)], [.v (.int .u8 2)], [.v (.int .u8 0)], [.v (.int .u8 0)], [.v (.int .u8 0)], [.v (.int .u8 1)], [.v (.int .u8 2)], [.v (.int .u8 0)], [.v (.int .u8 0)], [.v (.int .u8 0)], [.v (.int .u8 1)], [.v (.int .u8 1)], [.v (.int .u8 0)], [.v (.int .u8 0)], [.v (.int .u8 0)], [.v (.int .u8 0)], [.v (.int .u8 0)]] true false)]⟩) := ex (.nil) (by kernel_rfl)
theorem k113 : Shows Try.prog 71 (.h ⟨[.c (.ptr 0 0 0), .c (.t (w64 0))], [some (.var [.sl 1 0 18 false]), some (.rows 1 [[.v (.int .u8 0)], [.v (.int .u8 1)], [.v (.int .u8 2)], [.v (.int .u8 0)], [.v (.int .u8 0)], [.v (.int .u8 0)], [.v (.int .u8 1)], [.v (.int .u8 2)], [.v (.int .u8 0)], [.v (.int .u8 0)], [.v (.int .u8 0)], [.v (.int .u8 1)], [.v (.int .u8 1)], [.v (.int .u8 0)], [.v (.int .u8 0)], [.v (.int .u8 0)], [.v (.int .u8 0)], [.v (.int .u8 0)]] true false)]⟩) (.h ⟨[], [some (.var [.sl 2 0 19 false]), none, some (.rows 1 [[.v (.int .u8 0)], [.v (.int .u8 1)], [.v (.int .u8 2)], [.v (.int .u8 0)], [.v (.int .u8 0)], [.v (.int .u8 0)], [.v (.int .u8 1)], [.v (.int .u8 2)], [.v (.int .u8 0)], [.v (.int .u8 0)], [.v (.int .u8 0)], [.v (.int .u8 1)], [.v (.int .u8 1)], [.v (.int .u8 0)], [.v (.int .u8 0)], [.v (.int .u8 0)], [.v (.int .u8 0)], [.v (.int .u8 0)], [.v (.int .u8 0)]] true false)]⟩) := ex (.nil) (by kernel_rfl)
theorem k114 : Shows Try.prog 71 (.h ⟨[.c (.ptr 0 0 0), .c (.t (w64 0))], [some (.var [.sl 1 0 19 false]), some (.rows 1 [[.v (.int .u8 0)], [.v (.int .u8 1)], [.v (.int .u8 2)], [.v (.int .u8 0)], [.v (.int .u8 0)], [.v (.int .u8 0)], [.v (.int .u8 1)], [.v (.int .u8 2)], [.v (.int .u8 0)], [.v (.int .u8 0)], [.v (.int .u8 0)], [.v (.int .u8 1)], [.v (.int .u8 1)], [.v (.int .u8 0)], [.v (.int .u8 0)], [.v (.int .u8 0)], [.v (.int .u8 0)], [.v (.int .u8 0)], [.v (.int .u8 0)]] true false)]⟩) (.h ⟨[], [some (.var [.sl 2 0 20 false]), none, some (.rows 1 [[.v (.int .u8 0)], [.v (.int .u8 1)], [.v (.int .u8 2)], [.v (.int .u8 0)], [.v (.int .u8 0)], [.v (.int .u8 0)], [.v (.int .u8 1)], [.v (.int .u8 2)], [.v (.int .u8 0)], [.v (.int .u8 0)], [.v (.int .u8 0)], [.v (.int .u8 1)], [.v (.int .u8 1)], [.v (.int .u8 0)], [.v (.int .u8 0)], [.v (.int .u8 0)], [.v (.int .u8 0)], [.v (.int .u8 0)], [.v (.int .u8 0)], [.v (.int .u8 0)]] true false)]⟩) := ex (.nil) (by kernel_rfl)
theorem k115 : Shows Try.prog 73 (.h ⟨[.c (.ptr 0 0 0), .agg [.t (bF), .t (l1), .t (bF), .t (l1), .t (n64 1), .t (n64 0), .t (n64 0), .t (n64 0), .t (n64 0), .t (n64 0), .t (n64 0), .t (n64 0)]], [some (.var [.sl 1 0 2 false]), some (.rows 1 [[.v (.int .u8 0)], [.v (.int .u8 1)]] true false)]⟩) (.h ⟨[], [some (.var [.sl 2 0 20 false]), none, some (.rows 1 [[.v (.int .u8 0)], [.v (.int .u8 1)], [.v (.int .u8 2)], [.v (.int .u8 0)], [.v (.int .u8 0)], [.v (.int .u8 0)], [.v (.int .u8 1)], [.v (.int .u8 2)], [.v (.int .u8 0)], [.v (.int .u8 0)], [.v (.int .u8 0)], [.v (.int .u8 1)], [.v (.int .u8 1)], [.v (.int .u8 0)], [.v (.int .u8 0)], [.v (.int .u8 0)], [.v (.int .u8 0)], [.v (.int .u8 0)], [.v (.int .u8 0)], [.v (.int .u8 0)]] true false)]⟩) := ex (.cons k54 (.cons k107 (.cons k108 (.cons k109 (.cons k110 (.cons k111 (.cons k112 (.cons k113 (.cons k114 .nil))))))))) (by kernel_rfl)
theorem k116 : Shows Try.prog 72 (.h ⟨[.c (.ptr 0 0 0), .c (.t (lF [[bF, l1, bF, l1, n64 1, n64 0, n64 0, n64 0, n64 0, n64 0, n64 0, n64 0]])), .c (.clo 1000000000073 [(0, (0, 0))])], [some (.var [.sl 1 0 1 false]), some (.rows 1 [[.v (.int .u8 0)]] true false)]⟩) (.h ⟨[], [some (.var [.sl 2 0 20 false]), none, some (.rows 1 [[.v (.int .u8 0)], [.v (.int .u8 1)], [.v (.int .u8 2)], [.v (.int .u8 0)], [.v (.int .u8 0)], [.v (.int .u8 0)], [.v (.int .u8 1)], [.v (.int .u8 2)], [.v (.int .u8 0)], [.v (.int .u8 0)], [.v (.int .u8 0)], [.v (.int .u8 1)], [.v (.int .u8 1)], [.v (.int .u8 0)], [.v (.int .u8 0)], [.v (.int .u8 0)], [.v (.int .u8 0)], [.v (.int .u8 0)], [.v (.int .u8 0)], [.v (.int .u8 0)]] true false)]⟩) := ex (.cons k49 (.cons k115 .nil)) (by kernel_rfl)
theorem k117 : Shows Try.prog 61 (.h ⟨[.c (.ptr 0 0 0), .c (.t (lF [[bF, l1, bF, l1, n64 1, n64 0, n64 0, n64 0, n64 0, n64 0, n64 0, n64 0]]))], [some (.var [.sl 1 0 1 false]), some (.rows 1 [[.v (.int .u8 0)]] true false)]⟩) (.h ⟨[], [some (.var [.sl 2 0 20 false]), none, some (.rows 1 [[.v (.int .u8 0)], [.v (.int .u8 1)], [.v (.int .u8 2)], [.v (.int .u8 0)], [.v (.int .u8 0)], [.v (.int .u8 0)], [.v (.int .u8 1)], [.v (.int .u8 2)], [.v (.int .u8 0)], [.v (.int .u8 0)], [.v (.int .u8 0)], [.v (.int .u8 1)], [.v (.int .u8 1)], [.v (.int .u8 0)], [.v (.int .u8 0)], [.v (.int .u8 0)], [.v (.int .u8 0)], [.v (.int .u8 0)], [.v (.int .u8 0)], [.v (.int .u8 0)]] true false)]⟩) := ex (.cons k116 .nil) (by kernel_rfl)
theorem k118 : Shows Try.prog 71 (.h ⟨[.c (.ptr 0 0 0), .c (.t (w64 0))], [some (.var [.sl 1 0 20 false]), some (.rows 1 [[.v (.int .u8 0)], [.v (.int .u8 1)], [.v (.int .u8 2)], [.v (.int .u8 0)], [.v (.int .u8 0)], [.v (.int .u8 0)], [.v (.int .u8 1)], [.v (.int .u8 2)], [.v (.int .u8 0)], [.v (.int .u8 0)], [.v (.int .u8 0)], [.v (.int .u8 1)], [.v (.int .u8 1)], [.v (.int .u8 0)], [.v (.int .u8 0)], [.v (.int .u8 0)], [.v (.int .u8 0)], [.v (.int .u8 0)], [.v (.int .u8 0)], [.v (.int .u8 0)]] true false)]⟩) (.h ⟨[], [some (.var [.sl 2 0 21 false]), none, some (.rows 1 [[.v (.int .u8 0)], [.v (.int .u8 1)], [.v (.int .u8 2)], [.v (.int .u8 0)], [.v (.int .u8 0)], [.v (.int .u8 0)], [.v (.int .u8 1)], [.v (.int .u8 2)], [.v (.int .u8 0)], [.v (.int .u8 0)], [.v (.int .u8 0)], [.v (.int .u8 1)], [.v (.int .u8 1)], [.v (.int .u8 0)], [.v (.int .u8 0)], [.v (.int .u8 0)], [.v (.int .u8 0)], [.v (.int .u8 0)], [.v (.int .u8 0)], [.v (.int .u8 0)], [.v (.int .u8 0)]] true false)]⟩) := ex (.nil) (by kernel_rfl)
theorem k119 : Shows Try.prog 74 (.h ⟨[.c (.ptr 0 0 0), .c (.t (lT [])), .c (.clo 1000000000075 [(0, (0, 0))])], [some (.var [.sl 1 0 20 false]), some (.rows 1 [[.v (.int .u8 0)], [.v (.int .u8 1)], [.v (.int .u8 2)], [.v (.int .u8 0)], [.v (.int .u8 0)], [.v (.int .u8 0)], [.v (.int .u8 1)], [.v (.int .u8 2)], [.v (.int .u8 0)], [.v (.int .u8 0)], [.v (.int .u8 0)], [.v (.int .u8 1)], [.v (.int .u8 1)], [.v (.int .u8 0)], [.v (.int .u8 0)], [.v (.int .u8 0)], [.v (.int .u8 0)], [.v (.int .u8 0)], [.v (.int .u8 0)], [.v (.int .u8 0)]] true false)]⟩) (.h ⟨[], [some (.var [.sl 2 0 21 false]), none, some (.rows 1 [[.v (.int .u8 0)], [.v (.int .u8 1)], [.v (.int .u8 2)], [.v (.int .u8 0)], [.v (.int .u8 0)], [.v (.int .u8 0)], [.v (.int .u8 1)], [.v (.int .u8 2)], [.v (.int .u8 0)], [.v (.int .u8 0)], [.v (.int .u8 0)], [.v (.int .u8 1)], [.v (.int .u8 1)], [.v (.int .u8 0)], [.v (.int .u8 0)], [.v (.int .u8 0)], [.v (.int .u8 0)], [.v (.int .u8 0)], [.v (.int .u8 0)], [.v (.int .u8 0)], [.v (.int .u8 0)]] true false)]⟩) := ex (.cons k118 .nil) (by kernel_rfl)
theorem k120 : Shows Try.prog 62 (.h ⟨[.c (.ptr 0 0 0), .c (.t (lT []))], [some (.var [.sl 1 0 20 false]), some (.rows 1 [[.v (.int .u8 0)], [.v (.int .u8 1)], [.v (.int .u8 2)], [.v (.int .u8 0)], [.v (.int .u8 0)], [.v (.int .u8 0)], [.v (.int .u8 1)], [.v (.int .u8 2)], [.v (.int .u8 0)], [.v (.int .u8 0)], [.v (.int .u8 0)], [.v (.int .u8 1)], [.v (.int .u8 1)], [.v (.int .u8 0)], [.v (.int .u8 0)], [.v (.int .u8 0)], [.v (.int .u8 0)], [.v (.int .u8 0)], [.v (.int .u8 0)], [.v (.int .u8 0)]] true false)]⟩) (.h ⟨[], [some (.var [.sl 2 0 21 false]), none, some (.rows 1 [[.v (.int .u8 0)], [.v (.int .u8 1)], [.v (.int .u8 2)], [.v (.int .u8 0)], [.v (.int .u8 0)], [.v (.int .u8 0)], [.v (.int .u8 1)], [.v (.int .u8 2)], [.v (.int .u8 0)], [.v (.int .u8 0)], [.v (.int .u8 0)], [.v (.int .u8 1)], [.v (.int .u8 1)], [.v (.int .u8 0)], [.v (.int .u8 0)], [.v (.int .u8 0)], [.v (.int .u8 0)], [.v (.int .u8 0)], [.v (.int .u8 0)], [.v (.int .u8 0)], [.v (.int .u8 0)]] true false)]⟩) := ex (.cons k119 .nil) (by kernel_rfl)
theorem k121 : Shows Try.prog 49 (.a [.val (.agg [n64 0, lF [[bF, l1, bF, l1, n64 1, n64 0, n64 0, n64 0, n64 0, n64 0, n64 0, n64 0]], lT []])]) (.a ⟨[.val (.c (.v (.string ⟨#[0, 1, 2, 0, 0, 0, 1, 2, 0, 0, 0, 1, 1, 0, 0, 0, 0, 0, 0, 0, 0]⟩)))], [none]⟩) := ex (.cons k48 (.cons k117 (.cons k120 .nil))) (by kernel_rfl)
theorem k122 : Shows Try.prog 35 (.a [.val (.c (lF [[bF, l1, bF, l1, n64 1, n64 0, n64 0, n64 0, n64 0, n64 0, n64 0, n64 0]]))]) (.a ⟨[.val (.c (.v (.string ⟨#[0, 1, 2, 0, 0, 0, 1, 2, 0, 0, 0, 1, 1, 0, 0, 0, 0, 0, 0, 0, 0]⟩)))], [none]⟩) := ex (.cons k121 .nil) (by kernel_rfl)
theorem k123 : Shows Try.prog 24 (.a [.val (.c (lF [[lF [[bF, l1, bF, l1, n64 0, n64 1, n64 0, n64 0, n64 0, n64 0, n64 0, n64 0]]], [lF [[bF, l1, bF, l1, n64 1, n64 0, n64 0, n64 0, n64 0, n64 0, n64 0, n64 0]]]])), .val (.c (lF [[lF [[bF, l1, bF, l1, n64 0, n64 1, n64 0, n64 0, n64 0, n64 0, n64 0, n64 0]]], [lF [[bF, l1, bF, l1, n64 1, n64 0, n64 0, n64 0, n64 0, n64 0, n64 0, n64 0], [bF, l1, bF, l1, n64 0, n64 1, n64 0, n64 0, n64 0, n64 0, n64 0, n64 0]]]]))]) (.a ⟨[.val (.c (lF [[n64 0], [n64 (-1)]]))], [none, none]⟩) := ex (.cons k70 (.cons k106 (.cons k122 .nil))) (by kernel_rfl)
theorem k124 : Shows Try.prog 11 (.a [.val (.agg [n64 2, lF [[lF [[bF, l1, bF, l1, n64 0, n64 1, n64 0, n64 0, n64 0, n64 0, n64 0, n64 0]]], [lF [[bF, l1, bF, l1, n64 1, n64 0, n64 0, n64 0, n64 0, n64 0, n64 0, n64 0]]]], lT [], n64 1, lF [[bF, l1, bF, l1, n64 2, n64 0, n64 0, n64 0, n64 0, n64 0, n64 0, n64 0]], n64 0, n64 0, n64 0, lT [], lT [], lT [], lT [], n64 0, lF [[lT []], [lF [[bF, l1, bF, l1, n64 1, n64 0, n64 0, n64 0, n64 0, n64 0, n64 0, n64 0]]]], lT [], lT [], lT [], lT [], lT [], n64 0, n64 0, n64 0, n64 0, n64 0, n64 0, n64 0, n64 0, lT [], lT [], lT [], lT [], lT [], lT [], lT [], lT [], lT [], lT [], lT [], lT [], lT []]), .val (.agg [n64 2, lF [[lF [[bF, l1, bF, l1, n64 0, n64 1, n64 0, n64 0, n64 0, n64 0, n64 0, n64 0]]], [lF [[bF, l1, bF, l1, n64 1, n64 0, n64 0, n64 0, n64 0, n64 0, n64 0, n64 0], [bF, l1, bF, l1, n64 0, n64 1, n64 0, n64 0, n64 0, n64 0, n64 0, n64 0]]]], lT []])]) (.a ⟨[.val (.agg [n64 0, lT [], lT [], n64 0, lT [], n64 0, n64 0, n64 0, lT [], lT [], lT [], lT [], n64 0, lT [], lT [], lT [], lT [], lT [], lT [], n64 0, n64 0, n64 0, n64 0, n64 0, n64 0, n64 0, n64 0, lT [], lT [], lT [], lT [], lT [], lT [], lT [], lT [], lT [], lT [], lT [], lT [], lT []]), .val (.c (bF))], [none, none]⟩) := ex (.cons k46 (.cons k42 (.cons k123 (.cons k45 .nil)))) (by kernel_rfl)
theorem k125 : Shows Try.prog 23 (.a [.val (.agg [n64 2, lF [[lF [[bF, l1, bF, l1, n64 0, n64 1, n64 0, n64 0, n64 0, n64 0, n64 0, n64 0]]], [lF [[bF, l1, bF, l1, n64 1, n64 0, n64 0, n64 0, n64 0, n64 0, n64 0, n64 0]]]], lT [], n64 1, lF [[bF, l1, bF, l1, n64 2, n64 0, n64 0, n64 0, n64 0, n64 0, n64 0, n64 0]], n64 0, n64 0, n64 0, lT [], lT [], lT [], lT [], n64 0, lF [[lT []], [lF [[bF, l1, bF, l1, n64 1, n64 0, n64 0, n64 0, n64 0, n64 0, n64 0, n64 0]]]], lT [], lT [], lT [], lT [], lT [], n64 0, n64 0, n64 0, n64 0, n64 0, n64 0, n64 0, n64 0, lT [], lT [], lT [], lT [], lT [], lT [], lT [], lT [], lT [], lT [], lT [], lT [], lT []]), .val (.agg [n64 2, lF [[lF [[bF, l1, bF, l1, n64 1, n64 0, n64 0, n64 0, n64 0, n64 0, n64 0, n64 0]]], [lF [[bF, l1, bF, l1, n64 1, n64 0, n64 0, n64 0, n64 0, n64 0, n64 0, n64 0], [bF, l1, bF, l1, n64 0, n64 1, n64 0, n64 0, n64 0, n64 0, n64 0, n64 0]]]], lF [[lF [[bF, l1, bF, l1, n64 0, n64 1, n64 0, n64 0, n64 0, n64 0, n64 0, n64 0]]]]])]) (.a ⟨[.val (.c (bT))], [none, none]⟩) := ex (.cons k42 .nil) (by kernel_rfl)
theorem k126 : Shows Try.prog 24 (.a [.val (.c (lF [[lF [[bF, l1, bF, l1, n64 0, n64 1, n64 0, n64 0, n64 0, n64 0, n64 0, n64 0]]], [lF [[bF, l1, bF, l1, n64 1, n64 0, n64 0, n64 0, n64 0, n64 0, n64 0, n64 0]]]])), .val (.c (lF [[lF [[bF, l1, bF, l1, n64 1, n64 0, n64 0, n64 0, n64 0, n64 0, n64 0, n64 0]]], [lF [[bF, l1, bF, l1, n64 1, n64 0, n64 0, n64 0, n64 0, n64 0, n64 0, n64 0], [bF, l1, bF, l1, n64 0, n64 1, n64 0, n64 0, n64 0, n64 0, n64 0, n64 0]]]]))]) (.a ⟨[.val (.c (lF [[n64 (-1)], [n64 0]]))], [none, none]⟩) := ex (.cons k122 (.cons k106 (.cons k70 .nil))) (by kernel_rfl)
theorem k127 : Shows Try.prog 25 (.a [.val (.c (lF [[lT []], [lF [[bF, l1, bF, l1, n64 1, n64 0, n64 0, n64 0, n64 0, n64 0, n64 0, n64 0]]]])), .val (.c (lF [[n64 (-1)], [n64 0]])), .val (.c (n64 2))]) (.a ⟨[.val (.c (lF [[lF [[bF, l1, bF, l1, n64 1, n64 0, n64 0, n64 0, n64 0, n64 0, n64 0, n64 0]]], [lT []]]))], [none, none, none]⟩) := ex (.nil) (by kernel_rfl)
theorem k128 : Shows Try.prog 11 (.a [.val (.agg [n64 2, lF [[lF [[bF, l1, bF, l1, n64 0, n64 1, n64 0, n64 0, n64 0, n64 0, n64 0, n64 0]]], [lF [[bF, l1, bF, l1, n64 1, n64 0, n64 0, n64 0, n64 0, n64 0, n64 0, n64 0]]]], lT [], n64 1, lF [[bF, l1, bF, l1, n64 2, n64 0, n64 0, n64 0, n64 0, n64 0, n64 0, n64 0]], n64 0, n64 0, n64 0, lT [], lT [], lT [], lT [], n64 0, lF [[lT []], [lF [[bF, l1, bF, l1, n64 1, n64 0, n64 0, n64 0, n64 0, n64 0, n64 0, n64 0]]]], lT [], lT [], lT [], lT [], lT [], n64 0, n64 0, n64 0, n64 0, n64 0, n64 0, n64 0, n64 0, lT [], lT [], lT [], lT [], lT [], lT [], lT [], lT [], lT [], lT [], lT [], lT [], lT []]), .val (.agg [n64 2, lF [[lF [[bF, l1, bF, l1, n64 1, n64 0, n64 0, n64 0, n64 0, n64 0, n64 0, n64 0]]], [lF [[bF, l1, bF, l1, n64 1, n64 0, n64 0, n64 0, n64 0, n64 0, n64 0, n64 0], [bF, l1, bF, l1, n64 0, n64 1, n64 0, n64 0, n64 0, n64 0, n64 0, n64 0]]]], lF [[lF [[bF, l1, bF, l1, n64 0, n64 1, n64 0, n64 0, n64 0, n64 0, n64 0, n64 0]]]]])]) (.a ⟨[.val (.agg [n64 2, lF [[lF [[bF, l1, bF, l1, n64 1, n64 0, n64 0, n64 0, n64 0, n64 0, n64 0, n64 0]]], [lF [[bF, l1, bF, l1, n64 1, n64 0, n64 0, n64 0, n64 0, n64 0, n64 0, n64 0], [bF, l1, bF, l1, n64 0, n64 1, n64 0, n64 0, n64 0, n64 0, n64 0, n64 0]]]], lF [[lF [[bF, l1, bF, l1, n64 0, n64 1, n64 0, n64 0, n64 0, n64 0, n64 0, n64 0]]]], n64 1, lF [[bF, l1, bF, l1, n64 2, n64 0, n64 0, n64 0, n64 0, n64 0, n64 0, n64 0]], n64 0, n64 0, n64 0, lT [], lT [], lT [], lT [], n64 0, lF [[lF [[bF, l1, bF, l1, n64 1, n64 0, n64 0, n64 0, n64 0, n64 0, n64 0, n64 0]]], [lT []]], lT [], lT [], lT [], lT [], lT [], n64 0, n64 0, n64 0, n64 0, n64 0, n64 0, n64 0, n64 0, lT [], lT [], lT [], lT [], lT [], lT [], lT [], lT [], lT [], lT [], lT [], lT [], lT []]), .val (.c (bT))], [none, none]⟩) := ex (.cons k125 (.cons k42 (.cons k126 (.cons k45 (.cons k127 .nil))))) (by kernel_rfl)
theorem k129 : Shows Try.prog 41 (.a [.val (.c (bT)), .val (.c (l1))]) (.a ⟨[.val (.agg [bT, l1])], [none, none]⟩) := ex (.cons k2 .nil) (by kernel_rfl)
theorem k130 : Shows Try.prog 33 (.a [.val (.c (n64 (-1)))]) (.a ⟨[.val (.agg [bT, l1])], [none]⟩) := ex (.cons k1 (.cons k129 .nil)) (by kernel_rfl)
theorem k131 : Shows Try.prog 21 (.a [.val (.c (n64 (-1)))]) (.a ⟨[.val (.agg [bT, l1, bF, l1])], [none]⟩) := ex (.cons k130 (.cons k4 .nil)) (by kernel_rfl)
theorem k132 : Shows Try.prog 32 (.a [.val (.agg [bT, l1])]) (.a ⟨[.val (.c (n64 (-1)))], [none]⟩) := ex (.nil) (by kernel_rfl)
theorem k133 : Shows Try.prog 19 (.a [.val (.agg [bT, l1, bF, l1])]) (.a ⟨[.val (.c (n64 (-1)))], [none]⟩) := ex (.cons k132 .nil) (by kernel_rfl)
theorem k134 : Shows Try.prog 63 (.a [.val (.agg [n64 0, n64 0, n64 0, n64 0, n64 0, n64 0, n64 0, n64 0])]) (.a ⟨[.val (.c (bT))], [none]⟩) := ex (.nil) (by kernel_rfl)
theorem k135 : Shows Try.prog 50 (.a [.val (.agg [n64 0, n64 0, n64 0, n64 0, n64 0, n64 0, n64 0, n64 0]), .val (.agg [n64 0, n64 0, n64 0, n64 0, n64 0, n64 0, n64 0, n64 0])]) (.a ⟨[.val (.agg [n64 0, n64 0, n64 0, n64 0, n64 0, n64 0, n64 0, n64 0]), .val (.c (n64 0))], [none, none]⟩) := ex (.cons k134 .nil) (by kernel_rfl)
theorem k136 : Shows Try.prog 31 (.a [.val (.agg [bT, l1]), .val (.agg [bF, l1])]) (.a ⟨[.val (.agg [bT, l1])], [none, none]⟩) := ex (.cons k14 (.cons k129 .nil)) (by kernel_rfl)
theorem k137 : Shows Try.prog 38 (.a [.val (.agg [bT, l1]), .val (.agg [bF, l1])]) (.a ⟨[.val (.agg [bF, l1])], [none, none]⟩) := ex (.cons k20 (.cons k3 .nil)) (by kernel_rfl)
theorem k138 : Shows Try.prog 54 (.a [.val (.agg [bT, l1]), .val (.agg [bF, l1])]) (.a ⟨[.val (.agg [bT, l1]), .val (.agg [bF, lF []]), .val (.c (n64 0))], [none, none]⟩) := ex (.cons k26 (.cons k129 (.cons k28 .nil))) (by kernel_rfl)
theorem k139 : Shows Try.prog 40 (.a [.val (.agg [bT, l1]), .val (.agg [bF, l1])]) (.a ⟨[.val (.agg [bT, l1])], [none, none]⟩) := ex (.cons k138 .nil) (by kernel_rfl)
theorem k140 : Shows Try.prog 29 (.a [.val (.agg [bT, l1]), .val (.agg [bF, l1])]) (.a ⟨[.val (.agg [bT, l1, bF, l1])], [none, none]⟩) := ex (.cons k137 (.cons k10 (.cons k139 (.cons k30 .nil)))) (by kernel_rfl)
theorem k141 : Shows Try.prog 51 (.a [.val (.agg [bT, l1, bF, l1]), .val (.agg [bF, l1, bF, l1])]) (.a ⟨[.val (.agg [bT, l1, bF, l1])], [none, none]⟩) := ex (.cons k136 (.cons k15 (.cons k140 .nil))) (by kernel_rfl)
theorem k142 : Shows Try.prog 36 (.a [.val (.agg [bT, l1, bF, l1]), .val (.agg [n64 0, n64 0, n64 0, n64 0, n64 0, n64 0, n64 0, n64 0]), .val (.c (lF [[bF, l1, bF, l1, n64 0, n64 0, n64 0, n64 0, n64 0, n64 0, n64 0, n64 0]]))]) (.a ⟨[.val (.c (lF [[bT, l1, bF, l1, n64 0, n64 0, n64 0, n64 0, n64 0, n64 0, n64 0, n64 0]])), .val (.c (n64 0))], [none, none, none]⟩) := ex (.cons k133 (.cons k135 (.cons k141 .nil))) (by kernel_rfl)
theorem k143 : Shows Try.prog 26 (.a [.val (.agg [bT, l1, bF, l1]), .val (.c (lF [[bF, l1, bF, l1, n64 0, n64 0, n64 0, n64 0, n64 0, n64 0, n64 0, n64 0]]))]) (.a ⟨[.val (.c (lF [[bT, l1, bF, l1, n64 0, n64 0, n64 0, n64 0, n64 0, n64 0, n64 0, n64 0]]))], [none, none]⟩) := ex (.cons k142 .nil) (by kernel_rfl)
theorem k144 : Shows Try.prog 17 (.a [.val (.agg [n64 0, n64 1, n64 0, n64 0, n64 0, n64 0, n64 0, n64 0]), .val (.agg [n64 0, n64 0, n64 0, n64 0, n64 0, n64 0, n64 0, n64 0])]) (.a ⟨[.val (.c (n64 1))], [none, none]⟩) := ex (.nil) (by kernel_rfl)
theorem k145 : Shows Try.prog 8 (.a [.val (.c (lF [[bF, l1, bF, l1, n64 0, n64 1, n64 0, n64 0, n64 0, n64 0, n64 0, n64 0]])), .val (.c (lF [[bT, l1, bF, l1, n64 0, n64 0, n64 0, n64 0, n64 0, n64 0, n64 0, n64 0]]))]) (.a ⟨[.val (.c (lF [[bF, l1, bF, l1, n64 0, n64 1, n64 0, n64 0, n64 0, n64 0, n64 0, n64 0], [bT, l1, bF, l1, n64 0, n64 0, n64 0, n64 0, n64 0, n64 0, n64 0, n64 0]]))], [none, none]⟩) := ex (.cons k144 .nil) (by kernel_rfl)
theorem k146 : Shows Try.prog 12 (.a [.val (.c (lF [[bF, l1, bF, l1, n64 0, n64 1, n64 0, n64 0, n64 0, n64 0, n64 0, n64 0]])), .val (.c (lF [[bF, l1, bF, l1, n64 0, n64 0, n64 0, n64 0, n64 0, n64 0, n64 0, n64 0]]))]) (.a ⟨[.val (.c (lF [[bF, l1, bF, l1, n64 0, n64 1, n64 0, n64 0, n64 0, n64 0, n64 0, n64 0], [bT, l1, bF, l1, n64 0, n64 0, n64 0, n64 0, n64 0, n64 0, n64 0, n64 0]]))], [none, none]⟩) := ex (.cons k131 (.cons k143 (.cons k145 .nil))) (by kernel_rfl)
theorem k147 : Shows Try.prog 23 (.a [.val (.agg [n64 2, lF [[lF [[bF, l1, bF, l1, n64 0, n64 1, n64 0, n64 0, n64 0, n64 0, n64 0, n64 0]]], [lF [[bF, l1, bF, l1, n64 1, n64 0, n64 0, n64 0, n64 0, n64 0, n64 0, n64 0]]]], lT [], n64 1, lF [[bF, l1, bF, l1, n64 2, n64 0, n64 0, n64 0, n64 0, n64 0, n64 0, n64 0]], n64 0, n64 0, n64 0, lT [], lT [], lT [], lT [], n64 0, lF [[lT []], [lF [[bF, l1, bF, l1, n64 1, n64 0, n64 0, n64 0, n64 0, n64 0, n64 0, n64 0]]]], lT [], lT [], lT [], lT [], lT [], n64 0, n64 0, n64 0, n64 0, n64 0, n64 0, n64 0, n64 0, lT [], lT [], lT [], lT [], lT [], lT [], lT [], lT [], lT [], lT [], lT [], lT [], lT []]), .val (.agg [n64 2, lF [[lF [[bF, l1, bF, l1, n64 0, n64 1, n64 0, n64 0, n64 0, n64 0, n64 0, n64 0]]], [lF [[bF, l1, bF, l1, n64 0, n64 1, n64 0, n64 0, n64 0, n64 0, n64 0, n64 0], [bT, l1, bF, l1, n64 0, n64 0, n64 0, n64 0, n64 0, n64 0, n64 0, n64 0]]], [lF [[bF, l1, bF, l1, n64 1, n64 0, n64 0, n64 0, n64 0, n64 0, n64 0, n64 0]]]], lT []])]) (.a ⟨[.val (.c (bT))], [none, none]⟩) := ex (.cons k42 .nil) (by kernel_rfl)
theorem k148 : Shows Try.prog 71 (.h ⟨[.c (.ptr 0 0 0), .c (.t (w64 0))], [some (.var [.sl 1 0 12 false]), some (.rows 1 [[.v (.int .u8 0)], [.v (.int .u8 2)], [.v (.int .u8 2)], [.v (.int .u8 0)], [.v (.int .u8 0)], [.v (.int .u8 0)], [.v (.int .u8 1)], [.v (.int .u8 2)], [.v (.int .u8 0)], [.v (.int .u8 0)], [.v (.int .u8 0)], [.v (.int .u8 1)]] true false)]⟩) (.h ⟨[], [some (.var [.sl 2 0 13 false]), none, some (.rows 1 [[.v (.int .u8 0)], [.v (.int .u8 2)], [.v (.int .u8 2)], [.v (.int .u8 0)], [.v (.int .u8 0)], [.v (.int .u8 0)], [.v (.int .u8 1)], [.v (.int .u8 2)], [.v (.int .u8 0)], [.v (.int .u8 0)], [.v (.int .u8 0)], [.v (.int .u8 1)], [.v (.int .u8 0)]] true false)]⟩) := ex (.nil) (by kernel_rfl)
theorem k149 : Shows Try.prog 71 (.h ⟨[.c (.ptr 0 0 0), .c (.t (w64 1))], [some (.var [.sl 1 0 13 false]), some (.rows 1 [[.v (.int .u8 0)], [.v (.int .u8 2)], [.v (.int .u8 2)], [.v (.int .u8 0)], [.v (.int .u8 0)], [.v (.int .u8 0)], [.v (.int .u8 1)], [.v (.int .u8 2)], [.v (.int .u8 0)], [.v (.int .u8 0)], [.v (.int .u8 0)], [.v (.int .u8 1)], [.v (.int .u8 0)]] true false)]⟩) (.h ⟨[], [some (.var [.sl 2 0 14 false]), none, some (.rows 1 [[.v (.int .u8 0)], [.v (.int .u8 2)], [.v (.int .u8 2)], [.v (.int .u8 0)], [.v (.int .u8 0)], [.v (.int .u8 0)], [.v (.int .u8 1)], [.v (.int .u8 2)], [.v (.int .u8 0)], [.v (.int .u8 0)], [.v (.int .u8 0)], [.v (.int .u8 1)], [.v (.int .u8 0)], [.v (.int .u8 1)]] true false)]⟩) := ex (.nil) (by kernel_rfl)
theorem k150 : Shows Try.prog 71 (.h ⟨[.c (.ptr 0 0 0), .c (.t (w64 0))], [some (.var [.sl 1 0 14 false]), some (.rows 1 [[.v (.int .u8 0)], [.v (.int .u8 2)], [.v (.int .u8 2)], [.v (.int .u8 0)], [.v (.int .u8 0)], [.v (.int .u8 0)], [.v (.int .u8 1)], [.v (.int .u8 2)], [.v (.int .u8 0)], [.v (.int .u8 0)], [.v (.int .u8 0)], [.v (.int .u8 1)], [.v (.int .u8 0)], [.v (.int .u8 1)]] true false)]⟩) (.h ⟨[], [some (.var [.sl 2 0 15 false]), none, some (.rows 1 [[.v (.int .u8 0)], [.v (.int .u8 2)], [.v (.int .u8 2)], [.v (.int .u8 0)], [.v (.int .u8 0)], [.v (.int .u8 0)], [.v (.int .u8 1)], [.v (.int .u8 2)], [.v (.int .u8 0)], [.v (.int .u8 0)], [.v (.int .u8 0)], [.v (.int .u8 1)], [.v (.int .u8 0)], [.v (.int .u8 1)], [.v (.int .u8 0)]] true false)]⟩) := ex (.nil) (by kernel_rfl)
theorem k151 : Shows Try.prog 71 (.h ⟨[.c (.ptr 0 0 0), .c (.t (w64 0))], [some (.var [.sl 1 0 15 false]), some (.rows 1 [[.v (.int .u8 0)], [.v (.int .u8 2)], [.v (.int .u8 2)], [.v (.int .u8 0)], [.v (.int .u8 0)], [.v (.int .u8 0)], [.v (.int .u8 1)], [.v (.int .u8 2)], [.v (.int .u8 0)], [.v (.int .u8 0)], [.v (.int .u8 0)], [.v (.int .u8 1)], [.v (.int .u8 0)], [.v (.int .u8 1)], [.v (.int .u8 0)]] true false)]⟩) (.h ⟨[], [some (.var [.sl 2 0 16 false]), none, some (.rows 1 [[.v (.int .u8 0)], [.v (.int .u8 2)], [.v (.int .u8 2)], [.v (.int .u8 0)], [.v (.int .u8 0)], [.v (.int .u8 0)], [.v (.int .u8 1)], [.v (.int .u8 2)], [.v (.int .u8 0)], [.v (.int .u8 0)], [.v (.int .u8 0)], [.v (.int .u8 1)], [.v (.int .u8 0)], [.v (.int .u8 1)], [.v (.int .u8 0)], [.v (.int .u8 0)]] true false)]⟩) := ex (.nil) (by kernel_rfl)
theorem k152 : Shows Try.prog 71 (.h ⟨[.c (.ptr 0 0 0), .c (.t (w64 0))], [some (.var [.sl 1 0 16 false]), some (.rows 1 [[.v (.int .u8 0)], [.v (.int .u8 2)], [.v (.int .u8 2)], [.v (.int .u8 0)], [.v (.int .u8 0)], [.v (.int .u8 0)], [.v (.int .u8 1)], [.v (.int .u8 2)], [.v (.int .u8 0)], [.v (.int .u8 0)], [.v (.int .u8 0)], [.v (.int .u8 1)], [.v (.int .u8 0)], [.v (.int .u8 1)], [.v (.int .u8 0)], [.v (.int .u8 0)]] true false)]⟩) (.h ⟨[], [some (.var [.sl 2 0 17 false]), none, some (.rows 1 [[.v (.int .u8 0)], [.v (.int .u8 2)], [.v (.int .u8 2)], [.v (.int .u8 0)], [.v (.int .u8 0)], [.v (.int .u8 0)], [.v (.int .u8 1)], [.v (.int .u8 2)], [.v (.int .u8 0)], [.v (.int .u8 0)], [.v (.int .u8 0)], [.v (.int .u8 1)], [.v (.int .u8 0)], [.v (.int .u8 1)], [.v (.int .u8 0)], [.v (.int .u8 0)], [.v (.int .u8 0)]] true false)]⟩) := ex (.nil) (by kernel_rfl)
theorem k153 : Shows Try.prog 71 (.h ⟨[.c (.ptr 0 0 0), .c (.t (w64 0))], [some (.var [.sl 1 0 17 false]), some (.rows 1 [[.v (.int .u8 0)], [.v (.int .u8 2)], [.v (.int .u8 2)], [.v (.int .u8 0)], [.v (.int .u8 0)], [.v (.int .u8 0)], [.v (.int .u8 1)], [.v (.int .u8 2)], [.v (.int .u8 0)], [.v (.int .u8 0)], [.v (.int .u8 0)], [.v (.int .u8 1)], [.v (.int .u8 0)], [.v (.int .u8 1)], [.v (.int .u8 0)], [.v (.int .u8 0)], [.v (.int .u8 0)]] true false)]⟩) (.h ⟨[], [some (.var [.sl 2 0 18 false]), none, some (.rows 1 [[.v (.int .u8 0)], [.v (.int .u8 2)], [.v (.int .u8 2)], [.v (.int .u8 0)], [.v (.int .u8 0)], [.v (.int .u8 0)], [.v (.int .u8 1)], [.v (.int .u8 2)], [.v (.int .u8 0)], [.v (.int .u8 0)], [.v (.int .u8 0)], [.v (.int .u8 1)], [.v (.int .u8 0)], [.v (.int .u8 1)], [.v (.int .u8 0)], [.v (.int .u8 0)], [.v (.int .u8 0)], [.v (.int .u8 0)]] true false)]⟩) := ex (.nil) (by kernel_rfl)
theorem k154 : Shows Try.prog 71 (.h ⟨[.c (.ptr 0 0 0), .c (.t (w64 0))], [some (.var [.sl 1 0 18 false]), some (.rows 1 [[.v (.int .u8 0)], [.v (.int .u8 2)], [.v (.int .u8 2)], [.v (.int .u8 0)], [.v (.int .u8 0)], [.v (.int .u8 0)], [.v (.int .u8 1)], [.v (.int .u8 2)], [.v (.int .u8 0)], [.v (.int .u8 0)], [.v (.int .u8 0)], [.v (.int .u8 1)], [.v (.int .u8 0)], [.v (.int .u8 1)], [.v (.int .u8 0)], [.v (.int .u8 0)], [.v (.int .u8 0)], [.v (.int .u8 0)]] true false)]⟩) (.h ⟨[], [some (.var [.sl 2 0 19 false]), none, some (.rows 1 [[.v (.int .u8 0)], [.v (.int .u8 2)], [.v (.int .u8 2)], [.v (.int .u8 0)], [.v (.int .u8 0)], [.v (.int .u8 0)], [.v (.int .u8 1)], [.v (.int .u8 2)], [.v (.int .u8 0)], [.v (.int .u8 0)], [.v (.int .u8 0)], [.v (.int .u8 1)], [.v (.int .u8 0)], [.v (.int .u8 1)], [.v (.int .u8 0)], [.v (.int .u8 0)], [.v (.int .u8 0)], [.v (.int .u8 0)], [.v (.int .u8 0)]] true false)]⟩) := ex (.nil) (by kernel_rfl)
theorem k155 : Shows Try.prog 71 (.h ⟨[.c (.ptr 0 0 0), .c (.t (w64 0))], [some (.var [.sl 1 0 19 false]), some (.rows 1 [[.v (.int .u8 0)], [.v (.int .u8 2)], [.v (.int .u8 2)], [.v (.int .u8 0)], [.v (.int .u8 0)], [.v (.int .u8 0)], [.v (.int .u8 1)], [.v (.int .u8 2)], [.v (.int .u8 0)], [.v (.int .u8 0)], [.v (.int .u8 0)], [.v (.int .u8 1)], [.v (.int .u8 0)], [.v (.int .u8 1)], [.v (.int .u8 0)], [.v (.int .u8 0)], [.v (.int .u8 0)], [.v (.int .u8 0)], [.v (.int .u8 0)]] true false)]⟩) (.h ⟨[], [some (.var [.sl 2 0 20 false]), none, some (.rows 1 [[.v (.int .u8 0)], [.v (.int .u8 2)], [.v (.int .u8 2)], [.v (.int .u8 0)], [.v (.int .u8 0)], [.v (.int .u8 0)], [.v (.int .u8 1)], [.v (.int .u8 2)], [.v (.int .u8 0)], [.v (.int .u8 0)], [.v (.int .u8 0)], [.v (.int .u8 1)], [.v (.int .u8 0)], [.v (.int .u8 1)], [.v (.int .u8 0)], [.v (.int .u8 0)], [.v (.int .u8 0)], [.v (.int .u8 0)], [.v (.int .u8 0)], [.v (.int .u8 0)]] true false)]⟩) := ex (.nil) (by kernel_rfl)
theorem k156 : Shows Try.prog 73 (.h ⟨[.c (.ptr 0 0 0), .agg [.t (bF), .t (l1), .t (bF), .t (l1), .t (n64 0), .t (n64 1), .t (n64 0), .t (n64 0), .t (n64 0), .t (n64 0), .t (n64 0), .t (n64 0)]], [some (.var [.sl 1 0 2 false]), some (.rows 1 [[.v (.int .u8 0)], [.v (.int .u8 2)]] true false)]⟩) (.h ⟨[], [some (.var [.sl 2 0 20 false]), none, some (.rows 1 [[.v (.int .u8 0)], [.v (.int .u8 2)], [.v (.int .u8 2)], [.v (.int .u8 0)], [.v (.int .u8 0)], [.v (.int .u8 0)], [.v (.int .u8 1)], [.v (.int .u8 2)], [.v (.int .u8 0)], [.v (.int .u8 0)], [.v (.int .u8 0)], [.v (.int .u8 1)], [.v (.int .u8 0)], [.v (.int .u8 1)], [.v (.int .u8 0)], [.v (.int .u8 0)], [.v (.int .u8 0)], [.v (.int .u8 0)], [.v (.int .u8 0)], [.v (.int .u8 0)]] true false)]⟩) := ex (.cons k76 (.cons k148 (.cons k149 (.cons k150 (.cons k151 (.cons k152 (.cons k153 (.cons k154 (.cons k155 .nil))))))))) (by kernel_rfl)
theorem k157 : Shows Try.prog 71 (.h ⟨[.c (.ptr 0 0 0), .c (.t (w64 3))], [some (.var [.sl 1 0 20 false]), some (.rows 1 [[.v (.int .u8 0)], [.v (.int .u8 2)], [.v (.int .u8 2)], [.v (.int .u8 0)], [.v (.int .u8 0)], [.v (.int .u8 0)], [.v (.int .u8 1)], [.v (.int .u8 2)], [.v (.int .u8 0)], [.v (.int .u8 0)], [.v (.int .u8 0)], [.v (.int .u8 1)], [.v (.int .u8 0)], [.v (.int .u8 1)], [.v (.int .u8 0)], [.v (.int .u8 0)], [.v (.int .u8 0)], [.v (.int .u8 0)], [.v (.int .u8 0)], [.v (.int .u8 0)]] true false)]⟩) (.h ⟨[], [some (.var [.sl 2 0 21 false]), none, some (.rows 1 [[.v (.int .u8 0)], [.v (.int .u8 2)], [.v (.int .u8 2)], [.v (.int .u8 0)], [.v (.int .u8 0)], [.v (.int .u8 0)], [.v (.int .u8 1)], [.v (.int .u8 2)], [.v (.int .u8 0)], [.v (.int .u8 0)], [.v (.int .u8 0)], [.v (.int .u8 1)], [.v (.int .u8 0)], [.v (.int .u8 1)], [.v (.int .u8 0)], [.v (.int .u8 0)], [.v (.int .u8 0)], [.v (.int .u8 0)], [.v (.int .u8 0)], [.v (.int .u8 0)], [.v (.int .u8 3)]] true false)]⟩) := ex (.nil) (by kernel_rfl)
theorem k158 : Shows Try.prog 89 (.h ⟨[.c (.ptr 0 0 0), .agg [.t (bT), .t (l1)]], [some (.var [.sl 1 0 20 false]), some (.rows 1 [[.v (.int .u8 0)], [.v (.int .u8 2)], [.v (.int .u8 2)], [.v (.int .u8 0)], [.v (.int .u8 0)], [.v (.int .u8 0)], [.v (.int .u8 1)], [.v (.int .u8 2)], [.v (.int .u8 0)], [.v (.int .u8 0)], [.v (.int .u8 0)], [.v (.int .u8 1)], [.v (.int .u8 0)], [.v (.int .u8 1)], [.v (.int .u8 0)], [.v (.int .u8 0)], [.v (.int .u8 0)], [.v (.int .u8 0)], [.v (.int .u8 0)], [.v (.int .u8 0)]] true false)]⟩) (.h ⟨[], [some (.var [.sl 2 0 25 false]), none, some (.rows 1 [[.v (.int .u8 0)], [.v (.int .u8 2)], [.v (.int .u8 2)], [.v (.int .u8 0)], [.v (.int .u8 0)], [.v (.int .u8 0)], [.v (.int .u8 1)], [.v (.int .u8 2)], [.v (.int .u8 0)], [.v (.int .u8 0)], [.v (.int .u8 0)], [.v (.int .u8 1)], [.v (.int .u8 0)], [.v (.int .u8 1)], [.v (.int .u8 0)], [.v (.int .u8 0)], [.v (.int .u8 0)], [.v (.int .u8 0)], [.v (.int .u8 0)], [.v (.int .u8 0)], [.v (.int .u8 3)], [.v (.int .u8 0)], [.v (.int .u8 0)], [.v (.int .u8 0)], [.v (.int .u8 1)]] true false)]⟩) := ex (.cons k157 .nil) (by kernel_rfl)
theorem k159 : Shows Try.prog 71 (.h ⟨[.c (.ptr 0 0 0), .c (.t (w64 2))], [some (.var [.sl 1 0 25 false]), some (.rows 1 [[.v (.int .u8 0)], [.v (.int .u8 2)], [.v (.int .u8 2)], [.v (.int .u8 0)], [.v (.int .u8 0)], [.v (.int .u8 0)], [.v (.int .u8 1)], [.v (.int .u8 2)], [.v (.int .u8 0)], [.v (.int .u8 0)], [.v (.int .u8 0)], [.v (.int .u8 1)], [.v (.int .u8 0)], [.v (.int .u8 1)], [.v (.int .u8 0)], [.v (.int .u8 0)], [.v (.int .u8 0)], [.v (.int .u8 0)], [.v (.int .u8 0)], [.v (.int .u8 0)], [.v (.int .u8 3)], [.v (.int .u8 0)], [.v (.int .u8 0)], [.v (.int .u8 0)], [.v (.int .u8 1)]] true false)]⟩) (.h ⟨[], [some (.var [.sl 2 0 26 false]), none, some (.rows 1 [[.v (.int .u8 0)], [.v (.int .u8 2)], [.v (.int .u8 2)], [.v (.int .u8 0)], [.v (.int .u8 0)], [.v (.int .u8 0)], [.v (.int .u8 1)], [.v (.int .u8 2)], [.v (.int .u8 0)], [.v (.int .u8 0)], [.v (.int .u8 0)], [.v (.int .u8 1)], [.v (.int .u8 0)], [.v (.int .u8 1)], [.v (.int .u8 0)], [.v (.int .u8 0)], [.v (.int .u8 0)], [.v (.int .u8 0)], [.v (.int .u8 0)], [.v (.int .u8 0)], [.v (.int .u8 3)], [.v (.int .u8 0)], [.v (.int .u8 0)], [.v (.int .u8 0)], [.v (.int .u8 1)], [.v (.int .u8 2)]] true false)]⟩) := ex (.nil) (by kernel_rfl)
theorem k160 : Shows Try.prog 89 (.h ⟨[.c (.ptr 0 0 0), .agg [.t (bF), .t (l1)]], [some (.var [.sl 1 0 25 false]), some (.rows 1 [[.v (.int .u8 0)], [.v (.int .u8 2)], [.v (.int .u8 2)], [.v (.int .u8 0)], [.v (.int .u8 0)], [.v (.int .u8 0)], [.v (.int .u8 1)], [.v (.int .u8 2)], [.v (.int .u8 0)], [.v (.int .u8 0)], [.v (.int .u8 0)], [.v (.int .u8 1)], [.v (.int .u8 0)], [.v (.int .u8 1)], [.v (.int .u8 0)], [.v (.int .u8 0)], [.v (.int .u8 0)], [.v (.int .u8 0)], [.v (.int .u8 0)], [.v (.int .u8 0)], [.v (.int .u8 3)], [.v (.int .u8 0)], [.v (.int .u8 0)], [.v (.int .u8 0)], [.v (.int .u8 1)]] true false)]⟩) (.h ⟨[], [some (.var [.sl 2 0 30 false]), none, some (.rows 1 [[.v (.int .u8 0)], [.v (.int .u8 2)], [.v (.int .u8 2)], [.v (.int .u8 0)], [.v (.int .u8 0)], [.v (.int .u8 0)], [.v (.int .u8 1)], [.v (.int .u8 2)], [.v (.int .u8 0)], [.v (.int .u8 0)], [.v (.int .u8 0)], [.v (.int .u8 1)], [.v (.int .u8 0)], [.v (.int .u8 1)], [.v (.int .u8 0)], [.v (.int .u8 0)], [.v (.int .u8 0)], [.v (.int .u8 0)], [.v (.int .u8 0)], [.v (.int .u8 0)], [.v (.int .u8 3)], [.v (.int .u8 0)], [.v (.int .u8 0)], [.v (.int .u8 0)], [.v (.int .u8 1)], [.v (.int .u8 2)], [.v (.int .u8 0)], [.v (.int .u8 0)], [.v (.int .u8 0)], [.v (.int .u8 1)]] true false)]⟩) := ex (.cons k159 .nil) (by kernel_rfl)
theorem k161 : Shows Try.prog 85 (.h ⟨[.c (.ptr 0 0 0), .agg [.t (bT), .t (l1), .t (bF), .t (l1)]], [some (.var [.sl 1 0 20 false]), some (.rows 1 [[.v (.int .u8 0)], [.v (.int .u8 2)], [.v (.int .u8 2)], [.v (.int .u8 0)], [.v (.int .u8 0)], [.v (.int .u8 0)], [.v (.int .u8 1)], [.v (.int .u8 2)], [.v (.int .u8 0)], [.v (.int .u8 0)], [.v (.int .u8 0)], [.v (.int .u8 1)], [.v (.int .u8 0)], [.v (.int .u8 1)], [.v (.int .u8 0)], [.v (.int .u8 0)], [.v (.int .u8 0)], [.v (.int .u8 0)], [.v (.int .u8 0)], [.v (.int .u8 0)]] true false)]⟩) (.h ⟨[], [some (.var [.sl 2 0 30 false]), none, some (.rows 1 [[.v (.int .u8 0)], [.v (.int .u8 2)], [.v (.int .u8 2)], [.v (.int .u8 0)], [.v (.int .u8 0)], [.v (.int .u8 0)], [.v (.int .u8 1)], [.v (.int .u8 2)], [.v (.int .u8 0)], [.v (.int .u8 0)], [.v (.int .u8 0)], [.v (.int .u8 1)], [.v (.int .u8 0)], [.v (.int .u8 1)], [.v (.int .u8 0)], [.v (.int .u8 0)], [.v (.int .u8 0)], [.v (.int .u8 0)], [.v (.int .u8 0)], [.v (.int .u8 0)], [.v (.int .u8 3)], [.v (.int .u8 0)], [.v (.int .u8 0)], [.v (.int .u8 0)], [.v (.int .u8 1)], [.v (.int .u8 2)], [.v (.int .u8 0)], [.v (.int .u8 0)], [.v (.int .u8 0)], [.v (.int .u8 1)]] true false)]⟩) := ex (.cons k158 (.cons k160 .nil)) (by kernel_rfl)
theorem k162 : Shows Try.prog 71 (.h ⟨[.c (.ptr 0 0 0), .c (.t (w64 0))], [some (.var [.sl 1 0 30 false]), some (.rows 1 [[.v (.int .u8 0)], [.v (.int .u8 2)], [.v (.int .u8 2)], [.v (.int .u8 0)], [.v (.int .u8 0)], [.v (.int .u8 0)], [.v (.int .u8 1)], [.v (.int .u8 2)], [.v (.int .u8 0)], [.v (.int .u8 0)], [.v (.int .u8 0)], [.v (.int .u8 1)], [.v (.int .u8 0)], [.v (.int .u8 1)], [.v (.int .u8 0)], [.v (.int .u8 0)], [.v (.int .u8 0)], [.v (.int .u8 0)], [.v (.int .u8 0)], [.v (.int .u8 0)], [.v (.int .u8 3)], [.v (.int .u8 0)], [.v (.int .u8 0)], [.v (.int .u8 0)], [.v (.int .u8 1)], [.v (.int .u8 2)], [.v (.int .u8 0)], [.v (.int .u8 0)], [.v (.int .u8 0)], [.v (.int .u8 1)]] true false)]⟩) (.h ⟨[], [some (.var [.sl 2 0 31 false]), none, some (.rows 1 [[.v (.int .u8 0)], [.v (.int .u8 2)], [.v (.int .u8 2)], [.v (.int .u8 0)], [.v (.int .u8 0)], [.v (.int .u8 0)], [.v (.int .u8 1)], [.v (.int .u8 2)], [.v (.int .u8 0)], [.v (.int .u8 0)], [.v (.int .u8 0)], [.v (.int .u8 1)], [.v (.int .u8 0)], [.v (.int .u8 1)], [.v (.int .u8 0)], [.v (.int .u8 0)], [.v (.int .u8 0)], [.v (.int .u8 0)], [.v (.int .u8 0)], [.v (.int .u8 0)], [.v (.int .u8 3)], [.v (.int .u8 0)], [.v (.int .u8 0)], [.v (.int .u8 0)], [.v (.int .u8 1)], [.v (.int .u8 2)], [.v (.int .u8 0)], [.v (.int .u8 0)], [.v (.int .u8 0)], [.v (.int .u8 1)], [.v (.int .u8 0)]] true false)]⟩) := ex (.nil) (by kernel_rfl)
theorem k163 : Shows Try.prog 71 (.h ⟨[.c (.ptr 0 0 0), .c (.t (w64 0))], [some (.var [.sl 1 0 31 false]), some (.rows 1 [[.v (.int .u8 0)], [.v (.int .u8 2)], [.v (.int .u8 2)], [.v (.int .u8 0)], [.v (.int .u8 0)], [.v (.int .u8 0)], [.v (.int .u8 1)], [.v (.int .u8 2)], [.v (.int .u8 0)], [.v (.int .u8 0)], [.v (.int .u8 0)], [.v (.int .u8 1)], [.v (.int .u8 0)], [.v (.int .u8 1)], [.v (.int .u8 0)], [.v (.int .u8 0)], [.v (.int .u8 0)], [.v (.int .u8 0)], [.v (.int .u8 0)], [.v (.int .u8 0)], [.v (.int .u8 3)], [.v (.int .u8 0)], [.v (.int .u8 0)], [.v (.int .u8 0)], [.v (.int .u8 1)], [.v (.int .u8 2)], [.v (.int .u8 0)], [.v (.int .u8 0)], [.v (.int .u8 0)], [.v (.int .u8 1)], [.v (.int .u8 0)]] true false)]⟩) (.h ⟨[], [some (.var [.sl 2 0 32 false]), none, some (.rows 1 [[.v (.int .u8 0)], [.v (.int .u8 2)], [.v (.int .u8 2)], [.v (.int .u8 0)], [.v (.int .u8 0)], [.v (.int .u8 0)], [.v (.int .u8 1)], [.v (.int .u8 2)], [.v (.int .u8 0)], [.v (.int .u8 0)], [.v (.int .u8 0)], [.v (.int .u8 1)], [.v (.int .u8 0)], [.v (.int .u8 1)], [.v (.int .u8 0)], [.v (.int .u8 0)], [.v (.int .u8 0)], [.v (.int .u8 0)], [.v (.int .u8 0)], [.v (.int .u8 0)], [.v (.int .u8 3)], [.v (.int .u8 0)], [.v (.int .u8 0)], [.v (.int .u8 0)], [.v (.int .u8 1)], [.v (.int .u8 2)], [.v (.int .u8 0)], [.v (.int .u8 0)], [.v (.int .u8 0)], [.v (.int .u8 1)], [.v (.int .u8 0)], [.v (.int .u8 0)]] true false)]⟩) := ex (.nil) (by kernel_rfl)
theorem k164 : Shows Try.prog 71 (.h ⟨[.c (.ptr 0 0 0), .c (.t (w64 0))], [some (.var [.sl 1 0 32 false]), some (.rows 1 [[.v (.int .u8 0)], [.v (.int .u8 2)], [.v (.int .u8 2)], [.v (.int .u8 0)], [.v (.int .u8 0)], [.v (.int .u8 0)], [.v (.int .u8 1)], [.v (.int .u8 2)], [.v (.int .u8 0)], [.v (.int .u8 0)], [.v (.int .u8 0)], [.v (.int .u8 1)], [.v (.int .u8 0)], [.v (.int .u8 1)], [.v (.int .u8 0)], [.v (.int .u8 0)], [.v (.int .u8 0)], [.v (.int .u8 0)], [.v (.int .u8 0)], [.v (.int .u8 0)], [.v (.int .u8 3)], [.v (.int .u8 0)], [.v (.int .u8 0)], [.v (.int .u8 0)], [.v (.int .u8 1)], [.v (.int .u8 2)], [.v (.int .u8 0)], [.v (.int .u8 0)], [.v (.int .u8 0)], [.v (.int .u8 1)], [.v (.int .u8 0)], [.v (.int .u8 0)]] true false)]⟩) (.h ⟨[], [some (.var [.sl 2 0 33 false]), none, some (.rows 1 [[.v (.int .u8 0)], [.v (.int .u8 2)], [.v (.int .u8 2)], [.v (.int .u8 0)], [.v (.int .u8 0)], [.v (.int .u8 0)], [.v (.int .u8 1)], [.v (.int .u8 2)], [.v (.int .u8 0)], [.v (.int .u8 0)], [.v (.int .u8 0)], [.v (.int .u8 1)], [.v (.int .u8 0)], [.v (.int .u8 1)], [.v (.int .u8 0)], [.v (.int .u8 0)], [.v (.int .u8 0)], [.v (.int .u8 0)], [.v (.int .u8 0)], [.v (.int .u8 0)], [.v (.int .u8 3)], [.v (.int .u8 0)], [.v (.int .u8 0)], [.v (.int .u8 0)], [.v (.int .u8 1)], [.v (.int .u8 2)], [.v (.int .u8 0)], [.v (.int .u8 0)], [.v (.int .u8 0)], [.v (.int .u8 1)], [.v (.int .u8 0)], [.v (.int .u8 0)], [.v (.int .u8 0)]] true false)]⟩) := ex (.nil) (by kernel_rfl)
theorem k165 : Shows Try.prog 71 (.h ⟨[.c (.ptr 0 0 0), .c (.t (w64 0))], [some (.var [.sl 1 0 33 false]), some (.rows 1 [[.v (.int .u8 0)], [.v (.int .u8 2)], [.v (.int .u8 2)], [.v (.int .u8 0)], [.v (.int .u8 0)], [.v (.int .u8 0)], [.v (.int .u8 1)], [.v (.int .u8 2)], [.v (.int .u8 0)], [.v (.int .u8 0)], [.v (.int .u8 0)], [.v (.int .u8 1)], [.v (.int .u8 0)], [.v (.int .u8 1)], [.v (.int .u8 0)], [.v (.int .u8 0)], [.v (.int .u8 0)], [.v (.int .u8 0)], [.v (.int .u8 0)], [.v (.int .u8 0)], [.v (.int .u8 3)], [.v (.int .u8 0)], [.v (.int .u8 0)], [.v (.int .u8 0)], [.v (.int .u8 1)], [.v (.int .u8 2)], [.v (.int .u8 0)], [.v (.int .u8 0)], [.v (.int .u8 0)], [.v (.int .u8 1)], [.v (.int .u8 0)], [.v (.int .u8 0)], [.v (.int .u8 0)]] true false)]⟩) (.h ⟨[], [some (.var [.sl 2 0 34 false]), none, some (.rows 1 [[.v (.int .u8 0)], [.v (.int .u8 2)], [.v (.int .u8 2)], [.v (.int .u8 0)], [.v (.int .u8 0)], [.v (.int .u8 0)], [.v (.int .u8 1)], [.v (.int .u8 2)], [.v (.int .u8 0)], [.v (.int .u8 0)], [.v (.int .u8 0)], [.v (.int .u8 1)], [.v (.int .u8 0)], [.v (.int .u8 1)], [.v (.int .u8 0)], [.v (.int .u8 0)], [.v (.int .u8 0)], [.v (.int .u8 0)], [.v (.int .u8 0)], [.v (.int .u8 0)], [.v (.int .u8 3)], [.v (.int .u8 0)], [.v (.int .u8 0)], [.v (.int .u8 0)], [.v (.int .u8 1)], [.v (.int .u8 2)], [.v (.int .u8 0)], [.v (.int .u8 0)], [.v (.int .u8 0)], [.v (.int .u8 1)], [.v (.int .u8 0)], [.v (.int .u8 0)], [.v (.int .u8 0)], [.v (.int .u8 0)]] true false)]⟩) := ex (.nil) (by kernel_rfl)
theorem k166 : Shows Try.prog 71 (.h ⟨[.c (.ptr 0 0 0), .c (.t (w64 0))], [some (.var [.sl 1 0 34 false]), some (.rows 1 [[.v (.int .u8 0)], [.v (.int .u8 2)], [.v (.int .u8 2)], [.v (.int .u8 0)], [.v (.int .u8 0)], [.v (.int .u8 0)], [.v (.int .u8 1)], [.v (.int .u8 2)], [.v (.int .u8 0)], [.v (.int .u8 0)], [.v (.int .u8 0)], [.v (.int .u8 1)], [.v (.int .u8 0)], [.v (.int .u8 1)], [.v (.int .u8 0)], [.v (.int .u8 0)], [.v (.int .u8 0)], [.v (.int .u8 0)], [.v (.int .u8 0)], [.v (.int .u8 0)], [.v (.int .u8 3)], [.v (.int .u8 0)], [.v (.int .u8 0)], [.v (.int .u8 0)], [.v (.int .u8 1)], [.v (.int .u8 2)], [.v (.int .u8 0)], [.v (.int .u8 0)], [.v (.int .u8 0)], [.v (.int .u8 1)], [.v (.int .u8 0)], [.v (.int .u8 0)], [.v (.int .u8 0)], [.v (.int .u8 0)]] true false)]⟩) (.h ⟨[], [some (.var [.sl 2 0 35 false]), none, some (.rows 1 [[.v (.int .u8 0)], [.v (.int .u8 2)], [.v (.int .u8 2)], [.v (.int .u8 0)], [.v (.int .u8 0)], [.v (.int .u8 0)], [.v (.int .u8 1)], [.v (.int .u8 2)], [.v (.int .u8 0)], [.v (.int .u8 0)], [.v (.int .u8 0)], [.v (.int .u8 1)], [.v (.int .u8 0)], [.v (.int .u8 1)], [.v (.int .u8 0)], [.v (.int .u8 0)], [.v (.int .u8 0)], [.v (.int .u8 0)], [.v (.int .u8 0)], [.v (.int .u8 0)], [.v (.int .u8 3)], [.v (.int .u8 0)], [.v (.int .u8 0)], [.v (.int .u8 0)], [.v (.int .u8 1)], [.v (.int .u8 2)], [.v (.int .u8 0)], [.v (.int .u8 0)], [.v (.int .u8 0)], [.v (.int .u8 1)], [.v (.int .u8 0)], [.v (.int .u8 0)], [.v (.int .u8 0)], [.v (.int .u8 0)], [.v (.int .u8 0)]] true false)]⟩) := ex (.nil) (by kernel_rfl)
theorem k167 : Shows Try.prog 71 (.h ⟨[.c (.ptr 0 0 0), .c (.t (w64 0))], [some (.var [.sl 1 0 35 false]), some (.rows 1 [[.v (.int .u8 0)], [.v (.int .u8 2)], [.v (.int .u8 2)], [.v (.int .u8 0)], [.v (.int .u8 0)], [.v (.int .u8 0)], [.v (.int .u8 1)], [.v (.int .u8 2)], [.v (.int .u8 0)], [.v (.int .u8 0)], [.v (.int .u8 0)], [.v (.int .u8 1)], [.v (.int .u8 0)], [.v (.int .u8 1)], [.v (.int .u8 0)], [.v (.int .u8 0)], [.v (.int .u8 0)], [.v (.int .u8 0)], [.v (.int .u8 0)], [.v (.int .u8 0)], [.v (.int .u8 3)], [.v (.int .u8 0)], [.v (.int .u8 0)], [.v (.int .u8 0)], [.v (.int .u8 1)], [.v (.int .u8 2)], [.v (.int .u8 0)], [.v (.int .u8 0)], [.v (.int .u8 0)], [.v (.int .u8 1)], [.v (.int .u8 0)], [.v (.int .u8 0)], [.v (.int .u8 0)], [.v (.int .u8 0)], [.v (.int .u8 0)]] true false)]⟩) (.h ⟨[], [some (.var [.sl 2 0 36 false]), none, some (.rows 1 [[.v (.int .u8 0)], [.v (.int .u8 2)], [.v (.int .u8 2)], [.v (.int .u8 0)], [.v (.int .u8 0)], [.v (.int .u8 0)], [.v (.int .u8 1)], [.v (.int .u8 2)], [.v (.int .u8 0)], [.v (.int .u8 0)], [.v (.int .u8 0)], [.v (.int .u8 1)], [.v (.int .u8 0)], [.v (.int .u8 1)], [.v (.int .u8 0)], [.v (.int .u8 0)], [.v (.int .u8 0)], [.v (.int .u8 0)], [.v (.int .u8 0)], [.v (.int .u8 0)], [.v (.int .u8 3)], [.v (.int .u8 0)], [.v (.int .u8 0)], [.v (.int .u8 0)], [.v (.int .u8 1)], [.v (.int .u8 2)], [.v (.int .u8 0)], [.v (.int .u8 0)], [.v (.int .u8 0)], [.v (.int .u8 1)], [.v (.int .u8 0)], [.v (.int .u8 0)], [.v (.int .u8 0)], [.v (.int .u8 0)], [.v (.int .u8 0)], [.v (.int .u8 0)]] true false)]⟩) := ex (.nil) (by kernel_rfl)
theorem k168 : Shows Try.prog 71 (.h ⟨[.c (.ptr 0 0 0), .c (.t (w64 0))], [some (.var [.sl 1 0 36 false]), some (.rows 1 [[.v (.int .u8 0)], [.v (.int .u8 2)], [.v (.int .u8 2)], [.v (.int .u8 0)], [.v (.int .u8 0)], [.v (.int .u8 0)], [.v (.int .u8 1)], [.v (.int .u8 2)], [.v (.int .u8 0)], [.v (.int .u8 0)], [.v (.int .u8 0)], [.v (.int .u8 1)], [.v (.int .u8 0)], [.v (.int .u8 1)], [.v (.int .u8 0)], [.v (.int .u8 0)], [.v (.int .u8 0)], [.v (.int .u8 0)], [.v (.int .u8 0)], [.v (.int .u8 0)], [.v (.int .u8 3)], [.v (.int .u8 0)], [.v (.int .u8 0)], [.v (.int .u8 0)], [.v (.int .u8 1)], [.v (.int .u8 2)], [.v (.int .u8 0)], [.v (.int .u8 0)], [.v (.int .u8 0)], [.v (.int .u8 1)], [.v (.int .u8 0)], [.v (.int .u8 0)], [.v (.int .u8 0)], [.v (.int .u8 0)], [.v (.int .u8 0)], [.v (.int .u8 0)]] true false)]⟩) (.h ⟨[], [some (.var [.sl 2 0 37 false]), none, some (.rows 1 [[.v (.int .u8 0)], [.v (.int .u8 2)], [.v (.int .u8 2)], [.v (.int .u8 0)], [.v (.int .u8 0)], [.v (.int .u8 0)], [.v (.int .u8 1)], [.v (.int .u8 2)], [.v (.int .u8 0)], [.v (.int .u8 0)], [.v (.int .u8 0)], [.v (.int .u8 1)], [.v (.int .u8 0)], [.v (.int .u8 1)], [.v (.int .u8 0)], [.v (.int .u8 0)], [.v (.int .u8 0)], [.v (.int .u8 0)], [.v (.int .u8 0)], [.v (.int .u8 0)], [.v (.int .u8 3)], [.v (.int .u8 0)], [.v (.int .u8 0)], [.v (.int .u8 0)], [.v (.int .u8 1)], [.v (.int .u8 2)], [.v (.int .u8 0)], [.v (.int .u8 0)], [.v (.int .u8 0)], [.v (.int .u8 1)], [.v (.int .u8 0)], [.v (.int .u8 0)], [.v (.int .u8 0)], [.v (.int .u8 0)], [.v (.int .u8 0)], [.v (.int .u8 0)], [.v (.int .u8 0)]] true false)]⟩) := ex (.nil) (by kernel_rfl)
theorem k169 : Shows Try.prog 71 (.h ⟨[.c (.ptr 0 0 0), .c (.t (w64 0))], [some (.var [.sl 1 0 37 false]), some (.rows 1 [[.v (.int .u8 0)], [.v (.int .u8 2)], [.v (.int .u8 2)], [.v (.int .u8 0)], [.v (.int .u8 0)], [.v (.int .u8 0)], [.v (.int .u8 1)], [.v (.int .u8 2)], [.v (.int .u8 0)], [.v (.int .u8 0)], [.v (.int .u8 0)], [.v (.int .u8 1)], [.v (.int .u8 0)], [.v (.int .u8 1)], [.v (.int .u8 0)], [.v (.int .u8 0)], [.v (.int .u8 0)], [.v (.int .u8 0)], [.v (.int .u8 0)], [.v (.int .u8 0)], [.v (.int .u8 3)], [.v (.int .u8 0)], [.v (.int .u8 0)], [.v (.int .u8 0)], [.v (.int .u8 1)], [.v (.int .u8 2)], [.v (.int .u8 0)], [.v (.int .u8 0)], [.v (.int .u8 0)], [.v (.int .u8 1)], [.v (.int .u8 0)], [.v (.int .u8 0)], [.v (.int .u8 0)], [.v (.int .u8 0)], [.v (.int .u8 0)], [.v (.int .u8 0)], [.v (.int .u8 0)]] true false)]⟩) (.h ⟨[], [some (.var [.sl 2 0 38 false]), none, some (.rows 1 [[.v (.int .u8 0)], [.v (.int .u8 2)], [.v (.int .u8 2)], [.v (.int .u8 0)], [.v (.int .u8 0)], [.v (.int .u8 0)], [.v (.int .u8 1)], [.v (.int .u8 2)], [.v (.int .u8 0)], [.v (.int .u8 0)], [.v (.int .u8 0)], [.v (.int .u8 1)], [.v (.int .u8 0)], [.v (.int .u8 1)], [.v (.int .u8 0)], [.v (.int .u8 0)], [.v (.int .u8 0)], [.v (.int .u8 0)], [.v (.int .u8 0)], [.v (.int .u8 0)], [.v (.int .u8 3)], [.v (.int .u8 0)], [.v (.int .u8 0)], [.v (.int .u8 0)], [.v (.int .u8 1)], [.v (.int .u8 2)], [.v (.int .u8 0)], [.v (.int .u8 0)], [.v (.int .u8 0)], [.v (.int .u8 1)], [.v (.int .u8 0)], [.v (.int .u8 0)], [.v (.int .u8 0)], [.v (.int .u8 0)], [.v (.int .u8 0)], [.v (.int .u8 0)], [.v (.int .u8 0)], [.v (.int .u8 0)]] true false)]⟩) := ex (.nil) (by kernel_rfl)
theorem k170 : Shows Try.prog 73 (.h ⟨[.c (.ptr 0 0 0), .agg [.t (bT), .t (l1), .t (bF), .t (l1), .t (n64 0), .t (n64 0), .t (n64 0), .t (n64 0), .t (n64 0), .t (n64 0), .t (n64 0), .t (n64 0)]], [some (.var [.sl 1 0 20 false]), some (.rows 1 [[.v (.int .u8 0)], [.v (.int .u8 2)], [.v (.int .u8 2)], [.v (.int .u8 0)], [.v (.int .u8 0)], [.v (.int .u8 0)], [.v (.int .u8 1)], [.v (.int .u8 2)], [.v (.int .u8 0)], [.v (.int .u8 0)], [.v (.int .u8 0)], [.v (.int .u8 1)], [.v (.int .u8 0)], [.v (.int .u8 1)], [.v (.int .u8 0)], [.v (.int .u8 0)], [.v (.int .u8 0)], [.v (.int .u8 0)], [.v (.int .u8 0)], [.v (.int .u8 0)]] true false)]⟩) (.h ⟨[], [some (.var [.sl 2 0 38 false]), none, some (.rows 1 [[.v (.int .u8 0)], [.v (.int .u8 2)], [.v (.int .u8 2)], [.v (.int .u8 0)], [.v (.int .u8 0)], [.v (.int .u8 0)], [.v (.int .u8 1)], [.v (.int .u8 2)], [.v (.int .u8 0)], [.v (.int .u8 0)], [.v (.int .u8 0)], [.v (.int .u8 1)], [.v (.int .u8 0)], [.v (.int .u8 1)], [.v (.int .u8 0)], [.v (.int .u8 0)], [.v (.int .u8 0)], [.v (.int .u8 0)], [.v (.int .u8 0)], [.v (.int .u8 0)], [.v (.int .u8 3)], [.v (.int .u8 0)], [.v (.int .u8 0)], [.v (.int .u8 0)], [.v (.int .u8 1)], [.v (.int .u8 2)], [.v (.int .u8 0)], [.v (.int .u8 0)], [.v (.int .u8 0)], [.v (.int .u8 1)], [.v (.int .u8 0)], [.v (.int .u8 0)], [.v (.int .u8 0)], [.v (.int .u8 0)], [.v (.int .u8 0)], [.v (.int .u8 0)], [.v (.int .u8 0)], [.v (.int .u8 0)]] true false)]⟩) := ex (.cons k161 (.cons k162 (.cons k163 (.cons k164 (.cons k165 (.cons k166 (.cons k167 (.cons k168 (.cons k169 .nil))))))))) (by kernel_rfl)
theorem k171 : Shows Try.prog 72 (.h ⟨[.c (.ptr 0 0 0), .c (.t (lF [[bF, l1, bF, l1, n64 0, n64 1, n64 0, n64 0, n64 0, n64 0, n64 0, n64 0], [bT, l1, bF, l1, n64 0, n64 0, n64 0, n64 0, n64 0, n64 0, n64 0, n64 0]])), .c (.clo 1000000000073 [(0, (0, 0))])], [some (.var [.sl 1 0 1 false]), some (.rows 1 [[.v (.int .u8 0)]] true false)]⟩) (.h ⟨[], [some (.var [.sl 2 0 38 false]), none, some (.rows 1 [[.v (.int .u8 0)], [.v (.int .u8 2)], [.v (.int .u8 2)], [.v (.int .u8 0)], [.v (.int .u8 0)], [.v (.int .u8 0)], [.v (.int .u8 1)], [.v (.int .u8 2)], [.v (.int .u8 0)], [.v (.int .u8 0)], [.v (.int .u8 0)], [.v (.int .u8 1)], [.v (.int .u8 0)], [.v (.int .u8 1)], [.v (.int .u8 0)], [.v (.int .u8 0)], [.v (.int .u8 0)], [.v (.int .u8 0)], [.v (.int .u8 0)], [.v (.int .u8 0)], [.v (.int .u8 3)], [.v (.int .u8 0)], [.v (.int .u8 0)], [.v (.int .u8 0)], [.v (.int .u8 1)], [.v (.int .u8 2)], [.v (.int .u8 0)], [.v (.int .u8 0)], [.v (.int .u8 0)], [.v (.int .u8 1)], [.v (.int .u8 0)], [.v (.int .u8 0)], [.v (.int .u8 0)], [.v (.int .u8 0)], [.v (.int .u8 0)], [.v (.int .u8 0)], [.v (.int .u8 0)], [.v (.int .u8 0)]] true false)]⟩) := ex (.cons k71 (.cons k156 (.cons k170 .nil))) (by kernel_rfl)
theorem k172 : Shows Try.prog 61 (.h ⟨[.c (.ptr 0 0 0), .c (.t (lF [[bF, l1, bF, l1, n64 0, n64 1, n64 0, n64 0, n64 0, n64 0, n64 0, n64 0], [bT, l1, bF, l1, n64 0, n64 0, n64 0, n64 0, n64 0, n64 0, n64 0, n64 0]]))], [some (.var [.sl 1 0 1 false]), some (.rows 1 [[.v (.int .u8 0)]] true false)]⟩) (.h ⟨[], [some (.var [.sl 2 0 38 false]), none, some (.rows 1 [[.v (.int .u8 0)], [.v (.int .u8 2)], [.v (.int .u8 2)], [.v (.int .u8 0)], [.v (.int .u8 0)], [.v (.int .u8 0)], [.v (.int .u8 1)], [.v (.int .u8 2)], [.v (.int .u8 0)], [.v (.int .u8 0)], [.v (.int .u8 0)], [.v (.int .u8 1)], [.v (.int .u8 0)], [.v (.int .u8 1)], [.v (.int .u8 0)], [.v (.int .u8 0)], [.v (.int .u8 0)], [.v (.int .u8 0)], [.v (.int .u8 0)], [.v (.int .u8 0)], [.v (.int .u8 3)], [.v (.int .u8 0)], [.v (.int .u8 0)], [.v (.int .u8 0)], [.v (.int .u8 1)], [.v (.int .u8 2)], [.v (.int .u8 0)], [.v (.int .u8 0)], [.v (.int .u8 0)], [.v (.int .u8 1)], [.v (.int .u8 0)], [.v (.int .u8 0)], [.v (.int .u8 0)], [.v (.int .u8 0)], [.v (.int .u8 0)], [.v (.int .u8 0)], [.v (.int .u8 0)], [.v (.int .u8 0)]] true false)]⟩) := ex (.cons k171 .nil) (by kernel_rfl)
theorem k173 : Shows Try.prog 71 (.h ⟨[.c (.ptr 0 0 0), .c (.t (w64 0))], [some (.var [.sl 1 0 38 false]), some (.rows 1 [[.v (.int .u8 0)], [.v (.int .u8 2)], [.v (.int .u8 2)], [.v (.int .u8 0)], [.v (.int .u8 0)], [.v (.int .u8 0)], [.v (.int .u8 1)], [.v (.int .u8 2)], [.v (.int .u8 0)], [.v (.int .u8 0)], [.v (.int .u8 0)], [.v (.int .u8 1)], [.v (.int .u8 0)], [.v (.int .u8 1)], [.v (.int .u8 0)], [.v (.int .u8 0)], [.v (.int .u8 0)], [.v (.int .u8 0)], [.v (.int .u8 0)], [.v (.int .u8 0)], [.v (.int .u8 3)], [.v (.int .u8 0)], [.v (.int .u8 0)], [.v (.int .u8 0)], [.v (.int .u8 1)], [.v (.int .u8 2)], [.v (.int .u8 0)], [.v (.int .u8 0)], [.v (.int .u8 0)], [.v (.int .u8 1)], [.v (.int .u8 0)], [.v (.int .u8 0)], [.v (.int .u8 0)], [.v (.int .u8 0)], [.v (.int .u8 0)], [.v (.int .u8 0)], [.v (.int .u8 0)], [.v (.int .u8 0)]] true false)]⟩) (.h ⟨[], [some (.var [.sl 2 0 39 false]), none, some (.rows 1 [[.v (.int .u8 0)], [.v (.int .u8 2)], [.v (.int .u8 2)], [.v (.int .u8 0)], [.v (.int .u8 0)], [.v (.int .u8 0)], [.v (.int .u8 1)], [.v (.int .u8 2)], [.v (.int .u8 0)], [.v (.int .u8 0)], [.v (.int .u8 0)], [.v (.int .u8 1)], [.v (.int .u8 0)], [.v (.int .u8 1)], [.v (.int .u8 0)], [.v (.int .u8 0)], [.v (.int .u8 0)], [.v (.int .u8 0)], [.v (.int .u8 0)], [.v (.int .u8 0)], [.v (.int .u8 3)], [.v (.int .u8 0)], [.v (.int .u8 0)], [.v (.int .u8 0)], [.v (.int .u8 1)], [.v (.int .u8 2)], [.v (.int .u8 0)], [.v (.int .u8 0)], [.v (.int .u8 0)], [.v (.int .u8 1)], [.v (.int .u8 0)], [.v (.int .u8 0)], [.v (.int .u8 0)], [.v (.int .u8 0)], [.v (.int .u8 0)], [.v (.int .u8 0)], [.v (.int .u8 0)], [.v (.int .u8 0)], [.v (.int .u8 0)]] true false)]⟩) := ex (.nil) (by kernel_rfl)
theorem k174 : Shows Try.prog 74 (.h ⟨[.c (.ptr 0 0 0), .c (.t (lT [])), .c (.clo 1000000000075 [(0, (0, 0))])], [some (.var [.sl 1 0 38 false]), some (.rows 1 [[.v (.int .u8 0)], [.v (.int .u8 2)], [.v (.int .u8 2)], [.v (.int .u8 0)], [.v (.int .u8 0)], [.v (.int .u8 0)], [.v (.int .u8 1)], [.v (.int .u8 2)], [.v (.int .u8 0)], [.v (.int .u8 0)], [.v (.int .u8 0)], [.v (.int .u8 1)], [.v (.int .u8 0)], [.v (.int .u8 1)], [.v (.int .u8 0)], [.v (.int .u8 0)], [.v (.int .u8 0)], [.v (.int .u8 0)], [.v (.int .u8 0)], [.v (.int .u8 0)], [.v (.int .u8 3)], [.v (.int .u8 0)], [.v (.int .u8 0)], [.v (.int .u8 0)], [.v (.int .u8 1)], [.v (.int .u8 2)], [.v (.int .u8 0)], [.v (.int .u8 0)], [.v (.int .u8 0)], [.v (.int .u8 1)], [.v (.int .u8 0)], [.v (.int .u8 0)], [.v (.int .u8 0)], [.v (.int .u8 0)], [.v (.int .u8 0)], [.v (.int .u8 0)], [.v (.int .u8 0)], [.v (.int .u8 0)]] true false)]⟩) (.h ⟨[], [some (.var [.sl 2 0 39 false]), none, some (.rows 1 [[.v (.int .u8 0)], [.v (.int .u8 2)], [.v (.int .u8 2)], [.v (.int .u8 0)], [.v (.int .u8 0)], [.v (.int .u8 0)], [.v (.int .u8 1)], [.v (.int .u8 2)], [.v (.int .u8 0)], [.v (.int .u8 0)], [.v (.int .u8 0)], [.v (.int .u8 1)], [.v (.int .u8 0)], [.v (.int .u8 1)], [.v (.int .u8 0)], [.v (.int .u8 0)], [.v (.int .u8 0)], [.v (.int .u8 0)], [.v (.int .u8 0)], [.v (.int .u8 0)], [.v (.int .u8 3)], [.v (.int .u8 0)], [.v (.int .u8 0)], [.v (.int .u8 0)], [.v (.int .u8 1)], [.v (.int .u8 2)], [.v (.int .u8 0)], [.v (.int .u8 0)], [.v (.int .u8 0)], [.v (.int .u8 1)], [.v (.int .u8 0)], [.v (.int .u8 0)], [.v (.int .u8 0)], [.v (.int .u8 0)], [.v (.int .u8 0)], [.v (.int .u8 0)], [.v (.int .u8 0)], [.v (.int .u8 0)], [.v (.int .u8 0)]] true false)]⟩) := ex (.cons k173 .nil) (by kernel_rfl)
theorem k175 : Shows Try.prog 62 (.h ⟨[.c (.ptr 0 0 0), .c (.t (lT []))], [some (.var [.sl 1 0 38 false]), some (.rows 1 [[.v (.int .u8 0)], [.v (.int .u8 2)], [.v (.int .u8 2)], [.v (.int .u8 0)], [.v (.int .u8 0)], [.v (.int .u8 0)], [.v (.int .u8 1)], [.v (.int .u8 2)], [.v (.int .u8 0)], [.v (.int .u8 0)], [.v (.int .u8 0)], [.v (.int .u8 1)], [.v (.int .u8 0)], [.v (.int .u8 1)], [.v (.int .u8 0)], [.v (.int .u8 0)], [.v (.int .u8 0)], [.v (.int .u8 0)], [.v (.int .u8 0)], [.v (.int .u8 0)], [.v (.int .u8 3)], [.v (.int .u8 0)], [.v (.int .u8 0)], [.v (.int .u8 0)], [.v (.int .u8 1)], [.v (.int .u8 2)], [.v (.int .u8 0)], [.v (.int .u8 0)], [.v (.int .u8 0)], [.v (.int .u8 1)], [.v (.int .u8 0)], [.v (.int .u8 0)], [.v (.int .u8 0)], [.v (.int .u8 0)], [.v (.int .u8 0)], [.v (.int .u8 0)], [.v (.int .u8 0)], [.v (.int .u8 0)]] true false)]⟩) (.h ⟨[], [some (.var [.sl 2 0 39 false]), none, some (.rows 1 [[.v (.int .u8 0)], [.v (.int .u8 2)], [.v (.int .u8 2)], [.v (.int .u8 0)], [.v (.int .u8 0)], [.v (.int .u8 0)], [.v (.int .u8 1)], [.v (.int .u8 2)], [.v (.int .u8 0)], [.v (.int .u8 0)], [.v (.int .u8 0)], [.v (.int .u8 1)], [.v (.int .u8 0)], [.v (.int .u8 1)], [.v (.int .u8 0)], [.v (.int .u8 0)], [.v (.int .u8 0)], [.v (.int .u8 0)], [.v (.int .u8 0)], [.v (.int .u8 0)], [.v (.int .u8 3)], [.v (.int .u8 0)], [.v (.int .u8 0)], [.v (.int .u8 0)], [.v (.int .u8 1)], [.v (.int .u8 2)], [.v (.int .u8 0)], [.v (.int .u8 0)], [.v (.int .u8 0)], [.v (.int .u8 1)], [.v (.int .u8 0)], [.v (.int .u8 0)], [.v (.int .u8 0)], [.v (.int .u8 0)], [.v (.int .u8 0)], [.v (.int .u8 0)], [.v (.int .u8 0)], [.v (.int .u8 0)], [.v (.int .u8 0)]] true false)]⟩) := ex (.cons k174 .nil) (by kernel_rfl)
theorem k176 : Shows Try.prog 49 (.a [.val (.agg [n64 0, lF [[bF, l1, bF, l1, n64 0, n64 1, n64 0, n64 0, n64 0, n64 0, n64 0, n64 0], [bT, l1, bF, l1, n64 0, n64 0, n64 0, n64 0, n64 0, n64 0, n64 0, n64 0]], lT []])]) (.a ⟨[.val (.c (.v (.string ⟨#[0, 2, 2, 0, 0, 0, 1, 2, 0, 0, 0, 1, 0, 1, 0, 0, 0, 0, 0, 0, 3, 0, 0, 0, 1, 2, 0, 0, 0, 1, 0, 0, 0, 0, 0, 0, 0, 0, 0]⟩)))], [none]⟩) := ex (.cons k48 (.cons k172 (.cons k175 .nil))) (by kernel_rfl)
theorem k177 : Shows Try.prog 35 (.a [.val (.c (lF [[bF, l1, bF, l1, n64 0, n64 1, n64 0, n64 0, n64 0, n64 0, n64 0, n64 0], [bT, l1, bF, l1, n64 0, n64 0, n64 0, n64 0, n64 0, n64 0, n64 0, n64 0]]))]) (.a ⟨[.val (.c (.v (.string ⟨#[0, 2, 2, 0, 0, 0, 1, 2, 0, 0, 0, 1, 0, 1, 0, 0, 0, 0, 0, 0, 3, 0, 0, 0, 1, 2, 0, 0, 0, 1, 0, 0, 0, 0, 0, 0, 0, 0, 0]⟩)))], [none]⟩) := ex (.cons k176 .nil) (by kernel_rfl)
theorem k178 : Shows Try.prog 24 (.a [.val (.c (lF [[lF [[bF, l1, bF, l1, n64 0, n64 1, n64 0, n64 0, n64 0, n64 0, n64 0, n64 0]]], [lF [[bF, l1, bF, l1, n64 1, n64 0, n64 0, n64 0, n64 0, n64 0, n64 0, n64 0]]]])), .val (.c (lF [[lF [[bF, l1, bF, l1, n64 0, n64 1, n64 0, n64 0, n64 0, n64 0, n64 0, n64 0]]], [lF [[bF, l1, bF, l1, n64 0, n64 1, n64 0, n64 0, n64 0, n64 0, n64 0, n64 0], [bT, l1, bF, l1, n64 0, n64 0, n64 0, n64 0, n64 0, n64 0, n64 0, n64 0]]], [lF [[bF, l1, bF, l1, n64 1, n64 0, n64 0, n64 0, n64 0, n64 0, n64 0, n64 0]]]]))]) (.a ⟨[.val (.c (lF [[n64 0], [n64 2]]))], [none, none]⟩) := ex (.cons k70 (.cons k177 (.cons k122 .nil))) (by kernel_rfl)
theorem k179 : Shows Try.prog 25 (.a [.val (.c (lF [[lT []], [lF [[bF, l1, bF, l1, n64 1, n64 0, n64 0, n64 0, n64 0, n64 0, n64 0, n64 0]]]])), .val (.c (lF [[n64 0], [n64 2]])), .val (.c (n64 3))]) (.a ⟨[.val (.c (lF [[lT []], [lT []], [lF [[bF, l1, bF, l1, n64 1, n64 0, n64 0, n64 0, n64 0, n64 0, n64 0, n64 0]]]]))], [none, none, none]⟩) := ex (.nil) (by kernel_rfl)
theorem k180 : Shows Try.prog 11 (.a [.val (.agg [n64 2, lF [[lF [[bF, l1, bF, l1, n64 0, n64 1, n64 0, n64 0, n64 0, n64 0, n64 0, n64 0]]], [lF [[bF, l1, bF, l1, n64 1, n64 0, n64 0, n64 0, n64 0, n64 0, n64 0, n64 0]]]], lT [], n64 1, lF [[bF, l1, bF, l1, n64 2, n64 0, n64 0, n64 0, n64 0, n64 0, n64 0, n64 0]], n64 0, n64 0, n64 0, lT [], lT [], lT [], lT [], n64 0, lF [[lT []], [lF [[bF, l1, bF, l1, n64 1, n64 0, n64 0, n64 0, n64 0, n64 0, n64 0, n64 0]]]], lT [], lT [], lT [], lT [], lT [], n64 0, n64 0, n64 0, n64 0, n64 0, n64 0, n64 0, n64 0, lT [], lT [], lT [], lT [], lT [], lT [], lT [], lT [], lT [], lT [], lT [], lT [], lT []]), .val (.agg [n64 2, lF [[lF [[bF, l1, bF, l1, n64 0, n64 1, n64 0, n64 0, n64 0, n64 0, n64 0, n64 0]]], [lF [[bF, l1, bF, l1, n64 0, n64 1, n64 0, n64 0, n64 0, n64 0, n64 0, n64 0], [bT, l1, bF, l1, n64 0, n64 0, n64 0, n64 0, n64 0, n64 0, n64 0, n64 0]]], [lF [[bF, l1, bF, l1, n64 1, n64 0, n64 0, n64 0, n64 0, n64 0, n64 0, n64 0]]]], lT []])]) (.a ⟨[.val (.agg [n64 2, lF [[lF [[bF, l1, bF, l1, n64 0, n64 1, n64 0, n64 0, n64 0, n64 0, n64 0, n64 0]]], [lF [[bF, l1, bF, l1, n64 0, n64 1, n64 0, n64 0, n64 0, n64 0, n64 0, n64 0], [bT, l1, bF, l1, n64 0, n64 0, n64 0, n64 0, n64 0, n64 0, n64 0, n64 0]]], [lF [[bF, l1, bF, l1, n64 1, n64 0, n64 0, n64 0, n64 0, n64 0, n64 0, n64 0]]]], lT [], n64 1, lF [[bF, l1, bF, l1, n64 2, n64 0, n64 0, n64 0, n64 0, n64 0, n64 0, n64 0]], n64 0, n64 0, n64 0, lT [], lT [], lT [], lT [], n64 0, lF [[lT []], [lT []], [lF [[bF, l1, bF, l1, n64 1, n64 0, n64 0, n64 0, n64 0, n64 0, n64 0, n64 0]]]], lT [], lT [], lT [], lT [], lT [], n64 0, n64 0, n64 0, n64 0, n64 0, n64 0, n64 0, n64 0, lT [], lT [], lT [], lT [], lT [], lT [], lT [], lT [], lT [], lT [], lT [], lT [], lT []]), .val (.c (bT))], [none, none]⟩) := ex (.cons k147 (.cons k42 (.cons k178 (.cons k45 (.cons k179 .nil))))) (by kernel_rfl)
theorem k181 : Shows Try.prog 64 (.a [.val (.agg [bF, l1]), .val (.agg [bF, l1])]) (.a ⟨[.val (.c (bT))], [none, none]⟩) := ex (.nil) (by kernel_rfl)
theorem k182 : Shows Try.prog 52 (.a [.val (.agg [bF, l1, bF, l1]), .val (.agg [bF, l1, bF, l1])]) (.a ⟨[.val (.c (bT))], [none, none]⟩) := ex (.cons k181 .nil) (by kernel_rfl)
theorem k183 : Shows Try.prog 37 (.a [.val (.agg [bF, l1, bF, l1, n64 1, n64 0, n64 0, n64 0, n64 0, n64 0, n64 0, n64 0]), .val (.agg [bF, l1, bF, l1, n64 1, n64 0, n64 0, n64 0, n64 0, n64 0, n64 0, n64 0])]) (.a ⟨[.val (.c (bT))], [none, none]⟩) := ex (.cons k182 .nil) (by kernel_rfl)
theorem k184 : Shows Try.prog 27 (.a [.val (.c (lF [[bF, l1, bF, l1, n64 1, n64 0, n64 0, n64 0, n64 0, n64 0, n64 0, n64 0]])), .val (.c (lF [[bF, l1, bF, l1, n64 1, n64 0, n64 0, n64 0, n64 0, n64 0, n64 0, n64 0]]))]) (.a ⟨[.val (.c (bT))], [none, none]⟩) := ex (.cons k183 .nil) (by kernel_rfl)
theorem k185 : Shows Try.prog 27 (.a [.val (.c (lT [])), .val (.c (lT []))]) (.a ⟨[.val (.c (bT))], [none, none]⟩) := ex (.nil) (by kernel_rfl)
theorem k186 : Shows Try.prog 13 (.a [.val (.c (lF [[lF [[bF, l1, bF, l1, n64 1, n64 0, n64 0, n64 0, n64 0, n64 0, n64 0, n64 0]]], [lT []]])), .val (.c (lF [[lF [[bF, l1, bF, l1, n64 1, n64 0, n64 0, n64 0, n64 0, n64 0, n64 0, n64 0]]], [lT []]]))]) (.a ⟨[.val (.c (bT))], [none, none]⟩) := ex (.cons k184 (.cons k185 .nil)) (by kernel_rfl)
theorem k187 : Shows Try.prog 13 (.a [.val (.c (lF [[lT []], [lT []], [lF [[bF, l1, bF, l1, n64 1, n64 0, n64 0, n64 0, n64 0, n64 0, n64 0, n64 0]]]])), .val (.c (lF [[lT []], [lT []], [lF [[bF, l1, bF, l1, n64 1, n64 0, n64 0, n64 0, n64 0, n64 0, n64 0, n64 0]]]]))]) (.a ⟨[.val (.c (bT))], [none, none]⟩) := ex (.cons k185 (.cons k184 .nil)) (by kernel_rfl)
theorem k188 : Shows Try.prog 5 (.a [.val (.agg [n64 12, lT [], n64 3, n64 0, n64 0, lT [], lT [], lT [], lT []])]) (.a ⟨[.val (.c (bF))], [none]⟩) := ex (.nil) (by kernel_rfl)
theorem k189 : Shows Try.prog 5 (.a [.val (.agg [n64 6, lT [], n64 0, n64 0, n64 0, lT [], lT [], lT [], lT []])]) (.a ⟨[.val (.c (bT))], [none]⟩) := ex (.nil) (by kernel_rfl)
theorem k190 : Shows Try.prog 23 (.a [.val (.agg [n64 2, lF [[lF [[bF, l1, bF, l1, n64 0, n64 1, n64 0, n64 0, n64 0, n64 0, n64 0, n64 0]]], [lF [[bF, l1, bF, l1, n64 1, n64 0, n64 0, n64 0, n64 0, n64 0, n64 0, n64 0]]]], lT [], n64 1, lF [[bF, l1, bF, l1, n64 2, n64 0, n64 0, n64 0, n64 0, n64 0, n64 0, n64 0]], n64 0, n64 0, n64 0, lT [], lT [], lT [], lT [], n64 0, lF [[lT []], [lF [[bF, l1, bF, l1, n64 1, n64 0, n64 0, n64 0, n64 0, n64 0, n64 0, n64 0]]]], lT [], lT [], lT [], lT [], lT [], n64 0, n64 0, n64 0, n64 0, n64 0, n64 0, n64 0, n64 0, lT [], lT [], lT [], lT [], lT [], lT [], lT [], lT [], lT [], lT [], lT [], lT [], lT []]), .val (.agg [n64 1, lT [], lT []])]) (.a ⟨[.val (.c (bF))], [none, none]⟩) := ex (.cons k42 .nil) (by kernel_rfl)
theorem k191 : Shows Try.prog 11 (.a [.val (.agg [n64 2, lF [[lF [[bF, l1, bF, l1, n64 0, n64 1, n64 0, n64 0, n64 0, n64 0, n64 0, n64 0]]], [lF [[bF, l1, bF, l1, n64 1, n64 0, n64 0, n64 0, n64 0, n64 0, n64 0, n64 0]]]], lT [], n64 1, lF [[bF, l1, bF, l1, n64 2, n64 0, n64 0, n64 0, n64 0, n64 0, n64 0, n64 0]], n64 0, n64 0, n64 0, lT [], lT [], lT [], lT [], n64 0, lF [[lT []], [lF [[bF, l1, bF, l1, n64 1, n64 0, n64 0, n64 0, n64 0, n64 0, n64 0, n64 0]]]], lT [], lT [], lT [], lT [], lT [], n64 0, n64 0, n64 0, n64 0, n64 0, n64 0, n64 0, n64 0, lT [], lT [], lT [], lT [], lT [], lT [], lT [], lT [], lT [], lT [], lT [], lT [], lT []]), .val (.agg [n64 1, lT [], lT []])]) (.a ⟨[.val (.agg [n64 0, lT [], lT [], n64 0, lT [], n64 0, n64 0, n64 0, lT [], lT [], lT [], lT [], n64 0, lT [], lT [], lT [], lT [], lT [], lT [], n64 0, n64 0, n64 0, n64 0, n64 0, n64 0, n64 0, n64 0, lT [], lT [], lT [], lT [], lT [], lT [], lT [], lT [], lT [], lT [], lT [], lT [], lT []]), .val (.c (bF))], [none, none]⟩) := ex (.cons k190 .nil) (by kernel_rfl)
theorem k192 : Shows Try.prog 14 (.a [.val (.agg [n64 2, lF [[lF [[bF, l1, bF, l1, n64 0, n64 1, n64 0, n64 0, n64 0, n64 0, n64 0, n64 0]]], [lF [[bF, l1, bF, l1, n64 1, n64 0, n64 0, n64 0, n64 0, n64 0, n64 0, n64 0]]]], lT [], n64 1, lF [[bF, l1, bF, l1, n64 2, n64 0, n64 0, n64 0, n64 0, n64 0, n64 0, n64 0]], n64 0, n64 0, n64 0, lT [], lT [], lT [], lT [], n64 0, lF [[lT []], [lF [[bF, l1, bF, l1, n64 1, n64 0, n64 0, n64 0, n64 0, n64 0, n64 0, n64 0]]]], lT [], lT [], lT [], lT [], lT [], n64 0, n64 0, n64 0, n64 0, n64 0, n64 0, n64 0, n64 0, lT [], lT [], lT [], lT [], lT [], lT [], lT [], lT [], lT [], lT [], lT [], lT [], lT []]), .val (.agg [n64 1, lT [], lT []])]) (.a ⟨[.val (.c (bT))], [none, none]⟩) := ex (.cons k191 .nil) (by kernel_rfl)
theorem k193 : Shows Try.prog 23 (.a [.val (.agg [n64 2, lF [[lF [[bF, l1, bF, l1, n64 0, n64 1, n64 0, n64 0, n64 0, n64 0, n64 0, n64 0]]], [lF [[bF, l1, bF, l1, n64 1, n64 0, n64 0, n64 0, n64 0, n64 0, n64 0, n64 0]]]], lT [], n64 1, lF [[bF, l1, bF, l1, n64 2, n64 0, n64 0, n64 0, n64 0, n64 0, n64 0, n64 0]], n64 0, n64 0, n64 0, lT [], lT [], lT [], lT [], n64 0, lF [[lT []], [lF [[bF, l1, bF, l1, n64 1, n64 0, n64 0, n64 0, n64 0, n64 0, n64 0, n64 0]]]], lT [], lT [], lT [], lT [], lT [], n64 0, n64 0, n64 0, n64 0, n64 0, n64 0, n64 0, n64 0, lT [], lT [], lT [], lT [], lT [], lT [], lT [], lT [], lT [], lT [], lT [], lT [], lT []]), .val (.agg [n64 2, lF [[lF [[bF, l1, bF, l1, n64 0, n64 1, n64 0, n64 0, n64 0, n64 0, n64 0, n64 0]]], [lF [[bF, l1, bF, l1, n64 1, n64 0, n64 0, n64 0, n64 0, n64 0, n64 0, n64 0]]]], lT []])]) (.a ⟨[.val (.c (bT))], [none, none]⟩) := ex (.cons k42 .nil) (by kernel_rfl)
theorem k194 : Shows Try.prog 24 (.a [.val (.c (lF [[lF [[bF, l1, bF, l1, n64 0, n64 1, n64 0, n64 0, n64 0, n64 0, n64 0, n64 0]]], [lF [[bF, l1, bF, l1, n64 1, n64 0, n64 0, n64 0, n64 0, n64 0, n64 0, n64 0]]]])), .val (.c (lF [[lF [[bF, l1, bF, l1, n64 0, n64 1, n64 0, n64 0, n64 0, n64 0, n64 0, n64 0]]], [lF [[bF, l1, bF, l1, n64 1, n64 0, n64 0, n64 0, n64 0, n64 0, n64 0, n64 0]]]]))]) (.a ⟨[.val (.c (lF [[n64 0], [n64 1]]))], [none, none]⟩) := ex (.cons k70 (.cons k122 .nil)) (by kernel_rfl)
theorem k195 : Shows Try.prog 25 (.a [.val (.c (lF [[lT []], [lF [[bF, l1, bF, l1, n64 1, n64 0, n64 0, n64 0, n64 0, n64 0, n64 0, n64 0]]]])), .val (.c (lF [[n64 0], [n64 1]])), .val (.c (n64 2))]) (.a ⟨[.val (.c (lF [[lT []], [lF [[bF, l1, bF, l1, n64 1, n64 0, n64 0, n64 0, n64 0, n64 0, n64 0, n64 0]]]]))], [none, none, none]⟩) := ex (.nil) (by kernel_rfl)
theorem k196 : Shows Try.prog 11 (.a [.val (.agg [n64 2, lF [[lF [[bF, l1, bF, l1, n64 0, n64 1, n64 0, n64 0, n64 0, n64 0, n64 0, n64 0]]], [lF [[bF, l1, bF, l1, n64 1, n64 0, n64 0, n64 0, n64 0, n64 0, n64 0, n64 0]]]], lT [], n64 1, lF [[bF, l1, bF, l1, n64 2, n64 0, n64 0, n64 0, n64 0, n64 0, n64 0, n64 0]], n64 0, n64 0, n64 0, lT [], lT [], lT [], lT [], n64 0, lF [[lT []], [lF [[bF, l1, bF, l1, n64 1, n64 0, n64 0, n64 0, n64 0, n64 0, n64 0, n64 0]]]], lT [], lT [], lT [], lT [], lT [], n64 0, n64 0, n64 0, n64 0, n64 0, n64 0, n64 0, n64 0, lT [], lT [], lT [], lT [], lT [], lT [], lT [], lT [], lT [], lT [], lT [], lT [], lT []]), .val (.agg [n64 2, lF [[lF [[bF, l1, bF, l1, n64 0, n64 1, n64 0, n64 0, n64 0, n64 0, n64 0, n64 0]]], [lF [[bF, l1, bF, l1, n64 1, n64 0, n64 0, n64 0, n64 0, n64 0, n64 0, n64 0]]]], lT []])]) (.a ⟨[.val (.agg [n64 2, lF [[lF [[bF, l1, bF, l1, n64 0, n64 1, n64 0, n64 0, n64 0, n64 0, n64 0, n64 0]]], [lF [[bF, l1, bF, l1, n64 1, n64 0, n64 0, n64 0, n64 0, n64 0, n64 0, n64 0]]]], lT [], n64 1, lF [[bF, l1, bF, l1, n64 2, n64 0, n64 0, n64 0, n64 0, n64 0, n64 0, n64 0]], n64 0, n64 0, n64 0, lT [], lT [], lT [], lT [], n64 0, lF [[lT []], [lF [[bF, l1, bF, l1, n64 1, n64 0, n64 0, n64 0, n64 0, n64 0, n64 0, n64 0]]]], lT [], lT [], lT [], lT [], lT [], n64 0, n64 0, n64 0, n64 0, n64 0, n64 0, n64 0, n64 0, lT [], lT [], lT [], lT [], lT [], lT [], lT [], lT [], lT [], lT [], lT [], lT [], lT []]), .val (.c (bT))], [none, none]⟩) := ex (.cons k193 (.cons k42 (.cons k194 (.cons k45 (.cons k195 .nil))))) (by kernel_rfl)
theorem k197 : Shows Try.prog 14 (.a [.val (.agg [n64 2, lF [[lF [[bF, l1, bF, l1, n64 0, n64 1, n64 0, n64 0, n64 0, n64 0, n64 0, n64 0]]], [lF [[bF, l1, bF, l1, n64 1, n64 0, n64 0, n64 0, n64 0, n64 0, n64 0, n64 0]]]], lT [], n64 1, lF [[bF, l1, bF, l1, n64 2, n64 0, n64 0, n64 0, n64 0, n64 0, n64 0, n64 0]], n64 0, n64 0, n64 0, lT [], lT [], lT [], lT [], n64 0, lF [[lT []], [lF [[bF, l1, bF, l1, n64 1, n64 0, n64 0, n64 0, n64 0, n64 0, n64 0, n64 0]]]], lT [], lT [], lT [], lT [], lT [], n64 0, n64 0, n64 0, n64 0, n64 0, n64 0, n64 0, n64 0, lT [], lT [], lT [], lT [], lT [], lT [], lT [], lT [], lT [], lT [], lT [], lT [], lT []]), .val (.agg [n64 2, lF [[lF [[bF, l1, bF, l1, n64 0, n64 1, n64 0, n64 0, n64 0, n64 0, n64 0, n64 0]]], [lF [[bF, l1, bF, l1, n64 1, n64 0, n64 0, n64 0, n64 0, n64 0, n64 0, n64 0]]]], lT []])]) (.a ⟨[.val (.c (bF))], [none, none]⟩) := ex (.cons k196 .nil) (by kernel_rfl)
theorem k198 : Shows Try.prog 4 (.a []) (.a ⟨[.val (.c (bT))], []⟩) := ex (.cons k7 (.cons k9 (.cons k37 (.cons k39 (.cons k41 (.cons k45 (.cons k124 (.cons k128 (.cons k146 (.cons k180 (.cons k186 (.cons k187 (.cons k188 (.cons k189 (.cons k192 (.cons k197 .nil)))))))))))))))) (by kernel_rfl)
end Go.Proofs.Ytlhbidjdkginkaa.Mem
end
