/-
  A part of the proof: GabsFrame, LawCanon11, LawMxX11, GabsMemo, Memo11A, Memo11B, Memo11C, Memo11D, Memo11E, Memo11F.
-/
import Derived.Test.YtlhcladkbhngoaaGreatM10
import Derived.WideKeyArgs
import Derived.OpenShut
import Derived.WalkKit
set_option maxHeartbeats 0
set_option maxRecDepth 100000
set_option linter.unusedVariables false
set_option linter.unusedSimpArgs false
set_option linter.unusedSectionVars false
section
namespace Go.Abs
open Go.RowKit Go.WideShapes Go.ChangeShapes Go.ChangeAt
inductive Shape where
 | int (k : IntKind)
 | bool
 | slice (s : Shape)
 | struct (l : List Shape)
 | arr (n : Nat) (s : Shape)
mutual
def Shape.size : Shape -> Nat
 | .int _ => 1
 | .bool => 1
 | .slice _ => 1
 | .struct l => sizeL l
 | .arr n s => n * s.size
def sizeL : List Shape -> Nat
 | [] => 0
 | s :: l => s.size + sizeL l
end
mutual
def Shape.fits (P : Program) (t : TypeId) : Shape -> Bool
 | .int k => match P.underlying t with
  | some (.int k') => decide (k' = k)
  | _ => false
 | .bool => match P.underlying t with
  | some .bool => true
  | _ => false
 | .slice s => match P.underlying t with
  | some (.slice e) => P.cellsOf e == s.size && decide (0 < s.size) && s.fits P e
  | _ => false
 | .struct l => match P.underlying t with
  | some (.struct fs) => P.cellsOf t == sizeL l && fitsL P 0 fs.toList l
  | _ => false
 | .arr n s => match P.underlying t with
  | some (.array m e) => m == n && P.cellsOf t == n * s.size && P.cellsOf e == s.size && s.fits P e
  | _ => false
def fitsL (P : Program) (off : Nat) : List Field -> List Shape -> Bool
 | [], [] => true
 | f :: fs, s :: l => f.offset == off && P.cellsOf f.type == s.size && s.fits P f.type && fitsL P (off + s.size) fs l
 | _, _ => false
end
def okN (p : List Tree -> Prop) : Nat -> List Tree -> Prop
 | 0, ts => ts = []
 | n + 1, ts => ∃ a b, ts = a ++ b /\ p a /\ okN p n b
mutual
def Shape.ok : Shape -> List Tree -> Prop
 | .int k, ts => ∃ n, ts = [.v (.int k n)] /\ (Lit.int k n).wf = true
 | .bool, ts => ∃ b, ts = [.v (.bool b)]
 | .slice s, ts => ∃ cp rows, ts = [.lst cp rows] /\ rows.length < 2 ^ 63 /\ ∀ r ∈ rows, s.ok r
 | .struct l, ts => okL l ts
 | .arr n s, ts => okN s.ok n ts
def okL : List Shape -> List Tree -> Prop
 | [], ts => ts = []
 | s :: l, ts => ∃ a b, ts = a ++ b /\ s.ok a /\ okL l b
end
theorem okN_len {p : List Tree -> Prop} {m : Nat} (hp : ∀ ts, p ts -> ts.length = m) : ∀ (n : Nat) (ts : List Tree), okN p n ts -> ts.length = n * m
 | 0, ts, h => by rw [show ts = [] from h]; simp
 | n + 1, ts, ⟨a, b, h1, h2, h3⟩ => by rw [h1, List.length_append, hp a h2, okN_len hp n b h3, Nat.succ_mul]; omega
mutual
theorem Shape.ok_len : ∀ (s : Shape) (ts : List Tree), s.ok ts -> ts.length = s.size
 | .int k, ts, h => by obtain ⟨n, rfl, _⟩ := h; rfl
 | .bool, ts, h => by obtain ⟨n, rfl⟩ := h; rfl
 | .slice s, ts, h => by obtain ⟨_, _, rfl, _⟩ := h; rfl
 | .struct l, ts, h => okL_len l ts h
 | .arr n s, ts, h => okN_len (fun ts h => s.ok_len ts h) n ts h
theorem okL_len : ∀ (l : List Shape) (ts : List Tree), okL l ts -> ts.length = sizeL l
 | [], ts, h => by rw [show ts = [] from h]; rfl
 | s :: l, ts, h => by
  obtain ⟨a, b, h1, h2, h3⟩ := h
  rw [h1, List.length_append, s.ok_len a h2, okL_len l b h3]; rfl
end
section
variable {H : Type} {enc : TypeId × Value -> H} {P : Program} {w : World} {sp : Nat -> Bool} {hd : Bool}
def TRepL (w : World) (ts : List Tree) (cs : List Value) : Prop := ts.length = cs.length /\ ∀ (i : Nat) (t : Tree) (v : Value), ts[i]? = some t -> cs[i]? = some v -> TRep (old w) w t v
theorem TRepL.append {a b : List Tree} {c d : List Value} (h1 : TRepL w a c) (h2 : TRepL w b d) : TRepL w (a ++ b) (c ++ d) := by
 refine ⟨by rw [List.length_append, List.length_append, h1.1, h2.1], fun i t v ht hv => ?_⟩
 rcases Nat.lt_or_ge i a.length with h | h
 ·rw [List.getElem?_append_left h] at ht
  rw [List.getElem?_append_left (by rw [<- h1.1]; exact h)] at hv
  exact h1.2 i t v ht hv
 ·rw [List.getElem?_append_right h] at ht
  rw [List.getElem?_append_right (by rw [<- h1.1]; exact h), <- h1.1] at hv
  exact h2.2 _ t v ht hv
theorem TRepL.one {t : Tree} {v : Value} (h : TRep (old w) w t v) : TRepL w [t] [v] := by
 refine ⟨rfl, fun i t' v' ht hv => ?_⟩
 cases i with
 | zero => simp at ht hv; subst ht hv; exact h
 | succ i => simp at ht
def Read (enc : TypeId × Value -> H) (P : Program) (w : World) (sp : Nat -> Bool) (hd : Bool) (s : Shape) : Prop :=
 ∀ (t : TypeId), s.fits P t = true -> ∀ (n : Nat) (cs : List Value) (x : DataW H × List MemPlace), DataW.trod enc P w 0 sp hd n t cs = some x -> ∃ ts, s.ok ts /\ TRepL w ts cs
theorem row_split {cs : List Value} (i m : Nat) : cs.drop i = (cs.drop i).take m ++ cs.drop (i + m) := by
 rw [<- List.drop_drop, List.take_append_drop]
theorem readL : ∀ (l : List Shape), (∀ s ∈ l, Read enc P w sp hd s) -> ∀ (fs : List Field) (off : Nat), fitsL P off fs l = true -> ∀ (n : Nat) (cs : List Value), cs.length = off + sizeL l ->
  (∀ f ∈ fs, ∃ x, DataW.trod enc P w 0 sp hd n f.type ((cs.drop f.offset).take (P.cellsOf f.type)) = some x) -> ∃ ts, okL l ts /\ TRepL w ts (cs.drop off)
 | [], hl, [], off, hf, n, cs, hn, hx => by
  refine ⟨[], rfl, ?_⟩
  rw [List.drop_of_length_le (by rw [hn]; simp [sizeL])]
  exact ⟨rfl, fun i t v h => by simp at h⟩
 | [], hl, f :: fs, off, hf, n, cs, hn, hx => by simp [fitsL] at hf
 | s :: l, hl, [], off, hf, n, cs, hn, hx => by simp [fitsL] at hf
 | s :: l, hl, f :: fs, off, hf, n, cs, hn, hx => by
  simp only [fitsL, Bool.and_eq_true, beq_iff_eq] at hf
  obtain ⟨⟨⟨h1, h2⟩, h3⟩, h4⟩ := hf
  obtain ⟨x, hx1⟩ := hx f (List.mem_cons_self ..)
  rw [h1, h2] at hx1
  obtain ⟨a, ha, hra⟩ := hl s (List.mem_cons_self ..) f.type h3 n _ x hx1
  obtain ⟨b, hb, hrb⟩ := readL l (fun s' hs' => hl s' (List.mem_cons_of_mem _ hs')) fs (off + s.size) h4 n cs (by rw [hn, sizeL]; omega) (fun f' hf' => hx f' (List.mem_cons_of_mem _ hf'))
  refine ⟨a ++ b, ⟨a, b, rfl, ha, hb⟩, ?_⟩
  rw [row_split off s.size]
  exact hra.append hrb
theorem readN {s : Shape} (hs : Read enc P w sp hd s) {e : TypeId} (he : s.fits P e = true) : ∀ (m i : Nat) (n : Nat) (cs : List Value), cs.length = (i + m) * s.size ->
  (∀ j, j < m -> ∃ x, DataW.trod enc P w 0 sp hd n e ((cs.drop ((i + j) * s.size)).take s.size) = some x) -> ∃ ts, okN s.ok m ts /\ TRepL w ts (cs.drop (i * s.size))
 | 0, i, n, cs, hn, hx => by
  refine ⟨[], rfl, ?_⟩
  rw [List.drop_of_length_le (by rw [hn]; simp)]
  exact ⟨rfl, fun i t v h => by simp at h⟩
 | m + 1, i, n, cs, hn, hx => by
  obtain ⟨x, hx1⟩ := hx 0 (by omega)
  rw [Nat.add_zero] at hx1
  obtain ⟨a, ha, hra⟩ := hs e he n _ x hx1
  obtain ⟨b, hb, hrb⟩ := readN hs he m (i + 1) n cs (by rw [hn]; congr 1; omega) (fun j hj => by
   have := hx (j + 1) (by omega)
   rwa [show i + (j + 1) = i + 1 + j by omega] at this)
  refine ⟨a ++ b, ⟨a, b, rfl, ha, hb⟩, ?_⟩
  rw [row_split (i * s.size) s.size]
  rw [Nat.succ_mul] at hrb
  exact hra.append hrb
theorem add_none (b o n : Nat) : (⟨b, o, none⟩ : Addr).add n = ⟨b, o + n, none⟩ := by
 unfold Addr.add
 split
 ·rename_i h; subst h; rfl
 ·rfl
theorem wf_one {k : IntKind} {n : Int} : one (.int k n) := by intro l; exact ⟨by simp, by simp⟩
theorem Shape.read : ∀ (s : Shape), Read enc P w sp hd s
  | .int k => fun t hf n cs x hx => by
    have hu : P.underlying t = some (.int k) := by
      unfold Shape.fits at hf
      split at hf
      · rename_i k' h; rw [h, of_decide_eq_true hf]
      · cases hf
    obtain ⟨m, rfl, _, hw⟩ := DataW.trod_int hu hx
    exact ⟨_, ⟨m, rfl, hw⟩, .one (.v _ wf_one)⟩
  | .bool => fun t hf n cs x hx => by
    have hu : P.underlying t = some .bool := by
      unfold Shape.fits at hf
      split at hf
      · rename_i h; exact h
      · cases hf
    obtain ⟨b, rfl, _⟩ := DataW.trod_bool hu hx
    exact ⟨_, ⟨b, rfl⟩, .one (.v _ (by intro l; exact ⟨by simp, by simp⟩))⟩
  | .struct l => fun t hf n cs x hx => by
    unfold Shape.fits at hf
    split at hf
    · rename_i fs hu
      simp only [Bool.and_eq_true, beq_iff_eq] at hf
      obtain ⟨xs, n', rfl, _, hl, hxl, hfs⟩ := DataW.trod_struct hu hx
      obtain ⟨ts, h1, h2⟩ := readL l (fun s hs => Shape.read s) fs.toList 0 hf.2 n' cs (by rw [hl, hf.1]; omega) (fun f hfm => by
        obtain ⟨i, hi, hfi⟩ := List.mem_iff_getElem.1 hfm
        have hi' : i < fs.size := by simpa using hi
        have hg : fs[i]? = some f := by rw [Array.getElem?_eq_getElem hi']; simpa using hfi
        have := hfs i f hg
        have hxi : i < xs.length := by rw [hxl]; exact hi'
        rw [List.getElem?_eq_getElem hxi] at this
        exact ⟨_, this⟩)
      exact ⟨ts, h1, by simpa using h2⟩
    · cases hf
  | .arr m s => fun t hf n cs x hx => by
    unfold Shape.fits at hf
    split at hf
    · rename_i m' e hu
      simp only [Bool.and_eq_true, beq_iff_eq] at hf
      obtain ⟨⟨⟨rfl, h1⟩, h2⟩, h3⟩ := hf
      cases n with
      | zero => simp [DataW.trod] at hx
      | succ n =>
        unfold DataW.trod at hx
        rw [hu] at hx
        simp only at hx
        split at hx
        · rename_i hl
          obtain ⟨xs, hxs, _⟩ := Option.map_eq_some_iff.1 hx
          obtain ⟨ts, h4, h5⟩ := readN (Shape.read s) h3 m' 0 n cs (by rw [hl, h1, Nat.zero_add]) (fun j hj => by
            have := mapM_some_get hxs j j (by simp [hj])
            have hlen := mapM_some_length hxs
            rw [List.length_range] at hlen
            rw [List.getElem?_eq_getElem (by omega)] at this
            rw [h2] at this
            rw [Nat.zero_add]
            exact ⟨_, this⟩)
          exact ⟨ts, h4, by simpa using h5⟩
        · cases hx
    · cases hf
  | .slice s => fun t hf n cs x hx => by
    unfold Shape.fits at hf
    split at hf
    · rename_i e hu
      simp only [Bool.and_eq_true, beq_iff_eq, decide_eq_true_eq] at hf
      obtain ⟨⟨h1, h2⟩, h3⟩ := hf
      rcases DataW.trod_slice hu hx with ⟨rfl, _⟩ | ⟨a, len, cap, elems, rest, n', rfl, rfl, _, _, hlc, hcap, hel, hread, _, _⟩
      · refine ⟨[.lst false []], ⟨false, [], rfl, by simp, by simp⟩, .one (.lst false [] none 0 0 0 0 (fun _ _ => default) (by simp) (by omega) (by simp) (by simp) (by simp) (by simp) (by simp) (fun i j t ht => by simp [at2] at ht) (fun i j t ht => by simp [at2] at ht))⟩
      · have hm : maxLen = 2 ^ 63 - 1 := rfl
        have hrow : ∀ i, i < len -> ∃ ts css, s.ok ts /\ TRepL w ts css /\ w.cells? 0 (a.add (i * s.size)) s.size = some css := fun i hi => by
          have hr := hread i hi
          rw [List.getElem?_eq_getElem (by omega), h1] at hr
          obtain ⟨css, hc, hx2⟩ := Option.bind_eq_some_iff.1 hr
          obtain ⟨ts, h4, h5⟩ := Shape.read s e h3 _ _ _ hx2
          exact ⟨ts, css, h4, h5, hc⟩
        let f : Nat -> List Tree := fun i => if h : i < len then (hrow i h).choose else []
        let g : Nat -> List Value := fun i => if h : i < len then (hrow i h).choose_spec.choose else []
        have hfg : ∀ i, i < len -> s.ok (f i) /\ TRepL w (f i) (g i) /\ w.cells? 0 (a.add (i * s.size)) s.size = some (g i) := fun i hi => by
          have hfi : f i = (hrow i hi).choose := dif_pos hi
          have hgi : g i = (hrow i hi).choose_spec.choose := dif_pos hi
          rw [hfi, hgi]
          exact (hrow i hi).choose_spec.choose_spec
        have hspot : 0 < len -> a = ⟨a.block, a.off, none⟩ /\ a.block < w.heap.size := fun h0 => by
          obtain ⟨hok, hrep, hc⟩ := hfg 0 h0
          obtain ⟨_, hl, hce⟩ := World.cells?_some hc
          have := hce 0 h2
          rw [List.getElem?_eq_getElem (by omega)] at this
          have ha : (a.add (0 * s.size)).add 0 = a := by simp [Addr.add]
          rw [ha] at this
          refine ⟨?_, ?_⟩
          · unfold World.cell? at this
            split at this
            · split at this
              · cases this
              · rename_i hs
                obtain ⟨b, o, sp'⟩ := a
                cases sp' with
                | none => rfl
                | some _ => simp at hs
            · cases this
          · have := World.cells?_block hc h2
            simpa [Addr.add] using this
        have hrows : ∀ i, (((List.range len).map f)[i]?) = if i < len then some (f i) else none := fun i => by
          rw [List.getElem?_map]
          by_cases h : i < len
          · rw [if_pos h, List.getElem?_range h]; rfl
          · rw [if_neg h, List.getElem?_eq_none (by simpa using h)]; rfl
        have hat : ∀ i j t, at2 ((List.range len).map f) i j = some t -> i < len /\ (f i)[j]? = some t := fun i j t ht => by
          unfold at2 at ht
          rw [hrows] at ht
          by_cases h : i < len
          · rw [if_pos h] at ht; exact ⟨h, ht⟩
          · rw [if_neg h] at ht; cases ht
        have hcell : ∀ i j t, at2 ((List.range len).map f) i j = some t -> ∃ v, (g i)[j]? = some v /\ w.cell? ⟨a.block, a.off + i * s.size + j, none⟩ = some v /\ TRep (old w) w t v /\ a.block < w.heap.size := fun i j t ht => by
          obtain ⟨hi, hj⟩ := hat i j t ht
          obtain ⟨hok, hrep, hc⟩ := hfg i hi
          obtain ⟨_, hl, hce⟩ := World.cells?_some hc
          have hjl : j < s.size := by
            have := (List.getElem?_eq_some_iff.1 hj).1
            rw [s.ok_len _ hok] at this; exact this
          have hv := hce j hjl
          obtain ⟨hs1, hs2⟩ := hspot (by omega)
          refine ⟨(g i)[j]'(by omega), List.getElem?_eq_getElem (by omega), ?_, hrep.2 j t _ hj (List.getElem?_eq_getElem (by omega)), hs2⟩
          rw [List.getElem?_eq_getElem (by omega)] at hv
          rw [<- hv]
          rw [hs1, add_none, add_none]
        refine ⟨[.lst false ((List.range len).map f)], ⟨false, _, rfl, by rw [List.length_map, List.length_range]; omega, fun r hr => ?_⟩, ?_⟩
        · obtain ⟨i, hi, rfl⟩ := List.mem_map.1 hr
          exact (hfg i (List.mem_range.1 hi)).1
        · refine .one ?_
          have hl : ((List.range len).map f).length = len := by rw [List.length_map, List.length_range]
          have := TRep.lst (S := old w) (w := w) false ((List.range len).map f) (some a) a.block a.off s.size cap (fun i j => ((g i)[j]?).getD default) (by rw [hl]; exact hlc) (by omega) (by rw [hl]; omega) (by simp)
            (fun hne => by rw [(hspot (by rcases Nat.eq_zero_or_pos len with h | h; · subst h; simp at hne
                                          · exact h)).1]) (by simp)
            (fun r hr => by obtain ⟨i, hi, rfl⟩ := List.mem_map.1 hr; exact s.ok_len _ (hfg i (List.mem_range.1 hi)).1)
            (fun i j t ht => by obtain ⟨v, h4, h5, h6, h7⟩ := hcell i j t ht; exact ⟨h7, by rw [h5, h4]; rfl⟩)
            (fun i j t ht => by obtain ⟨v, h4, h5, h6, h7⟩ := hcell i j t ht; rw [h4]; exact h6)
          rw [hl] at this
          exact this
    · cases hf
termination_by s => SizeOf.sizeOf s
def Shape.tv (s : Shape) (ts : List Tree) : TV :=
 match s, ts with
 | .struct _, ts => .agg ts
 | .arr _ _, ts => .agg ts
 | _, [t] => .c t
 | _, ts => .agg ts
def isAggT (P : Program) (t : TypeId) : Bool := match P.underlying t with
 | some (.struct _) | some (.array _ _) => true
 | _ => false
theorem Shape.rep {s : Shape} {t : TypeId} (hf : s.fits P t = true) {v : Value} (hok : Value.okWide P w .any 0 t v) {ts : List Tree} (hs : s.ok ts) (h : TRepL w ts v.cells.toList) : VRep noβ (old w) w (s.tv ts).av v := by
 have agg : ∀ (cs : Array Value), v = .agg cs -> VRep noβ (old w) w (TV.agg ts).av v := fun cs hv => by
  subst hv
  have : Array.mk cs.toList = cs := rfl
  rw [show TV.av (.agg ts) = AV.agg (ts.map .t) from rfl, <- this]
  refine .agg cs.toList (by rw [List.length_map]; exact h.1.symm) fun i c hc => ?_
  rw [List.getElem?_map] at hc
  obtain ⟨t', ht, rfl⟩ := Option.map_eq_some_iff.1 hc
  have hi := (List.getElem?_eq_some_iff.1 ht).1
  have hi2 : i < cs.toList.length := by have := h.1; simp only [Value.cells] at this; omega
  exact ⟨_, List.getElem?_eq_getElem hi2, .t (h.2 i t' _ ht (List.getElem?_eq_getElem hi2))⟩
 have scal : isAggT P t = false -> ts.length = 1 -> VRep noβ (old w) w (match ts with | [t] => TV.c t | ts => .agg ts).av v := fun hna hl => by
  match ts, hl, h with
  | [t'], _, h =>
   have hc : v.cells = #[v] := by
    cases v with
    | agg cs =>
     unfold Value.okWide at hok
     unfold isAggT at hna
     split at hok
     ·rename_i h1; rw [h1] at hna; cases hna
     ·rename_i h1; rw [h1] at hna; cases hna
     ·unfold Cell.okWide at hok
      split at hok <;> first | (rename_i h1 h2; cases h2; done) | skip
      all_goals first | (unfold Cell.ok at hok; split at hok <;> first | (rename_i h1 h2; cases h2; done) | exact hok.elim) | skip
    | _ => rfl
   have := h.2 0 t' v rfl (by rw [hc]; rfl)
   exact .c (.t this)
 cases s with
 | int k =>
  have hu : P.underlying t = some (.int k) := by
   unfold Shape.fits at hf
   split at hf
   ·rename_i k' h; rw [h, of_decide_eq_true hf]
   ·cases hf
  obtain ⟨m, rfl, _⟩ := hs
  exact scal (by unfold isAggT; rw [hu]) rfl
 | bool =>
  have hu : P.underlying t = some .bool := by
   unfold Shape.fits at hf
   split at hf
   ·rename_i h; exact h
   ·cases hf
  obtain ⟨m, rfl⟩ := hs
  exact scal (by unfold isAggT; rw [hu]) rfl
 | slice s =>
  unfold Shape.fits at hf
  split at hf
  ·rename_i e hu
   obtain ⟨_, _, rfl, _⟩ := hs
   exact scal (by unfold isAggT; rw [hu]) rfl
  ·cases hf
 | struct l =>
  unfold Shape.fits at hf
  split at hf
  ·rename_i fs hu
   unfold Value.okWide at hok
   rw [hu] at hok
   obtain ⟨cs, hv, _⟩ := hok
   exact agg cs hv
  ·cases hf
 | arr n s =>
  unfold Shape.fits at hf
  split at hf
  ·rename_i m e hu
   unfold Value.okWide at hok
   rw [hu] at hok
   obtain ⟨cs, hv, _⟩ := hok
   exact agg cs hv
  ·cases hf
def okAll : List Shape -> List (List Tree) -> Prop
 | [], l => l = []
 | s :: ss, l => ∃ ts r, l = ts :: r /\ s.ok ts /\ okAll ss r
def tvs : List Shape -> List (List Tree) -> List TV
 | s :: ss, ts :: r => s.tv ts :: tvs ss r
 | _, _ => []
def fitsAll (P : Program) : List TypeId -> List Shape -> Bool
 | [], [] => true
 | t :: ts, s :: ss => s.fits P t && decide (t < P.types.size) && P.readableRec t && fitsAll P ts ss
 | _, _ => false
theorem args_read : ∀ {tys : List TypeId} {shs : List Shape} {vs : List Value} {ds : List (DataW H)} {ps : List MemPlace}, DataW.TrodAll enc P w 0 sp true tys vs ds ps -> fitsAll P tys shs = true ->
  (∀ (j : Nat) t v, tys[j]? = some t -> vs[j]? = some v -> Value.okWide P w .any 0 t v) ->
  ∃ tss, okAll shs tss /\ vs.length = (tvs shs tss).length /\ ds.length = shs.length /\ ∀ (i : Nat) (x : TV), (tvs shs tss)[i]? = some x -> ∃ v, vs[i]? = some v /\ VRep noβ (old w) w x.av v
 | [], [], [], [], ps, h, hf, hv => ⟨[], rfl, rfl, rfl, fun i x hx => by simp [tvs] at hx⟩
 | t :: ts, s :: ss, v :: vs, d :: ds, ps, h, hf, hv => by
  obtain ⟨p, q, ⟨n, h1⟩, h2, _⟩ := h
  simp only [fitsAll, Bool.and_eq_true] at hf
  obtain ⟨⟨⟨f1, f2⟩, f3⟩, f4⟩ := hf
  obtain ⟨tss, g1, g2, g3, g4⟩ := args_read h2 f4 (fun j t v ht hx => hv (j + 1) t v (by simpa using ht) (by simpa using hx))
  obtain ⟨tr, k1, k2⟩ := s.read t f1 n _ _ h1
  refine ⟨tr :: tss, ⟨tr, tss, rfl, k1, g1⟩, by simp [tvs, g2], by simp [g3], fun i x hx => ?_⟩
  cases i with
  | zero =>
   simp only [tvs, List.getElem?_cons_zero, Option.some.injEq] at hx
   subst hx
   exact ⟨v, rfl, Shape.rep f1 (hv 0 t v rfl rfl) k1 k2⟩
  | succ i => simp only [tvs, List.getElem?_cons_succ] at hx ⊢; exact g4 i x hx
 | [], _ :: _, _, _, _, _, hf, _ => by simp [fitsAll] at hf
 | _ :: _, [], _, _, _, _, hf, _ => by simp [fitsAll] at hf
 | [], [], _ :: _, _, _, h, _, _ => by simp [DataW.TrodAll] at h
 | [], [], [], _ :: _, _, h, _, _ => by simp [DataW.TrodAll] at h
 | _ :: _, _ :: _, [], _, _, h, _, _ => by simp [DataW.TrodAll] at h
 | _ :: _, _ :: _, _ :: _, [], _, h, _, _ => by simp [DataW.TrodAll] at h
theorem args_stay (hl : laidOutB P = true) {W W' : World} {sp' : Nat -> Bool} (hb : Below W.heap.size W W') : ∀ {tys : List TypeId} {shs : List Shape} {vs : List Value} {ds : List (DataW H)} {ps : List MemPlace}, DataW.TrodAll enc P W 0 (fun _ => true) true tys vs ds ps -> fitsAll P tys shs = true ->
  (∀ p ∈ ps, p.block < W.heap.size) -> (∀ p ∈ ps, sp' p.block = true) -> DataW.TrodAll enc P W' 0 sp' true tys vs ds ps
 | [], [], [], [], ps, h, hf, h1, h2 => h
 | t :: ts, s :: ss, v :: vs, d :: ds, ps, h, hf, h1, h2 => by
  obtain ⟨p, q, k1, k2, rfl⟩ := h
  simp only [fitsAll, Bool.and_eq_true, decide_eq_true_eq] at hf
  obtain ⟨⟨⟨f1, f2⟩, f3⟩, f4⟩ := hf
  exact ⟨p, q, Go.WideElems.Trod_stays hl f3 f2 k1 (fun x hx => hb.same (h1 x (List.mem_append_left _ hx))) (fun x hx => h2 x (List.mem_append_left _ hx)),
   args_stay hl hb k2 f4 (fun x hx => h1 x (List.mem_append_right _ hx)) (fun x hx => h2 x (List.mem_append_right _ hx)), rfl⟩
 | [], _ :: _, _, _, _, _, hf, _, _ => by simp [fitsAll] at hf
 | _ :: _, [], _, _, _, _, hf, _, _ => by simp [fitsAll] at hf
 | [], [], _ :: _, _, _, h, _, _, _ => by simp [DataW.TrodAll] at h
 | [], [], [], _ :: _, _, h, _, _, _ => by simp [DataW.TrodAll] at h
 | _ :: _, _ :: _, [], _, _, h, _, _, _ => by simp [DataW.TrodAll] at h
 | _ :: _, _ :: _, _ :: _, [], _, h, _, _, _ => by simp [DataW.TrodAll] at h
theorem law_row {f : FuncId} {fn : Func} {spec : ChangeSpec} {shs : List Shape} {outs : List (Option Blk)} (hl : laidOutB P = true) (hf : fitsAll P fn.params.toList shs = true) (hvars : spec.vars = []) {tb0 : TypeId} (hres : fn.resultTypes = #[tb0]) (hb4 : P.underlying tb0 = some .bool)
  {apart fresh handsOn again : Bool} (hfn : ∀ ds : List (DataW H), ds.length = shs.length -> (spec.fn H ds).args = ds /\ (spec.fn H ds).results = [.lit (.bool true)] /\ (spec.fn H ds).vars = [])
  (hc : ∀ tss, okAll shs tss -> ACall P f ((tvs shs tss).map .val) ⟨[.val (tb true)], outs⟩)
  {W : World} {args : Array Value} {ds gs : List (DataW H)} {before : List MemPlace} (hval : ∀ (j : Nat) t v, fn.params[j]? = some t -> args[j]? = some v -> Value.okWide P W .any 0 t v)
  (hW : DataW.Whole enc P fn.params.toList spec.vars apart W args.toList ds gs before) :
  Calls P f args W fun e W' => ∃ v, e = .returned v /\ spec.post enc P fn apart fresh handsOn again W args v W' := by
 have hW' := hW
 obtain ⟨p, q, hA, hV, rfl, hfz, hnd⟩ := hW
 rw [hvars] at hV
 have hgq : gs = [] /\ q = [] := by
  cases gs with
  | nil => exact ⟨rfl, hV⟩
  | cons g gs => exact hV.elim
 obtain ⟨rfl, rfl⟩ := hgq
 obtain ⟨tss, hok, hlen, hdl, hrep⟩ := args_read hA hf (fun j t v ht hv => hval j t v (by simpa using ht) (by simpa using hv))
 have h := law_calls (hc tss hok) W args.toList hlen hrep
 have hargs : args.toList.toArray = args := rfl
 rw [hargs] at h
 obtain ⟨e1, e2, e3⟩ := hfn ds hdl
 have hbefore : ∀ x ∈ p, x.block < W.heap.size := fun x hx => hW'.lt x (List.mem_append_left _ hx)
 refine h.mono fun e W' ⟨he, hg⟩ => ?_
 subst he
 refine ⟨_, rfl, post_of_below (pa := p) (pv := []) hW' (fun b sp hd => ?_) (fun sp hs => ?_) (fun sp hs => ?_) rfl hg ?_⟩
 ·rw [List.append_nil, e2, hres]
  exact trodAll_cons_mk (shut_bool hb4 _) trodAll_mk0
 ·rw [List.append_nil, e1]
  exact args_stay hl hg hA hf hbefore (fun x hx => hs x (List.mem_append_left _ hx))
 ·rw [List.append_nil, e3, hvars]; rfl
 ·exact ok_one hres rfl (okWide_bool_mk hb4 _)
end
end Go.Abs
end
section
namespace Go.Proofs.YtlhcladkbhngoaaGreat
open Go Go.Abs Go.Abs.M Go.Proofs
theorem list_ex {α β : Type} {p : α -> β -> Prop} : ∀ (l : List α), (∀ a ∈ l, ∃ b, p a b) -> ∃ m : List β, m.length = l.length /\ (∀ (i : Nat) (a : α) (b : β), l[i]? = some a -> m[i]? = some b -> p a b) /\ ∀ b ∈ m, ∃ a ∈ l, p a b
 | [], _ => ⟨[], rfl, by simp, by simp⟩
 | a :: l, h => by
  obtain ⟨b, hb⟩ := h a (.head _)
  obtain ⟨m, h1, h2, h3⟩ := list_ex l fun x hx => h x (.tail _ hx)
  refine ⟨b :: m, by simp [h1], fun i x y hx hy => ?_, fun y hy => ?_⟩
  ·cases i with
   | zero => simp at hx hy; subst hx hy; exact hb
   | succ i => exact h2 i x y (by simpa using hx) (by simpa using hy)
  ·rcases List.mem_cons.1 hy with rfl | hy
   ·exact ⟨a, .head _, hb⟩
   ·obtain ⟨x, e1, e2⟩ := h3 y hy
    exact ⟨x, .tail _ e1, e2⟩
theorem words_ok : ∀ (r : Abs.Rows), (∀ x ∈ r, (Shape.int .u32).ok x) -> ∃ l, r = W .u32 l /\ Wd l
 | [], _ => ⟨[], rfl, Wd.nil⟩
 | x :: r, h => by
  obtain ⟨n, rfl, hn⟩ := h x (.head _)
  obtain ⟨l, rfl, hl⟩ := words_ok r fun y hy => h y (.tail _ hy)
  have := bd_u32 hn
  exact ⟨n :: l, rfl, Wd.cons this.1 this.2 hl⟩
def intS : Shape := .struct [.bool, .slice (.int .u32)]
def ratS : Shape := .struct [intS, intS]
theorem ratS_ok {ts : List Tree} (h : ratS.ok ts) : ∃ c : QC, TsLe ts c.row /\ (Wd c.l /\ Wd c.m) /\ c.l.length < 9223372036854775808 /\ c.m.length < 9223372036854775808 := by
 obtain ⟨_, _, rfl, ⟨_, _, rfl, ⟨s, rfl⟩, _, _, rfl, ⟨c1, r1, rfl, n1, h1⟩, rfl⟩, _, _, rfl, ⟨_, _, rfl, ⟨t, rfl⟩, _, _, rfl, ⟨c2, r2, rfl, n2, h2⟩, rfl⟩, rfl⟩ := h
 obtain ⟨l, rfl, hl⟩ := words_ok r1 h1
 obtain ⟨m, rfl, hm⟩ := words_ok r2 h2
 rw [qak] at n1 n2
 exact ⟨⟨s, l, t, m⟩, ⟨.v _, .drop _ _, .v _, .drop _ _, trivial⟩, ⟨hl, hm⟩, n1, n2⟩
open Go Go.Abs Go.Proofs
structure MxBig (R : Abs.Rows) (n : Nat) (r : Nat -> Abs.Rows) (ln : Nat -> Nat) (q : Nat -> Nat -> RN) : Prop where
 len : R.length = n
 nb : n < 9223372036854775808
 row : ∀ i, i < n -> R[i]? = some [.lst false (r i)]
 rl : ∀ i, i < n -> (r i).length = ln i
 lb : ∀ i, i < n -> ln i < 9223372036854775808
 cell : ∀ i, i < n -> ∀ j, j < ln i -> (r i)[j]? = some (q i j).row
def MxSmall (n : Nat) (ln : Nat -> Nat) (q : Nat -> Nat -> RN) : Prop := n <= 8 /\ ∀ i, i < n -> ln i <= 8 /\ ∀ j, j < ln i -> (q i j).r.length <= 4 /\ (q i j).p.length <= 4
theorem MxBig.small {R : Abs.Rows} {n : Nat} {r : Nat -> Abs.Rows} {ln : Nat -> Nat} {q : Nat -> Nat -> RN} (h : MxBig R n r ln q) (s : MxSmall n ln q) : MxRows R n r ln q :=
 ⟨h.len, s.1, h.row, h.rl, fun i hi => (s.2 i hi).1, h.cell⟩
def lvSt (R : Abs.Rows) (I : Int) : St := mkSt 68 [.c (.t (.lst false R)), .junk, vb false, vb true, vi .i64 I] [none]
def lviSt (R : Abs.Rows) (I J : Int) : St := mkSt 68 [.c (.t (.lst false R)), .junk, vb false, vb true, vi .i64 I, vi .i64 J] [none]
theorem mxlaw_call (hsan : ACall Tryz.prog 4 [] ⟨[.val (tb true)], []⟩) {R : Abs.Rows} {n : Nat} {r : Nat -> Abs.Rows} {ln : Nat -> Nat} {q : Nat -> Nat -> RN} (h : MxBig R n r ln q)
  (hval : MxSmall n ln q -> ∃ b : Bool, ACall Tryz.prog 5 [.val (tl R)] ⟨[.val (tb b)], [none]⟩ /\ ACall Tryz.prog 6 [.val (tl R)] ⟨[.val (tb b)], [none]⟩) :
  ACall Tryz.prog 3 [.val (tl R)] ⟨[.val (tb true)], [none]⟩ := by
 have hnb := h.nb
 refine callZ ccOk mixed [.val] Tryz.func3 rfl rfl (by kernel_rfl) fun zA zB zC zD zE zF zG zH zI zJ zK zL zM zN zO zP zQ zR zS zT zU zV zX zY zZ za zb zc zd ze zf zg zh zi zj zk zl zm zn zo zp zq zr zs zt zu zw zx zy A L F hS hF => ?_
 have y0 : zQ true = false := by rw [hS.not]; rfl
 obtain ⟨N, hN, hN2⟩ : ∃ N : Int, N = n /\ zY (zg R) = N := ⟨_, rfl, by rw [hS.ofN, hS.len, h.len]⟩
 cbv
 refine ⟨_, hS.call (hsan), ?_⟩
 cbv
 refine bF (y0) ?_
 rw [hN2]
 have hN : N = (n : Int) := hN
 by_cases hbig : 8 < n
 ·have l0 : zO 8 N = true := by rw [hS.lt]; exact decide_eq_true (by omega)
  refine bT (l0) ?_
  exact hF _ (ResLe.refl _)
 have l0 : zO 8 N = false := by rw [hS.lt]; exact decide_eq_false (by omega)
 refine bF (l0) ?_
 refine loopZR ccOk mixed hS (fun (m : Nat) s' => ∃ (i : Nat) (I : Int), I = i /\ m + i = n /\ (∀ k, k < i -> ln k <= 8 /\ ∀ j, j < ln k -> (q k j).r.length <= 4 /\ (q k j).p.length <= 4) /\ s' = lvSt R I) (n := n) (s0 := lvSt R 0) (qa3 ?_ ?_) rfl (by show 1 <= 1; omega) ?_ ?_
 ·simp [leT, lvSt, mkSt, vi, vb]
 ·simp [leH, lvSt, mkSt]
 ·exact ⟨0, 0, rfl, by omega, by omega, rfl⟩
 ·rintro m sx ⟨i, I, hI, hm, hall, hs1⟩
  by_cases hin : i = n
  ·have l1 : zO I N = false := by rw [hS.lt]; exact decide_eq_false (by omega)
   obtain ⟨b, c1, c2⟩ := hval ⟨by omega, fun k hk => hall k (by omega)⟩
   have ebb : zR b b = true := by rw [hS.beq]; cases b <;> rfl
   subst hs1
   cbv
   rw [hN2]
   refine bF (l1) ?_
   refine ⟨_, hS.call (c1), ?_⟩
   cbv
   refine ⟨_, hS.call (c2), ?_⟩
   cbv
   refine bT (ebb) ?_
   exact hF _ (ResLe.refl _)
  ·have hin : i < n := by omega
   have l1 : zO I N = true := by rw [hS.lt]; exact decide_eq_true (by omega)
   have j1 : zV I = i := by rw [hS.nat]; omega
   have j2 : zh R i = some [.lst false (r i)] := by rw [hS.nth]; exact h.row i hin
   have n0 : zP 0 I = true := by rw [hS.le]; exact decide_eq_true (by omega)
   obtain ⟨ri, hri⟩ : ∃ x, x = r i := ⟨_, rfl⟩
   rw [<- hri] at j2
   have e1 : zY (zg ri) = (ln i : Int) := by rw [hS.ofN, hS.len, hri, h.rl i hin]
   obtain ⟨Li, hLi⟩ : ∃ x : Int, x = (ln i : Int) := ⟨_, rfl⟩
   rw [<- hLi] at e1
   by_cases hd : ln i <= 8
   ·have d1 : zO 8 Li = false := by rw [hS.lt]; exact decide_eq_false (by omega)
    subst hs1
    cbv
    rw [hN2]
    refine bT l1 ?_
    rw [j1, j2]
    cbv
    refine nd (n0) ?_
    rw [e1]
    refine bF (d1) ?_
    have hLi : Li = (ln i : Int) := hLi
    have hI : I = (i : Int) := hI
    apply hideP (L := L) (∀ j, j < ln i -> (q i j).r.length <= 4 /\ (q i j).p.length <= 4)
    ·intro Q' hq hret
     refine loopZR ccOk mixed hS (fun (m : Nat) s' => ∃ (j : Nat) (J : Int), J = j /\ m + j = ln i /\ (∀ k, k < j -> (q i k).r.length <= 4 /\ (q i k).p.length <= 4) /\ s' = lviSt R I J) (n := ln i) (s0 := lviSt R I 0) (qa3 ?_ ?_) rfl (by show 1 <= 1; omega) ?_ ?_
     ·simp [leT, lviSt, mkSt, vi, vb]
     ·simp [leH, lviSt, mkSt]
     ·exact ⟨0, 0, rfl, by omega, by omega, rfl⟩
     ·rintro m2 sx ⟨j, J, hJ, hm2, hpre, hs1⟩
      by_cases hj : j = ln i
      ·have hJL : J = Li := by omega
       have hgo : ∀ k, k < ln i -> (q i k).r.length <= 4 /\ (q i k).p.length <= 4 := fun k hk => hpre k (by omega)
       clear hpre
       subst hJL
       have l3 : zO J J = false := by rw [hS.lt]; exact decide_eq_false (by omega)
       subst hs1
       cbv
       rw [j1, j2]
       cbv
       refine nd (n0) ?_
       rw [e1]
       refine bF l3 ?_
       exact hq hgo
      ·have hj : j < ln i := by omega
       have l3 : zO J Li = true := by rw [hS.lt]; exact decide_eq_true (by omega)
       have k1 : zV J = j := by rw [hS.nat]; omega
       have k2 : zh ri j = some (q i j).row := by rw [hS.nth, hri]; exact h.cell i hin j hj
       have n2 : zP 0 J = true := by rw [hS.le]; exact decide_eq_true (by omega)
       obtain ⟨J', hJ', i1⟩ : ∃ J' : Int, J' = ((j + 1 : Nat) : Int) /\ zA .i64 (zB J 1) = J' := ⟨J + 1, by omega, by rw [hS.add, hS.wrap, wrap_i64 (by omega) (by omega)]⟩
       have hjj : m2 - 1 < m2 := by omega
       have hnx : ((q i j).r.length <= 4 /\ (q i j).p.length <= 4) -> ∃ (j2 : Nat) (J2 : Int), J2 = j2 /\ (m2 - 1) + j2 = ln i /\ (∀ k, k < j2 -> (q i k).r.length <= 4 /\ (q i k).p.length <= 4) /\ lviSt R I J' = lviSt R I J2 := fun hh => ⟨j + 1, J', hJ', by omega, fun k hk => by
        by_cases e : k = j
        ·rw [e]; exact hh
        ·exact hpre k (by omega), rfl⟩
       have e40 : ∀ l : Abs.Rows, zO 4 (zY (zg l)) = decide (4 < l.length) := fun l => by
        rw [hS.len, hS.ofN, hS.lt]
        by_cases h : 4 < l.length
        ·rw [decide_eq_true h]; exact decide_eq_true (by omega)
        ·rw [decide_eq_false h]; exact decide_eq_false (by omega)
       obtain ⟨c, hc⟩ : ∃ c, c = q i j := ⟨_, rfl⟩
       rw [<- hc] at k2 hnx
       obtain ⟨s, w, t, p⟩ := c
       have k2 : zh ri j = some [.v (.bool s), .lst false w, .v (.bool t), .lst false p] := k2
       have e4 := e40 w
       have e5 := e40 p
       by_cases h4 : 4 < w.length
       ·rw [decide_eq_true h4] at e4
        clear hpre e40 hc hnx
        subst hs1
        cbv
        rw [j1, j2]
        cbv
        refine nd (n0) ?_
        rw [e1]
        refine bT l3 ?_
        rw [j1, j2]
        cbv
        refine nd (n0) ?_
        rw [k1, k2]
        cbv
        refine nd (n2) ?_
        refine bT (e4) ?_
        apply hret
        cbv
        exact fin1 hF rfl
       ·rw [decide_eq_false h4] at e4
        by_cases h5 : 4 < p.length
        ·rw [decide_eq_true h5] at e5
         clear hpre e40 hc hnx
         subst hs1
         cbv
         rw [j1, j2]
         cbv
         refine nd (n0) ?_
         rw [e1]
         refine bT l3 ?_
         rw [j1, j2]
         cbv
         refine nd (n0) ?_
         rw [k1, k2]
         cbv
         refine nd (n2) ?_
         refine bF (e4) ?_
         rw [j1, j2]
         cbv
         refine nd (n0) ?_
         rw [k1, k2]
         cbv
         refine nd (n2) ?_
         refine bT e5 ?_
         apply hret
         cbv
         exact fin1 hF rfl
        ·rw [decide_eq_false h5] at e5
         have hnx := hnx ⟨by show w.length <= 4; omega, by show p.length <= 4; omega⟩
         clear hpre e40 hc
         subst hs1
         cbv
         rw [j1, j2]
         cbv
         refine nd (n0) ?_
         rw [e1]
         refine bT l3 ?_
         rw [j1, j2]
         cbv
         refine nd (n0) ?_
         rw [k1, k2]
         cbv
         refine nd (n2) ?_
         refine bF (e4) ?_
         rw [j1, j2]
         cbv
         refine nd (n0) ?_
         rw [k1, k2]
         cbv
         refine nd (n2) ?_
         refine bF (e5) ?_
         exact againR [] (s' := lviSt R I J') (k := m2 - 1) (by simp [leTR, lviSt, mkSt, vi, vb, AV.ren, AV.noTup, Cell.ren, i1, renF]) (by simp [leHR, lviSt, mkSt]) (by simp [liveR, lviSt, mkSt]) (by simp) rfl (Nat.le_refl 1) hjj hnx
    ·intro hgo
     obtain ⟨I', hI', i1⟩ : ∃ I' : Int, I' = ((i + 1 : Nat) : Int) /\ zA .i64 (zB I 1) = I' := ⟨I + 1, by omega, by rw [hS.add, hS.wrap, wrap_i64 (by omega) (by omega)]⟩
     have hjj : m - 1 < m := by omega
     have hnx : ∃ (i2 : Nat) (I2 : Int), I2 = i2 /\ (m - 1) + i2 = n /\ (∀ k, k < i2 -> ln k <= 8 /\ ∀ j, j < ln k -> (q k j).r.length <= 4 /\ (q k j).p.length <= 4) /\ lvSt R I' = lvSt R I2 := ⟨i + 1, I', hI', by omega, fun k hk => by
      by_cases e : k = i
      ·rw [e]; exact ⟨hd, hgo⟩
      ·exact hall k (by omega), rfl⟩
     cbv
     exact againR [] (s' := lvSt R I') (k := m - 1) (by simp [leTR, lvSt, mkSt, vi, vb, AV.ren, AV.noTup, Cell.ren, i1, renF]) (by simp [leHR, lvSt, mkSt]) (by simp [liveR, lvSt, mkSt]) (by simp) rfl (Nat.le_refl 1) hjj hnx
   ·have d1 : zO 8 Li = true := by rw [hS.lt]; exact decide_eq_true (by omega)
    subst hs1
    cbv
    rw [hN2]
    refine bT l1 ?_
    rw [j1, j2]
    cbv
    refine nd (n0) ?_
    rw [e1]
    refine bT (d1) ?_
    exact hF _ (ResLe.refl _)
open Go.Abs.M
theorem qrows_cell {cs : List QC} {j : Nat} (hj : j < cs.length) : (qrows cs)[j]? = some (RN.row ⟨(cs.getD j ⟨false, [], false, []⟩).s, W .u32 (cs.getD j ⟨false, [], false, []⟩).l, (cs.getD j ⟨false, [], false, []⟩).t, W .u32 (cs.getD j ⟨false, [], false, []⟩).m⟩) := by
 have e : cs[j]? = some (cs.getD j ⟨false, [], false, []⟩) := by rw [List.getD_eq_getElem?_getD, List.getElem?_eq_getElem hj]; rfl
 unfold qrows
 rw [List.getElem?_map, e]
 rfl
def mrows (css : List (List QC)) : Abs.Rows := css.map fun cs => [.lst false (qrows cs)]
def mq (css : List (List QC)) (i j : Nat) : QC := (css.getD i []).getD j ⟨false, [], false, []⟩
theorem mq_mem {css : List (List QC)} {i j : Nat} (hi : i < css.length) (hj : j < (css.getD i []).length) : ∃ cs ∈ css, mq css i j ∈ cs := by
 refine ⟨css.getD i [], ?_, ?_⟩
 ·rw [List.getD_eq_getElem?_getD, List.getElem?_eq_getElem hi]; exact List.getElem_mem hi
 ·unfold mq
  generalize css.getD i [] = cs at hj ⊢
  rw [List.getD_eq_getElem?_getD, List.getElem?_eq_getElem hj]; exact List.getElem_mem hj
theorem mrows_big (css : List (List QC)) (l1 : css.length < 9223372036854775808) (l2 : ∀ cs ∈ css, cs.length < 9223372036854775808) :
  MxBig (mrows css) css.length (fun i => qrows (css.getD i [])) (fun i => (css.getD i []).length) (fun i j => ⟨(mq css i j).s, W .u32 (mq css i j).l, (mq css i j).t, W .u32 (mq css i j).m⟩) := by
 refine ⟨by simp [mrows], l1, fun i hi => ?_, fun i hi => qrows_len _, fun i hi => ?_, fun i hi j hj => qrows_cell hj⟩
 ·have e : css[i]? = some (css.getD i []) := by rw [List.getD_eq_getElem?_getD, List.getElem?_eq_getElem hi]; rfl
  unfold mrows
  rw [List.getElem?_map, e]
  rfl
 ·refine l2 _ ?_
  rw [List.getD_eq_getElem?_getD, List.getElem?_eq_getElem hi]; exact List.getElem_mem hi
theorem mxv_call (hsan : ACall Tryz.prog 4 [] ⟨[.val (tb true)], []⟩) (css : List (List QC)) (l1 : css.length < 9223372036854775808) (l2 : ∀ cs ∈ css, cs.length < 9223372036854775808)
  (hw : ∀ cs ∈ css, ∀ c ∈ cs, Wd c.l /\ Wd c.m) : ACall Tryz.prog 3 [.val (tl (mrows css))] ⟨[.val (tb true)], [none]⟩ := by
 have hB := mrows_big css l1 l2
 refine mxlaw_call hsan hB fun hs => ?_
 have hR := hB.small hs
 have hV : ∃ V : Nat -> Nat -> Bool, ∀ i j, V i j = true ↔ (mq css i j).can := by
  refine ⟨fun i j => @decide _ (Classical.propDecidable (mq css i j).can), fun i j => ?_⟩
  exact @decide_eq_true_iff _ (Classical.propDecidable _)
 obtain ⟨V, hV⟩ := hV
 obtain ⟨b, hb⟩ := bool_ex (MxV css.length (fun i => (css.getD i []).length) V)
 refine ⟨b, mvalid_walk hR V (fun i hi j hj => ?_) b hb, rmvalid_walk hR V (fun i hi j hj => ?_) b hb⟩
 ·obtain ⟨cs, h1, h2⟩ := mq_mem hi hj
  obtain ⟨w1, w2⟩ := hw cs h1 _ h2
  obtain ⟨s1, s2⟩ := (hs.2 i hi).2 j hj
  rw [qak] at s1 s2
  exact qvalid_call (V i j) (hV i j) w1 w2 (by omega) (by omega)
 ·obtain ⟨cs, h1, h2⟩ := mq_mem hi hj
  obtain ⟨w1, w2⟩ := hw cs h1 _ h2
  obtain ⟨s1, s2⟩ := (hs.2 i hi).2 j hj
  rw [qak] at s1 s2
  exact rqvalid_call (V i j) (hV i j) w1 w2 (by omega) (by omega)
theorem mxv_row (hsan : ACall Tryz.prog 4 [] ⟨[.val (tb true)], []⟩) (tss : List (List Tree)) (h : okAll [.slice (.slice ratS)] tss) :
  ACall Tryz.prog 3 ((tvs [.slice (.slice ratS)] tss).map .val) ⟨[.val (tb true)], [none]⟩ := by
 obtain ⟨_, _, rfl, ⟨cp, rows, rfl, n1, h1⟩, rfl⟩ := h
 have hrow : ∀ r ∈ rows, ∃ cs : List QC, TsLe r [.lst false (qrows cs)] /\ (∀ c ∈ cs, Wd c.l /\ Wd c.m) /\ cs.length < 9223372036854775808 := fun r hr => by
  obtain ⟨cp2, rs, rfl, n2, h2⟩ := h1 r hr
  obtain ⟨cs, e1, e2, e3⟩ := list_ex rs fun r hr => ratS_ok (h2 r hr)
  refine ⟨cs, ⟨TLe.rowsLe (by rw [qrows_len, e1]) fun i r r' hr hr' => ?_, trivial⟩, fun c hc => by obtain ⟨_, _, q⟩ := e3 c hc; exact q.2.1, by omega⟩
  unfold qrows at hr'
  rw [List.getElem?_map] at hr'
  obtain ⟨c', hc', rfl⟩ := Option.map_eq_some_iff.1 hr'
  exact (e2 i r c' hr hc').1
 obtain ⟨css, e1, e2, e3⟩ := list_ex rows hrow
 have c := mxv_call hsan css (by omega) (fun cs hcs => by obtain ⟨_, _, q⟩ := e3 cs hcs; exact q.2.2) (fun cs hcs => by obtain ⟨_, _, q⟩ := e3 cs hcs; exact q.2.1)
 have t1 : TLe (.lst cp rows) (.lst false (mrows css)) := TLe.rowsLe (by simp [mrows, e1]) fun i r r' hr hr' => by
  unfold mrows at hr'
  rw [List.getElem?_map] at hr'
  obtain ⟨c', hc', rfl⟩ := Option.map_eq_some_iff.1 hr'
  exact (e2 i r c' hr hc').1
 have hle : ArgsLe [.val (.c (.lst cp rows))] [.val (tl (mrows css))] := ⟨t1, trivial⟩
 exact ACall.weak hle (ResLe.refl _) c
end Go.Proofs.YtlhcladkbhngoaaGreat
end
section
namespace Go.Abs
mutual
def eqT : Tree -> Tree -> Bool
 | .v x, .v y => match x, y with
  | .int k a, .int k' b => decide (k = k') && decide (a = b)
  | .bool a, .bool b => decide (a = b)
  | .string a, .string b => decide (a.data.toList = b.data.toList)
  | .func (.func f) ⟨[]⟩ ⟨[]⟩, .func (.func g) ⟨[]⟩ ⟨[]⟩ => decide (f = g)
  | _, _ => false
 | .lst c l, .lst c' l' => decide (c = c') && eqRR l l'
 | _, _ => false
def eqTs : List Tree -> List Tree -> Bool
 | [], [] => true
 | x :: xs, y :: ys => eqT x y && eqTs xs ys
 | _, _ => false
def eqRR : List (List Tree) -> List (List Tree) -> Bool
 | [], [] => true
 | x :: xs, y :: ys => eqTs x y && eqRR xs ys
 | _, _ => false
end
mutual
theorem eqT_eq : ∀ {x y : Tree}, eqT x y = true -> x = y
 | .v x, .v y, h => by
  unfold eqT at h
  split at h
  ·simp only [Bool.and_eq_true, decide_eq_true_eq] at h; rw [h.1, h.2]
  ·rw [of_decide_eq_true h]
  ·rename_i a b
   have := of_decide_eq_true h
   have e : a = b := by
    cases a with | mk da => cases b with | mk db => exact congrArg ByteArray.mk (Array.ext' this)
   rw [e]
  ·rw [of_decide_eq_true h]
  ·cases h
 | .lst c l, .lst c' l', h => by
  unfold eqT at h
  simp only [Bool.and_eq_true, decide_eq_true_eq] at h
  rw [h.1, eqRR_eq h.2]
 | .v _, .lst _ _, h => by unfold eqT at h; cases h
 | .lst _ _, .v _, h => by unfold eqT at h; cases h
theorem eqTs_eq : ∀ {x y : List Tree}, eqTs x y = true -> x = y
 | [], [], _ => rfl
 | x :: xs, y :: ys, h => by
  unfold eqTs at h
  simp only [Bool.and_eq_true] at h
  rw [eqT_eq h.1, eqTs_eq h.2]
 | [], _ :: _, h => by unfold eqTs at h; cases h
 | _ :: _, [], h => by unfold eqTs at h; cases h
theorem eqRR_eq : ∀ {x y : List (List Tree)}, eqRR x y = true -> x = y
 | [], [], _ => rfl
 | x :: xs, y :: ys, h => by
  unfold eqRR at h
  simp only [Bool.and_eq_true] at h
  rw [eqTs_eq h.1, eqRR_eq h.2]
 | [], _ :: _, h => by unfold eqRR at h; cases h
 | _ :: _, [], h => by unfold eqRR at h; cases h
end
def eqArg : Arg -> Arg -> Bool
 | .val (.c x), .val (.c y) => eqT x y
 | .val (.agg x), .val (.agg y) => eqTs x y
 | .bor s x, .bor s' y => decide (s = s') && eqRR x y
 | .own s x, .own s' y => decide (s = s') && eqRR x y
 | .ref x, .ref y => eqTs x y
 | .gh x, .gh y => eqTs x y
 | .clo f x, .clo g y => decide (f = g) && decide (x = y)
 | _, _ => false
theorem eqArg_eq {x y : Arg} (h : eqArg x y = true) : x = y := by
 unfold eqArg at h
 split at h
 ·rw [eqT_eq h]
 ·rw [eqTs_eq h]
 ·simp only [Bool.and_eq_true, decide_eq_true_eq] at h; rw [h.1, eqRR_eq h.2]
 ·simp only [Bool.and_eq_true, decide_eq_true_eq] at h; rw [h.1, eqRR_eq h.2]
 ·rw [eqTs_eq h]
 ·rw [eqTs_eq h]
 ·simp only [Bool.and_eq_true, decide_eq_true_eq] at h; rw [h.1, h.2]
 ·cases h
def eqArgs : List Arg -> List Arg -> Bool
 | [], [] => true
 | x :: xs, y :: ys => eqArg x y && eqArgs xs ys
 | _, _ => false
theorem eqArgs_eq : ∀ {x y : List Arg}, eqArgs x y = true -> x = y
 | [], [], _ => rfl
 | x :: xs, y :: ys, h => by
  unfold eqArgs at h
  simp only [Bool.and_eq_true] at h
  rw [eqArg_eq h.1, eqArgs_eq h.2]
 | [], _ :: _, h => by cases h
 | _ :: _, [], h => by cases h
def eqL3 (l m : List (Nat × Nat × Nat)) : Bool := decide (l = m)
def eqC : Cell -> Cell -> Bool
 | .t x, .t y => eqT x y
 | .ptr b r c, .ptr b' r' c' => decide (b = b') && decide (r = r') && decide (c = c')
 | .tp l c, .tp l' c' => eqTs l l' && decide (c = c')
 | .sl b o n c, .sl b' o' n' c' => decide (b = b') && decide (o = o') && decide (n = n') && decide (c = c')
 | .mp b, .mp b' => decide (b = b')
 | .clo f l, .clo g m => decide (f = g) && eqL3 l m
 | _, _ => false
def eqCs : List Cell -> List Cell -> Bool
 | [], [] => true
 | x :: xs, y :: ys => eqC x y && eqCs xs ys
 | _, _ => false
def eqAV : AV -> AV -> Bool
 | .c x, .c y => eqC x y
 | .agg x, .agg y => eqCs x y
 | .junk, .junk => true
 | _, _ => false
def eqAVs : List AV -> List AV -> Bool
 | [], [] => true
 | x :: xs, y :: ys => eqAV x y && eqAVs xs ys
 | _, _ => false
def eqB : Option Blk -> Option Blk -> Bool
 | none, none => true
 | some (.var x), some (.var y) => eqCs x y
 | some (.rows s l g z), some (.rows s' l' g' z') => decide (s = s') && eqRR l l' && decide (g = g') && decide (z = z')
 | some (.old s l), some (.old s' l') => decide (s = s') && eqRR l l'
 | _, _ => false
def eqH : Heap -> Heap -> Bool
 | [], [] => true
 | x :: xs, y :: ys => eqB x y && eqH xs ys
 | _, _ => false
theorem eqC_eq {x y : Cell} (h : eqC x y = true) : x = y := by
 unfold eqC at h
 split at h
 ·rw [eqT_eq h]
 ·simp only [Bool.and_eq_true, decide_eq_true_eq] at h; obtain ⟨⟨rfl, rfl⟩, rfl⟩ := h; rfl
 ·simp only [Bool.and_eq_true, decide_eq_true_eq] at h; rw [eqTs_eq h.1, h.2]
 ·simp only [Bool.and_eq_true, decide_eq_true_eq] at h; obtain ⟨⟨⟨rfl, rfl⟩, rfl⟩, rfl⟩ := h; rfl
 ·rw [of_decide_eq_true h]
 ·simp only [Bool.and_eq_true, decide_eq_true_eq, eqL3] at h; rw [h.1, h.2]
 ·cases h
theorem eqCs_eq : ∀ {x y : List Cell}, eqCs x y = true -> x = y
 | [], [], _ => rfl
 | x :: xs, y :: ys, h => by
  unfold eqCs at h
  simp only [Bool.and_eq_true] at h
  rw [eqC_eq h.1, eqCs_eq h.2]
 | [], _ :: _, h => by cases h
 | _ :: _, [], h => by cases h
theorem eqAV_eq {x y : AV} (h : eqAV x y = true) : x = y := by
 unfold eqAV at h
 split at h
 ·rw [eqC_eq h]
 ·rw [eqCs_eq h]
 ·rfl
 ·cases h
theorem eqAVs_eq : ∀ {x y : List AV}, eqAVs x y = true -> x = y
 | [], [], _ => rfl
 | x :: xs, y :: ys, h => by
  unfold eqAVs at h
  simp only [Bool.and_eq_true] at h
  rw [eqAV_eq h.1, eqAVs_eq h.2]
 | [], _ :: _, h => by cases h
 | _ :: _, [], h => by cases h
theorem eqB_eq {x y : Option Blk} (h : eqB x y = true) : x = y := by
 unfold eqB at h
 split at h
 ·rfl
 ·rw [eqCs_eq h]
 ·simp only [Bool.and_eq_true, decide_eq_true_eq] at h; obtain ⟨⟨⟨rfl, h2⟩, rfl⟩, rfl⟩ := h; rw [eqRR_eq h2]
 ·simp only [Bool.and_eq_true, decide_eq_true_eq] at h; obtain ⟨rfl, h2⟩ := h; rw [eqRR_eq h2]
 ·cases h
theorem eqH_eq : ∀ {x y : Heap}, eqH x y = true -> x = y
 | [], [], _ => rfl
 | x :: xs, y :: ys, h => by
  unfold eqH at h
  simp only [Bool.and_eq_true] at h
  rw [eqB_eq h.1, eqH_eq h.2]
 | [], _ :: _, h => by cases h
 | _ :: _, [], h => by cases h
def eqAsk : Ask -> Ask -> Bool
 | .a x, .a y => eqArgs x y
 | .h ⟨t, m⟩, .h ⟨t', m'⟩ => eqAVs t t' && eqH m m'
 | _, _ => false
theorem eqAsk_eq {x y : Ask} (h : eqAsk x y = true) : x = y := by
 unfold eqAsk at h
 split at h
 ·rw [eqArgs_eq h]
 ·simp only [Bool.and_eq_true] at h; rw [eqAVs_eq h.1, eqH_eq h.2]
 ·cases h
inductive Known (P : Program) : List (FuncId × Ask × Ans) -> Prop where
 | nil : Known P []
 | cons {f : FuncId} {x : Ask} {y : Ans} {l : List (FuncId × Ask × Ans)} (h : Shows P f x y) (t : Known P l) : Known P ((f, x, y) :: l)
def findK : List (FuncId × Ask × Ans) -> FuncId -> Ask -> Option Ans
 | [], _, _ => none
 | (f, x, r) :: l, g, y => match Nat.beq f g with
  | true => match eqAsk x y with
   | true => some r
   | false => findK l g y
  | false => findK l g y
theorem Known.find {P : Program} {l : List (FuncId × Ask × Ans)} (h : Known P l) : ∀ f x y, findK l f x = some y -> Shows P f x y := by
 induction h with
 | nil => intro f x y h; cases h
 | cons h t ih =>
  rename_i f x r l
  intro g y res hr
  unfold findK at hr
  split at hr
  ·rename_i h1
   split at hr
   ·rename_i h2
    cases hr
    obtain rfl := Nat.eq_of_beq_eq_true h1
    obtain rfl := eqAsk_eq h2
    exact h
   ·exact ih _ _ _ hr
  ·exact ih _ _ _ hr
theorem execBody_sound {P : Program} {C : Cfg} {om : FuncId -> List Mode} (hC : CfgOk P C) (hmix : P.follows .mixedOrders = true) {l : List (FuncId × Ask × Ans)} (hl : Known P l) {n : Nat} {f : FuncId} {x : Ask} {y : Ans}
  (h : execAsk P C om (findK l) n f x = some y) : Shows P f x y := execAsk_sound hC hmix hl.find h
end Go.Abs
end
section
namespace Go.Proofs.YtlhcladkbhngoaaGreat.Mem
open Go Go.Abs Go.Proofs
def u (n : Int) : List Tree := [.v (.int .u32 n)]
def n64 (n : Int) : Tree := .v (.int .i64 n)
def w64 (n : Int) : Tree := .v (.int .u64 n)
def bT : Tree := .v (.bool true)
def bF : Tree := .v (.bool false)
def lF (l : List (List Tree)) : Tree := .lst false l
def lT (l : List (List Tree)) : Tree := .lst true l
def l1 : Tree := .lst false [u 1]
noncomputable def om : FuncId -> List Abs.Mode := omOf Tryz.prog [(29, [.own 4]), (73, [.own 4]), (26, [.own 4]), (61, [.own 4]), (71, [.own 4]), (79, [.own 4]), (43, [.own 4])]
theorem ex {l : List (FuncId × Abs.Ask × Abs.Ans)} {f : FuncId} {x : Abs.Ask} {y : Abs.Ans} (hl : Known Tryz.prog l) (h : execAsk Tryz.prog CC om (findK l) 100000 f x = some y) : Shows Tryz.prog f x y := execBody_sound ccOk mixed hl h
theorem k0 : Shows Tryz.prog 101 (.a [.val (.c (lF [u 1, u 0]))]) (.a ⟨[.val (.c (l1))], [none]⟩) := ex (.nil) (by kernel_rfl)
theorem k1 : Shows Tryz.prog 82 (.a [.val (.c (w64 1))]) (.a ⟨[.val (.c (l1))], [none]⟩) := ex (.cons k0 .nil) (by kernel_rfl)
theorem k2 : Shows Tryz.prog 101 (.a [.val (.c (l1))]) (.a ⟨[.val (.c (l1))], [none]⟩) := ex (.nil) (by kernel_rfl)
theorem k3 : Shows Tryz.prog 81 (.a [.val (.c (bF)), .val (.c (l1))]) (.a ⟨[.val (.agg [bF, l1])], [none, none]⟩) := ex (.cons k2 .nil) (by kernel_rfl)
theorem k4 : Shows Tryz.prog 47 (.a [.val (.c (n64 1))]) (.a ⟨[.val (.agg [bF, l1])], [none]⟩) := ex (.cons k1 (.cons k3 .nil)) (by kernel_rfl)
theorem k5 : Shows Tryz.prog 17 (.a [.val (.c (n64 1))]) (.a ⟨[.val (.agg [bF, l1, bF, l1])], [none]⟩) := ex (.cons k4 .nil) (by kernel_rfl)
theorem k6 : Shows Tryz.prog 101 (.a [.val (.c (lF [u 2, u 0]))]) (.a ⟨[.val (.c (lF [u 2]))], [none]⟩) := ex (.nil) (by kernel_rfl)
theorem k7 : Shows Tryz.prog 82 (.a [.val (.c (w64 2))]) (.a ⟨[.val (.c (lF [u 2]))], [none]⟩) := ex (.cons k6 .nil) (by kernel_rfl)
theorem k8 : Shows Tryz.prog 101 (.a [.val (.c (lF [u 2]))]) (.a ⟨[.val (.c (lF [u 2]))], [none]⟩) := ex (.nil) (by kernel_rfl)
theorem k9 : Shows Tryz.prog 81 (.a [.val (.c (bF)), .val (.c (lF [u 2]))]) (.a ⟨[.val (.agg [bF, lF [u 2]])], [none, none]⟩) := ex (.cons k8 .nil) (by kernel_rfl)
theorem k10 : Shows Tryz.prog 47 (.a [.val (.c (n64 2))]) (.a ⟨[.val (.agg [bF, lF [u 2]])], [none]⟩) := ex (.cons k7 (.cons k9 .nil)) (by kernel_rfl)
theorem k11 : Shows Tryz.prog 17 (.a [.val (.c (n64 2))]) (.a ⟨[.val (.agg [bF, lF [u 2], bF, l1])], [none]⟩) := ex (.cons k10 (.cons k4 .nil)) (by kernel_rfl)
theorem k12 : Shows Tryz.prog 101 (.a [.val (.c (lF [u 3, u 0]))]) (.a ⟨[.val (.c (lF [u 3]))], [none]⟩) := ex (.nil) (by kernel_rfl)
theorem k13 : Shows Tryz.prog 82 (.a [.val (.c (w64 3))]) (.a ⟨[.val (.c (lF [u 3]))], [none]⟩) := ex (.cons k12 .nil) (by kernel_rfl)
theorem k14 : Shows Tryz.prog 101 (.a [.val (.c (lF [u 3]))]) (.a ⟨[.val (.c (lF [u 3]))], [none]⟩) := ex (.nil) (by kernel_rfl)
theorem k15 : Shows Tryz.prog 81 (.a [.val (.c (bF)), .val (.c (lF [u 3]))]) (.a ⟨[.val (.agg [bF, lF [u 3]])], [none, none]⟩) := ex (.cons k14 .nil) (by kernel_rfl)
theorem k16 : Shows Tryz.prog 47 (.a [.val (.c (n64 3))]) (.a ⟨[.val (.agg [bF, lF [u 3]])], [none]⟩) := ex (.cons k13 (.cons k15 .nil)) (by kernel_rfl)
theorem k17 : Shows Tryz.prog 17 (.a [.val (.c (n64 3))]) (.a ⟨[.val (.agg [bF, lF [u 3], bF, l1])], [none]⟩) := ex (.cons k16 (.cons k4 .nil)) (by kernel_rfl)
theorem k18 : Shows Tryz.prog 101 (.a [.val (.c (lF [u 4, u 0]))]) (.a ⟨[.val (.c (lF [u 4]))], [none]⟩) := ex (.nil) (by kernel_rfl)
theorem k19 : Shows Tryz.prog 82 (.a [.val (.c (w64 4))]) (.a ⟨[.val (.c (lF [u 4]))], [none]⟩) := ex (.cons k18 .nil) (by kernel_rfl)
theorem k20 : Shows Tryz.prog 101 (.a [.val (.c (lF [u 4]))]) (.a ⟨[.val (.c (lF [u 4]))], [none]⟩) := ex (.nil) (by kernel_rfl)
theorem k21 : Shows Tryz.prog 81 (.a [.val (.c (bF)), .val (.c (lF [u 4]))]) (.a ⟨[.val (.agg [bF, lF [u 4]])], [none, none]⟩) := ex (.cons k20 .nil) (by kernel_rfl)
theorem k22 : Shows Tryz.prog 47 (.a [.val (.c (n64 4))]) (.a ⟨[.val (.agg [bF, lF [u 4]])], [none]⟩) := ex (.cons k19 (.cons k21 .nil)) (by kernel_rfl)
theorem k23 : Shows Tryz.prog 17 (.a [.val (.c (n64 4))]) (.a ⟨[.val (.agg [bF, lF [u 4], bF, l1])], [none]⟩) := ex (.cons k22 (.cons k4 .nil)) (by kernel_rfl)
theorem k24 : Shows Tryz.prog 7 (.a [.val (.c (lF [[n64 1], [n64 2], [n64 3], [n64 4]]))]) (.a ⟨[.val (.c (lF [[lF [[bF, l1, bF, l1], [bF, lF [u 2], bF, l1]]], [lF [[bF, lF [u 3], bF, l1], [bF, lF [u 4], bF, l1]]]]))], [none]⟩) := ex (.cons k5 (.cons k11 (.cons k17 (.cons k23 .nil)))) (by kernel_rfl)
theorem k25 : Shows Tryz.prog 101 (.a [.val (.c (lF [u 5, u 0]))]) (.a ⟨[.val (.c (lF [u 5]))], [none]⟩) := ex (.nil) (by kernel_rfl)
theorem k26 : Shows Tryz.prog 82 (.a [.val (.c (w64 5))]) (.a ⟨[.val (.c (lF [u 5]))], [none]⟩) := ex (.cons k25 .nil) (by kernel_rfl)
theorem k27 : Shows Tryz.prog 101 (.a [.val (.c (lF [u 5]))]) (.a ⟨[.val (.c (lF [u 5]))], [none]⟩) := ex (.nil) (by kernel_rfl)
theorem k28 : Shows Tryz.prog 81 (.a [.val (.c (bF)), .val (.c (lF [u 5]))]) (.a ⟨[.val (.agg [bF, lF [u 5]])], [none, none]⟩) := ex (.cons k27 .nil) (by kernel_rfl)
theorem k29 : Shows Tryz.prog 47 (.a [.val (.c (n64 5))]) (.a ⟨[.val (.agg [bF, lF [u 5]])], [none]⟩) := ex (.cons k26 (.cons k28 .nil)) (by kernel_rfl)
theorem k30 : Shows Tryz.prog 17 (.a [.val (.c (n64 5))]) (.a ⟨[.val (.agg [bF, lF [u 5], bF, l1])], [none]⟩) := ex (.cons k29 (.cons k4 .nil)) (by kernel_rfl)
theorem k31 : Shows Tryz.prog 101 (.a [.val (.c (lF [u 6, u 0]))]) (.a ⟨[.val (.c (lF [u 6]))], [none]⟩) := ex (.nil) (by kernel_rfl)
theorem k32 : Shows Tryz.prog 82 (.a [.val (.c (w64 6))]) (.a ⟨[.val (.c (lF [u 6]))], [none]⟩) := ex (.cons k31 .nil) (by kernel_rfl)
theorem k33 : Shows Tryz.prog 101 (.a [.val (.c (lF [u 6]))]) (.a ⟨[.val (.c (lF [u 6]))], [none]⟩) := ex (.nil) (by kernel_rfl)
theorem k34 : Shows Tryz.prog 81 (.a [.val (.c (bF)), .val (.c (lF [u 6]))]) (.a ⟨[.val (.agg [bF, lF [u 6]])], [none, none]⟩) := ex (.cons k33 .nil) (by kernel_rfl)
theorem k35 : Shows Tryz.prog 47 (.a [.val (.c (n64 6))]) (.a ⟨[.val (.agg [bF, lF [u 6]])], [none]⟩) := ex (.cons k32 (.cons k34 .nil)) (by kernel_rfl)
theorem k36 : Shows Tryz.prog 17 (.a [.val (.c (n64 6))]) (.a ⟨[.val (.agg [bF, lF [u 6], bF, l1])], [none]⟩) := ex (.cons k35 (.cons k4 .nil)) (by kernel_rfl)
theorem k37 : Shows Tryz.prog 9 (.a [.val (.c (lF [[n64 5], [n64 6]]))]) (.a ⟨[.val (.c (lF [[bF, lF [u 5], bF, l1], [bF, lF [u 6], bF, l1]]))], [none]⟩) := ex (.cons k30 (.cons k36 .nil)) (by kernel_rfl)
theorem k38 : Shows Tryz.prog 25 (.h ⟨[.c (.t (lF [[lF [[bF, l1, bF, l1], [bF, lF [u 2], bF, l1]]], [lF [[bF, lF [u 3], bF, l1], [bF, lF [u 4], bF, l1]]]]))], []⟩) (.h ⟨[.c (.t (n64 2))], []⟩) := ex (.nil) (by kernel_rfl)
theorem k39 : Shows Tryz.prog 26 (.a [.val (.c (lF [[bF, l1, bF, l1], [bF, lF [u 2], bF, l1]]))]) (.a ⟨[.own 4 [[bF, l1, bF, l1], [bF, lF [u 2], bF, l1]]], [none]⟩) := ex (.nil) (by kernel_rfl)
theorem k40 : Shows Tryz.prog 26 (.a [.val (.c (lF [[bF, lF [u 3], bF, l1], [bF, lF [u 4], bF, l1]]))]) (.a ⟨[.own 4 [[bF, lF [u 3], bF, l1], [bF, lF [u 4], bF, l1]]], [none]⟩) := ex (.nil) (by kernel_rfl)
theorem k41 : Shows Tryz.prog 26 (.a [.bor 4 [[bF, l1, bF, l1], [bF, lF [u 2], bF, l1], [bF, lF [u 5], bF, l1]]]) (.a ⟨[.own 4 [[bF, l1, bF, l1], [bF, lF [u 2], bF, l1], [bF, lF [u 5], bF, l1]]], [some (.rows 4 [[bF, l1, bF, l1], [bF, lF [u 2], bF, l1], [bF, lF [u 5], bF, l1]] false false)]⟩) := ex (.nil) (by kernel_rfl)
theorem k42 : Shows Tryz.prog 26 (.a [.bor 4 [[bF, lF [u 3], bF, l1], [bF, lF [u 4], bF, l1], [bF, lF [u 6], bF, l1]]]) (.a ⟨[.own 4 [[bF, lF [u 3], bF, l1], [bF, lF [u 4], bF, l1], [bF, lF [u 6], bF, l1]]], [some (.rows 4 [[bF, lF [u 3], bF, l1], [bF, lF [u 4], bF, l1], [bF, lF [u 6], bF, l1]] false false)]⟩) := ex (.nil) (by kernel_rfl)
theorem k43 : Shows Tryz.prog 31 (.h ⟨[.c (.sl 0 0 2 false), .c (.t (.v (.func (.func 26) #[] #[])))], [some (.var [.sl 1 0 3 false, .sl 2 0 3 false]), some (.rows 4 [[bF, l1, bF, l1], [bF, lF [u 2], bF, l1], [bF, lF [u 5], bF, l1]] true false), some (.rows 4 [[bF, lF [u 3], bF, l1], [bF, lF [u 4], bF, l1], [bF, lF [u 6], bF, l1]] true false)]⟩) (.h ⟨[.c (.sl 3 0 2 false)], [some (.var [.sl 1 0 3 false, .sl 2 0 3 false]), some (.rows 4 [[bF, l1, bF, l1], [bF, lF [u 2], bF, l1], [bF, lF [u 5], bF, l1]] true false), some (.rows 4 [[bF, lF [u 3], bF, l1], [bF, lF [u 4], bF, l1], [bF, lF [u 6], bF, l1]] true false), some (.var [.sl 4 0 3 false, .sl 5 0 3 false]), some (.rows 4 [[bF, l1, bF, l1], [bF, lF [u 2], bF, l1], [bF, lF [u 5], bF, l1]] true false), some (.rows 4 [[bF, lF [u 3], bF, l1], [bF, lF [u 4], bF, l1], [bF, lF [u 6], bF, l1]] true false)]⟩) := ex (.cons k41 (.cons k42 .nil)) (by kernel_rfl)
theorem k44 : Shows Tryz.prog 25 (.h ⟨[.c (.sl 0 0 2 false)], [some (.var [.sl 1 0 3 false, .sl 2 0 3 false]), some (.rows 4 [[bF, l1, bF, l1], [bF, lF [u 2], bF, l1], [bF, lF [u 5], bF, l1]] true false), some (.rows 4 [[bF, lF [u 3], bF, l1], [bF, lF [u 4], bF, l1], [bF, lF [u 6], bF, l1]] true false)]⟩) (.h ⟨[.c (.t (n64 3))], [some (.var [.sl 1 0 3 false, .sl 2 0 3 false]), some (.rows 4 [[bF, l1, bF, l1], [bF, lF [u 2], bF, l1], [bF, lF [u 5], bF, l1]] true false), some (.rows 4 [[bF, lF [u 3], bF, l1], [bF, lF [u 4], bF, l1], [bF, lF [u 6], bF, l1]] true false)]⟩) := ex (.nil) (by kernel_rfl)
theorem k45 : Shows Tryz.prog 53 (.a [.val (.agg [bF, l1])]) (.a ⟨[.val (.c (n64 1))], [none]⟩) := ex (.nil) (by kernel_rfl)
theorem k46 : Shows Tryz.prog 46 (.a [.val (.agg [bF, l1, bF, l1])]) (.a ⟨[.val (.c (n64 1))], [none]⟩) := ex (.cons k45 .nil) (by kernel_rfl)
theorem k47 : Shows Tryz.prog 33 (.h ⟨[.c (.sl 0 0 2 false), .c (.t (n64 0)), .c (.t (n64 0))], [some (.var [.sl 1 0 3 false, .sl 2 0 3 false]), some (.rows 4 [[bF, l1, bF, l1], [bF, lF [u 2], bF, l1], [bF, lF [u 5], bF, l1]] true false), some (.rows 4 [[bF, lF [u 3], bF, l1], [bF, lF [u 4], bF, l1], [bF, lF [u 6], bF, l1]] true false)]⟩) (.h ⟨[.c (.t (n64 0))], [some (.var [.sl 1 0 3 false, .sl 2 0 3 false]), some (.rows 4 [[bF, l1, bF, l1], [bF, lF [u 2], bF, l1], [bF, lF [u 5], bF, l1]] true false), some (.rows 4 [[bF, lF [u 3], bF, l1], [bF, lF [u 4], bF, l1], [bF, lF [u 6], bF, l1]] true false)]⟩) := ex (.cons k46 .nil) (by kernel_rfl)
theorem k48 : Shows Tryz.prog 60 (.a [.val (.agg [bF, l1, bF, l1])]) (.a ⟨[.val (.agg [bF, l1, bF, l1]), .val (.c (n64 0))], [none]⟩) := ex (.cons k45 .nil) (by kernel_rfl)
theorem k49 : Shows Tryz.prog 54 (.a [.val (.agg [bF, l1])]) (.a ⟨[.val (.c (bT))], [none]⟩) := ex (.nil) (by kernel_rfl)
theorem k50 : Shows Tryz.prog 67 (.a [.val (.agg [bF, l1]), .val (.agg [bF, l1])]) (.a ⟨[.val (.agg [bF, l1, bF, l1])], [none, none]⟩) := ex (.cons k49 .nil) (by kernel_rfl)
theorem k51 : Shows Tryz.prog 90 (.a [.val (.c (lF [u 1, u 0]))]) (.a ⟨[.val (.c (l1))], [none]⟩) := ex (.nil) (by kernel_rfl)
theorem k52 : Shows Tryz.prog 93 (.a [.val (.c (w64 1))]) (.a ⟨[.val (.c (l1))], [none]⟩) := ex (.cons k51 .nil) (by kernel_rfl)
theorem k53 : Shows Tryz.prog 90 (.a [.val (.c (l1))]) (.a ⟨[.val (.c (l1))], [none]⟩) := ex (.nil) (by kernel_rfl)
theorem k54 : Shows Tryz.prog 92 (.a [.val (.c (bF)), .val (.c (l1))]) (.a ⟨[.val (.agg [bF, l1])], [none, none]⟩) := ex (.cons k53 .nil) (by kernel_rfl)
theorem k55 : Shows Tryz.prog 65 (.a [.val (.c (n64 1))]) (.a ⟨[.val (.agg [bF, l1])], [none]⟩) := ex (.cons k52 (.cons k54 .nil)) (by kernel_rfl)
theorem k56 : Shows Tryz.prog 68 (.a [.val (.c (lF [[bF, l1], [bF, l1]]))]) (.a ⟨[.val (.agg [bF, l1])], [none]⟩) := ex (.cons k55 (.cons k49 .nil)) (by kernel_rfl)
theorem k57 : Shows Tryz.prog 35 (.a [.val (.agg [bF, l1, bF, l1]), .val (.agg [bF, l1, bF, l1])]) (.a ⟨[.val (.agg [bF, l1, bF, l1])], [none, none]⟩) := ex (.cons k50 (.cons k56 .nil)) (by kernel_rfl)
theorem k58 : Shows Tryz.prog 62 (.a [.val (.agg [bF, l1, bF, l1]), .ref [bF, l1, bF, l1]]) (.a ⟨[.val (.agg [bF, l1, bF, l1])], [none, some (.var [.t (bF), .t (l1), .t (bF), .t (l1)])]⟩) := ex (.cons k57 .nil) (by kernel_rfl)
theorem k59 : Shows Tryz.prog 67 (.a [.val (.agg [bF, lF [u 2]]), .val (.agg [bF, l1])]) (.a ⟨[.val (.agg [bF, lF [u 2], bF, l1])], [none, none]⟩) := ex (.cons k49 .nil) (by kernel_rfl)
theorem k60 : Shows Tryz.prog 54 (.a [.val (.agg [bF, lF [u 2]])]) (.a ⟨[.val (.c (bF))], [none]⟩) := ex (.nil) (by kernel_rfl)
theorem k61 : Shows Tryz.prog 68 (.a [.val (.c (lF [[bF, l1], [bF, lF [u 2]]]))]) (.a ⟨[.val (.agg [bF, lF [u 2]])], [none]⟩) := ex (.cons k55 (.cons k49 (.cons k60 .nil))) (by kernel_rfl)
theorem k62 : Shows Tryz.prog 35 (.a [.val (.agg [bF, l1, bF, l1]), .val (.agg [bF, lF [u 2], bF, l1])]) (.a ⟨[.val (.agg [bF, lF [u 2], bF, l1])], [none, none]⟩) := ex (.cons k50 (.cons k59 (.cons k61 (.cons k56 .nil)))) (by kernel_rfl)
theorem k63 : Shows Tryz.prog 62 (.a [.val (.agg [bF, lF [u 2], bF, l1]), .ref [bF, l1, bF, l1]]) (.a ⟨[.val (.agg [bF, lF [u 2], bF, l1])], [none, some (.var [.t (bF), .t (l1), .t (bF), .t (l1)])]⟩) := ex (.cons k62 .nil) (by kernel_rfl)
theorem k64 : Shows Tryz.prog 67 (.a [.val (.agg [bF, lF [u 5]]), .val (.agg [bF, l1])]) (.a ⟨[.val (.agg [bF, lF [u 5], bF, l1])], [none, none]⟩) := ex (.cons k49 .nil) (by kernel_rfl)
theorem k65 : Shows Tryz.prog 54 (.a [.val (.agg [bF, lF [u 5]])]) (.a ⟨[.val (.c (bF))], [none]⟩) := ex (.nil) (by kernel_rfl)
theorem k66 : Shows Tryz.prog 68 (.a [.val (.c (lF [[bF, l1], [bF, lF [u 5]]]))]) (.a ⟨[.val (.agg [bF, lF [u 5]])], [none]⟩) := ex (.cons k55 (.cons k49 (.cons k65 .nil))) (by kernel_rfl)
theorem k67 : Shows Tryz.prog 35 (.a [.val (.agg [bF, l1, bF, l1]), .val (.agg [bF, lF [u 5], bF, l1])]) (.a ⟨[.val (.agg [bF, lF [u 5], bF, l1])], [none, none]⟩) := ex (.cons k50 (.cons k64 (.cons k66 (.cons k56 .nil)))) (by kernel_rfl)
theorem k68 : Shows Tryz.prog 62 (.a [.val (.agg [bF, lF [u 5], bF, l1]), .ref [bF, l1, bF, l1]]) (.a ⟨[.val (.agg [bF, lF [u 5], bF, l1])], [none, some (.var [.t (bF), .t (l1), .t (bF), .t (l1)])]⟩) := ex (.cons k67 .nil) (by kernel_rfl)
theorem k69 : Shows Tryz.prog 61 (.a [.val (.c (lF [[bF, l1, bF, l1], [bF, lF [u 2], bF, l1], [bF, lF [u 5], bF, l1]])), .clo 62 [(2, (0, 0))], .gh [bF, l1, bF, l1]]) (.a ⟨[.own 4 [[bF, l1, bF, l1], [bF, lF [u 2], bF, l1], [bF, lF [u 5], bF, l1]]], [none, none, some (.var [.t (bF), .t (l1), .t (bF), .t (l1)])]⟩) := ex (.cons k58 (.cons k63 (.cons k68 .nil))) (by kernel_rfl)
theorem k70 : Shows Tryz.prog 36 (.h ⟨[.c (.sl 0 0 0 false), .c (.sl 1 0 3 false), .c (.t (n64 0))], [some (.var [.sl 1 0 3 false, .sl 2 0 3 false]), some (.rows 4 [[bF, l1, bF, l1], [bF, lF [u 2], bF, l1], [bF, lF [u 5], bF, l1]] true false), some (.rows 4 [[bF, lF [u 3], bF, l1], [bF, lF [u 4], bF, l1], [bF, lF [u 6], bF, l1]] true false)]⟩) (.h ⟨[], [some (.var [.sl 1 0 3 false, .sl 2 0 3 false]), some (.rows 4 [[bF, l1, bF, l1], [bF, lF [u 2], bF, l1], [bF, lF [u 5], bF, l1]] true false), some (.rows 4 [[bF, lF [u 3], bF, l1], [bF, lF [u 4], bF, l1], [bF, lF [u 6], bF, l1]] true false)]⟩) := ex (.nil) (by kernel_rfl)
theorem k71 : Shows Tryz.prog 53 (.a [.val (.agg [bF, lF [u 3]])]) (.a ⟨[.val (.c (n64 1))], [none]⟩) := ex (.nil) (by kernel_rfl)
theorem k72 : Shows Tryz.prog 46 (.a [.val (.agg [bF, lF [u 3], bF, l1])]) (.a ⟨[.val (.c (n64 1))], [none]⟩) := ex (.cons k71 .nil) (by kernel_rfl)
theorem k73 : Shows Tryz.prog 67 (.a [.val (.agg [bF, lF [u 3]]), .val (.agg [bF, l1])]) (.a ⟨[.val (.agg [bF, lF [u 3], bF, l1])], [none, none]⟩) := ex (.cons k49 .nil) (by kernel_rfl)
theorem k74 : Shows Tryz.prog 54 (.a [.val (.agg [bF, lF [u 3]])]) (.a ⟨[.val (.c (bF))], [none]⟩) := ex (.nil) (by kernel_rfl)
theorem k75 : Shows Tryz.prog 68 (.a [.val (.c (lF [[bF, lF [u 3]], [bF, l1]]))]) (.a ⟨[.val (.agg [bF, lF [u 3]])], [none]⟩) := ex (.cons k55 (.cons k74 (.cons k49 .nil))) (by kernel_rfl)
theorem k76 : Shows Tryz.prog 35 (.a [.val (.agg [bF, lF [u 3], bF, l1]), .val (.agg [bF, l1, bF, l1])]) (.a ⟨[.val (.agg [bF, lF [u 3], bF, l1])], [none, none]⟩) := ex (.cons k73 (.cons k50 (.cons k75 (.cons k56 .nil)))) (by kernel_rfl)
theorem k77 : Shows Tryz.prog 69 (.a [.val (.agg [bF, lF [u 3], bF, l1]), .val (.agg [bF, l1, bF, l1])]) (.a ⟨[.val (.agg [bF, lF [u 3], bF, l1]), .val (.c (n64 0))], [none, none]⟩) := ex (.cons k48 (.cons k76 .nil)) (by kernel_rfl)
theorem k78 : Shows Tryz.prog 89 (.a [.val (.c (lF [u 3]))]) (.a ⟨[.val (.c (lF [u 3]))], [none]⟩) := ex (.nil) (by kernel_rfl)
theorem k79 : Shows Tryz.prog 90 (.a [.val (.c (lF [u 3]))]) (.a ⟨[.val (.c (lF [u 3]))], [none]⟩) := ex (.nil) (by kernel_rfl)
theorem k80 : Shows Tryz.prog 92 (.a [.val (.c (bT)), .val (.c (lF [u 3]))]) (.a ⟨[.val (.agg [bT, lF [u 3]])], [none, none]⟩) := ex (.cons k79 .nil) (by kernel_rfl)
theorem k81 : Shows Tryz.prog 66 (.a [.val (.agg [bF, lF [u 3]])]) (.a ⟨[.val (.agg [bT, lF [u 3]])], [none]⟩) := ex (.cons k78 (.cons k80 .nil)) (by kernel_rfl)
theorem k82 : Shows Tryz.prog 34 (.a [.val (.agg [bF, lF [u 3], bF, l1])]) (.a ⟨[.val (.agg [bT, lF [u 3], bF, l1])], [none]⟩) := ex (.cons k81 .nil) (by kernel_rfl)
theorem k83 : Shows Tryz.prog 54 (.a [.val (.agg [bT, lF [u 3]])]) (.a ⟨[.val (.c (bF))], [none]⟩) := ex (.nil) (by kernel_rfl)
theorem k84 : Shows Tryz.prog 68 (.a [.val (.c (lF [[bT, lF [u 3]], [bF, l1]]))]) (.a ⟨[.val (.agg [bT, lF [u 3]])], [none]⟩) := ex (.cons k55 (.cons k83 (.cons k49 .nil))) (by kernel_rfl)
theorem k85 : Shows Tryz.prog 100 (.a [.val (.c (lF [u 3])), .val (.c (lF [u 3]))]) (.a ⟨[.val (.c (n64 0))], [none, none]⟩) := ex (.nil) (by kernel_rfl)
theorem k86 : Shows Tryz.prog 90 (.a [.val (.c (lF [u 0]))]) (.a ⟨[.val (.c (lF []))], [none]⟩) := ex (.nil) (by kernel_rfl)
theorem k87 : Shows Tryz.prog 113 (.a [.val (.c (lF [u 3])), .val (.c (lF [u 3]))]) (.a ⟨[.val (.c (lF []))], [none, none]⟩) := ex (.cons k86 .nil) (by kernel_rfl)
theorem k88 : Shows Tryz.prog 90 (.a [.val (.c (lF []))]) (.a ⟨[.val (.c (lF []))], [none]⟩) := ex (.nil) (by kernel_rfl)
theorem k89 : Shows Tryz.prog 92 (.a [.val (.c (bF)), .val (.c (lF []))]) (.a ⟨[.val (.agg [bF, lT []])], [none, none]⟩) := ex (.cons k88 .nil) (by kernel_rfl)
theorem k90 : Shows Tryz.prog 99 (.a [.val (.agg [bF, lF [u 3]]), .val (.agg [bT, lF [u 3]])]) (.a ⟨[.val (.agg [bF, lT []])], [none, none]⟩) := ex (.cons k85 (.cons k87 (.cons k89 .nil))) (by kernel_rfl)
theorem k91 : Shows Tryz.prog 67 (.a [.val (.agg [bF, lT []]), .val (.agg [bF, l1])]) (.a ⟨[.val (.agg [bF, lT [], bF, l1])], [none, none]⟩) := ex (.cons k49 .nil) (by kernel_rfl)
theorem k92 : Shows Tryz.prog 72 (.a [.val (.agg [bF, lF [u 3], bF, l1]), .val (.agg [bT, lF [u 3], bF, l1])]) (.a ⟨[.val (.agg [bF, lT [], bF, l1])], [none, none]⟩) := ex (.cons k75 (.cons k84 (.cons k90 (.cons k56 (.cons k91 .nil))))) (by kernel_rfl)
theorem k93 : Shows Tryz.prog 98 (.a [.val (.agg [bF, lF [u 3], bF, l1]), .val (.agg [bF, lF [u 3], bF, l1])]) (.a ⟨[.val (.agg [bF, lT [], bF, l1])], [none, none]⟩) := ex (.cons k82 (.cons k92 .nil)) (by kernel_rfl)
theorem k94 : Shows Tryz.prog 53 (.a [.val (.agg [bF, lF [u 2]])]) (.a ⟨[.val (.c (n64 1))], [none]⟩) := ex (.nil) (by kernel_rfl)
theorem k95 : Shows Tryz.prog 46 (.a [.val (.agg [bF, lF [u 2], bF, l1])]) (.a ⟨[.val (.c (n64 1))], [none]⟩) := ex (.cons k94 .nil) (by kernel_rfl)
theorem k96 : Shows Tryz.prog 90 (.a [.val (.c (lF [u 6, u 0]))]) (.a ⟨[.val (.c (lF [u 6]))], [none]⟩) := ex (.nil) (by kernel_rfl)
theorem k97 : Shows Tryz.prog 114 (.a [.val (.c (lF [u 3])), .val (.c (lF [u 2]))]) (.a ⟨[.val (.c (lF [u 6]))], [none, none]⟩) := ex (.cons k96 .nil) (by kernel_rfl)
theorem k98 : Shows Tryz.prog 90 (.a [.val (.c (lF [u 6]))]) (.a ⟨[.val (.c (lF [u 6]))], [none]⟩) := ex (.nil) (by kernel_rfl)
theorem k99 : Shows Tryz.prog 92 (.a [.val (.c (bF)), .val (.c (lF [u 6]))]) (.a ⟨[.val (.agg [bF, lF [u 6]])], [none, none]⟩) := ex (.cons k98 .nil) (by kernel_rfl)
theorem k100 : Shows Tryz.prog 97 (.a [.val (.agg [bF, lF [u 3]]), .val (.agg [bF, lF [u 2]])]) (.a ⟨[.val (.agg [bF, lF [u 6]])], [none, none]⟩) := ex (.cons k97 (.cons k99 .nil)) (by kernel_rfl)
theorem k101 : Shows Tryz.prog 68 (.a [.val (.c (lF [[bF, lF [u 3]], [bF, lF [u 2]]]))]) (.a ⟨[.val (.agg [bF, lF [u 6]])], [none]⟩) := ex (.cons k55 (.cons k74 (.cons k49 (.cons k60 (.cons k100 .nil))))) (by kernel_rfl)
theorem k102 : Shows Tryz.prog 35 (.a [.val (.agg [bF, lF [u 3], bF, l1]), .val (.agg [bF, lF [u 2], bF, l1])]) (.a ⟨[.val (.agg [bF, lF [u 6], bF, l1])], [none, none]⟩) := ex (.cons k73 (.cons k59 (.cons k101 (.cons k56 .nil)))) (by kernel_rfl)
theorem k103 : Shows Tryz.prog 89 (.a [.val (.c (lF [u 6]))]) (.a ⟨[.val (.c (lF [u 6]))], [none]⟩) := ex (.nil) (by kernel_rfl)
theorem k104 : Shows Tryz.prog 92 (.a [.val (.c (bT)), .val (.c (lF [u 6]))]) (.a ⟨[.val (.agg [bT, lF [u 6]])], [none, none]⟩) := ex (.cons k98 .nil) (by kernel_rfl)
theorem k105 : Shows Tryz.prog 66 (.a [.val (.agg [bF, lF [u 6]])]) (.a ⟨[.val (.agg [bT, lF [u 6]])], [none]⟩) := ex (.cons k103 (.cons k104 .nil)) (by kernel_rfl)
theorem k106 : Shows Tryz.prog 34 (.a [.val (.agg [bF, lF [u 6], bF, l1])]) (.a ⟨[.val (.agg [bT, lF [u 6], bF, l1])], [none]⟩) := ex (.cons k105 .nil) (by kernel_rfl)
theorem k107 : Shows Tryz.prog 54 (.a [.val (.agg [bF, lF [u 4]])]) (.a ⟨[.val (.c (bF))], [none]⟩) := ex (.nil) (by kernel_rfl)
theorem k108 : Shows Tryz.prog 68 (.a [.val (.c (lF [[bF, lF [u 4]], [bF, l1]]))]) (.a ⟨[.val (.agg [bF, lF [u 4]])], [none]⟩) := ex (.cons k55 (.cons k107 (.cons k49 .nil))) (by kernel_rfl)
theorem k109 : Shows Tryz.prog 54 (.a [.val (.agg [bT, lF [u 6]])]) (.a ⟨[.val (.c (bF))], [none]⟩) := ex (.nil) (by kernel_rfl)
open Go Go.Abs Go.Proofs
theorem k110 : Shows Tryz.prog 68 (.a [.val (.c (lF [[bT, lF [u 6]], [bF, l1]]))]) (.a ⟨[.val (.agg [bT, lF [u 6]])], [none]⟩) := ex (.cons k55 (.cons k109 (.cons k49 .nil))) (by kernel_rfl)
theorem k111 : Shows Tryz.prog 100 (.a [.val (.c (lF [u 4])), .val (.c (lF [u 6]))]) (.a ⟨[.val (.c (n64 (-1)))], [none, none]⟩) := ex (.nil) (by kernel_rfl)
theorem k112 : Shows Tryz.prog 90 (.a [.val (.c (lF [u 2]))]) (.a ⟨[.val (.c (lF [u 2]))], [none]⟩) := ex (.nil) (by kernel_rfl)
theorem k113 : Shows Tryz.prog 113 (.a [.val (.c (lF [u 6])), .val (.c (lF [u 4]))]) (.a ⟨[.val (.c (lF [u 2]))], [none, none]⟩) := ex (.cons k112 .nil) (by kernel_rfl)
theorem k114 : Shows Tryz.prog 92 (.a [.val (.c (bT)), .val (.c (lF [u 2]))]) (.a ⟨[.val (.agg [bT, lF [u 2]])], [none, none]⟩) := ex (.cons k112 .nil) (by kernel_rfl)
theorem k115 : Shows Tryz.prog 99 (.a [.val (.agg [bF, lF [u 4]]), .val (.agg [bT, lF [u 6]])]) (.a ⟨[.val (.agg [bT, lF [u 2]])], [none, none]⟩) := ex (.cons k111 (.cons k113 (.cons k114 .nil))) (by kernel_rfl)
theorem k116 : Shows Tryz.prog 67 (.a [.val (.agg [bT, lF [u 2]]), .val (.agg [bF, l1])]) (.a ⟨[.val (.agg [bT, lF [u 2], bF, l1])], [none, none]⟩) := ex (.cons k49 .nil) (by kernel_rfl)
theorem k117 : Shows Tryz.prog 72 (.a [.val (.agg [bF, lF [u 4], bF, l1]), .val (.agg [bT, lF [u 6], bF, l1])]) (.a ⟨[.val (.agg [bT, lF [u 2], bF, l1])], [none, none]⟩) := ex (.cons k108 (.cons k110 (.cons k115 (.cons k56 (.cons k116 .nil))))) (by kernel_rfl)
theorem k118 : Shows Tryz.prog 98 (.a [.val (.agg [bF, lF [u 4], bF, l1]), .val (.agg [bF, lF [u 6], bF, l1])]) (.a ⟨[.val (.agg [bT, lF [u 2], bF, l1])], [none, none]⟩) := ex (.cons k106 (.cons k117 .nil)) (by kernel_rfl)
theorem k119 : Shows Tryz.prog 53 (.a [.val (.agg [bF, lF [u 5]])]) (.a ⟨[.val (.c (n64 1))], [none]⟩) := ex (.nil) (by kernel_rfl)
theorem k120 : Shows Tryz.prog 46 (.a [.val (.agg [bF, lF [u 5], bF, l1])]) (.a ⟨[.val (.c (n64 1))], [none]⟩) := ex (.cons k119 .nil) (by kernel_rfl)
theorem k121 : Shows Tryz.prog 90 (.a [.val (.c (lF [u 15, u 0]))]) (.a ⟨[.val (.c (lF [u 15]))], [none]⟩) := ex (.nil) (by kernel_rfl)
theorem k122 : Shows Tryz.prog 114 (.a [.val (.c (lF [u 3])), .val (.c (lF [u 5]))]) (.a ⟨[.val (.c (lF [u 15]))], [none, none]⟩) := ex (.cons k121 .nil) (by kernel_rfl)
theorem k123 : Shows Tryz.prog 90 (.a [.val (.c (lF [u 15]))]) (.a ⟨[.val (.c (lF [u 15]))], [none]⟩) := ex (.nil) (by kernel_rfl)
theorem k124 : Shows Tryz.prog 92 (.a [.val (.c (bF)), .val (.c (lF [u 15]))]) (.a ⟨[.val (.agg [bF, lF [u 15]])], [none, none]⟩) := ex (.cons k123 .nil) (by kernel_rfl)
theorem k125 : Shows Tryz.prog 97 (.a [.val (.agg [bF, lF [u 3]]), .val (.agg [bF, lF [u 5]])]) (.a ⟨[.val (.agg [bF, lF [u 15]])], [none, none]⟩) := ex (.cons k122 (.cons k124 .nil)) (by kernel_rfl)
theorem k126 : Shows Tryz.prog 68 (.a [.val (.c (lF [[bF, lF [u 3]], [bF, lF [u 5]]]))]) (.a ⟨[.val (.agg [bF, lF [u 15]])], [none]⟩) := ex (.cons k55 (.cons k74 (.cons k49 (.cons k65 (.cons k125 .nil))))) (by kernel_rfl)
theorem k127 : Shows Tryz.prog 35 (.a [.val (.agg [bF, lF [u 3], bF, l1]), .val (.agg [bF, lF [u 5], bF, l1])]) (.a ⟨[.val (.agg [bF, lF [u 15], bF, l1])], [none, none]⟩) := ex (.cons k73 (.cons k64 (.cons k126 (.cons k56 .nil)))) (by kernel_rfl)
theorem k128 : Shows Tryz.prog 89 (.a [.val (.c (lF [u 15]))]) (.a ⟨[.val (.c (lF [u 15]))], [none]⟩) := ex (.nil) (by kernel_rfl)
theorem k129 : Shows Tryz.prog 92 (.a [.val (.c (bT)), .val (.c (lF [u 15]))]) (.a ⟨[.val (.agg [bT, lF [u 15]])], [none, none]⟩) := ex (.cons k123 .nil) (by kernel_rfl)
theorem k130 : Shows Tryz.prog 66 (.a [.val (.agg [bF, lF [u 15]])]) (.a ⟨[.val (.agg [bT, lF [u 15]])], [none]⟩) := ex (.cons k128 (.cons k129 .nil)) (by kernel_rfl)
theorem k131 : Shows Tryz.prog 34 (.a [.val (.agg [bF, lF [u 15], bF, l1])]) (.a ⟨[.val (.agg [bT, lF [u 15], bF, l1])], [none]⟩) := ex (.cons k130 .nil) (by kernel_rfl)
theorem k132 : Shows Tryz.prog 54 (.a [.val (.agg [bF, lF [u 6]])]) (.a ⟨[.val (.c (bF))], [none]⟩) := ex (.nil) (by kernel_rfl)
theorem k133 : Shows Tryz.prog 68 (.a [.val (.c (lF [[bF, lF [u 6]], [bF, l1]]))]) (.a ⟨[.val (.agg [bF, lF [u 6]])], [none]⟩) := ex (.cons k55 (.cons k132 (.cons k49 .nil))) (by kernel_rfl)
theorem k134 : Shows Tryz.prog 54 (.a [.val (.agg [bT, lF [u 15]])]) (.a ⟨[.val (.c (bF))], [none]⟩) := ex (.nil) (by kernel_rfl)
theorem k135 : Shows Tryz.prog 68 (.a [.val (.c (lF [[bT, lF [u 15]], [bF, l1]]))]) (.a ⟨[.val (.agg [bT, lF [u 15]])], [none]⟩) := ex (.cons k55 (.cons k134 (.cons k49 .nil))) (by kernel_rfl)
theorem k136 : Shows Tryz.prog 100 (.a [.val (.c (lF [u 6])), .val (.c (lF [u 15]))]) (.a ⟨[.val (.c (n64 (-1)))], [none, none]⟩) := ex (.nil) (by kernel_rfl)
theorem k137 : Shows Tryz.prog 90 (.a [.val (.c (lF [u 9]))]) (.a ⟨[.val (.c (lF [u 9]))], [none]⟩) := ex (.nil) (by kernel_rfl)
theorem k138 : Shows Tryz.prog 113 (.a [.val (.c (lF [u 15])), .val (.c (lF [u 6]))]) (.a ⟨[.val (.c (lF [u 9]))], [none, none]⟩) := ex (.cons k137 .nil) (by kernel_rfl)
theorem k139 : Shows Tryz.prog 92 (.a [.val (.c (bT)), .val (.c (lF [u 9]))]) (.a ⟨[.val (.agg [bT, lF [u 9]])], [none, none]⟩) := ex (.cons k137 .nil) (by kernel_rfl)
theorem k140 : Shows Tryz.prog 99 (.a [.val (.agg [bF, lF [u 6]]), .val (.agg [bT, lF [u 15]])]) (.a ⟨[.val (.agg [bT, lF [u 9]])], [none, none]⟩) := ex (.cons k136 (.cons k138 (.cons k139 .nil))) (by kernel_rfl)
theorem k141 : Shows Tryz.prog 67 (.a [.val (.agg [bT, lF [u 9]]), .val (.agg [bF, l1])]) (.a ⟨[.val (.agg [bT, lF [u 9], bF, l1])], [none, none]⟩) := ex (.cons k49 .nil) (by kernel_rfl)
theorem k142 : Shows Tryz.prog 72 (.a [.val (.agg [bF, lF [u 6], bF, l1]), .val (.agg [bT, lF [u 15], bF, l1])]) (.a ⟨[.val (.agg [bT, lF [u 9], bF, l1])], [none, none]⟩) := ex (.cons k133 (.cons k135 (.cons k140 (.cons k56 (.cons k141 .nil))))) (by kernel_rfl)
theorem k143 : Shows Tryz.prog 98 (.a [.val (.agg [bF, lF [u 6], bF, l1]), .val (.agg [bF, lF [u 15], bF, l1])]) (.a ⟨[.val (.agg [bT, lF [u 9], bF, l1])], [none, none]⟩) := ex (.cons k131 (.cons k142 .nil)) (by kernel_rfl)
theorem k144 : Shows Tryz.prog 70 (.a [.bor 4 [[bF, lF [u 3], bF, l1], [bF, lF [u 4], bF, l1], [bF, lF [u 6], bF, l1]], .val (.agg [bF, lF [u 3], bF, l1]), .bor 4 [[bF, l1, bF, l1], [bF, lF [u 2], bF, l1], [bF, lF [u 5], bF, l1]]]) (.a ⟨[], [some (.rows 4 [[bF, lT [], bF, l1], [bT, lF [u 2], bF, l1], [bT, lF [u 9], bF, l1]] false false), none, some (.rows 4 [[bF, l1, bF, l1], [bF, lF [u 2], bF, l1], [bF, lF [u 5], bF, l1]] false false)]⟩) := ex (.cons k72 (.cons k46 (.cons k76 (.cons k93 (.cons k95 (.cons k102 (.cons k118 (.cons k120 (.cons k127 (.cons k143 .nil)))))))))) (by kernel_rfl)
theorem k145 : Shows Tryz.prog 36 (.h ⟨[.c (.sl 0 1 1 false), .c (.sl 1 0 3 false), .c (.t (n64 0))], [some (.var [.sl 1 0 3 false, .sl 2 0 3 false]), some (.rows 4 [[bF, l1, bF, l1], [bF, lF [u 2], bF, l1], [bF, lF [u 5], bF, l1]] true false), some (.rows 4 [[bF, lF [u 3], bF, l1], [bF, lF [u 4], bF, l1], [bF, lF [u 6], bF, l1]] true false)]⟩) (.h ⟨[], [some (.var [.sl 1 0 3 false, .sl 2 0 3 false]), some (.rows 4 [[bF, l1, bF, l1], [bF, lF [u 2], bF, l1], [bF, lF [u 5], bF, l1]] true false), some (.rows 4 [[bF, lT [], bF, l1], [bT, lF [u 2], bF, l1], [bT, lF [u 9], bF, l1]] true false)]⟩) := ex (.cons k72 (.cons k77 (.cons k144 .nil))) (by kernel_rfl)
theorem k146 : Shows Tryz.prog 53 (.a [.val (.agg [bT, lF [u 2]])]) (.a ⟨[.val (.c (n64 (-1)))], [none]⟩) := ex (.nil) (by kernel_rfl)
theorem k147 : Shows Tryz.prog 46 (.a [.val (.agg [bT, lF [u 2], bF, l1])]) (.a ⟨[.val (.c (n64 (-1)))], [none]⟩) := ex (.cons k146 .nil) (by kernel_rfl)
theorem k148 : Shows Tryz.prog 33 (.h ⟨[.c (.sl 0 0 2 false), .c (.t (n64 1)), .c (.t (n64 1))], [some (.var [.sl 1 0 3 false, .sl 2 0 3 false]), some (.rows 4 [[bF, l1, bF, l1], [bF, lF [u 2], bF, l1], [bF, lF [u 5], bF, l1]] true false), some (.rows 4 [[bF, lT [], bF, l1], [bT, lF [u 2], bF, l1], [bT, lF [u 9], bF, l1]] true false)]⟩) (.h ⟨[.c (.t (n64 1))], [some (.var [.sl 1 0 3 false, .sl 2 0 3 false]), some (.rows 4 [[bF, l1, bF, l1], [bF, lF [u 2], bF, l1], [bF, lF [u 5], bF, l1]] true false), some (.rows 4 [[bF, lT [], bF, l1], [bT, lF [u 2], bF, l1], [bT, lF [u 9], bF, l1]] true false)]⟩) := ex (.cons k147 .nil) (by kernel_rfl)
theorem k149 : Shows Tryz.prog 89 (.a [.val (.c (l1))]) (.a ⟨[.val (.c (l1))], [none]⟩) := ex (.nil) (by kernel_rfl)
theorem k150 : Shows Tryz.prog 92 (.a [.val (.c (bT)), .val (.c (l1))]) (.a ⟨[.val (.agg [bT, l1])], [none, none]⟩) := ex (.cons k53 .nil) (by kernel_rfl)
theorem k151 : Shows Tryz.prog 66 (.a [.val (.agg [bF, l1])]) (.a ⟨[.val (.agg [bT, l1])], [none]⟩) := ex (.cons k149 (.cons k150 .nil)) (by kernel_rfl)
theorem k152 : Shows Tryz.prog 89 (.a [.val (.c (lF [u 2]))]) (.a ⟨[.val (.c (lF [u 2]))], [none]⟩) := ex (.nil) (by kernel_rfl)
theorem k153 : Shows Tryz.prog 92 (.a [.val (.c (bF)), .val (.c (lF [u 2]))]) (.a ⟨[.val (.agg [bF, lF [u 2]])], [none, none]⟩) := ex (.cons k112 .nil) (by kernel_rfl)
theorem k154 : Shows Tryz.prog 66 (.a [.val (.agg [bT, lF [u 2]])]) (.a ⟨[.val (.agg [bF, lF [u 2]])], [none]⟩) := ex (.cons k152 (.cons k153 .nil)) (by kernel_rfl)
theorem k155 : Shows Tryz.prog 60 (.a [.val (.agg [bT, lF [u 2], bF, l1])]) (.a ⟨[.val (.agg [bT, l1, bF, lF [u 2]]), .val (.c (n64 0))], [none]⟩) := ex (.cons k146 (.cons k151 (.cons k154 .nil))) (by kernel_rfl)
theorem k156 : Shows Tryz.prog 67 (.a [.val (.agg [bT, l1]), .val (.agg [bF, l1])]) (.a ⟨[.val (.agg [bT, l1, bF, l1])], [none, none]⟩) := ex (.cons k49 .nil) (by kernel_rfl)
theorem k157 : Shows Tryz.prog 90 (.a [.val (.c (lT []))]) (.a ⟨[.val (.c (lT []))], [none]⟩) := ex (.nil) (by kernel_rfl)
theorem k158 : Shows Tryz.prog 89 (.a [.val (.c (lT []))]) (.a ⟨[.val (.c (lT []))], [none]⟩) := ex (.nil) (by kernel_rfl)
theorem k159 : Shows Tryz.prog 91 (.a [.val (.c (lT []))]) (.a ⟨[.val (.c (w64 0))], [none]⟩) := ex (.nil) (by kernel_rfl)
theorem k160 : Shows Tryz.prog 91 (.a [.val (.c (lF [u 2]))]) (.a ⟨[.val (.c (w64 2))], [none]⟩) := ex (.nil) (by kernel_rfl)
theorem k161 : Shows Tryz.prog 90 (.a [.val (.c (lF [u 2, u 0]))]) (.a ⟨[.val (.c (lF [u 2]))], [none]⟩) := ex (.nil) (by kernel_rfl)
theorem k162 : Shows Tryz.prog 93 (.a [.val (.c (w64 2))]) (.a ⟨[.val (.c (lF [u 2]))], [none]⟩) := ex (.cons k161 .nil) (by kernel_rfl)
theorem k163 : Shows Tryz.prog 55 (.a [.val (.agg [bF, lT []]), .val (.agg [bF, lF [u 2]])]) (.a ⟨[.val (.agg [bF, lF [u 2]])], [none, none]⟩) := ex (.cons k157 (.cons k158 (.cons k112 (.cons k152 (.cons k159 (.cons k160 (.cons k162 (.cons k153 .nil)))))))) (by kernel_rfl)
theorem k164 : Shows Tryz.prog 100 (.a [.val (.c (lT [])), .val (.c (lF [u 2]))]) (.a ⟨[.val (.c (n64 (-1)))], [none, none]⟩) := ex (.nil) (by kernel_rfl)
theorem k165 : Shows Tryz.prog 94 (.a [.val (.c (lT [])), .val (.c (lF [u 2]))]) (.a ⟨[.val (.c (lT [])), .val (.c (lT []))], [none, none]⟩) := ex (.cons k157 (.cons k112 (.cons k164 (.cons k158 .nil)))) (by kernel_rfl)
theorem k166 : Shows Tryz.prog 92 (.a [.val (.c (bF)), .val (.c (lT []))]) (.a ⟨[.val (.agg [bF, lT []])], [none, none]⟩) := ex (.cons k157 .nil) (by kernel_rfl)
theorem k167 : Shows Tryz.prog 96 (.a [.val (.agg [bF, lT []]), .val (.agg [bF, lF [u 2]])]) (.a ⟨[.val (.agg [bF, lT []]), .val (.agg [bF, lT []]), .val (.c (n64 0))], [none, none]⟩) := ex (.cons k112 (.cons k165 (.cons k166 .nil))) (by kernel_rfl)
theorem k168 : Shows Tryz.prog 100 (.a [.val (.c (lF [u 2])), .val (.c (lF [u 2]))]) (.a ⟨[.val (.c (n64 0))], [none, none]⟩) := ex (.nil) (by kernel_rfl)
theorem k169 : Shows Tryz.prog 104 (.a [.val (.c (lF [u 2])), .val (.c (w64 2))]) (.a ⟨[.val (.c (l1)), .val (.c (w64 0))], [none, none]⟩) := ex (.cons k53 .nil) (by kernel_rfl)
theorem k170 : Shows Tryz.prog 90 (.a [.val (.c (lF [u 0, u 0]))]) (.a ⟨[.val (.c (lF []))], [none]⟩) := ex (.nil) (by kernel_rfl)
theorem k171 : Shows Tryz.prog 93 (.a [.val (.c (w64 0))]) (.a ⟨[.val (.c (lF []))], [none]⟩) := ex (.cons k170 .nil) (by kernel_rfl)
theorem k172 : Shows Tryz.prog 94 (.a [.val (.c (lF [u 2])), .val (.c (lF [u 2]))]) (.a ⟨[.val (.c (l1)), .val (.c (lF []))], [none, none]⟩) := ex (.cons k112 (.cons k168 (.cons k169 (.cons k171 .nil)))) (by kernel_rfl)
theorem k173 : Shows Tryz.prog 96 (.a [.val (.agg [bF, lF [u 2]]), .val (.agg [bF, lF [u 2]])]) (.a ⟨[.val (.agg [bF, l1]), .val (.agg [bF, lT []]), .val (.c (n64 0))], [none, none]⟩) := ex (.cons k112 (.cons k172 (.cons k54 (.cons k89 .nil)))) (by kernel_rfl)
theorem k174 : Shows Tryz.prog 67 (.a [.val (.agg [bF, lT []]), .val (.agg [bF, lF [u 2]])]) (.a ⟨[.val (.agg [bF, lT [], bF, l1])], [none, none]⟩) := ex (.cons k60 (.cons k163 (.cons k167 (.cons k173 .nil)))) (by kernel_rfl)
theorem k175 : Shows Tryz.prog 54 (.a [.val (.agg [bT, l1])]) (.a ⟨[.val (.c (bF))], [none]⟩) := ex (.nil) (by kernel_rfl)
theorem k176 : Shows Tryz.prog 54 (.a [.val (.agg [bF, lT []])]) (.a ⟨[.val (.c (bF))], [none]⟩) := ex (.nil) (by kernel_rfl)
theorem k177 : Shows Tryz.prog 114 (.a [.val (.c (l1)), .val (.c (lT []))]) (.a ⟨[.val (.c (lF []))], [none, none]⟩) := ex (.cons k86 .nil) (by kernel_rfl)
theorem k178 : Shows Tryz.prog 92 (.a [.val (.c (bT)), .val (.c (lF []))]) (.a ⟨[.val (.agg [bF, lT []])], [none, none]⟩) := ex (.cons k88 .nil) (by kernel_rfl)
theorem k179 : Shows Tryz.prog 97 (.a [.val (.agg [bT, l1]), .val (.agg [bF, lT []])]) (.a ⟨[.val (.agg [bF, lT []])], [none, none]⟩) := ex (.cons k177 (.cons k178 .nil)) (by kernel_rfl)
theorem k180 : Shows Tryz.prog 68 (.a [.val (.c (lF [[bT, l1], [bF, lT []]]))]) (.a ⟨[.val (.agg [bF, lT []])], [none]⟩) := ex (.cons k55 (.cons k175 (.cons k49 (.cons k176 (.cons k179 .nil))))) (by kernel_rfl)
theorem k181 : Shows Tryz.prog 35 (.a [.val (.agg [bT, l1, bF, lF [u 2]]), .val (.agg [bF, lT [], bF, l1])]) (.a ⟨[.val (.agg [bF, lT [], bF, l1])], [none, none]⟩) := ex (.cons k156 (.cons k174 (.cons k180 (.cons k56 .nil)))) (by kernel_rfl)
theorem k182 : Shows Tryz.prog 62 (.a [.val (.agg [bF, lT [], bF, l1]), .ref [bT, l1, bF, lF [u 2]]]) (.a ⟨[.val (.agg [bF, lT [], bF, l1])], [none, some (.var [.t (bT), .t (l1), .t (bF), .t (lF [u 2])])]⟩) := ex (.cons k181 .nil) (by kernel_rfl)
theorem k183 : Shows Tryz.prog 55 (.a [.val (.agg [bT, lF [u 2]]), .val (.agg [bF, lF [u 2]])]) (.a ⟨[.val (.agg [bF, lF [u 2]])], [none, none]⟩) := ex (.cons k112 (.cons k152 (.cons k160 (.cons k162 (.cons k153 .nil))))) (by kernel_rfl)
theorem k184 : Shows Tryz.prog 96 (.a [.val (.agg [bT, lF [u 2]]), .val (.agg [bF, lF [u 2]])]) (.a ⟨[.val (.agg [bT, l1]), .val (.agg [bF, lT []]), .val (.c (n64 0))], [none, none]⟩) := ex (.cons k112 (.cons k172 (.cons k150 (.cons k89 .nil)))) (by kernel_rfl)
theorem k185 : Shows Tryz.prog 67 (.a [.val (.agg [bT, lF [u 2]]), .val (.agg [bF, lF [u 2]])]) (.a ⟨[.val (.agg [bT, l1, bF, l1])], [none, none]⟩) := ex (.cons k60 (.cons k183 (.cons k184 (.cons k173 .nil)))) (by kernel_rfl)
theorem k186 : Shows Tryz.prog 114 (.a [.val (.c (l1)), .val (.c (l1))]) (.a ⟨[.val (.c (l1))], [none, none]⟩) := ex (.cons k51 .nil) (by kernel_rfl)
theorem k187 : Shows Tryz.prog 97 (.a [.val (.agg [bT, l1]), .val (.agg [bT, l1])]) (.a ⟨[.val (.agg [bF, l1])], [none, none]⟩) := ex (.cons k186 (.cons k54 .nil)) (by kernel_rfl)
theorem k188 : Shows Tryz.prog 68 (.a [.val (.c (lF [[bT, l1], [bT, l1]]))]) (.a ⟨[.val (.agg [bF, l1])], [none]⟩) := ex (.cons k55 (.cons k175 (.cons k49 (.cons k187 .nil)))) (by kernel_rfl)
theorem k189 : Shows Tryz.prog 35 (.a [.val (.agg [bT, l1, bF, lF [u 2]]), .val (.agg [bT, lF [u 2], bF, l1])]) (.a ⟨[.val (.agg [bF, l1, bF, l1])], [none, none]⟩) := ex (.cons k156 (.cons k185 (.cons k188 (.cons k56 .nil)))) (by kernel_rfl)
theorem k190 : Shows Tryz.prog 62 (.a [.val (.agg [bT, lF [u 2], bF, l1]), .ref [bT, l1, bF, lF [u 2]]]) (.a ⟨[.val (.agg [bF, l1, bF, l1])], [none, some (.var [.t (bT), .t (l1), .t (bF), .t (lF [u 2])])]⟩) := ex (.cons k189 .nil) (by kernel_rfl)
theorem k191 : Shows Tryz.prog 89 (.a [.val (.c (lF [u 9]))]) (.a ⟨[.val (.c (lF [u 9]))], [none]⟩) := ex (.nil) (by kernel_rfl)
theorem k192 : Shows Tryz.prog 91 (.a [.val (.c (lF [u 9]))]) (.a ⟨[.val (.c (w64 9))], [none]⟩) := ex (.nil) (by kernel_rfl)
theorem k193 : Shows Tryz.prog 55 (.a [.val (.agg [bT, lF [u 9]]), .val (.agg [bF, lF [u 2]])]) (.a ⟨[.val (.agg [bF, l1])], [none, none]⟩) := ex (.cons k137 (.cons k191 (.cons k112 (.cons k152 (.cons k192 (.cons k160 (.cons k52 (.cons k54 .nil)))))))) (by kernel_rfl)
theorem k194 : Shows Tryz.prog 67 (.a [.val (.agg [bT, lF [u 9]]), .val (.agg [bF, lF [u 2]])]) (.a ⟨[.val (.agg [bT, lF [u 9], bF, lF [u 2]])], [none, none]⟩) := ex (.cons k60 (.cons k193 (.cons k49 .nil))) (by kernel_rfl)
theorem k195 : Shows Tryz.prog 54 (.a [.val (.agg [bT, lF [u 9]])]) (.a ⟨[.val (.c (bF))], [none]⟩) := ex (.nil) (by kernel_rfl)
theorem k196 : Shows Tryz.prog 90 (.a [.val (.c (lF [u 9, u 0]))]) (.a ⟨[.val (.c (lF [u 9]))], [none]⟩) := ex (.nil) (by kernel_rfl)
theorem k197 : Shows Tryz.prog 114 (.a [.val (.c (l1)), .val (.c (lF [u 9]))]) (.a ⟨[.val (.c (lF [u 9]))], [none, none]⟩) := ex (.cons k196 .nil) (by kernel_rfl)
theorem k198 : Shows Tryz.prog 92 (.a [.val (.c (bF)), .val (.c (lF [u 9]))]) (.a ⟨[.val (.agg [bF, lF [u 9]])], [none, none]⟩) := ex (.cons k137 .nil) (by kernel_rfl)
theorem k199 : Shows Tryz.prog 97 (.a [.val (.agg [bT, l1]), .val (.agg [bT, lF [u 9]])]) (.a ⟨[.val (.agg [bF, lF [u 9]])], [none, none]⟩) := ex (.cons k197 (.cons k198 .nil)) (by kernel_rfl)
theorem k200 : Shows Tryz.prog 68 (.a [.val (.c (lF [[bT, l1], [bT, lF [u 9]]]))]) (.a ⟨[.val (.agg [bF, lF [u 9]])], [none]⟩) := ex (.cons k55 (.cons k175 (.cons k49 (.cons k195 (.cons k199 .nil))))) (by kernel_rfl)
theorem k201 : Shows Tryz.prog 35 (.a [.val (.agg [bT, l1, bF, lF [u 2]]), .val (.agg [bT, lF [u 9], bF, l1])]) (.a ⟨[.val (.agg [bF, lF [u 9], bF, lF [u 2]])], [none, none]⟩) := ex (.cons k156 (.cons k194 (.cons k200 (.cons k61 .nil)))) (by kernel_rfl)
theorem k202 : Shows Tryz.prog 62 (.a [.val (.agg [bT, lF [u 9], bF, l1]), .ref [bT, l1, bF, lF [u 2]]]) (.a ⟨[.val (.agg [bF, lF [u 9], bF, lF [u 2]])], [none, some (.var [.t (bT), .t (l1), .t (bF), .t (lF [u 2])])]⟩) := ex (.cons k201 .nil) (by kernel_rfl)
theorem k203 : Shows Tryz.prog 61 (.a [.val (.c (lF [[bF, lT [], bF, l1], [bT, lF [u 2], bF, l1], [bT, lF [u 9], bF, l1]])), .clo 62 [(2, (0, 0))], .gh [bT, l1, bF, lF [u 2]]]) (.a ⟨[.own 4 [[bF, lT [], bF, l1], [bF, l1, bF, l1], [bF, lF [u 9], bF, lF [u 2]]]], [none, none, some (.var [.t (bT), .t (l1), .t (bF), .t (lF [u 2])])]⟩) := ex (.cons k182 (.cons k190 (.cons k202 .nil))) (by kernel_rfl)
theorem k204 : Shows Tryz.prog 68 (.a [.val (.c (lF [[bF, lF [u 2]], [bF, l1]]))]) (.a ⟨[.val (.agg [bF, lF [u 2]])], [none]⟩) := ex (.cons k55 (.cons k60 (.cons k49 .nil))) (by kernel_rfl)
theorem k205 : Shows Tryz.prog 35 (.a [.val (.agg [bF, lF [u 2], bF, l1]), .val (.agg [bF, l1, bF, l1])]) (.a ⟨[.val (.agg [bF, lF [u 2], bF, l1])], [none, none]⟩) := ex (.cons k59 (.cons k50 (.cons k204 (.cons k56 .nil)))) (by kernel_rfl)
theorem k206 : Shows Tryz.prog 69 (.a [.val (.agg [bF, lF [u 2], bF, l1]), .val (.agg [bF, l1, bF, l1])]) (.a ⟨[.val (.agg [bF, lF [u 2], bF, l1]), .val (.c (n64 0))], [none, none]⟩) := ex (.cons k48 (.cons k205 .nil)) (by kernel_rfl)
theorem k207 : Shows Tryz.prog 53 (.a [.val (.agg [bF, lT []])]) (.a ⟨[.val (.c (n64 0))], [none]⟩) := ex (.nil) (by kernel_rfl)
theorem k208 : Shows Tryz.prog 46 (.a [.val (.agg [bF, lT [], bF, l1])]) (.a ⟨[.val (.c (n64 0))], [none]⟩) := ex (.cons k207 .nil) (by kernel_rfl)
theorem k209 : Shows Tryz.prog 66 (.a [.val (.agg [bF, lF [u 2]])]) (.a ⟨[.val (.agg [bT, lF [u 2]])], [none]⟩) := ex (.cons k152 (.cons k114 .nil)) (by kernel_rfl)
theorem k210 : Shows Tryz.prog 34 (.a [.val (.agg [bF, lF [u 2], bF, l1])]) (.a ⟨[.val (.agg [bT, lF [u 2], bF, l1])], [none]⟩) := ex (.cons k209 .nil) (by kernel_rfl)
theorem k211 : Shows Tryz.prog 54 (.a [.val (.agg [bT, lF [u 2]])]) (.a ⟨[.val (.c (bF))], [none]⟩) := ex (.nil) (by kernel_rfl)
theorem k212 : Shows Tryz.prog 68 (.a [.val (.c (lF [[bT, lF [u 2]], [bF, l1]]))]) (.a ⟨[.val (.agg [bT, lF [u 2]])], [none]⟩) := ex (.cons k55 (.cons k211 (.cons k49 .nil))) (by kernel_rfl)
theorem k213 : Shows Tryz.prog 113 (.a [.val (.c (lF [u 2])), .val (.c (lF [u 2]))]) (.a ⟨[.val (.c (lF []))], [none, none]⟩) := ex (.cons k86 .nil) (by kernel_rfl)
theorem k214 : Shows Tryz.prog 99 (.a [.val (.agg [bF, lF [u 2]]), .val (.agg [bT, lF [u 2]])]) (.a ⟨[.val (.agg [bF, lT []])], [none, none]⟩) := ex (.cons k168 (.cons k213 (.cons k89 .nil))) (by kernel_rfl)
theorem k215 : Shows Tryz.prog 72 (.a [.val (.agg [bF, lF [u 2], bF, l1]), .val (.agg [bT, lF [u 2], bF, l1])]) (.a ⟨[.val (.agg [bF, lT [], bF, l1])], [none, none]⟩) := ex (.cons k204 (.cons k212 (.cons k214 (.cons k56 (.cons k91 .nil))))) (by kernel_rfl)
theorem k216 : Shows Tryz.prog 98 (.a [.val (.agg [bF, lF [u 2], bF, l1]), .val (.agg [bF, lF [u 2], bF, l1])]) (.a ⟨[.val (.agg [bF, lT [], bF, l1])], [none, none]⟩) := ex (.cons k210 (.cons k215 .nil)) (by kernel_rfl)
theorem k217 : Shows Tryz.prog 53 (.a [.val (.agg [bF, lF [u 9]])]) (.a ⟨[.val (.c (n64 1))], [none]⟩) := ex (.nil) (by kernel_rfl)
theorem k218 : Shows Tryz.prog 46 (.a [.val (.agg [bF, lF [u 9], bF, lF [u 2]])]) (.a ⟨[.val (.c (n64 1))], [none]⟩) := ex (.cons k217 .nil) (by kernel_rfl)
theorem k219 : Shows Tryz.prog 55 (.a [.val (.agg [bF, lF [u 2]]), .val (.agg [bF, lF [u 2]])]) (.a ⟨[.val (.agg [bF, lF [u 2]])], [none, none]⟩) := ex (.cons k112 (.cons k152 (.cons k160 (.cons k162 (.cons k153 .nil))))) (by kernel_rfl)
open Go Go.Abs Go.Proofs
theorem k220 : Shows Tryz.prog 67 (.a [.val (.agg [bF, lF [u 2]]), .val (.agg [bF, lF [u 2]])]) (.a ⟨[.val (.agg [bF, l1, bF, l1])], [none, none]⟩) := ex (.cons k60 (.cons k219 (.cons k173 .nil))) (by kernel_rfl)
theorem k221 : Shows Tryz.prog 67 (.a [.val (.agg [bF, lF [u 9]]), .val (.agg [bF, l1])]) (.a ⟨[.val (.agg [bF, lF [u 9], bF, l1])], [none, none]⟩) := ex (.cons k49 .nil) (by kernel_rfl)
theorem k222 : Shows Tryz.prog 54 (.a [.val (.agg [bF, lF [u 9]])]) (.a ⟨[.val (.c (bF))], [none]⟩) := ex (.nil) (by kernel_rfl)
theorem k223 : Shows Tryz.prog 68 (.a [.val (.c (lF [[bF, l1], [bF, lF [u 9]]]))]) (.a ⟨[.val (.agg [bF, lF [u 9]])], [none]⟩) := ex (.cons k55 (.cons k49 (.cons k222 .nil))) (by kernel_rfl)
theorem k224 : Shows Tryz.prog 35 (.a [.val (.agg [bF, lF [u 2], bF, l1]), .val (.agg [bF, lF [u 9], bF, lF [u 2]])]) (.a ⟨[.val (.agg [bF, lF [u 9], bF, l1])], [none, none]⟩) := ex (.cons k220 (.cons k221 (.cons k223 (.cons k56 .nil)))) (by kernel_rfl)
theorem k225 : Shows Tryz.prog 66 (.a [.val (.agg [bF, lF [u 9]])]) (.a ⟨[.val (.agg [bT, lF [u 9]])], [none]⟩) := ex (.cons k191 (.cons k139 .nil)) (by kernel_rfl)
theorem k226 : Shows Tryz.prog 34 (.a [.val (.agg [bF, lF [u 9], bF, l1])]) (.a ⟨[.val (.agg [bT, lF [u 9], bF, l1])], [none]⟩) := ex (.cons k225 .nil) (by kernel_rfl)
theorem k227 : Shows Tryz.prog 68 (.a [.val (.c (lF [[bF, lF [u 5]], [bF, l1]]))]) (.a ⟨[.val (.agg [bF, lF [u 5]])], [none]⟩) := ex (.cons k55 (.cons k65 (.cons k49 .nil))) (by kernel_rfl)
theorem k228 : Shows Tryz.prog 68 (.a [.val (.c (lF [[bT, lF [u 9]], [bF, l1]]))]) (.a ⟨[.val (.agg [bT, lF [u 9]])], [none]⟩) := ex (.cons k55 (.cons k195 (.cons k49 .nil))) (by kernel_rfl)
theorem k229 : Shows Tryz.prog 100 (.a [.val (.c (lF [u 5])), .val (.c (lF [u 9]))]) (.a ⟨[.val (.c (n64 (-1)))], [none, none]⟩) := ex (.nil) (by kernel_rfl)
theorem k230 : Shows Tryz.prog 90 (.a [.val (.c (lF [u 4]))]) (.a ⟨[.val (.c (lF [u 4]))], [none]⟩) := ex (.nil) (by kernel_rfl)
theorem k231 : Shows Tryz.prog 113 (.a [.val (.c (lF [u 9])), .val (.c (lF [u 5]))]) (.a ⟨[.val (.c (lF [u 4]))], [none, none]⟩) := ex (.cons k230 .nil) (by kernel_rfl)
theorem k232 : Shows Tryz.prog 92 (.a [.val (.c (bT)), .val (.c (lF [u 4]))]) (.a ⟨[.val (.agg [bT, lF [u 4]])], [none, none]⟩) := ex (.cons k230 .nil) (by kernel_rfl)
theorem k233 : Shows Tryz.prog 99 (.a [.val (.agg [bF, lF [u 5]]), .val (.agg [bT, lF [u 9]])]) (.a ⟨[.val (.agg [bT, lF [u 4]])], [none, none]⟩) := ex (.cons k229 (.cons k231 (.cons k232 .nil))) (by kernel_rfl)
theorem k234 : Shows Tryz.prog 67 (.a [.val (.agg [bT, lF [u 4]]), .val (.agg [bF, l1])]) (.a ⟨[.val (.agg [bT, lF [u 4], bF, l1])], [none, none]⟩) := ex (.cons k49 .nil) (by kernel_rfl)
theorem k235 : Shows Tryz.prog 72 (.a [.val (.agg [bF, lF [u 5], bF, l1]), .val (.agg [bT, lF [u 9], bF, l1])]) (.a ⟨[.val (.agg [bT, lF [u 4], bF, l1])], [none, none]⟩) := ex (.cons k227 (.cons k228 (.cons k233 (.cons k56 (.cons k234 .nil))))) (by kernel_rfl)
theorem k236 : Shows Tryz.prog 98 (.a [.val (.agg [bF, lF [u 5], bF, l1]), .val (.agg [bF, lF [u 9], bF, l1])]) (.a ⟨[.val (.agg [bT, lF [u 4], bF, l1])], [none, none]⟩) := ex (.cons k226 (.cons k235 .nil)) (by kernel_rfl)
theorem k237 : Shows Tryz.prog 70 (.a [.bor 4 [[bF, l1, bF, l1], [bF, lF [u 2], bF, l1], [bF, lF [u 5], bF, l1]], .val (.agg [bF, lF [u 2], bF, l1]), .bor 4 [[bF, lT [], bF, l1], [bF, l1, bF, l1], [bF, lF [u 9], bF, lF [u 2]]]]) (.a ⟨[], [some (.rows 4 [[bF, l1, bF, l1], [bF, lT [], bF, l1], [bT, lF [u 4], bF, l1]] false false), none, some (.rows 4 [[bF, lT [], bF, l1], [bF, l1, bF, l1], [bF, lF [u 9], bF, lF [u 2]]] false false)]⟩) := ex (.cons k95 (.cons k208 (.cons k46 (.cons k205 (.cons k216 (.cons k218 (.cons k224 (.cons k236 .nil)))))))) (by kernel_rfl)
theorem k238 : Shows Tryz.prog 36 (.h ⟨[.c (.sl 0 0 1 false), .c (.sl 1 0 3 false), .c (.t (n64 1))], [some (.var [.sl 2 0 3 false, .sl 1 0 3 false]), some (.rows 4 [[bF, lT [], bF, l1], [bF, l1, bF, l1], [bF, lF [u 9], bF, lF [u 2]]] true false), some (.rows 4 [[bF, l1, bF, l1], [bF, lF [u 2], bF, l1], [bF, lF [u 5], bF, l1]] true false)]⟩) (.h ⟨[], [some (.var [.sl 2 0 3 false, .sl 1 0 3 false]), some (.rows 4 [[bF, lT [], bF, l1], [bF, l1, bF, l1], [bF, lF [u 9], bF, lF [u 2]]] true false), some (.rows 4 [[bF, l1, bF, l1], [bF, lT [], bF, l1], [bT, lF [u 4], bF, l1]] true false)]⟩) := ex (.cons k95 (.cons k206 (.cons k237 .nil))) (by kernel_rfl)
theorem k239 : Shows Tryz.prog 36 (.h ⟨[.c (.sl 0 2 0 false), .c (.sl 1 0 3 false), .c (.t (n64 1))], [some (.var [.sl 2 0 3 false, .sl 1 0 3 false]), some (.rows 4 [[bF, lT [], bF, l1], [bF, l1, bF, l1], [bF, lF [u 9], bF, lF [u 2]]] true false), some (.rows 4 [[bF, l1, bF, l1], [bF, lT [], bF, l1], [bT, lF [u 4], bF, l1]] true false)]⟩) (.h ⟨[], [some (.var [.sl 2 0 3 false, .sl 1 0 3 false]), some (.rows 4 [[bF, lT [], bF, l1], [bF, l1, bF, l1], [bF, lF [u 9], bF, lF [u 2]]] true false), some (.rows 4 [[bF, l1, bF, l1], [bF, lT [], bF, l1], [bT, lF [u 4], bF, l1]] true false)]⟩) := ex (.nil) (by kernel_rfl)
theorem k240 : Shows Tryz.prog 33 (.h ⟨[.c (.sl 0 0 2 false), .c (.t (n64 2)), .c (.t (n64 2))], [some (.var [.sl 1 0 3 false, .sl 2 0 3 false]), some (.rows 4 [[bF, l1, bF, l1], [bF, lT [], bF, l1], [bT, lF [u 4], bF, l1]] true false), some (.rows 4 [[bF, lT [], bF, l1], [bF, l1, bF, l1], [bF, lF [u 9], bF, lF [u 2]]] true false)]⟩) (.h ⟨[.c (.t (n64 (-1)))], [some (.var [.sl 1 0 3 false, .sl 2 0 3 false]), some (.rows 4 [[bF, l1, bF, l1], [bF, lT [], bF, l1], [bT, lF [u 4], bF, l1]] true false), some (.rows 4 [[bF, lT [], bF, l1], [bF, l1, bF, l1], [bF, lF [u 9], bF, lF [u 2]]] true false)]⟩) := ex (.nil) (by kernel_rfl)
theorem k241 : Shows Tryz.prog 27 (.h ⟨[.c (.sl 0 0 2 false)], [some (.var [.sl 1 0 3 false, .sl 2 0 3 false]), some (.rows 4 [[bF, l1, bF, l1], [bF, lF [u 2], bF, l1], [bF, lF [u 5], bF, l1]] true false), some (.rows 4 [[bF, lF [u 3], bF, l1], [bF, lF [u 4], bF, l1], [bF, lF [u 6], bF, l1]] true false)]⟩) (.h ⟨[.c (.sl 3 0 2 false), .c (.sl 4 0 2 false)], [some (.var [.sl 1 0 3 false, .sl 2 0 3 false]), some (.rows 4 [[bF, l1, bF, l1], [bF, lF [u 2], bF, l1], [bF, lF [u 5], bF, l1]] true false), some (.rows 4 [[bF, lF [u 3], bF, l1], [bF, lF [u 4], bF, l1], [bF, lF [u 6], bF, l1]] true false), some (.var [.sl 5 0 3 false, .sl 6 0 3 false]), some (.rows 1 [[n64 0], [n64 1]] true false), some (.rows 4 [[bF, l1, bF, l1], [bF, lT [], bF, l1], [bT, lF [u 4], bF, l1]] true false), some (.rows 4 [[bF, lT [], bF, l1], [bF, l1, bF, l1], [bF, lF [u 9], bF, lF [u 2]]] true false)]⟩) := ex (.cons k43 (.cons k44 (.cons k47 (.cons k48 (.cons k69 (.cons k70 (.cons k145 (.cons k148 (.cons k155 (.cons k203 (.cons k238 (.cons k239 (.cons k240 .nil))))))))))))) (by kernel_rfl)
theorem k242 : Shows Tryz.prog 63 (.a [.val (.c (lF [[n64 0], [n64 1]])), .val (.c (n64 2))]) (.a ⟨[.val (.c (n64 (-1)))], [none, none]⟩) := ex (.nil) (by kernel_rfl)
theorem k243 : Shows Tryz.prog 28 (.a [.val (.c (lF [[n64 0], [n64 1]])), .val (.c (n64 2))]) (.a ⟨[.val (.c (bF))], [none, none]⟩) := ex (.cons k242 .nil) (by kernel_rfl)
theorem k244 : Shows Tryz.prog 65 (.a [.val (.c (n64 0))]) (.a ⟨[.val (.agg [bF, lT []])], [none]⟩) := ex (.cons k171 (.cons k89 .nil)) (by kernel_rfl)
theorem k245 : Shows Tryz.prog 64 (.a [.val (.agg [bF, lT []])]) (.a ⟨[.val (.agg [bF, lT [], bF, l1])], [none]⟩) := ex (.cons k55 .nil) (by kernel_rfl)
theorem k246 : Shows Tryz.prog 32 (.a [.val (.c (n64 0))]) (.a ⟨[.val (.agg [bF, lT [], bF, l1])], [none]⟩) := ex (.cons k244 (.cons k245 .nil)) (by kernel_rfl)
theorem k247 : Shows Tryz.prog 29 (.a [.val (.c (n64 2))]) (.a ⟨[.own 4 [[bF, lT [], bF, l1], [bF, lT [], bF, l1]]], [none]⟩) := ex (.cons k246 .nil) (by kernel_rfl)
theorem k248 : Shows Tryz.prog 8 (.a [.val (.c (lF [[lF [[bF, l1, bF, l1], [bF, lF [u 2], bF, l1]]], [lF [[bF, lF [u 3], bF, l1], [bF, lF [u 4], bF, l1]]]])), .val (.c (lF [[bF, lF [u 5], bF, l1], [bF, lF [u 6], bF, l1]]))]) (.a ⟨[.val (.c (lF [[bT, lF [u 4], bF, l1], [bF, lF [u 9], bF, lF [u 2]]])), .val (.c (n64 0))], [none, none]⟩) := ex (.cons k38 (.cons k39 (.cons k40 (.cons k241 (.cons k243 (.cons k247 .nil)))))) (by kernel_rfl)
theorem k249 : Shows Tryz.prog 7 (.a [.val (.c (lF [[n64 1], [n64 2], [n64 2], [n64 4]]))]) (.a ⟨[.val (.c (lF [[lF [[bF, l1, bF, l1], [bF, lF [u 2], bF, l1]]], [lF [[bF, lF [u 2], bF, l1], [bF, lF [u 4], bF, l1]]]]))], [none]⟩) := ex (.cons k5 (.cons k11 (.cons k23 .nil))) (by kernel_rfl)
theorem k250 : Shows Tryz.prog 9 (.a [.val (.c (lF [[n64 1], [n64 3]]))]) (.a ⟨[.val (.c (lF [[bF, l1, bF, l1], [bF, lF [u 3], bF, l1]]))], [none]⟩) := ex (.cons k5 (.cons k17 .nil)) (by kernel_rfl)
theorem k251 : Shows Tryz.prog 25 (.h ⟨[.c (.t (lF [[lF [[bF, l1, bF, l1], [bF, lF [u 2], bF, l1]]], [lF [[bF, lF [u 2], bF, l1], [bF, lF [u 4], bF, l1]]]]))], []⟩) (.h ⟨[.c (.t (n64 2))], []⟩) := ex (.nil) (by kernel_rfl)
theorem k252 : Shows Tryz.prog 26 (.a [.val (.c (lF [[bF, lF [u 2], bF, l1], [bF, lF [u 4], bF, l1]]))]) (.a ⟨[.own 4 [[bF, lF [u 2], bF, l1], [bF, lF [u 4], bF, l1]]], [none]⟩) := ex (.nil) (by kernel_rfl)
theorem k253 : Shows Tryz.prog 26 (.a [.bor 4 [[bF, l1, bF, l1], [bF, lF [u 2], bF, l1], [bF, l1, bF, l1]]]) (.a ⟨[.own 4 [[bF, l1, bF, l1], [bF, lF [u 2], bF, l1], [bF, l1, bF, l1]]], [some (.rows 4 [[bF, l1, bF, l1], [bF, lF [u 2], bF, l1], [bF, l1, bF, l1]] false false)]⟩) := ex (.nil) (by kernel_rfl)
theorem k254 : Shows Tryz.prog 26 (.a [.bor 4 [[bF, lF [u 2], bF, l1], [bF, lF [u 4], bF, l1], [bF, lF [u 3], bF, l1]]]) (.a ⟨[.own 4 [[bF, lF [u 2], bF, l1], [bF, lF [u 4], bF, l1], [bF, lF [u 3], bF, l1]]], [some (.rows 4 [[bF, lF [u 2], bF, l1], [bF, lF [u 4], bF, l1], [bF, lF [u 3], bF, l1]] false false)]⟩) := ex (.nil) (by kernel_rfl)
theorem k255 : Shows Tryz.prog 31 (.h ⟨[.c (.sl 0 0 2 false), .c (.t (.v (.func (.func 26) #[] #[])))], [some (.var [.sl 1 0 3 false, .sl 2 0 3 false]), some (.rows 4 [[bF, l1, bF, l1], [bF, lF [u 2], bF, l1], [bF, l1, bF, l1]] true false), some (.rows 4 [[bF, lF [u 2], bF, l1], [bF, lF [u 4], bF, l1], [bF, lF [u 3], bF, l1]] true false)]⟩) (.h ⟨[.c (.sl 3 0 2 false)], [some (.var [.sl 1 0 3 false, .sl 2 0 3 false]), some (.rows 4 [[bF, l1, bF, l1], [bF, lF [u 2], bF, l1], [bF, l1, bF, l1]] true false), some (.rows 4 [[bF, lF [u 2], bF, l1], [bF, lF [u 4], bF, l1], [bF, lF [u 3], bF, l1]] true false), some (.var [.sl 4 0 3 false, .sl 5 0 3 false]), some (.rows 4 [[bF, l1, bF, l1], [bF, lF [u 2], bF, l1], [bF, l1, bF, l1]] true false), some (.rows 4 [[bF, lF [u 2], bF, l1], [bF, lF [u 4], bF, l1], [bF, lF [u 3], bF, l1]] true false)]⟩) := ex (.cons k253 (.cons k254 .nil)) (by kernel_rfl)
theorem k256 : Shows Tryz.prog 25 (.h ⟨[.c (.sl 0 0 2 false)], [some (.var [.sl 1 0 3 false, .sl 2 0 3 false]), some (.rows 4 [[bF, l1, bF, l1], [bF, lF [u 2], bF, l1], [bF, l1, bF, l1]] true false), some (.rows 4 [[bF, lF [u 2], bF, l1], [bF, lF [u 4], bF, l1], [bF, lF [u 3], bF, l1]] true false)]⟩) (.h ⟨[.c (.t (n64 3))], [some (.var [.sl 1 0 3 false, .sl 2 0 3 false]), some (.rows 4 [[bF, l1, bF, l1], [bF, lF [u 2], bF, l1], [bF, l1, bF, l1]] true false), some (.rows 4 [[bF, lF [u 2], bF, l1], [bF, lF [u 4], bF, l1], [bF, lF [u 3], bF, l1]] true false)]⟩) := ex (.nil) (by kernel_rfl)
theorem k257 : Shows Tryz.prog 33 (.h ⟨[.c (.sl 0 0 2 false), .c (.t (n64 0)), .c (.t (n64 0))], [some (.var [.sl 1 0 3 false, .sl 2 0 3 false]), some (.rows 4 [[bF, l1, bF, l1], [bF, lF [u 2], bF, l1], [bF, l1, bF, l1]] true false), some (.rows 4 [[bF, lF [u 2], bF, l1], [bF, lF [u 4], bF, l1], [bF, lF [u 3], bF, l1]] true false)]⟩) (.h ⟨[.c (.t (n64 0))], [some (.var [.sl 1 0 3 false, .sl 2 0 3 false]), some (.rows 4 [[bF, l1, bF, l1], [bF, lF [u 2], bF, l1], [bF, l1, bF, l1]] true false), some (.rows 4 [[bF, lF [u 2], bF, l1], [bF, lF [u 4], bF, l1], [bF, lF [u 3], bF, l1]] true false)]⟩) := ex (.cons k46 .nil) (by kernel_rfl)
theorem k258 : Shows Tryz.prog 61 (.a [.val (.c (lF [[bF, l1, bF, l1], [bF, lF [u 2], bF, l1], [bF, l1, bF, l1]])), .clo 62 [(2, (0, 0))], .gh [bF, l1, bF, l1]]) (.a ⟨[.own 4 [[bF, l1, bF, l1], [bF, lF [u 2], bF, l1], [bF, l1, bF, l1]]], [none, none, some (.var [.t (bF), .t (l1), .t (bF), .t (l1)])]⟩) := ex (.cons k58 (.cons k63 .nil)) (by kernel_rfl)
theorem k259 : Shows Tryz.prog 36 (.h ⟨[.c (.sl 0 0 0 false), .c (.sl 1 0 3 false), .c (.t (n64 0))], [some (.var [.sl 1 0 3 false, .sl 2 0 3 false]), some (.rows 4 [[bF, l1, bF, l1], [bF, lF [u 2], bF, l1], [bF, l1, bF, l1]] true false), some (.rows 4 [[bF, lF [u 2], bF, l1], [bF, lF [u 4], bF, l1], [bF, lF [u 3], bF, l1]] true false)]⟩) (.h ⟨[], [some (.var [.sl 1 0 3 false, .sl 2 0 3 false]), some (.rows 4 [[bF, l1, bF, l1], [bF, lF [u 2], bF, l1], [bF, l1, bF, l1]] true false), some (.rows 4 [[bF, lF [u 2], bF, l1], [bF, lF [u 4], bF, l1], [bF, lF [u 3], bF, l1]] true false)]⟩) := ex (.nil) (by kernel_rfl)
theorem k260 : Shows Tryz.prog 90 (.a [.val (.c (lF [u 4, u 0]))]) (.a ⟨[.val (.c (lF [u 4]))], [none]⟩) := ex (.nil) (by kernel_rfl)
theorem k261 : Shows Tryz.prog 114 (.a [.val (.c (lF [u 2])), .val (.c (lF [u 2]))]) (.a ⟨[.val (.c (lF [u 4]))], [none, none]⟩) := ex (.cons k260 .nil) (by kernel_rfl)
theorem k262 : Shows Tryz.prog 92 (.a [.val (.c (bF)), .val (.c (lF [u 4]))]) (.a ⟨[.val (.agg [bF, lF [u 4]])], [none, none]⟩) := ex (.cons k230 .nil) (by kernel_rfl)
theorem k263 : Shows Tryz.prog 97 (.a [.val (.agg [bF, lF [u 2]]), .val (.agg [bF, lF [u 2]])]) (.a ⟨[.val (.agg [bF, lF [u 4]])], [none, none]⟩) := ex (.cons k261 (.cons k262 .nil)) (by kernel_rfl)
theorem k264 : Shows Tryz.prog 68 (.a [.val (.c (lF [[bF, lF [u 2]], [bF, lF [u 2]]]))]) (.a ⟨[.val (.agg [bF, lF [u 4]])], [none]⟩) := ex (.cons k55 (.cons k60 (.cons k49 (.cons k263 .nil)))) (by kernel_rfl)
theorem k265 : Shows Tryz.prog 35 (.a [.val (.agg [bF, lF [u 2], bF, l1]), .val (.agg [bF, lF [u 2], bF, l1])]) (.a ⟨[.val (.agg [bF, lF [u 4], bF, l1])], [none, none]⟩) := ex (.cons k59 (.cons k264 (.cons k56 .nil))) (by kernel_rfl)
theorem k266 : Shows Tryz.prog 89 (.a [.val (.c (lF [u 4]))]) (.a ⟨[.val (.c (lF [u 4]))], [none]⟩) := ex (.nil) (by kernel_rfl)
theorem k267 : Shows Tryz.prog 66 (.a [.val (.agg [bF, lF [u 4]])]) (.a ⟨[.val (.agg [bT, lF [u 4]])], [none]⟩) := ex (.cons k266 (.cons k232 .nil)) (by kernel_rfl)
theorem k268 : Shows Tryz.prog 34 (.a [.val (.agg [bF, lF [u 4], bF, l1])]) (.a ⟨[.val (.agg [bT, lF [u 4], bF, l1])], [none]⟩) := ex (.cons k267 .nil) (by kernel_rfl)
theorem k269 : Shows Tryz.prog 54 (.a [.val (.agg [bT, lF [u 4]])]) (.a ⟨[.val (.c (bF))], [none]⟩) := ex (.nil) (by kernel_rfl)
theorem k270 : Shows Tryz.prog 68 (.a [.val (.c (lF [[bT, lF [u 4]], [bF, l1]]))]) (.a ⟨[.val (.agg [bT, lF [u 4]])], [none]⟩) := ex (.cons k55 (.cons k269 (.cons k49 .nil))) (by kernel_rfl)
theorem k271 : Shows Tryz.prog 100 (.a [.val (.c (lF [u 4])), .val (.c (lF [u 4]))]) (.a ⟨[.val (.c (n64 0))], [none, none]⟩) := ex (.nil) (by kernel_rfl)
theorem k272 : Shows Tryz.prog 113 (.a [.val (.c (lF [u 4])), .val (.c (lF [u 4]))]) (.a ⟨[.val (.c (lF []))], [none, none]⟩) := ex (.cons k86 .nil) (by kernel_rfl)
theorem k273 : Shows Tryz.prog 99 (.a [.val (.agg [bF, lF [u 4]]), .val (.agg [bT, lF [u 4]])]) (.a ⟨[.val (.agg [bF, lT []])], [none, none]⟩) := ex (.cons k271 (.cons k272 (.cons k89 .nil))) (by kernel_rfl)
theorem k274 : Shows Tryz.prog 72 (.a [.val (.agg [bF, lF [u 4], bF, l1]), .val (.agg [bT, lF [u 4], bF, l1])]) (.a ⟨[.val (.agg [bF, lT [], bF, l1])], [none, none]⟩) := ex (.cons k108 (.cons k270 (.cons k273 (.cons k56 (.cons k91 .nil))))) (by kernel_rfl)
theorem k275 : Shows Tryz.prog 98 (.a [.val (.agg [bF, lF [u 4], bF, l1]), .val (.agg [bF, lF [u 4], bF, l1])]) (.a ⟨[.val (.agg [bF, lT [], bF, l1])], [none, none]⟩) := ex (.cons k268 (.cons k274 .nil)) (by kernel_rfl)
theorem k276 : Shows Tryz.prog 100 (.a [.val (.c (lF [u 3])), .val (.c (lF [u 2]))]) (.a ⟨[.val (.c (n64 1))], [none, none]⟩) := ex (.nil) (by kernel_rfl)
theorem k277 : Shows Tryz.prog 113 (.a [.val (.c (lF [u 3])), .val (.c (lF [u 2]))]) (.a ⟨[.val (.c (l1))], [none, none]⟩) := ex (.cons k53 .nil) (by kernel_rfl)
theorem k278 : Shows Tryz.prog 99 (.a [.val (.agg [bF, lF [u 3]]), .val (.agg [bT, lF [u 2]])]) (.a ⟨[.val (.agg [bF, l1])], [none, none]⟩) := ex (.cons k276 (.cons k277 (.cons k54 .nil))) (by kernel_rfl)
theorem k279 : Shows Tryz.prog 72 (.a [.val (.agg [bF, lF [u 3], bF, l1]), .val (.agg [bT, lF [u 2], bF, l1])]) (.a ⟨[.val (.agg [bF, l1, bF, l1])], [none, none]⟩) := ex (.cons k75 (.cons k212 (.cons k278 (.cons k56 (.cons k50 .nil))))) (by kernel_rfl)
theorem k280 : Shows Tryz.prog 98 (.a [.val (.agg [bF, lF [u 3], bF, l1]), .val (.agg [bF, lF [u 2], bF, l1])]) (.a ⟨[.val (.agg [bF, l1, bF, l1])], [none, none]⟩) := ex (.cons k210 (.cons k279 .nil)) (by kernel_rfl)
theorem k281 : Shows Tryz.prog 70 (.a [.bor 4 [[bF, lF [u 2], bF, l1], [bF, lF [u 4], bF, l1], [bF, lF [u 3], bF, l1]], .val (.agg [bF, lF [u 2], bF, l1]), .bor 4 [[bF, l1, bF, l1], [bF, lF [u 2], bF, l1], [bF, l1, bF, l1]]]) (.a ⟨[], [some (.rows 4 [[bF, lT [], bF, l1], [bF, lT [], bF, l1], [bF, l1, bF, l1]] false false), none, some (.rows 4 [[bF, l1, bF, l1], [bF, lF [u 2], bF, l1], [bF, l1, bF, l1]] false false)]⟩) := ex (.cons k95 (.cons k46 (.cons k205 (.cons k216 (.cons k265 (.cons k275 (.cons k280 .nil))))))) (by kernel_rfl)
theorem k282 : Shows Tryz.prog 36 (.h ⟨[.c (.sl 0 1 1 false), .c (.sl 1 0 3 false), .c (.t (n64 0))], [some (.var [.sl 1 0 3 false, .sl 2 0 3 false]), some (.rows 4 [[bF, l1, bF, l1], [bF, lF [u 2], bF, l1], [bF, l1, bF, l1]] true false), some (.rows 4 [[bF, lF [u 2], bF, l1], [bF, lF [u 4], bF, l1], [bF, lF [u 3], bF, l1]] true false)]⟩) (.h ⟨[], [some (.var [.sl 1 0 3 false, .sl 2 0 3 false]), some (.rows 4 [[bF, l1, bF, l1], [bF, lF [u 2], bF, l1], [bF, l1, bF, l1]] true false), some (.rows 4 [[bF, lT [], bF, l1], [bF, lT [], bF, l1], [bF, l1, bF, l1]] true false)]⟩) := ex (.cons k95 (.cons k206 (.cons k281 .nil))) (by kernel_rfl)
theorem k283 : Shows Tryz.prog 33 (.h ⟨[.c (.sl 0 0 2 false), .c (.t (n64 1)), .c (.t (n64 1))], [some (.var [.sl 1 0 3 false, .sl 2 0 3 false]), some (.rows 4 [[bF, l1, bF, l1], [bF, lF [u 2], bF, l1], [bF, l1, bF, l1]] true false), some (.rows 4 [[bF, lT [], bF, l1], [bF, lT [], bF, l1], [bF, l1, bF, l1]] true false)]⟩) (.h ⟨[.c (.t (n64 (-1)))], [some (.var [.sl 1 0 3 false, .sl 2 0 3 false]), some (.rows 4 [[bF, l1, bF, l1], [bF, lF [u 2], bF, l1], [bF, l1, bF, l1]] true false), some (.rows 4 [[bF, lT [], bF, l1], [bF, lT [], bF, l1], [bF, l1, bF, l1]] true false)]⟩) := ex (.cons k208 .nil) (by kernel_rfl)
theorem k284 : Shows Tryz.prog 33 (.h ⟨[.c (.sl 0 0 2 false), .c (.t (n64 1)), .c (.t (n64 2))], [some (.var [.sl 1 0 3 false, .sl 2 0 3 false]), some (.rows 4 [[bF, l1, bF, l1], [bF, lF [u 2], bF, l1], [bF, l1, bF, l1]] true false), some (.rows 4 [[bF, lT [], bF, l1], [bF, lT [], bF, l1], [bF, l1, bF, l1]] true false)]⟩) (.h ⟨[.c (.t (n64 1))], [some (.var [.sl 1 0 3 false, .sl 2 0 3 false]), some (.rows 4 [[bF, l1, bF, l1], [bF, lF [u 2], bF, l1], [bF, l1, bF, l1]] true false), some (.rows 4 [[bF, lT [], bF, l1], [bF, lT [], bF, l1], [bF, l1, bF, l1]] true false)]⟩) := ex (.cons k46 .nil) (by kernel_rfl)
theorem k285 : Shows Tryz.prog 68 (.a [.val (.c (lF [[bF, l1], [bF, lT []]]))]) (.a ⟨[.val (.agg [bF, lT []])], [none]⟩) := ex (.cons k55 (.cons k49 (.cons k176 .nil))) (by kernel_rfl)
theorem k286 : Shows Tryz.prog 35 (.a [.val (.agg [bF, l1, bF, l1]), .val (.agg [bF, lT [], bF, l1])]) (.a ⟨[.val (.agg [bF, lT [], bF, l1])], [none, none]⟩) := ex (.cons k50 (.cons k91 (.cons k285 (.cons k56 .nil)))) (by kernel_rfl)
theorem k287 : Shows Tryz.prog 62 (.a [.val (.agg [bF, lT [], bF, l1]), .ref [bF, l1, bF, l1]]) (.a ⟨[.val (.agg [bF, lT [], bF, l1])], [none, some (.var [.t (bF), .t (l1), .t (bF), .t (l1)])]⟩) := ex (.cons k286 .nil) (by kernel_rfl)
theorem k288 : Shows Tryz.prog 61 (.a [.val (.c (lF [[bF, lT [], bF, l1], [bF, lT [], bF, l1], [bF, l1, bF, l1]])), .clo 62 [(2, (0, 0))], .gh [bF, l1, bF, l1]]) (.a ⟨[.own 4 [[bF, lT [], bF, l1], [bF, lT [], bF, l1], [bF, l1, bF, l1]]], [none, none, some (.var [.t (bF), .t (l1), .t (bF), .t (l1)])]⟩) := ex (.cons k287 (.cons k58 .nil)) (by kernel_rfl)
theorem k289 : Shows Tryz.prog 69 (.a [.val (.agg [bF, l1, bF, l1]), .val (.agg [bF, l1, bF, l1])]) (.a ⟨[.val (.agg [bF, l1, bF, l1]), .val (.c (n64 0))], [none, none]⟩) := ex (.cons k48 (.cons k57 .nil)) (by kernel_rfl)
theorem k290 : Shows Tryz.prog 34 (.a [.val (.agg [bF, l1, bF, l1])]) (.a ⟨[.val (.agg [bT, l1, bF, l1])], [none]⟩) := ex (.cons k151 .nil) (by kernel_rfl)
theorem k291 : Shows Tryz.prog 68 (.a [.val (.c (lF [[bT, l1], [bF, l1]]))]) (.a ⟨[.val (.agg [bT, l1])], [none]⟩) := ex (.cons k55 (.cons k175 (.cons k49 .nil))) (by kernel_rfl)
theorem k292 : Shows Tryz.prog 100 (.a [.val (.c (l1)), .val (.c (l1))]) (.a ⟨[.val (.c (n64 0))], [none, none]⟩) := ex (.nil) (by kernel_rfl)
theorem k293 : Shows Tryz.prog 113 (.a [.val (.c (l1)), .val (.c (l1))]) (.a ⟨[.val (.c (lF []))], [none, none]⟩) := ex (.cons k86 .nil) (by kernel_rfl)
theorem k294 : Shows Tryz.prog 99 (.a [.val (.agg [bF, l1]), .val (.agg [bT, l1])]) (.a ⟨[.val (.agg [bF, lT []])], [none, none]⟩) := ex (.cons k292 (.cons k293 (.cons k89 .nil))) (by kernel_rfl)
theorem k295 : Shows Tryz.prog 72 (.a [.val (.agg [bF, l1, bF, l1]), .val (.agg [bT, l1, bF, l1])]) (.a ⟨[.val (.agg [bF, lT [], bF, l1])], [none, none]⟩) := ex (.cons k56 (.cons k291 (.cons k294 (.cons k91 .nil)))) (by kernel_rfl)
theorem k296 : Shows Tryz.prog 98 (.a [.val (.agg [bF, l1, bF, l1]), .val (.agg [bF, l1, bF, l1])]) (.a ⟨[.val (.agg [bF, lT [], bF, l1])], [none, none]⟩) := ex (.cons k290 (.cons k295 .nil)) (by kernel_rfl)
theorem k297 : Shows Tryz.prog 70 (.a [.bor 4 [[bF, l1, bF, l1], [bF, lF [u 2], bF, l1], [bF, l1, bF, l1]], .val (.agg [bF, l1, bF, l1]), .bor 4 [[bF, lT [], bF, l1], [bF, lT [], bF, l1], [bF, l1, bF, l1]]]) (.a ⟨[], [some (.rows 4 [[bF, l1, bF, l1], [bF, lF [u 2], bF, l1], [bF, lT [], bF, l1]] false false), none, some (.rows 4 [[bF, lT [], bF, l1], [bF, lT [], bF, l1], [bF, l1, bF, l1]] false false)]⟩) := ex (.cons k46 (.cons k208 (.cons k57 (.cons k296 .nil)))) (by kernel_rfl)
theorem k298 : Shows Tryz.prog 36 (.h ⟨[.c (.sl 0 0 1 false), .c (.sl 1 0 3 false), .c (.t (n64 2))], [some (.var [.sl 2 0 3 false, .sl 1 0 3 false]), some (.rows 4 [[bF, lT [], bF, l1], [bF, lT [], bF, l1], [bF, l1, bF, l1]] true false), some (.rows 4 [[bF, l1, bF, l1], [bF, lF [u 2], bF, l1], [bF, l1, bF, l1]] true false)]⟩) (.h ⟨[], [some (.var [.sl 2 0 3 false, .sl 1 0 3 false]), some (.rows 4 [[bF, lT [], bF, l1], [bF, lT [], bF, l1], [bF, l1, bF, l1]] true false), some (.rows 4 [[bF, l1, bF, l1], [bF, lF [u 2], bF, l1], [bF, lT [], bF, l1]] true false)]⟩) := ex (.cons k46 (.cons k289 (.cons k297 .nil))) (by kernel_rfl)
theorem k299 : Shows Tryz.prog 36 (.h ⟨[.c (.sl 0 2 0 false), .c (.sl 1 0 3 false), .c (.t (n64 2))], [some (.var [.sl 2 0 3 false, .sl 1 0 3 false]), some (.rows 4 [[bF, lT [], bF, l1], [bF, lT [], bF, l1], [bF, l1, bF, l1]] true false), some (.rows 4 [[bF, l1, bF, l1], [bF, lF [u 2], bF, l1], [bF, lT [], bF, l1]] true false)]⟩) (.h ⟨[], [some (.var [.sl 2 0 3 false, .sl 1 0 3 false]), some (.rows 4 [[bF, lT [], bF, l1], [bF, lT [], bF, l1], [bF, l1, bF, l1]] true false), some (.rows 4 [[bF, l1, bF, l1], [bF, lF [u 2], bF, l1], [bF, lT [], bF, l1]] true false)]⟩) := ex (.nil) (by kernel_rfl)
theorem k300 : Shows Tryz.prog 27 (.h ⟨[.c (.sl 0 0 2 false)], [some (.var [.sl 1 0 3 false, .sl 2 0 3 false]), some (.rows 4 [[bF, l1, bF, l1], [bF, lF [u 2], bF, l1], [bF, l1, bF, l1]] true false), some (.rows 4 [[bF, lF [u 2], bF, l1], [bF, lF [u 4], bF, l1], [bF, lF [u 3], bF, l1]] true false)]⟩) (.h ⟨[.c (.sl 3 0 2 false), .c (.sl 4 0 2 false)], [some (.var [.sl 1 0 3 false, .sl 2 0 3 false]), some (.rows 4 [[bF, l1, bF, l1], [bF, lF [u 2], bF, l1], [bF, l1, bF, l1]] true false), some (.rows 4 [[bF, lF [u 2], bF, l1], [bF, lF [u 4], bF, l1], [bF, lF [u 3], bF, l1]] true false), some (.var [.sl 5 0 3 false, .sl 6 0 3 false]), some (.rows 1 [[n64 0], [n64 2]] true false), some (.rows 4 [[bF, l1, bF, l1], [bF, lF [u 2], bF, l1], [bF, lT [], bF, l1]] true false), some (.rows 4 [[bF, lT [], bF, l1], [bF, lT [], bF, l1], [bF, l1, bF, l1]] true false)]⟩) := ex (.cons k255 (.cons k256 (.cons k257 (.cons k48 (.cons k258 (.cons k259 (.cons k282 (.cons k283 (.cons k284 (.cons k288 (.cons k298 (.cons k299 .nil)))))))))))) (by kernel_rfl)
theorem k301 : Shows Tryz.prog 63 (.a [.val (.c (lF [[n64 0], [n64 2]])), .val (.c (n64 2))]) (.a ⟨[.val (.c (n64 1))], [none, none]⟩) := ex (.nil) (by kernel_rfl)
theorem k302 : Shows Tryz.prog 28 (.a [.val (.c (lF [[n64 0], [n64 2]])), .val (.c (n64 2))]) (.a ⟨[.val (.c (bT))], [none, none]⟩) := ex (.cons k301 .nil) (by kernel_rfl)
theorem k303 : Shows Tryz.prog 8 (.a [.val (.c (lF [[lF [[bF, l1, bF, l1], [bF, lF [u 2], bF, l1]]], [lF [[bF, lF [u 2], bF, l1], [bF, lF [u 4], bF, l1]]]])), .val (.c (lF [[bF, l1, bF, l1], [bF, lF [u 3], bF, l1]]))]) (.a ⟨[.val (.c (lT [])), .val (.c (n64 111))], [none, none]⟩) := ex (.cons k251 (.cons k39 (.cons k252 (.cons k300 (.cons k302 .nil))))) (by kernel_rfl)
theorem k304 : Shows Tryz.prog 7 (.a [.val (.c (lF [[n64 1], [n64 2]]))]) (.a ⟨[.val (.c (lF [[lF [[bF, l1, bF, l1], [bF, lF [u 2], bF, l1]]]]))], [none]⟩) := ex (.cons k5 (.cons k11 .nil)) (by kernel_rfl)
theorem k305 : Shows Tryz.prog 9 (.a [.val (.c (lF [[n64 3]]))]) (.a ⟨[.val (.c (lF [[bF, lF [u 3], bF, l1]]))], [none]⟩) := ex (.cons k17 .nil) (by kernel_rfl)
theorem k306 : Shows Tryz.prog 25 (.h ⟨[.c (.t (lF [[lF [[bF, l1, bF, l1], [bF, lF [u 2], bF, l1]]]]))], []⟩) (.h ⟨[.c (.t (n64 2))], []⟩) := ex (.nil) (by kernel_rfl)
theorem k307 : Shows Tryz.prog 26 (.a [.bor 4 [[bF, l1, bF, l1], [bF, lF [u 2], bF, l1], [bF, lF [u 3], bF, l1]]]) (.a ⟨[.own 4 [[bF, l1, bF, l1], [bF, lF [u 2], bF, l1], [bF, lF [u 3], bF, l1]]], [some (.rows 4 [[bF, l1, bF, l1], [bF, lF [u 2], bF, l1], [bF, lF [u 3], bF, l1]] false false)]⟩) := ex (.nil) (by kernel_rfl)
theorem k308 : Shows Tryz.prog 31 (.h ⟨[.c (.sl 0 0 1 false), .c (.t (.v (.func (.func 26) #[] #[])))], [some (.var [.sl 1 0 3 false]), some (.rows 4 [[bF, l1, bF, l1], [bF, lF [u 2], bF, l1], [bF, lF [u 3], bF, l1]] true false)]⟩) (.h ⟨[.c (.sl 2 0 1 false)], [some (.var [.sl 1 0 3 false]), some (.rows 4 [[bF, l1, bF, l1], [bF, lF [u 2], bF, l1], [bF, lF [u 3], bF, l1]] true false), some (.var [.sl 3 0 3 false]), some (.rows 4 [[bF, l1, bF, l1], [bF, lF [u 2], bF, l1], [bF, lF [u 3], bF, l1]] true false)]⟩) := ex (.cons k307 .nil) (by kernel_rfl)
theorem k309 : Shows Tryz.prog 25 (.h ⟨[.c (.sl 0 0 1 false)], [some (.var [.sl 1 0 3 false]), some (.rows 4 [[bF, l1, bF, l1], [bF, lF [u 2], bF, l1], [bF, lF [u 3], bF, l1]] true false)]⟩) (.h ⟨[.c (.t (n64 3))], [some (.var [.sl 1 0 3 false]), some (.rows 4 [[bF, l1, bF, l1], [bF, lF [u 2], bF, l1], [bF, lF [u 3], bF, l1]] true false)]⟩) := ex (.nil) (by kernel_rfl)
theorem k310 : Shows Tryz.prog 33 (.h ⟨[.c (.sl 0 0 1 false), .c (.t (n64 0)), .c (.t (n64 0))], [some (.var [.sl 1 0 3 false]), some (.rows 4 [[bF, l1, bF, l1], [bF, lF [u 2], bF, l1], [bF, lF [u 3], bF, l1]] true false)]⟩) (.h ⟨[.c (.t (n64 0))], [some (.var [.sl 1 0 3 false]), some (.rows 4 [[bF, l1, bF, l1], [bF, lF [u 2], bF, l1], [bF, lF [u 3], bF, l1]] true false)]⟩) := ex (.cons k46 .nil) (by kernel_rfl)
theorem k311 : Shows Tryz.prog 68 (.a [.val (.c (lF [[bF, l1], [bF, lF [u 3]]]))]) (.a ⟨[.val (.agg [bF, lF [u 3]])], [none]⟩) := ex (.cons k55 (.cons k49 (.cons k74 .nil))) (by kernel_rfl)
theorem k312 : Shows Tryz.prog 35 (.a [.val (.agg [bF, l1, bF, l1]), .val (.agg [bF, lF [u 3], bF, l1])]) (.a ⟨[.val (.agg [bF, lF [u 3], bF, l1])], [none, none]⟩) := ex (.cons k50 (.cons k73 (.cons k311 (.cons k56 .nil)))) (by kernel_rfl)
theorem k313 : Shows Tryz.prog 62 (.a [.val (.agg [bF, lF [u 3], bF, l1]), .ref [bF, l1, bF, l1]]) (.a ⟨[.val (.agg [bF, lF [u 3], bF, l1])], [none, some (.var [.t (bF), .t (l1), .t (bF), .t (l1)])]⟩) := ex (.cons k312 .nil) (by kernel_rfl)
theorem k314 : Shows Tryz.prog 61 (.a [.val (.c (lF [[bF, l1, bF, l1], [bF, lF [u 2], bF, l1], [bF, lF [u 3], bF, l1]])), .clo 62 [(2, (0, 0))], .gh [bF, l1, bF, l1]]) (.a ⟨[.own 4 [[bF, l1, bF, l1], [bF, lF [u 2], bF, l1], [bF, lF [u 3], bF, l1]]], [none, none, some (.var [.t (bF), .t (l1), .t (bF), .t (l1)])]⟩) := ex (.cons k58 (.cons k63 (.cons k313 .nil))) (by kernel_rfl)
theorem k315 : Shows Tryz.prog 36 (.h ⟨[.c (.sl 0 0 0 false), .c (.sl 1 0 3 false), .c (.t (n64 0))], [some (.var [.sl 1 0 3 false]), some (.rows 4 [[bF, l1, bF, l1], [bF, lF [u 2], bF, l1], [bF, lF [u 3], bF, l1]] true false)]⟩) (.h ⟨[], [some (.var [.sl 1 0 3 false]), some (.rows 4 [[bF, l1, bF, l1], [bF, lF [u 2], bF, l1], [bF, lF [u 3], bF, l1]] true false)]⟩) := ex (.nil) (by kernel_rfl)
theorem k316 : Shows Tryz.prog 36 (.h ⟨[.c (.sl 0 1 0 false), .c (.sl 1 0 3 false), .c (.t (n64 0))], [some (.var [.sl 1 0 3 false]), some (.rows 4 [[bF, l1, bF, l1], [bF, lF [u 2], bF, l1], [bF, lF [u 3], bF, l1]] true false)]⟩) (.h ⟨[], [some (.var [.sl 1 0 3 false]), some (.rows 4 [[bF, l1, bF, l1], [bF, lF [u 2], bF, l1], [bF, lF [u 3], bF, l1]] true false)]⟩) := ex (.nil) (by kernel_rfl)
theorem k317 : Shows Tryz.prog 33 (.h ⟨[.c (.sl 0 0 1 false), .c (.t (n64 1)), .c (.t (n64 1))], [some (.var [.sl 1 0 3 false]), some (.rows 4 [[bF, l1, bF, l1], [bF, lF [u 2], bF, l1], [bF, lF [u 3], bF, l1]] true false)]⟩) (.h ⟨[.c (.t (n64 (-1)))], [some (.var [.sl 1 0 3 false]), some (.rows 4 [[bF, l1, bF, l1], [bF, lF [u 2], bF, l1], [bF, lF [u 3], bF, l1]] true false)]⟩) := ex (.nil) (by kernel_rfl)
theorem k318 : Shows Tryz.prog 33 (.h ⟨[.c (.sl 0 0 1 false), .c (.t (n64 1)), .c (.t (n64 2))], [some (.var [.sl 1 0 3 false]), some (.rows 4 [[bF, l1, bF, l1], [bF, lF [u 2], bF, l1], [bF, lF [u 3], bF, l1]] true false)]⟩) (.h ⟨[.c (.t (n64 (-1)))], [some (.var [.sl 1 0 3 false]), some (.rows 4 [[bF, l1, bF, l1], [bF, lF [u 2], bF, l1], [bF, lF [u 3], bF, l1]] true false)]⟩) := ex (.nil) (by kernel_rfl)
theorem k319 : Shows Tryz.prog 27 (.h ⟨[.c (.sl 0 0 1 false)], [some (.var [.sl 1 0 3 false]), some (.rows 4 [[bF, l1, bF, l1], [bF, lF [u 2], bF, l1], [bF, lF [u 3], bF, l1]] true false)]⟩) (.h ⟨[.c (.sl 2 0 1 false), .c (.sl 3 0 1 false)], [some (.var [.sl 1 0 3 false]), some (.rows 4 [[bF, l1, bF, l1], [bF, lF [u 2], bF, l1], [bF, lF [u 3], bF, l1]] true false), some (.var [.sl 4 0 3 false]), some (.rows 1 [[n64 0]] true false), some (.rows 4 [[bF, l1, bF, l1], [bF, lF [u 2], bF, l1], [bF, lF [u 3], bF, l1]] true false)]⟩) := ex (.cons k308 (.cons k309 (.cons k310 (.cons k48 (.cons k314 (.cons k315 (.cons k316 (.cons k317 (.cons k318 .nil))))))))) (by kernel_rfl)
theorem k320 : Shows Tryz.prog 63 (.a [.val (.c (lF [[n64 0]])), .val (.c (n64 2))]) (.a ⟨[.val (.c (n64 (-1)))], [none, none]⟩) := ex (.nil) (by kernel_rfl)
theorem k321 : Shows Tryz.prog 28 (.a [.val (.c (lF [[n64 0]])), .val (.c (n64 2))]) (.a ⟨[.val (.c (bF))], [none, none]⟩) := ex (.cons k320 .nil) (by kernel_rfl)
theorem k322 : Shows Tryz.prog 8 (.a [.val (.c (lF [[lF [[bF, l1, bF, l1], [bF, lF [u 2], bF, l1]]]])), .val (.c (lF [[bF, lF [u 3], bF, l1]]))]) (.a ⟨[.val (.c (lF [[bF, lF [u 3], bF, l1], [bF, lT [], bF, l1]])), .val (.c (n64 0))], [none, none]⟩) := ex (.cons k306 (.cons k39 (.cons k319 (.cons k321 (.cons k247 .nil))))) (by kernel_rfl)
theorem k323 : Shows Tryz.prog 30 (.h ⟨[.c (.t (lF [[lF [[bF, l1, bF, l1], [bF, lF [u 2], bF, l1]]], [lF [[bF, lF [u 3], bF, l1], [bF, lF [u 4], bF, l1]]]]))], []⟩) (.h ⟨[.c (.t (bT))], []⟩) := ex (.cons k38 .nil) (by kernel_rfl)
theorem k324 : Shows Tryz.prog 31 (.h ⟨[.c (.t (lF [[lF [[bF, l1, bF, l1], [bF, lF [u 2], bF, l1]]], [lF [[bF, lF [u 3], bF, l1], [bF, lF [u 4], bF, l1]]]])), .c (.t (.v (.func (.func 26) #[] #[])))], []⟩) (.h ⟨[.c (.sl 0 0 2 false)], [some (.var [.sl 1 0 2 false, .sl 2 0 2 false]), some (.rows 4 [[bF, l1, bF, l1], [bF, lF [u 2], bF, l1]] true false), some (.rows 4 [[bF, lF [u 3], bF, l1], [bF, lF [u 4], bF, l1]] true false)]⟩) := ex (.cons k39 (.cons k40 .nil)) (by kernel_rfl)
theorem k325 : Shows Tryz.prog 64 (.a [.val (.agg [bF, l1])]) (.a ⟨[.val (.agg [bF, l1, bF, l1])], [none]⟩) := ex (.cons k55 .nil) (by kernel_rfl)
theorem k326 : Shows Tryz.prog 32 (.a [.val (.c (n64 1))]) (.a ⟨[.val (.agg [bF, l1, bF, l1])], [none]⟩) := ex (.cons k55 (.cons k325 .nil)) (by kernel_rfl)
theorem k327 : Shows Tryz.prog 33 (.h ⟨[.c (.sl 0 0 2 false), .c (.t (n64 0)), .c (.t (n64 0))], [some (.var [.sl 1 0 2 false, .sl 2 0 2 false]), some (.rows 4 [[bF, l1, bF, l1], [bF, lF [u 2], bF, l1]] true false), some (.rows 4 [[bF, lF [u 3], bF, l1], [bF, lF [u 4], bF, l1]] true false)]⟩) (.h ⟨[.c (.t (n64 0))], [some (.var [.sl 1 0 2 false, .sl 2 0 2 false]), some (.rows 4 [[bF, l1, bF, l1], [bF, lF [u 2], bF, l1]] true false), some (.rows 4 [[bF, lF [u 3], bF, l1], [bF, lF [u 4], bF, l1]] true false)]⟩) := ex (.cons k46 .nil) (by kernel_rfl)
theorem k328 : Shows Tryz.prog 70 (.a [.bor 4 [[bF, lF [u 3], bF, l1], [bF, lF [u 4], bF, l1]], .val (.agg [bF, lF [u 3], bF, l1]), .bor 4 [[bF, l1, bF, l1], [bF, lF [u 2], bF, l1]]]) (.a ⟨[], [some (.rows 4 [[bF, lT [], bF, l1], [bT, lF [u 2], bF, l1]] false false), none, some (.rows 4 [[bF, l1, bF, l1], [bF, lF [u 2], bF, l1]] false false)]⟩) := ex (.cons k72 (.cons k46 (.cons k76 (.cons k93 (.cons k95 (.cons k102 (.cons k118 .nil))))))) (by kernel_rfl)
theorem k329 : Shows Tryz.prog 36 (.h ⟨[.c (.sl 0 1 1 false), .c (.sl 1 0 2 false), .c (.t (n64 0))], [some (.var [.sl 1 0 2 false, .sl 2 0 2 false]), some (.rows 4 [[bF, l1, bF, l1], [bF, lF [u 2], bF, l1]] true false), some (.rows 4 [[bF, lF [u 3], bF, l1], [bF, lF [u 4], bF, l1]] true false)]⟩) (.h ⟨[], [some (.var [.sl 1 0 2 false, .sl 2 0 2 false]), some (.rows 4 [[bF, l1, bF, l1], [bF, lF [u 2], bF, l1]] true false), some (.rows 4 [[bF, lT [], bF, l1], [bT, lF [u 2], bF, l1]] true false)]⟩) := ex (.cons k72 (.cons k77 (.cons k328 .nil))) (by kernel_rfl)
open Go Go.Abs Go.Proofs
theorem k330 : Shows Tryz.prog 33 (.h ⟨[.c (.sl 0 0 2 false), .c (.t (n64 1)), .c (.t (n64 1))], [some (.var [.sl 1 0 2 false, .sl 2 0 2 false]), some (.rows 4 [[bF, l1, bF, l1], [bF, lF [u 2], bF, l1]] true false), some (.rows 4 [[bF, lT [], bF, l1], [bT, lF [u 2], bF, l1]] true false)]⟩) (.h ⟨[.c (.t (n64 1))], [some (.var [.sl 1 0 2 false, .sl 2 0 2 false]), some (.rows 4 [[bF, l1, bF, l1], [bF, lF [u 2], bF, l1]] true false), some (.rows 4 [[bF, lT [], bF, l1], [bT, lF [u 2], bF, l1]] true false)]⟩) := ex (.cons k147 .nil) (by kernel_rfl)
theorem k331 : Shows Tryz.prog 68 (.a [.val (.c (lF [[bF, l1], [bT, lF [u 2]]]))]) (.a ⟨[.val (.agg [bT, lF [u 2]])], [none]⟩) := ex (.cons k55 (.cons k49 (.cons k211 .nil))) (by kernel_rfl)
theorem k332 : Shows Tryz.prog 35 (.a [.val (.agg [bF, l1, bF, l1]), .val (.agg [bT, lF [u 2], bF, l1])]) (.a ⟨[.val (.agg [bT, lF [u 2], bF, l1])], [none, none]⟩) := ex (.cons k50 (.cons k116 (.cons k331 (.cons k56 .nil)))) (by kernel_rfl)
theorem k333 : Shows Tryz.prog 36 (.h ⟨[.c (.sl 0 2 0 false), .c (.sl 1 0 2 false), .c (.t (n64 1))], [some (.var [.sl 2 0 2 false, .sl 1 0 2 false]), some (.rows 4 [[bF, lT [], bF, l1], [bT, lF [u 2], bF, l1]] true false), some (.rows 4 [[bF, l1, bF, l1], [bF, lF [u 2], bF, l1]] true false)]⟩) (.h ⟨[], [some (.var [.sl 2 0 2 false, .sl 1 0 2 false]), some (.rows 4 [[bF, lT [], bF, l1], [bT, lF [u 2], bF, l1]] true false), some (.rows 4 [[bF, l1, bF, l1], [bF, lF [u 2], bF, l1]] true false)]⟩) := ex (.nil) (by kernel_rfl)
theorem k334 : Shows Tryz.prog 10 (.a [.val (.c (lF [[lF [[bF, l1, bF, l1], [bF, lF [u 2], bF, l1]]], [lF [[bF, lF [u 3], bF, l1], [bF, lF [u 4], bF, l1]]]]))]) (.a ⟨[.val (.agg [bT, lF [u 2], bF, l1]), .val (.c (n64 0))], [none]⟩) := ex (.cons k323 (.cons k324 (.cons k326 (.cons k327 (.cons k57 (.cons k329 (.cons k330 (.cons k332 (.cons k333 .nil))))))))) (by kernel_rfl)
theorem k335 : Shows Tryz.prog 30 (.h ⟨[.c (.t (lF [[lF [[bF, l1, bF, l1], [bF, lF [u 2], bF, l1]]], [lF [[bF, lF [u 2], bF, l1], [bF, lF [u 4], bF, l1]]]]))], []⟩) (.h ⟨[.c (.t (bT))], []⟩) := ex (.cons k251 .nil) (by kernel_rfl)
theorem k336 : Shows Tryz.prog 26 (.a [.bor 4 [[bF, l1, bF, l1], [bF, lF [u 2], bF, l1], [bF, l1, bF, l1], [bF, lT [], bF, l1]]]) (.a ⟨[.own 4 [[bF, l1, bF, l1], [bF, lF [u 2], bF, l1], [bF, l1, bF, l1], [bF, lT [], bF, l1]]], [some (.rows 4 [[bF, l1, bF, l1], [bF, lF [u 2], bF, l1], [bF, l1, bF, l1], [bF, lT [], bF, l1]] false false)]⟩) := ex (.nil) (by kernel_rfl)
theorem k337 : Shows Tryz.prog 26 (.a [.bor 4 [[bF, lF [u 2], bF, l1], [bF, lF [u 4], bF, l1], [bF, lT [], bF, l1], [bF, l1, bF, l1]]]) (.a ⟨[.own 4 [[bF, lF [u 2], bF, l1], [bF, lF [u 4], bF, l1], [bF, lT [], bF, l1], [bF, l1, bF, l1]]], [some (.rows 4 [[bF, lF [u 2], bF, l1], [bF, lF [u 4], bF, l1], [bF, lT [], bF, l1], [bF, l1, bF, l1]] false false)]⟩) := ex (.nil) (by kernel_rfl)
theorem k338 : Shows Tryz.prog 31 (.h ⟨[.c (.sl 0 0 2 false), .c (.t (.v (.func (.func 26) #[] #[])))], [some (.var [.sl 1 0 4 false, .sl 2 0 4 false]), some (.rows 4 [[bF, l1, bF, l1], [bF, lF [u 2], bF, l1], [bF, l1, bF, l1], [bF, lT [], bF, l1]] true false), some (.rows 4 [[bF, lF [u 2], bF, l1], [bF, lF [u 4], bF, l1], [bF, lT [], bF, l1], [bF, l1, bF, l1]] true false)]⟩) (.h ⟨[.c (.sl 3 0 2 false)], [some (.var [.sl 1 0 4 false, .sl 2 0 4 false]), some (.rows 4 [[bF, l1, bF, l1], [bF, lF [u 2], bF, l1], [bF, l1, bF, l1], [bF, lT [], bF, l1]] true false), some (.rows 4 [[bF, lF [u 2], bF, l1], [bF, lF [u 4], bF, l1], [bF, lT [], bF, l1], [bF, l1, bF, l1]] true false), some (.var [.sl 4 0 4 false, .sl 5 0 4 false]), some (.rows 4 [[bF, l1, bF, l1], [bF, lF [u 2], bF, l1], [bF, l1, bF, l1], [bF, lT [], bF, l1]] true false), some (.rows 4 [[bF, lF [u 2], bF, l1], [bF, lF [u 4], bF, l1], [bF, lT [], bF, l1], [bF, l1, bF, l1]] true false)]⟩) := ex (.cons k336 (.cons k337 .nil)) (by kernel_rfl)
theorem k339 : Shows Tryz.prog 25 (.h ⟨[.c (.sl 0 0 2 false)], [some (.var [.sl 1 0 4 false, .sl 2 0 4 false]), some (.rows 4 [[bF, l1, bF, l1], [bF, lF [u 2], bF, l1], [bF, l1, bF, l1], [bF, lT [], bF, l1]] true false), some (.rows 4 [[bF, lF [u 2], bF, l1], [bF, lF [u 4], bF, l1], [bF, lT [], bF, l1], [bF, l1, bF, l1]] true false)]⟩) (.h ⟨[.c (.t (n64 4))], [some (.var [.sl 1 0 4 false, .sl 2 0 4 false]), some (.rows 4 [[bF, l1, bF, l1], [bF, lF [u 2], bF, l1], [bF, l1, bF, l1], [bF, lT [], bF, l1]] true false), some (.rows 4 [[bF, lF [u 2], bF, l1], [bF, lF [u 4], bF, l1], [bF, lT [], bF, l1], [bF, l1, bF, l1]] true false)]⟩) := ex (.nil) (by kernel_rfl)
theorem k340 : Shows Tryz.prog 33 (.h ⟨[.c (.sl 0 0 2 false), .c (.t (n64 0)), .c (.t (n64 0))], [some (.var [.sl 1 0 4 false, .sl 2 0 4 false]), some (.rows 4 [[bF, l1, bF, l1], [bF, lF [u 2], bF, l1], [bF, l1, bF, l1], [bF, lT [], bF, l1]] true false), some (.rows 4 [[bF, lF [u 2], bF, l1], [bF, lF [u 4], bF, l1], [bF, lT [], bF, l1], [bF, l1, bF, l1]] true false)]⟩) (.h ⟨[.c (.t (n64 0))], [some (.var [.sl 1 0 4 false, .sl 2 0 4 false]), some (.rows 4 [[bF, l1, bF, l1], [bF, lF [u 2], bF, l1], [bF, l1, bF, l1], [bF, lT [], bF, l1]] true false), some (.rows 4 [[bF, lF [u 2], bF, l1], [bF, lF [u 4], bF, l1], [bF, lT [], bF, l1], [bF, l1, bF, l1]] true false)]⟩) := ex (.cons k46 .nil) (by kernel_rfl)
theorem k341 : Shows Tryz.prog 61 (.a [.val (.c (lF [[bF, l1, bF, l1], [bF, lF [u 2], bF, l1], [bF, l1, bF, l1], [bF, lT [], bF, l1]])), .clo 62 [(2, (0, 0))], .gh [bF, l1, bF, l1]]) (.a ⟨[.own 4 [[bF, l1, bF, l1], [bF, lF [u 2], bF, l1], [bF, l1, bF, l1], [bF, lT [], bF, l1]]], [none, none, some (.var [.t (bF), .t (l1), .t (bF), .t (l1)])]⟩) := ex (.cons k58 (.cons k63 (.cons k287 .nil))) (by kernel_rfl)
theorem k342 : Shows Tryz.prog 36 (.h ⟨[.c (.sl 0 0 0 false), .c (.sl 1 0 4 false), .c (.t (n64 0))], [some (.var [.sl 1 0 4 false, .sl 2 0 4 false]), some (.rows 4 [[bF, l1, bF, l1], [bF, lF [u 2], bF, l1], [bF, l1, bF, l1], [bF, lT [], bF, l1]] true false), some (.rows 4 [[bF, lF [u 2], bF, l1], [bF, lF [u 4], bF, l1], [bF, lT [], bF, l1], [bF, l1, bF, l1]] true false)]⟩) (.h ⟨[], [some (.var [.sl 1 0 4 false, .sl 2 0 4 false]), some (.rows 4 [[bF, l1, bF, l1], [bF, lF [u 2], bF, l1], [bF, l1, bF, l1], [bF, lT [], bF, l1]] true false), some (.rows 4 [[bF, lF [u 2], bF, l1], [bF, lF [u 4], bF, l1], [bF, lT [], bF, l1], [bF, l1, bF, l1]] true false)]⟩) := ex (.nil) (by kernel_rfl)
theorem k343 : Shows Tryz.prog 68 (.a [.val (.c (lF [[bF, lT []], [bF, l1]]))]) (.a ⟨[.val (.agg [bF, lT []])], [none]⟩) := ex (.cons k55 (.cons k176 (.cons k49 .nil))) (by kernel_rfl)
theorem k344 : Shows Tryz.prog 113 (.a [.val (.c (lF [u 2])), .val (.c (lT []))]) (.a ⟨[.val (.c (lF [u 2]))], [none, none]⟩) := ex (.cons k112 .nil) (by kernel_rfl)
theorem k345 : Shows Tryz.prog 99 (.a [.val (.agg [bF, lT []]), .val (.agg [bT, lF [u 2]])]) (.a ⟨[.val (.agg [bT, lF [u 2]])], [none, none]⟩) := ex (.cons k164 (.cons k344 (.cons k114 .nil))) (by kernel_rfl)
theorem k346 : Shows Tryz.prog 72 (.a [.val (.agg [bF, lT [], bF, l1]), .val (.agg [bT, lF [u 2], bF, l1])]) (.a ⟨[.val (.agg [bT, lF [u 2], bF, l1])], [none, none]⟩) := ex (.cons k343 (.cons k212 (.cons k345 (.cons k56 (.cons k116 .nil))))) (by kernel_rfl)
theorem k347 : Shows Tryz.prog 98 (.a [.val (.agg [bF, lT [], bF, l1]), .val (.agg [bF, lF [u 2], bF, l1])]) (.a ⟨[.val (.agg [bT, lF [u 2], bF, l1])], [none, none]⟩) := ex (.cons k210 (.cons k346 .nil)) (by kernel_rfl)
theorem k348 : Shows Tryz.prog 70 (.a [.bor 4 [[bF, lF [u 2], bF, l1], [bF, lF [u 4], bF, l1], [bF, lT [], bF, l1], [bF, l1, bF, l1]], .val (.agg [bF, lF [u 2], bF, l1]), .bor 4 [[bF, l1, bF, l1], [bF, lF [u 2], bF, l1], [bF, l1, bF, l1], [bF, lT [], bF, l1]]]) (.a ⟨[], [some (.rows 4 [[bF, lT [], bF, l1], [bF, lT [], bF, l1], [bT, lF [u 2], bF, l1], [bF, l1, bF, l1]] false false), none, some (.rows 4 [[bF, l1, bF, l1], [bF, lF [u 2], bF, l1], [bF, l1, bF, l1], [bF, lT [], bF, l1]] false false)]⟩) := ex (.cons k95 (.cons k46 (.cons k205 (.cons k216 (.cons k265 (.cons k275 (.cons k347 (.cons k208 .nil)))))))) (by kernel_rfl)
theorem k349 : Shows Tryz.prog 36 (.h ⟨[.c (.sl 0 1 1 false), .c (.sl 1 0 4 false), .c (.t (n64 0))], [some (.var [.sl 1 0 4 false, .sl 2 0 4 false]), some (.rows 4 [[bF, l1, bF, l1], [bF, lF [u 2], bF, l1], [bF, l1, bF, l1], [bF, lT [], bF, l1]] true false), some (.rows 4 [[bF, lF [u 2], bF, l1], [bF, lF [u 4], bF, l1], [bF, lT [], bF, l1], [bF, l1, bF, l1]] true false)]⟩) (.h ⟨[], [some (.var [.sl 1 0 4 false, .sl 2 0 4 false]), some (.rows 4 [[bF, l1, bF, l1], [bF, lF [u 2], bF, l1], [bF, l1, bF, l1], [bF, lT [], bF, l1]] true false), some (.rows 4 [[bF, lT [], bF, l1], [bF, lT [], bF, l1], [bT, lF [u 2], bF, l1], [bF, l1, bF, l1]] true false)]⟩) := ex (.cons k95 (.cons k206 (.cons k348 .nil))) (by kernel_rfl)
theorem k350 : Shows Tryz.prog 33 (.h ⟨[.c (.sl 0 0 2 false), .c (.t (n64 1)), .c (.t (n64 1))], [some (.var [.sl 1 0 4 false, .sl 2 0 4 false]), some (.rows 4 [[bF, l1, bF, l1], [bF, lF [u 2], bF, l1], [bF, l1, bF, l1], [bF, lT [], bF, l1]] true false), some (.rows 4 [[bF, lT [], bF, l1], [bF, lT [], bF, l1], [bT, lF [u 2], bF, l1], [bF, l1, bF, l1]] true false)]⟩) (.h ⟨[.c (.t (n64 (-1)))], [some (.var [.sl 1 0 4 false, .sl 2 0 4 false]), some (.rows 4 [[bF, l1, bF, l1], [bF, lF [u 2], bF, l1], [bF, l1, bF, l1], [bF, lT [], bF, l1]] true false), some (.rows 4 [[bF, lT [], bF, l1], [bF, lT [], bF, l1], [bT, lF [u 2], bF, l1], [bF, l1, bF, l1]] true false)]⟩) := ex (.cons k208 .nil) (by kernel_rfl)
theorem k351 : Shows Tryz.prog 33 (.h ⟨[.c (.sl 0 0 2 false), .c (.t (n64 1)), .c (.t (n64 2))], [some (.var [.sl 1 0 4 false, .sl 2 0 4 false]), some (.rows 4 [[bF, l1, bF, l1], [bF, lF [u 2], bF, l1], [bF, l1, bF, l1], [bF, lT [], bF, l1]] true false), some (.rows 4 [[bF, lT [], bF, l1], [bF, lT [], bF, l1], [bT, lF [u 2], bF, l1], [bF, l1, bF, l1]] true false)]⟩) (.h ⟨[.c (.t (n64 1))], [some (.var [.sl 1 0 4 false, .sl 2 0 4 false]), some (.rows 4 [[bF, l1, bF, l1], [bF, lF [u 2], bF, l1], [bF, l1, bF, l1], [bF, lT [], bF, l1]] true false), some (.rows 4 [[bF, lT [], bF, l1], [bF, lT [], bF, l1], [bT, lF [u 2], bF, l1], [bF, l1, bF, l1]] true false)]⟩) := ex (.cons k147 .nil) (by kernel_rfl)
theorem k352 : Shows Tryz.prog 91 (.a [.val (.c (l1))]) (.a ⟨[.val (.c (w64 1))], [none]⟩) := ex (.nil) (by kernel_rfl)
theorem k353 : Shows Tryz.prog 55 (.a [.val (.agg [bF, l1]), .val (.agg [bF, lF [u 2]])]) (.a ⟨[.val (.agg [bF, l1])], [none, none]⟩) := ex (.cons k53 (.cons k149 (.cons k112 (.cons k152 (.cons k352 (.cons k160 (.cons k52 (.cons k54 .nil)))))))) (by kernel_rfl)
theorem k354 : Shows Tryz.prog 67 (.a [.val (.agg [bF, l1]), .val (.agg [bF, lF [u 2]])]) (.a ⟨[.val (.agg [bF, l1, bF, lF [u 2]])], [none, none]⟩) := ex (.cons k60 (.cons k353 (.cons k49 .nil))) (by kernel_rfl)
theorem k355 : Shows Tryz.prog 35 (.a [.val (.agg [bT, l1, bF, lF [u 2]]), .val (.agg [bF, l1, bF, l1])]) (.a ⟨[.val (.agg [bT, l1, bF, lF [u 2]])], [none, none]⟩) := ex (.cons k156 (.cons k354 (.cons k291 (.cons k61 .nil)))) (by kernel_rfl)
theorem k356 : Shows Tryz.prog 62 (.a [.val (.agg [bF, l1, bF, l1]), .ref [bT, l1, bF, lF [u 2]]]) (.a ⟨[.val (.agg [bT, l1, bF, lF [u 2]])], [none, some (.var [.t (bT), .t (l1), .t (bF), .t (lF [u 2])])]⟩) := ex (.cons k355 .nil) (by kernel_rfl)
theorem k357 : Shows Tryz.prog 61 (.a [.val (.c (lF [[bF, lT [], bF, l1], [bF, lT [], bF, l1], [bT, lF [u 2], bF, l1], [bF, l1, bF, l1]])), .clo 62 [(2, (0, 0))], .gh [bT, l1, bF, lF [u 2]]]) (.a ⟨[.own 4 [[bF, lT [], bF, l1], [bF, lT [], bF, l1], [bF, l1, bF, l1], [bT, l1, bF, lF [u 2]]]], [none, none, some (.var [.t (bT), .t (l1), .t (bF), .t (lF [u 2])])]⟩) := ex (.cons k182 (.cons k190 (.cons k356 .nil))) (by kernel_rfl)
theorem k358 : Shows Tryz.prog 53 (.a [.val (.agg [bT, l1])]) (.a ⟨[.val (.c (n64 (-1)))], [none]⟩) := ex (.nil) (by kernel_rfl)
theorem k359 : Shows Tryz.prog 46 (.a [.val (.agg [bT, l1, bF, lF [u 2]])]) (.a ⟨[.val (.c (n64 (-1)))], [none]⟩) := ex (.cons k358 .nil) (by kernel_rfl)
theorem k360 : Shows Tryz.prog 68 (.a [.val (.c (lF [[bF, l1], [bT, l1]]))]) (.a ⟨[.val (.agg [bT, l1])], [none]⟩) := ex (.cons k55 (.cons k49 (.cons k175 .nil))) (by kernel_rfl)
theorem k361 : Shows Tryz.prog 35 (.a [.val (.agg [bF, l1, bF, l1]), .val (.agg [bT, l1, bF, lF [u 2]])]) (.a ⟨[.val (.agg [bT, l1, bF, lF [u 2]])], [none, none]⟩) := ex (.cons k354 (.cons k156 (.cons k360 (.cons k204 .nil)))) (by kernel_rfl)
theorem k362 : Shows Tryz.prog 66 (.a [.val (.agg [bT, l1])]) (.a ⟨[.val (.agg [bF, l1])], [none]⟩) := ex (.cons k149 (.cons k54 .nil)) (by kernel_rfl)
theorem k363 : Shows Tryz.prog 34 (.a [.val (.agg [bT, l1, bF, lF [u 2]])]) (.a ⟨[.val (.agg [bF, l1, bF, lF [u 2]])], [none]⟩) := ex (.cons k362 .nil) (by kernel_rfl)
theorem k364 : Shows Tryz.prog 114 (.a [.val (.c (lT [])), .val (.c (lF [u 2]))]) (.a ⟨[.val (.c (lF []))], [none, none]⟩) := ex (.cons k86 .nil) (by kernel_rfl)
theorem k365 : Shows Tryz.prog 97 (.a [.val (.agg [bF, lT []]), .val (.agg [bF, lF [u 2]])]) (.a ⟨[.val (.agg [bF, lT []])], [none, none]⟩) := ex (.cons k364 (.cons k89 .nil)) (by kernel_rfl)
theorem k366 : Shows Tryz.prog 68 (.a [.val (.c (lF [[bF, lT []], [bF, lF [u 2]]]))]) (.a ⟨[.val (.agg [bF, lT []])], [none]⟩) := ex (.cons k55 (.cons k176 (.cons k49 (.cons k60 (.cons k365 .nil))))) (by kernel_rfl)
theorem k367 : Shows Tryz.prog 112 (.a [.val (.c (lT [])), .val (.c (l1))]) (.a ⟨[.val (.c (l1))], [none, none]⟩) := ex (.cons k51 .nil) (by kernel_rfl)
theorem k368 : Shows Tryz.prog 99 (.a [.val (.agg [bF, lT []]), .val (.agg [bF, l1])]) (.a ⟨[.val (.agg [bF, l1])], [none, none]⟩) := ex (.cons k367 (.cons k54 .nil)) (by kernel_rfl)
theorem k369 : Shows Tryz.prog 72 (.a [.val (.agg [bF, lT [], bF, l1]), .val (.agg [bF, l1, bF, lF [u 2]])]) (.a ⟨[.val (.agg [bF, l1, bF, lF [u 2]])], [none, none]⟩) := ex (.cons k366 (.cons k56 (.cons k368 (.cons k61 (.cons k354 .nil))))) (by kernel_rfl)
theorem k370 : Shows Tryz.prog 98 (.a [.val (.agg [bF, lT [], bF, l1]), .val (.agg [bT, l1, bF, lF [u 2]])]) (.a ⟨[.val (.agg [bF, l1, bF, lF [u 2]])], [none, none]⟩) := ex (.cons k363 (.cons k369 .nil)) (by kernel_rfl)
theorem k371 : Shows Tryz.prog 70 (.a [.bor 4 [[bF, l1, bF, l1], [bF, lF [u 2], bF, l1], [bF, l1, bF, l1], [bF, lT [], bF, l1]], .val (.agg [bF, l1, bF, l1]), .bor 4 [[bF, lT [], bF, l1], [bF, lT [], bF, l1], [bF, l1, bF, l1], [bT, l1, bF, lF [u 2]]]]) (.a ⟨[], [some (.rows 4 [[bF, l1, bF, l1], [bF, lF [u 2], bF, l1], [bF, lT [], bF, l1], [bF, l1, bF, lF [u 2]]] false false), none, some (.rows 4 [[bF, lT [], bF, l1], [bF, lT [], bF, l1], [bF, l1, bF, l1], [bT, l1, bF, lF [u 2]]] false false)]⟩) := ex (.cons k46 (.cons k208 (.cons k57 (.cons k296 (.cons k359 (.cons k361 (.cons k370 .nil))))))) (by kernel_rfl)
theorem k372 : Shows Tryz.prog 36 (.h ⟨[.c (.sl 0 0 1 false), .c (.sl 1 0 4 false), .c (.t (n64 2))], [some (.var [.sl 2 0 4 false, .sl 1 0 4 false]), some (.rows 4 [[bF, lT [], bF, l1], [bF, lT [], bF, l1], [bF, l1, bF, l1], [bT, l1, bF, lF [u 2]]] true false), some (.rows 4 [[bF, l1, bF, l1], [bF, lF [u 2], bF, l1], [bF, l1, bF, l1], [bF, lT [], bF, l1]] true false)]⟩) (.h ⟨[], [some (.var [.sl 2 0 4 false, .sl 1 0 4 false]), some (.rows 4 [[bF, lT [], bF, l1], [bF, lT [], bF, l1], [bF, l1, bF, l1], [bT, l1, bF, lF [u 2]]] true false), some (.rows 4 [[bF, l1, bF, l1], [bF, lF [u 2], bF, l1], [bF, lT [], bF, l1], [bF, l1, bF, lF [u 2]]] true false)]⟩) := ex (.cons k46 (.cons k289 (.cons k371 .nil))) (by kernel_rfl)
theorem k373 : Shows Tryz.prog 36 (.h ⟨[.c (.sl 0 2 0 false), .c (.sl 1 0 4 false), .c (.t (n64 2))], [some (.var [.sl 2 0 4 false, .sl 1 0 4 false]), some (.rows 4 [[bF, lT [], bF, l1], [bF, lT [], bF, l1], [bF, l1, bF, l1], [bT, l1, bF, lF [u 2]]] true false), some (.rows 4 [[bF, l1, bF, l1], [bF, lF [u 2], bF, l1], [bF, lT [], bF, l1], [bF, l1, bF, lF [u 2]]] true false)]⟩) (.h ⟨[], [some (.var [.sl 2 0 4 false, .sl 1 0 4 false]), some (.rows 4 [[bF, lT [], bF, l1], [bF, lT [], bF, l1], [bF, l1, bF, l1], [bT, l1, bF, lF [u 2]]] true false), some (.rows 4 [[bF, l1, bF, l1], [bF, lF [u 2], bF, l1], [bF, lT [], bF, l1], [bF, l1, bF, lF [u 2]]] true false)]⟩) := ex (.nil) (by kernel_rfl)
theorem k374 : Shows Tryz.prog 33 (.h ⟨[.c (.sl 0 0 2 false), .c (.t (n64 2)), .c (.t (n64 3))], [some (.var [.sl 1 0 4 false, .sl 2 0 4 false]), some (.rows 4 [[bF, l1, bF, l1], [bF, lF [u 2], bF, l1], [bF, lT [], bF, l1], [bF, l1, bF, lF [u 2]]] true false), some (.rows 4 [[bF, lT [], bF, l1], [bF, lT [], bF, l1], [bF, l1, bF, l1], [bT, l1, bF, lF [u 2]]] true false)]⟩) (.h ⟨[.c (.t (n64 (-1)))], [some (.var [.sl 1 0 4 false, .sl 2 0 4 false]), some (.rows 4 [[bF, l1, bF, l1], [bF, lF [u 2], bF, l1], [bF, lT [], bF, l1], [bF, l1, bF, lF [u 2]]] true false), some (.rows 4 [[bF, lT [], bF, l1], [bF, lT [], bF, l1], [bF, l1, bF, l1], [bT, l1, bF, lF [u 2]]] true false)]⟩) := ex (.nil) (by kernel_rfl)
theorem k375 : Shows Tryz.prog 27 (.h ⟨[.c (.sl 0 0 2 false)], [some (.var [.sl 1 0 4 false, .sl 2 0 4 false]), some (.rows 4 [[bF, l1, bF, l1], [bF, lF [u 2], bF, l1], [bF, l1, bF, l1], [bF, lT [], bF, l1]] true false), some (.rows 4 [[bF, lF [u 2], bF, l1], [bF, lF [u 4], bF, l1], [bF, lT [], bF, l1], [bF, l1, bF, l1]] true false)]⟩) (.h ⟨[.c (.sl 3 0 2 false), .c (.sl 4 0 2 false)], [some (.var [.sl 1 0 4 false, .sl 2 0 4 false]), some (.rows 4 [[bF, l1, bF, l1], [bF, lF [u 2], bF, l1], [bF, l1, bF, l1], [bF, lT [], bF, l1]] true false), some (.rows 4 [[bF, lF [u 2], bF, l1], [bF, lF [u 4], bF, l1], [bF, lT [], bF, l1], [bF, l1, bF, l1]] true false), some (.var [.sl 5 0 4 false, .sl 6 0 4 false]), some (.rows 1 [[n64 0], [n64 2]] true false), some (.rows 4 [[bF, l1, bF, l1], [bF, lF [u 2], bF, l1], [bF, lT [], bF, l1], [bF, l1, bF, lF [u 2]]] true false), some (.rows 4 [[bF, lT [], bF, l1], [bF, lT [], bF, l1], [bF, l1, bF, l1], [bT, l1, bF, lF [u 2]]] true false)]⟩) := ex (.cons k338 (.cons k339 (.cons k340 (.cons k48 (.cons k341 (.cons k342 (.cons k349 (.cons k350 (.cons k351 (.cons k155 (.cons k357 (.cons k372 (.cons k373 (.cons k374 .nil)))))))))))))) (by kernel_rfl)
theorem k376 : Shows Tryz.prog 11 (.a [.val (.c (lF [[lF [[bF, l1, bF, l1], [bF, lF [u 2], bF, l1]]], [lF [[bF, lF [u 2], bF, l1], [bF, lF [u 4], bF, l1]]]]))]) (.a ⟨[.val (.c (lT [])), .val (.c (n64 110))], [none]⟩) := ex (.cons k335 (.cons k247 (.cons k326 (.cons k39 (.cons k252 (.cons k375 .nil)))))) (by kernel_rfl)
theorem k377 : Shows Tryz.prog 71 (.a [.val (.c (lF [[bF, l1, bF, l1], [bF, lF [u 2], bF, l1]]))]) (.a ⟨[.own 4 [[bF, l1, bF, l1], [bF, lF [u 2], bF, l1]]], [none]⟩) := ex (.nil) (by kernel_rfl)
theorem k378 : Shows Tryz.prog 71 (.a [.val (.c (lF [[bF, lF [u 3], bF, l1], [bF, lF [u 4], bF, l1]]))]) (.a ⟨[.own 4 [[bF, lF [u 3], bF, l1], [bF, lF [u 4], bF, l1]]], [none]⟩) := ex (.nil) (by kernel_rfl)
theorem k379 : Shows Tryz.prog 31 (.h ⟨[.c (.t (lF [[lF [[bF, l1, bF, l1], [bF, lF [u 2], bF, l1]]], [lF [[bF, lF [u 3], bF, l1], [bF, lF [u 4], bF, l1]]]])), .c (.t (.v (.func (.func 71) #[] #[])))], []⟩) (.h ⟨[.c (.sl 0 0 2 false)], [some (.var [.sl 1 0 2 false, .sl 2 0 2 false]), some (.rows 4 [[bF, l1, bF, l1], [bF, lF [u 2], bF, l1]] true false), some (.rows 4 [[bF, lF [u 3], bF, l1], [bF, lF [u 4], bF, l1]] true false)]⟩) := ex (.cons k377 (.cons k378 .nil)) (by kernel_rfl)
theorem k380 : Shows Tryz.prog 38 (.a [.val (.c (lF [[lF [[bF, l1, bF, l1], [bF, lF [u 2], bF, l1]]], [lF [[bF, lF [u 3], bF, l1], [bF, lF [u 4], bF, l1]]]]))]) (.a ⟨[.val (.c (lF [[lF [[bF, l1, bF, l1], [bF, lF [u 2], bF, l1]]], [lF [[bF, lF [u 3], bF, l1], [bF, lF [u 4], bF, l1]]]]))], [none]⟩) := ex (.cons k379 .nil) (by kernel_rfl)
theorem k381 : Shows Tryz.prog 73 (.a [.val (.c (n64 2))]) (.a ⟨[.own 4 [[bF, lT [], bF, l1], [bF, lT [], bF, l1]]], [none]⟩) := ex (.cons k246 .nil) (by kernel_rfl)
theorem k382 : Shows Tryz.prog 46 (.a [.val (.agg [bT, l1, bF, l1])]) (.a ⟨[.val (.c (n64 (-1)))], [none]⟩) := ex (.cons k358 .nil) (by kernel_rfl)
theorem k383 : Shows Tryz.prog 35 (.a [.val (.agg [bT, l1, bF, l1]), .val (.agg [bF, l1, bF, l1])]) (.a ⟨[.val (.agg [bT, l1, bF, l1])], [none, none]⟩) := ex (.cons k156 (.cons k50 (.cons k291 (.cons k56 .nil)))) (by kernel_rfl)
theorem k384 : Shows Tryz.prog 100 (.a [.val (.c (lT [])), .val (.c (l1))]) (.a ⟨[.val (.c (n64 (-1)))], [none, none]⟩) := ex (.nil) (by kernel_rfl)
theorem k385 : Shows Tryz.prog 113 (.a [.val (.c (l1)), .val (.c (lT []))]) (.a ⟨[.val (.c (l1))], [none, none]⟩) := ex (.cons k53 .nil) (by kernel_rfl)
theorem k386 : Shows Tryz.prog 99 (.a [.val (.agg [bF, lT []]), .val (.agg [bT, l1])]) (.a ⟨[.val (.agg [bT, l1])], [none, none]⟩) := ex (.cons k384 (.cons k385 (.cons k150 .nil))) (by kernel_rfl)
theorem k387 : Shows Tryz.prog 72 (.a [.val (.agg [bF, lT [], bF, l1]), .val (.agg [bT, l1, bF, l1])]) (.a ⟨[.val (.agg [bT, l1, bF, l1])], [none, none]⟩) := ex (.cons k343 (.cons k291 (.cons k386 (.cons k56 (.cons k156 .nil))))) (by kernel_rfl)
theorem k388 : Shows Tryz.prog 74 (.a [.bor 4 [[bF, lT [], bF, l1], [bF, lT [], bF, l1]], .val (.agg [bT, l1, bF, l1]), .val (.c (lF [[bF, l1, bF, l1]])), .val (.c (n64 0))]) (.a ⟨[], [some (.rows 4 [[bT, l1, bF, l1], [bF, lT [], bF, l1]] false false), none, none, none]⟩) := ex (.cons k382 (.cons k46 (.cons k383 (.cons k387 .nil)))) (by kernel_rfl)
theorem k389 : Shows Tryz.prog 72 (.a [.val (.agg [bF, lT [], bF, l1]), .val (.agg [bF, l1, bF, l1])]) (.a ⟨[.val (.agg [bF, l1, bF, l1])], [none, none]⟩) := ex (.cons k343 (.cons k56 (.cons k368 (.cons k50 .nil)))) (by kernel_rfl)
theorem k390 : Shows Tryz.prog 74 (.a [.bor 4 [[bT, l1, bF, l1], [bF, lT [], bF, l1]], .val (.agg [bF, l1, bF, l1]), .val (.c (lF [[bF, l1, bF, l1]])), .val (.c (n64 1))]) (.a ⟨[], [some (.rows 4 [[bT, l1, bF, l1], [bF, l1, bF, l1]] false false), none, none, none]⟩) := ex (.cons k46 (.cons k57 (.cons k389 .nil))) (by kernel_rfl)
theorem k391 : Shows Tryz.prog 75 (.a [.val (.c (lF [[bT, l1, bF, l1], [bF, l1, bF, l1]]))]) (.a ⟨[.val (.c (lF [[bT, l1, bF, l1], [bF, l1, bF, l1]]))], [none]⟩) := ex (.cons k46 .nil) (by kernel_rfl)
theorem k392 : Shows Tryz.prog 39 (.a [.val (.c (lF [[bT, l1, bF, l1], [bF, l1, bF, l1]])), .val (.c (lF [[bF, l1, bF, l1]]))]) (.a ⟨[.val (.c (lF [[bT, l1, bF, l1], [bF, l1, bF, l1]]))], [none, none]⟩) := ex (.cons k381 (.cons k388 (.cons k390 (.cons k391 .nil)))) (by kernel_rfl)
theorem k393 : Shows Tryz.prog 73 (.a [.val (.c (n64 3))]) (.a ⟨[.own 4 [[bF, lT [], bF, l1], [bF, lT [], bF, l1], [bF, lT [], bF, l1]]], [none]⟩) := ex (.cons k246 .nil) (by kernel_rfl)
theorem k394 : Shows Tryz.prog 53 (.a [.val (.agg [bT, lF [u 4]])]) (.a ⟨[.val (.c (n64 (-1)))], [none]⟩) := ex (.nil) (by kernel_rfl)
theorem k395 : Shows Tryz.prog 46 (.a [.val (.agg [bT, lF [u 4], bF, l1])]) (.a ⟨[.val (.c (n64 (-1)))], [none]⟩) := ex (.cons k394 .nil) (by kernel_rfl)
theorem k396 : Shows Tryz.prog 114 (.a [.val (.c (lF [u 4])), .val (.c (l1))]) (.a ⟨[.val (.c (lF [u 4]))], [none, none]⟩) := ex (.cons k260 .nil) (by kernel_rfl)
theorem k397 : Shows Tryz.prog 97 (.a [.val (.agg [bT, lF [u 4]]), .val (.agg [bT, l1])]) (.a ⟨[.val (.agg [bF, lF [u 4]])], [none, none]⟩) := ex (.cons k396 (.cons k262 .nil)) (by kernel_rfl)
theorem k398 : Shows Tryz.prog 68 (.a [.val (.c (lF [[bT, lF [u 4]], [bT, l1]]))]) (.a ⟨[.val (.agg [bF, lF [u 4]])], [none]⟩) := ex (.cons k55 (.cons k269 (.cons k49 (.cons k175 (.cons k397 .nil))))) (by kernel_rfl)
theorem k399 : Shows Tryz.prog 35 (.a [.val (.agg [bT, lF [u 4], bF, l1]), .val (.agg [bT, l1, bF, l1])]) (.a ⟨[.val (.agg [bF, lF [u 4], bF, l1])], [none, none]⟩) := ex (.cons k234 (.cons k156 (.cons k398 (.cons k56 .nil)))) (by kernel_rfl)
theorem k400 : Shows Tryz.prog 112 (.a [.val (.c (lT [])), .val (.c (lF [u 4]))]) (.a ⟨[.val (.c (lF [u 4]))], [none, none]⟩) := ex (.cons k260 .nil) (by kernel_rfl)
theorem k401 : Shows Tryz.prog 99 (.a [.val (.agg [bF, lT []]), .val (.agg [bF, lF [u 4]])]) (.a ⟨[.val (.agg [bF, lF [u 4]])], [none, none]⟩) := ex (.cons k400 (.cons k262 .nil)) (by kernel_rfl)
theorem k402 : Shows Tryz.prog 67 (.a [.val (.agg [bF, lF [u 4]]), .val (.agg [bF, l1])]) (.a ⟨[.val (.agg [bF, lF [u 4], bF, l1])], [none, none]⟩) := ex (.cons k49 .nil) (by kernel_rfl)
theorem k403 : Shows Tryz.prog 72 (.a [.val (.agg [bF, lT [], bF, l1]), .val (.agg [bF, lF [u 4], bF, l1])]) (.a ⟨[.val (.agg [bF, lF [u 4], bF, l1])], [none, none]⟩) := ex (.cons k343 (.cons k108 (.cons k401 (.cons k56 (.cons k402 .nil))))) (by kernel_rfl)
theorem k404 : Shows Tryz.prog 35 (.a [.val (.agg [bT, lF [u 4], bF, l1]), .val (.agg [bF, l1, bF, l1])]) (.a ⟨[.val (.agg [bT, lF [u 4], bF, l1])], [none, none]⟩) := ex (.cons k234 (.cons k50 (.cons k270 (.cons k56 .nil)))) (by kernel_rfl)
theorem k405 : Shows Tryz.prog 100 (.a [.val (.c (lT [])), .val (.c (lF [u 4]))]) (.a ⟨[.val (.c (n64 (-1)))], [none, none]⟩) := ex (.nil) (by kernel_rfl)
theorem k406 : Shows Tryz.prog 113 (.a [.val (.c (lF [u 4])), .val (.c (lT []))]) (.a ⟨[.val (.c (lF [u 4]))], [none, none]⟩) := ex (.cons k230 .nil) (by kernel_rfl)
theorem k407 : Shows Tryz.prog 99 (.a [.val (.agg [bF, lT []]), .val (.agg [bT, lF [u 4]])]) (.a ⟨[.val (.agg [bT, lF [u 4]])], [none, none]⟩) := ex (.cons k405 (.cons k406 (.cons k232 .nil))) (by kernel_rfl)
theorem k408 : Shows Tryz.prog 72 (.a [.val (.agg [bF, lT [], bF, l1]), .val (.agg [bT, lF [u 4], bF, l1])]) (.a ⟨[.val (.agg [bT, lF [u 4], bF, l1])], [none, none]⟩) := ex (.cons k343 (.cons k270 (.cons k407 (.cons k56 (.cons k234 .nil))))) (by kernel_rfl)
theorem k409 : Shows Tryz.prog 74 (.a [.bor 4 [[bF, lT [], bF, l1], [bF, lT [], bF, l1], [bF, lT [], bF, l1]], .val (.agg [bT, lF [u 4], bF, l1]), .val (.c (lF [[bT, l1, bF, l1], [bF, l1, bF, l1]])), .val (.c (n64 0))]) (.a ⟨[], [some (.rows 4 [[bF, lF [u 4], bF, l1], [bT, lF [u 4], bF, l1], [bF, lT [], bF, l1]] false false), none, none, none]⟩) := ex (.cons k395 (.cons k382 (.cons k399 (.cons k403 (.cons k46 (.cons k404 (.cons k408 .nil))))))) (by kernel_rfl)
theorem k410 : Shows Tryz.prog 35 (.a [.val (.agg [bF, l1, bF, l1]), .val (.agg [bT, l1, bF, l1])]) (.a ⟨[.val (.agg [bT, l1, bF, l1])], [none, none]⟩) := ex (.cons k50 (.cons k156 (.cons k360 (.cons k56 .nil)))) (by kernel_rfl)
theorem k411 : Shows Tryz.prog 90 (.a [.val (.c (lF [u 5, u 0]))]) (.a ⟨[.val (.c (lF [u 5]))], [none]⟩) := ex (.nil) (by kernel_rfl)
theorem k412 : Shows Tryz.prog 112 (.a [.val (.c (lF [u 4])), .val (.c (l1))]) (.a ⟨[.val (.c (lF [u 5]))], [none, none]⟩) := ex (.cons k411 .nil) (by kernel_rfl)
theorem k413 : Shows Tryz.prog 90 (.a [.val (.c (lF [u 5]))]) (.a ⟨[.val (.c (lF [u 5]))], [none]⟩) := ex (.nil) (by kernel_rfl)
theorem k414 : Shows Tryz.prog 92 (.a [.val (.c (bT)), .val (.c (lF [u 5]))]) (.a ⟨[.val (.agg [bT, lF [u 5]])], [none, none]⟩) := ex (.cons k413 .nil) (by kernel_rfl)
theorem k415 : Shows Tryz.prog 99 (.a [.val (.agg [bT, lF [u 4]]), .val (.agg [bT, l1])]) (.a ⟨[.val (.agg [bT, lF [u 5]])], [none, none]⟩) := ex (.cons k412 (.cons k414 .nil)) (by kernel_rfl)
theorem k416 : Shows Tryz.prog 67 (.a [.val (.agg [bT, lF [u 5]]), .val (.agg [bF, l1])]) (.a ⟨[.val (.agg [bT, lF [u 5], bF, l1])], [none, none]⟩) := ex (.cons k49 .nil) (by kernel_rfl)
theorem k417 : Shows Tryz.prog 72 (.a [.val (.agg [bT, lF [u 4], bF, l1]), .val (.agg [bT, l1, bF, l1])]) (.a ⟨[.val (.agg [bT, lF [u 5], bF, l1])], [none, none]⟩) := ex (.cons k270 (.cons k291 (.cons k415 (.cons k56 (.cons k416 .nil))))) (by kernel_rfl)
theorem k418 : Shows Tryz.prog 74 (.a [.bor 4 [[bF, lF [u 4], bF, l1], [bT, lF [u 4], bF, l1], [bF, lT [], bF, l1]], .val (.agg [bF, l1, bF, l1]), .val (.c (lF [[bT, l1, bF, l1], [bF, l1, bF, l1]])), .val (.c (n64 1))]) (.a ⟨[], [some (.rows 4 [[bF, lF [u 4], bF, l1], [bT, lF [u 5], bF, l1], [bF, l1, bF, l1]] false false), none, none, none]⟩) := ex (.cons k46 (.cons k382 (.cons k410 (.cons k417 (.cons k57 (.cons k389 .nil)))))) (by kernel_rfl)
theorem k419 : Shows Tryz.prog 75 (.a [.val (.c (lF [[bF, lF [u 4], bF, l1], [bT, lF [u 5], bF, l1], [bF, l1, bF, l1]]))]) (.a ⟨[.val (.c (lF [[bF, lF [u 4], bF, l1], [bT, lF [u 5], bF, l1], [bF, l1, bF, l1]]))], [none]⟩) := ex (.cons k46 .nil) (by kernel_rfl)
theorem k420 : Shows Tryz.prog 39 (.a [.val (.c (lF [[bT, lF [u 4], bF, l1], [bF, l1, bF, l1]])), .val (.c (lF [[bT, l1, bF, l1], [bF, l1, bF, l1]]))]) (.a ⟨[.val (.c (lF [[bF, lF [u 4], bF, l1], [bT, lF [u 5], bF, l1], [bF, l1, bF, l1]]))], [none, none]⟩) := ex (.cons k393 (.cons k409 (.cons k418 (.cons k419 .nil)))) (by kernel_rfl)
theorem k421 : Shows Tryz.prog 73 (.a [.val (.c (n64 1))]) (.a ⟨[.own 4 [[bF, lT [], bF, l1]]], [none]⟩) := ex (.cons k246 .nil) (by kernel_rfl)
theorem k422 : Shows Tryz.prog 53 (.a [.val (.agg [bF, lF [u 6]])]) (.a ⟨[.val (.c (n64 1))], [none]⟩) := ex (.nil) (by kernel_rfl)
theorem k423 : Shows Tryz.prog 46 (.a [.val (.agg [bF, lF [u 6], bF, l1])]) (.a ⟨[.val (.c (n64 1))], [none]⟩) := ex (.cons k422 .nil) (by kernel_rfl)
theorem k424 : Shows Tryz.prog 67 (.a [.val (.agg [bF, lF [u 6]]), .val (.agg [bF, l1])]) (.a ⟨[.val (.agg [bF, lF [u 6], bF, l1])], [none, none]⟩) := ex (.cons k49 .nil) (by kernel_rfl)
theorem k425 : Shows Tryz.prog 35 (.a [.val (.agg [bF, lF [u 6], bF, l1]), .val (.agg [bF, l1, bF, l1])]) (.a ⟨[.val (.agg [bF, lF [u 6], bF, l1])], [none, none]⟩) := ex (.cons k424 (.cons k50 (.cons k133 (.cons k56 .nil)))) (by kernel_rfl)
theorem k426 : Shows Tryz.prog 112 (.a [.val (.c (lT [])), .val (.c (lF [u 6]))]) (.a ⟨[.val (.c (lF [u 6]))], [none, none]⟩) := ex (.cons k96 .nil) (by kernel_rfl)
theorem k427 : Shows Tryz.prog 99 (.a [.val (.agg [bF, lT []]), .val (.agg [bF, lF [u 6]])]) (.a ⟨[.val (.agg [bF, lF [u 6]])], [none, none]⟩) := ex (.cons k426 (.cons k99 .nil)) (by kernel_rfl)
theorem k428 : Shows Tryz.prog 72 (.a [.val (.agg [bF, lT [], bF, l1]), .val (.agg [bF, lF [u 6], bF, l1])]) (.a ⟨[.val (.agg [bF, lF [u 6], bF, l1])], [none, none]⟩) := ex (.cons k343 (.cons k133 (.cons k427 (.cons k56 (.cons k424 .nil))))) (by kernel_rfl)
theorem k429 : Shows Tryz.prog 74 (.a [.bor 4 [[bF, lT [], bF, l1]], .val (.agg [bF, lF [u 6], bF, l1]), .val (.c (lF [[bF, l1, bF, l1]])), .val (.c (n64 0))]) (.a ⟨[], [some (.rows 4 [[bF, lF [u 6], bF, l1]] false false), none, none, none]⟩) := ex (.cons k423 (.cons k46 (.cons k425 (.cons k428 .nil)))) (by kernel_rfl)
theorem k430 : Shows Tryz.prog 75 (.a [.val (.c (lF [[bF, lF [u 6], bF, l1]]))]) (.a ⟨[.val (.c (lF [[bF, lF [u 6], bF, l1]]))], [none]⟩) := ex (.cons k423 .nil) (by kernel_rfl)
theorem k431 : Shows Tryz.prog 41 (.a [.val (.agg [bF, lF [u 6], bF, l1]), .val (.c (lF [[bF, l1, bF, l1]]))]) (.a ⟨[.val (.c (lF [[bF, lF [u 6], bF, l1]]))], [none, none]⟩) := ex (.cons k421 (.cons k429 (.cons k430 .nil))) (by kernel_rfl)
theorem k432 : Shows Tryz.prog 65 (.a [.val (.c (n64 (-1)))]) (.a ⟨[.val (.agg [bT, l1])], [none]⟩) := ex (.cons k52 (.cons k150 .nil)) (by kernel_rfl)
theorem k433 : Shows Tryz.prog 64 (.a [.val (.agg [bT, l1])]) (.a ⟨[.val (.agg [bT, l1, bF, l1])], [none]⟩) := ex (.cons k55 .nil) (by kernel_rfl)
theorem k434 : Shows Tryz.prog 32 (.a [.val (.c (n64 (-1)))]) (.a ⟨[.val (.agg [bT, l1, bF, l1])], [none]⟩) := ex (.cons k432 (.cons k433 .nil)) (by kernel_rfl)
theorem k435 : Shows Tryz.prog 114 (.a [.val (.c (l1)), .val (.c (lF [u 6]))]) (.a ⟨[.val (.c (lF [u 6]))], [none, none]⟩) := ex (.cons k96 .nil) (by kernel_rfl)
theorem k436 : Shows Tryz.prog 97 (.a [.val (.agg [bT, l1]), .val (.agg [bF, lF [u 6]])]) (.a ⟨[.val (.agg [bT, lF [u 6]])], [none, none]⟩) := ex (.cons k435 (.cons k104 .nil)) (by kernel_rfl)
theorem k437 : Shows Tryz.prog 68 (.a [.val (.c (lF [[bT, l1], [bF, lF [u 6]]]))]) (.a ⟨[.val (.agg [bT, lF [u 6]])], [none]⟩) := ex (.cons k55 (.cons k175 (.cons k49 (.cons k132 (.cons k436 .nil))))) (by kernel_rfl)
theorem k438 : Shows Tryz.prog 35 (.a [.val (.agg [bT, l1, bF, l1]), .val (.agg [bF, lF [u 6], bF, l1])]) (.a ⟨[.val (.agg [bT, lF [u 6], bF, l1])], [none, none]⟩) := ex (.cons k156 (.cons k424 (.cons k437 (.cons k56 .nil)))) (by kernel_rfl)
theorem k439 : Shows Tryz.prog 74 (.a [.bor 4 [[bF, lF [u 4], bF, l1], [bT, lF [u 5], bF, l1], [bF, l1, bF, l1]], .val (.agg [bT, l1, bF, l1]), .val (.c (lF [[bF, lF [u 6], bF, l1]])), .val (.c (n64 0))]) (.a ⟨[], [some (.rows 4 [[bT, lF [u 2], bF, l1], [bT, lF [u 5], bF, l1], [bF, l1, bF, l1]] false false), none, none, none]⟩) := ex (.cons k382 (.cons k423 (.cons k438 (.cons k117 .nil)))) (by kernel_rfl)
open Go Go.Abs Go.Proofs
theorem k440 : Shows Tryz.prog 75 (.a [.val (.c (lF [[bT, lF [u 2], bF, l1], [bT, lF [u 5], bF, l1], [bF, l1, bF, l1]]))]) (.a ⟨[.val (.c (lF [[bT, lF [u 2], bF, l1], [bT, lF [u 5], bF, l1], [bF, l1, bF, l1]]))], [none]⟩) := ex (.cons k46 .nil) (by kernel_rfl)
theorem k441 : Shows Tryz.prog 76 (.a [.val (.c (lF [[bF, lF [u 4], bF, l1], [bT, lF [u 5], bF, l1], [bF, l1, bF, l1]])), .val (.agg [bT, l1, bF, l1]), .val (.c (lF [[bF, lF [u 6], bF, l1]])), .val (.c (n64 0))]) (.a ⟨[.val (.c (lF [[bT, lF [u 2], bF, l1], [bT, lF [u 5], bF, l1], [bF, l1, bF, l1]]))], [none, none, none, none]⟩) := ex (.cons k393 (.cons k439 (.cons k440 .nil))) (by kernel_rfl)
theorem k442 : Shows Tryz.prog 40 (.a [.val (.c (lF [[bF, lF [u 4], bF, l1], [bT, lF [u 5], bF, l1], [bF, l1, bF, l1]])), .val (.c (lF [[bF, lF [u 6], bF, l1]]))]) (.a ⟨[.val (.c (lF [[bT, lF [u 2], bF, l1], [bT, lF [u 5], bF, l1], [bF, l1, bF, l1]]))], [none, none]⟩) := ex (.cons k434 (.cons k441 .nil)) (by kernel_rfl)
theorem k443 : Shows Tryz.prog 12 (.a [.val (.c (lF [[lF [[bF, l1, bF, l1], [bF, lF [u 2], bF, l1]]], [lF [[bF, lF [u 3], bF, l1], [bF, lF [u 4], bF, l1]]]]))]) (.a ⟨[.val (.c (lF [[bT, lF [u 2], bF, l1], [bT, lF [u 5], bF, l1], [bF, l1, bF, l1]])), .val (.c (n64 0))], [none]⟩) := ex (.cons k323 (.cons k380 (.cons k326 (.cons k290 (.cons k392 (.cons k268 (.cons k420 (.cons k312 (.cons k102 (.cons k431 (.cons k442 .nil))))))))))) (by kernel_rfl)
theorem k444 : Shows Tryz.prog 101 (.a [.val (.c (lF [u 0, u 0]))]) (.a ⟨[.val (.c (lF []))], [none]⟩) := ex (.nil) (by kernel_rfl)
theorem k445 : Shows Tryz.prog 82 (.a [.val (.c (w64 0))]) (.a ⟨[.val (.c (lF []))], [none]⟩) := ex (.cons k444 .nil) (by kernel_rfl)
theorem k446 : Shows Tryz.prog 101 (.a [.val (.c (lF []))]) (.a ⟨[.val (.c (lF []))], [none]⟩) := ex (.nil) (by kernel_rfl)
theorem k447 : Shows Tryz.prog 81 (.a [.val (.c (bF)), .val (.c (lF []))]) (.a ⟨[.val (.agg [bF, lF []])], [none, none]⟩) := ex (.cons k446 .nil) (by kernel_rfl)
theorem k448 : Shows Tryz.prog 47 (.a [.val (.c (n64 0))]) (.a ⟨[.val (.agg [bF, lF []])], [none]⟩) := ex (.cons k445 (.cons k447 .nil)) (by kernel_rfl)
theorem k449 : Shows Tryz.prog 17 (.a [.val (.c (n64 0))]) (.a ⟨[.val (.agg [bF, lF [], bF, l1])], [none]⟩) := ex (.cons k448 (.cons k4 .nil)) (by kernel_rfl)
theorem k450 : Shows Tryz.prog 7 (.a [.val (.c (lF [[n64 2], [n64 0], [n64 0], [n64 2]]))]) (.a ⟨[.val (.c (lF [[lF [[bF, lF [u 2], bF, l1], [bF, lF [], bF, l1]]], [lF [[bF, lF [], bF, l1], [bF, lF [u 2], bF, l1]]]]))], [none]⟩) := ex (.cons k11 (.cons k449 .nil)) (by kernel_rfl)
theorem k451 : Shows Tryz.prog 25 (.h ⟨[.c (.t (lF [[lF [[bF, lF [u 2], bF, l1], [bF, lF [], bF, l1]]], [lF [[bF, lF [], bF, l1], [bF, lF [u 2], bF, l1]]]]))], []⟩) (.h ⟨[.c (.t (n64 2))], []⟩) := ex (.nil) (by kernel_rfl)
theorem k452 : Shows Tryz.prog 30 (.h ⟨[.c (.t (lF [[lF [[bF, lF [u 2], bF, l1], [bF, lF [], bF, l1]]], [lF [[bF, lF [], bF, l1], [bF, lF [u 2], bF, l1]]]]))], []⟩) (.h ⟨[.c (.t (bT))], []⟩) := ex (.cons k451 .nil) (by kernel_rfl)
theorem k453 : Shows Tryz.prog 53 (.a [.val (.agg [bF, lF []])]) (.a ⟨[.val (.c (n64 0))], [none]⟩) := ex (.nil) (by kernel_rfl)
theorem k454 : Shows Tryz.prog 46 (.a [.val (.agg [bF, lF [], bF, l1])]) (.a ⟨[.val (.c (n64 0))], [none]⟩) := ex (.cons k453 .nil) (by kernel_rfl)
theorem k455 : Shows Tryz.prog 79 (.a [.val (.c (lF [[lF [[bF, lF [u 2], bF, l1], [bF, lF [], bF, l1]]], [lF [[bF, lF [], bF, l1], [bF, lF [u 2], bF, l1]]]])), .val (.c (lF [[bF, lT [], bF, l1], [bF, lT [], bF, l1]]))]) (.a ⟨[.own 4 [[bF, lT [], bF, l1], [bF, lT [], bF, l1]]], [none, none]⟩) := ex (.cons k247 (.cons k95 (.cons k208 (.cons k454 .nil)))) (by kernel_rfl)
theorem k456 : Shows Tryz.prog 34 (.a [.val (.agg [bT, l1, bF, l1])]) (.a ⟨[.val (.agg [bF, l1, bF, l1])], [none]⟩) := ex (.cons k362 .nil) (by kernel_rfl)
theorem k457 : Shows Tryz.prog 98 (.a [.val (.agg [bF, lT [], bF, l1]), .val (.agg [bT, l1, bF, l1])]) (.a ⟨[.val (.agg [bF, l1, bF, l1])], [none, none]⟩) := ex (.cons k456 (.cons k389 .nil)) (by kernel_rfl)
theorem k458 : Shows Tryz.prog 70 (.a [.bor 4 [[bF, lT [], bF, l1], [bF, lT [], bF, l1]], .val (.agg [bT, l1, bF, l1]), .val (.c (lF [[bF, l1, bF, l1], [bF, lT [], bF, l1]]))]) (.a ⟨[], [some (.rows 4 [[bF, l1, bF, l1], [bF, lT [], bF, l1]] false false), none, none]⟩) := ex (.cons k382 (.cons k46 (.cons k383 (.cons k457 (.cons k208 .nil))))) (by kernel_rfl)
theorem k459 : Shows Tryz.prog 43 (.a [.val (.c (lF [[bF, l1, bF, l1]])), .val (.c (lF [[lF [[bF, lF [u 2], bF, l1], [bF, lF [], bF, l1]]], [lF [[bF, lF [], bF, l1], [bF, lF [u 2], bF, l1]]]])), .val (.c (lF [[bF, l1, bF, l1], [bF, lT [], bF, l1]]))]) (.a ⟨[.own 4 [[bF, l1, bF, l1], [bF, lT [], bF, l1]]], [none, none, none]⟩) := ex (.cons k247 (.cons k455 (.cons k290 (.cons k458 .nil)))) (by kernel_rfl)
theorem k460 : Shows Tryz.prog 78 (.a [.val (.agg [bF, l1, bF, l1]), .ref [bF, l1, bF, l1]]) (.a ⟨[.val (.agg [bF, l1, bF, l1])], [none, some (.var [.t (bF), .t (l1), .t (bF), .t (l1)])]⟩) := ex (.cons k57 .nil) (by kernel_rfl)
theorem k461 : Shows Tryz.prog 78 (.a [.val (.agg [bF, lT [], bF, l1]), .ref [bF, l1, bF, l1]]) (.a ⟨[.val (.agg [bF, lT [], bF, l1])], [none, some (.var [.t (bF), .t (l1), .t (bF), .t (l1)])]⟩) := ex (.cons k286 .nil) (by kernel_rfl)
theorem k462 : Shows Tryz.prog 61 (.a [.val (.c (lF [[bF, l1, bF, l1], [bF, lT [], bF, l1]])), .clo 78 [(2, (0, 0))], .gh [bF, l1, bF, l1]]) (.a ⟨[.own 4 [[bF, l1, bF, l1], [bF, lT [], bF, l1]]], [none, none, some (.var [.t (bF), .t (l1), .t (bF), .t (l1)])]⟩) := ex (.cons k460 (.cons k461 .nil)) (by kernel_rfl)
theorem k463 : Shows Tryz.prog 74 (.a [.bor 4 [[bF, lT [], bF, l1]], .val (.agg [bF, l1, bF, l1]), .val (.c (lF [[bF, l1, bF, l1]])), .val (.c (n64 0))]) (.a ⟨[], [some (.rows 4 [[bF, l1, bF, l1]] false false), none, none, none]⟩) := ex (.cons k46 (.cons k57 (.cons k389 .nil))) (by kernel_rfl)
theorem k464 : Shows Tryz.prog 75 (.a [.val (.c (lF [[bF, l1, bF, l1]]))]) (.a ⟨[.val (.c (lF [[bF, l1, bF, l1]]))], [none]⟩) := ex (.cons k46 .nil) (by kernel_rfl)
theorem k465 : Shows Tryz.prog 41 (.a [.val (.agg [bF, l1, bF, l1]), .val (.c (lF [[bF, l1, bF, l1]]))]) (.a ⟨[.val (.c (lF [[bF, l1, bF, l1]]))], [none, none]⟩) := ex (.cons k421 (.cons k463 (.cons k464 .nil))) (by kernel_rfl)
theorem k466 : Shows Tryz.prog 112 (.a [.val (.c (lT [])), .val (.c (lF [u 2]))]) (.a ⟨[.val (.c (lF [u 2]))], [none, none]⟩) := ex (.cons k161 .nil) (by kernel_rfl)
theorem k467 : Shows Tryz.prog 99 (.a [.val (.agg [bF, lT []]), .val (.agg [bF, lF [u 2]])]) (.a ⟨[.val (.agg [bF, lF [u 2]])], [none, none]⟩) := ex (.cons k466 (.cons k153 .nil)) (by kernel_rfl)
theorem k468 : Shows Tryz.prog 72 (.a [.val (.agg [bF, lT [], bF, l1]), .val (.agg [bF, lF [u 2], bF, l1])]) (.a ⟨[.val (.agg [bF, lF [u 2], bF, l1])], [none, none]⟩) := ex (.cons k343 (.cons k204 (.cons k467 (.cons k56 (.cons k59 .nil))))) (by kernel_rfl)
theorem k469 : Shows Tryz.prog 79 (.a [.val (.c (lF [[lF [[bF, lF [u 2], bF, l1], [bF, lF [], bF, l1]]], [lF [[bF, lF [], bF, l1], [bF, lF [u 2], bF, l1]]]])), .val (.c (lF [[bF, l1, bF, l1], [bF, lT [], bF, l1]]))]) (.a ⟨[.own 4 [[bF, lF [u 2], bF, l1], [bF, lT [], bF, l1]]], [none, none]⟩) := ex (.cons k247 (.cons k95 (.cons k46 (.cons k205 (.cons k468 (.cons k454 (.cons k208 .nil))))))) (by kernel_rfl)
theorem k470 : Shows Tryz.prog 74 (.a [.bor 4 [[bF, lT [], bF, l1], [bF, lT [], bF, l1]], .val (.agg [bF, l1, bF, l1]), .val (.c (lF [[bF, lT [], bF, l1], [bF, l1, bF, l1]])), .val (.c (n64 0))]) (.a ⟨[], [some (.rows 4 [[bF, lT [], bF, l1], [bF, l1, bF, l1]] false false), none, none, none]⟩) := ex (.cons k46 (.cons k208 (.cons k57 (.cons k389 .nil)))) (by kernel_rfl)
theorem k471 : Shows Tryz.prog 75 (.a [.val (.c (lF [[bF, lT [], bF, l1], [bF, l1, bF, l1]]))]) (.a ⟨[.val (.c (lF [[bF, lT [], bF, l1], [bF, l1, bF, l1]]))], [none]⟩) := ex (.cons k46 .nil) (by kernel_rfl)
theorem k472 : Shows Tryz.prog 39 (.a [.val (.c (lF [[bF, l1, bF, l1]])), .val (.c (lF [[bF, lT [], bF, l1], [bF, l1, bF, l1]]))]) (.a ⟨[.val (.c (lF [[bF, lT [], bF, l1], [bF, l1, bF, l1]]))], [none, none]⟩) := ex (.cons k381 (.cons k470 (.cons k471 .nil))) (by kernel_rfl)
theorem k473 : Shows Tryz.prog 70 (.a [.bor 4 [[bF, lF [u 2], bF, l1], [bF, lT [], bF, l1]], .val (.agg [bF, lF [u 2], bF, l1]), .val (.c (lF [[bF, l1, bF, l1], [bF, lT [], bF, l1]]))]) (.a ⟨[], [some (.rows 4 [[bF, lT [], bF, l1], [bF, lT [], bF, l1]] false false), none, none]⟩) := ex (.cons k95 (.cons k46 (.cons k205 (.cons k216 (.cons k208 .nil))))) (by kernel_rfl)
theorem k474 : Shows Tryz.prog 74 (.a [.bor 4 [[bF, lT [], bF, l1]], .val (.agg [bF, lF [u 2], bF, l1]), .val (.c (lF [[bF, l1, bF, l1]])), .val (.c (n64 0))]) (.a ⟨[], [some (.rows 4 [[bF, lF [u 2], bF, l1]] false false), none, none, none]⟩) := ex (.cons k95 (.cons k46 (.cons k205 (.cons k468 .nil)))) (by kernel_rfl)
theorem k475 : Shows Tryz.prog 75 (.a [.val (.c (lF [[bF, lF [u 2], bF, l1]]))]) (.a ⟨[.val (.c (lF [[bF, lF [u 2], bF, l1]]))], [none]⟩) := ex (.cons k95 .nil) (by kernel_rfl)
theorem k476 : Shows Tryz.prog 41 (.a [.val (.agg [bF, lF [u 2], bF, l1]), .val (.c (lF [[bF, l1, bF, l1]]))]) (.a ⟨[.val (.c (lF [[bF, lF [u 2], bF, l1]]))], [none, none]⟩) := ex (.cons k421 (.cons k474 (.cons k475 .nil))) (by kernel_rfl)
theorem k477 : Shows Tryz.prog 114 (.a [.val (.c (l1)), .val (.c (lF [u 2]))]) (.a ⟨[.val (.c (lF [u 2]))], [none, none]⟩) := ex (.cons k161 .nil) (by kernel_rfl)
theorem k478 : Shows Tryz.prog 97 (.a [.val (.agg [bT, l1]), .val (.agg [bF, lF [u 2]])]) (.a ⟨[.val (.agg [bT, lF [u 2]])], [none, none]⟩) := ex (.cons k477 (.cons k114 .nil)) (by kernel_rfl)
theorem k479 : Shows Tryz.prog 68 (.a [.val (.c (lF [[bT, l1], [bF, lF [u 2]]]))]) (.a ⟨[.val (.agg [bT, lF [u 2]])], [none]⟩) := ex (.cons k55 (.cons k175 (.cons k49 (.cons k60 (.cons k478 .nil))))) (by kernel_rfl)
theorem k480 : Shows Tryz.prog 35 (.a [.val (.agg [bT, l1, bF, l1]), .val (.agg [bF, lF [u 2], bF, l1])]) (.a ⟨[.val (.agg [bT, lF [u 2], bF, l1])], [none, none]⟩) := ex (.cons k156 (.cons k59 (.cons k479 (.cons k56 .nil)))) (by kernel_rfl)
theorem k481 : Shows Tryz.prog 74 (.a [.bor 4 [[bF, lT [], bF, l1], [bF, l1, bF, l1]], .val (.agg [bT, l1, bF, l1]), .val (.c (lF [[bF, lF [u 2], bF, l1]])), .val (.c (n64 0))]) (.a ⟨[], [some (.rows 4 [[bT, lF [u 2], bF, l1], [bF, l1, bF, l1]] false false), none, none, none]⟩) := ex (.cons k382 (.cons k95 (.cons k480 (.cons k346 .nil)))) (by kernel_rfl)
theorem k482 : Shows Tryz.prog 75 (.a [.val (.c (lF [[bT, lF [u 2], bF, l1], [bF, l1, bF, l1]]))]) (.a ⟨[.val (.c (lF [[bT, lF [u 2], bF, l1], [bF, l1, bF, l1]]))], [none]⟩) := ex (.cons k46 .nil) (by kernel_rfl)
theorem k483 : Shows Tryz.prog 76 (.a [.val (.c (lF [[bF, lT [], bF, l1], [bF, l1, bF, l1]])), .val (.agg [bT, l1, bF, l1]), .val (.c (lF [[bF, lF [u 2], bF, l1]])), .val (.c (n64 0))]) (.a ⟨[.val (.c (lF [[bT, lF [u 2], bF, l1], [bF, l1, bF, l1]]))], [none, none, none, none]⟩) := ex (.cons k381 (.cons k481 (.cons k482 .nil))) (by kernel_rfl)
theorem k484 : Shows Tryz.prog 40 (.a [.val (.c (lF [[bF, lT [], bF, l1], [bF, l1, bF, l1]])), .val (.c (lF [[bF, lF [u 2], bF, l1]]))]) (.a ⟨[.val (.c (lF [[bT, lF [u 2], bF, l1], [bF, l1, bF, l1]]))], [none, none]⟩) := ex (.cons k434 (.cons k483 .nil)) (by kernel_rfl)
theorem k485 : Shows Tryz.prog 74 (.a [.bor 4 [[bF, lT [], bF, l1], [bF, lT [], bF, l1]], .val (.agg [bF, l1, bF, l1]), .val (.c (lF [[bT, lF [u 2], bF, l1], [bF, l1, bF, l1]])), .val (.c (n64 0))]) (.a ⟨[], [some (.rows 4 [[bT, lF [u 2], bF, l1], [bF, l1, bF, l1]] false false), none, none, none]⟩) := ex (.cons k46 (.cons k147 (.cons k332 (.cons k346 (.cons k57 (.cons k389 .nil)))))) (by kernel_rfl)
theorem k486 : Shows Tryz.prog 41 (.a [.val (.agg [bF, l1, bF, l1]), .val (.c (lF [[bT, lF [u 2], bF, l1], [bF, l1, bF, l1]]))]) (.a ⟨[.val (.c (lF [[bT, lF [u 2], bF, l1], [bF, l1, bF, l1]]))], [none, none]⟩) := ex (.cons k381 (.cons k485 (.cons k482 .nil))) (by kernel_rfl)
theorem k487 : Shows Tryz.prog 77 (.a [.val (.c (lF [[bT, lF [u 2], bF, l1], [bF, l1, bF, l1]]))]) (.a ⟨[.val (.c (lF [[bT, lF [u 2], bF, l1], [bF, l1, bF, l1]]))], [none]⟩) := ex (.cons k48 (.cons k486 .nil)) (by kernel_rfl)
theorem k488 : Shows Tryz.prog 42 (.a [.val (.c (lF [[lF [[bF, lF [u 2], bF, l1], [bF, lF [], bF, l1]]], [lF [[bF, lF [], bF, l1], [bF, lF [u 2], bF, l1]]]])), .val (.c (lF [[bF, l1, bF, l1], [bF, lT [], bF, l1]]))]) (.a ⟨[.val (.c (lF [[bT, lF [u 2], bF, l1], [bF, l1, bF, l1]]))], [none, none]⟩) := ex (.cons k326 (.cons k246 (.cons k46 (.cons k48 (.cons k462 (.cons k465 (.cons k469 (.cons k472 (.cons k473 (.cons k476 (.cons k484 (.cons k208 (.cons k487 .nil))))))))))))) (by kernel_rfl)
theorem k489 : Shows Tryz.prog 39 (.a [.val (.c (lF [[bF, l1, bF, l1]])), .val (.c (lF [[bT, lF [u 2], bF, l1], [bF, l1, bF, l1]]))]) (.a ⟨[.val (.c (lF [[bT, lF [u 2], bF, l1], [bF, l1, bF, l1]]))], [none, none]⟩) := ex (.cons k381 (.cons k485 (.cons k482 .nil))) (by kernel_rfl)
theorem k490 : Shows Tryz.prog 70 (.a [.bor 4 [[bF, lT [], bF, l1], [bF, lT [], bF, l1]], .val (.agg [bT, l1, bF, l1]), .val (.c (lF [[bF, lT [], bF, l1], [bF, l1, bF, l1]]))]) (.a ⟨[], [some (.rows 4 [[bF, lT [], bF, l1], [bF, l1, bF, l1]] false false), none, none]⟩) := ex (.cons k382 (.cons k208 (.cons k46 (.cons k383 (.cons k457 .nil))))) (by kernel_rfl)
theorem k491 : Shows Tryz.prog 79 (.a [.val (.c (lF [[lF [[bF, lF [u 2], bF, l1], [bF, lF [], bF, l1]]], [lF [[bF, lF [], bF, l1], [bF, lF [u 2], bF, l1]]]])), .val (.c (lF [[bF, lT [], bF, l1], [bF, l1, bF, l1]]))]) (.a ⟨[.own 4 [[bF, lT [], bF, l1], [bF, lF [u 2], bF, l1]]], [none, none]⟩) := ex (.cons k247 (.cons k95 (.cons k208 (.cons k454 (.cons k46 (.cons k205 (.cons k468 .nil))))))) (by kernel_rfl)
theorem k492 : Shows Tryz.prog 34 (.a [.val (.agg [bT, lF [u 2], bF, l1])]) (.a ⟨[.val (.agg [bF, lF [u 2], bF, l1])], [none]⟩) := ex (.cons k154 .nil) (by kernel_rfl)
theorem k493 : Shows Tryz.prog 70 (.a [.bor 4 [[bF, lT [], bF, l1], [bF, lF [u 2], bF, l1]], .val (.agg [bF, lF [u 2], bF, l1]), .val (.c (lF [[bF, lT [], bF, l1], [bF, l1, bF, l1]]))]) (.a ⟨[], [some (.rows 4 [[bF, lT [], bF, l1], [bF, lT [], bF, l1]] false false), none, none]⟩) := ex (.cons k95 (.cons k208 (.cons k46 (.cons k205 (.cons k216 .nil))))) (by kernel_rfl)
theorem k494 : Shows Tryz.prog 43 (.a [.val (.c (lF [[bT, lF [u 2], bF, l1], [bF, l1, bF, l1]])), .val (.c (lF [[lF [[bF, lF [u 2], bF, l1], [bF, lF [], bF, l1]]], [lF [[bF, lF [], bF, l1], [bF, lF [u 2], bF, l1]]]])), .val (.c (lF [[bF, lT [], bF, l1], [bF, l1, bF, l1]]))]) (.a ⟨[.own 4 [[bF, lT [], bF, l1], [bF, lT [], bF, l1]]], [none, none, none]⟩) := ex (.cons k247 (.cons k455 (.cons k290 (.cons k490 (.cons k491 (.cons k492 (.cons k493 .nil))))))) (by kernel_rfl)
theorem k495 : Shows Tryz.prog 77 (.a [.val (.c (lF [[bF, l1, bF, l1]]))]) (.a ⟨[.val (.c (lF [[bF, l1, bF, l1]]))], [none]⟩) := ex (.cons k48 (.cons k465 .nil)) (by kernel_rfl)
theorem k496 : Shows Tryz.prog 42 (.a [.val (.c (lF [[lF [[bF, lF [u 2], bF, l1], [bF, lF [], bF, l1]]], [lF [[bF, lF [], bF, l1], [bF, lF [u 2], bF, l1]]]])), .val (.c (lF [[bF, lT [], bF, l1], [bF, lT [], bF, l1]]))]) (.a ⟨[.val (.c (lF [[bF, l1, bF, l1]]))], [none, none]⟩) := ex (.cons k326 (.cons k246 (.cons k208 (.cons k495 .nil)))) (by kernel_rfl)
theorem k497 : Shows Tryz.prog 35 (.a [.val (.agg [bT, lF [u 2], bF, l1]), .val (.agg [bF, l1, bF, l1])]) (.a ⟨[.val (.agg [bT, lF [u 2], bF, l1])], [none, none]⟩) := ex (.cons k116 (.cons k50 (.cons k212 (.cons k56 .nil)))) (by kernel_rfl)
theorem k498 : Shows Tryz.prog 74 (.a [.bor 4 [[bF, lT [], bF, l1], [bF, lT [], bF, l1]], .val (.agg [bT, lF [u 2], bF, l1]), .val (.c (lF [[bF, l1, bF, l1]])), .val (.c (n64 0))]) (.a ⟨[], [some (.rows 4 [[bT, lF [u 2], bF, l1], [bF, lT [], bF, l1]] false false), none, none, none]⟩) := ex (.cons k147 (.cons k46 (.cons k497 (.cons k346 .nil)))) (by kernel_rfl)
theorem k499 : Shows Tryz.prog 74 (.a [.bor 4 [[bT, lF [u 2], bF, l1], [bF, lT [], bF, l1]], .val (.agg [bF, l1, bF, l1]), .val (.c (lF [[bF, l1, bF, l1]])), .val (.c (n64 1))]) (.a ⟨[], [some (.rows 4 [[bT, lF [u 2], bF, l1], [bF, l1, bF, l1]] false false), none, none, none]⟩) := ex (.cons k46 (.cons k57 (.cons k389 .nil))) (by kernel_rfl)
theorem k500 : Shows Tryz.prog 39 (.a [.val (.c (lF [[bT, lF [u 2], bF, l1], [bF, l1, bF, l1]])), .val (.c (lF [[bF, l1, bF, l1]]))]) (.a ⟨[.val (.c (lF [[bT, lF [u 2], bF, l1], [bF, l1, bF, l1]]))], [none, none]⟩) := ex (.cons k381 (.cons k498 (.cons k499 (.cons k482 .nil)))) (by kernel_rfl)
theorem k501 : Shows Tryz.prog 13 (.a [.val (.c (lF [[lF [[bF, lF [u 2], bF, l1], [bF, lF [], bF, l1]]], [lF [[bF, lF [], bF, l1], [bF, lF [u 2], bF, l1]]]]))]) (.a ⟨[.val (.c (lF [[bT, lF [u 2], bF, l1], [bF, l1, bF, l1]])), .val (.c (n64 0))], [none]⟩) := ex (.cons k452 (.cons k326 (.cons k247 (.cons k459 (.cons k488 (.cons k489 (.cons k494 (.cons k496 (.cons k500 .nil))))))))) (by kernel_rfl)
theorem k502 : Shows Tryz.prog 7 (.a [.val (.c (lF [[n64 0], [n64 1], [n64 1], [n64 0]]))]) (.a ⟨[.val (.c (lF [[lF [[bF, lF [], bF, l1], [bF, l1, bF, l1]]], [lF [[bF, l1, bF, l1], [bF, lF [], bF, l1]]]]))], [none]⟩) := ex (.cons k449 (.cons k5 .nil)) (by kernel_rfl)
theorem k503 : Shows Tryz.prog 25 (.h ⟨[.c (.t (lF [[lF [[bF, lF [], bF, l1], [bF, l1, bF, l1]]], [lF [[bF, l1, bF, l1], [bF, lF [], bF, l1]]]]))], []⟩) (.h ⟨[.c (.t (n64 2))], []⟩) := ex (.nil) (by kernel_rfl)
theorem k504 : Shows Tryz.prog 30 (.h ⟨[.c (.t (lF [[lF [[bF, lF [], bF, l1], [bF, l1, bF, l1]]], [lF [[bF, l1, bF, l1], [bF, lF [], bF, l1]]]]))], []⟩) (.h ⟨[.c (.t (bT))], []⟩) := ex (.cons k503 .nil) (by kernel_rfl)
theorem k505 : Shows Tryz.prog 80 (.a [.val (.agg [bF, l1]), .val (.agg [bF, l1])]) (.a ⟨[.val (.c (n64 0))], [none, none]⟩) := ex (.cons k45 (.cons k292 .nil)) (by kernel_rfl)
theorem k506 : Shows Tryz.prog 44 (.a [.val (.agg [bF, l1, bF, l1]), .val (.agg [bF, l1, bF, l1])]) (.a ⟨[.val (.c (n64 0))], [none, none]⟩) := ex (.cons k46 (.cons k56 (.cons k505 .nil))) (by kernel_rfl)
theorem k507 : Shows Tryz.prog 26 (.a [.val (.c (lF [[bF, lF [], bF, l1], [bF, l1, bF, l1]]))]) (.a ⟨[.own 4 [[bF, lF [], bF, l1], [bF, l1, bF, l1]]], [none]⟩) := ex (.nil) (by kernel_rfl)
theorem k508 : Shows Tryz.prog 26 (.a [.val (.c (lF [[bF, l1, bF, l1], [bF, lF [], bF, l1]]))]) (.a ⟨[.own 4 [[bF, l1, bF, l1], [bF, lF [], bF, l1]]], [none]⟩) := ex (.nil) (by kernel_rfl)
theorem k509 : Shows Tryz.prog 31 (.h ⟨[.c (.t (lF [[lF [[bF, lF [], bF, l1], [bF, l1, bF, l1]]], [lF [[bF, l1, bF, l1], [bF, lF [], bF, l1]]]])), .c (.t (.v (.func (.func 26) #[] #[])))], []⟩) (.h ⟨[.c (.sl 0 0 2 false)], [some (.var [.sl 1 0 2 false, .sl 2 0 2 false]), some (.rows 4 [[bF, lF [], bF, l1], [bF, l1, bF, l1]] true false), some (.rows 4 [[bF, l1, bF, l1], [bF, lF [], bF, l1]] true false)]⟩) := ex (.cons k507 (.cons k508 .nil)) (by kernel_rfl)
theorem k510 : Shows Tryz.prog 54 (.a [.val (.agg [bF, lF []])]) (.a ⟨[.val (.c (bF))], [none]⟩) := ex (.nil) (by kernel_rfl)
theorem k511 : Shows Tryz.prog 68 (.a [.val (.c (lF [[bF, lF []], [bF, l1]]))]) (.a ⟨[.val (.agg [bF, lF []])], [none]⟩) := ex (.cons k55 (.cons k510 (.cons k49 .nil))) (by kernel_rfl)
theorem k512 : Shows Tryz.prog 112 (.a [.val (.c (lF [])), .val (.c (l1))]) (.a ⟨[.val (.c (l1))], [none, none]⟩) := ex (.cons k51 .nil) (by kernel_rfl)
theorem k513 : Shows Tryz.prog 99 (.a [.val (.agg [bF, lF []]), .val (.agg [bF, l1])]) (.a ⟨[.val (.agg [bF, l1])], [none, none]⟩) := ex (.cons k512 (.cons k54 .nil)) (by kernel_rfl)
theorem k514 : Shows Tryz.prog 72 (.a [.val (.agg [bF, lF [], bF, l1]), .val (.agg [bF, l1, bF, l1])]) (.a ⟨[.val (.agg [bF, l1, bF, l1])], [none, none]⟩) := ex (.cons k511 (.cons k56 (.cons k513 (.cons k50 .nil)))) (by kernel_rfl)
theorem k515 : Shows Tryz.prog 98 (.a [.val (.agg [bF, lF [], bF, l1]), .val (.agg [bT, l1, bF, l1])]) (.a ⟨[.val (.agg [bF, l1, bF, l1])], [none, none]⟩) := ex (.cons k456 (.cons k514 .nil)) (by kernel_rfl)
theorem k516 : Shows Tryz.prog 70 (.a [.bor 4 [[bF, lF [], bF, l1], [bF, l1, bF, l1]], .val (.agg [bT, l1, bF, l1]), .bor 4 [[bF, l1, bF, l1], [bF, lF [], bF, l1]]]) (.a ⟨[], [some (.rows 4 [[bF, l1, bF, l1], [bF, l1, bF, l1]] false false), none, some (.rows 4 [[bF, l1, bF, l1], [bF, lF [], bF, l1]] false false)]⟩) := ex (.cons k382 (.cons k46 (.cons k383 (.cons k515 (.cons k454 .nil))))) (by kernel_rfl)
theorem k517 : Shows Tryz.prog 112 (.a [.val (.c (l1)), .val (.c (l1))]) (.a ⟨[.val (.c (lF [u 2]))], [none, none]⟩) := ex (.cons k161 .nil) (by kernel_rfl)
theorem k518 : Shows Tryz.prog 99 (.a [.val (.agg [bF, l1]), .val (.agg [bF, l1])]) (.a ⟨[.val (.agg [bF, lF [u 2]])], [none, none]⟩) := ex (.cons k517 (.cons k153 .nil)) (by kernel_rfl)
theorem k519 : Shows Tryz.prog 72 (.a [.val (.agg [bF, l1, bF, l1]), .val (.agg [bF, l1, bF, l1])]) (.a ⟨[.val (.agg [bF, lF [u 2], bF, l1])], [none, none]⟩) := ex (.cons k56 (.cons k518 (.cons k59 .nil))) (by kernel_rfl)
theorem k520 : Shows Tryz.prog 112 (.a [.val (.c (l1)), .val (.c (lF []))]) (.a ⟨[.val (.c (l1))], [none, none]⟩) := ex (.cons k51 .nil) (by kernel_rfl)
theorem k521 : Shows Tryz.prog 99 (.a [.val (.agg [bF, l1]), .val (.agg [bF, lF []])]) (.a ⟨[.val (.agg [bF, l1])], [none, none]⟩) := ex (.cons k520 (.cons k54 .nil)) (by kernel_rfl)
theorem k522 : Shows Tryz.prog 72 (.a [.val (.agg [bF, l1, bF, l1]), .val (.agg [bF, lF [], bF, l1])]) (.a ⟨[.val (.agg [bF, l1, bF, l1])], [none, none]⟩) := ex (.cons k56 (.cons k511 (.cons k521 (.cons k50 .nil)))) (by kernel_rfl)
theorem k523 : Shows Tryz.prog 45 (.h ⟨[.c (.sl 0 0 2 false), .c (.t (n64 0))], [some (.var [.sl 1 0 2 false, .sl 2 0 2 false]), some (.rows 4 [[bF, lF [u 2], bF, l1], [bF, l1, bF, l1]] true false), some (.rows 4 [[bF, l1, bF, l1], [bF, lF [], bF, l1]] true false)]⟩) (.h ⟨[.c (.t (bT))], [some (.var [.sl 1 0 2 false, .sl 2 0 2 false]), some (.rows 4 [[bF, lF [u 2], bF, l1], [bF, l1, bF, l1]] true false), some (.rows 4 [[bF, l1, bF, l1], [bF, lF [], bF, l1]] true false)]⟩) := ex (.cons k95 .nil) (by kernel_rfl)
theorem k524 : Shows Tryz.prog 45 (.h ⟨[.c (.sl 0 0 2 false), .c (.t (n64 0))], [some (.var [.sl 1 0 2 false, .sl 2 0 2 false]), some (.rows 4 [[bF, lF [], bF, l1], [bF, l1, bF, l1]] true false), some (.rows 4 [[bF, l1, bF, l1], [bF, lF [], bF, l1]] true false)]⟩) (.h ⟨[.c (.t (bT))], [some (.var [.sl 1 0 2 false, .sl 2 0 2 false]), some (.rows 4 [[bF, lF [u 2], bF, l1], [bF, l1, bF, l1]] true false), some (.rows 4 [[bF, l1, bF, l1], [bF, lF [], bF, l1]] true false)]⟩) := ex (.cons k454 (.cons k46 (.cons k434 (.cons k516 (.cons k519 (.cons k522 (.cons k523 .nil))))))) (by kernel_rfl)
theorem k525 : Shows Tryz.prog 60 (.a [.val (.agg [bF, lF [u 2], bF, l1])]) (.a ⟨[.val (.agg [bF, l1, bF, lF [u 2]]), .val (.c (n64 0))], [none]⟩) := ex (.cons k94 .nil) (by kernel_rfl)
theorem k526 : Shows Tryz.prog 35 (.a [.val (.agg [bF, l1, bF, l1]), .val (.agg [bF, l1, bF, lF [u 2]])]) (.a ⟨[.val (.agg [bF, l1, bF, lF [u 2]])], [none, none]⟩) := ex (.cons k354 (.cons k50 (.cons k56 (.cons k204 .nil)))) (by kernel_rfl)
theorem k527 : Shows Tryz.prog 69 (.a [.val (.agg [bF, l1, bF, l1]), .val (.agg [bF, lF [u 2], bF, l1])]) (.a ⟨[.val (.agg [bF, l1, bF, lF [u 2]]), .val (.c (n64 0))], [none, none]⟩) := ex (.cons k525 (.cons k526 .nil)) (by kernel_rfl)
theorem k528 : Shows Tryz.prog 46 (.a [.val (.agg [bF, l1, bF, lF [u 2]])]) (.a ⟨[.val (.c (n64 1))], [none]⟩) := ex (.cons k45 .nil) (by kernel_rfl)
theorem k529 : Shows Tryz.prog 35 (.a [.val (.agg [bF, l1, bF, lF [u 2]]), .val (.agg [bF, lF [u 2], bF, l1])]) (.a ⟨[.val (.agg [bF, l1, bF, l1])], [none, none]⟩) := ex (.cons k50 (.cons k220 (.cons k56 .nil))) (by kernel_rfl)
theorem k530 : Shows Tryz.prog 35 (.a [.val (.agg [bF, l1, bF, lF [u 2]]), .val (.agg [bF, l1, bF, l1])]) (.a ⟨[.val (.agg [bF, l1, bF, lF [u 2]])], [none, none]⟩) := ex (.cons k50 (.cons k354 (.cons k56 (.cons k61 .nil)))) (by kernel_rfl)
theorem k531 : Shows Tryz.prog 34 (.a [.val (.agg [bF, l1, bF, lF [u 2]])]) (.a ⟨[.val (.agg [bT, l1, bF, lF [u 2]])], [none]⟩) := ex (.cons k151 .nil) (by kernel_rfl)
theorem k532 : Shows Tryz.prog 114 (.a [.val (.c (lF [])), .val (.c (lF [u 2]))]) (.a ⟨[.val (.c (lF []))], [none, none]⟩) := ex (.cons k86 .nil) (by kernel_rfl)
theorem k533 : Shows Tryz.prog 97 (.a [.val (.agg [bF, lF []]), .val (.agg [bF, lF [u 2]])]) (.a ⟨[.val (.agg [bF, lT []])], [none, none]⟩) := ex (.cons k532 (.cons k89 .nil)) (by kernel_rfl)
theorem k534 : Shows Tryz.prog 68 (.a [.val (.c (lF [[bF, lF []], [bF, lF [u 2]]]))]) (.a ⟨[.val (.agg [bF, lT []])], [none]⟩) := ex (.cons k55 (.cons k510 (.cons k49 (.cons k60 (.cons k533 .nil))))) (by kernel_rfl)
theorem k535 : Shows Tryz.prog 55 (.a [.val (.agg [bT, l1]), .val (.agg [bF, lF [u 2]])]) (.a ⟨[.val (.agg [bF, l1])], [none, none]⟩) := ex (.cons k53 (.cons k149 (.cons k112 (.cons k152 (.cons k352 (.cons k160 (.cons k52 (.cons k54 .nil)))))))) (by kernel_rfl)
theorem k536 : Shows Tryz.prog 67 (.a [.val (.agg [bT, l1]), .val (.agg [bF, lF [u 2]])]) (.a ⟨[.val (.agg [bT, l1, bF, lF [u 2]])], [none, none]⟩) := ex (.cons k60 (.cons k535 (.cons k49 .nil))) (by kernel_rfl)
theorem k537 : Shows Tryz.prog 72 (.a [.val (.agg [bF, lF [], bF, l1]), .val (.agg [bT, l1, bF, lF [u 2]])]) (.a ⟨[.val (.agg [bT, l1, bF, lF [u 2]])], [none, none]⟩) := ex (.cons k534 (.cons k291 (.cons k386 (.cons k61 (.cons k536 .nil))))) (by kernel_rfl)
theorem k538 : Shows Tryz.prog 98 (.a [.val (.agg [bF, lF [], bF, l1]), .val (.agg [bF, l1, bF, lF [u 2]])]) (.a ⟨[.val (.agg [bT, l1, bF, lF [u 2]])], [none, none]⟩) := ex (.cons k531 (.cons k537 .nil)) (by kernel_rfl)
theorem k539 : Shows Tryz.prog 70 (.a [.bor 4 [[bF, l1, bF, l1], [bF, lF [], bF, l1]], .val (.agg [bF, l1, bF, lF [u 2]]), .bor 4 [[bF, lF [u 2], bF, l1], [bF, l1, bF, l1]]]) (.a ⟨[], [some (.rows 4 [[bF, lT [], bF, l1], [bT, l1, bF, lF [u 2]]] false false), none, some (.rows 4 [[bF, lF [u 2], bF, l1], [bF, l1, bF, l1]] false false)]⟩) := ex (.cons k528 (.cons k95 (.cons k529 (.cons k296 (.cons k46 (.cons k530 (.cons k538 .nil))))))) (by kernel_rfl)
theorem k540 : Shows Tryz.prog 36 (.h ⟨[.c (.sl 0 1 1 false), .c (.sl 1 0 2 false), .c (.t (n64 0))], [some (.var [.sl 1 0 2 false, .sl 2 0 2 false]), some (.rows 4 [[bF, lF [u 2], bF, l1], [bF, l1, bF, l1]] true false), some (.rows 4 [[bF, l1, bF, l1], [bF, lF [], bF, l1]] true false)]⟩) (.h ⟨[], [some (.var [.sl 1 0 2 false, .sl 2 0 2 false]), some (.rows 4 [[bF, lF [u 2], bF, l1], [bF, l1, bF, l1]] true false), some (.rows 4 [[bF, lT [], bF, l1], [bT, l1, bF, lF [u 2]]] true false)]⟩) := ex (.cons k46 (.cons k527 (.cons k539 .nil))) (by kernel_rfl)
theorem k541 : Shows Tryz.prog 45 (.h ⟨[.c (.sl 0 0 2 false), .c (.t (n64 1))], [some (.var [.sl 1 0 2 false, .sl 2 0 2 false]), some (.rows 4 [[bF, lF [u 2], bF, l1], [bF, l1, bF, l1]] true false), some (.rows 4 [[bF, lT [], bF, l1], [bT, l1, bF, lF [u 2]]] true false)]⟩) (.h ⟨[.c (.t (bT))], [some (.var [.sl 1 0 2 false, .sl 2 0 2 false]), some (.rows 4 [[bF, lF [u 2], bF, l1], [bF, l1, bF, l1]] true false), some (.rows 4 [[bF, lT [], bF, l1], [bT, l1, bF, lF [u 2]]] true false)]⟩) := ex (.cons k359 .nil) (by kernel_rfl)
theorem k542 : Shows Tryz.prog 36 (.h ⟨[.c (.sl 0 2 0 false), .c (.sl 1 0 2 false), .c (.t (n64 1))], [some (.var [.sl 2 0 2 false, .sl 1 0 2 false]), some (.rows 4 [[bF, lT [], bF, l1], [bT, l1, bF, lF [u 2]]] true false), some (.rows 4 [[bF, lF [u 2], bF, l1], [bF, l1, bF, l1]] true false)]⟩) (.h ⟨[], [some (.var [.sl 2 0 2 false, .sl 1 0 2 false]), some (.rows 4 [[bF, lT [], bF, l1], [bT, l1, bF, lF [u 2]]] true false), some (.rows 4 [[bF, lF [u 2], bF, l1], [bF, l1, bF, l1]] true false)]⟩) := ex (.nil) (by kernel_rfl)
theorem k543 : Shows Tryz.prog 14 (.a [.val (.c (lF [[lF [[bF, lF [], bF, l1], [bF, l1, bF, l1]]], [lF [[bF, l1, bF, l1], [bF, lF [], bF, l1]]]]))]) (.a ⟨[.val (.c (n64 1)), .val (.c (n64 1)), .val (.c (n64 0))], [none]⟩) := ex (.cons k504 (.cons k506 (.cons k509 (.cons k524 (.cons k95 (.cons k540 (.cons k541 (.cons k359 (.cons k542 .nil))))))))) (by kernel_rfl)
theorem k544 : Shows Tryz.prog 80 (.a [.val (.agg [bF, lF [u 3]]), .val (.agg [bF, lF [u 2]])]) (.a ⟨[.val (.c (n64 1))], [none, none]⟩) := ex (.cons k71 (.cons k94 (.cons k276 .nil))) (by kernel_rfl)
theorem k545 : Shows Tryz.prog 44 (.a [.val (.agg [bF, lF [u 3], bF, l1]), .val (.agg [bF, lF [u 2], bF, l1])]) (.a ⟨[.val (.c (n64 1))], [none, none]⟩) := ex (.cons k72 (.cons k95 (.cons k75 (.cons k204 (.cons k544 .nil))))) (by kernel_rfl)
theorem k546 : Shows Tryz.prog 14 (.a [.val (.c (lF [[lF [[bF, l1, bF, l1], [bF, lF [u 2], bF, l1]]], [lF [[bF, lF [u 3], bF, l1], [bF, lF [u 4], bF, l1]]]]))]) (.a ⟨[.val (.c (n64 0)), .val (.c (n64 0)), .val (.c (n64 112))], [none]⟩) := ex (.cons k323 (.cons k545 .nil)) (by kernel_rfl)
theorem k547 : Shows Tryz.prog 101 (.a [.val (.c (lF [u 9, u 0]))]) (.a ⟨[.val (.c (lF [u 9]))], [none]⟩) := ex (.nil) (by kernel_rfl)
theorem k548 : Shows Tryz.prog 82 (.a [.val (.c (w64 9))]) (.a ⟨[.val (.c (lF [u 9]))], [none]⟩) := ex (.cons k547 .nil) (by kernel_rfl)
theorem k549 : Shows Tryz.prog 101 (.a [.val (.c (lF [u 9]))]) (.a ⟨[.val (.c (lF [u 9]))], [none]⟩) := ex (.nil) (by kernel_rfl)
open Go Go.Abs Go.Proofs
theorem k550 : Shows Tryz.prog 81 (.a [.val (.c (bF)), .val (.c (lF [u 9]))]) (.a ⟨[.val (.agg [bF, lF [u 9]])], [none, none]⟩) := ex (.cons k549 .nil) (by kernel_rfl)
theorem k551 : Shows Tryz.prog 47 (.a [.val (.c (n64 9))]) (.a ⟨[.val (.agg [bF, lF [u 9]])], [none]⟩) := ex (.cons k548 (.cons k550 .nil)) (by kernel_rfl)
theorem k552 : Shows Tryz.prog 101 (.a [.val (.c (lF [u 0, u 1073741824]))]) (.a ⟨[.val (.c (lF [u 0, u 1073741824]))], [none]⟩) := ex (.nil) (by kernel_rfl)
theorem k553 : Shows Tryz.prog 82 (.a [.val (.c (w64 4611686018427387904))]) (.a ⟨[.val (.c (lF [u 0, u 1073741824]))], [none]⟩) := ex (.cons k552 .nil) (by kernel_rfl)
theorem k554 : Shows Tryz.prog 81 (.a [.val (.c (bF)), .val (.c (lF [u 0, u 1073741824]))]) (.a ⟨[.val (.agg [bF, lF [u 0, u 1073741824]])], [none, none]⟩) := ex (.cons k552 .nil) (by kernel_rfl)
theorem k555 : Shows Tryz.prog 47 (.a [.val (.c (n64 4611686018427387904))]) (.a ⟨[.val (.agg [bF, lF [u 0, u 1073741824]])], [none]⟩) := ex (.cons k553 (.cons k554 .nil)) (by kernel_rfl)
theorem k556 : Shows Tryz.prog 102 (.a [.val (.c (lF [u 9])), .val (.c (n64 1))]) (.a ⟨[.val (.c (w64 0))], [none, none]⟩) := ex (.nil) (by kernel_rfl)
theorem k557 : Shows Tryz.prog 102 (.a [.val (.c (lF [u 9])), .val (.c (n64 0))]) (.a ⟨[.val (.c (w64 9))], [none, none]⟩) := ex (.nil) (by kernel_rfl)
theorem k558 : Shows Tryz.prog 110 (.a [.val (.c (lF [u 9]))]) (.a ⟨[.val (.c (w64 9))], [none]⟩) := ex (.cons k556 (.cons k557 .nil)) (by kernel_rfl)
theorem k559 : Shows Tryz.prog 102 (.a [.val (.c (lF [u 2])), .val (.c (n64 1))]) (.a ⟨[.val (.c (w64 0))], [none, none]⟩) := ex (.nil) (by kernel_rfl)
theorem k560 : Shows Tryz.prog 102 (.a [.val (.c (lF [u 2])), .val (.c (n64 0))]) (.a ⟨[.val (.c (w64 2))], [none, none]⟩) := ex (.nil) (by kernel_rfl)
theorem k561 : Shows Tryz.prog 110 (.a [.val (.c (lF [u 2]))]) (.a ⟨[.val (.c (w64 2))], [none]⟩) := ex (.cons k559 (.cons k560 .nil)) (by kernel_rfl)
theorem k562 : Shows Tryz.prog 109 (.a [.val (.c (w64 9)), .val (.c (w64 2))]) (.a ⟨[.val (.c (w64 1))], [none, none]⟩) := ex (.nil) (by kernel_rfl)
theorem k563 : Shows Tryz.prog 95 (.a [.val (.c (lF [u 9])), .val (.c (lF [u 2]))]) (.a ⟨[.val (.c (l1))], [none, none]⟩) := ex (.cons k558 (.cons k561 (.cons k562 (.cons k1 .nil)))) (by kernel_rfl)
theorem k564 : Shows Tryz.prog 59 (.a [.val (.agg [bF, lF [u 9]]), .val (.agg [bF, lF [u 2]])]) (.a ⟨[.val (.agg [bF, l1])], [none, none]⟩) := ex (.cons k563 (.cons k3 .nil)) (by kernel_rfl)
theorem k565 : Shows Tryz.prog 57 (.a [.val (.agg [bF, lF [u 2]])]) (.a ⟨[.val (.c (n64 1))], [none]⟩) := ex (.nil) (by kernel_rfl)
theorem k566 : Shows Tryz.prog 84 (.a [.val (.c (lF [u 9])), .val (.c (l1))]) (.a ⟨[.val (.c (n64 1))], [none, none]⟩) := ex (.nil) (by kernel_rfl)
theorem k567 : Shows Tryz.prog 116 (.a [.val (.c (lF [u 9])), .val (.c (w64 1))]) (.a ⟨[.val (.c (lF [u 9])), .val (.c (w64 0))], [none, none]⟩) := ex (.cons k549 .nil) (by kernel_rfl)
theorem k568 : Shows Tryz.prog 111 (.a [.val (.c (lF [u 9])), .val (.c (l1))]) (.a ⟨[.val (.c (lF [u 9])), .val (.c (lF []))], [none, none]⟩) := ex (.cons k566 (.cons k567 (.cons k445 .nil))) (by kernel_rfl)
theorem k569 : Shows Tryz.prog 103 (.a [.val (.agg [bF, lF [u 9]]), .val (.agg [bF, l1])]) (.a ⟨[.val (.agg [bF, lF [u 9]]), .val (.agg [bF, lF []]), .val (.c (n64 0))], [none, none]⟩) := ex (.cons k568 (.cons k550 (.cons k447 .nil))) (by kernel_rfl)
theorem k570 : Shows Tryz.prog 88 (.a [.val (.agg [bF, lF [u 9]]), .val (.agg [bF, l1])]) (.a ⟨[.val (.agg [bF, lF [u 9]])], [none, none]⟩) := ex (.cons k569 .nil) (by kernel_rfl)
theorem k571 : Shows Tryz.prog 84 (.a [.val (.c (lF [u 2])), .val (.c (l1))]) (.a ⟨[.val (.c (n64 1))], [none, none]⟩) := ex (.nil) (by kernel_rfl)
theorem k572 : Shows Tryz.prog 116 (.a [.val (.c (lF [u 2])), .val (.c (w64 1))]) (.a ⟨[.val (.c (lF [u 2])), .val (.c (w64 0))], [none, none]⟩) := ex (.cons k8 .nil) (by kernel_rfl)
theorem k573 : Shows Tryz.prog 111 (.a [.val (.c (lF [u 2])), .val (.c (l1))]) (.a ⟨[.val (.c (lF [u 2])), .val (.c (lF []))], [none, none]⟩) := ex (.cons k571 (.cons k572 (.cons k445 .nil))) (by kernel_rfl)
theorem k574 : Shows Tryz.prog 103 (.a [.val (.agg [bF, lF [u 2]]), .val (.agg [bF, l1])]) (.a ⟨[.val (.agg [bF, lF [u 2]]), .val (.agg [bF, lF []]), .val (.c (n64 0))], [none, none]⟩) := ex (.cons k573 (.cons k9 (.cons k447 .nil))) (by kernel_rfl)
theorem k575 : Shows Tryz.prog 88 (.a [.val (.agg [bF, lF [u 2]]), .val (.agg [bF, l1])]) (.a ⟨[.val (.agg [bF, lF [u 2]])], [none, none]⟩) := ex (.cons k574 .nil) (by kernel_rfl)
theorem k576 : Shows Tryz.prog 50 (.a [.val (.agg [bF, lF [u 9]]), .val (.agg [bF, lF [u 2]])]) (.a ⟨[.val (.agg [bF, lF [u 9], bF, lF [u 2]])], [none, none]⟩) := ex (.cons k564 (.cons k565 (.cons k570 (.cons k575 .nil)))) (by kernel_rfl)
theorem k577 : Shows Tryz.prog 15 (.a [.val (.agg [.v (.int .i8 9), .v (.int .i8 2), .v (.int .u8 0)])]) (.a ⟨[.val (.agg [bF, lF [u 9], bF, lF [u 2]])], [none]⟩) := ex (.cons k551 (.cons k10 (.cons k555 (.cons k576 .nil)))) (by kernel_rfl)
theorem k578 : Shows Tryz.prog 81 (.a [.val (.c (bT)), .val (.c (lF [u 4]))]) (.a ⟨[.val (.agg [bT, lF [u 4]])], [none, none]⟩) := ex (.cons k20 .nil) (by kernel_rfl)
theorem k579 : Shows Tryz.prog 47 (.a [.val (.c (n64 (-4)))]) (.a ⟨[.val (.agg [bT, lF [u 4]])], [none]⟩) := ex (.cons k19 (.cons k578 .nil)) (by kernel_rfl)
theorem k580 : Shows Tryz.prog 17 (.a [.val (.c (n64 (-4)))]) (.a ⟨[.val (.agg [bT, lF [u 4], bF, l1])], [none]⟩) := ex (.cons k579 (.cons k4 .nil)) (by kernel_rfl)
theorem k581 : Shows Tryz.prog 51 (.a [.val (.agg [bT, lF [u 4]]), .val (.agg [bT, lF [u 4]])]) (.a ⟨[.val (.c (bT))], [none, none]⟩) := ex (.nil) (by kernel_rfl)
theorem k582 : Shows Tryz.prog 51 (.a [.val (.agg [bF, l1]), .val (.agg [bF, l1])]) (.a ⟨[.val (.c (bT))], [none, none]⟩) := ex (.nil) (by kernel_rfl)
theorem k583 : Shows Tryz.prog 18 (.a [.val (.agg [bT, lF [u 4], bF, l1]), .val (.agg [bT, lF [u 4], bF, l1])]) (.a ⟨[.val (.c (bT))], [none, none]⟩) := ex (.cons k581 (.cons k582 .nil)) (by kernel_rfl)
theorem k584 : Shows Tryz.prog 51 (.a [.val (.agg [bF, lF [u 9]]), .val (.agg [bF, lF [u 9]])]) (.a ⟨[.val (.c (bT))], [none, none]⟩) := ex (.nil) (by kernel_rfl)
theorem k585 : Shows Tryz.prog 51 (.a [.val (.agg [bF, lF [u 2]]), .val (.agg [bF, lF [u 2]])]) (.a ⟨[.val (.c (bT))], [none, none]⟩) := ex (.nil) (by kernel_rfl)
theorem k586 : Shows Tryz.prog 18 (.a [.val (.agg [bF, lF [u 9], bF, lF [u 2]]), .val (.agg [bF, lF [u 9], bF, lF [u 2]])]) (.a ⟨[.val (.c (bT))], [none, none]⟩) := ex (.cons k584 (.cons k585 .nil)) (by kernel_rfl)
theorem k587 : Shows Tryz.prog 16 (.a [.val (.c (lF [[bT, lF [u 4], bF, l1], [bF, lF [u 9], bF, lF [u 2]]])), .val (.c (lF [[bT, lF [u 4], bF, l1], [bF, lF [u 9], bF, lF [u 2]]]))]) (.a ⟨[.val (.c (bT))], [none, none]⟩) := ex (.cons k583 (.cons k586 .nil)) (by kernel_rfl)
theorem k588 : Shows Tryz.prog 9 (.a [.val (.c (lF [[n64 3], [n64 0]]))]) (.a ⟨[.val (.c (lF [[bF, lF [u 3], bF, l1], [bF, lF [], bF, l1]]))], [none]⟩) := ex (.cons k17 (.cons k449 .nil)) (by kernel_rfl)
theorem k589 : Shows Tryz.prog 51 (.a [.val (.agg [bF, lF [u 3]]), .val (.agg [bF, lF [u 3]])]) (.a ⟨[.val (.c (bT))], [none, none]⟩) := ex (.nil) (by kernel_rfl)
theorem k590 : Shows Tryz.prog 18 (.a [.val (.agg [bF, lF [u 3], bF, l1]), .val (.agg [bF, lF [u 3], bF, l1])]) (.a ⟨[.val (.c (bT))], [none, none]⟩) := ex (.cons k589 (.cons k582 .nil)) (by kernel_rfl)
theorem k591 : Shows Tryz.prog 51 (.a [.val (.agg [bF, lT []]), .val (.agg [bF, lF []])]) (.a ⟨[.val (.c (bT))], [none, none]⟩) := ex (.nil) (by kernel_rfl)
theorem k592 : Shows Tryz.prog 18 (.a [.val (.agg [bF, lT [], bF, l1]), .val (.agg [bF, lF [], bF, l1])]) (.a ⟨[.val (.c (bT))], [none, none]⟩) := ex (.cons k591 (.cons k582 .nil)) (by kernel_rfl)
theorem k593 : Shows Tryz.prog 16 (.a [.val (.c (lF [[bF, lF [u 3], bF, l1], [bF, lT [], bF, l1]])), .val (.c (lF [[bF, lF [u 3], bF, l1], [bF, lF [], bF, l1]]))]) (.a ⟨[.val (.c (bT))], [none, none]⟩) := ex (.cons k590 (.cons k592 .nil)) (by kernel_rfl)
theorem k594 : Shows Tryz.prog 81 (.a [.val (.c (bT)), .val (.c (lF [u 2]))]) (.a ⟨[.val (.agg [bT, lF [u 2]])], [none, none]⟩) := ex (.cons k8 .nil) (by kernel_rfl)
theorem k595 : Shows Tryz.prog 47 (.a [.val (.c (n64 (-2)))]) (.a ⟨[.val (.agg [bT, lF [u 2]])], [none]⟩) := ex (.cons k7 (.cons k594 .nil)) (by kernel_rfl)
theorem k596 : Shows Tryz.prog 17 (.a [.val (.c (n64 (-2)))]) (.a ⟨[.val (.agg [bT, lF [u 2], bF, l1])], [none]⟩) := ex (.cons k595 (.cons k4 .nil)) (by kernel_rfl)
theorem k597 : Shows Tryz.prog 51 (.a [.val (.agg [bT, lF [u 2]]), .val (.agg [bT, lF [u 2]])]) (.a ⟨[.val (.c (bT))], [none, none]⟩) := ex (.nil) (by kernel_rfl)
theorem k598 : Shows Tryz.prog 18 (.a [.val (.agg [bT, lF [u 2], bF, l1]), .val (.agg [bT, lF [u 2], bF, l1])]) (.a ⟨[.val (.c (bT))], [none, none]⟩) := ex (.cons k597 (.cons k582 .nil)) (by kernel_rfl)
theorem k599 : Shows Tryz.prog 81 (.a [.val (.c (bT)), .val (.c (lF [u 5]))]) (.a ⟨[.val (.agg [bT, lF [u 5]])], [none, none]⟩) := ex (.cons k27 .nil) (by kernel_rfl)
theorem k600 : Shows Tryz.prog 47 (.a [.val (.c (n64 (-5)))]) (.a ⟨[.val (.agg [bT, lF [u 5]])], [none]⟩) := ex (.cons k26 (.cons k599 .nil)) (by kernel_rfl)
theorem k601 : Shows Tryz.prog 17 (.a [.val (.c (n64 (-5)))]) (.a ⟨[.val (.agg [bT, lF [u 5], bF, l1])], [none]⟩) := ex (.cons k600 (.cons k4 .nil)) (by kernel_rfl)
theorem k602 : Shows Tryz.prog 9 (.a [.val (.c (lF [[n64 (-2)], [n64 (-5)], [n64 1]]))]) (.a ⟨[.val (.c (lF [[bT, lF [u 2], bF, l1], [bT, lF [u 5], bF, l1], [bF, l1, bF, l1]]))], [none]⟩) := ex (.cons k596 (.cons k601 (.cons k5 .nil))) (by kernel_rfl)
theorem k603 : Shows Tryz.prog 51 (.a [.val (.agg [bT, lF [u 5]]), .val (.agg [bT, lF [u 5]])]) (.a ⟨[.val (.c (bT))], [none, none]⟩) := ex (.nil) (by kernel_rfl)
theorem k604 : Shows Tryz.prog 18 (.a [.val (.agg [bT, lF [u 5], bF, l1]), .val (.agg [bT, lF [u 5], bF, l1])]) (.a ⟨[.val (.c (bT))], [none, none]⟩) := ex (.cons k603 (.cons k582 .nil)) (by kernel_rfl)
theorem k605 : Shows Tryz.prog 18 (.a [.val (.agg [bF, l1, bF, l1]), .val (.agg [bF, l1, bF, l1])]) (.a ⟨[.val (.c (bT))], [none, none]⟩) := ex (.cons k582 .nil) (by kernel_rfl)
theorem k606 : Shows Tryz.prog 16 (.a [.val (.c (lF [[bT, lF [u 2], bF, l1], [bT, lF [u 5], bF, l1], [bF, l1, bF, l1]])), .val (.c (lF [[bT, lF [u 2], bF, l1], [bT, lF [u 5], bF, l1], [bF, l1, bF, l1]]))]) (.a ⟨[.val (.c (bT))], [none, none]⟩) := ex (.cons k598 (.cons k604 (.cons k605 .nil))) (by kernel_rfl)
theorem k607 : Shows Tryz.prog 9 (.a [.val (.c (lF [[n64 (-2)], [n64 1]]))]) (.a ⟨[.val (.c (lF [[bT, lF [u 2], bF, l1], [bF, l1, bF, l1]]))], [none]⟩) := ex (.cons k596 (.cons k5 .nil)) (by kernel_rfl)
theorem k608 : Shows Tryz.prog 16 (.a [.val (.c (lF [[bT, lF [u 2], bF, l1], [bF, l1, bF, l1]])), .val (.c (lF [[bT, lF [u 2], bF, l1], [bF, l1, bF, l1]]))]) (.a ⟨[.val (.c (bT))], [none, none]⟩) := ex (.cons k598 (.cons k605 .nil)) (by kernel_rfl)
theorem k609 : Shows Tryz.prog 7 (.a [.val (.c (lF [[n64 2], [n64 4], [n64 1], [n64 2]]))]) (.a ⟨[.val (.c (lF [[lF [[bF, lF [u 2], bF, l1], [bF, lF [u 4], bF, l1]]], [lF [[bF, l1, bF, l1], [bF, lF [u 2], bF, l1]]]]))], [none]⟩) := ex (.cons k11 (.cons k23 (.cons k5 .nil))) (by kernel_rfl)
theorem k610 : Shows Tryz.prog 31 (.h ⟨[.c (.t (lF [[lF [[bF, lF [u 2], bF, l1], [bF, lF [u 4], bF, l1]]], [lF [[bF, l1, bF, l1], [bF, lF [u 2], bF, l1]]]])), .c (.t (.v (.func (.func 26) #[] #[])))], []⟩) (.h ⟨[.c (.sl 0 0 2 false)], [some (.var [.sl 1 0 2 false, .sl 2 0 2 false]), some (.rows 4 [[bF, lF [u 2], bF, l1], [bF, lF [u 4], bF, l1]] true false), some (.rows 4 [[bF, l1, bF, l1], [bF, lF [u 2], bF, l1]] true false)]⟩) := ex (.cons k252 (.cons k39 .nil)) (by kernel_rfl)
theorem k611 : Shows Tryz.prog 25 (.h ⟨[.c (.t (lF [[lF [[bF, lF [u 2], bF, l1], [bF, lF [u 4], bF, l1]]], [lF [[bF, l1, bF, l1], [bF, lF [u 2], bF, l1]]]]))], []⟩) (.h ⟨[.c (.t (n64 2))], []⟩) := ex (.nil) (by kernel_rfl)
theorem k612 : Shows Tryz.prog 33 (.h ⟨[.c (.sl 0 0 2 false), .c (.t (n64 0)), .c (.t (n64 0))], [some (.var [.sl 1 0 2 false, .sl 2 0 2 false]), some (.rows 4 [[bF, lF [u 2], bF, l1], [bF, lF [u 4], bF, l1]] true false), some (.rows 4 [[bF, l1, bF, l1], [bF, lF [u 2], bF, l1]] true false)]⟩) (.h ⟨[.c (.t (n64 0))], [some (.var [.sl 1 0 2 false, .sl 2 0 2 false]), some (.rows 4 [[bF, lF [u 2], bF, l1], [bF, lF [u 4], bF, l1]] true false), some (.rows 4 [[bF, l1, bF, l1], [bF, lF [u 2], bF, l1]] true false)]⟩) := ex (.cons k95 .nil) (by kernel_rfl)
theorem k613 : Shows Tryz.prog 62 (.a [.val (.agg [bF, lF [u 2], bF, l1]), .ref [bF, l1, bF, lF [u 2]]]) (.a ⟨[.val (.agg [bF, l1, bF, l1])], [none, some (.var [.t (bF), .t (l1), .t (bF), .t (lF [u 2])])]⟩) := ex (.cons k529 .nil) (by kernel_rfl)
theorem k614 : Shows Tryz.prog 91 (.a [.val (.c (lF [u 4]))]) (.a ⟨[.val (.c (w64 4))], [none]⟩) := ex (.nil) (by kernel_rfl)
theorem k615 : Shows Tryz.prog 55 (.a [.val (.agg [bF, lF [u 4]]), .val (.agg [bF, lF [u 2]])]) (.a ⟨[.val (.agg [bF, lF [u 2]])], [none, none]⟩) := ex (.cons k230 (.cons k266 (.cons k112 (.cons k152 (.cons k614 (.cons k160 (.cons k162 (.cons k153 .nil)))))))) (by kernel_rfl)
theorem k616 : Shows Tryz.prog 100 (.a [.val (.c (lF [u 4])), .val (.c (lF [u 2]))]) (.a ⟨[.val (.c (n64 1))], [none, none]⟩) := ex (.nil) (by kernel_rfl)
theorem k617 : Shows Tryz.prog 104 (.a [.val (.c (lF [u 4])), .val (.c (w64 2))]) (.a ⟨[.val (.c (lF [u 2])), .val (.c (w64 0))], [none, none]⟩) := ex (.cons k112 .nil) (by kernel_rfl)
theorem k618 : Shows Tryz.prog 94 (.a [.val (.c (lF [u 4])), .val (.c (lF [u 2]))]) (.a ⟨[.val (.c (lF [u 2])), .val (.c (lF []))], [none, none]⟩) := ex (.cons k230 (.cons k112 (.cons k616 (.cons k617 (.cons k171 .nil))))) (by kernel_rfl)
theorem k619 : Shows Tryz.prog 96 (.a [.val (.agg [bF, lF [u 4]]), .val (.agg [bF, lF [u 2]])]) (.a ⟨[.val (.agg [bF, lF [u 2]]), .val (.agg [bF, lT []]), .val (.c (n64 0))], [none, none]⟩) := ex (.cons k112 (.cons k618 (.cons k153 (.cons k89 .nil)))) (by kernel_rfl)
theorem k620 : Shows Tryz.prog 67 (.a [.val (.agg [bF, lF [u 4]]), .val (.agg [bF, lF [u 2]])]) (.a ⟨[.val (.agg [bF, lF [u 2], bF, l1])], [none, none]⟩) := ex (.cons k60 (.cons k615 (.cons k619 (.cons k173 .nil)))) (by kernel_rfl)
theorem k621 : Shows Tryz.prog 35 (.a [.val (.agg [bF, l1, bF, lF [u 2]]), .val (.agg [bF, lF [u 4], bF, l1])]) (.a ⟨[.val (.agg [bF, lF [u 2], bF, l1])], [none, none]⟩) := ex (.cons k50 (.cons k620 (.cons k61 (.cons k56 .nil)))) (by kernel_rfl)
theorem k622 : Shows Tryz.prog 62 (.a [.val (.agg [bF, lF [u 4], bF, l1]), .ref [bF, l1, bF, lF [u 2]]]) (.a ⟨[.val (.agg [bF, lF [u 2], bF, l1])], [none, some (.var [.t (bF), .t (l1), .t (bF), .t (lF [u 2])])]⟩) := ex (.cons k621 .nil) (by kernel_rfl)
theorem k623 : Shows Tryz.prog 61 (.a [.val (.c (lF [[bF, lF [u 2], bF, l1], [bF, lF [u 4], bF, l1]])), .clo 62 [(2, (0, 0))], .gh [bF, l1, bF, lF [u 2]]]) (.a ⟨[.own 4 [[bF, l1, bF, l1], [bF, lF [u 2], bF, l1]]], [none, none, some (.var [.t (bF), .t (l1), .t (bF), .t (lF [u 2])])]⟩) := ex (.cons k613 (.cons k622 .nil)) (by kernel_rfl)
theorem k624 : Shows Tryz.prog 36 (.h ⟨[.c (.sl 0 0 0 false), .c (.sl 1 0 2 false), .c (.t (n64 0))], [some (.var [.sl 1 0 2 false, .sl 2 0 2 false]), some (.rows 4 [[bF, l1, bF, l1], [bF, lF [u 2], bF, l1]] true false), some (.rows 4 [[bF, l1, bF, l1], [bF, lF [u 2], bF, l1]] true false)]⟩) (.h ⟨[], [some (.var [.sl 1 0 2 false, .sl 2 0 2 false]), some (.rows 4 [[bF, l1, bF, l1], [bF, lF [u 2], bF, l1]] true false), some (.rows 4 [[bF, l1, bF, l1], [bF, lF [u 2], bF, l1]] true false)]⟩) := ex (.nil) (by kernel_rfl)
theorem k625 : Shows Tryz.prog 70 (.a [.bor 4 [[bF, l1, bF, l1], [bF, lF [u 2], bF, l1]], .val (.agg [bF, l1, bF, l1]), .bor 4 [[bF, l1, bF, l1], [bF, lF [u 2], bF, l1]]]) (.a ⟨[], [some (.rows 4 [[bF, lT [], bF, l1], [bF, lT [], bF, l1]] false false), none, some (.rows 4 [[bF, l1, bF, l1], [bF, lF [u 2], bF, l1]] false false)]⟩) := ex (.cons k46 (.cons k57 (.cons k296 (.cons k95 (.cons k62 (.cons k216 .nil)))))) (by kernel_rfl)
theorem k626 : Shows Tryz.prog 36 (.h ⟨[.c (.sl 0 1 1 false), .c (.sl 1 0 2 false), .c (.t (n64 0))], [some (.var [.sl 1 0 2 false, .sl 2 0 2 false]), some (.rows 4 [[bF, l1, bF, l1], [bF, lF [u 2], bF, l1]] true false), some (.rows 4 [[bF, l1, bF, l1], [bF, lF [u 2], bF, l1]] true false)]⟩) (.h ⟨[], [some (.var [.sl 1 0 2 false, .sl 2 0 2 false]), some (.rows 4 [[bF, l1, bF, l1], [bF, lF [u 2], bF, l1]] true false), some (.rows 4 [[bF, lT [], bF, l1], [bF, lT [], bF, l1]] true false)]⟩) := ex (.cons k46 (.cons k289 (.cons k625 .nil))) (by kernel_rfl)
theorem k627 : Shows Tryz.prog 33 (.h ⟨[.c (.sl 0 0 2 false), .c (.t (n64 1)), .c (.t (n64 1))], [some (.var [.sl 1 0 2 false, .sl 2 0 2 false]), some (.rows 4 [[bF, l1, bF, l1], [bF, lF [u 2], bF, l1]] true false), some (.rows 4 [[bF, lT [], bF, l1], [bF, lT [], bF, l1]] true false)]⟩) (.h ⟨[.c (.t (n64 (-1)))], [some (.var [.sl 1 0 2 false, .sl 2 0 2 false]), some (.rows 4 [[bF, l1, bF, l1], [bF, lF [u 2], bF, l1]] true false), some (.rows 4 [[bF, lT [], bF, l1], [bF, lT [], bF, l1]] true false)]⟩) := ex (.cons k208 .nil) (by kernel_rfl)
theorem k628 : Shows Tryz.prog 27 (.h ⟨[.c (.t (lF [[lF [[bF, lF [u 2], bF, l1], [bF, lF [u 4], bF, l1]]], [lF [[bF, l1, bF, l1], [bF, lF [u 2], bF, l1]]]]))], []⟩) (.h ⟨[.c (.sl 0 0 1 false), .c (.sl 1 0 1 false)], [some (.var [.sl 2 0 2 false, .sl 3 0 2 false]), some (.rows 1 [[n64 0]] true false), some (.rows 4 [[bF, l1, bF, l1], [bF, lF [u 2], bF, l1]] true false), some (.rows 4 [[bF, lT [], bF, l1], [bF, lT [], bF, l1]] true false)]⟩) := ex (.cons k610 (.cons k611 (.cons k612 (.cons k525 (.cons k623 (.cons k624 (.cons k626 (.cons k627 .nil)))))))) (by kernel_rfl)
theorem k629 : Shows Tryz.prog 20 (.a [.val (.c (lF [[lF [[bF, lF [u 2], bF, l1], [bF, lF [u 4], bF, l1]]], [lF [[bF, l1, bF, l1], [bF, lF [u 2], bF, l1]]]]))]) (.a ⟨[.val (.c (lF [[lF [[bF, l1, bF, l1], [bF, lF [u 2], bF, l1]]]]))], [none]⟩) := ex (.cons k628 .nil) (by kernel_rfl)
theorem k630 : Shows Tryz.prog 18 (.a [.val (.agg [bF, lF [u 2], bF, l1]), .val (.agg [bF, lF [u 2], bF, l1])]) (.a ⟨[.val (.c (bT))], [none, none]⟩) := ex (.cons k585 (.cons k582 .nil)) (by kernel_rfl)
theorem k631 : Shows Tryz.prog 16 (.a [.val (.c (lF [[bF, l1, bF, l1], [bF, lF [u 2], bF, l1]])), .val (.c (lF [[bF, l1, bF, l1], [bF, lF [u 2], bF, l1]]))]) (.a ⟨[.val (.c (bT))], [none, none]⟩) := ex (.cons k605 (.cons k630 .nil)) (by kernel_rfl)
theorem k632 : Shows Tryz.prog 19 (.a [.val (.c (lF [[lF [[bF, l1, bF, l1], [bF, lF [u 2], bF, l1]]]])), .val (.c (lF [[lF [[bF, l1, bF, l1], [bF, lF [u 2], bF, l1]]]]))]) (.a ⟨[.val (.c (bT))], [none, none]⟩) := ex (.cons k631 .nil) (by kernel_rfl)
theorem k633 : Shows Tryz.prog 31 (.h ⟨[.c (.t (lF [[lF [[bF, l1, bF, l1], [bF, lF [u 2], bF, l1]]]])), .c (.t (.v (.func (.func 26) #[] #[])))], []⟩) (.h ⟨[.c (.sl 0 0 1 false)], [some (.var [.sl 1 0 2 false]), some (.rows 4 [[bF, l1, bF, l1], [bF, lF [u 2], bF, l1]] true false)]⟩) := ex (.cons k39 .nil) (by kernel_rfl)
theorem k634 : Shows Tryz.prog 33 (.h ⟨[.c (.sl 0 0 1 false), .c (.t (n64 0)), .c (.t (n64 0))], [some (.var [.sl 1 0 2 false]), some (.rows 4 [[bF, l1, bF, l1], [bF, lF [u 2], bF, l1]] true false)]⟩) (.h ⟨[.c (.t (n64 0))], [some (.var [.sl 1 0 2 false]), some (.rows 4 [[bF, l1, bF, l1], [bF, lF [u 2], bF, l1]] true false)]⟩) := ex (.cons k46 .nil) (by kernel_rfl)
theorem k635 : Shows Tryz.prog 61 (.a [.val (.c (lF [[bF, l1, bF, l1], [bF, lF [u 2], bF, l1]])), .clo 62 [(2, (0, 0))], .gh [bF, l1, bF, l1]]) (.a ⟨[.own 4 [[bF, l1, bF, l1], [bF, lF [u 2], bF, l1]]], [none, none, some (.var [.t (bF), .t (l1), .t (bF), .t (l1)])]⟩) := ex (.cons k58 (.cons k63 .nil)) (by kernel_rfl)
theorem k636 : Shows Tryz.prog 36 (.h ⟨[.c (.sl 0 0 0 false), .c (.sl 1 0 2 false), .c (.t (n64 0))], [some (.var [.sl 1 0 2 false]), some (.rows 4 [[bF, l1, bF, l1], [bF, lF [u 2], bF, l1]] true false)]⟩) (.h ⟨[], [some (.var [.sl 1 0 2 false]), some (.rows 4 [[bF, l1, bF, l1], [bF, lF [u 2], bF, l1]] true false)]⟩) := ex (.nil) (by kernel_rfl)
theorem k637 : Shows Tryz.prog 36 (.h ⟨[.c (.sl 0 1 0 false), .c (.sl 1 0 2 false), .c (.t (n64 0))], [some (.var [.sl 1 0 2 false]), some (.rows 4 [[bF, l1, bF, l1], [bF, lF [u 2], bF, l1]] true false)]⟩) (.h ⟨[], [some (.var [.sl 1 0 2 false]), some (.rows 4 [[bF, l1, bF, l1], [bF, lF [u 2], bF, l1]] true false)]⟩) := ex (.nil) (by kernel_rfl)
theorem k638 : Shows Tryz.prog 33 (.h ⟨[.c (.sl 0 0 1 false), .c (.t (n64 1)), .c (.t (n64 1))], [some (.var [.sl 1 0 2 false]), some (.rows 4 [[bF, l1, bF, l1], [bF, lF [u 2], bF, l1]] true false)]⟩) (.h ⟨[.c (.t (n64 (-1)))], [some (.var [.sl 1 0 2 false]), some (.rows 4 [[bF, l1, bF, l1], [bF, lF [u 2], bF, l1]] true false)]⟩) := ex (.nil) (by kernel_rfl)
theorem k639 : Shows Tryz.prog 27 (.h ⟨[.c (.t (lF [[lF [[bF, l1, bF, l1], [bF, lF [u 2], bF, l1]]]]))], []⟩) (.h ⟨[.c (.sl 0 0 1 false), .c (.sl 1 0 1 false)], [some (.var [.sl 2 0 2 false]), some (.rows 1 [[n64 0]] true false), some (.rows 4 [[bF, l1, bF, l1], [bF, lF [u 2], bF, l1]] true false)]⟩) := ex (.cons k633 (.cons k306 (.cons k634 (.cons k48 (.cons k635 (.cons k636 (.cons k637 (.cons k638 .nil)))))))) (by kernel_rfl)
theorem k640 : Shows Tryz.prog 63 (.a [.val (.c (lF [[n64 0]])), .val (.c (n64 0))]) (.a ⟨[.val (.c (n64 0))], [none, none]⟩) := ex (.nil) (by kernel_rfl)
theorem k641 : Shows Tryz.prog 28 (.a [.val (.c (lF [[n64 0]])), .val (.c (n64 0))]) (.a ⟨[.val (.c (bT))], [none, none]⟩) := ex (.cons k640 .nil) (by kernel_rfl)
theorem k642 : Shows Tryz.prog 63 (.a [.val (.c (lF [[n64 0]])), .val (.c (n64 1))]) (.a ⟨[.val (.c (n64 (-1)))], [none, none]⟩) := ex (.nil) (by kernel_rfl)
theorem k643 : Shows Tryz.prog 28 (.a [.val (.c (lF [[n64 0]])), .val (.c (n64 1))]) (.a ⟨[.val (.c (bF))], [none, none]⟩) := ex (.cons k642 .nil) (by kernel_rfl)
theorem k644 : Shows Tryz.prog 21 (.a [.val (.c (lF [[lF [[bF, l1, bF, l1], [bF, lF [u 2], bF, l1]]]]))]) (.a ⟨[.val (.c (lF [[lF [[bT, lF [u 2], bF, l1], [bF, l1, bF, l1]]]]))], [none]⟩) := ex (.cons k639 (.cons k306 (.cons k641 (.cons k643 (.cons k247 (.cons k326 (.cons k210 .nil))))))) (by kernel_rfl)
theorem k645 : Shows Tryz.prog 7 (.a [.val (.c (lF [[n64 (-2)], [n64 1]]))]) (.a ⟨[.val (.c (lF [[lF [[bT, lF [u 2], bF, l1], [bF, l1, bF, l1]]]]))], [none]⟩) := ex (.cons k596 (.cons k5 .nil)) (by kernel_rfl)
theorem k646 : Shows Tryz.prog 19 (.a [.val (.c (lF [[lF [[bT, lF [u 2], bF, l1], [bF, l1, bF, l1]]]])), .val (.c (lF [[lF [[bT, lF [u 2], bF, l1], [bF, l1, bF, l1]]]]))]) (.a ⟨[.val (.c (bT))], [none, none]⟩) := ex (.cons k608 .nil) (by kernel_rfl)
theorem k647 : Shows Tryz.prog 4 (.a []) (.a ⟨[.val (.c (bT))], []⟩) := ex (.cons k24 (.cons k37 (.cons k248 (.cons k249 (.cons k250 (.cons k303 (.cons k304 (.cons k305 (.cons k322 (.cons k334 (.cons k376 (.cons k443 (.cons k450 (.cons k501 (.cons k502 (.cons k543 (.cons k546 (.cons k577 (.cons k580 (.cons k587 (.cons k588 (.cons k593 (.cons k596 (.cons k598 (.cons k602 (.cons k606 (.cons k607 (.cons k608 (.cons k609 (.cons k629 (.cons k632 (.cons k644 (.cons k645 (.cons k646 .nil)))))))))))))))))))))))))))))))))) (by kernel_rfl)
end Go.Proofs.YtlhcladkbhngoaaGreat.Mem
end
