/-
  A part of the proof: GabsFrame, LawCanon24, IvlD24, IvlE24, IvlF24, IvlG24, IvlH24, LawIvM24, LawIvC24, GabsMemo, Memo24A, Memo24B, Memo24C, Memo24D, Memo24E.
-/
import Derived.Test.YtpgbejgdmgpfjaaGreatM11
import Derived.WideKeyArgs
import Derived.OpenShut
import Derived.WalkKit
set_option maxHeartbeats 0
set_option maxRecDepth 100000
set_option linter.unusedVariables false
set_option linter.unusedSimpArgs false
set_option linter.unusedSectionVars false
section
namespace Go.Abs
open Go.RowKit Go.WideShapes Go.ChangeShapes Go.ChangeAt
inductive Shape where
 | int (k : IntKind)
 | bool
 | slice (s : Shape)
 | struct (l : List Shape)
 | arr (n : Nat) (s : Shape)
mutual
def Shape.size : Shape -> Nat
 | .int _ => 1
 | .bool => 1
 | .slice _ => 1
 | .struct l => sizeL l
 | .arr n s => n * s.size
def sizeL : List Shape -> Nat
 | [] => 0
 | s :: l => s.size + sizeL l
end
mutual
def Shape.fits (P : Program) (t : TypeId) : Shape -> Bool
 | .int k => match P.underlying t with
  | some (.int k') => decide (k' = k)
  | _ => false
 | .bool => match P.underlying t with
  | some .bool => true
  | _ => false
 | .slice s => match P.underlying t with
  | some (.slice e) => P.cellsOf e == s.size && decide (0 < s.size) && s.fits P e
  | _ => false
 | .struct l => match P.underlying t with
  | some (.struct fs) => P.cellsOf t == sizeL l && fitsL P 0 fs.toList l
  | _ => false
 | .arr n s => match P.underlying t with
  | some (.array m e) => m == n && P.cellsOf t == n * s.size && P.cellsOf e == s.size && s.fits P e
  | _ => false
def fitsL (P : Program) (off : Nat) : List Field -> List Shape -> Bool
 | [], [] => true
 | f :: fs, s :: l => f.offset == off && P.cellsOf f.type == s.size && s.fits P f.type && fitsL P (off + s.size) fs l
 | _, _ => false
end
def okN (p : List Tree -> Prop) : Nat -> List Tree -> Prop
 | 0, ts => ts = []
 | n + 1, ts => ∃ a b, ts = a ++ b /\ p a /\ okN p n b
mutual
def Shape.ok : Shape -> List Tree -> Prop
 | .int k, ts => ∃ n, ts = [.v (.int k n)] /\ (Lit.int k n).wf = true
 | .bool, ts => ∃ b, ts = [.v (.bool b)]
 | .slice s, ts => ∃ cp rows, ts = [.lst cp rows] /\ rows.length < 2 ^ 63 /\ ∀ r ∈ rows, s.ok r
 | .struct l, ts => okL l ts
 | .arr n s, ts => okN s.ok n ts
def okL : List Shape -> List Tree -> Prop
 | [], ts => ts = []
 | s :: l, ts => ∃ a b, ts = a ++ b /\ s.ok a /\ okL l b
end
theorem okN_len {p : List Tree -> Prop} {m : Nat} (hp : ∀ ts, p ts -> ts.length = m) : ∀ (n : Nat) (ts : List Tree), okN p n ts -> ts.length = n * m
 | 0, ts, h => by rw [show ts = [] from h]; simp
 | n + 1, ts, ⟨a, b, h1, h2, h3⟩ => by rw [h1, List.length_append, hp a h2, okN_len hp n b h3, Nat.succ_mul]; omega
mutual
theorem Shape.ok_len : ∀ (s : Shape) (ts : List Tree), s.ok ts -> ts.length = s.size
 | .int k, ts, h => by obtain ⟨n, rfl, _⟩ := h; rfl
 | .bool, ts, h => by obtain ⟨n, rfl⟩ := h; rfl
 | .slice s, ts, h => by obtain ⟨_, _, rfl, _⟩ := h; rfl
 | .struct l, ts, h => okL_len l ts h
 | .arr n s, ts, h => okN_len (fun ts h => s.ok_len ts h) n ts h
theorem okL_len : ∀ (l : List Shape) (ts : List Tree), okL l ts -> ts.length = sizeL l
 | [], ts, h => by rw [show ts = [] from h]; rfl
 | s :: l, ts, h => by
  obtain ⟨a, b, h1, h2, h3⟩ := h
  rw [h1, List.length_append, s.ok_len a h2, okL_len l b h3]; rfl
end
section
variable {H : Type} {enc : TypeId × Value -> H} {P : Program} {w : World} {sp : Nat -> Bool} {hd : Bool}
def TRepL (w : World) (ts : List Tree) (cs : List Value) : Prop := ts.length = cs.length /\ ∀ (i : Nat) (t : Tree) (v : Value), ts[i]? = some t -> cs[i]? = some v -> TRep (old w) w t v
theorem TRepL.append {a b : List Tree} {c d : List Value} (h1 : TRepL w a c) (h2 : TRepL w b d) : TRepL w (a ++ b) (c ++ d) := by
 refine ⟨by rw [List.length_append, List.length_append, h1.1, h2.1], fun i t v ht hv => ?_⟩
 rcases Nat.lt_or_ge i a.length with h | h
 ·rw [List.getElem?_append_left h] at ht
  rw [List.getElem?_append_left (by rw [<- h1.1]; exact h)] at hv
  exact h1.2 i t v ht hv
 ·rw [List.getElem?_append_right h] at ht
  rw [List.getElem?_append_right (by rw [<- h1.1]; exact h), <- h1.1] at hv
  exact h2.2 _ t v ht hv
theorem TRepL.one {t : Tree} {v : Value} (h : TRep (old w) w t v) : TRepL w [t] [v] := by
 refine ⟨rfl, fun i t' v' ht hv => ?_⟩
 cases i with
 | zero => simp at ht hv; subst ht hv; exact h
 | succ i => simp at ht
def Read (enc : TypeId × Value -> H) (P : Program) (w : World) (sp : Nat -> Bool) (hd : Bool) (s : Shape) : Prop :=
 ∀ (t : TypeId), s.fits P t = true -> ∀ (n : Nat) (cs : List Value) (x : DataW H × List MemPlace), DataW.trod enc P w 0 sp hd n t cs = some x -> ∃ ts, s.ok ts /\ TRepL w ts cs
theorem row_split {cs : List Value} (i m : Nat) : cs.drop i = (cs.drop i).take m ++ cs.drop (i + m) := by
 rw [<- List.drop_drop, List.take_append_drop]
theorem readL : ∀ (l : List Shape), (∀ s ∈ l, Read enc P w sp hd s) -> ∀ (fs : List Field) (off : Nat), fitsL P off fs l = true -> ∀ (n : Nat) (cs : List Value), cs.length = off + sizeL l ->
  (∀ f ∈ fs, ∃ x, DataW.trod enc P w 0 sp hd n f.type ((cs.drop f.offset).take (P.cellsOf f.type)) = some x) -> ∃ ts, okL l ts /\ TRepL w ts (cs.drop off)
 | [], hl, [], off, hf, n, cs, hn, hx => by
  refine ⟨[], rfl, ?_⟩
  rw [List.drop_of_length_le (by rw [hn]; simp [sizeL])]
  exact ⟨rfl, fun i t v h => by simp at h⟩
 | [], hl, f :: fs, off, hf, n, cs, hn, hx => by simp [fitsL] at hf
 | s :: l, hl, [], off, hf, n, cs, hn, hx => by simp [fitsL] at hf
 | s :: l, hl, f :: fs, off, hf, n, cs, hn, hx => by
  simp only [fitsL, Bool.and_eq_true, beq_iff_eq] at hf
  obtain ⟨⟨⟨h1, h2⟩, h3⟩, h4⟩ := hf
  obtain ⟨x, hx1⟩ := hx f (List.mem_cons_self ..)
  rw [h1, h2] at hx1
  obtain ⟨a, ha, hra⟩ := hl s (List.mem_cons_self ..) f.type h3 n _ x hx1
  obtain ⟨b, hb, hrb⟩ := readL l (fun s' hs' => hl s' (List.mem_cons_of_mem _ hs')) fs (off + s.size) h4 n cs (by rw [hn, sizeL]; omega) (fun f' hf' => hx f' (List.mem_cons_of_mem _ hf'))
  refine ⟨a ++ b, ⟨a, b, rfl, ha, hb⟩, ?_⟩
  rw [row_split off s.size]
  exact hra.append hrb
theorem readN {s : Shape} (hs : Read enc P w sp hd s) {e : TypeId} (he : s.fits P e = true) : ∀ (m i : Nat) (n : Nat) (cs : List Value), cs.length = (i + m) * s.size ->
  (∀ j, j < m -> ∃ x, DataW.trod enc P w 0 sp hd n e ((cs.drop ((i + j) * s.size)).take s.size) = some x) -> ∃ ts, okN s.ok m ts /\ TRepL w ts (cs.drop (i * s.size))
 | 0, i, n, cs, hn, hx => by
  refine ⟨[], rfl, ?_⟩
  rw [List.drop_of_length_le (by rw [hn]; simp)]
  exact ⟨rfl, fun i t v h => by simp at h⟩
 | m + 1, i, n, cs, hn, hx => by
  obtain ⟨x, hx1⟩ := hx 0 (by omega)
  rw [Nat.add_zero] at hx1
  obtain ⟨a, ha, hra⟩ := hs e he n _ x hx1
  obtain ⟨b, hb, hrb⟩ := readN hs he m (i + 1) n cs (by rw [hn]; congr 1; omega) (fun j hj => by
   have := hx (j + 1) (by omega)
   rwa [show i + (j + 1) = i + 1 + j by omega] at this)
  refine ⟨a ++ b, ⟨a, b, rfl, ha, hb⟩, ?_⟩
  rw [row_split (i * s.size) s.size]
  rw [Nat.succ_mul] at hrb
  exact hra.append hrb
theorem add_none (b o n : Nat) : (⟨b, o, none⟩ : Addr).add n = ⟨b, o + n, none⟩ := by
 unfold Addr.add
 split
 ·rename_i h; subst h; rfl
 ·rfl
theorem wf_one {k : IntKind} {n : Int} : one (.int k n) := by intro l; exact ⟨by simp, by simp⟩
theorem Shape.read : ∀ (s : Shape), Read enc P w sp hd s
  | .int k => fun t hf n cs x hx => by
    have hu : P.underlying t = some (.int k) := by
      unfold Shape.fits at hf
      split at hf
      · rename_i k' h; rw [h, of_decide_eq_true hf]
      · cases hf
    obtain ⟨m, rfl, _, hw⟩ := DataW.trod_int hu hx
    exact ⟨_, ⟨m, rfl, hw⟩, .one (.v _ wf_one)⟩
  | .bool => fun t hf n cs x hx => by
    have hu : P.underlying t = some .bool := by
      unfold Shape.fits at hf
      split at hf
      · rename_i h; exact h
      · cases hf
    obtain ⟨b, rfl, _⟩ := DataW.trod_bool hu hx
    exact ⟨_, ⟨b, rfl⟩, .one (.v _ (by intro l; exact ⟨by simp, by simp⟩))⟩
  | .struct l => fun t hf n cs x hx => by
    unfold Shape.fits at hf
    split at hf
    · rename_i fs hu
      simp only [Bool.and_eq_true, beq_iff_eq] at hf
      obtain ⟨xs, n', rfl, _, hl, hxl, hfs⟩ := DataW.trod_struct hu hx
      obtain ⟨ts, h1, h2⟩ := readL l (fun s hs => Shape.read s) fs.toList 0 hf.2 n' cs (by rw [hl, hf.1]; omega) (fun f hfm => by
        obtain ⟨i, hi, hfi⟩ := List.mem_iff_getElem.1 hfm
        have hi' : i < fs.size := by simpa using hi
        have hg : fs[i]? = some f := by rw [Array.getElem?_eq_getElem hi']; simpa using hfi
        have := hfs i f hg
        have hxi : i < xs.length := by rw [hxl]; exact hi'
        rw [List.getElem?_eq_getElem hxi] at this
        exact ⟨_, this⟩)
      exact ⟨ts, h1, by simpa using h2⟩
    · cases hf
  | .arr m s => fun t hf n cs x hx => by
    unfold Shape.fits at hf
    split at hf
    · rename_i m' e hu
      simp only [Bool.and_eq_true, beq_iff_eq] at hf
      obtain ⟨⟨⟨rfl, h1⟩, h2⟩, h3⟩ := hf
      cases n with
      | zero => simp [DataW.trod] at hx
      | succ n =>
        unfold DataW.trod at hx
        rw [hu] at hx
        simp only at hx
        split at hx
        · rename_i hl
          obtain ⟨xs, hxs, _⟩ := Option.map_eq_some_iff.1 hx
          obtain ⟨ts, h4, h5⟩ := readN (Shape.read s) h3 m' 0 n cs (by rw [hl, h1, Nat.zero_add]) (fun j hj => by
            have := mapM_some_get hxs j j (by simp [hj])
            have hlen := mapM_some_length hxs
            rw [List.length_range] at hlen
            rw [List.getElem?_eq_getElem (by omega)] at this
            rw [h2] at this
            rw [Nat.zero_add]
            exact ⟨_, this⟩)
          exact ⟨ts, h4, by simpa using h5⟩
        · cases hx
    · cases hf
  | .slice s => fun t hf n cs x hx => by
    unfold Shape.fits at hf
    split at hf
    · rename_i e hu
      simp only [Bool.and_eq_true, beq_iff_eq, decide_eq_true_eq] at hf
      obtain ⟨⟨h1, h2⟩, h3⟩ := hf
      rcases DataW.trod_slice hu hx with ⟨rfl, _⟩ | ⟨a, len, cap, elems, rest, n', rfl, rfl, _, _, hlc, hcap, hel, hread, _, _⟩
      · refine ⟨[.lst false []], ⟨false, [], rfl, by simp, by simp⟩, .one (.lst false [] none 0 0 0 0 (fun _ _ => default) (by simp) (by omega) (by simp) (by simp) (by simp) (by simp) (by simp) (fun i j t ht => by simp [at2] at ht) (fun i j t ht => by simp [at2] at ht))⟩
      · have hm : maxLen = 2 ^ 63 - 1 := rfl
        have hrow : ∀ i, i < len -> ∃ ts css, s.ok ts /\ TRepL w ts css /\ w.cells? 0 (a.add (i * s.size)) s.size = some css := fun i hi => by
          have hr := hread i hi
          rw [List.getElem?_eq_getElem (by omega), h1] at hr
          obtain ⟨css, hc, hx2⟩ := Option.bind_eq_some_iff.1 hr
          obtain ⟨ts, h4, h5⟩ := Shape.read s e h3 _ _ _ hx2
          exact ⟨ts, css, h4, h5, hc⟩
        let f : Nat -> List Tree := fun i => if h : i < len then (hrow i h).choose else []
        let g : Nat -> List Value := fun i => if h : i < len then (hrow i h).choose_spec.choose else []
        have hfg : ∀ i, i < len -> s.ok (f i) /\ TRepL w (f i) (g i) /\ w.cells? 0 (a.add (i * s.size)) s.size = some (g i) := fun i hi => by
          have hfi : f i = (hrow i hi).choose := dif_pos hi
          have hgi : g i = (hrow i hi).choose_spec.choose := dif_pos hi
          rw [hfi, hgi]
          exact (hrow i hi).choose_spec.choose_spec
        have hspot : 0 < len -> a = ⟨a.block, a.off, none⟩ /\ a.block < w.heap.size := fun h0 => by
          obtain ⟨hok, hrep, hc⟩ := hfg 0 h0
          obtain ⟨_, hl, hce⟩ := World.cells?_some hc
          have := hce 0 h2
          rw [List.getElem?_eq_getElem (by omega)] at this
          have ha : (a.add (0 * s.size)).add 0 = a := by simp [Addr.add]
          rw [ha] at this
          refine ⟨?_, ?_⟩
          · unfold World.cell? at this
            split at this
            · split at this
              · cases this
              · rename_i hs
                obtain ⟨b, o, sp'⟩ := a
                cases sp' with
                | none => rfl
                | some _ => simp at hs
            · cases this
          · have := World.cells?_block hc h2
            simpa [Addr.add] using this
        have hrows : ∀ i, (((List.range len).map f)[i]?) = if i < len then some (f i) else none := fun i => by
          rw [List.getElem?_map]
          by_cases h : i < len
          · rw [if_pos h, List.getElem?_range h]; rfl
          · rw [if_neg h, List.getElem?_eq_none (by simpa using h)]; rfl
        have hat : ∀ i j t, at2 ((List.range len).map f) i j = some t -> i < len /\ (f i)[j]? = some t := fun i j t ht => by
          unfold at2 at ht
          rw [hrows] at ht
          by_cases h : i < len
          · rw [if_pos h] at ht; exact ⟨h, ht⟩
          · rw [if_neg h] at ht; cases ht
        have hcell : ∀ i j t, at2 ((List.range len).map f) i j = some t -> ∃ v, (g i)[j]? = some v /\ w.cell? ⟨a.block, a.off + i * s.size + j, none⟩ = some v /\ TRep (old w) w t v /\ a.block < w.heap.size := fun i j t ht => by
          obtain ⟨hi, hj⟩ := hat i j t ht
          obtain ⟨hok, hrep, hc⟩ := hfg i hi
          obtain ⟨_, hl, hce⟩ := World.cells?_some hc
          have hjl : j < s.size := by
            have := (List.getElem?_eq_some_iff.1 hj).1
            rw [s.ok_len _ hok] at this; exact this
          have hv := hce j hjl
          obtain ⟨hs1, hs2⟩ := hspot (by omega)
          refine ⟨(g i)[j]'(by omega), List.getElem?_eq_getElem (by omega), ?_, hrep.2 j t _ hj (List.getElem?_eq_getElem (by omega)), hs2⟩
          rw [List.getElem?_eq_getElem (by omega)] at hv
          rw [<- hv]
          rw [hs1, add_none, add_none]
        refine ⟨[.lst false ((List.range len).map f)], ⟨false, _, rfl, by rw [List.length_map, List.length_range]; omega, fun r hr => ?_⟩, ?_⟩
        · obtain ⟨i, hi, rfl⟩ := List.mem_map.1 hr
          exact (hfg i (List.mem_range.1 hi)).1
        · refine .one ?_
          have hl : ((List.range len).map f).length = len := by rw [List.length_map, List.length_range]
          have := TRep.lst (S := old w) (w := w) false ((List.range len).map f) (some a) a.block a.off s.size cap (fun i j => ((g i)[j]?).getD default) (by rw [hl]; exact hlc) (by omega) (by rw [hl]; omega) (by simp)
            (fun hne => by rw [(hspot (by rcases Nat.eq_zero_or_pos len with h | h; · subst h; simp at hne
                                          · exact h)).1]) (by simp)
            (fun r hr => by obtain ⟨i, hi, rfl⟩ := List.mem_map.1 hr; exact s.ok_len _ (hfg i (List.mem_range.1 hi)).1)
            (fun i j t ht => by obtain ⟨v, h4, h5, h6, h7⟩ := hcell i j t ht; exact ⟨h7, by rw [h5, h4]; rfl⟩)
            (fun i j t ht => by obtain ⟨v, h4, h5, h6, h7⟩ := hcell i j t ht; rw [h4]; exact h6)
          rw [hl] at this
          exact this
    · cases hf
termination_by s => SizeOf.sizeOf s
def Shape.tv (s : Shape) (ts : List Tree) : TV :=
 match s, ts with
 | .struct _, ts => .agg ts
 | .arr _ _, ts => .agg ts
 | _, [t] => .c t
 | _, ts => .agg ts
def isAggT (P : Program) (t : TypeId) : Bool := match P.underlying t with
 | some (.struct _) | some (.array _ _) => true
 | _ => false
theorem Shape.rep {s : Shape} {t : TypeId} (hf : s.fits P t = true) {v : Value} (hok : Value.okWide P w .any 0 t v) {ts : List Tree} (hs : s.ok ts) (h : TRepL w ts v.cells.toList) : VRep noβ (old w) w (s.tv ts).av v := by
 have agg : ∀ (cs : Array Value), v = .agg cs -> VRep noβ (old w) w (TV.agg ts).av v := fun cs hv => by
  subst hv
  have : Array.mk cs.toList = cs := rfl
  rw [show TV.av (.agg ts) = AV.agg (ts.map .t) from rfl, <- this]
  refine .agg cs.toList (by rw [List.length_map]; exact h.1.symm) fun i c hc => ?_
  rw [List.getElem?_map] at hc
  obtain ⟨t', ht, rfl⟩ := Option.map_eq_some_iff.1 hc
  have hi := (List.getElem?_eq_some_iff.1 ht).1
  have hi2 : i < cs.toList.length := by have := h.1; simp only [Value.cells] at this; omega
  exact ⟨_, List.getElem?_eq_getElem hi2, .t (h.2 i t' _ ht (List.getElem?_eq_getElem hi2))⟩
 have scal : isAggT P t = false -> ts.length = 1 -> VRep noβ (old w) w (match ts with | [t] => TV.c t | ts => .agg ts).av v := fun hna hl => by
  match ts, hl, h with
  | [t'], _, h =>
   have hc : v.cells = #[v] := by
    cases v with
    | agg cs =>
     unfold Value.okWide at hok
     unfold isAggT at hna
     split at hok
     ·rename_i h1; rw [h1] at hna; cases hna
     ·rename_i h1; rw [h1] at hna; cases hna
     ·unfold Cell.okWide at hok
      split at hok <;> first | (rename_i h1 h2; cases h2; done) | skip
      all_goals first | (unfold Cell.ok at hok; split at hok <;> first | (rename_i h1 h2; cases h2; done) | exact hok.elim) | skip
    | _ => rfl
   have := h.2 0 t' v rfl (by rw [hc]; rfl)
   exact .c (.t this)
 cases s with
 | int k =>
  have hu : P.underlying t = some (.int k) := by
   unfold Shape.fits at hf
   split at hf
   ·rename_i k' h; rw [h, of_decide_eq_true hf]
   ·cases hf
  obtain ⟨m, rfl, _⟩ := hs
  exact scal (by unfold isAggT; rw [hu]) rfl
 | bool =>
  have hu : P.underlying t = some .bool := by
   unfold Shape.fits at hf
   split at hf
   ·rename_i h; exact h
   ·cases hf
  obtain ⟨m, rfl⟩ := hs
  exact scal (by unfold isAggT; rw [hu]) rfl
 | slice s =>
  unfold Shape.fits at hf
  split at hf
  ·rename_i e hu
   obtain ⟨_, _, rfl, _⟩ := hs
   exact scal (by unfold isAggT; rw [hu]) rfl
  ·cases hf
 | struct l =>
  unfold Shape.fits at hf
  split at hf
  ·rename_i fs hu
   unfold Value.okWide at hok
   rw [hu] at hok
   obtain ⟨cs, hv, _⟩ := hok
   exact agg cs hv
  ·cases hf
 | arr n s =>
  unfold Shape.fits at hf
  split at hf
  ·rename_i m e hu
   unfold Value.okWide at hok
   rw [hu] at hok
   obtain ⟨cs, hv, _⟩ := hok
   exact agg cs hv
  ·cases hf
def okAll : List Shape -> List (List Tree) -> Prop
 | [], l => l = []
 | s :: ss, l => ∃ ts r, l = ts :: r /\ s.ok ts /\ okAll ss r
def tvs : List Shape -> List (List Tree) -> List TV
 | s :: ss, ts :: r => s.tv ts :: tvs ss r
 | _, _ => []
def fitsAll (P : Program) : List TypeId -> List Shape -> Bool
 | [], [] => true
 | t :: ts, s :: ss => s.fits P t && decide (t < P.types.size) && P.readableRec t && fitsAll P ts ss
 | _, _ => false
theorem args_read : ∀ {tys : List TypeId} {shs : List Shape} {vs : List Value} {ds : List (DataW H)} {ps : List MemPlace}, DataW.TrodAll enc P w 0 sp true tys vs ds ps -> fitsAll P tys shs = true ->
  (∀ (j : Nat) t v, tys[j]? = some t -> vs[j]? = some v -> Value.okWide P w .any 0 t v) ->
  ∃ tss, okAll shs tss /\ vs.length = (tvs shs tss).length /\ ds.length = shs.length /\ ∀ (i : Nat) (x : TV), (tvs shs tss)[i]? = some x -> ∃ v, vs[i]? = some v /\ VRep noβ (old w) w x.av v
 | [], [], [], [], ps, h, hf, hv => ⟨[], rfl, rfl, rfl, fun i x hx => by simp [tvs] at hx⟩
 | t :: ts, s :: ss, v :: vs, d :: ds, ps, h, hf, hv => by
  obtain ⟨p, q, ⟨n, h1⟩, h2, _⟩ := h
  simp only [fitsAll, Bool.and_eq_true] at hf
  obtain ⟨⟨⟨f1, f2⟩, f3⟩, f4⟩ := hf
  obtain ⟨tss, g1, g2, g3, g4⟩ := args_read h2 f4 (fun j t v ht hx => hv (j + 1) t v (by simpa using ht) (by simpa using hx))
  obtain ⟨tr, k1, k2⟩ := s.read t f1 n _ _ h1
  refine ⟨tr :: tss, ⟨tr, tss, rfl, k1, g1⟩, by simp [tvs, g2], by simp [g3], fun i x hx => ?_⟩
  cases i with
  | zero =>
   simp only [tvs, List.getElem?_cons_zero, Option.some.injEq] at hx
   subst hx
   exact ⟨v, rfl, Shape.rep f1 (hv 0 t v rfl rfl) k1 k2⟩
  | succ i => simp only [tvs, List.getElem?_cons_succ] at hx ⊢; exact g4 i x hx
 | [], _ :: _, _, _, _, _, hf, _ => by simp [fitsAll] at hf
 | _ :: _, [], _, _, _, _, hf, _ => by simp [fitsAll] at hf
 | [], [], _ :: _, _, _, h, _, _ => by simp [DataW.TrodAll] at h
 | [], [], [], _ :: _, _, h, _, _ => by simp [DataW.TrodAll] at h
 | _ :: _, _ :: _, [], _, _, h, _, _ => by simp [DataW.TrodAll] at h
 | _ :: _, _ :: _, _ :: _, [], _, h, _, _ => by simp [DataW.TrodAll] at h
theorem args_stay (hl : laidOutB P = true) {W W' : World} {sp' : Nat -> Bool} (hb : Below W.heap.size W W') : ∀ {tys : List TypeId} {shs : List Shape} {vs : List Value} {ds : List (DataW H)} {ps : List MemPlace}, DataW.TrodAll enc P W 0 (fun _ => true) true tys vs ds ps -> fitsAll P tys shs = true ->
  (∀ p ∈ ps, p.block < W.heap.size) -> (∀ p ∈ ps, sp' p.block = true) -> DataW.TrodAll enc P W' 0 sp' true tys vs ds ps
 | [], [], [], [], ps, h, hf, h1, h2 => h
 | t :: ts, s :: ss, v :: vs, d :: ds, ps, h, hf, h1, h2 => by
  obtain ⟨p, q, k1, k2, rfl⟩ := h
  simp only [fitsAll, Bool.and_eq_true, decide_eq_true_eq] at hf
  obtain ⟨⟨⟨f1, f2⟩, f3⟩, f4⟩ := hf
  exact ⟨p, q, Go.WideElems.Trod_stays hl f3 f2 k1 (fun x hx => hb.same (h1 x (List.mem_append_left _ hx))) (fun x hx => h2 x (List.mem_append_left _ hx)),
   args_stay hl hb k2 f4 (fun x hx => h1 x (List.mem_append_right _ hx)) (fun x hx => h2 x (List.mem_append_right _ hx)), rfl⟩
 | [], _ :: _, _, _, _, _, hf, _, _ => by simp [fitsAll] at hf
 | _ :: _, [], _, _, _, _, hf, _, _ => by simp [fitsAll] at hf
 | [], [], _ :: _, _, _, h, _, _, _ => by simp [DataW.TrodAll] at h
 | [], [], [], _ :: _, _, h, _, _, _ => by simp [DataW.TrodAll] at h
 | _ :: _, _ :: _, [], _, _, h, _, _, _ => by simp [DataW.TrodAll] at h
 | _ :: _, _ :: _, _ :: _, [], _, h, _, _, _ => by simp [DataW.TrodAll] at h
theorem law_row {f : FuncId} {fn : Func} {spec : ChangeSpec} {shs : List Shape} {outs : List (Option Blk)} (hl : laidOutB P = true) (hf : fitsAll P fn.params.toList shs = true) (hvars : spec.vars = []) {tb0 : TypeId} (hres : fn.resultTypes = #[tb0]) (hb4 : P.underlying tb0 = some .bool)
  {apart fresh handsOn again : Bool} (hfn : ∀ ds : List (DataW H), ds.length = shs.length -> (spec.fn H ds).args = ds /\ (spec.fn H ds).results = [.lit (.bool true)] /\ (spec.fn H ds).vars = [])
  (hc : ∀ tss, okAll shs tss -> ACall P f ((tvs shs tss).map .val) ⟨[.val (tb true)], outs⟩)
  {W : World} {args : Array Value} {ds gs : List (DataW H)} {before : List MemPlace} (hval : ∀ (j : Nat) t v, fn.params[j]? = some t -> args[j]? = some v -> Value.okWide P W .any 0 t v)
  (hW : DataW.Whole enc P fn.params.toList spec.vars apart W args.toList ds gs before) :
  Calls P f args W fun e W' => ∃ v, e = .returned v /\ spec.post enc P fn apart fresh handsOn again W args v W' := by
 have hW' := hW
 obtain ⟨p, q, hA, hV, rfl, hfz, hnd⟩ := hW
 rw [hvars] at hV
 have hgq : gs = [] /\ q = [] := by
  cases gs with
  | nil => exact ⟨rfl, hV⟩
  | cons g gs => exact hV.elim
 obtain ⟨rfl, rfl⟩ := hgq
 obtain ⟨tss, hok, hlen, hdl, hrep⟩ := args_read hA hf (fun j t v ht hv => hval j t v (by simpa using ht) (by simpa using hv))
 have h := law_calls (hc tss hok) W args.toList hlen hrep
 have hargs : args.toList.toArray = args := rfl
 rw [hargs] at h
 obtain ⟨e1, e2, e3⟩ := hfn ds hdl
 have hbefore : ∀ x ∈ p, x.block < W.heap.size := fun x hx => hW'.lt x (List.mem_append_left _ hx)
 refine h.mono fun e W' ⟨he, hg⟩ => ?_
 subst he
 refine ⟨_, rfl, post_of_below (pa := p) (pv := []) hW' (fun b sp hd => ?_) (fun sp hs => ?_) (fun sp hs => ?_) rfl hg ?_⟩
 ·rw [List.append_nil, e2, hres]
  exact trodAll_cons_mk (shut_bool hb4 _) trodAll_mk0
 ·rw [List.append_nil, e1]
  exact args_stay hl hg hA hf hbefore (fun x hx => hs x (List.mem_append_left _ hx))
 ·rw [List.append_nil, e3, hvars]; rfl
 ·exact ok_one hres rfl (okWide_bool_mk hb4 _)
end
end Go.Abs
end
section
namespace Go.Proofs.YtpgbejgdmgpfjaaGreat
open Go Go.Abs Go.Abs.M Go.Proofs
open Go Go.Abs Go.Abs.M Go.Proofs
theorem rqsub_row {x y : Rat} {a b : Nat} (h1 : Qs x a) (h2 : Qs y b) (h : a + b <= 68719476736) :
  Qs (x - y) (a + b + 1) /\ ACall Tryz.prog 32 [.val (.agg (qc x).row), .val (.agg (qc y).row)] ⟨[.val (.agg (qc (x - y)).row)], [none, none]⟩ := by
 refine ⟨by rw [Rat.sub_eq_add_neg]; exact add_small h1 h2.neg, ?_⟩
 obtain ⟨u, w, v, p, hr, c⟩ := rqsub_call (qa3 x) (qa3 y) (h1.mono (by omega)) (h2.mono (by omega))
 rw [qc_row hr] at c
 exact c
theorem psub_row {x y : Rat} {a b : Nat} (h1 : Qs x a) (h2 : Qs y b) (h : a + b <= 68719476736) :
  Qs (x - y) (a + b + 1) /\ ACall Tryz.prog 123 [.val (.agg (qc x).row), .val (.agg (qc y).row)] ⟨[.val (.agg (qc (x - y)).row)], [none, none]⟩ := by
 refine ⟨by rw [Rat.sub_eq_add_neg]; exact add_small h1 h2.neg, ?_⟩
 obtain ⟨u, w, v, p, hr, c⟩ := psub_call (qa3 x) (qa3 y) (h1.mono (by omega)) (h2.mono (by omega))
 rw [qc_row hr] at c
 exact c
def ivd (D : Int) : Rat := ((1 + D % 8 : Int) : Rat)
def ivlo (A B D : Int) : Rat := rmin ((A : Rat) * (ivd D)⁻¹) ((B : Rat) * (ivd D)⁻¹)
def ivhi (A B D : Int) : Rat := rmax ((A : Rat) * (ivd D)⁻¹) ((B : Rat) * (ivd D)⁻¹)
theorem ivd_ne (D : Int) : ivd D ≠ 0 := by
 unfold ivd
 intro h
 have : (1 + D % 8 : Int) = 0 := by exact_mod_cast h
 omega
theorem ivd_qs (D : Int) : Qs (ivd D) 1 := Qs.whole (by omega) (Nat.le_refl 1)
structure RI where
 a : Int
 b : Int
 d : Int
structure RI.ok (x : RI) : Prop where
 a1 : -128 <= x.a
 a2 : x.a < 128
 b1 : -128 <= x.b
 b2 : x.b < 128
 d1 : 0 <= x.d
 d2 : x.d < 256
def RI.row (x : RI) : List Tree := [.v (.int .i8 x.a), .v (.int .i8 x.b), .v (.int .u8 x.d)]
def RI.lo (x : RI) : Rat := ivlo x.a x.b x.d
def RI.hi (x : RI) : Rat := ivhi x.a x.b x.d
theorem RI.lo_qs {x : RI} (h : x.ok) : Qs x.lo 2 := by
 obtain ⟨a1, a2, b1, b2, d1, d2⟩ := h
 exact rmin_qs (qbc (Qs.whole (by omega) (Nat.le_refl 1)) (inv_small (ivd_ne _) (ivd_qs _))) (qbc (Qs.whole (by omega) (Nat.le_refl 1)) (inv_small (ivd_ne _) (ivd_qs _)))
theorem RI.hi_qs {x : RI} (h : x.ok) : Qs x.hi 2 := by
 obtain ⟨a1, a2, b1, b2, d1, d2⟩ := h
 exact rmax_qs (qbc (Qs.whole (by omega) (Nat.le_refl 1)) (inv_small (ivd_ne _) (ivd_qs _))) (qbc (Qs.whole (by omega) (Nat.le_refl 1)) (inv_small (ivd_ne _) (ivd_qs _)))
theorem RI.le (x : RI) : x.lo <= x.hi := by
 unfold RI.lo RI.hi ivlo ivhi rmin rmax
 generalize (x.a : Rat) * (ivd x.d)⁻¹ = p
 generalize (x.b : Rat) * (ivd x.d)⁻¹ = q
 grind
theorem imade_call (x : RI) (hx : x.ok) : ACall Tryz.prog 12 [.val (.agg x.row)] ⟨[.val (.agg ((qc x.lo).row ++ (qc x.hi).row))], [none]⟩ := by
 obtain ⟨a1, a2, b1, b2, d1, d2⟩ := hx
 obtain ⟨a, b, d⟩ := x
 simp only at a1 a2 b1 b2 d1 d2
 have cd := qa8 (1 + d % 8) (by omega) (by omega)
 have ca := qa8 a (by omega) (by omega)
 have cb := qa8 b (by omega) (by omega)
 obtain ⟨qp, cp⟩ := rqdiv_row (ivd_ne d) (Qs.whole (n := a) (k := 1) (by omega) (Nat.le_refl 1)) (ivd_qs d) (by omega)
 obtain ⟨qq, cq⟩ := rqdiv_row (ivd_ne d) (Qs.whole (n := b) (k := 1) (by omega) (Nat.le_refl 1)) (ivd_qs d) (by omega)
 have cl := less_call (qp.mono (by omega)) (qq.mono (by omega))
 have cm := more_call (qp.mono (by omega)) (qq.mono (by omega))
 show ACall _ _ [.val (.agg [.v (.int .i8 a), .v (.int .i8 b), .v (.int .u8 d)])] ⟨[.val (.agg ((qc (rmin _ _)).row ++ (qc (rmax _ _)).row))], _⟩
 change ACall _ _ _ ⟨[.val (.agg (qc (ivd d)).row)], _⟩ at cd
 obtain ⟨s1, t1, r1, p1, e1, _⟩ := qrow (ivd d)
 obtain ⟨s2, t2, r2, p2, e2, _⟩ := qrow (a : Rat)
 obtain ⟨s3, t3, r3, p3, e3, _⟩ := qrow (b : Rat)
 obtain ⟨s4, t4, r4, p4, e4, _⟩ := qrow ((a : Rat) * (ivd d)⁻¹)
 obtain ⟨s5, t5, r5, p5, e5, _⟩ := qrow ((b : Rat) * (ivd d)⁻¹)
 obtain ⟨s6, t6, r6, p6, e6, _⟩ := qrow (rmin ((a : Rat) * (ivd d)⁻¹) ((b : Rat) * (ivd d)⁻¹))
 obtain ⟨s7, t7, r7, p7, e7, _⟩ := qrow (rmax ((a : Rat) * (ivd d)⁻¹) ((b : Rat) * (ivd d)⁻¹))
 rw [e1] at cd
 rw [e2] at ca
 rw [e3] at cb
 rw [e2, e1, e4] at cp
 rw [e3, e1, e5] at cq
 rw [e4, e5, e6] at cl
 rw [e4, e5, e7] at cm
 rw [e6, e7]
 obtain ⟨D, hD⟩ : ∃ D : Int, D = 1 + d % 8 := ⟨_, rfl⟩
 rw [<- hD] at cd
 clear e1 e2 e3 e4 e5 e6 e7 qp qq
 refine callZ ccOk mixed [.val] Tryz.func12 rfl rfl (by kernel_rfl) fun zA zB zC zD zE zF zG zH zI zJ zK zL zM zN zO zP zQ zR zS zT zU zV zX zY zZ za zb zc zd ze zg zh zi zj zk zl zm zn zo zq zr zs zt zu zw zx zy zz zth A L F hS hF => ?_
 have k1 : zA .i64 (zA .u8 (zB 1 (zF d 8))) = D := by
  rw [hS.rem, hS.add, Int.tmod_eq_emod_of_nonneg d1, hS.wrap, hS.wrap, wrap_u8 (by omega) (by omega), wrap_i64 (by omega) (by omega), hD]
 have k2 : zA .i64 a = a := by rw [hS.wrap, wrap_i64 (by omega) (by omega)]
 have k3 : zA .i64 b = b := by rw [hS.wrap, wrap_i64 (by omega) (by omega)]
 cbv
 rw [k1]
 refine ⟨_, hS.call (cd), ?_⟩
 cbv
 rw [k2]
 refine ⟨_, hS.call (ca), ?_⟩
 cbv
 refine ⟨_, hS.call (cp), ?_⟩
 cbv
 rw [k3]
 refine ⟨_, hS.call (cb), ?_⟩
 cbv
 refine ⟨_, hS.call (cq), ?_⟩
 cbv
 refine ⟨_, hS.call (cl), ?_⟩
 cbv
 refine ⟨_, hS.call (cm), ?_⟩
 cbv
 exact hF _ (ResLe.refl _)
def iat (p q : Rat) (k : Int) : Rat := p + ((k % 17 : Int) : Rat) * (((16 : Int) : Rat))⁻¹ * (q - p)
theorem iat_call {p q : Rat} {n : Nat} (h1 : Qs p n) (h2 : Qs q n) (hn : n <= 1000) (k : Int) (k1 : 0 <= k) (k2 : k < 256) :
  Qs (iat p q k) (n + (2 + (n + n + 1)) + 1) /\ ACall Tryz.prog 28 [.val (.agg ((qc p).row ++ (qc q).row)), .val (ti .u8 k)] ⟨[.val (.agg (qc (iat p q k)).row)], [none, none]⟩ := by
 have hn16 : ((16 : Int) : Rat) ≠ 0 := by decide
 have ck := qa8 (k % 17) (by omega) (by omega)
 have cs := qa8 16 (by omega) (by omega)
 obtain ⟨q1, c1⟩ := rqdiv_row hn16 (Qs.whole (n := k % 17) (k := 1) (by omega) (Nat.le_refl 1)) (Qs.whole (n := 16) (k := 1) (by decide) (Nat.le_refl 1)) (by omega)
 obtain ⟨q2, c2⟩ := rqsub_row h2 h1 (by omega)
 obtain ⟨q3, c3⟩ := qbq q1 q2 (by omega)
 obtain ⟨q4, c4⟩ := rqadd_row h1 q3 (by omega)
 refine ⟨q4.mono (by omega), ?_⟩
 unfold iat
 obtain ⟨s1, t1, r1, p1, e1, _⟩ := qrow p
 obtain ⟨s2, t2, r2, p2, e2, _⟩ := qrow q
 obtain ⟨s3, t3, r3, p3, e3, _⟩ := qrow ((k % 17 : Int) : Rat)
 obtain ⟨s4, t4, r4, p4, e4, _⟩ := qrow ((16 : Int) : Rat)
 obtain ⟨s5, t5, r5, p5, e5, _⟩ := qrow (((k % 17 : Int) : Rat) * ((16 : Int) : Rat)⁻¹)
 obtain ⟨s6, t6, r6, p6, e6, _⟩ := qrow (q - p)
 obtain ⟨s7, t7, r7, p7, e7, _⟩ := qrow (((k % 17 : Int) : Rat) * ((16 : Int) : Rat)⁻¹ * (q - p))
 obtain ⟨s8, t8, r8, p8, e8, _⟩ := qrow (p + ((k % 17 : Int) : Rat) * ((16 : Int) : Rat)⁻¹ * (q - p))
 rw [e3] at ck
 rw [e4] at cs
 rw [e3, e4, e5] at c1
 rw [e2, e1, e6] at c2
 rw [e5, e6, e7] at c3
 rw [e1, e7, e8] at c4
 rw [e1, e2, e8]
 obtain ⟨D, hD⟩ : ∃ D : Int, D = k % 17 := ⟨_, rfl⟩
 rw [<- hD] at ck
 clear e1 e2 e3 e4 e5 e6 e7 e8 q1 q2 q3 q4
 refine callZ ccOk mixed [.val] Tryz.func28 rfl rfl (by kernel_rfl) fun zA zB zC zD zE zF zG zH zI zJ zK zL zM zN zO zP zQ zR zS zT zU zV zX zY zZ za zb zc zd ze zg zh zi zj zk zl zm zn zo zq zr zs zt zu zw zx zy zz zth A L F hS hF => ?_
 have k3 : zA .i64 (zF k 17) = D := by
  rw [hS.rem, Int.tmod_eq_emod_of_nonneg k1, hS.wrap, wrap_i64 (by omega) (by omega), hD]
 cbv
 rw [k3]
 refine ⟨_, hS.call (ck), ?_⟩
 cbv
 refine ⟨_, hS.call (cs), ?_⟩
 cbv
 refine ⟨_, hS.call (c1), ?_⟩
 cbv
 refine ⟨_, hS.call (c2), ?_⟩
 cbv
 refine ⟨_, hS.call (c3), ?_⟩
 cbv
 refine ⟨_, hS.call (c4), ?_⟩
 cbv
 exact hF _ (ResLe.refl _)
open Go Go.Abs Go.Abs.M Go.Proofs
def ripoSt (s : Bool) (r : Abs.Rows) (t : Bool) (p : Abs.Rows) (s2 : Bool) (r2 : Abs.Rows) (t2 : Bool) (p2 : Abs.Rows) (n i : Int) : St := mkSt 17 [.agg [.t (.v (.bool s)), .t (.lst false r), .t (.v (.bool t)), .t (.lst false p)], vi .i64 n, .c (.ptr 2 0 0), .junk, .c (.ptr 3 0 0), .c (.ptr 6 0 0), vi .i64 i] [none, none, some (.var [.t (.v (.bool s)), .t (.lst false r), .t (.v (.bool t)), .t (.lst false p)]), some (.var (rawZ.map .t)), none, none, some (.var [.t (.v (.bool s2)), .t (.lst false r2), .t (.v (.bool t2)), .t (.lst false p2)])]
def ipoSt (s : Bool) (r : Abs.Rows) (t : Bool) (p : Abs.Rows) (s2 : Bool) (r2 : Abs.Rows) (t2 : Bool) (p2 : Abs.Rows) (n i : Int) : St := mkSt 15 [.agg [.t (.v (.bool s)), .t (.lst false r), .t (.v (.bool t)), .t (.lst false p)], .junk, .c (.ptr 2 0 0), .junk, .c (.ptr 3 0 0), .c (.ptr 6 0 0), .junk, vi .i64 n, vi .i64 i] [none, none, some (.var [.t (.v (.bool s)), .t (.lst false r), .t (.v (.bool t)), .t (.lst false p)]), some (.var (rawZ.map .t)), none, none, some (.var [.t (.v (.bool s2)), .t (.lst false r2), .t (.v (.bool t2)), .t (.lst false p2)])]
theorem ripower_call (x : Rat) (k a : Nat) (hk : k <= 100) (h1 : Qs x a) (ha : a <= 67108864) :
  Qs (x ^ k) (1 + k * a) /\ ACall Tryz.prog 76 [.val (.agg (qc x).row), .val (ti .i64 (k : Int))] ⟨[.val (.agg (qc (x ^ k)).row)], [none, none]⟩ := by
 have hsz : ∀ m, Qs (x ^ m) (1 + m * a) := fun m => by
  induction m with
  | zero => rw [Rat.pow_zero]; exact (Qs.whole (n := 1) (by decide) (Nat.le_refl 1)).mono (by omega)
  | succ m ih => rw [Rat.pow_succ]; exact (qbc ih h1).mono (by rw [Nat.succ_mul]; omega)
 refine ⟨hsz k, ?_⟩
 have hmul : ∀ m, m < k -> ACall Tryz.prog 30 [.val (.agg (qc (x ^ m)).row), .val (.agg (qc x).row)] ⟨[.val (.agg (qc (x ^ (m + 1))).row)], [none, none]⟩ := fun m hm => by
  have hb : m * a <= 100 * a := Nat.mul_le_mul_right _ (by omega)
  have := (qbq (hsz m) h1 (by omega)).2
  rwa [<- Rat.pow_succ] at this
 have cw := qa8 1 (by omega) (by omega)
 rw [show ((1 : Int) : Rat) = x ^ 0 from (Rat.pow_zero x).symm] at cw
 obtain ⟨N, hN⟩ : ∃ N : Int, N = (k : Int) := ⟨_, rfl⟩
 obtain ⟨T, hT⟩ : ∃ T, T = (qc (x ^ k)).row := ⟨_, rfl⟩
 obtain ⟨s, t, r, p, hrow, _⟩ := qrow x
 obtain ⟨s0, t0, r0, p0, hrow0, _⟩ := qrow (x ^ 0)
 rw [<- hN, <- hT, hrow]
 rw [hrow0] at cw
 rw [hrow] at hmul
 refine callZ ccOk mixed [.val] Tryz.func76 rfl rfl (by kernel_rfl) fun zA zB zC zD zE zF zG zH zI zJ zK zL zM zN zO zP zQ zR zS zT zU zV zX zY zZ za zb zc zd ze zg zh zi zj zk zl zm zn zo zq zr zs zt zu zw zx zy zz zth A L F hS hF => ?_
 cbv
 refine ⟨_, hS.call (cw), ?_⟩
 cbv
 have hN : N = (k : Int) := hN
 refine loopZ ccOk mixed hS (fun (m : Nat) s' => ∃ (i : Nat) (I : Int) (s2 t2 : Bool) (r2 p2 : Abs.Rows), I = i /\ i + m = k /\ (qc (x ^ i)).row = [.v (.bool s2), .lst false r2, .v (.bool t2), .lst false p2] /\ s' = ripoSt s r t p s2 r2 t2 p2 N I) (n := k) (s0 := ripoSt s r t p s0 r0 t0 p0 N 0) (qa2 ?_ ?_) rfl (by show 2 <= 7; omega) ?_ ?_
 ·simp [leT, ripoSt, mkSt, vi]
 ·simp [leH, ripoSt, mkSt, rawZ]
 ·exact ⟨0, 0, s0, t0, r0, p0, rfl, by omega, hrow0, rfl⟩
 ·rintro m s1 ⟨i, I, s2, t2, r2, p2, hI, him, hv, hs1⟩
  by_cases hi : i < k
  ·have l1 : zO I N = true := by rw [hS.lt]; exact decide_eq_true (by omega)
   have cm := hmul i hi
   obtain ⟨s5, t5, r5, p5, hrow5, _⟩ := qrow (x ^ (i + 1))
   rw [hv, hrow5] at cm
   obtain ⟨I', hI', i1⟩ : ∃ I' : Int, I' = ((i + 1 : Nat) : Int) /\ zA .i64 (zB I 1) = I' := ⟨I + 1, by omega, by rw [hS.add, hS.wrap, wrap_i64 (by omega) (by omega)]⟩
   have hmm : m - 1 < m := by omega
   have hnx : ∃ (i2 : Nat) (I2 : Int) (s9 t9 : Bool) (r9 p9 : Abs.Rows), I2 = i2 /\ i2 + (m - 1) = k /\ (qc (x ^ i2)).row = [.v (.bool s9), .lst false r9, .v (.bool t9), .lst false p9] /\ ripoSt s r t p s5 r5 t5 p5 N I' = ripoSt s r t p s9 r9 t9 p9 N I2 := ⟨i + 1, I', s5, t5, r5, p5, hI', by omega, hrow5, rfl⟩
   clear hmul
   subst hs1
   cbv
   refine bT l1 ?_
   refine ⟨_, hS.call (cm), ?_⟩
   cbv
   exact again (s' := ripoSt s r t p s5 r5 t5 p5 N I') (m := m - 1) (by simp [leT, ripoSt, mkSt, vi, i1]) (by simp [leH, ripoSt, mkSt, rawZ]) rfl (by show 2 <= 7; omega) hmm hnx
  ·have l1 : zO I N = false := by rw [hS.lt]; exact decide_eq_false (by omega)
   have hik : i = k := by omega
   rw [hik, <- hT] at hv
   clear hmul
   subst hv
   subst hs1
   cbv
   refine bF l1 ?_
   exact hF _ (ResLe.refl _)
theorem ipower_call (x : Rat) (k a : Nat) (hk : k <= 100) (h1 : Qs x a) (ha : a <= 67108864) :
  Qs (x ^ k) (1 + k * a) /\ ACall Tryz.prog 125 [.val (.agg (qc x).row), .val (ti .i64 (k : Int))] ⟨[.val (.agg (qc (x ^ k)).row)], [none, none]⟩ := by
 have hsz : ∀ m, Qs (x ^ m) (1 + m * a) := fun m => by
  induction m with
  | zero => rw [Rat.pow_zero]; exact (Qs.whole (n := 1) (by decide) (Nat.le_refl 1)).mono (by omega)
  | succ m ih => rw [Rat.pow_succ]; exact (qbc ih h1).mono (by rw [Nat.succ_mul]; omega)
 refine ⟨hsz k, ?_⟩
 have hmul : ∀ m, m < k -> ACall Tryz.prog 99 [.val (.agg (qc (x ^ m)).row), .val (.agg (qc x).row)] ⟨[.val (.agg (qc (x ^ (m + 1))).row)], [none, none]⟩ := fun m hm => by
  have hb : m * a <= 100 * a := Nat.mul_le_mul_right _ (by omega)
  have := (pmul_row (hsz m) h1 (by omega)).2
  rwa [<- Rat.pow_succ] at this
 have cw := pwhole_row 1 (by omega) (by omega)
 rw [show ((1 : Int) : Rat) = x ^ 0 from (Rat.pow_zero x).symm] at cw
 obtain ⟨N, hN⟩ : ∃ N : Int, N = (k : Int) := ⟨_, rfl⟩
 obtain ⟨T, hT⟩ : ∃ T, T = (qc (x ^ k)).row := ⟨_, rfl⟩
 obtain ⟨s, t, r, p, hrow, _⟩ := qrow x
 obtain ⟨s0, t0, r0, p0, hrow0, _⟩ := qrow (x ^ 0)
 rw [<- hN, <- hT, hrow]
 rw [hrow0] at cw
 rw [hrow] at hmul
 refine callZ ccOk mixed [.val] Tryz.func125 rfl rfl (by kernel_rfl) fun zA zB zC zD zE zF zG zH zI zJ zK zL zM zN zO zP zQ zR zS zT zU zV zX zY zZ za zb zc zd ze zg zh zi zj zk zl zm zn zo zq zr zs zt zu zw zx zy zz zth A L F hS hF => ?_
 cbv
 refine ⟨_, hS.call (cw), ?_⟩
 cbv
 have hN : N = (k : Int) := hN
 refine loopZ ccOk mixed hS (fun (m : Nat) s' => ∃ (i : Nat) (I : Int) (s2 t2 : Bool) (r2 p2 : Abs.Rows), I = i /\ i + m = k /\ (qc (x ^ i)).row = [.v (.bool s2), .lst false r2, .v (.bool t2), .lst false p2] /\ s' = ipoSt s r t p s2 r2 t2 p2 N I) (n := k) (s0 := ipoSt s r t p s0 r0 t0 p0 N 0) (qa2 ?_ ?_) rfl (by show 2 <= 7; omega) ?_ ?_
 ·simp [leT, ipoSt, mkSt, vi]
 ·simp [leH, ipoSt, mkSt, rawZ]
 ·exact ⟨0, 0, s0, t0, r0, p0, rfl, by omega, hrow0, rfl⟩
 ·rintro m s1 ⟨i, I, s2, t2, r2, p2, hI, him, hv, hs1⟩
  by_cases hi : i < k
  ·have l1 : zO I N = true := by rw [hS.lt]; exact decide_eq_true (by omega)
   have cm := hmul i hi
   obtain ⟨s5, t5, r5, p5, hrow5, _⟩ := qrow (x ^ (i + 1))
   rw [hv, hrow5] at cm
   obtain ⟨I', hI', i1⟩ : ∃ I' : Int, I' = ((i + 1 : Nat) : Int) /\ zA .i64 (zB I 1) = I' := ⟨I + 1, by omega, by rw [hS.add, hS.wrap, wrap_i64 (by omega) (by omega)]⟩
   have hmm : m - 1 < m := by omega
   have hnx : ∃ (i2 : Nat) (I2 : Int) (s9 t9 : Bool) (r9 p9 : Abs.Rows), I2 = i2 /\ i2 + (m - 1) = k /\ (qc (x ^ i2)).row = [.v (.bool s9), .lst false r9, .v (.bool t9), .lst false p9] /\ ipoSt s r t p s5 r5 t5 p5 N I' = ipoSt s r t p s9 r9 t9 p9 N I2 := ⟨i + 1, I', s5, t5, r5, p5, hI', by omega, hrow5, rfl⟩
   clear hmul
   subst hs1
   cbv
   refine bT l1 ?_
   refine ⟨_, hS.call (cm), ?_⟩
   cbv
   exact again (s' := ipoSt s r t p s5 r5 t5 p5 N I') (m := m - 1) (by simp [leT, ipoSt, mkSt, vi, i1]) (by simp [leH, ipoSt, mkSt, rawZ]) rfl (by show 2 <= 7; omega) hmm hnx
  ·have l1 : zO I N = false := by rw [hS.lt]; exact decide_eq_false (by omega)
   have hik : i = k := by omega
   rw [hik, <- hT] at hv
   clear hmul
   subst hv
   subst hs1
   cbv
   refine bF l1 ?_
   exact hF _ (ResLe.refl _)
theorem rnum_neg (q : Rat) : q < 0 ↔ q.num < 0 := by
 rw [<- Rat.not_le, <- Rat.num_nonneg]; omega
theorem rnum_pos (q : Rat) : 0 < q ↔ 0 < q.num := by
 have h := rnum_neg (-q)
 rw [show (-q).num = -q.num from rfl] at h
 have : -q < 0 ↔ 0 < q := by grind
 rw [<- this, h]; omega
theorem cmpI_spec (a : Int) : (cmpI a 0 < 0 ↔ a < 0) /\ (0 < cmpI a 0 ↔ 0 < a) := by
 unfold cmpI
 split
 ·omega
 ·split <;> omega
theorem psign_ex (q : Rat) : ∃ c : Int, (c < 0 ↔ q < 0) /\ (0 < c ↔ 0 < q) /\ ACall Tryz.prog 113 [.val (.agg (qc q).row)] ⟨[.val (ti .i64 c)], [none]⟩ :=
 ⟨cmpI q.num 0, by rw [rnum_neg]; exact (cmpI_spec _).1, by rw [rnum_pos]; exact (cmpI_spec _).2, qsign_call _ (qa3 q).n rfl⟩
theorem rqsign_ex (q : Rat) : ∃ c : Int, (c < 0 ↔ q < 0) /\ (0 < c ↔ 0 < q) /\ ACall Tryz.prog 51 [.val (.agg (qc q).row)] ⟨[.val (ti .i64 c)], [none]⟩ :=
 ⟨cmpI q.num 0, by rw [rnum_neg]; exact (cmpI_spec _).1, by rw [rnum_pos]; exact (cmpI_spec _).2, rqsign_call _ (qa3 q).n rfl⟩
theorem ivadd_call {x y z w : Rat} {n : Nat} (h1 : Qs x n) (h2 : Qs y n) (h3 : Qs z n) (h4 : Qs w n) (hn : n <= 1000000) :
  Qs (x + z) (n + n + 1) /\ Qs (y + w) (n + n + 1) /\ ACall Tryz.prog 20 [.val (.agg ((qc x).row ++ (qc y).row)), .val (.agg ((qc z).row ++ (qc w).row))] ⟨[.val (.agg ((qc (x + z)).row ++ (qc (y + w)).row))], [none, none]⟩ := by
 obtain ⟨q1, c1⟩ := padd_row h1 h3 (by omega)
 obtain ⟨q2, c2⟩ := padd_row h2 h4 (by omega)
 refine ⟨q1, q2, ?_⟩
 obtain ⟨s1, t1, r1, p1, e1, _⟩ := qrow x
 obtain ⟨s2, t2, r2, p2, e2, _⟩ := qrow y
 obtain ⟨s3, t3, r3, p3, e3, _⟩ := qrow z
 obtain ⟨s4, t4, r4, p4, e4, _⟩ := qrow w
 obtain ⟨s5, t5, r5, p5, e5, _⟩ := qrow (x + z)
 obtain ⟨s6, t6, r6, p6, e6, _⟩ := qrow (y + w)
 simp only [e1, e2, e3, e4, e5, e6] at c1 c2 ⊢
 clear e1 e2 e3 e4 e5 e6 q1 q2
 have cI : ACall Tryz.prog 72 [.val (.agg [.v (.bool s1), .lst false r1, .v (.bool t1), .lst false p1, .v (.bool s2), .lst false r2, .v (.bool t2), .lst false p2]), .val (.agg [.v (.bool s3), .lst false r3, .v (.bool t3), .lst false p3, .v (.bool s4), .lst false r4, .v (.bool t4), .lst false p4])] ⟨[.val (.agg [.v (.bool s5), .lst false r5, .v (.bool t5), .lst false p5, .v (.bool s6), .lst false r6, .v (.bool t6), .lst false p6])], [none, none]⟩ := by
  refine callZ ccOk mixed [.val] Tryz.func72 rfl rfl (by kernel_rfl) fun zA zB zC zD zE zF zG zH zI zJ zK zL zM zN zO zP zQ zR zS zT zU zV zX zY zZ za zb zc zd ze zg zh zi zj zk zl zm zn zo zq zr zs zt zu zw zx zy zz zth A L F hS hF => ?_
  cbv
  refine ⟨_, hS.call (c1), ?_⟩
  cbv
  refine ⟨_, hS.call (c2), ?_⟩
  cbv
  exact hF _ (ResLe.refl _)
 have cA : ACall Tryz.prog 71 [.val (.c (.v (.func (.func 72) #[] #[]))), .val (.agg [.v (.bool s1), .lst false r1, .v (.bool t1), .lst false p1, .v (.bool s2), .lst false r2, .v (.bool t2), .lst false p2]), .val (.agg [.v (.bool s3), .lst false r3, .v (.bool t3), .lst false p3, .v (.bool s4), .lst false r4, .v (.bool t4), .lst false p4])] ⟨[.val (.agg [.v (.bool s5), .lst false r5, .v (.bool t5), .lst false p5, .v (.bool s6), .lst false r6, .v (.bool t6), .lst false p6])], [none, none, none]⟩ := by
  refine callZ ccOk mixed [.val] Tryz.func71 rfl rfl (by kernel_rfl) fun zA zB zC zD zE zF zG zH zI zJ zK zL zM zN zO zP zQ zR zS zT zU zV zX zY zZ za zb zc zd ze zg zh zi zj zk zl zm zn zo zq zr zs zt zu zw zx zy zz zth A L F hS hF => ?_
  cbv
  refine ⟨_, hS.call (cI), ?_⟩
  cbv
  exact hF _ (ResLe.refl _)
 refine callZ ccOk mixed [.val] Tryz.func20 rfl rfl (by kernel_rfl) fun zA zB zC zD zE zF zG zH zI zJ zK zL zM zN zO zP zQ zR zS zT zU zV zX zY zZ za zb zc zd ze zg zh zi zj zk zl zm zn zo zq zr zs zt zu zw zx zy zz zth A L F hS hF => ?_
 cbv
 refine ⟨_, hS.call (cA), ?_⟩
 cbv
 exact hF _ (ResLe.refl _)
theorem ivsub_call {x y z w : Rat} {n : Nat} (h1 : Qs x n) (h2 : Qs y n) (h3 : Qs z n) (h4 : Qs w n) (hn : n <= 1000000) :
  Qs (x - w) (n + n + 1) /\ Qs (y - z) (n + n + 1) /\ ACall Tryz.prog 22 [.val (.agg ((qc x).row ++ (qc y).row)), .val (.agg ((qc z).row ++ (qc w).row))] ⟨[.val (.agg ((qc (x - w)).row ++ (qc (y - z)).row))], [none, none]⟩ := by
 obtain ⟨q1, c1⟩ := psub_row h1 h4 (by omega)
 obtain ⟨q2, c2⟩ := psub_row h2 h3 (by omega)
 refine ⟨q1, q2, ?_⟩
 obtain ⟨s1, t1, r1, p1, e1, _⟩ := qrow x
 obtain ⟨s2, t2, r2, p2, e2, _⟩ := qrow y
 obtain ⟨s3, t3, r3, p3, e3, _⟩ := qrow z
 obtain ⟨s4, t4, r4, p4, e4, _⟩ := qrow w
 obtain ⟨s5, t5, r5, p5, e5, _⟩ := qrow (x - w)
 obtain ⟨s6, t6, r6, p6, e6, _⟩ := qrow (y - z)
 simp only [e1, e2, e3, e4, e5, e6] at c1 c2 ⊢
 clear e1 e2 e3 e4 e5 e6 q1 q2
 have cI : ACall Tryz.prog 73 [.val (.agg [.v (.bool s1), .lst false r1, .v (.bool t1), .lst false p1, .v (.bool s2), .lst false r2, .v (.bool t2), .lst false p2]), .val (.agg [.v (.bool s3), .lst false r3, .v (.bool t3), .lst false p3, .v (.bool s4), .lst false r4, .v (.bool t4), .lst false p4])] ⟨[.val (.agg [.v (.bool s5), .lst false r5, .v (.bool t5), .lst false p5, .v (.bool s6), .lst false r6, .v (.bool t6), .lst false p6])], [none, none]⟩ := by
  refine callZ ccOk mixed [.val] Tryz.func73 rfl rfl (by kernel_rfl) fun zA zB zC zD zE zF zG zH zI zJ zK zL zM zN zO zP zQ zR zS zT zU zV zX zY zZ za zb zc zd ze zg zh zi zj zk zl zm zn zo zq zr zs zt zu zw zx zy zz zth A L F hS hF => ?_
  cbv
  refine ⟨_, hS.call (c1), ?_⟩
  cbv
  refine ⟨_, hS.call (c2), ?_⟩
  cbv
  exact hF _ (ResLe.refl _)
 have cA : ACall Tryz.prog 71 [.val (.c (.v (.func (.func 73) #[] #[]))), .val (.agg [.v (.bool s1), .lst false r1, .v (.bool t1), .lst false p1, .v (.bool s2), .lst false r2, .v (.bool t2), .lst false p2]), .val (.agg [.v (.bool s3), .lst false r3, .v (.bool t3), .lst false p3, .v (.bool s4), .lst false r4, .v (.bool t4), .lst false p4])] ⟨[.val (.agg [.v (.bool s5), .lst false r5, .v (.bool t5), .lst false p5, .v (.bool s6), .lst false r6, .v (.bool t6), .lst false p6])], [none, none, none]⟩ := by
  refine callZ ccOk mixed [.val] Tryz.func71 rfl rfl (by kernel_rfl) fun zA zB zC zD zE zF zG zH zI zJ zK zL zM zN zO zP zQ zR zS zT zU zV zX zY zZ za zb zc zd ze zg zh zi zj zk zl zm zn zo zq zr zs zt zu zw zx zy zz zth A L F hS hF => ?_
  cbv
  refine ⟨_, hS.call (cI), ?_⟩
  cbv
  exact hF _ (ResLe.refl _)
 refine callZ ccOk mixed [.val] Tryz.func22 rfl rfl (by kernel_rfl) fun zA zB zC zD zE zF zG zH zI zJ zK zL zM zN zO zP zQ zR zS zT zU zV zX zY zZ za zb zc zd ze zg zh zi zj zk zl zm zn zo zq zr zs zt zu zw zx zy zz zth A L F hS hF => ?_
 cbv
 refine ⟨_, hS.call (cA), ?_⟩
 cbv
 exact hF _ (ResLe.refl _)
open Go Go.Abs Go.Abs.M Go.Proofs
theorem hull_call (x : Rat) (ys : List Rat) (hl : ys.length <= 100) (hq : ∀ q ∈ x :: ys, Qs q 68719476736) : ACall Tryz.prog 124 [.val (tl (ur (x :: ys)))] ⟨[.val (.agg ((qc (lmin x ys)).row ++ (qc (lmax x ys)).row))], [none]⟩ := by
 have c1 := least_call x ys hl hq
 have c2 := greatest_call x ys hl hq
 obtain ⟨s1, t1, r1, p1, e1, _⟩ := qrow (lmin x ys)
 obtain ⟨s2, t2, r2, p2, e2, _⟩ := qrow (lmax x ys)
 rw [e1] at c1
 rw [e2] at c2
 rw [e1, e2]
 generalize ur (x :: ys) = X at *
 refine callZ ccOk mixed [.val] Tryz.func124 rfl rfl (by kernel_rfl) fun zA zB zC zD zE zF zG zH zI zJ zK zL zM zN zO zP zQ zR zS zT zU zV zX zY zZ za zb zc zd ze zg zh zi zj zk zl zm zn zo zq zr zs zt zu zw zx zy zz zth A L F hS hF => ?_
 cbv
 refine ⟨_, hS.call (c1), ?_⟩
 cbv
 refine ⟨_, hS.call (c2), ?_⟩
 cbv
 exact hF _ (ResLe.refl _)
def mlo (x y z w : Rat) : Rat := rmin (rmin (x * z) (x * w)) (rmin (y * z) (y * w))
def mhi (x y z w : Rat) : Rat := rmax (rmax (x * z) (x * w)) (rmax (y * z) (y * w))
theorem lmin_four (p q r s : Rat) : lmin p [q, r, s] = rmin (rmin p q) (rmin r s) := by
 unfold lmin rmin
 simp only [List.foldl_cons, List.foldl_nil]
 grind
theorem lmax_four (p q r s : Rat) : lmax p [q, r, s] = rmax (rmax p q) (rmax r s) := by
 unfold lmax rmax
 simp only [List.foldl_cons, List.foldl_nil]
 grind
theorem rivmul_call {x y z w : Rat} {n : Nat} (h1 : Qs x n) (h2 : Qs y n) (h3 : Qs z n) (h4 : Qs w n) (hn : n <= 1000000) :
  Qs (mlo x y z w) (n + n) /\ Qs (mhi x y z w) (n + n) /\ ACall Tryz.prog 25 [.val (.agg ((qc x).row ++ (qc y).row)), .val (.agg ((qc z).row ++ (qc w).row))] ⟨[.val (.agg ((qc (mlo x y z w)).row ++ (qc (mhi x y z w)).row))], [none, none]⟩ := by
 obtain ⟨q1, c1⟩ := qbq h1 h3 (by omega)
 obtain ⟨q2, c2⟩ := qbq h1 h4 (by omega)
 obtain ⟨q3, c3⟩ := qbq h2 h3 (by omega)
 obtain ⟨q4, c4⟩ := qbq h2 h4 (by omega)
 have l1 := less_call (q1.mono (by omega)) (q2.mono (by omega))
 have l2 := less_call (q3.mono (by omega)) (q4.mono (by omega))
 have l3 := less_call ((rmin_qs q1 q2).mono (by omega)) ((rmin_qs q3 q4).mono (by omega))
 have m1 := more_call (q1.mono (by omega)) (q2.mono (by omega))
 have m2 := more_call (q3.mono (by omega)) (q4.mono (by omega))
 have m3 := more_call ((rmax_qs q1 q2).mono (by omega)) ((rmax_qs q3 q4).mono (by omega))
 refine ⟨rmin_qs (rmin_qs q1 q2) (rmin_qs q3 q4), rmax_qs (rmax_qs q1 q2) (rmax_qs q3 q4), ?_⟩
 clear q1 q2 q3 q4
 change ACall _ _ _ ⟨[.val (.agg (qc (mlo x y z w)).row)], _⟩ at l3
 change ACall _ _ _ ⟨[.val (.agg (qc (mhi x y z w)).row)], _⟩ at m3
 obtain ⟨s1, t1, r1, p1, e1, _⟩ := qrow x
 obtain ⟨s2, t2, r2, p2, e2, _⟩ := qrow y
 obtain ⟨s3, t3, r3, p3, e3, _⟩ := qrow z
 obtain ⟨s4, t4, r4, p4, e4, _⟩ := qrow w
 obtain ⟨s5, t5, r5, p5, e5, _⟩ := qrow (x * z)
 obtain ⟨s6, t6, r6, p6, e6, _⟩ := qrow (x * w)
 obtain ⟨s7, t7, r7, p7, e7, _⟩ := qrow (y * z)
 obtain ⟨s8, t8, r8, p8, e8, _⟩ := qrow (y * w)
 obtain ⟨s9, t9, r9, p9, e9, _⟩ := qrow (rmin (x * z) (x * w))
 obtain ⟨s10, t10, r10, p10, e10, _⟩ := qrow (rmin (y * z) (y * w))
 obtain ⟨s11, t11, r11, p11, e11, _⟩ := qrow (rmax (x * z) (x * w))
 obtain ⟨s12, t12, r12, p12, e12, _⟩ := qrow (rmax (y * z) (y * w))
 obtain ⟨s13, t13, r13, p13, e13, _⟩ := qrow (mlo x y z w)
 obtain ⟨s14, t14, r14, p14, e14, _⟩ := qrow (mhi x y z w)
 simp only [e1, e2, e3, e4, e5, e6, e7, e8, e9, e10, e11, e12, e13, e14] at c1 c2 c3 c4 l1 l2 l3 m1 m2 m3 ⊢
 clear e1 e2 e3 e4 e5 e6 e7 e8 e9 e10 e11 e12 e13 e14
 refine callZ ccOk mixed [.val] Tryz.func25 rfl rfl (by kernel_rfl) fun zA zB zC zD zE zF zG zH zI zJ zK zL zM zN zO zP zQ zR zS zT zU zV zX zY zZ za zb zc zd ze zg zh zi zj zk zl zm zn zo zq zr zs zt zu zw zx zy zz zth A L F hS hF => ?_
 cbv
 refine ⟨_, hS.call (c1), ?_⟩
 cbv
 refine ⟨_, hS.call (c2), ?_⟩
 cbv
 refine ⟨_, hS.call (c3), ?_⟩
 cbv
 refine ⟨_, hS.call (c4), ?_⟩
 cbv
 refine ⟨_, hS.call (l1), ?_⟩
 cbv
 refine ⟨_, hS.call (l2), ?_⟩
 cbv
 refine ⟨_, hS.call (l3), ?_⟩
 cbv
 refine ⟨_, hS.call (m1), ?_⟩
 cbv
 refine ⟨_, hS.call (m2), ?_⟩
 cbv
 refine ⟨_, hS.call (m3), ?_⟩
 cbv
 exact hF _ (ResLe.refl _)
theorem ivmul_call {x y z w : Rat} {n : Nat} (h1 : Qs x n) (h2 : Qs y n) (h3 : Qs z n) (h4 : Qs w n) (hn : n <= 1000000) :
  ACall Tryz.prog 24 [.val (.agg ((qc x).row ++ (qc y).row)), .val (.agg ((qc z).row ++ (qc w).row))] ⟨[.val (.agg ((qc (mlo x y z w)).row ++ (qc (mhi x y z w)).row))], [none, none]⟩ := by
 obtain ⟨q1, c1⟩ := pmul_row h1 h3 (by omega)
 obtain ⟨q2, c2⟩ := pmul_row h1 h4 (by omega)
 obtain ⟨q3, c3⟩ := pmul_row h2 h3 (by omega)
 obtain ⟨q4, c4⟩ := pmul_row h2 h4 (by omega)
 have ch := hull_call (x * z) [x * w, y * z, y * w] (by simp) (by
  simp only [List.mem_cons, List.not_mem_nil, or_false]
  rintro q (rfl | rfl | rfl | rfl)
  ·exact q1.mono (by omega)
  ·exact q2.mono (by omega)
  ·exact q3.mono (by omega)
  ·exact q4.mono (by omega))
 rw [lmin_four, lmax_four] at ch
 change ACall _ _ _ ⟨[.val (.agg ((qc (mlo x y z w)).row ++ (qc (mhi x y z w)).row))], _⟩ at ch
 rw [show ur [x * z, x * w, y * z, y * w] = [(qc (x * z)).row, (qc (x * w)).row, (qc (y * z)).row, (qc (y * w)).row] from rfl] at ch
 clear q1 q2 q3 q4
 obtain ⟨s1, t1, r1, p1, e1, _⟩ := qrow x
 obtain ⟨s2, t2, r2, p2, e2, _⟩ := qrow y
 obtain ⟨s3, t3, r3, p3, e3, _⟩ := qrow z
 obtain ⟨s4, t4, r4, p4, e4, _⟩ := qrow w
 obtain ⟨s5, t5, r5, p5, e5, _⟩ := qrow (x * z)
 obtain ⟨s6, t6, r6, p6, e6, _⟩ := qrow (x * w)
 obtain ⟨s7, t7, r7, p7, e7, _⟩ := qrow (y * z)
 obtain ⟨s8, t8, r8, p8, e8, _⟩ := qrow (y * w)
 obtain ⟨s13, t13, r13, p13, e13, _⟩ := qrow (mlo x y z w)
 obtain ⟨s14, t14, r14, p14, e14, _⟩ := qrow (mhi x y z w)
 simp only [e1, e2, e3, e4, e5, e6, e7, e8, e13, e14] at c1 c2 c3 c4 ch ⊢
 clear e1 e2 e3 e4 e5 e6 e7 e8 e13 e14
 obtain ⟨R, hR⟩ : ∃ R, R = [[Tree.v (.bool s5), .lst false r5, .v (.bool t5), .lst false p5], [.v (.bool s6), .lst false r6, .v (.bool t6), .lst false p6], [.v (.bool s7), .lst false r7, .v (.bool t7), .lst false p7], [.v (.bool s8), .lst false r8, .v (.bool t8), .lst false p8]] := ⟨_, rfl⟩
 have lR : R.length = 4 := by rw [hR]; rfl
 rw [<- hR] at ch
 have cI : ACall Tryz.prog 74 [.val (.agg [.v (.bool s1), .lst false r1, .v (.bool t1), .lst false p1, .v (.bool s2), .lst false r2, .v (.bool t2), .lst false p2]), .val (.agg [.v (.bool s3), .lst false r3, .v (.bool t3), .lst false p3, .v (.bool s4), .lst false r4, .v (.bool t4), .lst false p4])] ⟨[.val (.agg [.v (.bool s13), .lst false r13, .v (.bool t13), .lst false p13, .v (.bool s14), .lst false r14, .v (.bool t14), .lst false p14])], [none, none]⟩ := by
  refine callZ ccOk mixed [.val] Tryz.func74 rfl rfl (by kernel_rfl) fun zA zB zC zD zE zF zG zH zI zJ zK zL zM zN zO zP zQ zR zS zT zU zV zX zY zZ za zb zc zd ze zg zh zi zj zk zl zm zn zo zq zr zs zt zu zw zx zy zz zth A L F hS hF => ?_
  have f1 : zn 0 4 R = true := by rw [hS.fit, lR]; rfl
  have x1 : zo R 0 4 = R := by rw [hS.part, List.drop_zero, List.take_of_length_le (by omega)]
  cbv
  refine ⟨_, hS.call (c1), ?_⟩
  cbv
  refine ⟨_, hS.call (c2), ?_⟩
  cbv
  refine ⟨_, hS.call (c3), ?_⟩
  cbv
  refine ⟨_, hS.call (c4), ?_⟩
  cbv
  rw [<- hR]
  refine nd (f1) ?_
  rw [x1]
  refine ⟨_, hS.call (ch), ?_⟩
  cbv
  exact hF _ (ResLe.refl _)
 have cA : ACall Tryz.prog 71 [.val (.c (.v (.func (.func 74) #[] #[]))), .val (.agg [.v (.bool s1), .lst false r1, .v (.bool t1), .lst false p1, .v (.bool s2), .lst false r2, .v (.bool t2), .lst false p2]), .val (.agg [.v (.bool s3), .lst false r3, .v (.bool t3), .lst false p3, .v (.bool s4), .lst false r4, .v (.bool t4), .lst false p4])] ⟨[.val (.agg [.v (.bool s13), .lst false r13, .v (.bool t13), .lst false p13, .v (.bool s14), .lst false r14, .v (.bool t14), .lst false p14])], [none, none, none]⟩ := by
  refine callZ ccOk mixed [.val] Tryz.func71 rfl rfl (by kernel_rfl) fun zA zB zC zD zE zF zG zH zI zJ zK zL zM zN zO zP zQ zR zS zT zU zV zX zY zZ za zb zc zd ze zg zh zi zj zk zl zm zn zo zq zr zs zt zu zw zx zy zz zth A L F hS hF => ?_
  cbv
  refine ⟨_, hS.call (cI), ?_⟩
  cbv
  exact hF _ (ResLe.refl _)
 refine callZ ccOk mixed [.val] Tryz.func24 rfl rfl (by kernel_rfl) fun zA zB zC zD zE zF zG zH zI zJ zK zL zM zN zO zP zQ zR zS zT zU zV zX zY zZ za zb zc zd ze zg zh zi zj zk zl zm zn zo zq zr zs zt zu zw zx zy zz zth A L F hS hF => ?_
 cbv
 refine ⟨_, hS.call (cA), ?_⟩
 cbv
 exact hF _ (ResLe.refl _)
open Go Go.Abs Go.Abs.M Go.Proofs
def pwlo (x y : Rat) (k : Nat) : Rat := if 0 < k /\ k % 2 = 0 /\ x < 0 /\ 0 < y then 0 else rmin (x ^ k) (y ^ k)
def pwhi (x y : Rat) (k : Nat) : Rat := rmax (x ^ k) (y ^ k)
theorem rpow_add (x : Rat) (a : Nat) : ∀ b : Nat, x ^ (a + b) = x ^ a * x ^ b
 | 0 => by rw [Nat.add_zero, Rat.pow_zero, Rat.mul_one]
 | b + 1 => by rw [<- Nat.add_assoc, Rat.pow_succ, rpow_add x a b, Rat.pow_succ, Rat.mul_assoc]
theorem even_nonneg (x : Rat) (k : Nat) (h : k % 2 = 0) : 0 <= x ^ k := by
 obtain ⟨m, rfl⟩ : ∃ m, k = m + m := ⟨k / 2, by omega⟩
 rw [rpow_add]
 rcases (Rat.le_total (a := 0) (b := x ^ m)) with h0 | h0
 ·exact Rat.mul_nonneg h0 h0
 ·have h1 : 0 <= -(x ^ m) := by grind
  have := Rat.mul_nonneg h1 h1
  rw [Rat.neg_mul, Rat.mul_neg, Rat.neg_neg] at this
  exact this
theorem lmin_zero {a b : Rat} (h1 : 0 <= a) (h2 : 0 <= b) : lmin 0 [a, b] = 0 := by
 unfold lmin; simp only [List.foldl_cons, List.foldl_nil]; grind
theorem lmax_zero {a b : Rat} (h1 : 0 <= a) (h2 : 0 <= b) : lmax 0 [a, b] = rmax a b := by
 unfold lmax rmax; simp only [List.foldl_cons, List.foldl_nil]; grind
theorem rivpow_call {x y : Rat} {n : Nat} (k : Nat) (hk9 : k <= 9) (h1 : Qs x n) (h2 : Qs y n) (hn : n <= 1000000) :
  Qs (pwlo x y k) (1 + 9 * n) /\ Qs (pwhi x y k) (1 + 9 * n) /\ ACall Tryz.prog 27 [.val (.agg ((qc x).row ++ (qc y).row)), .val (ti .i64 (k : Int))] ⟨[.val (.agg ((qc (pwlo x y k)).row ++ (qc (pwhi x y k)).row))], [none, none]⟩ := by
 obtain ⟨q1, cp⟩ := ripower_call x k n (by omega) h1 (by omega)
 obtain ⟨q2, cq⟩ := ripower_call y k n (by omega) h2 (by omega)
 have hkn : k * n <= 9 * n := Nat.mul_le_mul_right _ hk9
 have q1 := q1.mono (b := 1 + 9 * n) (by omega)
 have q2 := q2.mono (b := 1 + 9 * n) (by omega)
 have cl := less_call (q1.mono (by omega)) (q2.mono (by omega))
 have cm := more_call (q1.mono (by omega)) (q2.mono (by omega))
 have cz := qa8 0 (by omega) (by omega)
 rw [show ((0 : Int) : Rat) = 0 from rfl] at cz
 refine ⟨by unfold pwlo; split; exact Qs.zero (by omega); exact rmin_qs q1 q2, rmax_qs q1 q2, ?_⟩
 clear q1 q2 hkn
 obtain ⟨c, c1, c2, ca⟩ := rqsign_ex x
 obtain ⟨d, d1, d2, cb⟩ := rqsign_ex y
 have hsplit : ¬ 0 < k ∨ (0 < k /\ ¬ k % 2 = 0) ∨ (0 < k /\ k % 2 = 0 /\ ¬ x < 0) ∨ (0 < k /\ k % 2 = 0 /\ x < 0 /\ ¬ 0 < y) ∨ (0 < k /\ k % 2 = 0 /\ x < 0 /\ 0 < y) := by
  by_cases a : 0 < k
  ·by_cases b : k % 2 = 0
   ·by_cases e : x < 0
    ·by_cases f : 0 < y
     ·exact .inr (.inr (.inr (.inr ⟨a, b, e, f⟩)))
     ·exact .inr (.inr (.inr (.inl ⟨a, b, e, f⟩)))
    ·exact .inr (.inr (.inl ⟨a, b, e⟩))
   ·exact .inr (.inl ⟨a, b⟩)
  ·exact .inl a
 unfold pwhi
 obtain ⟨s1, t1, r1, p1, e1, _⟩ := qrow x
 obtain ⟨s2, t2, r2, p2, e2, _⟩ := qrow y
 obtain ⟨s3, t3, r3, p3, e3, _⟩ := qrow (x ^ k)
 obtain ⟨s4, t4, r4, p4, e4, _⟩ := qrow (y ^ k)
 obtain ⟨s5, t5, r5, p5, e5, _⟩ := qrow (rmin (x ^ k) (y ^ k))
 obtain ⟨s6, t6, r6, p6, e6, _⟩ := qrow (rmax (x ^ k) (y ^ k))
 obtain ⟨s7, t7, r7, p7, e7, _⟩ := qrow 0
 obtain ⟨N, hN⟩ : ∃ N : Int, N = (k : Int) := ⟨_, rfl⟩
 rw [<- hN] at cp cq ⊢
 simp only [e1, e2, e3, e4, e5, e6, e7] at cp cq cl cm cz ca cb ⊢
 rcases hsplit with hk | ⟨hk, he⟩ | ⟨hk, he, hx⟩ | ⟨hk, he, hx, hy⟩ | ⟨hk, he, hx, hy⟩
 ·rw [pwlo, if_neg (fun h => hk h.1), e5]
  clear e1 e2 e3 e4 e5 e6 e7
  refine callZ ccOk mixed [.val] Tryz.func27 rfl rfl (by kernel_rfl) fun zA zB zC zD zE zF zG zH zI zJ zK zL zM zN zO zP zQ zR zS zT zU zV zX zY zZ za zb zc zd ze zg zh zi zj zk zl zm zn zo zq zr zs zt zu zw zx zy zz zth A L F hS hF => ?_
  have n1 : zO 0 N = false := by rw [hS.lt]; exact decide_eq_false (by omega)
  cbv
  refine ⟨_, hS.call (cp), ?_⟩
  cbv
  refine ⟨_, hS.call (cq), ?_⟩
  cbv
  refine ⟨_, hS.call (cl), ?_⟩
  cbv
  refine ⟨_, hS.call (cm), ?_⟩
  cbv
  refine bF (n1) ?_
  exact hF _ (ResLe.refl _)
 ·rw [pwlo, if_neg (fun h => he h.2.1), e5]
  clear e1 e2 e3 e4 e5 e6 e7
  refine callZ ccOk mixed [.val] Tryz.func27 rfl rfl (by kernel_rfl) fun zA zB zC zD zE zF zG zH zI zJ zK zL zM zN zO zP zQ zR zS zT zU zV zX zY zZ za zb zc zd ze zg zh zi zj zk zl zm zn zo zq zr zs zt zu zw zx zy zz zth A L F hS hF => ?_
  have n1 : zO 0 N = true := by rw [hS.lt]; exact decide_eq_true (by omega)
  have n2 : zM (zF N 2) 0 = false := by rw [hS.rem, Int.tmod_eq_emod_of_nonneg (by omega), hS.eq]; exact decide_eq_false (by omega)
  cbv
  refine ⟨_, hS.call (cp), ?_⟩
  cbv
  refine ⟨_, hS.call (cq), ?_⟩
  cbv
  refine ⟨_, hS.call (cl), ?_⟩
  cbv
  refine ⟨_, hS.call (cm), ?_⟩
  cbv
  refine bT (n1) ?_
  refine bF (n2) ?_
  exact hF _ (ResLe.refl _)
 ·rw [pwlo, if_neg (fun h => hx h.2.2.1), e5]
  clear e1 e2 e3 e4 e5 e6 e7
  refine callZ ccOk mixed [.val] Tryz.func27 rfl rfl (by kernel_rfl) fun zA zB zC zD zE zF zG zH zI zJ zK zL zM zN zO zP zQ zR zS zT zU zV zX zY zZ za zb zc zd ze zg zh zi zj zk zl zm zn zo zq zr zs zt zu zw zx zy zz zth A L F hS hF => ?_
  have n1 : zO 0 N = true := by rw [hS.lt]; exact decide_eq_true (by omega)
  have n2 : zM (zF N 2) 0 = true := by rw [hS.rem, Int.tmod_eq_emod_of_nonneg (by omega), hS.eq]; exact decide_eq_true (by omega)
  have n3 : zO c 0 = false := by rw [hS.lt]; exact decide_eq_false (fun h => hx (c1.1 h))
  cbv
  refine ⟨_, hS.call (cp), ?_⟩
  cbv
  refine ⟨_, hS.call (cq), ?_⟩
  cbv
  refine ⟨_, hS.call (cl), ?_⟩
  cbv
  refine ⟨_, hS.call (cm), ?_⟩
  cbv
  refine bT (n1) ?_
  refine bT (n2) ?_
  refine ⟨_, hS.call (ca), ?_⟩
  cbv
  refine bF (n3) ?_
  exact hF _ (ResLe.refl _)
 ·rw [pwlo, if_neg (fun h => hy h.2.2.2), e5]
  clear e1 e2 e3 e4 e5 e6 e7
  refine callZ ccOk mixed [.val] Tryz.func27 rfl rfl (by kernel_rfl) fun zA zB zC zD zE zF zG zH zI zJ zK zL zM zN zO zP zQ zR zS zT zU zV zX zY zZ za zb zc zd ze zg zh zi zj zk zl zm zn zo zq zr zs zt zu zw zx zy zz zth A L F hS hF => ?_
  have n1 : zO 0 N = true := by rw [hS.lt]; exact decide_eq_true (by omega)
  have n2 : zM (zF N 2) 0 = true := by rw [hS.rem, Int.tmod_eq_emod_of_nonneg (by omega), hS.eq]; exact decide_eq_true (by omega)
  have n3 : zO c 0 = true := by rw [hS.lt]; exact decide_eq_true (c1.2 hx)
  have n4 : zO 0 d = false := by rw [hS.lt]; exact decide_eq_false (fun h => hy (d2.1 h))
  cbv
  refine ⟨_, hS.call (cp), ?_⟩
  cbv
  refine ⟨_, hS.call (cq), ?_⟩
  cbv
  refine ⟨_, hS.call (cl), ?_⟩
  cbv
  refine ⟨_, hS.call (cm), ?_⟩
  cbv
  refine bT (n1) ?_
  refine bT (n2) ?_
  refine ⟨_, hS.call (ca), ?_⟩
  cbv
  refine bT (n3) ?_
  refine ⟨_, hS.call (cb), ?_⟩
  cbv
  refine bF (n4) ?_
  exact hF _ (ResLe.refl _)
 ·rw [pwlo, if_pos ⟨hk, he, hx, hy⟩, e7]
  clear e1 e2 e3 e4 e5 e6 e7
  refine callZ ccOk mixed [.val] Tryz.func27 rfl rfl (by kernel_rfl) fun zA zB zC zD zE zF zG zH zI zJ zK zL zM zN zO zP zQ zR zS zT zU zV zX zY zZ za zb zc zd ze zg zh zi zj zk zl zm zn zo zq zr zs zt zu zw zx zy zz zth A L F hS hF => ?_
  have n1 : zO 0 N = true := by rw [hS.lt]; exact decide_eq_true (by omega)
  have n2 : zM (zF N 2) 0 = true := by rw [hS.rem, Int.tmod_eq_emod_of_nonneg (by omega), hS.eq]; exact decide_eq_true (by omega)
  have n3 : zO c 0 = true := by rw [hS.lt]; exact decide_eq_true (c1.2 hx)
  have n4 : zO 0 d = true := by rw [hS.lt]; exact decide_eq_true (d2.2 hy)
  cbv
  refine ⟨_, hS.call (cp), ?_⟩
  cbv
  refine ⟨_, hS.call (cq), ?_⟩
  cbv
  refine ⟨_, hS.call (cl), ?_⟩
  cbv
  refine ⟨_, hS.call (cm), ?_⟩
  cbv
  refine bT (n1) ?_
  refine bT (n2) ?_
  refine ⟨_, hS.call (ca), ?_⟩
  cbv
  refine bT (n3) ?_
  refine ⟨_, hS.call (cb), ?_⟩
  cbv
  refine bT (n4) ?_
  refine ⟨_, hS.call (cz), ?_⟩
  cbv
  exact hF _ (ResLe.refl _)
theorem ivpow_call {x y : Rat} {n : Nat} (k : Nat) (hk9 : k <= 9) (h1 : Qs x n) (h2 : Qs y n) (hn : n <= 1000000) :
  ACall Tryz.prog 26 [.val (.agg ((qc x).row ++ (qc y).row)), .val (ti .i64 (k : Int))] ⟨[.val (.agg ((qc (pwlo x y k)).row ++ (qc (pwhi x y k)).row))], [none, none]⟩ := by
 obtain ⟨q1, cp⟩ := ipower_call x k n (by omega) h1 (by omega)
 obtain ⟨q2, cq⟩ := ipower_call y k n (by omega) h2 (by omega)
 have hkn : k * n <= 9 * n := Nat.mul_le_mul_right _ hk9
 have q1 := q1.mono (b := 68719476736) (by omega)
 have q2 := q2.mono (b := 68719476736) (by omega)
 have cz := pwhole_row 0 (by omega) (by omega)
 rw [show ((0 : Int) : Rat) = 0 from rfl] at cz
 have ch := hull_call (x ^ k) [y ^ k] (by simp) (by simp; exact ⟨q1, q2⟩)
 have ch3 := hull_call 0 [x ^ k, y ^ k] (by simp) (by simp; exact ⟨Qs.zero (by omega), q1, q2⟩)
 rw [lmin_one, lmax_one] at ch
 rw [show ur [x ^ k, y ^ k] = [(qc (x ^ k)).row, (qc (y ^ k)).row] from rfl] at ch
 rw [show ur [0, x ^ k, y ^ k] = [(qc 0).row, (qc (x ^ k)).row, (qc (y ^ k)).row] from rfl] at ch3
 have ch3 : k % 2 = 0 -> ACall Tryz.prog 124 [.val (tl [(qc 0).row, (qc (x ^ k)).row, (qc (y ^ k)).row])] ⟨[.val (.agg ((qc 0).row ++ (qc (rmax (x ^ k) (y ^ k))).row))], [none]⟩ := fun h => by
  rw [lmin_zero (even_nonneg x k h) (even_nonneg y k h), lmax_zero (even_nonneg x k h) (even_nonneg y k h)] at ch3
  exact ch3
 clear q1 q2 hkn
 obtain ⟨c, c1, c2, ca⟩ := psign_ex x
 obtain ⟨d, d1, d2, cb⟩ := psign_ex y
 have hsplit : ¬ 0 < k ∨ (0 < k /\ ¬ k % 2 = 0) ∨ (0 < k /\ k % 2 = 0 /\ ¬ x < 0) ∨ (0 < k /\ k % 2 = 0 /\ x < 0 /\ ¬ 0 < y) ∨ (0 < k /\ k % 2 = 0 /\ x < 0 /\ 0 < y) := by
  by_cases a : 0 < k
  ·by_cases b : k % 2 = 0
   ·by_cases e : x < 0
    ·by_cases f : 0 < y
     ·exact .inr (.inr (.inr (.inr ⟨a, b, e, f⟩)))
     ·exact .inr (.inr (.inr (.inl ⟨a, b, e, f⟩)))
    ·exact .inr (.inr (.inl ⟨a, b, e⟩))
   ·exact .inr (.inl ⟨a, b⟩)
  ·exact .inl a
 unfold pwhi
 obtain ⟨s1, t1, r1, p1, e1, _⟩ := qrow x
 obtain ⟨s2, t2, r2, p2, e2, _⟩ := qrow y
 obtain ⟨s3, t3, r3, p3, e3, _⟩ := qrow (x ^ k)
 obtain ⟨s4, t4, r4, p4, e4, _⟩ := qrow (y ^ k)
 obtain ⟨s5, t5, r5, p5, e5, _⟩ := qrow (rmin (x ^ k) (y ^ k))
 obtain ⟨s6, t6, r6, p6, e6, _⟩ := qrow (rmax (x ^ k) (y ^ k))
 obtain ⟨s7, t7, r7, p7, e7, _⟩ := qrow 0
 obtain ⟨N, hN⟩ : ∃ N : Int, N = (k : Int) := ⟨_, rfl⟩
 rw [<- hN] at cp cq ⊢
 simp only [e1, e2, e3, e4, e5, e6, e7] at cp cq ch ch3 cz ca cb ⊢
 obtain ⟨R, hR⟩ : ∃ R, R = [[Tree.v (.bool s3), .lst false r3, .v (.bool t3), .lst false p3], [Tree.v (.bool s4), .lst false r4, .v (.bool t4), .lst false p4]] := ⟨_, rfl⟩
 obtain ⟨R3, hR3⟩ : ∃ R, R = [[Tree.v (.bool s7), .lst false r7, .v (.bool t7), .lst false p7], [Tree.v (.bool s3), .lst false r3, .v (.bool t3), .lst false p3], [Tree.v (.bool s4), .lst false r4, .v (.bool t4), .lst false p4]] := ⟨_, rfl⟩
 have lR : R.length = 2 := by rw [hR]; rfl
 have lR3 : R3.length = 3 := by rw [hR3]; rfl
 rw [<- hR] at ch
 rw [<- hR3] at ch3
 rcases hsplit with hk | ⟨hk, he⟩ | ⟨hk, he, hx⟩ | ⟨hk, he, hx, hy⟩ | ⟨hk, he, hx, hy⟩
 ·rw [pwlo, if_neg (fun h => hk h.1), e5]
  clear e1 e2 e3 e4 e5 e6 e7
  have cI : ACall Tryz.prog 75 [.val (.agg [.v (.bool s1), .lst false r1, .v (.bool t1), .lst false p1, .v (.bool s2), .lst false r2, .v (.bool t2), .lst false p2]), .val (ti .i64 N)] ⟨[.val (.agg [.v (.bool s5), .lst false r5, .v (.bool t5), .lst false p5, .v (.bool s6), .lst false r6, .v (.bool t6), .lst false p6])], [none, none]⟩ := by
   refine callZ ccOk mixed [.val] Tryz.func75 rfl rfl (by kernel_rfl) fun zA zB zC zD zE zF zG zH zI zJ zK zL zM zN zO zP zQ zR zS zT zU zV zX zY zZ za zb zc zd ze zg zh zi zj zk zl zm zn zo zq zr zs zt zu zw zx zy zz zth A L F hS hF => ?_
   have n1 : zO 0 N = false := by rw [hS.lt]; exact decide_eq_false (by omega)
   have f1 : zn 0 2 R = true := by rw [hS.fit, lR]; rfl
   have x1 : zo R 0 2 = R := by rw [hS.part, List.drop_zero, List.take_of_length_le (by omega)]
   cbv
   refine ⟨_, hS.call (cp), ?_⟩
   cbv
   refine ⟨_, hS.call (cq), ?_⟩
   cbv
   refine bF (n1) ?_
   rw [<- hR]
   refine nd (f1) ?_
   rw [x1]
   refine ⟨_, hS.call (ch), ?_⟩
   cbv
   exact hF _ (ResLe.refl _)
  refine callZ ccOk mixed [.val] Tryz.func26 rfl rfl (by kernel_rfl) fun zA zB zC zD zE zF zG zH zI zJ zK zL zM zN zO zP zQ zR zS zT zU zV zX zY zZ za zb zc zd ze zg zh zi zj zk zl zm zn zo zq zr zs zt zu zw zx zy zz zth A L F hS hF => ?_
  cbv
  refine ⟨_, hS.call (cI), ?_⟩
  cbv
  exact hF _ (ResLe.refl _)
 ·rw [pwlo, if_neg (fun h => he h.2.1), e5]
  clear e1 e2 e3 e4 e5 e6 e7
  have cI : ACall Tryz.prog 75 [.val (.agg [.v (.bool s1), .lst false r1, .v (.bool t1), .lst false p1, .v (.bool s2), .lst false r2, .v (.bool t2), .lst false p2]), .val (ti .i64 N)] ⟨[.val (.agg [.v (.bool s5), .lst false r5, .v (.bool t5), .lst false p5, .v (.bool s6), .lst false r6, .v (.bool t6), .lst false p6])], [none, none]⟩ := by
   refine callZ ccOk mixed [.val] Tryz.func75 rfl rfl (by kernel_rfl) fun zA zB zC zD zE zF zG zH zI zJ zK zL zM zN zO zP zQ zR zS zT zU zV zX zY zZ za zb zc zd ze zg zh zi zj zk zl zm zn zo zq zr zs zt zu zw zx zy zz zth A L F hS hF => ?_
   have n1 : zO 0 N = true := by rw [hS.lt]; exact decide_eq_true (by omega)
   have n2 : zM (zF N 2) 0 = false := by rw [hS.rem, Int.tmod_eq_emod_of_nonneg (by omega), hS.eq]; exact decide_eq_false (by omega)
   have f1 : zn 0 2 R = true := by rw [hS.fit, lR]; rfl
   have x1 : zo R 0 2 = R := by rw [hS.part, List.drop_zero, List.take_of_length_le (by omega)]
   cbv
   refine ⟨_, hS.call (cp), ?_⟩
   cbv
   refine ⟨_, hS.call (cq), ?_⟩
   cbv
   refine bT (n1) ?_
   refine bF (n2) ?_
   rw [<- hR]
   refine nd (f1) ?_
   rw [x1]
   refine ⟨_, hS.call (ch), ?_⟩
   cbv
   exact hF _ (ResLe.refl _)
  refine callZ ccOk mixed [.val] Tryz.func26 rfl rfl (by kernel_rfl) fun zA zB zC zD zE zF zG zH zI zJ zK zL zM zN zO zP zQ zR zS zT zU zV zX zY zZ za zb zc zd ze zg zh zi zj zk zl zm zn zo zq zr zs zt zu zw zx zy zz zth A L F hS hF => ?_
  cbv
  refine ⟨_, hS.call (cI), ?_⟩
  cbv
  exact hF _ (ResLe.refl _)
 ·rw [pwlo, if_neg (fun h => hx h.2.2.1), e5]
  clear e1 e2 e3 e4 e5 e6 e7
  have cI : ACall Tryz.prog 75 [.val (.agg [.v (.bool s1), .lst false r1, .v (.bool t1), .lst false p1, .v (.bool s2), .lst false r2, .v (.bool t2), .lst false p2]), .val (ti .i64 N)] ⟨[.val (.agg [.v (.bool s5), .lst false r5, .v (.bool t5), .lst false p5, .v (.bool s6), .lst false r6, .v (.bool t6), .lst false p6])], [none, none]⟩ := by
   refine callZ ccOk mixed [.val] Tryz.func75 rfl rfl (by kernel_rfl) fun zA zB zC zD zE zF zG zH zI zJ zK zL zM zN zO zP zQ zR zS zT zU zV zX zY zZ za zb zc zd ze zg zh zi zj zk zl zm zn zo zq zr zs zt zu zw zx zy zz zth A L F hS hF => ?_
   have n1 : zO 0 N = true := by rw [hS.lt]; exact decide_eq_true (by omega)
   have n2 : zM (zF N 2) 0 = true := by rw [hS.rem, Int.tmod_eq_emod_of_nonneg (by omega), hS.eq]; exact decide_eq_true (by omega)
   have n3 : zO c 0 = false := by rw [hS.lt]; exact decide_eq_false (fun h => hx (c1.1 h))
   have f1 : zn 0 2 R = true := by rw [hS.fit, lR]; rfl
   have x1 : zo R 0 2 = R := by rw [hS.part, List.drop_zero, List.take_of_length_le (by omega)]
   cbv
   refine ⟨_, hS.call (cp), ?_⟩
   cbv
   refine ⟨_, hS.call (cq), ?_⟩
   cbv
   refine bT (n1) ?_
   refine bT (n2) ?_
   refine ⟨_, hS.call (ca), ?_⟩
   cbv
   refine bF (n3) ?_
   rw [<- hR]
   refine nd (f1) ?_
   rw [x1]
   refine ⟨_, hS.call (ch), ?_⟩
   cbv
   exact hF _ (ResLe.refl _)
  refine callZ ccOk mixed [.val] Tryz.func26 rfl rfl (by kernel_rfl) fun zA zB zC zD zE zF zG zH zI zJ zK zL zM zN zO zP zQ zR zS zT zU zV zX zY zZ za zb zc zd ze zg zh zi zj zk zl zm zn zo zq zr zs zt zu zw zx zy zz zth A L F hS hF => ?_
  cbv
  refine ⟨_, hS.call (cI), ?_⟩
  cbv
  exact hF _ (ResLe.refl _)
 ·rw [pwlo, if_neg (fun h => hy h.2.2.2), e5]
  clear e1 e2 e3 e4 e5 e6 e7
  have cI : ACall Tryz.prog 75 [.val (.agg [.v (.bool s1), .lst false r1, .v (.bool t1), .lst false p1, .v (.bool s2), .lst false r2, .v (.bool t2), .lst false p2]), .val (ti .i64 N)] ⟨[.val (.agg [.v (.bool s5), .lst false r5, .v (.bool t5), .lst false p5, .v (.bool s6), .lst false r6, .v (.bool t6), .lst false p6])], [none, none]⟩ := by
   refine callZ ccOk mixed [.val] Tryz.func75 rfl rfl (by kernel_rfl) fun zA zB zC zD zE zF zG zH zI zJ zK zL zM zN zO zP zQ zR zS zT zU zV zX zY zZ za zb zc zd ze zg zh zi zj zk zl zm zn zo zq zr zs zt zu zw zx zy zz zth A L F hS hF => ?_
   have n1 : zO 0 N = true := by rw [hS.lt]; exact decide_eq_true (by omega)
   have n2 : zM (zF N 2) 0 = true := by rw [hS.rem, Int.tmod_eq_emod_of_nonneg (by omega), hS.eq]; exact decide_eq_true (by omega)
   have n3 : zO c 0 = true := by rw [hS.lt]; exact decide_eq_true (c1.2 hx)
   have n4 : zO 0 d = false := by rw [hS.lt]; exact decide_eq_false (fun h => hy (d2.1 h))
   have f1 : zn 0 2 R = true := by rw [hS.fit, lR]; rfl
   have x1 : zo R 0 2 = R := by rw [hS.part, List.drop_zero, List.take_of_length_le (by omega)]
   cbv
   refine ⟨_, hS.call (cp), ?_⟩
   cbv
   refine ⟨_, hS.call (cq), ?_⟩
   cbv
   refine bT (n1) ?_
   refine bT (n2) ?_
   refine ⟨_, hS.call (ca), ?_⟩
   cbv
   refine bT (n3) ?_
   refine ⟨_, hS.call (cb), ?_⟩
   cbv
   refine bF (n4) ?_
   rw [<- hR]
   refine nd (f1) ?_
   rw [x1]
   refine ⟨_, hS.call (ch), ?_⟩
   cbv
   exact hF _ (ResLe.refl _)
  refine callZ ccOk mixed [.val] Tryz.func26 rfl rfl (by kernel_rfl) fun zA zB zC zD zE zF zG zH zI zJ zK zL zM zN zO zP zQ zR zS zT zU zV zX zY zZ za zb zc zd ze zg zh zi zj zk zl zm zn zo zq zr zs zt zu zw zx zy zz zth A L F hS hF => ?_
  cbv
  refine ⟨_, hS.call (cI), ?_⟩
  cbv
  exact hF _ (ResLe.refl _)
 ·rw [pwlo, if_pos ⟨hk, he, hx, hy⟩, e7]
  have ch3 := ch3 he
  clear e1 e2 e3 e4 e5 e6 e7
  have cI : ACall Tryz.prog 75 [.val (.agg [.v (.bool s1), .lst false r1, .v (.bool t1), .lst false p1, .v (.bool s2), .lst false r2, .v (.bool t2), .lst false p2]), .val (ti .i64 N)] ⟨[.val (.agg [.v (.bool s7), .lst false r7, .v (.bool t7), .lst false p7, .v (.bool s6), .lst false r6, .v (.bool t6), .lst false p6])], [none, none]⟩ := by
   refine callZ ccOk mixed [.val] Tryz.func75 rfl rfl (by kernel_rfl) fun zA zB zC zD zE zF zG zH zI zJ zK zL zM zN zO zP zQ zR zS zT zU zV zX zY zZ za zb zc zd ze zg zh zi zj zk zl zm zn zo zq zr zs zt zu zw zx zy zz zth A L F hS hF => ?_
   have n1 : zO 0 N = true := by rw [hS.lt]; exact decide_eq_true (by omega)
   have n2 : zM (zF N 2) 0 = true := by rw [hS.rem, Int.tmod_eq_emod_of_nonneg (by omega), hS.eq]; exact decide_eq_true (by omega)
   have n3 : zO c 0 = true := by rw [hS.lt]; exact decide_eq_true (c1.2 hx)
   have n4 : zO 0 d = true := by rw [hS.lt]; exact decide_eq_true (d2.2 hy)
   have f1 : zn 0 3 R3 = true := by rw [hS.fit, lR3]; rfl
   have x1 : zo R3 0 3 = R3 := by rw [hS.part, List.drop_zero, List.take_of_length_le (by omega)]
   cbv
   refine ⟨_, hS.call (cp), ?_⟩
   cbv
   refine ⟨_, hS.call (cq), ?_⟩
   cbv
   refine bT (n1) ?_
   refine bT (n2) ?_
   refine ⟨_, hS.call (ca), ?_⟩
   cbv
   refine bT (n3) ?_
   refine ⟨_, hS.call (cb), ?_⟩
   cbv
   refine bT (n4) ?_
   refine ⟨_, hS.call (cz), ?_⟩
   cbv
   rw [<- hR3]
   refine nd (f1) ?_
   rw [x1]
   refine ⟨_, hS.call (ch3), ?_⟩
   cbv
   exact hF _ (ResLe.refl _)
  refine callZ ccOk mixed [.val] Tryz.func26 rfl rfl (by kernel_rfl) fun zA zB zC zD zE zF zG zH zI zJ zK zL zM zN zO zP zQ zR zS zT zU zV zX zY zZ za zb zc zd ze zg zh zi zj zk zl zm zn zo zq zr zs zt zu zw zx zy zz zth A L F hS hF => ?_
  cbv
  refine ⟨_, hS.call (cI), ?_⟩
  cbv
  exact hF _ (ResLe.refl _)
open Go Go.Abs Go.Abs.M Go.Proofs
theorem rsub_mul (a b c : Rat) : (a - b) * c = a * c - b * c := by grind
theorem rmul_sub (a b c : Rat) : a * (b - c) = a * b - a * c := by grind
theorem rmin_l (a b : Rat) : rmin a b <= a := by unfold rmin; grind
theorem rmin_r (a b : Rat) : rmin a b <= b := by unfold rmin; grind
theorem rmax_l (a b : Rat) : a <= rmax a b := by unfold rmax; grind
theorem rmax_r (a b : Rat) : b <= rmax a b := by unfold rmax; grind
theorem bet {a b t c : Rat} (h1 : a <= t) (h2 : t <= b) : rmin (a * c) (b * c) <= t * c /\ t * c <= rmax (a * c) (b * c) := by
 have m1 := rmin_l (a * c) (b * c)
 have m2 := rmin_r (a * c) (b * c)
 have m3 := rmax_l (a * c) (b * c)
 have m4 := rmax_r (a * c) (b * c)
 rcases (Rat.le_total (a := 0) (b := c)) with h | h
 ·have e1 := Rat.mul_nonneg (a := t - a) (b := c) (by grind) h
  have e2 := Rat.mul_nonneg (a := b - t) (b := c) (by grind) h
  rw [rsub_mul] at e1 e2
  exact ⟨by grind, by grind⟩
 ·have e1 := Rat.mul_nonneg (a := t - a) (b := -c) (by grind) (by grind)
  have e2 := Rat.mul_nonneg (a := b - t) (b := -c) (by grind) (by grind)
  rw [Rat.mul_neg, rsub_mul] at e1 e2
  exact ⟨by grind, by grind⟩
theorem mul_in {x y z w u v : Rat} (h1 : x <= u) (h2 : u <= y) (h3 : z <= v) (h4 : v <= w) : mlo x y z w <= u * v /\ u * v <= mhi x y z w := by
 obtain ⟨a1, a2⟩ := bet (c := v) h1 h2
 obtain ⟨b1, b2⟩ := bet (c := x) h3 h4
 obtain ⟨c1, c2⟩ := bet (c := y) h3 h4
 rw [Rat.mul_comm z x, Rat.mul_comm w x, Rat.mul_comm v x] at b1 b2
 rw [Rat.mul_comm z y, Rat.mul_comm w y, Rat.mul_comm v y] at c1 c2
 have d1 : mlo x y z w <= x * v := Rat.le_trans (rmin_l _ _) b1
 have d2 : mlo x y z w <= y * v := Rat.le_trans (rmin_r _ _) c1
 have d3 : x * v <= mhi x y z w := Rat.le_trans b2 (rmax_l _ _)
 have d4 : y * v <= mhi x y z w := Rat.le_trans c2 (rmax_r _ _)
 have f1 : mlo x y z w <= rmin (x * v) (y * v) := by unfold rmin; split <;> assumption
 have f2 : rmax (x * v) (y * v) <= mhi x y z w := by unfold rmax; split <;> assumption
 exact ⟨Rat.le_trans f1 a1, Rat.le_trans a2 f2⟩
theorem qbo {a b : Rat} (h0 : 0 <= a) (h : a <= b) : ∀ k : Nat, 0 <= a ^ k /\ a ^ k <= b ^ k
 | 0 => by rw [Rat.pow_zero, Rat.pow_zero]; exact ⟨by decide, Rat.le_refl⟩
 | k + 1 => by
  obtain ⟨h1, h2⟩ := qbo h0 h k
  rw [Rat.pow_succ, Rat.pow_succ]
  have e0 := Rat.mul_nonneg h1 h0
  have e1 := Rat.mul_nonneg (a := b ^ k - a ^ k) (b := b) (by grind) (by grind)
  have e2 := Rat.mul_nonneg (a := a ^ k) (b := b - a) h1 (by grind)
  rw [rsub_mul] at e1
  rw [rmul_sub] at e2
  exact ⟨e0, by grind⟩
theorem neg_pow (a : Rat) : ∀ k : Nat, (-a) ^ k = if k % 2 = 0 then a ^ k else -(a ^ k)
 | 0 => by rw [Rat.pow_zero, Rat.pow_zero]; rfl
 | k + 1 => by
  rw [Rat.pow_succ, neg_pow a k, Rat.pow_succ]
  by_cases h : k % 2 = 0
  ·rw [if_pos h, if_neg (by omega), Rat.mul_neg]
  ·rw [if_neg h, if_pos (by omega), Rat.mul_neg, Rat.neg_mul, Rat.neg_neg]
theorem pow_in {x y u : Rat} (h1 : x <= u) (h2 : u <= y) (k : Nat) : pwlo x y k <= u ^ k /\ u ^ k <= pwhi x y k := by
 have m1 := rmin_l (x ^ k) (y ^ k)
 have m2 := rmin_r (x ^ k) (y ^ k)
 have m3 := rmax_l (x ^ k) (y ^ k)
 have m4 := rmax_r (x ^ k) (y ^ k)
 unfold pwhi
 by_cases hx : 0 <= x
 ·have p1 := qbo hx h1 k
  have p2 := qbo (Rat.le_trans hx h1) h2 k
  rw [pwlo, if_neg (fun h => Rat.not_lt.2 hx h.2.2.1)]
  exact ⟨by grind, by grind⟩
 ·by_cases hy : y <= 0
  ·have p1 := qbo (a := -y) (b := -u) (by grind) (by grind) k
   have p2 := qbo (a := -u) (b := -x) (by grind) (by grind) k
   rw [pwlo, if_neg (fun h => Rat.not_lt.2 hy h.2.2.2)]
   rw [neg_pow, neg_pow] at p1 p2
   by_cases he : k % 2 = 0
   ·simp only [if_pos he] at p1 p2
    exact ⟨by grind, by grind⟩
   ·simp only [if_neg he] at p1 p2
    exact ⟨by grind, by grind⟩
  ·by_cases he : k % 2 = 0
   ·have hu : u ^ k <= rmax (x ^ k) (y ^ k) := by
     rcases (Rat.le_total (a := 0) (b := u)) with h | h
     ·have := (qbo h h2 k).2; grind
     ·have := (qbo (a := -u) (b := -x) (by grind) (by grind) k).2
      rw [neg_pow, neg_pow, if_pos he, if_pos he] at this
      grind
    refine ⟨?_, hu⟩
    unfold pwlo
    split
    ·exact even_nonneg u k he
    ·rename_i hc
     have hk : k = 0 := by
      rcases Nat.eq_zero_or_pos k with h | h
      ·exact h
      ·exact absurd ⟨h, he, Rat.not_le.1 hx, Rat.not_le.1 hy⟩ hc
     subst hk
     rw [Rat.pow_zero, Rat.pow_zero, Rat.pow_zero]
     exact rmin_l 1 1
   ·rw [pwlo, if_neg (fun h => he h.2.1)]
    rcases (Rat.le_total (a := 0) (b := u)) with h | h
    ·have p1 := qbo h h2 k
     have p2 := (qbo (a := 0) (b := -x) Rat.le_refl (by grind) k)
     have p3 : 0 <= (-x) ^ k := Rat.le_trans p2.1 p2.2
     rw [neg_pow, if_neg he] at p3
     exact ⟨by grind, by grind⟩
    ·have p1 := (qbo (a := -u) (b := -x) (by grind) (by grind) k)
     rw [neg_pow, neg_pow, if_neg he, if_neg he] at p1
     have p2 := (qbo (a := 0) (b := y) Rat.le_refl (by grind) k)
     have p3 : 0 <= y ^ k := Rat.le_trans p2.1 p2.2
     exact ⟨by grind, by grind⟩
theorem iat_in {p q : Rat} (h : p <= q) (k : Int) (k1 : 0 <= k) : p <= iat p q k /\ iat p q k <= q := by
 unfold iat
 obtain ⟨c, hc⟩ : ∃ c, c = ((k % 17 : Int) : Rat) * ((16 : Int) : Rat)⁻¹ := ⟨_, rfl⟩
 rw [<- hc]
 have h0 : (0 : Rat) <= ((k % 17 : Int) : Rat) := by
  have : (0 : Int) <= k % 17 := by omega
  exact_mod_cast this
 have h16 : ((k % 17 : Int) : Rat) <= ((16 : Int) : Rat) := by
  have : k % 17 <= (16 : Int) := by omega
  exact_mod_cast this
 have hi : (0 : Rat) <= ((16 : Int) : Rat)⁻¹ := by decide +kernel
 have c0 : 0 <= c := by rw [hc]; exact Rat.mul_nonneg h0 hi
 have c1 : c <= 1 := by
  have := Rat.mul_nonneg (a := ((16 : Int) : Rat) - ((k % 17 : Int) : Rat)) (b := ((16 : Int) : Rat)⁻¹) (by grind) hi
  rw [rsub_mul, Rat.mul_inv_cancel _ (by decide +kernel), <- hc] at this
  grind
 have e1 := Rat.mul_nonneg (a := c) (b := q - p) c0 (by grind)
 have e2 := Rat.mul_nonneg (a := 1 - c) (b := q - p) (by grind) (by grind)
 rw [rsub_mul, Rat.one_mul] at e2
 exact ⟨by grind, by grind⟩
theorem mlo_corner (x y z w : Rat) : mlo x y z w = x * z ∨ mlo x y z w = y * z ∨ mlo x y z w = x * w ∨ mlo x y z w = y * w := by
 unfold mlo rmin
 grind
open Go Go.Abs Go.Abs.M Go.Proofs
def rawI : Shape := .struct [.int .i8, .int .i8, .int .u8]
theorem rawI_ok {ts : List Tree} (h : rawI.ok ts) : ∃ x : RI, ts = x.row /\ x.ok := by
 obtain ⟨_, _, rfl, ⟨a, rfl, ha⟩, _, _, rfl, ⟨b, rfl, hb⟩, _, _, rfl, ⟨c, rfl, hc⟩, rfl⟩ := h
 have ha := bd_i8 ha
 have hb := bd_i8 hb
 have hc := bd_u8 hc
 exact ⟨⟨a, b, c⟩, rfl, ha.1, ha.2, hb.1, hb.2, hc.1, hc.2⟩
open Go Go.Abs Go.Abs.M Go.Proofs
theorem rqsame_b {x y : Rat} (h1 : Qs x 68719476736) (b : Bool) (hb : b = true ↔ x = y) :
  ACall Tryz.prog 33 [.val (.agg (qc x).row), .val (.agg (qc y).row)] ⟨[.val (tb b)], [none, none]⟩ :=
 rqsame_call b (qa3 x) (qa3 y) hb h1
theorem among_call {x y z : Rat} (h1 : Qs x 68719476736) (h2 : Qs y 68719476736) (h : z = x ∨ z = y) :
  ACall Tryz.prog 34 [.val (.agg ((qc x).row ++ (qc y).row)), .val (.agg (qc z).row)] ⟨[.val (tb true)], [none, none]⟩ := by
 obtain ⟨b, hb⟩ := bool_ex (x = z)
 have c1 := rqsame_b h1 b hb
 have c2 : b = false -> ACall Tryz.prog 33 [.val (.agg (qc y).row), .val (.agg (qc z).row)] ⟨[.val (tb true)], [none, none]⟩ := fun h0 => rqsame_b h2 true ⟨fun _ => by
  rcases h with h | h
  ·have := hb.2 h.symm; rw [h0] at this; cases this
  ·exact h.symm, fun _ => rfl⟩
 obtain ⟨s1, t1, r1, p1, e1, _⟩ := qrow x
 obtain ⟨s2, t2, r2, p2, e2, _⟩ := qrow y
 obtain ⟨s3, t3, r3, p3, e3, _⟩ := qrow z
 simp only [e1, e2, e3] at c1 c2 ⊢
 clear e1 e2 e3
 cases b with
 | true =>
  refine callZ ccOk mixed [.val] Tryz.func34 rfl rfl (by kernel_rfl) fun zA zB zC zD zE zF zG zH zI zJ zK zL zM zN zO zP zQ zR zS zT zU zV zX zY zZ za zb zc zd ze zg zh zi zj zk zl zm zn zo zq zr zs zt zu zw zx zy zz zth A L F hS hF => ?_
  cbv
  refine ⟨_, hS.call (c1), ?_⟩
  cbv
  refine bT rfl ?_
  exact hF _ (ResLe.refl _)
 | false =>
  have c2 := c2 rfl
  refine callZ ccOk mixed [.val] Tryz.func34 rfl rfl (by kernel_rfl) fun zA zB zC zD zE zF zG zH zI zJ zK zL zM zN zO zP zQ zR zS zT zU zV zX zY zZ za zb zc zd ze zg zh zi zj zk zl zm zn zo zq zr zs zt zu zw zx zy zz zth A L F hS hF => ?_
  cbv
  refine ⟨_, hS.call (c1), ?_⟩
  cbv
  refine bF rfl ?_
  refine ⟨_, hS.call (c2), ?_⟩
  cbv
  exact hF _ (ResLe.refl _)
def ivcSt (K : Int) (A B U V S D P Q W : List Tree) (I : Int) : St := mkSt 161 [.junk, .junk, .junk, .junk, .junk, .junk, .junk, vb true, .c (.ptr 12 0 0), .c (.ptr 13 0 0), .c (.ptr 18 0 0), .c (.ptr 19 0 0), vi .i64 K, .c (.ptr 28 0 0), .c (.ptr 29 0 0), .c (.ptr 30 0 0), .c (.ptr 31 0 0), .c (.ptr 34 0 0), vi .i64 I] [none, none, none, none, none, none, none, none, none, none, none, none, some (.var (A.map .t)), some (.var (B.map .t)), none, none, none, none, some (.var (U.map .t)), some (.var (V.map .t)), none, none, none, none, none, none, none, none, some (.var (S.map .t)), some (.var (D.map .t)), some (.var (P.map .t)), some (.var (Q.map .t)), none, none, some (.var (W.map .t))]
def ivcSu (A B S D P Q : List Tree) (C I : Int) : St := mkSt 161 [.junk, .junk, .junk, .junk, .junk, .junk, .junk, vb true, .c (.ptr 12 0 0), .c (.ptr 13 0 0), .junk, .junk, .junk, .c (.ptr 28 0 0), .c (.ptr 29 0 0), .c (.ptr 30 0 0), .c (.ptr 31 0 0), .junk, .junk, vi .i64 C, vi .i64 I] [none, none, none, none, none, none, none, none, none, none, none, none, some (.var (A.map .t)), some (.var (B.map .t)), none, none, none, none, none, none, none, none, none, none, none, none, none, none, some (.var (S.map .t)), some (.var (D.map .t)), some (.var (P.map .t)), some (.var (Q.map .t))]
theorem ivc_call (hsan : ACall Tryz.prog 11 [] ⟨[.val (tb true)], []⟩) (x y : RI) (hx : x.ok) (hy : y.ok) (n0 n1 n2 : Int) (g0 : 0 <= n0 /\ n0 < 256) (g1 : 0 <= n1 /\ n1 < 256) (g2 : 0 <= n2 /\ n2 < 256) :
  ACall Tryz.prog 5 [.val (.agg x.row), .val (.agg y.row), .val (.agg [.v (.int .u8 n0), .v (.int .u8 n1), .v (.int .u8 n2)])] ⟨[.val (tb true)], [none, none, none]⟩ := by
 have m1 := imade_call x hx
 have m2 := imade_call y hy
 have q1 := RI.lo_qs hx
 have q2 := RI.hi_qs hx
 have q3 := RI.lo_qs hy
 have q4 := RI.hi_qs hy
 have le1 := RI.le x
 have le2 := RI.le y
 obtain ⟨k, hk⟩ : ∃ k : Nat, (k : Int) = n2 % 10 := ⟨(n2 % 10).toNat, by omega⟩
 have hk9 : k <= 9 := by omega
 obtain ⟨qu, cu⟩ := iat_call q1 q2 (by omega) n0 g0.1 g0.2
 obtain ⟨qv, cv⟩ := iat_call q3 q4 (by omega) n1 g1.1 g1.2
 obtain ⟨hu1, hu2⟩ := iat_in le1 n0 g0.1
 obtain ⟨hv1, hv2⟩ := iat_in le2 n1 g1.1
 obtain ⟨U, hU⟩ : ∃ U, U = iat x.lo x.hi n0 := ⟨_, rfl⟩
 obtain ⟨V, hV⟩ : ∃ V, V = iat y.lo y.hi n1 := ⟨_, rfl⟩
 rw [<- hU] at qu cu hu1 hu2
 rw [<- hV] at qv cv hv1 hv2
 have qu := qu.mono (b := 10) (by omega)
 have qv := qv.mono (b := 10) (by omega)
 obtain ⟨u1, u2, a1⟩ := ivadd_call q1 q2 q3 q4 (by omega)
 obtain ⟨u3, u4, d1⟩ := ivsub_call q1 q2 q3 q4 (by omega)
 have l1 := ivmul_call q1 q2 q3 q4 (by omega)
 obtain ⟨u5, u6, _⟩ := rivmul_call q1 q2 q3 q4 (by omega)
 have w1 := ivpow_call k hk9 q1 q2 (by omega)
 obtain ⟨u7, u8, _⟩ := rivpow_call k hk9 q1 q2 (by omega)
 obtain ⟨qs, cs⟩ := rqadd_row qu qv (by omega)
 obtain ⟨qd, cd⟩ := rqsub_row qu qv (by omega)
 obtain ⟨qm, cm⟩ := qbq qu qv (by omega)
 have hsz : ∀ m, Qs (U ^ m) (1 + m * 10) := fun m => by
  induction m with
  | zero => rw [Rat.pow_zero]; exact (Qs.whole (n := 1) (by decide) (Nat.le_refl 1)).mono (by omega)
  | succ m ih => rw [Rat.pow_succ]; exact (qbc ih qu).mono (by omega)
 have hmul : ∀ m, m < k -> ACall Tryz.prog 30 [.val (.agg (qc (U ^ m)).row), .val (.agg (qc U).row)] ⟨[.val (.agg (qc (U ^ (m + 1))).row)], [none, none]⟩ := fun m hm => by
  have := (qbq (hsz m) qu (by omega)).2
  rwa [<- Rat.pow_succ] at this
 have cw := qa8 1 (by omega) (by omega)
 rw [show ((1 : Int) : Rat) = U ^ 0 from (Rat.pow_zero U).symm] at cw
 have f1 := rihas_call (u1.mono (by omega)) (u2.mono (by omega)) (qs.mono (by omega)) true ⟨fun _ => ⟨by grind, by grind⟩, fun _ => rfl⟩
 have f2 := rihas_call (u3.mono (by omega)) (u4.mono (by omega)) (qd.mono (by omega)) true ⟨fun _ => ⟨by grind, by grind⟩, fun _ => rfl⟩
 have f3 := rihas_call (u5.mono (by omega)) (u6.mono (by omega)) (qm.mono (by omega)) true ⟨fun _ => mul_in hu1 hu2 hv1 hv2, fun _ => rfl⟩
 have f4 := rihas_call (u7.mono (by omega)) (u8.mono (by omega)) ((hsz k).mono (by omega)) true ⟨fun _ => pow_in hu1 hu2 k, fun _ => rfl⟩
 have f5 := rivalid_row (u7.mono (by omega)) (u8.mono (by omega)) true ⟨fun _ => Rat.le_trans (pow_in hu1 hu2 k).1 (pow_in hu1 hu2 k).2, fun _ => rfl⟩
 obtain ⟨qx, cx⟩ := rqadd_row q1 q3 (by omega)
 obtain ⟨qy, cy⟩ := rqadd_row q2 q4 (by omega)
 obtain ⟨qz, cz⟩ := rqsub_row q1 q4 (by omega)
 have am1 := among_call (u1.mono (by omega)) (u2.mono (by omega)) (.inl rfl)
 have am2 := among_call (u1.mono (by omega)) (u2.mono (by omega)) (.inr rfl)
 have am3 := among_call (u3.mono (by omega)) (u4.mono (by omega)) (.inl rfl)
 have hcor : ∀ p q : Rat, (p = x.lo ∨ p = x.hi) -> (q = y.lo ∨ q = y.hi) -> ∃ b1 b2 : Bool, (p * q = mlo x.lo x.hi y.lo y.hi -> b1 = true) /\ ACall Tryz.prog 30 [.val (.agg (qc p).row), .val (.agg (qc q).row)] ⟨[.val (.agg (qc (p * q)).row)], [none, none]⟩ /\
   ACall Tryz.prog 33 [.val (.agg (qc (p * q)).row), .val (.agg (qc (mlo x.lo x.hi y.lo y.hi)).row)] ⟨[.val (tb b1)], [none, none]⟩ /\ ACall Tryz.prog 33 [.val (.agg (qc (p * q)).row), .val (.agg (qc (mhi x.lo x.hi y.lo y.hi)).row)] ⟨[.val (tb b2)], [none, none]⟩ := fun p q hp hq => by
  have qp : Qs p 2 := by rcases hp with rfl | rfl <;> assumption
  have qq : Qs q 2 := by rcases hq with rfl | rfl <;> assumption
  obtain ⟨qm, cm⟩ := qbq qp qq (by omega)
  obtain ⟨b1, hb1⟩ := bool_ex (p * q = mlo x.lo x.hi y.lo y.hi)
  obtain ⟨b2, hb2⟩ := bool_ex (p * q = mhi x.lo x.hi y.lo y.hi)
  exact ⟨b1, b2, hb1.2, cm, rqsame_b (qm.mono (by omega)) b1 hb1, rqsame_b (qm.mono (by omega)) b2 hb2⟩
 obtain ⟨z11, z12, hz1, k11, k12, k13⟩ := hcor x.lo y.lo (.inl rfl) (.inl rfl)
 obtain ⟨z21, z22, hz2, k21, k22, k23⟩ := hcor x.hi y.lo (.inr rfl) (.inl rfl)
 obtain ⟨z31, z32, hz3, k31, k32, k33⟩ := hcor x.lo y.hi (.inl rfl) (.inr rfl)
 obtain ⟨z41, z42, hz4, k41, k42, k43⟩ := hcor x.hi y.hi (.inr rfl) (.inr rfl)
 have hone : z11 = true ∨ z21 = true ∨ z31 = true ∨ z41 = true := by
  rcases mlo_corner x.lo x.hi y.lo y.hi with h | h | h | h
  ·exact .inl (hz1 h.symm)
  ·exact .inr (.inl (hz2 h.symm))
  ·exact .inr (.inr (.inl (hz3 h.symm)))
  ·exact .inr (.inr (.inr (hz4 h.symm)))
 clear hcor hz1 hz2 hz3 hz4 hu1 hu2 hv1 hv2 le1 le2 u1 u2 u3 u4 u5 u6 u7 u8 qs qd qm qx qy qz q1 q2 q3 q4 qu qv hsz
 obtain ⟨xa, xb, xd⟩ := x
 obtain ⟨ya, yb, yd⟩ := y
 rw [show RI.row ⟨xa, xb, xd⟩ = [.v (.int .i8 xa), .v (.int .i8 xb), .v (.int .u8 xd)] from rfl] at m1 ⊢
 rw [show RI.row ⟨ya, yb, yd⟩ = [.v (.int .i8 ya), .v (.int .i8 yb), .v (.int .u8 yd)] from rfl] at m2 ⊢
 clear hx hy hU hV
 obtain ⟨K, hK⟩ : ∃ K : Int, K = (k : Int) := ⟨_, rfl⟩
 rw [<- hK] at w1 hk
 generalize RI.lo ⟨xa, xb, xd⟩ = X1 at *
 generalize RI.hi ⟨xa, xb, xd⟩ = X2 at *
 generalize RI.lo ⟨ya, yb, yd⟩ = Y1 at *
 generalize RI.hi ⟨ya, yb, yd⟩ = Y2 at *
 obtain ⟨s1, t1, r1, p1, e1, _⟩ := qrow (X1)
 obtain ⟨s2, t2, r2, p2, e2, _⟩ := qrow (X2)
 obtain ⟨s3, t3, r3, p3, e3, _⟩ := qrow (Y1)
 obtain ⟨s4, t4, r4, p4, e4, _⟩ := qrow (Y2)
 obtain ⟨s5, t5, r5, p5, e5, _⟩ := qrow (U)
 obtain ⟨s6, t6, r6, p6, e6, _⟩ := qrow (V)
 obtain ⟨s7, t7, r7, p7, e7, _⟩ := qrow (X1 + Y1)
 obtain ⟨s8, t8, r8, p8, e8, _⟩ := qrow (X2 + Y2)
 obtain ⟨s9, t9, r9, p9, e9, _⟩ := qrow (X1 - Y2)
 obtain ⟨s10, t10, r10, p10, e10, _⟩ := qrow (X2 - Y1)
 obtain ⟨s11, t11, r11, p11, e11, _⟩ := qrow (mlo X1 X2 Y1 Y2)
 obtain ⟨s12, t12, r12, p12, e12, _⟩ := qrow (mhi X1 X2 Y1 Y2)
 obtain ⟨s13, t13, r13, p13, e13, _⟩ := qrow (pwlo X1 X2 k)
 obtain ⟨s14, t14, r14, p14, e14, _⟩ := qrow (pwhi X1 X2 k)
 obtain ⟨s15, t15, r15, p15, e15, _⟩ := qrow (U + V)
 obtain ⟨s16, t16, r16, p16, e16, _⟩ := qrow (U - V)
 obtain ⟨s17, t17, r17, p17, e17, _⟩ := qrow (U * V)
 obtain ⟨s18, t18, r18, p18, e18, _⟩ := qrow (X1 * Y1)
 obtain ⟨s19, t19, r19, p19, e19, _⟩ := qrow (X2 * Y1)
 obtain ⟨s20, t20, r20, p20, e20, _⟩ := qrow (X1 * Y2)
 obtain ⟨s21, t21, r21, p21, e21, _⟩ := qrow (X2 * Y2)
 obtain ⟨s30, t30, r30, p30, e30, _⟩ := qrow (U ^ 0)
 obtain ⟨T4, hT4⟩ : ∃ T, T = (qc (U ^ k)).row := ⟨_, rfl⟩
 simp only [e1, e2, e3, e4, e5, e6, e7, e8, e9, e10, e11, e12, e13, e14, e15, e16, e17, e18, e19, e20, e21] at m1 m2 cu cv a1 d1 l1 w1 cs cd cm hmul f1 f2 f3 f4 f5 cx cy cz am1 am2 am3 k11 k12 k13 k21 k22 k23 k31 k32 k33 k41 k42 k43
 rw [e30] at cw
 rw [<- hT4] at f4
 clear e1 e2 e3 e4 e5 e6 e7 e8 e9 e10 e11 e12 e13 e14 e15 e16 e17 e18 e19 e20 e21
 refine callZ ccOk mixed [.val] Tryz.func5 rfl rfl (by kernel_rfl) fun zA zB zC zD zE zF zG zH zI zJ zK zL zM zN zO zP zQ zR zS zT zU zV zX zY zZ za zb zc zd ze zg zh zi zj zk zl zm zn zo zq zr zs zt zu zw zx zy zz zth A L F hS hF => ?_
 have b0 : zQ true = false := by rw [hS.not]; rfl
 have k1 : zA .i64 (zF n2 10) = K := by
  rw [hS.rem, Int.tmod_eq_emod_of_nonneg g2.1, hS.wrap, wrap_i64 (by omega) (by omega), hk]
 cbv
 refine ⟨_, hS.call (hsan), ?_⟩
 cbv
 refine bF (b0) ?_
 refine ⟨_, hS.call (m1), ?_⟩
 cbv
 refine ⟨_, hS.call (m2), ?_⟩
 cbv
 refine ⟨_, hS.call (cu), ?_⟩
 cbv
 refine ⟨_, hS.call (cv), ?_⟩
 cbv
 refine ⟨_, hS.call (a1), ?_⟩
 cbv
 refine ⟨_, hS.call (d1), ?_⟩
 cbv
 refine ⟨_, hS.call (l1), ?_⟩
 cbv
 rw [k1]
 refine ⟨_, hS.call (w1), ?_⟩
 cbv
 refine ⟨_, hS.call (cw), ?_⟩
 cbv
 have hK : K = (k : Int) := hK
 refine loopZR ccOk mixed hS (fun (m : Nat) s' => ∃ (i : Nat) (I : Int) (s2' t2' : Bool) (r2' p2' : Abs.Rows), I = i /\ i + m = k /\ (qc (U ^ i)).row = [.v (.bool s2'), .lst false r2', .v (.bool t2'), .lst false p2'] /\ s' = ivcSt K [.v (.bool s1), .lst false r1, .v (.bool t1), .lst false p1, .v (.bool s2), .lst false r2, .v (.bool t2), .lst false p2] [.v (.bool s3), .lst false r3, .v (.bool t3), .lst false p3, .v (.bool s4), .lst false r4, .v (.bool t4), .lst false p4] [.v (.bool s5), .lst false r5, .v (.bool t5), .lst false p5] [.v (.bool s6), .lst false r6, .v (.bool t6), .lst false p6] [.v (.bool s7), .lst false r7, .v (.bool t7), .lst false p7, .v (.bool s8), .lst false r8, .v (.bool t8), .lst false p8] [.v (.bool s9), .lst false r9, .v (.bool t9), .lst false p9, .v (.bool s10), .lst false r10, .v (.bool t10), .lst false p10] [.v (.bool s11), .lst false r11, .v (.bool t11), .lst false p11, .v (.bool s12), .lst false r12, .v (.bool t12), .lst false p12] [.v (.bool s13), .lst false r13, .v (.bool t13), .lst false p13, .v (.bool s14), .lst false r14, .v (.bool t14), .lst false p14] [.v (.bool s2'), .lst false r2', .v (.bool t2'), .lst false p2'] I) (n := k) (s0 := ivcSt K [.v (.bool s1), .lst false r1, .v (.bool t1), .lst false p1, .v (.bool s2), .lst false r2, .v (.bool t2), .lst false p2] [.v (.bool s3), .lst false r3, .v (.bool t3), .lst false p3, .v (.bool s4), .lst false r4, .v (.bool t4), .lst false p4] [.v (.bool s5), .lst false r5, .v (.bool t5), .lst false p5] [.v (.bool s6), .lst false r6, .v (.bool t6), .lst false p6] [.v (.bool s7), .lst false r7, .v (.bool t7), .lst false p7, .v (.bool s8), .lst false r8, .v (.bool t8), .lst false p8] [.v (.bool s9), .lst false r9, .v (.bool t9), .lst false p9, .v (.bool s10), .lst false r10, .v (.bool t10), .lst false p10] [.v (.bool s11), .lst false r11, .v (.bool t11), .lst false p11, .v (.bool s12), .lst false r12, .v (.bool t12), .lst false p12] [.v (.bool s13), .lst false r13, .v (.bool t13), .lst false p13, .v (.bool s14), .lst false r14, .v (.bool t14), .lst false p14] [.v (.bool s30), .lst false r30, .v (.bool t30), .lst false p30] 0) (qa2 ?_ ?_) rfl (by show 3 <= 35; omega) ?_ ?_
 ·simp [leT, ivcSt, mkSt, vi, vb]
 ·simp [leH, ivcSt, mkSt]
 ·exact ⟨0, 0, s30, t30, r30, p30, rfl, by omega, e30, rfl⟩
 ·rintro m sx ⟨i, I, s40, t40, r40, p40, hI, him, hv, hs1⟩
  by_cases hi : i < k
  ·have l1 : zO I K = true := by rw [hS.lt]; exact decide_eq_true (by omega)
   have cm1 := hmul i hi
   obtain ⟨s50, t50, r50, p50, e50, _⟩ := qrow (U ^ (i + 1))
   rw [hv, e50] at cm1
   obtain ⟨I', hI', i1⟩ : ∃ I' : Int, I' = ((i + 1 : Nat) : Int) /\ zA .i64 (zB I 1) = I' := ⟨I + 1, by omega, by rw [hS.add, hS.wrap, wrap_i64 (by omega) (by omega)]⟩
   have hmm : m - 1 < m := by omega
   have hnx : ∃ (i2 : Nat) (I2 : Int) (s2' t2' : Bool) (r2' p2' : Abs.Rows), I2 = i2 /\ i2 + (m - 1) = k /\ (qc (U ^ i2)).row = [.v (.bool s2'), .lst false r2', .v (.bool t2'), .lst false p2'] /\ ivcSt K [.v (.bool s1), .lst false r1, .v (.bool t1), .lst false p1, .v (.bool s2), .lst false r2, .v (.bool t2), .lst false p2] [.v (.bool s3), .lst false r3, .v (.bool t3), .lst false p3, .v (.bool s4), .lst false r4, .v (.bool t4), .lst false p4] [.v (.bool s5), .lst false r5, .v (.bool t5), .lst false p5] [.v (.bool s6), .lst false r6, .v (.bool t6), .lst false p6] [.v (.bool s7), .lst false r7, .v (.bool t7), .lst false p7, .v (.bool s8), .lst false r8, .v (.bool t8), .lst false p8] [.v (.bool s9), .lst false r9, .v (.bool t9), .lst false p9, .v (.bool s10), .lst false r10, .v (.bool t10), .lst false p10] [.v (.bool s11), .lst false r11, .v (.bool t11), .lst false p11, .v (.bool s12), .lst false r12, .v (.bool t12), .lst false p12] [.v (.bool s13), .lst false r13, .v (.bool t13), .lst false p13, .v (.bool s14), .lst false r14, .v (.bool t14), .lst false p14] [.v (.bool s50), .lst false r50, .v (.bool t50), .lst false p50] I' = ivcSt K [.v (.bool s1), .lst false r1, .v (.bool t1), .lst false p1, .v (.bool s2), .lst false r2, .v (.bool t2), .lst false p2] [.v (.bool s3), .lst false r3, .v (.bool t3), .lst false p3, .v (.bool s4), .lst false r4, .v (.bool t4), .lst false p4] [.v (.bool s5), .lst false r5, .v (.bool t5), .lst false p5] [.v (.bool s6), .lst false r6, .v (.bool t6), .lst false p6] [.v (.bool s7), .lst false r7, .v (.bool t7), .lst false p7, .v (.bool s8), .lst false r8, .v (.bool t8), .lst false p8] [.v (.bool s9), .lst false r9, .v (.bool t9), .lst false p9, .v (.bool s10), .lst false r10, .v (.bool t10), .lst false p10] [.v (.bool s11), .lst false r11, .v (.bool t11), .lst false p11, .v (.bool s12), .lst false r12, .v (.bool t12), .lst false p12] [.v (.bool s13), .lst false r13, .v (.bool t13), .lst false p13, .v (.bool s14), .lst false r14, .v (.bool t14), .lst false p14] [.v (.bool s2'), .lst false r2', .v (.bool t2'), .lst false p2'] I2 := ⟨i + 1, I', s50, t50, r50, p50, hI', by omega, e50, rfl⟩
   clear hmul
   subst hs1
   cbv
   refine bT l1 ?_
   refine ⟨_, hS.call (cm1), ?_⟩
   cbv
   refine againR [(12, 12), (13, 13), (18, 18), (19, 19), (28, 28), (29, 29), (30, 30), (31, 31), (34, 34)] (s' := ivcSt K [.v (.bool s1), .lst false r1, .v (.bool t1), .lst false p1, .v (.bool s2), .lst false r2, .v (.bool t2), .lst false p2] [.v (.bool s3), .lst false r3, .v (.bool t3), .lst false p3, .v (.bool s4), .lst false r4, .v (.bool t4), .lst false p4] [.v (.bool s5), .lst false r5, .v (.bool t5), .lst false p5] [.v (.bool s6), .lst false r6, .v (.bool t6), .lst false p6] [.v (.bool s7), .lst false r7, .v (.bool t7), .lst false p7, .v (.bool s8), .lst false r8, .v (.bool t8), .lst false p8] [.v (.bool s9), .lst false r9, .v (.bool t9), .lst false p9, .v (.bool s10), .lst false r10, .v (.bool t10), .lst false p10] [.v (.bool s11), .lst false r11, .v (.bool t11), .lst false p11, .v (.bool s12), .lst false r12, .v (.bool t12), .lst false p12] [.v (.bool s13), .lst false r13, .v (.bool t13), .lst false p13, .v (.bool s14), .lst false r14, .v (.bool t14), .lst false p14] [.v (.bool s50), .lst false r50, .v (.bool t50), .lst false p50] I') (k := m - 1) ?_ ?_ ?_ ?_ rfl (by show 3 <= 35; omega) hmm hnx
   ·simp [leTR, ivcSt, mkSt, vi, vb, AV.ren, AV.noTup, Cell.ren, renF, i1]
   ·simp [leHR, ivcSt, mkSt, Abs.look, renF, Blk.ren, Cell.ren]
   ·simp [liveR, ivcSt, mkSt, renF]
   ·simp
  ·have l1 : zO I K = false := by rw [hS.lt]; exact decide_eq_false (by omega)
   rw [show i = k by omega] at hv
   rw [hT4, hv] at f4
   clear hmul
   subst hs1
   cbv
   refine bF l1 ?_
   refine ⟨_, hS.call (cs), ?_⟩
   cbv
   refine ⟨_, hS.call (f1), ?_⟩
   cbv
   refine bF (b0) ?_
   refine ⟨_, hS.call (cd), ?_⟩
   cbv
   refine ⟨_, hS.call (f2), ?_⟩
   cbv
   refine bF (b0) ?_
   refine ⟨_, hS.call (cm), ?_⟩
   cbv
   refine ⟨_, hS.call (f3), ?_⟩
   cbv
   refine bF (b0) ?_
   refine ⟨_, hS.call (f4), ?_⟩
   cbv
   refine bF (b0) ?_
   refine loopZR ccOk mixed hS (fun (m : Nat) s' => ∃ (i2 : Nat) (I2 C2 : Int), I2 = i2 /\ m + i2 = 4 /\ (0 <= C2 /\ C2 <= i2) /\ ((1 <= i2 -> z11 = true -> 0 < C2) /\ (2 <= i2 -> z21 = true -> 0 < C2) /\ (3 <= i2 -> z31 = true -> 0 < C2) /\ (4 <= i2 -> z41 = true -> 0 < C2)) /\ s' = ivcSu [.v (.bool s1), .lst false r1, .v (.bool t1), .lst false p1, .v (.bool s2), .lst false r2, .v (.bool t2), .lst false p2] [.v (.bool s3), .lst false r3, .v (.bool t3), .lst false p3, .v (.bool s4), .lst false r4, .v (.bool t4), .lst false p4] [.v (.bool s7), .lst false r7, .v (.bool t7), .lst false p7, .v (.bool s8), .lst false r8, .v (.bool t8), .lst false p8] [.v (.bool s9), .lst false r9, .v (.bool t9), .lst false p9, .v (.bool s10), .lst false r10, .v (.bool t10), .lst false p10] [.v (.bool s11), .lst false r11, .v (.bool t11), .lst false p11, .v (.bool s12), .lst false r12, .v (.bool t12), .lst false p12] [.v (.bool s13), .lst false r13, .v (.bool t13), .lst false p13, .v (.bool s14), .lst false r14, .v (.bool t14), .lst false p14] C2 I2) (n := 4) (s0 := ivcSu [.v (.bool s1), .lst false r1, .v (.bool t1), .lst false p1, .v (.bool s2), .lst false r2, .v (.bool t2), .lst false p2] [.v (.bool s3), .lst false r3, .v (.bool t3), .lst false p3, .v (.bool s4), .lst false r4, .v (.bool t4), .lst false p4] [.v (.bool s7), .lst false r7, .v (.bool t7), .lst false p7, .v (.bool s8), .lst false r8, .v (.bool t8), .lst false p8] [.v (.bool s9), .lst false r9, .v (.bool t9), .lst false p9, .v (.bool s10), .lst false r10, .v (.bool t10), .lst false p10] [.v (.bool s11), .lst false r11, .v (.bool t11), .lst false p11, .v (.bool s12), .lst false r12, .v (.bool t12), .lst false p12] [.v (.bool s13), .lst false r13, .v (.bool t13), .lst false p13, .v (.bool s14), .lst false r14, .v (.bool t14), .lst false p14] 0 0) (qa2 ?_ ?_) rfl (by show 3 <= 32; omega) ?_ ?_
   ·simp [leT, ivcSu, mkSt, vi, vb]
   ·simp [leH, ivcSu, mkSt]
   ·exact ⟨0, 0, 0, rfl, rfl, ⟨by omega, by omega⟩, ⟨fun h => by omega, fun h => by omega, fun h => by omega, fun h => by omega⟩, rfl⟩
   ·rintro m sy ⟨i, I, C, hI, him, ⟨hC0, hC1⟩, ⟨v1, v2, v3, v4⟩, hs1⟩
    obtain ⟨I', hI', i1⟩ : ∃ I' : Int, I' = ((i + 1 : Nat) : Int) /\ zA .i64 (zB I 1) = I' := ⟨I + 1, by omega, by rw [hS.add, hS.wrap, wrap_i64 (by omega) (by omega)]⟩
    obtain ⟨C', hC', j1⟩ : ∃ C' : Int, C' = C + 1 /\ zA .i64 (zB C 1) = C' := ⟨C + 1, rfl, by rw [hS.add, hS.wrap, wrap_i64 (by omega) (by omega)]⟩
    have hmm : i < 4 -> m - 1 < m := by omega
    obtain rfl | rfl | rfl | rfl | rfl : i = 0 ∨ i = 1 ∨ i = 2 ∨ i = 3 ∨ i = 4 := by omega
    ·have l1 : zO I 4 = true := by rw [hS.lt]; exact decide_eq_true (by omega)
     have x1 : zM (zF I 2) 1 = false := by rw [hS.rem, hS.eq, hI]; rfl
     have x2 : zM (zA .i64 (zE I 2)) 1 = false := by rw [hS.quo, hS.wrap, hS.eq, hI]; rfl
     have hsp : (z11 = true) ∨ (z11 = false /\ z12 = true) ∨ (z11 = false /\ z12 = false) := by cases z11 <;> cases z12 <;> simp
     rcases hsp with y1 | ⟨y1, y2⟩ | ⟨y1, y2⟩
     ·rw [y1] at k12
      have hnx : ∃ (i2 : Nat) (I2 C2 : Int), I2 = i2 /\ (m - 1) + i2 = 4 /\ (0 <= C2 /\ C2 <= i2) /\ ((1 <= i2 -> z11 = true -> 0 < C2) /\ (2 <= i2 -> z21 = true -> 0 < C2) /\ (3 <= i2 -> z31 = true -> 0 < C2) /\ (4 <= i2 -> z41 = true -> 0 < C2)) /\ ivcSu [.v (.bool s1), .lst false r1, .v (.bool t1), .lst false p1, .v (.bool s2), .lst false r2, .v (.bool t2), .lst false p2] [.v (.bool s3), .lst false r3, .v (.bool t3), .lst false p3, .v (.bool s4), .lst false r4, .v (.bool t4), .lst false p4] [.v (.bool s7), .lst false r7, .v (.bool t7), .lst false p7, .v (.bool s8), .lst false r8, .v (.bool t8), .lst false p8] [.v (.bool s9), .lst false r9, .v (.bool t9), .lst false p9, .v (.bool s10), .lst false r10, .v (.bool t10), .lst false p10] [.v (.bool s11), .lst false r11, .v (.bool t11), .lst false p11, .v (.bool s12), .lst false r12, .v (.bool t12), .lst false p12] [.v (.bool s13), .lst false r13, .v (.bool t13), .lst false p13, .v (.bool s14), .lst false r14, .v (.bool t14), .lst false p14] C' I' = ivcSu [.v (.bool s1), .lst false r1, .v (.bool t1), .lst false p1, .v (.bool s2), .lst false r2, .v (.bool t2), .lst false p2] [.v (.bool s3), .lst false r3, .v (.bool t3), .lst false p3, .v (.bool s4), .lst false r4, .v (.bool t4), .lst false p4] [.v (.bool s7), .lst false r7, .v (.bool t7), .lst false p7, .v (.bool s8), .lst false r8, .v (.bool t8), .lst false p8] [.v (.bool s9), .lst false r9, .v (.bool t9), .lst false p9, .v (.bool s10), .lst false r10, .v (.bool t10), .lst false p10] [.v (.bool s11), .lst false r11, .v (.bool t11), .lst false p11, .v (.bool s12), .lst false r12, .v (.bool t12), .lst false p12] [.v (.bool s13), .lst false r13, .v (.bool t13), .lst false p13, .v (.bool s14), .lst false r14, .v (.bool t14), .lst false p14] C2 I2 := ⟨1, I', C', hI', by omega, ⟨by omega, by omega⟩, ⟨fun _ _ => by omega, fun _ _ => by omega, fun _ _ => by omega, fun _ _ => by omega⟩, rfl⟩
      have hmm := hmm (by omega)
      subst hs1
      cbv
      refine bT l1 ?_
      refine bF (x1) ?_
      refine bF (x2) ?_
      refine ⟨_, hS.call (k11), ?_⟩
      cbv
      refine ⟨_, hS.call (k12), ?_⟩
      cbv
      refine bT rfl ?_
      refine againR [(12, 12), (13, 13), (28, 28), (29, 29), (30, 30), (31, 31)] (s' := ivcSu [.v (.bool s1), .lst false r1, .v (.bool t1), .lst false p1, .v (.bool s2), .lst false r2, .v (.bool t2), .lst false p2] [.v (.bool s3), .lst false r3, .v (.bool t3), .lst false p3, .v (.bool s4), .lst false r4, .v (.bool t4), .lst false p4] [.v (.bool s7), .lst false r7, .v (.bool t7), .lst false p7, .v (.bool s8), .lst false r8, .v (.bool t8), .lst false p8] [.v (.bool s9), .lst false r9, .v (.bool t9), .lst false p9, .v (.bool s10), .lst false r10, .v (.bool t10), .lst false p10] [.v (.bool s11), .lst false r11, .v (.bool t11), .lst false p11, .v (.bool s12), .lst false r12, .v (.bool t12), .lst false p12] [.v (.bool s13), .lst false r13, .v (.bool t13), .lst false p13, .v (.bool s14), .lst false r14, .v (.bool t14), .lst false p14] C' I') (k := m - 1) ?_ ?_ ?_ ?_ rfl (by show 3 <= 32; omega) hmm hnx
      ·simp [leTR, ivcSu, mkSt, vi, vb, AV.ren, AV.noTup, Cell.ren, renF, i1, j1]
      ·simp [leHR, ivcSu, mkSt, Abs.look, renF, Blk.ren, Cell.ren]
      ·simp [liveR, ivcSu, mkSt, renF]
      ·simp
     ·rw [y1] at k12
      rw [y2] at k13
      have hnx : ∃ (i2 : Nat) (I2 C2 : Int), I2 = i2 /\ (m - 1) + i2 = 4 /\ (0 <= C2 /\ C2 <= i2) /\ ((1 <= i2 -> z11 = true -> 0 < C2) /\ (2 <= i2 -> z21 = true -> 0 < C2) /\ (3 <= i2 -> z31 = true -> 0 < C2) /\ (4 <= i2 -> z41 = true -> 0 < C2)) /\ ivcSu [.v (.bool s1), .lst false r1, .v (.bool t1), .lst false p1, .v (.bool s2), .lst false r2, .v (.bool t2), .lst false p2] [.v (.bool s3), .lst false r3, .v (.bool t3), .lst false p3, .v (.bool s4), .lst false r4, .v (.bool t4), .lst false p4] [.v (.bool s7), .lst false r7, .v (.bool t7), .lst false p7, .v (.bool s8), .lst false r8, .v (.bool t8), .lst false p8] [.v (.bool s9), .lst false r9, .v (.bool t9), .lst false p9, .v (.bool s10), .lst false r10, .v (.bool t10), .lst false p10] [.v (.bool s11), .lst false r11, .v (.bool t11), .lst false p11, .v (.bool s12), .lst false r12, .v (.bool t12), .lst false p12] [.v (.bool s13), .lst false r13, .v (.bool t13), .lst false p13, .v (.bool s14), .lst false r14, .v (.bool t14), .lst false p14] C' I' = ivcSu [.v (.bool s1), .lst false r1, .v (.bool t1), .lst false p1, .v (.bool s2), .lst false r2, .v (.bool t2), .lst false p2] [.v (.bool s3), .lst false r3, .v (.bool t3), .lst false p3, .v (.bool s4), .lst false r4, .v (.bool t4), .lst false p4] [.v (.bool s7), .lst false r7, .v (.bool t7), .lst false p7, .v (.bool s8), .lst false r8, .v (.bool t8), .lst false p8] [.v (.bool s9), .lst false r9, .v (.bool t9), .lst false p9, .v (.bool s10), .lst false r10, .v (.bool t10), .lst false p10] [.v (.bool s11), .lst false r11, .v (.bool t11), .lst false p11, .v (.bool s12), .lst false r12, .v (.bool t12), .lst false p12] [.v (.bool s13), .lst false r13, .v (.bool t13), .lst false p13, .v (.bool s14), .lst false r14, .v (.bool t14), .lst false p14] C2 I2 := ⟨1, I', C', hI', by omega, ⟨by omega, by omega⟩, ⟨fun _ _ => by omega, fun _ _ => by omega, fun _ _ => by omega, fun _ _ => by omega⟩, rfl⟩
      have hmm := hmm (by omega)
      subst hs1
      cbv
      refine bT l1 ?_
      refine bF (x1) ?_
      refine bF (x2) ?_
      refine ⟨_, hS.call (k11), ?_⟩
      cbv
      refine ⟨_, hS.call (k12), ?_⟩
      cbv
      refine bF rfl ?_
      refine ⟨_, hS.call (k11), ?_⟩
      cbv
      refine ⟨_, hS.call (k13), ?_⟩
      cbv
      refine bT rfl ?_
      refine againR [(12, 12), (13, 13), (28, 28), (29, 29), (30, 30), (31, 31)] (s' := ivcSu [.v (.bool s1), .lst false r1, .v (.bool t1), .lst false p1, .v (.bool s2), .lst false r2, .v (.bool t2), .lst false p2] [.v (.bool s3), .lst false r3, .v (.bool t3), .lst false p3, .v (.bool s4), .lst false r4, .v (.bool t4), .lst false p4] [.v (.bool s7), .lst false r7, .v (.bool t7), .lst false p7, .v (.bool s8), .lst false r8, .v (.bool t8), .lst false p8] [.v (.bool s9), .lst false r9, .v (.bool t9), .lst false p9, .v (.bool s10), .lst false r10, .v (.bool t10), .lst false p10] [.v (.bool s11), .lst false r11, .v (.bool t11), .lst false p11, .v (.bool s12), .lst false r12, .v (.bool t12), .lst false p12] [.v (.bool s13), .lst false r13, .v (.bool t13), .lst false p13, .v (.bool s14), .lst false r14, .v (.bool t14), .lst false p14] C' I') (k := m - 1) ?_ ?_ ?_ ?_ rfl (by show 3 <= 32; omega) hmm hnx
      ·simp [leTR, ivcSu, mkSt, vi, vb, AV.ren, AV.noTup, Cell.ren, renF, i1, j1]
      ·simp [leHR, ivcSu, mkSt, Abs.look, renF, Blk.ren, Cell.ren]
      ·simp [liveR, ivcSu, mkSt, renF]
      ·simp
     ·rw [y1] at k12
      rw [y2] at k13
      have hnx : ∃ (i2 : Nat) (I2 C2 : Int), I2 = i2 /\ (m - 1) + i2 = 4 /\ (0 <= C2 /\ C2 <= i2) /\ ((1 <= i2 -> z11 = true -> 0 < C2) /\ (2 <= i2 -> z21 = true -> 0 < C2) /\ (3 <= i2 -> z31 = true -> 0 < C2) /\ (4 <= i2 -> z41 = true -> 0 < C2)) /\ ivcSu [.v (.bool s1), .lst false r1, .v (.bool t1), .lst false p1, .v (.bool s2), .lst false r2, .v (.bool t2), .lst false p2] [.v (.bool s3), .lst false r3, .v (.bool t3), .lst false p3, .v (.bool s4), .lst false r4, .v (.bool t4), .lst false p4] [.v (.bool s7), .lst false r7, .v (.bool t7), .lst false p7, .v (.bool s8), .lst false r8, .v (.bool t8), .lst false p8] [.v (.bool s9), .lst false r9, .v (.bool t9), .lst false p9, .v (.bool s10), .lst false r10, .v (.bool t10), .lst false p10] [.v (.bool s11), .lst false r11, .v (.bool t11), .lst false p11, .v (.bool s12), .lst false r12, .v (.bool t12), .lst false p12] [.v (.bool s13), .lst false r13, .v (.bool t13), .lst false p13, .v (.bool s14), .lst false r14, .v (.bool t14), .lst false p14] C I' = ivcSu [.v (.bool s1), .lst false r1, .v (.bool t1), .lst false p1, .v (.bool s2), .lst false r2, .v (.bool t2), .lst false p2] [.v (.bool s3), .lst false r3, .v (.bool t3), .lst false p3, .v (.bool s4), .lst false r4, .v (.bool t4), .lst false p4] [.v (.bool s7), .lst false r7, .v (.bool t7), .lst false p7, .v (.bool s8), .lst false r8, .v (.bool t8), .lst false p8] [.v (.bool s9), .lst false r9, .v (.bool t9), .lst false p9, .v (.bool s10), .lst false r10, .v (.bool t10), .lst false p10] [.v (.bool s11), .lst false r11, .v (.bool t11), .lst false p11, .v (.bool s12), .lst false r12, .v (.bool t12), .lst false p12] [.v (.bool s13), .lst false r13, .v (.bool t13), .lst false p13, .v (.bool s14), .lst false r14, .v (.bool t14), .lst false p14] C2 I2 := ⟨1, I', C, hI', by omega, ⟨by omega, by omega⟩, ⟨(fun _ hz => by rw [y1] at hz; cases hz), fun h => by omega, fun h => by omega, fun h => by omega⟩, rfl⟩
      have hmm := hmm (by omega)
      subst hs1
      cbv
      refine bT l1 ?_
      refine bF (x1) ?_
      refine bF (x2) ?_
      refine ⟨_, hS.call (k11), ?_⟩
      cbv
      refine ⟨_, hS.call (k12), ?_⟩
      cbv
      refine bF rfl ?_
      refine ⟨_, hS.call (k11), ?_⟩
      cbv
      refine ⟨_, hS.call (k13), ?_⟩
      cbv
      refine bF rfl ?_
      refine againR [(12, 12), (13, 13), (28, 28), (29, 29), (30, 30), (31, 31)] (s' := ivcSu [.v (.bool s1), .lst false r1, .v (.bool t1), .lst false p1, .v (.bool s2), .lst false r2, .v (.bool t2), .lst false p2] [.v (.bool s3), .lst false r3, .v (.bool t3), .lst false p3, .v (.bool s4), .lst false r4, .v (.bool t4), .lst false p4] [.v (.bool s7), .lst false r7, .v (.bool t7), .lst false p7, .v (.bool s8), .lst false r8, .v (.bool t8), .lst false p8] [.v (.bool s9), .lst false r9, .v (.bool t9), .lst false p9, .v (.bool s10), .lst false r10, .v (.bool t10), .lst false p10] [.v (.bool s11), .lst false r11, .v (.bool t11), .lst false p11, .v (.bool s12), .lst false r12, .v (.bool t12), .lst false p12] [.v (.bool s13), .lst false r13, .v (.bool t13), .lst false p13, .v (.bool s14), .lst false r14, .v (.bool t14), .lst false p14] C I') (k := m - 1) ?_ ?_ ?_ ?_ rfl (by show 3 <= 32; omega) hmm hnx
      ·simp [leTR, ivcSu, mkSt, vi, vb, AV.ren, AV.noTup, Cell.ren, renF, i1, j1]
      ·simp [leHR, ivcSu, mkSt, Abs.look, renF, Blk.ren, Cell.ren]
      ·simp [liveR, ivcSu, mkSt, renF]
      ·simp
    ·have l1 : zO I 4 = true := by rw [hS.lt]; exact decide_eq_true (by omega)
     have x1 : zM (zF I 2) 1 = true := by rw [hS.rem, hS.eq, hI]; rfl
     have x2 : zM (zA .i64 (zE I 2)) 1 = false := by rw [hS.quo, hS.wrap, hS.eq, hI]; rfl
     have hsp : (z21 = true) ∨ (z21 = false /\ z22 = true) ∨ (z21 = false /\ z22 = false) := by cases z21 <;> cases z22 <;> simp
     rcases hsp with y1 | ⟨y1, y2⟩ | ⟨y1, y2⟩
     ·rw [y1] at k22
      have hnx : ∃ (i2 : Nat) (I2 C2 : Int), I2 = i2 /\ (m - 1) + i2 = 4 /\ (0 <= C2 /\ C2 <= i2) /\ ((1 <= i2 -> z11 = true -> 0 < C2) /\ (2 <= i2 -> z21 = true -> 0 < C2) /\ (3 <= i2 -> z31 = true -> 0 < C2) /\ (4 <= i2 -> z41 = true -> 0 < C2)) /\ ivcSu [.v (.bool s1), .lst false r1, .v (.bool t1), .lst false p1, .v (.bool s2), .lst false r2, .v (.bool t2), .lst false p2] [.v (.bool s3), .lst false r3, .v (.bool t3), .lst false p3, .v (.bool s4), .lst false r4, .v (.bool t4), .lst false p4] [.v (.bool s7), .lst false r7, .v (.bool t7), .lst false p7, .v (.bool s8), .lst false r8, .v (.bool t8), .lst false p8] [.v (.bool s9), .lst false r9, .v (.bool t9), .lst false p9, .v (.bool s10), .lst false r10, .v (.bool t10), .lst false p10] [.v (.bool s11), .lst false r11, .v (.bool t11), .lst false p11, .v (.bool s12), .lst false r12, .v (.bool t12), .lst false p12] [.v (.bool s13), .lst false r13, .v (.bool t13), .lst false p13, .v (.bool s14), .lst false r14, .v (.bool t14), .lst false p14] C' I' = ivcSu [.v (.bool s1), .lst false r1, .v (.bool t1), .lst false p1, .v (.bool s2), .lst false r2, .v (.bool t2), .lst false p2] [.v (.bool s3), .lst false r3, .v (.bool t3), .lst false p3, .v (.bool s4), .lst false r4, .v (.bool t4), .lst false p4] [.v (.bool s7), .lst false r7, .v (.bool t7), .lst false p7, .v (.bool s8), .lst false r8, .v (.bool t8), .lst false p8] [.v (.bool s9), .lst false r9, .v (.bool t9), .lst false p9, .v (.bool s10), .lst false r10, .v (.bool t10), .lst false p10] [.v (.bool s11), .lst false r11, .v (.bool t11), .lst false p11, .v (.bool s12), .lst false r12, .v (.bool t12), .lst false p12] [.v (.bool s13), .lst false r13, .v (.bool t13), .lst false p13, .v (.bool s14), .lst false r14, .v (.bool t14), .lst false p14] C2 I2 := ⟨2, I', C', hI', by omega, ⟨by omega, by omega⟩, ⟨fun _ _ => by omega, fun _ _ => by omega, fun _ _ => by omega, fun _ _ => by omega⟩, rfl⟩
      have hmm := hmm (by omega)
      subst hs1
      cbv
      refine bT l1 ?_
      refine bT (x1) ?_
      refine bF (x2) ?_
      refine ⟨_, hS.call (k21), ?_⟩
      cbv
      refine ⟨_, hS.call (k22), ?_⟩
      cbv
      refine bT rfl ?_
      refine againR [(12, 12), (13, 13), (28, 28), (29, 29), (30, 30), (31, 31)] (s' := ivcSu [.v (.bool s1), .lst false r1, .v (.bool t1), .lst false p1, .v (.bool s2), .lst false r2, .v (.bool t2), .lst false p2] [.v (.bool s3), .lst false r3, .v (.bool t3), .lst false p3, .v (.bool s4), .lst false r4, .v (.bool t4), .lst false p4] [.v (.bool s7), .lst false r7, .v (.bool t7), .lst false p7, .v (.bool s8), .lst false r8, .v (.bool t8), .lst false p8] [.v (.bool s9), .lst false r9, .v (.bool t9), .lst false p9, .v (.bool s10), .lst false r10, .v (.bool t10), .lst false p10] [.v (.bool s11), .lst false r11, .v (.bool t11), .lst false p11, .v (.bool s12), .lst false r12, .v (.bool t12), .lst false p12] [.v (.bool s13), .lst false r13, .v (.bool t13), .lst false p13, .v (.bool s14), .lst false r14, .v (.bool t14), .lst false p14] C' I') (k := m - 1) ?_ ?_ ?_ ?_ rfl (by show 3 <= 32; omega) hmm hnx
      ·simp [leTR, ivcSu, mkSt, vi, vb, AV.ren, AV.noTup, Cell.ren, renF, i1, j1]
      ·simp [leHR, ivcSu, mkSt, Abs.look, renF, Blk.ren, Cell.ren]
      ·simp [liveR, ivcSu, mkSt, renF]
      ·simp
     ·rw [y1] at k22
      rw [y2] at k23
      have hnx : ∃ (i2 : Nat) (I2 C2 : Int), I2 = i2 /\ (m - 1) + i2 = 4 /\ (0 <= C2 /\ C2 <= i2) /\ ((1 <= i2 -> z11 = true -> 0 < C2) /\ (2 <= i2 -> z21 = true -> 0 < C2) /\ (3 <= i2 -> z31 = true -> 0 < C2) /\ (4 <= i2 -> z41 = true -> 0 < C2)) /\ ivcSu [.v (.bool s1), .lst false r1, .v (.bool t1), .lst false p1, .v (.bool s2), .lst false r2, .v (.bool t2), .lst false p2] [.v (.bool s3), .lst false r3, .v (.bool t3), .lst false p3, .v (.bool s4), .lst false r4, .v (.bool t4), .lst false p4] [.v (.bool s7), .lst false r7, .v (.bool t7), .lst false p7, .v (.bool s8), .lst false r8, .v (.bool t8), .lst false p8] [.v (.bool s9), .lst false r9, .v (.bool t9), .lst false p9, .v (.bool s10), .lst false r10, .v (.bool t10), .lst false p10] [.v (.bool s11), .lst false r11, .v (.bool t11), .lst false p11, .v (.bool s12), .lst false r12, .v (.bool t12), .lst false p12] [.v (.bool s13), .lst false r13, .v (.bool t13), .lst false p13, .v (.bool s14), .lst false r14, .v (.bool t14), .lst false p14] C' I' = ivcSu [.v (.bool s1), .lst false r1, .v (.bool t1), .lst false p1, .v (.bool s2), .lst false r2, .v (.bool t2), .lst false p2] [.v (.bool s3), .lst false r3, .v (.bool t3), .lst false p3, .v (.bool s4), .lst false r4, .v (.bool t4), .lst false p4] [.v (.bool s7), .lst false r7, .v (.bool t7), .lst false p7, .v (.bool s8), .lst false r8, .v (.bool t8), .lst false p8] [.v (.bool s9), .lst false r9, .v (.bool t9), .lst false p9, .v (.bool s10), .lst false r10, .v (.bool t10), .lst false p10] [.v (.bool s11), .lst false r11, .v (.bool t11), .lst false p11, .v (.bool s12), .lst false r12, .v (.bool t12), .lst false p12] [.v (.bool s13), .lst false r13, .v (.bool t13), .lst false p13, .v (.bool s14), .lst false r14, .v (.bool t14), .lst false p14] C2 I2 := ⟨2, I', C', hI', by omega, ⟨by omega, by omega⟩, ⟨fun _ _ => by omega, fun _ _ => by omega, fun _ _ => by omega, fun _ _ => by omega⟩, rfl⟩
      have hmm := hmm (by omega)
      subst hs1
      cbv
      refine bT l1 ?_
      refine bT (x1) ?_
      refine bF (x2) ?_
      refine ⟨_, hS.call (k21), ?_⟩
      cbv
      refine ⟨_, hS.call (k22), ?_⟩
      cbv
      refine bF rfl ?_
      refine ⟨_, hS.call (k21), ?_⟩
      cbv
      refine ⟨_, hS.call (k23), ?_⟩
      cbv
      refine bT rfl ?_
      refine againR [(12, 12), (13, 13), (28, 28), (29, 29), (30, 30), (31, 31)] (s' := ivcSu [.v (.bool s1), .lst false r1, .v (.bool t1), .lst false p1, .v (.bool s2), .lst false r2, .v (.bool t2), .lst false p2] [.v (.bool s3), .lst false r3, .v (.bool t3), .lst false p3, .v (.bool s4), .lst false r4, .v (.bool t4), .lst false p4] [.v (.bool s7), .lst false r7, .v (.bool t7), .lst false p7, .v (.bool s8), .lst false r8, .v (.bool t8), .lst false p8] [.v (.bool s9), .lst false r9, .v (.bool t9), .lst false p9, .v (.bool s10), .lst false r10, .v (.bool t10), .lst false p10] [.v (.bool s11), .lst false r11, .v (.bool t11), .lst false p11, .v (.bool s12), .lst false r12, .v (.bool t12), .lst false p12] [.v (.bool s13), .lst false r13, .v (.bool t13), .lst false p13, .v (.bool s14), .lst false r14, .v (.bool t14), .lst false p14] C' I') (k := m - 1) ?_ ?_ ?_ ?_ rfl (by show 3 <= 32; omega) hmm hnx
      ·simp [leTR, ivcSu, mkSt, vi, vb, AV.ren, AV.noTup, Cell.ren, renF, i1, j1]
      ·simp [leHR, ivcSu, mkSt, Abs.look, renF, Blk.ren, Cell.ren]
      ·simp [liveR, ivcSu, mkSt, renF]
      ·simp
     ·rw [y1] at k22
      rw [y2] at k23
      have hnx : ∃ (i2 : Nat) (I2 C2 : Int), I2 = i2 /\ (m - 1) + i2 = 4 /\ (0 <= C2 /\ C2 <= i2) /\ ((1 <= i2 -> z11 = true -> 0 < C2) /\ (2 <= i2 -> z21 = true -> 0 < C2) /\ (3 <= i2 -> z31 = true -> 0 < C2) /\ (4 <= i2 -> z41 = true -> 0 < C2)) /\ ivcSu [.v (.bool s1), .lst false r1, .v (.bool t1), .lst false p1, .v (.bool s2), .lst false r2, .v (.bool t2), .lst false p2] [.v (.bool s3), .lst false r3, .v (.bool t3), .lst false p3, .v (.bool s4), .lst false r4, .v (.bool t4), .lst false p4] [.v (.bool s7), .lst false r7, .v (.bool t7), .lst false p7, .v (.bool s8), .lst false r8, .v (.bool t8), .lst false p8] [.v (.bool s9), .lst false r9, .v (.bool t9), .lst false p9, .v (.bool s10), .lst false r10, .v (.bool t10), .lst false p10] [.v (.bool s11), .lst false r11, .v (.bool t11), .lst false p11, .v (.bool s12), .lst false r12, .v (.bool t12), .lst false p12] [.v (.bool s13), .lst false r13, .v (.bool t13), .lst false p13, .v (.bool s14), .lst false r14, .v (.bool t14), .lst false p14] C I' = ivcSu [.v (.bool s1), .lst false r1, .v (.bool t1), .lst false p1, .v (.bool s2), .lst false r2, .v (.bool t2), .lst false p2] [.v (.bool s3), .lst false r3, .v (.bool t3), .lst false p3, .v (.bool s4), .lst false r4, .v (.bool t4), .lst false p4] [.v (.bool s7), .lst false r7, .v (.bool t7), .lst false p7, .v (.bool s8), .lst false r8, .v (.bool t8), .lst false p8] [.v (.bool s9), .lst false r9, .v (.bool t9), .lst false p9, .v (.bool s10), .lst false r10, .v (.bool t10), .lst false p10] [.v (.bool s11), .lst false r11, .v (.bool t11), .lst false p11, .v (.bool s12), .lst false r12, .v (.bool t12), .lst false p12] [.v (.bool s13), .lst false r13, .v (.bool t13), .lst false p13, .v (.bool s14), .lst false r14, .v (.bool t14), .lst false p14] C2 I2 := ⟨2, I', C, hI', by omega, ⟨by omega, by omega⟩, ⟨fun _ hz => v1 (by omega) hz, (fun _ hz => by rw [y1] at hz; cases hz), fun h => by omega, fun h => by omega⟩, rfl⟩
      have hmm := hmm (by omega)
      subst hs1
      cbv
      refine bT l1 ?_
      refine bT (x1) ?_
      refine bF (x2) ?_
      refine ⟨_, hS.call (k21), ?_⟩
      cbv
      refine ⟨_, hS.call (k22), ?_⟩
      cbv
      refine bF rfl ?_
      refine ⟨_, hS.call (k21), ?_⟩
      cbv
      refine ⟨_, hS.call (k23), ?_⟩
      cbv
      refine bF rfl ?_
      refine againR [(12, 12), (13, 13), (28, 28), (29, 29), (30, 30), (31, 31)] (s' := ivcSu [.v (.bool s1), .lst false r1, .v (.bool t1), .lst false p1, .v (.bool s2), .lst false r2, .v (.bool t2), .lst false p2] [.v (.bool s3), .lst false r3, .v (.bool t3), .lst false p3, .v (.bool s4), .lst false r4, .v (.bool t4), .lst false p4] [.v (.bool s7), .lst false r7, .v (.bool t7), .lst false p7, .v (.bool s8), .lst false r8, .v (.bool t8), .lst false p8] [.v (.bool s9), .lst false r9, .v (.bool t9), .lst false p9, .v (.bool s10), .lst false r10, .v (.bool t10), .lst false p10] [.v (.bool s11), .lst false r11, .v (.bool t11), .lst false p11, .v (.bool s12), .lst false r12, .v (.bool t12), .lst false p12] [.v (.bool s13), .lst false r13, .v (.bool t13), .lst false p13, .v (.bool s14), .lst false r14, .v (.bool t14), .lst false p14] C I') (k := m - 1) ?_ ?_ ?_ ?_ rfl (by show 3 <= 32; omega) hmm hnx
      ·simp [leTR, ivcSu, mkSt, vi, vb, AV.ren, AV.noTup, Cell.ren, renF, i1, j1]
      ·simp [leHR, ivcSu, mkSt, Abs.look, renF, Blk.ren, Cell.ren]
      ·simp [liveR, ivcSu, mkSt, renF]
      ·simp
    ·have l1 : zO I 4 = true := by rw [hS.lt]; exact decide_eq_true (by omega)
     have x1 : zM (zF I 2) 1 = false := by rw [hS.rem, hS.eq, hI]; rfl
     have x2 : zM (zA .i64 (zE I 2)) 1 = true := by rw [hS.quo, hS.wrap, hS.eq, hI]; rfl
     have hsp : (z31 = true) ∨ (z31 = false /\ z32 = true) ∨ (z31 = false /\ z32 = false) := by cases z31 <;> cases z32 <;> simp
     rcases hsp with y1 | ⟨y1, y2⟩ | ⟨y1, y2⟩
     ·rw [y1] at k32
      have hnx : ∃ (i2 : Nat) (I2 C2 : Int), I2 = i2 /\ (m - 1) + i2 = 4 /\ (0 <= C2 /\ C2 <= i2) /\ ((1 <= i2 -> z11 = true -> 0 < C2) /\ (2 <= i2 -> z21 = true -> 0 < C2) /\ (3 <= i2 -> z31 = true -> 0 < C2) /\ (4 <= i2 -> z41 = true -> 0 < C2)) /\ ivcSu [.v (.bool s1), .lst false r1, .v (.bool t1), .lst false p1, .v (.bool s2), .lst false r2, .v (.bool t2), .lst false p2] [.v (.bool s3), .lst false r3, .v (.bool t3), .lst false p3, .v (.bool s4), .lst false r4, .v (.bool t4), .lst false p4] [.v (.bool s7), .lst false r7, .v (.bool t7), .lst false p7, .v (.bool s8), .lst false r8, .v (.bool t8), .lst false p8] [.v (.bool s9), .lst false r9, .v (.bool t9), .lst false p9, .v (.bool s10), .lst false r10, .v (.bool t10), .lst false p10] [.v (.bool s11), .lst false r11, .v (.bool t11), .lst false p11, .v (.bool s12), .lst false r12, .v (.bool t12), .lst false p12] [.v (.bool s13), .lst false r13, .v (.bool t13), .lst false p13, .v (.bool s14), .lst false r14, .v (.bool t14), .lst false p14] C' I' = ivcSu [.v (.bool s1), .lst false r1, .v (.bool t1), .lst false p1, .v (.bool s2), .lst false r2, .v (.bool t2), .lst false p2] [.v (.bool s3), .lst false r3, .v (.bool t3), .lst false p3, .v (.bool s4), .lst false r4, .v (.bool t4), .lst false p4] [.v (.bool s7), .lst false r7, .v (.bool t7), .lst false p7, .v (.bool s8), .lst false r8, .v (.bool t8), .lst false p8] [.v (.bool s9), .lst false r9, .v (.bool t9), .lst false p9, .v (.bool s10), .lst false r10, .v (.bool t10), .lst false p10] [.v (.bool s11), .lst false r11, .v (.bool t11), .lst false p11, .v (.bool s12), .lst false r12, .v (.bool t12), .lst false p12] [.v (.bool s13), .lst false r13, .v (.bool t13), .lst false p13, .v (.bool s14), .lst false r14, .v (.bool t14), .lst false p14] C2 I2 := ⟨3, I', C', hI', by omega, ⟨by omega, by omega⟩, ⟨fun _ _ => by omega, fun _ _ => by omega, fun _ _ => by omega, fun _ _ => by omega⟩, rfl⟩
      have hmm := hmm (by omega)
      subst hs1
      cbv
      refine bT l1 ?_
      refine bF (x1) ?_
      refine bT (x2) ?_
      refine ⟨_, hS.call (k31), ?_⟩
      cbv
      refine ⟨_, hS.call (k32), ?_⟩
      cbv
      refine bT rfl ?_
      refine againR [(12, 12), (13, 13), (28, 28), (29, 29), (30, 30), (31, 31)] (s' := ivcSu [.v (.bool s1), .lst false r1, .v (.bool t1), .lst false p1, .v (.bool s2), .lst false r2, .v (.bool t2), .lst false p2] [.v (.bool s3), .lst false r3, .v (.bool t3), .lst false p3, .v (.bool s4), .lst false r4, .v (.bool t4), .lst false p4] [.v (.bool s7), .lst false r7, .v (.bool t7), .lst false p7, .v (.bool s8), .lst false r8, .v (.bool t8), .lst false p8] [.v (.bool s9), .lst false r9, .v (.bool t9), .lst false p9, .v (.bool s10), .lst false r10, .v (.bool t10), .lst false p10] [.v (.bool s11), .lst false r11, .v (.bool t11), .lst false p11, .v (.bool s12), .lst false r12, .v (.bool t12), .lst false p12] [.v (.bool s13), .lst false r13, .v (.bool t13), .lst false p13, .v (.bool s14), .lst false r14, .v (.bool t14), .lst false p14] C' I') (k := m - 1) ?_ ?_ ?_ ?_ rfl (by show 3 <= 32; omega) hmm hnx
      ·simp [leTR, ivcSu, mkSt, vi, vb, AV.ren, AV.noTup, Cell.ren, renF, i1, j1]
      ·simp [leHR, ivcSu, mkSt, Abs.look, renF, Blk.ren, Cell.ren]
      ·simp [liveR, ivcSu, mkSt, renF]
      ·simp
     ·rw [y1] at k32
      rw [y2] at k33
      have hnx : ∃ (i2 : Nat) (I2 C2 : Int), I2 = i2 /\ (m - 1) + i2 = 4 /\ (0 <= C2 /\ C2 <= i2) /\ ((1 <= i2 -> z11 = true -> 0 < C2) /\ (2 <= i2 -> z21 = true -> 0 < C2) /\ (3 <= i2 -> z31 = true -> 0 < C2) /\ (4 <= i2 -> z41 = true -> 0 < C2)) /\ ivcSu [.v (.bool s1), .lst false r1, .v (.bool t1), .lst false p1, .v (.bool s2), .lst false r2, .v (.bool t2), .lst false p2] [.v (.bool s3), .lst false r3, .v (.bool t3), .lst false p3, .v (.bool s4), .lst false r4, .v (.bool t4), .lst false p4] [.v (.bool s7), .lst false r7, .v (.bool t7), .lst false p7, .v (.bool s8), .lst false r8, .v (.bool t8), .lst false p8] [.v (.bool s9), .lst false r9, .v (.bool t9), .lst false p9, .v (.bool s10), .lst false r10, .v (.bool t10), .lst false p10] [.v (.bool s11), .lst false r11, .v (.bool t11), .lst false p11, .v (.bool s12), .lst false r12, .v (.bool t12), .lst false p12] [.v (.bool s13), .lst false r13, .v (.bool t13), .lst false p13, .v (.bool s14), .lst false r14, .v (.bool t14), .lst false p14] C' I' = ivcSu [.v (.bool s1), .lst false r1, .v (.bool t1), .lst false p1, .v (.bool s2), .lst false r2, .v (.bool t2), .lst false p2] [.v (.bool s3), .lst false r3, .v (.bool t3), .lst false p3, .v (.bool s4), .lst false r4, .v (.bool t4), .lst false p4] [.v (.bool s7), .lst false r7, .v (.bool t7), .lst false p7, .v (.bool s8), .lst false r8, .v (.bool t8), .lst false p8] [.v (.bool s9), .lst false r9, .v (.bool t9), .lst false p9, .v (.bool s10), .lst false r10, .v (.bool t10), .lst false p10] [.v (.bool s11), .lst false r11, .v (.bool t11), .lst false p11, .v (.bool s12), .lst false r12, .v (.bool t12), .lst false p12] [.v (.bool s13), .lst false r13, .v (.bool t13), .lst false p13, .v (.bool s14), .lst false r14, .v (.bool t14), .lst false p14] C2 I2 := ⟨3, I', C', hI', by omega, ⟨by omega, by omega⟩, ⟨fun _ _ => by omega, fun _ _ => by omega, fun _ _ => by omega, fun _ _ => by omega⟩, rfl⟩
      have hmm := hmm (by omega)
      subst hs1
      cbv
      refine bT l1 ?_
      refine bF (x1) ?_
      refine bT (x2) ?_
      refine ⟨_, hS.call (k31), ?_⟩
      cbv
      refine ⟨_, hS.call (k32), ?_⟩
      cbv
      refine bF rfl ?_
      refine ⟨_, hS.call (k31), ?_⟩
      cbv
      refine ⟨_, hS.call (k33), ?_⟩
      cbv
      refine bT rfl ?_
      refine againR [(12, 12), (13, 13), (28, 28), (29, 29), (30, 30), (31, 31)] (s' := ivcSu [.v (.bool s1), .lst false r1, .v (.bool t1), .lst false p1, .v (.bool s2), .lst false r2, .v (.bool t2), .lst false p2] [.v (.bool s3), .lst false r3, .v (.bool t3), .lst false p3, .v (.bool s4), .lst false r4, .v (.bool t4), .lst false p4] [.v (.bool s7), .lst false r7, .v (.bool t7), .lst false p7, .v (.bool s8), .lst false r8, .v (.bool t8), .lst false p8] [.v (.bool s9), .lst false r9, .v (.bool t9), .lst false p9, .v (.bool s10), .lst false r10, .v (.bool t10), .lst false p10] [.v (.bool s11), .lst false r11, .v (.bool t11), .lst false p11, .v (.bool s12), .lst false r12, .v (.bool t12), .lst false p12] [.v (.bool s13), .lst false r13, .v (.bool t13), .lst false p13, .v (.bool s14), .lst false r14, .v (.bool t14), .lst false p14] C' I') (k := m - 1) ?_ ?_ ?_ ?_ rfl (by show 3 <= 32; omega) hmm hnx
      ·simp [leTR, ivcSu, mkSt, vi, vb, AV.ren, AV.noTup, Cell.ren, renF, i1, j1]
      ·simp [leHR, ivcSu, mkSt, Abs.look, renF, Blk.ren, Cell.ren]
      ·simp [liveR, ivcSu, mkSt, renF]
      ·simp
     ·rw [y1] at k32
      rw [y2] at k33
      have hnx : ∃ (i2 : Nat) (I2 C2 : Int), I2 = i2 /\ (m - 1) + i2 = 4 /\ (0 <= C2 /\ C2 <= i2) /\ ((1 <= i2 -> z11 = true -> 0 < C2) /\ (2 <= i2 -> z21 = true -> 0 < C2) /\ (3 <= i2 -> z31 = true -> 0 < C2) /\ (4 <= i2 -> z41 = true -> 0 < C2)) /\ ivcSu [.v (.bool s1), .lst false r1, .v (.bool t1), .lst false p1, .v (.bool s2), .lst false r2, .v (.bool t2), .lst false p2] [.v (.bool s3), .lst false r3, .v (.bool t3), .lst false p3, .v (.bool s4), .lst false r4, .v (.bool t4), .lst false p4] [.v (.bool s7), .lst false r7, .v (.bool t7), .lst false p7, .v (.bool s8), .lst false r8, .v (.bool t8), .lst false p8] [.v (.bool s9), .lst false r9, .v (.bool t9), .lst false p9, .v (.bool s10), .lst false r10, .v (.bool t10), .lst false p10] [.v (.bool s11), .lst false r11, .v (.bool t11), .lst false p11, .v (.bool s12), .lst false r12, .v (.bool t12), .lst false p12] [.v (.bool s13), .lst false r13, .v (.bool t13), .lst false p13, .v (.bool s14), .lst false r14, .v (.bool t14), .lst false p14] C I' = ivcSu [.v (.bool s1), .lst false r1, .v (.bool t1), .lst false p1, .v (.bool s2), .lst false r2, .v (.bool t2), .lst false p2] [.v (.bool s3), .lst false r3, .v (.bool t3), .lst false p3, .v (.bool s4), .lst false r4, .v (.bool t4), .lst false p4] [.v (.bool s7), .lst false r7, .v (.bool t7), .lst false p7, .v (.bool s8), .lst false r8, .v (.bool t8), .lst false p8] [.v (.bool s9), .lst false r9, .v (.bool t9), .lst false p9, .v (.bool s10), .lst false r10, .v (.bool t10), .lst false p10] [.v (.bool s11), .lst false r11, .v (.bool t11), .lst false p11, .v (.bool s12), .lst false r12, .v (.bool t12), .lst false p12] [.v (.bool s13), .lst false r13, .v (.bool t13), .lst false p13, .v (.bool s14), .lst false r14, .v (.bool t14), .lst false p14] C2 I2 := ⟨3, I', C, hI', by omega, ⟨by omega, by omega⟩, ⟨fun _ hz => v1 (by omega) hz, fun _ hz => v2 (by omega) hz, (fun _ hz => by rw [y1] at hz; cases hz), fun h => by omega⟩, rfl⟩
      have hmm := hmm (by omega)
      subst hs1
      cbv
      refine bT l1 ?_
      refine bF (x1) ?_
      refine bT (x2) ?_
      refine ⟨_, hS.call (k31), ?_⟩
      cbv
      refine ⟨_, hS.call (k32), ?_⟩
      cbv
      refine bF rfl ?_
      refine ⟨_, hS.call (k31), ?_⟩
      cbv
      refine ⟨_, hS.call (k33), ?_⟩
      cbv
      refine bF rfl ?_
      refine againR [(12, 12), (13, 13), (28, 28), (29, 29), (30, 30), (31, 31)] (s' := ivcSu [.v (.bool s1), .lst false r1, .v (.bool t1), .lst false p1, .v (.bool s2), .lst false r2, .v (.bool t2), .lst false p2] [.v (.bool s3), .lst false r3, .v (.bool t3), .lst false p3, .v (.bool s4), .lst false r4, .v (.bool t4), .lst false p4] [.v (.bool s7), .lst false r7, .v (.bool t7), .lst false p7, .v (.bool s8), .lst false r8, .v (.bool t8), .lst false p8] [.v (.bool s9), .lst false r9, .v (.bool t9), .lst false p9, .v (.bool s10), .lst false r10, .v (.bool t10), .lst false p10] [.v (.bool s11), .lst false r11, .v (.bool t11), .lst false p11, .v (.bool s12), .lst false r12, .v (.bool t12), .lst false p12] [.v (.bool s13), .lst false r13, .v (.bool t13), .lst false p13, .v (.bool s14), .lst false r14, .v (.bool t14), .lst false p14] C I') (k := m - 1) ?_ ?_ ?_ ?_ rfl (by show 3 <= 32; omega) hmm hnx
      ·simp [leTR, ivcSu, mkSt, vi, vb, AV.ren, AV.noTup, Cell.ren, renF, i1, j1]
      ·simp [leHR, ivcSu, mkSt, Abs.look, renF, Blk.ren, Cell.ren]
      ·simp [liveR, ivcSu, mkSt, renF]
      ·simp
    ·have l1 : zO I 4 = true := by rw [hS.lt]; exact decide_eq_true (by omega)
     have x1 : zM (zF I 2) 1 = true := by rw [hS.rem, hS.eq, hI]; rfl
     have x2 : zM (zA .i64 (zE I 2)) 1 = true := by rw [hS.quo, hS.wrap, hS.eq, hI]; rfl
     have hsp : (z41 = true) ∨ (z41 = false /\ z42 = true) ∨ (z41 = false /\ z42 = false) := by cases z41 <;> cases z42 <;> simp
     rcases hsp with y1 | ⟨y1, y2⟩ | ⟨y1, y2⟩
     ·rw [y1] at k42
      have hnx : ∃ (i2 : Nat) (I2 C2 : Int), I2 = i2 /\ (m - 1) + i2 = 4 /\ (0 <= C2 /\ C2 <= i2) /\ ((1 <= i2 -> z11 = true -> 0 < C2) /\ (2 <= i2 -> z21 = true -> 0 < C2) /\ (3 <= i2 -> z31 = true -> 0 < C2) /\ (4 <= i2 -> z41 = true -> 0 < C2)) /\ ivcSu [.v (.bool s1), .lst false r1, .v (.bool t1), .lst false p1, .v (.bool s2), .lst false r2, .v (.bool t2), .lst false p2] [.v (.bool s3), .lst false r3, .v (.bool t3), .lst false p3, .v (.bool s4), .lst false r4, .v (.bool t4), .lst false p4] [.v (.bool s7), .lst false r7, .v (.bool t7), .lst false p7, .v (.bool s8), .lst false r8, .v (.bool t8), .lst false p8] [.v (.bool s9), .lst false r9, .v (.bool t9), .lst false p9, .v (.bool s10), .lst false r10, .v (.bool t10), .lst false p10] [.v (.bool s11), .lst false r11, .v (.bool t11), .lst false p11, .v (.bool s12), .lst false r12, .v (.bool t12), .lst false p12] [.v (.bool s13), .lst false r13, .v (.bool t13), .lst false p13, .v (.bool s14), .lst false r14, .v (.bool t14), .lst false p14] C' I' = ivcSu [.v (.bool s1), .lst false r1, .v (.bool t1), .lst false p1, .v (.bool s2), .lst false r2, .v (.bool t2), .lst false p2] [.v (.bool s3), .lst false r3, .v (.bool t3), .lst false p3, .v (.bool s4), .lst false r4, .v (.bool t4), .lst false p4] [.v (.bool s7), .lst false r7, .v (.bool t7), .lst false p7, .v (.bool s8), .lst false r8, .v (.bool t8), .lst false p8] [.v (.bool s9), .lst false r9, .v (.bool t9), .lst false p9, .v (.bool s10), .lst false r10, .v (.bool t10), .lst false p10] [.v (.bool s11), .lst false r11, .v (.bool t11), .lst false p11, .v (.bool s12), .lst false r12, .v (.bool t12), .lst false p12] [.v (.bool s13), .lst false r13, .v (.bool t13), .lst false p13, .v (.bool s14), .lst false r14, .v (.bool t14), .lst false p14] C2 I2 := ⟨4, I', C', hI', by omega, ⟨by omega, by omega⟩, ⟨fun _ _ => by omega, fun _ _ => by omega, fun _ _ => by omega, fun _ _ => by omega⟩, rfl⟩
      have hmm := hmm (by omega)
      subst hs1
      cbv
      refine bT l1 ?_
      refine bT (x1) ?_
      refine bT (x2) ?_
      refine ⟨_, hS.call (k41), ?_⟩
      cbv
      refine ⟨_, hS.call (k42), ?_⟩
      cbv
      refine bT rfl ?_
      refine againR [(12, 12), (13, 13), (28, 28), (29, 29), (30, 30), (31, 31)] (s' := ivcSu [.v (.bool s1), .lst false r1, .v (.bool t1), .lst false p1, .v (.bool s2), .lst false r2, .v (.bool t2), .lst false p2] [.v (.bool s3), .lst false r3, .v (.bool t3), .lst false p3, .v (.bool s4), .lst false r4, .v (.bool t4), .lst false p4] [.v (.bool s7), .lst false r7, .v (.bool t7), .lst false p7, .v (.bool s8), .lst false r8, .v (.bool t8), .lst false p8] [.v (.bool s9), .lst false r9, .v (.bool t9), .lst false p9, .v (.bool s10), .lst false r10, .v (.bool t10), .lst false p10] [.v (.bool s11), .lst false r11, .v (.bool t11), .lst false p11, .v (.bool s12), .lst false r12, .v (.bool t12), .lst false p12] [.v (.bool s13), .lst false r13, .v (.bool t13), .lst false p13, .v (.bool s14), .lst false r14, .v (.bool t14), .lst false p14] C' I') (k := m - 1) ?_ ?_ ?_ ?_ rfl (by show 3 <= 32; omega) hmm hnx
      ·simp [leTR, ivcSu, mkSt, vi, vb, AV.ren, AV.noTup, Cell.ren, renF, i1, j1]
      ·simp [leHR, ivcSu, mkSt, Abs.look, renF, Blk.ren, Cell.ren]
      ·simp [liveR, ivcSu, mkSt, renF]
      ·simp
     ·rw [y1] at k42
      rw [y2] at k43
      have hnx : ∃ (i2 : Nat) (I2 C2 : Int), I2 = i2 /\ (m - 1) + i2 = 4 /\ (0 <= C2 /\ C2 <= i2) /\ ((1 <= i2 -> z11 = true -> 0 < C2) /\ (2 <= i2 -> z21 = true -> 0 < C2) /\ (3 <= i2 -> z31 = true -> 0 < C2) /\ (4 <= i2 -> z41 = true -> 0 < C2)) /\ ivcSu [.v (.bool s1), .lst false r1, .v (.bool t1), .lst false p1, .v (.bool s2), .lst false r2, .v (.bool t2), .lst false p2] [.v (.bool s3), .lst false r3, .v (.bool t3), .lst false p3, .v (.bool s4), .lst false r4, .v (.bool t4), .lst false p4] [.v (.bool s7), .lst false r7, .v (.bool t7), .lst false p7, .v (.bool s8), .lst false r8, .v (.bool t8), .lst false p8] [.v (.bool s9), .lst false r9, .v (.bool t9), .lst false p9, .v (.bool s10), .lst false r10, .v (.bool t10), .lst false p10] [.v (.bool s11), .lst false r11, .v (.bool t11), .lst false p11, .v (.bool s12), .lst false r12, .v (.bool t12), .lst false p12] [.v (.bool s13), .lst false r13, .v (.bool t13), .lst false p13, .v (.bool s14), .lst false r14, .v (.bool t14), .lst false p14] C' I' = ivcSu [.v (.bool s1), .lst false r1, .v (.bool t1), .lst false p1, .v (.bool s2), .lst false r2, .v (.bool t2), .lst false p2] [.v (.bool s3), .lst false r3, .v (.bool t3), .lst false p3, .v (.bool s4), .lst false r4, .v (.bool t4), .lst false p4] [.v (.bool s7), .lst false r7, .v (.bool t7), .lst false p7, .v (.bool s8), .lst false r8, .v (.bool t8), .lst false p8] [.v (.bool s9), .lst false r9, .v (.bool t9), .lst false p9, .v (.bool s10), .lst false r10, .v (.bool t10), .lst false p10] [.v (.bool s11), .lst false r11, .v (.bool t11), .lst false p11, .v (.bool s12), .lst false r12, .v (.bool t12), .lst false p12] [.v (.bool s13), .lst false r13, .v (.bool t13), .lst false p13, .v (.bool s14), .lst false r14, .v (.bool t14), .lst false p14] C2 I2 := ⟨4, I', C', hI', by omega, ⟨by omega, by omega⟩, ⟨fun _ _ => by omega, fun _ _ => by omega, fun _ _ => by omega, fun _ _ => by omega⟩, rfl⟩
      have hmm := hmm (by omega)
      subst hs1
      cbv
      refine bT l1 ?_
      refine bT (x1) ?_
      refine bT (x2) ?_
      refine ⟨_, hS.call (k41), ?_⟩
      cbv
      refine ⟨_, hS.call (k42), ?_⟩
      cbv
      refine bF rfl ?_
      refine ⟨_, hS.call (k41), ?_⟩
      cbv
      refine ⟨_, hS.call (k43), ?_⟩
      cbv
      refine bT rfl ?_
      refine againR [(12, 12), (13, 13), (28, 28), (29, 29), (30, 30), (31, 31)] (s' := ivcSu [.v (.bool s1), .lst false r1, .v (.bool t1), .lst false p1, .v (.bool s2), .lst false r2, .v (.bool t2), .lst false p2] [.v (.bool s3), .lst false r3, .v (.bool t3), .lst false p3, .v (.bool s4), .lst false r4, .v (.bool t4), .lst false p4] [.v (.bool s7), .lst false r7, .v (.bool t7), .lst false p7, .v (.bool s8), .lst false r8, .v (.bool t8), .lst false p8] [.v (.bool s9), .lst false r9, .v (.bool t9), .lst false p9, .v (.bool s10), .lst false r10, .v (.bool t10), .lst false p10] [.v (.bool s11), .lst false r11, .v (.bool t11), .lst false p11, .v (.bool s12), .lst false r12, .v (.bool t12), .lst false p12] [.v (.bool s13), .lst false r13, .v (.bool t13), .lst false p13, .v (.bool s14), .lst false r14, .v (.bool t14), .lst false p14] C' I') (k := m - 1) ?_ ?_ ?_ ?_ rfl (by show 3 <= 32; omega) hmm hnx
      ·simp [leTR, ivcSu, mkSt, vi, vb, AV.ren, AV.noTup, Cell.ren, renF, i1, j1]
      ·simp [leHR, ivcSu, mkSt, Abs.look, renF, Blk.ren, Cell.ren]
      ·simp [liveR, ivcSu, mkSt, renF]
      ·simp
     ·rw [y1] at k42
      rw [y2] at k43
      have hnx : ∃ (i2 : Nat) (I2 C2 : Int), I2 = i2 /\ (m - 1) + i2 = 4 /\ (0 <= C2 /\ C2 <= i2) /\ ((1 <= i2 -> z11 = true -> 0 < C2) /\ (2 <= i2 -> z21 = true -> 0 < C2) /\ (3 <= i2 -> z31 = true -> 0 < C2) /\ (4 <= i2 -> z41 = true -> 0 < C2)) /\ ivcSu [.v (.bool s1), .lst false r1, .v (.bool t1), .lst false p1, .v (.bool s2), .lst false r2, .v (.bool t2), .lst false p2] [.v (.bool s3), .lst false r3, .v (.bool t3), .lst false p3, .v (.bool s4), .lst false r4, .v (.bool t4), .lst false p4] [.v (.bool s7), .lst false r7, .v (.bool t7), .lst false p7, .v (.bool s8), .lst false r8, .v (.bool t8), .lst false p8] [.v (.bool s9), .lst false r9, .v (.bool t9), .lst false p9, .v (.bool s10), .lst false r10, .v (.bool t10), .lst false p10] [.v (.bool s11), .lst false r11, .v (.bool t11), .lst false p11, .v (.bool s12), .lst false r12, .v (.bool t12), .lst false p12] [.v (.bool s13), .lst false r13, .v (.bool t13), .lst false p13, .v (.bool s14), .lst false r14, .v (.bool t14), .lst false p14] C I' = ivcSu [.v (.bool s1), .lst false r1, .v (.bool t1), .lst false p1, .v (.bool s2), .lst false r2, .v (.bool t2), .lst false p2] [.v (.bool s3), .lst false r3, .v (.bool t3), .lst false p3, .v (.bool s4), .lst false r4, .v (.bool t4), .lst false p4] [.v (.bool s7), .lst false r7, .v (.bool t7), .lst false p7, .v (.bool s8), .lst false r8, .v (.bool t8), .lst false p8] [.v (.bool s9), .lst false r9, .v (.bool t9), .lst false p9, .v (.bool s10), .lst false r10, .v (.bool t10), .lst false p10] [.v (.bool s11), .lst false r11, .v (.bool t11), .lst false p11, .v (.bool s12), .lst false r12, .v (.bool t12), .lst false p12] [.v (.bool s13), .lst false r13, .v (.bool t13), .lst false p13, .v (.bool s14), .lst false r14, .v (.bool t14), .lst false p14] C2 I2 := ⟨4, I', C, hI', by omega, ⟨by omega, by omega⟩, ⟨fun _ hz => v1 (by omega) hz, fun _ hz => v2 (by omega) hz, fun _ hz => v3 (by omega) hz, (fun _ hz => by rw [y1] at hz; cases hz)⟩, rfl⟩
      have hmm := hmm (by omega)
      subst hs1
      cbv
      refine bT l1 ?_
      refine bT (x1) ?_
      refine bT (x2) ?_
      refine ⟨_, hS.call (k41), ?_⟩
      cbv
      refine ⟨_, hS.call (k42), ?_⟩
      cbv
      refine bF rfl ?_
      refine ⟨_, hS.call (k41), ?_⟩
      cbv
      refine ⟨_, hS.call (k43), ?_⟩
      cbv
      refine bF rfl ?_
      refine againR [(12, 12), (13, 13), (28, 28), (29, 29), (30, 30), (31, 31)] (s' := ivcSu [.v (.bool s1), .lst false r1, .v (.bool t1), .lst false p1, .v (.bool s2), .lst false r2, .v (.bool t2), .lst false p2] [.v (.bool s3), .lst false r3, .v (.bool t3), .lst false p3, .v (.bool s4), .lst false r4, .v (.bool t4), .lst false p4] [.v (.bool s7), .lst false r7, .v (.bool t7), .lst false p7, .v (.bool s8), .lst false r8, .v (.bool t8), .lst false p8] [.v (.bool s9), .lst false r9, .v (.bool t9), .lst false p9, .v (.bool s10), .lst false r10, .v (.bool t10), .lst false p10] [.v (.bool s11), .lst false r11, .v (.bool t11), .lst false p11, .v (.bool s12), .lst false r12, .v (.bool t12), .lst false p12] [.v (.bool s13), .lst false r13, .v (.bool t13), .lst false p13, .v (.bool s14), .lst false r14, .v (.bool t14), .lst false p14] C I') (k := m - 1) ?_ ?_ ?_ ?_ rfl (by show 3 <= 32; omega) hmm hnx
      ·simp [leTR, ivcSu, mkSt, vi, vb, AV.ren, AV.noTup, Cell.ren, renF, i1, j1]
      ·simp [leHR, ivcSu, mkSt, Abs.look, renF, Blk.ren, Cell.ren]
      ·simp [liveR, ivcSu, mkSt, renF]
      ·simp
    ·have l1 : zO I 4 = false := by rw [hS.lt]; exact decide_eq_false (by omega)
     have hC : 0 < C := by
      rcases hone with h | h | h | h
      ·exact v1 (by omega) h
      ·exact v2 (by omega) h
      ·exact v3 (by omega) h
      ·exact v4 (by omega) h
     have x1 : zO 0 C = true := by rw [hS.lt]; exact decide_eq_true hC
     subst hs1
     cbv
     refine bF l1 (bT x1 ?_)
     refine ⟨_, hS.call (cx), ?_⟩
     cbv
     refine ⟨_, hS.call (am1), ?_⟩
     cbv
     refine bT rfl ?_
     refine ⟨_, hS.call (cy), ?_⟩
     cbv
     refine ⟨_, hS.call (am2), ?_⟩
     cbv
     refine bT rfl ?_
     refine ⟨_, hS.call (cz), ?_⟩
     cbv
     refine ⟨_, hS.call (am3), ?_⟩
     cbv
     refine bT rfl ?_
     refine ⟨_, hS.call (f5), ?_⟩
     cbv
     refine bT rfl ?_
     exact hF _ (ResLe.refl _)
theorem ivc_row (hsan : ACall Tryz.prog 11 [] ⟨[.val (tb true)], []⟩) (tss : List (List Tree)) (h : okAll [rawI, rawI, .arr 3 (.int .u8)] tss) :
  ACall Tryz.prog 5 ((tvs [rawI, rawI, .arr 3 (.int .u8)] tss).map .val) ⟨[.val (tb true)], [none, none, none]⟩ := by
 obtain ⟨_, _, rfl, h1, _, _, rfl, h2, _, _, rfl, ⟨_, _, rfl, ⟨a, rfl, ha⟩, _, _, rfl, ⟨b, rfl, hb⟩, _, _, rfl, ⟨c, rfl, hc⟩, rfl⟩, rfl⟩ := h
 obtain ⟨x, rfl, hx⟩ := rawI_ok h1
 obtain ⟨y, rfl, hy⟩ := rawI_ok h2
 exact ivc_call hsan x y hx hy a b c (bd_u8 ha) (bd_u8 hb) (bd_u8 hc)
end Go.Proofs.YtpgbejgdmgpfjaaGreat
end
section
namespace Go.Abs
def execBody (P : Program) (C : Cfg) (om : FuncId -> List Mode) (call : FuncId -> List Arg -> Option Res) (n : Nat) (f : FuncId) (args : List Arg) : Option Res :=
 match P.funcs[f]? with
 | some fn =>
  if fn.name == "runtime.NumGoroutine" then none else
  match fn.body with
  | some c =>
   match execCode C call n c (startSt args fn.ntmps) with
   | some (.normal, s) => finish C s args fn.results.toList (om f)
   | some (.ret, s) => finish C s args fn.results.toList (om f)
   | _ => none
  | none => none
 | none => none
mutual
def eqT : Tree -> Tree -> Bool
 | .v x, .v y => match x, y with
  | .int k a, .int k' b => decide (k = k') && decide (a = b)
  | .bool a, .bool b => decide (a = b)
  | .string a, .string b => decide (a.data.toList = b.data.toList)
  | .func (.func f) ⟨[]⟩ ⟨[]⟩, .func (.func g) ⟨[]⟩ ⟨[]⟩ => decide (f = g)
  | _, _ => false
 | .lst c l, .lst c' l' => decide (c = c') && eqRR l l'
 | _, _ => false
def eqTs : List Tree -> List Tree -> Bool
 | [], [] => true
 | x :: xs, y :: ys => eqT x y && eqTs xs ys
 | _, _ => false
def eqRR : List (List Tree) -> List (List Tree) -> Bool
 | [], [] => true
 | x :: xs, y :: ys => eqTs x y && eqRR xs ys
 | _, _ => false
end
mutual
theorem eqT_eq : ∀ {x y : Tree}, eqT x y = true -> x = y
 | .v x, .v y, h => by
  unfold eqT at h
  split at h
  ·simp only [Bool.and_eq_true, decide_eq_true_eq] at h; rw [h.1, h.2]
  ·rw [of_decide_eq_true h]
  ·rename_i a b
   have := of_decide_eq_true h
   have e : a = b := by
    cases a with | mk da => cases b with | mk db => exact congrArg ByteArray.mk (Array.ext' this)
   rw [e]
  ·rw [of_decide_eq_true h]
  ·cases h
 | .lst c l, .lst c' l', h => by
  unfold eqT at h
  simp only [Bool.and_eq_true, decide_eq_true_eq] at h
  rw [h.1, eqRR_eq h.2]
 | .v _, .lst _ _, h => by unfold eqT at h; cases h
 | .lst _ _, .v _, h => by unfold eqT at h; cases h
theorem eqTs_eq : ∀ {x y : List Tree}, eqTs x y = true -> x = y
 | [], [], _ => rfl
 | x :: xs, y :: ys, h => by
  unfold eqTs at h
  simp only [Bool.and_eq_true] at h
  rw [eqT_eq h.1, eqTs_eq h.2]
 | [], _ :: _, h => by unfold eqTs at h; cases h
 | _ :: _, [], h => by unfold eqTs at h; cases h
theorem eqRR_eq : ∀ {x y : List (List Tree)}, eqRR x y = true -> x = y
 | [], [], _ => rfl
 | x :: xs, y :: ys, h => by
  unfold eqRR at h
  simp only [Bool.and_eq_true] at h
  rw [eqTs_eq h.1, eqRR_eq h.2]
 | [], _ :: _, h => by unfold eqRR at h; cases h
 | _ :: _, [], h => by unfold eqRR at h; cases h
end
def eqArg : Arg -> Arg -> Bool
 | .val (.c x), .val (.c y) => eqT x y
 | .val (.agg x), .val (.agg y) => eqTs x y
 | .bor s x, .bor s' y => decide (s = s') && eqRR x y
 | .own s x, .own s' y => decide (s = s') && eqRR x y
 | .ref x, .ref y => eqTs x y
 | .gh x, .gh y => eqTs x y
 | .clo f x, .clo g y => decide (f = g) && decide (x = y)
 | _, _ => false
theorem eqArg_eq {x y : Arg} (h : eqArg x y = true) : x = y := by
 unfold eqArg at h
 split at h
 ·rw [eqT_eq h]
 ·rw [eqTs_eq h]
 ·simp only [Bool.and_eq_true, decide_eq_true_eq] at h; rw [h.1, eqRR_eq h.2]
 ·simp only [Bool.and_eq_true, decide_eq_true_eq] at h; rw [h.1, eqRR_eq h.2]
 ·rw [eqTs_eq h]
 ·rw [eqTs_eq h]
 ·simp only [Bool.and_eq_true, decide_eq_true_eq] at h; rw [h.1, h.2]
 ·cases h
def eqArgs : List Arg -> List Arg -> Bool
 | [], [] => true
 | x :: xs, y :: ys => eqArg x y && eqArgs xs ys
 | _, _ => false
theorem eqArgs_eq : ∀ {x y : List Arg}, eqArgs x y = true -> x = y
 | [], [], _ => rfl
 | x :: xs, y :: ys, h => by
  unfold eqArgs at h
  simp only [Bool.and_eq_true] at h
  rw [eqArg_eq h.1, eqArgs_eq h.2]
 | [], _ :: _, h => by cases h
 | _ :: _, [], h => by cases h
inductive Known (P : Program) : List (FuncId × List Arg × Res) -> Prop where
 | nil : Known P []
 | cons {f : FuncId} {args : List Arg} {res : Res} {l : List (FuncId × List Arg × Res)} (h : ACall P f args res) (t : Known P l) : Known P ((f, args, res) :: l)
def findK : List (FuncId × List Arg × Res) -> FuncId -> List Arg -> Option Res
 | [], _, _ => none
 | (f, aas, r) :: l, g, bs => match Nat.beq f g with
  | true => match eqArgs aas bs with
   | true => some r
   | false => findK l g bs
  | false => findK l g bs
theorem Known.find {P : Program} {l : List (FuncId × List Arg × Res)} (h : Known P l) : ∀ f aas res, findK l f aas = some res -> ACall P f aas res := by
 induction h with
 | nil => intro f aas res h; cases h
 | cons h t ih =>
  rename_i f args r l
  intro g bs res hr
  unfold findK at hr
  split at hr
  ·rename_i h1
   split at hr
   ·rename_i h2
    cases hr
    obtain rfl := Nat.eq_of_beq_eq_true h1
    obtain rfl := eqArgs_eq h2
    exact h
   ·exact ih _ _ _ hr
  ·exact ih _ _ _ hr
theorem execBody_sound {P : Program} {C : Cfg} {om : FuncId -> List Mode} (hC : CfgOk P C) (hmix : P.follows .mixedOrders = true) {l : List (FuncId × List Arg × Res)} (hl : Known P l) {n : Nat} {f : FuncId} {args : List Arg} {res : Res}
  (h : execBody P C om (findK l) n f args = some res) : ACall P f args res := by
 unfold execBody at h
 split at h
 ·rename_i fn hfn
  split at h
  ·cases h
  ·rename_i hname
   split at h
   ·rename_i c hbody
    refine ACall.of_body hC hfn (by simpa using hname) hbody (om := om f) ?_
    split at h
    ·rename_i s h1
     exact execCode_sound hC hmix hl.find n c _ h1 ⟨.inl rfl, h⟩
    ·rename_i s h1
     exact execCode_sound hC hmix hl.find n c _ h1 ⟨.inr rfl, h⟩
    ·cases h
   ·cases h
 ·cases h
end Go.Abs
end
section
namespace Go.Proofs.YtpgbejgdmgpfjaaGreat.Mem
open Go Go.Abs Go.Proofs
def u (n : Int) : List Tree := [.v (.int .u32 n)]
def n64 (n : Int) : Tree := .v (.int .i64 n)
def w64 (n : Int) : Tree := .v (.int .u64 n)
def bT : Tree := .v (.bool true)
def bF : Tree := .v (.bool false)
def lF (l : List (List Tree)) : Tree := .lst false l
def lT (l : List (List Tree)) : Tree := .lst true l
def l1 : Tree := .lst false [u 1]
noncomputable def om : FuncId -> List Abs.Mode := omOf Tryz.prog [(145, [.own 4]), (146, [.own 4]), (148, [.own 1])]
theorem ex {l : List (FuncId × List Arg × Res)} {f : FuncId} {args : List Arg} {res : Res} (hl : Known Tryz.prog l) (h : execBody Tryz.prog CC om (findK l) 100000 f args = some res) : ACall Tryz.prog f args res := execBody_sound ccOk mixed hl h
theorem k0 : ACall Tryz.prog 165 [.val (.c (lF [u 1, u 0]))] ⟨[.val (.c (l1))], [none]⟩ := ex (.nil) (by kernel_rfl)
theorem k1 : ACall Tryz.prog 127 [.val (.c (w64 1))] ⟨[.val (.c (l1))], [none]⟩ := ex (.cons k0 .nil) (by kernel_rfl)
theorem k2 : ACall Tryz.prog 165 [.val (.c (l1))] ⟨[.val (.c (l1))], [none]⟩ := ex (.nil) (by kernel_rfl)
theorem k3 : ACall Tryz.prog 126 [.val (.c (bT)), .val (.c (l1))] ⟨[.val (.agg [bT, l1])], [none, none]⟩ := ex (.cons k2 .nil) (by kernel_rfl)
theorem k4 : ACall Tryz.prog 77 [.val (.c (n64 (-1)))] ⟨[.val (.agg [bT, l1])], [none]⟩ := ex (.cons k1 (.cons k3 .nil)) (by kernel_rfl)
theorem k5 : ACall Tryz.prog 126 [.val (.c (bF)), .val (.c (l1))] ⟨[.val (.agg [bF, l1])], [none, none]⟩ := ex (.cons k2 .nil) (by kernel_rfl)
theorem k6 : ACall Tryz.prog 77 [.val (.c (n64 1))] ⟨[.val (.agg [bF, l1])], [none]⟩ := ex (.cons k1 (.cons k5 .nil)) (by kernel_rfl)
theorem k7 : ACall Tryz.prog 29 [.val (.c (n64 (-1)))] ⟨[.val (.agg [bT, l1, bF, l1])], [none]⟩ := ex (.cons k4 (.cons k6 .nil)) (by kernel_rfl)
theorem k8 : ACall Tryz.prog 165 [.val (.c (lF [u 2, u 0]))] ⟨[.val (.c (lF [u 2]))], [none]⟩ := ex (.nil) (by kernel_rfl)
theorem k9 : ACall Tryz.prog 127 [.val (.c (w64 2))] ⟨[.val (.c (lF [u 2]))], [none]⟩ := ex (.cons k8 .nil) (by kernel_rfl)
theorem k10 : ACall Tryz.prog 165 [.val (.c (lF [u 2]))] ⟨[.val (.c (lF [u 2]))], [none]⟩ := ex (.nil) (by kernel_rfl)
theorem k11 : ACall Tryz.prog 126 [.val (.c (bF)), .val (.c (lF [u 2]))] ⟨[.val (.agg [bF, lF [u 2]])], [none, none]⟩ := ex (.cons k10 .nil) (by kernel_rfl)
theorem k12 : ACall Tryz.prog 77 [.val (.c (n64 2))] ⟨[.val (.agg [bF, lF [u 2]])], [none]⟩ := ex (.cons k9 (.cons k11 .nil)) (by kernel_rfl)
theorem k13 : ACall Tryz.prog 29 [.val (.c (n64 2))] ⟨[.val (.agg [bF, lF [u 2], bF, l1])], [none]⟩ := ex (.cons k12 (.cons k6 .nil)) (by kernel_rfl)
theorem k14 : ACall Tryz.prog 57 [.val (.c (n64 (-1))), .val (.c (n64 2))] ⟨[.val (.agg [bT, l1, bF, l1, bF, lF [u 2], bF, l1])], [none, none]⟩ := ex (.cons k7 (.cons k13 .nil)) (by kernel_rfl)
theorem k15 : ACall Tryz.prog 29 [.val (.c (n64 1))] ⟨[.val (.agg [bF, l1, bF, l1])], [none]⟩ := ex (.cons k6 .nil) (by kernel_rfl)
theorem k16 : ACall Tryz.prog 165 [.val (.c (lF [u 5, u 0]))] ⟨[.val (.c (lF [u 5]))], [none]⟩ := ex (.nil) (by kernel_rfl)
theorem k17 : ACall Tryz.prog 127 [.val (.c (w64 5))] ⟨[.val (.c (lF [u 5]))], [none]⟩ := ex (.cons k16 .nil) (by kernel_rfl)
theorem k18 : ACall Tryz.prog 165 [.val (.c (lF [u 5]))] ⟨[.val (.c (lF [u 5]))], [none]⟩ := ex (.nil) (by kernel_rfl)
theorem k19 : ACall Tryz.prog 126 [.val (.c (bF)), .val (.c (lF [u 5]))] ⟨[.val (.agg [bF, lF [u 5]])], [none, none]⟩ := ex (.cons k18 .nil) (by kernel_rfl)
theorem k20 : ACall Tryz.prog 77 [.val (.c (n64 5))] ⟨[.val (.agg [bF, lF [u 5]])], [none]⟩ := ex (.cons k17 (.cons k19 .nil)) (by kernel_rfl)
theorem k21 : ACall Tryz.prog 29 [.val (.c (n64 5))] ⟨[.val (.agg [bF, lF [u 5], bF, l1])], [none]⟩ := ex (.cons k20 (.cons k6 .nil)) (by kernel_rfl)
theorem k22 : ACall Tryz.prog 57 [.val (.c (n64 1)), .val (.c (n64 5))] ⟨[.val (.agg [bF, l1, bF, l1, bF, lF [u 5], bF, l1])], [none, none]⟩ := ex (.cons k15 (.cons k21 .nil)) (by kernel_rfl)
theorem k23 : ACall Tryz.prog 118 [.val (.agg [bF, l1])] ⟨[.val (.c (n64 1))], [none]⟩ := ex (.nil) (by kernel_rfl)
theorem k24 : ACall Tryz.prog 113 [.val (.agg [bF, l1, bF, l1])] ⟨[.val (.c (n64 1))], [none]⟩ := ex (.cons k23 .nil) (by kernel_rfl)
theorem k25 : ACall Tryz.prog 118 [.val (.agg [bT, l1])] ⟨[.val (.c (n64 (-1)))], [none]⟩ := ex (.nil) (by kernel_rfl)
theorem k26 : ACall Tryz.prog 113 [.val (.agg [bT, l1, bF, l1])] ⟨[.val (.c (n64 (-1)))], [none]⟩ := ex (.cons k25 .nil) (by kernel_rfl)
theorem k27 : ACall Tryz.prog 67 [.val (.agg [bF, l1, bF, l1]), .val (.agg [bT, l1, bF, l1])] ⟨[.val (.c (n64 1))], [none, none]⟩ := ex (.cons k24 (.cons k26 .nil)) (by kernel_rfl)
theorem k28 : ACall Tryz.prog 65 [.val (.c (lF [[bT, l1, bF, l1], [bF, l1, bF, l1]]))] ⟨[.val (.agg [bF, l1, bF, l1])], [none]⟩ := ex (.cons k27 .nil) (by kernel_rfl)
theorem k29 : ACall Tryz.prog 118 [.val (.agg [bF, lF [u 5]])] ⟨[.val (.c (n64 1))], [none]⟩ := ex (.nil) (by kernel_rfl)
theorem k30 : ACall Tryz.prog 113 [.val (.agg [bF, lF [u 5], bF, l1])] ⟨[.val (.c (n64 1))], [none]⟩ := ex (.cons k29 .nil) (by kernel_rfl)
theorem k31 : ACall Tryz.prog 118 [.val (.agg [bF, lF [u 2]])] ⟨[.val (.c (n64 1))], [none]⟩ := ex (.nil) (by kernel_rfl)
theorem k32 : ACall Tryz.prog 113 [.val (.agg [bF, lF [u 2], bF, l1])] ⟨[.val (.c (n64 1))], [none]⟩ := ex (.cons k31 .nil) (by kernel_rfl)
theorem k33 : ACall Tryz.prog 158 [.val (.c (lF [u 1, u 0]))] ⟨[.val (.c (l1))], [none]⟩ := ex (.nil) (by kernel_rfl)
theorem k34 : ACall Tryz.prog 161 [.val (.c (w64 1))] ⟨[.val (.c (l1))], [none]⟩ := ex (.cons k33 .nil) (by kernel_rfl)
theorem k35 : ACall Tryz.prog 158 [.val (.c (l1))] ⟨[.val (.c (l1))], [none]⟩ := ex (.nil) (by kernel_rfl)
theorem k36 : ACall Tryz.prog 160 [.val (.c (bF)), .val (.c (l1))] ⟨[.val (.agg [bF, l1])], [none, none]⟩ := ex (.cons k35 .nil) (by kernel_rfl)
theorem k37 : ACall Tryz.prog 142 [.val (.c (n64 1))] ⟨[.val (.agg [bF, l1])], [none]⟩ := ex (.cons k34 (.cons k36 .nil)) (by kernel_rfl)
theorem k38 : ACall Tryz.prog 119 [.val (.agg [bF, lF [u 5]])] ⟨[.val (.c (bF))], [none]⟩ := ex (.nil) (by kernel_rfl)
theorem k39 : ACall Tryz.prog 119 [.val (.agg [bF, l1])] ⟨[.val (.c (bT))], [none]⟩ := ex (.nil) (by kernel_rfl)
theorem k40 : ACall Tryz.prog 115 [.val (.c (lF [[bF, lF [u 5]], [bF, l1]]))] ⟨[.val (.agg [bF, lF [u 5]])], [none]⟩ := ex (.cons k37 (.cons k38 (.cons k39 .nil))) (by kernel_rfl)
theorem k41 : ACall Tryz.prog 119 [.val (.agg [bF, lF [u 2]])] ⟨[.val (.c (bF))], [none]⟩ := ex (.nil) (by kernel_rfl)
theorem k42 : ACall Tryz.prog 115 [.val (.c (lF [[bF, lF [u 2]], [bF, l1]]))] ⟨[.val (.agg [bF, lF [u 2]])], [none]⟩ := ex (.cons k37 (.cons k41 (.cons k39 .nil))) (by kernel_rfl)
theorem k43 : ACall Tryz.prog 155 [.val (.c (lF [u 5])), .val (.c (lF [u 2]))] ⟨[.val (.c (n64 1))], [none, none]⟩ := ex (.nil) (by kernel_rfl)
theorem k44 : ACall Tryz.prog 114 [.val (.agg [bF, lF [u 5]]), .val (.agg [bF, lF [u 2]])] ⟨[.val (.c (n64 1))], [none, none]⟩ := ex (.cons k29 (.cons k31 (.cons k43 .nil))) (by kernel_rfl)
theorem k45 : ACall Tryz.prog 67 [.val (.agg [bF, lF [u 5], bF, l1]), .val (.agg [bF, lF [u 2], bF, l1])] ⟨[.val (.c (n64 1))], [none, none]⟩ := ex (.cons k30 (.cons k32 (.cons k40 (.cons k42 (.cons k44 .nil))))) (by kernel_rfl)
theorem k46 : ACall Tryz.prog 66 [.val (.c (lF [[bF, lF [u 2], bF, l1], [bF, lF [u 5], bF, l1]]))] ⟨[.val (.agg [bF, lF [u 2], bF, l1])], [none]⟩ := ex (.cons k45 .nil) (by kernel_rfl)
theorem k47 : ACall Tryz.prog 115 [.val (.c (lF [[bF, l1], [bF, l1]]))] ⟨[.val (.agg [bF, l1])], [none]⟩ := ex (.cons k37 (.cons k39 .nil)) (by kernel_rfl)
theorem k48 : ACall Tryz.prog 155 [.val (.c (l1)), .val (.c (lF [u 2]))] ⟨[.val (.c (n64 (-1)))], [none, none]⟩ := ex (.nil) (by kernel_rfl)
theorem k49 : ACall Tryz.prog 114 [.val (.agg [bF, l1]), .val (.agg [bF, lF [u 2]])] ⟨[.val (.c (n64 (-1)))], [none, none]⟩ := ex (.cons k23 (.cons k31 (.cons k48 .nil))) (by kernel_rfl)
theorem k50 : ACall Tryz.prog 67 [.val (.agg [bF, l1, bF, l1]), .val (.agg [bF, lF [u 2], bF, l1])] ⟨[.val (.c (n64 (-1)))], [none, none]⟩ := ex (.cons k24 (.cons k32 (.cons k47 (.cons k42 (.cons k49 .nil))))) (by kernel_rfl)
theorem k51 : ACall Tryz.prog 13 [.val (.agg [bT, l1, bF, l1, bF, lF [u 2], bF, l1]), .val (.agg [bF, l1, bF, l1, bF, lF [u 5], bF, l1])] ⟨[.val (.agg [bF, l1, bF, l1, bF, lF [u 2], bF, l1]), .val (.c (bT))], [none, none]⟩ := ex (.cons k28 (.cons k46 (.cons k50 .nil))) (by kernel_rfl)
theorem k52 : ACall Tryz.prog 165 [.val (.c (lF [u 3, u 0]))] ⟨[.val (.c (lF [u 3]))], [none]⟩ := ex (.nil) (by kernel_rfl)
theorem k53 : ACall Tryz.prog 127 [.val (.c (w64 3))] ⟨[.val (.c (lF [u 3]))], [none]⟩ := ex (.cons k52 .nil) (by kernel_rfl)
theorem k54 : ACall Tryz.prog 165 [.val (.c (lF [u 3]))] ⟨[.val (.c (lF [u 3]))], [none]⟩ := ex (.nil) (by kernel_rfl)
theorem k55 : ACall Tryz.prog 126 [.val (.c (bF)), .val (.c (lF [u 3]))] ⟨[.val (.agg [bF, lF [u 3]])], [none, none]⟩ := ex (.cons k54 .nil) (by kernel_rfl)
theorem k56 : ACall Tryz.prog 77 [.val (.c (n64 3))] ⟨[.val (.agg [bF, lF [u 3]])], [none]⟩ := ex (.cons k53 (.cons k55 .nil)) (by kernel_rfl)
theorem k57 : ACall Tryz.prog 29 [.val (.c (n64 3))] ⟨[.val (.agg [bF, lF [u 3], bF, l1])], [none]⟩ := ex (.cons k56 (.cons k6 .nil)) (by kernel_rfl)
theorem k58 : ACall Tryz.prog 57 [.val (.c (n64 3)), .val (.c (n64 5))] ⟨[.val (.agg [bF, lF [u 3], bF, l1, bF, lF [u 5], bF, l1])], [none, none]⟩ := ex (.cons k57 (.cons k21 .nil)) (by kernel_rfl)
theorem k59 : ACall Tryz.prog 118 [.val (.agg [bF, lF [u 3]])] ⟨[.val (.c (n64 1))], [none]⟩ := ex (.nil) (by kernel_rfl)
theorem k60 : ACall Tryz.prog 113 [.val (.agg [bF, lF [u 3], bF, l1])] ⟨[.val (.c (n64 1))], [none]⟩ := ex (.cons k59 .nil) (by kernel_rfl)
theorem k61 : ACall Tryz.prog 67 [.val (.agg [bF, lF [u 3], bF, l1]), .val (.agg [bT, l1, bF, l1])] ⟨[.val (.c (n64 1))], [none, none]⟩ := ex (.cons k60 (.cons k26 .nil)) (by kernel_rfl)
theorem k62 : ACall Tryz.prog 65 [.val (.c (lF [[bT, l1, bF, l1], [bF, lF [u 3], bF, l1]]))] ⟨[.val (.agg [bF, lF [u 3], bF, l1])], [none]⟩ := ex (.cons k61 .nil) (by kernel_rfl)
theorem k63 : ACall Tryz.prog 119 [.val (.agg [bF, lF [u 3]])] ⟨[.val (.c (bF))], [none]⟩ := ex (.nil) (by kernel_rfl)
theorem k64 : ACall Tryz.prog 115 [.val (.c (lF [[bF, lF [u 3]], [bF, l1]]))] ⟨[.val (.agg [bF, lF [u 3]])], [none]⟩ := ex (.cons k37 (.cons k63 (.cons k39 .nil))) (by kernel_rfl)
theorem k65 : ACall Tryz.prog 155 [.val (.c (lF [u 3])), .val (.c (lF [u 2]))] ⟨[.val (.c (n64 1))], [none, none]⟩ := ex (.nil) (by kernel_rfl)
theorem k66 : ACall Tryz.prog 114 [.val (.agg [bF, lF [u 3]]), .val (.agg [bF, lF [u 2]])] ⟨[.val (.c (n64 1))], [none, none]⟩ := ex (.cons k59 (.cons k31 (.cons k65 .nil))) (by kernel_rfl)
theorem k67 : ACall Tryz.prog 67 [.val (.agg [bF, lF [u 3], bF, l1]), .val (.agg [bF, lF [u 2], bF, l1])] ⟨[.val (.c (n64 1))], [none, none]⟩ := ex (.cons k60 (.cons k32 (.cons k64 (.cons k42 (.cons k66 .nil))))) (by kernel_rfl)
theorem k68 : ACall Tryz.prog 13 [.val (.agg [bT, l1, bF, l1, bF, lF [u 2], bF, l1]), .val (.agg [bF, lF [u 3], bF, l1, bF, lF [u 5], bF, l1])] ⟨[.val (.agg [bF, lT [], bF, lT [], bF, lT [], bF, lT []]), .val (.c (bF))], [none, none]⟩ := ex (.cons k62 (.cons k46 (.cons k67 .nil))) (by kernel_rfl)
theorem k69 : ACall Tryz.prog 126 [.val (.c (bT)), .val (.c (lF [u 3]))] ⟨[.val (.agg [bT, lF [u 3]])], [none, none]⟩ := ex (.cons k54 .nil) (by kernel_rfl)
theorem k70 : ACall Tryz.prog 77 [.val (.c (n64 (-3)))] ⟨[.val (.agg [bT, lF [u 3]])], [none]⟩ := ex (.cons k53 (.cons k69 .nil)) (by kernel_rfl)
theorem k71 : ACall Tryz.prog 29 [.val (.c (n64 (-3)))] ⟨[.val (.agg [bT, lF [u 3], bF, l1])], [none]⟩ := ex (.cons k70 (.cons k6 .nil)) (by kernel_rfl)
theorem k72 : ACall Tryz.prog 57 [.val (.c (n64 (-3))), .val (.c (n64 1))] ⟨[.val (.agg [bT, lF [u 3], bF, l1, bF, l1, bF, l1])], [none, none]⟩ := ex (.cons k71 (.cons k15 .nil)) (by kernel_rfl)
theorem k73 : ACall Tryz.prog 140 [.val (.agg [bT, l1]), .val (.agg [bF, l1])] ⟨[.val (.agg [bT, l1, bF, l1])], [none, none]⟩ := ex (.cons k39 .nil) (by kernel_rfl)
theorem k74 : ACall Tryz.prog 140 [.val (.agg [bT, lF [u 3]]), .val (.agg [bF, l1])] ⟨[.val (.agg [bT, lF [u 3], bF, l1])], [none, none]⟩ := ex (.cons k39 .nil) (by kernel_rfl)
theorem k75 : ACall Tryz.prog 119 [.val (.agg [bT, l1])] ⟨[.val (.c (bF))], [none]⟩ := ex (.nil) (by kernel_rfl)
theorem k76 : ACall Tryz.prog 119 [.val (.agg [bT, lF [u 3]])] ⟨[.val (.c (bF))], [none]⟩ := ex (.nil) (by kernel_rfl)
theorem k77 : ACall Tryz.prog 158 [.val (.c (lF [u 3, u 0]))] ⟨[.val (.c (lF [u 3]))], [none]⟩ := ex (.nil) (by kernel_rfl)
theorem k78 : ACall Tryz.prog 183 [.val (.c (l1)), .val (.c (lF [u 3]))] ⟨[.val (.c (lF [u 3]))], [none, none]⟩ := ex (.cons k77 .nil) (by kernel_rfl)
theorem k79 : ACall Tryz.prog 158 [.val (.c (lF [u 3]))] ⟨[.val (.c (lF [u 3]))], [none]⟩ := ex (.nil) (by kernel_rfl)
theorem k80 : ACall Tryz.prog 160 [.val (.c (bF)), .val (.c (lF [u 3]))] ⟨[.val (.agg [bF, lF [u 3]])], [none, none]⟩ := ex (.cons k79 .nil) (by kernel_rfl)
theorem k81 : ACall Tryz.prog 156 [.val (.agg [bT, l1]), .val (.agg [bT, lF [u 3]])] ⟨[.val (.agg [bF, lF [u 3]])], [none, none]⟩ := ex (.cons k78 (.cons k80 .nil)) (by kernel_rfl)
theorem k82 : ACall Tryz.prog 115 [.val (.c (lF [[bT, l1], [bT, lF [u 3]]]))] ⟨[.val (.agg [bF, lF [u 3]])], [none]⟩ := ex (.cons k37 (.cons k75 (.cons k39 (.cons k76 (.cons k81 .nil))))) (by kernel_rfl)
theorem k83 : ACall Tryz.prog 99 [.val (.agg [bT, l1, bF, l1]), .val (.agg [bT, lF [u 3], bF, l1])] ⟨[.val (.agg [bF, lF [u 3], bF, l1])], [none, none]⟩ := ex (.cons k73 (.cons k74 (.cons k82 (.cons k47 .nil)))) (by kernel_rfl)
theorem k84 : ACall Tryz.prog 140 [.val (.agg [bF, l1]), .val (.agg [bF, l1])] ⟨[.val (.agg [bF, l1, bF, l1])], [none, none]⟩ := ex (.cons k39 .nil) (by kernel_rfl)
theorem k85 : ACall Tryz.prog 115 [.val (.c (lF [[bT, l1], [bF, l1]]))] ⟨[.val (.agg [bT, l1])], [none]⟩ := ex (.cons k37 (.cons k75 (.cons k39 .nil))) (by kernel_rfl)
theorem k86 : ACall Tryz.prog 99 [.val (.agg [bT, l1, bF, l1]), .val (.agg [bF, l1, bF, l1])] ⟨[.val (.agg [bT, l1, bF, l1])], [none, none]⟩ := ex (.cons k73 (.cons k84 (.cons k85 (.cons k47 .nil)))) (by kernel_rfl)
theorem k87 : ACall Tryz.prog 140 [.val (.agg [bF, lF [u 2]]), .val (.agg [bF, l1])] ⟨[.val (.agg [bF, lF [u 2], bF, l1])], [none, none]⟩ := ex (.cons k39 .nil) (by kernel_rfl)
theorem k88 : ACall Tryz.prog 158 [.val (.c (lF [u 6, u 0]))] ⟨[.val (.c (lF [u 6]))], [none]⟩ := ex (.nil) (by kernel_rfl)
theorem k89 : ACall Tryz.prog 183 [.val (.c (lF [u 2])), .val (.c (lF [u 3]))] ⟨[.val (.c (lF [u 6]))], [none, none]⟩ := ex (.cons k88 .nil) (by kernel_rfl)
theorem k90 : ACall Tryz.prog 158 [.val (.c (lF [u 6]))] ⟨[.val (.c (lF [u 6]))], [none]⟩ := ex (.nil) (by kernel_rfl)
theorem k91 : ACall Tryz.prog 160 [.val (.c (bT)), .val (.c (lF [u 6]))] ⟨[.val (.agg [bT, lF [u 6]])], [none, none]⟩ := ex (.cons k90 .nil) (by kernel_rfl)
theorem k92 : ACall Tryz.prog 156 [.val (.agg [bF, lF [u 2]]), .val (.agg [bT, lF [u 3]])] ⟨[.val (.agg [bT, lF [u 6]])], [none, none]⟩ := ex (.cons k89 (.cons k91 .nil)) (by kernel_rfl)
theorem k93 : ACall Tryz.prog 115 [.val (.c (lF [[bF, lF [u 2]], [bT, lF [u 3]]]))] ⟨[.val (.agg [bT, lF [u 6]])], [none]⟩ := ex (.cons k37 (.cons k41 (.cons k39 (.cons k76 (.cons k92 .nil))))) (by kernel_rfl)
theorem k94 : ACall Tryz.prog 99 [.val (.agg [bF, lF [u 2], bF, l1]), .val (.agg [bT, lF [u 3], bF, l1])] ⟨[.val (.agg [bT, lF [u 6], bF, l1])], [none, none]⟩ := ex (.cons k87 (.cons k74 (.cons k93 (.cons k47 .nil)))) (by kernel_rfl)
theorem k95 : ACall Tryz.prog 99 [.val (.agg [bF, lF [u 2], bF, l1]), .val (.agg [bF, l1, bF, l1])] ⟨[.val (.agg [bF, lF [u 2], bF, l1])], [none, none]⟩ := ex (.cons k87 (.cons k84 (.cons k42 (.cons k47 .nil)))) (by kernel_rfl)
theorem k96 : ACall Tryz.prog 67 [.val (.agg [bT, l1, bF, l1]), .val (.agg [bF, lF [u 3], bF, l1])] ⟨[.val (.c (n64 (-1)))], [none, none]⟩ := ex (.cons k26 (.cons k60 .nil)) (by kernel_rfl)
theorem k97 : ACall Tryz.prog 118 [.val (.agg [bT, lF [u 6]])] ⟨[.val (.c (n64 (-1)))], [none]⟩ := ex (.nil) (by kernel_rfl)
theorem k98 : ACall Tryz.prog 113 [.val (.agg [bT, lF [u 6], bF, l1])] ⟨[.val (.c (n64 (-1)))], [none]⟩ := ex (.cons k97 .nil) (by kernel_rfl)
theorem k99 : ACall Tryz.prog 119 [.val (.agg [bT, lF [u 6]])] ⟨[.val (.c (bF))], [none]⟩ := ex (.nil) (by kernel_rfl)
theorem k100 : ACall Tryz.prog 115 [.val (.c (lF [[bT, lF [u 6]], [bF, l1]]))] ⟨[.val (.agg [bT, lF [u 6]])], [none]⟩ := ex (.cons k37 (.cons k99 (.cons k39 .nil))) (by kernel_rfl)
theorem k101 : ACall Tryz.prog 155 [.val (.c (l1)), .val (.c (lF [u 6]))] ⟨[.val (.c (n64 (-1)))], [none, none]⟩ := ex (.nil) (by kernel_rfl)
theorem k102 : ACall Tryz.prog 114 [.val (.agg [bT, lF [u 6]]), .val (.agg [bT, l1])] ⟨[.val (.c (n64 (-1)))], [none, none]⟩ := ex (.cons k97 (.cons k25 (.cons k101 .nil))) (by kernel_rfl)
theorem k103 : ACall Tryz.prog 67 [.val (.agg [bT, lF [u 6], bF, l1]), .val (.agg [bT, l1, bF, l1])] ⟨[.val (.c (n64 (-1)))], [none, none]⟩ := ex (.cons k98 (.cons k26 (.cons k100 (.cons k85 (.cons k102 .nil))))) (by kernel_rfl)
theorem k104 : ACall Tryz.prog 67 [.val (.agg [bF, lF [u 2], bF, l1]), .val (.agg [bT, lF [u 6], bF, l1])] ⟨[.val (.c (n64 1))], [none, none]⟩ := ex (.cons k32 (.cons k98 .nil)) (by kernel_rfl)
theorem k105 : ACall Tryz.prog 66 [.val (.c (lF [[bF, lF [u 3], bF, l1], [bT, l1, bF, l1], [bT, lF [u 6], bF, l1], [bF, lF [u 2], bF, l1]]))] ⟨[.val (.agg [bT, lF [u 6], bF, l1])], [none]⟩ := ex (.cons k96 (.cons k103 (.cons k104 .nil))) (by kernel_rfl)
theorem k106 : ACall Tryz.prog 67 [.val (.agg [bT, lF [u 6], bF, l1]), .val (.agg [bF, lF [u 3], bF, l1])] ⟨[.val (.c (n64 (-1)))], [none, none]⟩ := ex (.cons k98 (.cons k60 .nil)) (by kernel_rfl)
theorem k107 : ACall Tryz.prog 155 [.val (.c (lF [u 2])), .val (.c (lF [u 3]))] ⟨[.val (.c (n64 (-1)))], [none, none]⟩ := ex (.nil) (by kernel_rfl)
theorem k108 : ACall Tryz.prog 114 [.val (.agg [bF, lF [u 2]]), .val (.agg [bF, lF [u 3]])] ⟨[.val (.c (n64 (-1)))], [none, none]⟩ := ex (.cons k31 (.cons k59 (.cons k107 .nil))) (by kernel_rfl)
theorem k109 : ACall Tryz.prog 67 [.val (.agg [bF, lF [u 2], bF, l1]), .val (.agg [bF, lF [u 3], bF, l1])] ⟨[.val (.c (n64 (-1)))], [none, none]⟩ := ex (.cons k32 (.cons k60 (.cons k42 (.cons k64 (.cons k108 .nil))))) (by kernel_rfl)
theorem k110 : ACall Tryz.prog 65 [.val (.c (lF [[bF, lF [u 3], bF, l1], [bT, l1, bF, l1], [bT, lF [u 6], bF, l1], [bF, lF [u 2], bF, l1]]))] ⟨[.val (.agg [bF, lF [u 3], bF, l1])], [none]⟩ := ex (.cons k96 (.cons k106 (.cons k109 .nil))) (by kernel_rfl)
theorem k111 : ACall Tryz.prog 124 [.val (.c (lF [[bF, lF [u 3], bF, l1], [bT, l1, bF, l1], [bT, lF [u 6], bF, l1], [bF, lF [u 2], bF, l1]]))] ⟨[.val (.agg [bT, lF [u 6], bF, l1, bF, lF [u 3], bF, l1])], [none]⟩ := ex (.cons k105 (.cons k110 .nil)) (by kernel_rfl)
theorem k112 : ACall Tryz.prog 74 [.val (.agg [bT, l1, bF, l1, bF, lF [u 2], bF, l1]), .val (.agg [bT, lF [u 3], bF, l1, bF, l1, bF, l1])] ⟨[.val (.agg [bT, lF [u 6], bF, l1, bF, lF [u 3], bF, l1])], [none, none]⟩ := ex (.cons k83 (.cons k86 (.cons k94 (.cons k95 (.cons k111 .nil))))) (by kernel_rfl)
theorem k113 : ACall Tryz.prog 71 [.val (.c (.v (.func (.func 74) #[] #[]))), .val (.agg [bT, l1, bF, l1, bF, lF [u 2], bF, l1]), .val (.agg [bT, lF [u 3], bF, l1, bF, l1, bF, l1])] ⟨[.val (.agg [bT, lF [u 6], bF, l1, bF, lF [u 3], bF, l1])], [none, none, none]⟩ := ex (.cons k112 .nil) (by kernel_rfl)
theorem k114 : ACall Tryz.prog 24 [.val (.agg [bT, l1, bF, l1, bF, lF [u 2], bF, l1]), .val (.agg [bT, lF [u 3], bF, l1, bF, l1, bF, l1])] ⟨[.val (.agg [bT, lF [u 6], bF, l1, bF, lF [u 3], bF, l1])], [none, none]⟩ := ex (.cons k113 .nil) (by kernel_rfl)
theorem k115 : ACall Tryz.prog 165 [.val (.c (lF [u 6, u 0]))] ⟨[.val (.c (lF [u 6]))], [none]⟩ := ex (.nil) (by kernel_rfl)
theorem k116 : ACall Tryz.prog 127 [.val (.c (w64 6))] ⟨[.val (.c (lF [u 6]))], [none]⟩ := ex (.cons k115 .nil) (by kernel_rfl)
theorem k117 : ACall Tryz.prog 165 [.val (.c (lF [u 6]))] ⟨[.val (.c (lF [u 6]))], [none]⟩ := ex (.nil) (by kernel_rfl)
theorem k118 : ACall Tryz.prog 126 [.val (.c (bT)), .val (.c (lF [u 6]))] ⟨[.val (.agg [bT, lF [u 6]])], [none, none]⟩ := ex (.cons k117 .nil) (by kernel_rfl)
theorem k119 : ACall Tryz.prog 77 [.val (.c (n64 (-6)))] ⟨[.val (.agg [bT, lF [u 6]])], [none]⟩ := ex (.cons k116 (.cons k118 .nil)) (by kernel_rfl)
theorem k120 : ACall Tryz.prog 29 [.val (.c (n64 (-6)))] ⟨[.val (.agg [bT, lF [u 6], bF, l1])], [none]⟩ := ex (.cons k119 (.cons k6 .nil)) (by kernel_rfl)
theorem k121 : ACall Tryz.prog 57 [.val (.c (n64 (-6))), .val (.c (n64 3))] ⟨[.val (.agg [bT, lF [u 6], bF, l1, bF, lF [u 3], bF, l1])], [none, none]⟩ := ex (.cons k120 (.cons k57 .nil)) (by kernel_rfl)
theorem k122 : ACall Tryz.prog 82 [.val (.agg [bT, lF [u 6]]), .val (.agg [bT, lF [u 6]])] ⟨[.val (.c (bT))], [none, none]⟩ := ex (.nil) (by kernel_rfl)
theorem k123 : ACall Tryz.prog 82 [.val (.agg [bF, l1]), .val (.agg [bF, l1])] ⟨[.val (.c (bT))], [none, none]⟩ := ex (.nil) (by kernel_rfl)
theorem k124 : ACall Tryz.prog 33 [.val (.agg [bT, lF [u 6], bF, l1]), .val (.agg [bT, lF [u 6], bF, l1])] ⟨[.val (.c (bT))], [none, none]⟩ := ex (.cons k122 (.cons k123 .nil)) (by kernel_rfl)
theorem k125 : ACall Tryz.prog 82 [.val (.agg [bF, lF [u 3]]), .val (.agg [bF, lF [u 3]])] ⟨[.val (.c (bT))], [none, none]⟩ := ex (.nil) (by kernel_rfl)
theorem k126 : ACall Tryz.prog 33 [.val (.agg [bF, lF [u 3], bF, l1]), .val (.agg [bF, lF [u 3], bF, l1])] ⟨[.val (.c (bT))], [none, none]⟩ := ex (.cons k125 (.cons k123 .nil)) (by kernel_rfl)
theorem k127 : ACall Tryz.prog 15 [.val (.agg [bT, lF [u 6], bF, l1, bF, lF [u 3], bF, l1]), .val (.agg [bT, lF [u 6], bF, l1, bF, lF [u 3], bF, l1])] ⟨[.val (.c (bT))], [none, none]⟩ := ex (.cons k124 (.cons k126 .nil)) (by kernel_rfl)
theorem k128 : ACall Tryz.prog 141 [.val (.agg [bF, l1])] ⟨[.val (.agg [bF, l1, bF, l1])], [none]⟩ := ex (.cons k37 .nil) (by kernel_rfl)
theorem k129 : ACall Tryz.prog 94 [.val (.c (n64 1))] ⟨[.val (.agg [bF, l1, bF, l1])], [none]⟩ := ex (.cons k37 (.cons k128 .nil)) (by kernel_rfl)
theorem k130 : ACall Tryz.prog 115 [.val (.c (lF [[bF, l1], [bT, l1]]))] ⟨[.val (.agg [bT, l1])], [none]⟩ := ex (.cons k37 (.cons k39 (.cons k75 .nil))) (by kernel_rfl)
theorem k131 : ACall Tryz.prog 99 [.val (.agg [bF, l1, bF, l1]), .val (.agg [bT, l1, bF, l1])] ⟨[.val (.agg [bT, l1, bF, l1])], [none, none]⟩ := ex (.cons k84 (.cons k73 (.cons k130 (.cons k47 .nil)))) (by kernel_rfl)
theorem k132 : ACall Tryz.prog 183 [.val (.c (l1)), .val (.c (l1))] ⟨[.val (.c (l1))], [none, none]⟩ := ex (.cons k33 .nil) (by kernel_rfl)
theorem k133 : ACall Tryz.prog 156 [.val (.agg [bT, l1]), .val (.agg [bT, l1])] ⟨[.val (.agg [bF, l1])], [none, none]⟩ := ex (.cons k132 (.cons k36 .nil)) (by kernel_rfl)
theorem k134 : ACall Tryz.prog 115 [.val (.c (lF [[bT, l1], [bT, l1]]))] ⟨[.val (.agg [bF, l1])], [none]⟩ := ex (.cons k37 (.cons k75 (.cons k39 (.cons k133 .nil)))) (by kernel_rfl)
theorem k135 : ACall Tryz.prog 99 [.val (.agg [bT, l1, bF, l1]), .val (.agg [bT, l1, bF, l1])] ⟨[.val (.agg [bF, l1, bF, l1])], [none, none]⟩ := ex (.cons k73 (.cons k134 (.cons k47 .nil))) (by kernel_rfl)
theorem k136 : ACall Tryz.prog 125 [.val (.agg [bT, l1, bF, l1]), .val (.c (n64 2))] ⟨[.val (.agg [bF, l1, bF, l1])], [none, none]⟩ := ex (.cons k129 (.cons k131 (.cons k135 .nil))) (by kernel_rfl)
theorem k137 : ACall Tryz.prog 115 [.val (.c (lF [[bF, l1], [bF, lF [u 2]]]))] ⟨[.val (.agg [bF, lF [u 2]])], [none]⟩ := ex (.cons k37 (.cons k39 (.cons k41 .nil))) (by kernel_rfl)
theorem k138 : ACall Tryz.prog 99 [.val (.agg [bF, l1, bF, l1]), .val (.agg [bF, lF [u 2], bF, l1])] ⟨[.val (.agg [bF, lF [u 2], bF, l1])], [none, none]⟩ := ex (.cons k84 (.cons k87 (.cons k137 (.cons k47 .nil)))) (by kernel_rfl)
theorem k139 : ACall Tryz.prog 158 [.val (.c (lF [u 4, u 0]))] ⟨[.val (.c (lF [u 4]))], [none]⟩ := ex (.nil) (by kernel_rfl)
open Go Go.Abs Go.Proofs
theorem k140 : ACall Tryz.prog 183 [.val (.c (lF [u 2])), .val (.c (lF [u 2]))] ⟨[.val (.c (lF [u 4]))], [none, none]⟩ := ex (.cons k139 .nil) (by kernel_rfl)
theorem k141 : ACall Tryz.prog 158 [.val (.c (lF [u 4]))] ⟨[.val (.c (lF [u 4]))], [none]⟩ := ex (.nil) (by kernel_rfl)
theorem k142 : ACall Tryz.prog 160 [.val (.c (bF)), .val (.c (lF [u 4]))] ⟨[.val (.agg [bF, lF [u 4]])], [none, none]⟩ := ex (.cons k141 .nil) (by kernel_rfl)
theorem k143 : ACall Tryz.prog 156 [.val (.agg [bF, lF [u 2]]), .val (.agg [bF, lF [u 2]])] ⟨[.val (.agg [bF, lF [u 4]])], [none, none]⟩ := ex (.cons k140 (.cons k142 .nil)) (by kernel_rfl)
theorem k144 : ACall Tryz.prog 115 [.val (.c (lF [[bF, lF [u 2]], [bF, lF [u 2]]]))] ⟨[.val (.agg [bF, lF [u 4]])], [none]⟩ := ex (.cons k37 (.cons k41 (.cons k39 (.cons k143 .nil)))) (by kernel_rfl)
theorem k145 : ACall Tryz.prog 99 [.val (.agg [bF, lF [u 2], bF, l1]), .val (.agg [bF, lF [u 2], bF, l1])] ⟨[.val (.agg [bF, lF [u 4], bF, l1])], [none, none]⟩ := ex (.cons k87 (.cons k144 (.cons k47 .nil))) (by kernel_rfl)
theorem k146 : ACall Tryz.prog 125 [.val (.agg [bF, lF [u 2], bF, l1]), .val (.c (n64 2))] ⟨[.val (.agg [bF, lF [u 4], bF, l1])], [none, none]⟩ := ex (.cons k129 (.cons k138 (.cons k145 .nil))) (by kernel_rfl)
theorem k147 : ACall Tryz.prog 158 [.val (.c (lF [u 0, u 0]))] ⟨[.val (.c (lF []))], [none]⟩ := ex (.nil) (by kernel_rfl)
theorem k148 : ACall Tryz.prog 161 [.val (.c (w64 0))] ⟨[.val (.c (lF []))], [none]⟩ := ex (.cons k147 .nil) (by kernel_rfl)
theorem k149 : ACall Tryz.prog 158 [.val (.c (lF []))] ⟨[.val (.c (lF []))], [none]⟩ := ex (.nil) (by kernel_rfl)
theorem k150 : ACall Tryz.prog 160 [.val (.c (bF)), .val (.c (lF []))] ⟨[.val (.agg [bF, lT []])], [none, none]⟩ := ex (.cons k149 .nil) (by kernel_rfl)
theorem k151 : ACall Tryz.prog 142 [.val (.c (n64 0))] ⟨[.val (.agg [bF, lT []])], [none]⟩ := ex (.cons k148 (.cons k150 .nil)) (by kernel_rfl)
theorem k152 : ACall Tryz.prog 141 [.val (.agg [bF, lT []])] ⟨[.val (.agg [bF, lT [], bF, l1])], [none]⟩ := ex (.cons k37 .nil) (by kernel_rfl)
theorem k153 : ACall Tryz.prog 94 [.val (.c (n64 0))] ⟨[.val (.agg [bF, lT [], bF, l1])], [none]⟩ := ex (.cons k151 (.cons k152 .nil)) (by kernel_rfl)
theorem k154 : ACall Tryz.prog 118 [.val (.agg [bF, lT []])] ⟨[.val (.c (n64 0))], [none]⟩ := ex (.nil) (by kernel_rfl)
theorem k155 : ACall Tryz.prog 113 [.val (.agg [bF, lT [], bF, l1])] ⟨[.val (.c (n64 0))], [none]⟩ := ex (.cons k154 .nil) (by kernel_rfl)
theorem k156 : ACall Tryz.prog 67 [.val (.agg [bF, l1, bF, l1]), .val (.agg [bF, lT [], bF, l1])] ⟨[.val (.c (n64 1))], [none, none]⟩ := ex (.cons k24 (.cons k155 .nil)) (by kernel_rfl)
theorem k157 : ACall Tryz.prog 118 [.val (.agg [bF, lF [u 4]])] ⟨[.val (.c (n64 1))], [none]⟩ := ex (.nil) (by kernel_rfl)
theorem k158 : ACall Tryz.prog 113 [.val (.agg [bF, lF [u 4], bF, l1])] ⟨[.val (.c (n64 1))], [none]⟩ := ex (.cons k157 .nil) (by kernel_rfl)
theorem k159 : ACall Tryz.prog 67 [.val (.agg [bF, lF [u 4], bF, l1]), .val (.agg [bF, lT [], bF, l1])] ⟨[.val (.c (n64 1))], [none, none]⟩ := ex (.cons k158 (.cons k155 .nil)) (by kernel_rfl)
theorem k160 : ACall Tryz.prog 66 [.val (.c (lF [[bF, lT [], bF, l1], [bF, l1, bF, l1], [bF, lF [u 4], bF, l1]]))] ⟨[.val (.agg [bF, lT [], bF, l1])], [none]⟩ := ex (.cons k156 (.cons k159 .nil)) (by kernel_rfl)
theorem k161 : ACall Tryz.prog 119 [.val (.agg [bF, lF [u 4]])] ⟨[.val (.c (bF))], [none]⟩ := ex (.nil) (by kernel_rfl)
theorem k162 : ACall Tryz.prog 115 [.val (.c (lF [[bF, lF [u 4]], [bF, l1]]))] ⟨[.val (.agg [bF, lF [u 4]])], [none]⟩ := ex (.cons k37 (.cons k161 (.cons k39 .nil))) (by kernel_rfl)
theorem k163 : ACall Tryz.prog 155 [.val (.c (lF [u 4])), .val (.c (l1))] ⟨[.val (.c (n64 1))], [none, none]⟩ := ex (.nil) (by kernel_rfl)
theorem k164 : ACall Tryz.prog 114 [.val (.agg [bF, lF [u 4]]), .val (.agg [bF, l1])] ⟨[.val (.c (n64 1))], [none, none]⟩ := ex (.cons k157 (.cons k23 (.cons k163 .nil))) (by kernel_rfl)
theorem k165 : ACall Tryz.prog 67 [.val (.agg [bF, lF [u 4], bF, l1]), .val (.agg [bF, l1, bF, l1])] ⟨[.val (.c (n64 1))], [none, none]⟩ := ex (.cons k158 (.cons k24 (.cons k162 (.cons k47 (.cons k164 .nil))))) (by kernel_rfl)
theorem k166 : ACall Tryz.prog 65 [.val (.c (lF [[bF, lT [], bF, l1], [bF, l1, bF, l1], [bF, lF [u 4], bF, l1]]))] ⟨[.val (.agg [bF, lF [u 4], bF, l1])], [none]⟩ := ex (.cons k156 (.cons k165 .nil)) (by kernel_rfl)
theorem k167 : ACall Tryz.prog 124 [.val (.c (lF [[bF, lT [], bF, l1], [bF, l1, bF, l1], [bF, lF [u 4], bF, l1]]))] ⟨[.val (.agg [bF, lT [], bF, l1, bF, lF [u 4], bF, l1])], [none]⟩ := ex (.cons k160 (.cons k166 .nil)) (by kernel_rfl)
theorem k168 : ACall Tryz.prog 75 [.val (.agg [bT, l1, bF, l1, bF, lF [u 2], bF, l1]), .val (.c (n64 2))] ⟨[.val (.agg [bF, lT [], bF, l1, bF, lF [u 4], bF, l1])], [none, none]⟩ := ex (.cons k136 (.cons k146 (.cons k26 (.cons k32 (.cons k153 (.cons k167 .nil)))))) (by kernel_rfl)
theorem k169 : ACall Tryz.prog 26 [.val (.agg [bT, l1, bF, l1, bF, lF [u 2], bF, l1]), .val (.c (n64 2))] ⟨[.val (.agg [bF, lT [], bF, l1, bF, lF [u 4], bF, l1])], [none, none]⟩ := ex (.cons k168 .nil) (by kernel_rfl)
theorem k170 : ACall Tryz.prog 165 [.val (.c (lF [u 0, u 0]))] ⟨[.val (.c (lF []))], [none]⟩ := ex (.nil) (by kernel_rfl)
theorem k171 : ACall Tryz.prog 127 [.val (.c (w64 0))] ⟨[.val (.c (lF []))], [none]⟩ := ex (.cons k170 .nil) (by kernel_rfl)
theorem k172 : ACall Tryz.prog 165 [.val (.c (lF []))] ⟨[.val (.c (lF []))], [none]⟩ := ex (.nil) (by kernel_rfl)
theorem k173 : ACall Tryz.prog 126 [.val (.c (bF)), .val (.c (lF []))] ⟨[.val (.agg [bF, lF []])], [none, none]⟩ := ex (.cons k172 .nil) (by kernel_rfl)
theorem k174 : ACall Tryz.prog 77 [.val (.c (n64 0))] ⟨[.val (.agg [bF, lF []])], [none]⟩ := ex (.cons k171 (.cons k173 .nil)) (by kernel_rfl)
theorem k175 : ACall Tryz.prog 29 [.val (.c (n64 0))] ⟨[.val (.agg [bF, lF [], bF, l1])], [none]⟩ := ex (.cons k174 (.cons k6 .nil)) (by kernel_rfl)
theorem k176 : ACall Tryz.prog 165 [.val (.c (lF [u 4, u 0]))] ⟨[.val (.c (lF [u 4]))], [none]⟩ := ex (.nil) (by kernel_rfl)
theorem k177 : ACall Tryz.prog 127 [.val (.c (w64 4))] ⟨[.val (.c (lF [u 4]))], [none]⟩ := ex (.cons k176 .nil) (by kernel_rfl)
theorem k178 : ACall Tryz.prog 165 [.val (.c (lF [u 4]))] ⟨[.val (.c (lF [u 4]))], [none]⟩ := ex (.nil) (by kernel_rfl)
theorem k179 : ACall Tryz.prog 126 [.val (.c (bF)), .val (.c (lF [u 4]))] ⟨[.val (.agg [bF, lF [u 4]])], [none, none]⟩ := ex (.cons k178 .nil) (by kernel_rfl)
theorem k180 : ACall Tryz.prog 77 [.val (.c (n64 4))] ⟨[.val (.agg [bF, lF [u 4]])], [none]⟩ := ex (.cons k177 (.cons k179 .nil)) (by kernel_rfl)
theorem k181 : ACall Tryz.prog 29 [.val (.c (n64 4))] ⟨[.val (.agg [bF, lF [u 4], bF, l1])], [none]⟩ := ex (.cons k180 (.cons k6 .nil)) (by kernel_rfl)
theorem k182 : ACall Tryz.prog 57 [.val (.c (n64 0)), .val (.c (n64 4))] ⟨[.val (.agg [bF, lF [], bF, l1, bF, lF [u 4], bF, l1])], [none, none]⟩ := ex (.cons k175 (.cons k181 .nil)) (by kernel_rfl)
theorem k183 : ACall Tryz.prog 82 [.val (.agg [bF, lT []]), .val (.agg [bF, lF []])] ⟨[.val (.c (bT))], [none, none]⟩ := ex (.nil) (by kernel_rfl)
theorem k184 : ACall Tryz.prog 33 [.val (.agg [bF, lT [], bF, l1]), .val (.agg [bF, lF [], bF, l1])] ⟨[.val (.c (bT))], [none, none]⟩ := ex (.cons k183 (.cons k123 .nil)) (by kernel_rfl)
theorem k185 : ACall Tryz.prog 82 [.val (.agg [bF, lF [u 4]]), .val (.agg [bF, lF [u 4]])] ⟨[.val (.c (bT))], [none, none]⟩ := ex (.nil) (by kernel_rfl)
theorem k186 : ACall Tryz.prog 33 [.val (.agg [bF, lF [u 4], bF, l1]), .val (.agg [bF, lF [u 4], bF, l1])] ⟨[.val (.c (bT))], [none, none]⟩ := ex (.cons k185 (.cons k123 .nil)) (by kernel_rfl)
theorem k187 : ACall Tryz.prog 15 [.val (.agg [bF, lT [], bF, l1, bF, lF [u 4], bF, l1]), .val (.agg [bF, lF [], bF, l1, bF, lF [u 4], bF, l1])] ⟨[.val (.c (bT))], [none, none]⟩ := ex (.cons k184 (.cons k186 .nil)) (by kernel_rfl)
theorem k188 : ACall Tryz.prog 158 [.val (.c (lF [u 2, u 0]))] ⟨[.val (.c (lF [u 2]))], [none]⟩ := ex (.nil) (by kernel_rfl)
theorem k189 : ACall Tryz.prog 170 [.val (.c (l1)), .val (.c (l1))] ⟨[.val (.c (lF [u 2]))], [none, none]⟩ := ex (.cons k188 .nil) (by kernel_rfl)
theorem k190 : ACall Tryz.prog 158 [.val (.c (lF [u 2]))] ⟨[.val (.c (lF [u 2]))], [none]⟩ := ex (.nil) (by kernel_rfl)
theorem k191 : ACall Tryz.prog 160 [.val (.c (bT)), .val (.c (lF [u 2]))] ⟨[.val (.agg [bT, lF [u 2]])], [none, none]⟩ := ex (.cons k190 .nil) (by kernel_rfl)
theorem k192 : ACall Tryz.prog 139 [.val (.agg [bT, l1]), .val (.agg [bT, l1])] ⟨[.val (.agg [bT, lF [u 2]])], [none, none]⟩ := ex (.cons k189 (.cons k191 .nil)) (by kernel_rfl)
theorem k193 : ACall Tryz.prog 140 [.val (.agg [bT, lF [u 2]]), .val (.agg [bF, l1])] ⟨[.val (.agg [bT, lF [u 2], bF, l1])], [none, none]⟩ := ex (.cons k39 .nil) (by kernel_rfl)
theorem k194 : ACall Tryz.prog 93 [.val (.agg [bT, l1, bF, l1]), .val (.agg [bT, l1, bF, l1])] ⟨[.val (.agg [bT, lF [u 2], bF, l1])], [none, none]⟩ := ex (.cons k85 (.cons k192 (.cons k47 (.cons k193 .nil)))) (by kernel_rfl)
theorem k195 : ACall Tryz.prog 170 [.val (.c (lF [u 2])), .val (.c (lF [u 2]))] ⟨[.val (.c (lF [u 4]))], [none, none]⟩ := ex (.cons k139 .nil) (by kernel_rfl)
theorem k196 : ACall Tryz.prog 139 [.val (.agg [bF, lF [u 2]]), .val (.agg [bF, lF [u 2]])] ⟨[.val (.agg [bF, lF [u 4]])], [none, none]⟩ := ex (.cons k195 (.cons k142 .nil)) (by kernel_rfl)
theorem k197 : ACall Tryz.prog 140 [.val (.agg [bF, lF [u 4]]), .val (.agg [bF, l1])] ⟨[.val (.agg [bF, lF [u 4], bF, l1])], [none, none]⟩ := ex (.cons k39 .nil) (by kernel_rfl)
theorem k198 : ACall Tryz.prog 93 [.val (.agg [bF, lF [u 2], bF, l1]), .val (.agg [bF, lF [u 2], bF, l1])] ⟨[.val (.agg [bF, lF [u 4], bF, l1])], [none, none]⟩ := ex (.cons k42 (.cons k196 (.cons k47 (.cons k197 .nil)))) (by kernel_rfl)
theorem k199 : ACall Tryz.prog 72 [.val (.agg [bT, l1, bF, l1, bF, lF [u 2], bF, l1]), .val (.agg [bT, l1, bF, l1, bF, lF [u 2], bF, l1])] ⟨[.val (.agg [bT, lF [u 2], bF, l1, bF, lF [u 4], bF, l1])], [none, none]⟩ := ex (.cons k194 (.cons k198 .nil)) (by kernel_rfl)
theorem k200 : ACall Tryz.prog 71 [.val (.c (.v (.func (.func 72) #[] #[]))), .val (.agg [bT, l1, bF, l1, bF, lF [u 2], bF, l1]), .val (.agg [bT, l1, bF, l1, bF, lF [u 2], bF, l1])] ⟨[.val (.agg [bT, lF [u 2], bF, l1, bF, lF [u 4], bF, l1])], [none, none, none]⟩ := ex (.cons k199 .nil) (by kernel_rfl)
theorem k201 : ACall Tryz.prog 20 [.val (.agg [bT, l1, bF, l1, bF, lF [u 2], bF, l1]), .val (.agg [bT, l1, bF, l1, bF, lF [u 2], bF, l1])] ⟨[.val (.agg [bT, lF [u 2], bF, l1, bF, lF [u 4], bF, l1])], [none, none]⟩ := ex (.cons k200 .nil) (by kernel_rfl)
theorem k202 : ACall Tryz.prog 126 [.val (.c (bT)), .val (.c (lF [u 2]))] ⟨[.val (.agg [bT, lF [u 2]])], [none, none]⟩ := ex (.cons k10 .nil) (by kernel_rfl)
theorem k203 : ACall Tryz.prog 77 [.val (.c (n64 (-2)))] ⟨[.val (.agg [bT, lF [u 2]])], [none]⟩ := ex (.cons k9 (.cons k202 .nil)) (by kernel_rfl)
theorem k204 : ACall Tryz.prog 29 [.val (.c (n64 (-2)))] ⟨[.val (.agg [bT, lF [u 2], bF, l1])], [none]⟩ := ex (.cons k203 (.cons k6 .nil)) (by kernel_rfl)
theorem k205 : ACall Tryz.prog 57 [.val (.c (n64 (-2))), .val (.c (n64 4))] ⟨[.val (.agg [bT, lF [u 2], bF, l1, bF, lF [u 4], bF, l1])], [none, none]⟩ := ex (.cons k204 (.cons k181 .nil)) (by kernel_rfl)
theorem k206 : ACall Tryz.prog 82 [.val (.agg [bT, lF [u 2]]), .val (.agg [bT, lF [u 2]])] ⟨[.val (.c (bT))], [none, none]⟩ := ex (.nil) (by kernel_rfl)
theorem k207 : ACall Tryz.prog 33 [.val (.agg [bT, lF [u 2], bF, l1]), .val (.agg [bT, lF [u 2], bF, l1])] ⟨[.val (.c (bT))], [none, none]⟩ := ex (.cons k206 (.cons k123 .nil)) (by kernel_rfl)
theorem k208 : ACall Tryz.prog 15 [.val (.agg [bT, lF [u 2], bF, l1, bF, lF [u 4], bF, l1]), .val (.agg [bT, lF [u 2], bF, l1, bF, lF [u 4], bF, l1])] ⟨[.val (.c (bT))], [none, none]⟩ := ex (.cons k207 (.cons k186 .nil)) (by kernel_rfl)
theorem k209 : ACall Tryz.prog 157 [.val (.c (lF [u 2]))] ⟨[.val (.c (lF [u 2]))], [none]⟩ := ex (.nil) (by kernel_rfl)
theorem k210 : ACall Tryz.prog 169 [.val (.agg [bF, lF [u 2]])] ⟨[.val (.agg [bT, lF [u 2]])], [none]⟩ := ex (.cons k209 (.cons k191 .nil)) (by kernel_rfl)
theorem k211 : ACall Tryz.prog 164 [.val (.agg [bF, lF [u 2], bF, l1])] ⟨[.val (.agg [bT, lF [u 2], bF, l1])], [none]⟩ := ex (.cons k210 .nil) (by kernel_rfl)
theorem k212 : ACall Tryz.prog 119 [.val (.agg [bT, lF [u 2]])] ⟨[.val (.c (bF))], [none]⟩ := ex (.nil) (by kernel_rfl)
theorem k213 : ACall Tryz.prog 115 [.val (.c (lF [[bT, lF [u 2]], [bF, l1]]))] ⟨[.val (.agg [bT, lF [u 2]])], [none]⟩ := ex (.cons k37 (.cons k212 (.cons k39 .nil))) (by kernel_rfl)
theorem k214 : ACall Tryz.prog 170 [.val (.c (l1)), .val (.c (lF [u 2]))] ⟨[.val (.c (lF [u 3]))], [none, none]⟩ := ex (.cons k77 .nil) (by kernel_rfl)
theorem k215 : ACall Tryz.prog 160 [.val (.c (bT)), .val (.c (lF [u 3]))] ⟨[.val (.agg [bT, lF [u 3]])], [none, none]⟩ := ex (.cons k79 .nil) (by kernel_rfl)
theorem k216 : ACall Tryz.prog 139 [.val (.agg [bT, l1]), .val (.agg [bT, lF [u 2]])] ⟨[.val (.agg [bT, lF [u 3]])], [none, none]⟩ := ex (.cons k214 (.cons k215 .nil)) (by kernel_rfl)
theorem k217 : ACall Tryz.prog 93 [.val (.agg [bT, l1, bF, l1]), .val (.agg [bT, lF [u 2], bF, l1])] ⟨[.val (.agg [bT, lF [u 3], bF, l1])], [none, none]⟩ := ex (.cons k85 (.cons k213 (.cons k216 (.cons k47 (.cons k74 .nil))))) (by kernel_rfl)
theorem k218 : ACall Tryz.prog 123 [.val (.agg [bT, l1, bF, l1]), .val (.agg [bF, lF [u 2], bF, l1])] ⟨[.val (.agg [bT, lF [u 3], bF, l1])], [none, none]⟩ := ex (.cons k211 (.cons k217 .nil)) (by kernel_rfl)
theorem k219 : ACall Tryz.prog 157 [.val (.c (l1))] ⟨[.val (.c (l1))], [none]⟩ := ex (.nil) (by kernel_rfl)
theorem k220 : ACall Tryz.prog 169 [.val (.agg [bT, l1])] ⟨[.val (.agg [bF, l1])], [none]⟩ := ex (.cons k219 (.cons k36 .nil)) (by kernel_rfl)
theorem k221 : ACall Tryz.prog 164 [.val (.agg [bT, l1, bF, l1])] ⟨[.val (.agg [bF, l1, bF, l1])], [none]⟩ := ex (.cons k220 .nil) (by kernel_rfl)
theorem k222 : ACall Tryz.prog 170 [.val (.c (lF [u 2])), .val (.c (l1))] ⟨[.val (.c (lF [u 3]))], [none, none]⟩ := ex (.cons k77 .nil) (by kernel_rfl)
theorem k223 : ACall Tryz.prog 139 [.val (.agg [bF, lF [u 2]]), .val (.agg [bF, l1])] ⟨[.val (.agg [bF, lF [u 3]])], [none, none]⟩ := ex (.cons k222 (.cons k80 .nil)) (by kernel_rfl)
theorem k224 : ACall Tryz.prog 140 [.val (.agg [bF, lF [u 3]]), .val (.agg [bF, l1])] ⟨[.val (.agg [bF, lF [u 3], bF, l1])], [none, none]⟩ := ex (.cons k39 .nil) (by kernel_rfl)
theorem k225 : ACall Tryz.prog 93 [.val (.agg [bF, lF [u 2], bF, l1]), .val (.agg [bF, l1, bF, l1])] ⟨[.val (.agg [bF, lF [u 3], bF, l1])], [none, none]⟩ := ex (.cons k42 (.cons k47 (.cons k223 (.cons k224 .nil)))) (by kernel_rfl)
theorem k226 : ACall Tryz.prog 123 [.val (.agg [bF, lF [u 2], bF, l1]), .val (.agg [bT, l1, bF, l1])] ⟨[.val (.agg [bF, lF [u 3], bF, l1])], [none, none]⟩ := ex (.cons k221 (.cons k225 .nil)) (by kernel_rfl)
theorem k227 : ACall Tryz.prog 73 [.val (.agg [bT, l1, bF, l1, bF, lF [u 2], bF, l1]), .val (.agg [bT, l1, bF, l1, bF, lF [u 2], bF, l1])] ⟨[.val (.agg [bT, lF [u 3], bF, l1, bF, lF [u 3], bF, l1])], [none, none]⟩ := ex (.cons k218 (.cons k226 .nil)) (by kernel_rfl)
theorem k228 : ACall Tryz.prog 71 [.val (.c (.v (.func (.func 73) #[] #[]))), .val (.agg [bT, l1, bF, l1, bF, lF [u 2], bF, l1]), .val (.agg [bT, l1, bF, l1, bF, lF [u 2], bF, l1])] ⟨[.val (.agg [bT, lF [u 3], bF, l1, bF, lF [u 3], bF, l1])], [none, none, none]⟩ := ex (.cons k227 .nil) (by kernel_rfl)
theorem k229 : ACall Tryz.prog 22 [.val (.agg [bT, l1, bF, l1, bF, lF [u 2], bF, l1]), .val (.agg [bT, l1, bF, l1, bF, lF [u 2], bF, l1])] ⟨[.val (.agg [bT, lF [u 3], bF, l1, bF, lF [u 3], bF, l1])], [none, none]⟩ := ex (.cons k228 .nil) (by kernel_rfl)
theorem k230 : ACall Tryz.prog 57 [.val (.c (n64 (-3))), .val (.c (n64 3))] ⟨[.val (.agg [bT, lF [u 3], bF, l1, bF, lF [u 3], bF, l1])], [none, none]⟩ := ex (.cons k71 (.cons k57 .nil)) (by kernel_rfl)
theorem k231 : ACall Tryz.prog 82 [.val (.agg [bT, lF [u 3]]), .val (.agg [bT, lF [u 3]])] ⟨[.val (.c (bT))], [none, none]⟩ := ex (.nil) (by kernel_rfl)
theorem k232 : ACall Tryz.prog 33 [.val (.agg [bT, lF [u 3], bF, l1]), .val (.agg [bT, lF [u 3], bF, l1])] ⟨[.val (.c (bT))], [none, none]⟩ := ex (.cons k231 (.cons k123 .nil)) (by kernel_rfl)
theorem k233 : ACall Tryz.prog 15 [.val (.agg [bT, lF [u 3], bF, l1, bF, lF [u 3], bF, l1]), .val (.agg [bT, lF [u 3], bF, l1, bF, lF [u 3], bF, l1])] ⟨[.val (.c (bT))], [none, none]⟩ := ex (.cons k232 (.cons k126 .nil)) (by kernel_rfl)
theorem k234 : ACall Tryz.prog 105 [.val (.agg [bF, lF [], bF, l1])] ⟨[.val (.agg [bF, lF [], bF, l1, bF, lF [], bF, l1])], [none]⟩ := ex (.nil) (by kernel_rfl)
theorem k235 : ACall Tryz.prog 58 [] ⟨[.val (.agg [bF, lF [], bF, l1, bF, lF [], bF, l1, bF, lF [], bF, l1, bF, lF [], bF, l1, bF, lF [], bF, l1, bF, lF [], bF, l1, bF, lF [], bF, l1, bF, lF [], bF, l1, bF, lF [], bF, l1, bF, lF [], bF, l1, bF, lF [], bF, l1, bF, lF [], bF, l1, bF, lF [], bF, l1, bF, lF [], bF, l1, bF, lF [], bF, l1, bF, lF [], bF, l1])], []⟩ := ex (.cons k175 (.cons k234 .nil)) (by kernel_rfl)
theorem k236 : ACall Tryz.prog 57 [.val (.c (n64 1)), .val (.c (n64 2))] ⟨[.val (.agg [bF, l1, bF, l1, bF, lF [u 2], bF, l1])], [none, none]⟩ := ex (.cons k15 (.cons k13 .nil)) (by kernel_rfl)
theorem k237 : ACall Tryz.prog 111 [.val (.c (n64 0))] ⟨[.val (.c (lF [[bF, l1, bF, l1, n64 1, n64 0, n64 0, n64 0, n64 0, n64 0, n64 0, n64 0]])), .val (.c (n64 0))], [none]⟩ := ex (.cons k15 .nil) (by kernel_rfl)
theorem k238 : ACall Tryz.prog 61 [.val (.c (n64 0))] ⟨[.val (.c (lF [[bF, l1, bF, l1, n64 1, n64 0, n64 0, n64 0, n64 0, n64 0, n64 0, n64 0]]))], [none]⟩ := ex (.cons k237 .nil) (by kernel_rfl)
theorem k239 : ACall Tryz.prog 107 [.val (.agg [bF, l1])] ⟨[.val (.c (n64 1))], [none]⟩ := ex (.nil) (by kernel_rfl)
theorem k240 : ACall Tryz.prog 51 [.val (.agg [bF, l1, bF, l1])] ⟨[.val (.c (n64 1))], [none]⟩ := ex (.cons k239 .nil) (by kernel_rfl)
theorem k241 : ACall Tryz.prog 192 [.val (.agg [n64 2, n64 0, n64 0, n64 0, n64 0, n64 0, n64 0, n64 0])] ⟨[.val (.c (bT))], [none]⟩ := ex (.nil) (by kernel_rfl)
theorem k242 : ACall Tryz.prog 168 [.val (.agg [n64 1, n64 0, n64 0, n64 0, n64 0, n64 0, n64 0, n64 0]), .val (.agg [n64 1, n64 0, n64 0, n64 0, n64 0, n64 0, n64 0, n64 0])] ⟨[.val (.agg [n64 2, n64 0, n64 0, n64 0, n64 0, n64 0, n64 0, n64 0]), .val (.c (n64 0))], [none, none]⟩ := ex (.cons k241 .nil) (by kernel_rfl)
theorem k243 : ACall Tryz.prog 130 [.val (.c (l1)), .val (.c (l1))] ⟨[.val (.c (l1))], [none, none]⟩ := ex (.cons k0 .nil) (by kernel_rfl)
theorem k244 : ACall Tryz.prog 79 [.val (.agg [bF, l1]), .val (.agg [bF, l1])] ⟨[.val (.agg [bF, l1])], [none, none]⟩ := ex (.cons k243 (.cons k5 .nil)) (by kernel_rfl)
theorem k245 : ACall Tryz.prog 167 [.val (.c (l1)), .val (.c (n64 1))] ⟨[.val (.c (w64 0))], [none, none]⟩ := ex (.nil) (by kernel_rfl)
theorem k246 : ACall Tryz.prog 167 [.val (.c (l1)), .val (.c (n64 0))] ⟨[.val (.c (w64 1))], [none, none]⟩ := ex (.nil) (by kernel_rfl)
theorem k247 : ACall Tryz.prog 190 [.val (.c (l1))] ⟨[.val (.c (w64 1))], [none]⟩ := ex (.cons k245 (.cons k246 .nil)) (by kernel_rfl)
theorem k248 : ACall Tryz.prog 189 [.val (.c (w64 1)), .val (.c (w64 1))] ⟨[.val (.c (w64 1))], [none, none]⟩ := ex (.nil) (by kernel_rfl)
theorem k249 : ACall Tryz.prog 163 [.val (.c (l1)), .val (.c (l1))] ⟨[.val (.c (l1))], [none, none]⟩ := ex (.cons k247 (.cons k248 (.cons k1 .nil))) (by kernel_rfl)
theorem k250 : ACall Tryz.prog 122 [.val (.agg [bF, l1]), .val (.agg [bF, l1])] ⟨[.val (.agg [bF, l1])], [none, none]⟩ := ex (.cons k249 (.cons k5 .nil)) (by kernel_rfl)
theorem k251 : ACall Tryz.prog 132 [.val (.c (l1)), .val (.c (l1))] ⟨[.val (.c (n64 0))], [none, none]⟩ := ex (.nil) (by kernel_rfl)
theorem k252 : ACall Tryz.prog 201 [.val (.c (l1)), .val (.c (w64 1))] ⟨[.val (.c (l1)), .val (.c (w64 0))], [none, none]⟩ := ex (.cons k2 .nil) (by kernel_rfl)
theorem k253 : ACall Tryz.prog 191 [.val (.c (l1)), .val (.c (l1))] ⟨[.val (.c (l1)), .val (.c (lF []))], [none, none]⟩ := ex (.cons k251 (.cons k252 (.cons k171 .nil))) (by kernel_rfl)
theorem k254 : ACall Tryz.prog 166 [.val (.agg [bF, l1]), .val (.agg [bF, l1])] ⟨[.val (.agg [bF, l1]), .val (.agg [bF, lF []]), .val (.c (n64 0))], [none, none]⟩ := ex (.cons k253 (.cons k5 (.cons k173 .nil))) (by kernel_rfl)
theorem k255 : ACall Tryz.prog 129 [.val (.agg [bF, l1]), .val (.agg [bF, l1])] ⟨[.val (.agg [bF, l1])], [none, none]⟩ := ex (.cons k254 .nil) (by kernel_rfl)
theorem k256 : ACall Tryz.prog 78 [.val (.agg [bF, l1]), .val (.agg [bF, l1])] ⟨[.val (.agg [bF, l1, bF, l1])], [none, none]⟩ := ex (.cons k250 (.cons k239 (.cons k255 .nil))) (by kernel_rfl)
theorem k257 : ACall Tryz.prog 30 [.val (.agg [bF, l1, bF, l1]), .val (.agg [bF, l1, bF, l1])] ⟨[.val (.agg [bF, l1, bF, l1])], [none, none]⟩ := ex (.cons k244 (.cons k256 .nil)) (by kernel_rfl)
theorem k258 : ACall Tryz.prog 135 [.val (.agg [bF, l1, bF, l1]), .val (.agg [n64 1, n64 0, n64 0, n64 0, n64 0, n64 0, n64 0, n64 0]), .val (.c (lF [[bF, l1, bF, l1, n64 1, n64 0, n64 0, n64 0, n64 0, n64 0, n64 0, n64 0]]))] ⟨[.val (.c (lF [[bF, l1, bF, l1, n64 2, n64 0, n64 0, n64 0, n64 0, n64 0, n64 0, n64 0]])), .val (.c (n64 0))], [none, none, none]⟩ := ex (.cons k240 (.cons k242 (.cons k257 .nil))) (by kernel_rfl)
theorem k259 : ACall Tryz.prog 84 [.val (.c (lF [])), .val (.c (lF [[bF, l1, bF, l1, n64 2, n64 0, n64 0, n64 0, n64 0, n64 0, n64 0, n64 0]]))] ⟨[.val (.c (lF [[bF, l1, bF, l1, n64 2, n64 0, n64 0, n64 0, n64 0, n64 0, n64 0, n64 0]]))], [none, none]⟩ := ex (.nil) (by kernel_rfl)
theorem k260 : ACall Tryz.prog 110 [.val (.c (lF [[bF, l1, bF, l1, n64 1, n64 0, n64 0, n64 0, n64 0, n64 0, n64 0, n64 0]])), .val (.c (lF [[bF, l1, bF, l1, n64 1, n64 0, n64 0, n64 0, n64 0, n64 0, n64 0, n64 0]]))] ⟨[.val (.c (lF [[bF, l1, bF, l1, n64 2, n64 0, n64 0, n64 0, n64 0, n64 0, n64 0, n64 0]])), .val (.c (n64 0))], [none, none]⟩ := ex (.cons k258 (.cons k259 .nil)) (by kernel_rfl)
theorem k261 : ACall Tryz.prog 60 [.val (.c (lF [[bF, l1, bF, l1, n64 1, n64 0, n64 0, n64 0, n64 0, n64 0, n64 0, n64 0]])), .val (.c (lF [[bF, l1, bF, l1, n64 1, n64 0, n64 0, n64 0, n64 0, n64 0, n64 0, n64 0]]))] ⟨[.val (.c (lF [[bF, l1, bF, l1, n64 2, n64 0, n64 0, n64 0, n64 0, n64 0, n64 0, n64 0]]))], [none, none]⟩ := ex (.cons k260 .nil) (by kernel_rfl)
theorem k262 : ACall Tryz.prog 107 [.val (.agg [bF, lF [u 2]])] ⟨[.val (.c (n64 1))], [none]⟩ := ex (.nil) (by kernel_rfl)
theorem k263 : ACall Tryz.prog 51 [.val (.agg [bF, lF [u 2], bF, l1])] ⟨[.val (.c (n64 1))], [none]⟩ := ex (.cons k262 .nil) (by kernel_rfl)
theorem k264 : ACall Tryz.prog 112 [.val (.agg [bF, lF [u 2], bF, l1])] ⟨[.val (.c (lF [[bF, lF [u 2], bF, l1, n64 0, n64 0, n64 0, n64 0, n64 0, n64 0, n64 0, n64 0]]))], [none]⟩ := ex (.cons k263 .nil) (by kernel_rfl)
theorem k265 : ACall Tryz.prog 62 [.val (.c (n64 2))] ⟨[.val (.c (lF [[bF, lF [u 2], bF, l1, n64 0, n64 0, n64 0, n64 0, n64 0, n64 0, n64 0, n64 0]]))], [none]⟩ := ex (.cons k13 (.cons k264 .nil)) (by kernel_rfl)
theorem k266 : ACall Tryz.prog 107 [.val (.agg [bT, l1])] ⟨[.val (.c (n64 (-1)))], [none]⟩ := ex (.nil) (by kernel_rfl)
theorem k267 : ACall Tryz.prog 51 [.val (.agg [bT, l1, bF, l1])] ⟨[.val (.c (n64 (-1)))], [none]⟩ := ex (.cons k266 .nil) (by kernel_rfl)
theorem k268 : ACall Tryz.prog 192 [.val (.agg [n64 0, n64 0, n64 0, n64 0, n64 0, n64 0, n64 0, n64 0])] ⟨[.val (.c (bT))], [none]⟩ := ex (.nil) (by kernel_rfl)
theorem k269 : ACall Tryz.prog 168 [.val (.agg [n64 0, n64 0, n64 0, n64 0, n64 0, n64 0, n64 0, n64 0]), .val (.agg [n64 0, n64 0, n64 0, n64 0, n64 0, n64 0, n64 0, n64 0])] ⟨[.val (.agg [n64 0, n64 0, n64 0, n64 0, n64 0, n64 0, n64 0, n64 0]), .val (.c (n64 0))], [none, none]⟩ := ex (.cons k268 .nil) (by kernel_rfl)
theorem k270 : ACall Tryz.prog 130 [.val (.c (l1)), .val (.c (lF [u 2]))] ⟨[.val (.c (lF [u 2]))], [none, none]⟩ := ex (.cons k8 .nil) (by kernel_rfl)
theorem k271 : ACall Tryz.prog 79 [.val (.agg [bT, l1]), .val (.agg [bF, lF [u 2]])] ⟨[.val (.agg [bT, lF [u 2]])], [none, none]⟩ := ex (.cons k270 (.cons k202 .nil)) (by kernel_rfl)
theorem k272 : ACall Tryz.prog 167 [.val (.c (lF [u 2])), .val (.c (n64 1))] ⟨[.val (.c (w64 0))], [none, none]⟩ := ex (.nil) (by kernel_rfl)
theorem k273 : ACall Tryz.prog 167 [.val (.c (lF [u 2])), .val (.c (n64 0))] ⟨[.val (.c (w64 2))], [none, none]⟩ := ex (.nil) (by kernel_rfl)
theorem k274 : ACall Tryz.prog 190 [.val (.c (lF [u 2]))] ⟨[.val (.c (w64 2))], [none]⟩ := ex (.cons k272 (.cons k273 .nil)) (by kernel_rfl)
theorem k275 : ACall Tryz.prog 189 [.val (.c (w64 2)), .val (.c (w64 1))] ⟨[.val (.c (w64 1))], [none, none]⟩ := ex (.nil) (by kernel_rfl)
theorem k276 : ACall Tryz.prog 163 [.val (.c (lF [u 2])), .val (.c (l1))] ⟨[.val (.c (l1))], [none, none]⟩ := ex (.cons k274 (.cons k247 (.cons k275 (.cons k1 .nil)))) (by kernel_rfl)
theorem k277 : ACall Tryz.prog 122 [.val (.agg [bT, lF [u 2]]), .val (.agg [bF, l1])] ⟨[.val (.agg [bF, l1])], [none, none]⟩ := ex (.cons k276 (.cons k5 .nil)) (by kernel_rfl)
theorem k278 : ACall Tryz.prog 132 [.val (.c (lF [u 2])), .val (.c (l1))] ⟨[.val (.c (n64 1))], [none, none]⟩ := ex (.nil) (by kernel_rfl)
theorem k279 : ACall Tryz.prog 201 [.val (.c (lF [u 2])), .val (.c (w64 1))] ⟨[.val (.c (lF [u 2])), .val (.c (w64 0))], [none, none]⟩ := ex (.cons k10 .nil) (by kernel_rfl)
open Go Go.Abs Go.Proofs
theorem k280 : ACall Tryz.prog 191 [.val (.c (lF [u 2])), .val (.c (l1))] ⟨[.val (.c (lF [u 2])), .val (.c (lF []))], [none, none]⟩ := ex (.cons k278 (.cons k279 (.cons k171 .nil))) (by kernel_rfl)
theorem k281 : ACall Tryz.prog 166 [.val (.agg [bT, lF [u 2]]), .val (.agg [bF, l1])] ⟨[.val (.agg [bT, lF [u 2]]), .val (.agg [bF, lF []]), .val (.c (n64 0))], [none, none]⟩ := ex (.cons k280 (.cons k202 (.cons k173 .nil))) (by kernel_rfl)
theorem k282 : ACall Tryz.prog 129 [.val (.agg [bT, lF [u 2]]), .val (.agg [bF, l1])] ⟨[.val (.agg [bT, lF [u 2]])], [none, none]⟩ := ex (.cons k281 .nil) (by kernel_rfl)
theorem k283 : ACall Tryz.prog 78 [.val (.agg [bT, lF [u 2]]), .val (.agg [bF, l1])] ⟨[.val (.agg [bT, lF [u 2], bF, l1])], [none, none]⟩ := ex (.cons k277 (.cons k239 (.cons k282 (.cons k255 .nil)))) (by kernel_rfl)
theorem k284 : ACall Tryz.prog 30 [.val (.agg [bT, l1, bF, l1]), .val (.agg [bF, lF [u 2], bF, l1])] ⟨[.val (.agg [bT, lF [u 2], bF, l1])], [none, none]⟩ := ex (.cons k271 (.cons k244 (.cons k283 .nil))) (by kernel_rfl)
theorem k285 : ACall Tryz.prog 135 [.val (.agg [bT, l1, bF, l1]), .val (.agg [n64 0, n64 0, n64 0, n64 0, n64 0, n64 0, n64 0, n64 0]), .val (.c (lF [[bF, lF [u 2], bF, l1, n64 0, n64 0, n64 0, n64 0, n64 0, n64 0, n64 0, n64 0]]))] ⟨[.val (.c (lF [[bT, lF [u 2], bF, l1, n64 0, n64 0, n64 0, n64 0, n64 0, n64 0, n64 0, n64 0]])), .val (.c (n64 0))], [none, none, none]⟩ := ex (.cons k267 (.cons k269 (.cons k284 .nil))) (by kernel_rfl)
theorem k286 : ACall Tryz.prog 85 [.val (.agg [bT, l1, bF, l1]), .val (.c (lF [[bF, lF [u 2], bF, l1, n64 0, n64 0, n64 0, n64 0, n64 0, n64 0, n64 0, n64 0]]))] ⟨[.val (.c (lF [[bT, lF [u 2], bF, l1, n64 0, n64 0, n64 0, n64 0, n64 0, n64 0, n64 0, n64 0]]))], [none, none]⟩ := ex (.cons k285 .nil) (by kernel_rfl)
theorem k287 : ACall Tryz.prog 134 [.val (.agg [n64 2, n64 0, n64 0, n64 0, n64 0, n64 0, n64 0, n64 0]), .val (.agg [n64 0, n64 0, n64 0, n64 0, n64 0, n64 0, n64 0, n64 0])] ⟨[.val (.c (n64 1))], [none, none]⟩ := ex (.nil) (by kernel_rfl)
theorem k288 : ACall Tryz.prog 84 [.val (.c (lF [[bF, l1, bF, l1, n64 2, n64 0, n64 0, n64 0, n64 0, n64 0, n64 0, n64 0]])), .val (.c (lF [[bT, lF [u 2], bF, l1, n64 0, n64 0, n64 0, n64 0, n64 0, n64 0, n64 0, n64 0]]))] ⟨[.val (.c (lF [[bF, l1, bF, l1, n64 2, n64 0, n64 0, n64 0, n64 0, n64 0, n64 0, n64 0], [bT, lF [u 2], bF, l1, n64 0, n64 0, n64 0, n64 0, n64 0, n64 0, n64 0, n64 0]]))], [none, none]⟩ := ex (.cons k287 .nil) (by kernel_rfl)
theorem k289 : ACall Tryz.prog 59 [.val (.c (lF [[bF, l1, bF, l1, n64 2, n64 0, n64 0, n64 0, n64 0, n64 0, n64 0, n64 0]])), .val (.c (lF [[bF, lF [u 2], bF, l1, n64 0, n64 0, n64 0, n64 0, n64 0, n64 0, n64 0, n64 0]]))] ⟨[.val (.c (lF [[bF, l1, bF, l1, n64 2, n64 0, n64 0, n64 0, n64 0, n64 0, n64 0, n64 0], [bT, lF [u 2], bF, l1, n64 0, n64 0, n64 0, n64 0, n64 0, n64 0, n64 0, n64 0]]))], [none, none]⟩ := ex (.cons k7 (.cons k286 (.cons k288 .nil))) (by kernel_rfl)
theorem k290 : ACall Tryz.prog 137 [.val (.agg [n64 2, n64 0, n64 0, n64 0, n64 0, n64 0, n64 0, n64 0])] ⟨[.val (.c (.v (.int .u8 1)))], [none]⟩ := ex (.nil) (by kernel_rfl)
theorem k291 : ACall Tryz.prog 137 [.val (.agg [n64 0, n64 0, n64 0, n64 0, n64 0, n64 0, n64 0, n64 0])] ⟨[.val (.c (.v (.int .u8 0)))], [none]⟩ := ex (.nil) (by kernel_rfl)
theorem k292 : ACall Tryz.prog 91 [.val (.c (lF [[bF, l1, bF, l1, n64 2, n64 0, n64 0, n64 0, n64 0, n64 0, n64 0, n64 0], [bT, lF [u 2], bF, l1, n64 0, n64 0, n64 0, n64 0, n64 0, n64 0, n64 0, n64 0]]))] ⟨[.val (.c (.v (.int .u8 1)))], [none]⟩ := ex (.cons k290 (.cons k291 .nil)) (by kernel_rfl)
theorem k293 : ACall Tryz.prog 139 [.val (.agg [bF, l1]), .val (.agg [bF, lF [u 2]])] ⟨[.val (.agg [bF, lF [u 3]])], [none, none]⟩ := ex (.cons k214 (.cons k80 .nil)) (by kernel_rfl)
theorem k294 : ACall Tryz.prog 93 [.val (.agg [bF, l1, bF, l1]), .val (.agg [bF, lF [u 2], bF, l1])] ⟨[.val (.agg [bF, lF [u 3], bF, l1])], [none, none]⟩ := ex (.cons k47 (.cons k42 (.cons k293 (.cons k224 .nil)))) (by kernel_rfl)
theorem k295 : ACall Tryz.prog 161 [.val (.c (w64 2))] ⟨[.val (.c (lF [u 2]))], [none]⟩ := ex (.cons k188 .nil) (by kernel_rfl)
theorem k296 : ACall Tryz.prog 160 [.val (.c (bF)), .val (.c (lF [u 2]))] ⟨[.val (.agg [bF, lF [u 2]])], [none, none]⟩ := ex (.cons k190 .nil) (by kernel_rfl)
theorem k297 : ACall Tryz.prog 142 [.val (.c (n64 2))] ⟨[.val (.agg [bF, lF [u 2]])], [none]⟩ := ex (.cons k295 (.cons k296 .nil)) (by kernel_rfl)
theorem k298 : ACall Tryz.prog 141 [.val (.agg [bF, lF [u 2]])] ⟨[.val (.agg [bF, lF [u 2], bF, l1])], [none]⟩ := ex (.cons k37 .nil) (by kernel_rfl)
theorem k299 : ACall Tryz.prog 94 [.val (.c (n64 2))] ⟨[.val (.agg [bF, lF [u 2], bF, l1])], [none]⟩ := ex (.cons k297 (.cons k298 .nil)) (by kernel_rfl)
theorem k300 : ACall Tryz.prog 138 [.val (.agg [bF, lF [u 2], bF, l1])] ⟨[.val (.agg [bF, l1, bF, lF [u 2]]), .val (.c (n64 0))], [none]⟩ := ex (.cons k31 .nil) (by kernel_rfl)
theorem k301 : ACall Tryz.prog 157 [.val (.c (lF [u 3]))] ⟨[.val (.c (lF [u 3]))], [none]⟩ := ex (.nil) (by kernel_rfl)
theorem k302 : ACall Tryz.prog 159 [.val (.c (lF [u 3]))] ⟨[.val (.c (w64 3))], [none]⟩ := ex (.nil) (by kernel_rfl)
theorem k303 : ACall Tryz.prog 159 [.val (.c (lF [u 2]))] ⟨[.val (.c (w64 2))], [none]⟩ := ex (.nil) (by kernel_rfl)
theorem k304 : ACall Tryz.prog 120 [.val (.agg [bF, lF [u 3]]), .val (.agg [bF, lF [u 2]])] ⟨[.val (.agg [bF, l1])], [none, none]⟩ := ex (.cons k79 (.cons k301 (.cons k190 (.cons k209 (.cons k302 (.cons k303 (.cons k34 (.cons k36 .nil)))))))) (by kernel_rfl)
theorem k305 : ACall Tryz.prog 140 [.val (.agg [bF, lF [u 3]]), .val (.agg [bF, lF [u 2]])] ⟨[.val (.agg [bF, lF [u 3], bF, lF [u 2]])], [none, none]⟩ := ex (.cons k41 (.cons k304 (.cons k39 .nil))) (by kernel_rfl)
theorem k306 : ACall Tryz.prog 99 [.val (.agg [bF, lF [u 3], bF, l1]), .val (.agg [bF, l1, bF, lF [u 2]])] ⟨[.val (.agg [bF, lF [u 3], bF, lF [u 2]])], [none, none]⟩ := ex (.cons k305 (.cons k84 (.cons k64 (.cons k42 .nil)))) (by kernel_rfl)
theorem k307 : ACall Tryz.prog 92 [.val (.agg [bF, lF [u 3], bF, l1]), .val (.agg [bF, lF [u 2], bF, l1])] ⟨[.val (.agg [bF, lF [u 3], bF, lF [u 2]]), .val (.c (n64 0))], [none, none]⟩ := ex (.cons k300 (.cons k306 .nil)) (by kernel_rfl)
theorem k308 : ACall Tryz.prog 119 [.val (.agg [bF, lF []])] ⟨[.val (.c (bF))], [none]⟩ := ex (.nil) (by kernel_rfl)
theorem k309 : ACall Tryz.prog 115 [.val (.c (lF [[bF, lF []], [bF, l1]]))] ⟨[.val (.agg [bF, lF []])], [none]⟩ := ex (.cons k37 (.cons k308 (.cons k39 .nil))) (by kernel_rfl)
theorem k310 : ACall Tryz.prog 158 [.val (.c (lF [u 0]))] ⟨[.val (.c (lF []))], [none]⟩ := ex (.nil) (by kernel_rfl)
theorem k311 : ACall Tryz.prog 170 [.val (.c (lF [])), .val (.c (lF []))] ⟨[.val (.c (lF []))], [none, none]⟩ := ex (.cons k310 .nil) (by kernel_rfl)
theorem k312 : ACall Tryz.prog 139 [.val (.agg [bF, lF []]), .val (.agg [bF, lF []])] ⟨[.val (.agg [bF, lT []])], [none, none]⟩ := ex (.cons k311 (.cons k150 .nil)) (by kernel_rfl)
theorem k313 : ACall Tryz.prog 140 [.val (.agg [bF, lT []]), .val (.agg [bF, l1])] ⟨[.val (.agg [bF, lT [], bF, l1])], [none, none]⟩ := ex (.cons k39 .nil) (by kernel_rfl)
theorem k314 : ACall Tryz.prog 93 [.val (.agg [bF, lF [], bF, l1]), .val (.agg [bF, lF [], bF, l1])] ⟨[.val (.agg [bF, lT [], bF, l1])], [none, none]⟩ := ex (.cons k309 (.cons k312 (.cons k47 (.cons k313 .nil)))) (by kernel_rfl)
theorem k315 : ACall Tryz.prog 158 [.val (.c (lT []))] ⟨[.val (.c (lT []))], [none]⟩ := ex (.nil) (by kernel_rfl)
theorem k316 : ACall Tryz.prog 157 [.val (.c (lT []))] ⟨[.val (.c (lT []))], [none]⟩ := ex (.nil) (by kernel_rfl)
theorem k317 : ACall Tryz.prog 159 [.val (.c (lT []))] ⟨[.val (.c (w64 0))], [none]⟩ := ex (.nil) (by kernel_rfl)
theorem k318 : ACall Tryz.prog 120 [.val (.agg [bF, lT []]), .val (.agg [bF, lF [u 2]])] ⟨[.val (.agg [bF, lF [u 2]])], [none, none]⟩ := ex (.cons k315 (.cons k316 (.cons k190 (.cons k209 (.cons k317 (.cons k303 (.cons k295 (.cons k296 .nil)))))))) (by kernel_rfl)
theorem k319 : ACall Tryz.prog 155 [.val (.c (lT [])), .val (.c (lF [u 2]))] ⟨[.val (.c (n64 (-1)))], [none, none]⟩ := ex (.nil) (by kernel_rfl)
theorem k320 : ACall Tryz.prog 162 [.val (.c (lT [])), .val (.c (lF [u 2]))] ⟨[.val (.c (lT [])), .val (.c (lT []))], [none, none]⟩ := ex (.cons k315 (.cons k190 (.cons k319 (.cons k316 .nil)))) (by kernel_rfl)
theorem k321 : ACall Tryz.prog 160 [.val (.c (bF)), .val (.c (lT []))] ⟨[.val (.agg [bF, lT []])], [none, none]⟩ := ex (.cons k315 .nil) (by kernel_rfl)
theorem k322 : ACall Tryz.prog 172 [.val (.agg [bF, lT []]), .val (.agg [bF, lF [u 2]])] ⟨[.val (.agg [bF, lT []]), .val (.agg [bF, lT []]), .val (.c (n64 0))], [none, none]⟩ := ex (.cons k190 (.cons k320 (.cons k321 .nil))) (by kernel_rfl)
theorem k323 : ACall Tryz.prog 155 [.val (.c (lF [u 2])), .val (.c (lF [u 2]))] ⟨[.val (.c (n64 0))], [none, none]⟩ := ex (.nil) (by kernel_rfl)
theorem k324 : ACall Tryz.prog 184 [.val (.c (lF [u 2])), .val (.c (w64 2))] ⟨[.val (.c (l1)), .val (.c (w64 0))], [none, none]⟩ := ex (.cons k35 .nil) (by kernel_rfl)
theorem k325 : ACall Tryz.prog 162 [.val (.c (lF [u 2])), .val (.c (lF [u 2]))] ⟨[.val (.c (l1)), .val (.c (lF []))], [none, none]⟩ := ex (.cons k190 (.cons k323 (.cons k324 (.cons k148 .nil)))) (by kernel_rfl)
theorem k326 : ACall Tryz.prog 172 [.val (.agg [bF, lF [u 2]]), .val (.agg [bF, lF [u 2]])] ⟨[.val (.agg [bF, l1]), .val (.agg [bF, lT []]), .val (.c (n64 0))], [none, none]⟩ := ex (.cons k190 (.cons k325 (.cons k36 (.cons k150 .nil)))) (by kernel_rfl)
theorem k327 : ACall Tryz.prog 140 [.val (.agg [bF, lT []]), .val (.agg [bF, lF [u 2]])] ⟨[.val (.agg [bF, lT [], bF, l1])], [none, none]⟩ := ex (.cons k41 (.cons k318 (.cons k322 (.cons k326 .nil)))) (by kernel_rfl)
theorem k328 : ACall Tryz.prog 119 [.val (.agg [bF, lT []])] ⟨[.val (.c (bF))], [none]⟩ := ex (.nil) (by kernel_rfl)
theorem k329 : ACall Tryz.prog 115 [.val (.c (lF [[bF, lT []], [bF, l1]]))] ⟨[.val (.agg [bF, lT []])], [none]⟩ := ex (.cons k37 (.cons k328 (.cons k39 .nil))) (by kernel_rfl)
theorem k330 : ACall Tryz.prog 99 [.val (.agg [bF, lT [], bF, l1]), .val (.agg [bF, l1, bF, lF [u 2]])] ⟨[.val (.agg [bF, lT [], bF, l1])], [none, none]⟩ := ex (.cons k327 (.cons k84 (.cons k329 (.cons k47 .nil)))) (by kernel_rfl)
theorem k331 : ACall Tryz.prog 92 [.val (.agg [bF, lT [], bF, l1]), .val (.agg [bF, lF [u 2], bF, l1])] ⟨[.val (.agg [bF, lT [], bF, l1]), .val (.c (n64 0))], [none, none]⟩ := ex (.cons k300 (.cons k330 .nil)) (by kernel_rfl)
theorem k332 : ACall Tryz.prog 158 [.val (.c (lF [u 9, u 0]))] ⟨[.val (.c (lF [u 9]))], [none]⟩ := ex (.nil) (by kernel_rfl)
theorem k333 : ACall Tryz.prog 183 [.val (.c (lF [u 3])), .val (.c (lF [u 3]))] ⟨[.val (.c (lF [u 9]))], [none, none]⟩ := ex (.cons k332 .nil) (by kernel_rfl)
theorem k334 : ACall Tryz.prog 158 [.val (.c (lF [u 9]))] ⟨[.val (.c (lF [u 9]))], [none]⟩ := ex (.nil) (by kernel_rfl)
theorem k335 : ACall Tryz.prog 160 [.val (.c (bF)), .val (.c (lF [u 9]))] ⟨[.val (.agg [bF, lF [u 9]])], [none, none]⟩ := ex (.cons k334 .nil) (by kernel_rfl)
theorem k336 : ACall Tryz.prog 156 [.val (.agg [bF, lF [u 3]]), .val (.agg [bF, lF [u 3]])] ⟨[.val (.agg [bF, lF [u 9]])], [none, none]⟩ := ex (.cons k333 (.cons k335 .nil)) (by kernel_rfl)
theorem k337 : ACall Tryz.prog 115 [.val (.c (lF [[bF, lF [u 3]], [bF, lF [u 3]]]))] ⟨[.val (.agg [bF, lF [u 9]])], [none]⟩ := ex (.cons k37 (.cons k63 (.cons k39 (.cons k336 .nil)))) (by kernel_rfl)
theorem k338 : ACall Tryz.prog 99 [.val (.agg [bF, lF [u 3], bF, lF [u 2]]), .val (.agg [bF, lF [u 3], bF, lF [u 2]])] ⟨[.val (.agg [bF, lF [u 9], bF, lF [u 4]])], [none, none]⟩ := ex (.cons k305 (.cons k337 (.cons k144 .nil))) (by kernel_rfl)
theorem k339 : ACall Tryz.prog 157 [.val (.c (lF [u 4]))] ⟨[.val (.c (lF [u 4]))], [none]⟩ := ex (.nil) (by kernel_rfl)
theorem k340 : ACall Tryz.prog 159 [.val (.c (l1))] ⟨[.val (.c (w64 1))], [none]⟩ := ex (.nil) (by kernel_rfl)
theorem k341 : ACall Tryz.prog 159 [.val (.c (lF [u 4]))] ⟨[.val (.c (w64 4))], [none]⟩ := ex (.nil) (by kernel_rfl)
theorem k342 : ACall Tryz.prog 120 [.val (.agg [bF, l1]), .val (.agg [bF, lF [u 4]])] ⟨[.val (.agg [bF, l1])], [none, none]⟩ := ex (.cons k35 (.cons k219 (.cons k141 (.cons k339 (.cons k340 (.cons k341 (.cons k34 (.cons k36 .nil)))))))) (by kernel_rfl)
theorem k343 : ACall Tryz.prog 140 [.val (.agg [bF, l1]), .val (.agg [bF, lF [u 4]])] ⟨[.val (.agg [bF, l1, bF, lF [u 4]])], [none, none]⟩ := ex (.cons k161 (.cons k342 (.cons k39 .nil))) (by kernel_rfl)
theorem k344 : ACall Tryz.prog 140 [.val (.agg [bF, lF [u 9]]), .val (.agg [bF, l1])] ⟨[.val (.agg [bF, lF [u 9], bF, l1])], [none, none]⟩ := ex (.cons k39 .nil) (by kernel_rfl)
theorem k345 : ACall Tryz.prog 119 [.val (.agg [bF, lF [u 9]])] ⟨[.val (.c (bF))], [none]⟩ := ex (.nil) (by kernel_rfl)
theorem k346 : ACall Tryz.prog 115 [.val (.c (lF [[bF, l1], [bF, lF [u 9]]]))] ⟨[.val (.agg [bF, lF [u 9]])], [none]⟩ := ex (.cons k37 (.cons k39 (.cons k345 .nil))) (by kernel_rfl)
theorem k347 : ACall Tryz.prog 99 [.val (.agg [bF, l1, bF, l1]), .val (.agg [bF, lF [u 9], bF, lF [u 4]])] ⟨[.val (.agg [bF, lF [u 9], bF, lF [u 4]])], [none, none]⟩ := ex (.cons k343 (.cons k344 (.cons k346 (.cons k162 .nil)))) (by kernel_rfl)
theorem k348 : ACall Tryz.prog 143 [.val (.agg [bF, lF [u 3], bF, lF [u 2]]), .val (.c (n64 2))] ⟨[.val (.agg [bF, lF [u 9], bF, lF [u 4]])], [none, none]⟩ := ex (.cons k129 (.cons k338 (.cons k347 .nil))) (by kernel_rfl)
theorem k349 : ACall Tryz.prog 183 [.val (.c (lT [])), .val (.c (lF [u 4]))] ⟨[.val (.c (lF []))], [none, none]⟩ := ex (.cons k310 .nil) (by kernel_rfl)
theorem k350 : ACall Tryz.prog 156 [.val (.agg [bF, lT []]), .val (.agg [bF, lF [u 4]])] ⟨[.val (.agg [bF, lT []])], [none, none]⟩ := ex (.cons k349 (.cons k150 .nil)) (by kernel_rfl)
theorem k351 : ACall Tryz.prog 115 [.val (.c (lF [[bF, lT []], [bF, lF [u 4]]]))] ⟨[.val (.agg [bF, lT []])], [none]⟩ := ex (.cons k37 (.cons k328 (.cons k39 (.cons k161 (.cons k350 .nil))))) (by kernel_rfl)
theorem k352 : ACall Tryz.prog 115 [.val (.c (lF [[bF, lF [u 9]], [bF, l1]]))] ⟨[.val (.agg [bF, lF [u 9]])], [none]⟩ := ex (.cons k37 (.cons k345 (.cons k39 .nil))) (by kernel_rfl)
theorem k353 : ACall Tryz.prog 170 [.val (.c (lT [])), .val (.c (lF [u 9]))] ⟨[.val (.c (lF [u 9]))], [none, none]⟩ := ex (.cons k332 .nil) (by kernel_rfl)
theorem k354 : ACall Tryz.prog 139 [.val (.agg [bF, lT []]), .val (.agg [bF, lF [u 9]])] ⟨[.val (.agg [bF, lF [u 9]])], [none, none]⟩ := ex (.cons k353 (.cons k335 .nil)) (by kernel_rfl)
theorem k355 : ACall Tryz.prog 115 [.val (.c (lF [[bF, l1], [bF, lF [u 4]]]))] ⟨[.val (.agg [bF, lF [u 4]])], [none]⟩ := ex (.cons k37 (.cons k39 (.cons k161 .nil))) (by kernel_rfl)
theorem k356 : ACall Tryz.prog 157 [.val (.c (lF [u 9]))] ⟨[.val (.c (lF [u 9]))], [none]⟩ := ex (.nil) (by kernel_rfl)
theorem k357 : ACall Tryz.prog 159 [.val (.c (lF [u 9]))] ⟨[.val (.c (w64 9))], [none]⟩ := ex (.nil) (by kernel_rfl)
theorem k358 : ACall Tryz.prog 120 [.val (.agg [bF, lF [u 9]]), .val (.agg [bF, lF [u 4]])] ⟨[.val (.agg [bF, l1])], [none, none]⟩ := ex (.cons k334 (.cons k356 (.cons k141 (.cons k339 (.cons k357 (.cons k341 (.cons k34 (.cons k36 .nil)))))))) (by kernel_rfl)
theorem k359 : ACall Tryz.prog 140 [.val (.agg [bF, lF [u 9]]), .val (.agg [bF, lF [u 4]])] ⟨[.val (.agg [bF, lF [u 9], bF, lF [u 4]])], [none, none]⟩ := ex (.cons k161 (.cons k358 (.cons k39 .nil))) (by kernel_rfl)
theorem k360 : ACall Tryz.prog 93 [.val (.agg [bF, lT [], bF, l1]), .val (.agg [bF, lF [u 9], bF, lF [u 4]])] ⟨[.val (.agg [bF, lF [u 9], bF, lF [u 4]])], [none, none]⟩ := ex (.cons k351 (.cons k352 (.cons k354 (.cons k355 (.cons k359 .nil))))) (by kernel_rfl)
theorem k361 : ACall Tryz.prog 158 [.val (.c (lF [u 8, u 0]))] ⟨[.val (.c (lF [u 8]))], [none]⟩ := ex (.nil) (by kernel_rfl)
theorem k362 : ACall Tryz.prog 183 [.val (.c (lF [u 2])), .val (.c (lF [u 4]))] ⟨[.val (.c (lF [u 8]))], [none, none]⟩ := ex (.cons k361 .nil) (by kernel_rfl)
theorem k363 : ACall Tryz.prog 158 [.val (.c (lF [u 8]))] ⟨[.val (.c (lF [u 8]))], [none]⟩ := ex (.nil) (by kernel_rfl)
theorem k364 : ACall Tryz.prog 160 [.val (.c (bT)), .val (.c (lF [u 8]))] ⟨[.val (.agg [bT, lF [u 8]])], [none, none]⟩ := ex (.cons k363 .nil) (by kernel_rfl)
theorem k365 : ACall Tryz.prog 156 [.val (.agg [bT, lF [u 2]]), .val (.agg [bF, lF [u 4]])] ⟨[.val (.agg [bT, lF [u 8]])], [none, none]⟩ := ex (.cons k362 (.cons k364 .nil)) (by kernel_rfl)
theorem k366 : ACall Tryz.prog 115 [.val (.c (lF [[bT, lF [u 2]], [bF, lF [u 4]]]))] ⟨[.val (.agg [bT, lF [u 8]])], [none]⟩ := ex (.cons k37 (.cons k212 (.cons k39 (.cons k161 (.cons k365 .nil))))) (by kernel_rfl)
theorem k367 : ACall Tryz.prog 155 [.val (.c (lF [u 9])), .val (.c (lF [u 8]))] ⟨[.val (.c (n64 1))], [none, none]⟩ := ex (.nil) (by kernel_rfl)
theorem k368 : ACall Tryz.prog 171 [.val (.c (lF [u 9])), .val (.c (lF [u 8]))] ⟨[.val (.c (l1))], [none, none]⟩ := ex (.cons k35 .nil) (by kernel_rfl)
theorem k369 : ACall Tryz.prog 139 [.val (.agg [bF, lF [u 9]]), .val (.agg [bT, lF [u 8]])] ⟨[.val (.agg [bF, l1])], [none, none]⟩ := ex (.cons k367 (.cons k368 (.cons k36 .nil))) (by kernel_rfl)
theorem k370 : ACall Tryz.prog 93 [.val (.agg [bF, lF [u 9], bF, lF [u 4]]), .val (.agg [bT, lF [u 2], bF, l1])] ⟨[.val (.agg [bF, l1, bF, lF [u 4]])], [none, none]⟩ := ex (.cons k352 (.cons k366 (.cons k369 (.cons k162 (.cons k343 .nil))))) (by kernel_rfl)
theorem k371 : ACall Tryz.prog 95 [.val (.c (lF [[bF, l1, bF, l1, n64 2, n64 0, n64 0, n64 0, n64 0, n64 0, n64 0, n64 0], [bT, lF [u 2], bF, l1, n64 0, n64 0, n64 0, n64 0, n64 0, n64 0, n64 0, n64 0]])), .val (.agg [bF, lF [u 3], bF, lF [u 2], bF, lT [], bF, l1, bF, lT [], bF, l1, bF, lT [], bF, l1, bF, lT [], bF, l1, bF, lT [], bF, l1, bF, lT [], bF, l1, bF, lT [], bF, l1])] ⟨[.val (.agg [bF, l1, bF, lF [u 4]])], [none, none]⟩ := ex (.cons k153 (.cons k348 (.cons k347 (.cons k360 (.cons k370 .nil))))) (by kernel_rfl)
theorem k372 : ACall Tryz.prog 96 [.val (.c (lF [[bF, l1, bF, l1, n64 2, n64 0, n64 0, n64 0, n64 0, n64 0, n64 0, n64 0], [bT, lF [u 2], bF, l1, n64 0, n64 0, n64 0, n64 0, n64 0, n64 0, n64 0, n64 0]])), .val (.c (n64 0))] ⟨[.val (.c (lF [[bF, lF [u 2], bF, l1, n64 1, n64 0, n64 0, n64 0, n64 0, n64 0, n64 0, n64 0]])), .val (.c (n64 0))], [none, none]⟩ := ex (.cons k299 (.cons k95 .nil)) (by kernel_rfl)
theorem k373 : ACall Tryz.prog 120 [.val (.agg [bF, l1]), .val (.agg [bF, lF [u 2]])] ⟨[.val (.agg [bF, l1])], [none, none]⟩ := ex (.cons k35 (.cons k219 (.cons k190 (.cons k209 (.cons k340 (.cons k303 (.cons k34 (.cons k36 .nil)))))))) (by kernel_rfl)
theorem k374 : ACall Tryz.prog 140 [.val (.agg [bF, l1]), .val (.agg [bF, lF [u 2]])] ⟨[.val (.agg [bF, l1, bF, lF [u 2]])], [none, none]⟩ := ex (.cons k41 (.cons k373 (.cons k39 .nil))) (by kernel_rfl)
theorem k375 : ACall Tryz.prog 115 [.val (.c (lF [[bF, l1], [bF, lF [u 3]]]))] ⟨[.val (.agg [bF, lF [u 3]])], [none]⟩ := ex (.cons k37 (.cons k39 (.cons k63 .nil))) (by kernel_rfl)
theorem k376 : ACall Tryz.prog 99 [.val (.agg [bF, l1, bF, l1]), .val (.agg [bF, lF [u 3], bF, lF [u 2]])] ⟨[.val (.agg [bF, lF [u 3], bF, lF [u 2]])], [none, none]⟩ := ex (.cons k374 (.cons k224 (.cons k375 (.cons k42 .nil)))) (by kernel_rfl)
theorem k377 : ACall Tryz.prog 143 [.val (.agg [bF, lF [u 3], bF, lF [u 2]]), .val (.c (n64 1))] ⟨[.val (.agg [bF, lF [u 3], bF, lF [u 2]])], [none, none]⟩ := ex (.cons k129 (.cons k376 .nil)) (by kernel_rfl)
theorem k378 : ACall Tryz.prog 120 [.val (.agg [bF, lF [u 2]]), .val (.agg [bF, lF [u 2]])] ⟨[.val (.agg [bF, lF [u 2]])], [none, none]⟩ := ex (.cons k190 (.cons k209 (.cons k303 (.cons k295 (.cons k296 .nil))))) (by kernel_rfl)
theorem k379 : ACall Tryz.prog 140 [.val (.agg [bF, lF [u 2]]), .val (.agg [bF, lF [u 2]])] ⟨[.val (.agg [bF, l1, bF, l1])], [none, none]⟩ := ex (.cons k41 (.cons k378 (.cons k326 .nil))) (by kernel_rfl)
theorem k380 : ACall Tryz.prog 99 [.val (.agg [bF, lF [u 2], bF, l1]), .val (.agg [bF, lF [u 3], bF, lF [u 2]])] ⟨[.val (.agg [bF, lF [u 3], bF, l1])], [none, none]⟩ := ex (.cons k379 (.cons k224 (.cons k375 (.cons k47 .nil)))) (by kernel_rfl)
theorem k381 : ACall Tryz.prog 170 [.val (.c (lT [])), .val (.c (lF [u 3]))] ⟨[.val (.c (lF [u 3]))], [none, none]⟩ := ex (.cons k77 .nil) (by kernel_rfl)
theorem k382 : ACall Tryz.prog 139 [.val (.agg [bF, lT []]), .val (.agg [bF, lF [u 3]])] ⟨[.val (.agg [bF, lF [u 3]])], [none, none]⟩ := ex (.cons k381 (.cons k80 .nil)) (by kernel_rfl)
theorem k383 : ACall Tryz.prog 93 [.val (.agg [bF, lT [], bF, l1]), .val (.agg [bF, lF [u 3], bF, l1])] ⟨[.val (.agg [bF, lF [u 3], bF, l1])], [none, none]⟩ := ex (.cons k329 (.cons k64 (.cons k382 (.cons k47 (.cons k224 .nil))))) (by kernel_rfl)
theorem k384 : ACall Tryz.prog 95 [.val (.c (lF [[bF, lF [u 2], bF, l1, n64 1, n64 0, n64 0, n64 0, n64 0, n64 0, n64 0, n64 0]])), .val (.agg [bF, lF [u 3], bF, lF [u 2], bF, lT [], bF, l1, bF, lT [], bF, l1, bF, lT [], bF, l1, bF, lT [], bF, l1, bF, lT [], bF, l1, bF, lT [], bF, l1, bF, lT [], bF, l1])] ⟨[.val (.agg [bF, lF [u 3], bF, l1])], [none, none]⟩ := ex (.cons k153 (.cons k377 (.cons k380 (.cons k383 .nil)))) (by kernel_rfl)
theorem k385 : ACall Tryz.prog 173 [.val (.c (lF [[lF [[bF, lF [u 3], bF, l1]]]]))] ⟨[.val (.c (n64 1))], [none]⟩ := ex (.nil) (by kernel_rfl)
theorem k386 : ACall Tryz.prog 144 [.val (.c (lF [[lF [[bF, lF [u 3], bF, l1]]]]))] ⟨[.val (.c (bT))], [none]⟩ := ex (.cons k385 .nil) (by kernel_rfl)
theorem k387 : ACall Tryz.prog 145 [.val (.c (n64 1))] ⟨[.own 4 [[bF, lT [], bF, l1]]], [none]⟩ := ex (.cons k153 .nil) (by kernel_rfl)
theorem k388 : ACall Tryz.prog 146 [.val (.c (lF [[bF, lF [u 3], bF, l1]]))] ⟨[.own 4 [[bF, lF [u 3], bF, l1]]], [none]⟩ := ex (.nil) (by kernel_rfl)
theorem k389 : ACall Tryz.prog 146 [.val (.c (lF [[bF, lF [u 3], bF, l1], [bF, l1, bF, l1]]))] ⟨[.own 4 [[bF, lF [u 3], bF, l1], [bF, l1, bF, l1]]], [none]⟩ := ex (.nil) (by kernel_rfl)
theorem k390 : ACall Tryz.prog 148 [.val (.c (lF [[lF [[bF, lF [u 3], bF, l1], [bF, l1, bF, l1]]]])), .val (.c (.v (.func (.func 146) #[] #[])))] ⟨[.own 1 [[lF [[bF, lF [u 3], bF, l1], [bF, l1, bF, l1]]]]], [none, none]⟩ := ex (.cons k389 .nil) (by kernel_rfl)
theorem k391 : ACall Tryz.prog 173 [.val (.c (lF [[lF [[bF, lF [u 3], bF, l1], [bF, l1, bF, l1]]]]))] ⟨[.val (.c (n64 2))], [none]⟩ := ex (.nil) (by kernel_rfl)
theorem k392 : ACall Tryz.prog 174 [.val (.c (lF [[lF [[bF, lF [u 3], bF, l1], [bF, l1, bF, l1]]]])), .val (.c (n64 0)), .val (.c (n64 0))] ⟨[.val (.c (n64 0))], [none, none, none]⟩ := ex (.cons k60 .nil) (by kernel_rfl)
theorem k393 : ACall Tryz.prog 138 [.val (.agg [bF, lF [u 3], bF, l1])] ⟨[.val (.agg [bF, l1, bF, lF [u 3]]), .val (.c (n64 0))], [none]⟩ := ex (.cons k59 .nil) (by kernel_rfl)
theorem k394 : ACall Tryz.prog 161 [.val (.c (w64 3))] ⟨[.val (.c (lF [u 3]))], [none]⟩ := ex (.cons k77 .nil) (by kernel_rfl)
theorem k395 : ACall Tryz.prog 120 [.val (.agg [bF, lF [u 3]]), .val (.agg [bF, lF [u 3]])] ⟨[.val (.agg [bF, lF [u 3]])], [none, none]⟩ := ex (.cons k79 (.cons k301 (.cons k302 (.cons k394 (.cons k80 .nil))))) (by kernel_rfl)
theorem k396 : ACall Tryz.prog 155 [.val (.c (lF [u 3])), .val (.c (lF [u 3]))] ⟨[.val (.c (n64 0))], [none, none]⟩ := ex (.nil) (by kernel_rfl)
theorem k397 : ACall Tryz.prog 184 [.val (.c (lF [u 3])), .val (.c (w64 3))] ⟨[.val (.c (l1)), .val (.c (w64 0))], [none, none]⟩ := ex (.cons k35 .nil) (by kernel_rfl)
theorem k398 : ACall Tryz.prog 162 [.val (.c (lF [u 3])), .val (.c (lF [u 3]))] ⟨[.val (.c (l1)), .val (.c (lF []))], [none, none]⟩ := ex (.cons k79 (.cons k396 (.cons k397 (.cons k148 .nil)))) (by kernel_rfl)
theorem k399 : ACall Tryz.prog 172 [.val (.agg [bF, lF [u 3]]), .val (.agg [bF, lF [u 3]])] ⟨[.val (.agg [bF, l1]), .val (.agg [bF, lT []]), .val (.c (n64 0))], [none, none]⟩ := ex (.cons k79 (.cons k398 (.cons k36 (.cons k150 .nil)))) (by kernel_rfl)
theorem k400 : ACall Tryz.prog 140 [.val (.agg [bF, lF [u 3]]), .val (.agg [bF, lF [u 3]])] ⟨[.val (.agg [bF, l1, bF, l1])], [none, none]⟩ := ex (.cons k63 (.cons k395 (.cons k399 .nil))) (by kernel_rfl)
theorem k401 : ACall Tryz.prog 99 [.val (.agg [bF, l1, bF, lF [u 3]]), .val (.agg [bF, lF [u 3], bF, l1])] ⟨[.val (.agg [bF, l1, bF, l1])], [none, none]⟩ := ex (.cons k84 (.cons k400 (.cons k47 .nil))) (by kernel_rfl)
theorem k402 : ACall Tryz.prog 176 [.val (.agg [bF, lF [u 3], bF, l1]), .ref [bF, l1, bF, lF [u 3]]] ⟨[.val (.agg [bF, l1, bF, l1])], [none, some (.var [.t (bF), .t (l1), .t (bF), .t (lF [u 3])])]⟩ := ex (.cons k401 .nil) (by kernel_rfl)
theorem k403 : ACall Tryz.prog 120 [.val (.agg [bF, l1]), .val (.agg [bF, lF [u 3]])] ⟨[.val (.agg [bF, l1])], [none, none]⟩ := ex (.cons k35 (.cons k219 (.cons k79 (.cons k301 (.cons k340 (.cons k302 (.cons k34 (.cons k36 .nil)))))))) (by kernel_rfl)
theorem k404 : ACall Tryz.prog 140 [.val (.agg [bF, l1]), .val (.agg [bF, lF [u 3]])] ⟨[.val (.agg [bF, l1, bF, lF [u 3]])], [none, none]⟩ := ex (.cons k63 (.cons k403 (.cons k39 .nil))) (by kernel_rfl)
theorem k405 : ACall Tryz.prog 99 [.val (.agg [bF, l1, bF, lF [u 3]]), .val (.agg [bF, l1, bF, l1])] ⟨[.val (.agg [bF, l1, bF, lF [u 3]])], [none, none]⟩ := ex (.cons k84 (.cons k404 (.cons k47 (.cons k375 .nil)))) (by kernel_rfl)
theorem k406 : ACall Tryz.prog 176 [.val (.agg [bF, l1, bF, l1]), .ref [bF, l1, bF, lF [u 3]]] ⟨[.val (.agg [bF, l1, bF, lF [u 3]])], [none, some (.var [.t (bF), .t (l1), .t (bF), .t (lF [u 3])])]⟩ := ex (.cons k405 .nil) (by kernel_rfl)
theorem k407 : ACall Tryz.prog 175 [.val (.c (lF [[bF, lF [u 3], bF, l1], [bF, l1, bF, l1]])), .clo 176 [(2, (0, 0))], .gh [bF, l1, bF, lF [u 3]]] ⟨[.val (.c (lF [[bF, l1, bF, l1], [bF, l1, bF, lF [u 3]]]))], [none, none, some (.var [.t (bF), .t (l1), .t (bF), .t (lF [u 3])])]⟩ := ex (.cons k402 (.cons k406 .nil)) (by kernel_rfl)
theorem k408 : ACall Tryz.prog 177 [.val (.c (lF [])), .val (.c (lF [[bF, l1, bF, l1], [bF, l1, bF, lF [u 3]]])), .val (.c (n64 0))] ⟨[], [none, none, none]⟩ := ex (.nil) (by kernel_rfl)
theorem k409 : ACall Tryz.prog 174 [.val (.c (lF [[lF [[bF, l1, bF, l1], [bF, l1, bF, lF [u 3]]]]])), .val (.c (n64 1)), .val (.c (n64 1))] ⟨[.val (.c (n64 (-1)))], [none, none, none]⟩ := ex (.nil) (by kernel_rfl)
theorem k410 : ACall Tryz.prog 147 [.val (.c (lF [[lF [[bF, lF [u 3], bF, l1], [bF, l1, bF, l1]]]]))] ⟨[.val (.c (lF [[lF [[bF, l1, bF, l1], [bF, l1, bF, lF [u 3]]]]])), .val (.c (lF [[n64 0]]))], [none]⟩ := ex (.cons k390 (.cons k391 (.cons k392 (.cons k393 (.cons k407 (.cons k408 (.cons k409 .nil))))))) (by kernel_rfl)
theorem k411 : ACall Tryz.prog 149 [.val (.c (lF [[bF, l1, bF, l1], [bF, l1, bF, lF [u 3]]])), .ref [n64 1]] ⟨[.val (.c (lF [[bF, l1, bF, lF [u 3]]]))], [none, some (.var [.t (n64 1)])]⟩ := ex (.nil) (by kernel_rfl)
theorem k412 : ACall Tryz.prog 148 [.val (.c (lF [[lF [[bF, l1, bF, l1], [bF, l1, bF, lF [u 3]]]]])), .clo 149 [(2, (0, 0))], .gh [n64 1]] ⟨[.own 1 [[lF [[bF, l1, bF, lF [u 3]]]]]], [none, none, some (.var [.t (n64 1)])]⟩ := ex (.cons k411 .nil) (by kernel_rfl)
theorem k413 : ACall Tryz.prog 97 [.val (.c (lF [[lF [[bF, lF [u 3], bF, l1]]]]))] ⟨[.val (.c (lF [[lF [[bF, l1, bF, lF [u 3]]]]])), .val (.c (n64 0))], [none]⟩ := ex (.cons k386 (.cons k387 (.cons k129 (.cons k388 (.cons k410 (.cons k412 .nil)))))) (by kernel_rfl)
theorem k414 : ACall Tryz.prog 87 [.val (.agg [bF, lT [], bF, l1])] ⟨[.val (.agg [bF, lT [], bF, l1, bF, lT [], bF, l1])], [none]⟩ := ex (.nil) (by kernel_rfl)
theorem k415 : ACall Tryz.prog 87 [.val (.agg [bF, lF [u 2], bF, l1])] ⟨[.val (.agg [bF, lF [u 2], bF, l1, bF, lF [u 2], bF, l1])], [none]⟩ := ex (.nil) (by kernel_rfl)
theorem k416 : ACall Tryz.prog 99 [.val (.agg [bF, l1, bF, l1]), .val (.agg [bF, l1, bF, l1])] ⟨[.val (.agg [bF, l1, bF, l1])], [none, none]⟩ := ex (.cons k84 (.cons k47 .nil)) (by kernel_rfl)
theorem k417 : ACall Tryz.prog 125 [.val (.agg [bF, l1, bF, l1]), .val (.c (n64 1))] ⟨[.val (.agg [bF, l1, bF, l1])], [none, none]⟩ := ex (.cons k129 (.cons k416 .nil)) (by kernel_rfl)
theorem k418 : ACall Tryz.prog 125 [.val (.agg [bF, lF [u 2], bF, l1]), .val (.c (n64 1))] ⟨[.val (.agg [bF, lF [u 2], bF, l1])], [none, none]⟩ := ex (.cons k129 (.cons k138 .nil)) (by kernel_rfl)
theorem k419 : ACall Tryz.prog 155 [.val (.c (lF [u 2])), .val (.c (l1))] ⟨[.val (.c (n64 1))], [none, none]⟩ := ex (.nil) (by kernel_rfl)
open Go Go.Abs Go.Proofs
theorem k420 : ACall Tryz.prog 114 [.val (.agg [bF, lF [u 2]]), .val (.agg [bF, l1])] ⟨[.val (.c (n64 1))], [none, none]⟩ := ex (.cons k31 (.cons k23 (.cons k419 .nil))) (by kernel_rfl)
theorem k421 : ACall Tryz.prog 67 [.val (.agg [bF, lF [u 2], bF, l1]), .val (.agg [bF, l1, bF, l1])] ⟨[.val (.c (n64 1))], [none, none]⟩ := ex (.cons k32 (.cons k24 (.cons k42 (.cons k47 (.cons k420 .nil))))) (by kernel_rfl)
theorem k422 : ACall Tryz.prog 66 [.val (.c (lF [[bF, l1, bF, l1], [bF, lF [u 2], bF, l1]]))] ⟨[.val (.agg [bF, l1, bF, l1])], [none]⟩ := ex (.cons k421 .nil) (by kernel_rfl)
theorem k423 : ACall Tryz.prog 65 [.val (.c (lF [[bF, l1, bF, l1], [bF, lF [u 2], bF, l1]]))] ⟨[.val (.agg [bF, lF [u 2], bF, l1])], [none]⟩ := ex (.cons k421 .nil) (by kernel_rfl)
theorem k424 : ACall Tryz.prog 124 [.val (.c (lF [[bF, l1, bF, l1], [bF, lF [u 2], bF, l1]]))] ⟨[.val (.agg [bF, l1, bF, l1, bF, lF [u 2], bF, l1])], [none]⟩ := ex (.cons k422 (.cons k423 .nil)) (by kernel_rfl)
theorem k425 : ACall Tryz.prog 75 [.val (.agg [bF, l1, bF, l1, bF, lF [u 2], bF, l1]), .val (.c (n64 1))] ⟨[.val (.agg [bF, l1, bF, l1, bF, lF [u 2], bF, l1])], [none, none]⟩ := ex (.cons k417 (.cons k418 (.cons k424 .nil))) (by kernel_rfl)
theorem k426 : ACall Tryz.prog 155 [.val (.c (lF [u 4])), .val (.c (lF [u 2]))] ⟨[.val (.c (n64 1))], [none, none]⟩ := ex (.nil) (by kernel_rfl)
theorem k427 : ACall Tryz.prog 114 [.val (.agg [bF, lF [u 4]]), .val (.agg [bF, lF [u 2]])] ⟨[.val (.c (n64 1))], [none, none]⟩ := ex (.cons k157 (.cons k31 (.cons k426 .nil))) (by kernel_rfl)
theorem k428 : ACall Tryz.prog 67 [.val (.agg [bF, lF [u 4], bF, l1]), .val (.agg [bF, lF [u 2], bF, l1])] ⟨[.val (.c (n64 1))], [none, none]⟩ := ex (.cons k158 (.cons k32 (.cons k162 (.cons k42 (.cons k427 .nil))))) (by kernel_rfl)
theorem k429 : ACall Tryz.prog 114 [.val (.agg [bF, lF [u 2]]), .val (.agg [bF, lF [u 2]])] ⟨[.val (.c (n64 0))], [none, none]⟩ := ex (.cons k31 (.cons k323 .nil)) (by kernel_rfl)
theorem k430 : ACall Tryz.prog 67 [.val (.agg [bF, lF [u 2], bF, l1]), .val (.agg [bF, lF [u 2], bF, l1])] ⟨[.val (.c (n64 0))], [none, none]⟩ := ex (.cons k32 (.cons k42 (.cons k429 .nil))) (by kernel_rfl)
theorem k431 : ACall Tryz.prog 66 [.val (.c (lF [[bF, lF [u 2], bF, l1], [bF, lF [u 4], bF, l1], [bF, lF [u 2], bF, l1], [bF, lF [u 4], bF, l1]]))] ⟨[.val (.agg [bF, lF [u 2], bF, l1])], [none]⟩ := ex (.cons k428 (.cons k430 .nil)) (by kernel_rfl)
theorem k432 : ACall Tryz.prog 155 [.val (.c (lF [u 2])), .val (.c (lF [u 4]))] ⟨[.val (.c (n64 (-1)))], [none, none]⟩ := ex (.nil) (by kernel_rfl)
theorem k433 : ACall Tryz.prog 114 [.val (.agg [bF, lF [u 2]]), .val (.agg [bF, lF [u 4]])] ⟨[.val (.c (n64 (-1)))], [none, none]⟩ := ex (.cons k31 (.cons k157 (.cons k432 .nil))) (by kernel_rfl)
theorem k434 : ACall Tryz.prog 67 [.val (.agg [bF, lF [u 2], bF, l1]), .val (.agg [bF, lF [u 4], bF, l1])] ⟨[.val (.c (n64 (-1)))], [none, none]⟩ := ex (.cons k32 (.cons k158 (.cons k42 (.cons k162 (.cons k433 .nil))))) (by kernel_rfl)
theorem k435 : ACall Tryz.prog 155 [.val (.c (lF [u 4])), .val (.c (lF [u 4]))] ⟨[.val (.c (n64 0))], [none, none]⟩ := ex (.nil) (by kernel_rfl)
theorem k436 : ACall Tryz.prog 114 [.val (.agg [bF, lF [u 4]]), .val (.agg [bF, lF [u 4]])] ⟨[.val (.c (n64 0))], [none, none]⟩ := ex (.cons k157 (.cons k435 .nil)) (by kernel_rfl)
theorem k437 : ACall Tryz.prog 67 [.val (.agg [bF, lF [u 4], bF, l1]), .val (.agg [bF, lF [u 4], bF, l1])] ⟨[.val (.c (n64 0))], [none, none]⟩ := ex (.cons k158 (.cons k162 (.cons k436 .nil))) (by kernel_rfl)
theorem k438 : ACall Tryz.prog 65 [.val (.c (lF [[bF, lF [u 2], bF, l1], [bF, lF [u 4], bF, l1], [bF, lF [u 2], bF, l1], [bF, lF [u 4], bF, l1]]))] ⟨[.val (.agg [bF, lF [u 4], bF, l1])], [none]⟩ := ex (.cons k428 (.cons k434 (.cons k437 .nil))) (by kernel_rfl)
theorem k439 : ACall Tryz.prog 124 [.val (.c (lF [[bF, lF [u 2], bF, l1], [bF, lF [u 4], bF, l1], [bF, lF [u 2], bF, l1], [bF, lF [u 4], bF, l1]]))] ⟨[.val (.agg [bF, lF [u 2], bF, l1, bF, lF [u 4], bF, l1])], [none]⟩ := ex (.cons k431 (.cons k438 .nil)) (by kernel_rfl)
theorem k440 : ACall Tryz.prog 74 [.val (.agg [bF, lF [u 2], bF, l1, bF, lF [u 2], bF, l1]), .val (.agg [bF, l1, bF, l1, bF, lF [u 2], bF, l1])] ⟨[.val (.agg [bF, lF [u 2], bF, l1, bF, lF [u 4], bF, l1])], [none, none]⟩ := ex (.cons k95 (.cons k145 (.cons k439 .nil))) (by kernel_rfl)
theorem k441 : ACall Tryz.prog 86 [.val (.c (n64 0)), .ref [lF [[bF, lF [u 2], bF, l1, n64 1, n64 0, n64 0, n64 0, n64 0, n64 0, n64 0, n64 0]]], .ref [bF, l1, bF, l1, bF, lF [u 2], bF, l1, bF, lF [], bF, l1, bF, lF [], bF, l1, bF, lF [], bF, l1, bF, lF [], bF, l1, bF, lF [], bF, l1, bF, lF [], bF, l1, bF, lF [], bF, l1, bF, lF [], bF, l1, bF, lF [], bF, l1, bF, lF [], bF, l1, bF, lF [], bF, l1, bF, lF [], bF, l1, bF, lF [], bF, l1, bF, lF [], bF, l1]] ⟨[.val (.agg [bF, lF [u 2], bF, l1, bF, lF [u 4], bF, l1])], [none, some (.var [.t (lF [[bF, lF [u 2], bF, l1, n64 1, n64 0, n64 0, n64 0, n64 0, n64 0, n64 0, n64 0]])]), some (.var [.t (bF), .t (l1), .t (bF), .t (l1), .t (bF), .t (lF [u 2]), .t (bF), .t (l1), .t (bF), .t (lF []), .t (bF), .t (l1), .t (bF), .t (lF []), .t (bF), .t (l1), .t (bF), .t (lF []), .t (bF), .t (l1), .t (bF), .t (lF []), .t (bF), .t (l1), .t (bF), .t (lF []), .t (bF), .t (l1), .t (bF), .t (lF []), .t (bF), .t (l1), .t (bF), .t (lF []), .t (bF), .t (l1), .t (bF), .t (lF []), .t (bF), .t (l1), .t (bF), .t (lF []), .t (bF), .t (l1), .t (bF), .t (lF []), .t (bF), .t (l1), .t (bF), .t (lF []), .t (bF), .t (l1), .t (bF), .t (lF []), .t (bF), .t (l1), .t (bF), .t (lF []), .t (bF), .t (l1), .t (bF), .t (lF []), .t (bF), .t (l1)])]⟩ := ex (.cons k415 (.cons k425 (.cons k440 .nil))) (by kernel_rfl)
theorem k442 : ACall Tryz.prog 170 [.val (.c (lT [])), .val (.c (lF [u 2]))] ⟨[.val (.c (lF [u 2]))], [none, none]⟩ := ex (.cons k188 .nil) (by kernel_rfl)
theorem k443 : ACall Tryz.prog 139 [.val (.agg [bF, lT []]), .val (.agg [bF, lF [u 2]])] ⟨[.val (.agg [bF, lF [u 2]])], [none, none]⟩ := ex (.cons k442 (.cons k296 .nil)) (by kernel_rfl)
theorem k444 : ACall Tryz.prog 93 [.val (.agg [bF, lT [], bF, l1]), .val (.agg [bF, lF [u 2], bF, l1])] ⟨[.val (.agg [bF, lF [u 2], bF, l1])], [none, none]⟩ := ex (.cons k329 (.cons k42 (.cons k443 (.cons k47 (.cons k87 .nil))))) (by kernel_rfl)
theorem k445 : ACall Tryz.prog 170 [.val (.c (lT [])), .val (.c (lF [u 4]))] ⟨[.val (.c (lF [u 4]))], [none, none]⟩ := ex (.cons k139 .nil) (by kernel_rfl)
theorem k446 : ACall Tryz.prog 139 [.val (.agg [bF, lT []]), .val (.agg [bF, lF [u 4]])] ⟨[.val (.agg [bF, lF [u 4]])], [none, none]⟩ := ex (.cons k445 (.cons k142 .nil)) (by kernel_rfl)
theorem k447 : ACall Tryz.prog 93 [.val (.agg [bF, lT [], bF, l1]), .val (.agg [bF, lF [u 4], bF, l1])] ⟨[.val (.agg [bF, lF [u 4], bF, l1])], [none, none]⟩ := ex (.cons k329 (.cons k162 (.cons k446 (.cons k47 (.cons k197 .nil))))) (by kernel_rfl)
theorem k448 : ACall Tryz.prog 72 [.val (.agg [bF, lT [], bF, l1, bF, lT [], bF, l1]), .val (.agg [bF, lF [u 2], bF, l1, bF, lF [u 4], bF, l1])] ⟨[.val (.agg [bF, lF [u 2], bF, l1, bF, lF [u 4], bF, l1])], [none, none]⟩ := ex (.cons k444 (.cons k447 .nil)) (by kernel_rfl)
theorem k449 : ACall Tryz.prog 88 [.val (.c (n64 1)), .clo 86 [(2, (0, 0)), (3, (0, 0))], .gh [lF [[bF, lF [u 2], bF, l1, n64 1, n64 0, n64 0, n64 0, n64 0, n64 0, n64 0, n64 0]]], .gh [bF, l1, bF, l1, bF, lF [u 2], bF, l1, bF, lF [], bF, l1, bF, lF [], bF, l1, bF, lF [], bF, l1, bF, lF [], bF, l1, bF, lF [], bF, l1, bF, lF [], bF, l1, bF, lF [], bF, l1, bF, lF [], bF, l1, bF, lF [], bF, l1, bF, lF [], bF, l1, bF, lF [], bF, l1, bF, lF [], bF, l1, bF, lF [], bF, l1, bF, lF [], bF, l1]] ⟨[.val (.agg [bF, lF [u 2], bF, l1, bF, lF [u 4], bF, l1])], [none, none, some (.var [.t (lF [[bF, lF [u 2], bF, l1, n64 1, n64 0, n64 0, n64 0, n64 0, n64 0, n64 0, n64 0]])]), some (.var [.t (bF), .t (l1), .t (bF), .t (l1), .t (bF), .t (lF [u 2]), .t (bF), .t (l1), .t (bF), .t (lF []), .t (bF), .t (l1), .t (bF), .t (lF []), .t (bF), .t (l1), .t (bF), .t (lF []), .t (bF), .t (l1), .t (bF), .t (lF []), .t (bF), .t (l1), .t (bF), .t (lF []), .t (bF), .t (l1), .t (bF), .t (lF []), .t (bF), .t (l1), .t (bF), .t (lF []), .t (bF), .t (l1), .t (bF), .t (lF []), .t (bF), .t (l1), .t (bF), .t (lF []), .t (bF), .t (l1), .t (bF), .t (lF []), .t (bF), .t (l1), .t (bF), .t (lF []), .t (bF), .t (l1), .t (bF), .t (lF []), .t (bF), .t (l1), .t (bF), .t (lF []), .t (bF), .t (l1), .t (bF), .t (lF []), .t (bF), .t (l1)])]⟩ := ex (.cons k153 (.cons k414 (.cons k441 (.cons k448 .nil)))) (by kernel_rfl)
theorem k450 : ACall Tryz.prog 39 [.val (.c (lF [[bF, lF [u 2], bF, l1, n64 1, n64 0, n64 0, n64 0, n64 0, n64 0, n64 0, n64 0]])), .val (.agg [bF, l1, bF, l1, bF, lF [u 2], bF, l1, bF, lF [], bF, l1, bF, lF [], bF, l1, bF, lF [], bF, l1, bF, lF [], bF, l1, bF, lF [], bF, l1, bF, lF [], bF, l1, bF, lF [], bF, l1, bF, lF [], bF, l1, bF, lF [], bF, l1, bF, lF [], bF, l1, bF, lF [], bF, l1, bF, lF [], bF, l1, bF, lF [], bF, l1, bF, lF [], bF, l1])] ⟨[.val (.agg [bF, lF [u 2], bF, l1, bF, lF [u 4], bF, l1])], [none, none]⟩ := ex (.cons k449 .nil) (by kernel_rfl)
theorem k451 : ACall Tryz.prog 158 [.val (.c (lF [u 12, u 0]))] ⟨[.val (.c (lF [u 12]))], [none]⟩ := ex (.nil) (by kernel_rfl)
theorem k452 : ACall Tryz.prog 183 [.val (.c (lF [u 4])), .val (.c (lF [u 3]))] ⟨[.val (.c (lF [u 12]))], [none, none]⟩ := ex (.cons k451 .nil) (by kernel_rfl)
theorem k453 : ACall Tryz.prog 158 [.val (.c (lF [u 12]))] ⟨[.val (.c (lF [u 12]))], [none]⟩ := ex (.nil) (by kernel_rfl)
theorem k454 : ACall Tryz.prog 160 [.val (.c (bF)), .val (.c (lF [u 12]))] ⟨[.val (.agg [bF, lF [u 12]])], [none, none]⟩ := ex (.cons k453 .nil) (by kernel_rfl)
theorem k455 : ACall Tryz.prog 156 [.val (.agg [bF, lF [u 4]]), .val (.agg [bF, lF [u 3]])] ⟨[.val (.agg [bF, lF [u 12]])], [none, none]⟩ := ex (.cons k452 (.cons k454 .nil)) (by kernel_rfl)
theorem k456 : ACall Tryz.prog 115 [.val (.c (lF [[bF, lF [u 4]], [bF, lF [u 3]]]))] ⟨[.val (.agg [bF, lF [u 12]])], [none]⟩ := ex (.cons k37 (.cons k161 (.cons k39 (.cons k63 (.cons k455 .nil))))) (by kernel_rfl)
theorem k457 : ACall Tryz.prog 99 [.val (.agg [bF, l1, bF, lF [u 3]]), .val (.agg [bF, l1, bF, lF [u 4]])] ⟨[.val (.agg [bF, l1, bF, lF [u 12]])], [none, none]⟩ := ex (.cons k343 (.cons k404 (.cons k47 (.cons k456 .nil)))) (by kernel_rfl)
theorem k458 : ACall Tryz.prog 87 [.val (.agg [bF, l1, bF, lF [u 12]])] ⟨[.val (.agg [bF, l1, bF, lF [u 12], bF, l1, bF, lF [u 12]])], [none]⟩ := ex (.nil) (by kernel_rfl)
theorem k459 : ACall Tryz.prog 98 [.val (.c (n64 0)), .ref [lF [[lF [[bF, l1, bF, lF [u 3]]]]]], .ref [n64 0], .ref [lF [[bF, l1, bF, lF [u 4]]]]] ⟨[.val (.agg [bF, l1, bF, lF [u 12], bF, l1, bF, lF [u 12]])], [none, some (.var [.t (lF [[lF [[bF, l1, bF, lF [u 3]]]]])]), some (.var [.t (n64 0)]), some (.var [.t (lF [[bF, l1, bF, lF [u 4]]])])]⟩ := ex (.cons k457 (.cons k458 .nil)) (by kernel_rfl)
theorem k460 : ACall Tryz.prog 119 [.val (.agg [bF, lF [u 12]])] ⟨[.val (.c (bF))], [none]⟩ := ex (.nil) (by kernel_rfl)
theorem k461 : ACall Tryz.prog 183 [.val (.c (lT [])), .val (.c (lF [u 12]))] ⟨[.val (.c (lF []))], [none, none]⟩ := ex (.cons k310 .nil) (by kernel_rfl)
theorem k462 : ACall Tryz.prog 156 [.val (.agg [bF, lT []]), .val (.agg [bF, lF [u 12]])] ⟨[.val (.agg [bF, lT []])], [none, none]⟩ := ex (.cons k461 (.cons k150 .nil)) (by kernel_rfl)
theorem k463 : ACall Tryz.prog 115 [.val (.c (lF [[bF, lT []], [bF, lF [u 12]]]))] ⟨[.val (.agg [bF, lT []])], [none]⟩ := ex (.cons k37 (.cons k328 (.cons k39 (.cons k460 (.cons k462 .nil))))) (by kernel_rfl)
theorem k464 : ACall Tryz.prog 170 [.val (.c (lT [])), .val (.c (l1))] ⟨[.val (.c (l1))], [none, none]⟩ := ex (.cons k33 .nil) (by kernel_rfl)
theorem k465 : ACall Tryz.prog 139 [.val (.agg [bF, lT []]), .val (.agg [bF, l1])] ⟨[.val (.agg [bF, l1])], [none, none]⟩ := ex (.cons k464 (.cons k36 .nil)) (by kernel_rfl)
theorem k466 : ACall Tryz.prog 115 [.val (.c (lF [[bF, l1], [bF, lF [u 12]]]))] ⟨[.val (.agg [bF, lF [u 12]])], [none]⟩ := ex (.cons k37 (.cons k39 (.cons k460 .nil))) (by kernel_rfl)
theorem k467 : ACall Tryz.prog 157 [.val (.c (lF [u 12]))] ⟨[.val (.c (lF [u 12]))], [none]⟩ := ex (.nil) (by kernel_rfl)
theorem k468 : ACall Tryz.prog 159 [.val (.c (lF [u 12]))] ⟨[.val (.c (w64 12))], [none]⟩ := ex (.nil) (by kernel_rfl)
theorem k469 : ACall Tryz.prog 120 [.val (.agg [bF, l1]), .val (.agg [bF, lF [u 12]])] ⟨[.val (.agg [bF, l1])], [none, none]⟩ := ex (.cons k35 (.cons k219 (.cons k453 (.cons k467 (.cons k340 (.cons k468 (.cons k34 (.cons k36 .nil)))))))) (by kernel_rfl)
theorem k470 : ACall Tryz.prog 140 [.val (.agg [bF, l1]), .val (.agg [bF, lF [u 12]])] ⟨[.val (.agg [bF, l1, bF, lF [u 12]])], [none, none]⟩ := ex (.cons k460 (.cons k469 (.cons k39 .nil))) (by kernel_rfl)
theorem k471 : ACall Tryz.prog 93 [.val (.agg [bF, lT [], bF, l1]), .val (.agg [bF, l1, bF, lF [u 12]])] ⟨[.val (.agg [bF, l1, bF, lF [u 12]])], [none, none]⟩ := ex (.cons k463 (.cons k47 (.cons k465 (.cons k466 (.cons k470 .nil))))) (by kernel_rfl)
theorem k472 : ACall Tryz.prog 72 [.val (.agg [bF, lT [], bF, l1, bF, lT [], bF, l1]), .val (.agg [bF, l1, bF, lF [u 12], bF, l1, bF, lF [u 12]])] ⟨[.val (.agg [bF, l1, bF, lF [u 12], bF, l1, bF, lF [u 12]])], [none, none]⟩ := ex (.cons k471 .nil) (by kernel_rfl)
theorem k473 : ACall Tryz.prog 88 [.val (.c (n64 1)), .clo 98 [(2, (0, 0)), (3, (0, 0)), (4, (0, 0))], .gh [lF [[lF [[bF, l1, bF, lF [u 3]]]]]], .gh [n64 0], .gh [lF [[bF, l1, bF, lF [u 4]]]]] ⟨[.val (.agg [bF, l1, bF, lF [u 12], bF, l1, bF, lF [u 12]])], [none, none, some (.var [.t (lF [[lF [[bF, l1, bF, lF [u 3]]]]])]), some (.var [.t (n64 0)]), some (.var [.t (lF [[bF, l1, bF, lF [u 4]]])])]⟩ := ex (.cons k153 (.cons k414 (.cons k459 (.cons k472 .nil)))) (by kernel_rfl)
theorem k474 : ACall Tryz.prog 87 [.val (.agg [bF, l1, bF, l1])] ⟨[.val (.agg [bF, l1, bF, l1, bF, l1, bF, l1])], [none]⟩ := ex (.nil) (by kernel_rfl)
theorem k475 : ACall Tryz.prog 87 [.val (.agg [bF, l1, bF, lF [u 3]])] ⟨[.val (.agg [bF, l1, bF, lF [u 3], bF, l1, bF, lF [u 3]])], [none]⟩ := ex (.nil) (by kernel_rfl)
theorem k476 : ACall Tryz.prog 120 [.val (.agg [bF, lF [u 2]]), .val (.agg [bF, lF [u 3]])] ⟨[.val (.agg [bF, l1])], [none, none]⟩ := ex (.cons k190 (.cons k209 (.cons k79 (.cons k301 (.cons k303 (.cons k302 (.cons k34 (.cons k36 .nil)))))))) (by kernel_rfl)
theorem k477 : ACall Tryz.prog 140 [.val (.agg [bF, lF [u 2]]), .val (.agg [bF, lF [u 3]])] ⟨[.val (.agg [bF, lF [u 2], bF, lF [u 3]])], [none, none]⟩ := ex (.cons k63 (.cons k476 (.cons k39 .nil))) (by kernel_rfl)
theorem k478 : ACall Tryz.prog 99 [.val (.agg [bF, l1, bF, lF [u 3]]), .val (.agg [bF, lF [u 2], bF, l1])] ⟨[.val (.agg [bF, lF [u 2], bF, lF [u 3]])], [none, none]⟩ := ex (.cons k84 (.cons k477 (.cons k137 (.cons k375 .nil)))) (by kernel_rfl)
theorem k479 : ACall Tryz.prog 120 [.val (.agg [bF, lF [u 4]]), .val (.agg [bF, lF [u 3]])] ⟨[.val (.agg [bF, l1])], [none, none]⟩ := ex (.cons k141 (.cons k339 (.cons k79 (.cons k301 (.cons k341 (.cons k302 (.cons k34 (.cons k36 .nil)))))))) (by kernel_rfl)
theorem k480 : ACall Tryz.prog 140 [.val (.agg [bF, lF [u 4]]), .val (.agg [bF, lF [u 3]])] ⟨[.val (.agg [bF, lF [u 4], bF, lF [u 3]])], [none, none]⟩ := ex (.cons k63 (.cons k479 (.cons k39 .nil))) (by kernel_rfl)
theorem k481 : ACall Tryz.prog 99 [.val (.agg [bF, l1, bF, lF [u 3]]), .val (.agg [bF, lF [u 4], bF, l1])] ⟨[.val (.agg [bF, lF [u 4], bF, lF [u 3]])], [none, none]⟩ := ex (.cons k84 (.cons k480 (.cons k355 (.cons k375 .nil)))) (by kernel_rfl)
theorem k482 : ACall Tryz.prog 113 [.val (.agg [bF, lF [u 4], bF, lF [u 3]])] ⟨[.val (.c (n64 1))], [none]⟩ := ex (.cons k157 .nil) (by kernel_rfl)
theorem k483 : ACall Tryz.prog 113 [.val (.agg [bF, lF [u 2], bF, lF [u 3]])] ⟨[.val (.c (n64 1))], [none]⟩ := ex (.cons k31 .nil) (by kernel_rfl)
theorem k484 : ACall Tryz.prog 160 [.val (.c (bF)), .val (.c (lF [u 6]))] ⟨[.val (.agg [bF, lF [u 6]])], [none, none]⟩ := ex (.cons k90 .nil) (by kernel_rfl)
theorem k485 : ACall Tryz.prog 156 [.val (.agg [bF, lF [u 2]]), .val (.agg [bF, lF [u 3]])] ⟨[.val (.agg [bF, lF [u 6]])], [none, none]⟩ := ex (.cons k89 (.cons k484 .nil)) (by kernel_rfl)
theorem k486 : ACall Tryz.prog 115 [.val (.c (lF [[bF, lF [u 2]], [bF, lF [u 3]]]))] ⟨[.val (.agg [bF, lF [u 6]])], [none]⟩ := ex (.cons k37 (.cons k41 (.cons k39 (.cons k63 (.cons k485 .nil))))) (by kernel_rfl)
theorem k487 : ACall Tryz.prog 118 [.val (.agg [bF, lF [u 12]])] ⟨[.val (.c (n64 1))], [none]⟩ := ex (.nil) (by kernel_rfl)
theorem k488 : ACall Tryz.prog 118 [.val (.agg [bF, lF [u 6]])] ⟨[.val (.c (n64 1))], [none]⟩ := ex (.nil) (by kernel_rfl)
theorem k489 : ACall Tryz.prog 155 [.val (.c (lF [u 12])), .val (.c (lF [u 6]))] ⟨[.val (.c (n64 1))], [none, none]⟩ := ex (.nil) (by kernel_rfl)
theorem k490 : ACall Tryz.prog 114 [.val (.agg [bF, lF [u 12]]), .val (.agg [bF, lF [u 6]])] ⟨[.val (.c (n64 1))], [none, none]⟩ := ex (.cons k487 (.cons k488 (.cons k489 .nil))) (by kernel_rfl)
theorem k491 : ACall Tryz.prog 67 [.val (.agg [bF, lF [u 4], bF, lF [u 3]]), .val (.agg [bF, lF [u 2], bF, lF [u 3]])] ⟨[.val (.c (n64 1))], [none, none]⟩ := ex (.cons k482 (.cons k483 (.cons k456 (.cons k486 (.cons k490 .nil))))) (by kernel_rfl)
theorem k492 : ACall Tryz.prog 155 [.val (.c (lF [u 6])), .val (.c (lF [u 6]))] ⟨[.val (.c (n64 0))], [none, none]⟩ := ex (.nil) (by kernel_rfl)
theorem k493 : ACall Tryz.prog 114 [.val (.agg [bF, lF [u 6]]), .val (.agg [bF, lF [u 6]])] ⟨[.val (.c (n64 0))], [none, none]⟩ := ex (.cons k488 (.cons k492 .nil)) (by kernel_rfl)
theorem k494 : ACall Tryz.prog 67 [.val (.agg [bF, lF [u 2], bF, lF [u 3]]), .val (.agg [bF, lF [u 2], bF, lF [u 3]])] ⟨[.val (.c (n64 0))], [none, none]⟩ := ex (.cons k483 (.cons k486 (.cons k493 .nil))) (by kernel_rfl)
theorem k495 : ACall Tryz.prog 66 [.val (.c (lF [[bF, lF [u 2], bF, lF [u 3]], [bF, lF [u 4], bF, lF [u 3]], [bF, lF [u 2], bF, lF [u 3]], [bF, lF [u 4], bF, lF [u 3]]]))] ⟨[.val (.agg [bF, lF [u 2], bF, lF [u 3]])], [none]⟩ := ex (.cons k491 (.cons k494 .nil)) (by kernel_rfl)
theorem k496 : ACall Tryz.prog 155 [.val (.c (lF [u 6])), .val (.c (lF [u 12]))] ⟨[.val (.c (n64 (-1)))], [none, none]⟩ := ex (.nil) (by kernel_rfl)
theorem k497 : ACall Tryz.prog 114 [.val (.agg [bF, lF [u 6]]), .val (.agg [bF, lF [u 12]])] ⟨[.val (.c (n64 (-1)))], [none, none]⟩ := ex (.cons k488 (.cons k487 (.cons k496 .nil))) (by kernel_rfl)
theorem k498 : ACall Tryz.prog 67 [.val (.agg [bF, lF [u 2], bF, lF [u 3]]), .val (.agg [bF, lF [u 4], bF, lF [u 3]])] ⟨[.val (.c (n64 (-1)))], [none, none]⟩ := ex (.cons k483 (.cons k482 (.cons k486 (.cons k456 (.cons k497 .nil))))) (by kernel_rfl)
theorem k499 : ACall Tryz.prog 155 [.val (.c (lF [u 12])), .val (.c (lF [u 12]))] ⟨[.val (.c (n64 0))], [none, none]⟩ := ex (.nil) (by kernel_rfl)
theorem k500 : ACall Tryz.prog 114 [.val (.agg [bF, lF [u 12]]), .val (.agg [bF, lF [u 12]])] ⟨[.val (.c (n64 0))], [none, none]⟩ := ex (.cons k487 (.cons k499 .nil)) (by kernel_rfl)
theorem k501 : ACall Tryz.prog 67 [.val (.agg [bF, lF [u 4], bF, lF [u 3]]), .val (.agg [bF, lF [u 4], bF, lF [u 3]])] ⟨[.val (.c (n64 0))], [none, none]⟩ := ex (.cons k482 (.cons k456 (.cons k500 .nil))) (by kernel_rfl)
theorem k502 : ACall Tryz.prog 65 [.val (.c (lF [[bF, lF [u 2], bF, lF [u 3]], [bF, lF [u 4], bF, lF [u 3]], [bF, lF [u 2], bF, lF [u 3]], [bF, lF [u 4], bF, lF [u 3]]]))] ⟨[.val (.agg [bF, lF [u 4], bF, lF [u 3]])], [none]⟩ := ex (.cons k491 (.cons k498 (.cons k501 .nil))) (by kernel_rfl)
theorem k503 : ACall Tryz.prog 124 [.val (.c (lF [[bF, lF [u 2], bF, lF [u 3]], [bF, lF [u 4], bF, lF [u 3]], [bF, lF [u 2], bF, lF [u 3]], [bF, lF [u 4], bF, lF [u 3]]]))] ⟨[.val (.agg [bF, lF [u 2], bF, lF [u 3], bF, lF [u 4], bF, lF [u 3]])], [none]⟩ := ex (.cons k495 (.cons k502 .nil)) (by kernel_rfl)
theorem k504 : ACall Tryz.prog 74 [.val (.agg [bF, l1, bF, lF [u 3], bF, l1, bF, lF [u 3]]), .val (.agg [bF, lF [u 2], bF, l1, bF, lF [u 4], bF, l1])] ⟨[.val (.agg [bF, lF [u 2], bF, lF [u 3], bF, lF [u 4], bF, lF [u 3]])], [none, none]⟩ := ex (.cons k478 (.cons k481 (.cons k503 .nil))) (by kernel_rfl)
theorem k505 : ACall Tryz.prog 101 [.val (.c (n64 0)), .ref [lF [[lF [[bF, l1, bF, lF [u 3]]]]]], .ref [n64 0], .ref [lF [[lF [[bF, lF [u 2], bF, l1, bF, lF [u 4], bF, l1]]]]], .ref [n64 0]] ⟨[.val (.agg [bF, lF [u 2], bF, lF [u 3], bF, lF [u 4], bF, lF [u 3]])], [none, some (.var [.t (lF [[lF [[bF, l1, bF, lF [u 3]]]]])]), some (.var [.t (n64 0)]), some (.var [.t (lF [[lF [[bF, lF [u 2], bF, l1, bF, lF [u 4], bF, l1]]]])]), some (.var [.t (n64 0)])]⟩ := ex (.cons k475 (.cons k504 .nil)) (by kernel_rfl)
theorem k506 : ACall Tryz.prog 183 [.val (.c (lT [])), .val (.c (lF [u 3]))] ⟨[.val (.c (lF []))], [none, none]⟩ := ex (.cons k310 .nil) (by kernel_rfl)
theorem k507 : ACall Tryz.prog 156 [.val (.agg [bF, lT []]), .val (.agg [bF, lF [u 3]])] ⟨[.val (.agg [bF, lT []])], [none, none]⟩ := ex (.cons k506 (.cons k150 .nil)) (by kernel_rfl)
theorem k508 : ACall Tryz.prog 115 [.val (.c (lF [[bF, lT []], [bF, lF [u 3]]]))] ⟨[.val (.agg [bF, lT []])], [none]⟩ := ex (.cons k37 (.cons k328 (.cons k39 (.cons k63 (.cons k507 .nil))))) (by kernel_rfl)
theorem k509 : ACall Tryz.prog 93 [.val (.agg [bF, lT [], bF, l1]), .val (.agg [bF, lF [u 2], bF, lF [u 3]])] ⟨[.val (.agg [bF, lF [u 2], bF, lF [u 3]])], [none, none]⟩ := ex (.cons k508 (.cons k42 (.cons k443 (.cons k375 (.cons k477 .nil))))) (by kernel_rfl)
theorem k510 : ACall Tryz.prog 93 [.val (.agg [bF, lT [], bF, l1]), .val (.agg [bF, lF [u 4], bF, lF [u 3]])] ⟨[.val (.agg [bF, lF [u 4], bF, lF [u 3]])], [none, none]⟩ := ex (.cons k508 (.cons k162 (.cons k446 (.cons k375 (.cons k480 .nil))))) (by kernel_rfl)
theorem k511 : ACall Tryz.prog 72 [.val (.agg [bF, lT [], bF, l1, bF, lT [], bF, l1]), .val (.agg [bF, lF [u 2], bF, lF [u 3], bF, lF [u 4], bF, lF [u 3]])] ⟨[.val (.agg [bF, lF [u 2], bF, lF [u 3], bF, lF [u 4], bF, lF [u 3]])], [none, none]⟩ := ex (.cons k509 (.cons k510 .nil)) (by kernel_rfl)
theorem k512 : ACall Tryz.prog 88 [.val (.c (n64 1)), .clo 101 [(2, (0, 0)), (3, (0, 0)), (4, (0, 0)), (5, (0, 0))], .gh [lF [[lF [[bF, l1, bF, lF [u 3]]]]]], .gh [n64 0], .gh [lF [[lF [[bF, lF [u 2], bF, l1, bF, lF [u 4], bF, l1]]]]], .gh [n64 0]] ⟨[.val (.agg [bF, lF [u 2], bF, lF [u 3], bF, lF [u 4], bF, lF [u 3]])], [none, none, some (.var [.t (lF [[lF [[bF, l1, bF, lF [u 3]]]]])]), some (.var [.t (n64 0)]), some (.var [.t (lF [[lF [[bF, lF [u 2], bF, l1, bF, lF [u 4], bF, l1]]]])]), some (.var [.t (n64 0)])]⟩ := ex (.cons k153 (.cons k414 (.cons k505 (.cons k511 .nil)))) (by kernel_rfl)
theorem k513 : ACall Tryz.prog 160 [.val (.c (bT)), .val (.c (lF [u 4]))] ⟨[.val (.agg [bT, lF [u 4]])], [none, none]⟩ := ex (.cons k141 .nil) (by kernel_rfl)
theorem k514 : ACall Tryz.prog 169 [.val (.agg [bF, lF [u 4]])] ⟨[.val (.agg [bT, lF [u 4]])], [none]⟩ := ex (.cons k339 (.cons k513 .nil)) (by kernel_rfl)
theorem k515 : ACall Tryz.prog 164 [.val (.agg [bF, lF [u 4], bF, lF [u 3]])] ⟨[.val (.agg [bT, lF [u 4], bF, lF [u 3]])], [none]⟩ := ex (.cons k514 .nil) (by kernel_rfl)
theorem k516 : ACall Tryz.prog 119 [.val (.agg [bT, lF [u 4]])] ⟨[.val (.c (bF))], [none]⟩ := ex (.nil) (by kernel_rfl)
theorem k517 : ACall Tryz.prog 115 [.val (.c (lF [[bT, lF [u 4]], [bF, l1]]))] ⟨[.val (.agg [bT, lF [u 4]])], [none]⟩ := ex (.cons k37 (.cons k516 (.cons k39 .nil))) (by kernel_rfl)
theorem k518 : ACall Tryz.prog 155 [.val (.c (lF [u 3])), .val (.c (lF [u 4]))] ⟨[.val (.c (n64 (-1)))], [none, none]⟩ := ex (.nil) (by kernel_rfl)
theorem k519 : ACall Tryz.prog 171 [.val (.c (lF [u 4])), .val (.c (lF [u 3]))] ⟨[.val (.c (l1))], [none, none]⟩ := ex (.cons k35 .nil) (by kernel_rfl)
theorem k520 : ACall Tryz.prog 160 [.val (.c (bT)), .val (.c (l1))] ⟨[.val (.agg [bT, l1])], [none, none]⟩ := ex (.cons k35 .nil) (by kernel_rfl)
theorem k521 : ACall Tryz.prog 139 [.val (.agg [bF, lF [u 3]]), .val (.agg [bT, lF [u 4]])] ⟨[.val (.agg [bT, l1])], [none, none]⟩ := ex (.cons k518 (.cons k519 (.cons k520 .nil))) (by kernel_rfl)
theorem k522 : ACall Tryz.prog 120 [.val (.agg [bT, l1]), .val (.agg [bF, lF [u 3]])] ⟨[.val (.agg [bF, l1])], [none, none]⟩ := ex (.cons k35 (.cons k219 (.cons k79 (.cons k301 (.cons k340 (.cons k302 (.cons k34 (.cons k36 .nil)))))))) (by kernel_rfl)
theorem k523 : ACall Tryz.prog 140 [.val (.agg [bT, l1]), .val (.agg [bF, lF [u 3]])] ⟨[.val (.agg [bT, l1, bF, lF [u 3]])], [none, none]⟩ := ex (.cons k63 (.cons k522 (.cons k39 .nil))) (by kernel_rfl)
theorem k524 : ACall Tryz.prog 93 [.val (.agg [bF, l1, bF, l1]), .val (.agg [bT, lF [u 4], bF, lF [u 3]])] ⟨[.val (.agg [bT, l1, bF, lF [u 3]])], [none, none]⟩ := ex (.cons k375 (.cons k517 (.cons k521 (.cons k523 .nil)))) (by kernel_rfl)
theorem k525 : ACall Tryz.prog 123 [.val (.agg [bF, l1, bF, l1]), .val (.agg [bF, lF [u 4], bF, lF [u 3]])] ⟨[.val (.agg [bT, l1, bF, lF [u 3]])], [none, none]⟩ := ex (.cons k515 (.cons k524 .nil)) (by kernel_rfl)
theorem k526 : ACall Tryz.prog 164 [.val (.agg [bF, lF [u 2], bF, lF [u 3]])] ⟨[.val (.agg [bT, lF [u 2], bF, lF [u 3]])], [none]⟩ := ex (.cons k210 .nil) (by kernel_rfl)
theorem k527 : ACall Tryz.prog 171 [.val (.c (lF [u 3])), .val (.c (lF [u 2]))] ⟨[.val (.c (l1))], [none, none]⟩ := ex (.cons k35 .nil) (by kernel_rfl)
theorem k528 : ACall Tryz.prog 139 [.val (.agg [bF, lF [u 3]]), .val (.agg [bT, lF [u 2]])] ⟨[.val (.agg [bF, l1])], [none, none]⟩ := ex (.cons k65 (.cons k527 (.cons k36 .nil))) (by kernel_rfl)
theorem k529 : ACall Tryz.prog 93 [.val (.agg [bF, l1, bF, l1]), .val (.agg [bT, lF [u 2], bF, lF [u 3]])] ⟨[.val (.agg [bF, l1, bF, lF [u 3]])], [none, none]⟩ := ex (.cons k375 (.cons k213 (.cons k528 (.cons k404 .nil)))) (by kernel_rfl)
theorem k530 : ACall Tryz.prog 123 [.val (.agg [bF, l1, bF, l1]), .val (.agg [bF, lF [u 2], bF, lF [u 3]])] ⟨[.val (.agg [bF, l1, bF, lF [u 3]])], [none, none]⟩ := ex (.cons k526 (.cons k529 .nil)) (by kernel_rfl)
theorem k531 : ACall Tryz.prog 73 [.val (.agg [bF, l1, bF, l1, bF, l1, bF, l1]), .val (.agg [bF, lF [u 2], bF, lF [u 3], bF, lF [u 4], bF, lF [u 3]])] ⟨[.val (.agg [bT, l1, bF, lF [u 3], bF, l1, bF, lF [u 3]])], [none, none]⟩ := ex (.cons k525 (.cons k530 .nil)) (by kernel_rfl)
theorem k532 : ACall Tryz.prog 87 [.val (.agg [bF, lF [u 3], bF, lF [u 2]])] ⟨[.val (.agg [bF, lF [u 3], bF, lF [u 2], bF, lF [u 3], bF, lF [u 2]])], [none]⟩ := ex (.nil) (by kernel_rfl)
theorem k533 : ACall Tryz.prog 169 [.val (.agg [bF, lF [u 3]])] ⟨[.val (.agg [bT, lF [u 3]])], [none]⟩ := ex (.cons k301 (.cons k215 .nil)) (by kernel_rfl)
theorem k534 : ACall Tryz.prog 164 [.val (.agg [bF, lF [u 3], bF, lF [u 2]])] ⟨[.val (.agg [bT, lF [u 3], bF, lF [u 2]])], [none]⟩ := ex (.cons k533 .nil) (by kernel_rfl)
theorem k535 : ACall Tryz.prog 115 [.val (.c (lF [[bT, lF [u 3]], [bF, l1]]))] ⟨[.val (.agg [bT, lF [u 3]])], [none]⟩ := ex (.cons k37 (.cons k76 (.cons k39 .nil))) (by kernel_rfl)
theorem k536 : ACall Tryz.prog 139 [.val (.agg [bF, lF [u 2]]), .val (.agg [bT, lF [u 3]])] ⟨[.val (.agg [bT, l1])], [none, none]⟩ := ex (.cons k107 (.cons k527 (.cons k520 .nil))) (by kernel_rfl)
theorem k537 : ACall Tryz.prog 120 [.val (.agg [bT, l1]), .val (.agg [bF, lF [u 2]])] ⟨[.val (.agg [bF, l1])], [none, none]⟩ := ex (.cons k35 (.cons k219 (.cons k190 (.cons k209 (.cons k340 (.cons k303 (.cons k34 (.cons k36 .nil)))))))) (by kernel_rfl)
theorem k538 : ACall Tryz.prog 140 [.val (.agg [bT, l1]), .val (.agg [bF, lF [u 2]])] ⟨[.val (.agg [bT, l1, bF, lF [u 2]])], [none, none]⟩ := ex (.cons k41 (.cons k537 (.cons k39 .nil))) (by kernel_rfl)
theorem k539 : ACall Tryz.prog 93 [.val (.agg [bF, l1, bF, l1]), .val (.agg [bT, lF [u 3], bF, lF [u 2]])] ⟨[.val (.agg [bT, l1, bF, lF [u 2]])], [none, none]⟩ := ex (.cons k137 (.cons k535 (.cons k536 (.cons k538 .nil)))) (by kernel_rfl)
theorem k540 : ACall Tryz.prog 123 [.val (.agg [bF, l1, bF, l1]), .val (.agg [bF, lF [u 3], bF, lF [u 2]])] ⟨[.val (.agg [bT, l1, bF, lF [u 2]])], [none, none]⟩ := ex (.cons k534 (.cons k539 .nil)) (by kernel_rfl)
theorem k541 : ACall Tryz.prog 155 [.val (.c (lF [u 4])), .val (.c (lF [u 3]))] ⟨[.val (.c (n64 1))], [none, none]⟩ := ex (.nil) (by kernel_rfl)
theorem k542 : ACall Tryz.prog 139 [.val (.agg [bF, lF [u 4]]), .val (.agg [bT, lF [u 3]])] ⟨[.val (.agg [bF, l1])], [none, none]⟩ := ex (.cons k541 (.cons k519 (.cons k36 .nil))) (by kernel_rfl)
theorem k543 : ACall Tryz.prog 93 [.val (.agg [bF, lF [u 2], bF, l1]), .val (.agg [bT, lF [u 3], bF, lF [u 2]])] ⟨[.val (.agg [bF, l1, bF, lF [u 2]])], [none, none]⟩ := ex (.cons k144 (.cons k535 (.cons k542 (.cons k137 (.cons k374 .nil))))) (by kernel_rfl)
theorem k544 : ACall Tryz.prog 123 [.val (.agg [bF, lF [u 2], bF, l1]), .val (.agg [bF, lF [u 3], bF, lF [u 2]])] ⟨[.val (.agg [bF, l1, bF, lF [u 2]])], [none, none]⟩ := ex (.cons k534 (.cons k543 .nil)) (by kernel_rfl)
theorem k545 : ACall Tryz.prog 73 [.val (.agg [bF, l1, bF, l1, bF, lF [u 2], bF, l1]), .val (.agg [bF, lF [u 3], bF, lF [u 2], bF, lF [u 3], bF, lF [u 2]])] ⟨[.val (.agg [bT, l1, bF, lF [u 2], bF, l1, bF, lF [u 2]])], [none, none]⟩ := ex (.cons k540 (.cons k544 .nil)) (by kernel_rfl)
theorem k546 : ACall Tryz.prog 99 [.val (.agg [bT, l1, bF, lF [u 3]]), .val (.agg [bT, l1, bF, lF [u 2]])] ⟨[.val (.agg [bF, l1, bF, lF [u 6]])], [none, none]⟩ := ex (.cons k538 (.cons k523 (.cons k134 (.cons k486 .nil)))) (by kernel_rfl)
theorem k547 : ACall Tryz.prog 99 [.val (.agg [bT, l1, bF, lF [u 3]]), .val (.agg [bF, l1, bF, lF [u 2]])] ⟨[.val (.agg [bT, l1, bF, lF [u 6]])], [none, none]⟩ := ex (.cons k538 (.cons k404 (.cons k85 (.cons k486 .nil)))) (by kernel_rfl)
theorem k548 : ACall Tryz.prog 99 [.val (.agg [bF, l1, bF, lF [u 3]]), .val (.agg [bT, l1, bF, lF [u 2]])] ⟨[.val (.agg [bT, l1, bF, lF [u 6]])], [none, none]⟩ := ex (.cons k374 (.cons k523 (.cons k130 (.cons k486 .nil)))) (by kernel_rfl)
theorem k549 : ACall Tryz.prog 99 [.val (.agg [bF, l1, bF, lF [u 3]]), .val (.agg [bF, l1, bF, lF [u 2]])] ⟨[.val (.agg [bF, l1, bF, lF [u 6]])], [none, none]⟩ := ex (.cons k374 (.cons k404 (.cons k47 (.cons k486 .nil)))) (by kernel_rfl)
theorem k550 : ACall Tryz.prog 113 [.val (.agg [bT, l1, bF, lF [u 6]])] ⟨[.val (.c (n64 (-1)))], [none]⟩ := ex (.cons k25 .nil) (by kernel_rfl)
theorem k551 : ACall Tryz.prog 113 [.val (.agg [bF, l1, bF, lF [u 6]])] ⟨[.val (.c (n64 1))], [none]⟩ := ex (.cons k23 .nil) (by kernel_rfl)
theorem k552 : ACall Tryz.prog 67 [.val (.agg [bT, l1, bF, lF [u 6]]), .val (.agg [bF, l1, bF, lF [u 6]])] ⟨[.val (.c (n64 (-1)))], [none, none]⟩ := ex (.cons k550 (.cons k551 .nil)) (by kernel_rfl)
theorem k553 : ACall Tryz.prog 119 [.val (.agg [bF, lF [u 6]])] ⟨[.val (.c (bF))], [none]⟩ := ex (.nil) (by kernel_rfl)
theorem k554 : ACall Tryz.prog 183 [.val (.c (l1)), .val (.c (lF [u 6]))] ⟨[.val (.c (lF [u 6]))], [none, none]⟩ := ex (.cons k88 .nil) (by kernel_rfl)
theorem k555 : ACall Tryz.prog 156 [.val (.agg [bT, l1]), .val (.agg [bF, lF [u 6]])] ⟨[.val (.agg [bT, lF [u 6]])], [none, none]⟩ := ex (.cons k554 (.cons k91 .nil)) (by kernel_rfl)
theorem k556 : ACall Tryz.prog 115 [.val (.c (lF [[bT, l1], [bF, lF [u 6]]]))] ⟨[.val (.agg [bT, lF [u 6]])], [none]⟩ := ex (.cons k37 (.cons k75 (.cons k39 (.cons k553 (.cons k555 .nil))))) (by kernel_rfl)
theorem k557 : ACall Tryz.prog 114 [.val (.agg [bT, lF [u 6]]), .val (.agg [bT, lF [u 6]])] ⟨[.val (.c (n64 0))], [none, none]⟩ := ex (.cons k97 (.cons k492 .nil)) (by kernel_rfl)
theorem k558 : ACall Tryz.prog 67 [.val (.agg [bT, l1, bF, lF [u 6]]), .val (.agg [bT, l1, bF, lF [u 6]])] ⟨[.val (.c (n64 0))], [none, none]⟩ := ex (.cons k550 (.cons k556 (.cons k557 .nil))) (by kernel_rfl)
theorem k559 : ACall Tryz.prog 67 [.val (.agg [bF, l1, bF, lF [u 6]]), .val (.agg [bT, l1, bF, lF [u 6]])] ⟨[.val (.c (n64 1))], [none, none]⟩ := ex (.cons k551 (.cons k550 .nil)) (by kernel_rfl)
open Go Go.Abs Go.Proofs
theorem k560 : ACall Tryz.prog 66 [.val (.c (lF [[bF, l1, bF, lF [u 6]], [bT, l1, bF, lF [u 6]], [bT, l1, bF, lF [u 6]], [bF, l1, bF, lF [u 6]]]))] ⟨[.val (.agg [bT, l1, bF, lF [u 6]])], [none]⟩ := ex (.cons k552 (.cons k558 (.cons k559 .nil))) (by kernel_rfl)
theorem k561 : ACall Tryz.prog 115 [.val (.c (lF [[bF, l1], [bF, lF [u 6]]]))] ⟨[.val (.agg [bF, lF [u 6]])], [none]⟩ := ex (.cons k37 (.cons k39 (.cons k553 .nil))) (by kernel_rfl)
theorem k562 : ACall Tryz.prog 67 [.val (.agg [bF, l1, bF, lF [u 6]]), .val (.agg [bF, l1, bF, lF [u 6]])] ⟨[.val (.c (n64 0))], [none, none]⟩ := ex (.cons k551 (.cons k561 (.cons k493 .nil))) (by kernel_rfl)
theorem k563 : ACall Tryz.prog 65 [.val (.c (lF [[bF, l1, bF, lF [u 6]], [bT, l1, bF, lF [u 6]], [bT, l1, bF, lF [u 6]], [bF, l1, bF, lF [u 6]]]))] ⟨[.val (.agg [bF, l1, bF, lF [u 6]])], [none]⟩ := ex (.cons k552 (.cons k562 .nil)) (by kernel_rfl)
theorem k564 : ACall Tryz.prog 124 [.val (.c (lF [[bF, l1, bF, lF [u 6]], [bT, l1, bF, lF [u 6]], [bT, l1, bF, lF [u 6]], [bF, l1, bF, lF [u 6]]]))] ⟨[.val (.agg [bT, l1, bF, lF [u 6], bF, l1, bF, lF [u 6]])], [none]⟩ := ex (.cons k560 (.cons k563 .nil)) (by kernel_rfl)
theorem k565 : ACall Tryz.prog 74 [.val (.agg [bT, l1, bF, lF [u 3], bF, l1, bF, lF [u 3]]), .val (.agg [bT, l1, bF, lF [u 2], bF, l1, bF, lF [u 2]])] ⟨[.val (.agg [bT, l1, bF, lF [u 6], bF, l1, bF, lF [u 6]])], [none, none]⟩ := ex (.cons k546 (.cons k547 (.cons k548 (.cons k549 (.cons k564 .nil))))) (by kernel_rfl)
theorem k566 : ACall Tryz.prog 100 [.val (.c (n64 0)), .ref [n64 0], .ref [n64 1], .ref [lF [[lF [[bF, l1, bF, lF [u 3]]]]]], .ref [lF [[lF [[bF, lF [u 2], bF, l1, bF, lF [u 4], bF, l1]]]]], .ref [bF, l1, bF, l1, bF, lF [u 2], bF, l1, bF, lF [], bF, l1, bF, lF [], bF, l1, bF, lF [], bF, l1, bF, lF [], bF, l1, bF, lF [], bF, l1, bF, lF [], bF, l1, bF, lF [], bF, l1, bF, lF [], bF, l1, bF, lF [], bF, l1, bF, lF [], bF, l1, bF, lF [], bF, l1, bF, lF [], bF, l1, bF, lF [], bF, l1, bF, lF [], bF, l1], .ref [bF, lF [u 3], bF, lF [u 2], bF, lT [], bF, l1, bF, lT [], bF, l1, bF, lT [], bF, l1, bF, lT [], bF, l1, bF, lT [], bF, l1, bF, lT [], bF, l1, bF, lT [], bF, l1]] ⟨[.val (.agg [bT, l1, bF, lF [u 6], bF, l1, bF, lF [u 6]])], [none, some (.var [.t (n64 0)]), some (.var [.t (n64 1)]), some (.var [.t (lF [[lF [[bF, l1, bF, lF [u 3]]]]])]), some (.var [.t (lF [[lF [[bF, lF [u 2], bF, l1, bF, lF [u 4], bF, l1]]]])]), some (.var [.t (bF), .t (l1), .t (bF), .t (l1), .t (bF), .t (lF [u 2]), .t (bF), .t (l1), .t (bF), .t (lF []), .t (bF), .t (l1), .t (bF), .t (lF []), .t (bF), .t (l1), .t (bF), .t (lF []), .t (bF), .t (l1), .t (bF), .t (lF []), .t (bF), .t (l1), .t (bF), .t (lF []), .t (bF), .t (l1), .t (bF), .t (lF []), .t (bF), .t (l1), .t (bF), .t (lF []), .t (bF), .t (l1), .t (bF), .t (lF []), .t (bF), .t (l1), .t (bF), .t (lF []), .t (bF), .t (l1), .t (bF), .t (lF []), .t (bF), .t (l1), .t (bF), .t (lF []), .t (bF), .t (l1), .t (bF), .t (lF []), .t (bF), .t (l1), .t (bF), .t (lF []), .t (bF), .t (l1), .t (bF), .t (lF []), .t (bF), .t (l1)]), some (.var [.t (bF), .t (lF [u 3]), .t (bF), .t (lF [u 2]), .t (bF), .t (lT []), .t (bF), .t (l1), .t (bF), .t (lT []), .t (bF), .t (l1), .t (bF), .t (lT []), .t (bF), .t (l1), .t (bF), .t (lT []), .t (bF), .t (l1), .t (bF), .t (lT []), .t (bF), .t (l1), .t (bF), .t (lT []), .t (bF), .t (l1), .t (bF), .t (lT []), .t (bF), .t (l1)])]⟩ := ex (.cons k153 (.cons k414 (.cons k129 (.cons k474 (.cons k512 (.cons k531 (.cons k532 (.cons k545 (.cons k565 .nil))))))))) (by kernel_rfl)
theorem k567 : ACall Tryz.prog 183 [.val (.c (lT [])), .val (.c (lF [u 6]))] ⟨[.val (.c (lF []))], [none, none]⟩ := ex (.cons k310 .nil) (by kernel_rfl)
theorem k568 : ACall Tryz.prog 156 [.val (.agg [bF, lT []]), .val (.agg [bF, lF [u 6]])] ⟨[.val (.agg [bF, lT []])], [none, none]⟩ := ex (.cons k567 (.cons k150 .nil)) (by kernel_rfl)
theorem k569 : ACall Tryz.prog 115 [.val (.c (lF [[bF, lT []], [bF, lF [u 6]]]))] ⟨[.val (.agg [bF, lT []])], [none]⟩ := ex (.cons k37 (.cons k328 (.cons k39 (.cons k553 (.cons k568 .nil))))) (by kernel_rfl)
theorem k570 : ACall Tryz.prog 155 [.val (.c (lT [])), .val (.c (l1))] ⟨[.val (.c (n64 (-1)))], [none, none]⟩ := ex (.nil) (by kernel_rfl)
theorem k571 : ACall Tryz.prog 171 [.val (.c (l1)), .val (.c (lT []))] ⟨[.val (.c (l1))], [none, none]⟩ := ex (.cons k35 .nil) (by kernel_rfl)
theorem k572 : ACall Tryz.prog 139 [.val (.agg [bF, lT []]), .val (.agg [bT, l1])] ⟨[.val (.agg [bT, l1])], [none, none]⟩ := ex (.cons k570 (.cons k571 (.cons k520 .nil))) (by kernel_rfl)
theorem k573 : ACall Tryz.prog 157 [.val (.c (lF [u 6]))] ⟨[.val (.c (lF [u 6]))], [none]⟩ := ex (.nil) (by kernel_rfl)
theorem k574 : ACall Tryz.prog 159 [.val (.c (lF [u 6]))] ⟨[.val (.c (w64 6))], [none]⟩ := ex (.nil) (by kernel_rfl)
theorem k575 : ACall Tryz.prog 120 [.val (.agg [bT, l1]), .val (.agg [bF, lF [u 6]])] ⟨[.val (.agg [bF, l1])], [none, none]⟩ := ex (.cons k35 (.cons k219 (.cons k90 (.cons k573 (.cons k340 (.cons k574 (.cons k34 (.cons k36 .nil)))))))) (by kernel_rfl)
theorem k576 : ACall Tryz.prog 140 [.val (.agg [bT, l1]), .val (.agg [bF, lF [u 6]])] ⟨[.val (.agg [bT, l1, bF, lF [u 6]])], [none, none]⟩ := ex (.cons k553 (.cons k575 (.cons k39 .nil))) (by kernel_rfl)
theorem k577 : ACall Tryz.prog 93 [.val (.agg [bF, lT [], bF, l1]), .val (.agg [bT, l1, bF, lF [u 6]])] ⟨[.val (.agg [bT, l1, bF, lF [u 6]])], [none, none]⟩ := ex (.cons k569 (.cons k85 (.cons k572 (.cons k561 (.cons k576 .nil))))) (by kernel_rfl)
theorem k578 : ACall Tryz.prog 120 [.val (.agg [bF, l1]), .val (.agg [bF, lF [u 6]])] ⟨[.val (.agg [bF, l1])], [none, none]⟩ := ex (.cons k35 (.cons k219 (.cons k90 (.cons k573 (.cons k340 (.cons k574 (.cons k34 (.cons k36 .nil)))))))) (by kernel_rfl)
theorem k579 : ACall Tryz.prog 140 [.val (.agg [bF, l1]), .val (.agg [bF, lF [u 6]])] ⟨[.val (.agg [bF, l1, bF, lF [u 6]])], [none, none]⟩ := ex (.cons k553 (.cons k578 (.cons k39 .nil))) (by kernel_rfl)
theorem k580 : ACall Tryz.prog 93 [.val (.agg [bF, lT [], bF, l1]), .val (.agg [bF, l1, bF, lF [u 6]])] ⟨[.val (.agg [bF, l1, bF, lF [u 6]])], [none, none]⟩ := ex (.cons k569 (.cons k47 (.cons k465 (.cons k561 (.cons k579 .nil))))) (by kernel_rfl)
theorem k581 : ACall Tryz.prog 72 [.val (.agg [bF, lT [], bF, l1, bF, lT [], bF, l1]), .val (.agg [bT, l1, bF, lF [u 6], bF, l1, bF, lF [u 6]])] ⟨[.val (.agg [bT, l1, bF, lF [u 6], bF, l1, bF, lF [u 6]])], [none, none]⟩ := ex (.cons k577 (.cons k580 .nil)) (by kernel_rfl)
theorem k582 : ACall Tryz.prog 88 [.val (.c (n64 1)), .clo 100 [(2, (0, 0)), (3, (0, 0)), (4, (0, 0)), (5, (0, 0)), (6, (0, 0)), (7, (0, 0))], .gh [n64 0], .gh [n64 1], .gh [lF [[lF [[bF, l1, bF, lF [u 3]]]]]], .gh [lF [[lF [[bF, lF [u 2], bF, l1, bF, lF [u 4], bF, l1]]]]], .gh [bF, l1, bF, l1, bF, lF [u 2], bF, l1, bF, lF [], bF, l1, bF, lF [], bF, l1, bF, lF [], bF, l1, bF, lF [], bF, l1, bF, lF [], bF, l1, bF, lF [], bF, l1, bF, lF [], bF, l1, bF, lF [], bF, l1, bF, lF [], bF, l1, bF, lF [], bF, l1, bF, lF [], bF, l1, bF, lF [], bF, l1, bF, lF [], bF, l1, bF, lF [], bF, l1], .gh [bF, lF [u 3], bF, lF [u 2], bF, lT [], bF, l1, bF, lT [], bF, l1, bF, lT [], bF, l1, bF, lT [], bF, l1, bF, lT [], bF, l1, bF, lT [], bF, l1, bF, lT [], bF, l1]] ⟨[.val (.agg [bT, l1, bF, lF [u 6], bF, l1, bF, lF [u 6]])], [none, none, some (.var [.t (n64 0)]), some (.var [.t (n64 1)]), some (.var [.t (lF [[lF [[bF, l1, bF, lF [u 3]]]]])]), some (.var [.t (lF [[lF [[bF, lF [u 2], bF, l1, bF, lF [u 4], bF, l1]]]])]), some (.var [.t (bF), .t (l1), .t (bF), .t (l1), .t (bF), .t (lF [u 2]), .t (bF), .t (l1), .t (bF), .t (lF []), .t (bF), .t (l1), .t (bF), .t (lF []), .t (bF), .t (l1), .t (bF), .t (lF []), .t (bF), .t (l1), .t (bF), .t (lF []), .t (bF), .t (l1), .t (bF), .t (lF []), .t (bF), .t (l1), .t (bF), .t (lF []), .t (bF), .t (l1), .t (bF), .t (lF []), .t (bF), .t (l1), .t (bF), .t (lF []), .t (bF), .t (l1), .t (bF), .t (lF []), .t (bF), .t (l1), .t (bF), .t (lF []), .t (bF), .t (l1), .t (bF), .t (lF []), .t (bF), .t (l1), .t (bF), .t (lF []), .t (bF), .t (l1), .t (bF), .t (lF []), .t (bF), .t (l1), .t (bF), .t (lF []), .t (bF), .t (l1)]), some (.var [.t (bF), .t (lF [u 3]), .t (bF), .t (lF [u 2]), .t (bF), .t (lT []), .t (bF), .t (l1), .t (bF), .t (lT []), .t (bF), .t (l1), .t (bF), .t (lT []), .t (bF), .t (l1), .t (bF), .t (lT []), .t (bF), .t (l1), .t (bF), .t (lT []), .t (bF), .t (l1), .t (bF), .t (lT []), .t (bF), .t (l1), .t (bF), .t (lT []), .t (bF), .t (l1)])]⟩ := ex (.cons k153 (.cons k414 (.cons k566 (.cons k581 .nil)))) (by kernel_rfl)
theorem k583 : ACall Tryz.prog 169 [.val (.agg [bF, l1])] ⟨[.val (.agg [bT, l1])], [none]⟩ := ex (.cons k219 (.cons k520 .nil)) (by kernel_rfl)
theorem k584 : ACall Tryz.prog 164 [.val (.agg [bF, l1, bF, lF [u 12]])] ⟨[.val (.agg [bT, l1, bF, lF [u 12]])], [none]⟩ := ex (.cons k583 .nil) (by kernel_rfl)
theorem k585 : ACall Tryz.prog 158 [.val (.c (lF [u 36, u 0]))] ⟨[.val (.c (lF [u 36]))], [none]⟩ := ex (.nil) (by kernel_rfl)
theorem k586 : ACall Tryz.prog 183 [.val (.c (lF [u 3])), .val (.c (lF [u 12]))] ⟨[.val (.c (lF [u 36]))], [none, none]⟩ := ex (.cons k585 .nil) (by kernel_rfl)
theorem k587 : ACall Tryz.prog 158 [.val (.c (lF [u 36]))] ⟨[.val (.c (lF [u 36]))], [none]⟩ := ex (.nil) (by kernel_rfl)
theorem k588 : ACall Tryz.prog 160 [.val (.c (bF)), .val (.c (lF [u 36]))] ⟨[.val (.agg [bF, lF [u 36]])], [none, none]⟩ := ex (.cons k587 .nil) (by kernel_rfl)
theorem k589 : ACall Tryz.prog 156 [.val (.agg [bF, lF [u 3]]), .val (.agg [bF, lF [u 12]])] ⟨[.val (.agg [bF, lF [u 36]])], [none, none]⟩ := ex (.cons k586 (.cons k588 .nil)) (by kernel_rfl)
theorem k590 : ACall Tryz.prog 115 [.val (.c (lF [[bF, lF [u 3]], [bF, lF [u 12]]]))] ⟨[.val (.agg [bF, lF [u 36]])], [none]⟩ := ex (.cons k37 (.cons k63 (.cons k39 (.cons k460 (.cons k589 .nil))))) (by kernel_rfl)
theorem k591 : ACall Tryz.prog 183 [.val (.c (l1)), .val (.c (lF [u 2]))] ⟨[.val (.c (lF [u 2]))], [none, none]⟩ := ex (.cons k188 .nil) (by kernel_rfl)
theorem k592 : ACall Tryz.prog 156 [.val (.agg [bT, l1]), .val (.agg [bF, lF [u 2]])] ⟨[.val (.agg [bT, lF [u 2]])], [none, none]⟩ := ex (.cons k591 (.cons k191 .nil)) (by kernel_rfl)
theorem k593 : ACall Tryz.prog 115 [.val (.c (lF [[bT, l1], [bF, lF [u 2]]]))] ⟨[.val (.agg [bT, lF [u 2]])], [none]⟩ := ex (.cons k37 (.cons k75 (.cons k39 (.cons k41 (.cons k592 .nil))))) (by kernel_rfl)
theorem k594 : ACall Tryz.prog 155 [.val (.c (lF [u 36])), .val (.c (lF [u 2]))] ⟨[.val (.c (n64 1))], [none, none]⟩ := ex (.nil) (by kernel_rfl)
theorem k595 : ACall Tryz.prog 158 [.val (.c (lF [u 34]))] ⟨[.val (.c (lF [u 34]))], [none]⟩ := ex (.nil) (by kernel_rfl)
theorem k596 : ACall Tryz.prog 171 [.val (.c (lF [u 36])), .val (.c (lF [u 2]))] ⟨[.val (.c (lF [u 34]))], [none, none]⟩ := ex (.cons k595 .nil) (by kernel_rfl)
theorem k597 : ACall Tryz.prog 160 [.val (.c (bF)), .val (.c (lF [u 34]))] ⟨[.val (.agg [bF, lF [u 34]])], [none, none]⟩ := ex (.cons k595 .nil) (by kernel_rfl)
theorem k598 : ACall Tryz.prog 139 [.val (.agg [bF, lF [u 36]]), .val (.agg [bT, lF [u 2]])] ⟨[.val (.agg [bF, lF [u 34]])], [none, none]⟩ := ex (.cons k594 (.cons k596 (.cons k597 .nil))) (by kernel_rfl)
theorem k599 : ACall Tryz.prog 158 [.val (.c (lF [u 24, u 0]))] ⟨[.val (.c (lF [u 24]))], [none]⟩ := ex (.nil) (by kernel_rfl)
theorem k600 : ACall Tryz.prog 183 [.val (.c (lF [u 2])), .val (.c (lF [u 12]))] ⟨[.val (.c (lF [u 24]))], [none, none]⟩ := ex (.cons k599 .nil) (by kernel_rfl)
theorem k601 : ACall Tryz.prog 158 [.val (.c (lF [u 24]))] ⟨[.val (.c (lF [u 24]))], [none]⟩ := ex (.nil) (by kernel_rfl)
theorem k602 : ACall Tryz.prog 160 [.val (.c (bF)), .val (.c (lF [u 24]))] ⟨[.val (.agg [bF, lF [u 24]])], [none, none]⟩ := ex (.cons k601 .nil) (by kernel_rfl)
theorem k603 : ACall Tryz.prog 156 [.val (.agg [bF, lF [u 2]]), .val (.agg [bF, lF [u 12]])] ⟨[.val (.agg [bF, lF [u 24]])], [none, none]⟩ := ex (.cons k600 (.cons k602 .nil)) (by kernel_rfl)
theorem k604 : ACall Tryz.prog 115 [.val (.c (lF [[bF, lF [u 2]], [bF, lF [u 12]]]))] ⟨[.val (.agg [bF, lF [u 24]])], [none]⟩ := ex (.cons k37 (.cons k41 (.cons k39 (.cons k460 (.cons k603 .nil))))) (by kernel_rfl)
theorem k605 : ACall Tryz.prog 119 [.val (.agg [bF, lF [u 24]])] ⟨[.val (.c (bF))], [none]⟩ := ex (.nil) (by kernel_rfl)
theorem k606 : ACall Tryz.prog 157 [.val (.c (lF [u 34]))] ⟨[.val (.c (lF [u 34]))], [none]⟩ := ex (.nil) (by kernel_rfl)
theorem k607 : ACall Tryz.prog 157 [.val (.c (lF [u 24]))] ⟨[.val (.c (lF [u 24]))], [none]⟩ := ex (.nil) (by kernel_rfl)
theorem k608 : ACall Tryz.prog 159 [.val (.c (lF [u 34]))] ⟨[.val (.c (w64 34))], [none]⟩ := ex (.nil) (by kernel_rfl)
theorem k609 : ACall Tryz.prog 159 [.val (.c (lF [u 24]))] ⟨[.val (.c (w64 24))], [none]⟩ := ex (.nil) (by kernel_rfl)
theorem k610 : ACall Tryz.prog 120 [.val (.agg [bF, lF [u 34]]), .val (.agg [bF, lF [u 24]])] ⟨[.val (.agg [bF, lF [u 2]])], [none, none]⟩ := ex (.cons k595 (.cons k606 (.cons k601 (.cons k607 (.cons k608 (.cons k609 (.cons k295 (.cons k296 .nil)))))))) (by kernel_rfl)
theorem k611 : ACall Tryz.prog 155 [.val (.c (lF [u 34])), .val (.c (lF [u 2]))] ⟨[.val (.c (n64 1))], [none, none]⟩ := ex (.nil) (by kernel_rfl)
theorem k612 : ACall Tryz.prog 158 [.val (.c (lF [u 17]))] ⟨[.val (.c (lF [u 17]))], [none]⟩ := ex (.nil) (by kernel_rfl)
theorem k613 : ACall Tryz.prog 184 [.val (.c (lF [u 34])), .val (.c (w64 2))] ⟨[.val (.c (lF [u 17])), .val (.c (w64 0))], [none, none]⟩ := ex (.cons k612 .nil) (by kernel_rfl)
theorem k614 : ACall Tryz.prog 162 [.val (.c (lF [u 34])), .val (.c (lF [u 2]))] ⟨[.val (.c (lF [u 17])), .val (.c (lF []))], [none, none]⟩ := ex (.cons k595 (.cons k190 (.cons k611 (.cons k613 (.cons k148 .nil))))) (by kernel_rfl)
theorem k615 : ACall Tryz.prog 160 [.val (.c (bF)), .val (.c (lF [u 17]))] ⟨[.val (.agg [bF, lF [u 17]])], [none, none]⟩ := ex (.cons k612 .nil) (by kernel_rfl)
theorem k616 : ACall Tryz.prog 172 [.val (.agg [bF, lF [u 34]]), .val (.agg [bF, lF [u 2]])] ⟨[.val (.agg [bF, lF [u 17]]), .val (.agg [bF, lT []]), .val (.c (n64 0))], [none, none]⟩ := ex (.cons k190 (.cons k614 (.cons k615 (.cons k150 .nil)))) (by kernel_rfl)
theorem k617 : ACall Tryz.prog 155 [.val (.c (lF [u 24])), .val (.c (lF [u 2]))] ⟨[.val (.c (n64 1))], [none, none]⟩ := ex (.nil) (by kernel_rfl)
theorem k618 : ACall Tryz.prog 184 [.val (.c (lF [u 24])), .val (.c (w64 2))] ⟨[.val (.c (lF [u 12])), .val (.c (w64 0))], [none, none]⟩ := ex (.cons k453 .nil) (by kernel_rfl)
theorem k619 : ACall Tryz.prog 162 [.val (.c (lF [u 24])), .val (.c (lF [u 2]))] ⟨[.val (.c (lF [u 12])), .val (.c (lF []))], [none, none]⟩ := ex (.cons k601 (.cons k190 (.cons k617 (.cons k618 (.cons k148 .nil))))) (by kernel_rfl)
theorem k620 : ACall Tryz.prog 172 [.val (.agg [bF, lF [u 24]]), .val (.agg [bF, lF [u 2]])] ⟨[.val (.agg [bF, lF [u 12]]), .val (.agg [bF, lT []]), .val (.c (n64 0))], [none, none]⟩ := ex (.cons k190 (.cons k619 (.cons k454 (.cons k150 .nil)))) (by kernel_rfl)
theorem k621 : ACall Tryz.prog 140 [.val (.agg [bF, lF [u 34]]), .val (.agg [bF, lF [u 24]])] ⟨[.val (.agg [bF, lF [u 17], bF, lF [u 12]])], [none, none]⟩ := ex (.cons k605 (.cons k610 (.cons k41 (.cons k616 (.cons k620 .nil))))) (by kernel_rfl)
theorem k622 : ACall Tryz.prog 93 [.val (.agg [bF, lF [u 3], bF, lF [u 2]]), .val (.agg [bT, l1, bF, lF [u 12]])] ⟨[.val (.agg [bF, lF [u 17], bF, lF [u 12]])], [none, none]⟩ := ex (.cons k590 (.cons k593 (.cons k598 (.cons k604 (.cons k621 .nil))))) (by kernel_rfl)
theorem k623 : ACall Tryz.prog 123 [.val (.agg [bF, lF [u 3], bF, lF [u 2]]), .val (.agg [bF, l1, bF, lF [u 12]])] ⟨[.val (.agg [bF, lF [u 17], bF, lF [u 12]])], [none, none]⟩ := ex (.cons k584 (.cons k622 .nil)) (by kernel_rfl)
theorem k624 : ACall Tryz.prog 73 [.val (.agg [bF, lF [u 3], bF, lF [u 2], bF, lF [u 3], bF, lF [u 2]]), .val (.agg [bF, l1, bF, lF [u 12], bF, l1, bF, lF [u 12]])] ⟨[.val (.agg [bF, lF [u 17], bF, lF [u 12], bF, lF [u 17], bF, lF [u 12]])], [none, none]⟩ := ex (.cons k623 .nil) (by kernel_rfl)
theorem k625 : ACall Tryz.prog 119 [.val (.agg [bF, lF [u 17]])] ⟨[.val (.c (bF))], [none]⟩ := ex (.nil) (by kernel_rfl)
theorem k626 : ACall Tryz.prog 158 [.val (.c (lF [u 102, u 0]))] ⟨[.val (.c (lF [u 102]))], [none]⟩ := ex (.nil) (by kernel_rfl)
theorem k627 : ACall Tryz.prog 183 [.val (.c (lF [u 17])), .val (.c (lF [u 6]))] ⟨[.val (.c (lF [u 102]))], [none, none]⟩ := ex (.cons k626 .nil) (by kernel_rfl)
theorem k628 : ACall Tryz.prog 158 [.val (.c (lF [u 102]))] ⟨[.val (.c (lF [u 102]))], [none]⟩ := ex (.nil) (by kernel_rfl)
theorem k629 : ACall Tryz.prog 160 [.val (.c (bF)), .val (.c (lF [u 102]))] ⟨[.val (.agg [bF, lF [u 102]])], [none, none]⟩ := ex (.cons k628 .nil) (by kernel_rfl)
theorem k630 : ACall Tryz.prog 156 [.val (.agg [bF, lF [u 17]]), .val (.agg [bF, lF [u 6]])] ⟨[.val (.agg [bF, lF [u 102]])], [none, none]⟩ := ex (.cons k627 (.cons k629 .nil)) (by kernel_rfl)
theorem k631 : ACall Tryz.prog 115 [.val (.c (lF [[bF, lF [u 17]], [bF, lF [u 6]]]))] ⟨[.val (.agg [bF, lF [u 102]])], [none]⟩ := ex (.cons k37 (.cons k625 (.cons k39 (.cons k553 (.cons k630 .nil))))) (by kernel_rfl)
theorem k632 : ACall Tryz.prog 183 [.val (.c (l1)), .val (.c (lF [u 12]))] ⟨[.val (.c (lF [u 12]))], [none, none]⟩ := ex (.cons k451 .nil) (by kernel_rfl)
theorem k633 : ACall Tryz.prog 160 [.val (.c (bT)), .val (.c (lF [u 12]))] ⟨[.val (.agg [bT, lF [u 12]])], [none, none]⟩ := ex (.cons k453 .nil) (by kernel_rfl)
theorem k634 : ACall Tryz.prog 156 [.val (.agg [bT, l1]), .val (.agg [bF, lF [u 12]])] ⟨[.val (.agg [bT, lF [u 12]])], [none, none]⟩ := ex (.cons k632 (.cons k633 .nil)) (by kernel_rfl)
theorem k635 : ACall Tryz.prog 115 [.val (.c (lF [[bT, l1], [bF, lF [u 12]]]))] ⟨[.val (.agg [bT, lF [u 12]])], [none]⟩ := ex (.cons k37 (.cons k75 (.cons k39 (.cons k460 (.cons k634 .nil))))) (by kernel_rfl)
theorem k636 : ACall Tryz.prog 155 [.val (.c (lF [u 102])), .val (.c (lF [u 12]))] ⟨[.val (.c (n64 1))], [none, none]⟩ := ex (.nil) (by kernel_rfl)
theorem k637 : ACall Tryz.prog 158 [.val (.c (lF [u 90]))] ⟨[.val (.c (lF [u 90]))], [none]⟩ := ex (.nil) (by kernel_rfl)
theorem k638 : ACall Tryz.prog 171 [.val (.c (lF [u 102])), .val (.c (lF [u 12]))] ⟨[.val (.c (lF [u 90]))], [none, none]⟩ := ex (.cons k637 .nil) (by kernel_rfl)
theorem k639 : ACall Tryz.prog 160 [.val (.c (bF)), .val (.c (lF [u 90]))] ⟨[.val (.agg [bF, lF [u 90]])], [none, none]⟩ := ex (.cons k637 .nil) (by kernel_rfl)
theorem k640 : ACall Tryz.prog 139 [.val (.agg [bF, lF [u 102]]), .val (.agg [bT, lF [u 12]])] ⟨[.val (.agg [bF, lF [u 90]])], [none, none]⟩ := ex (.cons k636 (.cons k638 (.cons k639 .nil))) (by kernel_rfl)
theorem k641 : ACall Tryz.prog 158 [.val (.c (lF [u 72, u 0]))] ⟨[.val (.c (lF [u 72]))], [none]⟩ := ex (.nil) (by kernel_rfl)
theorem k642 : ACall Tryz.prog 183 [.val (.c (lF [u 12])), .val (.c (lF [u 6]))] ⟨[.val (.c (lF [u 72]))], [none, none]⟩ := ex (.cons k641 .nil) (by kernel_rfl)
theorem k643 : ACall Tryz.prog 158 [.val (.c (lF [u 72]))] ⟨[.val (.c (lF [u 72]))], [none]⟩ := ex (.nil) (by kernel_rfl)
theorem k644 : ACall Tryz.prog 160 [.val (.c (bF)), .val (.c (lF [u 72]))] ⟨[.val (.agg [bF, lF [u 72]])], [none, none]⟩ := ex (.cons k643 .nil) (by kernel_rfl)
theorem k645 : ACall Tryz.prog 156 [.val (.agg [bF, lF [u 12]]), .val (.agg [bF, lF [u 6]])] ⟨[.val (.agg [bF, lF [u 72]])], [none, none]⟩ := ex (.cons k642 (.cons k644 .nil)) (by kernel_rfl)
theorem k646 : ACall Tryz.prog 115 [.val (.c (lF [[bF, lF [u 12]], [bF, lF [u 6]]]))] ⟨[.val (.agg [bF, lF [u 72]])], [none]⟩ := ex (.cons k37 (.cons k460 (.cons k39 (.cons k553 (.cons k645 .nil))))) (by kernel_rfl)
theorem k647 : ACall Tryz.prog 119 [.val (.agg [bF, lF [u 72]])] ⟨[.val (.c (bF))], [none]⟩ := ex (.nil) (by kernel_rfl)
theorem k648 : ACall Tryz.prog 157 [.val (.c (lF [u 90]))] ⟨[.val (.c (lF [u 90]))], [none]⟩ := ex (.nil) (by kernel_rfl)
theorem k649 : ACall Tryz.prog 157 [.val (.c (lF [u 72]))] ⟨[.val (.c (lF [u 72]))], [none]⟩ := ex (.nil) (by kernel_rfl)
theorem k650 : ACall Tryz.prog 159 [.val (.c (lF [u 90]))] ⟨[.val (.c (w64 90))], [none]⟩ := ex (.nil) (by kernel_rfl)
theorem k651 : ACall Tryz.prog 159 [.val (.c (lF [u 72]))] ⟨[.val (.c (w64 72))], [none]⟩ := ex (.nil) (by kernel_rfl)
theorem k652 : ACall Tryz.prog 158 [.val (.c (lF [u 18, u 0]))] ⟨[.val (.c (lF [u 18]))], [none]⟩ := ex (.nil) (by kernel_rfl)
theorem k653 : ACall Tryz.prog 161 [.val (.c (w64 18))] ⟨[.val (.c (lF [u 18]))], [none]⟩ := ex (.cons k652 .nil) (by kernel_rfl)
theorem k654 : ACall Tryz.prog 158 [.val (.c (lF [u 18]))] ⟨[.val (.c (lF [u 18]))], [none]⟩ := ex (.nil) (by kernel_rfl)
theorem k655 : ACall Tryz.prog 160 [.val (.c (bF)), .val (.c (lF [u 18]))] ⟨[.val (.agg [bF, lF [u 18]])], [none, none]⟩ := ex (.cons k654 .nil) (by kernel_rfl)
theorem k656 : ACall Tryz.prog 120 [.val (.agg [bF, lF [u 90]]), .val (.agg [bF, lF [u 72]])] ⟨[.val (.agg [bF, lF [u 18]])], [none, none]⟩ := ex (.cons k637 (.cons k648 (.cons k643 (.cons k649 (.cons k650 (.cons k651 (.cons k653 (.cons k655 .nil)))))))) (by kernel_rfl)
theorem k657 : ACall Tryz.prog 119 [.val (.agg [bF, lF [u 18]])] ⟨[.val (.c (bF))], [none]⟩ := ex (.nil) (by kernel_rfl)
theorem k658 : ACall Tryz.prog 155 [.val (.c (lF [u 90])), .val (.c (lF [u 18]))] ⟨[.val (.c (n64 1))], [none, none]⟩ := ex (.nil) (by kernel_rfl)
theorem k659 : ACall Tryz.prog 158 [.val (.c (lF [u 5]))] ⟨[.val (.c (lF [u 5]))], [none]⟩ := ex (.nil) (by kernel_rfl)
theorem k660 : ACall Tryz.prog 184 [.val (.c (lF [u 90])), .val (.c (w64 18))] ⟨[.val (.c (lF [u 5])), .val (.c (w64 0))], [none, none]⟩ := ex (.cons k659 .nil) (by kernel_rfl)
theorem k661 : ACall Tryz.prog 162 [.val (.c (lF [u 90])), .val (.c (lF [u 18]))] ⟨[.val (.c (lF [u 5])), .val (.c (lF []))], [none, none]⟩ := ex (.cons k637 (.cons k654 (.cons k658 (.cons k660 (.cons k148 .nil))))) (by kernel_rfl)
theorem k662 : ACall Tryz.prog 160 [.val (.c (bF)), .val (.c (lF [u 5]))] ⟨[.val (.agg [bF, lF [u 5]])], [none, none]⟩ := ex (.cons k659 .nil) (by kernel_rfl)
theorem k663 : ACall Tryz.prog 172 [.val (.agg [bF, lF [u 90]]), .val (.agg [bF, lF [u 18]])] ⟨[.val (.agg [bF, lF [u 5]]), .val (.agg [bF, lT []]), .val (.c (n64 0))], [none, none]⟩ := ex (.cons k654 (.cons k661 (.cons k662 (.cons k150 .nil)))) (by kernel_rfl)
theorem k664 : ACall Tryz.prog 155 [.val (.c (lF [u 72])), .val (.c (lF [u 18]))] ⟨[.val (.c (n64 1))], [none, none]⟩ := ex (.nil) (by kernel_rfl)
theorem k665 : ACall Tryz.prog 184 [.val (.c (lF [u 72])), .val (.c (w64 18))] ⟨[.val (.c (lF [u 4])), .val (.c (w64 0))], [none, none]⟩ := ex (.cons k141 .nil) (by kernel_rfl)
theorem k666 : ACall Tryz.prog 162 [.val (.c (lF [u 72])), .val (.c (lF [u 18]))] ⟨[.val (.c (lF [u 4])), .val (.c (lF []))], [none, none]⟩ := ex (.cons k643 (.cons k654 (.cons k664 (.cons k665 (.cons k148 .nil))))) (by kernel_rfl)
theorem k667 : ACall Tryz.prog 172 [.val (.agg [bF, lF [u 72]]), .val (.agg [bF, lF [u 18]])] ⟨[.val (.agg [bF, lF [u 4]]), .val (.agg [bF, lT []]), .val (.c (n64 0))], [none, none]⟩ := ex (.cons k654 (.cons k666 (.cons k142 (.cons k150 .nil)))) (by kernel_rfl)
theorem k668 : ACall Tryz.prog 140 [.val (.agg [bF, lF [u 90]]), .val (.agg [bF, lF [u 72]])] ⟨[.val (.agg [bF, lF [u 5], bF, lF [u 4]])], [none, none]⟩ := ex (.cons k647 (.cons k656 (.cons k657 (.cons k663 (.cons k667 .nil))))) (by kernel_rfl)
theorem k669 : ACall Tryz.prog 93 [.val (.agg [bF, lF [u 17], bF, lF [u 12]]), .val (.agg [bT, l1, bF, lF [u 6]])] ⟨[.val (.agg [bF, lF [u 5], bF, lF [u 4]])], [none, none]⟩ := ex (.cons k631 (.cons k635 (.cons k640 (.cons k646 (.cons k668 .nil))))) (by kernel_rfl)
theorem k670 : ACall Tryz.prog 158 [.val (.c (lF [u 114, u 0]))] ⟨[.val (.c (lF [u 114]))], [none]⟩ := ex (.nil) (by kernel_rfl)
theorem k671 : ACall Tryz.prog 170 [.val (.c (lF [u 102])), .val (.c (lF [u 12]))] ⟨[.val (.c (lF [u 114]))], [none, none]⟩ := ex (.cons k670 .nil) (by kernel_rfl)
theorem k672 : ACall Tryz.prog 158 [.val (.c (lF [u 114]))] ⟨[.val (.c (lF [u 114]))], [none]⟩ := ex (.nil) (by kernel_rfl)
theorem k673 : ACall Tryz.prog 160 [.val (.c (bF)), .val (.c (lF [u 114]))] ⟨[.val (.agg [bF, lF [u 114]])], [none, none]⟩ := ex (.cons k672 .nil) (by kernel_rfl)
theorem k674 : ACall Tryz.prog 139 [.val (.agg [bF, lF [u 102]]), .val (.agg [bF, lF [u 12]])] ⟨[.val (.agg [bF, lF [u 114]])], [none, none]⟩ := ex (.cons k671 (.cons k673 .nil)) (by kernel_rfl)
theorem k675 : ACall Tryz.prog 157 [.val (.c (lF [u 114]))] ⟨[.val (.c (lF [u 114]))], [none]⟩ := ex (.nil) (by kernel_rfl)
theorem k676 : ACall Tryz.prog 159 [.val (.c (lF [u 114]))] ⟨[.val (.c (w64 114))], [none]⟩ := ex (.nil) (by kernel_rfl)
theorem k677 : ACall Tryz.prog 161 [.val (.c (w64 6))] ⟨[.val (.c (lF [u 6]))], [none]⟩ := ex (.cons k88 .nil) (by kernel_rfl)
theorem k678 : ACall Tryz.prog 120 [.val (.agg [bF, lF [u 114]]), .val (.agg [bF, lF [u 72]])] ⟨[.val (.agg [bF, lF [u 6]])], [none, none]⟩ := ex (.cons k672 (.cons k675 (.cons k643 (.cons k649 (.cons k676 (.cons k651 (.cons k677 (.cons k484 .nil)))))))) (by kernel_rfl)
theorem k679 : ACall Tryz.prog 155 [.val (.c (lF [u 114])), .val (.c (lF [u 6]))] ⟨[.val (.c (n64 1))], [none, none]⟩ := ex (.nil) (by kernel_rfl)
theorem k680 : ACall Tryz.prog 158 [.val (.c (lF [u 19]))] ⟨[.val (.c (lF [u 19]))], [none]⟩ := ex (.nil) (by kernel_rfl)
theorem k681 : ACall Tryz.prog 184 [.val (.c (lF [u 114])), .val (.c (w64 6))] ⟨[.val (.c (lF [u 19])), .val (.c (w64 0))], [none, none]⟩ := ex (.cons k680 .nil) (by kernel_rfl)
theorem k682 : ACall Tryz.prog 162 [.val (.c (lF [u 114])), .val (.c (lF [u 6]))] ⟨[.val (.c (lF [u 19])), .val (.c (lF []))], [none, none]⟩ := ex (.cons k672 (.cons k90 (.cons k679 (.cons k681 (.cons k148 .nil))))) (by kernel_rfl)
theorem k683 : ACall Tryz.prog 160 [.val (.c (bF)), .val (.c (lF [u 19]))] ⟨[.val (.agg [bF, lF [u 19]])], [none, none]⟩ := ex (.cons k680 .nil) (by kernel_rfl)
theorem k684 : ACall Tryz.prog 172 [.val (.agg [bF, lF [u 114]]), .val (.agg [bF, lF [u 6]])] ⟨[.val (.agg [bF, lF [u 19]]), .val (.agg [bF, lT []]), .val (.c (n64 0))], [none, none]⟩ := ex (.cons k90 (.cons k682 (.cons k683 (.cons k150 .nil)))) (by kernel_rfl)
theorem k685 : ACall Tryz.prog 155 [.val (.c (lF [u 72])), .val (.c (lF [u 6]))] ⟨[.val (.c (n64 1))], [none, none]⟩ := ex (.nil) (by kernel_rfl)
theorem k686 : ACall Tryz.prog 184 [.val (.c (lF [u 72])), .val (.c (w64 6))] ⟨[.val (.c (lF [u 12])), .val (.c (w64 0))], [none, none]⟩ := ex (.cons k453 .nil) (by kernel_rfl)
theorem k687 : ACall Tryz.prog 162 [.val (.c (lF [u 72])), .val (.c (lF [u 6]))] ⟨[.val (.c (lF [u 12])), .val (.c (lF []))], [none, none]⟩ := ex (.cons k643 (.cons k90 (.cons k685 (.cons k686 (.cons k148 .nil))))) (by kernel_rfl)
theorem k688 : ACall Tryz.prog 172 [.val (.agg [bF, lF [u 72]]), .val (.agg [bF, lF [u 6]])] ⟨[.val (.agg [bF, lF [u 12]]), .val (.agg [bF, lT []]), .val (.c (n64 0))], [none, none]⟩ := ex (.cons k90 (.cons k687 (.cons k454 (.cons k150 .nil)))) (by kernel_rfl)
theorem k689 : ACall Tryz.prog 140 [.val (.agg [bF, lF [u 114]]), .val (.agg [bF, lF [u 72]])] ⟨[.val (.agg [bF, lF [u 19], bF, lF [u 12]])], [none, none]⟩ := ex (.cons k647 (.cons k678 (.cons k553 (.cons k684 (.cons k688 .nil))))) (by kernel_rfl)
theorem k690 : ACall Tryz.prog 93 [.val (.agg [bF, lF [u 17], bF, lF [u 12]]), .val (.agg [bF, l1, bF, lF [u 6]])] ⟨[.val (.agg [bF, lF [u 19], bF, lF [u 12]])], [none, none]⟩ := ex (.cons k631 (.cons k466 (.cons k674 (.cons k646 (.cons k689 .nil))))) (by kernel_rfl)
theorem k691 : ACall Tryz.prog 72 [.val (.agg [bF, lF [u 17], bF, lF [u 12], bF, lF [u 17], bF, lF [u 12]]), .val (.agg [bT, l1, bF, lF [u 6], bF, l1, bF, lF [u 6]])] ⟨[.val (.agg [bF, lF [u 5], bF, lF [u 4], bF, lF [u 19], bF, lF [u 12]])], [none, none]⟩ := ex (.cons k669 (.cons k690 .nil)) (by kernel_rfl)
theorem k692 : ACall Tryz.prog 42 [.val (.c (lF [[lF [[bF, l1, bF, l1, n64 2, n64 0, n64 0, n64 0, n64 0, n64 0, n64 0, n64 0], [bT, lF [u 2], bF, l1, n64 0, n64 0, n64 0, n64 0, n64 0, n64 0, n64 0, n64 0]]]])), .val (.c (n64 1)), .val (.agg [bF, l1, bF, l1, bF, lF [u 2], bF, l1, bF, lF [], bF, l1, bF, lF [], bF, l1, bF, lF [], bF, l1, bF, lF [], bF, l1, bF, lF [], bF, l1, bF, lF [], bF, l1, bF, lF [], bF, l1, bF, lF [], bF, l1, bF, lF [], bF, l1, bF, lF [], bF, l1, bF, lF [], bF, l1, bF, lF [], bF, l1, bF, lF [], bF, l1, bF, lF [], bF, l1])] ⟨[.val (.agg [bF, lF [u 5], bF, lF [u 4], bF, lF [u 19], bF, lF [u 12], bF, lF [], bF, l1, bF, lF [], bF, l1, bF, lF [], bF, l1, bF, lF [], bF, l1, bF, lF [], bF, l1, bF, lF [], bF, l1, bF, lF [], bF, l1, bF, lF [], bF, l1, bF, lF [], bF, l1, bF, lF [], bF, l1, bF, lF [], bF, l1, bF, lF [], bF, l1, bF, lF [], bF, l1, bF, lF [], bF, l1]), .val (.c (n64 0))], [none, none, none]⟩ := ex (.cons k292 (.cons k294 (.cons k299 (.cons k307 (.cons k314 (.cons k331 (.cons k371 (.cons k372 (.cons k384 (.cons k413 (.cons k450 (.cons k473 (.cons k582 (.cons k532 (.cons k624 (.cons k691 .nil)))))))))))))))) (by kernel_rfl)
theorem k693 : ACall Tryz.prog 42 [.val (.c (lF [[lF [[bF, l1, bF, l1, n64 2, n64 0, n64 0, n64 0, n64 0, n64 0, n64 0, n64 0], [bT, lF [u 2], bF, l1, n64 0, n64 0, n64 0, n64 0, n64 0, n64 0, n64 0, n64 0]]]])), .val (.c (n64 2)), .val (.agg [bF, l1, bF, l1, bF, lF [u 2], bF, l1, bF, lF [], bF, l1, bF, lF [], bF, l1, bF, lF [], bF, l1, bF, lF [], bF, l1, bF, lF [], bF, l1, bF, lF [], bF, l1, bF, lF [], bF, l1, bF, lF [], bF, l1, bF, lF [], bF, l1, bF, lF [], bF, l1, bF, lF [], bF, l1, bF, lF [], bF, l1, bF, lF [], bF, l1, bF, lF [], bF, l1])] ⟨[.val (.agg [bF, lT [], bF, lT [], bF, lT [], bF, lT [], bF, lT [], bF, lT [], bF, lT [], bF, lT [], bF, lT [], bF, lT [], bF, lT [], bF, lT [], bF, lT [], bF, lT [], bF, lT [], bF, lT [], bF, lT [], bF, lT [], bF, lT [], bF, lT [], bF, lT [], bF, lT [], bF, lT [], bF, lT [], bF, lT [], bF, lT [], bF, lT [], bF, lT [], bF, lT [], bF, lT [], bF, lT [], bF, lT []]), .val (.c (n64 1))], [none, none, none]⟩ := ex (.nil) (by kernel_rfl)
theorem k694 : ACall Tryz.prog 130 [.val (.c (lF [u 5])), .val (.c (l1))] ⟨[.val (.c (lF [u 5]))], [none, none]⟩ := ex (.cons k16 .nil) (by kernel_rfl)
theorem k695 : ACall Tryz.prog 79 [.val (.agg [bF, lF [u 5]]), .val (.agg [bF, l1])] ⟨[.val (.agg [bF, lF [u 5]])], [none, none]⟩ := ex (.cons k694 (.cons k19 .nil)) (by kernel_rfl)
theorem k696 : ACall Tryz.prog 130 [.val (.c (l1)), .val (.c (lF [u 4]))] ⟨[.val (.c (lF [u 4]))], [none, none]⟩ := ex (.cons k176 .nil) (by kernel_rfl)
theorem k697 : ACall Tryz.prog 79 [.val (.agg [bF, l1]), .val (.agg [bF, lF [u 4]])] ⟨[.val (.agg [bF, lF [u 4]])], [none, none]⟩ := ex (.cons k696 (.cons k179 .nil)) (by kernel_rfl)
theorem k698 : ACall Tryz.prog 107 [.val (.agg [bF, lF [u 4]])] ⟨[.val (.c (n64 1))], [none]⟩ := ex (.nil) (by kernel_rfl)
theorem k699 : ACall Tryz.prog 167 [.val (.c (lF [u 5])), .val (.c (n64 1))] ⟨[.val (.c (w64 0))], [none, none]⟩ := ex (.nil) (by kernel_rfl)
end Go.Proofs.YtpgbejgdmgpfjaaGreat.Mem
end
