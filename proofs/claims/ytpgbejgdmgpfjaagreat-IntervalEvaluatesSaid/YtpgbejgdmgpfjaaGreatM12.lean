/-
  A part of the proof: GabsFrame, LawCanon24, IvlD24, IvlE24, IvlF24, IvlG24, IvlH24, IvpA24, IvpB24, IvpC24, IvpM24, IvpH24, IvpD24, IvpE24, IvpF24, IvpI24, IvpJ24, RupA24, GcdM24, RupB24, RupC24, RupD24, IvpN24, LawIvM24, LawIvN24, LawIvE24, GabsMemo.
-/
import Derived.Test.YtpgbejgdmgpfjaaGreatM11
import Derived.WideKeyArgs
import Derived.OpenShut
import Derived.WalkKit
set_option maxHeartbeats 0
set_option maxRecDepth 100000
set_option linter.unusedVariables false
set_option linter.unusedSimpArgs false
set_option linter.unusedSectionVars false
section
namespace Go.Abs
open Go.RowKit Go.WideShapes Go.ChangeShapes Go.ChangeAt
inductive Shape where
 | int (k : IntKind)
 | bool
 | slice (s : Shape)
 | struct (l : List Shape)
 | arr (n : Nat) (s : Shape)
mutual
def Shape.size : Shape -> Nat
 | .int _ => 1
 | .bool => 1
 | .slice _ => 1
 | .struct l => sizeL l
 | .arr n s => n * s.size
def sizeL : List Shape -> Nat
 | [] => 0
 | s :: l => s.size + sizeL l
end
mutual
def Shape.fits (P : Program) (t : TypeId) : Shape -> Bool
 | .int k => match P.underlying t with
  | some (.int k') => decide (k' = k)
  | _ => false
 | .bool => match P.underlying t with
  | some .bool => true
  | _ => false
 | .slice s => match P.underlying t with
  | some (.slice e) => P.cellsOf e == s.size && decide (0 < s.size) && s.fits P e
  | _ => false
 | .struct l => match P.underlying t with
  | some (.struct fs) => P.cellsOf t == sizeL l && fitsL P 0 fs.toList l
  | _ => false
 | .arr n s => match P.underlying t with
  | some (.array m e) => m == n && P.cellsOf t == n * s.size && P.cellsOf e == s.size && s.fits P e
  | _ => false
def fitsL (P : Program) (off : Nat) : List Field -> List Shape -> Bool
 | [], [] => true
 | f :: fs, s :: l => f.offset == off && P.cellsOf f.type == s.size && s.fits P f.type && fitsL P (off + s.size) fs l
 | _, _ => false
end
def okN (p : List Tree -> Prop) : Nat -> List Tree -> Prop
 | 0, ts => ts = []
 | n + 1, ts => ∃ a b, ts = a ++ b /\ p a /\ okN p n b
mutual
def Shape.ok : Shape -> List Tree -> Prop
 | .int k, ts => ∃ n, ts = [.v (.int k n)] /\ (Lit.int k n).wf = true
 | .bool, ts => ∃ b, ts = [.v (.bool b)]
 | .slice s, ts => ∃ cp rows, ts = [.lst cp rows] /\ rows.length < 2 ^ 63 /\ ∀ r ∈ rows, s.ok r
 | .struct l, ts => okL l ts
 | .arr n s, ts => okN s.ok n ts
def okL : List Shape -> List Tree -> Prop
 | [], ts => ts = []
 | s :: l, ts => ∃ a b, ts = a ++ b /\ s.ok a /\ okL l b
end
theorem okN_len {p : List Tree -> Prop} {m : Nat} (hp : ∀ ts, p ts -> ts.length = m) : ∀ (n : Nat) (ts : List Tree), okN p n ts -> ts.length = n * m
 | 0, ts, h => by rw [show ts = [] from h]; simp
 | n + 1, ts, ⟨a, b, h1, h2, h3⟩ => by rw [h1, List.length_append, hp a h2, okN_len hp n b h3, Nat.succ_mul]; omega
mutual
theorem Shape.ok_len : ∀ (s : Shape) (ts : List Tree), s.ok ts -> ts.length = s.size
 | .int k, ts, h => by obtain ⟨n, rfl, _⟩ := h; rfl
 | .bool, ts, h => by obtain ⟨n, rfl⟩ := h; rfl
 | .slice s, ts, h => by obtain ⟨_, _, rfl, _⟩ := h; rfl
 | .struct l, ts, h => okL_len l ts h
 | .arr n s, ts, h => okN_len (fun ts h => s.ok_len ts h) n ts h
theorem okL_len : ∀ (l : List Shape) (ts : List Tree), okL l ts -> ts.length = sizeL l
 | [], ts, h => by rw [show ts = [] from h]; rfl
 | s :: l, ts, h => by
  obtain ⟨a, b, h1, h2, h3⟩ := h
  rw [h1, List.length_append, s.ok_len a h2, okL_len l b h3]; rfl
end
section
variable {H : Type} {enc : TypeId × Value -> H} {P : Program} {w : World} {sp : Nat -> Bool} {hd : Bool}
def TRepL (w : World) (ts : List Tree) (cs : List Value) : Prop := ts.length = cs.length /\ ∀ (i : Nat) (t : Tree) (v : Value), ts[i]? = some t -> cs[i]? = some v -> TRep (old w) w t v
theorem TRepL.append {a b : List Tree} {c d : List Value} (h1 : TRepL w a c) (h2 : TRepL w b d) : TRepL w (a ++ b) (c ++ d) := by
 refine ⟨by rw [List.length_append, List.length_append, h1.1, h2.1], fun i t v ht hv => ?_⟩
 rcases Nat.lt_or_ge i a.length with h | h
 ·rw [List.getElem?_append_left h] at ht
  rw [List.getElem?_append_left (by rw [<- h1.1]; exact h)] at hv
  exact h1.2 i t v ht hv
 ·rw [List.getElem?_append_right h] at ht
  rw [List.getElem?_append_right (by rw [<- h1.1]; exact h), <- h1.1] at hv
  exact h2.2 _ t v ht hv
theorem TRepL.one {t : Tree} {v : Value} (h : TRep (old w) w t v) : TRepL w [t] [v] := by
 refine ⟨rfl, fun i t' v' ht hv => ?_⟩
 cases i with
 | zero => simp at ht hv; subst ht hv; exact h
 | succ i => simp at ht
def Read (enc : TypeId × Value -> H) (P : Program) (w : World) (sp : Nat -> Bool) (hd : Bool) (s : Shape) : Prop :=
 ∀ (t : TypeId), s.fits P t = true -> ∀ (n : Nat) (cs : List Value) (x : DataW H × List MemPlace), DataW.trod enc P w 0 sp hd n t cs = some x -> ∃ ts, s.ok ts /\ TRepL w ts cs
theorem row_split {cs : List Value} (i m : Nat) : cs.drop i = (cs.drop i).take m ++ cs.drop (i + m) := by
 rw [<- List.drop_drop, List.take_append_drop]
theorem readL : ∀ (l : List Shape), (∀ s ∈ l, Read enc P w sp hd s) -> ∀ (fs : List Field) (off : Nat), fitsL P off fs l = true -> ∀ (n : Nat) (cs : List Value), cs.length = off + sizeL l ->
  (∀ f ∈ fs, ∃ x, DataW.trod enc P w 0 sp hd n f.type ((cs.drop f.offset).take (P.cellsOf f.type)) = some x) -> ∃ ts, okL l ts /\ TRepL w ts (cs.drop off)
 | [], hl, [], off, hf, n, cs, hn, hx => by
  refine ⟨[], rfl, ?_⟩
  rw [List.drop_of_length_le (by rw [hn]; simp [sizeL])]
  exact ⟨rfl, fun i t v h => by simp at h⟩
 | [], hl, f :: fs, off, hf, n, cs, hn, hx => by simp [fitsL] at hf
 | s :: l, hl, [], off, hf, n, cs, hn, hx => by simp [fitsL] at hf
 | s :: l, hl, f :: fs, off, hf, n, cs, hn, hx => by
  simp only [fitsL, Bool.and_eq_true, beq_iff_eq] at hf
  obtain ⟨⟨⟨h1, h2⟩, h3⟩, h4⟩ := hf
  obtain ⟨x, hx1⟩ := hx f (List.mem_cons_self ..)
  rw [h1, h2] at hx1
  obtain ⟨a, ha, hra⟩ := hl s (List.mem_cons_self ..) f.type h3 n _ x hx1
  obtain ⟨b, hb, hrb⟩ := readL l (fun s' hs' => hl s' (List.mem_cons_of_mem _ hs')) fs (off + s.size) h4 n cs (by rw [hn, sizeL]; omega) (fun f' hf' => hx f' (List.mem_cons_of_mem _ hf'))
  refine ⟨a ++ b, ⟨a, b, rfl, ha, hb⟩, ?_⟩
  rw [row_split off s.size]
  exact hra.append hrb
theorem readN {s : Shape} (hs : Read enc P w sp hd s) {e : TypeId} (he : s.fits P e = true) : ∀ (m i : Nat) (n : Nat) (cs : List Value), cs.length = (i + m) * s.size ->
  (∀ j, j < m -> ∃ x, DataW.trod enc P w 0 sp hd n e ((cs.drop ((i + j) * s.size)).take s.size) = some x) -> ∃ ts, okN s.ok m ts /\ TRepL w ts (cs.drop (i * s.size))
 | 0, i, n, cs, hn, hx => by
  refine ⟨[], rfl, ?_⟩
  rw [List.drop_of_length_le (by rw [hn]; simp)]
  exact ⟨rfl, fun i t v h => by simp at h⟩
 | m + 1, i, n, cs, hn, hx => by
  obtain ⟨x, hx1⟩ := hx 0 (by omega)
  rw [Nat.add_zero] at hx1
  obtain ⟨a, ha, hra⟩ := hs e he n _ x hx1
  obtain ⟨b, hb, hrb⟩ := readN hs he m (i + 1) n cs (by rw [hn]; congr 1; omega) (fun j hj => by
   have := hx (j + 1) (by omega)
   rwa [show i + (j + 1) = i + 1 + j by omega] at this)
  refine ⟨a ++ b, ⟨a, b, rfl, ha, hb⟩, ?_⟩
  rw [row_split (i * s.size) s.size]
  rw [Nat.succ_mul] at hrb
  exact hra.append hrb
theorem add_none (b o n : Nat) : (⟨b, o, none⟩ : Addr).add n = ⟨b, o + n, none⟩ := by
 unfold Addr.add
 split
 ·rename_i h; subst h; rfl
 ·rfl
theorem wf_one {k : IntKind} {n : Int} : one (.int k n) := by intro l; exact ⟨by simp, by simp⟩
theorem Shape.read : ∀ (s : Shape), Read enc P w sp hd s
  | .int k => fun t hf n cs x hx => by
    have hu : P.underlying t = some (.int k) := by
      unfold Shape.fits at hf
      split at hf
      · rename_i k' h; rw [h, of_decide_eq_true hf]
      · cases hf
    obtain ⟨m, rfl, _, hw⟩ := DataW.trod_int hu hx
    exact ⟨_, ⟨m, rfl, hw⟩, .one (.v _ wf_one)⟩
  | .bool => fun t hf n cs x hx => by
    have hu : P.underlying t = some .bool := by
      unfold Shape.fits at hf
      split at hf
      · rename_i h; exact h
      · cases hf
    obtain ⟨b, rfl, _⟩ := DataW.trod_bool hu hx
    exact ⟨_, ⟨b, rfl⟩, .one (.v _ (by intro l; exact ⟨by simp, by simp⟩))⟩
  | .struct l => fun t hf n cs x hx => by
    unfold Shape.fits at hf
    split at hf
    · rename_i fs hu
      simp only [Bool.and_eq_true, beq_iff_eq] at hf
      obtain ⟨xs, n', rfl, _, hl, hxl, hfs⟩ := DataW.trod_struct hu hx
      obtain ⟨ts, h1, h2⟩ := readL l (fun s hs => Shape.read s) fs.toList 0 hf.2 n' cs (by rw [hl, hf.1]; omega) (fun f hfm => by
        obtain ⟨i, hi, hfi⟩ := List.mem_iff_getElem.1 hfm
        have hi' : i < fs.size := by simpa using hi
        have hg : fs[i]? = some f := by rw [Array.getElem?_eq_getElem hi']; simpa using hfi
        have := hfs i f hg
        have hxi : i < xs.length := by rw [hxl]; exact hi'
        rw [List.getElem?_eq_getElem hxi] at this
        exact ⟨_, this⟩)
      exact ⟨ts, h1, by simpa using h2⟩
    · cases hf
  | .arr m s => fun t hf n cs x hx => by
    unfold Shape.fits at hf
    split at hf
    · rename_i m' e hu
      simp only [Bool.and_eq_true, beq_iff_eq] at hf
      obtain ⟨⟨⟨rfl, h1⟩, h2⟩, h3⟩ := hf
      cases n with
      | zero => simp [DataW.trod] at hx
      | succ n =>
        unfold DataW.trod at hx
        rw [hu] at hx
        simp only at hx
        split at hx
        · rename_i hl
          obtain ⟨xs, hxs, _⟩ := Option.map_eq_some_iff.1 hx
          obtain ⟨ts, h4, h5⟩ := readN (Shape.read s) h3 m' 0 n cs (by rw [hl, h1, Nat.zero_add]) (fun j hj => by
            have := mapM_some_get hxs j j (by simp [hj])
            have hlen := mapM_some_length hxs
            rw [List.length_range] at hlen
            rw [List.getElem?_eq_getElem (by omega)] at this
            rw [h2] at this
            rw [Nat.zero_add]
            exact ⟨_, this⟩)
          exact ⟨ts, h4, by simpa using h5⟩
        · cases hx
    · cases hf
  | .slice s => fun t hf n cs x hx => by
    unfold Shape.fits at hf
    split at hf
    · rename_i e hu
      simp only [Bool.and_eq_true, beq_iff_eq, decide_eq_true_eq] at hf
      obtain ⟨⟨h1, h2⟩, h3⟩ := hf
      rcases DataW.trod_slice hu hx with ⟨rfl, _⟩ | ⟨a, len, cap, elems, rest, n', rfl, rfl, _, _, hlc, hcap, hel, hread, _, _⟩
      · refine ⟨[.lst false []], ⟨false, [], rfl, by simp, by simp⟩, .one (.lst false [] none 0 0 0 0 (fun _ _ => default) (by simp) (by omega) (by simp) (by simp) (by simp) (by simp) (by simp) (fun i j t ht => by simp [at2] at ht) (fun i j t ht => by simp [at2] at ht))⟩
      · have hm : maxLen = 2 ^ 63 - 1 := rfl
        have hrow : ∀ i, i < len -> ∃ ts css, s.ok ts /\ TRepL w ts css /\ w.cells? 0 (a.add (i * s.size)) s.size = some css := fun i hi => by
          have hr := hread i hi
          rw [List.getElem?_eq_getElem (by omega), h1] at hr
          obtain ⟨css, hc, hx2⟩ := Option.bind_eq_some_iff.1 hr
          obtain ⟨ts, h4, h5⟩ := Shape.read s e h3 _ _ _ hx2
          exact ⟨ts, css, h4, h5, hc⟩
        let f : Nat -> List Tree := fun i => if h : i < len then (hrow i h).choose else []
        let g : Nat -> List Value := fun i => if h : i < len then (hrow i h).choose_spec.choose else []
        have hfg : ∀ i, i < len -> s.ok (f i) /\ TRepL w (f i) (g i) /\ w.cells? 0 (a.add (i * s.size)) s.size = some (g i) := fun i hi => by
          have hfi : f i = (hrow i hi).choose := dif_pos hi
          have hgi : g i = (hrow i hi).choose_spec.choose := dif_pos hi
          rw [hfi, hgi]
          exact (hrow i hi).choose_spec.choose_spec
        have hspot : 0 < len -> a = ⟨a.block, a.off, none⟩ /\ a.block < w.heap.size := fun h0 => by
          obtain ⟨hok, hrep, hc⟩ := hfg 0 h0
          obtain ⟨_, hl, hce⟩ := World.cells?_some hc
          have := hce 0 h2
          rw [List.getElem?_eq_getElem (by omega)] at this
          have ha : (a.add (0 * s.size)).add 0 = a := by simp [Addr.add]
          rw [ha] at this
          refine ⟨?_, ?_⟩
          · unfold World.cell? at this
            split at this
            · split at this
              · cases this
              · rename_i hs
                obtain ⟨b, o, sp'⟩ := a
                cases sp' with
                | none => rfl
                | some _ => simp at hs
            · cases this
          · have := World.cells?_block hc h2
            simpa [Addr.add] using this
        have hrows : ∀ i, (((List.range len).map f)[i]?) = if i < len then some (f i) else none := fun i => by
          rw [List.getElem?_map]
          by_cases h : i < len
          · rw [if_pos h, List.getElem?_range h]; rfl
          · rw [if_neg h, List.getElem?_eq_none (by simpa using h)]; rfl
        have hat : ∀ i j t, at2 ((List.range len).map f) i j = some t -> i < len /\ (f i)[j]? = some t := fun i j t ht => by
          unfold at2 at ht
          rw [hrows] at ht
          by_cases h : i < len
          · rw [if_pos h] at ht; exact ⟨h, ht⟩
          · rw [if_neg h] at ht; cases ht
        have hcell : ∀ i j t, at2 ((List.range len).map f) i j = some t -> ∃ v, (g i)[j]? = some v /\ w.cell? ⟨a.block, a.off + i * s.size + j, none⟩ = some v /\ TRep (old w) w t v /\ a.block < w.heap.size := fun i j t ht => by
          obtain ⟨hi, hj⟩ := hat i j t ht
          obtain ⟨hok, hrep, hc⟩ := hfg i hi
          obtain ⟨_, hl, hce⟩ := World.cells?_some hc
          have hjl : j < s.size := by
            have := (List.getElem?_eq_some_iff.1 hj).1
            rw [s.ok_len _ hok] at this; exact this
          have hv := hce j hjl
          obtain ⟨hs1, hs2⟩ := hspot (by omega)
          refine ⟨(g i)[j]'(by omega), List.getElem?_eq_getElem (by omega), ?_, hrep.2 j t _ hj (List.getElem?_eq_getElem (by omega)), hs2⟩
          rw [List.getElem?_eq_getElem (by omega)] at hv
          rw [<- hv]
          rw [hs1, add_none, add_none]
        refine ⟨[.lst false ((List.range len).map f)], ⟨false, _, rfl, by rw [List.length_map, List.length_range]; omega, fun r hr => ?_⟩, ?_⟩
        · obtain ⟨i, hi, rfl⟩ := List.mem_map.1 hr
          exact (hfg i (List.mem_range.1 hi)).1
        · refine .one ?_
          have hl : ((List.range len).map f).length = len := by rw [List.length_map, List.length_range]
          have := TRep.lst (S := old w) (w := w) false ((List.range len).map f) (some a) a.block a.off s.size cap (fun i j => ((g i)[j]?).getD default) (by rw [hl]; exact hlc) (by omega) (by rw [hl]; omega) (by simp)
            (fun hne => by rw [(hspot (by rcases Nat.eq_zero_or_pos len with h | h; · subst h; simp at hne
                                          · exact h)).1]) (by simp)
            (fun r hr => by obtain ⟨i, hi, rfl⟩ := List.mem_map.1 hr; exact s.ok_len _ (hfg i (List.mem_range.1 hi)).1)
            (fun i j t ht => by obtain ⟨v, h4, h5, h6, h7⟩ := hcell i j t ht; exact ⟨h7, by rw [h5, h4]; rfl⟩)
            (fun i j t ht => by obtain ⟨v, h4, h5, h6, h7⟩ := hcell i j t ht; rw [h4]; exact h6)
          rw [hl] at this
          exact this
    · cases hf
termination_by s => SizeOf.sizeOf s
def Shape.tv (s : Shape) (ts : List Tree) : TV :=
 match s, ts with
 | .struct _, ts => .agg ts
 | .arr _ _, ts => .agg ts
 | _, [t] => .c t
 | _, ts => .agg ts
def isAggT (P : Program) (t : TypeId) : Bool := match P.underlying t with
 | some (.struct _) | some (.array _ _) => true
 | _ => false
theorem Shape.rep {s : Shape} {t : TypeId} (hf : s.fits P t = true) {v : Value} (hok : Value.okWide P w .any 0 t v) {ts : List Tree} (hs : s.ok ts) (h : TRepL w ts v.cells.toList) : VRep noβ (old w) w (s.tv ts).av v := by
 have agg : ∀ (cs : Array Value), v = .agg cs -> VRep noβ (old w) w (TV.agg ts).av v := fun cs hv => by
  subst hv
  have : Array.mk cs.toList = cs := rfl
  rw [show TV.av (.agg ts) = AV.agg (ts.map .t) from rfl, <- this]
  refine .agg cs.toList (by rw [List.length_map]; exact h.1.symm) fun i c hc => ?_
  rw [List.getElem?_map] at hc
  obtain ⟨t', ht, rfl⟩ := Option.map_eq_some_iff.1 hc
  have hi := (List.getElem?_eq_some_iff.1 ht).1
  have hi2 : i < cs.toList.length := by have := h.1; simp only [Value.cells] at this; omega
  exact ⟨_, List.getElem?_eq_getElem hi2, .t (h.2 i t' _ ht (List.getElem?_eq_getElem hi2))⟩
 have scal : isAggT P t = false -> ts.length = 1 -> VRep noβ (old w) w (match ts with | [t] => TV.c t | ts => .agg ts).av v := fun hna hl => by
  match ts, hl, h with
  | [t'], _, h =>
   have hc : v.cells = #[v] := by
    cases v with
    | agg cs =>
     unfold Value.okWide at hok
     unfold isAggT at hna
     split at hok
     ·rename_i h1; rw [h1] at hna; cases hna
     ·rename_i h1; rw [h1] at hna; cases hna
     ·unfold Cell.okWide at hok
      split at hok <;> first | (rename_i h1 h2; cases h2; done) | skip
      all_goals first | (unfold Cell.ok at hok; split at hok <;> first | (rename_i h1 h2; cases h2; done) | exact hok.elim) | skip
    | _ => rfl
   have := h.2 0 t' v rfl (by rw [hc]; rfl)
   exact .c (.t this)
 cases s with
 | int k =>
  have hu : P.underlying t = some (.int k) := by
   unfold Shape.fits at hf
   split at hf
   ·rename_i k' h; rw [h, of_decide_eq_true hf]
   ·cases hf
  obtain ⟨m, rfl, _⟩ := hs
  exact scal (by unfold isAggT; rw [hu]) rfl
 | bool =>
  have hu : P.underlying t = some .bool := by
   unfold Shape.fits at hf
   split at hf
   ·rename_i h; exact h
   ·cases hf
  obtain ⟨m, rfl⟩ := hs
  exact scal (by unfold isAggT; rw [hu]) rfl
 | slice s =>
  unfold Shape.fits at hf
  split at hf
  ·rename_i e hu
   obtain ⟨_, _, rfl, _⟩ := hs
   exact scal (by unfold isAggT; rw [hu]) rfl
  ·cases hf
 | struct l =>
  unfold Shape.fits at hf
  split at hf
  ·rename_i fs hu
   unfold Value.okWide at hok
   rw [hu] at hok
   obtain ⟨cs, hv, _⟩ := hok
   exact agg cs hv
  ·cases hf
 | arr n s =>
  unfold Shape.fits at hf
  split at hf
  ·rename_i m e hu
   unfold Value.okWide at hok
   rw [hu] at hok
   obtain ⟨cs, hv, _⟩ := hok
   exact agg cs hv
  ·cases hf
def okAll : List Shape -> List (List Tree) -> Prop
 | [], l => l = []
 | s :: ss, l => ∃ ts r, l = ts :: r /\ s.ok ts /\ okAll ss r
def tvs : List Shape -> List (List Tree) -> List TV
 | s :: ss, ts :: r => s.tv ts :: tvs ss r
 | _, _ => []
def fitsAll (P : Program) : List TypeId -> List Shape -> Bool
 | [], [] => true
 | t :: ts, s :: ss => s.fits P t && decide (t < P.types.size) && P.readableRec t && fitsAll P ts ss
 | _, _ => false
theorem args_read : ∀ {tys : List TypeId} {shs : List Shape} {vs : List Value} {ds : List (DataW H)} {ps : List MemPlace}, DataW.TrodAll enc P w 0 sp true tys vs ds ps -> fitsAll P tys shs = true ->
  (∀ (j : Nat) t v, tys[j]? = some t -> vs[j]? = some v -> Value.okWide P w .any 0 t v) ->
  ∃ tss, okAll shs tss /\ vs.length = (tvs shs tss).length /\ ds.length = shs.length /\ ∀ (i : Nat) (x : TV), (tvs shs tss)[i]? = some x -> ∃ v, vs[i]? = some v /\ VRep noβ (old w) w x.av v
 | [], [], [], [], ps, h, hf, hv => ⟨[], rfl, rfl, rfl, fun i x hx => by simp [tvs] at hx⟩
 | t :: ts, s :: ss, v :: vs, d :: ds, ps, h, hf, hv => by
  obtain ⟨p, q, ⟨n, h1⟩, h2, _⟩ := h
  simp only [fitsAll, Bool.and_eq_true] at hf
  obtain ⟨⟨⟨f1, f2⟩, f3⟩, f4⟩ := hf
  obtain ⟨tss, g1, g2, g3, g4⟩ := args_read h2 f4 (fun j t v ht hx => hv (j + 1) t v (by simpa using ht) (by simpa using hx))
  obtain ⟨tr, k1, k2⟩ := s.read t f1 n _ _ h1
  refine ⟨tr :: tss, ⟨tr, tss, rfl, k1, g1⟩, by simp [tvs, g2], by simp [g3], fun i x hx => ?_⟩
  cases i with
  | zero =>
   simp only [tvs, List.getElem?_cons_zero, Option.some.injEq] at hx
   subst hx
   exact ⟨v, rfl, Shape.rep f1 (hv 0 t v rfl rfl) k1 k2⟩
  | succ i => simp only [tvs, List.getElem?_cons_succ] at hx ⊢; exact g4 i x hx
 | [], _ :: _, _, _, _, _, hf, _ => by simp [fitsAll] at hf
 | _ :: _, [], _, _, _, _, hf, _ => by simp [fitsAll] at hf
 | [], [], _ :: _, _, _, h, _, _ => by simp [DataW.TrodAll] at h
 | [], [], [], _ :: _, _, h, _, _ => by simp [DataW.TrodAll] at h
 | _ :: _, _ :: _, [], _, _, h, _, _ => by simp [DataW.TrodAll] at h
 | _ :: _, _ :: _, _ :: _, [], _, h, _, _ => by simp [DataW.TrodAll] at h
theorem args_stay (hl : laidOutB P = true) {W W' : World} {sp' : Nat -> Bool} (hb : Below W.heap.size W W') : ∀ {tys : List TypeId} {shs : List Shape} {vs : List Value} {ds : List (DataW H)} {ps : List MemPlace}, DataW.TrodAll enc P W 0 (fun _ => true) true tys vs ds ps -> fitsAll P tys shs = true ->
  (∀ p ∈ ps, p.block < W.heap.size) -> (∀ p ∈ ps, sp' p.block = true) -> DataW.TrodAll enc P W' 0 sp' true tys vs ds ps
 | [], [], [], [], ps, h, hf, h1, h2 => h
 | t :: ts, s :: ss, v :: vs, d :: ds, ps, h, hf, h1, h2 => by
  obtain ⟨p, q, k1, k2, rfl⟩ := h
  simp only [fitsAll, Bool.and_eq_true, decide_eq_true_eq] at hf
  obtain ⟨⟨⟨f1, f2⟩, f3⟩, f4⟩ := hf
  exact ⟨p, q, Go.WideElems.Trod_stays hl f3 f2 k1 (fun x hx => hb.same (h1 x (List.mem_append_left _ hx))) (fun x hx => h2 x (List.mem_append_left _ hx)),
   args_stay hl hb k2 f4 (fun x hx => h1 x (List.mem_append_right _ hx)) (fun x hx => h2 x (List.mem_append_right _ hx)), rfl⟩
 | [], _ :: _, _, _, _, _, hf, _, _ => by simp [fitsAll] at hf
 | _ :: _, [], _, _, _, _, hf, _, _ => by simp [fitsAll] at hf
 | [], [], _ :: _, _, _, h, _, _, _ => by simp [DataW.TrodAll] at h
 | [], [], [], _ :: _, _, h, _, _, _ => by simp [DataW.TrodAll] at h
 | _ :: _, _ :: _, [], _, _, h, _, _, _ => by simp [DataW.TrodAll] at h
 | _ :: _, _ :: _, _ :: _, [], _, h, _, _, _ => by simp [DataW.TrodAll] at h
theorem law_row {f : FuncId} {fn : Func} {spec : ChangeSpec} {shs : List Shape} {outs : List (Option Blk)} (hl : laidOutB P = true) (hf : fitsAll P fn.params.toList shs = true) (hvars : spec.vars = []) {tb0 : TypeId} (hres : fn.resultTypes = #[tb0]) (hb4 : P.underlying tb0 = some .bool)
  {apart fresh handsOn again : Bool} (hfn : ∀ ds : List (DataW H), ds.length = shs.length -> (spec.fn H ds).args = ds /\ (spec.fn H ds).results = [.lit (.bool true)] /\ (spec.fn H ds).vars = [])
  (hc : ∀ tss, okAll shs tss -> ACall P f ((tvs shs tss).map .val) ⟨[.val (tb true)], outs⟩)
  {W : World} {args : Array Value} {ds gs : List (DataW H)} {before : List MemPlace} (hval : ∀ (j : Nat) t v, fn.params[j]? = some t -> args[j]? = some v -> Value.okWide P W .any 0 t v)
  (hW : DataW.Whole enc P fn.params.toList spec.vars apart W args.toList ds gs before) :
  Calls P f args W fun e W' => ∃ v, e = .returned v /\ spec.post enc P fn apart fresh handsOn again W args v W' := by
 have hW' := hW
 obtain ⟨p, q, hA, hV, rfl, hfz, hnd⟩ := hW
 rw [hvars] at hV
 have hgq : gs = [] /\ q = [] := by
  cases gs with
  | nil => exact ⟨rfl, hV⟩
  | cons g gs => exact hV.elim
 obtain ⟨rfl, rfl⟩ := hgq
 obtain ⟨tss, hok, hlen, hdl, hrep⟩ := args_read hA hf (fun j t v ht hv => hval j t v (by simpa using ht) (by simpa using hv))
 have h := law_calls (hc tss hok) W args.toList hlen hrep
 have hargs : args.toList.toArray = args := rfl
 rw [hargs] at h
 obtain ⟨e1, e2, e3⟩ := hfn ds hdl
 have hbefore : ∀ x ∈ p, x.block < W.heap.size := fun x hx => hW'.lt x (List.mem_append_left _ hx)
 refine h.mono fun e W' ⟨he, hg⟩ => ?_
 subst he
 refine ⟨_, rfl, post_of_below (pa := p) (pv := []) hW' (fun b sp hd => ?_) (fun sp hs => ?_) (fun sp hs => ?_) rfl hg ?_⟩
 ·rw [List.append_nil, e2, hres]
  exact trodAll_cons_mk (shut_bool hb4 _) trodAll_mk0
 ·rw [List.append_nil, e1]
  exact args_stay hl hg hA hf hbefore (fun x hx => hs x (List.mem_append_left _ hx))
 ·rw [List.append_nil, e3, hvars]; rfl
 ·exact ok_one hres rfl (okWide_bool_mk hb4 _)
end
end Go.Abs
end
section
namespace Go.Proofs.YtpgbejgdmgpfjaaGreat
open Go Go.Abs Go.Abs.M Go.Proofs
open Go Go.Abs Go.Abs.M Go.Proofs
theorem rqsub_row {x y : Rat} {a b : Nat} (h1 : Qs x a) (h2 : Qs y b) (h : a + b <= 68719476736) :
  Qs (x - y) (a + b + 1) /\ ACall Tryz.prog 32 [.val (.agg (qc x).row), .val (.agg (qc y).row)] ⟨[.val (.agg (qc (x - y)).row)], [none, none]⟩ := by
 refine ⟨by rw [Rat.sub_eq_add_neg]; exact add_small h1 h2.neg, ?_⟩
 obtain ⟨u, w, v, p, hr, c⟩ := rqsub_call (qa9 x) (qa9 y) (h1.mono (by omega)) (h2.mono (by omega))
 rw [qc_row hr] at c
 exact c
def ivd (D : Int) : Rat := ((1 + D % 8 : Int) : Rat)
def ivlo (A B D : Int) : Rat := rmin ((A : Rat) * (ivd D)⁻¹) ((B : Rat) * (ivd D)⁻¹)
def ivhi (A B D : Int) : Rat := rmax ((A : Rat) * (ivd D)⁻¹) ((B : Rat) * (ivd D)⁻¹)
theorem ivd_ne (D : Int) : ivd D ≠ 0 := by
 unfold ivd
 intro h
 have : (1 + D % 8 : Int) = 0 := by exact_mod_cast h
 omega
theorem ivd_qs (D : Int) : Qs (ivd D) 1 := Qs.whole (by omega) (Nat.le_refl 1)
structure RI where
 a : Int
 b : Int
 d : Int
structure RI.ok (x : RI) : Prop where
 a1 : -128 <= x.a
 a2 : x.a < 128
 b1 : -128 <= x.b
 b2 : x.b < 128
 d1 : 0 <= x.d
 d2 : x.d < 256
def RI.row (x : RI) : List Tree := [.v (.int .i8 x.a), .v (.int .i8 x.b), .v (.int .u8 x.d)]
def RI.lo (x : RI) : Rat := ivlo x.a x.b x.d
def RI.hi (x : RI) : Rat := ivhi x.a x.b x.d
theorem RI.lo_qs {x : RI} (h : x.ok) : Qs x.lo 2 := by
 obtain ⟨a1, a2, b1, b2, d1, d2⟩ := h
 exact rmin_qs (qan (Qs.whole (by omega) (Nat.le_refl 1)) (inv_small (ivd_ne _) (ivd_qs _))) (qan (Qs.whole (by omega) (Nat.le_refl 1)) (inv_small (ivd_ne _) (ivd_qs _)))
theorem RI.hi_qs {x : RI} (h : x.ok) : Qs x.hi 2 := by
 obtain ⟨a1, a2, b1, b2, d1, d2⟩ := h
 exact rmax_qs (qan (Qs.whole (by omega) (Nat.le_refl 1)) (inv_small (ivd_ne _) (ivd_qs _))) (qan (Qs.whole (by omega) (Nat.le_refl 1)) (inv_small (ivd_ne _) (ivd_qs _)))
theorem RI.le (x : RI) : x.lo <= x.hi := by
 unfold RI.lo RI.hi ivlo ivhi rmin rmax
 generalize (x.a : Rat) * (ivd x.d)⁻¹ = p
 generalize (x.b : Rat) * (ivd x.d)⁻¹ = q
 grind
theorem imade_call (x : RI) (hx : x.ok) : ACall Tryz.prog 12 [.val (.agg x.row)] ⟨[.val (.agg ((qc x.lo).row ++ (qc x.hi).row))], [none]⟩ := by
 obtain ⟨a1, a2, b1, b2, d1, d2⟩ := hx
 obtain ⟨a, b, d⟩ := x
 simp only at a1 a2 b1 b2 d1 d2
 have cd := qam (1 + d % 8) (by omega) (by omega)
 have ca := qam a (by omega) (by omega)
 have cb := qam b (by omega) (by omega)
 obtain ⟨qp, cp⟩ := rqdiv_row (ivd_ne d) (Qs.whole (n := a) (k := 1) (by omega) (Nat.le_refl 1)) (ivd_qs d) (by omega)
 obtain ⟨qq, cq⟩ := rqdiv_row (ivd_ne d) (Qs.whole (n := b) (k := 1) (by omega) (Nat.le_refl 1)) (ivd_qs d) (by omega)
 have cl := less_call (qp.mono (by omega)) (qq.mono (by omega))
 have cm := more_call (qp.mono (by omega)) (qq.mono (by omega))
 show ACall _ _ [.val (.agg [.v (.int .i8 a), .v (.int .i8 b), .v (.int .u8 d)])] ⟨[.val (.agg ((qc (rmin _ _)).row ++ (qc (rmax _ _)).row))], _⟩
 change ACall _ _ _ ⟨[.val (.agg (qc (ivd d)).row)], _⟩ at cd
 obtain ⟨s1, t1, r1, p1, e1, _⟩ := qrow (ivd d)
 obtain ⟨s2, t2, r2, p2, e2, _⟩ := qrow (a : Rat)
 obtain ⟨s3, t3, r3, p3, e3, _⟩ := qrow (b : Rat)
 obtain ⟨s4, t4, r4, p4, e4, _⟩ := qrow ((a : Rat) * (ivd d)⁻¹)
 obtain ⟨s5, t5, r5, p5, e5, _⟩ := qrow ((b : Rat) * (ivd d)⁻¹)
 obtain ⟨s6, t6, r6, p6, e6, _⟩ := qrow (rmin ((a : Rat) * (ivd d)⁻¹) ((b : Rat) * (ivd d)⁻¹))
 obtain ⟨s7, t7, r7, p7, e7, _⟩ := qrow (rmax ((a : Rat) * (ivd d)⁻¹) ((b : Rat) * (ivd d)⁻¹))
 rw [e1] at cd
 rw [e2] at ca
 rw [e3] at cb
 rw [e2, e1, e4] at cp
 rw [e3, e1, e5] at cq
 rw [e4, e5, e6] at cl
 rw [e4, e5, e7] at cm
 rw [e6, e7]
 obtain ⟨D, hD⟩ : ∃ D : Int, D = 1 + d % 8 := ⟨_, rfl⟩
 rw [<- hD] at cd
 clear e1 e2 e3 e4 e5 e6 e7 qp qq
 refine callZ ccOk mixed [.val] Tryz.func12 rfl rfl (by kernel_rfl) fun zA zB zC zD zE zF zG zH zI zJ zK zL zM zN zO zP zQ zR zS zT zU zV zX zY zZ za zb zc zd ze zg zh zi zk zl zm zn zo zq zr zs zt zu zw zx zy zz zW zth A L F hS hF => ?_
 have k1 : zA .i64 (zA .u8 (zB 1 (zF d 8))) = D := by
  rw [hS.rem, hS.add, Int.tmod_eq_emod_of_nonneg d1, hS.wrap, hS.wrap, wrap_u8 (by omega) (by omega), wrap_i64 (by omega) (by omega), hD]
 have k2 : zA .i64 a = a := by rw [hS.wrap, wrap_i64 (by omega) (by omega)]
 have k3 : zA .i64 b = b := by rw [hS.wrap, wrap_i64 (by omega) (by omega)]
 cbv
 rw [k1]
 refine ⟨_, hS.call (cd), ?_⟩
 cbv
 rw [k2]
 refine ⟨_, hS.call (ca), ?_⟩
 cbv
 refine ⟨_, hS.call (cp), ?_⟩
 cbv
 rw [k3]
 refine ⟨_, hS.call (cb), ?_⟩
 cbv
 refine ⟨_, hS.call (cq), ?_⟩
 cbv
 refine ⟨_, hS.call (cl), ?_⟩
 cbv
 refine ⟨_, hS.call (cm), ?_⟩
 cbv
 exact hF _ (ResLe.refl _)
def iat (p q : Rat) (k : Int) : Rat := p + ((k % 17 : Int) : Rat) * (((16 : Int) : Rat))⁻¹ * (q - p)
theorem iat_call {p q : Rat} {n : Nat} (h1 : Qs p n) (h2 : Qs q n) (hn : n <= 1000) (k : Int) (k1 : 0 <= k) (k2 : k < 256) :
  Qs (iat p q k) (n + (2 + (n + n + 1)) + 1) /\ ACall Tryz.prog 28 [.val (.agg ((qc p).row ++ (qc q).row)), .val (ti .u8 k)] ⟨[.val (.agg (qc (iat p q k)).row)], [none, none]⟩ := by
 have hn16 : ((16 : Int) : Rat) ≠ 0 := by decide
 have ck := qam (k % 17) (by omega) (by omega)
 have cs := qam 16 (by omega) (by omega)
 obtain ⟨q1, c1⟩ := rqdiv_row hn16 (Qs.whole (n := k % 17) (k := 1) (by omega) (Nat.le_refl 1)) (Qs.whole (n := 16) (k := 1) (by decide) (Nat.le_refl 1)) (by omega)
 obtain ⟨q2, c2⟩ := rqsub_row h2 h1 (by omega)
 obtain ⟨q3, c3⟩ := qbf q1 q2 (by omega)
 obtain ⟨q4, c4⟩ := rqadd_row h1 q3 (by omega)
 refine ⟨q4.mono (by omega), ?_⟩
 unfold iat
 obtain ⟨s1, t1, r1, p1, e1, _⟩ := qrow p
 obtain ⟨s2, t2, r2, p2, e2, _⟩ := qrow q
 obtain ⟨s3, t3, r3, p3, e3, _⟩ := qrow ((k % 17 : Int) : Rat)
 obtain ⟨s4, t4, r4, p4, e4, _⟩ := qrow ((16 : Int) : Rat)
 obtain ⟨s5, t5, r5, p5, e5, _⟩ := qrow (((k % 17 : Int) : Rat) * ((16 : Int) : Rat)⁻¹)
 obtain ⟨s6, t6, r6, p6, e6, _⟩ := qrow (q - p)
 obtain ⟨s7, t7, r7, p7, e7, _⟩ := qrow (((k % 17 : Int) : Rat) * ((16 : Int) : Rat)⁻¹ * (q - p))
 obtain ⟨s8, t8, r8, p8, e8, _⟩ := qrow (p + ((k % 17 : Int) : Rat) * ((16 : Int) : Rat)⁻¹ * (q - p))
 rw [e3] at ck
 rw [e4] at cs
 rw [e3, e4, e5] at c1
 rw [e2, e1, e6] at c2
 rw [e5, e6, e7] at c3
 rw [e1, e7, e8] at c4
 rw [e1, e2, e8]
 obtain ⟨D, hD⟩ : ∃ D : Int, D = k % 17 := ⟨_, rfl⟩
 rw [<- hD] at ck
 clear e1 e2 e3 e4 e5 e6 e7 e8 q1 q2 q3 q4
 refine callZ ccOk mixed [.val] Tryz.func28 rfl rfl (by kernel_rfl) fun zA zB zC zD zE zF zG zH zI zJ zK zL zM zN zO zP zQ zR zS zT zU zV zX zY zZ za zb zc zd ze zg zh zi zk zl zm zn zo zq zr zs zt zu zw zx zy zz zW zth A L F hS hF => ?_
 have k3 : zA .i64 (zF k 17) = D := by
  rw [hS.rem, Int.tmod_eq_emod_of_nonneg k1, hS.wrap, wrap_i64 (by omega) (by omega), hD]
 cbv
 rw [k3]
 refine ⟨_, hS.call (ck), ?_⟩
 cbv
 refine ⟨_, hS.call (cs), ?_⟩
 cbv
 refine ⟨_, hS.call (c1), ?_⟩
 cbv
 refine ⟨_, hS.call (c2), ?_⟩
 cbv
 refine ⟨_, hS.call (c3), ?_⟩
 cbv
 refine ⟨_, hS.call (c4), ?_⟩
 cbv
 exact hF _ (ResLe.refl _)
open Go Go.Abs Go.Abs.M Go.Proofs
def ripoSt (s : Bool) (r : Abs.Rows) (t : Bool) (p : Abs.Rows) (s2 : Bool) (r2 : Abs.Rows) (t2 : Bool) (p2 : Abs.Rows) (n i : Int) : St := mkSt 17 [.agg [.t (.v (.bool s)), .t (.lst false r), .t (.v (.bool t)), .t (.lst false p)], vi .i64 n, .c (.ptr 2 0 0), .junk, .c (.ptr 3 0 0), .c (.ptr 6 0 0), vi .i64 i] [none, none, some (.var [.t (.v (.bool s)), .t (.lst false r), .t (.v (.bool t)), .t (.lst false p)]), some (.var (rawZ.map .t)), none, none, some (.var [.t (.v (.bool s2)), .t (.lst false r2), .t (.v (.bool t2)), .t (.lst false p2)])]
def rp6poSt (s : Bool) (r : Abs.Rows) (t : Bool) (p : Abs.Rows) (s2 : Bool) (r2 : Abs.Rows) (t2 : Bool) (p2 : Abs.Rows) (n i : Int) : St := mkSt 17 [.agg [.t (.v (.bool s)), .t (.lst false r), .t (.v (.bool t)), .t (.lst false p)], vi .i64 n, .c (.ptr 2 0 0), .junk, .c (.ptr 3 0 0), .c (.ptr 6 0 0), vi .i64 i] [none, none, some (.var [.t (.v (.bool s)), .t (.lst false r), .t (.v (.bool t)), .t (.lst false p)]), some (.var (rawZ.map .t)), none, none, some (.var [.t (.v (.bool s2)), .t (.lst false r2), .t (.v (.bool t2)), .t (.lst false p2)])]
def ipoSt (s : Bool) (r : Abs.Rows) (t : Bool) (p : Abs.Rows) (s2 : Bool) (r2 : Abs.Rows) (t2 : Bool) (p2 : Abs.Rows) (n i : Int) : St := mkSt 15 [.agg [.t (.v (.bool s)), .t (.lst false r), .t (.v (.bool t)), .t (.lst false p)], .junk, .c (.ptr 2 0 0), .junk, .c (.ptr 3 0 0), .c (.ptr 6 0 0), .junk, vi .i64 n, vi .i64 i] [none, none, some (.var [.t (.v (.bool s)), .t (.lst false r), .t (.v (.bool t)), .t (.lst false p)]), some (.var (rawZ.map .t)), none, none, some (.var [.t (.v (.bool s2)), .t (.lst false r2), .t (.v (.bool t2)), .t (.lst false p2)])]
theorem ripower_call (x : Rat) (k a : Nat) (hk : k <= 100) (h1 : Qs x a) (ha : a <= 67108864) :
  Qs (x ^ k) (1 + k * a) /\ ACall Tryz.prog 76 [.val (.agg (qc x).row), .val (ti .i64 (k : Int))] ⟨[.val (.agg (qc (x ^ k)).row)], [none, none]⟩ := by
 have hsz : ∀ m, Qs (x ^ m) (1 + m * a) := fun m => by
  induction m with
  | zero => rw [Rat.pow_zero]; exact (Qs.whole (n := 1) (by decide) (Nat.le_refl 1)).mono (by omega)
  | succ m ih => rw [Rat.pow_succ]; exact (qan ih h1).mono (by rw [Nat.succ_mul]; omega)
 refine ⟨hsz k, ?_⟩
 have hmul : ∀ m, m < k -> ACall Tryz.prog 30 [.val (.agg (qc (x ^ m)).row), .val (.agg (qc x).row)] ⟨[.val (.agg (qc (x ^ (m + 1))).row)], [none, none]⟩ := fun m hm => by
  have hb : m * a <= 100 * a := Nat.mul_le_mul_right _ (by omega)
  have := (qbf (hsz m) h1 (by omega)).2
  rwa [<- Rat.pow_succ] at this
 have cw := qam 1 (by omega) (by omega)
 rw [show ((1 : Int) : Rat) = x ^ 0 from (Rat.pow_zero x).symm] at cw
 obtain ⟨N, hN⟩ : ∃ N : Int, N = (k : Int) := ⟨_, rfl⟩
 obtain ⟨T, hT⟩ : ∃ T, T = (qc (x ^ k)).row := ⟨_, rfl⟩
 obtain ⟨s, t, r, p, hrow, _⟩ := qrow x
 obtain ⟨s0, t0, r0, p0, hrow0, _⟩ := qrow (x ^ 0)
 rw [<- hN, <- hT, hrow]
 rw [hrow0] at cw
 rw [hrow] at hmul
 refine callZ ccOk mixed [.val] Tryz.func76 rfl rfl (by kernel_rfl) fun zA zB zC zD zE zF zG zH zI zJ zK zL zM zN zO zP zQ zR zS zT zU zV zX zY zZ za zb zc zd ze zg zh zi zk zl zm zn zo zq zr zs zt zu zw zx zy zz zW zth A L F hS hF => ?_
 cbv
 refine ⟨_, hS.call (cw), ?_⟩
 cbv
 have hN : N = (k : Int) := hN
 refine loopZ ccOk mixed hS (fun (m : Nat) s' => ∃ (i : Nat) (I : Int) (s2 t2 : Bool) (r2 p2 : Abs.Rows), I = i /\ i + m = k /\ (qc (x ^ i)).row = [.v (.bool s2), .lst false r2, .v (.bool t2), .lst false p2] /\ s' = ripoSt s r t p s2 r2 t2 p2 N I) (n := k) (s0 := ripoSt s r t p s0 r0 t0 p0 N 0) (qaq ?_ ?_) rfl (by show 2 <= 7; omega) ?_ ?_
 ·simp [leT, ripoSt, mkSt, vi]
 ·simp [leH, ripoSt, mkSt, rawZ]
 ·exact ⟨0, 0, s0, t0, r0, p0, rfl, by omega, hrow0, rfl⟩
 ·rintro m s1 ⟨i, I, s2, t2, r2, p2, hI, him, hv, hs1⟩
  by_cases hi : i < k
  ·have l1 : zO I N = true := by rw [hS.lt]; exact decide_eq_true (by omega)
   have cm := hmul i hi
   obtain ⟨s5, t5, r5, p5, hrow5, _⟩ := qrow (x ^ (i + 1))
   rw [hv, hrow5] at cm
   obtain ⟨I', hI', i1⟩ : ∃ I' : Int, I' = ((i + 1 : Nat) : Int) /\ zA .i64 (zB I 1) = I' := ⟨I + 1, by omega, by rw [hS.add, hS.wrap, wrap_i64 (by omega) (by omega)]⟩
   have hmm : m - 1 < m := by omega
   have hnx : ∃ (i2 : Nat) (I2 : Int) (s9 t9 : Bool) (r9 p9 : Abs.Rows), I2 = i2 /\ i2 + (m - 1) = k /\ (qc (x ^ i2)).row = [.v (.bool s9), .lst false r9, .v (.bool t9), .lst false p9] /\ ripoSt s r t p s5 r5 t5 p5 N I' = ripoSt s r t p s9 r9 t9 p9 N I2 := ⟨i + 1, I', s5, t5, r5, p5, hI', by omega, hrow5, rfl⟩
   clear hmul
   subst hs1
   cbv
   refine bT l1 ?_
   refine ⟨_, hS.call (cm), ?_⟩
   cbv
   exact again (s' := ripoSt s r t p s5 r5 t5 p5 N I') (m := m - 1) (by simp [leT, ripoSt, mkSt, vi, i1]) (by simp [leH, ripoSt, mkSt, rawZ]) rfl (by show 2 <= 7; omega) hmm hnx
  ·have l1 : zO I N = false := by rw [hS.lt]; exact decide_eq_false (by omega)
   have hik : i = k := by omega
   rw [hik, <- hT] at hv
   clear hmul
   subst hv
   subst hs1
   cbv
   refine bF l1 ?_
   exact hF _ (ResLe.refl _)
theorem rp6power_call (x : Rat) (k a : Nat) (hk : k <= 100) (h1 : Qs x a) (ha : a <= 67108864) :
  Qs (x ^ k) (1 + k * a) /\ ACall Tryz.prog 109 [.val (.agg (qc x).row), .val (ti .i64 (k : Int))] ⟨[.val (.agg (qc (x ^ k)).row)], [none, none]⟩ := by
 have hsz : ∀ m, Qs (x ^ m) (1 + m * a) := fun m => by
  induction m with
  | zero => rw [Rat.pow_zero]; exact (Qs.whole (n := 1) (by decide) (Nat.le_refl 1)).mono (by omega)
  | succ m ih => rw [Rat.pow_succ]; exact (qan ih h1).mono (by rw [Nat.succ_mul]; omega)
 refine ⟨hsz k, ?_⟩
 have hmul : ∀ m, m < k -> ACall Tryz.prog 30 [.val (.agg (qc (x ^ m)).row), .val (.agg (qc x).row)] ⟨[.val (.agg (qc (x ^ (m + 1))).row)], [none, none]⟩ := fun m hm => by
  have hb : m * a <= 100 * a := Nat.mul_le_mul_right _ (by omega)
  have := (qbf (hsz m) h1 (by omega)).2
  rwa [<- Rat.pow_succ] at this
 have cw := qam 1 (by omega) (by omega)
 rw [show ((1 : Int) : Rat) = x ^ 0 from (Rat.pow_zero x).symm] at cw
 obtain ⟨N, hN⟩ : ∃ N : Int, N = (k : Int) := ⟨_, rfl⟩
 obtain ⟨T, hT⟩ : ∃ T, T = (qc (x ^ k)).row := ⟨_, rfl⟩
 obtain ⟨s, t, r, p, hrow, _⟩ := qrow x
 obtain ⟨s0, t0, r0, p0, hrow0, _⟩ := qrow (x ^ 0)
 rw [<- hN, <- hT, hrow]
 rw [hrow0] at cw
 rw [hrow] at hmul
 refine callZ ccOk mixed [.val] Tryz.func109 rfl rfl (by kernel_rfl) fun zA zB zC zD zE zF zG zH zI zJ zK zL zM zN zO zP zQ zR zS zT zU zV zX zY zZ za zb zc zd ze zg zh zi zk zl zm zn zo zq zr zs zt zu zw zx zy zz zW zth A L F hS hF => ?_
 cbv
 refine ⟨_, hS.call (cw), ?_⟩
 cbv
 have hN : N = (k : Int) := hN
 refine loopZ ccOk mixed hS (fun (m : Nat) s' => ∃ (i : Nat) (I : Int) (s2 t2 : Bool) (r2 p2 : Abs.Rows), I = i /\ i + m = k /\ (qc (x ^ i)).row = [.v (.bool s2), .lst false r2, .v (.bool t2), .lst false p2] /\ s' = rp6poSt s r t p s2 r2 t2 p2 N I) (n := k) (s0 := rp6poSt s r t p s0 r0 t0 p0 N 0) (qaq ?_ ?_) rfl (by show 2 <= 7; omega) ?_ ?_
 ·simp [leT, rp6poSt, mkSt, vi]
 ·simp [leH, rp6poSt, mkSt, rawZ]
 ·exact ⟨0, 0, s0, t0, r0, p0, rfl, by omega, hrow0, rfl⟩
 ·rintro m s1 ⟨i, I, s2, t2, r2, p2, hI, him, hv, hs1⟩
  by_cases hi : i < k
  ·have l1 : zO I N = true := by rw [hS.lt]; exact decide_eq_true (by omega)
   have cm := hmul i hi
   obtain ⟨s5, t5, r5, p5, hrow5, _⟩ := qrow (x ^ (i + 1))
   rw [hv, hrow5] at cm
   obtain ⟨I', hI', i1⟩ : ∃ I' : Int, I' = ((i + 1 : Nat) : Int) /\ zA .i64 (zB I 1) = I' := ⟨I + 1, by omega, by rw [hS.add, hS.wrap, wrap_i64 (by omega) (by omega)]⟩
   have hmm : m - 1 < m := by omega
   have hnx : ∃ (i2 : Nat) (I2 : Int) (s9 t9 : Bool) (r9 p9 : Abs.Rows), I2 = i2 /\ i2 + (m - 1) = k /\ (qc (x ^ i2)).row = [.v (.bool s9), .lst false r9, .v (.bool t9), .lst false p9] /\ rp6poSt s r t p s5 r5 t5 p5 N I' = rp6poSt s r t p s9 r9 t9 p9 N I2 := ⟨i + 1, I', s5, t5, r5, p5, hI', by omega, hrow5, rfl⟩
   clear hmul
   subst hs1
   cbv
   refine bT l1 ?_
   refine ⟨_, hS.call (cm), ?_⟩
   cbv
   exact again (s' := rp6poSt s r t p s5 r5 t5 p5 N I') (m := m - 1) (by simp [leT, rp6poSt, mkSt, vi, i1]) (by simp [leH, rp6poSt, mkSt, rawZ]) rfl (by show 2 <= 7; omega) hmm hnx
  ·have l1 : zO I N = false := by rw [hS.lt]; exact decide_eq_false (by omega)
   have hik : i = k := by omega
   rw [hik, <- hT] at hv
   clear hmul
   subst hv
   subst hs1
   cbv
   refine bF l1 ?_
   exact hF _ (ResLe.refl _)
theorem ipower_call (x : Rat) (k a : Nat) (hk : k <= 100) (h1 : Qs x a) (ha : a <= 67108864) :
  Qs (x ^ k) (1 + k * a) /\ ACall Tryz.prog 125 [.val (.agg (qc x).row), .val (ti .i64 (k : Int))] ⟨[.val (.agg (qc (x ^ k)).row)], [none, none]⟩ := by
 have hsz : ∀ m, Qs (x ^ m) (1 + m * a) := fun m => by
  induction m with
  | zero => rw [Rat.pow_zero]; exact (Qs.whole (n := 1) (by decide) (Nat.le_refl 1)).mono (by omega)
  | succ m ih => rw [Rat.pow_succ]; exact (qan ih h1).mono (by rw [Nat.succ_mul]; omega)
 refine ⟨hsz k, ?_⟩
 have hmul : ∀ m, m < k -> ACall Tryz.prog 99 [.val (.agg (qc (x ^ m)).row), .val (.agg (qc x).row)] ⟨[.val (.agg (qc (x ^ (m + 1))).row)], [none, none]⟩ := fun m hm => by
  have hb : m * a <= 100 * a := Nat.mul_le_mul_right _ (by omega)
  have := (pmul_row (hsz m) h1 (by omega)).2
  rwa [<- Rat.pow_succ] at this
 have cw := pwhole_row 1 (by omega) (by omega)
 rw [show ((1 : Int) : Rat) = x ^ 0 from (Rat.pow_zero x).symm] at cw
 obtain ⟨N, hN⟩ : ∃ N : Int, N = (k : Int) := ⟨_, rfl⟩
 obtain ⟨T, hT⟩ : ∃ T, T = (qc (x ^ k)).row := ⟨_, rfl⟩
 obtain ⟨s, t, r, p, hrow, _⟩ := qrow x
 obtain ⟨s0, t0, r0, p0, hrow0, _⟩ := qrow (x ^ 0)
 rw [<- hN, <- hT, hrow]
 rw [hrow0] at cw
 rw [hrow] at hmul
 refine callZ ccOk mixed [.val] Tryz.func125 rfl rfl (by kernel_rfl) fun zA zB zC zD zE zF zG zH zI zJ zK zL zM zN zO zP zQ zR zS zT zU zV zX zY zZ za zb zc zd ze zg zh zi zk zl zm zn zo zq zr zs zt zu zw zx zy zz zW zth A L F hS hF => ?_
 cbv
 refine ⟨_, hS.call (cw), ?_⟩
 cbv
 have hN : N = (k : Int) := hN
 refine loopZ ccOk mixed hS (fun (m : Nat) s' => ∃ (i : Nat) (I : Int) (s2 t2 : Bool) (r2 p2 : Abs.Rows), I = i /\ i + m = k /\ (qc (x ^ i)).row = [.v (.bool s2), .lst false r2, .v (.bool t2), .lst false p2] /\ s' = ipoSt s r t p s2 r2 t2 p2 N I) (n := k) (s0 := ipoSt s r t p s0 r0 t0 p0 N 0) (qaq ?_ ?_) rfl (by show 2 <= 7; omega) ?_ ?_
 ·simp [leT, ipoSt, mkSt, vi]
 ·simp [leH, ipoSt, mkSt, rawZ]
 ·exact ⟨0, 0, s0, t0, r0, p0, rfl, by omega, hrow0, rfl⟩
 ·rintro m s1 ⟨i, I, s2, t2, r2, p2, hI, him, hv, hs1⟩
  by_cases hi : i < k
  ·have l1 : zO I N = true := by rw [hS.lt]; exact decide_eq_true (by omega)
   have cm := hmul i hi
   obtain ⟨s5, t5, r5, p5, hrow5, _⟩ := qrow (x ^ (i + 1))
   rw [hv, hrow5] at cm
   obtain ⟨I', hI', i1⟩ : ∃ I' : Int, I' = ((i + 1 : Nat) : Int) /\ zA .i64 (zB I 1) = I' := ⟨I + 1, by omega, by rw [hS.add, hS.wrap, wrap_i64 (by omega) (by omega)]⟩
   have hmm : m - 1 < m := by omega
   have hnx : ∃ (i2 : Nat) (I2 : Int) (s9 t9 : Bool) (r9 p9 : Abs.Rows), I2 = i2 /\ i2 + (m - 1) = k /\ (qc (x ^ i2)).row = [.v (.bool s9), .lst false r9, .v (.bool t9), .lst false p9] /\ ipoSt s r t p s5 r5 t5 p5 N I' = ipoSt s r t p s9 r9 t9 p9 N I2 := ⟨i + 1, I', s5, t5, r5, p5, hI', by omega, hrow5, rfl⟩
   clear hmul
   subst hs1
   cbv
   refine bT l1 ?_
   refine ⟨_, hS.call (cm), ?_⟩
   cbv
   exact again (s' := ipoSt s r t p s5 r5 t5 p5 N I') (m := m - 1) (by simp [leT, ipoSt, mkSt, vi, i1]) (by simp [leH, ipoSt, mkSt, rawZ]) rfl (by show 2 <= 7; omega) hmm hnx
  ·have l1 : zO I N = false := by rw [hS.lt]; exact decide_eq_false (by omega)
   have hik : i = k := by omega
   rw [hik, <- hT] at hv
   clear hmul
   subst hv
   subst hs1
   cbv
   refine bF l1 ?_
   exact hF _ (ResLe.refl _)
theorem rnum_neg (q : Rat) : q < 0 ↔ q.num < 0 := by
 rw [<- Rat.not_le, <- Rat.num_nonneg]; omega
theorem rnum_pos (q : Rat) : 0 < q ↔ 0 < q.num := by
 have h := rnum_neg (-q)
 rw [show (-q).num = -q.num from rfl] at h
 have : -q < 0 ↔ 0 < q := by grind
 rw [<- this, h]; omega
theorem cmpI_spec (a : Int) : (cmpI a 0 < 0 ↔ a < 0) /\ (0 < cmpI a 0 ↔ 0 < a) := by
 unfold cmpI
 split
 ·omega
 ·split <;> omega
theorem psign_ex (q : Rat) : ∃ c : Int, (c < 0 ↔ q < 0) /\ (0 < c ↔ 0 < q) /\ ACall Tryz.prog 113 [.val (.agg (qc q).row)] ⟨[.val (ti .i64 c)], [none]⟩ :=
 ⟨cmpI q.num 0, by rw [rnum_neg]; exact (cmpI_spec _).1, by rw [rnum_pos]; exact (cmpI_spec _).2, qsign_call _ (qa9 q).n rfl⟩
theorem rqsign_ex (q : Rat) : ∃ c : Int, (c < 0 ↔ q < 0) /\ (0 < c ↔ 0 < q) /\ ACall Tryz.prog 51 [.val (.agg (qc q).row)] ⟨[.val (ti .i64 c)], [none]⟩ :=
 ⟨cmpI q.num 0, by rw [rnum_neg]; exact (cmpI_spec _).1, by rw [rnum_pos]; exact (cmpI_spec _).2, rqsign_call _ (qa9 q).n rfl⟩
theorem spplus_call {x y z w : Rat} {n : Nat} (h1 : Qs x n) (h2 : Qs y n) (h3 : Qs z n) (h4 : Qs w n) (hn : n <= 1000000) :
  Qs (x + z) (n + n + 1) /\ Qs (y + w) (n + n + 1) /\ ACall Tryz.prog 72 [.val (.agg ((qc x).row ++ (qc y).row)), .val (.agg ((qc z).row ++ (qc w).row))] ⟨[.val (.agg ((qc (x + z)).row ++ (qc (y + w)).row))], [none, none]⟩ := by
 obtain ⟨q1, c1⟩ := padd_row h1 h3 (by omega)
 obtain ⟨q2, c2⟩ := padd_row h2 h4 (by omega)
 refine ⟨q1, q2, ?_⟩
 obtain ⟨s1, t1, r1, p1, e1, _⟩ := qrow x
 obtain ⟨s2, t2, r2, p2, e2, _⟩ := qrow y
 obtain ⟨s3, t3, r3, p3, e3, _⟩ := qrow z
 obtain ⟨s4, t4, r4, p4, e4, _⟩ := qrow w
 obtain ⟨s5, t5, r5, p5, e5, _⟩ := qrow (x + z)
 obtain ⟨s6, t6, r6, p6, e6, _⟩ := qrow (y + w)
 simp only [e1, e2, e3, e4, e5, e6] at c1 c2 ⊢
 clear e1 e2 e3 e4 e5 e6 q1 q2
 refine callZ ccOk mixed [.val] Tryz.func72 rfl rfl (by kernel_rfl) fun zA zB zC zD zE zF zG zH zI zJ zK zL zM zN zO zP zQ zR zS zT zU zV zX zY zZ za zb zc zd ze zg zh zi zk zl zm zn zo zq zr zs zt zu zw zx zy zz zW zth A L F hS hF => ?_
 cbv
 refine ⟨_, hS.call (c1), ?_⟩
 cbv
 refine ⟨_, hS.call (c2), ?_⟩
 cbv
 exact hF _ (ResLe.refl _)
theorem rivadd_call {x y z w : Rat} {n : Nat} (h1 : Qs x n) (h2 : Qs y n) (h3 : Qs z n) (h4 : Qs w n) (hn : n <= 1000000) :
  Qs (x + z) (n + n + 1) /\ Qs (y + w) (n + n + 1) /\ ACall Tryz.prog 21 [.val (.agg ((qc x).row ++ (qc y).row)), .val (.agg ((qc z).row ++ (qc w).row))] ⟨[.val (.agg ((qc (x + z)).row ++ (qc (y + w)).row))], [none, none]⟩ := by
 obtain ⟨q1, c1⟩ := rqadd_row h1 h3 (by omega)
 obtain ⟨q2, c2⟩ := rqadd_row h2 h4 (by omega)
 refine ⟨q1, q2, ?_⟩
 obtain ⟨s1, t1, r1, p1, e1, _⟩ := qrow x
 obtain ⟨s2, t2, r2, p2, e2, _⟩ := qrow y
 obtain ⟨s3, t3, r3, p3, e3, _⟩ := qrow z
 obtain ⟨s4, t4, r4, p4, e4, _⟩ := qrow w
 obtain ⟨s5, t5, r5, p5, e5, _⟩ := qrow (x + z)
 obtain ⟨s6, t6, r6, p6, e6, _⟩ := qrow (y + w)
 simp only [e1, e2, e3, e4, e5, e6] at c1 c2 ⊢
 clear e1 e2 e3 e4 e5 e6 q1 q2
 refine callZ ccOk mixed [.val] Tryz.func21 rfl rfl (by kernel_rfl) fun zA zB zC zD zE zF zG zH zI zJ zK zL zM zN zO zP zQ zR zS zT zU zV zX zY zZ za zb zc zd ze zg zh zi zk zl zm zn zo zq zr zs zt zu zw zx zy zz zW zth A L F hS hF => ?_
 cbv
 refine ⟨_, hS.call (c1), ?_⟩
 cbv
 refine ⟨_, hS.call (c2), ?_⟩
 cbv
 exact hF _ (ResLe.refl _)
open Go Go.Abs Go.Abs.M Go.Proofs
theorem hull_call (x : Rat) (ys : List Rat) (hl : ys.length <= 100) (hq : ∀ q ∈ x :: ys, Qs q 68719476736) : ACall Tryz.prog 124 [.val (tl (ur (x :: ys)))] ⟨[.val (.agg ((qc (lmin x ys)).row ++ (qc (lmax x ys)).row))], [none]⟩ := by
 have c1 := least_call x ys hl hq
 have c2 := greatest_call x ys hl hq
 obtain ⟨s1, t1, r1, p1, e1, _⟩ := qrow (lmin x ys)
 obtain ⟨s2, t2, r2, p2, e2, _⟩ := qrow (lmax x ys)
 rw [e1] at c1
 rw [e2] at c2
 rw [e1, e2]
 generalize ur (x :: ys) = X at *
 refine callZ ccOk mixed [.val] Tryz.func124 rfl rfl (by kernel_rfl) fun zA zB zC zD zE zF zG zH zI zJ zK zL zM zN zO zP zQ zR zS zT zU zV zX zY zZ za zb zc zd ze zg zh zi zk zl zm zn zo zq zr zs zt zu zw zx zy zz zW zth A L F hS hF => ?_
 cbv
 refine ⟨_, hS.call (c1), ?_⟩
 cbv
 refine ⟨_, hS.call (c2), ?_⟩
 cbv
 exact hF _ (ResLe.refl _)
def mlo (x y z w : Rat) : Rat := rmin (rmin (x * z) (x * w)) (rmin (y * z) (y * w))
def mhi (x y z w : Rat) : Rat := rmax (rmax (x * z) (x * w)) (rmax (y * z) (y * w))
theorem lmin_four (p q r s : Rat) : lmin p [q, r, s] = rmin (rmin p q) (rmin r s) := by
 unfold lmin rmin
 simp only [List.foldl_cons, List.foldl_nil]
 grind
theorem lmax_four (p q r s : Rat) : lmax p [q, r, s] = rmax (rmax p q) (rmax r s) := by
 unfold lmax rmax
 simp only [List.foldl_cons, List.foldl_nil]
 grind
theorem rivmul_call {x y z w : Rat} {n : Nat} (h1 : Qs x n) (h2 : Qs y n) (h3 : Qs z n) (h4 : Qs w n) (hn : n <= 1000000) :
  Qs (mlo x y z w) (n + n) /\ Qs (mhi x y z w) (n + n) /\ ACall Tryz.prog 25 [.val (.agg ((qc x).row ++ (qc y).row)), .val (.agg ((qc z).row ++ (qc w).row))] ⟨[.val (.agg ((qc (mlo x y z w)).row ++ (qc (mhi x y z w)).row))], [none, none]⟩ := by
 obtain ⟨q1, c1⟩ := qbf h1 h3 (by omega)
 obtain ⟨q2, c2⟩ := qbf h1 h4 (by omega)
 obtain ⟨q3, c3⟩ := qbf h2 h3 (by omega)
 obtain ⟨q4, c4⟩ := qbf h2 h4 (by omega)
 have l1 := less_call (q1.mono (by omega)) (q2.mono (by omega))
 have l2 := less_call (q3.mono (by omega)) (q4.mono (by omega))
 have l3 := less_call ((rmin_qs q1 q2).mono (by omega)) ((rmin_qs q3 q4).mono (by omega))
 have m1 := more_call (q1.mono (by omega)) (q2.mono (by omega))
 have m2 := more_call (q3.mono (by omega)) (q4.mono (by omega))
 have m3 := more_call ((rmax_qs q1 q2).mono (by omega)) ((rmax_qs q3 q4).mono (by omega))
 refine ⟨rmin_qs (rmin_qs q1 q2) (rmin_qs q3 q4), rmax_qs (rmax_qs q1 q2) (rmax_qs q3 q4), ?_⟩
 clear q1 q2 q3 q4
 change ACall _ _ _ ⟨[.val (.agg (qc (mlo x y z w)).row)], _⟩ at l3
 change ACall _ _ _ ⟨[.val (.agg (qc (mhi x y z w)).row)], _⟩ at m3
 obtain ⟨s1, t1, r1, p1, e1, _⟩ := qrow x
 obtain ⟨s2, t2, r2, p2, e2, _⟩ := qrow y
 obtain ⟨s3, t3, r3, p3, e3, _⟩ := qrow z
 obtain ⟨s4, t4, r4, p4, e4, _⟩ := qrow w
 obtain ⟨s5, t5, r5, p5, e5, _⟩ := qrow (x * z)
 obtain ⟨s6, t6, r6, p6, e6, _⟩ := qrow (x * w)
 obtain ⟨s7, t7, r7, p7, e7, _⟩ := qrow (y * z)
 obtain ⟨s8, t8, r8, p8, e8, _⟩ := qrow (y * w)
 obtain ⟨s9, t9, r9, p9, e9, _⟩ := qrow (rmin (x * z) (x * w))
 obtain ⟨s10, t10, r10, p10, e10, _⟩ := qrow (rmin (y * z) (y * w))
 obtain ⟨s11, t11, r11, p11, e11, _⟩ := qrow (rmax (x * z) (x * w))
 obtain ⟨s12, t12, r12, p12, e12, _⟩ := qrow (rmax (y * z) (y * w))
 obtain ⟨s13, t13, r13, p13, e13, _⟩ := qrow (mlo x y z w)
 obtain ⟨s14, t14, r14, p14, e14, _⟩ := qrow (mhi x y z w)
 simp only [e1, e2, e3, e4, e5, e6, e7, e8, e9, e10, e11, e12, e13, e14] at c1 c2 c3 c4 l1 l2 l3 m1 m2 m3 ⊢
 clear e1 e2 e3 e4 e5 e6 e7 e8 e9 e10 e11 e12 e13 e14
 refine callZ ccOk mixed [.val] Tryz.func25 rfl rfl (by kernel_rfl) fun zA zB zC zD zE zF zG zH zI zJ zK zL zM zN zO zP zQ zR zS zT zU zV zX zY zZ za zb zc zd ze zg zh zi zk zl zm zn zo zq zr zs zt zu zw zx zy zz zW zth A L F hS hF => ?_
 cbv
 refine ⟨_, hS.call (c1), ?_⟩
 cbv
 refine ⟨_, hS.call (c2), ?_⟩
 cbv
 refine ⟨_, hS.call (c3), ?_⟩
 cbv
 refine ⟨_, hS.call (c4), ?_⟩
 cbv
 refine ⟨_, hS.call (l1), ?_⟩
 cbv
 refine ⟨_, hS.call (l2), ?_⟩
 cbv
 refine ⟨_, hS.call (l3), ?_⟩
 cbv
 refine ⟨_, hS.call (m1), ?_⟩
 cbv
 refine ⟨_, hS.call (m2), ?_⟩
 cbv
 refine ⟨_, hS.call (m3), ?_⟩
 cbv
 exact hF _ (ResLe.refl _)
theorem sptimes_call {x y z w : Rat} {n : Nat} (h1 : Qs x n) (h2 : Qs y n) (h3 : Qs z n) (h4 : Qs w n) (hn : n <= 1000000) :
  ACall Tryz.prog 74 [.val (.agg ((qc x).row ++ (qc y).row)), .val (.agg ((qc z).row ++ (qc w).row))] ⟨[.val (.agg ((qc (mlo x y z w)).row ++ (qc (mhi x y z w)).row))], [none, none]⟩ := by
 obtain ⟨q1, c1⟩ := pmul_row h1 h3 (by omega)
 obtain ⟨q2, c2⟩ := pmul_row h1 h4 (by omega)
 obtain ⟨q3, c3⟩ := pmul_row h2 h3 (by omega)
 obtain ⟨q4, c4⟩ := pmul_row h2 h4 (by omega)
 have ch := hull_call (x * z) [x * w, y * z, y * w] (by simp) (by
  simp only [List.mem_cons, List.not_mem_nil, or_false]
  rintro q (rfl | rfl | rfl | rfl)
  ·exact q1.mono (by omega)
  ·exact q2.mono (by omega)
  ·exact q3.mono (by omega)
  ·exact q4.mono (by omega))
 rw [lmin_four, lmax_four] at ch
 change ACall _ _ _ ⟨[.val (.agg ((qc (mlo x y z w)).row ++ (qc (mhi x y z w)).row))], _⟩ at ch
 rw [show ur [x * z, x * w, y * z, y * w] = [(qc (x * z)).row, (qc (x * w)).row, (qc (y * z)).row, (qc (y * w)).row] from rfl] at ch
 clear q1 q2 q3 q4
 obtain ⟨s1, t1, r1, p1, e1, _⟩ := qrow x
 obtain ⟨s2, t2, r2, p2, e2, _⟩ := qrow y
 obtain ⟨s3, t3, r3, p3, e3, _⟩ := qrow z
 obtain ⟨s4, t4, r4, p4, e4, _⟩ := qrow w
 obtain ⟨s5, t5, r5, p5, e5, _⟩ := qrow (x * z)
 obtain ⟨s6, t6, r6, p6, e6, _⟩ := qrow (x * w)
 obtain ⟨s7, t7, r7, p7, e7, _⟩ := qrow (y * z)
 obtain ⟨s8, t8, r8, p8, e8, _⟩ := qrow (y * w)
 obtain ⟨s13, t13, r13, p13, e13, _⟩ := qrow (mlo x y z w)
 obtain ⟨s14, t14, r14, p14, e14, _⟩ := qrow (mhi x y z w)
 simp only [e1, e2, e3, e4, e5, e6, e7, e8, e13, e14] at c1 c2 c3 c4 ch ⊢
 clear e1 e2 e3 e4 e5 e6 e7 e8 e13 e14
 obtain ⟨R, hR⟩ : ∃ R, R = [[Tree.v (.bool s5), .lst false r5, .v (.bool t5), .lst false p5], [.v (.bool s6), .lst false r6, .v (.bool t6), .lst false p6], [.v (.bool s7), .lst false r7, .v (.bool t7), .lst false p7], [.v (.bool s8), .lst false r8, .v (.bool t8), .lst false p8]] := ⟨_, rfl⟩
 have lR : R.length = 4 := by rw [hR]; rfl
 rw [<- hR] at ch
 refine callZ ccOk mixed [.val] Tryz.func74 rfl rfl (by kernel_rfl) fun zA zB zC zD zE zF zG zH zI zJ zK zL zM zN zO zP zQ zR zS zT zU zV zX zY zZ za zb zc zd ze zg zh zi zk zl zm zn zo zq zr zs zt zu zw zx zy zz zW zth A L F hS hF => ?_
 have f1 : zo 0 4 R = true := by rw [hS.fit, lR]; rfl
 have x1 : zq R 0 4 = R := by rw [hS.part, List.drop_zero, List.take_of_length_le (by omega)]
 cbv
 refine ⟨_, hS.call (c1), ?_⟩
 cbv
 refine ⟨_, hS.call (c2), ?_⟩
 cbv
 refine ⟨_, hS.call (c3), ?_⟩
 cbv
 refine ⟨_, hS.call (c4), ?_⟩
 cbv
 rw [<- hR]
 refine nd (f1) ?_
 rw [x1]
 refine ⟨_, hS.call (ch), ?_⟩
 cbv
 exact hF _ (ResLe.refl _)
open Go Go.Abs Go.Abs.M Go.Proofs
def pwlo (x y : Rat) (k : Nat) : Rat := if 0 < k /\ k % 2 = 0 /\ x < 0 /\ 0 < y then 0 else rmin (x ^ k) (y ^ k)
def pwhi (x y : Rat) (k : Nat) : Rat := rmax (x ^ k) (y ^ k)
theorem rpow_add (x : Rat) (a : Nat) : ∀ b : Nat, x ^ (a + b) = x ^ a * x ^ b
 | 0 => by rw [Nat.add_zero, Rat.pow_zero, Rat.mul_one]
 | b + 1 => by rw [<- Nat.add_assoc, Rat.pow_succ, rpow_add x a b, Rat.pow_succ, Rat.mul_assoc]
theorem even_nonneg (x : Rat) (k : Nat) (h : k % 2 = 0) : 0 <= x ^ k := by
 obtain ⟨m, rfl⟩ : ∃ m, k = m + m := ⟨k / 2, by omega⟩
 rw [rpow_add]
 rcases (Rat.le_total (a := 0) (b := x ^ m)) with h0 | h0
 ·exact Rat.mul_nonneg h0 h0
 ·have h1 : 0 <= -(x ^ m) := by grind
  have := Rat.mul_nonneg h1 h1
  rw [Rat.neg_mul, Rat.mul_neg, Rat.neg_neg] at this
  exact this
theorem lmin_zero {a b : Rat} (h1 : 0 <= a) (h2 : 0 <= b) : lmin 0 [a, b] = 0 := by
 unfold lmin; simp only [List.foldl_cons, List.foldl_nil]; grind
theorem lmax_zero {a b : Rat} (h1 : 0 <= a) (h2 : 0 <= b) : lmax 0 [a, b] = rmax a b := by
 unfold lmax rmax; simp only [List.foldl_cons, List.foldl_nil]; grind
theorem rivpow_call {x y : Rat} {n : Nat} (k : Nat) (hk9 : k <= 9) (h1 : Qs x n) (h2 : Qs y n) (hn : n <= 1000000) :
  Qs (pwlo x y k) (1 + 9 * n) /\ Qs (pwhi x y k) (1 + 9 * n) /\ ACall Tryz.prog 27 [.val (.agg ((qc x).row ++ (qc y).row)), .val (ti .i64 (k : Int))] ⟨[.val (.agg ((qc (pwlo x y k)).row ++ (qc (pwhi x y k)).row))], [none, none]⟩ := by
 obtain ⟨q1, cp⟩ := ripower_call x k n (by omega) h1 (by omega)
 obtain ⟨q2, cq⟩ := ripower_call y k n (by omega) h2 (by omega)
 have hkn : k * n <= 9 * n := Nat.mul_le_mul_right _ hk9
 have q1 := q1.mono (b := 1 + 9 * n) (by omega)
 have q2 := q2.mono (b := 1 + 9 * n) (by omega)
 have cl := less_call (q1.mono (by omega)) (q2.mono (by omega))
 have cm := more_call (q1.mono (by omega)) (q2.mono (by omega))
 have cz := qam 0 (by omega) (by omega)
 rw [show ((0 : Int) : Rat) = 0 from rfl] at cz
 refine ⟨by unfold pwlo; split; exact Qs.zero (by omega); exact rmin_qs q1 q2, rmax_qs q1 q2, ?_⟩
 clear q1 q2 hkn
 obtain ⟨c, c1, c2, ca⟩ := rqsign_ex x
 obtain ⟨d, d1, d2, cb⟩ := rqsign_ex y
 have hsplit : ¬ 0 < k ∨ (0 < k /\ ¬ k % 2 = 0) ∨ (0 < k /\ k % 2 = 0 /\ ¬ x < 0) ∨ (0 < k /\ k % 2 = 0 /\ x < 0 /\ ¬ 0 < y) ∨ (0 < k /\ k % 2 = 0 /\ x < 0 /\ 0 < y) := by
  by_cases a : 0 < k
  ·by_cases b : k % 2 = 0
   ·by_cases e : x < 0
    ·by_cases f : 0 < y
     ·exact .inr (.inr (.inr (.inr ⟨a, b, e, f⟩)))
     ·exact .inr (.inr (.inr (.inl ⟨a, b, e, f⟩)))
    ·exact .inr (.inr (.inl ⟨a, b, e⟩))
   ·exact .inr (.inl ⟨a, b⟩)
  ·exact .inl a
 unfold pwhi
 obtain ⟨s1, t1, r1, p1, e1, _⟩ := qrow x
 obtain ⟨s2, t2, r2, p2, e2, _⟩ := qrow y
 obtain ⟨s3, t3, r3, p3, e3, _⟩ := qrow (x ^ k)
 obtain ⟨s4, t4, r4, p4, e4, _⟩ := qrow (y ^ k)
 obtain ⟨s5, t5, r5, p5, e5, _⟩ := qrow (rmin (x ^ k) (y ^ k))
 obtain ⟨s6, t6, r6, p6, e6, _⟩ := qrow (rmax (x ^ k) (y ^ k))
 obtain ⟨s7, t7, r7, p7, e7, _⟩ := qrow 0
 obtain ⟨N, hN⟩ : ∃ N : Int, N = (k : Int) := ⟨_, rfl⟩
 rw [<- hN] at cp cq ⊢
 simp only [e1, e2, e3, e4, e5, e6, e7] at cp cq cl cm cz ca cb ⊢
 rcases hsplit with hk | ⟨hk, he⟩ | ⟨hk, he, hx⟩ | ⟨hk, he, hx, hy⟩ | ⟨hk, he, hx, hy⟩
 ·rw [pwlo, if_neg (fun h => hk h.1), e5]
  clear e1 e2 e3 e4 e5 e6 e7
  refine callZ ccOk mixed [.val] Tryz.func27 rfl rfl (by kernel_rfl) fun zA zB zC zD zE zF zG zH zI zJ zK zL zM zN zO zP zQ zR zS zT zU zV zX zY zZ za zb zc zd ze zg zh zi zk zl zm zn zo zq zr zs zt zu zw zx zy zz zW zth A L F hS hF => ?_
  have n1 : zO 0 N = false := by rw [hS.lt]; exact decide_eq_false (by omega)
  cbv
  refine ⟨_, hS.call (cp), ?_⟩
  cbv
  refine ⟨_, hS.call (cq), ?_⟩
  cbv
  refine ⟨_, hS.call (cl), ?_⟩
  cbv
  refine ⟨_, hS.call (cm), ?_⟩
  cbv
  refine bF (n1) ?_
  exact hF _ (ResLe.refl _)
 ·rw [pwlo, if_neg (fun h => he h.2.1), e5]
  clear e1 e2 e3 e4 e5 e6 e7
  refine callZ ccOk mixed [.val] Tryz.func27 rfl rfl (by kernel_rfl) fun zA zB zC zD zE zF zG zH zI zJ zK zL zM zN zO zP zQ zR zS zT zU zV zX zY zZ za zb zc zd ze zg zh zi zk zl zm zn zo zq zr zs zt zu zw zx zy zz zW zth A L F hS hF => ?_
  have n1 : zO 0 N = true := by rw [hS.lt]; exact decide_eq_true (by omega)
  have n2 : zM (zF N 2) 0 = false := by rw [hS.rem, Int.tmod_eq_emod_of_nonneg (by omega), hS.eq]; exact decide_eq_false (by omega)
  cbv
  refine ⟨_, hS.call (cp), ?_⟩
  cbv
  refine ⟨_, hS.call (cq), ?_⟩
  cbv
  refine ⟨_, hS.call (cl), ?_⟩
  cbv
  refine ⟨_, hS.call (cm), ?_⟩
  cbv
  refine bT (n1) ?_
  refine bF (n2) ?_
  exact hF _ (ResLe.refl _)
 ·rw [pwlo, if_neg (fun h => hx h.2.2.1), e5]
  clear e1 e2 e3 e4 e5 e6 e7
  refine callZ ccOk mixed [.val] Tryz.func27 rfl rfl (by kernel_rfl) fun zA zB zC zD zE zF zG zH zI zJ zK zL zM zN zO zP zQ zR zS zT zU zV zX zY zZ za zb zc zd ze zg zh zi zk zl zm zn zo zq zr zs zt zu zw zx zy zz zW zth A L F hS hF => ?_
  have n1 : zO 0 N = true := by rw [hS.lt]; exact decide_eq_true (by omega)
  have n2 : zM (zF N 2) 0 = true := by rw [hS.rem, Int.tmod_eq_emod_of_nonneg (by omega), hS.eq]; exact decide_eq_true (by omega)
  have n3 : zO c 0 = false := by rw [hS.lt]; exact decide_eq_false (fun h => hx (c1.1 h))
  cbv
  refine ⟨_, hS.call (cp), ?_⟩
  cbv
  refine ⟨_, hS.call (cq), ?_⟩
  cbv
  refine ⟨_, hS.call (cl), ?_⟩
  cbv
  refine ⟨_, hS.call (cm), ?_⟩
  cbv
  refine bT (n1) ?_
  refine bT (n2) ?_
  refine ⟨_, hS.call (ca), ?_⟩
  cbv
  refine bF (n3) ?_
  exact hF _ (ResLe.refl _)
 ·rw [pwlo, if_neg (fun h => hy h.2.2.2), e5]
  clear e1 e2 e3 e4 e5 e6 e7
  refine callZ ccOk mixed [.val] Tryz.func27 rfl rfl (by kernel_rfl) fun zA zB zC zD zE zF zG zH zI zJ zK zL zM zN zO zP zQ zR zS zT zU zV zX zY zZ za zb zc zd ze zg zh zi zk zl zm zn zo zq zr zs zt zu zw zx zy zz zW zth A L F hS hF => ?_
  have n1 : zO 0 N = true := by rw [hS.lt]; exact decide_eq_true (by omega)
  have n2 : zM (zF N 2) 0 = true := by rw [hS.rem, Int.tmod_eq_emod_of_nonneg (by omega), hS.eq]; exact decide_eq_true (by omega)
  have n3 : zO c 0 = true := by rw [hS.lt]; exact decide_eq_true (c1.2 hx)
  have n4 : zO 0 d = false := by rw [hS.lt]; exact decide_eq_false (fun h => hy (d2.1 h))
  cbv
  refine ⟨_, hS.call (cp), ?_⟩
  cbv
  refine ⟨_, hS.call (cq), ?_⟩
  cbv
  refine ⟨_, hS.call (cl), ?_⟩
  cbv
  refine ⟨_, hS.call (cm), ?_⟩
  cbv
  refine bT (n1) ?_
  refine bT (n2) ?_
  refine ⟨_, hS.call (ca), ?_⟩
  cbv
  refine bT (n3) ?_
  refine ⟨_, hS.call (cb), ?_⟩
  cbv
  refine bF (n4) ?_
  exact hF _ (ResLe.refl _)
 ·rw [pwlo, if_pos ⟨hk, he, hx, hy⟩, e7]
  clear e1 e2 e3 e4 e5 e6 e7
  refine callZ ccOk mixed [.val] Tryz.func27 rfl rfl (by kernel_rfl) fun zA zB zC zD zE zF zG zH zI zJ zK zL zM zN zO zP zQ zR zS zT zU zV zX zY zZ za zb zc zd ze zg zh zi zk zl zm zn zo zq zr zs zt zu zw zx zy zz zW zth A L F hS hF => ?_
  have n1 : zO 0 N = true := by rw [hS.lt]; exact decide_eq_true (by omega)
  have n2 : zM (zF N 2) 0 = true := by rw [hS.rem, Int.tmod_eq_emod_of_nonneg (by omega), hS.eq]; exact decide_eq_true (by omega)
  have n3 : zO c 0 = true := by rw [hS.lt]; exact decide_eq_true (c1.2 hx)
  have n4 : zO 0 d = true := by rw [hS.lt]; exact decide_eq_true (d2.2 hy)
  cbv
  refine ⟨_, hS.call (cp), ?_⟩
  cbv
  refine ⟨_, hS.call (cq), ?_⟩
  cbv
  refine ⟨_, hS.call (cl), ?_⟩
  cbv
  refine ⟨_, hS.call (cm), ?_⟩
  cbv
  refine bT (n1) ?_
  refine bT (n2) ?_
  refine ⟨_, hS.call (ca), ?_⟩
  cbv
  refine bT (n3) ?_
  refine ⟨_, hS.call (cb), ?_⟩
  cbv
  refine bT (n4) ?_
  refine ⟨_, hS.call (cz), ?_⟩
  cbv
  exact hF _ (ResLe.refl _)
theorem sppower_call {x y : Rat} {n : Nat} (k : Nat) (hk9 : k <= 9) (h1 : Qs x n) (h2 : Qs y n) (hn : n <= 1000000) :
  ACall Tryz.prog 75 [.val (.agg ((qc x).row ++ (qc y).row)), .val (ti .i64 (k : Int))] ⟨[.val (.agg ((qc (pwlo x y k)).row ++ (qc (pwhi x y k)).row))], [none, none]⟩ := by
 obtain ⟨q1, cp⟩ := ipower_call x k n (by omega) h1 (by omega)
 obtain ⟨q2, cq⟩ := ipower_call y k n (by omega) h2 (by omega)
 have hkn : k * n <= 9 * n := Nat.mul_le_mul_right _ hk9
 have q1 := q1.mono (b := 68719476736) (by omega)
 have q2 := q2.mono (b := 68719476736) (by omega)
 have cz := pwhole_row 0 (by omega) (by omega)
 rw [show ((0 : Int) : Rat) = 0 from rfl] at cz
 have ch := hull_call (x ^ k) [y ^ k] (by simp) (by simp; exact ⟨q1, q2⟩)
 have ch3 := hull_call 0 [x ^ k, y ^ k] (by simp) (by simp; exact ⟨Qs.zero (by omega), q1, q2⟩)
 rw [lmin_one, lmax_one] at ch
 rw [show ur [x ^ k, y ^ k] = [(qc (x ^ k)).row, (qc (y ^ k)).row] from rfl] at ch
 rw [show ur [0, x ^ k, y ^ k] = [(qc 0).row, (qc (x ^ k)).row, (qc (y ^ k)).row] from rfl] at ch3
 have ch3 : k % 2 = 0 -> ACall Tryz.prog 124 [.val (tl [(qc 0).row, (qc (x ^ k)).row, (qc (y ^ k)).row])] ⟨[.val (.agg ((qc 0).row ++ (qc (rmax (x ^ k) (y ^ k))).row))], [none]⟩ := fun h => by
  rw [lmin_zero (even_nonneg x k h) (even_nonneg y k h), lmax_zero (even_nonneg x k h) (even_nonneg y k h)] at ch3
  exact ch3
 clear q1 q2 hkn
 obtain ⟨c, c1, c2, ca⟩ := psign_ex x
 obtain ⟨d, d1, d2, cb⟩ := psign_ex y
 have hsplit : ¬ 0 < k ∨ (0 < k /\ ¬ k % 2 = 0) ∨ (0 < k /\ k % 2 = 0 /\ ¬ x < 0) ∨ (0 < k /\ k % 2 = 0 /\ x < 0 /\ ¬ 0 < y) ∨ (0 < k /\ k % 2 = 0 /\ x < 0 /\ 0 < y) := by
  by_cases a : 0 < k
  ·by_cases b : k % 2 = 0
   ·by_cases e : x < 0
    ·by_cases f : 0 < y
     ·exact .inr (.inr (.inr (.inr ⟨a, b, e, f⟩)))
     ·exact .inr (.inr (.inr (.inl ⟨a, b, e, f⟩)))
    ·exact .inr (.inr (.inl ⟨a, b, e⟩))
   ·exact .inr (.inl ⟨a, b⟩)
  ·exact .inl a
 unfold pwhi
 obtain ⟨s1, t1, r1, p1, e1, _⟩ := qrow x
 obtain ⟨s2, t2, r2, p2, e2, _⟩ := qrow y
 obtain ⟨s3, t3, r3, p3, e3, _⟩ := qrow (x ^ k)
 obtain ⟨s4, t4, r4, p4, e4, _⟩ := qrow (y ^ k)
 obtain ⟨s5, t5, r5, p5, e5, _⟩ := qrow (rmin (x ^ k) (y ^ k))
 obtain ⟨s6, t6, r6, p6, e6, _⟩ := qrow (rmax (x ^ k) (y ^ k))
 obtain ⟨s7, t7, r7, p7, e7, _⟩ := qrow 0
 obtain ⟨N, hN⟩ : ∃ N : Int, N = (k : Int) := ⟨_, rfl⟩
 rw [<- hN] at cp cq ⊢
 simp only [e1, e2, e3, e4, e5, e6, e7] at cp cq ch ch3 cz ca cb ⊢
 obtain ⟨R, hR⟩ : ∃ R, R = [[Tree.v (.bool s3), .lst false r3, .v (.bool t3), .lst false p3], [Tree.v (.bool s4), .lst false r4, .v (.bool t4), .lst false p4]] := ⟨_, rfl⟩
 obtain ⟨R3, hR3⟩ : ∃ R, R = [[Tree.v (.bool s7), .lst false r7, .v (.bool t7), .lst false p7], [Tree.v (.bool s3), .lst false r3, .v (.bool t3), .lst false p3], [Tree.v (.bool s4), .lst false r4, .v (.bool t4), .lst false p4]] := ⟨_, rfl⟩
 have lR : R.length = 2 := by rw [hR]; rfl
 have lR3 : R3.length = 3 := by rw [hR3]; rfl
 rw [<- hR] at ch
 rw [<- hR3] at ch3
 rcases hsplit with hk | ⟨hk, he⟩ | ⟨hk, he, hx⟩ | ⟨hk, he, hx, hy⟩ | ⟨hk, he, hx, hy⟩
 ·rw [pwlo, if_neg (fun h => hk h.1), e5]
  clear e1 e2 e3 e4 e5 e6 e7
  refine callZ ccOk mixed [.val] Tryz.func75 rfl rfl (by kernel_rfl) fun zA zB zC zD zE zF zG zH zI zJ zK zL zM zN zO zP zQ zR zS zT zU zV zX zY zZ za zb zc zd ze zg zh zi zk zl zm zn zo zq zr zs zt zu zw zx zy zz zW zth A L F hS hF => ?_
  have n1 : zO 0 N = false := by rw [hS.lt]; exact decide_eq_false (by omega)
  have f1 : zo 0 2 R = true := by rw [hS.fit, lR]; rfl
  have x1 : zq R 0 2 = R := by rw [hS.part, List.drop_zero, List.take_of_length_le (by omega)]
  cbv
  refine ⟨_, hS.call (cp), ?_⟩
  cbv
  refine ⟨_, hS.call (cq), ?_⟩
  cbv
  refine bF (n1) ?_
  rw [<- hR]
  refine nd (f1) ?_
  rw [x1]
  refine ⟨_, hS.call (ch), ?_⟩
  cbv
  exact hF _ (ResLe.refl _)
 ·rw [pwlo, if_neg (fun h => he h.2.1), e5]
  clear e1 e2 e3 e4 e5 e6 e7
  refine callZ ccOk mixed [.val] Tryz.func75 rfl rfl (by kernel_rfl) fun zA zB zC zD zE zF zG zH zI zJ zK zL zM zN zO zP zQ zR zS zT zU zV zX zY zZ za zb zc zd ze zg zh zi zk zl zm zn zo zq zr zs zt zu zw zx zy zz zW zth A L F hS hF => ?_
  have n1 : zO 0 N = true := by rw [hS.lt]; exact decide_eq_true (by omega)
  have n2 : zM (zF N 2) 0 = false := by rw [hS.rem, Int.tmod_eq_emod_of_nonneg (by omega), hS.eq]; exact decide_eq_false (by omega)
  have f1 : zo 0 2 R = true := by rw [hS.fit, lR]; rfl
  have x1 : zq R 0 2 = R := by rw [hS.part, List.drop_zero, List.take_of_length_le (by omega)]
  cbv
  refine ⟨_, hS.call (cp), ?_⟩
  cbv
  refine ⟨_, hS.call (cq), ?_⟩
  cbv
  refine bT (n1) ?_
  refine bF (n2) ?_
  rw [<- hR]
  refine nd (f1) ?_
  rw [x1]
  refine ⟨_, hS.call (ch), ?_⟩
  cbv
  exact hF _ (ResLe.refl _)
 ·rw [pwlo, if_neg (fun h => hx h.2.2.1), e5]
  clear e1 e2 e3 e4 e5 e6 e7
  refine callZ ccOk mixed [.val] Tryz.func75 rfl rfl (by kernel_rfl) fun zA zB zC zD zE zF zG zH zI zJ zK zL zM zN zO zP zQ zR zS zT zU zV zX zY zZ za zb zc zd ze zg zh zi zk zl zm zn zo zq zr zs zt zu zw zx zy zz zW zth A L F hS hF => ?_
  have n1 : zO 0 N = true := by rw [hS.lt]; exact decide_eq_true (by omega)
  have n2 : zM (zF N 2) 0 = true := by rw [hS.rem, Int.tmod_eq_emod_of_nonneg (by omega), hS.eq]; exact decide_eq_true (by omega)
  have n3 : zO c 0 = false := by rw [hS.lt]; exact decide_eq_false (fun h => hx (c1.1 h))
  have f1 : zo 0 2 R = true := by rw [hS.fit, lR]; rfl
  have x1 : zq R 0 2 = R := by rw [hS.part, List.drop_zero, List.take_of_length_le (by omega)]
  cbv
  refine ⟨_, hS.call (cp), ?_⟩
  cbv
  refine ⟨_, hS.call (cq), ?_⟩
  cbv
  refine bT (n1) ?_
  refine bT (n2) ?_
  refine ⟨_, hS.call (ca), ?_⟩
  cbv
  refine bF (n3) ?_
  rw [<- hR]
  refine nd (f1) ?_
  rw [x1]
  refine ⟨_, hS.call (ch), ?_⟩
  cbv
  exact hF _ (ResLe.refl _)
 ·rw [pwlo, if_neg (fun h => hy h.2.2.2), e5]
  clear e1 e2 e3 e4 e5 e6 e7
  refine callZ ccOk mixed [.val] Tryz.func75 rfl rfl (by kernel_rfl) fun zA zB zC zD zE zF zG zH zI zJ zK zL zM zN zO zP zQ zR zS zT zU zV zX zY zZ za zb zc zd ze zg zh zi zk zl zm zn zo zq zr zs zt zu zw zx zy zz zW zth A L F hS hF => ?_
  have n1 : zO 0 N = true := by rw [hS.lt]; exact decide_eq_true (by omega)
  have n2 : zM (zF N 2) 0 = true := by rw [hS.rem, Int.tmod_eq_emod_of_nonneg (by omega), hS.eq]; exact decide_eq_true (by omega)
  have n3 : zO c 0 = true := by rw [hS.lt]; exact decide_eq_true (c1.2 hx)
  have n4 : zO 0 d = false := by rw [hS.lt]; exact decide_eq_false (fun h => hy (d2.1 h))
  have f1 : zo 0 2 R = true := by rw [hS.fit, lR]; rfl
  have x1 : zq R 0 2 = R := by rw [hS.part, List.drop_zero, List.take_of_length_le (by omega)]
  cbv
  refine ⟨_, hS.call (cp), ?_⟩
  cbv
  refine ⟨_, hS.call (cq), ?_⟩
  cbv
  refine bT (n1) ?_
  refine bT (n2) ?_
  refine ⟨_, hS.call (ca), ?_⟩
  cbv
  refine bT (n3) ?_
  refine ⟨_, hS.call (cb), ?_⟩
  cbv
  refine bF (n4) ?_
  rw [<- hR]
  refine nd (f1) ?_
  rw [x1]
  refine ⟨_, hS.call (ch), ?_⟩
  cbv
  exact hF _ (ResLe.refl _)
 ·rw [pwlo, if_pos ⟨hk, he, hx, hy⟩, e7]
  have ch3 := ch3 he
  clear e1 e2 e3 e4 e5 e6 e7
  refine callZ ccOk mixed [.val] Tryz.func75 rfl rfl (by kernel_rfl) fun zA zB zC zD zE zF zG zH zI zJ zK zL zM zN zO zP zQ zR zS zT zU zV zX zY zZ za zb zc zd ze zg zh zi zk zl zm zn zo zq zr zs zt zu zw zx zy zz zW zth A L F hS hF => ?_
  have n1 : zO 0 N = true := by rw [hS.lt]; exact decide_eq_true (by omega)
  have n2 : zM (zF N 2) 0 = true := by rw [hS.rem, Int.tmod_eq_emod_of_nonneg (by omega), hS.eq]; exact decide_eq_true (by omega)
  have n3 : zO c 0 = true := by rw [hS.lt]; exact decide_eq_true (c1.2 hx)
  have n4 : zO 0 d = true := by rw [hS.lt]; exact decide_eq_true (d2.2 hy)
  have f1 : zo 0 3 R3 = true := by rw [hS.fit, lR3]; rfl
  have x1 : zq R3 0 3 = R3 := by rw [hS.part, List.drop_zero, List.take_of_length_le (by omega)]
  cbv
  refine ⟨_, hS.call (cp), ?_⟩
  cbv
  refine ⟨_, hS.call (cq), ?_⟩
  cbv
  refine bT (n1) ?_
  refine bT (n2) ?_
  refine ⟨_, hS.call (ca), ?_⟩
  cbv
  refine bT (n3) ?_
  refine ⟨_, hS.call (cb), ?_⟩
  cbv
  refine bT (n4) ?_
  refine ⟨_, hS.call (cz), ?_⟩
  cbv
  rw [<- hR3]
  refine nd (f1) ?_
  rw [x1]
  refine ⟨_, hS.call (ch3), ?_⟩
  cbv
  exact hF _ (ResLe.refl _)
open Go Go.Abs Go.Abs.M Go.Proofs
theorem rsub_mul (a b c : Rat) : (a - b) * c = a * c - b * c := by grind
theorem rmul_sub (a b c : Rat) : a * (b - c) = a * b - a * c := by grind
theorem rmin_l (a b : Rat) : rmin a b <= a := by unfold rmin; grind
theorem rmin_r (a b : Rat) : rmin a b <= b := by unfold rmin; grind
theorem rmax_l (a b : Rat) : a <= rmax a b := by unfold rmax; grind
theorem rmax_r (a b : Rat) : b <= rmax a b := by unfold rmax; grind
theorem bet {a b t c : Rat} (h1 : a <= t) (h2 : t <= b) : rmin (a * c) (b * c) <= t * c /\ t * c <= rmax (a * c) (b * c) := by
 have m1 := rmin_l (a * c) (b * c)
 have m2 := rmin_r (a * c) (b * c)
 have m3 := rmax_l (a * c) (b * c)
 have m4 := rmax_r (a * c) (b * c)
 rcases (Rat.le_total (a := 0) (b := c)) with h | h
 ·have e1 := Rat.mul_nonneg (a := t - a) (b := c) (by grind) h
  have e2 := Rat.mul_nonneg (a := b - t) (b := c) (by grind) h
  rw [rsub_mul] at e1 e2
  exact ⟨by grind, by grind⟩
 ·have e1 := Rat.mul_nonneg (a := t - a) (b := -c) (by grind) (by grind)
  have e2 := Rat.mul_nonneg (a := b - t) (b := -c) (by grind) (by grind)
  rw [Rat.mul_neg, rsub_mul] at e1 e2
  exact ⟨by grind, by grind⟩
theorem mul_in {x y z w u v : Rat} (h1 : x <= u) (h2 : u <= y) (h3 : z <= v) (h4 : v <= w) : mlo x y z w <= u * v /\ u * v <= mhi x y z w := by
 obtain ⟨a1, a2⟩ := bet (c := v) h1 h2
 obtain ⟨b1, b2⟩ := bet (c := x) h3 h4
 obtain ⟨c1, c2⟩ := bet (c := y) h3 h4
 rw [Rat.mul_comm z x, Rat.mul_comm w x, Rat.mul_comm v x] at b1 b2
 rw [Rat.mul_comm z y, Rat.mul_comm w y, Rat.mul_comm v y] at c1 c2
 have d1 : mlo x y z w <= x * v := Rat.le_trans (rmin_l _ _) b1
 have d2 : mlo x y z w <= y * v := Rat.le_trans (rmin_r _ _) c1
 have d3 : x * v <= mhi x y z w := Rat.le_trans b2 (rmax_l _ _)
 have d4 : y * v <= mhi x y z w := Rat.le_trans c2 (rmax_r _ _)
 have f1 : mlo x y z w <= rmin (x * v) (y * v) := by unfold rmin; split <;> assumption
 have f2 : rmax (x * v) (y * v) <= mhi x y z w := by unfold rmax; split <;> assumption
 exact ⟨Rat.le_trans f1 a1, Rat.le_trans a2 f2⟩
theorem qbp {a b : Rat} (h0 : 0 <= a) (h : a <= b) : ∀ k : Nat, 0 <= a ^ k /\ a ^ k <= b ^ k
 | 0 => by rw [Rat.pow_zero, Rat.pow_zero]; exact ⟨by decide, Rat.le_refl⟩
 | k + 1 => by
  obtain ⟨h1, h2⟩ := qbp h0 h k
  rw [Rat.pow_succ, Rat.pow_succ]
  have e0 := Rat.mul_nonneg h1 h0
  have e1 := Rat.mul_nonneg (a := b ^ k - a ^ k) (b := b) (by grind) (by grind)
  have e2 := Rat.mul_nonneg (a := a ^ k) (b := b - a) h1 (by grind)
  rw [rsub_mul] at e1
  rw [rmul_sub] at e2
  exact ⟨e0, by grind⟩
theorem neg_pow (a : Rat) : ∀ k : Nat, (-a) ^ k = if k % 2 = 0 then a ^ k else -(a ^ k)
 | 0 => by rw [Rat.pow_zero, Rat.pow_zero]; rfl
 | k + 1 => by
  rw [Rat.pow_succ, neg_pow a k, Rat.pow_succ]
  by_cases h : k % 2 = 0
  ·rw [if_pos h, if_neg (by omega), Rat.mul_neg]
  ·rw [if_neg h, if_pos (by omega), Rat.mul_neg, Rat.neg_mul, Rat.neg_neg]
theorem pow_in {x y u : Rat} (h1 : x <= u) (h2 : u <= y) (k : Nat) : pwlo x y k <= u ^ k /\ u ^ k <= pwhi x y k := by
 have m1 := rmin_l (x ^ k) (y ^ k)
 have m2 := rmin_r (x ^ k) (y ^ k)
 have m3 := rmax_l (x ^ k) (y ^ k)
 have m4 := rmax_r (x ^ k) (y ^ k)
 unfold pwhi
 by_cases hx : 0 <= x
 ·have p1 := qbp hx h1 k
  have p2 := qbp (Rat.le_trans hx h1) h2 k
  rw [pwlo, if_neg (fun h => Rat.not_lt.2 hx h.2.2.1)]
  exact ⟨by grind, by grind⟩
 ·by_cases hy : y <= 0
  ·have p1 := qbp (a := -y) (b := -u) (by grind) (by grind) k
   have p2 := qbp (a := -u) (b := -x) (by grind) (by grind) k
   rw [pwlo, if_neg (fun h => Rat.not_lt.2 hy h.2.2.2)]
   rw [neg_pow, neg_pow] at p1 p2
   by_cases he : k % 2 = 0
   ·simp only [if_pos he] at p1 p2
    exact ⟨by grind, by grind⟩
   ·simp only [if_neg he] at p1 p2
    exact ⟨by grind, by grind⟩
  ·by_cases he : k % 2 = 0
   ·have hu : u ^ k <= rmax (x ^ k) (y ^ k) := by
     rcases (Rat.le_total (a := 0) (b := u)) with h | h
     ·have := (qbp h h2 k).2; grind
     ·have := (qbp (a := -u) (b := -x) (by grind) (by grind) k).2
      rw [neg_pow, neg_pow, if_pos he, if_pos he] at this
      grind
    refine ⟨?_, hu⟩
    unfold pwlo
    split
    ·exact even_nonneg u k he
    ·rename_i hc
     have hk : k = 0 := by
      rcases Nat.eq_zero_or_pos k with h | h
      ·exact h
      ·exact absurd ⟨h, he, Rat.not_le.1 hx, Rat.not_le.1 hy⟩ hc
     subst hk
     rw [Rat.pow_zero, Rat.pow_zero, Rat.pow_zero]
     exact rmin_l 1 1
   ·rw [pwlo, if_neg (fun h => he h.2.1)]
    rcases (Rat.le_total (a := 0) (b := u)) with h | h
    ·have p1 := qbp h h2 k
     have p2 := (qbp (a := 0) (b := -x) Rat.le_refl (by grind) k)
     have p3 : 0 <= (-x) ^ k := Rat.le_trans p2.1 p2.2
     rw [neg_pow, if_neg he] at p3
     exact ⟨by grind, by grind⟩
    ·have p1 := (qbp (a := -u) (b := -x) (by grind) (by grind) k)
     rw [neg_pow, neg_pow, if_neg he, if_neg he] at p1
     have p2 := (qbp (a := 0) (b := y) Rat.le_refl (by grind) k)
     have p3 : 0 <= y ^ k := Rat.le_trans p2.1 p2.2
     exact ⟨by grind, by grind⟩
theorem iat_in {p q : Rat} (h : p <= q) (k : Int) (k1 : 0 <= k) : p <= iat p q k /\ iat p q k <= q := by
 unfold iat
 obtain ⟨c, hc⟩ : ∃ c, c = ((k % 17 : Int) : Rat) * ((16 : Int) : Rat)⁻¹ := ⟨_, rfl⟩
 rw [<- hc]
 have h0 : (0 : Rat) <= ((k % 17 : Int) : Rat) := by
  have : (0 : Int) <= k % 17 := by omega
  exact_mod_cast this
 have h16 : ((k % 17 : Int) : Rat) <= ((16 : Int) : Rat) := by
  have : k % 17 <= (16 : Int) := by omega
  exact_mod_cast this
 have hi : (0 : Rat) <= ((16 : Int) : Rat)⁻¹ := by decide +kernel
 have c0 : 0 <= c := by rw [hc]; exact Rat.mul_nonneg h0 hi
 have c1 : c <= 1 := by
  have := Rat.mul_nonneg (a := ((16 : Int) : Rat) - ((k % 17 : Int) : Rat)) (b := ((16 : Int) : Rat)⁻¹) (by grind) hi
  rw [rsub_mul, Rat.mul_inv_cancel _ (by decide +kernel), <- hc] at this
  grind
 have e1 := Rat.mul_nonneg (a := c) (b := q - p) c0 (by grind)
 have e2 := Rat.mul_nonneg (a := 1 - c) (b := q - p) (by grind) (by grind)
 rw [rsub_mul, Rat.one_mul] at e2
 exact ⟨by grind, by grind⟩
theorem mlo_corner (x y z w : Rat) : mlo x y z w = x * z ∨ mlo x y z w = y * z ∨ mlo x y z w = x * w ∨ mlo x y z w = y * w := by
 unfold mlo rmin
 grind
open Go Go.Abs Go.Abs.M Go.Proofs
def m8 (x0 x1 x2 x3 x4 x5 x6 x7 : Int) : List Tree := [.v (.int .i64 x0), .v (.int .i64 x1), .v (.int .i64 x2), .v (.int .i64 x3), .v (.int .i64 x4), .v (.int .i64 x5), .v (.int .i64 x6), .v (.int .i64 x7)]
def cmp8 : List Int -> List Int -> Int
 | a :: l, b :: m => if a < b then -1 else if b < a then 1 else cmp8 l m
 | _, _ => 0
def mcSt (x0 x1 x2 x3 x4 x5 x6 x7 y0 y1 y2 y3 y4 y5 y6 y7 : Int) (I : Int) : St := mkSt 24 [.junk, .junk, .c (.ptr 2 0 0), .c (.ptr 3 0 0), .junk, vi .i64 I] [none, none, some (.var [.t (.v (.int .i64 x0)), .t (.v (.int .i64 x1)), .t (.v (.int .i64 x2)), .t (.v (.int .i64 x3)), .t (.v (.int .i64 x4)), .t (.v (.int .i64 x5)), .t (.v (.int .i64 x6)), .t (.v (.int .i64 x7))]), some (.var [.t (.v (.int .i64 y0)), .t (.v (.int .i64 y1)), .t (.v (.int .i64 y2)), .t (.v (.int .i64 y3)), .t (.v (.int .i64 y4)), .t (.v (.int .i64 y5)), .t (.v (.int .i64 y6)), .t (.v (.int .i64 y7))])]
theorem mcmp_call (x0 x1 x2 x3 x4 x5 x6 x7 y0 y1 y2 y3 y4 y5 y6 y7 : Int) : ACall Tryz.prog 134 [.val (.agg (m8 x0 x1 x2 x3 x4 x5 x6 x7)), .val (.agg (m8 y0 y1 y2 y3 y4 y5 y6 y7))] ⟨[.val (ti .i64 (cmp8 [x0, x1, x2, x3, x4, x5, x6, x7] [y0, y1, y2, y3, y4, y5, y6, y7]))], [none, none]⟩ := by
 obtain ⟨C, hC⟩ : ∃ C, C = cmp8 [x0, x1, x2, x3, x4, x5, x6, x7] [y0, y1, y2, y3, y4, y5, y6, y7] := ⟨_, rfl⟩
 rw [<- hC]
 unfold m8
 refine callZ ccOk mixed [.val] Tryz.func134 rfl rfl (by kernel_rfl) fun zA zB zC zD zE zF zG zH zI zJ zK zL zM zN zO zP zQ zR zS zT zU zV zX zY zZ za zb zc zd ze zg zh zi zk zl zm zn zo zq zr zs zt zu zw zx zy zz zW zth A L F hS hF => ?_
 cbv
 refine loopZR ccOk mixed hS (fun (m : Nat) s' => ∃ (i : Nat) (I : Int), I = i /\ m + i = 8 /\ C = cmp8 ([x0, x1, x2, x3, x4, x5, x6, x7].drop i) ([y0, y1, y2, y3, y4, y5, y6, y7].drop i) /\ s' = mcSt x0 x1 x2 x3 x4 x5 x6 x7 y0 y1 y2 y3 y4 y5 y6 y7 I) (n := 8) (s0 := mcSt x0 x1 x2 x3 x4 x5 x6 x7 y0 y1 y2 y3 y4 y5 y6 y7 0) (qaq ?_ ?_) rfl (by show 2 <= 4; omega) ?_ ?_
 ·simp [leT, mcSt, mkSt, vi, vb]
 ·simp [leH, mcSt, mkSt]
 ·exact ⟨0, 0, rfl, rfl, hC, rfl⟩
 ·rintro m sx ⟨i, I, hI, him, hc, hs1⟩
  obtain rfl | rfl | rfl | rfl | rfl | rfl | rfl | rfl | rfl : i = 0 ∨ i = 1 ∨ i = 2 ∨ i = 3 ∨ i = 4 ∨ i = 5 ∨ i = 6 ∨ i = 7 ∨ i = 8 := by omega
  ·obtain rfl : I = 0 := hI
   have l1 : zO 0 8 = true := by rw [hS.lt]; rfl
   have n0 : zP 0 0 = true := by rw [hS.le]; rfl
   have i1 : zA .i64 (zB 0 1) = 1 := by rw [hS.add, hS.wrap]; rfl
   by_cases h1 : x0 < y0
   ·have e1 : zO x0 y0 = true := by rw [hS.lt]; exact decide_eq_true h1
    have hc1 : C = -1 := hc.trans (if_pos h1)
    subst hc1
    subst hs1
    cbv
    refine bT l1 ?_
    refine bT e1 ?_
    exact hF _ (ResLe.refl _)
   ·have e1 : zO x0 y0 = false := by rw [hS.lt]; exact decide_eq_false h1
    by_cases h2 : y0 < x0
    ·have e2 : zO y0 x0 = true := by rw [hS.lt]; exact decide_eq_true h2
     have hc1 : C = 1 := hc.trans ((if_neg h1).trans (if_pos h2))
     subst hc1
     subst hs1
     cbv
     refine bT l1 ?_
     refine bF e1 (bT e2 ?_)
     exact hF _ (ResLe.refl _)
    ·have e2 : zO y0 x0 = false := by rw [hS.lt]; exact decide_eq_false h2
     have hc1 := hc.trans ((if_neg h1).trans (if_neg h2))
     have hmm : m - 1 < m := by omega
     have hnx : ∃ (i2 : Nat) (I2 : Int), I2 = i2 /\ (m - 1) + i2 = 8 /\ C = cmp8 ([x0, x1, x2, x3, x4, x5, x6, x7].drop i2) ([y0, y1, y2, y3, y4, y5, y6, y7].drop i2) /\ mcSt x0 x1 x2 x3 x4 x5 x6 x7 y0 y1 y2 y3 y4 y5 y6 y7 1 = mcSt x0 x1 x2 x3 x4 x5 x6 x7 y0 y1 y2 y3 y4 y5 y6 y7 I2 := ⟨1, 1, rfl, by omega, hc1, rfl⟩
     subst hs1
     cbv
     refine bT l1 ?_
     refine bF e1 (bF e2 ?_)
     refine againR [(2, 2), (3, 3)] (s' := mcSt x0 x1 x2 x3 x4 x5 x6 x7 y0 y1 y2 y3 y4 y5 y6 y7 1) (k := m - 1) ?_ ?_ ?_ ?_ rfl (by show 2 <= 4; omega) hmm hnx
     ·simp [leTR, mcSt, mkSt, vi, vb, AV.ren, AV.noTup, Cell.ren, renF, i1]
     ·simp [leHR, mcSt, mkSt, Abs.look, renF, Blk.ren, Cell.ren]
     ·simp [liveR, mcSt, mkSt, renF]
     ·simp
  ·obtain rfl : I = 1 := hI
   have l1 : zO 1 8 = true := by rw [hS.lt]; rfl
   have n0 : zP 0 1 = true := by rw [hS.le]; rfl
   have i1 : zA .i64 (zB 1 1) = 2 := by rw [hS.add, hS.wrap]; rfl
   by_cases h1 : x1 < y1
   ·have e1 : zO x1 y1 = true := by rw [hS.lt]; exact decide_eq_true h1
    have hc1 : C = -1 := hc.trans (if_pos h1)
    subst hc1
    subst hs1
    cbv
    refine bT l1 ?_
    refine bT e1 ?_
    exact hF _ (ResLe.refl _)
   ·have e1 : zO x1 y1 = false := by rw [hS.lt]; exact decide_eq_false h1
    by_cases h2 : y1 < x1
    ·have e2 : zO y1 x1 = true := by rw [hS.lt]; exact decide_eq_true h2
     have hc1 : C = 1 := hc.trans ((if_neg h1).trans (if_pos h2))
     subst hc1
     subst hs1
     cbv
     refine bT l1 ?_
     refine bF e1 (bT e2 ?_)
     exact hF _ (ResLe.refl _)
    ·have e2 : zO y1 x1 = false := by rw [hS.lt]; exact decide_eq_false h2
     have hc1 := hc.trans ((if_neg h1).trans (if_neg h2))
     have hmm : m - 1 < m := by omega
     have hnx : ∃ (i2 : Nat) (I2 : Int), I2 = i2 /\ (m - 1) + i2 = 8 /\ C = cmp8 ([x0, x1, x2, x3, x4, x5, x6, x7].drop i2) ([y0, y1, y2, y3, y4, y5, y6, y7].drop i2) /\ mcSt x0 x1 x2 x3 x4 x5 x6 x7 y0 y1 y2 y3 y4 y5 y6 y7 2 = mcSt x0 x1 x2 x3 x4 x5 x6 x7 y0 y1 y2 y3 y4 y5 y6 y7 I2 := ⟨2, 2, rfl, by omega, hc1, rfl⟩
     subst hs1
     cbv
     refine bT l1 ?_
     refine bF e1 (bF e2 ?_)
     refine againR [(2, 2), (3, 3)] (s' := mcSt x0 x1 x2 x3 x4 x5 x6 x7 y0 y1 y2 y3 y4 y5 y6 y7 2) (k := m - 1) ?_ ?_ ?_ ?_ rfl (by show 2 <= 4; omega) hmm hnx
     ·simp [leTR, mcSt, mkSt, vi, vb, AV.ren, AV.noTup, Cell.ren, renF, i1]
     ·simp [leHR, mcSt, mkSt, Abs.look, renF, Blk.ren, Cell.ren]
     ·simp [liveR, mcSt, mkSt, renF]
     ·simp
  ·obtain rfl : I = 2 := hI
   have l1 : zO 2 8 = true := by rw [hS.lt]; rfl
   have n0 : zP 0 2 = true := by rw [hS.le]; rfl
   have i1 : zA .i64 (zB 2 1) = 3 := by rw [hS.add, hS.wrap]; rfl
   by_cases h1 : x2 < y2
   ·have e1 : zO x2 y2 = true := by rw [hS.lt]; exact decide_eq_true h1
    have hc1 : C = -1 := hc.trans (if_pos h1)
    subst hc1
    subst hs1
    cbv
    refine bT l1 ?_
    refine bT e1 ?_
    exact hF _ (ResLe.refl _)
   ·have e1 : zO x2 y2 = false := by rw [hS.lt]; exact decide_eq_false h1
    by_cases h2 : y2 < x2
    ·have e2 : zO y2 x2 = true := by rw [hS.lt]; exact decide_eq_true h2
     have hc1 : C = 1 := hc.trans ((if_neg h1).trans (if_pos h2))
     subst hc1
     subst hs1
     cbv
     refine bT l1 ?_
     refine bF e1 (bT e2 ?_)
     exact hF _ (ResLe.refl _)
    ·have e2 : zO y2 x2 = false := by rw [hS.lt]; exact decide_eq_false h2
     have hc1 := hc.trans ((if_neg h1).trans (if_neg h2))
     have hmm : m - 1 < m := by omega
     have hnx : ∃ (i2 : Nat) (I2 : Int), I2 = i2 /\ (m - 1) + i2 = 8 /\ C = cmp8 ([x0, x1, x2, x3, x4, x5, x6, x7].drop i2) ([y0, y1, y2, y3, y4, y5, y6, y7].drop i2) /\ mcSt x0 x1 x2 x3 x4 x5 x6 x7 y0 y1 y2 y3 y4 y5 y6 y7 3 = mcSt x0 x1 x2 x3 x4 x5 x6 x7 y0 y1 y2 y3 y4 y5 y6 y7 I2 := ⟨3, 3, rfl, by omega, hc1, rfl⟩
     subst hs1
     cbv
     refine bT l1 ?_
     refine bF e1 (bF e2 ?_)
     refine againR [(2, 2), (3, 3)] (s' := mcSt x0 x1 x2 x3 x4 x5 x6 x7 y0 y1 y2 y3 y4 y5 y6 y7 3) (k := m - 1) ?_ ?_ ?_ ?_ rfl (by show 2 <= 4; omega) hmm hnx
     ·simp [leTR, mcSt, mkSt, vi, vb, AV.ren, AV.noTup, Cell.ren, renF, i1]
     ·simp [leHR, mcSt, mkSt, Abs.look, renF, Blk.ren, Cell.ren]
     ·simp [liveR, mcSt, mkSt, renF]
     ·simp
  ·obtain rfl : I = 3 := hI
   have l1 : zO 3 8 = true := by rw [hS.lt]; rfl
   have n0 : zP 0 3 = true := by rw [hS.le]; rfl
   have i1 : zA .i64 (zB 3 1) = 4 := by rw [hS.add, hS.wrap]; rfl
   by_cases h1 : x3 < y3
   ·have e1 : zO x3 y3 = true := by rw [hS.lt]; exact decide_eq_true h1
    have hc1 : C = -1 := hc.trans (if_pos h1)
    subst hc1
    subst hs1
    cbv
    refine bT l1 ?_
    refine bT e1 ?_
    exact hF _ (ResLe.refl _)
   ·have e1 : zO x3 y3 = false := by rw [hS.lt]; exact decide_eq_false h1
    by_cases h2 : y3 < x3
    ·have e2 : zO y3 x3 = true := by rw [hS.lt]; exact decide_eq_true h2
     have hc1 : C = 1 := hc.trans ((if_neg h1).trans (if_pos h2))
     subst hc1
     subst hs1
     cbv
     refine bT l1 ?_
     refine bF e1 (bT e2 ?_)
     exact hF _ (ResLe.refl _)
    ·have e2 : zO y3 x3 = false := by rw [hS.lt]; exact decide_eq_false h2
     have hc1 := hc.trans ((if_neg h1).trans (if_neg h2))
     have hmm : m - 1 < m := by omega
     have hnx : ∃ (i2 : Nat) (I2 : Int), I2 = i2 /\ (m - 1) + i2 = 8 /\ C = cmp8 ([x0, x1, x2, x3, x4, x5, x6, x7].drop i2) ([y0, y1, y2, y3, y4, y5, y6, y7].drop i2) /\ mcSt x0 x1 x2 x3 x4 x5 x6 x7 y0 y1 y2 y3 y4 y5 y6 y7 4 = mcSt x0 x1 x2 x3 x4 x5 x6 x7 y0 y1 y2 y3 y4 y5 y6 y7 I2 := ⟨4, 4, rfl, by omega, hc1, rfl⟩
     subst hs1
     cbv
     refine bT l1 ?_
     refine bF e1 (bF e2 ?_)
     refine againR [(2, 2), (3, 3)] (s' := mcSt x0 x1 x2 x3 x4 x5 x6 x7 y0 y1 y2 y3 y4 y5 y6 y7 4) (k := m - 1) ?_ ?_ ?_ ?_ rfl (by show 2 <= 4; omega) hmm hnx
     ·simp [leTR, mcSt, mkSt, vi, vb, AV.ren, AV.noTup, Cell.ren, renF, i1]
     ·simp [leHR, mcSt, mkSt, Abs.look, renF, Blk.ren, Cell.ren]
     ·simp [liveR, mcSt, mkSt, renF]
     ·simp
  ·obtain rfl : I = 4 := hI
   have l1 : zO 4 8 = true := by rw [hS.lt]; rfl
   have n0 : zP 0 4 = true := by rw [hS.le]; rfl
   have i1 : zA .i64 (zB 4 1) = 5 := by rw [hS.add, hS.wrap]; rfl
   by_cases h1 : x4 < y4
   ·have e1 : zO x4 y4 = true := by rw [hS.lt]; exact decide_eq_true h1
    have hc1 : C = -1 := hc.trans (if_pos h1)
    subst hc1
    subst hs1
    cbv
    refine bT l1 ?_
    refine bT e1 ?_
    exact hF _ (ResLe.refl _)
   ·have e1 : zO x4 y4 = false := by rw [hS.lt]; exact decide_eq_false h1
    by_cases h2 : y4 < x4
    ·have e2 : zO y4 x4 = true := by rw [hS.lt]; exact decide_eq_true h2
     have hc1 : C = 1 := hc.trans ((if_neg h1).trans (if_pos h2))
     subst hc1
     subst hs1
     cbv
     refine bT l1 ?_
     refine bF e1 (bT e2 ?_)
     exact hF _ (ResLe.refl _)
    ·have e2 : zO y4 x4 = false := by rw [hS.lt]; exact decide_eq_false h2
     have hc1 := hc.trans ((if_neg h1).trans (if_neg h2))
     have hmm : m - 1 < m := by omega
     have hnx : ∃ (i2 : Nat) (I2 : Int), I2 = i2 /\ (m - 1) + i2 = 8 /\ C = cmp8 ([x0, x1, x2, x3, x4, x5, x6, x7].drop i2) ([y0, y1, y2, y3, y4, y5, y6, y7].drop i2) /\ mcSt x0 x1 x2 x3 x4 x5 x6 x7 y0 y1 y2 y3 y4 y5 y6 y7 5 = mcSt x0 x1 x2 x3 x4 x5 x6 x7 y0 y1 y2 y3 y4 y5 y6 y7 I2 := ⟨5, 5, rfl, by omega, hc1, rfl⟩
     subst hs1
     cbv
     refine bT l1 ?_
     refine bF e1 (bF e2 ?_)
     refine againR [(2, 2), (3, 3)] (s' := mcSt x0 x1 x2 x3 x4 x5 x6 x7 y0 y1 y2 y3 y4 y5 y6 y7 5) (k := m - 1) ?_ ?_ ?_ ?_ rfl (by show 2 <= 4; omega) hmm hnx
     ·simp [leTR, mcSt, mkSt, vi, vb, AV.ren, AV.noTup, Cell.ren, renF, i1]
     ·simp [leHR, mcSt, mkSt, Abs.look, renF, Blk.ren, Cell.ren]
     ·simp [liveR, mcSt, mkSt, renF]
     ·simp
  ·obtain rfl : I = 5 := hI
   have l1 : zO 5 8 = true := by rw [hS.lt]; rfl
   have n0 : zP 0 5 = true := by rw [hS.le]; rfl
   have i1 : zA .i64 (zB 5 1) = 6 := by rw [hS.add, hS.wrap]; rfl
   by_cases h1 : x5 < y5
   ·have e1 : zO x5 y5 = true := by rw [hS.lt]; exact decide_eq_true h1
    have hc1 : C = -1 := hc.trans (if_pos h1)
    subst hc1
    subst hs1
    cbv
    refine bT l1 ?_
    refine bT e1 ?_
    exact hF _ (ResLe.refl _)
   ·have e1 : zO x5 y5 = false := by rw [hS.lt]; exact decide_eq_false h1
    by_cases h2 : y5 < x5
    ·have e2 : zO y5 x5 = true := by rw [hS.lt]; exact decide_eq_true h2
     have hc1 : C = 1 := hc.trans ((if_neg h1).trans (if_pos h2))
     subst hc1
     subst hs1
     cbv
     refine bT l1 ?_
     refine bF e1 (bT e2 ?_)
     exact hF _ (ResLe.refl _)
    ·have e2 : zO y5 x5 = false := by rw [hS.lt]; exact decide_eq_false h2
     have hc1 := hc.trans ((if_neg h1).trans (if_neg h2))
     have hmm : m - 1 < m := by omega
     have hnx : ∃ (i2 : Nat) (I2 : Int), I2 = i2 /\ (m - 1) + i2 = 8 /\ C = cmp8 ([x0, x1, x2, x3, x4, x5, x6, x7].drop i2) ([y0, y1, y2, y3, y4, y5, y6, y7].drop i2) /\ mcSt x0 x1 x2 x3 x4 x5 x6 x7 y0 y1 y2 y3 y4 y5 y6 y7 6 = mcSt x0 x1 x2 x3 x4 x5 x6 x7 y0 y1 y2 y3 y4 y5 y6 y7 I2 := ⟨6, 6, rfl, by omega, hc1, rfl⟩
     subst hs1
     cbv
     refine bT l1 ?_
     refine bF e1 (bF e2 ?_)
     refine againR [(2, 2), (3, 3)] (s' := mcSt x0 x1 x2 x3 x4 x5 x6 x7 y0 y1 y2 y3 y4 y5 y6 y7 6) (k := m - 1) ?_ ?_ ?_ ?_ rfl (by show 2 <= 4; omega) hmm hnx
     ·simp [leTR, mcSt, mkSt, vi, vb, AV.ren, AV.noTup, Cell.ren, renF, i1]
     ·simp [leHR, mcSt, mkSt, Abs.look, renF, Blk.ren, Cell.ren]
     ·simp [liveR, mcSt, mkSt, renF]
     ·simp
  ·obtain rfl : I = 6 := hI
   have l1 : zO 6 8 = true := by rw [hS.lt]; rfl
   have n0 : zP 0 6 = true := by rw [hS.le]; rfl
   have i1 : zA .i64 (zB 6 1) = 7 := by rw [hS.add, hS.wrap]; rfl
   by_cases h1 : x6 < y6
   ·have e1 : zO x6 y6 = true := by rw [hS.lt]; exact decide_eq_true h1
    have hc1 : C = -1 := hc.trans (if_pos h1)
    subst hc1
    subst hs1
    cbv
    refine bT l1 ?_
    refine bT e1 ?_
    exact hF _ (ResLe.refl _)
   ·have e1 : zO x6 y6 = false := by rw [hS.lt]; exact decide_eq_false h1
    by_cases h2 : y6 < x6
    ·have e2 : zO y6 x6 = true := by rw [hS.lt]; exact decide_eq_true h2
     have hc1 : C = 1 := hc.trans ((if_neg h1).trans (if_pos h2))
     subst hc1
     subst hs1
     cbv
     refine bT l1 ?_
     refine bF e1 (bT e2 ?_)
     exact hF _ (ResLe.refl _)
    ·have e2 : zO y6 x6 = false := by rw [hS.lt]; exact decide_eq_false h2
     have hc1 := hc.trans ((if_neg h1).trans (if_neg h2))
     have hmm : m - 1 < m := by omega
     have hnx : ∃ (i2 : Nat) (I2 : Int), I2 = i2 /\ (m - 1) + i2 = 8 /\ C = cmp8 ([x0, x1, x2, x3, x4, x5, x6, x7].drop i2) ([y0, y1, y2, y3, y4, y5, y6, y7].drop i2) /\ mcSt x0 x1 x2 x3 x4 x5 x6 x7 y0 y1 y2 y3 y4 y5 y6 y7 7 = mcSt x0 x1 x2 x3 x4 x5 x6 x7 y0 y1 y2 y3 y4 y5 y6 y7 I2 := ⟨7, 7, rfl, by omega, hc1, rfl⟩
     subst hs1
     cbv
     refine bT l1 ?_
     refine bF e1 (bF e2 ?_)
     refine againR [(2, 2), (3, 3)] (s' := mcSt x0 x1 x2 x3 x4 x5 x6 x7 y0 y1 y2 y3 y4 y5 y6 y7 7) (k := m - 1) ?_ ?_ ?_ ?_ rfl (by show 2 <= 4; omega) hmm hnx
     ·simp [leTR, mcSt, mkSt, vi, vb, AV.ren, AV.noTup, Cell.ren, renF, i1]
     ·simp [leHR, mcSt, mkSt, Abs.look, renF, Blk.ren, Cell.ren]
     ·simp [liveR, mcSt, mkSt, renF]
     ·simp
  ·obtain rfl : I = 7 := hI
   have l1 : zO 7 8 = true := by rw [hS.lt]; rfl
   have n0 : zP 0 7 = true := by rw [hS.le]; rfl
   have i1 : zA .i64 (zB 7 1) = 8 := by rw [hS.add, hS.wrap]; rfl
   by_cases h1 : x7 < y7
   ·have e1 : zO x7 y7 = true := by rw [hS.lt]; exact decide_eq_true h1
    have hc1 : C = -1 := hc.trans (if_pos h1)
    subst hc1
    subst hs1
    cbv
    refine bT l1 ?_
    refine bT e1 ?_
    exact hF _ (ResLe.refl _)
   ·have e1 : zO x7 y7 = false := by rw [hS.lt]; exact decide_eq_false h1
    by_cases h2 : y7 < x7
    ·have e2 : zO y7 x7 = true := by rw [hS.lt]; exact decide_eq_true h2
     have hc1 : C = 1 := hc.trans ((if_neg h1).trans (if_pos h2))
     subst hc1
     subst hs1
     cbv
     refine bT l1 ?_
     refine bF e1 (bT e2 ?_)
     exact hF _ (ResLe.refl _)
    ·have e2 : zO y7 x7 = false := by rw [hS.lt]; exact decide_eq_false h2
     have hc1 := hc.trans ((if_neg h1).trans (if_neg h2))
     have hmm : m - 1 < m := by omega
     have hnx : ∃ (i2 : Nat) (I2 : Int), I2 = i2 /\ (m - 1) + i2 = 8 /\ C = cmp8 ([x0, x1, x2, x3, x4, x5, x6, x7].drop i2) ([y0, y1, y2, y3, y4, y5, y6, y7].drop i2) /\ mcSt x0 x1 x2 x3 x4 x5 x6 x7 y0 y1 y2 y3 y4 y5 y6 y7 8 = mcSt x0 x1 x2 x3 x4 x5 x6 x7 y0 y1 y2 y3 y4 y5 y6 y7 I2 := ⟨8, 8, rfl, by omega, hc1, rfl⟩
     subst hs1
     cbv
     refine bT l1 ?_
     refine bF e1 (bF e2 ?_)
     refine againR [(2, 2), (3, 3)] (s' := mcSt x0 x1 x2 x3 x4 x5 x6 x7 y0 y1 y2 y3 y4 y5 y6 y7 8) (k := m - 1) ?_ ?_ ?_ ?_ rfl (by show 2 <= 4; omega) hmm hnx
     ·simp [leTR, mcSt, mkSt, vi, vb, AV.ren, AV.noTup, Cell.ren, renF, i1]
     ·simp [leHR, mcSt, mkSt, Abs.look, renF, Blk.ren, Cell.ren]
     ·simp [liveR, mcSt, mkSt, renF]
     ·simp
  ·obtain rfl : I = 8 := hI
   have l1 : zO 8 8 = false := by rw [hS.lt]; rfl
   have hc1 : C = 0 := hc
   subst hc1
   subst hs1
   cbv
   refine bF l1 ?_
   exact hF _ (ResLe.refl _)
open Go Go.Abs Go.Abs.M Go.Proofs
def mvSt (x0 x1 x2 x3 x4 x5 x6 x7 : Int) (I : Int) : St := mkSt 18 [.junk, .c (.ptr 1 0 0), .junk, vi .i64 I] [none, some (.var [.t (.v (.int .i64 x0)), .t (.v (.int .i64 x1)), .t (.v (.int .i64 x2)), .t (.v (.int .i64 x3)), .t (.v (.int .i64 x4)), .t (.v (.int .i64 x5)), .t (.v (.int .i64 x6)), .t (.v (.int .i64 x7))])]
theorem mvalid_call (x0 x1 x2 x3 x4 x5 x6 x7 : Int) (h0 : 0 <= x0 /\ x0 <= 65535) (h1 : 0 <= x1 /\ x1 <= 65535) (h2 : 0 <= x2 /\ x2 <= 65535) (h3 : 0 <= x3 /\ x3 <= 65535) (h4 : 0 <= x4 /\ x4 <= 65535) (h5 : 0 <= x5 /\ x5 <= 65535) (h6 : 0 <= x6 /\ x6 <= 65535) (h7 : 0 <= x7 /\ x7 <= 65535) : ACall Tryz.prog 192 [.val (.agg (m8 x0 x1 x2 x3 x4 x5 x6 x7))] ⟨[.val (tb true)], [none]⟩ := by
 unfold m8
 refine callZ ccOk mixed [.val] Tryz.func192 rfl rfl (by kernel_rfl) fun zA zB zC zD zE zF zG zH zI zJ zK zL zM zN zO zP zQ zR zS zT zU zV zX zY zZ za zb zc zd ze zg zh zi zk zl zm zn zo zq zr zs zt zu zw zx zy zz zW zth A L F hS hF => ?_
 cbv
 refine loopZR ccOk mixed hS (fun (m : Nat) s' => ∃ (i : Nat) (I : Int), I = i /\ m + i = 8 /\ s' = mvSt x0 x1 x2 x3 x4 x5 x6 x7 I) (n := 8) (s0 := mvSt x0 x1 x2 x3 x4 x5 x6 x7 0) (qaq ?_ ?_) rfl (by show 1 <= 2; omega) ?_ ?_
 ·simp [leT, mvSt, mkSt, vi, vb]
 ·simp [leH, mvSt, mkSt]
 ·exact ⟨0, 0, rfl, rfl, rfl⟩
 ·rintro m sx ⟨i, I, hI, him, hs1⟩
  obtain rfl | rfl | rfl | rfl | rfl | rfl | rfl | rfl | rfl : i = 0 ∨ i = 1 ∨ i = 2 ∨ i = 3 ∨ i = 4 ∨ i = 5 ∨ i = 6 ∨ i = 7 ∨ i = 8 := by omega
  ·obtain rfl : I = 0 := hI
   have l1 : zO 0 8 = true := by rw [hS.lt]; rfl
   have i1 : zA .i64 (zB 0 1) = 1 := by rw [hS.add, hS.wrap]; rfl
   have e1 : zO x0 0 = false := by rw [hS.lt]; exact decide_eq_false (by omega)
   have e2 : zO 65535 x0 = false := by rw [hS.lt]; exact decide_eq_false (by omega)
   have hmm : m - 1 < m := by omega
   have hnx : ∃ (i2 : Nat) (I2 : Int), I2 = i2 /\ (m - 1) + i2 = 8 /\ mvSt x0 x1 x2 x3 x4 x5 x6 x7 1 = mvSt x0 x1 x2 x3 x4 x5 x6 x7 I2 := ⟨1, 1, rfl, by omega, rfl⟩
   subst hs1
   cbv
   refine bT l1 (bF e1 (bF e2 ?_))
   refine againR [(1, 1)] (s' := mvSt x0 x1 x2 x3 x4 x5 x6 x7 1) (k := m - 1) ?_ ?_ ?_ ?_ rfl (by show 1 <= 2; omega) hmm hnx
   ·simp [leTR, mvSt, mkSt, vi, vb, AV.ren, AV.noTup, Cell.ren, renF, i1]
   ·simp [leHR, mvSt, mkSt, Abs.look, renF, Blk.ren, Cell.ren]
   ·simp [liveR, mvSt, mkSt, renF]
   ·simp
  ·obtain rfl : I = 1 := hI
   have l1 : zO 1 8 = true := by rw [hS.lt]; rfl
   have i1 : zA .i64 (zB 1 1) = 2 := by rw [hS.add, hS.wrap]; rfl
   have e1 : zO x1 0 = false := by rw [hS.lt]; exact decide_eq_false (by omega)
   have e2 : zO 65535 x1 = false := by rw [hS.lt]; exact decide_eq_false (by omega)
   have hmm : m - 1 < m := by omega
   have hnx : ∃ (i2 : Nat) (I2 : Int), I2 = i2 /\ (m - 1) + i2 = 8 /\ mvSt x0 x1 x2 x3 x4 x5 x6 x7 2 = mvSt x0 x1 x2 x3 x4 x5 x6 x7 I2 := ⟨2, 2, rfl, by omega, rfl⟩
   subst hs1
   cbv
   refine bT l1 (bF e1 (bF e2 ?_))
   refine againR [(1, 1)] (s' := mvSt x0 x1 x2 x3 x4 x5 x6 x7 2) (k := m - 1) ?_ ?_ ?_ ?_ rfl (by show 1 <= 2; omega) hmm hnx
   ·simp [leTR, mvSt, mkSt, vi, vb, AV.ren, AV.noTup, Cell.ren, renF, i1]
   ·simp [leHR, mvSt, mkSt, Abs.look, renF, Blk.ren, Cell.ren]
   ·simp [liveR, mvSt, mkSt, renF]
   ·simp
  ·obtain rfl : I = 2 := hI
   have l1 : zO 2 8 = true := by rw [hS.lt]; rfl
   have i1 : zA .i64 (zB 2 1) = 3 := by rw [hS.add, hS.wrap]; rfl
   have e1 : zO x2 0 = false := by rw [hS.lt]; exact decide_eq_false (by omega)
   have e2 : zO 65535 x2 = false := by rw [hS.lt]; exact decide_eq_false (by omega)
   have hmm : m - 1 < m := by omega
   have hnx : ∃ (i2 : Nat) (I2 : Int), I2 = i2 /\ (m - 1) + i2 = 8 /\ mvSt x0 x1 x2 x3 x4 x5 x6 x7 3 = mvSt x0 x1 x2 x3 x4 x5 x6 x7 I2 := ⟨3, 3, rfl, by omega, rfl⟩
   subst hs1
   cbv
   refine bT l1 (bF e1 (bF e2 ?_))
   refine againR [(1, 1)] (s' := mvSt x0 x1 x2 x3 x4 x5 x6 x7 3) (k := m - 1) ?_ ?_ ?_ ?_ rfl (by show 1 <= 2; omega) hmm hnx
   ·simp [leTR, mvSt, mkSt, vi, vb, AV.ren, AV.noTup, Cell.ren, renF, i1]
   ·simp [leHR, mvSt, mkSt, Abs.look, renF, Blk.ren, Cell.ren]
   ·simp [liveR, mvSt, mkSt, renF]
   ·simp
  ·obtain rfl : I = 3 := hI
   have l1 : zO 3 8 = true := by rw [hS.lt]; rfl
   have i1 : zA .i64 (zB 3 1) = 4 := by rw [hS.add, hS.wrap]; rfl
   have e1 : zO x3 0 = false := by rw [hS.lt]; exact decide_eq_false (by omega)
   have e2 : zO 65535 x3 = false := by rw [hS.lt]; exact decide_eq_false (by omega)
   have hmm : m - 1 < m := by omega
   have hnx : ∃ (i2 : Nat) (I2 : Int), I2 = i2 /\ (m - 1) + i2 = 8 /\ mvSt x0 x1 x2 x3 x4 x5 x6 x7 4 = mvSt x0 x1 x2 x3 x4 x5 x6 x7 I2 := ⟨4, 4, rfl, by omega, rfl⟩
   subst hs1
   cbv
   refine bT l1 (bF e1 (bF e2 ?_))
   refine againR [(1, 1)] (s' := mvSt x0 x1 x2 x3 x4 x5 x6 x7 4) (k := m - 1) ?_ ?_ ?_ ?_ rfl (by show 1 <= 2; omega) hmm hnx
   ·simp [leTR, mvSt, mkSt, vi, vb, AV.ren, AV.noTup, Cell.ren, renF, i1]
   ·simp [leHR, mvSt, mkSt, Abs.look, renF, Blk.ren, Cell.ren]
   ·simp [liveR, mvSt, mkSt, renF]
   ·simp
  ·obtain rfl : I = 4 := hI
   have l1 : zO 4 8 = true := by rw [hS.lt]; rfl
   have i1 : zA .i64 (zB 4 1) = 5 := by rw [hS.add, hS.wrap]; rfl
   have e1 : zO x4 0 = false := by rw [hS.lt]; exact decide_eq_false (by omega)
   have e2 : zO 65535 x4 = false := by rw [hS.lt]; exact decide_eq_false (by omega)
   have hmm : m - 1 < m := by omega
   have hnx : ∃ (i2 : Nat) (I2 : Int), I2 = i2 /\ (m - 1) + i2 = 8 /\ mvSt x0 x1 x2 x3 x4 x5 x6 x7 5 = mvSt x0 x1 x2 x3 x4 x5 x6 x7 I2 := ⟨5, 5, rfl, by omega, rfl⟩
   subst hs1
   cbv
   refine bT l1 (bF e1 (bF e2 ?_))
   refine againR [(1, 1)] (s' := mvSt x0 x1 x2 x3 x4 x5 x6 x7 5) (k := m - 1) ?_ ?_ ?_ ?_ rfl (by show 1 <= 2; omega) hmm hnx
   ·simp [leTR, mvSt, mkSt, vi, vb, AV.ren, AV.noTup, Cell.ren, renF, i1]
   ·simp [leHR, mvSt, mkSt, Abs.look, renF, Blk.ren, Cell.ren]
   ·simp [liveR, mvSt, mkSt, renF]
   ·simp
  ·obtain rfl : I = 5 := hI
   have l1 : zO 5 8 = true := by rw [hS.lt]; rfl
   have i1 : zA .i64 (zB 5 1) = 6 := by rw [hS.add, hS.wrap]; rfl
   have e1 : zO x5 0 = false := by rw [hS.lt]; exact decide_eq_false (by omega)
   have e2 : zO 65535 x5 = false := by rw [hS.lt]; exact decide_eq_false (by omega)
   have hmm : m - 1 < m := by omega
   have hnx : ∃ (i2 : Nat) (I2 : Int), I2 = i2 /\ (m - 1) + i2 = 8 /\ mvSt x0 x1 x2 x3 x4 x5 x6 x7 6 = mvSt x0 x1 x2 x3 x4 x5 x6 x7 I2 := ⟨6, 6, rfl, by omega, rfl⟩
   subst hs1
   cbv
   refine bT l1 (bF e1 (bF e2 ?_))
   refine againR [(1, 1)] (s' := mvSt x0 x1 x2 x3 x4 x5 x6 x7 6) (k := m - 1) ?_ ?_ ?_ ?_ rfl (by show 1 <= 2; omega) hmm hnx
   ·simp [leTR, mvSt, mkSt, vi, vb, AV.ren, AV.noTup, Cell.ren, renF, i1]
   ·simp [leHR, mvSt, mkSt, Abs.look, renF, Blk.ren, Cell.ren]
   ·simp [liveR, mvSt, mkSt, renF]
   ·simp
  ·obtain rfl : I = 6 := hI
   have l1 : zO 6 8 = true := by rw [hS.lt]; rfl
   have i1 : zA .i64 (zB 6 1) = 7 := by rw [hS.add, hS.wrap]; rfl
   have e1 : zO x6 0 = false := by rw [hS.lt]; exact decide_eq_false (by omega)
   have e2 : zO 65535 x6 = false := by rw [hS.lt]; exact decide_eq_false (by omega)
   have hmm : m - 1 < m := by omega
   have hnx : ∃ (i2 : Nat) (I2 : Int), I2 = i2 /\ (m - 1) + i2 = 8 /\ mvSt x0 x1 x2 x3 x4 x5 x6 x7 7 = mvSt x0 x1 x2 x3 x4 x5 x6 x7 I2 := ⟨7, 7, rfl, by omega, rfl⟩
   subst hs1
   cbv
   refine bT l1 (bF e1 (bF e2 ?_))
   refine againR [(1, 1)] (s' := mvSt x0 x1 x2 x3 x4 x5 x6 x7 7) (k := m - 1) ?_ ?_ ?_ ?_ rfl (by show 1 <= 2; omega) hmm hnx
   ·simp [leTR, mvSt, mkSt, vi, vb, AV.ren, AV.noTup, Cell.ren, renF, i1]
   ·simp [leHR, mvSt, mkSt, Abs.look, renF, Blk.ren, Cell.ren]
   ·simp [liveR, mvSt, mkSt, renF]
   ·simp
  ·obtain rfl : I = 7 := hI
   have l1 : zO 7 8 = true := by rw [hS.lt]; rfl
   have i1 : zA .i64 (zB 7 1) = 8 := by rw [hS.add, hS.wrap]; rfl
   have e1 : zO x7 0 = false := by rw [hS.lt]; exact decide_eq_false (by omega)
   have e2 : zO 65535 x7 = false := by rw [hS.lt]; exact decide_eq_false (by omega)
   have hmm : m - 1 < m := by omega
   have hnx : ∃ (i2 : Nat) (I2 : Int), I2 = i2 /\ (m - 1) + i2 = 8 /\ mvSt x0 x1 x2 x3 x4 x5 x6 x7 8 = mvSt x0 x1 x2 x3 x4 x5 x6 x7 I2 := ⟨8, 8, rfl, by omega, rfl⟩
   subst hs1
   cbv
   refine bT l1 (bF e1 (bF e2 ?_))
   refine againR [(1, 1)] (s' := mvSt x0 x1 x2 x3 x4 x5 x6 x7 8) (k := m - 1) ?_ ?_ ?_ ?_ rfl (by show 1 <= 2; omega) hmm hnx
   ·simp [leTR, mvSt, mkSt, vi, vb, AV.ren, AV.noTup, Cell.ren, renF, i1]
   ·simp [leHR, mvSt, mkSt, Abs.look, renF, Blk.ren, Cell.ren]
   ·simp [liveR, mvSt, mkSt, renF]
   ·simp
  ·obtain rfl : I = 8 := hI
   have l1 : zO 8 8 = false := by rw [hS.lt]; rfl
   subst hs1
   cbv
   refine bF l1 ?_
   exact hF _ (ResLe.refl _)
def mmSt (x0 x1 x2 x3 x4 x5 x6 x7 y0 y1 y2 y3 y4 y5 y6 y7 : Int) (I : Int) : St := mkSt 24 [.junk, .junk, .c (.ptr 2 0 0), .c (.ptr 3 0 0), .c (.ptr 4 0 0), .junk, vi .i64 I] [none, none, some (.var [.t (.v (.int .i64 x0)), .t (.v (.int .i64 x1)), .t (.v (.int .i64 x2)), .t (.v (.int .i64 x3)), .t (.v (.int .i64 x4)), .t (.v (.int .i64 x5)), .t (.v (.int .i64 x6)), .t (.v (.int .i64 x7))]), some (.var [.t (.v (.int .i64 y0)), .t (.v (.int .i64 y1)), .t (.v (.int .i64 y2)), .t (.v (.int .i64 y3)), .t (.v (.int .i64 y4)), .t (.v (.int .i64 y5)), .t (.v (.int .i64 y6)), .t (.v (.int .i64 y7))]), some (.var [.t (.v (.int .i64 0)), .t (.v (.int .i64 0)), .t (.v (.int .i64 0)), .t (.v (.int .i64 0)), .t (.v (.int .i64 0)), .t (.v (.int .i64 0)), .t (.v (.int .i64 0)), .t (.v (.int .i64 0))])]
theorem mmul_call (x0 x1 x2 x3 x4 x5 x6 x7 y0 y1 y2 y3 y4 y5 y6 y7 : Int) (h0 : 0 <= x0 /\ x0 <= 30000) (g0 : 0 <= y0 /\ y0 <= 30000) (h1 : 0 <= x1 /\ x1 <= 30000) (g1 : 0 <= y1 /\ y1 <= 30000) (h2 : 0 <= x2 /\ x2 <= 30000) (g2 : 0 <= y2 /\ y2 <= 30000) (h3 : 0 <= x3 /\ x3 <= 30000) (g3 : 0 <= y3 /\ y3 <= 30000) (h4 : 0 <= x4 /\ x4 <= 30000) (g4 : 0 <= y4 /\ y4 <= 30000) (h5 : 0 <= x5 /\ x5 <= 30000) (g5 : 0 <= y5 /\ y5 <= 30000) (h6 : 0 <= x6 /\ x6 <= 30000) (g6 : 0 <= y6 /\ y6 <= 30000) (h7 : 0 <= x7 /\ x7 <= 30000) (g7 : 0 <= y7 /\ y7 <= 30000) : ACall Tryz.prog 168 [.val (.agg (m8 x0 x1 x2 x3 x4 x5 x6 x7)), .val (.agg (m8 y0 y1 y2 y3 y4 y5 y6 y7))] ⟨[.val (.agg (m8 (x0 + y0) (x1 + y1) (x2 + y2) (x3 + y3) (x4 + y4) (x5 + y5) (x6 + y6) (x7 + y7))), .val (ti .i64 0)], [none, none]⟩ := by
 obtain ⟨z0, k0⟩ : ∃ z, z = x0 + y0 := ⟨_, rfl⟩
 obtain ⟨z1, k1⟩ : ∃ z, z = x1 + y1 := ⟨_, rfl⟩
 obtain ⟨z2, k2⟩ : ∃ z, z = x2 + y2 := ⟨_, rfl⟩
 obtain ⟨z3, k3⟩ : ∃ z, z = x3 + y3 := ⟨_, rfl⟩
 obtain ⟨z4, k4⟩ : ∃ z, z = x4 + y4 := ⟨_, rfl⟩
 obtain ⟨z5, k5⟩ : ∃ z, z = x5 + y5 := ⟨_, rfl⟩
 obtain ⟨z6, k6⟩ : ∃ z, z = x6 + y6 := ⟨_, rfl⟩
 obtain ⟨z7, k7⟩ : ∃ z, z = x7 + y7 := ⟨_, rfl⟩
 rw [<- k0, <- k1, <- k2, <- k3, <- k4, <- k5, <- k6, <- k7]
 have cv := mvalid_call z0 z1 z2 z3 z4 z5 z6 z7 (by omega) (by omega) (by omega) (by omega) (by omega) (by omega) (by omega) (by omega)
 unfold m8 at *
 refine callZ ccOk mixed [.val, .val] Tryz.func168 rfl rfl (by kernel_rfl) fun zA zB zC zD zE zF zG zH zI zJ zK zL zM zN zO zP zQ zR zS zT zU zV zX zY zZ za zb zc zd ze zg zh zi zk zl zm zn zo zq zr zs zt zu zw zx zy zz zW zth A L F hS hF => ?_
 have b0 : zQ true = false := by rw [hS.not]; rfl
 have w0 : zA .i64 (zB x0 y0) = z0 := by rw [hS.add, hS.wrap, wrap_i64 (by omega) (by omega), k0]
 have w1 : zA .i64 (zB x1 y1) = z1 := by rw [hS.add, hS.wrap, wrap_i64 (by omega) (by omega), k1]
 have w2 : zA .i64 (zB x2 y2) = z2 := by rw [hS.add, hS.wrap, wrap_i64 (by omega) (by omega), k2]
 have w3 : zA .i64 (zB x3 y3) = z3 := by rw [hS.add, hS.wrap, wrap_i64 (by omega) (by omega), k3]
 have w4 : zA .i64 (zB x4 y4) = z4 := by rw [hS.add, hS.wrap, wrap_i64 (by omega) (by omega), k4]
 have w5 : zA .i64 (zB x5 y5) = z5 := by rw [hS.add, hS.wrap, wrap_i64 (by omega) (by omega), k5]
 have w6 : zA .i64 (zB x6 y6) = z6 := by rw [hS.add, hS.wrap, wrap_i64 (by omega) (by omega), k6]
 have w7 : zA .i64 (zB x7 y7) = z7 := by rw [hS.add, hS.wrap, wrap_i64 (by omega) (by omega), k7]
 cbv
 refine loopZR ccOk mixed hS (fun (m : Nat) s' => ∃ (i : Nat) (I : Int), I = i /\ m + i = 8 /\ ((i = 0 /\ s' = mmSt x0 x1 x2 x3 x4 x5 x6 x7 y0 y1 y2 y3 y4 y5 y6 y7 I) ∨ (i = 1 /\ s' = mmSt z0 x1 x2 x3 x4 x5 x6 x7 y0 y1 y2 y3 y4 y5 y6 y7 I) ∨ (i = 2 /\ s' = mmSt z0 z1 x2 x3 x4 x5 x6 x7 y0 y1 y2 y3 y4 y5 y6 y7 I) ∨ (i = 3 /\ s' = mmSt z0 z1 z2 x3 x4 x5 x6 x7 y0 y1 y2 y3 y4 y5 y6 y7 I) ∨ (i = 4 /\ s' = mmSt z0 z1 z2 z3 x4 x5 x6 x7 y0 y1 y2 y3 y4 y5 y6 y7 I) ∨ (i = 5 /\ s' = mmSt z0 z1 z2 z3 z4 x5 x6 x7 y0 y1 y2 y3 y4 y5 y6 y7 I) ∨ (i = 6 /\ s' = mmSt z0 z1 z2 z3 z4 z5 x6 x7 y0 y1 y2 y3 y4 y5 y6 y7 I) ∨ (i = 7 /\ s' = mmSt z0 z1 z2 z3 z4 z5 z6 x7 y0 y1 y2 y3 y4 y5 y6 y7 I) ∨ (i = 8 /\ s' = mmSt z0 z1 z2 z3 z4 z5 z6 z7 y0 y1 y2 y3 y4 y5 y6 y7 I))) (n := 8) (s0 := mmSt x0 x1 x2 x3 x4 x5 x6 x7 y0 y1 y2 y3 y4 y5 y6 y7 0) (qaq ?_ ?_) rfl (by show 2 <= 5; omega) ?_ ?_
 ·simp [leT, mmSt, mkSt, vi, vb]
 ·simp [leH, mmSt, mkSt]
 ·exact ⟨0, 0, rfl, rfl, .inl ⟨rfl, rfl⟩⟩
 ·rintro m sx ⟨i, I, hI, him, hcs⟩
  rcases hcs with ⟨rfl, hs1⟩ | ⟨rfl, hs1⟩ | ⟨rfl, hs1⟩ | ⟨rfl, hs1⟩ | ⟨rfl, hs1⟩ | ⟨rfl, hs1⟩ | ⟨rfl, hs1⟩ | ⟨rfl, hs1⟩ | ⟨rfl, hs1⟩
  ·obtain rfl : I = 0 := hI
   have l1 : zO 0 8 = true := by rw [hS.lt]; rfl
   have i1 : zA .i64 (zB 0 1) = 1 := by rw [hS.add, hS.wrap]; rfl
   have hmm : m - 1 < m := by omega
   have hnx : ∃ (i2 : Nat) (I2 : Int), I2 = i2 /\ (m - 1) + i2 = 8 /\ ((i2 = 0 /\ mmSt z0 x1 x2 x3 x4 x5 x6 x7 y0 y1 y2 y3 y4 y5 y6 y7 1 = mmSt x0 x1 x2 x3 x4 x5 x6 x7 y0 y1 y2 y3 y4 y5 y6 y7 I2) ∨ (i2 = 1 /\ mmSt z0 x1 x2 x3 x4 x5 x6 x7 y0 y1 y2 y3 y4 y5 y6 y7 1 = mmSt z0 x1 x2 x3 x4 x5 x6 x7 y0 y1 y2 y3 y4 y5 y6 y7 I2) ∨ (i2 = 2 /\ mmSt z0 x1 x2 x3 x4 x5 x6 x7 y0 y1 y2 y3 y4 y5 y6 y7 1 = mmSt z0 z1 x2 x3 x4 x5 x6 x7 y0 y1 y2 y3 y4 y5 y6 y7 I2) ∨ (i2 = 3 /\ mmSt z0 x1 x2 x3 x4 x5 x6 x7 y0 y1 y2 y3 y4 y5 y6 y7 1 = mmSt z0 z1 z2 x3 x4 x5 x6 x7 y0 y1 y2 y3 y4 y5 y6 y7 I2) ∨ (i2 = 4 /\ mmSt z0 x1 x2 x3 x4 x5 x6 x7 y0 y1 y2 y3 y4 y5 y6 y7 1 = mmSt z0 z1 z2 z3 x4 x5 x6 x7 y0 y1 y2 y3 y4 y5 y6 y7 I2) ∨ (i2 = 5 /\ mmSt z0 x1 x2 x3 x4 x5 x6 x7 y0 y1 y2 y3 y4 y5 y6 y7 1 = mmSt z0 z1 z2 z3 z4 x5 x6 x7 y0 y1 y2 y3 y4 y5 y6 y7 I2) ∨ (i2 = 6 /\ mmSt z0 x1 x2 x3 x4 x5 x6 x7 y0 y1 y2 y3 y4 y5 y6 y7 1 = mmSt z0 z1 z2 z3 z4 z5 x6 x7 y0 y1 y2 y3 y4 y5 y6 y7 I2) ∨ (i2 = 7 /\ mmSt z0 x1 x2 x3 x4 x5 x6 x7 y0 y1 y2 y3 y4 y5 y6 y7 1 = mmSt z0 z1 z2 z3 z4 z5 z6 x7 y0 y1 y2 y3 y4 y5 y6 y7 I2) ∨ (i2 = 8 /\ mmSt z0 x1 x2 x3 x4 x5 x6 x7 y0 y1 y2 y3 y4 y5 y6 y7 1 = mmSt z0 z1 z2 z3 z4 z5 z6 z7 y0 y1 y2 y3 y4 y5 y6 y7 I2)) := ⟨1, 1, rfl, by omega, .inr (.inl ⟨rfl, rfl⟩)⟩
   subst hs1
   cbv
   refine bT l1 ?_
   refine againR [(2, 2), (3, 3), (4, 4)] (s' := mmSt z0 x1 x2 x3 x4 x5 x6 x7 y0 y1 y2 y3 y4 y5 y6 y7 1) (k := m - 1) ?_ ?_ ?_ ?_ rfl (by show 2 <= 5; omega) hmm hnx
   ·simp [leTR, mmSt, mkSt, vi, vb, AV.ren, AV.noTup, Cell.ren, renF, i1]
   ·simp [leHR, mmSt, mkSt, Abs.look, renF, Blk.ren, Cell.ren, w0]
   ·simp [liveR, mmSt, mkSt, renF]
   ·simp
  ·obtain rfl : I = 1 := hI
   have l1 : zO 1 8 = true := by rw [hS.lt]; rfl
   have i1 : zA .i64 (zB 1 1) = 2 := by rw [hS.add, hS.wrap]; rfl
   have hmm : m - 1 < m := by omega
   have hnx : ∃ (i2 : Nat) (I2 : Int), I2 = i2 /\ (m - 1) + i2 = 8 /\ ((i2 = 0 /\ mmSt z0 z1 x2 x3 x4 x5 x6 x7 y0 y1 y2 y3 y4 y5 y6 y7 2 = mmSt x0 x1 x2 x3 x4 x5 x6 x7 y0 y1 y2 y3 y4 y5 y6 y7 I2) ∨ (i2 = 1 /\ mmSt z0 z1 x2 x3 x4 x5 x6 x7 y0 y1 y2 y3 y4 y5 y6 y7 2 = mmSt z0 x1 x2 x3 x4 x5 x6 x7 y0 y1 y2 y3 y4 y5 y6 y7 I2) ∨ (i2 = 2 /\ mmSt z0 z1 x2 x3 x4 x5 x6 x7 y0 y1 y2 y3 y4 y5 y6 y7 2 = mmSt z0 z1 x2 x3 x4 x5 x6 x7 y0 y1 y2 y3 y4 y5 y6 y7 I2) ∨ (i2 = 3 /\ mmSt z0 z1 x2 x3 x4 x5 x6 x7 y0 y1 y2 y3 y4 y5 y6 y7 2 = mmSt z0 z1 z2 x3 x4 x5 x6 x7 y0 y1 y2 y3 y4 y5 y6 y7 I2) ∨ (i2 = 4 /\ mmSt z0 z1 x2 x3 x4 x5 x6 x7 y0 y1 y2 y3 y4 y5 y6 y7 2 = mmSt z0 z1 z2 z3 x4 x5 x6 x7 y0 y1 y2 y3 y4 y5 y6 y7 I2) ∨ (i2 = 5 /\ mmSt z0 z1 x2 x3 x4 x5 x6 x7 y0 y1 y2 y3 y4 y5 y6 y7 2 = mmSt z0 z1 z2 z3 z4 x5 x6 x7 y0 y1 y2 y3 y4 y5 y6 y7 I2) ∨ (i2 = 6 /\ mmSt z0 z1 x2 x3 x4 x5 x6 x7 y0 y1 y2 y3 y4 y5 y6 y7 2 = mmSt z0 z1 z2 z3 z4 z5 x6 x7 y0 y1 y2 y3 y4 y5 y6 y7 I2) ∨ (i2 = 7 /\ mmSt z0 z1 x2 x3 x4 x5 x6 x7 y0 y1 y2 y3 y4 y5 y6 y7 2 = mmSt z0 z1 z2 z3 z4 z5 z6 x7 y0 y1 y2 y3 y4 y5 y6 y7 I2) ∨ (i2 = 8 /\ mmSt z0 z1 x2 x3 x4 x5 x6 x7 y0 y1 y2 y3 y4 y5 y6 y7 2 = mmSt z0 z1 z2 z3 z4 z5 z6 z7 y0 y1 y2 y3 y4 y5 y6 y7 I2)) := ⟨2, 2, rfl, by omega, .inr (.inr (.inl ⟨rfl, rfl⟩))⟩
   subst hs1
   cbv
   refine bT l1 ?_
   refine againR [(2, 2), (3, 3), (4, 4)] (s' := mmSt z0 z1 x2 x3 x4 x5 x6 x7 y0 y1 y2 y3 y4 y5 y6 y7 2) (k := m - 1) ?_ ?_ ?_ ?_ rfl (by show 2 <= 5; omega) hmm hnx
   ·simp [leTR, mmSt, mkSt, vi, vb, AV.ren, AV.noTup, Cell.ren, renF, i1]
   ·simp [leHR, mmSt, mkSt, Abs.look, renF, Blk.ren, Cell.ren, w1]
   ·simp [liveR, mmSt, mkSt, renF]
   ·simp
  ·obtain rfl : I = 2 := hI
   have l1 : zO 2 8 = true := by rw [hS.lt]; rfl
   have i1 : zA .i64 (zB 2 1) = 3 := by rw [hS.add, hS.wrap]; rfl
   have hmm : m - 1 < m := by omega
   have hnx : ∃ (i2 : Nat) (I2 : Int), I2 = i2 /\ (m - 1) + i2 = 8 /\ ((i2 = 0 /\ mmSt z0 z1 z2 x3 x4 x5 x6 x7 y0 y1 y2 y3 y4 y5 y6 y7 3 = mmSt x0 x1 x2 x3 x4 x5 x6 x7 y0 y1 y2 y3 y4 y5 y6 y7 I2) ∨ (i2 = 1 /\ mmSt z0 z1 z2 x3 x4 x5 x6 x7 y0 y1 y2 y3 y4 y5 y6 y7 3 = mmSt z0 x1 x2 x3 x4 x5 x6 x7 y0 y1 y2 y3 y4 y5 y6 y7 I2) ∨ (i2 = 2 /\ mmSt z0 z1 z2 x3 x4 x5 x6 x7 y0 y1 y2 y3 y4 y5 y6 y7 3 = mmSt z0 z1 x2 x3 x4 x5 x6 x7 y0 y1 y2 y3 y4 y5 y6 y7 I2) ∨ (i2 = 3 /\ mmSt z0 z1 z2 x3 x4 x5 x6 x7 y0 y1 y2 y3 y4 y5 y6 y7 3 = mmSt z0 z1 z2 x3 x4 x5 x6 x7 y0 y1 y2 y3 y4 y5 y6 y7 I2) ∨ (i2 = 4 /\ mmSt z0 z1 z2 x3 x4 x5 x6 x7 y0 y1 y2 y3 y4 y5 y6 y7 3 = mmSt z0 z1 z2 z3 x4 x5 x6 x7 y0 y1 y2 y3 y4 y5 y6 y7 I2) ∨ (i2 = 5 /\ mmSt z0 z1 z2 x3 x4 x5 x6 x7 y0 y1 y2 y3 y4 y5 y6 y7 3 = mmSt z0 z1 z2 z3 z4 x5 x6 x7 y0 y1 y2 y3 y4 y5 y6 y7 I2) ∨ (i2 = 6 /\ mmSt z0 z1 z2 x3 x4 x5 x6 x7 y0 y1 y2 y3 y4 y5 y6 y7 3 = mmSt z0 z1 z2 z3 z4 z5 x6 x7 y0 y1 y2 y3 y4 y5 y6 y7 I2) ∨ (i2 = 7 /\ mmSt z0 z1 z2 x3 x4 x5 x6 x7 y0 y1 y2 y3 y4 y5 y6 y7 3 = mmSt z0 z1 z2 z3 z4 z5 z6 x7 y0 y1 y2 y3 y4 y5 y6 y7 I2) ∨ (i2 = 8 /\ mmSt z0 z1 z2 x3 x4 x5 x6 x7 y0 y1 y2 y3 y4 y5 y6 y7 3 = mmSt z0 z1 z2 z3 z4 z5 z6 z7 y0 y1 y2 y3 y4 y5 y6 y7 I2)) := ⟨3, 3, rfl, by omega, .inr (.inr (.inr (.inl ⟨rfl, rfl⟩)))⟩
   subst hs1
   cbv
   refine bT l1 ?_
   refine againR [(2, 2), (3, 3), (4, 4)] (s' := mmSt z0 z1 z2 x3 x4 x5 x6 x7 y0 y1 y2 y3 y4 y5 y6 y7 3) (k := m - 1) ?_ ?_ ?_ ?_ rfl (by show 2 <= 5; omega) hmm hnx
   ·simp [leTR, mmSt, mkSt, vi, vb, AV.ren, AV.noTup, Cell.ren, renF, i1]
   ·simp [leHR, mmSt, mkSt, Abs.look, renF, Blk.ren, Cell.ren, w2]
   ·simp [liveR, mmSt, mkSt, renF]
   ·simp
  ·obtain rfl : I = 3 := hI
   have l1 : zO 3 8 = true := by rw [hS.lt]; rfl
   have i1 : zA .i64 (zB 3 1) = 4 := by rw [hS.add, hS.wrap]; rfl
   have hmm : m - 1 < m := by omega
   have hnx : ∃ (i2 : Nat) (I2 : Int), I2 = i2 /\ (m - 1) + i2 = 8 /\ ((i2 = 0 /\ mmSt z0 z1 z2 z3 x4 x5 x6 x7 y0 y1 y2 y3 y4 y5 y6 y7 4 = mmSt x0 x1 x2 x3 x4 x5 x6 x7 y0 y1 y2 y3 y4 y5 y6 y7 I2) ∨ (i2 = 1 /\ mmSt z0 z1 z2 z3 x4 x5 x6 x7 y0 y1 y2 y3 y4 y5 y6 y7 4 = mmSt z0 x1 x2 x3 x4 x5 x6 x7 y0 y1 y2 y3 y4 y5 y6 y7 I2) ∨ (i2 = 2 /\ mmSt z0 z1 z2 z3 x4 x5 x6 x7 y0 y1 y2 y3 y4 y5 y6 y7 4 = mmSt z0 z1 x2 x3 x4 x5 x6 x7 y0 y1 y2 y3 y4 y5 y6 y7 I2) ∨ (i2 = 3 /\ mmSt z0 z1 z2 z3 x4 x5 x6 x7 y0 y1 y2 y3 y4 y5 y6 y7 4 = mmSt z0 z1 z2 x3 x4 x5 x6 x7 y0 y1 y2 y3 y4 y5 y6 y7 I2) ∨ (i2 = 4 /\ mmSt z0 z1 z2 z3 x4 x5 x6 x7 y0 y1 y2 y3 y4 y5 y6 y7 4 = mmSt z0 z1 z2 z3 x4 x5 x6 x7 y0 y1 y2 y3 y4 y5 y6 y7 I2) ∨ (i2 = 5 /\ mmSt z0 z1 z2 z3 x4 x5 x6 x7 y0 y1 y2 y3 y4 y5 y6 y7 4 = mmSt z0 z1 z2 z3 z4 x5 x6 x7 y0 y1 y2 y3 y4 y5 y6 y7 I2) ∨ (i2 = 6 /\ mmSt z0 z1 z2 z3 x4 x5 x6 x7 y0 y1 y2 y3 y4 y5 y6 y7 4 = mmSt z0 z1 z2 z3 z4 z5 x6 x7 y0 y1 y2 y3 y4 y5 y6 y7 I2) ∨ (i2 = 7 /\ mmSt z0 z1 z2 z3 x4 x5 x6 x7 y0 y1 y2 y3 y4 y5 y6 y7 4 = mmSt z0 z1 z2 z3 z4 z5 z6 x7 y0 y1 y2 y3 y4 y5 y6 y7 I2) ∨ (i2 = 8 /\ mmSt z0 z1 z2 z3 x4 x5 x6 x7 y0 y1 y2 y3 y4 y5 y6 y7 4 = mmSt z0 z1 z2 z3 z4 z5 z6 z7 y0 y1 y2 y3 y4 y5 y6 y7 I2)) := ⟨4, 4, rfl, by omega, .inr (.inr (.inr (.inr (.inl ⟨rfl, rfl⟩))))⟩
   subst hs1
   cbv
   refine bT l1 ?_
   refine againR [(2, 2), (3, 3), (4, 4)] (s' := mmSt z0 z1 z2 z3 x4 x5 x6 x7 y0 y1 y2 y3 y4 y5 y6 y7 4) (k := m - 1) ?_ ?_ ?_ ?_ rfl (by show 2 <= 5; omega) hmm hnx
   ·simp [leTR, mmSt, mkSt, vi, vb, AV.ren, AV.noTup, Cell.ren, renF, i1]
   ·simp [leHR, mmSt, mkSt, Abs.look, renF, Blk.ren, Cell.ren, w3]
   ·simp [liveR, mmSt, mkSt, renF]
   ·simp
  ·obtain rfl : I = 4 := hI
   have l1 : zO 4 8 = true := by rw [hS.lt]; rfl
   have i1 : zA .i64 (zB 4 1) = 5 := by rw [hS.add, hS.wrap]; rfl
   have hmm : m - 1 < m := by omega
   have hnx : ∃ (i2 : Nat) (I2 : Int), I2 = i2 /\ (m - 1) + i2 = 8 /\ ((i2 = 0 /\ mmSt z0 z1 z2 z3 z4 x5 x6 x7 y0 y1 y2 y3 y4 y5 y6 y7 5 = mmSt x0 x1 x2 x3 x4 x5 x6 x7 y0 y1 y2 y3 y4 y5 y6 y7 I2) ∨ (i2 = 1 /\ mmSt z0 z1 z2 z3 z4 x5 x6 x7 y0 y1 y2 y3 y4 y5 y6 y7 5 = mmSt z0 x1 x2 x3 x4 x5 x6 x7 y0 y1 y2 y3 y4 y5 y6 y7 I2) ∨ (i2 = 2 /\ mmSt z0 z1 z2 z3 z4 x5 x6 x7 y0 y1 y2 y3 y4 y5 y6 y7 5 = mmSt z0 z1 x2 x3 x4 x5 x6 x7 y0 y1 y2 y3 y4 y5 y6 y7 I2) ∨ (i2 = 3 /\ mmSt z0 z1 z2 z3 z4 x5 x6 x7 y0 y1 y2 y3 y4 y5 y6 y7 5 = mmSt z0 z1 z2 x3 x4 x5 x6 x7 y0 y1 y2 y3 y4 y5 y6 y7 I2) ∨ (i2 = 4 /\ mmSt z0 z1 z2 z3 z4 x5 x6 x7 y0 y1 y2 y3 y4 y5 y6 y7 5 = mmSt z0 z1 z2 z3 x4 x5 x6 x7 y0 y1 y2 y3 y4 y5 y6 y7 I2) ∨ (i2 = 5 /\ mmSt z0 z1 z2 z3 z4 x5 x6 x7 y0 y1 y2 y3 y4 y5 y6 y7 5 = mmSt z0 z1 z2 z3 z4 x5 x6 x7 y0 y1 y2 y3 y4 y5 y6 y7 I2) ∨ (i2 = 6 /\ mmSt z0 z1 z2 z3 z4 x5 x6 x7 y0 y1 y2 y3 y4 y5 y6 y7 5 = mmSt z0 z1 z2 z3 z4 z5 x6 x7 y0 y1 y2 y3 y4 y5 y6 y7 I2) ∨ (i2 = 7 /\ mmSt z0 z1 z2 z3 z4 x5 x6 x7 y0 y1 y2 y3 y4 y5 y6 y7 5 = mmSt z0 z1 z2 z3 z4 z5 z6 x7 y0 y1 y2 y3 y4 y5 y6 y7 I2) ∨ (i2 = 8 /\ mmSt z0 z1 z2 z3 z4 x5 x6 x7 y0 y1 y2 y3 y4 y5 y6 y7 5 = mmSt z0 z1 z2 z3 z4 z5 z6 z7 y0 y1 y2 y3 y4 y5 y6 y7 I2)) := ⟨5, 5, rfl, by omega, .inr (.inr (.inr (.inr (.inr (.inl ⟨rfl, rfl⟩)))))⟩
   subst hs1
   cbv
   refine bT l1 ?_
   refine againR [(2, 2), (3, 3), (4, 4)] (s' := mmSt z0 z1 z2 z3 z4 x5 x6 x7 y0 y1 y2 y3 y4 y5 y6 y7 5) (k := m - 1) ?_ ?_ ?_ ?_ rfl (by show 2 <= 5; omega) hmm hnx
   ·simp [leTR, mmSt, mkSt, vi, vb, AV.ren, AV.noTup, Cell.ren, renF, i1]
   ·simp [leHR, mmSt, mkSt, Abs.look, renF, Blk.ren, Cell.ren, w4]
   ·simp [liveR, mmSt, mkSt, renF]
   ·simp
  ·obtain rfl : I = 5 := hI
   have l1 : zO 5 8 = true := by rw [hS.lt]; rfl
   have i1 : zA .i64 (zB 5 1) = 6 := by rw [hS.add, hS.wrap]; rfl
   have hmm : m - 1 < m := by omega
   have hnx : ∃ (i2 : Nat) (I2 : Int), I2 = i2 /\ (m - 1) + i2 = 8 /\ ((i2 = 0 /\ mmSt z0 z1 z2 z3 z4 z5 x6 x7 y0 y1 y2 y3 y4 y5 y6 y7 6 = mmSt x0 x1 x2 x3 x4 x5 x6 x7 y0 y1 y2 y3 y4 y5 y6 y7 I2) ∨ (i2 = 1 /\ mmSt z0 z1 z2 z3 z4 z5 x6 x7 y0 y1 y2 y3 y4 y5 y6 y7 6 = mmSt z0 x1 x2 x3 x4 x5 x6 x7 y0 y1 y2 y3 y4 y5 y6 y7 I2) ∨ (i2 = 2 /\ mmSt z0 z1 z2 z3 z4 z5 x6 x7 y0 y1 y2 y3 y4 y5 y6 y7 6 = mmSt z0 z1 x2 x3 x4 x5 x6 x7 y0 y1 y2 y3 y4 y5 y6 y7 I2) ∨ (i2 = 3 /\ mmSt z0 z1 z2 z3 z4 z5 x6 x7 y0 y1 y2 y3 y4 y5 y6 y7 6 = mmSt z0 z1 z2 x3 x4 x5 x6 x7 y0 y1 y2 y3 y4 y5 y6 y7 I2) ∨ (i2 = 4 /\ mmSt z0 z1 z2 z3 z4 z5 x6 x7 y0 y1 y2 y3 y4 y5 y6 y7 6 = mmSt z0 z1 z2 z3 x4 x5 x6 x7 y0 y1 y2 y3 y4 y5 y6 y7 I2) ∨ (i2 = 5 /\ mmSt z0 z1 z2 z3 z4 z5 x6 x7 y0 y1 y2 y3 y4 y5 y6 y7 6 = mmSt z0 z1 z2 z3 z4 x5 x6 x7 y0 y1 y2 y3 y4 y5 y6 y7 I2) ∨ (i2 = 6 /\ mmSt z0 z1 z2 z3 z4 z5 x6 x7 y0 y1 y2 y3 y4 y5 y6 y7 6 = mmSt z0 z1 z2 z3 z4 z5 x6 x7 y0 y1 y2 y3 y4 y5 y6 y7 I2) ∨ (i2 = 7 /\ mmSt z0 z1 z2 z3 z4 z5 x6 x7 y0 y1 y2 y3 y4 y5 y6 y7 6 = mmSt z0 z1 z2 z3 z4 z5 z6 x7 y0 y1 y2 y3 y4 y5 y6 y7 I2) ∨ (i2 = 8 /\ mmSt z0 z1 z2 z3 z4 z5 x6 x7 y0 y1 y2 y3 y4 y5 y6 y7 6 = mmSt z0 z1 z2 z3 z4 z5 z6 z7 y0 y1 y2 y3 y4 y5 y6 y7 I2)) := ⟨6, 6, rfl, by omega, .inr (.inr (.inr (.inr (.inr (.inr (.inl ⟨rfl, rfl⟩))))))⟩
   subst hs1
   cbv
   refine bT l1 ?_
   refine againR [(2, 2), (3, 3), (4, 4)] (s' := mmSt z0 z1 z2 z3 z4 z5 x6 x7 y0 y1 y2 y3 y4 y5 y6 y7 6) (k := m - 1) ?_ ?_ ?_ ?_ rfl (by show 2 <= 5; omega) hmm hnx
   ·simp [leTR, mmSt, mkSt, vi, vb, AV.ren, AV.noTup, Cell.ren, renF, i1]
   ·simp [leHR, mmSt, mkSt, Abs.look, renF, Blk.ren, Cell.ren, w5]
   ·simp [liveR, mmSt, mkSt, renF]
   ·simp
  ·obtain rfl : I = 6 := hI
   have l1 : zO 6 8 = true := by rw [hS.lt]; rfl
   have i1 : zA .i64 (zB 6 1) = 7 := by rw [hS.add, hS.wrap]; rfl
   have hmm : m - 1 < m := by omega
   have hnx : ∃ (i2 : Nat) (I2 : Int), I2 = i2 /\ (m - 1) + i2 = 8 /\ ((i2 = 0 /\ mmSt z0 z1 z2 z3 z4 z5 z6 x7 y0 y1 y2 y3 y4 y5 y6 y7 7 = mmSt x0 x1 x2 x3 x4 x5 x6 x7 y0 y1 y2 y3 y4 y5 y6 y7 I2) ∨ (i2 = 1 /\ mmSt z0 z1 z2 z3 z4 z5 z6 x7 y0 y1 y2 y3 y4 y5 y6 y7 7 = mmSt z0 x1 x2 x3 x4 x5 x6 x7 y0 y1 y2 y3 y4 y5 y6 y7 I2) ∨ (i2 = 2 /\ mmSt z0 z1 z2 z3 z4 z5 z6 x7 y0 y1 y2 y3 y4 y5 y6 y7 7 = mmSt z0 z1 x2 x3 x4 x5 x6 x7 y0 y1 y2 y3 y4 y5 y6 y7 I2) ∨ (i2 = 3 /\ mmSt z0 z1 z2 z3 z4 z5 z6 x7 y0 y1 y2 y3 y4 y5 y6 y7 7 = mmSt z0 z1 z2 x3 x4 x5 x6 x7 y0 y1 y2 y3 y4 y5 y6 y7 I2) ∨ (i2 = 4 /\ mmSt z0 z1 z2 z3 z4 z5 z6 x7 y0 y1 y2 y3 y4 y5 y6 y7 7 = mmSt z0 z1 z2 z3 x4 x5 x6 x7 y0 y1 y2 y3 y4 y5 y6 y7 I2) ∨ (i2 = 5 /\ mmSt z0 z1 z2 z3 z4 z5 z6 x7 y0 y1 y2 y3 y4 y5 y6 y7 7 = mmSt z0 z1 z2 z3 z4 x5 x6 x7 y0 y1 y2 y3 y4 y5 y6 y7 I2) ∨ (i2 = 6 /\ mmSt z0 z1 z2 z3 z4 z5 z6 x7 y0 y1 y2 y3 y4 y5 y6 y7 7 = mmSt z0 z1 z2 z3 z4 z5 x6 x7 y0 y1 y2 y3 y4 y5 y6 y7 I2) ∨ (i2 = 7 /\ mmSt z0 z1 z2 z3 z4 z5 z6 x7 y0 y1 y2 y3 y4 y5 y6 y7 7 = mmSt z0 z1 z2 z3 z4 z5 z6 x7 y0 y1 y2 y3 y4 y5 y6 y7 I2) ∨ (i2 = 8 /\ mmSt z0 z1 z2 z3 z4 z5 z6 x7 y0 y1 y2 y3 y4 y5 y6 y7 7 = mmSt z0 z1 z2 z3 z4 z5 z6 z7 y0 y1 y2 y3 y4 y5 y6 y7 I2)) := ⟨7, 7, rfl, by omega, .inr (.inr (.inr (.inr (.inr (.inr (.inr (.inl ⟨rfl, rfl⟩)))))))⟩
   subst hs1
   cbv
   refine bT l1 ?_
   refine againR [(2, 2), (3, 3), (4, 4)] (s' := mmSt z0 z1 z2 z3 z4 z5 z6 x7 y0 y1 y2 y3 y4 y5 y6 y7 7) (k := m - 1) ?_ ?_ ?_ ?_ rfl (by show 2 <= 5; omega) hmm hnx
   ·simp [leTR, mmSt, mkSt, vi, vb, AV.ren, AV.noTup, Cell.ren, renF, i1]
   ·simp [leHR, mmSt, mkSt, Abs.look, renF, Blk.ren, Cell.ren, w6]
   ·simp [liveR, mmSt, mkSt, renF]
   ·simp
  ·obtain rfl : I = 7 := hI
   have l1 : zO 7 8 = true := by rw [hS.lt]; rfl
   have i1 : zA .i64 (zB 7 1) = 8 := by rw [hS.add, hS.wrap]; rfl
   have hmm : m - 1 < m := by omega
   have hnx : ∃ (i2 : Nat) (I2 : Int), I2 = i2 /\ (m - 1) + i2 = 8 /\ ((i2 = 0 /\ mmSt z0 z1 z2 z3 z4 z5 z6 z7 y0 y1 y2 y3 y4 y5 y6 y7 8 = mmSt x0 x1 x2 x3 x4 x5 x6 x7 y0 y1 y2 y3 y4 y5 y6 y7 I2) ∨ (i2 = 1 /\ mmSt z0 z1 z2 z3 z4 z5 z6 z7 y0 y1 y2 y3 y4 y5 y6 y7 8 = mmSt z0 x1 x2 x3 x4 x5 x6 x7 y0 y1 y2 y3 y4 y5 y6 y7 I2) ∨ (i2 = 2 /\ mmSt z0 z1 z2 z3 z4 z5 z6 z7 y0 y1 y2 y3 y4 y5 y6 y7 8 = mmSt z0 z1 x2 x3 x4 x5 x6 x7 y0 y1 y2 y3 y4 y5 y6 y7 I2) ∨ (i2 = 3 /\ mmSt z0 z1 z2 z3 z4 z5 z6 z7 y0 y1 y2 y3 y4 y5 y6 y7 8 = mmSt z0 z1 z2 x3 x4 x5 x6 x7 y0 y1 y2 y3 y4 y5 y6 y7 I2) ∨ (i2 = 4 /\ mmSt z0 z1 z2 z3 z4 z5 z6 z7 y0 y1 y2 y3 y4 y5 y6 y7 8 = mmSt z0 z1 z2 z3 x4 x5 x6 x7 y0 y1 y2 y3 y4 y5 y6 y7 I2) ∨ (i2 = 5 /\ mmSt z0 z1 z2 z3 z4 z5 z6 z7 y0 y1 y2 y3 y4 y5 y6 y7 8 = mmSt z0 z1 z2 z3 z4 x5 x6 x7 y0 y1 y2 y3 y4 y5 y6 y7 I2) ∨ (i2 = 6 /\ mmSt z0 z1 z2 z3 z4 z5 z6 z7 y0 y1 y2 y3 y4 y5 y6 y7 8 = mmSt z0 z1 z2 z3 z4 z5 x6 x7 y0 y1 y2 y3 y4 y5 y6 y7 I2) ∨ (i2 = 7 /\ mmSt z0 z1 z2 z3 z4 z5 z6 z7 y0 y1 y2 y3 y4 y5 y6 y7 8 = mmSt z0 z1 z2 z3 z4 z5 z6 x7 y0 y1 y2 y3 y4 y5 y6 y7 I2) ∨ (i2 = 8 /\ mmSt z0 z1 z2 z3 z4 z5 z6 z7 y0 y1 y2 y3 y4 y5 y6 y7 8 = mmSt z0 z1 z2 z3 z4 z5 z6 z7 y0 y1 y2 y3 y4 y5 y6 y7 I2)) := ⟨8, 8, rfl, by omega, .inr (.inr (.inr (.inr (.inr (.inr (.inr (.inr (⟨rfl, rfl⟩))))))))⟩
   subst hs1
   cbv
   refine bT l1 ?_
   refine againR [(2, 2), (3, 3), (4, 4)] (s' := mmSt z0 z1 z2 z3 z4 z5 z6 z7 y0 y1 y2 y3 y4 y5 y6 y7 8) (k := m - 1) ?_ ?_ ?_ ?_ rfl (by show 2 <= 5; omega) hmm hnx
   ·simp [leTR, mmSt, mkSt, vi, vb, AV.ren, AV.noTup, Cell.ren, renF, i1]
   ·simp [leHR, mmSt, mkSt, Abs.look, renF, Blk.ren, Cell.ren, w7]
   ·simp [liveR, mmSt, mkSt, renF]
   ·simp
  ·obtain rfl : I = 8 := hI
   have l1 : zO 8 8 = false := by rw [hS.lt]; rfl
   subst hs1
   cbv
   refine bF l1 ?_
   refine ⟨_, hS.call (cv), ?_⟩
   cbv
   refine bF (b0) ?_
   exact hF _ (ResLe.refl _)
open Go Go.Abs Go.Abs.M Go.Proofs
structure TM8 where
 c : Rat
 x0 : Int
 x1 : Int
 x2 : Int
 x3 : Int
 x4 : Int
 x5 : Int
 x6 : Int
 x7 : Int
def TM8.row (t : TM8) : List Tree := (qc t.c).row ++ m8 t.x0 t.x1 t.x2 t.x3 t.x4 t.x5 t.x6 t.x7
structure TM8.ok (t : TM8) (n : Nat) (B : Int) : Prop where
 c : Qs t.c n
 h0 : 0 <= t.x0 /\ t.x0 <= B
 h1 : 0 <= t.x1 /\ t.x1 <= B
 h2 : 0 <= t.x2 /\ t.x2 <= B
 h3 : 0 <= t.x3 /\ t.x3 <= B
 h4 : 0 <= t.x4 /\ t.x4 <= B
 h5 : 0 <= t.x5 /\ t.x5 <= B
 h6 : 0 <= t.x6 /\ t.x6 <= B
 h7 : 0 <= t.x7 /\ t.x7 <= B
theorem TM8.ok.mono {t : TM8} {n m : Nat} {B : Int} (h : t.ok n B) (hm : n <= m) : t.ok m B := ⟨h.c.mono hm, h.h0, h.h1, h.h2, h.h3, h.h4, h.h5, h.h6, h.h7⟩
def tmr (l : List TM8) : Abs.Rows := l.map TM8.row
theorem tmr_len (l : List TM8) : (tmr l).length = l.length := by simp [tmr]
theorem tmr_get {l : List TM8} {i : Nat} {t : TM8} (h : l[i]? = some t) : (tmr l)[i]? = some t.row := by simp [tmr, h]
theorem tmr_app (l : List TM8) (t : TM8) : tmr (l ++ [t]) = tmr l ++ [t.row] := by simp [tmr]
def rptSt (X : Abs.Rows) (s : Bool) (r : Abs.Rows) (t : Bool) (p : Abs.Rows) (len : Nat) (R : Abs.Rows) (I : Int) : St := mkSt 47 [.junk, .junk, .c (.t (.lst false X)), .c (.ptr 3 0 0), .c (.ptr 4 0 0), .junk, .junk, .junk, .c (.sl 5 0 len false), vi .i64 I] [none, none, none, some (.var [.t (.v (.bool s)), .t (.lst false r), .t (.v (.bool t)), .t (.lst false p)]), some (.var [.t (.v (.int .i64 0)), .t (.v (.int .i64 0)), .t (.v (.int .i64 0)), .t (.v (.int .i64 0)), .t (.v (.int .i64 0)), .t (.v (.int .i64 0)), .t (.v (.int .i64 0)), .t (.v (.int .i64 0))]), some (.rows 12 R true false)]
def tm1 (a : Rat) (t : TM8) : List TM8 := if a = 0 then [] else [⟨a * t.c, t.x0, t.x1, t.x2, t.x3, t.x4, t.x5, t.x6, t.x7⟩]
theorem tm1_ok {a : Rat} {t : TM8} {n : Nat} {B : Int} (ha : Qs a n) (ht : t.ok n B) : (tm1 a t).length <= 1 /\ ∀ t' ∈ tm1 a t, t'.ok (n + n) B := by
 unfold tm1
 split
 ·exact ⟨by simp, by simp⟩
 ·refine ⟨by simp, fun t' h => ?_⟩
  rw [List.mem_singleton.1 h]
  exact ⟨qan ha ht.c, ht.h0, ht.h1, ht.h2, ht.h3, ht.h4, ht.h5, ht.h6, ht.h7⟩
theorem rptimes_call (a : Rat) (t : TM8) {n : Nat} (ha : Qs a n) (ht : t.ok n 30000) (hn : n <= 1000) :
  ACall Tryz.prog 135 [.val (.agg (qc a).row), .val (.agg (m8 0 0 0 0 0 0 0 0)), .val (tl [t.row])] ⟨[.val (tl (tmr (tm1 a t))), .val (ti .i64 0)], [none, none, none]⟩ := by
 obtain ⟨c, x0, x1, x2, x3, x4, x5, x6, x7⟩ := t
 obtain ⟨hc, h0, h1, h2, h3, h4, h5, h6, h7⟩ := ht
 simp only at hc h0 h1 h2 h3 h4 h5 h6 h7
 obtain ⟨C, c1, c2, cs⟩ := rqsign_ex a
 obtain ⟨qm, cm⟩ := qbf ha hc (by omega)
 have cn := mmul_call 0 0 0 0 0 0 0 0 x0 x1 x2 x3 x4 x5 x6 x7 (by omega) (by omega) (by omega) (by omega) (by omega) (by omega) (by omega) (by omega) (by omega) (by omega) (by omega) (by omega) (by omega) (by omega) (by omega) (by omega)
 simp only [Int.zero_add] at cn
 by_cases h : a = 0
 ·rw [tm1, if_pos h]
  have hC : C = 0 := by
   have e1 : ¬ C < 0 := fun h' => by have := c1.1 h'; rw [h] at this; exact Rat.lt_irrefl this
   have e2 : ¬ 0 < C := fun h' => by have := c2.1 h'; rw [h] at this; exact Rat.lt_irrefl this
   omega
  obtain ⟨s1, t1, r1, p1, e1, _⟩ := qrow a
  rw [e1] at cs ⊢
  unfold TM8.row m8
  obtain ⟨s2, t2, r2, p2, e2, _⟩ := qrow c
  rw [show (qc (TM8.mk c x0 x1 x2 x3 x4 x5 x6 x7).c).row = [.v (.bool s2), .lst false r2, .v (.bool t2), .lst false p2] from e2]
  refine callZ ccOk mixed [.val, .val] Tryz.func135 rfl rfl (by kernel_rfl) fun zA zB zC zD zE zF zG zH zI zJ zK zL zM zN zO zP zQ zR zS zT zU zV zX zY zZ za zb zc zd ze zg zh zi zk zl zm zn zo zq zr zs zt zu zw zx zy zz zW zth A L F hS hF => ?_
  have q : zM C 0 = true := by rw [hS.eq]; exact decide_eq_true hC
  cbv
  refine ⟨_, hS.call (cs), ?_⟩
  cbv
  refine bT (q) ?_
  exact fin2w hF (TLe.drop _ _) (TVLe.refl _)
 ·rw [tm1, if_neg h]
  have hC : ¬ C = 0 := fun hC => h (by
   have e1 : ¬ a < 0 := fun h' => by have := c1.2 h'; omega
   have e2 : ¬ 0 < a := fun h' => by have := c2.2 h'; omega
   exact Rat.le_antisymm (Rat.not_lt.1 e2) (Rat.not_lt.1 e1))
  obtain ⟨s1, t1, r1, p1, e1, _⟩ := qrow a
  obtain ⟨s2, t2, r2, p2, e2, _⟩ := qrow c
  obtain ⟨s3, t3, r3, p3, e3, _⟩ := qrow (a * c)
  rw [e1] at cs ⊢
  rw [e1, e2, e3] at cm
  unfold tmr
  simp only [List.map_cons, List.map_nil, TM8.row]
  unfold m8 at *
  rw [e2, e3]
  obtain ⟨X, hX⟩ : ∃ X, X = [[Tree.v (.bool s2), .lst false r2, .v (.bool t2), .lst false p2, .v (.int .i64 x0), .v (.int .i64 x1), .v (.int .i64 x2), .v (.int .i64 x3), .v (.int .i64 x4), .v (.int .i64 x5), .v (.int .i64 x6), .v (.int .i64 x7)]] := ⟨_, rfl⟩
  obtain ⟨row, hrw⟩ : ∃ row, row = [Tree.v (.bool s3), .lst false r3, .v (.bool t3), .lst false p3, .v (.int .i64 x0), .v (.int .i64 x1), .v (.int .i64 x2), .v (.int .i64 x3), .v (.int .i64 x4), .v (.int .i64 x5), .v (.int .i64 x6), .v (.int .i64 x7)] := ⟨_, rfl⟩
  show ACall _ _ [_, _, .val (tl [[Tree.v (.bool s2), .lst false r2, .v (.bool t2), .lst false p2, .v (.int .i64 x0), .v (.int .i64 x1), .v (.int .i64 x2), .v (.int .i64 x3), .v (.int .i64 x4), .v (.int .i64 x5), .v (.int .i64 x6), .v (.int .i64 x7)]])] ⟨[.val (tl [[Tree.v (.bool s3), .lst false r3, .v (.bool t3), .lst false p3, .v (.int .i64 x0), .v (.int .i64 x1), .v (.int .i64 x2), .v (.int .i64 x3), .v (.int .i64 x4), .v (.int .i64 x5), .v (.int .i64 x6), .v (.int .i64 x7)]]), _], _⟩
  rw [<- hX, <- hrw]
  have lX : X.length = 1 := by rw [hX]; rfl
  have hX0 : X[0]? = some [Tree.v (.bool s2), .lst false r2, .v (.bool t2), .lst false p2, .v (.int .i64 x0), .v (.int .i64 x1), .v (.int .i64 x2), .v (.int .i64 x3), .v (.int .i64 x4), .v (.int .i64 x5), .v (.int .i64 x6), .v (.int .i64 x7)] := by rw [hX]; rfl
  clear hX
  refine callZ ccOk mixed [.val, .val] Tryz.func135 rfl rfl (by kernel_rfl) fun zA zB zC zD zE zF zG zH zI zJ zK zL zM zN zO zP zQ zR zS zT zU zV zX zY zZ za zb zc zd ze zg zh zi zk zl zm zn zo zq zr zs zt zu zw zx zy zz zW zth A L F hS hF => ?_
  have q : zM C 0 = false := by rw [hS.eq]; exact decide_eq_false hC
  have hr4 : row.length = 12 := by rw [hrw]; rfl
  have u0 : zq [row] 0 1 = [row] := by rw [hS.part]; rfl
  have u1 : zo 0 1 [row] = true := by rw [hS.fit]; rfl
  have u2 : zQ (za (zh [row]) 0) = true := by rw [hS.len, hS.neq, hS.not]; rfl
  have u3 : zu 12 [row] = true := by rw [hS.wide]; simp [hr4]
  have u4 : ze 0 (zh [row]) 128 = true := by rw [hS.len, hS.room]; exact decide_eq_true (by unfold capBytes; simp only [List.length_cons, List.length_nil]; omega)
  have u5 : za (zb 0 0) (zh []) = true := by rw [hS.nadd, hS.neq, hS.len]; rfl
  have u6 : zb 0 (zh [row]) = 1 := by rw [hS.len, hS.nadd]; rfl
  have u7 : zr [] 0 [row] = [row] := by rw [hS.ext]; rfl
  have e0 : zN 0 0 = false := by rw [hS.ne]; rfl
  obtain ⟨N, hN, hN2⟩ : ∃ N : Int, N = 1 /\ zY (zh X) = N := ⟨_, rfl, by rw [hS.ofN, hS.len, lX]; rfl⟩
  cbv
  refine ⟨_, hS.call (cs), ?_⟩
  cbv
  refine bF (q) ?_
  refine loopZR ccOk mixed hS (fun (m : Nat) s' => (m = 1 /\ s' = rptSt X s1 r1 t1 p1 0 [] 0) ∨ (m = 0 /\ s' = rptSt X s1 r1 t1 p1 1 [row] 1)) (n := 1) (s0 := rptSt X s1 r1 t1 p1 0 [] 0) (qaq ?_ ?_) rfl (by show 3 <= 6; omega) ?_ ?_
  ·simp [leT, rptSt, mkSt, vi, vb]
  ·simp [leH, rptSt, mkSt]
  ·exact .inl ⟨rfl, rfl⟩
  ·rintro m sx hcs
   rcases hcs with ⟨hm, hs1⟩ | ⟨hm, hs1⟩
   ·have l1 : zO 0 (zY (zh X)) = true := by rw [hN2, hS.lt]; exact decide_eq_true (by omega)
    have j1 : zV 0 = 0 := by rw [hS.nat]; rfl
    have j2 : zi X 0 = some [Tree.v (.bool s2), .lst false r2, .v (.bool t2), .lst false p2, .v (.int .i64 x0), .v (.int .i64 x1), .v (.int .i64 x2), .v (.int .i64 x3), .v (.int .i64 x4), .v (.int .i64 x5), .v (.int .i64 x6), .v (.int .i64 x7)] := by rw [hS.nth]; exact hX0
    have n0 : zP 0 0 = true := by rw [hS.le]; rfl
    have i1 : zA .i64 (zB 0 1) = 1 := by rw [hS.add, hS.wrap]; rfl
    have hmm : m - 1 < m := by omega
    have hnx : (m - 1 = 1 /\ rptSt X s1 r1 t1 p1 1 [row] 1 = rptSt X s1 r1 t1 p1 0 [] 0) ∨ (m - 1 = 0 /\ rptSt X s1 r1 t1 p1 1 [row] 1 = rptSt X s1 r1 t1 p1 1 [row] 1) := .inr ⟨by omega, rfl⟩
    subst hs1
    cbv
    refine bT l1 ?_
    rw [j1, j2]
    cbv
    refine nd (n0) ?_
    refine ⟨_, hS.call (cn), ?_⟩
    cbv
    refine bF (e0) ?_
    rw [j1, j2]
    cbv
    refine nd (n0) ?_
    refine ⟨_, hS.call (cm), ?_⟩
    cbv
    rw [<- hrw, u0]
    refine nd (u1) ?_
    refine nd (u2) ?_
    refine nd (u3) ?_
    refine nd (u4) ?_
    refine nd (u5) ?_
    refine againR [(3, 3), (4, 4), (5, 12)] (s' := rptSt X s1 r1 t1 p1 1 [row] 1) (k := m - 1) ?_ ?_ ?_ ?_ rfl (by show 3 <= 6; omega) hmm hnx
    ·simp [leTR, rptSt, mkSt, vi, AV.ren, AV.noTup, Cell.ren, renF, i1, u6]
    ·simp [leHR, rptSt, mkSt, Abs.look, renF, Blk.ren, u7, Cell.ren]
    ·simp [liveR, rptSt, mkSt, renF]
    ·simp
   ·have l1 : zO 1 (zY (zh X)) = false := by rw [hN2, hS.lt]; exact decide_eq_false (by omega)
    have f1 : zo 0 1 [row] = true := u1
    subst hs1
    cbv
    refine bF l1 (nd u1 ?_)
    rw [u0]
    exact hF _ (ResLe.refl _)
open Go Go.Abs Go.Abs.M Go.Proofs
theorem mhi_corner (x y z w : Rat) : mhi x y z w = x * z ∨ mhi x y z w = y * z ∨ mhi x y z w = x * w ∨ mhi x y z w = y * w := by
 unfold mhi rmax
 grind
theorem mul_sub {x y z w p q r s : Rat} (h : x <= y) (h' : z <= w) (h1 : p <= x) (h2 : y <= q) (h3 : r <= z) (h4 : w <= s) : mlo p q r s <= mlo x y z w /\ mhi x y z w <= mhi p q r s := by
 have a1 := mul_in (x := p) (y := q) (z := r) (w := s) (u := x) (v := z) h1 (by grind) h3 (by grind)
 have a2 := mul_in (x := p) (y := q) (z := r) (w := s) (u := y) (v := z) (by grind) h2 h3 (by grind)
 have a3 := mul_in (x := p) (y := q) (z := r) (w := s) (u := x) (v := w) h1 (by grind) (by grind) h4
 have a4 := mul_in (x := p) (y := q) (z := r) (w := s) (u := y) (v := w) (by grind) h2 (by grind) h4
 constructor
 ·rcases mlo_corner x y z w with e | e | e | e <;> rw [e]
  ·exact a1.1
  ·exact a2.1
  ·exact a3.1
  ·exact a4.1
 ·rcases mhi_corner x y z w with e | e | e | e <;> rw [e]
  ·exact a1.2
  ·exact a2.2
  ·exact a3.2
  ·exact a4.2
def TM8.e (t : TM8) : Nat -> Int
 | 0 => t.x0
 | 1 => t.x1
 | 2 => t.x2
 | 3 => t.x3
 | 4 => t.x4
 | 5 => t.x5
 | 6 => t.x6
 | 7 => t.x7
 | _ => 0
def TM8.n (t : TM8) (i : Nat) : Nat := (t.e i).toNat
theorem TM8.ok.e {t : TM8} {n : Nat} {B : Int} (h : t.ok n B) (hB : 0 <= B) : ∀ i, 0 <= t.e i /\ t.e i <= B
 | 0 => h.h0
 | 1 => h.h1
 | 2 => h.h2
 | 3 => h.h3
 | 4 => h.h4
 | 5 => h.h5
 | 6 => h.h6
 | 7 => h.h7
 | _ + 8 => ⟨Int.le_refl 0, hB⟩
theorem TM8.ok.n {t : TM8} {n : Nat} (h : t.ok n 4) (i : Nat) : (t.n i : Int) = t.e i /\ t.n i <= 4 := by
 have := h.e (by decide) i
 unfold TM8.n
 omega
def tQ (c : Rat) (v : Nat -> Rat) (n : Nat -> Nat) : Nat -> Rat
 | 0 => c
 | i + 1 => tQ c v n i * v i ^ n i
def tI (c : Rat) (l h : Nat -> Rat) (n : Nat -> Nat) : Nat -> Rat × Rat
 | 0 => (c, c)
 | i + 1 => (mlo (tI c l h n i).1 (tI c l h n i).2 (pwlo (l i) (h i) (n i)) (pwhi (l i) (h i) (n i)), mhi (tI c l h n i).1 (tI c l h n i).2 (pwlo (l i) (h i) (n i)) (pwhi (l i) (h i) (n i)))
def sumQ (f : Nat -> Rat) : Nat -> Rat
 | 0 => 0
 | k + 1 => sumQ f k + f k
def sumI (f : Nat -> Rat × Rat) : Nat -> Rat × Rat
 | 0 => (0, 0)
 | k + 1 => ((sumI f k).1 + (f k).1, (sumI f k).2 + (f k).2)
theorem tI_in {c : Rat} {l h v : Nat -> Rat} {n : Nat -> Nat} (hv : ∀ i, l i <= v i /\ v i <= h i) : ∀ i, (tI c l h n i).1 <= tQ c v n i /\ tQ c v n i <= (tI c l h n i).2
 | 0 => ⟨Rat.le_refl, Rat.le_refl⟩
 | i + 1 => by
  have h1 := tI_in (c := c) (n := n) hv i
  have h2 := pow_in (hv i).1 (hv i).2 (n i)
  exact mul_in h1.1 h1.2 h2.1 h2.2
theorem tI_le {c : Rat} {l h : Nat -> Rat} {n : Nat -> Nat} (hv : ∀ i, l i <= h i) (i : Nat) : (tI c l h n i).1 <= (tI c l h n i).2 := by
 have := tI_in (c := c) (n := n) (v := l) (h := h) (fun i => ⟨Rat.le_refl, hv i⟩) i
 exact Rat.le_trans this.1 this.2
theorem sumI_in {f : Nat -> Rat × Rat} {g : Nat -> Rat} : ∀ k, (∀ i, i < k -> (f i).1 <= g i /\ g i <= (f i).2) -> (sumI f k).1 <= sumQ g k /\ sumQ g k <= (sumI f k).2
 | 0, _ => ⟨Rat.le_refl, Rat.le_refl⟩
 | k + 1, h => by
  have h1 := sumI_in k (fun i hi => h i (by omega))
  have h2 := h k (by omega)
  simp only [sumI, sumQ]
  exact ⟨by grind, by grind⟩
theorem mlo_one {a b : Rat} (h : a <= b) : mlo a b 1 1 = a /\ mhi a b 1 1 = b := by
 unfold mlo mhi rmin rmax
 simp only [Rat.mul_one]
 grind
theorem pw_zero (x y : Rat) : pwlo x y 0 = 1 /\ pwhi x y 0 = 1 := by
 unfold pwlo pwhi rmin rmax
 simp only [Rat.pow_zero]
 exact ⟨by rw [if_neg (by omega)]; split <;> rfl, by split <;> rfl⟩
theorem tI_skip {c : Rat} {l h : Nat -> Rat} {n : Nat -> Nat} (hv : ∀ i, l i <= h i) (i : Nat) (h0 : n i = 0) : tI c l h n (i + 1) = tI c l h n i := by
 have h1 := mlo_one (tI_le (c := c) (n := n) hv i)
 have h2 := pw_zero (l i) (h i)
 simp only [tI, h0, h2.1, h2.2, h1.1, h1.2]
open Go Go.Abs Go.Abs.M Go.Proofs
structure RN where
 s : Bool
 r : Abs.Rows
 t : Bool
 p : Abs.Rows
def RN.row (c : RN) : List Tree := [.v (.bool c.s), .lst false c.r, .v (.bool c.t), .lst false c.p]
def rc (x : Rat) : RN := ⟨(qc x).s, W .u32 (qc x).l, (qc x).t, W .u32 (qc x).m⟩
theorem rc_row (x : Rat) : (qc x).row = (rc x).row := rfl
def pt8 (f : Nat -> RN) : List Tree := (f 0).row ++ (f 1).row ++ (f 2).row ++ (f 3).row ++ (f 4).row ++ (f 5).row ++ (f 6).row ++ (f 7).row
def bx8 (f g : Nat -> RN) : List Tree := (f 0).row ++ (g 0).row ++ (f 1).row ++ (g 1).row ++ (f 2).row ++ (g 2).row ++ (f 3).row ++ (g 3).row ++ (f 4).row ++ (g 4).row ++ (f 5).row ++ (g 5).row ++ (f 6).row ++ (g 6).row ++ (f 7).row ++ (g 7).row
def tr8 (c : RN) (e : Nat -> Int) : List Tree := [.v (.bool c.s), .lst false c.r, .v (.bool c.t), .lst false c.p, .v (.int .i64 (e 0)), .v (.int .i64 (e 1)), .v (.int .i64 (e 2)), .v (.int .i64 (e 3)), .v (.int .i64 (e 4)), .v (.int .i64 (e 5)), .v (.int .i64 (e 6)), .v (.int .i64 (e 7))]
theorem TM8.row_tr (t : TM8) : t.row = tr8 (rc t.c) t.e := rfl
def blk (i j : Nat) (a b : List Tree) : List Tree := if j < i then a else b
def zbx (i : Nat) (f g : Nat -> List Tree) : List Tree := blk i 0 (f 0) (g 0) ++ blk i 1 (f 1) (g 1) ++ blk i 2 (f 2) (g 2) ++ blk i 3 (f 3) (g 3) ++ blk i 4 (f 4) (g 4) ++ blk i 5 (f 5) (g 5) ++ blk i 6 (f 6) (g 6) ++ blk i 7 (f 7) (g 7)
def zz8 : List Tree := zbx 0 (fun _ => []) (fun _ => rawZ ++ rawZ)
def izSt (c : RN) (i : Nat) (I : Int) : St := mkSt 13 [.c (.ptr 0 0 0), .c (.ptr 1 0 0), vi .i64 I] [some (.var (zz8.map .t)), some (.var ((zbx i (fun _ => c.row ++ c.row) (fun _ => rawZ ++ rawZ)).map .t))]
theorem izero_call : ACall Tryz.prog 58 [] ⟨[.val (.agg (bx8 (fun _ => rc 0) (fun _ => rc 0)))], []⟩ := by
 have cz := qam 0 (by omega) (by omega)
 rw [show ((0 : Int) : Rat) = 0 from rfl, rc_row] at cz
 generalize rc 0 = c at *
 have cp : ACall Tryz.prog 105 [.val (.agg c.row)] ⟨[.val (.agg (c.row ++ c.row))], [none]⟩ := by
  refine callZ ccOk mixed [.val] Tryz.func105 rfl rfl (by kernel_rfl) fun zA zB zC zD zE zF zG zH zI zJ zK zL zM zN zO zP zQ zR zS zT zU zV zX zY zZ za zb zc zd ze zg zh zi zk zl zm zn zo zq zr zs zt zu zw zx zy zz zW zth A L F hS hF => ?_
  cbv
  exact hF _ (ResLe.refl _)
 refine callZ ccOk mixed [.val] Tryz.func58 rfl rfl (by kernel_rfl) fun zA zB zC zD zE zF zG zH zI zJ zK zL zM zN zO zP zQ zR zS zT zU zV zX zY zZ za zb zc zd ze zg zh zi zk zl zm zn zo zq zr zs zt zu zw zx zy zz zW zth A L F hS hF => ?_
 cbv
 refine loopZR ccOk mixed hS (fun (m : Nat) s' => ∃ (i : Nat) (I : Int), I = i /\ m + i = 8 /\ s' = izSt c i I) (n := 8) (s0 := izSt c 0 0) (qaq ?_ ?_) rfl (by show 0 <= 2; omega) ?_ ?_
 ·simp [leT, izSt, mkSt, vi, vb]
 ·simp [leH, izSt, mkSt, zz8, zbx, blk, rawZ]
 ·exact ⟨0, 0, rfl, rfl, rfl⟩
 ·rintro m sx ⟨i, I, hI, him, hs1⟩
  by_cases hi : i = 8
  ·obtain rfl : I = 8 := by omega
   subst hi
   have l1 : zO 8 8 = false := by rw [hS.lt]; rfl
   subst hs1
   cbv
   refine bF l1 ?_
   exact hF _ (ResLe.refl _)
  ·obtain ⟨I', hI'⟩ : ∃ I' : Int, I' = ((i + 1 : Nat) : Int) := ⟨_, rfl⟩
   have l1 : zO I 8 = true := by rw [hS.lt]; exact decide_eq_true (by omega)
   have i1 : zA .i64 (zB I 1) = I' := by rw [hS.add, hS.wrap, wrap_i64 (by omega) (by omega)]; omega
   have hmm : m - 1 < m := by omega
   have hnx : ∃ (j : Nat) (J : Int), J = j /\ m - 1 + j = 8 /\ izSt c (i + 1) I' = izSt c j J := ⟨i + 1, I', hI', by omega, rfl⟩
   obtain rfl | rfl | rfl | rfl | rfl | rfl | rfl | rfl : i = 0 ∨ i = 1 ∨ i = 2 ∨ i = 3 ∨ i = 4 ∨ i = 5 ∨ i = 6 ∨ i = 7 := by omega
   all_goals
    simp at hI hI'
    subst hI hI' hs1
    cbv
    refine bT l1 ?_
    refine ⟨_, hS.call (cz), ?_⟩
    cbv
    refine ⟨_, hS.call (cp), ?_⟩
    cbv
    refine againR [(0, 0), (1, 1)] (k := m - 1) ?_ ?_ ?_ ?_ rfl (by show 0 <= 2; omega) hmm hnx
    ·simp [leTR, izSt, mkSt, vi, AV.ren, AV.noTup, Cell.ren, renF, i1]
    ·simp [leHR, izSt, mkSt, Abs.look, renF, Blk.ren, Cell.ren, zz8, zbx, blk, RN.row, rawZ]
    ·simp [liveR, izSt, mkSt, renF]
    ·simp
open Go Go.Abs Go.Abs.M Go.Proofs
theorem rpscale_call (a : Rat) (t : TM8) {n : Nat} (ha : Qs a n) (ht : t.ok n 30000) (hn : n <= 1000) :
  ACall Tryz.prog 85 [.val (.agg (qc a).row), .val (tl [t.row])] ⟨[.val (tl (tmr (tm1 a t)))], [none, none]⟩ := by
 have c := rptimes_call a t ha ht hn
 obtain ⟨s1, t1, r1, p1, e1, _⟩ := qrow a
 rw [e1] at c ⊢
 unfold m8 at c
 generalize tmr (tm1 a t) = T at *
 obtain ⟨X, hX⟩ : ∃ X, X = [t.row] := ⟨_, rfl⟩
 rw [<- hX] at c ⊢
 refine callZ ccOk mixed [.val] Tryz.func85 rfl rfl (by kernel_rfl) fun zA zB zC zD zE zF zG zH zI zJ zK zL zM zN zO zP zQ zR zS zT zU zV zX zY zZ za zb zc zd ze zg zh zi zk zl zm zn zo zq zr zs zt zu zw zx zy zz zW zth A L F hS hF => ?_
 cbv
 refine ⟨_, hS.call (c), ?_⟩
 cbv
 exact hF _ (ResLe.refl _)
def TM8.cmp (p q : TM8) : Int := cmp8 [p.x0, p.x1, p.x2, p.x3, p.x4, p.x5, p.x6, p.x7] [q.x0, q.x1, q.x2, q.x3, q.x4, q.x5, q.x6, q.x7]
def padd : Nat -> List TM8 -> List TM8 -> List TM8
 | 0, _, _ => []
 | _ + 1, [], [] => []
 | f + 1, p :: P, [] => p :: padd f P []
 | f + 1, [], q :: Q => q :: padd f [] Q
 | f + 1, p :: P, q :: Q => if 0 < p.cmp q then p :: padd f P (q :: Q) else if p.cmp q < 0 then q :: padd f (p :: P) Q else
   if p.c + q.c = 0 then padd f P Q else ⟨p.c + q.c, p.x0, p.x1, p.x2, p.x3, p.x4, p.x5, p.x6, p.x7⟩ :: padd f P Q
theorem padd_ok {a b : Nat} {B : Int} : ∀ (f : Nat) (P Q : List TM8), (∀ t ∈ P, t.ok a B) -> (∀ t ∈ Q, t.ok b B) -> (padd f P Q).length <= P.length + Q.length /\ ∀ t ∈ padd f P Q, t.ok (a + b + 1) B
 | 0, P, Q, hP, hQ => ⟨by simp [padd], by simp [padd]⟩
 | f + 1, [], [], hP, hQ => ⟨by simp [padd], by simp [padd]⟩
 | f + 1, p :: P, [], hP, hQ => by
  obtain ⟨h1, h2⟩ := padd_ok f P [] (fun t h => hP t (List.mem_cons_of_mem _ h)) hQ
  refine ⟨by simp only [padd, List.length_cons] at *; omega, fun t ht => ?_⟩
  rcases List.mem_cons.1 ht with rfl | h
  ·exact (hP _ List.mem_cons_self).mono (by omega)
  ·exact h2 t h
 | f + 1, [], q :: Q, hP, hQ => by
  obtain ⟨h1, h2⟩ := padd_ok f [] Q hP (fun t h => hQ t (List.mem_cons_of_mem _ h))
  refine ⟨by simp only [padd, List.length_cons] at *; omega, fun t ht => ?_⟩
  rcases List.mem_cons.1 ht with rfl | h
  ·exact (hQ _ List.mem_cons_self).mono (by omega)
  ·exact h2 t h
 | f + 1, p :: P, q :: Q, hP, hQ => by
  have gP := fun t h => hP t (List.mem_cons_of_mem _ h)
  have gQ := fun t h => hQ t (List.mem_cons_of_mem _ h)
  unfold padd
  split
  ·obtain ⟨h1, h2⟩ := padd_ok f P (q :: Q) gP hQ
   refine ⟨by simp only [List.length_cons] at *; omega, fun t ht => ?_⟩
   rcases List.mem_cons.1 ht with rfl | h
   ·exact (hP _ List.mem_cons_self).mono (by omega)
   ·exact h2 t h
  ·split
   ·obtain ⟨h1, h2⟩ := padd_ok f (p :: P) Q hP gQ
    refine ⟨by simp only [List.length_cons] at *; omega, fun t ht => ?_⟩
    rcases List.mem_cons.1 ht with rfl | h
    ·exact (hQ _ List.mem_cons_self).mono (by omega)
    ·exact h2 t h
   ·obtain ⟨h1, h2⟩ := padd_ok f P Q gP gQ
    split
    ·exact ⟨by simp only [List.length_cons] at *; omega, h2⟩
    ·refine ⟨by simp only [List.length_cons] at *; omega, fun t ht => ?_⟩
     rcases List.mem_cons.1 ht with rfl | h
     ·have h3 := hP p List.mem_cons_self
      exact ⟨add_small h3.c (hQ q List.mem_cons_self).c, h3.h0, h3.h1, h3.h2, h3.h3, h3.h4, h3.h5, h3.h6, h3.h7⟩
     ·exact h2 t h
theorem padd_fuel : ∀ (P Q : List TM8) (f g : Nat), P.length + Q.length <= f -> P.length + Q.length <= g -> padd g P Q = padd f P Q
 | P, Q, 0, 0, _, _ => rfl
 | [], [], 0, g + 1, _, _ => rfl
 | [], [], f + 1, 0, _, _ => rfl
 | p :: P, Q, 0, g, h, _ => by simp at h
 | p :: P, Q, f, 0, _, h => by simp at h
 | P, q :: Q, 0, g, h, _ => by simp at h
 | P, q :: Q, f, 0, _, h => by simp at h
 | [], [], f + 1, g + 1, _, _ => rfl
 | p :: P, [], f + 1, g + 1, h, h' => by simp only [padd]; rw [padd_fuel P [] f g (by simp at *; omega) (by simp at *; omega)]
 | [], q :: Q, f + 1, g + 1, h, h' => by simp only [padd]; rw [padd_fuel [] Q f g (by simp at *; omega) (by simp at *; omega)]
 | p :: P, q :: Q, f + 1, g + 1, h, h' => by
  simp only [padd]
  rw [padd_fuel P (q :: Q) f g (by simp at *; omega) (by simp at *; omega), padd_fuel (p :: P) Q f g (by simp at *; omega) (by simp at *; omega), padd_fuel P Q f g (by simp at *; omega) (by simp at *; omega)]
def rpaSt (X Y : Abs.Rows) (len : Nat) (r : Abs.Rows) (I K : Int) : St := mkSt 109 [.c (.t (.lst false X)), .c (.t (.lst false Y)), .junk, .junk, .junk, .c (.sl 2 0 len false), vi .i64 I, vi .i64 K] [none, none, some (.rows 12 r true false)]
theorem rpadd_call (P Q : List TM8) {a b : Nat} (hP : ∀ t ∈ P, t.ok a 30000) (hQ : ∀ t ∈ Q, t.ok b 30000) (hl : P.length <= 100) (hl2 : Q.length <= 100) (hab : a + b <= 100000) :
  ACall Tryz.prog 84 [.val (tl (tmr P)), .val (tl (tmr Q))] ⟨[.val (tl (tmr (padd (P.length + Q.length) P Q)))], [none, none]⟩ := by
 obtain ⟨X, hX⟩ : ∃ X, X = tmr P := ⟨_, rfl⟩
 obtain ⟨Y, hY⟩ : ∃ X, X = tmr Q := ⟨_, rfl⟩
 obtain ⟨n, hn⟩ : ∃ n, n = P.length := ⟨_, rfl⟩
 obtain ⟨l, hk⟩ : ∃ n, n = Q.length := ⟨_, rfl⟩
 have lX : X.length = n := by rw [hX, tmr_len, hn]
 have lY : Y.length = l := by rw [hY, tmr_len, hk]
 obtain ⟨R, hR⟩ : ∃ R, R = padd (P.length + Q.length) P Q := ⟨_, rfl⟩
 rw [<- hX, <- hY, <- hR]
 rw [<- hn, <- hk] at hR
 obtain ⟨T, hT⟩ : ∃ T, T = tmr R := ⟨_, rfl⟩
 rw [<- hT]
 refine callZ ccOk mixed [.val] Tryz.func84 rfl rfl (by kernel_rfl) fun zA zB zC zD zE zF zG zH zI zJ zK zL zM zN zO zP zQ zR zS zT zU zV zX zY zZ za zb zc zd ze zg zh zi zk zl zm zn zo zq zr zs zt zu zw zx zy zz zW zth A L F hS hF => ?_
 obtain ⟨N, hN, hN2⟩ : ∃ N : Int, N = n /\ zY (zh X) = N := ⟨_, rfl, by rw [hS.ofN, hS.len, lX]⟩
 obtain ⟨M, hM, hM2⟩ : ∃ N : Int, N = l /\ zY (zh Y) = N := ⟨_, rfl, by rw [hS.ofN, hS.len, lY]⟩
 cbv
 have hN : N = (n : Int) := hN
 have hM : M = (l : Int) := hM
 refine loopZR ccOk mixed hS (fun (m : Nat) s' => ∃ (i k : Nat) (I K : Int) (O : List TM8), I = i /\ K = k /\ i <= n /\ k <= l /\ m = (n - i) + (l - k) /\ O.length <= i + k /\ R = O ++ padd m (P.drop i) (Q.drop k) /\ ∃ len r, r = tmr O /\ len = O.length /\ s' = rpaSt X Y len r I K) (n := n + l) (s0 := rpaSt X Y 0 [] 0 0) (qaq ?_ ?_) rfl (by show 2 <= 3; omega) ?_ ?_
 ·simp [leT, rpaSt, mkSt, vi, vb]
 ·simp [leH, rpaSt, mkSt]
 ·exact ⟨0, 0, 0, 0, [], rfl, rfl, by omega, by omega, by omega, by simp, by rw [hR]; rfl, 0, [], rfl, rfl, rfl⟩
 ·rintro m sx ⟨i, k, I, K, O, hI, hK, hi, hk2, hm, hO, hRO, len, r, hr, hlen, hs1⟩
  obtain ⟨I', hI', i0⟩ : ∃ I' : Int, I' = ((i + 1 : Nat) : Int) /\ zA .i64 (zB I 1) = I' := ⟨I + 1, by omega, by rw [hS.add, hS.wrap, wrap_i64 (by omega) (by omega)]⟩
  obtain ⟨K', hK', k0⟩ : ∃ I' : Int, I' = ((k + 1 : Nat) : Int) /\ zA .i64 (zB K 1) = I' := ⟨K + 1, by omega, by rw [hS.add, hS.wrap, wrap_i64 (by omega) (by omega)]⟩
  by_cases hend : i = n /\ k = l
  ·have c1 : zO I (zY (zh X)) = false := by rw [hN2, hS.lt]; exact decide_eq_false (by omega)
   have c2 : zO K (zY (zh Y)) = false := by rw [hM2, hS.lt]; exact decide_eq_false (by omega)
   have hrT : r = T := by
    rw [hT, hRO, show m = 0 by omega, hr]; simp [padd]
   have f1 : zo 0 len r = true := by rw [hS.fit, hr, tmr_len]; exact decide_eq_true (by omega)
   have f2 : zq r 0 len = T := by rw [hS.part, List.drop_zero, List.take_of_length_le (by rw [hr, tmr_len]; omega), hrT]
   subst hs1
   cbv
   refine bF c1 (bF c2 (nd f1 ?_))
   rw [f2]
   exact hF _ (ResLe.refl _)
  ·have hmm : m - 1 < m := by omega
   obtain ⟨m', hm'⟩ : ∃ m', m = m' + 1 := ⟨m - 1, by omega⟩
   by_cases hki : k = l
   ·obtain ⟨p, hp⟩ : ∃ p, P[i]? = some p := ⟨_, List.getElem?_eq_getElem (by omega)⟩
    have hdP : P.drop i = p :: P.drop (i + 1) := List.drop_eq_getElem_cons (by omega) |>.trans (by rw [show P[i]'(by omega) = p from Option.some.inj ((List.getElem?_eq_getElem (by omega)).symm.trans hp)])
    have hdQ : Q.drop k = [] := List.drop_of_length_le (by omega)
    have hRO2 : R = (O ++ [p]) ++ padd (m - 1) (P.drop (i + 1)) (Q.drop k) := by
     rw [hRO, hm', hdP, hdQ, Nat.add_sub_cancel]; simp [padd]
    obtain ⟨s1, t1, r1, p1, e1, _⟩ := qrow p.c
    obtain ⟨row, hrw⟩ : ∃ row, row = [Tree.v (.bool s1), .lst false r1, .v (.bool t1), .lst false p1, .v (.int .i64 p.x0), .v (.int .i64 p.x1), .v (.int .i64 p.x2), .v (.int .i64 p.x3), .v (.int .i64 p.x4), .v (.int .i64 p.x5), .v (.int .i64 p.x6), .v (.int .i64 p.x7)] := ⟨_, rfl⟩
    have hrow : p.row = row := by rw [hrw]; unfold TM8.row m8; rw [e1]; rfl
    have hXi : X[i]? = some [Tree.v (.bool s1), .lst false r1, .v (.bool t1), .lst false p1, .v (.int .i64 p.x0), .v (.int .i64 p.x1), .v (.int .i64 p.x2), .v (.int .i64 p.x3), .v (.int .i64 p.x4), .v (.int .i64 p.x5), .v (.int .i64 p.x6), .v (.int .i64 p.x7)] := by rw [hX, tmr_get hp, hrow, hrw]
    have hr4 : row.length = 12 := by rw [hrw]; rfl
    have u0 : zq [row] 0 1 = [row] := by rw [hS.part]; rfl
    have u1 : zo 0 1 [row] = true := by rw [hS.fit]; rfl
    have u2 : zQ (za (zh [row]) 0) = true := by rw [hS.len, hS.neq, hS.not]; rfl
    have u3 : zu 12 [row] = true := by rw [hS.wide]; simp [hr4]
    have u4 : ze len (zh [row]) 128 = true := by rw [hS.len, hS.room]; exact decide_eq_true (by unfold capBytes; simp only [List.length_cons, List.length_nil]; omega)
    have u5 : za (zb 0 len) (zh r) = true := by rw [hS.nadd, hS.neq, hS.len, hr, tmr_len, hlen, Nat.zero_add]; exact decide_eq_true rfl
    have u6 : zb len (zh [row]) = len + 1 := by rw [hS.len, hS.nadd]; rfl
    have u7 : zr r 0 [row] = r ++ [row] := by rw [hS.ext, List.drop_zero]
    have i1 := i0
    have k1 : K = K := rfl
    have hnx : ∃ (iz kz : Nat) (Iz Kz : Int) (Oz : List TM8), Iz = iz /\ Kz = kz /\ iz <= n /\ kz <= l /\ m - 1 = (n - iz) + (l - kz) /\ Oz.length <= iz + kz /\ R = Oz ++ padd (m - 1) (P.drop iz) (Q.drop kz) /\ ∃ lenz rz, rz = tmr Oz /\ lenz = Oz.length /\ rpaSt X Y (len + 1) (r ++ [row]) I' K = rpaSt X Y lenz rz Iz Kz := ⟨i + 1, k, I', K, O ++ [p], by omega, by omega, by omega, by omega, by omega, by first | omega | (rw [List.length_append, List.length_singleton]; omega), hRO2, len + 1, r ++ [row], by rw [tmr_app, hr, hrow], by rw [List.length_append, hlen]; rfl, rfl⟩
    have c1 : zO I (zY (zh X)) = true := by rw [hN2, hS.lt]; exact decide_eq_true (by omega)
    have c2 : zM K (zY (zh Y)) = true := by rw [hM2, hS.eq]; exact decide_eq_true (by omega)
    have j1 : zV I = i := by rw [hS.nat]; omega
    have j2 : zi X i = some [Tree.v (.bool s1), .lst false r1, .v (.bool t1), .lst false p1, .v (.int .i64 p.x0), .v (.int .i64 p.x1), .v (.int .i64 p.x2), .v (.int .i64 p.x3), .v (.int .i64 p.x4), .v (.int .i64 p.x5), .v (.int .i64 p.x6), .v (.int .i64 p.x7)] := by rw [hS.nth]; exact hXi
    have n0 : zP 0 I = true := by rw [hS.le]; exact decide_eq_true (by omega)
    subst hs1
    cbv
    refine bT c1 (bT c2 ?_)
    rw [j1, j2]
    cbv
    refine nd (n0) ?_
    rw [<- hrw, u0]
    refine nd (u1) ?_
    refine nd (u2) ?_
    refine nd (u3) ?_
    refine nd (u4) ?_
    refine nd (u5) ?_
    refine againR [(2, 6)] (s' := rpaSt X Y (len + 1) (r ++ [row]) I' K) (k := m - 1) ?_ ?_ ?_ ?_ rfl (by show 2 <= 3; omega) hmm hnx
    ·simp [leTR, rpaSt, mkSt, vi, AV.ren, AV.noTup, Cell.ren, renF, i1, k1, u6]
    ·simp [leHR, rpaSt, mkSt, Abs.look, renF, Blk.ren, Cell.ren, u7]
    ·simp [liveR, rpaSt, mkSt, renF]
    ·simp
   ·obtain ⟨q, hq⟩ : ∃ q, Q[k]? = some q := ⟨_, List.getElem?_eq_getElem (by omega)⟩
    have hdQ : Q.drop k = q :: Q.drop (k + 1) := List.drop_eq_getElem_cons (by omega) |>.trans (by rw [show Q[k]'(by omega) = q from Option.some.inj ((List.getElem?_eq_getElem (by omega)).symm.trans hq)])
    obtain ⟨s2, t2, r2, p2, e2, _⟩ := qrow q.c
    have hrowq : q.row = [Tree.v (.bool s2), .lst false r2, .v (.bool t2), .lst false p2, .v (.int .i64 q.x0), .v (.int .i64 q.x1), .v (.int .i64 q.x2), .v (.int .i64 q.x3), .v (.int .i64 q.x4), .v (.int .i64 q.x5), .v (.int .i64 q.x6), .v (.int .i64 q.x7)] := by unfold TM8.row m8; rw [e2]; rfl
    have hYk : Y[k]? = some [Tree.v (.bool s2), .lst false r2, .v (.bool t2), .lst false p2, .v (.int .i64 q.x0), .v (.int .i64 q.x1), .v (.int .i64 q.x2), .v (.int .i64 q.x3), .v (.int .i64 q.x4), .v (.int .i64 q.x5), .v (.int .i64 q.x6), .v (.int .i64 q.x7)] := by rw [hY, tmr_get hq, hrowq]
    have j3 : zV K = k := by rw [hS.nat]; omega
    have j4 : zi Y k = some [Tree.v (.bool s2), .lst false r2, .v (.bool t2), .lst false p2, .v (.int .i64 q.x0), .v (.int .i64 q.x1), .v (.int .i64 q.x2), .v (.int .i64 q.x3), .v (.int .i64 q.x4), .v (.int .i64 q.x5), .v (.int .i64 q.x6), .v (.int .i64 q.x7)] := by rw [hS.nth]; exact hYk
    have n1 : zP 0 K = true := by rw [hS.le]; exact decide_eq_true (by omega)
    have c2 : zM K (zY (zh Y)) = false := by rw [hM2, hS.eq]; exact decide_eq_false (by omega)
    by_cases hin : i = n
    ·have hdP : P.drop i = [] := List.drop_of_length_le (by omega)
     have hRO2 : R = (O ++ [q]) ++ padd (m - 1) (P.drop i) (Q.drop (k + 1)) := by
      rw [hRO, hm', hdP, hdQ, Nat.add_sub_cancel]; simp [padd]
     obtain ⟨row, hrw⟩ : ∃ row, row = [Tree.v (.bool s2), .lst false r2, .v (.bool t2), .lst false p2, .v (.int .i64 q.x0), .v (.int .i64 q.x1), .v (.int .i64 q.x2), .v (.int .i64 q.x3), .v (.int .i64 q.x4), .v (.int .i64 q.x5), .v (.int .i64 q.x6), .v (.int .i64 q.x7)] := ⟨_, rfl⟩
     have hrow : q.row = row := hrowq.trans hrw.symm
     have hr4 : row.length = 12 := by rw [hrw]; rfl
     have u0 : zq [row] 0 1 = [row] := by rw [hS.part]; rfl
     have u1 : zo 0 1 [row] = true := by rw [hS.fit]; rfl
     have u2 : zQ (za (zh [row]) 0) = true := by rw [hS.len, hS.neq, hS.not]; rfl
     have u3 : zu 12 [row] = true := by rw [hS.wide]; simp [hr4]
     have u4 : ze len (zh [row]) 128 = true := by rw [hS.len, hS.room]; exact decide_eq_true (by unfold capBytes; simp only [List.length_cons, List.length_nil]; omega)
     have u5 : za (zb 0 len) (zh r) = true := by rw [hS.nadd, hS.neq, hS.len, hr, tmr_len, hlen, Nat.zero_add]; exact decide_eq_true rfl
     have u6 : zb len (zh [row]) = len + 1 := by rw [hS.len, hS.nadd]; rfl
     have u7 : zr r 0 [row] = r ++ [row] := by rw [hS.ext, List.drop_zero]
     have i1 : I = I := rfl
     have k1 := k0
     have hnx : ∃ (iz kz : Nat) (Iz Kz : Int) (Oz : List TM8), Iz = iz /\ Kz = kz /\ iz <= n /\ kz <= l /\ m - 1 = (n - iz) + (l - kz) /\ Oz.length <= iz + kz /\ R = Oz ++ padd (m - 1) (P.drop iz) (Q.drop kz) /\ ∃ lenz rz, rz = tmr Oz /\ lenz = Oz.length /\ rpaSt X Y (len + 1) (r ++ [row]) I K' = rpaSt X Y lenz rz Iz Kz := ⟨i, k + 1, I, K', O ++ [q], by omega, by omega, by omega, by omega, by omega, by first | omega | (rw [List.length_append, List.length_singleton]; omega), hRO2, len + 1, r ++ [row], by rw [tmr_app, hr, hrow], by rw [List.length_append, hlen]; rfl, rfl⟩
     have c1 : zO I (zY (zh X)) = false := by rw [hN2, hS.lt]; exact decide_eq_false (by omega)
     have c3 : zO K (zY (zh Y)) = true := by rw [hM2, hS.lt]; exact decide_eq_true (by omega)
     have c4 : zM I (zY (zh X)) = true := by rw [hN2, hS.eq]; exact decide_eq_true (by omega)
     subst hs1
     cbv
     refine bF c1 (bT c3 (bF c2 (bF c1 (bT c4 ?_))))
     rw [j3, j4]
     cbv
     refine nd (n1) ?_
     rw [<- hrw, u0]
     refine nd (u1) ?_
     refine nd (u2) ?_
     refine nd (u3) ?_
     refine nd (u4) ?_
     refine nd (u5) ?_
     refine againR [(2, 8)] (s' := rpaSt X Y (len + 1) (r ++ [row]) I K') (k := m - 1) ?_ ?_ ?_ ?_ rfl (by show 2 <= 3; omega) hmm hnx
     ·simp [leTR, rpaSt, mkSt, vi, AV.ren, AV.noTup, Cell.ren, renF, i1, k1, u6]
     ·simp [leHR, rpaSt, mkSt, Abs.look, renF, Blk.ren, Cell.ren, u7]
     ·simp [liveR, rpaSt, mkSt, renF]
     ·simp
    ·obtain ⟨p, hp⟩ : ∃ p, P[i]? = some p := ⟨_, List.getElem?_eq_getElem (by omega)⟩
     have hdP : P.drop i = p :: P.drop (i + 1) := List.drop_eq_getElem_cons (by omega) |>.trans (by rw [show P[i]'(by omega) = p from Option.some.inj ((List.getElem?_eq_getElem (by omega)).symm.trans hp)])
     obtain ⟨s1, t1, r1, p1, e1, _⟩ := qrow p.c
     have hrowp : p.row = [Tree.v (.bool s1), .lst false r1, .v (.bool t1), .lst false p1, .v (.int .i64 p.x0), .v (.int .i64 p.x1), .v (.int .i64 p.x2), .v (.int .i64 p.x3), .v (.int .i64 p.x4), .v (.int .i64 p.x5), .v (.int .i64 p.x6), .v (.int .i64 p.x7)] := by unfold TM8.row m8; rw [e1]; rfl
     have hXi : X[i]? = some [Tree.v (.bool s1), .lst false r1, .v (.bool t1), .lst false p1, .v (.int .i64 p.x0), .v (.int .i64 p.x1), .v (.int .i64 p.x2), .v (.int .i64 p.x3), .v (.int .i64 p.x4), .v (.int .i64 p.x5), .v (.int .i64 p.x6), .v (.int .i64 p.x7)] := by rw [hX, tmr_get hp, hrowp]
     have j1 : zV I = i := by rw [hS.nat]; omega
     have j2 : zi X i = some [Tree.v (.bool s1), .lst false r1, .v (.bool t1), .lst false p1, .v (.int .i64 p.x0), .v (.int .i64 p.x1), .v (.int .i64 p.x2), .v (.int .i64 p.x3), .v (.int .i64 p.x4), .v (.int .i64 p.x5), .v (.int .i64 p.x6), .v (.int .i64 p.x7)] := by rw [hS.nth]; exact hXi
     have n0 : zP 0 I = true := by rw [hS.le]; exact decide_eq_true (by omega)
     have c1 : zO I (zY (zh X)) = true := by rw [hN2, hS.lt]; exact decide_eq_true (by omega)
     have c4 : zM I (zY (zh X)) = false := by rw [hN2, hS.eq]; exact decide_eq_false (by omega)
     obtain ⟨C, hC⟩ : ∃ C, C = p.cmp q := ⟨_, rfl⟩
     have cc := mcmp_call p.x0 p.x1 p.x2 p.x3 p.x4 p.x5 p.x6 p.x7 q.x0 q.x1 q.x2 q.x3 q.x4 q.x5 q.x6 q.x7
     change ACall _ _ _ ⟨[.val (ti .i64 (p.cmp q))], _⟩ at cc
     rw [<- hC] at cc
     unfold m8 at cc
     by_cases hC1 : 0 < C
     ·have d1 : zO 0 C = true := by rw [hS.lt]; exact decide_eq_true hC1
      have hRO2 : R = (O ++ [p]) ++ padd (m - 1) (P.drop (i + 1)) (Q.drop k) := by
       rw [hRO, hm', hdP, hdQ, Nat.add_sub_cancel]; simp [padd, <- hC, hC1]
      obtain ⟨row, hrw⟩ : ∃ row, row = [Tree.v (.bool s1), .lst false r1, .v (.bool t1), .lst false p1, .v (.int .i64 p.x0), .v (.int .i64 p.x1), .v (.int .i64 p.x2), .v (.int .i64 p.x3), .v (.int .i64 p.x4), .v (.int .i64 p.x5), .v (.int .i64 p.x6), .v (.int .i64 p.x7)] := ⟨_, rfl⟩
      have hrow : p.row = row := hrowp.trans hrw.symm
      have hr4 : row.length = 12 := by rw [hrw]; rfl
      have u0 : zq [row] 0 1 = [row] := by rw [hS.part]; rfl
      have u1 : zo 0 1 [row] = true := by rw [hS.fit]; rfl
      have u2 : zQ (za (zh [row]) 0) = true := by rw [hS.len, hS.neq, hS.not]; rfl
      have u3 : zu 12 [row] = true := by rw [hS.wide]; simp [hr4]
      have u4 : ze len (zh [row]) 128 = true := by rw [hS.len, hS.room]; exact decide_eq_true (by unfold capBytes; simp only [List.length_cons, List.length_nil]; omega)
      have u5 : za (zb 0 len) (zh r) = true := by rw [hS.nadd, hS.neq, hS.len, hr, tmr_len, hlen, Nat.zero_add]; exact decide_eq_true rfl
      have u6 : zb len (zh [row]) = len + 1 := by rw [hS.len, hS.nadd]; rfl
      have u7 : zr r 0 [row] = r ++ [row] := by rw [hS.ext, List.drop_zero]
      have i1 := i0
      have k1 : K = K := rfl
      have hnx : ∃ (iz kz : Nat) (Iz Kz : Int) (Oz : List TM8), Iz = iz /\ Kz = kz /\ iz <= n /\ kz <= l /\ m - 1 = (n - iz) + (l - kz) /\ Oz.length <= iz + kz /\ R = Oz ++ padd (m - 1) (P.drop iz) (Q.drop kz) /\ ∃ lenz rz, rz = tmr Oz /\ lenz = Oz.length /\ rpaSt X Y (len + 1) (r ++ [row]) I' K = rpaSt X Y lenz rz Iz Kz := ⟨i + 1, k, I', K, O ++ [p], by omega, by omega, by omega, by omega, by omega, by first | omega | (rw [List.length_append, List.length_singleton]; omega), hRO2, len + 1, r ++ [row], by rw [tmr_app, hr, hrow], by rw [List.length_append, hlen]; rfl, rfl⟩
      subst hs1
      cbv
      refine bT c1 (bF c2 (bT c1 ?_))
      rw [j1, j2]
      cbv
      refine nd (n0) ?_
      rw [j3, j4]
      cbv
      refine nd (n1) ?_
      refine ⟨_, hS.call (cc), ?_⟩
      cbv
      refine bT (d1) ?_
      rw [j1, j2]
      cbv
      refine nd (n0) ?_
      rw [<- hrw, u0]
      refine nd (u1) ?_
      refine nd (u2) ?_
      refine nd (u3) ?_
      refine nd (u4) ?_
      refine nd (u5) ?_
      refine againR [(2, 6)] (s' := rpaSt X Y (len + 1) (r ++ [row]) I' K) (k := m - 1) ?_ ?_ ?_ ?_ rfl (by show 2 <= 3; omega) hmm hnx
      ·simp [leTR, rpaSt, mkSt, vi, AV.ren, AV.noTup, Cell.ren, renF, i1, k1, u6]
      ·simp [leHR, rpaSt, mkSt, Abs.look, renF, Blk.ren, Cell.ren, u7]
      ·simp [liveR, rpaSt, mkSt, renF]
      ·simp
     ·have d1 : zO 0 C = false := by rw [hS.lt]; exact decide_eq_false hC1
      by_cases hC2 : C < 0
      ·have d2 : zO C 0 = true := by rw [hS.lt]; exact decide_eq_true hC2
       have hRO2 : R = (O ++ [q]) ++ padd (m - 1) (P.drop i) (Q.drop (k + 1)) := by
        rw [hRO, hm', hdP, hdQ, Nat.add_sub_cancel]; simp [padd, <- hC, hC1, hC2]
       obtain ⟨row, hrw⟩ : ∃ row, row = [Tree.v (.bool s2), .lst false r2, .v (.bool t2), .lst false p2, .v (.int .i64 q.x0), .v (.int .i64 q.x1), .v (.int .i64 q.x2), .v (.int .i64 q.x3), .v (.int .i64 q.x4), .v (.int .i64 q.x5), .v (.int .i64 q.x6), .v (.int .i64 q.x7)] := ⟨_, rfl⟩
       have hrow : q.row = row := hrowq.trans hrw.symm
       have hr4 : row.length = 12 := by rw [hrw]; rfl
       have u0 : zq [row] 0 1 = [row] := by rw [hS.part]; rfl
       have u1 : zo 0 1 [row] = true := by rw [hS.fit]; rfl
       have u2 : zQ (za (zh [row]) 0) = true := by rw [hS.len, hS.neq, hS.not]; rfl
       have u3 : zu 12 [row] = true := by rw [hS.wide]; simp [hr4]
       have u4 : ze len (zh [row]) 128 = true := by rw [hS.len, hS.room]; exact decide_eq_true (by unfold capBytes; simp only [List.length_cons, List.length_nil]; omega)
       have u5 : za (zb 0 len) (zh r) = true := by rw [hS.nadd, hS.neq, hS.len, hr, tmr_len, hlen, Nat.zero_add]; exact decide_eq_true rfl
       have u6 : zb len (zh [row]) = len + 1 := by rw [hS.len, hS.nadd]; rfl
       have u7 : zr r 0 [row] = r ++ [row] := by rw [hS.ext, List.drop_zero]
       have i1 : I = I := rfl
       have k1 := k0
       have hnx : ∃ (iz kz : Nat) (Iz Kz : Int) (Oz : List TM8), Iz = iz /\ Kz = kz /\ iz <= n /\ kz <= l /\ m - 1 = (n - iz) + (l - kz) /\ Oz.length <= iz + kz /\ R = Oz ++ padd (m - 1) (P.drop iz) (Q.drop kz) /\ ∃ lenz rz, rz = tmr Oz /\ lenz = Oz.length /\ rpaSt X Y (len + 1) (r ++ [row]) I K' = rpaSt X Y lenz rz Iz Kz := ⟨i, k + 1, I, K', O ++ [q], by omega, by omega, by omega, by omega, by omega, by first | omega | (rw [List.length_append, List.length_singleton]; omega), hRO2, len + 1, r ++ [row], by rw [tmr_app, hr, hrow], by rw [List.length_append, hlen]; rfl, rfl⟩
       subst hs1
       cbv
       refine bT c1 (bF c2 (bT c1 ?_))
       rw [j1, j2]
       cbv
       refine nd (n0) ?_
       rw [j3, j4]
       cbv
       refine nd (n1) ?_
       refine ⟨_, hS.call (cc), ?_⟩
       cbv
       refine bF (d1) ?_
       refine bF (c4) ?_
       rw [j1, j2]
       cbv
       refine nd (n0) ?_
       rw [j3, j4]
       cbv
       refine nd (n1) ?_
       refine ⟨_, hS.call (cc), ?_⟩
       cbv
       refine bT (d2) ?_
       rw [j3, j4]
       cbv
       refine nd (n1) ?_
       rw [<- hrw, u0]
       refine nd (u1) ?_
       refine nd (u2) ?_
       refine nd (u3) ?_
       refine nd (u4) ?_
       refine nd (u5) ?_
       refine againR [(2, 8)] (s' := rpaSt X Y (len + 1) (r ++ [row]) I K') (k := m - 1) ?_ ?_ ?_ ?_ rfl (by show 2 <= 3; omega) hmm hnx
       ·simp [leTR, rpaSt, mkSt, vi, AV.ren, AV.noTup, Cell.ren, renF, i1, k1, u6]
       ·simp [leHR, rpaSt, mkSt, Abs.look, renF, Blk.ren, Cell.ren, u7]
       ·simp [liveR, rpaSt, mkSt, renF]
       ·simp
      ·have d2 : zO C 0 = false := by rw [hS.lt]; exact decide_eq_false hC2
       have hp1 := (hP p (List.mem_of_getElem? hp)).c
       have hq1 := (hQ q (List.mem_of_getElem? hq)).c
       obtain ⟨qa, ca⟩ := rqadd_row hp1 hq1 (by omega)
       obtain ⟨S, z1, z2, cS⟩ := rqsign_ex (p.c + q.c)
       have hz : S = 0 ↔ p.c + q.c = 0 := by
        constructor
        ·intro h
         have f1 : ¬ p.c + q.c < 0 := fun h' => by have := z1.2 h'; omega
         have f2 : ¬ 0 < p.c + q.c := fun h' => by have := z2.2 h'; omega
         exact Rat.le_antisymm (Rat.not_lt.1 f2) (Rat.not_lt.1 f1)
        ·intro h
         have f1 : ¬ S < 0 := fun h' => by have := z1.1 h'; rw [h] at this; exact Rat.lt_irrefl this
         have f2 : ¬ 0 < S := fun h' => by have := z2.1 h'; rw [h] at this; exact Rat.lt_irrefl this
         omega
       obtain ⟨s3, t3, r3, p3, e3, _⟩ := qrow (p.c + q.c)
       rw [e1, e2, e3] at ca
       rw [e3] at cS
       by_cases h0 : p.c + q.c = 0
       ·have d3 : zN S 0 = false := by rw [hS.ne]; exact decide_eq_false (by simp [hz.2 h0])
        have hRO2 : R = O ++ padd (m - 1) (P.drop (i + 1)) (Q.drop (k + 1)) := by
         rw [hRO, hm', hdP, hdQ, Nat.add_sub_cancel]; simp [padd, <- hC, hC1, hC2, h0]
        obtain ⟨m'', hm''⟩ : ∃ x, m = x + 2 := ⟨m - 2, by omega⟩
        have hp2 : padd (m - 1) (P.drop (i + 1)) (Q.drop (k + 1)) = padd (m - 2) (P.drop (i + 1)) (Q.drop (k + 1)) := padd_fuel _ _ (m - 2) (m - 1) (by rw [List.length_drop, List.length_drop]; omega) (by rw [List.length_drop, List.length_drop]; omega)
        rw [hp2] at hRO2
        have i1 := i0
        have k1 := k0
        have hnx : ∃ (iz kz : Nat) (Iz Kz : Int) (Oz : List TM8), Iz = iz /\ Kz = kz /\ iz <= n /\ kz <= l /\ m - 2 = (n - iz) + (l - kz) /\ Oz.length <= iz + kz /\ R = Oz ++ padd (m - 2) (P.drop iz) (Q.drop kz) /\ ∃ lenz rz, rz = tmr Oz /\ lenz = Oz.length /\ rpaSt X Y len r I' K' = rpaSt X Y lenz rz Iz Kz := ⟨i + 1, k + 1, I', K', O, by omega, by omega, by omega, by omega, by omega, by first | omega | (rw [List.length_append, List.length_singleton]; omega), hRO2, len, r, hr, hlen, rfl⟩
        subst hs1
        cbv
        refine bT c1 (bF c2 (bT c1 ?_))
        rw [j1, j2]
        cbv
        refine nd (n0) ?_
        rw [j3, j4]
        cbv
        refine nd (n1) ?_
        refine ⟨_, hS.call (cc), ?_⟩
        cbv
        refine bF (d1) ?_
        refine bF (c4) ?_
        rw [j1, j2]
        cbv
        refine nd (n0) ?_
        rw [j3, j4]
        cbv
        refine nd (n1) ?_
        refine ⟨_, hS.call (cc), ?_⟩
        cbv
        refine bF (d2) ?_
        rw [j1, j2]
        cbv
        refine nd (n0) ?_
        rw [j3, j4]
        cbv
        refine nd (n1) ?_
        refine ⟨_, hS.call (ca), ?_⟩
        cbv
        refine ⟨_, hS.call (cS), ?_⟩
        cbv
        refine bF (d3) ?_
        refine againR [(2, 2)] (s' := rpaSt X Y len r I' K') (k := m - 2) ?_ ?_ ?_ ?_ rfl (by show 2 <= 3; omega) (by omega) hnx
        ·simp [leTR, rpaSt, mkSt, vi, AV.ren, AV.noTup, Cell.ren, renF, i1, k1]
        ·simp [leHR, rpaSt, mkSt, Abs.look, renF, Blk.ren, Cell.ren]
        ·simp [liveR, rpaSt, mkSt, renF]
        ·simp
       ·have d3 : zN S 0 = true := by rw [hS.ne]; exact decide_eq_true (fun h => h0 (hz.1 h))
        have hRO2 : R = (O ++ [⟨p.c + q.c, p.x0, p.x1, p.x2, p.x3, p.x4, p.x5, p.x6, p.x7⟩]) ++ padd (m - 1) (P.drop (i + 1)) (Q.drop (k + 1)) := by
         rw [hRO, hm', hdP, hdQ, Nat.add_sub_cancel]; simp [padd, <- hC, hC1, hC2, h0]
        have hp2 : padd (m - 1) (P.drop (i + 1)) (Q.drop (k + 1)) = padd (m - 2) (P.drop (i + 1)) (Q.drop (k + 1)) := padd_fuel _ _ (m - 2) (m - 1) (by rw [List.length_drop, List.length_drop]; omega) (by rw [List.length_drop, List.length_drop]; omega)
        rw [hp2] at hRO2
        obtain ⟨row, hrw⟩ : ∃ row, row = [Tree.v (.bool s3), .lst false r3, .v (.bool t3), .lst false p3, .v (.int .i64 p.x0), .v (.int .i64 p.x1), .v (.int .i64 p.x2), .v (.int .i64 p.x3), .v (.int .i64 p.x4), .v (.int .i64 p.x5), .v (.int .i64 p.x6), .v (.int .i64 p.x7)] := ⟨_, rfl⟩
        have hrow : TM8.row ⟨p.c + q.c, p.x0, p.x1, p.x2, p.x3, p.x4, p.x5, p.x6, p.x7⟩ = row := by rw [hrw]; unfold TM8.row m8; rw [e3]; rfl
        have hr4 : row.length = 12 := by rw [hrw]; rfl
        have u0 : zq [row] 0 1 = [row] := by rw [hS.part]; rfl
        have u1 : zo 0 1 [row] = true := by rw [hS.fit]; rfl
        have u2 : zQ (za (zh [row]) 0) = true := by rw [hS.len, hS.neq, hS.not]; rfl
        have u3 : zu 12 [row] = true := by rw [hS.wide]; simp [hr4]
        have u4 : ze len (zh [row]) 128 = true := by rw [hS.len, hS.room]; exact decide_eq_true (by unfold capBytes; simp only [List.length_cons, List.length_nil]; omega)
        have u5 : za (zb 0 len) (zh r) = true := by rw [hS.nadd, hS.neq, hS.len, hr, tmr_len, hlen, Nat.zero_add]; exact decide_eq_true rfl
        have u6 : zb len (zh [row]) = len + 1 := by rw [hS.len, hS.nadd]; rfl
        have u7 : zr r 0 [row] = r ++ [row] := by rw [hS.ext, List.drop_zero]
        have i1 := i0
        have k1 := k0
        have hnx : ∃ (iz kz : Nat) (Iz Kz : Int) (Oz : List TM8), Iz = iz /\ Kz = kz /\ iz <= n /\ kz <= l /\ m - 2 = (n - iz) + (l - kz) /\ Oz.length <= iz + kz /\ R = Oz ++ padd (m - 2) (P.drop iz) (Q.drop kz) /\ ∃ lenz rz, rz = tmr Oz /\ lenz = Oz.length /\ rpaSt X Y (len + 1) (r ++ [row]) I' K' = rpaSt X Y lenz rz Iz Kz := ⟨i + 1, k + 1, I', K', O ++ [⟨p.c + q.c, p.x0, p.x1, p.x2, p.x3, p.x4, p.x5, p.x6, p.x7⟩], by omega, by omega, by omega, by omega, by omega, by first | omega | (rw [List.length_append, List.length_singleton]; omega), hRO2, len + 1, r ++ [row], by rw [tmr_app, hr, hrow], by rw [List.length_append, hlen]; rfl, rfl⟩
        subst hs1
        cbv
        refine bT c1 (bF c2 (bT c1 ?_))
        rw [j1, j2]
        cbv
        refine nd (n0) ?_
        rw [j3, j4]
        cbv
        refine nd (n1) ?_
        refine ⟨_, hS.call (cc), ?_⟩
        cbv
        refine bF (d1) ?_
        refine bF (c4) ?_
        rw [j1, j2]
        cbv
        refine nd (n0) ?_
        rw [j3, j4]
        cbv
        refine nd (n1) ?_
        refine ⟨_, hS.call (cc), ?_⟩
        cbv
        refine bF (d2) ?_
        rw [j1, j2]
        cbv
        refine nd (n0) ?_
        rw [j3, j4]
        cbv
        refine nd (n1) ?_
        refine ⟨_, hS.call (ca), ?_⟩
        cbv
        refine ⟨_, hS.call (cS), ?_⟩
        cbv
        refine bT (d3) ?_
        rw [j1, j2]
        cbv
        refine nd (n0) ?_
        rw [<- hrw, u0]
        refine nd (u1) ?_
        refine nd (u2) ?_
        refine nd (u3) ?_
        refine nd (u4) ?_
        refine nd (u5) ?_
        refine againR [(2, 13)] (s' := rpaSt X Y (len + 1) (r ++ [row]) I' K') (k := m - 2) ?_ ?_ ?_ ?_ rfl (by show 2 <= 3; omega) (by omega) hnx
        ·simp [leTR, rpaSt, mkSt, vi, AV.ren, AV.noTup, Cell.ren, renF, i1, k1, u6]
        ·simp [leHR, rpaSt, mkSt, Abs.look, renF, Blk.ren, Cell.ren, u7]
        ·simp [liveR, rpaSt, mkSt, renF]
        ·simp
open Go Go.Abs Go.Abs.M Go.Proofs
theorem rpabs_call (n : Int) (h1 : -128 <= n) (h2 : n < 128) : ACall Tryz.prog 83 [.val (ti .i8 n)] ⟨[.val (ti .i64 (n.natAbs : Int))], [none]⟩ := by
 obtain ⟨N, hN⟩ : ∃ N : Int, N = (n.natAbs : Int) := ⟨_, rfl⟩
 rw [<- hN]
 by_cases h : n < 0
 ·refine callZ ccOk mixed [.val] Tryz.func83 rfl rfl (by kernel_rfl) fun zA zB zC zD zE zF zG zH zI zJ zK zL zM zN zO zP zQ zR zS zT zU zV zX zY zZ za zb zc zd ze zg zh zi zk zl zm zn zo zq zr zs zt zu zw zx zy zz zW zth A L F hS hF => ?_
  have c1 : zO n 0 = true := by rw [hS.lt]; exact decide_eq_true h
  have c2 : zA .i64 (zC 0 (zA .i64 n)) = N := by rw [hS.wrap, hS.wrap, wrap_i64 (x := n) (by omega) (by omega), hS.sub, wrap_i64 (by omega) (by omega)]; omega
  cbv
  refine bT c1 ?_
  exact fin1 hF (qax c2)
 ·refine callZ ccOk mixed [.val] Tryz.func83 rfl rfl (by kernel_rfl) fun zA zB zC zD zE zF zG zH zI zJ zK zL zM zN zO zP zQ zR zS zT zU zV zX zY zZ za zb zc zd ze zg zh zi zk zl zm zn zo zq zr zs zt zu zw zx zy zz zW zth A L F hS hF => ?_
  have c1 : zO n 0 = false := by rw [hS.lt]; exact decide_eq_false h
  have c2 : zA .i64 n = N := by rw [hS.wrap, wrap_i64 (by omega) (by omega)]; omega
  cbv
  refine bF c1 ?_
  exact fin1 hF (qax c2)
open Go Go.Abs Go.Abs.M Go.Proofs
def r5 (r : Nat -> Int) : List Tree := [.v (.int .i8 (r 0)), .v (.int .i8 (r 1)), .v (.int .i8 (r 2)), .v (.int .i8 (r 3)), .v (.int .i8 (r 4))]
def mL (r : Nat -> Int) : Nat -> Int
 | 0 => 4
 | i + 1 => mL r i - ((r (i + 1)).natAbs : Int) % (mL r i + 1)
def mE (r : Nat -> Int) (i : Nat) : Int := ((r (i + 1)).natAbs : Int) % (mL r i + 1)
theorem mL_ok (r : Nat -> Int) : ∀ i, 0 <= mL r i /\ mL r i <= 4
 | 0 => by simp [mL]
 | i + 1 => by
  have h := mL_ok r i
  have h1 := Int.emod_nonneg ((r (i + 1)).natAbs : Int) (b := mL r i + 1) (by omega)
  have h2 := Int.emod_lt_of_pos ((r (i + 1)).natAbs : Int) (b := mL r i + 1) (by omega)
  simp only [mL]
  omega
theorem mE_ok (r : Nat -> Int) (i : Nat) : 0 <= mE r i /\ mE r i <= mL r i := by
 have h := mL_ok r i
 have h1 := Int.emod_nonneg ((r (i + 1)).natAbs : Int) (b := mL r i + 1) (by omega)
 have h2 := Int.emod_lt_of_pos ((r (i + 1)).natAbs : Int) (b := mL r i + 1) (by omega)
 unfold mE
 omega
def mms (M : Nat -> Int) (i j : Nat) : Int := if j < i then M j else 0
def rtm (r : Nat -> Int) : TM8 := ⟨1, mE r 0, mE r 1, mE r 2, mE r 3, 0, 0, 0, 0⟩
theorem rtm_ok (r : Nat -> Int) : (rtm r).ok 1 4 := by
 have h (i) : 0 <= mE r i /\ mE r i <= 4 := by have h1 := mL_ok r i; have h2 := mE_ok r i; omega
 exact ⟨by exact_mod_cast (Qs.whole (n := 1) (k := 1) (by decide) (Nat.le_refl 1)), h 0, h 1, h 2, h 3, ⟨Int.le_refl 0, by show (0 : Int) <= 4; decide⟩, ⟨Int.le_refl 0, by show (0 : Int) <= 4; decide⟩, ⟨Int.le_refl 0, by show (0 : Int) <= 4; decide⟩, ⟨Int.le_refl 0, by show (0 : Int) <= 4; decide⟩⟩
theorem tmod4 (a : Int) : -4 < a.tmod 4 /\ a.tmod 4 < 4 := by
 rcases Int.le_total 0 a with h | h
 ·rw [Int.tmod_eq_emod_of_nonneg h]; omega
 ·rw [show a = -(-a) by omega, Int.neg_tmod, Int.tmod_eq_emod_of_nonneg (by omega)]; omega
theorem TM8.ok.big {t : TM8} {n : Nat} (h : t.ok n 4) : t.ok n 30000 := by
 obtain ⟨c, h0, h1, h2, h3, h4, h5, h6, h7⟩ := h
 exact ⟨c, by omega, by omega, by omega, by omega, by omega, by omega, by omega, by omega⟩
def rpnx (O : List TM8) (r : Nat -> Int) : List TM8 := padd (O.length + (tm1 (((r 0).tmod 4 : Int) : Rat) (rtm r)).length) O (tm1 (((r 0).tmod 4 : Int) : Rat) (rtm r))
def madeP (l : List (Nat -> Int)) : List TM8 := l.foldl rpnx []
theorem madeP_ok : ∀ (l : List (Nat -> Int)), (∀ r ∈ l, -128 <= r 0 /\ r 0 < 128) -> ∀ (O : List TM8) (n : Nat), (∀ t ∈ O, t.ok n 4) -> (l.foldl rpnx O).length <= O.length + l.length /\ ∀ t ∈ l.foldl rpnx O, t.ok (n + 3 * l.length) 4
 | [], _, O, n, hO => ⟨by simp, hO⟩
 | r :: l, hl, O, n, hO => by
  obtain ⟨a1, a2⟩ := tm1_ok (a := (((r 0).tmod 4 : Int) : Rat)) (Qs.whole (n := (r 0).tmod 4) (k := 1) (by have := tmod4 (r 0); omega) (Nat.le_refl 1)) (rtm_ok r)
  obtain ⟨b1, b2⟩ := padd_ok (O.length + (tm1 (((r 0).tmod 4 : Int) : Rat) (rtm r)).length) O _ hO a2
  obtain ⟨c1, c2⟩ := madeP_ok l (fun r h => hl r (List.mem_cons_of_mem _ h)) (rpnx O r) (n + 3) b2
  refine ⟨?_, fun t ht => ?_⟩
  ·have : (rpnx O r).length <= O.length + 1 := Nat.le_trans b1 (by omega)
   simp only [List.foldl_cons, List.length_cons]
   omega
  ·exact (c2 t ht).mono (by simp only [List.length_cons]; omega)
def rpiSt0 (T : Abs.Rows) (K : Int) (m : Nat -> Int) (left i : Int) : St := mkSt 74 [.junk, vi .i64 4, vi .i64 4, vi .i64 5, .c (.ptr 4 0 0), .junk, .junk, .junk, .junk, .c (.sl 5 0 0 false), vi .i64 K, .c (.ptr 6 0 0), vi .i64 left, vi .i64 i] [none, none, none, none, some (.var [.t (.lst false T)]), some (.rows 12 [] true false), some (.var [.t (.v (.int .i64 (m 0))), .t (.v (.int .i64 (m 1))), .t (.v (.int .i64 (m 2))), .t (.v (.int .i64 (m 3))), .t (.v (.int .i64 0)), .t (.v (.int .i64 0)), .t (.v (.int .i64 0)), .t (.v (.int .i64 0))])]
def rpiSt1 (T R : Abs.Rows) (K : Int) (m : Nat -> Int) (left i : Int) : St := mkSt 74 [.junk, vi .i64 4, vi .i64 4, vi .i64 5, .c (.ptr 4 0 0), .junk, .junk, .junk, .junk, .c (.t (.lst false R)), vi .i64 K, .c (.ptr 5 0 0), vi .i64 left, vi .i64 i] [none, none, none, none, some (.var [.t (.lst false T)]), some (.var [.t (.v (.int .i64 (m 0))), .t (.v (.int .i64 (m 1))), .t (.v (.int .i64 (m 2))), .t (.v (.int .i64 (m 3))), .t (.v (.int .i64 0)), .t (.v (.int .i64 0)), .t (.v (.int .i64 0)), .t (.v (.int .i64 0))])]
def rpmSt0 (T : Abs.Rows) (K : Int) : St := mkSt 74 [.junk, vi .i64 4, vi .i64 4, vi .i64 5, .c (.ptr 4 0 0), .junk, .junk, .junk, .junk, .c (.sl 5 0 0 false), vi .i64 K] [none, none, none, none, some (.var [.t (.lst false T)]), some (.rows 12 [] true false)]
def rpmSt1 (T R : Abs.Rows) (K : Int) : St := mkSt 74 [.junk, vi .i64 4, vi .i64 4, vi .i64 5, .c (.ptr 4 0 0), .junk, .junk, .junk, .junk, .c (.t (.lst false R)), vi .i64 K] [none, none, none, none, some (.var [.t (.lst false T)])]
theorem hideQ {L : Code -> St -> (AExit -> ST -> Prop) -> Prop} {c : Code} {st : St} {Q : AExit -> ST -> Prop} {e : AExit} {s : ST} (main : ∀ Q' : AExit -> ST -> Prop, Q' e s -> L c st Q') (rest : Q e s) : L c st Q := main Q rest
theorem rpmade_call (l : List (Nat -> Int)) (hl : ∀ r ∈ l, ∀ i, i < 5 -> -128 <= r i /\ r i < 128) : ACall Tryz.prog 35 [.val (.agg [.lst false (l.map r5)]), .val (ti .i64 4), .val (ti .i64 4), .val (ti .i64 5)] ⟨[.val (tl (tmr (madeP (l.take 5))))], [none, none, none, none]⟩ := by
 obtain ⟨T, hT⟩ : ∃ T, T = l.map r5 := ⟨_, rfl⟩
 obtain ⟨Z, hZ⟩ : ∃ T, T = tmr (madeP (l.take 5)) := ⟨_, rfl⟩
 obtain ⟨n, hn⟩ : ∃ n, n = l.length := ⟨_, rfl⟩
 have lT : T.length = n := by rw [hT, List.length_map, hn]
 rw [<- hT, <- hZ]
 have cone := qam 1 (by omega) (by omega)
 obtain ⟨s2, t2, r2, p2, e2, _⟩ := qrow ((1 : Int) : Rat)
 rw [e2] at cone
 refine callZ ccOk mixed [.val] Tryz.func35 rfl rfl (by kernel_rfl) fun zA zB zC zD zE zF zG zH zI zJ zK zL zM zN zO zP zQ zR zS zT zU zV zX zY zZ za zb zc zd ze zg zh zi zk zl zm zn zo zq zr zs zt zu zw zx zy zz zW zth A L F hS hF => ?_
 obtain ⟨N, hN, hN2⟩ : ∃ N : Int, N = n /\ zY (zh T) = N := ⟨_, rfl, by rw [hS.ofN, hS.len, lT]⟩
 have f0 : zo 0 0 [] = true := by rw [hS.fit]; rfl
 have f1 : zq [] 0 0 = [] := by rw [hS.part]; rfl
 cbv
 have hN : N = (n : Int) := hN
 refine loopZR ccOk mixed hS (fun (m : Nat) s' => ∃ (k : Nat) (K : Int), K = k /\ m + k = 5 /\ k <= n /\ ((k = 0 /\ s' = rpmSt0 T K) ∨ ∃ R, R = tmr (madeP (l.take k)) /\ s' = rpmSt1 T R K)) (n := 5) (s0 := rpmSt0 T 0) (qaq ?_ ?_) rfl (by show 4 <= 6; omega) ?_ ?_
 ·simp [leT, rpmSt0, mkSt, vi, vb]
 ·simp [leH, rpmSt0, mkSt]
 ·exact ⟨0, 0, rfl, by omega, by omega, .inl ⟨rfl, rfl⟩⟩
 ·rintro m sx ⟨k, K, hK, hm, hk, hcase⟩
  by_cases hend : k < n /\ k < 5
  ·have c1 : zO K (zY (zh T)) = true := by rw [hN2, hS.lt]; exact decide_eq_true (by omega)
   have c2 : zO K 5 = true := by rw [hS.lt]; exact decide_eq_true (by omega)
   obtain ⟨r, hr⟩ : ∃ r, l[k]? = some r := ⟨_, List.getElem?_eq_getElem (by omega)⟩
   have hro := hl r (List.mem_of_getElem? hr)
   have hTk : T[k]? = some [.v (.int .i8 (r 0)), .v (.int .i8 (r 1)), .v (.int .i8 (r 2)), .v (.int .i8 (r 3)), .v (.int .i8 (r 4))] := by rw [hT, List.getElem?_map, hr]; rfl
   obtain ⟨M, hM⟩ : ∃ M, M = mE r := ⟨_, rfl⟩
   obtain ⟨Lf, hL⟩ : ∃ Lf, Lf = mL r := ⟨_, rfl⟩
   obtain ⟨A', hA'⟩ : ∃ L : Nat -> Int, L = fun i => ((r (i + 1)).natAbs : Int) := ⟨_, rfl⟩
   have hA : ∀ i, i < 4 -> ACall Tryz.prog 83 [.val (ti .i8 (r (i + 1)))] ⟨[.val (ti .i64 (A' i))], [none]⟩ := fun i hi => by
    have := hro (i + 1) (by omega)
    rw [hA']
    exact rpabs_call _ this.1 this.2
   have hL0 : Lf 0 = 4 := by rw [hL]; rfl
   have hLo : ∀ i, 0 <= Lf i /\ Lf i <= 4 := fun i => by rw [hL]; exact mL_ok r i
   have hMo : ∀ i, 0 <= M i /\ M i <= Lf i := fun i => by rw [hL, hM]; exact mE_ok r i
   have hMi : ∀ i, M i = A' i % (Lf i + 1) := fun i => by rw [hA', hL, hM]; rfl
   have hLi : ∀ i, Lf (i + 1) = Lf i - M i := fun i => by rw [hL, hM]; rfl
   have j1 : zV K = k := by rw [hS.nat]; omega
   have j2 : zi T k = some [.v (.int .i8 (r 0)), .v (.int .i8 (r 1)), .v (.int .i8 (r 2)), .v (.int .i8 (r 3)), .v (.int .i8 (r 4))] := by rw [hS.nth]; exact hTk
   have n0 : zP 0 K = true := by rw [hS.le]; exact decide_eq_true (by omega)
   have y0 : zX 0 5 = true := by rw [hS.inb]; rfl
   have y1 : zZ 0 0 = 0 := by rw [hS.idx]; rfl
   obtain ⟨R0, hR0⟩ : ∃ R0, R0 = (r 0).tmod 4 := ⟨_, rfl⟩
   have hR4 := tmod4 (r 0)
   rw [<- hR0] at hR4
   have y2 : zA .i64 (zF (r 0) 4) = R0 := by rw [hS.rem, hS.wrap, <- hR0, wrap_i64 (by omega) (by omega)]
   have cw := qam R0 (by omega) (by omega)
   obtain ⟨s1, t1, r1, p1, e1, _⟩ := qrow ((R0 : Int) : Rat)
   rw [e1] at cw
   obtain ⟨K', hK', i0⟩ : ∃ I' : Int, I' = ((k + 1 : Nat) : Int) /\ zA .i64 (zB K 1) = I' := ⟨K + 1, by omega, by rw [hS.add, hS.wrap, wrap_i64 (by omega) (by omega)]⟩
   obtain ⟨O, hO⟩ : ∃ O, O = madeP (l.take k) := ⟨_, rfl⟩
   obtain ⟨T1, hT1⟩ : ∃ T, T = tmr (tm1 ((R0 : Int) : Rat) (rtm r)) := ⟨_, rfl⟩
   obtain ⟨T2, hT2⟩ : ∃ T, T = tmr (madeP (l.take (k + 1))) := ⟨_, rfl⟩
   have ok1 := rtm_ok r
   have hq0 : Qs ((R0 : Int) : Rat) 1 := Qs.whole (by omega) (Nat.le_refl 1)
   have cs := rpscale_call ((R0 : Int) : Rat) (rtm r) hq0 ok1.big (by omega)
   obtain ⟨hO1, hO2⟩ := madeP_ok (l.take k) (fun r hr => hl r (List.mem_of_mem_take hr) 0 (by omega)) [] 0 (by simp)
   obtain ⟨a1, a2⟩ := tm1_ok hq0 ok1
   have hlk : (l.take k).length = k := by rw [List.length_take]; omega
   rw [hlk] at hO1 hO2
   have hO1 : O.length <= k := by rw [hO]; exact Nat.le_trans hO1 (by simp)
   have hO2 : ∀ t ∈ O, t.ok (0 + 3 * k) 4 := by rw [hO]; exact hO2
   have ca := rpadd_call O (tm1 ((R0 : Int) : Rat) (rtm r)) (fun t ht => (hO2 t ht).big) (fun t ht => (a2 t ht).big) (by omega) (by omega) (by omega)
   have hnxt : padd (O.length + (tm1 ((R0 : Int) : Rat) (rtm r)).length) O (tm1 ((R0 : Int) : Rat) (rtm r)) = madeP (l.take (k + 1)) := by
    rw [List.take_add_one, hr, madeP, List.foldl_append]
    show _ = rpnx (madeP (l.take k)) r
    rw [<- hO, hR0]; rfl
   rw [hnxt, <- hT1, <- hT2] at ca
   rw [e1, <- hT1] at cs
   obtain ⟨row, hrw⟩ : ∃ row, row = [Tree.v (.bool s2), .lst false r2, .v (.bool t2), .lst false p2, .v (.int .i64 (M 0)), .v (.int .i64 (M 1)), .v (.int .i64 (M 2)), .v (.int .i64 (M 3)), .v (.int .i64 0), .v (.int .i64 0), .v (.int .i64 0), .v (.int .i64 0)] := ⟨_, rfl⟩
   have hrow : (rtm r).row = row := by rw [hrw, hM]; show (qc ((1 : Int) : Rat)).row ++ _ = _; rw [e2]; rfl
   rw [hrow] at cs
   have u0 : zq [row] 0 1 = [row] := by rw [hS.part]; rfl
   have u1 : zo 0 1 [row] = true := by rw [hS.fit]; rfl
   have hmm0 : m - 1 < m := by omega
   have hnx0 : ∃ (kz : Nat) (Kz : Int), Kz = kz /\ m - 1 + kz = 5 /\ kz <= n /\ ((kz = 0 /\ rpmSt1 T T2 K' = rpmSt0 T Kz) ∨ ∃ R, R = tmr (madeP (l.take kz)) /\ rpmSt1 T T2 K' = rpmSt1 T R Kz) := ⟨k + 1, K', hK', by omega, by omega, .inr ⟨T2, hT2, rfl⟩⟩
   rcases hcase with ⟨hk0, hs1⟩ | ⟨R, hR, hs1⟩
   ·have ca : ACall Tryz.prog 84 [.val (tl []), .val (tl T1)] ⟨[.val (tl T2)], [none, none]⟩ := by rw [show O = [] by rw [hO, hk0]; rfl] at ca; exact ca
    subst hs1
    cbv
    refine bT c1 (bT c2 ?_)
    apply hideQ (L := L)
    ·intro Q' hq
     refine loopZR ccOk mixed hS (fun (m : Nat) s' => ∃ (i : Nat) (I : Int), I = i /\ m + i = 4 /\ s' = rpiSt0 T K (mms M i) (Lf i) I) (n := 4) (s0 := rpiSt0 T K (mms M 0) 4 0) (qaq ?_ ?_) rfl (by show 4 <= 7; omega) ?_ ?_
     ·simp [leT, rpiSt0, rpiSt1, mkSt, vi, vb]
     ·simp [leH, rpiSt0, rpiSt1, mkSt, mms]
     ·exact ⟨0, 0, rfl, rfl, by rw [hL0]⟩
     ·rintro m sx ⟨i, I, hI, him, hs1⟩
      by_cases hi : i = 4
      ·obtain rfl : I = 4 := by omega
       subst hi
       subst hs1
       have l1 : zO 4 4 = false := by rw [hS.lt]; rfl
       cbv
       exact bF l1 hq
      ·have hm4 : i < 4 := by omega
       obtain ⟨D, hD⟩ : ∃ D, D = Lf i + 1 := ⟨_, rfl⟩
       obtain ⟨I', hI'⟩ : ∃ I' : Int, I' = ((i + 1 : Nat) : Int) := ⟨_, rfl⟩
       obtain ⟨J, hJ⟩ : ∃ J : Nat, J = i + 1 := ⟨_, rfl⟩
       have l1 : zO I 4 = true := by rw [hS.lt]; exact decide_eq_true (by omega)
       have i1 : zA .i64 (zB I 1) = I' := by rw [hS.add, hS.wrap, wrap_i64 (by omega) (by omega)]; omega
       have i2 : zA .i64 (zB 1 I) = I' := by rw [hS.add, hS.wrap, wrap_i64 (by omega) (by omega)]; omega
       have x0 : zX (zA .i64 (zB 1 I)) 5 = true := by rw [i2, hS.inb]; exact decide_eq_true (by omega)
       have x1 : zZ 0 (zA .i64 (zB 1 I)) = J := by rw [i2, hS.idx]; omega
       have d0 : zA .i64 (zB (Lf i) 1) = D := by rw [hS.add, hS.wrap, wrap_i64 (by have := hLo i; omega) (by have := hLo i; omega)]; omega
       have d1 : zN D 0 = true := by rw [hS.ne]; exact decide_eq_true (by have := hLo i; omega)
       have d2 : zF (A' i) D = M i := by rw [hS.rem, hMi, hD, Int.tmod_eq_emod_of_nonneg (by rw [hA']; exact Int.natCast_nonneg _)]
       have d3 : zA .i64 (zC (Lf i) (M i)) = Lf (i + 1) := by rw [hS.sub, hS.wrap, hLi, wrap_i64 (by have := hLo i; have := hMo i; omega) (by have := hLo i; have := hMo i; omega)]
       have ca := hA i hm4
       have hmm : m - 1 < m := by omega
       have hnx : ∃ (i2 : Nat) (I2 : Int), I2 = i2 /\ (m - 1) + i2 = 4 /\ rpiSt0 T K (mms M (i + 1)) (Lf (i + 1)) I' = rpiSt0 T K (mms M i2) (Lf i2) I2 := ⟨i + 1, I', by omega, by omega, rfl⟩
       obtain ⟨Li, hLi1⟩ : ∃ Li, Li = Lf (i + 1) := ⟨_, rfl⟩
       rw [<- hLi1] at d3 hnx
       obtain rfl | rfl | rfl | rfl : i = 0 ∨ i = 1 ∨ i = 2 ∨ i = 3 := by omega
       all_goals
        simp at hI hI' hJ
        subst hI hI' hJ
        subst hs1
        cbv
        refine bT l1 ?_
        refine bT l1 ?_
        rw [j1, j2]
        cbv
        refine nd (n0) ?_
        refine nd (x0) ?_
        rw [x1]
        cbv
        refine ⟨_, hS.call (ca), ?_⟩
        cbv
        rw [d0]
        refine nd d1 ?_
        refine againR [(4, 4), (5, 5), (6, 6)] (k := m - 1) ?_ ?_ ?_ ?_ rfl (by show 4 <= 7; omega) hmm hnx
        ·simp [leTR, rpiSt0, rpiSt1, mkSt, vi, vb, AV.ren, AV.noTup, Cell.ren, renF, i1, d2, d3]
        ·simp [leHR, rpiSt0, rpiSt1, mkSt, Abs.look, renF, Blk.ren, Cell.ren, mms, d2]
        ·simp [liveR, rpiSt0, rpiSt1, mkSt, renF]
        ·simp
    ·cbv
     rw [j1, j2]
     cbv
     refine nd (n0) ?_
     refine nd (y0) ?_
     rw [y1]
     cbv
     rw [y2]
     refine ⟨_, hS.call (cw), ?_⟩
     cbv
     refine ⟨_, hS.call (cone), ?_⟩
     cbv
     rw [<- hrw, u0]
     refine nd (u1) ?_
     refine ⟨_, hS.call (cs), ?_⟩
     cbv
     refine nd f0 ?_; rw [f1]; refine ⟨_, hS.call ca, ?_⟩; cbv
     refine againR [] (s' := rpmSt1 T T2 K') (k := m - 1) ?_ ?_ ?_ ?_ rfl (by show 4 <= 5; omega) hmm0 hnx0
     ·simp [leTR, rpmSt1, mkSt, vi, vb, AV.ren, AV.noTup, Cell.ren, renF, i0]
     ·simp [leHR, rpmSt1, mkSt, Abs.look, renF, Blk.ren, Cell.ren]
     ·simp [liveR, rpmSt1, mkSt, renF]
     ·simp
   ·rw [<- hO] at hR
    rw [<- hR] at ca
    subst hs1
    cbv
    refine bT c1 (bT c2 ?_)
    apply hideQ (L := L)
    ·intro Q' hq
     refine loopZR ccOk mixed hS (fun (m : Nat) s' => ∃ (i : Nat) (I : Int), I = i /\ m + i = 4 /\ s' = rpiSt1 T R K (mms M i) (Lf i) I) (n := 4) (s0 := rpiSt1 T R K (mms M 0) 4 0) (qaq ?_ ?_) rfl (by show 4 <= 6; omega) ?_ ?_
     ·simp [leT, rpiSt0, rpiSt1, mkSt, vi, vb]
     ·simp [leH, rpiSt0, rpiSt1, mkSt, mms]
     ·exact ⟨0, 0, rfl, rfl, by rw [hL0]⟩
     ·rintro m sx ⟨i, I, hI, him, hs1⟩
      by_cases hi : i = 4
      ·obtain rfl : I = 4 := by omega
       subst hi
       subst hs1
       have l1 : zO 4 4 = false := by rw [hS.lt]; rfl
       cbv
       exact bF l1 hq
      ·have hm4 : i < 4 := by omega
       obtain ⟨D, hD⟩ : ∃ D, D = Lf i + 1 := ⟨_, rfl⟩
       obtain ⟨I', hI'⟩ : ∃ I' : Int, I' = ((i + 1 : Nat) : Int) := ⟨_, rfl⟩
       obtain ⟨J, hJ⟩ : ∃ J : Nat, J = i + 1 := ⟨_, rfl⟩
       have l1 : zO I 4 = true := by rw [hS.lt]; exact decide_eq_true (by omega)
       have i1 : zA .i64 (zB I 1) = I' := by rw [hS.add, hS.wrap, wrap_i64 (by omega) (by omega)]; omega
       have i2 : zA .i64 (zB 1 I) = I' := by rw [hS.add, hS.wrap, wrap_i64 (by omega) (by omega)]; omega
       have x0 : zX (zA .i64 (zB 1 I)) 5 = true := by rw [i2, hS.inb]; exact decide_eq_true (by omega)
       have x1 : zZ 0 (zA .i64 (zB 1 I)) = J := by rw [i2, hS.idx]; omega
       have d0 : zA .i64 (zB (Lf i) 1) = D := by rw [hS.add, hS.wrap, wrap_i64 (by have := hLo i; omega) (by have := hLo i; omega)]; omega
       have d1 : zN D 0 = true := by rw [hS.ne]; exact decide_eq_true (by have := hLo i; omega)
       have d2 : zF (A' i) D = M i := by rw [hS.rem, hMi, hD, Int.tmod_eq_emod_of_nonneg (by rw [hA']; exact Int.natCast_nonneg _)]
       have d3 : zA .i64 (zC (Lf i) (M i)) = Lf (i + 1) := by rw [hS.sub, hS.wrap, hLi, wrap_i64 (by have := hLo i; have := hMo i; omega) (by have := hLo i; have := hMo i; omega)]
       have ca := hA i hm4
       have hmm : m - 1 < m := by omega
       have hnx : ∃ (i2 : Nat) (I2 : Int), I2 = i2 /\ (m - 1) + i2 = 4 /\ rpiSt1 T R K (mms M (i + 1)) (Lf (i + 1)) I' = rpiSt1 T R K (mms M i2) (Lf i2) I2 := ⟨i + 1, I', by omega, by omega, rfl⟩
       obtain ⟨Li, hLi1⟩ : ∃ Li, Li = Lf (i + 1) := ⟨_, rfl⟩
       rw [<- hLi1] at d3 hnx
       obtain rfl | rfl | rfl | rfl : i = 0 ∨ i = 1 ∨ i = 2 ∨ i = 3 := by omega
       all_goals
        simp at hI hI' hJ
        subst hI hI' hJ
        subst hs1
        cbv
        refine bT l1 ?_
        refine bT l1 ?_
        rw [j1, j2]
        cbv
        refine nd (n0) ?_
        refine nd (x0) ?_
        rw [x1]
        cbv
        refine ⟨_, hS.call (ca), ?_⟩
        cbv
        rw [d0]
        refine nd d1 ?_
        refine againR [(4, 4), (5, 5)] (k := m - 1) ?_ ?_ ?_ ?_ rfl (by show 4 <= 6; omega) hmm hnx
        ·simp [leTR, rpiSt0, rpiSt1, mkSt, vi, vb, AV.ren, AV.noTup, Cell.ren, renF, i1, d2, d3]
        ·simp [leHR, rpiSt0, rpiSt1, mkSt, Abs.look, renF, Blk.ren, Cell.ren, mms, d2]
        ·simp [liveR, rpiSt0, rpiSt1, mkSt, renF]
        ·simp
    ·cbv
     rw [j1, j2]
     cbv
     refine nd (n0) ?_
     refine nd (y0) ?_
     rw [y1]
     cbv
     rw [y2]
     refine ⟨_, hS.call (cw), ?_⟩
     cbv
     refine ⟨_, hS.call (cone), ?_⟩
     cbv
     rw [<- hrw, u0]
     refine nd (u1) ?_
     refine ⟨_, hS.call (cs), ?_⟩
     cbv
     refine ⟨_, hS.call ca, ?_⟩; cbv
     refine againR [] (s' := rpmSt1 T T2 K') (k := m - 1) ?_ ?_ ?_ ?_ rfl (by show 4 <= 5; omega) hmm0 hnx0
     ·simp [leTR, rpmSt1, mkSt, vi, vb, AV.ren, AV.noTup, Cell.ren, renF, i0]
     ·simp [leHR, rpmSt1, mkSt, Abs.look, renF, Blk.ren, Cell.ren]
     ·simp [liveR, rpmSt1, mkSt, renF]
     ·simp
  ·have hZk : tmr (madeP (l.take k)) = Z := by
    rw [hZ]
    by_cases h5 : k = 5
    ·rw [h5]
    ·rw [List.take_of_length_le (show l.length <= k by omega), List.take_of_length_le (show l.length <= 5 by omega)]
   by_cases hkn : k < n
   ·have c1 : zO K (zY (zh T)) = true := by rw [hN2, hS.lt]; exact decide_eq_true (by omega)
    have c2 : zO K 5 = false := by rw [hS.lt]; exact decide_eq_false (by omega)
    rcases hcase with ⟨hk0, hs1⟩ | ⟨R, hR, hs1⟩
    ·omega
    ·rw [hZk] at hR
     subst hR
     subst hs1
     cbv
     refine bT c1 (bF c2 ?_)
     exact hF _ (ResLe.refl _)
   ·have c1 : zO K (zY (zh T)) = false := by rw [hN2, hS.lt]; exact decide_eq_false (by omega)
    rcases hcase with ⟨hk0, hs1⟩ | ⟨R, hR, hs1⟩
    ·have hZ0 : Z = [] := by rw [<- hZk, hk0]; rfl
     subst hZ0
     subst hs1
     cbv
     refine bF c1 (nd f0 ?_)
     rw [f1]
     exact hF _ (ResLe.refl _)
    ·rw [hZk] at hR
     subst hR
     subst hs1
     cbv
     refine bF c1 ?_
     exact hF _ (ResLe.refl _)
open Go Go.Abs Go.Abs.M Go.Proofs
def rawZc : List Cell := [.t (.v (.bool false)), .t (.lst true []), .t (.v (.bool false)), .t (.lst true [])]
def reSt (P : Abs.Rows) (f : Nat -> RN) (x : RN) (K : Int) : St := mkSt 42 [.c (.t (.lst false P)), .junk, .junk, .c (.ptr 2 0 0), .c (.ptr 3 0 0), .c (.ptr 6 0 0), vi .i64 K] [none, none, some (.var ((pt8 f).map .t)), some (.var rawZc), none, none, some (.var (x.row.map .t))]
def reSi (P : Abs.Rows) (f : Nat -> RN) (x y : RN) (K I : Int) : St := mkSt 42 [.c (.t (.lst false P)), .junk, .junk, .c (.ptr 2 0 0), .c (.ptr 3 0 0), .c (.ptr 6 0 0), vi .i64 K, .c (.ptr 7 0 0), vi .i64 I] [none, none, some (.var ((pt8 f).map .t)), some (.var rawZc), none, none, some (.var (x.row.map .t)), some (.var (y.row.map .t))]
theorem reval_walk (P : Abs.Rows) (n : Nat) (hn : P.length = n) (hn2 : n <= 1000) (f : Nat -> RN) (e : Nat -> Nat -> Int) (pw t : Nat -> Nat -> RN) (s : Nat -> RN) (h0 : ACall Tryz.prog 29 [.val (ti .i64 0)] ⟨[.val (.agg (s 0).row)], [none]⟩) (hx : ∀ k, k < n -> P[k]? = some (tr8 (t k 0) (e k))) (hp : ∀ k, k < n -> ∀ i, i < 8 -> ACall Tryz.prog 109 [.val (.agg (f i).row), .val (ti .i64 (e k i))] ⟨[.val (.agg (pw k i).row)], [none, none]⟩)
  (hmul : ∀ k, k < n -> ∀ i, i < 8 -> ACall Tryz.prog 30 [.val (.agg (t k i).row), .val (.agg (pw k i).row)] ⟨[.val (.agg (t k (i + 1)).row)], [none, none]⟩) (ha : ∀ k, k < n -> ACall Tryz.prog 31 [.val (.agg (s k).row), .val (.agg (t k 8).row)] ⟨[.val (.agg (s (k + 1)).row)], [none, none]⟩) :
  ACall Tryz.prog 54 [.val (tl P), .val (.agg (pt8 f))] ⟨[.val (.agg (s n).row)], [none, none]⟩ := by
 refine callZ ccOk mixed [.val] Tryz.func54 rfl rfl (by kernel_rfl) fun zA zB zC zD zE zF zG zH zI zJ zK zL zM zN zO zP zQ zR zS zT zU zV zX zY zZ za zb zc zd ze zg zh zi zk zl zm zn zo zq zr zs zt zu zw zx zy zz zW zth A L F hS hF => ?_
 obtain ⟨N, hN, hN2⟩ : ∃ N : Int, N = n /\ zY (zh P) = N := ⟨_, rfl, by rw [hS.ofN, hS.len, hn]⟩
 cbv
 refine ⟨_, hS.call (h0), ?_⟩
 cbv
 have hN : N = (n : Int) := hN
 refine loopZR ccOk mixed hS (fun (m : Nat) s' => ∃ (k : Nat) (K : Int), K = k /\ m + k = n /\ s' = reSt P f (s k) K) (n := n) (s0 := reSt P f (s 0) 0) (qaq ?_ ?_) rfl (by show 2 <= 7; omega) ?_ ?_
 ·simp [leT, reSt, mkSt, vi, vb]
 ·simp [leH, reSt, mkSt, pt8, RN.row, rawZc]
 ·exact ⟨0, 0, rfl, by omega, rfl⟩
 ·rintro m sx ⟨k, K, hK, hm, hs1⟩
  by_cases hkn : k = n
  ·have l1 : zO K (zY (zh P)) = false := by rw [hN2, hS.lt]; exact decide_eq_false (by omega)
   rw [hkn] at hs1
   subst hs1
   cbv
   refine bF l1 ?_
   exact hF _ (ResLe.refl _)
  ·have l1 : zO K (zY (zh P)) = true := by rw [hN2, hS.lt]; exact decide_eq_true (by omega)
   have j1 : zV K = k := by rw [hS.nat]; omega
   have j2 : zi P k = some (tr8 (t k 0) (e k)) := by rw [hS.nth]; exact hx k (by omega)
   have n0 : zP 0 K = true := by rw [hS.le]; exact decide_eq_true (by omega)
   have cp := hp k (by omega)
   have cm := hmul k (by omega)
   have ca := ha k (by omega)
   obtain ⟨K', hK', k0⟩ : ∃ I' : Int, I' = ((k + 1 : Nat) : Int) /\ zA .i64 (zB K 1) = I' := ⟨K + 1, by omega, by rw [hS.add, hS.wrap, wrap_i64 (by omega) (by omega)]⟩
   have hmm0 : m - 1 < m := by omega
   have hnx0 : ∃ (kz : Nat) (Kz : Int), Kz = kz /\ m - 1 + kz = n /\ reSt P f (s (k + 1)) K' = reSt P f (s kz) Kz := ⟨k + 1, K', hK', by omega, rfl⟩
   obtain ⟨y, hy⟩ : ∃ y : Nat -> RN, y = t k := ⟨_, rfl⟩
   obtain ⟨w, hw⟩ : ∃ y : Nat -> RN, y = pw k := ⟨_, rfl⟩
   obtain ⟨x, hx1⟩ : ∃ y : RN, y = s k := ⟨_, rfl⟩
   obtain ⟨x', hx2⟩ : ∃ y : RN, y = s (k + 1) := ⟨_, rfl⟩
   obtain ⟨E, hE⟩ : ∃ E : Nat -> Int, E = e k := ⟨_, rfl⟩
   rw [<- hx2] at hnx0
   rw [<- hy, <- hE] at j2
   rw [<- hx1] at hs1
   simp only [<- hy, <- hw, <- hx1, <- hx2, <- hE] at cp cm ca
   subst hs1
   cbv
   refine bT l1 ?_
   rw [j1, j2]
   cbv
   refine nd (n0) ?_
   apply hideQ (L := L)
   ·intro Q' hq
    refine loopZR ccOk mixed hS (fun (m : Nat) s' => ∃ (i : Nat) (I : Int), I = i /\ m + i = 8 /\ s' = reSi P f x (y i) K I) (n := 8) (s0 := reSi P f x (y 0) K 0) (qaq ?_ ?_) rfl (by show 2 <= 8; omega) ?_ ?_
    ·simp [leT, reSi, mkSt, vi, vb]
    ·simp [leH, reSi, mkSt, pt8, RN.row, rawZc]
    ·exact ⟨0, 0, rfl, by omega, rfl⟩
    ·rintro m sx ⟨i, I, hI, him, hs1⟩
     by_cases hi : i = 8
     ·obtain rfl : I = 8 := by omega
      subst hi
      subst hs1
      have l1 : zO 8 8 = false := by rw [hS.lt]; rfl
      cbv
      exact bF l1 hq
     ·have hm4 : i < 8 := by omega
      obtain ⟨I', hI'⟩ : ∃ I' : Int, I' = ((i + 1 : Nat) : Int) := ⟨_, rfl⟩
      have l1 : zO I 8 = true := by rw [hS.lt]; exact decide_eq_true (by omega)
      have i1 : zA .i64 (zB I 1) = I' := by rw [hS.add, hS.wrap, wrap_i64 (by omega) (by omega)]; omega
      have cp := cp i hm4
      have cm := cm i hm4
      have hmm : m - 1 < m := by omega
      obtain ⟨y', hy'⟩ : ∃ z, z = y (i + 1) := ⟨_, rfl⟩
      have hnx : ∃ (i2 : Nat) (I2 : Int), I2 = i2 /\ (m - 1) + i2 = 8 /\ reSi P f x y' K I' = reSi P f x (y i2) K I2 := ⟨i + 1, I', by omega, by omega, by rw [hy']⟩
      rw [<- hy'] at cm
      obtain ⟨wi, hwi⟩ : ∃ z, z = w i := ⟨_, rfl⟩
      obtain ⟨yi, hyi⟩ : ∃ z, z = y i := ⟨_, rfl⟩
      rw [<- hwi] at cp cm
      rw [<- hyi] at cm hs1
      obtain rfl | rfl | rfl | rfl | rfl | rfl | rfl | rfl : i = 0 ∨ i = 1 ∨ i = 2 ∨ i = 3 ∨ i = 4 ∨ i = 5 ∨ i = 6 ∨ i = 7 := by omega
      all_goals
       simp at hI hI'
       subst hI hI'
       subst hs1
       cbv
       refine bT l1 ?_
       rw [j1, j2]
       cbv
       refine nd (n0) ?_
       refine ⟨_, hS.call (cp), ?_⟩
       cbv
       refine ⟨_, hS.call (cm), ?_⟩
       cbv
       refine againR [(2, 2), (3, 3), (6, 6), (7, 7)] (k := m - 1) ?_ ?_ ?_ ?_ rfl (by show 2 <= 8; omega) hmm hnx
       ·simp [leTR, reSi, mkSt, vi, vb, AV.ren, AV.noTup, Cell.ren, renF, i1]
       ·simp [leHR, reSi, mkSt, Abs.look, renF, Blk.ren, Cell.ren, pt8, RN.row, rawZc]
       ·simp [liveR, reSi, mkSt, renF]
       ·simp
   ·cbv
    refine ⟨_, hS.call (ca), ?_⟩
    cbv
    refine againR [(2, 2), (3, 3), (6, 6)] (s' := reSt P f x' K') (k := m - 1) ?_ ?_ ?_ ?_ rfl (by show 2 <= 7; omega) hmm0 hnx0
    ·simp [leTR, reSt, mkSt, vi, vb, AV.ren, AV.noTup, Cell.ren, renF, k0]
    ·simp [leHR, reSt, mkSt, Abs.look, renF, Blk.ren, Cell.ren, pt8, RN.row, rawZc]
    ·simp [liveR, reSt, mkSt, renF]
    ·simp
def row2 (x : RN × RN) : List Tree := x.1.row ++ x.2.row
def b8 (b : Nat -> RN × RN) : List Tree := row2 (b 0) ++ row2 (b 1) ++ row2 (b 2) ++ row2 (b 3) ++ row2 (b 4) ++ row2 (b 5) ++ row2 (b 6) ++ row2 (b 7)
theorem rpoint_call (x : RN) : ACall Tryz.prog 105 [.val (.agg x.row)] ⟨[.val (.agg (row2 (x, x)))], [none]⟩ := by
 refine callZ ccOk mixed [.val] Tryz.func105 rfl rfl (by kernel_rfl) fun zA zB zC zD zE zF zG zH zI zJ zK zL zM zN zO zP zQ zR zS zT zU zV zX zY zZ za zb zc zd ze zg zh zi zk zl zm zn zo zq zr zs zt zu zw zx zy zz zW zth A L F hS hF => ?_
 cbv
 exact hF _ (ResLe.refl _)
theorem point_call (x : RN) : ACall Tryz.prog 87 [.val (.agg x.row)] ⟨[.val (.agg (row2 (x, x)))], [none]⟩ := by
 refine callZ ccOk mixed [.val] Tryz.func87 rfl rfl (by kernel_rfl) fun zA zB zC zD zE zF zG zH zI zJ zK zL zM zN zO zP zQ zR zS zT zU zV zX zY zZ za zb zc zd ze zg zh zi zk zl zm zn zo zq zr zs zt zu zw zx zy zz zW zth A L F hS hF => ?_
 cbv
 exact hF _ (ResLe.refl _)
def veSt (P : Abs.Rows) (f : Nat -> RN × RN) (x : RN × RN) (K : Int) : St := mkSt 44 [.c (.t (.lst false P)), .junk, .junk, .c (.ptr 2 0 0), .c (.ptr 3 0 0), .c (.ptr 8 0 0), vi .i64 K] [none, none, some (.var ((b8 f).map .t)), some (.var (rawZc ++ rawZc)), none, none, none, none, some (.var ((row2 x).map .t))]
def veSi (P : Abs.Rows) (f : Nat -> RN × RN) (x y : RN × RN) (K I : Int) : St := mkSt 44 [.c (.t (.lst false P)), .junk, .junk, .c (.ptr 2 0 0), .c (.ptr 3 0 0), .c (.ptr 8 0 0), vi .i64 K, .c (.ptr 11 0 0), vi .i64 I] [none, none, some (.var ((b8 f).map .t)), some (.var (rawZc ++ rawZc)), none, none, none, none, some (.var ((row2 x).map .t)), none, none, some (.var ((row2 y).map .t))]
theorem reveval_walk (P : Abs.Rows) (n : Nat) (hn : P.length = n) (hn2 : n <= 1000) (f : Nat -> RN × RN) (e : Nat -> Nat -> Int) (c : Nat -> RN) (z : RN) (pw t : Nat -> Nat -> RN × RN) (s : Nat -> RN × RN) (h0 : ACall Tryz.prog 29 [.val (ti .i64 0)] ⟨[.val (.agg z.row)], [none]⟩) (hs : s 0 = (z, z)) (hx : ∀ k, k < n -> P[k]? = some (tr8 (c k) (e k))) (ht : ∀ k, t k 0 = (c k, c k)) (hp : ∀ k, k < n -> ∀ i, i < 8 -> ACall Tryz.prog 27 [.val (.agg (row2 (f i))), .val (ti .i64 (e k i))] ⟨[.val (.agg (row2 (pw k i)))], [none, none]⟩)
  (hmul : ∀ k, k < n -> ∀ i, i < 8 -> ACall Tryz.prog 25 [.val (.agg (row2 (t k i))), .val (.agg (row2 (pw k i)))] ⟨[.val (.agg (row2 (t k (i + 1))))], [none, none]⟩) (ha : ∀ k, k < n -> ACall Tryz.prog 21 [.val (.agg (row2 (s k))), .val (.agg (row2 (t k 8)))] ⟨[.val (.agg (row2 (s (k + 1))))], [none, none]⟩) :
  ACall Tryz.prog 53 [.val (tl P), .val (.agg (b8 f))] ⟨[.val (.agg (row2 (s n)))], [none, none]⟩ := by
 have cpz := rpoint_call z
 refine callZ ccOk mixed [.val] Tryz.func53 rfl rfl (by kernel_rfl) fun zA zB zC zD zE zF zG zH zI zJ zK zL zM zN zO zP zQ zR zS zT zU zV zX zY zZ za zb zc zd ze zg zh zi zk zl zm zn zo zq zr zs zt zu zw zx zy zz zW zth A L F hS hF => ?_
 obtain ⟨N, hN, hN2⟩ : ∃ N : Int, N = n /\ zY (zh P) = N := ⟨_, rfl, by rw [hS.ofN, hS.len, hn]⟩
 cbv
 refine ⟨_, hS.call (h0), ?_⟩
 cbv
 refine ⟨_, hS.call (cpz), ?_⟩
 cbv
 have hN : N = (n : Int) := hN
 refine loopZR ccOk mixed hS (fun (m : Nat) s' => ∃ (k : Nat) (K : Int), K = k /\ m + k = n /\ s' = veSt P f (s k) K) (n := n) (s0 := veSt P f (z, z) 0) (qaq ?_ ?_) rfl (by show 2 <= 9; omega) ?_ ?_
 ·simp [leT, veSt, mkSt, vi, vb]
 ·simp [leH, veSt, mkSt, b8, row2, RN.row, rawZc]
 ·exact ⟨0, 0, rfl, by omega, by rw [hs]⟩
 ·rintro m sx ⟨k, K, hK, hm, hs1⟩
  by_cases hkn : k = n
  ·have l1 : zO K (zY (zh P)) = false := by rw [hN2, hS.lt]; exact decide_eq_false (by omega)
   rw [hkn] at hs1
   subst hs1
   cbv
   refine bF l1 ?_
   exact hF _ (ResLe.refl _)
  ·have l1 : zO K (zY (zh P)) = true := by rw [hN2, hS.lt]; exact decide_eq_true (by omega)
   have j1 : zV K = k := by rw [hS.nat]; omega
   have j2 : zi P k = some (tr8 (c k) (e k)) := by rw [hS.nth]; exact hx k (by omega)
   have n0 : zP 0 K = true := by rw [hS.le]; exact decide_eq_true (by omega)
   have cp := hp k (by omega)
   have cm := hmul k (by omega)
   have ca := ha k (by omega)
   have cpk := rpoint_call (c k)
   obtain ⟨K', hK', k0⟩ : ∃ I' : Int, I' = ((k + 1 : Nat) : Int) /\ zA .i64 (zB K 1) = I' := ⟨K + 1, by omega, by rw [hS.add, hS.wrap, wrap_i64 (by omega) (by omega)]⟩
   have hmm0 : m - 1 < m := by omega
   have hnx0 : ∃ (kz : Nat) (Kz : Int), Kz = kz /\ m - 1 + kz = n /\ veSt P f (s (k + 1)) K' = veSt P f (s kz) Kz := ⟨k + 1, K', hK', by omega, rfl⟩
   obtain ⟨y, hy⟩ : ∃ y : Nat -> RN × RN, y = t k := ⟨_, rfl⟩
   obtain ⟨w, hw⟩ : ∃ y : Nat -> RN × RN, y = pw k := ⟨_, rfl⟩
   obtain ⟨x, hx1⟩ : ∃ y : RN × RN, y = s k := ⟨_, rfl⟩
   obtain ⟨x', hx2⟩ : ∃ y : RN × RN, y = s (k + 1) := ⟨_, rfl⟩
   obtain ⟨E, hE⟩ : ∃ E : Nat -> Int, E = e k := ⟨_, rfl⟩
   obtain ⟨d, hd⟩ : ∃ d : RN, d = c k := ⟨_, rfl⟩
   have hy0 : y 0 = (d, d) := by rw [hy, hd]; exact ht k
   rw [<- hx2] at hnx0
   rw [<- hd, <- hE] at j2
   rw [<- hx1] at hs1
   simp only [<- hy, <- hw, <- hx1, <- hx2, <- hE, <- hd] at cp cm ca cpk
   subst hs1
   cbv
   refine bT l1 ?_
   rw [j1, j2]
   cbv
   refine nd (n0) ?_
   refine ⟨_, hS.call (cpk), ?_⟩
   cbv
   apply hideQ (L := L)
   ·intro Q' hq
    refine loopZR ccOk mixed hS (fun (m : Nat) s' => ∃ (i : Nat) (I : Int), I = i /\ m + i = 8 /\ s' = veSi P f x (y i) K I) (n := 8) (s0 := veSi P f x (d, d) K 0) (qaq ?_ ?_) rfl (by show 2 <= 12; omega) ?_ ?_
    ·simp [leT, veSi, mkSt, vi, vb]
    ·simp [leH, veSi, mkSt, b8, row2, RN.row, rawZc]
    ·exact ⟨0, 0, rfl, by omega, by rw [hy0]⟩
    ·rintro m sx ⟨i, I, hI, him, hs1⟩
     by_cases hi : i = 8
     ·obtain rfl : I = 8 := by omega
      subst hi
      subst hs1
      have l1 : zO 8 8 = false := by rw [hS.lt]; rfl
      cbv
      exact bF l1 hq
     ·have hm4 : i < 8 := by omega
      obtain ⟨I', hI'⟩ : ∃ I' : Int, I' = ((i + 1 : Nat) : Int) := ⟨_, rfl⟩
      have l1 : zO I 8 = true := by rw [hS.lt]; exact decide_eq_true (by omega)
      have i1 : zA .i64 (zB I 1) = I' := by rw [hS.add, hS.wrap, wrap_i64 (by omega) (by omega)]; omega
      have cp := cp i hm4
      have cm := cm i hm4
      have hmm : m - 1 < m := by omega
      obtain ⟨y', hy'⟩ : ∃ z, z = y (i + 1) := ⟨_, rfl⟩
      have hnx : ∃ (i2 : Nat) (I2 : Int), I2 = i2 /\ (m - 1) + i2 = 8 /\ veSi P f x y' K I' = veSi P f x (y i2) K I2 := ⟨i + 1, I', by omega, by omega, by rw [hy']⟩
      rw [<- hy'] at cm
      obtain ⟨wi, hwi⟩ : ∃ z, z = w i := ⟨_, rfl⟩
      obtain ⟨yi, hyi⟩ : ∃ z, z = y i := ⟨_, rfl⟩
      rw [<- hwi] at cp cm
      rw [<- hyi] at cm hs1
      obtain rfl | rfl | rfl | rfl | rfl | rfl | rfl | rfl : i = 0 ∨ i = 1 ∨ i = 2 ∨ i = 3 ∨ i = 4 ∨ i = 5 ∨ i = 6 ∨ i = 7 := by omega
      all_goals
       simp at hI hI'
       subst hI hI'
       subst hs1
       cbv
       refine bT l1 ?_
       rw [j1, j2]
       cbv
       refine nd (n0) ?_
       refine ⟨_, hS.call (cp), ?_⟩
       cbv
       refine ⟨_, hS.call (cm), ?_⟩
       cbv
       refine againR [(2, 2), (3, 3), (8, 8), (11, 11)] (k := m - 1) ?_ ?_ ?_ ?_ rfl (by show 2 <= 12; omega) hmm hnx
       ·simp [leTR, veSi, mkSt, vi, vb, AV.ren, AV.noTup, Cell.ren, renF, i1]
       ·simp [leHR, veSi, mkSt, Abs.look, renF, Blk.ren, Cell.ren, b8, row2, RN.row, rawZc]
       ·simp [liveR, veSi, mkSt, renF]
       ·simp
   ·cbv
    refine ⟨_, hS.call (ca), ?_⟩
    cbv
    refine againR [(2, 2), (3, 3), (8, 8)] (s' := veSt P f x' K') (k := m - 1) ?_ ?_ ?_ ?_ rfl (by show 2 <= 9; omega) hmm0 hnx0
    ·simp [leTR, veSt, mkSt, vi, vb, AV.ren, AV.noTup, Cell.ren, renF, k0]
    ·simp [leHR, veSt, mkSt, Abs.look, renF, Blk.ren, Cell.ren, b8, row2, RN.row, rawZc]
    ·simp [liveR, veSt, mkSt, renF]
    ·simp
def eclSt (P : Abs.Rows) (f : Nat -> RN × RN) (E : Nat -> Int) (x : RN × RN) (I : Int) : St := mkSt 34 [.junk, .c (.ptr 1 0 0), .c (.ptr 2 0 0), .junk, .c (.ptr 3 0 0), .c (.ptr 6 0 0), .junk, .junk, .junk, .junk, .junk, .junk, .junk, .junk, .junk, .junk, .junk, .junk, .agg ((m8 (E 0) (E 1) (E 2) (E 3) (E 4) (E 5) (E 6) (E 7)).map .t), vi .i64 I] [none, some (.var [.t (.lst false P)]), some (.var ((b8 f).map .t)), some (.var (rawZc ++ rawZc)), none, none, some (.var ((row2 x).map .t))]
theorem evcl_walk (P : Abs.Rows) (k : Nat) (K : Int) (hK : K = k) (f : Nat -> RN × RN) (E : Nat -> Int) (c : RN) (y pw : Nat -> RN × RN) (hx : P[k]? = some (tr8 c E)) (hy0 : y 0 = (c, c)) (hE : ∀ i, i < 8 -> 0 <= E i /\ E i <= 4) (hsk : ∀ i, i < 8 -> E i = 0 -> y (i + 1) = y i) (hp : ∀ i, i < 8 -> ACall Tryz.prog 75 [.val (.agg (row2 (f i))), .val (ti .i64 (E i))] ⟨[.val (.agg (row2 (pw i)))], [none, none]⟩)
  (hmul : ∀ i, i < 8 -> ACall Tryz.prog 74 [.val (.agg (row2 (y i))), .val (.agg (row2 (pw i)))] ⟨[.val (.agg (row2 (y (i + 1))))], [none, none]⟩) :
  ACall Tryz.prog 86 [.val (ti .i64 K), .ref [.lst false P], .ref (b8 f)] ⟨[.val (.agg (row2 (y 8)))], [none, some (.var [.t (.lst false P)]), some (.var ((b8 f).map .t))]⟩ := by
 have cpk := point_call c
 refine callZ ccOk mixed [.val] Tryz.func86 rfl rfl (by kernel_rfl) fun zA zB zC zD zE zF zG zH zI zJ zK zL zM zN zO zP zQ zR zS zT zU zV zX zY zZ za zb zc zd ze zg zh zi zk zl zm zn zo zq zr zs zt zu zw zx zy zz zW zth A L F hS hF => ?_
 have j1 : zV K = k := by rw [hS.nat]; omega
 have j2 : zi P k = some (tr8 c E) := by rw [hS.nth]; exact hx
 have n0 : zP 0 K = true := by rw [hS.le]; exact decide_eq_true (by omega)
 cbv
 rw [j1, j2]
 cbv
 refine nd (n0) ?_
 refine ⟨_, hS.call (cpk), ?_⟩
 cbv
 rw [j1, j2]
 cbv
 refine nd (n0) ?_
 refine loopZR ccOk mixed hS (fun (m : Nat) s' => ∃ (i : Nat) (I : Int), I = i /\ m + i = 8 /\ s' = eclSt P f E (y i) I) (n := 8) (s0 := eclSt P f E (c, c) 0) (qaq ?_ ?_) rfl (by show 3 <= 7; omega) ?_ ?_
 ·simp [leT, eclSt, mkSt, vi, vb, m8]
 ·simp [leH, eclSt, mkSt, b8, row2, RN.row, rawZc]
 ·exact ⟨0, 0, rfl, by omega, by rw [hy0]⟩
 ·rintro m sx ⟨i, I, hI, him, hs1⟩
  by_cases hi : i = 8
  ·obtain rfl : I = 8 := by omega
   subst hi
   subst hs1
   have l1 : zO 8 8 = false := by rw [hS.lt]; rfl
   cbv
   refine bF l1 ?_
   exact hF _ (ResLe.refl _)
  ·have hm4 : i < 8 := by omega
   obtain ⟨I', hI'⟩ : ∃ I' : Int, I' = ((i + 1 : Nat) : Int) := ⟨_, rfl⟩
   have l1 : zO I 8 = true := by rw [hS.lt]; exact decide_eq_true (by omega)
   have i1 : zA .i64 (zB I 1) = I' := by rw [hS.add, hS.wrap, wrap_i64 (by omega) (by omega)]; omega
   have cp := hp i hm4
   have cm := hmul i hm4
   have hmm : m - 1 < m := by omega
   obtain ⟨y', hy'⟩ : ∃ z, z = y (i + 1) := ⟨_, rfl⟩
   have hnx : ∃ (i2 : Nat) (I2 : Int), I2 = i2 /\ (m - 1) + i2 = 8 /\ eclSt P f E y' I' = eclSt P f E (y i2) I2 := ⟨i + 1, I', by omega, by omega, by rw [hy']⟩
   rw [<- hy'] at cm
   obtain ⟨wi, hwi⟩ : ∃ z, z = pw i := ⟨_, rfl⟩
   obtain ⟨yi, hyi⟩ : ∃ z, z = y i := ⟨_, rfl⟩
   rw [<- hwi] at cp cm
   rw [<- hyi] at cm hs1
   have hsk0 : E i = 0 -> y' = yi := fun h => by rw [hy', hyi]; exact hsk i hm4 h
   by_cases h0 : E i = 0
   ·have e0 : zN (E i) 0 = false := by rw [hS.ne, h0]; rfl
    rw [hsk0 h0] at hnx
    obtain rfl | rfl | rfl | rfl | rfl | rfl | rfl | rfl : i = 0 ∨ i = 1 ∨ i = 2 ∨ i = 3 ∨ i = 4 ∨ i = 5 ∨ i = 6 ∨ i = 7 := by omega
    all_goals
     simp at hI hI'
     subst hI hI'
     subst hs1
     cbv
     refine bT l1 (bF e0 ?_)
     refine againR [(3, 3), (6, 6)] (k := m - 1) ?_ ?_ ?_ ?_ rfl (by show 3 <= 7; omega) hmm hnx
     ·simp [leTR, eclSt, mkSt, vi, vb, AV.ren, AV.noTup, Cell.ren, renF, i1, m8]
     ·simp [leHR, eclSt, mkSt, Abs.look, renF, Blk.ren, Cell.ren, b8, row2, RN.row, rawZc]
     ·simp [liveR, eclSt, mkSt, renF]
     ·simp
   ·have e0 : zN (E i) 0 = true := by rw [hS.ne]; exact decide_eq_true h0
    obtain rfl | rfl | rfl | rfl | rfl | rfl | rfl | rfl : i = 0 ∨ i = 1 ∨ i = 2 ∨ i = 3 ∨ i = 4 ∨ i = 5 ∨ i = 6 ∨ i = 7 := by omega
    all_goals
     simp at hI hI'
     subst hI hI'
     subst hs1
     cbv
     refine bT l1 (bT e0 ?_)
     refine ⟨_, hS.call (cp), ?_⟩
     cbv
     refine ⟨_, hS.call (cm), ?_⟩
     cbv
     refine againR [(3, 3), (6, 6)] (k := m - 1) ?_ ?_ ?_ ?_ rfl (by show 3 <= 7; omega) hmm hnx
     ·simp [leTR, eclSt, mkSt, vi, vb, AV.ren, AV.noTup, Cell.ren, renF, i1, m8]
     ·simp [leHR, eclSt, mkSt, Abs.look, renF, Blk.ren, Cell.ren, b8, row2, RN.row, rawZc]
     ·simp [liveR, eclSt, mkSt, renF]
     ·simp
def sumESt (P : Abs.Rows) (f : Nat -> RN × RN) (N : Int) (x : RN × RN) (I : Int) : St := mkSt 20 [vi .i64 N, .c (.clo 86 [(2, 0, 0), (3, 0, 0)]), .junk, .junk, .c (.ptr 4 0 0), .c (.ptr 9 0 0), .junk, .junk, .junk, vi .i64 N, vi .i64 I] [none, none, some (.var [.t (.lst false P)]), some (.var ((b8 f).map .t)), some (.var (rawZc ++ rawZc)), none, none, none, none, some (.var ((row2 x).map .t))]
theorem sumE_walk (P : Abs.Rows) (f : Nat -> RN × RN) (n : Nat) (hn2 : n <= 1000) (N : Int) (hN : N = n) (z : RN) (s t : Nat -> RN × RN) (h0 : ACall Tryz.prog 94 [.val (ti .i64 0)] ⟨[.val (.agg z.row)], [none]⟩) (hs : s 0 = (z, z)) (hc : ∀ (k : Nat) (K : Int), k < n -> K = k -> ACall Tryz.prog 86 [.val (ti .i64 K), .ref [.lst false P], .ref (b8 f)] ⟨[.val (.agg (row2 (t k)))], [none, some (.var [.t (.lst false P)]), some (.var ((b8 f).map .t))]⟩) (ha : ∀ k, k < n -> ACall Tryz.prog 72 [.val (.agg (row2 (s k))), .val (.agg (row2 (t k)))] ⟨[.val (.agg (row2 (s (k + 1))))], [none, none]⟩) :
  ACall Tryz.prog 88 [.val (ti .i64 N), .clo 86 [(2, 0, 0), (3, 0, 0)], .gh [.lst false P], .gh (b8 f)] ⟨[.val (.agg (row2 (s n)))], [none, none, some (.var [.t (.lst false P)]), some (.var ((b8 f).map .t))]⟩ := by
 have cpz := point_call z
 refine callZ ccOk mixed [.val] Tryz.func88 rfl rfl (by kernel_rfl) fun zA zB zC zD zE zF zG zH zI zJ zK zL zM zN zO zP zQ zR zS zT zU zV zX zY zZ za zb zc zd ze zg zh zi zk zl zm zn zo zq zr zs zt zu zw zx zy zz zW zth A L F hS hF => ?_
 cbv
 refine ⟨_, hS.call (h0), ?_⟩
 cbv
 refine ⟨_, hS.call (cpz), ?_⟩
 cbv
 have hN : N = (n : Int) := hN
 refine loopZR ccOk mixed hS (fun (m : Nat) s' => ∃ (k : Nat) (K : Int), K = k /\ m + k = n /\ s' = sumESt P f N (s k) K) (n := n) (s0 := sumESt P f N (z, z) 0) (qaq ?_ ?_) rfl (by show 4 <= 10; omega) ?_ ?_
 ·simp [leT, sumESt, mkSt, vi, vb]
 ·simp [leH, sumESt, mkSt, b8, row2, RN.row, rawZc]
 ·exact ⟨0, 0, rfl, by omega, by rw [hs]⟩
 ·rintro m sx ⟨k, K, hK, hm, hs1⟩
  by_cases hkn : k = n
  ·have l1 : zO K N = false := by rw [hS.lt]; exact decide_eq_false (by omega)
   rw [hkn] at hs1
   subst hs1
   cbv
   refine bF l1 ?_
   exact hF _ (ResLe.refl _)
  ·have l1 : zO K N = true := by rw [hS.lt]; exact decide_eq_true (by omega)
   have cc := hc k K (by omega) hK
   have ca := ha k (by omega)
   obtain ⟨K', hK', k0⟩ : ∃ I' : Int, I' = ((k + 1 : Nat) : Int) /\ zA .i64 (zB K 1) = I' := ⟨K + 1, by omega, by rw [hS.add, hS.wrap, wrap_i64 (by omega) (by omega)]⟩
   have hmm0 : m - 1 < m := by omega
   have hnx0 : ∃ (kz : Nat) (Kz : Int), Kz = kz /\ m - 1 + kz = n /\ sumESt P f N (s (k + 1)) K' = sumESt P f N (s kz) Kz := ⟨k + 1, K', hK', by omega, rfl⟩
   obtain ⟨x, hx1⟩ : ∃ y : RN × RN, y = s k := ⟨_, rfl⟩
   obtain ⟨x', hx2⟩ : ∃ y : RN × RN, y = s (k + 1) := ⟨_, rfl⟩
   obtain ⟨y, hy⟩ : ∃ y : RN × RN, y = t k := ⟨_, rfl⟩
   rw [<- hx2] at hnx0 ca
   rw [<- hx1] at hs1 ca
   rw [<- hy] at ca cc
   subst hs1
   cbv
   refine bT l1 ?_
   refine ⟨_, hS.call (cc), ?_⟩
   cbv
   refine ⟨_, hS.call (ca), ?_⟩
   cbv
   refine againR [(4, 4), (9, 9)] (s' := sumESt P f N x' K') (k := m - 1) ?_ ?_ ?_ ?_ rfl (by show 4 <= 10; omega) hmm0 hnx0
   ·simp [leTR, sumESt, mkSt, vi, vb, AV.ren, AV.noTup, Cell.ren, renF, k0]
   ·simp [leHR, sumESt, mkSt, Abs.look, renF, Blk.ren, Cell.ren, b8, row2, RN.row, rawZc]
   ·simp [liveR, sumESt, mkSt, renF]
   ·simp
def sumVSt (P : Abs.Rows) (f : RN × RN) (N : Int) (x : RN × RN) (I : Int) : St := mkSt 20 [vi .i64 N, .c (.clo 108 [(2, 0, 0), (3, 0, 0)]), .junk, .junk, .c (.ptr 4 0 0), .c (.ptr 9 0 0), .junk, .junk, .junk, vi .i64 N, vi .i64 I] [none, none, some (.var [.t (.lst false P)]), some (.var ((row2 f).map .t)), some (.var (rawZc ++ rawZc)), none, none, none, none, some (.var ((row2 x).map .t))]
theorem sumV_walk (P : Abs.Rows) (f : RN × RN) (n : Nat) (hn2 : n <= 1000) (N : Int) (hN : N = n) (z : RN) (s t : Nat -> RN × RN) (h0 : ACall Tryz.prog 94 [.val (ti .i64 0)] ⟨[.val (.agg z.row)], [none]⟩) (hs : s 0 = (z, z)) (hc : ∀ (k : Nat) (K : Int), k < n -> K = k -> ACall Tryz.prog 108 [.val (ti .i64 K), .ref [.lst false P], .ref (row2 f)] ⟨[.val (.agg (row2 (t k)))], [none, some (.var [.t (.lst false P)]), some (.var ((row2 f).map .t))]⟩) (ha : ∀ k, k < n -> ACall Tryz.prog 72 [.val (.agg (row2 (s k))), .val (.agg (row2 (t k)))] ⟨[.val (.agg (row2 (s (k + 1))))], [none, none]⟩) :
  ACall Tryz.prog 88 [.val (ti .i64 N), .clo 108 [(2, 0, 0), (3, 0, 0)], .gh [.lst false P], .gh (row2 f)] ⟨[.val (.agg (row2 (s n)))], [none, none, some (.var [.t (.lst false P)]), some (.var ((row2 f).map .t))]⟩ := by
 have cpz := point_call z
 refine callZ ccOk mixed [.val] Tryz.func88 rfl rfl (by kernel_rfl) fun zA zB zC zD zE zF zG zH zI zJ zK zL zM zN zO zP zQ zR zS zT zU zV zX zY zZ za zb zc zd ze zg zh zi zk zl zm zn zo zq zr zs zt zu zw zx zy zz zW zth A L F hS hF => ?_
 cbv
 refine ⟨_, hS.call (h0), ?_⟩
 cbv
 refine ⟨_, hS.call (cpz), ?_⟩
 cbv
 have hN : N = (n : Int) := hN
 refine loopZR ccOk mixed hS (fun (m : Nat) s' => ∃ (k : Nat) (K : Int), K = k /\ m + k = n /\ s' = sumVSt P f N (s k) K) (n := n) (s0 := sumVSt P f N (z, z) 0) (qaq ?_ ?_) rfl (by show 4 <= 10; omega) ?_ ?_
 ·simp [leT, sumVSt, mkSt, vi, vb]
 ·simp [leH, sumVSt, mkSt, row2, row2, RN.row, rawZc]
 ·exact ⟨0, 0, rfl, by omega, by rw [hs]⟩
 ·rintro m sx ⟨k, K, hK, hm, hs1⟩
  by_cases hkn : k = n
  ·have l1 : zO K N = false := by rw [hS.lt]; exact decide_eq_false (by omega)
   rw [hkn] at hs1
   subst hs1
   cbv
   refine bF l1 ?_
   exact hF _ (ResLe.refl _)
  ·have l1 : zO K N = true := by rw [hS.lt]; exact decide_eq_true (by omega)
   have cc := hc k K (by omega) hK
   have ca := ha k (by omega)
   obtain ⟨K', hK', k0⟩ : ∃ I' : Int, I' = ((k + 1 : Nat) : Int) /\ zA .i64 (zB K 1) = I' := ⟨K + 1, by omega, by rw [hS.add, hS.wrap, wrap_i64 (by omega) (by omega)]⟩
   have hmm0 : m - 1 < m := by omega
   have hnx0 : ∃ (kz : Nat) (Kz : Int), Kz = kz /\ m - 1 + kz = n /\ sumVSt P f N (s (k + 1)) K' = sumVSt P f N (s kz) Kz := ⟨k + 1, K', hK', by omega, rfl⟩
   obtain ⟨x, hx1⟩ : ∃ y : RN × RN, y = s k := ⟨_, rfl⟩
   obtain ⟨x', hx2⟩ : ∃ y : RN × RN, y = s (k + 1) := ⟨_, rfl⟩
   obtain ⟨y, hy⟩ : ∃ y : RN × RN, y = t k := ⟨_, rfl⟩
   rw [<- hx2] at hnx0 ca
   rw [<- hx1] at hs1 ca
   rw [<- hy] at ca cc
   subst hs1
   cbv
   refine bT l1 ?_
   refine ⟨_, hS.call (cc), ?_⟩
   cbv
   refine ⟨_, hS.call (ca), ?_⟩
   cbv
   refine againR [(4, 4), (9, 9)] (s' := sumVSt P f N x' K') (k := m - 1) ?_ ?_ ?_ ?_ rfl (by show 4 <= 10; omega) hmm0 hnx0
   ·simp [leTR, sumVSt, mkSt, vi, vb, AV.ren, AV.noTup, Cell.ren, renF, k0]
   ·simp [leHR, sumVSt, mkSt, Abs.look, renF, Blk.ren, Cell.ren, row2, row2, RN.row, rawZc]
   ·simp [liveR, sumVSt, mkSt, renF]
   ·simp
theorem ieval_walk (P : Abs.Rows) (f : Nat -> RN × RN) (n : Nat) (R : RN × RN) (hn : P.length = n) (h : ACall Tryz.prog 88 [.val (ti .i64 n), .clo 86 [(2, 0, 0), (3, 0, 0)], .gh [.lst false P], .gh (b8 f)] ⟨[.val (.agg (row2 R))], [none, none, some (.var [.t (.lst false P)]), some (.var ((b8 f).map .t))]⟩) : ACall Tryz.prog 39 [.val (tl P), .val (.agg (b8 f))] ⟨[.val (.agg (row2 R))], [none, none]⟩ := by
 refine callZ ccOk mixed [.val] Tryz.func39 rfl rfl (by kernel_rfl) fun zA zB zC zD zE zF zG zH zI zJ zK zL zM zN zO zP zQ zR zS zT zU zV zX zY zZ za zb zc zd ze zg zh zi zk zl zm zn zo zq zr zs zt zu zw zx zy zz zW zth A L F hS hF => ?_
 have j : zY (zh P) = n := by rw [hS.ofN, hS.len, hn]
 cbv
 rw [j]
 refine ⟨_, hS.call (h), ?_⟩
 cbv
 exact hF _ (ResLe.refl _)
theorem ivalue_walk (P : Abs.Rows) (f : RN × RN) (n : Nat) (R : RN × RN) (hn : P.length = n) (h : ACall Tryz.prog 88 [.val (ti .i64 n), .clo 108 [(2, 0, 0), (3, 0, 0)], .gh [.lst false P], .gh (row2 f)] ⟨[.val (.agg (row2 R))], [none, none, some (.var [.t (.lst false P)]), some (.var ((row2 f).map .t))]⟩) : ACall Tryz.prog 52 [.val (tl P), .val (.agg (row2 f))] ⟨[.val (.agg (row2 R))], [none, none]⟩ := by
 refine callZ ccOk mixed [.val] Tryz.func52 rfl rfl (by kernel_rfl) fun zA zB zC zD zE zF zG zH zI zJ zK zL zM zN zO zP zQ zR zS zT zU zV zX zY zZ za zb zc zd ze zg zh zi zk zl zm zn zo zq zr zs zt zu zw zx zy zz zW zth A L F hS hF => ?_
 have j : zY (zh P) = n := by rw [hS.ofN, hS.len, hn]
 cbv
 rw [j]
 refine ⟨_, hS.call (h), ?_⟩
 cbv
 exact hF _ (ResLe.refl _)
theorem valcl_walk (P : Abs.Rows) (k : Nat) (K : Int) (hK : K = k) (f : RN × RN) (c : RN) (pw y : RN × RN) (hx : P[k]? = some c.row) (hp : ACall Tryz.prog 75 [.val (.agg (row2 f)), .val (ti .i64 K)] ⟨[.val (.agg (row2 pw))], [none, none]⟩)
  (hmul : ACall Tryz.prog 74 [.val (.agg (row2 (c, c))), .val (.agg (row2 pw))] ⟨[.val (.agg (row2 y))], [none, none]⟩) :
  ACall Tryz.prog 108 [.val (ti .i64 K), .ref [.lst false P], .ref (row2 f)] ⟨[.val (.agg (row2 y))], [none, some (.var [.t (.lst false P)]), some (.var ((row2 f).map .t))]⟩ := by
 have cpk := point_call c
 refine callZ ccOk mixed [.val] Tryz.func108 rfl rfl (by kernel_rfl) fun zA zB zC zD zE zF zG zH zI zJ zK zL zM zN zO zP zQ zR zS zT zU zV zX zY zZ za zb zc zd ze zg zh zi zk zl zm zn zo zq zr zs zt zu zw zx zy zz zW zth A L F hS hF => ?_
 have j1 : zV K = k := by rw [hS.nat]; omega
 have j2 : zi P k = some c.row := by rw [hS.nth]; exact hx
 have n0 : zP 0 K = true := by rw [hS.le]; exact decide_eq_true (by omega)
 cbv
 rw [j1, j2]
 cbv
 refine nd (n0) ?_
 refine ⟨_, hS.call (cpk), ?_⟩
 cbv
 refine ⟨_, hS.call (hp), ?_⟩
 cbv
 refine ⟨_, hS.call (hmul), ?_⟩
 cbv
 exact hF _ (ResLe.refl _)
def vaSt (P : Abs.Rows) (f x : RN × RN) (K : Int) : St := mkSt 27 [.c (.t (.lst false P)), .junk, .junk, .c (.ptr 2 0 0), .c (.ptr 3 0 0), .c (.ptr 8 0 0), vi .i64 K] [none, none, some (.var ((row2 f).map .t)), some (.var (rawZc ++ rawZc)), none, none, none, none, some (.var ((row2 x).map .t))]
theorem revalue_walk (P : Abs.Rows) (n : Nat) (hn : P.length = n) (hn2 : n <= 1000) (f : RN × RN) (c : Nat -> RN) (z : RN) (pw t s : Nat -> RN × RN) (h0 : ACall Tryz.prog 29 [.val (ti .i64 0)] ⟨[.val (.agg z.row)], [none]⟩) (hs : s 0 = (z, z)) (hx : ∀ k, k < n -> P[k]? = some (c k).row) (hp : ∀ (k : Nat) (K : Int), k < n -> K = k -> ACall Tryz.prog 27 [.val (.agg (row2 f)), .val (ti .i64 K)] ⟨[.val (.agg (row2 (pw k)))], [none, none]⟩)
  (hmul : ∀ k, k < n -> ACall Tryz.prog 25 [.val (.agg (row2 (c k, c k))), .val (.agg (row2 (pw k)))] ⟨[.val (.agg (row2 (t k)))], [none, none]⟩) (ha : ∀ k, k < n -> ACall Tryz.prog 21 [.val (.agg (row2 (s k))), .val (.agg (row2 (t k)))] ⟨[.val (.agg (row2 (s (k + 1))))], [none, none]⟩) :
  ACall Tryz.prog 55 [.val (tl P), .val (.agg (row2 f))] ⟨[.val (.agg (row2 (s n)))], [none, none]⟩ := by
 have cpz := rpoint_call z
 refine callZ ccOk mixed [.val] Tryz.func55 rfl rfl (by kernel_rfl) fun zA zB zC zD zE zF zG zH zI zJ zK zL zM zN zO zP zQ zR zS zT zU zV zX zY zZ za zb zc zd ze zg zh zi zk zl zm zn zo zq zr zs zt zu zw zx zy zz zW zth A L F hS hF => ?_
 obtain ⟨N, hN, hN2⟩ : ∃ N : Int, N = n /\ zY (zh P) = N := ⟨_, rfl, by rw [hS.ofN, hS.len, hn]⟩
 cbv
 refine ⟨_, hS.call (h0), ?_⟩
 cbv
 refine ⟨_, hS.call (cpz), ?_⟩
 cbv
 have hN : N = (n : Int) := hN
 refine loopZR ccOk mixed hS (fun (m : Nat) s' => ∃ (k : Nat) (K : Int), K = k /\ m + k = n /\ s' = vaSt P f (s k) K) (n := n) (s0 := vaSt P f (z, z) 0) (qaq ?_ ?_) rfl (by show 2 <= 9; omega) ?_ ?_
 ·simp [leT, vaSt, mkSt, vi, vb]
 ·simp [leH, vaSt, mkSt, row2, RN.row, rawZc]
 ·exact ⟨0, 0, rfl, by omega, by rw [hs]⟩
 ·rintro m sx ⟨k, K, hK, hm, hs1⟩
  by_cases hkn : k = n
  ·have l1 : zO K (zY (zh P)) = false := by rw [hN2, hS.lt]; exact decide_eq_false (by omega)
   rw [hkn] at hs1
   subst hs1
   cbv
   refine bF l1 ?_
   exact hF _ (ResLe.refl _)
  ·have l1 : zO K (zY (zh P)) = true := by rw [hN2, hS.lt]; exact decide_eq_true (by omega)
   have j1 : zV K = k := by rw [hS.nat]; omega
   have j2 : zi P k = some (c k).row := by rw [hS.nth]; exact hx k (by omega)
   have n0 : zP 0 K = true := by rw [hS.le]; exact decide_eq_true (by omega)
   have cp := hp k K (by omega) hK
   have cm := hmul k (by omega)
   have ca := ha k (by omega)
   have cpk := rpoint_call (c k)
   obtain ⟨K', hK', k0⟩ : ∃ I' : Int, I' = ((k + 1 : Nat) : Int) /\ zA .i64 (zB K 1) = I' := ⟨K + 1, by omega, by rw [hS.add, hS.wrap, wrap_i64 (by omega) (by omega)]⟩
   have hmm0 : m - 1 < m := by omega
   have hnx0 : ∃ (kz : Nat) (Kz : Int), Kz = kz /\ m - 1 + kz = n /\ vaSt P f (s (k + 1)) K' = vaSt P f (s kz) Kz := ⟨k + 1, K', hK', by omega, rfl⟩
   obtain ⟨x, hx1⟩ : ∃ y : RN × RN, y = s k := ⟨_, rfl⟩
   obtain ⟨x', hx2⟩ : ∃ y : RN × RN, y = s (k + 1) := ⟨_, rfl⟩
   obtain ⟨y, hy⟩ : ∃ y : RN × RN, y = t k := ⟨_, rfl⟩
   obtain ⟨w, hw⟩ : ∃ y : RN × RN, y = pw k := ⟨_, rfl⟩
   obtain ⟨d, hd⟩ : ∃ d : RN, d = c k := ⟨_, rfl⟩
   rw [<- hx2] at hnx0
   rw [<- hx1] at hs1
   simp only [<- hy, <- hw, <- hx1, <- hx2, <- hd] at cp cm ca cpk j2
   subst hs1
   cbv
   refine bT l1 ?_
   rw [j1, j2]
   cbv
   refine nd (n0) ?_
   refine ⟨_, hS.call (cpk), ?_⟩
   cbv
   refine ⟨_, hS.call (cp), ?_⟩
   cbv
   refine ⟨_, hS.call (cm), ?_⟩
   cbv
   refine ⟨_, hS.call (ca), ?_⟩
   cbv
   refine againR [(2, 2), (3, 3), (8, 8)] (s' := vaSt P f x' K') (k := m - 1) ?_ ?_ ?_ ?_ rfl (by show 2 <= 9; omega) hmm0 hnx0
   ·simp [leTR, vaSt, mkSt, vi, vb, AV.ren, AV.noTup, Cell.ren, renF, k0]
   ·simp [leHR, vaSt, mkSt, Abs.look, renF, Blk.ren, Cell.ren, row2, RN.row, rawZc]
   ·simp [liveR, vaSt, mkSt, renF]
   ·simp
open Go Go.Abs Go.Abs.M Go.Proofs
def mix {α : Type} (i : Nat) (a b : Nat -> α) (j : Nat) : α := if j < i then a j else b j
def rawB : List Cell := rawZc ++ rawZc ++ rawZc ++ rawZc ++ rawZc ++ rawZc ++ rawZc ++ rawZc
def bxSt (x : Nat -> RI) (b c : Nat -> RN × RN) (i : Nat) (I : Int) : St := mkSt 17 [.junk, .c (.ptr 1 0 0), .c (.ptr 2 0 0), .c (.ptr 5 0 0), vi .i64 I] [none, some (.var (((x 0).row ++ (x 1).row ++ (x 2).row ++ (x 3).row).map .t)), some (.var (rawB ++ rawB)), none, none, some (.var ((b8 (mix i b c)).map .t))]
theorem rbox_walk (x : Nat -> RI) (c b : Nat -> RN × RN) (h0 : ACall Tryz.prog 58 [] ⟨[.val (.agg (b8 c))], []⟩) (hm : ∀ i, i < 4 -> ACall Tryz.prog 12 [.val (.agg (x i).row)] ⟨[.val (.agg (row2 (b i)))], [none]⟩) : ACall Tryz.prog 36 [.val (.agg ((x 0).row ++ (x 1).row ++ (x 2).row ++ (x 3).row))] ⟨[.val (.agg (b8 (mix 4 b c)))], [none]⟩ := by
 refine callZ ccOk mixed [.val] Tryz.func36 rfl rfl (by kernel_rfl) fun zA zB zC zD zE zF zG zH zI zJ zK zL zM zN zO zP zQ zR zS zT zU zV zX zY zZ za zb zc zd ze zg zh zi zk zl zm zn zo zq zr zs zt zu zw zx zy zz zW zth A L F hS hF => ?_
 cbv
 refine ⟨_, hS.call (h0), ?_⟩
 cbv
 refine loopZR ccOk mixed hS (fun (m : Nat) s' => ∃ (i : Nat) (I : Int), I = i /\ m + i = 4 /\ s' = bxSt x b c i I) (n := 4) (s0 := bxSt x b c 0 0) (qaq ?_ ?_) rfl (by show 1 <= 6; omega) ?_ ?_
 ·simp [leT, bxSt, mkSt, vi, vb]
 ·simp [leH, bxSt, mkSt, mix, b8, pt8, row2, RN.row, rawB, rawZc, zbx, blk, rawZ, RI.row]
 ·exact ⟨0, 0, rfl, rfl, rfl⟩
 ·rintro m sx ⟨i, I, hI, him, hs1⟩
  by_cases hi : i = 4
  ·obtain rfl : I = 4 := by omega
   subst hi
   have l1 : zO 4 4 = false := by rw [hS.lt]; rfl
   subst hs1
   cbv
   refine bF l1 ?_
   exact hF _ (ResLe.refl _)
  ·have him4 : i < 4 := by omega
   obtain ⟨I', hI'⟩ : ∃ I' : Int, I' = ((i + 1 : Nat) : Int) := ⟨_, rfl⟩
   have l1 : zO I 4 = true := by rw [hS.lt]; exact decide_eq_true (by omega)
   have i1 : zA .i64 (zB I 1) = I' := by rw [hS.add, hS.wrap, wrap_i64 (by omega) (by omega)]; omega
   have hmm : m - 1 < m := by omega
   have cm := hm i him4
   have hnx : ∃ (j : Nat) (J : Int), J = j /\ m - 1 + j = 4 /\ bxSt x b c (i + 1) I' = bxSt x b c j J := ⟨i + 1, I', hI', by omega, rfl⟩
   obtain rfl | rfl | rfl | rfl : i = 0 ∨ i = 1 ∨ i = 2 ∨ i = 3 := by omega
   all_goals
    simp at hI hI'
    subst hI hI' hs1
    cbv
    refine bT l1 ?_
    refine ⟨_, hS.call (cm), ?_⟩
    cbv
    refine againR [(1, 1), (2, 2), (5, 5)] (k := m - 1) ?_ ?_ ?_ ?_ rfl (by show 1 <= 6; omega) hmm hnx
    ·simp [leTR, bxSt, mkSt, vi, AV.ren, AV.noTup, Cell.ren, renF, i1]
    ·simp [leHR, bxSt, mkSt, Abs.look, renF, Blk.ren, Cell.ren, mix, b8, pt8, row2, RN.row, rawB, rawZc, zbx, blk, rawZ, RI.row]
    ·simp [liveR, bxSt, mkSt, renF]
    ·simp
def ceSt (b : Nat -> RN × RN) (c : Nat -> RN) (i : Nat) (I : Int) : St := mkSt 17 [.junk, .c (.ptr 1 0 0), .c (.ptr 2 0 0), .c (.ptr 3 0 0), vi .i64 I] [none, some (.var ((b8 b).map .t)), some (.var rawB), some (.var ((zbx i (fun j => (c j).row) (fun _ => rawZ)).map .t))]
theorem rcenter_walk (b : Nat -> RN × RN) (c : Nat -> RN) (hm : ∀ i, i < 8 -> ACall Tryz.prog 136 [.val (.agg (row2 (b i)))] ⟨[.val (.agg (c i).row)], [none]⟩) : ACall Tryz.prog 89 [.val (.agg (b8 b))] ⟨[.val (.agg (pt8 c))], [none]⟩ := by
 refine callZ ccOk mixed [.val] Tryz.func89 rfl rfl (by kernel_rfl) fun zA zB zC zD zE zF zG zH zI zJ zK zL zM zN zO zP zQ zR zS zT zU zV zX zY zZ za zb zc zd ze zg zh zi zk zl zm zn zo zq zr zs zt zu zw zx zy zz zW zth A L F hS hF => ?_
 cbv
 refine loopZR ccOk mixed hS (fun (m : Nat) s' => ∃ (i : Nat) (I : Int), I = i /\ m + i = 8 /\ s' = ceSt b c i I) (n := 8) (s0 := ceSt b c 0 0) (qaq ?_ ?_) rfl (by show 1 <= 4; omega) ?_ ?_
 ·simp [leT, ceSt, mkSt, vi, vb]
 ·simp [leH, ceSt, mkSt, mix, b8, pt8, row2, RN.row, rawB, rawZc, zbx, blk, rawZ, RI.row]
 ·exact ⟨0, 0, rfl, rfl, rfl⟩
 ·rintro m sx ⟨i, I, hI, him, hs1⟩
  by_cases hi : i = 8
  ·obtain rfl : I = 8 := by omega
   subst hi
   have l1 : zO 8 8 = false := by rw [hS.lt]; rfl
   subst hs1
   cbv
   refine bF l1 ?_
   exact hF _ (ResLe.refl _)
  ·have him4 : i < 8 := by omega
   obtain ⟨I', hI'⟩ : ∃ I' : Int, I' = ((i + 1 : Nat) : Int) := ⟨_, rfl⟩
   have l1 : zO I 8 = true := by rw [hS.lt]; exact decide_eq_true (by omega)
   have i1 : zA .i64 (zB I 1) = I' := by rw [hS.add, hS.wrap, wrap_i64 (by omega) (by omega)]; omega
   have hmm : m - 1 < m := by omega
   have cm := hm i him4
   have hnx : ∃ (j : Nat) (J : Int), J = j /\ m - 1 + j = 8 /\ ceSt b c (i + 1) I' = ceSt b c j J := ⟨i + 1, I', hI', by omega, rfl⟩
   obtain rfl | rfl | rfl | rfl | rfl | rfl | rfl | rfl : i = 0 ∨ i = 1 ∨ i = 2 ∨ i = 3 ∨ i = 4 ∨ i = 5 ∨ i = 6 ∨ i = 7 := by omega
   all_goals
    simp at hI hI'
    subst hI hI' hs1
    cbv
    refine bT l1 ?_
    refine ⟨_, hS.call (cm), ?_⟩
    cbv
    refine againR [(1, 1), (2, 2), (3, 3)] (k := m - 1) ?_ ?_ ?_ ?_ rfl (by show 1 <= 4; omega) hmm hnx
    ·simp [leTR, ceSt, mkSt, vi, AV.ren, AV.noTup, Cell.ren, renF, i1]
    ·simp [leHR, ceSt, mkSt, Abs.look, renF, Blk.ren, Cell.ren, mix, b8, pt8, row2, RN.row, rawB, rawZc, zbx, blk, rawZ, RI.row]
    ·simp [liveR, ceSt, mkSt, renF]
    ·simp
def ptSt (a : Nat -> Int) (b : Nat -> RN × RN) (p c : Nat -> RN) (i : Nat) (I : Int) : St := mkSt 23 [.junk, .junk, .c (.ptr 2 0 0), .c (.ptr 3 0 0), .c (.ptr 4 0 0), .c (.ptr 7 0 0), vi .i64 I] [none, none, some (.var ((b8 b).map .t)), some (.var [.t (.v (.int .u8 (a 0))), .t (.v (.int .u8 (a 1))), .t (.v (.int .u8 (a 2))), .t (.v (.int .u8 (a 3)))]), some (.var rawB), none, none, some (.var ((pt8 (mix i p c)).map .t))]
theorem lpoint_walk (a : Nat -> Int) (b : Nat -> RN × RN) (c p : Nat -> RN) (hc : ACall Tryz.prog 89 [.val (.agg (b8 b))] ⟨[.val (.agg (pt8 c))], [none]⟩) (hm : ∀ i, i < 4 -> ACall Tryz.prog 28 [.val (.agg (row2 (b i))), .val (ti .u8 (a i))] ⟨[.val (.agg (p i).row)], [none, none]⟩) : ACall Tryz.prog 50 [.val (.agg (b8 b)), .val (.agg [.v (.int .u8 (a 0)), .v (.int .u8 (a 1)), .v (.int .u8 (a 2)), .v (.int .u8 (a 3))])] ⟨[.val (.agg (pt8 (mix 4 p c)))], [none, none]⟩ := by
 refine callZ ccOk mixed [.val] Tryz.func50 rfl rfl (by kernel_rfl) fun zA zB zC zD zE zF zG zH zI zJ zK zL zM zN zO zP zQ zR zS zT zU zV zX zY zZ za zb zc zd ze zg zh zi zk zl zm zn zo zq zr zs zt zu zw zx zy zz zW zth A L F hS hF => ?_
 cbv
 refine ⟨_, hS.call (hc), ?_⟩
 cbv
 refine loopZR ccOk mixed hS (fun (m : Nat) s' => ∃ (i : Nat) (I : Int), I = i /\ m + i = 4 /\ s' = ptSt a b p c i I) (n := 4) (s0 := ptSt a b p c 0 0) (qaq ?_ ?_) rfl (by show 2 <= 8; omega) ?_ ?_
 ·simp [leT, ptSt, mkSt, vi, vb]
 ·simp [leH, ptSt, mkSt, mix, b8, pt8, row2, RN.row, rawB, rawZc, zbx, blk, rawZ, RI.row]
 ·exact ⟨0, 0, rfl, rfl, rfl⟩
 ·rintro m sx ⟨i, I, hI, him, hs1⟩
  by_cases hi : i = 4
  ·obtain rfl : I = 4 := by omega
   subst hi
   have l1 : zO 4 4 = false := by rw [hS.lt]; rfl
   subst hs1
   cbv
   refine bF l1 ?_
   exact hF _ (ResLe.refl _)
  ·have him4 : i < 4 := by omega
   obtain ⟨I', hI'⟩ : ∃ I' : Int, I' = ((i + 1 : Nat) : Int) := ⟨_, rfl⟩
   have l1 : zO I 4 = true := by rw [hS.lt]; exact decide_eq_true (by omega)
   have i1 : zA .i64 (zB I 1) = I' := by rw [hS.add, hS.wrap, wrap_i64 (by omega) (by omega)]; omega
   have hmm : m - 1 < m := by omega
   have cm := hm i him4
   have hnx : ∃ (j : Nat) (J : Int), J = j /\ m - 1 + j = 4 /\ ptSt a b p c (i + 1) I' = ptSt a b p c j J := ⟨i + 1, I', hI', by omega, rfl⟩
   obtain rfl | rfl | rfl | rfl : i = 0 ∨ i = 1 ∨ i = 2 ∨ i = 3 := by omega
   all_goals
    simp at hI hI'
    subst hI hI' hs1
    cbv
    refine bT l1 ?_
    refine ⟨_, hS.call (cm), ?_⟩
    cbv
    refine againR [(2, 2), (3, 3), (4, 4), (7, 7)] (k := m - 1) ?_ ?_ ?_ ?_ rfl (by show 2 <= 8; omega) hmm hnx
    ·simp [leTR, ptSt, mkSt, vi, AV.ren, AV.noTup, Cell.ren, renF, i1]
    ·simp [leHR, ptSt, mkSt, Abs.look, renF, Blk.ren, Cell.ren, mix, b8, pt8, row2, RN.row, rawB, rawZc, zbx, blk, rawZ, RI.row]
    ·simp [liveR, ptSt, mkSt, renF]
    ·simp
open Go Go.Abs Go.Abs.M Go.Proofs
open Go Go.Abs Go.Abs.M Go.Proofs
structure IsRem (A B Q : List Rat) (c : Rat) (R : List Rat) : Prop where
 tq : ptrim Q = Q
 tr : ptrim R = R
 len : R.length < B.length
 c0 : c ≠ 0
 eq : ∀ x, c * Abs.ev A x = c * Abs.ev Q x * Abs.ev B x + Abs.ev R x
 nil : R = [] -> c = 1
 mon : R ≠ [] -> Mon R
structure EuI (W V : Nat) (A B U N : List Rat) : Prop where
 ta : ptrim A = A
 tb : ptrim B = B
 tu : ptrim U = U
 tn : ptrim N = N
 sz : ∃ s, CF s (fun j => A.getD j 0) /\ CF s (fun j => B.getD j 0) /\ (s + 1) * (A.length + 1 - B.length + 1) * 3 ^ B.length <= W
 szu : ∃ v, CF v (fun j => U.getD j 0) /\ CF v (fun j => N.getD j 0) /\ (v + 4 * W + 4) * 2 ^ B.length <= V
 lu : U.length + (A.length + 1 - B.length) + 2 * B.length <= 200
 ln : N.length + (A.length + 1 - B.length) + 2 * B.length <= 200
 la : A.length <= 200
theorem EuI.next {W V : Nat} {A B U N Q R' N' : List Rat} {c : Rat} (h : EuI W V A B U N) (hB : B ≠ []) (hr : IsRem A B Q c R') (hs : ∃ s, CF s (fun j => R'.getD j 0) /\ CF s (fun j => B.getD j 0) /\ CF s (fun _ => c) /\ CF s (fun j => Q.getD j 0) /\ s <= W /\ (s + 1) * (B.length + 1 - R'.length + 1) * 3 ^ R'.length <= W)
  (hq : Q.length <= A.length + 1 - B.length) (hN : ptrim N' = N') (hl : N'.length <= max U.length (Q.length + N.length - 1)) (hv : ∀ v, CF v (fun j => U.getD j 0) -> CF v (fun j => N.getD j 0) -> CF (2 * v + 4 * W + 1) (fun j => N'.getD j 0)) : EuI W V B R' N N' := by
 obtain ⟨s, s1, s2, s3, s4, s5, s6⟩ := hs
 obtain ⟨v, v1, v2, v3⟩ := h.szu
 have hlt := hr.len
 have a1 := h.lu
 have a2 := h.ln
 have a3 := h.la
 refine ⟨h.tb, hr.tr, h.tn, hN, ⟨s, s2, s1, s6⟩, ⟨2 * v + 4 * W + 1, v2.mono (by omega), hv v v1 v2, ?_⟩, by omega, by omega, by omega⟩
 have e : 2 ^ B.length = 2 * 2 ^ (B.length - 1) := by rw [<- Nat.pow_succ']; congr 1; omega
 have p : 2 ^ R'.length <= 2 ^ (B.length - 1) := Nat.pow_le_pow_right (by omega) (by omega)
 rw [e, <- Nat.mul_assoc] at v3
 exact Nat.le_trans (Nat.mul_le_mul_left _ p) (Nat.le_trans (Nat.mul_le_mul_right _ (by omega)) v3)
open Go Go.Abs Go.Abs.M Go.Proofs
open Go Go.Abs Go.Abs.M Go.Proofs
open Go Go.Abs Go.Abs.M Go.Proofs
def ruevSt (X : Abs.Rows) (s : Bool) (r : Abs.Rows) (t : Bool) (p : Abs.Rows) (s2 : Bool) (r2 : Abs.Rows) (t2 : Bool) (p2 : Abs.Rows) (i : Int) : St := mkSt 24 [.c (.t (.lst false X)), .agg [.t (.v (.bool s)), .t (.lst false r), .t (.v (.bool t)), .t (.lst false p)], .junk, .c (.ptr 2 0 0), .c (.ptr 3 0 0), .c (.ptr 6 0 0), vi .i64 i] [none, none, some (.var [.t (.v (.bool s)), .t (.lst false r), .t (.v (.bool t)), .t (.lst false p)]), some (.var (rawZ.map .t)), none, none, some (.var [.t (.v (.bool s2)), .t (.lst false r2), .t (.v (.bool t2)), .t (.lst false p2)])]
theorem rueval_call (P : List Rat) (x : Rat) (a d : Nat) (hl : P.length <= 1000) (h1 : ∀ q ∈ P, Qs q a) (h2 : Qs x d) (hbd : a + d + 1 <= 67108864) :
  Qs (Abs.ev P x) (1 + P.length * (a + d + 1)) /\ ACall Tryz.prog 56 [.val (tl (ur P)), .val (.agg (qc x).row)] ⟨[.val (.agg (qc (Abs.ev P x)).row)], [none, none]⟩ := by
 have hsz : ∀ m, m <= P.length -> Qs (Abs.ev (P.drop (P.length - m)) x) (1 + m * (a + d + 1)) := fun m => by
  induction m with
  | zero => intro _; rw [Nat.sub_zero, List.drop_length]; exact Qs.zero (by omega)
  | succ m ih =>
   intro hm
   have hd : P.drop (P.length - (m + 1)) = P[P.length - (m + 1)] :: P.drop (P.length - m) := by
    rw [List.drop_eq_getElem_cons (by omega), show P.length - (m + 1) + 1 = P.length - m by omega]
   rw [hd]
   have q1 := add_small (h1 _ (List.getElem_mem (by omega : P.length - (m + 1) < P.length))) (qan h2 (ih (by omega)))
   exact q1.mono (by rw [Nat.succ_mul]; omega)
 have hfin := hsz P.length (Nat.le_refl _)
 rw [Nat.sub_self, List.drop_zero] at hfin
 refine ⟨hfin, ?_⟩
 obtain ⟨n, hn⟩ : ∃ n, n = P.length := ⟨_, rfl⟩
 obtain ⟨X, hX⟩ : ∃ Y, Y = ur P := ⟨_, rfl⟩
 obtain ⟨T, hT⟩ : ∃ T, T = (qc (Abs.ev P x)).row := ⟨_, rfl⟩
 have hXl : X.length = n := by rw [hX, ur_len, hn]
 obtain ⟨s, t, r, p, hrow, hxr⟩ := qrow x
 rw [<- hX, hrow, <- hT]
 have cw := qam 0 (by omega) (by omega)
 obtain ⟨s0, t0, r0, p0, hrow0, hxr0⟩ := qrow 0
 rw [show ((0 : Int) : Rat) = 0 from rfl, hrow0] at cw
 refine callZ ccOk mixed [.val] Tryz.func56 rfl rfl (by kernel_rfl) fun zA zB zC zD zE zF zG zH zI zJ zK zL zM zN zO zP zQ zR zS zT zU zV zX zY zZ za zb zc zd ze zg zh zi zk zl zm zn zo zq zr zs zt zu zw zx zy zz zW zth A L F hS hF => ?_
 have lx : zh X = n := by rw [hS.len, hXl]
 obtain ⟨N, hN, hN2⟩ : ∃ N : Int, N + 1 = n /\ zA .i64 (zC (zY (zh X)) 1) = N := ⟨(n : Int) - 1, by omega, by rw [hS.sub, hS.ofN, lx, hS.wrap, wrap_i64 (by omega) (by omega)]⟩
 cbv
 have hN : N + 1 = (n : Int) := hN
 refine ⟨_, hS.call (cw), ?_⟩
 cbv
 refine loopZ ccOk mixed hS (fun (k : Nat) s' => ∃ (I : Int) (s2 t2 : Bool) (r2 p2 : Abs.Rows), I + 1 = k /\ k <= n /\ (qc (Abs.ev (P.drop k) x)).row = [.v (.bool s2), .lst false r2, .v (.bool t2), .lst false p2] /\ s' = ruevSt X s r t p s2 r2 t2 p2 I) (n := n) (s0 := ruevSt X s r t p s0 r0 t0 p0 N) (qaq ?_ ?_) rfl (by show 2 <= 7; omega) ?_ ?_
 ·simp [leT, ruevSt, mkSt, vi, hN2]
 ·simp [leH, ruevSt, mkSt, rawZ]
 ·exact ⟨N, s0, t0, r0, p0, hN, Nat.le_refl _, by rw [hn, List.drop_length]; exact hrow0, rfl⟩
 ·rintro k s1 ⟨I, s2, t2, r2, p2, hI, hk, hv, hs1⟩
  by_cases hk0 : k = 0
  ·have l1 : zP 0 I = false := by rw [hS.le]; exact decide_eq_false (by omega)
   rw [hk0, List.drop_zero, <- hT] at hv
   subst hv
   subst hs1
   cbv
   refine bF l1 ?_
   exact hF _ (ResLe.refl _)
  ·have l1 : zP 0 I = true := by rw [hS.le]; exact decide_eq_true (by omega)
   obtain ⟨i, hi⟩ : ∃ i, k = i + 1 := ⟨k - 1, by omega⟩
   obtain ⟨c, hc⟩ : ∃ c, c = P.getD i 0 := ⟨_, rfl⟩
   have hPi : P[i]? = some c := by rw [hc, List.getD_eq_getElem?_getD, List.getElem?_eq_getElem (by omega)]; rfl
   have hdr : Abs.ev (P.drop i) x = Abs.ev (P.drop k) x * x + c := by
    have : P.drop i = c :: P.drop k := by
     have h3 := List.getElem?_eq_getElem (l := P) (i := i) (by omega)
     rw [hPi] at h3
     rw [hi, List.drop_eq_getElem_cons (by omega : i < P.length), <- Option.some.inj h3]
    rw [this]; simp only [Abs.ev]; grind
   have hXi : X[i]? = some (qc c).row := by rw [hX]; exact ur_get hPi
   obtain ⟨s4, t4, r4, p4, hrow4, _⟩ := qrow c
   have hb : (n - k) * (a + d + 1) <= 1000 * (a + d + 1) := Nat.mul_le_mul_right _ (by omega)
   have hq1 := hsz (n - k) (by omega)
   rw [show P.length - (n - k) = k by omega] at hq1
   obtain ⟨hq2, cm⟩ := qbf hq1 h2 (by omega)
   obtain ⟨hq3, ca⟩ := rqadd_row hq2 (h1 c (List.mem_of_getElem? hPi)) (by omega)
   rw [<- hdr] at ca
   obtain ⟨s5, t5, r5, p5, hrow5, _⟩ := qrow (Abs.ev (P.drop k) x * x)
   obtain ⟨s6, t6, r6, p6, hrow6, _⟩ := qrow (Abs.ev (P.drop i) x)
   rw [hv, hrow, hrow5] at cm
   rw [hrow5, hrow4, hrow6] at ca
   rw [hrow4] at hXi
   have j1 : zV I = i := by rw [hS.nat]; omega
   have n0 : zP 0 I = true := l1
   have j2 : zi X i = some [.v (.bool s4), .lst false r4, .v (.bool t4), .lst false p4] := by rw [hS.nth]; exact hXi
   obtain ⟨I', hI', i1⟩ : ∃ I' : Int, I' + 1 = (i : Int) /\ zA .i64 (zC I 1) = I' := ⟨I - 1, by omega, by rw [hS.sub, hS.wrap, wrap_i64 (by omega) (by omega)]⟩
   have hmm : i < k := by omega
   have hnx : ∃ (I2 : Int) (s9 t9 : Bool) (r9 p9 : Abs.Rows), I2 + 1 = (i : Int) /\ i <= n /\ (qc (Abs.ev (P.drop i) x)).row = [.v (.bool s9), .lst false r9, .v (.bool t9), .lst false p9] /\ ruevSt X s r t p s6 r6 t6 p6 I' = ruevSt X s r t p s9 r9 t9 p9 I2 := ⟨I', s6, t6, r6, p6, hI', by omega, hrow6, rfl⟩
   subst hs1
   cbv
   refine bT l1 ?_
   refine ⟨_, hS.call (cm), ?_⟩
   cbv
   rw [j1, j2]
   cbv
   refine nd (n0) ?_
   refine ⟨_, hS.call (ca), ?_⟩
   cbv
   exact again (s' := ruevSt X s r t p s6 r6 t6 p6 I') (m := i) (by simp [leT, ruevSt, mkSt, vi, i1]) (by simp [leH, ruevSt, mkSt, rawZ]) rfl (by show 2 <= 7; omega) hmm hnx
open Go Go.Abs Go.Abs.M Go.Proofs
def ri (x : Rat × Rat) : RN × RN := (rc x.1, rc x.2)
def B8 (b : Nat -> Rat × Rat) : List Tree := b8 (fun i => ri (b i))
def P8 (v : Nat -> Rat) : List Tree := pt8 (fun i => rc (v i))
structure BxOk (b : Nat -> Rat × Rat) (q : Nat) : Prop where
 lo : ∀ i, Qs (b i).1 q
 hi : ∀ i, Qs (b i).2 q
 le : ∀ i, (b i).1 <= (b i).2
def bxQ (x : Nat -> RI) (i : Nat) : Rat × Rat := mix 4 (fun j => ((x j).lo, (x j).hi)) (fun _ => (0, 0)) i
theorem bxQ_ok {x : Nat -> RI} (hx : ∀ i, i < 4 -> (x i).ok) : BxOk (bxQ x) 2 := by
 refine ⟨fun i => ?_, fun i => ?_, fun i => ?_⟩ <;> unfold bxQ mix <;> split
 ·exact (x i).lo_qs (hx i (by assumption))
 ·exact Qs.zero (by omega)
 ·exact (x i).hi_qs (hx i (by assumption))
 ·exact Qs.zero (by omega)
 ·exact (x i).le
 ·exact Rat.le_refl
theorem rbox_call (x : Nat -> RI) (hx : ∀ i, i < 4 -> (x i).ok) : ACall Tryz.prog 36 [.val (.agg ((x 0).row ++ (x 1).row ++ (x 2).row ++ (x 3).row))] ⟨[.val (.agg (B8 (bxQ x)))], [none]⟩ :=
 rbox_walk x (fun _ => ri (0, 0)) (fun i => ri ((x i).lo, (x i).hi)) izero_call fun i hi => imade_call (x i) (hx i hi)
def imid (x : Rat × Rat) : Rat := (x.1 + x.2) * (((2 : Int) : Rat))⁻¹
theorem imid_call {x : Rat × Rat} {n : Nat} (h1 : Qs x.1 n) (h2 : Qs x.2 n) (hn : n <= 1000) : Qs (imid x) (n + n + 2) /\ ACall Tryz.prog 136 [.val (.agg (row2 (ri x)))] ⟨[.val (.agg (rc (imid x)).row)], [none]⟩ := by
 obtain ⟨q1, c1⟩ := rqadd_row h1 h2 (by omega)
 have c2 := qam 2 (by omega) (by omega)
 obtain ⟨q3, c3⟩ := rqdiv_row (show (((2 : Int) : Rat)) ≠ 0 by decide) q1 (Qs.whole (n := 2) (k := 1) (by decide) (Nat.le_refl 1)) (by omega)
 refine ⟨q3.mono (by omega), ?_⟩
 clear q1 q3 h1 h2
 change ACall _ _ _ ⟨[.val (.agg (rc (imid x)).row), _], _⟩ at c3
 simp only [rc_row] at c1 c2 c3
 unfold ri
 generalize rc x.1 = X at *
 generalize rc x.2 = Y at *
 generalize rc (x.1 + x.2) = Z at *
 generalize rc ((2 : Int) : Rat) = T at *
 generalize rc (imid x) = M at *
 refine callZ ccOk mixed [.val] Tryz.func136 rfl rfl (by kernel_rfl) fun zA zB zC zD zE zF zG zH zI zJ zK zL zM zN zO zP zQ zR zS zT zU zV zX zY zZ za zb zc zd ze zg zh zi zk zl zm zn zo zq zr zs zt zu zw zx zy zz zW zth A L F hS hF => ?_
 cbv
 refine ⟨_, hS.call (c1), ?_⟩
 cbv
 refine ⟨_, hS.call (c2), ?_⟩
 cbv
 refine ⟨_, hS.call (c3), ?_⟩
 cbv
 exact hF _ (ResLe.refl _)
theorem imid_in {x : Rat × Rat} (h : x.1 <= x.2) : x.1 <= imid x /\ imid x <= x.2 := by
 unfold imid
 have : (((2 : Int) : Rat)) * (((2 : Int) : Rat))⁻¹ = 1 := Rat.mul_inv_cancel _ (by decide)
 have h2 : (((2 : Int) : Rat)) = 2 := rfl
 rw [h2] at this ⊢
 grind
def ptQ (b : Nat -> Rat × Rat) (a : Nat -> Int) (i : Nat) : Rat := mix 4 (fun j => iat (b j).1 (b j).2 (a j)) (fun j => imid (b j)) i
theorem ptQ_in {b : Nat -> Rat × Rat} {a : Nat -> Int} {q : Nat} (hb : BxOk b q) (ha : ∀ i, i < 4 -> 0 <= a i) (i : Nat) : (b i).1 <= ptQ b a i /\ ptQ b a i <= (b i).2 := by
 unfold ptQ mix
 split
 ·exact iat_in (hb.le i) _ (ha i (by assumption))
 ·exact imid_in (hb.le i)
theorem ptQ_qs {b : Nat -> Rat × Rat} {a : Nat -> Int} (hb : BxOk b 2) (ha : ∀ i, i < 4 -> 0 <= a i /\ a i < 256) (i : Nat) : Qs (ptQ b a i) 10 := by
 unfold ptQ mix
 split
 ·rename_i hi
  exact (iat_call (hb.lo i) (hb.hi i) (by omega) (a i) (ha i hi).1 (ha i hi).2).1.mono (by omega)
 ·exact (imid_call (hb.lo i) (hb.hi i) (by omega)).1.mono (by omega)
theorem lpoint_call {b : Nat -> Rat × Rat} {a : Nat -> Int} (hb : BxOk b 2) (ha : ∀ i, i < 4 -> 0 <= a i /\ a i < 256) :
  ACall Tryz.prog 50 [.val (.agg (B8 b)), .val (.agg [.v (.int .u8 (a 0)), .v (.int .u8 (a 1)), .v (.int .u8 (a 2)), .v (.int .u8 (a 3))])] ⟨[.val (.agg (P8 (ptQ b a)))], [none, none]⟩ :=
 lpoint_walk a (fun i => ri (b i)) (fun i => rc (imid (b i))) (fun i => rc (iat (b i).1 (b i).2 (a i)))
  (rcenter_walk (fun i => ri (b i)) (fun i => rc (imid (b i))) fun i _ => (imid_call (hb.lo i) (hb.hi i) (by omega)).2)
  fun i hi => (iat_call (hb.lo i) (hb.hi i) (by omega) (a i) (ha i hi).1 (ha i hi).2).2
theorem mlo_qs {x y z w : Rat} {a b : Nat} (h1 : Qs x a) (h2 : Qs y a) (h3 : Qs z b) (h4 : Qs w b) : Qs (mlo x y z w) (a + b) := rmin_qs (rmin_qs (qan h1 h3) (qan h1 h4)) (rmin_qs (qan h2 h3) (qan h2 h4))
theorem mhi_qs {x y z w : Rat} {a b : Nat} (h1 : Qs x a) (h2 : Qs y a) (h3 : Qs z b) (h4 : Qs w b) : Qs (mhi x y z w) (a + b) := rmax_qs (rmax_qs (qan h1 h3) (qan h1 h4)) (rmax_qs (qan h2 h3) (qan h2 h4))
theorem pw_qs {x : Rat} {a : Nat} (h1 : Qs x a) : ∀ m, Qs (x ^ m) (1 + m * a)
 | 0 => by rw [Rat.pow_zero]; exact (Qs.whole (n := 1) (by decide) (Nat.le_refl 1)).mono (by omega)
 | m + 1 => by rw [Rat.pow_succ]; exact (qan (pw_qs h1 m) h1).mono (by rw [Nat.succ_mul]; omega)
theorem pwlo_qs {x y : Rat} {a k : Nat} (h1 : Qs x a) (h2 : Qs y a) (hk : k <= 4) : Qs (pwlo x y k) (1 + 4 * a) := by
 have h := Nat.mul_le_mul_right a hk
 unfold pwlo
 split
 ·exact Qs.zero (by omega)
 ·exact rmin_qs ((pw_qs h1 k).mono (by omega)) ((pw_qs h2 k).mono (by omega))
theorem pwhi_qs {x y : Rat} {a k : Nat} (h1 : Qs x a) (h2 : Qs y a) (hk : k <= 4) : Qs (pwhi x y k) (1 + 4 * a) := by
 have h := Nat.mul_le_mul_right a hk
 exact rmax_qs ((pw_qs h1 k).mono (by omega)) ((pw_qs h2 k).mono (by omega))
def tmI (t : TM8) (b : Nat -> Rat × Rat) : Nat -> Rat × Rat := tI t.c (fun i => (b i).1) (fun i => (b i).2) t.n
def evI (R : List TM8) (b : Nat -> Rat × Rat) : Nat -> Rat × Rat := sumI (fun k => tmI (R.getD k ⟨0, 0, 0, 0, 0, 0, 0, 0, 0⟩) b 8)
theorem tmI_qs {t : TM8} {b : Nat -> Rat × Rat} {q m : Nat} (ht : t.ok m 4) (hb : BxOk b q) : ∀ i, Qs (tmI t b i).1 (m + i * (1 + 4 * q)) /\ Qs (tmI t b i).2 (m + i * (1 + 4 * q))
 | 0 => by rw [Nat.zero_mul]; exact ⟨ht.c, ht.c⟩
 | i + 1 => by
  obtain ⟨h1, h2⟩ := tmI_qs ht hb i
  have h3 := pwlo_qs (hb.lo i) (hb.hi i) (ht.n i).2
  have h4 := pwhi_qs (hb.lo i) (hb.hi i) (ht.n i).2
  rw [Nat.succ_mul, <- Nat.add_assoc]
  exact ⟨mlo_qs h1 h2 h3 h4, mhi_qs h1 h2 h3 h4⟩
theorem sumI_qs {f : Nat -> Rat × Rat} {s : Nat} : ∀ n, (∀ k, k < n -> Qs (f k).1 s /\ Qs (f k).2 s) -> Qs (sumI f n).1 (1 + n * (s + 1)) /\ Qs (sumI f n).2 (1 + n * (s + 1))
 | 0, _ => ⟨Qs.zero (by omega), Qs.zero (by omega)⟩
 | n + 1, h => by
  obtain ⟨h1, h2⟩ := sumI_qs n fun k hk => h k (by omega)
  obtain ⟨h3, h4⟩ := h n (by omega)
  rw [Nat.succ_mul]
  exact ⟨(add_small h1 h3).mono (by omega), (add_small h2 h4).mono (by omega)⟩
theorem sumQ_qs {f : Nat -> Rat} {s : Nat} : ∀ n, (∀ k, k < n -> Qs (f k) s) -> Qs (sumQ f n) (1 + n * (s + 1))
 | 0, _ => Qs.zero (by omega)
 | n + 1, h => by
  have h1 := sumQ_qs n fun k hk => h k (by omega)
  have h3 := h n (by omega)
  rw [Nat.succ_mul]
  exact (add_small h1 h3).mono (by omega)
theorem getD_some {l : List TM8} {k : Nat} (h : k < l.length) : l[k]? = some (l.getD k ⟨0, 0, 0, 0, 0, 0, 0, 0, 0⟩) := by
 rw [List.getD_eq_getElem?_getD, List.getElem?_eq_getElem h]; rfl
section
variable {R : List TM8} {b : Nat -> Rat × Rat} (hR : ∀ t ∈ R, t.ok 15 4) (hl : R.length <= 5) (hb : BxOk b 10)
include hR hl hb
theorem tmI_sz {k : Nat} (hk : k < R.length) (i : Nat) (hi : i <= 8) : Qs (tmI (R.getD k ⟨0, 0, 0, 0, 0, 0, 0, 0, 0⟩) b i).1 343 /\ Qs (tmI (R.getD k ⟨0, 0, 0, 0, 0, 0, 0, 0, 0⟩) b i).2 343 := by
 have ht := hR _ (List.mem_of_getElem? (getD_some hk))
 obtain ⟨h1, h2⟩ := tmI_qs ht hb i
 have := Nat.mul_le_mul_right (1 + 4 * 10) hi
 exact ⟨h1.mono (by omega), h2.mono (by omega)⟩
theorem evI_sz (k : Nat) (hk : k <= R.length) : Qs (evI R b k).1 1721 /\ Qs (evI R b k).2 1721 := by
 obtain ⟨h1, h2⟩ := sumI_qs k (fun j hj => tmI_sz hR hl hb (show j < R.length by omega) 8 (Nat.le_refl 8))
 have := Nat.mul_le_mul_right (343 + 1) (show k <= 5 by omega)
 exact ⟨h1.mono (by omega), h2.mono (by omega)⟩
theorem reveval_call : ACall Tryz.prog 53 [.val (tl (tmr R)), .val (.agg (B8 b))] ⟨[.val (.agg (row2 (ri (evI R b R.length))))], [none, none]⟩ := by
 have cz := qam 0 (by omega) (by omega)
 rw [show ((0 : Int) : Rat) = 0 from rfl, rc_row] at cz
 refine reveval_walk (tmr R) R.length (tmr_len R) (by omega) (fun i => ri (b i)) (fun k => (R.getD k ⟨0, 0, 0, 0, 0, 0, 0, 0, 0⟩).e) (fun k => rc (R.getD k ⟨0, 0, 0, 0, 0, 0, 0, 0, 0⟩).c) (rc 0)
  (fun k i => ri (pwlo (b i).1 (b i).2 ((R.getD k ⟨0, 0, 0, 0, 0, 0, 0, 0, 0⟩).n i), pwhi (b i).1 (b i).2 ((R.getD k ⟨0, 0, 0, 0, 0, 0, 0, 0, 0⟩).n i))) (fun k i => ri (tmI (R.getD k ⟨0, 0, 0, 0, 0, 0, 0, 0, 0⟩) b i)) (fun k => ri (evI R b k)) cz rfl ?_ (fun _ => rfl) ?_ ?_ ?_
 ·intro k hk
  rw [tmr_get (getD_some hk), TM8.row_tr]
 ·intro k hk i hi
  have ht := hR _ (List.mem_of_getElem? (getD_some hk))
  have hn := ht.n i
  have c := (rivpow_call ((R.getD k ⟨0, 0, 0, 0, 0, 0, 0, 0, 0⟩).n i) (by omega) (hb.lo i) (hb.hi i) (by omega)).2.2
  rw [hn.1] at c
  exact c
 ·intro k hk i hi
  have ht := hR _ (List.mem_of_getElem? (getD_some hk))
  have hn := ht.n i
  obtain ⟨h1, h2⟩ := tmI_sz hR hl hb hk i (by omega)
  have h3 := pwlo_qs (hb.lo i) (hb.hi i) hn.2
  have h4 := pwhi_qs (hb.lo i) (hb.hi i) hn.2
  exact (rivmul_call (n := 1000) (h1.mono (by omega)) (h2.mono (by omega)) (h3.mono (by omega)) (h4.mono (by omega)) (by omega)).2.2
 ·intro k hk
  obtain ⟨h1, h2⟩ := tmI_sz hR hl hb hk 8 (Nat.le_refl 8)
  obtain ⟨h3, h4⟩ := evI_sz hR hl hb k (by omega)
  exact (rivadd_call (n := 10000) (h3.mono (by omega)) (h4.mono (by omega)) (h1.mono (by omega)) (h2.mono (by omega)) (by omega)).2.2
theorem iveval_call : ACall Tryz.prog 39 [.val (tl (tmr R)), .val (.agg (B8 b))] ⟨[.val (.agg (row2 (ri (evI R b R.length))))], [none, none]⟩ := by
 have cz := pwhole_row 0 (by omega) (by omega)
 rw [show ((0 : Int) : Rat) = 0 from rfl, rc_row] at cz
 refine ieval_walk (tmr R) (fun i => ri (b i)) R.length (ri (evI R b R.length)) (tmr_len R) ?_
 refine sumE_walk (tmr R) (fun i => ri (b i)) R.length (by omega) _ rfl (rc 0) (fun k => ri (evI R b k)) (fun k => ri (tmI (R.getD k ⟨0, 0, 0, 0, 0, 0, 0, 0, 0⟩) b 8)) cz rfl ?_ ?_
 ·intro k K hk hK
  have ht := hR _ (List.mem_of_getElem? (getD_some hk))
  refine evcl_walk (tmr R) k K hK (fun i => ri (b i)) (R.getD k ⟨0, 0, 0, 0, 0, 0, 0, 0, 0⟩).e (rc (R.getD k ⟨0, 0, 0, 0, 0, 0, 0, 0, 0⟩).c) (fun i => ri (tmI (R.getD k ⟨0, 0, 0, 0, 0, 0, 0, 0, 0⟩) b i))
   (fun i => ri (pwlo (b i).1 (b i).2 ((R.getD k ⟨0, 0, 0, 0, 0, 0, 0, 0, 0⟩).n i), pwhi (b i).1 (b i).2 ((R.getD k ⟨0, 0, 0, 0, 0, 0, 0, 0, 0⟩).n i))) ?_ rfl (fun i _ => ht.e (by decide) i) ?_ ?_ ?_
  ·rw [tmr_get (getD_some hk), TM8.row_tr]
  ·intro i hi h0
   have hn := ht.n i
   show ri (tmI _ b (i + 1)) = ri (tmI _ b i)
   unfold tmI
   rw [tI_skip hb.le i (by omega)]
  ·intro i hi
   have hn := ht.n i
   have c := sppower_call ((R.getD k ⟨0, 0, 0, 0, 0, 0, 0, 0, 0⟩).n i) (by omega) (hb.lo i) (hb.hi i) (by omega)
   rw [hn.1] at c
   exact c
  ·intro i hi
   have hn := ht.n i
   obtain ⟨h1, h2⟩ := tmI_sz hR hl hb hk i (by omega)
   have h3 := pwlo_qs (hb.lo i) (hb.hi i) hn.2
   have h4 := pwhi_qs (hb.lo i) (hb.hi i) hn.2
   exact sptimes_call (n := 1000) (h1.mono (by omega)) (h2.mono (by omega)) (h3.mono (by omega)) (h4.mono (by omega)) (by omega)
 ·intro k hk
  obtain ⟨h1, h2⟩ := tmI_sz hR hl hb hk 8 (Nat.le_refl 8)
  obtain ⟨h3, h4⟩ := evI_sz hR hl hb k (by omega)
  exact (spplus_call (n := 10000) (h3.mono (by omega)) (h4.mono (by omega)) (h1.mono (by omega)) (h2.mono (by omega)) (by omega)).2.2
theorem reval_call {v : Nat -> Rat} (hv : ∀ i, Qs (v i) 10) : Qs (sumQ (fun k => tQ (R.getD k ⟨0, 0, 0, 0, 0, 0, 0, 0, 0⟩).c v (R.getD k ⟨0, 0, 0, 0, 0, 0, 0, 0, 0⟩).n 8) R.length) 1721 /\ ACall Tryz.prog 54 [.val (tl (tmr R)), .val (.agg (P8 v))] ⟨[.val (.agg (rc (sumQ (fun k => tQ (R.getD k ⟨0, 0, 0, 0, 0, 0, 0, 0, 0⟩).c v (R.getD k ⟨0, 0, 0, 0, 0, 0, 0, 0, 0⟩).n 8) R.length)).row)], [none, none]⟩ := by
 have cz := qam 0 (by omega) (by omega)
 rw [show ((0 : Int) : Rat) = 0 from rfl, rc_row] at cz
 have hq : ∀ k, k < R.length -> ∀ i, i <= 8 -> Qs (tQ (R.getD k ⟨0, 0, 0, 0, 0, 0, 0, 0, 0⟩).c v (R.getD k ⟨0, 0, 0, 0, 0, 0, 0, 0, 0⟩).n i) (15 + i * 41) := by
  intro k hk i
  have ht := hR _ (List.mem_of_getElem? (getD_some hk))
  induction i with
  | zero => intro _; rw [Nat.zero_mul]; exact ht.c
  | succ i ih =>
   intro hi
   have hn := (ht.n i).2
   have := Nat.mul_le_mul_right 10 hn
   exact (qan (ih (by omega)) ((pw_qs (hv i) _).mono (b := 41) (by omega))).mono (by rw [Nat.succ_mul]; omega)
 have hq8 : ∀ k, k < R.length -> ∀ i, i <= 8 -> Qs (tQ (R.getD k ⟨0, 0, 0, 0, 0, 0, 0, 0, 0⟩).c v (R.getD k ⟨0, 0, 0, 0, 0, 0, 0, 0, 0⟩).n i) 343 := fun k hk i hi => (hq k hk i hi).mono (by omega)
 have hs : ∀ k, k <= R.length -> Qs (sumQ (fun k => tQ (R.getD k ⟨0, 0, 0, 0, 0, 0, 0, 0, 0⟩).c v (R.getD k ⟨0, 0, 0, 0, 0, 0, 0, 0, 0⟩).n 8) k) 1721 := fun k hk => by
  have h1 := sumQ_qs k (fun j hj => hq8 j (by omega) 8 (Nat.le_refl 8))
  have := Nat.mul_le_mul_right (343 + 1) (show k <= 5 by omega)
  exact h1.mono (by omega)
 refine ⟨hs _ (Nat.le_refl _), ?_⟩
 refine reval_walk (tmr R) R.length (tmr_len R) (by omega) (fun i => rc (v i)) (fun k => (R.getD k ⟨0, 0, 0, 0, 0, 0, 0, 0, 0⟩).e) (fun k i => rc (v i ^ (R.getD k ⟨0, 0, 0, 0, 0, 0, 0, 0, 0⟩).n i)) (fun k i => rc (tQ (R.getD k ⟨0, 0, 0, 0, 0, 0, 0, 0, 0⟩).c v (R.getD k ⟨0, 0, 0, 0, 0, 0, 0, 0, 0⟩).n i)) (fun k => rc (sumQ (fun k => tQ (R.getD k ⟨0, 0, 0, 0, 0, 0, 0, 0, 0⟩).c v (R.getD k ⟨0, 0, 0, 0, 0, 0, 0, 0, 0⟩).n 8) k)) cz ?_ ?_ ?_ ?_
 ·intro k hk
  rw [tmr_get (getD_some hk), TM8.row_tr]; rfl
 ·intro k hk i hi
  have ht := hR _ (List.mem_of_getElem? (getD_some hk))
  have hn := ht.n i
  have c := (rp6power_call (v i) ((R.getD k ⟨0, 0, 0, 0, 0, 0, 0, 0, 0⟩).n i) 10 (by omega) (hv i) (by omega)).2
  rw [hn.1] at c
  exact c
 ·intro k hk i hi
  have ht := hR _ (List.mem_of_getElem? (getD_some hk))
  have hn := (ht.n i).2
  have := Nat.mul_le_mul_right 10 hn
  exact (qbf (hq8 k hk i (by omega)) ((pw_qs (hv i) _).mono (b := 41) (by omega)) (by omega)).2
 ·intro k hk
  exact (rqadd_row (hs k (by omega)) (hq8 k hk 8 (Nat.le_refl 8)) (by omega)).2
end
open Go Go.Abs Go.Abs.M Go.Proofs
def rawI : Shape := .struct [.int .i8, .int .i8, .int .u8]
theorem rawI_ok {ts : List Tree} (h : rawI.ok ts) : ∃ x : RI, ts = x.row /\ x.ok := by
 obtain ⟨_, _, rfl, ⟨a, rfl, ha⟩, _, _, rfl, ⟨b, rfl, hb⟩, _, _, rfl, ⟨c, rfl, hc⟩, rfl⟩ := h
 have ha := bd_i8 ha
 have hb := bd_i8 hb
 have hc := bd_u8 hc
 exact ⟨⟨a, b, c⟩, rfl, ha.1, ha.2, hb.1, hb.2, hc.1, hc.2⟩
open Go Go.Abs Go.Abs.M Go.Proofs
theorem BxOk.mono {b : Nat -> Rat × Rat} {p q : Nat} (h : BxOk b p) (hpq : p <= q) : BxOk b q := ⟨fun i => (h.lo i).mono hpq, fun i => (h.hi i).mono hpq, h.le⟩
theorem raw5_ok : ∀ rows : List (List Tree), (∀ r ∈ rows, (Shape.arr 5 (.int .i8)).ok r) -> ∃ l : List (Nat -> Int), rows = l.map r5 /\ ∀ r ∈ l, ∀ i, i < 5 -> -128 <= r i /\ r i < 128
 | [], _ => ⟨[], rfl, by simp⟩
 | r :: rs, h => by
  obtain ⟨l, h1, h2⟩ := raw5_ok rs fun r hr => h r (List.mem_cons_of_mem _ hr)
  obtain ⟨_, _, rfl, ⟨a, rfl, ha⟩, _, _, rfl, ⟨b, rfl, hb⟩, _, _, rfl, ⟨c, rfl, hc⟩, _, _, rfl, ⟨d, rfl, hd⟩, _, _, rfl, ⟨e, rfl, he⟩, rfl⟩ := h r List.mem_cons_self
  refine ⟨(fun i => match i with | 0 => a | 1 => b | 2 => c | 3 => d | _ => e) :: l, by rw [h1]; rfl, fun r hr i hi => ?_⟩
  rcases List.mem_cons.1 hr with rfl | hr
  ·obtain rfl | rfl | rfl | rfl | rfl : i = 0 ∨ i = 1 ∨ i = 2 ∨ i = 3 ∨ i = 4 := by omega
   ·exact bd_i8 ha
   ·exact bd_i8 hb
   ·exact bd_i8 hc
   ·exact bd_i8 hd
   ·exact bd_i8 he
  ·exact h2 r hr i hi
def raw6 : Shape := .struct [.slice (.arr 5 (.int .i8))]
theorem raw4_ok {ts : List Tree} (h : (Shape.arr 4 rawI).ok ts) : ∃ x : Nat -> RI, ts = (x 0).row ++ (x 1).row ++ (x 2).row ++ (x 3).row /\ ∀ i, i < 4 -> (x i).ok := by
 obtain ⟨_, _, rfl, h0, _, _, rfl, h1, _, _, rfl, h2, _, _, rfl, h3, rfl⟩ := h
 obtain ⟨x0, rfl, hx0⟩ := rawI_ok h0
 obtain ⟨x1, rfl, hx1⟩ := rawI_ok h1
 obtain ⟨x2, rfl, hx2⟩ := rawI_ok h2
 obtain ⟨x3, rfl, hx3⟩ := rawI_ok h3
 refine ⟨fun i => match i with | 0 => x0 | 1 => x1 | 2 => x2 | _ => x3, by simp [RI.row], fun i hi => ?_⟩
 obtain rfl | rfl | rfl | rfl : i = 0 ∨ i = 1 ∨ i = 2 ∨ i = 3 := by omega
 ·exact hx0
 ·exact hx1
 ·exact hx2
 ·exact hx3
theorem at4_ok {ts : List Tree} (h : (Shape.arr 4 (.int .u8)).ok ts) : ∃ a : Nat -> Int, ts = [.v (.int .u8 (a 0)), .v (.int .u8 (a 1)), .v (.int .u8 (a 2)), .v (.int .u8 (a 3))] /\ ∀ i, i < 4 -> 0 <= a i /\ a i < 256 := by
 obtain ⟨_, _, rfl, ⟨a, rfl, ha⟩, _, _, rfl, ⟨b, rfl, hb⟩, _, _, rfl, ⟨c, rfl, hc⟩, _, _, rfl, ⟨d, rfl, hd⟩, rfl⟩ := h
 refine ⟨fun i => match i with | 0 => a | 1 => b | 2 => c | _ => d, rfl, fun i hi => ?_⟩
 obtain rfl | rfl | rfl | rfl : i = 0 ∨ i = 1 ∨ i = 2 ∨ i = 3 := by omega
 ·exact bd_u8 ha
 ·exact bd_u8 hb
 ·exact bd_u8 hc
 ·exact bd_u8 hd
open Go Go.Abs Go.Abs.M Go.Proofs
def ivU (l : List (Nat -> Int)) : List Rat := (l.take 5).map fun r => (((r 0).tmod 4 : Int) : Rat)
def iveSt (T P : Abs.Rows) (b : Nat -> RN × RN) (v : Nat -> RN) (e : RN × RN) (len : Nat) (R : Abs.Rows) (I : Int) : St := mkSt 105 [.junk, .junk, .junk, .c (.ptr 3 0 0), .junk, .junk, .junk, vb true, .c (.t (.lst false P)), .c (.ptr 12 0 0), .c (.ptr 15 0 0), .c (.ptr 18 0 0), .c (.sl 19 0 len false), vi .i64 I] [none, none, none, some (.var [.t (.lst false T)]), none, none, none, none, none, none, none, none, some (.var ((b8 b).map .t)), none, none, some (.var ((pt8 v).map .t)), none, none, some (.var ((row2 e).map .t)), some (.rows 4 R true false)]
def iveSu (P : Abs.Rows) (b : Nat -> RN × RN) (v : Nat -> RN) (e : RN × RN) (len : Nat) (R : Abs.Rows) : St := mkSt 105 [.junk, .junk, .junk, .junk, .junk, .junk, .junk, vb true, .c (.t (.lst false P)), .c (.ptr 12 0 0), .c (.ptr 15 0 0), .c (.ptr 18 0 0), .c (.sl 19 0 len false)] [none, none, none, none, none, none, none, none, none, none, none, none, some (.var ((b8 b).map .t)), none, none, some (.var ((pt8 v).map .t)), none, none, some (.var ((row2 e).map .t)), some (.rows 4 R true false)]
theorem ive_walk (hsan : ACall Tryz.prog 11 [] ⟨[.val (tb true)], []⟩) (l : List (Nat -> Int)) (hl : ∀ r ∈ l, ∀ i, i < 5 -> -128 <= r i /\ r i < 128) (P : Abs.Rows) (x : Nat -> RI) (a : Nat -> Int) (b : Nat -> RN × RN) (v : Nat -> RN) (e : RN × RN)
  (hP : ACall Tryz.prog 35 [.val (.agg [.lst false (l.map r5)]), .val (ti .i64 4), .val (ti .i64 4), .val (ti .i64 5)] ⟨[.val (tl P)], [none, none, none, none]⟩)
  (hb : ACall Tryz.prog 36 [.val (.agg ((x 0).row ++ (x 1).row ++ (x 2).row ++ (x 3).row))] ⟨[.val (.agg (b8 b))], [none]⟩)
  (hv : ACall Tryz.prog 50 [.val (.agg (b8 b)), .val (.agg [.v (.int .u8 (a 0)), .v (.int .u8 (a 1)), .v (.int .u8 (a 2)), .v (.int .u8 (a 3))])] ⟨[.val (.agg (pt8 v))], [none, none]⟩)
  (he : ACall Tryz.prog 39 [.val (tl P), .val (.agg (b8 b))] ⟨[.val (.agg (row2 e))], [none, none]⟩)
  (he2 : ACall Tryz.prog 53 [.val (tl P), .val (.agg (b8 b))] ⟨[.val (.agg (row2 e))], [none, none]⟩) (hse : ACall Tryz.prog 15 [.val (.agg (row2 e)), .val (.agg (row2 e))] ⟨[.val (tb true)], [none, none]⟩)
  (y : RN) (hy : ACall Tryz.prog 54 [.val (tl P), .val (.agg (pt8 v))] ⟨[.val (.agg y.row)], [none, none]⟩) (hey : ACall Tryz.prog 19 [.val (.agg (row2 e)), .val (.agg y.row)] ⟨[.val (tb true)], [none, none]⟩)
  (w : Nat -> RN × RN) (z : Nat -> RN) (hV : ∀ j, j <= 5 -> ACall Tryz.prog 52 [.val (tl (ur ((ivU l).take j))), .val (.agg (row2 (b 0)))] ⟨[.val (.agg (row2 (w j)))], [none, none]⟩) (hV2 : ∀ j, j <= 5 -> ACall Tryz.prog 55 [.val (tl (ur ((ivU l).take j))), .val (.agg (row2 (b 0)))] ⟨[.val (.agg (row2 (w j)))], [none, none]⟩)
  (hsw : ∀ j, j <= 5 -> ACall Tryz.prog 15 [.val (.agg (row2 (w j))), .val (.agg (row2 (w j)))] ⟨[.val (tb true)], [none, none]⟩) (hz : ∀ j, j <= 5 -> ACall Tryz.prog 56 [.val (tl (ur ((ivU l).take j))), .val (.agg (v 0).row)] ⟨[.val (.agg (z j).row)], [none, none]⟩)
  (hwz : ∀ j, j <= 5 -> ACall Tryz.prog 19 [.val (.agg (row2 (w j))), .val (.agg (z j).row)] ⟨[.val (tb true)], [none, none]⟩) :
  ACall Tryz.prog 10 [.val (.agg [.lst false (l.map r5)]), .val (.agg ((x 0).row ++ (x 1).row ++ (x 2).row ++ (x 3).row)), .val (.agg [.v (.int .u8 (a 0)), .v (.int .u8 (a 1)), .v (.int .u8 (a 2)), .v (.int .u8 (a 3))])] ⟨[.val (tb true)], [none, none, none]⟩ := by
 obtain ⟨T, hT⟩ : ∃ T, T = l.map r5 := ⟨_, rfl⟩
 obtain ⟨U, hU⟩ : ∃ U : List Rat, U = ivU l := ⟨_, rfl⟩
 rw [<- hU] at hV hV2 hz
 obtain ⟨X, hX⟩ : ∃ X, X = ur U := ⟨_, rfl⟩
 obtain ⟨n, hn⟩ : ∃ n, n = l.length := ⟨_, rfl⟩
 have lT : T.length = n := by rw [hT, List.length_map, hn]
 have hXl : X.length = min 5 n := by rw [hX, hU, ur_len, ivU, List.length_map, List.length_take, hn]
 rw [<- hT] at hP ⊢
 refine callZ ccOk mixed [.val] Tryz.func10 rfl rfl (by kernel_rfl) fun zA zB zC zD zE zF zG zH zI zJ zK zL zM zN zO zP zQ zR zS zT zU zV zX zY zZ za zb zc zd ze zg zh zi zk zl zm zn zo zq zr zs zt zu zw zx zy zz zW zth A L F hS hF => ?_
 obtain ⟨N, hN, hN2⟩ : ∃ N : Int, N = n /\ zY (zh T) = N := ⟨_, rfl, by rw [hS.ofN, hS.len, lT]⟩
 have b0 : zQ true = false := by rw [hS.not]; rfl
 cbv
 refine ⟨_, hS.call (hsan), ?_⟩
 cbv
 refine bF (b0) ?_
 refine ⟨_, hS.call (hP), ?_⟩
 cbv
 refine ⟨_, hS.call (hb), ?_⟩
 cbv
 refine ⟨_, hS.call (hv), ?_⟩
 cbv
 refine ⟨_, hS.call (he), ?_⟩
 cbv
 have hN : N = (n : Int) := hN
 refine loopZR ccOk mixed hS (fun (m : Nat) s' => ∃ (k : Nat) (K : Int) (R : Abs.Rows) (len : Nat), K = k /\ m + k = 5 /\ k <= n /\ len = k /\ R = X.take k /\ s' = iveSt T P b v e len R K) (n := 5) (s0 := iveSt T P b v e 0 [] 0) (qaq ?_ ?_) rfl (by show 3 <= 20; omega) ?_ ?_
 ·simp [leT, iveSt, mkSt, vi, vb]
 ·simp [leH, iveSt, mkSt, b8, pt8, row2, RN.row]
 ·exact ⟨0, 0, [], 0, rfl, by omega, by omega, rfl, by simp, rfl⟩
 ·rintro m sx ⟨k, K, R, len, hK, hm, hk, hlen, hR, hs1⟩
  by_cases hend : k < n /\ k < 5
  ·have c1 : zO K (zY (zh T)) = true := by rw [hN2, hS.lt]; exact decide_eq_true (by omega)
   have c2 : zO K 5 = true := by rw [hS.lt]; exact decide_eq_true (by omega)
   obtain ⟨r, hr⟩ : ∃ r, l[k]? = some r := ⟨_, List.getElem?_eq_getElem (by omega)⟩
   have hro := hl r (List.mem_of_getElem? hr)
   have hTk : T[k]? = some [.v (.int .i8 (r 0)), .v (.int .i8 (r 1)), .v (.int .i8 (r 2)), .v (.int .i8 (r 3)), .v (.int .i8 (r 4))] := by rw [hT, List.getElem?_map, hr]; rfl
   have j1 : zV K = k := by rw [hS.nat]; omega
   have j2 : zi T k = some [.v (.int .i8 (r 0)), .v (.int .i8 (r 1)), .v (.int .i8 (r 2)), .v (.int .i8 (r 3)), .v (.int .i8 (r 4))] := by rw [hS.nth]; exact hTk
   have n0 : zP 0 K = true := by rw [hS.le]; exact decide_eq_true (by omega)
   have y0 : zX 0 5 = true := by rw [hS.inb]; rfl
   have y1 : zZ 0 0 = 0 := by rw [hS.idx]; rfl
   obtain ⟨R0, hR0⟩ : ∃ R0, R0 = (r 0).tmod 4 := ⟨_, rfl⟩
   have hR4 := tmod4 (r 0)
   rw [<- hR0] at hR4
   have y2 : zA .i64 (zF (r 0) 4) = R0 := by rw [hS.rem, hS.wrap, <- hR0, wrap_i64 (by omega) (by omega)]
   obtain ⟨d, hd⟩ : ∃ d, d = rc ((R0 : Int) : Rat) := ⟨_, rfl⟩
   have cw := qam R0 (by omega) (by omega)
   rw [rc_row, <- hd] at cw
   obtain ⟨row, hrw⟩ : ∃ row, row = [Tree.v (.bool d.s), .lst false d.r, .v (.bool d.t), .lst false d.p] := ⟨_, rfl⟩
   have hXk : X[k]? = some row := by
    rw [hX, hU, ivU]
    rw [ur_get (q := ((R0 : Int) : Rat)) (by rw [List.getElem?_map, List.getElem?_take, if_pos (by omega), hr, hR0]; rfl), rc_row, <- hd, hrw]; rfl
   have hRk : R ++ [row] = X.take (k + 1) := by rw [List.take_add_one, hXk, hR]; rfl
   have hRl : R.length = k := by rw [hR, List.length_take]; omega
   have hr4 : row.length = 4 := by rw [hrw]; rfl
   have u0 : zq [row] 0 1 = [row] := by rw [hS.part]; rfl
   have u1 : zo 0 1 [row] = true := by rw [hS.fit]; rfl
   have u2 : zQ (za (zh [row]) 0) = true := by rw [hS.len, hS.neq, hS.not]; rfl
   have u3 : zu 4 [row] = true := by rw [hS.wide]; simp [hr4]
   have u4 : ze len (zh [row]) 64 = true := by rw [hS.len, hS.room]; exact decide_eq_true (by unfold capBytes; simp only [List.length_cons, List.length_nil]; omega)
   have u5 : za (zb 0 len) (zh R) = true := by rw [hS.nadd, hS.neq, hS.len, hRl, hlen, Nat.zero_add]; exact decide_eq_true rfl
   have u6 : zb len (zh [row]) = len + 1 := by rw [hS.len, hS.nadd]; rfl
   have u7 : zr R 0 [row] = R ++ [row] := by rw [hS.ext, List.drop_zero]
   obtain ⟨K', hK', i0⟩ : ∃ I' : Int, I' = ((k + 1 : Nat) : Int) /\ zA .i64 (zB K 1) = I' := ⟨K + 1, by omega, by rw [hS.add, hS.wrap, wrap_i64 (by omega) (by omega)]⟩
   have hmm0 : m - 1 < m := by omega
   have hnx0 : ∃ (kz : Nat) (Kz : Int) (Rz : Abs.Rows) (lz : Nat), Kz = kz /\ m - 1 + kz = 5 /\ kz <= n /\ lz = kz /\ Rz = X.take kz /\ iveSt T P b v e (len + 1) (R ++ [row]) K' = iveSt T P b v e lz Rz Kz := ⟨k + 1, K', R ++ [row], len + 1, hK', by omega, by omega, by omega, hRk, rfl⟩
   subst hs1
   cbv
   refine bT c1 (bT c2 ?_)
   rw [j1, j2]
   cbv
   refine nd (n0) ?_
   refine nd (y0) ?_
   rw [y1]
   cbv
   rw [y2]
   refine ⟨_, hS.call (cw), ?_⟩
   cbv
   rw [<- hrw, u0]
   refine nd (u1) ?_
   refine nd (u2) ?_
   refine nd (u3) ?_
   refine nd (u4) ?_
   refine nd (u5) ?_
   refine againR [(12, 12), (15, 15), (18, 18), (19, 23)] (s' := iveSt T P b v e (len + 1) (R ++ [row]) K') (k := m - 1) ?_ ?_ ?_ ?_ rfl (by show 3 <= 20; omega) hmm0 hnx0
   ·simp [leTR, iveSt, mkSt, vi, vb, AV.ren, AV.noTup, Cell.ren, renF, i0, u6]
   ·simp [leHR, iveSt, mkSt, Abs.look, renF, Blk.ren, Cell.ren, b8, pt8, row2, RN.row, u7]
   ·simp [liveR, iveSt, mkSt, renF]
   ·simp
  ·have hk5 : X.take k = X := by
    refine List.take_of_length_le ?_
    rw [hXl]; omega
   rw [hk5] at hR
   have hlX : len = X.length := by rw [hXl]; omega
   rw [hR] at hs1
   clear hR
   by_cases hkn : k < n
   ·have c1 : zO K (zY (zh T)) = true := by rw [hN2, hS.lt]; exact decide_eq_true (by omega)
    have c2 : zO K 5 = false := by rw [hS.lt]; exact decide_eq_false (by omega)
    subst hs1
    cbv
    refine bT c1 (bF c2 ?_)
    refine loopZR ccOk mixed hS (fun (m : Nat) s' => ∃ (j len : Nat), len = j /\ m = j /\ j <= X.length /\ s' = iveSu P b v e len X) (n := len) (s0 := iveSu P b v e len X) (qaq ?_ ?_) rfl (by show 3 <= 20; omega) ?_ ?_
    ·simp [leT, iveSu, mkSt, vi, vb]
    ·simp [leH, iveSu, mkSt, b8, pt8, row2, RN.row]
    ·exact ⟨len, len, rfl, rfl, by omega, rfl⟩
    ·rintro m sx ⟨j, len, hlj, hmj, hjX, hs1⟩
     obtain ⟨Y, hY⟩ : ∃ Y, Y = ur (U.take j) := ⟨_, rfl⟩
     have hj5 : j <= 5 := by omega
     have g1 := hV j hj5
     have g2 := hV2 j hj5
     have g3 := hsw j hj5
     have g4 := hz j hj5
     have g5 := hwz j hj5
     rw [<- hY] at g1 g2 g4
     obtain ⟨wj, hwj⟩ : ∃ y, y = w j := ⟨_, rfl⟩
     obtain ⟨zj, hzj⟩ : ∃ y, y = z j := ⟨_, rfl⟩
     simp only [<- hwj, <- hzj] at g1 g2 g3 g4 g5
     have fz : zo 0 len X = true := by rw [hS.fit]; exact decide_eq_true (by omega)
     have zp : zq X 0 len = Y := by rw [hS.part, List.drop_zero, hlj, hY, hX, ur_take]
     by_cases hj0 : j = 0
     ·have c1 : zO 0 (zY len) = false := by rw [hS.lt, hS.ofN]; exact decide_eq_false (by omega)
      subst hs1
      cbv
      refine bF c1 ?_
      refine nd (fz) ?_
      rw [zp]
      refine ⟨_, hS.call (g1), ?_⟩
      cbv
      refine ⟨_, hS.call (he2), ?_⟩
      cbv
      refine ⟨_, hS.call (hse), ?_⟩
      cbv
      refine bT (rfl) ?_
      refine ⟨_, hS.call (hy), ?_⟩
      cbv
      refine ⟨_, hS.call (hey), ?_⟩
      cbv
      refine bT (rfl) ?_
      refine nd (fz) ?_
      rw [zp]
      refine ⟨_, hS.call (g2), ?_⟩
      cbv
      refine ⟨_, hS.call (g3), ?_⟩
      cbv
      refine bT (rfl) ?_
      refine nd (fz) ?_
      rw [zp]
      refine ⟨_, hS.call (g4), ?_⟩
      cbv
      refine ⟨_, hS.call (g5), ?_⟩
      cbv
      refine bT (rfl) ?_
      exact hF _ (ResLe.refl _)
     ·obtain ⟨j', rfl⟩ : ∃ j', j = j' + 1 := ⟨j - 1, by omega⟩
      have hUl : X.length = U.length := by rw [hX, ur_len]
      obtain ⟨q, hq⟩ : ∃ q, U[j']? = some q := ⟨_, List.getElem?_eq_getElem (by omega)⟩
      obtain ⟨S, _, _, cs⟩ := rqsign_ex q
      rw [rc_row] at cs
      obtain ⟨d, hd⟩ : ∃ d, d = rc q := ⟨_, rfl⟩
      rw [<- hd] at cs
      have c1 : zO 0 (zY len) = true := by rw [hS.lt, hS.ofN]; exact decide_eq_true (by omega)
      have w1 : zA .i64 (zC (zY len) 1) = (j' : Int) := by rw [hS.ofN, hS.sub, hS.wrap, wrap_i64 (by omega) (by omega)]; omega
      have x0 : zX (zA .i64 (zC (zY len) 1)) len = true := by rw [w1, hS.inb]; exact decide_eq_true (by omega)
      have x1 : zi X (zZ 0 (zA .i64 (zC (zY len) 1))) = some d.row := by rw [w1, hS.idx, hS.nth, Nat.zero_add, Int.toNat_natCast, hX, ur_get hq, rc_row, <- hd]
      have x2 : zd 0 (zA .i64 (zC (zY len) 1)) len = true := by rw [w1, hS.cut]; exact decide_eq_true (by omega)
      have x3 : zZ 0 0 = 0 := by rw [hS.idx]; rfl
      have x4 : zV (zA .i64 (zC (zY len) 1)) = j' := by rw [w1, hS.nat]; omega
      have hmm : j' < m := by omega
      have hnx : ∃ (j2 l2 : Nat), l2 = j2 /\ j' = j2 /\ j2 <= X.length /\ iveSu P b v e j' X = iveSu P b v e l2 X := ⟨j', j', rfl, rfl, by omega, rfl⟩
      by_cases hS0 : S = 0
      ·have c2 : zM S 0 = true := by rw [hS.eq]; exact decide_eq_true hS0
       subst hs1
       cbv
       refine bT c1 (nd x0 ?_)
       rw [x1]
       cbv
       refine ⟨_, hS.call (cs), ?_⟩
       cbv
       refine bT (c2) ?_
       refine nd (x2) ?_
       refine againR [(12, 12), (15, 15), (18, 18), (19, 19)] (s' := iveSu P b v e j' X) (k := j') ?_ ?_ ?_ ?_ rfl (by show 3 <= 20; omega) hmm hnx
       ·simp [leTR, iveSu, mkSt, vi, vb, AV.ren, AV.noTup, Cell.ren, renF, x4]
       ·simp [leHR, iveSu, mkSt, Abs.look, renF, Blk.ren, Cell.ren, b8, pt8, row2, RN.row]
       ·simp [liveR, iveSu, mkSt, renF]
       ·simp
      ·have c2 : zM S 0 = false := by rw [hS.eq]; exact decide_eq_false hS0
       subst hs1
       cbv
       refine bT c1 (nd x0 ?_)
       rw [x1]
       cbv
       refine ⟨_, hS.call (cs), ?_⟩
       cbv
       refine bF (c2) ?_
       refine nd (fz) ?_
       rw [zp]
       refine ⟨_, hS.call (g1), ?_⟩
       cbv
       refine ⟨_, hS.call (he2), ?_⟩
       cbv
       refine ⟨_, hS.call (hse), ?_⟩
       cbv
       refine bT (rfl) ?_
       refine ⟨_, hS.call (hy), ?_⟩
       cbv
       refine ⟨_, hS.call (hey), ?_⟩
       cbv
       refine bT (rfl) ?_
       refine nd (fz) ?_
       rw [zp]
       refine ⟨_, hS.call (g2), ?_⟩
       cbv
       refine ⟨_, hS.call (g3), ?_⟩
       cbv
       refine bT (rfl) ?_
       refine nd (fz) ?_
       rw [zp]
       refine ⟨_, hS.call (g4), ?_⟩
       cbv
       refine ⟨_, hS.call (g5), ?_⟩
       cbv
       refine bT (rfl) ?_
       exact hF _ (ResLe.refl _)
   ·have c1 : zO K (zY (zh T)) = false := by rw [hN2, hS.lt]; exact decide_eq_false (by omega)
    subst hs1
    cbv
    refine bF c1 ?_
    refine loopZR ccOk mixed hS (fun (m : Nat) s' => ∃ (j len : Nat), len = j /\ m = j /\ j <= X.length /\ s' = iveSu P b v e len X) (n := len) (s0 := iveSu P b v e len X) (qaq ?_ ?_) rfl (by show 3 <= 20; omega) ?_ ?_
    ·simp [leT, iveSu, mkSt, vi, vb]
    ·simp [leH, iveSu, mkSt, b8, pt8, row2, RN.row]
    ·exact ⟨len, len, rfl, rfl, by omega, rfl⟩
    ·rintro m sx ⟨j, len, hlj, hmj, hjX, hs1⟩
     obtain ⟨Y, hY⟩ : ∃ Y, Y = ur (U.take j) := ⟨_, rfl⟩
     have hj5 : j <= 5 := by omega
     have g1 := hV j hj5
     have g2 := hV2 j hj5
     have g3 := hsw j hj5
     have g4 := hz j hj5
     have g5 := hwz j hj5
     rw [<- hY] at g1 g2 g4
     obtain ⟨wj, hwj⟩ : ∃ y, y = w j := ⟨_, rfl⟩
     obtain ⟨zj, hzj⟩ : ∃ y, y = z j := ⟨_, rfl⟩
     simp only [<- hwj, <- hzj] at g1 g2 g3 g4 g5
     have fz : zo 0 len X = true := by rw [hS.fit]; exact decide_eq_true (by omega)
     have zp : zq X 0 len = Y := by rw [hS.part, List.drop_zero, hlj, hY, hX, ur_take]
     by_cases hj0 : j = 0
     ·have c1 : zO 0 (zY len) = false := by rw [hS.lt, hS.ofN]; exact decide_eq_false (by omega)
      subst hs1
      cbv
      refine bF c1 ?_
      refine nd (fz) ?_
      rw [zp]
      refine ⟨_, hS.call (g1), ?_⟩
      cbv
      refine ⟨_, hS.call (he2), ?_⟩
      cbv
      refine ⟨_, hS.call (hse), ?_⟩
      cbv
      refine bT (rfl) ?_
      refine ⟨_, hS.call (hy), ?_⟩
      cbv
      refine ⟨_, hS.call (hey), ?_⟩
      cbv
      refine bT (rfl) ?_
      refine nd (fz) ?_
      rw [zp]
      refine ⟨_, hS.call (g2), ?_⟩
      cbv
      refine ⟨_, hS.call (g3), ?_⟩
      cbv
      refine bT (rfl) ?_
      refine nd (fz) ?_
      rw [zp]
      refine ⟨_, hS.call (g4), ?_⟩
      cbv
      refine ⟨_, hS.call (g5), ?_⟩
      cbv
      refine bT (rfl) ?_
      exact hF _ (ResLe.refl _)
     ·obtain ⟨j', rfl⟩ : ∃ j', j = j' + 1 := ⟨j - 1, by omega⟩
      have hUl : X.length = U.length := by rw [hX, ur_len]
      obtain ⟨q, hq⟩ : ∃ q, U[j']? = some q := ⟨_, List.getElem?_eq_getElem (by omega)⟩
      obtain ⟨S, _, _, cs⟩ := rqsign_ex q
      rw [rc_row] at cs
      obtain ⟨d, hd⟩ : ∃ d, d = rc q := ⟨_, rfl⟩
      rw [<- hd] at cs
      have c1 : zO 0 (zY len) = true := by rw [hS.lt, hS.ofN]; exact decide_eq_true (by omega)
      have w1 : zA .i64 (zC (zY len) 1) = (j' : Int) := by rw [hS.ofN, hS.sub, hS.wrap, wrap_i64 (by omega) (by omega)]; omega
      have x0 : zX (zA .i64 (zC (zY len) 1)) len = true := by rw [w1, hS.inb]; exact decide_eq_true (by omega)
      have x1 : zi X (zZ 0 (zA .i64 (zC (zY len) 1))) = some d.row := by rw [w1, hS.idx, hS.nth, Nat.zero_add, Int.toNat_natCast, hX, ur_get hq, rc_row, <- hd]
      have x2 : zd 0 (zA .i64 (zC (zY len) 1)) len = true := by rw [w1, hS.cut]; exact decide_eq_true (by omega)
      have x3 : zZ 0 0 = 0 := by rw [hS.idx]; rfl
      have x4 : zV (zA .i64 (zC (zY len) 1)) = j' := by rw [w1, hS.nat]; omega
      have hmm : j' < m := by omega
      have hnx : ∃ (j2 l2 : Nat), l2 = j2 /\ j' = j2 /\ j2 <= X.length /\ iveSu P b v e j' X = iveSu P b v e l2 X := ⟨j', j', rfl, rfl, by omega, rfl⟩
      by_cases hS0 : S = 0
      ·have c2 : zM S 0 = true := by rw [hS.eq]; exact decide_eq_true hS0
       subst hs1
       cbv
       refine bT c1 (nd x0 ?_)
       rw [x1]
       cbv
       refine ⟨_, hS.call (cs), ?_⟩
       cbv
       refine bT (c2) ?_
       refine nd (x2) ?_
       refine againR [(12, 12), (15, 15), (18, 18), (19, 19)] (s' := iveSu P b v e j' X) (k := j') ?_ ?_ ?_ ?_ rfl (by show 3 <= 20; omega) hmm hnx
       ·simp [leTR, iveSu, mkSt, vi, vb, AV.ren, AV.noTup, Cell.ren, renF, x4]
       ·simp [leHR, iveSu, mkSt, Abs.look, renF, Blk.ren, Cell.ren, b8, pt8, row2, RN.row]
       ·simp [liveR, iveSu, mkSt, renF]
       ·simp
      ·have c2 : zM S 0 = false := by rw [hS.eq]; exact decide_eq_false hS0
       subst hs1
       cbv
       refine bT c1 (nd x0 ?_)
       rw [x1]
       cbv
       refine ⟨_, hS.call (cs), ?_⟩
       cbv
       refine bF (c2) ?_
       refine nd (fz) ?_
       rw [zp]
       refine ⟨_, hS.call (g1), ?_⟩
       cbv
       refine ⟨_, hS.call (he2), ?_⟩
       cbv
       refine ⟨_, hS.call (hse), ?_⟩
       cbv
       refine bT (rfl) ?_
       refine ⟨_, hS.call (hy), ?_⟩
       cbv
       refine ⟨_, hS.call (hey), ?_⟩
       cbv
       refine bT (rfl) ?_
       refine nd (fz) ?_
       rw [zp]
       refine ⟨_, hS.call (g2), ?_⟩
       cbv
       refine ⟨_, hS.call (g3), ?_⟩
       cbv
       refine bT (rfl) ?_
       refine nd (fz) ?_
       rw [zp]
       refine ⟨_, hS.call (g4), ?_⟩
       cbv
       refine ⟨_, hS.call (g5), ?_⟩
       cbv
       refine bT (rfl) ?_
       exact hF _ (ResLe.refl _)
def vlT (U : List Rat) (x : Rat × Rat) (k : Nat) : Rat × Rat := (mlo (U.getD k 0) (U.getD k 0) (pwlo x.1 x.2 k) (pwhi x.1 x.2 k), mhi (U.getD k 0) (U.getD k 0) (pwlo x.1 x.2 k) (pwhi x.1 x.2 k))
def vlI (U : List Rat) (x : Rat × Rat) : Nat -> Rat × Rat := sumI (vlT U x)
theorem sumQ_succ (f : Nat -> Rat) : ∀ n, sumQ f (n + 1) = f 0 + sumQ (fun k => f (k + 1)) n
 | 0 => by simp only [sumQ]; grind
 | n + 1 => by
  rw [sumQ, sumQ_succ f n]
  simp only [sumQ]
  grind
theorem sumQ_mul (c : Rat) (f : Nat -> Rat) : ∀ n, sumQ (fun k => c * f k) n = c * sumQ f n
 | 0 => by simp only [sumQ]; grind
 | n + 1 => by
  simp only [sumQ]
  rw [sumQ_mul c f n]
  grind
theorem ev_sumQ (x : Rat) : ∀ P : List Rat, Abs.ev P x = sumQ (fun k => P.getD k 0 * x ^ k) P.length
 | [] => rfl
 | c :: P => by
  rw [List.length_cons, sumQ_succ, show (fun k => (c :: P).getD (k + 1) 0 * x ^ (k + 1)) = fun k => x * (P.getD k 0 * x ^ k) from by
   funext k
   rw [List.getD_cons_succ, Rat.pow_succ]
   grind, sumQ_mul, <- ev_sumQ x P, List.getD_cons_zero, Rat.pow_zero, Rat.mul_one]
  rfl
theorem vlI_in {U : List Rat} {x : Rat × Rat} {v : Rat} (h1 : x.1 <= v) (h2 : v <= x.2) : (vlI U x U.length).1 <= Abs.ev U v /\ Abs.ev U v <= (vlI U x U.length).2 := by
 rw [ev_sumQ]
 exact sumI_in U.length fun k _ => by
  have h3 := pow_in h1 h2 k
  exact mul_in Rat.le_refl Rat.le_refl h3.1 h3.2
section
variable {U : List Rat} {x : Rat × Rat} (hU : ∀ q ∈ U, Qs q 1) (hl : U.length <= 5) (h1 : Qs x.1 2) (h2 : Qs x.2 2)
include hU hl h1 h2
theorem getU_some {k : Nat} (hk : k < U.length) : U[k]? = some (U.getD k 0) := by rw [List.getD_eq_getElem?_getD, List.getElem?_eq_getElem hk]; rfl
theorem vlT_qs {k : Nat} (hk : k < U.length) : Qs (vlT U x k).1 10 /\ Qs (vlT U x k).2 10 := by
 have hc := hU _ (List.mem_of_getElem? (getU_some hU hl h1 h2 hk))
 have h3 := pwlo_qs h1 h2 (k := k) (by omega)
 have h4 := pwhi_qs h1 h2 (k := k) (by omega)
 exact ⟨mlo_qs hc hc h3 h4, mhi_qs hc hc h3 h4⟩
theorem vlI_qs {k : Nat} (hk : k <= U.length) : Qs (vlI U x k).1 56 /\ Qs (vlI U x k).2 56 := by
 obtain ⟨h3, h4⟩ := sumI_qs (f := vlT U x) (s := 10) k fun j hj => vlT_qs hU hl h1 h2 (by omega)
 have := Nat.mul_le_mul_right (10 + 1) (show k <= 5 by omega)
 exact ⟨h3.mono (by omega), h4.mono (by omega)⟩
theorem revalue_call : ACall Tryz.prog 55 [.val (tl (ur U)), .val (.agg (row2 (ri x)))] ⟨[.val (.agg (row2 (ri (vlI U x U.length))))], [none, none]⟩ := by
 have cz := qam 0 (by omega) (by omega)
 rw [show ((0 : Int) : Rat) = 0 from rfl, rc_row] at cz
 refine revalue_walk (ur U) U.length (ur_len U) (by omega) (ri x) (fun k => rc (U.getD k 0)) (rc 0) (fun k => ri (pwlo x.1 x.2 k, pwhi x.1 x.2 k)) (fun k => ri (vlT U x k)) (fun k => ri (vlI U x k)) cz rfl (fun k hk => ur_get (getU_some hU hl h1 h2 hk)) ?_ ?_ ?_
 ·intro k K hk hK
  rw [hK]
  exact (rivpow_call k (by omega) h1 h2 (by omega)).2.2
 ·intro k hk
  have hc := hU _ (List.mem_of_getElem? (getU_some hU hl h1 h2 hk))
  have h3 := pwlo_qs h1 h2 (k := k) (by omega)
  have h4 := pwhi_qs h1 h2 (k := k) (by omega)
  exact (rivmul_call (n := 1000) (hc.mono (by omega)) (hc.mono (by omega)) (h3.mono (by omega)) (h4.mono (by omega)) (by omega)).2.2
 ·intro k hk
  obtain ⟨h3, h4⟩ := vlT_qs hU hl h1 h2 hk
  obtain ⟨h5, h6⟩ := vlI_qs hU hl h1 h2 (Nat.le_of_lt hk)
  exact (rivadd_call (n := 1000) (h5.mono (by omega)) (h6.mono (by omega)) (h3.mono (by omega)) (h4.mono (by omega)) (by omega)).2.2
theorem ivvalue_call : ACall Tryz.prog 52 [.val (tl (ur U)), .val (.agg (row2 (ri x)))] ⟨[.val (.agg (row2 (ri (vlI U x U.length))))], [none, none]⟩ := by
 have cz := pwhole_row 0 (by omega) (by omega)
 rw [show ((0 : Int) : Rat) = 0 from rfl, rc_row] at cz
 refine ivalue_walk (ur U) (ri x) U.length (ri (vlI U x U.length)) (ur_len U) ?_
 refine sumV_walk (ur U) (ri x) U.length (by omega) _ rfl (rc 0) (fun k => ri (vlI U x k)) (fun k => ri (vlT U x k)) cz rfl ?_ ?_
 ·intro k K hk hK
  have hc := hU _ (List.mem_of_getElem? (getU_some hU hl h1 h2 hk))
  have h3 := pwlo_qs h1 h2 (k := k) (by omega)
  have h4 := pwhi_qs h1 h2 (k := k) (by omega)
  refine valcl_walk (ur U) k K hK (ri x) (rc (U.getD k 0)) (ri (pwlo x.1 x.2 k, pwhi x.1 x.2 k)) (ri (vlT U x k)) (ur_get (getU_some hU hl h1 h2 hk)) ?_ ?_
  ·rw [hK]
   exact sppower_call k (by omega) h1 h2 (by omega)
  ·exact sptimes_call (n := 1000) (hc.mono (by omega)) (hc.mono (by omega)) (h3.mono (by omega)) (h4.mono (by omega)) (by omega)
 ·intro k hk
  obtain ⟨h3, h4⟩ := vlT_qs hU hl h1 h2 hk
  obtain ⟨h5, h6⟩ := vlI_qs hU hl h1 h2 (Nat.le_of_lt hk)
  exact (spplus_call (n := 1000) (h5.mono (by omega)) (h6.mono (by omega)) (h3.mono (by omega)) (h4.mono (by omega)) (by omega)).2.2
end
theorem ive_call (hsan : ACall Tryz.prog 11 [] ⟨[.val (tb true)], []⟩) (l : List (Nat -> Int)) (hl : ∀ r ∈ l, ∀ i, i < 5 -> -128 <= r i /\ r i < 128) (x : Nat -> RI) (hx : ∀ i, i < 4 -> (x i).ok) (a : Nat -> Int) (ha : ∀ i, i < 4 -> 0 <= a i /\ a i < 256) :
  ACall Tryz.prog 10 [.val (.agg [.lst false (l.map r5)]), .val (.agg ((x 0).row ++ (x 1).row ++ (x 2).row ++ (x 3).row)), .val (.agg [.v (.int .u8 (a 0)), .v (.int .u8 (a 1)), .v (.int .u8 (a 2)), .v (.int .u8 (a 3))])] ⟨[.val (tb true)], [none, none, none]⟩ := by
 obtain ⟨R, hR⟩ : ∃ R, R = madeP (l.take 5) := ⟨_, rfl⟩
 have hP := rpmade_call l hl
 rw [<- hR] at hP
 obtain ⟨hRl, hRo⟩ := madeP_ok (l.take 5) (fun r hr => hl r (List.mem_of_mem_take hr) 0 (by omega)) [] 0 (by simp)
 have hl5 : (l.take 5).length <= 5 := by rw [List.length_take]; omega
 have hRl : R.length <= 5 := by rw [hR]; exact Nat.le_trans hRl (by simpa using hl5)
 have hRo : ∀ t ∈ R, t.ok 15 4 := fun t ht => (hRo t (by rw [hR] at ht; exact ht)).mono (by omega)
 obtain ⟨b, hb⟩ : ∃ b, b = bxQ x := ⟨_, rfl⟩
 have hb2 : BxOk b 2 := by rw [hb]; exact bxQ_ok hx
 have hb10 := hb2.mono (show 2 <= 10 by omega)
 have cb := rbox_call x hx
 rw [<- hb] at cb
 have hv := ptQ_in hb2 fun i hi => (ha i hi).1
 have hvq := ptQ_qs hb2 ha
 have cv := lpoint_call hb2 ha
 obtain ⟨qe1, qe2⟩ := evI_sz hRo hRl hb10 R.length (Nat.le_refl _)
 obtain ⟨qy, cy⟩ := reval_call hRo hRl hb10 hvq
 have hey := sumI_in (f := fun k => tmI (R.getD k ⟨0, 0, 0, 0, 0, 0, 0, 0, 0⟩) b 8) (g := fun k => tQ (R.getD k ⟨0, 0, 0, 0, 0, 0, 0, 0, 0⟩).c (ptQ b a) (R.getD k ⟨0, 0, 0, 0, 0, 0, 0, 0, 0⟩).n 8) R.length fun k _ => tI_in hv 8
 have hUq : ∀ q ∈ ivU l, Qs q 1 := by
  intro q hq
  unfold ivU at hq
  obtain ⟨r, _, rfl⟩ := List.mem_map.1 hq
  exact Qs.whole (by have := tmod4 (r 0); omega) (Nat.le_refl 1)
 have hUl : (ivU l).length <= 5 := by unfold ivU; rw [List.length_map]; exact hl5
 have hTq : ∀ j, ∀ q ∈ (ivU l).take j, Qs q 1 := fun j q hq => hUq q (List.mem_of_mem_take hq)
 have hTl : ∀ j, ((ivU l).take j).length <= 5 := fun j => by rw [List.length_take]; omega
 have hw : ∀ j, Qs (vlI ((ivU l).take j) (b 0) ((ivU l).take j).length).1 56 /\ Qs (vlI ((ivU l).take j) (b 0) ((ivU l).take j).length).2 56 := fun j => vlI_qs (hTq j) (hTl j) (hb2.lo 0) (hb2.hi 0) (Nat.le_refl _)
 have hz : ∀ j, Qs (Abs.ev ((ivU l).take j) (ptQ b a 0)) 61 /\ ACall Tryz.prog 56 [.val (tl (ur ((ivU l).take j))), .val (.agg (qc (ptQ b a 0)).row)] ⟨[.val (.agg (qc (Abs.ev ((ivU l).take j) (ptQ b a 0))).row)], [none, none]⟩ := fun j => by
  have := hTl j
  obtain ⟨z1, z2⟩ := rueval_call ((ivU l).take j) (ptQ b a 0) 1 10 (by omega) (hTq j) (hvq 0) (by omega)
  have := Nat.mul_le_mul_right (1 + 10 + 1) this
  exact ⟨z1.mono (by omega), z2⟩
 exact ive_walk hsan l hl (tmr R) x a (fun i => ri (b i)) (fun i => rc (ptQ b a i)) (ri (evI R b R.length)) hP cb cv (iveval_call hRo hRl hb10) (reveval_call hRo hRl hb10) (risame_row (qe1.mono (by omega)) (qe2.mono (by omega)))
  (rc (sumQ (fun k => tQ (R.getD k ⟨0, 0, 0, 0, 0, 0, 0, 0, 0⟩).c (ptQ b a) (R.getD k ⟨0, 0, 0, 0, 0, 0, 0, 0, 0⟩).n 8) R.length)) cy (rihas_call (qe1.mono (by omega)) (qe2.mono (by omega)) (qy.mono (by omega)) true ⟨fun _ => hey, fun _ => rfl⟩)
  (fun j => ri (vlI ((ivU l).take j) (b 0) ((ivU l).take j).length)) (fun j => rc (Abs.ev ((ivU l).take j) (ptQ b a 0))) (fun j _ => ivvalue_call (hTq j) (hTl j) (hb2.lo 0) (hb2.hi 0)) (fun j _ => revalue_call (hTq j) (hTl j) (hb2.lo 0) (hb2.hi 0))
  (fun j _ => risame_row ((hw j).1.mono (by omega)) ((hw j).2.mono (by omega))) (fun j _ => (hz j).2)
  fun j _ => rihas_call ((hw j).1.mono (by omega)) ((hw j).2.mono (by omega)) ((hz j).1.mono (by omega)) true ⟨fun _ => vlI_in (hv 0).1 (hv 0).2, fun _ => rfl⟩
theorem ive_row (hsan : ACall Tryz.prog 11 [] ⟨[.val (tb true)], []⟩) (tss : List (List Tree)) (h : okAll [raw6, .arr 4 rawI, .arr 4 (.int .u8)] tss) :
  ACall Tryz.prog 10 ((tvs [raw6, .arr 4 rawI, .arr 4 (.int .u8)] tss).map .val) ⟨[.val (tb true)], [none, none, none]⟩ := by
 obtain ⟨_, _, rfl, ⟨_, _, rfl, ⟨cp, rows, rfl, _, hr⟩, rfl⟩, _, _, rfl, h2, _, _, rfl, h3, rfl⟩ := h
 obtain ⟨l, rfl, hl⟩ := raw5_ok rows hr
 obtain ⟨x, rfl, hx⟩ := raw4_ok h2
 obtain ⟨a, rfl, ha⟩ := at4_ok h3
 have c := ive_call hsan l hl x hx a ha
 have ht : TsLe [.lst cp (l.map r5)] [.lst false (l.map r5)] := ⟨.drop _ _, trivial⟩
 have hle : ArgsLe [.val (.agg [.lst cp (l.map r5)]), .val (.agg ((x 0).row ++ (x 1).row ++ (x 2).row ++ (x 3).row)), .val (.agg [.v (.int .u8 (a 0)), .v (.int .u8 (a 1)), .v (.int .u8 (a 2)), .v (.int .u8 (a 3))])] [.val (.agg [.lst false (l.map r5)]), .val (.agg ((x 0).row ++ (x 1).row ++ (x 2).row ++ (x 3).row)), .val (.agg [.v (.int .u8 (a 0)), .v (.int .u8 (a 1)), .v (.int .u8 (a 2)), .v (.int .u8 (a 3))])] := ⟨ht, TsLe.refl _, TsLe.refl _, trivial⟩
 exact ACall.weak hle (ResLe.refl _) c
end Go.Proofs.YtpgbejgdmgpfjaaGreat
end
section
namespace Go.Abs
def execBody (P : Program) (C : Cfg) (om : FuncId -> List Mode) (call : FuncId -> List Arg -> Option Res) (n : Nat) (f : FuncId) (args : List Arg) : Option Res :=
 match P.funcs[f]? with
 | some fn =>
  if fn.name == "runtime.NumGoroutine" then none else
  match fn.body with
  | some c =>
   match execCode C call n c (startSt args fn.ntmps) with
   | some (.normal, s) => finish C s args fn.results.toList (om f)
   | some (.ret, s) => finish C s args fn.results.toList (om f)
   | _ => none
  | none => none
 | none => none
mutual
def eqT : Tree -> Tree -> Bool
 | .v x, .v y => match x, y with
  | .int k a, .int k' b => decide (k = k') && decide (a = b)
  | .bool a, .bool b => decide (a = b)
  | .string a, .string b => decide (a.data.toList = b.data.toList)
  | .func (.func f) ⟨[]⟩ ⟨[]⟩, .func (.func g) ⟨[]⟩ ⟨[]⟩ => decide (f = g)
  | _, _ => false
 | .lst c l, .lst c' l' => decide (c = c') && eqRR l l'
 | _, _ => false
def eqTs : List Tree -> List Tree -> Bool
 | [], [] => true
 | x :: xs, y :: ys => eqT x y && eqTs xs ys
 | _, _ => false
def eqRR : List (List Tree) -> List (List Tree) -> Bool
 | [], [] => true
 | x :: xs, y :: ys => eqTs x y && eqRR xs ys
 | _, _ => false
end
mutual
theorem eqT_eq : ∀ {x y : Tree}, eqT x y = true -> x = y
 | .v x, .v y, h => by
  unfold eqT at h
  split at h
  ·simp only [Bool.and_eq_true, decide_eq_true_eq] at h; rw [h.1, h.2]
  ·rw [of_decide_eq_true h]
  ·rename_i a b
   have := of_decide_eq_true h
   have e : a = b := by
    cases a with | mk da => cases b with | mk db => exact congrArg ByteArray.mk (Array.ext' this)
   rw [e]
  ·rw [of_decide_eq_true h]
  ·cases h
 | .lst c l, .lst c' l', h => by
  unfold eqT at h
  simp only [Bool.and_eq_true, decide_eq_true_eq] at h
  rw [h.1, eqRR_eq h.2]
 | .v _, .lst _ _, h => by unfold eqT at h; cases h
 | .lst _ _, .v _, h => by unfold eqT at h; cases h
theorem eqTs_eq : ∀ {x y : List Tree}, eqTs x y = true -> x = y
 | [], [], _ => rfl
 | x :: xs, y :: ys, h => by
  unfold eqTs at h
  simp only [Bool.and_eq_true] at h
  rw [eqT_eq h.1, eqTs_eq h.2]
 | [], _ :: _, h => by unfold eqTs at h; cases h
 | _ :: _, [], h => by unfold eqTs at h; cases h
theorem eqRR_eq : ∀ {x y : List (List Tree)}, eqRR x y = true -> x = y
 | [], [], _ => rfl
 | x :: xs, y :: ys, h => by
  unfold eqRR at h
  simp only [Bool.and_eq_true] at h
  rw [eqTs_eq h.1, eqRR_eq h.2]
 | [], _ :: _, h => by unfold eqRR at h; cases h
 | _ :: _, [], h => by unfold eqRR at h; cases h
end
def eqArg : Arg -> Arg -> Bool
 | .val (.c x), .val (.c y) => eqT x y
 | .val (.agg x), .val (.agg y) => eqTs x y
 | .bor s x, .bor s' y => decide (s = s') && eqRR x y
 | .own s x, .own s' y => decide (s = s') && eqRR x y
 | .ref x, .ref y => eqTs x y
 | .gh x, .gh y => eqTs x y
 | .clo f x, .clo g y => decide (f = g) && decide (x = y)
 | _, _ => false
theorem eqArg_eq {x y : Arg} (h : eqArg x y = true) : x = y := by
 unfold eqArg at h
 split at h
 ·rw [eqT_eq h]
 ·rw [eqTs_eq h]
 ·simp only [Bool.and_eq_true, decide_eq_true_eq] at h; rw [h.1, eqRR_eq h.2]
 ·simp only [Bool.and_eq_true, decide_eq_true_eq] at h; rw [h.1, eqRR_eq h.2]
 ·rw [eqTs_eq h]
 ·rw [eqTs_eq h]
 ·simp only [Bool.and_eq_true, decide_eq_true_eq] at h; rw [h.1, h.2]
 ·cases h
def eqArgs : List Arg -> List Arg -> Bool
 | [], [] => true
 | x :: xs, y :: ys => eqArg x y && eqArgs xs ys
 | _, _ => false
theorem eqArgs_eq : ∀ {x y : List Arg}, eqArgs x y = true -> x = y
 | [], [], _ => rfl
 | x :: xs, y :: ys, h => by
  unfold eqArgs at h
  simp only [Bool.and_eq_true] at h
  rw [eqArg_eq h.1, eqArgs_eq h.2]
 | [], _ :: _, h => by cases h
 | _ :: _, [], h => by cases h
inductive Known (P : Program) : List (FuncId × List Arg × Res) -> Prop where
 | nil : Known P []
 | cons {f : FuncId} {args : List Arg} {res : Res} {l : List (FuncId × List Arg × Res)} (h : ACall P f args res) (t : Known P l) : Known P ((f, args, res) :: l)
def findK : List (FuncId × List Arg × Res) -> FuncId -> List Arg -> Option Res
 | [], _, _ => none
 | (f, aas, r) :: l, g, bs => match Nat.beq f g with
  | true => match eqArgs aas bs with
   | true => some r
   | false => findK l g bs
  | false => findK l g bs
theorem Known.find {P : Program} {l : List (FuncId × List Arg × Res)} (h : Known P l) : ∀ f aas res, findK l f aas = some res -> ACall P f aas res := by
 induction h with
 | nil => intro f aas res h; cases h
 | cons h t ih =>
  rename_i f args r l
  intro g bs res hr
  unfold findK at hr
  split at hr
  ·rename_i h1
   split at hr
   ·rename_i h2
    cases hr
    obtain rfl := Nat.eq_of_beq_eq_true h1
    obtain rfl := eqArgs_eq h2
    exact h
   ·exact ih _ _ _ hr
  ·exact ih _ _ _ hr
theorem execBody_sound {P : Program} {C : Cfg} {om : FuncId -> List Mode} (hC : CfgOk P C) (hmix : P.follows .mixedOrders = true) {l : List (FuncId × List Arg × Res)} (hl : Known P l) {n : Nat} {f : FuncId} {args : List Arg} {res : Res}
  (h : execBody P C om (findK l) n f args = some res) : ACall P f args res := by
 unfold execBody at h
 split at h
 ·rename_i fn hfn
  split at h
  ·cases h
  ·rename_i hname
   split at h
   ·rename_i c hbody
    refine ACall.of_body hC hfn (by simpa using hname) hbody (om := om f) ?_
    split at h
    ·rename_i s h1
     exact execCode_sound hC hmix hl.find n c _ h1 ⟨.inl rfl, h⟩
    ·rename_i s h1
     exact execCode_sound hC hmix hl.find n c _ h1 ⟨.inr rfl, h⟩
    ·cases h
   ·cases h
 ·cases h
end Go.Abs
end
