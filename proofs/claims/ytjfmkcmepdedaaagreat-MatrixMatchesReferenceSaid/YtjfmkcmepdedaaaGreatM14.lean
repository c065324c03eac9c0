/-
  A part of the proof: GabsFrame, LawMxK1k, MxF1k, MxO1k.
-/
import Derived.Test.YtjfmkcmepdedaaaGreatM13
import Derived.WideKeyArgs
import Derived.OpenShut
import Derived.WalkKit
set_option maxHeartbeats 0
set_option maxRecDepth 100000
set_option linter.unusedVariables false
set_option linter.unusedSimpArgs false
set_option linter.unusedSectionVars false
section
namespace Go.Abs
open Go.RowKit Go.WideShapes Go.ChangeShapes Go.ChangeAt
inductive Shape where
 | int (k:IntKind)
 | bool
 | slice (s:Shape)
 | struct (l:List Shape)
 | arr (n:Nat) (s:Shape)
mutual
def Shape.size:Shape->Nat
 | .int _=>1
 | .bool=>1
 | .slice _=>1
 | .struct l=>sizeL l
 | .arr n s=>n*s.size
def sizeL:List Shape->Nat
 | []=>0
 | s :: l=>s.size+sizeL l
end
mutual
def Shape.fits (P:Program) (t:TypeId):Shape->Bool
 | .int k=>match P.underlying t with
  | some (.int k')=>decide (k'=k)
  | _=>false
 | .bool=>match P.underlying t with
  | some .bool=>true
  | _=>false
 | .slice s=>match P.underlying t with
  | some (.slice e)=>P.cellsOf e == s.size && decide (0 < s.size) && s.fits P e
  | _=>false
 | .struct l=>match P.underlying t with
  | some (.struct fs)=>P.cellsOf t == sizeL l && fitsL P 0 fs.toList l
  | _=>false
 | .arr n s=>match P.underlying t with
  | some (.array m e)=>m == n && P.cellsOf t == n*s.size && P.cellsOf e == s.size && s.fits P e
  | _=>false
def fitsL (P:Program) (off:Nat):List Field->List Shape->Bool
 | [],[]=>true
 | f :: fs,s :: l=>f.offset == off && P.cellsOf f.type == s.size && s.fits P f.type && fitsL P (off+s.size) fs l
 | _,_=>false
end
def okN (p:List Tree->Prop):Nat->List Tree->Prop
 | 0,ts=>ts=[]
 | n+1,ts=>∃ a b,ts=a ++ b/\p a/\okN p n b
mutual
def Shape.ok:Shape->List Tree->Prop
 | .int k,ts=>∃ n,ts=[.v (.int k n)]/\(Lit.int k n).wf=true
 | .bool,ts=>∃ b,ts=[.v (.bool b)]
 | .slice s,ts=>∃ cp rows,ts=[.lst cp rows]/\rows.length < 2 ^ 63/\∀ r ∈ rows,s.ok r
 | .struct l,ts=>okL l ts
 | .arr n s,ts=>okN s.ok n ts
def okL:List Shape->List Tree->Prop
 | [],ts=>ts=[]
 | s :: l,ts=>∃ a b,ts=a ++ b/\s.ok a/\okL l b
end
theorem okN_len {p:List Tree->Prop} {m:Nat} (hp:∀ ts,p ts->ts.length=m):∀ (n:Nat) (ts:List Tree),okN p n ts->ts.length=n*m
 | 0,ts,h=>by rw [show ts=[] from h]; simp
 | n+1,ts,⟨a,b,h1,h2,h3⟩=>by rw [h1,List.length_append,hp a h2,okN_len hp n b h3,Nat.succ_mul]; omega
mutual
theorem Shape.ok_len:∀ (s:Shape) (ts:List Tree),s.ok ts->ts.length=s.size
 | .int k,ts,h=>by obtain ⟨n,rfl,_⟩:=h; rfl
 | .bool,ts,h=>by obtain ⟨n,rfl⟩:=h; rfl
 | .slice s,ts,h=>by obtain ⟨_,_,rfl,_⟩:=h; rfl
 | .struct l,ts,h=>okL_len l ts h
 | .arr n s,ts,h=>okN_len (fun ts h=>s.ok_len ts h) n ts h
theorem okL_len:∀ (l:List Shape) (ts:List Tree),okL l ts->ts.length=sizeL l
 | [],ts,h=>by rw [show ts=[] from h]; rfl
 | s :: l,ts,h=>by
  obtain ⟨a,b,h1,h2,h3⟩:=h
  rw [h1,List.length_append,s.ok_len a h2,okL_len l b h3]; rfl
end
section
variable {H:Type} {enc:TypeId × Value->H} {P:Program} {w:World} {sp:Nat->Bool} {hd:Bool}
def TRepL (w:World) (ts:List Tree) (cs:List Value):Prop:=ts.length=cs.length/\∀ (i:Nat) (t:Tree) (v:Value),ts[i]?=some t->cs[i]?=some v->TRep (old w) w t v
theorem TRepL.append {a b:List Tree} {c d:List Value} (h1:TRepL w a c) (h2:TRepL w b d):TRepL w (a ++ b) (c ++ d):=by
 refine ⟨by rw [List.length_append,List.length_append,h1.1,h2.1],fun i t v ht hv=>?_⟩
 rcases Nat.lt_or_ge i a.length with h | h
 ·rw [List.getElem?_append_left h] at ht
  rw [List.getElem?_append_left (by rw [<- h1.1]; exact h)] at hv
  exact h1.2 i t v ht hv
 ·rw [List.getElem?_append_right h] at ht
  rw [List.getElem?_append_right (by rw [<- h1.1]; exact h),<- h1.1] at hv
  exact h2.2 _ t v ht hv
theorem TRepL.one {t:Tree} {v:Value} (h:TRep (old w) w t v):TRepL w [t] [v]:=by
 refine ⟨rfl,fun i t' v' ht hv=>?_⟩
 cases i with
 | zero=>simp at ht hv; subst ht hv; exact h
 | succ i=>simp at ht
def Read (enc:TypeId × Value->H) (P:Program) (w:World) (sp:Nat->Bool) (hd:Bool) (s:Shape):Prop:=
 ∀ (t:TypeId),s.fits P t=true->∀ (n:Nat) (cs:List Value) (x:DataW H × List MemPlace),DataW.trod enc P w 0 sp hd n t cs=some x->∃ ts,s.ok ts/\TRepL w ts cs
theorem row_split {cs:List Value} (i m:Nat):cs.drop i=(cs.drop i).take m ++ cs.drop (i+m):=by
 rw [<- List.drop_drop,List.take_append_drop]
theorem readL:∀ (l:List Shape),(∀ s ∈ l,Read enc P w sp hd s)->∀ (fs:List Field) (off:Nat),fitsL P off fs l=true->∀ (n:Nat) (cs:List Value),cs.length=off+sizeL l ->
  (∀ f ∈ fs,∃ x,DataW.trod enc P w 0 sp hd n f.type ((cs.drop f.offset).take (P.cellsOf f.type))=some x)->∃ ts,okL l ts/\TRepL w ts (cs.drop off)
 | [],hl,[],off,hf,n,cs,hn,hx=>by
  refine ⟨[],rfl,?_⟩
  rw [List.drop_of_length_le (by rw [hn]; simp [sizeL])]
  exact ⟨rfl,fun i t v h=>by simp at h⟩
 | [],hl,f :: fs,off,hf,n,cs,hn,hx=>by simp [fitsL] at hf
 | s :: l,hl,[],off,hf,n,cs,hn,hx=>by simp [fitsL] at hf
 | s :: l,hl,f :: fs,off,hf,n,cs,hn,hx=>by
  simp only [fitsL,Bool.and_eq_true,beq_iff_eq] at hf
  obtain ⟨⟨⟨h1,h2⟩,h3⟩,h4⟩:=hf
  obtain ⟨x,hx1⟩:=hx f (List.mem_cons_self ..)
  rw [h1,h2] at hx1
  obtain ⟨a,ha,hra⟩:=hl s (List.mem_cons_self ..) f.type h3 n _ x hx1
  obtain ⟨b,hb,hrb⟩:=readL l (fun s' hs'=>hl s' (List.mem_cons_of_mem _ hs')) fs (off+s.size) h4 n cs (by rw [hn,sizeL]; omega) (fun f' hf'=>hx f' (List.mem_cons_of_mem _ hf'))
  refine ⟨a ++ b,⟨a,b,rfl,ha,hb⟩,?_⟩
  rw [row_split off s.size]
  exact hra.append hrb
theorem readN {s:Shape} (hs:Read enc P w sp hd s) {e:TypeId} (he:s.fits P e=true):∀ (m i:Nat) (n:Nat) (cs:List Value),cs.length=(i+m)*s.size ->
  (∀ j,j < m->∃ x,DataW.trod enc P w 0 sp hd n e ((cs.drop ((i+j)*s.size)).take s.size)=some x)->∃ ts,okN s.ok m ts/\TRepL w ts (cs.drop (i*s.size))
 | 0,i,n,cs,hn,hx=>by
  refine ⟨[],rfl,?_⟩
  rw [List.drop_of_length_le (by rw [hn]; simp)]
  exact ⟨rfl,fun i t v h=>by simp at h⟩
 | m+1,i,n,cs,hn,hx=>by
  obtain ⟨x,hx1⟩:=hx 0 (by omega)
  rw [Nat.add_zero] at hx1
  obtain ⟨a,ha,hra⟩:=hs e he n _ x hx1
  obtain ⟨b,hb,hrb⟩:=readN hs he m (i+1) n cs (by rw [hn]; congr 1; omega) (fun j hj=>by
   have:=hx (j+1) (by omega)
   rwa [show i+(j+1)=i+1+j by omega] at this)
  refine ⟨a ++ b,⟨a,b,rfl,ha,hb⟩,?_⟩
  rw [row_split (i*s.size) s.size]
  rw [Nat.succ_mul] at hrb
  exact hra.append hrb
theorem add_none (b o n:Nat):(⟨b,o,none⟩:Addr).add n=⟨b,o+n,none⟩:=by
 unfold Addr.add
 split
 ·rename_i h; subst h; rfl
 ·rfl
theorem wf_one {k:IntKind} {n:Int}:one (.int k n):=by intro l; exact ⟨by simp,by simp⟩
theorem Shape.read : ∀ (s : Shape), Read enc P w sp hd s
  | .int k => fun t hf n cs x hx => by
    have hu : P.underlying t = some (.int k) := by
      unfold Shape.fits at hf
      split at hf
      · rename_i k' h; rw [h, of_decide_eq_true hf]
      · cases hf
    obtain ⟨m, rfl, _, hw⟩ := DataW.trod_int hu hx
    exact ⟨_, ⟨m, rfl, hw⟩, .one (.v _ wf_one)⟩
  | .bool => fun t hf n cs x hx => by
    have hu : P.underlying t = some .bool := by
      unfold Shape.fits at hf
      split at hf
      · rename_i h; exact h
      · cases hf
    obtain ⟨b, rfl, _⟩ := DataW.trod_bool hu hx
    exact ⟨_, ⟨b, rfl⟩, .one (.v _ (by intro l; exact ⟨by simp, by simp⟩))⟩
  | .struct l => fun t hf n cs x hx => by
    unfold Shape.fits at hf
    split at hf
    · rename_i fs hu
      simp only [Bool.and_eq_true, beq_iff_eq] at hf
      obtain ⟨xs, n', rfl, _, hl, hxl, hfs⟩ := DataW.trod_struct hu hx
      obtain ⟨ts, h1, h2⟩ := readL l (fun s hs => Shape.read s) fs.toList 0 hf.2 n' cs (by rw [hl, hf.1]; omega) (fun f hfm => by
        obtain ⟨i, hi, hfi⟩ := List.mem_iff_getElem.1 hfm
        have hi' : i < fs.size := by simpa using hi
        have hg : fs[i]? = some f := by rw [Array.getElem?_eq_getElem hi']; simpa using hfi
        have := hfs i f hg
        have hxi : i < xs.length := by rw [hxl]; exact hi'
        rw [List.getElem?_eq_getElem hxi] at this
        exact ⟨_, this⟩)
      exact ⟨ts, h1, by simpa using h2⟩
    · cases hf
  | .arr m s => fun t hf n cs x hx => by
    unfold Shape.fits at hf
    split at hf
    · rename_i m' e hu
      simp only [Bool.and_eq_true, beq_iff_eq] at hf
      obtain ⟨⟨⟨rfl, h1⟩, h2⟩, h3⟩ := hf
      cases n with
      | zero => simp [DataW.trod] at hx
      | succ n =>
        unfold DataW.trod at hx
        rw [hu] at hx
        simp only at hx
        split at hx
        · rename_i hl
          obtain ⟨xs, hxs, _⟩ := Option.map_eq_some_iff.1 hx
          obtain ⟨ts, h4, h5⟩ := readN (Shape.read s) h3 m' 0 n cs (by rw [hl, h1, Nat.zero_add]) (fun j hj => by
            have := mapM_some_get hxs j j (by simp [hj])
            have hlen := mapM_some_length hxs
            rw [List.length_range] at hlen
            rw [List.getElem?_eq_getElem (by omega)] at this
            rw [h2] at this
            rw [Nat.zero_add]
            exact ⟨_, this⟩)
          exact ⟨ts, h4, by simpa using h5⟩
        · cases hx
    · cases hf
  | .slice s => fun t hf n cs x hx => by
    unfold Shape.fits at hf
    split at hf
    · rename_i e hu
      simp only [Bool.and_eq_true, beq_iff_eq, decide_eq_true_eq] at hf
      obtain ⟨⟨h1, h2⟩, h3⟩ := hf
      rcases DataW.trod_slice hu hx with ⟨rfl, _⟩ | ⟨a, len, cap, elems, rest, n', rfl, rfl, _, _, hlc, hcap, hel, hread, _, _⟩
      · refine ⟨[.lst false []], ⟨false, [], rfl, by simp, by simp⟩, .one (.lst false [] none 0 0 0 0 (fun _ _ => default) (by simp) (by omega) (by simp) (by simp) (by simp) (by simp) (by simp) (fun i j t ht => by simp [at2] at ht) (fun i j t ht => by simp [at2] at ht))⟩
      · have hm : maxLen = 2 ^ 63 - 1 := rfl
        have hrow : ∀ i, i < len -> ∃ ts css, s.ok ts /\ TRepL w ts css /\ w.cells? 0 (a.add (i * s.size)) s.size = some css := fun i hi => by
          have hr := hread i hi
          rw [List.getElem?_eq_getElem (by omega), h1] at hr
          obtain ⟨css, hc, hx2⟩ := Option.bind_eq_some_iff.1 hr
          obtain ⟨ts, h4, h5⟩ := Shape.read s e h3 _ _ _ hx2
          exact ⟨ts, css, h4, h5, hc⟩
        let f : Nat -> List Tree := fun i => if h : i < len then (hrow i h).choose else []
        let g : Nat -> List Value := fun i => if h : i < len then (hrow i h).choose_spec.choose else []
        have hfg : ∀ i, i < len -> s.ok (f i) /\ TRepL w (f i) (g i) /\ w.cells? 0 (a.add (i * s.size)) s.size = some (g i) := fun i hi => by
          have hfi : f i = (hrow i hi).choose := dif_pos hi
          have hgi : g i = (hrow i hi).choose_spec.choose := dif_pos hi
          rw [hfi, hgi]
          exact (hrow i hi).choose_spec.choose_spec
        have hspot : 0 < len -> a = ⟨a.block, a.off, none⟩ /\ a.block < w.heap.size := fun h0 => by
          obtain ⟨hok, hrep, hc⟩ := hfg 0 h0
          obtain ⟨_, hl, hce⟩ := World.cells?_some hc
          have := hce 0 h2
          rw [List.getElem?_eq_getElem (by omega)] at this
          have ha : (a.add (0 * s.size)).add 0 = a := by simp [Addr.add]
          rw [ha] at this
          refine ⟨?_, ?_⟩
          · unfold World.cell? at this
            split at this
            · split at this
              · cases this
              · rename_i hs
                obtain ⟨b, o, sp'⟩ := a
                cases sp' with
                | none => rfl
                | some _ => simp at hs
            · cases this
          · have := World.cells?_block hc h2
            simpa [Addr.add] using this
        have hrows : ∀ i, (((List.range len).map f)[i]?) = if i < len then some (f i) else none := fun i => by
          rw [List.getElem?_map]
          by_cases h : i < len
          · rw [if_pos h, List.getElem?_range h]; rfl
          · rw [if_neg h, List.getElem?_eq_none (by simpa using h)]; rfl
        have hat : ∀ i j t, at2 ((List.range len).map f) i j = some t -> i < len /\ (f i)[j]? = some t := fun i j t ht => by
          unfold at2 at ht
          rw [hrows] at ht
          by_cases h : i < len
          · rw [if_pos h] at ht; exact ⟨h, ht⟩
          · rw [if_neg h] at ht; cases ht
        have hcell : ∀ i j t, at2 ((List.range len).map f) i j = some t -> ∃ v, (g i)[j]? = some v /\ w.cell? ⟨a.block, a.off + i * s.size + j, none⟩ = some v /\ TRep (old w) w t v /\ a.block < w.heap.size := fun i j t ht => by
          obtain ⟨hi, hj⟩ := hat i j t ht
          obtain ⟨hok, hrep, hc⟩ := hfg i hi
          obtain ⟨_, hl, hce⟩ := World.cells?_some hc
          have hjl : j < s.size := by
            have := (List.getElem?_eq_some_iff.1 hj).1
            rw [s.ok_len _ hok] at this; exact this
          have hv := hce j hjl
          obtain ⟨hs1, hs2⟩ := hspot (by omega)
          refine ⟨(g i)[j]'(by omega), List.getElem?_eq_getElem (by omega), ?_, hrep.2 j t _ hj (List.getElem?_eq_getElem (by omega)), hs2⟩
          rw [List.getElem?_eq_getElem (by omega)] at hv
          rw [<- hv]
          rw [hs1, add_none, add_none]
        refine ⟨[.lst false ((List.range len).map f)], ⟨false, _, rfl, by rw [List.length_map, List.length_range]; omega, fun r hr => ?_⟩, ?_⟩
        · obtain ⟨i, hi, rfl⟩ := List.mem_map.1 hr
          exact (hfg i (List.mem_range.1 hi)).1
        · refine .one ?_
          have hl : ((List.range len).map f).length = len := by rw [List.length_map, List.length_range]
          have := TRep.lst (S := old w) (w := w) false ((List.range len).map f) (some a) a.block a.off s.size cap (fun i j => ((g i)[j]?).getD default) (by rw [hl]; exact hlc) (by omega) (by rw [hl]; omega) (by simp)
            (fun hne => by rw [(hspot (by rcases Nat.eq_zero_or_pos len with h | h; · subst h; simp at hne
                                          · exact h)).1]) (by simp)
            (fun r hr => by obtain ⟨i, hi, rfl⟩ := List.mem_map.1 hr; exact s.ok_len _ (hfg i (List.mem_range.1 hi)).1)
            (fun i j t ht => by obtain ⟨v, h4, h5, h6, h7⟩ := hcell i j t ht; exact ⟨h7, by rw [h5, h4]; rfl⟩)
            (fun i j t ht => by obtain ⟨v, h4, h5, h6, h7⟩ := hcell i j t ht; rw [h4]; exact h6)
          rw [hl] at this
          exact this
    · cases hf
termination_by s=>SizeOf.sizeOf s
def Shape.tv (s:Shape) (ts:List Tree):TV:=
 match s,ts with
 | .struct _,ts=>.agg ts
 | .arr _ _,ts=>.agg ts
 | _,[t]=>.c t
 | _,ts=>.agg ts
def isAggT (P:Program) (t:TypeId):Bool:=match P.underlying t with
 | some (.struct _) | some (.array _ _)=>true
 | _=>false
theorem Shape.rep {s:Shape} {t:TypeId} (hf:s.fits P t=true) {v:Value} (hok:Value.okWide P w .any 0 t v) {ts:List Tree} (hs:s.ok ts) (h:TRepL w ts v.cells.toList):VRep noβ (old w) w (s.tv ts).av v:=by
 have agg:∀ (cs:Array Value),v=.agg cs->VRep noβ (old w) w (TV.agg ts).av v:=fun cs hv=>by
  subst hv
  have:Array.mk cs.toList=cs:=rfl
  rw [show TV.av (.agg ts)=AV.agg (ts.map .t) from rfl,<- this]
  refine .agg cs.toList (by rw [List.length_map]; exact h.1.symm) fun i c hc=>?_
  rw [List.getElem?_map] at hc
  obtain ⟨t',ht,rfl⟩:=Option.map_eq_some_iff.1 hc
  have hi:=(List.getElem?_eq_some_iff.1 ht).1
  have hi2:i < cs.toList.length:=by have:=h.1; simp only [Value.cells] at this; omega
  exact ⟨_,List.getElem?_eq_getElem hi2,.t (h.2 i t' _ ht (List.getElem?_eq_getElem hi2))⟩
 have scal:isAggT P t=false->ts.length=1->VRep noβ (old w) w (match ts with | [t]=>TV.c t | ts=>.agg ts).av v:=fun hna hl=>by
  match ts,hl,h with
  | [t'],_,h=>
   have hc:v.cells=#[v]:=by
    cases v with
    | agg cs=>
     unfold Value.okWide at hok
     unfold isAggT at hna
     split at hok
     ·rename_i h1; rw [h1] at hna; cases hna
     ·rename_i h1; rw [h1] at hna; cases hna
     ·unfold Cell.okWide at hok
      split at hok <;> first | (rename_i h1 h2; cases h2; done) | skip
      all_goals first | (unfold Cell.ok at hok; split at hok <;> first | (rename_i h1 h2; cases h2; done) | exact hok.elim) | skip
    | _=>rfl
   have:=h.2 0 t' v rfl (by rw [hc]; rfl)
   exact .c (.t this)
 cases s with
 | int k=>
  have hu:P.underlying t=some (.int k):=by
   unfold Shape.fits at hf
   split at hf
   ·rename_i k' h; rw [h,of_decide_eq_true hf]
   ·cases hf
  obtain ⟨m,rfl,_⟩:=hs
  exact scal (by unfold isAggT; rw [hu]) rfl
 | bool=>
  have hu:P.underlying t=some .bool:=by
   unfold Shape.fits at hf
   split at hf
   ·rename_i h; exact h
   ·cases hf
  obtain ⟨m,rfl⟩:=hs
  exact scal (by unfold isAggT; rw [hu]) rfl
 | slice s=>
  unfold Shape.fits at hf
  split at hf
  ·rename_i e hu
   obtain ⟨_,_,rfl,_⟩:=hs
   exact scal (by unfold isAggT; rw [hu]) rfl
  ·cases hf
 | struct l=>
  unfold Shape.fits at hf
  split at hf
  ·rename_i fs hu
   unfold Value.okWide at hok
   rw [hu] at hok
   obtain ⟨cs,hv,_⟩:=hok
   exact agg cs hv
  ·cases hf
 | arr n s=>
  unfold Shape.fits at hf
  split at hf
  ·rename_i m e hu
   unfold Value.okWide at hok
   rw [hu] at hok
   obtain ⟨cs,hv,_⟩:=hok
   exact agg cs hv
  ·cases hf
def okAll:List Shape->List (List Tree)->Prop
 | [],l=>l=[]
 | s :: ss,l=>∃ ts r,l=ts :: r/\s.ok ts/\okAll ss r
def tvs:List Shape->List (List Tree)->List TV
 | s :: ss,ts :: r=>s.tv ts :: tvs ss r
 | _,_=>[]
def fitsAll (P:Program):List TypeId->List Shape->Bool
 | [],[]=>true
 | t :: ts,s :: ss=>s.fits P t && decide (t < P.types.size) && P.readableRec t && fitsAll P ts ss
 | _,_=>false
theorem args_read:∀ {tys:List TypeId} {shs:List Shape} {vs:List Value} {ds:List (DataW H)} {ps:List MemPlace},DataW.TrodAll enc P w 0 sp true tys vs ds ps->fitsAll P tys shs=true ->
  (∀ (j:Nat) t v,tys[j]?=some t->vs[j]?=some v->Value.okWide P w .any 0 t v) ->
  ∃ tss,okAll shs tss/\vs.length=(tvs shs tss).length/\ds.length=shs.length/\∀ (i:Nat) (x:TV),(tvs shs tss)[i]?=some x->∃ v,vs[i]?=some v/\VRep noβ (old w) w x.av v
 | [],[],[],[],ps,h,hf,hv=>⟨[],rfl,rfl,rfl,fun i x hx=>by simp [tvs] at hx⟩
 | t :: ts,s :: ss,v :: vs,d :: ds,ps,h,hf,hv=>by
  obtain ⟨p,q,⟨n,h1⟩,h2,_⟩:=h
  simp only [fitsAll,Bool.and_eq_true] at hf
  obtain ⟨⟨⟨f1,f2⟩,f3⟩,f4⟩:=hf
  obtain ⟨tss,g1,g2,g3,g4⟩:=args_read h2 f4 (fun j t v ht hx=>hv (j+1) t v (by simpa using ht) (by simpa using hx))
  obtain ⟨tr,k1,k2⟩:=s.read t f1 n _ _ h1
  refine ⟨tr :: tss,⟨tr,tss,rfl,k1,g1⟩,by simp [tvs,g2],by simp [g3],fun i x hx=>?_⟩
  cases i with
  | zero=>
   simp only [tvs,List.getElem?_cons_zero,Option.some.injEq] at hx
   subst hx
   exact ⟨v,rfl,Shape.rep f1 (hv 0 t v rfl rfl) k1 k2⟩
  | succ i=>simp only [tvs,List.getElem?_cons_succ] at hx ⊢; exact g4 i x hx
 | [],_ :: _,_,_,_,_,hf,_=>by simp [fitsAll] at hf
 | _ :: _,[],_,_,_,_,hf,_=>by simp [fitsAll] at hf
 | [],[],_ :: _,_,_,h,_,_=>by simp [DataW.TrodAll] at h
 | [],[],[],_ :: _,_,h,_,_=>by simp [DataW.TrodAll] at h
 | _ :: _,_ :: _,[],_,_,h,_,_=>by simp [DataW.TrodAll] at h
 | _ :: _,_ :: _,_ :: _,[],_,h,_,_=>by simp [DataW.TrodAll] at h
theorem args_stay (hl:laidOutB P=true) {W W':World} {sp':Nat->Bool} (hb:Below W.heap.size W W'):∀ {tys:List TypeId} {shs:List Shape} {vs:List Value} {ds:List (DataW H)} {ps:List MemPlace},DataW.TrodAll enc P W 0 (fun _=>true) true tys vs ds ps->fitsAll P tys shs=true ->
  (∀ p ∈ ps,p.block < W.heap.size)->(∀ p ∈ ps,sp' p.block=true)->DataW.TrodAll enc P W' 0 sp' true tys vs ds ps
 | [],[],[],[],ps,h,hf,h1,h2=>h
 | t :: ts,s :: ss,v :: vs,d :: ds,ps,h,hf,h1,h2=>by
  obtain ⟨p,q,k1,k2,rfl⟩:=h
  simp only [fitsAll,Bool.and_eq_true,decide_eq_true_eq] at hf
  obtain ⟨⟨⟨f1,f2⟩,f3⟩,f4⟩:=hf
  exact ⟨p,q,Go.WideElems.Trod_stays hl f3 f2 k1 (fun x hx=>hb.same (h1 x (List.mem_append_left _ hx))) (fun x hx=>h2 x (List.mem_append_left _ hx)),
   args_stay hl hb k2 f4 (fun x hx=>h1 x (List.mem_append_right _ hx)) (fun x hx=>h2 x (List.mem_append_right _ hx)),rfl⟩
 | [],_ :: _,_,_,_,_,hf,_,_=>by simp [fitsAll] at hf
 | _ :: _,[],_,_,_,_,hf,_,_=>by simp [fitsAll] at hf
 | [],[],_ :: _,_,_,h,_,_,_=>by simp [DataW.TrodAll] at h
 | [],[],[],_ :: _,_,h,_,_,_=>by simp [DataW.TrodAll] at h
 | _ :: _,_ :: _,[],_,_,h,_,_,_=>by simp [DataW.TrodAll] at h
 | _ :: _,_ :: _,_ :: _,[],_,h,_,_,_=>by simp [DataW.TrodAll] at h
theorem law_row {f:FuncId} {fn:Func} {spec:ChangeSpec} {shs:List Shape} {outs:List (Option Blk)} (hl:laidOutB P=true) (hf:fitsAll P fn.params.toList shs=true) (hvars:spec.vars=[]) {tb0:TypeId} (hres:fn.resultTypes=#[tb0]) (hb4:P.underlying tb0=some .bool)
  {apart fresh handsOn again:Bool} (hfn:∀ ds:List (DataW H),ds.length=shs.length->(spec.fn H ds).args=ds/\(spec.fn H ds).results=[.lit (.bool true)]/\(spec.fn H ds).vars=[])
  (hc:∀ tss,okAll shs tss->ACall P f ((tvs shs tss).map .val) ⟨[.val (tb true)],outs⟩)
  {W:World} {args:Array Value} {ds gs:List (DataW H)} {before:List MemPlace} (hval:∀ (j:Nat) t v,fn.params[j]?=some t->args[j]?=some v->Value.okWide P W .any 0 t v)
  (hW:DataW.Whole enc P fn.params.toList spec.vars apart W args.toList ds gs before) :
  Calls P f args W fun e W'=>∃ v,e=.returned v/\spec.post enc P fn apart fresh handsOn again W args v W':=by
 have hW':=hW
 obtain ⟨p,q,hA,hV,rfl,hfz,hnd⟩:=hW
 rw [hvars] at hV
 have hgq:gs=[]/\q=[]:=by
  cases gs with
  | nil=>exact ⟨rfl,hV⟩
  | cons g gs=>exact hV.elim
 obtain ⟨rfl,rfl⟩:=hgq
 obtain ⟨tss,hok,hlen,hdl,hrep⟩:=args_read hA hf (fun j t v ht hv=>hval j t v (by simpa using ht) (by simpa using hv))
 have h:=law_calls (hc tss hok) W args.toList hlen hrep
 have hargs:args.toList.toArray=args:=rfl
 rw [hargs] at h
 obtain ⟨e1,e2,e3⟩:=hfn ds hdl
 have hbefore:∀ x ∈ p,x.block < W.heap.size:=fun x hx=>hW'.lt x (List.mem_append_left _ hx)
 refine h.mono fun e W' ⟨he,hg⟩=>?_
 subst he
 refine ⟨_,rfl,post_of_below (pa:=p) (pv:=[]) hW' (fun b sp hd=>?_) (fun sp hs=>?_) (fun sp hs=>?_) rfl hg ?_⟩
 ·rw [List.append_nil,e2,hres]
  exact trodAll_cons_mk (shut_bool hb4 _) trodAll_mk0
 ·rw [List.append_nil,e1]
  exact args_stay hl hg hA hf hbefore (fun x hx=>hs x (List.mem_append_left _ hx))
 ·rw [List.append_nil,e3,hvars]; rfl
 ·exact ok_one hres rfl (okWide_bool_mk hb4 _)
end
end Go.Abs
end
section
namespace Go.Proofs.YtjfmkcmepdedaaaGreat
open Go Go.Abs Go.Abs.M Go.Proofs
theorem kvf_qs {R:Nat->List Rat} {p:Nat->Nat} {j n w Q:Nat} (hl:∀ i,i < n->(R i).length=w) (hq:∀ i,i < n->∀ q ∈ R i,Qs q Q) (hQ:1<=Q) (hj:j < w):∀ k,k<=n->∀ y,Qs (kvf R p j k y) Q
 | 0,_,y=>by
  unfold kvf
  split
  ·exact Qs.whole (n:=1) (by decide) hQ
  ·exact Qs.zero hQ
 | k+1,hk,y=>by
  unfold kvf
  split
  ·exact Qs.neg (hq k (by omega) _ (by rw [List.getD_eq_getElem?_getD,List.getElem?_eq_getElem (by rw [hl k (by omega)]; exact hj)]; exact List.getElem_mem _))
  ·exact kvf_qs hl hq hQ hj k (by omega) y
theorem krow_qs {R:Nat->List Rat} {p:Nat->Nat} {j n w Q k:Nat} (hl:∀ i,i < n->(R i).length=w) (hq:∀ i,i < n->∀ q ∈ R i,Qs q Q) (hQ:1<=Q) (hj:j < w) (hk:k<=n):∀ q ∈ krow w R p k j,Qs q Q:=fun q h=>by
 obtain ⟨y,_,rfl⟩:=List.mem_map.1 h
 exact kvf_qs hl hq hQ hj k hk y
theorem kerB_mr (w:Nat) (R:Nat->List Rat) (p:Nat->Nat) (k y:Nat):kerB w R p k y=mr (frL p k y).length fun i=>krow w R p k ((frL p k y).getD i 0):=by
 unfold kerB mr
 refine List.ext_getElem? fun i=>?_
 by_cases h:i < (frL p k y).length
 ·rw [List.getElem?_map,List.getElem?_map,List.getElem?_range h,List.getElem?_eq_getElem h]
  simp [List.getD_eq_getElem?_getD,List.getElem?_eq_getElem h]
 ·rw [List.getElem?_eq_none (by simp; omega),List.getElem?_eq_none (by simp; omega)]
theorem ints8_ok:∀ rows:List (List Tree),(∀ r ∈ rows,(Shape.int .i8).ok r)->∃ V:List Int,rows=W .i8 V/\∀ v ∈ V,-128<=v/\v < 128
 | [],_=>⟨[],rfl,by simp⟩
 | r :: rs,h=>by
  obtain ⟨V,h1,h2⟩:=ints8_ok rs fun r hr=>h r (List.mem_cons_of_mem _ hr)
  obtain ⟨v,rfl,hv⟩:=h r List.mem_cons_self
  refine ⟨v :: V,by rw [h1]; rfl,fun x hx=>?_⟩
  rcases List.mem_cons.1 hx with rfl | hx
  ·exact bd_i8 hv
  ·exact h2 x hx
def raw11:Shape:=.struct [.slice (.int .i8)]
open Go Go.Abs Go.Abs.M Go.Proofs
def rsrSt (X:Abs.Rows) (i:Int):St:=mkSt 27 [.c (.t (.lst false X)),.c (.t (.lst false X)),.junk,.junk,vb false,vi .i64 i] [none,none]
theorem rsrow_call (P:List Rat) (K:Nat) (hl:P.length<=1000) (h1:∀ q ∈ P,Qs q K) (hK:K<=68719476736) :
  ACall Tryz.prog 26 [.val (tl (ur P)),.val (tl (ur P))] ⟨[.val (tb true)],[none,none]⟩:=by
 obtain ⟨m,hm⟩:∃ m,m=P.length:=⟨_,rfl⟩
 obtain ⟨X,hX⟩:∃ Y,Y=ur P:=⟨_,rfl⟩
 have hXl:X.length=m:=by rw [hX,qag,hm]
 have hc:∀ i,i < m->∃ (s t:Bool) (r p:Abs.Rows),X[i]?=some [.v (.bool s),.lst false r,.v (.bool t),.lst false p]/\ACall Tryz.prog 18 [.val (.agg [.v (.bool s),.lst false r,.v (.bool t),.lst false p]),.val (.agg [.v (.bool s),.lst false r,.v (.bool t),.lst false p])] ⟨[.val (tb true)],[none,none]⟩:=fun i hi=>by
  have hPi:P[i]?=some P[i]:=List.getElem?_eq_getElem (by omega)
  have u:=qat hPi
  have c:=rqsame_row (h1 _ (List.mem_of_getElem? hPi)) rfl hK
  obtain ⟨s,t,r,p,hrow,_⟩:=qrow P[i]
  rw [hrow] at u c
  exact ⟨s,t,r,p,by rw [hX]; exact u,c⟩
 rw [<- hX]
 refine callZ ccOk mixed [.val] Tryz.func26 rfl rfl (by kernel_rfl) fun zA zB zC zD zE zF zG zH zI zJ zK zL zM zN zO zP zQ zR zT zU zV zX zY zZ zb zc zd ze zg zh zi zj zk zl zm zn zo zq zr zs zt zu zx zy zz zmget zmset zW zth A L F hS hF=>?_
 have e1:zN (zZ (zj X)) (zZ (zj X))=false:=by rw [hS.ne]; exact decide_eq_false (by simp)
 have zn1:zQ true=false:=by rw [hS.not]; rfl
 cbv
 refine bF e1 ?_
 refine loopZ ccOk mixed hS (fun (j:Nat) s'=>∃ (i:Nat) (I:Int),I=i/\i+j=m/\s'=rsrSt X I) (n:=m) (s0:=rsrSt X 0) (qan ?_ ?_) rfl (by show 2<=2; omega) ?_ ?_
 ·simp [leT,rsrSt,mkSt,vi,vb]
 ·simp [leH,rsrSt,mkSt]
 ·exact ⟨0,0,rfl,by omega,rfl⟩
 ·rintro j s1 ⟨i,I,hI,hij,hs1⟩
  by_cases hi:i < m
  ·have l1:zO I (zZ (zj X))=true:=by rw [hS.lt,hS.ofN,hS.len,hXl]; exact decide_eq_true (by omega)
   obtain ⟨s,t,r,p,u,cs⟩:=hc i hi
   have j2:zk X i=some [.v (.bool s),.lst false r,.v (.bool t),.lst false p]:=by rw [hS.nth]; exact u
   have j1:zX I=i:=by rw [hS.nat]; omega
   have n0:zP 0 I=true:=by rw [hS.le]; exact decide_eq_true (by omega)
   obtain ⟨I',hI',i1⟩:∃ I':Int,I'=((i+1:Nat):Int)/\zA .i64 (zB I 1)=I':=⟨I+1,by omega,by rw [hS.add,hS.wrap,wrap_i64 (by omega) (by omega)]⟩
   have hjj:j - 1 < j:=by omega
   have hnx:∃ (i2:Nat) (I2:Int),I2=i2/\i2+(j - 1)=m/\rsrSt X I'=rsrSt X I2:=⟨i+1,I',hI',by omega,rfl⟩
   subst hs1
   cbv
   refine bT l1 ?_
   rw [j1,j2]
   cbv
   refine nd (n0) ?_
   rw [j1,j2]
   cbv
   refine nd (n0) ?_
   refine ⟨_,hS.call (cs),?_⟩
   cbv
   refine bF (zn1) ?_
   exact again (s':=rsrSt X I') (m:=j - 1) (by simp [leT,rsrSt,mkSt,vi,vb,i1]) (by simp [leH,rsrSt,mkSt]) rfl (by show 2<=2; omega) hjj hnx
  ·have l1:zO I (zZ (zj X))=false:=by rw [hS.lt,hS.ofN,hS.len,hXl]; exact decide_eq_false (by omega)
   subst hs1
   cbv
   refine bF l1 ?_
   exact hF _ (ResLe.refl _)
def rsmSt (X:Abs.Rows) (i:Int):St:=mkSt 27 [.c (.t (.lst false X)),.c (.t (.lst false X)),.junk,.junk,vb false,vi .i64 i] [none,none]
theorem rsame_call (m:Nat) (M:Nat->List Rat) (w K:Nat) (hm:m<=1000) (hw:w<=1000) (hl:∀ i,i < m->(M i).length=w) (h1:∀ i,i < m->∀ q ∈ M i,Qs q K) (hK:K<=68719476736) :
  ACall Tryz.prog 19 [.val (tl (mr m M)),.val (tl (mr m M))] ⟨[.val (tb true)],[none,none]⟩:=by
 obtain ⟨X,hX⟩:∃ Y,Y=mr m M:=⟨_,rfl⟩
 have hXl:X.length=m:=by rw [hX,qa6]
 have hc:∀ i,i < m->∃ R:Abs.Rows,X[i]?=some [.lst false R]/\ACall Tryz.prog 26 [.val (tl R),.val (tl R)] ⟨[.val (tb true)],[none,none]⟩:=fun i hi=>⟨_,by rw [hX]; exact qbf hi,rsrow_call (M i) K (by rw [hl i hi]; exact hw) (h1 i hi) hK⟩
 rw [<- hX]
 clear hl h1
 refine callZ ccOk mixed [.val] Tryz.func19 rfl rfl (by kernel_rfl) fun zA zB zC zD zE zF zG zH zI zJ zK zL zM zN zO zP zQ zR zT zU zV zX zY zZ zb zc zd ze zg zh zi zj zk zl zm zn zo zq zr zs zt zu zx zy zz zmget zmset zW zth A L F hS hF=>?_
 have e1:zN (zZ (zj X)) (zZ (zj X))=false:=by rw [hS.ne]; exact decide_eq_false (by simp)
 have zn1:zQ true=false:=by rw [hS.not]; rfl
 cbv
 refine bF e1 ?_
 refine loopZ ccOk mixed hS (fun (j:Nat) s'=>∃ (i:Nat) (I:Int),I=i/\i+j=m/\s'=rsmSt X I) (n:=m) (s0:=rsmSt X 0) (qan ?_ ?_) rfl (by show 2<=2; omega) ?_ ?_
 ·simp [leT,rsmSt,mkSt,vi,vb]
 ·simp [leH,rsmSt,mkSt]
 ·exact ⟨0,0,rfl,by omega,rfl⟩
 ·rintro j s1 ⟨i,I,hI,hij,hs1⟩
  by_cases hi:i < m
  ·have l1:zO I (zZ (zj X))=true:=by rw [hS.lt,hS.ofN,hS.len,hXl]; exact decide_eq_true (by omega)
   obtain ⟨R,u,cs⟩:=hc i hi
   have j2:zk X i=some [.lst false R]:=by rw [hS.nth]; exact u
   have j1:zX I=i:=by rw [hS.nat]; omega
   have n0:zP 0 I=true:=by rw [hS.le]; exact decide_eq_true (by omega)
   obtain ⟨I',hI',i1⟩:∃ I':Int,I'=((i+1:Nat):Int)/\zA .i64 (zB I 1)=I':=⟨I+1,by omega,by rw [hS.add,hS.wrap,wrap_i64 (by omega) (by omega)]⟩
   have hjj:j - 1 < j:=by omega
   have hnx:∃ (i2:Nat) (I2:Int),I2=i2/\i2+(j - 1)=m/\rsmSt X I'=rsmSt X I2:=⟨i+1,I',hI',by omega,rfl⟩
   subst hs1
   cbv
   refine bT l1 ?_
   rw [j1,j2]
   cbv
   refine nd (n0) ?_
   rw [j1,j2]
   cbv
   refine nd (n0) ?_
   refine ⟨_,hS.call (cs),?_⟩
   cbv
   refine bF (zn1) ?_
   exact again (s':=rsmSt X I') (m:=j - 1) (by simp [leT,rsmSt,mkSt,vi,vb,i1]) (by simp [leH,rsmSt,mkSt]) rfl (by show 2<=2; omega) hjj hnx
  ·have l1:zO I (zZ (zj X))=false:=by rw [hS.lt,hS.ofN,hS.len,hXl]; exact decide_eq_false (by omega)
   subst hs1
   cbv
   refine bF l1 ?_
   exact hF _ (ResLe.refl _)
open Go Go.Abs Go.Abs.M Go.Proofs
theorem mclone_own (P:List Rat) (c:Nat) (hL:P.length=c+1) (hP:P.length<=1000):ACall Tryz.prog 56 [.bor 4 (ur P)] ⟨[.own 4 (ur P)],[some (.rows 4 (ur P) false false)]⟩:=by
 obtain ⟨X,hX⟩:∃ X,X=ur P:=⟨_,rfl⟩
 have lX:X.length=c+1:=by rw [hX,qag,hL]
 have w4:(X.all fun r=>r.length == 4)=true:=by
  rw [hX]
  refine List.all_eq_true.2 fun r hr=>?_
  obtain ⟨c,_,rfl⟩:=List.mem_map.1 hr
  rfl
 rw [<- hX]
 refine callZ ccOk mixed [.own 4] Tryz.func56 rfl rfl (by kernel_rfl) fun zA zB zC zD zE zF zG zH zI zJ zK zL zM zN zO zP zQ zR zT zU zV zX zY zZ zb zc zd ze zg zh zi zj zk zl zm zn zo zq zr zs zt zu zx zy zz zmget zmset zW zth A L F hS hF=>?_
 have e0:zj X=c+1:=by rw [hS.len,lX]
 have e1:zr X 0 (Nat.succ c)=X:=by rw [hS.part,List.drop_zero,List.take_of_length_le (by omega)]
 have e2:zc (zj X) 0=false:=by rw [hS.len,hS.neq]; exact decide_eq_false (by omega)
 have e3:zq 0 (Nat.succ c) X=true:=by rw [hS.fit]; exact decide_eq_true (by omega)
 have e4:zQ (zc (zj X) 0)=true:=by rw [e2,hS.not]; rfl
 have e5:zx 4 X=true:=by rw [hS.wide]; exact w4
 have e6:zh 0 (zj X) 64=true:=by rw [hS.len,hS.room]; exact decide_eq_true (by unfold capBytes; omega)
 have e7:zc (zd 0 0) (zj [])=true:=by rw [hS.nadd,hS.len,hS.neq]; rfl
 have e8:zs [] 0 X=X:=by rw [hS.ext]; rfl
 have e9:zc (zd 0 (zj X)) (zj (zs [] 0 X))=true:=by rw [e8,hS.nadd,hS.neq,Nat.zero_add]; exact decide_eq_true rfl
 have e10:zc (zj X) (zj X)=true:=by rw [hS.neq]; exact decide_eq_true rfl
 cbv
 rw [e0]
 cbv
 rw [e1]
 refine bF rfl (bF e2 (nd e3 (nd e4 (nd e5 (nd e6 (nd e7 (nd e9 (nd e10 ?_))))))))
 rw [e8]
 exact hF _ (ResLe.refl _)
theorem mwidth_own (n w:Nat) (hn:n<=4) (h0:n=0->w=0) (X:Nat->Abs.Rows):HCall Tryz.prog 80 ⟨[.c (.sl 0 0 n false)],mrh n w X⟩ ⟨[vi .i64 (w:Int)],mrh n w X⟩:=by
 obtain ⟨T,hT⟩:∃ T:Int,T=(w:Int):=⟨_,rfl⟩
 rw [<- hT]
 by_cases hn0:n=0
 ·subst hn0
  refine hcallZ ccOk mixed Tryz.func80 rfl rfl (by kernel_rfl) rfl (by simp [mrh]) fun zA zB zC zD zE zF zG zH zI zJ zK zL zM zN zO zP zQ zR zT zU zV zX zY zZ zb zc zd ze zg zh zi zj zk zl zm zn zo zq zr zs zt zu zx zy zz zmget zmset zW zth A L G hS hG=>?_
  obtain rfl:zZ=fun a:Nat=>(a:Int):=by funext a; exact hS.ofN a
  have e1:zM (Int.ofNat 0) 0=true:=by rw [hS.eq]; rfl
  have hT0:T=0:=by rw [hT,h0 rfl]; rfl
  cbv
  refine bT e1 ?_
  refine endR hG [] ?_ ?_ ?_ ?_
  ·simp [leTR,vi,AV.ren,AV.noTup,Cell.ren,hT0]
  ·simp [leHR,mrh,Abs.look,renF,Blk.ren,Cell.ren,List.range,List.range.loop]
  ·simp [liveR,mrh,List.range,List.range.loop]
  ·simp
 ·obtain rfl | rfl | rfl | rfl:n=1 ∨ n=2 ∨ n=3 ∨ n=4:=by omega
  all_goals
   refine hcallZ ccOk mixed Tryz.func80 rfl rfl (by kernel_rfl) rfl (by simp [mrh]) fun zA zB zC zD zE zF zG zH zI zJ zK zL zM zN zO zP zQ zR zT zU zV zX zY zZ zb zc zd ze zg zh zi zj zk zl zm zn zo zq zr zs zt zu zx zy zz zmget zmset zW zth A L G hS hG=>?_
   obtain rfl:zZ=fun a:Nat=>(a:Int):=by funext a; exact hS.ofN a
   have e1:∀ c:Nat,zM (Int.ofNat (c+1)) 0=false:=fun c=>by rw [hS.eq]; exact decide_eq_false (show ¬(((c+1:Nat):Int)=0) by omega)
   cbv
   refine bF (e1 _) ?_
   refine endR hG [] ?_ ?_ ?_ ?_
   ·simp [leTR,vi,AV.ren,AV.noTup,Cell.ren,hT]
   ·simp [leHR,mrh,Abs.look,renF,Blk.ren,Cell.ren,List.range,List.range.loop]
   ·simp [liveR,mrh,renF,List.range,List.range.loop]
   ·simp
def mqoSt (n i w:Nat) (X:Nat->Abs.Rows) (I:Int):St:=mkSt 26 [.junk,.c (.t (.v (.func (.func 56) #[] #[]))),.junk,.junk,.junk,.c (.sl (n+1) 0 n false),.junk,.junk,.junk,.junk,.junk,.c (.sl 0 0 n false),vi .i64 n,vi .i64 I] (mrh n w X ++ mqh n i (n+2) w X)
theorem mqapp_own (n:Nat) (hn:n<=4) (M:Nat->List Rat) (w:Nat) (hw:w < 1000) (hl:∀ i,i < n->(M i).length=w+1) {X:Nat->Abs.Rows} (hX:∀ i,i < n->X i=ur (M i)) :
  HCall Tryz.prog 55 ⟨[.c (.sl 0 0 n false),.c (.t (.v (.func (.func 56) #[] #[])))],mrh n (w+1) X⟩ ⟨[.c (.sl (n+1) 0 n false)],mrh n (w+1) X ++ mqh n n (n+2) (w+1) X⟩:=by
 have c:∀ i,i < n->(X i).length=w+1/\ACall Tryz.prog 56 [.bor 4 (X i)] ⟨[.own 4 (X i)],[some (.rows 4 (X i) false false)]⟩:=fun i hi=>⟨by rw [hX i hi,qag,hl i hi],by rw [hX i hi]; exact mclone_own _ w (hl i hi) (by rw [hl i hi]; omega)⟩
 clear hX hl
 obtain ⟨v,hv1⟩:∃ v,v=w+1:=⟨_,rfl⟩
 rw [<- hv1] at c ⊢
 clear hv1
 have L4:LN n:=trivial
 obtain ⟨N,hN⟩:∃ N,N=n:=⟨_,rfl⟩
 rw [<- hN] at c
 obtain rfl | rfl | rfl | rfl | rfl:n=0 ∨ n=1 ∨ n=2 ∨ n=3 ∨ n=4:=by omega
 all_goals
  refine hcallZ ccOk mixed Tryz.func55 rfl rfl (by kernel_rfl) rfl (by simp [mqh,mrh]) fun zA zB zC zD zE zF zG zH zI zJ zK zL zM zN zO zP zQ zR zT zU zV zX zY zZ zb zc zd ze zg zh zi zj zk zl zm zn zo zq zr zs zt zu zx zy zz zmget zmset zW zth A L G hS hG=>?_
  obtain rfl:zZ=fun a:Nat=>(a:Int):=by funext a; exact hS.ofN a
  have hv:L4.v=N:=hN.symm
  have kk:∀ a:Nat,zX (Int.ofNat a)=a:=fun a=>by rw [hS.nat]; rfl
  have km:zi (Int.ofNat L4.v) (Int.ofNat L4.v) 24=true:=by rw [hS.mkok]; exact decide_eq_true (by unfold capBytes; simp [LN.v])
  cbv
  refine nd km ?_
  rw [kk]
  refine loopZR ccOk mixed hS (fun (m:Nat) s'=>∃ (i:Nat) (I:Int),I=i/\m+i=N/\s'=mqoSt L4.v i v X I) (n:=N) (s0:=mqoSt L4.v 0 v X 0) (qan ?_ ?_) rfl (by simp [mqoSt,mkSt,mqh,mrh,LN.v]) ?_ ?_
  ·simp [leT,mqoSt,mkSt,vi,vb,LN.v]
  ·simp [leH,mqoSt,mkSt,mqh,mrh,LN.v,List.range,List.range.loop,List.replicate]
  ·exact ⟨0,0,rfl,by omega,rfl⟩
  ·rintro m s1 ⟨i,I,hI,hm,hs1⟩
   by_cases hi:i < N
   ·have l1:zO I (L4.v:Int)=true:=by rw [hS.lt]; exact decide_eq_true (by omega)
    obtain ⟨lX,ci⟩:=c i hi
    have f1:zq 0 v (X i)=true:=by rw [hS.fit]; exact decide_eq_true (by omega)
    have p1:zr (X i) 0 v=X i:=by rw [hS.part,List.drop_zero,List.take_of_length_le (by omega)]
    have g1:zc (zj (X i)) v=true:=by rw [hS.len,hS.neq]; exact decide_eq_true lX
    have g2:zt (X i) 0 (X i)=X i:=by rw [hS.setg]; simp [setRange,lX]
    have z:zj (X i)=v:=by rw [hS.len,lX]
    obtain ⟨I',hI',i1⟩:∃ I':Int,I'=((i+1:Nat):Int)/\zA .i64 (zB I 1)=I':=⟨I+1,by omega,by rw [hS.add,hS.wrap,wrap_i64 (by omega) (by omega)]⟩
    have i2:zA .i64 (zB (Int.ofNat i) 1)=I':=by rw [<- i1,hI]; rfl
    have hnx:∃ (i3:Nat) (I3:Int),I3=i3/\(m - 1)+i3=N/\mqoSt L4.v (i+1) v X I'=mqoSt L4.v i3 v X I3:=⟨i+1,I',hI',by omega,rfl⟩
    have hmm:m - 1 < m:=by omega
    clear c lX i1 hI'
    obtain rfl | rfl | rfl | rfl:i=0 ∨ i=1 ∨ i=2 ∨ i=3:=by omega
    all_goals first | (exfalso; omega) | skip
    all_goals
     subst hI
     subst hs1
     cbv
     refine bT l1 ?_
     refine nd f1 ?_
     rw [p1]
     refine ⟨_,hS.call (ci),?_⟩
     cbv
     refine nd (g1) ?_
     refine againR [] (s':=mqoSt L4.v (_+1) v X I') (k:=m - 1) ?_ ?_ ?_ ?_ rfl (by simp [mqoSt,mkSt,mqh,mrh,LN.v]) hmm hnx
     ·rw [i2]; simp [leTR,mqoSt,mkSt,vi,AV.ren,AV.noTup,Cell.ren,renF,LN.v,z]
     ·simp [leHR,mqoSt,mkSt,mqh,mrh,Abs.look,renF,Blk.ren,Cell.ren,LN.v,List.range,List.range.loop,z,g2]
     ·simp [liveR,mqoSt,mkSt,renF,mqh,mrh,LN.v,List.range,List.range.loop]
     ·simp
   ·have l1:zO I (L4.v:Int)=false:=by rw [hS.lt]; exact decide_eq_false (by omega)
    obtain rfl:i=N:=by omega
    clear c
    subst hN
    subst hI
    subst hs1
    cbv
    refine bF l1 ?_
    refine endR hG [] ?_ ?_ ?_ ?_
    ·simp [leTR,AV.ren,AV.noTup,Cell.ren,renF]
    ·simp [leHR,Abs.look,renF,Blk.ren,Cell.ren,mqh,mrh,List.range,List.range.loop]
    ·simp [liveR,renF,mqh,mrh,List.range,List.range.loop]
    ·simp
end Go.Proofs.YtjfmkcmepdedaaaGreat
end
