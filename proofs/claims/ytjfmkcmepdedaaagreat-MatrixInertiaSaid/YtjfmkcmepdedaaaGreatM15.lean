/-
  A part of the proof: GabsFrame, LawMxK1k, MtE.
-/
import Derived.Test.YtjfmkcmepdedaaaGreatM14
import Derived.WideKeyArgs
import Derived.OpenShut
import Derived.WalkKit
set_option maxHeartbeats 0
set_option maxRecDepth 100000
set_option linter.unusedVariables false
set_option linter.unusedSimpArgs false
set_option linter.unusedSectionVars false
section
namespace Go.Abs
open Go.RowKit Go.WideShapes Go.ChangeShapes Go.ChangeAt
inductive Shape where
 | int (k:IntKind)
 | bool
 | slice (s:Shape)
 | struct (l:List Shape)
 | arr (n:Nat) (s:Shape)
mutual
def Shape.size:Shape->Nat
 | .int _=>1
 | .bool=>1
 | .slice _=>1
 | .struct l=>sizeL l
 | .arr n s=>n*s.size
def sizeL:List Shape->Nat
 | []=>0
 | s :: l=>s.size+sizeL l
end
mutual
def Shape.fits (P:Program) (t:TypeId):Shape->Bool
 | .int k=>match P.underlying t with
  | some (.int k')=>decide (k'=k)
  | _=>false
 | .bool=>match P.underlying t with
  | some .bool=>true
  | _=>false
 | .slice s=>match P.underlying t with
  | some (.slice e)=>P.cellsOf e == s.size && decide (0 < s.size) && s.fits P e
  | _=>false
 | .struct l=>match P.underlying t with
  | some (.struct fs)=>P.cellsOf t == sizeL l && fitsL P 0 fs.toList l
  | _=>false
 | .arr n s=>match P.underlying t with
  | some (.array m e)=>m == n && P.cellsOf t == n*s.size && P.cellsOf e == s.size && s.fits P e
  | _=>false
def fitsL (P:Program) (off:Nat):List Field->List Shape->Bool
 | [],[]=>true
 | f :: fs,s :: l=>f.offset == off && P.cellsOf f.type == s.size && s.fits P f.type && fitsL P (off+s.size) fs l
 | _,_=>false
end
def okN (p:List Tree->Prop):Nat->List Tree->Prop
 | 0,ts=>ts=[]
 | n+1,ts=>∃ a b,ts=a ++ b/\p a/\okN p n b
mutual
def Shape.ok:Shape->List Tree->Prop
 | .int k,ts=>∃ n,ts=[.v (.int k n)]/\(Lit.int k n).wf=true
 | .bool,ts=>∃ b,ts=[.v (.bool b)]
 | .slice s,ts=>∃ cp rows,ts=[.lst cp rows]/\rows.length < 2 ^ 63/\∀ r ∈ rows,s.ok r
 | .struct l,ts=>okL l ts
 | .arr n s,ts=>okN s.ok n ts
def okL:List Shape->List Tree->Prop
 | [],ts=>ts=[]
 | s :: l,ts=>∃ a b,ts=a ++ b/\s.ok a/\okL l b
end
theorem okN_len {p:List Tree->Prop} {m:Nat} (hp:∀ ts,p ts->ts.length=m):∀ (n:Nat) (ts:List Tree),okN p n ts->ts.length=n*m
 | 0,ts,h=>by rw [show ts=[] from h]; simp
 | n+1,ts,⟨a,b,h1,h2,h3⟩=>by rw [h1,List.length_append,hp a h2,okN_len hp n b h3,Nat.succ_mul]; omega
mutual
theorem Shape.ok_len:∀ (s:Shape) (ts:List Tree),s.ok ts->ts.length=s.size
 | .int k,ts,h=>by obtain ⟨n,rfl,_⟩:=h; rfl
 | .bool,ts,h=>by obtain ⟨n,rfl⟩:=h; rfl
 | .slice s,ts,h=>by obtain ⟨_,_,rfl,_⟩:=h; rfl
 | .struct l,ts,h=>okL_len l ts h
 | .arr n s,ts,h=>okN_len (fun ts h=>s.ok_len ts h) n ts h
theorem okL_len:∀ (l:List Shape) (ts:List Tree),okL l ts->ts.length=sizeL l
 | [],ts,h=>by rw [show ts=[] from h]; rfl
 | s :: l,ts,h=>by
  obtain ⟨a,b,h1,h2,h3⟩:=h
  rw [h1,List.length_append,s.ok_len a h2,okL_len l b h3]; rfl
end
section
variable {H:Type} {enc:TypeId × Value->H} {P:Program} {w:World} {sp:Nat->Bool} {hd:Bool}
def TRepL (w:World) (ts:List Tree) (cs:List Value):Prop:=ts.length=cs.length/\∀ (i:Nat) (t:Tree) (v:Value),ts[i]?=some t->cs[i]?=some v->TRep (old w) w t v
theorem TRepL.append {a b:List Tree} {c d:List Value} (h1:TRepL w a c) (h2:TRepL w b d):TRepL w (a ++ b) (c ++ d):=by
 refine ⟨by rw [List.length_append,List.length_append,h1.1,h2.1],fun i t v ht hv=>?_⟩
 rcases Nat.lt_or_ge i a.length with h | h
 ·rw [List.getElem?_append_left h] at ht
  rw [List.getElem?_append_left (by rw [<- h1.1]; exact h)] at hv
  exact h1.2 i t v ht hv
 ·rw [List.getElem?_append_right h] at ht
  rw [List.getElem?_append_right (by rw [<- h1.1]; exact h),<- h1.1] at hv
  exact h2.2 _ t v ht hv
theorem TRepL.one {t:Tree} {v:Value} (h:TRep (old w) w t v):TRepL w [t] [v]:=by
 refine ⟨rfl,fun i t' v' ht hv=>?_⟩
 cases i with
 | zero=>simp at ht hv; subst ht hv; exact h
 | succ i=>simp at ht
def Read (enc:TypeId × Value->H) (P:Program) (w:World) (sp:Nat->Bool) (hd:Bool) (s:Shape):Prop:=
 ∀ (t:TypeId),s.fits P t=true->∀ (n:Nat) (cs:List Value) (x:DataW H × List MemPlace),DataW.trod enc P w 0 sp hd n t cs=some x->∃ ts,s.ok ts/\TRepL w ts cs
theorem row_split {cs:List Value} (i m:Nat):cs.drop i=(cs.drop i).take m ++ cs.drop (i+m):=by
 rw [<- List.drop_drop,List.take_append_drop]
theorem readL:∀ (l:List Shape),(∀ s ∈ l,Read enc P w sp hd s)->∀ (fs:List Field) (off:Nat),fitsL P off fs l=true->∀ (n:Nat) (cs:List Value),cs.length=off+sizeL l ->
  (∀ f ∈ fs,∃ x,DataW.trod enc P w 0 sp hd n f.type ((cs.drop f.offset).take (P.cellsOf f.type))=some x)->∃ ts,okL l ts/\TRepL w ts (cs.drop off)
 | [],hl,[],off,hf,n,cs,hn,hx=>by
  refine ⟨[],rfl,?_⟩
  rw [List.drop_of_length_le (by rw [hn]; simp [sizeL])]
  exact ⟨rfl,fun i t v h=>by simp at h⟩
 | [],hl,f :: fs,off,hf,n,cs,hn,hx=>by simp [fitsL] at hf
 | s :: l,hl,[],off,hf,n,cs,hn,hx=>by simp [fitsL] at hf
 | s :: l,hl,f :: fs,off,hf,n,cs,hn,hx=>by
  simp only [fitsL,Bool.and_eq_true,beq_iff_eq] at hf
  obtain ⟨⟨⟨h1,h2⟩,h3⟩,h4⟩:=hf
  obtain ⟨x,hx1⟩:=hx f (List.mem_cons_self ..)
  rw [h1,h2] at hx1
  obtain ⟨a,ha,hra⟩:=hl s (List.mem_cons_self ..) f.type h3 n _ x hx1
  obtain ⟨b,hb,hrb⟩:=readL l (fun s' hs'=>hl s' (List.mem_cons_of_mem _ hs')) fs (off+s.size) h4 n cs (by rw [hn,sizeL]; omega) (fun f' hf'=>hx f' (List.mem_cons_of_mem _ hf'))
  refine ⟨a ++ b,⟨a,b,rfl,ha,hb⟩,?_⟩
  rw [row_split off s.size]
  exact hra.append hrb
theorem readN {s:Shape} (hs:Read enc P w sp hd s) {e:TypeId} (he:s.fits P e=true):∀ (m i:Nat) (n:Nat) (cs:List Value),cs.length=(i+m)*s.size ->
  (∀ j,j < m->∃ x,DataW.trod enc P w 0 sp hd n e ((cs.drop ((i+j)*s.size)).take s.size)=some x)->∃ ts,okN s.ok m ts/\TRepL w ts (cs.drop (i*s.size))
 | 0,i,n,cs,hn,hx=>by
  refine ⟨[],rfl,?_⟩
  rw [List.drop_of_length_le (by rw [hn]; simp)]
  exact ⟨rfl,fun i t v h=>by simp at h⟩
 | m+1,i,n,cs,hn,hx=>by
  obtain ⟨x,hx1⟩:=hx 0 (by omega)
  rw [Nat.add_zero] at hx1
  obtain ⟨a,ha,hra⟩:=hs e he n _ x hx1
  obtain ⟨b,hb,hrb⟩:=readN hs he m (i+1) n cs (by rw [hn]; congr 1; omega) (fun j hj=>by
   have:=hx (j+1) (by omega)
   rwa [show i+(j+1)=i+1+j by omega] at this)
  refine ⟨a ++ b,⟨a,b,rfl,ha,hb⟩,?_⟩
  rw [row_split (i*s.size) s.size]
  rw [Nat.succ_mul] at hrb
  exact hra.append hrb
theorem add_none (b o n:Nat):(⟨b,o,none⟩:Addr).add n=⟨b,o+n,none⟩:=by
 unfold Addr.add
 split
 ·rename_i h; subst h; rfl
 ·rfl
theorem wf_one {k:IntKind} {n:Int}:one (.int k n):=by intro l; exact ⟨by simp,by simp⟩
theorem Shape.read : ∀ (s : Shape), Read enc P w sp hd s
  | .int k => fun t hf n cs x hx => by
    have hu : P.underlying t = some (.int k) := by
      unfold Shape.fits at hf
      split at hf
      · rename_i k' h; rw [h, of_decide_eq_true hf]
      · cases hf
    obtain ⟨m, rfl, _, hw⟩ := DataW.trod_int hu hx
    exact ⟨_, ⟨m, rfl, hw⟩, .one (.v _ wf_one)⟩
  | .bool => fun t hf n cs x hx => by
    have hu : P.underlying t = some .bool := by
      unfold Shape.fits at hf
      split at hf
      · rename_i h; exact h
      · cases hf
    obtain ⟨b, rfl, _⟩ := DataW.trod_bool hu hx
    exact ⟨_, ⟨b, rfl⟩, .one (.v _ (by intro l; exact ⟨by simp, by simp⟩))⟩
  | .struct l => fun t hf n cs x hx => by
    unfold Shape.fits at hf
    split at hf
    · rename_i fs hu
      simp only [Bool.and_eq_true, beq_iff_eq] at hf
      obtain ⟨xs, n', rfl, _, hl, hxl, hfs⟩ := DataW.trod_struct hu hx
      obtain ⟨ts, h1, h2⟩ := readL l (fun s hs => Shape.read s) fs.toList 0 hf.2 n' cs (by rw [hl, hf.1]; omega) (fun f hfm => by
        obtain ⟨i, hi, hfi⟩ := List.mem_iff_getElem.1 hfm
        have hi' : i < fs.size := by simpa using hi
        have hg : fs[i]? = some f := by rw [Array.getElem?_eq_getElem hi']; simpa using hfi
        have := hfs i f hg
        have hxi : i < xs.length := by rw [hxl]; exact hi'
        rw [List.getElem?_eq_getElem hxi] at this
        exact ⟨_, this⟩)
      exact ⟨ts, h1, by simpa using h2⟩
    · cases hf
  | .arr m s => fun t hf n cs x hx => by
    unfold Shape.fits at hf
    split at hf
    · rename_i m' e hu
      simp only [Bool.and_eq_true, beq_iff_eq] at hf
      obtain ⟨⟨⟨rfl, h1⟩, h2⟩, h3⟩ := hf
      cases n with
      | zero => simp [DataW.trod] at hx
      | succ n =>
        unfold DataW.trod at hx
        rw [hu] at hx
        simp only at hx
        split at hx
        · rename_i hl
          obtain ⟨xs, hxs, _⟩ := Option.map_eq_some_iff.1 hx
          obtain ⟨ts, h4, h5⟩ := readN (Shape.read s) h3 m' 0 n cs (by rw [hl, h1, Nat.zero_add]) (fun j hj => by
            have := mapM_some_get hxs j j (by simp [hj])
            have hlen := mapM_some_length hxs
            rw [List.length_range] at hlen
            rw [List.getElem?_eq_getElem (by omega)] at this
            rw [h2] at this
            rw [Nat.zero_add]
            exact ⟨_, this⟩)
          exact ⟨ts, h4, by simpa using h5⟩
        · cases hx
    · cases hf
  | .slice s => fun t hf n cs x hx => by
    unfold Shape.fits at hf
    split at hf
    · rename_i e hu
      simp only [Bool.and_eq_true, beq_iff_eq, decide_eq_true_eq] at hf
      obtain ⟨⟨h1, h2⟩, h3⟩ := hf
      rcases DataW.trod_slice hu hx with ⟨rfl, _⟩ | ⟨a, len, cap, elems, rest, n', rfl, rfl, _, _, hlc, hcap, hel, hread, _, _⟩
      · refine ⟨[.lst false []], ⟨false, [], rfl, by simp, by simp⟩, .one (.lst false [] none 0 0 0 0 (fun _ _ => default) (by simp) (by omega) (by simp) (by simp) (by simp) (by simp) (by simp) (fun i j t ht => by simp [at2] at ht) (fun i j t ht => by simp [at2] at ht))⟩
      · have hm : maxLen = 2 ^ 63 - 1 := rfl
        have hrow : ∀ i, i < len -> ∃ ts css, s.ok ts /\ TRepL w ts css /\ w.cells? 0 (a.add (i * s.size)) s.size = some css := fun i hi => by
          have hr := hread i hi
          rw [List.getElem?_eq_getElem (by omega), h1] at hr
          obtain ⟨css, hc, hx2⟩ := Option.bind_eq_some_iff.1 hr
          obtain ⟨ts, h4, h5⟩ := Shape.read s e h3 _ _ _ hx2
          exact ⟨ts, css, h4, h5, hc⟩
        let f : Nat -> List Tree := fun i => if h : i < len then (hrow i h).choose else []
        let g : Nat -> List Value := fun i => if h : i < len then (hrow i h).choose_spec.choose else []
        have hfg : ∀ i, i < len -> s.ok (f i) /\ TRepL w (f i) (g i) /\ w.cells? 0 (a.add (i * s.size)) s.size = some (g i) := fun i hi => by
          have hfi : f i = (hrow i hi).choose := dif_pos hi
          have hgi : g i = (hrow i hi).choose_spec.choose := dif_pos hi
          rw [hfi, hgi]
          exact (hrow i hi).choose_spec.choose_spec
        have hspot : 0 < len -> a = ⟨a.block, a.off, none⟩ /\ a.block < w.heap.size := fun h0 => by
          obtain ⟨hok, hrep, hc⟩ := hfg 0 h0
          obtain ⟨_, hl, hce⟩ := World.cells?_some hc
          have := hce 0 h2
          rw [List.getElem?_eq_getElem (by omega)] at this
          have ha : (a.add (0 * s.size)).add 0 = a := by simp [Addr.add]
          rw [ha] at this
          refine ⟨?_, ?_⟩
          · unfold World.cell? at this
            split at this
            · split at this
              · cases this
              · rename_i hs
                obtain ⟨b, o, sp'⟩ := a
                cases sp' with
                | none => rfl
                | some _ => simp at hs
            · cases this
          · have := World.cells?_block hc h2
            simpa [Addr.add] using this
        have hrows : ∀ i, (((List.range len).map f)[i]?) = if i < len then some (f i) else none := fun i => by
          rw [List.getElem?_map]
          by_cases h : i < len
          · rw [if_pos h, List.getElem?_range h]; rfl
          · rw [if_neg h, List.getElem?_eq_none (by simpa using h)]; rfl
        have hat : ∀ i j t, at2 ((List.range len).map f) i j = some t -> i < len /\ (f i)[j]? = some t := fun i j t ht => by
          unfold at2 at ht
          rw [hrows] at ht
          by_cases h : i < len
          · rw [if_pos h] at ht; exact ⟨h, ht⟩
          · rw [if_neg h] at ht; cases ht
        have hcell : ∀ i j t, at2 ((List.range len).map f) i j = some t -> ∃ v, (g i)[j]? = some v /\ w.cell? ⟨a.block, a.off + i * s.size + j, none⟩ = some v /\ TRep (old w) w t v /\ a.block < w.heap.size := fun i j t ht => by
          obtain ⟨hi, hj⟩ := hat i j t ht
          obtain ⟨hok, hrep, hc⟩ := hfg i hi
          obtain ⟨_, hl, hce⟩ := World.cells?_some hc
          have hjl : j < s.size := by
            have := (List.getElem?_eq_some_iff.1 hj).1
            rw [s.ok_len _ hok] at this; exact this
          have hv := hce j hjl
          obtain ⟨hs1, hs2⟩ := hspot (by omega)
          refine ⟨(g i)[j]'(by omega), List.getElem?_eq_getElem (by omega), ?_, hrep.2 j t _ hj (List.getElem?_eq_getElem (by omega)), hs2⟩
          rw [List.getElem?_eq_getElem (by omega)] at hv
          rw [<- hv]
          rw [hs1, add_none, add_none]
        refine ⟨[.lst false ((List.range len).map f)], ⟨false, _, rfl, by rw [List.length_map, List.length_range]; omega, fun r hr => ?_⟩, ?_⟩
        · obtain ⟨i, hi, rfl⟩ := List.mem_map.1 hr
          exact (hfg i (List.mem_range.1 hi)).1
        · refine .one ?_
          have hl : ((List.range len).map f).length = len := by rw [List.length_map, List.length_range]
          have := TRep.lst (S := old w) (w := w) false ((List.range len).map f) (some a) a.block a.off s.size cap (fun i j => ((g i)[j]?).getD default) (by rw [hl]; exact hlc) (by omega) (by rw [hl]; omega) (by simp)
            (fun hne => by rw [(hspot (by rcases Nat.eq_zero_or_pos len with h | h; · subst h; simp at hne
                                          · exact h)).1]) (by simp)
            (fun r hr => by obtain ⟨i, hi, rfl⟩ := List.mem_map.1 hr; exact s.ok_len _ (hfg i (List.mem_range.1 hi)).1)
            (fun i j t ht => by obtain ⟨v, h4, h5, h6, h7⟩ := hcell i j t ht; exact ⟨h7, by rw [h5, h4]; rfl⟩)
            (fun i j t ht => by obtain ⟨v, h4, h5, h6, h7⟩ := hcell i j t ht; rw [h4]; exact h6)
          rw [hl] at this
          exact this
    · cases hf
termination_by s=>SizeOf.sizeOf s
def Shape.tv (s:Shape) (ts:List Tree):TV:=
 match s,ts with
 | .struct _,ts=>.agg ts
 | .arr _ _,ts=>.agg ts
 | _,[t]=>.c t
 | _,ts=>.agg ts
def isAggT (P:Program) (t:TypeId):Bool:=match P.underlying t with
 | some (.struct _) | some (.array _ _)=>true
 | _=>false
theorem Shape.rep {s:Shape} {t:TypeId} (hf:s.fits P t=true) {v:Value} (hok:Value.okWide P w .any 0 t v) {ts:List Tree} (hs:s.ok ts) (h:TRepL w ts v.cells.toList):VRep noβ (old w) w (s.tv ts).av v:=by
 have agg:∀ (cs:Array Value),v=.agg cs->VRep noβ (old w) w (TV.agg ts).av v:=fun cs hv=>by
  subst hv
  have:Array.mk cs.toList=cs:=rfl
  rw [show TV.av (.agg ts)=AV.agg (ts.map .t) from rfl,<- this]
  refine .agg cs.toList (by rw [List.length_map]; exact h.1.symm) fun i c hc=>?_
  rw [List.getElem?_map] at hc
  obtain ⟨t',ht,rfl⟩:=Option.map_eq_some_iff.1 hc
  have hi:=(List.getElem?_eq_some_iff.1 ht).1
  have hi2:i < cs.toList.length:=by have:=h.1; simp only [Value.cells] at this; omega
  exact ⟨_,List.getElem?_eq_getElem hi2,.t (h.2 i t' _ ht (List.getElem?_eq_getElem hi2))⟩
 have scal:isAggT P t=false->ts.length=1->VRep noβ (old w) w (match ts with | [t]=>TV.c t | ts=>.agg ts).av v:=fun hna hl=>by
  match ts,hl,h with
  | [t'],_,h=>
   have hc:v.cells=#[v]:=by
    cases v with
    | agg cs=>
     unfold Value.okWide at hok
     unfold isAggT at hna
     split at hok
     ·rename_i h1; rw [h1] at hna; cases hna
     ·rename_i h1; rw [h1] at hna; cases hna
     ·unfold Cell.okWide at hok
      split at hok <;> first | (rename_i h1 h2; cases h2; done) | skip
      all_goals first | (unfold Cell.ok at hok; split at hok <;> first | (rename_i h1 h2; cases h2; done) | exact hok.elim) | skip
    | _=>rfl
   have:=h.2 0 t' v rfl (by rw [hc]; rfl)
   exact .c (.t this)
 cases s with
 | int k=>
  have hu:P.underlying t=some (.int k):=by
   unfold Shape.fits at hf
   split at hf
   ·rename_i k' h; rw [h,of_decide_eq_true hf]
   ·cases hf
  obtain ⟨m,rfl,_⟩:=hs
  exact scal (by unfold isAggT; rw [hu]) rfl
 | bool=>
  have hu:P.underlying t=some .bool:=by
   unfold Shape.fits at hf
   split at hf
   ·rename_i h; exact h
   ·cases hf
  obtain ⟨m,rfl⟩:=hs
  exact scal (by unfold isAggT; rw [hu]) rfl
 | slice s=>
  unfold Shape.fits at hf
  split at hf
  ·rename_i e hu
   obtain ⟨_,_,rfl,_⟩:=hs
   exact scal (by unfold isAggT; rw [hu]) rfl
  ·cases hf
 | struct l=>
  unfold Shape.fits at hf
  split at hf
  ·rename_i fs hu
   unfold Value.okWide at hok
   rw [hu] at hok
   obtain ⟨cs,hv,_⟩:=hok
   exact agg cs hv
  ·cases hf
 | arr n s=>
  unfold Shape.fits at hf
  split at hf
  ·rename_i m e hu
   unfold Value.okWide at hok
   rw [hu] at hok
   obtain ⟨cs,hv,_⟩:=hok
   exact agg cs hv
  ·cases hf
def okAll:List Shape->List (List Tree)->Prop
 | [],l=>l=[]
 | s :: ss,l=>∃ ts r,l=ts :: r/\s.ok ts/\okAll ss r
def tvs:List Shape->List (List Tree)->List TV
 | s :: ss,ts :: r=>s.tv ts :: tvs ss r
 | _,_=>[]
def fitsAll (P:Program):List TypeId->List Shape->Bool
 | [],[]=>true
 | t :: ts,s :: ss=>s.fits P t && decide (t < P.types.size) && P.readableRec t && fitsAll P ts ss
 | _,_=>false
theorem args_read:∀ {tys:List TypeId} {shs:List Shape} {vs:List Value} {ds:List (DataW H)} {ps:List MemPlace},DataW.TrodAll enc P w 0 sp true tys vs ds ps->fitsAll P tys shs=true ->
  (∀ (j:Nat) t v,tys[j]?=some t->vs[j]?=some v->Value.okWide P w .any 0 t v) ->
  ∃ tss,okAll shs tss/\vs.length=(tvs shs tss).length/\ds.length=shs.length/\∀ (i:Nat) (x:TV),(tvs shs tss)[i]?=some x->∃ v,vs[i]?=some v/\VRep noβ (old w) w x.av v
 | [],[],[],[],ps,h,hf,hv=>⟨[],rfl,rfl,rfl,fun i x hx=>by simp [tvs] at hx⟩
 | t :: ts,s :: ss,v :: vs,d :: ds,ps,h,hf,hv=>by
  obtain ⟨p,q,⟨n,h1⟩,h2,_⟩:=h
  simp only [fitsAll,Bool.and_eq_true] at hf
  obtain ⟨⟨⟨f1,f2⟩,f3⟩,f4⟩:=hf
  obtain ⟨tss,g1,g2,g3,g4⟩:=args_read h2 f4 (fun j t v ht hx=>hv (j+1) t v (by simpa using ht) (by simpa using hx))
  obtain ⟨tr,k1,k2⟩:=s.read t f1 n _ _ h1
  refine ⟨tr :: tss,⟨tr,tss,rfl,k1,g1⟩,by simp [tvs,g2],by simp [g3],fun i x hx=>?_⟩
  cases i with
  | zero=>
   simp only [tvs,List.getElem?_cons_zero,Option.some.injEq] at hx
   subst hx
   exact ⟨v,rfl,Shape.rep f1 (hv 0 t v rfl rfl) k1 k2⟩
  | succ i=>simp only [tvs,List.getElem?_cons_succ] at hx ⊢; exact g4 i x hx
 | [],_ :: _,_,_,_,_,hf,_=>by simp [fitsAll] at hf
 | _ :: _,[],_,_,_,_,hf,_=>by simp [fitsAll] at hf
 | [],[],_ :: _,_,_,h,_,_=>by simp [DataW.TrodAll] at h
 | [],[],[],_ :: _,_,h,_,_=>by simp [DataW.TrodAll] at h
 | _ :: _,_ :: _,[],_,_,h,_,_=>by simp [DataW.TrodAll] at h
 | _ :: _,_ :: _,_ :: _,[],_,h,_,_=>by simp [DataW.TrodAll] at h
theorem args_stay (hl:laidOutB P=true) {W W':World} {sp':Nat->Bool} (hb:Below W.heap.size W W'):∀ {tys:List TypeId} {shs:List Shape} {vs:List Value} {ds:List (DataW H)} {ps:List MemPlace},DataW.TrodAll enc P W 0 (fun _=>true) true tys vs ds ps->fitsAll P tys shs=true ->
  (∀ p ∈ ps,p.block < W.heap.size)->(∀ p ∈ ps,sp' p.block=true)->DataW.TrodAll enc P W' 0 sp' true tys vs ds ps
 | [],[],[],[],ps,h,hf,h1,h2=>h
 | t :: ts,s :: ss,v :: vs,d :: ds,ps,h,hf,h1,h2=>by
  obtain ⟨p,q,k1,k2,rfl⟩:=h
  simp only [fitsAll,Bool.and_eq_true,decide_eq_true_eq] at hf
  obtain ⟨⟨⟨f1,f2⟩,f3⟩,f4⟩:=hf
  exact ⟨p,q,Go.WideElems.Trod_stays hl f3 f2 k1 (fun x hx=>hb.same (h1 x (List.mem_append_left _ hx))) (fun x hx=>h2 x (List.mem_append_left _ hx)),
   args_stay hl hb k2 f4 (fun x hx=>h1 x (List.mem_append_right _ hx)) (fun x hx=>h2 x (List.mem_append_right _ hx)),rfl⟩
 | [],_ :: _,_,_,_,_,hf,_,_=>by simp [fitsAll] at hf
 | _ :: _,[],_,_,_,_,hf,_,_=>by simp [fitsAll] at hf
 | [],[],_ :: _,_,_,h,_,_,_=>by simp [DataW.TrodAll] at h
 | [],[],[],_ :: _,_,h,_,_,_=>by simp [DataW.TrodAll] at h
 | _ :: _,_ :: _,[],_,_,h,_,_,_=>by simp [DataW.TrodAll] at h
 | _ :: _,_ :: _,_ :: _,[],_,h,_,_,_=>by simp [DataW.TrodAll] at h
theorem law_row {f:FuncId} {fn:Func} {spec:ChangeSpec} {shs:List Shape} {outs:List (Option Blk)} (hl:laidOutB P=true) (hf:fitsAll P fn.params.toList shs=true) (hvars:spec.vars=[]) {tb0:TypeId} (hres:fn.resultTypes=#[tb0]) (hb4:P.underlying tb0=some .bool)
  {apart fresh handsOn again:Bool} (hfn:∀ ds:List (DataW H),ds.length=shs.length->(spec.fn H ds).args=ds/\(spec.fn H ds).results=[.lit (.bool true)]/\(spec.fn H ds).vars=[])
  (hc:∀ tss,okAll shs tss->ACall P f ((tvs shs tss).map .val) ⟨[.val (tb true)],outs⟩)
  {W:World} {args:Array Value} {ds gs:List (DataW H)} {before:List MemPlace} (hval:∀ (j:Nat) t v,fn.params[j]?=some t->args[j]?=some v->Value.okWide P W .any 0 t v)
  (hW:DataW.Whole enc P fn.params.toList spec.vars apart W args.toList ds gs before) :
  Calls P f args W fun e W'=>∃ v,e=.returned v/\spec.post enc P fn apart fresh handsOn again W args v W':=by
 have hW':=hW
 obtain ⟨p,q,hA,hV,rfl,hfz,hnd⟩:=hW
 rw [hvars] at hV
 have hgq:gs=[]/\q=[]:=by
  cases gs with
  | nil=>exact ⟨rfl,hV⟩
  | cons g gs=>exact hV.elim
 obtain ⟨rfl,rfl⟩:=hgq
 obtain ⟨tss,hok,hlen,hdl,hrep⟩:=args_read hA hf (fun j t v ht hv=>hval j t v (by simpa using ht) (by simpa using hv))
 have h:=law_calls (hc tss hok) W args.toList hlen hrep
 have hargs:args.toList.toArray=args:=rfl
 rw [hargs] at h
 obtain ⟨e1,e2,e3⟩:=hfn ds hdl
 have hbefore:∀ x ∈ p,x.block < W.heap.size:=fun x hx=>hW'.lt x (List.mem_append_left _ hx)
 refine h.mono fun e W' ⟨he,hg⟩=>?_
 subst he
 refine ⟨_,rfl,post_of_below (pa:=p) (pv:=[]) hW' (fun b sp hd=>?_) (fun sp hs=>?_) (fun sp hs=>?_) rfl hg ?_⟩
 ·rw [List.append_nil,e2,hres]
  exact trodAll_cons_mk (shut_bool hb4 _) trodAll_mk0
 ·rw [List.append_nil,e1]
  exact args_stay hl hg hA hf hbefore (fun x hx=>hs x (List.mem_append_left _ hx))
 ·rw [List.append_nil,e3,hvars]; rfl
 ·exact ok_one hres rfl (okWide_bool_mk hb4 _)
end
end Go.Abs
end
section
namespace Go.Proofs.YtjfmkcmepdedaaaGreat
open Go Go.Abs Go.Abs.M Go.Proofs
theorem ints8_ok:∀ rows:List (List Tree),(∀ r ∈ rows,(Shape.int .i8).ok r)->∃ V:List Int,rows=W .i8 V/\∀ v ∈ V,-128<=v/\v < 128
 | [],_=>⟨[],rfl,by simp⟩
 | r :: rs,h=>by
  obtain ⟨V,h1,h2⟩:=ints8_ok rs fun r hr=>h r (List.mem_cons_of_mem _ hr)
  obtain ⟨v,rfl,hv⟩:=h r List.mem_cons_self
  refine ⟨v :: V,by rw [h1]; rfl,fun x hx=>?_⟩
  rcases List.mem_cons.1 hx with rfl | hx
  ·exact bd_i8 hv
  ·exact h2 x hx
def raw11:Shape:=.struct [.slice (.int .i8)]
end Go.Proofs.YtjfmkcmepdedaaaGreat
end
section
namespace Go.Abs
theorem sp_sum {m:Nat} {M:Nat->RV} (c:RV):∀ k,k<=m->Sp (Rs m M) fun y=>sumN k fun l=>c l*M l y
 | 0,_=>.zero
 | k+1,h=>Sp.lin (c k) (sp_sum c k (by omega)) (.row h) fun y=>rfl
theorem tri_all {n:Nat} {R:Nat->RV} (h0:∀ i,i < n->R i i ≠ 0) (hl:∀ i,i < n->∀ y,y < i->R i y=0) (hr:∀ i,i < n->∀ y,n<=y->R i y=0):∀ m l,l+m=n->∀ v:RV,(∀ y,y < l ∨ n<=y->v y=0)->Sp (Rs n R) v
 | 0,l,h,v,hv=>Sp.zero.cast fun y=>hv y (by omega)
 | m+1,l,h,v,hv=>by
  have hln:l < n:=by omega
  have h00:=h0 l hln
  have:=tri_all h0 hl hr m (l+1) (by omega) (fun y=>v y - v l / R l l*R l y) fun y hy=>by
   by_cases e:y=l
   ·rw [e,Rat.div_mul_cancel h00,Rat.sub_self]
   ·have hz:R l y=0:=by
     rcases hy with hy | hy
     ·exact hl l hln y (by omega)
     ·exact hr l hln y hy
    rw [hv y (by omega),hz]; grind
  exact Sp.lin (v l / R l l) this (.row hln) fun y=>by grind
theorem rv_inj {P Q:List Rat} (h:P.length=Q.length) (e:rv P=rv Q):P=Q:=by
 refine List.ext_getElem h fun i h1 h2=>?_
 have:=congrFun e i
 unfold rv at this
 rw [List.getD_eq_getElem?_getD,List.getD_eq_getElem?_getD,List.getElem?_eq_getElem h1,List.getElem?_eq_getElem h2] at this
 exact this
def dswp (R:Nat->List Rat) (j l:Nat):Nat->List Rat:=fun i=>if i=j then R l else if i=l then R j else R i
def dstep (R:Nat->List Rat) (j l:Nat):Nat->List Rat:=fun i=>if i<=j then dswp R j l i else elm (dswp R j l i) (R l) j
structure DtI (n j:Nat) (M R:Nat->List Rat):Prop where
 len:∀ i,i < n->(R i).length=n
 sp:SpE (Rs n fun i=>rv (M i)) (Rs n fun i=>rv (R i))
 piv:∀ l,l < j->rv (R l) l ≠ 0
 low:∀ l,l < j->∀ i,l < i->i < n->rv (R i) l=0
theorem DtI.start {n:Nat} {M:Nat->List Rat} (h:∀ i,i < n->(M i).length=n):DtI n 0 M M:=⟨h,SpE.refl _,by omega,by omega⟩
theorem dswp_len {n w j l:Nat} {R:Nat->List Rat} (h:∀ i,i < n->(R i).length=w) (hj:j < n) (hl:l < n):∀ i,i < n->(dswp R j l i).length=w:=fun i hi=>by
 unfold dswp
 split
 ·exact h l hl
 ·split
  ·exact h j hj
  ·exact h i hi
theorem DtI.step {n j l:Nat} {M R:Nat->List Rat} (h:DtI n j M R) (h1:j<=l) (h2:l < n) (hx:(R l).getD j 0 ≠ 0):DtI n (j+1) M (dstep R j l):=by
 have hj:j < n:=by omega
 have lS:=dswp_len h.len hj h2
 have hS:SpE (Rs n fun i=>rv (R i)) (Rs n fun i=>rv (dswp R j l i)):=spe_swap (a:=j) (b:=l) hj h2 fun i _=>by
  show rv (dswp R j l i)=_
  unfold dswp
  split
  ·rfl
  ·split <;> rfl
 have hSj:dswp R j l j=R l:=if_pos rfl
 have hlow:∀ y,y < j->∀ i,j<=i->i < n->rv (dswp R j l i) y=0:=fun y hy i hi hin=>by
  unfold dswp
  split
  ·exact h.low y hy l (by omega) h2
  ·split
   ·exact h.low y hy j (by omega) hj
   ·exact h.low y hy i (by omega) hin
 have hel:∀ i,i < n->j < i->∀ y,rv (dstep R j l i) y=rv (dswp R j l i) y+(-((dswp R j l i).getD j 0 / (R l).getD j 0))*rv (R l) y:=fun i hi hji y=>by
  unfold dstep
  rw [if_neg (by omega),elm_rv (by rw [lS i hi,h.len l h2])]
 have hle:∀ i,i<=j->dstep R j l i=dswp R j l i:=fun i hi=>if_pos hi
 refine ⟨fun i hi=>?_,(h.sp.trans hS).trans ?_,fun y hy=>?_,fun y hy i hyi hin=>?_⟩
 ·unfold dstep
  split
  ·exact lS i hi
  ·rw [elm_len]; exact lS i hi
 ·refine spe_elim (k:=j) (c:=fun i=>if i<=j then 0 else -((dswp R j l i).getD j 0 / (R l).getD j 0)) hj ?_ fun i hi hne y=>?_
  ·show rv (dstep R j l j)=rv (dswp R j l j)
   rw [hle j (Nat.le_refl _)]
  ·show rv (dstep R j l i) y=rv (dswp R j l i) y+(if i<=j then 0 else _)*rv (dswp R j l j) y
   by_cases e:i<=j
   ·rw [if_pos e,hle i e]; grind
   ·rw [if_neg e,hel i hi (by omega),hSj]
 ·rw [hle y (by omega)]
  by_cases e:y=j
  ·rw [e,hSj]; exact hx
  ·have:dswp R j l y=R y:=by
    unfold dswp
    rw [if_neg e,if_neg (by omega)]
   rw [this]; exact h.piv y (by omega)
 ·by_cases e:y=j
  ·subst e
   rw [hel i hin hyi]
   show (dswp R y l i).getD y 0+_*(R l).getD y 0=0
   have:=Rat.div_mul_cancel hx (a:=(dswp R y l i).getD y 0)
   rw [Rat.neg_mul,this]; grind
  ·by_cases hij:i<=j
   ·rw [hle i hij]
    by_cases hi:i=j
    ·exact hlow y (by omega) i (by omega) hin
    ·have:dswp R j l i=R i:=by
      unfold dswp
      rw [if_neg hi,if_neg (by omega)]
     rw [this]; exact h.low y (by omega) i hyi hin
   ·rw [hel i hin (by omega),hlow y (by omega) i (by omega) hin,<- hSj,hlow y (by omega) j (Nat.le_refl _) hj]; grind
theorem DtI.all {n:Nat} {M R:Nat->List Rat} (h:DtI n n M R) (v:RV) (hv:∀ y,n<=y->v y=0):Sp (Rs n fun i=>rv (M i)) v:=
 h.sp.r _ (tri_all (R:=fun i=>rv (R i)) (fun i hi=>h.piv i hi) (fun i hi y hy=>h.low y (by omega) i hy hi)
  (fun i hi y hy=>by
   show (R i).getD y 0=0
   rw [List.getD_eq_getElem?_getD,List.getElem?_eq_none (by rw [h.len i hi]; exact hy)]; rfl) n 0 (by omega) v fun y hy=>hv y (by omega))
end Go.Abs
end
