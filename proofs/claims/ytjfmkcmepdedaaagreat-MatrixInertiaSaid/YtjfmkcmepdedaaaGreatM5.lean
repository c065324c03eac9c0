/-
  A part of the proof: GabsMem2.
-/
import Derived.Test.YtjfmkcmepdedaaaGreatM4
import Derived.Laws.Tables
import Derived.Great.BuildSlice
set_option maxHeartbeats 0
set_option maxRecDepth 100000
set_option linter.unusedVariables false
set_option linter.unusedSimpArgs false
set_option linter.unusedSectionVars false
section
namespace Go.Abs
def CellsRep (β:Nat->Option Reg) (S:Place) (w:World) (cs:List Cell) (vs:Array Value):Prop:=
 vs.size=cs.length/\∀ (i:Nat) (c:Cell),cs[i]?=some c->∃ v,vs[i]?=some v/\CRep β S w c v
theorem qa5 {α:Type} (l xs:List α) (c k:Nat) (h:c+xs.length<=l.length) :
  (setRange l c xs)[k]?=if c<=k/\k < c+xs.length then xs[k - c]? else l[k]?:=by
 unfold setRange
 rw [List.append_assoc,List.getElem?_append,List.length_take,Nat.min_eq_left (by omega)]
 split
 ·rw [if_neg (by omega),List.getElem?_take,if_pos (by assumption)]
 ·rw [List.getElem?_append]
  split
  ·rw [if_pos (by omega)]
  ·rw [if_neg (by omega),List.getElem?_drop]
   congr 1; omega
theorem qa2 {α:Type} (l xs:List α) (c:Nat) (h:c+xs.length<=l.length):(setRange l c xs).length=l.length:=by
 unfold setRange
 simp only [List.length_append,List.length_take,List.length_drop]
 omega
theorem CellsRep.set {β:Nat->Option Reg} {S:Place} {w:World} {cs:List Cell} {vs:Array Value} (h:CellsRep β S w cs vs) {off:Nat} {x:List Cell} {v:Value}
  (hl:v.cells.toList.length=x.length) (hx:∀ (i:Nat) (c:Cell),x[i]?=some c->∃ u,v.cells.toList[i]?=some u/\CRep β S w c u) (hle:off+x.length<=cs.length) :
  CellsRep β S w (setRange cs off x) (v.cells.zipIdx.foldl (fun cs (c,j)=>cs.setIfInBounds (off+j) c) vs):=by
 have he:v.cells.zipIdx.foldl (fun cs (c,j)=>cs.setIfInBounds (off+j) c) vs=(v.cells.toList.zipIdx 0).foldl (fun cs (x:Value × Nat)=>cs.setIfInBounds (off+x.2) x.1) vs:=by
  rw [<- Array.foldl_toList,Array.toList_zipIdx]
 rw [he]
 obtain ⟨h1,h2⟩:=Great.foldl_set off v.cells.toList 0 vs
 refine ⟨by rw [h1,qa2 _ _ _ hle]; exact h.1,fun i c hi=>?_⟩
 rw [qa5 _ _ _ _ hle] at hi
 rw [h2 i]
 split at hi
 ·rename_i hin
  rw [if_pos ⟨by omega,by omega,by rw [h.1]; omega⟩]
  exact hx (i - off) c hi
 ·rw [if_neg (by omega)]
  exact h.2 i c hi
theorem fill_rep {β:Nat->Option Reg} {S:Place} {w:World} {placeA place:Nat->Option (Nat × Nat)} (hp:∀ i p,placeA i=some p->place i=some p) :
  ∀ (pa:List (Nat × AV)) (pv:List (Nat × Value)) (cs cs':List Cell) (vs:Array Value),fillA placeA cs pa=some cs'->pv.length=pa.length ->
  (∀ (k:Nat) (i:Nat) (x:AV),pa[k]?=some (i,x)->∃ v,pv[k]?=some (i,v)/\VRep β S w x v)->CellsRep β S w cs vs ->
  ∃ arr,Instr.fill place vs pv=some arr/\CellsRep β S w cs' arr
 | [],[],cs,cs',vs,h,_,_,hc=>by simp [fillA] at h; subst h; exact ⟨vs,rfl,hc⟩
 | (i,x) :: pa,[],_,_,_,_,hl,_,_=>by simp at hl
 | [],_ :: _,_,_,_,_,hl,_,_=>by simp at hl
 | (i,x) :: pa,(j,v) :: pv,cs,cs',vs,h,hl,hr,hc=>by
  obtain ⟨v',hv',hx⟩:=hr 0 i x rfl
  simp at hv'; obtain ⟨rfl,rfl⟩:=hv'
  unfold fillA at h
  split at h
  ·rename_i off size xs hpl hcx
   split at h
   ·rename_i hsz
    obtain ⟨h1,h2⟩:=hx.cellsE hcx
    have hset:=hc.set h1 h2 (by rw [hsz.1]; exact hsz.2)
    obtain ⟨arr,h3,h4⟩:=fill_rep hp pa pv _ _ _ h (by simpa using hl) (fun k i x hk=>by simpa using hr (k+1) i x (by simpa using hk)) hset
    refine ⟨arr,?_,h4⟩
    unfold Instr.fill
    rw [hp _ _ hpl]
    have hcs:v.cells.size=size:=by rw [<- hsz.1,<- h1]; simp
    simp only [hcs,hc.1]
    rw [if_neg (by simp; exact hsz.2)]
    exact h3
   ·cases h
  ·cases h
section
variable {P:Program} {C:Cfg} {K:Ctx} {β:Nat->Option Reg} {S:Place} {st:St} {a:Act} {w:World} {slot:Nat} {e:Eff} {o:Oper}
theorem zero_rep {t:TypeId} {ti:TI} (hty:TyOk P t ti) (S:Place) (w:World) (β:Nat->Option Reg):∃ i z,P.info? t=some i/\i.zero=some z/\i.size=ti.size/\CellsRep β S w (ti.zero.map .t) z.cells/\(ti.kind.agg=true->∃ cs,z=.agg cs):=by
 obtain ⟨i,h1,h2,h3,z,h4,h5⟩:=hty.info
 obtain ⟨z',e1,e2,e3,_,e5⟩:=hty.zeroValue w S
 have hzz:z'=z:=by
  simp [Go.zeroValue,Go.typeInfo,h1,h4,Result.andThen] at e1
  exact e1.symm
 subst hzz
 refine ⟨i,z',h1,h4,h2,⟨by rw [e2]; simp [hty.len],fun i c hi=>?_⟩,e5⟩
 obtain ⟨t',ht',rfl⟩:=map_t hi
 obtain ⟨v,hv,hr⟩:=e3 i t' ht'
 exact ⟨v,by simpa using hv,.t hr⟩
theorem parts_rep (h:Sat K β S st a w) (parts:Array (Nat × Operand)) (k:Nat) (i:Nat) (x:AV) (hk:(parts.toList.map fun p=>(p.1,st.get p.2))[k]?=some (i,x)) :
  ∃ v,(parts.map fun (i,x)=>(i,a.eval x)).toList[k]?=some (i,v)/\VRep β S w x v:=by
 rw [List.getElem?_map] at hk
 obtain ⟨p,h1,h2⟩:=Option.map_eq_some_iff.1 hk
 simp only [Prod.mk.injEq] at h2
 obtain ⟨rfl,rfl⟩:=h2
 refine ⟨a.eval p.2,?_,h.get p.2⟩
 rw [Array.toList_map,List.getElem?_map,h1]; rfl
theorem q_build (hC:CfgOk P C) (h:Sat K β S st a w) {t:TypeId} {parts:Array (Nat × Operand)} (ho:o.op=.build t parts)
  (he:evalOp C slot st.get (look st.heap) (.build t parts)=some e):Quiet P β S a w o e:=by
 simp only [evalOp] at he
 have fin:∀ arr cs,P.built t (parts.map fun (i,x)=>(i,a.eval x)).toList=some arr->CellsRep β S w cs arr->e={ val:=.agg cs }->Quiet P β S a w o e:=by
  rintro arr cs hb hr rfl
  refine ⟨rfl,.agg arr,?_,?_⟩
  ·simp only [execOp,ho,Sem.run_bind,run_build w t _ arr hb,Result.andThen,Sem.run_pure]
  ·have:arr=arr.toList.toArray:=by simp
   rw [this]
   exact .agg arr.toList (by simpa using hr.1) (by simpa using hr.2)
 split at he
 ·rename_i ti hti
  have hty:=qah (hC t ti hti)
  obtain ⟨it,z,hi1,hi2,hi3,hz,_⟩:=zero_rep hty S w β
  split at he
  ·rename_i fs hk
   obtain ⟨fields,hu,hfs⟩:=hty.struct hk
   split at he
   ·rename_i cs hf
    cases he
    have hm:∃ places,fields.toList.mapM (fun f=>(P.info? f.type).map fun i=>(f.offset,i.size))=some places/\∀ i p,fieldPl C fs i=some p->places.toArray[i]?=some p:=by
     have hall:=hty.fields fields hu
     have gen:∀ l:List Field,(∀ f ∈ l,(P.info? f.type).isSome=true)->∃ places,l.mapM (fun f=>(P.info? f.type).map fun i=>(f.offset,i.size))=some places /\
       ∀ (i:Nat) (f:Field),l[i]?=some f->∃ inf,P.info? f.type=some inf/\places[i]?=some (f.offset,inf.size):=by
      intro l
      induction l with
      | nil=>intro _; exact ⟨[],rfl,by simp⟩
      | cons f l ih=>
       intro hl
       obtain ⟨inf,hinf⟩:=Option.isSome_iff_exists.1 (hl f (by simp))
       obtain ⟨pl,e1,e2⟩:=ih fun g hg=>hl g (by simp [hg])
       refine ⟨(f.offset,inf.size) :: pl,by simp [List.mapM_cons,hinf,e1],fun i g hg=>?_⟩
       cases i with
       | zero=>simp at hg; subst hg; exact ⟨inf,hinf,rfl⟩
       | succ i=>simpa using e2 i g (by simpa using hg)
     obtain ⟨places,e1,e2⟩:=gen fields.toList hall
     refine ⟨places,e1,fun i p hp=>?_⟩
     unfold fieldPl at hp
     split at hp
     ·rename_i off ft hf'
      obtain ⟨tf,htf,rfl⟩:=Option.map_eq_some_iff.1 hp
      rw [<- hfs,List.getElem?_map] at hf'
      obtain ⟨fl,hfl,hfe⟩:=Option.map_eq_some_iff.1 hf'
      simp only [Prod.mk.injEq] at hfe
      obtain ⟨rfl,rfl⟩:=hfe
      obtain ⟨inf,e3,e4⟩:=e2 i fl hfl
      obtain ⟨inf',e5,e6,_⟩:=(qah (hC _ tf htf)).info
      rw [e3] at e5; cases e5
      simp [e4,e6]
     ·cases hp
    obtain ⟨places,hpl,hpl2⟩:=hm
    obtain ⟨arr,h1,h2⟩:=fill_rep (β:=β) (S:=S) (w:=w) hpl2 _ _ _ _ _ hf (by simp) (parts_rep h parts) hz
    refine fin arr cs ?_ h2 rfl
    unfold Program.built
    simp only [hi1,hu,hi2,hpl]
    exact h1
   ·cases he
  ·rename_i n el hk
   split at he
   ·rename_i te hte
    split at he
    ·rename_i cs hf
     cases he
     obtain ⟨ie,e1,e2,_⟩:=(qah (hC _ te hte)).info
     obtain ⟨arr,h1,h2⟩:=fill_rep (β:=β) (S:=S) (w:=w) (place:=fun i=>some (i*ie.size,ie.size)) (fun i p hp=>by rw [e2]; exact hp) _ _ _ _ _ hf (by simp) (parts_rep h parts) hz
     refine fin arr cs ?_ h2 rfl
     unfold Program.built
     simp only [hi1,hty.array hk,hi2,e1]
     exact h1
    ·cases he
   ·cases he
  ·cases he
 ·cases he
theorem Sat.new (h:Sat K β S st a w) (hs:slot < st.heap.length) (hf:β slot=none) {w':World} {ob:Obj} {blk:Blk} {R:Reg} {S':Place}
  (hh:w'.heap=w.heap.push ob) (hos:w'.os=w.os) (htape:w'.tape=w.tape) (hout:w'.output=w.output)
  (hcb:R.cb=w.heap.size) (hS:∀ c o,S c o->S' c o) (hSn:∀ c o,S' c o->S c o ∨ c=w.heap.size)
  (hok:BlkOk (fun b=>if b=slot then some R else β b) S' w' K.B0 R blk) (hwr:∀ c o,blk.wr R c o->¬ S' c o) :
  Sat K (fun b=>if b=slot then some R else β b) S' ⟨st.tmps,st.heap.set slot (some blk)⟩ a w':=by
 have hnone:look st.heap slot=none:=by
  cases hl:look st.heap slot with
  | none=>rfl
  | some blk=>obtain ⟨R,h1,_⟩:=h.blk slot blk hl; rw [hf] at h1; cases h1
 have hk:Keep (fun _ _=>False) w w':=by
  refine ⟨hos,htape,hout,by rw [hh]; simp,fun k ob' hk=>?_⟩
  have hlt:k < w.heap.size:=by
   rcases Nat.lt_or_ge k w.heap.size with h | h
   ·exact h
   ·rw [Array.getElem?_eq_none h] at hk; cases hk
  rw [hh,Array.getElem?_push,if_neg (by omega),hk]
  exact ObjKeep.refl _ _ _
 have hlook:∀ b,b ≠ slot->look (st.heap.set slot (some blk)) b=look st.heap b:=by
  intro b hb
  unfold look
  rw [List.getElem?_set,if_neg (by omega)]
 have hlook':look (st.heap.set slot (some blk)) slot=some blk:=by
  unfold look
  rw [List.getElem?_set,if_pos rfl,if_pos hs]; rfl
 have hβ:∀ b R',β b=some R'->(if b=slot then some R else β b)=some R':=by
  intro b R' hb
  split
  ·rename_i hbs; subst hbs; rw [hf] at hb; cases hb
  ·exact hb
 refine h.step (Wr:=fun _ _=>False) (fun b=>b=slot) hk (fun _ _ hx=>hx.elim) hβ (fun b R' hb=>?_) hS (fun c o hc=>?_) (fun b blk' hD hb=>?_) (fun b blk' hD hb=>?_)
 ·simp only [List.length_set]
  by_cases hbs:b=slot
  ·omega
  ·rw [if_neg hbs] at hb; exact h.top b R' hb
 ·rcases hSn c o hc with h1 | h1
  ·exact .inl h1
  ·refine .inr ⟨by rw [hh]; simp; omega,.inl (by have:=h.keep.size; unfold Ctx.B0; omega),fun b blk' R' hD hb hR hx=>?_⟩
   obtain ⟨R'',e1,_,e3,_⟩:=h.blk b blk' hb
   rw [hR] at e1; cases e1
   have:=(e3 c o (Blk.wr_ext hx)).1
   omega
 ·rw [<- hlook b hD]; exact hb
 ·subst hD
  rw [hlook'] at hb; cases hb
  refine ⟨R,by simp,hok,fun c o hx=>?_,hwr,fun b' blk'' R' hne hb' hR' c o hx hy=>?_⟩
  ·have:c=R.cb:=hx.1
   exact ⟨by rw [hh]; simp; omega,.inl (by have:=h.keep.size; unfold Ctx.B0; omega)⟩
  ·rw [hlook b' hne] at hb'
   rw [if_neg hne] at hR'
   obtain ⟨R'',e1,_,e3,_⟩:=h.blk b' blk'' hb'
   rw [hR'] at e1; cases e1
   have e4:c=R.cb:=hx.1
   have:=(e3 c o hy).1
   omega
theorem cell_push {w w':World} {cells:Array Value} {el:TypeId} (hh:w'.heap=w.heap.push (.cells cells el (0,0))) (k:Nat):w'.cell? ⟨w.heap.size,k,none⟩=cells[k]?/\w'.frozen? ⟨w.heap.size,k,none⟩=false:=by
 unfold World.cell? World.frozen?
 rw [hh]
 simp
theorem cell_old {w w':World} {ob:Obj} (hh:w'.heap=w.heap.push ob) {c:Nat} (hc:c < w.heap.size) (o:Nat):w'.cell? ⟨c,o,none⟩=w.cell? ⟨c,o,none⟩:=by
 unfold World.cell?
 rw [hh,Array.getElem?_push,if_neg (by simp; omega)]
theorem Sat.newVar (h:Sat K β S st a w) (hs:slot < st.heap.length) (hf:β slot=none) {w':World} {cells:Array Value} {el:TypeId} {cs:List Cell}
  (hh:w'.heap=w.heap.push (.cells cells el (0,0))) (hos:w'.os=w.os) (htape:w'.tape=w.tape) (hout:w'.output=w.output) (hc:CellsRep β S w cs cells) :
  ∃ β',(∀ b,b ≠ slot->β' b=β b)/\Sat K β' S ⟨st.tmps,st.heap.set slot (some (.var cs))⟩ a w'/\VRep β' S w' (.c (.ptr slot 0 0)) (.pointer (some ⟨w.heap.size,0,none⟩)):=by
 let R:Reg:=⟨w.heap.size,0,1,0⟩
 have hmono:∀ c v,CRep β S w c v->CRep (fun b=>if b=slot then some R else β b) S w' c v:=fun c v hr=>
  hr.mono (fun b R' hb=>by rw [if_neg (by rintro rfl; rw [hf] at hb; cases hb)]; exact hb) (fun _ _ hx=>hx) (fun b o hb=>cell_old hh (h.sex b o hb) o)
 refine ⟨fun b=>if b=slot then some R else β b,fun b hb=>if_neg hb,?_,?_⟩
 ·refine h.new hs hf (R:=R) hh hos htape hout rfl (fun _ _ hx=>hx) (fun _ _ hx=>.inl hx) ⟨⟨fun o h1 h2=>?_,rfl,by show 0 < 2 ^ 63; decide⟩,fun j c hj=>?_⟩ fun c o hx hy=>?_
  ·obtain ⟨e1,e2⟩:=cell_push hh o
   refine ⟨?_,e2⟩
   rw [e1,Array.getElem?_eq_getElem (by have h2':o < 0+max cs.length 0:=h2; rw [hc.1]; omega)]; rfl
  ·obtain ⟨v,e1,e2⟩:=hc.2 j c hj
   refine ⟨v,?_,hmono c v e2⟩
   rw [show R.co+j=j from Nat.zero_add j,(cell_push hh j).1,e1]
  ·have e1:c=w.heap.size:=hx.1
   have:=h.sex c o hy
   omega
 ·exact .c (.ptr (r:=0) (c:=0) R (by simp))
theorem Sat.newRows (h:Sat K β S st a w) (hs:slot < st.heap.length) (hf:β slot=none) {w':World} {cells:Array Value} {el:TypeId} {rows:List (List Tree)} {size cap:Nat} {g fz:Bool}
  (hh:w'.heap=w.heap.push (.cells cells el (0,0))) (hos:w'.os=w.os) (htape:w'.tape=w.tape) (hout:w'.output=w.output)
  (hsz:∀ r ∈ rows,r.length=size) (hcap:rows.length<=cap) (hcap2:cap < 2 ^ 63) (hlen:rows.length < 2 ^ 60) (hcells:cells.size=cap*size) (hfl:Flat S w rows size (cells.toList.take (rows.length*size))) :
  ∃ β' S',(∀ b,b ≠ slot->β' b=β b)/\Sat K β' S' ⟨st.tmps,st.heap.set slot (some (.rows size rows g fz))⟩ a w' /\
   VRep β' S' w' (.c (.sl slot 0 rows.length false)) (.slice (some ⟨w.heap.size,0,none⟩) rows.length cap) /\
   (∀ x v,VRep β S w x v->VRep β' S' w' x v):=by
 let R:Reg:=⟨w.heap.size,0,size,cap⟩
 let S':Place:=fun c o=>S c o ∨ (fz=true/\c=w.heap.size/\o < rows.length*size)
 have hSS:∀ c o,S c o->S' c o:=fun _ _ hx=>.inl hx
 have hold:∀ b o,S b o->w'.cell? ⟨b,o,none⟩=w.cell? ⟨b,o,none⟩:=fun b o hb=>cell_old hh (h.sex b o hb) o
 have hmul:rows.length*size<=cap*size:=Nat.mul_le_mul_right size hcap
 have hββ:∀ b R',β b=some R'->(if b=slot then some R else β b)=some R':=fun b R' hb=>by rw [if_neg (by rintro rfl; rw [hf] at hb; cases hb)]; exact hb
 refine ⟨fun b=>if b=slot then some R else β b,S',fun b hb=>if_neg hb,?_,?_,fun x v hr=>hr.mono hββ hSS hold⟩
 ·refine h.new hs hf (R:=R) hh hos htape hout rfl hSS (fun c o hx=>?_) ⟨rfl,hsz,hcap,hcap2,hlen,fun o h1 h2=>?_,fun i j t ht=>?_,fun hfz o h1 h2=>?_⟩ fun c o hx hy=>?_
  ·rcases hx with hx | ⟨_,hx,_⟩
   ·exact .inl hx
   ·exact .inr hx
  ·obtain ⟨e1,e2⟩:=cell_push hh o
   refine ⟨?_,e2⟩
   have:o < cells.size:=by
    rw [hcells]
    have h2':o < 0+(if g then cap else rows.length)*size:=h2
    cases g
    ·simp at h2'; omega
    ·simp at h2'; omega
   rw [e1,Array.getElem?_eq_getElem this]; rfl
  ·obtain ⟨v,e1,e2⟩:=hfl.2 i j t ht
   obtain ⟨_,_,hlt⟩:=at2_in hsz ht
   refine ⟨v,?_,e2.mono hSS hold⟩
   rw [List.getElem?_take,if_pos hlt] at e1
   rw [show R.co+i*R.stride+j=i*size+j by simp [R],(cell_push hh _).1]
   simpa using e1
  ·exact .inr ⟨hfz,rfl,by simpa [R] using h2⟩
  ·obtain ⟨e1,e2,e3⟩:=hx
   have e1':c=w.heap.size:=e1
   rcases hy with hy | ⟨hfz,_,hlt⟩
   ·have:=h.sex c o hy; omega
   ·rw [if_pos hfz] at e2
    simp only [R,Nat.zero_add] at e2
    omega
 ·refine .c (.sl R _ cap (by simp) (by simp) (by simp [R]) hcap (by simp [R]) fun _=>by simp [R])
end
end Go.Abs
end
