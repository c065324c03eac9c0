/-
  A part of the proof: GabsMem3, GabsMem4, GabsMem5, GabsMem6, GabsMemA, GabsMem7, GabsMem8, GabsCall, GabsCall2, GabsCall3, GabsCall4, GabsCall5, GabsArr, GabsFn, GabsOp, GabsSh, GabsRun, GabsCode, GabsBody, GabsLocal.
-/
import Derived.Test.YtjfmkcmepdedaaaGreatM5
import Derived.IntWalk
set_option maxHeartbeats 0
set_option maxRecDepth 100000
set_option linter.unusedVariables false
set_option linter.unusedSimpArgs false
set_option linter.unusedSectionVars false
section
namespace Go.Abs
def wrs (h:Heap) (l:List (Nat × Option Blk)):Heap:=l.foldl (fun h p=>h.set p.1 p.2) h
theorem qa7:∀ (l:List (Nat × Option Blk)) (h:Heap),(wrs h l).length=h.length
 | [],_=>rfl
 | p :: l,h=>by unfold wrs; rw [List.foldl_cons]; have:=qa7 l (h.set p.1 p.2); unfold wrs at this; rw [this]; simp
theorem wrs_cons (p:Nat × Option Blk) (l:List (Nat × Option Blk)) (h:Heap):wrs h (p :: l)=wrs (h.set p.1 p.2) l:=rfl
theorem qat (l l':List (Nat × Option Blk)) (h:Heap):wrs h (l ++ l')=wrs (wrs h l) l':=by simp [wrs]
theorem qae {h:Heap} {b:Nat} (hb:b < h.length) (x:Option Blk):look (h.set b x) b=x:=by
 unfold look
 rw [List.getElem?_set,if_pos rfl,if_pos hb]; rfl
theorem qac {h:Heap} {b b':Nat} (hne:b' ≠ b) (x:Option Blk):look (h.set b x) b'=look h b':=by
 unfold look
 rw [List.getElem?_set,if_neg (by omega)]
def Marked (h h':Heap):Prop:=h'.length=h.length/\∀ b,look h' b=look h b ∨ ∃ sz rows g fz,look h b=some (.rows sz rows g fz)/\look h' b=some (.rows sz rows g true)
theorem Marked.refl (h:Heap):Marked h h:=⟨rfl,fun _=>.inl rfl⟩
section
variable {P:Program} {C:Cfg} {K:Ctx} {β:Nat->Option Reg} {S:Place} {st:St} {a:Act} {w:World} {slot:Nat} {e:Eff} {o:Oper}
theorem Sat.mark (h:Sat K β S st a w) {b:Nat} {sz:Nat} {rows:List (List Tree)} {g fz:Bool} (hb:look st.heap b=some (.rows sz rows g fz)) :
  ∃ S',(∀ c o,S c o->S' c o)/\Sat K β S' ⟨st.tmps,st.heap.set b (some (.rows sz rows g true))⟩ a w /\
   ∀ R,β b=some R->∀ o,R.co<=o->o < R.co+rows.length*R.stride->S' R.cb o:=by
 obtain ⟨R,hR,hok,hx,hwr⟩:=h.blk b _ hb
 have hlt:=qaw hb
 obtain ⟨h0,h1,h2,h3,h3',h4,h5,h6⟩:=hok
 have hle:rows.length<=(if g then R.cap else rows.length):=by split <;> omega
 have hmul:=Nat.mul_le_mul_right R.stride hle
 let S':Place:=fun c o=>S c o ∨ (c=R.cb/\R.co<=o/\o < R.co+rows.length*R.stride)
 have hSS:∀ c o,S c o->S' c o:=fun _ _ hx=>.inl hx
 have hin:∀ c o,S' c o->S c o ∨ (Blk.rows sz rows g fz).ext R c o:=by
  rintro c o (hs | ⟨e1,e2,e3⟩)
  ·exact .inl hs
  ·exact .inr ⟨e1,e2,by omega⟩
 refine ⟨S',hSS,?_,fun R' hR' o e1 e2=>by rw [hR] at hR'; cases hR'; exact .inr ⟨rfl,e1,e2⟩⟩
 refine h.step (Wr:=fun _ _=>False) (fun b'=>b'=b) (Keep.refl _ _) (fun _ _ hx=>hx.elim) (fun _ _ hx=>hx) (fun b' R' hb'=>by simpa using h.top b' R' hb') hSS (fun c o hs=>?_) (fun b' blk' hD hb'=>?_) (fun b' blk' hD hb'=>?_)
 ·rcases hin c o hs with hs | hs
  ·exact .inl hs
  ·refine .inr ⟨(hx c o hs).1,(hx c o hs).2,fun b' blk' R' hD hb' hR' hy=>?_⟩
   exact h.dis b b' _ blk' R R' (Ne.symm hD) hb hb' hR hR' c o hs (Blk.wr_ext hy)
 ·rw [qac hD] at hb'; exact hb'
 ·subst hD
  rw [qae hlt] at hb'; cases hb'
  refine ⟨R,hR,⟨h0,h1,h2,h3,h3',h4,fun i j t ht=>?_,fun _ o e1 e2=>.inr ⟨rfl,e1,e2⟩⟩,hx,fun c o hy hs=>?_,fun b'' blk'' R'' hne hb'' hR'' c o hy=>?_⟩
  ·obtain ⟨v,e1,e2⟩:=h5 i j t ht
   exact ⟨v,e1,e2.mono hSS fun _ _ _=>rfl⟩
  ·obtain ⟨e1,e2,e3⟩:=hy
   rw [if_pos rfl] at e2
   rcases hs with hs | ⟨_,_,e6⟩
   ·refine hwr c o ⟨e1,?_,e3⟩ hs
    split <;> omega
   ·omega
  ·rw [qac hne] at hb''
   exact h.dis _ _ _ _ R R'' (Ne.symm hne) hb hb'' hR hR'' c o hy
theorem toTree_rep {cur:Heap} (h:Sat K β S ⟨st.tmps,cur⟩ a w) (hm:Marked st.heap cur) {c:Cell} {v:Value} (hc:CRep β S w c v) {t:Tree} {m:List (Nat × Option Blk)} (ht:toTree (look st.heap) c=some (t,m)) :
  ∃ S',(∀ c o,S c o->S' c o)/\Sat K β S' ⟨st.tmps,wrs cur m⟩ a w/\Marked st.heap (wrs cur m)/\TRep S' w t v:=by
 unfold toTree at ht
 split at ht
 ·cases ht
  cases hc with | t hc=>
  exact ⟨S,fun _ _ hx=>hx,h,hm,hc⟩
 ·rename_i b off len cp
  split at ht
  ·rename_i sz rows g fz hb
   split at ht
   ·rename_i hle
    cases ht
    have hcur:∃ fz',look cur b=some (.rows sz rows g fz'):=by
     rcases hm.2 b with e | ⟨sz',rows',g',fz',e1,e2⟩
     ·exact ⟨fz,by rw [e,hb]⟩
     ·rw [hb] at e1; cases e1; exact ⟨true,e2⟩
    obtain ⟨fz',hb'⟩:=hcur
    obtain ⟨S',hSS,hsat,hcon⟩:=h.mark hb'
    refine ⟨S',hSS,hsat,⟨by simp [wrs,hm.1],fun b'=>?_⟩,?_⟩
    ·by_cases hbb:b'=b
     ·subst hbb
      exact .inr ⟨sz,rows,g,fz,hb,by simp only [wrs,List.foldl_cons,List.foldl_nil]; exact qae (qaw hb') _⟩
     ·have:look (wrs cur [(b,some (.rows sz rows g true))]) b'=look cur b':=by simp only [wrs,List.foldl_cons,List.foldl_nil]; exact qac hbb _
      rw [this]; exact hm.2 b'
    ·cases hc with | sl R base cap hR h1 h2 h3 h4 h5=>
     obtain ⟨R',e1,e2,_⟩:=h.blk b _ hb'
     rw [hR] at e1; cases e1
     obtain ⟨f0,f1,f2,f3,f3',f4,f5,f6⟩:=e2
     have hl:((rows.drop off).take len).length=len:=by rw [List.length_take,List.length_drop]; omega
     have hex:∃ val:Nat->Nat->Value,∀ i j t,at2 ((rows.drop off).take len) i j=some t->w.cell? ⟨R.cb,R.co+off*R.stride+i*R.stride+j,none⟩=some (val i j)/\TRep S' w t (val i j):=by
      have:∀ i j,∃ v,∀ t,at2 ((rows.drop off).take len) i j=some t->w.cell? ⟨R.cb,R.co+off*R.stride+i*R.stride+j,none⟩=some v/\TRep S' w t v:=by
       intro i j
       cases ht:at2 ((rows.drop off).take len) i j with
       | none=>exact ⟨undef,by simp⟩
       | some t=>
        obtain ⟨v,a1,a2⟩:=f5 _ _ _ (at2_cut ht).2
        refine ⟨v,fun t' ht'=>?_⟩
        cases ht'
        rw [Nat.add_mul,<- Nat.add_assoc] at a1
        exact ⟨a1,a2.mono hSS fun _ _ _=>rfl⟩
      exact ⟨fun i j=>(this i j).choose,fun i j t ht=>(this i j).choose_spec t ht⟩
     obtain ⟨val,hval⟩:=hex
     have hmem:∀ r ∈ ((rows.drop off).take len),r.length=R.stride:=fun r hr=>f1 r (mem_cut hr)
     have hin:∀ i j t,at2 ((rows.drop off).take len) i j=some t->S' R.cb (R.co+off*R.stride+i*R.stride+j):=by
      intro i j t ht
      obtain ⟨_,_,hlt⟩:=at2_in f1 (at2_cut ht).2
      rw [Nat.add_mul] at hlt
      exact hcon R hR _ (by omega) (by omega)
     generalize ((rows.drop off).take len)=rs at hl hval hmem hin ⊢
     subst hl
     refine .lst cp rs base R.cb (R.co+off*R.stride) R.stride cap val h3 (by omega) (by omega) h1 (fun hne=>h5 ?_) (fun hb=>?_) hmem (fun i j t ht=>⟨hin i j t ht,(hval i j t ht).1⟩) (fun i j t ht=>(hval i j t ht).2)
     ·have:=List.length_pos_iff.2 hne; omega
     ·rcases Nat.eq_zero_or_pos cap with h | h
      ·exact h
      ·have:=h5 h; rw [hb] at this; cases this
   ·cases ht
  ·cases ht
 ·cases ht
theorem toTrees_rep:∀ (cs:List Cell) (vs:List Value) (cur:Heap) (S:Place) (ts:List Tree) (m:List (Nat × Option Blk)),Sat K β S ⟨st.tmps,cur⟩ a w->Marked st.heap cur ->
  vs.length=cs.length->(∀ (i:Nat) (c:Cell),cs[i]?=some c->∃ v,vs[i]?=some v/\CRep β S w c v)->toTrees (look st.heap) cs=some (ts,m) ->
  ∃ S',(∀ c o,S c o->S' c o)/\Sat K β S' ⟨st.tmps,wrs cur m⟩ a w/\Marked st.heap (wrs cur m)/\ts.length=cs.length/\∀ (i:Nat) (t:Tree),ts[i]?=some t->∃ v,vs[i]?=some v/\TRep S' w t v
 | [],vs,cur,S,ts,m,h,hm,_,_,ht=>by
  simp [toTrees] at ht; obtain ⟨rfl,rfl⟩:=ht
  exact ⟨S,fun _ _ hx=>hx,h,hm,rfl,by simp⟩
 | c :: cs,[],_,_,_,_,_,_,hl,_,_=>by simp at hl
 | c :: cs,v :: vs,cur,S,ts,m,h,hm,hl,hr,ht=>by
  unfold toTrees at ht
  split at ht
  ·rename_i t m1 ht1
   split at ht
   ·rename_i ts' m2 ht2
    cases ht
    obtain ⟨v',hv',hc⟩:=hr 0 c rfl
    simp at hv'; subst hv'
    obtain ⟨S1,hS1,hsat1,hm1,ht1'⟩:=toTree_rep h hm hc ht1
    obtain ⟨S2,hS2,hsat2,hm2,hl2,hts⟩:=toTrees_rep cs vs _ S1 ts' m2 hsat1 hm1 (by simpa using hl) (fun i c hi=>by
     obtain ⟨u,e1,e2⟩:=hr (i+1) c (by simpa using hi)
     exact ⟨u,by simpa using e1,e2.mono (fun _ _ hx=>hx) hS1 fun _ _ _=>rfl⟩) ht2
    refine ⟨S2,fun c o hx=>hS2 _ _ (hS1 _ _ hx),by rw [qat]; exact hsat2,by rw [qat]; exact hm2,by simp [hl2],fun i t' hi=>?_⟩
    cases i with
    | zero=>simp at hi; subst hi; exact ⟨v,rfl,ht1'.mono hS2 fun _ _ _=>rfl⟩
    | succ i=>simpa using hts i t' (by simpa using hi)
   ·cases ht
  ·cases ht
def Does (P:Program) (K:Ctx) (β:Nat->Option Reg) (S:Place) (st:St) (a:Act) (w:World) (slot:Nat) (o:Oper) (e:Eff):Prop:=
 ∃ w' β' S' v nx,(execOp a.eval o).run P w=.ok nx w'/\(nx=.value v ∨ (nx=.skip/\v=undef))/\(∀ b,b ≠ slot->β' b=β b) /\
  Sat K β' S' ⟨st.tmps,wrs st.heap e.wr⟩ a w'/\VRep β' S' w' e.val v
theorem Quiet.does (h:Sat K β S st a w) (hq:Quiet P β S a w o e):Does P K β S st a w slot o e:=by
 obtain ⟨h1,v,h2,h3⟩:=hq
 exact ⟨w,β,S,v,_,h2,.inl rfl,fun _ _=>rfl,by rw [h1]; exact h,h3⟩
theorem d_alloc (hC:CfgOk P C) (h:Sat K β S st a w) (hs:slot < st.heap.length) (hf:β slot=none) {t:TypeId} (ho:o.op=.alloc t)
  (he:evalOp C slot st.get (look st.heap) (.alloc t)=some e):Does P K β S st a w slot o e:=by
 simp only [evalOp] at he
 split at he
 ·rename_i ti hti
  cases he
  have hty:=qah (hC t ti hti)
  obtain ⟨i,z,h1,h2,h3,h4,_⟩:=zero_rep hty S w β
  obtain ⟨β',e1,e2,e3⟩:=h.newVar hs hf (w':={ w with heap:=w.heap.push (.cells z.cells t) }) (cells:=z.cells) (el:=t) rfl rfl rfl rfl h4
  refine ⟨_,β',S,_,_,?_,.inl rfl,e1,e2,e3⟩
  simp only [execOp,ho,Instr.alloc,Go.zeroValue,Go.typeInfo,Sem.run_bind,run_program,h1,Result.andThen,Sem.run_pure,h2,newVar,newRow,run_newObj]
 ·cases he
theorem d_box (hC:CfgOk P C) (h:Sat K β S st a w) (hs:slot < st.heap.length) (hf:β slot=none) {t:TypeId} {x:Operand} (ho:o.op=.box t x)
  (he:evalOp C slot st.get (look st.heap) (.box t x)=some e):Does P K β S st a w slot o e:=by
 simp only [evalOp] at he
 split at he
 ·rename_i ti cs hti hcs
  split at he
  ·cases he
   obtain ⟨h1,h2⟩:=(h.get x).cellsE hcs
   obtain ⟨β',e1,e2,e3⟩:=h.newVar hs hf (w':={ w with heap:=w.heap.push (.cells (a.eval x).cells t) }) (cells:=(a.eval x).cells) (el:=t) rfl rfl rfl rfl ⟨by simpa using h1,by simpa using h2⟩
   refine ⟨_,β',S,_,_,?_,.inl rfl,e1,e2,e3⟩
   simp only [execOp,ho,Instr.box,Sem.run_bind,Result.andThen,Sem.run_pure,newVar,newRow,run_newObj]
  ·cases he
 ·cases he
theorem d_makeMap (hC:CfgOk P C) (h:Sat K β S st a w) (hs:slot < st.heap.length) (hf:β slot=none) {t:TypeId} {r:Option Operand} (ho:o.op=.makeMap t r)
  (he:evalOp C slot st.get (look st.heap) (.makeMap t r)=some e):Does P K β S st a w slot o e:=by
 simp only [evalOp] at he
 split at he
 ·rename_i ti hti
  split at he
  ·rename_i k el hk
   cases he
   let R:Reg:=⟨w.heap.size,0,0,0⟩
   refine ⟨{ w with heap:=w.heap.push (.map #[] 0) },(fun b=>if b=slot then some R else β b),S,.map (some w.heap.size),.value (.map (some w.heap.size)),?_,.inl rfl,fun b hb=>if_neg hb,?_,.c (.mp R (by simp))⟩
   ·simp only [execOp,ho,Instr.makeMap,Option.map_none,Sem.run_bind,Result.andThen,Sem.run_pure,run_newObj]
   ·refine h.new hs hf (R:=R) rfl rfl rfl rfl rfl (fun _ _ hx=>hx) (fun _ _ hx=>.inl hx) ⟨by have:=h.keep.size; unfold Ctx.B0; simp [R]; omega,#[],0,by simp [R],rfl,by simp⟩ fun c o hx hy=>?_
    have e1:c=w.heap.size:=hx.1
    have:=h.sex c o hy
    omega
  ·cases he
 ·cases he
theorem zero_row {t:TypeId} {ti:TI} (hty:TyOk P t ti) (hsz:ti.size ≠ 0) (S:Place) (w:World) (n:Nat):∃ z:Value,(zeroValue t).run P w=.ok z w/\z.cells.size=ti.size /\
  Flat S w (List.replicate n ti.zero) ti.size (((Array.range (n*ti.size)).map (z.cells[· % z.cells.size]!)).toList):=by
 obtain ⟨z,e1,e2,e3,_,_⟩:=hty.zeroValue w S
 refine ⟨z,e1,e2,by simp,fun i j t' ht=>?_⟩
 obtain ⟨row,h1,h2,h3,h4⟩:=at2_lt ht
 rw [List.length_replicate] at h3
 rw [List.getElem?_replicate,if_pos h3] at h1
 cases h1
 rw [hty.len] at h4
 obtain ⟨v,hv,hr⟩:=e3 j t' h2
 refine ⟨v,?_,hr⟩
 have hlt:i*ti.size+j < n*ti.size:=by
  have:=Nat.mul_le_mul_right ti.size (show i+1<=n by omega)
  rw [Nat.succ_mul] at this; omega
 have hmod:(i*ti.size+j) % ti.size=j:=by rw [Nat.mul_comm,Nat.mul_add_mod,Nat.mod_eq_of_lt h4]
 simp only [Array.toList_map,List.getElem?_map,Array.toList_range,List.getElem?_range hlt,Option.map_some,e2,hmod]
 congr 1
 have hv':z.cells[j]?=some v:=by simpa using hv
 rw [getElem!_pos z.cells j (by rw [e2]; exact h4)]
 rw [Array.getElem?_eq_getElem (by rw [e2]; exact h4)] at hv'
 cases hv'; rfl
theorem Sat.rowsToVar (h:Sat K β S st a w) {b:Nat} {ts:List Tree} (hb:look st.heap b=some (.rows 1 (ts.map fun t=>[t]) true false)) :
  Sat K β S ⟨st.tmps,st.heap.set b (some (.var (ts.map .t)))⟩ a w:=by
 obtain ⟨R,hR,hok,hx,hwr⟩:=h.blk b _ hb
 obtain ⟨q0,q1,q2,q3,q3',q4,q5,q6⟩:=hok
 have hlt:=qaw hb
 have hsub:∀ c o,(Blk.var (ts.map .t)).ext R c o->(Blk.rows 1 (ts.map fun t=>[t]) true false).ext R c o:=by
  rintro c o ⟨e1,e2,e3⟩
  refine ⟨e1,e2,?_⟩
  simp only [List.length_map,if_true] at e3 q2 ⊢
  rw [<- q0,Nat.mul_one]
  omega
 refine h.step (Wr:=fun _ _=>False) (fun b'=>b'=b) (Keep.refl _ _) (fun _ _ hx=>hx.elim) (fun _ _ hx=>hx) (fun b' R' hb'=>by simpa using h.top b' R' hb') (fun _ _ hs=>hs) (fun c o hs=>.inl hs) (fun b' blk' hD hb'=>by rwa [qac hD] at hb') (fun b' blk' hD hb'=>?_)
 subst hD
 rw [qae hlt] at hb'; cases hb'
 refine ⟨R,hR,⟨⟨fun o e1 e2=>?_,q0.symm,q3⟩,fun j c hj=>?_⟩,fun c o hy=>hx c o (hsub c o hy),fun c o hy=>hwr c o ?_,fun b2 blk2 R2 hne hb2 hR2 c o hy hz=>?_⟩
 ·refine q4 o e1 ?_
  simp only [List.length_map,if_true] at e2 q2 ⊢
  rw [<- q0,Nat.mul_one]
  omega
 ·rw [List.getElem?_map] at hj
  obtain ⟨t,ht,rfl⟩:=Option.map_eq_some_iff.1 hj
  obtain ⟨v,e1,e2⟩:=q5 j 0 t (by unfold at2; rw [List.getElem?_map,ht]; rfl)
  refine ⟨v,?_,.t e2⟩
  rw [<- q0,Nat.mul_one,Nat.add_zero] at e1; exact e1
 ·obtain ⟨e1,e2,e3⟩:=hsub c o hy
  exact ⟨e1,by simpa using e2,e3⟩
 ·rw [qac hne] at hb2
  exact h.dis b' b2 _ blk2 R R2 (Ne.symm hne) hb hb2 hR hR2 c o (hsub c o hy) hz
theorem d_makeSlice (hC:CfgOk P C) (h:Sat K β S st a w) (hs:slot < st.heap.length) (hf:β slot=none) {t:TypeId} {l c:Operand} (ho:o.op=.makeSlice t l c)
  (he:evalOp C slot st.get (look st.heap) (.makeSlice t l c)=some e):Does P K β S st a w slot o e:=by
 simp only [evalOp] at he
 split at he
 ·rename_i ti hti
  have hty:=qah (hC t ti hti)
  split at he
  ·rename_i el hk
   split at he
   ·rename_i te n m hte hn hm
    have htye:=qah (hC _ te hte)
    split at he
    ·rename_i hr
     obtain ⟨r1,r2,r3,r4,r5⟩:=hr
     obtain ⟨k1,hl1,_⟩:=(h.get l).int hn
     obtain ⟨k2,hl2,_⟩:=(h.get c).int hm
     obtain ⟨z,z1,z2,z3⟩:=zero_row htye r5 S w m.toNat
     obtain ⟨i,i1,i2,_⟩:=htye.typeInfo w
     have hmb:m<=(capBytes:Int):=by
      have h1:m*1<=m*(te.bytes:Int):=Int.mul_le_mul_of_nonneg_left (by omega) (by omega)
      omega
     unfold capBytes at hmb r3
     have hmn:n.toNat<=m.toNat:=by omega
     have hwn:IntKind.i64.wrap n=n:=IntWalk.i64_in n (by omega)
     have hwm:IntKind.i64.wrap m=m:=IntWalk.i64_in m (by omega)
     let cells:Array Value:=(Array.range (m.toNat*te.size)).map (z.cells[· % z.cells.size]!)
     have hfl:Flat S w (List.replicate n.toNat te.zero) te.size (cells.toList.take ((List.replicate n.toNat te.zero).length*te.size)):=by
      have hmul:=Nat.mul_le_mul_right te.size hmn
      refine ⟨by rw [List.length_take,List.length_replicate,Nat.min_eq_left (by simp [cells]; exact hmul)],fun i j t ht=>?_⟩
      have hin:=at2_in (size:=te.size) (fun r hr=>by rw [(List.mem_replicate.1 hr).2]; exact htye.len) ht
      obtain ⟨v,e1,e2⟩:=z3.2 i j t (by
       obtain ⟨row,h1,h2,h3,h4⟩:=at2_lt ht
       rw [List.length_replicate] at h3
       rw [List.getElem?_replicate,if_pos h3] at h1
       exact qas (by rw [List.getElem?_replicate,if_pos (by omega)]; exact h1) h2)
      exact ⟨v,by rw [List.getElem?_take,if_pos hin.2.2]; exact e1,e2⟩
     obtain ⟨β',S',e1,e2,e3,e4⟩:=h.newRows hs hf (w':={ w with heap:=w.heap.push (.cells cells el) }) (cells:=cells) (el:=el) (rows:=List.replicate n.toNat te.zero) (size:=te.size) (cap:=m.toNat) (g:=true) (fz:=false) rfl rfl rfl rfl
      (fun r hr=>by rw [(List.mem_replicate.1 hr).2]; exact htye.len) (by simp; omega) (by omega) (by simp; omega) (by simp [cells]) hfl
     rw [List.length_replicate] at e3
     have hrun:(execOp a.eval o).run P w=.ok (.value (.slice (some ⟨w.heap.size,0,none⟩) n.toNat m.toNat)) { w with heap:=w.heap.push (.cells cells el) }:=by
      have hbig:¬ (((m < 0 ∨ (te.bytes:Int)*m > 2 ^ 48) ∨ n < 0) ∨ n > m):=by
       have:=Int.mul_comm (te.bytes:Int) m
       omega
      simp only [execOp,ho,Instr.makeSlice,run_underlying (hty.slice hk),Sem.run_bind,Result.andThen,hl1,hl2,asInt,asIntOf,Sem.run_pure,i1,i2,hwn,hwm,Sem.run_ite,run_askRoom,htye.sizeOf,newRow,run_newObj]
      rw [if_neg (by simpa [Bool.or_eq_true] using hbig)]
      by_cases h0:m.toNat*te.size=0
      ·have hm0:m.toNat=0:=by
        rcases Nat.mul_eq_zero.1 h0 with h | h
        ·exact h
        ·exact absurd h r5
       simp [h0,cells,hm0,Array.range_zero']
      ·simp [h0,cells,z1]
     split at he
     ·rename_i z0 hcs hz0
      cases he
      have hsz1:te.size=1:=by rw [<- htye.len,hz0]; rfl
      have hrep:List.replicate n.toNat [z0]=(List.replicate n.toNat z0).map fun t=>[t]:=by rw [List.map_replicate]
      rw [hz0,hsz1,hrep] at e2
      have e5:=Sat.rowsToVar e2 (b:=slot) (ts:=List.replicate n.toNat z0) (qae hs _)
      simp only [List.set_set] at e5
      rw [show (List.replicate n.toNat z0).map Cell.t=List.replicate n.toNat (.t z0) from List.map_replicate] at e5
      exact ⟨_,β',S',_,_,hrun,.inl rfl,e1,e5,e3⟩
     ·cases he
      exact ⟨_,β',S',_,_,hrun,.inl rfl,e1,e2,e3⟩
    ·cases he
   ·cases he
  ·cases he
 ·cases he
end
theorem keep_setCell (w:World) (b o:Nat) (v:Value):Keep (fun c o'=>c=b/\o'=o) w (w.setCell ⟨b,o,none⟩ v):=by
 refine ⟨rfl,rfl,rfl,by simp [World.setCell],fun k ob hk=>?_⟩
 simp only [World.setCell,Array.getElem?_modify]
 by_cases hb:b=k
 ·subst hb
  rw [if_pos rfl,hk]
  cases ob with
  | cells c el fr=>
   refine ⟨c.setIfInBounds o v,rfl,by simp,fun i hi=>?_⟩
   rw [Array.getElem?_setIfInBounds,if_neg (by rintro rfl; exact hi ⟨rfl,rfl⟩)]
  | map es cl=>exact ⟨es,cl,rfl,fun _=>⟨rfl,rfl⟩⟩
  | _=>rfl
 ·rw [if_neg hb,hk]
  exact ObjKeep.refl _ _ _
theorem keep_setCells (b:Nat):∀ (vs:List Value) (lo:Nat) (w:World),Keep (fun c o=>c=b/\lo<=o/\o < lo+vs.length) w (w.setCells b lo vs)
 | [],lo,w=>Keep.refl _ _
 | v :: vs,lo,w=>by
  have h1:=(keep_setCell w b lo v).mono (W':=fun c o=>c=b/\lo<=o/\o < lo+(v :: vs).length) fun c o _ hx=>⟨hx.1,by omega,by simp; omega⟩
  exact h1.trans (keep_setCells b vs (lo+1) _) fun c o _ hx=>⟨hx.1,by omega,by simp; omega⟩
theorem qbx (b:Nat):∀ (vs:List Value) (lo:Nat) (w:World),(w.setCells b lo vs).heap.size=w.heap.size
 | [],_,_=>rfl
 | v :: vs,lo,w=>by rw [World.setCells,qbx b vs]; simp [World.setCell]
section
variable {P:Program} {C:Cfg} {K:Ctx} {β:Nat->Option Reg} {S:Place} {st:St} {a:Act} {w:World} {slot:Nat} {e:Eff} {o:Oper}
theorem qbd {w:World} {cb co n:Nat} (h:there w cb co n) {b lo:Nat} {vs:List Value} (hin:∀ j,j < vs.length->(w.cell? ⟨b,lo+j,none⟩).isSome=true):there (w.setCells b lo vs) cb co n:=by
 intro o h1 h2
 obtain ⟨e1,e2⟩:=h o h1 h2
 rw [World.frozen?_setCells]
 refine ⟨?_,e2⟩
 by_cases hx:cb=b/\lo<=o/\o < lo+vs.length
 ·obtain ⟨rfl,h3,h4⟩:=hx
  have:=World.cell?_setCells_in cb vs lo w hin (o - lo) (by omega)
  rw [show lo+(o - lo)=o by omega] at this
  rw [this]; rfl
 ·rw [World.cell?_setCells_out b vs lo w ⟨cb,o,none⟩ (fun e _=>by
   have:cb=b:=e
   show o < lo ∨ lo+vs.length<=o
   omega)]
  exact e1
theorem Sat.write (h:Sat K β S st a w) {b:Nat} {blk blk':Blk} {R:Reg} (hb:look st.heap b=some blk) (hR:β b=some R) (lo:Nat) (vs:List Value)
  (hin:∀ j,j < vs.length->blk.wr R R.cb (lo+j)) (hext:∀ c o,blk'.ext R c o->blk.ext R c o) (hwr:∀ c o,blk'.wr R c o->blk.wr R c o)
  (hok:BlkOk β S (w.setCells R.cb lo vs) K.B0 R blk'):Sat K β S ⟨st.tmps,st.heap.set b (some blk')⟩ a (w.setCells R.cb lo vs):=by
 obtain ⟨R',hR',_,hx,hw⟩:=h.blk b _ hb
 rw [hR] at hR'; cases hR'
 have hlt:=qaw hb
 have hwr':∀ c o,(c=R.cb/\lo<=o/\o < lo+vs.length)->blk.wr R c o:=by
  rintro c o ⟨rfl,h1,h2⟩
  have:=hin (o - lo) (by omega)
  rwa [show lo+(o - lo)=o by omega] at this
 refine h.step (fun b'=>b'=b) (keep_setCells R.cb vs lo w) (fun c o hc hlt=>⟨hw c o (hwr' c o hc),(hx c o (Blk.wr_ext (hwr' c o hc))).2,fun b' blk'' R'' hD hb' hR'' hy=>?_⟩) (fun _ _ hx=>hx) (fun b' R' hb'=>by simpa using h.top b' R' hb') (fun _ _ hx=>hx) (fun c o hs=>.inl hs) (fun b' blk'' hD hb'=>?_) (fun b' blk'' hD hb'=>?_)
 ·exact h.dis b b' _ blk'' R R'' (Ne.symm hD) hb hb' hR hR'' c o (Blk.wr_ext (hwr' c o hc)) hy
 ·rw [qac hD] at hb'; exact hb'
 ·subst hD
  rw [qae hlt] at hb'; cases hb'
  refine ⟨R,hR,hok,fun c o hy=>?_,fun c o hy=>hw c o (hwr c o hy),fun b'' blk'' R'' hne hb'' hR'' c o hy=>?_⟩
  ·rw [qbx]; exact hx c o (hext c o hy)
  ·rw [qac hne] at hb''
   exact h.dis _ _ _ _ R R'' (Ne.symm hne) hb hb'' hR hR'' c o (hext c o hy)
theorem run_storeVar {t:TypeId} {ti:TI} (hty:TyOk P t ti) {v:Value} (hsz:v.cells.toList.length=ti.size) (hone:∀ u ∈ v.cells.toList,one u) {cb co:Nat} (hth:there w cb co ti.size) :
  (storeVar t ⟨cb,co,none⟩ v).run P w=.ok () (w.setCells cb co v.cells.toList):=by
 have hs:=run_storeCells_cells (P:=P) cb co v.cells.toList 0 w (fun j hj=>(hth (co+0+j) (by omega) (by omega)).1) (fun j hj=>(hth (co+0+j) (by omega) (by omega)).2) (fun u hu=>one_oneCell (hone u hu))
 simp only [Nat.add_zero] at hs
 simp only [storeVar,Sem.run_bind,hty.sizeOf,Result.andThen]
 rw [if_neg (by simpa using hsz)]
 exact hs
theorem setCells_in {b lo:Nat} {vs:List Value} (hin:∀ j,j < vs.length->(w.cell? ⟨b,lo+j,none⟩).isSome=true) {k:Nat} (h1:lo<=k) (h2:k < lo+vs.length) {v:Value} (hv:vs[k - lo]?=some v) :
  (w.setCells b lo vs).cell? ⟨b,k,none⟩=some v:=by
 have:=World.cell?_setCells_in b vs lo w hin (k - lo) (by omega)
 rw [show lo+(k - lo)=k by omega] at this
 rw [this,<- List.getElem?_eq_getElem]; exact hv
theorem qbg {b lo:Nat} {vs:List Value} {c k:Nat} (h:¬ (c=b/\lo<=k/\k < lo+vs.length)):(w.setCells b lo vs).cell? ⟨c,k,none⟩=w.cell? ⟨c,k,none⟩:=
 World.cell?_setCells_out b vs lo w ⟨c,k,none⟩ fun e _=>by
  have:c=b:=e
  show k < lo ∨ lo+vs.length<=k
  omega
theorem Sat.cells_setCells (h:Sat K β S st a w) {b:Nat} {blk:Blk} {R:Reg} (hb:look st.heap b=some blk) (hR:β b=some R) {lo:Nat} {vs:List Value} (hin:∀ j,j < vs.length->blk.wr R R.cb (lo+j)) :
  ∀ c o,S c o->(w.setCells R.cb lo vs).cell? ⟨c,o,none⟩=w.cell? ⟨c,o,none⟩:=by
 obtain ⟨R',hR',_,hx,hw⟩:=h.blk b _ hb
 rw [hR] at hR'; cases hR'
 intro c o hs
 refine qbg fun hx=>?_
 obtain ⟨rfl,h1,h2⟩:=hx
 have:=hin (o - lo) (by omega)
 rw [show lo+(o - lo)=o by omega] at this
 exact hw _ _ this hs
theorem d_store (hC:CfgOk P C) (h:Sat K β S st a w) {t:TypeId} {x y:Operand} (ho:o.op=.store t x y)
  (he:evalOp C slot st.get (look st.heap) (.store t x y)=some e):Does P K β S st a w slot o e:=by
 simp only [evalOp] at he
 have hx:=h.get x
 have hy:=h.get y
 split at he
 ·rename_i ti cs hti hcs
  have hty:=qah (hC t ti hti)
  obtain ⟨hl1,hl2⟩:=hy.cellsE hcs
  split at he
  ·rename_i hsz
   have hone:∀ u ∈ (a.eval y).cells.toList,one u:=by
    intro u hu
    obtain ⟨i,hi⟩:=List.getElem?_of_mem hu
    have hlt:=qag hi
    obtain ⟨u',e1,e2⟩:=hl2 i (cs[i]'(by omega)) (List.getElem?_eq_getElem _)
    rw [hi] at e1; cases e1
    exact e2.one
   split at he
   ·rename_i b r c hg
    rw [hg] at hx
    cases hx with | c hx=>
    generalize hav:a.eval x=av at hx
    cases hx with | ptr R hR=>
    have hrun:∀ co,there w R.cb co ti.size->a.eval x=.pointer (some ⟨R.cb,co,none⟩)->(execOp a.eval o).run P w=.ok .skip (w.setCells R.cb co (a.eval y).cells.toList):=by
     intro co hth hax
     simp only [execOp,ho,Instr.storeAt,hax,Instr.sureAddr,Sem.run_bind,Sem.run_pure,Result.andThen,run_storeVar hty (by omega) hone hth]
    split at he
    ·rename_i cells hb
     split at he
     ·rename_i hr
      obtain ⟨rfl,hle⟩:=hr
      cases he
      obtain ⟨R',e1,⟨⟨e2,e2s⟩,e3⟩,e4,e5⟩:=h.blk b _ hb
      rw [hR] at e1; cases e1
      rw [show R.co+0*R.stride+c=R.co+c by omega] at hav
      have hth:there w R.cb (R.co+c) ti.size:=fun o h1 h2=>e2 o (by omega) (by omega)
      have hin:∀ j,j < (a.eval y).cells.toList.length->(Blk.var cells).wr R R.cb (R.co+c+j):=fun j hj=>⟨rfl,by omega,by omega⟩
      have hex:∀ j,j < (a.eval y).cells.toList.length->(w.cell? ⟨R.cb,R.co+c+j,none⟩).isSome=true:=fun j hj=>(hth _ (by omega) (by omega)).1
      have hlen:=qa2 cells cs c hle
      have hSc:=h.cells_setCells hb hR hin
      refine ⟨_,β,S,undef,.skip,hrun _ hth hav,.inr ⟨rfl,rfl⟩,fun _ _=>rfl,?_,.junk _⟩
      refine h.write hb hR _ _ hin (fun c o hy=>by rw [Blk.ext,hlen] at hy; exact hy) (fun c o hy=>by rw [Blk.wr,hlen] at hy; exact hy) ⟨⟨?_,e2s⟩,fun j y hj=>?_⟩
      ·rw [hlen]; exact qbd e2 hex
      ·rw [qa5 _ _ _ _ hle] at hj
       split at hj
       ·rename_i hjr
        obtain ⟨u,f1,f2⟩:=hl2 _ _ hj
        exact ⟨u,setCells_in hex (by omega) (by omega) (by rw [show R.co+j - (R.co+c)=j - c by omega]; exact f1),f2.mono (fun _ _ hx=>hx) (fun _ _ hx=>hx) hSc⟩
       ·rename_i hjr
        obtain ⟨u,f1,f2⟩:=e3 _ _ hj
        exact ⟨u,by rw [qbg (by omega)]; exact f1,f2.mono (fun _ _ hx=>hx) (fun _ _ hx=>hx) hSc⟩
     ·cases he
    ·rename_i sz rows g hb
     split at he
     ·rename_i row ts m hrow hts
      split at he
      ·rename_i hr
       obtain ⟨hle,hnc⟩:=hr
       cases he
       obtain ⟨S1,hS1,hsat1,hm1,hlts,hts2⟩:=toTrees_rep cs (a.eval y).cells.toList st.heap S ts m h (Marked.refl _) (by omega) hl2 hts
       have hb1:look (wrs st.heap m) b=some (.rows sz rows g false):=by
        have:∀ (m:List (Nat × Option Blk)) (h0:Heap),(ids m).contains b=false->look (wrs h0 m) b=look h0 b:=by
         intro m
         induction m with
         | nil=>intro h0 _; rfl
         | cons p m ih=>
          intro h0 hc
          simp only [ids,List.map_cons,List.contains_cons,Bool.or_eq_false_iff] at hc
          rw [wrs_cons,ih _ (by simpa [ids] using hc.2),qac (by simpa using hc.1)]
        rw [this m st.heap (by simpa using hnc)]; exact hb
       obtain ⟨R',e1,⟨e2',e2,e3,e4,e4',e5,e6,e7⟩,e8,e9⟩:=hsat1.blk b _ hb1
       rw [hR] at e1; cases e1
       have hrl:row.length=R.stride:=e2 row (List.mem_of_getElem? hrow)
       have hrlt:=qag hrow
       have hmul:(r+1)*R.stride<=rows.length*R.stride:=Nat.mul_le_mul_right _ (by omega)
       rw [Nat.succ_mul] at hmul
       have hmul2:rows.length*R.stride<=(if g then R.cap else rows.length)*R.stride:=Nat.mul_le_mul_right _ (by split <;> omega)
       have hth:there w R.cb (R.co+r*R.stride+c) ti.size:=fun o h1 h2=>e5 o (by omega) (by omega)
       have hin:∀ j,j < (a.eval y).cells.toList.length->(Blk.rows sz rows g false).wr R R.cb (R.co+r*R.stride+c+j):=fun j hj=>⟨rfl,by simp; omega,by omega⟩
       have hex:∀ j,j < (a.eval y).cells.toList.length->(w.cell? ⟨R.cb,R.co+r*R.stride+c+j,none⟩).isSome=true:=fun j hj=>(hth _ (by omega) (by omega)).1
       have hSc:=hsat1.cells_setCells hb1 hR hin
       have hlen:(rows.set r (setRange row c ts)).length=rows.length:=by simp
       have hget:∀ i j t,at2 (rows.set r (setRange row c ts)) i j=some t->(i=r/\c<=j/\j < c+ts.length/\ts[j - c]?=some t) ∨ (at2 rows i j=some t/\¬ (i=r/\c<=j/\j < c+ts.length)):=by
        intro i j t ht
        obtain ⟨row',q1,q2,q3,q4⟩:=at2_lt ht
        rw [List.getElem?_set] at q1
        split at q1
        ·rename_i hri
         subst hri
         cases q1
         rw [qa5 _ _ _ _ hle] at q2
         split at q2
         ·rename_i hcj; exact .inl ⟨rfl,hcj.1,hcj.2,q2⟩
         ·rename_i hcj; exact .inr ⟨qas hrow q2,fun hx=>hcj hx.2⟩
        ·rename_i hri
         exact .inr ⟨qas q1 q2,fun hx=>hri hx.1.symm⟩
       refine ⟨_,β,S1,undef,.skip,hrun _ hth hav,.inr ⟨rfl,rfl⟩,fun _ _=>rfl,?_,.junk _⟩
       rw [qat]
       refine hsat1.write hb1 hR _ _ hin (fun c o hy=>by rw [Blk.ext,hlen] at hy; exact hy) (fun c o hy=>by rw [Blk.wr,hlen] at hy; exact hy) ⟨e2',fun r' hr'=>?_,by rw [hlen]; exact e3,e4,by rw [hlen]; exact e4',?_,fun i j t' ht=>?_,by simp⟩
       ·rcases List.mem_or_eq_of_mem_set hr' with h1 | h1
        ·exact e2 r' h1
        ·rw [h1,qa2 _ _ _ hle]; exact hrl
       ·rw [hlen]; exact qbd e5 hex
       ·rcases hget i j t' ht with ⟨rfl,q1,q2,q3⟩ | ⟨q1,q2⟩
        ·obtain ⟨u,f1,f2⟩:=hts2 _ _ q3
         exact ⟨u,setCells_in hex (by omega) (by omega) (by rw [show R.co+i*R.stride+j - (R.co+i*R.stride+c)=j - c by omega]; exact f1),f2.mono (fun _ _ hx=>hx) hSc⟩
        ·obtain ⟨u,f1,f2⟩:=e6 _ _ _ q1
         refine ⟨u,?_,f2.mono (fun _ _ hx=>hx) hSc⟩
         rw [qbg]
         ·exact f1
         ·rintro ⟨_,h3,h4⟩
          obtain ⟨_,hj,_⟩:=at2_in e2 q1
          have hir:i=r:=by
           rcases Nat.lt_trichotomy i r with h5 | h5 | h5
           ·have:=Nat.mul_le_mul_right R.stride (show i+1<=r by omega)
            rw [Nat.succ_mul] at this; omega
           ·exact h5
           ·have:=Nat.mul_le_mul_right R.stride (show r+1<=i by omega)
            rw [Nat.succ_mul] at this; omega
          subst hir
          exact q2 ⟨rfl,by omega,by omega⟩
      ·cases he
     ·cases he
    ·cases he
   ·cases he
  ·cases he
 ·cases he
end
section
variable {P:Program} {C:Cfg} {K:Ctx} {β:Nat->Option Reg} {S:Place} {st:St} {a:Act} {w:World} {slot:Nat} {e:Eff} {o:Oper}
theorem Sat.drawn (h:Sat K β S st a w) (d:Nat):Sat K β S st a { w with drawn:=d }:=by
 have hk:Keep (fun _ _=>False) w { w with drawn:=d }:=⟨rfl,rfl,rfl,Nat.le_refl _,fun k ob hk=>by show ObjKeep _ k ob (w.heap[k]?); rw [hk]; exact ObjKeep.refl _ _ _⟩
 exact h.step (fun _=>False) hk (fun _ _ hx=>hx.elim) (fun _ _ hx=>hx) h.top (fun _ _ hx=>hx) (fun _ _ hx=>.inl hx) (fun _ _ _ hx=>hx) (fun _ _ hx=>hx.elim)
theorem VRep.drawn {x:AV} {v:Value} (h:VRep β S w x v) (d:Nat):VRep β S { w with drawn:=d } x v:=h.mono (fun _ _ hx=>hx) (fun _ _ hx=>hx) (fun _ _ _=>rfl)
theorem Flat.mono {S S':Place} {w w':World} {rows:List (List Tree)} {size:Nat} {vs:List Value} (h:Flat S w rows size vs) (hS:∀ b o,S b o->S' b o)
  (hw:∀ b o,S b o->w'.cell? ⟨b,o,none⟩=w.cell? ⟨b,o,none⟩):Flat S' w' rows size vs:=
 ⟨h.1,fun i j t ht=>by obtain ⟨v,e1,e2⟩:=h.2 i j t ht; exact ⟨v,e1,e2.mono hS hw⟩⟩
theorem at2_append {α:Type} {r1 r2:List (List α)} {i j:Nat} {t:α} (h:at2 (r1 ++ r2) i j=some t):(i < r1.length/\at2 r1 i j=some t) ∨ (r1.length<=i/\at2 r2 (i - r1.length) j=some t):=by
 unfold at2 at h ⊢
 rw [List.getElem?_append] at h
 split at h
 ·exact .inl ⟨by assumption,h⟩
 ·exact .inr ⟨by omega,h⟩
theorem Flat.append {S:Place} {w:World} {r1 r2:List (List Tree)} {size:Nat} {v1 v2:List Value} (h1:Flat S w r1 size v1) (h2:Flat S w r2 size v2) (hs1:∀ r ∈ r1,r.length=size):Flat S w (r1 ++ r2) size (v1 ++ v2):=by
 refine ⟨by rw [List.length_append,List.length_append,h1.1,h2.1,Nat.add_mul],fun i j t ht=>?_⟩
 rcases at2_append ht with ⟨hi,ht⟩ | ⟨hi,ht⟩
 ·obtain ⟨v,e1,e2⟩:=h1.2 i j t ht
  exact ⟨v,by rw [List.getElem?_append,if_pos (qag e1)]; exact e1,e2⟩
 ·obtain ⟨v,e1,e2⟩:=h2.2 _ j t ht
  have:i*size=r1.length*size+(i - r1.length)*size:=by rw [<- Nat.add_mul]; congr 1; omega
  refine ⟨v,?_,e2⟩
  rw [List.getElem?_append,if_neg (by rw [h1.1]; omega),h1.1,show i*size+j - r1.length*size=(i - r1.length)*size+j by omega]
  exact e1
structure AppArgs (P:Program) (argTypes:Array TypeId) (el:TypeId):Prop where
 t0:∃ t,argTypes[0]?=some t/\P.underlying t=some (.slice el)
 t1:∃ t,argTypes[1]?=some t/\((∃ e',P.underlying t=some (.slice e')) ∨ P.underlying t=some .string)
theorem qbw {argTypes:Array TypeId} {ty el:TypeId} {te:TI} (ha:AppArgs P argTypes el) (hty:TyOk P el te) {base:Option Addr} {sLen sCap n:Nat} {xv:Value} {vs:List Value}
  (hlen:(Builtin.lenOf xv).run P w=.ok n w) (hcells:(Builtin.firstCells te.size n xv).run P w=.ok vs.toArray w) (hfit:sLen+n<=sCap)
  {w':World} (hst:(match base with | some ad=>(storeCells (ad.add (sLen*te.size)) vs).run P w | none=>.ok () w)=.ok () w') :
  (Builtin.append_ argTypes ty #[.slice base sLen sCap,xv]).run P w=.ok (.slice base (sLen+n) sCap) w':=by
 obtain ⟨t,ht,hu⟩:=ha.t0
 obtain ⟨t1,ht1,hu1⟩:=ha.t1
 cases base with
 | none=>
  simp only at hst
  cases hst
  rcases hu1 with ⟨e',hu1⟩ | hu1 <;>
  simp [Builtin.append_,ht,ht1,run_underlying hu,run_underlying hu1,Result.andThen,hty.sizeOf,hlen,hcells,hfit]
 | some ad=>
  simp only at hst
  rcases hu1 with ⟨e',hu1⟩ | hu1 <;>
  simp [Builtin.append_,ht,ht1,run_underlying hu,run_underlying hu1,Result.andThen,hty.sizeOf,hlen,hcells,hfit,hst]
theorem run_append_grows {argTypes : Array TypeId} {ty el : TypeId} {te : TI} (ha : AppArgs P argTypes el) (hty : TyOk P el te) (hb : te.bytes ≠ 0) {base : Option Addr} {sLen sCap n : Nat} {xv : Value}
    (hlen : (Builtin.lenOf xv).run P w = .ok n w) (hgrow : sCap < sLen + n) (hbig : (sLen + n) * te.bytes <= 140737488355328) :
    ∃ d newCap, sLen + n <= newCap /\ newCap < 2 ^ 63 /\ ∀ old vs : List Value,
      ((Builtin.firstCells te.size sLen (.slice base sLen sCap)).run P { w with drawn := d } = .ok old.toArray { w with drawn := d } ->
       (Builtin.firstCells te.size n xv).run P { w with drawn := d } = .ok vs.toArray { w with drawn := d } ->
       ∃ rest : Array Value, rest.size = (newCap - (sLen + n)) * te.size /\
        (Builtin.append_ argTypes ty #[.slice base sLen sCap, xv]).run P w = .ok (.slice (some ⟨w.heap.size, 0, none⟩) (sLen + n) newCap) { w with drawn := d, heap := w.heap.push (.cells (old.toArray ++ vs.toArray ++ rest) el) }) := by
  obtain ⟨t, ht, hu⟩ := ha.t0
  obtain ⟨t1, ht1, hu1⟩ := ha.t1
  obtain ⟨i, i1, i2, i3⟩ := hty.typeInfo w
  have hn : sLen + n < 2 ^ 63 := by
    have := Nat.mul_le_mul_left (sLen + n) (show 1 <= te.bytes by omega)
    omega
  have hnc := growslice_fits hgrow hbig
  let tape := w.tape w.drawn (.appendCap (sLen + n) sCap el)
  refine ⟨w.drawn + 1, (sLen + n) + tape % (2 ^ 63 - (sLen + n)), by omega, ?_, fun old vs h1 h2 => ?_⟩
  · have := Nat.mod_lt tape (show 0 < 2 ^ 63 - (sLen + n) by omega)
    omega
  · obtain ⟨z, z1, z2, _⟩ := hty.zeroValue { w with drawn := w.drawn + 1 } (fun _ _ => False)
    refine ⟨Builtin.zeroCells z.cells ((sLen + n) + tape % (2 ^ 63 - (sLen + n)) - (sLen + n)), by simp [Builtin.zeroCells, z2], ?_⟩
    have hi : (typeInfo el).run P { w with drawn := w.drawn + 1 } = .ok i { w with drawn := w.drawn + 1 } := by
      obtain ⟨i', j1, _⟩ := hty.info
      simp only [Go.typeInfo, Sem.run_bind, run_program, Result.andThen, j1, Sem.run_pure] at i1 ⊢
      cases i1; rfl
    have hmax : ¬ ((IntKind.i64.max < ((sLen + n : Nat) : Int)) /\ te.bytes = 0) := fun hx => hb hx.2
    rcases hu1 with ⟨e', hu1⟩ | hu1
    all_goals
      simp only [Builtin.append_, ht, ht1, run_underlying hu, run_underlying hu1, Sem.run_bind, Sem.run_pure, Result.andThen, hty.sizeOf, hlen, List.getElem?_toArray, List.getElem?_cons_zero, List.getElem?_cons_succ, Bool.false_eq_true, if_false, Sem.run_ite]
      rw [if_neg (by omega)]
      simp only [i1, i2, Result.andThen, Sem.run_bind, Sem.run_pure, Sem.run_ite, false_or]
      rw [if_neg (by simpa using hmax), if_neg (by omega)]
      simp only [run_choose, Question.forced, Question.cut, Bool.false_eq_true, if_false, run_askRoom, hi, h1, h2, z1, newRow, run_newObj, Sem.run_bind, Sem.run_pure, Result.andThen, Bool.not_false, if_true]
      rfl
end
section
variable {P:Program} {C:Cfg} {K:Ctx} {β:Nat->Option Reg} {S:Place} {st:St} {a:Act} {w:World} {slot:Nat} {e:Eff} {o:Oper}
theorem Sat.kill (h:Sat K β S st a w) (b:Nat):Sat K β S ⟨st.tmps,st.heap.set b none⟩ a w:=by
 refine h.step (Wr:=fun _ _=>False) (fun b'=>b'=b) (Keep.refl _ _) (fun _ _ hx=>hx.elim) (fun _ _ hx=>hx) (fun b' R' hb'=>by simpa using h.top b' R' hb') (fun _ _ hx=>hx) (fun _ _ hx=>.inl hx) (fun b' blk hD hb'=>?_) (fun b' blk hD hb'=>?_)
 ·rw [qac hD] at hb'; exact hb'
 ·subst hD
  have hlt:=qaw hb'
  rw [qae (by simpa using hlt)] at hb'; cases hb'
theorem Sat.grow (h:Sat K β S st a w) {b off sz:Nat} {rows new:List (List Tree)} {fz:Bool} {R:Reg} (hb:look st.heap b=some (.rows sz rows true fz)) (hR:β b=some R) (hs:slot < st.heap.length) (hf:β slot=none)
  (hoff:off<=rows.length) (hfit:rows.length+new.length<=R.cap) (hsz:∀ r ∈ new,r.length=sz) (hlen:rows.length - off+new.length < 2 ^ 60) {vs:List Value} (hfl:Flat S w new sz vs) :
  ∃ β' S',(∀ b',b' ≠ slot->β' b'=β b')/\Sat K β' S' ⟨st.tmps,(st.heap.set b none).set slot (some (.rows sz (rows.drop off ++ new) true fz))⟩ a (w.setCells R.cb (R.co+rows.length*R.stride) vs) /\
   β' slot=some ⟨R.cb,R.co+off*R.stride,R.stride,R.cap - off⟩/\(∀ c o,S c o->S' c o):=by
 have hbs:b ≠ slot:=by rintro rfl; rw [hR] at hf; cases hf
 obtain ⟨R0,hR0,⟨h0,h1,h2,h3,h3',h4,h5,h6⟩,hx,hwr⟩:=h.blk b _ hb
 rw [hR] at hR0; cases hR0
 subst h0
 simp only [if_true] at h4
 let R':Reg:=⟨R.cb,R.co+off*R.stride,R.stride,R.cap - off⟩
 let β':Nat->Option Reg:=fun b'=>if b'=slot then some R' else β b'
 let S':Place:=fun c o=>S c o ∨ (fz=true/\c=R.cb/\R'.co<=o/\o < R'.co+(rows.drop off ++ new).length*R.stride)
 have hSS:∀ c o,S c o->S' c o:=fun _ _ hx=>.inl hx
 have hnl:(rows.drop off ++ new).length=rows.length - off+new.length:=by simp
 have hvl:vs.length=new.length*R.stride:=hfl.1
 have hm1:(rows.length+new.length)*R.stride<=R.cap*R.stride:=Nat.mul_le_mul_right _ hfit
 have hm1':(rows.length+new.length)*R.stride=rows.length*R.stride+new.length*R.stride:=Nat.add_mul _ _ _
 have hm2:off*R.stride<=rows.length*R.stride:=Nat.mul_le_mul_right _ hoff
 have hm3:(rows.drop off ++ new).length*R.stride+off*R.stride=rows.length*R.stride+new.length*R.stride:=by
  rw [<- Nat.add_mul,<- Nat.add_mul]; congr 1; omega
 have hm4:(R.cap - off)*R.stride+off*R.stride=R.cap*R.stride:=by rw [<- Nat.add_mul]; congr 1; omega
 have hin:∀ j,j < vs.length->(Blk.rows R.stride rows true fz).wr R R.cb (R.co+rows.length*R.stride+j):=fun j hj=>⟨rfl,by split <;> omega,by simp only [if_true]; omega⟩
 have hex:∀ j,j < vs.length->(w.cell? ⟨R.cb,R.co+rows.length*R.stride+j,none⟩).isSome=true:=fun j hj=>(h4 _ (by omega) (by omega)).1
 have hSc:=h.cells_setCells hb hR hin
 have hββ:∀ b' R1,β b'=some R1->β' b'=some R1:=fun b' R1 hb'=>by
  have:b' ≠ slot:=by rintro rfl; rw [hf] at hb'; cases hb'
  simp only [β',if_neg this]; exact hb'
 have hlook:∀ b',b' ≠ slot->b' ≠ b->look ((st.heap.set b none).set slot (some (.rows R.stride (rows.drop off ++ new) true fz))) b'=look st.heap b':=fun b' e1 e2=>by
  rw [qac e1,qac e2]
 have hlookb:look ((st.heap.set b none).set slot (some (.rows R.stride (rows.drop off ++ new) true fz))) b=none:=by
  rw [qac hbs,qae (qaw hb)]
 have hwrb:∀ c o,(c=R.cb/\R.co+rows.length*R.stride<=o/\o < R.co+rows.length*R.stride+vs.length)->(Blk.rows R.stride rows true fz).wr R c o:=by
  rintro c o ⟨rfl,e1,e2⟩
  have:=hin (o - (R.co+rows.length*R.stride)) (by omega)
  rwa [show R.co+rows.length*R.stride+(o - (R.co+rows.length*R.stride))=o by omega] at this
 refine ⟨β',S',fun b' hb'=>if_neg hb',?_,by simp [β',R'],hSS⟩
 refine h.step (fun b'=>b'=b ∨ b'=slot) (keep_setCells R.cb vs _ w) (fun c o hc hlt=>⟨hwr c o (hwrb c o hc),(hx c o (Blk.wr_ext (hwrb c o hc))).2,fun b' blk R1 hD hb' hR1 hy=>?_⟩) hββ (fun b' R1 hb'=>?_) hSS (fun c o hs'=>?_) (fun b' blk hD hb'=>?_) (fun b' blk hD hb'=>?_)
 ·exact h.dis b b' _ blk R R1 (fun e=>hD (.inl e.symm)) hb hb' hR hR1 c o (Blk.wr_ext (hwrb c o hc)) hy
 ·simp only [List.length_set]
  by_cases hbs':b'=slot
  ·omega
  ·simp only [β',if_neg hbs'] at hb'; exact h.top b' R1 hb'
 ·rcases hs' with hs' | ⟨_,rfl,e1,e2⟩
  ·exact .inl hs'
  ·have hxb:(Blk.rows R.stride rows true fz).ext R R.cb o:=⟨rfl,by simp only [R'] at e1; omega,by simp only [R',if_true] at e1 e2 ⊢; omega⟩
   refine .inr ⟨by rw [qbx]; exact (hx _ _ hxb).1,(hx _ _ hxb).2,fun b' blk R1 hD hb' hR1 hy=>?_⟩
   exact h.dis b b' _ blk R R1 (fun e=>hD (.inl e.symm)) hb hb' hR hR1 _ o hxb (Blk.wr_ext hy)
 ·rw [hlook b' (fun e=>hD (.inr e)) (fun e=>hD (.inl e))] at hb'; exact hb'
 ·rcases hD with rfl | rfl
  ·rw [hlookb] at hb'; cases hb'
  ·rw [qae (by simpa using hs)] at hb'; cases hb'
   have hext:∀ c o,(Blk.rows R.stride (rows.drop off ++ new) true fz).ext R' c o->(Blk.rows R.stride rows true fz).ext R c o:=by
    rintro c o ⟨rfl,e1,e2⟩
    simp only [R',if_true] at e1 e2
    exact ⟨rfl,by omega,by simp only [if_true]; omega⟩
   refine ⟨R',by simp [β'],⟨rfl,fun r hr=>?_,by simp only [R']; omega,by simp only [R']; omega,by omega,?_,fun i j t ht=>?_,fun hfz o e1 e2=>.inr ⟨hfz,rfl,e1,e2⟩⟩,fun c o hy=>?_,fun c o hy hs'=>?_,fun b'' blk'' R'' hne hb'' hR'' c o hy hz=>?_⟩
   ·rcases List.mem_append.1 hr with hr | hr
    ·exact h1 r (List.mem_of_mem_drop hr)
    ·exact hsz r hr
   ·intro o e1 e2
    simp only [R',if_true] at e1 e2
    exact qbd h4 hex o (by omega) (by omega)
   ·rcases at2_append ht with ⟨hi,ht⟩ | ⟨hi,ht⟩
    ·have ht':at2 rows (off+i) j=some t:=by
      unfold at2 at ht ⊢
      rw [List.getElem?_drop] at ht; exact ht
     obtain ⟨v,e1,e2⟩:=h5 _ _ _ ht'
     obtain ⟨_,_,hlt⟩:=at2_in h1 ht'
     refine ⟨v,?_,e2.mono hSS hSc⟩
     rw [Nat.add_mul] at e1 hlt
     simp only [R']
     rw [qbg (by omega),show R.co+off*R.stride+i*R.stride+j=R.co+(off*R.stride+i*R.stride)+j by omega]
     exact e1
    ·obtain ⟨v,e1,e2⟩:=hfl.2 _ _ _ ht
     obtain ⟨_,_,hlt⟩:=at2_in hsz ht
     refine ⟨v,?_,e2.mono hSS hSc⟩
     rw [List.length_drop] at hi e1 hlt
     have hii:i*R.stride+off*R.stride=rows.length*R.stride+(i - (rows.length - off))*R.stride:=by
      rw [<- Nat.add_mul,<- Nat.add_mul]; congr 1; omega
     simp only [R']
     rw [setCells_in hex (by omega) (by omega) (v:=v)]
     rw [show R.co+off*R.stride+i*R.stride+j - (R.co+rows.length*R.stride)=(i - (rows.length - off))*R.stride+j by omega]
     exact e1
   ·rw [qbx]; exact hx c o (hext c o hy)
   ·obtain ⟨rfl,e1,e2⟩:=hy
    simp only [R',if_true] at e1 e2
    rcases hs' with hs' | ⟨e3,_,_,e5⟩
    ·refine hwr _ o ⟨rfl,?_,by simp only [if_true]; omega⟩ hs'
     cases fz
     ·simp at e1 ⊢; omega
     ·simp only [if_true] at e1 ⊢; omega
    ·rw [if_pos e3] at e1
     simp only [R'] at e5
     omega
   ·by_cases hbb:b''=b
    ·subst hbb; rw [hlookb] at hb''; cases hb''
    ·rw [hlook b'' hne hbb] at hb''
     have hR3:β b''=some R'':=by simp only [β',if_neg hne] at hR''; exact hR''
     exact h.dis b b'' _ blk'' R R'' (Ne.symm hbb) hb hb'' hR hR3 c o (hext c o hy) hz
end
section
variable {P:Program} {C:Cfg} {K:Ctx} {β:Nat->Option Reg} {S:Place} {st:St} {a:Act} {w:World} {slot:Nat} {e:Eff} {o:Oper}
theorem Sat.newCells (h:Sat K β S st a w) (hs:slot < st.heap.length) (hf:β slot=none) {w':World} {cells:Array Value} {el:TypeId} {cs:List Cell}
  (hh:w'.heap=w.heap.push (.cells cells el (0,0))) (hos:w'.os=w.os) (htape:w'.tape=w.tape) (hout:w'.output=w.output) (hl:cs.length<=cells.size) (hcap:cells.size < 2 ^ 63)
  (hc:∀ (j:Nat) (c:Cell),cs[j]?=some c->∃ v,cells[j]?=some v/\CRep β S w c v) :
  ∃ β',(∀ b,b ≠ slot->β' b=β b)/\Sat K β' S ⟨st.tmps,st.heap.set slot (some (.var cs))⟩ a w'/\VRep β' S w' (.c (.sl slot 0 cs.length false)) (.slice (some ⟨w.heap.size,0,none⟩) cs.length cells.size):=by
 let R:Reg:=⟨w.heap.size,0,1,cells.size⟩
 have hmono:∀ c v,CRep β S w c v->CRep (fun b=>if b=slot then some R else β b) S w' c v:=fun c v hr=>
  hr.mono (fun b R' hb=>by rw [if_neg (by rintro rfl; rw [hf] at hb; cases hb)]; exact hb) (fun _ _ hx=>hx) (fun b o hb=>cell_old hh (h.sex b o hb) o)
 refine ⟨fun b=>if b=slot then some R else β b,fun b hb=>if_neg hb,?_,?_⟩
 ·refine h.new hs hf (R:=R) hh hos htape hout rfl (fun _ _ hx=>hx) (fun _ _ hx=>.inl hx) ⟨⟨fun o h1 h2=>?_,rfl,hcap⟩,fun j c hj=>?_⟩ fun c o hx hy=>?_
  ·obtain ⟨e1,e2⟩:=cell_push hh o
   refine ⟨?_,e2⟩
   rw [e1,Array.getElem?_eq_getElem (by have h2':o < 0+max cs.length cells.size:=h2; omega)]; rfl
  ·obtain ⟨v,e1,e2⟩:=hc j c hj
   refine ⟨v,?_,hmono c v e2⟩
   rw [show R.co+j=j from Nat.zero_add j,(cell_push hh j).1,e1]
  ·have e1:c=w.heap.size:=hx.1
   have:=h.sex c o hy
   omega
 ·exact .c (.sl R _ cells.size (by simp) (by simp) (by simp [R]) hl (by simp [R]) fun _=>by simp [R])
theorem Sat.growCells (h:Sat K β S st a w) {b:Nat} {cs ns:List Cell} {R:Reg} (hb:look st.heap b=some (.var cs)) (hR:β b=some R) (hs:slot < st.heap.length) (hf:β slot=none)
  (hfit:cs.length+ns.length<=R.cap) {vs:List Value} (hvl:vs.length=ns.length) (hv:∀ (j:Nat) (c:Cell),ns[j]?=some c->∃ v,vs[j]?=some v/\CRep β S w c v) :
  ∃ β',(∀ b',b' ≠ slot->β' b'=β b')/\Sat K β' S ⟨st.tmps,(st.heap.set b none).set slot (some (.var (cs ++ ns)))⟩ a (w.setCells R.cb (R.co+cs.length) vs)/\β' slot=some R:=by
 have hbs:b ≠ slot:=by rintro rfl; rw [hR] at hf; cases hf
 obtain ⟨R0,hR0,⟨⟨h0,h1,h2⟩,h3⟩,hx,hwr⟩:=h.blk b _ hb
 rw [hR] at hR0; cases hR0
 let β':Nat->Option Reg:=fun b'=>if b'=slot then some R else β b'
 have hnl:(cs ++ ns).length=cs.length+ns.length:=by simp
 have hext:∀ c o,(Blk.var (cs ++ ns)).ext R c o->(Blk.var cs).ext R c o:=by
  rintro c o ⟨rfl,e1,e2⟩
  have e2:o < R.co+max (cs ++ ns).length R.cap:=e2
  rw [hnl] at e2
  exact ⟨rfl,e1,by show o < R.co+max cs.length R.cap; omega⟩
 have hin:∀ j,j < vs.length->(Blk.var cs).wr R R.cb (R.co+cs.length+j):=fun j hj=>⟨rfl,by omega,by show R.co+cs.length+j < R.co+max cs.length R.cap; omega⟩
 have hex:∀ j,j < vs.length->(w.cell? ⟨R.cb,R.co+cs.length+j,none⟩).isSome=true:=fun j hj=>(h0 _ (by omega) (by omega)).1
 have hSc:=h.cells_setCells hb hR hin
 have hββ:∀ b' R1,β b'=some R1->β' b'=some R1:=fun b' R1 hb'=>by
  have:b' ≠ slot:=by rintro rfl; rw [hf] at hb'; cases hb'
  simp only [β',if_neg this]; exact hb'
 have hlook:∀ b',b' ≠ slot->b' ≠ b->look ((st.heap.set b none).set slot (some (.var (cs ++ ns)))) b'=look st.heap b':=fun b' e1 e2=>by
  rw [qac e1,qac e2]
 have hlookb:look ((st.heap.set b none).set slot (some (.var (cs ++ ns)))) b=none:=by
  rw [qac hbs,qae (qaw hb)]
 have hwrb:∀ c o,(c=R.cb/\R.co+cs.length<=o/\o < R.co+cs.length+vs.length)->(Blk.var cs).wr R c o:=by
  rintro c o ⟨rfl,e1,e2⟩
  have:=hin (o - (R.co+cs.length)) (by omega)
  rwa [show R.co+cs.length+(o - (R.co+cs.length))=o by omega] at this
 refine ⟨β',fun b' hb'=>if_neg hb',?_,by simp [β']⟩
 refine h.step (fun b'=>b'=b ∨ b'=slot) (keep_setCells R.cb vs _ w) (fun c o hc hlt=>⟨hwr c o (hwrb c o hc),(hx c o (Blk.wr_ext (hwrb c o hc))).2,fun b' blk R1 hD hb' hR1 hy=>?_⟩) hββ (fun b' R1 hb'=>?_) (fun _ _ hx=>hx) (fun _ _ hx=>.inl hx) (fun b' blk hD hb'=>?_) (fun b' blk hD hb'=>?_)
 ·exact h.dis b b' _ blk R R1 (fun e=>hD (.inl e.symm)) hb hb' hR hR1 c o (Blk.wr_ext (hwrb c o hc)) hy
 ·simp only [List.length_set]
  by_cases hbs':b'=slot
  ·omega
  ·simp only [β',if_neg hbs'] at hb'; exact h.top b' R1 hb'
 ·rw [hlook b' (fun e=>hD (.inr e)) (fun e=>hD (.inl e))] at hb'; exact hb'
 ·rcases hD with rfl | rfl
  ·rw [hlookb] at hb'; cases hb'
  ·rw [qae (by simpa using hs)] at hb'; cases hb'
   refine ⟨R,by simp [β'],⟨⟨fun o e1 e2=>?_,h1,h2⟩,fun j c hj=>?_⟩,fun c o hy=>?_,fun c o hy hs'=>?_,fun b'' blk'' R'' hne hb'' hR'' c o hy hz=>?_⟩
   ·rw [hnl] at e2
    exact qbd h0 hex o (by omega) (by omega)
   ·rw [List.getElem?_append] at hj
    split at hj
    ·obtain ⟨v,e1,e2⟩:=h3 j c hj
     exact ⟨v,by rw [qbg (by omega)]; exact e1,e2.mono hββ (fun _ _ hx=>hx) hSc⟩
    ·obtain ⟨v,e1,e2⟩:=hv _ c hj
     have hlt:=qag e1
     exact ⟨v,by rw [setCells_in hex (by omega) (by omega) (v:=v)]; rw [show R.co+j - (R.co+cs.length)=j - cs.length by omega]; exact e1,e2.mono hββ (fun _ _ hx=>hx) hSc⟩
   ·rw [qbx]; exact hx c o (hext c o hy)
   ·exact hwr c o (hext c o hy) hs'
   ·by_cases hbb:b''=b
    ·subst hbb; rw [hlookb] at hb''; cases hb''
    ·rw [hlook b'' hne hbb] at hb''
     have hR3:β b''=some R'':=by simp only [β',if_neg hne] at hR''; exact hR''
     exact h.dis b b'' _ blk'' R R'' (Ne.symm hbb) hb hb'' hR hR3 c o (hext c o hy) hz
theorem cells_vals {w:World} {cb co:Nat}:∀ (ns:List Cell) (i:Nat),(∀ (j:Nat) (c:Cell),ns[j]?=some c->∃ v,w.cell? ⟨cb,co+(i+j),none⟩=some v/\CRep β S w c v) ->
  ∃ vs:List Value,vs.length=ns.length/\∀ (j:Nat) (c:Cell),ns[j]?=some c->∃ v,vs[j]?=some v/\w.cell? ⟨cb,co+(i+j),none⟩=some v/\CRep β S w c v
 | [],i,_=>⟨[],rfl,fun j c h=>by simp at h⟩
 | n :: ns,i,h=>by
  obtain ⟨v,h1,h2⟩:=h 0 n rfl
  obtain ⟨vs,e1,e2⟩:=cells_vals ns (i+1) fun j c hj=>by
   rw [show co+(i+1+j)=co+(i+(j+1)) by omega]; exact h (j+1) c hj
  refine ⟨v :: vs,by simp [e1],fun j c hj=>?_⟩
  cases j with
  | zero=>simp at hj; subst hj; exact ⟨v,rfl,h1,h2⟩
  | succ j=>
   obtain ⟨u,q1,q2,q3⟩:=e2 j c (by simpa using hj)
   exact ⟨u,by simpa using q1,by rw [show co+(i+(j+1))=co+(i+1+j) by omega]; exact q2,q3⟩
theorem evAppC_rows {ti:TI} {slot:Nat} {h:Hp} {s x:AV} {e:Eff} (he:evAppC ti slot h s x=some e):rowsOf h x=none:=by
 unfold evAppC at he
 split at he
 ·rename_i b off len b' off' len' cp'
  split at he
  ·rename_i cs ns hb hb'
   simp [rowsOf,hb']
  ·cases he
 ·cases he
theorem d_appC (hC:CfgOk P C) (h:Sat K β S st a w) (hs:slot < st.heap.length) (hf:β slot=none) {args:Array Operand} {argTypes:Array TypeId} {el:TypeId} {te:TI} {s x:Operand}
  (ho:o.op=.call { callee:=.builtin .append,args,argTypes }) (hargs:args.toList=[s,x]) (hta:AppArgs P argTypes el) (hte:C.ty el=some te) (hb:te.bytes ≠ 0)
  (he:evAppC te slot (look st.heap) (st.get s) (st.get x)=some e):Does P K β S st a w slot o e:=by
 have hty:=qah (hC _ te hte)
 have ha2:args=#[s,x]:=by rw [<- Array.toArray_toList (xs:=args),hargs]
 subst ha2
 have hxs:=h.get s
 have hxx:=h.get x
 have hrun:∀ v w',(Builtin.append_ argTypes o.type #[a.eval s,a.eval x]).run P w=.ok v w'->(execOp a.eval o).run P w=.ok (.value v) w':=by
  intro v w' hv
  simp only [execOp,ho,resolve,invoke,builtin,Sem.run_bind,Sem.run_pure,Result.andThen,List.map_toArray,List.map_cons,List.map_nil,hv]
 unfold evAppC at he
 split at he
 ·rename_i b off len b' off' len' cp' hg hg'
  split at he
  ·rename_i cs ns hbk hbk'
   split at he
   ·rename_i hcond
    obtain ⟨rfl,rfl,rfl,rfl,hpos,hsz,hbig⟩:=hcond
    cases he
    rw [hg] at hxs
    rw [hg'] at hxx
    cases hxs with | c hxs=>
    cases hxx with | c hxx=>
    generalize hav:a.eval s=av at hxs
    generalize hax:a.eval x=ax at hxx
    cases hxs with | sl R base cap hR h1 h2 h3 h4 h5=>
    cases hxx with | sl R2 base2 cap2 hR2 g1 g2 g3 g4 g5=>
    have hcapR:=h2 rfl
    rw [Nat.zero_add] at hcapR
    obtain ⟨R0,q1,⟨⟨q2,q3,q4⟩,q5⟩,q6,q7⟩:=h.blk b _ hbk
    rw [hR] at q1; cases q1
    obtain ⟨R0,p1,⟨⟨p2,p3,p4⟩,p5⟩,p6,p7⟩:=h.blk b' _ hbk'
    rw [hR2] at p1; cases p1
    have hbase2:=g5 (by omega)
    obtain ⟨nv,n1,n2⟩:=cells_vals (β:=β) (S:=S) (cb:=R2.cb) (co:=R2.co) ns 0 fun j c hj=>by rw [Nat.zero_add]; exact p5 j c hj
    obtain ⟨ov,o1,o2⟩:=cells_vals (β:=β) (S:=S) (cb:=R.cb) (co:=R.co) cs 0 fun j c hj=>by rw [Nat.zero_add]; exact q5 j c hj
    have hld:∀ d,(Builtin.firstCells te.size ns.length (.slice base2 ns.length cap2)).run P { w with drawn:=d }=.ok nv.toArray { w with drawn:=d }:=fun d=>by
     rw [hbase2]
     have:=run_loadCells_list (P:=P) { w with drawn:=d } ⟨R2.cb,R2.co+0*R2.stride,none⟩ nv fun j v hj=>by
      have hlt:=qag hj
      obtain ⟨u,k1,k2,_⟩:=n2 j (ns[j]'(by omega)) (List.getElem?_eq_getElem (by omega))
      rw [hj] at k1; cases k1
      rw [qbe,Nat.zero_mul,Nat.add_zero]
      rw [Nat.zero_add] at k2
      exact k2
     rw [n1] at this
     simpa [Builtin.firstCells,hsz] using this
    have hld2:∀ d,(Builtin.firstCells te.size cs.length (.slice base cs.length cap)).run P { w with drawn:=d }=.ok ov.toArray { w with drawn:=d }:=fun d=>by
     rcases Nat.eq_zero_or_pos cs.length with h0 | h0
     ·have:ov=[]:=List.eq_nil_of_length_eq_zero (by omega)
      subst this
      rw [h0]
      cases base <;> simp [Builtin.firstCells,loadCells,loadCellsFrom]
     ·rw [h5 (by omega)]
      have:=run_loadCells_list (P:=P) { w with drawn:=d } ⟨R.cb,R.co+0*R.stride,none⟩ ov fun j v hj=>by
       have hlt:=qag hj
       obtain ⟨u,k1,k2,_⟩:=o2 j (cs[j]'(by omega)) (List.getElem?_eq_getElem (by omega))
       rw [hj] at k1; cases k1
       rw [qbe,Nat.zero_mul,Nat.add_zero]
       rw [Nat.zero_add] at k2
       exact k2
      rw [o1] at this
      simpa [Builtin.firstCells,hsz] using this
    have hlen:(Builtin.lenOf (.slice base2 ns.length cap2)).run P w=.ok ns.length w:=by simp [Builtin.lenOf]
    have hb1:(cs.length+ns.length)*1<=(cs.length+ns.length)*te.bytes:=Nat.mul_le_mul_left _ (by omega)
    unfold capBytes at hbig
    by_cases hfit:cs.length+ns.length<=cap
    ·obtain ⟨β',f1,f2,f3⟩:=h.growCells (ns:=ns) (vs:=nv) hbk hR hs hf (by omega) n1 fun j c hj=>by
      obtain ⟨u,k1,_,k3⟩:=n2 j c hj
      exact ⟨u,k1,k3⟩
     have hst:(storeCells ⟨R.cb,R.co+cs.length,none⟩ nv).run P w=.ok () (w.setCells R.cb (R.co+cs.length) nv):=by
      have:=run_storeCells_cells (P:=P) R.cb (R.co+cs.length) nv 0 w (fun j hj=>(q2 _ (by omega) (by omega)).1) (fun j hj=>(q2 _ (by omega) (by omega)).2) (fun u hu=>by
       obtain ⟨k,hk⟩:=List.getElem?_of_mem hu
       have hkl:=qag hk
       obtain ⟨u',k1,_,k3⟩:=n2 k (ns[k]'(by omega)) (List.getElem?_eq_getElem (by omega))
       rw [hk] at k1; cases k1
       exact one_oneCell k3.one)
      simpa using this
     have hbase:=h5 (by omega)
     have haddr:(⟨R.cb,R.co+0*R.stride,none⟩:Addr).add (cs.length*te.size)=⟨R.cb,R.co+cs.length,none⟩:=by
      rw [qbe,Nat.zero_mul,Nat.add_zero,hsz,Nat.mul_one]
     have:=qbw (P:=P) (w:=w) (ty:=o.type) hta hty (base:=base) (sLen:=cs.length) (sCap:=cap) (xv:=.slice base2 ns.length cap2) (n:=ns.length) (vs:=nv) hlen (hld w.drawn) hfit (w':=w.setCells R.cb (R.co+cs.length) nv) (by rw [hbase]; simp only [haddr]; exact hst)
     rw [<- hav,<- hax] at this
     exact ⟨_,β',S,_,_,hrun _ _ this,.inl rfl,f1,f2,.c (.sl R base cap f3 (by simp) (fun _=>by omega) hfit (by omega) h5)⟩
    ·obtain ⟨d,newCap,c1,c2,c3⟩:=run_append_grows (P:=P) (w:=w) (ty:=o.type) hta hty hb (base:=base) (sLen:=cs.length) (sCap:=cap) (xv:=.slice base2 ns.length cap2) (n:=ns.length) hlen (by omega) (by omega)
     obtain ⟨rest,r1,r2⟩:=c3 ov nv (hld2 d) (hld d)
     have hcs:(ov.toArray ++ nv.toArray ++ rest).size=newCap:=by
      simp only [Array.size_append,List.size_toArray,r1,hsz,Nat.mul_one]; omega
     obtain ⟨β',f1,f2,f3⟩:=(h.kill b).newCells (slot:=slot) (by simpa using hs) hf (w':={ w with drawn:=d,heap:=w.heap.push (.cells (ov.toArray ++ nv.toArray ++ rest) el) }) (cells:=ov.toArray ++ nv.toArray ++ rest) (el:=el) (cs:=cs ++ ns) rfl rfl rfl rfl (by rw [hcs]; simp; omega) (by omega) fun j c hj=>by
      have hlt:=qag hj
      simp only [List.length_append] at hlt
      rw [List.getElem?_append] at hj
      have e1:(ov.toArray ++ nv.toArray ++ rest)[j]?=(ov ++ nv)[j]?:=by
       rw [Array.getElem?_append_left (by simp; omega)]
       simp
      rw [e1,List.getElem?_append]
      split at hj
      ·obtain ⟨u,k1,_,k3⟩:=o2 j c hj
       rw [if_pos (by omega)]; exact ⟨u,k1,k3⟩
      ·obtain ⟨u,k1,_,k3⟩:=n2 _ c hj
       rw [if_neg (by omega),o1]; exact ⟨u,k1,k3⟩
     rw [hcs] at f3
     simp only [List.length_append] at f3
     rw [<- hav,<- hax] at r2
     exact ⟨_,β',S,_,_,hrun _ _ r2,.inl rfl,f1,f2,f3⟩
   ·cases he
  ·cases he
 ·cases he
end
section
variable {P:Program} {C:Cfg} {K:Ctx} {β:Nat->Option Reg} {S:Place} {st:St} {a:Act} {w:World} {slot:Nat} {e:Eff} {o:Oper}
theorem all_size {rows:List (List Tree)} {n:Nat} (h:(rows.all fun r=>r.length == n)=true):∀ r ∈ rows,r.length=n:=fun r hr=>by simpa using List.all_eq_true.1 h r hr
theorem isSl_slice {x:AV} {v:Value} (hx:VRep β S w x v) (h:isSl x=true):∃ base len cap,v=.slice base len cap/\len<=cap:=by
 unfold isSl at h
 split at h
 ·cases hx with | c hx=>cases hx with | t hx=>cases hx with | lst _ _ _ _ _ _ _ _ h1=>exact ⟨_,_,_,rfl,h1⟩
 ·cases hx with | c hx=>cases hx with | sl _ _ _ _ _ _ h3=>exact ⟨_,_,_,rfl,h3⟩
 ·cases h
theorem Flat.head {rows:List (List Tree)} {size:Nat} {vs rest:List Value} (h:Flat S w rows size vs):Flat S w rows size ((vs ++ rest).take (rows.length*size)):=by
 rw [<- h.1,List.take_left]; exact h
theorem BlkOk.old_tree {B:Nat} {R:Reg} {sz:Nat} {rows:List (List Tree)} {g:Bool} (h:BlkOk β S w B R (.rows sz rows g true)):TRep S w (.lst false rows) (.slice (some ⟨R.cb,R.co,none⟩) rows.length R.cap):=by
 obtain ⟨q0,q1,q2,q3,q3',q4,q5,q6⟩:=h
 have:∃ val:Nat->Nat->Value,∀ i j t,at2 rows i j=some t->w.cell? ⟨R.cb,R.co+i*R.stride+j,none⟩=some (val i j)/\TRep S w t (val i j):=by
  have:∀ i j,∃ v,∀ t,at2 rows i j=some t->w.cell? ⟨R.cb,R.co+i*R.stride+j,none⟩=some v/\TRep S w t v:=by
   intro i j
   cases ht:at2 rows i j with
   | none=>exact ⟨undef,by simp⟩
   | some t=>
    obtain ⟨v,a1,a2⟩:=q5 _ _ _ ht
    exact ⟨v,fun t' ht'=>by cases ht'; exact ⟨a1,a2⟩⟩
  exact ⟨fun i j=>(this i j).choose,fun i j t ht=>(this i j).choose_spec t ht⟩
 obtain ⟨val,hval⟩:=this
 refine .lst false rows _ R.cb R.co R.stride R.cap val q2 q3 (by omega) (by simp) (fun _=>rfl) (by simp) q1 (fun i j t ht=>?_) (fun i j t ht=>(hval i j t ht).2)
 obtain ⟨_,_,hlt⟩:=at2_in q1 ht
 exact ⟨q6 rfl _ (by omega) (by omega),(hval i j t ht).1⟩
theorem Sat.addOld (h:Sat K β S st a w) {b sz:Nat} {rows:List (List Tree)} {R:Reg} (hlt:b < st.heap.length) (hR:β b=some R) (hok:BlkOk β S w K.B0 R (.old sz rows)):Sat K β S ⟨st.tmps,st.heap.set b (some (.old sz rows))⟩ a w:=by
 refine h.step (Wr:=fun _ _=>False) (fun b'=>b'=b) (Keep.refl _ _) (fun _ _ hx=>hx.elim) (fun _ _ hx=>hx) (fun b' R' hb'=>by simpa using h.top b' R' hb') (fun _ _ hx=>hx) (fun _ _ hx=>.inl hx) (fun b' blk hD hb'=>?_) (fun b' blk hD hb'=>?_)
 ·rw [qac hD] at hb'; exact hb'
 ·subst hD
  rw [qae hlt] at hb'
  cases hb'
  exact ⟨R,hR,hok,fun c o hx=>hx.2.elim,fun c o hx=>hx.2.elim,fun _ _ _ _ _ _ c o hx=>hx.2.elim⟩
theorem Sat.leave {hp:Heap} {tm:List AV} {b sz:Nat} {rows:List (List Tree)} {fz:Bool} {x:Option Blk} {R:Reg} (h:Sat K β S ⟨tm,(hp.set b none).set slot x⟩ a w) (hbs:b ≠ slot) (hlt:b < hp.length) (hR:β b=some R)
  (hok:fz=true->BlkOk β S w K.B0 R (.old sz rows)):Sat K β S ⟨tm,(hp.set b (oldOf sz rows fz)).set slot x⟩ a w:=by
 cases fz with
 | false=>exact h
 | true=>
  have:=h.addOld (b:=b) (by simpa using hlt) hR (hok rfl)
  have e:((hp.set b none).set slot x).set b (some (.old sz rows))=(hp.set b (oldOf sz rows true)).set slot x:=by
   rw [List.set_comm _ _ (Ne.symm hbs),List.set_set]; rfl
  rw [e] at this
  exact this
theorem d_append (hC:CfgOk P C) (h:Sat K β S st a w) (hs:slot < st.heap.length) (hf:β slot=none) {args:Array Operand} {argTypes:Array TypeId} {el:TypeId} {te:TI} {s x:Operand}
  (ho:o.op=.call { callee:=.builtin .append,args,argTypes }) (hargs:args.toList=[s,x]) (hta:AppArgs P argTypes el) (hte:C.ty el=some te) (hb:te.bytes ≠ 0)
  (he:evAppend te slot (look st.heap) (st.get s) (st.get x)=some e):Does P K β S st a w slot o e:=by
 have hty:=qah (hC _ te hte)
 have ha2:args=#[s,x]:=by rw [<- Array.toArray_toList (xs:=args),hargs]
 subst ha2
 have hxs:=h.get s
 have hxx:=h.get x
 have hrun:∀ v w',(Builtin.append_ argTypes o.type #[a.eval s,a.eval x]).run P w=.ok v w'->(execOp a.eval o).run P w=.ok (.value v) w':=by
  intro v w' hv
  simp only [execOp,ho,resolve,invoke,builtin,Sem.run_bind,Sem.run_pure,Result.andThen,List.map_toArray,List.map_cons,List.map_nil,hv]
 unfold evAppend at he
 split at he
 ·exact d_appC hC h hs hf ho hargs hta hte hb he
 ·rename_i new rdx hnew
  split at he
  ·rename_i hn0
   split at he
   ·rename_i hsl
    cases he
    obtain ⟨base,len,cap,hsv,hle⟩:=isSl_slice hxs hsl
    have hnil:new=[]:=List.eq_nil_of_length_eq_zero hn0
    subst hnil
    obtain ⟨h1,h2⟩:=rowsOf_run (P:=P) h hxx hnew (size:=te.size) (by simp)
    obtain ⟨vs,h3,h4,_⟩:=h2 0 (by simp)
    have hv0:vs=[]:=List.eq_nil_of_length_eq_zero (by simpa using h4)
    subst hv0
    have:=qbw (P:=P) (w:=w) (ty:=o.type) hta hty (base:=base) (sLen:=len) (sCap:=cap) (xv:=a.eval x) (n:=0) (vs:=[]) (by simpa using h1) h3 (by omega) (w':=w) (by cases base <;> simp [storeCells])
    rw [<- hsv] at this
    refine ⟨w,β,S,a.eval s,_,hrun _ _ this,.inl (by rw [hsv]; simp),fun _ _=>rfl,h,?_⟩
    exact hxs
   ·cases he
  ·rename_i hn0
   split at he
   ·cases he
   ·rename_i hall
    have hsn:∀ r ∈ new,r.length=te.size:=all_size (by simpa using hall)
    obtain ⟨hl1,hl2⟩:=rowsOf_run (P:=P) h hxx hnew hsn
    have grows:∀ (base:Option Addr) (sLen sCap:Nat) (old:List (List Tree)) (rd:List Nat) (fz:Bool) (heap:Heap),a.eval s=.slice base sLen sCap->rowsOf (look st.heap) (st.get s)=some (old,rd)->old.length=sLen ->
      (∀ r ∈ old,r.length=te.size)->sCap < sLen+new.length->(sLen+new.length)*te.bytes<=capBytes->Sat K β S ⟨st.tmps,heap⟩ a w->slot < heap.length ->
      ∃ w' β' S' v,(Builtin.append_ argTypes o.type #[a.eval s,a.eval x]).run P w=.ok v w'/\(∀ b,b ≠ slot->β' b=β b)/\Sat K β' S' ⟨st.tmps,heap.set slot (some (.rows te.size (old ++ new) true fz))⟩ a w'/\VRep β' S' w' (.c (.sl slot 0 (sLen+new.length) false)) v/\(∀ x v,VRep β S w x v->VRep β' S' w' x v):=by
     intro base sLen sCap old rd fz heap hsv hold hol hos hgrow hbig hsat hlt
     have hb1:(sLen+new.length)*1<=(sLen+new.length)*te.bytes:=Nat.mul_le_mul_left _ (by omega)
     unfold capBytes at hbig
     obtain ⟨d,newCap,c1,c2,c3⟩:=run_append_grows (P:=P) (w:=w) (ty:=o.type) hta hty hb (base:=base) (sLen:=sLen) (sCap:=sCap) (xv:=a.eval x) (n:=new.length) hl1 hgrow (by omega)
     obtain ⟨ov,o1,o2⟩:=(rowsOf_run (P:=P) (h.drawn d) (hxs.drawn d) hold hos).2 old.length (Nat.le_refl _)
     obtain ⟨nv,n1,n2⟩:=(rowsOf_run (P:=P) (h.drawn d) (hxx.drawn d) hnew hsn).2 new.length (Nat.le_refl _)
     rw [List.take_length] at o2 n2
     rw [hol,hsv] at o1
     obtain ⟨rest,r1,r2⟩:=c3 ov nv o1 n1
     rw [<- hsv] at r2
     have hfl:Flat S w (old ++ new) te.size (ov ++ nv):=(o2.append n2 hos).mono (fun _ _ hx=>hx) fun _ _ _=>rfl
     have hsz:∀ r ∈ old ++ new,r.length=te.size:=by
      intro r hr
      rcases List.mem_append.1 hr with hr | hr
      ·exact hos r hr
      ·exact hsn r hr
     have hl:(old ++ new).length=sLen+new.length:=by simp [hol]
     have hcs:(ov.toArray ++ nv.toArray ++ rest).size=newCap*te.size:=by
      have e1:=hfl.1
      rw [hl,List.length_append] at e1
      simp only [Array.size_append,List.size_toArray,r1]
      rw [e1,<- Nat.add_mul]; congr 1; omega
     obtain ⟨β',S',e1,e2,e3,e4⟩:=hsat.newRows (slot:=slot) hlt hf (w':={ w with drawn:=d,heap:=w.heap.push (.cells (ov.toArray ++ nv.toArray ++ rest) el) }) (el:=el) (rows:=old ++ new) (size:=te.size) (cap:=newCap) (g:=true) (fz:=fz) rfl rfl rfl rfl hsz (by omega) c2 (by omega) hcs (by
      have:(ov.toArray ++ nv.toArray ++ rest).toList=(ov ++ nv) ++ rest.toList:=by simp
      rw [this]; exact hfl.head)
     rw [hl] at e3
     exact ⟨_,β',S',_,r2,e1,e2,e3,e4⟩
    split at he
    ·rename_i rows hg
     split at he
     ·rename_i hr
      simp only [Bool.and_eq_true,decide_eq_true_eq] at hr
      cases he
      rw [hg] at hxs
      have hxs':=hxs
      cases hxs with | c hxs=>
      cases hxs with | t hxs=>
      generalize hav:a.eval s=av at hxs
      cases hxs with | lst _ _ base cb co stride cap val h1 h2 h3 h4 h5 h5' h6 h7 h8=>
      obtain ⟨w',β',S',v,g1,g2,g3,g4,_⟩:=grows base rows.length cap rows [] false st.heap hav (by rw [hg]; rfl) rfl (all_size hr.1) (by have:=h4 rfl; omega) hr.2 h hs
      exact ⟨w',β',S',v,_,hrun _ _ g1,.inl rfl,g2,g3,g4⟩
     ·cases he
    ·rename_i b off len cp hg
     rw [hg] at hxs
     have hxs':=hxs
     cases hxs with | c hxs=>
     generalize hav:a.eval s=av at hxs
     cases hxs with | sl R base cap hR h1 h2 h3 h4 h5=>
     split at he
     ·rename_i sz rows g fz hbk
      split at he
      ·cases he
      ·rename_i hcond
       simp only [Decidable.not_not] at hcond
       obtain ⟨rfl,hbig,hle⟩:=hcond
       obtain ⟨R',e1,⟨q0,q1,q2,q3,q3',q4,q5,q6⟩,e4,e5⟩:=h.blk b _ hbk
       rw [hR] at e1; cases e1
       have hcut:((rows.drop off).take len).length=len:=by rw [List.length_take,List.length_drop]; omega
       have hros:rowsOf (look st.heap) (st.get s)=some ((rows.drop off).take len,[b]):=by
        rw [hg]; simp [rowsOf,hbk,hle]
       have hcs:∀ r ∈ (rows.drop off).take len,r.length=te.size:=fun r hr=>by rw [q0]; exact q1 r (mem_cut hr)
       split at he
       ·rename_i hcp
        cases he
        obtain ⟨w',β',S',v,g1,g2,g3,g4,_⟩:=grows base len cap _ [b] false st.heap hav hros hcut hcs (by have:=h1 hcp; omega) hbig h hs
        exact ⟨w',β',S',v,_,hrun _ _ g1,.inl rfl,g2,g3,g4⟩
       ·rename_i hcp
        have hcp':cp=false:=by simpa using hcp
        have hcapR:=h2 hcp'
        split at he
        ·rename_i hend
         have hdrop:(rows.drop off).take len=rows.drop off:=by rw [List.take_of_length_le]; simp; omega
         split at he
         ·rename_i hgr
          cases he
          subst hgr
          have hsk:=h.kill b
          have hbs:b ≠ slot:=by rintro rfl; rw [hR] at hf; cases hf
          have htree:fz=true->TRep S w (.lst false rows) (.slice (some ⟨R.cb,R.co,none⟩) rows.length R.cap):=fun hfz=>by
           subst hfz
           exact BlkOk.old_tree (β:=β) (B:=K.B0) (sz:=te.size) (g:=true) ⟨q0,q1,q2,q3,q3',q4,q5,q6⟩
          by_cases hfit:len+new.length<=cap
          ·obtain ⟨nv,n1,n2⟩:=hl2 new.length (Nat.le_refl _)
           rw [List.take_length] at n2
           have hpos:0 < new.length:=by omega
           have hbase:=h5 (by omega)
           have hb1:(len+new.length)*1<=(len+new.length)*te.bytes:=Nat.mul_le_mul_left _ (by omega)
           unfold capBytes at hbig
           obtain ⟨β',S',g1,g2,g3,g4⟩:=h.grow (new:=new) (off:=off) hbk hR hs hf (by omega) (by omega) hsn (by
            omega) n2
           simp only [if_true] at q4
           have hm1:(rows.length+new.length)*R.stride<=R.cap*R.stride:=Nat.mul_le_mul_right _ (by omega)
           rw [Nat.add_mul] at hm1
           have hnl:nv.length=new.length*R.stride:=by rw [n2.1,q0]
           have hst:(storeCells ⟨R.cb,R.co+rows.length*R.stride,none⟩ nv).run P w=.ok () (w.setCells R.cb (R.co+rows.length*R.stride) nv):=by
            have:=run_storeCells_cells (P:=P) R.cb (R.co+rows.length*R.stride) nv 0 w (fun j hj=>(q4 _ (by omega) (by omega)).1) (fun j hj=>(q4 _ (by omega) (by omega)).2) (fun u hu=>by
             obtain ⟨k,hk⟩:=List.getElem?_of_mem hu
             have hkl:=qag hk
             rw [hnl] at hkl
             obtain ⟨t,ht⟩:=at2_of (size:=R.stride) (fun r hr=>by rw [<- q0]; exact hsn r hr) hkl
             obtain ⟨v,f1,f2⟩:=n2.2 _ _ _ ht
             rw [q0,Nat.div_add_mod',hk] at f1
             cases f1
             exact one_oneCell f2.one)
            simpa using this
           have haddr:(⟨R.cb,R.co+off*R.stride,none⟩:Addr).add (len*te.size)=⟨R.cb,R.co+rows.length*R.stride,none⟩:=by
            rw [qbe,q0,<- hend,Nat.add_mul,Nat.add_assoc]
           have:=qbw (P:=P) (w:=w) (ty:=o.type) hta hty (base:=base) (sLen:=len) (sCap:=cap) (xv:=a.eval x) (n:=new.length) hl1 n1 hfit (w':=w.setCells R.cb (R.co+rows.length*R.stride) nv) (by rw [hbase]; simp only [haddr]; exact hst)
           rw [<- hav] at this
           have hin:∀ j,j < nv.length->(Blk.rows te.size rows true fz).wr R R.cb (R.co+rows.length*R.stride+j):=fun j hj=>⟨rfl,by split <;> omega,by simp only [if_true]; omega⟩
           have hSc:=h.cells_setCells hbk hR hin
           refine ⟨_,β',S',_,_,hrun _ _ this,.inl rfl,g1,g2.leave hbs (qaw hbk) (by rw [g1 b hbs]; exact hR) (fun hfz=>⟨q0,q1,q3,R.cap,(htree hfz).mono g4 hSc⟩),.c (.sl _ base cap g3 (by simp) (by simp; omega) hfit (by simp; omega) fun _=>?_)⟩
           simp [hbase]
          ·obtain ⟨w',β',S',v,g1,g2,g3,g4,g5⟩:=grows base len cap _ [b] fz (st.heap.set b none) hav hros hcut hcs (by omega) hbig hsk (by simpa using hs)
           rw [hdrop] at g3
           refine ⟨w',β',S',v,_,hrun _ _ g1,.inl rfl,g2,g3.leave hbs (qaw hbk) (by rw [g2 b hbs]; exact hR) (fun hfz=>⟨q0,q1,q3,R.cap,?_⟩),g4⟩
           have hk:=g5 _ _ (.c (.t (htree hfz)))
           cases hk with | c hk=>
           cases hk with | t hk=>exact hk
         ·cases he
        ·rename_i hend
         split at he
         ·rename_i hov
          obtain ⟨hov,rfl⟩:=hov
          cases he
          obtain ⟨nv,n1,n2⟩:=hl2 new.length (Nat.le_refl _)
          rw [List.take_length] at n2
          have hpos:0 < new.length:=by omega
          have hbase:=h5 (by omega)
          have hm1:(off+len+new.length)*R.stride<=rows.length*R.stride:=Nat.mul_le_mul_right _ hov
          rw [Nat.add_mul,Nat.add_mul] at hm1
          have hm2:rows.length*R.stride<=(if g=true then R.cap else rows.length)*R.stride:=Nat.mul_le_mul_right _ (by split <;> omega)
          have hnl:nv.length=new.length*R.stride:=by rw [n2.1,q0]
          have hth:∀ j,j < nv.length->(w.cell? ⟨R.cb,R.co+(off+len)*R.stride+j,none⟩).isSome=true/\w.frozen? ⟨R.cb,R.co+(off+len)*R.stride+j,none⟩=false:=fun j hj=>q4 _ (by omega) (by rw [Nat.add_mul]; omega)
          have hst:(storeCells ⟨R.cb,R.co+(off+len)*R.stride,none⟩ nv).run P w=.ok () (w.setCells R.cb (R.co+(off+len)*R.stride) nv):=by
           have:=run_storeCells_cells (P:=P) R.cb (R.co+(off+len)*R.stride) nv 0 w (fun j hj=>by simpa using (hth j hj).1) (fun j hj=>by simpa using (hth j hj).2) (fun u hu=>by
            obtain ⟨k,hk⟩:=List.getElem?_of_mem hu
            have hkl:=qag hk
            rw [hnl] at hkl
            obtain ⟨t,ht⟩:=at2_of (size:=R.stride) (fun r hr=>by rw [<- q0]; exact hsn r hr) hkl
            obtain ⟨v,f1,f2⟩:=n2.2 _ _ _ ht
            rw [q0,Nat.div_add_mod',hk] at f1
            cases f1
            exact one_oneCell f2.one)
           simpa using this
          have haddr:(⟨R.cb,R.co+off*R.stride,none⟩:Addr).add (len*te.size)=⟨R.cb,R.co+(off+len)*R.stride,none⟩:=by
           rw [qbe,q0,Nat.add_mul,Nat.add_assoc]
          have hrun2:=qbw (P:=P) (w:=w) (ty:=o.type) hta hty (base:=base) (sLen:=len) (sCap:=cap) (xv:=a.eval x) (n:=new.length) hl1 n1 (by
           have:rows.length<=R.cap:=q2
           omega) (w':=w.setCells R.cb (R.co+(off+len)*R.stride) nv) (by rw [hbase]; simp only [haddr]; exact hst)
          rw [<- hav] at hrun2
          have hin:∀ j,j < nv.length->(Blk.rows te.size rows g false).wr R R.cb (R.co+(off+len)*R.stride+j):=fun j hj=>⟨rfl,by simp; omega,by rw [Nat.add_mul]; omega⟩
          have hSc:=h.cells_setCells hbk hR hin
          have hlen:=qa2 rows new (off+len) hov
          refine ⟨_,β,S,_,_,hrun _ _ hrun2,.inl rfl,fun _ _=>rfl,?_,.c (.sl R base cap hR (fun hh=>absurd hh (by simp)) (fun _=>hcapR) (by omega) h4 h5)⟩
          refine h.write hbk hR _ _ hin (fun c o hy=>by rw [Blk.ext,hlen] at hy; exact hy) (fun c o hy=>by rw [Blk.wr,hlen] at hy; exact hy) ⟨q0,fun r hr=>?_,by rw [hlen]; exact q2,q3,by rw [hlen]; exact q3',?_,fun i j t ht=>?_,by simp⟩
          ·obtain ⟨k,hk⟩:=List.getElem?_of_mem hr
           rw [qa5 _ _ _ _ hov] at hk
           split at hk
           ·rw [<- q0]; exact hsn r (List.mem_of_getElem? hk)
           ·exact q1 r (List.mem_of_getElem? hk)
          ·rw [hlen]; exact qbd q4 fun j hj=>(hth j hj).1
          ·obtain ⟨row,f1,f2,f3,f4⟩:=at2_lt ht
           rw [qa5 _ _ _ _ hov] at f1
           split at f1
           ·rename_i hin2
            obtain ⟨v,k1,k2⟩:=n2.2 _ _ _ (qas f1 f2)
            have hj:j < R.stride:=by rw [<- q0,<- hsn row (List.mem_of_getElem? f1)]; exact f4
            rw [q0] at k1
            have hii:i*R.stride=(off+len)*R.stride+(i - (off+len))*R.stride:=by rw [<- Nat.add_mul]; congr 1; omega
            have hkl:=qag k1
            exact ⟨v,setCells_in (fun j hj=>(hth j hj).1) (by omega) (by omega) (by rw [show R.co+i*R.stride+j - (R.co+(off+len)*R.stride)=(i - (off+len))*R.stride+j by omega]; exact k1),k2.mono (fun _ _ hx=>hx) hSc⟩
           ·rename_i hin2
            have ht':=qas f1 f2
            obtain ⟨v,k1,k2⟩:=q5 _ _ _ ht'
            obtain ⟨_,hj,_⟩:=at2_in q1 ht'
            refine ⟨v,?_,k2.mono (fun _ _ hx=>hx) hSc⟩
            rw [qbg]
            ·exact k1
            ·rintro ⟨_,h8,h9⟩
             rcases Nat.lt_or_ge i (off+len) with h10 | h10
             ·have:=Nat.mul_le_mul_right R.stride (show i+1<=off+len by omega)
              rw [Nat.succ_mul] at this; omega
             ·have:=Nat.mul_le_mul_right R.stride (show off+len+new.length<=i by omega)
              rw [Nat.add_mul] at this; omega
         ·cases he
     ·cases he
    ·cases he
end
section
variable {P:Program} {C:Cfg} {K:Ctx} {β:Nat->Option Reg} {S:Place} {st:St} {a:Act} {w:World} {slot:Nat} {e:Eff} {o:Oper}
theorem Flat.ones {rows:List (List Tree)} {size:Nat} {vs:List Value} (h:Flat S w rows size vs) (hs:∀ r ∈ rows,r.length=size):∀ u ∈ vs,one u:=by
 intro u hu
 obtain ⟨k,hk⟩:=List.getElem?_of_mem hu
 have hkl:=qag hk
 rw [h.1] at hkl
 obtain ⟨t,ht⟩:=at2_of hs hkl
 obtain ⟨v,f1,f2⟩:=h.2 _ _ _ ht
 rw [Nat.div_add_mod',hk] at f1
 cases f1
 exact f2.one
theorem Sat.overwrite (h:Sat K β S st a w) {b sz lo:Nat} {rows new:List (List Tree)} {g:Bool} {R:Reg} (hb:look st.heap b=some (.rows sz rows g false)) (hR:β b=some R)
  (hle:lo+new.length<=rows.length) (hsz:∀ r ∈ new,r.length=sz) {nv:List Value} (hfl:Flat S w new sz nv) :
  Sat K β S ⟨st.tmps,st.heap.set b (some (.rows sz (setRange rows lo new) g false))⟩ a (w.setCells R.cb (R.co+lo*R.stride) nv) /\
   (storeCells ⟨R.cb,R.co+lo*R.stride,none⟩ nv).run P w=.ok () (w.setCells R.cb (R.co+lo*R.stride) nv)/\(∀ c o,S c o->(w.setCells R.cb (R.co+lo*R.stride) nv).cell? ⟨c,o,none⟩=w.cell? ⟨c,o,none⟩):=by
 obtain ⟨R',e1,⟨q0,q1,q2,q3,q3',q4,q5,q6⟩,e4,e5⟩:=h.blk b _ hb
 rw [hR] at e1; cases e1
 have hm1:(lo+new.length)*R.stride<=rows.length*R.stride:=Nat.mul_le_mul_right _ hle
 rw [Nat.add_mul] at hm1
 have hm2:rows.length*R.stride<=(if g=true then R.cap else rows.length)*R.stride:=Nat.mul_le_mul_right _ (by split <;> omega)
 have hnl:nv.length=new.length*R.stride:=by rw [hfl.1,q0]
 have hth:∀ j,j < nv.length->(w.cell? ⟨R.cb,R.co+lo*R.stride+j,none⟩).isSome=true/\w.frozen? ⟨R.cb,R.co+lo*R.stride+j,none⟩=false:=fun j hj=>q4 _ (by omega) (by omega)
 have hin:∀ j,j < nv.length->(Blk.rows sz rows g false).wr R R.cb (R.co+lo*R.stride+j):=fun j hj=>⟨rfl,by simp; omega,by omega⟩
 have hSc:=h.cells_setCells hb hR hin
 have hlen:=qa2 rows new lo hle
 refine ⟨?_,?_,hSc⟩
 ·refine h.write hb hR _ _ hin (fun c o hy=>by rw [Blk.ext,hlen] at hy; exact hy) (fun c o hy=>by rw [Blk.wr,hlen] at hy; exact hy) ⟨q0,fun r hr=>?_,by rw [hlen]; exact q2,q3,by rw [hlen]; exact q3',?_,fun i j t ht=>?_,by simp⟩
  ·obtain ⟨k,hk⟩:=List.getElem?_of_mem hr
   rw [qa5 _ _ _ _ hle] at hk
   split at hk
   ·rw [<- q0]; exact hsz r (List.mem_of_getElem? hk)
   ·exact q1 r (List.mem_of_getElem? hk)
  ·rw [hlen]; exact qbd q4 fun j hj=>(hth j hj).1
  ·obtain ⟨row,f1,f2,f3,f4⟩:=at2_lt ht
   rw [qa5 _ _ _ _ hle] at f1
   split at f1
   ·rename_i hin2
    obtain ⟨v,k1,k2⟩:=hfl.2 _ _ _ (qas f1 f2)
    have hj:j < R.stride:=by rw [<- q0,<- hsz row (List.mem_of_getElem? f1)]; exact f4
    rw [q0] at k1
    have hii:i*R.stride=lo*R.stride+(i - lo)*R.stride:=by rw [<- Nat.add_mul]; congr 1; omega
    have hkl:=qag k1
    exact ⟨v,setCells_in (fun j hj=>(hth j hj).1) (by omega) (by omega) (by rw [show R.co+i*R.stride+j - (R.co+lo*R.stride)=(i - lo)*R.stride+j by omega]; exact k1),k2.mono (fun _ _ hx=>hx) hSc⟩
   ·rename_i hin2
    have ht':=qas f1 f2
    obtain ⟨v,k1,k2⟩:=q5 _ _ _ ht'
    obtain ⟨_,hj,_⟩:=at2_in q1 ht'
    refine ⟨v,?_,k2.mono (fun _ _ hx=>hx) hSc⟩
    rw [qbg]
    ·exact k1
    ·rintro ⟨_,h8,h9⟩
     rcases Nat.lt_or_ge i lo with h10 | h10
     ·have:=Nat.mul_le_mul_right R.stride (show i+1<=lo by omega)
      rw [Nat.succ_mul] at this; omega
     ·have:=Nat.mul_le_mul_right R.stride (show lo+new.length<=i by omega)
      rw [Nat.add_mul] at this; omega
 ·have:=run_storeCells_cells (P:=P) R.cb (R.co+lo*R.stride) nv 0 w (fun j hj=>by simpa using (hth j hj).1) (fun j hj=>by simpa using (hth j hj).2) (fun u hu=>one_oneCell (hfl.ones hsz u hu))
  simpa using this
theorem d_copy (hC:CfgOk P C) (h:Sat K β S st a w) {args:Array Operand} {argTypes:Array TypeId} {t el:TypeId} {te:TI} {d x:Operand}
  (ho:o.op=.call { callee:=.builtin .copy,args,argTypes }) (hargs:args.toList=[d,x]) (ht:argTypes[0]?=some t) (hu:P.underlying t=some (.slice el)) (hte:C.ty el=some te)
  (he:evCopy te (look st.heap) (st.get d) (st.get x)=some e):Does P K β S st a w slot o e:=by
 have hty:=qah (hC _ te hte)
 have ha2:args=#[d,x]:=by rw [<- Array.toArray_toList (xs:=args),hargs]
 subst ha2
 have hxd:=h.get d
 have hxx:=h.get x
 unfold evCopy at he
 split at he
 ·rename_i src rdx b off len cp hsrc hg
  rw [hg] at hxd
  cases hxd with | c hxd=>
  generalize hav:a.eval d=av at hxd
  cases hxd with | sl R base cap hR h1 h2 h3 h4 h5=>
  split at he
  ·rename_i sz rows g hb
   split at he
   ·rename_i hcond
    obtain ⟨hle,hall,rfl⟩:=hcond
    cases he
    have hsn:∀ r ∈ src,r.length=te.size:=all_size hall
    obtain ⟨hl1,hl2⟩:=rowsOf_run (P:=P) h hxx hsrc hsn
    have hmin:min src.length len<=src.length:=Nat.min_le_left _ _
    have hmin2:min src.length len<=len:=Nat.min_le_right _ _
    obtain ⟨nv,n1,n2⟩:=hl2 (min src.length len) hmin
    have htl:(src.take (min src.length len)).length=min src.length len:=by rw [List.length_take]; omega
    obtain ⟨s1,s2,s3⟩:=h.overwrite (P:=P) hb hR (lo:=off) (new:=src.take (min src.length len)) (by omega) (fun r hr=>hsn r (List.mem_of_mem_take hr)) n2
    refine ⟨w.setCells R.cb (R.co+off*R.stride) nv,β,S,goInt (min src.length len:Nat),_,?_,.inl rfl,fun _ _=>rfl,s1,VRep.of1 (qbk _ _)⟩
    have hfin:(match base with | some ad=>(storeCells ad nv).run P w | none=>.ok () w)=.ok () (w.setCells R.cb (R.co+off*R.stride) nv):=by
     rcases Nat.eq_zero_or_pos cap with h0 | h0
     ·have hnv:nv=[]:=List.eq_nil_of_length_eq_zero (by rw [n2.1,htl,show min src.length len=0 by omega]; simp)
      subst hnv
      cases base <;> simp [storeCells,World.setCells]
     ·rw [h5 h0]; exact s2
    cases base with
    | none=>
     simp only [Result.ok.injEq,true_and] at hfin
     rw [<- hfin]
     simp only [execOp,ho,resolve,invoke,builtin,Builtin.copy_,Sem.run_bind,Sem.run_pure,Result.andThen,List.map_toArray,List.map_cons,List.map_nil,ht,List.getElem?_toArray,List.getElem?_cons_zero,List.getElem?_cons_succ,run_underlying hu,hav,hl1,hty.sizeOf]
     rw [show Nat.min src.length len=min src.length len from rfl,n1]
    | some ad=>
     simp only at hfin
     simp only [execOp,ho,resolve,invoke,builtin,Builtin.copy_,Sem.run_bind,Sem.run_pure,Result.andThen,List.map_toArray,List.map_cons,List.map_nil,ht,List.getElem?_toArray,List.getElem?_cons_zero,List.getElem?_cons_succ,run_underlying hu,hav,hl1,hty.sizeOf]
     rw [show Nat.min src.length len=min src.length len from rfl,n1]
     simp only [hfin]
   ·cases he
  ·cases he
 ·cases he
def FlatA (S:Place) (w:World) (rows:List (List Tree)) (size:Nat) (vs:Array Value):Prop:=
 vs.size=rows.length*size/\∀ (i j:Nat) (t:Tree),at2 rows i j=some t->∃ v,vs[i*size+j]?=some v/\TRep S w t v
theorem fillRows_rep {size:Nat} (hs0:size ≠ 0):∀ (pa:List (Nat × AV)) (pv:List (Nat × Value)) (rows rows':List (List Tree)) (vs:Array Value) (cur:Heap) (S:Place) (m:List (Nat × Option Blk)),
  fillRows (look st.heap) size rows pa=some (rows',m)->pv.length=pa.length->Sat K β S ⟨st.tmps,cur⟩ a w->Marked st.heap cur ->
  (∀ (k:Nat) (i:Nat) (x:AV),pa[k]?=some (i,x)->∃ v,pv[k]?=some (i,v)/\VRep β S w x v)->(∀ r ∈ rows,r.length=size)->FlatA S w rows size vs ->
  ∃ S' arr,(∀ c o,S c o->S' c o)/\Sat K β S' ⟨st.tmps,wrs cur m⟩ a w/\Marked st.heap (wrs cur m)/\Instr.fill (fun i=>some (i*size,size)) vs pv=some arr/\FlatA S' w rows' size arr/\(∀ r ∈ rows',r.length=size)/\rows'.length=rows.length
 | [],[],rows,rows',vs,cur,S,m,h,_,hsat,hm,_,hr,hf=>by
  simp [fillRows] at h; obtain ⟨rfl,rfl⟩:=h
  exact ⟨S,vs,fun _ _ hx=>hx,hsat,hm,rfl,hf,hr,rfl⟩
 | (i,x) :: pa,[],_,_,_,_,_,_,_,hl,_,_,_,_,_=>by simp at hl
 | [],_ :: _,_,_,_,_,_,_,_,hl,_,_,_,_,_=>by simp at hl
 | (i,x) :: pa,(i',v) :: pv,rows,rows',vs,cur,S,m,h,hl,hsat,hm,hp,hr,hf=>by
  obtain ⟨v',hv',hx⟩:=hp 0 i x rfl
  simp at hv'; obtain ⟨rfl,rfl⟩:=hv'
  unfold fillRows at h
  split at h
  ·rename_i cells hcx
   split at h
   ·rename_i hsz
    obtain ⟨hsz,hi⟩:=hsz
    split at h
    ·rename_i ts m1 hts
     split at h
     ·rename_i r2 m2 h2
      cases h
      obtain ⟨h1,h3⟩:=hx.cellsE hcx
      obtain ⟨S1,e1,e2,e3,e4,e5⟩:=toTrees_rep cells v.cells.toList cur S ts m1 hsat hm h1 h3 hts
      have hin:i'*size+size<=rows.length*size:=by
       have:=Nat.mul_le_mul_right size (show i'+1<=rows.length by omega)
       rwa [Nat.succ_mul] at this
      have hcs:v.cells.size=size:=by rw [<- hsz,<- h1]; simp
      have he:v.cells.zipIdx.foldl (fun cs (c,j)=>cs.setIfInBounds (i'*size+j) c) vs=(v.cells.toList.zipIdx 0).foldl (fun cs (x:Value × Nat)=>cs.setIfInBounds (i'*size+x.2) x.1) vs:=by
       rw [<- Array.foldl_toList,Array.toList_zipIdx]
      obtain ⟨g1,g2⟩:=Great.foldl_set (i'*size) v.cells.toList 0 vs
      have hrl:(rows.set i' ts).length=rows.length:=by simp
      have hf1:FlatA S1 w (rows.set i' ts) size (v.cells.zipIdx.foldl (fun cs (c,j)=>cs.setIfInBounds (i'*size+j) c) vs):=by
       rw [he]
       refine ⟨by rw [g1,hrl]; exact hf.1,fun p j t ht=>?_⟩
       rw [g2]
       obtain ⟨row,k1,k2,k3,k4⟩:=at2_lt ht
       rw [List.getElem?_set] at k1
       rw [hrl] at k3
       split at k1
       ·rename_i hip
        subst hip
        cases k1
        have hj:j < size:=by omega
        rw [if_pos ⟨by omega,by omega,by rw [hf.1]; omega⟩]
        obtain ⟨u,q1,q2⟩:=e5 j t k2
        exact ⟨u,by rw [show i'*size+j - (i'*size+0)=j by omega]; exact q1,q2⟩
       ·rename_i hip
        have hj:j < size:=by rw [<- hr row (List.mem_of_getElem? k1)]; exact k4
        rw [if_neg (by
         rintro ⟨q1,q2,q3⟩
         rcases Nat.lt_trichotomy p i' with q | q | q
         ·have:=Nat.mul_le_mul_right size (show p+1<=i' by omega)
          rw [Nat.succ_mul] at this; omega
         ·exact hip q.symm
         ·have:=Nat.mul_le_mul_right size (show i'+1<=p by omega)
          rw [Nat.succ_mul] at this; omega)]
        obtain ⟨u,q1,q2⟩:=hf.2 p j t (qas k1 k2)
        exact ⟨u,q1,q2.mono e1 fun _ _ _=>rfl⟩
      have hr1:∀ r ∈ rows.set i' ts,r.length=size:=by
       intro r hr'
       rcases List.mem_or_eq_of_mem_set hr' with h | h
       ·exact hr r h
       ·rw [h,e4,hsz]
      obtain ⟨S2,arr,f1,f2,f3,f4,f5,f6,f7⟩:=fillRows_rep hs0 pa pv _ _ _ _ S1 m2 h2 (by simpa using hl) e2 e3 (fun k i x hk=>by
       obtain ⟨u,q1,q2⟩:=hp (k+1) i x (by simpa using hk)
       exact ⟨u,by simpa using q1,q2.mono (fun _ _ hx=>hx) e1 fun _ _ _=>rfl⟩) hr1 hf1
      refine ⟨S2,arr,fun c o hx=>f1 _ _ (e1 _ _ hx),by rw [qat]; exact f2,by rw [qat]; exact f3,?_,f5,f6,by rw [f7,hrl]⟩
      unfold Instr.fill
      simp only [hcs,hf.1]
      rw [if_neg (by simp; exact hin)]
      exact f4
     ·cases h
    ·cases h
   ·cases h
  ·cases h
theorem d_buildC (h:Sat K β S st a w) (hs:slot < st.heap.length) (hf:β slot=none) {t el:TypeId} {len:Nat} {ti te:TI} {parts:Array (Nat × Operand)} (ho:o.op=.buildSlice t len parts)
  (hty:TyOk P t ti) (htye:TyOk P el te) (hk:ti.kind=.slice el) (he:evBuildC C slot t te.size len (parts.toList.map fun p=>(p.1,st.get p.2))=some e):Does P K β S st a w slot o e:=by
 obtain ⟨ie,z,i1,i2,i3,_,_⟩:=zero_rep htye S w β
 have hpart:∀ (k i:Nat) (x:AV),(parts.toList.map fun p=>(p.1,st.get p.2))[k]?=some (i,x)->∃ v,(parts.map fun (i,x)=>(i,a.eval x)).toList[k]?=some (i,v)/\VRep β S w x v:=fun k i x hx=>parts_rep h parts k i x hx
 have hpl:(parts.map fun (i,x)=>(i,a.eval x)).toList.length=(parts.toList.map fun p=>(p.1,st.get p.2)).length:=by simp
 generalize (parts.toList.map fun p=>(p.1,st.get p.2))=ps at he hpart hpl
 generalize hpv:(parts.map fun (i,x)=>(i,a.eval x))=pv at hpart hpl
 unfold evBuildC at he
 split at he
 ·rename_i hcs hsz
  cases he
  have hpv0:pv=#[]:=by
   have:pv.toList=[]:=List.eq_nil_of_length_eq_zero hpl
   exact Array.toList_eq_nil_iff.1 this
  obtain ⟨β',f1,f2,f3⟩:=h.newCells (slot:=slot) hs hf (w':=w.alloc (.cells #[] el)) (cells:=#[]) (el:=el) (cs:=[]) rfl rfl rfl rfl (by simp) (by simp) (fun j c hj=>by simp at hj)
  refine ⟨_,β',S,_,.value (.slice (some ⟨w.heap.size,0,none⟩) 0 0),?_,.inl rfl,f1,f2,f3⟩
  simp only [execOp,ho,hpv,hpv0,Instr.buildSlice,run_underlying (hty.slice hk),Sem.run_bind,Result.andThen,htye.sizeOf,Nat.zero_mul,Sem.run_ite,Sem.run_pure]
  rw [if_neg (by omega)]
  have hz0:Array.map (fun x=>(#[]:Array Value)[x % (#[]:Array Value).size]!) (Array.range 0)=#[]:=by
   have:Array.range 0=#[]:=rfl
   rw [this,Array.map_empty]
  simp only [if_true,Sem.run_pure,Instr.fill,newRow,run_newObj,Sem.run_bind,Result.andThen,hz0]
  rfl
 ·rename_i x hcs hsz
  cases he
  obtain ⟨v,hv1,hv2⟩:=hpart 0 0 (.c x) rfl
  have hpv1:pv.toList=[(0,v)]:=by
   match hq:pv.toList,hpl with
   | [q],_=>rw [hq] at hv1; simp at hv1; rw [hv1]
  cases hv2 with | c hv2=>
  have hvc:=one_cells hv2.one
  obtain ⟨β',f1,f2,f3⟩:=h.newCells (slot:=slot) hs hf (w':=w.alloc (.cells #[v] el)) (cells:=#[v]) (el:=el) (cs:=[x]) rfl rfl rfl rfl (by simp) (by simp) (fun j c hj=>by
   cases j with
   | zero=>simp at hj; subst hj; exact ⟨v,rfl,hv2⟩
   | succ j=>simp at hj)
  have hrun:=run_buildSlice (P:=P) w t el 1 pv #[v] ie z (hty.slice hk) i1 i2 (by rw [i3,hsz]; decide) (by rw [i3,hsz]; decide) (by
   rw [hpv1,i3,hsz]
   have hA:∀ A:Array Value,A.size=1->Instr.fill (fun i=>some (i*1,1)) A [(0,v)]=some #[v]:=fun A hA=>by
    have hs1:A.setIfInBounds 0 v=#[v]:=by
     apply Array.ext
     ·simp [hA]
     ·intro i q1 q2
      have:i=0:=by simp at q2; omega
      subst this
      simp
    simp [Instr.fill,hvc,hA,hs1]
   exact hA _ (by simp))
  refine ⟨_,β',S,_,.value (.slice (some ⟨w.heap.size,0,none⟩) 1 1),?_,.inl rfl,f1,f2,f3⟩
  simp only [execOp,ho,hpv,Sem.run_bind,hrun,Result.andThen,Sem.run_pure]
 ·cases he
theorem d_buildSlice (hC:CfgOk P C) (h:Sat K β S st a w) (hs:slot < st.heap.length) (hf:β slot=none) {t:TypeId} {len:Nat} {parts:Array (Nat × Operand)} (ho:o.op=.buildSlice t len parts)
  (he:evalOp C slot st.get (look st.heap) (.buildSlice t len parts)=some e):Does P K β S st a w slot o e:=by
 simp only [evalOp] at he
 split at he
 ·rename_i ti hti
  have hty:=qah (hC t ti hti)
  split at he
  ·rename_i el hk
   split at he
   ·rename_i te hte
    have htye:=qah (hC _ te hte)
    split at he
    ·rename_i hsz
     obtain ⟨hsz,hs0⟩:=hsz
     split at he
     ·rename_i e1 h1
      cases he
      exact d_buildC h hs hf ho hty htye hk h1
     ·split at he
      ·rename_i rows m hfr
       cases he
       obtain ⟨ie,z,i1,i2,i3,_,_⟩:=zero_rep htye S w β
       obtain ⟨z',z1,z2,z3⟩:=zero_row htye hs0 S w len
       have hzz:z'=z:=by
        simp [Go.zeroValue,Go.typeInfo,i1,i2,Result.andThen] at z1
        exact z1.symm
       subst hzz
       obtain ⟨S1,arr,e1,e2,e3,e4,e5,e6,e7⟩:=fillRows_rep (a:=a) (w:=w) hs0 _ _ _ _ ((Array.range (len*te.size)).map (z'.cells[· % z'.cells.size]!)) st.heap S m hfr (by simp) h (Marked.refl _) (parts_rep h parts) (fun r hr=>by rw [(List.mem_replicate.1 hr).2]; exact htye.len) ⟨by simp,fun i j t ht=>by
        obtain ⟨v,q1,q2⟩:=z3.2 i j t ht
        exact ⟨v,by rw [<- Array.getElem?_toList]; exact q1,q2⟩⟩
       have hrl:rows.length=len:=by rw [e7]; simp
       have hlb:len*1<=len*te.size:=Nat.mul_le_mul_left _ (by omega)
       have hlen0:len < 2 ^ 60:=by omega
       obtain ⟨β',S',f1,f2,f3,f4⟩:=e2.newRows (slot:=slot) (by rw [qa7]; exact hs) hf (w':=w.alloc (.cells arr el)) (cells:=arr) (el:=el) (rows:=rows) (size:=te.size) (cap:=len) (g:=true) (fz:=false) rfl rfl rfl rfl e6 (by omega) (by omega) (by omega) (by rw [e5.1,hrl]) ⟨by rw [List.length_take]; simp [e5.1],fun i j t ht=>by
        obtain ⟨v,q1,q2⟩:=e5.2 i j t ht
        obtain ⟨_,_,hlt⟩:=at2_in e6 ht
        exact ⟨v,by rw [List.getElem?_take,if_pos hlt]; simpa using q1,q2⟩⟩
       rw [hrl] at f3
       by_cases h0:len=0
       ·subst h0
        have hr0:rows=[]:=List.eq_nil_of_length_eq_zero hrl
        refine ⟨_,β',S',_,.value (.slice (some ⟨w.heap.size,0,none⟩) 0 0),?_,.inl rfl,f1,by rw [qat]; exact f2,f3⟩
        have ha:arr=#[]:=Array.eq_empty_of_size_eq_zero (by rw [e5.1,hr0]; simp)
        subst ha
        simp only [Nat.zero_mul] at e4
        simp only [execOp,ho,Instr.buildSlice,run_underlying (hty.slice hk),Sem.run_bind,Result.andThen,htye.sizeOf,Nat.zero_mul,Sem.run_ite,Sem.run_pure]
        have hz0:Array.range 0=#[]:=rfl
        have hrz:Array.map (fun x=>(#[]:Array Value)[x % (#[]:Array Value).size]!) (Array.range 0)=Array.map (fun x=>z'.cells[x % z'.cells.size]!) (Array.range 0):=by rw [hz0]; simp only [Array.map_empty]
        rw [if_neg (by omega)]
        simp only [if_true,Sem.run_pure,hrz,e4,newRow,run_newObj,Sem.run_bind,Result.andThen]
        rfl
       ·have hrun:=run_buildSlice (P:=P) w t el len (parts.map fun (i,x)=>(i,a.eval x)) arr ie z' (hty.slice hk) i1 i2 (by rw [i3]; omega) (fun hh=>by rcases Nat.mul_eq_zero.1 hh with q | q; exact h0 q; exact hs0 (by rw [<- i3]; exact q)) (by rw [i3]; exact e4)
        refine ⟨_,β',S',_,.value (.slice (some ⟨w.heap.size,0,none⟩) len len),?_,.inl rfl,f1,by rw [qat]; exact f2,f3⟩
        simp only [execOp,ho,Sem.run_bind,hrun,Result.andThen,Sem.run_pure]
      ·cases he
    ·cases he
   ·cases he
  ·cases he
 ·cases he
theorem setEnt_run {kd:TypeDesc} {key:Value} {tv:Tree} (hs:∀ x b,sameKey key x=some b->Instr.sameNow kd key x=some b) :
  ∀ (ents ents':List (Value × Tree)) (es:List MapEntry) (i:Nat),setEnt key tv ents=some ents'->es.length=ents.length ->
  (∀ (i:Nat) (k:Value) (t:Tree),ents[i]?=some (k,t)->∃ e:MapEntry,es[i]?=some e/\e.key=k/\TRep S w t e.val) ->
  (Instr.findNow kd key es i=some none/\ents'=ents ++ [(key,tv)]) ∨
  (∃ (j:Nat) (e:MapEntry),Instr.findNow kd key es i=some (some (i+j,e.val))/\es[j]?=some e/\sameKey key e.key=some true/\ents'=ents.set j (key,tv))
 | [],ents',es,i,h,hl,_=>by
  simp [setEnt] at h; subst h
  have:es=[]:=List.eq_nil_of_length_eq_zero (by simpa using hl)
  subst this
  exact .inl ⟨by simp [Instr.findNow],rfl⟩
 | (k,t) :: ents,ents',[],_,_,hl,_=>by simp at hl
 | (k,t) :: ents,ents',e :: es,i,h,hl,hr=>by
  obtain ⟨e',he',hke,hte⟩:=hr 0 k t rfl
  simp at he'; subst he'
  unfold setEnt at h
  simp only at h
  split at h
  ·rename_i hsk
   cases h
   have:=hs _ _ hsk
   refine .inr ⟨0,e,?_,rfl,by rw [hke]; exact hsk,rfl⟩
   simp [Instr.findNow,hke,this]
  ·rename_i hsk
   have hn:=hs _ _ hsk
   obtain ⟨r,hr1,rfl⟩:=Option.map_eq_some_iff.1 h
   rcases setEnt_run hs ents r es (i+1) hr1 (by simpa using hl) (fun j k' t' hj=>by simpa using hr (j+1) k' t' (by simpa using hj)) with ⟨h1,rfl⟩ | ⟨j,e0,h1,h2,h3,rfl⟩
   ·exact .inl ⟨by simp only [Instr.findNow,hke,hn]; exact h1,rfl⟩
   ·exact .inr ⟨j+1,e0,by simp only [Instr.findNow,hke,hn]; rw [h1]; congr 3; omega,by simpa using h2,h3,rfl⟩
  ·cases h
theorem bytesBeq (a b:ByteArray):(a == b)=true ↔ a=b:=by
 show (a.data == b.data)=true ↔ _
 rw [beq_iff_eq]
 constructor
 ·intro h; cases a; cases b; simp only at h; rw [h]
 ·intro h; rw [h]
theorem sameKey_eq {x y:Value} (h:sameKey x y=some true):x=y/\∀ n,Instr.sameBits n y x=true:=by
 unfold sameKey at h
 split at h
 ·split at h
  ·rename_i hk; subst hk
   simp only [Option.some.injEq,beq_iff_eq] at h; subst h
   exact ⟨rfl,fun n=>by cases n <;> simp [Instr.sameBits]⟩
  ·cases h
 ·simp only [Option.some.injEq,bytesBeq] at h; subst h
  exact ⟨rfl,fun n=>by cases n <;> simp [Instr.sameBits,bytesBeq]⟩
 ·simp only [Option.some.injEq,beq_iff_eq] at h; subst h
  exact ⟨rfl,fun n=>by cases n <;> simp [Instr.sameBits]⟩
 ·cases h
theorem d_mapUpdate (hC:CfgOk P C) (h:Sat K β S st a w) {t:TypeId} {x i v:Operand} (ho:o.op=.mapUpdate t x i v)
  (he:evalOp C slot st.get (look st.heap) (.mapUpdate t x i v)=some e):Does P K β S st a w slot o e:=by
 simp only [evalOp] at he
 have hx:=h.get x
 have hi:=h.get i
 have hv:=h.get v
 split at he
 ·rename_i ti hti
  have hty:=qah (hC t ti hti)
  split at he
  ·rename_i k el b key tv hk hgx hgi hgv
   rw [hgx] at hx; rw [hgi] at hi; rw [hgv] at hv
   obtain ⟨hi,_⟩:=hi.scalar
   cases hv with | c hv=>
   cases hv with | t hv=>
   cases hx with | c hx=>
   generalize hav:a.eval x=av at hx
   cases hx with | mp R hR=>
   split at he
   ·rename_i ents tk hb htk
    have htyk:=qah (hC _ tk htk)
    obtain ⟨R',h6,h7,h7x,h7w⟩:=h.blk b _ hb
    rw [hR] at h6; cases h6
    obtain ⟨hB,es,clock,h8,h9,h10⟩:=h7
    split at he
    ·cases he
    ·rename_i hfit
     have hfit':keyFits tk.kind key=true:=by simpa using hfit
     obtain ⟨kd,hkd,hnow,hchk⟩:=keyFits_now htyk hfit'
     split at he
     ·rename_i ents' hse
      cases he
      have hget:(getObj R.cb).run P w=.ok (.map es clock) w:=by simp [getObj,Sem.run,h8]
      have hcc:=hchk false 9999 w
      have hlt:R.cb < w.heap.size:=(h7x R.cb 0 ⟨rfl,trivial⟩).1
      have hset:∀ ob,(setObj R.cb ob).run P w=.ok () { w with heap:=w.heap.setIfInBounds R.cb ob }:=by
       intro ob; simp [setObj,Sem.run,h8]
      have fin:∀ (es':Array MapEntry) (clock':Nat),es'.size=ents'.length->(∀ (i:Nat) (k:Value) (t:Tree),ents'[i]?=some (k,t)->∃ e:MapEntry,es'[i]?=some e/\e.key=k/\TRep S w t e.val) ->
        (execOp a.eval o).run P w=.ok .skip { w with heap:=w.heap.setIfInBounds R.cb (.map es' clock') }->Does P K β S st a w slot o { wr:=[(b,some (.map ents'))],rd:=[b] }:=by
       intro es' clock' hsz hrep hrun
       have hk:Keep (fun c _=>c=R.cb) w { w with heap:=w.heap.setIfInBounds R.cb (.map es' clock') }:=by
        refine ⟨rfl,rfl,rfl,by simp,fun q ob hq=>?_⟩
        show ObjKeep _ q ob ((w.heap.setIfInBounds R.cb (.map es' clock'))[q]?)
        rw [Array.getElem?_setIfInBounds]
        by_cases hqc:R.cb=q
        ·subst hqc
         rw [if_pos rfl,if_pos hlt]
         rw [h8] at hq; cases hq
         exact ⟨es',clock',rfl,fun hn=>absurd rfl (hn 0)⟩
        ·rw [if_neg hqc,hq]; exact ObjKeep.refl _ _ _
       have hold:∀ c o,S c o->(World.cell? { w with heap:=w.heap.setIfInBounds R.cb (.map es' clock') } ⟨c,o,none⟩)=w.cell? ⟨c,o,none⟩:=fun c o hs=>(hk.cell (h.sex c o hs) fun e=>h7w c o ⟨e,trivial⟩ hs).1
       refine ⟨_,β,S,undef,.skip,hrun,.inr ⟨rfl,rfl⟩,fun _ _=>rfl,?_,.junk _⟩
       refine h.step (fun b'=>b'=b) hk (fun c o hc hlt=>⟨h7w c o ⟨hc,trivial⟩,(h7x c o ⟨hc,trivial⟩).2,fun b' blk R1 hD hb' hR1 hy=>?_⟩) (fun _ _ hx=>hx) (fun b' R' hb'=>by rw [qa7]; exact h.top b' R' hb') (fun _ _ hx=>hx) (fun _ _ hx=>.inl hx) (fun b' blk hD hb'=>?_) (fun b' blk hD hb'=>?_)
       ·exact h.dis b b' _ blk R R1 (Ne.symm hD) hb hb' hR hR1 c o ⟨hc,trivial⟩ hy
       ·simp only [wrs,List.foldl_cons,List.foldl_nil] at hb'
        rw [qac hD] at hb'; exact hb'
       ·subst hD
        simp only [wrs,List.foldl_cons,List.foldl_nil] at hb'
        rw [qae (qaw hb)] at hb'; cases hb'
        refine ⟨R,hR,⟨hB,es',clock',?_,hsz,fun i k t hi=>?_⟩,fun c o hy=>?_,fun c o hy=>h7w c o hy,fun b'' blk'' R'' hne hb'' hR'' c o hy=>?_⟩
        ·show (w.heap.setIfInBounds R.cb (.map es' clock'))[R.cb]?=_
         rw [Array.getElem?_setIfInBounds,if_pos rfl,if_pos hlt]
        ·obtain ⟨e,q1,q2,q3⟩:=hrep i k t hi
         exact ⟨e,q1,q2,q3.mono (fun _ _ hx=>hx) hold⟩
        ·obtain ⟨q1,q2⟩:=h7x c o hy
         exact ⟨by simpa using q1,q2⟩
        ·simp only [wrs,List.foldl_cons,List.foldl_nil] at hb''
         rw [qac hne] at hb''
         exact h.dis _ _ _ _ R R'' (Ne.symm hne) hb hb'' hR hR'' c o hy
      rcases setEnt_run (S:=S) (w:=w) hnow ents ents' es.toList 0 hse (by simpa using h9) (fun i k t hi=>by obtain ⟨e,q1,q2⟩:=h10 i k t hi; exact ⟨e,by simpa using q1,q2⟩) with ⟨hfn,rfl⟩ | ⟨j,e0,hfn,hej,hsk,rfl⟩
      ·refine fin (es.push { key,val:=a.eval v,born:=clock }) (clock+1) (by simp [h9]) (fun i k t hi=>?_) ?_
       ·rw [List.getElem?_append] at hi
        split at hi
        ·rename_i hlt'
         obtain ⟨e,q1,q2⟩:=h10 i k t hi
         exact ⟨e,by rw [Array.getElem?_push,if_neg (by omega)]; exact q1,q2⟩
        ·rename_i hge
         have:i=ents.length:=by
          have:=qag hi
          simp at this; omega
         subst this
         simp at hi
         obtain ⟨rfl,rfl⟩:=hi
         exact ⟨_,by rw [Array.getElem?_push,if_pos h9.symm],rfl,hv⟩
       ·simp only [execOp,ho,Instr.mapUpdate,run_underlying (hty.map hk),hav,hi,Sem.run_bind,Sem.run_pure,Result.andThen,hget,hcc,Instr.findKey,run_underlying hkd,hfn,hset]
      ·obtain ⟨hke,hbits⟩:=sameKey_eq hsk
       refine fin (es.modify j fun e=>{ e with key,val:=a.eval v }) clock (by simp [h9]) (fun i k t hi=>?_) ?_
       ·rw [List.getElem?_set] at hi
        split at hi
        ·rename_i hji
         subst hji
         split at hi
         ·cases hi
          exact ⟨_,by rw [Array.getElem?_modify,if_pos rfl,show es[j]?=some e0 by simpa using hej]; rfl,rfl,hv⟩
         ·cases hi
        ·rename_i hji
         obtain ⟨e,q1,q2⟩:=h10 i k t hi
         exact ⟨e,by rw [Array.getElem?_modify,if_neg hji]; exact q1,q2⟩
       ·have hej':es[j]?=some e0:=by simpa using hej
        rw [Nat.zero_add] at hfn
        simp only [execOp,ho,Instr.mapUpdate,run_underlying (hty.map hk),hav,hi,Sem.run_bind,Sem.run_pure,Result.andThen,hget,hcc,Instr.findKey,run_underlying hkd,hfn,hej',Option.map_some,Option.getD_some,Instr.keyThatStays,hbits,if_true,Nat.zero_add,hset]
     ·cases he
   ·cases he
  ·cases he
 ·cases he
end
inductive TV where
 | c (t:Tree)
 | agg (l:List Tree)
 deriving Inhabited
def TV.av:TV->AV
 | .c t=>.c (.t t)
 | .agg l=>.agg (l.map .t)
inductive Arg where
 | val (x:TV)
 | bor (sz:Nat) (rows:List (List Tree))
 | own (sz:Nat) (rows:List (List Tree))
 | ref (cells:List Tree)
 | clo (f:FuncId) (caps:List (Nat × Nat × Nat))
 | gh (cells:List Tree)
 deriving Inhabited
def nvA:List Arg->Nat
 | []=>0
 | .gh _ :: _=>0
 | _ :: as=>nvA as+1
def Arg.blk:Arg->Option Blk
 | .val _=>none
 | .bor sz rows=>some (.rows sz rows false false)
 | .own sz rows=>some (.rows sz rows true false)
 | .ref cells=>some (.var (cells.map .t))
 | .clo _ _=>none
 | .gh cells=>some (.var (cells.map .t))
inductive RC where
 | val (x:TV)
 | own (sz:Nat) (rows:List (List Tree))
 deriving Inhabited
structure Res where
 vals:List RC
 out:List (Option Blk)
abbrev noβ:Nat->Option Reg:=fun _=>none
def SlAt (R:Reg) (n:Nat) (v:Value):Prop:=∃ base,v=.slice base n R.cap/\(0 < R.cap->base=some ⟨R.cb,R.co,none⟩)
def ArgOk (S:Place) (w:World) (R:Reg):Arg->Value->Prop
 | .val x,v=>VRep noβ S w x.av v
 | .bor sz rows,v=>SlAt R rows.length v/\BlkOk noβ S w 0 R (.rows sz rows false false)
 | .own sz rows,v=>SlAt R rows.length v/\BlkOk noβ S w 0 R (.rows sz rows true false)
 | .ref cells,v=>v=.pointer (some ⟨R.cb,R.co,none⟩)/\BlkOk noβ S w 0 R (.var (cells.map .t))
 | .clo _ _,_=>True
 | .gh cells,v=>v=.pointer (some ⟨R.cb,R.co,none⟩)/\BlkOk noβ S w 0 R (.var (cells.map .t))
def βA (args:List Arg) (Rs:Nat->Reg):Nat->Option Reg:=fun i=>if ((args[i]?).bind Arg.blk).isSome then some (Rs i) else none
def RcOk (S:Place) (w:World) (R:Reg):RC->Value->Prop
 | .val x,v=>VRep noβ S w x.av v
 | .own sz rows,v=>SlAt R rows.length v/\BlkOk noβ S w 0 R (.rows sz rows true false)
def Lent (args:List Arg) (Rs:Nat->Reg):Place:=fun c o=>∃ (i:Nat) (arg:Arg) (blk:Blk),args[i]?=some arg/\arg.blk=some blk/\blk.ext (Rs i) c o
structure CallPre (args:List Arg) (S:Place) (w:World) (vals:List Value) (Rs:Nat->Reg):Prop where
 len:vals.length=args.length
 ok:∀ (i:Nat) (arg:Arg),args[i]?=some arg->∃ v,vals[i]?=some v/\ArgOk S w (Rs i) arg v
 sex:∀ c o,S c o->c < w.heap.size
 ext:∀ (i:Nat) (arg:Arg) (blk:Blk),args[i]?=some arg->arg.blk=some blk->(∀ c o,blk.ext (Rs i) c o->c < w.heap.size)/\(∀ c o,blk.wr (Rs i) c o->¬ S c o)
 dis:∀ (i j:Nat) (x y:Arg) (b b':Blk),i ≠ j->args[i]?=some x->args[j]?=some y->x.blk=some b->y.blk=some b'->∀ c o,b.ext (Rs i) c o->¬ b'.ext (Rs j) c o
 clo:∀ (i:Nat) (f:FuncId) (caps:List (Nat × Nat × Nat)) (v:Value),args[i]?=some (.clo f caps)->vals[i]?=some v->CRep (βA args Rs) S w (.clo f caps) v
structure CallPost (args:List Arg) (res:Res) (S:Place) (w:World) (Rs:Nat->Reg) (v:Value) (w':World):Prop where
 p:∃ (S':Place) (Rr:Nat->Reg) (vs:List Value),vs.length=res.vals.length/\v=(if vs.length=1 then vs.getD 0 undef else .tuple vs.toArray) /\
  Keep (Lent args Rs) w w'/\(∀ c o,S c o->S' c o)/\(∀ c o,S' c o->S c o ∨ (c < w'.heap.size/\(w.heap.size<=c ∨ Lent args Rs c o))) /\
  (∀ (k:Nat) (r:RC),res.vals[k]?=some r->∃ u,vs[k]?=some u/\RcOk S' w' (Rr k) r u) /\
  (∀ (k sz:Nat) (rows:List (List Tree)),res.vals[k]?=some (.own sz rows)->(∀ c o,(Blk.rows sz rows true false).ext (Rr k) c o->c < w'.heap.size/\(w.heap.size<=c ∨ Lent args Rs c o))/\(∀ c o,(Blk.rows sz rows true false).wr (Rr k) c o->¬ S' c o)) /\
  (∀ (k l sz sz':Nat) (rows rows':List (List Tree)),k ≠ l->res.vals[k]?=some (.own sz rows)->res.vals[l]?=some (.own sz' rows')->∀ c o,(Blk.rows sz rows true false).ext (Rr k) c o->¬ (Blk.rows sz' rows' true false).ext (Rr l) c o) /\
  (∀ (i:Nat) (blk:Blk),res.out[i]?=some (some blk)->∃ arg b0,args[i]?=some arg/\arg.blk=some b0/\(∀ c o,blk.ext (Rs i) c o->b0.ext (Rs i) c o)/\BlkOk noβ S' w' 0 (Rs i) blk/\(∀ c o,blk.wr (Rs i) c o->¬ S' c o) /\
   ∀ (k sz:Nat) (rows:List (List Tree)),res.vals[k]?=some (.own sz rows)->∀ c o,blk.ext (Rs i) c o->¬ (Blk.rows sz rows true false).ext (Rr k) c o)
def ACall (P:Program) (f:FuncId) (args:List Arg) (res:Res):Prop:=
 (∃ fn,P.funcs[f]?=some fn/\fn.body.isSome=true/\(fn.name == "runtime.NumGoroutine")=false)/\∀ (S:Place) (w:World) (vals:List Value) (Rs:Nat->Reg),CallPre args S w vals Rs ->
  Calls P f (vals.take (nvA args)).toArray w fun e w'=>∃ v,e=.returned v/\CallPost args res S w Rs v w'
inductive Back where
 | none
 | bor (b off len:Nat)
 | own (b:Nat)
 | ref (b:Nat)
 deriving Inhabited
def toTV (h:Hp):AV->Option (TV × List (Nat × Option Blk))
 | .c c=>(toTree h c).map fun p=>(.c p.1,p.2)
 | .agg l=>(toTrees h l).map fun p=>(.agg p.1,p.2)
 | _=>none
def prepArg (h:Hp):Mode->AV->Option (Arg × List (Nat × Option Blk) × Back)
 | .val,.c (.clo f caps)=>some (.clo f caps,[],.none)
 | .val,x=>(toTV h x).map fun p=>(.val p.1,p.2,.none)
 | .bor,.c (.sl b off len false)=>match h b with
  | some (.rows sz rows _ false)=>if off+len<=rows.length then some (.bor sz ((rows.drop off).take len),[],.bor b off len) else none
  | _=>none
 | .own sz,.c (.sl b 0 len false)=>match h b with
  | some (.rows sz' rows true false)=>if sz'=sz/\len=rows.length then some (.own sz rows,[],.own b) else none
  | _=>none
 | .own sz,.c (.t (.lst true []))=>some (.own sz [],[],.none)
 | .rd,.c (.sl b off len false)=>match h b with
  | some (.rows sz rows _ false)=>if off+len<=rows.length then some (.bor sz ((rows.drop off).take len),[],.bor b off len) else none
  | _=>none
 | .rd,x=>(toTV h x).map fun p=>(.val p.1,p.2,.none)
 | .ref,.c (.ptr b 0 0)=>match h b with
  | some (.var cells)=>match toTrees h cells with
   | some (ts,[])=>some (.ref ts,[],.ref b)
   | _=>none
  | _=>none
 | _,_=>none
def prepArgs (h:Hp):List Mode->List AV->Option (List Arg × List (Nat × Option Blk) × List Back)
 | [],[]=>some ([],[],[])
 | m :: ms,x :: xs=>match prepArg h m x,prepArgs h ms xs with
  | some (a,k,b),some (as,ks,bs)=>some (a :: as,k ++ ks,b :: bs)
  | _,_=>none
 | _,_=>none
def capIds:List (Nat × Nat × Nat)->List Nat->List Nat
 | [],acc=>acc
 | (b,_,_) :: l,acc=>match acc.contains b with
  | true=>capIds l acc
  | false=>capIds l (acc ++ [b])
def ghIds:List Arg->List Nat->List Nat
 | [],acc=>acc
 | .clo _ caps :: as,acc=>ghIds as (capIds caps acc)
 | _ :: as,acc=>ghIds as acc
def posOf (b:Nat):List Nat->Nat
 | []=>0
 | x :: l=>match Nat.beq b x with
  | true=>0
  | false=>posOf b l+1
def renC (gs:List Nat) (n:Nat):List (Nat × Nat × Nat)->List (Nat × Nat × Nat)
 | []=>[]
 | (b,r,c) :: l=>(n+posOf b gs,r,c) :: renC gs n l
def renA (gs:List Nat) (n:Nat):List Arg->List Arg
 | []=>[]
 | .clo f caps :: as=>.clo f (renC gs n caps) :: renA gs n as
 | a :: as=>a :: renA gs n as
def ghosts (h:Hp):List Nat->Option (List Arg)
 | []=>some []
 | b :: l=>match h b with
  | some (.var cells)=>match toTrees h cells,ghosts h l with
   | some (ts,[]),some as=>some (.gh ts :: as)
   | _,_=>none
  | _=>none
def refsL:List Nat->List Back
 | []=>[]
 | b :: l=>.ref b :: refsL l
def prepCall (h:Hp) (ms:List Mode) (xs:List AV):Option (List Arg × List (Nat × Option Blk) × List Back):=
 match prepArgs h ms xs with
 | none=>none
 | some (as,ks,bs)=>match ghIds as [] with
  | []=>some (as,ks,bs)
  | g :: gs=>match ghosts h (g :: gs) with
   | some gas=>some (renA (g :: gs) as.length as ++ gas,ks,bs ++ refsL (g :: gs))
   | none=>none
def Back.id:Back->Option Nat
 | .none=>Option.none
 | .bor b _ _=>some b
 | .own b=>some b
 | .ref b=>some b
def backWr (h:Hp):List Back->List (Option Blk)->Option (List (Nat × Option Blk))
 | [],[]=>some []
 | .none :: bs,_ :: os=>backWr h bs os
 | .own b :: bs,_ :: os=>(backWr h bs os).map ((b,none) :: ·)
 | .bor b off len :: bs,some (.rows sz r false false) :: os=>match h b with
  | some (.rows sz' rows g false)=>if sz'=sz/\r.length=len then (backWr h bs os).map ((b,some (.rows sz' (setRange rows off r) g false)) :: ·) else none
  | _=>none
 | .ref b :: bs,some (.var cs) :: os=>match h b with
  | some (.var old)=>if cs.length=old.length then (backWr h bs os).map ((b,some (.var cs)) :: ·) else none
  | _=>none
 | _,_=>none
def TV.scalar:TV->Bool
 | .c (.v _)=>true
 | .agg l=>l.all fun | .v _=>true | _=>false
 | _=>false
def RC.scalar:RC->Bool
 | .val x=>x.scalar
 | _=>false
def resAVs (slot:Nat):List RC->List AV × List (Nat × Option Blk)
 | []=>([],[])
 | .val x :: rs=>let p:=resAVs slot rs; (x.av :: p.1,p.2)
 | .own sz rows :: rs=>let p:=resAVs (slot+1) rs; (.c (.sl slot 0 rows.length false) :: p.1,(slot,some (.rows sz rows true false)) :: p.2)
def one1 (l:List AV):AV:=match l with
 | [x]=>x
 | l=>.tup l
def RC.isOwn:RC->Bool
 | .own _ _=>true
 | _=>false
def callEff (h:Hp) (slot:Nat) (marks:List (Nat × Option Blk)) (bks:List Back) (res:Res):Option Eff:=
 let ids:=bks.filterMap Back.id
 if (res.vals.all RC.scalar) && ids.isEmpty then some { val:=one1 (resAVs slot res.vals).1,rd:=Go.Abs.ids marks }
 else if !(ids.all fun i=>!((Go.Abs.ids marks).contains i)) || !decide ids.Nodup || !decide ((res.vals.filter RC.isOwn).length<=2) then none
 else match backWr h bks res.out with
  | some bw=>some { val:=one1 (resAVs slot res.vals).1,wr:=marks ++ bw ++ (resAVs slot res.vals).2,rd:=Go.Abs.ids marks ++ ids }
  | none=>none
section
variable {P:Program} {C:Cfg} {K:Ctx} {β:Nat->Option Reg} {S:Place} {st:St} {a:Act} {w:World} {slot:Nat} {e:Eff} {o:Oper} {f:FuncId}
inductive Link (β:Nat->Option Reg) (heap:Heap) (S:Place) (w:World):Arg->Back->Reg->Value->Prop where
 | val {x:TV} {R:Reg} {v:Value}:VRep noβ S w x.av v->Link β heap S w (.val x) .none R v
 | bor {sz b off len:Nat} {rows:List (List Tree)} {g:Bool} {R:Reg} {v:Value}:look heap b=some (.rows sz rows g false)->β b=some R->off+len<=rows.length ->
   SlAt ⟨R.cb,R.co+off*R.stride,R.stride,R.cap - off⟩ len v->Link β heap S w (.bor sz ((rows.drop off).take len)) (.bor b off len) ⟨R.cb,R.co+off*R.stride,R.stride,R.cap - off⟩ v
 | own {sz b:Nat} {rows:List (List Tree)} {R:Reg} {v:Value}:look heap b=some (.rows sz rows true false)->β b=some R->SlAt R rows.length v->Link β heap S w (.own sz rows) (.own b) R v
 | nil {sz:Nat} {v:Value}:SlAt ⟨0,0,sz,0⟩ 0 v->Link β heap S w (.own sz []) .none ⟨0,0,sz,0⟩ v
 | ref {b:Nat} {ts:List Tree} {R:Reg} {v:Value}:look heap b=some (.var (ts.map .t))->β b=some R->v=.pointer (some ⟨R.cb,R.co,none⟩)->Link β heap S w (.ref ts) (.ref b) R v
 | clo {f:FuncId} {caps:List (Nat × Nat × Nat)} {R:Reg} {v:Value}:Link β heap S w (.clo f caps) .none R v
 | gh {b:Nat} {ts:List Tree} {R:Reg} {v:Value}:look heap b=some (.var (ts.map .t))->β b=some R->v=.pointer (some ⟨R.cb,R.co,none⟩)->Link β heap S w (.gh ts) (.ref b) R v
theorem Link.mono {heap:Heap} {S S':Place} {x:Arg} {b:Back} {R:Reg} {v:Value} (h:Link β heap S w x b R v) (hS:∀ c o,S c o->S' c o):Link β heap S' w x b R v:=by
 cases h with
 | val h=>exact .val (h.mono (fun _ _ hx=>hx) hS fun _ _ _=>rfl)
 | bor h1 h2 h3 h4=>exact .bor h1 h2 h3 h4
 | own h1 h2 h3=>exact .own h1 h2 h3
 | nil h1=>exact .nil h1
 | ref h1 h2 h3=>exact .ref h1 h2 h3
 | clo=>exact .clo
 | gh h1 h2 h3=>exact .gh h1 h2 h3
theorem toTV_rep {cur:Heap} (h:Sat K β S ⟨st.tmps,cur⟩ a w) (hm:Marked st.heap cur) {x:AV} {v:Value} (hx:VRep β S w x v) {tv:TV} {m:List (Nat × Option Blk)} (ht:toTV (look st.heap) x=some (tv,m)) :
  ∃ S',(∀ c o,S c o->S' c o)/\Sat K β S' ⟨st.tmps,wrs cur m⟩ a w/\Marked st.heap (wrs cur m)/\VRep noβ S' w tv.av v:=by
 unfold toTV at ht
 split at ht
 ·obtain ⟨p,h1,h2⟩:=Option.map_eq_some_iff.1 ht
  cases h2
  cases hx with | c hx=>
  obtain ⟨S',e1,e2,e3,e4⟩:=toTree_rep h hm hx h1
  exact ⟨S',e1,e2,e3,.c (.t e4)⟩
 ·obtain ⟨p,h1,h2⟩:=Option.map_eq_some_iff.1 ht
  cases h2
  obtain ⟨vs,rfl,hl,hr⟩:=hx.aggE
  obtain ⟨S',e1,e2,e3,e4,e5⟩:=toTrees_rep _ vs cur S _ _ h hm hl hr h1
  refine ⟨S',e1,e2,e3,.agg vs (by simp [TV.av,e4,hl]) fun i c hi=>?_⟩
  obtain ⟨t,ht,rfl⟩:=map_t hi
  obtain ⟨u,q1,q2⟩:=e5 i t ht
  exact ⟨u,q1,.t q2⟩
 ·cases ht
theorem qby {h:Hp}:∀ {cs:List Cell} {ts:List Tree} {m:List (Nat × Option Blk)},toTrees h cs=some (ts,m)->m=[]->cs=ts.map .t
 | [],ts,m,h1,_=>by simp [toTrees] at h1; rw [h1.1]; rfl
 | c :: cs,ts,m,h1,hm=>by
  unfold toTrees at h1
  split at h1
  ·rename_i t m1 ht
   split at h1
   ·rename_i ts' m2 hts
    cases h1
    simp at hm
    have:=qby hts hm.2
    subst this
    unfold toTree at ht
    split at ht
    ·cases ht; rfl
    ·split at ht
     ·split at ht
      ·cases ht; simp at hm
      ·cases ht
     ·cases ht
    ·cases ht
   ·cases h1
  ·cases h1
theorem prepArg_rep {cur:Heap} (h:Sat K β S ⟨st.tmps,cur⟩ a w) (h0:∀ b blk,look st.heap b=some blk->∃ R,β b=some R) (hm:Marked st.heap cur) {md:Mode} {x:AV} {v:Value} (hx:VRep β S w x v) {arg:Arg} {m:List (Nat × Option Blk)} {bk:Back} (ht:prepArg (look st.heap) md x=some (arg,m,bk)) :
  ∃ S' R,(∀ c o,S c o->S' c o)/\Sat K β S' ⟨st.tmps,wrs cur m⟩ a w/\Marked st.heap (wrs cur m)/\Link β st.heap S' w arg bk R v:=by
 unfold prepArg at ht
 split at ht
 ·cases ht
  exact ⟨S,⟨0,0,0,0⟩,fun _ _ hx=>hx,h,hm,.clo⟩
 ·obtain ⟨p,h1,h2⟩:=Option.map_eq_some_iff.1 ht
  cases h2
  obtain ⟨S',e1,e2,e3,e4⟩:=toTV_rep h hm hx h1
  exact ⟨S',⟨0,0,0,0⟩,e1,e2,e3,.val e4⟩
 ·rename_i b off len
  split at ht
  ·rename_i sz rows g hb
   split at ht
   ·rename_i hle
    cases ht
    cases hx with | c hx=>
    cases hx with | sl R base cap hR h1 h2 h3 h4 h5=>
    have hc:=h2 rfl
    exact ⟨S,_,fun _ _ hx=>hx,h,hm,.bor hb hR hle ⟨base,by simp; omega,fun h0=>h5 (by simp at h0; omega)⟩⟩
   ·cases ht
  ·cases ht
 ·rename_i sz b len
  split at ht
  ·rename_i sz' rows hb
   split at ht
   ·rename_i hc
    obtain ⟨rfl,rfl⟩:=hc
    cases ht
    cases hx with | c hx=>
    cases hx with | sl R base cap hR h1 h2 h3 h4 h5=>
    have hc:=h2 rfl
    rw [Nat.zero_add] at hc
    exact ⟨S,_,fun _ _ hx=>hx,h,hm,.own hb hR ⟨base,by rw [hc],fun h0=>by have:=h5 (by omega); simpa using this⟩⟩
   ·cases ht
  ·cases ht
 ·rename_i sz
  cases ht
  cases hx with | c hx=>
  cases hx with | t hx=>
  generalize hr:([]:List (List Tree))=rows at hx
  cases hx with | lst _ _ base cb co stride cap val h1 h2 h3 h4 h5 h5' h6 h7 h8=>
  subst hr
  refine ⟨S,_,fun _ _ hx=>hx,h,hm,.nil ⟨base,?_,by simp⟩⟩
  simp [h4 rfl]
 ·rename_i b off len
  split at ht
  ·rename_i sz rows g hb
   split at ht
   ·rename_i hle
    cases ht
    cases hx with | c hx=>
    cases hx with | sl R base cap hR h1 h2 h3 h4 h5=>
    have hc:=h2 rfl
    exact ⟨S,_,fun _ _ hx=>hx,h,hm,.bor hb hR hle ⟨base,by simp; omega,fun h0=>h5 (by simp at h0; omega)⟩⟩
   ·cases ht
  ·cases ht
 ·obtain ⟨p,h1,h2⟩:=Option.map_eq_some_iff.1 ht
  cases h2
  obtain ⟨S',e1,e2,e3,e4⟩:=toTV_rep h hm hx h1
  exact ⟨S',⟨0,0,0,0⟩,e1,e2,e3,.val e4⟩
 ·rename_i b
  split at ht
  ·rename_i cells hb
   split at ht
   ·rename_i ts hts
    cases ht
    cases hx with | c hx=>
    cases hx with | ptr R hR=>
    have:=qby hts rfl
    subst this
    exact ⟨S,R,fun _ _ hx=>hx,h,hm,.ref hb hR (by simp)⟩
   ·cases ht
  ·cases ht
 ·cases ht
theorem prepArgs_rep (h0:∀ b blk,look st.heap b=some blk->∃ R,β b=some R):∀ (ms:List Mode) (xs:List AV) (vals:List Value) (cur:Heap) (S:Place) (args:List Arg) (m:List (Nat × Option Blk)) (bks:List Back),Sat K β S ⟨st.tmps,cur⟩ a w->Marked st.heap cur ->
  vals.length=xs.length->(∀ (i:Nat) (x:AV),xs[i]?=some x->∃ v,vals[i]?=some v/\VRep β S w x v)->prepArgs (look st.heap) ms xs=some (args,m,bks) ->
  ∃ S',(∀ c o,S c o->S' c o)/\Sat K β S' ⟨st.tmps,wrs cur m⟩ a w/\Marked st.heap (wrs cur m)/\args.length=xs.length/\bks.length=xs.length /\
   ∃ Rs:Nat->Reg,∀ (i:Nat) (x:Arg),args[i]?=some x->∃ b v,bks[i]?=some b/\vals[i]?=some v/\Link β st.heap S' w x b (Rs i) v
 | [],[],vals,cur,S,args,m,bks,h,hm,_,_,ht=>by
  simp [prepArgs] at ht; obtain ⟨rfl,rfl,rfl⟩:=ht
  exact ⟨S,fun _ _ hx=>hx,h,hm,rfl,rfl,fun _=>⟨0,0,0,0⟩,by simp⟩
 | [],_ :: _,_,_,_,_,_,_,_,_,_,_,ht=>by simp [prepArgs] at ht
 | _ :: _,[],_,_,_,_,_,_,_,_,_,_,ht=>by simp [prepArgs] at ht
 | md :: ms,x :: xs,[],_,_,_,_,_,_,_,hl,_,_=>by simp at hl
 | md :: ms,x :: xs,v :: vals,cur,S,args,m,bks,h,hm,hl,hr,ht=>by
  unfold prepArgs at ht
  split at ht
  ·rename_i a1 k1 b1 as ks bs h1 h2
   cases ht
   obtain ⟨v',hv',hx⟩:=hr 0 x rfl
   simp at hv'; subst hv'
   obtain ⟨S1,R1,e1,e2,e3,e4⟩:=prepArg_rep h h0 hm hx h1
   obtain ⟨S2,f1,f2,f3,f4,f5,Rs,f6⟩:=prepArgs_rep h0 ms xs vals _ S1 _ _ _ e2 e3 (by simpa using hl) (fun i y hi=>by
    obtain ⟨u,q1,q2⟩:=hr (i+1) y (by simpa using hi)
    exact ⟨u,by simpa using q1,q2.mono (fun _ _ hx=>hx) e1 fun _ _ _=>rfl⟩) h2
   refine ⟨S2,fun c o hx=>f1 _ _ (e1 _ _ hx),by rw [qat]; exact f2,by rw [qat]; exact f3,by simp [f4],by simp [f5],fun i=>match i with | 0=>R1 | i+1=>Rs i,fun i y hi=>?_⟩
   cases i with
   | zero=>simp at hi; subst hi; exact ⟨b1,v,rfl,rfl,e4.mono f1⟩
   | succ i=>simpa using f6 i y (by simpa using hi)
  ·cases ht
theorem qan {b:Nat}:∀ (m:List (Nat × Option Blk)) (h:Heap),b ∉ ids m->look (wrs h m) b=look h b
 | [],_,_=>rfl
 | p :: m,h,hn=>by
  simp only [ids,List.map_cons,List.mem_cons,not_or] at hn
  rw [wrs_cons,qan m _ hn.2,qac hn.1]
theorem Link.blkOk {heap:Heap} {x:Arg} {b:Back} {R:Reg} {v:Value} (hl:Link β heap S w x b R v) (h:Sat K β S ⟨st.tmps,heap⟩ a w) :
  ArgOk S w R x v/\∀ blk,x.blk=some blk->(∃ bi B RB,b.id=some bi/\look heap bi=some B/\β bi=some RB/\(∀ c o,blk.ext R c o->B.ext RB c o)/\(∀ c o,blk.wr R c o->B.wr RB c o)) ∨ (b.id=none/\∀ c o,¬ blk.ext R c o):=by
 cases hl with
 | val hv=>exact ⟨hv,fun blk hb=>by cases hb⟩
 | bor hb hR hle hs=>
  rename_i sz b off len rows g R0
  obtain ⟨R',e1,⟨q0,q1,q2,q3,q3',q4,q5,q6⟩,e4,e5⟩:=h.blk _ _ hb
  rw [hR] at e1; cases e1
  have hcl:((rows.drop off).take len).length=len:=by rw [List.length_take,List.length_drop]; omega
  have hm1:(off+len)*R0.stride<=rows.length*R0.stride:=Nat.mul_le_mul_right _ hle
  rw [Nat.add_mul] at hm1
  have hm2:rows.length*R0.stride<=(if g=true then R0.cap else rows.length)*R0.stride:=Nat.mul_le_mul_right _ (by split <;> omega)
  refine ⟨⟨by rw [hcl]; exact hs,q0,(fun r hr=>q1 r (mem_cut hr)),(by rw [hcl]; show len<=R0.cap - off; omega),(by show R0.cap - off < 2 ^ 63; omega),(by rw [hcl]; omega),?_,fun i j t ht=>?_,by simp⟩,fun blk hblk=>?_⟩
  ·intro o h1 h2
   simp only [hcl,Bool.false_eq_true,if_false] at h2
   have h1':R0.co+off*R0.stride<=o:=h1
   have h2':o < R0.co+off*R0.stride+len*R0.stride:=h2
   exact q4 o (by omega) (by omega)
  ·obtain ⟨u,f1,f2⟩:=q5 _ _ _ (at2_cut ht).2
   refine ⟨u,?_,f2⟩
   simp only
   rw [Nat.add_mul,<- Nat.add_assoc] at f1; exact f1
  ·cases hblk
   refine .inl ⟨_,_,R0,rfl,hb,hR,?_,?_⟩
   ·rintro c o ⟨h1,h2,h3⟩
    simp only [hcl,Bool.false_eq_true,if_false] at h2 h3
    exact ⟨h1,by omega,by omega⟩
   ·rintro c o ⟨h1,h2,h3⟩
    simp only [hcl,Bool.false_eq_true,if_false] at h2 h3
    exact ⟨h1,by simp; omega,by omega⟩
 | own hb hR hs=>
  obtain ⟨R',e1,q,e4,e5⟩:=h.blk _ _ hb
  rw [hR] at e1; cases e1
  refine ⟨⟨hs,q⟩,fun blk hblk=>?_⟩
  cases hblk
  exact .inl ⟨_,_,R,rfl,hb,hR,fun _ _ hx=>hx,fun _ _ hx=>hx⟩
 | nil hs=>
  refine ⟨⟨hs,rfl,(fun r hr=>by cases hr),Nat.le_refl _,(by show 0 < 2 ^ 63; omega),(by show 0 < 2 ^ 60; omega),(fun o h1 h2=>absurd h2 (by simp)),(fun i j t ht=>by simp [at2] at ht),(fun hh=>by cases hh)⟩,fun blk hblk=>?_⟩
  cases hblk
  refine .inr ⟨rfl,?_⟩
  rintro c o ⟨h1,h2,h3⟩
  simp at h3
 | ref hb hR hv=>
  obtain ⟨R',e1,q,e4,e5⟩:=h.blk _ _ hb
  rw [hR] at e1; cases e1
  refine ⟨⟨hv,q.1,fun j c hj=>?_⟩,fun blk hblk=>?_⟩
  ·obtain ⟨u,f1,f2⟩:=q.2 j c hj
   obtain ⟨t,ht,rfl⟩:=map_t hj
   refine ⟨u,f1,?_⟩
   cases f2 with | t f2=>exact .t f2
  ·cases hblk
   exact .inl ⟨_,_,R,rfl,hb,hR,fun _ _ hx=>hx,fun _ _ hx=>hx⟩
 | clo=>exact ⟨trivial,fun blk hb=>by cases hb⟩
 | gh hb hR hv=>
  obtain ⟨R',e1,q,e4,e5⟩:=h.blk _ _ hb
  rw [hR] at e1; cases e1
  refine ⟨⟨hv,q.1,fun j c hj=>?_⟩,fun blk hblk=>?_⟩
  ·obtain ⟨u,f1,f2⟩:=q.2 j c hj
   obtain ⟨t,ht,rfl⟩:=map_t hj
   refine ⟨u,f1,?_⟩
   cases f2 with | t f2=>exact .t f2
  ·cases hblk
   exact .inl ⟨_,_,R,rfl,hb,hR,fun _ _ hx=>hx,fun _ _ hx=>hx⟩
theorem callPre_of {heap:Heap} {args:List Arg} {bks:List Back} {vals:List Value} {Rs:Nat->Reg} (h:Sat K β S ⟨st.tmps,heap⟩ a w) (hl:vals.length=args.length) (hnd:(bks.filterMap Back.id).Nodup)
  (hlink:∀ (i:Nat) (x:Arg),args[i]?=some x->∃ b v,bks[i]?=some b/\vals[i]?=some v/\Link β heap S w x b (Rs i) v)
  (hclo:∀ (i:Nat) (f:FuncId) (caps:List (Nat × Nat × Nat)) (v:Value),args[i]?=some (.clo f caps)->vals[i]?=some v->CRep (βA args Rs) S w (.clo f caps) v):CallPre args S w vals Rs:=by
 refine ⟨hl,fun i x hi=>?_,h.sex,fun i x blk hi hb=>?_,fun i j x y b b' hij hi hj hb hb' c o h1 h2=>?_,hclo⟩
 ·obtain ⟨b,v,_,e2,e3⟩:=hlink i x hi
  exact ⟨v,e2,(e3.blkOk h).1⟩
 ·obtain ⟨b,v,_,e2,e3⟩:=hlink i x hi
  rcases (e3.blkOk h).2 blk hb with ⟨bi,B,RB,f1,f2,f3,f4,f5⟩ | ⟨_,f2⟩
  ·obtain ⟨R',g1,_,g3,g4⟩:=h.blk _ _ f2
   rw [f3] at g1; cases g1
   exact ⟨fun c o hx=>(g3 c o (f4 c o hx)).1,fun c o hx=>g4 c o (f5 c o hx)⟩
  ·exact ⟨fun c o hx=>absurd hx (f2 c o),fun c o hx=>absurd (Blk.wr_ext hx) (f2 c o)⟩
 ·obtain ⟨b1,v1,e0,_,e1⟩:=hlink i x hi
  obtain ⟨b2,v2,e0',_,e2⟩:=hlink j y hj
  rcases (e1.blkOk h).2 b hb with ⟨bi,B,RB,f1,f2,f3,f4,f5⟩ | ⟨_,f⟩
  ·rcases (e2.blkOk h).2 b' hb' with ⟨bi',B',RB',f1',f2',f3',f4',f5'⟩ | ⟨_,f⟩
   ·have hne:bi ≠ bi':=by
     rintro rfl
     have key:∀ (l:List Back) (i j:Nat) (x y:Back),i < j->l[i]?=some x->l[j]?=some y->x.id=some bi->y.id=some bi->¬ (l.filterMap Back.id).Nodup:=by
      intro l
      induction l with
      | nil=>intro i j x y _ hi _ _ _; simp at hi
      | cons z l ih=>
       intro i j x y hlt hi hj hx hy hnd
       cases j with
       | zero=>omega
       | succ j=>
        cases i with
        | zero=>
         simp at hi hj; subst hi
         rw [List.filterMap_cons,hx] at hnd
         simp only [List.nodup_cons] at hnd
         exact hnd.1 (List.mem_filterMap.2 ⟨y,List.mem_of_getElem? hj,hy⟩)
        | succ i=>
         refine ih i j x y (by omega) (by simpa using hi) (by simpa using hj) hx hy ?_
         rw [List.filterMap_cons] at hnd
         split at hnd
         ·exact hnd
         ·exact (List.nodup_cons.1 hnd).2
     rcases Nat.lt_or_ge i j with hlt | hge
     ·exact key bks i j b1 b2 hlt e0 e0' f1 f1' hnd
     ·exact key bks j i b2 b1 (by omega) e0' e0 f1' f1 hnd
    exact h.dis bi bi' B B' RB RB' hne f2 f2' f3 f3' c o (f4 c o h1) (f4' c o h2)
   ·exact f c o h2
  ·exact f c o h1
end
section
variable {P:Program} {C:Cfg} {K:Ctx} {β:Nat->Option Reg} {S:Place} {st:St} {a:Act} {w:World} {slot:Nat} {e:Eff} {o:Oper} {f:FuncId}
theorem Link.heap {h1 h2:Heap} {x:Arg} {b:Back} {R:Reg} {v:Value} (hl:Link β h1 S w x b R v) (hh:∀ bi,b.id=some bi->look h2 bi=look h1 bi):Link β h2 S w x b R v:=by
 cases hl with
 | val h=>exact .val h
 | bor e1 e2 e3 e4=>exact .bor (by rw [hh _ rfl]; exact e1) e2 e3 e4
 | own e1 e2 e3=>exact .own (by rw [hh _ rfl]; exact e1) e2 e3
 | nil h=>exact .nil h
 | ref e1 e2 e3=>exact .ref (by rw [hh _ rfl]; exact e1) e2 e3
 | clo=>exact .clo
 | gh e1 e2 e3=>exact .gh (by rw [hh _ rfl]; exact e1) e2 e3
theorem one1_rep {l:List AV} {vs:List Value} (hl:vs.length=l.length) (hr:∀ (i:Nat) (x:AV),l[i]?=some x->∃ v,vs[i]?=some v/\VRep β S w x v) :
  VRep β S w (one1 l) (if vs.length=1 then vs.getD 0 undef else .tuple vs.toArray):=by
 unfold one1
 split
 ·rename_i x
  obtain ⟨v,h1,h2⟩:=hr 0 x rfl
  rw [if_pos (by simpa using hl)]
  simpa [List.getD,h1] using h2
 ·rename_i hne
  have:vs.length ≠ 1:=by
   intro h1
   rw [h1] at hl
   match l,hl with
   | [x],_=>exact hne x rfl
  rw [if_neg this]
  refine .tup vs (fun i=>vs.getD i undef) hl (fun i x hi=>?_) fun i x hi=>?_
  ·obtain ⟨v,h1,h2⟩:=hr i x hi
   simp [List.getD,h1]
  ·obtain ⟨v,h1,h2⟩:=hr i x hi
   simpa [List.getD,h1] using h2
theorem scalar_rep {x:TV} (hx:x.scalar=true) {S':Place} {w':World} {v:Value} (h:VRep noβ S' w' x.av v):VRep β S w x.av v:=by
 unfold TV.scalar at hx
 split at hx
 ·obtain ⟨rfl,h2⟩:=h.scalar
  exact .c (.t (.v _ h2))
 ·rename_i l
  obtain ⟨vs,rfl,h1,h2⟩:=h.aggE
  refine .agg vs h1 fun i c hi=>?_
  obtain ⟨v,e1,e2⟩:=h2 i c hi
  obtain ⟨t,ht,rfl⟩:=map_t hi
  have:=List.all_eq_true.1 hx t (List.mem_of_getElem? ht)
  split at this
  ·refine ⟨v,e1,.t ?_⟩
   cases e2 with | t e2=>cases e2 with | v _ h=>exact .v _ h
  ·cases this
 ·cases hx
theorem resAVs_vals:∀ (l:List RC) (slot:Nat),l.all RC.scalar=true->(resAVs slot l).1.length=l.length/\∀ (i:Nat) (x:AV),(resAVs slot l).1[i]?=some x->∃ tv:TV,l[i]?=some (.val tv)/\x=tv.av/\tv.scalar=true
 | [],_,_=>⟨rfl,by simp [resAVs]⟩
 | .val tv :: l,slot,h=>by
  simp only [List.all_cons,Bool.and_eq_true] at h
  obtain ⟨h1,h2⟩:=resAVs_vals l slot h.2
  refine ⟨by simp [resAVs,h1],fun i x hi=>?_⟩
  cases i with
  | zero=>simp [resAVs] at hi; exact ⟨tv,rfl,hi.symm,h.1⟩
  | succ i=>simpa using h2 i x (by simpa [resAVs] using hi)
 | .own _ _ :: l,slot,h=>by simp [RC.scalar] at h
theorem Sat.adopt (h:Sat K β S st a w) (hs:slot < st.heap.length) (hf:β slot=none) {blk:Blk} {R:Reg}
  (hok:BlkOk (fun b=>if b=slot then some R else β b) S w K.B0 R blk) (hx:∀ c o,blk.ext R c o->c < w.heap.size/\(K.B0<=c ∨ K.W c o)) (hwr:∀ c o,blk.wr R c o->¬ S c o)
  (hdis:∀ b blk' R',look st.heap b=some blk'->β b=some R'->∀ c o,blk'.ext R' c o->¬ blk.ext R c o) :
  Sat K (fun b=>if b=slot then some R else β b) S ⟨st.tmps,st.heap.set slot (some blk)⟩ a w:=by
 have hβ:∀ b R',β b=some R'->(if b=slot then some R else β b)=some R':=by
  intro b R' hb
  split
  ·rename_i hbs; subst hbs; rw [hf] at hb; cases hb
  ·exact hb
 refine h.step (Wr:=fun _ _=>False) (fun b=>b=slot) (Keep.refl _ _) (fun _ _ hx=>hx.elim) hβ (fun b R' hb=>?_) (fun _ _ hx=>hx) (fun c o hc=>.inl hc) (fun b blk' hD hb=>?_) (fun b blk' hD hb=>?_)
 ·simp only [List.length_set]
  by_cases hbs:b=slot
  ·omega
  ·rw [if_neg hbs] at hb; exact h.top b R' hb
 ·rw [qac hD] at hb; exact hb
 ·subst hD
  rw [qae hs] at hb; cases hb
  refine ⟨R,by simp,hok,hx,hwr,fun b' blk'' R' hne hb' hR' c o hy hz=>?_⟩
  rw [qac hne] at hb'
  rw [if_neg hne] at hR'
  exact hdis b' blk'' R' hb' hR' c o hz hy
theorem BlkOk.var_noβ {β':Nat->Option Reg} {B B':Nat} {R:Reg} {ts:List Cell} (h:BlkOk noβ S w B R (.var ts)):BlkOk β' S w B' R (.var ts):=
 ⟨h.1,fun j c hj=>by obtain ⟨v,e1,e2⟩:=h.2 j c hj; exact ⟨v,e1,e2.mono (fun _ _ hx=>by cases hx) (fun _ _ hx=>hx) fun _ _ _=>rfl⟩⟩
theorem adoptAll:∀ (l:List RC) (us:List Value) (k0:Nat) (Rr:Nat->Reg) (slot:Nat) (β:Nat->Option Reg) (heap:Heap),Sat K β S ⟨st.tmps,heap⟩ a w ->
  us.length=l.length->(∀ (k:Nat) (r:RC),l[k]?=some r->∃ u,us[k]?=some u/\RcOk S w (Rr (k0+k)) r u) ->
  slot+(l.filter RC.isOwn).length<=heap.length->(∀ b,slot<=b->b < slot+(l.filter RC.isOwn).length->β b=none) ->
  (∀ (k sz:Nat) (rows:List (List Tree)),l[k]?=some (.own sz rows)->(∀ c o,(Blk.rows sz rows true false).ext (Rr (k0+k)) c o->c < w.heap.size/\(K.B0<=c ∨ K.W c o))/\(∀ c o,(Blk.rows sz rows true false).wr (Rr (k0+k)) c o->¬ S c o)) ->
  (∀ (k j sz sz':Nat) (rows rows':List (List Tree)),k ≠ j->l[k]?=some (.own sz rows)->l[j]?=some (.own sz' rows')->∀ c o,(Blk.rows sz rows true false).ext (Rr (k0+k)) c o->¬ (Blk.rows sz' rows' true false).ext (Rr (k0+j)) c o) ->
  (∀ (k sz:Nat) (rows:List (List Tree)),l[k]?=some (.own sz rows)->∀ b blk' R',look heap b=some blk'->β b=some R'->∀ c o,blk'.ext R' c o->¬ (Blk.rows sz rows true false).ext (Rr (k0+k)) c o) ->
  ∃ β',(∀ b,b < slot ∨ slot+(l.filter RC.isOwn).length<=b->β' b=β b)/\(∀ b R,β b=some R->β' b=some R)/\Sat K β' S ⟨st.tmps,wrs heap (resAVs slot l).2⟩ a w /\
   (resAVs slot l).1.length=l.length/\∀ (i:Nat) (x:AV),(resAVs slot l).1[i]?=some x->∃ u,us[i]?=some u/\VRep β' S w x u
 | [],us,k0,Rr,slot,β,heap,h,_,_,_,_,_,_,_=>⟨β,fun _ _=>rfl,fun _ _ hx=>hx,h,rfl,by simp [resAVs]⟩
 | r :: l,[],_,_,_,_,_,_,hl,_,_,_,_,_,_=>by simp at hl
 | r :: l,u :: us,k0,Rr,slot,β,heap,h,hl,hr,hlen,hf,hx,hpw,hd=>by
  obtain ⟨u',hu',hru⟩:=hr 0 r rfl
  simp at hu'; subst hu'
  have shift:∀ k,k0+(k+1)=k0+1+k:=fun k=>by omega
  cases r with
  | val tv=>
   obtain ⟨β',e1,e1',e2,e3,e4⟩:=adoptAll l us (k0+1) Rr slot β heap h (by simpa using hl) (fun k r hk=>by
    obtain ⟨u,q1,q2⟩:=hr (k+1) r (by simpa using hk)
    exact ⟨u,by simpa using q1,by rw [<- shift]; exact q2⟩) (by simpa [RC.isOwn] using hlen) (by simpa [RC.isOwn] using hf) (fun k sz rows hk=>by rw [<- shift]; exact hx (k+1) sz rows (by simpa using hk))
    (fun k j sz sz' rows rows' hne hk hj=>by rw [<- shift,<- shift]; exact hpw (k+1) (j+1) sz sz' rows rows' (by omega) (by simpa using hk) (by simpa using hj))
    (fun k sz rows hk=>by rw [<- shift]; exact hd (k+1) sz rows (by simpa using hk))
   refine ⟨β',by simpa [RC.isOwn] using e1,e1',e2,by simp [resAVs,e3],fun i x hi=>?_⟩
   cases i with
   | zero=>
    simp [resAVs] at hi; subst hi
    exact ⟨u,rfl,VRep.mono hru (fun _ _ hx=>by cases hx) (fun _ _ hx=>hx) fun _ _ _=>rfl⟩
   | succ i=>simpa using e4 i x (by simpa [resAVs] using hi)
  | own sz rows=>
   simp only [List.filter_cons,RC.isOwn,if_true,List.length_cons] at hlen hf
   obtain ⟨h1,h2⟩:=hx 0 sz rows rfl
   have hfs:=hf slot (Nat.le_refl _) (by omega)
   have h3:=h.adopt (slot:=slot) (by show slot < heap.length; omega) hfs (blk:=.rows sz rows true false) (R:=Rr (k0+0)) hru.2 h1 h2 (hd 0 sz rows rfl)
   obtain ⟨β',e1,e1',e2,e3,e4⟩:=adoptAll l us (k0+1) Rr (slot+1) _ _ h3 (by simpa using hl) (fun k r hk=>by
    obtain ⟨u,q1,q2⟩:=hr (k+1) r (by simpa using hk)
    exact ⟨u,by simpa using q1,by rw [<- shift]; exact q2⟩) (by simp; omega) (fun b hb hb2=>by simp only [if_neg (show b ≠ slot by omega)]; exact hf b (by omega) (by omega)) (fun k sz rows hk=>by rw [<- shift]; exact hx (k+1) sz rows (by simpa using hk))
    (fun k j sz sz' rows rows' hne hk hj=>by rw [<- shift,<- shift]; exact hpw (k+1) (j+1) sz sz' rows rows' (by omega) (by simpa using hk) (by simpa using hj))
    (fun k sz' rows' hk b blk' R' hb hR c o hy=>by
     rw [<- shift]
     by_cases hbs:b=slot
     ·subst hbs
      rw [qae (by show b < heap.length; omega)] at hb; cases hb
      simp only [if_true] at hR; cases hR
      exact hpw 0 (k+1) sz sz' rows rows' (by omega) rfl (by simpa using hk) c o hy
     ·rw [qac hbs] at hb
      rw [if_neg hbs] at hR
      exact hd (k+1) sz' rows' (by simpa using hk) b blk' R' hb hR c o hy)
   have hββ:∀ b R,β b=some R->β' b=some R:=fun b R hb=>e1' b R (by rw [if_neg (by rintro rfl; rw [hfs] at hb; cases hb)]; exact hb)
   refine ⟨β',fun b hb=>?_,hββ,e2,by simp [resAVs,e3],fun i x hi=>?_⟩
   ·simp only [List.filter_cons,RC.isOwn,if_true,List.length_cons] at hb
    rw [e1 b (by omega),if_neg (by omega)]
   ·cases i with
    | zero=>
     simp [resAVs] at hi; subst hi
     obtain ⟨base,q1,q2⟩:=hru.1
     refine ⟨u,rfl,?_⟩
     rw [q1]
     have hle:rows.length<=(Rr (k0+0)).cap:=hru.2.2.2.1
     exact .c (.sl (Rr (k0+0)) base _ (e1' _ _ (by simp)) (fun hh=>by cases hh) (fun _=>by omega) hle (by omega) (fun h0=>by simpa using q2 h0))
    | succ i=>simpa using e4 i x (by simpa [resAVs] using hi)
end
def BackAt (h:Hp) (h':Heap):Back->Option Blk->Prop
 | .none,_=>True
 | .own b,_=>look h' b=none
 | .bor b off len,o=>∃ sz r rows g,o=some (.rows sz r false false)/\h b=some (.rows sz rows g false)/\r.length=len/\look h' b=some (.rows sz (setRange rows off r) g false)
 | .ref b,o=>∃ cs old,o=some (.var cs)/\h b=some (.var old)/\cs.length=old.length/\look h' b=some (.var cs)
theorem BackAt.heap {h:Hp} {h1 h2:Heap} {b:Back} {o:Option Blk} (hb:BackAt h h1 b o) (he:∀ i,b.id=some i->look h2 i=look h1 i):BackAt h h2 b o:=by
 cases b with
 | none=>trivial
 | own b=>show look h2 b=none; rw [he b rfl]; exact hb
 | bor b off len=>obtain ⟨sz,r,rows,g,e1,e2,e3,e4⟩:=hb; exact ⟨sz,r,rows,g,e1,e2,e3,by rw [he b rfl]; exact e4⟩
 | ref b=>obtain ⟨cs,old,e1,e2,e3,e4⟩:=hb; exact ⟨cs,old,e1,e2,e3,by rw [he b rfl]; exact e4⟩
theorem backWr_spec {h:Hp}:∀ (bks:List Back) (outs:List (Option Blk)) (bw:List (Nat × Option Blk)) (heap:Heap),backWr h bks outs=some bw->(bks.filterMap Back.id).Nodup->(∀ i ∈ bks.filterMap Back.id,i < heap.length) ->
  outs.length=bks.length/\(∀ i,i ∉ bks.filterMap Back.id->look (wrs heap bw) i=look heap i)/\∀ (i:Nat) (b:Back),bks[i]?=some b->∃ o,outs[i]?=some o/\BackAt h (wrs heap bw) b o
 | [],[],bw,heap,hb,_,_=>by
  simp [backWr] at hb; subst hb
  exact ⟨rfl,fun _ _=>rfl,by simp⟩
 | [],_ :: _,_,_,hb,_,_=>by simp [backWr] at hb
 | b :: bks,[],_,_,hb,_,_=>by cases b <;> simp [backWr] at hb
 | b :: bks,o :: outs,bw,heap,hb,hnd,hlt=>by
  have stepr:∀ (bi:Nat) (x:Option Blk) (bw':List (Nat × Option Blk)),b.id=some bi->backWr h bks outs=some bw'->bw=(bi,x) :: bw'->(∀ h',look h' bi=x->BackAt h h' b o) ->
    (o :: outs).length=(b :: bks).length/\(∀ i,i ∉ (b :: bks).filterMap Back.id->look (wrs heap bw) i=look heap i)/\∀ (i:Nat) (b':Back),(b :: bks)[i]?=some b'->∃ o',(o :: outs)[i]?=some o'/\BackAt h (wrs heap bw) b' o':=by
   rintro bi x bw' hid hbw rfl hat
   rw [List.filterMap_cons,hid] at hnd hlt
   simp only [List.nodup_cons,List.mem_cons,forall_eq_or_imp] at hnd hlt
   obtain ⟨h1,h2,h3⟩:=backWr_spec bks outs bw' (heap.set bi x) hbw hnd.2 (fun i hi=>by simpa using hlt.2 i hi)
   rw [wrs_cons]
   refine ⟨by simp [h1],fun i hi=>?_,fun i b' hi=>?_⟩
   ·rw [List.filterMap_cons,hid] at hi
    simp only [List.mem_cons,not_or] at hi
    rw [h2 i hi.2,qac hi.1]
   ·cases i with
    | zero=>
     simp at hi; subst hi
     exact ⟨o,rfl,hat _ (by rw [h2 bi hnd.1,qae hlt.1])⟩
    | succ i=>simpa using h3 i b' (by simpa using hi)
  cases b with
  | none=>
   simp only [backWr] at hb
   rw [List.filterMap_cons] at hnd hlt
   obtain ⟨h1,h2,h3⟩:=backWr_spec bks outs bw heap hb (by simpa [Back.id] using hnd) (by simpa [Back.id] using hlt)
   refine ⟨by simp [h1],fun i hi=>h2 i (by simpa [List.filterMap_cons,Back.id] using hi),fun i b' hi=>?_⟩
   cases i with
   | zero=>simp at hi; subst hi; exact ⟨o,rfl,trivial⟩
   | succ i=>simpa using h3 i b' (by simpa using hi)
  | own b=>
   simp only [backWr] at hb
   obtain ⟨bw',h1,h2⟩:=Option.map_eq_some_iff.1 hb
   exact stepr b none bw' rfl h1 h2.symm fun h' hl=>hl
  | bor b off len=>
   unfold backWr at hb
   split at hb <;> try (cases hb; done)
   all_goals (rename_i heq1 heq2; try (cases heq1; done))
   ·cases heq1; cases heq2
    split at hb
    ·rename_i sz' rows g hbk
     split at hb
     ·rename_i hc
      obtain ⟨rfl,hrl⟩:=hc
      obtain ⟨bw',h1,h2⟩:=Option.map_eq_some_iff.1 hb
      exact stepr b _ bw' rfl h1 h2.symm fun h' hl=>⟨_,_,_,_,rfl,hbk,hrl,hl⟩
     ·cases hb
    ·cases hb
  | ref b=>
   unfold backWr at hb
   split at hb <;> try (cases hb; done)
   all_goals (rename_i heq1 heq2; try (cases heq1; done))
   ·cases heq1; cases heq2
    split at hb
    ·rename_i old hbk
     split at hb
     ·rename_i hc
      obtain ⟨bw',h1,h2⟩:=Option.map_eq_some_iff.1 hb
      exact stepr b _ bw' rfl h1 h2.symm fun h' hl=>⟨_,_,rfl,hbk,hc,hl⟩
     ·cases hb
    ·cases hb
section
variable {P:Program} {C:Cfg} {K:Ctx} {β:Nat->Option Reg} {S:Place} {st:St} {a:Act} {w:World} {slot:Nat} {e:Eff} {o:Oper} {f:FuncId}
theorem nodup_idx {bi:Nat}:∀ (l:List Back) (i j:Nat) (x y:Back),(l.filterMap Back.id).Nodup->l[i]?=some x->l[j]?=some y->x.id=some bi->y.id=some bi->i=j
 | [],i,_,x,_,_,hi,_,_,_=>by simp at hi
 | z :: l,i,j,x,y,hnd,hi,hj,hx,hy=>by
  have tail:(l.filterMap Back.id).Nodup:=by
   rw [List.filterMap_cons] at hnd
   split at hnd
   ·exact hnd
   ·exact (List.nodup_cons.1 hnd).2
  have head:∀ (k:Nat) (u:Back),l[k]?=some u->u.id=some bi->z.id=some bi->False:=by
   intro k u hk hu hz
   rw [List.filterMap_cons,hz] at hnd
   exact (List.nodup_cons.1 hnd).1 (List.mem_filterMap.2 ⟨u,List.mem_of_getElem? hk,hu⟩)
  cases i with
  | zero=>
   cases j with
   | zero=>rfl
   | succ j=>simp at hi hj; subst hi; exact (head j y hj hy hx).elim
  | succ i=>
   cases j with
   | zero=>simp at hi hj; subst hj; exact (head i x hi hx hy).elim
   | succ j=>rw [nodup_idx l i j x y tail (by simpa using hi) (by simpa using hj) hx hy]
theorem Keep.there {W:Place} {w w':World} (h:Keep W w w') {cb co n:Nat} (ht:there w cb co n):there w' cb co n:=by
 intro o h1 h2
 obtain ⟨e1,e2⟩:=ht o h1 h2
 unfold World.cell? at e1
 unfold World.frozen? at e2
 cases hg:w.heap[cb]? with
 | none=>rw [hg] at e1; simp at e1
 | some ob=>
  cases ob with
  | cells c el fr=>
   obtain ⟨c',f1,f2,f3⟩:=h.obj cb _ hg
   simp only [hg] at e1 e2
   unfold World.cell? World.frozen?
   simp only [f1]
   refine ⟨?_,e2⟩
   simp only [Option.isSome_none,Bool.false_eq_true,if_false] at e1 ⊢
   have hlt:o < c.size:=by
    rcases Nat.lt_or_ge o c.size with h | h
    ·exact h
    ·rw [Array.getElem?_eq_none h] at e1; cases e1
   rw [Array.getElem?_eq_getElem (by omega)]; rfl
  | _=>rw [hg] at e1; simp at e1
theorem prepArgs_clo {h:Hp}:∀ {ms:List Mode} {xs:List AV} {as:List Arg} {ks:List (Nat × Option Blk)} {bs:List Back},prepArgs h ms xs=some (as,ks,bs) ->
  as.length=xs.length/\(∀ x ∈ as,∀ ts,x ≠ .gh ts)/\∀ (i:Nat) (f:FuncId) (caps:List (Nat × Nat × Nat)),as[i]?=some (.clo f caps)->xs[i]?=some (.c (.clo f caps))
 | [],[],as,ks,bs,ht=>by simp [prepArgs] at ht; obtain ⟨rfl,rfl,rfl⟩:=ht; exact ⟨rfl,by simp,by simp⟩
 | [],_ :: _,_,_,_,ht=>by simp [prepArgs] at ht
 | _ :: _,[],_,_,_,ht=>by simp [prepArgs] at ht
 | md :: ms,x :: xs,as,ks,bs,ht=>by
  unfold prepArgs at ht
  split at ht
  ·rename_i a1 k1 b1 as1 ks1 bs1 h1 h2
   cases ht
   obtain ⟨e1,e2,e3⟩:=prepArgs_clo h2
   have key:(∀ ts,a1 ≠ .gh ts)/\∀ f caps,a1=.clo f caps->x=.c (.clo f caps):=by
    unfold prepArg at h1
    split at h1
    ·cases h1; exact ⟨fun ts h=>(by cases h),fun f caps h=>by cases h; rfl⟩
    ·obtain ⟨p,_,q⟩:=Option.map_eq_some_iff.1 h1
     cases q; exact ⟨fun ts h=>(by cases h),fun f caps h=>by cases h⟩
    ·split at h1
     ·split at h1
      ·cases h1; exact ⟨fun ts h=>(by cases h),fun f caps h=>by cases h⟩
      ·cases h1
     ·cases h1
    ·split at h1
     ·split at h1
      ·cases h1; exact ⟨fun ts h=>(by cases h),fun f caps h=>by cases h⟩
      ·cases h1
     ·cases h1
    ·cases h1; exact ⟨fun ts h=>(by cases h),fun f caps h=>by cases h⟩
    ·split at h1
     ·split at h1
      ·cases h1; exact ⟨fun ts h=>(by cases h),fun f caps h=>by cases h⟩
      ·cases h1
     ·cases h1
    ·obtain ⟨p,_,q⟩:=Option.map_eq_some_iff.1 h1
     cases q; exact ⟨fun ts h=>(by cases h),fun f caps h=>by cases h⟩
    ·split at h1
     ·split at h1
      ·cases h1; exact ⟨fun ts h=>(by cases h),fun f caps h=>by cases h⟩
      ·cases h1
     ·cases h1
    ·cases h1
   refine ⟨by simp [e1],fun y hy=>?_,fun i f caps hi=>?_⟩
   ·rcases List.mem_cons.1 hy with rfl | hy
    ·exact key.1
    ·exact e2 y hy
   ·cases i with
    | zero=>simp at hi; simp [key.2 f caps hi]
    | succ i=>simpa using e3 i f caps (by simpa using hi)
  ·cases ht
theorem nvA_all:∀ {as:List Arg},(∀ x ∈ as,∀ ts,x ≠ .gh ts)->nvA as=as.length
 | [],_=>rfl
 | x :: as,h=>by
  have h1:=h x (.head _)
  have h2:=nvA_all fun y hy=>h y (.tail _ hy)
  cases x with
  | gh ts=>exact absurd rfl (h1 ts)
  | _=>simp [nvA,h2]
theorem nvA_app:∀ {as:List Arg} {ts:List Tree} {l:List Arg},(∀ x ∈ as,∀ ts,x ≠ .gh ts)->nvA (as ++ .gh ts :: l)=as.length
 | [],ts,l,_=>rfl
 | x :: as,ts,l,h=>by
  have h1:=h x (.head _)
  have h2:=nvA_app (ts:=ts) (l:=l) fun y hy=>h y (.tail _ hy)
  cases x with
  | gh ts=>exact absurd rfl (h1 ts)
  | _=>simp [nvA,h2]
theorem capIds_mem:∀ (l:List (Nat × Nat × Nat)) (acc:List Nat),(∀ b ∈ acc,b ∈ capIds l acc)/\∀ p ∈ l,p.1 ∈ capIds l acc
 | [],acc=>⟨fun _ h=>h,by simp⟩
 | (b,r,c) :: l,acc=>by
  unfold capIds
  split
  ·rename_i hc
   obtain ⟨h1,h2⟩:=capIds_mem l acc
   refine ⟨h1,fun p hp=>?_⟩
   rcases List.mem_cons.1 hp with rfl | hp
   ·exact h1 _ (by simpa using hc)
   ·exact h2 p hp
  ·obtain ⟨h1,h2⟩:=capIds_mem l (acc ++ [b])
   refine ⟨fun x hx=>h1 x (by simp [hx]),fun p hp=>?_⟩
   rcases List.mem_cons.1 hp with rfl | hp
   ·exact h1 _ (by simp)
   ·exact h2 p hp
theorem ghIds_mem:∀ (as:List Arg) (acc:List Nat),(∀ b ∈ acc,b ∈ ghIds as acc)/\∀ f caps,Arg.clo f caps ∈ as->∀ p ∈ caps,p.1 ∈ ghIds as acc
 | [],acc=>⟨fun _ h=>h,by simp⟩
 | x :: as,acc=>by
  have other:ghIds (x :: as) acc=ghIds as acc->(∀ f caps,x ≠ .clo f caps)->(∀ b ∈ acc,b ∈ ghIds (x :: as) acc)/\∀ f caps,Arg.clo f caps ∈ x :: as->∀ p ∈ caps,p.1 ∈ ghIds (x :: as) acc:=fun e hx=>by
   obtain ⟨h1,h2⟩:=ghIds_mem as acc
   rw [e]
   refine ⟨h1,fun f caps hm=>?_⟩
   rcases List.mem_cons.1 hm with h | h
   ·exact absurd h.symm (hx f caps)
   ·exact h2 f caps h
  cases x with
  | clo g cs=>
   obtain ⟨h1,h2⟩:=ghIds_mem as (capIds cs acc)
   obtain ⟨k1,k2⟩:=capIds_mem cs acc
   refine ⟨fun b hb=>h1 b (k1 b hb),fun f caps hm p hp=>?_⟩
   rcases List.mem_cons.1 hm with h | h
   ·cases h; exact h1 _ (k2 p hp)
   ·exact h2 f caps h p hp
  | val=>exact other rfl (by simp)
  | bor=>exact other rfl (by simp)
  | own=>exact other rfl (by simp)
  | ref=>exact other rfl (by simp)
  | gh=>exact other rfl (by simp)
theorem posOf_spec {b:Nat}:∀ {l:List Nat},b ∈ l->l[posOf b l]?=some b
 | [],h=>by cases h
 | x :: l,h=>by
  unfold posOf
  split
  ·rename_i hb; rw [Nat.eq_of_beq_eq_true hb]; rfl
  ·rename_i hb
   rcases List.mem_cons.1 h with rfl | h
   ·rw [Nat.beq_refl] at hb; cases hb
   ·simpa using posOf_spec h
theorem renC_spec {gs:List Nat} {n:Nat}:∀ (l:List (Nat × Nat × Nat)),(renC gs n l).length=l.length/\∀ (i b r c:Nat),(renC gs n l)[i]?=some (b,r,c)->∃ b0,l[i]?=some (b0,r,c)/\b=n+posOf b0 gs
 | []=>⟨rfl,by simp [renC]⟩
 | (b0,r0,c0) :: l=>by
  obtain ⟨h1,h2⟩:=renC_spec (gs:=gs) (n:=n) l
  refine ⟨by simp [renC,h1],fun i b r c hi=>?_⟩
  cases i with
  | zero=>simp [renC] at hi; obtain ⟨rfl,rfl,rfl⟩:=hi; exact ⟨b0,rfl,rfl⟩
  | succ i=>simpa using h2 i b r c (by simpa [renC] using hi)
theorem renA_spec {gs:List Nat} {n:Nat}:∀ (as:List Arg),(renA gs n as).length=as.length/\∀ (i:Nat) (y:Arg),(renA gs n as)[i]?=some y->∃ x,as[i]?=some x/\((x=y/\∀ f caps,x ≠ .clo f caps) ∨ ∃ f caps,x=.clo f caps/\y=.clo f (renC gs n caps))
 | []=>⟨rfl,by simp [renA]⟩
 | x :: as=>by
  obtain ⟨h1,h2⟩:=renA_spec (gs:=gs) (n:=n) as
  have hl:(renA gs n (x :: as)).length=(x :: as).length:=by cases x <;> simp [renA,h1]
  refine ⟨hl,fun i y hi=>?_⟩
  cases i with
  | zero=>
   refine ⟨x,rfl,?_⟩
   cases x with
   | clo f caps=>simp [renA] at hi; exact .inr ⟨f,caps,rfl,hi.symm⟩
   | _=>simp [renA] at hi; exact .inl ⟨hi,by simp⟩
  | succ i=>
   obtain ⟨z,e1,e2⟩:=h2 i y (by cases x <;> simpa [renA] using hi)
   exact ⟨z,by simpa using e1,e2⟩
theorem ghosts_spec {h:Hp}:∀ {gs:List Nat} {gas:List Arg},ghosts h gs=some gas->gas.length=gs.length/\∀ (k b:Nat),gs[k]?=some b->∃ ts,gas[k]?=some (.gh ts)/\h b=some (.var (ts.map .t))
 | [],gas,hg=>by simp [ghosts] at hg; subst hg; exact ⟨rfl,by simp⟩
 | b :: gs,gas,hg=>by
  unfold ghosts at hg
  split at hg
  ·rename_i cells hb
   split at hg
   ·rename_i ts as h1 h2
    cases hg
    obtain ⟨e1,e2⟩:=ghosts_spec h2
    refine ⟨by simp [e1],fun k b' hk=>?_⟩
    cases k with
    | zero=>simp at hk; subst hk; exact ⟨ts,rfl,by rw [hb,qby h1 rfl]⟩
    | succ k=>simpa using e2 k b' (by simpa using hk)
   ·cases hg
  ·cases hg
theorem refsL_get:∀ (gs:List Nat),(refsL gs).length=gs.length/\∀ (k b:Nat),gs[k]?=some b->(refsL gs)[k]?=some (.ref b)
 | []=>⟨rfl,by simp⟩
 | g :: gs=>by
  obtain ⟨h1,h2⟩:=refsL_get gs
  refine ⟨by simp [refsL,h1],fun k b hk=>?_⟩
  cases k with
  | zero=>simp at hk; subst hk; rfl
  | succ k=>simpa [refsL] using h2 k b (by simpa using hk)
theorem prepCall_rep (h0:∀ b blk,look st.heap b=some blk->∃ R,β b=some R) {ms:List Mode} {xs:List AV} {vals:List Value} {args:List Arg} {m:List (Nat × Option Blk)} {bks:List Back} (h:Sat K β S st a w)
  (hl:vals.length=xs.length) (hv:∀ (i:Nat) (x:AV),xs[i]?=some x->∃ v,vals[i]?=some v/\VRep β S w x v) (ht:prepCall (look st.heap) ms xs=some (args,m,bks)) :
  ∃ (S':Place) (vals':List Value),(∀ c o,S c o->S' c o)/\Sat K β S' ⟨st.tmps,wrs st.heap m⟩ a w/\Marked st.heap (wrs st.heap m)/\args.length=vals'.length/\bks.length=vals'.length/\vals'.take (nvA args)=vals /\
   ∃ Rs:Nat->Reg,(∀ (i:Nat) (x:Arg),args[i]?=some x->∃ b v,bks[i]?=some b/\vals'[i]?=some v/\Link β st.heap S' w x b (Rs i) v) /\
    ∀ (i:Nat) (f:FuncId) (caps:List (Nat × Nat × Nat)) (v:Value),args[i]?=some (.clo f caps)->vals'[i]?=some v->CRep (βA args Rs) S' w (.clo f caps) v:=by
 unfold prepCall at ht
 split at ht
 ·cases ht
 rename_i as ks bs hp
 obtain ⟨S',hS,h1,hm,hal,hbl,Rs,hlink⟩:=prepArgs_rep h0 ms xs vals st.heap S as ks bs h (Marked.refl _) hl hv hp
 obtain ⟨c1,c2,c3⟩:=prepArgs_clo hp
 have raw:∀ (i:Nat) (f:FuncId) (caps:List (Nat × Nat × Nat)) (v:Value),as[i]?=some (.clo f caps)->vals[i]?=some v->CRep β S' w (.clo f caps) v:=fun i f caps v hi hvi=>by
  obtain ⟨u,e1,e2⟩:=hv i _ (c3 i f caps hi)
  rw [hvi] at e1; cases e1
  cases e2 with | c e2=>exact e2.mono (fun _ _ hx=>hx) hS fun _ _ _=>rfl
 obtain ⟨_,gm⟩:=ghIds_mem as []
 split at ht
 ·rename_i hg
  cases ht
  refine ⟨S',vals,hS,h1,hm,by omega,by omega,by rw [nvA_all c2,List.take_of_length_le (by omega)],Rs,hlink,fun i f caps v hi hvi=>?_⟩
  have r:=raw i f caps v hi hvi
  have hc:caps=[]:=by
   cases caps with
   | nil=>rfl
   | cons p l=>
    have:=gm f (p :: l) (List.mem_of_getElem? hi) p (.head _)
    rw [hg] at this; cases this
  subst hc
  cases r with
  | clo vs e1 e2=>exact .clo vs e1 (by simp)
 ·rename_i g gs hg
  rw [hg] at gm
  obtain ⟨G,hG⟩:∃ G,G=g :: gs:=⟨_,rfl⟩
  rw [<- hG] at ht gm
  split at ht
  ·rename_i gas hgas
   cases ht
   obtain ⟨g1,g2⟩:=ghosts_spec hgas
   obtain ⟨f1,f2⟩:=refsL_get G
   obtain ⟨a1,a2⟩:=renA_spec (gs:=G) (n:=as.length) as
   have hno:∀ x ∈ renA G as.length as,∀ ts,x ≠ .gh ts:=fun x hx ts he=>by
    obtain ⟨i,hi⟩:=List.getElem?_of_mem hx
    obtain ⟨y,e1,e2⟩:=a2 i x hi
    rcases e2 with ⟨rfl,_⟩ | ⟨f,caps,_,rfl⟩
    ·exact c2 y (List.mem_of_getElem? e1) ts he
    ·cases he
   have hRb:∀ (k b:Nat),G[k]?=some b->∃ R,β b=some R:=fun k b hk=>by
    obtain ⟨ts,_,e⟩:=g2 k b hk
    exact h0 b _ e
   obtain ⟨rg,hrg⟩:∃ rg:Nat->Reg,∀ b R,β b=some R->rg b=R:=⟨fun b=>(β b).getD ⟨0,0,0,0⟩,fun b R hb=>by simp [hb]⟩
   have hnv:nvA (renA G as.length as ++ gas)=as.length:=by
    obtain ⟨ts,e1,_⟩:=g2 0 g (by rw [hG]; rfl)
    obtain ⟨x,l,rfl⟩:∃ x l,gas=x :: l:=by
     cases gas with
     | nil=>simp at e1
     | cons x l=>exact ⟨x,l,rfl⟩
    simp at e1; subst e1
    rw [nvA_app hno,a1]
   refine ⟨S',vals ++ G.map fun b=>.pointer (some ⟨(rg b).cb,(rg b).co,none⟩),hS,h1,hm,by simp [a1,g1]; omega,by simp [f1]; omega,by rw [hnv,List.take_append_of_le_length (by omega),List.take_of_length_le (by omega)],
    fun i=>if i < as.length then Rs i else rg (G.getD (i - as.length) 0),fun i x hi=>?_,fun i f caps v hi hvi=>?_⟩
   ·rw [List.getElem?_append] at hi
    split at hi
    ·rename_i hlt
     rw [a1] at hlt
     obtain ⟨y,e1,e2⟩:=a2 i x hi
     obtain ⟨b,v,q1,q2,q3⟩:=hlink i y e1
     refine ⟨b,v,by rw [List.getElem?_append_left (by omega)]; exact q1,by rw [List.getElem?_append_left (by omega)]; exact q2,?_⟩
     simp only [if_pos hlt]
     rcases e2 with ⟨rfl,_⟩ | ⟨f,caps,rfl,rfl⟩
     ·exact q3
     ·cases q3; exact .clo
    ·rename_i hge
     rw [a1] at hge hi
     have hk:=qag hi
     obtain ⟨b,hb⟩:∃ b,G[i - as.length]?=some b:=⟨_,List.getElem?_eq_getElem (by omega)⟩
     obtain ⟨ts,e1,e2⟩:=g2 _ b hb
     obtain ⟨R,hR⟩:=hRb _ b hb
     rw [hi] at e1; cases e1
     refine ⟨.ref b,.pointer (some ⟨(rg b).cb,(rg b).co,none⟩),by rw [List.getElem?_append_right (by omega),hbl,<- c1]; exact f2 _ b hb,by rw [List.getElem?_append_right (by omega),hl,<- c1,List.getElem?_map,hb]; rfl,?_⟩
     have e3:G.getD (i - as.length) 0=b:=by rw [List.getD_eq_getElem?_getD,hb]; rfl
     simp only [if_neg hge,e3]
     rw [hrg b R hR]
     exact .gh e2 hR rfl
   ·rw [List.getElem?_append] at hi
    split at hi
    ·rename_i hlt
     rw [a1] at hlt
     obtain ⟨y,e1,e2⟩:=a2 i _ hi
     rcases e2 with ⟨rfl,e2⟩ | ⟨f',raw',rfl,e2⟩
     ·exact absurd rfl (e2 f caps)
     ·cases e2
      rw [List.getElem?_append_left (by omega)] at hvi
      have r:=raw i f raw' v e1 hvi
      obtain ⟨l1,l2⟩:=renC_spec (gs:=G) (n:=as.length) raw'
      cases r with
      | clo vs q1 q2=>
       refine .clo vs (by rw [l1]; exact q1) fun j b r c hj=>?_
       obtain ⟨b0,k1,rfl⟩:=l2 j b r c hj
       obtain ⟨R,k2,k3⟩:=q2 j b0 r c k1
       refine ⟨R,?_,k3⟩
       have hm0:=posOf_spec (gm f raw' (List.mem_of_getElem? e1) _ (List.mem_of_getElem? k1))
       obtain ⟨ts,m1,m2⟩:=g2 _ b0 hm0
       have e3:G.getD (as.length+posOf b0 G - as.length) 0=b0:=by rw [Nat.add_sub_cancel_left,List.getD_eq_getElem?_getD,hm0]; rfl
       unfold βA
       rw [List.getElem?_append_right (by omega),a1,Nat.add_sub_cancel_left,m1]
       simp only [Option.bind_some,Arg.blk,Option.isSome_some,if_true]
       rw [if_neg (by omega),e3,hrg b0 R k2]
    ·rename_i hge
     obtain ⟨b,hb⟩:∃ b,G[i - (renA G as.length as).length]?=some b:=⟨_,List.getElem?_eq_getElem (by have:=qag hi; omega)⟩
     obtain ⟨ts,e1,_⟩:=g2 _ b hb
     rw [hi] at e1; cases e1
  ·cases ht
theorem call_sound (h:Sat K β S st a w) {avs:List AV} {vals:List Value} (hl:vals.length=avs.length) (hv:∀ (i:Nat) (x:AV),avs[i]?=some x->∃ v,vals[i]?=some v/\VRep β S w x v)
  {ms:List Mode} {args:List Arg} {marks:List (Nat × Option Blk)} {bks:List Back} (hp:prepCall (look st.heap) ms avs=some (args,marks,bks)) {res:Res} (hc:ACall P f args res)
  (hs:slot+2<=st.heap.length) (hf:∀ b,slot<=b->b < slot+2->β b=none) (he:callEff (look st.heap) slot marks bks res=some e) :
  Calls P f vals.toArray w fun en w'=>∃ v β' S',en=.returned v/\(∀ b,b < slot ∨ slot+2<=b->β' b=β b)/\Sat K β' S' ⟨st.tmps,wrs st.heap e.wr⟩ a w'/\VRep β' S' w' e.val v:=by
 obtain ⟨S1,vals',hS1,h1,hm,hal,hbl,htake,Rs,hlink,hclo⟩:=prepCall_rep (fun b blk hb=>by obtain ⟨R,hR,_⟩:=h.blk b blk hb; exact ⟨R,hR⟩) h hl hv hp
 rw [<- htake]
 clear htake hl hv
 generalize vals'=vals at *
 unfold callEff at he
 simp only at he
 split at he
 ·rename_i hsc
  simp only [Bool.and_eq_true,List.isEmpty_iff] at hsc
  obtain ⟨hsc,hids⟩:=hsc
  cases he
  have hnoid:∀ (i:Nat) (b:Back),bks[i]?=some b->b.id=none:=by
   intro i b hb
   cases hbi:b.id with
   | none=>rfl
   | some bi=>
    have:bi ∈ bks.filterMap Back.id:=List.mem_filterMap.2 ⟨b,List.mem_of_getElem? hb,hbi⟩
    rw [hids] at this; cases this
  have hlink2:∀ (i:Nat) (x:Arg),args[i]?=some x->∃ b v,bks[i]?=some b/\vals[i]?=some v/\Link β (wrs st.heap marks) S1 w x b (Rs i) v:=by
   intro i x hi
   obtain ⟨b,v,e1,e2,e3⟩:=hlink i x hi
   exact ⟨b,v,e1,e2,e3.heap fun bi hb=>by rw [hnoid i b e1] at hb; cases hb⟩
  have hpre:=callPre_of h1 (by omega) (by rw [hids]; simp) hlink2 hclo
  have hnl:∀ c o,¬ Lent args Rs c o:=by
   rintro c o ⟨i,x,blk,e1,e2,e3⟩
   obtain ⟨b,v,f1,f2,f3⟩:=hlink2 i x e1
   rcases (f3.blkOk h1).2 blk e2 with ⟨bi,B,RB,g1,_⟩ | ⟨_,g⟩
   ·rw [hnoid i b f1] at g1; cases g1
   ·exact g c o e3
  refine (hc.2 S1 w vals Rs hpre).mono ?_
  rintro en w' ⟨v,rfl,⟨S',Rr,vs,p1,p2,p3,p4,p5,p6,_⟩⟩
  have hk:Keep (fun _ _=>False) w w':=p3.mono fun c o _ hx=>absurd hx (hnl c o)
  refine ⟨v,β,S,rfl,fun _ _=>rfl,?_,?_⟩
  ·exact h.step (fun _=>False) hk (fun _ _ hx=>hx.elim) (fun _ _ hx=>hx) h.top (fun _ _ hx=>hx) (fun _ _ hx=>.inl hx) (fun _ _ _ hx=>hx) (fun _ _ hx=>hx.elim)
  ·obtain ⟨q1,q2⟩:=resAVs_vals res.vals slot hsc
   rw [p2]
   refine one1_rep (by omega) fun i x hi=>?_
   obtain ⟨tv,r1,rfl,r3⟩:=q2 i x hi
   obtain ⟨u,s1,s2⟩:=p6 i _ r1
   exact ⟨u,s1,scalar_rep r3 s2⟩
 ·split at he
  ·cases he
  ·rename_i hchk
   simp only [Bool.or_eq_true,not_or,Bool.not_eq_true',Bool.not_eq_false] at hchk
   obtain ⟨⟨hc1,hc2⟩,hc3⟩:=hchk
   have hnd:(bks.filterMap Back.id).Nodup:=by simpa using hc2
   have hcnt:(res.vals.filter RC.isOwn).length<=2:=by simpa using hc3
   have hnm:∀ i ∈ bks.filterMap Back.id,i ∉ ids marks:=by
    intro i hi
    have:=List.all_eq_true.1 hc1 i hi
    simpa using this
   split at he
   ·rename_i bw hbw
    cases he
    have hidlt:∀ i ∈ bks.filterMap Back.id,i < (wrs st.heap marks).length:=by
     intro i hi
     obtain ⟨b,hb,hbi⟩:=List.mem_filterMap.1 hi
     obtain ⟨k,hk⟩:=List.getElem?_of_mem hb
     have hkl:=qag hk
     obtain ⟨b',v,e1,e2,e3⟩:=hlink k (args[k]'(by omega)) (List.getElem?_eq_getElem _)
     rw [hk] at e1; cases e1
     rw [qa7]
     generalize args[k]=x at e3
     generalize Rs k=Rk at e3
     cases e3 with
     | val=>cases hbi
     | bor g1=>cases hbi; exact qaw g1
     | own g1=>cases hbi; exact qaw g1
     | nil=>cases hbi
     | ref g1=>cases hbi; exact qaw g1
     | clo=>cases hbi
     | gh g1=>cases hbi; exact qaw g1
    have hlink2:∀ (i:Nat) (x:Arg),args[i]?=some x->∃ b v,bks[i]?=some b/\vals[i]?=some v/\Link β (wrs st.heap marks) S1 w x b (Rs i) v:=by
     intro i x hi
     obtain ⟨b,v,e1,e2,e3⟩:=hlink i x hi
     exact ⟨b,v,e1,e2,e3.heap fun bi hb=>qan marks st.heap (hnm bi (List.mem_filterMap.2 ⟨b,List.mem_of_getElem? e1,hb⟩))⟩
    have hpre:=callPre_of h1 (by omega) hnd hlink2 hclo
    obtain ⟨bs1,bs2,bs3⟩:=backWr_spec bks res.out bw (wrs st.heap marks) hbw hnd hidlt
    have hlent:∀ c o,Lent args Rs c o->∃ (i:Nat) (x:Arg) (b:Back) (v:Value) (blk:Blk) (bi:Nat) (B:Blk) (RB:Reg),args[i]?=some x/\bks[i]?=some b/\Link β (wrs st.heap marks) S1 w x b (Rs i) v/\x.blk=some blk/\b.id=some bi/\look (wrs st.heap marks) bi=some B/\β bi=some RB/\blk.ext (Rs i) c o/\B.ext RB c o/\B.wr RB c o:=by
     rintro c o ⟨i,x,blk,e1,e2,e3⟩
     obtain ⟨b,v,f1,f2,f3⟩:=hlink2 i x e1
     rcases (f3.blkOk h1).2 blk e2 with ⟨bi,B,RB,g1,g2,g3,g4,g5⟩ | ⟨_,g⟩
     ·refine ⟨i,x,b,v,blk,bi,B,RB,e1,f1,f3,e2,g1,g2,g3,e3,g4 c o e3,g5 c o ?_⟩
      obtain ⟨q1,q2⟩:=e3
      cases x with
      | val=>cases e2
      | bor sz rows=>cases e2; exact ⟨q1,by simpa using q2⟩
      | own sz rows=>cases e2; exact ⟨q1,by simpa using q2⟩
      | ref cells=>cases e2; exact ⟨q1,q2⟩
      | clo=>cases e2
      | gh cells=>cases e2; exact ⟨q1,q2⟩
     ·exact absurd e3 (g c o)
    refine (hc.2 S1 w vals Rs hpre).mono ?_
    rintro en w' ⟨v,rfl,⟨S',Rr,vs,p1,p2,p3,p4,p5,p6,p7,p8,p9⟩⟩
    have hwS:∀ c o,S1 c o->w'.cell? ⟨c,o,none⟩=w.cell? ⟨c,o,none⟩:=fun c o hs1=>(p3.cell (h1.sex c o hs1) fun hx=>by
     obtain ⟨i,x,b,v,blk,bi,B,RB,_,_,_,_,_,g2,g3,_,_,g6⟩:=hlent c o hx
     obtain ⟨R',k1,_,_,k4⟩:=h1.blk bi B g2
     rw [g3] at k1; cases k1
     exact k4 c o g6 hs1).1
    have hback:∀ b blk,look (wrs (wrs st.heap marks) bw) b=some blk->∃ B,look (wrs st.heap marks) b=some B/\∀ R c o,blk.ext R c o->B.ext R c o:=by
     intro b blk hb
     by_cases hD:b ∈ bks.filterMap Back.id
     ·obtain ⟨bk,hbk,hbi⟩:=List.mem_filterMap.1 hD
      obtain ⟨i,hi⟩:=List.getElem?_of_mem hbk
      have hil:=qag hi
      obtain ⟨b',u,l1,l2,l3⟩:=hlink2 i (args[i]'(by omega)) (List.getElem?_eq_getElem _)
      rw [hi] at l1; cases l1
      obtain ⟨ob,ho1,ho2⟩:=bs3 i bk hi
      generalize args[i]=x at l3
      generalize Rs i=Ri at l3
      cases l3 with
      | val=>cases hbi
      | nil=>cases hbi
      | own g1=>cases hbi; rw [show look (wrs (wrs st.heap marks) bw) b=none from ho2] at hb; cases hb
      | bor g1 g2 g3 g4=>
       cases hbi
       obtain ⟨sz',r,rows',g',q1,q2,q3,q4⟩:=ho2
       rw [q4] at hb; cases hb
       rw [qan marks st.heap (hnm b hD),q2] at g1; cases g1
       refine ⟨_,by rw [qan marks st.heap (hnm b hD)]; exact q2,fun R c o hx=>?_⟩
       rw [Blk.ext,qa2 _ _ _ (by omega)] at hx; exact hx
      | ref g1 g2 g3=>
       cases hbi
       obtain ⟨cs,old,q1,q2,q3,q4⟩:=ho2
       rw [q4] at hb; cases hb
       refine ⟨_,by rw [qan marks st.heap (hnm b hD)]; exact q2,fun R c o hx=>?_⟩
       rw [Blk.ext,q3] at hx; exact hx
      | clo=>cases hbi
      | gh g1 g2 g3=>
       cases hbi
       obtain ⟨cs,old,q1,q2,q3,q4⟩:=ho2
       rw [q4] at hb; cases hb
       refine ⟨_,by rw [qan marks st.heap (hnm b hD)]; exact q2,fun R c o hx=>?_⟩
       rw [Blk.ext,q3] at hx; exact hx
     ·rw [bs2 b hD] at hb
      exact ⟨blk,hb,fun _ _ _ hx=>hx⟩
    have hpack:∀ b blk,b ∈ bks.filterMap Back.id->look (wrs (wrs st.heap marks) bw) b=some blk->∃ RB,β b=some RB/\BlkOk β S' w' K.B0 RB blk/\(∀ c o,blk.wr RB c o->¬ S' c o) /\
      (∀ c o,blk.ext RB c o->Lent args Rs c o->∀ (k sz:Nat) (rows:List (List Tree)),res.vals[k]?=some (.own sz rows)->¬ (Blk.rows sz rows true false).ext (Rr k) c o):=by
     intro b blk hD hb
     obtain ⟨bk,hbk,hbi⟩:=List.mem_filterMap.1 hD
     obtain ⟨i,hi⟩:=List.getElem?_of_mem hbk
     have hil:=qag hi
     obtain ⟨x,hxi⟩:∃ x,args[i]?=some x:=⟨_,List.getElem?_eq_getElem (by omega)⟩
     obtain ⟨b',u,l1,l2,l3⟩:=hlink2 i x hxi
     rw [hi] at l1; cases l1
     obtain ⟨ob,ho1,ho2⟩:=bs3 i bk hi
     obtain ⟨B,hB1,hB2⟩:=hback b blk hb
     obtain ⟨RB,k1,k2,k3,k4⟩:=h1.blk b B hB1
     have honly:∀ c o,B.ext RB c o->Lent args Rs c o->∃ bl,x.blk=some bl/\bl.ext (Rs i) c o:=by
      intro c o hx hn
      obtain ⟨j,x',bj,u',bl,bi,B',RB',n1,n2,n3,n4,n5,n6,n7,n8,n9,_⟩:=hlent c o hn
      have hbb:bi=b:=by
       rcases Decidable.em (bi=b) with h | h
       ·exact h
       ·exact absurd hx (h1.dis bi b B' B RB' RB h n6 hB1 n7 k1 c o n9)
      subst hbb
      have hij:=nodup_idx bks j i bj bk hnd n2 hi n5 hbi
      subst hij
      rw [hxi] at n1; cases n1
      exact ⟨bl,n4,n8⟩
     have hS':∀ c o,S' c o->B.ext RB c o->S1 c o ∨ Lent args Rs c o:=by
      intro c o hs' hx
      rcases p5 c o hs' with h | ⟨_,h | h⟩
      ·exact .inl h
      ·have:=(k3 c o hx).1; omega
      ·exact .inr h
     generalize hRi:Rs i=Ri at l3
     cases l3 with
     | val=>cases hbi
     | nil=>cases hbi
     | own g1=>cases hbi; rw [show look (wrs (wrs st.heap marks) bw) b=none from ho2] at hb; cases hb
     | bor g1 g2 g3 g4=>
      rename_i sz off len rows g R0
      cases hbi
      rw [k1] at g2; cases g2
      obtain ⟨sz',r,rows',g',q1,q2,q3,q4⟩:=ho2
      subst q1
      rw [q4] at hb; cases hb
      rw [g1] at hB1; cases hB1
      rw [qan marks st.heap (hnm b hD),q2] at g1; cases g1
      obtain ⟨arg,b0,a0,a0',a1,a2,a3,a4⟩:=p9 i _ ho1
      rw [hxi] at a0; cases a0
      cases a0'
      rw [hRi] at a1 a2 a3 a4 honly
      obtain ⟨z0,z1,z2,z3,z4,z5,z6,z7⟩:=k2
      obtain ⟨y0,y1,y2,y3,y4,y5,y6,y7⟩:=a2
      have hcl:((rows.drop off).take len).length=len:=by rw [List.length_take,List.length_drop]; omega
      have hsl:=qa2 rows r off (by omega)
      have hlx:∀ (s o:Nat),RB.co+off*RB.stride<=o->o < RB.co+off*RB.stride+len*RB.stride->(Blk.rows s r false false).ext ⟨RB.cb,RB.co+off*RB.stride,RB.stride,RB.cap - off⟩ RB.cb o:=fun s o h1 h2=>⟨rfl,h1,by simp only [Bool.false_eq_true,if_false]; rw [q3]; exact h2⟩
      have honly2:∀ (s c o:Nat),(Blk.rows s rows g false).ext RB c o->Lent args Rs c o->c=RB.cb/\RB.co+off*RB.stride<=o/\o < RB.co+off*RB.stride+len*RB.stride:=by
       intro s c o hx hn
       obtain ⟨bl,m1,m2⟩:=honly c o hx hn
       cases m1
       obtain ⟨m3,m4,m5⟩:=m2
       simp only [Bool.false_eq_true,if_false,hcl] at m4 m5
       exact ⟨m3,m4,m5⟩
      refine ⟨RB,k1,⟨z0,fun row hrow=>?_,by rw [hsl]; exact z2,z3,by rw [hsl]; exact z4,by rw [hsl]; exact p3.there z5,fun p j t ht=>?_,by simp⟩,fun c o hy hs'=>?_,fun c o hy hn k sz2 rows2 hk=>?_⟩
      ·obtain ⟨k,hk⟩:=List.getElem?_of_mem hrow
       rw [qa5 _ _ _ _ (by omega)] at hk
       split at hk
       ·exact y1 row (List.mem_of_getElem? hk)
       ·exact z1 row (List.mem_of_getElem? hk)
      ·obtain ⟨row,f1,f2,f3,f4⟩:=at2_lt ht
       rw [qa5 _ _ _ _ (by omega)] at f1
       split at f1
       ·rename_i hin
        obtain ⟨v,m1,m2⟩:=y6 _ _ _ (qas f1 f2)
        refine ⟨v,?_,m2⟩
        simp only at m1
        have hpp:p*RB.stride=off*RB.stride+(p - off)*RB.stride:=by rw [<- Nat.add_mul]; congr 1; omega
        rw [show RB.co+p*RB.stride+j=RB.co+off*RB.stride+(p - off)*RB.stride+j by omega]
        exact m1
       ·rename_i hin
        have ht':=qas f1 f2
        obtain ⟨v,m1,m2⟩:=z6 _ _ _ ht'
        obtain ⟨m3,m4,m5⟩:=at2_in z1 ht'
        have hm2:rows.length*RB.stride<=(if g=true then RB.cap else rows.length)*RB.stride:=Nat.mul_le_mul_right _ (by split <;> omega)
        have hex:(Blk.rows 0 rows g false).ext RB RB.cb (RB.co+p*RB.stride+j):=⟨rfl,by omega,by omega⟩
        refine ⟨v,?_,m2.mono p4 hwS⟩
        rw [(p3.cell (k3 _ _ hex).1 fun hn=>?_).1]
        ·exact m1
        ·obtain ⟨_,n1,n2⟩:=honly2 _ _ _ hex hn
         rcases Nat.lt_or_ge p off with h10 | h10
         ·have:=Nat.mul_le_mul_right RB.stride (show p+1<=off by omega)
          rw [Nat.succ_mul] at this; omega
         ·have:=Nat.mul_le_mul_right RB.stride (show off+len<=p by omega)
          rw [Nat.add_mul] at this; omega
      ·have hxB:(Blk.rows _ rows g false).ext RB c o:=hB2 RB c o (Blk.wr_ext hy)
       rcases hS' c o hs' hxB with h | h
       ·refine k4 c o ?_ h
        obtain ⟨n1,n2,n3⟩:=hxB
        exact ⟨n1,by simpa using n2,n3⟩
       ·obtain ⟨rfl,n1,n2⟩:=honly2 _ c o hxB h
        obtain ⟨n3,n4,n5⟩:=hlx 0 o n1 n2
        exact a3 _ _ ⟨n3,by simpa using n4,n5⟩ hs'
      ·have hxB:(Blk.rows _ rows g false).ext RB c o:=hB2 RB c o hy
       obtain ⟨rfl,n1,n2⟩:=honly2 _ c o hxB hn
       exact a4 k sz2 rows2 hk _ _ (hlx _ o n1 n2)
     | ref g1 g2 g3=>
      rename_i ts
      cases hbi
      rw [k1] at g2; cases g2
      obtain ⟨cs,old,q1,q2,q3,q4⟩:=ho2
      subst q1
      rw [q4] at hb; cases hb
      rw [g1] at hB1; cases hB1
      rw [qan marks st.heap (hnm b hD),q2] at g1; cases g1
      obtain ⟨arg,b0,a0,a0',a1,a2,a3,a4⟩:=p9 i _ ho1
      rw [hRi] at a1 a2 a3 a4
      refine ⟨RB,k1,a2.var_noβ,a3,fun c o hy hn k sz2 rows2 hk=>a4 k sz2 rows2 hk c o hy⟩
     | clo=>cases hbi
     | gh g1 g2 g3=>
      rename_i ts
      cases hbi
      rw [k1] at g2; cases g2
      obtain ⟨cs,old,q1,q2,q3,q4⟩:=ho2
      subst q1
      rw [q4] at hb; cases hb
      rw [g1] at hB1; cases hB1
      rw [qan marks st.heap (hnm b hD),q2] at g1; cases g1
      obtain ⟨arg,b0,a0,a0',a1,a2,a3,a4⟩:=p9 i _ ho1
      rw [hRi] at a1 a2 a3 a4
      refine ⟨RB,k1,a2.var_noβ,a3,fun c o hy hn k sz2 rows2 hk=>a4 k sz2 rows2 hk c o hy⟩
    have h2:Sat K β S' ⟨st.tmps,wrs (wrs st.heap marks) bw⟩ a w':=by
     refine h1.step (fun b=>b ∈ bks.filterMap Back.id) p3 (fun c o hx hlt=>?_) (fun _ _ hx=>hx) (fun b R hb=>by rw [qa7]; exact h1.top b R hb) p4 (fun c o hs'=>?_) (fun b blk hD hb=>by rw [bs2 b hD] at hb; exact hb) (fun b blk hD hb=>?_)
     ·obtain ⟨i,x,b,v,blk,bi,B,RB,_,g0,_,_,g1,g2,g3,_,g5,g6⟩:=hlent c o hx
      obtain ⟨R',k1,_,k3,k4⟩:=h1.blk bi B g2
      rw [g3] at k1; cases k1
      refine ⟨k4 c o g6,(k3 c o g5).2,fun b' blk' R' hD hb' hR' hy=>?_⟩
      have hne:bi ≠ b':=by rintro rfl; exact hD (List.mem_filterMap.2 ⟨b,List.mem_of_getElem? g0,g1⟩)
      exact h1.dis bi b' B blk' RB R' hne g2 hb' g3 hR' c o g5 hy
     ·rcases p5 c o hs' with hs1 | ⟨hlt,hn⟩
      ·exact .inl hs1
      ·refine .inr ⟨hlt,?_,fun b' blk' R' hD hb' hR' hy=>?_⟩
       ·rcases hn with hn | hn
        ·exact .inl (by have:=h.keep.size; unfold Ctx.B0; omega)
        ·obtain ⟨i,x,b,v,blk,bi,B,RB,_,_,_,_,_,g2,g3,_,g5,_⟩:=hlent c o hn
         obtain ⟨R',k1,_,k3,_⟩:=h1.blk bi B g2
         rw [g3] at k1; cases k1
         exact (k3 c o g5).2
       ·rcases hn with hn | hn
        ·obtain ⟨R'',k1,_,k3,_⟩:=h1.blk b' blk' hb'
         rw [hR'] at k1; cases k1
         have:=(k3 c o (Blk.wr_ext hy)).1
         omega
        ·obtain ⟨i,x,b,v,blk,bi,B,RB,_,g0,_,_,g1,g2,g3,_,g5,_⟩:=hlent c o hn
         have hne:bi ≠ b':=by rintro rfl; exact hD (List.mem_filterMap.2 ⟨b,List.mem_of_getElem? g0,g1⟩)
         exact h1.dis bi b' B blk' RB R' hne g2 hb' g3 hR' c o g5 (Blk.wr_ext hy)
     ·obtain ⟨B,hB1,hB2⟩:=hback b blk hb
      obtain ⟨RB,k1,k2,k3,k4⟩:=h1.blk b B hB1
      obtain ⟨RB',t1,t2,t3,_⟩:=hpack b blk hD hb
      rw [k1] at t1; cases t1
      refine ⟨RB,k1,t2,fun c o hx=>⟨Nat.lt_of_lt_of_le (k3 c o (hB2 _ c o hx)).1 p3.size,(k3 c o (hB2 _ c o hx)).2⟩,t3,fun b'' blk'' R'' hne hb'' hR'' c o hx hy=>?_⟩
      obtain ⟨B'',m1,m2⟩:=hback b'' blk'' hb''
      exact h1.dis b b'' B B'' RB R'' (Ne.symm hne) hB1 m1 k1 hR'' c o (hB2 _ c o hx) (m2 _ c o hy)
    have hWn:∀ c o,w.heap.size<=c ∨ Lent args Rs c o->K.B0<=c ∨ K.W c o:=by
     rintro c o (hn | hn)
     ·exact .inl (by have:=h.keep.size; unfold Ctx.B0; omega)
     ·obtain ⟨i,x,b,v,blk,bi,B,RB,_,_,_,_,_,g2,g3,_,g5,_⟩:=hlent c o hn
      obtain ⟨R',k1,_,k3,_⟩:=h1.blk bi B g2
      rw [g3] at k1; cases k1
      exact (k3 c o g5).2
    obtain ⟨β',e1,e2,e3,e4,e5⟩:=adoptAll (st:=st) res.vals vs 0 Rr slot β _ h2 (by omega) (fun k r hk=>by
      obtain ⟨u,q1,q2⟩:=p6 k r hk
      exact ⟨u,q1,by rw [Nat.zero_add]; exact q2⟩) (by rw [qa7,qa7]; omega) (fun b h1 h2=>hf b h1 (by omega))
     (fun k sz rows hk=>by
      rw [Nat.zero_add]
      obtain ⟨q1,q2⟩:=p7 k sz rows hk
      exact ⟨fun c o hx=>⟨(q1 c o hx).1,hWn c o (q1 c o hx).2⟩,q2⟩)
     (fun k j sz sz' rows rows' hne hk hj=>by rw [Nat.zero_add,Nat.zero_add]; exact p8 k j sz sz' rows rows' hne hk hj)
     (fun k sz rows hk b blk' R' hb hR c o hx hy=>by
      rw [Nat.zero_add] at hy
      obtain ⟨B,hB1,hB2⟩:=hback b blk' hb
      obtain ⟨RB,k1,k2,k3,k4⟩:=h1.blk b B hB1
      rw [hR] at k1; cases k1
      rcases ((p7 k sz rows hk).1 c o hy).2 with hn | hn
      ·have:=(k3 c o (hB2 _ c o hx)).1; omega
      ·by_cases hD:b ∈ bks.filterMap Back.id
       ·obtain ⟨RB',t1,_,_,t4⟩:=hpack b blk' hD hb
        rw [hR] at t1; cases t1
        exact t4 c o hx hn k sz rows hk hy
       ·obtain ⟨i,x,bj,v,bl,bi,B',RB',_,g0,_,_,g1,g2,g3,_,g5,_⟩:=hlent c o hn
        have hne:bi ≠ b:=by rintro rfl; exact hD (List.mem_filterMap.2 ⟨bj,List.mem_of_getElem? g0,g1⟩)
        exact h1.dis bi b B' B RB' R' hne g2 hB1 g3 hR c o g5 (hB2 _ c o hx))
    refine ⟨v,β',S',rfl,fun b hb=>e1 b (by omega),by rw [qat,qat]; exact e3,?_⟩
    rw [p2]
    exact one1_rep (by omega) e5
   ·cases he
end
theorem treesOf_spec:∀ {cs:List Cell} {ts:List Tree},treesOf cs=some ts->ts.length=cs.length/\∀ (j:Nat) (t:Tree),ts[j]?=some t->cs[j]?=some (.t t)
 | [],ts,h=>by simp [treesOf] at h; subst h; simp
 | c :: cs,ts,h=>by
  cases c with
  | t x=>
   simp only [treesOf,Option.map_eq_some_iff] at h
   obtain ⟨ts',h1,rfl⟩:=h
   obtain ⟨h2,h3⟩:=treesOf_spec h1
   refine ⟨by simp [h2],fun j t hj=>?_⟩
   cases j with
   | zero=>simp at hj; subst hj; rfl
   | succ j=>simpa using h3 j t (by simpa using hj)
  | _=>simp [treesOf] at h
section
variable {P:Program} {C:Cfg} {K:Ctx} {β:Nat->Option Reg} {S:Place} {st:St} {a:Act} {w:World} {slot:Nat} {e:Eff} {o:Oper}
theorem Sat.freezeVar (h:Sat K β S st a w) {b:Nat} {cells:List Cell} (hb:look st.heap b=some (.var cells)) :
  ∃ S',(∀ c o,S c o->S' c o)/\Sat K β S' ⟨st.tmps,st.heap.set b none⟩ a w/\∀ R,β b=some R->∀ o,R.co<=o->o < R.co+cells.length->S' R.cb o:=by
 obtain ⟨R,hR,hok,hx,hwr⟩:=h.blk b _ hb
 have hlt:=qaw hb
 let S':Place:=fun c o=>S c o ∨ (c=R.cb/\R.co<=o/\o < R.co+cells.length)
 have hSS:∀ c o,S c o->S' c o:=fun _ _ hx=>.inl hx
 have hin:∀ c o,S' c o->S c o ∨ (Blk.var cells).ext R c o:=by
  rintro c o (hs | ⟨e1,e2,e3⟩)
  ·exact .inl hs
  ·exact .inr ⟨e1,e2,by omega⟩
 refine ⟨S',hSS,?_,fun R' hR' o e1 e2=>by rw [hR] at hR'; cases hR'; exact .inr ⟨rfl,e1,e2⟩⟩
 refine h.step (Wr:=fun _ _=>False) (fun b'=>b'=b) (Keep.refl _ _) (fun _ _ hx=>hx.elim) (fun _ _ hx=>hx) (fun b' R' hb'=>by simpa using h.top b' R' hb') hSS (fun c o hs=>?_) (fun b' blk' hD hb'=>?_) (fun b' blk' hD hb'=>?_)
 ·rcases hin c o hs with hs | hs
  ·exact .inl hs
  ·refine .inr ⟨(hx c o hs).1,(hx c o hs).2,fun b' blk' R' hD hb' hR' hy=>?_⟩
   exact h.dis b b' _ blk' R R' (Ne.symm hD) hb hb' hR hR' c o hs (Blk.wr_ext hy)
 ·rw [qac hD] at hb'; exact hb'
 ·subst hD
  rw [qae (by simpa using hlt)] at hb'; cases hb'
theorem d_slice (hC:CfgOk P C) (h:Sat K β S st a w) {t:TypeId} {x:Operand} {lo hi mx:Option Operand} (ho:o.op=.slice t x lo hi mx)
  (he:evSlice C (look st.heap) t (st.get x) (lo.map st.get) (hi.map st.get) (mx.map st.get)=some e):Does P K β S st a w slot o e:=by
 by_cases hna:∀ ti n el,C.ty t=some ti->ti.kind ≠ .array n el
 ·exact (q_slice hC h ho hna he).does h
 have hex:∃ ti n el,C.ty t=some ti/\ti.kind=.array n el:=by
  apply Classical.byContradiction
  intro hc
  exact hna fun ti n el h1 h2=>hc ⟨ti,n,el,h1,h2⟩
 obtain ⟨ti,n,el,hti,hk⟩:=hex
 have hty:=qah (hC t ti hti)
 have hx:=h.get x
 unfold evSlice at he
 simp only [hti] at he
 split at he
 ·rename_i l hi' m hl hh hm
  have bl:=BoundIs.low h hl
  have bh:=BoundIs.of h hh
  have bm:=BoundIs.of h hm
  split at he
  ·rename_i hk' _; rw [hk] at hk'; cases hk'
  ·rename_i hk' _; rw [hk] at hk'; cases hk'
  ·rename_i hk' _; rw [hk] at hk'; cases hk'
  ·rename_i n' el' b r c hk' hg
   rw [hk] at hk'; cases hk'
   rw [hg] at hx
   cases hx with | c hx=>
   generalize hav:a.eval x=av at hx
   cases hx with | ptr R hR=>
   split at he
   ·rename_i cells te hb hte
    split at he
    ·rename_i hc
     obtain ⟨rfl,rfl,rfl,e0,e1,rfl,hsz,hlen,hn⟩:=hc
     split at he
     ·rename_i ts hts
      cases he
      obtain ⟨t1,t2⟩:=treesOf_spec hts
      have htye:=qah (hC _ te hte)
      obtain ⟨R',hR',hok,_⟩:=h.blk b _ hb
      rw [hR] at hR'; cases hR'
      obtain ⟨S',hSS,hsat,hcon⟩:=h.freezeVar hb
      have hmn:mx.map a.eval=none:=by
       cases hmx:mx.map a.eval with
       | none=>rfl
       | some v=>rw [hmx] at bm; exact bm.elim
      have hrun:=run_bounds (P:=P) (w:=w) (isSlice:=false) (len:=n) (cap:=n) (mx:=none) (m:=none) bl bh trivial (by simp) (by omega) e0 (by simpa using e1) (by simp)
      obtain ⟨k,hk2⟩:∃ k,k=(hi'.getD (n:Int)).toNat:=⟨_,rfl⟩
      have hkn:k<=n:=by omega
      let rows:List (List Tree):=(ts.take k).map fun t=>[t]
      have hrl:rows.length=k:=by simp only [rows,List.length_map,List.length_take,t1,hlen]; omega
      have hat:∀ i j t,at2 rows i j=some t->j=0/\i < k/\ts[i]?=some t:=by
       intro i j t ht
       obtain ⟨row,h1,h2,_,_⟩:=at2_lt ht
       simp only [rows,List.getElem?_map,Option.map_eq_some_iff] at h1
       obtain ⟨u,h3,rfl⟩:=h1
       rw [List.getElem?_take] at h3
       split at h3
       ·rename_i hik
        cases j with
        | zero=>simp at h2; subst h2; exact ⟨rfl,hik,h3⟩
        | succ j=>simp at h2
       ·cases h3
      have hex2:∃ val:Nat->Nat->Value,∀ i j t,at2 rows i j=some t->w.cell? ⟨R.cb,R.co+i*1+j,none⟩=some (val i j)/\TRep S' w t (val i j):=by
       have:∀ i j,∃ v,∀ t,at2 rows i j=some t->w.cell? ⟨R.cb,R.co+i*1+j,none⟩=some v/\TRep S' w t v:=by
        intro i j
        cases ht:at2 rows i j with
        | none=>exact ⟨undef,by simp⟩
        | some t=>
         obtain ⟨rfl,hik,h3⟩:=hat i j t ht
         obtain ⟨v,a1,a2⟩:=hok.2 i _ (t2 i t h3)
         cases a2 with | t a2=>
         exact ⟨v,fun t' ht'=>by cases ht'; exact ⟨by simpa using a1,a2.mono hSS fun _ _ _=>rfl⟩⟩
       exact ⟨fun i j=>(this i j).choose,fun i j t ht=>(this i j).choose_spec t ht⟩
      obtain ⟨val,hval⟩:=hex2
      have hT:TRep S' w (.lst false rows) (.slice (some ⟨R.cb,R.co,none⟩) rows.length n):=
       .lst false rows _ R.cb R.co 1 n val (by omega) (by omega) (by omega) (fun hf=>by cases hf) (fun _=>rfl) (fun hf=>by cases hf) (fun r hr=>by
        obtain ⟨u,_,rfl⟩:=List.mem_map.1 hr; rfl) (fun i j t ht=>by
        obtain ⟨rfl,hik,_⟩:=hat i j t ht
        exact ⟨hcon R hR _ (by omega) (by omega),(hval i 0 t ht).1⟩) (fun i j t ht=>(hval i j t ht).2)
      refine ⟨w,β,S',.slice (some ⟨R.cb,R.co,none⟩) rows.length n,_,?_,.inl rfl,fun _ _=>rfl,by simpa [wrs] using hsat,?_⟩
      ·simp only [execOp,ho,Instr.sliceAt,Instr.sureAddr,run_underlying (hty.array hk),Sem.run_bind,Sem.run_pure,Result.andThen,hav,hmn,hrun,htye.sizeOf,Option.getD_none]
       have hz:Int.toNat 0=0:=rfl
       have e2:(⟨R.cb,R.co+0*R.stride+0,none⟩:Addr)=⟨R.cb,R.co,none⟩:=by simp
       have e3:(⟨R.cb,R.co,none⟩:Addr).add (0*te.size)=⟨R.cb,R.co,none⟩:=by rw [Nat.zero_mul]; simp [Addr.add]
       rw [hz,e2,e3,hrl,hk2,Int.toNat_natCast,Nat.sub_zero,Nat.sub_zero]
       split <;> rfl
      ·rw [<- hk2]
       exact .c (.t hT)
     ·cases he
    ·cases he
   ·cases he
  ·cases he
 ·cases he
end
section
variable {P:Program} {C:Cfg} {K:Ctx} {β:Nat->Option Reg} {S:Place} {st:St} {a:Act} {w:World} {slot:Nat} {e:Eff} {o:Oper}
theorem toTrees_ids {h:Hp}:∀ {cs:List Cell} {ts:List Tree} {m:List (Nat × Option Blk)},toTrees h cs=some (ts,m)->∀ p ∈ m,(h p.1).isSome=true
 | [],ts,m,ht=>by simp [toTrees] at ht; obtain ⟨_,rfl⟩:=ht; simp
 | c :: cs,ts,m,ht=>by
  unfold toTrees at ht
  split at ht
  ·rename_i t m1 h1
   split at ht
   ·rename_i ts' m2 h2
    cases ht
    intro p hp
    rcases List.mem_append.1 hp with hp | hp
    ·unfold toTree at h1
     split at h1
     ·cases h1; cases hp
     ·split at h1
      ·rename_i hb
       split at h1
       ·cases h1; simp at hp; subst hp; rw [hb]; rfl
       ·cases h1
      ·cases h1
     ·cases h1
    ·exact toTrees_ids h2 p hp
   ·cases ht
  ·cases ht
theorem look_wrs:∀ (ws:List (Nat × Option Blk)) (h:Heap),(∀ p ∈ ws,p.1 < h.length)->look (wrs h ws)=updH (look h) ws
 | [],h,_=>rfl
 | p :: l,h,hp=>by
  rw [wrs_cons,look_wrs l _ (fun q hq=>by rw [List.length_set]; exact hp q (List.mem_cons_of_mem _ hq)),updH]
  congr 1
  funext b
  split
  ·rename_i hb; rw [Nat.eq_of_beq_eq_true hb,qae (hp p List.mem_cons_self)]
  ·rename_i hb; rw [qac (fun hh=>by rw [hh,Nat.beq_refl] at hb; cases hb)]
theorem Sat.capOne {tm:List AV} {heap:Heap} (h:Sat K β S ⟨tm,heap⟩ a w) {b:Nat} {cells:List Cell} {ts:List Tree} {m:List (Nat × Option Blk)}
  (hb:look heap b=some (.var cells)) (ht:toTrees (look heap) cells=some (ts,m)) :
  ∃ S',(∀ c o,S c o->S' c o)/\Sat K β S' ⟨tm,wrs heap (m ++ [(b,some (.var (ts.map .t)))])⟩ a w:=by
 obtain ⟨R,hR,hok,_,_⟩:=h.blk b _ hb
 obtain ⟨⟨hth,hst⟩,hcl⟩:=hok
 obtain ⟨vs,hvs⟩:∃ vs:List Value,vs=(List.range cells.length).map fun j=>(w.cell? ⟨R.cb,R.co+j,none⟩).getD undef:=⟨_,rfl⟩
 obtain ⟨S',hS,hsat,hm,hl,hts⟩:=toTrees_rep (st:=⟨tm,heap⟩) cells vs heap S ts m h (Marked.refl _) (by rw [hvs]; simp) (fun i c hi=>by
  obtain ⟨v,e1,e2⟩:=hcl i c hi
  have hlt:=(List.getElem?_eq_some_iff.1 hi).1
  exact ⟨v,by rw [hvs,List.getElem?_map,List.getElem?_range hlt,Option.map_some,e1]; rfl,e2⟩) ht
 have hb2:look (wrs heap m) b=some (.var cells):=by
  rcases hm.2 b with e | ⟨_,_,_,_,e,_⟩
  ·exact e.trans hb
  ·exact absurd (hb.symm.trans e) (by simp)
 refine ⟨S',hS,?_⟩
 rw [qat]
 obtain ⟨R',hR',hok',hext',hwr'⟩:=hsat.blk b _ hb2
 rw [hR] at hR'; cases hR'
 have hbl:=qaw hb2
 show Sat K β S' ⟨tm,(wrs heap m).set b (some (.var (ts.map .t)))⟩ a w
 refine hsat.step (D:=fun x=>x=b) (Wr:=fun _ _=>False) (Keep.refl _ w) (fun _ _ hx=>hx.elim) (fun _ _ hx=>hx) (fun b' R hb'=>by rw [List.length_set]; exact hsat.top b' R hb') (fun _ _ hx=>hx) (fun _ _ hx=>.inl hx) (fun b' blk hne hb'=>?_) (fun b' blk hD hb'=>?_)
 ·rwa [qac hne] at hb'
 ·subst hD
  rw [qae hbl] at hb'
  cases hb'
  refine ⟨R,hR,⟨⟨by simpa [hl] using hth,hst⟩,fun j c hj=>?_⟩,fun c o hx=>hext' c o (by unfold Blk.ext at *; simpa [hl] using hx),fun c o hx=>hwr' c o (by unfold Blk.wr at *; simpa [hl] using hx),fun b'' blk'' R'' hne hb'' hR'' c o hx=>?_⟩
  ·rw [List.getElem?_map] at hj
   obtain ⟨t,hj',rfl⟩:=Option.map_eq_some_iff.1 hj
   replace hj:=hj'
   have hlt:=(List.getElem?_eq_some_iff.1 hj).1
   obtain ⟨v,e1,e2⟩:=hts j t hj
   rw [hl] at hlt
   rw [hvs,List.getElem?_map,List.getElem?_range hlt,Option.map_some] at e1
   have hsome:=(hth (R.co+j) (by omega) (by omega)).1
   obtain ⟨u,hu⟩:=Option.isSome_iff_exists.1 hsome
   rw [hu] at e1
   cases e1
   exact ⟨u,hu,.t e2⟩
  ·rw [qac hne] at hb''
   exact hsat.dis b' b'' _ _ R R'' (Ne.symm hne) hb2 hb'' hR hR'' c o (by unfold Blk.ext at *; simpa [hl] using hx)
theorem Sat.capFix {tm:List AV}:∀ (l:List (Nat × Nat × Nat)) {heap:Heap} {S:Place} {ws:List (Nat × Option Blk)},Sat K β S ⟨tm,heap⟩ a w->Abs.capFix (look heap) l=some ws ->
  ∃ S',(∀ c o,S c o->S' c o)/\Sat K β S' ⟨tm,wrs heap ws⟩ a w
 | [],heap,S,ws,h,hw=>by
  simp [Abs.capFix] at hw; subst hw
  exact ⟨S,fun _ _ hx=>hx,h⟩
 | (b,r,c) :: l,heap,S,ws,h,hw=>by
  unfold Abs.capFix at hw
  split at hw
  ·rename_i cells hb
   split at hw
   ·split at hw
    ·rename_i ts m ht
     split at hw
     ·rename_i ws2 hw2
      cases hw
      obtain ⟨S1,hS1,h1⟩:=h.capOne hb ht
      rw [<- look_wrs _ _ (fun p hp=>by
       rcases List.mem_append.1 hp with hp | hp
       ·obtain ⟨blk,hblk⟩:=Option.isSome_iff_exists.1 (toTrees_ids ht p hp)
        exact qaw hblk
       ·simp at hp; subst hp; exact qaw hb)] at hw2
      obtain ⟨S2,hS2,h2⟩:=Sat.capFix l h1 hw2
      refine ⟨S2,fun c o hx=>hS2 _ _ (hS1 _ _ hx),?_⟩
      rw [<- qat,List.append_assoc] at h2
      exact h2
     ·cases hw
    ·cases hw
   ·exact Sat.capFix l h hw
  ·exact Sat.capFix l h hw
theorem d_makeFunc (h:Sat K β S st a w) {f:FuncId} {first caps:Array Operand} (ho:o.op=.makeFunc (.func f) first caps)
  (he:evalOp C slot st.get (look st.heap) (.makeFunc (.func f) first caps)=some e):Does P K β S st a w slot o e:=by
 obtain ⟨g,l,v,e1,e2,e3,e4⟩:=q_makeFunc (P:=P) h ho he
 rcases e2 with e2 | e2
 ·obtain ⟨S',hS,h'⟩:=Sat.capFix (tm:=st.tmps) l h e2
  exact ⟨w,β,S',v,_,e3,.inl rfl,fun _ _=>rfl,h',by rw [e1]; exact e4.mono (fun _ _ hx=>hx) hS fun _ _ _=>rfl⟩
 ·exact ⟨w,β,S,v,_,e3,.inl rfl,fun _ _=>rfl,by rw [e2]; exact h,by rw [e1]; exact e4⟩
end
def slotsOf (C:Cfg):Op->Nat
 | .call { callee:=.value (.func f),.. }=>match C.md f with
  | .sh n :: _=>n
  | _=>2
 | .call { callee:=.value _,.. }=>2
 | .call { callee:=.builtin .append,.. }=>1
 | .alloc _ | .box _ _ | .buildSlice _ _ _ | .makeSlice _ _ _ | .makeMap _ _=>1
 | _=>0
section
variable {P:Program} {C:Cfg} {K:Ctx} {β:Nat->Option Reg} {S:Place} {st:St} {a:Act} {w:World} {slot:Nat} {e:Eff} {o:Oper}
theorem op_does (hC:CfgOk P C) (h:Sat K β S st a w) (hsf:slotsOf C o.op ≠ 0->slot < st.heap.length/\β slot=none) (he:evalOp C slot st.get (look st.heap) o.op=some e):Does P K β S st a w slot o e:=by
 cases hop:o.op with
 | move x=>
  rw [hop] at he
  simp only [evalOp] at he; cases he
  exact (q_move h (.inl hop) rfl rfl).does h
 | assign x=>
  rw [hop] at he
  simp only [evalOp] at he; cases he
  exact (q_move h (.inr hop) rfl rfl).does h
 | nilCheck x=>rw [hop] at he; exact (q_nilCheck h hop he).does h
 | pick c x y=>rw [hop] at he; exact (q_pick h hop he).does h
 | alloc t=>rw [hop] at he hsf; exact d_alloc hC h (hsf (by simp [slotsOf])).1 (hsf (by simp [slotsOf])).2 hop he
 | box t x=>rw [hop] at he hsf; exact d_box hC h (hsf (by simp [slotsOf])).1 (hsf (by simp [slotsOf])).2 hop he
 | build t ps=>rw [hop] at he; exact (q_build hC h hop he).does h
 | buildSlice t n ps=>rw [hop] at he hsf; exact d_buildSlice hC h (hsf (by simp [slotsOf])).1 (hsf (by simp [slotsOf])).2 hop he
 | load t x=>rw [hop] at he; exact (q_load hC h hop he).does h
 | store t x y=>rw [hop] at he; exact d_store hC h hop he
 | binOp op t x y t'=>rw [hop] at he; exact (q_binOp hC h hop he).does h
 | unOp op t x=>rw [hop] at he; exact (q_unOp h hop he).does h
 | convert s d x=>rw [hop] at he; simp only [evalOp] at he; exact (q_convert hC h hop he).does h
 | makeSlice t l c=>rw [hop] at he hsf; exact d_makeSlice hC h (hsf (by simp [slotsOf])).1 (hsf (by simp [slotsOf])).2 hop he
 | slice t x lo hi mx=>rw [hop] at he; simp only [evalOp] at he; exact d_slice hC h hop he
 | fieldAddr t x f=>rw [hop] at he; exact (q_fieldAddr hC h hop he).does h
 | field t x f=>rw [hop] at he; exact (q_field hC h hop he).does h
 | indexAddr t x i=>rw [hop] at he; exact (q_indexAddr hC h hop he).does h
 | index t x i=>rw [hop] at he; exact (q_index hC h hop he).does h
 | extract x i=>rw [hop] at he; exact (q_extract h hop he).does h
 | makeFunc fn first caps=>
  rw [hop] at he
  cases fn with
  | func f=>exact d_makeFunc h hop he
  | _=>simp [evalOp] at he
 | makeMap t r=>rw [hop] at he hsf; exact d_makeMap hC h (hsf (by simp [slotsOf])).1 (hsf (by simp [slotsOf])).2 hop he
 | lookup t x i ok=>rw [hop] at he; exact (q_lookup hC h hop he).does h
 | mapUpdate t x i v=>rw [hop] at he; exact d_mapUpdate hC h hop he
 | call c=>
  rw [hop] at he
  obtain ⟨callee,args,argTypes⟩:=c
  cases callee with
  | builtin b=>
   simp only [evalOp] at he
   split at he
   ·rename_i x t h1 h2
    exact (q_len hC h hop h1 h2 he).does h
   ·rename_i s x t h1 h2
    split at he
    ·rename_i ti hti
     have hty:=qah (hC _ ti hti)
     split at he
     ·rename_i el hk
      split at he
      ·rename_i te t1 hte ht1
       split at he
       ·rename_i ti1 hti1
        have hty1:=qah (hC _ ti1 hti1)
        split at he
        ·rename_i e' hk1
         split at he
         ·cases he
         ·rename_i hz
          exact d_append hC h (hsf (by simp [hop,slotsOf])).1 (hsf (by simp [hop,slotsOf])).2 hop h1 ⟨⟨t,h2,hty.slice hk⟩,t1,ht1,.inl ⟨e',hty1.slice hk1⟩⟩ hte (by omega) he
        ·rename_i hk1
         split at he
         ·cases he
         ·rename_i hz
          exact d_append hC h (hsf (by simp [hop,slotsOf])).1 (hsf (by simp [hop,slotsOf])).2 hop h1 ⟨⟨t,h2,hty.slice hk⟩,t1,ht1,.inr (hty1.string hk1)⟩ hte (by omega) he
        ·cases he
       ·cases he
      ·cases he
     ·cases he
    ·cases he
   ·rename_i d x t h1 h2
    split at he
    ·rename_i ti hti
     have hty:=qah (hC _ ti hti)
     split at he
     ·rename_i el hk
      split at he
      ·rename_i te hte
       split at he
       ·cases he
       ·exact d_copy hC h hop h1 h2 (hty.slice hk) hte he
      ·cases he
     ·cases he
    ·cases he
   ·rename_i x y h1
    exact (q_max (gt:=true) h hop h1 he).does h
   ·rename_i x y h1
    exact (q_max (gt:=false) h hop h1 he).does h
   ·cases he
  | value f=>simp [evalOp] at he
  | invoke r m=>simp [evalOp] at he
 | _=>rw [hop] at he; simp [evalOp] at he
end
def Cell.ren (ρ:Nat->Nat):Cell->Cell
 | .t x=>.t x
 | .ptr b r c=>.ptr (ρ b) r c
 | .tp row c=>.tp row c
 | .sl b off len cp=>.sl (ρ b) off len cp
 | .mp b=>.mp (ρ b)
 | .clo f caps=>.clo f (caps.map fun p=>(ρ p.1,p.2))
def AV.ren (ρ:Nat->Nat):AV->AV
 | .c x=>.c (x.ren ρ)
 | .agg l=>.agg (l.map (Cell.ren ρ))
 | .tup l=>.tup l
 | .junk=>.junk
def AV.noTup:AV->Prop
 | .tup _=>False
 | _=>True
def Blk.ren (ρ:Nat->Nat):Blk->Blk
 | .var cells=>.var (cells.map (Cell.ren ρ))
 | .rows sz l g fz=>.rows sz l g fz
 | .map ents=>.map ents
 | .old sz l=>.old sz l
def Cell.inIds (ids:List Nat):Cell->Bool
 | .t _=>true
 | .ptr b _ _=>ids.contains b
 | .tp _ _=>true
 | .sl b _ _ _=>ids.contains b
 | .mp b=>ids.contains b
 | .clo _ caps=>caps.all fun p=>ids.contains p.1
def AV.inIds (ids:List Nat):AV->Bool
 | .c x=>x.inIds ids
 | .agg l=>l.all (·.inIds ids)
 | .tup _=>false
 | .junk=>true
def Blk.inIds (ids:List Nat):Blk->Bool
 | .var cells=>cells.all (·.inIds ids)
 | .rows _ _ _ fz=>!fz
 | _=>false
def Cell.refs:Cell->List Nat
 | .t _=>[]
 | .ptr b _ _=>[b]
 | .tp _ _=>[]
 | .sl b _ _ _=>[b]
 | .mp b=>[b]
 | .clo _ caps=>caps.map (·.1)
def AV.refs:AV->List Nat
 | .c x=>x.refs
 | .agg l=>l.flatMap Cell.refs
 | _=>[]
def reach (h:Hp):Nat->List Nat->List Nat->List Nat
 | 0,_,acc=>acc
 | _+1,[],acc=>acc
 | n+1,b :: l,acc=>match acc.contains b with
  | true=>reach h n l acc
  | false=>match h b with
   | some (.var cells)=>reach h n (l ++ cells.flatMap Cell.refs) (acc ++ [b])
   | _=>reach h n l (acc ++ [b])
def viewSt (h:Hp) (ids:List Nat) (avs:List AV):St:=
 ⟨avs.map (AV.ren fun b=>posOf b ids),ids.map fun b=>(h b).map (Blk.ren fun b=>posOf b ids)⟩
def viewOk (h:Hp) (ids:List Nat) (avs:List AV):Bool:=
 decide ids.Nodup && (ids.all fun b=>match h b with | some blk=>blk.inIds ids | none=>false) && avs.all (·.inIds ids)
def viewOf (h:Hp) (avs:List AV):Option (List Nat × St):=
 let ids:=reach h 200 (avs.flatMap AV.refs) []
 if viewOk h ids avs then some (ids,viewSt h ids avs) else none
def HCall (P:Program) (f:FuncId) (s s':St):Prop:=
 (∃ fn,P.funcs[f]?=some fn/\fn.body.isSome=true/\(fn.name == "runtime.NumGoroutine")=false) /\
 ∀ (K:Ctx) (β:Nat->Option Reg) (S:Place) (a:Act) (w:World),(∀ i R,K.β0 i=some R->i < s.heap.length)->Sat K β S s a w ->
  Calls P f a.tmps w fun e w'=>∃ (us:List Value) (β':Nat->Option Reg) (S':Place),e=.returned (if us.length=1 then us.getD 0 undef else .tuple us.toArray)/\us.length=s'.tmps.length/\Sat K β' S' s' { a with tmps:=us.toArray } w'
def backRen (ids:List Nat) (slot:Nat) (k:Nat):Nat:=if k < ids.length then ids.getD k 0 else slot+(k - ids.length)
def zipIds (ids:List Nat) (slot:Nat) (ρ:Nat->Nat):List (Option Blk)->Nat->List (Nat × Option Blk)
 | [],_=>[]
 | o :: os,k=>(backRen ids slot k,o.map (Blk.ren ρ)) :: zipIds ids slot ρ os (k+1)
def AV.flat:AV->Bool
 | .tup _=>false
 | _=>true
def shEff (ids:List Nat) (slot most:Nat) (s':St):Option Eff:=
 if ids.length<=s'.heap.length/\s'.heap.length<=ids.length+most/\s'.tmps.all AV.flat=true then
  some { val:=one1 (s'.tmps.map (AV.ren (backRen ids slot))),wr:=zipIds ids slot (backRen ids slot) s'.heap 0,rd:=ids }
 else none
section
variable {β β':Nat->Option Reg} {S:Place} {w:World} {n:Nat} {ρ:Nat->Nat}
theorem CRep.fwd {c:Cell} {v:Value} (h:CRep β S w c v) (hb:∀ b R,β b=some R->β' (ρ b)=some R):CRep β' S w (c.ren ρ) v:=by
 cases h with
 | t h=>exact .t h
 | ptr R h=>exact .ptr R (hb _ _ h)
 | tp cb co val h=>exact .tp cb co val h
 | sl R base cap h h1 h2 h3 h4 h5=>exact .sl R base cap (hb _ _ h) h1 h2 h3 h4 h5
 | mp R h=>exact .mp R (hb _ _ h)
 | clo vs h1 h2=>
  refine .clo vs (by rw [h1,List.length_map]) fun i b r c hi=>?_
  rw [List.getElem?_map] at hi
  obtain ⟨⟨b',r',c'⟩,hi',e⟩:=Option.map_eq_some_iff.1 hi
  cases e
  obtain ⟨R,e1,e2⟩:=h2 i b' r c hi'
  exact ⟨R,hb _ _ e1,e2⟩
theorem VRep.fwd {x:AV} {v:Value} (h:VRep β S w x v) (ht:x.noTup) (hb:∀ b R,β b=some R->β' (ρ b)=some R):VRep β' S w (x.ren ρ) v:=by
 cases h with
 | c h=>exact .c (h.fwd hb)
 | agg vs h1 h2=>
  refine .agg vs (by rw [h1,List.length_map]) fun i c hi=>?_
  rw [List.getElem?_map] at hi
  obtain ⟨c',hi',rfl⟩:=Option.map_eq_some_iff.1 hi
  obtain ⟨v,e1,e2⟩:=h2 i c' hi'
  exact ⟨v,e1,e2.fwd hb⟩
 | tup vs val h1 h2 h3=>exact ht.elim
 | junk=>exact .junk v
theorem Blk.ren_ext' {blk:Blk} {R:Reg}:(blk.ren ρ).ext R=blk.ext R:=by
 cases blk <;> (funext b o; simp [Blk.ren,Blk.ext])
theorem Blk.ren_wr' {blk:Blk} {R:Reg}:(blk.ren ρ).wr R=blk.wr R:=by
 cases blk <;> (funext b o; simp [Blk.ren,Blk.wr])
theorem BlkOk.fwd {blk:Blk} {R:Reg} {B B':Nat} (h:BlkOk β S w B R blk) (hB:B'<=B) (hb:∀ b R,β b=some R->β' (ρ b)=some R):BlkOk β' S w B' R (blk.ren ρ):=by
 cases blk with
 | var cells=>
  refine ⟨⟨by rw [List.length_map]; exact h.1.1,h.1.2⟩,fun j c hj=>?_⟩
  rw [List.getElem?_map] at hj
  obtain ⟨c',hj',rfl⟩:=Option.map_eq_some_iff.1 hj
  obtain ⟨v,e1,e2⟩:=h.2 j c' hj'
  exact ⟨v,e1,e2.fwd hb⟩
 | rows sz rows g fz=>exact h
 | map ents=>exact ⟨Nat.le_trans hB h.1,h.2⟩
 | old sz rows=>exact h
theorem posOf_lt {b:Nat}:∀ {l:List Nat},b ∈ l->posOf b l < l.length/\l.getD (posOf b l) 0=b
 | x :: l,h=>by
  unfold posOf
  split
  ·rename_i e
   exact ⟨by simp,by simpa using (Nat.eq_of_beq_eq_true e).symm⟩
  ·rename_i e
   have hne:b ≠ x:=fun h'=>by rw [h',Nat.beq_refl] at e; cases e
   obtain ⟨h1,h2⟩:=posOf_lt ((List.mem_cons.1 h).resolve_left hne)
   exact ⟨by simp; omega,by simpa using h2⟩
theorem CRep.view {ids:List Nat} {c:Cell} {v:Value} (h:CRep β S w c v) (hc:c.inIds ids=true):CRep (fun k=>if k < ids.length then β (ids.getD k 0) else none) S w (c.ren fun b=>posOf b ids) v:=by
 have key:∀ b R,ids.contains b=true->β b=some R->(if posOf b ids < ids.length then β (ids.getD (posOf b ids) 0) else none)=some R:=fun b R hb hR=>by
  obtain ⟨h1,h2⟩:=posOf_lt (List.contains_iff_mem.1 hb)
  rw [if_pos h1,h2]; exact hR
 cases h with
 | t h=>exact .t h
 | ptr R h=>exact .ptr R (key _ _ hc h)
 | tp cb co val h=>exact .tp cb co val h
 | sl R base cap h h1 h2 h3 h4 h5=>exact .sl R base cap (key _ _ hc h) h1 h2 h3 h4 h5
 | mp R h=>exact .mp R (key _ _ hc h)
 | clo vs h1 h2=>
  refine .clo vs (by rw [h1,List.length_map]) fun i b r c hi=>?_
  rw [List.getElem?_map] at hi
  obtain ⟨⟨b',r',c'⟩,hi',e⟩:=Option.map_eq_some_iff.1 hi
  cases e
  obtain ⟨R,e1,e2⟩:=h2 i b' r c hi'
  exact ⟨R,key _ _ (List.all_eq_true.1 hc _ (List.mem_of_getElem? hi')) e1,e2⟩
theorem VRep.view {ids:List Nat} {x:AV} {v:Value} (h:VRep β S w x v) (hc:x.inIds ids=true):VRep (fun k=>if k < ids.length then β (ids.getD k 0) else none) S w (x.ren fun b=>posOf b ids) v:=by
 cases h with
 | c h=>exact .c (h.view hc)
 | agg vs h1 h2=>
  refine .agg vs (by rw [h1,List.length_map]) fun i c hi=>?_
  rw [List.getElem?_map] at hi
  obtain ⟨c',hi',rfl⟩:=Option.map_eq_some_iff.1 hi
  obtain ⟨v,e1,e2⟩:=h2 i c' hi'
  exact ⟨v,e1,e2.view (List.all_eq_true.1 hc c' (List.mem_of_getElem? hi'))⟩
 | tup=>cases hc
 | junk=>exact .junk v
theorem BlkOk.view {ids:List Nat} {blk:Blk} {R:Reg} {B B':Nat} (h:BlkOk β S w B R blk) (hc:blk.inIds ids=true):BlkOk (fun k=>if k < ids.length then β (ids.getD k 0) else none) S w B' R (blk.ren fun b=>posOf b ids):=by
 cases blk with
 | var cells=>
  refine ⟨⟨by rw [List.length_map]; exact h.1.1,h.1.2⟩,fun j c hj=>?_⟩
  rw [List.getElem?_map] at hj
  obtain ⟨c',hj',rfl⟩:=Option.map_eq_some_iff.1 hj
  obtain ⟨v,e1,e2⟩:=h.2 j c' hj'
  exact ⟨v,e1,e2.view (List.all_eq_true.1 hc c' (List.mem_of_getElem? hj'))⟩
 | rows sz rows g fz=>exact h
 | map ents=>cases hc
 | old sz rows=>cases hc
theorem Blk.inIds_wr {ids:List Nat} {blk:Blk} (h:blk.inIds ids=true) {R:Reg} {c o:Nat} (hx:blk.ext R c o):blk.wr R c o:=by
 cases blk with
 | var cells=>exact hx
 | rows sz rows g fz=>
  have:fz=false:=by simpa [Blk.inIds] using h
  subst this
  exact ⟨hx.1,by simpa using hx.2.1,hx.2.2⟩
 | map=>cases h
 | old=>cases h
theorem look_wrs_mem:∀ (l:List (Nat × Option Blk)) (h:Heap) (b:Nat) (x:Option Blk),(Abs.ids l).Nodup->(b,x) ∈ l->b < h.length->look (wrs h l) b=x
 | p :: l,h,b,x,hn,hm,hb=>by
  simp only [Abs.ids,List.map_cons,List.nodup_cons] at hn
  rw [wrs_cons]
  rcases List.mem_cons.1 hm with e | hm
  ·subst e
   rw [qan l _ hn.1,qae hb]
  ·exact look_wrs_mem l _ b x hn.2 hm (by simpa using hb)
end
section
variable {P:Program} {C:Cfg} {K:Ctx} {β:Nat->Option Reg} {S:Place} {st:St} {a:Act} {w:World} {slot:Nat} {e:Eff} {o:Oper} {f:FuncId}
def ViewW (hv:Heap) (βv:Nat->Option Reg):Place:=fun c o=>∃ k blk R,look hv k=some blk/\βv k=some R/\blk.ext R c o
theorem look_view {h:Hp} {ids:List Nat} {k:Nat} {blk:Blk} (hl:look (ids.map fun b=>(h b).map (Blk.ren fun b=>posOf b ids)) k=some blk) :
  k < ids.length/\∃ b0,h (ids.getD k 0)=some b0/\blk=b0.ren fun b=>posOf b ids:=by
 have hlt:=qaw hl
 rw [List.length_map] at hlt
 unfold look at hl
 rw [List.getElem?_map,List.getElem?_eq_getElem hlt] at hl
 simp only [Option.map_some,Option.join_some] at hl
 obtain ⟨b0,h1,h2⟩:=Option.map_eq_some_iff.1 hl
 exact ⟨hlt,b0,by rw [List.getD_eq_getElem?_getD,List.getElem?_eq_getElem hlt]; exact h1,h2.symm⟩
theorem getD_mem {ids:List Nat} {k:Nat} (h:k < ids.length):ids.getD k 0 ∈ ids:=by
 rw [List.getD_eq_getElem?_getD,List.getElem?_eq_getElem h]; exact List.getElem_mem h
theorem getD_inj {ids:List Nat} (hn:ids.Nodup) {i j:Nat} (hi:i < ids.length) (hj:j < ids.length) (h:ids.getD i 0=ids.getD j 0):i=j:=by
 rw [List.getD_eq_getElem?_getD,List.getD_eq_getElem?_getD,List.getElem?_eq_getElem hi,List.getElem?_eq_getElem hj] at h
 exact (List.getElem_inj hn).1 h
theorem view_sat (h:Sat K β S st a w) {ids:List Nat} {avs:List AV} {vals:List Value} (hl:vals.length=avs.length) (hr:∀ (i:Nat) (x:AV),avs[i]?=some x->∃ v,vals[i]?=some v/\VRep β S w x v)
  (hn:ids.Nodup) (hb:∀ b ∈ ids,∃ blk,look st.heap b=some blk/\blk.inIds ids=true) (ha:∀ x ∈ avs,x.inIds ids=true) :
  Sat ⟨w,ViewW (viewSt (look st.heap) ids avs).heap (fun k=>if k < ids.length then β (ids.getD k 0) else none),S,fun k=>if k < ids.length then β (ids.getD k 0) else none⟩
   (fun k=>if k < ids.length then β (ids.getD k 0) else none) S (viewSt (look st.heap) ids avs) { a with tmps:=vals.toArray } w:=by
 refine ⟨by simp [viewSt,hl],h.defers,fun t x ht=>?_,fun k R hk=>?_,fun k blk hk=>?_,fun k k' blk blk' R R' hne hk hk' hR hR'=>?_,h.sex,fun _ _ hs=>.inl hs,fun _ _ hs=>hs,Keep.refl _ _,fun _ _ hi=>hi⟩
 ·simp only [viewSt,List.getElem?_map] at ht
  obtain ⟨x0,h1,rfl⟩:=Option.map_eq_some_iff.1 ht
  obtain ⟨v,h2,h3⟩:=hr t x0 h1
  have:({ a with tmps:=vals.toArray }:Act).tmps.getD t undef=v:=by simp [h2]
  rw [this]
  exact h3.view (ha x0 (List.mem_of_getElem? h1))
 ·split at hk
  ·rename_i hlt; simpa [viewSt] using hlt
  ·cases hk
 ·obtain ⟨hlt,b0,h1,h2⟩:=look_view hk
  obtain ⟨b1,h3,h4⟩:=hb _ (getD_mem hlt)
  rw [h3] at h1; cases h1
  obtain ⟨R,g1,g2,g3,g4⟩:=h.blk _ _ h3
  subst h2
  have hβ:(if k < ids.length then β (ids.getD k 0) else none)=some R:=by rw [if_pos hlt]; exact g1
  refine ⟨R,hβ,g2.view h4,fun c o hx=>⟨?_,.inr ⟨k,_,R,hk,hβ,hx⟩⟩,fun c o hx=>?_⟩
  ·rw [Blk.ren_ext'] at hx; exact (g3 c o hx).1
  ·rw [Blk.ren_wr'] at hx; exact g4 c o hx
 ·obtain ⟨hlt,b0,h1,h2⟩:=look_view hk
  obtain ⟨hlt',b0',h1',h2'⟩:=look_view hk'
  rw [if_pos hlt] at hR
  rw [if_pos hlt'] at hR'
  have:=h.dis (ids.getD k 0) (ids.getD k' 0) _ _ R R' (fun e=>hne (getD_inj hn hlt hlt' e)) h1 h1' hR hR'
  subst h2 h2'
  rw [Blk.ren_ext',Blk.ren_ext']
  exact this
theorem zipIds_get {ids:List Nat} {slot:Nat} {ρ:Nat->Nat}:∀ (l:List (Option Blk)) (k0:Nat),(∀ p ∈ zipIds ids slot ρ l k0,∃ j,j < l.length/\p=(backRen ids slot (k0+j),((l[j]?).join).map (Blk.ren ρ)))/\(∀ j,j < l.length->(backRen ids slot (k0+j),((l[j]?).join).map (Blk.ren ρ)) ∈ zipIds ids slot ρ l k0)
 | [],k0=>⟨by simp [zipIds],by simp⟩
 | x :: l,k0=>by
  obtain ⟨h1,h2⟩:=zipIds_get (ids:=ids) (slot:=slot) (ρ:=ρ) l (k0+1)
  refine ⟨fun p hp=>?_,fun j hj=>?_⟩
  ·rw [zipIds] at hp
   rcases List.mem_cons.1 hp with rfl | hp
   ·exact ⟨0,by simp,by simp⟩
   ·obtain ⟨j,e1,e2⟩:=h1 p hp
    exact ⟨j+1,by simpa using e1,by rw [e2,show k0+1+j=k0+(j+1) by omega]; simp⟩
  ·rw [zipIds]
   cases j with
   | zero=>simp
   | succ j=>
    have:=h2 j (by simpa using hj)
    rw [show k0+1+j=k0+(j+1) by omega] at this
    exact List.mem_cons_of_mem _ (by simpa using this)
theorem backRen_inj {ids:List Nat} {slot most:Nat} (hn:ids.Nodup) (hs:∀ b ∈ ids,b < slot ∨ slot+most<=b) {i j:Nat} (hi':i < ids.length+most) (hj':j < ids.length+most) (h:backRen ids slot i=backRen ids slot j):i=j:=by
 unfold backRen at h
 split at h
 ·rename_i hi
  split at h
  ·rename_i hj; exact getD_inj hn hi hj h
  ·have:=hs _ (getD_mem hi); omega
 ·split at h
  ·rename_i hj
   have:=hs _ (getD_mem hj); omega
  ·omega
theorem zipIds_ids {ids:List Nat} {slot:Nat} {ρ:Nat->Nat}:∀ (l:List (Option Blk)) (k0:Nat),Abs.ids (zipIds ids slot ρ l k0)=(List.range' k0 l.length).map (backRen ids slot)
 | [],k0=>rfl
 | x :: l,k0=>by
  have:=zipIds_ids (ids:=ids) (slot:=slot) (ρ:=ρ) l (k0+1)
  simp only [Abs.ids] at this
  simp [zipIds,Abs.ids,this,List.range'_succ]
theorem sh_sound (h:Sat K β S st a w) {fid:FuncId} {ids:List Nat} {avs:List AV} {vals:List Value} {s':St} {most:Nat} (hl:vals.length=avs.length) (hr:∀ (i:Nat) (x:AV),avs[i]?=some x->∃ v,vals[i]?=some v/\VRep β S w x v)
  (hv:viewOk (look st.heap) ids avs=true) (hcall:HCall P fid (viewSt (look st.heap) ids avs) s') (hs:0 < most->slot+most<=st.heap.length) (hf:∀ b,slot<=b->b < slot+most->β b=none)
  (he:shEff ids slot most s'=some e) :
  Calls P fid vals.toArray w fun en w'=>∃ v β' S',en=.returned v/\(∀ b,b < slot ∨ slot+most<=b->β' b=β b)/\Sat K β' S' ⟨st.tmps,wrs st.heap e.wr⟩ a w'/\VRep β' S' w' e.val v:=by
 unfold viewOk at hv
 simp only [Bool.and_eq_true] at hv
 obtain ⟨⟨hn0,hb0⟩,ha0⟩:=hv
 have hn:ids.Nodup:=by simpa using hn0
 have hb:∀ b ∈ ids,∃ blk,look st.heap b=some blk/\blk.inIds ids=true:=fun b hb=>by
  have:=List.all_eq_true.1 hb0 b hb
  split at this
  ·exact ⟨_,by assumption,this⟩
  ·cases this
 have ha:∀ x ∈ avs,x.inIds ids=true:=List.all_eq_true.1 ha0
 unfold shEff at he
 split at he
 ·rename_i hlen
  cases he
  have hnt:∀ x ∈ s'.tmps,x.noTup:=fun x hx=>by
   have:=List.all_eq_true.1 hlen.2.2 x hx
   cases x <;> first | trivial | (simp [AV.flat] at this)
  have hsat:=view_sat h hl hr hn hb ha
  refine (hcall.2 _ _ S { a with tmps:=vals.toArray } w (fun i R hi=>?_) hsat).mono ?_
  ·simp only at hi
   split at hi
   ·rename_i hlt; simpa [viewSt] using hlt
   ·cases hi
  rintro en w' ⟨us,β1,S1,rfl,hul,h1⟩
  have hids:∀ b ∈ ids,b < slot ∨ slot+most<=b:=fun b hbm=>by
   obtain ⟨blk,e1,_⟩:=hb b hbm
   obtain ⟨R,e2,_⟩:=h.blk b blk e1
   rcases Nat.lt_or_ge b slot with h' | h'
   ·exact .inl h'
   ·rcases Nat.lt_or_ge b (slot+most) with h'' | h''
    ·rw [hf b h' h''] at e2; cases e2
    ·exact .inr h''
  have hidlt:∀ b ∈ ids,b < st.heap.length:=fun b hbm=>by obtain ⟨blk,e1,_⟩:=hb b hbm; exact qaw e1
  let β2:Nat->Option Reg:=fun b=>if slot<=b/\b < slot+most then β1 (ids.length+(b - slot)) else β b
  have hββ:∀ b R,β b=some R->β2 b=some R:=fun b R hR=>by
   show (if _ then _ else _)=_
   rw [if_neg (fun hc=>by rw [hf b hc.1 hc.2] at hR; cases hR)]; exact hR
  have hback:∀ k R,β1 k=some R->β2 (backRen ids slot k)=some R:=fun k R hR=>by
   have hk:=h1.top k R hR
   unfold backRen
   split
   ·rename_i hlt
    obtain ⟨blk,e1,_⟩:=hb _ (getD_mem hlt)
    obtain ⟨R0,e2,_⟩:=h.blk _ blk e1
    have e3:=h1.arg k R0 (by simp only; rw [if_pos hlt]; exact e2)
    rw [hR] at e3; cases e3
    exact hββ _ _ e2
   ·show (if _ then _ else _)=_
    rw [if_pos (by omega),show ids.length+(slot+(k - ids.length) - slot)=k by omega]; exact hR
  have hview:∀ c o,ViewW (viewSt (look st.heap) ids avs).heap (fun k=>if k < ids.length then β (ids.getD k 0) else none) c o->∃ b ∈ ids,∃ blk R,look st.heap b=some blk/\blk.inIds ids=true/\β b=some R/\blk.ext R c o:=by
   rintro c o ⟨k,blk,R,g1,g2,g3⟩
   obtain ⟨hlt,b0,g4,rfl⟩:=look_view g1
   obtain ⟨b1,g5,g6⟩:=hb _ (getD_mem hlt)
   rw [g5] at g4; cases g4
   rw [Blk.ren_ext'] at g3
   simp only at g2
   rw [if_pos hlt] at g2
   exact ⟨_,getD_mem hlt,_,R,g5,g6,g2,g3⟩
  have hwrl:(wrs st.heap (zipIds ids slot (backRen ids slot) s'.heap 0)).length=st.heap.length:=qa7 _ _
  have hnd:(Abs.ids (zipIds ids slot (backRen ids slot) s'.heap 0)).Nodup:=by
   rw [zipIds_ids]
   refine List.pairwise_map.2 (List.Pairwise.imp_of_mem ?_ (List.nodup_range' (step:=1)))
   intro i j hi hj hij he
   rw [List.mem_range'_1] at hi hj
   exact hij (backRen_inj hn hids (by omega) (by omega) he)
  have hlt2:∀ k,k < s'.heap.length->backRen ids slot k < st.heap.length:=fun k hk=>by
   unfold backRen
   split
   ·rename_i hlt; exact hidlt _ (getD_mem hlt)
   ·have:=hs (by omega); omega
  have hlook:∀ k,k < s'.heap.length->look (wrs st.heap (zipIds ids slot (backRen ids slot) s'.heap 0)) (backRen ids slot k)=(look s'.heap k).map (Blk.ren (backRen ids slot)):=fun k hk=>by
   have:=(zipIds_get (ids:=ids) (slot:=slot) (ρ:=backRen ids slot) s'.heap 0).2 k hk
   rw [Nat.zero_add] at this
   exact look_wrs_mem _ _ _ _ hnd this (hlt2 k hk)
  let D:Nat->Prop:=fun b=>∃ k,k < s'.heap.length/\b=backRen ids slot k
  have hDids:∀ b ∈ ids,D b:=fun b hbm=>by
   obtain ⟨g1,g2⟩:=posOf_lt hbm
   exact ⟨posOf b ids,by omega,by unfold backRen; rw [if_pos g1,g2]⟩
  have hother:∀ b,¬ D b->look (wrs st.heap (zipIds ids slot (backRen ids slot) s'.heap 0)) b=look st.heap b:=fun b hD=>by
   refine qan _ _ fun hm=>hD ?_
   rw [zipIds_ids] at hm
   obtain ⟨k,hk,rfl⟩:=List.mem_map.1 hm
   rw [List.mem_range'_1] at hk
   exact ⟨k,by omega,rfl⟩
  have hfresh:∀ c o,(w.heap.size<=c ∨ ViewW (viewSt (look st.heap) ids avs).heap (fun k=>if k < ids.length then β (ids.getD k 0) else none) c o)->K.B0<=c ∨ K.W c o:=by
   rintro c o (hc | hc)
   ·exact .inl (by have:=h.keep.size; unfold Ctx.B0; omega)
   ·obtain ⟨b,_,blk,R,g1,_,g3,g4⟩:=hview c o hc
    obtain ⟨R',k1,_,k3,_⟩:=h.blk b blk g1
    rw [g3] at k1; cases k1
    exact (k3 c o g4).2
  have hclean:∀ c o,(w.heap.size<=c ∨ ViewW (viewSt (look st.heap) ids avs).heap (fun k=>if k < ids.length then β (ids.getD k 0) else none) c o)->∀ b blk R,¬ D b->look st.heap b=some blk->β b=some R->¬ blk.ext R c o:=by
   rintro c o hc b blk R hD hbk hR hx
   obtain ⟨R',k1,_,k3,_⟩:=h.blk b blk hbk
   rw [hR] at k1; cases k1
   rcases hc with hc | hc
   ·have:=(k3 c o hx).1; omega
   ·obtain ⟨b2,hm,blk2,R2,g1,_,g3,g4⟩:=hview c o hc
    exact h.dis b2 b blk2 blk R2 R (fun e=>hD (e ▸ hDids b2 hm)) g1 hbk g3 hR c o g4 hx
  have hfin:Sat K β2 S1 ⟨st.tmps,wrs st.heap (zipIds ids slot (backRen ids slot) s'.heap 0)⟩ a w':=by
   refine h.step (Wr:=ViewW (viewSt (look st.heap) ids avs).heap (fun k=>if k < ids.length then β (ids.getD k 0) else none)) D h1.keep (fun c o hx hlt=>?_) hββ (fun b R hR=>?_) h1.sub (fun c o hs1=>?_) (fun b blk hD hbk=>by rw [hother b hD] at hbk; exact hbk) (fun b blk hD hbk=>?_)
   ·refine ⟨fun hsS=>?_,hfresh c o (.inr hx),hclean c o (.inr hx)⟩
    obtain ⟨b,hm,blk,R,g1,g2,g3,g4⟩:=hview c o hx
    obtain ⟨R',k1,_,_,k4⟩:=h.blk b blk g1
    rw [g3] at k1; cases k1
    exact k4 c o (Blk.inIds_wr g2 g4) hsS
   ·rw [hwrl]
    have hR':(if slot<=b/\b < slot+most then β1 (ids.length+(b - slot)) else β b)=some R:=hR
    split at hR'
    ·have:=hs (by omega); omega
    ·exact h.top b R hR'
   ·rcases h1.sin c o hs1 with hs1' | hs1'
    ·exact .inl hs1'
    ·exact .inr ⟨h1.sex c o hs1,hfresh c o hs1',fun b blk R hD hbk hR hx=>hclean c o hs1' b blk R hD hbk hR (Blk.wr_ext hx)⟩
   ·obtain ⟨k,hk,rfl⟩:=hD
    rw [hlook k hk] at hbk
    obtain ⟨blk1,hb1,rfl⟩:=Option.map_eq_some_iff.1 hbk
    obtain ⟨R,q1,q2,q3,q4⟩:=h1.blk k blk1 hb1
    refine ⟨R,hback k R q1,q2.fwd h.keep.size hback,fun c o hx=>?_,fun c o hx=>?_,fun b2 blk2 R2 hne hb2 hR2 c o hx hy=>?_⟩
    ·rw [Blk.ren_ext'] at hx
     exact ⟨(q3 c o hx).1,hfresh c o (q3 c o hx).2⟩
    ·rw [Blk.ren_wr'] at hx; exact q4 c o hx
    ·rw [Blk.ren_ext'] at hx
     by_cases hD2:D b2
     ·obtain ⟨k2,hk2,rfl⟩:=hD2
      rw [hlook k2 hk2] at hb2
      obtain ⟨blk3,hb3,rfl⟩:=Option.map_eq_some_iff.1 hb2
      obtain ⟨R3,r1,_⟩:=h1.blk k2 blk3 hb3
      have r2:=hback k2 R3 r1
      rw [hR2] at r2; cases r2
      rw [Blk.ren_ext'] at hy
      exact h1.dis k k2 blk1 blk3 R R2 (fun e=>hne (by rw [e])) hb1 hb3 q1 r1 c o hx hy
     ·rw [hother b2 hD2] at hb2
      have hR2':β b2=some R2:=by
       obtain ⟨R3,r1,_⟩:=h.blk b2 blk2 hb2
       have:=hββ b2 R3 r1
       rw [hR2] at this; cases this
       exact r1
      exact hclean c o (q3 c o hx).2 b2 blk2 R2 hD2 hb2 hR2' hy
  refine ⟨_,β2,S1,rfl,fun b hbs=>?_,hfin,?_⟩
  ·show (if _ then _ else _)=_
   rw [if_neg (by omega)]
  ·refine one1_rep (by rw [hul,List.length_map]) fun i x hi=>?_
   rw [List.getElem?_map] at hi
   obtain ⟨y,hy,rfl⟩:=Option.map_eq_some_iff.1 hi
   have hlt:i < us.length:=by rw [hul]; exact (List.getElem?_eq_some_iff.1 hy).1
   have:=h1.tmps i y hy
   refine ⟨us[i],List.getElem?_eq_getElem hlt,?_⟩
   have e1:({ ({ a with tmps:=vals.toArray }:Act) with tmps:=us.toArray }:Act).tmps.getD i undef=us[i]:=by simp [hlt]
   rw [e1] at this
   exact this.fwd (hnt y (List.mem_of_getElem? hy)) hback
 ·cases he
end
def St.app (st:St) (o:Oper) (e:Eff):St:=⟨match o.dst with | some d=>st.tmps.set d e.val | none=>st.tmps,wrs st.heap e.wr⟩
def yieldA (want:Bool):AV->Option Bool
 | .tup []=>some false
 | x=>x.bool?.map (· == want)
def skipEff:Eff:={ val:=.tup [] }
def wantedA (tmps:List AV) (ops:List Oper) (o:Oper):Option Bool:=
 match o.guard with
 | none=>some true
 | some (j,want)=>match (ops[j]?).bind (·.dst) with
  | some d=>yieldA want (tmps.getD d .junk)
  | none=>none
def callOf (fv:AV) (avs:List AV):Option (FuncId × List AV):=
 match fv with
 | .c (.t (.v (.func (.func g) first cap)))=>if first.size=0/\cap.size=0 then some (g,avs) else none
 | .c (.clo g caps)=>match Nat.blt g bndF with
  | true=>some (g,avs ++ caps.map fun p=>.c (.ptr p.1 p.2.1 p.2.2))
  | false=>some (g - bndF,(caps.map fun p=>.c (.ptr p.1 p.2.1 p.2.2)) ++ avs)
 | _=>none
def StepK (P:Program) (C:Cfg) (ops:List Oper) (slot:Nat) (o:Oper) (st:St) (k:Eff->Prop):Prop:=
 match wantedA st.tmps ops o with
 | none=>False
 | some false=>k skipEff
 | some true=>
  match o.op with
  | .call { callee:=.value f,args,.. }=>
   match callOf (st.get f) (args.toList.map st.get) with
   | none=>False
   | some (fid,avs)=>
    match C.md fid with
    | .sh _ :: _=>
     match viewOf (look st.heap) avs with
     | none=>False
     | some (ids,s)=>∃ s',HCall P fid s s'/\match shEff ids slot (slotsOf C o.op) s' with
      | some e=>k e
      | none=>False
    | ms=>
     match prepCall (look st.heap) ms avs with
     | none=>False
     | some (as,marks,bks)=>∃ res,ACall P fid as res/\match callEff (look st.heap) slot marks bks res with
      | some e=>k e
      | none=>False
  | op=>match evalOp C slot st.get (look st.heap) op with
   | some e=>k e
   | none=>False
section
variable {P:Program} {C:Cfg} {K:Ctx} {β:Nat->Option Reg} {S:Place} {st:St} {a:Act} {w:World} {slot:Nat} {e:Eff} {o:Oper} {ops:List Oper}
theorem evalOp_slot {C:Cfg} {σ:Operand->AV} {h:Hp} {op:Op} (hs:slotsOf C op=0) (s s':Nat):evalOp C s σ h op=evalOp C s' σ h op:=by
 cases op with
 | call c=>
  obtain ⟨callee,args,argTypes⟩:=c
  cases callee with
  | builtin b=>cases b <;> first | (simp [slotsOf] at hs; done) | rfl | (simp only [evalOp]; split <;> first | rfl | simp_all)
  | _=>rfl
 | makeFunc fn first caps=>cases fn <;> rfl
 | _=>first | (simp [slotsOf] at hs; done) | rfl
theorem op_does0 (hC:CfgOk P C) (h:Sat K β S st a w) (h0:slotsOf C o.op=0) (he:evalOp C slot st.get (look st.heap) o.op=some e) :
  ∃ w' β' S' v nx,(execOp a.eval o).run P w=.ok nx w'/\(nx=.value v ∨ (nx=.skip/\v=undef))/\(∀ b,β' b=β b)/\Sat K β' S' ⟨st.tmps,wrs st.heap e.wr⟩ a w'/\VRep β' S' w' e.val v:=by
 rw [evalOp_slot h0 slot st.heap.length] at he
 obtain ⟨w',β',S',v,nx,h1,h2,h3,h4,h5⟩:=op_does hC h (fun hn=>absurd h0 hn) he
 refine ⟨w',β',S',v,nx,h1,h2,fun b=>?_,h4,h5⟩
 by_cases hb:b=st.heap.length
 ·subst hb
  have e1:β st.heap.length=none:=by
   cases hx:β st.heap.length with
   | none=>rfl
   | some R=>have:=h.top _ _ hx; omega
  have e2:β' st.heap.length=none:=by
   cases hx:β' st.heap.length with
   | none=>rfl
   | some R=>have:=h4.top _ _ hx; rw [qa7] at this; omega
  rw [e1,e2]
 ·exact h3 b hb
theorem wanted_of (h:Sat K β S st a w) {b:Bool} (hw:wantedA st.tmps ops o=some b):Region.wanted o (yielded ops.toArray a.tmps)=b:=by
 unfold wantedA at hw
 unfold Region.wanted
 split at hw
 ·cases hw; simp_all
 ·rename_i j want hg
  rw [hg]
  simp only
  split at hw
  ·rename_i d hd
   have hlt:d < st.tmps.length:=by
    rcases Nat.lt_or_ge d st.tmps.length with h | h
    ·exact h
    ·rw [List.getD_eq_getElem?_getD,List.getElem?_eq_none h] at hw; simp [yieldA,AV.bool?] at hw
   have hv:=h.tmps d _ (List.getElem?_eq_getElem hlt)
   rw [List.getD_eq_getElem?_getD,List.getElem?_eq_getElem hlt,Option.getD_some] at hw
   unfold yieldA at hw
   split at hw
   ·rename_i hx
    cases hw
    rw [hx] at hv
    have hun:a.tmps.getD d undef=.tuple #[]:=by
     generalize a.tmps.getD d undef=v at hv
     cases hv with
     | tup vs val h1 h2 h3=>
      have:vs=[]:=List.length_eq_zero_iff.1 h1
      subst this; rfl
    have hlt':d < a.tmps.size:=by rw [h.len]; exact hlt
    have hy:yielded ops.toArray a.tmps j=none:=by
     unfold yielded
     have:(ops.toArray[j]?).bind (·.dst)=some d:=by simpa using hd
     rw [this]
     simp only [Option.bind_some]
     rw [Array.getD_eq_getD_getElem?,Array.getElem?_eq_getElem hlt',Option.getD_some] at hun
     rw [Array.getElem?_eq_getElem hlt',hun]
    rw [hy]
    rfl
   obtain ⟨c,h1,h2⟩:=Option.map_eq_some_iff.1 hw
   have hb:=hv.bool h1
   have hlt':d < a.tmps.size:=by rw [h.len]; exact hlt
   have hy:yielded ops.toArray a.tmps j=some c:=by
    unfold yielded
    have:(ops.toArray[j]?).bind (·.dst)=some d:=by simpa using hd
    rw [this]
    simp only [Option.bind_some]
    rw [Array.getD_eq_getD_getElem?,Array.getElem?_eq_getElem hlt',Option.getD_some] at hb
    rw [Array.getElem?_eq_getElem hlt',hb]
   rw [hy,<- h2]
   simp
  ·cases hw
theorem app_put (h:Sat K β S ⟨st.tmps,wrs st.heap e.wr⟩ a w) {v:Value} (hv:VRep β S w e.val v):Sat K β S (st.app o e) (a.put o.dst v) w:=h.put hv o.dst
theorem callOf_run (h:Sat K β S st a w) {f:Operand} {args:Array Operand} {fid:FuncId} {avs:List AV} (hc:callOf (st.get f) (args.toList.map st.get)=some (fid,avs))
  {argTypes:Array TypeId} (ho:o.op=.call { callee:=.value f,args,argTypes }) (hfn:∃ fn,P.funcs[fid]?=some fn/\fn.body.isSome=true/\(fn.name == "runtime.NumGoroutine")=false) :
  ∃ vals:List Value,(execOp a.eval o).run P w=.ok (.enter fid vals.toArray) w/\vals.length=avs.length/\∀ (i:Nat) (x:AV),avs[i]?=some x->∃ v,vals[i]?=some v/\VRep β S w x v:=by
 have hf:=h.get f
 obtain ⟨fn,f1,f2,f3⟩:=hfn
 have hbody:fn.body.isNone=false:=by cases hb:fn.body <;> simp_all
 have hrun:∀ (cap:Array Value),a.eval f=.func (.func fid) #[] cap->(execOp a.eval o).run P w=.ok (.enter fid (args.map a.eval ++ cap)) w:=by
  intro cap hfe
  simp only [execOp,ho,resolve,hfe,Deferred.ofValue,invoke,callFunc,Sem.run_bind,Sem.run_pure,Result.andThen,run_program,f1,f3,hbody,Bool.false_eq_true,if_false,Array.empty_append]
 have hargs:∀ (i:Nat) (x:AV),(args.toList.map st.get)[i]?=some x->∃ v,(args.toList.map a.eval)[i]?=some v/\VRep β S w x v:=by
  intro i x hi
  rw [List.getElem?_map] at hi ⊢
  obtain ⟨y,h1,rfl⟩:=Option.map_eq_some_iff.1 hi
  exact ⟨a.eval y,by rw [h1]; rfl,h.get y⟩
 unfold callOf at hc
 split at hc
 ·rename_i g first cap hg
  split at hc
  ·rename_i hsz
   cases hc
   rw [hg] at hf
   obtain ⟨hf,_⟩:=hf.scalar
   have h1:first=#[]:=Array.eq_empty_of_size_eq_zero hsz.1
   have h2:cap=#[]:=Array.eq_empty_of_size_eq_zero hsz.2
   subst h1 h2
   refine ⟨args.toList.map a.eval,?_,by simp,hargs⟩
   rw [hrun _ hf]
   congr 2
   apply Array.ext'; simp
  ·cases hc
 ·rename_i g caps hg
  split at hc
  rotate_left
  ·rename_i hblt
   generalize hk:g - bndF=k at hc
   cases hc
   rw [hg] at hf
   cases hf with | c hf=>
   generalize hfe:a.eval f=fv at hf
   cases hf with | clo vs h1 h2=>
   have hcv:cloVal g vs=.func (.func fid) vs.toArray #[]:=by rw [cloVal_ge hblt,hk]
   clear hk
   have hrun2:(execOp a.eval o).run P w=.ok (.enter fid (vs.toArray ++ args.map a.eval)) w:=by
    simp only [execOp,ho,resolve,hfe,hcv,Deferred.ofValue,invoke,callFunc,Sem.run_bind,Sem.run_pure,Result.andThen,run_program,f1,f3,hbody,Bool.false_eq_true,if_false,Array.append_empty]
   have harr:vs.toArray ++ args.map a.eval=(vs ++ args.toList.map a.eval).toArray:=by apply Array.ext'; simp
   rw [harr] at hrun2
   refine ⟨vs ++ args.toList.map a.eval,hrun2,by simp [h1],fun i x hi=>?_⟩
   rw [List.getElem?_append] at hi ⊢
   simp only [List.length_map] at hi
   rw [h1]
   split at hi
   ·rename_i hlt
    rw [if_pos hlt]
    rw [List.getElem?_map] at hi
    obtain ⟨p,q1,rfl⟩:=Option.map_eq_some_iff.1 hi
    obtain ⟨R,q2,q3⟩:=h2 _ p.1 p.2.1 p.2.2 q1
    exact ⟨_,q3,.c (.ptr R q2)⟩
   ·rename_i hge
    rw [if_neg hge]
    exact hargs _ x hi
  rename_i hblt
  cases hc
  rw [hg] at hf
  cases hf with | c hf=>
  generalize hfe:a.eval f=fv at hf
  cases hf with | clo vs h1 h2=>
  refine ⟨args.toList.map a.eval ++ vs,?_,by simp [h1],fun i x hi=>?_⟩
  ·rw [hrun _ (by rw [hfe,cloVal_lt hblt])]
   congr 2
   apply Array.ext'; simp
  ·rw [List.getElem?_append] at hi ⊢
   simp only [List.length_map] at hi ⊢
   split at hi
   ·rename_i hlt
    rw [if_pos hlt]
    exact hargs i x hi
   ·rename_i hge
    rw [if_neg hge]
    rw [List.getElem?_map] at hi
    obtain ⟨p,q1,rfl⟩:=Option.map_eq_some_iff.1 hi
    obtain ⟨R,q2,q3⟩:=h2 _ p.1 p.2.1 p.2.2 q1
    exact ⟨_,q3,.c (.ptr R q2)⟩
 ·cases hc
theorem step_sound (hC:CfgOk P C) (h:Sat K β S st a w) (hfree:∀ s,slot<=s->s < slot+slotsOf C o.op->s < st.heap.length/\β s=none) {k:Eff->Prop} (hk:StepK P C ops slot o st k)
  {next:Act->World->Prop} {Q:Exit->Act->World->Prop} (hn:∀ e w' v β' S',k e->Sat K β' S' (st.app o e) (a.put o.dst v) w'->(∀ b,b < slot ∨ slot+slotsOf C o.op<=b->β' b=β b)->next (a.put o.dst v) w') :
  if Region.wanted o (yielded ops.toArray a.tmps) then o.wp P a w next Q ∨ (o.asks P a w/\LetsOut Q) else next (a.put o.dst undef) w:=by
 unfold StepK at hk
 split at hk
 ·exact hk.elim
 ·rename_i hw
  rw [wanted_of h hw]
  simp only [Bool.false_eq_true,if_false]
  exact hn skipEff w undef β S hk (app_put h (.tup [] (fun _=>undef) rfl (by simp) (by simp))) fun _ _=>rfl
 ·rename_i hw
  rw [wanted_of h hw]
  simp only [if_true]
  left
  unfold Oper.wp
  split at hk
  ·rename_i f args argTypes hop
   split at hk
   ·exact hk.elim
   ·rename_i fid avs hc
    split at hk
    ·rename_i n0 mds hmd
     split at hk
     ·exact hk.elim
     ·rename_i ids s hp
      obtain ⟨s',hcall,hk⟩:=hk
      split at hk
      ·rename_i e he
       simp only [viewOf] at hp
       split at hp
       ·rename_i hvo
        cases hp
        obtain ⟨vals,h1,h2,h3⟩:=callOf_run h hc hop hcall.1
        rw [h1]
        refine (sh_sound h h2 h3 hvo hcall (fun h0=>by have:=(hfree (slot+(slotsOf C o.op - 1)) (by omega) (by omega)).1; omega) (fun b e1 e2=>(hfree b e1 e2).2) he).mono ?_
        rintro en w' ⟨v,β',S',rfl,q1,q2,q3⟩
        exact hn e w' v β' S' hk (app_put q2 q3) q1
       ·cases hp
      ·exact hk.elim
    ·rename_i hnsh
     split at hk
     ·exact hk.elim
     ·rename_i as marks bks hp
      obtain ⟨res,hcall,hk⟩:=hk
      split at hk
      ·rename_i e he
       obtain ⟨vals,h1,h2,h3⟩:=callOf_run h hc hop hcall.1
       rw [h1]
       have h2s:slotsOf C o.op=2:=by
        rw [hop]
        cases f with
        | func f'=>
         have hff:f'=fid:=by
          simp only [St.get,callOf] at hc
          split at hc
          ·cases hc; rfl
          ·cases hc
         subst hff
         show (match C.md f' with | .sh n :: _=>n | _=>2)=2
         split
         ·rename_i hmd; exact absurd hmd (hnsh _ _)
         ·rfl
        | _=>rfl
       rw [h2s] at hfree hn
       refine (call_sound h h2 h3 hp hcall (by have:=hfree (slot+1) (by omega) (by omega); omega) (fun b e1 e2=>(hfree b e1 e2).2) he).mono ?_
       rintro en w' ⟨v,β',S',rfl,q1,q2,q3⟩
       exact hn e w' v β' S' hk (app_put q2 q3) q1
      ·exact hk.elim
  ·rename_i op hnc
   split at hk
   ·rename_i e he
    by_cases h0:slotsOf C o.op=0
    ·obtain ⟨w',β',S',v,nx,q1,q2,q3,q4,q5⟩:=op_does0 hC h h0 he
     rw [q1]
     rcases q2 with rfl | ⟨rfl,rfl⟩
     ·exact hn e w' v β' S' hk (app_put q4 q5) fun b _=>q3 b
     ·exact hn e w' undef β' S' hk (app_put q4 q5) fun b _=>q3 b
    ·have h1:slotsOf C o.op=1:=by
      cases hop:o.op with
      | call c=>
       obtain ⟨callee,args,argTypes⟩:=c
       cases callee with
       | value f=>exact absurd hop (by intro hh; exact hnc _ _ _ hh)
       | builtin b=>rw [hop] at h0; cases b <;> first | rfl | exact absurd rfl h0
       | invoke r m=>rw [hop] at h0; exact absurd rfl h0
      | _=>rw [hop] at h0; first | rfl | exact absurd rfl h0
     rw [h1] at hfree hn
     obtain ⟨hs,hf⟩:=hfree slot (Nat.le_refl _) (by omega)
     obtain ⟨w',β',S',v,nx,q1,q2,q3,q4,q5⟩:=op_does hC h (fun _=>⟨hs,hf⟩) he
     rw [q1]
     rcases q2 with rfl | ⟨rfl,rfl⟩
     ·exact hn e w' v β' S' hk (app_put q4 q5) fun b hb=>q3 b (by omega)
     ·exact hn e w' undef β' S' hk (app_put q4 q5) fun b hb=>q3 b (by omega)
   ·exact hk.elim
end
def slotsSum (C:Cfg):List Oper->Nat
 | []=>0
 | o :: os=>slotsOf C o.op+slotsSum C os
def OpsK (P:Program) (C:Cfg) (ops:List Oper):List Oper->Nat->St->List Eff->(List Eff->St->Prop)->Prop
 | [],_,st,tr,Q=>Q tr st
 | o :: os,slot,st,tr,Q=>StepK P C ops slot o st fun e=>OpsK P C ops os (slot+slotsOf C o.op) (st.app o e) (tr ++ [e]) Q
def St.ext (st:St) (n:Nat):St:=⟨st.tmps,st.heap ++ List.replicate n none⟩
inductive AExit where
 | normal
 | exit (id:Nat)
 | ret
 deriving DecidableEq
def toA:Exit->Option AExit
 | .normal=>some .normal
 | .exit id=>some (.exit id)
 | .ret=>some .ret
 | _=>none
def Conc (K:Ctx) (Q:AExit->St->Prop):Exit->Act->World->Prop:=fun e a w=>∃ x st,toA e=some x/\Q x st/\∃ β S,Sat K β S st a w
def ARun (P:Program) (n0:Nat) (c:Code) (st:St) (Q:AExit->St->Prop):Prop:=
 ∀ (K:Ctx),(∀ i R,K.β0 i=some R->i < n0)->∀ (β:Nat->Option Reg) (S:Place) (a:Act) (w:World),Sat K β S st a w->c.wp P (Conc K Q) a w
section
variable {P:Program} {C:Cfg} {K:Ctx} {β:Nat->Option Reg} {S:Place} {st:St} {a:Act} {w:World} {slot:Nat} {e:Eff} {o:Oper} {ops:List Oper} {n0:Nat} {Q Q':AExit->St->Prop}
theorem look_ext (h:Heap) (n b:Nat):look (h ++ List.replicate n none) b=look h b:=by
 unfold look
 rw [List.getElem?_append]
 split
 ·rfl
 ·rename_i hge
  rw [List.getElem?_eq_none (l:=h) (by omega),List.getElem?_replicate]
  split <;> rfl
theorem Sat.ext (h:Sat K β S st a w) (n:Nat):Sat K β S (st.ext n) a w:=
 ⟨h.len,h.defers,h.tmps,fun b R hb=>by have:=h.top b R hb; simp [St.ext]; omega,fun b blk hb=>h.blk b blk (by rw [<- look_ext st.heap n b]; exact hb),
  fun b b' blk blk' R R' hne hb hb'=>h.dis b b' blk blk' R R' hne (by rw [<- look_ext st.heap n b]; exact hb) (by rw [<- look_ext st.heap n b']; exact hb'),h.sex,h.sin,h.sub,h.keep,h.arg⟩
theorem app_length (st:St) (o:Oper) (e:Eff):(st.app o e).heap.length=st.heap.length:=qa7 _ _
theorem opsK_sound (hC:CfgOk P C):∀ (os pre:List Oper) (slot:Nat) (st:St) (tr:List Eff) (β:Nat->Option Reg) (S:Place) (a:Act) (w:World),ops=pre ++ os->Sat K β S st a w ->
  (∀ s,slot<=s->s < slot+slotsSum C os->s < st.heap.length/\β s=none)->OpsK P C ops os slot st tr (fun _ st'=>Q .normal st') ->
  wpOps P ops.toArray (Conc K Q) (List.range' pre.length os.length) a w
 | [],pre,slot,st,tr,β,S,a,w,_,h,_,hk=>by
  simp only [List.length_nil,List.range'_zero,wpOps]
  exact ⟨.normal,st,rfl,hk,β,S,h⟩
 | o :: os,pre,slot,st,tr,β,S,a,w,hops,h,hfree,hk=>by
  simp only [List.length_cons,List.range'_succ,wpOps]
  have hget:ops.toArray[pre.length]?=some o:=by simp [hops]
  rw [hget]
  simp only [slotsSum] at hfree
  refine step_sound hC h (fun s h1 h2=>hfree s h1 (by omega)) hk fun e w' v β' S' hk' hs' hβ'=>?_
  have:=opsK_sound hC os (pre ++ [o]) (slot+slotsOf C o.op) (st.app o e) (tr ++ [e]) β' S' (a.put o.dst v) w' (by rw [hops]; simp) hs' (fun s h1 h2=>by
   obtain ⟨e1,e2⟩:=hfree s (by omega) (by omega)
   exact ⟨by rw [app_length]; exact e1,by rw [hβ' s (by omega)]; exact e2⟩) hk'
  rwa [List.length_append] at this
theorem ARun.region (hC:CfgOk P C) {id:Nat} {ops:Array Oper} (hk:OpsK P C ops.toList ops.toList st.heap.length (st.ext (slotsSum C ops.toList)) [] fun _ st'=>Q .normal st'):ARun P n0 (.region id ops false) st Q:=by
 intro K hn β S a w h
 refine wp_region ?_
 have:=opsK_sound (K:=K) (Q:=Q) hC ops.toList [] st.heap.length (st.ext (slotsSum C ops.toList)) [] β S a w rfl (h.ext _) (fun s h1 h2=>by
  refine ⟨by simp [St.ext]; omega,?_⟩
  cases hx:β s with
  | none=>rfl
  | some R=>have:=h.top s R hx; omega) hk
 rw [List.range_eq_range']
 simpa using this
theorem ARun.mono {c:Code} (h:ARun P n0 c st Q) (hq:∀ e s,Q e s->Q' e s):ARun P n0 c st Q':=fun K hn β S a w hs=>
 wp_mono (h K hn β S a w hs) fun e a' w' ⟨x,s,h1,h2,h3⟩=>⟨x,s,h1,hq _ _ h2,h3⟩
theorem ARun.skip (h:Q .normal st):ARun P n0 .skip st Q:=fun K hn β S a w hs=>wp_skip ⟨.normal,st,rfl,h,β,S,hs⟩
theorem ARun.exit {id:Nat} (h:Q (.exit id) st):ARun P n0 (.exit id) st Q:=fun K hn β S a w hs=>wp_exit ⟨.exit id,st,rfl,h,β,S,hs⟩
theorem ARun.ret (h:Q .ret st):ARun P n0 .ret st Q:=fun K hn β S a w hs=>wp_ret ⟨.ret,st,rfl,h,β,S,hs⟩
def SeqQ (P:Program) (n0:Nat) (y:Code) (Q:AExit->St->Prop):AExit->St->Prop
 | .normal,s=>ARun P n0 y s Q
 | e,s=>Q e s
theorem ARun.seq {x y:Code} (h:ARun P n0 x st (SeqQ P n0 y Q)):ARun P n0 (.seq x y) st Q:=fun K hn β S a w hs=>
 wp_seq (wp_mono (h K hn β S a w hs) fun e a' w' ⟨x,s,h1,h2,β',S',h3⟩=>by
  cases e with
  | normal=>cases h1; exact h2 K hn β' S' a' w' h3
  | exit id=>cases h1; exact ⟨_,s,rfl,h2,β',S',h3⟩
  | ret=>cases h1; exact ⟨_,s,rfl,h2,β',S',h3⟩
  | _=>cases h1)
theorem ARun.cond {c:Operand} {x y:Code} {b:Bool} (hc:(st.get c).bool?=some b) (h:ARun P n0 (if b then x else y) st Q):ARun P n0 (.cond c x y) st Q:=fun K hn β S a w hs=>
 wp_cond ((hs.get c).bool hc) (h K hn β S a w hs)
def BlockQ (id:Nat) (Q:AExit->St->Prop):AExit->St->Prop
 | .exit id',s=>if id'=id then Q .normal s else Q (.exit id') s
 | e,s=>Q e s
theorem ARun.block {id:Nat} {c:Code} (h:ARun P n0 c st (BlockQ id Q)):ARun P n0 (.block id c) st Q:=fun K hn β S a w hs=>
 wp_block (wp_mono (h K hn β S a w hs) fun e a' w' ⟨x,s,h1,h2,h3⟩=>by
  cases e with
  | normal=>cases h1; exact ⟨_,s,rfl,h2,h3⟩
  | exit id'=>
   cases h1
   unfold Exit.inBlock
   unfold BlockQ at h2
   simp only at h2 ⊢
   split
   ·rename_i hid; rw [if_pos hid] at h2; exact ⟨_,s,rfl,h2,h3⟩
   ·rename_i hid; rw [if_neg hid] at h2; exact ⟨_,s,rfl,h2,h3⟩
  | ret=>cases h1; exact ⟨_,s,rfl,h2,h3⟩
  | _=>cases h1)
def LoopQ (I:Nat->St->Prop) (n:Nat) (Q:AExit->St->Prop):AExit->St->Prop
 | .normal,s=>∃ m,m < n/\I m s
 | e,s=>Q e s
theorem ARun.loop {c:Code} (I:Nat->St->Prop) (round:∀ n s,I n s->ARun P n0 c s (LoopQ I n Q)) {n:Nat} (h0:I n st):ARun P n0 (.loop c) st Q:=by
 intro K hn β S a w hs b k cs
 have key:∀ n s β S a w,I n s->Sat K β S s a w ->
   ∃ e a' w',Conc K Q e a' w'/\Arrives P (lone (b.at a (.code c :: .inLoop c :: k)) cs w) b k cs e a' w':=by
  intro n
  induction n using Nat.strongRecOn with
  | _ n ih=>
   intro s β S a w hI hs
   obtain ⟨e,a₁,w₁,⟨x,s1,h1,h2,β1,S1,h3⟩,harr⟩:=round n s hI K hn β S a w hs b (.inLoop c :: k) cs
   cases e with
   | normal=>
    cases h1
    obtain ⟨m,hm,hI1⟩:=h2
    obtain ⟨e₂,a₂,w₂,hq₂,harr₂⟩:=ih m hm s1 β1 S1 a₁ w₁ hI1 h3
    exact ⟨e₂,a₂,w₂,hq₂,.of_steps (Steps.trans harr (.one step_inLoop)) harr₂⟩
   | exit id=>cases h1; exact ⟨_,a₁,w₁,⟨_,s1,rfl,h2,β1,S1,h3⟩,.pass (x:=.inLoop c) rfl (fun _ _=>.inl (by simp)) harr⟩
   | ret=>cases h1; exact ⟨_,a₁,w₁,⟨_,s1,rfl,h2,β1,S1,h3⟩,.pass (x:=.inLoop c) rfl (fun _ _=>.inl (by simp)) harr⟩
   | _=>cases h1
 obtain ⟨e,a',w',hq,harr⟩:=key n st β S a w h0 hs
 exact ⟨e,a',w',hq,.of_steps (.one step_loop) harr⟩
structure St.Le (s s':St):Prop where
 len:s'.tmps.length=s.tmps.length
 hlen:s'.heap.length<=s.heap.length
 tmps:∀ (i:Nat) (x:AV),s'.tmps[i]?=some x->x=.junk ∨ s.tmps[i]?=some x
 heap:∀ b blk,look s'.heap b=some blk->look s.heap b=some blk
def Cell.refsLt (n:Nat):Cell->Bool
 | .t _=>true
 | .ptr b _ _=>decide (b < n)
 | .tp _ _=>true
 | .sl b _ _ _=>decide (b < n)
 | .mp b=>decide (b < n)
 | .clo _ caps=>caps.all fun p=>decide (p.1 < n)
mutual
def AV.refsLt (n:Nat):AV->Bool
 | .c x=>x.refsLt n
 | .agg l=>l.all (·.refsLt n)
 | .tup l=>refsAll n l
 | .junk=>true
def refsAll (n:Nat):List AV->Bool
 | []=>true
 | x :: l=>x.refsLt n && refsAll n l
end
def Blk.refsLt (n:Nat):Blk->Bool
 | .var cells=>cells.all (·.refsLt n)
 | _=>true
def St.refsLt (s:St):Bool:=s.tmps.all (·.refsLt s.heap.length) && s.heap.all fun o=>match o with | some b=>b.refsLt s.heap.length | none=>true
theorem CRep.cut {n:Nat} {c:Cell} {v:Value} (h:CRep β S w c v) (hb:c.refsLt n=true):CRep (fun b=>if b < n then β b else none) S w c v:=by
 cases h with
 | t h=>exact .t h
 | ptr R h=>exact .ptr R (by simp only [Cell.refsLt,decide_eq_true_eq] at hb; rw [if_pos hb]; exact h)
 | tp cb co val h=>exact .tp cb co val h
 | sl R base cap h h1 h2 h3 h4 h5=>exact .sl R base cap (by simp only [Cell.refsLt,decide_eq_true_eq] at hb; rw [if_pos hb]; exact h) h1 h2 h3 h4 h5
 | mp R h=>exact .mp R (by simp only [Cell.refsLt,decide_eq_true_eq] at hb; rw [if_pos hb]; exact h)
 | clo vs h1 h2=>
  refine .clo vs h1 fun i b r c hi=>?_
  obtain ⟨R,e1,e2⟩:=h2 i b r c hi
  have:=List.all_eq_true.1 hb _ (List.mem_of_getElem? hi)
  exact ⟨R,by rw [if_pos (by simpa using this)]; exact e1,e2⟩
theorem refsAll_get {n:Nat}:∀ {l:List AV},refsAll n l=true->∀ (i:Nat) (x:AV),l[i]?=some x->x.refsLt n=true
 | [],_,i,x,hi=>by simp at hi
 | y :: l,h,i,x,hi=>by
  simp only [refsAll,Bool.and_eq_true] at h
  cases i with
  | zero=>simp at hi; subst hi; exact h.1
  | succ i=>exact refsAll_get h.2 i x (by simpa using hi)
theorem VRep.cut {n:Nat} {x:AV} {v:Value} (h:VRep β S w x v):x.refsLt n=true->VRep (fun b=>if b < n then β b else none) S w x v:=by
 induction h with
 | c h=>intro hb; exact .c (h.cut (by simpa [AV.refsLt] using hb))
 | agg vs h1 h2=>
  intro hb
  refine .agg vs h1 fun i c hi=>?_
  obtain ⟨v,e1,e2⟩:=h2 i c hi
  simp only [AV.refsLt] at hb
  exact ⟨v,e1,e2.cut (List.all_eq_true.1 hb c (List.mem_of_getElem? hi))⟩
 | tup vs val h1 h2 _ ih=>
  intro hb
  simp only [AV.refsLt] at hb
  exact .tup vs val h1 h2 fun i x hi=>ih i x hi (refsAll_get hb i x hi)
 | junk v=>intro _; exact .junk v
theorem Sat.weaken {s s':St} (h:Sat K β S s a w) (hl:s.Le s') (hb:s'.refsLt=true) (hn:∀ i R,K.β0 i=some R->i < s'.heap.length):Sat K (fun b=>if b < s'.heap.length then β b else none) S s' a w:=by
 simp only [St.refsLt,Bool.and_eq_true] at hb
 refine ⟨by rw [hl.len]; exact h.len,h.defers,fun t x ht=>?_,fun b R hR=>?_,fun b blk hbk=>?_,fun b b' blk blk' R R' hne h1 h2 hR hR'=>?_,h.sex,h.sin,h.sub,h.keep,fun i R hi=>by rw [if_pos (hn i R hi)]; exact h.arg i R hi⟩
 ·rcases hl.tmps t x ht with rfl | hx
  ·exact .junk _
  ·exact (h.tmps t x hx).cut (List.all_eq_true.1 hb.1 x (List.mem_of_getElem? ht))
 ·split at hR
  ·assumption
  ·cases hR
 ·obtain ⟨R,e1,e2,e3,e4⟩:=h.blk b blk (hl.heap b blk hbk)
  have hlt:=qaw hbk
  refine ⟨R,by rw [if_pos hlt]; exact e1,?_,e3,e4⟩
  cases blk with
  | var cells=>
   refine ⟨e2.1,fun j c hj=>?_⟩
   obtain ⟨v,f1,f2⟩:=e2.2 j c hj
   have hm:some (Blk.var cells) ∈ s'.heap:=by
    unfold look at hbk
    cases hx:s'.heap[b]? with
    | none=>rw [hx] at hbk; cases hbk
    | some y=>rw [hx] at hbk; simp at hbk; subst hbk; exact List.mem_of_getElem? hx
   have:=List.all_eq_true.1 hb.2 _ hm
   simp only [Blk.refsLt] at this
   exact ⟨v,f1,f2.cut (List.all_eq_true.1 this c (List.mem_of_getElem? hj))⟩
  | rows sz rows g fz=>exact e2
  | map ents=>exact e2
  | old sz rows=>exact e2
 ·have l1:=qaw h1
  have l2:=qaw h2
  rw [if_pos l1] at hR
  rw [if_pos l2] at hR'
  exact h.dis b b' blk blk' R R' hne (hl.heap _ _ h1) (hl.heap _ _ h2) hR hR'
theorem ARun.weaken {c:Code} {s s':St} (hl:s.Le s') (hb:s'.refsLt=true) (hk:n0<=s'.heap.length) (h:ARun P n0 c s' Q):ARun P n0 c s Q:=fun K hn β S a w hs=>h K hn _ S a w (hs.weaken hl hb fun i R hi=>Nat.lt_of_lt_of_le (hn i R hi) hk)
end
def argAVs:Nat->List Arg->List AV
 | _,[]=>[]
 | i,.val x :: as=>x.av :: argAVs (i+1) as
 | i,.bor _ rows :: as=>.c (.sl i 0 rows.length false) :: argAVs (i+1) as
 | i,.own _ rows :: as=>.c (.sl i 0 rows.length false) :: argAVs (i+1) as
 | i,.ref _ :: as=>.c (.ptr i 0 0) :: argAVs (i+1) as
 | i,.clo f caps :: as=>.c (.clo f caps) :: argAVs (i+1) as
 | _,.gh _ :: _=>[]
def startSt (args:List Arg) (ntmps:Nat):St:=⟨argAVs 0 args ++ List.replicate (ntmps - nvA args) .junk,args.map Arg.blk⟩
def resAV (C:Cfg) (st:St):ResultVar->Option AV
 | .tmp t=>some (st.tmps.getD t .junk)
 | .cell a t=>match C.ty t,st.tmps.getD a .junk with
  | some ti,.c (.ptr b 0 c)=>match look st.heap b with
   | some (.var cells)=>getCells ti cells c
   | _=>none
  | _,_=>none
def Arg.rc:Arg->Option RC
 | .val x=>some (.val x)
 | .own sz rows=>some (.own sz rows)
 | _=>none
def outOf (h:Hp) (i:Nat):Arg->Option (Option Blk)
 | .bor sz rows=>match h i with
  | some (.rows sz' r false false)=>if sz'=sz/\r.length=rows.length then some (some (.rows sz r false false)) else none
  | _=>none
 | .ref cells=>match h i with
  | some (.var cs)=>match toTrees h cs with
   | some (_,[])=>if cs.length=cells.length then some (some (.var cs)) else none
   | _=>none
  | _=>none
 | .gh cells=>match h i with
  | some (.var cs)=>match toTrees h cs with
   | some (_,[])=>if cs.length=cells.length then some (some (.var cs)) else none
   | _=>none
  | _=>none
 | _=>some none
def outsOf (h:Hp):Nat->List Arg->Option (List (Option Blk))
 | _,[]=>some []
 | i,a :: as=>match outOf h i a,outsOf h (i+1) as with
  | some o,some os=>some (o :: os)
  | _,_=>none
def Arg.lent:Arg->Bool
 | .bor _ _=>true
 | .ref _=>true
 | .gh _=>true
 | _=>false
def finishA (heap:Heap) (avs:List AV) (args:List Arg) (om:List Mode):Option Res:=
 match prepArgs (look heap) om avs with
 | none=>none
 | some (as,marks,bks)=>
  let is:=bks.filterMap Back.id
  if decide is.Nodup && is.all (fun i=>!(ids marks).contains i) && is.all (fun i=>match args[i]? with | some a=>!a.lent | none=>true) then
   match as.mapM Arg.rc,outsOf (look (wrs heap marks)) 0 args with
   | some rcs,some outs=>some ⟨rcs,outs⟩
   | _,_=>none
  else none
def finish (C:Cfg) (st:St) (args:List Arg) (rvs:List ResultVar) (om:List Mode):Option Res:=
 match rvs.mapM (resAV C st) with
 | none=>none
 | some avs=>finishA st.heap avs args om
section
variable {P:Program} {C:Cfg} {K:Ctx} {β:Nat->Option Reg} {S:Place} {st:St} {a:Act} {w:World} {f:FuncId}
def avOf (i:Nat):Arg->AV
 | .val x=>x.av
 | .bor _ rows=>.c (.sl i 0 rows.length false)
 | .own _ rows=>.c (.sl i 0 rows.length false)
 | .ref _=>.c (.ptr i 0 0)
 | .clo f caps=>.c (.clo f caps)
 | .gh _=>.junk
theorem argAVs_get:∀ (args:List Arg) (i0 i:Nat) (x:AV),(argAVs i0 args)[i]?=some x->i < nvA args/\∃ y,args[i]?=some y/\(∀ ts,y ≠ .gh ts)/\x=avOf (i0+i) y
 | [],_,_,_,h=>by simp [argAVs] at h
 | .gh ts :: as,i0,i,x,h=>by simp [argAVs] at h
 | .val y :: as,i0,0,x,h=>by simp [argAVs] at h; exact ⟨by simp [nvA],_,rfl,by simp,h.symm⟩
 | .bor s r :: as,i0,0,x,h=>by simp [argAVs] at h; exact ⟨by simp [nvA],_,rfl,by simp,h.symm⟩
 | .own s r :: as,i0,0,x,h=>by simp [argAVs] at h; exact ⟨by simp [nvA],_,rfl,by simp,h.symm⟩
 | .ref r :: as,i0,0,x,h=>by simp [argAVs] at h; exact ⟨by simp [nvA],_,rfl,by simp,h.symm⟩
 | .clo f r :: as,i0,0,x,h=>by simp [argAVs] at h; exact ⟨by simp [nvA],_,rfl,by simp,h.symm⟩
 | .val y :: as,i0,i+1,x,h=>by
  obtain ⟨h1,z,h2,h3,h4⟩:=argAVs_get as (i0+1) i x (by simpa [argAVs] using h)
  exact ⟨by simp [nvA]; omega,z,by simpa using h2,h3,by rw [h4,show i0+1+i=i0+(i+1) by omega]⟩
 | .bor s r :: as,i0,i+1,x,h=>by
  obtain ⟨h1,z,h2,h3,h4⟩:=argAVs_get as (i0+1) i x (by simpa [argAVs] using h)
  exact ⟨by simp [nvA]; omega,z,by simpa using h2,h3,by rw [h4,show i0+1+i=i0+(i+1) by omega]⟩
 | .own s r :: as,i0,i+1,x,h=>by
  obtain ⟨h1,z,h2,h3,h4⟩:=argAVs_get as (i0+1) i x (by simpa [argAVs] using h)
  exact ⟨by simp [nvA]; omega,z,by simpa using h2,h3,by rw [h4,show i0+1+i=i0+(i+1) by omega]⟩
 | .ref r :: as,i0,i+1,x,h=>by
  obtain ⟨h1,z,h2,h3,h4⟩:=argAVs_get as (i0+1) i x (by simpa [argAVs] using h)
  exact ⟨by simp [nvA]; omega,z,by simpa using h2,h3,by rw [h4,show i0+1+i=i0+(i+1) by omega]⟩
 | .clo f r :: as,i0,i+1,x,h=>by
  obtain ⟨h1,z,h2,h3,h4⟩:=argAVs_get as (i0+1) i x (by simpa [argAVs] using h)
  exact ⟨by simp [nvA]; omega,z,by simpa using h2,h3,by rw [h4,show i0+1+i=i0+(i+1) by omega]⟩
theorem argAVs_length:∀ (args:List Arg) (i0:Nat),(argAVs i0 args).length=nvA args
 | [],_=>rfl
 | x :: as,i0=>by cases x <;> simp [argAVs,nvA,argAVs_length as]
theorem nvA_le:∀ (args:List Arg),nvA args<=args.length
 | []=>Nat.le_refl _
 | x :: as=>by have:=nvA_le as; cases x <;> simp [nvA] <;> omega
theorem look_map (args:List Arg) (b:Nat):look (args.map Arg.blk) b=(args[b]?).bind Arg.blk:=by
 unfold look
 rw [List.getElem?_map]
 cases args[b]? <;> rfl
theorem start_sat {args:List Arg} {vals:List Value} {Rs:Nat->Reg} (hp:CallPre args S w vals Rs) (n:Nat) :
  Sat ⟨w,Lent args Rs,S,βA args Rs⟩ (βA args Rs) S (startSt args n)
   { tmps:=(vals.take (nvA args)).toArray ++ Array.replicate (n - (vals.take (nvA args)).length) undef,defers:=[] } w:=by
 have hnv:=nvA_le args
 have htl:(vals.take (nvA args)).length=nvA args:=by rw [List.length_take,hp.len]; omega
 have hblk:∀ b blk,look (args.map Arg.blk) b=some blk->∃ x,args[b]?=some x/\x.blk=some blk:=by
  intro b blk hb
  rw [look_map] at hb
  obtain ⟨x,h1,h2⟩:=Option.bind_eq_some_iff.1 hb
  exact ⟨x,h1,h2⟩
 have hβ:∀ b x blk,args[b]?=some x->x.blk=some blk->βA args Rs b=some (Rs b):=by
  intro b x blk h1 h2
  unfold βA
  rw [if_pos]; rw [h1]; simp [h2]
 refine ⟨by simp [startSt,argAVs_length,htl],rfl,fun t x ht=>?_,fun b R hb=>?_,fun b blk hb=>?_,fun b b' blk blk' R R' hne hb hb' hR hR' c o hx hy=>?_,hp.sex,fun c o hs=>.inl hs,fun c o hs=>hs,Keep.refl _ _,fun i R hi=>hi⟩
 ·simp only [startSt] at ht
  rw [List.getElem?_append] at ht
  split at ht
  ·rename_i hlt
   obtain ⟨h0,y,h1,hng,h2⟩:=argAVs_get _ _ _ _ ht
   obtain ⟨v,h3,h4⟩:=hp.ok t y h1
   have hv:((vals.take (nvA args)).toArray ++ Array.replicate (n - (vals.take (nvA args)).length) undef).getD t undef=v:=by
    rw [Array.getD_eq_getD_getElem?,Array.getElem?_append,if_pos (by rw [List.size_toArray,htl]; exact h0)]
    simp [h3,h0]
   simp only
   rw [hv]
   cases y with
   | val y=>subst h2; exact VRep.mono h4 (fun _ _ hx=>by cases hx) (fun _ _ hx=>hx) fun _ _ _=>rfl
   | bor sz rows=>
    subst h2
    obtain ⟨⟨base,q1,q2⟩,_,_,q3,_⟩:=h4
    rw [q1]
    exact .c (.sl (Rs t) base _ (by rw [Nat.zero_add]; exact hβ t _ _ h1 rfl) (fun hh=>by cases hh) (fun _=>by omega) q3 (by omega) (fun h0=>by simpa using q2 h0))
   | own sz rows=>
    subst h2
    obtain ⟨⟨base,q1,q2⟩,_,_,q3,_⟩:=h4
    rw [q1]
    exact .c (.sl (Rs t) base _ (by rw [Nat.zero_add]; exact hβ t _ _ h1 rfl) (fun hh=>by cases hh) (fun _=>by omega) q3 (by omega) (fun h0=>by simpa using q2 h0))
   | ref cells=>
    subst h2
    rw [h4.1]
    have:=CRep.ptr (S:=S) (w:=w) (β:=βA args Rs) (b:=0+t) (r:=0) (c:=0) (Rs t) (by rw [Nat.zero_add]; exact hβ t _ _ h1 rfl)
    exact .c (by simpa using this)
   | clo f caps=>subst h2; exact .c (hp.clo t f caps v h1 h3)
   | gh ts=>exact absurd rfl (hng ts)
  ·rw [List.getElem?_replicate] at ht
   split at ht
   ·cases ht; exact .junk _
   ·cases ht
 ·unfold βA at hb
  split at hb
  ·rename_i hs
   obtain ⟨y,hy⟩:=Option.isSome_iff_exists.1 hs
   obtain ⟨x,h1,_⟩:=Option.bind_eq_some_iff.1 hy
   simpa [startSt] using qag h1
  ·cases hb
 ·obtain ⟨x,h1,h2⟩:=hblk b blk hb
  obtain ⟨v,h3,h4⟩:=hp.ok b x h1
  obtain ⟨h5,h6⟩:=hp.ext b x blk h1 h2
  refine ⟨Rs b,hβ b x blk h1 h2,?_,fun c o hx=>⟨h5 c o hx,.inr ⟨b,x,blk,h1,h2,hx⟩⟩,h6⟩
  cases x with
  | val=>cases h2
  | bor sz rows=>cases h2; exact h4.2
  | own sz rows=>cases h2; exact h4.2
  | ref cells=>cases h2; exact h4.2.var_noβ
  | clo=>cases h2
  | gh cells=>cases h2; exact h4.2.var_noβ
 ·obtain ⟨x,h1,h2⟩:=hblk b blk hb
  obtain ⟨x',h1',h2'⟩:=hblk b' blk' hb'
  rw [hβ b x blk h1 h2] at hR; cases hR
  rw [hβ b' x' blk' h1' h2'] at hR'; cases hR'
  exact hp.dis b b' x x' blk blk' hne h1 h1' h2 h2' c o hx hy
def resSem (tmps:Array Value):ResultVar->Sem Value
 | .tmp t=>pure (tmps.getD t undef)
 | .cell a t=>do loadVar t (<- asAddr (tmps.getD a undef))
theorem results_eq (fn:Func) (tmps:Array Value):results fn tmps=(do
  let vs <- fn.results.mapM (resSem tmps)
  pure (if h:vs.size=1 then vs[0] else .tuple vs)):=by
 unfold results
 congr 2
theorem run_resAV (hC:CfgOk P C) (h:Sat K β S st a w) {r:ResultVar} {x:AV} (hr:resAV C st r=some x) :
  ∃ v,(resSem a.tmps r).run P w=.ok v w/\VRep β S w x v:=by
 have hget:∀ t,VRep β S w (st.tmps.getD t .junk) (a.tmps.getD t undef):=fun t=>h.get (.tmp t)
 cases r with
 | tmp t=>
  simp only [resAV] at hr
  cases hr
  exact ⟨_,rfl,hget t⟩
 | cell p t=>
  simp only [resAV] at hr
  split at hr
  ·rename_i ti b c hti hp
   split at hr
   ·rename_i cells hb
    have hv:=hget p
    rw [hp] at hv
    cases hv with | c hv=>
    generalize hpv:a.tmps.getD p undef=pv at hv
    cases hv with | ptr R hR=>
    obtain ⟨R',e1,e2,_⟩:=h.blk b _ hb
    rw [hR] at e1; cases e1
    obtain ⟨u,h3,h4⟩:=load_rep (P:=P) (qah (hC t ti hti)) hr e2.2
    refine ⟨u,?_,h4⟩
    simp only [resSem,hpv,asAddr,Sem.run_bind,Sem.run_pure,Result.andThen]
    rw [show R.co+0*R.stride+c=R.co+c by omega,h3]
   ·cases hr
  ·cases hr
theorem run_results (hC:CfgOk P C) (h:Sat K β S st a w) {fn:Func} {avs:List AV} (hr:fn.results.toList.mapM (resAV C st)=some avs) :
  ∃ vs:List Value,(results fn a.tmps).run P w=.ok (if vs.length=1 then vs.getD 0 undef else .tuple vs.toArray) w/\vs.length=avs.length/\∀ (i:Nat) (x:AV),avs[i]?=some x->∃ v,vs[i]?=some v/\VRep β S w x v:=by
 have gen:∀ (l:List ResultVar) (avs:List AV),l.mapM (resAV C st)=some avs->∃ vs:List Value,(l.mapM (resSem a.tmps)).run P w=.ok vs w/\vs.length=avs.length/\∀ (i:Nat) (x:AV),avs[i]?=some x->∃ v,vs[i]?=some v/\VRep β S w x v:=by
  intro l
  induction l with
  | nil=>intro avs hl; simp at hl; subst hl; exact ⟨[],by simp,rfl,by simp⟩
  | cons r l ih=>
   intro avs hl
   rw [List.mapM_cons] at hl
   cases h1:resAV C st r with
   | none=>rw [h1] at hl; cases hl
   | some x=>
    cases h2:l.mapM (resAV C st) with
    | none=>rw [h1,h2] at hl; cases hl
    | some xs=>
     rw [h1,h2] at hl; cases hl
     obtain ⟨v,e1,e2⟩:=run_resAV (P:=P) hC h h1
     obtain ⟨vs,f1,f2,f3⟩:=ih xs h2
     refine ⟨v :: vs,?_,by simp [f2],fun i y hi=>?_⟩
     ·simp only [List.mapM_cons,Sem.run_bind,e1,Result.andThen,f1,Sem.run_pure]
     ·cases i with
      | zero=>simp at hi; subst hi; exact ⟨v,rfl,e2⟩
      | succ i=>simpa using f3 i y (by simpa using hi)
 obtain ⟨vs,f1,f2,f3⟩:=gen _ avs hr
 refine ⟨vs,?_,f2,f3⟩
 have harr:fn.results=fn.results.toList.toArray:=by simp
 rw [results_eq,harr,List.mapM_toArray]
 simp only [Sem.run_bind,Sem.run_map,f1,Result.andThen,Sem.run_pure]
 congr 1
 by_cases h1:vs.length=1
 ·obtain ⟨v,rfl⟩:∃ v,vs=[v]:=by
   match vs,h1 with
   | [v],_=>exact ⟨v,rfl⟩
  simp
 ·simp [h1]
theorem mapM_rc:∀ {as:List Arg} {rcs:List RC},as.mapM Arg.rc=some rcs->rcs.length=as.length/\∀ (k:Nat) (r:RC),rcs[k]?=some r->∃ x:Arg,as[k]?=some x/\x.rc=some r:=fun h=>mapM_some h
theorem outsOf_get {h:Hp}:∀ {args:List Arg} {i0:Nat} {outs:List (Option Blk)},outsOf h i0 args=some outs->∀ (i:Nat) (o:Option Blk),outs[i]?=some o->∃ x,args[i]?=some x/\outOf h (i0+i) x=some o
 | [],_,outs,ho,i,o,hi=>by simp [outsOf] at ho; subst ho; simp at hi
 | x :: as,i0,outs,ho,i,o,hi=>by
  unfold outsOf at ho
  split at ho
  ·rename_i o1 os h1 h2
   cases ho
   cases i with
   | zero=>simp at hi; subst hi; exact ⟨x,rfl,h1⟩
   | succ i=>
    obtain ⟨y,e1,e2⟩:=outsOf_get h2 i o (by simpa using hi)
    exact ⟨y,by simpa using e1,by rw [show i0+(i+1)=i0+1+i by omega]; exact e2⟩
  ·cases ho
theorem post_of {args:List Arg} {Rs:Nat->Reg} {r0:Res} {S S1:Place} {w w':World} {β':Nat->Option Reg} {a':Act} {tm:List AV} {heap:Heap} {om:List Mode} {avs:List AV} {vs:List Value} (hs:Sat ⟨w,Lent args Rs,S,βA args Rs⟩ β' S1 ⟨tm,heap⟩ a' w')
  (r2:vs.length=avs.length) (r3:∀ (i:Nat) (x:AV),avs[i]?=some x->∃ v,vs[i]?=some v/\VRep β' S1 w' x v) (hfin:finishA heap avs args om=some r0):CallPost args r0 S w Rs (if vs.length=1 then vs.getD 0 undef else .tuple vs.toArray) w':=by
 unfold finishA at hfin
 split at hfin
 ·cases hfin
 ·rename_i as marks bks hprep
  simp only at hfin
  split at hfin
  ·rename_i hchk
   simp only [Bool.and_eq_true] at hchk
   obtain ⟨⟨hc1,hc2⟩,hc3⟩:=hchk
   have hnd:(bks.filterMap Back.id).Nodup:=by simpa using hc1
   have hnm:∀ i ∈ bks.filterMap Back.id,i ∉ ids marks:=fun i hi=>by
    have:=List.all_eq_true.1 hc2 i hi
    simpa using this
   have hnl:∀ i ∈ bks.filterMap Back.id,∀ y,args[i]?=some y->y.lent=false:=fun i hi y hy=>by
    have:=List.all_eq_true.1 hc3 i hi
    rw [hy] at this
    simpa using this
   split at hfin
   ·rename_i rcs outs hrcs houts
    cases hfin
    obtain ⟨S2,hS2,h2,hm2,hl1,hl2,Rr,hlink⟩:=prepArgs_rep (fun b blk hb=>by obtain ⟨R,hR,_⟩:=hs.blk b blk hb; exact ⟨R,hR⟩) om avs vs heap S1 as marks bks hs (Marked.refl _) r2 r3 hprep
    have hlink2:∀ (i:Nat) (x:Arg),as[i]?=some x->∃ b v,bks[i]?=some b/\vs[i]?=some v/\Link β' (wrs heap marks) S2 w' x b (Rr i) v:=by
     intro i x hi
     obtain ⟨b,v,e1,e2,e3⟩:=hlink i x hi
     exact ⟨b,v,e1,e2,e3.heap fun bi hb=>qan marks heap (hnm bi (List.mem_filterMap.2 ⟨b,List.mem_of_getElem? e1,hb⟩))⟩
    have hnoclo:∀ (i:Nat) (f:FuncId) (caps:List (Nat × Nat × Nat)),as[i]? ≠ some (.clo f caps):=by
     intro i f caps hi
     have hlt:=qag hi
     obtain ⟨hrl,hrg⟩:=mapM_rc hrcs
     obtain ⟨r,hr⟩:∃ r,rcs[i]?=some r:=⟨_,List.getElem?_eq_getElem (by omega)⟩
     obtain ⟨x,e1,e2⟩:=hrg i r hr
     rw [hi] at e1; cases e1; cases e2
    have hpre:=callPre_of h2 (by omega) hnd hlink2 fun i f caps v hi _=>absurd hi (hnoclo i f caps)
    obtain ⟨hrl,hrg⟩:=mapM_rc hrcs
    have hown:∀ (k sz:Nat) (rows:List (List Tree)),rcs[k]?=some (.own sz rows)->as[k]?=some (.own sz rows):=by
     intro k sz rows hk
     obtain ⟨x,e1,e2⟩:=hrg k _ hk
     cases x with
     | own sz' rows'=>cases e2; exact e1
     | val=>cases e2
     | bor=>cases e2
     | ref=>cases e2
     | clo=>cases e2
     | gh=>cases e2
    have hpost:CallPost args ⟨rcs,outs⟩ S w Rs (if vs.length=1 then vs.getD 0 undef else .tuple vs.toArray) w':=by
     refine ⟨S2,Rr,vs,by simp; omega,rfl,h2.keep,h2.sub,fun c o hs'=>?_,fun k r hk=>?_,fun k sz rows hk=>?_,fun k l sz sz' rows rows' hne hk hl'=>?_,fun i blk hi=>?_⟩
     ·rcases h2.sin c o hs' with h | h
      ·exact .inl h
      ·exact .inr ⟨h2.sex c o hs',h⟩
     ·obtain ⟨x,e1,e2⟩:=hrg k r hk
      obtain ⟨v,e3,e4⟩:=hpre.ok k x e1
      refine ⟨v,e3,?_⟩
      cases x with
      | val x=>cases e2; exact e4
      | own sz rows=>cases e2; exact e4
      | bor=>cases e2
      | ref=>cases e2
      | clo=>cases e2
      | gh=>cases e2
     ·have h1:=hown k sz rows hk
      obtain ⟨b,v,_,_,e3⟩:=hlink2 k _ h1
      rcases (e3.blkOk h2).2 _ rfl with ⟨bi,B,RB,g1,g2,g3,g4,g5⟩ | ⟨_,g⟩
      ·obtain ⟨R',k1,_,k3,k4⟩:=h2.blk bi B g2
       rw [g3] at k1; cases k1
       exact ⟨fun c o hx=>k3 c o (g4 c o hx),fun c o hx=>k4 c o (g5 c o hx)⟩
      ·exact ⟨fun c o hx=>absurd hx (g c o),fun c o hx=>absurd (Blk.wr_ext hx) (g c o)⟩
     ·exact hpre.dis k l _ _ _ _ hne (hown k sz rows hk) (hown l sz' rows' hl') rfl rfl
     ·obtain ⟨x,e1,e2⟩:=outsOf_get houts i _ hi
      rw [Nat.zero_add] at e2
      have hreg:∀ b0,x.blk=some b0->β' i=some (Rs i):=fun b0 hb0=>h2.arg i (Rs i) (by
       simp only [Abs.βA]
       rw [if_pos]; rw [e1]; simp [hb0])
      have hres:∀ (k sz:Nat) (rows:List (List Tree)) (B:Blk),x.lent=true->look (wrs heap marks) i=some B->β' i=some (Rs i)->rcs[k]?=some (.own sz rows)->∀ c o,B.ext (Rs i) c o->¬ (Blk.rows sz rows true false).ext (Rr k) c o:=by
       intro k sz rows B hlent hB hR hk c o hx hy
       obtain ⟨b,v,f1,_,f3⟩:=hlink2 k _ (hown k sz rows hk)
       rcases (f3.blkOk h2).2 _ rfl with ⟨bi,B',RB,g1,g2,g3,g4,_⟩ | ⟨_,g⟩
       ·have hne:i ≠ bi:=by
         rintro rfl
         have:=hnl i (List.mem_filterMap.2 ⟨b,List.mem_of_getElem? f1,g1⟩) x e1
         rw [hlent] at this; cases this
        exact h2.dis i bi B B' (Rs i) RB hne hB g2 hR g3 c o hx (g4 c o hy)
       ·exact g c o hy
      cases x with
      | val=>simp [outOf] at e2
      | own=>simp [outOf] at e2
      | bor sz rows=>
       simp only [outOf] at e2
       split at e2
       ·rename_i sz' r hb
        split at e2
        ·rename_i hc
         obtain ⟨rfl,hrl⟩:=hc
         cases e2
         have hR:=hreg _ rfl
         obtain ⟨R',k1,k2,k3,k4⟩:=h2.blk i _ hb
         rw [hR] at k1; cases k1
         refine ⟨_,_,e1,rfl,fun c o hx=>?_,k2,k4,fun k sz2 rows2 hk=>hres k sz2 rows2 _ rfl hb hR hk⟩
         rw [Blk.ext,hrl] at hx; exact hx
        ·cases e2
       ·cases e2
      | ref cells=>
       simp only [outOf] at e2
       split at e2
       ·rename_i cs hb
        split at e2
        ·rename_i ts hts
         split at e2
         ·rename_i hcl
          cases e2
          have htree:=qby hts rfl
          subst htree
          have hR:=hreg _ rfl
          obtain ⟨R',k1,k2,k3,k4⟩:=h2.blk i _ hb
          rw [hR] at k1; cases k1
          refine ⟨_,_,e1,rfl,fun c o hx=>?_,⟨k2.1,fun j c hj=>?_⟩,k4,fun k sz2 rows2 hk=>hres k sz2 rows2 _ rfl hb hR hk⟩
          ·rw [Blk.ext,hcl] at hx; simpa [Blk.ext] using hx
          ·obtain ⟨v,q1,q2⟩:=k2.2 j c hj
           obtain ⟨t,_,rfl⟩:=map_t hj
           refine ⟨v,q1,?_⟩
           cases q2 with | t q2=>exact .t q2
         ·cases e2
        ·cases e2
       ·cases e2
      | clo=>simp [outOf] at e2
      | gh cells=>
       simp only [outOf] at e2
       split at e2
       ·rename_i cs hb
        split at e2
        ·rename_i ts hts
         split at e2
         ·rename_i hcl
          cases e2
          have htree:=qby hts rfl
          subst htree
          have hR:=hreg _ rfl
          obtain ⟨R',k1,k2,k3,k4⟩:=h2.blk i _ hb
          rw [hR] at k1; cases k1
          refine ⟨_,_,e1,rfl,fun c o hx=>?_,⟨k2.1,fun j c hj=>?_⟩,k4,fun k sz2 rows2 hk=>hres k sz2 rows2 _ rfl hb hR hk⟩
          ·rw [Blk.ext,hcl] at hx; simpa [Blk.ext] using hx
          ·obtain ⟨v,q1,q2⟩:=k2.2 j c hj
           obtain ⟨t,_,rfl⟩:=map_t hj
           refine ⟨v,q1,?_⟩
           cases q2 with | t q2=>exact .t q2
         ·cases e2
        ·cases e2
       ·cases e2
    exact hpost
   ·cases hfin
  ·cases hfin
theorem calls_of_body (hC:CfgOk P C) {fn:Func} {c:Code} {args:List Arg} {R:Res->Prop} {om:List Mode} (hfn:P.funcs[f]?=some fn) (hbody:fn.body=some c)
  (hrun:ARun P args.length c (startSt args fn.ntmps) fun e s=>(e=.normal ∨ e=.ret)/\∃ r,R r/\finish C s args fn.results.toList om=some r)
  (S:Place) (w:World) (vals:List Value) (Rs:Nat->Reg) (hp:CallPre args S w vals Rs):Calls P f (vals.take (nvA args)).toArray w fun e w'=>∃ v r,e=.returned v/\R r/\CallPost args r S w Rs v w':=by
 refine calls_of_wp hfn hbody ?_
 have hsat:=start_sat hp fn.ntmps
 have hsz:(vals.take (nvA args)).toArray.size=(vals.take (nvA args)).length:=by simp
 rw [hsz]
 refine wp_mono (hrun _ (fun i R hi=>?_) _ S _ w hsat) fun e a' w' ⟨x,s,hx,⟨hxe,r0,hr0,hfin⟩,β',S1,hs⟩=>?_
 ·simp only [βA] at hi
  split at hi
  ·rename_i h1
   obtain ⟨y,hy⟩:=Option.isSome_iff_exists.1 h1
   obtain ⟨z,h2,_⟩:=Option.bind_eq_some_iff.1 hy
   exact qag h2
  ·cases hi
 unfold finish at hfin
 split at hfin
 ·cases hfin
 ·rename_i avs havs
  obtain ⟨vs,r1,r2,r3⟩:=run_results (P:=P) hC hs havs
  have hpost:=post_of hs r2 r3 hfin
  have hend:∃ v,(results fn a'.tmps).run P w'=.ok v w'/\∃ u r,Ending.returned v=.returned u/\R r/\CallPost args r S w Rs u w':=⟨_,r1,_,_,rfl,hr0,hpost⟩
  cases e with
  | normal=>exact ⟨hs.defers,hend⟩
  | ret=>exact ⟨hs.defers,hend⟩
  | exit id=>cases hx; rcases hxe with h | h <;> cases h
  | goto=>cases hx
  | panic=>cases hx
  | outgrown=>cases hx
theorem ACall.of_body (hC:CfgOk P C) {fn:Func} {c:Code} {args:List Arg} {res:Res} {om:List Mode} (hfn:P.funcs[f]?=some fn) (hname:(fn.name == "runtime.NumGoroutine")=false) (hbody:fn.body=some c)
  (hrun:ARun P args.length c (startSt args fn.ntmps) fun e s=>(e=.normal ∨ e=.ret)/\finish C s args fn.results.toList om=some res):ACall P f args res:=by
 refine ⟨⟨fn,hfn,by rw [hbody]; rfl,hname⟩,fun S w vals Rs hp=>(calls_of_body hC (R:=(·=res)) (om:=om) hfn hbody (fun K hn β S a w hs=>wp_mono (hrun K hn β S a w hs) fun e a' w' ⟨x,s,h1,h2,h3⟩=>⟨x,s,h1,⟨h2.1,res,rfl,h2.2⟩,h3⟩) S w vals Rs hp).mono ?_⟩
 rintro e w' ⟨v,r,h1,rfl,h2⟩
 exact ⟨v,h1,h2⟩
end
theorem ids_append (a b:List (Nat × Option Blk)):ids (a ++ b)=ids a ++ ids b:=by simp [ids]
theorem toTree_local {h h':Hp} {c:Cell} {t:Tree} {m:List (Nat × Option Blk)} (ht:toTree h c=some (t,m)) (hh:∀ b ∈ ids m,h' b=h b):toTree h' c=some (t,m):=by
 cases c with
 | t x=>exact ht
 | sl b off len cp=>
  have hb:h' b=h b:=by
   apply hh
   unfold toTree at ht
   simp only at ht
   split at ht
   ·split at ht
    ·cases ht; simp [ids]
    ·cases ht
   ·cases ht
  unfold toTree at ht ⊢
  simp only at ht ⊢
  rw [hb]; exact ht
 | _=>simp [toTree] at ht
theorem qa9 {h h':Hp}:∀ {cs:List Cell} {ts:List Tree} {m:List (Nat × Option Blk)},toTrees h cs=some (ts,m)->(∀ b ∈ ids m,h' b=h b)->toTrees h' cs=some (ts,m)
 | [],ts,m,ht,_=>ht
 | c :: cs,ts,m,ht,hh=>by
  unfold toTrees at ht
  split at ht
  ·rename_i t1 m1 h1
   split at ht
   ·rename_i ts2 m2 h2
    cases ht
    rw [ids_append] at hh
    have e1:=toTree_local (h':=h') h1 fun b hb=>hh b (List.mem_append_left _ hb)
    have e2:=qa9 (h':=h') h2 fun b hb=>hh b (List.mem_append_right _ hb)
    try simp only [toTrees,e1,e2]
   ·cases ht
  ·cases ht
theorem rowsOf_local {h h':Hp} {x:AV} {r:List (List Tree)} {rd:List Nat} (hr:rowsOf h x=some (r,rd)) (hh:∀ b ∈ rd,h' b=h b):rowsOf h' x=some (r,rd):=by
 unfold rowsOf at hr ⊢
 split at hr
 ·exact hr
 ·rename_i b off len cp
  have hb:h' b=h b:=by
   apply hh
   split at hr
   ·split at hr
    ·cases hr; simp
    ·cases hr
   ·split at hr
    ·cases hr; simp
    ·cases hr
   ·cases hr
  try simp only
  rw [hb]; exact hr
 ·exact hr
 ·exact hr
 ·cases hr
theorem fillRows_local {h h':Hp} {size:Nat}:∀ {pa:List (Nat × AV)} {rows r:List (List Tree)} {m:List (Nat × Option Blk)},fillRows h size rows pa=some (r,m)->(∀ b ∈ ids m,h' b=h b)->fillRows h' size rows pa=some (r,m)
 | [],rows,r,m,hf,_=>hf
 | (i,v) :: pa,rows,r,m,hf,hh=>by
  unfold fillRows at hf
  split at hf
  ·rename_i x hx
   split at hf
   ·rename_i hc
    split at hf
    ·rename_i ts m1 h1
     split at hf
     ·rename_i r2 m2 h2
      cases hf
      rw [ids_append] at hh
      have e1:=qa9 (h':=h') h1 fun b hb=>hh b (List.mem_append_left _ hb)
      have e2:=fillRows_local (h':=h') h2 fun b hb=>hh b (List.mem_append_right _ hb)
      try simp only [fillRows,hx,e1,e2]
      try rw [if_pos hc]
     ·cases hf
    ·cases hf
   ·cases hf
  ·cases hf
theorem evAppC_local {ti:TI} {slot:Nat} {h h':Hp} {s x:AV} {e:Eff} (he:evAppC ti slot h s x=some e) (hh:∀ b ∈ e.rd,h' b=h b):evAppC ti slot h' s x=some e:=by
 unfold evAppC at he
 split at he
 ·rename_i b off len b' off' len' cp'
  split at he
  ·rename_i cs ns hb hb'
   split at he
   ·rename_i hc
    cases he
    have e1:h' b=h b:=hh b (by simp)
    have e2:h' b'=h b':=hh b' (by simp)
    simp only [evAppC,e1,e2,hb,hb']
    rw [if_pos hc]
   ·cases he
  ·cases he
 ·cases he
theorem evAppend_local {ti:TI} {slot:Nat} {h h':Hp} {s x:AV} {e:Eff} (he:evAppend ti slot h s x=some e) (hh:∀ b ∈ e.rd,h' b=h b):evAppend ti slot h' s x=some e:=by
 unfold evAppend at he
 split at he
 ·have h1:=evAppC_local he hh
  unfold evAppend
  rw [evAppC_rows h1]; exact h1
 ·rename_i new rdx hr
  split at he
  ·rename_i h0
   split at he
   ·rename_i hs
    cases he
    have:=rowsOf_local (h':=h') hr hh
    try simp only [evAppend,this]
    try rw [if_pos h0,if_pos hs]
   ·cases he
  ·rename_i h0
   split at he
   ·cases he
   ·rename_i hall
    split at he
    ·rename_i rows
     split at he
     ·rename_i hc
      cases he
      have:=rowsOf_local (h':=h') hr hh
      try simp only [evAppend,this]
      try rw [if_neg h0,if_neg hall,if_pos hc]
     ·cases he
    ·rename_i b off len cp
     split at he
     ·rename_i sz rows g fz hb
      split at he
      ·cases he
      ·rename_i hc
       have fin:∀ rd',e.rd=b :: rd'->rdx=rd'->evAppend ti slot h' (.c (.sl b off len cp)) x=evAppend ti slot h (.c (.sl b off len cp)) x:=by
        rintro rd' e1 rfl
        have e2:=rowsOf_local (h':=h') hr fun b hb=>hh b (by rw [e1]; exact List.mem_cons_of_mem _ hb)
        have e3:h' b=h b:=hh b (by rw [e1]; exact List.mem_cons_self ..)
        try simp only [evAppend,e2,hr,e3]
       have hsame:evAppend ti slot h (.c (.sl b off len cp)) x=some e:=by
        try simp only [evAppend,hr,hb]
        try rw [if_neg h0,if_neg hall,if_neg hc]
        exact he
       have hrd:e.rd=b :: rdx:=by
        split at he
        ·cases he; rfl
        ·split at he
         ·split at he
          ·cases he; rfl
          ·cases he
         ·split at he
          ·cases he; rfl
          ·cases he
       rw [fin rdx hrd rfl]; exact hsame
     ·cases he
    ·cases he
theorem evCopy_local {ti:TI} {h h':Hp} {d x:AV} {e:Eff} (he:evCopy ti h d x=some e) (hh:∀ b ∈ e.rd,h' b=h b):evCopy ti h' d x=some e:=by
 unfold evCopy at he
 split at he
 ·rename_i src rdx b off len cp hr
  split at he
  ·rename_i sz rows g hb
   split at he
   ·rename_i hc
    cases he
    have e2:=rowsOf_local (h':=h') hr fun b hb=>hh b (List.mem_cons_of_mem _ hb)
    have e3:h' b=h b:=hh b (List.mem_cons_self ..)
    try simp only [evCopy,e2,e3,hb]
    try rw [if_pos hc]
   ·cases he
  ·cases he
 ·cases he
theorem evLen_local {C:Cfg} {t:TypeId} {h h':Hp} {x:AV} {e:Eff} (he:evLen C h t x=some e) (hh:∀ b ∈ e.rd,h' b=h b):evLen C h' t x=some e:=by
 unfold evLen at he ⊢
 split at he
 ·cases he
 ·rename_i ti hti
  try simp only [hti]
  split at he
  ·exact he
  ·exact he
  ·exact he
  ·exact he
  ·rename_i b hk
   split at he
   ·rename_i ents hb
    cases he
    have e3:h' b=h b:=hh b (List.mem_cons_self ..)
    try simp only [e3,hb]
   ·cases he
  ·cases he
theorem evConvert_local {C:Cfg} {s d:TypeId} {h h':Hp} {x:AV} {e:Eff} (he:evConvert C h s d x=some e) (hh:∀ b ∈ e.rd,h' b=h b):evConvert C h' s d x=some e:=by
 unfold evConvert at he ⊢
 split at he
 ·rename_i ts td hts htd
  split at he
  ·simp only [*]
  ·simp only [*]
  ·rename_i el hk1 hk2
   split at he
   ·rename_i te rows rd hte hr
    split at he
    ·rename_i l h1 h2 h3
     cases he
     have e2:=rowsOf_local (h':=h') hr hh
     try simp only [*]
    ·cases he
   ·cases he
  ·cases he
 ·cases he
theorem evSlice_local {C:Cfg} {t:TypeId} {h h':Hp} {x:AV} {lo hi mx:Option AV} {e:Eff} (he:evSlice C h t x lo hi mx=some e) (hh:∀ b ∈ e.rd,h' b=h b):evSlice C h' t x lo hi mx=some e:=by
 unfold evSlice at he ⊢
 split at he
 ·cases he
 ·rename_i ti hti
  try simp only [hti]
  split at he
  ·rename_i l hi' m h1 h2 h3
   try simp only [h1,h2,h3]
   split at he
   ·exact he
   ·rename_i el b off len cp hk
    simp only at he ⊢
    split at he
    ·rename_i hc
     try rw [if_pos hc]
     split at he
     ·rename_i sz rows g fz te hb hte
      split at he
      ·rename_i hc2
       cases he
       have e3:h' b=h b:=hh b (List.mem_cons_self ..)
       try simp only [e3,hb,hte]
       try rw [if_pos hc2]
      ·cases he
     ·rename_i m' sz rows g fz te hb hte
      split at he
      ·rename_i hc2
       cases he
       have e3:h' b=h b:=hh b (List.mem_cons_self ..)
       try simp only [e3,hb,hte]
       try rw [if_pos hc2]
      ·cases he
     ·rename_i cells te hb hte
      split at he
      ·rename_i hc2
       cases he
       have e3:h' b=h b:=hh b (List.mem_cons_self ..)
       try simp only [e3,hb,hte]
       try rw [if_pos hc2]
      ·cases he
     ·cases he
    ·cases he
   ·exact he
   ·rename_i n el b r c hk
    simp only at he ⊢
    split at he
    ·rename_i cells te hb hte
     split at he
     ·rename_i hc
      split at he
      ·rename_i ts hts
       cases he
       have e3:h' b=h b:=hh b (List.mem_cons_self ..)
       simp only [e3,hb,hte]
       rw [if_pos hc,hts]
      ·cases he
     ·cases he
    ·cases he
   ·cases he
  ·cases he
theorem updH_local {h h':Hp} {b:Nat}:∀ (ws:List (Nat × Option Blk)) {h h':Hp},h' b=h b->updH h' ws b=updH h ws b
 | [],h,h',e=>e
 | p :: l,h,h',e=>by
  unfold updH
  refine updH_local (h:=h) (h':=h') l ?_
  show (match Nat.beq b p.1 with | true=>p.2 | false=>h' b)=match Nat.beq b p.1 with | true=>p.2 | false=>h b
  rw [e]
theorem capFix_local:∀ (l:List (Nat × Nat × Nat)) {h h':Hp} {ws:List (Nat × Option Blk)},capFix h l=some ws->(∀ b ∈ capIds1 l ++ ids ws,h' b=h b)->capFix h' l=some ws
 | [],h,h',ws,hw,_=>hw
 | (b,r,c) :: l,h,h',ws,hw,hh=>by
  have hb:h' b=h b:=hh b (by simp [capIds1])
  unfold capFix at hw ⊢
  rw [hb]
  cases hx:h b with
  | none=>
   rw [hx] at hw
   exact capFix_local l hw fun x hx=>hh x (by simp only [capIds1,List.mem_append,List.mem_cons] at hx ⊢; rcases hx with hx | hx; exact .inl (.inr hx); exact .inr hx)
  | some blk=>
   rw [hx] at hw
   cases blk with
   | var cells=>
    simp only at hw ⊢
    cases hs:hasSl cells with
    | true=>
     rw [hs] at hw
     simp only at hw ⊢
     split at hw
     ·rename_i ts m ht
      split at hw
      ·rename_i ws2 hw2
       cases hw
       have e1:=qa9 (h':=h') ht fun x hx=>hh x (by simp [capIds1,ids] at hx ⊢; exact .inr (.inr (.inl hx)))
       have e2:=capFix_local l (h':=updH h' (m ++ [(b,some (.var (ts.map .t)))])) hw2 fun x hx=>updH_local (h:=h) (h':=h') _ (hh x (by
        simp only [capIds1,ids,List.map_append,List.map_cons,List.mem_append,List.mem_cons] at hx ⊢
        rcases hx with hx | hx
        ·exact .inl (.inr hx)
        ·exact .inr (.inr (.inr hx))))
       rw [e1]
       simp only [e2]
      ·cases hw
     ·cases hw
    | false=>
     rw [hs] at hw
     exact capFix_local l hw fun x hx=>hh x (by simp only [capIds1,List.mem_append,List.mem_cons] at hx ⊢; rcases hx with hx | hx; exact .inl (.inr hx); exact .inr hx)
   | _=>exact capFix_local l hw fun x hx=>hh x (by simp only [capIds1,List.mem_append,List.mem_cons] at hx ⊢; rcases hx with hx | hx; exact .inl (.inr hx); exact .inr hx)
theorem capEff_local {h h':Hp} {f:FuncId} {l:List (Nat × Nat × Nat)} {e:Eff} (he:capEff h f l=some e) (hh:∀ b ∈ e.rd,h' b=h b):capEff h' f l=some e:=by
 unfold capEff at he ⊢
 split at he
 ·rename_i ws hw
  cases he
  rw [capFix_local l hw hh]
 ·cases he
theorem evalOp_local {C:Cfg} {slot:Nat} {σ:Operand->AV} {h h':Hp} {op:Op} {e:Eff} (he:evalOp C slot σ h op=some e) (hh:∀ b ∈ e.rd,h' b=h b):evalOp C slot σ h' op=some e:=by
 cases op with
 | load t a=>
  simp only [evalOp] at he ⊢
  split at he
  ·rename_i ti hti
   try simp only [hti]
   split at he
   ·rename_i b r c hg
    have hb:b ∈ e.rd:=by
     split at he
     ·split at he
      ·obtain ⟨v,_,rfl⟩:=Option.map_eq_some_iff.1 he; simp
      ·cases he
     ·split at he
      ·obtain ⟨v,_,rfl⟩:=Option.map_eq_some_iff.1 he; simp
      ·cases he
     ·cases he
    simp only [hh b hb]; exact he
   ·exact he
   ·cases he
  ·cases he
 | store t a x=>
  simp only [evalOp] at he ⊢
  split at he
  ·rename_i ti cs hti hcs
   try simp only [hti,hcs]
   split at he
   ·rename_i hsz
    try rw [if_pos hsz]
    split at he
    ·rename_i b r c hg
     split at he
     ·rename_i cells hb
      split at he
      ·rename_i hc
       cases he
       have e3:h' b=h b:=hh b (List.mem_cons_self ..)
       try simp only [e3,hb]
       try rw [if_pos hc]
      ·cases he
     ·rename_i sz rows g hb
      split at he
      ·rename_i row ts m hrow hts
       split at he
       ·rename_i hc
        cases he
        have e3:h' b=h b:=hh b (List.mem_cons_self ..)
        have e4:=qa9 (h':=h') hts fun b hb=>hh b (List.mem_cons_of_mem _ hb)
        try simp only [e3,hb,hrow,e4]
        try rw [if_pos hc]
       ·cases he
      ·cases he
     ·cases he
    ·cases he
   ·cases he
  ·cases he
 | buildSlice t len parts=>
  simp only [evalOp] at he ⊢
  split at he
  ·rename_i ti hti
   try simp only [hti]
   split at he
   ·rename_i el hk
    split at he
    ·rename_i te hte
     try simp only [hte]
     split at he
     ·rename_i hc
      try rw [if_pos hc]
      split at he
      ·rename_i e1 h1
       cases he
       simp only [h1]
      ·rename_i h0
       split at he
       ·rename_i rows m hf
        cases he
        rw [fillRows_local (h':=h') hf hh]
       ·cases he
     ·cases he
    ·cases he
   ·cases he
  ·cases he
 | convert s d x=>simp only [evalOp] at he ⊢; exact evConvert_local he hh
 | slice t x lo hi mx=>simp only [evalOp] at he ⊢; exact evSlice_local he hh
 | indexAddr t x i=>
  simp only [evalOp] at he ⊢
  split at he
  ·rename_i ti n hti hn
   try simp only [hti,hn]
   split at he
   ·exact he
   ·rename_i el hk
    split at he
    ·rename_i te hte
     try simp only [hte]
     split at he
     ·rename_i b off len cp hg
      have hb:b ∈ e.rd:=by
       split at he
       ·split at he
        ·cases he; simp
        ·cases he
       ·split at he
        ·cases he; simp
        ·cases he
       ·cases he
      simp only [hh b hb]; exact he
     ·exact he
     ·cases he
    ·cases he
   ·cases he
  ·cases he
 | lookup t x i ok=>
  simp only [evalOp] at he ⊢
  split at he
  ·rename_i ti hti
   try simp only [hti]
   split at he
   ·rename_i k el b key hk hgx hgi
    have hb:b ∈ e.rd:=by
     split at he
     ·split at he
      ·cases he
      ·split at he
       ·cases he; simp
       ·cases he; simp
       ·cases he
     ·cases he
    simp only [hh b hb]; exact he
   ·cases he
  ·cases he
 | mapUpdate t x i v=>
  simp only [evalOp] at he ⊢
  split at he
  ·rename_i ti hti
   try simp only [hti]
   split at he
   ·rename_i k el b key tv hk hgx hgi hgv
    have hb:b ∈ e.rd:=by
     split at he
     ·split at he
      ·cases he
      ·split at he
       ·cases he; simp
       ·cases he
     ·cases he
    simp only [hh b hb]; exact he
   ·cases he
  ·cases he
 | call c=>
  obtain ⟨callee,args,argTypes⟩:=c
  cases callee with
  | builtin b=>
   simp only [evalOp] at he ⊢
   split at he
   ·exact evLen_local he hh
   ·split at he
    ·rename_i ti hti
     try simp only [hti]
     split at he
     ·split at he
      ·rename_i te t1 hte ht1
       try simp only [hte,ht1]
       split at he
       ·rename_i ti1 hti1
        try simp only [hti1]
        split at he
        ·split at he
         ·cases he
         ·rename_i hz
          try rw [if_neg hz]
          exact evAppend_local he hh
        ·split at he
         ·cases he
         ·rename_i hz
          try rw [if_neg hz]
          exact evAppend_local he hh
        ·cases he
       ·cases he
      ·cases he
     ·cases he
    ·cases he
   ·split at he
    ·rename_i ti hti
     try simp only [hti]
     split at he
     ·split at he
      ·rename_i te hte
       try simp only [hte]
       split at he
       ·cases he
       ·rename_i hz
        try rw [if_neg hz]
        exact evCopy_local he hh
      ·cases he
     ·cases he
    ·cases he
   ·exact he
   ·exact he
   ·cases he
  | _=>simp [evalOp] at he
 | makeFunc fn first caps=>
  cases fn with
  | func f=>
   simp only [evalOp] at he ⊢
   split at he
   ·rename_i hz
    rw [if_pos hz]
    split at he
    ·rename_i l hb hl
     try simp only [hb,hl]
     exact capEff_local he hh
    ·cases he
   ·rename_i hz
    rw [if_neg hz]
    exact he
  | _=>exact he
 | _=>exact he
end Go.Abs
end
