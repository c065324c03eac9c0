/-
  A part of the proof: GabsDraw, GabsDraw2, GabsDraw3, GabsRen0, GabsFrz, GabsExec, GabsCfg, GabsK, GabsV1, GabsV2, GabsV3, GabsV4, GabsV5, GabsV6, GabsZ.
-/
import Derived.Test.YtjfmkcmepdedaaaGreatM7
import Derived.Orders
set_option maxHeartbeats 0
set_option maxRecDepth 100000
set_option linter.unusedVariables false
set_option linter.unusedSimpArgs false
set_option linter.unusedSectionVars false
section
namespace Go.Abs
def befs (acc:List Nat):List Oper->List Nat
 | []=>acc
 | o :: os=>befs (acc ++ [o.after.toList.foldl (fun s e=>if Region.binds .any e then s ||| (2 ^ e.on ||| acc.getD e.on 0) else s) 0]) os
def conf (ops:List Oper) (x y:Oper) (ex ey:Eff):Bool:=
 (match x.dst with | some d=>(usesT ops y).contains d || y.dst == some d | none=>false) ||
 (match y.dst with | some d=>(usesT ops x).contains d | none=>false) ||
 (ids ex.wr).any (fun b=>(ids ey.wr).contains b || ey.rd.contains b) || ex.rd.any fun b=>(ids ey.wr).contains b
def drawOk (ops:List Oper) (effs:List Eff):Bool:=
 (List.range ops.length).all fun j=>(((ops.getD j default).after.toList.all fun e=>!Region.binds .any e || decide (e.on < j))) &&
  (List.range j).all fun i=>((befs [] ops).getD j 0).testBit i || !conf ops (ops.getD i default) (ops.getD j default) (effs.getD i {}) (effs.getD j {})
def stOf (st:St) (ops:List Oper) (effs:List Eff) (E:Nat->Bool):Nat->St
 | 0=>st
 | i+1=>if E i then (stOf st ops effs E i).app (ops.getD i default) (effs.getD i {}) else stOf st ops effs E i
section
variable {P:Program} {C:Cfg} {ops:List Oper} {effs:List Eff} {st:St}
theorem stOf_cons (o:Oper) (os:List Oper) (e:Eff) (es:List Eff) (st:St):∀ i,stOf st (o :: os) (e :: es) (fun _=>true) (i+1)=stOf (st.app o e) os es (fun _=>true) i
 | 0=>rfl
 | i+1=>by
  have:=stOf_cons o os e es st i
  rw [stOf,if_pos rfl,this]
  rfl
theorem opsK_seq:∀ (os:List Oper) (slot:Nat) (st:St) (tr:List Eff) (Q:List Eff->St->Prop),OpsK P C ops os slot st tr Q ->
  ∃ es:List Eff,es.length=os.length/\(∀ i,i < os.length->StepK P C ops (slot+slotsSum C (os.take i)) (os.getD i default) (stOf st os es (fun _=>true) i) (·=es.getD i {}))/\Q (tr ++ es) (stOf st os es (fun _=>true) os.length)
 | [],slot,st,tr,Q,h=>⟨[],rfl,by simp,by simpa [stOf,OpsK] using h⟩
 | o :: os,slot,st,tr,Q,h=>by
  obtain ⟨e,h1,h2⟩:=stepK_ex h
  obtain ⟨es,h3,h4,h5⟩:=opsK_seq os _ _ _ _ h2
  refine ⟨e :: es,by simp [h3],fun i hi=>?_,?_⟩
  ·cases i with
   | zero=>simpa [slotsSum,stOf] using h1
   | succ i=>
    rw [stOf_cons]
    have:=h4 i (by simpa using hi)
    simpa [slotsSum,Nat.add_assoc] using this
  ·rw [List.length_cons,stOf_cons]
   simpa using h5
theorem app_tmps (st:St) (o:Oper) (e:Eff) (t:Nat):(st.app o e).tmps[t]?=if o.dst=some t then (if t < st.tmps.length then some e.val else none) else st.tmps[t]?:=by
 unfold St.app
 cases hd:o.dst with
 | none=>simp
 | some d=>
  simp only [List.getElem?_set,Option.some.injEq]
  by_cases h:d=t
  ·subst h; simp
  ·rw [if_neg h,if_neg h]
theorem app_tlen (st:St) (o:Oper) (e:Eff):(st.app o e).tmps.length=st.tmps.length:=by
 unfold St.app
 cases o.dst <;> simp
theorem wrs_get_out:∀ (l:List (Nat × Option Blk)) (h:Heap) (b:Nat),b ∉ ids l->(wrs h l)[b]?=h[b]?
 | [],_,_,_=>rfl
 | p :: l,h,b,hn=>by
  simp only [ids,List.map_cons,List.mem_cons,not_or] at hn
  rw [wrs_cons,wrs_get_out l _ b hn.2,List.getElem?_set,if_neg (fun e=>hn.1 e.symm)]
theorem wrs_get_in:∀ (l:List (Nat × Option Blk)) (h h':Heap) (b:Nat),h.length=h'.length->b ∈ ids l->(wrs h l)[b]?=(wrs h' l)[b]?
 | p :: l,h,h',b,hl,hb=>by
  rw [wrs_cons,wrs_cons]
  by_cases hbl:b ∈ ids l
  ·exact wrs_get_in l _ _ b (by simp [hl]) hbl
  ·rw [wrs_get_out l _ b hbl,wrs_get_out l _ b hbl]
   simp only [ids,List.map_cons,List.mem_cons] at hb
   have:b=p.1:=hb.resolve_right hbl
   subst this
   rw [List.getElem?_set,List.getElem?_set,if_pos rfl,if_pos rfl,hl]
theorem stOf_len (E:Nat->Bool):∀ m,(stOf st ops effs E m).tmps.length=st.tmps.length/\(stOf st ops effs E m).heap.length=st.heap.length
 | 0=>⟨rfl,rfl⟩
 | m+1=>by
  obtain ⟨h1,h2⟩:=stOf_len E m
  unfold stOf
  split
  ·exact ⟨by rw [app_tlen,h1],by rw [app_length,h2]⟩
  ·exact ⟨h1,h2⟩
theorem stOf_tmps {E E':Nat->Bool} {t:Nat}:∀ m,(∀ i,i < m->(ops.getD i default).dst=some t->E i=E' i)->(stOf st ops effs E m).tmps[t]?=(stOf st ops effs E' m).tmps[t]?
 | 0,_=>rfl
 | m+1,h=>by
  have ih:=stOf_tmps m fun i hi=>h i (by omega)
  unfold stOf
  by_cases hd:(ops.getD m default).dst=some t
  ·rw [h m (by omega) hd]
   split
   ·rw [app_tmps,app_tmps,if_pos hd,if_pos hd,(stOf_len E m).1,(stOf_len E' m).1]
   ·exact ih
  ·have e1:∀ (s:St),(s.app (ops.getD m default) (effs.getD m {})).tmps[t]?=s.tmps[t]?:=fun s=>by rw [app_tmps,if_neg hd]
   split <;> split <;> (try simp only [e1]) <;> exact ih
theorem stOf_heap {E E':Nat->Bool} {b:Nat}:∀ m,(∀ i,i < m->b ∈ ids (effs.getD i {}).wr->E i=E' i)->(stOf st ops effs E m).heap[b]?=(stOf st ops effs E' m).heap[b]?
 | 0,_=>rfl
 | m+1,h=>by
  have ih:=stOf_heap m fun i hi=>h i (by omega)
  unfold stOf
  by_cases hd:b ∈ ids (effs.getD m {}).wr
  ·rw [h m (by omega) hd]
   split
   ·exact wrs_get_in _ _ _ b (by rw [(stOf_len E m).2,(stOf_len E' m).2]) hd
   ·exact ih
  ·have e1:∀ (s:St),(s.app (ops.getD m default) (effs.getD m {})).heap[b]?=s.heap[b]?:=fun s=>wrs_get_out _ _ b hd
   split <;> split <;> (try simp only [e1]) <;> exact ih
theorem stOf_cut (E : Nat -> Bool) {i : Nat} : ∀ m, i <= m -> stOf st ops effs (fun k => E k && decide (k < i)) m = stOf st ops effs E i
  | 0, h => by have : i = 0 := by omega
               subst this; rfl
  | m + 1, h => by
    rcases Nat.lt_or_ge m i with hm | hm
    · have : i = m + 1 := by omega
      subst this
      have gen : ∀ k, k <= m + 1 -> stOf st ops effs (fun k => E k && decide (k < m + 1)) k = stOf st ops effs E k := by
        intro k
        induction k with
        | zero => intro _; rfl
        | succ k ih =>
          intro hk
          unfold stOf
          rw [ih (by omega)]
          have : decide (k < m + 1) = true := by simp; omega
          simp only [this, Bool.and_true]
      exact gen _ (Nat.le_refl _)
    · have e : stOf st ops effs (fun k => E k && decide (k < i)) (m + 1) = (if (E m && decide (m < i)) = true then (stOf st ops effs (fun k => E k && decide (k < i)) m).app (ops.getD m default) (effs.getD m {}) else stOf st ops effs (fun k => E k && decide (k < i)) m) := rfl
      have : decide (m < i) = false := by simp; omega
      rw [e, this, Bool.and_false, if_neg (by simp)]
      exact stOf_cut E m hm
theorem foldl_bits {acc:List Nat} {i:Nat}:∀ (l:List Edge) (s:Nat),(l.foldl (fun s e=>if Region.binds .any e then s ||| (2 ^ e.on ||| acc.getD e.on 0) else s) s).testBit i=true ->
  s.testBit i=true ∨ ∃ e ∈ l,Region.binds .any e=true/\(e.on=i ∨ (acc.getD e.on 0).testBit i=true)
 | [],s,h=>.inl h
 | e :: l,s,h=>by
  rw [List.foldl_cons] at h
  rcases foldl_bits l _ h with h1 | ⟨e',h1,h2,h3⟩
  ·split at h1
   ·rename_i hb
    rw [Nat.testBit_or,Nat.testBit_or,Bool.or_eq_true,Bool.or_eq_true] at h1
    rcases h1 with h1 | h1 | h1
    ·exact .inl h1
    ·rw [Nat.testBit_two_pow] at h1
     exact .inr ⟨e,by simp,hb,.inl (by simpa using h1)⟩
    ·exact .inr ⟨e,by simp,hb,.inr h1⟩
   ·exact .inl h1
  ·exact .inr ⟨e',by simp [h1],h2,h3⟩
theorem befs_spec:∀ (os pre:List Oper) (acc:List Nat),acc.length=pre.length ->
  (∀ j,j < pre.length->∀ i,(acc.getD j 0).testBit i=true->∃ e ∈ (pre.getD j default).after.toList,Region.binds .any e=true/\(e.on=i ∨ (e.on < j/\(acc.getD e.on 0).testBit i=true))) ->
  ∀ j,j < (pre ++ os).length->∀ i,((befs acc os).getD j 0).testBit i=true->∃ e ∈ ((pre ++ os).getD j default).after.toList,Region.binds .any e=true/\(e.on=i ∨ (e.on < j/\((befs acc os).getD e.on 0).testBit i=true))
 | [],pre,acc,hl,h,j,hj,i,hb=>by simpa [befs] using h j (by simpa using hj) i hb
 | o :: os,pre,acc,hl,h,j,hj,i,hb=>by
  have e1:pre ++ o :: os=(pre ++ [o]) ++ os:=by simp
  rw [e1] at hj ⊢
  rw [befs] at hb ⊢
  refine befs_spec os (pre ++ [o]) _ (by simp [hl]) (fun j hj i hb=>?_) j hj i hb
  rw [List.length_append,List.length_singleton] at hj
  rcases Nat.lt_or_ge j pre.length with h1 | h1
  ·rw [List.getD_eq_getElem?_getD,List.getElem?_append,if_pos (by omega),<- List.getD_eq_getElem?_getD] at hb
   obtain ⟨e,q1,q2,q3⟩:=h j h1 i hb
   refine ⟨e,?_,q2,?_⟩
   ·rw [List.getD_eq_getElem?_getD,List.getElem?_append,if_pos h1,<- List.getD_eq_getElem?_getD]; exact q1
   ·rcases q3 with q3 | ⟨q3,q4⟩
    ·exact .inl q3
    ·refine .inr ⟨q3,?_⟩
     rw [List.getD_eq_getElem?_getD,List.getElem?_append,if_pos (by omega),<- List.getD_eq_getElem?_getD]; exact q4
  ·have hjj:j=pre.length:=by omega
   subst hjj
   rw [List.getD_eq_getElem?_getD,List.getElem?_append,if_neg (by omega),hl,Nat.sub_self,List.getElem?_cons_zero,Option.getD_some] at hb
   rcases foldl_bits _ _ hb with h2 | ⟨e,q1,q2,q3⟩
   ·simp at h2
   ·refine ⟨e,?_,q2,?_⟩
    ·rw [List.getD_eq_getElem?_getD,List.getElem?_append,if_neg (by omega),Nat.sub_self,List.getElem?_cons_zero,Option.getD_some]; exact q1
    ·rcases q3 with q3 | q3
     ·exact .inl q3
     ·have hlt:e.on < acc.length:=by
       rcases Nat.lt_or_ge e.on acc.length with h | h
       ·exact h
       ·rw [List.getD_eq_getElem?_getD,List.getElem?_eq_none h] at q3; simp at q3
      refine .inr ⟨by omega,?_⟩
      rw [List.getD_eq_getElem?_getD,List.getElem?_append,if_pos hlt,<- List.getD_eq_getElem?_getD]; exact q3
def Closed (ops:List Oper) (E:Nat->Bool):Prop:=∀ j,j < ops.length->E j=true->∀ e ∈ (ops.getD j default).after.toList,Region.binds .any e=true->E e.on=true
theorem Closed.bef {E:Nat->Bool} (h:Closed ops E):∀ j,j < ops.length->E j=true->∀ i,((befs [] ops).getD j 0).testBit i=true->E i=true:=by
 intro j
 induction j using Nat.strongRecOn with
 | _ j ih=>
  intro hj hE i hb
  obtain ⟨e,q1,q2,q3⟩:=befs_spec ops [] [] rfl (by simp) j (by simpa using hj) i hb
  have he:=h j hj hE e (by simpa using q1) q2
  rcases q3 with rfl | ⟨q3,q4⟩
  ·exact he
  ·exact ih e.on q3 (by omega) he i q4
end
section
variable {P:Program} {C:Cfg} {ops:List Oper} {effs:List Eff} {st:St}
theorem tail_tmps {E:Nat->Bool} {t m n:Nat} (hmn:m<=n) (h:∀ k,m<=k->k < n->(ops.getD k default).dst=some t->E k=false):(stOf st ops effs E n).tmps[t]?=(stOf st ops effs E m).tmps[t]?:=by
 rw [<- stOf_cut E n hmn]
 refine stOf_tmps n fun k hk hd=>?_
 rcases Nat.lt_or_ge k m with h1 | h1
 ·simp [h1]
 ·rw [h k h1 hk hd]; rfl
theorem tail_heap {E:Nat->Bool} {b m n:Nat} (hmn:m<=n) (h:∀ k,m<=k->k < n->b ∈ ids (effs.getD k {}).wr->E k=false):(stOf st ops effs E n).heap[b]?=(stOf st ops effs E m).heap[b]?:=by
 rw [<- stOf_cut E n hmn]
 refine stOf_heap n fun k hk hd=>?_
 rcases Nat.lt_or_ge k m with h1 | h1
 ·simp [h1]
 ·rw [h k h1 hk hd]; rfl
theorem drawOk_edge (h:drawOk ops effs=true) {j:Nat} (hj:j < ops.length):∀ e ∈ (ops.getD j default).after.toList,Region.binds .any e=true->e.on < j:=by
 unfold drawOk at h
 have:=List.all_eq_true.1 h j (List.mem_range.2 hj)
 rw [Bool.and_eq_true] at this
 intro e he hb
 have:=List.all_eq_true.1 this.1 e he
 simpa [hb] using this
theorem drawOk_conf (h:drawOk ops effs=true) {i j:Nat} (hij:i < j) (hj:j < ops.length):((befs [] ops).getD j 0).testBit i=true ∨ conf ops (ops.getD i default) (ops.getD j default) (effs.getD i {}) (effs.getD j {})=false:=by
 unfold drawOk at h
 have:=List.all_eq_true.1 h j (List.mem_range.2 hj)
 rw [Bool.and_eq_true] at this
 have:=List.all_eq_true.1 this.2 i (List.mem_range.2 hij)
 rw [Bool.or_eq_true] at this
 rcases this with h | h
 ·exact .inl h
 ·exact .inr (by simpa using h)
theorem ordered (h:drawOk ops effs=true) {E:Nat->Bool} (hE:Closed ops E) {i j:Nat} (hij:i < j) (hj:j < ops.length) (hEj:E j=true)
  (hc:conf ops (ops.getD i default) (ops.getD j default) (effs.getD i {}) (effs.getD j {})=true):E i=true:=by
 rcases drawOk_conf h hij hj with h1 | h1
 ·exact hE.bef j hj hEj i h1
 ·rw [hc] at h1; cases h1
theorem conf_wt {x y:Oper} {ex ey:Eff} {t:Nat} (hd:x.dst=some t) (hu:t ∈ usesT ops y ∨ y.dst=some t):conf ops x y ex ey=true:=by
 unfold conf
 rw [hd]
 simp only
 rcases hu with h | h
 ·have:(usesT ops y).contains t=true:=by simpa using h
  rw [this]; rfl
 ·rw [h]; simp
theorem conf_tw {x y:Oper} {ex ey:Eff} {t:Nat} (hd:y.dst=some t) (hu:t ∈ usesT ops x):conf ops x y ex ey=true:=by
 unfold conf
 rw [hd]
 have:(usesT ops x).contains t=true:=by simpa using hu
 simp only [this,Bool.or_true,Bool.true_or]
theorem conf_wb {x y:Oper} {ex ey:Eff} {b:Nat} (hd:b ∈ ids ex.wr) (hu:b ∈ ids ey.wr ∨ b ∈ ey.rd):conf ops x y ex ey=true:=by
 unfold conf
 have:((ids ex.wr).any (fun b=>(ids ey.wr).contains b || ey.rd.contains b))=true:=List.any_eq_true.2 ⟨b,hd,by simpa using hu⟩
 rw [this]; simp
theorem conf_bw {x y:Oper} {ex ey:Eff} {b:Nat} (hd:b ∈ ids ey.wr) (hu:b ∈ ex.rd):conf ops x y ex ey=true:=by
 unfold conf
 have:(ex.rd.any (fun b=>(ids ey.wr).contains b))=true:=List.any_eq_true.2 ⟨b,hu,by simpa using hd⟩
 rw [this]; simp
def addE (E:Nat->Bool) (j:Nat):Nat->Bool:=fun k=>k == j || E k
theorem addE_ne {E:Nat->Bool} {j k:Nat} (h:k ≠ j):addE E j k=E k:=by simp [addE,h]
theorem addE_eq {E:Nat->Bool} {j:Nat}:addE E j j=true:=by simp [addE]
section
variable {E:Nat->Bool} {j:Nat} (h:drawOk ops effs=true) (hE:Closed ops E) (hE':Closed ops (addE E j)) (hj:j < ops.length) (hEj:E j=false)
include h hE hE' hj hEj
theorem agree_lo {k:Nat} (hk:k < j) (hc:conf ops (ops.getD k default) (ops.getD j default) (effs.getD k {}) (effs.getD j {})=true):E k=true:=by
 have:=ordered h hE' hk hj addE_eq hc
 rwa [addE_ne (by omega)] at this
theorem agree_hi {k:Nat} (hk:j < k) (hkn:k < ops.length) (hc:conf ops (ops.getD j default) (ops.getD k default) (effs.getD j {}) (effs.getD k {})=true):E k=false:=by
 cases hx:E k with
 | false=>rfl
 | true=>have:=ordered h hE hk hkn hx hc; rw [this] at hEj; cases hEj
theorem draw_tmps:∀ t ∈ usesT ops (ops.getD j default),(stOf st ops effs E ops.length).tmps.getD t .junk=(stOf st ops effs (fun _=>true) j).tmps.getD t .junk:=by
 intro t ht
 rw [List.getD_eq_getElem?_getD,List.getD_eq_getElem?_getD,<- stOf_cut (fun _=>true) ops.length (Nat.le_of_lt hj)]
 congr 1
 refine stOf_tmps _ fun k hk hd=>?_
 rcases Nat.lt_trichotomy k j with h1 | h1 | h1
 ·rw [agree_lo h hE hE' hj hEj h1 (conf_wt hd (.inl ht))]; simp [h1]
 ·subst h1; rw [hEj]; simp
 ·rw [agree_hi h hE hE' hj hEj h1 hk (conf_tw hd ht)]; simp; omega
theorem draw_heap:∀ b ∈ (effs.getD j {}).rd,look (stOf st ops effs E ops.length).heap b=look (stOf st ops effs (fun _=>true) j).heap b:=by
 intro b hb
 unfold look
 rw [<- stOf_cut (fun _=>true) ops.length (Nat.le_of_lt hj)]
 congr 1
 refine stOf_heap _ fun k hk hd=>?_
 rcases Nat.lt_trichotomy k j with h1 | h1 | h1
 ·rw [agree_lo h hE hE' hj hEj h1 (conf_wb hd (.inr hb))]; simp [h1]
 ·subst h1; rw [hEj]; simp
 ·rw [agree_hi h hE hE' hj hEj h1 hk (conf_bw hd hb)]; simp; omega
theorem draw_app:(stOf st ops effs E ops.length).app (ops.getD j default) (effs.getD j {})=stOf st ops effs (addE E j) ops.length:=by
 have htl:∀ t:Nat,((stOf st ops effs E ops.length).app (ops.getD j default) (effs.getD j {})).tmps[t]?=(stOf st ops effs (addE E j) ops.length).tmps[t]?:=by
  intro t
  rw [app_tmps]
  split
  ·rename_i hd
   rw [tail_tmps (m:=j+1) (by omega) (fun k h1 h2 h3=>by
    rw [addE_ne (by omega)]
    exact agree_hi h hE hE' hj hEj (by omega) h2 (conf_wt hd (.inr h3)))]
   rw [stOf,if_pos addE_eq,app_tmps,if_pos hd,(stOf_len _ _).1,(stOf_len _ _).1]
  ·rename_i hd
   refine stOf_tmps _ fun k hk hd'=>?_
   rw [addE_ne]
   rintro rfl
   exact hd hd'
 have hhl:∀ b:Nat,((stOf st ops effs E ops.length).app (ops.getD j default) (effs.getD j {})).heap[b]?=(stOf st ops effs (addE E j) ops.length).heap[b]?:=by
  intro b
  by_cases hb:b ∈ ids (effs.getD j {}).wr
  ·rw [tail_heap (m:=j+1) (by omega) (fun k h1 h2 h3=>by
    rw [addE_ne (by omega)]
    exact agree_hi h hE hE' hj hEj (by omega) h2 (conf_wb hb (.inl h3)))]
   rw [stOf,if_pos addE_eq]
   exact wrs_get_in _ _ _ b (by rw [(stOf_len _ _).2,(stOf_len _ _).2]) hb
  ·have e1:((stOf st ops effs E ops.length).app (ops.getD j default) (effs.getD j {})).heap[b]?=(stOf st ops effs E ops.length).heap[b]?:=wrs_get_out _ _ b hb
   rw [e1]
   refine stOf_heap _ fun k hk hd'=>?_
   rw [addE_ne]
   rintro rfl
   exact hb hd'
 generalize (stOf st ops effs E ops.length).app (ops.getD j default) (effs.getD j {})=s1 at *
 generalize stOf st ops effs (addE E j) ops.length=s2 at *
 cases s1; cases s2
 simp only [St.mk.injEq]
 exact ⟨List.ext_getElem? htl,List.ext_getElem? hhl⟩
end
def left (E:Nat->Bool):Nat->Nat
 | 0=>0
 | n+1=>left E n+if E n then 0 else 1
theorem left_add {E:Nat->Bool} {j:Nat} (hEj:E j=false):∀ n,(n<=j->left (addE E j) n=left E n)/\(j < n->left (addE E j) n+1=left E n)
 | 0=>⟨fun _=>rfl,fun h=>by omega⟩
 | n+1=>by
  obtain ⟨h1,h2⟩:=left_add hEj n
  refine ⟨fun h=>?_,fun h=>?_⟩
  ·rw [left,left,h1 (by omega),addE_ne (by omega)]
  ·rw [left,left]
   by_cases hjn:n=j
   ·subst hjn
    rw [h1 (Nat.le_refl _),addE_eq,hEj]; simp
   ·rw [addE_ne hjn,<- h2 (by omega)]; omega
theorem left_zero {E:Nat->Bool}:∀ n,left E n=0->∀ k,k < n->E k=true
 | 0,_,k,hk=>by omega
 | n+1,h,k,hk=>by
  rw [left] at h
  by_cases hkn:k=n
  ·subst hkn
   cases hx:E k with
   | true=>rfl
   | false=>rw [hx] at h; simp at h
  ·exact left_zero n (by omega) k (by omega)
theorem slots_take:∀ (l:List Oper) (k:Nat),k < l.length->slotsSum C (l.take (k+1))=slotsSum C (l.take k)+slotsOf C (l.getD k default).op
 | o :: l,0,_=>by simp [slotsSum]
 | o :: l,k+1,h=>by
  have:=slots_take l k (by simpa using h)
  simp only [List.take_succ_cons,slotsSum,List.getD_cons_succ] at this ⊢
  omega
theorem slots_mono:∀ (l:List Oper) (k j:Nat),k<=j->slotsSum C (l.take k)<=slotsSum C (l.take j)
 | [],k,j,_=>by simp
 | o :: l,0,j,_=>by simp [slotsSum]
 | o :: l,k+1,j+1,h=>by
  have:=slots_mono l k j (by omega)
  simp only [List.take_succ_cons,slotsSum]
  omega
end
section
variable {P:Program} {C:Cfg} {K:Ctx} {ops:List Oper} {effs:List Eff} {st st0:St} {n0:Nat} {Q:AExit->St->Prop}
structure DrawInv (C:Cfg) (K:Ctx) (ops:List Oper) (effs:List Eff) (st0:St) (s0:Nat) (E:Nat->Bool) (a:Act) (w:World):Prop where
 clo:Closed ops E
 sat:∃ β S,Sat K β S (stOf st0 ops effs E ops.length) a w/\∀ k,k < ops.length->E k=false->∀ s,s0+slotsSum C (ops.take k)<=s->s < s0+slotsSum C (ops.take k)+slotsOf C (ops.getD k default).op->s < st0.heap.length/\β s=none
def lset (listed:Array Bool):Nat->Bool:=fun k=>listed.getD k false
theorem lset_set {listed:Array Bool} {j:Nat} (hj:j < listed.size):lset (listed.setIfInBounds j true)=addE (lset listed) j:=by
 funext k
 show (listed.setIfInBounds j true).getD k false=(k == j || listed.getD k false)
 rw [Array.getD_eq_getD_getElem?,Array.getD_eq_getD_getElem?,Array.getElem?_setIfInBounds]
 by_cases h:j=k
 ·subst h; simp [hj]
 ·rw [if_neg h]
  have:(k == j)=false:=by simp; omega
  rw [this,Bool.false_or]
theorem ready_mem {listed:Array Bool} {j:Nat} (hl:listed.size=ops.length):j ∈ Region.ready .any ops.toArray listed ↔ j < ops.length/\lset listed j=false/\∀ e ∈ (ops.getD j default).after.toList,Region.binds .any e=true->lset listed e.on=true:=by
 unfold Region.ready lset
 rw [List.mem_filter,List.mem_range]
 simp only [List.size_toArray,Bool.and_eq_true,Bool.not_eq_true']
 constructor
 ·rintro ⟨h1,h2,h3⟩
  refine ⟨h1,?_,fun e he hb=>?_⟩
  ·rw [Array.getD_eq_getD_getElem?,Array.getElem?_eq_getElem (by omega)] at h2 ⊢; exact h2
  ·have e1:ops.toArray[j]?=some (ops.getD j default):=by simp [List.getElem?_eq_getElem h1]
   rw [e1] at h3
   simp only [Option.map_some,Option.getD_some] at h3
   have:=(Array.all_eq_true'.1 h3) e (by simpa using he)
   simpa [hb] using this
 ·rintro ⟨h1,h2,h3⟩
  refine ⟨h1,?_,?_⟩
  ·rw [Array.getD_eq_getD_getElem?,Array.getElem?_eq_getElem (by omega)] at h2 ⊢; exact h2
  ·have e1:ops.toArray[j]?=some (ops.getD j default):=by simp [List.getElem?_eq_getElem h1]
   rw [e1]
   simp only [Option.map_some,Option.getD_some]
   refine Array.all_eq_true'.2 fun e he=>?_
   cases hb:Region.binds .any e with
   | false=>rfl
   | true=>simpa using h3 e (by simpa using he) hb
theorem all_of_ready {listed:Array Bool} (hl:listed.size=ops.length) (hok:drawOk ops effs=true) (h:Region.ready .any ops.toArray listed=[]):∀ k,k < ops.length->lset listed k=true:=by
 intro k
 induction k using Nat.strongRecOn with
 | _ k ih=>
  intro hk
  cases hx:lset listed k with
  | true=>rfl
  | false=>
   have:k ∈ Region.ready .any ops.toArray listed:=(ready_mem hl).2 ⟨hk,hx,fun e he hb=>ih e.on (drawOk_edge hok hk e he hb) (by have:=drawOk_edge hok hk e he hb; omega)⟩
   rw [h] at this; cases this
theorem stOf_all {E:Nat->Bool} (h:∀ k,k < ops.length->E k=true):∀ m,m<=ops.length->stOf st ops effs E m=stOf st ops effs (fun _=>true) m
 | 0,_=>rfl
 | m+1,hm=>by
  rw [stOf,stOf,stOf_all h m (by omega),h m (by omega)]
theorem draw_any (hC:CfgOk P C) {s0:Nat} (hok:drawOk ops effs=true) (hst:∀ i,i < ops.length->StepK P C ops (s0+slotsSum C (ops.take i)) (ops.getD i default) (stOf st0 ops effs (fun _=>true) i) (·=effs.getD i {}))
  (hQ:Q .normal (stOf st0 ops effs (fun _=>true) ops.length)) :
  ∀ (fuel:Nat) (listed:Array Bool) (a:Act) (w:World),listed.size=ops.length->left (lset listed) ops.length<=fuel->DrawInv C K ops effs st0 s0 (lset listed) a w->wpAny P .any ops.toArray (Conc K Q) fuel listed a w:=by
 have done:∀ (listed:Array Bool) (a:Act) (w:World),(∀ k,k < ops.length->lset listed k=true)->DrawInv C K ops effs st0 s0 (lset listed) a w->Conc K Q .normal a w:=by
  intro listed a w hall hinv
  obtain ⟨β,S,hs,_⟩:=hinv.sat
  rw [stOf_all hall _ (Nat.le_refl _)] at hs
  exact ⟨.normal,_,rfl,hQ,β,S,hs⟩
 intro fuel
 induction fuel with
 | zero=>
  intro listed a w hl hf hinv
  have hall:=left_zero ops.length (by omega:left (lset listed) ops.length=0)
  refine ⟨?_,done listed a w hall hinv⟩
  rw [List.eq_nil_iff_forall_not_mem]
  intro j hj
  obtain ⟨h1,h2,_⟩:=(ready_mem hl).1 hj
  rw [hall j h1] at h2; cases h2
 | succ fuel ih=>
  intro listed a w hl hf hinv
  refine ⟨fun hr=>done listed a w (all_of_ready hl hok hr) hinv,fun j hj=>?_⟩
  obtain ⟨h1,h2,h3⟩:=(ready_mem hl).1 hj
  obtain ⟨β,S,hs,hfree⟩:=hinv.sat
  have hE':Closed ops (addE (lset listed) j):=by
   intro k hk hEk e he hb
   unfold addE at hEk ⊢
   rw [Bool.or_eq_true] at hEk ⊢
   rcases hEk with hEk | hEk
   ·have:k=j:=by simpa using hEk
    subst this
    exact .inr (h3 e he hb)
   ·exact .inr (hinv.clo k hk hEk e he hb)
  have hstep:StepK P C ops (s0+slotsSum C (ops.take j)) (ops.getD j default) (stOf st0 ops effs (lset listed) ops.length) (·=effs.getD j {}):=
   stepK_local (draw_tmps hok hinv.clo hE' h1 h2) (draw_heap hok hinv.clo hE' h1 h2) (hst j h1)
  have happ:=draw_app (st:=st0) hok hinv.clo hE' h1 h2
  unfold wpOp
  have e1:ops.toArray[j]?=some (ops.getD j default):=by simp [List.getElem?_eq_getElem h1]
  rw [e1]
  refine step_sound hC hs (fun s q1 q2=>by
   obtain ⟨r1,r2⟩:=hfree j h1 h2 s q1 q2
   exact ⟨by rw [(stOf_len _ _).2]; exact r1,r2⟩) hstep fun e w' v β' S' he hs' hβ'=>?_
  subst he
  rw [happ] at hs'
  refine ih _ _ _ (by simpa using hl) ?_ ⟨?_,β',S',?_,fun k hk hEk s q1 q2=>?_⟩
  ·rw [lset_set (by omega)]
   have:=(left_add h2 ops.length).2 h1
   omega
  ·rw [lset_set (by omega)]; exact hE'
  ·rw [lset_set (by omega)]; exact hs'
  ·rw [lset_set (by omega)] at hEk
   have hkj:k ≠ j:=by rintro rfl; rw [addE_eq] at hEk; cases hEk
   rw [addE_ne hkj] at hEk
   obtain ⟨r1,r2⟩:=hfree k hk hEk s q1 q2
   refine ⟨r1,?_⟩
   rw [hβ' s]
   ·exact r2
   ·rcases Nat.lt_trichotomy k j with h4 | h4 | h4
    ·left
     have:=slots_mono (C:=C) ops (k+1) j (by omega)
     rw [slots_take ops k hk] at this
     omega
    ·exact absurd h4 hkj
    ·right
     have:=slots_mono (C:=C) ops (j+1) k (by omega)
     rw [slots_take ops j h1] at this
     omega
theorem slots_le (l:List Oper) (k:Nat) (hk:k < l.length):slotsSum C (l.take k)+slotsOf C (l.getD k default).op<=slotsSum C l:=by
 rw [<- slots_take l k hk]
 have:=slots_mono (C:=C) l (k+1) l.length (by omega)
 rwa [List.take_length] at this
theorem ARun.draw (hC:CfgOk P C) (hmix:P.follows .mixedOrders=true) {id:Nat} {ops:Array Oper}
  (hk:OpsK P C ops.toList ops.toList st.heap.length (st.ext (slotsSum C ops.toList)) [] fun effs st'=>drawOk ops.toList effs=true/\Q .normal st'):ARun P n0 (.region id ops true) st Q:=by
 obtain ⟨es,h1,h2,h3,h4⟩:=opsK_seq _ _ _ _ _ hk
 rw [List.nil_append] at h3
 intro K hn β S a w h
 refine wp_region_any hmix ?_
 have:=draw_any (K:=K) (Q:=Q) hC h3 h2 h4 ops.size (Array.replicate ops.size false) a { w with drawn:=w.drawn+1 } (by simp) ?_ ⟨?_,β,S,?_,?_⟩
 ·simpa using this
 ·have:∀ (E:Nat->Bool) m,left E m<=m:=by
   intro E m
   induction m with
   | zero=>exact Nat.le_refl _
   | succ m ih=>rw [left]; split <;> omega
  simpa using this _ ops.toList.length
 ·intro k hk hE
  unfold lset at hE
  rw [Array.getD_eq_getD_getElem?,Array.getElem?_replicate] at hE
  split at hE <;> simp at hE
 ·have e1:∀ m,stOf (st.ext (slotsSum C ops.toList)) ops.toList es (lset (Array.replicate ops.size false)) m=st.ext (slotsSum C ops.toList):=by
   intro m
   induction m with
   | zero=>rfl
   | succ m ih=>
    have:lset (Array.replicate ops.size false) m=false:=by
     unfold lset
     rw [Array.getD_eq_getD_getElem?,Array.getElem?_replicate]
     split <;> rfl
    rw [stOf,this,ih]; rfl
  rw [e1]
  exact (h.ext _).drawn _
 ·intro k hk _ s q1 q2
  refine ⟨?_,?_⟩
  ·have:=slots_le (C:=C) ops.toList k hk
   simp [St.ext]; omega
  ·cases hx:β s with
   | none=>rfl
   | some R=>have:=h.top s R hx; omega
end
structure St.LeR (n0:Nat) (ρ:Nat->Nat) (s s':St):Prop where
 len:s'.tmps.length=s.tmps.length
 tmps:∀ (i:Nat) (x:AV),s'.tmps[i]?=some x->x=.junk ∨ x.noTup/\s.tmps[i]?=some (x.ren ρ)
 heap:∀ b blk,look s'.heap b=some blk->look s.heap (ρ b)=some (blk.ren ρ)
 inj:∀ b b' blk blk',look s'.heap b=some blk->look s'.heap b'=some blk'->ρ b=ρ b'->b=b'
 fix:∀ b,b < n0->ρ b=b
section
variable {β:Nat->Option Reg} {S:Place} {w:World} {n:Nat} {ρ:Nat->Nat}
theorem CRep.ren {c:Cell} {v:Value} (h:CRep β S w (c.ren ρ) v) (hb:c.refsLt n=true):CRep (fun b=>if b < n then β (ρ b) else none) S w c v:=by
 cases c with
 | t x=>cases h with | t h=>exact .t h
 | ptr b r c=>cases h with | ptr R h=>exact .ptr R (by simp only [Cell.refsLt,decide_eq_true_eq] at hb; rw [if_pos hb]; exact h)
 | tp row c=>cases h with | tp cb co val h=>exact .tp cb co val h
 | sl b off len cp=>cases h with | sl R base cap h h1 h2 h3 h4 h5=>exact .sl R base cap (by simp only [Cell.refsLt,decide_eq_true_eq] at hb; rw [if_pos hb]; exact h) h1 h2 h3 h4 h5
 | mp b=>cases h with | mp R h=>exact .mp R (by simp only [Cell.refsLt,decide_eq_true_eq] at hb; rw [if_pos hb]; exact h)
 | clo f caps=>
  cases h with
  | clo vs h1 h2=>
   refine .clo vs (by rw [h1,List.length_map]) fun i b r c hi=>?_
   obtain ⟨R,e1,e2⟩:=h2 i (ρ b) r c (by rw [List.getElem?_map,hi]; rfl)
   have:=List.all_eq_true.1 hb _ (List.mem_of_getElem? hi)
   exact ⟨R,by rw [if_pos (by simpa using this)]; exact e1,e2⟩
theorem VRep.ren {x:AV} {v:Value} (h:VRep β S w (x.ren ρ) v) (ht:x.noTup) (hb:x.refsLt n=true):VRep (fun b=>if b < n then β (ρ b) else none) S w x v:=by
 cases x with
 | c x=>cases h with | c h=>exact .c (h.ren (by simpa [AV.refsLt] using hb))
 | agg l=>
  cases h with
  | agg vs h1 h2=>
   refine .agg vs (by rw [h1,List.length_map]) fun i c hi=>?_
   obtain ⟨v,e1,e2⟩:=h2 i (c.ren ρ) (by rw [List.getElem?_map,hi]; rfl)
   simp only [AV.refsLt] at hb
   exact ⟨v,e1,e2.ren (List.all_eq_true.1 hb c (List.mem_of_getElem? hi))⟩
 | tup l=>exact ht.elim
 | junk=>exact .junk v
theorem Blk.ren_ext {blk:Blk} {R:Reg}:(blk.ren ρ).ext R=blk.ext R:=by
 cases blk <;> (funext b o; simp [Blk.ren,Blk.ext])
theorem Blk.ren_wr {blk:Blk} {R:Reg}:(blk.ren ρ).wr R=blk.wr R:=by
 cases blk <;> (funext b o; simp [Blk.ren,Blk.wr])
theorem Sat.ren {K:Ctx} {n0:Nat} {s s':St} {a:Act} (h:Sat K β S s a w) (hl:s.LeR n0 ρ s') (hb:s'.refsLt=true) (hn:∀ i R,K.β0 i=some R->i < n0) (hk:n0<=s'.heap.length) :
  Sat K (fun b=>if b < s'.heap.length then β (ρ b) else none) S s' a w:=by
 simp only [St.refsLt,Bool.and_eq_true] at hb
 refine ⟨by rw [hl.len]; exact h.len,h.defers,fun t x ht=>?_,fun b R hR=>?_,fun b blk hbk=>?_,fun b b' blk blk' R R' hne h1 h2 hR hR'=>?_,h.sex,h.sin,h.sub,h.keep,fun i R hi=>by
  rw [if_pos (Nat.lt_of_lt_of_le (hn i R hi) hk),hl.fix i (hn i R hi)]; exact h.arg i R hi⟩
 ·rcases hl.tmps t x ht with rfl | ⟨h1,hx⟩
  ·exact .junk _
  ·exact (h.tmps t _ hx).ren h1 (List.all_eq_true.1 hb.1 x (List.mem_of_getElem? ht))
 ·split at hR
  ·assumption
  ·cases hR
 ·obtain ⟨R,e1,e2,e3,e4⟩:=h.blk _ _ (hl.heap b blk hbk)
  have hlt:=qaw hbk
  rw [Blk.ren_ext] at e3
  rw [Blk.ren_wr] at e4
  refine ⟨R,by rw [if_pos hlt]; exact e1,?_,e3,e4⟩
  cases blk with
  | var cells=>
   simp only [Blk.ren,BlkOk,List.length_map] at e2
   refine ⟨e2.1,fun j c hj=>?_⟩
   obtain ⟨v,f1,f2⟩:=e2.2 j (c.ren ρ) (by rw [List.getElem?_map,hj]; rfl)
   have hm:some (Blk.var cells) ∈ s'.heap:=by
    unfold look at hbk
    cases hx:s'.heap[b]? with
    | none=>rw [hx] at hbk; cases hbk
    | some y=>rw [hx] at hbk; simp at hbk; subst hbk; exact List.mem_of_getElem? hx
   have:=List.all_eq_true.1 hb.2 _ hm
   simp only [Blk.refsLt] at this
   exact ⟨v,f1,f2.ren (List.all_eq_true.1 this c (List.mem_of_getElem? hj))⟩
  | rows sz rows g fz=>exact e2
  | map ents=>exact e2
  | old sz rows=>exact e2
 ·have l1:=qaw h1
  have l2:=qaw h2
  rw [if_pos l1] at hR
  rw [if_pos l2] at hR'
  have:=h.dis (ρ b) (ρ b') _ _ R R' (fun e=>hne (hl.inj b b' _ _ h1 h2 e)) (hl.heap _ _ h1) (hl.heap _ _ h2) hR hR'
  rw [Blk.ren_ext,Blk.ren_ext] at this
  exact this
end
theorem ARun.postRen {P:Program} {n0:Nat} {c:Code} {st:St} {Q:AExit->St->Prop} (h:ARun P n0 c st fun e s=>Q e s ∨ ∃ ρ s',s.LeR n0 ρ s'/\s'.refsLt=true/\n0<=s'.heap.length/\Q e s'):ARun P n0 c st Q:=fun K hn β S a w hs=>
 wp_mono (h K hn β S a w hs) fun e a' w' ⟨x,s,h1,h2,β',S',h5⟩=>by
  rcases h2 with h2 | ⟨ρ,s',h2,h3,hk,h4⟩
  ·exact ⟨x,s,h1,h2,β',S',h5⟩
  ·exact ⟨x,s',h1,h4,_,S',h5.ren h2 h3 hn hk⟩
def leTR (ρ:Nat->Nat):List AV->List AV->Prop
 | [],[]=>True
 | x :: xs,y :: ys=>(y=.junk ∨ y.noTup/\x=y.ren ρ)/\leTR ρ xs ys
 | _,_=>False
def renF:List (Nat × Nat)->Nat->Nat
 | [],b=>b
 | (x,y) :: l,b=>if b=x then y else renF l b
def leHR (ρ:Nat->Nat) (h:Heap):Nat->Heap->Prop
 | _,[]=>True
 | i,y :: ys=>(match y with | none=>True | some b=>look h (ρ i)=some (b.ren ρ))/\leHR ρ h (i+1) ys
def liveR (ρ:Nat->Nat):Nat->Heap->List Nat
 | _,[]=>[]
 | i,none :: ys=>liveR ρ (i+1) ys
 | i,some _ :: ys=>ρ i :: liveR ρ (i+1) ys
theorem leTR_spec {ρ:Nat->Nat}:∀ {xs ys:List AV},leTR ρ xs ys->ys.length=xs.length/\∀ (i:Nat) (y:AV),ys[i]?=some y->y=.junk ∨ y.noTup/\xs[i]?=some (y.ren ρ)
 | [],[],_=>⟨rfl,by simp⟩
 | x :: xs,y :: ys,h=>by
  obtain ⟨h1,h2⟩:=h
  obtain ⟨h3,h4⟩:=leTR_spec h2
  refine ⟨by simp [h3],fun i z hz=>?_⟩
  cases i with
  | zero=>
   simp at hz; subst hz
   rcases h1 with h | ⟨h,h'⟩
   ·exact .inl h
   ·exact .inr ⟨h,by simp [h']⟩
  | succ i=>simpa using h4 i z (by simpa using hz)
theorem leHR_spec {ρ:Nat->Nat} {h:Heap}:∀ {ys:Heap} {i:Nat},leHR ρ h i ys->∀ (j:Nat) (b:Blk),look ys j=some b->look h (ρ (i+j))=some (b.ren ρ)
 | [],i,_,j,b,hb=>by simp [look] at hb
 | y :: ys,i,⟨h1,h2⟩,j,b,hb=>by
  cases j with
  | zero=>simp [look] at hb; subst hb; exact h1
  | succ j=>
   have:=leHR_spec h2 j b (by simpa [look] using hb)
   rw [show i+(j+1)=i+1+j by omega]; exact this
theorem liveR_mem {ρ:Nat->Nat}:∀ {ys:Heap} {i:Nat} (j:Nat) (b:Blk),look ys j=some b->ρ (i+j) ∈ liveR ρ i ys
 | [],i,j,b,hb=>by simp [look] at hb
 | y :: ys,i,j,b,hb=>by
  cases j with
  | zero=>simp [look] at hb; subst hb; exact .head _
  | succ j=>
   have:=liveR_mem (ρ:=ρ) (i:=i+1) j b (by simpa [look] using hb)
   rw [show i+(j+1)=i+1+j by omega]
   cases y with
   | none=>exact this
   | some y=>exact .tail _ this
theorem liveR_inj {ρ:Nat->Nat}:∀ {ys:Heap} {i:Nat},(liveR ρ i ys).Nodup->∀ (j j':Nat) (b b':Blk),look ys j=some b->look ys j'=some b'->ρ (i+j)=ρ (i+j')->j=j'
 | [],i,_,j,j',b,b',hb,_,_=>by simp [look] at hb
 | y :: ys,i,hn,j,j',b,b',hb,hb',he=>by
  have ht:(liveR ρ (i+1) ys).Nodup:=by
   cases y with
   | none=>exact hn
   | some y=>exact (List.nodup_cons.1 hn).2
  cases j with
  | zero=>
   cases j' with
   | zero=>rfl
   | succ j'=>
    simp [look] at hb; subst hb
    have:=liveR_mem (ρ:=ρ) (i:=i+1) j' b' (by simpa [look] using hb')
    rw [show i+1+j'=i+(j'+1) by omega,<- he] at this
    exact absurd this (List.nodup_cons.1 hn).1
  | succ j=>
   cases j' with
   | zero=>
    simp [look] at hb'; subst hb'
    have:=liveR_mem (ρ:=ρ) (i:=i+1) j b (by simpa [look] using hb)
    rw [show i+1+j=i+(j+1) by omega,he] at this
    exact absurd this (List.nodup_cons.1 hn).1
   | succ j'=>
    have:=liveR_inj ht j j' b b' (by simpa [look] using hb) (by simpa [look] using hb') (by rw [show i+1+j=i+(j+1) by omega,show i+1+j'=i+(j'+1) by omega]; exact he)
    omega
theorem leR_of {n0:Nat} {s s':St} (m:List (Nat × Nat)) (h1:leTR (renF m) s.tmps s'.tmps) (h2:leHR (renF m) s.heap 0 s'.heap) (h3:(liveR (renF m) 0 s'.heap).Nodup) (h4:∀ p ∈ m,n0<=p.1):s.LeR n0 (renF m) s':=by
 obtain ⟨a,b⟩:=leTR_spec h1
 refine ⟨a,b,fun b blk hb=>?_,fun b b' blk blk' hb hb' he=>?_,fun b hb=>?_⟩
 ·have:=leHR_spec h2 b blk hb; rwa [Nat.zero_add] at this
 ·exact liveR_inj h3 b b' blk blk' hb hb' (by rw [Nat.zero_add,Nat.zero_add]; exact he)
 ·have:∀ l:List (Nat × Nat),(∀ p ∈ l,n0<=p.1)->renF l b=b:=by
   intro l
   induction l with
   | nil=>intro _; rfl
   | cons p l ih=>
    intro h
    obtain ⟨x,y⟩:=p
    have:=h (x,y) (.head _)
    simp only [renF]
    rw [if_neg (by simp at this; omega)]
    exact ih fun p hp=>h p (.tail _ hp)
  exact this m h4
theorem HCall.of_body {P:Program} {C:Cfg} {f:FuncId} (hC:CfgOk P C) {fn:Func} {c:Code} {s s':St} (hfn:P.funcs[f]?=some fn) (hname:(fn.name == "runtime.NumGoroutine")=false) (hbody:fn.body=some c)
  (hrun:ARun P s.heap.length c ⟨s.tmps ++ List.replicate (fn.ntmps - s.tmps.length) .junk,s.heap⟩ fun e s2=>(e=.normal ∨ e=.ret)/\∃ avs ρ,fn.results.toList.mapM (resAV C s2)=some avs/\(St.mk avs s2.heap).LeR s.heap.length ρ s'/\s'.refsLt=true/\s.heap.length<=s'.heap.length):HCall P f s s':=by
 refine ⟨⟨fn,hfn,by rw [hbody]; rfl,hname⟩,fun K β S a w hK hs=>?_⟩
 refine calls_of_wp hfn hbody ?_
 refine wp_mono (hrun K hK β S _ w ?_) fun e a' w' ⟨x,s2,hx,⟨hxe,avs,ρ,hav,hle,href,hlen⟩,β',S1,hs2⟩=>?_
 ·refine ⟨by simp [hs.len],rfl,fun t x ht=>?_,hs.top,hs.blk,hs.dis,hs.sex,hs.sin,hs.sub,hs.keep,hs.arg⟩
  simp only at ht
  rw [List.getElem?_append] at ht
  split at ht
  ·rename_i hlt
   have:=hs.tmps t x ht
   rw [Array.getD_eq_getD_getElem?] at this ⊢
   rw [Array.getElem?_append,if_pos (by rw [hs.len]; exact hlt)]
   exact this
  ·rw [List.getElem?_replicate] at ht
   split at ht
   ·cases ht; exact .junk _
   ·cases ht
 ·obtain ⟨vs,r1,r2,r3⟩:=run_results (P:=P) hC hs2 hav
  have hs3:Sat K β' S1 ⟨avs,s2.heap⟩ { a with tmps:=vs.toArray } w':=by
   refine ⟨by simp [r2],hs.defers,fun t x ht=>?_,hs2.top,hs2.blk,hs2.dis,hs2.sex,hs2.sin,hs2.sub,hs2.keep,hs2.arg⟩
   obtain ⟨v,e1,e2⟩:=r3 t x ht
   have:({ a with tmps:=vs.toArray }:Act).tmps.getD t undef=v:=by simp [e1]
   rw [this]; exact e2
  have hs4:=hs3.ren hle href hK hlen
  have hend:∃ v,(results fn a'.tmps).run P w'=.ok v w'/\∃ (us:List Value) (β':Nat->Option Reg) (S':Place),Ending.returned v=.returned (if us.length=1 then us.getD 0 undef else .tuple us.toArray)/\us.length=s'.tmps.length/\Sat K β' S' s' { a with tmps:=us.toArray } w':=
   ⟨_,r1,vs,_,S1,rfl,by rw [r2,hle.len],hs4⟩
  cases e with
  | normal=>exact ⟨hs2.defers,hend⟩
  | ret=>exact ⟨hs2.defers,hend⟩
  | exit id=>cases hx; rcases hxe with h | h <;> cases h
  | goto=>cases hx
  | panic=>cases hx
  | outgrown=>cases hx
def frz1 (heap:Heap):AV->Option (AV × Heap)
 | .c (.sl b off len cp)=>match look heap b with
  | some (.var cells)=>match toTrees (look heap) cells with
   | some (ts,m)=>if off+len<=cells.length then some (.c (.t (.lst cp (((ts.drop off).take len).map fun t=>[t]))),wrs heap (m ++ [(b,none)])) else none
   | none=>none
  | _=>some (.c (.sl b off len cp),heap)
 | x=>some (x,heap)
def frzs:Heap->List AV->Option (List AV × Heap)
 | h,[]=>some ([],h)
 | h,x :: xs=>match frz1 h x with
  | some (y,h1)=>match frzs h1 xs with
   | some (ys,h2)=>some (y :: ys,h2)
   | none=>none
  | none=>none
def finishX (C:Cfg) (st:St) (args:List Arg) (rvs:List ResultVar) (om:List Mode):Option Res:=
 match rvs.mapM (resAV C st) with
 | none=>none
 | some avs=>match frzs st.heap avs with
  | some (avs',heap')=>finishA heap' avs' args om
  | none=>none
section
variable {P:Program} {C:Cfg} {K:Ctx} {β:Nat->Option Reg} {S:Place} {a:Act} {w:World} {f:FuncId} {tm:List AV}
theorem frz1_rep {heap heap':Heap} (h:Sat K β S ⟨tm,heap⟩ a w) {x x':AV} {v:Value} (hx:VRep β S w x v) (hf:frz1 heap x=some (x',heap')) :
  ∃ S',(∀ c o,S c o->S' c o)/\Sat K β S' ⟨tm,heap'⟩ a w/\VRep β S' w x' v:=by
 unfold frz1 at hf
 split at hf
 ·rename_i b off len cp
  split at hf
  ·rename_i cells hb
   split at hf
   ·rename_i ts m ht
    split at hf
    ·rename_i hle
     cases hf
     obtain ⟨S1,hS1,h1⟩:=h.capOne hb ht
     have hbl:=qaw hb
     have hb1:look (wrs heap (m ++ [(b,some (.var (ts.map .t)))])) b=some (.var (ts.map .t)):=by
      rw [qat]
      exact qae (by rw [qa7]; exact hbl) _
     obtain ⟨S2,hS2,h2,hin⟩:=Sat.freezeVar (st:=⟨tm,wrs heap (m ++ [(b,some (.var (ts.map .t)))])⟩) h1 hb1
     have hset:(wrs heap (m ++ [(b,some (.var (ts.map .t)))])).set b none=wrs heap (m ++ [(b,none)]):=by
      rw [qat,qat]
      show ((wrs heap m).set b _).set b none=(wrs heap m).set b none
      rw [List.set_set]
     rw [hset] at h2
     refine ⟨S2,fun c o hs=>hS2 _ _ (hS1 _ _ hs),h2,?_⟩
     cases hx with | c hx=>
     cases hx with | sl R base cap hR g1 g2 g3 g4 g5=>
     obtain ⟨R',hR',⟨⟨hth,hst,hcap⟩,hcl⟩,_,_⟩:=h1.blk b _ hb1
     rw [hR] at hR'; cases hR'
     have hlen:ts.length=cells.length:=by
      obtain ⟨R'',hR'',⟨_,hcl0⟩,_,_⟩:=h.blk b _ hb
      obtain ⟨vs,hvs⟩:∃ vs:List Value,vs=(List.range cells.length).map fun j=>(w.cell? ⟨R''.cb,R''.co+j,none⟩).getD undef:=⟨_,rfl⟩
      obtain ⟨_,_,_,_,hl,_⟩:=toTrees_rep (st:=⟨tm,heap⟩) cells vs heap S ts m h (Marked.refl _) (by rw [hvs]; simp) (fun i c hi=>by
       obtain ⟨v,e1,e2⟩:=hcl0 i c hi
       have hlt:=(List.getElem?_eq_some_iff.1 hi).1
       exact ⟨v,by rw [hvs,List.getElem?_map,List.getElem?_range hlt,Option.map_some,e1]; rfl,e2⟩) ht
      exact hl
     have hrl:(((ts.drop off).take len).map fun t=>[t]).length=len:=by rw [List.length_map,List.length_take,List.length_drop]; omega
     have key:=TRep.lst (S:=S2) (w:=w) cp (((ts.drop off).take len).map fun t=>[t]) base R.cb (R.co+off) 1 cap (fun i _=>(w.cell? ⟨R.cb,R.co+off+i,none⟩).getD undef)
      (by omega) (by omega) (by omega) (fun hc=>by rw [hrl]; exact g1 hc) (fun hne=>?_) (fun hn=>?_) (fun r hr=>?_) (fun i j t hij=>?_) (fun i j t hij=>?_)
     ·rw [hrl] at key
      exact .c (.t key)
     ·have:0 < len:=by
       rcases Nat.eq_zero_or_pos len with h0 | h0
       ·exact absurd (List.length_eq_zero_iff.1 (by rw [hrl,h0])) hne
       ·exact h0
      rw [g5 (by omega),hst,Nat.mul_one]
     ·rcases Nat.eq_zero_or_pos cap with h0 | h0
      ·exact h0
      ·rw [g5 h0] at hn; cases hn
     ·obtain ⟨t,_,rfl⟩:=List.mem_map.1 hr; rfl
     all_goals
      obtain ⟨row,hrow,hj⟩:=Option.bind_eq_some_iff.1 hij
      rw [List.getElem?_map] at hrow
      obtain ⟨t',ht',rfl⟩:=Option.map_eq_some_iff.1 hrow
      have hj0:j=0:=by
       cases j with
       | zero=>rfl
       | succ j=>simp at hj
      subst hj0
      simp at hj
      subst hj
      have hil:=(List.getElem?_eq_some_iff.1 ht').1
      rw [List.length_take,List.length_drop] at hil
      rw [List.getElem?_take,if_pos (by omega),List.getElem?_drop] at ht'
      obtain ⟨v,e1,e2⟩:=hcl (off+i) (.t t') (by rw [List.getElem?_map,ht']; rfl)
      rw [<- Nat.add_assoc] at e1
     ·refine ⟨hin R hR _ (by omega) (by rw [List.length_map]; omega),?_⟩
      rw [Nat.mul_one,Nat.add_zero,e1]; rfl
     ·rw [e1]
      cases e2 with | t e2=>exact e2.mono hS2 fun _ _ _=>rfl
    ·cases hf
   ·cases hf
  ·cases hf; exact ⟨S,fun _ _ hs=>hs,h,hx⟩
 ·cases hf; exact ⟨S,fun _ _ hs=>hs,h,hx⟩
theorem frzs_rep:∀ (avs:List AV) (vs:List Value) (heap heap':Heap) (S:Place) (avs':List AV),Sat K β S ⟨tm,heap⟩ a w->vs.length=avs.length->(∀ (i:Nat) (x:AV),avs[i]?=some x->∃ v,vs[i]?=some v/\VRep β S w x v)->frzs heap avs=some (avs',heap') ->
  ∃ S',(∀ c o,S c o->S' c o)/\Sat K β S' ⟨tm,heap'⟩ a w/\vs.length=avs'.length/\∀ (i:Nat) (x:AV),avs'[i]?=some x->∃ v,vs[i]?=some v/\VRep β S' w x v
 | [],vs,heap,heap',S,avs',h,hl,hr,hf=>by
  simp [frzs] at hf; obtain ⟨rfl,rfl⟩:=hf
  exact ⟨S,fun _ _ hs=>hs,h,hl,by simp⟩
 | x :: xs,[],_,_,_,_,_,hl,_,_=>by simp at hl
 | x :: xs,v :: vs,heap,heap',S,avs',h,hl,hr,hf=>by
  unfold frzs at hf
  split at hf
  ·rename_i y h1 hy
   split at hf
   ·rename_i ys h2 hys
    cases hf
    obtain ⟨v',hv',hx⟩:=hr 0 x rfl
    simp at hv'; subst hv'
    obtain ⟨S1,e1,e2,e3⟩:=frz1_rep h hx hy
    obtain ⟨S2,f1,f2,f3,f4⟩:=frzs_rep xs vs h1 heap' S1 ys e2 (by simpa using hl) (fun i z hz=>by
     obtain ⟨u,q1,q2⟩:=hr (i+1) z (by simpa using hz)
     exact ⟨u,by simpa using q1,q2.mono (fun _ _ hx=>hx) e1 fun _ _ _=>rfl⟩) hys
    refine ⟨S2,fun c o hs=>f1 _ _ (e1 _ _ hs),f2,by simp [f3],fun i z hz=>?_⟩
    cases i with
    | zero=>simp at hz; subst hz; exact ⟨v,rfl,e3.mono (fun _ _ hx=>hx) f1 fun _ _ _=>rfl⟩
    | succ i=>simpa using f4 i z (by simpa using hz)
   ·cases hf
  ·cases hf
theorem ACall.of_bodyX (hC:CfgOk P C) {fn:Func} {c:Code} {args:List Arg} {res:Res} {om:List Mode} (hfn:P.funcs[f]?=some fn) (hname:(fn.name == "runtime.NumGoroutine")=false) (hbody:fn.body=some c)
  (hrun:ARun P args.length c (startSt args fn.ntmps) fun e s=>(e=.normal ∨ e=.ret)/\finishX C s args fn.results.toList om=some res):ACall P f args res:=by
 refine ⟨⟨fn,hfn,by rw [hbody]; rfl,hname⟩,fun S w vals Rs hp=>?_⟩
 refine calls_of_wp hfn hbody ?_
 have hsat:=start_sat hp fn.ntmps
 have hsz:(vals.take (nvA args)).toArray.size=(vals.take (nvA args)).length:=by simp
 rw [hsz]
 refine wp_mono (hrun _ (fun i R hi=>?_) _ S _ w hsat) fun e a' w' ⟨x,s,hx,⟨hxe,hfin⟩,β',S1,hs⟩=>?_
 ·simp only [βA] at hi
  split at hi
  ·rename_i h1
   obtain ⟨y,hy⟩:=Option.isSome_iff_exists.1 h1
   obtain ⟨z,h2,_⟩:=Option.bind_eq_some_iff.1 hy
   exact qag h2
  ·cases hi
 unfold finishX at hfin
 split at hfin
 ·cases hfin
 ·rename_i avs havs
  split at hfin
  ·rename_i avs' heap' hfz
   obtain ⟨vs,r1,r2,r3⟩:=run_results (P:=P) hC hs havs
   obtain ⟨S2,q1,q2,q3,q4⟩:=frzs_rep (tm:=s.tmps) avs vs s.heap heap' S1 avs' hs r2 r3 hfz
   have hpost:=post_of q2 q3 q4 hfin
   have hend:∃ v,(results fn a'.tmps).run P w'=.ok v w'/\∃ u,Ending.returned v=.returned u/\CallPost args res S w Rs u w':=⟨_,r1,_,rfl,hpost⟩
   cases e with
   | normal=>exact ⟨hs.defers,hend⟩
   | ret=>exact ⟨hs.defers,hend⟩
   | exit id=>cases hx; rcases hxe with h | h <;> cases h
   | goto=>cases hx
   | panic=>cases hx
   | outgrown=>cases hx
  ·cases hfin
end
inductive Ask where
 | a (args:List Arg)
 | h (s:St)
inductive Ans where
 | a (r:Res)
 | h (s:St)
def Shows (P:Program) (f:FuncId):Ask->Ans->Prop
 | .a args,.a r=>ACall P f args r
 | .h s,.h s'=>HCall P f s s'
 | _,_=>False
def stepE (C:Cfg) (call:FuncId->Ask->Option Ans) (ops:List Oper) (slot:Nat) (o:Oper) (st:St):Option Eff:=
 match wantedA st.tmps ops o with
 | none=>none
 | some false=>some skipEff
 | some true=>
  match o.op with
  | .call { callee:=.value f,args,.. }=>
   match callOf (st.get f) (args.toList.map st.get) with
   | none=>none
   | some (fid,avs)=>
    match C.md fid with
    | .sh _ :: _=>
     match viewOf (look st.heap) avs with
     | none=>none
     | some (ids,s)=>
      match call fid (.h s) with
      | some (.h s')=>shEff ids slot (slotsOf C o.op) s'
      | _=>none
    | ms=>
     match prepCall (look st.heap) ms avs with
     | none=>none
     | some (as,marks,bks)=>
      match call fid (.a as) with
      | some (.a res)=>callEff (look st.heap) slot marks bks res
      | _=>none
  | op=>evalOp C slot st.get (look st.heap) op
def execOps (C:Cfg) (call:FuncId->Ask->Option Ans) (ops:List Oper):List Oper->Nat->St->List Eff->Option (List Eff × St)
 | [],_,st,tr=>some (tr,st)
 | o :: os,slot,st,tr=>
  match stepE C call ops slot o st with
  | some e=>execOps C call ops os (slot+slotsOf C o.op) (st.app o e) (tr ++ [e])
  | none=>none
def confT (ops:List Oper) (x y:Oper):Bool:=
 (match x.dst with | some d=>(usesT ops y).contains d || y.dst == some d | none=>false) ||
 (match y.dst with | some d=>(usesT ops x).contains d | none=>false)
def confH (ex ey:Eff):Bool:=(ids ex.wr).any (fun b=>(ids ey.wr).contains b || ey.rd.contains b) || ex.rd.any fun b=>(ids ey.wr).contains b
def drawT (ops:List Oper):Bool:=
 (List.range ops.length).all fun j=>(((ops.getD j default).after.toList.all fun e=>!Region.binds .any e || decide (e.on < j))) &&
  (List.range j).all fun i=>((befs [] ops).getD j 0).testBit i || !confT ops (ops.getD i default) (ops.getD j default)
def drawH (ops:List Oper) (effs:List Eff):Bool:=
 (effs.all fun e=>e.wr.isEmpty) || (List.range ops.length).all fun j=>(List.range j).all fun i=>!confH (effs.getD i {}) (effs.getD j {}) || ((befs [] ops).getD j 0).testBit i
theorem drawOk_of {ops:List Oper} {effs:List Eff} (h1:drawT ops=true) (h2:drawH ops effs=true):drawOk ops effs=true:=by
 have hH:∀ j,j < ops.length->∀ i,i < j->((befs [] ops).getD j 0).testBit i=true ∨ confH (effs.getD i {}) (effs.getD j {})=false:=by
  intro j hj i hi
  unfold drawH at h2
  rw [Bool.or_eq_true] at h2
  rcases h2 with h2 | h2
  ·right
   have hw:∀ k,(effs.getD k {}).wr=[]:=by
    intro k
    rw [List.getD_eq_getElem?_getD]
    cases hk:effs[k]? with
    | none=>rfl
    | some e=>simpa using List.all_eq_true.1 h2 e (List.mem_of_getElem? hk)
   simp only [confH,hw,ids,List.map_nil,List.any_nil,Bool.false_or]
   rw [List.any_eq_false]
   simp
  ·have:=List.all_eq_true.1 (List.all_eq_true.1 h2 j (List.mem_range.2 hj)) i (List.mem_range.2 hi)
   rw [Bool.or_eq_true] at this
   rcases this with h | h
   ·exact .inr (by simpa using h)
   ·exact .inl h
 unfold drawT at h1
 unfold drawOk
 refine List.all_eq_true.2 fun j hj=>?_
 have h1j:=List.all_eq_true.1 h1 j hj
 rw [Bool.and_eq_true] at h1j ⊢
 refine ⟨h1j.1,List.all_eq_true.2 fun i hi=>?_⟩
 have h1i:=List.all_eq_true.1 h1j.2 i hi
 rw [Bool.or_eq_true] at h1i ⊢
 rcases h1i with h | h
 ·exact .inl h
 ·rcases hH j (List.mem_range.1 hj) i (List.mem_range.1 hi) with h' | h'
  ·exact .inl h'
  ·right
   have e1:conf ops (ops.getD i default) (ops.getD j default) (effs.getD i {}) (effs.getD j {})=(confT ops (ops.getD i default) (ops.getD j default) || confH (effs.getD i {}) (effs.getD j {})):=by
    unfold conf confT confH
    first
     | (simp only [Bool.or_assoc]; done)
     | (simp only [Bool.or_assoc]; rfl)
   rw [e1,h']
   simpa using h
def execCode (C:Cfg) (call:FuncId->Ask->Option Ans):Nat->Code->St->Option (AExit × St)
 | 0,_,_=>none
 | n+1,c,st=>
  match c with
  | .skip=>some (.normal,st)
  | .ret=>some (.ret,st)
  | .exit id=>some (.exit id,st)
  | .seq x y=>
   match execCode C call n x st with
   | some (.normal,s)=>execCode C call n y s
   | r=>r
  | .region _ ops draw=>
   match execOps C call ops.toList ops.toList st.heap.length (st.ext (slotsSum C ops.toList)) [] with
   | some (effs,s)=>if !draw || (drawT ops.toList && drawH ops.toList effs) then some (.normal,s) else none
   | none=>none
  | .cond c x y=>
   match (st.get c).bool? with
   | some true=>execCode C call n x st
   | some false=>execCode C call n y st
   | none=>none
  | .block id c=>
   match execCode C call n c st with
   | some (.exit id',s)=>if id'=id then some (.normal,s) else some (.exit id',s)
   | r=>r
  | .loop c=>
   match execCode C call n c st with
   | some (.normal,s)=>execCode C call n (.loop c) s
   | r=>r
  | _=>none
def canonIds (n:Nat) (heap:Heap) (avs:List AV):List Nat:=
 reach (look heap) 400 (avs.flatMap AV.refs ++ (List.range n).flatMap fun b=>match look heap b with | some (.var cells)=>cells.flatMap Cell.refs | _=>[]) (List.range n)
def canonOk (n:Nat) (ids:List Nat) (heap:Heap) (avs:List AV):Bool:=
 decide (ids.take n=List.range n) && decide (n<=ids.length) && decide ids.Nodup && avs.all (·.inIds ids) && ids.all fun b=>match look heap b with | some (.var cells)=>cells.all (·.inIds ids) | _=>true
def canonSt (n:Nat) (heap:Heap) (avs:List AV):Option St:=
 let ids:=canonIds n heap avs
 if canonOk n ids heap avs then some (viewSt (look heap) ids avs) else none
def startH (s:St) (ntmps:Nat):St:=⟨s.tmps ++ List.replicate (ntmps - s.tmps.length) .junk,s.heap⟩
def finishH (C:Cfg) (n:Nat) (s:St) (rvs:List ResultVar):Option St:=
 match rvs.mapM (resAV C s) with
 | none=>none
 | some avs=>canonSt n s.heap avs
def execAsk (P:Program) (C:Cfg) (om:FuncId->List Mode) (call:FuncId->Ask->Option Ans) (n:Nat) (f:FuncId) (x:Ask):Option Ans:=
 match P.funcs[f]? with
 | some fn=>
  if fn.name == "runtime.NumGoroutine" then none else
  match fn.body with
  | some c=>
   match x with
   | .a args=>match execCode C call n c (startSt args fn.ntmps) with
    | some (.normal,s)=>(finishX C s args fn.results.toList (om f)).map .a
    | some (.ret,s)=>(finishX C s args fn.results.toList (om f)).map .a
    | _=>none
   | .h s0=>match execCode C call n c (startH s0 fn.ntmps) with
    | some (.normal,s)=>(finishH C s0.heap.length s fn.results.toList).map .h
    | some (.ret,s)=>(finishH C s0.heap.length s fn.results.toList).map .h
    | _=>none
  | none=>none
 | none=>none
section
variable {P:Program} {C:Cfg} {call:FuncId->Ask->Option Ans} {ops:List Oper} {slot:Nat} {o:Oper} {st:St} {e:Eff} {n0:Nat} {Q:AExit->St->Prop}
theorem stepE_sound (hcall:∀ f x y,call f x=some y->Shows P f x y) (h:stepE C call ops slot o st=some e) {k:Eff->Prop} (hk:k e):StepK P C ops slot o st k:=by
 unfold stepE at h
 unfold StepK
 split at h
 ·cases h
 ·rename_i hw; cases h; simp only [hw]; exact hk
 ·rename_i hw
  simp only [hw]
  split at h
  ·rename_i f args argTypes hop
   split at h
   ·cases h
   ·rename_i fid avs hc
    split at h
    ·rename_i n0 mds hmd
     split at h
     ·cases h
     ·rename_i ids s hp
      split at h
      ·rename_i s' hr
       rw [hop] at h
       simp only [hop,hc,hmd,hp]
       exact ⟨s',hcall _ _ _ hr,by simp only [h]; exact hk⟩
      ·cases h
    ·rename_i hnsh
     split at h
     ·cases h
     ·rename_i as marks bks hp
      split at h
      ·rename_i res hr
       simp only [hop,hc,hp]
       exact ⟨res,hcall _ _ _ hr,by simp only [h]; exact hk⟩
      ·cases h
  ·rename_i hn
   split
   ·rename_i hop
    exact absurd hop (hn _ _ _)
   ·simp only [h]; exact hk
theorem execOps_sound (hcall:∀ f x y,call f x=some y->Shows P f x y):∀ (os:List Oper) (slot:Nat) (st:St) (tr:List Eff) {effs:List Eff} {s:St} {k:List Eff->St->Prop},
  execOps C call ops os slot st tr=some (effs,s)->k effs s->OpsK P C ops os slot st tr k
 | [],slot,st,tr,effs,s,k,h,hk=>by simp only [execOps,Option.some.injEq,Prod.mk.injEq] at h; obtain ⟨rfl,rfl⟩:=h; exact hk
 | o :: os,slot,st,tr,effs,s,k,h,hk=>by
  unfold execOps at h
  split at h
  ·rename_i e he
   exact stepE_sound hcall he (execOps_sound hcall os _ _ _ h hk)
  ·cases h
theorem execCode_sound (hC:CfgOk P C) (hmix:P.follows .mixedOrders=true) (hcall:∀ f x y,call f x=some y->Shows P f x y) :
  ∀ (n:Nat) (c:Code) (st:St) {x:AExit} {s:St} {Q:AExit->St->Prop},execCode C call n c st=some (x,s)->Q x s->ARun P n0 c st Q:=by
 intro n
 induction n using Nat.strongRecOn with
 | _ n ih=>
  intro c st x s Q h hQ
  cases n with
  | zero=>cases h
  | succ n=>
   cases c with
   | skip=>cases h; exact .skip hQ
   | ret=>cases h; exact .ret hQ
   | exit id=>cases h; exact .exit hQ
   | seq x y=>
    simp only [execCode] at h
    refine .seq ?_
    split at h
    ·rename_i s1 h1
     exact ih n (Nat.lt_succ_self n) _ _ h1 (ih n (Nat.lt_succ_self n) _ _ h hQ)
    ·rename_i r hr
     refine ih n (Nat.lt_succ_self n) _ _ h ?_
     unfold SeqQ
     split
     ·exact absurd h (hr _)
     ·exact hQ
   | region id ops draw=>
    simp only [execCode] at h
    split at h
    ·rename_i effs s1 h1
     split at h
     ·rename_i hd
      cases h
      cases draw with
      | false=>exact .region hC (execOps_sound hcall _ _ _ _ h1 hQ)
      | true=>
       simp only [Bool.not_true,Bool.false_or,Bool.and_eq_true] at hd
       exact .draw hC hmix (execOps_sound hcall _ _ _ _ h1 ⟨drawOk_of hd.1 hd.2,hQ⟩)
     ·cases h
    ·cases h
   | cond c x y=>
    simp only [execCode] at h
    split at h
    ·rename_i hb
     exact .cond hb (ih n (Nat.lt_succ_self n) _ _ h hQ)
    ·rename_i hb
     exact .cond hb (ih n (Nat.lt_succ_self n) _ _ h hQ)
    ·cases h
   | block id c=>
    simp only [execCode] at h
    refine .block ?_
    split at h
    ·rename_i id' s1 h1
     refine ih n (Nat.lt_succ_self n) _ _ h1 ?_
     unfold BlockQ
     split at h
     ·rename_i hid; cases h; simp only [hid,if_true]; exact hQ
     ·rename_i hid; cases h; simp only [hid,if_false]; exact hQ
    ·rename_i r hr
     refine ih n (Nat.lt_succ_self n) _ _ h ?_
     unfold BlockQ
     split
     ·exact absurd h (hr _ _)
     ·exact hQ
   | loop c=>
    refine ARun.loop (fun m s'=>m<=n+1/\execCode C call m (.loop c) s'=some (x,s)) (fun m s' ⟨hm,hs⟩=>?_) (n:=n+1) ⟨Nat.le_refl _,h⟩
    cases m with
    | zero=>cases hs
    | succ m=>
     simp only [execCode] at hs
     split at hs
     ·rename_i s1 h1
      exact ih m (by omega) _ _ h1 ⟨m,Nat.lt_succ_self m,by omega,hs⟩
     ·rename_i r hr
      refine ih m (by omega) _ _ hs ?_
      unfold LoopQ
      split
      ·exact absurd hs (hr _)
      ·exact hQ
   | _=>cases h
theorem Cell.ren_view {ids:List Nat} {c:Cell} (h:c.inIds ids=true):(c.ren fun b=>posOf b ids).ren (fun k=>ids.getD k 0)=c:=by
 have key:∀ b,ids.contains b=true->ids.getD (posOf b ids) 0=b:=fun b hb=>(posOf_lt (List.contains_iff_mem.1 hb)).2
 cases c with
 | t x=>rfl
 | ptr b r c=>simp only [Cell.ren]; rw [key _ h]
 | tp row c=>rfl
 | sl b off len cp=>simp only [Cell.ren]; rw [key _ h]
 | mp b=>simp only [Cell.ren]; rw [key _ h]
 | clo f caps=>
  simp only [Cell.ren,List.map_map,Cell.clo.injEq,true_and]
  refine (List.map_congr_left fun p hp=>?_).trans (List.map_id _)
  simp only [Function.comp]
  rw [key _ (List.all_eq_true.1 h p hp)]
  rfl
theorem AV.ren_view {ids:List Nat} {x:AV} (h:x.inIds ids=true):(x.ren fun b=>posOf b ids).ren (fun k=>ids.getD k 0)=x/\(x.ren fun b=>posOf b ids).noTup:=by
 cases x with
 | c x=>exact ⟨by simp only [AV.ren]; rw [Cell.ren_view h],trivial⟩
 | agg l=>
  refine ⟨?_,trivial⟩
  simp only [AV.ren,List.map_map,AV.agg.injEq]
  exact (List.map_congr_left fun c hc=>Cell.ren_view (List.all_eq_true.1 h c hc)).trans (List.map_id _)
 | tup l=>cases h
 | junk=>exact ⟨rfl,trivial⟩
theorem Cell.refs_view {ids:List Nat} {c:Cell} (h:c.inIds ids=true):(c.ren fun b=>posOf b ids).refsLt ids.length=true:=by
 have key:∀ b,ids.contains b=true->posOf b ids < ids.length:=fun b hb=>(posOf_lt (List.contains_iff_mem.1 hb)).1
 cases c with
 | t x=>rfl
 | ptr b r c=>exact decide_eq_true (key _ h)
 | tp row c=>rfl
 | sl b off len cp=>exact decide_eq_true (key _ h)
 | mp b=>exact decide_eq_true (key _ h)
 | clo f caps=>
  refine List.all_eq_true.2 fun p hp=>?_
  obtain ⟨q,hq,rfl⟩:=List.mem_map.1 hp
  exact decide_eq_true (key _ (List.all_eq_true.1 h q hq))
theorem canonSt_spec {n:Nat} {heap:Heap} {avs:List AV} {s':St} (h:canonSt n heap avs=some s') :
  ∃ ρ,(St.mk avs heap).LeR n ρ s'/\s'.refsLt=true/\n<=s'.heap.length:=by
 simp only [canonSt] at h
 split at h
 ·rename_i hc
  cases h
  generalize canonIds n heap avs=ids at hc
  unfold canonOk at hc
  simp only [Bool.and_eq_true,decide_eq_true_eq] at hc
  obtain ⟨⟨⟨⟨h1,h2⟩,h3⟩,h4⟩,h5⟩:=hc
  have ha:∀ x ∈ avs,x.inIds ids=true:=List.all_eq_true.1 h4
  have hb:∀ b ∈ ids,∀ blk,look heap b=some blk->(blk.ren fun b=>posOf b ids).ren (fun k=>ids.getD k 0)=blk/\(blk.ren fun b=>posOf b ids).refsLt ids.length=true:=by
   intro b hbm blk hl
   cases blk with
   | var cells=>
    have:=List.all_eq_true.1 h5 b hbm
    rw [hl] at this
    refine ⟨?_,?_⟩
    ·simp only [Blk.ren,List.map_map,Blk.var.injEq]
     exact (List.map_congr_left fun c hc=>Cell.ren_view (List.all_eq_true.1 this c hc)).trans (List.map_id _)
    ·refine List.all_eq_true.2 fun c hc=>?_
     obtain ⟨c0,hc0,rfl⟩:=List.mem_map.1 hc
     exact Cell.refs_view (List.all_eq_true.1 this c0 hc0)
   | rows=>exact ⟨rfl,rfl⟩
   | map=>exact ⟨rfl,rfl⟩
   | old=>exact ⟨rfl,rfl⟩
  refine ⟨fun k=>ids.getD k 0,⟨by simp [viewSt],fun i x hi=>?_,fun b blk hbk=>?_,fun b b' blk blk' hb1 hb2 he=>?_,fun b hbn=>?_⟩,?_,by simpa [viewSt] using h2⟩
  ·simp only [viewSt,List.getElem?_map] at hi
   obtain ⟨x0,e1,rfl⟩:=Option.map_eq_some_iff.1 hi
   obtain ⟨e2,e3⟩:=AV.ren_view (ha x0 (List.mem_of_getElem? e1))
   exact .inr ⟨e3,by rw [e2]; exact e1⟩
  ·obtain ⟨hlt,b0,e1,rfl⟩:=look_view hbk
   rw [(hb _ (getD_mem hlt) b0 e1).1]; exact e1
  ·obtain ⟨hlt,_⟩:=look_view hb1
   obtain ⟨hlt',_⟩:=look_view hb2
   exact getD_inj h3 hlt hlt' he
  ·have:ids[b]?=some b:=by
    rw [<- List.getElem?_take_of_lt hbn,h1,List.getElem?_range hbn]
   rw [List.getD_eq_getElem?_getD,this]; rfl
  ·simp only [St.refsLt,viewSt,Bool.and_eq_true,List.length_map]
   refine ⟨List.all_eq_true.2 fun x hx=>?_,List.all_eq_true.2 fun o ho=>?_⟩
   ·obtain ⟨x0,hx0,rfl⟩:=List.mem_map.1 hx
    have:=ha x0 hx0
    cases x0 with
    | c c=>exact Cell.refs_view this
    | agg l=>
     refine List.all_eq_true.2 fun c hc=>?_
     obtain ⟨c0,hc0,rfl⟩:=List.mem_map.1 hc
     exact Cell.refs_view (List.all_eq_true.1 this c0 hc0)
    | tup l=>cases this
    | junk=>rfl
   ·obtain ⟨b,hbm,rfl⟩:=List.mem_map.1 ho
    cases hl:look heap b with
    | none=>rfl
    | some blk=>exact (hb b hbm blk hl).2
 ·cases h
theorem execAsk_sound {om:FuncId->List Mode} (hC:CfgOk P C) (hmix:P.follows .mixedOrders=true) (hcall:∀ f x y,call f x=some y->Shows P f x y) {n:Nat} {f:FuncId} {x:Ask} {y:Ans} (h:execAsk P C om call n f x=some y):Shows P f x y:=by
 unfold execAsk at h
 split at h
 ·rename_i fn hfn
  split at h
  ·cases h
  ·rename_i hname
   split at h
   ·rename_i c hbody
    cases x with
    | a args=>
     simp only at h
     split at h
     ·rename_i s h1
      obtain ⟨r,h2,rfl⟩:=Option.map_eq_some_iff.1 h
      exact ACall.of_bodyX hC hfn (by simpa using hname) hbody (om:=om f) (execCode_sound hC hmix hcall n c _ h1 ⟨.inl rfl,h2⟩)
     ·rename_i s h1
      obtain ⟨r,h2,rfl⟩:=Option.map_eq_some_iff.1 h
      exact ACall.of_bodyX hC hfn (by simpa using hname) hbody (om:=om f) (execCode_sound hC hmix hcall n c _ h1 ⟨.inr rfl,h2⟩)
     ·cases h
    | h s0=>
     have key:∀ (e:AExit) (s s':St),(e=.normal ∨ e=.ret)->finishH C s0.heap.length s fn.results.toList=some s'->(e=.normal ∨ e=.ret)/\∃ avs ρ,fn.results.toList.mapM (resAV C s)=some avs/\(St.mk avs s.heap).LeR s0.heap.length ρ s'/\s'.refsLt=true/\s0.heap.length<=s'.heap.length:=by
      intro e s s' he h2
      unfold finishH at h2
      split at h2
      ·cases h2
      ·rename_i avs hav
       obtain ⟨ρ,q1,q2,q3⟩:=canonSt_spec h2
       exact ⟨he,avs,ρ,hav,q1,q2,q3⟩
     simp only at h
     split at h
     ·rename_i s h1
      obtain ⟨r,h2,rfl⟩:=Option.map_eq_some_iff.1 h
      exact HCall.of_body hC hfn (by simpa using hname) hbody (execCode_sound hC hmix hcall n c _ h1 (key _ _ _ (.inl rfl) h2))
     ·rename_i s h1
      obtain ⟨r,h2,rfl⟩:=Option.map_eq_some_iff.1 h
      exact HCall.of_body hC hfn (by simpa using hname) hbody (execCode_sound hC hmix hcall n c _ h1 (key _ _ _ (.inr rfl) h2))
     ·cases h
   ·cases h
 ·cases h
end
def omOf (P:Program) (l:List (FuncId × List Mode)) (f:FuncId):List Mode:=
 match l.find? (fun p=>p.1 == f) with
 | some p=>p.2
 | none=>match P.funcs[f]? with
  | some fn=>List.replicate fn.results.size .val
  | none=>[]
def LoopP (P:Program) (n0:Nat) (c:Code) (st:St) (Q:AExit->St->Prop):Prop:=ARun P n0 (.loop c) st Q
def CodeK (P:Program) (C:Cfg) (n0:Nat):Code->St->(AExit->St->Prop)->Prop
 | .skip,st,Q=>Q .normal st
 | .ret,st,Q=>Q .ret st
 | .exit id,st,Q=>Q (.exit id) st
 | .seq x y,st,Q=>CodeK P C n0 x st fun e s=>match e with
  | .normal=>CodeK P C n0 y s Q
  | .exit id=>Q (.exit id) s
  | .ret=>Q .ret s
 | .region _ ops draw,st,Q=>OpsK P C ops.toList ops.toList st.heap.length (st.ext (slotsSum C ops.toList)) [] fun effs st'=>match draw with
  | false=>Q .normal st'
  | true=>match drawT ops.toList && drawH ops.toList effs with
   | true=>Q .normal st'
   | false=>False
 | .cond c x y,st,Q=>match (st.get c).bool? with
  | some true=>CodeK P C n0 x st Q
  | some false=>CodeK P C n0 y st Q
  | none=>False
 | .block id c,st,Q=>CodeK P C n0 c st fun e s=>match e with
  | .normal=>Q .normal s
  | .exit id'=>if id'=id then Q .normal s else Q (.exit id') s
  | .ret=>Q .ret s
 | .loop c,st,Q=>LoopP P n0 c st Q
 | _,_,_=>False
section
variable {P:Program} {C:Cfg} {ops:List Oper} {slot:Nat} {o:Oper} {st:St} {e:Eff} {n0:Nat}
theorem stepK_mono {k k':Eff->Prop} (h:StepK P C ops slot o st k) (hk:∀ e,k e->k' e):StepK P C ops slot o st k':=by
 unfold StepK at h ⊢
 split at h
 ·exact h.elim
 ·exact hk _ h
 ·split at h
  ·split at h
   ·exact h.elim
   ·split at h
    ·split at h
     ·exact h.elim
     ·obtain ⟨s',h1,h2⟩:=h
      refine ⟨s',h1,?_⟩
      split at h2
      ·exact hk _ h2
      ·exact h2.elim
    ·split at h
     ·exact h.elim
     ·obtain ⟨res,h1,h2⟩:=h
      refine ⟨res,h1,?_⟩
      split at h2
      ·exact hk _ h2
      ·exact h2.elim
  ·split at h
   ·exact hk _ h
   ·exact h.elim
theorem opsK_mono:∀ (os:List Oper) (slot:Nat) (st:St) (tr:List Eff) {k k':List Eff->St->Prop},OpsK P C ops os slot st tr k->(∀ t s,k t s->k' t s)->OpsK P C ops os slot st tr k'
 | [],slot,st,tr,k,k',h,hk=>hk _ _ h
 | o :: os,slot,st,tr,k,k',h,hk=>stepK_mono h fun e he=>opsK_mono os _ _ _ he hk
theorem CodeK.run (hC:CfgOk P C) (hmix:P.follows .mixedOrders=true):∀ (c:Code) (st:St) (Q:AExit->St->Prop),CodeK P C n0 c st Q->ARun P n0 c st Q:=by
 intro c
 induction c with
 | skip=>intro st Q h; exact .skip h
 | ret=>intro st Q h; exact .ret h
 | exit id=>intro st Q h; exact .exit h
 | seq x y ihx ihy=>
  intro st Q h
  refine .seq ((ihx st _ h).mono fun e s hs=>?_)
  cases e with
  | normal=>exact ihy s _ hs
  | exit id=>exact hs
  | ret=>exact hs
 | region id ops draw=>
  intro st Q h
  cases draw with
  | false=>exact .region hC h
  | true=>
   refine .draw hC hmix (opsK_mono _ _ _ _ h fun t s hs=>?_)
   simp only at hs
   split at hs
   ·rename_i hd
    rw [Bool.and_eq_true] at hd
    exact ⟨drawOk_of hd.1 hd.2,hs⟩
   ·exact hs.elim
 | cond c x y ihx ihy=>
  intro st Q h
  unfold CodeK at h
  split at h
  ·rename_i hb; exact .cond hb (ihx st Q h)
  ·rename_i hb; exact .cond hb (ihy st Q h)
  ·exact h.elim
 | block id c ih=>
  intro st Q h
  refine .block ((ih st _ h).mono fun e s hs=>?_)
  cases e <;> exact hs
 | loop c ih=>intro st Q h; exact h
 | _=>intros; rename_i h; exact False.elim h
theorem ARun.postWeaken' {c:Code} {Q:AExit->St->Prop} (h:ARun P n0 c st fun e s=>Q e s ∨ ∃ s',s.Le s'/\s'.refsLt=true/\n0<=s'.heap.length/\Q e s'):ARun P n0 c st Q:=fun K hn β S a w hs=>
 wp_mono (h K hn β S a w hs) fun e a' w' ⟨x,s,h1,h2,β',S',h5⟩=>by
  rcases h2 with h2 | ⟨s',h2,h3,hk,h4⟩
  ·exact ⟨x,s,h1,h2,β',S',h5⟩
  ·exact ⟨x,s',h1,h4,_,S',h5.weaken h2 h3 fun i R hi=>Nat.lt_of_lt_of_le (hn i R hi) hk⟩
theorem LoopP.intro (hC:CfgOk P C) (hmix:P.follows .mixedOrders=true) {c:Code} {Q:AExit->St->Prop} (I:Nat->St->Prop) {n:Nat} {s0:St} (hl:st.Le s0) (hb:s0.refsLt=true) (hk:n0<=s0.heap.length) (h0:I n s0)
  (round:∀ n s,I n s->CodeK P C n0 c s fun e s=>match e with
   | .normal=>∃ s',s.Le s'/\s'.refsLt=true/\n0<=s'.heap.length/\∃ m,m < n/\I m s'
   | .exit id=>Q (.exit id) s
   | .ret=>Q .ret s):LoopP P n0 c st Q:=by
 refine ARun.weaken hl hb hk (ARun.loop I (fun n s hI=>ARun.postWeaken' ((CodeK.run hC hmix c s _ (round n s hI)).mono fun e s1 h1=>?_)) h0)
 cases e with
 | normal=>
  obtain ⟨s',h2,h3,h4,m,h5,h6⟩:=h1
  exact .inr ⟨s',h2,h3,h4,m,h5,h6⟩
 | exit id=>exact .inl h1
 | ret=>exact .inl h1
def leT:List AV->List AV->Prop
 | [],[]=>True
 | x :: xs,y :: ys=>(y=.junk ∨ y=x)/\leT xs ys
 | _,_=>False
def leH:Heap->Heap->Prop
 | _,[]=>True
 | x :: xs,y :: ys=>(y=none ∨ y=x)/\leH xs ys
 | _,_=>False
theorem leT_spec:∀ {xs ys:List AV},leT xs ys->ys.length=xs.length/\∀ (i:Nat) (y:AV),ys[i]?=some y->y=.junk ∨ xs[i]?=some y
 | [],[],_=>⟨rfl,by simp⟩
 | x :: xs,y :: ys,h=>by
  obtain ⟨h1,h2⟩:=h
  obtain ⟨h3,h4⟩:=leT_spec h2
  refine ⟨by simp [h3],fun i z hz=>?_⟩
  cases i with
  | zero=>simp at hz; subst hz; rcases h1 with h | h; exact .inl h; exact .inr (by simp [h])
  | succ i=>simpa using h4 i z (by simpa using hz)
theorem leH_spec:∀ {xs ys:Heap},leH xs ys->ys.length<=xs.length/\∀ (i:Nat) (b:Blk),look ys i=some b->look xs i=some b
 | xs,[],_=>⟨by simp,fun i b hb=>by simp [look] at hb⟩
 | x :: xs,y :: ys,h=>by
  obtain ⟨h1,h2⟩:=h
  obtain ⟨h3,h4⟩:=leH_spec h2
  refine ⟨by simp [h3],fun i b hb=>?_⟩
  cases i with
  | zero=>simp [look] at hb ⊢; subst hb; rcases h1 with h | h; cases h; exact h.symm
  | succ i=>simpa [look] using h4 i b (by simpa [look] using hb)
theorem qao {s s':St} (h1:leT s.tmps s'.tmps) (h2:leH s.heap s'.heap):s.Le s':=
 ⟨(leT_spec h1).1,(leH_spec h2).1,(leT_spec h1).2,(leH_spec h2).2⟩
theorem ACall.intro (hC:CfgOk P C) (hmix:P.follows .mixedOrders=true) {f:FuncId} {fn:Func} {c:Code} {args:List Arg} {res:Res} (om:List Mode) (hfn:P.funcs[f]?=some fn) (hname:(fn.name == "runtime.NumGoroutine")=false) (hbody:fn.body=some c)
  (h:CodeK P C args.length c (startSt args fn.ntmps) fun e s=>match e with
   | .exit _=>False
   | .normal=>finish C s args fn.results.toList om=some res
   | .ret=>finish C s args fn.results.toList om=some res):ACall P f args res:=
 ACall.of_body hC hfn hname hbody ((CodeK.run hC hmix c _ _ h).mono fun e s hs=>by
  cases e with
  | normal=>exact ⟨.inl rfl,hs⟩
  | exit id=>exact hs.elim
  | ret=>exact ⟨.inr rfl,hs⟩)
end
abbrev Rows:=List (List Tree)
structure ZI where
 wrap:IntKind->Int->Int
 add:Int->Int->Int
 sub:Int->Int->Int
 mul:Int->Int->Int
 quo:Int->Int->Int
 rem:Int->Int->Int
 shl:IntKind->Int->Int->Int
 shr:IntKind->Int->Int->Int
 band:IntKind->Int->Int->Int
 bor:IntKind->Int->Int->Int
 bxor:IntKind->Int->Int->Int
 bandn:IntKind->Int->Int->Int
 eq:Int->Int->Bool
 ne:Int->Int->Bool
 lt:Int->Int->Bool
 le:Int->Int->Bool
 not:Bool->Bool
 beq:Bool->Bool->Bool
 bne:Bool->Bool->Bool
 max:Int->Int->Int
 min:Int->Int->Int
 nat:Int->Nat
 inb:Int->Nat->Bool
 ofN:Nat->Int
 idx:Nat->Int->Nat
 neq:Nat->Nat->Bool
 nadd:Nat->Nat->Nat
 dif:Int->Int->Nat
 cut:Int->Int->Nat->Bool
 room:Nat->Nat->Nat->Bool
 mkok:Int->Int->Nat->Bool
 len:Rows->Nat
 nth:Rows->Nat->Option (List Tree)
 setr:Rows->Nat->List Tree->Rows
 isI:IntKind->Rows->Nat->Bool
 getI:Rows->Nat->Int
 setI:IntKind->Rows->Nat->Int->Rows
 fit:Nat->Nat->Rows->Bool
 part:Rows->Nat->Nat->Rows
 ext:Rows->Nat->Rows->Rows
 setg:Rows->Nat->Rows->Rows
 rep:Nat->List Tree->Rows
 wide:Nat->Rows->Bool
 all:List Bool->Bool
 mok:List (Value × Tree)->Value->Bool
 mget:List (Value × Tree)->Value->Bool
 mset:List (Value × Tree)->Value->Tree->List (Value × Tree)
def ZI.std:ZI where
 wrap k n:=k.wrap n
 add a b:=a+b
 sub a b:=a - b
 mul a b:=a*b
 quo a b:=a.tdiv b
 rem a b:=a.tmod b
 shl k a b:=k.wrap (a*2 ^ (Min.min b.toNat k.bits))
 shr k a b:=a.fdiv (2 ^ (Min.min b.toNat k.bits))
 band k a b:=k.wrap ((BitVec.ofInt k.bits a &&& BitVec.ofInt k.bits b).toNat)
 bor k a b:=k.wrap ((BitVec.ofInt k.bits a ||| BitVec.ofInt k.bits b).toNat)
 bxor k a b:=k.wrap ((BitVec.ofInt k.bits a ^^^ BitVec.ofInt k.bits b).toNat)
 bandn k a b:=k.wrap ((BitVec.ofInt k.bits a &&& ~~~ BitVec.ofInt k.bits b).toNat)
 eq a b:=decide (a=b)
 ne a b:=decide (a ≠ b)
 lt a b:=decide (a < b)
 le a b:=decide (a<=b)
 not b:=!b
 beq a b:=(a == b)
 bne a b:=!(a == b)
 max a b:=if b > a then b else a
 min a b:=if b < a then b else a
 nat a:=a.toNat
 inb a n:=decide (0<=a/\a < n)
 ofN n:=n
 idx off a:=off+a.toNat
 neq a b:=decide (a=b)
 nadd a b:=a+b
 dif e l:=e.toNat - l.toNat
 cut l e n:=decide (0<=l/\l<=e/\e<=n)
 room a b bytes:=decide ((a+b)*bytes<=capBytes)
 mkok n m bytes:=decide (0<=n/\n<=m/\m*bytes<=capBytes)
 len l:=l.length
 nth l i:=l[i]?
 setr l i r:=l.set i r
 isI k l i:=match l[i]? with | some [.v (.int k' _)]=>k' == k | _=>false
 getI l i:=match l[i]? with | some [.v (.int _ x)]=>x | _=>0
 setI k l i x:=l.set i [.v (.int k x)]
 fit off n l:=decide (off+n<=l.length)
 part l off n:=(l.drop off).take n
 ext l off new:=l.drop off ++ new
 setg l off new:=setRange l off new
 rep n r:=List.replicate n r
 wide n l:=l.all fun r=>r.length == n
 all l:=l.all id
 mok l k:=match findEnt k l with
  | some none=>true
  | some (some (.v (.bool _)))=>true
  | _=>false
 mget l k:=match findEnt k l with
  | some (some (.v (.bool b)))=>b
  | _=>false
 mset l k t:=(setEnt k t l).getD l
structure Need (c:Bool) (p:Prop):Prop where
 c:c=true
 p:p
structure Br (b:Bool) (p q:Prop):Prop where
 t:b=true->p
 f:b=false->q
def needs:List Bool->Prop->Prop
 | [],p=>p
 | c :: cs,p=>Need c (needs cs p)
def allT (cs:List Bool):Prop:=∀ c ∈ cs,c=true
theorem qbl:∀ {cs:List Bool} {p:Prop},needs cs p->allT cs/\p
 | [],p,h=>⟨by simp [allT],h⟩
 | c :: cs,p,h=>by
  obtain ⟨h1,h2⟩:=qbl h.p
  exact ⟨by intro x hx; rcases List.mem_cons.1 hx with rfl | hx; exact h.c; exact h1 x hx,h2⟩
abbrev OZ (α:Type):=Option (List Bool × α)
def isConst:Operand->Bool
 | .const _=>true
 | _=>false
section
variable (Z:ZI)
def abinZ (cst:Bool) (op:BinOp) (k:IntKind) (a:Int) (k':IntKind) (b:Int):OZ Value:=
 match op with
 | .shl=>match cst with
  | true=>if b < 0 then none else some ([],.int k (Z.shl k a b))
  | false=>some ([Z.le 0 b],.int k (Z.shl k a b))
 | .shr=>match cst with
  | true=>if b < 0 then none else some ([],.int k (Z.shr k a b))
  | false=>some ([Z.le 0 b],.int k (Z.shr k a b))
 | _=>
  if k=k' then
   match op with
   | .add=>some ([],.int k (Z.wrap k (Z.add a b)))
   | .sub=>some ([],.int k (Z.wrap k (Z.sub a b)))
   | .mul=>some ([],.int k (Z.wrap k (Z.mul a b)))
   | .quo=>match cst with
    | true=>if b=0 then none else some ([],.int k (Z.wrap k (Z.quo a b)))
    | false=>some ([Z.ne b 0],.int k (Z.wrap k (Z.quo a b)))
   | .rem=>match cst with
    | true=>if b=0 then none else some ([],.int k (Z.rem a b))
    | false=>some ([Z.ne b 0],.int k (Z.rem a b))
   | .and=>some ([],.int k (Z.band k a b))
   | .or=>some ([],.int k (Z.bor k a b))
   | .xor=>some ([],.int k (Z.bxor k a b))
   | .andNot=>some ([],.int k (Z.bandn k a b))
   | .eql=>some ([],.bool (Z.eq a b))
   | .neq=>some ([],.bool (Z.ne a b))
   | .lss=>some ([],.bool (Z.lt a b))
   | .leq=>some ([],.bool (Z.le a b))
   | .gtr=>some ([],.bool (Z.lt b a))
   | .geq=>some ([],.bool (Z.le b a))
   | _=>none
  else none
def aunZ (op:UnOp) (x:Value):Option Value:=
 match op,x with
 | .neg,.int k n=>some (.int k (Z.wrap k (Z.sub 0 n)))
 | .not,.bool b=>some (.bool (Z.not b))
 | _,_=>none
end
theorem abinZ_std {cst : Bool} {op : BinOp} {k k' : IntKind} {a b : Int} {cs : List Bool} {v : Value} (h : abinZ ZI.std cst op k a k' b = some (cs, v)) (hc : allT cs) : abin op (.int k a) (.int k' b) = some v := by
  unfold abinZ at h
  unfold abin
  have e1 : ∀ x : Bool, allT [x] -> x = true := fun x hx => hx x (by simp)
  cases op <;> simp only [ZI.std] at h ⊢
  case shl =>
    cases cst <;> simp only at h
    · cases h
      have := e1 _ hc
      rw [if_neg (by simpa using this)]
    · split at h
      · cases h
      · rename_i hb; cases h; rw [if_neg hb]
  case shr =>
    cases cst <;> simp only at h
    · cases h
      have := e1 _ hc
      rw [if_neg (by simpa using this)]
    · split at h
      · cases h
      · rename_i hb; cases h; rw [if_neg hb]
  all_goals
    split at h
    · rename_i hk
      subst hk
      rw [if_pos rfl]
      first
        | (cases h; done)
        | (cases h; rfl)
        | (cases h; by_cases hab : a = b <;> simp [hab]; done)
        | (cases cst <;> (try simp only at h)
           · cases h
             have := e1 _ hc
             rw [if_neg (by simpa using this)]
           · split at h
             · cases h
             · rename_i hb; cases h; rw [if_neg hb])
    · cases h
section
variable (Z:ZI) (C:Cfg)
def toTreeZ (h:Hp):Cell->OZ (Tree × List (Nat × Option Blk))
 | .t t=>some ([],t,[])
 | .sl b off len cp=>
  match h b with
  | some (.rows sz rows g _)=>some ([Z.fit off len rows],.lst cp (Z.part rows off len),[(b,some (.rows sz rows g true))])
  | _=>none
 | _=>none
def toTreesZ (h:Hp):List Cell->OZ (List Tree × List (Nat × Option Blk))
 | []=>some ([],[],[])
 | c :: cs=>
  match toTreeZ Z h c with
  | some (o,t,m)=>match toTreesZ h cs with
   | some (os,ts,ms)=>some (o ++ os,t :: ts,m ++ ms)
   | none=>none
  | none=>none
def rowsOfZ (h:Hp):AV->OZ (Rows × List Nat)
 | .c (.t (.lst _ rows))=>some ([],rows,[])
 | .c (.sl b off len _)=>
  match h b with
  | some (.rows _ rows _ _)=>some ([Z.fit off len rows],Z.part rows off len,[b])
  | some (.old _ rows)=>some ([Z.fit off len rows],Z.part rows off len,[b])
  | _=>none
 | .c (.t (.v (.slice _ 0 _)))=>some ([],[],[])
 | _=>none
def evAppendZ (ti:TI) (slot:Nat) (h:Hp) (s x:AV):OZ Eff:=
 match rowsOfZ Z h x with
 | none=>match evAppC ti slot h s x with
  | some e=>some ([],e)
  | none=>none
 | some (o,new,rdx)=>
  match s with
  | .c (.t (.lst true rows))=>
   some (o ++ [Z.not (Z.neq (Z.len new) 0),Z.wide ti.size new,Z.wide ti.size rows,Z.room (Z.len rows) (Z.len new) ti.bytes],
    { val:=.c (.sl slot 0 (Z.nadd (Z.len rows) (Z.len new)) false),wr:=[(slot,some (.rows ti.size (Z.ext rows 0 new) true false))],rd:=rdx })
  | .c (.sl b off len false)=>
   match h b with
   | some (.rows sz rows true fz)=>
    if sz=ti.size then
     some (o ++ [Z.not (Z.neq (Z.len new) 0),Z.wide ti.size new,Z.room len (Z.len new) ti.bytes,Z.neq (Z.nadd off len) (Z.len rows)],
      { val:=.c (.sl slot 0 (Z.nadd len (Z.len new)) false),wr:=[(b,oldOf sz rows fz),(slot,some (.rows sz (Z.ext rows off new) true fz))],rd:=b :: rdx })
    else none
   | _=>none
  | .c (.sl b off len true)=>
   match h b with
   | some (.rows sz rows g fz)=>
    if sz=ti.size then
     some (o ++ [Z.not (Z.neq (Z.len new) 0),Z.wide ti.size new,Z.room len (Z.len new) ti.bytes,Z.fit off len rows],
      { val:=.c (.sl slot 0 (Z.nadd len (Z.len new)) false),wr:=[(slot,some (.rows ti.size (Z.ext (Z.part rows off len) 0 new) true false))],rd:=b :: rdx })
    else none
   | _=>none
  | _=>none
def evCopyZ (ti:TI) (h:Hp) (d x:AV):OZ Eff:=
 match rowsOfZ Z h x,d with
 | some (o,src,rdx),.c (.sl b off len _)=>
  match h b with
  | some (.rows sz rows g false)=>
   if sz=ti.size then
    some (o ++ [Z.fit off len rows,Z.wide ti.size src,Z.le (Z.ofN (Z.len src)) (Z.ofN len)],{ val:=val1 (.int .i64 (Z.ofN (Z.len src))),wr:=[(b,some (.rows sz (Z.setg rows off src) g false))],rd:=b :: rdx })
   else none
  | _=>none
 | _,_=>none
def evLenZ (h:Hp) (t:TypeId) (x:AV):OZ Eff:=
 match C.ty t with
 | none=>none
 | some ti=>
  match ti.kind,x with
  | .slice _,.c (.sl _ _ len _)=>some ([],{ val:=val1 (.int .i64 (Z.ofN len)) })
  | .slice _,.c (.t (.lst _ rows))=>some ([],{ val:=val1 (.int .i64 (Z.ofN (Z.len rows))) })
  | _,_=>(evLen C h t x).map fun e=>([],e)
def evMaxZ (gt:Bool):List AV->OZ Eff
 | [.c (.t (.v (.int k a))),.c (.t (.v (.int k' b)))]=>if k=k' then some ([],{ val:=val1 (.int k (match gt with | true=>Z.max a b | false=>Z.min a b)) }) else none
 | _=>none
def evSliceZ (h:Hp) (t:TypeId) (x:AV) (lo hi mx:Option AV):OZ Eff:=
 match C.ty t with
 | none=>none
 | some ti=>
  match ti.kind,x,mx with
  | .slice e,.c (.sl b off len cp),none=>
   match h b,C.ty e with
   | some (.rows sz _ _ _),some te=>
    if sz=te.size then
     match lo,hi with
     | none,none=>some ([],{ val:=.c (.sl b off len cp),rd:=[b] })
     | none,some hv=>match hv.int? with
      | some e'=>some (match cp with
        | true=>[Z.cut 0 e' len,Z.eq e' (Z.ofN len)]
        | false=>[Z.cut 0 e' len],{ val:=.c (.sl b off (Z.nat e') cp),rd:=[b] })
      | none=>none
     | some lv,none=>match lv.int? with
      | some l=>some ([Z.cut l (Z.ofN len) len],{ val:=.c (.sl b (Z.idx off l) (Z.dif (Z.ofN len) l) cp),rd:=[b] })
      | none=>none
     | some lv,some hv=>match lv.int?,hv.int? with
      | some l,some e'=>some (match cp with
        | true=>[Z.cut l e' len,Z.eq e' (Z.ofN len)]
        | false=>[Z.cut l e' len],{ val:=.c (.sl b (Z.idx off l) (Z.dif e' l) cp),rd:=[b] })
      | _,_=>none
    else none
   | some (.var _),some _=>(evSlice C h t (.c (.sl b off len cp)) lo hi none).map fun e=>([],e)
   | _,_=>none
  | .slice e,.c (.t (.lst cp rows)),none=>
   match C.ty e with
   | some te=>
    match lo,hi with
    | none,none=>(evSlice C h t x none none none).map fun e=>([],e)
    | none,some hv=>match hv.int? with
     | some e'=>some ([Z.cut 0 e' (Z.len rows),Z.wide te.size rows],{ val:=.c (.t (.lst (match cp with | true=>Z.eq e' (Z.ofN (Z.len rows)) | false=>false) (Z.part rows 0 (Z.nat e')))) })
     | none=>none
    | some lv,none=>match lv.int? with
     | some l=>some ([Z.cut l (Z.ofN (Z.len rows)) (Z.len rows),Z.wide te.size rows],{ val:=.c (.t (.lst cp (Z.part rows (Z.nat l) (Z.dif (Z.ofN (Z.len rows)) l)))) })
     | none=>none
    | some lv,some hv=>match lv.int?,hv.int? with
     | some l,some e'=>some ([Z.cut l e' (Z.len rows),Z.wide te.size rows],{ val:=.c (.t (.lst (match cp with | true=>Z.eq e' (Z.ofN (Z.len rows)) | false=>false) (Z.part rows (Z.nat l) (Z.dif e' l)))) })
     | _,_=>none
   | none=>none
  | _,_,_=>(evSlice C h t x lo hi mx).map fun e=>([],e)
def evConvertZ (h:Hp) (src dst:TypeId) (x:AV):OZ Eff:=
 match C.ty src,C.ty dst,x with
 | some ts,some td,.c (.t (.v (.int k0 n)))=>
  match ts.kind,td.kind with
  | .int _,.int k=>some ([],{ val:=val1 (.int k (Z.wrap k n)) })
  | _,_=>(evConvert C h src dst x).map fun e=>([],e)
 | _,_,_=>(evConvert C h src dst x).map fun e=>([],e)
def fillRowsZ (h:Hp) (size:Nat):List (List Tree)->List (Nat × AV)->OZ (List (List Tree) × List (Nat × Option Blk))
 | rows,[]=>some ([],rows,[])
 | rows,(i,v) :: rest=>
  match v.cells with
  | some x=>if x.length=size/\i < rows.length then
    match toTreesZ Z h x with
    | some (o,ts,m)=>match fillRowsZ h size (rows.set i ts) rest with
     | some (os,r,ms)=>some (o ++ os,r,m ++ ms)
     | none=>none
    | none=>none
   else none
  | none=>none
def strRows (s:ByteArray):Rows:=s.data.toList.map fun b=>[.v (.int .u8 b.toNat)]
def eqIntsZ:List Cell->List Cell->Option Bool
 | [],[]=>some true
 | .t (.v (.int k a)) :: xs,.t (.v (.int k' b)) :: ys=>if k=k' then (eqIntsZ xs ys).map fun r=>Z.eq a b && r else none
 | _,_=>none
def evalOpZ (slot : Nat) (σ : Operand -> AV) (h : Hp) : Op -> OZ Eff
  | .binOp op t x y t' => match σ x, σ y with
    | .c (.t (.v (.int k a))), .c (.t (.v (.int k' b))) => match abinZ Z (isConst y) op k a k' b with
      | some (o, v) => some (o, { val := val1 v })
      | none => none
    | .c (.t (.v (.bool a))), .c (.t (.v (.bool b))) => match C.ty t with
      | some ti => match ti.kind, op with
        | .bool, .eql => some ([], { val := val1 (.bool (Z.beq a b)) })
        | .bool, .neq => some ([], { val := val1 (.bool (Z.bne a b)) })
        | _, _ => none
      | none => none
    | .agg a, .agg b => (evEqArr C op t (eqIntsZ Z a b) a.length b.length).map fun e => ([], e)
    | _, _ => (evalOp C slot σ h (.binOp op t x y t')).map fun e => ([], e)
  | .unOp op _ x => match σ x with
    | .c (.t (.v a)) => (aunZ Z op a).map fun v => ([], { val := val1 v })
    | _ => none
  | .convert src dst x => evConvertZ Z C h src dst (σ x)
  | .slice t x lo hi mx => evSliceZ Z C h t (σ x) (lo.map σ) (hi.map σ) (mx.map σ)
  | .buildSlice t len parts => match C.ty t with
    | some ti => match ti.kind with
      | .slice e => match C.ty e with
        | some te => if len * te.size <= 2 ^ 24 /\ te.size ≠ 0 then
            match evBuildC C slot t te.size len (parts.toList.map fun p => (p.1, σ p.2)) with
            | some e => some ([], e)
            | none => match fillRowsZ Z h te.size (List.replicate len te.zero) (parts.toList.map fun p => (p.1, σ p.2)) with
              | some (o, rows, m) => some (o, { val := .c (.sl slot 0 len false), wr := m ++ [(slot, some (.rows te.size rows true false))], rd := ids m })
              | none => none
          else none
        | none => none
      | _ => none
    | none => none
  | .load t a => match C.ty t with
    | some ti => match σ a with
      | .c (.ptr b r c) => match h b with
        | some (.rows sz rows _ _) =>
          match ti.kind with
          | .int k => if sz = 1 /\ c = 0 then some ([Z.isI k rows r], { val := val1 (.int k (Z.getI rows r)), rd := [b] }) else none
          | _ => match Z.nth rows r with
            | some row => (getCells ti (row.map .t) c).map fun v => ([], { val := v, rd := [b] })
            | none => none
        | _ => (evalOp C slot σ h (.load t a)).map fun e => ([], e)
      | _ => (evalOp C slot σ h (.load t a)).map fun e => ([], e)
    | none => none
  | .store t a x => match C.ty t, (σ x).cells with
    | some ti, some cs => match σ a with
      | .c (.ptr b r c) => match h b with
        | some (.rows sz rows g false) =>
          if cs.length = ti.size then
          match ti.kind, cs with
          | .int k, [.t (.v (.int k' x))] => if sz = 1 /\ c = 0 /\ k = k' then some ([Z.isI k rows r], { wr := [(b, some (.rows sz (Z.setI k rows r x) g false))], rd := [b] }) else none
          | _, _ => match Z.nth rows r, toTreesZ Z h cs with
            | some row, some (o, ts, m) => if c + ts.length <= row.length /\ !(ids m).contains b then some (o, { wr := m ++ [(b, some (.rows sz (Z.setr rows r (setRange row c ts)) g false))], rd := b :: ids m }) else none
            | _, _ => none
          else none
        | _ => (evalOp C slot σ h (.store t a x)).map fun e => ([], e)
      | _ => (evalOp C slot σ h (.store t a x)).map fun e => ([], e)
    | _, _ => none
  | .makeSlice t l c => match C.cs t with
   | true => match C.ty t with
    | some ti => match ti.kind with
      | .slice e => match C.ty e, (σ l).int?, (σ c).int? with
        | some te, some n, some m => match te.zero with
          | [z] => if 1 <= te.bytes /\ te.size ≠ 0 then
              some ([Z.mkok n m te.bytes], { val := .c (.sl slot 0 (Z.nat n) false), wr := [(slot, some (.var (List.replicate (Z.nat n) (.t z))))] }) else none
          | _ => none
        | _, _, _ => none
      | _ => none
    | none => none
   | false => match C.ty t with
    | some ti => match ti.kind with
      | .slice e => match C.ty e, (σ l).int?, (σ c).int? with
        | some te, some n, some m => if 1 <= te.bytes /\ te.size ≠ 0 then
            some ([Z.mkok n m te.bytes], { val := .c (.sl slot 0 (Z.nat n) false), wr := [(slot, some (.rows te.size (Z.rep (Z.nat n) te.zero) true false))] }) else none
        | _, _, _ => none
      | _ => none
    | none => none
  | .indexAddr t x i => match C.ty t, (σ i).int? with
    | some ti, some n => match ti.kind with
      | .slice e => match C.ty e with
        | some te => match σ x with
          | .c (.sl b off len _) => match h b with
            | some (.rows sz _ _ _) => if sz = te.size then
                some ([Z.inb n len], { val := .c (.ptr b (Z.idx off n) 0), rd := [b] }) else none
            | some (.var _) => (evalOp C slot σ h (.indexAddr t x i)).map fun e => ([], e)
            | _ => none
          | .c (.t (.lst _ rows)) =>
            match te.kind with
            | .int k => if te.size = 1 then some ([Z.le 0 n, Z.isI k rows (Z.nat n)], { val := .c (.tp [.v (.int k (Z.getI rows (Z.nat n)))] 0) }) else none
            | _ => match Z.nth rows (Z.nat n) with
              | some row => if row.length = te.size then some ([Z.le 0 n], { val := .c (.tp row 0) }) else none
              | none => none
          | _ => none
        | none => none
      | .array len e => match C.ty e with
        | some te => match te.kind, σ x with
          | .int .i8, .c (.tp row c) => if te.size = 1 then some ([Z.inb n len], { val := .c (.tp row (Z.idx c n)) }) else none
          | _, _ => (evalOp C slot σ h (.indexAddr t x i)).map fun e => ([], e)
        | none => none
      | _ => (evalOp C slot σ h (.indexAddr t x i)).map fun e => ([], e)
    | _, _ => none
  | .call { callee := .builtin b, args, argTypes } =>
    match b, args.toList, argTypes[0]? with
    | .len, [x], some t => evLenZ Z C h t (σ x)
    | .append, [s, x], some t => match C.ty t with
      | some ti => match ti.kind with
        | .slice e => match C.ty e, argTypes[1]? with
          | some te, some t1 => match C.ty t1 with
            | some ti1 => match ti1.kind with
              | .slice _ => if te.size = 0 ∨ te.bytes = 0 then none else evAppendZ Z te slot h (σ s) (σ x)
              | _ => none
            | none => none
          | _, _ => none
        | _ => none
      | none => none
    | .copy, [d, x], some t => match C.ty t with
      | some ti => match ti.kind with
        | .slice e => match C.ty e with
          | some te => if te.size = 0 then none else evCopyZ Z te h (σ d) (σ x)
          | none => none
        | _ => none
      | none => none
    | .max, [x, y], _ => evMaxZ Z true [σ x, σ y]
    | .min, [x, y], _ => evMaxZ Z false [σ x, σ y]
    | _, _, _ => none
  | .index t x i => match C.ty t, (σ i).int? with
    | some ti, some n => match ti.kind, σ x with
      | .string, .c (.t (.v (.string s))) => some ([Z.le 0 n, Z.isI .u8 (strRows s) (Z.nat n)], { val := val1 (.int .u8 (Z.getI (strRows s) (Z.nat n))) })
      | _, _ => (evalOp C slot σ h (.index t x i)).map fun e => ([], e)
    | _, _ => none
  | .lookup t x i ok => match C.ty t with
    | some ti => match ti.kind, σ x, σ i with
      | .map k e, .c (.mp b), .c (.t (.v key)) => match h b, C.ty k, C.ty e, ok with
        | some (.map ents), some tk, some te, false => match te.kind, te.zero, keyFits tk.kind key with
          | .bool, [.v (.bool false)], true => some ([Z.mok ents key], { val := val1 (.bool (Z.mget ents key)), rd := [b] })
          | _, _, _ => (evalOp C slot σ h (.lookup t x i ok)).map fun e => ([], e)
        | _, _, _, _ => (evalOp C slot σ h (.lookup t x i ok)).map fun e => ([], e)
      | _, _, _ => none
    | none => none
  | .mapUpdate t x i v => match C.ty t with
    | some ti => match ti.kind, σ x, σ i, σ v with
      | .map k e, .c (.mp b), .c (.t (.v key)), .c (.t (.v (.bool y))) => match h b, C.ty k, C.ty e with
        | some (.map ents), some tk, some te => match te.kind, keyFits tk.kind key with
          | .bool, true => some ([Z.mok ents key], { wr := [(b, some (.map (Z.mset ents key (.v (.bool y)))))], rd := [b] })
          | _, _ => (evalOp C slot σ h (.mapUpdate t x i v)).map fun e => ([], e)
        | _, _, _ => none
      | _, _, _, _ => (evalOp C slot σ h (.mapUpdate t x i v)).map fun e => ([], e)
    | none => none
  | op => (evalOp C slot σ h op).map fun e => ([], e)
end
theorem toTreeZ_std {h:Hp} {c:Cell} {o:List Bool} {t:Tree} {m:List (Nat × Option Blk)} (e:toTreeZ ZI.std h c=some (o,t,m)) (ho:allT o):toTree h c=some (t,m):=by
 unfold toTreeZ at e
 unfold toTree
 split at e
 ·cases e; rfl
 ·split at e
  ·rename_i hb
   cases e
   have:=ho _ (List.mem_singleton.2 rfl)
   simp only [hb]
   rw [if_pos (by simpa [ZI.std] using this)]; rfl
  ·cases e
 ·cases e
theorem qbh {a b:List Bool} (h:allT (a ++ b)):allT a/\allT b:=
 ⟨fun x hx=>h x (List.mem_append_left _ hx),fun x hx=>h x (List.mem_append_right _ hx)⟩
theorem toTreesZ_std {h:Hp}:∀ {cs:List Cell} {o:List Bool} {ts:List Tree} {m:List (Nat × Option Blk)},toTreesZ ZI.std h cs=some (o,ts,m)->allT o->toTrees h cs=some (ts,m)
 | [],o,ts,m,e,ho=>by cases e; rfl
 | c :: cs,o,ts,m,e,ho=>by
  unfold toTreesZ at e
  split at e
  ·rename_i o1 t1 m1 h1
   split at e
   ·rename_i os1 ts1 ms1 h2
    cases e
    obtain ⟨a,b⟩:=qbh ho
    unfold toTrees
    rw [toTreeZ_std h1 a,toTreesZ_std h2 b]
   ·cases e
  ·cases e
theorem rowsOfZ_std {h:Hp} {x:AV} {o:List Bool} {r:Rows} {rd:List Nat} (e:rowsOfZ ZI.std h x=some (o,r,rd)) (ho:allT o):rowsOf h x=some (r,rd):=by
 unfold rowsOfZ at e
 unfold rowsOf
 split at e
 ·cases e; rfl
 ·split at e
  ·rename_i hb
   cases e
   have:=ho _ (List.mem_singleton.2 rfl)
   simp only [hb]
   rw [if_pos (by simpa [ZI.std] using this)]; rfl
  ·rename_i hb
   cases e
   have:=ho _ (List.mem_singleton.2 rfl)
   simp only [hb]
   rw [if_pos (by simpa [ZI.std] using this)]; rfl
  ·cases e
 ·cases e; rfl
 ·cases e
theorem evAppendZ_std {ti:TI} {slot:Nat} {h:Hp} {s x:AV} {o:List Bool} {e:Eff} (he:evAppendZ ZI.std ti slot h s x=some (o,e)) (ho:allT o):evAppend ti slot h s x=some e:=by
 unfold evAppendZ at he
 unfold evAppend
 split at he
 ·split at he
  ·rename_i e1 h1
   cases he
   rw [evAppC_rows h1]; exact h1
  ·cases he
 ·rename_i o1 new rdx hx
  split at he
  ·rename_i rows
   cases he
   obtain ⟨a,b⟩:=qbh ho
   rw [rowsOfZ_std hx a]
   simp only [allT,ZI.std,List.mem_cons,List.not_mem_nil,or_false,forall_eq_or_imp,forall_eq,Bool.not_eq_true',decide_eq_true_eq,decide_eq_false_iff_not] at b
   obtain ⟨b1,b2,b3,b4⟩:=b
   simp only [ZI.std]
   rw [if_neg b1,b2]
   simp only [Bool.not_true,Bool.false_eq_true,if_false,b3,Bool.true_and,decide_eq_true_eq,b4,if_true]
   simp
  ·rename_i b off len
   split at he
   ·rename_i sz rows fz hb
    split at he
    ·rename_i hsz
     cases he
     obtain ⟨a,c⟩:=qbh ho
     rw [rowsOfZ_std hx a]
     simp only [allT,ZI.std,List.mem_cons,List.not_mem_nil,or_false,forall_eq_or_imp,forall_eq,Bool.not_eq_true',decide_eq_true_eq,decide_eq_false_iff_not] at c
     obtain ⟨b1,b2,b3,b4⟩:=c
     simp only [ZI.std]
     rw [if_neg b1,b2]
     simp only [Bool.not_true,Bool.false_eq_true,if_false,hb]
     rw [if_neg (fun hn=>hn ⟨hsz,b3,by omega⟩),if_pos b4]
     simp
    ·cases he
   ·cases he
  ·rename_i b off len
   split at he
   ·rename_i sz rows g fz hb
    split at he
    ·rename_i hsz
     cases he
     obtain ⟨a,c⟩:=qbh ho
     rw [rowsOfZ_std hx a]
     simp only [allT,ZI.std,List.mem_cons,List.not_mem_nil,or_false,forall_eq_or_imp,forall_eq,Bool.not_eq_true',decide_eq_true_eq,decide_eq_false_iff_not] at c
     obtain ⟨b1,b2,b3,b4⟩:=c
     simp only [ZI.std]
     rw [if_neg b1,b2]
     simp only [Bool.not_true,Bool.false_eq_true,if_false,hb]
     rw [if_neg (fun hn=>hn ⟨hsz,b3,b4⟩)]
     simp
    ·cases he
   ·cases he
  ·cases he
theorem evCopyZ_std {ti:TI} {h:Hp} {d x:AV} {o:List Bool} {e:Eff} (he:evCopyZ ZI.std ti h d x=some (o,e)) (ho:allT o):evCopy ti h d x=some e:=by
 unfold evCopyZ at he
 unfold evCopy
 split at he
 ·rename_i o1 src rdx b off len cp hx
  split at he
  ·rename_i sz rows g hb
   split at he
   ·rename_i hsz
    cases he
    obtain ⟨a,c⟩:=qbh ho
    rw [rowsOfZ_std hx a]
    simp only [allT,ZI.std,List.mem_cons,List.not_mem_nil,or_false,forall_eq_or_imp,forall_eq,decide_eq_true_eq] at c
    obtain ⟨b1,b2,b3⟩:=c
    have hmin:min src.length len=src.length:=by omega
    simp only [ZI.std,hb]
    rw [if_pos ⟨b1,b2,hsz⟩,hmin]
    simp
   ·cases he
  ·cases he
 ·cases he
theorem evLenZ_std {C:Cfg} {h:Hp} {t:TypeId} {x:AV} {o:List Bool} {e:Eff} (he:evLenZ ZI.std C h t x=some (o,e)):evLen C h t x=some e:=by
 unfold evLenZ at he
 split at he
 ·cases he
 ·rename_i ti hti
  split at he
  ·rename_i hk; cases he; simp only [evLen,hti,hk]; rfl
  ·rename_i hk; cases he; simp only [evLen,hti,hk]; rfl
  ·obtain ⟨e',h1,h2⟩:=Option.map_eq_some_iff.1 he
   cases h2; exact h1
theorem evMaxZ_std {gt:Bool} {l:List AV} {o:List Bool} {e:Eff} (he:evMaxZ ZI.std gt l=some (o,e)):evMax gt l=some e:=by
 unfold evMaxZ at he
 unfold evMax
 split at he
 ·split at he
  ·rename_i hk
   cases he
   simp only [hk,if_true]
   cases gt <;> rfl
  ·cases he
 ·cases he
theorem allT1 {a:Bool} (h:allT [a]):a=true:=h a (by simp)
theorem allT2 {a b:Bool} (h:allT [a,b]):a=true/\b=true:=⟨h a (by simp),h b (by simp)⟩
theorem evSliceZ_std {C:Cfg} {h:Hp} {t:TypeId} {x:AV} {lo hi mx:Option AV} {o:List Bool} {e:Eff} (he:evSliceZ ZI.std C h t x lo hi mx=some (o,e)) (ho:allT o):evSlice C h t x lo hi mx=some e:=by
 unfold evSliceZ at he
 split at he
 ·cases he
 ·rename_i ti hti
  split at he
  ·rename_i e1 b off len cp hk
   split at he
   ·rename_i sz rows g fz te hb hte
    split at he
    ·rename_i hsz
     split at he
     ·cases he
      simp only [evSlice,hti,hk,hb,hte,Option.getD_none]
      rw [if_pos (by omega),if_pos (by simp [hsz])]
      simp
     ·rename_i hv
      split at he
      ·rename_i e' hint
       cases he
       cases cp
       ·have:=allT1 ho
        simp only [ZI.std,decide_eq_true_eq] at this
        simp only [evSlice,hti,hk,hb,hte,hint,Option.map_some,Option.getD_some,ZI.std]
        rw [if_pos this,if_pos (by simp [hsz])]
        simp
       ·obtain ⟨h1,h2⟩:=allT2 ho
        simp only [ZI.std,decide_eq_true_eq] at h1 h2
        simp only [evSlice,hti,hk,hb,hte,hint,Option.map_some,Option.getD_some,ZI.std]
        rw [if_pos h1,if_pos (by simp [hsz,h2])]
        simp
      ·cases he
     ·rename_i lv
      split at he
      ·rename_i l hint
       cases he
       have:=allT1 ho
       simp only [ZI.std,decide_eq_true_eq] at this
       simp only [evSlice,hti,hk,hb,hte,hint,Option.getD_none,ZI.std]
       rw [if_pos this,if_pos (by simp [hsz])]
      ·cases he
     ·rename_i lv hv
      split at he
      ·rename_i l e' hl hint
       cases he
       cases cp
       ·have:=allT1 ho
        simp only [ZI.std,decide_eq_true_eq] at this
        simp only [evSlice,hti,hk,hb,hte,hl,hint,Option.map_some,Option.getD_some,ZI.std]
        rw [if_pos this,if_pos (by simp [hsz])]
       ·obtain ⟨h1,h2⟩:=allT2 ho
        simp only [ZI.std,decide_eq_true_eq] at h1 h2
        simp only [evSlice,hti,hk,hb,hte,hl,hint,Option.map_some,Option.getD_some,ZI.std]
        rw [if_pos h1,if_pos (by simp [hsz,h2])]
      ·cases he
    ·cases he
   ·obtain ⟨e',h1,h2⟩:=Option.map_eq_some_iff.1 he
    cases h2; exact h1
   ·cases he
  ·rename_i e1 cp rows hk
   split at he
   ·rename_i te hte
    split at he
    ·obtain ⟨e',h1,h2⟩:=Option.map_eq_some_iff.1 he
     cases h2; exact h1
    ·rename_i hv
     split at he
     ·rename_i e' hint
      cases he
      obtain ⟨h1,h2⟩:=allT2 ho
      simp only [ZI.std,decide_eq_true_eq] at h1 h2
      simp only [evSlice,hti,hk,hte,hint,Option.map_some,Option.getD_some,ZI.std]
      rw [if_pos h1,if_pos h2]
      cases cp <;> simp [Bool.beq_eq_decide_eq]
     ·cases he
    ·rename_i lv
     split at he
     ·rename_i l hint
      cases he
      obtain ⟨h1,h2⟩:=allT2 ho
      simp only [ZI.std,decide_eq_true_eq] at h1 h2
      simp only [evSlice,hti,hk,hte,hint,Option.getD_none,ZI.std]
      rw [if_pos h1,if_pos h2]
      simp
     ·cases he
    ·rename_i lv hv
     split at he
     ·rename_i l e' hl hint
      cases he
      obtain ⟨h1,h2⟩:=allT2 ho
      simp only [ZI.std,decide_eq_true_eq] at h1 h2
      simp only [evSlice,hti,hk,hte,hl,hint,Option.map_some,Option.getD_some,ZI.std]
      rw [if_pos h1,if_pos h2]
      cases cp <;> simp [Bool.beq_eq_decide_eq]
     ·cases he
   ·cases he
  ·obtain ⟨e',h1,h2⟩:=Option.map_eq_some_iff.1 he
   cases h2; exact h1
theorem evConvertZ_std {C:Cfg} {h:Hp} {src dst:TypeId} {x:AV} {o:List Bool} {e:Eff} (he:evConvertZ ZI.std C h src dst x=some (o,e)):evConvert C h src dst x=some e:=by
 unfold evConvertZ at he
 split at he
 ·rename_i ts td k0 n h1 h2
  split at he
  ·rename_i k1 k2 e1 e2
   cases he
   simp only [evConvert,h1,h2,e1,e2]; rfl
  ·obtain ⟨e',q1,q2⟩:=Option.map_eq_some_iff.1 he
   cases q2; exact q1
 ·obtain ⟨e',q1,q2⟩:=Option.map_eq_some_iff.1 he
  cases q2; exact q1
theorem fillRowsZ_std {h:Hp} {size:Nat}:∀ {l:List (Nat × AV)} {rows r:List (List Tree)} {o:List Bool} {m:List (Nat × Option Blk)},fillRowsZ ZI.std h size rows l=some (o,r,m)->allT o->fillRows h size rows l=some (r,m)
 | [],rows,r,o,m,he,ho=>by cases he; rfl
 | (i,v) :: rest,rows,r,o,m,he,ho=>by
  unfold fillRowsZ at he
  unfold fillRows
  split at he
  ·rename_i x hx
   split at he
   ·rename_i hc
    split at he
    ·rename_i o1 ts m1 h1
     split at he
     ·rename_i os r1 ms h2
      cases he
      obtain ⟨a,b⟩:=qbh ho
      simp only [hx]
      rw [if_pos hc,toTreesZ_std h1 a]
      simp only
      rw [fillRowsZ_std h2 b]
     ·cases he
    ·cases he
   ·cases he
  ·cases he
theorem setEnt_some {k:Value} {t:Tree}:∀ {l:List (Value × Tree)} {r:Option Tree},findEnt k l=some r->∃ l',setEnt k t l=some l'
 | [],r,h=>⟨_,rfl⟩
 | e :: es,r,h=>by
  simp only [findEnt] at h
  simp only [setEnt]
  split at h
  ·exact ⟨_,rfl⟩
  ·rename_i hk
   obtain ⟨l',hl⟩:=setEnt_some (t:=t) h
   exact ⟨_,by rw [hl]; rfl⟩
  ·cases h
theorem isI_std {k:IntKind} {l:Rows} {i:Nat} (h:ZI.std.isI k l i=true):l[i]?=some [.v (.int k (ZI.std.getI l i))]:=by
 simp only [ZI.std] at h ⊢
 split at h
 ·rename_i k' x hx
  rw [hx]
  simp only [beq_iff_eq] at h
  subst h
  rfl
 ·cases h
theorem eqIntsZ_std:∀ (a b:List Cell),eqIntsZ ZI.std a b=eqInts a b:=by
 intro a
 induction a with
 | nil=>intro b; cases b <;> rfl
 | cons c a ih=>
  intro b
  unfold eqIntsZ eqInts
  split <;> simp_all <;> rfl
theorem evalOpZ_std {C:Cfg} {slot:Nat} {σ:Operand->AV} {h:Hp} {op:Op} {o:List Bool} {e:Eff} (he:evalOpZ ZI.std C slot σ h op=some (o,e)) (ho:allT o):evalOp C slot σ h op=some e:=by
 have dflt:∀ {q:Option Eff},(q.map fun e=>(([]:List Bool),e))=some (o,e)->q=some e:=fun {q} hq=>by
  obtain ⟨e',h1,h2⟩:=Option.map_eq_some_iff.1 hq
  cases h2; exact h1
 unfold evalOpZ at he
 split at he
 ·rename_i op t x y t'
  split at he
  ·rename_i k a k' b hx hy
   split at he
   ·rename_i o1 v h1
    cases he
    simp only [evalOp,hx,hy,abinZ_std h1 ho,Option.map_some]
   ·cases he
  ·rename_i a b hx hy
   split at he
   ·rename_i ti hti
    split at he
    ·rename_i hk; cases he; simp only [evalOp,hx,hy,hti,hk]; rfl
    ·rename_i hk; cases he; simp only [evalOp,hx,hy,hti,hk]; rfl
    ·cases he
   ·cases he
  ·rename_i a b hx hy
   have:=dflt he
   rw [eqIntsZ_std] at this
   simp only [evalOp,hx,hy]; exact this
  ·exact dflt he
 ·rename_i op t x
  split at he
  ·rename_i a hx
   simp only [evalOp,hx]
   obtain ⟨v,h1,h2⟩:=Option.map_eq_some_iff.1 he
   cases h2
   have:aun op a=aunZ ZI.std op a:=by unfold aun aunZ ZI.std; rfl
   rw [this,h1]; rfl
  ·cases he
 ·exact evConvertZ_std he
 ·exact evSliceZ_std he ho
 ·rename_i t len parts
  simp only [evalOp]
  split at he
  ·rename_i ti hti
   split at he
   ·rename_i el hk
    split at he
    ·rename_i te hte
     split at he
     ·rename_i hc
      split at he
      ·rename_i e1 h1
       cases he
       simp only [hti,hk,hte]
       rw [if_pos hc,h1]
      ·rename_i h0
       split at he
       ·rename_i o1 rows m h1
        cases he
        simp only [hti,hk,hte]
        rw [if_pos hc,h0,fillRowsZ_std h1 ho]
       ·cases he
     ·cases he
    ·cases he
   ·cases he
  ·cases he
 ·rename_i t a
  split at he
  ·rename_i ti hti
   split at he
   ·rename_i b r c hx
    split at he
    ·rename_i sz rows g fz hb
     split at he
     ·rename_i k hk
      split at he
      ·rename_i hc
       cases he
       obtain ⟨rfl,rfl⟩:=hc
       have:=isI_std (allT1 ho)
       simp only [evalOp,hti,hx,hb,this,hk,TK.agg,getCells]
       simp [val1]
      ·cases he
     ·split at he
      ·rename_i row hrow
       have hrow':rows[r]?=some row:=hrow
       simp only [evalOp,hti,hx,hb,hrow']
       obtain ⟨v,h1,h2⟩:=Option.map_eq_some_iff.1 he
       cases h2
       rw [h1]; rfl
      ·cases he
    ·exact dflt he
   ·exact dflt he
  ·cases he
 ·rename_i t a x
  split at he
  ·rename_i ti cs hti hcs
   split at he
   ·rename_i b r c hx
    split at he
    ·rename_i sz rows g hb
     split at he
     ·rename_i hlen
      split at he
      ·rename_i k k' n hk
       split at he
       ·rename_i hc
        cases he
        obtain ⟨rfl,rfl,rfl⟩:=hc
        have:=isI_std (allT1 ho)
        simp only [evalOp,hti,hcs,hx,hb,this]
        rw [if_pos hlen]
        simp only [toTrees,toTree,List.append_nil]
        rw [if_pos (by simp [ids])]
        simp [setRange,ids,ZI.std]
       ·cases he
      ·split at he
       ·rename_i row o1 ts m hrow h1
        split at he
        ·rename_i hc
         cases he
         have hrow':rows[r]?=some row:=hrow
         simp only [evalOp,hti,hcs,hx,hb,hrow',toTreesZ_std h1 ho]
         rw [if_pos hlen,if_pos hc]
         rfl
        ·cases he
       ·cases he
     ·cases he
    ·exact dflt he
   ·exact dflt he
  ·cases he
 ·rename_i t l c
  split at he
  ·rename_i hcs
   simp only [evalOp]
   split at he
   ·rename_i ti hti
    split at he
    ·rename_i el hk
     split at he
     ·rename_i te n m hte hn hm
      split at he
      ·rename_i z hz
       split at he
       ·rename_i hc
        cases he
        have:=allT1 ho
        simp only [ZI.std,decide_eq_true_eq] at this
        simp only [hti,hk,hte,hn,hm]
        rw [if_pos ⟨this.1,this.2.1,this.2.2,hc.1,hc.2⟩]
        simp only [hcs,hz]
        rfl
       ·cases he
      ·cases he
     ·cases he
    ·cases he
   ·cases he
  rename_i hcs
  simp only [evalOp]
  split at he
  ·rename_i ti hti
   split at he
   ·rename_i el hk
    split at he
    ·rename_i te n m hte hn hm
     split at he
     ·rename_i hc
      cases he
      have:=allT1 ho
      simp only [ZI.std,decide_eq_true_eq] at this
      simp only [hti,hk,hte,hn,hm]
      rw [if_pos ⟨this.1,this.2.1,this.2.2,hc.1,hc.2⟩]
      simp only [hcs]
      rfl
     ·cases he
    ·cases he
   ·cases he
  ·cases he
 ·rename_i t x i
  split at he
  ·rename_i ti n hti hn
   split at he
   ·rename_i el hk
    split at he
    ·rename_i te hte
     split at he
     ·rename_i b off len cp hx
      split at he
      ·rename_i sz rows g fz hb
       split at he
       ·rename_i hsz
        cases he
        have:=allT1 ho
        simp only [ZI.std,decide_eq_true_eq] at this
        simp only [evalOp,hti,hn,hk,hte,hx,hb]
        rw [if_pos ⟨this.1,this.2,hsz⟩]
        rfl
       ·cases he
      ·exact dflt he
      ·cases he
     ·rename_i cp rows hx
      split at he
      ·rename_i k hke
       split at he
       ·rename_i hsz
        cases he
        obtain ⟨h1,h2⟩:=allT2 ho
        have h2':=isI_std h2
        simp only [ZI.std,decide_eq_true_eq] at h1
        have h2'':rows[n.toNat]?=some [.v (.int k (ZI.std.getI rows (ZI.std.nat n)))]:=h2'
        simp only [evalOp,hti,hn,hk,hte,hx,h2'']
        rw [if_pos h1,if_pos (by simp [hsz])]
       ·cases he
      ·split at he
       ·rename_i row hrow
        split at he
        ·rename_i hsz
         cases he
         have h1:=allT1 ho
         simp only [ZI.std,decide_eq_true_eq] at h1
         have hrow':rows[n.toNat]?=some row:=hrow
         simp only [evalOp,hti,hn,hk,hte,hx,hrow']
         rw [if_pos h1,if_pos hsz]
        ·cases he
       ·cases he
     ·cases he
    ·cases he
   ·rename_i len el hk
    split at he
    ·rename_i te hte
     split at he
     ·rename_i row c hke hx
      split at he
      ·rename_i hsz
       cases he
       have:=allT1 ho
       simp only [ZI.std,decide_eq_true_eq] at this
       simp only [evalOp,hti,hn,hk,hte,hx]
       rw [if_pos ⟨this.1,this.2⟩,hsz,Nat.mul_one]
       rfl
      ·cases he
     ·exact dflt he
    ·cases he
   ·exact dflt he
  ·cases he
 ·rename_i b args argTypes
  simp only [evalOp]
  split at he
  ·rename_i x t hx ht
   simp only [ht,hx]
   exact evLenZ_std he
  ·rename_i s x t hx ht
   simp only [ht,hx]
   split at he
   ·rename_i ti hti
    split at he
    ·rename_i el hk
     split at he
     ·rename_i te t1 hte ht1
      split at he
      ·rename_i ti1 hti1
       split at he
       ·rename_i e1 hk1
        split at he
        ·cases he
        ·rename_i hz
         simp only [hti,hk,hte,ht1,hti1,hk1]
         rw [if_neg hz]
         exact evAppendZ_std he ho
       ·cases he
      ·cases he
     ·cases he
    ·cases he
   ·cases he
  ·rename_i d x t hx ht
   simp only [ht,hx]
   split at he
   ·rename_i ti hti
    split at he
    ·rename_i el hk
     split at he
     ·rename_i te hte
      split at he
      ·cases he
      ·rename_i hz
       simp only [hti,hk,hte]
       rw [if_neg hz]
       exact evCopyZ_std he ho
     ·cases he
    ·cases he
   ·cases he
  ·rename_i x y hx
   simp only [hx]
   exact evMaxZ_std he
  ·rename_i x y hx
   simp only [hx]
   exact evMaxZ_std he
  ·cases he
 ·rename_i t x i
  split at he
  ·rename_i ti n hti hn
   split at he
   ·rename_i s hk hx
    cases he
    obtain ⟨h1,h2⟩:=allT2 ho
    simp only [ZI.std,decide_eq_true_eq] at h1
    have h3:=isI_std h2
    simp only [evalOp,hti,hn,hk,hx]
    rw [if_pos h1]
    have h4:(strRows s)[ZI.std.nat n]?=(s.data.toList[n.toNat]?).map fun b=>[Tree.v (.int .u8 b.toNat)]:=by
     unfold strRows; rw [List.getElem?_map]; rfl
    rw [h4] at h3
    obtain ⟨b,hb,hb2⟩:=Option.map_eq_some_iff.1 h3
    have h5:s[n.toNat]?=some b:=by
     have hlt:n.toNat < s.data.toList.length:=(List.getElem?_eq_some_iff.1 hb).1
     have hlt':n.toNat < s.size:=hlt
     have e1:=(List.getElem?_eq_some_iff.1 hb).2
     rw [getElem?_pos s n.toNat hlt']
     congr 1
    rw [h5]
    simp only [Option.some.injEq]
    simp only [List.cons.injEq,Tree.v.injEq,Value.int.injEq,true_and,and_true] at hb2
    rw [<- hb2]
   ·exact dflt he
  ·cases he
 ·rename_i t x i ok
  split at he
  ·rename_i ti hti
   split at he
   ·rename_i k e1 b key hk hx hi
    split at he
    ·rename_i ents tk te hb htk hte
     split at he
     ·rename_i q1 q2 q3
      cases he
      have h1:=allT1 ho
      simp only [evalOp,hti,hk,hx,hi,hb,htk,hte,q3,q1,TK.agg,Bool.not_true,Bool.or_self,Bool.false_eq_true,if_false,q2]
      simp only [ZI.std] at h1 ⊢
      split at h1
      ·rename_i hf; simp [hf,val1]
      ·rename_i bb hf; simp [hf,val1]
      ·cases h1
     ·exact dflt he
    ·exact dflt he
   ·cases he
  ·cases he
 ·rename_i t x i v
  split at he
  ·rename_i ti hti
   split at he
   ·rename_i k e1 b key y hk hx hi hv
    split at he
    ·rename_i ents tk te hb htk hte
     split at he
     ·rename_i q1 q2
      cases he
      have h1:=allT1 ho
      simp only [evalOp,hti,hk,hx,hi,hv,hb,htk,q2,Bool.not_true,Bool.false_eq_true,if_false]
      obtain ⟨es,hes⟩:∃ es,setEnt key (.v (.bool y)) ents=some es:=by
       have:findEnt key ents ≠ none:=by
        intro hn
        simp only [ZI.std,hn] at h1
        cases h1
       obtain ⟨r,hr⟩:=Option.ne_none_iff_exists'.1 this
       exact setEnt_some hr
      simp only [hes,ZI.std,Option.getD_some]
     ·exact dflt he
    ·cases he
   ·exact dflt he
  ·cases he
 ·exact dflt he
section
variable (Z:ZI) (C:Cfg)
def toTVZ (h:Hp):AV->OZ (TV × List (Nat × Option Blk))
 | .c c=>match toTreeZ Z h c with
  | some (o,t,m)=>some (o,.c t,m)
  | none=>none
 | .agg l=>match toTreesZ Z h l with
  | some (o,ts,m)=>some (o,.agg ts,m)
  | none=>none
 | _=>none
def prepArgZ (h:Hp):Mode->AV->OZ (Arg × List (Nat × Option Blk) × Back)
 | .val,.c (.clo f caps)=>some ([],.clo f caps,[],.none)
 | .val,x=>match toTVZ Z h x with
  | some (o,v,m)=>some (o,.val v,m,.none)
  | none=>none
 | .bor,.c (.sl b off len false)=>match h b with
  | some (.rows sz rows _ false)=>some ([Z.fit off len rows],.bor sz (Z.part rows off len),[],.bor b off len)
  | _=>none
 | .own sz,.c (.sl b 0 len false)=>match h b with
  | some (.rows sz' rows true false)=>if sz'=sz then some ([Z.neq len (Z.len rows)],.own sz rows,[],.own b) else none
  | _=>none
 | .own sz,.c (.t (.lst true []))=>some ([],.own sz [],[],.none)
 | .rd,.c (.sl b off len false)=>match h b with
  | some (.rows sz rows _ false)=>some ([Z.fit off len rows],.bor sz (Z.part rows off len),[],.bor b off len)
  | _=>none
 | .rd,x=>match toTVZ Z h x with
  | some (o,v,m)=>some (o,.val v,m,.none)
  | none=>none
 | .ref,.c (.ptr b 0 0)=>match h b with
  | some (.var cells)=>match toTrees h cells with
   | some (ts,[])=>some ([],.ref ts,[],.ref b)
   | _=>none
  | _=>none
 | _,_=>none
def prepArgsZ (h:Hp):List Mode->List AV->OZ (List Arg × List (Nat × Option Blk) × List Back)
 | [],[]=>some ([],[],[],[])
 | m :: ms,x :: xs=>match prepArgZ Z h m x,prepArgsZ h ms xs with
  | some (o,a,k,b),some (os,as,ks,bs)=>some (o ++ os,a :: as,k ++ ks,b :: bs)
  | _,_=>none
 | _,_=>none
def prepCallZ (h:Hp) (ms:List Mode) (xs:List AV):OZ (List Arg × List (Nat × Option Blk) × List Back):=
 match prepArgsZ Z h ms xs with
 | none=>none
 | some (o,as,ks,bs)=>match ghIds as [] with
  | []=>some (o,as,ks,bs)
  | g :: gs=>match ghosts h (g :: gs) with
   | some gas=>some (o,renA (g :: gs) as.length as ++ gas,ks,bs ++ refsL (g :: gs))
   | none=>none
def backWrZ (h:Hp):List Back->List (Option Blk)->OZ (List (Nat × Option Blk))
 | [],[]=>some ([],[])
 | .none :: bs,_ :: os=>backWrZ h bs os
 | .own b :: bs,_ :: os=>(backWrZ h bs os).map fun p=>(p.1,(b,none) :: p.2)
 | .bor b off len :: bs,some (.rows sz r false false) :: os=>match h b with
  | some (.rows sz' rows g false)=>if sz'=sz then (backWrZ h bs os).map fun p=>(Z.neq (Z.len r) len :: p.1,(b,some (.rows sz' (Z.setg rows off r) g false)) :: p.2) else none
  | _=>none
 | .ref b :: bs,some (.var cs) :: os=>match h b with
  | some (.var old)=>if cs.length=old.length then (backWrZ h bs os).map fun p=>(p.1,(b,some (.var cs)) :: p.2) else none
  | _=>none
 | _,_=>none
def resAVsZ (slot:Nat):List RC->List AV × List (Nat × Option Blk)
 | []=>([],[])
 | .val x :: rs=>match resAVsZ slot rs with
  | (a,b)=>(x.av :: a,b)
 | .own sz rows :: rs=>match resAVsZ (slot+1) rs with
  | (a,b)=>(.c (.sl slot 0 (Z.len rows) false) :: a,(slot,some (.rows sz rows true false)) :: b)
def callEffZ (h:Hp) (slot:Nat) (marks:List (Nat × Option Blk)) (bks:List Back) (res:Res):OZ Eff:=
 match resAVsZ Z slot res.vals,bks.filterMap Back.id with
 | (avs,blks),is=>
  if (res.vals.all RC.scalar) && is.isEmpty then some ([],{ val:=one1 avs,rd:=Go.Abs.ids marks })
  else if !(is.all fun i=>!((Go.Abs.ids marks).contains i)) || !decide is.Nodup || !decide ((res.vals.filter RC.isOwn).length<=2) then none
  else match backWrZ Z h bks res.out with
   | some (o,bw)=>some (o,{ val:=one1 avs,wr:=marks ++ bw ++ blks,rd:=Go.Abs.ids marks ++ is })
   | none=>none
end
inductive TM where
 | leaf (x:AV)
 | node (h:Nat) (l r:TM)
def TM.get:TM->Nat->AV
 | .leaf x,_=>x
 | .node h l r,i=>if i < h then l.get i else r.get (i - h)
def TM.set:TM->Nat->AV->TM
 | .leaf _,_,x=>.leaf x
 | .node h l r,i,x=>if i < h then .node h (l.set i x) r else .node h l (r.set (i - h) x)
def TM.ok:TM->Nat->Prop
 | .leaf _,n=>n<=1
 | .node h l r,n=>l.ok (Min.min n h)/\r.ok (n - h)
def TM.toL:TM->Nat->List AV->List AV
 | .leaf x,n,acc=>if n=0 then acc else x :: acc
 | .node h l r,n,acc=>l.toL (Min.min n h) (r.toL (n - h) acc)
def TM.ofL:Nat->List AV->TM
 | _,[]=>.leaf .junk
 | 0,x :: _=>.leaf x
 | k+1,x :: l=>.node (2 ^ k) (TM.ofL k ((x :: l).take (2 ^ k))) (TM.ofL k ((x :: l).drop (2 ^ k)))
theorem TM.get_set:∀ (t:TM) (n d i:Nat) (x:AV),t.ok n->d < n->i < n->(t.set d x).get i=if i=d then x else t.get i
 | .leaf y,n,d,i,x,h,hd,hi=>by
  have h:n<=1:=h
  have:i=d:=by omega
  rw [if_pos this]; rfl
 | .node h l r,n,d,i,x,ho,hd,hi=>by
  obtain ⟨h1,h2⟩:=ho
  simp only [TM.set]
  by_cases hdh:d < h
  ·rw [if_pos hdh]
   simp only [TM.get]
   by_cases hih:i < h
   ·rw [if_pos hih,if_pos hih,TM.get_set l _ d i x h1 (by omega) (by omega)]
   ·rw [if_neg hih,if_neg hih,if_neg (by omega)]
  ·rw [if_neg hdh]
   simp only [TM.get]
   by_cases hih:i < h
   ·rw [if_pos hih,if_pos hih,if_neg (by omega)]
   ·rw [if_neg hih,if_neg hih,TM.get_set r _ (d - h) (i - h) x h2 (by omega) (by omega)]
    by_cases he:i=d
    ·rw [if_pos (by omega),if_pos he]
    ·rw [if_neg (by omega),if_neg he]
theorem TM.set_ok:∀ (t:TM) (n d:Nat) (x:AV),t.ok n->(t.set d x).ok n
 | .leaf y,n,d,x,h=>h
 | .node h l r,n,d,x,ho=>by
  simp only [TM.set]
  split
  ·exact ⟨TM.set_ok l _ d x ho.1,ho.2⟩
  ·exact ⟨ho.1,TM.set_ok r _ _ x ho.2⟩
theorem TM.toL_eq:∀ (t:TM) (n:Nat) (acc:List AV),t.ok n->(t.toL n acc).length=n+acc.length/\∀ i,(i < n->(t.toL n acc)[i]?=some (t.get i))/\(t.toL n acc)[n+i]?=acc[i]?
 | .leaf x,n,acc,h=>by
  have h:n<=1:=h
  simp only [TM.toL]
  split
  ·rename_i h0; subst h0; refine ⟨by simp,fun i=>⟨fun hi=>by omega,by simp⟩⟩
  ·rename_i h0
   have:n=1:=by omega
   subst this
   refine ⟨by simp; omega,fun i=>⟨fun hi=>?_,?_⟩⟩
   ·have:i=0:=by omega
    subst this; rfl
   ·rw [Nat.add_comm]; simp
 | .node h l r,n,acc,ho=>by
  obtain ⟨h1,h2⟩:=ho
  obtain ⟨e1,e2⟩:=TM.toL_eq r (n - h) acc h2
  obtain ⟨e3,e4⟩:=TM.toL_eq l (Min.min n h) (r.toL (n - h) acc) h1
  simp only [TM.toL]
  refine ⟨by rw [e3,e1]; omega,fun i=>⟨fun hi=>?_,?_⟩⟩
  ·simp only [TM.get]
   by_cases hih:i < h
   ·rw [if_pos hih]; exact (e4 i).1 (by omega)
   ·rw [if_neg hih]
    have:=(e4 (i - h)).2
    rw [show Min.min n h+(i - h)=i by omega] at this
    rw [this]
    exact (e2 (i - h)).1 (by omega)
  ·have:=(e4 (n - h+i)).2
   rw [show Min.min n h+(n - h+i)=n+i by omega] at this
   rw [this]
   exact (e2 i).2
theorem TM.ofL_ok:∀ (k:Nat) (l:List AV),l.length<=2 ^ k->(TM.ofL k l).ok l.length/\∀ i,i < l.length->(TM.ofL k l).get i=l.getD i .junk
 | k,[],h=>by
  cases k <;> exact ⟨Nat.zero_le _,fun i hi=>by simp at hi⟩
 | 0,x :: l,h=>by
  have h:(x :: l).length<=1:=h
  have hl:l=[]:=by simpa using h
  subst hl
  exact ⟨Nat.le_refl 1,fun i hi=>by
   have:i=0:=by simpa using hi
   subst this; rfl⟩
 | k+1,x :: l,h=>by
  have hp:2 ^ (k+1)=2 ^ k+2 ^ k:=by rw [Nat.pow_succ]; omega
  obtain ⟨a1,a2⟩:=TM.ofL_ok k ((x :: l).take (2 ^ k)) (by rw [List.length_take]; omega)
  obtain ⟨b1,b2⟩:=TM.ofL_ok k ((x :: l).drop (2 ^ k)) (by rw [List.length_drop]; omega)
  rw [List.length_take] at a1 a2
  rw [List.length_drop] at b1 b2
  refine ⟨⟨by rw [Nat.min_comm]; exact a1,b1⟩,fun i hi=>?_⟩
  simp only [TM.ofL,TM.get]
  by_cases hik:i < 2 ^ k
  ·rw [if_pos hik,a2 i (by omega)]
   simp only [List.getD_eq_getElem?_getD,List.getElem?_take,if_pos hik]
  ·rw [if_neg hik,b2 (i - 2 ^ k) (by omega)]
   simp only [List.getD_eq_getElem?_getD,List.getElem?_drop]
   rw [show 2 ^ k+(i - 2 ^ k)=i by omega]
structure ST where
 n:Nat
 tm:TM
 heap:Heap
 lit:List Nat
def ST.get (st:ST):Operand->AV
 | .tmp t=>if t < st.n then st.tm.get t else .junk
 | .const v=>ofConst v
 | .func f=>.c (.t (.v (.func (.func f) #[] #[])))
 | .global _=>.junk
def ST.toSt (st:ST):St:=⟨st.tm.toL st.n [],st.heap⟩
def depthOf (n:Nat):Nat:=if n<=16 then 4 else if n<=64 then 6 else if n<=256 then 8 else if n<=1024 then 10 else n
def ST.ofSt (st:St):ST:=⟨st.tmps.length,TM.ofL (depthOf st.tmps.length) st.tmps,st.heap,[]⟩
def ST.ok (st:ST):Prop:=st.tm.ok st.n
def ST.app (st:ST) (o:Oper) (e:Eff):ST:=⟨st.n,match o.dst with | some d=>if d < st.n then st.tm.set d e.val else st.tm | none=>st.tm,wrs st.heap e.wr,st.lit⟩
def ST.ext (st:ST) (n:Nat):ST:=⟨st.n,st.tm,st.heap ++ List.replicate n none,st.lit⟩
def ST.addLit (st:ST) (b:Bool) (o:Oper):ST:=match o.dst with
 | none=>st
 | some d=>match b with
  | true=>⟨st.n,st.tm,st.heap,d :: st.lit⟩
  | false=>match st.lit.contains d with
   | true=>⟨st.n,st.tm,st.heap,st.lit.filter (fun x=>!(x == d))⟩
   | false=>st
def litX (l:List Nat):Operand->Bool
 | .const _=>true
 | .tmp t=>l.contains t
 | _=>false
def litOp (st:ST):Op->Bool
 | .move x=>litX st.lit x
 | .assign x=>litX st.lit x
 | .pick c a b=>match litX st.lit c with
  | true=>match (st.get c).bool? with
   | some true=>litX st.lit a
   | some false=>litX st.lit b
   | none=>false
  | false=>false
 | .unOp _ _ x=>litX st.lit x
 | _=>false
theorem ST.getD (st:ST) (h:st.ok) (t:Nat):st.toSt.tmps.getD t .junk=if t < st.n then st.tm.get t else .junk:=by
 obtain ⟨h1,h2⟩:=TM.toL_eq st.tm st.n [] h
 unfold ST.toSt
 simp only [List.getD_eq_getElem?_getD]
 split
 ·rename_i ht; rw [(h2 t).1 ht]; rfl
 ·rename_i ht
  rw [List.getElem?_eq_none (by rw [h1]; simp; omega)]; rfl
theorem ST.get_eq (st:ST) (h:st.ok) (x:Operand):st.toSt.get x=st.get x:=by
 cases x with
 | tmp t=>exact ST.getD st h t
 | _=>rfl
theorem ST.app_ok {st:ST} (h:st.ok) (o:Oper) (e:Eff):(st.app o e).ok:=by
 unfold ST.app ST.ok
 simp only
 split
 ·split
  ·exact TM.set_ok _ _ _ _ h
  ·exact h
 ·exact h
theorem list_ext_getD {l m:List AV} (h:l.length=m.length) (hi:∀ i,i < l.length->l[i]?=m[i]?):l=m:=by
 apply List.ext_getElem?
 intro i
 rcases Nat.lt_or_ge i l.length with h1 | h1
 ·exact hi i h1
 ·rw [List.getElem?_eq_none h1,List.getElem?_eq_none (by omega)]
theorem ST.toSt_app {st:ST} (h:st.ok) (o:Oper) (e:Eff):(st.app o e).toSt=st.toSt.app o e:=by
 unfold ST.app ST.toSt St.app
 obtain ⟨h1,h2⟩:=TM.toL_eq st.tm st.n [] h
 simp only [St.mk.injEq,and_true]
 cases hd:o.dst with
 | none=>rfl
 | some d=>
  simp only
  by_cases hdn:d < st.n
  ·rw [if_pos hdn]
   obtain ⟨h3,h4⟩:=TM.toL_eq (st.tm.set d e.val) st.n [] (TM.set_ok _ _ _ _ h)
   refine list_ext_getD (by rw [h3,List.length_set,h1]) fun i hi=>?_
   rw [h3] at hi
   simp only [List.length_nil,Nat.add_zero] at hi
   rw [(h4 i).1 hi,TM.get_set _ _ _ _ _ h hdn hi,List.getElem?_set,h1]
   by_cases he:i=d
   ·subst he; simp [hdn]
   ·rw [if_neg he,if_neg (Ne.symm he)]; exact ((h2 i).1 hi).symm
  ·rw [if_neg hdn]
   simp only [List.length_nil,Nat.add_zero] at h1
   exact (List.set_eq_of_length_le (by rw [h1]; exact Nat.le_of_not_lt hdn)).symm
theorem ST.toSt_heap (st:ST):st.toSt.heap=st.heap:=rfl
theorem depthOf_le (n:Nat):n<=2 ^ depthOf n:=by
 unfold depthOf
 split
 ·omega
 ·split
  ·omega
  ·split
   ·omega
   ·split
    ·omega
    ·exact Nat.le_of_lt Nat.lt_two_pow_self
theorem ST.ofSt_ok (st:St):(ST.ofSt st).ok:=(TM.ofL_ok _ _ (depthOf_le _)).1
theorem ST.toSt_ofSt (st:St):(ST.ofSt st).toSt=st:=by
 obtain ⟨a,b⟩:=TM.ofL_ok (depthOf st.tmps.length) st.tmps (depthOf_le _)
 obtain ⟨h1,h2⟩:=TM.toL_eq _ _ [] a
 unfold ST.ofSt ST.toSt
 cases st with
 | mk tmps heap=>
 simp only [St.mk.injEq,and_true]
 simp only at h1 h2 b
 refine list_ext_getD (by rw [h1]; simp) fun i hi=>?_
 rw [h1] at hi
 simp only [List.length_nil,Nat.add_zero] at hi
 rw [(h2 i).1 hi,b i hi,List.getD_eq_getElem?_getD,List.getElem?_eq_getElem hi]
 rfl
section
variable (Z:ZI) (C:Cfg)
def litOf (ops:List Oper) (x:Operand):Bool:=
 match x with
 | .tmp t=>ops.any fun o=>match o.dst,o.op with
  | some d,.buildSlice _ n _=>d == t && decide (0 < n)
  | _,_=>false
 | _=>false
def wantedT (st:ST) (ops:List Oper) (o:Oper):Option Bool:=
 match o.guard with
 | none=>some true
 | some (j,want)=>match (ops[j]?).bind (·.dst) with
  | some d=>yieldA want (st.get (.tmp d))
  | none=>none
def StepKZ (A:FuncId->Ask->Ans->Prop) (ops:List Oper) (slot:Nat) (o:Oper) (st:ST) (k:Eff->Prop):Prop:=
 match wantedT st ops o with
 | none=>False
 | some false=>k skipEff
 | some true=>
  match o.op with
  | .call { callee:=.value f,args,.. }=>
   match callOf (st.get f) (args.toList.map st.get) with
   | none=>False
   | some (fid,avs)=>
    match C.md fid with
    | .sh _ :: _=>
     match viewOf (look st.heap) avs with
     | none=>False
     | some (ids,s)=>∃ s',A fid (.h s) (.h s')/\match shEff ids slot (slotsOf C o.op) s' with
      | some e=>k e
      | none=>False
    | ms=>
     match prepCallZ Z (look st.heap) ms avs with
     | none=>False
     | some (ob,as,marks,bks)=>needs ob (∃ res,A fid (.a as) (.a res)/\match callEffZ Z (look st.heap) slot marks bks res with
      | some (ob',e)=>needs ob' (k e)
      | none=>False)
  | .call { callee:=.builtin .append,args,argTypes }=>
   match args.toList with
   | [s,x]=>
    match litOf ops x with
    | true=>match evalOpZ Z C slot st.get (look st.heap) (.call { callee:=.builtin .append,args,argTypes }) with
     | some (ob,e)=>needs ob (k e)
     | none=>False
    | false=>
     match rowsOfZ Z (look st.heap) (st.get x),isSl (st.get s),evalOpZ Z C slot st.get (look st.heap) (.call { callee:=.builtin .append,args,argTypes }) with
     | some (o1,new,rdx),true,some (ob,e)=>Br (Z.neq (Z.len new) 0) (needs o1 (k { val:=st.get s,rd:=rdx })) (needs ob (k e))
     | _,_,_=>False
   | _=>False
  | op=>match evalOpZ Z C slot st.get (look st.heap) op with
   | some (ob,e)=>needs ob (k e)
   | none=>False
def guardDs (ops:List Oper):List Oper->List Nat->List Nat
 | [],acc=>acc
 | o :: os,acc=>match o.guard with
  | some (j,_)=>match (ops[j]?).bind (·.dst) with
   | some d=>match acc.contains d with
    | true=>guardDs ops os acc
    | false=>guardDs ops os (d :: acc)
   | none=>guardDs ops os acc
  | none=>guardDs ops os acc
def GuardK (gs:List Nat) (lit:Bool) (o:Oper) (e:Eff) (k:Bool->Eff->Prop):Prop:=
 match gs with
 | []=>k lit e
 | g :: gs=>match o.dst with
  | none=>k lit e
  | some d=>match (g :: gs).contains d with
   | true=>match lit with
    | true=>k true e
    | false=>match e.val.bool? with
     | some b=>Br b (k true { e with val:=val1 (.bool true) }) (k true { e with val:=val1 (.bool false) })
     | none=>k false e
   | false=>k lit e
def OpsKZ (A:FuncId->Ask->Ans->Prop) (ops:List Oper) (gs:List Nat):List Oper->Nat->ST->List Eff->(List Eff->ST->Prop)->Prop
 | [],_,st,tr,Q=>Q tr st
 | o :: os,slot,st,tr,Q=>StepKZ Z C A ops slot o st fun e=>GuardK gs (litOp st o.op) o e fun b e=>OpsKZ A ops gs os (slot+slotsOf C o.op) ((st.app o e).addLit b o) (tr ++ [e]) Q
def CodeKZ (A:FuncId->Ask->Ans->Prop) (L:Code->St->(AExit->ST->Prop)->Prop):Code->ST->(AExit->ST->Prop)->Prop
 | .skip,st,Q=>Q .normal st
 | .ret,st,Q=>Q .ret st
 | .exit id,st,Q=>Q (.exit id) st
 | .seq x y,st,Q=>CodeKZ A L x st fun e s=>match e with
  | .normal=>CodeKZ A L y s Q
  | .exit id=>Q (.exit id) s
  | .ret=>Q .ret s
 | .region _ ops draw,st,Q=>OpsKZ Z C A ops.toList (guardDs ops.toList ops.toList []) ops.toList st.heap.length (st.ext (slotsSum C ops.toList)) [] fun effs st'=>match draw with
  | false=>Q .normal st'
  | true=>match drawH ops.toList effs with
   | true=>Q .normal st'
   | false=>False
 | .cond c x y,st,Q=>match (st.get c).bool? with
  | some b=>match litX st.lit c with
   | true=>match b with
    | true=>CodeKZ A L x st Q
    | false=>CodeKZ A L y st Q
   | false=>Br b (CodeKZ A L x st Q) (CodeKZ A L y st Q)
  | none=>False
 | .block id c,st,Q=>CodeKZ A L c st fun e s=>match e with
  | .normal=>Q .normal s
  | .exit id'=>if id'=id then Q .normal s else Q (.exit id') s
  | .ret=>Q .ret s
 | .loop c,st,Q=>match st.toSt with
  | ⟨t,h⟩=>L c ⟨t,h⟩ Q
 | _,_,_=>False
end
def codeT:Code->Bool
 | .seq x y=>codeT x && codeT y
 | .region _ ops draw=>!draw || drawT ops.toList
 | .cond _ x y=>codeT x && codeT y
 | .block _ c=>codeT c
 | .loop c=>codeT c
 | _=>true
section
variable {P:Program} {C:Cfg} {h:Hp} {n0:Nat}
theorem toTVZ_std {x:AV} {o:List Bool} {v:TV} {m:List (Nat × Option Blk)} (e:toTVZ ZI.std h x=some (o,v,m)) (ho:allT o):toTV h x=some (v,m):=by
 unfold toTVZ at e
 unfold toTV
 split at e
 ·split at e
  ·rename_i h1; cases e; simp only [toTreeZ_std h1 ho,Option.map_some]
  ·cases e
 ·split at e
  ·rename_i h1; cases e; simp only [toTreesZ_std h1 ho,Option.map_some]
  ·cases e
 ·cases e
theorem prepArgZ_std {md:Mode} {x:AV} {o:List Bool} {a:Arg} {m:List (Nat × Option Blk)} {b:Back} (e:prepArgZ ZI.std h md x=some (o,a,m,b)) (ho:allT o):prepArg h md x=some (a,m,b):=by
 unfold prepArgZ at e
 split at e
 ·cases e; rfl
 ·rename_i hne
  split at e
  ·rename_i h1; cases e; rw [prepArg_val hne,toTVZ_std h1 ho]; rfl
  ·cases e
 ·split at e
  ·rename_i hb
   cases e
   have:=allT1 ho
   simp only [ZI.std,decide_eq_true_eq] at this
   simp only [prepArg,hb]
   rw [if_pos this]; rfl
  ·cases e
 ·split at e
  ·rename_i hb
   split at e
   ·rename_i hsz
    cases e
    have:=allT1 ho
    simp only [ZI.std,decide_eq_true_eq] at this
    simp only [prepArg,hb]
    rw [if_pos ⟨hsz,this⟩]
   ·cases e
  ·cases e
 ·cases e; rfl
 ·split at e
  ·rename_i hb
   cases e
   have:=allT1 ho
   simp only [ZI.std,decide_eq_true_eq] at this
   simp only [prepArg,hb]
   rw [if_pos this]; rfl
  ·cases e
 ·rename_i hne
  split at e
  ·rename_i h1; cases e; rw [prepArg_rd hne,toTVZ_std h1 ho]; rfl
  ·cases e
 ·split at e
  ·rename_i hb
   split at e
   ·rename_i ht
    cases e
    simp only [prepArg,hb,ht]
   ·cases e
  ·cases e
 ·cases e
theorem qbv:∀ {ms:List Mode} {xs:List AV} {o:List Bool} {as:List Arg} {m:List (Nat × Option Blk)} {bs:List Back},prepArgsZ ZI.std h ms xs=some (o,as,m,bs)->allT o->prepArgs h ms xs=some (as,m,bs)
 | [],[],o,as,m,bs,e,ho=>by cases e; rfl
 | md :: ms,x :: xs,o,as,m,bs,e,ho=>by
  unfold prepArgsZ at e
  split at e
  ·rename_i h1 h2
   cases e
   obtain ⟨a,b⟩:=qbh ho
   simp only [prepArgs,prepArgZ_std h1 a,qbv h2 b]
  ·cases e
 | [],_ :: _,o,as,m,bs,e,ho=>by cases e
 | _ :: _,[],o,as,m,bs,e,ho=>by cases e
theorem prepCallZ_std {ms:List Mode} {xs:List AV} {o:List Bool} {as:List Arg} {m:List (Nat × Option Blk)} {bs:List Back} (e:prepCallZ ZI.std h ms xs=some (o,as,m,bs)) (ho:allT o):prepCall h ms xs=some (as,m,bs):=by
 unfold prepCallZ at e
 split at e
 ·cases e
 rename_i o1 as0 ks bs0 h1
 split at e
 ·rename_i hg
  cases e
  unfold prepCall
  simp only [qbv h1 ho,hg]
 ·rename_i g gs hg
  split at e
  ·rename_i gas h2
   cases e
   unfold prepCall
   simp only [qbv h1 ho,hg,h2]
  ·cases e
theorem backWrZ_std:∀ {bs:List Back} {os:List (Option Blk)} {o:List Bool} {w:List (Nat × Option Blk)},backWrZ ZI.std h bs os=some (o,w)->allT o->backWr h bs os=some w
 | [],[],o,w,e,ho=>by cases e; rfl
 | .none :: bs,x :: os,o,w,e,ho=>by
  simp only [backWrZ] at e
  simp only [backWr]
  exact backWrZ_std e ho
 | .own b :: bs,x :: os,o,w,e,ho=>by
  simp only [backWrZ] at e
  obtain ⟨p,h1,h2⟩:=Option.map_eq_some_iff.1 e
  cases h2
  simp only [backWr,backWrZ_std (o:=p.1) (w:=p.2) h1 ho,Option.map_some]
 | .bor b off len :: bs,some (.rows sz r false false) :: os,o,w,e,ho=>by
  simp only [backWrZ] at e
  split at e
  ·rename_i hb
   split at e
   ·rename_i hsz
    obtain ⟨p,h1,h2⟩:=Option.map_eq_some_iff.1 e
    cases h2
    have q1:=ho _ (List.mem_cons_self ..)
    simp only [ZI.std,decide_eq_true_eq] at q1
    simp only [backWr,hb]
    rw [if_pos ⟨hsz,q1⟩,backWrZ_std (o:=p.1) (w:=p.2) h1 fun c hc=>ho c (List.mem_cons_of_mem _ hc)]
    rfl
   ·cases e
  ·cases e
 | .ref b :: bs,some (.var cs) :: os,o,w,e,ho=>by
  simp only [backWrZ] at e
  split at e
  ·rename_i hb
   split at e
   ·rename_i hsz
    obtain ⟨p,h1,h2⟩:=Option.map_eq_some_iff.1 e
    cases h2
    simp only [backWr,hb]
    rw [if_pos hsz,backWrZ_std (o:=p.1) (w:=p.2) h1 ho]
    rfl
   ·cases e
  ·cases e
 | [],_ :: _,o,w,e,ho=>by cases e
 | .none :: _,[],o,w,e,ho=>by cases e
 | .own _ :: _,[],o,w,e,ho=>by cases e
 | .bor _ _ _ :: _,[],o,w,e,ho=>by cases e
 | .ref _ :: _,[],o,w,e,ho=>by cases e
 | .bor _ _ _ :: _,none :: _,o,w,e,ho=>by cases e
 | .ref _ :: _,none :: _,o,w,e,ho=>by cases e
 | .bor _ _ _ :: _,some (.var _) :: _,o,w,e,ho=>by cases e
 | .bor _ _ _ :: _,some (.map _) :: _,o,w,e,ho=>by cases e
 | .bor _ _ _ :: _,some (.rows _ _ true _) :: _,o,w,e,ho=>by cases e
 | .bor _ _ _ :: _,some (.rows _ _ false true) :: _,o,w,e,ho=>by cases e
 | .ref _ :: _,some (.rows _ _ _ _) :: _,o,w,e,ho=>by cases e
 | .ref _ :: _,some (.map _) :: _,o,w,e,ho=>by cases e
theorem resAVsZ_std:∀ (slot:Nat) (l:List RC),resAVsZ ZI.std slot l=resAVs slot l
 | _,[]=>rfl
 | slot,.val x :: rs=>by simp only [resAVsZ,resAVs,resAVsZ_std slot rs]
 | slot,.own sz rows :: rs=>by simp only [resAVsZ,resAVs,resAVsZ_std (slot+1) rs]; rfl
theorem callEffZ_std {slot:Nat} {marks:List (Nat × Option Blk)} {bks:List Back} {res:Res} {o:List Bool} {e:Eff} (he:callEffZ ZI.std h slot marks bks res=some (o,e)) (ho:allT o):callEff h slot marks bks res=some e:=by
 unfold callEffZ at he
 unfold callEff
 rw [resAVsZ_std] at he
 simp only at he ⊢
 split at he
 ·rename_i hc; cases he; rw [if_pos hc]
 ·rename_i hc
  rw [if_neg hc]
  split at he
  ·cases he
  ·rename_i hd
   rw [if_neg hd]
   split at he
   ·rename_i o1 bw h1
    cases he
    simp only [backWrZ_std h1 ho]
   ·cases he
theorem wantedT_std {st:ST} (h:st.ok) (ops:List Oper) (o:Oper):wantedT st ops o=wantedA st.toSt.tmps ops o:=by
 unfold wantedT wantedA
 cases hg:o.guard with
 | none=>rfl
 | some p=>
  obtain ⟨j,want⟩:=p
  simp only
  cases hd:(ops[j]?).bind (·.dst) with
  | none=>rfl
  | some d=>
   simp only
   rw [ST.getD st h]; rfl
theorem map_get {st:ST} (h:st.ok):st.toSt.get=st.get:=by funext x; exact ST.get_eq st h x
theorem stepKZ_std {ops:List Oper} {slot:Nat} {o:Oper} {st:ST} (hst:st.ok) {k:Eff->Prop} (hk:StepKZ ZI.std C (Shows P) ops slot o st k):StepK P C ops slot o st.toSt k:=by
 unfold StepKZ at hk
 unfold StepK
 rw [wantedT_std hst] at hk
 rw [map_get hst,ST.toSt_heap]
 cases hw:wantedA st.toSt.tmps ops o with
 | none=>simp only [hw] at hk
 | some b=>
 cases b with
 | false=>simp only [hw] at hk ⊢; exact hk
 | true=>
 simp only [hw] at hk ⊢
 split at hk
 ·rename_i f args argTypes hop
  simp only [hop]
  split at hk
  ·exact hk.elim
  ·rename_i fid avs hc
   simp only [hc]
   split at hk
   ·rename_i n0 mds hmd
    simp only [hmd]
    split at hk
    ·exact hk.elim
    ·rename_i ids s hp
     simp only [hp]
     obtain ⟨s',h2,h3⟩:=hk
     rw [hop] at h3
     exact ⟨s',h2,h3⟩
   ·rename_i hnsh
    split at hk
    ·exact hk.elim
    ·rename_i ob as marks bks hp
     obtain ⟨h1,res,h2,h3⟩:=qbl hk
     simp only [prepCallZ_std hp h1]
     refine ⟨res,h2,?_⟩
     split at h3
     ·rename_i ob' e he
      obtain ⟨h4,h5⟩:=qbl h3
      simp only [callEffZ_std he h4]
      exact h5
     ·exact h3.elim
 ·rename_i args argTypes hop
  simp only [hop]
  split at hk
  ·rename_i s x hargs
   split at hk
   ·split at hk
    ·rename_i ob e he
     obtain ⟨h4,h5⟩:=qbl hk
     simp only [evalOpZ_std he h4]
     exact h5
    ·exact hk.elim
   ·split at hk
    ·rename_i o1 new rdx ob e hr hs he
     by_cases hz:ZI.std.neq (ZI.std.len new) 0=true
     ·obtain ⟨h4,h5⟩:=qbl (hk.t hz)
      have hr':=rowsOfZ_std hr h4
      have hz':new.length=0:=by simpa [ZI.std] using hz
      have hev:evalOp C slot st.get (look st.heap) (.call { callee:=.builtin .append,args,argTypes })=some { val:=st.get s,rd:=rdx }:=by
       simp only [evalOpZ,hargs] at he
       simp only [evalOp,hargs]
       cases ht:argTypes[0]? with
       | none=>rw [ht] at he; simp at he
       | some t=>
       simp only [ht] at he ⊢
       split at he
       ·rename_i ti hti
        split at he
        ·rename_i el hk
         split at he
         ·rename_i te t1 hte ht1
          split at he
          ·rename_i ti1 hti1
           split at he
           ·rename_i e1 hk1
            split at he
            ·cases he
            ·rename_i hz
             simp only [hti,hk,hte,ht1,hti1,hk1]
             rw [if_neg hz]
             simp only [evAppend,hr']
             rw [if_pos hz',if_pos hs]
           ·cases he
          ·cases he
         ·cases he
        ·cases he
       ·cases he
      simp only [hev]
      exact h5
     ·obtain ⟨h4,h5⟩:=qbl (hk.f (by simpa using hz))
      simp only [evalOpZ_std he h4]
      exact h5
    ·exact hk.elim
  ·exact hk.elim
 ·rename_i hn1 hn2
  split at hk
  ·rename_i ob e he
   obtain ⟨h4,h5⟩:=qbl hk
   have he':=evalOpZ_std he h4
   split
   ·rename_i hop
    exact absurd hop (hn1 _ _ _)
   ·simp only [he']; exact h5
  ·exact hk.elim
theorem guardK_std {gs:List Nat} {lit:Bool} {o:Oper} {e:Eff} {k:Bool->Eff->Prop} (h:GuardK gs lit o e k):∃ b,k b e:=by
 have key:∀ b,e.val.bool?=some b->Br b (k true { e with val:=val1 (.bool true) }) (k true { e with val:=val1 (.bool false) })->k true e:=by
  intro b hb h
  have hv:e.val=val1 (.bool b):=by
   cases hv:e.val with
   | c x=>cases x with
    | t t=>cases t with
     | v x=>cases x <;> simp [hv,AV.bool?] at hb; subst hb; rfl
     | lst=>simp [hv,AV.bool?] at hb
    | _=>simp [hv,AV.bool?] at hb
   | _=>simp [hv,AV.bool?] at hb
  have he:e={ e with val:=val1 (.bool b) }:=by rw [<- hv]
  rw [he]
  cases b with
  | true=>exact h.t rfl
  | false=>exact h.f rfl
 unfold GuardK at h
 split at h
 ·exact ⟨_,h⟩
 ·split at h
  ·exact ⟨_,h⟩
  ·split at h
   ·split at h
    ·exact ⟨_,h⟩
    ·split at h
     ·rename_i b hb; exact ⟨_,key b hb h⟩
     ·exact ⟨_,h⟩
   ·exact ⟨_,h⟩
theorem ST.addLit_toSt (st:ST) (b:Bool) (o:Oper):(st.addLit b o).toSt=st.toSt:=by
 unfold ST.addLit
 split
 ·rfl
 ·split
  ·rfl
  ·split <;> rfl
theorem ST.addLit_ok {st:ST} (h:st.ok) (b:Bool) (o:Oper):(st.addLit b o).ok:=by
 unfold ST.addLit
 split
 ·exact h
 ·split
  ·exact h
  ·split <;> exact h
def PostT (Q:AExit->ST->Prop):AExit->St->Prop:=fun e s=>∃ s',s'.ok/\s'.toSt=s/\Q e s'
theorem opsKZ_std {ops:List Oper} {gs:List Nat}:∀ (os:List Oper) (slot:Nat) (st:ST) (tr:List Eff) {k:List Eff->ST->Prop},st.ok->OpsKZ ZI.std C (Shows P) ops gs os slot st tr k->OpsK P C ops os slot st.toSt tr fun t s=>∃ s',s'.ok/\s'.toSt=s/\k t s'
 | [],slot,st,tr,k,hst,hk=>⟨st,hst,rfl,hk⟩
 | o :: os,slot,st,tr,k,hst,hk=>stepK_mono (stepKZ_std hst hk) fun e he=>by
  obtain ⟨b,hb⟩:=guardK_std he
  rw [<- ST.toSt_app hst,<- ST.addLit_toSt _ b o]
  exact opsKZ_std os _ _ _ (ST.addLit_ok (ST.app_ok hst o e) b o) hb
theorem qbq:∀ (c:Code) (st:St) {Q Q':AExit->St->Prop},CodeK P C n0 c st Q->(∀ e s,Q e s->Q' e s)->CodeK P C n0 c st Q':=by
 intro c
 induction c with
 | skip=>intro st Q Q' h hq; exact hq _ _ h
 | ret=>intro st Q Q' h hq; exact hq _ _ h
 | exit id=>intro st Q Q' h hq; exact hq _ _ h
 | seq x y ihx ihy=>
  intro st Q Q' h hq
  refine ihx st h fun e s hs=>?_
  cases e with
  | normal=>exact ihy s hs hq
  | exit id=>exact hq _ _ hs
  | ret=>exact hq _ _ hs
 | region id ops draw=>
  intro st Q Q' h hq
  refine opsK_mono _ _ _ _ h fun t s hs=>?_
  cases draw with
  | false=>exact hq _ _ hs
  | true=>
   simp only at hs ⊢
   split at hs
   ·exact hq _ _ hs
   ·exact hs.elim
 | cond c x y ihx ihy=>
  intro st Q Q' h hq
  simp only [CodeK] at h ⊢
  split at h
  ·exact ihx st h hq
  ·exact ihy st h hq
  ·exact h.elim
 | block id c ih=>
  intro st Q Q' h hq
  refine ih st h fun e s hs=>?_
  cases e with
  | normal=>exact hq _ _ hs
  | exit id'=>
   simp only at hs ⊢
   split at hs
   ·rename_i he; rw [if_pos he]; exact hq _ _ hs
   ·rename_i he; rw [if_neg he]; exact hq _ _ hs
  | ret=>exact hq _ _ hs
 | loop c ih=>intro st Q Q' h hq; exact ARun.mono h hq
 | _=>intros; rename_i h _; exact False.elim h
def LoopT (P:Program) (n0:Nat) (c:Code) (st:St) (Q:AExit->ST->Prop):Prop:=codeT c=true->LoopP P n0 c st (PostT Q)
theorem codeKZ_std:∀ (c:Code) (st:ST) {Q:AExit->ST->Prop},st.ok->codeT c=true->CodeKZ ZI.std C (Shows P) (LoopT P n0) c st Q->CodeK P C n0 c st.toSt (PostT Q):=by
 intro c
 induction c with
 | skip=>intro st Q hst hT h; exact ⟨st,hst,rfl,h⟩
 | ret=>intro st Q hst hT h; exact ⟨st,hst,rfl,h⟩
 | exit id=>intro st Q hst hT h; exact ⟨st,hst,rfl,h⟩
 | seq x y ihx ihy=>
  intro st Q hst hT h
  simp only [codeT,Bool.and_eq_true] at hT
  refine qbq x _ (ihx st hst hT.1 h) fun e s hs=>?_
  obtain ⟨s',h1,rfl,h2⟩:=hs
  cases e with
  | normal=>exact ihy s' h1 hT.2 h2
  | exit id=>exact ⟨s',h1,rfl,h2⟩
  | ret=>exact ⟨s',h1,rfl,h2⟩
 | region id ops draw=>
  intro st Q hst hT h
  refine opsK_mono _ _ _ _ (opsKZ_std _ _ _ _ (show (st.ext _).ok from hst) h) fun t s hs=>?_
  obtain ⟨s',h1,rfl,hs⟩:=hs
  cases draw with
  | false=>exact ⟨s',h1,rfl,hs⟩
  | true=>
   simp only [codeT,Bool.not_true,Bool.false_or] at hT
   simp only at hs ⊢
   split at hs
   ·rename_i hd; rw [hT,hd]; exact ⟨s',h1,rfl,hs⟩
   ·exact hs.elim
 | cond c x y ihx ihy=>
  intro st Q hst hT h
  simp only [codeT,Bool.and_eq_true] at hT
  simp only [CodeKZ] at h
  simp only [CodeK]
  rw [ST.get_eq st hst]
  split at h
  ·rename_i b hb
   rw [hb]
   split at h
   ·cases b with
    | true=>exact ihx st hst hT.1 h
    | false=>exact ihy st hst hT.2 h
   ·cases b with
    | true=>exact ihx st hst hT.1 (h.t rfl)
    | false=>exact ihy st hst hT.2 (h.f rfl)
  ·exact h.elim
 | block id c ih=>
  intro st Q hst hT h
  refine qbq c _ (ih st hst hT h) fun e s hs=>?_
  obtain ⟨s',h1,rfl,hs⟩:=hs
  cases e with
  | normal=>exact ⟨s',h1,rfl,hs⟩
  | exit id'=>
   simp only at hs ⊢
   split at hs
   ·rename_i he; rw [if_pos he]; exact ⟨s',h1,rfl,hs⟩
   ·rename_i he; rw [if_neg he]; exact ⟨s',h1,rfl,hs⟩
  | ret=>exact ⟨s',h1,rfl,hs⟩
 | loop c ih=>
  intro st Q hst hT h
  exact h hT
 | _=>intros; rename_i h; exact False.elim h
end
inductive TLe:Tree->Tree->Prop where
 | v (x:Value):TLe (.v x) (.v x)
 | lst (cp cp':Bool) (rows rows':Rows) (f:Nat->Nat->Tree):(cp'=true->cp=true)->rows.length=rows'.length->(∀ (n:Nat),(∀ r ∈ rows,r.length=n)->∀ r ∈ rows',r.length=n) ->
   (∀ i j t',at2 rows' i j=some t'->at2 rows i j=some (f i j))->(∀ i j t',at2 rows' i j=some t'->TLe (f i j) t')->TLe (.lst cp rows) (.lst cp' rows')
theorem TLe.flag {cp cp':Bool} (rows:Rows) (hcp:cp'=true->cp=true) (hr:∀ i j t,at2 rows i j=some t->TLe t t):TLe (.lst cp rows) (.lst cp' rows):=
 .lst cp cp' rows rows (fun i j=>(at2 rows i j).getD (.v undef)) hcp rfl (fun n h=>h) (fun i j t ht=>by rw [ht]; rfl) fun i j t ht=>by rw [ht]; exact hr i j t ht
theorem TLe.rfl':∀ (n:Nat) (t:Tree),SizeOf.sizeOf t < n->TLe t t
 | 0,t,h=>by omega
 | n+1,.v x,h=>.v x
 | n+1,.lst cp rows,h=>.flag rows (fun x=>x) fun i j t ht=>by
  unfold at2 at ht
  obtain ⟨r,h1,h2⟩:=Option.bind_eq_some_iff.1 ht
  have a:=List.sizeOf_lt_of_mem (List.mem_of_getElem? h1)
  have b:=List.sizeOf_lt_of_mem (List.mem_of_getElem? h2)
  have:=Tree.lst.sizeOf_spec cp rows
  exact TLe.rfl' n t (by omega)
theorem TLe.refl (t:Tree):TLe t t:=TLe.rfl' _ t (Nat.lt_succ_self _)
theorem TLe.drop (cp:Bool) (rows:Rows):TLe (.lst cp rows) (.lst false rows):=.flag rows (fun h=>by cases h) fun _ _ t _=>.refl t
theorem TRep.weak {S:Place} {w:World} {t t':Tree} {v:Value} (hl:TLe t t'):TRep S w t v->TRep S w t' v:=by
 induction hl generalizing v with
 | v x=>intro h; exact h
 | lst cp cp' rows rows' f h1 h2 h2' h3 _ ih=>
  intro h
  cases h with
  | lst _ _ base cb co stride cap val q1 q2 q3 q4 q5 q6 q7 q8 q9=>
   rw [h2]
   refine .lst cp' rows' base cb co stride cap val (by omega) q2 (by omega) (fun hc=>by rw [<- h2]; exact q4 (h1 hc)) (fun hn=>q5 fun h0=>hn ?_) q6 (h2' _ q7) (fun i j t' ht=>q8 i j _ (h3 i j t' ht)) fun i j t' ht=>ih i j t' ht (q9 i j _ (h3 i j t' ht))
   rw [h0] at h2
   exact List.length_eq_zero_iff.1 h2.symm
def TsLe:List Tree->List Tree->Prop
 | [],[]=>True
 | x :: xs,y :: ys=>TLe x y/\TsLe xs ys
 | _,_=>False
theorem TsLe.get:∀ {l l':List Tree},TsLe l l'->l.length=l'.length/\∀ (i:Nat) (t':Tree),l'[i]?=some t'->∃ t,l[i]?=some t/\TLe t t'
 | [],[],_=>⟨rfl,by simp⟩
 | x :: xs,y :: ys,h=>by
  obtain ⟨h1,h2⟩:=h
  obtain ⟨h3,h4⟩:=TsLe.get h2
  refine ⟨by simp [h3],fun i t' hi=>?_⟩
  cases i with
  | zero=>simp at hi; subst hi; exact ⟨x,rfl,h1⟩
  | succ i=>obtain ⟨t,q1,q2⟩:=h4 i t' (by simpa using hi); exact ⟨t,by simpa using q1,q2⟩
 | [],_ :: _,h=>h.elim
 | _ :: _,[],h=>h.elim
theorem TsLe.refl:∀ (l:List Tree),TsLe l l
 | []=>trivial
 | x :: xs=>⟨.refl x,TsLe.refl xs⟩
def TVLe:TV->TV->Prop
 | .c t,.c t'=>TLe t t'
 | .agg l,.agg l'=>TsLe l l'
 | _,_=>False
theorem TVLe.refl:∀ (x:TV),TVLe x x
 | .c t=>TLe.refl t
 | .agg l=>TsLe.refl l
theorem TVLe.rep {β:Nat->Option Reg} {S:Place} {w:World}:∀ {x y:TV} {v:Value},TVLe x y->VRep β S w x.av v->VRep β S w y.av v
 | .c t,.c t',v,h,hv=>by
  cases hv with | c hv=>
  cases hv with | t hv=>
  exact .c (.t (hv.weak h))
 | .agg l,.agg l',v,h,hv=>by
  obtain ⟨h1,h2⟩:=TsLe.get h
  cases hv with | agg vs q1 q2=>
  refine .agg vs (by simpa [h1] using q1) fun i c hi=>?_
  rw [List.getElem?_map] at hi
  obtain ⟨t',e1,rfl⟩:=Option.map_eq_some_iff.1 hi
  obtain ⟨t,e2,e3⟩:=h2 i t' e1
  obtain ⟨u,e4,e5⟩:=q2 i (.t t) (by rw [List.getElem?_map,e2]; rfl)
  cases e5 with | t e5=>
  exact ⟨u,e4,.t (e5.weak e3)⟩
 | .c _,.agg _,v,h,hv=>h.elim
 | .agg _,.c _,v,h,hv=>h.elim
def ArgLe:Arg->Arg->Prop
 | .val x,.val y=>TVLe x y
 | a,b=>a=b
theorem ArgLe.blk:∀ {a b:Arg},ArgLe a b->a.blk=b.blk
 | .val x,.val y,_=>rfl
 | .val x,.bor _ _,h=>by cases h
 | .val x,.own _ _,h=>by cases h
 | .val x,.ref _,h=>by cases h
 | .bor _ _,b,h=>by cases h; rfl
 | .own _ _,b,h=>by cases h; rfl
 | .ref _,b,h=>by cases h; rfl
 | .val x,.clo _ _,h=>by cases h
 | .val x,.gh _,h=>by cases h
 | .clo _ _,b,h=>by cases h; rfl
 | .gh _,b,h=>by cases h; rfl
def ArgsLe:List Arg->List Arg->Prop
 | [],[]=>True
 | x :: xs,y :: ys=>ArgLe x y/\ArgsLe xs ys
 | _,_=>False
theorem ArgsLe.get:∀ {l l':List Arg},ArgsLe l l'->l.length=l'.length/\∀ (i:Nat) (t':Arg),l'[i]?=some t'->∃ t,l[i]?=some t/\ArgLe t t'
 | [],[],_=>⟨rfl,by simp⟩
 | x :: xs,y :: ys,h=>by
  obtain ⟨h1,h2⟩:=h
  obtain ⟨h3,h4⟩:=ArgsLe.get h2
  refine ⟨by simp [h3],fun i t' hi=>?_⟩
  cases i with
  | zero=>simp at hi; subst hi; exact ⟨x,rfl,h1⟩
  | succ i=>obtain ⟨t,q1,q2⟩:=h4 i t' (by simpa using hi); exact ⟨t,by simpa using q1,q2⟩
 | [],_ :: _,h=>h.elim
 | _ :: _,[],h=>h.elim
theorem ArgsLe.blk {l l':List Arg} (h:ArgsLe l l') (i:Nat):(l[i]?).bind Arg.blk=(l'[i]?).bind Arg.blk:=by
 obtain ⟨h1,h2⟩:=h.get
 cases hi:l'[i]? with
 | none=>rw [List.getElem?_eq_none (by rw [h1]; exact List.getElem?_eq_none_iff.1 hi)]
 | some t'=>
  obtain ⟨t,e1,e2⟩:=h2 i t' hi
  rw [e1]
  exact e2.blk
theorem ArgsLe.lent {l l':List Arg} (h:ArgsLe l l') (Rs:Nat->Reg):Lent l Rs=Lent l' Rs:=by
 have key:∀ (a b:List Arg),(∀ i:Nat,(a[i]?).bind Arg.blk=(b[i]?).bind Arg.blk)->∀ c o,Lent a Rs c o->Lent b Rs c o:=by
  intro a b hab c o ⟨i,arg,blk,h1,h2,h3⟩
  have:(b[i]?).bind Arg.blk=some blk:=by rw [<- hab i,h1]; exact h2
  obtain ⟨arg',q1,q2⟩:=Option.bind_eq_some_iff.1 this
  exact ⟨i,arg',blk,q1,q2,h3⟩
 funext c o
 exact propext ⟨key l l' h.blk c o,key l' l (fun i=>(h.blk i).symm) c o⟩
theorem ArgsLe.refl:∀ (l:List Arg),ArgsLe l l
 | []=>trivial
 | .val x :: xs=>⟨TVLe.refl x,ArgsLe.refl xs⟩
 | .bor _ _ :: xs=>⟨rfl,ArgsLe.refl xs⟩
 | .own _ _ :: xs=>⟨rfl,ArgsLe.refl xs⟩
 | .ref _ :: xs=>⟨rfl,ArgsLe.refl xs⟩
 | .clo _ _ :: xs=>⟨rfl,ArgsLe.refl xs⟩
 | .gh _ :: xs=>⟨rfl,ArgsLe.refl xs⟩
theorem ArgsLe.nv:∀ {l l':List Arg},ArgsLe l l'->nvA l=nvA l'
 | [],[],_=>rfl
 | x :: xs,y :: ys,h=>by
  obtain ⟨h1,h2⟩:=h
  have ih:=ArgsLe.nv h2
  cases x with
  | val x=>
   cases y with
   | val y=>simp [nvA,ih]
   | _=>cases h1
  | gh ts=>cases h1; rfl
  | _=>cases h1; simp [nvA,ih]
 | [],_ :: _,h=>h.elim
 | _ :: _,[],h=>h.elim
theorem ArgsLe.βA {l l':List Arg} (h:ArgsLe l l') (Rs:Nat->Reg):Abs.βA l Rs=Abs.βA l' Rs:=by
 funext i
 unfold Abs.βA
 rw [h.blk i]
def RCLe:RC->RC->Prop
 | .val x,.val y=>TVLe x y
 | a,b=>a=b
def RCsLe:List RC->List RC->Prop
 | [],[]=>True
 | x :: xs,y :: ys=>RCLe x y/\RCsLe xs ys
 | _,_=>False
theorem RCsLe.get:∀ {l l':List RC},RCsLe l l'->l.length=l'.length/\∀ (i:Nat) (t':RC),l'[i]?=some t'->∃ t,l[i]?=some t/\RCLe t t'
 | [],[],_=>⟨rfl,by simp⟩
 | x :: xs,y :: ys,h=>by
  obtain ⟨h1,h2⟩:=h
  obtain ⟨h3,h4⟩:=RCsLe.get h2
  refine ⟨by simp [h3],fun i t' hi=>?_⟩
  cases i with
  | zero=>simp at hi; subst hi; exact ⟨x,rfl,h1⟩
  | succ i=>obtain ⟨t,q1,q2⟩:=h4 i t' (by simpa using hi); exact ⟨t,by simpa using q1,q2⟩
 | [],_ :: _,h=>h.elim
 | _ :: _,[],h=>h.elim
theorem RCsLe.refl:∀ (l:List RC),RCsLe l l
 | []=>trivial
 | .val x :: xs=>⟨TVLe.refl x,RCsLe.refl xs⟩
 | .own _ _ :: xs=>⟨rfl,RCsLe.refl xs⟩
def ResLe (r r':Res):Prop:=RCsLe r.vals r'.vals/\r.out=r'.out
theorem ResLe.refl (r:Res):ResLe r r:=⟨RCsLe.refl _,rfl⟩
theorem RCLe.own {x:RC} {sz:Nat} {rows:Rows} (h:RCLe x (.own sz rows)):x=.own sz rows:=by
 cases x with
 | val=>cases h
 | own=>exact h
theorem CallPost.weak {args:List Arg} {res res':Res} {S:Place} {w w':World} {Rs:Nat->Reg} {v:Value} (hr:ResLe res res') (hq:CallPost args res S w Rs v w'):CallPost args res' S w Rs v w':=by
 obtain ⟨S',Rr,vs,q1,q2,q3,q4,q5,q6,q7,q8,q9⟩:=hq.p
 obtain ⟨rl,rg⟩:=hr.1.get
 have hown:∀ (k sz:Nat) (rows:Rows),res'.vals[k]?=some (.own sz rows)->res.vals[k]?=some (.own sz rows):=by
  intro k sz rows hk
  obtain ⟨t,e1,e2⟩:=rg k _ hk
  rw [e1,e2.own]
 refine ⟨S',Rr,vs,by rw [q1,rl],q2,q3,q4,q5,fun k r hk=>?_,fun k sz rows hk=>q7 k sz rows (hown _ _ _ hk),fun k l sz sz' rows rows' hne hk hl=>q8 k l sz sz' rows rows' hne (hown _ _ _ hk) (hown _ _ _ hl),fun i blk hi=>?_⟩
 ·obtain ⟨t,e1,e2⟩:=rg k r hk
  obtain ⟨u,e3,e4⟩:=q6 k t e1
  refine ⟨u,e3,?_⟩
  cases r with
  | own sz rows=>rw [e2.own] at e4; exact e4
  | val y=>
   cases t with
   | own=>cases e2
   | val x=>exact TVLe.rep e2 e4
 ·obtain ⟨arg,b0,e1,e2,e3,e4,e5,e6⟩:=q9 i blk (by rw [hr.2]; exact hi)
  exact ⟨arg,b0,e1,e2,e3,e4,e5,fun k sz rows hk=>e6 k sz rows (hown _ _ _ hk)⟩
theorem ACall.weak {P:Program} {f:FuncId} {args args':List Arg} {res res':Res} (ha:ArgsLe args args') (hr:ResLe res res') (h:ACall P f args' res):ACall P f args res':=by
 refine ⟨h.1,fun S w vals Rs hp=>?_⟩
 obtain ⟨al,ag⟩:=ha.get
 have hex:∀ (i:Nat) (arg:Arg) (blk:Blk),args'[i]?=some arg->arg.blk=some blk->∃ arg0,args[i]?=some arg0/\arg0.blk=some blk:=by
  intro i arg blk h1 h2
  obtain ⟨t,e1,e2⟩:=ag i arg h1
  exact ⟨t,e1,by rw [e2.blk]; exact h2⟩
 have hp':CallPre args' S w vals Rs:=by
  refine ⟨by rw [hp.len,al],fun i arg hi=>?_,hp.sex,fun i arg blk h1 h2=>?_,fun i j x y b b' hne h1 h2 h3 h4=>?_,fun i f caps v hi hv=>?_⟩
  ·obtain ⟨t,e1,e2⟩:=ag i arg hi
   obtain ⟨v,e3,e4⟩:=hp.ok i t e1
   refine ⟨v,e3,?_⟩
   cases t with
   | val x=>
    cases arg with
    | val y=>exact TVLe.rep e2 e4
    | _=>cases e2
   | _=>cases e2; exact e4
  ·obtain ⟨a0,e1,e2⟩:=hex i arg blk h1 h2
   exact hp.ext i a0 blk e1 e2
  ·obtain ⟨a0,e1,e2⟩:=hex i x b h1 h3
   obtain ⟨a1,e3,e4⟩:=hex j y b' h2 h4
   exact hp.dis i j a0 a1 b b' hne e1 e3 e2 e4
  ·obtain ⟨t,e1,e2⟩:=ag i _ hi
   rw [<- ha.βA Rs]
   cases t with
   | clo f' caps'=>cases e2; exact hp.clo i _ _ v e1 hv
   | _=>cases e2
 rw [ha.nv]
 refine (h.2 S w vals Rs hp').mono ?_
 rintro e w' ⟨v,rfl,hq⟩
 refine ⟨v,rfl,?_⟩
 have hq':CallPost args res S w Rs v w':=by
  obtain ⟨S',Rr,vs,q1,q2,q3,q4,q5,q6,q7,q8,q9⟩:=hq.p
  rw [<- ha.lent Rs] at q3 q5 q7
  refine ⟨S',Rr,vs,q1,q2,q3,q4,q5,q6,q7,q8,fun i blk hi=>?_⟩
  obtain ⟨arg,b0,e1,e2,e3⟩:=q9 i blk hi
  obtain ⟨a0,e7,e8⟩:=hex i arg b0 e1 e2
  exact ⟨a0,b0,e7,e8,e3⟩
 exact hq'.weak hr
theorem ACall.of_body' {P:Program} {C:Cfg} (hC:CfgOk P C) {f:FuncId} {fn:Func} {c:Code} {args:List Arg} {res:Res} {om:List Mode} (hfn:P.funcs[f]?=some fn) (hname:(fn.name == "runtime.NumGoroutine")=false) (hbody:fn.body=some c)
  (hrun:ARun P args.length c (startSt args fn.ntmps) fun e s=>(e=.normal ∨ e=.ret)/\∃ r,ResLe r res/\finish C s args fn.results.toList om=some r):ACall P f args res:=by
 refine ⟨⟨fn,hfn,by rw [hbody]; rfl,hname⟩,fun S w vals Rs hp=>(calls_of_body hC (R:=fun r=>ResLe r res) (om:=om) hfn hbody hrun S w vals Rs hp).mono ?_⟩
 rintro e w' ⟨v,r,h1,h2,h3⟩
 exact ⟨v,h1,h3.weak h2⟩
def W (k:IntKind) (l:List Int):Rows:=l.map fun x=>[.v (.int k x)]
structure Std (P:Program) (n0:Nat) (zA:IntKind->Int->Int) (zB:Int->Int->Int) (zC:Int->Int->Int) (zD:Int->Int->Int) (zE:Int->Int->Int) (zF:Int->Int->Int) (zG:IntKind->Int->Int->Int) (zH:IntKind->Int->Int->Int) (zI:IntKind->Int->Int->Int) (zJ:IntKind->Int->Int->Int) (zK:IntKind->Int->Int->Int) (zL:IntKind->Int->Int->Int) (zM:Int->Int->Bool) (zN:Int->Int->Bool) (zO:Int->Int->Bool) (zP:Int->Int->Bool) (zQ:Bool->Bool) (zR:Bool->Bool->Bool) (zT:Bool->Bool->Bool) (zU:Int->Int->Int) (zV:Int->Int->Int) (zX:Int->Nat) (zY:Int->Nat->Bool) (zZ:Nat->Int) (zb:Nat->Int->Nat) (zc:Nat->Nat->Bool) (zd:Nat->Nat->Nat) (ze:Int->Int->Nat) (zg:Int->Int->Nat->Bool) (zh:Nat->Nat->Nat->Bool) (zi:Int->Int->Nat->Bool) (zj:Rows->Nat) (zk:Rows->Nat->Option (List Tree)) (zl:Rows->Nat->List Tree->Rows) (zm:IntKind->Rows->Nat->Bool) (zn:Rows->Nat->Int) (zo:IntKind->Rows->Nat->Int->Rows) (zq:Nat->Nat->Rows->Bool) (zr:Rows->Nat->Nat->Rows) (zs:Rows->Nat->Rows->Rows) (zt:Rows->Nat->Rows->Rows) (zu:Nat->List Tree->Rows) (zx:Nat->Rows->Bool) (zy:List Bool->Bool) (zz:List (Value × Tree)->Value->Bool) (zmget:List (Value × Tree)->Value->Bool) (zmset:List (Value × Tree)->Value->Tree->List (Value × Tree)) (zW:IntKind->List Int->Rows) (zth:(α:Type)->(Unit->α)->α) (A:FuncId->Ask->Ans->Prop) (L:Code->St->(AExit->ST->Prop)->Prop):Prop where
 wrap:∀ (a:IntKind) (b:Int),zA a b=a.wrap b
 add:∀ (a:Int) (b:Int),zB a b=a+b
 sub:∀ (a:Int) (b:Int),zC a b=a - b
 mul:∀ (a:Int) (b:Int),zD a b=a*b
 quo:∀ (a:Int) (b:Int),zE a b=a.tdiv b
 rem:∀ (a:Int) (b:Int),zF a b=a.tmod b
 shl:∀ (a:IntKind) (b:Int) (c:Int),zG a b c=a.wrap (b*2 ^ (Min.min c.toNat a.bits))
 shr:∀ (a:IntKind) (b:Int) (c:Int),zH a b c=b.fdiv (2 ^ (Min.min c.toNat a.bits))
 band:∀ (a:IntKind) (b:Int) (c:Int),zI a b c=a.wrap ((BitVec.ofInt a.bits b &&& BitVec.ofInt a.bits c).toNat)
 bor:∀ (a:IntKind) (b:Int) (c:Int),zJ a b c=a.wrap ((BitVec.ofInt a.bits b ||| BitVec.ofInt a.bits c).toNat)
 bxor:∀ (a:IntKind) (b:Int) (c:Int),zK a b c=a.wrap ((BitVec.ofInt a.bits b ^^^ BitVec.ofInt a.bits c).toNat)
 bandn:∀ (a:IntKind) (b:Int) (c:Int),zL a b c=a.wrap ((BitVec.ofInt a.bits b &&& ~~~ BitVec.ofInt a.bits c).toNat)
 eq:∀ (a:Int) (b:Int),zM a b=decide (a=b)
 ne:∀ (a:Int) (b:Int),zN a b=decide (a ≠ b)
 lt:∀ (a:Int) (b:Int),zO a b=decide (a < b)
 le:∀ (a:Int) (b:Int),zP a b=decide (a<=b)
 not:∀ (a:Bool),zQ a=!a
 beq:∀ (a:Bool) (b:Bool),zR a b=(a == b)
 bne:∀ (a:Bool) (b:Bool),zT a b=!(a == b)
 max:∀ (a:Int) (b:Int),zU a b=if b > a then b else a
 min:∀ (a:Int) (b:Int),zV a b=if b < a then b else a
 nat:∀ (a:Int),zX a=a.toNat
 inb:∀ (a:Int) (b:Nat),zY a b=decide (0<=a/\a < b)
 ofN:∀ (a:Nat),zZ a=(a:Int)
 idx:∀ (a:Nat) (b:Int),zb a b=a+b.toNat
 neq:∀ (a:Nat) (b:Nat),zc a b=decide (a=b)
 nadd:∀ (a:Nat) (b:Nat),zd a b=a+b
 dif:∀ (a:Int) (b:Int),ze a b=a.toNat - b.toNat
 cut:∀ (a:Int) (b:Int) (c:Nat),zg a b c=decide (0<=a/\a<=b/\b<=c)
 room:∀ (a:Nat) (b:Nat) (c:Nat),zh a b c=decide ((a+b)*c<=capBytes)
 mkok:∀ (a:Int) (b:Int) (c:Nat),zi a b c=decide (0<=a/\a<=b/\b*c<=capBytes)
 len:∀ (a:Rows),zj a=a.length
 nth:∀ (a:Rows) (b:Nat),zk a b=a[b]?
 setr:∀ (a:Rows) (b:Nat) (c:List Tree),zl a b c=a.set b c
 isI:∀ (a:IntKind) (b:Rows) (c:Nat),zm a b c=ZI.std.isI a b c
 getI:∀ (a:Rows) (b:Nat),zn a b=ZI.std.getI a b
 setI:∀ (a:IntKind) (b:Rows) (c:Nat) (d:Int),zo a b c d=b.set c [.v (.int a d)]
 fit:∀ (a:Nat) (b:Nat) (c:Rows),zq a b c=decide (a+b<=c.length)
 part:∀ (a:Rows) (b:Nat) (c:Nat),zr a b c=(a.drop b).take c
 ext:∀ (a:Rows) (b:Nat) (c:Rows),zs a b c=a.drop b ++ c
 setg:∀ (a:Rows) (b:Nat) (c:Rows),zt a b c=setRange a b c
 rep:∀ (a:Nat) (b:List Tree),zu a b=List.replicate a b
 wide:∀ (a:Nat) (b:Rows),zx a b=b.all fun r=>r.length == a
 all:∀ (a:List Bool),zy a=a.all id
 mok:∀ (a:List (Value × Tree)) (b:Value),zz a b=ZI.std.mok a b
 mget:∀ (a:List (Value × Tree)) (b:Value),zmget a b=ZI.std.mget a b
 mset:∀ (a:List (Value × Tree)) (b:Value) (c:Tree),zmset a b c=(setEnt b c a).getD a
 W:zW=W
 th:∀ (α:Type) (f:Unit->α),zth α f=f ()
 a:A=Shows P
 l:L=LoopT P n0
section
variable {P:Program} {C:Cfg} {n0:Nat} {zA:IntKind->Int->Int} {zB:Int->Int->Int} {zC:Int->Int->Int} {zD:Int->Int->Int} {zE:Int->Int->Int} {zF:Int->Int->Int} {zG:IntKind->Int->Int->Int} {zH:IntKind->Int->Int->Int} {zI:IntKind->Int->Int->Int} {zJ:IntKind->Int->Int->Int} {zK:IntKind->Int->Int->Int} {zL:IntKind->Int->Int->Int} {zM:Int->Int->Bool} {zN:Int->Int->Bool} {zO:Int->Int->Bool} {zP:Int->Int->Bool} {zQ:Bool->Bool} {zR:Bool->Bool->Bool} {zT:Bool->Bool->Bool} {zU:Int->Int->Int} {zV:Int->Int->Int} {zX:Int->Nat} {zY:Int->Nat->Bool} {zZ:Nat->Int} {zb:Nat->Int->Nat} {zc:Nat->Nat->Bool} {zd:Nat->Nat->Nat} {ze:Int->Int->Nat} {zg:Int->Int->Nat->Bool} {zh:Nat->Nat->Nat->Bool} {zi:Int->Int->Nat->Bool} {zj:Rows->Nat} {zk:Rows->Nat->Option (List Tree)} {zl:Rows->Nat->List Tree->Rows} {zm:IntKind->Rows->Nat->Bool} {zn:Rows->Nat->Int} {zo:IntKind->Rows->Nat->Int->Rows} {zq:Nat->Nat->Rows->Bool} {zr:Rows->Nat->Nat->Rows} {zs:Rows->Nat->Rows->Rows} {zt:Rows->Nat->Rows->Rows} {zu:Nat->List Tree->Rows} {zx:Nat->Rows->Bool} {zy:List Bool->Bool} {zz:List (Value × Tree)->Value->Bool} {zmget:List (Value × Tree)->Value->Bool} {zmset:List (Value × Tree)->Value->Tree->List (Value × Tree)} {zW:IntKind->List Int->Rows} {zth:(α:Type)->(Unit->α)->α} {A:FuncId->Ask->Ans->Prop} {L:Code->St->(AExit->ST->Prop)->Prop}
theorem Std.z (h:Std P n0 zA zB zC zD zE zF zG zH zI zJ zK zL zM zN zO zP zQ zR zT zU zV zX zY zZ zb zc zd ze zg zh zi zj zk zl zm zn zo zq zr zs zt zu zx zy zz zmget zmset zW zth A L):ZI.mk zA zB zC zD zE zF zG zH zI zJ zK zL zM zN zO zP zQ zR zT zU zV zX zY zZ zb zc zd ze zg zh zi zj zk zl zm zn zo zq zr zs zt zu zx zy zz zmget zmset=ZI.std:=by
 obtain rfl:zA=(fun (a:IntKind) (b:Int)=>a.wrap b):=by funext a b; exact h.wrap ..
 obtain rfl:zB=(fun (a:Int) (b:Int)=>a+b):=by funext a b; exact h.add ..
 obtain rfl:zC=(fun (a:Int) (b:Int)=>a - b):=by funext a b; exact h.sub ..
 obtain rfl:zD=(fun (a:Int) (b:Int)=>a*b):=by funext a b; exact h.mul ..
 obtain rfl:zE=(fun (a:Int) (b:Int)=>a.tdiv b):=by funext a b; exact h.quo ..
 obtain rfl:zF=(fun (a:Int) (b:Int)=>a.tmod b):=by funext a b; exact h.rem ..
 obtain rfl:zG=(fun (a:IntKind) (b:Int) (c:Int)=>a.wrap (b*2 ^ (Min.min c.toNat a.bits))):=by funext a b c; exact h.shl ..
 obtain rfl:zH=(fun (a:IntKind) (b:Int) (c:Int)=>b.fdiv (2 ^ (Min.min c.toNat a.bits))):=by funext a b c; exact h.shr ..
 obtain rfl:zI=(fun (a:IntKind) (b:Int) (c:Int)=>a.wrap ((BitVec.ofInt a.bits b &&& BitVec.ofInt a.bits c).toNat)):=by funext a b c; exact h.band ..
 obtain rfl:zJ=(fun (a:IntKind) (b:Int) (c:Int)=>a.wrap ((BitVec.ofInt a.bits b ||| BitVec.ofInt a.bits c).toNat)):=by funext a b c; exact h.bor ..
 obtain rfl:zK=(fun (a:IntKind) (b:Int) (c:Int)=>a.wrap ((BitVec.ofInt a.bits b ^^^ BitVec.ofInt a.bits c).toNat)):=by funext a b c; exact h.bxor ..
 obtain rfl:zL=(fun (a:IntKind) (b:Int) (c:Int)=>a.wrap ((BitVec.ofInt a.bits b &&& ~~~ BitVec.ofInt a.bits c).toNat)):=by funext a b c; exact h.bandn ..
 obtain rfl:zM=(fun (a:Int) (b:Int)=>decide (a=b)):=by funext a b; exact h.eq ..
 obtain rfl:zN=(fun (a:Int) (b:Int)=>decide (a ≠ b)):=by funext a b; exact h.ne ..
 obtain rfl:zO=(fun (a:Int) (b:Int)=>decide (a < b)):=by funext a b; exact h.lt ..
 obtain rfl:zP=(fun (a:Int) (b:Int)=>decide (a<=b)):=by funext a b; exact h.le ..
 obtain rfl:zQ=(fun (a:Bool)=>!a):=by funext a; exact h.not ..
 obtain rfl:zR=(fun (a:Bool) (b:Bool)=>(a == b)):=by funext a b; exact h.beq ..
 obtain rfl:zT=(fun (a:Bool) (b:Bool)=>!(a == b)):=by funext a b; exact h.bne ..
 obtain rfl:zU=(fun (a:Int) (b:Int)=>if b > a then b else a):=by funext a b; exact h.max ..
 obtain rfl:zV=(fun (a:Int) (b:Int)=>if b < a then b else a):=by funext a b; exact h.min ..
 obtain rfl:zX=(fun (a:Int)=>a.toNat):=by funext a; exact h.nat ..
 obtain rfl:zY=(fun (a:Int) (b:Nat)=>decide (0<=a/\a < b)):=by funext a b; exact h.inb ..
 obtain rfl:zZ=(fun (a:Nat)=>(a:Int)):=by funext a; exact h.ofN ..
 obtain rfl:zb=(fun (a:Nat) (b:Int)=>a+b.toNat):=by funext a b; exact h.idx ..
 obtain rfl:zc=(fun (a:Nat) (b:Nat)=>decide (a=b)):=by funext a b; exact h.neq ..
 obtain rfl:zd=(fun (a:Nat) (b:Nat)=>a+b):=by funext a b; exact h.nadd ..
 obtain rfl:ze=(fun (a:Int) (b:Int)=>a.toNat - b.toNat):=by funext a b; exact h.dif ..
 obtain rfl:zg=(fun (a:Int) (b:Int) (c:Nat)=>decide (0<=a/\a<=b/\b<=c)):=by funext a b c; exact h.cut ..
 obtain rfl:zh=(fun (a:Nat) (b:Nat) (c:Nat)=>decide ((a+b)*c<=capBytes)):=by funext a b c; exact h.room ..
 obtain rfl:zi=(fun (a:Int) (b:Int) (c:Nat)=>decide (0<=a/\a<=b/\b*c<=capBytes)):=by funext a b c; exact h.mkok ..
 obtain rfl:zj=(fun (a:Rows)=>a.length):=by funext a; exact h.len ..
 obtain rfl:zk=(fun (a:Rows) (b:Nat)=>a[b]?):=by funext a b; exact h.nth ..
 obtain rfl:zl=(fun (a:Rows) (b:Nat) (c:List Tree)=>a.set b c):=by funext a b c; exact h.setr ..
 obtain rfl:zm=(fun (a:IntKind) (b:Rows) (c:Nat)=>ZI.std.isI a b c):=by funext a b c; exact h.isI ..
 obtain rfl:zn=(fun (a:Rows) (b:Nat)=>ZI.std.getI a b):=by funext a b; exact h.getI ..
 obtain rfl:zo=(fun (a:IntKind) (b:Rows) (c:Nat) (d:Int)=>b.set c [.v (.int a d)]):=by funext a b c d; exact h.setI ..
 obtain rfl:zq=(fun (a:Nat) (b:Nat) (c:Rows)=>decide (a+b<=c.length)):=by funext a b c; exact h.fit ..
 obtain rfl:zr=(fun (a:Rows) (b:Nat) (c:Nat)=>(a.drop b).take c):=by funext a b c; exact h.part ..
 obtain rfl:zs=(fun (a:Rows) (b:Nat) (c:Rows)=>a.drop b ++ c):=by funext a b c; exact h.ext ..
 obtain rfl:zt=(fun (a:Rows) (b:Nat) (c:Rows)=>setRange a b c):=by funext a b c; exact h.setg ..
 obtain rfl:zu=(fun (a:Nat) (b:List Tree)=>List.replicate a b):=by funext a b; exact h.rep ..
 obtain rfl:zx=(fun (a:Nat) (b:Rows)=>b.all fun r=>r.length == a):=by funext a b; exact h.wide ..
 obtain rfl:zy=(fun (a:List Bool)=>a.all id):=by funext a; exact h.all ..
 obtain rfl:zz=(fun (a:List (Value × Tree)) (b:Value)=>ZI.std.mok a b):=by funext a b; exact h.mok ..
 obtain rfl:zmget=(fun (a:List (Value × Tree)) (b:Value)=>ZI.std.mget a b):=by funext a b; exact h.mget ..
 obtain rfl:zmset=(fun (a:List (Value × Tree)) (b:Value) (c:Tree)=>(setEnt b c a).getD a):=by funext a b c; exact h.mset ..
 rfl
theorem Std.call (h:Std P n0 zA zB zC zD zE zF zG zH zI zJ zK zL zM zN zO zP zQ zR zT zU zV zX zY zZ zb zc zd ze zg zh zi zj zk zl zm zn zo zq zr zs zt zu zx zy zz zmget zmset zW zth A L) {f:FuncId} {args:List Arg} {res:Res} (hc:ACall P f args res):A f (.a args) (.a res):=by rw [h.a]; exact hc
def argAVsZ (Z:ZI):Nat->List Arg->List AV
 | _,[]=>[]
 | i,.val x :: as=>x.av :: argAVsZ Z (i+1) as
 | i,.bor _ rows :: as=>.c (.sl i 0 (Z.len rows) false) :: argAVsZ Z (i+1) as
 | i,.own _ rows :: as=>.c (.sl i 0 (Z.len rows) false) :: argAVsZ Z (i+1) as
 | i,.ref _ :: as=>.c (.ptr i 0 0) :: argAVsZ Z (i+1) as
 | i,.clo f caps :: as=>.c (.clo f caps) :: argAVsZ Z (i+1) as
 | _,.gh _ :: _=>[]
def startStZ (Z:ZI) (args:List Arg) (ntmps:Nat):St:=⟨argAVsZ Z 0 args ++ List.replicate (ntmps - nvA args) .junk,args.map Arg.blk⟩
theorem argAVsZ_std:∀ (i:Nat) (l:List Arg),argAVsZ ZI.std i l=argAVs i l
 | _,[]=>rfl
 | i,.val x :: as=>by simp only [argAVsZ,argAVs,argAVsZ_std (i+1) as]
 | i,.bor _ rows :: as=>by simp only [argAVsZ,argAVs,argAVsZ_std (i+1) as]; rfl
 | i,.own _ rows :: as=>by simp only [argAVsZ,argAVs,argAVsZ_std (i+1) as]; rfl
 | i,.ref _ :: as=>by simp only [argAVsZ,argAVs,argAVsZ_std (i+1) as]
 | i,.clo _ _ :: as=>by simp only [argAVsZ,argAVs,argAVsZ_std (i+1) as]
 | _,.gh _ :: _=>rfl
theorem startStZ_std (l:List Arg) (n:Nat):startStZ ZI.std l n=startSt l n:=by unfold startStZ startSt; rw [argAVsZ_std]
def outOfZ (Z:ZI) (h:Hp) (i:Nat):Arg->OZ (Option Blk)
 | .bor sz rows=>match h i with
  | some (.rows sz' r false false)=>if sz'=sz then some ([Z.neq (Z.len r) (Z.len rows)],some (.rows sz r false false)) else none
  | _=>none
 | .ref cells=>match h i with
  | some (.var cs)=>match toTrees h cs with
   | some (_,[])=>if cs.length=cells.length then some ([],some (.var cs)) else none
   | _=>none
  | _=>none
 | .gh cells=>match h i with
  | some (.var cs)=>match toTrees h cs with
   | some (_,[])=>if cs.length=cells.length then some ([],some (.var cs)) else none
   | _=>none
  | _=>none
 | _=>some ([],none)
def outsOfZ (Z:ZI) (h:Hp):Nat->List Arg->OZ (List (Option Blk))
 | _,[]=>some ([],[])
 | i,a :: as=>match outOfZ Z h i a,outsOfZ Z h (i+1) as with
  | some (o,x),some (os,xs)=>some (o ++ os,x :: xs)
  | _,_=>none
def resAVT (C:Cfg) (st:ST):ResultVar->Option AV
 | .tmp t=>some (st.get (.tmp t))
 | .cell a t=>match C.ty t,st.get (.tmp a) with
  | some ti,.c (.ptr b 0 c)=>match look st.heap b with
   | some (.var cells)=>getCells ti cells c
   | _=>none
  | _,_=>none
theorem resAVT_std {C:Cfg} {st:ST} (h:st.ok) (r:ResultVar):resAVT C st r=resAV C st.toSt r:=by
 cases r with
 | tmp t=>simp only [resAVT,resAV,<- ST.get_eq st h]; rfl
 | cell a t=>simp only [resAVT,resAV,<- ST.get_eq st h,ST.toSt_heap]; rfl
def FinZ (Z:ZI) (C:Cfg) (st:ST) (args:List Arg) (rvs:List ResultVar) (om:List Mode) (F:Res->Prop):Prop:=
 match rvs.mapM (resAVT C st) with
 | none=>False
 | some avs=>
  match prepArgsZ Z (look st.heap) om avs with
  | none=>False
  | some (ob,as,marks,bks)=>
   match bks.filterMap Back.id with
   | is=>
   if decide is.Nodup && is.all (fun i=>!(ids marks).contains i) && is.all (fun i=>match args[i]? with | some a=>!a.lent | none=>true) then
    match as.mapM Arg.rc,outsOfZ Z (look (wrs st.heap marks)) 0 args with
    | some rcs,some (ob',outs)=>needs (ob ++ ob') (F ⟨rcs,outs⟩)
    | _,_=>False
   else False
theorem outOfZ_std {h:Hp} {i:Nat} {x:Arg} {o:List Bool} {b:Option Blk} (e:outOfZ ZI.std h i x=some (o,b)) (ho:allT o):outOf h i x=some b:=by
 unfold outOfZ at e
 unfold outOf
 split at e
 ·split at e
  ·rename_i hb
   split at e
   ·rename_i hsz
    cases e
    have:=allT1 ho
    simp only [ZI.std,decide_eq_true_eq] at this
    simp only [hb]
    rw [if_pos ⟨hsz,this⟩]
   ·cases e
  ·cases e
 ·split at e
  ·rename_i hb
   simp only [hb]
   split at e
   ·rename_i ht
    split at e
    ·rename_i hsz
     cases e
     simp only [ht]
     rw [if_pos hsz]
    ·cases e
   ·cases e
  ·cases e
 ·split at e
  ·rename_i hb
   simp only [hb]
   split at e
   ·rename_i ht
    split at e
    ·rename_i hsz
     cases e
     simp only [ht]
     rw [if_pos hsz]
    ·cases e
   ·cases e
  ·cases e
 ·rename_i n1 n2 n3
  cases e
  split
  ·rename_i sz rows; exact absurd rfl (n1 _ _)
  ·rename_i cells; exact absurd rfl (n2 _)
  ·rename_i cells; exact absurd rfl (n3 _)
  ·rfl
theorem outsOfZ_std {h:Hp}:∀ {i:Nat} {l:List Arg} {o:List Bool} {b:List (Option Blk)},outsOfZ ZI.std h i l=some (o,b)->allT o->outsOf h i l=some b
 | i,[],o,b,e,ho=>by cases e; rfl
 | i,a :: as,o,b,e,ho=>by
  unfold outsOfZ at e
  split at e
  ·rename_i h1 h2
   cases e
   obtain ⟨p,q⟩:=qbh ho
   simp only [outsOf,outOfZ_std h1 p,outsOfZ_std h2 q]
  ·cases e
theorem finZ_std {st:ST} (hst:st.ok) {args:List Arg} {rvs:List ResultVar} {om:List Mode} {F:Res->Prop} (h:FinZ ZI.std C st args rvs om F):∃ r,F r/\finish C st.toSt args rvs om=some r:=by
 unfold FinZ at h
 unfold finish
 unfold finishA
 rw [show resAVT C st=resAV C st.toSt from funext fun r=>resAVT_std hst r] at h
 rw [ST.toSt_heap]
 split at h
 ·exact h.elim
 ·rename_i avs havs
  split at h
  ·exact h.elim
  ·rename_i ob as marks bks hp
   simp only at h
   split at h
   ·rename_i hc
    split at h
    ·rename_i rcs ob' outs h1 h2
     obtain ⟨h3,h4⟩:=qbl h
     obtain ⟨a,b⟩:=qbh h3
     refine ⟨_,h4,?_⟩
     simp only [havs,qbv hp a]
     refine (if_pos hc).trans ?_
     simp only [h1,outsOfZ_std h2 b]
    ·exact h.elim
   ·exact h.elim
theorem loopZ (hC:CfgOk P C) (hmix:P.follows .mixedOrders=true) (hS:Std P n0 zA zB zC zD zE zF zG zH zI zJ zK zL zM zN zO zP zQ zR zT zU zV zX zY zZ zb zc zd ze zg zh zi zj zk zl zm zn zo zq zr zs zt zu zx zy zz zmget zmset zW zth A L) {c:Code} {st:St} {Q:AExit->ST->Prop} (I:Nat->St->Prop) {n:Nat} {s0:St} (hl:st.Le s0) (hb:s0.refsLt=true) (hk:n0<=s0.heap.length) (h0:I n s0)
  (round:∀ n s,I n s->CodeKZ (ZI.mk zA zB zC zD zE zF zG zH zI zJ zK zL zM zN zO zP zQ zR zT zU zV zX zY zZ zb zc zd ze zg zh zi zj zk zl zm zn zo zq zr zs zt zu zx zy zz zmget zmset) C A L c (ST.ofSt s) fun e s=>match e with
   | .normal=>match s.toSt with
    | ⟨t,h⟩=>∃ s',(St.mk t h).Le s'/\s'.refsLt=true/\n0<=s'.heap.length/\∃ m,m < n/\I m s'
   | .exit id=>Q (.exit id) s
   | .ret=>Q .ret s):L c st Q:=by
 rw [hS.z,hS.a,hS.l] at round
 rw [hS.l]
 refine fun hT=>LoopP.intro hC hmix I hl hb hk h0 fun n s hI=>?_
 have:=codeKZ_std c _ (ST.ofSt_ok s) hT (round n s hI)
 rw [ST.toSt_ofSt] at this
 refine qbq c s this fun e s1 h1=>?_
 obtain ⟨s',ho,rfl,h2⟩:=h1
 cases e with
 | normal=>exact h2
 | exit id=>exact ⟨s',ho,rfl,h2⟩
 | ret=>exact ⟨s',ho,rfl,h2⟩
theorem callZ (hC:CfgOk P C) (hmix:P.follows .mixedOrders=true) {f:FuncId} {fn:Func} {c:Code} {args:List Arg} {res:Res} (om:List Mode) (hfn:P.funcs[f]?=some fn) (hname:(fn.name == "runtime.NumGoroutine")=false) (hbody:fn.body=some c) (hT:codeT c=true)
  (h:∀ (zA:IntKind->Int->Int) (zB:Int->Int->Int) (zC:Int->Int->Int) (zD:Int->Int->Int) (zE:Int->Int->Int) (zF:Int->Int->Int) (zG:IntKind->Int->Int->Int) (zH:IntKind->Int->Int->Int) (zI:IntKind->Int->Int->Int) (zJ:IntKind->Int->Int->Int) (zK:IntKind->Int->Int->Int) (zL:IntKind->Int->Int->Int) (zM:Int->Int->Bool) (zN:Int->Int->Bool) (zO:Int->Int->Bool) (zP:Int->Int->Bool) (zQ:Bool->Bool) (zR:Bool->Bool->Bool) (zT:Bool->Bool->Bool) (zU:Int->Int->Int) (zV:Int->Int->Int) (zX:Int->Nat) (zY:Int->Nat->Bool) (zZ:Nat->Int) (zb:Nat->Int->Nat) (zc:Nat->Nat->Bool) (zd:Nat->Nat->Nat) (ze:Int->Int->Nat) (zg:Int->Int->Nat->Bool) (zh:Nat->Nat->Nat->Bool) (zi:Int->Int->Nat->Bool) (zj:Rows->Nat) (zk:Rows->Nat->Option (List Tree)) (zl:Rows->Nat->List Tree->Rows) (zm:IntKind->Rows->Nat->Bool) (zn:Rows->Nat->Int) (zo:IntKind->Rows->Nat->Int->Rows) (zq:Nat->Nat->Rows->Bool) (zr:Rows->Nat->Nat->Rows) (zs:Rows->Nat->Rows->Rows) (zt:Rows->Nat->Rows->Rows) (zu:Nat->List Tree->Rows) (zx:Nat->Rows->Bool) (zy:List Bool->Bool) (zz:List (Value × Tree)->Value->Bool) (zmget:List (Value × Tree)->Value->Bool) (zmset:List (Value × Tree)->Value->Tree->List (Value × Tree)) (zW:IntKind->List Int->Rows) (zth:(α:Type)->(Unit->α)->α) A L (F:Res->Prop),Std P args.length zA zB zC zD zE zF zG zH zI zJ zK zL zM zN zO zP zQ zR zT zU zV zX zY zZ zb zc zd ze zg zh zi zj zk zl zm zn zo zq zr zs zt zu zx zy zz zmget zmset zW zth A L->(∀ r,ResLe r res->F r)->CodeKZ (ZI.mk zA zB zC zD zE zF zG zH zI zJ zK zL zM zN zO zP zQ zR zT zU zV zX zY zZ zb zc zd ze zg zh zi zj zk zl zm zn zo zq zr zs zt zu zx zy zz zmget zmset) C A L c (ST.ofSt (startStZ (ZI.mk zA zB zC zD zE zF zG zH zI zJ zK zL zM zN zO zP zQ zR zT zU zV zX zY zZ zb zc zd ze zg zh zi zj zk zl zm zn zo zq zr zs zt zu zx zy zz zmget zmset) args fn.ntmps)) fun e s=>match e with
   | .exit _=>False
   | .normal=>FinZ (ZI.mk zA zB zC zD zE zF zG zH zI zJ zK zL zM zN zO zP zQ zR zT zU zV zX zY zZ zb zc zd ze zg zh zi zj zk zl zm zn zo zq zr zs zt zu zx zy zz zmget zmset) C s args fn.results.toList om F
   | .ret=>FinZ (ZI.mk zA zB zC zD zE zF zG zH zI zJ zK zL zM zN zO zP zQ zR zT zU zV zX zY zZ zb zc zd ze zg zh zi zj zk zl zm zn zo zq zr zs zt zu zx zy zz zmget zmset) C s args fn.results.toList om F):ACall P f args res:=by
 have key:=h (fun (a:IntKind) (b:Int)=>a.wrap b) (fun (a:Int) (b:Int)=>a+b) (fun (a:Int) (b:Int)=>a - b) (fun (a:Int) (b:Int)=>a*b) (fun (a:Int) (b:Int)=>a.tdiv b) (fun (a:Int) (b:Int)=>a.tmod b) (fun (a:IntKind) (b:Int) (c:Int)=>a.wrap (b*2 ^ (Min.min c.toNat a.bits))) (fun (a:IntKind) (b:Int) (c:Int)=>b.fdiv (2 ^ (Min.min c.toNat a.bits))) (fun (a:IntKind) (b:Int) (c:Int)=>a.wrap ((BitVec.ofInt a.bits b &&& BitVec.ofInt a.bits c).toNat)) (fun (a:IntKind) (b:Int) (c:Int)=>a.wrap ((BitVec.ofInt a.bits b ||| BitVec.ofInt a.bits c).toNat)) (fun (a:IntKind) (b:Int) (c:Int)=>a.wrap ((BitVec.ofInt a.bits b ^^^ BitVec.ofInt a.bits c).toNat)) (fun (a:IntKind) (b:Int) (c:Int)=>a.wrap ((BitVec.ofInt a.bits b &&& ~~~ BitVec.ofInt a.bits c).toNat)) (fun (a:Int) (b:Int)=>decide (a=b)) (fun (a:Int) (b:Int)=>decide (a ≠ b)) (fun (a:Int) (b:Int)=>decide (a < b)) (fun (a:Int) (b:Int)=>decide (a<=b)) (fun (a:Bool)=>!a) (fun (a:Bool) (b:Bool)=>(a == b)) (fun (a:Bool) (b:Bool)=>!(a == b)) (fun (a:Int) (b:Int)=>if b > a then b else a) (fun (a:Int) (b:Int)=>if b < a then b else a) (fun (a:Int)=>a.toNat) (fun (a:Int) (b:Nat)=>decide (0<=a/\a < b)) (fun (a:Nat)=>(a:Int)) (fun (a:Nat) (b:Int)=>a+b.toNat) (fun (a:Nat) (b:Nat)=>decide (a=b)) (fun (a:Nat) (b:Nat)=>a+b) (fun (a:Int) (b:Int)=>a.toNat - b.toNat) (fun (a:Int) (b:Int) (c:Nat)=>decide (0<=a/\a<=b/\b<=c)) (fun (a:Nat) (b:Nat) (c:Nat)=>decide ((a+b)*c<=capBytes)) (fun (a:Int) (b:Int) (c:Nat)=>decide (0<=a/\a<=b/\b*c<=capBytes)) (fun (a:Rows)=>a.length) (fun (a:Rows) (b:Nat)=>a[b]?) (fun (a:Rows) (b:Nat) (c:List Tree)=>a.set b c) (fun (a:IntKind) (b:Rows) (c:Nat)=>ZI.std.isI a b c) (fun (a:Rows) (b:Nat)=>ZI.std.getI a b) (fun (a:IntKind) (b:Rows) (c:Nat) (d:Int)=>b.set c [.v (.int a d)]) (fun (a:Nat) (b:Nat) (c:Rows)=>decide (a+b<=c.length)) (fun (a:Rows) (b:Nat) (c:Nat)=>(a.drop b).take c) (fun (a:Rows) (b:Nat) (c:Rows)=>a.drop b ++ c) (fun (a:Rows) (b:Nat) (c:Rows)=>setRange a b c) (fun (a:Nat) (b:List Tree)=>List.replicate a b) (fun (a:Nat) (b:Rows)=>b.all fun r=>r.length == a) (fun (a:List Bool)=>a.all id) (fun (a:List (Value × Tree)) (b:Value)=>ZI.std.mok a b) (fun (a:List (Value × Tree)) (b:Value)=>ZI.std.mget a b) (fun (a:List (Value × Tree)) (b:Value) (c:Tree)=>(setEnt b c a).getD a) W (fun (α:Type) (f:Unit->α)=>f ()) (Shows P) (LoopT P args.length) (fun r=>ResLe r res) ⟨fun _ _=>rfl,fun _ _=>rfl,fun _ _=>rfl,fun _ _=>rfl,fun _ _=>rfl,fun _ _=>rfl,fun _ _ _=>rfl,fun _ _ _=>rfl,fun _ _ _=>rfl,fun _ _ _=>rfl,fun _ _ _=>rfl,fun _ _ _=>rfl,fun _ _=>rfl,fun _ _=>rfl,fun _ _=>rfl,fun _ _=>rfl,fun _=>rfl,fun _ _=>rfl,fun _ _=>rfl,fun _ _=>rfl,fun _ _=>rfl,fun _=>rfl,fun _ _=>rfl,fun _=>rfl,fun _ _=>rfl,fun _ _=>rfl,fun _ _=>rfl,fun _ _=>rfl,fun _ _ _=>rfl,fun _ _ _=>rfl,fun _ _ _=>rfl,fun _=>rfl,fun _ _=>rfl,fun _ _ _=>rfl,fun _ _ _=>rfl,fun _ _=>rfl,fun _ _ _ _=>rfl,fun _ _ _=>rfl,fun _ _ _=>rfl,fun _ _ _=>rfl,fun _ _ _=>rfl,fun _ _=>rfl,fun _ _=>rfl,fun _=>rfl,fun _ _=>rfl,fun _ _=>rfl,fun _ _ _=>rfl,rfl,fun _ _=>rfl,rfl,rfl⟩ (fun r hr=>hr)
 have key1:CodeK P C args.length c (startStZ ZI.std args fn.ntmps) (PostT fun e s=>match e with
   | .exit _=>False
   | .normal=>FinZ ZI.std C s args fn.results.toList om (fun r=>ResLe r res)
   | .ret=>FinZ ZI.std C s args fn.results.toList om (fun r=>ResLe r res)):=by
  have k0:=codeKZ_std c _ (ST.ofSt_ok _) hT key
  rw [ST.toSt_ofSt] at k0
  exact k0
 rw [startStZ_std] at key1
 have key2:=qbq c _ key1 (Q':=fun e s=>(e=.normal ∨ e=.ret)/\∃ r,ResLe r res/\finish C s args fn.results.toList om=some r) fun e s hs=>by
  obtain ⟨s',h1,rfl,hs⟩:=hs
  cases e with
  | normal=>exact ⟨.inl rfl,finZ_std h1 hs⟩
  | exit id=>exact hs.elim
  | ret=>exact ⟨.inr rfl,finZ_std h1 hs⟩
 exact ACall.of_body' hC hfn hname hbody (CodeK.run hC hmix c _ _ key2)
end
theorem qaa {x:Int} (h0:0<=x) (h1:x < 2 ^ 64):IntKind.wrap .u64 x=x:=by
 have:IntKind.wrap .u64 x=x % 2 ^ 64:=rfl
 rw [this,Int.emod_eq_of_lt h0 h1]
end Go.Abs
end
