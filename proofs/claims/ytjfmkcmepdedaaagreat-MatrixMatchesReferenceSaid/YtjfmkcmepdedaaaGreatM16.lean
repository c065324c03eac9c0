/-
  A part of the proof: MtE, MtS.
-/
import Derived.Test.YtjfmkcmepdedaaaGreatM15
set_option maxHeartbeats 0
set_option maxRecDepth 100000
set_option linter.unusedVariables false
set_option linter.unusedSimpArgs false
set_option linter.unusedSectionVars false
section
namespace Go.Abs
theorem sp_sum {m:Nat} {M:Nat->RV} (c:RV):∀ k,k<=m->Sp (Rs m M) fun y=>sumN k fun l=>c l*M l y
 | 0,_=>.zero
 | k+1,h=>Sp.lin (c k) (sp_sum c k (by omega)) (.row h) fun y=>rfl
theorem tri_all {n:Nat} {R:Nat->RV} (h0:∀ i,i < n->R i i ≠ 0) (hl:∀ i,i < n->∀ y,y < i->R i y=0) (hr:∀ i,i < n->∀ y,n<=y->R i y=0):∀ m l,l+m=n->∀ v:RV,(∀ y,y < l ∨ n<=y->v y=0)->Sp (Rs n R) v
 | 0,l,h,v,hv=>Sp.zero.cast fun y=>hv y (by omega)
 | m+1,l,h,v,hv=>by
  have hln:l < n:=by omega
  have h00:=h0 l hln
  have:=tri_all h0 hl hr m (l+1) (by omega) (fun y=>v y - v l / R l l*R l y) fun y hy=>by
   by_cases e:y=l
   ·rw [e,Rat.div_mul_cancel h00,Rat.sub_self]
   ·have hz:R l y=0:=by
     rcases hy with hy | hy
     ·exact hl l hln y (by omega)
     ·exact hr l hln y hy
    rw [hv y (by omega),hz]; grind
  exact Sp.lin (v l / R l l) this (.row hln) fun y=>by grind
theorem rv_inj {P Q:List Rat} (h:P.length=Q.length) (e:rv P=rv Q):P=Q:=by
 refine List.ext_getElem h fun i h1 h2=>?_
 have:=congrFun e i
 unfold rv at this
 rw [List.getD_eq_getElem?_getD,List.getD_eq_getElem?_getD,List.getElem?_eq_getElem h1,List.getElem?_eq_getElem h2] at this
 exact this
theorem isP_congr {p q:Nat->Nat} (y:Nat):∀ k,(∀ l,l < k->p l=q l)->isP p k y=isP q k y
 | 0,_=>rfl
 | k+1,h=>by rw [isP,isP,h k (by omega),isP_congr y k fun l hl=>h l (by omega)]
theorem kvf_congr {R S:Nat->List Rat} {p q:Nat->Nat} (j y:Nat):∀ k,(∀ l,l < k->p l=q l/\R l=S l)->kvf R p j k y=kvf S q j k y
 | 0,_=>rfl
 | k+1,h=>by rw [kvf,kvf,(h k (by omega)).1,(h k (by omega)).2,kvf_congr j y k fun l hl=>h l (by omega)]
theorem frL_congr {p q:Nat->Nat} {k:Nat} (h:∀ l,l < k->p l=q l):∀ y,frL p k y=frL q k y
 | 0=>rfl
 | y+1=>by rw [frL,frL,frL_congr h y,isP_congr y k h]
def dswp (R:Nat->List Rat) (j l:Nat):Nat->List Rat:=fun i=>if i=j then R l else if i=l then R j else R i
def dstep (R:Nat->List Rat) (j l:Nat):Nat->List Rat:=fun i=>if i<=j then dswp R j l i else elm (dswp R j l i) (R l) j
structure DtI (n j:Nat) (M R:Nat->List Rat):Prop where
 len:∀ i,i < n->(R i).length=n
 sp:SpE (Rs n fun i=>rv (M i)) (Rs n fun i=>rv (R i))
 piv:∀ l,l < j->rv (R l) l ≠ 0
 low:∀ l,l < j->∀ i,l < i->i < n->rv (R i) l=0
theorem DtI.start {n:Nat} {M:Nat->List Rat} (h:∀ i,i < n->(M i).length=n):DtI n 0 M M:=⟨h,SpE.refl _,by omega,by omega⟩
theorem dswp_len {n w j l:Nat} {R:Nat->List Rat} (h:∀ i,i < n->(R i).length=w) (hj:j < n) (hl:l < n):∀ i,i < n->(dswp R j l i).length=w:=fun i hi=>by
 unfold dswp
 split
 ·exact h l hl
 ·split
  ·exact h j hj
  ·exact h i hi
theorem DtI.step {n j l:Nat} {M R:Nat->List Rat} (h:DtI n j M R) (h1:j<=l) (h2:l < n) (hx:(R l).getD j 0 ≠ 0):DtI n (j+1) M (dstep R j l):=by
 have hj:j < n:=by omega
 have lS:=dswp_len h.len hj h2
 have hS:SpE (Rs n fun i=>rv (R i)) (Rs n fun i=>rv (dswp R j l i)):=spe_swap (a:=j) (b:=l) hj h2 fun i _=>by
  show rv (dswp R j l i)=_
  unfold dswp
  split
  ·rfl
  ·split <;> rfl
 have hSj:dswp R j l j=R l:=if_pos rfl
 have hlow:∀ y,y < j->∀ i,j<=i->i < n->rv (dswp R j l i) y=0:=fun y hy i hi hin=>by
  unfold dswp
  split
  ·exact h.low y hy l (by omega) h2
  ·split
   ·exact h.low y hy j (by omega) hj
   ·exact h.low y hy i (by omega) hin
 have hel:∀ i,i < n->j < i->∀ y,rv (dstep R j l i) y=rv (dswp R j l i) y+(-((dswp R j l i).getD j 0 / (R l).getD j 0))*rv (R l) y:=fun i hi hji y=>by
  unfold dstep
  rw [if_neg (by omega),elm_rv (by rw [lS i hi,h.len l h2])]
 have hle:∀ i,i<=j->dstep R j l i=dswp R j l i:=fun i hi=>if_pos hi
 refine ⟨fun i hi=>?_,(h.sp.trans hS).trans ?_,fun y hy=>?_,fun y hy i hyi hin=>?_⟩
 ·unfold dstep
  split
  ·exact lS i hi
  ·rw [elm_len]; exact lS i hi
 ·refine spe_elim (k:=j) (c:=fun i=>if i<=j then 0 else -((dswp R j l i).getD j 0 / (R l).getD j 0)) hj ?_ fun i hi hne y=>?_
  ·show rv (dstep R j l j)=rv (dswp R j l j)
   rw [hle j (Nat.le_refl _)]
  ·show rv (dstep R j l i) y=rv (dswp R j l i) y+(if i<=j then 0 else _)*rv (dswp R j l j) y
   by_cases e:i<=j
   ·rw [if_pos e,hle i e]; grind
   ·rw [if_neg e,hel i hi (by omega),hSj]
 ·rw [hle y (by omega)]
  by_cases e:y=j
  ·rw [e,hSj]; exact hx
  ·have:dswp R j l y=R y:=by
    unfold dswp
    rw [if_neg e,if_neg (by omega)]
   rw [this]; exact h.piv y (by omega)
 ·by_cases e:y=j
  ·subst e
   rw [hel i hin hyi]
   show (dswp R y l i).getD y 0+_*(R l).getD y 0=0
   have:=Rat.div_mul_cancel hx (a:=(dswp R y l i).getD y 0)
   rw [Rat.neg_mul,this]; grind
  ·by_cases hij:i<=j
   ·rw [hle i hij]
    by_cases hi:i=j
    ·exact hlow y (by omega) i (by omega) hin
    ·have:dswp R j l i=R i:=by
      unfold dswp
      rw [if_neg hi,if_neg (by omega)]
     rw [this]; exact h.low y (by omega) i hyi hin
   ·rw [hel i hin (by omega),hlow y (by omega) i (by omega) hin,<- hSj,hlow y (by omega) j (Nat.le_refl _) hj]; grind
theorem DtI.all {n:Nat} {M R:Nat->List Rat} (h:DtI n n M R) (v:RV) (hv:∀ y,n<=y->v y=0):Sp (Rs n fun i=>rv (M i)) v:=
 h.sp.r _ (tri_all (R:=fun i=>rv (R i)) (fun i hi=>h.piv i hi) (fun i hi y hy=>h.low y (by omega) i hy hi)
  (fun i hi y hy=>by
   show (R i).getD y 0=0
   rw [List.getD_eq_getElem?_getD,List.getElem?_eq_none (by rw [h.len i hi]; exact hy)]; rfl) n 0 (by omega) v fun y hy=>hv y (by omega))
def svf (R:Nat->List Rat) (p:Nat->Nat) (w:Nat):Nat->Nat->Rat
 | 0,_=>0
 | k+1,y=>if y=p k then (R k).getD w 0 else svf R p w k y
def srow (w:Nat) (R:Nat->List Rat) (p:Nat->Nat) (k:Nat):List Rat:=(List.range w).map (svf R p w k)
theorem srow_len (w:Nat) (R:Nat->List Rat) (p:Nat->Nat) (k:Nat):(srow w R p k).length=w:=by simp [srow]
theorem srow_get {w:Nat} {R:Nat->List Rat} {p:Nat->Nat} {k y:Nat} (h:y < w):(srow w R p k)[y]?=some (svf R p w k y):=by simp [srow,List.getElem?_range h]
theorem srow_zero (w:Nat) (R:Nat->List Rat) (p:Nat->Nat):List.replicate w 0=srow w R p 0:=by
 refine List.ext_getElem? fun y=>?_
 by_cases hy:y < w
 ·rw [srow_get hy,List.getElem?_replicate,if_pos hy]; rfl
 ·rw [List.getElem?_eq_none (by simp; omega),List.getElem?_eq_none (by rw [srow_len]; omega)]
theorem srow_next {w:Nat} {R:Nat->List Rat} {p:Nat->Nat} {k:Nat} (h:p k < w):(srow w R p k).set (p k) ((R k).getD w 0)=srow w R p (k+1):=by
 refine List.ext_getElem? fun y=>?_
 by_cases hy:y < w
 ·rw [srow_get hy,List.getElem?_set,srow_len]
  by_cases e:p k=y
  ·rw [if_pos e,if_pos (by omega)]; simp [e,svf]
  ·rw [if_neg e,srow_get hy]; simp [svf,Ne.symm e]
 ·rw [List.getElem?_eq_none (by rw [List.length_set,srow_len]; omega),List.getElem?_eq_none (by rw [srow_len]; omega)]
def exM (M:Nat->List Rat) (D:List Rat):Nat->List Rat:=fun i=>M i ++ [D.getD i 0]
theorem exM_len {M:Nat->List Rat} {D:List Rat} {i w:Nat} (h:(M i).length=w):(exM M D i).length=w+1:=by simp [exM,h]
def tr (w:Nat) (v:RV):RV:=fun y=>if y < w then v y else 0
end Go.Abs
end
