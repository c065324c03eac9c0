/-
  A part of the proof: MsF1k, MtQ, MsE1k.
-/
import Derived.Test.YtjfmkcmepdedaaaGreatM20
set_option maxHeartbeats 0
set_option maxRecDepth 100000
set_option linter.unusedVariables false
set_option linter.unusedSimpArgs false
set_option linter.unusedSectionVars false
section
namespace Go.Proofs.YtjfmkcmepdedaaaGreat
open Go Go.Abs Go.Abs.M Go.Proofs
def tsw (k l i:Nat):Nat:=if i=k then l else if i=l then k else i
inductive SgRun (n:Nat):Nat->(Nat->Abs.Rows)->Nat->Nat->Nat->Nat->Prop
 | done {X:Nat->Abs.Rows} {P Q:Nat}:SgRun n n X P Q P Q
 | stop {k:Nat} {X:Nat->Abs.Rows} {P Q:Nat}:k < n->HCall Tryz.prog 77 ⟨[.c (.sl 0 0 n false),vi .i64 (k:Int)],mrh n n X⟩ ⟨[vb false],mrh n n X⟩->SgRun n k X P Q P Q
 | step {k l:Nat} {X Y W:Nat->Abs.Rows} {P Q P' Q':Nat} {sg:Int} {s t:Bool} {r p:Abs.Rows}:k<=l->l < n->HCall Tryz.prog 77 ⟨[.c (.sl 0 0 n false),vi .i64 (k:Int)],mrh n n X⟩ ⟨[vb true],mrp n k l n Y⟩ ->
   (Y l)[k]?=some [.v (.bool s),.lst false r,.v (.bool t),.lst false p]->ACall Tryz.prog 36 [.val (.agg [.v (.bool s),.lst false r,.v (.bool t),.lst false p])] ⟨[.val (ti .i64 sg)],[none]⟩ ->
   HCall Tryz.prog 58 ⟨[.c (.sl 0 (k+1) (n - k - 1) false),.c (.sl 1 0 n false),vi .i64 (k:Int)],mrk n k n (fun i=>Y (tsw k l i))⟩ ⟨[],mrk n k n W⟩ ->
   SgRun n (k+1) W (if 0 < sg then P+1 else P) (if 0 < sg then Q else Q+1) P' Q'->SgRun n k X P Q P' Q'
theorem SgRun.inv {n k:Nat} {X:Nat->Abs.Rows} {P Q P' Q':Nat} (h:SgRun n k X P Q P' Q'):(k=n/\P'=P/\Q'=Q) ∨ (k < n/\P'=P/\Q'=Q/\HCall Tryz.prog 77 ⟨[.c (.sl 0 0 n false),vi .i64 (k:Int)],mrh n n X⟩ ⟨[vb false],mrh n n X⟩) ∨
  ∃ (l:Nat) (Y W:Nat->Abs.Rows) (sg:Int) (s t:Bool) (r p:Abs.Rows),k<=l/\l < n/\HCall Tryz.prog 77 ⟨[.c (.sl 0 0 n false),vi .i64 (k:Int)],mrh n n X⟩ ⟨[vb true],mrp n k l n Y⟩ /\
   (Y l)[k]?=some [.v (.bool s),.lst false r,.v (.bool t),.lst false p]/\ACall Tryz.prog 36 [.val (.agg [.v (.bool s),.lst false r,.v (.bool t),.lst false p])] ⟨[.val (ti .i64 sg)],[none]⟩ /\
   HCall Tryz.prog 58 ⟨[.c (.sl 0 (k+1) (n - k - 1) false),.c (.sl 1 0 n false),vi .i64 (k:Int)],mrk n k n (fun i=>Y (tsw k l i))⟩ ⟨[],mrk n k n W⟩ /\
   SgRun n (k+1) W (if 0 < sg then P+1 else P) (if 0 < sg then Q else Q+1) P' Q':=by
 cases h with
 | done=>exact .inl ⟨rfl,rfl,rfl⟩
 | stop h1 h2=>exact .inr (.inl ⟨h1,rfl,rfl,h2⟩)
 | step h1 h2 h3 h4 h5 h6 h7=>exact .inr (.inr ⟨_,_,_,_,_,_,_,_,h1,h2,h3,h4,h5,h6,h7⟩)
end Go.Proofs.YtjfmkcmepdedaaaGreat
end
section
namespace Go.Abs
theorem hs_ex (N:Nat) (eqs:List RV) (h:eqs.length < N):∃ x:RV,(∃ j,j < N/\x j ≠ 0)/\∀ f ∈ eqs,dot N f x=0:=by
 obtain ⟨m,hm⟩:∃ m,m=eqs.length:=⟨_,rfl⟩
 obtain ⟨M,hM⟩:∃ M:Nat->List Rat,M=fun i=>(List.range N).map (eqs.getD i fun _=>0):=⟨_,rfl⟩
 have hl:∀ i,i < m->(M i).length=N:=fun i hi=>by rw [hM]; simp
 have ok:=rdIt_ok hl N
 have hc:=fr_count ok
 have hk:=ok.kn
 obtain ⟨j,hj⟩:∃ j,j ∈ frL (rdIt m M N).p (rdIt m M N).k N:=by
  match hL:frL (rdIt m M N).p (rdIt m M N).k N with
  | []=>rw [hL] at hc; simp at hc; omega
  | j :: l=>exact ⟨j,by simp⟩
 obtain ⟨h1,h2⟩:=frL_mem _ _ _ _ hj
 refine ⟨kvf (rdIt m M N).R (rdIt m M N).p j (rdIt m M N).k,⟨j,h1,?_⟩,fun f hf=>?_⟩
 ·rw [kvf_free _ h2,if_pos rfl]; decide
 ·obtain ⟨i,hi,rfl⟩:=List.getElem_of_mem hf
  have:=ker_dot ok h2 h1 i (by omega)
  rw [<- this]
  unfold dot
  refine qab _ fun y hy=>?_
  have e:rv (M i) y=eqs[i] y:=by
   rw [hM]
   show ((List.range N).map (eqs.getD i fun _=>0)).getD y 0=_
   rw [List.getD_eq_getElem?_getD,List.getElem?_map,List.getElem?_range hy,List.getD_eq_getElem?_getD,List.getElem?_eq_getElem hi]
   rfl
  rw [e]
def lc (n:Nat) (x:RV) (P:Nat->RV):RV:=fun c=>sumN n fun i=>x i*P i c
def mv (n:Nat) (M:Nat->RV) (v:RV):RV:=fun a=>dot n (M a) v
theorem sumN_mulr (c:Rat) (f:Nat->Rat) (n:Nat):sumN n (fun i=>f i*c)=sumN n f*c:=by
 rw [qab n fun i _=>Rat.mul_comm (f i) c,qa4,Rat.mul_comm]
theorem dot_lc_l {n m:Nat} (x:RV) (P:Nat->RV) (w:RV):dot n (lc m x P) w=sumN m fun i=>x i*dot n (P i) w:=by
 unfold dot lc
 rw [qab n fun c _=>(sumN_mulr (w c) (fun i=>x i*P i c) m).symm,sumN_swap]
 exact qab m fun i _=>by rw [<- qa4]; exact qab n fun c _=>by grind
theorem dot_comm (n:Nat) (u v:RV):dot n u v=dot n v u:=qab n fun _ _=>Rat.mul_comm _ _
theorem dot_lc_r {n m:Nat} (x:RV) (P:Nat->RV) (w:RV):dot n w (lc m x P)=sumN m fun i=>x i*dot n w (P i):=by
 rw [dot_comm,dot_lc_l]
 exact qab m fun i _=>by rw [dot_comm]
theorem dot_congr {n:Nat} {u v a b:RV} (h1:∀ i,i < n->u i=a i) (h2:∀ i,i < n->v i=b i):dot n u v=dot n a b:=qab n fun i hi=>by rw [h1 i hi,h2 i hi]
theorem mv_lc {n m:Nat} (M:Nat->RV) (x:RV) (P:Nat->RV) (a:Nat):mv n M (lc m x P) a=lc m x (fun i=>mv n M (P i)) a:=dot_lc_r x P (M a)
def bf (n:Nat) (M:Nat->RV) (u v:RV):Rat:=dot n u (mv n M v)
theorem bf_lc {n m k:Nat} (M:Nat->RV) (x y:RV) (P Q:Nat->RV):bf n M (lc m x P) (lc k y Q)=sumN m fun i=>x i*sumN k fun j=>y j*bf n M (P i) (Q j):=by
 unfold bf
 rw [dot_lc_l]
 exact qab m fun i _=>by
  rw [dot_congr (fun _ _=>rfl) fun a _=>mv_lc M y Q a,dot_lc_r]
structure Cg (n:Nat) (M G:Nat->RV) (P Q:Nat->RV):Prop where
 g:∀ i,i < n->∀ j,j < n->bf n M (P i) (P j)=G i j
 r:∀ i,i < n->∀ j,j < n->(sumN n fun a=>P i a*Q a j)=if i=j then 1 else 0
 l:∀ i,i < n->∀ j,j < n->(sumN n fun a=>Q i a*P a j)=if i=j then 1 else 0
def CgE (n:Nat) (M G:Nat->RV):Prop:=∃ P Q,Cg n M G P Q
theorem id_l {n i:Nat} (hi:i < n) (v:RV):(sumN n fun a=>(if i=a then (1:Rat) else 0)*v a)=v i:=by
 rw [qbi n hi fun l _ hne=>by rw [if_neg (Ne.symm hne),Rat.zero_mul],if_pos rfl,Rat.one_mul]
theorem id_r {n i:Nat} (hi:i < n) (v:RV):(sumN n fun a=>v a*(if a=i then (1:Rat) else 0))=v i:=by
 rw [qbi n hi fun l _ hne=>by rw [if_neg hne,Rat.mul_zero],if_pos rfl,Rat.mul_one]
theorem CgE.refl (n:Nat) (M:Nat->RV):CgE n M M:=
 ⟨fun i j=>if i=j then 1 else 0,fun i j=>if i=j then 1 else 0,fun i hi j hj=>by
  show (sumN n fun a=>(if i=a then (1:Rat) else 0)*dot n (M a) fun b=>if j=b then 1 else 0)=_
  rw [id_l hi]
  show (sumN n fun b=>M i b*(if j=b then (1:Rat) else 0))=_
  rw [qbi n hj fun l _ hne=>by rw [if_neg (Ne.symm hne),Rat.mul_zero],if_pos rfl,Rat.mul_one],fun i hi j hj=>id_l hi fun a=>if a=j then 1 else 0,fun i hi j hj=>id_l hi fun a=>if a=j then 1 else 0⟩
theorem prod_assoc {n:Nat} (A B C:Nat->RV) (i j:Nat):(sumN n fun a=>(sumN n fun l=>A i l*B l a)*C a j)=sumN n fun l=>A i l*sumN n fun a=>B l a*C a j:=by
 rw [qab n fun a _=>(sumN_mulr (C a j) (fun l=>A i l*B l a) n).symm,sumN_swap]
 exact qab n fun l _=>by rw [<- qa4]; exact qab n fun a _=>Rat.mul_assoc _ _ _
theorem inv_prod {n:Nat} {A B C D:Nat->RV} (h1:∀ i,i < n->∀ j,j < n->(sumN n fun a=>B i a*C a j)=if i=j then 1 else 0) (h2:∀ i,i < n->∀ j,j < n->(sumN n fun a=>A i a*D a j)=if i=j then 1 else 0) {i j:Nat} (hi:i < n) (hj:j < n) :
  (sumN n fun a=>(sumN n fun l=>A i l*B l a)*(sumN n fun l=>C a l*D l j))=if i=j then 1 else 0:=by
 rw [prod_assoc A B (fun a j=>sumN n fun l=>C a l*D l j),<- h2 i hi j hj]
 refine qab n fun l hl=>?_
 rw [<- prod_assoc B C D l j,qab n fun a ha=>by rw [h1 l hl a ha],id_l hl]
theorem CgE.trans {n:Nat} {M G H:Nat->RV} (h:CgE n M G) (g:CgE n G H):CgE n M H:=by
 obtain ⟨P,Q,h⟩:=h
 obtain ⟨E,F,g⟩:=g
 refine ⟨fun i=>lc n (E i) P,fun i j=>sumN n fun l=>Q i l*F l j,⟨fun i hi j hj=>?_,fun i hi j hj=>inv_prod h.r g.r hi hj,fun i hi j hj=>inv_prod g.l h.l hi hj⟩⟩
 rw [bf_lc,<- g.g i hi j hj]
 unfold bf dot
 refine qab n fun a ha=>?_
 unfold mv dot
 exact congrArg (E i a*·) (qab n fun b hb=>(show E j b*bf n M (P a) (P b)=G a b*E j b by rw [h.g a ha b hb,Rat.mul_comm]))
theorem CgE.symm {n:Nat} {M G:Nat->RV} (h:CgE n M G):CgE n G M:=by
 obtain ⟨P,Q,h⟩:=h
 refine ⟨Q,P,⟨fun i hi j hj=>?_,h.l,h.r⟩⟩
 have e:bf n G (Q i) (Q j)=bf n M (lc n (Q i) P) (lc n (Q j) P):=by
  rw [bf_lc]
  unfold bf dot
  refine qab n fun a ha=>?_
  unfold mv dot
  rw [qab n fun b hb=>by rw [<- h.g a ha b hb,Rat.mul_comm]]
  rfl
 rw [e]
 show (sumN n fun a=>(sumN n fun l=>Q i l*P l a)*dot n (M a) (lc n (Q j) P))=_
 rw [qab n fun a ha=>by rw [h.l i hi a ha],id_l hi]
 show (sumN n fun b=>M i b*(sumN n fun l=>Q j l*P l b))=_
 rw [qab n fun b hb=>by rw [h.l j hj b hb]]
 rw [qbi n hj fun l _ hne=>by rw [if_neg (Ne.symm hne),Rat.mul_zero],if_pos rfl,Rat.mul_one]
theorem CgE.congr {n:Nat} {M G H:Nat->RV} (h:CgE n M G) (e:∀ i,i < n->∀ j,j < n->G i j=H i j):CgE n M H:=by
 obtain ⟨P,Q,h⟩:=h
 exact ⟨P,Q,fun i hi j hj=>by rw [h.g i hi j hj,e i hi j hj],h.r,h.l⟩
theorem CgE.mk {n:Nat} {M G:Nat->RV} (P Q:Nat->RV) (g:∀ i,i < n->∀ j,j < n->bf n M (P i) (P j)=G i j) (r:∀ i,i < n->∀ j,j < n->(sumN n fun a=>P i a*Q a j)=if i=j then 1 else 0) (l:∀ i,i < n->∀ j,j < n->(sumN n fun a=>Q i a*P a j)=if i=j then 1 else 0):CgE n M G:=⟨P,Q,g,r,l⟩
def dgm (d:RV):Nat->RV:=fun i j=>if i=j then d i else 0
theorem bf_dg {n:Nat} {M:Nat->RV} {d:RV} {P Q:Nat->RV} (h:Cg n M (dgm d) P Q) (x:RV):bf n M (lc n x P) (lc n x P)=sumN n fun i=>x i*(x i*d i):=by
 rw [bf_lc]
 refine qab n fun i hi=>?_
 rw [qbi n hi fun j hj hne=>by rw [h.g i hi j hj]; show x j*(if i=j then d i else 0)=0; rw [if_neg (Ne.symm hne),Rat.mul_zero],h.g i hi i hi]
 show x i*(x i*(if i=i then d i else 0))=_
 rw [if_pos rfl]
theorem lc_zero {n:Nat} {M G:Nat->RV} {P Q:Nat->RV} (h:Cg n M G P Q) {x:RV} (hz:∀ c,c < n->lc n x P c=0):∀ j,j < n->x j=0:=fun j hj=>by
 have e:(sumN n fun a=>lc n x P a*Q a j)=sumN n fun i=>x i*sumN n fun a=>P i a*Q a j:=prod_assoc (fun _=>x) P Q 0 j
 rw [qab n (g:=fun _=>0) fun a ha=>by rw [hz a ha,Rat.zero_mul],qa3,qab n fun i hi=>by rw [h.r i hi j hj],id_r hj] at e
 exact e.symm
def cnt (n:Nat) (p:Nat->Bool):Nat:=((List.range n).filter p).length
theorem cnt_not (n:Nat) (p:Nat->Bool):cnt n p+((List.range n).filter fun i=>!p i).length=n:=by
 unfold cnt
 induction n with
 | zero=>rfl
 | succ n ih=>
  rw [List.range_succ,List.filter_append,List.filter_append,List.length_append,List.length_append]
  cases h:p n <;> simp [h] <;> omega
theorem sumN_app (f:Nat->Rat) (n:Nat):∀ m,sumN (n+m) f=sumN n f+sumN m fun j=>f (n+j)
 | 0=>by show sumN n f=sumN n f+0; rw [Rat.add_zero]
 | m+1=>by
  show sumN (n+m) f+f (n+m)=sumN n f+((sumN m fun j=>f (n+j))+f (n+m))
  rw [sumN_app f n m,Rat.add_assoc]
theorem sumN_nonneg {f:Nat->Rat}:∀ n,(∀ i,i < n->0<=f i)->0<=sumN n f
 | 0,_=>Rat.le_refl
 | n+1,h=>by
  have h1:=sumN_nonneg n fun i hi=>h i (by omega)
  have h2:=h n (by omega)
  show 0<=sumN n f+f n
  grind
theorem sumN_nonneg0 {f:Nat->Rat}:∀ n,(∀ i,i < n->0<=f i)->sumN n f<=0->∀ i,i < n->f i=0
 | 0,_,_=>by omega
 | n+1,h,hz=>fun i hi=>by
  have h1:=sumN_nonneg n fun i hi=>h i (by omega)
  have h2:=h n (by omega)
  have hz:sumN n f+f n<=0:=hz
  by_cases e:i=n
  ·subst e; grind
  ·exact sumN_nonneg0 n (fun i hi=>h i (by omega)) (by grind) i (by omega)
theorem sq_nonneg (x:Rat):0<=x*x:=by
 rcases Rat.le_total (a:=0) (b:=x) with h | h
 ·exact Rat.mul_nonneg h h
 ·have:0 <= -x:=by grind
  have:=Rat.mul_nonneg this this
  grind
def unv (i:Nat):RV:=fun j=>if j=i then 1 else 0
theorem dot_unv {N i:Nat} (hi:i < N) (x:RV):dot N (unv i) x=x i:=by
 unfold dot unv
 rw [qbi N hi fun l _ hne=>by rw [if_neg hne,Rat.zero_mul],if_pos rfl,Rat.one_mul]
theorem syl_le {n:Nat} {M:Nat->RV} {d e:RV} (h:CgE n M (dgm d)) (g:CgE n M (dgm e)):cnt n (fun i=>decide (0 < d i))<=cnt n fun i=>decide (0 < e i):=by
 obtain ⟨P,Q,h⟩:=h
 obtain ⟨S,T,g⟩:=g
 apply Classical.byContradiction
 intro hlt
 have hc:=cnt_not n fun i=>decide (0 < d i)
 obtain ⟨L1,hL1⟩:∃ L,L=(List.range n).filter fun i=>!decide (0 < d i):=⟨_,rfl⟩
 obtain ⟨L2,hL2⟩:∃ L,L=(List.range n).filter fun i=>decide (0 < e i):=⟨_,rfl⟩
 have hL2l:L2.length=cnt n fun i=>decide (0 < e i):=by rw [hL2]; rfl
 rw [<- hL1] at hc
 obtain ⟨x,⟨j,hj,hx⟩,hz⟩:=hs_ex (n+n) (((List.range n).map fun c=>fun j=>if j < n then P j c else -S (j - n) c) ++ (L1.map unv ++ L2.map fun i=>unv (n+i))) (by
  simp only [List.length_append,List.length_map,List.length_range]
  omega)
 have z1:∀ i,i < n->¬0 < d i->x i=0:=fun i hi hd=>by
  have:=hz (unv i) (List.mem_append_right _ (List.mem_append_left _ (List.mem_map.2 ⟨i,by rw [hL1]; exact List.mem_filter.2 ⟨List.mem_range.2 hi,by simpa using hd⟩,rfl⟩)))
  rwa [dot_unv (by omega)] at this
 have z2:∀ i,i < n->0 < e i->x (n+i)=0:=fun i hi he=>by
  have:=hz (unv (n+i)) (List.mem_append_right _ (List.mem_append_right _ (List.mem_map.2 ⟨i,by rw [hL2]; exact List.mem_filter.2 ⟨List.mem_range.2 hi,by simpa using he⟩,rfl⟩)))
  rwa [dot_unv (by omega)] at this
 have hv:∀ c,c < n->lc n x P c=lc n (fun i=>x (n+i)) S c:=fun c hc=>by
  have:=hz _ (List.mem_append_left _ (List.mem_map.2 ⟨c,List.mem_range.2 hc,rfl⟩))
  unfold dot at this
  rw [sumN_app,qab n (g:=fun i=>x i*P i c) fun i hi=>(by rw [if_pos hi,Rat.mul_comm]:(if i < n then P i c else -S (i - n) c)*x i=x i*P i c),qab n (g:=fun i=>(-1)*(x (n+i)*S i c)) fun i hi=>(by
   rw [if_neg (by omega),Nat.add_sub_cancel_left]; grind:(if n+i < n then P (n+i) c else -S (n+i - n) c)*x (n+i)=(-1)*(x (n+i)*S i c)),qa4] at this
  unfold lc
  grind
 have hB:bf n M (lc n x P) (lc n x P)=bf n M (lc n (fun i=>x (n+i)) S) (lc n (fun i=>x (n+i)) S):=by
  unfold bf
  refine dot_congr hv fun a ha=>?_
  unfold mv
  exact dot_congr (fun _ _=>rfl) hv
 rw [bf_dg h,bf_dg g] at hB
 have p1:∀ i,i < n->0<=x i*(x i*d i):=fun i hi=>by
  by_cases hd:0 < d i
  ·rw [<- Rat.mul_assoc]; exact Rat.mul_nonneg (sq_nonneg _) (Rat.le_of_lt hd)
  ·rw [z1 i hi hd,Rat.zero_mul]; exact Rat.le_refl
 have p2:(sumN n fun i=>x (n+i)*(x (n+i)*e i))<=0:=by
  have:=sumN_nonneg n (f:=fun i=>(-1)*(x (n+i)*(x (n+i)*e i))) fun i hi=>by
   by_cases he:0 < e i
   ·rw [z2 i hi he,Rat.zero_mul,Rat.mul_zero]; exact Rat.le_refl
   ·have h1:0 <= -e i:=by grind
    have h2:=Rat.mul_nonneg (sq_nonneg (x (n+i))) h1
    grind
  rw [qa4] at this
  grind
 have p3:=sumN_nonneg0 n p1 (by rw [hB]; exact p2)
 have x0:∀ i,i < n->x i=0:=fun i hi=>by
  by_cases hd:0 < d i
  ·have h1:=p3 i hi
   rcases Rat.mul_eq_zero.1 h1 with h1 | h1
   ·exact h1
   ·rcases Rat.mul_eq_zero.1 h1 with h1 | h1
    ·exact h1
    ·rw [h1] at hd; exact absurd hd (Rat.lt_irrefl)
  ·exact z1 i hi hd
 have y0:=lc_zero g (x:=fun i=>x (n+i)) fun c hc=>by
  rw [<- hv c hc]
  unfold lc
  rw [qab n (g:=fun _=>0) fun i hi=>by rw [x0 i hi,Rat.zero_mul],qa3]
 by_cases hjn:j < n
 ·exact hx (x0 j hjn)
 ·have:=y0 (j - n) (by omega)
  rw [show n+(j - n)=j by omega] at this
  exact hx this
theorem syl_pos {n:Nat} {M:Nat->RV} {d e:RV} (h:CgE n M (dgm d)) (g:CgE n M (dgm e)):cnt n (fun i=>decide (0 < d i))=cnt n fun i=>decide (0 < e i):=Nat.le_antisymm (syl_le h g) (syl_le g h)
theorem CgE.neg {n:Nat} {M:Nat->RV} {d:RV} (h:CgE n M (dgm d)):CgE n (fun i j=>-M i j) (dgm fun i=>-d i):=by
 obtain ⟨P,Q,h⟩:=h
 refine ⟨P,Q,fun i hi j hj=>?_,h.r,h.l⟩
 have:bf n (fun i j=>-M i j) (P i) (P j)=-bf n M (P i) (P j):=by
  unfold bf mv dot
  rw [show -(sumN n fun a=>P i a*sumN n fun b=>M a b*P j b)=(-1)*sumN n fun a=>P i a*sumN n fun b=>M a b*P j b by grind,<- qa4]
  refine qab n fun a _=>?_
  have:(sumN n fun b=>-M a b*P j b)=(-1)*sumN n fun b=>M a b*P j b:=by
   rw [<- qa4]
   exact qab n fun b _=>by grind
  show P i a*(sumN n fun b=>-M a b*P j b)=_
  rw [this]
  grind
 rw [this,h.g i hi j hj]
 unfold dgm
 split <;> grind
theorem syl_neg {n:Nat} {M:Nat->RV} {d e:RV} (h:CgE n M (dgm d)) (g:CgE n M (dgm e)):cnt n (fun i=>decide (d i < 0))=cnt n fun i=>decide (e i < 0):=by
 have:=syl_pos h.neg g.neg
 have k:∀ f:RV,cnt n (fun i=>decide (0 < -f i))=cnt n fun i=>decide (f i < 0):=fun f=>by
  unfold cnt
  congr 1
  congr 1
  funext i
  have:(0 < -f i) ↔ f i < 0:=by constructor <;> intro <;> grind
  simp [this]
 rwa [k,k] at this
theorem syl_rank {n:Nat} {Ml:Nat->List Rat} {d:RV} {k:Nat} {R:Nat->List Rat} {p:Nat->Nat} (h:CgE n (fun i=>rv (Ml i)) (dgm d)) (ok:RdI n n n k Ml R p):k=cnt n fun i=>!decide (d i=0):=by
 obtain ⟨P,Q,h⟩:=h
 have rre:=ok.rre
 have hc:=cnt_not n fun i=>!decide (d i=0)
 obtain ⟨L1,hL1⟩:∃ L,L=(List.range n).filter fun i=>!!decide (d i=0):=⟨_,rfl⟩
 obtain ⟨L2,hL2⟩:∃ L,L=(List.range n).filter fun i=>!decide (d i=0):=⟨_,rfl⟩
 have hL2l:L2.length=cnt n fun i=>!decide (d i=0):=by rw [hL2]; rfl
 rw [<- hL1] at hc
 rw [<- hL2l] at hc ⊢
 have ker:∀ x:RV,(∀ a,a < n->mv n (fun i=>rv (Ml i)) (lc n x P) a=0)->∀ i,i < n->d i ≠ 0->x i=0:=fun x hz i hi hd=>by
  have e:bf n (fun i=>rv (Ml i)) (P i) (lc n x P)=x i*d i:=by
   show dot n (P i) _=_
   rw [dot_congr (fun _ _=>rfl) fun a _=>mv_lc _ x P a,dot_lc_r,qbi n hi fun j hj hne=>by rw [show dot n (P i) (mv n (fun i=>rv (Ml i)) (P j))=dgm d i j from h.g i hi j hj]; unfold dgm; rw [if_neg (Ne.symm hne),Rat.mul_zero],show dot n (P i) (mv n (fun i=>rv (Ml i)) (P i))=dgm d i i from h.g i hi i hi]
   unfold dgm
   rw [if_pos rfl]
  unfold bf at e
  rw [dot_congr (fun _ _=>rfl) hz] at e
  unfold dot at e
  rw [qab n (g:=fun _=>0) fun _ _=>Rat.mul_zero _,qa3] at e
  rcases Rat.mul_eq_zero.1 e.symm with e | e
  ·exact e
  ·exact absurd e hd
 apply Classical.byContradiction
 intro hne
 by_cases hlt:k < L2.length
 ·obtain ⟨x,⟨j,hj,hx⟩,hz⟩:=hs_ex n (L1.map unv ++ (List.range k).map fun l=>fun j=>dot n (rv (R l)) (P j)) (by
   simp only [List.length_append,List.length_map,List.length_range]; omega)
  have z1:∀ i,i < n->d i=0->x i=0:=fun i hi hd=>by
   have:=hz (unv i) (List.mem_append_left _ (List.mem_map.2 ⟨i,by rw [hL1]; exact List.mem_filter.2 ⟨List.mem_range.2 hi,by simpa using hd⟩,rfl⟩))
   rwa [dot_unv hi] at this
  have z2:∀ l,l < k->dot n (rv (R l)) (lc n x P)=0:=fun l hl=>by
   have:=hz _ (List.mem_append_right _ (List.mem_map.2 ⟨l,List.mem_range.2 hl,rfl⟩))
   rw [dot_lc_r,<- this]
   exact qab n fun i _=>Rat.mul_comm _ _
  have z3:∀ a,a < n->mv n (fun i=>rv (Ml i)) (lc n x P) a=0:=fun a ha=>by
   refine dot_span (S:=Rs k fun i=>rv (R i)) (fun v hv=>?_) _ ?_
   ·obtain ⟨i,hi,rfl⟩:=hv; exact z2 i hi
   ·exact (sp_sum (M:=fun i=>rv (R i)) (fun i=>rv (Ml a) (p i)) k (Nat.le_refl _)).cast fun y=>rre.ub.gen _ (Sp.row (R:=fun i=>rv (Ml i)) ha) y
  by_cases hd:d j=0
  ·exact hx (z1 j hj hd)
  ·exact hx (ker x z3 j hj hd)
 ·have hfr:=fr_count ok
  obtain ⟨x,⟨j,hj,hx⟩,hz⟩:=hs_ex n (L2.map unv ++ (frL p k n).map fun f=>fun j=>P j f) (by
   simp only [List.length_append,List.length_map]; omega)
  have z1:∀ i,i < n->d i ≠ 0->x i=0:=fun i hi hd=>by
   have:=hz (unv i) (List.mem_append_left _ (List.mem_map.2 ⟨i,by rw [hL2]; exact List.mem_filter.2 ⟨List.mem_range.2 hi,by simpa using hd⟩,rfl⟩))
   rwa [dot_unv hi] at this
  have z2:∀ f ∈ frL p k n,lc n x P f=0:=fun f hf=>by
   have:=hz _ (List.mem_append_right _ (List.mem_map.2 ⟨f,hf,rfl⟩))
   rw [<- this]
   exact qab n fun i _=>Rat.mul_comm _ _
  have mP:∀ i,i < n->d i=0->∀ a,a < n->mv n (fun i=>rv (Ml i)) (P i) a=0:=fun i hi hd a ha=>by
   have e:(sumN n fun c=>(sumN n fun b=>Q a b*P b c)*mv n (fun i=>rv (Ml i)) (P i) c)=sumN n fun b=>Q a b*sumN n fun c=>P b c*mv n (fun i=>rv (Ml i)) (P i) c:=
    prod_assoc (fun _=>Q a) P (fun c _=>mv n (fun i=>rv (Ml i)) (P i) c) 0 0
   rw [qab n fun c hc=>by rw [h.l a ha c hc],id_l ha,qab n (g:=fun _=>0) fun b hb=>(by
    rw [show (sumN n fun c=>P b c*mv n (fun i=>rv (Ml i)) (P i) c)=dgm d b i from h.g b hb i hi]
    unfold dgm
    split
    ·rename_i e; rw [e,hd,Rat.mul_zero]
    ·exact Rat.mul_zero _),qa3] at e
   exact e
  have z3:∀ a,a < n->mv n (fun i=>rv (Ml i)) (lc n x P) a=0:=fun a ha=>by
   rw [mv_lc]
   unfold lc
   rw [qab n (g:=fun _=>0) fun i hi=>(by
    by_cases hd:d i=0
    ·show x i*mv n _ (P i) a=0
     rw [mP i hi hd a ha,Rat.mul_zero]
    ·rw [z1 i hi hd,Rat.zero_mul]),qa3]
  have z4:∀ l,l < k->dot n (rv (R l)) (lc n x P)=0:=fun l hl=>dot_span (S:=Rs n fun i=>rv (Ml i)) (fun v hv=>by
   obtain ⟨i,hi,rfl⟩:=hv; exact z3 i hi) _ (rre.ub.mem l hl)
  have free:∀ c,c < n->isP p k c=false->c ∈ frL p k n:=by
   have:∀ y c,c < y->isP p k c=false->c ∈ frL p k y:=fun y=>by
    induction y with
    | zero=>intro c h; omega
    | succ y ih=>
     intro c hc hp
     unfold frL
     by_cases e:c=y
     ·subst e; rw [if_neg (by simp [hp])]; simp
     ·split
      ·exact ih c (by omega) hp
      ·exact List.mem_append_left _ (ih c (by omega) hp)
   exact this n
  have z5:∀ c,c < n->lc n x P c=0:=fun c hc=>by
   cases hp:isP p k c with
   | false=>exact z2 c (free c hc hp)
   | true=>
    obtain ⟨l,hl,rfl⟩:=(isP_iff p c k).1 hp
    have:=z4 l hl
    unfold dot at this
    rw [qbi n hc fun b hb hne=>(by
     cases hq:isP p k b with
     | false=>rw [z2 b (free b hb hq),Rat.mul_zero]
     | true=>
      obtain ⟨m,hm,rfl⟩:=(isP_iff p b k).1 hq
      rw [ok.off m hm l (by have:=ok.kn; omega) (fun e=>hne (by rw [e])),Rat.zero_mul]),ok.one l hl,Rat.one_mul] at this
    exact this
  exact hx (lc_zero h z5 j hj)
theorem bf_add_l (n:Nat) (M:Nat->RV) (u v w:RV) (c:Rat):bf n M (fun a=>u a+c*v a) w=bf n M u w+c*bf n M v w:=by
 unfold bf dot
 rw [<- qa4,<- sumN_add]
 exact qab n fun a _=>by grind
theorem bf_add_r (n:Nat) (M:Nat->RV) (u v w:RV) (c:Rat):bf n M w (fun a=>u a+c*v a)=bf n M w u+c*bf n M w v:=by
 unfold bf
 rw [show c*dot n w (mv n M v)=dot n w (fun a=>c*mv n M v a) by
  unfold dot; rw [<- qa4]; exact qab n fun a _=>by grind]
 have e:∀ a,mv n M (fun a=>u a+c*v a) a=mv n M u a+c*mv n M v a:=fun a=>by
  unfold mv dot
  rw [<- qa4,<- sumN_add]
  exact qab n fun b _=>by grind
 rw [dot_congr (fun _ _=>rfl) fun a _=>e a]
 unfold dot
 rw [<- sumN_add]
 exact qab n fun a _=>by grind
theorem bf_unv {n i j:Nat} (hi:i < n) (hj:j < n) (M:Nat->RV):bf n M (unv i) (unv j)=M i j:=by
 unfold bf
 rw [dot_unv hi]
 unfold mv
 rw [dot_comm,dot_unv hj]
theorem cg_add {n m:Nat} (hm:m < n) (M:Nat->RV) (c:RV) (hc:c m=0):CgE n M fun i j=>M i j+c i*M m j+c j*M i m+c i*c j*M m m:=by
 have key:∀ c d:RV,c m=0->d m=0->(∀ i,d i=-c i)->∀ i,i < n->∀ j,j < n->(sumN n fun a=>(unv i a+c i*unv m a)*(unv a j+d a*unv m j))=if i=j then 1 else 0:=fun c d h1 h2 h3 i hi j hj=>by
  have e:∀ a,(unv i a+c i*unv m a)*(unv a j+d a*unv m j)=unv i a*(unv a j+d a*unv m j)+c i*(unv m a*(unv a j+d a*unv m j)):=fun a=>by grind
  rw [qab n fun a _=>e a,sumN_add,qa4]
  rw [show (sumN n fun a=>unv i a*(unv a j+d a*unv m j))=unv i j+d i*unv m j from dot_unv hi fun a=>unv a j+d a*unv m j,show (sumN n fun a=>unv m a*(unv a j+d a*unv m j))=unv m j+d m*unv m j from dot_unv hm fun a=>unv a j+d a*unv m j,h2,h3]
  unfold unv
  by_cases e:i=j
  ·rw [if_pos e,if_pos e.symm]; grind
  ·rw [if_neg e,if_neg (Ne.symm e)]; grind
 refine CgE.mk (fun i a=>unv i a+c i*unv m a) (fun i a=>unv i a+(-c i)*unv m a) (fun i hi j hj=>?_) (key c (fun i=>-c i) hc (by simp [hc]) fun _=>rfl) (key (fun i=>-c i) c (by simp [hc]) hc fun i=>by grind)
 rw [bf_add_l,bf_add_r,bf_add_r,bf_unv hi hj,bf_unv hi hm,bf_unv hm hj,bf_unv hm hm]
 grind
theorem cg_perm {n:Nat} (M:Nat->RV) (τ:Nat->Nat) (h1:∀ i,i < n->τ i < n) (h2:∀ i,i < n->τ (τ i)=i):CgE n M fun i j=>M (τ i) (τ j):=by
 have key:∀ i,i < n->∀ j,j < n->(sumN n fun a=>unv (τ i) a*unv (τ a) j)=if i=j then 1 else 0:=fun i hi j hj=>by
  rw [show (sumN n fun a=>unv (τ i) a*unv (τ a) j)=unv (τ (τ i)) j from dot_unv (h1 i hi) fun a=>unv (τ a) j,h2 i hi]
  unfold unv
  by_cases e:i=j
  ·rw [if_pos e,if_pos e.symm]
  ·rw [if_neg e,if_neg (Ne.symm e)]
 exact CgE.mk (fun i=>unv (τ i)) (fun i=>unv (τ i)) (fun i hi j hj=>bf_unv (h1 i hi) (h1 j hj) M) key key
def gmk (k:Nat) (d:RV) (R:Nat->List Rat):Nat->RV:=fun i j=>if i < k ∨ j < k then (if i=j then d i else 0) else rv (R i) j
theorem gmk_ge {k i j:Nat} (d:RV) (R:Nat->List Rat) (h1:k<=i) (h2:k<=j):gmk k d R i j=rv (R i) j:=by unfold gmk; rw [if_neg (by omega)]
structure SgI (n k:Nat) (M:Nat->RV) (R:Nat->List Rat) (d:RV):Prop where
 len:∀ i,i < n->(R i).length=n
 cg:CgE n M (gmk k d R)
 sym:∀ i,k<=i->i < n->∀ j,k<=j->j < n->rv (R i) j=rv (R j) i
theorem SgI.start {n:Nat} {R:Nat->List Rat} (hl:∀ i,i < n->(R i).length=n) (hs:∀ i,i < n->∀ j,j < n->rv (R i) j=rv (R j) i) (d:RV):SgI n 0 (fun i=>rv (R i)) R d:=
 ⟨hl,(CgE.refl n _).congr fun i _ j _=>by unfold gmk; rw [if_neg (by omega)],fun i _ hi j _ hj=>hs i hi j hj⟩
theorem SgI.add {n k l m:Nat} {M:Nat->RV} {R S:Nat->List Rat} {d:RV} (h:SgI n k M R d) (hl:k<=l) (hln:l < n) (hm:k<=m) (hmn:m < n) (hne:l ≠ m) (hS:∀ i,i < n->(S i).length=n)
  (e:∀ i,k<=i->i < n->∀ j,k<=j->j < n->rv (S i) j=rv (R i) j+(if i=l then rv (R m) j else 0)+(if j=l then rv (R i) m+(if i=l then rv (R m) m else 0) else 0)):SgI n k M S d:=by
 refine ⟨hS,(h.cg.trans (cg_add hmn _ (unv l) (by unfold unv; rw [if_neg (Ne.symm hne)]))).congr fun i hi j hj=>?_,fun i h1 h2 j h3 h4=>?_⟩
 ·show gmk k d R i j+unv l i*gmk k d R m j+unv l j*gmk k d R i m+unv l i*unv l j*gmk k d R m m=gmk k d S i j
  by_cases h1:i < k
  ·unfold gmk unv
   rw [if_pos (.inl h1),if_neg (show ¬i=l by omega),if_pos (show i < k ∨ m < k from .inl h1),if_neg (show ¬i=m by omega),if_pos (show i < k ∨ j < k from .inl h1)]; grind
  ·by_cases h2:j < k
   ·unfold gmk unv
    rw [if_pos (.inr h2),if_neg (show ¬j=l by omega),if_pos (show m < k ∨ j < k from .inr h2),if_neg (show ¬m=j by omega),if_pos (show i < k ∨ j < k from .inr h2)]; grind
   ·rw [gmk_ge d R (by omega) (by omega),gmk_ge d R hm (by omega),gmk_ge d R (by omega) hm,gmk_ge d R hm hm,gmk_ge d S (by omega) (by omega),e i (by omega) hi j (by omega) hj]
    unfold unv
    by_cases a:i=l <;> by_cases b:j=l <;> simp [a,b] <;> grind
 ·rw [e i h1 h2 j h3 h4,e j h3 h4 i h1 h2,h.sym i h1 h2 j h3 h4]
  have e1:=h.sym m hm hmn j h3 h4
  have e2:=h.sym i h1 h2 m hm hmn
  by_cases a:i=l <;> by_cases b:j=l <;> simp only [a,b,if_true,if_false] at*<;> grind
theorem SgI.swap {n k l:Nat} {M:Nat->RV} {R S:Nat->List Rat} {d:RV} (h:SgI n k M R d) (hl:k<=l) (hln:l < n) (hS:∀ i,i < n->(S i).length=n) {τ:Nat->Nat} (hτ:∀ i,τ i=if i=k then l else if i=l then k else i)
  (e:∀ i,i < n->∀ j,j < n->rv (S i) j=rv (R (τ i)) (τ j)):SgI n k M S d:=by
 have t0:∀ i,i < k->τ i=i:=fun i hi=>by rw [hτ,if_neg (by omega),if_neg (by omega)]
 have t1:∀ i,k<=i->k<=τ i:=fun i hi=>by
  rw [hτ]
  split
  ·omega
  ·split <;> omega
 have t2:∀ i,i < n->τ i < n:=fun i hi=>by
  rw [hτ]
  split
  ·omega
  ·split <;> omega
 have t3:∀ i,τ (τ i)=i:=fun i=>by
  rw [hτ i]
  by_cases a:i=k
  ·rw [if_pos a,hτ]; by_cases b:l=k
   ·rw [if_pos b,a,b]
   ·rw [if_neg b,if_pos rfl,a]
  ·rw [if_neg a]
   by_cases b:i=l
   ·rw [if_pos b,hτ,if_pos rfl,b]
   ·rw [if_neg b,hτ,if_neg a,if_neg b]
 refine ⟨hS,(h.cg.trans (cg_perm _ τ (fun i hi=>t2 i hi) fun i _=>t3 i)).congr fun i hi j hj=>?_,fun i h1 h2 j h3 h4=>?_⟩
 ·show gmk k d R (τ i) (τ j)=gmk k d S i j
  by_cases h1:i < k
  ·rw [t0 i h1]
   unfold gmk
   rw [if_pos (show i < k ∨ τ j < k from .inl h1),if_pos (show i < k ∨ j < k from .inl h1)]
   by_cases h2:i=j
   ·rw [<- h2,t0 i h1]
   ·rw [if_neg h2,if_neg (fun h=>h2 (by rw [<- t3 j,<- h,t0 i h1]))]
  ·have:=t1 i (by omega)
   by_cases h2:j < k
   ·rw [t0 j h2]
    unfold gmk
    rw [if_pos (show τ i < k ∨ j < k from .inr h2),if_pos (show i < k ∨ j < k from .inr h2),if_neg (by omega),if_neg (by omega)]
   ·have:=t1 j (by omega)
    rw [gmk_ge d R (by omega) (by omega),gmk_ge d S (by omega) (by omega),e i hi j hj]
 ·rw [e i h2 j h4,e j h4 i h2]
  exact h.sym _ (t1 i h1) (t2 i h2) _ (t1 j h3) (t2 j h4)
theorem SgI.elim {n k:Nat} {M:Nat->RV} {R S:Nat->List Rat} {d:RV} (h:SgI n k M R d) (hk:k < n) (h0:rv (R k) k ≠ 0) (hS:∀ i,i < n->(S i).length=n)
  (e:∀ i,k < i->i < n->∀ j,k < j->j < n->rv (S i) j=rv (R i) j+(-(rv (R i) k / rv (R k) k))*rv (R k) j):SgI n (k+1) M S fun i=>if i=k then rv (R k) k else d i:=by
 refine ⟨hS,(h.cg.trans (cg_add hk _ (fun i=>if k < i/\i < n then -(rv (R i) k / rv (R k) k) else 0) (by show (if k < k/\k < n then _ else (0:Rat))=0; rw [if_neg (by omega)]))).congr fun i hi j hj=>?_,fun i h1 h2 j h3 h4=>?_⟩
 ·show gmk k d R i j+(if k < i/\i < n then -(rv (R i) k / rv (R k) k) else 0)*gmk k d R k j+(if k < j/\j < n then -(rv (R j) k / rv (R k) k) else 0)*gmk k d R i k+(if k < i/\i < n then -(rv (R i) k / rv (R k) k) else 0)*(if k < j/\j < n then -(rv (R j) k / rv (R k) k) else 0)*gmk k d R k k=gmk (k+1) (fun i=>if i=k then rv (R k) k else d i) S i j
  have hdv:∀ x:Rat,-(x / rv (R k) k)*rv (R k) k=-x:=fun x=>by
   rw [Rat.neg_mul,Rat.div_mul_cancel h0]
  have gkk:gmk k d R k k=rv (R k) k:=by unfold gmk; rw [if_neg (by omega)]
  rw [gkk]
  by_cases h1:i < k
  ·have e1:gmk k d R i k=0:=by unfold gmk; rw [if_pos (.inl h1),if_neg (by omega)]
   rw [e1,if_neg (show ¬(k < i/\i < n) by omega)]
   unfold gmk
   show _=if i < k+1 ∨ j < k+1 then (if i=j then (if i=k then rv (R k) k else d i) else 0) else rv (S i) j
   rw [if_pos (.inl h1),if_pos (show i < k+1 ∨ j < k+1 from .inl (by omega)),if_neg (show ¬i=k by omega)]
   grind
  ·by_cases h2:j < k
   ·have e1:gmk k d R k j=0:=by unfold gmk; rw [if_pos (.inr h2),if_neg (by omega)]
    have e2:gmk k d R i j=0:=by unfold gmk; rw [if_pos (.inr h2),if_neg (by omega)]
    rw [e1,e2,if_neg (show ¬(k < j/\j < n) by omega)]
    unfold gmk
    rw [if_pos (show i < k+1 ∨ j < k+1 from .inr (by omega)),if_neg (show ¬i=j by omega)]
    grind
   ·have e1:gmk k d R i j=rv (R i) j:=by unfold gmk; rw [if_neg (by omega)]
    have e2:gmk k d R k j=rv (R k) j:=by unfold gmk; rw [if_neg (by omega)]
    have e3:gmk k d R i k=rv (R i) k:=by unfold gmk; rw [if_neg (by omega)]
    rw [e1,e2,e3]
    by_cases a:i=k
    ·rw [if_neg (show ¬(k < i/\i < n) by omega)]
     unfold gmk
     show _=if i < k+1 ∨ j < k+1 then (if i=j then (if i=k then rv (R k) k else d i) else 0) else rv (S i) j
     rw [if_pos (show i < k+1 ∨ j < k+1 from .inl (by omega)),if_pos a,a]
     by_cases b:j=k
     ·rw [if_neg (show ¬(k < j/\j < n) by omega),if_pos b.symm,b]; grind
     ·rw [if_pos (show k < j/\j < n by omega),if_neg (Ne.symm b),h.sym k (by omega) hk j (by omega) hj]
      have:=hdv (rv (R j) k)
      grind
    ·rw [if_pos (show k < i/\i < n by omega)]
     by_cases b:j=k
     ·rw [if_neg (show ¬(k < j/\j < n) by omega)]
      unfold gmk
      rw [if_pos (show i < k+1 ∨ j < k+1 from .inr (by omega)),if_neg (show ¬i=j by omega),b]
      have:=hdv (rv (R i) k)
      grind
     ·rw [if_pos (show k < j/\j < n by omega)]
      unfold gmk
      rw [if_neg (show ¬(i < k+1 ∨ j < k+1) by omega),e i (by omega) hi j (by omega) hj]
      have:=hdv (rv (R i) k)
      grind
 ·rw [e i (by omega) h2 j (by omega) h4,e j (by omega) h4 i (by omega) h2,h.sym i (by omega) h2 j (by omega) h4,h.sym k (by omega) (by omega) j (by omega) h4,h.sym k (by omega) (by omega) i (by omega) h2,Rat.div_def,Rat.div_def]
  grind
theorem SgI.fin {n k:Nat} {M:Nat->RV} {R:Nat->List Rat} {d:RV} (h:SgI n k M R d) (hz:∀ i,k<=i->i < n->∀ j,k<=j->j < n->rv (R i) j=0):CgE n M (dgm fun i=>if i < k then d i else 0):=
 h.cg.congr fun i hi j hj=>by
  unfold gmk dgm
  by_cases h1:i < k
  ·rw [if_pos (.inl h1)]
   by_cases e:i=j
   ·rw [if_pos e,if_pos e]; show d i=if i < k then d i else 0; rw [if_pos h1]
   ·rw [if_neg e,if_neg e]
  ·by_cases h2:j < k
   ·rw [if_pos (.inr h2),if_neg (by omega),if_neg (by omega)]
   ·rw [if_neg (by omega),hz i (by omega) hi j (by omega) hj]
    by_cases e:i=j
    ·rw [if_pos e]; show 0=if i < k then d i else 0; rw [if_neg h1]
    ·rw [if_neg e]
theorem cg_prod {n:Nat} {M T B N:Nat->RV} (h1:∀ i,i < n->∀ y,y < n->(sumN n fun l=>T i l*B l y)=if y=i then 1 else 0) (h2:∀ i,i < n->∀ y,y < n->(sumN n fun l=>B i l*T l y)=if y=i then 1 else 0)
  (hN:∀ i,i < n->∀ j,j < n->N i j=bf n M (T i) (T j)):CgE n M N:=
 CgE.mk T B (fun i hi j hj=>(hN i hi j hj).symm) (fun i hi j hj=>by
  rw [h1 i hi j hj]
  by_cases e:i=j
  ·rw [if_pos e,if_pos e.symm]
  ·rw [if_neg e,if_neg (Ne.symm e)]) (fun i hi j hj=>by
  rw [h2 i hi j hj]
  by_cases e:i=j
  ·rw [if_pos e,if_pos e.symm]
  ·rw [if_neg e,if_neg (Ne.symm e)])
end Go.Abs
end
section
namespace Go.Proofs.YtjfmkcmepdedaaaGreat
open Go Go.Abs Go.Abs.M Go.Proofs
theorem gnum_neg (q:Rat):q < 0 ↔ q.num < 0:=by
 rw [<- Rat.not_le,<- Rat.num_nonneg]; omega
theorem gnum_pos (q:Rat):0 < q ↔ 0 < q.num:=by
 have h:=gnum_neg (-q)
 rw [show (-q).num=-q.num from rfl] at h
 have:-q < 0 ↔ 0 < q:=by grind
 rw [<- this,h]; omega
theorem gcmp_spec (a:Int):(cmpI a 0 < 0 ↔ a < 0)/\(0 < cmpI a 0 ↔ 0 < a):=by
 unfold cmpI
 split
 ·omega
 ·split <;> omega
theorem gsign_ex (q:Rat):∃ c:Int,(c < 0 ↔ q < 0)/\(0 < c ↔ 0 < q)/\ACall Tryz.prog 36 [.val (.agg (qc q).row)] ⟨[.val (ti .i64 c)],[none]⟩:=
 ⟨cmpI q.num 0,by rw [gnum_neg]; exact (gcmp_spec _).1,by rw [gnum_pos]; exact (gcmp_spec _).2,qsign_call _ (qc_isR q).n rfl⟩
theorem sq_ex {n k K:Nat} {M:Nat->RV} {R:Nat->List Rat} {d:RV} (hn:n<=4) (hk:k < n) (h:SgI n k M R d) (hq:∀ i,i < n->∀ q ∈ R i,Qs q K) (hK:K<=100000000) {X:Nat->Abs.Rows} (hX:∀ i,i < n->X i=ur (R i)) {J:Int} (hJ:J=k) :
  ((∀ i,k<=i->i < n->∀ j,k<=j->j < n->rv (R i) j=0)/\HCall Tryz.prog 77 ⟨[.c (.sl 0 0 n false),vi .i64 J],mrh n n X⟩ ⟨[vb false],mrh n n X⟩) ∨
  ∃ (l:Nat) (S:Nat->List Rat),k<=l/\l < n/\SgI n k M S d/\rv (S l) l ≠ 0/\(∀ i,i < n->∀ q ∈ S i,Qs q (5*K+10))/\HCall Tryz.prog 77 ⟨[.c (.sl 0 0 n false),vi .i64 J],mrh n n X⟩ ⟨[vb true],mrp n k l n fun i=>ur (swl l k (S i))⟩:=by
 by_cases hA:∃ i,k<=i/\i < n/\rv (R i) i ≠ 0
 ·have:∀ m,(∃ i,k<=i/\i < k+m/\i < n/\rv (R i) i ≠ 0)->∃ l,k<=l/\l < n/\rv (R l) l ≠ 0/\∀ i,k<=i->i < l->rv (R i) i=0:=fun m=>by
   induction m with
   | zero=>rintro ⟨i,h1,h2,_⟩; omega
   | succ m ih=>
    intro hm
    by_cases hc:∃ i,k<=i/\i < k+m/\i < n/\rv (R i) i ≠ 0
    ·exact ih hc
    ·obtain ⟨i,h1,h2,h3,h4⟩:=hm
     refine ⟨i,h1,h3,h4,fun j h5 h6=>?_⟩
     apply Classical.byContradiction
     intro h7
     exact hc ⟨j,h5,by omega,by omega,h7⟩
  obtain ⟨i,h1,h2,h3⟩:=hA
  obtain ⟨l,g1,g2,g3,g4⟩:=this n ⟨i,h1,by omega,h2,h3⟩
  exact .inr ⟨l,R,g1,g2,h,g3,fun i hi q hh=>(hq i hi q hh).mono (by omega),msA n k l hn g1 g2 R h.len g4 g3 hJ hX (fun _ _=>rfl)⟩
 ·have hd:∀ i,k<=i->i < n->rv (R i) i=0:=fun i h1 h2=>Classical.byContradiction fun h3=>hA ⟨i,h1,h2,h3⟩
  by_cases hB:∃ i,k<=i/\i < n/\∃ j,k<=j/\j < n/\rv (R i) j ≠ 0
  ·have r1:∀ m,(∃ i,k<=i/\i < k+m/\i < n/\∃ j,k<=j/\j < n/\rv (R i) j ≠ 0)->∃ l,k<=l/\l < n/\(∃ j,k<=j/\j < n/\rv (R l) j ≠ 0)/\∀ i,k<=i->i < l->∀ j,k<=j->j < n->rv (R i) j=0:=fun m=>by
    induction m with
    | zero=>rintro ⟨i,h1,h2,_⟩; omega
    | succ m ih=>
     intro hm
     by_cases hc:∃ i,k<=i/\i < k+m/\i < n/\∃ j,k<=j/\j < n/\rv (R i) j ≠ 0
     ·exact ih hc
     ·obtain ⟨i,h1,h2,h3,h4⟩:=hm
      refine ⟨i,h1,h3,h4,fun j h5 h6 x h8 h9=>?_⟩
      apply Classical.byContradiction
      intro h7
      exact hc ⟨j,h5,by omega,by omega,x,h8,h9,h7⟩
   obtain ⟨i0,a1,a2,a3⟩:=hB
   obtain ⟨l,g1,g2,g3,g4⟩:=r1 n ⟨i0,a1,by omega,a2,a3⟩
   have r2:∀ m,(∃ j,k<=j/\j < k+m/\j < n/\rv (R l) j ≠ 0)->∃ j,k<=j/\j < n/\rv (R l) j ≠ 0/\∀ i,k<=i->i < j->rv (R l) i=0:=fun m=>by
    induction m with
    | zero=>rintro ⟨i,h1,h2,_⟩; omega
    | succ m ih=>
     intro hm
     by_cases hc:∃ i,k<=i/\i < k+m/\i < n/\rv (R l) i ≠ 0
     ·exact ih hc
     ·obtain ⟨i,h1,h2,h3,h4⟩:=hm
      refine ⟨i,h1,h3,h4,fun j h5 h6=>?_⟩
      apply Classical.byContradiction
      intro h7
      exact hc ⟨j,h5,by omega,by omega,h7⟩
   obtain ⟨j0,b1,b2,b3⟩:=g3
   obtain ⟨m,e1,e2,e3,e4⟩:=r2 n ⟨j0,b1,by omega,b2,b3⟩
   have hlm:l < m:=by
    rcases Nat.lt_trichotomy l m with q | q | q
    ·exact q
    ·rw [<- q] at e3; exact absurd (hd l g1 g2) e3
    ·exact absurd (by rw [h.sym l g1 g2 m e1 e2]; exact g4 m e1 q l g1 g2) e3
   have lP:(adP l m R).length=n:=by rw [adP_len l m R (by rw [h.len m e2,h.len l g2]; omega),h.len l g2]
   have lA:∀ i,i < n->(adR l m R i).length=n:=fun i hi=>by
    unfold adR
    rw [adl_len]
    split
    ·exact lP
    ·exact h.len i hi
   have hP:∀ j,rv (adP l m R) j=rv (R l) j+rv (R m) j:=fun j=>by
    have:=pacc0_get (P:=R l) (Q:=R m) (-((-1:Int):Rat)) (by rw [h.len m e2,h.len l g2]) j
    unfold rv adP
    rw [this,show -((-1:Int):Rat)=1 by decide,Rat.one_mul]
   have hA2:∀ P:List Rat,P.length=n->∀ j,rv (adl l m P) j=rv P j+if j=l then rv P m else 0:=fun P hPl j=>by
    unfold rv adl
    rw [List.getD_eq_getElem?_getD,List.getElem?_set]
    by_cases e:j=l
    ·rw [if_pos e.symm,if_pos (by omega),if_pos e,e]; rfl
    ·rw [if_neg (Ne.symm e),if_neg e,<- List.getD_eq_getElem?_getD,Rat.add_zero]
   have eA:∀ i,i < n->∀ j,rv (adR l m R i) j=rv (R i) j+(if i=l then rv (R m) j else 0)+(if j=l then rv (R i) m+(if i=l then rv (R m) m else 0) else 0):=fun i hi j=>by
    unfold adR
    by_cases e:i=l
    ·rw [if_pos e,hA2 _ lP,hP,hP,if_pos e,if_pos e,e]
    ·rw [if_neg e,hA2 _ (h.len i hi),if_neg e,if_neg e,Rat.add_zero,Rat.add_zero]
   have h1:rv (adR l m R l) l ≠ 0:=by
    rw [eA l g2 l,if_pos rfl,if_pos rfl,if_pos rfl,hd l g1 g2,hd m e1 e2,h.sym m e1 e2 l g1 g2]
    intro hh
    exact e3 (by grind)
   have qP:∀ q ∈ adP l m R,Qs q (2*K+2):=fun q hqq=>by
    obtain ⟨y,hy,rfl⟩:=List.getElem_of_mem hqq
    have e:(adP l m R)[y]=(adP l m R).getD y 0:=by rw [List.getD_eq_getElem?_getD,List.getElem?_eq_getElem hy]; rfl
    rw [e,adP,pacc0_get _ (by rw [h.len m e2,h.len l g2])]
    have g:∀ i,i < n->Qs ((R i).getD y 0) K:=fun i hi=>hq i hi _ (by rw [List.getD_eq_getElem?_getD,List.getElem?_eq_getElem (by rw [h.len i hi]; omega)]; exact List.getElem_mem _)
    exact (add_small (g l g2) (mul_small (Qs.whole (n:=-1) (by decide) (Nat.le_refl 1)).neg (g m e2))).mono (by omega)
   refine .inr ⟨l,adR l m R,g1,g2,h.add g1 g2 e1 e2 (by omega) lA fun i _ hi j _ _=>eA i hi j,h1,fun i hi q hh=>?_,msB n k l m hn g1 hlm e2 R h.len K hK hq hd (fun i a b j c dd hor=>?_) e3 h1 hJ hX (fun _ _=>rfl)⟩
   ·have gen:∀ P:List Rat,P.length=n->(∀ q ∈ P,Qs q (2*K+2))->∀ q ∈ adl l m P,Qs q (5*K+10):=fun P hPl hPq q hh=>by
     have g:∀ y,y < P.length->Qs (P.getD y 0) (2*K+2):=fun y hy=>hPq _ (by rw [List.getD_eq_getElem?_getD,List.getElem?_eq_getElem hy]; exact List.getElem_mem _)
     rcases List.mem_or_eq_of_mem_set hh with h1 | h1
     ·exact (hPq q h1).mono (by omega)
     ·rw [h1]; exact (add_small (g l (by omega)) (g m (by omega))).mono (by omega)
    unfold adR at hh
    split at hh
    ·exact gen _ lP qP q hh
    ·exact gen _ (h.len i hi) (fun q h=>(hq i hi q h).mono (by omega)) q hh
   ·by_cases hil:i < l
    ·exact g4 i a hil j c dd
    ·obtain rfl:i=l:=by omega
     rcases hor with hor | hor
     ·exact absurd hor (by omega)
     ·exact e4 j c hor
  ·have hz:∀ i,k<=i->i < n->∀ j,k<=j->j < n->rv (R i) j=0:=fun i h1 h2 j h3 h4=>Classical.byContradiction fun h5=>hB ⟨i,h1,h2,j,h3,h4,h5⟩
   exact .inl ⟨hz,msC n k hn (by omega) R h.len hz hJ hX⟩
theorem cnt_ext {n:Nat} {p q:Nat->Bool} (h:∀ i,i < n->p i=q i):cnt n p=cnt n q:=by
 unfold cnt
 rw [List.filter_congr fun i hi=>h i (List.mem_range.1 hi)]
theorem cnt_succ (n:Nat) (p:Nat->Bool):cnt (n+1) p=cnt n p+if p n=true then 1 else 0:=by
 unfold cnt
 rw [List.range_succ,List.filter_append,List.length_append]
 cases h:p n <;> simp [h]
theorem cnt_pad {n k:Nat} {p:Nat->Bool} (hk:k<=n) (h:∀ i,k<=i->i < n->p i=false):cnt n p=cnt k p:=by
 obtain ⟨m,rfl⟩:∃ m,n=k+m:=⟨n - k,by omega⟩
 clear hk
 induction m with
 | zero=>rfl
 | succ m ih=>
  show cnt (k+m+1) p=_
  rw [cnt_succ,ih fun i h1 h2=>h i h1 (by omega),h (k+m) (by omega) (by omega)]
  simp
theorem cnt_cutP (d:RV) {k n:Nat} (hk:k<=n):cnt n (fun i=>decide (0 < (if i < k then d i else 0)))=cnt k fun i=>decide (0 < d i):=by
 rw [cnt_pad hk fun i a b=>by rw [if_neg (by omega)]; rfl]
 exact cnt_ext fun i hi=>by rw [if_pos hi]
theorem cnt_cutN (d:RV) {k n:Nat} (hk:k<=n):cnt n (fun i=>decide ((if i < k then d i else 0) < 0))=cnt k fun i=>decide (d i < 0):=by
 rw [cnt_pad hk fun i a b=>by rw [if_neg (by omega)]; rfl]
 exact cnt_ext fun i hi=>by rw [if_pos hi]
theorem cnt_newP (d:RV) (k:Nat) (x:Rat):cnt (k+1) (fun i=>decide (0 < (if i=k then x else d i)))=cnt k (fun i=>decide (0 < d i))+if 0 < x then 1 else 0:=by
 rw [cnt_succ,cnt_ext (q:=fun i=>decide (0 < d i)) fun i hi=>by rw [if_neg (by omega)]]
 simp only [if_true,decide_eq_true_eq]
theorem cnt_newN (d:RV) (k:Nat) (x:Rat):cnt (k+1) (fun i=>decide ((if i=k then x else d i) < 0))=cnt k (fun i=>decide (d i < 0))+if x < 0 then 1 else 0:=by
 rw [cnt_succ,cnt_ext (q:=fun i=>decide (d i < 0)) fun i hi=>by rw [if_neg (by omega)]]
 simp only [if_true,decide_eq_true_eq]
def sgK:Nat->Nat->Nat
 | 0,K=>K
 | m+1,K=>sgK m (20*K+50)
theorem sgK_le:∀ m K,K<=sgK m K
 | 0,K=>Nat.le_refl _
 | m+1,K=>Nat.le_trans (by omega) (sgK_le m (20*K+50))
theorem sg_ex {n:Nat} (hn:n<=4) {M:Nat->RV}:∀ (m k:Nat) (R:Nat->List Rat) (d:RV) (K:Nat) (X:Nat->Abs.Rows),m+k=n->SgI n k M R d->(∀ i,i < n->∀ q ∈ R i,Qs q K)->sgK m K<=100000000->(∀ i,i < n->X i=ur (R i)) ->
  ∃ (e:RV) (P Q:Nat),CgE n M (dgm e)/\P=cnt n (fun i=>decide (0 < e i))/\Q=cnt n (fun i=>decide (e i < 0))/\SgRun n k X (cnt k fun i=>decide (0 < d i)) (cnt k fun i=>decide (d i < 0)) P Q
 | 0,k,R,d,K,X,hm,h,hq,hK,hX=>by
  obtain rfl:k=n:=by omega
  refine ⟨_,_,_,h.fin (fun i h1 h2=>by omega),rfl,rfl,?_⟩
  rw [cnt_cutP d (Nat.le_refl _),cnt_cutN d (Nat.le_refl _)]
  exact .done
 | m+1,k,R,d,K,X,hm,h,hq,hK,hX=>by
  have hkn:k < n:=by omega
  have hK0:=sgK_le (m+1) K
  rcases sq_ex hn hkn h hq (by omega) hX rfl with ⟨hz,hc⟩ | ⟨l,S,h1,h2,hS,h0,qS,hc⟩
  ·refine ⟨_,_,_,h.fin hz,rfl,rfl,?_⟩
   rw [cnt_cutP d (by omega),cnt_cutN d (by omega)]
   exact .stop hkn hc
  ·obtain ⟨T,hT⟩:∃ T:Nat->List Rat,T=fun i=>swl l k (S (tsw k l i)):=⟨_,rfl⟩
   have lt:∀ i,i < n->tsw k l i < n:=fun i hi=>by unfold tsw; split <;> (try split) <;> omega
   have lT:∀ i,i < n->(T i).length=n:=fun i hi=>by rw [hT]; show (swl l k (S (tsw k l i))).length=n; rw [swl_len,hS.len _ (lt i hi)]
   have qT:∀ i,i < n->∀ q ∈ T i,Qs q (5*K+10):=fun i hi=>by
    rw [hT]
    exact swl_qs (by rw [hS.len _ (lt i hi)]; omega) (by rw [hS.len _ (lt i hi)]; omega) (qS _ (lt i hi))
   have eT:∀ i,i < n->∀ j,j < n->rv (T i) j=rv (S (tsw k l i)) (tsw k l j):=fun i hi j hj=>by
    rw [hT]
    exact swl_rv (by rw [hS.len _ (lt i hi)]; omega) (by rw [hS.len _ (lt i hi)]; omega) j
   have hT1:=hS.swap h1 h2 lT (τ:=tsw k l) (fun i=>rfl) eT
   have tk:tsw k l k=l:=if_pos rfl
   have hp0:rv (T k) k ≠ 0:=by rw [eT k hkn k hkn,tk]; exact h0
   obtain ⟨U,hU⟩:∃ U:Nat->List Rat,U=fun i=>if i<=k then T i else elm (T i) (T k) k:=⟨_,rfl⟩
   have lU:∀ i,i < n->(U i).length=n:=fun i hi=>by
    rw [hU]
    show (if i<=k then T i else elm (T i) (T k) k).length=n
    split
    ·exact lT i hi
    ·rw [elm_len]; exact lT i hi
   have hU1:=hT1.elim hkn hp0 lU fun i h3 h4 j _ _=>by
    rw [hU]
    show rv (if i<=k then T i else elm (T i) (T k) k) j=_
    rw [if_neg (by omega),elm_rv (by rw [lT i h4,lT k hkn])]; rfl
   have qU:∀ i,i < n->∀ q ∈ U i,Qs q (20*K+50):=fun i hi=>by
    rw [hU]
    show ∀ q ∈ (if i<=k then T i else elm (T i) (T k) k),_
    split
    ·exact fun q h=>(qT i hi q h).mono (by omega)
    ·exact fun q h=>(elm_qs (qT i hi) (qT k hkn) (by rw [lT i hi,lT k hkn]) (by rw [lT i hi]; exact hkn) hp0 q h).mono (by omega)
   obtain ⟨sg,s,t,r,p,sp,sn,u,cs⟩:∃ (sg:Int) (s t:Bool) (r p:Abs.Rows),(0 < sg ↔ 0 < rv (T k) k)/\(sg < 0 ↔ rv (T k) k < 0)/\(ur (swl l k (S l)))[k]?=some [.v (.bool s),.lst false r,.v (.bool t),.lst false p]/\ACall Tryz.prog 36 [.val (.agg [.v (.bool s),.lst false r,.v (.bool t),.lst false p])] ⟨[.val (ti .i64 sg)],[none]⟩:=by
    obtain ⟨s,t,r,p,h5,h6⟩:=qbo (P:=swl l k (S l)) (k:=k) (by rw [swl_len,hS.len l h2]; exact hkn)
    have e:T k=swl l k (S l):=by rw [hT]; show swl l k (S (tsw k l k))=_; rw [tk]
    obtain ⟨c,c1,c2,c3⟩:=gsign_ex (rv (T k) k)
    rw [<- e] at h5 h6 ⊢
    have h5:(qc (rv (T k) k)).row=_:=h5
    rw [h5] at c3
    exact ⟨c,s,t,r,p,c2,c1,h6,c3⟩
   have hK2:sgK m (20*K+50)<=100000000:=hK
   obtain ⟨e,P,Q,r1,r2,r3,r4⟩:=sg_ex hn m (k+1) U _ (20*K+50) (fun i=>if k+1<=i/\i < k+1+(n - k - 1) then ur (elm (T i) (T k) k) else ur (T i)) (by omega) hU1 qU hK2 (fun i hi=>by
    rw [hU]
    show _=ur (if i<=k then T i else elm (T i) (T k) k)
    by_cases h:i<=k
    ·rw [if_neg (by omega),if_pos h]
    ·rw [if_pos (by omega),if_neg h])
   refine ⟨e,P,Q,r1,r2,r3,.step h1 h2 hc u cs (melim n (k+1) (n - k - 1) k hn hkn (.inr ⟨rfl,rfl⟩) T n k (5*K+10) (by omega) hkn (by omega) lT qT hp0 rfl (fun i hi=>by rw [hT]) (fun i hi=>rfl)) ?_⟩
   rw [cnt_newP,cnt_newN] at r4
   by_cases hpos:0 < sg
   ·have a1:=sp.1 hpos
    rw [if_pos a1,if_neg (by intro h; exact absurd a1 (by grind))] at r4
    rw [if_pos hpos,if_pos hpos]
    exact r4
   ·have a1:¬0 < rv (T k) k:=fun h=>hpos (sp.2 h)
    rw [if_neg a1,if_pos (by grind)] at r4
    rw [if_neg hpos,if_neg hpos]
    exact r4
end Go.Proofs.YtjfmkcmepdedaaaGreat
end
