/-
  A part of the proof: QrbC1k, MtW, MxW1k, WxM1k, WxX1k, WxE1k, WxP1k, WxK1k, WxS1k, LawMxV1k, LawMxM1k, GabsMemo, Memo1kA, Memo1kB, Memo1kC, Memo1kD, Memo1kE, Memo1kF.
-/
import Derived.Test.YtjfmkcmepdedaaaGreatM17
set_option maxHeartbeats 0
set_option maxRecDepth 100000
set_option linter.unusedVariables false
set_option linter.unusedSimpArgs false
set_option linter.unusedSectionVars false
section
namespace Go.Proofs.YtjfmkcmepdedaaaGreat
open Go Go.Abs Go.Abs.M Go.Proofs
theorem rqnew_call {x y:Int} {s t:Bool} {r q:Abs.Rows} (hx:IsI x s r) (hy:IsI y t q) (hy0:y ≠ 0) (h1:nl x.natAbs<=274877906944) (h2:nl y.natAbs<=274877906944) :
  ∃ u w v p,IsR (Rat.divInt x y) u w v p/\ACall Tryz.prog 112 [.val (.agg (iT s r)),.val (.agg (iT t q))] ⟨[.val (.agg (iT u w ++ iT v p)),.val (ti .i64 0)],[none,none]⟩:=by
 obtain ⟨u,w,v,p,hr,c⟩:=qbn hx hy hy0 h1 h2
 have cs:=rsign_call (cmpI y 0) hy rfl
 refine ⟨u,w,v,p,hr,?_⟩
 have e0:cmpI y 0 ≠ 0:=fun h=>hy0 ((cmp00 _).1 h)
 generalize cmpI y 0=sg at *
 refine callZ ccOk mixed [.val,.val] Tryz.func112 rfl rfl (by kernel_rfl) fun zA zB zC zD zE zF zG zH zI zJ zK zL zM zN zO zP zQ zR zT zU zV zX zY zZ zb zc zd ze zg zh zi zj zk zl zm zn zo zq zr zs zt zu zx zy zz zmget zmset zW zth A L F hS hF=>?_
 have z1:zM sg 0=false:=by rw [hS.eq]; exact decide_eq_false e0
 cbv
 refine ⟨_,hS.call (cs),?_⟩
 cbv
 refine bF (z1) ?_
 refine ⟨_,hS.call (c),?_⟩
 cbv
 exact hF _ (ResLe.refl _)
theorem rqinv_row {x:Rat} {a:Nat} (h0:x ≠ 0) (h1:Qs x a) (h:a<=68719476736) :
  Qs x⁻¹ a/\ACall Tryz.prog 99 [.val (.agg (qc x).row)] ⟨[.val (.agg (qc x⁻¹).row),.val (ti .i64 0)],[none]⟩:=by
 refine ⟨inv_small h0 h1,?_⟩
 obtain ⟨x1,x2⟩:=h1
 have hn:x.num ≠ 0:=fun e=>h0 (Rat.num_eq_zero.1 e)
 obtain ⟨u,w,v,p,hr,c⟩:=rqnew_call (qbu x).d (qbu x).n hn (by rw [Int.natAbs_natCast]; omega) (by omega)
 rw [show Rat.divInt (x.den:Int) x.num=x⁻¹ from (Rat.inv_def x).symm] at hr
 rw [qc_row hr] at c
 obtain ⟨s1,t1,r1,p1,hrow,_⟩:=qrow x⁻¹
 rw [hrow] at c ⊢
 show ACall _ _ [.val (.agg (iT (qc x).s (W .u32 (qc x).l) ++ iT (qc x).t (W .u32 (qc x).m)))] _
 clear hr x1 x2 hn hrow
 generalize (qc x).s=s2 at *
 generalize (qc x).t=t2 at *
 generalize W .u32 (qc x).l=r2 at *
 generalize W .u32 (qc x).m=p2 at *
 refine callZ ccOk mixed [.val,.val] Tryz.func99 rfl rfl (by kernel_rfl) fun zA zB zC zD zE zF zG zH zI zJ zK zL zM zN zO zP zQ zR zT zU zV zX zY zZ zb zc zd ze zg zh zi zj zk zl zm zn zo zq zr zs zt zu zx zy zz zmget zmset zW zth A L F hS hF=>?_
 cbv
 refine ⟨_,hS.call (c),?_⟩
 cbv
 exact hF _ (ResLe.refl _)
end Go.Proofs.YtjfmkcmepdedaaaGreat
end
section
namespace Go.Abs
def ldf (P:List Rat):Nat->Nat->Nat
 | 0,j=>j
 | m+1,j=>if P.getD j 0=0 then ldf P m (j+1) else j
def ld (P:List Rat):Nat:=ldf P P.length 0
def cmbL (P:List Rat) (c:Rat) (Q:List Rat) (i:Nat):List Rat:=(List.range i).map fun j=>P.getD j 0+c*Q.getD j 0
theorem cmbL_len (P:List Rat) (c:Rat) (Q:List Rat) (i:Nat):(cmbL P c Q i).length=i:=by simp [cmbL]
theorem cmbL_succ (P:List Rat) (c:Rat) (Q:List Rat) (i:Nat):cmbL P c Q (i+1)=cmbL P c Q i ++ [P.getD i 0+c*Q.getD i 0]:=by simp [cmbL,List.range_succ]
def cmb (P:List Rat) (c:Rat) (Q:List Rat):List Rat:=cmbL P c Q P.length
theorem cmb_len (P:List Rat) (c:Rat) (Q:List Rat):(cmb P c Q).length=P.length:=cmbL_len _ _ _ _
theorem rv_ge {P:List Rat} {y:Nat} (h:P.length<=y):rv P y=0:=by
 unfold rv
 rw [List.getD_eq_getElem?_getD,List.getElem?_eq_none h]; rfl
theorem cmb_rv {P:List Rat} {c:Rat} {Q:List Rat} (h:Q.length=P.length) (y:Nat):rv (cmb P c Q) y=rv P y+c*rv Q y:=by
 by_cases hy:y < P.length
 ·unfold rv cmb cmbL
  rw [List.getD_eq_getElem?_getD]; simp [List.getElem?_map,List.getElem?_range hy]
 ·rw [rv_ge (by rw [cmb_len]; omega),rv_ge (P:=P) (by omega),rv_ge (P:=Q) (by omega)]; grind
theorem ldf_spec (P:List Rat):∀ m j,(ldf P m j=j+m/\∀ y,j<=y->y < j+m->rv P y=0) ∨ (j<=ldf P m j/\ldf P m j < j+m/\rv P (ldf P m j) ≠ 0/\∀ y,j<=y->y < ldf P m j->rv P y=0)
 | 0,j=>.inl ⟨rfl,fun y h1 h2=>by omega⟩
 | m+1,j=>by
  unfold ldf
  by_cases h0:P.getD j 0=0
  ·rw [if_pos h0]
   rcases ldf_spec P m (j+1) with ⟨h1,h2⟩ | ⟨h1,h2,h3,h4⟩
   ·refine .inl ⟨by omega,fun y hy1 hy2=>?_⟩
    by_cases e:y=j
    ·rw [e]; exact h0
    ·exact h2 y (by omega) (by omega)
   ·refine .inr ⟨by omega,by omega,h3,fun y hy1 hy2=>?_⟩
    by_cases e:y=j
    ·rw [e]; exact h0
    ·exact h4 y (by omega) hy2
  ·rw [if_neg h0]
   exact .inr ⟨Nat.le_refl _,by omega,h0,fun y h1 h2=>by omega⟩
theorem ld_spec (P:List Rat):(ld P=P.length/\∀ y,rv P y=0) ∨ (ld P < P.length/\rv P (ld P) ≠ 0/\∀ y,y < ld P->rv P y=0):=by
 rcases ldf_spec P P.length 0 with ⟨h1,h2⟩ | ⟨h1,h2,h3,h4⟩
 ·refine .inl ⟨by unfold ld; omega,fun y=>?_⟩
  by_cases hy:y < P.length
  ·exact h2 y (by omega) (by omega)
  ·exact rv_ge (by omega)
 ·exact .inr ⟨by unfold ld; omega,h3,fun y hy=>h4 y (by omega) hy⟩
theorem ld_uniq {P:List Rat} {j:Nat} (h1:rv P j ≠ 0) (h2:∀ y,y < j->rv P y=0):ld P=j:=by
 rcases ld_spec P with ⟨_,h⟩ | ⟨_,h3,h4⟩
 ·exact absurd (h j) h1
 ·rcases Nat.lt_trichotomy (ld P) j with a | a | a
  ·exact absurd (h2 _ a) h3
  ·exact a
  ·exact absurd (h4 j a) h1
def rr (O:Nat->List Rat) (P:List Rat):Nat->List Rat
 | 0=>P
 | l+1=>cmb (rr O P l) (-((rr O P l).getD (ld (O l)) 0)) (O l)
def cntB (O:Nat->List Rat) (j:Nat):Nat->Nat
 | 0=>0
 | k+1=>if ld (O k) < j then k+1 else cntB O j k
def insR (O:Nat->List Rat) (Q:List Rat) (j c:Nat):Nat->List Rat:=fun i=>
 if i < c then cmb (O i) (-((O i).getD j 0)) Q else if i=c then Q else cmb (O (i - 1)) (-((O (i - 1)).getD j 0)) Q
structure REs where
 k:Nat
 O:Nat->List Rat
def reQ (w:Nat) (P:List Rat):List Rat:=cmb (List.replicate w 0) (P.getD (ld P) 0)⁻¹ P
def reNext (w:Nat) (s:REs) (P:List Rat):REs:=
 if ld (rr s.O P s.k)=w then s else ⟨s.k+1,insR s.O (reQ w (rr s.O P s.k)) (ld (rr s.O P s.k)) (cntB s.O (ld (rr s.O P s.k)) s.k)⟩
def reIt (w:Nat) (M:Nat->List Rat):Nat->REs
 | 0=>⟨0,fun _=>[]⟩
 | i+1=>reNext w (reIt w M i) (M i)
theorem UB.congr {S T:RV->Prop} {k:Nat} {b:Nat->RV} {c:Nat->Nat} (h:UB T k b c) (e:SpE S T):UB S k b c:=
 ⟨fun i hi=>e.r _ (h.mem i hi),h.one,h.off,fun v hv=>h.gen v (e.l v hv)⟩
structure REI (w i:Nat) (M:Nat->List Rat) (s:REs):Prop where
 len:∀ l,l < s.k->(s.O l).length=w
 rre:RRE (Rs i fun l=>rv (M l)) s.k (fun l=>rv (s.O l)) (fun l=>ld (s.O l))
 lt:∀ l,l < s.k->ld (s.O l) < w
 kn:s.k<=i
theorem rr_len {O:Nat->List Rat} {P:List Rat}:∀ l,(rr O P l).length=P.length
 | 0=>rfl
 | l+1=>by rw [rr,cmb_len,rr_len l]
theorem rr_rv {O:Nat->List Rat} {P:List Rat} {k:Nat} (hl:∀ l,l < k->(O l).length=P.length) (hoff:∀ l,l < k->∀ l',l' < k->l' ≠ l->rv (O l) (ld (O l'))=0):∀ l,l<=k->∀ y,rv (rr O P l) y=rv P y - sumN l fun l'=>rv P (ld (O l'))*rv (O l') y
 | 0,_,y=>by simp only [rr,sumN]; grind
 | l+1,h,y=>by
  have ih:=rr_rv hl hoff l (by omega)
  rw [rr,cmb_rv (by rw [rr_len,hl l (by omega)]),ih y]
  have e:(rr O P l).getD (ld (O l)) 0=rv P (ld (O l)):=by
   show rv (rr O P l) (ld (O l))=_
   rw [ih,qa3 l (g:=fun _=>0) fun l' hl'=>by rw [hoff l' (by omega) l (by omega) (by omega),Rat.mul_zero],sumN_zero]; grind
  rw [e,sumN]; grind
theorem cntB_spec (O:Nat->List Rat) (j:Nat):∀ k,(∀ i l,i < l->l < k->ld (O i) < ld (O l))->cntB O j k<=k/\(∀ l,l < cntB O j k->ld (O l) < j)/\∀ l,cntB O j k<=l->l < k->j<=ld (O l)
 | 0,_=>⟨Nat.le_refl _,by unfold cntB; omega,by omega⟩
 | k+1,h=>by
  have ih:=cntB_spec O j k fun i l h1 h2=>h i l h1 (by omega)
  unfold cntB
  by_cases hk:ld (O k) < j
  ·rw [if_pos hk]
   refine ⟨Nat.le_refl _,fun l hl=>?_,by omega⟩
   by_cases e:l=k
   ·rw [e]; exact hk
   ·have:=h l k (by omega) (by omega); omega
  ·rw [if_neg hk]
   refine ⟨by omega,ih.2.1,fun l h1 h2=>?_⟩
   by_cases e:l=k
   ·rw [e]; omega
   ·exact ih.2.2 l h1 (by omega)
theorem REI.step {w i:Nat} {M:Nat->List Rat} {s:REs} (h:REI w i M s) (hl:(M i).length=w):REI w (i+1) M (reNext w s (M i)):=by
 have hoff:∀ l,l < s.k->∀ l',l' < s.k->l' ≠ l->rv (s.O l) (ld (s.O l'))=0:=fun l h1 l' h2 h3=>h.rre.ub.off l h1 l' h2 h3
 have hrr:=rr_rv (P:=M i) (k:=s.k) (fun l hlk=>by rw [h.len l hlk,hl]) hoff s.k (Nat.le_refl _)
 have hlen:(rr s.O (M i) s.k).length=w:=by rw [rr_len,hl]
 have hold:∀ v,Sp (Rs i fun l=>rv (M l)) v->Sp (Rs (i+1) fun l=>rv (M l)) v:=fun v hv=>hv.trans fun u ⟨l,hl',e⟩=>e ▸ .row (R:=fun l=>rv (M l)) (by omega)
 have hO:∀ l,l < s.k->Sp (Rs (i+1) fun l=>rv (M l)) (rv (s.O l)):=fun l hlk=>hold _ (h.rre.ub.mem l hlk)
 unfold reNext
 rcases ld_spec (rr s.O (M i) s.k) with ⟨h1,h2⟩ | ⟨h1,h2,h3⟩
 ·rw [if_pos (h1.trans hlen)]
  have hPi:Sp (Rs s.k fun l=>rv (s.O l)) (rv (M i)):=(sp_sum (M:=fun l=>rv (s.O l)) (fun l=>rv (M i) (ld (s.O l))) s.k (Nat.le_refl _)).cast fun y=>by
   have:=hrr y
   rw [h2 y] at this; grind
  have hub:UB (Rs s.k fun l=>rv (s.O l)) s.k (fun l=>rv (s.O l)) (fun l=>ld (s.O l)):=UB.of_rows h.rre.ub.one h.rre.ub.off
  refine ⟨h.len,⟨hub.congr (SpE.of (fun l hl'=>?_) hO),h.rre.lead,h.rre.inc⟩,h.lt,by have:=h.kn; omega⟩
  by_cases e:l=i
  ·rw [e]; exact hPi
  ·exact (sp_sum (M:=fun l=>rv (s.O l)) (fun l'=>rv (M l) (ld (s.O l'))) s.k (Nat.le_refl _)).cast fun y=>h.rre.ub.gen _ (.row (R:=fun l=>rv (M l)) (show l < i by omega)) y
 ·rw [if_neg (by omega)]
  obtain ⟨P1,hP1⟩:∃ P,P=rr s.O (M i) s.k:=⟨_,rfl⟩
  rw [<- hP1] at h1 h2 h3 hrr hlen ⊢
  obtain ⟨j,hj⟩:∃ j,j=ld P1:=⟨_,rfl⟩
  rw [<- hj] at h1 h2 h3 ⊢
  obtain ⟨Q,hQ⟩:∃ Q,Q=reQ w P1:=⟨_,rfl⟩
  rw [<- hQ]
  have lQ:Q.length=w:=by rw [hQ,reQ,cmb_len]; simp
  have rQ:∀ y,rv Q y=(rv P1 j)⁻¹*rv P1 y:=fun y=>by
   rw [hQ,reQ,cmb_rv (by simp [hlen]),<- hj]
   have:rv (List.replicate w (0:Rat)) y=0:=by
    unfold rv
    rw [List.getD_eq_getElem?_getD,List.getElem?_replicate]
    split <;> rfl
   rw [this,Rat.zero_add]; rfl
  have Qj:rv Q j=1:=by rw [rQ,Rat.inv_mul_cancel _ h2]
  have Qlow:∀ y,y < j->rv Q y=0:=fun y hy=>by rw [rQ,h3 y hy,Rat.mul_zero]
  have Pc:∀ l,l < s.k->rv P1 (ld (s.O l))=0:=fun l hlk=>by
   rw [hrr,sumN_one s.k hlk fun l' hl' hne=>by rw [hoff l' hl' l hlk (Ne.symm hne),Rat.mul_zero]]
   have:=h.rre.ub.one l hlk
   rw [this]; grind
  have Qc:∀ l,l < s.k->rv Q (ld (s.O l))=0:=fun l hlk=>by rw [rQ,Pc l hlk,Rat.mul_zero]
  have hjc:∀ l,l < s.k->ld (s.O l) ≠ j:=fun l hlk e=>h2 (by rw [<- e]; exact Pc l hlk)
  obtain ⟨hck,hc1,hc2⟩:=cntB_spec s.O j s.k h.rre.inc
  obtain ⟨c,hc⟩:∃ c,c=cntB s.O j s.k:=⟨_,rfl⟩
  rw [<- hc] at hck hc1 hc2 ⊢
  obtain ⟨O1,hO1⟩:∃ O1:Nat->List Rat,∀ l,O1 l=cmb (s.O l) (-((s.O l).getD j 0)) Q:=⟨fun l=>cmb (s.O l) (-((s.O l).getD j 0)) Q,fun _=>rfl⟩
  have l1:∀ l,l < s.k->(O1 l).length=w:=fun l hlk=>by rw [hO1,cmb_len,h.len l hlk]
  have r1:∀ l,l < s.k->∀ y,rv (O1 l) y=rv (s.O l) y+(-(rv (s.O l) j))*rv Q y:=fun l hlk y=>by
   rw [hO1,cmb_rv (by rw [lQ,h.len l hlk])]; rfl
  have one1:∀ l,l < s.k->rv (O1 l) (ld (s.O l))=1:=fun l hlk=>by
   rw [r1 l hlk,Qc l hlk,Rat.mul_zero,Rat.add_zero]; exact h.rre.ub.one l hlk
  have off1:∀ l,l < s.k->∀ l',l' < s.k->l' ≠ l->rv (O1 l) (ld (s.O l'))=0:=fun l hlk l' hlk' hne=>by
   rw [r1 l hlk,Qc l' hlk',Rat.mul_zero,Rat.add_zero]; exact hoff l hlk l' hlk' hne
  have offj:∀ l,l < s.k->rv (O1 l) j=0:=fun l hlk=>by rw [r1 l hlk,Qj]; grind
  have low1:∀ l,l < s.k->∀ y,y < ld (s.O l)->rv (O1 l) y=0:=fun l hlk y hy=>by
   rw [r1 l hlk,h.rre.lead l hlk y hy]
   by_cases hjl:j < ld (s.O l)
   ·have:rv (s.O l) j=0:=h.rre.lead l hlk j hjl
    rw [this]; grind
   ·rw [Qlow y (by omega)]; grind
  have ld1:∀ l,l < s.k->ld (O1 l)=ld (s.O l):=fun l hlk=>ld_uniq (by rw [one1 l hlk]; decide) (low1 l hlk)
  have ldQ:ld Q=j:=ld_uniq (by rw [Qj]; decide) Qlow
  have eI:∀ l,insR s.O Q j c l=if l < c then O1 l else if l=c then Q else O1 (l - 1):=fun l=>by
   unfold insR
   rw [hO1,hO1]
  have hlow:∀ l,l < c->ld (s.O l) < j:=hc1
  have hhigh:∀ l,c<=l->l < s.k->j < ld (s.O l):=fun l h1' h2'=>by
   have:=hc2 l h1' h2'
   have:=hjc l h2'
   omega
  obtain ⟨I,hI⟩:∃ I:Nat->List Rat,I=insR s.O Q j c:=⟨_,rfl⟩
  rw [<- hI] at eI ⊢
  have iL:∀ l,l < c->I l=O1 l:=fun l hlc=>by rw [eI,if_pos hlc]
  have iC:I c=Q:=by rw [eI,if_neg (by omega),if_pos rfl]
  have iH:∀ l,c<=l->I (l+1)=O1 l:=fun l hcl=>by rw [eI,if_neg (by omega),if_neg (by omega),Nat.add_sub_cancel]
  have cases3:∀ l,l < s.k+1->(l < c/\l < s.k/\I l=O1 l/\ld (I l)=ld (s.O l)) ∨ (l=c/\I l=Q/\ld (I l)=j) ∨ ∃ l',l=l'+1/\c<=l'/\l' < s.k/\I l=O1 l'/\ld (I l)=ld (s.O l'):=fun l hlk=>by
   rcases Nat.lt_trichotomy l c with a | a | a
   ·exact .inl ⟨a,by omega,iL l a,by rw [iL l a,ld1 l (by omega)]⟩
   ·exact .inr (.inl ⟨a,by rw [a,iC],by rw [a,iC,ldQ]⟩)
   ·obtain ⟨l',rfl⟩:∃ l',l=l'+1:=⟨l - 1,by omega⟩
    exact .inr (.inr ⟨l',rfl,by omega,by omega,iH l' (by omega),by rw [iH l' (by omega),ld1 l' (by omega)]⟩)
  have hub:UB (Rs (s.k+1) fun l=>rv (I l)) (s.k+1) (fun l=>rv (I l)) (fun l=>ld (I l)):=UB.of_rows (fun l hlk=>by
   show rv (I l) (ld (I l))=1
   rcases cases3 l hlk with ⟨a,b,e1,e2⟩ | ⟨a,e1,e2⟩ | ⟨l',a,b,b',e1,e2⟩
   ·rw [e2,e1]; exact one1 l b
   ·rw [e2,e1]; exact Qj
   ·rw [e2,e1]; exact one1 l' b') (fun l hlk m hmk hne=>by
   show rv (I l) (ld (I m))=0
   rcases cases3 l hlk with ⟨a,b,e1,e2⟩ | ⟨a,e1,e2⟩ | ⟨l',a,b,b',e1,e2⟩ <;> rcases cases3 m hmk with ⟨a',d,f1,f2⟩ | ⟨a',f1,f2⟩ | ⟨m',a',d,d',f1,f2⟩
   ·rw [e1,f2]; exact off1 l b m d hne
   ·rw [e1,f2]; exact offj l b
   ·rw [e1,f2]; exact off1 l b m' d' (by omega)
   ·rw [e1,f2]; exact Qc m d
   ·omega
   ·rw [e1,f2]; exact Qc m' d'
   ·rw [e1,f2]; exact off1 l' b' m d (by omega)
   ·rw [e1,f2]; exact offj l' b'
   ·rw [e1,f2]; exact off1 l' b' m' d' (by omega))
  have hQI:Sp (Rs (s.k+1) fun l=>rv (I l)) (rv Q):=by
   have:=Sp.row (n:=s.k+1) (R:=fun l=>rv (I l)) (i:=c) (by omega)
   rw [iC] at this; exact this
  have hO1I:∀ l,l < s.k->Sp (Rs (s.k+1) fun l=>rv (I l)) (rv (O1 l)):=fun l hlk=>by
   by_cases hlc:l < c
   ·have:=Sp.row (n:=s.k+1) (R:=fun l=>rv (I l)) (i:=l) (by omega)
    rw [iL l hlc] at this; exact this
   ·have:=Sp.row (n:=s.k+1) (R:=fun l=>rv (I l)) (i:=l+1) (by omega)
    rw [iH l (by omega)] at this; exact this
  have hOI:∀ l,l < s.k->Sp (Rs (s.k+1) fun l=>rv (I l)) (rv (s.O l)):=fun l hlk=>Sp.lin (rv (s.O l) j) (hO1I l hlk) hQI fun y=>by rw [r1 l hlk]; grind
  have hsumI:∀ v:RV,Sp (Rs (s.k+1) fun l=>rv (I l)) fun y=>sumN s.k fun l=>v l*rv (s.O l) y:=fun v=>by
   have:∀ k,k<=s.k->Sp (Rs (s.k+1) fun l=>rv (I l)) fun y=>sumN k fun l=>v l*rv (s.O l) y:=fun k=>by
    induction k with
    | zero=>intro _; exact .zero
    | succ k ih=>intro hk; exact Sp.lin (v k) (ih (by omega)) (hOI k (by omega)) fun y=>rfl
   exact this s.k (Nat.le_refl _)
  have hP1M:Sp (Rs (i+1) fun l=>rv (M l)) (rv P1):=by
   have h1':∀ k,k<=s.k->Sp (Rs (i+1) fun l=>rv (M l)) fun y=>rv (M i) y - sumN k fun l=>rv (M i) (ld (s.O l))*rv (s.O l) y:=fun k=>by
    induction k with
    | zero=>intro _; exact (Sp.row (R:=fun l=>rv (M l)) (show i < i+1 by omega)).cast fun y=>by simp only [sumN]; grind
    | succ k ih=>intro hk; exact Sp.lin (-(rv (M i) (ld (s.O k)))) (ih (by omega)) (hO k (by omega)) fun y=>by simp only [sumN]; grind
   exact (h1' s.k (Nat.le_refl _)).cast hrr
  have hQM:Sp (Rs (i+1) fun l=>rv (M l)) (rv Q):=(Sp.smul (rv P1 j)⁻¹ hP1M).cast rQ
  have hO1M:∀ l,l < s.k->Sp (Rs (i+1) fun l=>rv (M l)) (rv (O1 l)):=fun l hlk=>Sp.lin (-(rv (s.O l) j)) (hO l hlk) hQM (r1 l hlk)
  refine ⟨fun l hlk=>?_,⟨hub.congr (SpE.of (fun l hl'=>?_) fun l hlk=>?_),fun l hlk y hy=>?_,fun l m hlm hmk=>?_⟩,fun l hlk=>?_,by have:=h.kn; show s.k+1<=i+1; omega⟩
  ·show (I l).length=w
   rcases cases3 l hlk with ⟨a,b,e1,e2⟩ | ⟨a,e1,e2⟩ | ⟨l',a,b,b',e1,e2⟩
   ·rw [e1]; exact l1 l b
   ·rw [e1]; exact lQ
   ·rw [e1]; exact l1 l' b'
  ·by_cases e:l=i
   ·rw [e]
    have hP1I:Sp (Rs (s.k+1) fun l=>rv (I l)) (rv P1):=(Sp.smul (rv P1 j) hQI).cast fun y=>by
     rw [rQ,<- Rat.mul_assoc,Rat.mul_inv_cancel _ h2,Rat.one_mul]
    exact Sp.lin 1 hP1I (hsumI fun l=>rv (M i) (ld (s.O l))) fun y=>by rw [hrr]; grind
   ·exact (hsumI fun l'=>rv (M l) (ld (s.O l'))).cast fun y=>h.rre.ub.gen _ (.row (R:=fun l=>rv (M l)) (show l < i by omega)) y
  ·show Sp _ (rv (I l))
   rcases cases3 l hlk with ⟨a,b,e1,e2⟩ | ⟨a,e1,e2⟩ | ⟨l',a,b,b',e1,e2⟩
   ·rw [e1]; exact hO1M l b
   ·rw [e1]; exact hQM
   ·rw [e1]; exact hO1M l' b'
  ·have hy:y < ld (I l):=hy
   show rv (I l) y=0
   rcases cases3 l hlk with ⟨a,b,e1,e2⟩ | ⟨a,e1,e2⟩ | ⟨l',a,b,b',e1,e2⟩
   ·rw [e2] at hy; rw [e1]; exact low1 l b y hy
   ·rw [e2] at hy; rw [e1]; exact Qlow y hy
   ·rw [e2] at hy; rw [e1]; exact low1 l' b' y hy
  ·show ld (I l) < ld (I m)
   rcases cases3 l (by have:m < s.k+1:=hmk; omega) with ⟨a,b,e1,e2⟩ | ⟨a,e1,e2⟩ | ⟨l',a,b,b',e1,e2⟩ <;> rcases cases3 m hmk with ⟨a',d,f1,f2⟩ | ⟨a',f1,f2⟩ | ⟨m',a',d,d',f1,f2⟩
   ·rw [e2,f2]; exact h.rre.inc l m hlm d
   ·rw [e2,f2]; exact hlow l a
   ·rw [e2,f2]; have:=hlow l a; have:=hhigh m' d d'; omega
   ·omega
   ·omega
   ·rw [e2,f2]; exact hhigh m' d d'
   ·omega
   ·omega
   ·rw [e2,f2]; exact h.rre.inc l' m' (by omega) d'
  ·show ld (I l) < w
   rcases cases3 l hlk with ⟨a,b,e1,e2⟩ | ⟨a,e1,e2⟩ | ⟨l',a,b,b',e1,e2⟩
   ·rw [e2]; exact h.lt l b
   ·rw [e2]; omega
   ·rw [e2]; exact h.lt l' b'
theorem reIt_ok {n w:Nat} {M:Nat->List Rat} (hl:∀ i,i < n->(M i).length=w):∀ i,i<=n->REI w i M (reIt w M i)
 | 0,_=>⟨fun l h=>absurd h (Nat.not_lt_zero _),⟨⟨fun l h=>absurd h (Nat.not_lt_zero _),fun l h=>absurd h (Nat.not_lt_zero _),fun l h=>absurd h (Nat.not_lt_zero _),fun v hv=>by
   refine ub_gen (S:=Rs 0 fun l=>rv (M l)) (fun v ⟨l,hl,_⟩=>by omega) v hv⟩,fun l h=>absurd h (Nat.not_lt_zero _),fun l m _ h=>absurd h (Nat.not_lt_zero _)⟩,fun l h=>absurd h (Nat.not_lt_zero _),Nat.le_refl _⟩
 | i+1,h=>(reIt_ok hl i (by omega)).step (hl i (by omega))
theorem re_eq {n w:Nat} {M:Nat->List Rat} (hl:∀ i,i < n->(M i).length=w):(reIt w M n).k=(rdIt n M w).k/\∀ l,l < (rdIt n M w).k->(reIt w M n).O l=(rdIt n M w).R l/\ld ((reIt w M n).O l)=(rdIt n M w).p l:=by
 have a:=reIt_ok hl n (Nat.le_refl _)
 have b:=rdIt_ok hl w
 obtain ⟨h1,h2,h3⟩:=a.rre.uniq b.rre (SpE.refl _)
 have kb:=b.kn
 exact ⟨h1,fun l hlk=>⟨rv_inj (by rw [a.len l (by omega),b.len l (by omega)]) (h3 l (by omega)),h2 l (by omega)⟩⟩
end Go.Abs
end
section
namespace Go.Proofs.YtjfmkcmepdedaaaGreat
open Go Go.Abs Go.Abs.M Go.Proofs
theorem wsign_row (q:Rat):∃ c,(c=0 ↔ q=0)/\ACall Tryz.prog 63 [.val (.agg (qc q).row)] ⟨[.val (ti .i64 c)],[none]⟩:=
 ⟨cmpI q.num 0,(cmp00 q.num).trans Rat.num_eq_zero,rqsign_call _ (qbu q).n rfl⟩
theorem wneg_row {x:Rat} {a:Nat} (h1:Qs x a) (h:a<=68719476736):ACall Tryz.prog 59 [.val (.agg (qc x).row)] ⟨[.val (.agg (qc (-x)).row)],[none]⟩:=by
 obtain ⟨u,w,hr,c⟩:=rqneg_call (qbu x) (h1.mono (by omega))
 rw [qc_row hr] at c
 exact c
def wlSt (X:Abs.Rows) (I:Int):St:=mkSt 19 [.c (.t (.lst false X)),.junk,.junk,vi .i64 I] [none]
theorem lead_call (P:List Rat) (hP:P.length<=1000):ACall Tryz.prog 98 [.val (tl (ur P))] ⟨[.val (ti .i64 (ld P:Int))],[none]⟩:=by
 obtain ⟨n,hn⟩:∃ n,n=P.length:=⟨_,rfl⟩
 obtain ⟨X,hX⟩:∃ Y,Y=ur P:=⟨_,rfl⟩
 have hXl:X.length=n:=by rw [hX,qag,hn]
 obtain ⟨T,hT⟩:∃ T:Int,T=(ld P:Int):=⟨_,rfl⟩
 rw [<- hX,<- hT]
 have hT:(ldf P n 0:Int)=T:=by rw [hT,hn]; rfl
 refine callZ ccOk mixed [.val] Tryz.func98 rfl rfl (by kernel_rfl) fun zA zB zC zD zE zF zG zH zI zJ zK zL zM zN zO zP zQ zR zT zU zV zX zY zZ zb zc zd ze zg zh zi zj zk zl zm zn zo zq zr zs zt zu zx zy zz zmget zmset zW zth A L F hS hF=>?_
 obtain ⟨N,hN,hN2⟩:∃ N:Int,N=n/\zZ (zj X)=N:=⟨_,rfl,by rw [hS.ofN,hS.len,hXl]⟩
 cbv
 have hN:N=(n:Int):=hN
 refine loopZ ccOk mixed hS (fun (m:Nat) s'=>∃ (i:Nat) (I:Int),I=i/\m+i=n/\(ldf P m i:Int)=T/\s'=wlSt X I) (n:=n) (s0:=wlSt X 0) (qan ?_ ?_) rfl (Nat.succ_le_succ (Nat.zero_le _)) ?_ ?_
 ·simp [leT,wlSt,mkSt,vi,vb]
 ·simp [leH,wlSt,mkSt]
 ·exact ⟨0,0,rfl,by omega,hT,rfl⟩
 ·rintro m s1 ⟨i,I,hI,hm,hl,hs1⟩
  have hI:I=(i:Int):=hI
  by_cases hi:i < n
  ·have l1:zO I N=true:=by rw [hS.lt]; exact decide_eq_true (by omega)
   obtain ⟨sg,hsg,cs⟩:=wsign_row (P.getD i 0)
   obtain ⟨s,t,r,p,hrow,_⟩:=qrow (P.getD i 0)
   have u:X[i]?=some (qc (P.getD i 0)).row:=by rw [hX]; exact qat (by rw [List.getD_eq_getElem?_getD,List.getElem?_eq_getElem (by omega)]; rfl)
   rw [hrow] at u cs
   have j1:zX I=i:=by rw [hS.nat]; omega
   have j2:zk X i=some [.v (.bool s),.lst false r,.v (.bool t),.lst false p]:=by rw [hS.nth]; exact u
   have n0:zP 0 I=true:=by rw [hS.le]; exact decide_eq_true (by omega)
   obtain ⟨I',hI',i1⟩:∃ I':Int,I'=((i+1:Nat):Int)/\zA .i64 (zB I 1)=I':=⟨I+1,by omega,by rw [hS.add,hS.wrap,wrap_i64 (by omega) (by omega)]⟩
   obtain ⟨m',hm'⟩:∃ m',m=m'+1:=⟨m - 1,by omega⟩
   rw [hm',ldf] at hl
   by_cases hz:P.getD i 0=0
   ·rw [if_pos hz] at hl
    have e0:zM sg 0=true:=by rw [hS.eq]; exact decide_eq_true (hsg.2 hz)
    have hmm:m' < m:=by omega
    have hnx:∃ (i2:Nat) (I2:Int),I2=i2/\m'+i2=n/\(ldf P m' i2:Int)=T/\wlSt X I'=wlSt X I2:=⟨i+1,I',hI',by omega,hl,rfl⟩
    subst hs1
    cbv
    rw [hN2]
    refine bT l1 ?_
    rw [j1,j2]
    cbv
    refine nd (n0) ?_
    refine ⟨_,hS.call (cs),?_⟩
    cbv
    refine bT (e0) ?_
    exact again (s':=wlSt X I') (m:=m') (by simp [leT,wlSt,mkSt,vi,vb,i1]) (by simp [leH,wlSt,mkSt]) rfl (Nat.succ_le_succ (Nat.zero_le _)) hmm hnx
   ·rw [if_neg hz] at hl
    have e0:zM sg 0=false:=by rw [hS.eq]; exact decide_eq_false fun h=>hz (hsg.1 h)
    have hIT:I=T:=by omega
    subst hs1
    cbv
    rw [hN2]
    refine bT l1 ?_
    rw [j1,j2]
    cbv
    refine nd (n0) ?_
    refine ⟨_,hS.call (cs),?_⟩
    cbv
    refine bF (e0) ?_
    exact fin1 hF (qa5 hIT)
  ·have l1:zO I N=false:=by rw [hS.lt]; exact decide_eq_false (by omega)
   have hIT:I=T:=by
    rw [show m=0 by omega,ldf] at hl; omega
   subst hs1
   cbv
   rw [hN2]
   refine bF l1 ?_
   exact fin1 hF (qa5 hIT)
def wcSt (X Y:Abs.Rows) (s t:Bool) (r p x:Abs.Rows) (i:Nat) (I:Int):St:=mkSt 31 [.c (.t (.lst false X)),.junk,.c (.t (.lst false Y)),.junk,.c (.ptr 3 0 0),.junk,.junk,.c (.sl 4 0 i false),vi .i64 I] [none,none,none,some (.var [.t (.v (.bool s)),.t (.lst false r),.t (.v (.bool t)),.t (.lst false p)]),some (.rows 4 x true false)]
theorem comb_call (P:List Rat) (c:Rat) (Q:List Rat) (a b d:Nat) (hP:P.length<=1000) (hQ:P.length<=Q.length) (h1:∀ q ∈ P,Qs q a) (h2:Qs c b) (h3:∀ q ∈ Q,Qs q d) (hb:a+(b+d)<=68719476736) :
  ACall Tryz.prog 97 [.val (tl (ur P)),.val (.agg (qc c).row),.val (tl (ur Q))] ⟨[.val (tl (ur (cmb P c Q)))],[none,none,none]⟩:=by
 obtain ⟨n,hn⟩:∃ n,n=P.length:=⟨_,rfl⟩
 obtain ⟨X,hX⟩:∃ Y,Y=ur P:=⟨_,rfl⟩
 obtain ⟨Y,hY⟩:∃ Y,Y=ur Q:=⟨_,rfl⟩
 have hXl:X.length=n:=by rw [hX,qag,hn]
 obtain ⟨T,hT⟩:∃ T,T=ur (cmb P c Q):=⟨_,rfl⟩
 rw [<- hX,<- hY,<- hT]
 obtain ⟨s,t,r,p,hrow,_⟩:=qrow c
 rw [hrow]
 refine callZ ccOk mixed [.val] Tryz.func97 rfl rfl (by kernel_rfl) fun zA zB zC zD zE zF zG zH zI zJ zK zL zM zN zO zP zQ zR zT zU zV zX zY zZ zb zc zd ze zg zh zi zj zk zl zm zn zo zq zr zs zt zu zx zy zz zmget zmset zW zth A L F hS hF=>?_
 obtain ⟨N,hN,hN2⟩:∃ N:Int,N=n/\zZ (zj X)=N:=⟨_,rfl,by rw [hS.ofN,hS.len,hXl]⟩
 cbv
 have hN:N=(n:Int):=hN
 refine loopZR ccOk mixed hS (fun (m:Nat) s'=>∃ (i:Nat) (I:Int) (x:Abs.Rows),I=i/\m+i=n/\x=ur (cmbL P c Q i)/\s'=wcSt X Y s t r p x i I) (n:=n) (s0:=wcSt X Y s t r p [] 0 0) (qan ?_ ?_) rfl (Nat.succ_le_succ (Nat.succ_le_succ (Nat.succ_le_succ (Nat.zero_le _)))) ?_ ?_
 ·simp [leT,wcSt,mkSt,vi,vb]
 ·simp [leH,wcSt,mkSt]
 ·exact ⟨0,0,[],rfl,by omega,rfl,rfl⟩
 ·rintro m s1' ⟨i,I,x,hI,hm,hx,hs1⟩
  have hI:I=(i:Int):=hI
  have lx:x.length=i:=by rw [hx,qag,cmbL_len]
  by_cases hi:i < n
  ·have l1:zO I N=true:=by rw [hS.lt]; exact decide_eq_true (by omega)
   have gP:P[i]?=some (P.getD i 0):=by rw [List.getD_eq_getElem?_getD,List.getElem?_eq_getElem (by omega)]; rfl
   have gQ:Q[i]?=some (Q.getD i 0):=by rw [List.getD_eq_getElem?_getD,List.getElem?_eq_getElem (by omega)]; rfl
   obtain ⟨hm1,cm⟩:=rqmul_row h2 (h3 _ (List.mem_of_getElem? gQ)) (by omega)
   obtain ⟨ha1,ca⟩:=rqadd_row (h1 _ (List.mem_of_getElem? gP)) hm1 hb
   obtain ⟨s1,t1,r1,p1,hr1,_⟩:=qrow (P.getD i 0)
   obtain ⟨s2,t2,r2,p2,hr2,_⟩:=qrow (Q.getD i 0)
   obtain ⟨s3,t3,r3,p3,hr3,_⟩:=qrow (c*Q.getD i 0)
   obtain ⟨s4,t4,r4,p4,hr4,_⟩:=qrow (P.getD i 0+c*Q.getD i 0)
   rw [hrow,hr2,hr3] at cm
   rw [hr1,hr3,hr4] at ca
   have u1:=qat gP
   have u2:=qat gQ
   rw [<- hX,hr1] at u1
   rw [<- hY,hr2] at u2
   obtain ⟨cell,hcell⟩:∃ c:Abs.Rows,c=[[Tree.v (.bool s4),.lst false r4,.v (.bool t4),.lst false p4]]:=⟨_,rfl⟩
   have j1:zX I=i:=by rw [hS.nat]; omega
   have j2:zk X i=some [.v (.bool s1),.lst false r1,.v (.bool t1),.lst false p1]:=by rw [hS.nth]; exact u1
   have j3:zk Y i=some [.v (.bool s2),.lst false r2,.v (.bool t2),.lst false p2]:=by rw [hS.nth]; exact u2
   have n0:zP 0 I=true:=by rw [hS.le]; exact decide_eq_true (by omega)
   have c1:zr cell 0 1=cell:=by rw [hS.part,hcell]; rfl
   have c2:zq 0 1 cell=true:=by rw [hS.fit,hcell]; rfl
   have c3:zQ (zc (zj cell) 0)=true:=by rw [hS.neq,hS.len,hS.not,hcell]; rfl
   have c4:zx 4 cell=true:=by rw [hS.wide,hcell]; rfl
   have c5:zh i (zj cell) 64=true:=by rw [hS.room,hS.len,hcell]; exact decide_eq_true (by unfold capBytes; simp; omega)
   have c6:zc (zd 0 i) (zj x)=true:=by rw [hS.nadd,hS.len,hS.neq,lx,Nat.zero_add]; exact decide_eq_true rfl
   have c7:zd i (zj cell)=i+1:=by rw [hS.nadd,hS.len,hcell]; rfl
   obtain ⟨x2,hx2⟩:∃ x2,x2=ur (cmbL P c Q (i+1)):=⟨_,rfl⟩
   have c8:zs x 0 cell=x2:=by rw [hS.ext,List.drop_zero,hx,hx2,cmbL_succ,ur_app,hr4,hcell]
   obtain ⟨I',hI',i2⟩:∃ I':Int,I'=((i+1:Nat):Int)/\zA .i64 (zB I 1)=I':=⟨I+1,by omega,by rw [hS.add,hS.wrap,wrap_i64 (by omega) (by omega)]⟩
   have hmm:m - 1 < m:=by omega
   have hnx:∃ (i3:Nat) (I3:Int) (x3:Abs.Rows),I3=i3/\(m - 1)+i3=n/\x3=ur (cmbL P c Q i3)/\wcSt X Y s t r p x2 (i+1) I'=wcSt X Y s t r p x3 i3 I3:=⟨i+1,I',x2,hI',by omega,hx2,rfl⟩
   clear hx hx2 hI' hT
   subst hs1
   cbv
   rw [hN2]
   refine bT l1 ?_
   rw [j1,j2]
   cbv
   refine nd n0 ?_
   rw [j1,j3]
   cbv
   refine nd (n0) ?_
   refine ⟨_,hS.call (cm),?_⟩
   cbv
   refine ⟨_,hS.call (ca),?_⟩
   cbv
   rw [<- hcell,c1]
   refine nd c2 (nd c3 (nd c4 (nd c5 (nd c6 ?_))))
   rw [c7,c8,i2]
   refine againR [(4,10)] (s':=wcSt X Y s t r p x2 (i+1) I') (k:=m - 1) ?_ ?_ ?_ ?_ rfl (Nat.succ_le_succ (Nat.succ_le_succ (Nat.succ_le_succ (Nat.zero_le _)))) hmm hnx
   ·simp [leTR,wcSt,mkSt,vi,AV.ren,AV.noTup,Cell.ren,renF]
   ·simp [leHR,wcSt,mkSt,Abs.look,renF,Blk.ren,Cell.ren]
   ·simp [liveR,wcSt,mkSt,renF]
   ·simp
  ·have l1:zO I N=false:=by rw [hS.lt]; exact decide_eq_false (by omega)
   obtain rfl:i=n:=by omega
   obtain rfl:x=T:=by rw [hx,hT,cmb,hn]
   have f1:zq 0 i x=true:=by rw [hS.fit]; exact decide_eq_true (by omega)
   have f2:zr x 0 i=x:=by rw [hS.part,List.drop_zero,List.take_of_length_le (by omega)]
   clear hx hT
   subst hs1
   cbv
   rw [hN2]
   refine bF l1 (nd f1 ?_)
   rw [f2]
   exact hF _ (ResLe.refl _)
open Go Go.Abs Go.Abs.M Go.Proofs
def msE (P:List Rat) (B:Nat->List Rat) (k y:Nat):Rat:=sumN k fun l=>P.getD l 0*(B l).getD y 0
theorem msE_qs {P:List Rat} {B:Nat->List Rat} {m w a b y:Nat} (hP:P.length=m) (hl:∀ i,i < m->(B i).length=w) (h1:∀ q ∈ P,Qs q a) (h2:∀ i,i < m->∀ q ∈ B i,Qs q b) (hy:y < w):∀ k,k<=m->Qs (msE P B k y) (1+k*(a+b+1))
 | 0,_=>Qs.zero (by omega)
 | k+1,h=>by
  have hp:Qs (P.getD k 0) a:=h1 _ (by rw [List.getD_eq_getElem?_getD,List.getElem?_eq_getElem (by omega)]; exact List.getElem_mem _)
  have hb:Qs ((B k).getD y 0) b:=h2 k (by omega) _ (by rw [List.getD_eq_getElem?_getD,List.getElem?_eq_getElem (by rw [hl k (by omega)]; exact hy)]; exact List.getElem_mem _)
  refine (add_small (msE_qs hP hl h1 h2 hy k (by omega)) (mul_small hp hb)).mono ?_
  rw [Nat.succ_mul]; omega
def msL (P:List Rat) (B:Nat->List Rat) (m w j k:Nat):List Rat:=(List.range w).map fun y=>if y < j then msE P B m y else if y=j then msE P B k y else 0
theorem msL_len (P:List Rat) (B:Nat->List Rat) (m w j k:Nat):(msL P B m w j k).length=w:=by simp [msL]
theorem msL_get {P:List Rat} {B:Nat->List Rat} {m w j k y:Nat} (h:y < w):(msL P B m w j k)[y]?=some (if y < j then msE P B m y else if y=j then msE P B k y else 0):=by simp [msL,List.getElem?_map,List.getElem?_range h]
theorem msL_zero (P:List Rat) (B:Nat->List Rat) (m w:Nat):List.replicate w 0=msL P B m w 0 0:=by
 refine List.ext_getElem? fun y=>?_
 by_cases hy:y < w
 ·rw [msL_get hy,List.getElem?_replicate,if_pos hy,if_neg (show ¬y < 0 by omega)]
  split <;> rfl
 ·rw [List.getElem?_eq_none (by simp; omega),List.getElem?_eq_none (by rw [msL_len]; omega)]
theorem msL_set {P:List Rat} {B:Nat->List Rat} {m w j k:Nat} (h:j < w):(msL P B m w j k).set j (msE P B k j+P.getD k 0*(B k).getD j 0)=msL P B m w j (k+1):=by
 refine List.ext_getElem? fun y=>?_
 by_cases hy:y < w
 ·rw [List.getElem?_set,msL_len,msL_get hy,msL_get hy]
  by_cases e:j=y
  ·rw [if_pos e,if_pos (by omega),if_neg (show ¬y < j by omega),if_pos e.symm,e]; rfl
  ·rw [if_neg e]
   split
   ·rfl
   ·rw [if_neg (Ne.symm e),if_neg (Ne.symm e)]
 ·rw [List.getElem?_eq_none (by rw [List.length_set,msL_len]; omega),List.getElem?_eq_none (by rw [msL_len]; omega)]
theorem msL_next (P:List Rat) (B:Nat->List Rat) (m w j:Nat):msL P B m w j m=msL P B m w (j+1) 0:=List.map_congr_left fun y _=>by
 by_cases h:y < j
 ·rw [if_pos h,if_pos (show y < j+1 by omega)]
 ·rw [if_neg h]
  by_cases e:y=j
  ·rw [if_pos e,if_pos (show y < j+1 by omega)]
  ·rw [if_neg e,if_neg (show ¬y < j+1 by omega)]
   split <;> rfl
theorem msL_all {P:List Rat} {B:Nat->List Rat} {m w:Nat} (hP:P.length=m) (hl:∀ i,i < m->(B i).length=w):msL P B m w w 0=vmul P B w P.length:=rv_inj (by rw [msL_len,qbk]) (funext fun y=>by
 by_cases hy:y < w
 ·rw [hP,vmul_rv P B w m hl]
  unfold rv
  rw [List.getD_eq_getElem?_getD,msL_get hy,if_pos hy]; rfl
 ·rw [rv_out (by rw [msL_len]; omega),rv_out (by rw [qbk]; omega)])
def wmSt (AR BR out:Abs.Rows) (len:Nat) (I:Int):St:=mkSt 73 [.c (.t (.lst false AR)),.c (.t (.lst false BR)),.junk,.junk,.junk,.junk,.c (.sl 2 0 len false),vi .i64 I] [none,none,some (.rows 1 out true false)]
def wmSt2 (AR BR out:Abs.Rows) (len:Nat) (I:Int) (w:Nat) (X:Abs.Rows) (J:Int):St:=mkSt 73 [.c (.t (.lst false AR)),.c (.t (.lst false BR)),.junk,.junk,.junk,.junk,.c (.sl 2 0 len false),vi .i64 I,.c (.sl 5 0 w false),vi .i64 J] [none,none,some (.rows 1 out true false),none,none,some (.rows 4 X true false)]
def wmSt3 (AR BR out:Abs.Rows) (len:Nat) (I:Int) (w:Nat) (X:Abs.Rows) (J K:Int):St:=mkSt 73 [.c (.t (.lst false AR)),.c (.t (.lst false BR)),.junk,.junk,.junk,.junk,.c (.sl 2 0 len false),vi .i64 I,.c (.sl 5 0 w false),vi .i64 J,vi .i64 K] [none,none,some (.rows 1 out true false),none,none,some (.rows 4 X true false)]
theorem rmmul_call (n m w:Nat) (hn:n<=1000) (hm:m<=1000) (hw:w<=1000) (hw0:m=0->w=0) (M B:Nat->List Rat) (a b:Nat) (hP:∀ i,i < n->(M i).length=m) (hl:∀ i,i < m->(B i).length=w) (h1:∀ i,i < n->∀ q ∈ M i,Qs q a) (h2:∀ i,i < m->∀ q ∈ B i,Qs q b) (hab:1001*(a+b+1)<=68719476736) :
  ACall Tryz.prog 45 [.val (tl (mr n M)),.val (tl (mr m B))] ⟨[.val (tl (mr n (mmM M B w))),.val (ti .i64 0)],[none,none]⟩:=by
 have ccol:=rcols_call m w B hl (by omega)
 rw [show (if m=0 then 0 else w)=w by split <;> omega] at ccol
 have cz:=rzeros_call w hw
 obtain ⟨AR,hAR⟩:∃ X,X=mr n M:=⟨_,rfl⟩
 obtain ⟨BR,hBR⟩:∃ X,X=mr m B:=⟨_,rfl⟩
 obtain ⟨T,hT⟩:∃ X,X=mr n (mmM M B w):=⟨_,rfl⟩
 obtain ⟨Z,hZ⟩:∃ Z,Z=ur (List.replicate w 0):=⟨_,rfl⟩
 obtain ⟨N0,hN0⟩:∃ X:Int,X=(n:Int):=⟨_,rfl⟩
 obtain ⟨M0,hM0⟩:∃ X:Int,X=(m:Int):=⟨_,rfl⟩
 obtain ⟨W0,hW0⟩:∃ X:Int,X=(w:Int):=⟨_,rfl⟩
 rw [<- hBR,<- hW0] at ccol
 rw [<- hW0,<- hZ] at cz
 rw [<- hAR,<- hBR,<- hT]
 have lA:AR.length=n:=by rw [hAR,qa6]
 have lB:BR.length=m:=by rw [hBR,qa6]
 have lZ:Z.length=w:=by rw [hZ,qag,List.length_replicate]
 have hA0:0 < n->∃ R0:Abs.Rows,AR[0]?=some [.lst false R0]/\R0.length=m:=fun h=>⟨_,by rw [hAR]; exact qbf h,by rw [qag,hP 0 h]⟩
 refine callZ ccOk mixed [.val,.val] Tryz.func45 rfl rfl (by kernel_rfl) fun zA zB zC zD zE zF zG zH zI zJ zK zL zM zN zO zP zQ zR zT zU zV zX zY zZ zb zc zd ze zg zh zi zj zk zl zm zn zo zq zr zs zt zu zx zy zz zmget zmset zW zth A L F hS hF=>?_
 have eA:zZ (zj AR)=N0:=by rw [hS.ofN,hS.len,lA,hN0]
 have eB:zZ (zj BR)=M0:=by rw [hS.ofN,hS.len,lB,hM0]
 have eZ:zj Z=w:=by rw [hS.len,lZ]
 have eW:zZ w=W0:=by rw [hS.ofN,hW0]
 have d1:∀ X,zN X X=false:=fun X=>by rw [hS.ne]; exact decide_eq_false (by simp)
 cbv
 rw [eA]
 have hN0:N0=(n:Int):=hN0
 by_cases hn0:0 < n
 case' pos=>
  obtain ⟨R0,hR0,lR0⟩:=hA0 hn0
  have g0:zO 0 N0=true:=by rw [hS.lt]; exact decide_eq_true (by omega)
  have j0:zX 0=0:=by rw [hS.nat]; rfl
  have j1:zk AR 0=some [.lst false R0]:=by rw [hS.nth]; exact hR0
  have n00:zP 0 0=true:=by rw [hS.le]; rfl
  have eR:zZ (zj R0)=M0:=by rw [hS.ofN,hS.len,lR0,hM0]
  refine bT g0 ?_
  rw [j0,j1]
  cbv
  refine nd n00 ?_
  rw [eR,eB]
  refine bF (d1 M0) ?_
 case' neg=>
  have g0:zO 0 N0=false:=by rw [hS.lt]; exact decide_eq_false (by omega)
  refine bF g0 ?_
 all_goals
  refine loopZR ccOk mixed hS (fun (m':Nat) s'=>∃ (i:Nat) (I:Int) (out:Abs.Rows),I=i/\m'+i=n/\out=mr i (mmM M B w)/\s'=wmSt AR BR out i I) (n:=n) (s0:=wmSt AR BR [] 0 0) (qan ?_ ?_) rfl (Nat.succ_le_succ (Nat.succ_le_succ (Nat.zero_le _))) ?_ ?_
  ·simp [leT,wmSt,mkSt,vi,vb]
  ·simp [leH,wmSt,mkSt]
  ·exact ⟨0,0,[],rfl,by omega,rfl,rfl⟩
  rintro m' s1 ⟨i,I,out,hI,hm',hout,hs1⟩
  have hI:I=(i:Int):=hI
  have hN0:N0=(n:Int):=hN0
  have lout:out.length=i:=by rw [hout,qa6]
  by_cases hi:i < n
  ·have l1:zO I N0=true:=by rw [hS.lt]; exact decide_eq_true (by omega)
   obtain ⟨XE,hXE⟩:∃ X,X=ur (msL (M i) B m w w 0):=⟨_,rfl⟩
   have lXE:XE.length=w:=by rw [hXE,qag,msL_len]
   have fX:zq 0 w XE=true:=by rw [hS.fit]; exact decide_eq_true (by omega)
   have pX:zr XE 0 w=XE:=by rw [hS.part,List.drop_zero,List.take_of_length_le (by omega)]
   obtain ⟨row2,hrw2⟩:∃ row2,row2=[Tree.lst false XE]:=⟨_,rfl⟩
   have hr1:row2.length=1:=by rw [hrw2]; rfl
   have v0:zr [row2] 0 1=[row2]:=by rw [hS.part]; rfl
   have v1:zq 0 1 [row2]=true:=by rw [hS.fit]; rfl
   have v2:zQ (zc (zj [row2]) 0)=true:=by rw [hS.len,hS.neq,hS.not]; rfl
   have v3:zx 1 [row2]=true:=by rw [hS.wide]; simp [hr1]
   have v4:zh i (zj [row2]) 24=true:=by rw [hS.len,hS.room]; exact decide_eq_true (by unfold capBytes; simp only [List.length_cons,List.length_nil]; omega)
   have v5:zc (zd 0 i) (zj out)=true:=by rw [hS.nadd,hS.neq,hS.len,lout,Nat.zero_add]; exact decide_eq_true rfl
   have v6:zd i (zj [row2])=i+1:=by rw [hS.len,hS.nadd]; rfl
   obtain ⟨out2,hout2⟩:∃ o,o=mr (i+1) (mmM M B w):=⟨_,rfl⟩
   have v7:zs out 0 [row2]=out2:=by rw [hS.ext,List.drop_zero,hout,hout2,mr_succ,hrw2,hXE,msL_all (hP i hi) hl]; rfl
   obtain ⟨I',hI',i1⟩:∃ I':Int,I'=((i+1:Nat):Int)/\zA .i64 (zB I 1)=I':=⟨I+1,by omega,by rw [hS.add,hS.wrap,wrap_i64 (by omega) (by omega)]⟩
   have hmm:m' - 1 < m':=by omega
   have hnx:∃ (i2:Nat) (I2:Int) (o2:Abs.Rows),I2=i2/\(m' - 1)+i2=n/\o2=mr i2 (mmM M B w)/\wmSt AR BR out2 (i+1) I'=wmSt AR BR o2 i2 I2:=⟨i+1,I',out2,hI',by omega,hout2,rfl⟩
   have hZ0:Z=ur (msL (M i) B m w 0 0):=by rw [hZ,msL_zero (M i) B m w]
   obtain ⟨Ai,hAi⟩:∃ X,X=ur (M i):=⟨_,rfl⟩
   have jA:zk AR i=some [.lst false Ai]:=by rw [hS.nth,hAR,hAi]; exact qbf hi
   have kI:zX I=i:=by rw [hS.nat]; omega
   have nI:zP 0 I=true:=by rw [hS.le]; exact decide_eq_true (by omega)
   clear hout hout2
   subst hs1
   cbv
   rw [eA]
   refine bT l1 ?_
   refine ⟨_,hS.call (ccol),?_⟩
   cbv
   refine ⟨_,hS.call (cz),?_⟩
   cbv
   rw [eZ]
   apply hideP (L:=L) True
   ·intro Q' hQ' hret
    have hW0:W0=(w:Int):=hW0
    refine loopZR ccOk mixed hS (fun (m2:Nat) s'=>∃ (j:Nat) (J:Int) (X:Abs.Rows),J=j/\m2+j=w/\X=ur (msL (M i) B m w j 0)/\s'=wmSt2 AR BR out i I w X J) (n:=w) (s0:=wmSt2 AR BR out i I w Z 0) (qan ?_ ?_) rfl (Nat.succ_le_succ (Nat.succ_le_succ (Nat.zero_le _))) ?_ ?_
    ·simp [leT,wmSt2,mkSt,vi,vb]
    ·simp [leH,wmSt2,mkSt]
    ·exact ⟨0,0,Z,rfl,by omega,hZ0,rfl⟩
    ·rintro m2 s2 ⟨j,J,X,hJ,hm2,hX,hs2⟩
     have hJ:J=(j:Int):=hJ
     by_cases hj:j < w
     ·have l2:zO J W0=true:=by rw [hS.lt]; exact decide_eq_true (by omega)
      obtain ⟨J',hJ',i2⟩:∃ I':Int,I'=((j+1:Nat):Int)/\zA .i64 (zB J 1)=I':=⟨J+1,by omega,by rw [hS.add,hS.wrap,wrap_i64 (by omega) (by omega)]⟩
      have hm3:m2 - 1 < m2:=by omega
      obtain ⟨XN,hXN⟩:∃ X,X=ur (msL (M i) B m w j m):=⟨_,rfl⟩
      have hnx2:∃ (j3:Nat) (J3:Int) (X3:Abs.Rows),J3=j3/\(m2 - 1)+j3=w/\X3=ur (msL (M i) B m w j3 0)/\wmSt2 AR BR out i I w XN J'=wmSt2 AR BR out i I w X3 J3:=⟨j+1,J',XN,hJ',by omega,by rw [hXN,msL_next],rfl⟩
      have b1:zY J w=true:=by rw [hS.inb]; exact decide_eq_true (by omega)
      have b2:zb 0 J=j:=by rw [hS.idx]; omega
      have kJ:zX J=j:=by rw [hS.nat]; omega
      have nJ:zP 0 J=true:=by rw [hS.le]; exact decide_eq_true (by omega)
      subst hs2
      cbv
      rw [eW]
      refine bT l2 ?_
      apply hideP (L:=L) True
      ·intro Q2 hQ2 hret2
       have hM0:M0=(m:Int):=hM0
       have hJ:J=(j:Int):=hJ
       refine loopZR ccOk mixed hS (fun (m3:Nat) s'=>∃ (k:Nat) (K:Int) (X:Abs.Rows),K=k/\m3+k=m/\X=ur (msL (M i) B m w j k)/\s'=wmSt3 AR BR out i I w X J K) (n:=m) (s0:=wmSt3 AR BR out i I w X J 0) (qan ?_ ?_) rfl (Nat.succ_le_succ (Nat.succ_le_succ (Nat.zero_le _))) ?_ ?_
       ·simp [leT,wmSt3,mkSt,vi,vb]
       ·simp [leH,wmSt3,mkSt]
       ·exact ⟨0,0,X,rfl,by omega,hX,rfl⟩
       ·rintro m3 s3 ⟨k,K,X,hK,hm3',hX,hs3⟩
        have hK:K=(k:Int):=hK
        by_cases hk:k < m
        ·have l3:zO K M0=true:=by rw [hS.lt]; exact decide_eq_true (by omega)
         obtain ⟨Bk,hBk⟩:∃ X,X=ur (B k):=⟨_,rfl⟩
         have gA:(M i)[k]?=some ((M i).getD k 0):=by rw [List.getD_eq_getElem?_getD,List.getElem?_eq_getElem (by rw [hP i hi]; exact hk)]; rfl
         have gB:(B k)[j]?=some ((B k).getD j 0):=by rw [List.getD_eq_getElem?_getD,List.getElem?_eq_getElem (by rw [hl k hk]; exact hj)]; rfl
         have qE:=msE_qs (hP i hi) hl (h1 i hi) h2 hj k (by omega)
         have hbig:1+k*(a+b+1)+(a+b)<=68719476736:=by
          have:=Nat.mul_le_mul_right (a+b+1) (show k<=1000 by omega)
          omega
         obtain ⟨qm,cmul⟩:=rqmul_row (h1 i hi _ (List.mem_of_getElem? gA)) (h2 k hk _ (List.mem_of_getElem? gB)) (by omega)
         obtain ⟨_,cadd⟩:=rqadd_row qE qm hbig
         obtain ⟨s1,t1,r1,p1,hr1',_⟩:=qrow ((M i).getD k 0)
         obtain ⟨s2',t2,r2,p2,hr2,_⟩:=qrow ((B k).getD j 0)
         obtain ⟨s3',t3,r3,p3,hr3,_⟩:=qrow ((M i).getD k 0*(B k).getD j 0)
         obtain ⟨s4,t4,r4,p4,hr4,_⟩:=qrow (msE (M i) B k j)
         obtain ⟨s5,t5,r5,p5,hr5,_⟩:=qrow (msE (M i) B k j+(M i).getD k 0*(B k).getD j 0)
         have uA:=qat gA
         have uB:=qat gB
         rw [<- hAi,hr1'] at uA
         rw [<- hBk,hr2] at uB
         rw [hr1',hr2,hr3] at cmul
         rw [hr4,hr3,hr5] at cadd
         have uX:X[j]?=some [.v (.bool s4),.lst false r4,.v (.bool t4),.lst false p4]:=by
          rw [hX,<- hr4]
          exact qat (by rw [msL_get hj,if_neg (Nat.lt_irrefl j),if_pos rfl])
         have kK:zX K=k:=by rw [hS.nat]; omega
         have nK:zP 0 K=true:=by rw [hS.le]; exact decide_eq_true (by omega)
         have x1:zk X j=some [.v (.bool s4),.lst false r4,.v (.bool t4),.lst false p4]:=by rw [hS.nth]; exact uX
         have x2:zk Ai k=some [.v (.bool s1),.lst false r1,.v (.bool t1),.lst false p1]:=by rw [hS.nth]; exact uA
         have x3:zk BR k=some [.lst false Bk]:=by rw [hS.nth,hBR,hBk]; exact qbf hk
         have x4:zk Bk j=some [.v (.bool s2'),.lst false r2,.v (.bool t2),.lst false p2]:=by rw [hS.nth]; exact uB
         obtain ⟨X2,hX2⟩:∃ X,X=ur (msL (M i) B m w j (k+1)):=⟨_,rfl⟩
         have x5:zl X j [.v (.bool s5),.lst false r5,.v (.bool t5),.lst false p5]=X2:=by rw [hS.setr,hX,hX2,<- hr5,<- msL_set hj]; exact ur_set _ _ _
         obtain ⟨K',hK',i3⟩:∃ I':Int,I'=((k+1:Nat):Int)/\zA .i64 (zB K 1)=I':=⟨K+1,by omega,by rw [hS.add,hS.wrap,wrap_i64 (by omega) (by omega)]⟩
         have hm4:m3 - 1 < m3:=by omega
         have hnx3:∃ (k3:Nat) (K3:Int) (X3:Abs.Rows),K3=k3/\(m3 - 1)+k3=m/\X3=ur (msL (M i) B m w j k3)/\wmSt3 AR BR out i I w X2 J K'=wmSt3 AR BR out i I w X3 J K3:=⟨k+1,K',X2,hK',by omega,hX2,rfl⟩
         clear hX hX2 hK'
         subst hs3
         cbv
         rw [eB]
         refine bT l3 (nd b1 ?_)
         rw [b2,x1]
         cbv
         rw [kI,jA]
         cbv
         refine nd nI ?_
         rw [kK,x2]
         cbv
         refine nd nK ?_
         rw [kK,x3]
         cbv
         refine nd nK ?_
         rw [kJ,x4]
         cbv
         refine nd (nJ) ?_
         refine ⟨_,hS.call (cmul),?_⟩
         cbv
         refine ⟨_,hS.call (cadd),?_⟩
         cbv
         refine nd (b1) ?_
         rw [b2,x1]
         cbv
         rw [x5,i3]
         refine againR [] (s':=wmSt3 AR BR out i I w X2 J K') (k:=m3 - 1) ?_ ?_ ?_ ?_ rfl (Nat.succ_le_succ (Nat.succ_le_succ (Nat.zero_le _))) hm4 hnx3
         ·simp [leTR,wmSt3,mkSt,vi,AV.ren,AV.noTup,Cell.ren,renF]
         ·simp [leHR,wmSt3,mkSt,Abs.look,renF,Blk.ren,Cell.ren]
         ·simp [liveR,wmSt3,mkSt,renF]
         ·simp
        ·have l3:zO K M0=false:=by rw [hS.lt]; exact decide_eq_false (by omega)
         obtain rfl:X=XN:=by rw [hX,hXN,show k=m by omega]
         obtain rfl:K=M0:=by omega
         clear hX
         subst hs3
         cbv
         rw [eB]
         refine bF l3 ?_
         exact hQ2 trivial
      ·intro _
       cbv
       rw [i2]
       refine againR [] (s':=wmSt2 AR BR out i I w XN J') (k:=m2 - 1) ?_ ?_ ?_ ?_ rfl (Nat.succ_le_succ (Nat.succ_le_succ (Nat.zero_le _))) hm3 hnx2
       ·simp [leTR,wmSt2,mkSt,vi,AV.ren,AV.noTup,Cell.ren,renF]
       ·simp [leHR,wmSt2,mkSt,Abs.look,renF,Blk.ren,Cell.ren]
       ·simp [liveR,wmSt2,mkSt,renF]
       ·simp
     ·have l2:zO J W0=false:=by rw [hS.lt]; exact decide_eq_false (by omega)
      obtain rfl:X=XE:=by rw [hX,hXE,show j=w by omega]
      obtain rfl:J=W0:=by omega
      clear hX
      subst hs2
      cbv
      rw [eW]
      refine bF l2 ?_
      exact hQ' trivial
   ·intro _
    cbv
    refine nd fX ?_
    rw [pX,<- hrw2,v0,v6,v7,i1]
    refine nd v1 (nd v2 (nd v3 (nd v4 (nd v5 ?_))))
    refine againR [(2,7)] (s':=wmSt AR BR out2 (i+1) I') (k:=m' - 1) ?_ ?_ ?_ ?_ rfl (Nat.succ_le_succ (Nat.succ_le_succ (Nat.zero_le _))) hmm hnx
    ·simp [leTR,wmSt,mkSt,vi,AV.ren,AV.noTup,Cell.ren,renF]
    ·simp [leHR,wmSt,mkSt,Abs.look,renF,Blk.ren,Cell.ren]
    ·simp [liveR,wmSt,mkSt,renF]
    ·simp
  have l1:zO I N0=false:=by rw [hS.lt]; exact decide_eq_false (by omega)
  obtain rfl:out=T:=by rw [hout,hT,show i=n by omega]
  have f1:zq 0 i out=true:=by rw [hS.fit]; exact decide_eq_true (by omega)
  have f2:zr out 0 i=out:=by rw [hS.part,List.drop_zero,List.take_of_length_le (by omega)]
  clear hout hT
  subst hs1
  cbv
  rw [eA]
  refine bF l1 (nd f1 ?_)
  rw [f2]
  exact hF _ (ResLe.refl _)
open Go Go.Abs Go.Abs.M Go.Proofs
theorem msolve_err (X Y:Abs.Rows) (h:X.length ≠ Y.length):ACall Tryz.prog 31 [.val (tl X),.val (tl Y)] ⟨[.val (.c (.lst true [])),.val (ti .i64 1)],[none,none]⟩:=by
 refine callZ ccOk mixed [.val,.val] Tryz.func31 rfl rfl (by kernel_rfl) fun zA zB zC zD zE zF zG zH zI zJ zK zL zM zN zO zP zQ zR zT zU zV zX zY zZ zb zc zd ze zg zh zi zj zk zl zm zn zo zq zr zs zt zu zx zy zz zmget zmset zW zth A L F hS hF=>?_
 have e:zN (zZ (zj Y)) (zZ (zj X))=true:=by rw [hS.ne,hS.ofN,hS.ofN,hS.len,hS.len]; exact decide_eq_true (by omega)
 cbv
 refine bT e ?_
 exact hF _ (ResLe.refl _)
theorem rsolve_err (X Y:Abs.Rows) (h:X.length ≠ Y.length):ACall Tryz.prog 46 [.val (tl X),.val (tl Y)] ⟨[.val (.c (.lst true [])),.val (ti .i64 1)],[none,none]⟩:=by
 refine callZ ccOk mixed [.val,.val] Tryz.func46 rfl rfl (by kernel_rfl) fun zA zB zC zD zE zF zG zH zI zJ zK zL zM zN zO zP zQ zR zT zU zV zX zY zZ zb zc zd ze zg zh zi zj zk zl zm zn zo zq zr zs zt zu zx zy zz zmget zmset zW zth A L F hS hF=>?_
 have e:zN (zZ (zj Y)) (zZ (zj X))=true:=by rw [hS.ne,hS.ofN,hS.ofN,hS.len,hS.len]; exact decide_eq_true (by omega)
 cbv
 refine bT e ?_
 exact hF _ (ResLe.refl _)
theorem mmul_err (n m:Nat) (M:Nat->List Rat) (hn:0 < n) (hn4:n<=4) (hP:∀ i,i < n->(M i).length=m) (BR:Abs.Rows) (h:m ≠ BR.length):ACall Tryz.prog 44 [.val (tl (mr n M)),.val (tl BR)] ⟨[.val (.c (.lst true [])),.val (ti .i64 1)],[none,none]⟩:=by
 have cw:=mwidth_call n m M hP (by omega)
 rw [if_neg (by omega)] at cw
 obtain ⟨W0,hW0⟩:∃ X:Int,X=(m:Int):=⟨_,rfl⟩
 rw [<- hW0] at cw
 have lA:=qa6 n M
 generalize mr n M=X at *
 refine callZX ccOk mixed [.val,.val] Tryz.func44 rfl rfl (by kernel_rfl) fun zA zB zC zD zE zF zG zH zI zJ zK zL zM zN zO zP zQ zR zT zU zV zX zY zZ zb zc zd ze zg zh zi zj zk zl zm zn zo zq zr zs zt zu zx zy zz zmget zmset zW zth A L F hS hF=>?_
 have g0:zO 0 (zZ (zj X))=true:=by rw [hS.lt,hS.ofN,hS.len,lA]; exact decide_eq_true (by omega)
 have e:zN W0 (zZ (zj BR))=true:=by rw [hS.ne,hS.ofN,hS.len]; exact decide_eq_true (by omega)
 cbv
 refine bT g0 ?_
 refine ⟨_,hS.hcall cw,?_⟩
 cbv
 refine bT e ?_
 exact hF _ (ResLe.refl _)
theorem rmmul_err (n m:Nat) (M:Nat->List Rat) (hn:0 < n) (hP:∀ i,i < n->(M i).length=m) (BR:Abs.Rows) (h:m ≠ BR.length):ACall Tryz.prog 45 [.val (tl (mr n M)),.val (tl BR)] ⟨[.val (.c (.lst true [])),.val (ti .i64 1)],[none,none]⟩:=by
 have lA:=qa6 n M
 have hR:(mr n M)[0]?=some [.lst false (ur (M 0))]:=qbf hn
 have lR:(ur (M 0)).length=m:=by rw [qag,hP 0 hn]
 generalize mr n M=X at *
 generalize ur (M 0)=R0 at *
 refine callZ ccOk mixed [.val,.val] Tryz.func45 rfl rfl (by kernel_rfl) fun zA zB zC zD zE zF zG zH zI zJ zK zL zM zN zO zP zQ zR zT zU zV zX zY zZ zb zc zd ze zg zh zi zj zk zl zm zn zo zq zr zs zt zu zx zy zz zmget zmset zW zth A L F hS hF=>?_
 have g0:zO 0 (zZ (zj X))=true:=by rw [hS.lt,hS.ofN,hS.len,lA]; exact decide_eq_true (by omega)
 have j0:zX 0=0:=by rw [hS.nat]; rfl
 have j1:zk X 0=some [.lst false R0]:=by rw [hS.nth]; exact hR
 have n0:zP 0 0=true:=by rw [hS.le]; rfl
 have e:zN (zZ (zj R0)) (zZ (zj BR))=true:=by rw [hS.ne,hS.ofN,hS.ofN,hS.len,hS.len,lR]; exact decide_eq_true (by omega)
 cbv
 refine bT g0 ?_
 rw [j0,j1]
 cbv
 refine nd n0 (bT e ?_)
 exact hF _ (ResLe.refl _)
open Go Go.Abs Go.Abs.M Go.Proofs
theorem cmb_qs {P Q:List Rat} {c:Rat} {a b d:Nat} (h1:∀ q ∈ P,Qs q a) (h2:Qs c b) (h3:∀ q ∈ Q,Qs q d) (hl:P.length<=Q.length):∀ q ∈ cmb P c Q,Qs q (a+(b+d)+1):=fun q hq=>by
 obtain ⟨j,hj,rfl⟩:=List.mem_map.1 hq
 have hj:=List.mem_range.1 hj
 exact add_small (h1 _ (by rw [List.getD_eq_getElem?_getD,List.getElem?_eq_getElem hj]; exact List.getElem_mem _)) (mul_small h2 (h3 _ (by rw [List.getD_eq_getElem?_getD,List.getElem?_eq_getElem (by omega)]; exact List.getElem_mem _)))
theorem rr_qs {O:Nat->List Rat} {P:List Rat} {k w a S:Nat} (hP:P.length=w) (hl:∀ l,l < k->(O l).length=w) (hlt:∀ l,l < k->ld (O l) < w) (h1:∀ q ∈ P,Qs q a) (h2:∀ l,l < k->∀ q ∈ O l,Qs q S):∀ l,l<=k->∀ q ∈ rr O P l,Qs q (2 ^ l*(a+S+1) - (S+1))
 | 0,_=>fun q h=>(h1 q h).mono (by omega)
 | l+1,hlk=>fun q h=>by
  have ih:=rr_qs hP hl hlt h1 h2 l (by omega)
  have hx:Qs ((rr O P l).getD (ld (O l)) 0) (2 ^ l*(a+S+1) - (S+1)):=ih _ (by rw [List.getD_eq_getElem?_getD,List.getElem?_eq_getElem (by rw [rr_len,hP]; exact hlt l (by omega))]; exact List.getElem_mem _)
  refine (cmb_qs ih (Qs.neg hx) (h2 l (by omega)) (by rw [rr_len,hP,hl l (by omega)]; exact Nat.le_refl _) q h).mono ?_
  have:1*(a+S+1)<=2 ^ l*(a+S+1):=Nat.mul_le_mul_right _ (Nat.pow_pos (by omega))
  rw [Nat.pow_succ,Nat.mul_comm (2 ^ l) 2,Nat.mul_assoc]; omega
def wSz:Nat->Nat
 | 0=>1
 | i+1=>36*wSz i+3400
theorem wSz_le:∀ i,i<=4->1<=wSz i/\wSz i<=170000000:=fun i h=>by
 obtain rfl | rfl | rfl | rfl | rfl:i=0 ∨ i=1 ∨ i=2 ∨ i=3 ∨ i=4:=by omega
 all_goals decide
theorem re_left {i w:Nat} {M:Nat->List Rat} {s:REs} (h:REI w i M s) (hi:i < 4) (hl:(M i).length=w) (hq:∀ q ∈ M i,Qs q 100) (hS:∀ l,l < s.k->∀ q ∈ s.O l,Qs q (wSz i)) :
  (∀ l,l<=s.k->∀ q ∈ rr s.O (M i) l,Qs q (16*(wSz i+101)))/\(ld (rr s.O (M i) s.k) ≠ w->(∀ q ∈ reQ w (rr s.O (M i) s.k),Qs q (33*(wSz i+101)))/\∀ j c l,l < s.k+1->ld (rr s.O (M i) s.k)=j->c<=s.k->∀ q ∈ insR s.O (reQ w (rr s.O (M i) s.k)) j c l,Qs q (wSz (i+1))):=by
 have hk:=h.kn
 have h1:=rr_qs hl h.len h.lt hq hS
 have hA:∀ l,l<=s.k->∀ q ∈ rr s.O (M i) l,Qs q (16*(wSz i+101)):=fun l hlk q hq'=>(h1 l hlk q hq').mono (by
  have:=Nat.mul_le_mul_right (100+wSz i+1) (Nat.pow_le_pow_right (show 0 < 2 by omega) (show l<=4 by omega))
  omega)
 refine ⟨hA,fun hne=>?_⟩
 have hlen:(rr s.O (M i) s.k).length=w:=by rw [rr_len,hl]
 rcases ld_spec (rr s.O (M i) s.k) with ⟨a,_⟩ | ⟨a,b,_⟩
 ·exact absurd (a.trans hlen) hne
 ·have hx:=hA s.k (Nat.le_refl _) _ (show (rr s.O (M i) s.k).getD (ld (rr s.O (M i) s.k)) 0 ∈ _ by rw [List.getD_eq_getElem?_getD,List.getElem?_eq_getElem a]; exact List.getElem_mem _)
  have hQ:∀ q ∈ reQ w (rr s.O (M i) s.k),Qs q (33*(wSz i+101)):=fun q hq'=>(cmb_qs (a:=1) (fun q hq=>by rw [(List.mem_replicate.1 hq).2]; exact Qs.zero (by omega)) (inv_small b hx) (hA s.k (Nat.le_refl _)) (by simp [hlen]) q hq').mono (by omega)
  refine ⟨hQ,fun j c l hlk hj hc=>?_⟩
  have hjw:j < w:=by rw [<- hj,<- hlen]; exact a
  have lQ:(reQ w (rr s.O (M i) s.k)).length=w:=by rw [reQ,cmb_len]; simp
  have hcm:∀ l,l < s.k->∀ q ∈ cmb (s.O l) (-((s.O l).getD j 0)) (reQ w (rr s.O (M i) s.k)),Qs q (wSz (i+1)):=fun l hlk q hq'=>(cmb_qs (hS l hlk) (Qs.neg (hS l hlk _ (show (s.O l).getD j 0 ∈ s.O l by rw [List.getD_eq_getElem?_getD,List.getElem?_eq_getElem (by rw [h.len l hlk]; exact hjw)]; exact List.getElem_mem _))) hQ (by rw [h.len l hlk,lQ]; exact Nat.le_refl _) q hq').mono (by rw [wSz]; omega)
  generalize reQ w (rr s.O (M i) s.k)=Q at *
  show ∀ q ∈ (if l < c then cmb (s.O l) (-((s.O l).getD j 0)) Q else if l=c then Q else cmb (s.O (l - 1)) (-((s.O (l - 1)).getD j 0)) Q),Qs q (wSz (i+1))
  split
  ·exact hcm l (by omega)
  ·split
   ·exact fun q hq'=>(hQ q hq').mono (by rw [wSz]; omega)
   ·exact hcm (l - 1) (by omega)
theorem re_qs {n w:Nat} {M:Nat->List Rat} (hn:n<=4) (hl:∀ i,i < n->(M i).length=w) (hq:∀ i,i < n->∀ q ∈ M i,Qs q 100):∀ i,i<=n->∀ l,l < (reIt w M i).k->∀ q ∈ (reIt w M i).O l,Qs q (wSz i)
 | 0,_=>fun l h=>absurd h (Nat.not_lt_zero _)
 | i+1,h=>fun l hlk=>by
  have ih:=re_qs hn hl hq i (by omega)
  have ok:=reIt_ok hl i (by omega)
  have hL:=re_left ok (by omega) (hl i (by omega)) (hq i (by omega)) ih
  have hlk:l < (reNext w (reIt w M i) (M i)).k:=hlk
  show ∀ q ∈ (reNext w (reIt w M i) (M i)).O l,Qs q (wSz (i+1))
  unfold reNext at hlk ⊢
  by_cases e:ld (rr (reIt w M i).O (M i) (reIt w M i).k)=w
  ·rw [if_pos e] at hlk ⊢
   exact fun q hq'=>(ih l hlk q hq').mono (by rw [wSz]; omega)
  ·rw [if_neg e] at hlk ⊢
   exact (hL.2 e).2 _ _ l hlk rfl (cntB_spec _ _ _ ok.rre.inc).1
def weSt (MR r:Abs.Rows) (k:Nat) (I:Int):St:=mkSt 112 [.c (.t (.lst false MR)),.junk,.junk,.c (.sl 1 0 k false),vi .i64 I] [none,some (.rows 1 r true false)]
def wjSt (MR r:Abs.Rows) (k:Nat) (I:Int) (X:Abs.Rows) (L:Int):St:=mkSt 112 [.c (.t (.lst false MR)),.junk,.junk,.c (.sl 1 0 k false),vi .i64 I,.c (.t (.lst false X)),vi .i64 L] [none,some (.rows 1 r true false)]
def w2St (MR r:Abs.Rows) (k:Nat) (I:Int) (XQ:Abs.Rows) (AT:Int) (nx:Abs.Rows) (len:Nat) (put:Bool) (L:Int):St:=mkSt 112 [.c (.t (.lst false MR)),.junk,.junk,.c (.sl 1 0 k false),vi .i64 I,.c (.t (.lst false XQ)),.junk,vi .i64 AT,.junk,.junk,.c (.sl 11 0 len false),vb put,vi .i64 L] [none,some (.rows 1 r true false),none,none,none,none,none,none,none,none,none,some (.rows 1 nx true false)]
theorem rech_call (n:Nat) (hn:n<=4) (M:Nat->List Rat) (w:Nat) (hw:w<=1000) (hl:∀ i,i < n->(M i).length=w) (hq:∀ i,i < n->∀ q ∈ M i,Qs q 100) :
  ACall Tryz.prog 47 [.val (tl (mr n M))] ⟨[.val (tl (mr (reIt w M n).k (reIt w M n).O))],[none]⟩:=by
 have hok:=reIt_ok hl
 have hqs:=re_qs hn hl hq
 obtain ⟨MR,hMR⟩:∃ R,R=mr n M:=⟨_,rfl⟩
 obtain ⟨T,hT⟩:∃ R,R=mr (reIt w M n).k (reIt w M n).O:=⟨_,rfl⟩
 rw [<- hMR,<- hT]
 have lM:MR.length=n:=by rw [hMR,qa6]
 obtain ⟨N,hN⟩:∃ N:Int,N=n:=⟨_,rfl⟩
 refine callZ ccOk mixed [.val] Tryz.func47 rfl rfl (by kernel_rfl) fun zA zB zC zD zE zF zG zH zI zJ zK zL zM zN zO zP zQ zR zT zU zV zX zY zZ zb zc zd ze zg zh zi zj zk zl zm zn zo zq zr zs zt zu zx zy zz zmget zmset zW zth A L F hS hF=>?_
 have hN2:zZ (zj MR)=N:=by rw [hS.ofN,hS.len,lM,hN]
 cbv
 have hN:N=(n:Int):=hN
 refine loopZR ccOk mixed hS (fun (m:Nat) s'=>∃ (i:Nat) (I:Int) (k:Nat) (r:Abs.Rows),I=i/\m+i=n/\k=(reIt w M i).k/\r=mr k (reIt w M i).O/\s'=weSt MR r k I) (n:=n) (s0:=weSt MR [] 0 0) (qan ?_ ?_) rfl (Nat.succ_le_succ (Nat.zero_le _)) ?_ ?_
 ·simp [leT,weSt,mkSt,vi,vb]
 ·simp [leH,weSt,mkSt]
 ·exact ⟨0,0,0,[],rfl,by omega,rfl,rfl,rfl⟩
 ·rintro m s1 ⟨i,I,k,r,hI,hm,hk,hr,hs1⟩
  have hI:I=(i:Int):=hI
  by_cases hi:i < n
  ·have l1:zO I N=true:=by rw [hS.lt]; exact decide_eq_true (by omega)
   have okI:=hok i (by omega)
   have hL:=re_left okI (by omega) (hl i hi) (hq i hi) (hqs i (by omega))
   have hSz:=wSz_le i (by omega)
   have hO:=hqs i (by omega)
   have hnext:(reIt w M (i+1))=reNext w (reIt w M i) (M i):=rfl
   obtain ⟨s,hs⟩:∃ s,s=reIt w M i:=⟨_,rfl⟩
   rw [<- hs] at okI hL hO hk hr hnext
   obtain ⟨S,hSS⟩:∃ S,S=wSz i:=⟨_,rfl⟩
   rw [<- hSS] at hL hSz hO
   have hk4:k<=4:=by have:=okI.kn; omega
   have hrl:r.length=k:=by rw [hr,qa6]
   obtain ⟨K,hK⟩:∃ K:Int,K=(k:Int):=⟨_,rfl⟩
   have hK2:zZ k=K:=by rw [hS.ofN,hK]
   obtain ⟨Ri,hRi⟩:∃ R,R=ur (rr s.O (M i) 0):=⟨_,rfl⟩
   have j1:zX I=i:=by rw [hS.nat]; omega
   have j2:zk MR i=some [.lst false Ri]:=by rw [hS.nth,hMR,hRi]; exact qbf hi
   have n0:zP 0 I=true:=by rw [hS.le]; exact decide_eq_true (by omega)
   obtain ⟨X1,hX1⟩:∃ X,X=ur (rr s.O (M i) k):=⟨_,rfl⟩
   subst hs1
   cbv
   rw [hN2]
   refine bT l1 ?_
   rw [j1,j2]
   cbv
   refine nd (n0) ?_
   apply hideP (L:=L) True
   ·intro Q' hQ' hret
    have hK:K=(k:Int):=hK
    refine loopZR ccOk mixed hS (fun (m2:Nat) s'=>∃ (l:Nat) (L':Int) (X:Abs.Rows),L'=l/\m2+l=k/\X=ur (rr s.O (M i) l)/\s'=wjSt MR r k I X L') (n:=k) (s0:=wjSt MR r k I Ri 0) (qan ?_ ?_) rfl (Nat.succ_le_succ (Nat.zero_le _)) ?_ ?_
    ·simp [leT,wjSt,mkSt,vi,vb]
    ·simp [leH,wjSt,mkSt]
    ·exact ⟨0,0,Ri,rfl,by omega,hRi,rfl⟩
    ·rintro m2 s2 ⟨l,L',X,hL',hm2,hX,hs2⟩
     have hL':L'=(l:Int):=hL'
     by_cases hlk:l < k
     ·have hls:l < s.k:=by rw [<- hk]; exact hlk
      have l2:zO L' K=true:=by rw [hS.lt]; exact decide_eq_true (by omega)
      obtain ⟨OL,hOL⟩:∃ R,R=ur (s.O l):=⟨_,rfl⟩
      obtain ⟨LD,hLD⟩:∃ N:Int,N=(ld (s.O l):Int):=⟨_,rfl⟩
      have lO:=okI.len l hls
      have hldw:=okI.lt l hls
      have cld:=lead_call (s.O l) (by omega)
      rw [<- hOL,<- hLD] at cld
      have lrr:(rr s.O (M i) l).length=w:=by rw [rr_len,hl i hi]
      obtain ⟨x,hx⟩:∃ x,x=(rr s.O (M i) l).getD (ld (s.O l)) 0:=⟨_,rfl⟩
      have gx:(rr s.O (M i) l)[ld (s.O l)]?=some x:=by rw [hx,List.getD_eq_getElem?_getD,List.getElem?_eq_getElem (by omega)]; rfl
      have qrr:=hL.1 l (by omega)
      have qx:=qrr x (List.mem_of_getElem? gx)
      have cneg:=wneg_row qx (by omega)
      have ccmb:=comb_call (rr s.O (M i) l) (-x) (s.O l) (16*(S+101)) (16*(S+101)) S (by omega) (by omega) qrr (Qs.neg qx) (hO l hls) (by omega)
      have e:cmb (rr s.O (M i) l) (-x) (s.O l)=rr s.O (M i) (l+1):=by rw [hx]; rfl
      obtain ⟨X2,hX2⟩:∃ R,R=ur (rr s.O (M i) (l+1)):=⟨_,rfl⟩
      obtain ⟨s1,t1,r1,p1,hr1,_⟩:=qrow x
      obtain ⟨s2',t2,r2,p2,hr2,_⟩:=qrow (-x)
      have ux:=qat gx
      rw [<- hX,hr1] at ux
      rw [hr1,hr2] at cneg
      rw [e,<- hX2,<- hX,<- hOL,hr2] at ccmb
      have b1:zY L' k=true:=by rw [hS.inb]; exact decide_eq_true (by omega)
      have b2:zb 0 L'=l:=by rw [hS.idx]; omega
      have j3:zk r l=some [.lst false OL]:=by rw [hS.nth,hr,hOL]; exact qbf hlk
      have n1:zP 0 LD=true:=by rw [hS.le]; exact decide_eq_true (by omega)
      have j4:zX LD=ld (s.O l):=by rw [hS.nat]; omega
      have j5:zk X (ld (s.O l))=some [.v (.bool s1),.lst false r1,.v (.bool t1),.lst false p1]:=by rw [hS.nth]; exact ux
      obtain ⟨L2,hL2,i2⟩:∃ I':Int,I'=((l+1:Nat):Int)/\zA .i64 (zB L' 1)=I':=⟨L'+1,by omega,by rw [hS.add,hS.wrap,wrap_i64 (by omega) (by omega)]⟩
      have hm3:m2 - 1 < m2:=by omega
      have hnx2:∃ (l3:Nat) (L3:Int) (X3:Abs.Rows),L3=l3/\(m2 - 1)+l3=k/\X3=ur (rr s.O (M i) l3)/\wjSt MR r k I X2 L2=wjSt MR r k I X3 L3:=⟨l+1,L2,X2,hL2,by omega,hX2,rfl⟩
      generalize ld (s.O l)=ldo at *
      clear hX hX2 hL2 hOL e lO
      subst hs2
      cbv
      rw [hK2]
      refine bT l2 (nd b1 ?_)
      rw [b2,j3]
      cbv
      refine ⟨_,hS.call (cld),?_⟩
      cbv
      rw [j4,j5]
      cbv
      refine nd (n1) ?_
      refine ⟨_,hS.call (cneg),?_⟩
      cbv
      refine nd (b1) ?_
      rw [b2,j3]
      cbv
      refine ⟨_,hS.call (ccmb),?_⟩
      cbv
      refine againR [] (s':=wjSt MR r k I X2 L2) (k:=m2 - 1) ?_ ?_ ?_ ?_ rfl (Nat.succ_le_succ (Nat.zero_le _)) hm3 hnx2
      ·simp [leTR,wjSt,mkSt,vi,AV.ren,AV.noTup,Cell.ren,renF,i2]
      ·simp [leHR,wjSt,mkSt,Abs.look,renF,Blk.ren,Cell.ren]
      ·simp [liveR,wjSt,mkSt,renF]
      ·simp
     ·have l2:zO L' K=false:=by rw [hS.lt]; exact decide_eq_false (by omega)
      obtain rfl:l=k:=by omega
      obtain rfl:X=X1:=by rw [hX,hX1]
      obtain rfl:L'=K:=by omega
      clear hX
      subst hs2
      cbv
      rw [hK2]
      refine bF l2 ?_
      exact hQ' trivial
   ·intro _
    have hK:K=(k:Int):=hK
    have hI:I=(i:Int):=hI
    have hN:N=(n:Int):=hN
    obtain ⟨P1,hP1⟩:∃ P,P=rr s.O (M i) s.k:=⟨_,rfl⟩
    have lP1:P1.length=w:=by rw [hP1,rr_len,hl i hi]
    have qP1:=hL.1 s.k (Nat.le_refl _)
    have hL2:=hL.2
    rw [<- hP1] at qP1 hL2
    rw [hk,<- hP1] at hX1
    have lX1:X1.length=w:=by rw [hX1,qag,lP1]
    obtain ⟨AT,hAT⟩:∃ N:Int,N=(ld P1:Int):=⟨_,rfl⟩
    obtain ⟨W0,hW0⟩:∃ N:Int,N=(w:Int):=⟨_,rfl⟩
    have cz:=rzeros_call w hw
    obtain ⟨Z,hZ⟩:∃ Z,Z=ur (List.replicate w 0):=⟨_,rfl⟩
    rw [<- hZ,<- hW0] at cz
    have cla:=lead_call P1 (by omega)
    rw [<- hX1,<- hAT] at cla
    have hW2:zZ (zj X1)=W0:=by rw [hS.ofN,hS.len,lX1,hW0]
    obtain ⟨I',hI',i1⟩:∃ I':Int,I'=((i+1:Nat):Int)/\zA .i64 (zB I 1)=I':=⟨I+1,by omega,by rw [hS.add,hS.wrap,wrap_i64 (by omega) (by omega)]⟩
    have hmm:m - 1 < m:=by omega
    unfold reNext at hnext
    rw [<- hP1] at hnext
    cbv
    refine ⟨_,hS.call (cla),?_⟩
    cbv
    rw [hW2]
    have hI:I=(i:Int):=hI
    have hAT:AT=(ld P1:Int):=hAT
    have hW0:W0=(w:Int):=hW0
    have hI':I'=((i+1:Nat):Int):=hI'
    by_cases hat:ld P1=w
    ·rw [if_pos hat] at hnext
     have g1:zM AT W0=true:=by rw [hS.eq]; exact decide_eq_true (by omega)
     have hnx:∃ (i2:Nat) (I2:Int) (k2:Nat) (r2:Abs.Rows),I2=i2/\(m - 1)+i2=n/\k2=(reIt w M i2).k/\r2=mr k2 (reIt w M i2).O/\weSt MR r k I'=weSt MR r2 k2 I2:=⟨i+1,I',k,r,hI',by omega,by rw [hnext]; exact hk,by rw [hnext]; exact hr,rfl⟩
     refine bT g1 ?_
     rw [i1]
     refine againR [] (s':=weSt MR r k I') (k:=m - 1) ?_ ?_ ?_ ?_ rfl (Nat.succ_le_succ (Nat.zero_le _)) hmm hnx
     ·simp [leTR,weSt,mkSt,vi,AV.ren,AV.noTup,Cell.ren,renF]
     ·simp [leHR,weSt,mkSt,Abs.look,renF,Blk.ren,Cell.ren]
     ·simp [liveR,weSt,mkSt,renF]
     ·simp
    ·rw [if_neg hat] at hnext
     obtain ⟨qQ,qI⟩:=hL2 hat
     have g1:zM AT W0=false:=by rw [hS.eq]; exact decide_eq_false (by omega)
     obtain ⟨hlt,hne⟩:ld P1 < P1.length/\rv P1 (ld P1) ≠ 0:=by
      rcases ld_spec P1 with ⟨a,_⟩ | ⟨a,b,_⟩
      ·exact absurd (a.trans lP1) hat
      ·exact ⟨a,b⟩
     obtain ⟨j,hj⟩:∃ j,j=ld P1:=⟨_,rfl⟩
     rw [<- hj] at hlt hne hAT hnext qI
     obtain ⟨y,hy⟩:∃ y,y=P1.getD j 0:=⟨_,rfl⟩
     have hy0:y ≠ 0:=by rw [hy]; exact hne
     have gy:P1[j]?=some y:=by rw [hy,List.getD_eq_getElem?_getD,List.getElem?_eq_getElem hlt]; rfl
     have qy:=qP1 y (List.mem_of_getElem? gy)
     obtain ⟨qyi,cinv⟩:=rqinv_row hy0 qy (by omega)
     have ccq:=comb_call (List.replicate w 0) y⁻¹ P1 1 (16*(S+101)) (16*(S+101)) (by simp; omega) (by simp; omega) (fun q hq=>by rw [(List.mem_replicate.1 hq).2]; exact Qs.zero (by omega)) qyi qP1 (by omega)
     have eQ:cmb (List.replicate w 0) y⁻¹ P1=reQ w P1:=by rw [reQ,<- hj,hy]
     obtain ⟨Q,hQ⟩:∃ Q,Q=reQ w P1:=⟨_,rfl⟩
     obtain ⟨XQ,hXQ⟩:∃ Q',Q'=ur Q:=⟨_,rfl⟩
     rw [<- hQ] at qQ qI hnext
     rw [eQ,<- hQ,<- hXQ,<- hZ,<- hX1] at ccq
     obtain ⟨s3,t3,r3,p3,hr3,_⟩:=qrow y
     obtain ⟨s4,t4,r4,p4,hr4,_⟩:=qrow y⁻¹
     rw [hr3,hr4] at cinv
     rw [hr4] at ccq
     have uy:=qat gy
     rw [<- hX1,hr3] at uy
     have lZ:Z.length=w:=by rw [hZ,qag,List.length_replicate]
     have n2:zP 0 AT=true:=by rw [hS.le]; exact decide_eq_true (by omega)
     have v1:zX AT=j:=by rw [hS.nat]; omega
     have v2:zk X1 j=some [.v (.bool s3),.lst false r3,.v (.bool t3),.lst false p3]:=by rw [hS.nth]; exact uy
     have v3:zj Z=w:=by rw [hS.len,lZ]
     have v4:zq 0 w Z=true:=by rw [hS.fit]; exact decide_eq_true (by omega)
     have v5:zr Z 0 w=Z:=by rw [hS.part,List.drop_zero,List.take_of_length_le (by omega)]
     refine bF g1 ?_
     rw [v1,v2]
     cbv
     refine nd (n2) ?_
     refine ⟨_,hS.call (cinv),?_⟩
     cbv
     rw [hW2]
     refine ⟨_,hS.call (cz),?_⟩
     cbv
     rw [v3]
     refine nd v4 ?_
     rw [v5]
     refine ⟨_,hS.call (ccq),?_⟩
     cbv
     obtain ⟨c,hc⟩:∃ c,c=cntB s.O j s.k:=⟨_,rfl⟩
     obtain ⟨hck,hc1,hc2⟩:=cntB_spec s.O j s.k okI.rre.inc
     rw [<- hc] at hck hc1 hc2 hnext
     obtain ⟨B,hB⟩:∃ B:Nat->List Rat,B=insR s.O Q j c:=⟨_,rfl⟩
     rw [<- hB] at hnext
     have bL:∀ l,l < c->B l=cmb (s.O l) (-((s.O l).getD j 0)) Q:=fun l h=>by rw [hB]; exact if_pos h
     have bC:B c=Q:=by rw [hB]; exact (if_neg (by omega)).trans (if_pos rfl)
     have bH:∀ l,c<=l->B (l+1)=cmb (s.O l) (-((s.O l).getD j 0)) Q:=fun l h=>by rw [hB]; exact (if_neg (by omega)).trans ((if_neg (by omega)).trans (by rw [Nat.add_sub_cancel]))
     have lQ:Q.length=w:=by rw [hQ,reQ,cmb_len]; simp
     have hjw:j < w:=by omega
     obtain ⟨nE,lE,pE,hE⟩:∃ (nE:Abs.Rows) (lE:Nat) (pE:Bool),(c=k/\nE=mr k B/\lE=k/\pE=false) ∨ (c < k/\nE=mr (k+1) B/\lE=k+1/\pE=true):=by
      by_cases h:c=k
      ·exact ⟨_,_,_,.inl ⟨h,rfl,rfl,rfl⟩⟩
      ·exact ⟨_,_,_,.inr ⟨by omega,rfl,rfl,rfl⟩⟩
     have U0:∀ ρ:List Tree,zr [ρ] 0 1=[ρ]:=fun ρ=>by rw [hS.part]; rfl
     have U1:∀ ρ:List Tree,zq 0 1 [ρ]=true:=fun ρ=>by rw [hS.fit]; rfl
     have U2:∀ ρ:List Tree,zQ (zc (zj [ρ]) 0)=true:=fun ρ=>by rw [hS.len,hS.neq,hS.not]; rfl
     have U3:∀ ρ:List Tree,ρ.length=1->zx 1 [ρ]=true:=fun ρ h=>by rw [hS.wide]; simp [h]
     have U4:∀ (ρ:List Tree) (a:Nat),a<=10->zh a (zj [ρ]) 24=true:=fun ρ a h=>by rw [hS.len,hS.room]; exact decide_eq_true (by unfold capBytes; simp only [List.length_cons,List.length_nil]; omega)
     have U5:∀ (x:Abs.Rows) (a:Nat),x.length=a->zc (zd 0 a) (zj x)=true:=fun x a h=>by rw [hS.nadd,hS.neq,hS.len,h,Nat.zero_add]; exact decide_eq_true rfl
     have U6:∀ (ρ:List Tree) (a:Nat),zd a (zj [ρ])=a+1:=fun ρ a=>by rw [hS.len,hS.nadd]; rfl
     have U7:∀ (x:Abs.Rows) (ρ:List Tree),zs x 0 [ρ]=x ++ [ρ]:=fun x ρ=>by rw [hS.ext,List.drop_zero]
     have z1:zQ false=true:=by rw [hS.not]; rfl
     have z2:zQ true=false:=by rw [hS.not]; rfl
     have hks:∀ l,l < k->l < s.k:=fun l h=>by rw [<- hk]; exact h
     have hsk:s.k=k:=hk.symm
     obtain ⟨RQ,hRQ⟩:∃ ρ:List Tree,ρ=[Tree.lst false XQ]:=⟨_,rfl⟩
     have lRQ:RQ.length=1:=by rw [hRQ]; rfl
     apply hideP (L:=L) True
     ·intro Q' hQ' hret
      have hK:K=(k:Int):=hK
      have hAT:AT=(j:Int):=hAT
      refine loopZR ccOk mixed hS (fun (m2:Nat) s'=>∃ (l:Nat) (L':Int) (x:Abs.Rows),L'=l/\m2+l=k/\((l<=c/\x=mr l B/\s'=w2St MR r k I XQ AT x l false L') ∨ (c < l/\x=mr (l+1) B/\s'=w2St MR r k I XQ AT x (l+1) true L'))) (n:=k) (s0:=w2St MR r k I XQ AT [] 0 false 0) (qan ?_ ?_) rfl (Nat.succ_le_succ (Nat.zero_le _)) ?_ ?_
      ·simp [leT,w2St,mkSt,vi,vb]
      ·simp [leH,w2St,mkSt]
      ·exact ⟨0,0,[],rfl,by omega,.inl ⟨Nat.zero_le _,rfl,rfl⟩⟩
      ·rintro m2 s2 ⟨l,L',x,hL',hm2,hcs⟩
       have hL':L'=(l:Int):=hL'
       by_cases hlk:l < k
       ·have hls:=hks l hlk
        have l2:zO L' K=true:=by rw [hS.lt]; exact decide_eq_true (by omega)
        obtain ⟨OL,hOL⟩:∃ R,R=ur (s.O l):=⟨_,rfl⟩
        obtain ⟨LD,hLD⟩:∃ N:Int,N=(ld (s.O l):Int):=⟨_,rfl⟩
        have lO:=okI.len l hls
        have cld:=lead_call (s.O l) (by omega)
        rw [<- hOL,<- hLD] at cld
        obtain ⟨z,hz⟩:∃ z,z=(s.O l).getD j 0:=⟨_,rfl⟩
        have gz:(s.O l)[j]?=some z:=by rw [hz,List.getD_eq_getElem?_getD,List.getElem?_eq_getElem (by omega)]; rfl
        have qz:=hO l hls z (List.mem_of_getElem? gz)
        have cneg:=wneg_row qz (by omega)
        have ccmb:=comb_call (s.O l) (-z) Q S S (33*(S+101)) (by omega) (by omega) (hO l hls) (Qs.neg qz) qQ (by omega)
        obtain ⟨YL,hYL⟩:∃ R,R=ur (cmb (s.O l) (-z) Q):=⟨_,rfl⟩
        obtain ⟨s5,t5,r5,p5,hr5,_⟩:=qrow z
        obtain ⟨s6,t6,r6,p6,hr6,_⟩:=qrow (-z)
        have uz:=qat gz
        rw [<- hOL,hr5] at uz
        rw [hr5,hr6] at cneg
        rw [<- hYL,<- hOL,<- hXQ,hr6] at ccmb
        obtain ⟨RY,hRY⟩:∃ ρ:List Tree,ρ=[Tree.lst false YL]:=⟨_,rfl⟩
        have lRY:RY.length=1:=by rw [hRY]; rfl
        have b1:zY L' k=true:=by rw [hS.inb]; exact decide_eq_true (by omega)
        have b2:zb 0 L'=l:=by rw [hS.idx]; omega
        have j3:zk r l=some [.lst false OL]:=by rw [hS.nth,hr,hOL]; exact qbf hlk
        have j5:zk OL j=some [.v (.bool s5),.lst false r5,.v (.bool t5),.lst false p5]:=by rw [hS.nth]; exact uz
        obtain ⟨L2,hL2,i2⟩:∃ I':Int,I'=((l+1:Nat):Int)/\zA .i64 (zB L' 1)=I':=⟨L'+1,by omega,by rw [hS.add,hS.wrap,wrap_i64 (by omega) (by omega)]⟩
        have hm3:m2 - 1 < m2:=by omega
        have yL:l < c->mr (l+1) B=mr l B ++ [RY]:=fun h=>by rw [mr_succ,bL l h,<- hz,hRY,hYL]
        have yH:c<=l->mr (l+1+1) B=mr (l+1) B ++ [RY]:=fun h=>by rw [mr_succ,bH l h,<- hz,hRY,hYL]
        have yC:l=c->mr (l+1) B=mr l B ++ [RQ]:=fun h=>by rw [mr_succ,h,bC,hRQ,hXQ]
        rcases hcs with ⟨hlc,hx,hs2⟩ | ⟨hlc,hx,hs2⟩
        ·have lx:x.length=l:=by rw [hx,qa6]
         by_cases hle:l=c
         ·have g2:zO AT LD=true:=by
           rw [hS.lt]
           have h1:=hc2 l (by omega) hls
           have h2:ld (s.O l) ≠ j:=fun e=>by
            have h0:=rr_rv (P:=M i) (k:=s.k) (O:=s.O) (fun l hlk=>by rw [okI.len l hlk,hl i hi]) (fun l h1 l' h2 h3=>okI.rre.ub.off l h1 l' h2 h3) s.k (Nat.le_refl _) j
            rw [<- hP1,sumN_one s.k hls fun l' hl' hne=>by rw [<- e,okI.rre.ub.off l' hl' l hls (Ne.symm hne),Rat.mul_zero]] at h0
            have h4:=okI.rre.ub.one l hls
            rw [e] at h0 h4
            rw [h4] at h0
            exact hne (by rw [h0]; grind)
           exact decide_eq_true (by omega)
          obtain ⟨x2,hx2⟩:∃ x2,x2=x ++ [RQ]:=⟨_,rfl⟩
          obtain ⟨x3,hx3⟩:∃ x3,x3=x2 ++ [RY]:=⟨_,rfl⟩
          have hnx2:∃ (l3:Nat) (L3:Int) (x4:Abs.Rows),L3=l3/\(m2 - 1)+l3=k/\((l3<=c/\x4=mr l3 B/\w2St MR r k I XQ AT (x3) (l+1+1) true L2=w2St MR r k I XQ AT x4 l3 false L3) ∨ (c < l3/\x4=mr (l3+1) B/\w2St MR r k I XQ AT (x3) (l+1+1) true L2=w2St MR r k I XQ AT x4 (l3+1) true L3)):=⟨l+1,L2,_,hL2,by omega,.inr ⟨by omega,by rw [yH (by omega),yC hle,hx3,hx2,hx],rfl⟩⟩
          have lx2:x2.length=l+1:=by rw [hx2,List.length_append,lx]; rfl
          have hz1:zs x 0 [RQ]=x2:=by rw [U7,hx2]
          have hz2:zs x2 0 [RY]=x3:=by rw [U7,hx3]
          clear hx hx2 hx3 hL2 hOL hz hYL
          subst hs2
          cbv
          rw [hK2]
          refine bT l2 (bT z1 (nd b1 ?_))
          rw [b2,j3]
          cbv
          refine ⟨_,hS.call (cld),?_⟩
          cbv
          refine bT (g2) ?_
          rw [<- hRQ,U0,U6,hz1]
          refine nd (U1 _) (nd (U2 _) (nd (U3 _ lRQ) (nd (U4 _ _ (by omega)) (nd (U5 _ _ lx) ?_))))
          refine nd b1 ?_
          rw [b2,j3]
          cbv
          refine nd b1 ?_
          rw [b2,j3]
          cbv
          rw [v1,j5]
          cbv
          refine nd (n2) ?_
          refine ⟨_,hS.call (cneg),?_⟩
          cbv
          refine ⟨_,hS.call (ccmb),?_⟩
          cbv
          rw [<- hRY,U0,U6,hz2]
          refine nd (U1 _) (nd (U2 _) (nd (U3 _ lRY) (nd (U4 _ _ (by omega)) (nd (U5 _ _ lx2) ?_))))
          refine againR [(11,21)] (s':=w2St MR r k I XQ AT (x3) (l+1+1) true L2) (k:=m2 - 1) ?_ ?_ ?_ ?_ rfl (Nat.succ_le_succ (Nat.zero_le _)) hm3 hnx2
          ·simp [leTR,w2St,mkSt,vi,vb,AV.ren,AV.noTup,Cell.ren,renF,i2]
          ·simp [leHR,w2St,mkSt,Abs.look,renF,Blk.ren,Cell.ren]
          ·simp [liveR,w2St,mkSt,renF]
          ·simp
         ·have g2:zO AT LD=false:=by
           rw [hS.lt]
           have h1:=hc1 l (by omega)
           exact decide_eq_false (by omega)
          obtain ⟨x2,hx2⟩:∃ x2,x2=x ++ [RY]:=⟨_,rfl⟩
          have hnx2:∃ (l3:Nat) (L3:Int) (x3:Abs.Rows),L3=l3/\(m2 - 1)+l3=k/\((l3<=c/\x3=mr l3 B/\w2St MR r k I XQ AT (x2) (l+1) false L2=w2St MR r k I XQ AT x3 l3 false L3) ∨ (c < l3/\x3=mr (l3+1) B/\w2St MR r k I XQ AT (x2) (l+1) false L2=w2St MR r k I XQ AT x3 (l3+1) true L3)):=⟨l+1,L2,_,hL2,by omega,.inl ⟨by omega,by rw [yL (by omega),hx2,hx],rfl⟩⟩
          have hz2:zs x 0 [RY]=x2:=by rw [U7,hx2]
          clear hx hx2 hL2 hOL hz hYL
          subst hs2
          cbv
          rw [hK2]
          refine bT l2 (bT z1 (nd b1 ?_))
          rw [b2,j3]
          cbv
          refine ⟨_,hS.call (cld),?_⟩
          cbv
          refine bF (g2) ?_
          refine nd b1 ?_
          rw [b2,j3]
          cbv
          refine nd b1 ?_
          rw [b2,j3]
          cbv
          rw [v1,j5]
          cbv
          refine nd (n2) ?_
          refine ⟨_,hS.call (cneg),?_⟩
          cbv
          refine ⟨_,hS.call (ccmb),?_⟩
          cbv
          rw [<- hRY,U0,U6,hz2]
          refine nd (U1 _) (nd (U2 _) (nd (U3 _ lRY) (nd (U4 _ _ (by omega)) (nd (U5 _ _ lx) ?_))))
          refine againR [(11,19)] (s':=w2St MR r k I XQ AT (x2) (l+1) false L2) (k:=m2 - 1) ?_ ?_ ?_ ?_ rfl (Nat.succ_le_succ (Nat.zero_le _)) hm3 hnx2
          ·simp [leTR,w2St,mkSt,vi,vb,AV.ren,AV.noTup,Cell.ren,renF,i2]
          ·simp [leHR,w2St,mkSt,Abs.look,renF,Blk.ren,Cell.ren]
          ·simp [liveR,w2St,mkSt,renF]
          ·simp
        ·have lx:x.length=l+1:=by rw [hx,qa6]
         obtain ⟨x2,hx2⟩:∃ x2,x2=x ++ [RY]:=⟨_,rfl⟩
         have hnx2:∃ (l3:Nat) (L3:Int) (x3:Abs.Rows),L3=l3/\(m2 - 1)+l3=k/\((l3<=c/\x3=mr l3 B/\w2St MR r k I XQ AT (x2) (l+1+1) true L2=w2St MR r k I XQ AT x3 l3 false L3) ∨ (c < l3/\x3=mr (l3+1) B/\w2St MR r k I XQ AT (x2) (l+1+1) true L2=w2St MR r k I XQ AT x3 (l3+1) true L3)):=⟨l+1,L2,_,hL2,by omega,.inr ⟨by omega,by rw [yH (by omega),hx2,hx],rfl⟩⟩
         have hz2:zs x 0 [RY]=x2:=by rw [U7,hx2]
         clear hx hx2 hL2 hOL hz hYL
         subst hs2
         cbv
         rw [hK2]
         refine bT l2 (bF z2 ?_)
         refine nd b1 ?_
         rw [b2,j3]
         cbv
         refine nd b1 ?_
         rw [b2,j3]
         cbv
         rw [v1,j5]
         cbv
         refine nd (n2) ?_
         refine ⟨_,hS.call (cneg),?_⟩
         cbv
         refine ⟨_,hS.call (ccmb),?_⟩
         cbv
         rw [<- hRY,U0,U6,hz2]
         refine nd (U1 _) (nd (U2 _) (nd (U3 _ lRY) (nd (U4 _ _ (by omega)) (nd (U5 _ _ lx) ?_))))
         refine againR [(11,19)] (s':=w2St MR r k I XQ AT (x2) (l+1+1) true L2) (k:=m2 - 1) ?_ ?_ ?_ ?_ rfl (Nat.succ_le_succ (Nat.zero_le _)) hm3 hnx2
         ·simp [leTR,w2St,mkSt,vi,vb,AV.ren,AV.noTup,Cell.ren,renF,i2]
         ·simp [leHR,w2St,mkSt,Abs.look,renF,Blk.ren,Cell.ren]
         ·simp [liveR,w2St,mkSt,renF]
         ·simp
       ·have l2:zO L' K=false:=by rw [hS.lt]; exact decide_eq_false (by omega)
        obtain rfl:l=k:=by omega
        obtain rfl:L'=K:=by omega
        have hs2:s2=w2St MR r l I XQ AT nE lE pE L':=by
         rcases hcs with ⟨h1,h2,h3⟩ | ⟨h1,h2,h3⟩ <;> rcases hE with ⟨e1,e2,e3,e4⟩ | ⟨e1,e2,e3,e4⟩
         ·rw [h3,h2,e2,e3,e4]
         ·omega
         ·omega
         ·rw [h3,h2,e2,e3,e4]
        clear hcs
        subst hs2
        cbv
        rw [hK2]
        refine bF l2 ?_
        exact hQ' trivial
     ·intro _
      have hnx:∃ (i2:Nat) (I2:Int) (k2:Nat) (r2:Abs.Rows),I2=i2/\(m - 1)+i2=n/\k2=(reIt w M i2).k/\r2=mr k2 (reIt w M i2).O/\weSt MR (mr (k+1) B) (k+1) I'=weSt MR r2 k2 I2:=⟨i+1,I',k+1,_,hI',by omega,by rw [hnext,<- hk],by rw [hnext],rfl⟩
      have bk:c=k->mr (k+1) B=mr k B ++ [RQ]:=fun h=>by rw [mr_succ,<- h,bC,hRQ,hXQ]
      rcases hE with ⟨e1,e2,rfl,rfl⟩ | ⟨e1,e2,rfl,rfl⟩
      ·have lnE:nE.length=lE:=by rw [e2,qa6]
       obtain ⟨n2',hn2⟩:∃ x,x=nE ++ [RQ]:=⟨_,rfl⟩
       have hz3:zs nE 0 [RQ]=n2':=by rw [U7,hn2]
       rw [bk e1,<- e2,<- hn2] at hnx
       cbv
       refine bT z1 ?_
       rw [<- hRQ,U0,U6,hz3]
       refine nd (U1 _) (nd (U2 _) (nd (U3 _ lRQ) (nd (U4 _ _ (by omega)) (nd (U5 _ _ lnE) ?_))))
       rw [i1]
       refine againR [(1,13)] (s':=weSt MR n2' (lE+1) I') (k:=m - 1) ?_ ?_ ?_ ?_ rfl (Nat.succ_le_succ (Nat.zero_le _)) hmm hnx
       ·simp [leTR,weSt,mkSt,vi,AV.ren,AV.noTup,Cell.ren,renF]
       ·simp [leHR,weSt,mkSt,Abs.look,renF,Blk.ren,Cell.ren]
       ·simp [liveR,weSt,mkSt,renF]
       ·simp
      ·rw [<- e2] at hnx
       cbv
       refine bF z2 ?_
       rw [i1]
       refine againR [(1,11)] (s':=weSt MR nE (k+1) I') (k:=m - 1) ?_ ?_ ?_ ?_ rfl (Nat.succ_le_succ (Nat.zero_le _)) hmm hnx
       ·simp [leTR,weSt,mkSt,vi,AV.ren,AV.noTup,Cell.ren,renF]
       ·simp [leHR,weSt,mkSt,Abs.look,renF,Blk.ren,Cell.ren]
       ·simp [liveR,weSt,mkSt,renF]
       ·simp
  ·have l1:zO I N=false:=by rw [hS.lt]; exact decide_eq_false (by omega)
   have hrl:r.length=k:=by rw [hr,qa6]
   have hrT:r=T:=by rw [hr,hT,hk,show i=n by omega]
   have f1:zq 0 k r=true:=by rw [hS.fit]; exact decide_eq_true (by omega)
   have f2:zr r 0 k=r:=by rw [hS.part,List.drop_zero,List.take_of_length_le (by omega)]
   subst hrT
   subst hs1
   cbv
   rw [hN2]
   refine bF l1 (nd f1 ?_)
   rw [f2]
   exact hF _ (ResLe.refl _)
open Go Go.Abs Go.Abs.M Go.Proofs
def pvi (O:Nat->List Rat):Nat->Nat->Int
 | 0,_=>-1
 | k+1,y=>if y=ld (O k) then (k:Int) else pvi O k y
def pvL (O:Nat->List Rat) (w k:Nat):List Int:=(List.range w).map (pvi O k)
theorem pvL_len (O:Nat->List Rat) (w k:Nat):(pvL O w k).length=w:=by simp [pvL]
theorem pvL_zero (O:Nat->List Rat) (w:Nat):List.replicate w (-1)=pvL O w 0:=by
 refine List.ext_getElem? fun y=>?_
 by_cases hy:y < w
 ·simp [pvL,List.getElem?_replicate,List.getElem?_map,List.getElem?_range hy,hy,pvi]
 ·rw [List.getElem?_eq_none (by simp; omega),List.getElem?_eq_none (by rw [pvL_len]; omega)]
theorem pvL_next {O:Nat->List Rat} {w k:Nat} (h:ld (O k) < w):(pvL O w k).set (ld (O k)) (k:Int)=pvL O w (k+1):=by
 refine List.ext_getElem? fun y=>?_
 by_cases hy:y < w
 ·rw [List.getElem?_set,pvL_len]
  by_cases e:ld (O k)=y
  ·rw [if_pos e,if_pos (by omega)]; simp [e,pvL,pvi,List.getElem?_map,List.getElem?_range hy]
  ·rw [if_neg e]; simp [pvL,pvi,Ne.symm e,List.getElem?_map,List.getElem?_range hy]
 ·rw [List.getElem?_eq_none (by rw [List.length_set,pvL_len]; omega),List.getElem?_eq_none (by rw [pvL_len]; omega)]
def wpSt (X:Abs.Rows) (N:Int) (x:Abs.Rows) (j:Nat) (J:Int):St:=mkSt 32 [.c (.t (.lst false X)),vi .i64 N,.junk,.junk,.junk,.c (.sl 2 0 j false),vi .i64 J] [none,none,some (.rows 1 x true false)]
def wpSt2 (X:Abs.Rows) (N:Int) (x:Abs.Rows) (w:Nat) (I:Int):St:=mkSt 32 [.c (.t (.lst false X)),.junk,.junk,.junk,.junk,.c (.sl 2 0 w false),.junk,vi .i64 I] [none,none,some (.rows 1 x true false)]
theorem rpiv_call (k w:Nat) (hk:k<=1000) (hw:w<=1000) (O:Nat->List Rat) (hl:∀ l,l < k->(O l).length<=1000) (hlt:∀ l,l < k->ld (O l) < w) :
  ACall Tryz.prog 96 [.val (tl (mr k O)),.val (ti .i64 (w:Int))] ⟨[.val (tl (W .i64 (pvL O w k)))],[none,none]⟩:=by
 obtain ⟨X,hX⟩:∃ X,X=mr k O:=⟨_,rfl⟩
 obtain ⟨T,hT⟩:∃ X,X=W .i64 (pvL O w k):=⟨_,rfl⟩
 obtain ⟨N,hN⟩:∃ N:Int,N=(w:Int):=⟨_,rfl⟩
 obtain ⟨K,hK⟩:∃ N:Int,N=(k:Int):=⟨_,rfl⟩
 have lX:X.length=k:=by rw [hX,qa6]
 rw [<- hX,<- hT,<- hN]
 refine callZ ccOk mixed [.val] Tryz.func96 rfl rfl (by kernel_rfl) fun zA zB zC zD zE zF zG zH zI zJ zK zL zM zN zO zP zQ zR zT zU zV zX zY zZ zb zc zd ze zg zh zi zj zk zl zm zn zo zq zr zs zt zu zx zy zz zmget zmset zW zth A L F hS hF=>?_
 have hK2:zZ (zj X)=K:=by rw [hS.ofN,hS.len,lX,hK]
 cbv
 have hN:N=(w:Int):=hN
 have hK:K=(k:Int):=hK
 refine loopZR ccOk mixed hS (fun (m:Nat) s'=>∃ (j:Nat) (J:Int) (x:Abs.Rows),J=j/\m+j=w/\x=W .i64 (List.replicate j (-1))/\s'=wpSt X N x j J) (n:=w) (s0:=wpSt X N [] 0 0) (qan ?_ ?_) rfl (Nat.succ_le_succ (Nat.succ_le_succ (Nat.zero_le _))) ?_ ?_
 ·simp [leT,wpSt,mkSt,vi,vb]
 ·simp [leH,wpSt,mkSt]
 ·exact ⟨0,0,[],rfl,by omega,rfl,rfl⟩
 ·rintro m s1 ⟨j,J,x,hJ,hm,hx,hs1⟩
  have hJ:J=(j:Int):=hJ
  have lx:x.length=j:=by rw [hx,qaj,List.length_replicate]
  by_cases hj:j < w
  ·have l1:zO J N=true:=by rw [hS.lt]; exact decide_eq_true (by omega)
   obtain ⟨ρ,hρ⟩:∃ ρ:List Tree,ρ=[Tree.v (.int .i64 (-1))]:=⟨_,rfl⟩
   have u0:zr [ρ] 0 1=[ρ]:=by rw [hS.part]; rfl
   have u1:zq 0 1 [ρ]=true:=by rw [hS.fit]; rfl
   have u2:zQ (zc (zj [ρ]) 0)=true:=by rw [hS.len,hS.neq,hS.not]; rfl
   have u3:zx 1 [ρ]=true:=by rw [hS.wide,hρ]; rfl
   have u4:zh j (zj [ρ]) 8=true:=by rw [hS.len,hS.room]; exact decide_eq_true (by unfold capBytes; simp only [List.length_cons,List.length_nil]; omega)
   have u5:zc (zd 0 j) (zj x)=true:=by rw [hS.nadd,hS.neq,hS.len,lx,Nat.zero_add]; exact decide_eq_true rfl
   have u6:zd j (zj [ρ])=j+1:=by rw [hS.len,hS.nadd]; rfl
   obtain ⟨x2,hx2⟩:∃ x2,x2=W .i64 (List.replicate (j+1) (-1)):=⟨_,rfl⟩
   have u7:zs x 0 [ρ]=x2:=by rw [hS.ext,List.drop_zero,hx,hx2,hρ,List.replicate_succ']; simp [W]
   obtain ⟨J',hJ',i1⟩:∃ I':Int,I'=((j+1:Nat):Int)/\zA .i64 (zB J 1)=I':=⟨J+1,by omega,by rw [hS.add,hS.wrap,wrap_i64 (by omega) (by omega)]⟩
   have hmm:m - 1 < m:=by omega
   have hnx:∃ (j2:Nat) (J2:Int) (x3:Abs.Rows),J2=j2/\(m - 1)+j2=w/\x3=W .i64 (List.replicate j2 (-1))/\wpSt X N x2 (j+1) J'=wpSt X N x3 j2 J2:=⟨j+1,J',x2,hJ',by omega,hx2,rfl⟩
   clear hx hx2 hJ'
   subst hs1
   cbv
   refine bT l1 ?_
   rw [<- hρ,u0,u6,u7,i1]
   refine nd u1 (nd u2 (nd u3 (nd u4 (nd u5 ?_))))
   refine againR [(2,4)] (s':=wpSt X N x2 (j+1) J') (k:=m - 1) ?_ ?_ ?_ ?_ rfl (Nat.succ_le_succ (Nat.succ_le_succ (Nat.zero_le _))) hmm hnx
   ·simp [leTR,wpSt,mkSt,vi,AV.ren,AV.noTup,Cell.ren,renF]
   ·simp [leHR,wpSt,mkSt,Abs.look,renF,Blk.ren,Cell.ren]
   ·simp [liveR,wpSt,mkSt,renF]
   ·simp
  ·have l1:zO J N=false:=by rw [hS.lt]; exact decide_eq_false (by omega)
   obtain rfl:j=w:=by omega
   have hx0:x=W .i64 (pvL O j 0):=by rw [hx,pvL_zero O]
   subst hs1
   cbv
   refine bF l1 ?_
   refine loopZR ccOk mixed hS (fun (m:Nat) s'=>∃ (i:Nat) (I:Int) (x:Abs.Rows),I=i/\m+i=k/\x=W .i64 (pvL O j i)/\s'=wpSt2 X N x j I) (n:=k) (s0:=wpSt2 X N x j 0) (qan ?_ ?_) rfl (Nat.succ_le_succ (Nat.succ_le_succ (Nat.zero_le _))) ?_ ?_
   ·simp [leT,wpSt2,mkSt,vi,vb]
   ·simp [leH,wpSt2,mkSt]
   ·exact ⟨0,0,x,rfl,by omega,hx0,rfl⟩
   ·rintro m2 s2 ⟨i,I,x,hI,hm2,hx,hs2⟩
    have hI:I=(i:Int):=hI
    have hK:K=(k:Int):=hK
    by_cases hi:i < k
    ·have l2:zO I K=true:=by rw [hS.lt]; exact decide_eq_true (by omega)
     have j1:zX I=i:=by rw [hS.nat]; omega
     have n0:zP 0 I=true:=by rw [hS.le]; exact decide_eq_true (by omega)
     obtain ⟨OL,hOL⟩:∃ R,R=ur (O i):=⟨_,rfl⟩
     have j2:zk X i=some [.lst false OL]:=by rw [hS.nth,hX,hOL]; exact qbf hi
     obtain ⟨LD,hLD⟩:∃ N:Int,N=(ld (O i):Int):=⟨_,rfl⟩
     have cld:=lead_call (O i) (hl i hi)
     rw [<- hOL,<- hLD] at cld
     have hlw:=hlt i hi
     have b1:zY LD j=true:=by rw [hS.inb]; exact decide_eq_true (by omega)
     have b2:zb 0 LD=ld (O i):=by rw [hS.idx]; omega
     have b3:zm .i64 x (ld (O i))=true:=by rw [hS.isI,hx,qaq,pvL_len]; exact decide_eq_true hlw
     obtain ⟨x2,hx2⟩:∃ x2,x2=W .i64 (pvL O j (i+1)):=⟨_,rfl⟩
     have b4:zo .i64 x (ld (O i)) I=x2:=by rw [hS.setI,hx,hx2,<- pvL_next hlw,hI]; exact W_set _ _ _ _
     obtain ⟨I',hI',i1⟩:∃ I':Int,I'=((i+1:Nat):Int)/\zA .i64 (zB I 1)=I':=⟨I+1,by omega,by rw [hS.add,hS.wrap,wrap_i64 (by omega) (by omega)]⟩
     have hmm:m2 - 1 < m2:=by omega
     have hnx:∃ (i2:Nat) (I2:Int) (x3:Abs.Rows),I2=i2/\(m2 - 1)+i2=k/\x3=W .i64 (pvL O j i2)/\wpSt2 X N x2 j I'=wpSt2 X N x3 j I2:=⟨i+1,I',x2,hI',by omega,hx2,rfl⟩
     clear hx hx2 hI' hx0
     subst hs2
     cbv
     rw [hK2]
     refine bT l2 ?_
     rw [j1,j2]
     cbv
     refine nd (n0) ?_
     refine ⟨_,hS.call (cld),?_⟩
     cbv
     rw [b2]
     refine nd b1 (nd b3 ?_)
     rw [b4,i1]
     refine againR [] (s':=wpSt2 X N x2 j I') (k:=m2 - 1) ?_ ?_ ?_ ?_ rfl (Nat.succ_le_succ (Nat.succ_le_succ (Nat.zero_le _))) hmm hnx
     ·simp [leTR,wpSt2,mkSt,vi,AV.ren,AV.noTup,Cell.ren,renF]
     ·simp [leHR,wpSt2,mkSt,Abs.look,renF,Blk.ren,Cell.ren]
     ·simp [liveR,wpSt2,mkSt,renF]
     ·simp
    ·have l2:zO I K=false:=by rw [hS.lt]; exact decide_eq_false (by omega)
     obtain rfl:x=T:=by rw [hx,hT,show i=k by omega]
     have lx2:x.length=j:=by rw [hx,qaj,pvL_len]
     have f1:zq 0 j x=true:=by rw [hS.fit]; exact decide_eq_true (by omega)
     have f2:zr x 0 j=x:=by rw [hS.part,List.drop_zero,List.take_of_length_le (by omega)]
     clear hx hT
     subst hs2
     cbv
     rw [hK2]
     refine bF l2 (nd f1 ?_)
     rw [f2]
     exact hF _ (ResLe.refl _)
open Go Go.Abs Go.Abs.M Go.Proofs
theorem pvi_spec (O:Nat->List Rat) (j y:Nat):∀ k,(pvi O k y=-1/\isP (fun l=>ld (O l)) k y=false) ∨ ∃ l,l < k/\pvi O k y=(l:Int)/\isP (fun l=>ld (O l)) k y=true/\kvf O (fun l=>ld (O l)) j k y=-((O l).getD j 0)
 | 0=>.inl ⟨rfl,rfl⟩
 | k+1=>by
  unfold pvi isP kvf
  by_cases h:y=ld (O k)
  ·rw [if_pos h,if_pos h,if_pos h]
   exact .inr ⟨k,by omega,rfl,rfl,rfl⟩
  ·rw [if_neg h,if_neg h,if_neg h]
   rcases pvi_spec O j y k with h1 | ⟨l,h1,h2⟩
   ·exact .inl h1
   ·exact .inr ⟨l,by omega,h2⟩
def kxL (w:Nat) (O:Nat->List Rat) (k j i:Nat):List Rat:=(List.range w).map fun y=>if y < i then kvf O (fun l=>ld (O l)) j k y else if y=j then 1 else 0
theorem kxL_len (w:Nat) (O:Nat->List Rat) (k j i:Nat):(kxL w O k j i).length=w:=by simp [kxL]
theorem kxL_get {w:Nat} {O:Nat->List Rat} {k j i y:Nat} (h:y < w):(kxL w O k j i)[y]?=some (if y < i then kvf O (fun l=>ld (O l)) j k y else if y=j then 1 else 0):=by simp [kxL,List.getElem?_map,List.getElem?_range h]
theorem kxL_zero {w:Nat} {O:Nat->List Rat} {k j:Nat} (h:j < w):(List.replicate w 0).set j 1=kxL w O k j 0:=by
 refine List.ext_getElem? fun y=>?_
 by_cases hy:y < w
 ·rw [kxL_get hy,List.getElem?_set]
  by_cases e:j=y
  ·rw [if_pos e]; simp [e,hy]
  ·rw [if_neg e,List.getElem?_replicate,if_pos hy]; simp [Ne.symm e]
 ·rw [List.getElem?_eq_none (by simp; omega),List.getElem?_eq_none (by rw [kxL_len]; omega)]
theorem kxL_next {w:Nat} {O:Nat->List Rat} {k j i:Nat} (h:i < w):(kxL w O k j i).set i (kvf O (fun l=>ld (O l)) j k i)=kxL w O k j (i+1):=by
 refine List.ext_getElem? fun y=>?_
 by_cases hy:y < w
 ·rw [List.getElem?_set,kxL_len,kxL_get hy,kxL_get hy]
  by_cases e:i=y
  ·rw [if_pos e,if_pos (by omega),if_pos (by omega),e]
  ·rw [if_neg e]
   by_cases h2:y < i
   ·rw [if_pos h2,if_pos (by omega)]
   ·rw [if_neg h2,if_neg (show ¬y < i+1 by omega)]
 ·rw [List.getElem?_eq_none (by rw [List.length_set,kxL_len]; omega),List.getElem?_eq_none (by rw [kxL_len]; omega)]
theorem kxL_same {w:Nat} {O:Nat->List Rat} {k j i:Nat} (hf:isP (fun l=>ld (O l)) k i=false):kxL w O k j i=kxL w O k j (i+1):=by
 refine List.map_congr_left fun y _=>?_
 by_cases h:y < i
 ·rw [if_pos h,if_pos (by omega)]
 ·rw [if_neg h]
  by_cases e:y=i
  ·rw [if_pos (show y < i+1 by omega),e,kvf_free k hf]
  ·rw [if_neg (show ¬y < i+1 by omega)]
theorem kxL_all (w:Nat) (O:Nat->List Rat) (k j:Nat):kxL w O k j w=krow w O (fun l=>ld (O l)) k j:=List.map_congr_left fun y hy=>if_pos (List.mem_range.1 hy)
def wkSt (ER PV:Abs.Rows) (out:Abs.Rows) (b:Nat) (W0 J:Int):St:=mkSt 63 [.junk,.junk,.junk,.c (.sl 1 0 b false),.c (.t (.lst false ER)),vi .i64 W0,.c (.t (.lst false PV)),vi .i64 J] [none,some (.rows 1 out true false)]
def wkIn (ER PV:Abs.Rows) (out:Abs.Rows) (b:Nat) (W0 J:Int) (w:Nat) (X:Abs.Rows) (L:Int):St:=mkSt 63 [.junk,.junk,.junk,.c (.sl 1 0 b false),.c (.t (.lst false ER)),vi .i64 W0,.c (.t (.lst false PV)),vi .i64 J,.c (.sl 2 0 w false),vi .i64 L] [none,some (.rows 1 out true false),some (.rows 4 X true false)]
theorem rker_call (n:Nat) (hn:n<=4) (M:Nat->List Rat) (w:Nat) (hw:w<=1000) (hw0:n=0->w=0) (hl:∀ i,i < n->(M i).length=w) (hq:∀ i,i < n->∀ q ∈ M i,Qs q 100) :
  ACall Tryz.prog 48 [.val (tl (mr n M))] ⟨[.val (tl (kerB w (reIt w M n).O (fun l=>ld ((reIt w M n).O l)) (reIt w M n).k w))],[none]⟩:=by
 have ce:=rech_call n hn M w hw hl hq
 have ccol:=rcols_call n w M hl (by omega)
 rw [show (if n=0 then 0 else w)=w by split <;> omega] at ccol
 have ok:=reIt_ok hl n (Nat.le_refl _)
 have hO:=re_qs hn hl hq n (Nat.le_refl _)
 have hSz:=wSz_le n hn
 obtain ⟨k,hk⟩:∃ k,k=(reIt w M n).k:=⟨_,rfl⟩
 obtain ⟨O,hOO⟩:∃ O,O=(reIt w M n).O:=⟨_,rfl⟩
 have olen:=ok.len
 have olt:=ok.lt
 have okn:=ok.kn
 rw [<- hk] at olen olt okn hO ce ⊢
 rw [<- hOO] at olen olt hO ce ⊢
 have cp:=rpiv_call k w (by omega) hw O (fun l h=>by rw [olen l h]; exact hw) olt
 have cz:=rzeros_call w hw
 have cone:=rqwhole_row 1 (by omega) (by omega)
 have h11:((1:Int):Rat)=1:=rfl
 obtain ⟨o1,o2,o3,o4,hone,_⟩:=qrow ((1:Int):Rat)
 obtain ⟨z1,z2,z3,z4,hzero,_⟩:=qrow (0:Rat)
 rw [hone] at cone
 rw [h11] at hone
 obtain ⟨MR,hMR⟩:∃ X,X=mr n M:=⟨_,rfl⟩
 obtain ⟨ER,hER⟩:∃ X,X=mr k O:=⟨_,rfl⟩
 obtain ⟨PV,hPV⟩:∃ X,X=W .i64 (pvL O w k):=⟨_,rfl⟩
 obtain ⟨Z,hZ⟩:∃ Z,Z=ur (List.replicate w 0):=⟨_,rfl⟩
 obtain ⟨W0,hW0⟩:∃ X:Int,X=(w:Int):=⟨_,rfl⟩
 obtain ⟨T,hT⟩:∃ T,T=kerB w O (fun l=>ld (O l)) k w:=⟨_,rfl⟩
 rw [<- hMR,<- hER] at ce
 rw [<- hMR,<- hW0] at ccol
 rw [<- hER,<- hW0,<- hPV] at cp
 rw [<- hW0,<- hZ] at cz
 rw [<- hMR,<- hT]
 have lZ:Z.length=w:=by rw [hZ,qag,List.length_replicate]
 have hat:∀ y,y < w->(pvL O w k).getD y 0=pvi O k y:=fun y hy=>by
  rw [List.getD_eq_getElem?_getD]; simp [pvL,List.getElem?_map,List.getElem?_range hy]
 clear ok hOO hMR
 refine callZ ccOk mixed [.val] Tryz.func48 rfl rfl (by kernel_rfl) fun zA zB zC zD zE zF zG zH zI zJ zK zL zM zN zO zP zQ zR zT zU zV zX zY zZ zb zc zd ze zg zh zi zj zk zl zm zn zo zq zr zs zt zu zx zy zz zmget zmset zW zth A L F hS hF=>?_
 cbv
 refine ⟨_,hS.call (ce),?_⟩
 cbv
 refine ⟨_,hS.call (ccol),?_⟩
 cbv
 refine ⟨_,hS.call (cp),?_⟩
 cbv
 have hW0:W0=(w:Int):=hW0
 refine loopZR ccOk mixed hS (fun (m:Nat) s'=>∃ (j:Nat) (J:Int) (out:Abs.Rows),J=j/\m+j=w/\out=kerB w O (fun l=>ld (O l)) k j/\s'=wkSt ER PV out (frL (fun l=>ld (O l)) k j).length W0 J) (n:=w) (s0:=wkSt ER PV [] 0 W0 0) (qan ?_ ?_) rfl (Nat.succ_le_succ (Nat.zero_le _)) ?_ ?_
 ·simp [leT,wkSt,mkSt,vi,vb]
 ·simp [leH,wkSt,mkSt]
 ·exact ⟨0,0,[],rfl,by omega,rfl,rfl⟩
 ·rintro m s1 ⟨j,J,out,hJ,hm,hout,hs1⟩
  have hJ:J=(j:Int):=hJ
  obtain ⟨b,hb⟩:∃ b,b=(frL (fun l=>ld (O l)) k j).length:=⟨_,rfl⟩
  rw [<- hb] at hs1
  have hbj:b<=j:=by
   rw [hb]
   have:∀ y,(frL (fun l=>ld (O l)) k y).length<=y:=fun y=>by
    induction y with
    | zero=>exact Nat.le_refl _
    | succ y ih=>
     unfold frL
     split
     ·omega
     ·rw [List.length_append]; show _+1<=_; omega
   exact this j
  have lout:out.length=b:=by rw [hout,hb]; simp [kerB]
  by_cases hj:j < w
  ·have l1:zO J W0=true:=by rw [hS.lt]; exact decide_eq_true (by omega)
   have j1:zX J=j:=by rw [hS.nat]; omega
   have n0:zP 0 J=true:=by rw [hS.le]; exact decide_eq_true (by omega)
   have p1:zm .i64 PV j=true:=by rw [hS.isI,hPV,qaq,pvL_len]; exact decide_eq_true hj
   obtain ⟨AJ,hAJ⟩:∃ X:Int,X=pvi O k j:=⟨_,rfl⟩
   have p2:zn PV j=AJ:=by rw [hS.getI,hPV,qak,hat j hj,hAJ]
   obtain ⟨J',hJ',i1⟩:∃ I':Int,I'=((j+1:Nat):Int)/\zA .i64 (zB J 1)=I':=⟨J+1,by omega,by rw [hS.add,hS.wrap,wrap_i64 (by omega) (by omega)]⟩
   have hmm:m - 1 < m:=by omega
   rcases pvi_spec O j j k with ⟨ha,hP⟩ | ⟨l0,hl0,ha,hP,_⟩
   ·have g1:zP 0 AJ=false:=by rw [hS.le]; exact decide_eq_false (by omega)
    have hfr:frL (fun l=>ld (O l)) k (j+1)=frL (fun l=>ld (O l)) k j ++ [j]:=by rw [frL,if_neg (by rw [hP]; decide)]
    obtain ⟨X0,hX0⟩:∃ X,X=ur (kxL w O k j 0):=⟨_,rfl⟩
    obtain ⟨XK,hXK⟩:∃ X,X=ur (krow w O (fun l=>ld (O l)) k j):=⟨_,rfl⟩
    have e5:zj Z=w:=by rw [hS.len,lZ]
    have b1:zY J w=true:=by rw [hS.inb]; exact decide_eq_true (by omega)
    have b2:zb 0 J=j:=by rw [hS.idx]; omega
    have j3:zk Z j=some [.v (.bool z1),.lst false z3,.v (.bool z2),.lst false z4]:=by rw [hS.nth,hZ,<- hzero]; exact qat (by rw [List.getElem?_replicate,if_pos hj])
    have u4:zl Z j [.v (.bool o1),.lst false o3,.v (.bool o2),.lst false o4]=X0:=by rw [hS.setr,hX0,hZ,<- hone,<- kxL_zero hj]; exact ur_set _ _ _
    have lXK:XK.length=w:=by rw [hXK,qag,krow_len]
    have fX:zq 0 w XK=true:=by rw [hS.fit]; exact decide_eq_true (by omega)
    have pX:zr XK 0 w=XK:=by rw [hS.part,List.drop_zero,List.take_of_length_le (by omega)]
    obtain ⟨row2,hrw2⟩:∃ row2,row2=[Tree.lst false XK]:=⟨_,rfl⟩
    have hr1:row2.length=1:=by rw [hrw2]; rfl
    have v0:zr [row2] 0 1=[row2]:=by rw [hS.part]; rfl
    have v1:zq 0 1 [row2]=true:=by rw [hS.fit]; rfl
    have v2:zQ (zc (zj [row2]) 0)=true:=by rw [hS.len,hS.neq,hS.not]; rfl
    have v3:zx 1 [row2]=true:=by rw [hS.wide]; simp [hr1]
    have v4:zh b (zj [row2]) 24=true:=by rw [hS.len,hS.room]; exact decide_eq_true (by unfold capBytes; simp only [List.length_cons,List.length_nil]; omega)
    have v5:zc (zd 0 b) (zj out)=true:=by rw [hS.nadd,hS.neq,hS.len,lout,Nat.zero_add]; exact decide_eq_true rfl
    have v6:zd b (zj [row2])=b+1:=by rw [hS.len,hS.nadd]; rfl
    obtain ⟨out2,hout2⟩:∃ o,o=kerB w O (fun l=>ld (O l)) k (j+1):=⟨_,rfl⟩
    have v7:zs out 0 [row2]=out2:=by
     rw [hS.ext,List.drop_zero,hout,hout2,hrw2,hXK]
     unfold kerB
     rw [hfr,List.map_append]; rfl
    have hb2:(frL (fun l=>ld (O l)) k (j+1)).length=b+1:=by rw [hfr,List.length_append,hb]; rfl
    have hnx:∃ (j2:Nat) (J2:Int) (o2:Abs.Rows),J2=j2/\(m - 1)+j2=w/\o2=kerB w O (fun l=>ld (O l)) k j2/\wkSt ER PV out2 (b+1) W0 J'=wkSt ER PV o2 (frL (fun l=>ld (O l)) k j2).length W0 J2:=⟨j+1,J',out2,hJ',by omega,hout2,by rw [hb2]⟩
    clear hout hout2 hb hfr hb2
    subst hs1
    cbv
    refine bT l1 (nd n0 ?_)
    rw [j1]
    refine nd p1 ?_
    rw [p2]
    refine bF g1 ?_
    refine ⟨_,hS.call (cz),?_⟩
    cbv
    refine ⟨_,hS.call (cone),?_⟩
    cbv
    rw [e5]
    refine nd b1 ?_
    rw [b2,j3]
    cbv
    rw [u4]
    apply hideP (L:=L) True
    ·intro Q' hQ' hret
     have hW0:W0=(w:Int):=hW0
     have hJ:J=(j:Int):=hJ
     refine loopZR ccOk mixed hS (fun (m2:Nat) s'=>∃ (i:Nat) (I:Int) (X:Abs.Rows),I=i/\m2+i=w/\X=ur (kxL w O k j i)/\s'=wkIn ER PV out b W0 J w X I) (n:=w) (s0:=wkIn ER PV out b W0 J w X0 0) (qan ?_ ?_) rfl (Nat.succ_le_succ (Nat.zero_le _)) ?_ ?_
     ·simp [leT,wkIn,mkSt,vi,vb]
     ·simp [leH,wkIn,mkSt]
     ·exact ⟨0,0,X0,rfl,by omega,hX0,rfl⟩
     ·rintro m2 s2 ⟨i,I,X,hI,hm2,hX,hs2⟩
      have hI:I=(i:Int):=hI
      by_cases hi:i < w
      ·have l2:zO I W0=true:=by rw [hS.lt]; exact decide_eq_true (by omega)
       have k1:zX I=i:=by rw [hS.nat]; omega
       have n1:zP 0 I=true:=by rw [hS.le]; exact decide_eq_true (by omega)
       have q1:zm .i64 PV i=true:=by rw [hS.isI,hPV,qaq,pvL_len]; exact decide_eq_true hi
       obtain ⟨AI,hAI⟩:∃ X:Int,X=pvi O k i:=⟨_,rfl⟩
       have q2:zn PV i=AI:=by rw [hS.getI,hPV,qak,hat i hi,hAI]
       obtain ⟨I',hI',i2⟩:∃ I':Int,I'=((i+1:Nat):Int)/\zA .i64 (zB I 1)=I':=⟨I+1,by omega,by rw [hS.add,hS.wrap,wrap_i64 (by omega) (by omega)]⟩
       have hm3:m2 - 1 < m2:=by omega
       obtain ⟨X2,hX2⟩:∃ X,X=ur (kxL w O k j (i+1)):=⟨_,rfl⟩
       have hnx2:∃ (i3:Nat) (I3:Int) (X3:Abs.Rows),I3=i3/\(m2 - 1)+i3=w/\X3=ur (kxL w O k j i3)/\wkIn ER PV out b W0 J w X2 I'=wkIn ER PV out b W0 J w X3 I3:=⟨i+1,I',X2,hI',by omega,hX2,rfl⟩
       rcases pvi_spec O j i k with ⟨ha2,hP2⟩ | ⟨l,hlk,ha2,hP2,hv⟩
       ·have g2:zP 0 AI=false:=by rw [hS.le]; exact decide_eq_false (by omega)
        obtain rfl:X=X2:=by rw [hX,hX2,kxL_same hP2]
        clear hX hX2 hI'
        subst hs2
        cbv
        refine bT l2 (nd n1 ?_)
        rw [k1]
        refine nd q1 ?_
        rw [q2]
        refine bF g2 ?_
        rw [i2]
        refine againR [] (s':=wkIn ER PV out b W0 J w X I') (k:=m2 - 1) ?_ ?_ ?_ ?_ rfl (Nat.succ_le_succ (Nat.zero_le _)) hm3 hnx2
        ·simp [leTR,wkIn,mkSt,vi,AV.ren,AV.noTup,Cell.ren,renF]
        ·simp [leHR,wkIn,mkSt,Abs.look,renF,Blk.ren,Cell.ren]
        ·simp [liveR,wkIn,mkSt,renF]
        ·simp
       ·have g2:zP 0 AI=true:=by rw [hS.le]; exact decide_eq_true (by omega)
        obtain ⟨OL,hOL⟩:∃ R,R=ur (O l):=⟨_,rfl⟩
        obtain ⟨y,hy⟩:∃ y,y=(O l).getD j 0:=⟨_,rfl⟩
        have gy:(O l)[j]?=some y:=by rw [hy,List.getD_eq_getElem?_getD,List.getElem?_eq_getElem (by rw [olen l hlk]; exact hj)]; rfl
        have cneg:=wneg_row (hO l hlk y (List.mem_of_getElem? gy)) (by omega)
        obtain ⟨s5,t5,r5,p5,hr5,_⟩:=qrow y
        obtain ⟨s6,t6,r6,p6,hr6,_⟩:=qrow (-y)
        obtain ⟨s7,t7,r7,p7,hr7,_⟩:=qrow (if i < i then kvf O (fun l=>ld (O l)) j k i else if i=j then 1 else 0)
        have uy:=qat gy
        rw [<- hOL,hr5] at uy
        rw [hr5,hr6] at cneg
        have k2:zX AI=l:=by rw [hS.nat]; omega
        have k3:zk ER l=some [.lst false OL]:=by rw [hS.nth,hER,hOL]; exact qbf hlk
        have k4:zk OL j=some [.v (.bool s5),.lst false r5,.v (.bool t5),.lst false p5]:=by rw [hS.nth]; exact uy
        have b3:zY I w=true:=by rw [hS.inb]; exact decide_eq_true (by omega)
        have b4:zb 0 I=i:=by rw [hS.idx]; omega
        have k5:zk X i=some [.v (.bool s7),.lst false r7,.v (.bool t7),.lst false p7]:=by rw [hS.nth,hX,<- hr7]; exact qat (kxL_get hi)
        have k6:zl X i [.v (.bool s6),.lst false r6,.v (.bool t6),.lst false p6]=X2:=by rw [hS.setr,hX,hX2,<- hr6,hy,<- hv,<- kxL_next hi]; exact ur_set _ _ _
        clear hX hX2 hI' hr7
        subst hs2
        cbv
        refine bT l2 (nd n1 ?_)
        rw [k1]
        refine nd q1 ?_
        rw [q2]
        refine bT g2 (nd n1 (nd q1 ?_))
        rw [k2,k3]
        cbv
        refine nd g2 ?_
        rw [j1,k4]
        cbv
        refine nd (n0) ?_
        refine ⟨_,hS.call (cneg),?_⟩
        cbv
        refine nd (b3) ?_
        rw [b4,k5]
        cbv
        rw [k6,i2]
        refine againR [] (s':=wkIn ER PV out b W0 J w X2 I') (k:=m2 - 1) ?_ ?_ ?_ ?_ rfl (Nat.succ_le_succ (Nat.zero_le _)) hm3 hnx2
        ·simp [leTR,wkIn,mkSt,vi,AV.ren,AV.noTup,Cell.ren,renF]
        ·simp [leHR,wkIn,mkSt,Abs.look,renF,Blk.ren,Cell.ren]
        ·simp [liveR,wkIn,mkSt,renF]
        ·simp
      ·have l2:zO I W0=false:=by rw [hS.lt]; exact decide_eq_false (by omega)
       obtain rfl:X=XK:=by rw [hX,hXK,show i=w by omega,kxL_all]
       obtain rfl:I=W0:=by omega
       clear hX
       subst hs2
       cbv
       refine bF l2 ?_
       exact hQ' trivial
    ·intro _
     cbv
     refine nd fX ?_
     rw [pX,<- hrw2,v0,v6,v7,i1]
     refine nd v1 (nd v2 (nd v3 (nd v4 (nd v5 ?_))))
     refine againR [(1,4)] (s':=wkSt ER PV out2 (b+1) W0 J') (k:=m - 1) ?_ ?_ ?_ ?_ rfl (Nat.succ_le_succ (Nat.zero_le _)) hmm hnx
     ·simp [leTR,wkSt,mkSt,vi,AV.ren,AV.noTup,Cell.ren,renF]
     ·simp [leHR,wkSt,mkSt,Abs.look,renF,Blk.ren,Cell.ren]
     ·simp [liveR,wkSt,mkSt,renF]
     ·simp
   ·have g1:zP 0 AJ=true:=by rw [hS.le]; exact decide_eq_true (by omega)
    have hfr:frL (fun l=>ld (O l)) k (j+1)=frL (fun l=>ld (O l)) k j:=by rw [frL,if_pos hP]
    have hnx:∃ (j2:Nat) (J2:Int) (o2:Abs.Rows),J2=j2/\(m - 1)+j2=w/\o2=kerB w O (fun l=>ld (O l)) k j2/\wkSt ER PV out b W0 J'=wkSt ER PV o2 (frL (fun l=>ld (O l)) k j2).length W0 J2:=⟨j+1,J',out,hJ',by omega,by rw [hout]; unfold kerB; rw [hfr],by rw [hfr,hb]⟩
    clear hout hb hfr
    subst hs1
    cbv
    refine bT l1 (nd n0 ?_)
    rw [j1]
    refine nd p1 ?_
    rw [p2]
    refine bT g1 ?_
    rw [i1]
    refine againR [] (s':=wkSt ER PV out b W0 J') (k:=m - 1) ?_ ?_ ?_ ?_ rfl (Nat.succ_le_succ (Nat.zero_le _)) hmm hnx
    ·simp [leTR,wkSt,mkSt,vi,AV.ren,AV.noTup,Cell.ren,renF]
    ·simp [leHR,wkSt,mkSt,Abs.look,renF,Blk.ren,Cell.ren]
    ·simp [liveR,wkSt,mkSt,renF]
    ·simp
  ·have l1:zO J W0=false:=by rw [hS.lt]; exact decide_eq_false (by omega)
   obtain rfl:out=T:=by rw [hout,hT,show j=w by omega]
   have f1:zq 0 b out=true:=by rw [hS.fit]; exact decide_eq_true (by omega)
   have f2:zr out 0 b=out:=by rw [hS.part,List.drop_zero,List.take_of_length_le (by omega)]
   clear hout hb hT
   subst hs1
   cbv
   refine bF l1 (nd f1 ?_)
   rw [f2]
   exact hF _ (ResLe.refl _)
open Go Go.Abs Go.Abs.M Go.Proofs
theorem pvi_svf (O:Nat->List Rat) (w y:Nat):∀ k,(pvi O k y=-1/\isP (fun l=>ld (O l)) k y=false/\svf O (fun l=>ld (O l)) w k y=0) ∨ ∃ l,l < k/\pvi O k y=(l:Int)/\isP (fun l=>ld (O l)) k y=true/\svf O (fun l=>ld (O l)) w k y=(O l).getD w 0
 | 0=>.inl ⟨rfl,rfl,rfl⟩
 | k+1=>by
  unfold pvi isP svf
  by_cases h:y=ld (O k)
  ·rw [if_pos h,if_pos h,if_pos h]
   exact .inr ⟨k,by omega,rfl,rfl,rfl⟩
  ·rw [if_neg h,if_neg h,if_neg h]
   rcases pvi_svf O w y k with h1 | ⟨l,h1,h2⟩
   ·exact .inl h1
   ·exact .inr ⟨l,by omega,h2⟩
def sxL (w:Nat) (O:Nat->List Rat) (k i:Nat):List Rat:=(List.range w).map fun y=>if y < i then svf O (fun l=>ld (O l)) w k y else 0
theorem sxL_len (w:Nat) (O:Nat->List Rat) (k i:Nat):(sxL w O k i).length=w:=by simp [sxL]
theorem sxL_get {w:Nat} {O:Nat->List Rat} {k i y:Nat} (h:y < w):(sxL w O k i)[y]?=some (if y < i then svf O (fun l=>ld (O l)) w k y else 0):=by simp [sxL,List.getElem?_map,List.getElem?_range h]
theorem sxL_zero (w:Nat) (O:Nat->List Rat) (k:Nat):List.replicate w 0=sxL w O k 0:=by
 refine List.ext_getElem? fun y=>?_
 by_cases hy:y < w
 ·rw [sxL_get hy,List.getElem?_replicate,if_pos hy,if_neg (Nat.not_lt_zero _)]
 ·rw [List.getElem?_eq_none (by simp; omega),List.getElem?_eq_none (by rw [sxL_len]; omega)]
theorem sxL_next {w:Nat} {O:Nat->List Rat} {k i:Nat} (h:i < w):(sxL w O k i).set i (svf O (fun l=>ld (O l)) w k i)=sxL w O k (i+1):=by
 refine List.ext_getElem? fun y=>?_
 by_cases hy:y < w
 ·rw [List.getElem?_set,sxL_len,sxL_get hy,sxL_get hy]
  by_cases e:i=y
  ·rw [if_pos e,if_pos (by omega),if_pos (by omega),e]
  ·rw [if_neg e]
   by_cases h2:y < i
   ·rw [if_pos h2,if_pos (show y < i+1 by omega)]
   ·rw [if_neg h2,if_neg (show ¬y < i+1 by omega)]
 ·rw [List.getElem?_eq_none (by rw [List.length_set,sxL_len]; omega),List.getElem?_eq_none (by rw [sxL_len]; omega)]
theorem sxL_same {w:Nat} {O:Nat->List Rat} {k i:Nat} (hf:svf O (fun l=>ld (O l)) w k i=0):sxL w O k i=sxL w O k (i+1):=by
 refine List.map_congr_left fun y _=>?_
 by_cases h:y < i
 ·rw [if_pos h,if_pos (show y < i+1 by omega)]
 ·rw [if_neg h]
  by_cases e:y=i
  ·rw [if_pos (show y < i+1 by omega),e,hf]
  ·rw [if_neg (show ¬y < i+1 by omega)]
theorem sxL_all (w:Nat) (O:Nat->List Rat) (k:Nat):sxL w O k w=srow w O (fun l=>ld (O l)) k:=List.map_congr_left fun y hy=>if_pos (List.mem_range.1 hy)
def wsA (MR DR:Abs.Rows) (W0:Int) (r:Abs.Rows) (i:Nat) (I:Int):St:=mkSt 79 [.c (.t (.lst false MR)),.c (.t (.lst false DR)),.junk,.junk,.junk,.junk,vi .i64 W0,.c (.sl 4 0 i false),vi .i64 I] [none,none,none,none,some (.rows 1 r true false)]
def wsB (ER PV:Abs.Rows) (W0:Int) (w:Nat) (X:Abs.Rows) (J:Int):St:=mkSt 79 [.junk,.junk,.junk,.junk,.junk,.junk,vi .i64 W0,.junk,.junk,.c (.t (.lst false ER)),.c (.t (.lst false PV)),.c (.sl 9 0 w false),vi .i64 J] (List.replicate 9 none ++ [some (.rows 4 X true false)])
theorem rsolve_call (n:Nat) (hn:n<=4) (M:Nat->List Rat) (w:Nat) (hw:w<=900) (hw0:n=0->w=0) (hl:∀ i,i < n->(M i).length=w) (D:List Rat) (hD:D.length=n) (hq:∀ i,i < n->∀ q ∈ M i,Qs q 100) (hqD:∀ q ∈ D,Qs q 100)
  {k:Nat} {O:Nat->List Rat} (hk:k=(reIt (w+1) (exM M D) n).k) (hOO:O=(reIt (w+1) (exM M D) n).O) {T:TV} {ec:Int} (hT:(isP (fun l=>ld (O l)) k w=true/\T=.c (.lst true [])/\ec=111) ∨ (isP (fun l=>ld (O l)) k w=false/\T=tl (ur (srow w O (fun l=>ld (O l)) k))/\ec=0)) :
  ACall Tryz.prog 46 [.val (tl (mr n M)),.val (tl (ur D))] ⟨[.val T,.val (ti .i64 ec)],[none,none]⟩:=by
 have gD:∀ i,i < n->D[i]?=some (D.getD i 0):=fun i hi=>by rw [List.getD_eq_getElem?_getD,List.getElem?_eq_getElem (by omega)]; rfl
 have hlx:∀ i,i < n->(exM M D i).length=w+1:=fun i hi=>exM_len (hl i hi)
 have hqx:∀ i,i < n->∀ q ∈ exM M D i,Qs q 100:=fun i hi q hq'=>by
  rcases List.mem_append.1 hq' with h | h
  ·exact hq i hi q h
  ·obtain rfl:=List.mem_singleton.1 h
   exact hqD _ (List.mem_of_getElem? (gD i hi))
 have ce:=rech_call n hn (exM M D) (w+1) (by omega) hlx hqx
 have ccol:=rcols_call n w M hl (by omega)
 rw [show (if n=0 then 0 else w)=w by split <;> omega] at ccol
 have ok:=reIt_ok hlx n (Nat.le_refl _)
 have olen:=ok.len
 have olt:=ok.lt
 have okn:=ok.kn
 rw [<- hk] at olen olt okn ce
 rw [<- hOO] at olen olt ce
 have cp:=rpiv_call k (w+1) (by omega) (by omega) O (fun l h=>by rw [olen l h]; omega) olt
 have cz:=rzeros_call w (by omega)
 obtain ⟨MR,hMR⟩:∃ X,X=mr n M:=⟨_,rfl⟩
 obtain ⟨DR,hDR⟩:∃ X,X=ur D:=⟨_,rfl⟩
 obtain ⟨ER,hER⟩:∃ X,X=mr k O:=⟨_,rfl⟩
 obtain ⟨PV,hPV⟩:∃ X,X=W .i64 (pvL O (w+1) k):=⟨_,rfl⟩
 obtain ⟨Z,hZ⟩:∃ Z,Z=ur (List.replicate w 0):=⟨_,rfl⟩
 obtain ⟨AE,hAE⟩:∃ X,X=mr n (exM M D):=⟨_,rfl⟩
 obtain ⟨W0,hW0⟩:∃ X:Int,X=(w:Int):=⟨_,rfl⟩
 obtain ⟨W1,hW1⟩:∃ X:Int,X=((w+1:Nat):Int):=⟨_,rfl⟩
 obtain ⟨N0,hN0⟩:∃ X:Int,X=(n:Int):=⟨_,rfl⟩
 rw [<- hAE,<- hER] at ce
 rw [<- hMR,<- hW0] at ccol
 rw [<- hER,<- hW1,<- hPV] at cp
 rw [<- hW0,<- hZ] at cz
 rw [<- hMR,<- hDR]
 have lM:MR.length=n:=by rw [hMR,qa6]
 have lD:DR.length=n:=by rw [hDR,qag,hD]
 have lZ:Z.length=w:=by rw [hZ,qag,List.length_replicate]
 have hat:∀ y,y < w+1->(pvL O (w+1) k).getD y 0=pvi O k y:=fun y hy=>by
  rw [List.getD_eq_getElem?_getD]; simp [pvL,List.getElem?_map,List.getElem?_range hy]
 have hall:∀ i,i < n->∃ (row EX:Abs.Rows) (s t:Bool) (r p:Abs.Rows),MR[i]?=some [.lst false row]/\row.length=w/\DR[i]?=some [.v (.bool s),.lst false r,.v (.bool t),.lst false p]/\row ++ [[.v (.bool s),.lst false r,.v (.bool t),.lst false p]]=EX/\mr (i+1) (exM M D)=mr i (exM M D) ++ [[.lst false EX]]/\(row.all fun r=>r.length == 4)=true:=fun i hi=>by
  obtain ⟨s,t,r,p,hrow,_⟩:=qrow (D.getD i 0)
  refine ⟨ur (M i),_,s,t,r,p,by rw [hMR]; exact qbf hi,by rw [qag,hl i hi],by rw [hDR,<- hrow]; exact qat (gD i hi),rfl,?_,?_⟩
  ·rw [mr_succ,exM,ur_app,hrow]
  ·refine List.all_eq_true.2 fun r hr=>?_
   obtain ⟨c,_,rfl⟩:=List.mem_map.1 hr
   rfl
 refine callZ ccOk mixed [.val,.val] Tryz.func46 rfl rfl (by kernel_rfl) fun zA zB zC zD zE zF zG zH zI zJ zK zL zM zN zO zP zQ zR zT zU zV zX zY zZ zb zc zd ze zg zh zi zj zk zl zm zn zo zq zr zs zt zu zx zy zz zmget zmset zW zth A L F hS hF=>?_
 have e1:zZ (zj MR)=N0:=by rw [hS.ofN,hS.len,lM,hN0]
 have e2:zZ (zj DR)=N0:=by rw [hS.ofN,hS.len,lD,hN0]
 have d1:∀ X,zN X X=false:=fun X=>by rw [hS.ne]; exact decide_eq_false (by simp)
 have a1:zA .i64 (zB W0 1)=W1:=by rw [hS.add,hS.wrap,wrap_i64 (by omega) (by omega)]; omega
 cbv
 rw [e1,e2]
 refine bF (d1 N0) ?_
 refine ⟨_,hS.call (ccol),?_⟩
 cbv
 have hN0:N0=(n:Int):=hN0
 refine loopZR ccOk mixed hS (fun (m:Nat) s'=>∃ (i:Nat) (I:Int) (r:Abs.Rows),I=i/\m+i=n/\r=mr i (exM M D)/\s'=wsA MR DR W0 r i I) (n:=n) (s0:=wsA MR DR W0 [] 0 0) (qan ?_ ?_) rfl (by simp [wsA,mkSt]) ?_ ?_
 ·simp [leT,wsA,mkSt,vi,vb]
 ·simp [leH,wsA,mkSt]
 ·exact ⟨0,0,[],rfl,by omega,rfl,rfl⟩
 rintro m sx ⟨i,I,r,hI,hm,hr,hs1⟩
 have hI:I=(i:Int):=hI
 have hW0:W0=(w:Int):=hW0
 have hW1:W1=((w+1:Nat):Int):=hW1
 have h6:r.length=i:=by rw [hr,qa6]
 by_cases hi:i < n
 ·have l1:zO I N0=true:=by rw [hS.lt]; exact decide_eq_true (by omega)
  obtain ⟨row,EX,s,t,q,p,h1,h2,h3,h4,h5,h7⟩:=hall i hi
  obtain ⟨cell,hcell⟩:∃ c:Abs.Rows,c=[[Tree.v (.bool s),.lst false q,.v (.bool t),.lst false p]]:=⟨_,rfl⟩
  have j1:zX I=i:=by rw [hS.nat]; omega
  have j2:zk MR i=some [.lst false row]:=by rw [hS.nth]; exact h1
  have n0:zP 0 I=true:=by rw [hS.le]; exact decide_eq_true (by omega)
  have j3:zk DR i=some [.v (.bool s),.lst false q,.v (.bool t),.lst false p]:=by rw [hS.nth]; exact h3
  obtain ⟨row2,hrw2⟩:∃ row2,row2=[Tree.lst false EX]:=⟨_,rfl⟩
  have hr1:row2.length=1:=by rw [hrw2]; rfl
  have lEX:EX.length=w+1:=by rw [<- h4,List.length_append,h2]; rfl
  rw [<- hcell] at h4
  have c1:zr cell 0 1=cell:=by rw [hS.part,hcell]; rfl
  have c2:zq 0 1 cell=true:=by rw [hS.fit,hcell]; rfl
  have c3:zQ (zc (zj cell) 0)=true:=by rw [hS.neq,hS.len,hS.not,hcell]; rfl
  have c4:zx 4 cell=true:=by rw [hS.wide,hcell]; rfl
  have c5:∀ l:Nat,l<=1000->zh l (zj cell) 64=true:=fun l h=>by rw [hS.room,hS.len,hcell]; exact decide_eq_true (by unfold capBytes; simp; omega)
  have c6:zc (zd 0 0) (zj [])=true:=by rw [hS.nadd,hS.len,hS.neq]; rfl
  have d2:zq 0 (w+1) EX=true:=by rw [hS.fit]; exact decide_eq_true (by omega)
  have d3:zr EX 0 (w+1)=EX:=by rw [hS.part,List.drop_zero,List.take_of_length_le (by omega)]
  have u0:zr [row2] 0 1=[row2]:=by rw [hS.part]; rfl
  have u1:zq 0 1 [row2]=true:=by rw [hS.fit]; rfl
  have u2:zQ (zc (zj [row2]) 0)=true:=by rw [hS.len,hS.neq,hS.not]; rfl
  have u3:zx 1 [row2]=true:=by rw [hS.wide]; simp [hr1]
  have u4:zh i (zj [row2]) 24=true:=by rw [hS.len,hS.room]; exact decide_eq_true (by unfold capBytes; simp only [List.length_cons,List.length_nil]; omega)
  have u5:zc (zd 0 i) (zj r)=true:=by rw [hS.nadd,hS.neq,hS.len,h6,Nat.zero_add]; exact decide_eq_true rfl
  have u6:zd i (zj [row2])=i+1:=by rw [hS.len,hS.nadd]; rfl
  obtain ⟨r2,hr2⟩:∃ r2,r2=mr (i+1) (exM M D):=⟨_,rfl⟩
  have u7:zs r 0 [row2]=r2:=by rw [hS.ext,List.drop_zero,hr2,h5,hr,hrw2]
  obtain ⟨I',hI',i1⟩:∃ I':Int,I'=((i+1:Nat):Int)/\zA .i64 (zB I 1)=I':=⟨I+1,by omega,by rw [hS.add,hS.wrap,wrap_i64 (by omega) (by omega)]⟩
  have hmm:m - 1 < m:=by omega
  have hnx:∃ (i2:Nat) (I2:Int) (r3:Abs.Rows),I2=i2/\(m - 1)+i2=n/\r3=mr i2 (exM M D)/\wsA MR DR W0 r2 (i+1) I'=wsA MR DR W0 r3 i2 I2:=⟨i+1,I',r2,hI',by omega,hr2,rfl⟩
  have hx:∀ l:Nat,l=w->zd l (zj cell)=w+1:=fun l h=>by rw [hS.nadd,hS.len,hcell,h]; rfl
  clear hall hT hr hr2 hI'
  by_cases hwz:w=0
  ·have x1:zc (zj row) 0=true:=by rw [hS.len,hS.neq,h2]; exact decide_eq_true hwz
   have x2:zd 0 (zj cell)=w+1:=hx 0 hwz.symm
   have x3:zs [] 0 cell=EX:=by rw [hS.ext,<- h4,List.length_eq_zero_iff.1 (h2.trans hwz)]; rfl
   subst hs1
   cbv
   rw [e1]
   refine bT l1 ?_
   rw [j1,j2]
   cbv
   refine nd n0 (bT x1 ?_)
   rw [j1,j3]
   cbv
   rw [<- hcell,c1,x2,x3,d3,<- hrw2,u0,u6,u7,i1]
   refine nd n0 (nd c2 (nd c3 (nd c4 (nd (c5 0 (by omega)) (nd c6 (nd d2 (nd u1 (nd u2 (nd u3 (nd u4 (nd u5 ?_)))))))))))
   refine againR [(4,10)] (s':=wsA MR DR W0 r2 (i+1) I') (k:=m - 1) ?_ ?_ ?_ ?_ rfl (by simp [wsA,mkSt]) hmm hnx
   ·simp [leTR,wsA,mkSt,vi,vb,AV.ren,AV.noTup,Cell.ren,renF]
   ·simp [leHR,wsA,mkSt,Abs.look,renF,Blk.ren,Cell.ren]
   ·simp [liveR,wsA,mkSt,renF]
   ·simp
  ·have x1:zc (zj row) 0=false:=by rw [hS.len,hS.neq,h2]; exact decide_eq_false hwz
   have x2:zQ (zc (zj row) 0)=true:=by rw [x1,hS.not]; rfl
   have x3:zx 4 row=true:=by rw [hS.wide]; exact h7
   have x4:zh 0 (zj row) 64=true:=by rw [hS.len,hS.room]; exact decide_eq_true (by unfold capBytes; omega)
   have x5:zd 0 (zj row)=w:=by rw [hS.nadd,hS.len,h2,Nat.zero_add]
   have x6:zs [] 0 row=row:=by rw [hS.ext]; rfl
   have x7:zc (zd 0 w) (zj row)=true:=by rw [hS.nadd,hS.len,hS.neq,h2,Nat.zero_add]; exact decide_eq_true rfl
   have x8:zd w (zj cell)=w+1:=hx w rfl
   have x9:zs row 0 cell=EX:=by rw [hS.ext]; exact h4
   subst hs1
   cbv
   rw [e1]
   refine bT l1 ?_
   rw [j1,j2]
   cbv
   refine nd n0 (bF x1 (nd x2 (nd x3 (nd x4 (nd c6 ?_)))))
   rw [j1,j3]
   cbv
   rw [<- hcell,c1,x5,x6,x8,x9,d3,<- hrw2,u0,u6,u7,i1]
   refine nd n0 (nd c2 (nd c3 (nd c4 (nd (c5 w (by omega)) (nd x7 (nd d2 (nd u1 (nd u2 (nd u3 (nd u4 (nd u5 ?_)))))))))))
   refine againR [(4,10)] (s':=wsA MR DR W0 r2 (i+1) I') (k:=m - 1) ?_ ?_ ?_ ?_ rfl (by simp [wsA,mkSt]) hmm hnx
   ·simp [leTR,wsA,mkSt,vi,vb,AV.ren,AV.noTup,Cell.ren,renF]
   ·simp [leHR,wsA,mkSt,Abs.look,renF,Blk.ren,Cell.ren]
   ·simp [liveR,wsA,mkSt,renF]
   ·simp
 have l1:zO I N0=false:=by rw [hS.lt]; exact decide_eq_false (by omega)
 obtain rfl:i=n:=by omega
 obtain rfl:r=AE:=by rw [hr,hAE]
 have f4:zq 0 i r=true:=by rw [hS.fit]; exact decide_eq_true (by omega)
 have f5:zr r 0 i=r:=by rw [hS.part,List.drop_zero,List.take_of_length_le (by omega)]
 clear hall hr hAE
 subst hs1
 cbv
 rw [e1]
 refine bF l1 (nd f4 ?_)
 rw [f5]
 refine ⟨_,hS.call (ce),?_⟩
 cbv
 rw [a1]
 refine ⟨_,hS.call (cp),?_⟩
 cbv
 have hW0:W0=(w:Int):=hW0
 obtain ⟨AW,hAW⟩:∃ X:Int,X=pvi O k w:=⟨_,rfl⟩
 have kW:zX W0=w:=by rw [hS.nat]; omega
 have nW:zP 0 W0=true:=by rw [hS.le]; exact decide_eq_true (by omega)
 have q1:zm .i64 PV w=true:=by rw [hS.isI,hPV,qaq,pvL_len]; exact decide_eq_true (by omega)
 have q2:zn PV w=AW:=by rw [hS.getI,hPV,qak,hat w (by omega),hAW]
 rw [kW,q2]
 rcases pvi_svf O w w k with ⟨ha,hP,_⟩ | ⟨l0,hl0,ha,hP,_⟩
 ·have g1:zP 0 AW=false:=by rw [hS.le]; exact decide_eq_false (by omega)
  rw [hP] at hT
  obtain ⟨rfl,rfl⟩:T=tl (ur (srow w O (fun l=>ld (O l)) k))/\ec=0:=by
   rcases hT with ⟨h,_⟩ | ⟨_,h⟩
   ·cases h
   ·exact h
  have eZ:zj Z=w:=by rw [hS.len,lZ]
  obtain ⟨XK,hXK⟩:∃ X,X=ur (srow w O (fun l=>ld (O l)) k):=⟨_,rfl⟩
  rw [<- hXK] at hF
  have hZ0:Z=ur (sxL w O k 0):=by rw [hZ,sxL_zero w O k]
  refine nd nW (nd q1 (bF g1 ?_))
  refine ⟨_,hS.call (cz),?_⟩
  cbv
  rw [eZ]
  refine loopZR ccOk mixed hS (fun (m:Nat) s'=>∃ (j:Nat) (J:Int) (X:Abs.Rows),J=j/\m+j=w/\X=ur (sxL w O k j)/\s'=wsB ER PV W0 w X J) (n:=w) (s0:=wsB ER PV W0 w Z 0) (qan ?_ ?_) rfl (by simp [wsB,mkSt]) ?_ ?_
  ·simp [leT,wsB,mkSt,vi,vb]
  ·simp [leH,wsB,mkSt,List.replicate]
  ·exact ⟨0,0,Z,rfl,by omega,hZ0,rfl⟩
  rintro m2 s2 ⟨j,J,X,hJ,hm2,hX,hs2⟩
  have hJ:J=(j:Int):=hJ
  have hW0:W0=(w:Int):=hW0
  by_cases hj:j < w
  ·have l2:zO J W0=true:=by rw [hS.lt]; exact decide_eq_true (by omega)
   have k1:zX J=j:=by rw [hS.nat]; omega
   have n1:zP 0 J=true:=by rw [hS.le]; exact decide_eq_true (by omega)
   have p1:zm .i64 PV j=true:=by rw [hS.isI,hPV,qaq,pvL_len]; exact decide_eq_true (by omega)
   obtain ⟨AJ,hAJ⟩:∃ X:Int,X=pvi O k j:=⟨_,rfl⟩
   have p2:zn PV j=AJ:=by rw [hS.getI,hPV,qak,hat j (by omega),hAJ]
   obtain ⟨J',hJ',i2⟩:∃ I':Int,I'=((j+1:Nat):Int)/\zA .i64 (zB J 1)=I':=⟨J+1,by omega,by rw [hS.add,hS.wrap,wrap_i64 (by omega) (by omega)]⟩
   have hm3:m2 - 1 < m2:=by omega
   obtain ⟨X2,hX2⟩:∃ X,X=ur (sxL w O k (j+1)):=⟨_,rfl⟩
   have hnx2:∃ (j3:Nat) (J3:Int) (X3:Abs.Rows),J3=j3/\(m2 - 1)+j3=w/\X3=ur (sxL w O k j3)/\wsB ER PV W0 w X2 J'=wsB ER PV W0 w X3 J3:=⟨j+1,J',X2,hJ',by omega,hX2,rfl⟩
   rcases pvi_svf O w j k with ⟨ha2,hP2,hz⟩ | ⟨l,hlk,ha2,hP2,hv⟩
   ·have g2:zP 0 AJ=false:=by rw [hS.le]; exact decide_eq_false (by omega)
    obtain rfl:X=X2:=by rw [hX,hX2,sxL_same hz]
    clear hX hX2 hJ' hXK
    subst hs2
    cbv
    refine bT l2 (nd n1 ?_)
    rw [k1]
    refine nd p1 ?_
    rw [p2]
    refine bF g2 ?_
    rw [i2]
    refine againR [] (s':=wsB ER PV W0 w X J') (k:=m2 - 1) ?_ ?_ ?_ ?_ rfl (by simp [wsB,mkSt]) hm3 hnx2
    ·simp [leTR,wsB,mkSt,vi,AV.ren,AV.noTup,Cell.ren,renF]
    ·simp [leHR,wsB,mkSt,Abs.look,renF,Blk.ren,Cell.ren,List.replicate]
    ·simp [liveR,wsB,mkSt,renF,List.replicate]
    ·simp
   ·have g2:zP 0 AJ=true:=by rw [hS.le]; exact decide_eq_true (by omega)
    obtain ⟨OL,hOL⟩:∃ R,R=ur (O l):=⟨_,rfl⟩
    obtain ⟨y,hy⟩:∃ y,y=(O l).getD w 0:=⟨_,rfl⟩
    have gy:(O l)[w]?=some y:=by rw [hy,List.getD_eq_getElem?_getD,List.getElem?_eq_getElem (by rw [olen l hlk]; omega)]; rfl
    obtain ⟨s5,t5,r5,p5,hr5,_⟩:=qrow y
    obtain ⟨s7,t7,r7,p7,hr7,_⟩:=qrow (if j < j then svf O (fun l=>ld (O l)) w k j else 0)
    have uy:=qat gy
    rw [<- hOL,hr5] at uy
    have k2:zX AJ=l:=by rw [hS.nat]; omega
    have k3:zk ER l=some [.lst false OL]:=by rw [hS.nth,hER,hOL]; exact qbf hlk
    have k4:zk OL w=some [.v (.bool s5),.lst false r5,.v (.bool t5),.lst false p5]:=by rw [hS.nth]; exact uy
    have b3:zY J w=true:=by rw [hS.inb]; exact decide_eq_true (by omega)
    have b4:zb 0 J=j:=by rw [hS.idx]; omega
    have k5:zk X j=some [.v (.bool s7),.lst false r7,.v (.bool t7),.lst false p7]:=by rw [hS.nth,hX,<- hr7]; exact qat (sxL_get hj)
    have k6:zl X j [.v (.bool s5),.lst false r5,.v (.bool t5),.lst false p5]=X2:=by rw [hS.setr,hX,hX2,<- hr5,hy,<- hv,<- sxL_next hj]; exact ur_set _ _ _
    clear hX hX2 hJ' hr7 hXK
    subst hs2
    cbv
    refine bT l2 (nd n1 ?_)
    rw [k1]
    refine nd p1 ?_
    rw [p2]
    refine bT g2 (nd n1 (nd p1 ?_))
    rw [k2,k3]
    cbv
    refine nd g2 ?_
    rw [kW,k4]
    cbv
    refine nd nW (nd b3 ?_)
    rw [b4,k5]
    cbv
    rw [k6,i2]
    refine againR [] (s':=wsB ER PV W0 w X2 J') (k:=m2 - 1) ?_ ?_ ?_ ?_ rfl (by simp [wsB,mkSt]) hm3 hnx2
    ·simp [leTR,wsB,mkSt,vi,AV.ren,AV.noTup,Cell.ren,renF]
    ·simp [leHR,wsB,mkSt,Abs.look,renF,Blk.ren,Cell.ren,List.replicate]
    ·simp [liveR,wsB,mkSt,renF,List.replicate]
    ·simp
  ·have l2:zO J W0=false:=by rw [hS.lt]; exact decide_eq_false (by omega)
   have lX:X.length=w:=by rw [hX,qag,sxL_len]
   obtain rfl:X=XK:=by rw [hX,hXK,show j=w by omega,sxL_all]
   have f1:zq 0 w X=true:=by rw [hS.fit]; exact decide_eq_true (by omega)
   have f2:zr X 0 w=X:=by rw [hS.part,List.drop_zero,List.take_of_length_le (by omega)]
   clear hX hXK
   subst hs2
   cbv
   refine bF l2 (nd f1 ?_)
   rw [f2]
   exact hF _ (ResLe.refl _)
 ·have g1:zP 0 AW=true:=by rw [hS.le]; exact decide_eq_true (by omega)
  rw [hP] at hT
  obtain ⟨rfl,rfl⟩:T=.c (.lst true [])/\ec=111:=by
   rcases hT with ⟨_,h⟩ | ⟨h,_⟩
   ·exact h
   ·cases h
  refine nd nW (nd q1 (bT g1 ?_))
  exact hF _ (ResLe.refl _)
open Go Go.Abs Go.Proofs
structure MxRows (R:Abs.Rows) (n:Nat) (r:Nat->Abs.Rows) (ln:Nat->Nat) (q:Nat->Nat->RN):Prop where
 len:R.length=n
 n8:n<=8
 row:∀ i,i < n->R[i]?=some [.lst false (r i)]
 rl:∀ i,i < n->(r i).length=ln i
 l8:∀ i,i < n->ln i<=8
 cell:∀ i,i < n->∀ j,j < ln i->(r i)[j]?=some (q i j).row
def MxV (n:Nat) (ln:Nat->Nat) (V:Nat->Nat->Bool):Prop:=∀ i,i < n->ln i=ln 0/\∀ j,j < ln i->V i j=true
def mvSt (R:Abs.Rows) (N I:Int):St:=mkSt 31 [.c (.t (.lst false R)),.junk,vb false,.junk,.junk,.junk,.junk,.c (.t (.lst false R)),vi .i64 N,vi .i64 I] [none]
def mviSt (R ri:Abs.Rows) (N I Li J:Int):St:=mkSt 31 [.c (.t (.lst false R)),.junk,vb false,.junk,.c (.t (.lst false ri)),.junk,.junk,.c (.t (.lst false R)),vi .i64 N,vi .i64 I,.junk,.junk,.junk,.junk,.junk,.junk,.junk,.junk,.junk,.junk,.c (.t (.lst false ri)),vi .i64 Li,vi .i64 J] [none]
theorem mvalid_walk {R:Abs.Rows} {n:Nat} {r:Nat->Abs.Rows} {ln:Nat->Nat} {q:Nat->Nat->RN} (h:MxRows R n r ln q) (V:Nat->Nat->Bool) (hV:∀ i,i < n->∀ j,j < ln i->ACall Tryz.prog 100 [.val (.agg (q i j).row)] ⟨[.val (tb (V i j))],[none]⟩)
  (b:Bool) (hb:b=true ↔ MxV n ln V):ACall Tryz.prog 49 [.val (tl R)] ⟨[.val (tb b)],[none]⟩:=by
 have hn8:=h.n8
 refine callZ ccOk mixed [.val] Tryz.func49 rfl rfl (by kernel_rfl) fun zA zB zC zD zE zF zG zH zI zJ zK zL zM zN zO zP zQ zR zT zU zV zX zY zZ zb zc zd ze zg zh zi zj zk zl zm zn zo zq zr zs zt zu zx zy zz zmget zmset zW zth A L F hS hF=>?_
 obtain ⟨N,hN,hN2⟩:∃ N:Int,N=n/\zZ (zj R)=N:=⟨_,rfl,by rw [hS.ofN,hS.len,h.len]⟩
 cbv
 rw [hN2]
 have hN:N=(n:Int):=hN
 refine loopZR ccOk mixed hS (fun (m:Nat) s'=>∃ (i:Nat) (I:Int),I=i/\m+i=n/\(∀ k,k < i->ln k=ln 0/\∀ j,j < ln k->V k j=true)/\s'=mvSt R N I) (n:=n) (s0:=mvSt R N 0) (qan ?_ ?_) rfl (by show 1<=1; omega) ?_ ?_
 ·simp [leT,mvSt,mkSt,vi,vb]
 ·simp [leH,mvSt,mkSt]
 ·exact ⟨0,0,rfl,by omega,by omega,rfl⟩
 ·rintro m sx ⟨i,I,hI,hm,hall,hs1⟩
  by_cases hin:i=n
  ·have l1:zO I N=false:=by rw [hS.lt]; exact decide_eq_false (by omega)
   have hbt:true=b:=(hb.2 (by rw [hin] at hall; exact hall)).symm
   subst hs1
   cbv
   refine bF l1 ?_
   exact fin1 hF (tv_bool hbt)
  ·have hin:i < n:=by omega
   have l1:zO I N=true:=by rw [hS.lt]; exact decide_eq_true (by omega)
   have j1:zX I=i:=by rw [hS.nat]; omega
   have j2:zk R i=some [.lst false (r i)]:=by rw [hS.nth]; exact h.row i hin
   have n0:zP 0 I=true:=by rw [hS.le]; exact decide_eq_true (by omega)
   have j3:zX 0=0:=by rw [hS.nat]; rfl
   have j4:zk R 0=some [.lst false (r 0)]:=by rw [hS.nth]; exact h.row 0 (by omega)
   have n1:zP 0 0=true:=by rw [hS.le]; rfl
   obtain ⟨r0,hr0⟩:∃ x,x=r 0:=⟨_,rfl⟩
   obtain ⟨ri,hri⟩:∃ x,x=r i:=⟨_,rfl⟩
   rw [<- hr0] at j4
   rw [<- hri] at j2
   have e1:zZ (zj ri)=(ln i:Int):=by rw [hS.ofN,hS.len,hri,h.rl i hin]
   have e2:zZ (zj r0)=(ln 0:Int):=by rw [hS.ofN,hS.len,hr0,h.rl 0 (by omega)]
   obtain ⟨Li,hLi⟩:∃ x:Int,x=(ln i:Int):=⟨_,rfl⟩
   obtain ⟨L0,hL0⟩:∃ x:Int,x=(ln 0:Int):=⟨_,rfl⟩
   rw [<- hLi] at e1
   rw [<- hL0] at e2
   by_cases hd:ln i=ln 0
   ·have d1:zN Li L0=false:=by rw [hS.ne]; exact decide_eq_false (by simp; omega)
    subst hs1
    cbv
    refine bT l1 ?_
    rw [j1,j2]
    cbv
    refine nd (n0) ?_
    rw [j3,j4]
    cbv
    refine nd (n1) ?_
    rw [e1,e2]
    refine bF (d1) ?_
    have hLi:Li=(ln i:Int):=hLi
    have hbad:∀ j,j < ln i->V i j=false->false=b:=fun j hj hv=>by
     cases hb':b with
     | false=>rfl
     | true=>have:=(hb.1 hb') i hin; rw [this.2 j hj] at hv; cases hv
    have hl8:=h.l8 i hin
    have hI:I=(i:Int):=hI
    have y0:zQ true=false:=by rw [hS.not]; rfl
    have y1:zQ false=true:=by rw [hS.not]; rfl
    apply hideP (L:=L) (∀ j,j < ln i->V i j=true)
    ·intro Q' hq hret
     refine loopZR ccOk mixed hS (fun (m:Nat) s'=>∃ (j:Nat) (J:Int),J=j/\m+j=ln i/\(∀ k,k < j->V i k=true)/\s'=mviSt R ri N I Li J) (n:=ln i) (s0:=mviSt R ri N I Li 0) (qan ?_ ?_) rfl (by show 1<=1; omega) ?_ ?_
     ·simp [leT,mviSt,mkSt,vi,vb]
     ·simp [leH,mviSt,mkSt]
     ·exact ⟨0,0,rfl,by omega,by omega,rfl⟩
     ·rintro m2 sx ⟨j,J,hJ,hm2,hpre,hs1⟩
      by_cases hj:j=ln i
      ·have hJL:J=Li:=by omega
       have hgo:∀ k,k < ln i->V i k=true:=fun k hk=>hpre k (by omega)
       clear hpre
       subst hJL
       have l3:zO J J=false:=by rw [hS.lt]; exact decide_eq_false (by omega)
       subst hs1
       cbv
       refine bF l3 ?_
       exact hq hgo
      ·have hj:j < ln i:=by omega
       have l3:zO J Li=true:=by rw [hS.lt]; exact decide_eq_true (by omega)
       have k1:zX J=j:=by rw [hS.nat]; omega
       have k2:zk ri j=some (q i j).row:=by rw [hS.nth,hri]; exact h.cell i hin j hj
       have n2:zP 0 J=true:=by rw [hS.le]; exact decide_eq_true (by omega)
       have cV:=hV i hin j hj
       have hbd:=hbad j hj
       generalize q i j=c at k2 cV
       obtain ⟨s,r,t,p⟩:=c
       have k2:zk ri j=some [.v (.bool s),.lst false r,.v (.bool t),.lst false p]:=k2
       have cV:ACall Tryz.prog 100 [.val (.agg [.v (.bool s),.lst false r,.v (.bool t),.lst false p])] ⟨[.val (tb (V i j))],[none]⟩:=cV
       cases hv:V i j with
       | true=>
        rw [hv] at cV
        obtain ⟨J',hJ',i1⟩:∃ J':Int,J'=((j+1:Nat):Int)/\zA .i64 (zB J 1)=J':=⟨J+1,by omega,by rw [hS.add,hS.wrap,wrap_i64 (by omega) (by omega)]⟩
        have hjj:m2 - 1 < m2:=by omega
        have hnx:∃ (j2:Nat) (J2:Int),J2=j2/\(m2 - 1)+j2=ln i/\(∀ k,k < j2->V i k=true)/\mviSt R ri N I Li J'=mviSt R ri N I Li J2:=⟨j+1,J',hJ',by omega,fun k hk=>by
         by_cases e:k=j
         ·rw [e]; exact hv
         ·exact hpre k (by omega),rfl⟩
        clear hpre hbd
        subst hs1
        cbv
        refine bT l3 ?_
        rw [k1,k2]
        cbv
        refine nd (n2) ?_
        refine ⟨_,hS.call (cV),?_⟩
        cbv
        refine bF (y0) ?_
        exact againR [] (s':=mviSt R ri N I Li J') (k:=m2 - 1) (by simp [leTR,mviSt,mkSt,vi,vb,AV.ren,AV.noTup,Cell.ren,i1,renF]) (by simp [leHR,mviSt,mkSt]) (by simp [liveR,mviSt,mkSt]) (by simp) rfl (Nat.le_refl 1) hjj hnx
       | false=>
        rw [hv] at cV
        have hbf:=hbd hv
        clear hpre hbd
        subst hs1
        cbv
        refine bT l3 ?_
        rw [k1,k2]
        cbv
        refine nd (n2) ?_
        refine ⟨_,hS.call (cV),?_⟩
        cbv
        refine bT y1 ?_
        apply hret
        cbv
        exact fin1 hF (tv_bool hbf)
    ·intro hgo
     obtain ⟨I',hI',i1⟩:∃ I':Int,I'=((i+1:Nat):Int)/\zA .i64 (zB I 1)=I':=⟨I+1,by omega,by rw [hS.add,hS.wrap,wrap_i64 (by omega) (by omega)]⟩
     have hjj:m - 1 < m:=by omega
     have hnx:∃ (i2:Nat) (I2:Int),I2=i2/\(m - 1)+i2=n/\(∀ k,k < i2->ln k=ln 0/\∀ j,j < ln k->V k j=true)/\mvSt R N I'=mvSt R N I2:=⟨i+1,I',hI',by omega,fun k hk=>by
      by_cases e:k=i
      ·rw [e]; exact ⟨hd,hgo⟩
      ·exact hall k (by omega),rfl⟩
     cbv
     exact againR [] (s':=mvSt R N I') (k:=m - 1) (by simp [leTR,mvSt,mkSt,vi,vb,AV.ren,AV.noTup,Cell.ren,i1,renF]) (by simp [leHR,mvSt,mkSt]) (by simp [liveR,mvSt,mkSt]) (by simp) rfl (Nat.le_refl 1) hjj hnx
   ·have d1:zN Li L0=true:=by rw [hS.ne]; exact decide_eq_true (by omega)
    have hbf:false=b:=by
     cases hb':b with
     | false=>rfl
     | true=>exact absurd ((hb.1 hb') i hin).1 hd
    subst hs1
    cbv
    refine bT l1 ?_
    rw [j1,j2]
    cbv
    refine nd (n0) ?_
    rw [j3,j4]
    cbv
    refine nd (n1) ?_
    rw [e1,e2]
    refine bT (d1) ?_
    exact fin1 hF (tv_bool hbf)
open Go Go.Abs Go.Abs.M Go.Proofs
theorem mxm_walk (hsan:ACall Tryz.prog 11 [] ⟨[.val (tb true)],[]⟩) (V0 V1 V2:List Int) (a b c d:Nat) (hc:c < 256) {AM BM RB:Abs.Rows} {f1 f2 g1 g2:Bool} {CX YX EA KA:Abs.Rows} {e1 e2:Int}
  (cma:ACall Tryz.prog 12 [.val (.agg [.lst false (W .i8 V0)]),.val (ti .u8 (a:Int)),.val (ti .u8 (b:Int))] ⟨[.val (tl AM)],[none,none,none]⟩)
  (cmb:ACall Tryz.prog 12 [.val (.agg [.lst false (W .i8 V1)]),.val (ti .u8 (c:Int)),.val (ti .u8 (d:Int))] ⟨[.val (tl BM)],[none,none,none]⟩)
  (c1:ACall Tryz.prog 44 [.val (tl AM),.val (tl BM)] ⟨[.val (.c (.lst f1 CX)),.val (ti .i64 e1)],[none,none]⟩)
  (c2:ACall Tryz.prog 45 [.val (tl AM),.val (tl BM)] ⟨[.val (.c (.lst f2 CX)),.val (ti .i64 e1)],[none,none]⟩)
  (crow:ACall Tryz.prog 27 [.val (.agg [.lst false (W .i8 V2)]),.val (ti .i64 0),.val (ti .i64 ((c % 5:Nat):Int))] ⟨[.own 4 RB],[none,none,none]⟩) (lB:RB.length=c % 5)
  (c3:ACall Tryz.prog 31 [.val (tl AM),.val (tl RB)] ⟨[.val (.c (.lst g1 YX)),.val (ti .i64 e2)],[none,none]⟩)
  (c4:ACall Tryz.prog 46 [.val (tl AM),.val (tl RB)] ⟨[.val (.c (.lst g2 YX)),.val (ti .i64 e2)],[none,none]⟩)
  (s1:ACall Tryz.prog 19 [.val (.c (.lst f1 CX)),.val (.c (.lst f2 CX))] ⟨[.val (tb true)],[none,none]⟩)
  (s2:ACall Tryz.prog 26 [.val (.c (.lst g1 YX)),.val (.c (.lst g2 YX))] ⟨[.val (tb true)],[none,none]⟩)
  (k1:ACall Tryz.prog 32 [.val (tl AM)] ⟨[.val (tl EA)],[none]⟩) (k2:ACall Tryz.prog 47 [.val (tl AM)] ⟨[.val (tl EA)],[none]⟩)
  (s3:ACall Tryz.prog 19 [.val (tl EA),.val (tl EA)] ⟨[.val (tb true)],[none,none]⟩)
  (k3:ACall Tryz.prog 33 [.val (tl AM)] ⟨[.val (tl KA)],[none]⟩) (k4:ACall Tryz.prog 48 [.val (tl AM)] ⟨[.val (tl KA)],[none]⟩)
  (s4:ACall Tryz.prog 19 [.val (tl KA),.val (tl KA)] ⟨[.val (tb true)],[none,none]⟩)
  (k5:ACall Tryz.prog 49 [.val (tl AM)] ⟨[.val (tb true)],[none]⟩) :
  ACall Tryz.prog 10 [.val (.agg [.lst false (W .i8 V0),.lst false (W .i8 V1),.lst false (W .i8 V2)]),.val (.agg [.v (.int .u8 a),.v (.int .u8 b),.v (.int .u8 c),.v (.int .u8 d)])] ⟨[.val (tb true)],[none,none]⟩:=by
 generalize W .i8 V0=W0 at *
 generalize W .i8 V1=W1 at *
 generalize W .i8 V2=W2 at *
 obtain ⟨A0,hA0⟩:∃ X:Int,X=(a:Int):=⟨_,rfl⟩
 obtain ⟨B0,hB0⟩:∃ X:Int,X=(b:Int):=⟨_,rfl⟩
 obtain ⟨C0,hC0⟩:∃ X:Int,X=(c:Int):=⟨_,rfl⟩
 obtain ⟨D0,hD0⟩:∃ X:Int,X=(d:Int):=⟨_,rfl⟩
 obtain ⟨R0,hR0⟩:∃ X:Int,X=((c % 5:Nat):Int):=⟨_,rfl⟩
 rw [<- hA0,<- hB0] at cma
 rw [<- hC0,<- hD0] at cmb
 rw [<- hR0] at crow
 rw [<- hA0,<- hB0,<- hC0,<- hD0]
 refine callZ ccOk mixed [.val] Tryz.func10 rfl rfl (by kernel_rfl) fun zA zB zC zD zE zF zG zH zI zJ zK zL zM zN zO zP zQ zR zT zU zV zX zY zZ zb zc zd ze zg zh zi zj zk zl zm zn zo zq zr zs zt zu zx zy zz zmget zmset zW zth A L F hS hF=>?_
 have y0:zQ true=false:=by rw [hS.not]; rfl
 have d1:∀ X,zN X X=false:=fun X=>by rw [hS.ne]; exact decide_eq_false (by simp)
 have r5:zA .i64 (zF C0 5)=R0:=by
  rw [hS.rem,hC0,hR0,hS.wrap]
  show IntKind.i64.wrap (Int.tmod (c:Int) 5)=_
  rw [Int.tmod_eq_emod_of_nonneg (by omega),wrap_i64 (by omega) (by omega)]; omega
 obtain ⟨l,hl⟩:∃ l,l=c % 5:=⟨_,rfl⟩
 rw [<- hl] at lB
 have eB:zj RB=l:=by rw [hS.len,lB]
 have u1:zq 0 l RB=true:=by rw [hS.fit]; exact decide_eq_true (by omega)
 have u2:zr RB 0 l=RB:=by rw [hS.part,List.drop_zero,List.take_of_length_le (by omega)]
 cbv
 refine ⟨_,hS.call (hsan),?_⟩
 cbv
 refine bF (y0) ?_
 refine ⟨_,hS.call (cma),?_⟩
 cbv
 refine ⟨_,hS.call (cmb),?_⟩
 cbv
 refine ⟨_,hS.call (c1),?_⟩
 cbv
 refine ⟨_,hS.call (c2),?_⟩
 cbv
 rw [r5]
 refine ⟨_,hS.call (crow),?_⟩
 cbv
 rw [eB]
 refine nd u1 ?_
 rw [u2]
 refine ⟨_,hS.call (c3),?_⟩
 cbv
 refine nd (u1) ?_
 rw [u2]
 refine ⟨_,hS.call (c4),?_⟩
 cbv
 refine bF (d1 e1) ?_
 refine bF (d1 e2) ?_
 refine ⟨_,hS.call (s1),?_⟩
 cbv
 refine bF (y0) ?_
 refine ⟨_,hS.call (s2),?_⟩
 cbv
 refine bF (y0) ?_
 refine ⟨_,hS.call (k1),?_⟩
 cbv
 refine ⟨_,hS.call (k2),?_⟩
 cbv
 refine ⟨_,hS.call (s3),?_⟩
 cbv
 refine bF (y0) ?_
 refine ⟨_,hS.call (k3),?_⟩
 cbv
 refine ⟨_,hS.call (k4),?_⟩
 cbv
 refine ⟨_,hS.call (s4),?_⟩
 cbv
 refine bT (rfl) ?_
 refine ⟨_,hS.call (k5),?_⟩
 cbv
 refine bT (rfl) ?_
 exact hF _ (ResLe.refl _)
theorem svf_congr {R S:Nat->List Rat} {p q:Nat->Nat} (w y:Nat):∀ k,(∀ l,l < k->p l=q l/\R l=S l)->svf R p w k y=svf S q w k y
 | 0,_=>rfl
 | k+1,h=>by rw [svf,svf,(h k (by omega)).1,(h k (by omega)).2,svf_congr w y k fun l hl=>h l (by omega)]
theorem svm_qs {R:Nat->List Rat} {p:Nat->Nat} {w n v Q:Nat} (hl:∀ i,i < n->(R i).length=v) (hv:n ≠ 0->w < v) (hq:∀ i,i < n->∀ q ∈ R i,Qs q Q) (hQ:1<=Q):∀ k,k<=n->∀ y,Qs (svf R p w k y) Q
 | 0,_,y=>Qs.zero hQ
 | k+1,hk,y=>by
  unfold svf
  split
  ·have:=hv (by omega)
   exact hq k (by omega) _ (by rw [List.getD_eq_getElem?_getD,List.getElem?_eq_getElem (by rw [hl k (by omega)]; exact this)]; exact List.getElem_mem _)
  ·exact svm_qs hl hv hq hQ k (by omega) y
theorem mxm_call (hsan:ACall Tryz.prog 11 [] ⟨[.val (tb true)],[]⟩) (V0 V1 V2:List Int) (h0:∀ v ∈ V0,-128<=v/\v < 128) (l0:V0.length < 9223372036854775808) (h1:∀ v ∈ V1,-128<=v/\v < 128) (l1:V1.length < 9223372036854775808) (h2:∀ v ∈ V2,-128<=v/\v < 128) (l2:V2.length < 9223372036854775808) (a b c d:Nat) (ha:a < 256) (hb:b < 256) (hc:c < 256) (hd:d < 256) :
  ACall Tryz.prog 10 [.val (.agg [.lst false (W .i8 V0),.lst false (W .i8 V1),.lst false (W .i8 V2)]),.val (.agg [.v (.int .u8 a),.v (.int .u8 b),.v (.int .u8 c),.v (.int .u8 d)])] ⟨[.val (tb true)],[none,none]⟩:=by
 have cma:=rmadeM_call V0 h0 l0 a b ha hb
 have cmb:=rmadeM_call V1 h1 l1 c d hc hd
 have crow:=rrow_call V2 h2 l2 0 (c % 5) (by omega) (by omega)
 obtain ⟨D,hD⟩:∃ D,D=rawRow V2 0 (c % 5):=⟨_,rfl⟩
 have lD:D.length=c % 5:=by rw [hD,rawRow_len]
 have qD:∀ q ∈ D,Qs q 8:=by rw [hD]; exact rawRow_qs _ _ _
 rw [<- hD] at crow
 obtain ⟨n,hn⟩:∃ n,n=a % 5:=⟨_,rfl⟩
 obtain ⟨x,hx⟩:∃ x,x=b % 5:=⟨_,rfl⟩
 obtain ⟨m,hm⟩:∃ m,m=c % 5:=⟨_,rfl⟩
 obtain ⟨y,hy⟩:∃ y,y=d % 5:=⟨_,rfl⟩
 have hn4:n<=4:=by omega
 have hm4:m<=4:=by omega
 obtain ⟨M,hM⟩:∃ M,M=rawM V0 x:=⟨_,rfl⟩
 obtain ⟨B,hB⟩:∃ M,M=rawM V1 y:=⟨_,rfl⟩
 rw [<- hn,<- hx,<- hM] at cma
 rw [<- hm,<- hy,<- hB] at cmb
 rw [<- hm] at lD
 obtain ⟨w,hw⟩:∃ w,w=if n=0 then 0 else x:=⟨_,rfl⟩
 obtain ⟨u,hu⟩:∃ w,w=if m=0 then 0 else y:=⟨_,rfl⟩
 have hw4:w<=4:=by rw [hw]; split <;> omega
 have hu4:u<=4:=by rw [hu]; split <;> omega
 have hw0:n=0->w=0:=fun h=>by rw [hw,if_pos h]
 have hu0:m=0->u=0:=fun h=>by rw [hu,if_pos h]
 have hl:∀ i,i < n->(M i).length=w:=fun i hi=>by rw [hM,rawM,rawRow_len,hw,if_neg (by omega)]
 have hlB:∀ i,i < m->(B i).length=u:=fun i hi=>by rw [hB,rawM,rawRow_len,hu,if_neg (by omega)]
 have hq:∀ i,i < n->∀ q ∈ M i,Qs q 8:=fun i hi=>by rw [hM,rawM]; exact rawRow_qs _ _ _
 have hqB:∀ i,i < m->∀ q ∈ B i,Qs q 8:=fun i hi=>by rw [hB,rawM]; exact rawRow_qs _ _ _
 have hq100:∀ i,i < n->∀ q ∈ M i,Qs q 100:=fun i hi q h=>(hq i hi q h).mono (by omega)
 have qD100:∀ q ∈ D,Qs q 100:=fun q h=>(qD q h).mono (by omega)
 clear hD hM hB hw hu
 have hnil:ArgsLe [.val (.c (.lst true [])),.val (.c (.lst true []))] [.val (tl []),.val (tl [])]:=⟨.drop _ _,.drop _ _,trivial⟩
 obtain ⟨f,CX,e1,c1,c2,s1⟩:∃ (f:Bool) (CX:Abs.Rows) (e1:Int),ACall Tryz.prog 44 [.val (tl (mr n M)),.val (tl (mr m B))] ⟨[.val (.c (.lst f CX)),.val (ti .i64 e1)],[none,none]⟩ /\
   ACall Tryz.prog 45 [.val (tl (mr n M)),.val (tl (mr m B))] ⟨[.val (.c (.lst f CX)),.val (ti .i64 e1)],[none,none]⟩/\ACall Tryz.prog 19 [.val (.c (.lst f CX)),.val (.c (.lst f CX))] ⟨[.val (tb true)],[none,none]⟩:=by
  by_cases hnm:n=0 ∨ w=m
  ·have hlm:∀ i,i < n->(M i).length=m:=fun i hi=>by rw [hl i hi]; omega
   have qP:=mmM_qs (n:=n) (w:=u) hlB hlm hq hqB
   exact ⟨false,mr n (mmM M B u),0,mmul_call n hn4 M B m u 8 8 (by omega) (by omega) hlB hu0 hlm hq hqB (by omega),rmmul_call n m u (by omega) (by omega) (by omega) hu0 M B 8 8 hlm hlB hq hqB (by omega),
    rsame_call n _ u 1000 (by omega) (by omega) (fun i _=>mmM_len _ _ _ _) (fun i hi q h=>(qP i hi q h).mono (by have:=Nat.mul_le_mul_right (8+8+1) hm4; omega)) (by omega)⟩
  ·have hb:m ≠ 0 ∨ m=0:=by omega
   exact ⟨true,[],1,mmul_err n w M (by omega) hn4 hl (mr m B) (by rw [qa6]; omega),rmmul_err n w M (by omega) hl (mr m B) (by rw [qa6]; omega),
    ACall.weak hnil (ResLe.refl _) (rsame_call 0 M 0 8 (by omega) (by omega) (by omega) (by omega) (by omega))⟩
 obtain ⟨g,YX,e2,c3,c4,s2⟩:∃ (g:Bool) (YX:Abs.Rows) (e2:Int),ACall Tryz.prog 31 [.val (tl (mr n M)),.val (tl (ur D))] ⟨[.val (.c (.lst g YX)),.val (ti .i64 e2)],[none,none]⟩ /\
   ACall Tryz.prog 46 [.val (tl (mr n M)),.val (tl (ur D))] ⟨[.val (.c (.lst g YX)),.val (ti .i64 e2)],[none,none]⟩/\ACall Tryz.prog 26 [.val (.c (.lst g YX)),.val (.c (.lst g YX))] ⟨[.val (tb true)],[none,none]⟩:=by
  have serr:ACall Tryz.prog 26 [.val (.c (.lst true [])),.val (.c (.lst true []))] ⟨[.val (tb true)],[none,none]⟩:=
   ACall.weak hnil (ResLe.refl _) (rsrow_call [] 8 (by simp) (by simp) (by omega))
  by_cases hnm:n=m
  ·have lDn:D.length=n:=by omega
   obtain ⟨v,hv⟩:∃ v,v=if n=0 then 0 else w+1:=⟨_,rfl⟩
   have hlx:∀ i,i < n->(exM M D i).length=w+1:=fun i hi=>exM_len (hl i hi)
   have hlv:∀ i,i < n->(exM M D i).length=v:=fun i hi=>by rw [hlx i hi,hv,if_neg (by omega)]
   have gD:∀ i,i < n->D[i]?=some (D.getD i 0):=fun i hi=>by rw [List.getD_eq_getElem?_getD,List.getElem?_eq_getElem (by omega)]; rfl
   have hqx:∀ i,i < n->∀ q ∈ exM M D i,Qs q 100:=fun i hi q hq'=>by
    rcases List.mem_append.1 hq' with h | h
    ·exact hq100 i hi q h
    ·obtain rfl:=List.mem_singleton.1 h
     exact qD100 _ (List.mem_of_getElem? (gD i hi))
   have heq:(reIt (w+1) (exM M D) n).k=(rdIt n (exM M D) v).k/\∀ l,l < (rdIt n (exM M D) v).k->ld ((reIt (w+1) (exM M D) n).O l)=(rdIt n (exM M D) v).p l/\(reIt (w+1) (exM M D) n).O l=(rdIt n (exM M D) v).R l:=by
    by_cases hn0:n=0
    ·have e:=(re_eq hlx).1
     have k1:=(rdIt_ok hlx (w+1)).kn
     have k2:=(rdIt_ok hlv v).kn
     exact ⟨by omega,by omega⟩
    ·rw [hv,if_neg hn0]
     have e:=re_eq hlx
     exact ⟨e.1,fun l hl=>⟨(e.2 l hl).2,(e.2 l hl).1⟩⟩
   have okv:=rdIt_ok hlv v
   have qs:=rdIt_qs hlv (by omega) hqx v (Nat.le_refl _)
   have c3:=fun (T:TV) (ec:Int)=>msolve_call n hn4 M w 100 (by omega) hw0 hl D lDn (by omega) (by omega) hq100 qD100 hv (k:=(rdIt n (exM M D) v).k) (R:=(rdIt n (exM M D) v).R) (p:=(rdIt n (exM M D) v).p) rfl rfl rfl (T:=T) (ec:=ec)
   have c4:=fun (T:TV) (ec:Int)=>rsolve_call n hn4 M w (by omega) hw0 hl D lDn hq100 qD100 (k:=(reIt (w+1) (exM M D) n).k) (O:=(reIt (w+1) (exM M D) n).O) rfl rfl (T:=T) (ec:=ec)
   rw [heq.1] at c4
   have heq:=heq.2
   generalize (rdIt n (exM M D) v).k=k at *
   generalize (rdIt n (exM M D) v).R=R at *
   generalize (rdIt n (exM M D) v).p=p at *
   generalize (reIt (w+1) (exM M D) n).O=O at *
   have hkn:=okv.kn
   have hQ:7 ^ k*100<=240100:=by
    have:=Nat.mul_le_mul_right 100 (Nat.pow_le_pow_right (show 0 < 7 by omega) (show k<=4 by omega))
    omega
   have qs:∀ i,i < n->∀ q ∈ R i,Qs q 240100:=fun i hi q h=>(qs i hi q h).mono hQ
   have hP:isP (fun l=>ld (O l)) k w=isP p k w:=isP_congr w k fun l hl=>(heq l hl).1
   have hs:srow w O (fun l=>ld (O l)) k=srow w R p k:=List.map_congr_left fun y _=>svf_congr w y k heq
   cases hp:isP p k w with
   | true=>exact ⟨true,[],111,c3 _ _ (.inl ⟨hp,rfl,rfl⟩),c4 _ _ (.inl ⟨hP.trans hp,rfl,rfl⟩),serr⟩
   | false=>
    refine ⟨false,_,0,c3 _ _ (.inr ⟨hp,rfl,rfl⟩),c4 _ _ (.inr ⟨hP.trans hp,by rw [hs]; rfl,rfl⟩),?_⟩
    refine rsrow_call (srow w R p k) 240100 (by rw [srow_len]; omega) (fun q h=>?_) (by omega)
    obtain ⟨y,_,rfl⟩:=List.mem_map.1 h
    exact svm_qs okv.len (fun _=>by rw [hv,if_neg (by omega)]; omega) qs (by omega) k hkn y
  ·exact ⟨true,[],1,msolve_err _ _ (by rw [qa6,qag]; omega),rsolve_err _ _ (by rw [qa6,qag]; omega),serr⟩
 have k1:=mech_call n hn4 M w 8 (by omega) hl (by omega) (by omega) hq
 have k2:=rech_call n hn4 M w (by omega) hl hq100
 have k3:=mker_call n hn4 M w 8 (by omega) hw0 hl (by omega) (by omega) hq
 have k4:=rker_call n hn4 M w (by omega) hw0 hl hq100
 have ok:=rdIt_ok hl w
 have qs:=rdIt_qs hl (by omega) hq w (Nat.le_refl _)
 have e:=re_eq hl
 rw [e.1] at k2 k4
 have e:=e.2
 generalize (rdIt n M w).k=k at *
 generalize (rdIt n M w).R=R at *
 generalize (rdIt n M w).p=p at *
 generalize (reIt w M n).O=O at *
 have hkn:=ok.kn
 have hQ:7 ^ k*8<=19208:=by
  have:=Nat.mul_le_mul_right 8 (Nat.pow_le_pow_right (show 0 < 7 by omega) (show k<=4 by omega))
  omega
 have qs:∀ i,i < n->∀ q ∈ R i,Qs q 19208:=fun i hi q h=>(qs i hi q h).mono hQ
 rw [mr_congr fun l hl=>(e l hl).1] at k2
 have hkr:∀ j,krow w O (fun l=>ld (O l)) k j=krow w R p k j:=fun j=>List.map_congr_left fun y _=>kvf_congr j y _ fun l hl=>⟨(e l hl).2,(e l hl).1⟩
 rw [show kerB w O (fun l=>ld (O l)) k w=kerB w R p k w from by
  unfold kerB
  rw [frL_congr fun l h=>(e l h).2]
  exact List.map_congr_left fun j _=>by rw [hkr j]] at k4
 have hfl:(frL p k w).length<=4:=by have:=fr_count ok; omega
 have s3:=rsame_call k R w 19208 (by omega) (by omega) (fun i hi=>ok.len i (by omega)) (fun i hi=>qs i (by omega)) (by omega)
 have s4:ACall Tryz.prog 19 [.val (tl (kerB w R p k w)),.val (tl (kerB w R p k w))] ⟨[.val (tb true)],[none,none]⟩:=by
  rw [kerB_mr]
  refine rsame_call _ _ w 19208 (by omega) (by omega) (fun i _=>krow_len _ _ _ _ _) (fun i hi=>?_) (by omega)
  exact krow_qs (fun i hi=>ok.len i hi) qs (by omega) (frL_mem _ _ w _ (by
   rw [List.getD_eq_getElem?_getD,List.getElem?_eq_getElem hi]; exact List.getElem_mem hi)).1 hkn
 have k5:ACall Tryz.prog 49 [.val (tl (mr n M))] ⟨[.val (tb true)],[none]⟩:=by
  have gm:∀ i,i < n->∀ j,j < w->(M i)[j]?=some ((M i).getD j 0):=fun i hi j hj=>by rw [List.getD_eq_getElem?_getD,List.getElem?_eq_getElem (by rw [hl i hi]; exact hj)]; rfl
  exact mvalid_walk (R:=mr n M) (n:=n) (r:=fun i=>ur (M i)) (ln:=fun _=>w) (q:=fun i j=>⟨(qc ((M i).getD j 0)).s,W .u32 (qc ((M i).getD j 0)).l,(qc ((M i).getD j 0)).t,W .u32 (qc ((M i).getD j 0)).m⟩)
   ⟨qa6 _ _,by omega,fun i hi=>qbf hi,fun i hi=>by rw [qag,hl i hi],fun _ _=>by omega,fun i hi j hj=>qat (gm i hi j hj)⟩ (fun _ _=>true)
   (fun i hi j hj=>qvalid_call true ⟨fun _=>qc_can _,fun _=>rfl⟩ (qas _) (qas _)
    (by have:=hq i hi _ (List.mem_of_getElem? (gm i hi j hj)); show nl ((M i).getD j 0).num.natAbs<=_; have:=this.1; omega)
    (by have:=hq i hi _ (List.mem_of_getElem? (gm i hi j hj)); show nl (((M i).getD j 0).den:Int).natAbs<=_; rw [Int.natAbs_natCast]; have:=this.2; omega))
   true ⟨fun _ i hi=>⟨rfl,fun _ _=>rfl⟩,fun _=>rfl⟩
 exact mxm_walk hsan V0 V1 V2 a b c d hc cma cmb c1 c2 crow (by rw [qag,lD,hm]) c3 c4 s1 s2 k1 k2 s3 k3 k4 s4 k5
theorem mxm_row (hsan:ACall Tryz.prog 11 [] ⟨[.val (tb true)],[]⟩) (tss:List (List Tree)) (h:okAll [.arr 3 raw11,.arr 4 (.int .u8)] tss) :
  ACall Tryz.prog 10 ((tvs [.arr 3 raw11,.arr 4 (.int .u8)] tss).map .val) ⟨[.val (tb true)],[none,none]⟩:=by
 obtain ⟨_,_,rfl,⟨_,_,rfl,⟨_,_,rfl,⟨cp,rows,rfl,hlen,hr⟩,rfl⟩,_,_,rfl,⟨_,_,rfl,⟨cq,rows2,rfl,hlen2,hr2⟩,rfl⟩,_,_,rfl,⟨_,_,rfl,⟨cr,rows3,rfl,hlen3,hr3⟩,rfl⟩,rfl⟩,_,_,rfl,⟨_,_,rfl,⟨a,rfl,ha⟩,_,_,rfl,⟨b,rfl,hb⟩,_,_,rfl,⟨c,rfl,hc⟩,_,_,rfl,⟨d,rfl,hd⟩,rfl⟩,rfl⟩:=h
 obtain ⟨V,rfl,hV⟩:=ints8_ok rows hr
 obtain ⟨U,rfl,hU⟩:=ints8_ok rows2 hr2
 obtain ⟨X,rfl,hX⟩:=ints8_ok rows3 hr3
 have ha:=bd_u8 ha
 have hb:=bd_u8 hb
 have hc:=bd_u8 hc
 have hd:=bd_u8 hd
 rw [qaj] at hlen hlen2 hlen3
 have k:=mxm_call hsan V U X hV (by omega) hU (by omega) hX (by omega) a.toNat b.toNat c.toNat d.toNat (by omega) (by omega) (by omega) (by omega)
 rw [Int.toNat_of_nonneg ha.1,Int.toNat_of_nonneg hb.1,Int.toNat_of_nonneg hc.1,Int.toNat_of_nonneg hd.1] at k
 have ht:TsLe [.lst cp (W .i8 V),.lst cq (W .i8 U),.lst cr (W .i8 X)] [.lst false (W .i8 V),.lst false (W .i8 U),.lst false (W .i8 X)]:=⟨.drop _ _,.drop _ _,.drop _ _,trivial⟩
 have hle:ArgsLe [.val (.agg [.lst cp (W .i8 V),.lst cq (W .i8 U),.lst cr (W .i8 X)]),.val (.agg [.v (.int .u8 a),.v (.int .u8 b),.v (.int .u8 c),.v (.int .u8 d)])] [.val (.agg [.lst false (W .i8 V),.lst false (W .i8 U),.lst false (W .i8 X)]),.val (.agg [.v (.int .u8 a),.v (.int .u8 b),.v (.int .u8 c),.v (.int .u8 d)])]:=⟨ht,TsLe.refl _,trivial⟩
 exact ACall.weak hle (ResLe.refl _) k
end Go.Proofs.YtjfmkcmepdedaaaGreat
end
section
namespace Go.Abs
mutual
def eqT:Tree->Tree->Bool
 | .v x,.v y=>match x,y with
  | .int k a,.int k' b=>decide (k=k') && decide (a=b)
  | .bool a,.bool b=>decide (a=b)
  | .string a,.string b=>decide (a.data.toList=b.data.toList)
  | .func (.func f) ⟨[]⟩ ⟨[]⟩,.func (.func g) ⟨[]⟩ ⟨[]⟩=>decide (f=g)
  | _,_=>false
 | .lst c l,.lst c' l'=>decide (c=c') && eqRR l l'
 | _,_=>false
def eqTs:List Tree->List Tree->Bool
 | [],[]=>true
 | x :: xs,y :: ys=>eqT x y && eqTs xs ys
 | _,_=>false
def eqRR:List (List Tree)->List (List Tree)->Bool
 | [],[]=>true
 | x :: xs,y :: ys=>eqTs x y && eqRR xs ys
 | _,_=>false
end
mutual
theorem eqT_eq:∀ {x y:Tree},eqT x y=true->x=y
 | .v x,.v y,h=>by
  unfold eqT at h
  split at h
  ·simp only [Bool.and_eq_true,decide_eq_true_eq] at h; rw [h.1,h.2]
  ·rw [of_decide_eq_true h]
  ·rename_i a b
   have:=of_decide_eq_true h
   have e:a=b:=by
    cases a with | mk da=>cases b with | mk db=>exact congrArg ByteArray.mk (Array.ext' this)
   rw [e]
  ·rw [of_decide_eq_true h]
  ·cases h
 | .lst c l,.lst c' l',h=>by
  unfold eqT at h
  simp only [Bool.and_eq_true,decide_eq_true_eq] at h
  rw [h.1,eqRR_eq h.2]
 | .v _,.lst _ _,h=>by unfold eqT at h; cases h
 | .lst _ _,.v _,h=>by unfold eqT at h; cases h
theorem eqTs_eq:∀ {x y:List Tree},eqTs x y=true->x=y
 | [],[],_=>rfl
 | x :: xs,y :: ys,h=>by
  unfold eqTs at h
  simp only [Bool.and_eq_true] at h
  rw [eqT_eq h.1,eqTs_eq h.2]
 | [],_ :: _,h=>by unfold eqTs at h; cases h
 | _ :: _,[],h=>by unfold eqTs at h; cases h
theorem eqRR_eq:∀ {x y:List (List Tree)},eqRR x y=true->x=y
 | [],[],_=>rfl
 | x :: xs,y :: ys,h=>by
  unfold eqRR at h
  simp only [Bool.and_eq_true] at h
  rw [eqTs_eq h.1,eqRR_eq h.2]
 | [],_ :: _,h=>by unfold eqRR at h; cases h
 | _ :: _,[],h=>by unfold eqRR at h; cases h
end
def eqArg:Arg->Arg->Bool
 | .val (.c x),.val (.c y)=>eqT x y
 | .val (.agg x),.val (.agg y)=>eqTs x y
 | .bor s x,.bor s' y=>decide (s=s') && eqRR x y
 | .own s x,.own s' y=>decide (s=s') && eqRR x y
 | .ref x,.ref y=>eqTs x y
 | .gh x,.gh y=>eqTs x y
 | .clo f x,.clo g y=>decide (f=g) && decide (x=y)
 | _,_=>false
theorem eqArg_eq {x y:Arg} (h:eqArg x y=true):x=y:=by
 unfold eqArg at h
 split at h
 ·rw [eqT_eq h]
 ·rw [eqTs_eq h]
 ·simp only [Bool.and_eq_true,decide_eq_true_eq] at h; rw [h.1,eqRR_eq h.2]
 ·simp only [Bool.and_eq_true,decide_eq_true_eq] at h; rw [h.1,eqRR_eq h.2]
 ·rw [eqTs_eq h]
 ·rw [eqTs_eq h]
 ·simp only [Bool.and_eq_true,decide_eq_true_eq] at h; rw [h.1,h.2]
 ·cases h
def eqArgs:List Arg->List Arg->Bool
 | [],[]=>true
 | x :: xs,y :: ys=>eqArg x y && eqArgs xs ys
 | _,_=>false
theorem eqArgs_eq:∀ {x y:List Arg},eqArgs x y=true->x=y
 | [],[],_=>rfl
 | x :: xs,y :: ys,h=>by
  unfold eqArgs at h
  simp only [Bool.and_eq_true] at h
  rw [eqArg_eq h.1,eqArgs_eq h.2]
 | [],_ :: _,h=>by cases h
 | _ :: _,[],h=>by cases h
def eqL3 (l m:List (Nat × Nat × Nat)):Bool:=decide (l=m)
def eqC:Cell->Cell->Bool
 | .t x,.t y=>eqT x y
 | .ptr b r c,.ptr b' r' c'=>decide (b=b') && decide (r=r') && decide (c=c')
 | .tp l c,.tp l' c'=>eqTs l l' && decide (c=c')
 | .sl b o n c,.sl b' o' n' c'=>decide (b=b') && decide (o=o') && decide (n=n') && decide (c=c')
 | .mp b,.mp b'=>decide (b=b')
 | .clo f l,.clo g m=>decide (f=g) && eqL3 l m
 | _,_=>false
def eqCs:List Cell->List Cell->Bool
 | [],[]=>true
 | x :: xs,y :: ys=>eqC x y && eqCs xs ys
 | _,_=>false
def eqAV:AV->AV->Bool
 | .c x,.c y=>eqC x y
 | .agg x,.agg y=>eqCs x y
 | .junk,.junk=>true
 | _,_=>false
def eqAVs:List AV->List AV->Bool
 | [],[]=>true
 | x :: xs,y :: ys=>eqAV x y && eqAVs xs ys
 | _,_=>false
def eqB:Option Blk->Option Blk->Bool
 | none,none=>true
 | some (.var x),some (.var y)=>eqCs x y
 | some (.rows s l g z),some (.rows s' l' g' z')=>decide (s=s') && eqRR l l' && decide (g=g') && decide (z=z')
 | some (.old s l),some (.old s' l')=>decide (s=s') && eqRR l l'
 | _,_=>false
def eqH:Heap->Heap->Bool
 | [],[]=>true
 | x :: xs,y :: ys=>eqB x y && eqH xs ys
 | _,_=>false
theorem eqC_eq {x y:Cell} (h:eqC x y=true):x=y:=by
 unfold eqC at h
 split at h
 ·rw [eqT_eq h]
 ·simp only [Bool.and_eq_true,decide_eq_true_eq] at h; obtain ⟨⟨rfl,rfl⟩,rfl⟩:=h; rfl
 ·simp only [Bool.and_eq_true,decide_eq_true_eq] at h; rw [eqTs_eq h.1,h.2]
 ·simp only [Bool.and_eq_true,decide_eq_true_eq] at h; obtain ⟨⟨⟨rfl,rfl⟩,rfl⟩,rfl⟩:=h; rfl
 ·rw [of_decide_eq_true h]
 ·simp only [Bool.and_eq_true,decide_eq_true_eq,eqL3] at h; rw [h.1,h.2]
 ·cases h
theorem eqCs_eq:∀ {x y:List Cell},eqCs x y=true->x=y
 | [],[],_=>rfl
 | x :: xs,y :: ys,h=>by
  unfold eqCs at h
  simp only [Bool.and_eq_true] at h
  rw [eqC_eq h.1,eqCs_eq h.2]
 | [],_ :: _,h=>by cases h
 | _ :: _,[],h=>by cases h
theorem eqAV_eq {x y:AV} (h:eqAV x y=true):x=y:=by
 unfold eqAV at h
 split at h
 ·rw [eqC_eq h]
 ·rw [eqCs_eq h]
 ·rfl
 ·cases h
theorem eqAVs_eq:∀ {x y:List AV},eqAVs x y=true->x=y
 | [],[],_=>rfl
 | x :: xs,y :: ys,h=>by
  unfold eqAVs at h
  simp only [Bool.and_eq_true] at h
  rw [eqAV_eq h.1,eqAVs_eq h.2]
 | [],_ :: _,h=>by cases h
 | _ :: _,[],h=>by cases h
theorem eqB_eq {x y:Option Blk} (h:eqB x y=true):x=y:=by
 unfold eqB at h
 split at h
 ·rfl
 ·rw [eqCs_eq h]
 ·simp only [Bool.and_eq_true,decide_eq_true_eq] at h; obtain ⟨⟨⟨rfl,h2⟩,rfl⟩,rfl⟩:=h; rw [eqRR_eq h2]
 ·simp only [Bool.and_eq_true,decide_eq_true_eq] at h; obtain ⟨rfl,h2⟩:=h; rw [eqRR_eq h2]
 ·cases h
theorem eqH_eq:∀ {x y:Heap},eqH x y=true->x=y
 | [],[],_=>rfl
 | x :: xs,y :: ys,h=>by
  unfold eqH at h
  simp only [Bool.and_eq_true] at h
  rw [eqB_eq h.1,eqH_eq h.2]
 | [],_ :: _,h=>by cases h
 | _ :: _,[],h=>by cases h
def eqAsk:Ask->Ask->Bool
 | .a x,.a y=>eqArgs x y
 | .h ⟨t,m⟩,.h ⟨t',m'⟩=>eqAVs t t' && eqH m m'
 | _,_=>false
theorem eqAsk_eq {x y:Ask} (h:eqAsk x y=true):x=y:=by
 unfold eqAsk at h
 split at h
 ·rw [eqArgs_eq h]
 ·simp only [Bool.and_eq_true] at h; rw [eqAVs_eq h.1,eqH_eq h.2]
 ·cases h
inductive Known (P:Program):List (FuncId × Ask × Ans)->Prop where
 | nil:Known P []
 | cons {f:FuncId} {x:Ask} {y:Ans} {l:List (FuncId × Ask × Ans)} (h:Shows P f x y) (t:Known P l):Known P ((f,x,y) :: l)
def findK:List (FuncId × Ask × Ans)->FuncId->Ask->Option Ans
 | [],_,_=>none
 | (f,x,r) :: l,g,y=>match Nat.beq f g with
  | true=>match eqAsk x y with
   | true=>some r
   | false=>findK l g y
  | false=>findK l g y
theorem Known.find {P:Program} {l:List (FuncId × Ask × Ans)} (h:Known P l):∀ f x y,findK l f x=some y->Shows P f x y:=by
 induction h with
 | nil=>intro f x y h; cases h
 | cons h t ih=>
  rename_i f x r l
  intro g y res hr
  unfold findK at hr
  split at hr
  ·rename_i h1
   split at hr
   ·rename_i h2
    cases hr
    obtain rfl:=Nat.eq_of_beq_eq_true h1
    obtain rfl:=eqAsk_eq h2
    exact h
   ·exact ih _ _ _ hr
  ·exact ih _ _ _ hr
theorem execBody_sound {P:Program} {C:Cfg} {om:FuncId->List Mode} (hC:CfgOk P C) (hmix:P.follows .mixedOrders=true) {l:List (FuncId × Ask × Ans)} (hl:Known P l) {n:Nat} {f:FuncId} {x:Ask} {y:Ans}
  (h:execAsk P C om (findK l) n f x=some y):Shows P f x y:=execAsk_sound hC hmix hl.find h
end Go.Abs
end
section
namespace Go.Proofs.YtjfmkcmepdedaaaGreat.Mem
open Go Go.Abs Go.Proofs
def u (n:Int):List Tree:=[.v (.int .u32 n)]
def n64 (n:Int):Tree:=.v (.int .i64 n)
def w64 (n:Int):Tree:=.v (.int .u64 n)
def bT:Tree:=.v (.bool true)
def bF:Tree:=.v (.bool false)
def lF (l:List (List Tree)):Tree:=.lst false l
def lT (l:List (List Tree)):Tree:=.lst true l
def l1:Tree:=.lst false [u 1]
def o0:List Tree:=[bF,lF [],bF,l1]
def o1:List Tree:=[bF,l1,bF,l1]
def o2:List Tree:=[bT,l1,bF,l1]
def w (n:Int):List Tree:=[bF,lF [u n],bF,l1]
def v (n:Int):List Tree:=[bT,lF [u n],bF,l1]
abbrev AC (f:FuncId) (a:List Arg) (r:List RC) (o:List (Option Blk)):Prop:=Shows Tryz.prog f (.a a) (.a ⟨r,o⟩)
abbrev x (t:Tree):Arg:=.val (.c t)
abbrev y (t:Tree):RC:=.val (.c t)
abbrev g (l:List Tree):Arg:=.val (.agg l)
abbrev h (l:List Tree):RC:=.val (.agg l)
abbrev n1:List (Option Blk):=[none]
abbrev n2:List (Option Blk):=[none,none]
abbrev n4:List (Option Blk):=[none,none,none,none]
section
variable {P:Program} {l:List (FuncId × Abs.Ask × Abs.Ans)} {f1 f2 f3 f4:FuncId} {a1 a2 a3 a4:Abs.Ask} {r1 r2 r3 r4:Abs.Ans}
theorem c1 (h1:Shows P f1 a1 r1):Known P [(f1,a1,r1)]:=.cons h1 .nil
theorem c2 (h1:Shows P f1 a1 r1) (h2:Shows P f2 a2 r2):Known P [(f1,a1,r1),(f2,a2,r2)]:=.cons h1 (c1 h2)
theorem c3 (h1:Shows P f1 a1 r1) (h2:Shows P f2 a2 r2) (h3:Shows P f3 a3 r3):Known P [(f1,a1,r1),(f2,a2,r2),(f3,a3,r3)]:=.cons h1 (c2 h2 h3)
theorem c4 (h1:Shows P f1 a1 r1) (h2:Shows P f2 a2 r2) (h3:Shows P f3 a3 r3) (h4:Shows P f4 a4 r4):Known P [(f1,a1,r1),(f2,a2,r2),(f3,a3,r3),(f4,a4,r4)]:=.cons h1 (c3 h2 h3 h4)
theorem d4 (h1:Shows P f1 a1 r1) (h2:Shows P f2 a2 r2) (h3:Shows P f3 a3 r3) (h4:Shows P f4 a4 r4) (t:Known P l):Known P ((f1,a1,r1) :: (f2,a2,r2) :: (f3,a3,r3) :: (f4,a4,r4) :: l):=.cons h1 (.cons h2 (.cons h3 (.cons h4 t)))
end
noncomputable def om:FuncId->List Abs.Mode:=omOf Tryz.prog [(60,[.own 4]),(88,[.own 4]),(56,[.own 4]),(107,[.own 4]),(110,[.own 4]),(115,[.own 4]),(74,[.own 4])]
theorem ex {l:List (FuncId × Abs.Ask × Abs.Ans)} {f:FuncId} {x:Abs.Ask} {y:Abs.Ans} (hl:Known Tryz.prog l) (h:execAsk Tryz.prog CC om (findK l) 100000 f x=some y):Shows Tryz.prog f x y:=execBody_sound ccOk mixed hl h
theorem k0:AC 143 [x (lF [u 1,u 0])] [y l1] n1:=ex .nil (by kernel_rfl)
theorem k1:AC 129 [x (w64 1)] [y l1] n1:=ex (c1 k0) (by kernel_rfl)
theorem k2:AC 143 [x l1] [y l1] n1:=ex .nil (by kernel_rfl)
theorem k3:AC 128 [x bF,x l1] [h [bF,l1]] n2:=ex (c1 k2) (by kernel_rfl)
theorem k4:AC 101 [x (n64 1)] [h [bF,l1]] n1:=ex (c2 k1 k3) (by kernel_rfl)
theorem k5:AC 53 [x (n64 1)] [h o1] n1:=ex (c1 k4) (by kernel_rfl)
theorem k6:AC 143 [x (lF [u 2,u 0])] [y (lF [u 2])] n1:=ex .nil (by kernel_rfl)
theorem k7:AC 129 [x (w64 2)] [y (lF [u 2])] n1:=ex (c1 k6) (by kernel_rfl)
theorem k8:AC 143 [x (lF [u 2])] [y (lF [u 2])] n1:=ex .nil (by kernel_rfl)
theorem k9:AC 128 [x bF,x (lF [u 2])] [h [bF,lF [u 2]]] n2:=ex (c1 k8) (by kernel_rfl)
theorem k10:AC 101 [x (n64 2)] [h [bF,lF [u 2]]] n1:=ex (c2 k7 k9) (by kernel_rfl)
theorem k11:AC 53 [x (n64 2)] [h (w 2)] n1:=ex (c2 k10 k4) (by kernel_rfl)
theorem k12:AC 143 [x (lF [u 3,u 0])] [y (lF [u 3])] n1:=ex .nil (by kernel_rfl)
theorem k13:AC 129 [x (w64 3)] [y (lF [u 3])] n1:=ex (c1 k12) (by kernel_rfl)
theorem k14:AC 143 [x (lF [u 3])] [y (lF [u 3])] n1:=ex .nil (by kernel_rfl)
theorem k15:AC 128 [x bF,x (lF [u 3])] [h [bF,lF [u 3]]] n2:=ex (c1 k14) (by kernel_rfl)
theorem k16:AC 101 [x (n64 3)] [h [bF,lF [u 3]]] n1:=ex (c2 k13 k15) (by kernel_rfl)
theorem k17:AC 53 [x (n64 3)] [h (w 3)] n1:=ex (c2 k16 k4) (by kernel_rfl)
theorem k18:AC 143 [x (lF [u 4,u 0])] [y (lF [u 4])] n1:=ex .nil (by kernel_rfl)
theorem k19:AC 129 [x (w64 4)] [y (lF [u 4])] n1:=ex (c1 k18) (by kernel_rfl)
theorem k20:AC 143 [x (lF [u 4])] [y (lF [u 4])] n1:=ex .nil (by kernel_rfl)
theorem k21:AC 128 [x bF,x (lF [u 4])] [h [bF,lF [u 4]]] n2:=ex (c1 k20) (by kernel_rfl)
theorem k22:AC 101 [x (n64 4)] [h [bF,lF [u 4]]] n1:=ex (c2 k19 k21) (by kernel_rfl)
theorem k23:AC 53 [x (n64 4)] [h (w 4)] n1:=ex (c2 k22 k4) (by kernel_rfl)
theorem k24:AC 50 [x (lF [[n64 1],[n64 2],[n64 3],[n64 4]])] [y (lF [[lF [o1,(w 2)]],[lF [(w 3),(w 4)]]])] n1:=ex (c4 k5 k11 k17 k23) (by kernel_rfl)
theorem k25:AC 143 [x (lF [u 5,u 0])] [y (lF [u 5])] n1:=ex .nil (by kernel_rfl)
theorem k26:AC 129 [x (w64 5)] [y (lF [u 5])] n1:=ex (c1 k25) (by kernel_rfl)
theorem k27:AC 143 [x (lF [u 5])] [y (lF [u 5])] n1:=ex .nil (by kernel_rfl)
theorem k28:AC 128 [x bF,x (lF [u 5])] [h [bF,lF [u 5]]] n2:=ex (c1 k27) (by kernel_rfl)
theorem k29:AC 101 [x (n64 5)] [h [bF,lF [u 5]]] n1:=ex (c2 k26 k28) (by kernel_rfl)
theorem k30:AC 53 [x (n64 5)] [h (w 5)] n1:=ex (c2 k29 k4) (by kernel_rfl)
theorem k31:AC 143 [x (lF [u 6,u 0])] [y (lF [u 6])] n1:=ex .nil (by kernel_rfl)
theorem k32:AC 129 [x (w64 6)] [y (lF [u 6])] n1:=ex (c1 k31) (by kernel_rfl)
theorem k33:AC 143 [x (lF [u 6])] [y (lF [u 6])] n1:=ex .nil (by kernel_rfl)
theorem k34:AC 128 [x bF,x (lF [u 6])] [h [bF,lF [u 6]]] n2:=ex (c1 k33) (by kernel_rfl)
theorem k35:AC 101 [x (n64 6)] [h [bF,lF [u 6]]] n1:=ex (c2 k32 k34) (by kernel_rfl)
theorem k36:AC 53 [x (n64 6)] [h (w 6)] n1:=ex (c2 k35 k4) (by kernel_rfl)
theorem k37:AC 51 [x (lF [[n64 5],[n64 6]])] [y (lF [(w 5),(w 6)])] n1:=ex (c2 k30 k36) (by kernel_rfl)
theorem k38:Shows Tryz.prog 80 (.h ⟨[.c (.t (lF [[lF [o1,(w 2)]],[lF [(w 3),(w 4)]]]))],[]⟩) (.h ⟨[.c (.t (n64 2))],[]⟩):=ex (.nil) (by kernel_rfl)
theorem k39:AC 56 [x (lF [o1,(w 2)])] [.own 4 [o1,(w 2)]] n1:=ex .nil (by kernel_rfl)
theorem k40:AC 56 [x (lF [(w 3),(w 4)])] [.own 4 [(w 3),(w 4)]] n1:=ex .nil (by kernel_rfl)
theorem k41:AC 56 [.bor 4 [o1,(w 2),(w 5)]] [.own 4 [o1,(w 2),(w 5)]] [some (.rows 4 [o1,(w 2),(w 5)] false false)]:=ex .nil (by kernel_rfl)
theorem k42:AC 56 [.bor 4 [(w 3),(w 4),(w 6)]] [.own 4 [(w 3),(w 4),(w 6)]] [some (.rows 4 [(w 3),(w 4),(w 6)] false false)]:=ex .nil (by kernel_rfl)
theorem k43:Shows Tryz.prog 55 (.h ⟨[.c (.sl 0 0 2 false),.c (.t (.v (.func (.func 56) #[] #[])))],[some (.var [.sl 1 0 3 false,.sl 2 0 3 false]),some (.rows 4 [o1,(w 2),(w 5)] true false),some (.rows 4 [(w 3),(w 4),(w 6)] true false)]⟩) (.h ⟨[.c (.sl 3 0 2 false)],[some (.var [.sl 1 0 3 false,.sl 2 0 3 false]),some (.rows 4 [o1,(w 2),(w 5)] true false),some (.rows 4 [(w 3),(w 4),(w 6)] true false),some (.var [.sl 4 0 3 false,.sl 5 0 3 false]),some (.rows 4 [o1,(w 2),(w 5)] true false),some (.rows 4 [(w 3),(w 4),(w 6)] true false)]⟩):=ex (.cons k41 (.cons k42 .nil)) (by kernel_rfl)
theorem k44:Shows Tryz.prog 80 (.h ⟨[.c (.sl 0 0 2 false)],[some (.var [.sl 1 0 3 false,.sl 2 0 3 false]),some (.rows 4 [o1,(w 2),(w 5)] true false),some (.rows 4 [(w 3),(w 4),(w 6)] true false)]⟩) (.h ⟨[.c (.t (n64 3))],[some (.var [.sl 1 0 3 false,.sl 2 0 3 false]),some (.rows 4 [o1,(w 2),(w 5)] true false),some (.rows 4 [(w 3),(w 4),(w 6)] true false)]⟩):=ex (.nil) (by kernel_rfl)
theorem k45:AC 84 [g [bF,l1]] [y (n64 1)] n1:=ex .nil (by kernel_rfl)
theorem k46:AC 36 [g o1] [y (n64 1)] n1:=ex (c1 k45) (by kernel_rfl)
theorem k47:Shows Tryz.prog 57 (.h ⟨[.c (.sl 0 0 2 false),.c (.t (n64 0)),.c (.t (n64 0))],[some (.var [.sl 1 0 3 false,.sl 2 0 3 false]),some (.rows 4 [o1,(w 2),(w 5)] true false),some (.rows 4 [(w 3),(w 4),(w 6)] true false)]⟩) (.h ⟨[.c (.t (n64 0))],[some (.var [.sl 1 0 3 false,.sl 2 0 3 false]),some (.rows 4 [o1,(w 2),(w 5)] true false),some (.rows 4 [(w 3),(w 4),(w 6)] true false)]⟩):=ex (.cons k46 .nil) (by kernel_rfl)
theorem k48:AC 87 [g o1] [h o1,y (n64 0)] n1:=ex (c1 k45) (by kernel_rfl)
theorem k49:AC 118 [g [bF,l1]] [y bT] n1:=ex .nil (by kernel_rfl)
theorem k50:AC 82 [g [bF,l1],g [bF,l1]] [h o1] n2:=ex (c1 k49) (by kernel_rfl)
theorem k51:AC 137 [x (lF [u 1,u 0])] [y l1] n1:=ex .nil (by kernel_rfl)
theorem k52:AC 125 [x (w64 1)] [y l1] n1:=ex (c1 k51) (by kernel_rfl)
theorem k53:AC 137 [x l1] [y l1] n1:=ex .nil (by kernel_rfl)
theorem k54:AC 122 [x bF,x l1] [h [bF,l1]] n2:=ex (c1 k53) (by kernel_rfl)
theorem k55:AC 92 [x (n64 1)] [h [bF,l1]] n1:=ex (c2 k52 k54) (by kernel_rfl)
theorem k56:AC 83 [x (lF [[bF,l1],[bF,l1]])] [h [bF,l1]] n1:=ex (c2 k55 k49) (by kernel_rfl)
theorem k57:AC 35 [g o1,g o1] [h o1] n2:=ex (c2 k50 k56) (by kernel_rfl)
theorem k58:AC 108 [g o1,.ref o1] [h o1] [none,some (.var [.t (bF),.t (l1),.t (bF),.t (l1)])]:=ex (c1 k57) (by kernel_rfl)
theorem k59:AC 82 [g [bF,lF [u 2]],g [bF,l1]] [h (w 2)] n2:=ex (c1 k49) (by kernel_rfl)
theorem k60:AC 118 [g [bF,lF [u 2]]] [y bF] n1:=ex .nil (by kernel_rfl)
theorem k61:AC 83 [x (lF [[bF,l1],[bF,lF [u 2]]])] [h [bF,lF [u 2]]] n1:=ex (c3 k55 k49 k60) (by kernel_rfl)
theorem k62:AC 35 [g o1,g (w 2)] [h (w 2)] n2:=ex (c4 k50 k59 k61 k56) (by kernel_rfl)
theorem k63:AC 108 [g (w 2),.ref o1] [h (w 2)] [none,some (.var [.t (bF),.t (l1),.t (bF),.t (l1)])]:=ex (c1 k62) (by kernel_rfl)
theorem k64:AC 82 [g [bF,lF [u 5]],g [bF,l1]] [h (w 5)] n2:=ex (c1 k49) (by kernel_rfl)
theorem k65:AC 118 [g [bF,lF [u 5]]] [y bF] n1:=ex .nil (by kernel_rfl)
theorem k66:AC 83 [x (lF [[bF,l1],[bF,lF [u 5]]])] [h [bF,lF [u 5]]] n1:=ex (c3 k55 k49 k65) (by kernel_rfl)
theorem k67:AC 35 [g o1,g (w 5)] [h (w 5)] n2:=ex (c4 k50 k64 k66 k56) (by kernel_rfl)
theorem k68:AC 108 [g (w 5),.ref o1] [h (w 5)] [none,some (.var [.t (bF),.t (l1),.t (bF),.t (l1)])]:=ex (c1 k67) (by kernel_rfl)
theorem k69:AC 107 [x (lF [o1,(w 2),(w 5)]),.clo 108 [(2,(0,0))],.gh o1] [.own 4 [o1,(w 2),(w 5)]] [none,none,some (.var [.t (bF),.t (l1),.t (bF),.t (l1)])]:=ex (c3 k58 k63 k68) (by kernel_rfl)
theorem k70:Shows Tryz.prog 58 (.h ⟨[.c (.sl 0 0 0 false),.c (.sl 1 0 3 false),.c (.t (n64 0))],[some (.var [.sl 1 0 3 false,.sl 2 0 3 false]),some (.rows 4 [o1,(w 2),(w 5)] true false),some (.rows 4 [(w 3),(w 4),(w 6)] true false)]⟩) (.h ⟨[],[some (.var [.sl 1 0 3 false,.sl 2 0 3 false]),some (.rows 4 [o1,(w 2),(w 5)] true false),some (.rows 4 [(w 3),(w 4),(w 6)] true false)]⟩):=ex (.nil) (by kernel_rfl)
theorem k71:AC 84 [g [bF,lF [u 3]]] [y (n64 1)] n1:=ex .nil (by kernel_rfl)
theorem k72:AC 36 [g (w 3)] [y (n64 1)] n1:=ex (c1 k71) (by kernel_rfl)
theorem k73:AC 82 [g [bF,lF [u 3]],g [bF,l1]] [h (w 3)] n2:=ex (c1 k49) (by kernel_rfl)
theorem k74:AC 118 [g [bF,lF [u 3]]] [y bF] n1:=ex .nil (by kernel_rfl)
theorem k75:AC 83 [x (lF [[bF,lF [u 3]],[bF,l1]])] [h [bF,lF [u 3]]] n1:=ex (c3 k55 k74 k49) (by kernel_rfl)
theorem k76:AC 35 [g (w 3),g o1] [h (w 3)] n2:=ex (c4 k73 k50 k75 k56) (by kernel_rfl)
theorem k77:AC 105 [g (w 3),g o1] [h (w 3),y (n64 0)] n2:=ex (c2 k48 k76) (by kernel_rfl)
theorem k78:AC 123 [x (lF [u 3])] [y (lF [u 3])] n1:=ex .nil (by kernel_rfl)
theorem k79:AC 137 [x (lF [u 3])] [y (lF [u 3])] n1:=ex .nil (by kernel_rfl)
theorem k80:AC 122 [x bT,x (lF [u 3])] [h [bT,lF [u 3]]] n2:=ex (c1 k79) (by kernel_rfl)
theorem k81:AC 85 [g [bF,lF [u 3]]] [h [bT,lF [u 3]]] n1:=ex (c2 k78 k80) (by kernel_rfl)
theorem k82:AC 38 [g (w 3)] [h (v 3)] n1:=ex (c1 k81) (by kernel_rfl)
theorem k83:AC 118 [g [bT,lF [u 3]]] [y bF] n1:=ex .nil (by kernel_rfl)
theorem k84:AC 83 [x (lF [[bT,lF [u 3]],[bF,l1]])] [h [bT,lF [u 3]]] n1:=ex (c3 k55 k83 k49) (by kernel_rfl)
theorem k85:AC 136 [x (lF [u 3]),x (lF [u 3])] [y (n64 0)] n2:=ex .nil (by kernel_rfl)
theorem k86:AC 137 [x (lF [u 0])] [y (lF [])] n1:=ex .nil (by kernel_rfl)
theorem k87:AC 141 [x (lF [u 3]),x (lF [u 3])] [y (lF [])] n2:=ex (c1 k86) (by kernel_rfl)
theorem k88:AC 137 [x (lF [])] [y (lF [])] n1:=ex .nil (by kernel_rfl)
theorem k89:AC 122 [x bF,x (lF [])] [h [bF,lT []]] n2:=ex (c1 k88) (by kernel_rfl)
theorem k90:AC 124 [g [bF,lF [u 3]],g [bT,lF [u 3]]] [h [bF,lT []]] n2:=ex (c3 k85 k87 k89) (by kernel_rfl)
theorem k91:AC 82 [g [bF,lT []],g [bF,l1]] [h [bF,lT [],bF,l1]] n2:=ex (c1 k49) (by kernel_rfl)
theorem k92:AC 86 [g (w 3),g (v 3)] [h [bF,lT [],bF,l1]] n2:=ex (d4 k75 k84 k90 k56 (c1 k91)) (by kernel_rfl)
theorem k93:AC 126 [g (w 3),g (w 3)] [h [bF,lT [],bF,l1]] n2:=ex (c2 k82 k92) (by kernel_rfl)
theorem k94:AC 84 [g [bF,lF [u 2]]] [y (n64 1)] n1:=ex .nil (by kernel_rfl)
theorem k95:AC 36 [g (w 2)] [y (n64 1)] n1:=ex (c1 k94) (by kernel_rfl)
theorem k96:AC 137 [x (lF [u 6,u 0])] [y (lF [u 6])] n1:=ex .nil (by kernel_rfl)
theorem k97:AC 142 [x (lF [u 3]),x (lF [u 2])] [y (lF [u 6])] n2:=ex (c1 k96) (by kernel_rfl)
theorem k98:AC 137 [x (lF [u 6])] [y (lF [u 6])] n1:=ex .nil (by kernel_rfl)
theorem k99:AC 122 [x bF,x (lF [u 6])] [h [bF,lF [u 6]]] n2:=ex (c1 k98) (by kernel_rfl)
theorem k100:AC 121 [g [bF,lF [u 3]],g [bF,lF [u 2]]] [h [bF,lF [u 6]]] n2:=ex (c2 k97 k99) (by kernel_rfl)
theorem k101:AC 83 [x (lF [[bF,lF [u 3]],[bF,lF [u 2]]])] [h [bF,lF [u 6]]] n1:=ex (d4 k55 k74 k49 k60 (c1 k100)) (by kernel_rfl)
theorem k102:AC 35 [g (w 3),g (w 2)] [h (w 6)] n2:=ex (c4 k73 k59 k101 k56) (by kernel_rfl)
theorem k103:AC 123 [x (lF [u 6])] [y (lF [u 6])] n1:=ex .nil (by kernel_rfl)
theorem k104:AC 122 [x bT,x (lF [u 6])] [h [bT,lF [u 6]]] n2:=ex (c1 k98) (by kernel_rfl)
theorem k105:AC 85 [g [bF,lF [u 6]]] [h [bT,lF [u 6]]] n1:=ex (c2 k103 k104) (by kernel_rfl)
theorem k106:AC 38 [g (w 6)] [h (v 6)] n1:=ex (c1 k105) (by kernel_rfl)
theorem k107:AC 118 [g [bF,lF [u 4]]] [y bF] n1:=ex .nil (by kernel_rfl)
theorem k108:AC 83 [x (lF [[bF,lF [u 4]],[bF,l1]])] [h [bF,lF [u 4]]] n1:=ex (c3 k55 k107 k49) (by kernel_rfl)
theorem k109:AC 118 [g [bT,lF [u 6]]] [y bF] n1:=ex .nil (by kernel_rfl)
open Go Go.Abs Go.Proofs
theorem k110:AC 83 [x (lF [[bT,lF [u 6]],[bF,l1]])] [h [bT,lF [u 6]]] n1:=ex (c3 k55 k109 k49) (by kernel_rfl)
theorem k111:AC 136 [x (lF [u 4]),x (lF [u 6])] [y (n64 (-1))] n2:=ex .nil (by kernel_rfl)
theorem k112:AC 137 [x (lF [u 2])] [y (lF [u 2])] n1:=ex .nil (by kernel_rfl)
theorem k113:AC 141 [x (lF [u 6]),x (lF [u 4])] [y (lF [u 2])] n2:=ex (c1 k112) (by kernel_rfl)
theorem k114:AC 122 [x bT,x (lF [u 2])] [h [bT,lF [u 2]]] n2:=ex (c1 k112) (by kernel_rfl)
theorem k115:AC 124 [g [bF,lF [u 4]],g [bT,lF [u 6]]] [h [bT,lF [u 2]]] n2:=ex (c3 k111 k113 k114) (by kernel_rfl)
theorem k116:AC 82 [g [bT,lF [u 2]],g [bF,l1]] [h (v 2)] n2:=ex (c1 k49) (by kernel_rfl)
theorem k117:AC 86 [g (w 4),g (v 6)] [h (v 2)] n2:=ex (d4 k108 k110 k115 k56 (c1 k116)) (by kernel_rfl)
theorem k118:AC 126 [g (w 4),g (w 6)] [h (v 2)] n2:=ex (c2 k106 k117) (by kernel_rfl)
theorem k119:AC 84 [g [bF,lF [u 5]]] [y (n64 1)] n1:=ex .nil (by kernel_rfl)
theorem k120:AC 36 [g (w 5)] [y (n64 1)] n1:=ex (c1 k119) (by kernel_rfl)
theorem k121:AC 137 [x (lF [u 15,u 0])] [y (lF [u 15])] n1:=ex .nil (by kernel_rfl)
theorem k122:AC 142 [x (lF [u 3]),x (lF [u 5])] [y (lF [u 15])] n2:=ex (c1 k121) (by kernel_rfl)
theorem k123:AC 137 [x (lF [u 15])] [y (lF [u 15])] n1:=ex .nil (by kernel_rfl)
theorem k124:AC 122 [x bF,x (lF [u 15])] [h [bF,lF [u 15]]] n2:=ex (c1 k123) (by kernel_rfl)
theorem k125:AC 121 [g [bF,lF [u 3]],g [bF,lF [u 5]]] [h [bF,lF [u 15]]] n2:=ex (c2 k122 k124) (by kernel_rfl)
theorem k126:AC 83 [x (lF [[bF,lF [u 3]],[bF,lF [u 5]]])] [h [bF,lF [u 15]]] n1:=ex (d4 k55 k74 k49 k65 (c1 k125)) (by kernel_rfl)
theorem k127:AC 35 [g (w 3),g (w 5)] [h (w 15)] n2:=ex (c4 k73 k64 k126 k56) (by kernel_rfl)
theorem k128:AC 123 [x (lF [u 15])] [y (lF [u 15])] n1:=ex .nil (by kernel_rfl)
theorem k129:AC 122 [x bT,x (lF [u 15])] [h [bT,lF [u 15]]] n2:=ex (c1 k123) (by kernel_rfl)
theorem k130:AC 85 [g [bF,lF [u 15]]] [h [bT,lF [u 15]]] n1:=ex (c2 k128 k129) (by kernel_rfl)
theorem k131:AC 38 [g (w 15)] [h (v 15)] n1:=ex (c1 k130) (by kernel_rfl)
theorem k132:AC 118 [g [bF,lF [u 6]]] [y bF] n1:=ex .nil (by kernel_rfl)
theorem k133:AC 83 [x (lF [[bF,lF [u 6]],[bF,l1]])] [h [bF,lF [u 6]]] n1:=ex (c3 k55 k132 k49) (by kernel_rfl)
theorem k134:AC 118 [g [bT,lF [u 15]]] [y bF] n1:=ex .nil (by kernel_rfl)
theorem k135:AC 83 [x (lF [[bT,lF [u 15]],[bF,l1]])] [h [bT,lF [u 15]]] n1:=ex (c3 k55 k134 k49) (by kernel_rfl)
theorem k136:AC 136 [x (lF [u 6]),x (lF [u 15])] [y (n64 (-1))] n2:=ex .nil (by kernel_rfl)
theorem k137:AC 137 [x (lF [u 9])] [y (lF [u 9])] n1:=ex .nil (by kernel_rfl)
theorem k138:AC 141 [x (lF [u 15]),x (lF [u 6])] [y (lF [u 9])] n2:=ex (c1 k137) (by kernel_rfl)
theorem k139:AC 122 [x bT,x (lF [u 9])] [h [bT,lF [u 9]]] n2:=ex (c1 k137) (by kernel_rfl)
theorem k140:AC 124 [g [bF,lF [u 6]],g [bT,lF [u 15]]] [h [bT,lF [u 9]]] n2:=ex (c3 k136 k138 k139) (by kernel_rfl)
theorem k141:AC 82 [g [bT,lF [u 9]],g [bF,l1]] [h (v 9)] n2:=ex (c1 k49) (by kernel_rfl)
theorem k142:AC 86 [g (w 6),g (v 15)] [h (v 9)] n2:=ex (d4 k133 k135 k140 k56 (c1 k141)) (by kernel_rfl)
theorem k143:AC 126 [g (w 6),g (w 15)] [h (v 9)] n2:=ex (c2 k131 k142) (by kernel_rfl)
theorem k144:AC 94 [.bor 4 [(w 3),(w 4),(w 6)],g (w 3),.bor 4 [o1,(w 2),(w 5)]] [] [some (.rows 4 [[bF,lT [],bF,l1],(v 2),(v 9)] false false),none,some (.rows 4 [o1,(w 2),(w 5)] false false)]:=ex (d4 k72 k46 k76 k93 (d4 k95 k102 k118 k120 (c2 k127 k143))) (by kernel_rfl)
theorem k145:Shows Tryz.prog 58 (.h ⟨[.c (.sl 0 1 1 false),.c (.sl 1 0 3 false),.c (.t (n64 0))],[some (.var [.sl 1 0 3 false,.sl 2 0 3 false]),some (.rows 4 [o1,(w 2),(w 5)] true false),some (.rows 4 [(w 3),(w 4),(w 6)] true false)]⟩) (.h ⟨[],[some (.var [.sl 1 0 3 false,.sl 2 0 3 false]),some (.rows 4 [o1,(w 2),(w 5)] true false),some (.rows 4 [[bF,lT [],bF,l1],(v 2),(v 9)] true false)]⟩):=ex (.cons k72 (.cons k77 (.cons k144 .nil))) (by kernel_rfl)
theorem k146:AC 84 [g [bT,lF [u 2]]] [y (n64 (-1))] n1:=ex .nil (by kernel_rfl)
theorem k147:AC 36 [g (v 2)] [y (n64 (-1))] n1:=ex (c1 k146) (by kernel_rfl)
theorem k148:Shows Tryz.prog 57 (.h ⟨[.c (.sl 0 0 2 false),.c (.t (n64 1)),.c (.t (n64 1))],[some (.var [.sl 1 0 3 false,.sl 2 0 3 false]),some (.rows 4 [o1,(w 2),(w 5)] true false),some (.rows 4 [[bF,lT [],bF,l1],(v 2),(v 9)] true false)]⟩) (.h ⟨[.c (.t (n64 1))],[some (.var [.sl 1 0 3 false,.sl 2 0 3 false]),some (.rows 4 [o1,(w 2),(w 5)] true false),some (.rows 4 [[bF,lT [],bF,l1],(v 2),(v 9)] true false)]⟩):=ex (.cons k147 .nil) (by kernel_rfl)
theorem k149:AC 123 [x l1] [y l1] n1:=ex .nil (by kernel_rfl)
theorem k150:AC 122 [x bT,x l1] [h [bT,l1]] n2:=ex (c1 k53) (by kernel_rfl)
theorem k151:AC 85 [g [bF,l1]] [h [bT,l1]] n1:=ex (c2 k149 k150) (by kernel_rfl)
theorem k152:AC 123 [x (lF [u 2])] [y (lF [u 2])] n1:=ex .nil (by kernel_rfl)
theorem k153:AC 122 [x bF,x (lF [u 2])] [h [bF,lF [u 2]]] n2:=ex (c1 k112) (by kernel_rfl)
theorem k154:AC 85 [g [bT,lF [u 2]]] [h [bF,lF [u 2]]] n1:=ex (c2 k152 k153) (by kernel_rfl)
theorem k155:AC 87 [g (v 2)] [h [bT,l1,bF,lF [u 2]],y (n64 0)] n1:=ex (c3 k146 k151 k154) (by kernel_rfl)
theorem k156:AC 82 [g [bT,l1],g [bF,l1]] [h o2] n2:=ex (c1 k49) (by kernel_rfl)
theorem k157:AC 137 [x (lT [])] [y (lT [])] n1:=ex .nil (by kernel_rfl)
theorem k158:AC 123 [x (lT [])] [y (lT [])] n1:=ex .nil (by kernel_rfl)
theorem k159:AC 138 [x (lT [])] [y (w64 0)] n1:=ex .nil (by kernel_rfl)
theorem k160:AC 138 [x (lF [u 2])] [y (w64 2)] n1:=ex .nil (by kernel_rfl)
theorem k161:AC 137 [x (lF [u 2,u 0])] [y (lF [u 2])] n1:=ex .nil (by kernel_rfl)
theorem k162:AC 125 [x (w64 2)] [y (lF [u 2])] n1:=ex (c1 k161) (by kernel_rfl)
theorem k163:AC 119 [g [bF,lT []],g [bF,lF [u 2]]] [h [bF,lF [u 2]]] n2:=ex (d4 k157 k158 k112 k152 (c4 k159 k160 k162 k153)) (by kernel_rfl)
theorem k164:AC 136 [x (lT []),x (lF [u 2])] [y (n64 (-1))] n2:=ex .nil (by kernel_rfl)
theorem k165:AC 139 [x (lT []),x (lF [u 2])] [y (lT []),y (lT [])] n2:=ex (c4 k157 k112 k164 k158) (by kernel_rfl)
theorem k166:AC 122 [x bF,x (lT [])] [h [bF,lT []]] n2:=ex (c1 k157) (by kernel_rfl)
theorem k167:AC 120 [g [bF,lT []],g [bF,lF [u 2]]] [h [bF,lT []],h [bF,lT []],y (n64 0)] n2:=ex (c3 k112 k165 k166) (by kernel_rfl)
theorem k168:AC 136 [x (lF [u 2]),x (lF [u 2])] [y (n64 0)] n2:=ex .nil (by kernel_rfl)
theorem k169:AC 147 [x (lF [u 2]),x (w64 2)] [y l1,y (w64 0)] n2:=ex (c1 k53) (by kernel_rfl)
theorem k170:AC 137 [x (lF [u 0,u 0])] [y (lF [])] n1:=ex .nil (by kernel_rfl)
theorem k171:AC 125 [x (w64 0)] [y (lF [])] n1:=ex (c1 k170) (by kernel_rfl)
theorem k172:AC 139 [x (lF [u 2]),x (lF [u 2])] [y l1,y (lF [])] n2:=ex (c4 k112 k168 k169 k171) (by kernel_rfl)
theorem k173:AC 120 [g [bF,lF [u 2]],g [bF,lF [u 2]]] [h [bF,l1],h [bF,lT []],y (n64 0)] n2:=ex (c4 k112 k172 k54 k89) (by kernel_rfl)
theorem k174:AC 82 [g [bF,lT []],g [bF,lF [u 2]]] [h [bF,lT [],bF,l1]] n2:=ex (c4 k60 k163 k167 k173) (by kernel_rfl)
theorem k175:AC 118 [g [bT,l1]] [y bF] n1:=ex .nil (by kernel_rfl)
theorem k176:AC 118 [g [bF,lT []]] [y bF] n1:=ex .nil (by kernel_rfl)
theorem k177:AC 142 [x l1,x (lT [])] [y (lF [])] n2:=ex (c1 k86) (by kernel_rfl)
theorem k178:AC 122 [x bT,x (lF [])] [h [bF,lT []]] n2:=ex (c1 k88) (by kernel_rfl)
theorem k179:AC 121 [g [bT,l1],g [bF,lT []]] [h [bF,lT []]] n2:=ex (c2 k177 k178) (by kernel_rfl)
theorem k180:AC 83 [x (lF [[bT,l1],[bF,lT []]])] [h [bF,lT []]] n1:=ex (d4 k55 k175 k49 k176 (c1 k179)) (by kernel_rfl)
theorem k181:AC 35 [g [bT,l1,bF,lF [u 2]],g [bF,lT [],bF,l1]] [h [bF,lT [],bF,l1]] n2:=ex (c4 k156 k174 k180 k56) (by kernel_rfl)
theorem k182:AC 108 [g [bF,lT [],bF,l1],.ref [bT,l1,bF,lF [u 2]]] [h [bF,lT [],bF,l1]] [none,some (.var [.t (bT),.t (l1),.t (bF),.t (lF [u 2])])]:=ex (c1 k181) (by kernel_rfl)
theorem k183:AC 119 [g [bT,lF [u 2]],g [bF,lF [u 2]]] [h [bF,lF [u 2]]] n2:=ex (d4 k112 k152 k160 k162 (c1 k153)) (by kernel_rfl)
theorem k184:AC 120 [g [bT,lF [u 2]],g [bF,lF [u 2]]] [h [bT,l1],h [bF,lT []],y (n64 0)] n2:=ex (c4 k112 k172 k150 k89) (by kernel_rfl)
theorem k185:AC 82 [g [bT,lF [u 2]],g [bF,lF [u 2]]] [h o2] n2:=ex (c4 k60 k183 k184 k173) (by kernel_rfl)
theorem k186:AC 142 [x l1,x l1] [y l1] n2:=ex (c1 k51) (by kernel_rfl)
theorem k187:AC 121 [g [bT,l1],g [bT,l1]] [h [bF,l1]] n2:=ex (c2 k186 k54) (by kernel_rfl)
theorem k188:AC 83 [x (lF [[bT,l1],[bT,l1]])] [h [bF,l1]] n1:=ex (c4 k55 k175 k49 k187) (by kernel_rfl)
theorem k189:AC 35 [g [bT,l1,bF,lF [u 2]],g (v 2)] [h o1] n2:=ex (c4 k156 k185 k188 k56) (by kernel_rfl)
theorem k190:AC 108 [g (v 2),.ref [bT,l1,bF,lF [u 2]]] [h o1] [none,some (.var [.t (bT),.t (l1),.t (bF),.t (lF [u 2])])]:=ex (c1 k189) (by kernel_rfl)
theorem k191:AC 123 [x (lF [u 9])] [y (lF [u 9])] n1:=ex .nil (by kernel_rfl)
theorem k192:AC 138 [x (lF [u 9])] [y (w64 9)] n1:=ex .nil (by kernel_rfl)
theorem k193:AC 119 [g [bT,lF [u 9]],g [bF,lF [u 2]]] [h [bF,l1]] n2:=ex (d4 k137 k191 k112 k152 (c4 k192 k160 k52 k54)) (by kernel_rfl)
theorem k194:AC 82 [g [bT,lF [u 9]],g [bF,lF [u 2]]] [h [bT,lF [u 9],bF,lF [u 2]]] n2:=ex (c3 k60 k193 k49) (by kernel_rfl)
theorem k195:AC 118 [g [bT,lF [u 9]]] [y bF] n1:=ex .nil (by kernel_rfl)
theorem k196:AC 137 [x (lF [u 9,u 0])] [y (lF [u 9])] n1:=ex .nil (by kernel_rfl)
theorem k197:AC 142 [x l1,x (lF [u 9])] [y (lF [u 9])] n2:=ex (c1 k196) (by kernel_rfl)
theorem k198:AC 122 [x bF,x (lF [u 9])] [h [bF,lF [u 9]]] n2:=ex (c1 k137) (by kernel_rfl)
theorem k199:AC 121 [g [bT,l1],g [bT,lF [u 9]]] [h [bF,lF [u 9]]] n2:=ex (c2 k197 k198) (by kernel_rfl)
theorem k200:AC 83 [x (lF [[bT,l1],[bT,lF [u 9]]])] [h [bF,lF [u 9]]] n1:=ex (d4 k55 k175 k49 k195 (c1 k199)) (by kernel_rfl)
theorem k201:AC 35 [g [bT,l1,bF,lF [u 2]],g (v 9)] [h [bF,lF [u 9],bF,lF [u 2]]] n2:=ex (c4 k156 k194 k200 k61) (by kernel_rfl)
theorem k202:AC 108 [g (v 9),.ref [bT,l1,bF,lF [u 2]]] [h [bF,lF [u 9],bF,lF [u 2]]] [none,some (.var [.t (bT),.t (l1),.t (bF),.t (lF [u 2])])]:=ex (c1 k201) (by kernel_rfl)
theorem k203:AC 107 [x (lF [[bF,lT [],bF,l1],(v 2),(v 9)]),.clo 108 [(2,(0,0))],.gh [bT,l1,bF,lF [u 2]]] [.own 4 [[bF,lT [],bF,l1],o1,[bF,lF [u 9],bF,lF [u 2]]]] [none,none,some (.var [.t (bT),.t (l1),.t (bF),.t (lF [u 2])])]:=ex (c3 k182 k190 k202) (by kernel_rfl)
theorem k204:AC 83 [x (lF [[bF,lF [u 2]],[bF,l1]])] [h [bF,lF [u 2]]] n1:=ex (c3 k55 k60 k49) (by kernel_rfl)
theorem k205:AC 35 [g (w 2),g o1] [h (w 2)] n2:=ex (c4 k59 k50 k204 k56) (by kernel_rfl)
theorem k206:AC 105 [g (w 2),g o1] [h (w 2),y (n64 0)] n2:=ex (c2 k48 k205) (by kernel_rfl)
theorem k207:AC 84 [g [bF,lT []]] [y (n64 0)] n1:=ex .nil (by kernel_rfl)
theorem k208:AC 36 [g [bF,lT [],bF,l1]] [y (n64 0)] n1:=ex (c1 k207) (by kernel_rfl)
theorem k209:AC 85 [g [bF,lF [u 2]]] [h [bT,lF [u 2]]] n1:=ex (c2 k152 k114) (by kernel_rfl)
theorem k210:AC 38 [g (w 2)] [h (v 2)] n1:=ex (c1 k209) (by kernel_rfl)
theorem k211:AC 118 [g [bT,lF [u 2]]] [y bF] n1:=ex .nil (by kernel_rfl)
theorem k212:AC 83 [x (lF [[bT,lF [u 2]],[bF,l1]])] [h [bT,lF [u 2]]] n1:=ex (c3 k55 k211 k49) (by kernel_rfl)
theorem k213:AC 141 [x (lF [u 2]),x (lF [u 2])] [y (lF [])] n2:=ex (c1 k86) (by kernel_rfl)
theorem k214:AC 124 [g [bF,lF [u 2]],g [bT,lF [u 2]]] [h [bF,lT []]] n2:=ex (c3 k168 k213 k89) (by kernel_rfl)
theorem k215:AC 86 [g (w 2),g (v 2)] [h [bF,lT [],bF,l1]] n2:=ex (d4 k204 k212 k214 k56 (c1 k91)) (by kernel_rfl)
theorem k216:AC 126 [g (w 2),g (w 2)] [h [bF,lT [],bF,l1]] n2:=ex (c2 k210 k215) (by kernel_rfl)
theorem k217:AC 84 [g [bF,lF [u 9]]] [y (n64 1)] n1:=ex .nil (by kernel_rfl)
theorem k218:AC 36 [g [bF,lF [u 9],bF,lF [u 2]]] [y (n64 1)] n1:=ex (c1 k217) (by kernel_rfl)
theorem k219:AC 119 [g [bF,lF [u 2]],g [bF,lF [u 2]]] [h [bF,lF [u 2]]] n2:=ex (d4 k112 k152 k160 k162 (c1 k153)) (by kernel_rfl)
open Go Go.Abs Go.Proofs
theorem k220:AC 82 [g [bF,lF [u 2]],g [bF,lF [u 2]]] [h o1] n2:=ex (c3 k60 k219 k173) (by kernel_rfl)
theorem k221:AC 82 [g [bF,lF [u 9]],g [bF,l1]] [h (w 9)] n2:=ex (c1 k49) (by kernel_rfl)
theorem k222:AC 118 [g [bF,lF [u 9]]] [y bF] n1:=ex .nil (by kernel_rfl)
theorem k223:AC 83 [x (lF [[bF,l1],[bF,lF [u 9]]])] [h [bF,lF [u 9]]] n1:=ex (c3 k55 k49 k222) (by kernel_rfl)
theorem k224:AC 35 [g (w 2),g [bF,lF [u 9],bF,lF [u 2]]] [h (w 9)] n2:=ex (c4 k220 k221 k223 k56) (by kernel_rfl)
theorem k225:AC 85 [g [bF,lF [u 9]]] [h [bT,lF [u 9]]] n1:=ex (c2 k191 k139) (by kernel_rfl)
theorem k226:AC 38 [g (w 9)] [h (v 9)] n1:=ex (c1 k225) (by kernel_rfl)
theorem k227:AC 83 [x (lF [[bF,lF [u 5]],[bF,l1]])] [h [bF,lF [u 5]]] n1:=ex (c3 k55 k65 k49) (by kernel_rfl)
theorem k228:AC 83 [x (lF [[bT,lF [u 9]],[bF,l1]])] [h [bT,lF [u 9]]] n1:=ex (c3 k55 k195 k49) (by kernel_rfl)
theorem k229:AC 136 [x (lF [u 5]),x (lF [u 9])] [y (n64 (-1))] n2:=ex .nil (by kernel_rfl)
theorem k230:AC 137 [x (lF [u 4])] [y (lF [u 4])] n1:=ex .nil (by kernel_rfl)
theorem k231:AC 141 [x (lF [u 9]),x (lF [u 5])] [y (lF [u 4])] n2:=ex (c1 k230) (by kernel_rfl)
theorem k232:AC 122 [x bT,x (lF [u 4])] [h [bT,lF [u 4]]] n2:=ex (c1 k230) (by kernel_rfl)
theorem k233:AC 124 [g [bF,lF [u 5]],g [bT,lF [u 9]]] [h [bT,lF [u 4]]] n2:=ex (c3 k229 k231 k232) (by kernel_rfl)
theorem k234:AC 82 [g [bT,lF [u 4]],g [bF,l1]] [h (v 4)] n2:=ex (c1 k49) (by kernel_rfl)
theorem k235:AC 86 [g (w 5),g (v 9)] [h (v 4)] n2:=ex (d4 k227 k228 k233 k56 (c1 k234)) (by kernel_rfl)
theorem k236:AC 126 [g (w 5),g (w 9)] [h (v 4)] n2:=ex (c2 k226 k235) (by kernel_rfl)
theorem k237:AC 94 [.bor 4 [o1,(w 2),(w 5)],g (w 2),.bor 4 [[bF,lT [],bF,l1],o1,[bF,lF [u 9],bF,lF [u 2]]]] [] [some (.rows 4 [o1,[bF,lT [],bF,l1],(v 4)] false false),none,some (.rows 4 [[bF,lT [],bF,l1],o1,[bF,lF [u 9],bF,lF [u 2]]] false false)]:=ex (d4 k95 k208 k46 k205 (c4 k216 k218 k224 k236)) (by kernel_rfl)
theorem k238:Shows Tryz.prog 58 (.h ⟨[.c (.sl 0 0 1 false),.c (.sl 1 0 3 false),.c (.t (n64 1))],[some (.var [.sl 2 0 3 false,.sl 1 0 3 false]),some (.rows 4 [[bF,lT [],bF,l1],o1,[bF,lF [u 9],bF,lF [u 2]]] true false),some (.rows 4 [o1,(w 2),(w 5)] true false)]⟩) (.h ⟨[],[some (.var [.sl 2 0 3 false,.sl 1 0 3 false]),some (.rows 4 [[bF,lT [],bF,l1],o1,[bF,lF [u 9],bF,lF [u 2]]] true false),some (.rows 4 [o1,[bF,lT [],bF,l1],(v 4)] true false)]⟩):=ex (.cons k95 (.cons k206 (.cons k237 .nil))) (by kernel_rfl)
theorem k239:Shows Tryz.prog 58 (.h ⟨[.c (.sl 0 2 0 false),.c (.sl 1 0 3 false),.c (.t (n64 1))],[some (.var [.sl 2 0 3 false,.sl 1 0 3 false]),some (.rows 4 [[bF,lT [],bF,l1],o1,[bF,lF [u 9],bF,lF [u 2]]] true false),some (.rows 4 [o1,[bF,lT [],bF,l1],(v 4)] true false)]⟩) (.h ⟨[],[some (.var [.sl 2 0 3 false,.sl 1 0 3 false]),some (.rows 4 [[bF,lT [],bF,l1],o1,[bF,lF [u 9],bF,lF [u 2]]] true false),some (.rows 4 [o1,[bF,lT [],bF,l1],(v 4)] true false)]⟩):=ex (.nil) (by kernel_rfl)
theorem k240:Shows Tryz.prog 57 (.h ⟨[.c (.sl 0 0 2 false),.c (.t (n64 2)),.c (.t (n64 2))],[some (.var [.sl 1 0 3 false,.sl 2 0 3 false]),some (.rows 4 [o1,[bF,lT [],bF,l1],(v 4)] true false),some (.rows 4 [[bF,lT [],bF,l1],o1,[bF,lF [u 9],bF,lF [u 2]]] true false)]⟩) (.h ⟨[.c (.t (n64 (-1)))],[some (.var [.sl 1 0 3 false,.sl 2 0 3 false]),some (.rows 4 [o1,[bF,lT [],bF,l1],(v 4)] true false),some (.rows 4 [[bF,lT [],bF,l1],o1,[bF,lF [u 9],bF,lF [u 2]]] true false)]⟩):=ex (.nil) (by kernel_rfl)
theorem k241:Shows Tryz.prog 61 (.h ⟨[.c (.sl 0 0 2 false)],[some (.var [.sl 1 0 3 false,.sl 2 0 3 false]),some (.rows 4 [o1,(w 2),(w 5)] true false),some (.rows 4 [(w 3),(w 4),(w 6)] true false)]⟩) (.h ⟨[.c (.sl 3 0 2 false),.c (.sl 4 0 2 false)],[some (.var [.sl 1 0 3 false,.sl 2 0 3 false]),some (.rows 4 [o1,(w 2),(w 5)] true false),some (.rows 4 [(w 3),(w 4),(w 6)] true false),some (.var [.sl 5 0 3 false,.sl 6 0 3 false]),some (.rows 1 [[n64 0],[n64 1]] true false),some (.rows 4 [o1,[bF,lT [],bF,l1],(v 4)] true false),some (.rows 4 [[bF,lT [],bF,l1],o1,[bF,lF [u 9],bF,lF [u 2]]] true false)]⟩):=ex (.cons k43 (.cons k44 (.cons k47 (.cons k48 (.cons k69 (.cons k70 (.cons k145 (.cons k148 (.cons k155 (.cons k203 (.cons k238 (.cons k239 (.cons k240 .nil))))))))))))) (by kernel_rfl)
theorem k242:AC 117 [x (lF [[n64 0],[n64 1]]),x (n64 2)] [y (n64 (-1))] n2:=ex .nil (by kernel_rfl)
theorem k243:AC 81 [x (lF [[n64 0],[n64 1]]),x (n64 2)] [y bF] n2:=ex (c1 k242) (by kernel_rfl)
theorem k244:AC 92 [x (n64 0)] [h [bF,lT []]] n1:=ex (c2 k171 k89) (by kernel_rfl)
theorem k245:AC 91 [g [bF,lT []]] [h [bF,lT [],bF,l1]] n1:=ex (c1 k55) (by kernel_rfl)
theorem k246:AC 41 [x (n64 0)] [h [bF,lT [],bF,l1]] n1:=ex (c2 k244 k245) (by kernel_rfl)
theorem k247:AC 60 [x (n64 2)] [.own 4 [[bF,lT [],bF,l1],[bF,lT [],bF,l1]]] n1:=ex (c1 k246) (by kernel_rfl)
theorem k248:AC 31 [x (lF [[lF [o1,(w 2)]],[lF [(w 3),(w 4)]]]),x (lF [(w 5),(w 6)])] [y (lF [(v 4),[bF,lF [u 9],bF,lF [u 2]]]),y (n64 0)] n2:=ex (d4 k38 k39 k40 k241 (c2 k243 k247)) (by kernel_rfl)
theorem k249:AC 50 [x (lF [[n64 1],[n64 2],[n64 2],[n64 4]])] [y (lF [[lF [o1,(w 2)]],[lF [(w 2),(w 4)]]])] n1:=ex (c3 k5 k11 k23) (by kernel_rfl)
theorem k250:AC 51 [x (lF [[n64 1],[n64 3]])] [y (lF [o1,(w 3)])] n1:=ex (c2 k5 k17) (by kernel_rfl)
theorem k251:Shows Tryz.prog 80 (.h ⟨[.c (.t (lF [[lF [o1,(w 2)]],[lF [(w 2),(w 4)]]]))],[]⟩) (.h ⟨[.c (.t (n64 2))],[]⟩):=ex (.nil) (by kernel_rfl)
theorem k252:AC 56 [x (lF [(w 2),(w 4)])] [.own 4 [(w 2),(w 4)]] n1:=ex .nil (by kernel_rfl)
theorem k253:AC 56 [.bor 4 [o1,(w 2),o1]] [.own 4 [o1,(w 2),o1]] [some (.rows 4 [o1,(w 2),o1] false false)]:=ex .nil (by kernel_rfl)
theorem k254:AC 56 [.bor 4 [(w 2),(w 4),(w 3)]] [.own 4 [(w 2),(w 4),(w 3)]] [some (.rows 4 [(w 2),(w 4),(w 3)] false false)]:=ex .nil (by kernel_rfl)
theorem k255:Shows Tryz.prog 55 (.h ⟨[.c (.sl 0 0 2 false),.c (.t (.v (.func (.func 56) #[] #[])))],[some (.var [.sl 1 0 3 false,.sl 2 0 3 false]),some (.rows 4 [o1,(w 2),o1] true false),some (.rows 4 [(w 2),(w 4),(w 3)] true false)]⟩) (.h ⟨[.c (.sl 3 0 2 false)],[some (.var [.sl 1 0 3 false,.sl 2 0 3 false]),some (.rows 4 [o1,(w 2),o1] true false),some (.rows 4 [(w 2),(w 4),(w 3)] true false),some (.var [.sl 4 0 3 false,.sl 5 0 3 false]),some (.rows 4 [o1,(w 2),o1] true false),some (.rows 4 [(w 2),(w 4),(w 3)] true false)]⟩):=ex (.cons k253 (.cons k254 .nil)) (by kernel_rfl)
theorem k256:Shows Tryz.prog 80 (.h ⟨[.c (.sl 0 0 2 false)],[some (.var [.sl 1 0 3 false,.sl 2 0 3 false]),some (.rows 4 [o1,(w 2),o1] true false),some (.rows 4 [(w 2),(w 4),(w 3)] true false)]⟩) (.h ⟨[.c (.t (n64 3))],[some (.var [.sl 1 0 3 false,.sl 2 0 3 false]),some (.rows 4 [o1,(w 2),o1] true false),some (.rows 4 [(w 2),(w 4),(w 3)] true false)]⟩):=ex (.nil) (by kernel_rfl)
theorem k257:Shows Tryz.prog 57 (.h ⟨[.c (.sl 0 0 2 false),.c (.t (n64 0)),.c (.t (n64 0))],[some (.var [.sl 1 0 3 false,.sl 2 0 3 false]),some (.rows 4 [o1,(w 2),o1] true false),some (.rows 4 [(w 2),(w 4),(w 3)] true false)]⟩) (.h ⟨[.c (.t (n64 0))],[some (.var [.sl 1 0 3 false,.sl 2 0 3 false]),some (.rows 4 [o1,(w 2),o1] true false),some (.rows 4 [(w 2),(w 4),(w 3)] true false)]⟩):=ex (.cons k46 .nil) (by kernel_rfl)
theorem k258:AC 107 [x (lF [o1,(w 2),o1]),.clo 108 [(2,(0,0))],.gh o1] [.own 4 [o1,(w 2),o1]] [none,none,some (.var [.t (bF),.t (l1),.t (bF),.t (l1)])]:=ex (c2 k58 k63) (by kernel_rfl)
theorem k259:Shows Tryz.prog 58 (.h ⟨[.c (.sl 0 0 0 false),.c (.sl 1 0 3 false),.c (.t (n64 0))],[some (.var [.sl 1 0 3 false,.sl 2 0 3 false]),some (.rows 4 [o1,(w 2),o1] true false),some (.rows 4 [(w 2),(w 4),(w 3)] true false)]⟩) (.h ⟨[],[some (.var [.sl 1 0 3 false,.sl 2 0 3 false]),some (.rows 4 [o1,(w 2),o1] true false),some (.rows 4 [(w 2),(w 4),(w 3)] true false)]⟩):=ex (.nil) (by kernel_rfl)
theorem k260:AC 137 [x (lF [u 4,u 0])] [y (lF [u 4])] n1:=ex .nil (by kernel_rfl)
theorem k261:AC 142 [x (lF [u 2]),x (lF [u 2])] [y (lF [u 4])] n2:=ex (c1 k260) (by kernel_rfl)
theorem k262:AC 122 [x bF,x (lF [u 4])] [h [bF,lF [u 4]]] n2:=ex (c1 k230) (by kernel_rfl)
theorem k263:AC 121 [g [bF,lF [u 2]],g [bF,lF [u 2]]] [h [bF,lF [u 4]]] n2:=ex (c2 k261 k262) (by kernel_rfl)
theorem k264:AC 83 [x (lF [[bF,lF [u 2]],[bF,lF [u 2]]])] [h [bF,lF [u 4]]] n1:=ex (c4 k55 k60 k49 k263) (by kernel_rfl)
theorem k265:AC 35 [g (w 2),g (w 2)] [h (w 4)] n2:=ex (c3 k59 k264 k56) (by kernel_rfl)
theorem k266:AC 123 [x (lF [u 4])] [y (lF [u 4])] n1:=ex .nil (by kernel_rfl)
theorem k267:AC 85 [g [bF,lF [u 4]]] [h [bT,lF [u 4]]] n1:=ex (c2 k266 k232) (by kernel_rfl)
theorem k268:AC 38 [g (w 4)] [h (v 4)] n1:=ex (c1 k267) (by kernel_rfl)
theorem k269:AC 118 [g [bT,lF [u 4]]] [y bF] n1:=ex .nil (by kernel_rfl)
theorem k270:AC 83 [x (lF [[bT,lF [u 4]],[bF,l1]])] [h [bT,lF [u 4]]] n1:=ex (c3 k55 k269 k49) (by kernel_rfl)
theorem k271:AC 136 [x (lF [u 4]),x (lF [u 4])] [y (n64 0)] n2:=ex .nil (by kernel_rfl)
theorem k272:AC 141 [x (lF [u 4]),x (lF [u 4])] [y (lF [])] n2:=ex (c1 k86) (by kernel_rfl)
theorem k273:AC 124 [g [bF,lF [u 4]],g [bT,lF [u 4]]] [h [bF,lT []]] n2:=ex (c3 k271 k272 k89) (by kernel_rfl)
theorem k274:AC 86 [g (w 4),g (v 4)] [h [bF,lT [],bF,l1]] n2:=ex (d4 k108 k270 k273 k56 (c1 k91)) (by kernel_rfl)
theorem k275:AC 126 [g (w 4),g (w 4)] [h [bF,lT [],bF,l1]] n2:=ex (c2 k268 k274) (by kernel_rfl)
theorem k276:AC 136 [x (lF [u 3]),x (lF [u 2])] [y (n64 1)] n2:=ex .nil (by kernel_rfl)
theorem k277:AC 141 [x (lF [u 3]),x (lF [u 2])] [y l1] n2:=ex (c1 k53) (by kernel_rfl)
theorem k278:AC 124 [g [bF,lF [u 3]],g [bT,lF [u 2]]] [h [bF,l1]] n2:=ex (c3 k276 k277 k54) (by kernel_rfl)
theorem k279:AC 86 [g (w 3),g (v 2)] [h o1] n2:=ex (d4 k75 k212 k278 k56 (c1 k50)) (by kernel_rfl)
theorem k280:AC 126 [g (w 3),g (w 2)] [h o1] n2:=ex (c2 k210 k279) (by kernel_rfl)
theorem k281:AC 94 [.bor 4 [(w 2),(w 4),(w 3)],g (w 2),.bor 4 [o1,(w 2),o1]] [] [some (.rows 4 [[bF,lT [],bF,l1],[bF,lT [],bF,l1],o1] false false),none,some (.rows 4 [o1,(w 2),o1] false false)]:=ex (d4 k95 k46 k205 k216 (c3 k265 k275 k280)) (by kernel_rfl)
theorem k282:Shows Tryz.prog 58 (.h ⟨[.c (.sl 0 1 1 false),.c (.sl 1 0 3 false),.c (.t (n64 0))],[some (.var [.sl 1 0 3 false,.sl 2 0 3 false]),some (.rows 4 [o1,(w 2),o1] true false),some (.rows 4 [(w 2),(w 4),(w 3)] true false)]⟩) (.h ⟨[],[some (.var [.sl 1 0 3 false,.sl 2 0 3 false]),some (.rows 4 [o1,(w 2),o1] true false),some (.rows 4 [[bF,lT [],bF,l1],[bF,lT [],bF,l1],o1] true false)]⟩):=ex (.cons k95 (.cons k206 (.cons k281 .nil))) (by kernel_rfl)
theorem k283:Shows Tryz.prog 57 (.h ⟨[.c (.sl 0 0 2 false),.c (.t (n64 1)),.c (.t (n64 1))],[some (.var [.sl 1 0 3 false,.sl 2 0 3 false]),some (.rows 4 [o1,(w 2),o1] true false),some (.rows 4 [[bF,lT [],bF,l1],[bF,lT [],bF,l1],o1] true false)]⟩) (.h ⟨[.c (.t (n64 (-1)))],[some (.var [.sl 1 0 3 false,.sl 2 0 3 false]),some (.rows 4 [o1,(w 2),o1] true false),some (.rows 4 [[bF,lT [],bF,l1],[bF,lT [],bF,l1],o1] true false)]⟩):=ex (.cons k208 .nil) (by kernel_rfl)
theorem k284:Shows Tryz.prog 57 (.h ⟨[.c (.sl 0 0 2 false),.c (.t (n64 1)),.c (.t (n64 2))],[some (.var [.sl 1 0 3 false,.sl 2 0 3 false]),some (.rows 4 [o1,(w 2),o1] true false),some (.rows 4 [[bF,lT [],bF,l1],[bF,lT [],bF,l1],o1] true false)]⟩) (.h ⟨[.c (.t (n64 1))],[some (.var [.sl 1 0 3 false,.sl 2 0 3 false]),some (.rows 4 [o1,(w 2),o1] true false),some (.rows 4 [[bF,lT [],bF,l1],[bF,lT [],bF,l1],o1] true false)]⟩):=ex (.cons k46 .nil) (by kernel_rfl)
theorem k285:AC 83 [x (lF [[bF,l1],[bF,lT []]])] [h [bF,lT []]] n1:=ex (c3 k55 k49 k176) (by kernel_rfl)
theorem k286:AC 35 [g o1,g [bF,lT [],bF,l1]] [h [bF,lT [],bF,l1]] n2:=ex (c4 k50 k91 k285 k56) (by kernel_rfl)
theorem k287:AC 108 [g [bF,lT [],bF,l1],.ref o1] [h [bF,lT [],bF,l1]] [none,some (.var [.t (bF),.t (l1),.t (bF),.t (l1)])]:=ex (c1 k286) (by kernel_rfl)
theorem k288:AC 107 [x (lF [[bF,lT [],bF,l1],[bF,lT [],bF,l1],o1]),.clo 108 [(2,(0,0))],.gh o1] [.own 4 [[bF,lT [],bF,l1],[bF,lT [],bF,l1],o1]] [none,none,some (.var [.t (bF),.t (l1),.t (bF),.t (l1)])]:=ex (c2 k287 k58) (by kernel_rfl)
theorem k289:AC 105 [g o1,g o1] [h o1,y (n64 0)] n2:=ex (c2 k48 k57) (by kernel_rfl)
theorem k290:AC 38 [g o1] [h o2] n1:=ex (c1 k151) (by kernel_rfl)
theorem k291:AC 83 [x (lF [[bT,l1],[bF,l1]])] [h [bT,l1]] n1:=ex (c3 k55 k175 k49) (by kernel_rfl)
theorem k292:AC 136 [x l1,x l1] [y (n64 0)] n2:=ex .nil (by kernel_rfl)
theorem k293:AC 141 [x l1,x l1] [y (lF [])] n2:=ex (c1 k86) (by kernel_rfl)
theorem k294:AC 124 [g [bF,l1],g [bT,l1]] [h [bF,lT []]] n2:=ex (c3 k292 k293 k89) (by kernel_rfl)
theorem k295:AC 86 [g o1,g o2] [h [bF,lT [],bF,l1]] n2:=ex (c4 k56 k291 k294 k91) (by kernel_rfl)
theorem k296:AC 126 [g o1,g o1] [h [bF,lT [],bF,l1]] n2:=ex (c2 k290 k295) (by kernel_rfl)
theorem k297:AC 94 [.bor 4 [o1,(w 2),o1],g o1,.bor 4 [[bF,lT [],bF,l1],[bF,lT [],bF,l1],o1]] [] [some (.rows 4 [o1,(w 2),[bF,lT [],bF,l1]] false false),none,some (.rows 4 [[bF,lT [],bF,l1],[bF,lT [],bF,l1],o1] false false)]:=ex (c4 k46 k208 k57 k296) (by kernel_rfl)
theorem k298:Shows Tryz.prog 58 (.h ⟨[.c (.sl 0 0 1 false),.c (.sl 1 0 3 false),.c (.t (n64 2))],[some (.var [.sl 2 0 3 false,.sl 1 0 3 false]),some (.rows 4 [[bF,lT [],bF,l1],[bF,lT [],bF,l1],o1] true false),some (.rows 4 [o1,(w 2),o1] true false)]⟩) (.h ⟨[],[some (.var [.sl 2 0 3 false,.sl 1 0 3 false]),some (.rows 4 [[bF,lT [],bF,l1],[bF,lT [],bF,l1],o1] true false),some (.rows 4 [o1,(w 2),[bF,lT [],bF,l1]] true false)]⟩):=ex (.cons k46 (.cons k289 (.cons k297 .nil))) (by kernel_rfl)
theorem k299:Shows Tryz.prog 58 (.h ⟨[.c (.sl 0 2 0 false),.c (.sl 1 0 3 false),.c (.t (n64 2))],[some (.var [.sl 2 0 3 false,.sl 1 0 3 false]),some (.rows 4 [[bF,lT [],bF,l1],[bF,lT [],bF,l1],o1] true false),some (.rows 4 [o1,(w 2),[bF,lT [],bF,l1]] true false)]⟩) (.h ⟨[],[some (.var [.sl 2 0 3 false,.sl 1 0 3 false]),some (.rows 4 [[bF,lT [],bF,l1],[bF,lT [],bF,l1],o1] true false),some (.rows 4 [o1,(w 2),[bF,lT [],bF,l1]] true false)]⟩):=ex (.nil) (by kernel_rfl)
theorem k300:Shows Tryz.prog 61 (.h ⟨[.c (.sl 0 0 2 false)],[some (.var [.sl 1 0 3 false,.sl 2 0 3 false]),some (.rows 4 [o1,(w 2),o1] true false),some (.rows 4 [(w 2),(w 4),(w 3)] true false)]⟩) (.h ⟨[.c (.sl 3 0 2 false),.c (.sl 4 0 2 false)],[some (.var [.sl 1 0 3 false,.sl 2 0 3 false]),some (.rows 4 [o1,(w 2),o1] true false),some (.rows 4 [(w 2),(w 4),(w 3)] true false),some (.var [.sl 5 0 3 false,.sl 6 0 3 false]),some (.rows 1 [[n64 0],[n64 2]] true false),some (.rows 4 [o1,(w 2),[bF,lT [],bF,l1]] true false),some (.rows 4 [[bF,lT [],bF,l1],[bF,lT [],bF,l1],o1] true false)]⟩):=ex (.cons k255 (.cons k256 (.cons k257 (.cons k48 (.cons k258 (.cons k259 (.cons k282 (.cons k283 (.cons k284 (.cons k288 (.cons k298 (.cons k299 .nil)))))))))))) (by kernel_rfl)
theorem k301:AC 117 [x (lF [[n64 0],[n64 2]]),x (n64 2)] [y (n64 1)] n2:=ex .nil (by kernel_rfl)
theorem k302:AC 81 [x (lF [[n64 0],[n64 2]]),x (n64 2)] [y bT] n2:=ex (c1 k301) (by kernel_rfl)
theorem k303:AC 31 [x (lF [[lF [o1,(w 2)]],[lF [(w 2),(w 4)]]]),x (lF [o1,(w 3)])] [y (lT []),y (n64 111)] n2:=ex (d4 k251 k39 k252 k300 (c1 k302)) (by kernel_rfl)
theorem k304:AC 50 [x (lF [[n64 1],[n64 2]])] [y (lF [[lF [o1,(w 2)]]])] n1:=ex (c2 k5 k11) (by kernel_rfl)
theorem k305:AC 51 [x (lF [[n64 3]])] [y (lF [(w 3)])] n1:=ex (c1 k17) (by kernel_rfl)
theorem k306:Shows Tryz.prog 80 (.h ⟨[.c (.t (lF [[lF [o1,(w 2)]]]))],[]⟩) (.h ⟨[.c (.t (n64 2))],[]⟩):=ex (.nil) (by kernel_rfl)
theorem k307:AC 56 [.bor 4 [o1,(w 2),(w 3)]] [.own 4 [o1,(w 2),(w 3)]] [some (.rows 4 [o1,(w 2),(w 3)] false false)]:=ex .nil (by kernel_rfl)
theorem k308:Shows Tryz.prog 55 (.h ⟨[.c (.sl 0 0 1 false),.c (.t (.v (.func (.func 56) #[] #[])))],[some (.var [.sl 1 0 3 false]),some (.rows 4 [o1,(w 2),(w 3)] true false)]⟩) (.h ⟨[.c (.sl 2 0 1 false)],[some (.var [.sl 1 0 3 false]),some (.rows 4 [o1,(w 2),(w 3)] true false),some (.var [.sl 3 0 3 false]),some (.rows 4 [o1,(w 2),(w 3)] true false)]⟩):=ex (.cons k307 .nil) (by kernel_rfl)
theorem k309:Shows Tryz.prog 80 (.h ⟨[.c (.sl 0 0 1 false)],[some (.var [.sl 1 0 3 false]),some (.rows 4 [o1,(w 2),(w 3)] true false)]⟩) (.h ⟨[.c (.t (n64 3))],[some (.var [.sl 1 0 3 false]),some (.rows 4 [o1,(w 2),(w 3)] true false)]⟩):=ex (.nil) (by kernel_rfl)
theorem k310:Shows Tryz.prog 57 (.h ⟨[.c (.sl 0 0 1 false),.c (.t (n64 0)),.c (.t (n64 0))],[some (.var [.sl 1 0 3 false]),some (.rows 4 [o1,(w 2),(w 3)] true false)]⟩) (.h ⟨[.c (.t (n64 0))],[some (.var [.sl 1 0 3 false]),some (.rows 4 [o1,(w 2),(w 3)] true false)]⟩):=ex (.cons k46 .nil) (by kernel_rfl)
theorem k311:AC 83 [x (lF [[bF,l1],[bF,lF [u 3]]])] [h [bF,lF [u 3]]] n1:=ex (c3 k55 k49 k74) (by kernel_rfl)
theorem k312:AC 35 [g o1,g (w 3)] [h (w 3)] n2:=ex (c4 k50 k73 k311 k56) (by kernel_rfl)
theorem k313:AC 108 [g (w 3),.ref o1] [h (w 3)] [none,some (.var [.t (bF),.t (l1),.t (bF),.t (l1)])]:=ex (c1 k312) (by kernel_rfl)
theorem k314:AC 107 [x (lF [o1,(w 2),(w 3)]),.clo 108 [(2,(0,0))],.gh o1] [.own 4 [o1,(w 2),(w 3)]] [none,none,some (.var [.t (bF),.t (l1),.t (bF),.t (l1)])]:=ex (c3 k58 k63 k313) (by kernel_rfl)
theorem k315:Shows Tryz.prog 58 (.h ⟨[.c (.sl 0 0 0 false),.c (.sl 1 0 3 false),.c (.t (n64 0))],[some (.var [.sl 1 0 3 false]),some (.rows 4 [o1,(w 2),(w 3)] true false)]⟩) (.h ⟨[],[some (.var [.sl 1 0 3 false]),some (.rows 4 [o1,(w 2),(w 3)] true false)]⟩):=ex (.nil) (by kernel_rfl)
theorem k316:Shows Tryz.prog 58 (.h ⟨[.c (.sl 0 1 0 false),.c (.sl 1 0 3 false),.c (.t (n64 0))],[some (.var [.sl 1 0 3 false]),some (.rows 4 [o1,(w 2),(w 3)] true false)]⟩) (.h ⟨[],[some (.var [.sl 1 0 3 false]),some (.rows 4 [o1,(w 2),(w 3)] true false)]⟩):=ex (.nil) (by kernel_rfl)
theorem k317:Shows Tryz.prog 57 (.h ⟨[.c (.sl 0 0 1 false),.c (.t (n64 1)),.c (.t (n64 1))],[some (.var [.sl 1 0 3 false]),some (.rows 4 [o1,(w 2),(w 3)] true false)]⟩) (.h ⟨[.c (.t (n64 (-1)))],[some (.var [.sl 1 0 3 false]),some (.rows 4 [o1,(w 2),(w 3)] true false)]⟩):=ex (.nil) (by kernel_rfl)
theorem k318:Shows Tryz.prog 57 (.h ⟨[.c (.sl 0 0 1 false),.c (.t (n64 1)),.c (.t (n64 2))],[some (.var [.sl 1 0 3 false]),some (.rows 4 [o1,(w 2),(w 3)] true false)]⟩) (.h ⟨[.c (.t (n64 (-1)))],[some (.var [.sl 1 0 3 false]),some (.rows 4 [o1,(w 2),(w 3)] true false)]⟩):=ex (.nil) (by kernel_rfl)
theorem k319:Shows Tryz.prog 61 (.h ⟨[.c (.sl 0 0 1 false)],[some (.var [.sl 1 0 3 false]),some (.rows 4 [o1,(w 2),(w 3)] true false)]⟩) (.h ⟨[.c (.sl 2 0 1 false),.c (.sl 3 0 1 false)],[some (.var [.sl 1 0 3 false]),some (.rows 4 [o1,(w 2),(w 3)] true false),some (.var [.sl 4 0 3 false]),some (.rows 1 [[n64 0]] true false),some (.rows 4 [o1,(w 2),(w 3)] true false)]⟩):=ex (.cons k308 (.cons k309 (.cons k310 (.cons k48 (.cons k314 (.cons k315 (.cons k316 (.cons k317 (.cons k318 .nil))))))))) (by kernel_rfl)
theorem k320:AC 117 [x (lF [[n64 0]]),x (n64 2)] [y (n64 (-1))] n2:=ex .nil (by kernel_rfl)
theorem k321:AC 81 [x (lF [[n64 0]]),x (n64 2)] [y bF] n2:=ex (c1 k320) (by kernel_rfl)
theorem k322:AC 31 [x (lF [[lF [o1,(w 2)]]]),x (lF [(w 3)])] [y (lF [(w 3),[bF,lT [],bF,l1]]),y (n64 0)] n2:=ex (d4 k306 k39 k319 k321 (c1 k247)) (by kernel_rfl)
theorem k323:Shows Tryz.prog 54 (.h ⟨[.c (.t (lF [[lF [o1,(w 2)]],[lF [(w 3),(w 4)]]]))],[]⟩) (.h ⟨[.c (.t (bT))],[]⟩):=ex (.cons k38 .nil) (by kernel_rfl)
theorem k324:Shows Tryz.prog 55 (.h ⟨[.c (.t (lF [[lF [o1,(w 2)]],[lF [(w 3),(w 4)]]])),.c (.t (.v (.func (.func 56) #[] #[])))],[]⟩) (.h ⟨[.c (.sl 0 0 2 false)],[some (.var [.sl 1 0 2 false,.sl 2 0 2 false]),some (.rows 4 [o1,(w 2)] true false),some (.rows 4 [(w 3),(w 4)] true false)]⟩):=ex (.cons k39 (.cons k40 .nil)) (by kernel_rfl)
theorem k325:AC 91 [g [bF,l1]] [h o1] n1:=ex (c1 k55) (by kernel_rfl)
theorem k326:AC 41 [x (n64 1)] [h o1] n1:=ex (c2 k55 k325) (by kernel_rfl)
theorem k327:Shows Tryz.prog 57 (.h ⟨[.c (.sl 0 0 2 false),.c (.t (n64 0)),.c (.t (n64 0))],[some (.var [.sl 1 0 2 false,.sl 2 0 2 false]),some (.rows 4 [o1,(w 2)] true false),some (.rows 4 [(w 3),(w 4)] true false)]⟩) (.h ⟨[.c (.t (n64 0))],[some (.var [.sl 1 0 2 false,.sl 2 0 2 false]),some (.rows 4 [o1,(w 2)] true false),some (.rows 4 [(w 3),(w 4)] true false)]⟩):=ex (.cons k46 .nil) (by kernel_rfl)
theorem k328:AC 94 [.bor 4 [(w 3),(w 4)],g (w 3),.bor 4 [o1,(w 2)]] [] [some (.rows 4 [[bF,lT [],bF,l1],(v 2)] false false),none,some (.rows 4 [o1,(w 2)] false false)]:=ex (d4 k72 k46 k76 k93 (c3 k95 k102 k118)) (by kernel_rfl)
theorem k329:Shows Tryz.prog 58 (.h ⟨[.c (.sl 0 1 1 false),.c (.sl 1 0 2 false),.c (.t (n64 0))],[some (.var [.sl 1 0 2 false,.sl 2 0 2 false]),some (.rows 4 [o1,(w 2)] true false),some (.rows 4 [(w 3),(w 4)] true false)]⟩) (.h ⟨[],[some (.var [.sl 1 0 2 false,.sl 2 0 2 false]),some (.rows 4 [o1,(w 2)] true false),some (.rows 4 [[bF,lT [],bF,l1],(v 2)] true false)]⟩):=ex (.cons k72 (.cons k77 (.cons k328 .nil))) (by kernel_rfl)
open Go Go.Abs Go.Proofs
theorem k330:Shows Tryz.prog 57 (.h ⟨[.c (.sl 0 0 2 false),.c (.t (n64 1)),.c (.t (n64 1))],[some (.var [.sl 1 0 2 false,.sl 2 0 2 false]),some (.rows 4 [o1,(w 2)] true false),some (.rows 4 [[bF,lT [],bF,l1],(v 2)] true false)]⟩) (.h ⟨[.c (.t (n64 1))],[some (.var [.sl 1 0 2 false,.sl 2 0 2 false]),some (.rows 4 [o1,(w 2)] true false),some (.rows 4 [[bF,lT [],bF,l1],(v 2)] true false)]⟩):=ex (.cons k147 .nil) (by kernel_rfl)
theorem k331:AC 83 [x (lF [[bF,l1],[bT,lF [u 2]]])] [h [bT,lF [u 2]]] n1:=ex (c3 k55 k49 k211) (by kernel_rfl)
theorem k332:AC 35 [g o1,g (v 2)] [h (v 2)] n2:=ex (c4 k50 k116 k331 k56) (by kernel_rfl)
theorem k333:Shows Tryz.prog 58 (.h ⟨[.c (.sl 0 2 0 false),.c (.sl 1 0 2 false),.c (.t (n64 1))],[some (.var [.sl 2 0 2 false,.sl 1 0 2 false]),some (.rows 4 [[bF,lT [],bF,l1],(v 2)] true false),some (.rows 4 [o1,(w 2)] true false)]⟩) (.h ⟨[],[some (.var [.sl 2 0 2 false,.sl 1 0 2 false]),some (.rows 4 [[bF,lT [],bF,l1],(v 2)] true false),some (.rows 4 [o1,(w 2)] true false)]⟩):=ex (.nil) (by kernel_rfl)
theorem k334:AC 14 [x (lF [[lF [o1,(w 2)]],[lF [(w 3),(w 4)]]])] [h (v 2),y (n64 0)] n1:=ex (d4 k323 k324 k326 k327 (d4 k57 k329 k330 k332 (c1 k333))) (by kernel_rfl)
theorem k335:Shows Tryz.prog 54 (.h ⟨[.c (.t (lF [[lF [o1,(w 2)]],[lF [(w 2),(w 4)]]]))],[]⟩) (.h ⟨[.c (.t (bT))],[]⟩):=ex (.cons k251 .nil) (by kernel_rfl)
theorem k336:AC 56 [.bor 4 [o1,(w 2),o1,[bF,lT [],bF,l1]]] [.own 4 [o1,(w 2),o1,[bF,lT [],bF,l1]]] [some (.rows 4 [o1,(w 2),o1,[bF,lT [],bF,l1]] false false)]:=ex .nil (by kernel_rfl)
theorem k337:AC 56 [.bor 4 [(w 2),(w 4),[bF,lT [],bF,l1],o1]] [.own 4 [(w 2),(w 4),[bF,lT [],bF,l1],o1]] [some (.rows 4 [(w 2),(w 4),[bF,lT [],bF,l1],o1] false false)]:=ex .nil (by kernel_rfl)
theorem k338:Shows Tryz.prog 55 (.h ⟨[.c (.sl 0 0 2 false),.c (.t (.v (.func (.func 56) #[] #[])))],[some (.var [.sl 1 0 4 false,.sl 2 0 4 false]),some (.rows 4 [o1,(w 2),o1,[bF,lT [],bF,l1]] true false),some (.rows 4 [(w 2),(w 4),[bF,lT [],bF,l1],o1] true false)]⟩) (.h ⟨[.c (.sl 3 0 2 false)],[some (.var [.sl 1 0 4 false,.sl 2 0 4 false]),some (.rows 4 [o1,(w 2),o1,[bF,lT [],bF,l1]] true false),some (.rows 4 [(w 2),(w 4),[bF,lT [],bF,l1],o1] true false),some (.var [.sl 4 0 4 false,.sl 5 0 4 false]),some (.rows 4 [o1,(w 2),o1,[bF,lT [],bF,l1]] true false),some (.rows 4 [(w 2),(w 4),[bF,lT [],bF,l1],o1] true false)]⟩):=ex (.cons k336 (.cons k337 .nil)) (by kernel_rfl)
theorem k339:Shows Tryz.prog 80 (.h ⟨[.c (.sl 0 0 2 false)],[some (.var [.sl 1 0 4 false,.sl 2 0 4 false]),some (.rows 4 [o1,(w 2),o1,[bF,lT [],bF,l1]] true false),some (.rows 4 [(w 2),(w 4),[bF,lT [],bF,l1],o1] true false)]⟩) (.h ⟨[.c (.t (n64 4))],[some (.var [.sl 1 0 4 false,.sl 2 0 4 false]),some (.rows 4 [o1,(w 2),o1,[bF,lT [],bF,l1]] true false),some (.rows 4 [(w 2),(w 4),[bF,lT [],bF,l1],o1] true false)]⟩):=ex (.nil) (by kernel_rfl)
theorem k340:Shows Tryz.prog 57 (.h ⟨[.c (.sl 0 0 2 false),.c (.t (n64 0)),.c (.t (n64 0))],[some (.var [.sl 1 0 4 false,.sl 2 0 4 false]),some (.rows 4 [o1,(w 2),o1,[bF,lT [],bF,l1]] true false),some (.rows 4 [(w 2),(w 4),[bF,lT [],bF,l1],o1] true false)]⟩) (.h ⟨[.c (.t (n64 0))],[some (.var [.sl 1 0 4 false,.sl 2 0 4 false]),some (.rows 4 [o1,(w 2),o1,[bF,lT [],bF,l1]] true false),some (.rows 4 [(w 2),(w 4),[bF,lT [],bF,l1],o1] true false)]⟩):=ex (.cons k46 .nil) (by kernel_rfl)
theorem k341:AC 107 [x (lF [o1,(w 2),o1,[bF,lT [],bF,l1]]),.clo 108 [(2,(0,0))],.gh o1] [.own 4 [o1,(w 2),o1,[bF,lT [],bF,l1]]] [none,none,some (.var [.t (bF),.t (l1),.t (bF),.t (l1)])]:=ex (c3 k58 k63 k287) (by kernel_rfl)
theorem k342:Shows Tryz.prog 58 (.h ⟨[.c (.sl 0 0 0 false),.c (.sl 1 0 4 false),.c (.t (n64 0))],[some (.var [.sl 1 0 4 false,.sl 2 0 4 false]),some (.rows 4 [o1,(w 2),o1,[bF,lT [],bF,l1]] true false),some (.rows 4 [(w 2),(w 4),[bF,lT [],bF,l1],o1] true false)]⟩) (.h ⟨[],[some (.var [.sl 1 0 4 false,.sl 2 0 4 false]),some (.rows 4 [o1,(w 2),o1,[bF,lT [],bF,l1]] true false),some (.rows 4 [(w 2),(w 4),[bF,lT [],bF,l1],o1] true false)]⟩):=ex (.nil) (by kernel_rfl)
theorem k343:AC 83 [x (lF [[bF,lT []],[bF,l1]])] [h [bF,lT []]] n1:=ex (c3 k55 k176 k49) (by kernel_rfl)
theorem k344:AC 141 [x (lF [u 2]),x (lT [])] [y (lF [u 2])] n2:=ex (c1 k112) (by kernel_rfl)
theorem k345:AC 124 [g [bF,lT []],g [bT,lF [u 2]]] [h [bT,lF [u 2]]] n2:=ex (c3 k164 k344 k114) (by kernel_rfl)
theorem k346:AC 86 [g [bF,lT [],bF,l1],g (v 2)] [h (v 2)] n2:=ex (d4 k343 k212 k345 k56 (c1 k116)) (by kernel_rfl)
theorem k347:AC 126 [g [bF,lT [],bF,l1],g (w 2)] [h (v 2)] n2:=ex (c2 k210 k346) (by kernel_rfl)
theorem k348:AC 94 [.bor 4 [(w 2),(w 4),[bF,lT [],bF,l1],o1],g (w 2),.bor 4 [o1,(w 2),o1,[bF,lT [],bF,l1]]] [] [some (.rows 4 [[bF,lT [],bF,l1],[bF,lT [],bF,l1],(v 2),o1] false false),none,some (.rows 4 [o1,(w 2),o1,[bF,lT [],bF,l1]] false false)]:=ex (d4 k95 k46 k205 k216 (c4 k265 k275 k347 k208)) (by kernel_rfl)
theorem k349:Shows Tryz.prog 58 (.h ⟨[.c (.sl 0 1 1 false),.c (.sl 1 0 4 false),.c (.t (n64 0))],[some (.var [.sl 1 0 4 false,.sl 2 0 4 false]),some (.rows 4 [o1,(w 2),o1,[bF,lT [],bF,l1]] true false),some (.rows 4 [(w 2),(w 4),[bF,lT [],bF,l1],o1] true false)]⟩) (.h ⟨[],[some (.var [.sl 1 0 4 false,.sl 2 0 4 false]),some (.rows 4 [o1,(w 2),o1,[bF,lT [],bF,l1]] true false),some (.rows 4 [[bF,lT [],bF,l1],[bF,lT [],bF,l1],(v 2),o1] true false)]⟩):=ex (.cons k95 (.cons k206 (.cons k348 .nil))) (by kernel_rfl)
theorem k350:Shows Tryz.prog 57 (.h ⟨[.c (.sl 0 0 2 false),.c (.t (n64 1)),.c (.t (n64 1))],[some (.var [.sl 1 0 4 false,.sl 2 0 4 false]),some (.rows 4 [o1,(w 2),o1,[bF,lT [],bF,l1]] true false),some (.rows 4 [[bF,lT [],bF,l1],[bF,lT [],bF,l1],(v 2),o1] true false)]⟩) (.h ⟨[.c (.t (n64 (-1)))],[some (.var [.sl 1 0 4 false,.sl 2 0 4 false]),some (.rows 4 [o1,(w 2),o1,[bF,lT [],bF,l1]] true false),some (.rows 4 [[bF,lT [],bF,l1],[bF,lT [],bF,l1],(v 2),o1] true false)]⟩):=ex (.cons k208 .nil) (by kernel_rfl)
theorem k351:Shows Tryz.prog 57 (.h ⟨[.c (.sl 0 0 2 false),.c (.t (n64 1)),.c (.t (n64 2))],[some (.var [.sl 1 0 4 false,.sl 2 0 4 false]),some (.rows 4 [o1,(w 2),o1,[bF,lT [],bF,l1]] true false),some (.rows 4 [[bF,lT [],bF,l1],[bF,lT [],bF,l1],(v 2),o1] true false)]⟩) (.h ⟨[.c (.t (n64 1))],[some (.var [.sl 1 0 4 false,.sl 2 0 4 false]),some (.rows 4 [o1,(w 2),o1,[bF,lT [],bF,l1]] true false),some (.rows 4 [[bF,lT [],bF,l1],[bF,lT [],bF,l1],(v 2),o1] true false)]⟩):=ex (.cons k147 .nil) (by kernel_rfl)
theorem k352:AC 138 [x l1] [y (w64 1)] n1:=ex .nil (by kernel_rfl)
theorem k353:AC 119 [g [bF,l1],g [bF,lF [u 2]]] [h [bF,l1]] n2:=ex (d4 k53 k149 k112 k152 (c4 k352 k160 k52 k54)) (by kernel_rfl)
theorem k354:AC 82 [g [bF,l1],g [bF,lF [u 2]]] [h [bF,l1,bF,lF [u 2]]] n2:=ex (c3 k60 k353 k49) (by kernel_rfl)
theorem k355:AC 35 [g [bT,l1,bF,lF [u 2]],g o1] [h [bT,l1,bF,lF [u 2]]] n2:=ex (c4 k156 k354 k291 k61) (by kernel_rfl)
theorem k356:AC 108 [g o1,.ref [bT,l1,bF,lF [u 2]]] [h [bT,l1,bF,lF [u 2]]] [none,some (.var [.t (bT),.t (l1),.t (bF),.t (lF [u 2])])]:=ex (c1 k355) (by kernel_rfl)
theorem k357:AC 107 [x (lF [[bF,lT [],bF,l1],[bF,lT [],bF,l1],(v 2),o1]),.clo 108 [(2,(0,0))],.gh [bT,l1,bF,lF [u 2]]] [.own 4 [[bF,lT [],bF,l1],[bF,lT [],bF,l1],o1,[bT,l1,bF,lF [u 2]]]] [none,none,some (.var [.t (bT),.t (l1),.t (bF),.t (lF [u 2])])]:=ex (c3 k182 k190 k356) (by kernel_rfl)
theorem k358:AC 84 [g [bT,l1]] [y (n64 (-1))] n1:=ex .nil (by kernel_rfl)
theorem k359:AC 36 [g [bT,l1,bF,lF [u 2]]] [y (n64 (-1))] n1:=ex (c1 k358) (by kernel_rfl)
theorem k360:AC 83 [x (lF [[bF,l1],[bT,l1]])] [h [bT,l1]] n1:=ex (c3 k55 k49 k175) (by kernel_rfl)
theorem k361:AC 35 [g o1,g [bT,l1,bF,lF [u 2]]] [h [bT,l1,bF,lF [u 2]]] n2:=ex (c4 k354 k156 k360 k204) (by kernel_rfl)
theorem k362:AC 85 [g [bT,l1]] [h [bF,l1]] n1:=ex (c2 k149 k54) (by kernel_rfl)
theorem k363:AC 38 [g [bT,l1,bF,lF [u 2]]] [h [bF,l1,bF,lF [u 2]]] n1:=ex (c1 k362) (by kernel_rfl)
theorem k364:AC 142 [x (lT []),x (lF [u 2])] [y (lF [])] n2:=ex (c1 k86) (by kernel_rfl)
theorem k365:AC 121 [g [bF,lT []],g [bF,lF [u 2]]] [h [bF,lT []]] n2:=ex (c2 k364 k89) (by kernel_rfl)
theorem k366:AC 83 [x (lF [[bF,lT []],[bF,lF [u 2]]])] [h [bF,lT []]] n1:=ex (d4 k55 k176 k49 k60 (c1 k365)) (by kernel_rfl)
theorem k367:AC 140 [x (lT []),x l1] [y l1] n2:=ex (c1 k51) (by kernel_rfl)
theorem k368:AC 124 [g [bF,lT []],g [bF,l1]] [h [bF,l1]] n2:=ex (c2 k367 k54) (by kernel_rfl)
theorem k369:AC 86 [g [bF,lT [],bF,l1],g [bF,l1,bF,lF [u 2]]] [h [bF,l1,bF,lF [u 2]]] n2:=ex (d4 k366 k56 k368 k61 (c1 k354)) (by kernel_rfl)
theorem k370:AC 126 [g [bF,lT [],bF,l1],g [bT,l1,bF,lF [u 2]]] [h [bF,l1,bF,lF [u 2]]] n2:=ex (c2 k363 k369) (by kernel_rfl)
theorem k371:AC 94 [.bor 4 [o1,(w 2),o1,[bF,lT [],bF,l1]],g o1,.bor 4 [[bF,lT [],bF,l1],[bF,lT [],bF,l1],o1,[bT,l1,bF,lF [u 2]]]] [] [some (.rows 4 [o1,(w 2),[bF,lT [],bF,l1],[bF,l1,bF,lF [u 2]]] false false),none,some (.rows 4 [[bF,lT [],bF,l1],[bF,lT [],bF,l1],o1,[bT,l1,bF,lF [u 2]]] false false)]:=ex (d4 k46 k208 k57 k296 (c3 k359 k361 k370)) (by kernel_rfl)
theorem k372:Shows Tryz.prog 58 (.h ⟨[.c (.sl 0 0 1 false),.c (.sl 1 0 4 false),.c (.t (n64 2))],[some (.var [.sl 2 0 4 false,.sl 1 0 4 false]),some (.rows 4 [[bF,lT [],bF,l1],[bF,lT [],bF,l1],o1,[bT,l1,bF,lF [u 2]]] true false),some (.rows 4 [o1,(w 2),o1,[bF,lT [],bF,l1]] true false)]⟩) (.h ⟨[],[some (.var [.sl 2 0 4 false,.sl 1 0 4 false]),some (.rows 4 [[bF,lT [],bF,l1],[bF,lT [],bF,l1],o1,[bT,l1,bF,lF [u 2]]] true false),some (.rows 4 [o1,(w 2),[bF,lT [],bF,l1],[bF,l1,bF,lF [u 2]]] true false)]⟩):=ex (.cons k46 (.cons k289 (.cons k371 .nil))) (by kernel_rfl)
theorem k373:Shows Tryz.prog 58 (.h ⟨[.c (.sl 0 2 0 false),.c (.sl 1 0 4 false),.c (.t (n64 2))],[some (.var [.sl 2 0 4 false,.sl 1 0 4 false]),some (.rows 4 [[bF,lT [],bF,l1],[bF,lT [],bF,l1],o1,[bT,l1,bF,lF [u 2]]] true false),some (.rows 4 [o1,(w 2),[bF,lT [],bF,l1],[bF,l1,bF,lF [u 2]]] true false)]⟩) (.h ⟨[],[some (.var [.sl 2 0 4 false,.sl 1 0 4 false]),some (.rows 4 [[bF,lT [],bF,l1],[bF,lT [],bF,l1],o1,[bT,l1,bF,lF [u 2]]] true false),some (.rows 4 [o1,(w 2),[bF,lT [],bF,l1],[bF,l1,bF,lF [u 2]]] true false)]⟩):=ex (.nil) (by kernel_rfl)
theorem k374:Shows Tryz.prog 57 (.h ⟨[.c (.sl 0 0 2 false),.c (.t (n64 2)),.c (.t (n64 3))],[some (.var [.sl 1 0 4 false,.sl 2 0 4 false]),some (.rows 4 [o1,(w 2),[bF,lT [],bF,l1],[bF,l1,bF,lF [u 2]]] true false),some (.rows 4 [[bF,lT [],bF,l1],[bF,lT [],bF,l1],o1,[bT,l1,bF,lF [u 2]]] true false)]⟩) (.h ⟨[.c (.t (n64 (-1)))],[some (.var [.sl 1 0 4 false,.sl 2 0 4 false]),some (.rows 4 [o1,(w 2),[bF,lT [],bF,l1],[bF,l1,bF,lF [u 2]]] true false),some (.rows 4 [[bF,lT [],bF,l1],[bF,lT [],bF,l1],o1,[bT,l1,bF,lF [u 2]]] true false)]⟩):=ex (.nil) (by kernel_rfl)
theorem k375:Shows Tryz.prog 61 (.h ⟨[.c (.sl 0 0 2 false)],[some (.var [.sl 1 0 4 false,.sl 2 0 4 false]),some (.rows 4 [o1,(w 2),o1,[bF,lT [],bF,l1]] true false),some (.rows 4 [(w 2),(w 4),[bF,lT [],bF,l1],o1] true false)]⟩) (.h ⟨[.c (.sl 3 0 2 false),.c (.sl 4 0 2 false)],[some (.var [.sl 1 0 4 false,.sl 2 0 4 false]),some (.rows 4 [o1,(w 2),o1,[bF,lT [],bF,l1]] true false),some (.rows 4 [(w 2),(w 4),[bF,lT [],bF,l1],o1] true false),some (.var [.sl 5 0 4 false,.sl 6 0 4 false]),some (.rows 1 [[n64 0],[n64 2]] true false),some (.rows 4 [o1,(w 2),[bF,lT [],bF,l1],[bF,l1,bF,lF [u 2]]] true false),some (.rows 4 [[bF,lT [],bF,l1],[bF,lT [],bF,l1],o1,[bT,l1,bF,lF [u 2]]] true false)]⟩):=ex (.cons k338 (.cons k339 (.cons k340 (.cons k48 (.cons k341 (.cons k342 (.cons k349 (.cons k350 (.cons k351 (.cons k155 (.cons k357 (.cons k372 (.cons k373 (.cons k374 .nil)))))))))))))) (by kernel_rfl)
theorem k376:AC 16 [x (lF [[lF [o1,(w 2)]],[lF [(w 2),(w 4)]]])] [y (lT []),y (n64 110)] n1:=ex (d4 k335 k247 k326 k39 (c2 k252 k375)) (by kernel_rfl)
theorem k377:AC 110 [x (lF [o1,(w 2)])] [.own 4 [o1,(w 2)]] n1:=ex .nil (by kernel_rfl)
theorem k378:AC 110 [x (lF [(w 3),(w 4)])] [.own 4 [(w 3),(w 4)]] n1:=ex .nil (by kernel_rfl)
theorem k379:Shows Tryz.prog 55 (.h ⟨[.c (.t (lF [[lF [o1,(w 2)]],[lF [(w 3),(w 4)]]])),.c (.t (.v (.func (.func 110) #[] #[])))],[]⟩) (.h ⟨[.c (.sl 0 0 2 false)],[some (.var [.sl 1 0 2 false,.sl 2 0 2 false]),some (.rows 4 [o1,(w 2)] true false),some (.rows 4 [(w 3),(w 4)] true false)]⟩):=ex (.cons k377 (.cons k378 .nil)) (by kernel_rfl)
theorem k380:AC 65 [x (lF [[lF [o1,(w 2)]],[lF [(w 3),(w 4)]]])] [y (lF [[lF [o1,(w 2)]],[lF [(w 3),(w 4)]]])] n1:=ex (c1 k379) (by kernel_rfl)
theorem k381:AC 88 [x (n64 2)] [.own 4 [[bF,lT [],bF,l1],[bF,lT [],bF,l1]]] n1:=ex (c1 k246) (by kernel_rfl)
theorem k382:AC 36 [g o2] [y (n64 (-1))] n1:=ex (c1 k358) (by kernel_rfl)
theorem k383:AC 35 [g o2,g o1] [h o2] n2:=ex (c4 k156 k50 k291 k56) (by kernel_rfl)
theorem k384:AC 136 [x (lT []),x l1] [y (n64 (-1))] n2:=ex .nil (by kernel_rfl)
theorem k385:AC 141 [x l1,x (lT [])] [y l1] n2:=ex (c1 k53) (by kernel_rfl)
theorem k386:AC 124 [g [bF,lT []],g [bT,l1]] [h [bT,l1]] n2:=ex (c3 k384 k385 k150) (by kernel_rfl)
theorem k387:AC 86 [g [bF,lT [],bF,l1],g o2] [h o2] n2:=ex (d4 k343 k291 k386 k56 (c1 k156)) (by kernel_rfl)
theorem k388:AC 89 [.bor 4 [[bF,lT [],bF,l1],[bF,lT [],bF,l1]],g o2,x (lF [o1]),x (n64 0)] [] [some (.rows 4 [o2,[bF,lT [],bF,l1]] false false),none,none,none]:=ex (c4 k382 k46 k383 k387) (by kernel_rfl)
theorem k389:AC 86 [g [bF,lT [],bF,l1],g o1] [h o1] n2:=ex (c4 k343 k56 k368 k50) (by kernel_rfl)
theorem k390:AC 89 [.bor 4 [o2,[bF,lT [],bF,l1]],g o1,x (lF [o1]),x (n64 1)] [] [some (.rows 4 [o2,o1] false false),none,none,none]:=ex (c3 k46 k57 k389) (by kernel_rfl)
theorem k391:AC 90 [x (lF [o2,o1])] [y (lF [o2,o1])] n1:=ex (c1 k46) (by kernel_rfl)
theorem k392:AC 42 [x (lF [o2,o1]),x (lF [o1])] [y (lF [o2,o1])] n2:=ex (c4 k381 k388 k390 k391) (by kernel_rfl)
theorem k393:AC 88 [x (n64 3)] [.own 4 [[bF,lT [],bF,l1],[bF,lT [],bF,l1],[bF,lT [],bF,l1]]] n1:=ex (c1 k246) (by kernel_rfl)
theorem k394:AC 84 [g [bT,lF [u 4]]] [y (n64 (-1))] n1:=ex .nil (by kernel_rfl)
theorem k395:AC 36 [g (v 4)] [y (n64 (-1))] n1:=ex (c1 k394) (by kernel_rfl)
theorem k396:AC 142 [x (lF [u 4]),x l1] [y (lF [u 4])] n2:=ex (c1 k260) (by kernel_rfl)
theorem k397:AC 121 [g [bT,lF [u 4]],g [bT,l1]] [h [bF,lF [u 4]]] n2:=ex (c2 k396 k262) (by kernel_rfl)
theorem k398:AC 83 [x (lF [[bT,lF [u 4]],[bT,l1]])] [h [bF,lF [u 4]]] n1:=ex (d4 k55 k269 k49 k175 (c1 k397)) (by kernel_rfl)
theorem k399:AC 35 [g (v 4),g o2] [h (w 4)] n2:=ex (c4 k234 k156 k398 k56) (by kernel_rfl)
theorem k400:AC 140 [x (lT []),x (lF [u 4])] [y (lF [u 4])] n2:=ex (c1 k260) (by kernel_rfl)
theorem k401:AC 124 [g [bF,lT []],g [bF,lF [u 4]]] [h [bF,lF [u 4]]] n2:=ex (c2 k400 k262) (by kernel_rfl)
theorem k402:AC 82 [g [bF,lF [u 4]],g [bF,l1]] [h (w 4)] n2:=ex (c1 k49) (by kernel_rfl)
theorem k403:AC 86 [g [bF,lT [],bF,l1],g (w 4)] [h (w 4)] n2:=ex (d4 k343 k108 k401 k56 (c1 k402)) (by kernel_rfl)
theorem k404:AC 35 [g (v 4),g o1] [h (v 4)] n2:=ex (c4 k234 k50 k270 k56) (by kernel_rfl)
theorem k405:AC 136 [x (lT []),x (lF [u 4])] [y (n64 (-1))] n2:=ex .nil (by kernel_rfl)
theorem k406:AC 141 [x (lF [u 4]),x (lT [])] [y (lF [u 4])] n2:=ex (c1 k230) (by kernel_rfl)
theorem k407:AC 124 [g [bF,lT []],g [bT,lF [u 4]]] [h [bT,lF [u 4]]] n2:=ex (c3 k405 k406 k232) (by kernel_rfl)
theorem k408:AC 86 [g [bF,lT [],bF,l1],g (v 4)] [h (v 4)] n2:=ex (d4 k343 k270 k407 k56 (c1 k234)) (by kernel_rfl)
theorem k409:AC 89 [.bor 4 [[bF,lT [],bF,l1],[bF,lT [],bF,l1],[bF,lT [],bF,l1]],g (v 4),x (lF [o2,o1]),x (n64 0)] [] [some (.rows 4 [(w 4),(v 4),[bF,lT [],bF,l1]] false false),none,none,none]:=ex (d4 k395 k382 k399 k403 (c3 k46 k404 k408)) (by kernel_rfl)
theorem k410:AC 35 [g o1,g o2] [h o2] n2:=ex (c4 k50 k156 k360 k56) (by kernel_rfl)
theorem k411:AC 137 [x (lF [u 5,u 0])] [y (lF [u 5])] n1:=ex .nil (by kernel_rfl)
theorem k412:AC 140 [x (lF [u 4]),x l1] [y (lF [u 5])] n2:=ex (c1 k411) (by kernel_rfl)
theorem k413:AC 137 [x (lF [u 5])] [y (lF [u 5])] n1:=ex .nil (by kernel_rfl)
theorem k414:AC 122 [x bT,x (lF [u 5])] [h [bT,lF [u 5]]] n2:=ex (c1 k413) (by kernel_rfl)
theorem k415:AC 124 [g [bT,lF [u 4]],g [bT,l1]] [h [bT,lF [u 5]]] n2:=ex (c2 k412 k414) (by kernel_rfl)
theorem k416:AC 82 [g [bT,lF [u 5]],g [bF,l1]] [h (v 5)] n2:=ex (c1 k49) (by kernel_rfl)
theorem k417:AC 86 [g (v 4),g o2] [h (v 5)] n2:=ex (d4 k270 k291 k415 k56 (c1 k416)) (by kernel_rfl)
theorem k418:AC 89 [.bor 4 [(w 4),(v 4),[bF,lT [],bF,l1]],g o1,x (lF [o2,o1]),x (n64 1)] [] [some (.rows 4 [(w 4),(v 5),o1] false false),none,none,none]:=ex (d4 k46 k382 k410 k417 (c2 k57 k389)) (by kernel_rfl)
theorem k419:AC 90 [x (lF [(w 4),(v 5),o1])] [y (lF [(w 4),(v 5),o1])] n1:=ex (c1 k46) (by kernel_rfl)
theorem k420:AC 42 [x (lF [(v 4),o1]),x (lF [o2,o1])] [y (lF [(w 4),(v 5),o1])] n2:=ex (c4 k393 k409 k418 k419) (by kernel_rfl)
theorem k421:AC 88 [x (n64 1)] [.own 4 [[bF,lT [],bF,l1]]] n1:=ex (c1 k246) (by kernel_rfl)
theorem k422:AC 84 [g [bF,lF [u 6]]] [y (n64 1)] n1:=ex .nil (by kernel_rfl)
theorem k423:AC 36 [g (w 6)] [y (n64 1)] n1:=ex (c1 k422) (by kernel_rfl)
theorem k424:AC 82 [g [bF,lF [u 6]],g [bF,l1]] [h (w 6)] n2:=ex (c1 k49) (by kernel_rfl)
theorem k425:AC 35 [g (w 6),g o1] [h (w 6)] n2:=ex (c4 k424 k50 k133 k56) (by kernel_rfl)
theorem k426:AC 140 [x (lT []),x (lF [u 6])] [y (lF [u 6])] n2:=ex (c1 k96) (by kernel_rfl)
theorem k427:AC 124 [g [bF,lT []],g [bF,lF [u 6]]] [h [bF,lF [u 6]]] n2:=ex (c2 k426 k99) (by kernel_rfl)
theorem k428:AC 86 [g [bF,lT [],bF,l1],g (w 6)] [h (w 6)] n2:=ex (d4 k343 k133 k427 k56 (c1 k424)) (by kernel_rfl)
theorem k429:AC 89 [.bor 4 [[bF,lT [],bF,l1]],g (w 6),x (lF [o1]),x (n64 0)] [] [some (.rows 4 [(w 6)] false false),none,none,none]:=ex (c4 k423 k46 k425 k428) (by kernel_rfl)
theorem k430:AC 90 [x (lF [(w 6)])] [y (lF [(w 6)])] n1:=ex (c1 k423) (by kernel_rfl)
theorem k431:AC 67 [g (w 6),x (lF [o1])] [y (lF [(w 6)])] n2:=ex (c3 k421 k429 k430) (by kernel_rfl)
theorem k432:AC 92 [x (n64 (-1))] [h [bT,l1]] n1:=ex (c2 k52 k150) (by kernel_rfl)
theorem k433:AC 91 [g [bT,l1]] [h o2] n1:=ex (c1 k55) (by kernel_rfl)
theorem k434:AC 41 [x (n64 (-1))] [h o2] n1:=ex (c2 k432 k433) (by kernel_rfl)
theorem k435:AC 142 [x l1,x (lF [u 6])] [y (lF [u 6])] n2:=ex (c1 k96) (by kernel_rfl)
theorem k436:AC 121 [g [bT,l1],g [bF,lF [u 6]]] [h [bT,lF [u 6]]] n2:=ex (c2 k435 k104) (by kernel_rfl)
theorem k437:AC 83 [x (lF [[bT,l1],[bF,lF [u 6]]])] [h [bT,lF [u 6]]] n1:=ex (d4 k55 k175 k49 k132 (c1 k436)) (by kernel_rfl)
theorem k438:AC 35 [g o2,g (w 6)] [h (v 6)] n2:=ex (c4 k156 k424 k437 k56) (by kernel_rfl)
theorem k439:AC 89 [.bor 4 [(w 4),(v 5),o1],g o2,x (lF [(w 6)]),x (n64 0)] [] [some (.rows 4 [(v 2),(v 5),o1] false false),none,none,none]:=ex (c4 k382 k423 k438 k117) (by kernel_rfl)
open Go Go.Abs Go.Proofs
theorem k440:AC 90 [x (lF [(v 2),(v 5),o1])] [y (lF [(v 2),(v 5),o1])] n1:=ex (c1 k46) (by kernel_rfl)
theorem k441:AC 111 [x (lF [(w 4),(v 5),o1]),g o2,x (lF [(w 6)]),x (n64 0)] [y (lF [(v 2),(v 5),o1])] n4:=ex (c3 k393 k439 k440) (by kernel_rfl)
theorem k442:AC 66 [x (lF [(w 4),(v 5),o1]),x (lF [(w 6)])] [y (lF [(v 2),(v 5),o1])] n2:=ex (c2 k434 k441) (by kernel_rfl)
theorem k443:AC 20 [x (lF [[lF [o1,(w 2)]],[lF [(w 3),(w 4)]]])] [y (lF [(v 2),(v 5),o1]),y (n64 0)] n1:=ex (d4 k323 k380 k326 k290 (d4 k392 k268 k420 k312 (c3 k102 k431 k442))) (by kernel_rfl)
theorem k444:AC 143 [x (lF [u 0,u 0])] [y (lF [])] n1:=ex .nil (by kernel_rfl)
theorem k445:AC 129 [x (w64 0)] [y (lF [])] n1:=ex (c1 k444) (by kernel_rfl)
theorem k446:AC 143 [x (lF [])] [y (lF [])] n1:=ex .nil (by kernel_rfl)
theorem k447:AC 128 [x bF,x (lF [])] [h [bF,lF []]] n2:=ex (c1 k446) (by kernel_rfl)
theorem k448:AC 101 [x (n64 0)] [h [bF,lF []]] n1:=ex (c2 k445 k447) (by kernel_rfl)
theorem k449:AC 53 [x (n64 0)] [h o0] n1:=ex (c2 k448 k4) (by kernel_rfl)
theorem k450:AC 50 [x (lF [[n64 2],[n64 0],[n64 0],[n64 2]])] [y (lF [[lF [(w 2),o0]],[lF [o0,(w 2)]]])] n1:=ex (c2 k11 k449) (by kernel_rfl)
theorem k451:Shows Tryz.prog 80 (.h ⟨[.c (.t (lF [[lF [(w 2),o0]],[lF [o0,(w 2)]]]))],[]⟩) (.h ⟨[.c (.t (n64 2))],[]⟩):=ex (.nil) (by kernel_rfl)
theorem k452:Shows Tryz.prog 54 (.h ⟨[.c (.t (lF [[lF [(w 2),o0]],[lF [o0,(w 2)]]]))],[]⟩) (.h ⟨[.c (.t (bT))],[]⟩):=ex (.cons k451 .nil) (by kernel_rfl)
theorem k453:AC 84 [g [bF,lF []]] [y (n64 0)] n1:=ex .nil (by kernel_rfl)
theorem k454:AC 36 [g o0] [y (n64 0)] n1:=ex (c1 k453) (by kernel_rfl)
theorem k455:AC 115 [x (lF [[lF [(w 2),o0]],[lF [o0,(w 2)]]]),x (lF [[bF,lT [],bF,l1],[bF,lT [],bF,l1]])] [.own 4 [[bF,lT [],bF,l1],[bF,lT [],bF,l1]]] n2:=ex (c4 k247 k95 k208 k454) (by kernel_rfl)
theorem k456:AC 38 [g o2] [h o1] n1:=ex (c1 k362) (by kernel_rfl)
theorem k457:AC 126 [g [bF,lT [],bF,l1],g o2] [h o1] n2:=ex (c2 k456 k389) (by kernel_rfl)
theorem k458:AC 94 [.bor 4 [[bF,lT [],bF,l1],[bF,lT [],bF,l1]],g o2,x (lF [o1,[bF,lT [],bF,l1]])] [] [some (.rows 4 [o1,[bF,lT [],bF,l1]] false false),none,none]:=ex (d4 k382 k46 k383 k457 (c1 k208)) (by kernel_rfl)
theorem k459:AC 74 [x (lF [o1]),x (lF [[lF [(w 2),o0]],[lF [o0,(w 2)]]]),x (lF [o1,[bF,lT [],bF,l1]])] [.own 4 [o1,[bF,lT [],bF,l1]]] [none,none,none]:=ex (c4 k247 k455 k290 k458) (by kernel_rfl)
theorem k460:AC 114 [g o1,.ref o1] [h o1] [none,some (.var [.t (bF),.t (l1),.t (bF),.t (l1)])]:=ex (c1 k57) (by kernel_rfl)
theorem k461:AC 114 [g [bF,lT [],bF,l1],.ref o1] [h [bF,lT [],bF,l1]] [none,some (.var [.t (bF),.t (l1),.t (bF),.t (l1)])]:=ex (c1 k286) (by kernel_rfl)
theorem k462:AC 107 [x (lF [o1,[bF,lT [],bF,l1]]),.clo 114 [(2,(0,0))],.gh o1] [.own 4 [o1,[bF,lT [],bF,l1]]] [none,none,some (.var [.t (bF),.t (l1),.t (bF),.t (l1)])]:=ex (c2 k460 k461) (by kernel_rfl)
theorem k463:AC 89 [.bor 4 [[bF,lT [],bF,l1]],g o1,x (lF [o1]),x (n64 0)] [] [some (.rows 4 [o1] false false),none,none,none]:=ex (c3 k46 k57 k389) (by kernel_rfl)
theorem k464:AC 90 [x (lF [o1])] [y (lF [o1])] n1:=ex (c1 k46) (by kernel_rfl)
theorem k465:AC 67 [g o1,x (lF [o1])] [y (lF [o1])] n2:=ex (c3 k421 k463 k464) (by kernel_rfl)
theorem k466:AC 140 [x (lT []),x (lF [u 2])] [y (lF [u 2])] n2:=ex (c1 k161) (by kernel_rfl)
theorem k467:AC 124 [g [bF,lT []],g [bF,lF [u 2]]] [h [bF,lF [u 2]]] n2:=ex (c2 k466 k153) (by kernel_rfl)
theorem k468:AC 86 [g [bF,lT [],bF,l1],g (w 2)] [h (w 2)] n2:=ex (d4 k343 k204 k467 k56 (c1 k59)) (by kernel_rfl)
theorem k469:AC 115 [x (lF [[lF [(w 2),o0]],[lF [o0,(w 2)]]]),x (lF [o1,[bF,lT [],bF,l1]])] [.own 4 [(w 2),[bF,lT [],bF,l1]]] n2:=ex (d4 k247 k95 k46 k205 (c3 k468 k454 k208)) (by kernel_rfl)
theorem k470:AC 89 [.bor 4 [[bF,lT [],bF,l1],[bF,lT [],bF,l1]],g o1,x (lF [[bF,lT [],bF,l1],o1]),x (n64 0)] [] [some (.rows 4 [[bF,lT [],bF,l1],o1] false false),none,none,none]:=ex (c4 k46 k208 k57 k389) (by kernel_rfl)
theorem k471:AC 90 [x (lF [[bF,lT [],bF,l1],o1])] [y (lF [[bF,lT [],bF,l1],o1])] n1:=ex (c1 k46) (by kernel_rfl)
theorem k472:AC 42 [x (lF [o1]),x (lF [[bF,lT [],bF,l1],o1])] [y (lF [[bF,lT [],bF,l1],o1])] n2:=ex (c3 k381 k470 k471) (by kernel_rfl)
theorem k473:AC 94 [.bor 4 [(w 2),[bF,lT [],bF,l1]],g (w 2),x (lF [o1,[bF,lT [],bF,l1]])] [] [some (.rows 4 [[bF,lT [],bF,l1],[bF,lT [],bF,l1]] false false),none,none]:=ex (d4 k95 k46 k205 k216 (c1 k208)) (by kernel_rfl)
theorem k474:AC 89 [.bor 4 [[bF,lT [],bF,l1]],g (w 2),x (lF [o1]),x (n64 0)] [] [some (.rows 4 [(w 2)] false false),none,none,none]:=ex (c4 k95 k46 k205 k468) (by kernel_rfl)
theorem k475:AC 90 [x (lF [(w 2)])] [y (lF [(w 2)])] n1:=ex (c1 k95) (by kernel_rfl)
theorem k476:AC 67 [g (w 2),x (lF [o1])] [y (lF [(w 2)])] n2:=ex (c3 k421 k474 k475) (by kernel_rfl)
theorem k477:AC 142 [x l1,x (lF [u 2])] [y (lF [u 2])] n2:=ex (c1 k161) (by kernel_rfl)
theorem k478:AC 121 [g [bT,l1],g [bF,lF [u 2]]] [h [bT,lF [u 2]]] n2:=ex (c2 k477 k114) (by kernel_rfl)
theorem k479:AC 83 [x (lF [[bT,l1],[bF,lF [u 2]]])] [h [bT,lF [u 2]]] n1:=ex (d4 k55 k175 k49 k60 (c1 k478)) (by kernel_rfl)
theorem k480:AC 35 [g o2,g (w 2)] [h (v 2)] n2:=ex (c4 k156 k59 k479 k56) (by kernel_rfl)
theorem k481:AC 89 [.bor 4 [[bF,lT [],bF,l1],o1],g o2,x (lF [(w 2)]),x (n64 0)] [] [some (.rows 4 [(v 2),o1] false false),none,none,none]:=ex (c4 k382 k95 k480 k346) (by kernel_rfl)
theorem k482:AC 90 [x (lF [(v 2),o1])] [y (lF [(v 2),o1])] n1:=ex (c1 k46) (by kernel_rfl)
theorem k483:AC 111 [x (lF [[bF,lT [],bF,l1],o1]),g o2,x (lF [(w 2)]),x (n64 0)] [y (lF [(v 2),o1])] n4:=ex (c3 k381 k481 k482) (by kernel_rfl)
theorem k484:AC 66 [x (lF [[bF,lT [],bF,l1],o1]),x (lF [(w 2)])] [y (lF [(v 2),o1])] n2:=ex (c2 k434 k483) (by kernel_rfl)
theorem k485:AC 89 [.bor 4 [[bF,lT [],bF,l1],[bF,lT [],bF,l1]],g o1,x (lF [(v 2),o1]),x (n64 0)] [] [some (.rows 4 [(v 2),o1] false false),none,none,none]:=ex (d4 k46 k147 k332 k346 (c2 k57 k389)) (by kernel_rfl)
theorem k486:AC 67 [g o1,x (lF [(v 2),o1])] [y (lF [(v 2),o1])] n2:=ex (c3 k381 k485 k482) (by kernel_rfl)
theorem k487:AC 113 [x (lF [(v 2),o1])] [y (lF [(v 2),o1])] n1:=ex (c2 k48 k486) (by kernel_rfl)
theorem k488:AC 73 [x (lF [[lF [(w 2),o0]],[lF [o0,(w 2)]]]),x (lF [o1,[bF,lT [],bF,l1]])] [y (lF [(v 2),o1])] n2:=ex (d4 k326 k246 k46 k48 (d4 k462 k465 k469 k472 (d4 k473 k476 k484 k208 (c1 k487)))) (by kernel_rfl)
theorem k489:AC 42 [x (lF [o1]),x (lF [(v 2),o1])] [y (lF [(v 2),o1])] n2:=ex (c3 k381 k485 k482) (by kernel_rfl)
theorem k490:AC 94 [.bor 4 [[bF,lT [],bF,l1],[bF,lT [],bF,l1]],g o2,x (lF [[bF,lT [],bF,l1],o1])] [] [some (.rows 4 [[bF,lT [],bF,l1],o1] false false),none,none]:=ex (d4 k382 k208 k46 k383 (c1 k457)) (by kernel_rfl)
theorem k491:AC 115 [x (lF [[lF [(w 2),o0]],[lF [o0,(w 2)]]]),x (lF [[bF,lT [],bF,l1],o1])] [.own 4 [[bF,lT [],bF,l1],(w 2)]] n2:=ex (d4 k247 k95 k208 k454 (c3 k46 k205 k468)) (by kernel_rfl)
theorem k492:AC 38 [g (v 2)] [h (w 2)] n1:=ex (c1 k154) (by kernel_rfl)
theorem k493:AC 94 [.bor 4 [[bF,lT [],bF,l1],(w 2)],g (w 2),x (lF [[bF,lT [],bF,l1],o1])] [] [some (.rows 4 [[bF,lT [],bF,l1],[bF,lT [],bF,l1]] false false),none,none]:=ex (d4 k95 k208 k46 k205 (c1 k216)) (by kernel_rfl)
theorem k494:AC 74 [x (lF [(v 2),o1]),x (lF [[lF [(w 2),o0]],[lF [o0,(w 2)]]]),x (lF [[bF,lT [],bF,l1],o1])] [.own 4 [[bF,lT [],bF,l1],[bF,lT [],bF,l1]]] [none,none,none]:=ex (d4 k247 k455 k290 k490 (c3 k491 k492 k493)) (by kernel_rfl)
theorem k495:AC 113 [x (lF [o1])] [y (lF [o1])] n1:=ex (c2 k48 k465) (by kernel_rfl)
theorem k496:AC 73 [x (lF [[lF [(w 2),o0]],[lF [o0,(w 2)]]]),x (lF [[bF,lT [],bF,l1],[bF,lT [],bF,l1]])] [y (lF [o1])] n2:=ex (c4 k326 k246 k208 k495) (by kernel_rfl)
theorem k497:AC 35 [g (v 2),g o1] [h (v 2)] n2:=ex (c4 k116 k50 k212 k56) (by kernel_rfl)
theorem k498:AC 89 [.bor 4 [[bF,lT [],bF,l1],[bF,lT [],bF,l1]],g (v 2),x (lF [o1]),x (n64 0)] [] [some (.rows 4 [(v 2),[bF,lT [],bF,l1]] false false),none,none,none]:=ex (c4 k147 k46 k497 k346) (by kernel_rfl)
theorem k499:AC 89 [.bor 4 [(v 2),[bF,lT [],bF,l1]],g o1,x (lF [o1]),x (n64 1)] [] [some (.rows 4 [(v 2),o1] false false),none,none,none]:=ex (c3 k46 k57 k389) (by kernel_rfl)
theorem k500:AC 42 [x (lF [(v 2),o1]),x (lF [o1])] [y (lF [(v 2),o1])] n2:=ex (c4 k381 k498 k499 k482) (by kernel_rfl)
theorem k501:AC 22 [x (lF [[lF [(w 2),o0]],[lF [o0,(w 2)]]])] [y (lF [(v 2),o1]),y (n64 0)] n1:=ex (d4 k452 k326 k247 k459 (d4 k488 k489 k494 k496 (c1 k500))) (by kernel_rfl)
theorem k502:AC 50 [x (lF [[n64 0],[n64 1],[n64 1],[n64 0]])] [y (lF [[lF [o0,o1]],[lF [o1,o0]]])] n1:=ex (c2 k449 k5) (by kernel_rfl)
theorem k503:Shows Tryz.prog 80 (.h ⟨[.c (.t (lF [[lF [o0,o1]],[lF [o1,o0]]]))],[]⟩) (.h ⟨[.c (.t (n64 2))],[]⟩):=ex (.nil) (by kernel_rfl)
theorem k504:Shows Tryz.prog 54 (.h ⟨[.c (.t (lF [[lF [o0,o1]],[lF [o1,o0]]]))],[]⟩) (.h ⟨[.c (.t (bT))],[]⟩):=ex (.cons k503 .nil) (by kernel_rfl)
theorem k505:AC 116 [g [bF,l1],g [bF,l1]] [y (n64 0)] n2:=ex (c2 k45 k292) (by kernel_rfl)
theorem k506:AC 76 [g o1,g o1] [y (n64 0)] n2:=ex (c3 k46 k56 k505) (by kernel_rfl)
theorem k507:AC 56 [x (lF [o0,o1])] [.own 4 [o0,o1]] n1:=ex .nil (by kernel_rfl)
theorem k508:AC 56 [x (lF [o1,o0])] [.own 4 [o1,o0]] n1:=ex .nil (by kernel_rfl)
theorem k509:Shows Tryz.prog 55 (.h ⟨[.c (.t (lF [[lF [o0,o1]],[lF [o1,o0]]])),.c (.t (.v (.func (.func 56) #[] #[])))],[]⟩) (.h ⟨[.c (.sl 0 0 2 false)],[some (.var [.sl 1 0 2 false,.sl 2 0 2 false]),some (.rows 4 [o0,o1] true false),some (.rows 4 [o1,o0] true false)]⟩):=ex (.cons k507 (.cons k508 .nil)) (by kernel_rfl)
theorem k510:AC 118 [g [bF,lF []]] [y bF] n1:=ex .nil (by kernel_rfl)
theorem k511:AC 83 [x (lF [[bF,lF []],[bF,l1]])] [h [bF,lF []]] n1:=ex (c3 k55 k510 k49) (by kernel_rfl)
theorem k512:AC 140 [x (lF []),x l1] [y l1] n2:=ex (c1 k51) (by kernel_rfl)
theorem k513:AC 124 [g [bF,lF []],g [bF,l1]] [h [bF,l1]] n2:=ex (c2 k512 k54) (by kernel_rfl)
theorem k514:AC 86 [g o0,g o1] [h o1] n2:=ex (c4 k511 k56 k513 k50) (by kernel_rfl)
theorem k515:AC 126 [g o0,g o2] [h o1] n2:=ex (c2 k456 k514) (by kernel_rfl)
theorem k516:AC 94 [.bor 4 [o0,o1],g o2,.bor 4 [o1,o0]] [] [some (.rows 4 [o1,o1] false false),none,some (.rows 4 [o1,o0] false false)]:=ex (d4 k382 k46 k383 k515 (c1 k454)) (by kernel_rfl)
theorem k517:AC 140 [x l1,x l1] [y (lF [u 2])] n2:=ex (c1 k161) (by kernel_rfl)
theorem k518:AC 124 [g [bF,l1],g [bF,l1]] [h [bF,lF [u 2]]] n2:=ex (c2 k517 k153) (by kernel_rfl)
theorem k519:AC 86 [g o1,g o1] [h (w 2)] n2:=ex (c3 k56 k518 k59) (by kernel_rfl)
theorem k520:AC 140 [x l1,x (lF [])] [y l1] n2:=ex (c1 k51) (by kernel_rfl)
theorem k521:AC 124 [g [bF,l1],g [bF,lF []]] [h [bF,l1]] n2:=ex (c2 k520 k54) (by kernel_rfl)
theorem k522:AC 86 [g o1,g o0] [h o1] n2:=ex (c4 k56 k511 k521 k50) (by kernel_rfl)
theorem k523:Shows Tryz.prog 77 (.h ⟨[.c (.sl 0 0 2 false),.c (.t (n64 0))],[some (.var [.sl 1 0 2 false,.sl 2 0 2 false]),some (.rows 4 [(w 2),o1] true false),some (.rows 4 [o1,o0] true false)]⟩) (.h ⟨[.c (.t (bT))],[some (.var [.sl 1 0 2 false,.sl 2 0 2 false]),some (.rows 4 [(w 2),o1] true false),some (.rows 4 [o1,o0] true false)]⟩):=ex (.cons k95 .nil) (by kernel_rfl)
theorem k524:Shows Tryz.prog 77 (.h ⟨[.c (.sl 0 0 2 false),.c (.t (n64 0))],[some (.var [.sl 1 0 2 false,.sl 2 0 2 false]),some (.rows 4 [o0,o1] true false),some (.rows 4 [o1,o0] true false)]⟩) (.h ⟨[.c (.t (bT))],[some (.var [.sl 1 0 2 false,.sl 2 0 2 false]),some (.rows 4 [(w 2),o1] true false),some (.rows 4 [o1,o0] true false)]⟩):=ex (.cons k454 (.cons k46 (.cons k434 (.cons k516 (.cons k519 (.cons k522 (.cons k523 .nil))))))) (by kernel_rfl)
theorem k525:AC 87 [g (w 2)] [h [bF,l1,bF,lF [u 2]],y (n64 0)] n1:=ex (c1 k94) (by kernel_rfl)
theorem k526:AC 35 [g o1,g [bF,l1,bF,lF [u 2]]] [h [bF,l1,bF,lF [u 2]]] n2:=ex (c4 k354 k50 k56 k204) (by kernel_rfl)
theorem k527:AC 105 [g o1,g (w 2)] [h [bF,l1,bF,lF [u 2]],y (n64 0)] n2:=ex (c2 k525 k526) (by kernel_rfl)
theorem k528:AC 36 [g [bF,l1,bF,lF [u 2]]] [y (n64 1)] n1:=ex (c1 k45) (by kernel_rfl)
theorem k529:AC 35 [g [bF,l1,bF,lF [u 2]],g (w 2)] [h o1] n2:=ex (c3 k50 k220 k56) (by kernel_rfl)
theorem k530:AC 35 [g [bF,l1,bF,lF [u 2]],g o1] [h [bF,l1,bF,lF [u 2]]] n2:=ex (c4 k50 k354 k56 k61) (by kernel_rfl)
theorem k531:AC 38 [g [bF,l1,bF,lF [u 2]]] [h [bT,l1,bF,lF [u 2]]] n1:=ex (c1 k151) (by kernel_rfl)
theorem k532:AC 142 [x (lF []),x (lF [u 2])] [y (lF [])] n2:=ex (c1 k86) (by kernel_rfl)
theorem k533:AC 121 [g [bF,lF []],g [bF,lF [u 2]]] [h [bF,lT []]] n2:=ex (c2 k532 k89) (by kernel_rfl)
theorem k534:AC 83 [x (lF [[bF,lF []],[bF,lF [u 2]]])] [h [bF,lT []]] n1:=ex (d4 k55 k510 k49 k60 (c1 k533)) (by kernel_rfl)
theorem k535:AC 119 [g [bT,l1],g [bF,lF [u 2]]] [h [bF,l1]] n2:=ex (d4 k53 k149 k112 k152 (c4 k352 k160 k52 k54)) (by kernel_rfl)
theorem k536:AC 82 [g [bT,l1],g [bF,lF [u 2]]] [h [bT,l1,bF,lF [u 2]]] n2:=ex (c3 k60 k535 k49) (by kernel_rfl)
theorem k537:AC 86 [g o0,g [bT,l1,bF,lF [u 2]]] [h [bT,l1,bF,lF [u 2]]] n2:=ex (d4 k534 k291 k386 k61 (c1 k536)) (by kernel_rfl)
theorem k538:AC 126 [g o0,g [bF,l1,bF,lF [u 2]]] [h [bT,l1,bF,lF [u 2]]] n2:=ex (c2 k531 k537) (by kernel_rfl)
theorem k539:AC 94 [.bor 4 [o1,o0],g [bF,l1,bF,lF [u 2]],.bor 4 [(w 2),o1]] [] [some (.rows 4 [[bF,lT [],bF,l1],[bT,l1,bF,lF [u 2]]] false false),none,some (.rows 4 [(w 2),o1] false false)]:=ex (d4 k528 k95 k529 k296 (c3 k46 k530 k538)) (by kernel_rfl)
theorem k540:Shows Tryz.prog 58 (.h ⟨[.c (.sl 0 1 1 false),.c (.sl 1 0 2 false),.c (.t (n64 0))],[some (.var [.sl 1 0 2 false,.sl 2 0 2 false]),some (.rows 4 [(w 2),o1] true false),some (.rows 4 [o1,o0] true false)]⟩) (.h ⟨[],[some (.var [.sl 1 0 2 false,.sl 2 0 2 false]),some (.rows 4 [(w 2),o1] true false),some (.rows 4 [[bF,lT [],bF,l1],[bT,l1,bF,lF [u 2]]] true false)]⟩):=ex (.cons k46 (.cons k527 (.cons k539 .nil))) (by kernel_rfl)
theorem k541:Shows Tryz.prog 77 (.h ⟨[.c (.sl 0 0 2 false),.c (.t (n64 1))],[some (.var [.sl 1 0 2 false,.sl 2 0 2 false]),some (.rows 4 [(w 2),o1] true false),some (.rows 4 [[bF,lT [],bF,l1],[bT,l1,bF,lF [u 2]]] true false)]⟩) (.h ⟨[.c (.t (bT))],[some (.var [.sl 1 0 2 false,.sl 2 0 2 false]),some (.rows 4 [(w 2),o1] true false),some (.rows 4 [[bF,lT [],bF,l1],[bT,l1,bF,lF [u 2]]] true false)]⟩):=ex (.cons k359 .nil) (by kernel_rfl)
theorem k542:Shows Tryz.prog 58 (.h ⟨[.c (.sl 0 2 0 false),.c (.sl 1 0 2 false),.c (.t (n64 1))],[some (.var [.sl 2 0 2 false,.sl 1 0 2 false]),some (.rows 4 [[bF,lT [],bF,l1],[bT,l1,bF,lF [u 2]]] true false),some (.rows 4 [(w 2),o1] true false)]⟩) (.h ⟨[],[some (.var [.sl 2 0 2 false,.sl 1 0 2 false]),some (.rows 4 [[bF,lT [],bF,l1],[bT,l1,bF,lF [u 2]]] true false),some (.rows 4 [(w 2),o1] true false)]⟩):=ex (.nil) (by kernel_rfl)
theorem k543:AC 24 [x (lF [[lF [o0,o1]],[lF [o1,o0]]])] [y (n64 1),y (n64 1),y (n64 0)] n1:=ex (d4 k504 k506 k509 k524 (d4 k95 k540 k541 k359 (c1 k542))) (by kernel_rfl)
theorem k544:AC 116 [g [bF,lF [u 3]],g [bF,lF [u 2]]] [y (n64 1)] n2:=ex (c3 k71 k94 k276) (by kernel_rfl)
theorem k545:AC 76 [g (w 3),g (w 2)] [y (n64 1)] n2:=ex (d4 k72 k95 k75 k204 (c1 k544)) (by kernel_rfl)
theorem k546:AC 24 [x (lF [[lF [o1,(w 2)]],[lF [(w 3),(w 4)]]])] [y (n64 0),y (n64 0),y (n64 112)] n1:=ex (c2 k323 k545) (by kernel_rfl)
theorem k547:AC 143 [x (lF [u 9,u 0])] [y (lF [u 9])] n1:=ex .nil (by kernel_rfl)
theorem k548:AC 129 [x (w64 9)] [y (lF [u 9])] n1:=ex (c1 k547) (by kernel_rfl)
theorem k549:AC 143 [x (lF [u 9])] [y (lF [u 9])] n1:=ex .nil (by kernel_rfl)
open Go Go.Abs Go.Proofs
theorem k550:AC 128 [x bF,x (lF [u 9])] [h [bF,lF [u 9]]] n2:=ex (c1 k549) (by kernel_rfl)
theorem k551:AC 101 [x (n64 9)] [h [bF,lF [u 9]]] n1:=ex (c2 k548 k550) (by kernel_rfl)
theorem k552:AC 143 [x (lF [u 0,u 1073741824])] [y (lF [u 0,u 1073741824])] n1:=ex .nil (by kernel_rfl)
theorem k553:AC 129 [x (w64 4611686018427387904)] [y (lF [u 0,u 1073741824])] n1:=ex (c1 k552) (by kernel_rfl)
theorem k554:AC 128 [x bF,x (lF [u 0,u 1073741824])] [h [bF,lF [u 0,u 1073741824]]] n2:=ex (c1 k552) (by kernel_rfl)
theorem k555:AC 101 [x (n64 4611686018427387904)] [h [bF,lF [u 0,u 1073741824]]] n1:=ex (c2 k553 k554) (by kernel_rfl)
theorem k556:AC 144 [x (lF [u 9]),x (n64 1)] [y (w64 0)] n2:=ex .nil (by kernel_rfl)
theorem k557:AC 144 [x (lF [u 9]),x (n64 0)] [y (w64 9)] n2:=ex .nil (by kernel_rfl)
theorem k558:AC 153 [x (lF [u 9])] [y (w64 9)] n1:=ex (c2 k556 k557) (by kernel_rfl)
theorem k559:AC 144 [x (lF [u 2]),x (n64 1)] [y (w64 0)] n2:=ex .nil (by kernel_rfl)
theorem k560:AC 144 [x (lF [u 2]),x (n64 0)] [y (w64 2)] n2:=ex .nil (by kernel_rfl)
theorem k561:AC 153 [x (lF [u 2])] [y (w64 2)] n1:=ex (c2 k559 k560) (by kernel_rfl)
theorem k562:AC 152 [x (w64 9),x (w64 2)] [y (w64 1)] n2:=ex .nil (by kernel_rfl)
theorem k563:AC 145 [x (lF [u 9]),x (lF [u 2])] [y l1] n2:=ex (c4 k558 k561 k562 k1) (by kernel_rfl)
theorem k564:AC 134 [g [bF,lF [u 9]],g [bF,lF [u 2]]] [h [bF,l1]] n2:=ex (c2 k563 k3) (by kernel_rfl)
theorem k565:AC 109 [g [bF,lF [u 2]]] [y (n64 1)] n1:=ex .nil (by kernel_rfl)
theorem k566:AC 131 [x (lF [u 9]),x l1] [y (n64 1)] n2:=ex .nil (by kernel_rfl)
theorem k567:AC 156 [x (lF [u 9]),x (w64 1)] [y (lF [u 9]),y (w64 0)] n2:=ex (c1 k549) (by kernel_rfl)
theorem k568:AC 154 [x (lF [u 9]),x l1] [y (lF [u 9]),y (lF [])] n2:=ex (c3 k566 k567 k445) (by kernel_rfl)
theorem k569:AC 146 [g [bF,lF [u 9]],g [bF,l1]] [h [bF,lF [u 9]],h [bF,lF []],y (n64 0)] n2:=ex (c3 k568 k550 k447) (by kernel_rfl)
theorem k570:AC 135 [g [bF,lF [u 9]],g [bF,l1]] [h [bF,lF [u 9]]] n2:=ex (c1 k569) (by kernel_rfl)
theorem k571:AC 131 [x (lF [u 2]),x l1] [y (n64 1)] n2:=ex .nil (by kernel_rfl)
theorem k572:AC 156 [x (lF [u 2]),x (w64 1)] [y (lF [u 2]),y (w64 0)] n2:=ex (c1 k8) (by kernel_rfl)
theorem k573:AC 154 [x (lF [u 2]),x l1] [y (lF [u 2]),y (lF [])] n2:=ex (c3 k571 k572 k445) (by kernel_rfl)
theorem k574:AC 146 [g [bF,lF [u 2]],g [bF,l1]] [h [bF,lF [u 2]],h [bF,lF []],y (n64 0)] n2:=ex (c3 k573 k9 k447) (by kernel_rfl)
theorem k575:AC 135 [g [bF,lF [u 2]],g [bF,l1]] [h [bF,lF [u 2]]] n2:=ex (c1 k574) (by kernel_rfl)
theorem k576:AC 104 [g [bF,lF [u 9]],g [bF,lF [u 2]]] [h [bF,lF [u 9],bF,lF [u 2]]] n2:=ex (c4 k564 k565 k570 k575) (by kernel_rfl)
theorem k577:AC 52 [g [.v (.int .i8 9),.v (.int .i8 2),.v (.int .u8 0)]] [h [bF,lF [u 9],bF,lF [u 2]]] n1:=ex (c4 k551 k10 k555 k576) (by kernel_rfl)
theorem k578:AC 128 [x bT,x (lF [u 4])] [h [bT,lF [u 4]]] n2:=ex (c1 k20) (by kernel_rfl)
theorem k579:AC 101 [x (n64 (-4))] [h [bT,lF [u 4]]] n1:=ex (c2 k19 k578) (by kernel_rfl)
theorem k580:AC 53 [x (n64 (-4))] [h (v 4)] n1:=ex (c2 k579 k4) (by kernel_rfl)
theorem k581:AC 64 [g [bT,lF [u 4]],g [bT,lF [u 4]]] [y bT] n2:=ex .nil (by kernel_rfl)
theorem k582:AC 64 [g [bF,l1],g [bF,l1]] [y bT] n2:=ex .nil (by kernel_rfl)
theorem k583:AC 18 [g (v 4),g (v 4)] [y bT] n2:=ex (c2 k581 k582) (by kernel_rfl)
theorem k584:AC 64 [g [bF,lF [u 9]],g [bF,lF [u 9]]] [y bT] n2:=ex .nil (by kernel_rfl)
theorem k585:AC 64 [g [bF,lF [u 2]],g [bF,lF [u 2]]] [y bT] n2:=ex .nil (by kernel_rfl)
theorem k586:AC 18 [g [bF,lF [u 9],bF,lF [u 2]],g [bF,lF [u 9],bF,lF [u 2]]] [y bT] n2:=ex (c2 k584 k585) (by kernel_rfl)
theorem k587:AC 26 [x (lF [(v 4),[bF,lF [u 9],bF,lF [u 2]]]),x (lF [(v 4),[bF,lF [u 9],bF,lF [u 2]]])] [y bT] n2:=ex (c2 k583 k586) (by kernel_rfl)
theorem k588:AC 51 [x (lF [[n64 3],[n64 0]])] [y (lF [(w 3),o0])] n1:=ex (c2 k17 k449) (by kernel_rfl)
theorem k589:AC 64 [g [bF,lF [u 3]],g [bF,lF [u 3]]] [y bT] n2:=ex .nil (by kernel_rfl)
theorem k590:AC 18 [g (w 3),g (w 3)] [y bT] n2:=ex (c2 k589 k582) (by kernel_rfl)
theorem k591:AC 64 [g [bF,lT []],g [bF,lF []]] [y bT] n2:=ex .nil (by kernel_rfl)
theorem k592:AC 18 [g [bF,lT [],bF,l1],g o0] [y bT] n2:=ex (c2 k591 k582) (by kernel_rfl)
theorem k593:AC 26 [x (lF [(w 3),[bF,lT [],bF,l1]]),x (lF [(w 3),o0])] [y bT] n2:=ex (c2 k590 k592) (by kernel_rfl)
theorem k594:AC 128 [x bT,x (lF [u 2])] [h [bT,lF [u 2]]] n2:=ex (c1 k8) (by kernel_rfl)
theorem k595:AC 101 [x (n64 (-2))] [h [bT,lF [u 2]]] n1:=ex (c2 k7 k594) (by kernel_rfl)
theorem k596:AC 53 [x (n64 (-2))] [h (v 2)] n1:=ex (c2 k595 k4) (by kernel_rfl)
theorem k597:AC 64 [g [bT,lF [u 2]],g [bT,lF [u 2]]] [y bT] n2:=ex .nil (by kernel_rfl)
theorem k598:AC 18 [g (v 2),g (v 2)] [y bT] n2:=ex (c2 k597 k582) (by kernel_rfl)
theorem k599:AC 128 [x bT,x (lF [u 5])] [h [bT,lF [u 5]]] n2:=ex (c1 k27) (by kernel_rfl)
theorem k600:AC 101 [x (n64 (-5))] [h [bT,lF [u 5]]] n1:=ex (c2 k26 k599) (by kernel_rfl)
theorem k601:AC 53 [x (n64 (-5))] [h (v 5)] n1:=ex (c2 k600 k4) (by kernel_rfl)
theorem k602:AC 51 [x (lF [[n64 (-2)],[n64 (-5)],[n64 1]])] [y (lF [(v 2),(v 5),o1])] n1:=ex (c3 k596 k601 k5) (by kernel_rfl)
theorem k603:AC 64 [g [bT,lF [u 5]],g [bT,lF [u 5]]] [y bT] n2:=ex .nil (by kernel_rfl)
theorem k604:AC 18 [g (v 5),g (v 5)] [y bT] n2:=ex (c2 k603 k582) (by kernel_rfl)
theorem k605:AC 18 [g o1,g o1] [y bT] n2:=ex (c1 k582) (by kernel_rfl)
theorem k606:AC 26 [x (lF [(v 2),(v 5),o1]),x (lF [(v 2),(v 5),o1])] [y bT] n2:=ex (c3 k598 k604 k605) (by kernel_rfl)
theorem k607:AC 51 [x (lF [[n64 (-2)],[n64 1]])] [y (lF [(v 2),o1])] n1:=ex (c2 k596 k5) (by kernel_rfl)
theorem k608:AC 26 [x (lF [(v 2),o1]),x (lF [(v 2),o1])] [y bT] n2:=ex (c2 k598 k605) (by kernel_rfl)
theorem k609:AC 50 [x (lF [[n64 2],[n64 4],[n64 1],[n64 2]])] [y (lF [[lF [(w 2),(w 4)]],[lF [o1,(w 2)]]])] n1:=ex (c3 k11 k23 k5) (by kernel_rfl)
theorem k610:Shows Tryz.prog 55 (.h ⟨[.c (.t (lF [[lF [(w 2),(w 4)]],[lF [o1,(w 2)]]])),.c (.t (.v (.func (.func 56) #[] #[])))],[]⟩) (.h ⟨[.c (.sl 0 0 2 false)],[some (.var [.sl 1 0 2 false,.sl 2 0 2 false]),some (.rows 4 [(w 2),(w 4)] true false),some (.rows 4 [o1,(w 2)] true false)]⟩):=ex (.cons k252 (.cons k39 .nil)) (by kernel_rfl)
theorem k611:Shows Tryz.prog 80 (.h ⟨[.c (.t (lF [[lF [(w 2),(w 4)]],[lF [o1,(w 2)]]]))],[]⟩) (.h ⟨[.c (.t (n64 2))],[]⟩):=ex (.nil) (by kernel_rfl)
theorem k612:Shows Tryz.prog 57 (.h ⟨[.c (.sl 0 0 2 false),.c (.t (n64 0)),.c (.t (n64 0))],[some (.var [.sl 1 0 2 false,.sl 2 0 2 false]),some (.rows 4 [(w 2),(w 4)] true false),some (.rows 4 [o1,(w 2)] true false)]⟩) (.h ⟨[.c (.t (n64 0))],[some (.var [.sl 1 0 2 false,.sl 2 0 2 false]),some (.rows 4 [(w 2),(w 4)] true false),some (.rows 4 [o1,(w 2)] true false)]⟩):=ex (.cons k95 .nil) (by kernel_rfl)
theorem k613:AC 108 [g (w 2),.ref [bF,l1,bF,lF [u 2]]] [h o1] [none,some (.var [.t (bF),.t (l1),.t (bF),.t (lF [u 2])])]:=ex (c1 k529) (by kernel_rfl)
theorem k614:AC 138 [x (lF [u 4])] [y (w64 4)] n1:=ex .nil (by kernel_rfl)
theorem k615:AC 119 [g [bF,lF [u 4]],g [bF,lF [u 2]]] [h [bF,lF [u 2]]] n2:=ex (d4 k230 k266 k112 k152 (c4 k614 k160 k162 k153)) (by kernel_rfl)
theorem k616:AC 136 [x (lF [u 4]),x (lF [u 2])] [y (n64 1)] n2:=ex .nil (by kernel_rfl)
theorem k617:AC 147 [x (lF [u 4]),x (w64 2)] [y (lF [u 2]),y (w64 0)] n2:=ex (c1 k112) (by kernel_rfl)
theorem k618:AC 139 [x (lF [u 4]),x (lF [u 2])] [y (lF [u 2]),y (lF [])] n2:=ex (d4 k230 k112 k616 k617 (c1 k171)) (by kernel_rfl)
theorem k619:AC 120 [g [bF,lF [u 4]],g [bF,lF [u 2]]] [h [bF,lF [u 2]],h [bF,lT []],y (n64 0)] n2:=ex (c4 k112 k618 k153 k89) (by kernel_rfl)
theorem k620:AC 82 [g [bF,lF [u 4]],g [bF,lF [u 2]]] [h (w 2)] n2:=ex (c4 k60 k615 k619 k173) (by kernel_rfl)
theorem k621:AC 35 [g [bF,l1,bF,lF [u 2]],g (w 4)] [h (w 2)] n2:=ex (c4 k50 k620 k61 k56) (by kernel_rfl)
theorem k622:AC 108 [g (w 4),.ref [bF,l1,bF,lF [u 2]]] [h (w 2)] [none,some (.var [.t (bF),.t (l1),.t (bF),.t (lF [u 2])])]:=ex (c1 k621) (by kernel_rfl)
theorem k623:AC 107 [x (lF [(w 2),(w 4)]),.clo 108 [(2,(0,0))],.gh [bF,l1,bF,lF [u 2]]] [.own 4 [o1,(w 2)]] [none,none,some (.var [.t (bF),.t (l1),.t (bF),.t (lF [u 2])])]:=ex (c2 k613 k622) (by kernel_rfl)
theorem k624:Shows Tryz.prog 58 (.h ⟨[.c (.sl 0 0 0 false),.c (.sl 1 0 2 false),.c (.t (n64 0))],[some (.var [.sl 1 0 2 false,.sl 2 0 2 false]),some (.rows 4 [o1,(w 2)] true false),some (.rows 4 [o1,(w 2)] true false)]⟩) (.h ⟨[],[some (.var [.sl 1 0 2 false,.sl 2 0 2 false]),some (.rows 4 [o1,(w 2)] true false),some (.rows 4 [o1,(w 2)] true false)]⟩):=ex (.nil) (by kernel_rfl)
theorem k625:AC 94 [.bor 4 [o1,(w 2)],g o1,.bor 4 [o1,(w 2)]] [] [some (.rows 4 [[bF,lT [],bF,l1],[bF,lT [],bF,l1]] false false),none,some (.rows 4 [o1,(w 2)] false false)]:=ex (d4 k46 k57 k296 k95 (c2 k62 k216)) (by kernel_rfl)
theorem k626:Shows Tryz.prog 58 (.h ⟨[.c (.sl 0 1 1 false),.c (.sl 1 0 2 false),.c (.t (n64 0))],[some (.var [.sl 1 0 2 false,.sl 2 0 2 false]),some (.rows 4 [o1,(w 2)] true false),some (.rows 4 [o1,(w 2)] true false)]⟩) (.h ⟨[],[some (.var [.sl 1 0 2 false,.sl 2 0 2 false]),some (.rows 4 [o1,(w 2)] true false),some (.rows 4 [[bF,lT [],bF,l1],[bF,lT [],bF,l1]] true false)]⟩):=ex (.cons k46 (.cons k289 (.cons k625 .nil))) (by kernel_rfl)
theorem k627:Shows Tryz.prog 57 (.h ⟨[.c (.sl 0 0 2 false),.c (.t (n64 1)),.c (.t (n64 1))],[some (.var [.sl 1 0 2 false,.sl 2 0 2 false]),some (.rows 4 [o1,(w 2)] true false),some (.rows 4 [[bF,lT [],bF,l1],[bF,lT [],bF,l1]] true false)]⟩) (.h ⟨[.c (.t (n64 (-1)))],[some (.var [.sl 1 0 2 false,.sl 2 0 2 false]),some (.rows 4 [o1,(w 2)] true false),some (.rows 4 [[bF,lT [],bF,l1],[bF,lT [],bF,l1]] true false)]⟩):=ex (.cons k208 .nil) (by kernel_rfl)
theorem k628:Shows Tryz.prog 61 (.h ⟨[.c (.t (lF [[lF [(w 2),(w 4)]],[lF [o1,(w 2)]]]))],[]⟩) (.h ⟨[.c (.sl 0 0 1 false),.c (.sl 1 0 1 false)],[some (.var [.sl 2 0 2 false,.sl 3 0 2 false]),some (.rows 1 [[n64 0]] true false),some (.rows 4 [o1,(w 2)] true false),some (.rows 4 [[bF,lT [],bF,l1],[bF,lT [],bF,l1]] true false)]⟩):=ex (.cons k610 (.cons k611 (.cons k612 (.cons k525 (.cons k623 (.cons k624 (.cons k626 (.cons k627 .nil)))))))) (by kernel_rfl)
theorem k629:AC 32 [x (lF [[lF [(w 2),(w 4)]],[lF [o1,(w 2)]]])] [y (lF [[lF [o1,(w 2)]]])] n1:=ex (c1 k628) (by kernel_rfl)
theorem k630:AC 18 [g (w 2),g (w 2)] [y bT] n2:=ex (c2 k585 k582) (by kernel_rfl)
theorem k631:AC 26 [x (lF [o1,(w 2)]),x (lF [o1,(w 2)])] [y bT] n2:=ex (c2 k605 k630) (by kernel_rfl)
theorem k632:AC 19 [x (lF [[lF [o1,(w 2)]]]),x (lF [[lF [o1,(w 2)]]])] [y bT] n2:=ex (c1 k631) (by kernel_rfl)
theorem k633:Shows Tryz.prog 55 (.h ⟨[.c (.t (lF [[lF [o1,(w 2)]]])),.c (.t (.v (.func (.func 56) #[] #[])))],[]⟩) (.h ⟨[.c (.sl 0 0 1 false)],[some (.var [.sl 1 0 2 false]),some (.rows 4 [o1,(w 2)] true false)]⟩):=ex (.cons k39 .nil) (by kernel_rfl)
theorem k634:Shows Tryz.prog 57 (.h ⟨[.c (.sl 0 0 1 false),.c (.t (n64 0)),.c (.t (n64 0))],[some (.var [.sl 1 0 2 false]),some (.rows 4 [o1,(w 2)] true false)]⟩) (.h ⟨[.c (.t (n64 0))],[some (.var [.sl 1 0 2 false]),some (.rows 4 [o1,(w 2)] true false)]⟩):=ex (.cons k46 .nil) (by kernel_rfl)
theorem k635:AC 107 [x (lF [o1,(w 2)]),.clo 108 [(2,(0,0))],.gh o1] [.own 4 [o1,(w 2)]] [none,none,some (.var [.t (bF),.t (l1),.t (bF),.t (l1)])]:=ex (c2 k58 k63) (by kernel_rfl)
theorem k636:Shows Tryz.prog 58 (.h ⟨[.c (.sl 0 0 0 false),.c (.sl 1 0 2 false),.c (.t (n64 0))],[some (.var [.sl 1 0 2 false]),some (.rows 4 [o1,(w 2)] true false)]⟩) (.h ⟨[],[some (.var [.sl 1 0 2 false]),some (.rows 4 [o1,(w 2)] true false)]⟩):=ex (.nil) (by kernel_rfl)
theorem k637:Shows Tryz.prog 58 (.h ⟨[.c (.sl 0 1 0 false),.c (.sl 1 0 2 false),.c (.t (n64 0))],[some (.var [.sl 1 0 2 false]),some (.rows 4 [o1,(w 2)] true false)]⟩) (.h ⟨[],[some (.var [.sl 1 0 2 false]),some (.rows 4 [o1,(w 2)] true false)]⟩):=ex (.nil) (by kernel_rfl)
theorem k638:Shows Tryz.prog 57 (.h ⟨[.c (.sl 0 0 1 false),.c (.t (n64 1)),.c (.t (n64 1))],[some (.var [.sl 1 0 2 false]),some (.rows 4 [o1,(w 2)] true false)]⟩) (.h ⟨[.c (.t (n64 (-1)))],[some (.var [.sl 1 0 2 false]),some (.rows 4 [o1,(w 2)] true false)]⟩):=ex (.nil) (by kernel_rfl)
theorem k639:Shows Tryz.prog 61 (.h ⟨[.c (.t (lF [[lF [o1,(w 2)]]]))],[]⟩) (.h ⟨[.c (.sl 0 0 1 false),.c (.sl 1 0 1 false)],[some (.var [.sl 2 0 2 false]),some (.rows 1 [[n64 0]] true false),some (.rows 4 [o1,(w 2)] true false)]⟩):=ex (.cons k633 (.cons k306 (.cons k634 (.cons k48 (.cons k635 (.cons k636 (.cons k637 (.cons k638 .nil)))))))) (by kernel_rfl)
theorem k640:AC 117 [x (lF [[n64 0]]),x (n64 0)] [y (n64 0)] n2:=ex .nil (by kernel_rfl)
theorem k641:AC 81 [x (lF [[n64 0]]),x (n64 0)] [y bT] n2:=ex (c1 k640) (by kernel_rfl)
theorem k642:AC 117 [x (lF [[n64 0]]),x (n64 1)] [y (n64 (-1))] n2:=ex .nil (by kernel_rfl)
theorem k643:AC 81 [x (lF [[n64 0]]),x (n64 1)] [y bF] n2:=ex (c1 k642) (by kernel_rfl)
theorem k644:AC 33 [x (lF [[lF [o1,(w 2)]]])] [y (lF [[lF [(v 2),o1]]])] n1:=ex (d4 k639 k306 k641 k643 (c3 k247 k326 k210)) (by kernel_rfl)
theorem k645:AC 50 [x (lF [[n64 (-2)],[n64 1]])] [y (lF [[lF [(v 2),o1]]])] n1:=ex (c2 k596 k5) (by kernel_rfl)
theorem k646:AC 19 [x (lF [[lF [(v 2),o1]]]),x (lF [[lF [(v 2),o1]]])] [y bT] n2:=ex (c1 k608) (by kernel_rfl)
theorem k647:AC 11 [] [y bT] []:=ex (d4 k24 k37 k248 k249 (d4 k250 k303 k304 k305 (d4 k322 k334 k376 k443 (d4 k450 k501 k502 k543 (d4 k546 k577 k580 k587 (d4 k588 k593 k596 k598 (d4 k602 k606 k607 k608 (d4 k609 k629 k632 k644 (c2 k645 k646))))))))) (by kernel_rfl)
end Go.Proofs.YtjfmkcmepdedaaaGreat.Mem
end
