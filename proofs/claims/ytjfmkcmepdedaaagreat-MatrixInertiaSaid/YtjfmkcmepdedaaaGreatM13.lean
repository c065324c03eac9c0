/-
  A part of the proof: MtK, RnU1k, MxK1k, MxV1k, MxZ1k, MxY1k, MxN1k, MxM1k.
-/
import Derived.Test.YtjfmkcmepdedaaaGreatM12
set_option maxHeartbeats 0
set_option maxRecDepth 100000
set_option linter.unusedVariables false
set_option linter.unusedSimpArgs false
set_option linter.unusedSectionVars false
section
namespace Go.Abs
def kvf (R:Nat->List Rat) (p:Nat->Nat) (j:Nat):Nat->Nat->Rat
 | 0,y=>if y=j then 1 else 0
 | k+1,y=>if y=p k then -((R k).getD j 0) else kvf R p j k y
def isP (p:Nat->Nat):Nat->Nat->Bool
 | 0,_=>false
 | k+1,y=>if y=p k then true else isP p k y
theorem isP_iff (p:Nat->Nat) (y:Nat):∀ k,isP p k y=true ↔ ∃ l,l < k/\p l=y
 | 0=>by simp [isP]
 | k+1=>by
  unfold isP
  split
  ·rename_i h
   exact ⟨fun _=>⟨k,by omega,h.symm⟩,fun _=>rfl⟩
  ·rename_i h
   rw [isP_iff p y k]
   constructor
   ·rintro ⟨l,h1,h2⟩; exact ⟨l,by omega,h2⟩
   ·rintro ⟨l,h1,h2⟩
    refine ⟨l,?_,h2⟩
    by_cases e:l=k
    ·rw [e] at h2; exact absurd h2.symm h
    ·omega
theorem kvf_free {R:Nat->List Rat} {p:Nat->Nat} {j y:Nat}:∀ k,isP p k y=false->kvf R p j k y=if y=j then 1 else 0
 | 0,_=>rfl
 | k+1,h=>by
  unfold isP at h
  split at h
  ·cases h
  ·rename_i hne
   rw [kvf,if_neg hne,kvf_free k h]
theorem kvf_sum {R:Nat->List Rat} {p:Nat->Nat} {j:Nat} (y:Nat):∀ k,(∀ i l,i < l->l < k->p i < p l)->isP p k j=false->kvf R p j k y=(if y=j then 1 else 0) - sumN k fun l=>(R l).getD j 0*(if y=p l then 1 else 0)
 | 0,_,_=>by simp only [kvf,sumN]; grind
 | k+1,hinc,hj=>by
  have hj':isP p k j=false:=by
   unfold isP at hj
   split at hj
   ·cases hj
   ·exact hj
  have hjk:j ≠ p k:=fun e=>by unfold isP at hj; rw [if_pos e] at hj; cases hj
  have ih:=kvf_sum (R:=R) y k (fun i l h1 h2=>hinc i l h1 (by omega)) hj'
  rw [kvf,sumN]
  by_cases hy:y=p k
  ·rw [if_pos hy,if_pos hy]
   have h0:sumN k (fun l=>(R l).getD j 0*(if y=p l then 1 else 0))=0:=by
    rw [qab k (g:=fun _=>0) fun l hl=>?_,qa3]
    rw [if_neg (by have:=hinc l k hl (by omega); omega),Rat.mul_zero]
   rw [h0,if_neg (by omega)]; grind
  ·rw [if_neg hy,if_neg hy,ih]; grind
theorem sumN_sub (f g:Nat->Rat):∀ n,sumN n (fun i=>f i - g i)=sumN n f - sumN n g
 | 0=>by simp only [sumN]; grind
 | n+1=>by rw [sumN,sumN,sumN,sumN_sub f g n]; grind
theorem sumN_pick (v:Nat->Rat) {w j:Nat} (hj:j < w):(sumN w fun y=>v y*(if y=j then 1 else 0))=v j:=by
 rw [qbi w hj fun l _ hne=>by rw [if_neg hne,Rat.mul_zero],if_pos rfl,Rat.mul_one]
theorem dot_kvf {R:Nat->List Rat} {p:Nat->Nat} {j k w:Nat} (hinc:∀ i l,i < l->l < k->p i < p l) (hp:∀ l,l < k->p l < w) (hj:isP p k j=false) (hjw:j < w) (v:RV) :
  dot w v (kvf R p j k)=v j - sumN k fun l=>(R l).getD j 0*v (p l):=by
 unfold dot
 rw [qab w (g:=fun y=>v y*(if y=j then 1 else 0) - sumN k fun l=>(R l).getD j 0*(v y*(if y=p l then 1 else 0))) fun y _=>?_]
 ·rw [sumN_sub,sumN_pick v hjw,sumN_swap]
  congr 1
  refine qab k fun l hl=>?_
  rw [qa4,sumN_pick v (hp l hl)]
 ·rw [kvf_sum y k hinc hj]
  have:(sumN k fun l=>(R l).getD j 0*(v y*(if y=p l then 1 else 0)))=v y*sumN k fun l=>(R l).getD j 0*(if y=p l then 1 else 0):=by
   rw [<- qa4]
   exact qab k fun l _=>by grind
  rw [this]; grind
theorem ker_dot {n w k j:Nat} {M R:Nat->List Rat} {p:Nat->Nat} (h:RdI n w w k M R p) (hj:isP p k j=false) (hjw:j < w) (i:Nat) (hi:i < n):dot w (rv (M i)) (kvf R p j k)=0:=by
 have hr:=h.rre
 rw [dot_kvf h.inc h.pj hj hjw,hr.ub.gen (rv (M i)) (Sp.row (R:=fun i=>rv (M i)) hi) j]
 have:(sumN k fun l=>(R l).getD j 0*rv (M i) (p l))=sumN k fun l=>rv (M i) (p l)*rv (R l) j:=qab k fun l _=>Rat.mul_comm _ _
 rw [this]; grind
def frL (p:Nat->Nat) (k:Nat):Nat->List Nat
 | 0=>[]
 | y+1=>if isP p k y=true then frL p k y else frL p k y ++ [y]
theorem frL_mem (p:Nat->Nat) (k:Nat):∀ y,∀ j ∈ frL p k y,j < y/\isP p k j=false
 | 0,j,h=>by simp [frL] at h
 | y+1,j,h=>by
  unfold frL at h
  split at h
  ·have:=frL_mem p k y j h; exact ⟨by omega,this.2⟩
  ·rename_i hp
   rcases List.mem_append.1 h with h | h
   ·have:=frL_mem p k y j h; exact ⟨by omega,this.2⟩
   ·rw [List.mem_singleton.1 h]; exact ⟨by omega,by simpa using hp⟩
def cntP (p:Nat->Nat):Nat->Nat->Nat
 | 0,_=>0
 | k+1,y=>(if p k < y then 1 else 0)+cntP p k y
theorem cntP_all (p:Nat->Nat) (y:Nat):∀ k,(∀ l,l < k->p l < y)->cntP p k y=k
 | 0,_=>rfl
 | k+1,h=>by rw [cntP,if_pos (h k (by omega)),cntP_all p y k fun l hl=>h l (by omega)]; omega
theorem cntP_none (p:Nat->Nat):∀ k,cntP p k 0=0
 | 0=>rfl
 | k+1=>by rw [cntP,if_neg (by omega),cntP_none p k]
theorem cntP_next (p:Nat->Nat) (y:Nat):∀ k,(∀ i l,i < l->l < k->p i < p l)->cntP p k (y+1)=cntP p k y+if isP p k y=true then 1 else 0
 | 0,_=>by simp [cntP,isP]
 | k+1,h=>by
  have ih:=cntP_next p y k fun i l h1 h2=>h i l h1 (by omega)
  rw [cntP,cntP,ih]
  by_cases hy:y=p k
  ·have h0:isP p k y=false:=by
    rw [<- Bool.not_eq_true,isP_iff]
    rintro ⟨l,hl,e⟩
    have:=h l k hl (by omega)
    omega
   rw [isP,if_pos hy,h0,if_pos (show p k < y+1 by omega),if_neg (show ¬ p k < y by omega),if_pos rfl,if_neg (by decide)]
   omega
  ·rw [isP,if_neg hy]
   by_cases h1:p k < y
   ·rw [if_pos (show p k < y+1 by omega),if_pos h1]; exact (Nat.add_assoc ..).symm
   ·rw [if_neg (show ¬ p k < y+1 by omega),if_neg h1]; exact (Nat.add_assoc ..).symm
theorem frL_len (p:Nat->Nat) (k:Nat) (h:∀ i l,i < l->l < k->p i < p l):∀ y,(frL p k y).length+cntP p k y=y
 | 0=>by rw [cntP_none]; rfl
 | y+1=>by
  have ih:=frL_len p k h y
  rw [cntP_next p y k h]
  unfold frL
  split
  ·omega
  ·rw [List.length_append,List.length_singleton]; omega
theorem fr_count {n w k:Nat} {M R:Nat->List Rat} {p:Nat->Nat} (h:RdI n w w k M R p):(frL p k w).length+k=w:=by
 have:=frL_len p k h.inc w
 rw [cntP_all p w k h.pj] at this
 exact this
end Go.Abs
end
section
namespace Go.Proofs.YtjfmkcmepdedaaaGreat
open Go Go.Abs Go.Proofs
structure RN where
 s:Bool
 r:Abs.Rows
 t:Bool
 p:Abs.Rows
def RN.row (c:RN):List Tree:=[.v (.bool c.s),.lst false c.r,.v (.bool c.t),.lst false c.p]
theorem hideP {L:Code->St->(AExit->ST->Prop)->Prop} {c:Code} {st:St} {Q:AExit->ST->Prop} {e:AExit} {s:ST} (Pr:Prop) (main:∀ Q':AExit->ST->Prop,(Pr->Q' e s)->(∀ s,Q .ret s->Q' .ret s)->L c st Q') (rest:Pr->Q e s):L c st Q:=main Q rest fun _ h=>h
open Go Go.Abs Go.Abs.M Go.Proofs
theorem mech_call (n:Nat) (hn:n<=4) (M:Nat->List Rat) (w B:Nat) (hw:w<=1000) (hl:∀ i,i < n->(M i).length=w) (hB:1<=B) (hB2:B<=400000) (hq:∀ i,i < n->∀ q ∈ M i,Qs q B) :
  ACall Tryz.prog 32 [.val (tl (mr n M))] ⟨[.val (tl (mr (rdIt n M w).k (rdIt n M w).R))],[none]⟩:=by
 have c:=mred_call n hn M w B hw hl hB hB2 hq
 generalize mr n M=X at *
 generalize mr (rdIt n M w).k (rdIt n M w).R=Y at *
 generalize W .i64 (pl (rdIt n M w).p (rdIt n M w).k)=Z at *
 generalize decide ((rdIt n M w).k=0)=d at *
 refine callZ ccOk mixed [.val] Tryz.func32 rfl rfl (by kernel_rfl) fun zA zB zC zD zE zF zG zH zI zJ zK zL zM zN zO zP zQ zR zT zU zV zX zY zZ zb zc zd ze zg zh zi zj zk zl zm zn zo zq zr zs zt zu zx zy zz zmget zmset zW zth A L F hS hF=>?_
 cbv
 refine ⟨_,hS.hcall c,?_⟩
 cbv
 exact hF _ (ResLe.refl _)
open Go Go.Abs Go.Abs.M Go.Proofs
def mmM (M B:Nat->List Rat) (w:Nat):Nat->List Rat:=fun i=>vmul (M i) B w (M i).length
theorem mmul_call (n:Nat) (hn:n<=4) (M B:Nat->List Rat) (m w a b:Nat) (hm:m<=1000) (hw:w<=1000) (hl:∀ i,i < m->(B i).length=w) (h0:m=0->w=0) (hP:∀ i,i < n->(M i).length=m) (h1:∀ i,i < n->∀ q ∈ M i,Qs q a) (h2:∀ i,i < m->∀ q ∈ B i,Qs q b) (hab:1001*(a+b+1)<=68719476736) :
  ACall Tryz.prog 44 [.val (tl (mr n M)),.val (tl (mr m B))] ⟨[.val (tl (mr n (mmM M B w))),.val (ti .i64 0)],[none,none]⟩:=by
 obtain ⟨BM,hBM⟩:∃ X,X=mr m B:=⟨_,rfl⟩
 have lB:BM.length=m:=by rw [hBM,mr_len]
 have lA:=mr_len n M
 obtain ⟨X,hX⟩:∃ X:Nat->Abs.Rows,X=fun i=>ur (mmM M B w i):=⟨_,rfl⟩
 have lX:∀ i,(X i).length=w:=fun i=>by rw [hX]; show (ur (vmul _ B w _)).length=w; rw [qau,vmul_len]
 have ca:=mtapp n hn M B m w a b hm hw hl h0 hP h1 h2 hab hBM (X:=X) fun i=>by rw [hX]; rfl
 have hT:mr n (mmM M B w)=(List.range n).map fun i=>[Tree.lst false (X i)]:=by rw [hX]; rfl
 have cw:=mwidth_call n m M hP (by omega)
 obtain ⟨W0,hW0⟩:∃ X:Int,X=(m:Int):=⟨_,rfl⟩
 rw [hT,<- hBM]
 generalize mr n M=A1 at *
 clear hT hP h1 hX hl h0 h2 hab hBM
 by_cases hn0:n=0
 ·clear cw
  subst hn0
  refine callZX ccOk mixed [.val,.val] Tryz.func44 rfl rfl (by kernel_rfl) fun zA zB zC zD zE zF zG zH zI zJ zK zL zM zN zO zP zQ zR zT zU zV zX zY zZ zb zc zd ze zg zh zi zj zk zl zm zn zo zq zr zs zt zu zx zy zz zmget zmset zW zth A L F hS hF=>?_
  have e1:zZ (zj A1)=0:=by rw [hS.ofN,hS.len,lA]; rfl
  have g0:zO 0 0=false:=by rw [hS.lt]; rfl
  cbv
  rw [e1]
  refine bF g0 ?_
  refine ⟨_,hS.hcall ca,?_⟩
  cbv
  exact hF _ (ResLe.refl _)
 ·rw [if_neg hn0,<- hW0] at cw
  have L4:LN n:=trivial
  obtain rfl | rfl | rfl | rfl:n=1 ∨ n=2 ∨ n=3 ∨ n=4:=by omega
  all_goals
   refine callZX ccOk mixed [.val,.val] Tryz.func44 rfl rfl (by kernel_rfl) fun zA zB zC zD zE zF zG zH zI zJ zK zL zM zN zO zP zQ zR zT zU zV zX zY zZ zb zc zd ze zg zh zi zj zk zl zm zn zo zq zr zs zt zu zx zy zz zmget zmset zW zth A L F hS hF=>?_
   have e1:zZ (zj A1)=(L4.v:Int):=by rw [hS.ofN,hS.len,lA]; rfl
   have g0:zO 0 (L4.v:Int)=true:=by rw [hS.lt]; rfl
   have e2:zZ (zj BM)=W0:=by rw [hS.ofN,hS.len,lB,hW0]
   have g1:zN W0 W0=false:=by rw [hS.ne]; exact decide_eq_false (by simp)
   have f:∀ i,zq 0 w (X i)=true:=fun i=>by rw [hS.fit]; exact decide_eq_true (by rw [lX]; omega)
   have pt:∀ i,zr (X i) 0 w=X i:=fun i=>by rw [hS.part,List.drop_zero,List.take_of_length_le (by rw [lX]; omega)]
   cbv
   rw [e1]
   refine bT g0 ?_
   refine ⟨_,hS.hcall cw,?_⟩
   cbv
   rw [e2]
   refine bF g1 ?_
   refine ⟨_,hS.hcall ca,?_⟩
   cbv
   repeat refine nd (f _) ?_
   simp only [pt]
   exact hF _ (ResLe.refl _)
theorem lmul_call (n:Nat) (hn:n<=4) (M B:Nat->List Rat) (m w a b:Nat) (hm:m<=1000) (hw:w<=1000) (hl:∀ i,i < m->(B i).length=w) (h0:m=0->w=0) (hP:∀ i,i < n->(M i).length=m) (h1:∀ i,i < n->∀ q ∈ M i,Qs q a) (h2:∀ i,i < m->∀ q ∈ B i,Qs q b) (hab:1001*(a+b+1)<=68719476736) :
  ACall Tryz.prog 29 [.val (tl (mr n M)),.val (tl (mr m B))] ⟨[.val (tl (mr n (mmM M B w)))],[none,none]⟩:=by
 have c:=mmul_call n hn M B m w a b hm hw hl h0 hP h1 h2 hab
 generalize mr n M=X at *
 generalize mr m B=Y at *
 generalize mr n (mmM M B w)=Z at *
 refine callZ ccOk mixed [.val] Tryz.func29 rfl rfl (by kernel_rfl) fun zA zB zC zD zE zF zG zH zI zJ zK zL zM zN zO zP zQ zR zT zU zV zX zY zZ zb zc zd ze zg zh zi zj zk zl zm zn zo zq zr zs zt zu zx zy zz zmget zmset zW zth A L F hS hF=>?_
 cbv
 refine ⟨_,hS.call (c),?_⟩
 cbv
 exact hF _ (ResLe.refl _)
open Go Go.Abs Go.Abs.M Go.Proofs
def rzSt (N:Int) (i:Nat) (r:Abs.Rows) (I:Int):St:=mkSt 16 [vi .i64 N,.junk,.junk,.c (.sl 1 0 i false),vi .i64 I] [none,some (.rows 4 r true false)]
theorem rzeros_call (n:Nat) (hn:n<=1000):ACall Tryz.prog 69 [.val (ti .i64 (n:Int))] ⟨[.own 4 (ur (List.replicate n 0))],[none]⟩:=by
 obtain ⟨N,hN⟩:∃ N:Int,N=n:=⟨_,rfl⟩
 obtain ⟨T,hT⟩:∃ T,T=ur (List.replicate n 0):=⟨_,rfl⟩
 rw [<- hN,<- hT]
 have cw:=rqwhole_row 0 (by omega) (by omega)
 rw [show ((0:Int):Rat)=0 from rfl] at cw
 obtain ⟨s3,t3,r3,p3,hrow3,_⟩:=qrow 0
 rw [hrow3] at cw
 obtain ⟨row,hrw⟩:∃ row,row=[Tree.v (.bool s3),.lst false r3,.v (.bool t3),.lst false p3]:=⟨_,rfl⟩
 have hr4:row.length=4:=by rw [hrw]; rfl
 have hstep:∀ i,ur (List.replicate i 0) ++ [row]=ur (List.replicate (i+1) 0):=fun i=>by rw [List.replicate_succ',ur_app,hrow3,hrw]
 refine callZ ccOk mixed [.own 4] Tryz.func69 rfl rfl (by kernel_rfl) fun zA zB zC zD zE zF zG zH zI zJ zK zL zM zN zO zP zQ zR zT zU zV zX zY zZ zb zc zd ze zg zh zi zj zk zl zm zn zo zq zr zs zt zu zx zy zz zmget zmset zW zth A L F hS hF=>?_
 have u0:zr [row] 0 1=[row]:=by rw [hS.part]; rfl
 have u1:zq 0 1 [row]=true:=by rw [hS.fit]; rfl
 have u2:zQ (zc (zj [row]) 0)=true:=by rw [hS.len,hS.neq,hS.not]; rfl
 have u3:zx 4 [row]=true:=by rw [hS.wide]; simp [hr4]
 cbv
 have hN:N=(n:Int):=hN
 refine loopZR ccOk mixed hS (fun (m:Nat) s'=>∃ (i:Nat) (I:Int) (r:Abs.Rows),I=i/\m+i=n/\r=ur (List.replicate i 0)/\s'=rzSt N i r I) (n:=n) (s0:=rzSt N 0 [] 0) (qao ?_ ?_) rfl (Nat.succ_le_succ (Nat.zero_le _)) ?_ ?_
 ·simp [leT,rzSt,mkSt,vi,vb]
 ·simp [leH,rzSt,mkSt]
 ·exact ⟨0,0,[],rfl,by omega,rfl,rfl⟩
 ·rintro m s1 ⟨i,I,r,hI,hm,hr,hs1⟩
  have hI:I=(i:Int):=hI
  have hrl:r.length=i:=by rw [hr,qau,List.length_replicate]
  by_cases hi:i < n
  ·have l1:zO I N=true:=by rw [hS.lt]; exact decide_eq_true (by omega)
   have u4:zh i (zj [row]) 64=true:=by rw [hS.len,hS.room]; exact decide_eq_true (by unfold capBytes; simp only [List.length_cons,List.length_nil]; omega)
   have u5:zc (zd 0 i) (zj r)=true:=by rw [hS.nadd,hS.neq,hS.len,hrl,Nat.zero_add]; exact decide_eq_true rfl
   have u6:zd i (zj [row])=i+1:=by rw [hS.len,hS.nadd]; rfl
   obtain ⟨r2,hr2⟩:∃ r2,r2=ur (List.replicate (i+1) 0):=⟨_,rfl⟩
   have u7:zs r 0 [row]=r2:=by rw [hS.ext,List.drop_zero,hr,hstep,hr2]
   obtain ⟨I',hI',i1⟩:∃ I':Int,I'=((i+1:Nat):Int)/\zA .i64 (zB I 1)=I':=⟨I+1,by omega,by rw [hS.add,hS.wrap,wrap_i64 (by omega) (by omega)]⟩
   have hmm:m - 1 < m:=by omega
   have hnx:∃ (i2:Nat) (I2:Int) (r':Abs.Rows),I2=i2/\(m - 1)+i2=n/\r'=ur (List.replicate i2 0)/\rzSt N (i+1) r2 I'=rzSt N i2 r' I2:=⟨i+1,I',r2,hI',by omega,hr2,rfl⟩
   clear hr hr2 hstep
   subst hs1
   cbv
   refine bT (l1) ?_
   refine ⟨_,hS.call (cw),?_⟩
   cbv
   rw [<- hrw,u0]
   refine nd (u1) ?_
   refine nd (u2) ?_
   refine nd (u3) ?_
   refine nd (u4) ?_
   refine nd (u5) ?_
   refine againR [(1,5)] (s':=rzSt N (i+1) r2 I') (k:=m - 1) ?_ ?_ ?_ ?_ rfl (Nat.succ_le_succ (Nat.zero_le _)) hmm hnx
   ·simp [leTR,rzSt,mkSt,vi,AV.ren,AV.noTup,Cell.ren,renF,i1,u6]
   ·simp [leHR,rzSt,mkSt,Abs.look,renF,Blk.ren,u7,Cell.ren]
   ·simp [liveR,rzSt,mkSt,renF]
   ·simp
  ·have l1:zO I N=false:=by rw [hS.lt]; exact decide_eq_false (by omega)
   have hrT:r=T:=by rw [hr,hT,show i=n by omega]
   have e1:zc i (zj r)=true:=by rw [hS.neq,hS.len,hrl]; exact decide_eq_true rfl
   subst hrT
   clear hstep
   subst hs1
   cbv
   refine bF l1 (nd e1 ?_)
   exact hF _ (ResLe.refl _)
open Go Go.Abs Go.Abs.M Go.Proofs
def rawE (V:List Int) (k j:Nat):RW:=⟨(V.getD ((k+j) % V.length) 0).tmod 4,if V.getD ((k+j) % V.length) 0 < -90 then 3 else if 90 < V.getD ((k+j) % V.length) 0 then 2 else 1,0⟩
def rawQv (V:List Int) (k j:Nat):Rat:=if V.length=0 then 0 else (rawE V k j).q
def rawRow (V:List Int) (k n:Nat):List Rat:=(List.range n).map (rawQv V k)
theorem rawRow_len (V:List Int) (k n:Nat):(rawRow V k n).length=n:=by simp [rawRow]
theorem rawE_ok (V:List Int) (k j:Nat):(rawE V k j).ok:=by
 have h1:=Int.tmod_lt_of_pos (V.getD ((k+j) % V.length) 0) (show (0:Int) < 4 by omega)
 have h2:-4 < (V.getD ((k+j) % V.length) 0).tmod 4:=by
  have:=Int.lt_tmod_of_pos (V.getD ((k+j) % V.length) 0) (show (0:Int) < 4 by omega)
  omega
 refine ⟨?_,?_,?_,?_,(by decide:(0:Int)<=0),(by decide:(0:Int) < 256)⟩
 ·show -128<=(V.getD ((k+j) % V.length) 0).tmod 4; omega
 ·show (V.getD ((k+j) % V.length) 0).tmod 4 < 128; omega
 ·show -128<=(if V.getD ((k+j) % V.length) 0 < -90 then (3:Int) else if 90 < V.getD ((k+j) % V.length) 0 then 2 else 1)
  split
  ·omega
  ·split <;> omega
 ·show (if V.getD ((k+j) % V.length) 0 < -90 then (3:Int) else if 90 < V.getD ((k+j) % V.length) 0 then 2 else 1) < 128
  split
  ·omega
  ·split <;> omega
theorem rawRow_qs (V:List Int) (k n:Nat):∀ q ∈ rawRow V k n,Qs q 8:=fun q hq=>by
 obtain ⟨j,_,rfl⟩:=List.mem_map.1 hq
 unfold rawQv
 split
 ·exact (Qs.whole (n:=0) (by decide) (Nat.le_refl 1)).mono (by omega)
 ·have h:=rawE_ok V k j
  exact madeQ_small h.n1 h.n2 h.d1 h.d2 h.k1 h.k2
def rwSt (K N:Int) (VR X:Abs.Rows) (n:Nat) (J:Int):St:=mkSt 48 [.junk,vi .i64 K,vi .i64 N,.c (.ptr 3 0 0),.junk,.junk,.junk,.c (.sl 4 0 n false),vi .i64 J] [none,none,none,some (.var [.t (.lst false VR)]),some (.rows 4 X true false)]
theorem rrow_call (V:List Int) (hV:∀ v ∈ V,-128<=v/\v < 128) (hVl:V.length < 9223372036854775808) (k n:Nat) (hk:k<=1000) (hn:n<=1000) :
  ACall Tryz.prog 27 [.val (.agg [.lst false (W .i8 V)]),.val (ti .i64 (k:Int)),.val (ti .i64 (n:Int))] ⟨[.own 4 (ur (rawRow V k n))],[none,none,none]⟩:=by
 have cz:=rzeros_call n hn
 obtain ⟨K,hK⟩:∃ K:Int,K=k:=⟨_,rfl⟩
 obtain ⟨N,hN⟩:∃ N:Int,N=n:=⟨_,rfl⟩
 obtain ⟨VR,hVR⟩:∃ R,R=W .i8 V:=⟨_,rfl⟩
 obtain ⟨Z,hZ⟩:∃ Z,Z=ur (List.replicate n 0):=⟨_,rfl⟩
 obtain ⟨T,hT⟩:∃ T,T=ur (rawRow V k n):=⟨_,rfl⟩
 have lZ:Z.length=n:=by rw [hZ,qau,List.length_replicate]
 have lT:T.length=n:=by rw [hT,qau,rawRow_len]
 rw [<- hN,<- hZ] at cz
 rw [<- hK,<- hN,<- hVR,<- hT]
 obtain ⟨Xf,hXf⟩:∃ f:Nat->Abs.Rows,f=fun j=>T.take j ++ Z.drop j:=⟨_,rfl⟩
 have hX0:Xf 0=Z:=by rw [hXf]; simp
 have hXn:∀ j,n<=j->Xf j=T:=fun j hj=>by rw [hXf]; simp only; rw [List.take_of_length_le (by omega),List.drop_of_length_le (by omega),List.append_nil]
 have hXl:∀ j,(Xf j).length=n:=fun j=>by rw [hXf]; simp only [List.length_append,List.length_take,List.length_drop]; omega
 have hXe:V.length=0->∀ j,Xf j=T:=fun h0 j=>by
  have e:T=Z:=by
   rw [hT,hZ]
   congr 1
   unfold rawRow rawQv
   rw [List.map_congr_left (g:=fun _=>(0:Rat)) fun j _=>if_pos h0,List.map_const',List.length_range]
  rw [hXf]
  show T.take j ++ Z.drop j=T
  rw [<- e,List.take_append_drop]
 have hXs:V.length ≠ 0->∀ j,j < n->(Xf j)[j]?=some (qc 0).row/\(Xf j).set j (qc (rawE V k j).q).row=Xf (j+1):=fun h0 j hj=>by
  have hTj:T[j]?=some (qc (rawE V k j).q).row:=by
   rw [hT]
   refine ur_get ?_
   unfold rawRow rawQv
   rw [List.getElem?_map,List.getElem?_range hj,Option.map_some,if_neg h0]
  have hZj:Z[j]?=some (qc 0).row:=by rw [hZ]; exact ur_get (by rw [List.getElem?_replicate,if_pos hj])
  have hl:(T.take j).length=j:=by rw [List.length_take]; omega
  have hd:Z.drop j=(qc 0).row :: Z.drop (j+1):=by
   rw [List.drop_eq_getElem_cons (by omega)]
   rw [List.getElem?_eq_getElem (by omega)] at hZj
   rw [Option.some.inj hZj]
  rw [hXf]
  refine ⟨?_,?_⟩
  ·show (T.take j ++ Z.drop j)[j]?=_
   rw [List.getElem?_append_right (by omega),hl,Nat.sub_self,hd]; rfl
  ·show (T.take j ++ Z.drop j).set j _=T.take (j+1) ++ Z.drop (j+1)
   rw [List.set_append_right _ _ (by omega),hl,Nat.sub_self,hd,List.set_cons_zero,List.take_add_one,hTj,List.append_assoc]; rfl
 obtain ⟨s0,t0,r0,p0,hrow0,_⟩:=qrow 0
 refine callZ ccOk mixed [.own 4] Tryz.func27 rfl rfl (by kernel_rfl) fun zA zB zC zD zE zF zG zH zI zJ zK zL zM zN zO zP zQ zR zT zU zV zX zY zZ zb zc zd ze zg zh zi zj zk zl zm zn zo zq zr zs zt zu zx zy zz zmget zmset zW zth A L F hS hF=>?_
 have z1:zj Z=n:=by rw [hS.len,lZ]
 obtain ⟨LV,hLV,hLV2⟩:∃ L:Int,L=V.length/\zZ (zj VR)=L:=⟨_,rfl,by rw [hS.ofN,hS.len,hVR,qal]⟩
 cbv
 refine ⟨_,hS.call (cz),?_⟩
 cbv
 have hN:N=(n:Int):=hN
 have hK:K=(k:Int):=hK
 have hLV:LV=(V.length:Int):=hLV
 refine loopZ ccOk mixed hS (fun (m:Nat) s'=>∃ (j:Nat) (J:Int) (X:Abs.Rows),J=j/\m+j=n/\X=Xf j/\s'=rwSt K N VR X n J) (n:=n) (s0:=rwSt K N VR Z n 0) (qao ?_ ?_) rfl (Nat.succ_le_succ (Nat.succ_le_succ (Nat.succ_le_succ (Nat.zero_le _)))) ?_ ?_
 ·simp [leT,rwSt,mkSt,vi,vb,z1]
 ·simp [leH,rwSt,mkSt]
 ·exact ⟨0,0,Z,rfl,by omega,hX0.symm,rfl⟩
 ·rintro m s1 ⟨j,J,X,hJ,hm,hX,hs1⟩
  have hJ:J=(j:Int):=hJ
  by_cases hgo:j < n/\V.length ≠ 0
  ·have l1:zO J N=true:=by rw [hS.lt]; exact decide_eq_true (by omega)
   have l2:zO 0 LV=true:=by rw [hS.lt]; exact decide_eq_true (by omega)
   obtain ⟨x1,x2⟩:=hXs hgo.2 j hgo.1
   obtain ⟨X',hX'⟩:∃ X',X'=Xf (j+1):=⟨_,rfl⟩
   rw [<- hX] at x1 x2
   rw [<- hX'] at x2
   obtain ⟨v,hv⟩:∃ v,v=V.getD ((k+j) % V.length) 0:=⟨_,rfl⟩
   have hidx:(k+j) % V.length < V.length:=Nat.mod_lt _ (by omega)
   obtain ⟨v1,v2⟩:=hV v (by rw [hv,List.getD_eq_getElem?_getD,List.getElem?_eq_getElem hidx]; exact List.getElem_mem hidx)
   have ok:=rawE_ok V k j
   have cm:=rmadeQ_call (rawE V k j) ok
   obtain ⟨e,he⟩:∃ e,e=rawE V k j:=⟨_,rfl⟩
   rw [<- he] at cm x2
   obtain ⟨s2,t2,r2,p2,hrow2,_⟩:=qrow e.q
   rw [hrow0] at x1
   rw [hrow2] at cm x2
   obtain ⟨VM,hVM⟩:∃ x:Int,x=v.tmod 4:=⟨_,rfl⟩
   obtain ⟨DM,hDM⟩:∃ x:Int,x=(if v < -90 then 3 else if 90 < v then 2 else 1):=⟨_,rfl⟩
   have he2:e.row=[.v (.int .i8 VM),.v (.int .i8 DM),.v (.int .u8 0)]:=by rw [he,hVM,hDM,hv]; rfl
   rw [he2] at cm
   obtain ⟨KJ,hKJ,i2⟩:∃ x:Int,x=((k+j:Nat):Int)/\zA .i64 (zB K J)=x:=⟨K+J,by omega,by rw [hS.add,hS.wrap,wrap_i64 (by omega) (by omega)]⟩
   obtain ⟨IX,hIX,i3⟩:∃ x:Int,x=(((k+j) % V.length:Nat):Int)/\zF KJ LV=x:=⟨_,rfl,by rw [hS.rem,hKJ,hLV]; exact (Int.ofNat_tmod (k+j) V.length).symm⟩
   obtain ⟨J',hJ',i1⟩:∃ J':Int,J'=((j+1:Nat):Int)/\zA .i64 (zB J 1)=J':=⟨J+1,by omega,by rw [hS.add,hS.wrap,wrap_i64 (by omega) (by omega)]⟩
   have hmm:m - 1 < m:=by omega
   have hnx:∃ (j2:Nat) (J2:Int) (X2:Abs.Rows),J2=j2/\(m - 1)+j2=n/\X2=Xf j2/\rwSt K N VR X' n J'=rwSt K N VR X2 n J2:=⟨j+1,J',X',hJ',by omega,hX',rfl⟩
   have k1:zX IX=(k+j) % V.length:=by rw [hS.nat,hIX,Int.toNat_natCast]
   have k2:zn VR ((k+j) % V.length)=v:=by rw [hS.getI,hVR,qap,hv]
   have k3:zF v 4=VM:=by rw [hS.rem,hVM]
   have k4:zN LV 0=true:=by rw [hS.ne]; exact decide_eq_true (by omega)
   have k5:zP 0 IX=true:=by rw [hS.le]; exact decide_eq_true (by omega)
   have k6:zm .i8 VR ((k+j) % V.length)=true:=by rw [hS.isI,hVR,qav]; exact decide_eq_true hidx
   have g1:zY J n=true:=by rw [hS.inb]; exact decide_eq_true (by omega)
   have g2:zb 0 J=j:=by rw [hS.idx]; omega
   have g3:zk X j=some [.v (.bool s0),.lst false r0,.v (.bool t0),.lst false p0]:=by rw [hS.nth]; exact x1
   have g4:zl X j [.v (.bool s2),.lst false r2,.v (.bool t2),.lst false p2]=X':=by rw [hS.setr]; exact x2
   by_cases h1:90 < v
   ·have hD:DM=2:=by rw [hDM,if_neg (by omega),if_pos h1]
    rw [hD] at cm
    have b1:zO 90 v=true:=by rw [hS.lt]; exact decide_eq_true h1
    have b2:zO v (-90)=false:=by rw [hS.lt]; exact decide_eq_false (by omega)
    clear hXs hXe x1 x2
    subst hs1
    cbv
    rw [hLV2]
    refine bT l1 (bT l2 ?_)
    rw [i2,i3,k1,k2,k3]
    refine nd k4 (nd k5 (nd k6 (bT b1 (bF b2 ?_))))
    refine ⟨_,hS.call (cm),?_⟩
    cbv
    refine nd (g1) ?_
    rw [g2,g3]
    cbv
    exact again (s':=rwSt K N VR X' n J') (m:=m - 1) (by simp [leT,rwSt,mkSt,vi,i1]) (by simp [leH,rwSt,mkSt,g4]) rfl (Nat.succ_le_succ (Nat.succ_le_succ (Nat.succ_le_succ (Nat.zero_le _)))) hmm hnx
   ·have b1:zO 90 v=false:=by rw [hS.lt]; exact decide_eq_false h1
    by_cases h2:v < -90
    ·have hD:DM=3:=by rw [hDM,if_pos h2]
     rw [hD] at cm
     have b2:zO v (-90)=true:=by rw [hS.lt]; exact decide_eq_true h2
     clear hXs hXe x1 x2
     subst hs1
     cbv
     rw [hLV2]
     refine bT l1 (bT l2 ?_)
     rw [i2,i3,k1,k2,k3]
     refine nd k4 (nd k5 (nd k6 (bF b1 (bT b2 ?_))))
     refine ⟨_,hS.call (cm),?_⟩
     cbv
     refine nd (g1) ?_
     rw [g2,g3]
     cbv
     exact again (s':=rwSt K N VR X' n J') (m:=m - 1) (by simp [leT,rwSt,mkSt,vi,i1]) (by simp [leH,rwSt,mkSt,g4]) rfl (Nat.succ_le_succ (Nat.succ_le_succ (Nat.succ_le_succ (Nat.zero_le _)))) hmm hnx
    ·have hD:DM=1:=by rw [hDM,if_neg h2,if_neg h1]
     rw [hD] at cm
     have b2:zO v (-90)=false:=by rw [hS.lt]; exact decide_eq_false h2
     clear hXs hXe x1 x2
     subst hs1
     cbv
     rw [hLV2]
     refine bT l1 (bT l2 ?_)
     rw [i2,i3,k1,k2,k3]
     refine nd k4 (nd k5 (nd k6 (bF b1 (bF b2 ?_))))
     refine ⟨_,hS.call (cm),?_⟩
     cbv
     refine nd (g1) ?_
     rw [g2,g3]
     cbv
     exact again (s':=rwSt K N VR X' n J') (m:=m - 1) (by simp [leT,rwSt,mkSt,vi,i1]) (by simp [leH,rwSt,mkSt,g4]) rfl (Nat.succ_le_succ (Nat.succ_le_succ (Nat.succ_le_succ (Nat.zero_le _)))) hmm hnx
  ·have e1:zc n (zj X)=true:=by rw [hS.neq,hS.len,hX,hXl]; exact decide_eq_true rfl
   by_cases hjn:j < n
   ·have l1:zO J N=true:=by rw [hS.lt]; exact decide_eq_true (by omega)
    have l2:zO 0 LV=false:=by rw [hS.lt]; exact decide_eq_false (by omega)
    have hXT:X=T:=by rw [hX]; exact hXe (by omega) j
    subst hXT
    clear hXs hXe
    subst hs1
    cbv
    rw [hLV2]
    refine bT l1 (bF l2 (nd e1 ?_))
    exact hF _ (ResLe.refl _)
   ·have l1:zO J N=false:=by rw [hS.lt]; exact decide_eq_false (by omega)
    have hXT:X=T:=by rw [hX]; exact hXn j (by omega)
    subst hXT
    clear hXs hXe
    subst hs1
    cbv
    refine bF l1 (nd e1 ?_)
    exact hF _ (ResLe.refl _)
open Go Go.Abs Go.Abs.M Go.Proofs
def rawM (V:List Int) (c:Nat):Nat->List Rat:=fun i=>rawRow V (i*c) c
def rmSt (a b:Int) (VR r:Abs.Rows) (len:Nat) (I:Int):St:=mkSt 31 [.junk,.c (.t (.v (.int .u8 a))),.c (.t (.v (.int .u8 b))),.c (.ptr 3 0 0),.junk,.junk,.junk,.c (.sl 4 0 len false),vi .i64 I] [none,none,none,some (.var [.t (.lst false VR)]),some (.rows 1 r true false)]
theorem rmadeM_call (V:List Int) (hV:∀ v ∈ V,-128<=v/\v < 128) (hVl:V.length < 9223372036854775808) (a b:Nat) (ha:a < 256) (hb:b < 256) :
  ACall Tryz.prog 12 [.val (.agg [.lst false (W .i8 V)]),.val (ti .u8 (a:Int)),.val (ti .u8 (b:Int))] ⟨[.val (tl (mr (a % 5) (rawM V (b % 5))))],[none,none,none]⟩:=by
 obtain ⟨n,hn⟩:∃ n,n=a % 5:=⟨_,rfl⟩
 obtain ⟨c,hc⟩:∃ c,c=b % 5:=⟨_,rfl⟩
 have hn5:n < 5:=by omega
 have hc5:c < 5:=by omega
 obtain ⟨CI,hCI⟩:∃ x:Int,x=(c:Int):=⟨_,rfl⟩
 obtain ⟨NI,hNI⟩:∃ x:Int,x=(n:Int):=⟨_,rfl⟩
 have cr:∀ i,i < n->∀ IC:Int,IC=((i*c:Nat):Int)->ACall Tryz.prog 27 [.val (.agg [.lst false (W .i8 V)]),.val (ti .i64 IC),.val (ti .i64 CI)] ⟨[.own 4 (ur (rawRow V (i*c) c))],[none,none,none]⟩:=fun i hi IC h=>by
  rw [h,hCI]
  exact rrow_call V hV hVl (i*c) c (by have:=Nat.mul_le_mul (show i<=4 by omega) (show c<=4 by omega); omega) (by omega)
 obtain ⟨VR,hVR⟩:∃ R,R=W .i8 V:=⟨_,rfl⟩
 obtain ⟨T,hT⟩:∃ T,T=mr n (rawM V c):=⟨_,rfl⟩
 obtain ⟨AI,hAI⟩:∃ A:Int,A=a:=⟨_,rfl⟩
 obtain ⟨BI,hBI⟩:∃ A:Int,A=b:=⟨_,rfl⟩
 rw [<- hVR] at cr
 rw [<- hn,<- hc,<- hT,<- hVR,<- hAI,<- hBI]
 refine callZ ccOk mixed [.val] Tryz.func12 rfl rfl (by kernel_rfl) fun zA zB zC zD zE zF zG zH zI zJ zK zL zM zN zO zP zQ zR zT zU zV zX zY zZ zb zc zd ze zg zh zi zj zk zl zm zn zo zq zr zs zt zu zx zy zz zmget zmset zW zth A L F hS hF=>?_
 have hAI:AI=(a:Int):=hAI
 have hBI:BI=(b:Int):=hBI
 cbv
 refine loopZR ccOk mixed hS (fun (m:Nat) s'=>∃ (i:Nat) (I:Int) (r:Abs.Rows),I=i/\m+i=n/\r=mr i (rawM V c)/\s'=rmSt AI BI VR r i I) (n:=n) (s0:=rmSt AI BI VR [] 0 0) (qao ?_ ?_) rfl (Nat.succ_le_succ (Nat.succ_le_succ (Nat.succ_le_succ (Nat.zero_le _)))) ?_ ?_
 ·simp [leT,rmSt,mkSt,vi,vb]
 ·simp [leH,rmSt,mkSt]
 ·exact ⟨0,0,[],rfl,by omega,rfl,rfl⟩
 ·rintro m s1 ⟨i,I,r,hI,hm,hr,hs1⟩
  have hI:I=(i:Int):=hI
  have hrl:r.length=i:=by rw [hr,mr_len]
  have hCI:CI=(c:Int):=hCI
  have hNI:NI=(n:Int):=hNI
  have w1:zA .i64 (zF AI 5)=NI:=by
   rw [hNI,hS.rem,hAI,show (5:Int)=((5:Nat):Int) from rfl,<- Int.ofNat_tmod,<- hn,hS.wrap,wrap_i64 (by omega) (by omega)]
  have w2:zA .i64 (zF BI 5)=CI:=by
   rw [hCI,hS.rem,hBI,show (5:Int)=((5:Nat):Int) from rfl,<- Int.ofNat_tmod,<- hc,hS.wrap,wrap_i64 (by omega) (by omega)]
  by_cases hi:i < n
  ·have l1:zO I NI=true:=by rw [hS.lt]; exact decide_eq_true (by omega)
   have hic:=Nat.mul_le_mul (show i<=4 by omega) (show c<=4 by omega)
   obtain ⟨IC,hIC,w3⟩:∃ x:Int,x=((i*c:Nat):Int)/\zA .i64 (zD I CI)=x:=⟨_,rfl,by rw [hS.mul,hI,hCI,<- Int.natCast_mul,hS.wrap,wrap_i64 (by omega) (by omega)]⟩
   have cri:=cr i hi IC hIC
   obtain ⟨X,hX⟩:∃ X,X=ur (rawRow V (i*c) c):=⟨_,rfl⟩
   have lX:X.length=c:=by rw [hX,qau,rawRow_len]
   rw [<- hX] at cri
   obtain ⟨row,hrw⟩:∃ row,row=[Tree.lst false X]:=⟨_,rfl⟩
   have hr1:row.length=1:=by rw [hrw]; rfl
   have u0:zr [row] 0 1=[row]:=by rw [hS.part]; rfl
   have u1:zq 0 1 [row]=true:=by rw [hS.fit]; rfl
   have u2:zQ (zc (zj [row]) 0)=true:=by rw [hS.len,hS.neq,hS.not]; rfl
   have u3:zx 1 [row]=true:=by rw [hS.wide]; simp [hr1]
   have u4:zh i (zj [row]) 24=true:=by rw [hS.len,hS.room]; exact decide_eq_true (by unfold capBytes; simp only [List.length_cons,List.length_nil]; omega)
   have u5:zc (zd 0 i) (zj r)=true:=by rw [hS.nadd,hS.neq,hS.len,hrl,Nat.zero_add]; exact decide_eq_true rfl
   have u6:zd i (zj [row])=i+1:=by rw [hS.len,hS.nadd]; rfl
   obtain ⟨r2,hr2⟩:∃ r2,r2=mr (i+1) (rawM V c):=⟨_,rfl⟩
   have u7:zs r 0 [row]=r2:=by rw [hS.ext,List.drop_zero,hr,hr2,mr_succ,hrw,hX]; rfl
   have f1:zq 0 (zj X) X=true:=by rw [hS.len,hS.fit]; exact decide_eq_true (by omega)
   have f2:zr X 0 (zj X)=X:=by rw [hS.len,hS.part,List.drop_zero,List.take_of_length_le (by omega)]
   obtain ⟨I',hI',i1⟩:∃ I':Int,I'=((i+1:Nat):Int)/\zA .i64 (zB I 1)=I':=⟨I+1,by omega,by rw [hS.add,hS.wrap,wrap_i64 (by omega) (by omega)]⟩
   have hmm:m - 1 < m:=by omega
   have hnx:∃ (i2:Nat) (I2:Int) (r':Abs.Rows),I2=i2/\(m - 1)+i2=n/\r'=mr i2 (rawM V c)/\rmSt AI BI VR r2 (i+1) I'=rmSt AI BI VR r' i2 I2:=⟨i+1,I',r2,hI',by omega,hr2,rfl⟩
   clear hr hr2 cr
   subst hs1
   cbv
   rw [w1,w2,w3]
   refine bT l1 ?_
   refine ⟨_,hS.call (cri),?_⟩
   cbv
   refine nd (f1) ?_
   rw [f2,<- hrw,u0]
   refine nd (u1) ?_
   refine nd (u2) ?_
   refine nd (u3) ?_
   refine nd (u4) ?_
   refine nd (u5) ?_
   refine againR [(4,8)] (s':=rmSt AI BI VR r2 (i+1) I') (k:=m - 1) ?_ ?_ ?_ ?_ rfl (Nat.succ_le_succ (Nat.succ_le_succ (Nat.succ_le_succ (Nat.zero_le _)))) hmm hnx
   ·simp [leTR,rmSt,mkSt,vi,AV.ren,AV.noTup,Cell.ren,renF,i1,u6]
   ·simp [leHR,rmSt,mkSt,Abs.look,renF,Blk.ren,u7,Cell.ren]
   ·simp [liveR,rmSt,mkSt,renF]
   ·simp
  ·have l1:zO I NI=false:=by rw [hS.lt]; exact decide_eq_false (by omega)
   have hrT:r=T:=by rw [hr,hT,show i=n by omega]
   have f1:zq 0 i r=true:=by rw [hS.fit]; exact decide_eq_true (by omega)
   have f2:zr r 0 i=r:=by rw [hS.part,List.drop_zero,List.take_of_length_le (by omega)]
   subst hrT
   clear cr
   subst hs1
   cbv
   rw [w1]
   refine bF l1 (nd f1 ?_)
   rw [f2]
   exact hF _ (ResLe.refl _)
theorem rcols_call (n w:Nat) (M:Nat->List Rat) (h:∀ i,i < n->(M i).length=w) (hn:n < 9223372036854775808):ACall Tryz.prog 28 [.val (tl (mr n M))] ⟨[.val (ti .i64 ((if n=0 then 0 else w:Nat):Int))],[none]⟩:=by
 obtain ⟨X,hX⟩:∃ X,X=mr n M:=⟨_,rfl⟩
 have lX:X.length=n:=by rw [hX,mr_len]
 obtain ⟨T,hT⟩:∃ T:Int,T=((if n=0 then 0 else w:Nat):Int):=⟨_,rfl⟩
 rw [<- hX,<- hT]
 by_cases h0:n=0
 ·rw [if_pos h0] at hT
  have hT:(0:Int)=T:=hT.symm
  refine callZ ccOk mixed [.val] Tryz.func28 rfl rfl (by kernel_rfl) fun zA zB zC zD zE zF zG zH zI zJ zK zL zM zN zO zP zQ zR zT zU zV zX zY zZ zb zc zd ze zg zh zi zj zk zl zm zn zo zq zr zs zt zu zx zy zz zmget zmset zW zth A L F hS hF=>?_
  have e1:zM (zZ (zj X)) 0=true:=by rw [hS.eq,hS.ofN,hS.len,lX]; exact decide_eq_true (by omega)
  cbv
  refine bT e1 ?_
  exact fin1 hF (qa6 hT)
 ·rw [if_neg h0] at hT
  have hX0:X[0]?=some [.lst false (ur (M 0))]:=by rw [hX]; exact mr_get (by omega)
  have l0:(ur (M 0)).length=w:=by rw [qau,h 0 (by omega)]
  generalize ur (M 0)=U at *
  refine callZ ccOk mixed [.val] Tryz.func28 rfl rfl (by kernel_rfl) fun zA zB zC zD zE zF zG zH zI zJ zK zL zM zN zO zP zQ zR zT zU zV zX zY zZ zb zc zd ze zg zh zi zj zk zl zm zn zo zq zr zs zt zu zx zy zz zmget zmset zW zth A L F hS hF=>?_
  have e1:zM (zZ (zj X)) 0=false:=by rw [hS.eq,hS.ofN,hS.len,lX]; exact decide_eq_false (by omega)
  have j1:zX 0=0:=by rw [hS.nat]; rfl
  have j2:zk X 0=some [.lst false U]:=by rw [hS.nth]; exact hX0
  have n0:zP 0 0=true:=by rw [hS.le]; rfl
  have e2:zZ (zj U)=T:=by rw [hS.ofN,hS.len,l0,hT]
  cbv
  refine bF e1 ?_
  rw [j1,j2]
  cbv
  refine nd (n0) ?_
  exact fin1 hF (qa6 e2)
open Go Go.Abs Go.Abs.M Go.Proofs
theorem vmul_rv (P:List Rat) (B:Nat->List Rat) (w:Nat):∀ k,(∀ i,i < k->(B i).length=w)->∀ y,rv (vmul P B w k) y=sumN k fun l=>P.getD l 0*rv (B l) y
 | 0,_,y=>by
  unfold rv vmul sumN
  rw [List.getD_eq_getElem?_getD,List.getElem?_replicate]
  split <;> rfl
 | k+1,h,y=>by
  have ih:=vmul_rv P B w k (fun i hi=>h i (by omega)) y
  rw [sumN,<- ih]
  unfold rv
  rw [vmul,pacc0_get _ (by rw [vmul_len,h k (by omega)])]
theorem mmM_len (M B:Nat->List Rat) (w:Nat) (i:Nat):(mmM M B w i).length=w:=by rw [mmM,vmul_len]
theorem mmM_rv {M B:Nat->List Rat} {m w i:Nat} (hi:(M i).length=m) (hl:∀ i,i < m->(B i).length=w) (y:Nat):rv (mmM M B w i) y=sumN m fun l=>rv (M i) l*rv (B l) y:=by
 rw [mmM,hi,vmul_rv _ _ _ _ hl]; rfl
theorem mmM_qs {n m w a b:Nat} {M B:Nat->List Rat} (hl:∀ i,i < m->(B i).length=w) (hP:∀ i,i < n->(M i).length=m) (h1:∀ i,i < n->∀ q ∈ M i,Qs q a) (h2:∀ i,i < m->∀ q ∈ B i,Qs q b):∀ i,i < n->∀ q ∈ mmM M B w i,Qs q (1+m*(a+b+1)):=fun i hi=>by
 have:=vmul_qs (w:=w) hl (h1 i hi) h2 m (by rw [hP i hi]; exact Nat.le_refl _) (Nat.le_refl _)
 rw [mmM,hP i hi]; exact this
theorem rv_out {P:List Rat} {y:Nat} (h:P.length<=y):rv P y=0:=by
 unfold rv
 rw [List.getD_eq_getElem?_getD,List.getElem?_eq_none h]; rfl
end Go.Proofs.YtjfmkcmepdedaaaGreat
end
