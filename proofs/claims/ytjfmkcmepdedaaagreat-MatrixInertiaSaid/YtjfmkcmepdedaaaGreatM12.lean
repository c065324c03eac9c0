/-
  A part of the proof: MxR1k.
-/
import Derived.Test.YtjfmkcmepdedaaaGreatM11
set_option maxHeartbeats 0
set_option maxRecDepth 100000
set_option linter.unusedVariables false
set_option linter.unusedSimpArgs false
set_option linter.unusedSectionVars false
section
namespace Go.Proofs.YtjfmkcmepdedaaaGreat
open Go Go.Abs Go.Abs.M Go.Proofs
theorem lsc_qs {c:Rat} {P:List Rat} {a b:Nat} (h1:Qs c a) (h2:∀ q ∈ P,Qs q b):∀ q ∈ lsc c P,Qs q (a+b):=fun q hq=>by
 obtain ⟨x,hx,rfl⟩:=List.mem_map.1 hq
 exact mul_small h1 (h2 x hx)
theorem elm_qs {P Q:List Rat} {j a b:Nat} (hP:∀ q ∈ P,Qs q a) (hQ:∀ q ∈ Q,Qs q b) (hl:P.length=Q.length) (hj:j < P.length) (h0:Q.getD j 0 ≠ 0):∀ q ∈ elm P Q j,Qs q (2*a+2*b+1):=by
 have gP:P.getD j 0 ∈ P:=by rw [List.getD_eq_getElem?_getD,List.getElem?_eq_getElem hj]; exact List.getElem_mem hj
 have gQ:Q.getD j 0 ∈ Q:=by rw [List.getD_eq_getElem?_getD,List.getElem?_eq_getElem (by omega)]; exact List.getElem_mem (by omega)
 unfold elm
 split
 ·exact fun q hq=>(hP q hq).mono (by omega)
 ·have hc:Qs (-(P.getD j 0 / Q.getD j 0)) (a+b):=by
   refine Qs.neg ?_
   rw [Rat.div_def]
   exact mul_small (hP _ gP) (inv_small h0 (hQ _ gQ))
  have:=accL_all (k:=0) hP hc hQ (by omega)
  exact fun q hq=>(this q hq).mono (by omega)
theorem rstep_qs {n w j k l K:Nat} {R:Nat->List Rat} (hl:∀ i,i < n->(R i).length=w) (hq:∀ i,i < n->∀ q ∈ R i,Qs q K) (hK:1<=K) (hk:k < n) (hln:l < n) (hj:j < w) (hx:(R l).getD j 0 ≠ 0):∀ i,i < n->∀ q ∈ rstep R k l j i,Qs q (7*K):=fun i hi=>by
 have gL:(R l).getD j 0 ∈ R l:=by rw [List.getD_eq_getElem?_getD,List.getElem?_eq_getElem (by rw [hl l hln]; exact hj)]; exact List.getElem_mem _
 have hs:∀ q ∈ lsc ((R l).getD j 0)⁻¹ (R l),Qs q (K+K):=lsc_qs (inv_small hx (hq l hln _ gL)) (hq l hln)
 have hsj:(lsc ((R l).getD j 0)⁻¹ (R l)).getD j 0 ≠ 0:=by
  have:=lsc_rv ((R l).getD j 0)⁻¹ (R l) j
  unfold rv at this
  rw [this,Rat.inv_mul_cancel _ hx]; decide
 have hsl:(lsc ((R l).getD j 0)⁻¹ (R l)).length=w:=by simp [lsc,hl l hln]
 unfold rstep
 split
 ·exact fun q hq=>(hs q hq).mono (by omega)
 ·have hT:(if i=l then R k else R i).length=w/\∀ q ∈ (if i=l then R k else R i),Qs q K:=by
   split
   ·exact ⟨hl k hk,hq k hk⟩
   ·exact ⟨hl i hi,hq i hi⟩
  exact fun q hq=>(elm_qs hT.2 hs (by rw [hT.1,hsl]) (by rw [hT.1]; exact hj) hsj q hq).mono (by omega)
theorem rdIt_qs {n w B:Nat} {M:Nat->List Rat} (hl:∀ i,i < n->(M i).length=w) (hB:1<=B) (hq:∀ i,i < n->∀ q ∈ M i,Qs q B):∀ j,j<=w->∀ i,i < n->∀ q ∈ (rdIt n M j).R i,Qs q (7 ^ (rdIt n M j).k*B)
 | 0,_=>fun i hi q h=>(hq i hi q h).mono (by simp [rdIt])
 | j+1,hj=>by
  have ih:=rdIt_qs hl hB hq j (by omega)
  have ok:=rdIt_ok hl j
  have hk:=ok.kn
  show ∀ i,i < n->∀ q ∈ (rdNext n j (rdIt n M j)).R i,Qs q (7 ^ (rdNext n j (rdIt n M j)).k*B)
  unfold rdNext
  rcases pvt_spec (rdIt n M j).R j (n - (rdIt n M j).k) (rdIt n M j).k with ⟨h1,h2⟩ | ⟨l,h1,h2,h3,h4⟩
  ·rw [if_pos h1]; exact ih
  ·rw [if_neg (by omega),h3,Int.toNat_natCast]
   have hB7:1<=7 ^ (rdIt n M j).k*B:=Nat.mul_pos (Nat.pow_pos (by omega)) hB
   have:=rstep_qs (fun i hi=>ok.len i hi) ih hB7 (show (rdIt n M j).k < n by omega) (show l < n by omega) (show j < w by omega) h4
   intro i hi q hq'
   refine (this i hi q hq').mono ?_
   show 7*(7 ^ (rdIt n M j).k*B)<=7 ^ ((rdIt n M j).k+1)*B
   rw [Nat.pow_succ,<- Nat.mul_assoc,Nat.mul_comm 7]; omega
theorem rd_round {n w B j k:Nat} {M:Nat->List Rat} (hn:n<=4) (hw:w<=1000) (hl:∀ i,i < n->(M i).length=w) (hB:1<=B) (hB2:B<=400000) (hq:∀ i,i < n->∀ q ∈ M i,Qs q B) (hj:j < w) (hk:(rdIt n M j).k=k) {J:Int} (hJ:J=j) {X:Nat->Abs.Rows} (hX:∀ i,i < n->X i=ur ((rdIt n M j).R i)) :
  ∃ T:Int,HCall Tryz.prog 57 ⟨[.c (.sl 0 0 n false),vi .i64 (k:Int),vi .i64 J],mrh n w X⟩ ⟨[vi .i64 T],mrh n w X⟩ /\
   ((T=-1/\rdIt n M (j+1)=rdIt n M j) ∨ ∃ (l:Nat) (s t s2 t2:Bool) (r p r2 p2 S:Abs.Rows) (Z2 Z3:Nat->Abs.Rows),k<=l/\l < n/\T=(l:Int)/\S.length=w /\
    (X l)[j]?=some [.v (.bool s),.lst false r,.v (.bool t),.lst false p] /\
    ACall Tryz.prog 87 [.val (.agg [.v (.bool s),.lst false r,.v (.bool t),.lst false p])] ⟨[.val (.agg [.v (.bool s2),.lst false r2,.v (.bool t2),.lst false p2]),.val (ti .i64 0)],[none]⟩ /\
    ACall Tryz.prog 107 [.val (tl (X l)),.clo 108 [(2,0,0)],.gh [.v (.bool s2),.lst false r2,.v (.bool t2),.lst false p2]] ⟨[.own 4 S],[none,none,some (.var ([Tree.v (.bool s2),.lst false r2,.v (.bool t2),.lst false p2].map .t))]⟩ /\
    HCall Tryz.prog 58 ⟨[.c (.sl 0 0 k false),.c (.sl 1 0 w false),vi .i64 J],mrk n k w (fun i=>if i=k then S else if i=l then X k else X i)⟩ ⟨[],mrk n k w Z2⟩ /\
    HCall Tryz.prog 58 ⟨[.c (.sl 0 (k+1) (n - k - 1) false),.c (.sl 1 0 w false),vi .i64 J],mrk n k w Z2⟩ ⟨[],mrk n k w Z3⟩ /\
    (rdIt n M (j+1)).k=k+1/\(∀ i,i < n->Z3 i=ur ((rdIt n M (j+1)).R i))/\W .i64 (pl (rdIt n M (j+1)).p (k+1))=W .i64 (pl (rdIt n M j).p k) ++ W .i64 [J]):=by
 have ok:=rdIt_ok hl j
 have qs:=rdIt_qs hl hB hq j (by omega)
 rw [hk] at ok qs
 have hkn:=ok.kn
 obtain ⟨T,hT⟩:∃ T:Int,T=pvt (rdIt n M j).R j (n - k) k:=⟨_,rfl⟩
 refine ⟨T,mpiv n hn (rdIt n M j).R w k j hkn hw hj ok.len hJ rfl hT hX,?_⟩
 rcases pvt_spec (rdIt n M j).R j (n - k) k with ⟨h1,h2⟩ | ⟨l,h1,h2,h3,h4⟩
 ·exact .inl ⟨hT.trans h1,rdIt_skip hk h1⟩
 ·have hst:=rdIt_step hk h3
  have hln:l < n:=by omega
  obtain ⟨K,hK⟩:∃ K,K=7 ^ k*B:=⟨_,rfl⟩
  have hK7:7 ^ k<=343:=Nat.pow_le_pow_right (by omega) (show k<=3 by omega)
  have hK1:1<=K:=by rw [hK]; exact Nat.mul_pos (Nat.pow_pos (by omega)) hB
  have hK2:K<=137200000:=by rw [hK]; exact Nat.le_trans (Nat.mul_le_mul hK7 hB2) (by omega)
  rw [<- hK] at qs
  obtain ⟨R,hR⟩:∃ R,R=(rdIt n M j).R:=⟨_,rfl⟩
  rw [<- hR] at ok qs h3 h4 hX hst
  have lR:=ok.len
  obtain ⟨x,hx⟩:∃ x,x=(R l).getD j 0:=⟨_,rfl⟩
  rw [<- hx] at h4
  have gL:(R l)[j]?=some x:=by rw [hx,List.getD_eq_getElem?_getD,List.getElem?_eq_getElem (by rw [lR l hln]; exact hj)]; rfl
  have hQx:Qs x K:=qs l hln _ (List.mem_of_getElem? gL)
  obtain ⟨hQi,cinv⟩:=pinv_row h4 hQx (by omega)
  have cm:=mapply_call x⁻¹ (R l) K K hQi (qs l hln) (by omega) (by rw [lR l hln]; exact hw)
  obtain ⟨Sq,hSq⟩:∃ Sq,Sq=lsc x⁻¹ (R l):=⟨_,rfl⟩
  have hQs:∀ q ∈ Sq,Qs q (K+K):=by rw [hSq]; exact lsc_qs hQi (qs l hln)
  have lSq:Sq.length=w:=by rw [hSq]; simp [lsc,lR l hln]
  have hSj:Sq.getD j 0 ≠ 0:=by
   have:=lsc_rv x⁻¹ (R l) j
   unfold rv at this
   rw [hSq,this,<- hx,Rat.inv_mul_cancel _ h4]; decide
  rw [<- hSq,<- hX l hln] at cm
  obtain ⟨s,t,r,p,hrow,_⟩:=qrow x
  obtain ⟨s2,t2,r2,p2,hrow2,_⟩:=qrow x⁻¹
  have u:=ur_get gL
  rw [<- hX l hln,hrow] at u
  rw [hrow,hrow2] at cinv
  rw [hrow2] at cm
  obtain ⟨Q0,hQ0⟩:∃ Q:Nat->List Rat,Q=fun i=>if i=l then R k else R i:=⟨_,rfl⟩
  have q0:∀ i,i < n->(Q0 i).length=w/\∀ q ∈ Q0 i,Qs q K:=fun i hi=>by
   rw [hQ0]
   show (if i=l then R k else R i).length=w/\∀ q ∈ (if i=l then R k else R i),Qs q K
   split
   ·exact ⟨lR k (by omega),qs k (by omega)⟩
   ·exact ⟨lR i hi,qs i hi⟩
  obtain ⟨Q1,hQ1⟩:∃ Q:Nat->List Rat,∀ i,Q i=if i=k then Sq else Q0 i:=⟨fun i=>if i=k then Sq else Q0 i,fun _=>rfl⟩
  obtain ⟨Q2,hQ2⟩:∃ Q:Nat->List Rat,∀ i,Q i=if i < k then elm (Q1 i) Sq j else Q1 i:=⟨fun i=>if i < k then elm (Q1 i) Sq j else Q1 i,fun _=>rfl⟩
  have v1:Q1 k=Sq:=by rw [hQ1,if_pos rfl]
  have v2:Q2 k=Sq:=by rw [hQ2,if_neg (by omega),v1]
  have q1:∀ i,i < n->(Q1 i).length=w/\∀ q ∈ Q1 i,Qs q (7*K):=fun i hi=>by
   rw [hQ1]
   split
   ·exact ⟨lSq,fun q hq=>(hQs q hq).mono (by omega)⟩
   ·exact ⟨(q0 i hi).1,fun q hq=>((q0 i hi).2 q hq).mono (by omega)⟩
  have q2:∀ i,i < n->(Q2 i).length=w/\∀ q ∈ Q2 i,Qs q (7*K):=fun i hi=>by
   rw [hQ2]
   split
   ·rename_i h
    rw [hQ1,if_neg (by omega)]
    exact ⟨by rw [elm_len,(q0 i hi).1],fun q hq=>(elm_qs (q0 i hi).2 hQs (by rw [lSq,(q0 i hi).1]) (by rw [(q0 i hi).1]; exact hj) hSj q hq).mono (by omega)⟩
   ·exact q1 i hi
  refine .inr ⟨l,s,t,s2,t2,r,p,r2,p2,ur Sq,fun i=>ur (Q2 i),fun i=>if k+1<=i/\i < k+1+(n - k - 1) then ur (elm (Q2 i) (Q2 k) j) else ur (Q2 i),h1,hln,hT.trans (hR ▸ h3),by rw [qau,lSq],u,cinv,cm,?_,?_,by rw [hst],?_,?_⟩
  ·refine melim n 0 k k hn (by omega) (.inl ⟨rfl,rfl⟩) Q1 w j (7*K) hw hj (by omega) (fun i hi=>(q1 i hi).1) (fun i hi=>(q1 i hi).2) (by rw [v1]; exact hSj) hJ (fun i hi=>?_) (fun i hi=>?_)
   ·show (if i=k then ur Sq else if i=l then X k else X i)=_
    rw [hQ1,hQ0]
    show (if i=k then ur Sq else if i=l then X k else X i)=ur (if i=k then Sq else if i=l then R k else R i)
    split
    ·rfl
    ·split
     ·exact hX k (by omega)
     ·exact hX i hi
   ·show ur (Q2 i)=_
    rw [hQ2,v1]
    by_cases h:i < k
    ·rw [if_pos h,if_pos (by omega)]
    ·rw [if_neg h,if_neg (by omega)]
  ·exact melim n (k+1) (n - k - 1) k hn (by omega) (.inr ⟨rfl,rfl⟩) Q2 w j (7*K) hw hj (by omega) (fun i hi=>(q2 i hi).1) (fun i hi=>(q2 i hi).2) (by rw [v2]; exact hSj) hJ (fun i hi=>rfl) (fun i hi=>rfl)
  ·intro i hi
   rw [hst]
   show (if k+1<=i/\i < k+1+(n - k - 1) then ur (elm (Q2 i) (Q2 k) j) else ur (Q2 i))=ur (rstep R k l j i)
   unfold rstep
   rw [<- hx,<- hSq,v2]
   by_cases hik:i=k
   ·rw [if_pos hik,if_neg (by omega),hik,v2]
   ·rw [if_neg hik]
    by_cases h:i < k
    ·rw [if_neg (by omega),hQ2,if_pos h,hQ1,if_neg hik,hQ0]
    ·rw [if_pos (by omega),hQ2,if_neg h,hQ1,if_neg hik,hQ0]
  ·rw [hst]
   show W .i64 (pl (fun x=>if x=k then j else (rdIt n M j).p x) (k+1))=_
   rw [pl_step,hJ]; simp [W]
def rdSt (n k w:Nat) (X:Nat->Abs.Rows) (PV:Abs.Rows) (W0 J:Int):St:=mkSt 89 [.junk,.junk,.junk,.junk,.c (.sl 0 0 n false),if k=0 then .c (.t (.lst true [])) else .c (.sl (n+1) 0 k false),.junk,.junk,.junk,.junk,.junk,.junk,.junk,.junk,vi .i64 W0,vi .i64 J] (mrh n w X ++ if k=0 then [] else [some (.rows 1 PV true false)])
def rdren (n k l:Nat):List (Nat × Nat):=(n+1,n+(if k=0 then 11 else 12)) :: (List.range n).map fun q=>(q+1,if q=k then n+(if k=0 then 4 else 5) else if q=l then k+1 else q+1)
theorem mr_x {k:Nat} {M:Nat->List Rat} {X:Nat->Abs.Rows} (h:∀ i,i < k->X i=ur (M i)):mr k M=(List.range k).map fun i=>[Tree.lst false (X i)]:=List.map_congr_left fun i hi=>by rw [h i (List.mem_range.1 hi)]
theorem mred (n:Nat) (hn:n<=4) (M:Nat->List Rat) (w B:Nat) (hw0:n=0->w=0) (hw:w<=1000) (hl:∀ i,i < n->(M i).length=w) (hB:1<=B) (hB2:B<=400000) (hq:∀ i,i < n->∀ q ∈ M i,Qs q B) :
  HCall Tryz.prog 61 ⟨[.c (.t (.lst false (mr n M)))],[]⟩ ⟨[.c (.t (.lst false (mr (rdIt n M w).k (rdIt n M w).R))),.c (.t (.lst (decide ((rdIt n M w).k=0)) (W .i64 (pl (rdIt n M w).p (rdIt n M w).k))))],[]⟩:=by
 obtain ⟨T1,hT1⟩:∃ T,T=mr (rdIt n M w).k (rdIt n M w).R:=⟨_,rfl⟩
 obtain ⟨T2,hT2⟩:∃ T,T=W .i64 (pl (rdIt n M w).p (rdIt n M w).k):=⟨_,rfl⟩
 obtain ⟨cp,hcp⟩:∃ b,b=decide ((rdIt n M w).k=0):=⟨_,rfl⟩
 have cw:=mwidth_call n w M hl (by omega)
 rw [show (if n=0 then 0 else w)=w by split <;> omega] at cw
 obtain ⟨W0,hW0⟩:∃ W0:Int,W0=(w:Int):=⟨_,rfl⟩
 rw [<- hW0] at cw
 obtain ⟨X0,hX0⟩:∃ X:Nat->Abs.Rows,X=fun i=>ur (M i):=⟨_,rfl⟩
 have ca:=mqapp n hn M w hw hl (X:=X0) fun i _=>by rw [hX0]
 have hok:=fun j=>rdIt_ok hl j
 have hrd:=fun (j k:Nat) (J:Int) (X:Nat->Abs.Rows) (hj:j < w) (hk:(rdIt n M j).k=k) (hJ:J=j) (hX:∀ i,i < n->X i=ur ((rdIt n M j).R i))=>rd_round hn hw hl hB hB2 hq hj hk hJ hX
 have hX0:∀ i,i < n->X0 i=ur ((rdIt n M 0).R i):=fun i _=>by rw [hX0]; rfl
 have hk0:(rdIt n M 0).k=0:=rfl
 have hp0:([]:Abs.Rows)=W .i64 (pl (rdIt n M 0).p (rdIt n M 0).k):=rfl
 obtain ⟨MR,hMR⟩:∃ R,R=mr n M:=⟨_,rfl⟩
 rw [<- hMR] at cw ca
 rw [<- hT1,<- hT2,<- hcp,<- hMR]
 clear hl hq
 obtain ⟨I,hI⟩:∃ I,I=rdIt n M:=⟨_,rfl⟩
 rw [<- hI] at hT1 hT2 hcp hok hrd hX0 hk0 hp0
 clear hI hMR
 have L4:LN n:=trivial
 obtain ⟨N,hN⟩:∃ N,N=n:=⟨_,rfl⟩
 obtain rfl | rfl | rfl | rfl | rfl:n=0 ∨ n=1 ∨ n=2 ∨ n=3 ∨ n=4:=by omega
 all_goals
  refine hcallZX ccOk mixed Tryz.func61 rfl rfl (by kernel_rfl) rfl (by simp) fun zA zB zC zD zE zF zG zH zI zJ zK zL zM zN zO zP zQ zR zT zU zV zX zY zZ zb zc zd ze zg zh zi zj zk zl zm zn zo zq zr zs zt zu zx zy zz zmget zmset zW zth A L G hS hG=>?_
  obtain rfl:zZ=fun a:Nat=>(a:Int):=by funext a; exact hS.ofN a
  obtain ⟨za,rfl⟩:=hS.addL
  obtain ⟨zw,rfl⟩:=hS.wrapL
  have hv:L4.v=N:=hN.symm
  cbv
  refine ⟨_,hS.hcall ca,?_⟩
  cbv
  refine ⟨_,hS.hcall cw,?_⟩
  cbv
  have hW0:W0=(w:Int):=hW0
  refine loopZR ccOk mixed hS (fun (m:Nat) s'=>∃ (j k:Nat) (J:Int) (X:Nat->Abs.Rows) (PV:Abs.Rows),J=j/\m+j=w/\(I j).k=k/\(∀ i,i < L4.v->X i=ur ((I j).R i))/\PV=W .i64 (pl (I j).p k)/\s'=rdSt L4.v k w X PV W0 J) (n:=w) (s0:=rdSt L4.v 0 w X0 [] W0 0) (qao ?_ ?_) rfl (Nat.zero_le _) ?_ ?_
  ·simp [leT,rdSt,mkSt,vi,vb,LN.v]
  ·simp [leH,rdSt,mkSt,mrh,LN.v,List.range,List.range.loop]
  ·exact ⟨0,0,0,X0,[],rfl,by omega,hk0,hX0,by rw [hk0] at hp0; exact hp0,rfl⟩
  ·rintro m s1 ⟨j,k,J,X,PV,hJ,hm,hk,hX,hPV,hs1⟩
   have hJ:J=(j:Int):=hJ
   have ok:=hok j
   rw [hk] at ok
   have hkn:=ok.kn
   have hPVl:PV.length=k:=by rw [hPV,qal,pl_len]
   have Lk:LN k:=trivial
   obtain ⟨C,hC⟩:∃ C,C=k:=⟨_,rfl⟩
   have f:∀ X:Abs.Rows,X.length=w->zq 0 w X=true:=fun X h=>by rw [hS.fit]; exact decide_eq_true (by omega)
   have pt:∀ X:Abs.Rows,X.length=w->zr X 0 w=X:=fun X h=>by rw [hS.part,List.drop_zero,List.take_of_length_le (by omega)]
   have eX:∀ i,i < L4.v->(X i).length=w:=fun i hi=>by rw [hX i hi,qau,ok.len i hi]
   by_cases hjw:j=w
   ·have l1:zO J W0=false:=by rw [hS.lt]; exact decide_eq_false (by omega)
    have g1:zq 0 k PV=true:=by rw [hS.fit]; exact decide_eq_true (by omega)
    have g2:zr PV 0 k=PV:=by rw [hS.part,List.drop_zero,List.take_of_length_le (by omega)]
    have hT1':T1=(List.range k).map fun i=>[Tree.lst false (X i)]:=by rw [hT1,<- hjw,hk]; exact mr_x fun i hi=>hX i (Nat.lt_of_lt_of_le hi hkn)
    have hT2':T2=PV:=by rw [hT2,<- hjw,hk,hPV]
    have hcp':cp=decide (k=0):=by rw [hcp,<- hjw,hk]
    have p0:∀ i,i < L4.v->zr (X i) 0 w=X i:=fun i hi=>pt _ (eX i hi)
    subst hT2'
    subst hcp'
    subst hT1'
    clear hok hrd ok hX hT1 hT2 hcp
    obtain rfl:zj=fun a:Abs.Rows=>a.length:=by funext a; exact hS.len a
    have hk4:k=0 ∨ 0 < k:=by omega
    rcases hk4 with rfl | hk4
    ·obtain rfl:T2=[]:=List.length_eq_zero_iff.1 hPVl
     subst hs1
     cbv
     refine bF l1 ?_
     repeat refine nd (f _ (eX _ (by omega))) ?_
     refine endR hG [] ?_ ?_ ?_ ?_
     ·simp [leTR,AV.ren,AV.noTup,Cell.ren,renF]
     ·simp [leHR,Abs.look,renF,Blk.ren,Cell.ren]
     ·simp [liveR,renF]
     ·simp
    ·obtain rfl | rfl | rfl | rfl:k=1 ∨ k=2 ∨ k=3 ∨ k=4:=by omega
     all_goals first | (exfalso; omega) | skip
     all_goals
      subst hs1
      cbv
      refine bF l1 ?_
      repeat refine nd (f _ (eX _ (by omega))) ?_
      refine nd g1 ?_
      try rw [p0 0 (by omega)]
      try rw [p0 1 (by omega)]
      try rw [p0 2 (by omega)]
      try rw [p0 3 (by omega)]
      rw [g2]
      refine endR hG [] ?_ ?_ ?_ ?_
      ·simp [leTR,AV.ren,AV.noTup,Cell.ren,renF,List.range,List.range.loop]
      ·simp [leHR,Abs.look,renF,Blk.ren,Cell.ren]
      ·simp [liveR,renF]
      ·simp
   ·have hj:j < w:=by omega
    have l1:zO J W0=true:=by rw [hS.lt]; exact decide_eq_true (by omega)
    have b1:zY J w=true:=by rw [hS.inb]; exact decide_eq_true (by omega)
    have b2:zb 0 J=j:=by rw [hS.idx]; omega
    obtain ⟨J',hJ',i1⟩:∃ J':Int,J'=((j+1:Nat):Int)/\wrapL zw .i64 (addL za J 1)=J':=⟨J+1,by omega,by rw [hS.add,hS.wrap,wrap_i64 (by omega) (by omega)]⟩
    cbv at i1
    have hJ':J'=((j+1:Nat):Int):=hJ'
    have hmm:m - 1 < m:=by omega
    obtain ⟨T,cpv,hc⟩:=hrd j k J X hj hk hJ hX
    rcases hc with ⟨hTl,hst⟩ | ⟨l,s,t,s2,t2,r,p,r2,p2,S,Z2,Z3,h1,hln,hTl,eS,u,cinv,cm,ce1,ce2,hk2,hZ3,hPV3⟩
    ·have z0:zO (-1) 0=true:=by rw [hS.lt]; rfl
     have hnx:∃ (j3 k3:Nat) (J3:Int) (X3:Nat->Abs.Rows) (PV3:Abs.Rows),J3=j3/\(m - 1)+j3=w/\(I j3).k=k3/\(∀ i,i < L4.v->X3 i=ur ((I j3).R i))/\PV3=W .i64 (pl (I j3).p k3)/\rdSt L4.v C w X PV W0 J'=rdSt L4.v k3 w X3 PV3 W0 J3:=⟨j+1,k,J',X,PV,hJ',by omega,by rw [hst]; exact hk,by rw [hst]; exact hX,by rw [hst]; exact hPV,by rw [hC]⟩
     subst hC
     subst hTl
     clear hok hrd ok hst hX hPV
     obtain rfl:zj=fun a:Abs.Rows=>a.length:=by funext a; exact hS.len a
     obtain rfl | rfl | rfl | rfl | rfl:C=0 ∨ C=1 ∨ C=2 ∨ C=3 ∨ C=4:=by omega
     all_goals first | (exfalso; omega) | skip
     all_goals
      subst hs1
      cbv
      refine bT l1 ?_
      refine ⟨_,hS.hcall cpv,?_⟩
      cbv
      refine bT z0 ?_
      rw [i1]
      refine againR [] (s':=rdSt L4.v _ w X PV W0 J') (k:=m - 1) ?_ ?_ ?_ ?_ rfl (Nat.zero_le _) hmm hnx
      ·simp [leTR,rdSt,mkSt,vi,AV.ren,AV.noTup,Cell.ren,renF,rdren,LN.v,List.range,List.range.loop]
      ·simp [leHR,rdSt,mkSt,mrh,Abs.look,renF,Blk.ren,Cell.ren,rdren,LN.v,List.range,List.range.loop]
      ·simp [liveR,rdSt,mkSt,mrh,renF,rdren,LN.v,List.range,List.range.loop]
      ·simp [rdren]
    ·obtain ⟨PV',hPV'⟩:∃ P,P=PV ++ W .i64 [J]:=⟨_,rfl⟩
     have hnx:∃ (j3 k3:Nat) (J3:Int) (X3:Nat->Abs.Rows) (PV3:Abs.Rows),J3=j3/\(m - 1)+j3=w/\(I j3).k=k3/\(∀ i,i < L4.v->X3 i=ur ((I j3).R i))/\PV3=W .i64 (pl (I j3).p k3)/\rdSt L4.v (C+1) w Z3 PV' W0 J'=rdSt L4.v k3 w X3 PV3 W0 J3:=⟨j+1,k+1,J',Z3,PV',hJ',by omega,hk2,hZ3,by rw [hPV',hPV3,hPV],by rw [hC]⟩
     have q0:zr [[Tree.v (.int .i64 J)]] 0 1=W .i64 [J]:=by rw [hS.part]; rfl
     have q1:zq 0 1 [[Tree.v (.int .i64 J)]]=true:=by rw [hS.fit]; rfl
     have q2:zj (zr [[Tree.v (.int .i64 J)]] 0 1)=1:=by rw [q0,hS.len]; rfl
     have q3:zQ (zc 1 0)=true:=by rw [hS.neq,hS.not]; rfl
     have q4:zx 1 (zr [[Tree.v (.int .i64 J)]] 0 1)=true:=by rw [q0,hS.wide]; rfl
     have q5:zh k 1 8=true:=by rw [hS.room]; exact decide_eq_true (by unfold capBytes; omega)
     have q7:zd k 1=k+1:=by rw [hS.nadd]
     have q8:zs PV 0 (zr [[Tree.v (.int .i64 J)]] 0 1)=PV':=by rw [q0,hS.ext,hPV',List.drop_zero]
     have u2:zk (X l) j=some [.v (.bool s),.lst false r,.v (.bool t),.lst false p]:=by rw [hS.nth]; exact u
     have f0:zq 0 w (X l)=true:=f _ (eX l hln)
     have p0:zr (X l) 0 w=X l:=pt _ (eX l hln)
     have z0:zO (Int.ofNat l) 0=false:=by rw [hS.lt]; exact decide_eq_false (show ¬((l:Int) < 0) by omega)
     have Ll:LN l:=trivial
     obtain ⟨E,hE⟩:∃ E,E=l:=⟨_,rfl⟩
     have hk4:k=0 ∨ 0 < k:=by omega
     have hln:l < N:=by rw [<- hv]; exact hln
     have hkN:k<=N:=by rw [<- hv]; exact hkn
     clear hok hrd ok hX hPV hPV' hZ3 hPV3 hk2 hkn eX u
     rcases hk4 with rfl | hk4
     ·have q6:zx 1 []=true:=by rw [hS.wide]; rfl
      obtain rfl:PV=[]:=List.length_eq_zero_iff.1 hPVl
      have zS:zj S=w:=by rw [hS.len,eS]
      subst hC
      obtain rfl:zj=fun a:Abs.Rows=>a.length:=by funext a; exact hS.len a
      cbv at q2
      cbv at zS
      obtain rfl | rfl | rfl | rfl:l=0 ∨ l=1 ∨ l=2 ∨ l=3:=by omega
      all_goals first | (exfalso; omega) | skip
      all_goals
       subst hTl
       subst hs1
       cbv
       refine bT l1 ?_
       refine ⟨_,hS.hcall cpv,?_⟩
       cbv
       refine bF z0 (nd b1 ?_)
       rw [b2,u2]
       cbv
       refine ⟨_,hS.call (cinv),?_⟩
       cbv
       refine nd (f0) ?_
       rw [p0]
       refine ⟨_,hS.call cm,?_⟩
       cbv
       rw [zS]
       refine ⟨_,hS.hcall ce1,?_⟩
       cbv
       refine ⟨_,hS.hcall ce2,?_⟩
       cbv
       refine nd q1 ?_
       rw [q2]
       refine nd q3 (nd q4 (nd q6 (nd q5 ?_)))
       rw [i1,q7,q8]
       refine againR (rdren L4.v 0 Ll.v) (s':=rdSt L4.v (0+1) w Z3 PV' W0 J') (k:=m - 1) ?_ ?_ ?_ ?_ rfl (Nat.zero_le _) hmm hnx
       ·simp [leTR,rdSt,mkSt,vi,AV.ren,AV.noTup,Cell.ren,renF,rdren,LN.v,List.range,List.range.loop]
       ·simp [leHR,rdSt,mkSt,mrh,Abs.look,renF,Blk.ren,Cell.ren,rdren,LN.v,List.range,List.range.loop]
       ·simp [liveR,rdSt,mkSt,mrh,renF,rdren,LN.v,List.range,List.range.loop]
       ·simp [rdren]
     ·have q6:zc (zd 0 k) (zj PV)=true:=by rw [hS.nadd,hS.neq,hS.len,hPVl,Nat.zero_add]; exact decide_eq_true rfl
      have zS:zj S=w:=by rw [hS.len,eS]
      subst hC
      obtain rfl | rfl | rfl:C=1 ∨ C=2 ∨ C=3:=by omega
      all_goals first | (exfalso; omega) | skip
      all_goals obtain rfl | rfl | rfl:l=1 ∨ l=2 ∨ l=3:=by omega
      all_goals first | (exfalso; omega) | skip
      all_goals
       subst hTl
       subst hs1
       cbv
       refine bT l1 ?_
       refine ⟨_,hS.hcall cpv,?_⟩
       cbv
       refine bF z0 (nd b1 ?_)
       rw [b2,u2]
       cbv
       refine ⟨_,hS.call (cinv),?_⟩
       cbv
       refine nd (f0) ?_
       rw [p0]
       refine ⟨_,hS.call cm,?_⟩
       cbv
       rw [zS]
       refine ⟨_,hS.hcall ce1,?_⟩
       cbv
       refine ⟨_,hS.hcall ce2,?_⟩
       cbv
       refine nd q1 ?_
       rw [q2]
       refine nd q3 (nd q4 (nd q5 (nd q6 ?_)))
       rw [i1,q7,q8]
       refine againR (rdren L4.v Lk.v Ll.v) (s':=rdSt L4.v (Lk.v+1) w Z3 PV' W0 J') (k:=m - 1) ?_ ?_ ?_ ?_ rfl (Nat.zero_le _) hmm hnx
       ·simp [leTR,rdSt,mkSt,vi,AV.ren,AV.noTup,Cell.ren,renF,rdren,LN.v,List.range,List.range.loop]
       ·simp [leHR,rdSt,mkSt,mrh,Abs.look,renF,Blk.ren,Cell.ren,rdren,LN.v,List.range,List.range.loop]
       ·simp [liveR,rdSt,mkSt,mrh,renF,rdren,LN.v,List.range,List.range.loop]
       ·simp [rdren]
theorem rdIt0 (M:Nat->List Rat):∀ w,(rdIt 0 M w).k=0
 | 0=>rfl
 | w+1=>by
  show (rdNext 0 w (rdIt 0 M w)).k=0
  unfold rdNext
  rw [rdIt0 M w,if_pos (show pvt (rdIt 0 M w).R w (0 - 0) 0=-1 from rfl)]; exact rdIt0 M w
theorem mred_call (n:Nat) (hn:n<=4) (M:Nat->List Rat) (w B:Nat) (hw:w<=1000) (hl:∀ i,i < n->(M i).length=w) (hB:1<=B) (hB2:B<=400000) (hq:∀ i,i < n->∀ q ∈ M i,Qs q B) :
  HCall Tryz.prog 61 ⟨[.c (.t (.lst false (mr n M)))],[]⟩ ⟨[.c (.t (.lst false (mr (rdIt n M w).k (rdIt n M w).R))),.c (.t (.lst (decide ((rdIt n M w).k=0)) (W .i64 (pl (rdIt n M w).p (rdIt n M w).k))))],[]⟩:=by
 by_cases h0:n=0
 ·subst h0
  have:=mred 0 hn M 0 B (fun _=>rfl) (by omega) (by omega) hB hB2 (by omega)
  rw [rdIt0] at this ⊢
  exact this
 ·exact mred n hn M w B (by omega) hw hl hB hB2 hq
end Go.Proofs.YtjfmkcmepdedaaaGreat
end
