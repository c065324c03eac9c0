/-
  A part of the proof: MtK, RnU1k, MxK1k, MxV1k, MxZ1k, MxY1k, MxN1k, MxM1k.
-/
import Derived.Test.YtjfmkcmepdedaaaGreatM11
set_option maxHeartbeats 0
set_option maxRecDepth 100000
set_option linter.unusedVariables false
set_option linter.unusedSimpArgs false
set_option linter.unusedSectionVars false
section
namespace Go.Abs
def kvf (R:Nat->List Rat) (p:Nat->Nat) (j:Nat):Nat->Nat->Rat
 | 0,y=>if y=j then 1 else 0
 | k+1,y=>if y=p k then -((R k).getD j 0) else kvf R p j k y
def isP (p:Nat->Nat):Nat->Nat->Bool
 | 0,_=>false
 | k+1,y=>if y=p k then true else isP p k y
theorem isP_iff (p:Nat->Nat) (y:Nat):∀ k,isP p k y=true ↔ ∃ l,l < k/\p l=y
 | 0=>by simp [isP]
 | k+1=>by
  unfold isP
  split
  ·rename_i h
   exact ⟨fun _=>⟨k,by omega,h.symm⟩,fun _=>rfl⟩
  ·rename_i h
   rw [isP_iff p y k]
   constructor
   ·rintro ⟨l,h1,h2⟩; exact ⟨l,by omega,h2⟩
   ·rintro ⟨l,h1,h2⟩
    refine ⟨l,?_,h2⟩
    by_cases e:l=k
    ·rw [e] at h2; exact absurd h2.symm h
    ·omega
theorem kvf_free {R:Nat->List Rat} {p:Nat->Nat} {j y:Nat}:∀ k,isP p k y=false->kvf R p j k y=if y=j then 1 else 0
 | 0,_=>rfl
 | k+1,h=>by
  unfold isP at h
  split at h
  ·cases h
  ·rename_i hne
   rw [kvf,if_neg hne,kvf_free k h]
def frL (p:Nat->Nat) (k:Nat):Nat->List Nat
 | 0=>[]
 | y+1=>if isP p k y=true then frL p k y else frL p k y ++ [y]
theorem frL_mem (p:Nat->Nat) (k:Nat):∀ y,∀ j ∈ frL p k y,j < y/\isP p k j=false
 | 0,j,h=>by simp [frL] at h
 | y+1,j,h=>by
  unfold frL at h
  split at h
  ·have:=frL_mem p k y j h; exact ⟨by omega,this.2⟩
  ·rename_i hp
   rcases List.mem_append.1 h with h | h
   ·have:=frL_mem p k y j h; exact ⟨by omega,this.2⟩
   ·rw [List.mem_singleton.1 h]; exact ⟨by omega,by simpa using hp⟩
def cntP (p:Nat->Nat):Nat->Nat->Nat
 | 0,_=>0
 | k+1,y=>(if p k < y then 1 else 0)+cntP p k y
theorem cntP_all (p:Nat->Nat) (y:Nat):∀ k,(∀ l,l < k->p l < y)->cntP p k y=k
 | 0,_=>rfl
 | k+1,h=>by rw [cntP,if_pos (h k (by omega)),cntP_all p y k fun l hl=>h l (by omega)]; omega
theorem cntP_none (p:Nat->Nat):∀ k,cntP p k 0=0
 | 0=>rfl
 | k+1=>by rw [cntP,if_neg (by omega),cntP_none p k]
theorem cntP_next (p:Nat->Nat) (y:Nat):∀ k,(∀ i l,i < l->l < k->p i < p l)->cntP p k (y+1)=cntP p k y+if isP p k y=true then 1 else 0
 | 0,_=>by simp [cntP,isP]
 | k+1,h=>by
  have ih:=cntP_next p y k fun i l h1 h2=>h i l h1 (by omega)
  rw [cntP,cntP,ih]
  by_cases hy:y=p k
  ·have h0:isP p k y=false:=by
    rw [<- Bool.not_eq_true,isP_iff]
    rintro ⟨l,hl,e⟩
    have:=h l k hl (by omega)
    omega
   rw [isP,if_pos hy,h0,if_pos (show p k < y+1 by omega),if_neg (show ¬ p k < y by omega),if_pos rfl,if_neg (by decide)]
   omega
  ·rw [isP,if_neg hy]
   by_cases h1:p k < y
   ·rw [if_pos (show p k < y+1 by omega),if_pos h1]; exact (Nat.add_assoc ..).symm
   ·rw [if_neg (show ¬ p k < y+1 by omega),if_neg h1]; exact (Nat.add_assoc ..).symm
theorem frL_len (p:Nat->Nat) (k:Nat) (h:∀ i l,i < l->l < k->p i < p l):∀ y,(frL p k y).length+cntP p k y=y
 | 0=>by rw [cntP_none]; rfl
 | y+1=>by
  have ih:=frL_len p k h y
  rw [cntP_next p y k h]
  unfold frL
  split
  ·omega
  ·rw [List.length_append,List.length_singleton]; omega
theorem fr_count {n w k:Nat} {M R:Nat->List Rat} {p:Nat->Nat} (h:RdI n w w k M R p):(frL p k w).length+k=w:=by
 have:=frL_len p k h.inc w
 rw [cntP_all p w k h.pj] at this
 exact this
end Go.Abs
end
section
namespace Go.Proofs.YtjfmkcmepdedaaaGreat
open Go Go.Abs Go.Proofs
structure RN where
 s:Bool
 r:Abs.Rows
 t:Bool
 p:Abs.Rows
def RN.row (c:RN):List Tree:=[.v (.bool c.s),.lst false c.r,.v (.bool c.t),.lst false c.p]
theorem hideP {L:Code->St->(AExit->ST->Prop)->Prop} {c:Code} {st:St} {Q:AExit->ST->Prop} {e:AExit} {s:ST} (Pr:Prop) (main:∀ Q':AExit->ST->Prop,(Pr->Q' e s)->(∀ s,Q .ret s->Q' .ret s)->L c st Q') (rest:Pr->Q e s):L c st Q:=main Q rest fun _ h=>h
open Go Go.Abs Go.Abs.M Go.Proofs
theorem mech_call (n:Nat) (hn:n<=4) (M:Nat->List Rat) (w B:Nat) (hw:w<=1000) (hl:∀ i,i < n->(M i).length=w) (hB:1<=B) (hB2:B<=400000) (hq:∀ i,i < n->∀ q ∈ M i,Qs q B) :
  ACall Tryz.prog 32 [.val (tl (mr n M))] ⟨[.val (tl (mr (rdIt n M w).k (rdIt n M w).R))],[none]⟩:=by
 have c:=mred_call n hn M w B hw hl hB hB2 hq
 generalize mr n M=X at *
 generalize mr (rdIt n M w).k (rdIt n M w).R=Y at *
 generalize W .i64 (pl (rdIt n M w).p (rdIt n M w).k)=Z at *
 generalize decide ((rdIt n M w).k=0)=d at *
 refine callZ ccOk mixed [.val] Tryz.func32 rfl rfl (by kernel_rfl) fun zA zB zC zD zE zF zG zH zI zJ zK zL zM zN zO zP zQ zR zT zU zV zX zY zZ zb zc zd ze zg zh zi zj zk zl zm zn zo zq zr zs zt zu zx zy zz zmget zmset zW zth A L F hS hF=>?_
 cbv
 refine ⟨_,hS.hcall c,?_⟩
 cbv
 exact hF _ (ResLe.refl _)
def krow (w:Nat) (R:Nat->List Rat) (p:Nat->Nat) (k j:Nat):List Rat:=(List.range w).map (kvf R p j k)
theorem krow_len (w:Nat) (R:Nat->List Rat) (p:Nat->Nat) (k j:Nat):(krow w R p k j).length=w:=by simp [krow]
theorem krow_get {w:Nat} {R:Nat->List Rat} {p:Nat->Nat} {k j y:Nat} (h:y < w):(krow w R p k j)[y]?=some (kvf R p j k y):=by simp [krow,List.getElem?_range h]
theorem krow_zero {w:Nat} {R:Nat->List Rat} {p:Nat->Nat} {j:Nat} (h:j < w):(List.replicate w 0).set j 1=krow w R p 0 j:=by
 refine List.ext_getElem? fun y=>?_
 by_cases hy:y < w
 ·rw [krow_get hy,List.getElem?_set]
  by_cases e:j=y
  ·rw [if_pos e]; simp [e,hy,kvf]
  ·rw [if_neg e,List.getElem?_replicate,if_pos hy]; simp [kvf,Ne.symm e]
 ·rw [List.getElem?_eq_none (by simp; omega),List.getElem?_eq_none (by rw [krow_len]; omega)]
theorem krow_next {w:Nat} {R:Nat->List Rat} {p:Nat->Nat} {j k:Nat} (h:p k < w):(krow w R p k j).set (p k) (-((R k).getD j 0))=krow w R p (k+1) j:=by
 refine List.ext_getElem? fun y=>?_
 by_cases hy:y < w
 ·rw [krow_get hy,List.getElem?_set,krow_len]
  by_cases e:p k=y
  ·rw [if_pos e,if_pos (by omega)]; simp [e,kvf]
  ·rw [if_neg e,krow_get hy]; simp [kvf,Ne.symm e]
 ·rw [List.getElem?_eq_none (by rw [List.length_set,krow_len]; omega),List.getElem?_eq_none (by rw [krow_len]; omega)]
def kerB (w:Nat) (R:Nat->List Rat) (p:Nat->Nat) (k y:Nat):Abs.Rows:=(frL p k y).map fun j=>[.lst false (ur (krow w R p k j))]
def mkSt0 (MR RR PV:Abs.Rows) (cp:Bool) (W0 J:Int):St:=mkSt 55 [.c (.t (.lst false MR)),.junk,.junk,.c (.t (.lst false RR)),.c (.t (.lst cp PV)),.c (.t (.lst true [])),.junk,.junk,.junk,.junk,.junk,.junk,.junk,.junk,.junk,.junk,vi .i64 W0,vi .i64 J] [none]
def mkSt1 (MR RR PV:Abs.Rows) (cp:Bool) (b:Nat) (BB:Abs.Rows) (W0 J:Int):St:=mkSt 55 [.c (.t (.lst false MR)),.junk,.junk,.c (.t (.lst false RR)),.c (.t (.lst cp PV)),.c (.sl 1 0 b false),.junk,.junk,.junk,.junk,.junk,.junk,.junk,.junk,.junk,.junk,vi .i64 W0,vi .i64 J] [none,some (.rows 1 BB true false)]
def mkIn0 (MR RR PV:Abs.Rows) (cp:Bool) (w:Nat) (X:Abs.Rows) (W0 J K I:Int):St:=mkSt 55 [.c (.t (.lst false MR)),.junk,.junk,.c (.t (.lst false RR)),.c (.t (.lst cp PV)),.c (.t (.lst true [])),vi .i64 J,.c (.sl 3 0 w false),.junk,.junk,.junk,.junk,.junk,.junk,.junk,.junk,vi .i64 W0,vi .i64 J,.junk,.junk,.junk,.junk,.junk,.junk,.junk,.junk,.junk,.junk,.junk,.junk,.c (.t (.lst cp PV)),vi .i64 K,vi .i64 I] [none,none,none,some (.rows 4 X true false)]
def mkIn1 (MR RR PV:Abs.Rows) (cp:Bool) (b:Nat) (BB:Abs.Rows) (w:Nat) (X:Abs.Rows) (W0 J K I:Int):St:=mkSt 55 [.c (.t (.lst false MR)),.junk,.junk,.c (.t (.lst false RR)),.c (.t (.lst cp PV)),.c (.sl 1 0 b false),vi .i64 J,.c (.sl 4 0 w false),.junk,.junk,.junk,.junk,.junk,.junk,.junk,.junk,vi .i64 W0,vi .i64 J,.junk,.junk,.junk,.junk,.junk,.junk,.junk,.junk,.junk,.junk,.junk,.junk,.c (.t (.lst cp PV)),vi .i64 K,vi .i64 I] [none,some (.rows 1 BB true false),none,none,some (.rows 4 X true false)]
theorem mker_call (n:Nat) (hn:n<=4) (M:Nat->List Rat) (w B:Nat) (hw:w<=1000) (h0:n=0->w=0) (hl:∀ i,i < n->(M i).length=w) (hB:1<=B) (hB2:B<=400000) (hq:∀ i,i < n->∀ q ∈ M i,Qs q B) :
  ACall Tryz.prog 33 [.val (tl (mr n M))] ⟨[.val (tl (kerB w (rdIt n M w).R (rdIt n M w).p (rdIt n M w).k w))],[none]⟩:=by
 have cr:=mred_call n hn M w B hw hl hB hB2 hq
 have cw:=mwidth_call n w M hl (by omega)
 rw [show (if n=0 then 0 else w)=w by split <;> omega] at cw
 have cz:=mzeros_call w hw
 have ok:=rdIt_ok hl w
 have qs:=rdIt_qs hl hB hq w (Nat.le_refl _)
 obtain ⟨k,hk⟩:∃ k,k=(rdIt n M w).k:=⟨_,rfl⟩
 obtain ⟨R,hR⟩:∃ R,R=(rdIt n M w).R:=⟨_,rfl⟩
 obtain ⟨p,hp⟩:∃ p,p=(rdIt n M w).p:=⟨_,rfl⟩
 rw [<- hk,<- hR,<- hp] at cr ok ⊢
 rw [<- hk,<- hR] at qs
 have hkn:k<=4:=by have:=ok.kn; omega
 obtain ⟨Q,hQ,hQs⟩:∃ Q,Q<=68719476736/\∀ i,i < n->∀ q ∈ R i,Qs q Q:=⟨7 ^ k*B,by
  have:7 ^ k<=7 ^ 4:=Nat.pow_le_pow_right (by omega) hkn
  have:=Nat.mul_le_mul this hB2
  omega,qs⟩
 obtain ⟨T,hT⟩:∃ T,T=kerB w R p k w:=⟨_,rfl⟩
 obtain ⟨MR,hMR⟩:∃ X,X=mr n M:=⟨_,rfl⟩
 obtain ⟨RR,hRR⟩:∃ X,X=mr k R:=⟨_,rfl⟩
 obtain ⟨PV,hPV⟩:∃ X,X=W .i64 (pl p k):=⟨_,rfl⟩
 obtain ⟨cp,hcp⟩:∃ X,X=decide (k=0):=⟨_,rfl⟩
 obtain ⟨W0,hW0⟩:∃ X:Int,X=(w:Int):=⟨_,rfl⟩
 rw [<- hMR,<- hRR,<- hPV,<- hcp] at cr
 rw [<- hMR,<- hW0] at cw
 rw [<- hW0] at cz
 rw [<- hMR,<- hT]
 obtain ⟨s3,r3,v3,p3,hone,cone⟩:=pWhole_call 1 (by omega) (by omega)
 have q1:=qc_row hone
 rw [q1] at cone
 obtain ⟨o1,o2,o3,o4,hrow1,_⟩:=qrow ((1:Int):Rat)
 obtain ⟨u1,u2,u3,u4,hrow0,_⟩:=qrow (0:Rat)
 rw [hrow1] at cone
 have hK:∃ K:Int,K=(k:Int):=⟨_,rfl⟩
 obtain ⟨K,hK⟩:=hK
 have hPVl:PV.length=k:=by rw [hPV,qaj,pl_len]
 refine callZ ccOk mixed [.val] Tryz.func33 rfl rfl (by kernel_rfl) fun zA zB zC zD zE zF zG zH zI zJ zK zL zM zN zO zP zQ zR zT zU zV zX zY zZ zb zc zd ze zg zh zi zj zk zl zm zn zo zq zr zs zt zu zx zy zz zmget zmset zW zth A L F hS hF=>?_
 cbv
 refine ⟨_,hS.hcall cr,?_⟩
 cbv
 refine ⟨_,hS.hcall cw,?_⟩
 cbv
 have hW0:W0=(w:Int):=hW0
 refine loopZR ccOk mixed hS (fun (m:Nat) s'=>∃ (j:Nat) (J:Int),J=j/\m+j=w/\((frL p k j=[]/\s'=mkSt0 MR RR PV cp W0 J) ∨ s'=mkSt1 MR RR PV cp (frL p k j).length (kerB w R p k j) W0 J)) (n:=w) (s0:=mkSt0 MR RR PV cp W0 0) (qan ?_ ?_) rfl (Nat.succ_le_succ (Nat.zero_le _)) ?_ ?_
 ·simp [leT,mkSt0,mkSt,vi,vb]
 ·simp [leH,mkSt0,mkSt]
 ·exact ⟨0,0,rfl,by omega,.inl ⟨rfl,rfl⟩⟩
 ·rintro m s1 ⟨j,J,hJ,hm,⟨he,hs1⟩ | hs1⟩
  ·have hJ:J=(j:Int):=hJ
   have hmm:m - 1 < m ∨ j=w:=by omega
   by_cases hjw:j=w
   ·have l1:zO J W0=false:=by rw [hS.lt]; exact decide_eq_false (by omega)
    have hT0:T=[]:=by rw [hT,<- hjw,kerB,he]; rfl
    subst hT0
    subst hs1
    cbv
    refine bF l1 ?_
    exact fin1w hF (TLe.drop _ _)
   ·have hj:j < w:=by omega
    have hmm:m - 1 < m:=by omega
    have l1:zO J W0=true:=by rw [hS.lt]; exact decide_eq_true (by omega)
    obtain ⟨J',hJ',i1⟩:∃ J':Int,J'=((j+1:Nat):Int)/\zA .i64 (zB J 1)=J':=⟨J+1,by omega,by rw [hS.add,hS.wrap,wrap_i64 (by omega) (by omega)]⟩
    have cc:=scont_call (pl p k) J (by rw [pl_len]; omega) (isP p k j) (by rw [isP_iff,hJ,pl_mem])
    rw [<- hPV] at cc
    have cc:ACall Tryz.prog 81 [.val (.c (.lst cp PV)),.val (ti .i64 J)] ⟨[.val (tb (isP p k j))],[none,none]⟩:=ACall.weak (show ArgsLe [.val (.c (.lst cp PV)),.val (ti .i64 J)] [.val (tl PV),.val (ti .i64 J)] from ⟨TLe.drop _ _,TLe.refl _,trivial⟩) (ResLe.refl _) cc
    cases hP:isP p k j with
    | true=>
     rw [hP] at cc
     have hfr:frL p k (j+1)=frL p k j:=by rw [frL,if_pos hP]
     have hnx:∃ (j2:Nat) (J2:Int),J2=j2/\(m - 1)+j2=w/\((frL p k j2=[]/\mkSt0 MR RR PV cp W0 J'=mkSt0 MR RR PV cp W0 J2) ∨ mkSt0 MR RR PV cp W0 J'=mkSt1 MR RR PV cp (frL p k j2).length (kerB w R p k j2) W0 J2):=⟨j+1,J',hJ',by omega,.inl ⟨by rw [hfr]; exact he,rfl⟩⟩
     clear hJ'
     subst hs1
     cbv
     refine bT l1 ?_
     refine ⟨_,hS.call cc,?_⟩
     cbv
     refine bT rfl ?_
     refine againR [] (s':=mkSt0 MR RR PV cp W0 J') (k:=m - 1) ?_ ?_ ?_ ?_ rfl (Nat.succ_le_succ (Nat.zero_le _)) hmm hnx
     ·simp [leTR,mkSt0,mkSt,vi,AV.ren,AV.noTup,Cell.ren,renF,i1]
     ·simp [leHR,mkSt0,mkSt,Abs.look,renF,Blk.ren,Cell.ren]
     ·simp [liveR,mkSt0,mkSt,renF]
     ·simp
    | false=>
     rw [hP] at cc
     have hfr:frL p k (j+1)=frL p k j ++ [j]:=by rw [frL,if_neg (by rw [hP]; decide)]
     have b1:zY J w=true:=by rw [hS.inb]; exact decide_eq_true (by omega)
     have b2:zb 0 J=j:=by rw [hS.idx]; omega
     obtain ⟨Z,hZ⟩:∃ Z,Z=ur (List.replicate w 0):=⟨_,rfl⟩
     have lZ:zj Z=w:=by rw [hS.len,hZ,qag]; simp
     rw [<- hZ] at cz
     have u2:zk Z j=some [.v (.bool u1),.lst false u3,.v (.bool u2),.lst false u4]:=by rw [hS.nth,hZ,<- hrow0]; exact qat (by rw [List.getElem?_replicate,if_pos hj])
     obtain ⟨X0,hX0⟩:∃ X,X=ur (krow w R p 0 j):=⟨_,rfl⟩
     have u4:zl Z j [.v (.bool o1),.lst false o3,.v (.bool o2),.lst false o4]=X0:=by
      rw [hS.setr,hX0,hZ,<- hrow1,<- krow_zero hj]; exact ur_set _ _ _
     have e0:zZ (zj PV)=K:=by rw [hS.ofN,hS.len,hPVl,hK]
     subst hs1
     cbv
     refine bT l1 ?_
     refine ⟨_,hS.call cc,?_⟩
     cbv
     refine bF rfl ?_
     refine ⟨_,hS.hcall cw,?_⟩
     cbv
     refine ⟨_,hS.call cz,?_⟩
     cbv
     refine ⟨_,hS.call cone,?_⟩
     cbv
     rw [lZ]
     refine nd b1 ?_
     rw [b2,u2]
     cbv
     rw [u4,e0]
     obtain ⟨XK,hXK⟩:∃ X,X=ur (krow w R p k j):=⟨_,rfl⟩
     apply hideP (L:=L) True
     ·intro Q' hq hret
      have hJ:J=(j:Int):=hJ
      have hK:K=(k:Int):=hK
      refine loopZR ccOk mixed hS (fun (m2:Nat) s'=>∃ (i:Nat) (I:Int) (X:Abs.Rows),I=i/\m2+i=k/\X=ur (krow w R p i j)/\s'=mkIn0 MR RR PV cp w X W0 J K I) (n:=k) (s0:=mkIn0 MR RR PV cp w X0 W0 J K 0) (qan ?_ ?_) rfl (Nat.succ_le_succ (Nat.zero_le _)) ?_ ?_
      ·simp [leT,mkIn0,mkSt,vi,vb]
      ·simp [leH,mkIn0,mkSt]
      ·exact ⟨0,0,X0,rfl,by omega,hX0,rfl⟩
      ·rintro m2 s2 ⟨i,I,X,hI,hm2,hX,hs2⟩
       have hI:I=(i:Int):=hI
       have lX:X.length=w:=by rw [hX,qag,krow_len]
       by_cases hik:i=k
       ·have l2:zO I K=false:=by rw [hS.lt]; exact decide_eq_false (by omega)
        have hXX:X=XK:=by rw [hX,hXK,hik]
        obtain rfl:I=K:=by omega
        subst hXX
        subst hs2
        cbv
        refine bF l2 ?_
        exact hq trivial
       ·have hik:i < k:=by omega
        have l2:zO I K=true:=by rw [hS.lt]; exact decide_eq_true (by omega)
        have hpw:p i < w:=ok.pj i hik
        obtain ⟨Pi,hPi⟩:∃ P:Int,P=(p i:Int):=⟨_,rfl⟩
        have t0:zX I=i:=by rw [hS.nat]; omega
        have n0:zP 0 I=true:=by rw [hS.le]; exact decide_eq_true (by omega)
        have n1:zP 0 J=true:=by rw [hS.le]; exact decide_eq_true (by omega)
        have t1:zm .i64 PV i=true:=by rw [hS.isI,hPV,qaq,pl_len]; exact decide_eq_true hik
        have t7:zn PV i=Pi:=by
         rw [hS.getI,hPV,qak,hPi,List.getD_eq_getElem?_getD]; simp [pl,List.getElem?_map,List.getElem?_range hik]
        obtain ⟨Ri,hRi⟩:∃ X,X=ur (R i):=⟨_,rfl⟩
        have t2:zk RR i=some [.lst false Ri]:=by rw [hS.nth,hRR,hRi]; exact qbf hik
        have lRi:(R i).length=w:=ok.len i (by have:=ok.kn; omega)
        obtain ⟨y,hy⟩:∃ y,y=(R i).getD j 0:=⟨_,rfl⟩
        have gy:(R i)[j]?=some y:=by rw [hy,List.getD_eq_getElem?_getD,List.getElem?_eq_getElem (by omega)]; rfl
        obtain ⟨_,cneg⟩:=pneg_row (hQs i (by have:=ok.kn; omega) y (List.mem_of_getElem? gy)) hQ
        obtain ⟨s5,v5,r5,p5,hrow5,_⟩:=qrow y
        obtain ⟨s6,v6,r6,p6,hrow6,_⟩:=qrow (-y)
        have t3:zk Ri j=some [.v (.bool s5),.lst false r5,.v (.bool v5),.lst false p5]:=by rw [hS.nth,hRi,<- hrow5]; exact qat gy
        have t4:zX J=j:=by rw [hS.nat]; omega
        rw [hrow5,hrow6] at cneg
        obtain ⟨s7,v7,r7,p7,hrow7,_⟩:=qrow (kvf R p j i (p i))
        have t5:zk X (p i)=some [.v (.bool s7),.lst false r7,.v (.bool v7),.lst false p7]:=by rw [hS.nth,hX,<- hrow7]; exact qat (krow_get hpw)
        obtain ⟨Y,hY⟩:∃ Y,Y=ur (krow w R p (i+1) j):=⟨_,rfl⟩
        have t6:zl X (p i) [.v (.bool s6),.lst false r6,.v (.bool v6),.lst false p6]=Y:=by
         rw [hS.setr,hY,hX,<- hrow6,<- krow_next hpw,<- hy]; exact ur_set _ _ _
        have b3:zY Pi w=true:=by rw [hS.inb]; exact decide_eq_true (by omega)
        have b4:zb 0 Pi=p i:=by rw [hS.idx]; omega
        obtain ⟨I',hI',i2⟩:∃ I':Int,I'=((i+1:Nat):Int)/\zA .i64 (zB I 1)=I':=⟨I+1,by omega,by rw [hS.add,hS.wrap,wrap_i64 (by omega) (by omega)]⟩
        have hm3:m2 - 1 < m2:=by omega
        have hnx2:∃ (i3:Nat) (I3:Int) (X3:Abs.Rows),I3=i3/\(m2 - 1)+i3=k/\X3=ur (krow w R p i3 j)/\mkIn0 MR RR PV cp w Y W0 J K I'=mkIn0 MR RR PV cp w X3 W0 J K I3:=⟨i+1,I',Y,hI',by omega,hY,rfl⟩
        generalize p i=pi at *
        clear hX hY hI'
        subst hs2
        cbv
        refine bT l2 (nd n0 ?_)
        rw [t0]
        refine nd t1 ?_
        rw [t2,t7]
        cbv
        refine nd n0 ?_
        rw [t4,t3]
        cbv
        refine nd n1 ?_
        refine ⟨_,hS.call cneg,?_⟩
        cbv
        refine nd b3 ?_
        rw [b4,t5]
        cbv
        rw [t6,i2]
        refine againR [] (s':=mkIn0 MR RR PV cp w Y W0 J K I') (k:=m2 - 1) ?_ ?_ ?_ ?_ rfl (Nat.succ_le_succ (Nat.zero_le _)) hm3 hnx2
        ·simp [leTR,mkIn0,mkSt,vi,AV.ren,AV.noTup,Cell.ren,renF]
        ·simp [leHR,mkIn0,mkSt,Abs.look,renF,Blk.ren,Cell.ren]
        ·simp [liveR,mkIn0,mkSt,renF]
        ·simp
     ·intro _
      have lXK:XK.length=w:=by rw [hXK,qag,krow_len]
      have fX:zq 0 w XK=true:=by rw [hS.fit]; exact decide_eq_true (by omega)
      have pX:zr XK 0 w=XK:=by rw [hS.part,List.drop_zero,List.take_of_length_le (by omega)]
      obtain ⟨row2,hrw2⟩:∃ row2,row2=[Tree.lst false XK]:=⟨_,rfl⟩
      have hr1:row2.length=1:=by rw [hrw2]; rfl
      have v0:zr [row2] 0 1=[row2]:=by rw [hS.part]; rfl
      have v1:zq 0 1 [row2]=true:=by rw [hS.fit]; rfl
      have v2:zQ (zc (zj [row2]) 0)=true:=by rw [hS.len,hS.neq,hS.not]; rfl
      have v3:zx 1 [row2]=true:=by rw [hS.wide]; simp [hr1]
      obtain ⟨b2,hb2⟩:∃ b2,b2=(frL p k (j+1)).length:=⟨_,rfl⟩
      obtain ⟨B2,hBB2⟩:∃ B2,B2=kerB w R p k (j+1):=⟨_,rfl⟩
      have hjn:kerB w R p k (j+1)=kerB w R p k j ++ [row2]:=by
       unfold kerB
       rw [hfr,List.map_append,hrw2,hXK]; rfl
      have hjl:(frL p k (j+1)).length=(frL p k j).length+1:=by rw [hfr,List.length_append]; rfl
      have hfl:(frL p k j).length<=j:=by
       have:=frL_len p k ok.inc j
       omega
      have v4:zh (zj []) (zj [row2]) 24=true:=by rw [hS.len,hS.len,hS.room]; rfl
      have v5:zx 1 []=true:=by rw [hS.wide]; rfl
      have v6:zd (zj []) (zj [row2])=b2:=by rw [hS.len,hS.len,hS.nadd,hb2,hjl,he]; rfl
      have v7:zs [] 0 [row2]=B2:=by rw [hS.ext,hBB2,hjn,kerB,he]; rfl
      have hnx:∃ (j2:Nat) (J2:Int),J2=j2/\(m - 1)+j2=w/\((frL p k j2=[]/\mkSt1 MR RR PV cp b2 B2 W0 J'=mkSt0 MR RR PV cp W0 J2) ∨ mkSt1 MR RR PV cp b2 B2 W0 J'=mkSt1 MR RR PV cp (frL p k j2).length (kerB w R p k j2) W0 J2):=⟨j+1,J',hJ',by omega,.inr (by rw [<- hb2,<- hBB2])⟩
      clear hBB2 hb2 hjn hjl hJ' hfr hfl
      cbv
      refine nd fX ?_
      rw [pX,<- hrw2,v0]
      refine nd v1 (nd v2 (nd v3 (nd v5 (nd v4 ?_))))
      rw [i1,v6,v7]
      refine againR [(1,5)] (s':=mkSt1 MR RR PV cp b2 B2 W0 J') (k:=m - 1) ?_ ?_ ?_ ?_ rfl (Nat.succ_le_succ (Nat.zero_le _)) hmm hnx
      ·simp [leTR,mkSt1,mkSt,vi,AV.ren,AV.noTup,Cell.ren,renF]
      ·simp [leHR,mkSt1,mkSt,Abs.look,renF,Blk.ren,Cell.ren]
      ·simp [liveR,mkSt1,mkSt,renF]
      ·simp
  ·have hJ:J=(j:Int):=hJ
   have hmm:m - 1 < m ∨ j=w:=by omega
   obtain ⟨b,hb⟩:∃ b,b=(frL p k j).length:=⟨_,rfl⟩
   obtain ⟨BB,hBB⟩:∃ X,X=kerB w R p k j:=⟨_,rfl⟩
   have lBB:BB.length=b:=by rw [hBB,hb]; simp [kerB]
   rw [<- hb,<- hBB] at hs1
   by_cases hjw:j=w
   ·have l1:zO J W0=false:=by rw [hS.lt]; exact decide_eq_false (by omega)
    have hBT:BB=T:=by rw [hBB,hT,hjw]
    have f1:zq 0 b BB=true:=by rw [hS.fit]; exact decide_eq_true (by omega)
    have f2:zr BB 0 b=BB:=by rw [hS.part,List.drop_zero,List.take_of_length_le (by omega)]
    subst hBT
    subst hs1
    cbv
    refine bF l1 (nd f1 ?_)
    rw [f2]
    exact hF _ (ResLe.refl _)
   ·have hj:j < w:=by omega
    have hmm:m - 1 < m:=by omega
    have l1:zO J W0=true:=by rw [hS.lt]; exact decide_eq_true (by omega)
    obtain ⟨J',hJ',i1⟩:∃ J':Int,J'=((j+1:Nat):Int)/\zA .i64 (zB J 1)=J':=⟨J+1,by omega,by rw [hS.add,hS.wrap,wrap_i64 (by omega) (by omega)]⟩
    have cc:=scont_call (pl p k) J (by rw [pl_len]; omega) (isP p k j) (by rw [isP_iff,hJ,pl_mem])
    rw [<- hPV] at cc
    have cc:ACall Tryz.prog 81 [.val (.c (.lst cp PV)),.val (ti .i64 J)] ⟨[.val (tb (isP p k j))],[none,none]⟩:=ACall.weak (show ArgsLe [.val (.c (.lst cp PV)),.val (ti .i64 J)] [.val (tl PV),.val (ti .i64 J)] from ⟨TLe.drop _ _,TLe.refl _,trivial⟩) (ResLe.refl _) cc
    cases hP:isP p k j with
    | true=>
     rw [hP] at cc
     have hfr:frL p k (j+1)=frL p k j:=by rw [frL,if_pos hP]
     have hnx:∃ (j2:Nat) (J2:Int),J2=j2/\(m - 1)+j2=w/\((frL p k j2=[]/\mkSt1 MR RR PV cp b BB W0 J'=mkSt0 MR RR PV cp W0 J2) ∨ mkSt1 MR RR PV cp b BB W0 J'=mkSt1 MR RR PV cp (frL p k j2).length (kerB w R p k j2) W0 J2):=⟨j+1,J',hJ',by omega,.inr (by rw [hfr,<- hb,show kerB w R p k (j+1)=BB by rw [hBB,kerB,hfr]; rfl])⟩
     clear hJ'
     subst hs1
     cbv
     refine bT l1 ?_
     refine ⟨_,hS.call cc,?_⟩
     cbv
     refine bT rfl ?_
     refine againR [] (s':=mkSt1 MR RR PV cp b BB W0 J') (k:=m - 1) ?_ ?_ ?_ ?_ rfl (Nat.succ_le_succ (Nat.zero_le _)) hmm hnx
     ·simp [leTR,mkSt1,mkSt,vi,AV.ren,AV.noTup,Cell.ren,renF,i1]
     ·simp [leHR,mkSt1,mkSt,Abs.look,renF,Blk.ren,Cell.ren]
     ·simp [liveR,mkSt1,mkSt,renF]
     ·simp
    | false=>
     rw [hP] at cc
     have hfr:frL p k (j+1)=frL p k j ++ [j]:=by rw [frL,if_neg (by rw [hP]; decide)]
     have b1:zY J w=true:=by rw [hS.inb]; exact decide_eq_true (by omega)
     have b2:zb 0 J=j:=by rw [hS.idx]; omega
     obtain ⟨Z,hZ⟩:∃ Z,Z=ur (List.replicate w 0):=⟨_,rfl⟩
     have lZ:zj Z=w:=by rw [hS.len,hZ,qag]; simp
     rw [<- hZ] at cz
     have u2:zk Z j=some [.v (.bool u1),.lst false u3,.v (.bool u2),.lst false u4]:=by rw [hS.nth,hZ,<- hrow0]; exact qat (by rw [List.getElem?_replicate,if_pos hj])
     obtain ⟨X0,hX0⟩:∃ X,X=ur (krow w R p 0 j):=⟨_,rfl⟩
     have u4:zl Z j [.v (.bool o1),.lst false o3,.v (.bool o2),.lst false o4]=X0:=by
      rw [hS.setr,hX0,hZ,<- hrow1,<- krow_zero hj]; exact ur_set _ _ _
     have e0:zZ (zj PV)=K:=by rw [hS.ofN,hS.len,hPVl,hK]
     subst hs1
     cbv
     refine bT l1 ?_
     refine ⟨_,hS.call cc,?_⟩
     cbv
     refine bF rfl ?_
     refine ⟨_,hS.hcall cw,?_⟩
     cbv
     refine ⟨_,hS.call cz,?_⟩
     cbv
     refine ⟨_,hS.call cone,?_⟩
     cbv
     rw [lZ]
     refine nd b1 ?_
     rw [b2,u2]
     cbv
     rw [u4,e0]
     obtain ⟨XK,hXK⟩:∃ X,X=ur (krow w R p k j):=⟨_,rfl⟩
     apply hideP (L:=L) True
     ·intro Q' hq hret
      have hJ:J=(j:Int):=hJ
      have hK:K=(k:Int):=hK
      refine loopZR ccOk mixed hS (fun (m2:Nat) s'=>∃ (i:Nat) (I:Int) (X:Abs.Rows),I=i/\m2+i=k/\X=ur (krow w R p i j)/\s'=mkIn1 MR RR PV cp b BB w X W0 J K I) (n:=k) (s0:=mkIn1 MR RR PV cp b BB w X0 W0 J K 0) (qan ?_ ?_) rfl (Nat.succ_le_succ (Nat.zero_le _)) ?_ ?_
      ·simp [leT,mkIn1,mkSt,vi,vb]
      ·simp [leH,mkIn1,mkSt]
      ·exact ⟨0,0,X0,rfl,by omega,hX0,rfl⟩
      ·rintro m2 s2 ⟨i,I,X,hI,hm2,hX,hs2⟩
       have hI:I=(i:Int):=hI
       have lX:X.length=w:=by rw [hX,qag,krow_len]
       by_cases hik:i=k
       ·have l2:zO I K=false:=by rw [hS.lt]; exact decide_eq_false (by omega)
        have hXX:X=XK:=by rw [hX,hXK,hik]
        obtain rfl:I=K:=by omega
        subst hXX
        subst hs2
        cbv
        refine bF l2 ?_
        exact hq trivial
       ·have hik:i < k:=by omega
        have l2:zO I K=true:=by rw [hS.lt]; exact decide_eq_true (by omega)
        have hpw:p i < w:=ok.pj i hik
        obtain ⟨Pi,hPi⟩:∃ P:Int,P=(p i:Int):=⟨_,rfl⟩
        have t0:zX I=i:=by rw [hS.nat]; omega
        have n0:zP 0 I=true:=by rw [hS.le]; exact decide_eq_true (by omega)
        have n1:zP 0 J=true:=by rw [hS.le]; exact decide_eq_true (by omega)
        have t1:zm .i64 PV i=true:=by rw [hS.isI,hPV,qaq,pl_len]; exact decide_eq_true hik
        have t7:zn PV i=Pi:=by
         rw [hS.getI,hPV,qak,hPi,List.getD_eq_getElem?_getD]; simp [pl,List.getElem?_map,List.getElem?_range hik]
        obtain ⟨Ri,hRi⟩:∃ X,X=ur (R i):=⟨_,rfl⟩
        have t2:zk RR i=some [.lst false Ri]:=by rw [hS.nth,hRR,hRi]; exact qbf hik
        have lRi:(R i).length=w:=ok.len i (by have:=ok.kn; omega)
        obtain ⟨y,hy⟩:∃ y,y=(R i).getD j 0:=⟨_,rfl⟩
        have gy:(R i)[j]?=some y:=by rw [hy,List.getD_eq_getElem?_getD,List.getElem?_eq_getElem (by omega)]; rfl
        obtain ⟨_,cneg⟩:=pneg_row (hQs i (by have:=ok.kn; omega) y (List.mem_of_getElem? gy)) hQ
        obtain ⟨s5,v5,r5,p5,hrow5,_⟩:=qrow y
        obtain ⟨s6,v6,r6,p6,hrow6,_⟩:=qrow (-y)
        have t3:zk Ri j=some [.v (.bool s5),.lst false r5,.v (.bool v5),.lst false p5]:=by rw [hS.nth,hRi,<- hrow5]; exact qat gy
        have t4:zX J=j:=by rw [hS.nat]; omega
        rw [hrow5,hrow6] at cneg
        obtain ⟨s7,v7,r7,p7,hrow7,_⟩:=qrow (kvf R p j i (p i))
        have t5:zk X (p i)=some [.v (.bool s7),.lst false r7,.v (.bool v7),.lst false p7]:=by rw [hS.nth,hX,<- hrow7]; exact qat (krow_get hpw)
        obtain ⟨Y,hY⟩:∃ Y,Y=ur (krow w R p (i+1) j):=⟨_,rfl⟩
        have t6:zl X (p i) [.v (.bool s6),.lst false r6,.v (.bool v6),.lst false p6]=Y:=by
         rw [hS.setr,hY,hX,<- hrow6,<- krow_next hpw,<- hy]; exact ur_set _ _ _
        have b3:zY Pi w=true:=by rw [hS.inb]; exact decide_eq_true (by omega)
        have b4:zb 0 Pi=p i:=by rw [hS.idx]; omega
        obtain ⟨I',hI',i2⟩:∃ I':Int,I'=((i+1:Nat):Int)/\zA .i64 (zB I 1)=I':=⟨I+1,by omega,by rw [hS.add,hS.wrap,wrap_i64 (by omega) (by omega)]⟩
        have hm3:m2 - 1 < m2:=by omega
        have hnx2:∃ (i3:Nat) (I3:Int) (X3:Abs.Rows),I3=i3/\(m2 - 1)+i3=k/\X3=ur (krow w R p i3 j)/\mkIn1 MR RR PV cp b BB w Y W0 J K I'=mkIn1 MR RR PV cp b BB w X3 W0 J K I3:=⟨i+1,I',Y,hI',by omega,hY,rfl⟩
        generalize p i=pi at *
        clear hX hY hI'
        subst hs2
        cbv
        refine bT l2 (nd n0 ?_)
        rw [t0]
        refine nd t1 ?_
        rw [t2,t7]
        cbv
        refine nd n0 ?_
        rw [t4,t3]
        cbv
        refine nd n1 ?_
        refine ⟨_,hS.call cneg,?_⟩
        cbv
        refine nd b3 ?_
        rw [b4,t5]
        cbv
        rw [t6,i2]
        refine againR [] (s':=mkIn1 MR RR PV cp b BB w Y W0 J K I') (k:=m2 - 1) ?_ ?_ ?_ ?_ rfl (Nat.succ_le_succ (Nat.zero_le _)) hm3 hnx2
        ·simp [leTR,mkIn1,mkSt,vi,AV.ren,AV.noTup,Cell.ren,renF]
        ·simp [leHR,mkIn1,mkSt,Abs.look,renF,Blk.ren,Cell.ren]
        ·simp [liveR,mkIn1,mkSt,renF]
        ·simp
     ·intro _
      have lXK:XK.length=w:=by rw [hXK,qag,krow_len]
      have fX:zq 0 w XK=true:=by rw [hS.fit]; exact decide_eq_true (by omega)
      have pX:zr XK 0 w=XK:=by rw [hS.part,List.drop_zero,List.take_of_length_le (by omega)]
      obtain ⟨row2,hrw2⟩:∃ row2,row2=[Tree.lst false XK]:=⟨_,rfl⟩
      have hr1:row2.length=1:=by rw [hrw2]; rfl
      have v0:zr [row2] 0 1=[row2]:=by rw [hS.part]; rfl
      have v1:zq 0 1 [row2]=true:=by rw [hS.fit]; rfl
      have v2:zQ (zc (zj [row2]) 0)=true:=by rw [hS.len,hS.neq,hS.not]; rfl
      have v3:zx 1 [row2]=true:=by rw [hS.wide]; simp [hr1]
      obtain ⟨b2,hb2⟩:∃ b2,b2=(frL p k (j+1)).length:=⟨_,rfl⟩
      obtain ⟨B2,hBB2⟩:∃ B2,B2=kerB w R p k (j+1):=⟨_,rfl⟩
      have hjn:kerB w R p k (j+1)=kerB w R p k j ++ [row2]:=by
       unfold kerB
       rw [hfr,List.map_append,hrw2,hXK]; rfl
      have hjl:(frL p k (j+1)).length=(frL p k j).length+1:=by rw [hfr,List.length_append]; rfl
      have hfl:(frL p k j).length<=j:=by
       have:=frL_len p k ok.inc j
       omega
      have v4:zh b (zj [row2]) 24=true:=by rw [hS.len,hS.room]; exact decide_eq_true (by unfold capBytes; simp only [List.length_cons,List.length_nil]; omega)
      have v5:zc (zd 0 b) (zj BB)=true:=by rw [hS.nadd,hS.neq,hS.len,lBB,Nat.zero_add]; exact decide_eq_true rfl
      have v6:zd b (zj [row2])=b2:=by rw [hS.len,hS.nadd,hb2,hjl,<- hb]; rfl
      have v7:zs BB 0 [row2]=B2:=by rw [hS.ext,List.drop_zero,hBB2,hjn,<- hBB]
      have hnx:∃ (j2:Nat) (J2:Int),J2=j2/\(m - 1)+j2=w/\((frL p k j2=[]/\mkSt1 MR RR PV cp b2 B2 W0 J'=mkSt0 MR RR PV cp W0 J2) ∨ mkSt1 MR RR PV cp b2 B2 W0 J'=mkSt1 MR RR PV cp (frL p k j2).length (kerB w R p k j2) W0 J2):=⟨j+1,J',hJ',by omega,.inr (by rw [<- hb2,<- hBB2])⟩
      clear hBB2 hb2 hjn hjl hJ' hfr hfl
      cbv
      refine nd fX ?_
      rw [pX,<- hrw2,v0]
      refine nd v1 (nd v2 (nd v3 (nd v4 (nd v5 ?_))))
      rw [i1,v6,v7]
      refine againR [(1,6)] (s':=mkSt1 MR RR PV cp b2 B2 W0 J') (k:=m - 1) ?_ ?_ ?_ ?_ rfl (Nat.succ_le_succ (Nat.zero_le _)) hmm hnx
      ·simp [leTR,mkSt1,mkSt,vi,AV.ren,AV.noTup,Cell.ren,renF]
      ·simp [leHR,mkSt1,mkSt,Abs.look,renF,Blk.ren,Cell.ren]
      ·simp [liveR,mkSt1,mkSt,renF]
      ·simp
open Go Go.Abs Go.Abs.M Go.Proofs
def mmM (M B:Nat->List Rat) (w:Nat):Nat->List Rat:=fun i=>vmul (M i) B w (M i).length
theorem mmul_call (n:Nat) (hn:n<=4) (M B:Nat->List Rat) (m w a b:Nat) (hm:m<=1000) (hw:w<=1000) (hl:∀ i,i < m->(B i).length=w) (h0:m=0->w=0) (hP:∀ i,i < n->(M i).length=m) (h1:∀ i,i < n->∀ q ∈ M i,Qs q a) (h2:∀ i,i < m->∀ q ∈ B i,Qs q b) (hab:1001*(a+b+1)<=68719476736) :
  ACall Tryz.prog 44 [.val (tl (mr n M)),.val (tl (mr m B))] ⟨[.val (tl (mr n (mmM M B w))),.val (ti .i64 0)],[none,none]⟩:=by
 obtain ⟨BM,hBM⟩:∃ X,X=mr m B:=⟨_,rfl⟩
 have lB:BM.length=m:=by rw [hBM,qa6]
 have lA:=qa6 n M
 obtain ⟨X,hX⟩:∃ X:Nat->Abs.Rows,X=fun i=>ur (mmM M B w i):=⟨_,rfl⟩
 have lX:∀ i,(X i).length=w:=fun i=>by rw [hX]; show (ur (vmul _ B w _)).length=w; rw [qag,qbk]
 have ca:=mtapp n hn M B m w a b hm hw hl h0 hP h1 h2 hab hBM (X:=X) fun i=>by rw [hX]; rfl
 have hT:mr n (mmM M B w)=(List.range n).map fun i=>[Tree.lst false (X i)]:=by rw [hX]; rfl
 have cw:=mwidth_call n m M hP (by omega)
 obtain ⟨W0,hW0⟩:∃ X:Int,X=(m:Int):=⟨_,rfl⟩
 rw [hT,<- hBM]
 generalize mr n M=A1 at *
 clear hT hP h1 hX hl h0 h2 hab hBM
 by_cases hn0:n=0
 ·clear cw
  subst hn0
  refine callZX ccOk mixed [.val,.val] Tryz.func44 rfl rfl (by kernel_rfl) fun zA zB zC zD zE zF zG zH zI zJ zK zL zM zN zO zP zQ zR zT zU zV zX zY zZ zb zc zd ze zg zh zi zj zk zl zm zn zo zq zr zs zt zu zx zy zz zmget zmset zW zth A L F hS hF=>?_
  have e1:zZ (zj A1)=0:=by rw [hS.ofN,hS.len,lA]; rfl
  have g0:zO 0 0=false:=by rw [hS.lt]; rfl
  cbv
  rw [e1]
  refine bF g0 ?_
  refine ⟨_,hS.hcall ca,?_⟩
  cbv
  exact hF _ (ResLe.refl _)
 ·rw [if_neg hn0,<- hW0] at cw
  have L4:LN n:=trivial
  obtain rfl | rfl | rfl | rfl:n=1 ∨ n=2 ∨ n=3 ∨ n=4:=by omega
  all_goals
   refine callZX ccOk mixed [.val,.val] Tryz.func44 rfl rfl (by kernel_rfl) fun zA zB zC zD zE zF zG zH zI zJ zK zL zM zN zO zP zQ zR zT zU zV zX zY zZ zb zc zd ze zg zh zi zj zk zl zm zn zo zq zr zs zt zu zx zy zz zmget zmset zW zth A L F hS hF=>?_
   have e1:zZ (zj A1)=(L4.v:Int):=by rw [hS.ofN,hS.len,lA]; rfl
   have g0:zO 0 (L4.v:Int)=true:=by rw [hS.lt]; rfl
   have e2:zZ (zj BM)=W0:=by rw [hS.ofN,hS.len,lB,hW0]
   have g1:zN W0 W0=false:=by rw [hS.ne]; exact decide_eq_false (by simp)
   have f:∀ i,zq 0 w (X i)=true:=fun i=>by rw [hS.fit]; exact decide_eq_true (by rw [lX]; omega)
   have pt:∀ i,zr (X i) 0 w=X i:=fun i=>by rw [hS.part,List.drop_zero,List.take_of_length_le (by rw [lX]; omega)]
   cbv
   rw [e1]
   refine bT g0 ?_
   refine ⟨_,hS.hcall cw,?_⟩
   cbv
   rw [e2]
   refine bF g1 ?_
   refine ⟨_,hS.hcall ca,?_⟩
   cbv
   repeat refine nd (f _) ?_
   simp only [pt]
   exact hF _ (ResLe.refl _)
open Go Go.Abs Go.Abs.M Go.Proofs
def rzSt (N:Int) (i:Nat) (r:Abs.Rows) (I:Int):St:=mkSt 16 [vi .i64 N,.junk,.junk,.c (.sl 1 0 i false),vi .i64 I] [none,some (.rows 4 r true false)]
theorem rzeros_call (n:Nat) (hn:n<=1000):ACall Tryz.prog 69 [.val (ti .i64 (n:Int))] ⟨[.own 4 (ur (List.replicate n 0))],[none]⟩:=by
 obtain ⟨N,hN⟩:∃ N:Int,N=n:=⟨_,rfl⟩
 obtain ⟨T,hT⟩:∃ T,T=ur (List.replicate n 0):=⟨_,rfl⟩
 rw [<- hN,<- hT]
 have cw:=rqwhole_row 0 (by omega) (by omega)
 rw [show ((0:Int):Rat)=0 from rfl] at cw
 obtain ⟨s3,t3,r3,p3,hrow3,_⟩:=qrow 0
 rw [hrow3] at cw
 obtain ⟨row,hrw⟩:∃ row,row=[Tree.v (.bool s3),.lst false r3,.v (.bool t3),.lst false p3]:=⟨_,rfl⟩
 have hr4:row.length=4:=by rw [hrw]; rfl
 have hstep:∀ i,ur (List.replicate i 0) ++ [row]=ur (List.replicate (i+1) 0):=fun i=>by rw [List.replicate_succ',ur_app,hrow3,hrw]
 refine callZ ccOk mixed [.own 4] Tryz.func69 rfl rfl (by kernel_rfl) fun zA zB zC zD zE zF zG zH zI zJ zK zL zM zN zO zP zQ zR zT zU zV zX zY zZ zb zc zd ze zg zh zi zj zk zl zm zn zo zq zr zs zt zu zx zy zz zmget zmset zW zth A L F hS hF=>?_
 have u0:zr [row] 0 1=[row]:=by rw [hS.part]; rfl
 have u1:zq 0 1 [row]=true:=by rw [hS.fit]; rfl
 have u2:zQ (zc (zj [row]) 0)=true:=by rw [hS.len,hS.neq,hS.not]; rfl
 have u3:zx 4 [row]=true:=by rw [hS.wide]; simp [hr4]
 cbv
 have hN:N=(n:Int):=hN
 refine loopZR ccOk mixed hS (fun (m:Nat) s'=>∃ (i:Nat) (I:Int) (r:Abs.Rows),I=i/\m+i=n/\r=ur (List.replicate i 0)/\s'=rzSt N i r I) (n:=n) (s0:=rzSt N 0 [] 0) (qan ?_ ?_) rfl (Nat.succ_le_succ (Nat.zero_le _)) ?_ ?_
 ·simp [leT,rzSt,mkSt,vi,vb]
 ·simp [leH,rzSt,mkSt]
 ·exact ⟨0,0,[],rfl,by omega,rfl,rfl⟩
 ·rintro m s1 ⟨i,I,r,hI,hm,hr,hs1⟩
  have hI:I=(i:Int):=hI
  have hrl:r.length=i:=by rw [hr,qag,List.length_replicate]
  by_cases hi:i < n
  ·have l1:zO I N=true:=by rw [hS.lt]; exact decide_eq_true (by omega)
   have u4:zh i (zj [row]) 64=true:=by rw [hS.len,hS.room]; exact decide_eq_true (by unfold capBytes; simp only [List.length_cons,List.length_nil]; omega)
   have u5:zc (zd 0 i) (zj r)=true:=by rw [hS.nadd,hS.neq,hS.len,hrl,Nat.zero_add]; exact decide_eq_true rfl
   have u6:zd i (zj [row])=i+1:=by rw [hS.len,hS.nadd]; rfl
   obtain ⟨r2,hr2⟩:∃ r2,r2=ur (List.replicate (i+1) 0):=⟨_,rfl⟩
   have u7:zs r 0 [row]=r2:=by rw [hS.ext,List.drop_zero,hr,hstep,hr2]
   obtain ⟨I',hI',i1⟩:∃ I':Int,I'=((i+1:Nat):Int)/\zA .i64 (zB I 1)=I':=⟨I+1,by omega,by rw [hS.add,hS.wrap,wrap_i64 (by omega) (by omega)]⟩
   have hmm:m - 1 < m:=by omega
   have hnx:∃ (i2:Nat) (I2:Int) (r':Abs.Rows),I2=i2/\(m - 1)+i2=n/\r'=ur (List.replicate i2 0)/\rzSt N (i+1) r2 I'=rzSt N i2 r' I2:=⟨i+1,I',r2,hI',by omega,hr2,rfl⟩
   clear hr hr2 hstep
   subst hs1
   cbv
   refine bT (l1) ?_
   refine ⟨_,hS.call (cw),?_⟩
   cbv
   rw [<- hrw,u0]
   refine nd (u1) ?_
   refine nd (u2) ?_
   refine nd (u3) ?_
   refine nd (u4) ?_
   refine nd (u5) ?_
   refine againR [(1,5)] (s':=rzSt N (i+1) r2 I') (k:=m - 1) ?_ ?_ ?_ ?_ rfl (Nat.succ_le_succ (Nat.zero_le _)) hmm hnx
   ·simp [leTR,rzSt,mkSt,vi,AV.ren,AV.noTup,Cell.ren,renF,i1,u6]
   ·simp [leHR,rzSt,mkSt,Abs.look,renF,Blk.ren,u7,Cell.ren]
   ·simp [liveR,rzSt,mkSt,renF]
   ·simp
  ·have l1:zO I N=false:=by rw [hS.lt]; exact decide_eq_false (by omega)
   have hrT:r=T:=by rw [hr,hT,show i=n by omega]
   have e1:zc i (zj r)=true:=by rw [hS.neq,hS.len,hrl]; exact decide_eq_true rfl
   subst hrT
   clear hstep
   subst hs1
   cbv
   refine bF l1 (nd e1 ?_)
   exact hF _ (ResLe.refl _)
open Go Go.Abs Go.Abs.M Go.Proofs
def rawE (V:List Int) (k j:Nat):RW:=⟨(V.getD ((k+j) % V.length) 0).tmod 4,if V.getD ((k+j) % V.length) 0 < -90 then 3 else if 90 < V.getD ((k+j) % V.length) 0 then 2 else 1,0⟩
def rawQv (V:List Int) (k j:Nat):Rat:=if V.length=0 then 0 else (rawE V k j).q
def rawRow (V:List Int) (k n:Nat):List Rat:=(List.range n).map (rawQv V k)
theorem rawRow_len (V:List Int) (k n:Nat):(rawRow V k n).length=n:=by simp [rawRow]
theorem rawE_ok (V:List Int) (k j:Nat):(rawE V k j).ok:=by
 have h1:=Int.tmod_lt_of_pos (V.getD ((k+j) % V.length) 0) (show (0:Int) < 4 by omega)
 have h2:-4 < (V.getD ((k+j) % V.length) 0).tmod 4:=by
  have:=Int.lt_tmod_of_pos (V.getD ((k+j) % V.length) 0) (show (0:Int) < 4 by omega)
  omega
 refine ⟨?_,?_,?_,?_,(by decide:(0:Int)<=0),(by decide:(0:Int) < 256)⟩
 ·show -128<=(V.getD ((k+j) % V.length) 0).tmod 4; omega
 ·show (V.getD ((k+j) % V.length) 0).tmod 4 < 128; omega
 ·show -128<=(if V.getD ((k+j) % V.length) 0 < -90 then (3:Int) else if 90 < V.getD ((k+j) % V.length) 0 then 2 else 1)
  split
  ·omega
  ·split <;> omega
 ·show (if V.getD ((k+j) % V.length) 0 < -90 then (3:Int) else if 90 < V.getD ((k+j) % V.length) 0 then 2 else 1) < 128
  split
  ·omega
  ·split <;> omega
theorem rawRow_qs (V:List Int) (k n:Nat):∀ q ∈ rawRow V k n,Qs q 8:=fun q hq=>by
 obtain ⟨j,_,rfl⟩:=List.mem_map.1 hq
 unfold rawQv
 split
 ·exact (Qs.whole (n:=0) (by decide) (Nat.le_refl 1)).mono (by omega)
 ·have h:=rawE_ok V k j
  exact madeQ_small h.n1 h.n2 h.d1 h.d2 h.k1 h.k2
def rwSt (K N:Int) (VR X:Abs.Rows) (n:Nat) (J:Int):St:=mkSt 48 [.junk,vi .i64 K,vi .i64 N,.c (.ptr 3 0 0),.junk,.junk,.junk,.c (.sl 4 0 n false),vi .i64 J] [none,none,none,some (.var [.t (.lst false VR)]),some (.rows 4 X true false)]
theorem rrow_call (V:List Int) (hV:∀ v ∈ V,-128<=v/\v < 128) (hVl:V.length < 9223372036854775808) (k n:Nat) (hk:k<=1000) (hn:n<=1000) :
  ACall Tryz.prog 27 [.val (.agg [.lst false (W .i8 V)]),.val (ti .i64 (k:Int)),.val (ti .i64 (n:Int))] ⟨[.own 4 (ur (rawRow V k n))],[none,none,none]⟩:=by
 have cz:=rzeros_call n hn
 obtain ⟨K,hK⟩:∃ K:Int,K=k:=⟨_,rfl⟩
 obtain ⟨N,hN⟩:∃ N:Int,N=n:=⟨_,rfl⟩
 obtain ⟨VR,hVR⟩:∃ R,R=W .i8 V:=⟨_,rfl⟩
 obtain ⟨Z,hZ⟩:∃ Z,Z=ur (List.replicate n 0):=⟨_,rfl⟩
 obtain ⟨T,hT⟩:∃ T,T=ur (rawRow V k n):=⟨_,rfl⟩
 have lZ:Z.length=n:=by rw [hZ,qag,List.length_replicate]
 have lT:T.length=n:=by rw [hT,qag,rawRow_len]
 rw [<- hN,<- hZ] at cz
 rw [<- hK,<- hN,<- hVR,<- hT]
 obtain ⟨Xf,hXf⟩:∃ f:Nat->Abs.Rows,f=fun j=>T.take j ++ Z.drop j:=⟨_,rfl⟩
 have hX0:Xf 0=Z:=by rw [hXf]; simp
 have hXn:∀ j,n<=j->Xf j=T:=fun j hj=>by rw [hXf]; simp only; rw [List.take_of_length_le (by omega),List.drop_of_length_le (by omega),List.append_nil]
 have hXl:∀ j,(Xf j).length=n:=fun j=>by rw [hXf]; simp only [List.length_append,List.length_take,List.length_drop]; omega
 have hXe:V.length=0->∀ j,Xf j=T:=fun h0 j=>by
  have e:T=Z:=by
   rw [hT,hZ]
   congr 1
   unfold rawRow rawQv
   rw [List.map_congr_left (g:=fun _=>(0:Rat)) fun j _=>if_pos h0,List.map_const',List.length_range]
  rw [hXf]
  show T.take j ++ Z.drop j=T
  rw [<- e,List.take_append_drop]
 have hXs:V.length ≠ 0->∀ j,j < n->(Xf j)[j]?=some (qc 0).row/\(Xf j).set j (qc (rawE V k j).q).row=Xf (j+1):=fun h0 j hj=>by
  have hTj:T[j]?=some (qc (rawE V k j).q).row:=by
   rw [hT]
   refine qat ?_
   unfold rawRow rawQv
   rw [List.getElem?_map,List.getElem?_range hj,Option.map_some,if_neg h0]
  have hZj:Z[j]?=some (qc 0).row:=by rw [hZ]; exact qat (by rw [List.getElem?_replicate,if_pos hj])
  have hl:(T.take j).length=j:=by rw [List.length_take]; omega
  have hd:Z.drop j=(qc 0).row :: Z.drop (j+1):=by
   rw [List.drop_eq_getElem_cons (by omega)]
   rw [List.getElem?_eq_getElem (by omega)] at hZj
   rw [Option.some.inj hZj]
  rw [hXf]
  refine ⟨?_,?_⟩
  ·show (T.take j ++ Z.drop j)[j]?=_
   rw [List.getElem?_append_right (by omega),hl,Nat.sub_self,hd]; rfl
  ·show (T.take j ++ Z.drop j).set j _=T.take (j+1) ++ Z.drop (j+1)
   rw [List.set_append_right _ _ (by omega),hl,Nat.sub_self,hd,List.set_cons_zero,List.take_add_one,hTj,List.append_assoc]; rfl
 obtain ⟨s0,t0,r0,p0,hrow0,_⟩:=qrow 0
 refine callZ ccOk mixed [.own 4] Tryz.func27 rfl rfl (by kernel_rfl) fun zA zB zC zD zE zF zG zH zI zJ zK zL zM zN zO zP zQ zR zT zU zV zX zY zZ zb zc zd ze zg zh zi zj zk zl zm zn zo zq zr zs zt zu zx zy zz zmget zmset zW zth A L F hS hF=>?_
 have z1:zj Z=n:=by rw [hS.len,lZ]
 obtain ⟨LV,hLV,hLV2⟩:∃ L:Int,L=V.length/\zZ (zj VR)=L:=⟨_,rfl,by rw [hS.ofN,hS.len,hVR,qaj]⟩
 cbv
 refine ⟨_,hS.call (cz),?_⟩
 cbv
 have hN:N=(n:Int):=hN
 have hK:K=(k:Int):=hK
 have hLV:LV=(V.length:Int):=hLV
 refine loopZ ccOk mixed hS (fun (m:Nat) s'=>∃ (j:Nat) (J:Int) (X:Abs.Rows),J=j/\m+j=n/\X=Xf j/\s'=rwSt K N VR X n J) (n:=n) (s0:=rwSt K N VR Z n 0) (qan ?_ ?_) rfl (Nat.succ_le_succ (Nat.succ_le_succ (Nat.succ_le_succ (Nat.zero_le _)))) ?_ ?_
 ·simp [leT,rwSt,mkSt,vi,vb,z1]
 ·simp [leH,rwSt,mkSt]
 ·exact ⟨0,0,Z,rfl,by omega,hX0.symm,rfl⟩
 ·rintro m s1 ⟨j,J,X,hJ,hm,hX,hs1⟩
  have hJ:J=(j:Int):=hJ
  by_cases hgo:j < n/\V.length ≠ 0
  ·have l1:zO J N=true:=by rw [hS.lt]; exact decide_eq_true (by omega)
   have l2:zO 0 LV=true:=by rw [hS.lt]; exact decide_eq_true (by omega)
   obtain ⟨x1,x2⟩:=hXs hgo.2 j hgo.1
   obtain ⟨X',hX'⟩:∃ X',X'=Xf (j+1):=⟨_,rfl⟩
   rw [<- hX] at x1 x2
   rw [<- hX'] at x2
   obtain ⟨v,hv⟩:∃ v,v=V.getD ((k+j) % V.length) 0:=⟨_,rfl⟩
   have hidx:(k+j) % V.length < V.length:=Nat.mod_lt _ (by omega)
   obtain ⟨v1,v2⟩:=hV v (by rw [hv,List.getD_eq_getElem?_getD,List.getElem?_eq_getElem hidx]; exact List.getElem_mem hidx)
   have ok:=rawE_ok V k j
   have cm:=rmadeQ_call (rawE V k j) ok
   obtain ⟨e,he⟩:∃ e,e=rawE V k j:=⟨_,rfl⟩
   rw [<- he] at cm x2
   obtain ⟨s2,t2,r2,p2,hrow2,_⟩:=qrow e.q
   rw [hrow0] at x1
   rw [hrow2] at cm x2
   obtain ⟨VM,hVM⟩:∃ x:Int,x=v.tmod 4:=⟨_,rfl⟩
   obtain ⟨DM,hDM⟩:∃ x:Int,x=(if v < -90 then 3 else if 90 < v then 2 else 1):=⟨_,rfl⟩
   have he2:e.row=[.v (.int .i8 VM),.v (.int .i8 DM),.v (.int .u8 0)]:=by rw [he,hVM,hDM,hv]; rfl
   rw [he2] at cm
   obtain ⟨KJ,hKJ,i2⟩:∃ x:Int,x=((k+j:Nat):Int)/\zA .i64 (zB K J)=x:=⟨K+J,by omega,by rw [hS.add,hS.wrap,wrap_i64 (by omega) (by omega)]⟩
   obtain ⟨IX,hIX,i3⟩:∃ x:Int,x=(((k+j) % V.length:Nat):Int)/\zF KJ LV=x:=⟨_,rfl,by rw [hS.rem,hKJ,hLV]; exact (Int.ofNat_tmod (k+j) V.length).symm⟩
   obtain ⟨J',hJ',i1⟩:∃ J':Int,J'=((j+1:Nat):Int)/\zA .i64 (zB J 1)=J':=⟨J+1,by omega,by rw [hS.add,hS.wrap,wrap_i64 (by omega) (by omega)]⟩
   have hmm:m - 1 < m:=by omega
   have hnx:∃ (j2:Nat) (J2:Int) (X2:Abs.Rows),J2=j2/\(m - 1)+j2=n/\X2=Xf j2/\rwSt K N VR X' n J'=rwSt K N VR X2 n J2:=⟨j+1,J',X',hJ',by omega,hX',rfl⟩
   have k1:zX IX=(k+j) % V.length:=by rw [hS.nat,hIX,Int.toNat_natCast]
   have k2:zn VR ((k+j) % V.length)=v:=by rw [hS.getI,hVR,qak,hv]
   have k3:zF v 4=VM:=by rw [hS.rem,hVM]
   have k4:zN LV 0=true:=by rw [hS.ne]; exact decide_eq_true (by omega)
   have k5:zP 0 IX=true:=by rw [hS.le]; exact decide_eq_true (by omega)
   have k6:zm .i8 VR ((k+j) % V.length)=true:=by rw [hS.isI,hVR,qaq]; exact decide_eq_true hidx
   have g1:zY J n=true:=by rw [hS.inb]; exact decide_eq_true (by omega)
   have g2:zb 0 J=j:=by rw [hS.idx]; omega
   have g3:zk X j=some [.v (.bool s0),.lst false r0,.v (.bool t0),.lst false p0]:=by rw [hS.nth]; exact x1
   have g4:zl X j [.v (.bool s2),.lst false r2,.v (.bool t2),.lst false p2]=X':=by rw [hS.setr]; exact x2
   by_cases h1:90 < v
   ·have hD:DM=2:=by rw [hDM,if_neg (by omega),if_pos h1]
    rw [hD] at cm
    have b1:zO 90 v=true:=by rw [hS.lt]; exact decide_eq_true h1
    have b2:zO v (-90)=false:=by rw [hS.lt]; exact decide_eq_false (by omega)
    clear hXs hXe x1 x2
    subst hs1
    cbv
    rw [hLV2]
    refine bT l1 (bT l2 ?_)
    rw [i2,i3,k1,k2,k3]
    refine nd k4 (nd k5 (nd k6 (bT b1 (bF b2 ?_))))
    refine ⟨_,hS.call (cm),?_⟩
    cbv
    refine nd (g1) ?_
    rw [g2,g3]
    cbv
    exact again (s':=rwSt K N VR X' n J') (m:=m - 1) (by simp [leT,rwSt,mkSt,vi,i1]) (by simp [leH,rwSt,mkSt,g4]) rfl (Nat.succ_le_succ (Nat.succ_le_succ (Nat.succ_le_succ (Nat.zero_le _)))) hmm hnx
   ·have b1:zO 90 v=false:=by rw [hS.lt]; exact decide_eq_false h1
    by_cases h2:v < -90
    ·have hD:DM=3:=by rw [hDM,if_pos h2]
     rw [hD] at cm
     have b2:zO v (-90)=true:=by rw [hS.lt]; exact decide_eq_true h2
     clear hXs hXe x1 x2
     subst hs1
     cbv
     rw [hLV2]
     refine bT l1 (bT l2 ?_)
     rw [i2,i3,k1,k2,k3]
     refine nd k4 (nd k5 (nd k6 (bF b1 (bT b2 ?_))))
     refine ⟨_,hS.call (cm),?_⟩
     cbv
     refine nd (g1) ?_
     rw [g2,g3]
     cbv
     exact again (s':=rwSt K N VR X' n J') (m:=m - 1) (by simp [leT,rwSt,mkSt,vi,i1]) (by simp [leH,rwSt,mkSt,g4]) rfl (Nat.succ_le_succ (Nat.succ_le_succ (Nat.succ_le_succ (Nat.zero_le _)))) hmm hnx
    ·have hD:DM=1:=by rw [hDM,if_neg h2,if_neg h1]
     rw [hD] at cm
     have b2:zO v (-90)=false:=by rw [hS.lt]; exact decide_eq_false h2
     clear hXs hXe x1 x2
     subst hs1
     cbv
     rw [hLV2]
     refine bT l1 (bT l2 ?_)
     rw [i2,i3,k1,k2,k3]
     refine nd k4 (nd k5 (nd k6 (bF b1 (bF b2 ?_))))
     refine ⟨_,hS.call (cm),?_⟩
     cbv
     refine nd (g1) ?_
     rw [g2,g3]
     cbv
     exact again (s':=rwSt K N VR X' n J') (m:=m - 1) (by simp [leT,rwSt,mkSt,vi,i1]) (by simp [leH,rwSt,mkSt,g4]) rfl (Nat.succ_le_succ (Nat.succ_le_succ (Nat.succ_le_succ (Nat.zero_le _)))) hmm hnx
  ·have e1:zc n (zj X)=true:=by rw [hS.neq,hS.len,hX,hXl]; exact decide_eq_true rfl
   by_cases hjn:j < n
   ·have l1:zO J N=true:=by rw [hS.lt]; exact decide_eq_true (by omega)
    have l2:zO 0 LV=false:=by rw [hS.lt]; exact decide_eq_false (by omega)
    have hXT:X=T:=by rw [hX]; exact hXe (by omega) j
    subst hXT
    clear hXs hXe
    subst hs1
    cbv
    rw [hLV2]
    refine bT l1 (bF l2 (nd e1 ?_))
    exact hF _ (ResLe.refl _)
   ·have l1:zO J N=false:=by rw [hS.lt]; exact decide_eq_false (by omega)
    have hXT:X=T:=by rw [hX]; exact hXn j (by omega)
    subst hXT
    clear hXs hXe
    subst hs1
    cbv
    refine bF l1 (nd e1 ?_)
    exact hF _ (ResLe.refl _)
open Go Go.Abs Go.Abs.M Go.Proofs
def rawM (V:List Int) (c:Nat):Nat->List Rat:=fun i=>rawRow V (i*c) c
def rmSt (a b:Int) (VR r:Abs.Rows) (len:Nat) (I:Int):St:=mkSt 31 [.junk,.c (.t (.v (.int .u8 a))),.c (.t (.v (.int .u8 b))),.c (.ptr 3 0 0),.junk,.junk,.junk,.c (.sl 4 0 len false),vi .i64 I] [none,none,none,some (.var [.t (.lst false VR)]),some (.rows 1 r true false)]
theorem rmadeM_call (V:List Int) (hV:∀ v ∈ V,-128<=v/\v < 128) (hVl:V.length < 9223372036854775808) (a b:Nat) (ha:a < 256) (hb:b < 256) :
  ACall Tryz.prog 12 [.val (.agg [.lst false (W .i8 V)]),.val (ti .u8 (a:Int)),.val (ti .u8 (b:Int))] ⟨[.val (tl (mr (a % 5) (rawM V (b % 5))))],[none,none,none]⟩:=by
 obtain ⟨n,hn⟩:∃ n,n=a % 5:=⟨_,rfl⟩
 obtain ⟨c,hc⟩:∃ c,c=b % 5:=⟨_,rfl⟩
 have hn5:n < 5:=by omega
 have hc5:c < 5:=by omega
 obtain ⟨CI,hCI⟩:∃ x:Int,x=(c:Int):=⟨_,rfl⟩
 obtain ⟨NI,hNI⟩:∃ x:Int,x=(n:Int):=⟨_,rfl⟩
 have cr:∀ i,i < n->∀ IC:Int,IC=((i*c:Nat):Int)->ACall Tryz.prog 27 [.val (.agg [.lst false (W .i8 V)]),.val (ti .i64 IC),.val (ti .i64 CI)] ⟨[.own 4 (ur (rawRow V (i*c) c))],[none,none,none]⟩:=fun i hi IC h=>by
  rw [h,hCI]
  exact rrow_call V hV hVl (i*c) c (by have:=Nat.mul_le_mul (show i<=4 by omega) (show c<=4 by omega); omega) (by omega)
 obtain ⟨VR,hVR⟩:∃ R,R=W .i8 V:=⟨_,rfl⟩
 obtain ⟨T,hT⟩:∃ T,T=mr n (rawM V c):=⟨_,rfl⟩
 obtain ⟨AI,hAI⟩:∃ A:Int,A=a:=⟨_,rfl⟩
 obtain ⟨BI,hBI⟩:∃ A:Int,A=b:=⟨_,rfl⟩
 rw [<- hVR] at cr
 rw [<- hn,<- hc,<- hT,<- hVR,<- hAI,<- hBI]
 refine callZ ccOk mixed [.val] Tryz.func12 rfl rfl (by kernel_rfl) fun zA zB zC zD zE zF zG zH zI zJ zK zL zM zN zO zP zQ zR zT zU zV zX zY zZ zb zc zd ze zg zh zi zj zk zl zm zn zo zq zr zs zt zu zx zy zz zmget zmset zW zth A L F hS hF=>?_
 have hAI:AI=(a:Int):=hAI
 have hBI:BI=(b:Int):=hBI
 cbv
 refine loopZR ccOk mixed hS (fun (m:Nat) s'=>∃ (i:Nat) (I:Int) (r:Abs.Rows),I=i/\m+i=n/\r=mr i (rawM V c)/\s'=rmSt AI BI VR r i I) (n:=n) (s0:=rmSt AI BI VR [] 0 0) (qan ?_ ?_) rfl (Nat.succ_le_succ (Nat.succ_le_succ (Nat.succ_le_succ (Nat.zero_le _)))) ?_ ?_
 ·simp [leT,rmSt,mkSt,vi,vb]
 ·simp [leH,rmSt,mkSt]
 ·exact ⟨0,0,[],rfl,by omega,rfl,rfl⟩
 ·rintro m s1 ⟨i,I,r,hI,hm,hr,hs1⟩
  have hI:I=(i:Int):=hI
  have hrl:r.length=i:=by rw [hr,qa6]
  have hCI:CI=(c:Int):=hCI
  have hNI:NI=(n:Int):=hNI
  have w1:zA .i64 (zF AI 5)=NI:=by
   rw [hNI,hS.rem,hAI,show (5:Int)=((5:Nat):Int) from rfl,<- Int.ofNat_tmod,<- hn,hS.wrap,wrap_i64 (by omega) (by omega)]
  have w2:zA .i64 (zF BI 5)=CI:=by
   rw [hCI,hS.rem,hBI,show (5:Int)=((5:Nat):Int) from rfl,<- Int.ofNat_tmod,<- hc,hS.wrap,wrap_i64 (by omega) (by omega)]
  by_cases hi:i < n
  ·have l1:zO I NI=true:=by rw [hS.lt]; exact decide_eq_true (by omega)
   have hic:=Nat.mul_le_mul (show i<=4 by omega) (show c<=4 by omega)
   obtain ⟨IC,hIC,w3⟩:∃ x:Int,x=((i*c:Nat):Int)/\zA .i64 (zD I CI)=x:=⟨_,rfl,by rw [hS.mul,hI,hCI,<- Int.natCast_mul,hS.wrap,wrap_i64 (by omega) (by omega)]⟩
   have cri:=cr i hi IC hIC
   obtain ⟨X,hX⟩:∃ X,X=ur (rawRow V (i*c) c):=⟨_,rfl⟩
   have lX:X.length=c:=by rw [hX,qag,rawRow_len]
   rw [<- hX] at cri
   obtain ⟨row,hrw⟩:∃ row,row=[Tree.lst false X]:=⟨_,rfl⟩
   have hr1:row.length=1:=by rw [hrw]; rfl
   have u0:zr [row] 0 1=[row]:=by rw [hS.part]; rfl
   have u1:zq 0 1 [row]=true:=by rw [hS.fit]; rfl
   have u2:zQ (zc (zj [row]) 0)=true:=by rw [hS.len,hS.neq,hS.not]; rfl
   have u3:zx 1 [row]=true:=by rw [hS.wide]; simp [hr1]
   have u4:zh i (zj [row]) 24=true:=by rw [hS.len,hS.room]; exact decide_eq_true (by unfold capBytes; simp only [List.length_cons,List.length_nil]; omega)
   have u5:zc (zd 0 i) (zj r)=true:=by rw [hS.nadd,hS.neq,hS.len,hrl,Nat.zero_add]; exact decide_eq_true rfl
   have u6:zd i (zj [row])=i+1:=by rw [hS.len,hS.nadd]; rfl
   obtain ⟨r2,hr2⟩:∃ r2,r2=mr (i+1) (rawM V c):=⟨_,rfl⟩
   have u7:zs r 0 [row]=r2:=by rw [hS.ext,List.drop_zero,hr,hr2,mr_succ,hrw,hX]; rfl
   have f1:zq 0 (zj X) X=true:=by rw [hS.len,hS.fit]; exact decide_eq_true (by omega)
   have f2:zr X 0 (zj X)=X:=by rw [hS.len,hS.part,List.drop_zero,List.take_of_length_le (by omega)]
   obtain ⟨I',hI',i1⟩:∃ I':Int,I'=((i+1:Nat):Int)/\zA .i64 (zB I 1)=I':=⟨I+1,by omega,by rw [hS.add,hS.wrap,wrap_i64 (by omega) (by omega)]⟩
   have hmm:m - 1 < m:=by omega
   have hnx:∃ (i2:Nat) (I2:Int) (r':Abs.Rows),I2=i2/\(m - 1)+i2=n/\r'=mr i2 (rawM V c)/\rmSt AI BI VR r2 (i+1) I'=rmSt AI BI VR r' i2 I2:=⟨i+1,I',r2,hI',by omega,hr2,rfl⟩
   clear hr hr2 cr
   subst hs1
   cbv
   rw [w1,w2,w3]
   refine bT l1 ?_
   refine ⟨_,hS.call (cri),?_⟩
   cbv
   refine nd (f1) ?_
   rw [f2,<- hrw,u0]
   refine nd (u1) ?_
   refine nd (u2) ?_
   refine nd (u3) ?_
   refine nd (u4) ?_
   refine nd (u5) ?_
   refine againR [(4,8)] (s':=rmSt AI BI VR r2 (i+1) I') (k:=m - 1) ?_ ?_ ?_ ?_ rfl (Nat.succ_le_succ (Nat.succ_le_succ (Nat.succ_le_succ (Nat.zero_le _)))) hmm hnx
   ·simp [leTR,rmSt,mkSt,vi,AV.ren,AV.noTup,Cell.ren,renF,i1,u6]
   ·simp [leHR,rmSt,mkSt,Abs.look,renF,Blk.ren,u7,Cell.ren]
   ·simp [liveR,rmSt,mkSt,renF]
   ·simp
  ·have l1:zO I NI=false:=by rw [hS.lt]; exact decide_eq_false (by omega)
   have hrT:r=T:=by rw [hr,hT,show i=n by omega]
   have f1:zq 0 i r=true:=by rw [hS.fit]; exact decide_eq_true (by omega)
   have f2:zr r 0 i=r:=by rw [hS.part,List.drop_zero,List.take_of_length_le (by omega)]
   subst hrT
   clear cr
   subst hs1
   cbv
   rw [w1]
   refine bF l1 (nd f1 ?_)
   rw [f2]
   exact hF _ (ResLe.refl _)
theorem rcols_call (n w:Nat) (M:Nat->List Rat) (h:∀ i,i < n->(M i).length=w) (hn:n < 9223372036854775808):ACall Tryz.prog 28 [.val (tl (mr n M))] ⟨[.val (ti .i64 ((if n=0 then 0 else w:Nat):Int))],[none]⟩:=by
 obtain ⟨X,hX⟩:∃ X,X=mr n M:=⟨_,rfl⟩
 have lX:X.length=n:=by rw [hX,qa6]
 obtain ⟨T,hT⟩:∃ T:Int,T=((if n=0 then 0 else w:Nat):Int):=⟨_,rfl⟩
 rw [<- hX,<- hT]
 by_cases h0:n=0
 ·rw [if_pos h0] at hT
  have hT:(0:Int)=T:=hT.symm
  refine callZ ccOk mixed [.val] Tryz.func28 rfl rfl (by kernel_rfl) fun zA zB zC zD zE zF zG zH zI zJ zK zL zM zN zO zP zQ zR zT zU zV zX zY zZ zb zc zd ze zg zh zi zj zk zl zm zn zo zq zr zs zt zu zx zy zz zmget zmset zW zth A L F hS hF=>?_
  have e1:zM (zZ (zj X)) 0=true:=by rw [hS.eq,hS.ofN,hS.len,lX]; exact decide_eq_true (by omega)
  cbv
  refine bT e1 ?_
  exact fin1 hF (qa5 hT)
 ·rw [if_neg h0] at hT
  have hX0:X[0]?=some [.lst false (ur (M 0))]:=by rw [hX]; exact qbf (by omega)
  have l0:(ur (M 0)).length=w:=by rw [qag,h 0 (by omega)]
  generalize ur (M 0)=U at *
  refine callZ ccOk mixed [.val] Tryz.func28 rfl rfl (by kernel_rfl) fun zA zB zC zD zE zF zG zH zI zJ zK zL zM zN zO zP zQ zR zT zU zV zX zY zZ zb zc zd ze zg zh zi zj zk zl zm zn zo zq zr zs zt zu zx zy zz zmget zmset zW zth A L F hS hF=>?_
  have e1:zM (zZ (zj X)) 0=false:=by rw [hS.eq,hS.ofN,hS.len,lX]; exact decide_eq_false (by omega)
  have j1:zX 0=0:=by rw [hS.nat]; rfl
  have j2:zk X 0=some [.lst false U]:=by rw [hS.nth]; exact hX0
  have n0:zP 0 0=true:=by rw [hS.le]; rfl
  have e2:zZ (zj U)=T:=by rw [hS.ofN,hS.len,l0,hT]
  cbv
  refine bF e1 ?_
  rw [j1,j2]
  cbv
  refine nd (n0) ?_
  exact fin1 hF (qa5 e2)
open Go Go.Abs Go.Abs.M Go.Proofs
theorem vmul_rv (P:List Rat) (B:Nat->List Rat) (w:Nat):∀ k,(∀ i,i < k->(B i).length=w)->∀ y,rv (vmul P B w k) y=sumN k fun l=>P.getD l 0*rv (B l) y
 | 0,_,y=>by
  unfold rv vmul sumN
  rw [List.getD_eq_getElem?_getD,List.getElem?_replicate]
  split <;> rfl
 | k+1,h,y=>by
  have ih:=vmul_rv P B w k (fun i hi=>h i (by omega)) y
  rw [sumN,<- ih]
  unfold rv
  rw [vmul,pacc0_get _ (by rw [qbk,h k (by omega)])]
theorem mmM_len (M B:Nat->List Rat) (w:Nat) (i:Nat):(mmM M B w i).length=w:=by rw [mmM,qbk]
theorem mmM_qs {n m w a b:Nat} {M B:Nat->List Rat} (hl:∀ i,i < m->(B i).length=w) (hP:∀ i,i < n->(M i).length=m) (h1:∀ i,i < n->∀ q ∈ M i,Qs q a) (h2:∀ i,i < m->∀ q ∈ B i,Qs q b):∀ i,i < n->∀ q ∈ mmM M B w i,Qs q (1+m*(a+b+1)):=fun i hi=>by
 have:=vmul_qs (w:=w) hl (h1 i hi) h2 m (by rw [hP i hi]; exact Nat.le_refl _) (Nat.le_refl _)
 rw [mmM,hP i hi]; exact this
theorem rv_out {P:List Rat} {y:Nat} (h:P.length<=y):rv P y=0:=by
 unfold rv
 rw [List.getD_eq_getElem?_getD,List.getElem?_eq_none h]; rfl
end Go.Proofs.YtjfmkcmepdedaaaGreat
end
