/-
  A part of the proof: MsB1k.
-/
import Derived.Test.YtjfmkcmepdedaaaGreatM18
set_option maxHeartbeats 0
set_option maxRecDepth 100000
set_option linter.unusedVariables false
set_option linter.unusedSimpArgs false
set_option linter.unusedSectionVars false
section
namespace Go.Proofs.YtjfmkcmepdedaaaGreat
open Go Go.Abs Go.Abs.M Go.Proofs
def adl (l m:Nat) (P:List Rat):List Rat:=P.set l (P.getD l 0+P.getD m 0)
def adP (l m:Nat) (R:Nat->List Rat):List Rat:=pacc (R l) (-((-1:Int):Rat)) (R m) 0
def adR (l m:Nat) (R:Nat->List Rat):Nat->List Rat:=fun i=>adl l m (if i=l then adP l m R else R i)
theorem adl_len (l m:Nat) (P:List Rat):(adl l m P).length=P.length:=by simp [adl]
theorem adP_len (l m:Nat) (R:Nat->List Rat) (h:(R m).length<=(R l).length):(adP l m R).length=(R l).length:=by
 unfold adP pacc
 exact qbn _ _ _ _ _
theorem mb_row {P:List Rat} {l m K:Nat} (hl:l < P.length) (hm:m < P.length) (hq:∀ q ∈ P,Qs q K) (hK:K<=1000000000):∃ (s t s2 t2 s3 t3:Bool) (r p r2 p2 r3 p3:Abs.Rows),(ur P)[l]?=some [.v (.bool s),.lst false r,.v (.bool t),.lst false p]/\(ur P)[m]?=some [.v (.bool s2),.lst false r2,.v (.bool t2),.lst false p2] /\
  ACall Tryz.prog 86 [.val (.agg [.v (.bool s),.lst false r,.v (.bool t),.lst false p]),.val (.agg [.v (.bool s2),.lst false r2,.v (.bool t2),.lst false p2])] ⟨[.val (.agg [.v (.bool s3),.lst false r3,.v (.bool t3),.lst false p3])],[none,none]⟩ /\
  (ur P).set l [.v (.bool s3),.lst false r3,.v (.bool t3),.lst false p3]=ur (adl l m P):=by
 obtain ⟨s,t,r,p,h1,h2⟩:=qbo hl
 obtain ⟨s2,t2,r2,p2,h3,h4⟩:=qbo hm
 obtain ⟨s3,t3,r3,p3,h5,_⟩:=qrow (P.getD l 0+P.getD m 0)
 have g:∀ y,y < P.length->Qs (P.getD y 0) K:=fun y hy=>hq _ (by rw [List.getD_eq_getElem?_getD,List.getElem?_eq_getElem hy]; exact List.getElem_mem _)
 have c:=(padd_row (g l hl) (g m hm) (by omega)).2
 rw [h1,h3,h5] at c
 exact ⟨s,t,s2,t2,s3,t3,r,p,r2,p2,r3,p3,h2,h4,c,by rw [<- h5,ur_set]; rfl⟩
theorem mrh_congr {n w:Nat} {X Y:Nat->Abs.Rows} (h:∀ b,b < n->X b=Y b):mrh n w X=mrh n w Y:=by
 unfold mrh
 rw [show ((List.range n).map fun q=>some (Blk.rows 4 (X q) true false))=(List.range n).map fun q=>some (Blk.rows 4 (Y q) true false) from List.map_congr_left fun b hb=>by rw [h b (List.mem_range.1 hb)]]
def mb2St (n:Nat) (X:Nat->Abs.Rows) (K I J:Int):St:=mkSt 118 [.c (.sl 0 0 n false),vi .i64 K,.junk,.junk,vb false,vi .i64 n,vi .i64 I,.junk,.junk,vi .i64 J] (mrh n n X)
def mb3St (n:Nat) (X:Nat->Abs.Rows) (K I J M:Int):St:=mkSt 118 [.c (.sl 0 0 n false),vi .i64 K,.junk,.junk,vb false,vi .i64 n,vi .i64 I,.junk,.junk,vi .i64 J,vi .i64 M] (mrh n n X)
def mb4St (n:Nat) (X:Nat->Abs.Rows) (K I J M Q:Int):St:=mkSt 118 [.c (.sl 0 0 n false),vi .i64 K,.junk,.junk,vb false,vi .i64 n,vi .i64 I,.junk,.junk,vi .i64 J,vi .i64 M,.junk,.junk,.junk,.junk,.junk,.junk,.junk,.junk,.junk,.junk,.junk,.junk,.junk,.junk,.junk,.junk,.junk,.junk,.junk,.junk,.junk,.junk,.junk,.junk,.junk,.junk,.junk,.junk,.junk,.junk,.junk,.junk,.junk,.junk,.junk,.junk,.junk,.junk,.junk,.junk,.junk,.junk,.junk,.junk,.junk,.junk,.junk,.junk,.junk,.junk,.junk,.junk,.junk,.junk,.junk,.junk,.junk,.junk,.junk,.junk,.junk,.junk,.junk,.junk,.junk,.junk,.junk,.junk,.junk,.junk,.junk,.junk,.junk,.junk,.junk,.junk,.junk,.junk,.junk,.junk,.junk,.junk,.junk,.junk,.junk,.c (.sl 0 0 n false),vi .i64 n,vi .i64 Q] (mrh n n X)
theorem msC (n k:Nat) (hn:n<=4) (hk:k<=n) (R:Nat->List Rat) (lR:∀ i,i < n->(R i).length=n) (hz:∀ i,k<=i->i < n->∀ j,k<=j->j < n->(R i).getD j 0=0) {K:Int} (hK:K=k) {X:Nat->Abs.Rows} (hX:∀ i,i < n->X i=ur (R i)) :
  HCall Tryz.prog 77 ⟨[.c (.sl 0 0 n false),vi .i64 K],mrh n n X⟩ ⟨[vb false],mrh n n X⟩:=by
 have hc:∀ i,k<=i->i < n->∀ j,k<=j->j < n->∃ (s t:Bool) (r p:Abs.Rows),(X i)[j]?=some [.v (.bool s),.lst false r,.v (.bool t),.lst false p]/\ACall Tryz.prog 36 [.val (.agg [.v (.bool s),.lst false r,.v (.bool t),.lst false p])] ⟨[.val (ti .i64 0)],[none]⟩:=fun i h1 h2 j h3 h4=>by
  obtain ⟨sg,hsg,cs⟩:=qba ((R i).getD j 0)
  obtain ⟨s,t,r,p,h5,h6⟩:=qbo (P:=R i) (k:=j) (by rw [lR i h2]; exact h4)
  rw [h5,hsg.2 (hz i h1 h2 j h3 h4)] at cs
  exact ⟨s,t,r,p,by rw [hX i h2]; exact h6,cs⟩
 clear hz hX lR
 have Ln:LN n:=trivial
 have Lk:LN k:=trivial
 obtain ⟨N,hN⟩:∃ N,N=n:=⟨_,rfl⟩
 obtain ⟨κ,hκ⟩:∃ N,N=k:=⟨_,rfl⟩
 rw [<- hN] at hn hk hc
 rw [<- hκ] at hc hk
 obtain rfl | rfl | rfl | rfl | rfl:n=0 ∨ n=1 ∨ n=2 ∨ n=3 ∨ n=4:=by omega
 all_goals obtain rfl | rfl | rfl | rfl | rfl:k=0 ∨ k=1 ∨ k=2 ∨ k=3 ∨ k=4:=by omega
 all_goals first | (exfalso; omega) | skip
 all_goals
  subst hK
  refine hcallZ ccOk mixed Tryz.func77 rfl rfl (by kernel_rfl) rfl (by simp [mrh]) fun zA zB zC zD zE zF zG zH zI zJ zK zL zM zN zO zP zQ zR zT zU zV zX zY zZ zb zc zd ze zg zh zi zj zk zl zm zn zo zq zr zs zt zu zx zy zz zmget zmset zW zth A L G hS hG=>?_
  obtain rfl:zZ=fun a:Nat=>(a:Int):=by funext a; exact hS.ofN a
  obtain ⟨za,rfl⟩:=hS.addL
  obtain ⟨zw,rfl⟩:=hS.wrapL
  have hv:Ln.v=N:=hN.symm
  have hw:Lk.v=κ:=hκ.symm
  have e0:zN 0 0=false:=by rw [hS.ne]; rfl
  have e1:zM 0 0=true:=by rw [hS.eq]; rfl
  have k1:∀ q,q < N->zO (Int.ofNat q) (Ln.v:Int)=true:=fun q h=>by rw [hS.lt]; exact decide_eq_true (show (q:Int) < _ by omega)
  have k2:zO (Int.ofNat N) (Ln.v:Int)=false:=by rw [hS.lt]; exact decide_eq_false (show ¬((N:Int) < _) by omega)
  have c1:∀ q,q < N->zY (Int.ofNat q) Ln.v=true:=fun q h=>by rw [hS.inb]; exact decide_eq_true ⟨Int.natCast_nonneg q,show (q:Int) < _ by omega⟩
  have c2:∀ q,zb 0 (Int.ofNat q)=q:=fun q=>by rw [hS.idx]; simp
  cbv
  refine loopZR ccOk mixed hS (fun (m:Nat) s'=>∃ (i:Nat) (I:Int),I=i/\m+i=N/\κ<=i/\s'=ms1St Ln.v X (Int.ofNat Lk.v) I) (n:=N - κ) (s0:=ms1St Ln.v X (Int.ofNat Lk.v) (Int.ofNat Lk.v)) (qao ?_ ?_) rfl (by simp [ms1St,mkSt,mrh,LN.v]) ?_ ?_
  ·simp [leT,ms1St,mkSt,vi,vb,LN.v]
  ·simp [leH,ms1St,mkSt,mrh,LN.v,List.range,List.range.loop]
  ·exact ⟨κ,Int.ofNat Lk.v,by rw [hw]; rfl,by omega,Nat.le_refl _,rfl⟩
  ·rintro m s1 ⟨i,I,hI,hm,hki,hs1⟩
   have Li:LN i:=trivial
   by_cases hi:i=N
   ·have l2:=k2
    rw [<- hi] at l2
    obtain rfl | rfl | rfl | rfl | rfl:i=0 ∨ i=1 ∨ i=2 ∨ i=3 ∨ i=4:=by omega
    all_goals first | (exfalso; omega) | skip
    all_goals
     subst hI
     subst hs1
     cbv
     refine bF l2 ?_
     cbv
     refine loopZR ccOk mixed hS (fun (m:Nat) s'=>∃ (i:Nat) (I:Int),I=i/\m+i=N/\κ<=i/\s'=mb2St Ln.v X (Int.ofNat Lk.v) (Int.ofNat Li.v) I) (n:=N - κ) (s0:=mb2St Ln.v X (Int.ofNat Lk.v) (Int.ofNat Li.v) (Int.ofNat Lk.v)) (qao ?_ ?_) rfl (by simp [mb2St,mkSt,mrh,LN.v]) ?_ ?_
     ·simp [leT,mb2St,mkSt,vi,vb,LN.v]
     ·simp [leH,mb2St,mkSt,mrh,LN.v,List.range,List.range.loop]
     ·exact ⟨κ,Int.ofNat Lk.v,by rw [hw]; rfl,by omega,Nat.le_refl _,rfl⟩
     ·rintro m2 s2 ⟨j,J,hJ,hm2,hkj,hs2⟩
      have Lj:LN j:=trivial
      by_cases hj:j=N
      ·have l3:=k2
       rw [<- hj] at l3
       obtain rfl | rfl | rfl | rfl | rfl:j=0 ∨ j=1 ∨ j=2 ∨ j=3 ∨ j=4:=by omega
       all_goals first | (exfalso; omega) | skip
       all_goals
        subst hJ
        subst hs2
        cbv
        refine bF l3 ?_
        refine endR hG [] ?_ ?_ ?_ ?_
        ·simp [leTR,vb,AV.ren,AV.noTup,Cell.ren]
        ·simp [leHR,Abs.look,renF,Blk.ren,Cell.ren,mrh,List.range,List.range.loop]
        ·simp [liveR,renF,mrh,List.range,List.range.loop]
        ·simp
      ·have hjN:j < N:=by omega
       have l3:=k1 j hjN
       have hnx:∃ (j3:Nat) (J3:Int),J3=j3/\(m2 - 1)+j3=N/\κ<=j3/\mb2St Ln.v X (Int.ofNat Lk.v) (Int.ofNat Li.v) (Int.ofNat (Lj.v+1))=mb2St Ln.v X (Int.ofNat Lk.v) (Int.ofNat Li.v) J3:=⟨j+1,Int.ofNat (j+1),rfl,by omega,by omega,rfl⟩
       have hmm:m2 - 1 < m2:=by omega
       have hcj:=hc j hkj hjN
       clear hc
       obtain rfl | rfl | rfl | rfl:j=0 ∨ j=1 ∨ j=2 ∨ j=3:=by omega
       all_goals first | (exfalso; omega) | skip
       all_goals
        subst hJ
        subst hs2
        cbv
        refine bT l3 ?_
        cbv
        apply hideP (L:=L) True
        ·intro Q' hq hret
         refine loopZR ccOk mixed hS (fun (m:Nat) s'=>∃ (x:Nat) (M:Int),M=x/\m+x=N/\κ<=x/\s'=mb3St Ln.v X (Int.ofNat Lk.v) (Int.ofNat Li.v) (Int.ofNat Lj.v) M) (n:=N - κ) (s0:=mb3St Ln.v X (Int.ofNat Lk.v) (Int.ofNat Li.v) (Int.ofNat Lj.v) (Int.ofNat Lk.v)) (qao ?_ ?_) rfl (by simp [mb3St,mkSt,mrh,LN.v]) ?_ ?_
         ·simp [leT,mb3St,mkSt,vi,vb,LN.v]
         ·simp [leH,mb3St,mkSt,mrh,LN.v,List.range,List.range.loop]
         ·exact ⟨κ,Int.ofNat Lk.v,by rw [hw]; rfl,by omega,Nat.le_refl _,rfl⟩
         ·rintro m3 s3 ⟨x,M,hM,hm3,hkx,hs3⟩
          have Lx:LN x:=trivial
          by_cases hx:x=N
          ·have l4:=k2
           rw [<- hx] at l4
           obtain rfl | rfl | rfl | rfl | rfl:x=0 ∨ x=1 ∨ x=2 ∨ x=3 ∨ x=4:=by omega
           all_goals first | (exfalso; omega) | skip
           all_goals
            subst hM
            subst hs3
            cbv
            refine bF l4 ?_
            exact hq trivial
          ·have hxN:x < N:=by omega
           have l4:=k1 x hxN
           have g1:=c1 x hxN
           have g2:=c2 x
           obtain ⟨s,t,r,p,u,cs⟩:=hcj x hkx hxN
           have u2:zk (X Lj.v) x=some [.v (.bool s),.lst false r,.v (.bool t),.lst false p]:=by rw [hS.nth]; exact u
           simp only [LN.v] at u2
           have hnx3:∃ (j3:Nat) (J3:Int),J3=j3/\(m3 - 1)+j3=N/\κ<=j3/\mb3St Ln.v X (Int.ofNat Lk.v) (Int.ofNat Li.v) (Int.ofNat Lj.v) (Int.ofNat (Lx.v+1))=mb3St Ln.v X (Int.ofNat Lk.v) (Int.ofNat Li.v) (Int.ofNat Lj.v) J3:=⟨x+1,Int.ofNat (x+1),rfl,by omega,by omega,rfl⟩
           have hmm3:m3 - 1 < m3:=by omega
           clear hcj hq hret u hnx
           obtain rfl | rfl | rfl | rfl:x=0 ∨ x=1 ∨ x=2 ∨ x=3:=by omega
           all_goals first | (exfalso; omega) | skip
           all_goals
            subst hM
            subst hs3
            cbv
            refine bT l4 (nd g1 ?_)
            simp only [g2,u2]
            cbv
            refine ⟨_,hS.call (cs),?_⟩
            cbv
            refine bT (e1) ?_
            repeat (conv in (ST.toSt _)=>cbv)
            refine againR [] (s':=mb3St Ln.v X (Int.ofNat Lk.v) (Int.ofNat Li.v) (Int.ofNat Lj.v) (Int.ofNat (Lx.v+1))) (k:=m3 - 1) ?_ ?_ ?_ ?_ rfl (by simp [mb3St,mkSt,mrh,LN.v]) hmm3 hnx3
            ·simp [leTR,mb3St,mkSt,vi,vb,AV.ren,AV.noTup,Cell.ren,renF,LN.v]
            ·simp [leHR,mb3St,mkSt,Abs.look,renF,Blk.ren,Cell.ren,mrh,LN.v,List.range,List.range.loop]
            ·simp [liveR,mb3St,mkSt,renF,mrh,LN.v,List.range,List.range.loop]
            ·simp
        ·intro _
         cbv
         refine againR [] (s':=mb2St Ln.v X (Int.ofNat Lk.v) (Int.ofNat Li.v) (Int.ofNat (Lj.v+1))) (k:=m2 - 1) ?_ ?_ ?_ ?_ rfl (by simp [mb2St,mkSt,mrh,LN.v]) hmm hnx
         ·simp [leTR,mb2St,mkSt,vi,vb,AV.ren,AV.noTup,Cell.ren,renF,LN.v]
         ·simp [leHR,mb2St,mkSt,Abs.look,renF,Blk.ren,Cell.ren,mrh,LN.v,List.range,List.range.loop]
         ·simp [liveR,mb2St,mkSt,renF,mrh,LN.v,List.range,List.range.loop]
         ·simp
   ·have hiN:i < N:=by omega
    have l1:=k1 i hiN
    have g1:=c1 i hiN
    have g2:=c2 i
    obtain ⟨s,t,r,p,u,cs⟩:=hc i hki hiN i hki hiN
    have u2:zk (X i) i=some [.v (.bool s),.lst false r,.v (.bool t),.lst false p]:=by rw [hS.nth]; exact u
    have hmm:m - 1 < m:=by omega
    have hnx:∃ (i2:Nat) (I2:Int),I2=i2/\(m - 1)+i2=N/\κ<=i2/\ms1St Ln.v X (Int.ofNat Lk.v) (Int.ofNat (Li.v+1))=ms1St Ln.v X (Int.ofNat Lk.v) I2:=⟨i+1,Int.ofNat (i+1),rfl,by omega,by omega,rfl⟩
    clear hc u
    obtain rfl | rfl | rfl | rfl:i=0 ∨ i=1 ∨ i=2 ∨ i=3:=by omega
    all_goals first | (exfalso; omega) | skip
    all_goals
     subst hI
     subst hs1
     cbv
     refine bT l1 (nd g1 ?_)
     simp only [g2,u2]
     cbv
     refine ⟨_,hS.call (cs),?_⟩
     cbv
     refine bF (e0) ?_
     repeat (conv in (ST.toSt _)=>cbv)
     refine againR [] (s':=ms1St Ln.v X (Int.ofNat Lk.v) (Int.ofNat (Li.v+1))) (k:=m - 1) ?_ ?_ ?_ ?_ rfl (by simp [ms1St,mkSt,mrh,LN.v]) hmm hnx
     ·simp [leTR,ms1St,mkSt,vi,vb,AV.ren,AV.noTup,Cell.ren,renF,LN.v]
     ·simp [leHR,ms1St,mkSt,Abs.look,renF,Blk.ren,Cell.ren,mrh,LN.v,List.range,List.range.loop]
     ·simp [liveR,ms1St,mkSt,renF,mrh,LN.v,List.range,List.range.loop]
     ·simp
end Go.Proofs.YtjfmkcmepdedaaaGreat
end
