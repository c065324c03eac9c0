/-
  A part of the proof: MsA1k.
-/
import Derived.Test.YtjfmkcmepdedaaaGreatM17
set_option maxHeartbeats 0
set_option maxRecDepth 100000
set_option linter.unusedVariables false
set_option linter.unusedSimpArgs false
set_option linter.unusedSectionVars false
section
namespace Go.Proofs.YtjfmkcmepdedaaaGreat
open Go Go.Abs Go.Abs.M Go.Proofs
theorem msA (n k l:Nat) (hn:n<=4) (hkl:k<=l) (hl:l < n) (R:Nat->List Rat) (lR:∀ i,i < n->(R i).length=n) (hz:∀ i,k<=i->i < l->(R i).getD i 0=0) (h0:(R l).getD l 0 ≠ 0) {K:Int} (hK:K=k) {X Y:Nat->Abs.Rows} (hX:∀ i,i < n->X i=ur (R i)) (hY:∀ i,i < n->Y i=ur (swl l k (R i))) :
  HCall Tryz.prog 77 ⟨[.c (.sl 0 0 n false),vi .i64 K],mrh n n X⟩ ⟨[vb true],mrp n k l n Y⟩:=by
 have hd:∀ i,i < n->∃ (s t:Bool) (r p:Abs.Rows) (sg:Int),(sg=0 ↔ (R i).getD i 0=0)/\(X i)[i]?=some [.v (.bool s),.lst false r,.v (.bool t),.lst false p]/\ACall Tryz.prog 36 [.val (.agg [.v (.bool s),.lst false r,.v (.bool t),.lst false p])] ⟨[.val (ti .i64 sg)],[none]⟩:=fun i hi=>by
  obtain ⟨sg,hsg,cs⟩:=qba ((R i).getD i 0)
  obtain ⟨s,t,r,p,h1,h2⟩:=qbo (P:=R i) (k:=i) (by rw [lR i hi]; exact hi)
  rw [h1] at cs
  exact ⟨s,t,r,p,sg,hsg,by rw [hX i hi]; exact h2,cs⟩
 have hrow:∀ i,i < n->∃ (s t s2 t2 s3 t3:Bool) (r p r2 p2 r3 p3:Abs.Rows),(X i)[k]?=some [.v (.bool s),.lst false r,.v (.bool t),.lst false p]/\(X i)[l]?=some [.v (.bool s2),.lst false r2,.v (.bool t2),.lst false p2] /\
   ((X i).set l [.v (.bool s),.lst false r,.v (.bool t),.lst false p])[k]?=some [.v (.bool s3),.lst false r3,.v (.bool t3),.lst false p3] /\
   ((X i).set l [.v (.bool s),.lst false r,.v (.bool t),.lst false p]).set k [.v (.bool s2),.lst false r2,.v (.bool t2),.lst false p2]=Y i:=fun i hi=>by
  rw [hX i hi,hY i hi]; exact ms_row (by rw [lR i hi]; omega) (by rw [lR i hi]; omega)
 have hsz:∀ i,k<=i->i < l->∃ (s t:Bool) (r p:Abs.Rows),(X i)[i]?=some [.v (.bool s),.lst false r,.v (.bool t),.lst false p]/\ACall Tryz.prog 36 [.val (.agg [.v (.bool s),.lst false r,.v (.bool t),.lst false p])] ⟨[.val (ti .i64 0)],[none]⟩:=fun i h1 h2=>by
  obtain ⟨s,t,r,p,sg,h3,h4,h5⟩:=hd i (by omega)
  rw [h3.2 (hz i h1 h2)] at h5
  exact ⟨s,t,r,p,h4,h5⟩
 obtain ⟨s0,t0,r0,p0,sg,hsg,u0,cs0⟩:=hd l hl
 have hs0:sg ≠ 0:=fun e=>h0 (hsg.1 e)
 clear hd hz h0 hsg hX hY lR
 have hr:(St.mk [vb true] (mrp n k l n Y)).refsLt=true:=by
  obtain rfl | rfl | rfl | rfl:n=1 ∨ n=2 ∨ n=3 ∨ n=4:=by omega
  all_goals obtain rfl | rfl | rfl | rfl:k=0 ∨ k=1 ∨ k=2 ∨ k=3:=by omega
  all_goals first | (exfalso; omega) | skip
  all_goals obtain rfl | rfl | rfl | rfl:l=0 ∨ l=1 ∨ l=2 ∨ l=3:=by omega
  all_goals first | (exfalso; omega) | rfl
 have Ln:LN n:=trivial
 have Lk:LN k:=trivial
 obtain ⟨N,hN⟩:∃ N,N=n:=⟨_,rfl⟩
 obtain ⟨κ,hκ⟩:∃ N,N=k:=⟨_,rfl⟩
 rw [<- hN] at hn hl hrow
 rw [<- hκ] at hkl hrow hsz
 obtain rfl | rfl | rfl | rfl:n=1 ∨ n=2 ∨ n=3 ∨ n=4:=by omega
 all_goals obtain rfl | rfl | rfl | rfl:k=0 ∨ k=1 ∨ k=2 ∨ k=3:=by omega
 all_goals first | (exfalso; omega) | skip
 all_goals
  as_aux_lemma=>
   subst hK
   refine hcallZ ccOk mixed Tryz.func77 rfl rfl (by kernel_rfl) hr (by simp [mrh,mrp]) fun zA zB zC zD zE zF zG zH zI zJ zK zL zM zN zO zP zQ zR zT zU zV zX zY zZ zb zc zd ze zg zh zi zj zk zl zm zn zo zq zr zs zt zu zx zy zz zmget zmset zW zth A L G hS hG=>?_
   obtain rfl:zZ=fun a:Nat=>(a:Int):=by funext a; exact hS.ofN a
   obtain ⟨za,rfl⟩:=hS.addL
   obtain ⟨zw,rfl⟩:=hS.wrapL
   have hv:Ln.v=N:=hN.symm
   have hw:Lk.v=κ:=hκ.symm
   cbv
   refine loopZR ccOk mixed hS (fun (m:Nat) s'=>∃ (i:Nat) (I:Int),I=i/\m+i=l/\κ<=i/\s'=ms1St Ln.v X (Int.ofNat Lk.v) I) (n:=l - κ) (s0:=ms1St Ln.v X (Int.ofNat Lk.v) (Int.ofNat Lk.v)) (qao ?_ ?_) rfl (by simp [ms1St,mkSt,mrh,LN.v]) ?_ ?_
   ·simp [leT,ms1St,mkSt,vi,vb,LN.v]
   ·simp [leH,ms1St,mkSt,mrh,LN.v,List.range,List.range.loop]
   ·exact ⟨κ,Int.ofNat Lk.v,by rw [hw]; rfl,by omega,Nat.le_refl _,rfl⟩
   ·rintro m s1 ⟨i,I,hI,hm,hki,hs1⟩
    have Li:LN i:=trivial
    have l1:zO (Int.ofNat i) (Ln.v:Int)=true:=by rw [hS.lt]; exact decide_eq_true (show (i:Int) < _ by omega)
    have b1:zY (Int.ofNat i) Ln.v=true:=by rw [hS.inb]; exact decide_eq_true ⟨Int.natCast_nonneg i,show (i:Int) < _ by omega⟩
    have b2:zb 0 (Int.ofNat i)=i:=by rw [hS.idx]; simp
    by_cases hi:i=l
    ·subst hi
     have e0:zN sg 0=true:=by rw [hS.ne]; exact decide_eq_true hs0
     have u2:zk (X i) i=some [.v (.bool s0),.lst false r0,.v (.bool t0),.lst false p0]:=by rw [hS.nth]; exact u0
     have c1:zY (Int.ofNat κ) Ln.v=true:=by rw [hS.inb]; exact decide_eq_true ⟨Int.natCast_nonneg κ,show (κ:Int) < _ by omega⟩
     have c2:zb 0 (Int.ofNat κ)=κ:=by rw [hS.idx]; simp
     have k1:∀ q,q < N->zO (Int.ofNat q) (Ln.v:Int)=true:=fun q h=>by rw [hS.lt]; exact decide_eq_true (show (q:Int) < _ by omega)
     have k2:zO (Int.ofNat N) (Ln.v:Int)=false:=by rw [hS.lt]; exact decide_eq_false (show ¬((N:Int) < _) by omega)
     obtain ⟨τ,hτ⟩:∃ τ:Nat->Nat,∀ b,τ b=if b=κ then i else if b=i then κ else b:=⟨_,fun _=>rfl⟩
     have t1:∀ q,(q=κ/\τ q=i) ∨ (q ≠ κ/\q=i/\τ q=κ) ∨ (q ≠ κ/\q ≠ i/\τ q=q):=fun q=>by
      rw [hτ]
      by_cases a:q=κ
      ·rw [if_pos a]; exact .inl ⟨a,rfl⟩
      ·rw [if_neg a]
       by_cases b:q=i
       ·rw [if_pos b]; exact .inr (.inl ⟨a,b,rfl⟩)
       ·rw [if_neg b]; exact .inr (.inr ⟨a,b,rfl⟩)
     have t2:∀ q,τ (τ q)=q:=fun q=>by have:=t1 q; have:=t1 (τ q); omega
     obtain ⟨μ,hμ⟩:∃ μ,μ=i:=⟨_,rfl⟩
     rw [<- hμ] at hl hkl t1 hrow
     clear hsz u0 hτ hs0
     obtain rfl | rfl | rfl | rfl:i=0 ∨ i=1 ∨ i=2 ∨ i=3:=by omega
     all_goals first | (exfalso; omega) | skip
     all_goals
      subst hI
      subst hs1
      cbv
      refine bT l1 (nd b1 ?_)
      rw [b2,u2]
      cbv
      refine ⟨_,hS.call (cs0),?_⟩
      cbv
      refine bT (e0) ?_
      refine loopZR ccOk mixed hS (fun (m:Nat) s'=>∃ (q:Nat) (Q:Int) (Z:Nat->Abs.Rows),Q=q/\m+q=N/\(∀ b,b < N->Z b=if τ b < q then Y b else X b)/\s'=ms2St Ln.v Lk.v Li.v Z (Int.ofNat Lk.v) (Int.ofNat Li.v) Q) (n:=N) (s0:=ms2St Ln.v Lk.v Li.v X (Int.ofNat Lk.v) (Int.ofNat Li.v) 0) (qao ?_ ?_) rfl (by simp [ms2St,mkSt,mrp,mrh,LN.v]) ?_ ?_
      ·simp [leT,ms2St,mkSt,vi,vb,LN.v]
      ·simp [leH,ms2St,mkSt,mrp,LN.v,List.range,List.range.loop]
      ·exact ⟨0,0,X,rfl,by omega,fun b _=>by rw [if_neg (by omega)],rfl⟩
      ·rintro m2 s2 ⟨q,Q,Z,hQ,hm2,hZ,hs2⟩
       have Lq:LN q:=trivial
       by_cases hq:q < N
       ·have l2:=k1 q hq
        obtain ⟨b,hb⟩:∃ b,b=τ q:=⟨_,rfl⟩
        have tb:τ b=q:=by rw [hb]; exact t2 q
        have Lb:LN b:=trivial
        have hbN:b < N:=by have:=t1 q; omega
        have Zb:Z b=X b:=by rw [hZ b hbN,if_neg (by omega)]
        obtain ⟨s,t,s',t',s3,t3,r,p,r',p',r3,p3,u5,u6,u8,u7⟩:=hrow b hbN
        have x4:zk (zl (Z b) μ [.v (.bool s),.lst false r,.v (.bool t),.lst false p]) κ=some [.v (.bool s3),.lst false r3,.v (.bool t3),.lst false p3]:=by rw [hS.nth,hS.setr,Zb]; exact u8
        have x1:zk (Z b) κ=some [.v (.bool s),.lst false r,.v (.bool t),.lst false p]:=by rw [hS.nth,Zb]; exact u5
        have x2:zk (Z b) μ=some [.v (.bool s'),.lst false r',.v (.bool t'),.lst false p']:=by rw [hS.nth,Zb]; exact u6
        have x3:zl (zl (Z b) μ [.v (.bool s),.lst false r,.v (.bool t),.lst false p]) κ [.v (.bool s'),.lst false r',.v (.bool t'),.lst false p']=Y b:=by rw [hS.setr,hS.setr,Zb]; exact u7
        have hmm:m2 - 1 < m2:=by omega
        have hnx:∃ (q3:Nat) (Q3:Int) (Z3:Nat->Abs.Rows),Q3=q3/\(m2 - 1)+q3=N/\(∀ b,b < N->Z3 b=if τ b < q3 then Y b else X b)/\ms2St Ln.v Lk.v Li.v (fun x=>if x=b then Y b else Z x) (Int.ofNat Lk.v) (Int.ofNat Li.v) (Int.ofNat (Lq.v+1))=ms2St Ln.v Lk.v Li.v Z3 (Int.ofNat Lk.v) (Int.ofNat Li.v) Q3:=⟨q+1,Int.ofNat (q+1),_,rfl,by omega,fun x hx=>by
         show (if x=b then Y b else Z x)=_
         by_cases h:x=b
         ·rw [if_pos h,if_pos (by rw [h,tb]; omega),h]
         ·rw [if_neg h,hZ x hx]
          have h3:τ x ≠ q:=fun e=>h (by rw [hb,<- e,t2])
          by_cases h2:τ x < q
          ·rw [if_pos h2,if_pos (by omega)]
          ·rw [if_neg h2,if_neg (by omega)],rfl⟩
        have hc:=t1 q
        rw [<- hb] at hc
        clear hrow hZ u5 u6 u7 u8 t1 t2 hb tb Zb
        obtain rfl | rfl | rfl | rfl:q=0 ∨ q=1 ∨ q=2 ∨ q=3:=by omega
        all_goals first | (exfalso; omega) | skip
        all_goals obtain rfl | rfl | rfl | rfl:b=0 ∨ b=1 ∨ b=2 ∨ b=3:=by omega
        all_goals first | (exfalso; omega) | skip
        all_goals
         as_aux_lemma=>
          subst hκ
          subst hμ
          subst hQ
          subst hs2
          cbv
          refine bT l2 (nd c1 ?_)
          simp only [c2,x1]
          cbv
          refine nd b1 ?_
          simp only [b2,x2]
          cbv
          refine nd b1 ?_
          simp only [b2,x2]
          cbv
          refine nd c1 ?_
          simp only [c2,sr4,x4]
          cbv
          simp only [sr4,x3]
          repeat (conv in (ST.toSt _)=>cbv)
          refine againR [] (s':=ms2St Ln.v Lk.v Li.v (fun x=>if x=Lb.v then Y Lb.v else Z x) (Int.ofNat Lk.v) (Int.ofNat Li.v) (Int.ofNat (Lq.v+1))) (k:=m2 - 1) ?_ ?_ ?_ ?_ rfl ?_ hmm hnx
          ·simp [leTR,ms2St,mkSt,vi,vb,AV.ren,AV.noTup,Cell.ren,renF,LN.v]
          ·simp [leHR,ms2St,mkSt,Abs.look,renF,Blk.ren,Cell.ren,mrp,LN.v,List.range,List.range.loop]
          ·simp [liveR,ms2St,mkSt,renF,mrp,LN.v,List.range,List.range.loop]
          ·simp
          ·simp [ms2St,mkSt,mrp,mrh,LN.v]
       ·obtain rfl:q=N:=by omega
        have hZ2:∀ b,b < q->Z b=Y b:=fun b hb=>by
         rw [hZ b hb,if_pos]
         have:=t1 b
         omega
        clear hrow hZ t1 t2
        subst hN
        subst hQ
        subst hs2
        cbv
        refine bF k2 ?_
        cbv
        refine endR hG [] ?_ ?_ ?_ ?_
        ·simp [leTR,vb,AV.ren,AV.noTup,Cell.ren]
        ·simp [leHR,Abs.look,renF,Blk.ren,Cell.ren,mrp,List.range,List.range.loop,hZ2]
        ·simp [liveR,renF,mrp,List.range,List.range.loop]
        ·simp
    ·have hil:i < l:=by omega
     have e0:zN 0 0=false:=by rw [hS.ne]; rfl
     obtain ⟨s,t,r,p,u,cs⟩:=hsz i hki hil
     have u2:zk (X i) i=some [.v (.bool s),.lst false r,.v (.bool t),.lst false p]:=by rw [hS.nth]; exact u
     have hmm:m - 1 < m:=by omega
     have hnx:∃ (i2:Nat) (I2:Int),I2=i2/\(m - 1)+i2=l/\κ<=i2/\ms1St Ln.v X (Int.ofNat Lk.v) (Int.ofNat (Li.v+1))=ms1St Ln.v X (Int.ofNat Lk.v) I2:=⟨i+1,Int.ofNat (i+1),rfl,by omega,by omega,rfl⟩
     clear hsz hrow u hr
     obtain rfl | rfl | rfl:i=0 ∨ i=1 ∨ i=2:=by omega
     all_goals first | (exfalso; omega) | skip
     all_goals
      subst hI
      subst hs1
      cbv
      refine bT l1 (nd b1 ?_)
      rw [b2,u2]
      cbv
      refine ⟨_,hS.call (cs),?_⟩
      cbv
      refine bF (e0) ?_
      refine againR [] (s':=ms1St Ln.v X (Int.ofNat Lk.v) (Int.ofNat (Li.v+1))) (k:=m - 1) ?_ ?_ ?_ ?_ rfl (by simp [ms1St,mkSt,mrh,LN.v]) hmm hnx
      ·simp [leTR,ms1St,mkSt,vi,vb,AV.ren,AV.noTup,Cell.ren,renF,LN.v]
      ·simp [leHR,ms1St,mkSt,Abs.look,renF,Blk.ren,Cell.ren,mrh,LN.v,List.range,List.range.loop]
      ·simp [liveR,ms1St,mkSt,renF,mrh,LN.v,List.range,List.range.loop]
      ·simp
end Go.Proofs.YtjfmkcmepdedaaaGreat
end
