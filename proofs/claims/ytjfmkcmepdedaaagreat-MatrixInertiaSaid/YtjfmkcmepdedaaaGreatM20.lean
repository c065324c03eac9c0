/-
  A part of the proof: MsD1k.
-/
import Derived.Test.YtjfmkcmepdedaaaGreatM19
set_option maxHeartbeats 0
set_option maxRecDepth 100000
set_option linter.unusedVariables false
set_option linter.unusedSimpArgs false
set_option linter.unusedSectionVars false
section
namespace Go.Proofs.YtjfmkcmepdedaaaGreat
open Go Go.Abs Go.Abs.M Go.Proofs
theorem msB (n k l m:Nat) (hn:n<=4) (hkl:k<=l) (hlm:l < m) (hm:m < n) (R:Nat->List Rat) (lR:∀ i,i < n->(R i).length=n) (B:Nat) (hB:B<=100000000) (hq:∀ i,i < n->∀ q ∈ R i,Qs q B) (hd:∀ i,k<=i->i < n->(R i).getD i 0=0) (hz:∀ i,k<=i->i<=l->∀ j,k<=j->j < n->(i < l ∨ j < m)->(R i).getD j 0=0) (h0:(R l).getD m 0 ≠ 0) (h1:(adR l m R l).getD l 0 ≠ 0)
  {K:Int} (hK:K=k) {X Y:Nat->Abs.Rows} (hX:∀ i,i < n->X i=ur (R i)) (hY:∀ i,i < n->Y i=ur (swl l k (adR l m R i))) :
  HCall Tryz.prog 77 ⟨[.c (.sl 0 0 n false),vi .i64 K],mrh n n X⟩ ⟨[vb true],mrp n k l n Y⟩:=by
 have hcd:∀ i,k<=i->i < n->∃ (s t:Bool) (r p:Abs.Rows),(X i)[i]?=some [.v (.bool s),.lst false r,.v (.bool t),.lst false p]/\ACall Tryz.prog 36 [.val (.agg [.v (.bool s),.lst false r,.v (.bool t),.lst false p])] ⟨[.val (ti .i64 0)],[none]⟩:=fun i h1 h2=>by
  obtain ⟨sg,hsg,cs⟩:=qba ((R i).getD i 0)
  obtain ⟨s,t,r,p,h5,h6⟩:=qbo (P:=R i) (k:=i) (by rw [lR i h2]; exact h2)
  rw [h5,hsg.2 (hd i h1 h2)] at cs
  exact ⟨s,t,r,p,by rw [hX i h2]; exact h6,cs⟩
 have hc:∀ i,k<=i->i<=l->∀ j,k<=j->j < n->(i < l ∨ j < m)->∃ (s t:Bool) (r p:Abs.Rows),(X i)[j]?=some [.v (.bool s),.lst false r,.v (.bool t),.lst false p]/\ACall Tryz.prog 36 [.val (.agg [.v (.bool s),.lst false r,.v (.bool t),.lst false p])] ⟨[.val (ti .i64 0)],[none]⟩:=fun i h1 h2 j h3 h4 h7=>by
  obtain ⟨sg,hsg,cs⟩:=qba ((R i).getD j 0)
  obtain ⟨s,t,r,p,h5,h6⟩:=qbo (P:=R i) (k:=j) (by rw [lR i (by omega)]; exact h4)
  rw [h5,hsg.2 (hz i h1 h2 j h3 h4 h7)] at cs
  exact ⟨s,t,r,p,by rw [hX i (by omega)]; exact h6,cs⟩
 obtain ⟨sg,s0,t0,r0,p0,hs0,u0,cs0⟩:∃ (sg:Int) (s t:Bool) (r p:Abs.Rows),sg ≠ 0/\(X l)[m]?=some [.v (.bool s),.lst false r,.v (.bool t),.lst false p]/\ACall Tryz.prog 36 [.val (.agg [.v (.bool s),.lst false r,.v (.bool t),.lst false p])] ⟨[.val (ti .i64 sg)],[none]⟩:=by
  obtain ⟨sg,hsg,cs⟩:=qba ((R l).getD m 0)
  obtain ⟨s,t,r,p,h5,h6⟩:=qbo (P:=R l) (k:=m) (by rw [lR l (by omega)]; exact hm)
  rw [h5] at cs
  exact ⟨sg,s,t,r,p,fun e=>h0 (hsg.1 e),by rw [hX l (by omega)]; exact h6,cs⟩
 have cw:=pwhole_row (-1) (by omega) (by omega)
 have lll:=lR l (by omega)
 have llm:=lR m hm
 have csub:=msubb_call (R l) (R m) ((-1:Int):Rat) B 1 B (by omega) (by omega) (hq l (by omega)) (Qs.whole (n:=-1) (by decide) (by decide)) (hq m hm) (by omega) (by omega)
 obtain ⟨s1,t1,r1,p1,hrw,_⟩:=qrow ((-1:Int):Rat)
 rw [hrw] at cw csub
 rw [<- hX l (by omega),<- hX m hm,show pacc (R l) (-((-1:Int):Rat)) (R m) 0=adP l m R from rfl] at csub
 have lP:(adP l m R).length=n:=by rw [adP_len l m R (by omega),lll]
 obtain ⟨XP,hXP⟩:∃ XP,XP=ur (adP l m R):=⟨_,rfl⟩
 have lXP:XP.length=n:=by rw [hXP,qau,lP]
 have lX:∀ i,i < n->(X i).length=n:=fun i hi=>by rw [hX i hi,qau,lR i hi]
 rw [<- hXP] at csub
 have qP:∀ q ∈ adP l m R,Qs q (2*B+2):=fun q hqq=>by
  obtain ⟨y,hy,rfl⟩:=List.getElem_of_mem hqq
  have e:(adP l m R)[y]=(adP l m R).getD y 0:=by rw [List.getD_eq_getElem?_getD,List.getElem?_eq_getElem hy]; rfl
  rw [e,adP,pacc0_get _ (by omega)]
  have g:∀ i,i < n->Qs ((R i).getD y 0) B:=fun i hi=>hq i hi _ (by rw [List.getD_eq_getElem?_getD,List.getElem?_eq_getElem (by rw [lR i hi]; omega)]; exact List.getElem_mem _)
  exact (add_small (g l (by omega)) (mul_small (Qs.whole (n:=-1) (by decide) (Nat.le_refl 1)).neg (g m hm))).mono (by omega)
 obtain ⟨XX,hXX⟩:∃ XX:Nat->Abs.Rows,∀ i,XX i=if i=l then XP else X i:=⟨fun i=>if i=l then XP else X i,fun _=>rfl⟩
 have hrow:∀ i,i < n->∃ (s t s2 t2 s3 t3:Bool) (r p r2 p2 r3 p3:Abs.Rows),(XX i)[l]?=some [.v (.bool s),.lst false r,.v (.bool t),.lst false p]/\(XX i)[m]?=some [.v (.bool s2),.lst false r2,.v (.bool t2),.lst false p2] /\
   ACall Tryz.prog 86 [.val (.agg [.v (.bool s),.lst false r,.v (.bool t),.lst false p]),.val (.agg [.v (.bool s2),.lst false r2,.v (.bool t2),.lst false p2])] ⟨[.val (.agg [.v (.bool s3),.lst false r3,.v (.bool t3),.lst false p3])],[none,none]⟩ /\
   (XX i).set l [.v (.bool s3),.lst false r3,.v (.bool t3),.lst false p3]=ur (adR l m R i):=fun i hi=>by
  unfold adR
  rw [hXX]
  by_cases e:i=l
  ·rw [if_pos e,if_pos e,hXP]
   exact mb_row (by omega) (by omega) qP (by omega)
  ·rw [if_neg e,if_neg e,hX i hi]
   exact mb_row (by rw [lR i hi]; omega) (by rw [lR i hi]; omega) (fun q h=>(hq i hi q h).mono (show B<=2*B+2 by omega)) (by omega)
 have lA:∀ i,i < n->(adR l m R i).length=n:=fun i hi=>by
  unfold adR
  rw [adl_len]
  split
  ·exact lP
  ·exact lR i hi
 have crec:=msA n k l hn hkl (by omega) (adR l m R) lA (fun i h2 h3=>by
  unfold adR adl
  rw [if_neg (by omega),List.getD_eq_getElem?_getD,List.getElem?_set,if_neg (by omega),<- List.getD_eq_getElem?_getD]
  exact hd i h2 (by omega)) h1 hK (X:=fun i=>ur (adR l m R i)) (Y:=Y) (fun _ _=>rfl) hY
 obtain ⟨Y1,hY1⟩:∃ Y1:Nat->Abs.Rows,Y1=fun i=>ur (adR l m R i):=⟨_,rfl⟩
 rw [<- hY1] at crec
 have hrow2:∀ i,i < n->∃ (s t s2 t2 s3 t3:Bool) (r p r2 p2 r3 p3:Abs.Rows),(XX i)[l]?=some [.v (.bool s),.lst false r,.v (.bool t),.lst false p]/\(XX i)[m]?=some [.v (.bool s2),.lst false r2,.v (.bool t2),.lst false p2] /\
   ACall Tryz.prog 86 [.val (.agg [.v (.bool s),.lst false r,.v (.bool t),.lst false p]),.val (.agg [.v (.bool s2),.lst false r2,.v (.bool t2),.lst false p2])] ⟨[.val (.agg [.v (.bool s3),.lst false r3,.v (.bool t3),.lst false p3])],[none,none]⟩ /\
   (XX i).set l [.v (.bool s3),.lst false r3,.v (.bool t3),.lst false p3]=Y1 i:=by rw [hY1]; exact hrow
 clear hrow
 clear hd hz h0 h1 hX hY hY1 lR hq qP lP lA lll llm hrw hXP
 have hr:(St.mk [vb true] (mrp n k l n Y)).refsLt=true:=by
  obtain rfl | rfl | rfl:n=2 ∨ n=3 ∨ n=4:=by omega
  all_goals obtain rfl | rfl | rfl:k=0 ∨ k=1 ∨ k=2:=by omega
  all_goals first | (exfalso; omega) | skip
  all_goals obtain rfl | rfl | rfl:l=0 ∨ l=1 ∨ l=2:=by omega
  all_goals first | (exfalso; omega) | rfl
 have Ln:LN n:=trivial
 have Lk:LN k:=trivial
 have Ll:LN l:=trivial
 have Lm:LN m:=trivial
 obtain ⟨N,hN⟩:∃ N,N=n:=⟨_,rfl⟩
 obtain ⟨κ,hκ⟩:∃ N,N=k:=⟨_,rfl⟩
 rw [<- hN] at hn hm hc hcd hrow2 lXP lX
 rw [<- hκ] at hc hkl hcd
 obtain rfl | rfl | rfl:n=2 ∨ n=3 ∨ n=4:=by omega
 all_goals obtain rfl | rfl | rfl:k=0 ∨ k=1 ∨ k=2:=by omega
 all_goals first | (exfalso; omega) | skip
 all_goals
  as_aux_lemma=>
   subst hK
   refine hcallZ ccOk mixed Tryz.func77 rfl rfl (by kernel_rfl) hr (by simp [mrh,mrp]) fun zA zB zC zD zE zF zG zH zI zJ zK zL zM zN zO zP zQ zR zT zU zV zX zY zZ zb zc zd ze zg zh zi zj zk zl zm zn zo zq zr zs zt zu zx zy zz zmget zmset zW zth A L G hS hG=>?_
   obtain rfl:zZ=fun a:Nat=>(a:Int):=by funext a; exact hS.ofN a
   obtain ⟨za,rfl⟩:=hS.addL
   obtain ⟨zw,rfl⟩:=hS.wrapL
   have hv:Ln.v=N:=hN.symm
   have hw:Lk.v=κ:=hκ.symm
   have e0:zN 0 0=false:=by rw [hS.ne]; rfl
   have e1:zM 0 0=true:=by rw [hS.eq]; rfl
   have e2:zM sg 0=false:=by rw [hS.eq]; exact decide_eq_false hs0
   have k1:∀ q,q < N->zO (Int.ofNat q) (Ln.v:Int)=true:=fun q h=>by rw [hS.lt]; exact decide_eq_true (show (q:Int) < _ by omega)
   have k2:zO (Int.ofNat N) (Ln.v:Int)=false:=by rw [hS.lt]; exact decide_eq_false (show ¬((N:Int) < _) by omega)
   have c1:∀ q,q < N->zY (Int.ofNat q) Ln.v=true:=fun q h=>by rw [hS.inb]; exact decide_eq_true ⟨Int.natCast_nonneg q,show (q:Int) < _ by omega⟩
   have c2:∀ q,zb 0 (Int.ofNat q)=q:=fun q=>by rw [hS.idx]; simp
   have f:∀ X:Abs.Rows,X.length=N->zq 0 Ln.v X=true:=fun X h=>by rw [hS.fit]; exact decide_eq_true (by omega)
   have pt:∀ X:Abs.Rows,X.length=N->zr X 0 Ln.v=X:=fun X h=>by rw [hS.part,List.drop_zero,List.take_of_length_le (by omega)]
   simp only [LN.v] at pt
   have gq:∀ X:Abs.Rows,X.length=N->zc (zj X) Ln.v=true:=fun X h=>by rw [hS.len,hS.neq]; exact decide_eq_true (by omega)
   have sg1:∀ X Y:Abs.Rows,X.length=N->Y.length=N->zt X 0 Y=Y:=fun X Y h h2=>by rw [hS.setg]; simp [setRange,h,h2]
   cbv
   refine loopZR ccOk mixed hS (fun (m:Nat) s'=>∃ (i:Nat) (I:Int),I=i/\m+i=N/\κ<=i/\s'=ms1St Ln.v X (Int.ofNat Lk.v) I) (n:=N - κ) (s0:=ms1St Ln.v X (Int.ofNat Lk.v) (Int.ofNat Lk.v)) (qao ?_ ?_) rfl (by simp [ms1St,mkSt,mrh,LN.v]) ?_ ?_
   ·simp [leT,ms1St,mkSt,vi,vb,LN.v]
   ·simp [leH,ms1St,mkSt,mrh,LN.v,List.range,List.range.loop]
   ·exact ⟨κ,Int.ofNat Lk.v,by rw [hw]; rfl,by omega,Nat.le_refl _,rfl⟩
   ·rintro m1 s1 ⟨i,I,hI,hm1,hki,hs1⟩
    have Li:LN i:=trivial
    by_cases hi:i=N
    ·have l2:=k2
     rw [<- hi] at l2
     clear hcd
     obtain rfl | rfl | rfl:i=2 ∨ i=3 ∨ i=4:=by omega
     all_goals first | (exfalso; omega) | skip
     all_goals
      subst hI
      subst hs1
      cbv
      refine bF l2 ?_
      cbv
      refine loopZR ccOk mixed hS (fun (m:Nat) s'=>∃ (i:Nat) (I:Int),I=i/\m+i=l/\κ<=i/\s'=mb2St Ln.v X (Int.ofNat Lk.v) (Int.ofNat Li.v) I) (n:=l - κ) (s0:=mb2St Ln.v X (Int.ofNat Lk.v) (Int.ofNat Li.v) (Int.ofNat Lk.v)) (qao ?_ ?_) rfl (by simp [mb2St,mkSt,mrh,LN.v]) ?_ ?_
      ·simp [leT,mb2St,mkSt,vi,vb,LN.v]
      ·simp [leH,mb2St,mkSt,mrh,LN.v,List.range,List.range.loop]
      ·exact ⟨κ,Int.ofNat Lk.v,by rw [hw]; rfl,by omega,Nat.le_refl _,rfl⟩
      ·rintro m2 s2 ⟨j,J,hJ,hm2,hkj,hs2⟩
       have Lj:LN j:=trivial
       have hjN:j < N:=by omega
       have l3:=k1 j hjN
       by_cases hj:j=l
       ·have hcj:=fun x h1 h2 (h3:x < m)=>hc j hkj (by omega) x h1 h2 (.inr h3)
        clear hc
        subst hj
        obtain rfl | rfl | rfl:j=0 ∨ j=1 ∨ j=2:=by omega
        all_goals first | (exfalso; omega) | skip
        all_goals
         subst hJ
         subst hs2
         cbv
         refine bT l3 ?_
         cbv
         refine loopZR ccOk mixed hS (fun (m0:Nat) s'=>∃ (x:Nat) (M:Int),M=x/\m0+x=m/\κ<=x/\s'=mb3St Ln.v X (Int.ofNat Lk.v) (Int.ofNat Li.v) (Int.ofNat Lj.v) M) (n:=m - κ) (s0:=mb3St Ln.v X (Int.ofNat Lk.v) (Int.ofNat Li.v) (Int.ofNat Lj.v) (Int.ofNat Lk.v)) (qao ?_ ?_) rfl (by simp [mb3St,mkSt,mrh,LN.v]) ?_ ?_
         ·simp [leT,mb3St,mkSt,vi,vb,LN.v]
         ·simp [leH,mb3St,mkSt,mrh,LN.v,List.range,List.range.loop]
         ·exact ⟨κ,Int.ofNat Lk.v,by rw [hw]; rfl,by omega,by omega,rfl⟩
         ·rintro m3 s3 ⟨x,M,hM,hm3,hkx,hs3⟩
          have Lx:LN x:=trivial
          have hxN:x < N:=by omega
          have l4:=k1 x hxN
          have g1:=c1 x hxN
          have g2:=c2 x
          by_cases hx:x=m
          ·clear hcj
           have u2:zk (X Lj.v) x=some [.v (.bool s0),.lst false r0,.v (.bool t0),.lst false p0]:=by rw [hS.nth,hx]; exact u0
           simp only [LN.v] at u2
           have hg:=c1 Lj.v (by have:=hjN; exact this)
           have hg2:=c2 Lj.v
           simp only [LN.v] at hg hg2
           subst hx
           have lXj:=lX Lj.v hjN
           have lXx:=lX x hxN
           simp only [LN.v] at lXj
           obtain rfl | rfl | rfl:x=1 ∨ x=2 ∨ x=3:=by omega
           all_goals first | (exfalso; omega) | skip
           all_goals
            as_aux_lemma=>
             subst hM
             subst hs3
             cbv
             refine bT l4 (nd g1 ?_)
             simp only [g2,u2]
             cbv
             refine ⟨_,hS.call (cs0),?_⟩
             cbv
             refine bF (e2) ?_
             refine ⟨_,hS.call (cw),?_⟩
             cbv
             refine nd (f _ lXj) (nd (f _ lXx) ?_)
             simp only [pt _ lXj,pt _ lXx]
             refine ⟨_,hS.call (csub),?_⟩
             cbv
             refine nd ((gq _ lXP)) ?_
             refine nd ((gq _ lXx)) ?_
             simp only [sg1 _ _ lXj lXP,sg1 _ _ lXx lXx]
             cbv
             refine loopZR ccOk mixed hS (fun (m0:Nat) s'=>∃ (q:Nat) (Q:Int) (Z:Nat->Abs.Rows),Q=q/\m0+q=N/\(∀ b,b < N->Z b=if b < q then Y1 b else XX b)/\s'=mb4St Ln.v Z (Int.ofNat Lk.v) (Int.ofNat Li.v) (Int.ofNat Lj.v) (Int.ofNat Lx.v) Q) (n:=N) (s0:=mb4St Ln.v XX (Int.ofNat Lk.v) (Int.ofNat Li.v) (Int.ofNat Lj.v) (Int.ofNat Lx.v) 0) (qao ?_ ?_) rfl (by simp [mb4St,mkSt,mrh,LN.v]) ?_ ?_
             ·simp [leT,mb4St,mkSt,vi,vb,LN.v]
             ·simp [leH,mb4St,mkSt,mrh,LN.v,List.range,List.range.loop,hXX]
             ·exact ⟨0,0,_,rfl,by omega,fun b _=>by rw [if_neg (show ¬b < 0 by omega)],rfl⟩
             ·rintro m4 s4 ⟨q,Q,Z,hQ,hm4,hZ,hs4⟩
              have Lq:LN q:=trivial
              by_cases hqN:q < N
              ·have l5:=k1 q hqN
               have Zq:Z q=XX q:=by rw [hZ q hqN,if_neg (by omega)]
               obtain ⟨s,t,s',t',s3,t3,r,p,r',p',r3,p3,y1,y2,ca,y3⟩:=hrow2 q (by omega)
               rw [<- Zq] at y1 y2 y3
               have x1:zk (Z q) Lj.v=some [.v (.bool s),.lst false r,.v (.bool t),.lst false p]:=by rw [hS.nth]; exact y1
               have x2:zk (Z q) Lx.v=some [.v (.bool s'),.lst false r',.v (.bool t'),.lst false p']:=by rw [hS.nth]; exact y2
               have x3:zl (Z q) Lj.v [.v (.bool s3),.lst false r3,.v (.bool t3),.lst false p3]=Y1 q:=by rw [hS.setr]; exact y3
               have hmm4:m4 - 1 < m4:=by omega
               have hnx4:∃ (q3:Nat) (Q3:Int) (Z3:Nat->Abs.Rows),Q3=q3/\(m4 - 1)+q3=N/\(∀ b,b < N->Z3 b=if b < q3 then Y1 b else XX b)/\mb4St Ln.v (fun b=>if b=Lq.v then Y1 Lq.v else Z b) (Int.ofNat Lk.v) (Int.ofNat Li.v) (Int.ofNat Lj.v) (Int.ofNat Lx.v) (Int.ofNat (Lq.v+1))=mb4St Ln.v Z3 (Int.ofNat Lk.v) (Int.ofNat Li.v) (Int.ofNat Lj.v) (Int.ofNat Lx.v) Q3:=⟨q+1,Int.ofNat (q+1),_,rfl,by omega,fun b hb=>by
                show (if b=q then Y1 q else Z b)=_
                by_cases h:b=q
                ·rw [if_pos h,if_pos (by omega),h]
                ·rw [if_neg h,hZ b hb]
                 by_cases h2:b < q
                 ·rw [if_pos h2,if_pos (by omega)]
                 ·rw [if_neg h2,if_neg (by omega)],rfl⟩
               simp only [LN.v] at x1 x2 x3
               clear hrow2 hZ y1 y2 y3 Zq
               obtain rfl | rfl | rfl | rfl:q=0 ∨ q=1 ∨ q=2 ∨ q=3:=by omega
               all_goals first | (exfalso; omega) | skip
               all_goals
                subst hQ
                subst hs4
                cbv
                refine bT l5 (nd hg ?_)
                simp only [hg2,x1]
                cbv
                refine nd g1 ?_
                simp only [g2,x2]
                cbv
                refine ⟨_,hS.call (ca),?_⟩
                cbv
                refine nd hg ?_
                simp only [hg2,x1]
                cbv
                simp only [sr4,x3]
                repeat (conv in (ST.toSt _)=>cbv)
                refine againR [] (s':=mb4St Ln.v (fun b=>if b=Lq.v then Y1 Lq.v else Z b) (Int.ofNat Lk.v) (Int.ofNat Li.v) (Int.ofNat Lj.v) (Int.ofNat Lx.v) (Int.ofNat (Lq.v+1))) (k:=m4 - 1) ?_ ?_ ?_ ?_ rfl ?_ hmm4 hnx4
                ·simp [leTR,mb4St,mkSt,vi,vb,AV.ren,AV.noTup,Cell.ren,renF,LN.v]
                ·simp [leHR,mb4St,mkSt,Abs.look,renF,Blk.ren,Cell.ren,mrh,LN.v,List.range,List.range.loop]
                ·simp [liveR,mb4St,mkSt,renF,mrh,LN.v,List.range,List.range.loop]
                ·simp
                ·simp [mb4St,mkSt,mrh,LN.v]
              ·obtain rfl:q=N:=by omega
               have hs5:s4=mb4St Ln.v Y1 (Int.ofNat Lk.v) (Int.ofNat Li.v) (Int.ofNat Lj.v) (Int.ofNat Lx.v) Q:=by
                rw [hs4]
                unfold mb4St
                rw [mrh_congr fun b hb=>by rw [hZ b (by omega),if_pos (by omega)]]
               clear hrow2 hZ hs4
               subst hN
               subst hQ
               subst hs5
               cbv
               refine bF k2 ?_
               cbv
               refine ⟨_,hS.hcall crec,?_⟩
               cbv
               refine endR hG [] ?_ ?_ ?_ ?_
               ·simp [leTR,vb,AV.ren,AV.noTup,Cell.ren]
               ·simp [leHR,Abs.look,renF,Blk.ren,Cell.ren,mrp,List.range,List.range.loop]
               ·simp [liveR,renF,mrp,List.range,List.range.loop]
               ·simp
          ·obtain ⟨s,t,r,p,u,cs⟩:=hcj x hkx hxN (by omega)
           have u2:zk (X Lj.v) x=some [.v (.bool s),.lst false r,.v (.bool t),.lst false p]:=by rw [hS.nth]; exact u
           simp only [LN.v] at u2
           have hnx3:∃ (j3:Nat) (J3:Int),J3=j3/\(m3 - 1)+j3=m/\κ<=j3/\mb3St Ln.v X (Int.ofNat Lk.v) (Int.ofNat Li.v) (Int.ofNat Lj.v) (Int.ofNat (Lx.v+1))=mb3St Ln.v X (Int.ofNat Lk.v) (Int.ofNat Li.v) (Int.ofNat Lj.v) J3:=⟨x+1,Int.ofNat (x+1),rfl,by omega,by omega,rfl⟩
           have hmm3:m3 - 1 < m3:=by omega
           clear hcj u hrow2
           obtain rfl | rfl | rfl:x=0 ∨ x=1 ∨ x=2:=by omega
           all_goals first | (exfalso; omega) | skip
           all_goals
            as_aux_lemma=>
             subst hM
             subst hs3
             cbv
             refine bT l4 (nd g1 ?_)
             simp only [g2,u2]
             cbv
             refine ⟨_,hS.call (cs),?_⟩
             cbv
             refine bT (e1) ?_
             repeat (conv in (ST.toSt _)=>cbv)
             refine againR [] (s':=mb3St Ln.v X (Int.ofNat Lk.v) (Int.ofNat Li.v) (Int.ofNat Lj.v) (Int.ofNat (Lx.v+1))) (k:=m3 - 1) ?_ ?_ ?_ ?_ rfl (by simp [mb3St,mkSt,mrh,LN.v]) hmm3 hnx3
             ·simp [leTR,mb3St,mkSt,vi,vb,AV.ren,AV.noTup,Cell.ren,renF,LN.v]
             ·simp [leHR,mb3St,mkSt,Abs.look,renF,Blk.ren,Cell.ren,mrh,LN.v,List.range,List.range.loop]
             ·simp [liveR,mb3St,mkSt,renF,mrh,LN.v,List.range,List.range.loop]
             ·simp
       ·have hjl:j < l:=by omega
        have hnx:∃ (j3:Nat) (J3:Int),J3=j3/\(m2 - 1)+j3=l/\κ<=j3/\mb2St Ln.v X (Int.ofNat Lk.v) (Int.ofNat Li.v) (Int.ofNat (Lj.v+1))=mb2St Ln.v X (Int.ofNat Lk.v) (Int.ofNat Li.v) J3:=⟨j+1,Int.ofNat (j+1),rfl,by omega,by omega,rfl⟩
        have hmm:m2 - 1 < m2:=by omega
        have hcj:=fun x h1 h2=>hc j hkj (by omega) x h1 h2 (.inl hjl)
        clear hc hrow2 u0
        obtain rfl | rfl:j=0 ∨ j=1:=by omega
        all_goals first | (exfalso; omega) | skip
        all_goals
         subst hJ
         subst hs2
         cbv
         refine bT l3 ?_
         cbv
         apply hideP (L:=L) True
         ·intro Q' hq hret
          refine loopZR ccOk mixed hS (fun (m:Nat) s'=>∃ (x:Nat) (M:Int),M=x/\m+x=N/\κ<=x/\s'=mb3St Ln.v X (Int.ofNat Lk.v) (Int.ofNat Li.v) (Int.ofNat Lj.v) M) (n:=N - κ) (s0:=mb3St Ln.v X (Int.ofNat Lk.v) (Int.ofNat Li.v) (Int.ofNat Lj.v) (Int.ofNat Lk.v)) (qao ?_ ?_) rfl (by simp [mb3St,mkSt,mrh,LN.v]) ?_ ?_
          ·simp [leT,mb3St,mkSt,vi,vb,LN.v]
          ·simp [leH,mb3St,mkSt,mrh,LN.v,List.range,List.range.loop]
          ·exact ⟨κ,Int.ofNat Lk.v,by rw [hw]; rfl,by omega,Nat.le_refl _,rfl⟩
          ·rintro m3 s3 ⟨x,M,hM,hm3,hkx,hs3⟩
           have Lx:LN x:=trivial
           by_cases hx:x=N
           ·have l4:=k2
            rw [<- hx] at l4
            obtain rfl | rfl | rfl:x=2 ∨ x=3 ∨ x=4:=by omega
            all_goals first | (exfalso; omega) | skip
            all_goals
             as_aux_lemma=>
              subst hM
              subst hs3
              cbv
              refine bF l4 ?_
              exact hq trivial
           ·have hxN:x < N:=by omega
            have l4:=k1 x hxN
            have g1:=c1 x hxN
            have g2:=c2 x
            obtain ⟨s,t,r,p,u,cs⟩:=hcj x hkx hxN
            have u2:zk (X Lj.v) x=some [.v (.bool s),.lst false r,.v (.bool t),.lst false p]:=by rw [hS.nth]; exact u
            simp only [LN.v] at u2
            have hnx3:∃ (j3:Nat) (J3:Int),J3=j3/\(m3 - 1)+j3=N/\κ<=j3/\mb3St Ln.v X (Int.ofNat Lk.v) (Int.ofNat Li.v) (Int.ofNat Lj.v) (Int.ofNat (Lx.v+1))=mb3St Ln.v X (Int.ofNat Lk.v) (Int.ofNat Li.v) (Int.ofNat Lj.v) J3:=⟨x+1,Int.ofNat (x+1),rfl,by omega,by omega,rfl⟩
            have hmm3:m3 - 1 < m3:=by omega
            clear hcj hq hret u hnx
            obtain rfl | rfl | rfl | rfl:x=0 ∨ x=1 ∨ x=2 ∨ x=3:=by omega
            all_goals first | (exfalso; omega) | skip
            all_goals
             as_aux_lemma=>
              subst hM
              subst hs3
              cbv
              refine bT l4 (nd g1 ?_)
              simp only [g2,u2]
              cbv
              refine ⟨_,hS.call (cs),?_⟩
              cbv
              refine bT (e1) ?_
              repeat (conv in (ST.toSt _)=>cbv)
              refine againR [] (s':=mb3St Ln.v X (Int.ofNat Lk.v) (Int.ofNat Li.v) (Int.ofNat Lj.v) (Int.ofNat (Lx.v+1))) (k:=m3 - 1) ?_ ?_ ?_ ?_ rfl (by simp [mb3St,mkSt,mrh,LN.v]) hmm3 hnx3
              ·simp [leTR,mb3St,mkSt,vi,vb,AV.ren,AV.noTup,Cell.ren,renF,LN.v]
              ·simp [leHR,mb3St,mkSt,Abs.look,renF,Blk.ren,Cell.ren,mrh,LN.v,List.range,List.range.loop]
              ·simp [liveR,mb3St,mkSt,renF,mrh,LN.v,List.range,List.range.loop]
              ·simp
         ·intro _
          cbv
          refine againR [] (s':=mb2St Ln.v X (Int.ofNat Lk.v) (Int.ofNat Li.v) (Int.ofNat (Lj.v+1))) (k:=m2 - 1) ?_ ?_ ?_ ?_ rfl (by simp [mb2St,mkSt,mrh,LN.v]) hmm hnx
          ·simp [leTR,mb2St,mkSt,vi,vb,AV.ren,AV.noTup,Cell.ren,renF,LN.v]
          ·simp [leHR,mb2St,mkSt,Abs.look,renF,Blk.ren,Cell.ren,mrh,LN.v,List.range,List.range.loop]
          ·simp [liveR,mb2St,mkSt,renF,mrh,LN.v,List.range,List.range.loop]
          ·simp
    ·have hiN:i < N:=by omega
     have l1:=k1 i hiN
     have g1:=c1 i hiN
     have g2:=c2 i
     obtain ⟨s,t,r,p,u,cs⟩:=hcd i hki hiN
     have u2:zk (X i) i=some [.v (.bool s),.lst false r,.v (.bool t),.lst false p]:=by rw [hS.nth]; exact u
     have hmm:m1 - 1 < m1:=by omega
     have hnx:∃ (i2:Nat) (I2:Int),I2=i2/\(m1 - 1)+i2=N/\κ<=i2/\ms1St Ln.v X (Int.ofNat Lk.v) (Int.ofNat (Li.v+1))=ms1St Ln.v X (Int.ofNat Lk.v) I2:=⟨i+1,Int.ofNat (i+1),rfl,by omega,by omega,rfl⟩
     clear hc hcd u hrow2 u0
     obtain rfl | rfl | rfl | rfl:i=0 ∨ i=1 ∨ i=2 ∨ i=3:=by omega
     all_goals first | (exfalso; omega) | skip
     all_goals
      subst hI
      subst hs1
      cbv
      refine bT l1 (nd g1 ?_)
      simp only [g2,u2]
      cbv
      refine ⟨_,hS.call (cs),?_⟩
      cbv
      refine bF (e0) ?_
      repeat (conv in (ST.toSt _)=>cbv)
      refine againR [] (s':=ms1St Ln.v X (Int.ofNat Lk.v) (Int.ofNat (Li.v+1))) (k:=m1 - 1) ?_ ?_ ?_ ?_ rfl (by simp [ms1St,mkSt,mrh,LN.v]) hmm hnx
      ·simp [leTR,ms1St,mkSt,vi,vb,AV.ren,AV.noTup,Cell.ren,renF,LN.v]
      ·simp [leHR,ms1St,mkSt,Abs.look,renF,Blk.ren,Cell.ren,mrh,LN.v,List.range,List.range.loop]
      ·simp [liveR,ms1St,mkSt,renF,mrh,LN.v,List.range,List.range.loop]
      ·simp
end Go.Proofs.YtjfmkcmepdedaaaGreat
end
